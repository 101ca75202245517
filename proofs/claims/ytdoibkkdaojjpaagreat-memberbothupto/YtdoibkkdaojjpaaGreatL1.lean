/-
 MemberBoth says true for all arguments that together are of bulk at most 1048576, and they read behind the call as they read before: for every such argument, without a condition.
-/
import Derived.Test.YtdoibkkdaojjpaaGreatRows
import Derived.Test.YtdoibkkdaojjpaaGreatK1
import Derived.Test.YtdoibkkdaojjpaaGreatG1
set_option linter.all false
namespace Go.VE
instance:bX Var where
 wt x:=bX.wt x.name+bX.wt x.init_+1
 ok x:=bX.ok x.name/\bX.ok x.init_/\True
instance:bX Assign where
 wt x:=bX.wt x.var+bX.wt x.value+1
 ok x:=bX.ok x.var/\bX.ok x.value/\True
instance:bX Event where
 wt x:=bX.wt x.kind+bX.wt x.peer+bX.wt x.message+bX.wt x.time+bX.wt x.assign+1
 ok x:=bX.ok x.kind/\bX.ok x.peer/\bX.ok x.message/\bX.ok x.time/\bX.ok x.assign/\True
instance:bX bt where
 wt x:=bX.wt x.name+bX.wt x.vars+bX.wt x.events+1
 ok x:=bX.ok x.name/\bX.ok x.vars/\bX.ok x.events/\True
instance:bX Trace where
 wt x:=bX.wt x.procs+1
 ok x:=bX.ok x.procs/\True
end Go.VE
namespace Go.VE.YtdoibkkdaojjpaaGreat
open Go.Proofs Go.Proofs.YtdoibkkdaojjpaaGreat
instance Vl:Reads Tryz.prog 9 ByteArray:=Reads.str Tryz.underlying9 (by kernel_rfl)
instance Vo:Reads Tryz.prog 3 Int:=Reads.int Tryz.underlying3 (by kernel_rfl)
instance U6:Reads Tryz.prog 170 Var:=by
 refine Reads.st Tryz.underlying170 (by kernel_rfl) rfl ?_
 intro H enc w base spare held fuel cs l hl h;simp only[List.mapM_cons,List.mapM_nil,Option.pure_def,Option.bind_eq_bind,ζg,ζa]at h;obtain⟨x0,h0,ys0,⟨x1,h1,ys1,rfl,rfl⟩,rfl⟩:=h;obtain⟨a0,c0,k0,b0⟩:=Reads.rd (P:=Tryz.prog) (t:=9) (α:=ByteArray) (d:=x0.1) (ps:=x0.2) h0;rw[show Tryz.prog.cellsOf 9=1 from by kernel_rfl]at c0
 obtain⟨a1,c1,k1,b1⟩:=Reads.rd (P:=Tryz.prog) (t:=3) (α:=Int) (d:=x1.1) (ps:=x1.2) h1;rw[show Tryz.prog.cellsOf 3=1 from by kernel_rfl]at c1
 refine⟨⟨a0,a1⟩,eM.fin (n:=2) (eM.seg (o:=1) (n:=1) (eM.seg (o:=0) (n:=1) (show eM (snap w) [] (cs.take 0)from by simpa using eM.nil) c0) c1) hl,⟨k0,k1,trivial⟩,λb bo=>?_⟩
 have w0:=b0 b bo;have w1:=b1 b bo;show bX.wt a0+bX.wt a1+1<=_;simp only[List.map_cons,List.map_nil,List.sum_cons,List.sum_nil];omega
instance Vk:Reads Tryz.prog 85 (Sl Var):=Reads.sl (e:=170) Tryz.underlying85 (by kernel_rfl) (by decide)
instance U4:Reads Tryz.prog 173 Assign:=by
 refine Reads.st Tryz.underlying173 (by kernel_rfl) rfl ?_
 intro H enc w base spare held fuel cs l hl h;simp only[List.mapM_cons,List.mapM_nil,Option.pure_def,Option.bind_eq_bind,ζg,ζa]at h;obtain⟨x0,h0,ys0,⟨x1,h1,ys1,rfl,rfl⟩,rfl⟩:=h;obtain⟨a0,c0,k0,b0⟩:=Reads.rd (P:=Tryz.prog) (t:=3) (α:=Int) (d:=x0.1) (ps:=x0.2) h0;rw[show Tryz.prog.cellsOf 3=1 from by kernel_rfl]at c0
 obtain⟨a1,c1,k1,b1⟩:=Reads.rd (P:=Tryz.prog) (t:=3) (α:=Int) (d:=x1.1) (ps:=x1.2) h1;rw[show Tryz.prog.cellsOf 3=1 from by kernel_rfl]at c1
 refine⟨⟨a0,a1⟩,eM.fin (n:=2) (eM.seg (o:=1) (n:=1) (eM.seg (o:=0) (n:=1) (show eM (snap w) [] (cs.take 0)from by simpa using eM.nil) c0) c1) hl,⟨k0,k1,trivial⟩,λb bo=>?_⟩
 have w0:=b0 b bo;have w1:=b1 b bo;show bX.wt a0+bX.wt a1+1<=_;simp only[List.map_cons,List.map_nil,List.sum_cons,List.sum_nil];omega
instance U_:Reads Tryz.prog 90 (Sl Assign):=Reads.sl (e:=173) Tryz.underlying90 (by kernel_rfl) (by decide)
instance Vh:Reads Tryz.prog 92 Event:=by
 refine Reads.st Tryz.underlying92 (by kernel_rfl) rfl ?_
 intro H enc w base spare held fuel cs l hl h;simp only[List.mapM_cons,List.mapM_nil,Option.pure_def,Option.bind_eq_bind,ζg,ζa]at h;obtain⟨x0,h0,ys0,⟨x1,h1,ys1,⟨x2,h2,ys2,⟨x3,h3,ys3,⟨x4,h4,ys4,rfl,rfl⟩,rfl⟩,rfl⟩,rfl⟩,rfl⟩:=h;obtain⟨a0,c0,k0,b0⟩:=Reads.rd (P:=Tryz.prog) (t:=3) (α:=Int) (d:=x0.1) (ps:=x0.2) h0;rw[show Tryz.prog.cellsOf 3=1 from by kernel_rfl]at c0
 obtain⟨a1,c1,k1,b1⟩:=Reads.rd (P:=Tryz.prog) (t:=3) (α:=Int) (d:=x1.1) (ps:=x1.2) h1;rw[show Tryz.prog.cellsOf 3=1 from by kernel_rfl]at c1
 obtain⟨a2,c2,k2,b2⟩:=Reads.rd (P:=Tryz.prog) (t:=3) (α:=Int) (d:=x2.1) (ps:=x2.2) h2;rw[show Tryz.prog.cellsOf 3=1 from by kernel_rfl]at c2
 obtain⟨a3,c3,k3,b3⟩:=Reads.rd (P:=Tryz.prog) (t:=3) (α:=Int) (d:=x3.1) (ps:=x3.2) h3;rw[show Tryz.prog.cellsOf 3=1 from by kernel_rfl]at c3
 obtain⟨a4,c4,k4,b4⟩:=Reads.rd (P:=Tryz.prog) (t:=90) (α:=(Sl Assign)) (d:=x4.1) (ps:=x4.2) h4;rw[show Tryz.prog.cellsOf 90=1 from by kernel_rfl]at c4
 refine⟨⟨a0,a1,a2,a3,a4⟩,eM.fin (n:=5) (eM.seg (o:=4) (n:=1) (eM.seg (o:=3) (n:=1) (eM.seg (o:=2) (n:=1) (eM.seg (o:=1) (n:=1) (eM.seg (o:=0) (n:=1) (show eM (snap w) [] (cs.take 0)from by simpa using eM.nil) c0) c1) c2) c3) c4) hl,⟨k0,k1,k2,k3,k4,trivial⟩,λb bo=>?_⟩
 have w0:=b0 b bo;have w1:=b1 b bo;have w2:=b2 b bo;have w3:=b3 b bo;have w4:=b4 b bo;show bX.wt a0+bX.wt a1+bX.wt a2+bX.wt a3+bX.wt a4+1<=_;simp only[List.map_cons,List.map_nil,List.sum_cons,List.sum_nil];omega
instance U9:Reads Tryz.prog 86 (Sl Event):=Reads.sl (e:=92) Tryz.underlying86 (by kernel_rfl) (by decide)
instance Vc:Reads Tryz.prog 88 bt:=by
 refine Reads.st Tryz.underlying88 (by kernel_rfl) rfl ?_
 intro H enc w base spare held fuel cs l hl h;simp only[List.mapM_cons,List.mapM_nil,Option.pure_def,Option.bind_eq_bind,ζg,ζa]at h;obtain⟨x0,h0,ys0,⟨x1,h1,ys1,⟨x2,h2,ys2,rfl,rfl⟩,rfl⟩,rfl⟩:=h;obtain⟨a0,c0,k0,b0⟩:=Reads.rd (P:=Tryz.prog) (t:=9) (α:=ByteArray) (d:=x0.1) (ps:=x0.2) h0;rw[show Tryz.prog.cellsOf 9=1 from by kernel_rfl]at c0
 obtain⟨a1,c1,k1,b1⟩:=Reads.rd (P:=Tryz.prog) (t:=85) (α:=(Sl Var)) (d:=x1.1) (ps:=x1.2) h1;rw[show Tryz.prog.cellsOf 85=1 from by kernel_rfl]at c1
 obtain⟨a2,c2,k2,b2⟩:=Reads.rd (P:=Tryz.prog) (t:=86) (α:=(Sl Event)) (d:=x2.1) (ps:=x2.2) h2;rw[show Tryz.prog.cellsOf 86=1 from by kernel_rfl]at c2
 refine⟨⟨a0,a1,a2⟩,eM.fin (n:=3) (eM.seg (o:=2) (n:=1) (eM.seg (o:=1) (n:=1) (eM.seg (o:=0) (n:=1) (show eM (snap w) [] (cs.take 0)from by simpa using eM.nil) c0) c1) c2) hl,⟨k0,k1,k2,trivial⟩,λb bo=>?_⟩
 have w0:=b0 b bo;have w1:=b1 b bo;have w2:=b2 b bo;show bX.wt a0+bX.wt a1+bX.wt a2+1<=_;simp only[List.map_cons,List.map_nil,List.sum_cons,List.sum_nil];omega
instance Vf:Reads Tryz.prog 22 (Sl bt):=Reads.sl (e:=88) Tryz.underlying22 (by kernel_rfl) (by decide)
instance Vi:Reads Tryz.prog 24 Trace:=by
 refine Reads.st Tryz.underlying24 (by kernel_rfl) rfl ?_
 intro H enc w base spare held fuel cs l hl h;simp only[List.mapM_cons,List.mapM_nil,Option.pure_def,Option.bind_eq_bind,ζg,ζa]at h;obtain⟨x0,h0,ys0,rfl,rfl⟩:=h;obtain⟨a0,c0,k0,b0⟩:=Reads.rd (P:=Tryz.prog) (t:=22) (α:=(Sl bt)) (d:=x0.1) (ps:=x0.2) h0;rw[show Tryz.prog.cellsOf 22=1 from by kernel_rfl]at c0
 refine⟨⟨a0⟩,eM.fin (n:=1) (eM.seg (o:=0) (n:=1) (show eM (snap w) [] (cs.take 0)from by simpa using eM.nil) c0) hl,⟨k0,trivial⟩,λb bo=>?_⟩
 have w0:=b0 b bo;show bX.wt a0+1<=_;simp only[List.map_cons,List.map_nil,List.sum_cons,List.sum_nil];omega
instance Vn:Reads Tryz.prog 4 Bool:=Reads.bool Tryz.underlying4 (by kernel_rfl)
instance Vb:Reads Tryz.prog 25 (Sl Bool):=Reads.sl (e:=4) Tryz.underlying25 (by kernel_rfl) (by decide)
end Go.VE.YtdoibkkdaojjpaaGreat
namespace Go.VE
end Go.VE
namespace Go.VE
abbrev Gb {α:Type} (m:Option α):Prop:=Wp m λ_=>True
theorem Gb.get {α:Type} {m:Option α} (h:Gb m):∃a,m=some a:=let ⟨a,e,_⟩:=h;⟨a,e⟩
theorem Gb.ok {m:Option Bool} (h:Gb m):m=some (m.getD false):=by obtain⟨a,e,_⟩:=h;rw[e];rfl
def Small (t:Trace):Prop:=t.procs.l.length<1073741824/\∀p∈t.procs.l,p.events.l.length<1073741824/\p.vars.l.length<1073741824/\p.name.size<1073741824/\(∀v∈p.vars.l,v.name.size<1073741824)/\∀e∈p.events.l,e.assign.l.length<1073741824
section
theorem Im {s:Sl Event} {p:Event->Option Bool} {f:Event->Bool} (hp:∀x∈s.l,p x=some (f x)) (hl:s.l.length<1073741824):dX s p=some (place f s.l):=
 ud hp (by omega) (λi=>rfl)
theorem Ji {s:Sl bt} {p:bt->Option Bool} {f:bt->Bool} (hp:∀x∈s.l,p x=some (f x)) (hl:s.l.length<1073741824):eo s p=some (place f s.l):=
 ud hp (by omega) (λi=>rfl)
theorem Ly {s:Sl Var} {p:Var->Option Bool} {f:Var->Bool} (hp:∀x∈s.l,p x=some (f x)) (hl:s.l.length<1073741824):eU s p=some (place f s.l):=
 ud hp (by omega) (λi=>rfl)
theorem FP {s:Sl Assign} {p:Assign->Option Bool} {f:Assign->Bool} (hp:∀x∈s.l,p x=some (f x)) (hl:s.l.length<1073741824):dN s p=some (place f s.l):=
 ud hp (by omega) (λi=>rfl)
theorem wJ {s:Sl Event} {p:Event->Option Bool} {f:Event->Bool} (hp:∀x∈s.l,p x=some (f x)) (hl:s.l.length<1073741824):fI s p=some (s.l.any f):=by
 unfold fI;rw[Im hp hl,ζb,uo]
theorem EN {s:Sl bt} {p:bt->Option Bool} {f:bt->Bool} (hp:∀x∈s.l,p x=some (f x)) (hl:s.l.length<1073741824):fU s p=some (s.l.any f):=by
 unfold fU;rw[Ji hp hl,ζb,uo]
theorem FE {s:Sl Var} {p:Var->Option Bool} {f:Var->Bool} (hp:∀x∈s.l,p x=some (f x)) (hl:s.l.length<1073741824):gp s p=some (s.l.any f):=by
 unfold gp;rw[Ly hp hl,ζb,uo]
theorem Bt {s:Sl Assign} {p:Assign->Option Bool} {f:Assign->Bool} (hp:∀x∈s.l,p x=some (f x)) (hl:s.l.length<1073741824):eX s p=some (s.l.any f):=by
 unfold eX;rw[FP hp hl,ζb,uo]
theorem nu (x lo hi:Int):lF x lo hi=some (decide (lo<=x)&&decide (x<=hi)):=by
 unfold lF;rw[ko];rfl
theorem H7 {s:ByteArray} {i:Nat} (h:i<s.size):∃x,iV s (i:Int)=some x:=by
 unfold iV;rw[if_pos (by omega)]
 exact⟨_,by rw[show (s[(i:Int).toNat]?)=some s[i]from by simp[h]];rfl⟩
def jh (n:Nat) (p:Int) (e:Event):Prop:=e.kind=1\/((e.kind=2\/e.kind=3)/\0<=e.peer/\e.peer<n/\e.peer≠p/\0<=e.message/\e.message<=199)
end
end Go.VE
namespace Go.VE
def lN (t:Trace) (p k:Nat) (e:Event):Prop:=∃P,t.procs.l[p]? = some P/\P.events.l[k]? = some e
theorem rO {p:Int} {x:aa×Event}:∀{es:List Event} {j:Int},x∈gm p j es↔∃k:Nat,es[k]? = some x.2/\x.1=⟨p,j+k+1⟩
 | [],j=>by simp[gm]
 | e::es,j=>by
  simp only[gm,List.mem_cons,rO (es:=es)];constructor
  .rintro (rfl|⟨k,h1,h2⟩)
   .exact⟨0,rfl,by simp⟩
   .exact⟨k+1,by simpa using h1,by rw[h2];congr 1;push_cast;omega⟩
  .rintro⟨k,h1,h2⟩
   cases k with
   | zero=>
    simp at h1;exact .inl (by obtain⟨a,b⟩:=x;simp only at h1 h2;rw[h1,h2];simp)
   | succ k=>exact .inr ⟨k,by simpa using h1,by rw[h2];congr 1;push_cast;omega⟩
theorem sK {x:aa×Event}:∀{ps:List bt} {i:Int},x∈dS i ps↔∃(a k:Nat) (P:bt),ps[a]? = some P/\P.events.l[k]? = some x.2/\x.1=⟨i+a,k+1⟩
 | [],i=>by simp[dS]
 | p::ps,i=>by
  simp only[dS,List.mem_append,rO,sK (ps:=ps)];constructor
  .rintro (⟨k,h1,h2⟩|⟨a,k,P,h1,h2,h3⟩)
   .exact⟨0,k,p,rfl,h1,by rw[h2];simp⟩
   .exact⟨a+1,k,P,by simpa using h1,h2,by rw[h3];congr 1;push_cast;omega⟩
  .rintro⟨a,k,P,h1,h2,h3⟩
   cases a with
   | zero=>
    simp at h1;subst h1;exact .inl ⟨k,h2,by rw[h3];simp⟩
   | succ a=>exact .inr ⟨a,k,P,by simpa using h1,h2,by rw[h3];congr 1;push_cast;omega⟩
abbrev aT (t:Trace):List (aa×Event):=dS 0 t.procs.l
theorem dg {t:Trace} {x:aa×Event}:x∈aT t↔∃p k:Nat,lN t p k x.2/\x.1=⟨p,k+1⟩:=by
 unfold aT;rw[sK];constructor
 .rintro⟨a,k,P,h1,h2,h3⟩;exact⟨a,k,⟨P,h1,h2⟩,by rw[h3];simp⟩
 .rintro⟨a,k,⟨P,h1,h2⟩,h3⟩;exact⟨a,k,P,h1,h2,by rw[h3];simp⟩
theorem zB {t:Trace} {x y:aa×Event} (hx:x∈aT t) (hy:y∈aT t) (h:x.1=y.1):x=y:=by
 obtain⟨p,k,⟨P,hP,hk⟩,e1⟩:=dg.1 hx;obtain⟨q,j,⟨Q,hQ,hj⟩,e2⟩:=dg.1 hy;obtain⟨a,e⟩:=x;obtain⟨b,f⟩:=y;simp only at *;subst h;rw[e1]at e2;simp only[aa.mk.injEq]at e2;have hpq:p=q:=by omega
 have hkj:k=j:=by omega
 subst hpq hkj;rw[hP]at hQ;cases hQ;rw[hk]at hj;cases hj;rfl
theorem s8 {t:Trace} (hS:Small t):gF t=some (aT t):=by
 unfold gF;rw[if_pos];simp only[Dt,ζh,List.all_eq_true,decide_eq_true_eq];exact⟨by have:=hS.1;omega,λp hp=>by have:=(hS.2 p hp).1;omega⟩
def qI (t:Trace) (p m to:Int):Bool:=match t.procs.l[p.toNat]? with
 | some P=>P.events.l.any λe=>e.kind==2&&e.message==m&&e.peer==to
 | none=>false
theorem Mw {t:Trace} (hS:Small t) {p:Int} (h0:0<=p) (h1:p<t.procs.l.length) (m to:Int):rW t p m to=some (qI t p m to):=by
 unfold rW;have hlt:p.toNat<t.procs.l.length:=by omega
 have hP:=List.getElem_mem hlt;rw[KR h0,ζd hlt,ζb,wJ (f:=λe=>e.kind==2&&e.message==m&&e.peer==to) (λe _=>by
  unfold oF;simp only[ko,ζb]) (hS.2 _ hP).1,ζb]
 unfold qI;rw[ζd hlt]
theorem AR {t:Trace} {p:Nat} {m to:Int}:qI t p m to=true↔∃k e,lN t p k e/\e.kind=2/\e.message=m/\e.peer=to:=by
 unfold qI lN;rw[show ((p:Nat):Int).toNat=p from rfl]
 cases hP:t.procs.l[p]? with
 | none=>simp
 | some P=>
  simp only[List.any_eq_true,ζh,beq_iff_eq,ζa,exists_eq_left'];constructor
  .rintro⟨e,he,h⟩;obtain⟨k,hk⟩:=List.getElem?_of_mem he;exact⟨k,e,hk,h.1.1,h.1.2,h.2⟩
  .rintro⟨k,e,hk,h1,h2,h3⟩;exact⟨e,List.mem_of_getElem? hk,⟨h1,h2⟩,h3⟩
def ag (A:aC 200 aH) (m:Int):aH:=(A.at m).getD default
theorem G7 (A:aC 200 aH) {m:Int} (h0:0<=m) (h1:m<=199):A.at m=some (ag A m):=by
 have:m.toNat<A.l.length:=by rw[A.len];omega
 unfold ag aC.at;rw[if_pos h0,ζd this];rfl
theorem o_ (A:aC 200 aH) {m m':Int} (x:aH) (h0:0<=m) (h1:m<=199) (h2:0<=m'):ag (A.set m x) m'=if m'=m then x else ag A m':=by
 have:m.toNat<A.l.length:=by rw[A.len];omega
 unfold ag aC.at aC.set;simp only[if_pos h2];rw[List.getElem?_set]
 by_cases e:m'=m
 .subst e;simp[this]
 .rw[if_neg (by omega),if_neg e]
theorem JV {m:Int} (h0:0<=m) (h1:m<=199):ag (aC.fZ 200 (⟨⟨0,0⟩,⟨0,0⟩⟩:aH)) m=⟨⟨0,0⟩,⟨0,0⟩⟩:=by
 unfold ag aC.at aC.fZ;simp only[if_pos h0];rw[List.getElem?_replicate,if_pos (by omega)];rfl
structure gu (t:Trace) (its:List (aa×Event)) (A:aC 200 aH):Prop where
 snd:∀x∈its,x.2.kind=2->(ag A x.2.message).from_=x.1
 rcv:∀x∈its,x.2.kind=3->(ag A x.2.message).to_=x.1/\qI t x.2.peer x.2.message x.1.proc=true
 fr:∀m,0<=m->m<=199->(ag A m).from_.index=0\/∃e,((ag A m).from_,e)∈its/\e.kind=2/\e.message=m
 to:∀m,0<=m->m<=199->(ag A m).to_.index=0\/∃e,((ag A m).to_,e)∈its/\e.kind=3/\e.message=m
def Ii (a b:aa×Event):Prop:=a.1.proc<b.1.proc\/a.1.proc=b.1.proc/\a.1.index<b.1.index
theorem Jr {p:Int}:∀{es:List Event} {j:Int},(gm p j es).Pairwise Ii
 | [],_=>List.Pairwise.nil
 | e::es,j=>by
  simp only[gm,List.pairwise_cons];refine⟨λb hb=>?_,Jr⟩
  obtain⟨k,_,h2⟩:=rO.1 hb;refine .inr ⟨by rw[h2],?_⟩
  rw[h2];dsimp only;omega
theorem ES:∀{ps:List bt} {i:Int},(dS i ps).Pairwise Ii
 | [],_=>List.Pairwise.nil
 | P::ps,i=>by
  simp only[dS,List.pairwise_append];refine⟨Jr,ES,λa ha b hb=>.inl ?_⟩
  obtain⟨k,_,h2⟩:=rO.1 ha;obtain⟨c,j,P,_,_,h3⟩:=sK.1 hb;rw[h2,h3];dsimp only;omega
theorem E5 {t:Trace} {k:Nat} {x y:aa×Event} (hx:(aT t)[k]? = some x) (hy:y∈(aT t).take k):y.1≠x.1:=by
 obtain⟨h1,h2⟩:=ζe.1 hx;have hp:((aT t).take k++(aT t).drop k).Pairwise Ii:=by rw[List.take_append_drop];exact ES
 have:=(List.pairwise_append.1 hp).2.2 y hy x (by rw[List.drop_eq_getElem_cons h1,h2];exact List.mem_cons_self ..)
 intro e;unfold Ii at this;rw[e]at this;omega
structure vz (t:Trace):Prop where
 snd:∀x∈aT t,∀y∈aT t,x.2.kind=2->y.2.kind=2->x.2.message=y.2.message->x.1=y.1
 rcv:∀x∈aT t,∀y∈aT t,x.2.kind=3->y.2.kind=3->x.2.message=y.2.message->x.1=y.1
 has:∀x∈aT t,x.2.kind=3->qI t x.2.peer x.2.message x.1.proc=true
theorem gu.Jg {t:Trace} {A:aC 200 aH} (h:gu t (aT t) A):vz t:=
 ⟨λx hx y hy k2 k2' hm=>by rw[<-h.snd x hx k2,<-h.snd y hy k2',hm],λx hx y hy k2 k2' hm=>by rw[<-(h.rcv x hx k2).1,<-(h.rcv y hy k2').1,hm],λx hx k=>(h.rcv x hx k).2⟩
theorem Bm {t:Trace} (hS:Small t) (hF:∀x∈aT t,jh t.procs.l.length x.1.proc x.2):Wp (c_ t) λr=>(r.2.2=0->∃A,r.1=some A/\gu t (aT t) A)/\(vz t->r.2.2=0):=by
 unfold c_ iB;rw[ζb];unfold c_.E1;rw[s8 hS,ζb];refine yp (λk A=>gu t ((aT t).take k) A) ⟨by simp,by simp,λm h0 h1=>.inl (by rw[JV h0 h1]),λm h0 h1=>.inl (by rw[JV h0 h1])⟩ ?_ ?_
 .intro k x A hx hI;have hxm:x∈aT t:=List.mem_of_getElem? hx;have hkl:k<(aT t).length:=(ζe.1 hx).1;have htk:(aT t).take (k+1)=(aT t).take k++[x]:=by rw[List.take_add_one,hx];rfl
  obtain⟨p,j,hat,hid⟩:=dg.1 hxm;have hxi:x.1.index>0:=by rw[hid];show (j:Int)+1>0;omega
  have hf:=hF x hxm;unfold c_.qh;rw[bD];constructor
  .intro hk;have hk2:x.2.kind=2:=by simpa using hk
   have hm:0<=x.2.message/\x.2.message<=199:=by
    rcases hf with h|⟨_,_,_,_,h⟩
    .omega
    .exact h
   rw[G7 A hm.1 hm.2,ζb,bD];refine⟨λhg=>(af _).2 ((af _).2 ⟨λh=>(by cases h),λhp=>?_⟩),λh0=>?_⟩
   .rcases hI.fr _ hm.1 hm.2 with hg'|⟨e,he,hk',hm'⟩
    .simp[hg']at hg
    .exact absurd (hp.snd _ (List.mem_of_mem_take he) x hxm hk' hk2 hm') (E5 hx he)
   have h0:¬(ag A x.2.message).from_.index>0:=by simpa using h0
   rw[ζb,af,htk];have old:∀y∈(aT t).take k,y.2.kind=2->y.2.message≠x.2.message:=λy hy hy2 he=>by
    have:=hI.snd y hy hy2;rw[he]at this;rw[this]at h0;obtain⟨p',j',_,hid'⟩:=dg.1 (List.mem_of_mem_take hy);rw[hid']at h0;exact h0 (by show (j':Int)+1>0;omega)
   have nn:∀y∈(aT t).take k,y.2.kind=2\/y.2.kind=3->0<=y.2.message:=λy hy hy2=>by
    rcases hF y (List.mem_of_mem_take hy)with h|⟨_,_,_,_,h,_⟩
    .omega
    .exact h
   refine⟨λy hy hy2=>?_,λy hy hy3=>?_,λm m0 m1=>?_,λm m0 m1=>?_⟩
   .rcases List.mem_append.1 hy with hy|hy
    .rw[o_ A _ hm.1 hm.2 (nn y hy (.inl hy2)),if_neg (old y hy hy2)];exact hI.snd y hy hy2
    .simp at hy;subst hy;rw[o_ A _ hm.1 hm.2 hm.1,if_pos rfl]
   .rcases List.mem_append.1 hy with hy|hy
    .rw[o_ A _ hm.1 hm.2 (nn y hy (.inr hy3))];have:=hI.rcv y hy hy3;split
     .rename_i e;rw[e]at this;exact⟨this.1,by rw[e];exact this.2⟩
     .exact this
    .simp at hy;subst hy;omega
   .rw[o_ A _ hm.1 hm.2 m0];split
    .rename_i e;exact .inr ⟨x.2,by simp,hk2,e.symm⟩
    .exact(hI.fr m m0 m1).imp (λh=>h) λ⟨e,h1,h2⟩=>⟨e,List.mem_append_left _ h1,h2⟩
   .rw[o_ A _ hm.1 hm.2 m0];have:=(hI.to m m0 m1).imp (λh=>h) λ⟨e,h1,h2⟩=>(⟨e,List.mem_append_left [x] h1,h2⟩:∃e,((ag A m).to_,e)∈(aT t).take k++[x]/\e.kind=3/\e.message=m)
    split
    .rename_i e;subst e;exact this
    .exact this
  .intro hk;have hk2:¬x.2.kind=2:=by simpa using hk
   rw[bD];constructor
   .intro hk;have hk3:x.2.kind=3:=by simpa using hk
    have hm:0<=x.2.message/\x.2.message<=199/\0<=x.2.peer/\x.2.peer<t.procs.l.length:=by
     rcases hf with h|⟨_,h1,h2,_,h3,h4⟩
     .omega
     .exact⟨h3,h4,h1,h2⟩
    rw[G7 A hm.1 hm.2.1,ζb,bD];refine⟨λhg=>(af _).2 ((af _).2 ⟨λh=>(by cases h),λhp=>?_⟩),λh0=>?_⟩
    .rcases hI.to _ hm.1 hm.2.1 with hg'|⟨e,he,hk',hm'⟩
     .simp[hg']at hg
     .exact absurd (hp.rcv _ (List.mem_of_mem_take he) x hxm hk' hk3 hm') (E5 hx he)
    have h0:¬(ag A x.2.message).to_.index>0:=by simpa using h0
    rw[Mw hS hm.2.2.1 hm.2.2.2,ζb,bD];refine⟨λhs=>?_,λhs=>(af _).2 ((af _).2 ⟨λh=>(by cases h),λhp=>by rw[hp.has x hxm hk3]at hs;cases hs⟩)⟩
    rw[ζb,af,htk];have old:∀y∈(aT t).take k,y.2.kind=3->y.2.message≠x.2.message:=λy hy hy2 he=>by
     have:=(hI.rcv y hy hy2).1;rw[he]at this;rw[this]at h0;obtain⟨p',j',_,hid'⟩:=dg.1 (List.mem_of_mem_take hy);rw[hid']at h0;exact h0 (by show (j':Int)+1>0;omega)
    have nn:∀y∈(aT t).take k,y.2.kind=2\/y.2.kind=3->0<=y.2.message:=λy hy hy2=>by
     rcases hF y (List.mem_of_mem_take hy)with h|⟨_,_,_,_,h,_⟩
     .omega
     .exact h
    refine⟨λy hy hy2=>?_,λy hy hy3=>?_,λm m0 m1=>?_,λm m0 m1=>?_⟩
    .rcases List.mem_append.1 hy with hy|hy
     .rw[o_ A _ hm.1 hm.2.1 (nn y hy (.inl hy2))];have:=hI.snd y hy hy2;split
      .rename_i e;rw[e]at this;exact this
      .exact this
     .simp at hy;subst hy;omega
    .rcases List.mem_append.1 hy with hy|hy
     .rw[o_ A _ hm.1 hm.2.1 (nn y hy (.inr hy3)),if_neg (old y hy hy3)];exact hI.rcv y hy hy3
     .simp at hy;subst hy;rw[o_ A _ hm.1 hm.2.1 hm.1,if_pos rfl];exact⟨rfl,hs⟩
    .rw[o_ A _ hm.1 hm.2.1 m0];have:=(hI.fr m m0 m1).imp (λh=>h) λ⟨e,h1,h2⟩=>(⟨e,List.mem_append_left [x] h1,h2⟩:∃e,((ag A m).from_,e)∈(aT t).take k++[x]/\e.kind=2/\e.message=m)
     split
     .rename_i e;subst e;exact this
     .exact this
    .rw[o_ A _ hm.1 hm.2.1 m0];split
     .rename_i e;exact .inr ⟨x.2,by simp,hk3,e.symm⟩
     .exact(hI.to m m0 m1).imp (λh=>h) λ⟨e,h1,h2⟩=>⟨e,List.mem_append_left _ h1,h2⟩
   .intro hk;have hk3:¬x.2.kind=3:=by simpa using hk
    rw[af,htk];refine⟨λy hy hy2=>?_,λy hy hy3=>?_,λm m0 m1=>?_,λm m0 m1=>?_⟩
    .rcases List.mem_append.1 hy with hy|hy
     .exact hI.snd y hy hy2
     .simp at hy;subst hy;exact absurd hy2 hk2
    .rcases List.mem_append.1 hy with hy|hy
     .exact hI.rcv y hy hy3
     .simp at hy;subst hy;exact absurd hy3 hk3
    .exact(hI.fr m m0 m1).imp (λh=>h) λ⟨e,h1,h2⟩=>⟨e,List.mem_append_left _ h1,h2⟩
    .exact(hI.to m m0 m1).imp (λh=>h) λ⟨e,h1,h2⟩=>⟨e,List.mem_append_left _ h1,h2⟩
 .intro A hA;rw[List.take_length]at hA;exact(af _).2 ⟨λ_=>⟨A,rfl,hA⟩,λ_=>rfl⟩
end Go.VE
namespace Go.VE
def gx (f:Nat->Bool) (k n:Nat):Bool:=(List.range' k (n-k)).any f
theorem CU {f:Nat->Bool} {k n:Nat} (h:k<n):gx f k n=(f k||gx f (k+1) n):=by
 unfold gx;rw[show n-k=(n-(k+1))+1 from by omega,List.range'_succ];rfl
theorem K0 {f:Nat->Bool} {k n:Nat} (h:n<=k):gx f k n=false:=by
 unfold gx;rw[show n-k=0 from by omega];rfl
theorem L7 {f:Nat->Bool} {k n:Nat}:gx f k n=true↔∃i,k<=i/\i<n/\f i=true:=by
 unfold gx;rw[List.any_eq_true];constructor
 .rintro⟨i,hi,hf⟩;rw[List.mem_range'_1]at hi;exact⟨i,hi.1,by omega,hf⟩
 .rintro⟨i,h1,h2,hf⟩;exact⟨i,by rw[List.mem_range'_1];omega,hf⟩
theorem BO {step:Int->Option (Fw Int Unit Unit)} {n:Nat} (f:Nat->Bool) (hn:n<9223372036854775807) (h1:∀i:Nat,i<n->step i=some (if f i then .r ()else .n (IntKind.wrap .i64 ((i:Int)+1)))) (h2:step (n:Int)=some (.x ())) :
 ∀m k:Nat,k+m=n->aZ step (k:Int)=some (if gx f k n then .r ()else .x ()):=by
 intro m
 induction m with
 | zero=>
  intro k hk;have:k=n:=by omega
  subst this;rw[gK,h2,K0 (Nat.le_refl _)];rfl
 | succ m ih=>
  intro k hk;rw[gK,h1 k (by omega),CU (by omega)]
  cases hf:f k with
  | true=>rfl
  | false=>
   simp only[Bool.false_eq_true,if_false,ζb,Bool.false_or];rw[bY k (by omega)]
   exact ih (k+1) (by omega)
def mH (g:Nat->Int) (k n:Nat):Int:=match (List.range' k (n-k)).find? λi => !(g i==0)with
 | some i=>g i
 | none=>0
theorem Kx {g:Nat->Int} {k n:Nat} (h:k<n):mH g k n=if g k=0 then mH g (k+1) n else g k:=by
 unfold mH;rw[show n-k=(n-(k+1))+1 from by omega,List.range'_succ,List.find?_cons]
 by_cases h0:g k=0
 .simp[h0]
 .rw[if_neg h0,show (!(g k==0))=true from by simp[h0]]
theorem KK {g:Nat->Int} {k n:Nat} (h:n<=k):mH g k n=0:=by
 unfold mH;rw[show n-k=0 from by omega];rfl
theorem Pa {step:Int->Option (Fw Int Unit Int)} {n:Nat} (g:Nat->Int) (hn:n<9223372036854775807) (h1:∀i:Nat,i<n->step i=some (if g i=0 then .n (IntKind.wrap .i64 ((i:Int)+1))else .r (g i))) (h2:step (n:Int)=some (.x ())) :
 ∀m k:Nat,k+m=n->aZ step (k:Int)=some (if mH g k n=0 then .x ()else .r (mH g k n)):=by
 intro m
 induction m with
 | zero=>
  intro k hk;have:k=n:=by omega
  subst this;rw[gK,h2,KK (Nat.le_refl _)];rfl
 | succ m ih=>
  intro k hk;rw[gK,h1 k (by omega),Kx (by omega)]
  by_cases h0:g k=0
  .simp only[h0,if_true,ζb];rw[bY k (by omega)]
   exact ih (k+1) (by omega)
  .simp only[h0,if_false,ζb]
theorem wA {step:Int->Option (Fw Int Unit Int)} {n:Nat} (g:Nat->Int) (hn:n<9223372036854775807) (h1:∀i:Nat,i<n->step i=some (if g i=0 then .n (IntKind.wrap .i64 ((i:Int)+1))else .r (g i))) (h2:step (n:Int)=some (.x ())):aZ step 0=some (if mH g 0 n=0 then .x ()else .r (mH g 0 n)):=Pa g hn h1 h2 n 0 (by omega)
theorem zY {step:Int->Option (Fw Int Unit Unit)} {n:Nat} (f:Nat->Bool) (hn:n<9223372036854775807) (h1:∀i:Nat,i<n->step i=some (if f i then .r ()else .n (IntKind.wrap .i64 ((i:Int)+1)))) (h2:step (n:Int)=some (.x ())):aZ step 0=some (if gx f 0 n then .r ()else .x ()):=BO f hn h1 h2 n 0 (by omega)
def vf (c:Int):Bool:=decide (c>=65)&&decide (c<=90)||decide (c>=97)&&decide (c<=122)
def Aj (c:Int):Bool:=decide (c>=48)&&decide (c<=57)
theorem Bh (c:Int):nX c=some (vf c):=by
 unfold nX vf;simp only[ko,iX,ζb];rw[Bool.or_comm]
theorem AI (c:Int):m_ c=some (vf c):=by
 unfold m_ vf;simp only[ko,iX,ζb]
theorem I_ (c:Int):rS c=some (Aj c):=by
 unfold rS Aj;simp only[ko,ζb]
theorem Jl (c:Int):qK c=some (Aj c):=by
 unfold qK Aj;simp only[ko,ζb]
def uG (s:ByteArray) (i:Nat):Int:=(iV s (i:Int)).getD 0
theorem Bj {s:ByteArray} {i:Nat} (h:i<s.size):iV s (i:Int)=some (uG s i):=by
 obtain⟨x,hx⟩:=H7 h;unfold uG;rw[hx];rfl
def qz (s:ByteArray) (i:Nat):Bool := !vf (uG s i) && !Aj (uG s i) && !(uG s i==95)
def jY (s:ByteArray):Bool:=decide (1<=s.size)&&decide (s.size<=16)&&vf (uG s 0) && !gx (qz s) 0 s.size
theorem HD {s:ByteArray} {i:Nat} (h:i<s.size):eA.aB s (s.size:Int) i=some (if qz s i then .r ()else .n (IntKind.wrap .i64 ((i:Int)+1))):=by
 unfold eA.aB qz;rw[show decide ((i:Int)<(s.size:Int))=true from by simpa using h,aY,Bj h]
 simp only[ζb,Bh,I_];cases vf (uG s i) <;> cases Aj (uG s i) <;> cases (uG s i==95) <;> rfl
theorem HV {s:ByteArray} {i:Nat} (h:i<s.size):fq.aB s i=some (if qz s i then .r ()else .n (IntKind.wrap .i64 ((i:Int)+1))):=by
 unfold fq.aB qz;rw[show decide ((i:Int)<((ByteArray.size s:Nat):Int))=true from by simpa using h,aY,Bj h]
 simp only[ζb,AI,Jl];cases vf (uG s i) <;> cases Aj (uG s i) <;> cases (uG s i==95) <;> rfl
theorem toList_empty {s:ByteArray}:(ByteArray.toList s==ByteArray.toList ByteArray.empty)=decide (s.size=0):=by
 rw[Bool.eq_iff_iff,beq_iff_eq,decide_eq_true_eq];constructor
 .intro h;have h1:(ByteArray.toList s).length=s.size:=by rw[Go.ByteArray.toList_eq];simp
  rw[<-h1,h];rw[Go.ByteArray.toList_eq];rfl
 .intro h;have:s=ByteArray.empty:=by
   apply ByteArray.ext;exact Array.eq_empty_of_size_eq_zero h
  rw[this]
theorem Ce {s:ByteArray} (hs:s.size<1073741824):eA s=some (jY s):=by
 unfold eA;rw[toList_empty];simp only[iX,ζb]
 by_cases h0:s.size=0
 .simp[h0,jY,ay]
 by_cases h16:s.size<=16
 .have hc:(decide (s.size=0)||decide (((ByteArray.size s:Nat):Int)>16))=false:=by simp[h0];omega
  rw[hc,bg,show (0:Int)=((0:Nat):Int)from rfl,Bj (show 0<s.size by omega)]
  simp only[ζb,Bh]
  cases hl:vf (uG s 0)with
  | false=>simp[jY,hl,ay]
  | true=>
   simp only[Bool.not_true,bg];unfold eA.W1;rw[BO (n:=s.size) (qz s) (by omega) (λi hi=>HD hi) (by unfold eA.aB;simp[ay]) s.size 0 (by omega)]
   have:jY s = !gx (qz s) 0 s.size:=by simp[jY,hl,h16];omega
   rw[this];cases gx (qz s) 0 s.size <;> rfl
 .have hc:(decide (s.size=0)||decide (((ByteArray.size s:Nat):Int)>16))=true:=by simp;omega
  rw[hc,aY];simp[jY,h16,ay]
theorem E6 {s:ByteArray} (hs:s.size<1073741824):fq s=some (jY s):=by
 unfold fq;simp only[iX,ζb]
 by_cases h0:s.size=0
 .simp[h0,jY,ay]
 by_cases h16:s.size<=16
 .have hc:(decide (((ByteArray.size s:Nat):Int)<1)||decide (((ByteArray.size s:Nat):Int)>16))=false:=by simp;omega
  rw[hc,bg,show (0:Int)=((0:Nat):Int)from rfl,Bj (show 0<s.size by omega)]
  simp only[ζb,AI]
  cases hl:vf (uG s 0)with
  | false=>simp[jY,hl,ay]
  | true=>
   simp only[Bool.not_true,bg];unfold fq.W1;rw[show (1:Int)=((1:Nat):Int)from rfl,BO (n:=s.size) (qz s) (by omega) (λi hi=>HV hi) (by unfold fq.aB;simp[ay]) (s.size-1) 1 (by omega)]
   have hb0:qz s 0=false:=by simp[qz,hl]
   have:jY s = !gx (qz s) 1 s.size:=by
    have h1:=CU (f:=qz s) (show 0<s.size by omega)
    rw[hb0]at h1;simp[jY,hl,h16,h1];omega
   rw[this];cases gx (qz s) 1 s.size <;> rfl
 .have hc:(decide (((ByteArray.size s:Nat):Int)<1)||decide (((ByteArray.size s:Nat):Int)>16))=true:=by simp;omega
  rw[hc,aY];simp[jY,h16,ay]
end Go.VE
namespace Go.VE
def fO {α:Type} (l:List α) (f:α->Bool) (i:Nat):Bool:=match l[i]? with|some y=>f y|none=>false
theorem wT {α:Type} {l:List α} {f:α->Bool} {i:Nat} (h:i<l.length):fO l f i=f l[i]:=by unfold fO;rw[ζd h]
theorem zP {α:Type} {l:List α} {f:α->Bool} {p:Nat}:(l.take p).any f=gx (fO l f) 0 p:=by
 rw[Bool.eq_iff_iff,List.any_eq_true,L7];constructor
 .rintro⟨x,hx,hf⟩;obtain⟨i,hi⟩:=List.getElem?_of_mem hx;have hl:=(ζe.1 hi).1;rw[List.length_take]at hl;rw[List.getElem?_take,if_pos (by omega)]at hi
  exact⟨i,Nat.zero_le _,by omega,by unfold fO;rw[hi];exact hf⟩
 .rintro⟨i,_,hi,hf⟩;unfold fO at hf;split at hf
  .rename_i y hy;exact⟨y,List.mem_of_getElem? (i:=i) (by rw[List.getElem?_take,if_pos hi];exact hy),hf⟩
  .cases hf
def pX (a b:ByteArray):Bool:=ByteArray.toList a==ByteArray.toList b
def Rk:Bool->Bool->Bool->Int
 | true,false,true=>0
 | true,false,false=>2
 | _,_,_=>13
def si (P:bt) (i:Nat):Int:=match P.vars.l[i]? with
 | some v=>Rk (jY v.name) (gx (fO P.vars.l λw=>pX w.name v.name) 0 i) (decide (v.init_>=-1073741824)&&decide (v.init_<=1073741824))
 | none=>0
def rG (t:Trace) (p:Nat):Int:=match t.procs.l[p]? with
 | some P=>if jY P.name && !gx (fO t.procs.l λy=>pX y.name P.name) 0 p then
  (if P.vars.l.length>8 then 5 else if mH (si P) 0 P.vars.l.length=0 then(if P.events.l.length>64 then 5 else 0)else mH (si P) 0 P.vars.l.length)else 13
 | none=>0
theorem CB {P:bt} {i:Nat} (h:i<P.vars.l.length):si P i=Rk (jY P.vars.l[i].name) (gx (fO P.vars.l λw=>pX w.name P.vars.l[i].name) 0 i) (decide (P.vars.l[i].init_>=-1073741824)&&decide (P.vars.l[i].init_<=1073741824)):=by
 unfold si;rw[ζd h]
theorem Ch (n:Int):oe n=some (decide (n>=-1073741824)&&decide (n<=1073741824)):=by
 unfold oe;rw[ko];rfl
theorem LM {t:Trace} (hS:Small t) {p:Nat} (hp:p<t.procs.l.length):di t p=some (rG t p):=by
 have hP:=hS.2 _ (List.getElem_mem hp);have h1:=hS.1;unfold di rG;rw[aX hp,ζb,ζd hp];generalize hPe:t.procs.l[p]=P at *;obtain⟨hPev,hPv,hPn,hPvn,_⟩:=hP;rw[Ce hPn,ζb];obtain⟨x,hx,hxl⟩:=uA t.procs p (by omega)
 have hdup:fU x (λz=>gY z P)=some (gx (fO t.procs.l λy=>pX y.name P.name) 0 p):=by
  rw[EN (p:=λz=>gY z P) (f:=λy=>pX y.name P.name) (λy _=>rfl) (by rw[hxl,List.length_take];omega),hxl,zP]
 rw[hx,ζb,hdup,ζb];dsimp only
 cases hn:jY P.name with
 | false=>simp[ay]
 | true=>
  rw[aY,ζb,Bool.true_and]
  cases hd:gx (fO t.procs.l λy=>pX y.name P.name) 0 p with
  | true=>simp[ay]
  | false=>
   rw[bg];simp only[Bool.not_false,if_true]
   by_cases h8:P.vars.l.length>8
   .rw[show decide (len P.vars>8)=true from by simp[len];omega,aY,if_pos h8]
   .rw[show decide (len P.vars>8)=false from by simp[len];omega,bg,if_neg h8]
    unfold di.W1;rw[wA (n:=P.vars.l.length) (si P) (by omega) (λi hi=>?_) (by unfold di.aB;simp[ay,len])]
    .by_cases he:mH (si P) 0 P.vars.l.length=0
     .rw[if_pos he,if_pos he];show ay (decide (len P.events>64)) (some 5) (some 0)=_;rw[qW];simp only[len,decide_eq_true_eq]
      by_cases h64:P.events.l.length>64
      .rw[if_pos h64,if_pos (by omega)]
      .rw[if_neg h64,if_neg (by omega)]
     .rw[if_neg he,if_neg he];rfl
    .unfold di.aB;rw[CB hi,show decide ((i:Int)<len P.vars)=true from by simp[len];exact hi,aY,aX hi,ζb]
     have hv:=hPvn _ (List.getElem_mem hi);obtain⟨y,hy,hyl⟩:=uA P.vars i (by omega)
     have hdv:gp y (λz=>gU z P.vars.l[i])=some (gx (fO P.vars.l λw=>pX w.name P.vars.l[i].name) 0 i):=by
      rw[FE (p:=λz=>gU z P.vars.l[i]) (f:=λw=>pX w.name P.vars.l[i].name) (λw _=>rfl) (by rw[hyl,List.length_take];omega),hyl,zP]
     rw[Ce hv,ζb,hy,ζb,hdv,ζb,nu];have hr:(decide (-1073741824<=P.vars.l[i].init_)&&decide (P.vars.l[i].init_<=1073741824))=(decide (P.vars.l[i].init_>=-1073741824)&&decide (P.vars.l[i].init_<=1073741824)):=rfl;rw[hr];generalize jY P.vars.l[i].name=A;generalize gx (fO P.vars.l λw=>pX w.name P.vars.l[i].name) 0 i=B
     generalize (decide (P.vars.l[i].init_>=-1073741824)&&decide (P.vars.l[i].init_<=1073741824))=C;cases A <;> cases B <;> cases C <;> rfl
theorem Mz {t:Trace} (hS:Small t) {p:Nat} (hp:p<t.procs.l.length):cO t p=some (rG t p):=by
 have hP:=hS.2 _ (List.getElem_mem hp);have h1:=hS.1;unfold cO rG;rw[aX hp,ζb,ζd hp];generalize hPe:t.procs.l[p]=P at *;obtain⟨hPev,hPv,hPn,hPvn,_⟩:=hP;rw[E6 hPn,ζb];dsimp only
 cases hn:jY P.name with
 | false=>simp[ay]
 | true=>
  rw[aY,Bool.true_and];unfold cO.W1;rw[zY (n:=p) (fO t.procs.l λy=>pX y.name P.name) (by omega) (λi hi=>?_) (by unfold cO.aB;simp[ay])]
  .cases hd:gx (fO t.procs.l λy=>pX y.name P.name) 0 p with
   | true=>rfl
   | false=>
    simp only[Bool.not_false,if_true];show ay (decide (len P.vars>8)) (some 5) (cO.W2 0 P)=_
    by_cases h8:P.vars.l.length>8
    .rw[show decide (len P.vars>8)=true from by simp[len];omega,aY,if_pos h8]
    .rw[show decide (len P.vars>8)=false from by simp[len];omega,bg,if_neg h8]
     unfold cO.W2;rw[wA (n:=P.vars.l.length) (si P) (by omega) (λi hi=>?_) (by unfold cO.bq;simp[ay,len])]
     .by_cases he:mH (si P) 0 P.vars.l.length=0
      .rw[if_pos he,if_pos he];show ay (decide (len P.events>64)) (some 5) (some 0)=_;rw[qW];simp only[len,decide_eq_true_eq]
       by_cases h64:P.events.l.length>64
       .rw[if_pos h64,if_pos (by omega)]
       .rw[if_neg h64,if_neg (by omega)]
      .rw[if_neg he,if_neg he];rfl
     .unfold cO.bq;rw[CB hi,show decide ((i:Int)<len P.vars)=true from by simp[len];exact hi,aY,aX hi,ζb]
      rw[E6 (hPvn _ (List.getElem_mem hi)),ζb];have h3:cO.W3 i 0 P=if gx (fO P.vars.l λw=>pX w.name P.vars.l[i].name) 0 i then some (.r 13)else(if decide (P.vars.l[i].init_>=-1073741824)&&decide (P.vars.l[i].init_<=1073741824)then some (.n (IntKind.wrap .i64 ((i:Int)+1)))else some (.r 2)):=by
       unfold cO.W3;rw[zY (n:=i) (fO P.vars.l λw=>pX w.name P.vars.l[i].name) (by omega) (λj hj=>?_) (by unfold cO.fN;simp[ay])]
       .cases gx (fO P.vars.l λw=>pX w.name P.vars.l[i].name) 0 i with
        | true=>rfl
        | false=>
         show (idx P.vars (i:Int)).bind _=_;rw[aX hi,ζb,Ch,ζb];cases (decide (P.vars.l[i].init_>=-1073741824)&&decide (P.vars.l[i].init_<=1073741824)) <;> rfl
       .unfold cO.fN;have hjl:j<P.vars.l.length:=by omega
        rw[show decide ((j:Int)<(i:Int))=true from by simpa using hj,aY,aX hjl,ζb,aX hi,ζb,wT hjl,qW];rfl
      rw[h3];generalize jY P.vars.l[i].name=A;generalize gx (fO P.vars.l λw=>pX w.name P.vars.l[i].name) 0 i=B
      generalize (decide (P.vars.l[i].init_>=-1073741824)&&decide (P.vars.l[i].init_<=1073741824))=C;cases A <;> cases B <;> cases C <;> rfl
  .unfold cO.aB;have hil:i<t.procs.l.length:=by omega
   rw[show decide ((i:Int)<(p:Int))=true from by simpa using hi,aY,aX hil,ζb,wT hil,qW];rfl
end Go.VE
namespace Go.VE
def ET (n:Nat) (p:Int) (e:Event):Bool:=if e.kind==1 then e.peer==0&&e.message==0 else(e.kind==2||e.kind==3)&&(decide (0<=e.peer)&&decide (e.peer<n)) && !(e.peer==p)&&(decide (0<=e.message)&&decide (e.message<=199))
theorem Jx {t:Trace} (hS:Small t) (p:Int) (e:Event):fV t p e=some (ET t.procs.l.length p e):=by
 have h1:=hS.1;have hw:IntKind.wrap .i64 (len t.procs-1)=len t.procs-1:=mF _ (by simp[len];omega) (by simp[len];omega)
 have hj:∀b:Bool,fV.J1 p b t e=some (b&&(decide (0<=e.peer)&&decide (e.peer<t.procs.l.length)) && !(e.peer==p)&&(decide (0<=e.message)&&decide (e.message<=199))):=by
  intro b;unfold fV.J1;simp only[nu,hw,ζb];have:decide (e.peer<=len t.procs-1)=decide (e.peer<t.procs.l.length):=by congr 1;apply propext;simp[len];omega
  rw[this];generalize (decide (0<=e.peer)&&decide (e.peer<(t.procs.l.length:Int)))=A;generalize (e.peer==p)=B;generalize (decide (0<=e.message)&&decide (e.message<=199))=C;cases b <;> cases A <;> cases B <;> cases C <;> rfl
 unfold fV ET;rw[hj,hj]
 cases h1:e.kind==1 with
 | true=>
  rw[aY];cases e.peer==0 <;> cases e.message==0 <;> rfl
 | false=>
  rw[bg];simp only[Bool.false_eq_true,if_false];cases h2:e.kind==2 <;> simp[ay]
def Bd (P:bt) (k:Nat) (e:Event):Bool:=match k with|0=>false|j+1=>fO P.events.l (λx=>decide (e.time<x.time)) j
def rT (P:bt) (k:Nat) (e:Event):Bool:=decide (e.time<0)||decide (e.time>1099511627776)||Bd P k e
def RY:Bool->Bool->Bool->Int
 | true,true,false=>0
 | true,true,true=>8
 | _,_,_=>2
def pF (P:bt) (e:Event) (i:Nat):Int:=match e.assign.l[i]? with
 | some a=>RY (decide (0<=a.var)&&decide (a.var<P.vars.l.length)) (decide (a.value>=-1073741824)&&decide (a.value<=1073741824)) (gx (fO e.assign.l λb=>b.var==a.var) 0 i)
 | none=>0
theorem Cc {P:bt} {e:Event} {i:Nat} (h:i<e.assign.l.length):pF P e i=RY (decide (0<=e.assign.l[i].var)&&decide (e.assign.l[i].var<P.vars.l.length)) (decide (e.assign.l[i].value>=-1073741824)&&decide (e.assign.l[i].value<=1073741824)) (gx (fO e.assign.l λb=>b.var==e.assign.l[i].var) 0 i):=by
 unfold pF;rw[ζd h]
def nQ (n:Nat) (P:bt) (p k:Nat) (e:Event):Int:=if ET n p e then(if rT P k e then 11 else if e.assign.l.length>8 then 5 else mH (pF P e) 0 e.assign.l.length)else 3
theorem Ia {P:bt} {e:Event} (hv:P.vars.l.length<1073741824) (ha:e.assign.l.length<1073741824):ct.W2 e.assign (len e.assign) 0 e P=some (mH (pF P e) 0 e.assign.l.length):=by
 have hw:IntKind.wrap .i64 (len P.vars-1)=len P.vars-1:=mF _ (by simp[len];omega) (by simp[len];omega)
 unfold ct.W2;rw[wA (n:=e.assign.l.length) (pF P e) (by omega) (λi hi=>?_) (by unfold ct.bq;simp[ay,len])]
 .by_cases he:mH (pF P e) 0 e.assign.l.length=0
  .rw[if_pos he,he];rfl
  .rw[if_neg he];rfl
 .unfold ct.bq;obtain⟨y,hy,hyl⟩:=uA e.assign i (by omega)
  have hdv:eX y (λz=>iW z e.assign.l[i])=some (gx (fO e.assign.l λb=>b.var==e.assign.l[i].var) 0 i):=by
   rw[Bt (p:=λz=>iW z e.assign.l[i]) (f:=λb=>b.var==e.assign.l[i].var) (λw _=>rfl) (by rw[hyl,List.length_take];omega),hyl,zP]
  rw[Cc hi,show decide ((i:Int)<len e.assign)=true from by simp[len];exact hi,aY,aX hi,ζb,nu,nu,hw,hy,ζb,ζb,ζb,hdv,ζb]
  have h1:(decide (0<=e.assign.l[i].var)&&decide (e.assign.l[i].var<=len P.vars-1))=(decide (0<=e.assign.l[i].var)&&decide (e.assign.l[i].var<P.vars.l.length)):=by
   congr 2;apply propext;simp[len];omega
  have h2:(decide (-1073741824<=e.assign.l[i].value)&&decide (e.assign.l[i].value<=1073741824))=(decide (e.assign.l[i].value>=-1073741824)&&decide (e.assign.l[i].value<=1073741824)):=rfl;rw[h1,h2];generalize (decide (0<=e.assign.l[i].var)&&decide (e.assign.l[i].var<(P.vars.l.length:Int)))=A;generalize (decide (e.assign.l[i].value>=-1073741824)&&decide (e.assign.l[i].value<=1073741824))=B;generalize gx (fO e.assign.l λb=>b.var==e.assign.l[i].var) 0 i=C
  cases A <;> cases B <;> cases C <;> rfl
theorem JL {t:Trace} (hS:Small t) {p k:Nat} {P:bt} {e:Event} (hP:t.procs.l[p]? = some P) (he:P.events.l[k]? = some e):ct t ⟨p,k+1⟩ e=some (nQ t.procs.l.length P p k e):=by
 obtain⟨hp,hPe⟩:=ζe.1 hP;obtain⟨hk,hke⟩:=ζe.1 he;obtain⟨hPev,hPv,_,_,hPa⟩:=hS.2 P (hPe▸List.getElem_mem hp);have ha:=hPa e (hke▸List.getElem_mem hk);have hJ:∀last:Int,((decide (0<=e.time)&&decide (e.time<=1099511627776)) && !decide (e.time<last))=(!rT P k e) ->
  ct.J1 last t ⟨p,k+1⟩ e P=some (nQ t.procs.l.length P p k e):=by
  intro last hl;unfold ct.J1 nQ;rw[Jx hS,ζb,nu,ζb,Ia hPv ha];dsimp only
  cases ET t.procs.l.length p e with
  | false=>rfl
  | true=>
   rw[aY,if_pos rfl];have:(ay (decide (0<=e.time)&&decide (e.time<=1099511627776)) (some (decide (e.time<last))) (some true):Option Bool)=some (rT P k e):=by
    have h2:(!((decide (0<=e.time)&&decide (e.time<=1099511627776)) && !decide (e.time<last)))=rT P k e:=by rw[hl,Bool.not_not]
    rw[<-h2];cases (decide (0<=e.time)&&decide (e.time<=1099511627776)) <;> cases decide (e.time<last) <;> rfl
   rw[this,ζb]
   cases rT P k e with
   | true=>rfl
   | false=>
    rw[bg];simp only[Bool.false_eq_true,if_false]
    by_cases h8:e.assign.l.length>8
    .rw[show decide (len e.assign>8)=true from by simp[len];omega,aY,if_pos h8]
    .rw[show decide (len e.assign>8)=false from by simp[len];omega,bg,if_neg h8]
 unfold ct;dsimp only;rw[show idx t.procs (p:Int)=some P from by rw[oh];exact hP,ζb]
 cases k with
 | zero=>
  rw[show decide (((0:Nat):Int)+1>1)=false from by decide,bg]
  refine hJ 0 ?_;simp only[rT,Bd,Bool.or_false];rw[Bool.eq_iff_iff];simp only[ζh,Bool.not_eq_true',decide_eq_true_eq,decide_eq_false_iff_not,Bool.or_eq_false_iff];omega
 | succ j=>
  rw[show decide ((((j+1:Nat)):Int)+1>1)=true from by simp;omega,aY]
  have hjl:j<P.events.l.length:=by omega
  have hw:IntKind.wrap .i64 ((((j+1:Nat)):Int)+1-2)=((j:Nat):Int):=by rw[mF _ (by omega) (by omega)];omega
  rw[hw,aX hjl,ζb];refine hJ _ ?_;simp only[rT,Bd,wT hjl];rw[Bool.eq_iff_iff];simp only[ζh,Bool.not_eq_true',decide_eq_true_eq,decide_eq_false_iff_not,Bool.or_eq_false_iff];omega
end Go.VE
namespace Go.VE
theorem Hw {t:Trace} {p:Nat} {P:bt} {e:Event} (hP:t.procs.l[p]? = some P) (ha:e.assign.l.length<1073741824):cR.W2 p 0 t e=some (mH (pF P e) 0 e.assign.l.length):=by
 unfold cR.W2;rw[wA (n:=e.assign.l.length) (pF P e) (by omega) (λi hi=>?_) (by unfold cR.bq;simp[ay,len])]
 .by_cases he:mH (pF P e) 0 e.assign.l.length=0
  .rw[if_pos he,he];rfl
  .rw[if_neg he];rfl
 .unfold cR.bq;have h3:cR.W3 p i 0 t e e.assign.l[i]=if gx (fO e.assign.l λb=>b.var==e.assign.l[i].var) 0 i then some (.r 8)else some (.n (IntKind.wrap .i64 ((i:Int)+1))):=by
   unfold cR.W3;rw[zY (n:=i) (fO e.assign.l λb=>b.var==e.assign.l[i].var) (by omega) (λj hj=>?_) (by unfold cR.fN;simp[ay])]
   .cases gx (fO e.assign.l λb=>b.var==e.assign.l[i].var) 0 i <;> rfl
   .unfold cR.fN;have hjl:j<e.assign.l.length:=by omega
    rw[show decide ((j:Int)<(i:Int))=true from by simpa using hj,aY,aX hjl,ζb,wT hjl,qW]
  rw[Cc hi,show decide ((i:Int)<len e.assign)=true from by simp[len];exact hi,aY,aX hi,ζb,h3,Ch,ζb,show idx t.procs (p:Int)=some P from by rw[oh];exact hP,ζb]
  have h1:(ay (decide (e.assign.l[i].var<0)) (some true) (some (decide (e.assign.l[i].var>=len P.vars))):Option Bool)=some (!(decide (0<=e.assign.l[i].var)&&decide (e.assign.l[i].var<P.vars.l.length))):=by
   rw[iX];congr 1;rw[Bool.eq_iff_iff];simp only[Bool.or_eq_true,Bool.not_eq_true',decide_eq_true_eq,Bool.and_eq_false_iff,decide_eq_false_iff_not,len];omega
  rw[h1,ζb];generalize (decide (0<=e.assign.l[i].var)&&decide (e.assign.l[i].var<(P.vars.l.length:Int)))=A;generalize (decide (e.assign.l[i].value>=-1073741824)&&decide (e.assign.l[i].value<=1073741824))=B;generalize gx (fO e.assign.l λb=>b.var==e.assign.l[i].var) 0 i=C
  cases A <;> cases B <;> cases C <;> rfl
theorem Lo {t:Trace} (hS:Small t) {p k:Nat} {P:bt} {e:Event} (hP:t.procs.l[p]? = some P) (he:P.events.l[k]? = some e):cR t p k=some (nQ t.procs.l.length P p k e):=by
 obtain⟨hp,hPe⟩:=ζe.1 hP;obtain⟨hk,hke⟩:=ζe.1 he;obtain⟨hPev,hPv,_,_,hPa⟩:=hS.2 P (hPe▸List.getElem_mem hp);have ha:=hPa e (hke▸List.getElem_mem hk);have hJ:cR.J1 p k t e=some (if rT P k e then 11 else if e.assign.l.length>8 then 5 else mH (pF P e) 0 e.assign.l.length):=by
  unfold cR.J1;rw[iX,ζb,Hw hP ha,show idx t.procs (p:Int)=some P from by rw[oh];exact hP,ζb]
  have h1:(ay (decide ((k:Int)>0)) ((idx P.events (IntKind.wrap .i64 ((k:Int)-1))).bind λx_3=>some (decide (e.time<x_3.time))) (some false):Option Bool)=some (Bd P k e):=by
   cases k with
   | zero=>rfl
   | succ j=>
    have hjl:j<P.events.l.length:=by omega
    rw[show decide ((((j+1:Nat)):Int)>0)=true from by simp only[decide_eq_true_eq];omega,aY,show IntKind.wrap .i64 ((((j+1:Nat)):Int)-1)=((j:Nat):Int)from by rw[mF _ (by omega) (by omega)];omega,aX hjl,ζb]
    simp only[Bd,wT hjl]
  rw[h1,ζb,iX,ζb];show ay (rT P k e) _ _=_
  cases rT P k e with
  | true=>rfl
  | false=>
   rw[bg];simp only[Bool.false_eq_true,if_false]
   by_cases h8:e.assign.l.length>8
   .rw[show decide (len e.assign>8)=true from by simp[len];omega,aY,if_pos h8]
   .rw[show decide (len e.assign>8)=false from by simp[len];omega,bg,if_neg h8]
 unfold cR nQ;rw[show idx t.procs (p:Int)=some P from by rw[oh];exact hP,ζb,show idx P.events (k:Int)=some e from by rw[oh];exact he,ζb,hJ]
 unfold ET
 cases h1:e.kind==1 with
 | true=>
  rw[aY];simp only[if_true];cases e.peer==0 <;> cases e.message==0 <;> rfl
 | false=>
  rw[bg];simp only[Bool.false_eq_true,if_false];have h2:(ay (e.kind==2) (some false) (some (!(e.kind==3))):Option Bool)=some (!(e.kind==2||e.kind==3)):=by cases e.kind==2 <;> rfl
  rw[h2,ζb,iX,ζb,iX,ζb,iX,ζb,iX,ζb,iX,ζb];have h3:(((((!(e.kind==2||e.kind==3))||decide (e.peer<0))||decide (e.peer>=len t.procs))||(e.peer==p))||decide (e.message<0)||decide (e.message>199)) = !((e.kind==2||e.kind==3)&&(decide (0<=e.peer)&&decide (e.peer<t.procs.l.length)) && !(e.peer==p)&&(decide (0<=e.message)&&decide (e.message<=199))):=by
   generalize (e.kind==2||e.kind==3)=A;have a1:decide (e.peer<0) = !decide (0<=e.peer):=by rw[Bool.eq_iff_iff];simp
   have a2:decide (e.peer>=len t.procs) = !decide (e.peer<t.procs.l.length):=by rw[Bool.eq_iff_iff];simp[len]
   have a3:decide (e.message<0) = !decide (0<=e.message):=by rw[Bool.eq_iff_iff];simp
   have a4:decide (e.message>199) = !decide (e.message<=199):=by rw[Bool.eq_iff_iff];simp
   rw[a1,a2,a3,a4];generalize decide (0<=e.peer)=B;generalize decide (e.peer<(t.procs.l.length:Int))=C;generalize (e.peer==(p:Int))=D;generalize decide (0<=e.message)=F;generalize decide (e.message<=199)=G;cases A <;> cases B <;> cases C <;> cases D <;> cases F <;> cases G <;> rfl
  rw[h3];generalize ((e.kind==2||e.kind==3)&&(decide (0<=e.peer)&&decide (e.peer<(t.procs.l.length:Int))) && !(e.peer==(p:Int))&&(decide (0<=e.message)&&decide (e.message<=199)))=Z;cases Z <;> rfl
theorem Hz {n:Nat} {p:Int} {e:Event} (h:ET n p e=true):jh n p e:=by
 unfold ET at h;split at h
 .rename_i h1;left;simpa using h1
 .right;simp only[ζh,Bool.or_eq_true,beq_iff_eq,decide_eq_true_eq,Bool.not_eq_true',beq_eq_false_iff_ne,ne_eq]at h;obtain⟨⟨⟨h1,h2⟩,h3⟩,h4⟩:=h;exact⟨h1,h2.1,h2.2,h3,h4.1,h4.2⟩
theorem D7 {n:Nat} {P:bt} {p k:Nat} {e:Event} (h:nQ n P p k e=0):jh n p e:=by
 unfold nQ at h;split at h
 .rename_i h1;exact Hz h1
 .cases h
end Go.VE
namespace Go.VE
theorem zI {α:Type} [DecidableEq α]:∀{l r:List α},l.Nodup->(∀x∈l,x∈r)->l.length<=r.length
 | [],_,_,_=>Nat.zero_le _
 | x::l,r,hn,hs=>by
  have hx:x∈r:=hs x (List.mem_cons_self ..);have hn':=List.nodup_cons.1 hn;have:=zI (l:=l) (r:=r.erase x) hn'.2 λy hy=>(List.mem_erase_of_ne (by rintro rfl;exact hn'.1 hy)).2 (hs y (List.mem_cons_of_mem _ hy))
  rw[List.length_erase_of_mem hx]at this;have hp:0<r.length:=List.length_pos_of_mem hx;simp only[List.length_cons];omega
section
variable {κ:Type} [DecidableEq κ]
theorem Ax {ν:Type} {k:κ}:∀{m:Mo κ ν},k∉m.map (·.1)->mM k m=none
 | [],_=>rfl
 | (a,v)::r,h=>by
  simp only[List.map_cons,List.mem_cons,not_or]at h;unfold mM;rw[if_neg h.1];exact Ax h.2
theorem C3 {ν:Type} {k:κ}:∀{m:Mo κ ν},k∈m.map (·.1)->∃v,mM k m=some v/\(k,v)∈m
 | [],h=>by simp at h
 | (a,v)::r,h=>by
  unfold mM
  by_cases e:k=a
  .subst e;exact⟨v,by rw[if_pos rfl],List.mem_cons_self ..⟩
  .rw[if_neg e];obtain⟨w,h1,h2⟩:=C3 (m:=r) (by simpa [e]using h)
   exact⟨w,h1,List.mem_cons_of_mem _ h2⟩
theorem od {ν:Type} {k:κ} {v:ν}:∀{m:Mo κ ν},k∉m.map (·.1)->nL m k v=m++[(k,v)]
 | [],_=>rfl
 | (a,w)::r,h=>by
  simp only[List.map_cons,List.mem_cons,not_or]at h;show (if k=a then _ else _)=_;rw[if_neg h.1,od h.2];rfl
end
def Vd (t:Trace) (y:aa):Prop:=∃e,(y,e)∈aT t
theorem Vd.at_ {t:Trace} {y:aa} (h:Vd t y):∃(p k:Nat) (e:Event),lN t p k e/\y=⟨p,k+1⟩/\(y,e)∈aT t:=by
 obtain⟨e,he⟩:=h;obtain⟨p,k,h1,h2⟩:=dg.1 he;exact⟨p,k,e,h1,h2,he⟩
def Ec (t:Trace) (y z:aa):Prop:=∃e f,(y,e)∈aT t/\(z,f)∈aT t/\e.kind=2/\f.kind=3/\e.message=f.message
def Edge (t:Trace) (y z:aa):Prop:=Vd t y/\Vd t z/\(z=⟨y.proc,y.index+1⟩\/Ec t y z)
abbrev Way (t:Trace):aa->aa->Prop:=Relation.TransGen (Edge t)
def F_ (t:Trace):Prop:=∃x,Way t x x
theorem Way.l {t:Trace} {x y:aa} (h:Way t x y):Vd t x:=by
 induction h with
 | single h=>exact h.1
 | tail _ _ ih=>exact ih
theorem Way.r {t:Trace} {x y:aa} (h:Way t x y):Vd t y:=by
 cases h with
 | single h=>exact h.2.1
 | tail _ h=>exact h.2.1
theorem Lj {t:Trace} (hS:Small t) (hF:∀x∈aT t,jh t.procs.l.length x.1.proc x.2) {A:aC 200 aH} (hA:gu t (aT t) A) {y:aa} (hy:Vd t y) :
 Wp (gH t A y) λs=>s.l.length<=2/\∀z,z∈s.l↔Edge t y z:=by
 obtain⟨p,k,e,hat,hid,hmem⟩:=hy.at_;have hat':=hat;obtain⟨P,hP,hk⟩:=hat;have hPm:P∈t.procs.l:=List.mem_of_getElem? hP;have h1:=(hS.2 P hPm).1;have hkl:k<P.events.l.length:=(ζe.1 hk).1;have hyp:y.proc=p:=by rw[hid]
 have hyi:y.index=k+1:=by rw[hid]
 have j:∀s:Sl aa,s.l.length<=1->(∀z,z∈s.l↔Vd t z/\z=⟨y.proc,y.index+1⟩)->Wp (gH.J1 A s P.events y) λs=>s.l.length<=2/\∀z,z∈s.l↔Edge t y z:=by
  intro s hs hz;have no:¬(∃z,Ec t y z)->s.l.length<=2/\∀z,z∈s.l↔Edge t y z:=λhn=>⟨by omega,λz=>(hz z).trans ⟨λh=>⟨hy,h.1,.inl h.2⟩,λh=>⟨h.2.1,h.2.2.elim id λh=>(hn ⟨z,h⟩).elim⟩⟩⟩
  unfold gH.J1;have hw:IntKind.wrap .i64 (y.index-1)=((k:Nat):Int):=by rw[hyi,mF _ (by omega) (by omega)];omega
  rw[hw,oh,hk,ζb,eS,bD];constructor
  .intro hk2;have hk2:e.kind=2:=by simpa using hk2
   have hm:0<=e.message/\e.message<=199:=by
    rcases hF _ hmem with h|⟨_,_,_,_,h⟩
    .simp only at h;omega
    .exact h
   have to_:∀z,Ec t y z->(ag A e.message).to_=z:=λz ⟨e',f,a1,a2,a3,a4,a5⟩=>by
    cases zB a1 hmem rfl;rw[a5];exact(hA.rcv _ a2 a4).1
   rw[G7 A hm.1 hm.2,ζb,af,bD];refine⟨λh=>?_,λh=>(af _).2 (no λ⟨z,hz⟩=>?_)⟩
   .have h:(ag A e.message).to_.index>0:=by simpa using h
    rw[ζb];unfold i_;rw[if_pos (by omega),ζb,af]
    refine⟨by show (s.l++[(ag A e.message).to_]).length<=2;rw[ζi,List.length_singleton];omega,λz=>?_⟩
    have hto:Ec t y (ag A e.message).to_:=by
     rcases hA.to e.message hm.1 hm.2 with h0|⟨e',h1,h2,h3⟩
     .omega
     .exact⟨e,e',hmem,h1,hk2,h2,h3.symm⟩
    show z∈s.l++[(ag A e.message).to_]↔_;rw[List.mem_append,List.mem_singleton,hz];constructor
    .rintro (h|rfl)
     .exact⟨hy,h.1,.inl h.2⟩
     .exact⟨hy,let ⟨_,f,_,a2,_⟩:=hto;⟨f,a2⟩,.inr hto⟩
    .rintro⟨_,h1,h2|h2⟩
     .exact .inl ⟨h1,h2⟩
     .exact .inr (to_ z h2).symm
   .rw[to_ z hz]at h;obtain⟨_,f,_,a2,_⟩:=hz;obtain⟨q,i,_,hi⟩:=dg.1 a2;simp only at hi;rw[hi]at h;simp at h
  .intro hk2;rw[af,bD];refine⟨λh=>(by cases h),λ_=>(af _).2 (no λ⟨z,e',f,a1,_,a3,_⟩=>?_)⟩
   cases zB a1 hmem rfl;simp[a3]at hk2
 unfold gH;rw[hyp,oh,hP,ζb,bD];rw[hyp]at j;constructor
 .intro h;have h:y.index<len P.events:=by simpa using h
  have hk2:k+1<P.events.l.length:=by rw[hyi]at h;simp[len]at h;omega
  refine j _ (by simp[Sl.l]) λz=>?_
  have hw:IntKind.wrap .i64 (y.index+1)=y.index+1:=mF _ (by omega) (by omega)
  simp only[Sl.l,List.mem_singleton,hw];refine⟨λhz=>⟨⟨P.events.l[k+1],dg.2 ⟨p,k+1,⟨P,hP,ζd hk2⟩,?_⟩⟩,hz⟩,λhz=>hz.2⟩
  rw[hz,hyi];simp
 .intro h;have h:¬y.index<len P.events:=by simpa using h
  refine j _ (by simp[Sl.l]) λz=>⟨λhz=>by simp[Sl.l]at hz,λ⟨hz,he⟩=>?_⟩
  obtain⟨q,i,f,⟨Q,hQ,hi⟩,hqi,_⟩:=hz.at_;rw[he,hyi]at hqi;simp only[aa.mk.injEq]at hqi;have:q=p:=by omega
  subst this;rw[hP]at hQ;cases hQ;have:=(ζe.1 hi).1;rw[hyi]at h;simp[len]at h;omega
structure DX (t:Trace) (x:aa) (rest:Sl aa) (m:Mo aa Bool) (U:aa->Prop):Prop where
 rst:∀y∈rest.l,y=x\/Way t x y
 keys:(m.map (·.1)).Nodup
 seen:∀y∈m,Way t x y.1/\y.1≠x/\y.2=true
 le:rest.l.length<=m.length+1
 done:∀y,y=x\/y∈m.map (·.1)->y∈rest.l\/U y\/∀z,Edge t y z->z∈m.map (·.1)
theorem DX.count {t:Trace} {x:aa} {rest:Sl aa} {m:Mo aa Bool} {U:aa->Prop} (h:DX t x rest m U):m.length<=(aT t).length:=by
 have:=zI (r:=(aT t).map (·.1)) h.keys λx hx=>by
  obtain⟨y,hy,rfl⟩:=List.mem_map.1 hx;obtain⟨e,he⟩:=(h.seen y hy).1.r;exact List.mem_map.2 ⟨_,he,rfl⟩
 simpa using this
theorem KC {t:Trace} (hS:Small t) (hN:(aT t).length<1073741824) (hF:∀x∈aT t,jh t.procs.l.length x.1.proc x.2) {A:aC 200 aH} (hA:gu t (aT t) A):Wp (dR t A) λr=>(r.2=true↔F_ t):=by
 unfold dR iB;rw[ζb];unfold dR.E1;rw[s8 hS,ζb];refine yp (λk _=>∀x∈(aT t).take k,¬Way t x.1 x.1) (by simp) ?_ λ_ h=>(af _).2 ⟨λh=>(by cases h),λ⟨x,hx⟩=>?_⟩
 .intro i x _ hx hall;have hxm:x∈aT t:=List.mem_of_getElem? hx;unfold dR.qh dR.W2;refine Wp.mono (P:=λw=>match w with|.n s=>¬Way t x.1 x.1|.x e=>False|.r e=>F_ t) ?_ λw hw=>by
   cases w with
   | n s=>
    intro y hy;rw[List.take_add_one,hx]at hy;rcases List.mem_append.1 hy with hy|hy
    .exact hall y hy
    .simp at hy;subst hy;exact hw
   | x e=>exact hw.elim
   | r b=>exact(af _).2 ⟨λ_=>hw,λ_=>rfl⟩
  refine gE (λq:Sl aa×Mo aa Bool=>DX t x.1 q.1 q.2 λ_=>False) (λq=>2*((aT t).length-q.2.length)+q.1.l.length) ⟨λy hy=>.inl (by simpa [Sl.l]using hy),by simp,by simp,by simp[Sl.l],λy hy=>.inl ?_⟩ ?_
  .simpa [Sl.l]using hy
  rintro⟨rest,m⟩ hI;unfold dR.bq;rw[bD];refine⟨λh=>?_,λh=>(af _).2 ((af _).2 λhw=>?_)⟩
  .have hlen:0<rest.l.length:=by
    have:len rest>0:=by simpa using h
    simp[len]at this;omega
   have hc:=hI.count;have hle:=hI.le;simp only at hc hle;have hw:IntKind.wrap .i64 ((len rest)-1)=((rest.l.length-1:Nat):Int):=by
    rw[mF _ (by simp[len];omega) (by simp[len];omega)];simp[len];omega
   have hlast:rest.l.length-1<rest.l.length:=by omega
   rw[hw];have h1:Sl.kN rest ((rest.l.length-1:Nat):Int)=some (rest.l.length-1):=by
    unfold Sl.kN;rw[if_pos ⟨by omega,by simpa using hlast⟩];rfl
   have h2:Sl.get rest (rest.l.length-1)=some rest.l[rest.l.length-1]:=by unfold Sl.get;exact ζd hlast
   obtain⟨cut,h3,h4⟩:∃x,nh rest none (some ((rest.l.length-1:Nat):Int))=some x/\x.l=rest.l.take (rest.l.length-1):=by
    cases rest with
    | nil=>simp[Sl.l]at hlen
    | emp=>simp[Sl.l]at hlen
    | row l=>
     simp only[Sl.l]at hlen ⊢;unfold nh cE;simp only[Option.getD_none,Option.getD_some];rw[if_pos (by omega)]
     exact⟨_,rfl,by simp[Sl.l]⟩
    | part l=>
     simp only[Sl.l]at hlen ⊢;unfold nh cE;simp only[Option.getD_none,Option.getD_some];rw[if_pos (by omega)]
     exact⟨_,rfl,by simp[Sl.l]⟩
   rw[h1,ζb,h2,ζb,h3,ζb,eS];generalize hye:rest.l[rest.l.length-1]=y;have hym:y∈rest.l:=hye▸List.getElem_mem hlast;have hsplit:∀z,z∈rest.l->z∈cut.l\/z=y:=λz hz=>by
    have:rest.l.take (rest.l.length-1)++rest.l.drop (rest.l.length-1)=rest.l:=List.take_append_drop ..;rw[<-this]at hz;rcases List.mem_append.1 hz with hz|hz
    .exact .inl (h4▸hz)
    .rw[List.drop_eq_getElem_cons hlast,List.drop_of_length_le (by omega)]at hz
     exact .inr (by simpa [hye]using hz)
   have hyw:y=x.1\/Way t x.1 y:=hI.rst _ hym;have hyv:Vd t y:=hyw.elim (λe=>⟨x.2,e▸hxm⟩) Way.r
   refine(Lj hS hF hA hyv).mono λs hs=>?_
   unfold dR.W3;refine gE (λq:Sl aa×Int×Mo aa Bool=>∃n:Nat,q.2.1=n/\n<=s.l.length/\DX t x.1 q.1 q.2.2 (λu=>u=y)/\(∀z∈s.l.take n,z∈q.2.2.map (·.1))/\2*((aT t).length-q.2.2.length)+q.1.l.length<2*((aT t).length-m.length)+rest.l.length) (λq=>s.l.length-q.2.1.toNat)
    ⟨0,rfl,Nat.zero_le _,⟨λz hz=>hI.rst z (by rw[h4]at hz;exact List.mem_of_mem_take hz),hI.keys,hI.seen,by rw[h4];simp;omega,λu hu=>?_⟩,by simp,by rw[h4];simp;omega⟩ ?_
   .rcases hI.done u hu with h|h|h
    .exact(hsplit u h).imp_right .inl
    .exact h.elim
    .exact .inr (.inr h)
   rintro⟨rest2,i2,m2⟩ ⟨n,rfl,hn,hI2,hms,hμ⟩;simp only at hI2 hμ hms;unfold dR.fN;rw[bD];constructor
   .intro h;have hlt:n<s.l.length:=by simpa [len]using h
    have hxe:=(hs.2 s.l[n]).1 (List.getElem_mem hlt);have hxw:Way t x.1 s.l[n]:=hyw.elim (λe=>.single (e▸hxe)) λh=>.tail h hxe
    rw[aX hlt,ζb,bD];refine⟨λhe=>(af _).2 ((af _).2 ((af _).2 ⟨x.1,?_⟩)),λhne=>?_⟩
    .have:s.l[n]=x.1:=by
      unfold Gx at he
      revert he;cases s.l[n];cases x.1;intro he;simpa using he
     rw[this]at hxw;exact hxw
    have hne:s.l[n]≠x.1:=λe=>by rw[e]at hne;simp[Gx]at hne
    have hw2:=bY n (by omega)
    have htk:s.l.take (n+1)=s.l.take n++[s.l[n]]:=by rw[List.take_add_one,ζd hlt];rfl
    rw[bD];refine⟨λhg=>(af _).2 ⟨⟨n+1,hw2,by omega,hI2,λz hz=>?_,hμ⟩,by show _-(IntKind.wrap .i64 ((n:Int)+1)).toNat<_;rw[hw2];simp;omega⟩,λhno=>?_⟩
    .rw[htk]at hz;rcases List.mem_append.1 hz with hz|hz
     .exact hms z hz
     .simp only[List.mem_singleton]at hz;subst hz;apply Classical.byContradiction;intro hk;unfold nN at hg;rw[Ax hk]at hg;cases hg
    have hc2:=hI2.count;have hle2:=hI2.le;unfold i_;rw[if_pos (show rest2.l.length+1<=2147483648 from by omega),ζb,af]
    have hnew:s.l[n]∉m2.map (·.1):=λhin=>by
     obtain⟨v,hv,hvm⟩:=C3 hin;have:=(hI2.seen _ hvm).2.2;simp only at this;subst this;unfold nN at hno;rw[hv]at hno;cases hno
    have hmm:∀z,z∈(nL m2 s.l[n] true).map (·.1)↔z∈m2.map (·.1)\/z=s.l[n]:=λz=>by
     rw[od hnew,List.map_append,List.mem_append];simp
    have hS2:DX t x.1 (.row (rest2.l++[s.l[n]])) (nL m2 s.l[n] true) (λu=>u=y):=by
     refine⟨λy hy=>?_,?_,λy hy=>?_,?_,λu hu=>?_⟩
     .simp only[Sl.l,List.mem_append,List.mem_singleton]at hy;rcases hy with hy|rfl
      .exact hI2.rst y hy
      .exact .inr hxw
     .rw[od hnew,List.map_append,List.nodup_append];refine⟨hI2.keys,by simp,λa ha b hb=>?_⟩
      simp only[List.map_cons,List.map_nil,List.mem_singleton]at hb;subst hb;exact λe=>hnew (e▸ha)
     .rw[od hnew]at hy;rcases List.mem_append.1 hy with hy|hy
      .exact hI2.seen y hy
      .simp only[List.mem_singleton]at hy;subst hy;exact⟨hxw,hne,rfl⟩
     .rw[od hnew];show (rest2.l++[s.l[n]]).length<=_;rw[ζi,ζi,List.length_singleton,List.length_singleton];omega
     .simp only[Sl.l,List.mem_append,List.mem_singleton];have old:u=x.1\/u∈m2.map (·.1)->(u∈rest2.l\/u=s.l[n])\/u=y\/∀z,Edge t u z->z∈(nL m2 s.l[n] true).map (·.1):=λhu=>by
       rcases hI2.done u hu with h|h|h
       .exact .inl (.inl h)
       .exact .inr (.inl h)
       .exact .inr (.inr λz hz=>(hmm z).2 (.inl (h z hz)))
      rcases hu with hu|hu
      .exact old (.inl hu)
      .rcases (hmm u).1 hu with hu|hu
       .exact old (.inr hu)
       .exact .inl (.inr hu)
    have hc3:=hS2.count;refine⟨⟨n+1,hw2,by omega,hS2,λz hz=>?_,?_⟩,by show _-(IntKind.wrap .i64 ((n:Int)+1)).toNat<_;rw[hw2];simp;omega⟩
    .rw[htk]at hz;rcases List.mem_append.1 hz with hz|hz
     .exact(hmm z).2 (.inl (hms z hz))
     .exact(hmm z).2 (.inr (by simpa using hz))
    rw[od hnew,ζi,List.length_singleton]at hc3;show 2*((aT t).length-(nL m2 s.l[n] true).length)+(rest2.l++[s.l[n]]).length<_;rw[od hnew,ζi,ζi,List.length_singleton,List.length_singleton];omega
   .intro h;have hge:s.l.length<=n:=by simpa [len]using h
    rw[List.take_of_length_le hge]at hms;refine(af _).2 ((af _).2 ⟨⟨hI2.rst,hI2.keys,hI2.seen,hI2.le,λu hu=>?_⟩,hμ⟩)
    rcases hI2.done u hu with h|h|h
    .exact .inl h
    .subst h;exact .inr (.inr λz hz=>hms z ((hs.2 z).2 hz))
    .exact .inr (.inr h)
  .have hr0:rest.l=[]:=by
    have:¬len rest>0:=by simpa using h
    simp[len]at this;exact this
   have hd:∀y,y=x.1\/y∈m.map (·.1)->∀z,Edge t y z->z∈m.map (·.1):=λy hy=>by
    rcases hI.done y hy with h|h|h
    .simp only[hr0]at h;cases h
    .exact h.elim
    .exact h
   have key:∀z,Way t x.1 z->z∈m.map (·.1):=λz hz=>by
    induction hz with
    | single h=>exact hd _ (.inl rfl) _ h
    | tail _ h ih=>exact hd _ (.inr ih) _ h
   obtain⟨y,hy,hyx⟩:=List.mem_map.1 (key _ hw);exact(hI.seen y hy).2.1 hyx
 .obtain⟨e,he⟩:=hx.l;rw[List.take_length]at h;exact absurd hx (h _ he)
structure Ok (t:Trace):Prop where
 one:1<=t.procs.l.length
 few:t.procs.l.length<=8
 heads:∀p,p<t.procs.l.length->rG t p=0
 ec:∀(p k:Nat) P e,t.procs.l[p]? = some P->P.events.l[k]? = some e->nQ t.procs.l.length P p k e=0
 Jg:vz t
 acyc:¬F_ t
theorem Cn {t:Trace} (h:∀(p k:Nat) P e,t.procs.l[p]? = some P->P.events.l[k]? = some e->nQ t.procs.l.length P p k e=0):∀x∈aT t,jh t.procs.l.length x.1.proc x.2:=λx hx=>by
 obtain⟨p,k,⟨P,hP,he⟩,hid⟩:=dg.1 hx;rw[hid];exact D7 (h p k P _ hP he)
structure VT (t:Trace):Prop where
 formed:∀x∈aT t,jh t.procs.l.length x.1.proc x.2
 msgs:∃A i,c_ t=some (some A,i,0)/\gu t (aT t) A
 few:t.procs.l.length<=8
 ok:Ok t
theorem Lm {t:Trace} (hS:Small t) (hN:(aT t).length<1073741824):Wp (fc t) λr=>(r.2=0->VT t)/\(Ok t->r.2=0):=by
 unfold fc;rw[nu,ζb,bD];refine⟨λhin=>?_,λhin=>(af _).2 ⟨λh=>(by cases h),λh=>?_⟩⟩
 rotate_left
 .have h1:=h.one;have h8:=h.few;simp only[Bool.and_eq_false_iff,decide_eq_false_iff_not,len]at hin;omega
 have h8:1<=t.procs.l.length/\t.procs.l.length<=8:=by
  simp only[ζh,decide_eq_true_eq,len]at hin;omega
 unfold fc.W1;refine gE (λi:Int=>∃n:Nat,i=n/\n<=t.procs.l.length/\∀p,p<n->rG t p=0) (λi:Int=>t.procs.l.length-i.toNat) ⟨0,rfl,Nat.zero_le _,λp hp=>absurd hp (by omega)⟩ ?_
 rintro i ⟨n,rfl,hn,hh⟩;unfold fc.aB;rw[bD];constructor
 .intro h;have hlt:n<t.procs.l.length:=by simpa [len]using h
  rw[LM hS hlt,ζb,bD];refine⟨λh0=>(af _).2 ⟨⟨n+1,bY n (by omega),by omega,λp hp=>?_⟩,by rw[bY n (by omega)];simp;omega⟩,λh0=>(af _).2 ((af _).2 ⟨λh=>?_,λh=>?_⟩)⟩
  .by_cases e:p=n
   .subst e;simpa using h0
   .exact hh p (by omega)
  .simp only at h;simp[h]at h0
  .simp[h.heads n hlt]at h0
 .intro h;have hge:t.procs.l.length<=n:=by simpa [len]using h
  rw[af];unfold iB;rw[ζb];unfold fc.E2;rw[s8 hS,ζb];refine yp (λi _=>∀(p k:Nat) P e,t.procs.l[p]? = some P->P.events.l[k]? = some e->(⟨p,k+1⟩,e)∈(aT t).take i->nQ t.procs.l.length P p k e=0) (by simp) ?_ ?_
  .intro i x _ hx hI;have hxm:x∈aT t:=List.mem_of_getElem? hx;obtain⟨p,j,⟨P,hP,he⟩,hid⟩:=dg.1 hxm;unfold fc.FX;rw[hid,JL hS hP he,ζb,bD];refine⟨λh0=>(af _).2 λp' k' P' e' hP' he' hm=>?_,λh0=>(af _).2 ((af _).2 ⟨λh=>?_,λh=>?_⟩)⟩
   .rw[List.take_add_one,hx]at hm;rcases List.mem_append.1 hm with hm|hm
    .exact hI p' k' P' e' hP' he' hm
    .simp only[Option.toList_some,List.mem_singleton]at hm;rw[<-hm]at hid he;simp only[aa.mk.injEq]at hid;have e1:p'=p:=by omega
     have e2:k'=j:=by omega
     subst e1 e2;rw[hP']at hP;cases hP;rw[<-hm]at h0;simpa using h0
   .simp only at h;simp[h]at h0
   .simp[h.ec p j P _ hP he]at h0
  .intro _ hI;have hI:∀(p k:Nat) P e,t.procs.l[p]? = some P->P.events.l[k]? = some e->nQ t.procs.l.length P p k e=0:=λp k P e hP he=>hI p k P e hP he (by rw[List.take_length];exact dg.2 ⟨p,k,⟨P,hP,he⟩,rfl⟩)
   have hF:=Cn hI;obtain⟨r,hr,hq,hq2⟩:=Bm hS hF;rw[hr,ζb,bD];refine⟨λh0=>?_,λh0=>(af _).2 ⟨λh=>?_,λh=>hq2 h.Jg⟩⟩
   .have h0:r.2.2=0:=by simpa using h0
    obtain⟨A,hA,hM⟩:=hq h0;rw[hA,ζb];obtain⟨c,hc,hcc⟩:=KC hS hN hF hM;rw[hc,ζb,bD];refine⟨λhb=>(af _).2 ⟨λh=>(by cases h),λh=>absurd (hcc.1 hb) h.acyc⟩,λhb=>(af _).2 ⟨λ_=>?_,λ_=>rfl⟩⟩
    exact⟨hF,⟨A,r.2.1,by rw[hr];obtain⟨r1,r2,r3⟩:=r;simp only at hA h0;rw[hA,h0],hM⟩,h8.2,h8.1,h8.2,λp hp=>hh p (by omega),hI,hM.Jg,λhc=>by rw[hcc.2 hc]at hb;cases hb⟩
   .simp only at h;simp[h]at h0
theorem KW {t:Trace} (hS:Small t) (hN:(aT t).length<1073741824):Wp (fu t) λb=>(b=true->VT t)/\(Ok t->b=true):=by
 unfold fu;rw[eS];exact(Lm hS hN).mono λr hr=>(af _).2 ⟨λh=>hr.1 (by simpa using h),λh=>by simpa using hr.2 h⟩
end Go.VE
namespace Go.VE
end Go.VE
namespace Go.VE
end Go.VE
namespace Go.VE
theorem JN {t:Trace} (hS:Small t) (hv:fu t=some true) {A:aC 200 aH} (hM:gu t (aT t) A) {x:aa×Event} (hx:x∈aT t) (hk:x.2.kind=2):qA t x.2.message=some (x.1,true):=by
 refine Wp.eq ?_;unfold qA jW;rw[hv,ζb,aY];unfold iB;rw[ζb];unfold jW.E1;rw[s8 hS,ζb,eS];refine yp (λk _=>∀y∈(aT t).take k,¬(y.2.kind=2/\y.2.message=x.2.message)) (by simp) ?_ ?_
 .intro k y _ hy hI;have hym:y∈aT t:=List.mem_of_getElem? hy;unfold jW.qh;rw[ko,ζb,bD];constructor
  .intro hc;have hc:y.2.kind=2/\y.2.message=x.2.message:=by simpa using hc
   refine(af _).2 ((af _).2 ((af _).2 ?_));have h1:=hM.snd y hym hc.1;have h2:=hM.snd x hx hk;rw[hc.2,h2]at h1;rw[h1]
  .intro hc;have hc:¬(y.2.kind=2/\y.2.message=x.2.message):=by
    intro h;rw[h.1,h.2]at hc;simp at hc
   rw[af];intro z hz;rw[List.take_add_one,hy]at hz;rcases List.mem_append.1 hz with hz|hz
   .exact hI z hz
   .simp at hz;subst hz;exact hc
 .intro _ hI;rw[List.take_length]at hI;exact absurd ⟨hk,rfl⟩ (hI x hx)
def vn (t:Trace) (c:List Int):Prop:=c.length=t.procs.l.length/\∀(p:Nat) (a:Int) (P:bt),c[p]? = some a->t.procs.l[p]? = some P->0<=a/\a<=P.events.l.length
def vv (t:Trace) (A:aC 200 aH) (c:List Int):Prop:=∀(p k:Nat) (e:Event) (a:Int),lN t p k e->c[p]? = some a->(k:Int)<a->e.kind=3->∃b,c[(ag A e.message).from_.proc.toNat]? = some b/\(ag A e.message).from_.index<=b
theorem D0 {t:Trace} (hV:VT t) {A:aC 200 aH} (hM:gu t (aT t) A) {p k:Nat} {e:Event} (he:lN t p k e) (hk:e.kind=3) :
 ∃(q j:Nat) (y:Event),lN t q j y/\y.kind=2/\y.message=e.message/\y.peer=p/\e.peer=q/\(ag A e.message).from_=⟨q,j+1⟩:=by
 have hmem:((⟨p,k+1⟩:aa),e)∈aT t:=dg.2 ⟨p,k,he,rfl⟩;have hs:=(hM.rcv _ hmem hk).2;have hf:=hV.formed _ hmem;simp only at hs hf;have hpeer:0<=e.peer:=by
  rcases hf with h|⟨_,h,_⟩
  .omega
  .exact h
 obtain⟨q,hq⟩:∃q:Nat,e.peer=q:=⟨e.peer.toNat,by omega⟩
 rw[hq]at hs;obtain⟨j,y,hat,h1,h2,h3⟩:=AR.1 hs;have:=hM.snd (⟨q,j+1⟩,y) (dg.2 ⟨q,j,hat,rfl⟩) h1;simp only at this;rw[h2]at this;exact⟨q,j,y,hat,h1,h2,h3,hq,this⟩
end Go.VE
namespace Go.VE
def Cons (t:Trace) (A:aC 200 aH) (c:List Int):Prop:=vn t c/\vv t A c
end Go.VE
namespace Go.VE
def places {α:Type} (f:α->Bool) (l:List α):List Nat:=(List.range l.length).filter λk=>match l[k]? with|some x=>f x|none=>false
end Go.VE
namespace Go.VE
end Go.VE
namespace Go.VE
def qD (kind m:Int) (x:aa×Event):Bool:=x.2.kind==kind&&x.2.message==m
def kM (t:Trace) (kind m:Int):aa:=match (aT t).find? (qD kind m)with
 | some x=>x.1
 | none=>⟨0,0⟩
theorem GQ {t:Trace} {kind m:Int} {p:Nat} {P:bt} (hp8:p<9223372036854775806) (hP:t.procs.l[p]? = some P) (hl:P.events.l.length<1073741824):∀(q i:Nat),i+q=P.events.l.length ->
 aZ (λq:Int=>cC.bq kind m p t ⟨0,0⟩ q) (i:Int)=some (match (gm p i (P.events.l.drop i)).find? (qD kind m)with|some x=>.r x.1|none=>.x ()):=by
 have hix:idx t.procs (p:Int)=some P:=by rw[oh];exact hP
 intro q
 induction q with
 | zero=>
  intro i hi;rw[gK];unfold cC.bq;rw[hix,ζb,show decide ((i:Int)<len P.events)=false from by simp[len];omega,bg,List.drop_of_length_le (by omega)]
  rfl
 | succ q ih=>
  intro i hi;have hil:i<P.events.l.length:=by omega
  rw[gK];have hs:cC.bq kind m p t ⟨0,0⟩ i=some (if qD kind m (⟨p,(i:Int)+1⟩,P.events.l[i])then .r ⟨p,(i:Int)+1⟩else .n ((i+1:Nat):Int)):=by
   unfold cC.bq;rw[hix,ζb,show decide ((i:Int)<len P.events)=true from by simp[len];omega,aY,ζb,aX hil,ζb,ko,ζb,bY i (by omega),qW]
   rfl
  rw[hs,ζb,List.drop_eq_getElem_cons hil];simp only[gm,List.find?_cons]
  cases hh:qD kind m (⟨p,(i:Int)+1⟩,P.events.l[i])with
  | true=>rfl
  | false=>
   simp only[Bool.false_eq_true,if_false];exact ih (i+1) (by omega)
theorem Iw {t:Trace} (hS:Small t) {kind m:Int}:∀(q p:Nat),p+q=t.procs.l.length ->
 aZ (λq:Int=>cC.aB kind m t ⟨0,0⟩ q) (p:Int)=some (match (dS p (t.procs.l.drop p)).find? (qD kind m)with|some x=>.r x.1|none=>.x ()):=by
 have h1:=hS.1;intro q
 induction q with
 | zero=>
  intro p hp;rw[gK];unfold cC.aB;rw[show decide ((p:Int)<len t.procs)=false from by simp[len];omega,bg,List.drop_of_length_le (by omega)]
  rfl
 | succ q ih=>
  intro p hp;have hpl:p<t.procs.l.length:=by omega
  have hw:aZ (λq:Int=>cC.bq kind m p t ⟨0,0⟩ q) 0=some (match (gm p 0 t.procs.l[p].events.l).find? (qD kind m)with|some x=>.r x.1|none=>.x ()):=GQ (t:=t) (kind:=kind) (m:=m) (by omega) (ζd hpl) (hS.2 _ (List.getElem_mem hpl)).1 (t.procs.l[p].events.l.length) 0 (by omega)
  rw[gK];unfold cC.aB;rw[show decide ((p:Int)<len t.procs)=true from by simp[len];omega,aY]
  unfold cC.W2;rw[hw,List.drop_eq_getElem_cons hpl];simp only[dS,List.find?_append]
  cases hf:(gm p 0 t.procs.l[p].events.l).find? (qD kind m)with
  | some x=>rfl
  | none=>
   simp only[ζb,Fw.elim,Option.none_or];rw[bY p (by omega)]
   exact ih (p+1) (by omega)
theorem find_eq {t:Trace} (hS:Small t) (kind m:Int):cC t kind m=some (kM t kind m):=by
 unfold cC cC.W1;have hw:aZ (λq:Int=>cC.aB kind m t ⟨0,0⟩ q) 0=some (match (aT t).find? (qD kind m)with|some x=>.r x.1|none=>.x ()):=Iw hS (kind:=kind) (m:=m) t.procs.l.length 0 (by omega)
 rw[hw];unfold kM;cases (aT t).find? (qD kind m) <;> rfl
theorem AA {t:Trace} {kind m:Int} {x:aa×Event} (h:(aT t).find? (qD kind m)=some x):x∈aT t/\x.2.kind=kind/\x.2.message=m/\kM t kind m=x.1:=by
 have h1:=List.find?_some h;simp only[qD,ζh,beq_iff_eq]at h1;exact⟨List.mem_of_find?_eq_some h,h1.1,h1.2,by unfold kM;rw[h]⟩
theorem Ff {t:Trace} {kind m:Int} {x:aa×Event} (hx:x∈aT t) (hk:x.2.kind=kind) (hm:x.2.message=m):∃y,(aT t).find? (qD kind m)=some y:=by
 cases hf:(aT t).find? (qD kind m)with
 | some y=>exact⟨y,rfl⟩
 | none=>
  rw[List.find?_eq_none]at hf;exact absurd (hf x hx) (by simp[qD,hk,hm])
theorem MT {t:Trace} {p k:Nat} {e:Event} (h:lN t p k e) (hk:k<9223372036854775807):r_ t ⟨p,k+1⟩=some e:=by
 obtain⟨P,hP,he⟩:=h;unfold r_;dsimp only;rw[show idx t.procs (p:Int)=some P from by rw[oh];exact hP,ζb,show IntKind.wrap .i64 ((k:Int)+1-1)=(k:Int)from by rw[mF _ (by omega) (by omega)];omega,show idx P.events (k:Int)=some e from by rw[oh];exact he]
 rfl
def s9 (t:Trace) (x:aa×Event):Int:=if x.2.kind=1 then 0 else if kM t x.2.kind x.2.message=x.1 then(if x.2.kind=3 then(if qI t x.2.peer x.2.message x.1.proc then 0 else 7)else 0)else 8
theorem JF {t:Trace} (hS:Small t) {p k:Nat} {e:Event} (h:lN t p k e) (hF:jh t.procs.l.length p e):fW t ⟨p,k+1⟩=some (s9 t (⟨p,k+1⟩,e)):=by
 have hk:k<1073741824:=by
  obtain⟨P,hP,he⟩:=h;have:=(hS.2 P (List.mem_of_getElem? hP)).1;have:=(ζe.1 he).1;omega
 unfold fW s9;rw[MT h (by omega),ζb]
 dsimp only
 by_cases h1:e.kind=1
 .rw[show (e.kind==1)=true from by simp[h1],aY,if_pos h1]
 .rw[show (e.kind==1)=false from by simp[h1],bg,if_neg h1,find_eq hS,ζb]
  have hev:Gx (kM t e.kind e.message) ⟨p,(k:Int)+1⟩=decide (kM t e.kind e.message=⟨p,(k:Int)+1⟩):=by
   unfold Gx;rw[Bool.eq_iff_iff];cases kM t e.kind e.message;simp
  rw[hev]
  by_cases h2:kM t e.kind e.message=⟨p,(k:Int)+1⟩
  .rw[if_pos h2,show decide (kM t e.kind e.message=⟨p,(k:Int)+1⟩)=true from by simpa using h2,aY]
   by_cases h3:e.kind=3
   .rw[if_pos h3,show (e.kind==3)=true from by simp[h3],aY]
    have hpe:0<=e.peer/\e.peer<t.procs.l.length:=by
     rcases hF with h|⟨_,h1,h2,_⟩
     .exact absurd h h1
     .exact⟨h1,h2⟩
    have hq:e.peer.toNat<t.procs.l.length:=by omega
    have hQ:=ζd hq;have hql:=(hS.2 _ (List.getElem_mem hq)).1;generalize hQe:t.procs.l[e.peer.toNat]=Q at *;have hix:idx t.procs e.peer=some Q:=by rw[KR hpe.1];exact hQ
    have hsb:qI t e.peer e.message p=Q.events.l.any λs=>s.kind==2&&s.message==e.message&&s.peer==p:=by
     unfold qI;rw[hQ]
    unfold fW.W1;refine Wp.eq (gE (λz:Bool×Int=>∃m:Nat,z.2=m/\m<=Q.events.l.length/\z.1=(Q.events.l.take m).any λs=>s.kind==2&&s.message==e.message&&s.peer==p) (λz=>Q.events.l.length-z.2.toNat) ⟨0,rfl,Nat.zero_le _,rfl⟩ ?_)
    rintro⟨s,i⟩ ⟨m,hi,hm,hs⟩;simp only at hi hs;subst hi;unfold fW.aB;dsimp only;rw[hix,ζb,bD];constructor
    .intro hl;have hml:m<Q.events.l.length:=by simpa [len]using hl
     have hw:=bY m (by omega)
     rw[ζb,aX hml,ζb,ko,ζb,ko,ζb,iX,ζb,af];refine⟨⟨m+1,hw,by omega,?_⟩,by show _-(IntKind.wrap .i64 ((m:Int)+1)).toNat<_;rw[hw];simp;omega⟩
     show (s||_)=_;rw[List.take_add_one,ζd hml,List.any_append,hs];simp
    .intro hl;have hml:Q.events.l.length<=m:=by simpa [len]using hl
     rw[List.take_of_length_le hml]at hs;refine(af _).2 ?_;rw[hsb,<-hs];cases s
     .exact(af _).2 rfl
     .exact(af _).2 rfl
   .rw[if_neg h3,show (e.kind==3)=false from by simp[h3],bg]
  .rw[if_neg h2,show decide (kM t e.kind e.message=⟨p,(k:Int)+1⟩)=false from by simpa using h2,bg]
theorem G0 {t:Trace} (hF:∀x∈aT t,jh t.procs.l.length x.1.proc x.2):(∀x∈aT t,s9 t x=0)↔vz t:=by
 constructor
 .intro h;have key:∀x∈aT t,x.2.kind≠1->kM t x.2.kind x.2.message=x.1:=λx hx hk=>by
   have:=h x hx;unfold s9 at this;rw[if_neg hk]at this;split at this
   .assumption
   .cases this
  refine⟨λx hx y hy kx ky hm=>?_,λx hx y hy kx ky hm=>?_,λx hx kx=>?_⟩
  .rw[<-key x hx (by omega),<-key y hy (by omega),kx,ky,hm]
  .rw[<-key x hx (by omega),<-key y hy (by omega),kx,ky,hm]
  .have:=h x hx;unfold s9 at this;rw[if_neg (by omega),if_pos (key x hx (by omega)),if_pos kx]at this
   split at this
   .assumption
   .cases this
 .intro h x hx;unfold s9
  by_cases k1:x.2.kind=1
  .rw[if_pos k1]
  .rw[if_neg k1];obtain⟨y,hy⟩:=Ff hx rfl rfl;obtain⟨y1,y2,y3,y4⟩:=AA hy;have hk:x.2.kind=2\/x.2.kind=3:=by
    rcases hF x hx with h|⟨h,_⟩
    .exact absurd h k1
    .exact h
   have he:kM t x.2.kind x.2.message=x.1:=by
    rw[y4];rcases hk with hk|hk
    .exact h.snd y y1 x hx (by rw[y2,hk]) hk y3
    .exact h.rcv y y1 x hx (by rw[y2,hk]) hk y3
   rw[if_pos he]
   by_cases k3:x.2.kind=3
   .rw[if_pos k3,if_pos (h.has x hx k3)]
   .rw[if_neg k3]
end Go.VE
namespace Go.VE
theorem yU {t:Trace} (hF:∀x∈aT t,jh t.procs.l.length x.1.proc x.2) (hP:vz t) {z:aa} {f:Event} (hz:(z,f)∈aT t) (hk:f.kind=3):∃e,(kM t 2 f.message,e)∈aT t/\e.kind=2/\e.message=f.message:=by
 have h:=hP.has _ hz hk;have hp:0<=f.peer:=by
  rcases hF _ hz with h|⟨_,h,_⟩
  .simp only at h;omega
  .exact h
 rw[show f.peer=((f.peer.toNat:Nat):Int)from by omega,AR]at h
 obtain⟨k,e,ha,h1,h2,_⟩:=h;obtain⟨y,hy⟩:=Ff (dg.2 ⟨_,k,ha,rfl⟩:((⟨(f.peer.toNat:Nat),k+1⟩:aa),e)∈aT t) h1 h2;obtain⟨y1,y2,y3,y4⟩:=AA hy;exact⟨y.2,by rw[y4];exact y1,y2,y3⟩
theorem Ec.find {t:Trace} (hF:∀x∈aT t,jh t.procs.l.length x.1.proc x.2) (hP:vz t) {y z:aa} {f:Event} (h:Ec t y z) (hz:(z,f)∈aT t):f.kind=3/\kM t 2 f.message=y:=by
 obtain⟨e,f',h1,h2,h3,h4,h5⟩:=h;cases zB h2 hz rfl;obtain⟨e',a1,a2,a3⟩:=yU hF hP hz h4;exact⟨h4,hP.snd _ a1 _ h1 a2 h3 (by rw[a3,h5])⟩
theorem zq {t:Trace} (hS:Small t) (hF:∀x∈aT t,jh t.procs.l.length x.1.proc x.2) (hP:vz t) {z:aa} (hz:Vd t z) :
 Wp (cA t z) λs=>s.l.length<=2/\∀y,y∈s.l↔Edge t y z:=by
 obtain⟨p,k,f,hat,rfl,hmem⟩:=hz.at_;have hk:k<1073741824:=by
  obtain⟨P,hP,he⟩:=hat;have:=(hS.2 P (List.mem_of_getElem? hP)).1;have:=(ζe.1 he).1;omega
 have j:∀s:Sl aa,s.l.length<=1->(∀y,y∈s.l↔Vd t y/\(⟨p,k+1⟩:aa)=⟨y.proc,y.index+1⟩)->Wp (cA.J1 s t ⟨p,k+1⟩) λs=>s.l.length<=2/\∀y,y∈s.l↔Edge t y ⟨p,k+1⟩:=by
  intro s hs hsy;unfold cA.J1;rw[MT hat (by omega),ζb,bD]
  constructor
  .intro h3;have h3:f.kind=3:=by simpa using h3
   rw[find_eq hS,ζb];unfold i_;rw[if_pos (by omega),ζb,af]
   refine⟨by show (s.l++[_]).length<=2;rw[ζi,List.length_singleton];omega,λy=>?_⟩
   show y∈s.l++[kM t 2 f.message]↔_;rw[List.mem_append,List.mem_singleton,hsy];obtain⟨e,a1,a2,a3⟩:=yU hF hP hmem h3;constructor
   .rintro (h|rfl)
    .exact⟨h.1,hz,.inl h.2⟩
    .exact⟨⟨e,a1⟩,hz,.inr ⟨e,f,a1,hmem,a2,h3,a3⟩⟩
   .rintro⟨h1,_,h2|h2⟩
    .exact .inl ⟨h1,h2⟩
    .exact .inr (h2.find hF hP hmem).2.symm
  .intro h3;refine(af _).2 ⟨by omega,λy=>(hsy y).trans ⟨λh=>⟨h.1,hz,.inl h.2⟩,λ⟨h1,_,h2⟩=>⟨h1,h2.elim id λh2=>?_⟩⟩⟩
   have:=(h2.find hF hP hmem).1;simp[this]at h3
 unfold cA;rw[bD];constructor
 .intro h;have h:(k:Int)+1>1:=by simpa using h
  refine j _ (by simp[Sl.l]) λy=>?_
  have hw:IntKind.wrap .i64 ((k:Int)+1-1)=k:=by rw[mF _ (by omega) (by omega)];omega
  simp only[Sl.l,List.mem_singleton,hw,aa.mk.injEq];constructor
  .rintro rfl;obtain⟨P,hP,he⟩:=hat;have:=(ζe.1 he).1;exact⟨⟨P.events.l[k-1],dg.2 ⟨p,k-1,⟨P,hP,ζd (by omega)⟩,by simp;omega⟩⟩,rfl,rfl⟩
  .rintro⟨_,h1,h2⟩;cases y;simp only at h1 h2;congr 1 <;> omega
 .intro h;have h:¬(k:Int)+1>1:=by simpa using h
  refine j _ (by simp[Sl.l]) λy=>⟨λhy=>by simp[Sl.l]at hy,λ⟨hy,he⟩=>?_⟩
  obtain⟨q,i,f,_,rfl,_⟩:=hy.at_;simp only[aa.mk.injEq]at he;omega
theorem QD {α:Type} {r:α->α->Prop} {x:α} (h:Acc r x):¬Relation.TransGen r x x:=by
 induction h with
 | intro x _ ih=>
  intro h
  cases h with
  | single h=>exact ih x h (.single h)
  | tail h1 h2=>exact ih _ h2 (Relation.TransGen.trans (.single h2) h1)
theorem Gd:∀{d:List Nat} {i k:Nat},d[i]? = some k->(d.set i (k+1)).sum=d.sum+1
 | [],_,_,h=>by simp at h
 | x::d,0,k,h=>by simp at h;subst h;simp;omega
 | x::d,i+1,k,h=>by
  have:=Gd (d:=d) (i:=i) (k:=k) (by simpa using h)
  simp[this];omega
theorem I7:∀{d l:List Nat},d.length=l.length->(∀(i a b:Nat),d[i]? = some a->l[i]? = some b->a<=b)->d.sum<=l.sum
 | [],_,_,_=>by simp
 | x::d,[],h,_=>by simp at h
 | x::d,y::l,h,hh=>by
  have h1:=hh 0 x y rfl rfl;have h2:=I7 (d:=d) (l:=l) (by simpa using h) λi a b ha hb=>hh (i+1) a b (by simpa using ha) (by simpa using hb)
  simp;omega
def nI (d:List Nat):List Int:=d.map Int.ofNat
def sI (s:Sl Int):Nat:=(s.l.map Int.toNat).sum
theorem Du (d:List Nat):sI (.row (nI d))=d.sum:=by
 unfold sI nI;rw[show (Sl.row (d.map Int.ofNat)).l=d.map Int.ofNat from rfl,List.map_map,show (Int.toNat ∘ Int.ofNat)=id from rfl,List.map_id]
theorem JO (d:List Nat):(nI d).length=d.length:=by simp[nI]
structure Kh (t:Trace) (d:List Nat):Prop where
 len:d.length=t.procs.l.length
 le:∀(p k:Nat) P,d[p]? = some k->t.procs.l[p]? = some P->k<=P.events.l.length
 acc:∀(p k j:Nat),d[p]? = some k->j<k->Acc (Edge t) ⟨p,j+1⟩
def pU (t:Trace):Nat:=(t.procs.l.map λP=>P.events.l.length).sum
theorem Kh.sum {t:Trace} {d:List Nat} (h:Kh t d):d.sum<=pU t:=I7 (by simp[h.len]) λi a b ha hb=>by
 rw[List.getElem?_map]at hb
 cases hP:t.procs.l[i]? with
 | none=>simp[hP]at hb
 | some P=>simp[hP]at hb;rw[<-hb];exact h.le i a P ha hP
theorem Ay {d:List Nat} {p:Nat} (h:p<d.length):Sl.kN (.row (nI d)) (p:Int)=some p:=by
 unfold Sl.kN;rw[if_pos ⟨by omega,by simpa [Sl.l,JO]using h⟩];rfl
theorem xI {d:List Nat} {p k:Nat} (h:d[p]? = some k):Sl.get (.row (nI d)) p=some (k:Int):=by
 unfold Sl.get nI;rw[show (Sl.row (d.map Int.ofNat)).l=d.map Int.ofNat from rfl,List.getElem?_map,h];rfl
def Mv (t:Trace) (d0:List Nat) (s:Sl Int) (b:Bool) (d:List Nat):Prop:=s=.row (nI d)/\Kh t d/\d0.sum<=d.sum/\(b=true->d0.sum<d.sum)
def KQ (t:Trace) (d0:List Nat) (p:Nat) (w:Fw (Sl Int×Bool×Int) (Sl Int×Bool) Empty):Prop:=∃s' b' d',w=.n (s',b',((p+1:Nat):Int))/\Mv t d0 s' b' d'
theorem Od {t:Trace} (hS:Small t) (hF:∀x∈aT t,jh t.procs.l.length x.1.proc x.2) (hP:vz t) {d0 d1:List Nat} {s:Sl Int} {b:Bool} {p:Nat} (hp:p<t.procs.l.length) (hM:Mv t d0 s b d1) :
 Wp (b7.W3 s b p t) (KQ t d0 p):=by
 have hix:=aX hp;have hn:=hS.1;have hPl:=(hS.2 _ (List.getElem_mem hp)).1;have hPg:=ζd hp;generalize t.procs.l[p]=P at *;unfold b7.W3;refine gE (λq:Sl Int×Bool=>∃d,Mv t d0 q.1 q.2 d) (λq=>pU t-sI q.1) ⟨d1,hM⟩ ?_
 rintro⟨s,b⟩ ⟨d,rfl,hK,hd,hb⟩;simp only at hb;have hpd:p<d.length:=by rw[hK.len];exact hp
 have hg:=ζd hpd;generalize d[p]=k at hg;have hkl:=hK.le p k P hg hPg;have stop:∀{pr:Empty->Prop},Wp (some (Fw.x (Sl.row (nI d),b))) (Nj (λq:Sl Int×Bool=>∃d,Mv t d0 q.1 q.2 d) (λq=>pU t-sI q.1) (λe=>Wp (some (Fw.n (e.1,e.2,IntKind.wrap .i64 ((p:Int)+1)))) (KQ t d0 p)) pr (Sl.row (nI d),b)):=by
  refine(af _).2 ((af _).2 ⟨_,_,d,?_,rfl,hK,hd,hb⟩);rw[bY p (by omega)]
 unfold b7.fN;rw[Ay hpd,ζb,xI hg,ζb,hix,ζb,bD];refine⟨λh=>?_,λ_=>stop⟩
 have hlt:k<P.events.l.length:=by simpa [Go.VE.len]using h
 have hat:lN t p k P.events.l[k]:=⟨P,hPg,ζd hlt⟩;have hmem:((⟨p,k+1⟩:aa),P.events.l[k])∈aT t:=dg.2 ⟨p,k,hat,rfl⟩;have go:(P.events.l[k].kind=3->∀q j:Nat,kM t 2 P.events.l[k].message=⟨q,j+1⟩->∃k',d[q]? = some k'/\j<k')->∀{px:Sl Int×Bool->Prop} {pr:Empty->Prop},Wp (b7.J4 (.row (nI d)) p t) (Nj (λq:Sl Int×Bool=>∃d,Mv t d0 q.1 q.2 d) (λq=>pU t-sI q.1) px pr (Sl.row (nI d),b)):=by
  intro hq px pr;unfold b7.J4;rw[Ay hpd,ζb,xI hg,ζb,ζb];unfold Sl.put;rw[if_pos (by simpa [Sl.l,JO]using hpd),ζb,af]
  have hset:(nI d).set p (IntKind.wrap .i64 ((k:Int)+1))=nI (d.set p (k+1)):=by
   rw[bY k (by omega)];unfold nI;rw[List.map_set];rfl
  have hsum:=Gd hg;have hK2:Kh t (d.set p (k+1)):=by
   refine⟨by simp[hK.len],λq i Q hi hQ=>?_,λq i j hi hj=>?_⟩
   .rw[List.getElem?_set]at hi;split at hi
    .rename_i e;subst e;cases hi;rw[hPg]at hQ;cases hQ;omega
    .exact hK.le q i Q hi hQ
   .rw[List.getElem?_set]at hi;split at hi
    .rename_i e;subst e;cases hi
     by_cases hjk:j<k
     .exact hK.acc p k j hg hjk
     .have:j=k:=by omega
      subst this;refine Acc.intro _ λy hy=>?_
      obtain⟨hyv,_,he|he⟩:=hy
      .obtain⟨q,i,f,_,rfl,_⟩:=hyv.at_;simp only[aa.mk.injEq]at he;have e1:q=p:=by omega
       subst e1;exact hK.acc q j i hg (by omega)
      .obtain⟨h3,hf⟩:=he.find hF hP hmem;obtain⟨q,i,f,_,rfl,_⟩:=hyv.at_;obtain⟨k',hk',hik⟩:=hq h3 q i hf;exact hK.acc q k' i hk' hik
    .exact hK.acc q i j hi hj
  have hs2:=hK2.sum;refine⟨⟨_,by rw[<-hset],hK2,by rw[hsum];omega,λ_=>by rw[hsum];omega⟩,?_⟩
  show pU t-sI (.row ((nI d).set p (IntKind.wrap .i64 ((k:Int)+1))))<pU t-sI (.row (nI d));rw[hset,Du,Du,hsum];rw[hsum]at hs2;omega
 dsimp only;rw[ζb,ζb,xI hg,ζb,aX hlt,ζb,bD];refine⟨λh3=>?_,λh3=>go λh=>by simp[h]at h3⟩
 have h3:P.events.l[k].kind=3:=by simpa using h3
 obtain⟨e,a1,a2,a3⟩:=yU hF hP hmem h3;obtain⟨q,j,hat2,hqj⟩:=dg.1 a1;simp only at hqj;have hqd:q<d.length:=by
  obtain⟨Q,hQ,_⟩:=hat2;rw[hK.len];exact(ζe.1 hQ).1
 have hgq:=ζd hqd;rw[find_eq hS,ζb,hqj,Ay hqd,ζb,xI hgq,ζb,bD];refine⟨λ_=>stop,λh=>go λ_ q' j' hh=>?_⟩
 rw[hqj]at hh;simp only[aa.mk.injEq]at hh;have e1:q'=q:=by omega
 have e2:j'=j:=by omega
 subst e1 e2;exact⟨_,hgq,by simp at h;omega⟩
theorem HW {t:Trace} (hS:Small t) (hF:∀x∈aT t,jh t.procs.l.length x.1.proc x.2) (hP:vz t):Wp (b7 t) λb=>b=true->¬F_ t:=by
 have hn:=hS.1;unfold b7 sG;rw[if_pos (by simp[len];omega),ζb]
 have h0:(Sl.row (List.replicate (len t.procs).toNat (0:Int)))=.row (nI (List.replicate t.procs.l.length 0)):=by simp[len,nI]
 rw[h0];unfold b7.W1;have hrep:∀(p k:Nat),(List.replicate t.procs.l.length 0)[p]? = some k->k=0:=λp k h=>by
  rw[List.getElem?_replicate]at h;split at h <;> simp at h;exact h.symm
 refine gE (λs:Sl Int=>∃d,s=.row (nI d)/\Kh t d) (λs=>pU t-sI s) ⟨_,rfl,by simp,λp k P h _=>by rw[hrep p k h];omega,λp k j h hj=>by rw[hrep p k h]at hj;omega⟩ ?_
 rintro s ⟨d0,rfl,hK⟩;unfold b7.aB b7.W2;refine gE (λq:Sl Int×Bool×Int=>∃(n:Nat) (d:List Nat),q.2.2=n/\n<=t.procs.l.length/\Mv t d0 q.1 q.2.1 d) (λq=>t.procs.l.length-q.2.2.toNat) ⟨0,d0,rfl,Nat.zero_le _,rfl,hK,Nat.le_refl _,by simp⟩ ?_
 rintro⟨s,b,i⟩ ⟨n,d,hi,hnn,hM⟩;simp only at hi hM;subst hi;unfold b7.bq;rw[bD];constructor
 .intro h;have hlt:n<t.procs.l.length:=by simpa [len]using h
  refine(Od hS hF hP hlt hM).mono ?_;rintro w ⟨s',b',d',rfl,hM'⟩;exact⟨⟨n+1,d',rfl,by omega,hM'⟩,by simp;omega⟩
 .intro _;obtain⟨rfl,hK',hle,hmv⟩:=hM;rw[af];show Wp (ay b _ _) _;rw[bD];refine⟨λhb=>(af _).2 ⟨⟨d,rfl,hK'⟩,?_⟩,λ_=>(af _).2 ?_⟩
  .show pU t-sI (.row (nI d))<pU t-sI (.row (nI d0));rw[Du,Du];have:=hmv hb;have:=hK'.sum;omega
  .show Wp (b7.W5 (.row (nI d)) 0 t) _;unfold b7.W5;refine gE (λi:Int=>∃n:Nat,i=n/\n<=t.procs.l.length/\∀p,p<n->∀P,t.procs.l[p]? = some P->d[p]? = some P.events.l.length) (λi:Int=>t.procs.l.length-i.toNat) ⟨0,rfl,Nat.zero_le _,λp hp=>absurd hp (by omega)⟩ ?_
   rintro i ⟨n,rfl,hn',hh⟩;unfold b7.vB;rw[bD];constructor
   .intro h;have hlt:n<t.procs.l.length:=by simpa [len]using h
    have hnd:n<d.length:=by rw[hK'.len];exact hlt
    have hg:=ζd hnd;rw[Ay hnd,ζb,xI hg,ζb,aX hlt,ζb,bD];refine⟨λ_=>(af _).2 ((af _).2 λh=>by cases h),λh=>(af _).2 ⟨⟨n+1,bY n (by omega),by omega,λp hp P hP=>?_⟩,by rw[bY n (by omega)];simp;omega⟩⟩
    by_cases e:p=n
    .subst e;rw[ζd hlt]at hP;cases hP;have:=hK'.le p _ _ hg (ζd hlt);simp[len]at h;rw[hg];congr 1;omega
    .exact hh p (by omega) P hP
   .intro h;have hge:t.procs.l.length<=n:=by simpa [len]using h
    refine(af _).2 ((af _).2 λ_ ⟨x,hx⟩=>?_)
    obtain⟨p,k,e,⟨P,hP,he⟩,rfl,_⟩:=hx.l.at_;have hpl:=(ζe.1 hP).1;exact QD (hK'.acc p _ k (hh p (by omega) P hP) (ζe.1 he).1) hx
end Go.VE
namespace Go.VE
def oQ (out:List (List Bool)) (y:aa):Bool:=match out[y.proc.toNat]? with
 | some row=>row[y.index.toNat]?.getD false
 | none=>false
theorem xX {t:Trace} {out:List (List Bool)} {p k:Nat} {row:List Bool} (hr:out[p]? = some row) (hk:k+1<row.length) {z:aa} (hz:Vd t z) :
 oQ (out.set p (row.set (k+1) true)) z=(decide (z=⟨p,k+1⟩)||oQ out z):=by
 obtain⟨q,j,e,_,rfl,_⟩:=hz.at_;have hp:=(ζe.1 hr).1;unfold oQ;have e1:(⟨(q:Int),(j:Int)+1⟩:aa).proc.toNat=q:=rfl;have e2:(⟨(q:Int),(j:Int)+1⟩:aa).index.toNat=j+1:=by show ((j:Int)+1).toNat=j+1;omega
 rw[e1,e2,List.getElem?_set]
 by_cases hpq:p=q
 .subst hpq;rw[if_pos rfl,if_pos hp,hr];dsimp only;rw[List.getElem?_set]
  by_cases hkj:k=j
  .subst hkj;simp[hk]
  .rw[if_neg (by omega),show decide ((⟨(p:Int),(j:Int)+1⟩:aa)=⟨p,k+1⟩)=false from by simp;omega,Bool.false_or]
 .rw[if_neg hpq,show decide ((⟨(q:Int),(j:Int)+1⟩:aa)=⟨p,k+1⟩)=false from by simp;omega,Bool.false_or]
theorem wY {α:Type} {f g:α->Bool}:∀{l:List α},(∀z∈l,f z=true->g z=true)->(∃z∈l,f z=false/\g z=true)->l.countP f<l.countP g
 | [],_,⟨z,hz,_⟩=>by simp at hz
 | a::l,h,⟨z,hz,hf,hg⟩=>by
  simp only[List.countP_cons];have hle:=List.countP_mono_left (l:=l) (p:=f) (q:=g) λx hx=>h x (List.mem_cons_of_mem _ hx)
  rcases List.mem_cons.1 hz with rfl|hz
  .simp[hf,hg];omega
  .have:=wY (l:=l) (λx hx=>h x (List.mem_cons_of_mem _ hx)) ⟨z,hz,hf,hg⟩
   have h1:=h a (List.mem_cons_self ..)
   cases hfa:f a with
   | true=>simp[h1 hfa];omega
   | false=>simp;split <;> omega
def cnt (t:Trace) (out:List (List Bool)):Nat:=(aT t).countP λz=>oQ out z.1
structure Tk (t:Trace) (x:aa) (out:List (List Bool)) (rest:List aa):Prop where
 shp:∀(p:Nat) P,t.procs.l[p]? = some P->∃row,out[p]? = some row/\row.length=P.events.l.length+1
 len:out.length=t.procs.l.length
 que:∀y∈rest,Way t y x
 snd:∀y,Vd t y->oQ out y=true->Way t y x
 cls:∀z,z=x\/Vd t z/\oQ out z=true->∀y,Edge t y z->oQ out y=true\/y∈rest
 le:rest.length<=2*cnt t out+2
theorem zl {t:Trace} {y:aa}:oQ (eT t) y=false:=by
 unfold oQ eT;split
 .rename_i row h;rw[List.getElem?_map]at h
  cases hP:t.procs.l[y.proc.toNat]? with
  | none=>simp[hP]at h
  | some P=>
   simp[hP]at h;subst h;rw[List.getElem?_replicate];split <;> rfl
 .rfl
theorem NV {t:Trace} (hS:Small t) (hN:(aT t).length<1073741824) (hF:∀x∈aT t,jh t.procs.l.length x.1.proc x.2) (hP:vz t) {x:aa} (hx:Vd t x) :
 Wp (lG t x) λs=>∃out,s=nested out/\Tk t x out []/\∀y,Vd t y->(oQ out y=true↔Way t y x):=by
 unfold lG;rw[if_pos (by
  unfold wW;simp only[ζh,List.all_eq_true,decide_eq_true_eq];exact⟨by have:=hS.1;omega,λP hP=>by have:=(hS.2 P hP).1;omega⟩),eS]
 refine(zq hS hF hP hx).mono λs hs=>?_
 refine gE (λq:List (List Bool)×List aa=>Tk t x q.1 q.2) (λq=>2*((aT t).length-cnt t q.1)+q.2.length) ⟨λp P hP=>⟨List.replicate (P.events.l.length+1) false,by simp[eT,hP],by simp⟩,by simp[eT],λy hy=>.single ((hs.2 y).1 hy),λy _ h=>(by rw[zl]at h;cases h),λz hz y hy=>?_,by have:=hs.1;show s.l.length<=2*cnt t (eT t)+2;omega⟩ ?_
 .rcases hz with rfl|⟨_,h⟩
  .exact .inr ((hs.2 y).2 hy)
  .rw[zl]at h;cases h
 rintro⟨out,rest⟩ hI
 cases rest with
 | nil=>
  show Wp (some _) _;refine(af _).2 ((af _).2 ⟨out,rfl,hI,λy hy=>⟨hI.snd y hy,λhw=>?_⟩⟩)
  have key:∀w,Way t y w->w=x\/Vd t w/\oQ out w=true->oQ out y=true:=λw hw=>by
   induction hw with
   | single h=>exact λhw=>(hI.cls _ hw _ h).elim id λh=>by cases h
   | tail hyb hbw ih=>exact λhw=>ih (.inr ⟨hbw.1,(hI.cls _ hw _ hbw).elim id λh=>by cases h⟩)
  exact key x hw (.inl rfl)
 | cons y rest=>
  have hyw:=hI.que y (List.mem_cons_self ..);have hyv:=hyw.l;obtain⟨p,k,e,hat,rfl,hmem⟩:=hyv.at_;obtain⟨P,hPp,hk⟩:=hat;have hkl:=(ζe.1 hk).1;obtain⟨row,hr,hrl⟩:=hI.shp p P hPp;have hkr:k+1<row.length:=by omega
  show Wp (mP _ (out,⟨p,k+1⟩::rest)) _;unfold mP;have e2:((k:Int)+1).toNat=k+1:=by omega
  dsimp only;rw[if_pos ⟨by omega,by omega⟩,show ((p:Nat):Int).toNat=p from rfl,e2,hr,ζb,ζd hkr,ζb,bD]
  have hmk:oQ out ⟨p,k+1⟩=row[k+1]:=by
   unfold oQ;rw[show ((⟨(p:Int),(k:Int)+1⟩:aa).proc).toNat=p from rfl,hr];dsimp only;rw[e2,ζd hkr];rfl
  constructor
  .intro hb;rw[af];refine⟨⟨hI.shp,hI.len,λy hy=>hI.que y (List.mem_cons_of_mem _ hy),hI.snd,λz hz y hy=>?_,by have:=hI.le;simp only[List.length_cons]at this;show rest.length<=2*cnt t out+2;omega⟩,Nat.add_lt_add_left (Nat.lt_succ_self _) _⟩
   rcases hI.cls z hz y hy with h|h
   .exact .inl h
   .rcases List.mem_cons.1 h with rfl|h
    .exact .inl (by rw[hmk];exact hb)
    .exact .inr h
  .intro hb;rw[eS];refine(zq hS hF hP hyv).mono λmore hm=>?_
   have hle:=hI.le;simp only[List.length_cons]at hle;have hcl:cnt t out<=(aT t).length:=List.countP_le_length;have hm1:=hm.1;have hlt:cnt t out<cnt t (out.set p (row.set (k+1) true)):=wY (λz hz h=>by rw[xX hr hkr ⟨_,hz⟩,h,Bool.or_true]) ⟨_,hmem,by rw[hmk,hb],by rw[xX hr hkr hyv];simp⟩
   have hcl2:cnt t (out.set p (row.set (k+1) true))<=(aT t).length:=List.countP_le_length;rw[if_pos (by omega),af]
   refine⟨⟨λq Q hQ=>?_,by show (out.set _ _).length=_;rw[List.length_set];exact hI.len,λz hz=>?_,λz hz h=>?_,λz hz y hy=>?_,by show (rest++more.l).length<=_;rw[ζi];show _<=2*cnt t (out.set p (row.set (k+1) true))+2;omega⟩,?_⟩
   .show ∃r,(out.set p (row.set (k+1) true))[q]? = some r/\_;rw[List.getElem?_set];split
    .rename_i e;subst e;rw[if_pos (ζe.1 hr).1];rw[hPp]at hQ;cases hQ;exact⟨_,rfl,by simp[hrl]⟩
    .exact hI.shp q Q hQ
   .rcases List.mem_append.1 hz with hz|hz
    .exact hI.que z (List.mem_cons_of_mem _ hz)
    .exact .trans (.single ((hm.2 z).1 hz)) hyw
   .show Way t z x;have h:oQ (out.set p (row.set (k+1) true)) z=true:=h;rw[xX hr hkr hz]at h;simp only[Bool.or_eq_true,decide_eq_true_eq]at h;rcases h with rfl|h
    .exact hyw
    .exact hI.snd z hz h
   .show oQ (out.set p (row.set (k+1) true)) y=true\/y∈rest++more.l;rw[xX hr hkr hy.1];have old:z=x\/Vd t z/\oQ out z=true->(decide (y=⟨p,k+1⟩)||oQ out y)=true\/y∈rest++more.l:=λhz=>by
     rcases hI.cls z hz y hy with h|h
     .exact .inl (by rw[show oQ out y=true from h,Bool.or_true])
     .rcases List.mem_cons.1 h with rfl|h
      .exact .inl (by simp)
      .exact .inr (List.mem_append_left _ h)
    rcases hz with hz|⟨hzv,hz⟩
    .exact old (.inl hz)
    .have hz:oQ (out.set p (row.set (k+1) true)) z=true:=hz;rw[xX hr hkr hzv]at hz;simp only[Bool.or_eq_true,decide_eq_true_eq]at hz;rcases hz with rfl|hz
     .exact .inr (List.mem_append_right _ ((hm.2 y).2 hy))
     .exact old (.inr ⟨hzv,hz⟩)
   .show 2*((aT t).length-cnt t (out.set p (row.set (k+1) true)))+(rest++more.l).length<2*((aT t).length-cnt t out)+(_::rest).length;rw[ζi,List.length_cons];omega
theorem Sg {t:Trace} (hS:Small t) (hN:(aT t).length<1073741824) (hF:∀x∈aT t,jh t.procs.l.length x.1.proc x.2) (hP:vz t):Wp (bR.W6 0 t ⟨0,0⟩) λr=>(r.2=0↔¬F_ t):=by
 have hn:=hS.1;unfold bR.W6;refine gE (λi:Int=>∃n:Nat,i=n/\n<=t.procs.l.length/\∀(p k:Nat) e,p<n->lN t p k e->¬Way t ⟨p,k+1⟩ ⟨p,k+1⟩) (λi:Int=>t.procs.l.length-i.toNat) ⟨0,rfl,Nat.zero_le _,λp k e hp=>absurd hp (by omega)⟩ ?_
 rintro i ⟨n,rfl,hnn,hh⟩;unfold bR.GK;rw[bD];constructor
 .intro h;have hlt:n<t.procs.l.length:=by simpa [len]using h
  have hix:=aX hlt;have hPg:=ζd hlt;have hPl:=(hS.2 _ (List.getElem_mem hlt)).1;generalize t.procs.l[n]=P at *;unfold bR.W7;refine gE (λi:Int=>∃m:Nat,i=m/\m<=P.events.l.length/\∀k,k<m->¬Way t ⟨n,k+1⟩ ⟨n,k+1⟩) (λi:Int=>P.events.l.length-i.toNat) ⟨0,rfl,Nat.zero_le _,λk hk=>absurd hk (by omega)⟩ ?_
  rintro i ⟨m,rfl,hm,hk⟩;unfold bR.GO;rw[hix,ζb,bD];constructor
  .intro h;have hml:m<P.events.l.length:=by simpa [len]using h
   have hw:=bY m (by omega)
   have hv:Vd t ⟨n,m+1⟩:=⟨P.events.l[m],dg.2 ⟨n,m,⟨P,hPg,ζd hml⟩,rfl⟩⟩;rw[hw,show (((m+1:Nat)):Int)=(m:Int)+1 from by simp,eS]
   refine(NV hS hN hF hP hv).mono ?_;rintro s ⟨out,rfl,hI,hmk⟩;obtain⟨row,hr,hrl⟩:=hI.shp n P hPg;have hon:out≠[]:=by rintro rfl;cases hr
   have hkr:m+1<row.length:=by omega
   have h1:idx (nested out) (n:Int)=some (.row row):=by
    unfold nested;rw[if_neg hon,oh];show (out.map Sl.row)[n]? = _;rw[List.getElem?_map,hr];rfl
   have h2:idx (Sl.row row) ((m:Int)+1)=some row[m+1]:=by
    rw[show (m:Int)+1=((m+1:Nat):Int)from by simp]
    exact aX (s:=Sl.row row) hkr
   rw[h1,ζb,h2,ζb,bD];have hb:row[m+1]=oQ out ⟨n,m+1⟩:=by
    unfold oQ;rw[show ((⟨(n:Int),(m:Int)+1⟩:aa).proc).toNat=n from rfl,hr];dsimp only;rw[show ((m:Int)+1).toNat=m+1 from by omega,ζd hkr];rfl
   rw[hb];refine⟨λhy=>(af _).2 ((af _).2 ((af _).2 ⟨λh=>(by cases h),λh=>absurd ⟨_,(hmk _ hv).1 hy⟩ h⟩)),λhy=>(af _).2 ⟨⟨m+1,by simp,by omega,λk hkm=>?_⟩,by simp;omega⟩⟩
   by_cases e:k=m
   .subst e;exact λhw=>by rw[(hmk _ hv).2 hw]at hy;cases hy
   .exact hk k (by omega)
  .intro h;have hge:P.events.l.length<=m:=by simpa [len]using h
   refine(af _).2 ((af _).2 ⟨⟨n+1,bY n (by omega),by omega,λp k e hp hat=>?_⟩,by rw[bY n (by omega)];simp;omega⟩)
   by_cases e:p=n
   .subst e;obtain⟨Q,hQ,he⟩:=hat;rw[hPg]at hQ;cases hQ;have:=(ζe.1 he).1;exact hk k (by omega)
   .exact hh p k _ (by omega) hat
 .intro h;have hge:t.procs.l.length<=n:=by simpa [len]using h
  refine(af _).2 ((af _).2 ⟨λ_ ⟨x,hx⟩=>?_,λ_=>rfl⟩)
  obtain⟨p,k,e,hat,rfl,_⟩:=hx.l.at_;obtain⟨P,hP,_⟩:=id hat;exact hh p k e (by have:=(ζe.1 hP).1;omega) hat hx
end Go.VE
namespace Go.VE
theorem DW {t:Trace} (hF:∀x∈aT t,jh t.procs.l.length x.1.proc x.2):(∀(p k:Nat) e,lN t p k e->s9 t (⟨p,k+1⟩,e)=0)↔vz t:=
 Iff.trans ⟨λh x hx=>by obtain⟨p,k,h1,h2⟩:=dg.1 hx;obtain⟨a,e⟩:=x;simp only at h1 h2;rw[h2];exact h p k e h1,λh p k e ha=>h _ (dg.2 ⟨p,k,ha,rfl⟩)⟩ (G0 hF)
theorem JW {t:Trace} (hS:Small t) (hN:(aT t).length<1073741824):Wp (bR t) λr=>(r.2=0↔Ok t):=by
 have hn:=hS.1;unfold bR;rw[iX,ζb,bD];refine⟨λhin=>(af _).2 ⟨λh=>(by cases h),λh=>?_⟩,λhin=>?_⟩
 .have h1:=h.one;have h8:=h.few;simp only[Bool.or_eq_true,decide_eq_true_eq,len]at hin;omega
 have h8:1<=t.procs.l.length/\t.procs.l.length<=8:=by
  simp only[Bool.or_eq_false_iff,decide_eq_false_iff_not,len]at hin;omega
 unfold bR.W1;refine gE (λi:Int=>∃n:Nat,i=n/\n<=t.procs.l.length/\∀p,p<n->rG t p=0) (λi:Int=>t.procs.l.length-i.toNat) ⟨0,rfl,Nat.zero_le _,λp hp=>absurd hp (by omega)⟩ ?_
 rintro i ⟨n,rfl,hnn,hh⟩;unfold bR.aB;rw[bD];constructor
 .intro h;have hlt:n<t.procs.l.length:=by simpa [len]using h
  rw[Mz hS hlt,ζb,bD];refine⟨λh0=>(af _).2 ⟨⟨n+1,bY n (by omega),by omega,λp hp=>?_⟩,by rw[bY n (by omega)];simp;omega⟩,λh0=>(af _).2 ((af _).2 ⟨λh=>?_,λh=>?_⟩)⟩
  .by_cases e:p=n
   .subst e;simpa using h0
   .exact hh p (by omega)
  .simp only at h;simp[h]at h0
  .simp[h.heads n hlt]at h0
 intro h;have hge:t.procs.l.length<=n:=by simpa [len]using h
 rw[af];unfold bR.W2;refine gE (λi:Int=>∃n:Nat,i=n/\n<=t.procs.l.length/\∀(p k:Nat) P e,p<n->t.procs.l[p]? = some P->P.events.l[k]? = some e->nQ t.procs.l.length P p k e=0) (λi:Int=>t.procs.l.length-i.toNat) ⟨0,rfl,Nat.zero_le _,λp k P e hp=>absurd hp (by omega)⟩ ?_
 rintro i ⟨n',rfl,hnn',he⟩;unfold bR.bq;rw[bD];constructor
 .intro h;have hlt:n'<t.procs.l.length:=by simpa [len]using h
  have hix:=aX hlt;have hPg:=ζd hlt;have hPl:=(hS.2 _ (List.getElem_mem hlt)).1;generalize t.procs.l[n']=P at hix hPg hPl;unfold bR.W3;refine gE (λi:Int=>∃m:Nat,i=m/\m<=P.events.l.length/\∀(k:Nat) e,k<m->P.events.l[k]? = some e->nQ t.procs.l.length P n' k e=0) (λi:Int=>P.events.l.length-i.toNat) ⟨0,rfl,Nat.zero_le _,λk e hk=>absurd hk (by omega)⟩ ?_
  rintro i ⟨m,rfl,hm,hk⟩;unfold bR.fN;rw[hix,ζb,bD];constructor
  .intro h;have hml:m<P.events.l.length:=by simpa [len]using h
   have hmg:=ζd hml;have hw:=bY m (by omega)
   rw[Lo hS hPg hmg,ζb,bD];refine⟨λh0=>(af _).2 ⟨⟨m+1,hw,by omega,λk e hkm hke=>?_⟩,by rw[hw];simp;omega⟩,λh0=>(af _).2 ((af _).2 ((af _).2 ⟨λh=>?_,λh=>?_⟩))⟩
   .by_cases ek:k=m
    .subst ek;rw[hmg]at hke;cases hke;simpa using h0
    .exact hk k e (by omega) hke
   .simp only at h;simp[h]at h0
   .simp[h.ec n' m P _ hPg hmg]at h0
  .intro h;have hge':P.events.l.length<=m:=by simpa [len]using h
   refine(af _).2 ((af _).2 ⟨⟨n'+1,bY n' (by omega),by omega,λp k Q e hp hQ hke=>?_⟩,by rw[bY n' (by omega)];simp;omega⟩)
   by_cases ep:p=n'
   .subst ep;rw[hPg]at hQ;cases hQ;exact hk k e (by have:=(ζe.1 hke).1;omega) hke
   .exact he p k Q e (by omega) hQ hke
 intro h;have hge':t.procs.l.length<=n':=by simpa [len]using h
 have he:∀(p k:Nat) P e,t.procs.l[p]? = some P->P.events.l[k]? = some e->nQ t.procs.l.length P p k e=0:=λp k P e hP hk=>he p k P e (by have:=(ζe.1 hP).1;omega) hP hk
 have hF:=Cn he;rw[af];unfold bR.W4;refine gE (λi:Int=>∃n:Nat,i=n/\n<=t.procs.l.length/\∀(p k:Nat) e,p<n->lN t p k e->s9 t (⟨p,k+1⟩,e)=0) (λi:Int=>t.procs.l.length-i.toNat) ⟨0,rfl,Nat.zero_le _,λp k e hp=>absurd hp (by omega)⟩ ?_
 rintro i ⟨q,rfl,hq,hpr⟩;unfold bR.Ga;rw[bD];constructor
 .intro h;have hlt:q<t.procs.l.length:=by simpa [len]using h
  have hix:=aX hlt;have hPg:=ζd hlt;have hPl:=(hS.2 _ (List.getElem_mem hlt)).1;generalize t.procs.l[q]=P at hix hPg hPl;unfold bR.W5;refine gE (λi:Int=>∃m:Nat,i=m/\m<=P.events.l.length/\∀(k:Nat) e,k<m->P.events.l[k]? = some e->s9 t (⟨q,k+1⟩,e)=0) (λi:Int=>P.events.l.length-i.toNat) ⟨0,rfl,Nat.zero_le _,λk e hk=>absurd hk (by omega)⟩ ?_
  rintro i ⟨m,rfl,hm,hk⟩;unfold bR.vB;rw[hix,ζb,bD];constructor
  .intro h;have hml:m<P.events.l.length:=by simpa [len]using h
   have hmg:=ζd hml;have hw:=bY m (by omega)
   have hat:lN t q m P.events.l[m]:=⟨P,hPg,hmg⟩;rw[hw,show (((m+1:Nat)):Int)=(m:Int)+1 from by simp,JF hS hat (hF (⟨q,m+1⟩,P.events.l[m]) (dg.2 ⟨q,m,hat,rfl⟩)),ζb,bD]
   refine⟨λh0=>(af _).2 ⟨⟨m+1,by simp,by omega,λk e hkm hke=>?_⟩,by simp;omega⟩,λh0=>(af _).2 ((af _).2 ((af _).2 ⟨λh=>?_,λh=>?_⟩))⟩
   .by_cases ek:k=m
    .subst ek;rw[hmg]at hke;cases hke;simpa using h0
    .exact hk k e (by omega) hke
   .simp only at h;simp[h]at h0
   .simp[(DW hF).2 h.Jg q m _ hat]at h0
  .intro h;have hge':P.events.l.length<=m:=by simpa [len]using h
   refine(af _).2 ((af _).2 ⟨⟨q+1,bY q (by omega),by omega,λp k e hp hat=>?_⟩,by rw[bY q (by omega)];simp;omega⟩)
   by_cases ep:p=q
   .subst ep;obtain⟨Q,hQ,hke⟩:=hat;rw[hPg]at hQ;cases hQ;exact hk k e (by have:=(ζe.1 hke).1;omega) hke
   .exact hpr p k e (by omega) hat
 intro h;have hgq:t.procs.l.length<=q:=by simpa [len]using h
 have hP:vz t:=(DW hF).1 λp k e hat=>hpr p k e (by obtain⟨P,hP,_⟩:=hat;have:=(ζe.1 hP).1;omega) hat
 have hok:¬F_ t↔Ok t:=⟨λh=>⟨h8.1,h8.2,λp hp=>hh p (by omega),he,hP,h⟩,λh=>h.acyc⟩
 rw[af,eS];refine(HW hS hF hP).mono λb hb=>?_
 rw[bD];exact⟨λh=>(af _).2 ⟨λ_=>hok.1 (hb h),λ_=>rfl⟩,λ_=>(Sg hS hN hF hP).mono λr hr=>hr.trans hok⟩
theorem Jo {t:Trace} (hS:Small t) (hN:(aT t).length<1073741824):∃b,fu t=some b/\qv t=some b/\(b=true->VT t):=by
 obtain⟨b,hb,h1,h2⟩:=KW hS hN;refine⟨b,hb,?_,h1⟩;unfold qv;obtain⟨r,hr,h3⟩:=JW hS hN;rw[hr,ζb]
 congr 1
 rw[Bool.eq_iff_iff,beq_iff_eq,h3];exact⟨h2,λh=>(h1 h).ok⟩
end Go.VE
namespace Go.VE
theorem KI {t:Trace} (hS:Small t) {c:Sl Int} (hcl:c.l.length=t.procs.l.length) {step:Int->Option (Fw Int Unit Unit)}
 (hs:∀i,step i=ay (decide (i<(len c))) ((idx c i).bind λx_1=>(ay (decide (x_1<0)) (some true) ((idx c i).bind λx_2=>(idx t.procs i).bind λx_3=>some (decide (x_2>(len x_3.events)))):Option Bool).bind λx_4=>ay x_4 (some (.r ())) (some (.n (IntKind.wrap .i64 (i+1))))) (some (.x ()))) :
 Wp ((aZ step 0).bind (Fw.elim (λ_=>some true) (λ_=>some false))) λb=>(b=true↔vn t c.l):=by
 have h1:=hS.1;refine gE (λs:Int=>∃n:Nat,s=n/\n<=c.l.length/\∀(p:Nat) (a:Int) (P:bt),p<n->c.l[p]? = some a->t.procs.l[p]? = some P->0<=a/\a<=P.events.l.length) (λs:Int=>c.l.length-s.toNat) ⟨0,rfl,Nat.zero_le _,λp a P h=>absurd h (by omega)⟩ ?_
 rintro s ⟨n,rfl,hn,hI⟩;rw[hs,bD];constructor
 .intro h;have hlt:n<c.l.length:=by simpa [len]using h
  have hlt2:n<t.procs.l.length:=by omega
  have hw:=bY n (by omega)
  rw[aX hlt,ζb,ζb,aX hlt2,ζb,iX,ζb,bD];constructor
  .intro hb;have hb:c.l[n]<0\/c.l[n]>t.procs.l[n].events.l.length:=by simpa [len]using hb
   refine(af _).2 ((af _).2 ⟨λh=>(by cases h),λhR=>?_⟩)
   have:=hR.2 n _ _ (ζd hlt) (ζd hlt2);omega
  .intro hb;have hb:0<=c.l[n]/\c.l[n]<=t.procs.l[n].events.l.length:=by simpa [len]using hb
   refine(af _).2 ⟨⟨n+1,hw,by omega,λp a P hp ha hP=>?_⟩,by rw[hw];simp;omega⟩
   by_cases e:p=n
   .subst e;rw[ζd hlt]at ha;cases ha;rw[ζd hlt2]at hP;cases hP;exact hb
   .exact hI p a P (by omega) ha hP
 .intro h;have hge:c.l.length<=n:=by simpa [len]using h
  refine(af _).2 ((af _).2 ⟨λ_=>⟨hcl,λp a P ha hP=>hI p a P (by have:=(ζe.1 ha).1;omega) ha hP⟩,λ_=>rfl⟩)
theorem OK {t:Trace} (hS:Small t) {c:Sl Int} (hcl:c.l.length=t.procs.l.length):Wp (lz t c) λb=>(b=true↔vn t c.l):=by
 unfold lz;rw[show (len c==len t.procs)=true from by simp[len,hcl],aY]
 exact KI hS hcl λi=>rfl
theorem Ka {t:Trace} (hV:VT t) {A:aC 200 aH} (hM:gu t (aT t) A) {p k:Nat} {e:Event} (hat:lN t p k e) (hk:e.kind=3):kM t 2 e.message=(ag A e.message).from_:=by
 obtain⟨y,h1,h2,h3⟩:=yU hV.formed hV.ok.Jg (dg.2 ⟨p,k,hat,rfl⟩:((⟨p,k+1⟩:aa),e)∈aT t) hk;have:=hM.snd _ h1 h2;simp only[h3]at this;exact this.symm
end Go.VE
namespace Go.VE
theorem gB {σ ε ρ γ:Type} {step:σ->Option (Fw σ ε ρ)} {fx:ε->Option γ} {fr:ρ->Option γ} {P:γ->Prop} (n:Nat) (I:Nat->σ->Prop) {s:σ} (h0:I 0 s)
 (h:∀i s,i<n->I i s->Wp (step s) λw=>match w with|.n s'=>I (i+1) s'|.x e=>Wp (fx e) P|.r b=>Wp (fr b) P)
 (hn:∀s,I n s->Wp (step s) λw=>match w with|.n _=>False|.x e=>Wp (fx e) P|.r b=>Wp (fr b) P):Wp ((aZ step s).bind (Fw.elim fx fr)) P:=by
 have key:∀m i s,i+m=n->I i s->Wp ((aZ step s).bind (Fw.elim fx fr)) P:=by
  intro m
  induction m with
  | zero=>
   intro i s hi hI;obtain⟨w,hw,hr⟩:=hn s (by rw[<-hi];exact hI)
   rw[gK,hw]
   cases w with
   | n s'=>exact hr.elim
   | x e=>exact hr
   | r b=>exact hr
  | succ m ih=>
   intro i s hi hI;obtain⟨w,hw,hr⟩:=h i s (by omega) hI
   rw[gK,hw]
   cases w with
   | n s'=>exact ih (i+1) s' (by omega) hr
   | x e=>exact hr
   | r b=>exact hr
 exact key n 0 s (Nat.zero_add n) h0
theorem tK:∀{c:List Int} {p:Nat} {a b:Int},c[p]? = some a->(c.set p b).sum=c.sum-a+b
 | [],_,_,_,h=>by simp at h
 | x::c,0,a,b,h=>by simp at h;subst h;simp;omega
 | x::c,p+1,a,b,h=>by
  have:=tK (c:=c) (p:=p) (b:=b) (by simpa using h)
  simp only[List.set_cons_succ,List.sum_cons,this];omega
theorem oO:∀{c:List Int},(∀(p:Nat) a,c[p]? = some a->0<=a)->0<=c.sum
 | [],_=>by simp
 | x::c,h=>by
  have h1:=h 0 x rfl;have h2:=oO (c:=c) λp a ha=>h (p+1) a (by simpa using ha)
  simp only[List.sum_cons];omega
theorem zQ:∀{c:List Int},(∀(p:Nat) a,c[p]? = some a->0<=a)->c.sum=0->∀(p:Nat) a,c[p]? = some a->a=0
 | [],_,_,p,a,ha=>by simp at ha
 | x::c,h,hs,p,a,ha=>by
  have h1:=h 0 x rfl;have hc:∀(p:Nat) a,c[p]? = some a->0<=a:=λp a ha=>h (p+1) a (by simpa using ha)
  have h2:=oO hc;simp only[List.sum_cons]at hs
  cases p with
  | zero=>simp at ha;omega
  | succ p=>exact zQ hc (by omega) p a (by simpa using ha)
theorem GF:∀{c:List Int} {l:List Nat},c.length=l.length->(∀(i:Nat) a b,c[i]? = some a->l[i]? = some b->a<=(b:Nat))->c.sum<=(l.sum:Nat)
 | [],[],_,_=>by simp
 | x::c,y::l,hl,h=>by
  have h1:=h 0 x y rfl rfl;have h2:=GF (c:=c) (l:=l) (by simpa using hl) λi a b ha hb=>h (i+1) a b (by simpa using ha) (by simpa using hb)
  simp only[List.sum_cons];omega
section
variable {t:Trace} {A:aC 200 aH} {c:List Int}
theorem vn.pos (h:vn t c) (p:Nat) (a:Int) (ha:c[p]? = some a):0<=a:=
 (h.2 p a _ ha (ζd (by have:=(ζe.1 ha).1;rw[<-h.1];exact this))).1
theorem vn.at_ (h:vn t c) {p:Nat} (hp:p<t.procs.l.length):∃a,c[p]? = some a:=⟨_,ζd (by rw[h.1];exact hp)⟩
theorem vn.sum (h:vn t c):0<=c.sum/\c.sum<=(pU t:Nat):=
 ⟨oO h.pos,GF (by simp[h.1]) λi a b ha hb=>by
  rw[List.getElem?_map]at hb
  cases hP:t.procs.l[i]? with
  | none=>simp[hP]at hb
  | some P=>simp[hP]at hb;rw[<-hb];exact(h.2 i a P ha hP).2⟩
theorem vn.set (h:vn t c) {p:Nat} {b:Int} {P:bt} (hP:t.procs.l[p]? = some P) (h0:0<=b) (h1:b<=P.events.l.length):vn t (c.set p b):=by
 refine⟨by simp[h.1],λq a Q ha hQ=>?_⟩
 rw[List.getElem?_set]at ha;split at ha
 .rename_i e;subst e;split at ha
  .cases ha;rw[hP]at hQ;cases hQ;exact⟨h0,h1⟩
  .cases ha
 .exact h.2 q a Q ha hQ
def Ml (t:Trace) (A:aC 200 aH) (c:List Int) (p:Nat):Prop:=∃P e a,t.procs.l[p]? = some P/\c[p]? = some a/\P.events.l[a.toNat]? = some e/\(e.kind=3->∃b,c[(ag A e.message).from_.proc.toNat]? = some b/\(ag A e.message).from_.index<=b)
theorem lN.one {p k:Nat} {e f:Event} (h:lN t p k e) (g:lN t p k f):e=f:=by
 obtain⟨P,a1,a2⟩:=h;obtain⟨Q,b1,b2⟩:=g;rw[a1]at b1;cases b1;rw[a2]at b2;cases b2;rfl
theorem vv.le (h:vv t A c) {p:Nat} {a b:Int} (ha:c[p]? = some a) (hab:a<=b) (hn:∀(k:Nat) e,lN t p k e->a<=k->(k:Int)<b->e.kind=3->∃b',(c.set p b)[(ag A e.message).from_.proc.toNat]? = some b'/\(ag A e.message).from_.index<=b'):vv t A (c.set p b):=by
 have hp:=(ζe.1 ha).1;have up:∀(q:Nat) x,c[q]? = some x->∃y,(c.set p b)[q]? = some y/\x<=y:=λq x hx=>by
  rw[List.getElem?_set]
  by_cases e:p=q
  .subst e;rw[ha]at hx;cases hx;exact⟨b,by simp[hp],hab⟩
  .exact⟨x,by simp[e,hx],Int.le_refl _⟩
 intro q k e x hat hx hk h3;rw[List.getElem?_set]at hx;have old:∀x,c[q]? = some x->(k:Int)<x->∃b',(c.set p b)[(ag A e.message).from_.proc.toNat]? = some b'/\(ag A e.message).from_.index<=b':=λx hx hk=>by
  obtain⟨y,hy,hy2⟩:=h q k e x hat hx hk h3;obtain⟨z,hz,hz2⟩:=up _ y hy;exact⟨z,hz,by omega⟩
 split at hx
 .rename_i ep;subst ep;simp[hp]at hx;subst hx
  by_cases hka:(k:Int)<a
  .exact old a ha hka
  .exact hn k e hat (by omega) hk h3
 .exact old x hx hk
theorem wj (hV:VT t) (hM:gu t (aT t) A) {p k:Nat} {e:Event} (hat:lN t p k e) (h3:e.kind=3):∃q j:Nat,(ag A e.message).from_=⟨q,j+1⟩/\q≠p/\Ec t ⟨q,j+1⟩ ⟨p,k+1⟩/\∃y,lN t q j y:=by
 obtain⟨q,j,y,hy,y1,y2,y3,y4,y5⟩:=D0 hV hM hat h3;have hm:((⟨p,k+1⟩:aa),e)∈aT t:=dg.2 ⟨p,k,hat,rfl⟩;refine⟨q,j,y5,?_,⟨y,e,dg.2 ⟨q,j,hy,rfl⟩,hm,y1,h3,y2⟩,y,hy⟩;rcases hV.formed _ hm with h|⟨_,_,_,h,_⟩
 .simp only at h;omega
 .simp only at h;omega
theorem Cons.up (hV:VT t) (hM:gu t (aT t) A) (hC:Cons t A c) {p:Nat} {a:Int} {P:bt} (hP:t.procs.l[p]? = some P) (ha:c[p]? = some a) (hl:a<P.events.l.length):Ml t A c p↔Cons t A (c.set p (a+1)):=by
 have h0:=hC.1.pos p a ha;have hp:=(ζe.1 ha).1;have han:((a.toNat:Nat):Int)=a:=by omega
 constructor
 .rintro⟨Q,e,x,hQ,hx,he,h3⟩;rw[hP]at hQ;cases hQ;rw[ha]at hx;cases hx;refine⟨hC.1.set hP (by omega) (by omega),hC.2.le ha (by omega) λk f hat hk1 hk2 hf=>?_⟩
  have hka:k=a.toNat:=by omega
  subst hka;cases hat.one ⟨P,hP,he⟩;obtain⟨b,hb,hb2⟩:=h3 hf;rw[List.getElem?_set]
  by_cases e2:p=(ag A e.message).from_.proc.toNat
  .rw[<-e2,ha]at hb;cases hb;exact⟨a+1,by simp[<-e2,hp],by omega⟩
  .exact⟨b,by rw[if_neg e2];exact hb,hb2⟩
 .intro h;have hel:a.toNat<P.events.l.length:=by omega
  refine⟨P,P.events.l[a.toNat],a,hP,ha,ζd hel,λh3=>?_⟩
  obtain⟨b,hb,hb2⟩:=h.2 p a.toNat _ (a+1) ⟨P,hP,ζd hel⟩ (by simp[hp]) (by omega) h3
  rw[List.getElem?_set]at hb;split at hb
  .rename_i e2;obtain⟨q,j,f1,f2,_⟩:=wj hV hM ⟨P,hP,ζd hel⟩ h3;rw[f1]at e2;exact absurd e2.symm (by simpa using f2)
  .exact⟨b,hb,hb2⟩
noncomputable def BF (t:Trace) (x:aa):Nat:=by
 classical
 exact(aT t).countP λz=>decide (Way t z.1 x)
theorem Gr (hV:VT t) {x y:aa} (h:Way t x y):BF t x<BF t y:=by
 classical
 unfold BF;refine wY (λz _ hz=>?_) ?_
 .have hz:Way t z.1 x:=by simpa using hz
  simpa using hz.trans h
 .obtain⟨e,he⟩:=h.l;exact⟨(x,e),he,by simpa using λk=>hV.ok.acyc ⟨x,k⟩,by simpa using h⟩
theorem GH (x:aa):BF t x<=(aT t).length:=by
 classical
 unfold BF;exact List.countP_le_length
theorem Vd.of {p k:Nat} {e:Event} (h:lN t p k e):Vd t ⟨p,k+1⟩:=⟨e,dg.2 ⟨p,k,h,rfl⟩⟩
theorem Eh {p:Nat} {P:bt} (hP:t.procs.l[p]? = some P):∀(d k:Nat),k+d+1<P.events.l.length->Way t ⟨p,k+1⟩ ⟨p,((k+d+1:Nat):Int)+1⟩
 | 0,k,h=>.single ⟨Vd.of ⟨P,hP,ζd (by omega)⟩,Vd.of ⟨P,hP,ζd h⟩,.inl (by simp)⟩
 | d+1,k,h=>(Eh hP d k (by omega)).tail ⟨Vd.of ⟨P,hP,ζd (show k+d+1<_ by omega)⟩,Vd.of ⟨P,hP,ζd h⟩,.inl (by simp;omega)⟩
theorem RP {q k:Nat} {b:Int} {Q:bt} {x:aa} (hQ:t.procs.l[q]? = some Q) (h:Way t x ⟨q,k+1⟩) (h1:(k:Int)<b) (h2:b<=Q.events.l.length):Way t x ⟨q,b⟩:=by
 by_cases e:b=k+1
 .rw[e];exact h
 .have:=Eh hQ (b.toNat-k-2) k (by omega)
  rw[show (((k+(b.toNat-k-2)+1:Nat):Int)+1)=b from by omega]at this
  exact h.trans this
theorem Cons.Gf (hV:VT t) (hM:gu t (aT t) A) (hC:Cons t A c) {p:Nat} {a:Int} (ha:c[p]? = some a) (h0:0<a):Cons t A (c.set p (a-1))\/∃(q:Nat) (b:Int),c[q]? = some b/\0<b/\Way t ⟨p,a⟩ ⟨q,b⟩:=by
 have hp:=(ζe.1 ha).1;have hP:=ζd (show p<t.procs.l.length by rw[<-hC.1.1];exact hp)
 have hr:=hC.1.2 p a _ ha hP;refine Classical.byContradiction λhno=>hno (.inl ⟨hC.1.set hP (by omega) (by omega),λq k e x hat hx hk h3=>?_⟩)
 obtain⟨x0,hx0,hxx⟩:∃x0,c[q]? = some x0/\x<=x0:=by
  rw[List.getElem?_set]at hx;split at hx
  .rename_i e2;subst e2;simp[hp]at hx;exact⟨a,ha,by omega⟩
  .exact⟨x,hx,Int.le_refl _⟩
 obtain⟨y,hy,hy2⟩:=hC.2 q k e x0 hat hx0 (by omega) h3
 obtain⟨r,j,f1,f2,f3,_⟩:=wj hV hM hat h3;rw[f1]at hy hy2 ⊢;simp only[Int.toNat_natCast]at hy hy2 ⊢;rw[List.getElem?_set]
 by_cases e2:p=r
 .subst e2;rw[ha]at hy;cases hy;refine⟨a-1,by simp[hp],?_⟩
  refine Classical.byContradiction λhj=>hno (.inr ⟨q,x0,hx0,by omega,?_⟩)
  have:a=(j:Int)+1:=by omega
  subst this;obtain⟨Q,hQ,_⟩:=hat;have hrq:=hC.1.2 q x0 Q hx0 hQ;obtain⟨ye,fe,m1,m2,m3⟩:=f3;exact RP hQ (.single ⟨⟨ye,m1⟩,⟨fe,m2⟩,.inr ⟨ye,fe,m1,m2,m3⟩⟩) (by omega) hrq.2
 .exact⟨y,by rw[if_neg e2];exact hy,hy2⟩
theorem Cons.R_ (hV:VT t) (hM:gu t (aT t) A) (hC:Cons t A c):∀(n p:Nat) (a:Int),c[p]? = some a->0<a->(aT t).length-BF t ⟨p,a⟩<=n->∃(q:Nat) (b:Int),c[q]? = some b/\0<b/\Cons t A (c.set q (b-1)):=by
 intro n
 induction n with
 | zero=>
  intro p a ha h0 hn;rcases hC.Gf hV hM ha h0 with h|⟨q,b,_,_,hw⟩
  .exact⟨p,a,ha,h0,h⟩
  .have:=Gr hV hw;have:=GH (t:=t) ⟨q,b⟩;omega
 | succ n ih=>
  intro p a ha h0 hn;rcases hC.Gf hV hM ha h0 with h|⟨q,b,hb,hb0,hw⟩
  .exact⟨p,a,ha,h0,h⟩
  .have:=Gr hV hw;have:=GH (t:=t) ⟨q,b⟩;exact ih q b hb hb0 (by omega)
theorem Cons.down (hV:VT t) (hM:gu t (aT t) A) (hC:Cons t A c) (hs:0<c.sum):∃(q:Nat) (b:Int),c[q]? = some b/\0<b/\Cons t A (c.set q (b-1)):=by
 obtain⟨p,a,ha,h0⟩:∃(p:Nat) (a:Int),c[p]? = some a/\0<a:=by
  refine Classical.byContradiction λhno=>?_
  have hz:∀a∈c,a=0:=λa ha=>by
   obtain⟨p,hp⟩:=List.mem_iff_getElem?.1 ha;have:=hC.1.pos p a hp;exact Classical.byContradiction λhne=>hno ⟨p,a,hp,by omega⟩
  have:c.sum=0:=by
   clear hC hs hno
   induction c with
   | nil=>rfl
   | cons x c ih=>simp[hz x (List.mem_cons_self ..),ih λa ha=>hz a (List.mem_cons_of_mem _ ha)]
  omega
 exact hC.R_ hV hM _ p a ha h0 (Nat.le_refl _)
theorem Cons.Ca (hV:VT t) (hM:gu t (aT t) A):∀(d:Nat) {c:List Int} {k:Nat},Cons t A c->c.sum=((k+d:Nat):Int)->∃c',Cons t A c'/\c'.sum=(k:Int)
 | 0,c,k,hC,hs=>⟨c,hC,by simpa using hs⟩
 | d+1,c,k,hC,hs=>by
  obtain⟨q,b,hb,hb0,hC2⟩:=hC.down hV hM (by omega)
  exact Cons.Ca hV hM d hC2 (by rw[tK hb];omega)
end
end Go.VE
namespace Go.VE
theorem jZ {α:Type} {s:Sl α} {n:Nat} (h:n<s.l.length):decide ((n:Int)<len s)=true:=by simp[len];omega
theorem jX {α:Type} {s:Sl α}:decide ((s.l.length:Int)<len s)=false:=by simp[len]
theorem yQ {α:Type} {s x:Sl α} (h:s.l.length+x.l.length<=2147483648):∃r,kO s x=some r/\r.l=s.l++x.l:=by
 unfold kO
 by_cases e:x.l=[]
 .rw[if_pos e];exact⟨s,rfl,by rw[e,List.append_nil]⟩
 .rw[if_neg e,if_pos h];exact⟨_,rfl,rfl⟩
theorem rD {α:Type} {s:Sl α} {x:α} (h:s.l.length<2147483648):∃r,i_ s x=some r/\r.l=s.l++[x]:=by
 unfold i_;rw[if_pos (by omega)];exact⟨_,rfl,rfl⟩
theorem tP {α:Type} {s:Sl α} {p:Nat} (h:p<s.l.length):Sl.kN s (p:Int)=some p:=by
 unfold Sl.kN;rw[if_pos ⟨by omega,by simpa using h⟩];rfl
theorem put_eq {α:Type} {s:Sl α} {p:Nat} {x:α} (h:p<s.l.length):∃r,Sl.put s p x=some r/\r.l=s.l.set p x:=by
 unfold Sl.put;rw[if_pos h];exact⟨_,rfl,by cases s <;> first|rfl|(simp[Sl.l]at h)⟩
section
variable {t:Trace} {A:aC 200 aH}
def UX (t:Trace) (A:aC 200 aH) (c:List Int) (n:Nat):Prop:=∀(p k:Nat) (e:Event) (a:Int),p<n->lN t p k e->c[p]? = some a->(k:Int)<a->e.kind=3->∃b,c[(ag A e.message).from_.proc.toNat]? = some b/\(ag A e.message).from_.index<=b
theorem PL (hS:Small t) (hV:VT t) (hM:gu t (aT t) A) {c:Sl Int} (hR:vn t c.l):Wp (cB t c) λb=>(b=true↔vv t A c.l):=by
 have hcl:=hR.1;have hn8:=hV.few;unfold cB cB.W1;refine gB c.l.length (λn s=>s=(n:Int)/\UX t A c.l n) ⟨rfl,λp k e a h=>absurd h (by omega)⟩ ?_ ?_
 .rintro n _ hlt ⟨rfl,hI⟩;unfold cB.aB;rw[jZ hlt,aY];have hlt2:n<t.procs.l.length:=by omega
  have hPl:=(hS.2 _ (List.getElem_mem hlt2)).1;have hPg:=ζd hlt2;have hcg:=ζd hlt;obtain⟨r1,r2⟩:=hR.2 n _ _ hcg hPg;have hix:=aX hlt;generalize c.l[n]=a at *;generalize t.procs.l[n]=P at *;unfold cB.W2;refine gB a.toNat (λm s=>s=(m:Int)/\∀(k:Nat) (e:Event),k<m->lN t n k e->e.kind=3->∃b,c.l[(ag A e.message).from_.proc.toNat]? = some b/\(ag A e.message).from_.index<=b) ⟨rfl,λk e h=>absurd h (by omega)⟩ ?_ ?_
  .rintro m _ hm ⟨rfl,hJ⟩;unfold cB.bq;have hmP:m<P.events.l.length:=by omega
   have hat:lN t n m P.events.l[m]:=⟨P,hPg,ζd hmP⟩;rw[hix,ζb,show decide ((m:Int)<a)=true from by simp;omega,aY,oh,hPg,ζb,aX hmP,ζb,bY m (by omega)]
   generalize P.events.l[m]=e at *;have more:(e.kind=3->∃b,c.l[(ag A e.message).from_.proc.toNat]? = some b/\(ag A e.message).from_.index<=b)->∀(k:Nat) (e:Event),k<m+1->lN t n k e->e.kind=3->∃b,c.l[(ag A e.message).from_.proc.toNat]? = some b/\(ag A e.message).from_.index<=b:=λh k f hk hf h3=>by
    by_cases ek:k=m
    .subst ek;cases hat.one hf;exact h h3
    .exact hJ k f (by omega) hf h3
   rw[bD];refine⟨λh3=>?_,λh3=>(af _).2 ⟨rfl,more λk=>by simp[k]at h3⟩⟩
   have h3:e.kind=3:=by simpa using h3
   obtain⟨q,j,f1,_,_,y,Q,hQ,_⟩:=wj hV hM hat h3;have hql:q<c.l.length:=by have:=(ζe.1 hQ).1;omega
   rw[find_eq hS,Ka hV hM hat h3,ζb,f1];simp only;rw[aX hql,ζb,bD];refine⟨λhgt=>(af _).2 ((af _).2 ((af _).2 ⟨λh=>(by cases h),λhC=>?_⟩)),λhle=>(af _).2 ⟨rfl,more λ_=>?_⟩⟩
   .obtain⟨b,hb1,hb2⟩:=hC n m e a hat hcg (by omega) h3
    rw[f1]at hb1 hb2;simp only[Int.toNat_natCast,ζd hql,ζa]at hb1 hb2;simp only[decide_eq_true_eq]at hgt;omega
   .rw[f1];exact⟨c.l[q],by simp only[Int.toNat_natCast];exact ζd hql,by simp at hle ⊢;omega⟩
  .rintro _ ⟨rfl,hJ⟩;unfold cB.bq;rw[hix,ζb,show decide ((a.toNat:Int)<a)=false from by simp;omega,bg]
   refine(af _).2 ((af _).2 ⟨bY n (by omega),λp k e x hp hat hx hk h3=>?_⟩)
   by_cases e2:p=n
   .subst e2;rw[hcg]at hx;cases hx;exact hJ k e (by omega) hat h3
   .exact hI p k e x (by omega) hat hx hk h3
 .rintro _ ⟨rfl,hI⟩;unfold cB.aB;rw[jX,bg];exact(af _).2 ((af _).2 ⟨λ_ p k e a hat hx=>hI p k e a (ζe.1 hx).1 hat hx,λ_=>rfl⟩)
theorem S7 (hS:Small t) (hV:VT t) (hM:gu t (aT t) A) {c:Sl Int} (hcl:c.l.length=t.procs.l.length):Wp (uH t c) λb=>(b=true↔Cons t A c.l):=by
 unfold uH;rw[eS];refine(OK hS hcl).mono λb hb=>?_
 rw[eS,bD];constructor
 .intro h;have hR:=hb.1 h;rw[eS];refine(PL hS hV hM hR).mono λb2 hb2=>?_
  rw[af,af];exact hb2.trans ⟨λh=>⟨hR,h⟩,λh=>h.2⟩
 .intro h;rw[af,af];exact⟨λh=>(by cases h),λhC=>absurd (hb.2 hC.1) (by simp[h])⟩
theorem step_eq {c:Sl Int} {p:Nat} {a:Int} (ha:c.l[p]? = some a) (hl:c.l.length<=1073741824) (h0:0<=a) (h1:a<1073741824):∃d:Sl Int,o4 c p=some d/\d.l=c.l.set p (a+1):=by
 have hp:=(ζe.1 ha).1;unfold o4;obtain⟨r,h2,h3⟩:=yQ (s:=Sl.row []) (x:=c) (show 0+c.l.length<=_ by omega)
 have h3:r.l=c.l:=h3;rw[h2,ζb,tP (by rw[h3];exact hp),ζb]
 unfold Sl.get;rw[h3,ha,ζb,ζb,mF _ (by omega) (by omega)]
 obtain⟨d,h4,h5⟩:=put_eq (s:=r) (p:=p) (x:=a+1) (by rw[h3];exact hp)
 rw[h4];exact⟨d,rfl,by rw[h5,h3]⟩
end
end Go.VE
namespace Go.VE
def ins (s:Sl (Sl Int)):List (List Int):=s.l.map Sl.l
theorem yX {α:Type} (s:Sl α) (i:Nat) (h:i<=s.l.length):∃x,eH s (some (i:Int)) none=some x/\x.l=s.l.drop i:=by
 unfold eH cE;simp only[Option.getD_some,Option.getD_none];rw[if_pos ⟨by omega,by omega,by omega⟩]
 exact⟨_,rfl,by cases s <;> simp[Sl.l]⟩
end Go.VE
namespace Go.VE
def zT (t:Trace) (A:aC 200 aH) (c d:List Int):Prop:=∃(p:Nat) (a:Int),c[p]? = some a/\d=c.set p (a+1)/\Cons t A d
section
variable {t:Trace} {A:aC 200 aH}
theorem oM {s:Sl (Sl Int)} {d:List Int}:d∈ins s↔∃x∈s.l,x.l=d:=by unfold ins;exact List.mem_map
theorem GG {r s:Sl (Sl Int)} {x:Sl Int} (h:r.l=s.l++[x]) {d:List Int}:d∈ins r↔d∈ins s\/d=x.l:=by
 unfold ins;rw[h];simp
theorem NH (hS:Small t) (hV:VT t) (hM:gu t (aT t) A) {c:Sl Int} (hC:Cons t A c.l):Wp (gJ t c) λr=>r.l.length<=8/\∀d,d∈ins r↔zT t A c.l d:=by
 have hcl:=hC.1.1;have hn8:=hV.few;unfold gJ gJ.W1;refine gB c.l.length (λn s=>s.2=(n:Int)/\s.1.l.length<=n/\∀d,d∈ins s.1↔∃(p:Nat) (a:Int),p<n/\c.l[p]? = some a/\d=c.l.set p (a+1)/\Cons t A d) ⟨rfl,Nat.le_refl _,λd=>⟨λh=>by simp[ins,Sl.l]at h,λ⟨p,a,h,_⟩=>absurd h (by omega)⟩⟩ ?_ ?_
 .rintro n ⟨out,_⟩ hlt ⟨h,hlen,hI⟩;simp only at h hlen hI;subst h;have hlt2:n<t.procs.l.length:=by omega
  have hPl:=(hS.2 _ (List.getElem_mem hlt2)).1;have hcg:=ζd hlt;have hr:=hC.1.2 n _ _ hcg (ζd hlt2);unfold gJ.aB;rw[jZ hlt,aY,aX hlt,ζb,aX hlt2,ζb,bY n (by omega)]
  generalize c.l[n]=a at *;have keep:¬Cons t A (c.l.set n (a+1))->∀d,d∈ins out↔∃(p:Nat) (a:Int),p<n+1/\c.l[p]? = some a/\d=c.l.set p (a+1)/\Cons t A d:=λhno d=>by
   rw[hI];refine⟨λ⟨p,b,h,k⟩=>⟨p,b,by omega,k⟩,λ⟨p,b,h,k1,k2,k3⟩=>⟨p,b,?_,k1,k2,k3⟩⟩
   refine Classical.byContradiction λhp=>hno ?_
   have:p=n:=by omega
   subst this;rw[hcg]at k1;cases k1;rw[<-k2];exact k3
  by_cases hlt3:a<t.procs.l[n].events.l.length
  .obtain⟨d,hd,hdl⟩:=step_eq (c:=c) hcg (by omega) hr.1 (by omega)
   rw[show decide (a<(len t.procs.l[n].events))=true from by simpa [len]using hlt3,aY,hd,ζb,eS,eS]
   refine(S7 hS hV hM (c:=d) (by rw[hdl,List.length_set];exact hcl)).mono λb hb=>?_
   rw[hdl]at hb;rw[af,bD];constructor
   .intro ht;obtain⟨r,hr1,hr2⟩:=rD (s:=out) (x:=d) (by omega)
    rw[ζb,hr1,ζb,af];refine⟨rfl,by rw[hr2];simp;omega,λe=>?_⟩
    rw[GG hr2,hI,hdl];constructor
    .rintro (⟨p,b,h,k⟩|h)
     .exact⟨p,b,by omega,k⟩
     .exact⟨n,a,by omega,hcg,h,by rw[h];exact hb.1 ht⟩
    .rintro⟨p,b,h,k1,k2,k3⟩
     by_cases e2:p=n
     .subst e2;rw[hcg]at k1;cases k1;exact .inr k2
     .exact .inl ⟨p,b,by omega,k1,k2,k3⟩
   .intro hf;exact(af _).2 ⟨rfl,Nat.le_succ_of_le hlen,keep λh=>by rw[hb.2 h]at hf;cases hf⟩
  .rw[show decide (a<(len t.procs.l[n].events))=false from by simpa [len]using hlt3,bg,ζb,bg,af]
   refine⟨rfl,Nat.le_succ_of_le hlen,keep λh=>?_⟩
   have:=h.1.2 n (a+1) _ (by simp[List.getElem?_set,hlt]) (ζd hlt2)
   omega
 .rintro⟨out,_⟩ ⟨h,hlen,hI⟩;simp only at h hlen hI;subst h;unfold gJ.aB;rw[jX,bg,af];refine(af _).2 ⟨show out.l.length<=8 by omega,λd=>(hI d).trans ⟨λ⟨p,a,_,h⟩=>⟨p,a,h⟩,λ⟨p,a,h⟩=>⟨p,a,(ζe.1 h.1).1,h⟩⟩⟩
def wG (t:Trace) (A:aC 200 aH) (k:Nat) (s:Sl (Sl Int)):Prop:=∀d,d∈ins s↔Cons t A d/\d.sum=(k:Int)
theorem zT.iff (hV:VT t) (hM:gu t (aT t) A) {k:Nat} {d:List Int}:(∃c,(Cons t A c/\c.sum=(k:Int))/\zT t A c d)↔Cons t A d/\d.sum=((k+1:Nat):Int):=by
 constructor
 .rintro⟨c,⟨hC,hs⟩,p,a,ha,rfl,hD⟩;exact⟨hD,by rw[tK ha];omega⟩
 .rintro⟨hD,hs⟩;obtain⟨q,b,hb,hb0,hC⟩:=hD.down hV hM (by omega)
  have hq:=(ζe.1 hb).1;refine⟨_,⟨hC,by rw[tK hb];omega⟩,q,b-1,by simp[hq],?_,hD⟩
  rw[List.set_set,show b-1+1=b from by omega]
  refine List.ext_getElem? λi=>?_
  rw[List.getElem?_set];split
  .rename_i e;subst e;simp[hq,hb];exact(ζe.1 hb).2.symm▸rfl
  .rfl
theorem tV {s:Sl (Sl Int)} {n:Nat} (h:n<s.l.length) {d:List Int}:d∈(s.l.take (n+1)).map Sl.l↔d∈(s.l.take n).map Sl.l\/d=s.l[n].l:=by
 rw[show s.l.take (n+1)=s.l.take n++[s.l[n]]from by rw[List.take_add_one,ζd h];rfl]
 simp only[List.map_append,List.mem_append,List.map_cons,List.map_nil,List.mem_singleton]
theorem Gl:∀n:Nat,(List.replicate n (0:Int)).sum=0
 | 0=>rfl
 | n+1=>by rw[List.replicate_succ,List.sum_cons,Gl n];rfl
theorem Hj:Cons t A (List.replicate t.procs.l.length 0):=by
 have hz:∀(p:Nat) a,(List.replicate t.procs.l.length (0:Int))[p]? = some a->a=0:=λp a h=>by
  rw[List.getElem?_replicate]at h;split at h <;> cases h;rfl
 exact⟨⟨by simp,λp a P ha _=>by rw[hz p a ha];omega⟩,λp k e a _ ha hk=>by rw[hz p a ha]at hk;omega⟩
theorem Py {z:Sl Int} (hz:z.l=List.replicate t.procs.l.length 0):wG t A 0 (Sl.row [z]):=by
 intro d;have:d∈ins (Sl.row [z])↔d=List.replicate t.procs.l.length 0:=by unfold ins;rw[<-hz];exact List.mem_singleton
 rw[this];constructor
 .rintro rfl;exact⟨Hj,by rw[Gl];rfl⟩
 .rintro⟨hC,hs⟩;refine List.ext_getElem? λi=>?_
  rw[List.getElem?_replicate,<-hC.1.1];split
  .rename_i hi;have h:=ζd hi;rw[h,zQ hC.1.pos (by simpa using hs) i _ h]
  .exact List.getElem?_eq_none (by omega)
theorem wG.none (hV:VT t) (hM:gu t (aT t) A) {k:Nat} {s:Sl (Sl Int)} (h:wG t A k s) (he:s.l.length=0) {d:List Int} (hD:Cons t A d):d.sum<(k:Int):=by
 refine Classical.byContradiction λhge=>?_
 have h0:=oO hD.1.pos;obtain⟨c,hC,hs⟩:=Cons.Ca hV hM (d.sum.toNat-k) (k:=k) hD (by omega)
 have:=(h c).2 ⟨hC,hs⟩;obtain⟨x,hx,_⟩:=oM.1 this;have:=List.length_pos_of_mem hx;omega
theorem wG.last {s:Sl (Sl Int)} (h:wG t A (pU t+1) s):s.l.length=0:=by
 refine Classical.byContradiction λhne=>?_
 have hx:=List.getElem_mem (show 0<s.l.length by omega)
 have:=(h s.l[0].l).1 (oM.2 ⟨_,hx,rfl⟩);have:=this.1.1.sum;omega
theorem Az {α:Type} (s:Sl α):decide ((len s)>0) = !decide (s.l.length=0):=by
 by_cases h:s.l.length=0
 .simp[len,h]
 .simp[h,len];omega
end
end Go.VE
namespace Go.VE
def dM:List Int->List Int->Int
 | [],[]=>0
 | [],_::_=>-1
 | _::_,[]=>1
 | x::a,y::b=>if x<y then -1 else if x>y then 1 else dM a b
theorem uE:∀a,dM a a=0
 | []=>rfl
 | x::a=>by simp[dM,uE a]
theorem yN:∀a b c,dM a b<0->dM b c<0->dM a c<0
 | [],[],_,h,_=>by simp[dM]at h
 | [],_::_,[],_,h=>by simp[dM]at h
 | [],_::_,_::_,_,_=>by simp[dM]
 | _::_,[],_,h,_=>by simp[dM]at h
 | _::_,_::_,[],_,h=>by simp[dM]at h
 | x::a,y::b,z::c,h1,h2=>by
  have ih:=yN a b c;simp only[dM]at h1 h2 ⊢;split at h1
  .split at h2
   .rw[if_pos (by omega)];omega
   .split at h2
    .omega
    .rw[if_pos (by omega)];omega
  .split at h1
   .omega
   .split at h2
    .rw[if_pos (by omega)];omega
    .split at h2
     .omega
     .rw[if_neg (by omega),if_neg (by omega)];exact ih h1 h2
theorem vA:∀a b,¬dM a b<0->¬dM b a<0->a=b
 | [],[],_,_=>rfl
 | [],_::_,h,_=>by simp[dM]at h
 | _::_,[],_,h=>by simp[dM]at h
 | x::a,y::b,h1,h2=>by
  have ih:=vA a b;simp only[dM]at h1 h2;split at h1
  .omega
  .split at h2
   .omega
   .rw[ih (by first|assumption|(split at h1 <;> first|assumption|omega)) (by first|assumption|(split at h2 <;> first|assumption|omega)),show x=y from by omega]
theorem MD (a b c:List Int) (h1:¬dM a b<0) (h2:¬dM b c<0):¬dM a c<0:=λh=>by
 by_cases h3:dM b a<0
 .exact h2 (yN b a c h3 h)
 .rw[vA a b h1 h3]at h;exact h2 h
theorem Lc {α:Type} {s:Sl α} {p:α->α->Option Int} {f:α->List Int} (hp:∀x y,x∈s.l->y∈s.l->p x y=some (dM (f x) (f y))) (hl:s.l.length<2147483648):∃r,vQ s p=some r/\r.l.Perm s.l/\r.l.Pairwise λx y=>¬dM (f y) (f x)<0:=by
 unfold vQ;split
 .rename_i h;exact⟨s,rfl,List.Perm.refl _,by rw[h];exact List.Pairwise.nil⟩
 .rename_i x l h;rw[if_pos (by rw[h]at hl;simp at hl;omega)]
  simp only;have ht:∀i j:_root_.Fin (l.length+1),p (x::l)[i.1] (x::l)[j.1]=some (dM (f (x::l)[i.1]) (f (x::l)[j.1])):=λi j=>hp _ _ (by rw[h];exact List.getElem_mem _) (by rw[h];exact List.getElem_mem _)
  have hlt:(nT λi j:_root_.Fin (l.length+1)=>p (x::l)[i.1] (x::l)[j.1])=λi j=>decide (dM (f (x::l)[i.1]) (f (x::l)[j.1])<0):=by
   funext i j;unfold nT;show decide ((p _ _).getD 0<0)=_;rw[ht];rfl
  have hok:wo (λi j:_root_.Fin (l.length+1)=>p (x::l)[i.1] (x::l)[j.1])=true:=by
   have hl':∀i j,nT (λi j:_root_.Fin (l.length+1)=>p (x::l)[i.1] (x::l)[j.1]) i j=decide (dM (f (x::l)[i.1]) (f (x::l)[j.1])<0):=λi j=>by rw[hlt]
   refine List.all_eq_true.2 λi _=>Bool.and_eq_true_iff.2 ⟨by rw[hl',uE];rfl,List.all_eq_true.2 λj _=>Bool.and_eq_true_iff.2 ⟨by show (p _ _).isSome=true;rw[ht];rfl,List.all_eq_true.2 λk _=>Bool.and_eq_true_iff.2 ⟨?_,?_⟩⟩⟩
   .have:=yN (f (x::l)[i.1]) (f (x::l)[j.1]) (f (x::l)[k.1]);rw[hl',hl',hl'];simp only[Bool.or_eq_true,Bool.not_eq_true',Bool.and_eq_false_iff,decide_eq_true_eq,decide_eq_false_iff_not];omega
   .have:=MD (f (x::l)[i.1]) (f (x::l)[j.1]) (f (x::l)[k.1]);rw[hl',hl',hl'];simp only[Bool.or_eq_true,Bool.not_eq_true',decide_eq_true_eq,decide_eq_false_iff_not];omega
  rw[if_pos hok];have hswo:=(oH hok).2;have hs:=Sort.pdq_sorts _ hswo (List.finRange (l.length+1)).toArray 0 (l.length+1) (Lib.bitLen (l.length+1)) true true (Nat.zero_le _) (by simp) (Or.inl rfl)
  rw[<-zD]at hs;generalize ox l.length _=d at hs;obtain⟨⟨hsz,_,hperm⟩,hsort⟩:=hs;have hsz:d.size=l.length+1:=by simpa using hsz
  have hre:∀y:List α,(s.re y).l=y:=λy=>by cases s <;> first|rfl|(simp[Sl.l]at h)
  refine⟨_,rfl,?_,?_⟩
  .rw[hre,h];have h1:d.extract 0 (l.length+1)=d:=Array.ext (by simp[hsz]) λi h1 h2=>by simp
   rw[h1]at hperm;have h2:((List.finRange (l.length+1)).toArray.extract 0 (l.length+1)).toList=List.finRange (l.length+1):=by simp[List.take_of_length_le]
   rw[h2]at hperm;refine(hperm.map _).trans ?_;rw[show (List.finRange (l.length+1)).map (λi=>(x::l)[i.1])=x::l from ?_]
   exact List.ext_getElem (by simp) λi h1 h2=>by simp
  .rw[hre,List.pairwise_map,List.pairwise_iff_getElem];intro i j hi hj hij;have:=hsort i j (Nat.zero_le _) hij (by simpa [hsz]using hj)
   rw[hlt]at this;simp only[Array.length_toList]at hi hj;simp only[getElem!_pos d i hi,getElem!_pos d j hj,decide_eq_false_iff_not]at this;simpa using this
end Go.VE
namespace Go.VE
def BI (c:List Int):List Int:=c.sum::c
def B_ (c:List Int):Prop:=c.length<=8/\∀x∈c,0<=x/\x<1073741824
theorem KY {c:List Int} (h:B_ c) (i:Nat):0<=(c.take i).sum/\(c.take i).sum<=8589934592:=by
 have key:∀(l:List Int),(∀x∈l,0<=x/\x<1073741824)->0<=l.sum/\l.sum<=1073741824*(l.length:Int):=by
  intro l
  induction l with
  | nil=>intro _;simp
  | cons x l ih=>
   intro h;have h1:=h x (by simp)
   have h2:=ih λy hy=>h y (List.mem_cons_of_mem _ hy)
   simp only[List.sum_cons,List.length_cons];omega
 have h1:=key (c.take i) λx hx=>h.2 x (List.mem_of_mem_take hx)
 have h2:(c.take i).length<=8:=by rw[List.length_take];have:=h.1;omega
 omega
theorem Et {c:List Int} {i:Nat} (hi:i<c.length):(c.take (i+1)).sum=(c.take i).sum+c[i]:=by
 rw[List.take_succ_eq_append_getElem hi,List.sum_append];simp
theorem Jt {a b:List Int} {i:Nat} (ha:i<a.length) (hb:i<b.length):dM (a.drop i) (b.drop i)=if a[i]<b[i]then -1 else if a[i]>b[i]then 1 else dM (a.drop (i+1)) (b.drop (i+1)):=by
 rw[List.drop_eq_getElem_cons ha,List.drop_eq_getElem_cons hb];rfl
def dm (x y:List Int):Prop:=dM (BI x) (BI y)<0
instance (x y:List Int):Decidable (dm x y):=by unfold dm;exact inferInstance
theorem dm.No (x:List Int):¬dm x x:=by unfold dm;rw[uE];omega
theorem dm.tr {x y z:List Int} (h:dm x y) (k:dm y z):dm x z:=yN _ _ _ h k
theorem dm.tot {x y:List Int} (h:¬dm x y) (k:¬dm y x):x=y:=by
 have:=vA _ _ h k;unfold BI at this;exact(List.cons.inj this).2
theorem dm.sum {x y:List Int} (h:x.sum<y.sum):dm x y:=by unfold dm BI;simp[dM,h]
theorem Am:∀{l r:List (List Int)},l.Pairwise dm->r.Pairwise dm->(∀x,x∈l↔x∈r)->l=r
 | [],[],_,_,_=>rfl
 | [],y::r,_,_,h=>by have:=(h y).2 (by simp);simp at this
 | x::l,[],_,_,h=>by have:=(h x).1 (by simp);simp at this
 | x::l,y::r,hl,hr,h=>by
  have e:x=y:=by
   rcases List.mem_cons.1 ((h x).1 (by simp))with e|e
   .exact e
   .rcases List.mem_cons.1 ((h y).2 (by simp))with k|k
    .exact k.symm
    .exact absurd (((List.pairwise_cons.1 hr).1 x e).tr ((List.pairwise_cons.1 hl).1 y k)) (dm.No y)
  subst e
  congr 1
  have hl':=List.pairwise_cons.1 hl;have hr':=List.pairwise_cons.1 hr;refine Am hl'.2 hr'.2 λz=>⟨λhz=>?_,λhz=>?_⟩
  .rcases List.mem_cons.1 ((h z).1 (List.mem_cons_of_mem _ hz))with e|e
   .exact absurd (e▸hl'.1 z hz) (dm.No x)
   .exact e
  .rcases List.mem_cons.1 ((h z).2 (List.mem_cons_of_mem _ hz))with e|e
   .exact absurd (e▸hr'.1 z hz) (dm.No x)
   .exact e
theorem OO {t:Trace} {A:aC 200 aH} (hS:Small t) (hV:VT t) {c:List Int} (hC:Cons t A c):B_ c:=by
 refine⟨hC.1.1▸hV.few,λx hx=>?_⟩
 obtain⟨p,hp,e⟩:=List.mem_iff_getElem.1 hx;have hp2:p<t.procs.l.length:=by rw[<-hC.1.1];exact hp
 have:=hC.1.2 p x _ (by rw[ζd hp,e]) (ζd hp2)
 have k:=(hS.2 _ (List.getElem_mem hp2)).1;omega
theorem dm.D6 {x y:List Int} (h:x.sum=y.sum):dm x y↔dM x y<0:=by
 unfold dm BI;simp only[dM,if_neg (show ¬x.sum<y.sum by omega),if_neg (show ¬x.sum>y.sum by omega)]
theorem dm.nodup {L:List (List Int)} (h:L.Pairwise dm):L.Nodup:=h.imp λ{x y} (h:dm x y) (e:x=y)=>dm.No y (by rw[e]at h;exact h)
theorem G6 {L:List (List Int)} {c:List Int} {j:Nat} (h:L.Pairwise dm) (h1:∀(i:Nat) x,i<j->L[i]? = some x->dm x c) (h2:∀x,L[j]? = some x->dm c x) :
 (L.take j++[c]++L.drop j).Pairwise dm/\∀x,x∈L.take j++[c]++L.drop j↔x∈L\/x=c:=by
 have hpre:∀x∈L.take j,dm x c:=λx hx=>by
  obtain⟨k,hk,e⟩:=List.mem_iff_getElem.1 hx;rw[List.length_take]at hk;rw[List.getElem_take]at e;exact h1 k x (by omega) (by rw[ζd (by omega),e])
 have hpost:∀x∈L.drop j,dm c x:=λx hx=>by
  obtain⟨k,hk,e⟩:=List.mem_iff_getElem.1 hx;rw[List.length_drop]at hk;rw[List.getElem_drop]at e;have hj:j<L.length:=by omega
  have k0:=h2 _ (ζd hj)
  by_cases e0:k=0
  .subst e0;simp only[Nat.add_zero]at e;rw[<-e];exact k0
  .rw[<-e];exact k0.tr (List.pairwise_iff_getElem.1 h j (j+k) hj (by omega) (by omega))
 refine⟨List.pairwise_append.2 ⟨List.pairwise_append.2 ⟨h.sublist (List.take_sublist _ _),List.pairwise_singleton _ _,λx hx y hy=>?_⟩,h.sublist (List.drop_sublist _ _),λx hx y hy=>?_⟩,λx=>?_⟩
 .rw[List.mem_singleton.1 hy];exact hpre x hx
 .rcases List.mem_append.1 hx with hx|hx
  .exact(hpre x hx).tr (hpost y hy)
  .rw[List.mem_singleton.1 hx];exact hpost y hy
 .conv=>rhs;rw[<-List.take_append_drop j L]
  simp only[List.mem_append,List.mem_singleton];constructor
  .rintro ((h|h)|h) <;> simp[h]
  .rintro ((h|h)|h) <;> simp[h]
end Go.VE
namespace Go.VE
theorem LB {α:Type} {s:Sl α} {p:α->α->Option Bool} {f:α->List Int} (hp:∀x y,x∈s.l->y∈s.l->p x y=some (decide (f x=f y))) (hl:s.l.length<2147483648) (hs:s.l.Pairwise λx y=>¬dM (f y) (f x)<0) :
 ∃r,uU s p=some r/\(r.l.map f).Nodup/\(∀d,d∈r.l.map f↔d∈s.l.map f)/\r.l.length<=s.l.length:=by
 have hn:∀i,i<s.l.length->0<i->∃(h1:i<s.l.length) (h2:i-1<s.l.length),qR s.l p i=some (decide (f s.l[i]=f s.l[i-1])):=λi h h0=>by
  refine⟨h,by omega,?_⟩
  unfold qR;rw[ζd h,ζd (show i-1<s.l.length by omega)]
  exact hp _ _ (List.getElem_mem _) (List.getElem_mem _)
 unfold uU;rw[if_pos ⟨by omega,List.all_eq_true.2 λi hi=>by
  by_cases h:i=0
  .subst h;rfl
  .obtain⟨_,_,e⟩:=hn i (List.mem_range.1 hi) (by omega)
   rw[e];simp⟩]
 have hcut:∀y:List α,(s.l=[]->y=[])->(s.qL y).l=y:=λy hy=>by cases s <;> first|rfl|exact(hy rfl).symm
 have hK:∀i,i∈kept (λi=>(qR s.l p i).getD false) s.l.length↔i<s.l.length/\(i=0\/(qR s.l p i).getD false=false):=λi=>by unfold kept;simp[List.mem_filter]
 have hlen:=yT (λi=>(qR s.l p i).getD false) s.l.length
 have hpw:(kept (λi=>(qR s.l p i).getD false) s.l.length).Pairwise (·<·):=by unfold kept;exact List.pairwise_lt_range.filter _
 generalize kept (λi=>(qR s.l p i).getD false) s.l.length=K at *
 have hre:(s.qL (K.filterMap (s.l[·]?))).l=K.filterMap (s.l[·]?):=hcut _ λh=>by rw[h];simp
 refine⟨_,rfl,?_,λd=>?_,?_⟩
 .rw[hre,List.Nodup,List.pairwise_map,List.pairwise_filterMap];refine hpw.imp_of_mem ?_;intro i j hi hj hij x hx y hy hxy;obtain⟨hjl,hj0⟩:=(hK j).1 hj;obtain⟨h1,h2,e⟩:=hn j hjl (by omega)
  rw[e]at hj0;have hne:¬f s.l[j]=f s.l[j-1]:=by
   rcases hj0 with h|h
   .omega
   .simpa using h
  rw[ζd h1]at hy;cases hy;have hil:i<s.l.length:=by omega
  rw[ζd hil]at hx;cases hx;have hpi:=List.pairwise_iff_getElem.1 hs;have a1:=hpi (j-1) j h2 h1 (by omega)
  refine hne (vA _ _ a1 ?_)
  by_cases e2:i=j-1
  .subst e2;rw[<-hxy,uE];omega
  .have a2:=hpi i (j-1) hil h2 (by omega)
   rw[hxy]at a2;exact a2
 .rw[hre];simp only[List.mem_map,List.mem_filterMap];constructor
  .rintro⟨x,⟨i,_,hx⟩,rfl⟩;exact⟨x,List.mem_of_getElem? hx,rfl⟩
  .rintro⟨x,hx,rfl⟩;obtain⟨i,hi⟩:=List.mem_iff_getElem?.1 hx;have key:∀(i:Nat) x,s.l[i]? = some x->∃y,(∃j,j∈K/\s.l[j]? = some y)/\f y=f x:=by
    intro i
    induction i with
    | zero=>intro x hx;exact⟨x,⟨0,(hK 0).2 ⟨(ζe.1 hx).1,.inl rfl⟩,hx⟩,rfl⟩
    | succ i ih=>
     intro x hx;have hlt:=(ζe.1 hx).1;obtain⟨h1,h2,e⟩:=hn (i+1) hlt (by omega)
     have hxe:s.l[i+1]=x:=(ζe.1 hx).2
     by_cases hg:f s.l[i+1]=f s.l[i+1-1]
     .obtain⟨y,hy,hf⟩:=ih _ (ζd (show i<s.l.length by omega))
      exact⟨y,hy,by rw[hf,<-hxe];exact hg.symm⟩
     .exact⟨x,⟨i+1,(hK _).2 ⟨hlt,.inr (by rw[e];simpa using hg)⟩,hx⟩,rfl⟩
   exact key i x hi
 .rw[hre];exact Nat.le_trans (List.length_filterMap_le ..) hlen
theorem Ht {a b:Sl Int} (hl:a.l.length<1073741824):gT a b=some (dM a.l b.l):=by
 refine Wp.eq ?_;unfold gT dG dG.W1;rw[eS];refine gB a.l.length (λn s=>s=(n:Int)/\n<=b.l.length/\dM (a.l.drop n) (b.l.drop n)=dM a.l b.l) ⟨rfl,Nat.zero_le _,rfl⟩ ?_ ?_
 .rintro n _ hlt ⟨rfl,hnb,hI⟩;unfold dG.aB;rw[jZ hlt,aY,aX hlt,ζb];have hd:a.l.drop n=a.l[n]::a.l.drop (n+1):=List.drop_eq_getElem_cons hlt
  by_cases hb:n<b.l.length
  .have hdb:b.l.drop n=b.l[n]::b.l.drop (n+1):=List.drop_eq_getElem_cons hb;rw[show decide ((n:Int)>=len b)=false from by simp[len];omega,bg,aX hb,ζb]
   rw[hd,hdb]at hI;simp only[dM]at hI;generalize a.l[n]=x at *;generalize b.l[n]=y at *;have hcmp:nR x y=some (if x<y then -1 else if x>y then 1 else 0):=by
    unfold nR pP;simp only[bne_self_eq_false,ζb,bg,aY]
    by_cases h1:x<y
    .simp[h1,ay]
    .by_cases h2:x>y
     .simp[h1,h2,ay]
     .simp[h1,h2,ay]
   rw[hcmp,ζb]
   by_cases h1:x<y
   .rw[if_pos h1]at hI ⊢;rw[show ((-1:Int)==0)=false from rfl,bg,af];exact(af _).2 ((af _).2 hI)
   .rw[if_neg h1]at hI ⊢
    by_cases h2:x>y
    .rw[if_pos h2]at hI ⊢;rw[show ((1:Int)==0)=false from rfl,bg,af];exact(af _).2 ((af _).2 hI)
    .rw[if_neg h2]at hI ⊢;rw[show ((0:Int)==0)=true from rfl,aY,af];exact⟨bY n (by omega),hb,hI⟩
  .rw[show decide ((n:Int)>=len b)=true from by simp[len];omega,aY,af]
   rw[hd,List.drop_eq_nil_of_le (show b.l.length<=n by omega)]at hI
   exact(af _).2 ((af _).2 hI)
 .rintro _ ⟨rfl,hnb,hI⟩;unfold dG.aB;rw[jX,bg,af];rw[List.drop_eq_nil_of_le (Nat.le_refl _)]at hI
  by_cases h:a.l.length<b.l.length
  .rw[show decide (len a<len b)=true from by simp[len];omega,aY]
   rw[List.drop_eq_getElem_cons h]at hI;exact(af _).2 ((af _).2 hI)
  .rw[show decide (len a<len b)=false from by simp[len];omega,bg]
   rw[List.drop_eq_nil_of_le (show b.l.length<=a.l.length by omega)]at hI
   exact(af _).2 ((af _).2 hI)
theorem L8 {a b:Sl Int} (hl:a.l.length<1073741824):dJ a b=some (decide (a.l=b.l)):=by
 refine Wp.eq ?_;unfold dJ;rw[bD];refine⟨λh=>?_,λh=>(af _).2 ?_⟩
 .have h:(a.l.length:Int)=b.l.length:=by simpa [len]using h
  have h:a.l.length=b.l.length:=by omega
  unfold dJ.W1;refine gB a.l.length (λn s=>s=(n:Int)/\∀i,i<n->a.l[i]? = b.l[i]?) ⟨rfl,λi h=>absurd h (by omega)⟩ ?_ ?_
  .rintro n _ hlt ⟨rfl,hI⟩;unfold dJ.aB;have hb:n<b.l.length:=by omega
   rw[show decide ((n:Int)<len a)=true from jZ hlt,aY,aX hlt,ζb,aX hb,ζb,bD];refine⟨λhe=>(af _).2 ⟨bY n (by omega),λi hi=>?_⟩,λhe=>(af _).2 ((af _).2 ?_)⟩
   .by_cases e:i=n
    .subst e;rw[ζd hlt,ζd hb];simpa using he
    .exact hI i (by omega)
   .refine(decide_eq_false λe=>?_).symm
    have h1:a.l[n]? = b.l[n]? := by rw[e]
    rw[ζd hlt,ζd hb]at h1;simp at he h1;exact he h1
  .rintro _ ⟨rfl,hI⟩;unfold dJ.aB;rw[jX,bg,af];refine(af _).2 (decide_eq_true (List.ext_getElem? λi=>?_)).symm
   by_cases hi:i<a.l.length
   .exact hI i hi
   .rw[List.getElem?_eq_none (by omega),List.getElem?_eq_none (by omega)]
 .refine(decide_eq_false λe=>?_).symm
  simp[len,e]at h
end Go.VE
namespace Go.VE
section
variable {t:Trace} {A:aC 200 aH}
def sD (A:aC 200 aH) (e:Event):aa:=if e.kind=3 then(ag A e.message).from_ else ⟨0,0⟩
structure Nf (t:Trace) (A:aC 200 aH) (n:Nat) (m:a_):Prop where
 lens:m.lengths.l=(t.procs.l.take n).map λP=>(P.events.l.length:Int)
 need:m.need.l.map Sl.l=(t.procs.l.take n).map λP=>P.events.l.map (sD A)
theorem of_wp (hS:Small t) (hv:fu t=some true) (hV:VT t) (hM:gu t (aT t) A):Wp (iK t) (Nf t A t.procs.l.length):=by
 have hn8:=hV.few;unfold iK iK.W1;refine gB t.procs.l.length (λn s=>s.1=(n:Int)/\s.2.1=t/\Nf t A n s.2.2.2) ⟨rfl,rfl,rfl,rfl⟩ ?_ ?_
 .rintro n ⟨_,_,vb,mb⟩ hlt ⟨h1,h2,h3⟩;simp only at h1 h2 h3;subst h1;have h2:=h2.symm;subst h2;unfold iK.aB;rw[jZ hlt,aY,aX hlt,ζb];have hPg:=ζd hlt;have hPl:=(hS.2 _ (List.getElem_mem hlt)).1;generalize hPe:t.procs.l[n]=P at *;unfold iK.W2;refine gB P.events.l.length (λk s=>s.2.1=(k:Int)/\s.2.2.1=t/\s.2.2.2.2=mb/\s.1.l=(P.events.l.take k).map (sD A)) ⟨rfl,rfl,rfl,rfl⟩ ?_ ?_
  .rintro k ⟨nd,_,_,vb2,_⟩ hk ⟨h4,h5,h6,h7⟩;simp only at h4 h5 h6 h7;subst h4;have h5:=h5.symm;have h6:=h6.symm;subst h5 h6;unfold iK.bq;rw[jZ hk,aY,aX hk,ζb];have hat:lN t n k P.events.l[k]:=⟨P,hPg,ζd hk⟩;have htk:P.events.l.take (k+1)=P.events.l.take k++[P.events.l[k]]:=by rw[List.take_add_one,ζd hk];rfl
   generalize P.events.l[k]=e at *;have fin:∀id,id=sD A e->Wp (iK.J3 nd t.procs (len t.procs) n P.events (len P.events) k t ⟨Sl.nil,Sl.nil⟩ mb P id) λw=>match w with|.n s'=>s'.2.1=((k+1:Nat):Int)/\s'.2.2.1=t/\s'.2.2.2.2=mb/\s'.1.l=(P.events.l.take (k+1)).map (sD A)|.x e=>False|.r b=>False:=λid hid=>by
    unfold iK.J3;obtain⟨r,h8,h9⟩:=rD (s:=nd) (x:=id) (by rw[h7];simp;omega)
    rw[h8,ζb,af];exact⟨bY k (by omega),rfl,rfl,by rw[h9,h7,htk,List.map_append,hid];rfl⟩
   rw[bD];constructor
   .intro h3;have h3:e.kind=3:=by simpa using h3
    obtain⟨q,j,y,hy,y1,y2,y3,y4,y5⟩:=D0 hV hM hat h3;have hs:=JN hS hv hM (dg.2 ⟨q,j,hy,rfl⟩:((⟨q,j+1⟩:aa),y)∈aT t) y1;simp only at hs;rw[y2]at hs;rw[hs,ζb];refine(fin _ (by unfold sD;rw[if_pos h3,y5])).mono λw hw=>?_
    cases w with
    | n s=>exact hw
    | x e=>exact hw.elim
    | r b=>exact hw.elim
   .intro h3;have h3:¬e.kind=3:=by simpa using h3
    refine(fin _ (by unfold sD;rw[if_neg h3])).mono λw hw=>?_
    cases w with
    | n s=>exact hw
    | x e=>exact hw.elim
    | r b=>exact hw.elim
  .rintro⟨nd,_,_,vb2,_⟩ ⟨h4,h5,h6,h7⟩;simp only at h4 h5 h6 h7;subst h4;have h5:=h5.symm;have h6:=h6.symm;subst h5 h6;unfold iK.bq;have hl1:mb.lengths.l.length=n:=by rw[h3.lens];simp;omega
   have hl2:mb.need.l.length=n:=by have:=congrArg List.length h3.need;simp at this;omega
   obtain⟨x1,a1,a2⟩:=rD (s:=mb.lengths) (x:=len P.events) (by omega)
   obtain⟨x2,b1,b2⟩:=rD (s:=mb.need) (x:=nd) (by omega)
   rw[jX,bg,af];simp only;rw[a1,ζb,b1,ζb,af];have htk:t.procs.l.take (n+1)=t.procs.l.take n++[P]:=by rw[List.take_add_one,hPg];rfl
   refine⟨bY n (by omega),rfl,?_,?_⟩
   .show x1.l=_;rw[a2,h3.lens,htk,List.map_append];rfl
   .show x2.l.map Sl.l=_;rw[b2,List.map_append,h3.need,htk,List.map_append,List.map_cons,h7,List.take_length];rfl
 .rintro⟨_,_,vb,mb⟩ ⟨h1,h2,h3⟩;simp only at h1 h2 h3;subst h1;have h2:=h2.symm;subst h2;unfold iK.aB;rw[jX,bg,af];exact(af _).2 h3
theorem K4 (hV:VT t) (hM:gu t (aT t) A) {m:a_} (hm:Nf t A t.procs.l.length m) {c:Sl Int} (hC:Cons t A c.l) {p:Nat} (hp:p<t.procs.l.length) :
 Wp (mO m c p) λb=>(b=true↔∃a,c.l[p]? = some a/\Cons t A (c.l.set p (a+1))):=by
 have hcl:=hC.1.1;have hPg:=ζd hp;obtain⟨a,ha⟩:=hC.1.at_ hp;have hr:=hC.1.2 p a _ ha hPg;generalize t.procs.l[p]=P at *;have hlen:m.lengths.l[p]? = some (P.events.l.length:Int):=by rw[hm.lens,List.take_length,List.getElem?_map,hPg];rfl
 have hpl:=(ζe.1 ha).1;have hix:idx c (p:Int)=some a:=by rw[oh];exact ha
 unfold mO;rw[hix,ζb,oh,hlen,ζb,bD];constructor
 .intro h;have h:a=P.events.l.length:=by simpa using h
  refine(af _).2 ⟨λh=>(by cases h),λ⟨b,hb,hC2⟩=>?_⟩
  rw[ha]at hb;cases hb;have:=hC2.1.2 p (a+1) P (by simp[hpl]) hPg
  omega
 .intro h;have h:¬a=P.events.l.length:=by simpa using h
  have hlt:a<P.events.l.length:=by omega
  have hn:=congrArg (λl=>l[p]?) hm.need
  simp only[List.take_length,List.getElem?_map,hPg,Option.map_some]at hn;obtain⟨nd,hnd,hnl⟩:=ζf.1 hn;have hal:a.toNat<P.events.l.length:=by omega
  have hx:idx nd a=some (sD A P.events.l[a.toNat]):=by
   rw[KR hr.1,hnl,List.getElem?_map,ζd hal];rfl
  rw[oh,hnd,ζb,ζb,hx,ζb];have hup:=hC.up hV hM hPg ha hlt;have hiff:(∃b,c.l[p]? = some b/\Cons t A (c.l.set p (b+1)))↔Ml t A c.l p:=by
   rw[hup];exact⟨λ⟨b,hb,k⟩=>by rw[ha]at hb;cases hb;exact k,λk=>⟨a,ha,k⟩⟩
  rw[hiff];have hat:lN t p a.toNat P.events.l[a.toNat]:=⟨P,hPg,ζd hal⟩;have hen:Ml t A c.l p↔(P.events.l[a.toNat].kind=3->∃b,c.l[(ag A P.events.l[a.toNat].message).from_.proc.toNat]? = some b/\(ag A P.events.l[a.toNat].message).from_.index<=b):=
   ⟨λ⟨Q,e,x,h1,h2,h3,h4⟩=>by rw[hPg]at h1;cases h1;rw[ha]at h2;cases h2;rw[ζd hal]at h3;cases h3;exact h4,λh=>⟨P,_,a,hPg,ha,ζd hal,h⟩⟩
  rw[hen];generalize P.events.l[a.toNat]=e at *;unfold sD
  by_cases h3:e.kind=3
  .rw[if_pos h3];obtain⟨q,j,f1,_,_,y,Q,hQ,_⟩:=wj hV hM hat h3;have hq:q<c.l.length:=by have:=(ζe.1 hQ).1;omega
   rw[f1];simp only[Int.toNat_natCast];rw[aX hq,ζb,af];simp only[decide_eq_true_eq];exact⟨λh _=>⟨_,ζd hq,h⟩,λh=>by obtain⟨b,hb,hb2⟩:=h h3;rw[ζd hq]at hb;cases hb;exact hb2⟩
  .rw[if_neg h3];have h0:0<c.l.length:=by omega
   have hpos:=hC.1.pos 0 _ (ζd h0);have hi:idx c ((⟨0,0⟩:aa).proc)=some c.l[0]:=aX (s:=c) (i:=0) h0;rw[hi,ζb,af];exact⟨λ_ h=>absurd h h3,λ_=>by simpa using hpos⟩
end
end Go.VE
namespace Go.VE
theorem C2 {α:Type}:∀l:List α,(List.range l.length).filterMap (l[·]?)=l
 | []=>rfl
 | x::l=>by
  rw[List.length_cons,List.range_succ_eq_map,List.filterMap_cons,List.filterMap_map];show x::(List.range l.length).filterMap (λi=>(x::l)[i+1]?)=_
  simp only[List.getElem?_cons_succ];rw[C2 l]
theorem NJ {α:Type} {s r:Sl α} {p:α->α->Option Bool} (h:uU s p=some r):r.l.Sublist s.l:=by
 unfold uU at h;split at h
 .cases h;have key:((kept (λi=>(qR s.l p i).getD false) s.l.length).filterMap (s.l[·]?)).Sublist s.l:=by
   have e:=C2 s.l
   conv=>rhs;rw[<-e]
   exact List.Sublist.filterMap _ (by unfold kept;exact List.filter_sublist)
  generalize (kept (λi=>(qR s.l p i).getD false) s.l.length).filterMap (s.l[·]?)=y at *
  cases s <;> first|exact key|(simp[Sl.qL,Sl.l])
 .cases h
theorem vY {c:Sl Int} (hl:c.l.length<=1073741824) (h0:0<c.l.length):∃d,(gN c).bind Sl.whole=some d/\d.l=c.l:=by
 unfold gN;have key:((kO (Sl.row []:Sl Int) c).bind λx=>some x).bind Sl.whole=some (.row ([]++c.l)):=by
  unfold kO;rw[if_neg (λh=>by rw[h]at h0;simp at h0),if_pos (show (Sl.row ([]:List Int)).l.length+c.l.length<=2147483648 from show 0+c.l.length<=_ by omega)];rfl
 cases c with
 | nil=>simp[Sl.l]at h0
 | emp=>simp[Sl.l]at h0
 | part l=>exact⟨_,key,rfl⟩
 | row l=>exact⟨_,key,rfl⟩
section
variable {t:Trace} {A:aC 200 aH}
theorem K9 (hS:Small t) (hV:VT t) (hM:gu t (aT t) A) {m:a_} (hm:Nf t A t.procs.l.length m) {k:Nat} {level:Sl (Sl Int)} (hL:wG t A k level) (hl:level.l.length<=5000) :
 Wp (cW m level) λr=>wG t A (k+1) r/\(ins r).Nodup/\r.l.length<=40000/\(ins r).Pairwise λx y=>¬dM y x<0:=by
 have hn8:=hV.few;unfold cW cW.W1;refine gB level.l.length (λn s=>s.2.1=len level/\s.2.2=(n:Int)/\s.1.l.length<=8*n/\∀d,d∈ins s.1↔∃c∈(level.l.take n).map Sl.l,zT t A c d) ⟨rfl,rfl,Nat.zero_le _,λd=>by simp[ins,Sl.l]⟩ ?_ ?_
 .rintro n ⟨out,_,_⟩ hlt ⟨e1,e2,g1,g2⟩;simp only at e1 e2 g1 g2;subst e1 e2;have hCn:=(hL level.l[n].l).1 (oM.2 ⟨_,List.getElem_mem hlt,rfl⟩);unfold cW.aB;rw[jZ hlt,aY,aX hlt,ζb];have htk:∀d,d∈(level.l.take (n+1)).map Sl.l↔d∈(level.l.take n).map Sl.l\/d=level.l[n].l:=λd=>tV hlt
  generalize level.l[n]=c at *;have hcl:=hCn.1.1.1;have hone:=hV.ok.one;unfold cW.W2;refine gB c.l.length (λj s=>s.2=(j:Int)/\s.1.l.length<=8*n+j/\∀d,d∈ins s.1↔d∈ins out\/∃(p:Nat) (a:Int),p<j/\c.l[p]? = some a/\d=c.l.set p (a+1)/\Cons t A d) ⟨rfl,g1,λd=>⟨.inl,λh=>h.elim id λ⟨p,a,h,_⟩=>absurd h (by omega)⟩⟩ ?_ ?_
  .rintro j ⟨o2,_⟩ hj ⟨e,f1,f2⟩;simp only at e f1 f2;subst e;unfold cW.bq;rw[show decide ((j:Int)<len c)=true from jZ hj,aY,eS];refine(K4 hV hM hm hCn.1 (p:=j) (by omega)).mono λb hb=>?_
   have hcg:=ζd hj;have hr:=hCn.1.1.2 j _ _ hcg (ζd (show j<t.procs.l.length by omega))
   have hPl:=(hS.2 _ (List.getElem_mem (show j<t.procs.l.length by omega))).1
   generalize c.l[j]=a at *;have more:∀o3:Sl (Sl Int),(∀d,d∈ins o3↔d∈ins o2\/d=c.l.set j (a+1)/\Cons t A d)->∀d,d∈ins o3↔d∈ins out\/∃(p:Nat) (a:Int),p<j+1/\c.l[p]? = some a/\d=c.l.set p (a+1)/\Cons t A d:=λo3 h d=>by
    rw[h,f2];constructor
    .rintro ((h|⟨p,b,h,k⟩)|⟨h,k⟩)
     .exact .inl h
     .exact .inr ⟨p,b,by omega,k⟩
     .exact .inr ⟨j,a,by omega,hcg,h,k⟩
    .rintro (h|⟨p,b,h,k1,k2,k3⟩)
     .exact .inl (.inl h)
     .by_cases e:p=j
      .subst e;rw[hcg]at k1;cases k1;exact .inr ⟨k2,k3⟩
      .exact .inl (.inr ⟨p,b,by omega,k1,k2,k3⟩)
   rw[bD];constructor
   .intro ht;obtain⟨x,hx,hC2⟩:=hb.1 ht;rw[hcg]at hx;cases hx;obtain⟨d,hd,hdl⟩:=vY (c:=c) (by omega) (by omega)
    obtain⟨d2,hd2,hdl2⟩:=put_eq (s:=d) (p:=j) (x:=a+1) (by rw[hdl];exact hj)
    obtain⟨o3,ho3,hol3⟩:=rD (s:=o2) (x:=d2) (by omega)
    have hg:Sl.get d j=some a:=by unfold Sl.get;rw[hdl];exact hcg
    rw[hd,ζb,tP (by rw[hdl];exact hj),ζb,hg,ζb,ζb,mF _ (by omega) (by omega),hd2,ζb,ho3,ζb,af]
    refine⟨bY j (by omega),by rw[hol3];simp;omega,more o3 λe=>?_⟩
    rw[GG hol3,hdl2,hdl];exact⟨λh=>h.elim .inl λh=>.inr ⟨h,by rw[h];exact hC2⟩,λh=>h.elim .inl λh=>.inr h.1⟩
   .intro hf;refine(af _).2 ⟨bY j (by omega),Nat.le_succ_of_le f1,more o2 λd=>⟨.inl,λh=>h.elim id λ⟨h1,h2⟩=>?_⟩⟩
    rw[hb.2 ⟨a,hcg,by rw[<-h1];exact h2⟩]at hf;cases hf
  .rintro⟨o2,_⟩ ⟨e,f1,f2⟩;simp only at e f1 f2;subst e;unfold cW.bq;rw[jX,bg,af];refine(af _).2 ⟨rfl,bY n (by omega),show o2.l.length<=_ by omega,λd=>?_⟩
   rw[f2];constructor
   .rintro (h|⟨p,a,_,h⟩)
    .obtain⟨c',hc,hs⟩:=(g2 d).1 h;exact⟨c',(htk c').2 (.inl hc),hs⟩
    .exact⟨_,(htk _).2 (.inr rfl),p,a,h⟩
   .rintro⟨c',hc,hs⟩;rcases (htk c').1 hc with h|h
    .exact .inl ((g2 d).2 ⟨c',h,hs⟩)
    .subst h;obtain⟨p,a,h⟩:=hs;exact .inr ⟨p,a,(ζe.1 h.1).1,h⟩
 .rintro⟨out,_,_⟩ ⟨e1,e2,g1,g2⟩;simp only at e1 e2 g1 g2;subst e1 e2;unfold cW.aB;rw[jX,bg,af];simp only;have hout:wG t A (k+1) out:=λd=>by
   rw[g2,List.take_length,<-zT.iff hV hM (k:=k)];exact⟨λ⟨c,hc,hs⟩=>⟨c,(hL c).1 hc,hs⟩,λ⟨c,hc,hs⟩=>⟨c,(hL c).2 hc,hs⟩⟩
  have hlen:∀s:Sl (Sl Int),(∀d,d∈ins s↔d∈ins out)->∀x∈s.l,x.l.length<1073741824:=λs h x hx=>by
   have:=((hout x.l).1 ((h x.l).1 (oM.2 ⟨x,hx,rfl⟩))).1.1.1;omega
  obtain⟨r1,h1,p1,s1⟩:=Lc (s:=out) (p:=gT) (f:=Sl.l) (λx y hx _=>Ht (hlen out (λ_=>Iff.rfl) x hx)) (by omega)
  have hr1:∀d,d∈ins r1↔d∈ins out:=λd=>(p1.map Sl.l).mem_iff
  have hr1l:r1.l.length=out.l.length:=p1.length_eq;obtain⟨r2,h2,nd,m2,l2⟩:=LB (s:=r1) (p:=jw) (f:=Sl.l) (λx y hx _=>by unfold jw;rw[L8 (hlen r1 hr1 x hx)];rfl) (by omega) s1
  rw[h1,ζb,h2,ζb,af];exact⟨λd=>(m2 d).trans ((hr1 d).trans (hout d)),nd,by omega,by unfold ins;rw[List.pairwise_map];exact s1.sublist (NJ h2)⟩
structure Va (t:Trace) (A:aC 200 aH) (k:Nat) (o:Sl (Sl (Sl Int))):Prop where
 nd:(o.l.flatMap ins).Nodup
 mem:∀d,d∈o.l.flatMap ins↔Cons t A d/\d.sum<(k:Int)
end
end Go.VE
namespace Go.VE
theorem Cj {c:Sl Int} (h:B_ c.l):eF c=some c.l.sum:=by
 refine Wp.eq ?_;have h8:=h.1;unfold eF eF.W1;refine gB c.l.length (λi (q:Int×Int)=>q.2=(i:Int)/\q.1=(c.l.take i).sum) ⟨rfl,rfl⟩ ?_ ?_
 .rintro i ⟨m,_⟩ hi ⟨e,h1⟩;simp only at e h1;subst e;subst h1;unfold eF.aB;rw[jZ hi,aY,aX hi,ζb,af];have k:=KY h (i+1);rw[Et hi]at k;exact⟨bY i (by omega),by rw[Et hi];exact mF _ (by omega) (by omega)⟩
 .rintro⟨m,_⟩ ⟨e,h1⟩;simp only at e h1;subst e;subst h1;unfold eF.aB;rw[jX,bg,af];exact(af _).2 (by rw[List.take_length])
theorem FF {a b:Sl Int} (ha:B_ a.l) (hb:B_ b.l) (hl:a.l.length=b.l.length):e_ a b=some (decide (dm a.l b.l)):=by
 have h8:=ha.1;unfold e_;rw[Cj ha,ζb,Cj hb,ζb]
 by_cases e:a.l.sum=b.l.sum
 .rw[show (a.l.sum==b.l.sum)=true from by simpa using e,aY]
  refine Wp.eq ?_;unfold e_.W1;refine gB a.l.length (λi (q:Int)=>q=(i:Int)/\dM (a.l.drop i) (b.l.drop i)=dM a.l b.l) ⟨rfl,rfl⟩ ?_ ?_
  .rintro i _ hi ⟨rfl,h⟩;have hib:i<b.l.length:=by omega
   unfold e_.aB;rw[jZ hi,aY,aX hi,ζb,aX hib,ζb];rw[Jt hi hib]at h
   by_cases e2:a.l[i]=b.l[i]
   .rw[show (a.l[i]==b.l[i])=true from by simpa using e2,aY,af]
    rw[if_neg (by omega),if_neg (by omega)]at h
    exact⟨bY i (by omega),h⟩
   .rw[show (a.l[i]==b.l[i])=false from by simpa using e2,bg,ζb,ζb,af]
    refine(af _).2 ?_;have hd:decide (dm a.l b.l)=decide (dM a.l b.l<0):=decide_eq_decide.2 (dm.D6 e);rw[hd]
    by_cases k:a.l[i]<b.l[i]
    .rw[if_pos k]at h;rw[<-h];simp[k]
    .rw[if_neg k,if_pos (by omega)]at h;rw[<-h];simp[k]
  .rintro _ ⟨rfl,h⟩;unfold e_.aB;rw[jX,bg,af];refine(af _).2 ?_;have hd:decide (dm a.l b.l)=decide (dM a.l b.l<0):=decide_eq_decide.2 (dm.D6 e);rw[hd];rw[List.drop_of_length_le (Nat.le_refl _),List.drop_of_length_le (by omega)]at h
   rw[<-h];rfl
 .rw[show (a.l.sum==b.l.sum)=false from by simpa using e,bg,ζb,ζb]
  congr 1
  refine decide_eq_decide.2 ?_;unfold dm BI
  by_cases k:a.l.sum<b.l.sum
  .simp[dM,k]
  .simp[dM,k,show a.l.sum>b.l.sum by omega]
theorem JP {a b:Sl Int} (hl:a.l.length<1073741824):dH a b=some (decide (a.l=b.l)):=by
 refine Wp.eq ?_;unfold dH;rw[bD];refine⟨λh=>?_,λh=>(af _).2 ?_⟩
 .have h:(a.l.length:Int)=b.l.length:=by simpa [len]using h
  have h:a.l.length=b.l.length:=by omega
  unfold dH.W1;refine gB a.l.length (λn s=>s=(n:Int)/\∀i,i<n->a.l[i]? = b.l[i]?) ⟨rfl,λi h=>absurd h (by omega)⟩ ?_ ?_
  .rintro n _ hlt ⟨rfl,hI⟩;unfold dH.aB;have hb:n<b.l.length:=by omega
   rw[jZ hlt,aY,aX hlt,ζb,aX hb,ζb,bD];refine⟨λhe=>(af _).2 ⟨bY n (by omega),λi hi=>?_⟩,λhe=>(af _).2 ((af _).2 ?_)⟩
   .by_cases e:i=n
    .subst e;rw[ζd hlt,ζd hb];simpa using he
    .exact hI i (by omega)
   .refine(decide_eq_false λe=>?_).symm
    have h1:a.l[n]? = b.l[n]? := by rw[e]
    rw[ζd hlt,ζd hb]at h1;simp at he h1;exact he h1
  .rintro _ ⟨rfl,hI⟩;unfold dH.aB;rw[jX,bg,af];refine(af _).2 (decide_eq_true (List.ext_getElem? λi=>?_)).symm
   by_cases hi:i<a.l.length
   .exact hI i hi
   .rw[List.getElem?_eq_none (by omega),List.getElem?_eq_none (by omega)]
 .refine(decide_eq_false λe=>?_).symm
  simp[len,e]at h
theorem jC (s:Sl (Sl Int)):(ins s).length=s.l.length:=by unfold ins;simp
theorem O1 (s:Sl (Sl Int)) (i:Nat):(ins s)[i]? = (s.l[i]?).map Sl.l:=by unfold ins;rw[List.getElem?_map]
theorem vj {s:Sl (Sl Int)} {i:Nat} (h:i<s.l.length):(ins s)[i]? = some s.l[i].l:=by rw[O1,ζd h];rfl
theorem FT {l:Sl (Sl Int)} {c:Sl Int} (hn:∀x∈l.l,B_ x.l/\x.l.length=c.l.length) (hc:B_ c.l) (hl:l.l.length<1073741824) (hs:(ins l).Pairwise dm) :
 Wp (eY l c) λr=>r.l.length<=l.l.length+1/\(ins r).Pairwise dm/\∀d,d∈ins r↔d∈ins l\/d=c.l:=by
 have h8:=hc.1;have post:∀n:Nat,n<=l.l.length->(∀(i:Nat) x,i<n->(ins l)[i]? = some x->dm x c.l)->(∀x,(ins l)[n]? = some x->¬dm x c.l) ->
  Wp ((ay (decide ((n:Int)<(len l))) ((idx l n).bind λx_1=>(dH x_1 c).bind λx_2=>some x_2) (some false):Option Bool).bind λx_3=>
  ay x_3 (some l) ((eH l none (some (n:Int))).bind λx_4=>(kO (Sl.row []:Sl (Sl Int)) x_4).bind λx_5=>(i_ x_5 (c:Sl Int)).bind λx_6=>(eH l (some (n:Int)) none).bind λx_7=>(kO x_6 x_7).bind λx_8=>some x_8))
  λr=>r.l.length<=l.l.length+1/\(ins r).Pairwise dm/\∀d,d∈ins r↔d∈ins l\/d=c.l:=by
  intro n hnl hlo hhi;have hcut:(∀x,(ins l)[n]? = some x->x≠c.l)->Wp ((eH l none (some (n:Int))).bind λx_4=>(kO (Sl.row []:Sl (Sl Int)) x_4).bind λx_5=>(i_ x_5 (c:Sl Int)).bind λx_6=>(eH l (some (n:Int)) none).bind λx_7=>(kO x_6 x_7).bind λx_8=>some x_8) λr=>r.l.length<=l.l.length+1/\(ins r).Pairwise dm/\∀d,d∈ins r↔d∈ins l\/d=c.l:=by
   intro hne;obtain⟨x4,h4,e4⟩:=uA l n hnl;have e4l:x4.l.length<=l.l.length:=by rw[e4,List.length_take];omega
   obtain⟨x5,h5,e5⟩:=yQ (s:=(Sl.row []:Sl (Sl Int))) (x:=x4) (show 0+x4.l.length<=_ by omega)
   have e5:x5.l=x4.l:=e5;obtain⟨x6,h6,e6⟩:=rD (s:=x5) (x:=c) (by rw[e5];omega)
   obtain⟨x7,h7,e7⟩:=yX l n hnl;obtain⟨x8,h8,e8⟩:=yQ (s:=x6) (x:=x7) (by rw[e6,e7,e5,ζi,List.length_drop,List.length_singleton];omega)
   rw[h4,ζb,h5,ζb,h6,ζb,h7,ζb,h8,ζb,af];have e:x8.l=l.l.take n++[c]++l.l.drop n:=by rw[e8,e6,e7,e5,e4]
   have ei:ins x8=(ins l).take n++[c.l]++(ins l).drop n:=by unfold ins;rw[e];simp[List.map_take,List.map_drop]
   obtain⟨s1,s2⟩:=G6 hs hlo λx hx=>by
    by_cases k:dm c.l x
    .exact k
    .exact absurd (dm.tot k (hhi x hx)).symm (hne x hx)
   exact⟨by rw[e];simp;omega,by rw[ei];exact s1,λd=>by rw[ei];exact s2 d⟩
  by_cases h:n<l.l.length
  .rw[jZ h,aY,aX h,ζb,JP (by have:=(hn _ (List.getElem_mem h)).1.1;omega),ζb,ζb]
   by_cases e:l.l[n].l=c.l
   .rw[decide_eq_true e,aY,af];refine⟨by omega,hs,λd=>⟨.inl,λh2=>h2.elim id λh2=>?_⟩⟩
    rw[h2,<-e];exact oM.2 ⟨_,List.getElem_mem h,rfl⟩
   .rw[decide_eq_false e,bg];exact hcut λx hx=>by rw[vj h]at hx;cases hx;exact e
  .rw[show (n:Int)=(l.l.length:Nat)from by omega,jX,bg,ζb,bg,<-show (n:Int)=(l.l.length:Nat)from by omega]
   exact hcut λx hx=>by have:=(ζe.1 hx).1;rw[jC]at this;omega
 unfold eY eY.W1;refine gB l.l.length (λn s=>s=(n:Int)/\∀(i:Nat) x,i<n->(ins l)[i]? = some x->dm x c.l) ⟨rfl,λi x h=>absurd h (by omega)⟩ ?_ ?_
 .rintro n _ hlt ⟨rfl,hI⟩;obtain⟨q1,q2⟩:=hn _ (List.getElem_mem hlt);unfold eY.aB;rw[jZ hlt,aY,aX hlt,ζb,FF q1 hc q2,ζb,ζb]
  by_cases e:dm l.l[n].l c.l
  .rw[decide_eq_true e,aY,af];refine⟨bY n (by omega),λi x hi hx=>?_⟩
   by_cases e2:i=n
   .subst e2;rw[vj hlt]at hx;cases hx;exact e
   .exact hI i x (by omega) hx
  .rw[decide_eq_false e,bg,af];exact post n (by omega) hI λx hx=>by rw[vj hlt]at hx;cases hx;exact e
 .rintro _ ⟨rfl,hI⟩;unfold eY.aB;rw[jX,bg,ζb,bg,af];exact post _ (Nat.le_refl _) hI λx hx=>by have:=(ζe.1 hx).1;rw[jC]at this;omega
section
variable {t:Trace} {A:aC 200 aH}
structure iJ (t:Trace) (A:aC 200 aH) (L:List (List Int)):Prop where
 srt:L.Pairwise dm
 mem:∀d,d∈L↔Cons t A d
def yB (t:Trace) (A:aC 200 aH):Prop:=∃L:List (List Int),L.Nodup/\(∀d∈L,Cons t A d)/\5000<L.length
theorem iJ.one {L R:List (List Int)} (h:iJ t A L) (k:iJ t A R):L=R:=Am h.srt k.srt λx=>(h.mem x).trans (k.mem x).symm
theorem iJ.not {L:List (List Int)} (h:iJ t A L) (hl:L.length<=5000) (k:yB t A):False:=by
 obtain⟨R,nd,hR,hlen⟩:=k;have:=zI nd λx hx=>(h.mem x).2 (hR x hx)
 omega
theorem C5 {k:Nat} {o l:List (List Int)} (h1:∀d,d∈l↔Cons t A d/\d.sum=(k:Int)) (h2:l.Pairwise dm) (h3:o.Pairwise dm) (h4:∀d,d∈o↔Cons t A d/\d.sum<(k:Int)) :
 (o++l).Pairwise dm/\∀d,d∈o++l↔Cons t A d/\d.sum<((k+1:Nat):Int):=by
 refine⟨List.pairwise_append.2 ⟨h3,h2,λa ha b hb=>dm.sum (by have:=((h4 a).1 ha).2;have:=((h1 b).1 hb).2;omega)⟩,λd=>?_⟩
 rw[List.mem_append,h4,h1];constructor
 .rintro (⟨h,k1⟩|⟨h,k1⟩)
  .exact⟨h,by omega⟩
  .exact⟨h,by omega⟩
 .rintro⟨h,k1⟩
  by_cases hk2:d.sum<(k:Int)
  .exact .inl ⟨h,hk2⟩
  .exact .inr ⟨h,by omega⟩
theorem IX (hS:Small t) (hV:VT t) (hM:gu t (aT t) A):Wp (c8 t) λr=>(r.2=true/\iJ t A (ins r.1)/\r.1.l.length<=5000)\/(r.2=false/\r.1=.nil/\yB t A):=by
 have hn8:=hV.few;unfold c8 sG;rw[if_pos ⟨by simp[len],by simp[len];omega⟩,ζb]
 unfold c8.W1;have fin:∀(k:Nat) (level out:Sl (Sl Int)),wG t A k level->level.l.length=0->(ins out).Pairwise dm->(∀d,d∈ins out↔Cons t A d/\d.sum<(k:Int))->iJ t A (ins out):=λk level out h1 he h2 h3=>
  ⟨h2,λd=>(h3 d).trans ⟨λh=>h.1,λh=>⟨h,h1.none hV hM he h⟩⟩⟩
 refine gB (pU t+1) (λk s=>wG t A k s.1/\(ins s.1).Pairwise dm/\(ins s.2).Pairwise dm/\(∀d,d∈ins s.2↔Cons t A d/\d.sum<(k:Int))/\s.1.l.length<=40000/\s.2.l.length<=5000)
  ⟨Py (by simp[Sl.l,len]),by simp[ins,Sl.l],by simp[ins,Sl.l],λd=>⟨λh=>by simp[ins,Sl.l]at h,λh=>absurd (oO h.1.1.pos) (by have:=h.2;simp at this;omega)⟩,by simp[Sl.l],by simp[Sl.l]⟩ ?_ ?_
 .rintro k ⟨level,out⟩ hk ⟨h1,h1s,h2s,h2,h3,h4⟩;simp only at h1 h1s h2s h2 h3 h4;unfold c8.aB;rw[Az]
  by_cases he:level.l.length=0
  .rw[show (!decide (level.l.length=0))=false from by simp[he],bg,af]
   exact(af _).2 (.inl ⟨rfl,fin k level out h1 he h2s h2,h4⟩)
  .rw[show (!decide (level.l.length=0))=true from by simp[he],aY]
   obtain⟨x,hx,hxl⟩:=yQ (s:=out) (x:=level) (by omega)
   have hxi:ins x=ins out++ins level:=by unfold ins;rw[hxl];simp
   obtain⟨o1,o2⟩:=C5 h1 h1s h2s h2;rw[<-hxi]at o1 o2;rw[hx,ζb,bD];refine⟨λh5=>(af _).2 ((af _).2 (.inr ⟨rfl,rfl,ins x,dm.nodup o1,λd hd=>((o2 d).1 hd).1,?_⟩)),λh5=>?_⟩
   .rw[jC];simp[len]at h5;omega
   have h5:x.l.length<=5000:=by simp[len]at h5;omega
   have h6:level.l.length<=5000:=by rw[hxl,ζi]at h5;omega
   have sm:∀d,Cons t A d->B_ d/\d.length=t.procs.l.length:=λd h=>⟨OO hS hV h,h.1.1⟩
   unfold c8.W2;refine gB level.l.length (λn s=>s.2=(n:Int)/\s.1.l.length<=8*n/\(ins s.1).Pairwise dm/\∀d,d∈ins s.1↔∃c∈(level.l.take n).map Sl.l,zT t A c d) ⟨rfl,Nat.zero_le _,by simp[ins,Sl.l],λd=>by simp[ins,Sl.l]⟩ ?_ ?_
   .rintro n ⟨more,_⟩ hlt ⟨e,g1,gs,g2⟩;simp only at e g1 gs g2;subst e;unfold c8.bq;have hCn:=(h1 level.l[n].l).1 (oM.2 ⟨_,List.getElem_mem hlt,rfl⟩);rw[jZ hlt,aY,aX hlt,ζb,eS];refine(NH hS hV hM hCn.1).mono λnx hn=>?_
    unfold c8.W3;refine gB nx.l.length (λm s=>s.2=(m:Int)/\s.1.l.length<=8*n+m/\(ins s.1).Pairwise dm/\∀d,d∈ins s.1↔d∈ins more\/d∈(nx.l.take m).map Sl.l) ⟨rfl,g1,gs,λd=>by simp⟩ ?_ ?_
    .rintro m ⟨mr,_⟩ hlm ⟨e,f1,fs,f2⟩;simp only at e f1 fs f2;subst e;unfold c8.fN;rw[jZ hlm,aY,aX hlm,ζb,eS];have hN:=(hn.2 nx.l[m].l).1 (oM.2 ⟨_,List.getElem_mem hlm,rfl⟩);obtain⟨_,_,_,_,hNC⟩:=hN;refine(FT (l:=mr) (c:=nx.l[m]) (λy hy=>?_) (sm _ hNC).1 (by omega) fs).mono λr hr=>?_
     .have hy2:Cons t A y.l:=by
       rcases (f2 y.l).1 (oM.2 ⟨_,hy,rfl⟩)with h|h
       .obtain⟨_,_,p,a,_,_,k⟩:=(g2 y.l).1 h;exact k
       .obtain⟨z,hz,e⟩:=List.mem_map.1 h;obtain⟨p,a,_,_,k⟩:=(hn.2 z.l).1 (oM.2 ⟨_,List.mem_of_mem_take hz,rfl⟩);rw[<-e];exact k
      exact⟨(sm _ hy2).1,(sm _ hy2).2.trans (sm _ hNC).2.symm⟩
     .refine(af _).2 ⟨bY m (by omega),Nat.le_trans hr.1 (by omega),hr.2.1,λd=>?_⟩
      rw[hr.2.2,f2,tV hlm,or_assoc]
    .rintro⟨mr,_⟩ ⟨e,f1,fs,f2⟩;simp only at e f1 fs f2;subst e;unfold c8.fN;rw[jX,bg,af];refine(af _).2 ⟨bY n (by omega),show mr.l.length<=_ by omega,fs,λd=>?_⟩
     rw[f2,List.take_length];constructor
     .rintro (h|h)
      .obtain⟨c,hc,hs⟩:=(g2 d).1 h;exact⟨c,(tV hlt).2 (.inl hc),hs⟩
      .exact⟨_,(tV hlt).2 (.inr rfl),(hn.2 d).1 h⟩
     .rintro⟨c,hc,hs⟩;rcases (tV hlt).1 hc with h|h
      .exact .inl ((g2 d).2 ⟨c,h,hs⟩)
      .subst h;exact .inr ((hn.2 d).2 hs)
   .rintro⟨more,_⟩ ⟨e,g1,gs,g2⟩;simp only at e g1 gs g2;subst e;unfold c8.bq;rw[jX,bg,af];refine(af _).2 ⟨λd=>?_,gs,o1,o2,show more.l.length<=_ by omega,h5⟩
    rw[g2,List.take_length,<-zT.iff hV hM (k:=k)];exact⟨λ⟨c,hc,hs⟩=>⟨c,(h1 c).1 hc,hs⟩,λ⟨c,hc,hs⟩=>⟨c,(h1 c).2 hc,hs⟩⟩
 .rintro⟨level,out⟩ ⟨h1,h1s,h2s,h2,h3,h4⟩;simp only at h1 h1s h2s h2 h3 h4;unfold c8.aB;rw[Az,show (!decide (level.l.length=0))=false from by simp[h1.last],bg,af]
  exact(af _).2 (.inl ⟨rfl,fin _ level out h1 h1.last h2s h2,h4⟩)
theorem Ln (hV:VT t) (hS:Small t):pU t<8589934600:=by
 have key:∀(l:List bt),(∀p∈l,p.events.l.length<1073741824)->(l.map λP=>P.events.l.length).sum<=1073741824*l.length:=by
  intro l
  induction l with
  | nil=>intro _;simp
  | cons x l ih=>
   intro h;have h1:=h x (by simp)
   have h2:=ih λy hy=>h y (List.mem_cons_of_mem _ hy)
   simp only[List.map_cons,List.sum_cons,List.length_cons];omega
 have h1:=key t.procs.l λp hp=>(hS.2 p hp).1
 have h2:=hV.few;unfold pU;omega
theorem Oz {k:Int} {L:List (List Int)} (nd:L.Nodup) (hs:L.Pairwise λx y=>¬dM y x<0) (hk:∀d∈L,d.sum=k):L.Pairwise dm:=by
 refine(hs.and nd).imp_of_mem λ{x y} hx hy h=>?_
 have e:x.sum=y.sum:=by rw[hk x hx,hk y hy]
 rw[dm.D6 e]
 by_cases q:dM x y<0
 .exact q
 .exact absurd (vA _ _ q h.1) h.2
theorem KA (hS:Small t) (hv:fu t=some true) (hV:VT t) (hM:gu t (aT t) A) :
 Wp (mE t) λr=>(r.2=0/\iJ t A (ins r.1)/\r.1.l.length<=5000)\/(r.2=16/\r.1=.nil/\yB t A):=by
 have hn8:=hV.few;have hT:=Ln hV hS;unfold mE h_;rw[hv,ζb,aY,eS,eS];refine(of_wp hS hv hV hM).mono λm hm=>?_
 unfold sG;rw[if_pos ⟨by simp[len],by simp[len];omega⟩,ζb]
 have fin:∀(k:Nat) (level:Sl (Sl Int)) (out:Sl (Sl (Sl Int))),wG t A k level->level.l.length=0->(out.l.flatMap ins).Pairwise dm->(∀d,d∈out.l.flatMap ins↔Cons t A d/\d.sum<(k:Int))->out.l.length<=5000->(out.l.flatMap ins).length<=5000 ->
  Wp ((dQ out).bind λx_2=>some (x_2,(0:Int))) λr=>(r.2=0/\iJ t A (ins r.1)/\r.1.l.length<=5000)\/(r.2=16/\r.1=.nil/\yB t A):=λk level out h1 he h2 h3 ho hf=>by
  have hfl:(out.l.flatMap Sl.l).map Sl.l=out.l.flatMap ins:=by rw[List.map_flatMap];rfl
  have hc:(xu out).l=out.l.flatMap Sl.l:=by
   unfold xu;split
   .rename_i h;exact(List.length_eq_zero_iff.1 h).symm
   .rfl
  unfold dQ;rw[if_pos ⟨by omega,by rw[<-List.length_map (f:=Sl.l),hfl];omega⟩,ζb,af]
  have e:ins (xu out)=out.l.flatMap ins:=by unfold ins at hfl ⊢;rw[hc];exact hfl
  refine .inl ⟨rfl,⟨by rw[e];exact h2,λd=>by rw[e];exact(h3 d).trans ⟨λh=>h.1,λh=>⟨h,h1.none hV hM he h⟩⟩⟩,?_⟩
  show (xu out).l.length<=5000;rw[hc,<-List.length_map (f:=Sl.l),hfl];exact hf
 unfold h_.W1;refine gB (pU t+1) (λk s=>wG t A k s.1/\(ins s.1).Pairwise dm/\(s.2.1.l.flatMap ins).Pairwise dm/\(∀d,d∈s.2.1.l.flatMap ins↔Cons t A d/\d.sum<(k:Int))/\s.2.2=((s.2.1.l.flatMap ins).length:Int)/\s.2.1.l.length<=(s.2.1.l.flatMap ins).length/\(s.2.1.l.flatMap ins).length<=5000/\s.1.l.length<=40000)
  ⟨Py (by simp[Sl.l,len]),by simp[ins,Sl.l],by simp[Sl.l],λd=>⟨λh=>by simp[Sl.l]at h,λh=>absurd (oO h.1.1.pos) (by have:=h.2;simp at this;omega)⟩,by simp[Sl.l],by simp[Sl.l],by simp[Sl.l],by simp[Sl.l]⟩ ?_ ?_
 .rintro k ⟨level,out,tot⟩ hk ⟨h1,h1s,h2s,h2,h4,h5,h6,h7⟩;simp only at h1 h1s h2s h2 h4 h5 h6 h7;obtain⟨o1,o2⟩:=C5 h1 h1s h2s h2;unfold h_.aB;rw[Az]
  by_cases he:level.l.length=0
  .rw[show (!decide (level.l.length=0))=false from by simp[he],bg,af]
   exact(af _).2 (fin k level out h1 he h2s h2 (by omega) h6)
  .rw[show (!decide (level.l.length=0))=true from by simp[he],aY,h4]
   have hw:IntKind.wrap .i64 (((out.l.flatMap ins).length:Int)+len level)=(((out.l.flatMap ins).length+level.l.length:Nat):Int):=by
    have e:len level=(level.l.length:Int):=rfl;rw[e,mF _ (by omega) (by omega)];omega
   rw[hw,bD];refine⟨λh8=>(af _).2 ((af _).2 ?_),λh8=>?_⟩
   .show Wp (((dQ (Sl.nil:Sl (Sl (Sl Int)))).bind λx_2=>some (x_2,(16:Int)))) _
    have e0:dQ (Sl.nil:Sl (Sl (Sl Int)))=some .nil:=by
     unfold dQ;rfl
    rw[e0,ζb,af];refine .inr ⟨rfl,rfl,out.l.flatMap ins++ins level,dm.nodup o1,λd hd=>((o2 d).1 hd).1,?_⟩
    have h8:=of_decide_eq_true h8;rw[ζi,jC];omega
   .have h8:=of_decide_eq_false h8;obtain⟨o3,g1,g2⟩:=rD (s:=out) (x:=level) (by omega)
    rw[g1,ζb,eS];refine(K9 hS hV hM hm h1 (by omega)).mono λr ⟨r1,r2,r3,r4⟩=>?_
    have hfl:o3.l.flatMap ins=out.l.flatMap ins++ins level:=by rw[g2];simp
    refine(af _).2 ⟨r1,Oz r2 r4 λd hd=>((r1 d).1 hd).2,by rw[hfl];exact o1,λd=>by rw[hfl];exact o2 d,by rw[hfl,ζi,jC],?_,?_,r3⟩
    .show o3.l.length<=_;rw[hfl,ζi,jC,g2,ζi,List.length_singleton];omega
    .rw[hfl,ζi,jC];omega
 .rintro⟨level,out,tot⟩ ⟨h1,h1s,h2s,h2,h4,h5,h6,h7⟩;simp only at h1 h1s h2s h2 h4 h5 h6 h7;unfold h_.aB;rw[Az,show (!decide (level.l.length=0))=false from by simp[h1.last],bg,af]
  exact(af _).2 (fin _ level out h1 h1.last h2s h2 (by omega) h6)
theorem A3 (hS:Small t) (hv:fu t=some true) (hV:VT t) (hM:gu t (aT t) A) :
 (∃L r s,iJ t A L/\L.length<=5000/\mE t=some (r,0)/\c8 t=some (s,true)/\ins r=L/\ins s=L) \/
 (mE t=some (.nil,16)/\c8 t=some (.nil,false)):=by
 obtain⟨⟨r,e⟩,hr,h1⟩:=KA hS hv hV hM;obtain⟨⟨s,b⟩,hs,h2⟩:=IX hS hV hM;rcases h1 with⟨rfl,k1,k2⟩|⟨rfl,rfl,k1⟩
 .rcases h2 with⟨rfl,q1,q2⟩|⟨rfl,rfl,q1⟩
  .exact .inl ⟨ins r,r,s,k1,by rw[jC];exact k2,hr,hs,rfl,q1.one k1⟩
  .exact(k1.not (by rw[jC];exact k2) q1).elim
 .rcases h2 with⟨rfl,q1,q2⟩|⟨rfl,rfl,q1⟩
  .exact(q1.not (by rw[jC];exact q2) k1).elim
  .exact .inr ⟨hr,hs⟩
end
end Go.VE
namespace Go.VE
end Go.VE
namespace Go.VE
end Go.VE
namespace Go.VE
end Go.VE
namespace Go.VE
section
variable {t:Trace} {A:aC 200 aH}
end
end Go.VE
namespace Go.VE
section
variable {t:Trace} {A:aC 200 aH}
end
end Go.VE
namespace Go.VE
section
variable {t:Trace} {A:aC 200 aH}
end
end Go.VE
namespace Go.VE
section
variable {t:Trace} {A:aC 200 aH}
end
end Go.VE
namespace Go.VE
section
variable {t:Trace} {A:aC 200 aH}
end
end Go.VE
namespace Go.VE
section
variable {t:Trace} {A:aC 200 aH}
def kQ (g:Int->Int->Int) (a b c:List Int):Prop:=c.length=a.length/\∀(p:Nat) (x y:Int),a[p]? = some x->b[p]? = some y->c[p]? = some (g x y)
def gw (x y:Int):Int:=if y>x then y else x
def nZ (x y:Int):Int:=if y<x then y else x
theorem kQ.of (g:Int->Int->Int) {a b:List Int} (h:a.length=b.length):kQ g a b (List.zipWith g a b):=
 ⟨by simp[h],λp x y hx hy=>by rw[List.getElem?_zipWith,hx,hy]⟩
theorem kQ.at_ {g:Int->Int->Int} {a b c:List Int} (h:kQ g a b c) (hab:a.length=b.length) {p:Nat} {z:Int} (hz:c[p]? = some z):∃x y,a[p]? = some x/\b[p]? = some y/\z=g x y:=by
 have hp:p<a.length:=by rw[<-h.1];exact(ζe.1 hz).1
 refine⟨a[p],b[p]'(by omega),ζd hp,ζd (by omega),?_⟩
 have:=h.2 p _ _ (ζd hp) (ζd (show p<b.length by omega))
 rw[hz]at this;cases this;rfl
theorem yP (x y:Int):(gw x y=x/\y<=x)\/(gw x y=y/\x<=y):=by unfold gw;split <;> omega
theorem yz (x y:Int):(nZ x y=x/\x<=y)\/(nZ x y=y/\y<=x):=by unfold nZ;split <;> omega
theorem join_cons {a b c:List Int} (ha:Cons t A a) (hb:Cons t A b) (h:kQ gw a b c):Cons t A c:=by
 have hl:a.length=b.length:=ha.1.1.trans hb.1.1.symm;refine⟨⟨h.1.trans ha.1.1,λp z P hz hP=>?_⟩,λp k e z he hz hk hkind=>?_⟩
 .obtain⟨x,y,hx,hy,rfl⟩:=h.at_ hl hz;have h1:=ha.1.2 p x P hx hP;have h2:=hb.1.2 p y P hy hP;rcases yP x y with⟨e,_⟩|⟨e,_⟩ <;> rw[e] <;> assumption
 .obtain⟨x,y,hx,hy,rfl⟩:=h.at_ hl hz;rcases yP x y with⟨e',_⟩|⟨e',_⟩ <;> rw[e']at hk
  .obtain⟨u,hu,hle⟩:=ha.2 p k e x he hx hk hkind;have hq:=(ζe.1 hu).1;have hv:=ζd (show (ag A e.message).from_.proc.toNat<b.length by omega)
   exact⟨_,h.2 _ _ _ hu hv,by rcases yP u b[(ag A e.message).from_.proc.toNat]with⟨e2,_⟩|⟨e2,_⟩ <;> rw[e2] <;> omega⟩
  .obtain⟨u,hu,hle⟩:=hb.2 p k e y he hy hk hkind;have hq:=(ζe.1 hu).1;have hv:=ζd (show (ag A e.message).from_.proc.toNat<a.length by omega)
   exact⟨_,h.2 _ _ _ hv hu,by rcases yP a[(ag A e.message).from_.proc.toNat] u with⟨e2,_⟩|⟨e2,_⟩ <;> rw[e2] <;> omega⟩
theorem wQ {a b c:List Int} (ha:Cons t A a) (hb:Cons t A b) (h:kQ nZ a b c):Cons t A c:=by
 have hl:a.length=b.length:=ha.1.1.trans hb.1.1.symm;refine⟨⟨h.1.trans ha.1.1,λp z P hz hP=>?_⟩,λp k e z he hz hk hkind=>?_⟩
 .obtain⟨x,y,hx,hy,rfl⟩:=h.at_ hl hz;have h1:=ha.1.2 p x P hx hP;have h2:=hb.1.2 p y P hy hP;rcases yz x y with⟨e,_⟩|⟨e,_⟩ <;> rw[e] <;> assumption
 .obtain⟨x,y,hx,hy,rfl⟩:=h.at_ hl hz;have hkx:(k:Int)<x:=by rcases yz x y with⟨e',_⟩|⟨e',_⟩ <;> omega
  have hky:(k:Int)<y:=by rcases yz x y with⟨e',_⟩|⟨e',_⟩ <;> omega
  obtain⟨u,hu,hle⟩:=ha.2 p k e x he hx hkx hkind;obtain⟨v,hv,hle2⟩:=hb.2 p k e y he hy hky hkind;exact⟨_,h.2 _ _ _ hu hv,by rcases yz u v with⟨e2,_⟩|⟨e2,_⟩ <;> rw[e2] <;> omega⟩
end
end Go.VE
namespace Go.VE
theorem EW {a b:List Int} (h:a.length=b.length) (h8:a.length<=8) (e:oR 8 (.row a)=oR 8 (.row b)):a=b:=by
 have e2:th 8 a=th 8 b:=congrArg aC.l e;unfold th at e2;rw[List.take_of_length_le h8,List.take_of_length_le (by omega)]at e2
 exact(List.append_inj e2 h).1
def B2 (L:List (List Int)) (o:Nat):Mo (aC 8 Int) Int:=(L.zipIdx o).map λx=>(oR 8 (.row x.1),(x.2:Int))
def tR (L:List (List Int)):Mo (aC 8 Int) Int:=B2 L 0
theorem LO (L:List (List Int)):∀o,(B2 L o).map (·.1)=L.map λc=>oR 8 (.row c):=by
 induction L with
 | nil=>intro o;rfl
 | cons x L ih=>intro o;unfold B2 at *;simp only[List.zipIdx_cons,List.map_cons,ih (o+1)]
theorem Oe {L:List (List Int)} {n:Nat} (hL:∀c∈L,c.length=n) (h8:n<=8) {c:List Int} (hc:c.length=n) (h:c∉L):nL (tR L) (oR 8 (.row c)) (L.length:Int)=tR (L++[c]):=by
 rw[od]
 .unfold tR B2;rw[List.zipIdx_append,List.map_append];simp
 .unfold tR;rw[LO];intro hm;obtain⟨d,hd,e⟩:=List.mem_map.1 hm;exact h (EW (by rw[hL d hd,hc]) (by rw[hL d hd];exact h8) e▸hd)
theorem Ea {n:Nat} (h8:n<=8) {c:List Int} (hc:c.length=n):∀{L:List (List Int)} (o:Nat),(∀c∈L,c.length=n)->mM (oR 8 (.row c)) (B2 L o)=if c∈L then some ((o+L.idxOf c:Nat):Int)else none
 | [],o,_=>rfl
 | x::L,o,hL=>by
  have hx:=hL x (by simp)
  have ih:=Ea h8 hc (o+1) λd hd=>hL d (List.mem_cons_of_mem _ hd)
  unfold B2 at ih ⊢;simp only[List.zipIdx_cons,List.map_cons,mM]
  by_cases e:c=x
  .subst e;simp
  .rw[if_neg λk=>e (EW (by rw[hc,hx]) (by rw[hc];exact h8) k),ih]
   have hne:¬x=c:=λk=>e k.symm
   by_cases hm:c∈L
   .rw[if_pos hm,if_pos (List.mem_cons_of_mem _ hm),show (x::L).idxOf c=L.idxOf c+1 from by rw[List.idxOf_cons,show (x==c)=false from beq_eq_false_iff_ne.2 hne];rfl]
    congr 1;omega
   .rw[if_neg hm,if_neg λk=>hm ((List.mem_cons.1 k).resolve_left e)]
theorem N2 {L:List (List Int)} {n:Nat} (hL:∀c∈L,c.length=n) (h8:n<=8) {c:List Int} (hc:c.length=n):nN (tR L) (oR 8 (.row c)) 0=(if c∈L then(L.idxOf c:Int)else 0)/\zR (tR L) (oR 8 (.row c))=decide (c∈L):=by
 unfold nN zR tR;rw[Ea h8 hc 0 hL]
 by_cases h:c∈L
 .simp[h]
 .simp[h]
section
variable {t:Trace} {A:aC 200 aH}
theorem Em {g:Int->Int->Int} {a b:List Int} {step:Sl Int×Int->Option (Fw (Sl Int×Int) (Sl Int) Empty)} (hl:a.length=b.length) (h60:a.length<1073741824)
 (hs:∀(o:Sl Int) (i:Nat) (x y:Int),o.l.length=a.length->o.l[i]? = some x->b[i]? = some y->∃r:Sl Int,r.l=o.l.set i (g x y)/\step (o,(i:Int))=some (.n (r,IntKind.wrap .i64 ((i:Int)+1))))
 (he:∀o:Sl Int,step (o,(b.length:Int))=some (.x o)) {o:Sl Int} (ho:o.l=a):∃r,(aZ step (o,0)).bind (Fw.elim (λe=>some e) (λe=>Empty.elim e))=some r/\kQ g a b r.l:=by
 have key:Wp ((aZ step (o,0)).bind (Fw.elim (λe=>some e) (λe=>Empty.elim e))) λr=>kQ g a b r.l:=by
  refine gB a.length (λi (q:Sl Int×Int)=>q.2=(i:Int)/\q.1.l.length=a.length/\(∀p,p<i->∀x y,a[p]? = some x->b[p]? = some y->q.1.l[p]? = some (g x y))/\∀p,i<=p->q.1.l[p]? = a[p]?) ⟨rfl,by rw[ho],λp hp=>absurd hp (by omega),λp _=>by rw[ho]⟩ ?_ ?_
  .rintro i ⟨o2,_⟩ hi ⟨e,h1,h2,h3⟩;simp only at e h1 h2 h3;subst e;obtain⟨r,hr,hst⟩:=hs o2 i a[i] (b[i]'(by omega)) h1 (by rw[h3 i (Nat.le_refl _),ζd hi]) (ζd (by omega))
   rw[hst,af];refine⟨bY i (by omega),by rw[hr];simpa using h1,λp hp x y hx hy=>?_,λp hp=>?_⟩
   .show r.l[p]? = _;rw[hr]
    by_cases e:p=i
    .subst e;rw[ζd hi]at hx;cases hx;rw[ζd (by omega)]at hy;cases hy
     rw[List.getElem?_set_self (by omega)]
    .rw[List.getElem?_set_ne (λh=>e h.symm)]
     exact h2 p (by omega) x y hx hy
   .show r.l[p]? = _;rw[hr,List.getElem?_set_ne (by omega)]
    exact h3 p (by omega)
  .rintro⟨o2,_⟩ ⟨e,h1,h2,h3⟩;simp only at e h1 h2 h3;subst e;rw[show ((a.length:Nat):Int)=(b.length:Int)by omega,he,af]
   refine(af _).2 ⟨h1,λp x y hx hy=>?_⟩
   exact h2 p (ζe.1 hx).1 x y hx hy
 obtain⟨r,hr,h⟩:=key;exact⟨r,hr,h⟩
theorem Ma {a b:Sl Int} (hl:a.l.length=b.l.length) (h0:0<a.l.length) (h60:a.l.length<1073741824):∃r,fm a b=some r/\kQ nZ a.l b.l r.l:=by
 obtain⟨d,hd,hdl⟩:=vY (c:=a) (by omega) h0
 unfold fm fm.W1;rw[hd,ζb];refine Em hl h60 (λo i x y ho hx hy=>?_) (λo=>?_) hdl
 .have hi:i<o.l.length:=(ζe.1 hx).1;have hb:i<b.l.length:=by omega
  obtain⟨r,hr,hrl⟩:=put_eq (s:=o) (p:=i) (x:=nZ x y) hi;refine⟨r,hrl,?_⟩;show fm.aB b (len b) o i=_;unfold fm.aB;have hg:Sl.get o i=some x:=hx;have hy2:b.l[i]=y:=by rw[ζd hb]at hy;exact Option.some.inj hy
  rw[jZ hb,aY,aX hb,ζb,tP hi,ζb,hg,ζb,ζb,hy2];show (Sl.put o i (nZ x y)).bind _=_;rw[hr];rfl
 .show fm.aB b (len b) o _=_;unfold fm.aB;rw[jX,bg]
theorem LH {a b:Sl Int} (hl:a.l.length=b.l.length) (h0:0<a.l.length) (h60:a.l.length<1073741824):∃r,fh a b=some r/\kQ gw a.l b.l r.l:=by
 obtain⟨d,hd,hdl⟩:=vY (c:=a) (by omega) h0
 unfold fh fh.W1;rw[hd,ζb];refine Em hl h60 (λo i x y ho hx hy=>?_) (λo=>?_) hdl
 .have hi:i<o.l.length:=(ζe.1 hx).1;have hb:i<b.l.length:=by omega
  obtain⟨r,hr,hrl⟩:=put_eq (s:=o) (p:=i) (x:=gw x y) hi;refine⟨r,hrl,?_⟩;show fh.aB b (len b) o i=_;unfold fh.aB;have hg:Sl.get o i=some x:=hx;have hy2:b.l[i]=y:=by rw[ζd hb]at hy;exact Option.some.inj hy
  rw[jZ hb,aY,aX hb,ζb,tP hi,ζb,hg,ζb,ζb,hy2];show (Sl.put o i (gw x y)).bind _=_;rw[hr];rfl
 .show fh.aB b (len b) o _=_;unfold fh.aB;rw[jX,bg]
theorem kQ.one {g:Int->Int->Int} {a b c d:List Int} (h:kQ g a b c) (k:kQ g a b d) (hl:a.length=b.length):c=d:=by
 refine List.ext_getElem? λp=>?_
 by_cases hp:p<a.length
 .rw[h.2 p _ _ (ζd hp) (ζd (by omega)),k.2 p _ _ (ζd hp) (ζd (by omega))]
 .rw[List.getElem?_eq_none (by rw[h.1];omega),List.getElem?_eq_none (by rw[k.1];omega)]
structure qS (t:Trace) (A:aC 200 aH) (L:List (List Int)) (l:Sl Bool) (x:aM):Prop where
 all:iJ t A L
 le:L.length<=5000
 cuts:ins x.cuts=L
 tr:x.truths=l
 len:l.l.length=L.length
 tR:mQ x.places=tR L
def fP (l:Sl Bool) (i:Nat):Bool:=(l.l[i]?).getD false
def uC (L:List (List Int)) (l:Sl Bool) (c:List Int):Bool:=fP l (L.idxOf c)
theorem rz {l:Sl Bool} {i:Nat} (h:i<l.l.length):idx l (i:Int)=some (fP l i):=by
 rw[oh,ζd h];unfold fP;rw[ζd h];rfl
theorem QT (hS:Small t) (hv:fu t=some true) (hV:VT t) (hM:gu t (aT t) A) {L:List (List Int)} {r:Sl (Sl Int)} (hall:iJ t A L) (hle:L.length<=5000) (hc:mE t=some (r,0)) (hr:ins r=L) {l:Sl Bool} (hl:l.l.length=L.length) :
 ∃x,dV t l=some (x,0)/\qS t A L l x:=by
 have h8:=hV.few;have hrl:r.l.length=L.length:=by rw[<-jC,hr]
 have key:Wp (dV t l) λq=>q.2=0/\qS t A L l q.1:=by
  unfold dV rY;rw[hc,ζb,ζb];rw[show ((0:Int)==0)=true from rfl,aY,show (len l==len r)=true from by simp[len,hl,hrl],aY]
  unfold dV.W1;refine gB r.l.length (λi q=>q.1=(i:Int)/\q.2.2.1.truths=l/\q.2.2.1.cuts=r/\q.2.2.2=tR (L.take i)) ⟨rfl,rfl,rfl,rfl⟩ ?_ ?_
  .rintro i ⟨_,v4,o8,_⟩ hi ⟨e,h1,h2,h3⟩;simp only at e h1 h2 h3;subst e;subst h3;unfold dV.aB;rw[jZ hi,aY,aX hi,ζb];unfold kV;rw[ζb,af];refine⟨bY i (by omega),h1,h2,?_⟩
   have hiL:i<L.length:=by omega
   have hxi:r.l[i].l=L[i]:=by
    have:=vj hi;rw[hr,ζd hiL]at this;exact(Option.some.inj this).symm
   have hlen:∀c∈L,c.length=t.procs.l.length:=λc hc=>((hall.mem c).1 hc).1.1
   have hp:=Oe (L:=L.take i) (n:=t.procs.l.length) (λc hc=>hlen c (List.mem_of_mem_take hc)) h8 (hlen _ (List.getElem_mem hiL)) (λhm=>by
    obtain⟨j,hj,e⟩:=List.mem_iff_getElem.1 hm;rw[List.length_take]at hj;rw[List.getElem_take]at e;have:=List.pairwise_iff_getElem.1 (dm.nodup hall.srt) j i (by omega) hiL (by omega)
    exact this e)
   rw[show ((L.take i).length:Int)=(i:Int)by rw[List.length_take];omega]at hp
   show nL (tR (L.take i)) (oR 8 r.l[i]) (i:Int)=tR (L.take (i+1));rw[List.take_succ_eq_append_getElem hiL,<-hp,<-hxi];rfl
  .rintro⟨_,v4,o8,_⟩ ⟨e,h1,h2,h3⟩;simp only at e h1 h2 h3;subst e;subst h3;unfold dV.aB;rw[jX,bg,af];refine(af _).2 ⟨rfl,hall,hle,by show ins o8.cuts=L;rw[h2,hr],h1,hl,?_⟩
   show tR (L.take r.l.length)=tR L;rw[hrl,List.take_length]
 obtain⟨⟨x,e⟩,hx,rfl,h⟩:=key;exact⟨x,hx,h⟩
theorem qS.key {L:List (List Int)} {l:Sl Bool} {x:aM} (h:qS t A L l x) (hV:VT t) {c:Sl Int} (hc:c.l.length=t.procs.l.length):nN (mQ x.places) (oR 8 c) 0=(if c.l∈L then(L.idxOf c.l:Int)else 0)/\zR (mQ x.places) (oR 8 c)=decide (c.l∈L):=by
 rw[h.tR];exact N2 (n:=t.procs.l.length) (λc hc=>((h.all.mem c).1 hc).1.1) hV.few hc
theorem qS.holds {L:List (List Int)} {l:Sl Bool} {x:aM} (h:qS t A L l x) (hV:VT t) {c:Sl Int} (hc:Cons t A c.l):jo x c=some (uC L l c.l):=by
 have hm:=(h.all.mem c.l).2 hc;unfold jo kV;rw[ζb,(h.key hV hc.1.1).1,if_pos hm,h.tr];have hi:L.idxOf c.l<l.l.length:=by rw[h.len];exact List.idxOf_lt_length_of_mem hm
 rw[rz hi];rfl
theorem qS.meets {L:List (List Int)} {l:Sl Bool} {x:aM} (h:qS t A L l x) (hV:VT t) {a b:Sl Int} (ha:Cons t A a.l) (hb:Cons t A b.l):∃r,kQ nZ a.l b.l r/\Cons t A r/\eP x a b=some (uC L l r):=by
 have h8:=hV.few;have h1:=hV.ok.one;have hl:a.l.length=b.l.length:=ha.1.1.trans hb.1.1.symm;have hal:=ha.1.1;obtain⟨r,hr,hz⟩:=Ma (a:=a) (b:=b) hl (by omega) (by omega)
 have hC:=wQ ha hb hz;refine⟨r.l,hz,hC,?_⟩;unfold eP;rw[hr,ζb,h.holds hV hC];rfl
theorem qS.Sh {L:List (List Int)} {l:Sl Bool} {x:aM} (h:qS t A L l x) (hV:VT t) {a b:Sl Int} (ha:Cons t A a.l) (hb:Cons t A b.l):∃r,kQ gw a.l b.l r/\Cons t A r/\eN x a b=some (uC L l r):=by
 have h8:=hV.few;have h1:=hV.ok.one;have hl:a.l.length=b.l.length:=ha.1.1.trans hb.1.1.symm;have hal:=ha.1.1;obtain⟨r,hr,hz⟩:=LH (a:=a) (b:=b) hl (by omega) (by omega)
 have hC:=join_cons ha hb hz;refine⟨r.l,hz,hC,?_⟩;unfold eN;rw[hr,ζb,h.holds hV hC];rfl
def rZ (L:List (List Int)) (l:Sl Bool) (F:List Int->List Int->Bool) (i k:Nat):Prop:=∀a b,L[i]? = some a->L[k]? = some b->fP l i=true->fP l k=true->F a b=true
def NX (L:List (List Int)) (l:Sl Bool) (F:List Int->List Int->Bool) (i k:Nat) (a b:List Int):Prop:=i<k/\L[i]? = some a/\L[k]? = some b/\fP l i=true/\fP l k=true/\F a b=false /\
 (∀k',i<k'->k'<k->rZ L l F i k')/\∀i' k',i'<i->i'<k'->rZ L l F i' k'
theorem LG {L:List (List Int)} {l:Sl Bool} {x:aM} (h:qS t A L l x) {p:Sl Int×Sl Int->Option Bool} {F:List Int->List Int->Bool} (hp:∀a b:Sl Int,a.l∈L->b.l∈L->p (a,b)=some (F a.l b.l)) :
 Wp (bS x p) λq=>(q.1=true/\q.2.1=.nil/\q.2.2=.nil/\∀i k,i<k->rZ L l F i k)\/(q.1=false/\∃i k,NX L l F i k q.2.1.l q.2.2.l):=by
 have hle:=h.le;have hcl:x.cuts.l.length=L.length:=by rw[<-jC,h.cuts]
 have hat:∀{i:Nat} (hi:i<x.cuts.l.length),L[i]? = some x.cuts.l[i].l:=λhi=>by rw[<-h.cuts];exact vj hi
 unfold bS bS.W1;refine gB x.cuts.l.length (λi (q:Int)=>q=(i:Int)/\∀i' k',i'<i->i'<k'->rZ L l F i' k') ⟨rfl,λi' k' h=>absurd h (by omega)⟩ ?_ ?_
 .rintro i _ hi ⟨rfl,hI⟩;unfold bS.aB;have hil:i<l.l.length:=by rw[h.len];omega
  rw[jZ hi,aY,aX hi,ζb,h.tr,rz hil,ζb];have hLi:=hat hi;generalize x.cuts.l[i]=a at *
  cases hti:fP l i with
  | false=>
   rw[bg,af];refine⟨bY i (by omega),λi' k' h1 h2=>?_⟩
   by_cases e:i'=i
   .subst e;intro _ _ _ _ h5;rw[hti]at h5;cases h5
   .exact hI i' k' (by omega) h2
  | true=>
   rw[aY,bY i (by omega)]
   obtain⟨s,hs,hsl⟩:=yX x.cuts (i+1) (by omega)
   rw[hs,ζb];have hsn:s.l.length=L.length-(i+1):=by rw[hsl,List.length_drop,hcl]
   unfold bS.W2;refine gB s.l.length (λj (q:Int)=>q=(j:Int)/\∀k',i<k'->k'<i+1+j->rZ L l F i k') ⟨rfl,λk' h1 h2=>absurd h1 (by omega)⟩ ?_ ?_
   .rintro j _ hj ⟨rfl,hJ⟩;unfold bS.bq;have hk:i+1+j<x.cuts.l.length:=by omega
    have hkl:i+1+j<l.l.length:=by rw[h.len];omega
    have hsj:s.l[j]=x.cuts.l[i+1+j]:=by
     have h2:s.l[j]? = some x.cuts.l[i+1+j]:=by rw[hsl,List.getElem?_drop,ζd hk]
     rw[ζd hj]at h2;exact Option.some.inj h2
    have hLk:=hat hk;rw[jZ hj,aY,aX hj,ζb,hsj,bY i (by omega),show IntKind.wrap .i64 (((i+1:Nat):Int)+(j:Int))=((i+1+j:Nat):Int)from by rw[mF _ (by omega) (by omega)];omega,h.tr,rz hkl,ζb]
    generalize x.cuts.l[i+1+j]=b at *;have next:rZ L l F i (i+1+j)->∀k',i<k'->k'<i+1+(j+1)->rZ L l F i k':=λhh k' h1 h2=>by
     by_cases e:k'=i+1+j
     .subst e;exact hh
     .exact hJ k' h1 (by omega)
    cases htk:fP l (i+1+j)with
    | false=>
     rw[bg,ζb,bg,af];exact⟨bY j (by omega),next λ_ _ _ _ _ h6=>by rw[htk]at h6;cases h6⟩
    | true=>
     rw[aY,hp a b (List.mem_of_getElem? hLi) (List.mem_of_getElem? hLk),ζb,ζb]
     cases hF:F a.l b.l with
     | true=>
      rw[show (!true)=false from rfl,bg,af];refine⟨bY j (by omega),next λa' b' h1 h2 _ _=>?_⟩
      rw[hLi]at h1;rw[hLk]at h2;cases h1;cases h2;exact hF
     | false=>
      rw[show (!false)=true from rfl,aY,af];refine(af _).2 ((af _).2 (.inr ⟨rfl,i,i+1+j,by omega,hLi,hLk,hti,htk,hF,λk' h1 h2=>hJ k' h1 h2,λi' k' h1 h2=>hI i' k' h1 h2⟩))
   .rintro _ ⟨rfl,hJ⟩;unfold bS.bq;rw[jX,bg,af];refine(af _).2 ⟨bY i (by omega),λi' k' h1 h2=>?_⟩
    by_cases e:i'=i
    .subst e
     by_cases hk:k'<i'+1+s.l.length
     .exact hJ k' h2 hk
     .intro a' b' _ h4;have:=(ζe.1 h4).1;omega
    .exact hI i' k' (by omega) h2
 .rintro _ ⟨rfl,hI⟩;unfold bS.aB;rw[jX,bg,af];refine(af _).2 (.inl ⟨rfl,rfl,rfl,λi k hik=>?_⟩)
  by_cases hi:i<x.cuts.l.length
  .exact hI i k hi hik
  .intro a' b' h3;have:=(ζe.1 h3).1;omega
end
end Go.VE
namespace Go.VE
section
variable {t:Trace} {A:aC 200 aH}
def jD (L:List (List Int)) (l:Sl Bool) (a:List Int) (p k:Nat):Prop:=∃v,a[p]? = some v/\a.set p (v+1)∈L/\L.idxOf (a.set p (v+1))=k/\fP l k=false
def Bb (L:List (List Int)) (l:Sl Bool) (i:Nat):Prop:=∀a,L[i]? = some a->fP l i=true->∀p k,¬jD L l a p k
theorem Jp (hS:Small t) (hV:VT t) {L:List (List Int)} {l:Sl Bool} {x:aM} (h:qS t A L l x) :
 Wp (ck x t) λq=>(q.1=true/\q.2.1=.nil/\q.2.2=.nil/\∀i,Bb L l i) \/
  (q.1=false/\∃i p k,L[i]? = some q.2.1.l/\fP l i=true/\jD L l q.2.1.l p k/\L[k]? = some q.2.2.l/\(∀p' k',jD L l q.2.1.l p' k'->k<=k')/\∀i',i'<i->Bb L l i'):=by
 have hle:=h.le;have h8:=hV.few;have hcl:x.cuts.l.length=L.length:=by rw[<-jC,h.cuts]
 have hat:∀{i:Nat} (hi:i<x.cuts.l.length),L[i]? = some x.cuts.l[i].l:=λhi=>by rw[<-h.cuts];exact vj hi
 unfold ck ck.W1;refine gB x.cuts.l.length (λi (q:Int)=>q=(i:Int)/\∀i',i'<i->Bb L l i') ⟨rfl,λi' h=>absurd h (by omega)⟩ ?_ ?_
 .rintro i _ hi ⟨rfl,hI⟩;unfold ck.aB;have hil:i<l.l.length:=by rw[h.len];omega
  rw[jZ hi,aY,aX hi,ζb,h.tr,rz hil,ζb];have hLi:=hat hi;generalize x.cuts.l[i]=a at *
  cases hti:fP l i with
  | false=>
   rw[bg,af];refine⟨bY i (by omega),λi' h1=>?_⟩
   by_cases e:i'=i
   .subst e;intro _ _ h5;rw[hti]at h5;cases h5
   .exact hI i' (by omega)
  | true=>
   rw[aY];have hC:=(h.all.mem a.l).1 (List.mem_of_getElem? hLi);have hal:=hC.1.1;have ho:=hV.ok.one;unfold ck.W2;refine gB a.l.length (λp (q:Int×Int)=>q.2=(p:Int)/\((q.1=-1/\∀p',p'<p->∀k,¬jD L l a.l p' k)\/(∃p0 k:Nat,q.1=(k:Int)/\p0<p/\jD L l a.l p0 k/\∀p',p'<p->∀k',jD L l a.l p' k'->k<=k'))) ⟨rfl,.inl ⟨rfl,λp h=>absurd h (by omega)⟩⟩ ?_ ?_
   .rintro p ⟨least,_⟩ hp ⟨e,hJ⟩;simp only at e hJ;subst e;have hpt:p<t.procs.l.length:=by omega
    unfold ck.bq;rw[show decide ((p:Int)<len a)=true from jZ hp,aY,aX hp,ζb,aX hpt,ζb];have hap:=ζd hp;have hr:=hC.1.2 p _ _ hap (ζd hpt);have hPl:=(hS.2 _ (List.getElem_mem hpt)).1;have hlast:a.l[p]=(t.procs.l[p].events.l.length:Int)->∀k,¬jD L l a.l p k:=λhe k ⟨v,hv,hm,_,_⟩=>by
     rw[hap]at hv;cases hv;have:=((h.all.mem _).1 hm).1.2 p (a.l[p]+1) _ (by rw[List.getElem?_set_self (by omega)]) (ζd hpt)
     omega
    have step:∀(q:Int),((q=least/\∀k,jD L l a.l p k->0<=least/\least<=k)\/(∃k:Nat,q=(k:Int)/\jD L l a.l p k/\(least<0\/(k:Int)<least))) ->
     ((q=-1/\∀p',p'<p+1->∀k,¬jD L l a.l p' k)\/(∃p0 k:Nat,q=(k:Int)/\p0<p+1/\jD L l a.l p0 k/\∀p',p'<p+1->∀k',jD L l a.l p' k'->k<=k')):=by
     intro q hq;rcases hq with⟨rfl,hq⟩|⟨k,rfl,hk,hlt⟩
     .rcases hJ with⟨h1,h2⟩|⟨p0,k0,h1,h2,h3,h4⟩
      .refine .inl ⟨h1,λp' hp' k hb=>?_⟩
       by_cases e:p'=p
       .subst e;have:=(hq k hb).1;omega
       .exact h2 p' (by omega) k hb
      .refine .inr ⟨p0,k0,h1,by omega,h3,λp' hp' k hb=>?_⟩
       by_cases e:p'=p
       .subst e;have:=(hq k hb).2;omega
       .exact h4 p' (by omega) k hb
     .refine .inr ⟨p,k,rfl,by omega,hk,λp' hp' k' hb=>?_⟩
      by_cases e:p'=p
      .subst e;obtain⟨v,hv,_,h3,_⟩:=hb;obtain⟨v',hv',_,h3',_⟩:=hk;rw[hv]at hv';cases hv';rw[<-h3,<-h3'];exact Nat.le_refl _
      .rcases hJ with⟨h1,h2⟩|⟨p0,k0,h1,h2,h3,h4⟩
       .exact absurd hb (h2 p' (by omega) k')
       .have:=h4 p' (by omega) k' hb;omega
    by_cases he:a.l[p]=(t.procs.l[p].events.l.length:Int)
    .rw[show (a.l[p]==len t.procs.l[p].events)=true from by simpa [len]using he,aY,af]
     exact⟨bY p (by omega),step least (.inl ⟨rfl,λk hb=>absurd hb (hlast he k)⟩)⟩
    .rw[show (a.l[p]==len t.procs.l[p].events)=false from by simpa [len]using he,bg]
     obtain⟨d,hd,hdl⟩:=vY (c:=a) (by omega) (by omega)
     have hpd:p<d.l.length:=by rw[hdl];exact hp
     have hg:Sl.get d p=some a.l[p]:=by unfold Sl.get;rw[hdl];exact hap
     obtain⟨b,hb,hbl⟩:=put_eq (s:=d) (p:=p) (x:=a.l[p]+1) hpd;rw[hd,ζb,tP hpd,ζb,hg,ζb,ζb,mF _ (by omega) (by omega),hb,ζb]
     unfold kV;rw[ζb];have hbl2:b.l=a.l.set p (a.l[p]+1):=by rw[hbl,hdl]
     obtain⟨g1,g2⟩:=h.key hV (c:=b) (by rw[hbl2,List.length_set];exact hal)
     rw[g1,g2]
     by_cases hm:b.l∈L
     .have hix:L.idxOf b.l<l.l.length:=by rw[h.len];exact List.idxOf_lt_length_of_mem hm
      rw[decide_eq_true hm,aY,if_pos hm,h.tr,rz hix,ζb,ζb]
      cases htk:fP l (L.idxOf b.l)with
      | true=>
       rw[show (!true)=false from rfl,bg,ζb,bg,af];refine⟨bY p (by omega),step least (.inl ⟨rfl,λk ⟨v,hv,_,h3,h4⟩=>?_⟩)⟩
       rw[hap]at hv;cases hv;rw[<-hbl2]at h3;rw[<-h3,htk]at h4;cases h4
      | false=>
       have hbad:jD L l a.l p (L.idxOf b.l):=⟨_,hap,by rw[<-hbl2];exact hm,by rw[<-hbl2],htk⟩
       rw[show (!false)=true from rfl,aY]
       by_cases hneg:least<0
       .rw[decide_eq_true hneg,aY,ζb,ζb,aY,af];exact⟨bY p (by omega),step _ (.inr ⟨_,rfl,hbad,.inl hneg⟩)⟩
       .rw[decide_eq_false hneg,bg,ζb,ζb]
        by_cases hlt:((L.idxOf b.l:Nat):Int)<least
        .rw[decide_eq_true hlt,aY,af];exact⟨bY p (by omega),step _ (.inr ⟨_,rfl,hbad,.inr hlt⟩)⟩
        .rw[decide_eq_false hlt,bg,af];refine⟨bY p (by omega),step least (.inl ⟨rfl,λk ⟨v,hv,_,h3,h4⟩=>?_⟩)⟩
         rw[hap]at hv;cases hv;rw[<-hbl2]at h3;omega
     .rw[decide_eq_false hm,bg,ζb,bg,ζb,bg,af];refine⟨bY p (by omega),step least (.inl ⟨rfl,λk ⟨v,hv,h2,_,_⟩=>?_⟩)⟩
      rw[hap]at hv;cases hv;rw[<-hbl2]at h2;exact absurd h2 hm
   .rintro⟨least,_⟩ ⟨e,hJ⟩;simp only at e hJ;subst e;unfold ck.bq;rw[show decide (((a.l.length:Nat):Int)<len a)=false from jX,bg,af];dsimp only;have hpl:∀{p k},jD L l a.l p k->p<a.l.length:=λ⟨v,hv,_⟩=>(ζe.1 hv).1
    rcases hJ with⟨h1,h2⟩|⟨p0,k0,h1,h2,h3,h4⟩
    .subst h1;rw[show decide ((-1:Int)>=0)=false from rfl,bg,af];refine⟨bY i (by omega),λi' hi'=>?_⟩
     by_cases e:i'=i
     .subst e;intro a' ha' _ p k hb;rw[hLi]at ha';cases ha';exact h2 p (hpl hb) k hb
     .exact hI i' (by omega)
    .subst h1;have hk0:k0<x.cuts.l.length:=by
      obtain⟨v,hv,hm,hk,_⟩:=h3;rw[<-hk,hcl];exact List.idxOf_lt_length_of_mem hm
     rw[show decide ((k0:Int)>=0)=true from decide_eq_true (by omega),aY,aX hk0,ζb,af]
     refine(af _).2 (.inr ⟨rfl,i,p0,k0,hLi,hti,h3,hat hk0,λp' k' hb=>h4 p' (hpl hb) k' hb,hI⟩)
 .rintro _ ⟨rfl,hI⟩;unfold ck.aB;rw[jX,bg,af];refine(af _).2 (.inl ⟨rfl,rfl,rfl,λi=>?_⟩)
  by_cases hi:i<x.cuts.l.length
  .exact hI i hi
  .intro a' h3;have:=(ζe.1 h3).1;omega
end
end Go.VE
namespace Go.VE
theorem Js {t:Trace} (hS:Small t):∃b,iH t=some b:=by
 refine Gb.get ?_;unfold iH iH.W1;refine gB t.procs.l.length (λi q=>q.2=(i:Int)) rfl ?_ ?_
 .rintro n ⟨c,_⟩ hlt e;simp only at e;subst e;have h1:=hS.1;unfold iH.aB;rw[jZ hlt,aY,aX hlt,ζb,iX,ζb];rw[wJ (f:=λz=>(pK z).getD false) (λz _=>Gb.ok ((af _).2 trivial)) (hS.2 _ (List.getElem_mem hlt)).1]
  simp only[ζb,iX];rw[bD];exact⟨λ_=>(af _).2 ((af _).2 trivial),λ_=>(af _).2 (bY n (by omega))⟩
 .rintro⟨c,_⟩ e;simp only at e;subst e;unfold iH.aB;rw[jX,bg,af];dsimp only;simp only[ko,iX,ζb];exact(af _).2 trivial
section
variable {t:Trace} {A:aC 200 aH}
theorem Ih (hS:Small t) (hv:fu t=some true) (hV:VT t) (hM:gu t (aT t) A):∃b,rX t=some b:=by
 unfold rX;rcases A3 hS hv hV hM with⟨L,r,s,_,_,_,h,_,_⟩|⟨_,h⟩
 .rw[h,ζb];simp only[aY];exact⟨_,rfl⟩
 .rw[h,ζb];simp only[bg];exact⟨_,rfl⟩
theorem B6 {L:List (List Int)} (h:L.Nodup) {i:Nat} {c:List Int} (hc:L[i]? = some c):L.idxOf c=i:=by
 obtain⟨hi,e⟩:=ζe.1 hc;rw[<-e];exact List.Nodup.idxOf_getElem h i hi
theorem O9 {L:List (List Int)} {c:List Int} (h:c∈L):L[L.idxOf c]? = some c:=by
 have hi:=List.idxOf_lt_length_of_mem h;rw[ζd hi,List.getElem_idxOf]
theorem kQ.zip {g:Int->Int->Int} {a b c:List Int} (h:kQ g a b c) (hl:a.length=b.length):c=List.zipWith g a b:=by
 refine h.one ⟨by simp[hl],λp x y hx hy=>?_⟩ hl
 rw[List.getElem?_zipWith,hx,hy]
def rN (L:List (List Int)) (l:Sl Bool) (a b:List Int):Bool:=uC L l (List.zipWith nZ a b)&&uC L l (List.zipWith gw a b)
def jE (L:List (List Int)) (l:Sl Bool) (a b:List Int):Bool:=uC L l (List.zipWith nZ a b)
def kL (L:List (List Int)) (l:Sl Bool) (a b:List Int):Bool:=uC L l (List.zipWith gw a b)
theorem qS.jE {L:List (List Int)} {l:Sl Bool} {x:aM} (h:qS t A L l x) (hV:VT t) {a b:Sl Int} (ha:a.l∈L) (hb:b.l∈L):eP x a b=some (VE.jE L l a.l b.l):=by
 have hA:=(h.all.mem _).1 ha;have hB:=(h.all.mem _).1 hb;obtain⟨r,hz,_,e⟩:=h.meets hV hA hB;rw[e,hz.zip (hA.1.1.trans hB.1.1.symm)];rfl
theorem qS.kL {L:List (List Int)} {l:Sl Bool} {x:aM} (h:qS t A L l x) (hV:VT t) {a b:Sl Int} (ha:a.l∈L) (hb:b.l∈L):eN x a b=some (VE.kL L l a.l b.l):=by
 have hA:=(h.all.mem _).1 ha;have hB:=(h.all.mem _).1 hb;obtain⟨r,hz,_,e⟩:=h.Sh hV hA hB;rw[e,hz.zip (hA.1.1.trans hB.1.1.symm)];rfl
theorem qS.rN {L:List (List Int)} {l:Sl Bool} {x:aM} (h:qS t A L l x) (hV:VT t) {a b:Sl Int} (ha:a.l∈L) (hb:b.l∈L):iM x a b=some (VE.rN L l a.l b.l):=by
 unfold iM;rw[h.jE hV ha hb,ζb];unfold VE.rN VE.jE
 cases uC L l (List.zipWith nZ a.l b.l)with
 | false=>rfl
 | true=>
  rw[aY,h.kL hV ha hb];rfl
end
end Go.VE
namespace Go.VE
section
variable {t:Trace} {A:aC 200 aH}
theorem xw (hV:VT t) (hM:gu t (aT t) A) {L:List (List Int)} (hall:iJ t A L) {l:Sl Bool} (hst:∀i,Bb L l i) {a:List Int} (ha:Cons t A a) (hta:uC L l a=true) :
 ∀(n:Nat) {c:List Int},Cons t A c->c.sum=(n:Int)->uC L l (List.zipWith gw a c)=true
 | 0,c,hC,hs=>by
  have hl:a.length=c.length:=ha.1.1.trans hC.1.1.symm;have h0:=zQ hC.1.pos hs;have:List.zipWith gw a c=a:=by
   refine List.ext_getElem? λp=>?_
   rw[List.getElem?_zipWith];rcases hx:a[p]? with _|x
   .rfl
   .have hp:p<c.length:=by rw[<-hl];exact(ζe.1 hx).1
    have hy:=ζd hp;have e0:=h0 p _ hy;rw[hy,e0];have:=ha.1.pos p x hx;show some (gw x 0)=some x;unfold gw;rw[if_neg (by omega)]
  rw[this];exact hta
 | n+1,c,hC,hs=>by
  have hl:a.length=c.length:=ha.1.1.trans hC.1.1.symm;obtain⟨q,b,hb,h0,hC'⟩:=hC.down hV hM (by omega)
  have ih:=xw hV hM hall hst ha hta n hC' (by rw[tK hb];omega)
  have hl':a.length=(c.set q (b-1)).length:=by simp[hl]
  have hJ:=join_cons ha hC (kQ.of gw hl);have hJ':=join_cons ha hC' (kQ.of gw hl');have hq:=(ζe.1 hb).1;have hx:=ζd (l:=a) (i:=q) (by omega)
  have hq':(c.set q (b-1))[q]? = some (b-1):=List.getElem?_set_self hq
  by_cases hbx:b>a[q]'(by omega)
  .have e1:(List.zipWith gw a (c.set q (b-1)))[q]? = some (b-1):=by
    rw[List.getElem?_zipWith,hx,hq'];show some (gw _ _)=_;unfold gw;split
    .rfl
    .congr 1;omega
   have e2:List.zipWith gw a c=(List.zipWith gw a (c.set q (b-1))).set q (b-1+1):=by
    refine List.ext_getElem? λp=>?_
    by_cases e:p=q
    .subst e;rw[List.getElem?_set_self (ζe.1 e1).1,List.getElem?_zipWith,hx,hb];show some (gw _ _)=_;unfold gw;rw[if_pos hbx];congr 1;omega
    .rw[List.getElem?_set_ne (Ne.symm e),List.getElem?_zipWith,List.getElem?_zipWith,List.getElem?_set_ne (Ne.symm e)]
   cases ht:uC L l (List.zipWith gw a c)with
   | true=>rfl
   | false=>
    exact(hst _ _ (O9 ((hall.mem _).2 hJ')) ih q _ ⟨b-1,e1,by rw[<-e2];exact(hall.mem _).2 hJ,rfl,by rw[<-e2];exact ht⟩).elim
  .have e2:List.zipWith gw a c=List.zipWith gw a (c.set q (b-1)):=by
    refine List.ext_getElem? λp=>?_
    by_cases e:p=q
    .subst e;rw[List.getElem?_zipWith,List.getElem?_zipWith,hx,hb,hq'];show some (gw _ _)=some (gw _ _);unfold gw;rw[if_neg (by omega),if_neg (by omega)]
    .rw[List.getElem?_zipWith,List.getElem?_zipWith,List.getElem?_set_ne (Ne.symm e)]
   rw[e2];exact ih
def nO (L:List (List Int)) (l:Sl Bool) (F:List Int->List Int->Bool):Prop:=∀i k,i<k->rZ L l F i k
def qy (L:List (List Int)) (l:Sl Bool):Prop:=∀i,Bb L l i
theorem qy.post (hV:VT t) (hM:gu t (aT t) A) {L:List (List Int)} (hall:iJ t A L) {l:Sl Bool} (h:qy L l):nO L l (kL L l):=by
 intro i k _ a b ha hb hi hk;have nd:=dm.nodup hall.srt;have hA:=(hall.mem _).1 (List.mem_of_getElem? ha);have hB:=(hall.mem _).1 (List.mem_of_getElem? hb);refine xw hV hM hall h hA (by unfold uC;rw[B6 nd ha];exact hi) b.sum.toNat hB ?_
 have:=hB.1.sum;omega
theorem qy.OX (hV:VT t) (hM:gu t (aT t) A) {L:List (List Int)} (hall:iJ t A L) {l n:Sl Bool} (h:qy L l) (hn:∀i,i<L.length->fP n i = !fP l i):nO L n (jE L n):=by
 intro i k _ a b ha hb hi hk;have nd:=dm.nodup hall.srt;have hA:=(hall.mem _).1 (List.mem_of_getElem? ha);have hB:=(hall.mem _).1 (List.mem_of_getElem? hb);have hl:a.length=b.length:=hA.1.1.trans hB.1.1.symm;have hz:=kQ.of nZ hl;have hM1:=wQ hA hB hz;have hmm:=(hall.mem _).2 hM1;unfold jE uC;rw[hn _ (List.idxOf_lt_length_of_mem hmm)]
 cases ht:fP l (L.idxOf (List.zipWith nZ a b))with
 | false=>rfl
 | true=>
  exfalso;have hs:=hA.1.sum;have:=xw hV hM hall h hM1 ht a.sum.toNat hA (by omega)
  have e:List.zipWith gw (List.zipWith nZ a b) a=a:=by
   refine List.ext_getElem? λp=>?_
   rw[List.getElem?_zipWith,List.getElem?_zipWith];rcases hx:a[p]? with _|x
   .rfl
   .have hp:p<b.length:=by rw[<-hl];exact(ζe.1 hx).1
    rw[ζd hp];show some (gw (nZ x _) x)=some x;unfold gw nZ;congr 1;(repeat' split) <;> omega
  rw[e]at this;unfold uC at this;rw[B6 nd ha]at this;have hn':=hn i (ζe.1 ha).1;rw[hi,this]at hn';cases hn'
theorem nO.both {L:List (List Int)} {k l b:Sl Bool} {G:(List Int->List Int->Bool)->Prop} (f:Sl Bool->List Int->List Int->Bool)
 (hb:∀i,i<L.length->fP b i=(fP k i&&fP l i)) (hf:∀x y,x∈L->y∈L->f b x y=(f k x y&&f l x y)) (h1:nO L k (f k)) (h2:nO L l (f l)):nO L b (f b):=by
 intro i j hij x y hx hy hi hj;have e1:=hb i (ζe.1 hx).1;have e2:=hb j (ζe.1 hy).1;rw[hi]at e1;rw[hj]at e2;have e1:=e1.symm;have e2:=e2.symm;simp only[ζh]at e1 e2;rw[hf x y (List.mem_of_getElem? hx) (List.mem_of_getElem? hy),h1 i j hij x y hx hy e1.1 e2.1,h2 i j hij x y hx hy e1.2 e2.2];rfl
theorem qy.both {L:List (List Int)} {k l b:Sl Bool} (hb:∀i,i<L.length->fP b i=(fP k i&&fP l i)) (h1:qy L k) (h2:qy L l):qy L b:=by
 intro i a ha hi p j ⟨v,hv,hm,hj,hf⟩;have e1:=hb i (ζe.1 ha).1;rw[hi]at e1;have e1:=e1.symm;simp only[ζh]at e1;have e2:=hb j (by rw[<-hj];exact List.idxOf_lt_length_of_mem hm)
 rw[hf]at e2
 cases hk:fP k j with
 | false=>exact h1 i a ha e1.1 p j ⟨v,hv,hm,hj,hk⟩
 | true=>
  cases hl:fP l j with
  | false=>exact h2 i a ha e1.2 p j ⟨v,hv,hm,hj,hl⟩
  | true=>rw[hk,hl]at e2;cases e2
theorem nO.mB {L:List (List Int)} {l:Sl Bool}:nO L l (rN L l)↔nO L l (jE L l)/\nO L l (kL L l):=by
 constructor
 .intro h;constructor <;> intro i k hik a b ha hb hi hk <;> have:=h i k hik a b ha hb hi hk <;> unfold rN at this <;> simp only[ζh]at this
  .exact this.1
  .exact this.2
 .rintro⟨h1,h2⟩ i k hik a b ha hb hi hk;have e1:=h1 i k hik a b ha hb hi hk;have e2:=h2 i k hik a b ha hb hi hk;unfold jE at e1;unfold kL at e2;unfold rN;rw[e1,e2];rfl
end
end Go.VE
namespace Go.VE
theorem Qr {c:Sl Bool} (hne:c≠.emp) (hl:c.l.length<=1073741824):∃d,(jP c).bind Sl.whole=some d/\d.l=c.l:=by
 unfold jP;have key:∃d,(((kO (Sl.row []:Sl Bool) c).bind λx=>some x).bind Sl.whole)=some d/\d.l=c.l:=by
  unfold kO
  by_cases h:c.l=[]
  .rw[if_pos h];exact⟨_,rfl,h.symm⟩
  .rw[if_neg h,if_pos (show (Sl.row ([]:List Bool)).l.length+c.l.length<=2147483648 from show 0+c.l.length<=_ by omega)];exact⟨_,rfl,rfl⟩
 cases c with
 | nil=>exact⟨.nil,rfl,rfl⟩
 | emp=>exact absurd rfl hne
 | part l=>exact key
 | row l=>exact key
section
variable {t:Trace} {A:aC 200 aH}
theorem Eo {l:Sl Bool} {q0 q1 q2 q3:Bool×Sl Int×Sl Int×Int} (h0:jL t l=some q0) (h1:gy t l=some q1) (h2:iZ t l=some q2) (h3:jN t l=some q3) :
 bJ l t=some (⟨[q0.1,q1.1,q2.1,q3.1],rfl⟩,kH (kH (kH q0.2.2.2 q1.2.2.2) q2.2.2.2) q3.2.2.2):=by
 unfold bJ;rw[h0,h1,h2,h3];kernel_rfl
theorem uw {l:Sl Bool} {e:Int} (h:∃x,dV t l=some (x,e)) (he:e≠0):∃a,bJ l t=some (a,e):=by
 obtain⟨x,h⟩:=h;have z:(e==0)=false:=by simpa using he
 have h0:jL t l=some (false,.nil,.nil,e):=by unfold jL;rw[h,ζb];simp only[z,bg]
 have h1:gy t l=some (false,.nil,.nil,e):=by unfold gy;rw[h,ζb];simp only[z,bg]
 have h2:iZ t l=some (false,.nil,.nil,e):=by unfold iZ;rw[h,ζb];simp only[z,bg]
 have h3:jN t l=some (false,.nil,.nil,e):=by unfold jN;rw[h,ζb];simp only[z,bg]
 exact⟨_,(Eo h0 h1 h2 h3).trans (congrArg some (Prod.ext rfl (by simp[kH])))⟩
theorem we (hS:Small t) (hv:fu t=some true) (hV:VT t) (hM:gu t (aT t) A) {L:List (List Int)} {r:Sl (Sl Int)} (hall:iJ t A L) (hle:L.length<=5000) (hc:mE t=some (r,0)) (hr:ins r=L) {l:Sl Bool} (hl:l.l.length=L.length) :
 ∃b0 b1 b2 b3,bJ l t=some (⟨[b0,b1,b2,b3],rfl⟩,0)/\(b0=true↔nO L l (jE L l))/\(b1=true↔nO L l (kL L l))/\(b2=true↔nO L l (rN L l))/\(b3=true↔qy L l):=by
 obtain⟨x,hx,hT⟩:=QT hS hv hV hM hall hle hc hr hl;have three:∀(p:Sl Int×Sl Int->Option Bool) (F:List Int->List Int->Bool),(∀a b:Sl Int,a.l∈L->b.l∈L->p (a,b)=some (F a.l b.l))->∃q,bS x p=some q/\(q.1=true↔nO L l F):=by
  intro p F hp;obtain⟨⟨hd,a,b⟩,hq,h1⟩:=LG hT hp;refine⟨_,hq,?_⟩;rcases h1 with⟨rfl,_,_,h1⟩|⟨rfl,i,k,h1,h2,h3,h4,h5,h6,_⟩
  .exact⟨λ_=>h1,λ_=>rfl⟩
  .refine⟨λh=>(by cases h),λh=>?_⟩
   have:=h i k h1 _ _ h2 h3 h4 h5;rw[h6]at this;cases this
 obtain⟨q0,a0,c0⟩:=three (λz=>eP x z.1 z.2) (jE L l) λa b ha hb=>hT.jE hV ha hb
 obtain⟨q1,a1,c1⟩:=three (λz=>eN x z.1 z.2) (kL L l) λa b ha hb=>hT.kL hV ha hb
 obtain⟨q2,a2,c2⟩:=three (λz=>iM x z.1 z.2) (rN L l) λa b ha hb=>hT.rN hV ha hb
 obtain⟨⟨hd,a,b⟩,hq,h1⟩:=Jp hS hV hT;have c3:hd=true↔qy L l:=by
  rcases h1 with⟨rfl,_,_,h1⟩|⟨rfl,i,p,k,h1,h2,h3,_⟩
  .exact⟨λ_=>h1,λ_=>rfl⟩
  .exact⟨λh=>(by cases h),λh=>(h i _ h1 h2 p k h3).elim⟩
 have z:((0:Int)==0)=true:=rfl;have h0:jL t l=some (q0.1,q0.2.1,q0.2.2,0):=by unfold jL;rw[hx,ζb];simp only[z,aY,a0];rfl
 have h1:gy t l=some (q1.1,q1.2.1,q1.2.2,0):=by unfold gy;rw[hx,ζb];simp only[z,aY,a1];rfl
 have h2:iZ t l=some (q2.1,q2.2.1,q2.2.2,0):=by unfold iZ;rw[hx,ζb];simp only[z,aY,a2];rfl
 have h3:jN t l=some (hd,a,b,0):=by unfold jN;rw[hx,ζb];simp only[z,aY,hq];rfl
 exact⟨_,_,_,_,Eo h0 h1 h2 h3,c0,c1,c2,c3⟩
end
theorem oU {x0 x1 x2 x3:Bool}:(⟨[x0,x1,x2,x3],rfl⟩:aC 4 Bool).at 0=some x0/\(⟨[x0,x1,x2,x3],rfl⟩:aC 4 Bool).at 1=some x1/\(⟨[x0,x1,x2,x3],rfl⟩:aC 4 Bool).at 2=some x2/\(⟨[x0,x1,x2,x3],rfl⟩:aC 4 Bool).at 3=some x3:=⟨rfl,rfl,rfl,rfl⟩
theorem wD {X Y Z N:aC 4 Bool} {i:Nat} {x y z:Bool} (hi:i<4) (h:x=true->y=true->z=true) (a:X.at (i:Int)=some x) (b:Y.at (i:Int)=some y) (c:Z.at (i:Int)=some z):bL.bq X Y Z N (i:Int)=some (.n ((i+1:Nat):Int)):=by
 unfold bL.bq;rw[show decide ((i:Int)<4)=true from decide_eq_true (by omega),aY,a,ζb,b,c,bY i (by omega)]
 cases x <;> cases y <;> cases z <;> first|rfl|(cases h rfl rfl)
theorem Qx {x0 x1 x2 x3 y0 y1 y2 y3 z0 z1 z2 z3 n0 n1 n2 n3:Bool} (h0:x0=true->y0=true->z0=true) (h1:x1=true->y1=true->z1=true) (h2:x2=true->y2=true->z2=true) (h3:x3=true->y3=true->z3=true)
 (h4:y2=(y0&&y1)) (h5:y3=true->y1=true/\n0=true):bL.W2 0 ⟨[x0,x1,x2,x3],rfl⟩ ⟨[y0,y1,y2,y3],rfl⟩ ⟨[z0,z1,z2,z3],rfl⟩ ⟨[n0,n1,n2,n3],rfl⟩=some true:=by
 refine Wp.eq ?_;unfold bL.W2;refine gB 4 (λi (q:Int)=>q=(i:Int)) rfl ?_ ?_
 .rintro i _ hi rfl;obtain rfl|rfl|rfl|rfl:i=0\/i=1\/i=2\/i=3:=by omega
  .rw[wD hi h0 oU.1 oU.1 oU.1,af]
  .rw[wD hi h1 oU.2.1 oU.2.1 oU.2.1,af]
  .rw[wD hi h2 oU.2.2.1 oU.2.2.1 oU.2.2.1,af]
  .rw[wD hi h3 oU.2.2.2 oU.2.2.2 oU.2.2.2,af]
 .rintro _ rfl;unfold bL.bq;rw[show decide (((4:Nat):Int)<4)=false from rfl,bg,af];refine DV ?_;simp only[oU.1,oU.2.1,oU.2.2.1,oU.2.2.2,ζb];subst h4;cases y0 <;> cases y1 <;> cases y3 <;> cases n0 <;> first|rfl|(cases (h5 rfl).1;done)|(cases (h5 rfl).2;done)
theorem Rq {k l b n:Sl Bool} {t:Trace} (hk:k.l.length=l.l.length) (hb:b.l=l.l) (hn:n.l=l.l) (h60:l.l.length<1073741824) {P:Bool->Prop}
 (h:∀b n:Sl Bool,b.l.length=l.l.length->n.l.length=l.l.length->(∀i,i<l.l.length->fP b i=(fP k i&&fP l i))->(∀i,i<l.l.length->fP n i = !fP l i) ->
  Wp ((bJ k t).bind λx_24=>(bJ l t).bind λx_25=>(bJ b t).bind λx_26=>(bJ n t).bind λx_27=>
   ay (x_24.2==0) ((ay (x_25.2==0) (some (!(x_26.2==0))) (some true):Option Bool).bind λx_28=>(ay x_28 (some true) (some (!(x_27.2==0))):Option Bool).bind λx_29=>ay x_29 (some false) (bL.W2 0 x_24.1 x_25.1 x_26.1 x_27.1))
    ((ay (x_25.2==x_24.2) (some (x_26.2==x_24.2)) (some false):Option Bool).bind λx_30=>(ay x_30 (some (x_27.2==x_24.2)) (some false):Option Bool).bind λx_31=>some x_31)) P):Wp (bL.W1 k l b n (len l) 0 t) P:=by
 unfold bL.W1;refine gB l.l.length (λi (q:Sl Bool×Sl Bool×Int)=>q.2.2=(i:Int)/\q.1.l.length=l.l.length/\q.2.1.l.length=l.l.length/\(∀j,j<i->fP q.1 j=(fP k j&&fP l j))/\∀j,j<i->fP q.2.1 j = !fP l j) ⟨rfl,by rw[hb],by rw[hn],λj h=>absurd h (by omega),λj h=>absurd h (by omega)⟩ ?_ ?_
 .rintro i ⟨x,y,_⟩ hi ⟨e,l1,l2,p1,p2⟩;simp only at e l1 l2 p1 p2;subst e;unfold bL.aB;simp only;obtain⟨x',hx,ex⟩:=put_eq (s:=x) (p:=i) (x:=(fP k i&&fP l i)) (by omega)
  obtain⟨y',hy,ey⟩:=put_eq (s:=y) (p:=i) (x:=(!fP l i)) (by omega)
  rw[jZ hi,aY,rz (by omega:i<k.l.length),rz hi,tP (by omega:i<x.l.length),tP (by omega:i<y.l.length)]
  simp only[ζb];rw[show (ay (fP k i) (some (fP l i)) (some false):Option Bool)=some (fP k i&&fP l i)from ko _ _,ζb,hx,ζb,hy,ζb,af];have set:∀(u v:Sl Bool) (w:Bool),v.l=u.l.set i w->i<u.l.length->∀j,fP v j=if j=i then w else fP u j:=λu v w e hu j=>by
   unfold fP;rw[e]
   by_cases h:j=i
   .subst h;rw[List.getElem?_set_self hu,if_pos rfl];rfl
   .rw[List.getElem?_set_ne (Ne.symm h),if_neg h]
  refine⟨bY i (by omega),by rw[ex];simpa using l1,by rw[ey];simpa using l2,λj hj=>?_,λj hj=>?_⟩
  .rw[set x x' _ ex (by omega)]
   split
   .rename_i e;rw[e]
   .exact p1 j (by omega)
  .rw[set y y' _ ey (by omega)]
   split
   .rename_i e;rw[e]
   .exact p2 j (by omega)
 .rintro⟨x,y,_⟩ ⟨e,l1,l2,p1,p2⟩;simp only at e l1 l2 p1 p2;subst e;unfold bL.aB;rw[jX,bg,af];exact h x y l1 l2 p1 p2
theorem NM {t:Trace} {k l:Sl Bool} (hS:Small t) (hN:(aT t).length<1073741824) (hne:l≠.emp):bL t k l=some true:=by
 obtain⟨b,hb⟩:=Js hS;obtain⟨v,hv,hrv,hV⟩:=Jo hS hN;unfold bL tD;rw[ζb,aY,hb,ζb]
 cases b with
 | false=>rfl
 | true=>
  rw[aY,ζb]
  by_cases h6:(len k)>6000
  .rw[decide_eq_true h6];rfl
  rw[decide_eq_false h6,bg,ζb];have h6:k.l.length<=6000:=by simp only[len]at h6;omega
  by_cases hkl:k.l.length=l.l.length
  rotate_left
  .rw[show (len k==len l)=false from by simp[len];omega];rfl
  rw[show (len k==len l)=true from by simp[len];omega,show (!true)=false from rfl,bg,hrv,ζb,ζb]
  cases v with
  | false=>rfl
  | true=>
   have hV:=hV rfl;obtain⟨A,i,hA,hM⟩:=hV.msgs;obtain⟨s,hs⟩:=Ih hS hv hV hM;rw[show (!true)=false from rfl,bg,hs,ζb,ζb]
   cases s with
   | false=>rfl
   | true=>
    rw[show (!true)=false from rfl,bg];obtain⟨d,hd,hdl⟩:=Qr hne (by omega)
    rw[hd,ζb,ζb];refine Wp.eq (Rq hkl hdl hdl (by omega) λb n lb ln pb pn=>?_)
    have err:∀e:Int,e≠0->(∀m:Sl Bool,m.l.length=l.l.length->∃x,dV t m=some (x,e))->Wp ((bJ k t).bind λx_24=>(bJ l t).bind λx_25=>(bJ b t).bind λx_26=>(bJ n t).bind λx_27=>
     ay (x_24.2==0) ((ay (x_25.2==0) (some (!(x_26.2==0))) (some true):Option Bool).bind λx_28=>(ay x_28 (some true) (some (!(x_27.2==0))):Option Bool).bind λx_29=>ay x_29 (some false) (bL.W2 0 x_24.1 x_25.1 x_26.1 x_27.1))
     ((ay (x_25.2==x_24.2) (some (x_26.2==x_24.2)) (some false):Option Bool).bind λx_30=>(ay x_30 (some (x_27.2==x_24.2)) (some false):Option Bool).bind λx_31=>some x_31)) (λx=>x=true):=by
     intro e he h;obtain⟨a0,e0⟩:=uw (h k hkl) he;obtain⟨a1,e1⟩:=uw (h l rfl) he;obtain⟨a2,e2⟩:=uw (h b lb) he;obtain⟨a3,e3⟩:=uw (h n ln) he;rw[e0,e1,e2,e3];simp only[ζb];rw[show (e==0)=false from by simpa using he,bg,beq_self_eq_true,aY,ζb,aY]
     exact(af _).2 rfl
    rcases A3 hS hv hV hM with⟨L,r,s,hall,hle,hc,_,hr,_⟩|⟨hc,_⟩
    .by_cases hl:l.l.length=L.length
     .obtain⟨x0,x1,x2,x3,ex,c0,c1,c2,c3⟩:=we hS hv hV hM hall hle hc hr (l:=k) (hkl.trans hl);obtain⟨y0,y1,y2,y3,ey,d0,d1,d2,d3⟩:=we hS hv hV hM hall hle hc hr hl;obtain⟨z0,z1,z2,z3,ez,f0,f1,f2,f3⟩:=we hS hv hV hM hall hle hc hr (l:=b) (lb.trans hl);obtain⟨n0,n1,n2,n3,en,g0,_,_,_⟩:=we hS hv hV hM hall hle hc hr (l:=n) (ln.trans hl);rw[ex,ey,ez,en];simp only[ζb];rw[show ((0:Int)==0)=true from rfl,aY,aY,ζb,show (!true)=false from rfl,bg,ζb,bg];have pb':∀i,i<L.length->fP b i=(fP k i&&fP l i):=λi hi=>pb i (by omega)
      have nd:=dm.nodup hall.srt;have hm:∀{x y:List Int},x∈L->y∈L->jE L b x y=(jE L k x y&&jE L l x y):=λ{x y} hx hy=>by
       have hA:=(hall.mem _).1 hx;have hB:=(hall.mem _).1 hy;have:=(hall.mem _).2 (wQ hA hB (kQ.of nZ (hA.1.1.trans hB.1.1.symm)));exact pb' _ (List.idxOf_lt_length_of_mem this)
      have hj:∀{x y:List Int},x∈L->y∈L->kL L b x y=(kL L k x y&&kL L l x y):=λ{x y} hx hy=>by
       have hA:=(hall.mem _).1 hx;have hB:=(hall.mem _).1 hy;have:=(hall.mem _).2 (join_cons hA hB (kQ.of gw (hA.1.1.trans hB.1.1.symm)));exact pb' _ (List.idxOf_lt_length_of_mem this)
      refine DV (Qx (λh h'=>?_) (λh h'=>?_) (λh h'=>?_) (λh h'=>?_) ?_ (λh=>?_))
      .exact f0.2 (nO.both (G:=λ_=>True) (jE L) pb' (λx y hx hy=>hm hx hy) (c0.1 h) (d0.1 h'))
      .exact f1.2 (nO.both (G:=λ_=>True) (kL L) pb' (λx y hx hy=>hj hx hy) (c1.1 h) (d1.1 h'))
      .refine f2.2 (nO.both (G:=λ_=>True) (rN L) pb' (λx y hx hy=>?_) (c2.1 h) (d2.1 h'))
       show (jE L b x y&&kL L b x y)=((jE L k x y&&kL L k x y)&&(jE L l x y&&kL L l x y));rw[hm hx hy,hj hx hy];cases jE L k x y <;> cases jE L l x y <;> cases kL L k x y <;> cases kL L l x y <;> rfl
      .exact f3.2 (qy.both pb' (c3.1 h) (d3.1 h'))
      .rw[Bool.eq_iff_iff,ζh,d2,d0,d1];exact nO.mB
      .exact⟨d1.2 ((d3.1 h).post hV hM hall),g0.2 ((d3.1 h).OX hV hM hall λi hi=>pn i (by omega))⟩
     .refine err 3 (by decide) λm hml=>?_
      have hrl:r.l.length=L.length:=by rw[<-jC,hr]
      unfold dV rY;rw[hc,ζb,ζb];simp only;rw[show ((0:Int)==0)=true from rfl,aY,show (len m==len r)=false from by simp[len];omega];exact⟨_,rfl⟩
    .refine err 16 (by decide) λm hml=>?_
     unfold dV rY;rw[hc];exact⟨_,rfl⟩
end Go.VE
namespace Go.VE
theorem A0 {α:Type} [bX α] {x:α}:∀{l:List α},x∈l->bX.wt x<=(l.map bX.wt).sum
 | y::l,h=>by
  simp only[List.map_cons,List.sum_cons];rcases List.mem_cons.1 h with rfl|h
  .omega
  .have:=A0 h;omega
theorem vw {α:Type} [bX α] (h:∀x:α,1<=bX.wt x):∀(l:List α),l.length<=(l.map bX.wt).sum
 | []=>Nat.le_refl _
 | y::l=>by
  simp only[List.map_cons,List.sum_cons,List.length_cons];have:=vw h l;have:=h y;omega
theorem Aw {α:Type} [bX α] (s:Sl α):bX.wt s=(s.l.map bX.wt).sum+1:=rfl
theorem yY (p:Int):∀(es:List Event) (j:Int),(gm p j es).length=es.length
 | [],_=>rfl
 | _::es,j=>by simp only[gm,List.length_cons,yY p es]
theorem DA:∀(ps:List bt) (i:Int),(dS i ps).length<=(ps.map bX.wt).sum
 | [],_=>Nat.le_refl _
 | p::ps,i=>by
  simp only[dS,ζi,yY,List.map_cons,List.sum_cons];have h1:=DA ps (i+1);have h2:=vw (α:=Event) (λx=>Nat.le_add_left ..) p.events.l
  have h3:bX.wt p=bX.wt p.name+bX.wt p.vars+bX.wt p.events+1:=rfl;have h4:=Aw p.events;omega
theorem MF {t:Trace} (h:bX.wt t<=1048576):Small t/\(aT t).length<1073741824:=by
 have h0:bX.wt t=bX.wt t.procs+1:=rfl;have h1:=Aw t.procs;have h2:=vw (α:=bt) (λx=>Nat.le_add_left ..) t.procs.l
 have h3:=DA t.procs.l 0;refine⟨⟨by omega,λp hp=>?_⟩,by show (dS 0 t.procs.l).length<_;omega⟩
 have h4:=A0 hp;have h5:bX.wt p=bX.wt p.name+bX.wt p.vars+bX.wt p.events+1:=rfl;have h6:=Aw p.events;have h7:=Aw p.vars;have h8:=vw (α:=Event) (λx=>Nat.le_add_left ..) p.events.l
 have h9:=vw (α:=Var) (λx=>Nat.le_add_left ..) p.vars.l
 have h10:bX.wt p.name=p.name.size+1:=rfl;refine⟨by omega,by omega,by omega,λv hv=>?_,λe he=>?_⟩
 .have k1:=A0 hv;have k2:bX.wt v=bX.wt v.name+bX.wt v.init_+1:=rfl;have k3:bX.wt v.name=v.name.size+1:=rfl;omega
 .have k1:=A0 he;have k2:bX.wt e=bX.wt e.kind+bX.wt e.peer+bX.wt e.message+bX.wt e.time+bX.wt e.assign+1:=rfl;have k3:=Aw e.assign;have k4:=vw (α:=Assign) (λx=>Nat.le_add_left ..) e.assign.l
  omega
end Go.VE
namespace Go.Proofs.YtdoibkkdaojjpaaGreat
open Go.ChangeShapes Go.WideShapes Go.ChangeAt Go.RowKit Go.VE
theorem own:ownKnob Tryz.prog.godebug=none:=by kernel_rfl
theorem kids:Kids Tryz.prog (·<Tryz.prog.types.size):=kids_rows (by kernel_rfl) (by kernel_rfl)
theorem full:∀t e,t<Tryz.prog.types.size->Tryz.prog.underlying t=some (.slice e)->0<Tryz.prog.cellsOf e:=slices_full_of Tryz.prog (by kernel_rfl)
theorem vk {H:Type}:∀l:List (DataW H),Rows.uptoBulkAll l=(l.map Rows.uptoBulk).sum
 | []=>by simp[Rows.uptoBulkAll]
 | d::r=>by simp[Rows.uptoBulkAll,vk r]
theorem EZ {H:Type}:tG (H:=H) Rows.uptoBulk where
 lit l:=by cases l <;> simp[Rows.uptoBulk]
 str s:=by simp[Rows.uptoBulk]
 nil:=by simp[Rows.uptoBulk]
 slice es sp:=by rw[Rows.uptoBulk,vk,vk];omega
 agg ps:=by rw[Rows.uptoBulk,vk];exact Nat.le_refl _
set_option maxRecDepth 100000 in
theorem FD (H:Type) (enc:TypeId×Value->H) (W:World) (base:Nat) (args:Array Value) (ds gs:List (DataW H)) (before:List MemPlace)
 (hval:∀(j:Nat) t v,Tryz.f4.params[j]? = some t->args[j]? = some v->Value.okWide Tryz.prog W .any base t v)
 (hW:DataW.Whole enc Tryz.prog Tryz.f4.params.toList Rows.memberBothSpec.vars false W args.toList ds gs before) (hk:Rows.uptoSmall H (ds++gs)=true) :
 Calls Tryz.prog 4 args W λe W'=>∃v,e=.returned v/\Rows.memberBothSpec.post enc Tryz.prog Tryz.f4 false true false false W args v W':=by
 have hW':=hW;obtain⟨p,q,hA0,hV,rfl,hfz,hnd⟩:=hW;have hA:DataW.TrodAll enc Tryz.prog W 0 (λ_=>true) true Tryz.f4.params.toList args.toList ds p:=hA0
 rw[Tryz.params4]at hA hval;obtain⟨v0,vs0,d0,ds0,p0,q0,hargs,rfl,rfl,h0,r0⟩:=trodAll_cons hA;obtain⟨v1,vs1,d1,ds1,p1,q1,rfl,rfl,rfl,h1,r1⟩:=trodAll_cons r0;obtain⟨v2,vs2,d2,ds2,p2,q2,rfl,rfl,rfl,h2,r2⟩:=trodAll_cons r1;obtain⟨rfl,rfl,rfl⟩:=trodAll_nil r2;obtain rfl:args=#[v0,v1,v2]:=by cases args;simp_all
 obtain⟨rfl,rfl⟩:=trodVars_none hV;obtain⟨a0,w0,k0,b0⟩:=Reads.HO (t:=24) (α:=VE.Trace) hval 0 rfl rfl h0;obtain⟨a1,w1,k1,b1⟩:=Reads.HO (t:=25) (α:=Sl Bool) hval 1 rfl rfl h1;obtain⟨a2,w2,k2,b2⟩:=Reads.HO (t:=25) (α:=Sl Bool) hval 2 rfl rfl h2;have hb:bX.wt a0+bX.wt a1+bX.wt a2<=1048576:=by
  have c0:=b0 Rows.uptoBulk EZ;have c1:=b1 Rows.uptoBulk EZ;have c2:=b2 Rows.uptoBulk EZ;have h7:Rows.uptoBulkAll ([d0,d1,d2]++[])<=1048576:=of_decide_eq_true hk;rw[vk]at h7;simp only[List.append_nil,List.map_cons,List.map_nil,List.sum_cons,List.sum_nil]at h7;omega
 obtain⟨hS,hN⟩:=MF (t:=a0) (by omega)
 have hc:kY cL 4 [VE.enc a0,VE.enc a1,VE.enc a2]=some [.bool true]:=by
  have hl:(bL a0 a1 a2).bind (λr:Bool=>some [V.bool r])=some [.bool true]:=by rw[NM hS hN k2.2];rfl
  exact(wP a0 a1 a2).F.h () _ hl
 have:=G3 (P:=Tryz.prog) Dx yI calls (f:=4) (xs:=[VE.enc a0,VE.enc a1,VE.enc a2]) (by simp[V.bF,V.good,iC]) hc (w:=W) (args:=#[v0,v1,v2]) (λ_ _ h=>nomatch h) (bH.cons w0 (bH.cons w1 (bH.cons w2 .nil)))
 refine this.mono λe W' ⟨he,hg⟩=>?_
 subst he;exact⟨_,rfl,Jm kids full (by rw[Tryz.params4];decide) rfl rfl rfl Tryz.underlying4 hW' hg⟩
set_option maxRecDepth 100000 in
theorem Jd (os:Os) (started:os.Started) (H:Type) (enc:TypeId×Value->H) (F:Stop.Interp) :
 ReturnsInHanded {} Tryz.checked os 4 .any ((Rows.OpenSpec.upto Rows.memberBothSpec).pre6 enc Tryz.prog Tryz.f4 Rows.memberBothUptoRow.domain false) (((Rows.OpenSpec.upto Rows.memberBothSpec).at F).post enc Tryz.prog Tryz.f4 false true false false):=by
 refine returnsInHanded_of_cond (C:=Tryz.checked) (s:=Rows.OpenSpec.upto Rows.memberBothSpec) (k:=Rows.uptoSmall) rfl own started (by kernel_rfl) Tryz.func4
  (OpenSpec.witness (enc:=enc) (C:=Tryz.checked) (s:=Rows.OpenSpec.upto Rows.memberBothSpec) (k:=Rows.uptoSmall) rfl false ⟨#[],#[.agg #[.slice none 0 0],.slice none 0 0,.slice none 0 0],[]⟩ 8 (by kernel_rfl) (by kernel_rfl) (by kernel_rfl)
   (x:=([.agg [.nil],.nil,.nil],[],[])) (by kernel_rfl) rfl (by kernel_rfl)) ?_
 intro W base args ds gs before hval hW _ hk _;exact FD H enc W base args ds gs before hval hW hk
theorem NF:Rows.memberBothUptoRow.holds Tryz.pinned (Rows.OpenSpec.upto Rows.memberBothSpec):=
 OpenClaim.holds_of_cond 4 Tryz.f4 rfl rfl rfl rfl rfl rfl rfl ⟨rfl,rfl,rfl,rfl,rfl⟩ rfl rfl rfl rfl rfl (by kernel_rfl) Tryz.func4 (by kernel_rfl)
  (of_decide_eq_true (by kernel_rfl)) (by unfold Func.isWrapper;first|(rw[if_pos (by decide +kernel)];kernel_rfl)|(rw[if_neg (by decide +kernel)];exact⟨rfl,rfl⟩))
  (λos started H enc _ F=>Jd os started H enc F)
theorem memberBothProved:Rows.MemberBothUptoSaid:=
 NF
#print axioms memberBothProved
end Go.Proofs.YtdoibkkdaojjpaaGreat
