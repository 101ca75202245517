/-
 The law in plain Lean, and the join.
-/
import Derived.Test.YtfjedefhlilglaaGreatDoorK1
import Derived.Test.YtfjedefhlilglaaGreatDoorG1
set_option linter.all false
open List(Nodup Pairwise all_eq_true countP_cons drop_eq_getElem_cons drop_of_length_le ext_getElem? finRange find?_append find?_eq_none getElem?_eq_none getElem?_map getElem?_replicate getElem?_set getElem?_take getElem_mem length length_cons length_set length_singleton length_take mapM_cons map_append map_cons map_nil mem_append mem_append_left mem_cons mem_cons_of_mem mem_cons_self mem_iff_getElem mem_map mem_of_getElem? mem_of_mem_take mem_range mem_singleton pairwise_append pairwise_cons pairwise_map range range' replicate sum_cons sum_nil take_add_one take_append_drop take_length zipWith)
open Option(bind_eq_bind getD_some pure_def)
open Go.IntKind(signed wrap)
open Nat(le_refl zero_le)
open Bool(false_eq_true not_eq_true' or_eq_false_iff or_eq_true)
open ByteArray(toList)
open Relation(TransGen)
open Classical(byContradiction)
open Int(toNat toNat_natCast)
open UInt8(ofNat)
namespace Go.VE
theorem Zaf{p:Prop}(h:p:=by kernel_rfl):p:=h
instance:cA Var where
 wt x:=cA.wt x.name+cA.wt x.init_+1
 ok x:=cA.ok x.name/\cA.ok x.init_/\True
instance:cA Assign where
 wt x:=cA.wt x.var+cA.wt x.value+1
 ok x:=cA.ok x.var/\cA.ok x.value/\True
instance:cA WF where
 wt x:=cA.wt x.kind+cA.wt x.peer+cA.wt x.message+cA.wt x.time+cA.wt x.assign+1
 ok x:=cA.ok x.kind/\cA.ok x.peer/\cA.ok x.message/\cA.ok x.time/\cA.ok x.assign/\True
instance:cA bX where
 wt x:=cA.wt x.name+cA.wt x.vars+cA.wt x.events+1
 ok x:=cA.ok x.name/\cA.ok x.vars/\cA.ok x.events/\True
instance:cA Z4 where
 wt x:=cA.wt x.procs+1
 ok x:=cA.ok x.procs/\True
instance:cA bU where
 wt x:=cA.wt x.low+cA.wt x.high+1
 ok x:=cA.ok x.low/\cA.ok x.high/\True
instance:cA cr where
 wt x:=cA.wt x.t+cA.wt x.counts+cA.wt x.values+1
 ok x:=cA.ok x.t/\cA.ok x.counts/\cA.ok x.values/\True
mutual
def Pred.wtR:Pred->Nat
 |⟨f0,f1,f2,f3,B,f5⟩=>cA.wt f0+cA.wt f1+cA.wt f2+cA.wt f3+cA.wt B+Pred.UG f5+1
def Pred.UG:Sl Pred->Nat
 |.nil=>1|.emp=>1|.row l=>Pred.KV l+1|.part l=>Pred.KV l+1
def Pred.KV:aZ Pred->Nat
 |[]=>0|x::r=>Pred.wtR x+Pred.KV r
end
mutual
def Pred.okR:Pred->Prop
 |⟨f0,f1,f2,f3,B,f5⟩=>cA.ok f0/\cA.ok f1/\cA.ok f2/\cA.ok f3/\cA.ok B/\Pred.okS f5/\True
def Pred.okS:Sl Pred->Prop
 |.nil=>True|.emp=>False|.row l=>Pred.Vi l|.part l=>Pred.Vi l
def Pred.Vi:aZ Pred->Prop
 |[]=>True|x::r=>Pred.okR x/\Pred.Vi r
end
instance:cA Pred where
 wt:=Pred.wtR
 ok:=Pred.okR
theorem Pred.GC:∀l:aZ Pred,Pred.KV l=(l.map cA.wt).sum
 |[]=>rfl|x::r=>by simp only[Pred.KV,map_cons,sum_cons,Pred.GC r];rfl
theorem Pred.wtE(s:Sl Pred):Pred.UG s=cA.wt s:=by cases s with|nil=>rfl|emp=>rfl|row l=>show Pred.KV l+1=(l.map cA.wt).sum+1;rw[Pred.GC]|part l=>show Pred.KV l+1=(l.map cA.wt).sum+1;rw[Pred.GC]
theorem Pred.Ga:∀l:aZ Pred,(∀x∈l,cA.ok x)->Pred.Vi l
 |[],_=>trivial|x::r,h=>⟨h x (mem_cons_self ..),Pred.Ga r λy B=>h y (mem_cons_of_mem _ B)⟩
theorem Pred.okE(s:Sl Pred)(h:cA.ok s):Pred.okS s:=by cases s with|nil=>trivial|emp=>exact h.2 rfl|row l=>exact Pred.Ga l h.1|part l=>exact Pred.Ga l h.1
end Go.VE
namespace Go.VE.YtfjedefhlilglaaGreatDoor
open Go.Proofs Go.Proofs.YtfjedefhlilglaaGreatDoor
instance rd9:Reads Tryz.prog 9 U':=Reads.str Tryz.underlying9 Zaf
instance rd3:Reads Tryz.prog 3 Int:=Reads.int Tryz.underlying3 Zaf
instance abZ:Reads Tryz.prog 68 Var:=by refine Reads.st Tryz.underlying68 Zaf rfl ?_;intro H enc w base a c u cs l I h;simp only[mapM_cons,List.mapM_nil,pure_def,bind_eq_bind,ζg,ζa]at h;obtain⟨z,e,J,⟨B,f,L,rfl,rfl⟩,rfl⟩:=h;have⟨a0,C,k0,O⟩:=Reads.rd (P:=Tryz.prog) (t:=9) (α:=U') (d:=z.1) (ps:=z.2) e;rw[show Tryz.prog.cellsOf 9=1 from by kernel_rfl]at C;have⟨a1,D,k1,Q⟩:=Reads.rd (P:=Tryz.prog) (t:=3) (α:=Int) (d:=B.1) (ps:=B.2) f;rw[show Tryz.prog.cellsOf 3=1 from by kernel_rfl]at D;refine⟨⟨a0,a1⟩,fR.fin (n:=2) (fR.seg (o:=1) (n:=1) (fR.seg (o:=0) (n:=1) (show fR (snap w) [] (cs.take 0)from by simpa using fR.nil) C) D) I,⟨k0,k1,trivial⟩,λb G=>?_⟩;have S:=O b G;have T:=Q b G;show cA.wt a0+cA.wt a1+1<=_;simp only[map_cons,map_nil,sum_cons,sum_nil];omega
instance ab1:Reads Tryz.prog 69 (Sl Var):=Reads.sl (e:=68) Tryz.underlying69 Zaf (by decide)
instance ab6:Reads Tryz.prog 71 Assign:=by refine Reads.st Tryz.underlying71 Zaf rfl ?_;intro H enc w base a c u cs l I h;simp only[mapM_cons,List.mapM_nil,pure_def,bind_eq_bind,ζg,ζa]at h;obtain⟨z,e,J,⟨B,f,L,rfl,rfl⟩,rfl⟩:=h;have⟨a0,C,k0,O⟩:=Reads.rd (P:=Tryz.prog) (t:=3) (α:=Int) (d:=z.1) (ps:=z.2) e;rw[show Tryz.prog.cellsOf 3=1 from by kernel_rfl]at C;have⟨a1,D,k1,Q⟩:=Reads.rd (P:=Tryz.prog) (t:=3) (α:=Int) (d:=B.1) (ps:=B.2) f;rw[show Tryz.prog.cellsOf 3=1 from by kernel_rfl]at D;refine⟨⟨a0,a1⟩,fR.fin (n:=2) (fR.seg (o:=1) (n:=1) (fR.seg (o:=0) (n:=1) (show fR (snap w) [] (cs.take 0)from by simpa using fR.nil) C) D) I,⟨k0,k1,trivial⟩,λb G=>?_⟩;have S:=O b G;have T:=Q b G;show cA.wt a0+cA.wt a1+1<=_;simp only[map_cons,map_nil,sum_cons,sum_nil];omega
instance ab4:Reads Tryz.prog 72 (Sl Assign):=Reads.sl (e:=71) Tryz.underlying72 Zaf (by decide)
instance abY:Reads Tryz.prog 74 WF:=by refine Reads.st Tryz.underlying74 Zaf rfl ?_;intro H enc w base a c z cs l Q h;simp only[mapM_cons,List.mapM_nil,pure_def,bind_eq_bind,ζg,ζa]at h;obtain⟨B,e,S,⟨C,f,T,⟨x2,U,W,⟨D,X,Y,⟨x4,Z,p,rfl,rfl⟩,rfl⟩,rfl⟩,rfl⟩,rfl⟩:=h;have⟨a0,G,k0,g⟩:=Reads.rd (P:=Tryz.prog) (t:=3) (α:=Int) (d:=B.1) (ps:=B.2) e;rw[show Tryz.prog.cellsOf 3=1 from by kernel_rfl]at G;have⟨a1,I,k1,i⟩:=Reads.rd (P:=Tryz.prog) (t:=3) (α:=Int) (d:=C.1) (ps:=C.2) f;rw[show Tryz.prog.cellsOf 3=1 from by kernel_rfl]at I;have⟨a2,J,k2,j⟩:=Reads.rd (P:=Tryz.prog) (t:=3) (α:=Int) (d:=x2.1) (ps:=x2.2) U;rw[show Tryz.prog.cellsOf 3=1 from by kernel_rfl]at J;have⟨a3,L,k3,k⟩:=Reads.rd (P:=Tryz.prog) (t:=3) (α:=Int) (d:=D.1) (ps:=D.2) X;rw[show Tryz.prog.cellsOf 3=1 from by kernel_rfl]at L;have⟨a4,O,k4,m⟩:=Reads.rd (P:=Tryz.prog) (t:=72) (α:=(Sl Assign)) (d:=x4.1) (ps:=x4.2) Z;rw[show Tryz.prog.cellsOf 72=1 from by kernel_rfl]at O;refine⟨⟨a0,a1,a2,a3,a4⟩,fR.fin (n:=5) (fR.seg (o:=4) (n:=1) (fR.seg (o:=3) (n:=1) (fR.seg (o:=2) (n:=1) (fR.seg (o:=1) (n:=1) (fR.seg (o:=0) (n:=1) (show fR (snap w) [] (cs.take 0)from by simpa using fR.nil) G) I) J) L) O) Q,⟨k0,k1,k2,k3,k4,trivial⟩,λb u=>?_⟩;have q:=g b u;have r:=i b u;have s:=j b u;have v:=k b u;have x:=m b u;show cA.wt a0+cA.wt a1+cA.wt a2+cA.wt a3+cA.wt a4+1<=_;simp only[map_cons,map_nil,sum_cons,sum_nil];omega
instance ab3:Reads Tryz.prog 75 (Sl WF):=Reads.sl (e:=74) Tryz.underlying75 Zaf (by decide)
instance abX:Reads Tryz.prog 77 bX:=by refine Reads.st Tryz.underlying77 Zaf rfl ?_;intro H enc w base a c z cs l J h;simp only[mapM_cons,List.mapM_nil,pure_def,bind_eq_bind,ζg,ζa]at h;obtain⟨B,e,L,⟨C,f,O,⟨x2,Q,S,rfl,rfl⟩,rfl⟩,rfl⟩:=h;have⟨a0,D,k0,T⟩:=Reads.rd (P:=Tryz.prog) (t:=9) (α:=U') (d:=B.1) (ps:=B.2) e;rw[show Tryz.prog.cellsOf 9=1 from by kernel_rfl]at D;have⟨a1,G,k1,U⟩:=Reads.rd (P:=Tryz.prog) (t:=69) (α:=(Sl Var)) (d:=C.1) (ps:=C.2) f;rw[show Tryz.prog.cellsOf 69=1 from by kernel_rfl]at G;have⟨a2,I,k2,W⟩:=Reads.rd (P:=Tryz.prog) (t:=75) (α:=(Sl WF)) (d:=x2.1) (ps:=x2.2) Q;rw[show Tryz.prog.cellsOf 75=1 from by kernel_rfl]at I;refine⟨⟨a0,a1,a2⟩,fR.fin (n:=3) (fR.seg (o:=2) (n:=1) (fR.seg (o:=1) (n:=1) (fR.seg (o:=0) (n:=1) (show fR (snap w) [] (cs.take 0)from by simpa using fR.nil) D) G) I) J,⟨k0,k1,k2,trivial⟩,λb u=>?_⟩;have X:=T b u;have Y:=U b u;have Z:=W b u;show cA.wt a0+cA.wt a1+cA.wt a2+1<=_;simp only[map_cons,map_nil,sum_cons,sum_nil];omega
instance ab2:Reads Tryz.prog 22 (Sl bX):=Reads.sl (e:=77) Tryz.underlying22 Zaf (by decide)
instance ab0:Reads Tryz.prog 24 Z4:=by refine Reads.st Tryz.underlying24 Zaf rfl ?_;intro H enc w base a c u cs l C h;simp only[mapM_cons,List.mapM_nil,pure_def,bind_eq_bind,ζg,ζa]at h;obtain⟨z,e,D,rfl,rfl⟩:=h;have⟨a0,B,k0,G⟩:=Reads.rd (P:=Tryz.prog) (t:=22) (α:=(Sl bX)) (d:=z.1) (ps:=z.2) e;rw[show Tryz.prog.cellsOf 22=1 from by kernel_rfl]at B;refine⟨⟨a0⟩,fR.fin (n:=1) (fR.seg (o:=0) (n:=1) (show fR (snap w) [] (cs.take 0)from by simpa using fR.nil) B) C,⟨k0,trivial⟩,λb I=>?_⟩;have J:=G b I;show cA.wt a0+1<=_;simp only[map_cons,map_nil,sum_cons,sum_nil];omega
theorem X4:∀B,s9 Tryz.prog 28 Pred B:=by
 intro B;induction B using Nat.strongRecOn with|ind B S=>
 cases B with|zero=>intro H enc w base a c cs d ps h;simp[DataW.trod]at h|succ B=>
 refine s9.st Tryz.underlying28 Zaf ?_;intro H enc w base a c cs l T h;simp only[mapM_cons,List.mapM_nil,pure_def,bind_eq_bind,ζg,ζa]at h;obtain⟨C,f,U,⟨D,i,W,⟨x2,X,Y,⟨G,Z,x,⟨x4,j,y,⟨x5,k,A,rfl,rfl⟩,rfl⟩,rfl⟩,rfl⟩,rfl⟩,rfl⟩:=h;have⟨a0,I,k0,m⟩:=Reads.rd (P:=Tryz.prog) (t:=3) (α:=Int) (d:=C.1) (ps:=C.2) f;rw[show Tryz.prog.cellsOf 3=1 from by kernel_rfl]at I;have⟨a1,J,k1,p⟩:=Reads.rd (P:=Tryz.prog) (t:=3) (α:=Int) (d:=D.1) (ps:=D.2) i;rw[show Tryz.prog.cellsOf 3=1 from by kernel_rfl]at J;have⟨a2,L,k2,q⟩:=Reads.rd (P:=Tryz.prog) (t:=3) (α:=Int) (d:=x2.1) (ps:=x2.2) X;rw[show Tryz.prog.cellsOf 3=1 from by kernel_rfl]at L;have⟨a3,O,k3,r⟩:=Reads.rd (P:=Tryz.prog) (t:=3) (α:=Int) (d:=G.1) (ps:=G.2) Z;rw[show Tryz.prog.cellsOf 3=1 from by kernel_rfl]at O;have⟨a4,Q,k4,s⟩:=Reads.rd (P:=Tryz.prog) (t:=9) (α:=U') (d:=x4.1) (ps:=x4.2) j;rw[show Tryz.prog.cellsOf 9=1 from by kernel_rfl]at Q;have⟨a5,z,k5,v⟩:=s9.slF (t:=26) (e:=28) (α:=Pred) Tryz.underlying26 Zaf (by decide) (λg E=>S g Zaa) (show _=some (x5.1,x5.2)from k);rw[show Tryz.prog.cellsOf 26=1 from by kernel_rfl]at z;rw[wA rfl,<-Pred.mC]at z;refine⟨⟨a0,a1,a2,a3,a4,a5⟩,fR.fin (n:=6) (fR.seg (o:=5) (n:=1) (fR.seg (o:=4) (n:=1) (fR.seg (o:=3) (n:=1) (fR.seg (o:=2) (n:=1) (fR.seg (o:=1) (n:=1) (fR.seg (o:=0) (n:=1) (show fR (snap w) [] (cs.take 0)from by simpa using fR.nil) I) J) L) O) Q) z) T,⟨k0,k1,k2,k3,k4,Pred.okE _ k5,trivial⟩,λb u=>?_⟩;have F:=m b u;have K:=p b u;have M:=q b u;have N:=r b u;have R:=s b u;have V:=v b u;show cA.wt a0+cA.wt a1+cA.wt a2+cA.wt a3+cA.wt a4+Pred.UG a5+1<=_;rw[Pred.wtE];simp only[map_cons,map_nil,sum_cons,sum_nil];omega
instance ab5:Reads Tryz.prog 28 Pred:=Reads.of Tryz.underlying28 Zaf rfl X4
end Go.VE.YtfjedefhlilglaaGreatDoor
namespace Go.VE
end Go.VE
namespace Go.VE
abbrev Kl{α:Type}(m:a_ α):Prop:=Wp m λ_=>True
theorem Kl.get{α:Type}{m:a_ α}(h:Kl m):∃a,m=some a:=let⟨a,e,_⟩:=h;⟨a,e⟩
theorem Kl.ok{m:a_ X'}(h:Kl m):m=some (m.getD false):=by have⟨a,e,_⟩:=h;rw[e];rfl
def Small(t:Z4):Prop:=t.procs.l.length<1073741824/\∀p∈t.procs.l,p.events.l.length<1073741824/\p.vars.l.length<1073741824/\p.name.size<1073741824/\(∀v∈p.vars.l,v.name.size<1073741824)/\∀e∈p.events.l,e.assign.l.length<1073741824
section
theorem OY{s:Sl WF}{p:WF->a_ X'}{f:WF->X'}(hp:∀x∈s.l,p x=some (f x))(B:s.l.length<1073741824):gB s p=some (place f s.l):=vR hp Zaa (λi=>rfl)
theorem P4{s:Sl bX}{p:bX->a_ X'}{f:bX->X'}(hp:∀x∈s.l,p x=some (f x))(B:s.l.length<1073741824):gT s p=some (place f s.l):=vR hp Zaa (λi=>rfl)
theorem Dv{s:Sl Var}{p:Var->a_ X'}{f:Var->X'}(hp:∀x∈s.l,p x=some (f x))(B:s.l.length<1073741824):fL s p=some (place f s.l):=vR hp Zaa (λi=>rfl)
theorem L0{s:Sl Assign}{p:Assign->a_ X'}{f:Assign->X'}(hp:∀x∈s.l,p x=some (f x))(B:s.l.length<1073741824):gj s p=some (place f s.l):=vR hp Zaa (λi=>rfl)
theorem qg{s:Sl WF}{p:WF->a_ X'}{f:WF->X'}(hp:∀x∈s.l,p x=some (f x))(B:s.l.length<1073741824):gE s p=some (s.l.any f):=by unfold gE;rw[OY hp B,ζb,wv]
theorem KM{s:Sl bX}{p:bX->a_ X'}{f:bX->X'}(hp:∀x∈s.l,p x=some (f x))(B:s.l.length<1073741824):iZ s p=some (s.l.any f):=by unfold iZ;rw[P4 hp B,ζb,wv]
theorem Dk{s:Sl Var}{p:Var->a_ X'}{f:Var->X'}(hp:∀x∈s.l,p x=some (f x))(B:s.l.length<1073741824):hU s p=some (s.l.any f):=by unfold hU;rw[Dv hp B,ζb,wv]
theorem Gr{s:Sl Assign}{p:Assign->a_ X'}{f:Assign->X'}(hp:∀x∈s.l,p x=some (f x))(B:s.l.length<1073741824):iC s p=some (s.l.any f):=by unfold iC;rw[L0 hp B,ζb,wv]
theorem qm(x lo hi:Int):oF x lo hi=some (decide (lo<=x)&&decide (x<=hi)):=by unfold oF;rw[nS];rfl
theorem O5{s:U'}{i:Nat}(h:i<s.size):∃x,lY s (i:Int)=some x:=by unfold lY;rw[if_pos Zaa];exact⟨_,by rw[show(s[(i:Int).toNat]?)=some s[i]from by simp[h]];rfl⟩
def lS(n:Nat)(p:Int)(e:WF):Prop:=e.kind=1\/((e.kind=2\/e.kind=3)/\0<=e.peer/\e.peer<n/\e.peer≠p/\0<=e.message/\e.message<=199)
end
def mF(t:Z4)(p k:Nat)(e:WF):Prop:=∃P,t.procs.l[p]?=some P/\P.events.l[k]?=some e
theorem vw{p:Int}{x:bf×WF}:∀{es:aZ WF}{j:Int},x∈ji p j es↔∃k:Nat,es[k]?=some x.2/\x.1=⟨p,j+k+1⟩
 |[],j=>by simp[ji]|e::es,j=>by simp[ji,vw];constructor;rintro(rfl|⟨k,a,B⟩);exact⟨0,rfl,Zab⟩;exact⟨k+1,Zac,Zac⟩;grind
theorem wG{x:bf×WF}:∀{ps:aZ bX}{i:Int},x∈gA i ps↔∃(a k:Nat)(P:bX),ps[a]?=some P/\P.events.l[k]?=some x.2/\x.1=⟨i+a,k+1⟩
 |[],i=>by simp[gA]|p::ps,i=>by simp only[gA,mem_append,vw,wG];constructor;rintro(⟨k,b,B⟩|⟨a,k,P,b,B,D⟩);exact⟨0,k,p,rfl,b,Zac⟩;exact⟨a+1,k,P,Zad,B,Zac⟩;grind
abbrev bR(t:Trace):aZ (bf×Event):=gA 0 t.procs.l
theorem dY{t:Z4}{x:bf×WF}:x∈bR t↔∃p k:Nat,mF t p k x.2/\x.1=⟨p,k+1⟩:=by rw[wG];constructor;rintro⟨a,k,P,b,u,w⟩;exact⟨a,k,⟨P,b,u⟩,Zac⟩;rintro⟨a,k,⟨P,b,u⟩,w⟩;grind
theorem AP{t:Z4}{x y:bf×WF}(B:x∈bR t)(D:y∈bR t)(h:x.1=y.1):x=y:=by have⟨p,k,⟨P,u,a⟩,e1⟩:=dY.1 B;have⟨q,j,⟨Q,w,z⟩,e2⟩:=dY.1 D;grind
theorem uv{t:Z4}(a:Small t):jG t=some (bR t):=by unfold jG;rw[if_pos];simp[pU];exact⟨by have:=a.1;omega,λp u=>by have:=(a.2 p u).1;omega⟩
def tY(t:Z4)(p m a:Int):X':=match t.procs.l[p.toNat]?with
 |some P=>P.events.l.any λe=>e.kind==2&&e.message==m&&e.peer==a|none=>false
theorem TR{t:Z4}(b:Small t){p:Int}(c:0<=p)(d:p<t.procs.l.length)(m a:Int):vB t p m a=some (tY t p m a):=by unfold vB;have u:p.toNat<t.procs.l.length:=Zaa;have w:=getElem_mem u;rw[TW c,ζd u,ζb,qg (f:=λe=>e.kind==2&&e.message==m&&e.peer==a) (λe _=>by unfold rG;simp[nS]) (b.2 _ w).1,ζb];unfold tY;grind
theorem Ag{t:Z4}{p:Nat}{m a:Int}:tY t p m a=true↔∃k e,mF t p k e/\e.kind=2/\e.message=m/\e.peer=a:=by unfold tY mF;rw[show(p:Int).toNat=p from rfl];cases w:t.procs.l[p]?with|none=>simp|some P=>simp;constructor;rintro⟨e,u,h⟩;have⟨k,b⟩:=List.getElem?_of_mem u;grind;grind
def ag(A:cq 200 bD)(m:Int):bD:=(A.at m).getD default
theorem OO(A:cq 200 bD){m:Int}(a:0<=m)(b:m<=199):A.at m=some (ag A m):=by
 have:m.toNat<A.l.length:=by rw[A.len];omega
 unfold ag cq.at;grind
theorem sC(A:cq 200 bD){m m':Int}(x:bD)(a:0<=m)(b:m<=199)(B:0<=m'):ag (A.set m x) m'=if m'=m then x else ag A m':=by
 have:m.toNat<A.l.length:=by rw[A.len];omega
 unfold ag cq.at cq.set;grind
theorem Pt{m:Int}(a:0<=m)(b:m<=199):ag (cq.PN 200 (⟨⟨0,0⟩,⟨0,0⟩⟩:bD)) m=⟨⟨0,0⟩,⟨0,0⟩⟩:=by unfold ag cq.at cq.PN;grind
structure fN(t:Trace)(its:List (bf×Event))(A:cq 200 bD):Prop where
 snd:∀x∈its,x.2.kind=2->(ag A x.2.message).from_=x.1
 rcv:∀x∈its,x.2.kind=3->(ag A x.2.message).to_=x.1/\tY t x.2.peer x.2.message x.1.proc=true
 fr:∀m,0<=m->m<=199->(ag A m).from_.index=0\/∃e,((ag A m).from_,e)∈its/\e.kind=2/\e.message=m
 to:∀m,0<=m->m<=199->(ag A m).to_.index=0\/∃e,((ag A m).to_,e)∈its/\e.kind=3/\e.message=m
def NW(a b:bf×WF):Prop:=a.1.proc<b.1.proc\/a.1.proc=b.1.proc/\a.1.index<b.1.index
theorem Rr{p:Int}:∀{es:aZ WF}{j:Int},(ji p j es).Pairwise NW
 |[],_=>Pairwise.nil|e::es,j=>by simp only[ji,pairwise_cons];refine⟨λb B=>?_,Rr⟩;have⟨k,_,D⟩:=vw.1 B;refine .inr ⟨by rw[D],?_⟩;grind
theorem Ko:∀{ps:aZ bX}{i:Int},(gA i ps).Pairwise NW
 |[],_=>Pairwise.nil|P::ps,i=>by simp only[gA,pairwise_append];refine⟨Rr,Ko,λa B b D=>.inl ?_⟩;have⟨k,_,G⟩:=vw.1 B;have⟨c,j,P,_,_,u⟩:=wG.1 D;grind
theorem KH{t:Z4}{k:Nat}{x y:bf×WF}(B:(bR t)[k]?=some x)(D:y∈(bR t).take k):y.1≠x.1:=by
 have⟨a,u⟩:=ζe.1 B;have w:((bR t).take k++(bR t).drop k).Pairwise NW:=by rw[take_append_drop];exact Ko
 have:=(pairwise_append.1 w).2.2 y D x (by rw[drop_eq_getElem_cons a,u];grind);unfold NW at this;grind
structure zQ(t:Trace):Prop where
 snd:∀x∈bR t,∀y∈bR t,x.2.kind=2->y.2.kind=2->x.2.message=y.2.message->x.1=y.1
 rcv:∀x∈bR t,∀y∈bR t,x.2.kind=3->y.2.kind=3->x.2.message=y.2.message->x.1=y.1
 has:∀x∈bR t,x.2.kind=3->tY t x.2.peer x.2.message x.1.proc=true
theorem fN.oM{t:Z4}{A:cq 200 bD}(h:fN t (bR t) A):zQ t:=⟨λx w y z k2 u B=>by rw[<-h.snd x w k2,<-h.snd y z u,B],λx w y z k2 u B=>by rw[<-(h.rcv x w k2).1,<-(h.rcv y z u).1,B],λx w k=>(h.rcv x w k).2⟩
theorem E4{t:Z4}(l:Small t)(i:∀x∈bR t,lS t.procs.l.length x.1.proc x.2):Wp (fm t) λr=>(r.2.2=0->∃A,r.1=some A/\fN t (bR t) A)/\(zQ t->r.2.2=0):=by
 unfold fm jS;rw[ζb];unfold fm.E1;rw[uv l,ζb];refine zX (λk A=>fN t ((bR t).take k) A) ⟨Zab,Zab,λm c b=>.inl (by rw[Pt c b]),λm c b=>.inl (by rw[Pt c b])⟩ ?_ ?_;intro k x A f B;have G:=mem_of_getElem? f;have S:(bR t).take (k+1)=(bR t).take k++[x]:=by rw[take_add_one,f];rfl
 have⟨p,j,F,H⟩:=dY.1 G;have n:=i x G;unfold fm.kr;rw[b9];constructor;intro d;have L:x.2.kind=2:=by grind
 have u:0<=x.2.message/\x.2.message<=199:=by rcases n with h|⟨_,_,_,_,h⟩;omega;simp_all
 rw[OO A u.1 u.2,ζb,b9];refine⟨λo=>(bg _).2 ((bg _).2 ⟨λh=>(by cases h),λX=>?_⟩),λc=>?_⟩;rcases B.fr _ u.1 u.2 with Y|⟨e,O,T,U⟩;grind;exact absurd (X.snd _ (mem_of_mem_take O) x G T L U) (KH f O);rw[ζb,bg,S];have W:∀y∈(bR t).take k,y.2.kind=2->y.2.message≠x.2.message:=λy a w O=>by have:=B.snd y a w;rw[O]at this;have⟨p',q,_,Q⟩:=dY.1 (mem_of_mem_take a);grind
 have Z:∀y∈(bR t).take k,y.2.kind=2\/y.2.kind=3->0<=y.2.message:=λy a w=>by rcases i y (mem_of_mem_take a)with h|⟨_,_,_,_,h,_⟩;omega;simp_all
 refine⟨λy a w=>?_,λy a z=>?_,λm C I=>?_,λm C I=>?_⟩;rcases mem_append.1 a with a|a;rw[sC A _ u.1 u.2 (Z y a (.inl w)),if_neg (W y a w)];exact B.snd y a w;simp at a;subst a;rw[sC A _ u.1 u.2 u.1,if_pos rfl];rcases mem_append.1 a with a|a;rw[sC A _ u.1 u.2 (Z y a (.inr z))];have:=B.rcv y a z;grind;grind;rw[sC A _ u.1 u.2 C];split;next e=>exact .inr ⟨x.2,Zab,L,e.symm⟩
 exact(B.fr m C I).imp (λh=>h) λ⟨e,b,D⟩=>⟨e,mem_append_left _ b,D⟩;rw[sC A _ u.1 u.2 C];have:=(B.to m C I).imp (λh=>h) λ⟨e,b,D⟩=>(⟨e,mem_append_left [x] b,D⟩:∃e,((ag A m).to_,e)∈(bR t).take k++[x]/\e.kind=3/\e.message=m);split;next e=>subst e;omega
 omega;intro d;have L:=by simpa using d
 rw[b9];constructor;intro d;have J:=by simpa using d
 have u:0<=x.2.message/\x.2.message<=199/\0<=x.2.peer/\x.2.peer<t.procs.l.length:=by rcases n with h|⟨_,b,D,_,v,E⟩;omega;exact⟨v,E,b,D⟩
 rw[OO A u.1 u.2.1,ζb,b9];refine⟨λo=>(bg _).2 ((bg _).2 ⟨λh=>(by cases h),λX=>?_⟩),λc=>?_⟩;rcases B.to _ u.1 u.2.1 with Y|⟨e,O,T,U⟩;simp[Y]at o;exact absurd (X.rcv _ (mem_of_mem_take O) x G T J U) (KH f O);have c:¬(ag A x.2.message).to_.index>0:=by simpa using c
 rw[TR l u.2.2.1 u.2.2.2,ζb,b9];refine⟨λg=>?_,λg=>(bg _).2 ((bg _).2 ⟨λh=>(by cases h),λX=>by rw[X.has x G J]at g;cases g⟩)⟩;rw[ζb,bg,S];have W:∀y∈(bR t).take k,y.2.kind=3->y.2.message≠x.2.message:=λy a w O=>by have:=(B.rcv y a w).1;rw[O]at this;rw[this]at c;have⟨p',q,_,Q⟩:=dY.1 (mem_of_mem_take a);rw[Q]at c;exact c (by show(q:Int)+1>0;omega)
 have Z:∀y∈(bR t).take k,y.2.kind=2\/y.2.kind=3->0<=y.2.message:=λy a w=>by rcases i y (mem_of_mem_take a)with h|⟨_,_,_,_,h,_⟩;omega;exact h
 refine⟨λy a w=>?_,λy a z=>?_,λm C I=>?_,λm C I=>?_⟩;rcases mem_append.1 a with a|a;rw[sC A _ u.1 u.2.1 (Z y a (.inl w))];have:=B.snd y a w;split;next e=>rw[e]at this;exact this
 exact this;simp at a;subst a;omega;rcases mem_append.1 a with a|a;rw[sC A _ u.1 u.2.1 (Z y a (.inr z)),if_neg (W y a z)];exact B.rcv y a z;simp at a;subst a;rw[sC A _ u.1 u.2.1 u.1,if_pos rfl];exact⟨rfl,g⟩;rw[sC A _ u.1 u.2.1 C];have:=(B.fr m C I).imp (λh=>h) λ⟨e,b,D⟩=>(⟨e,mem_append_left [x] b,D⟩:∃e,((ag A m).from_,e)∈(bR t).take k++[x]/\e.kind=2/\e.message=m);split;next e=>subst e;exact this
 exact this;rw[sC A _ u.1 u.2.1 C];split;next e=>exact .inr ⟨x.2,Zab,J,e.symm⟩
 exact(B.to m C I).imp (λh=>h) λ⟨e,b,D⟩=>⟨e,mem_append_left _ b,D⟩;intro d;have J:=by simpa using d
 rw[bg,S];refine⟨λy a w=>?_,λy a z=>?_,λm C I=>?_,λm C I=>?_⟩;rcases mem_append.1 a with a|a;exact B.snd y a w;simp at a;subst a;exact absurd w L;rcases mem_append.1 a with a|a;exact B.rcv y a z;simp at a;subst a;exact absurd z J;exact(B.fr m C I).imp (λh=>h) λ⟨e,b,D⟩=>⟨e,mem_append_left _ b,D⟩;exact(B.to m C I).imp (λh=>h) λ⟨e,b,D⟩=>⟨e,mem_append_left _ b,D⟩;intro A s;rw[take_length]at s;exact(bg _).2 ⟨λ_=>⟨A,rfl,s⟩,λ_=>rfl⟩
def js(f:Nat->X')(k n:Nat):X':=(range' k (n-k)).any f
theorem HF{f:Nat->X'}{k n:Nat}(h:k<n):js f k n=(f k||js f (k+1) n):=by unfold js;rw[show n-k=(n-(k+1))+1 from Zaa,List.range'_succ];rfl
theorem RX{f:Nat->X'}{k n:Nat}(h:n<=k):js f k n=false:=by unfold js;rw[show n-k=0 from Zaa];rfl
theorem SX{f:Nat->X'}{k n:Nat}:js f k n=true↔∃i,k<=i/\i<n/\f i=true:=by unfold js;rw[List.any_eq_true];constructor;rintro⟨i,hi,u⟩;rw[List.mem_range'_1]at hi;exact⟨i,hi.1,Zaa,u⟩;rintro⟨i,a,w,u⟩;exact⟨i,by rw[List.mem_range'_1];omega,u⟩
theorem Gm{step:Int->a_ (Fw Int Unit Unit)}{n:Nat}(f:Nat->X')(D:n<9223372036854775807)(a:∀i:Nat,i<n->step i=some (if f i then .r ()else .n (wrap .i64 ((i:Int)+1))))(B:step (n:Int)=some (.x ())):
 ∀m k:Nat,k+m=n->bS step (k:Int)=some (if js f k n then .r ()else .x ()):=by
 intro m
 induction m with
 |zero=>
  intro k b;have:k=n:=Zaa
  subst this;rw[eD,B,RX (le_refl _)];rfl
 |succ m u=>
  intro k b;rw[eD,a k Zaa,HF Zaa]
  cases w:f k with
  |true=>rfl|false=>
   simp only[false_eq_true,if_false,ζb,Bool.false_or];rw[cM k Zaa]
   exact u (k+1) Zaa
def oD(g:Nat->Int)(k n:Nat):Int:=match(range' k (n-k)).find? λi=> !(g i==0)with
 |some i=>g i|none=>0
theorem HX{g:Nat->Int}{k n:Nat}(h:k<n):oD g k n=if g k=0 then oD g (k+1) n else g k:=by unfold oD;rw[show n-k=(n-(k+1))+1 from Zaa,List.range'_succ,List.find?_cons];by_cases a:g k=0;simp[a];rw[if_neg a,show(!(g k==0))=true from by simp[a]]
theorem KA{g:Nat->Int}{k n:Nat}(h:n<=k):oD g k n=0:=by unfold oD;rw[show n-k=0 from Zaa];rfl
theorem Rg{g:Nat->Int}{n:Nat}:∀{m k:Nat},k+m=n->(oD g k n=0↔∀i,k<=i->i<n->g i=0):=by intro m;induction m with|zero=>intro k c;rw[KA Zaa];exact⟨λ_ i b u=>Zaa,λ_=>rfl⟩|succ m w=>intro k c;rw[HX Zaa];split;rename_i a;rw[w (show k+1+m=n by omega)];constructor;intro h i b u;by_cases e:i=k;subst e;exact a;exact h i Zaa u;intro h i b u;exact h i Zaa u;rename_i a;exact⟨λh=>absurd h a,λh=>absurd (h k (le_refl _) Zaa) a⟩
theorem Xo{step:Int->a_ (Fw Int Unit Int)}{n:Nat}(g:Nat->Int)(D:n<9223372036854775807)(b:∀i:Nat,i<n->step i=some (if g i=0 then .n (wrap .i64 ((i:Int)+1))else .r (g i)))(B:step (n:Int)=some (.x ())):
 ∀m k:Nat,k+m=n->bS step (k:Int)=some (if oD g k n=0 then .x ()else .r (oD g k n)):=by
 intro m
 induction m with
 |zero=>
  intro k c;have:k=n:=Zaa
  subst this;rw[eD,B,KA (le_refl _)];rfl
 |succ m u=>
  intro k c;rw[eD,b k Zaa,HX Zaa]
  by_cases a:g k=0
  .simp only[a,if_true,ζb];rw[cM k Zaa]
   exact u (k+1) Zaa
  simp only[a,if_false,ζb]
theorem Aw{step:Int->a_ (Fw Int Unit Int)}{n:Nat}(g:Nat->Int)(B:n<9223372036854775807)(a:∀i:Nat,i<n->step i=some (if g i=0 then .n (wrap .i64 ((i:Int)+1))else .r (g i)))(D:step (n:Int)=some (.x ())):bS step 0=some (if oD g 0 n=0 then .x ()else .r (oD g 0 n)):=Xo g B a D n 0 Zaa
theorem Dy{step:Int->a_ (Fw Int Unit Unit)}{n:Nat}(f:Nat->X')(B:n<9223372036854775807)(a:∀i:Nat,i<n->step i=some (if f i then .r ()else .n (wrap .i64 ((i:Int)+1))))(D:step (n:Int)=some (.x ())):bS step 0=some (if js f 0 n then .r ()else .x ()):=Gm f B a D n 0 Zaa
def zh(c:Int):X':=decide (c>=65)&&decide (c<=90)||decide (c>=97)&&decide (c<=122)
def Ea(c:Int):X':=decide (c>=48)&&decide (c<=57)
theorem Ey(c:Int):q_ c=some (zh c):=by unfold q_ zh;simp only[nS,mG,ζb];rw[Bool.or_comm]
theorem Eu(c:Int):qc c=some (zh c):=by unfold qc zh;simp only[nS,mG,ζb]
theorem Q6(c:Int):vO c=some (Ea c):=by unfold vO Ea;simp only[nS,ζb]
theorem QT(c:Int):uz c=some (Ea c):=by unfold uz Ea;simp only[nS,ζb]
def yG(s:U')(i:Nat):Int:=(lY s (i:Int)).getD 0
theorem EX{s:U'}{i:Nat}(h:i<s.size):lY s (i:Int)=some (yG s i):=by have⟨x,u⟩:=O5 h;unfold yG;rw[u];rfl
def uy(s:U')(i:Nat):X':= !zh (yG s i)&& !Ea (yG s i)&& !(yG s i==95)
def mK(s:U'):X':=decide (1<=s.size)&&decide (s.size<=16)&&zh (yG s 0)&& !js (uy s) 0 s.size
theorem NJ{s:U'}{i:Nat}(h:i<s.size):gO.br s (s.size:Int) i=some (if uy s i then .r ()else .n (wrap .i64 ((i:Int)+1))):=by unfold gO.br uy;rw[show decide ((i:Int)<(s.size:Int))=true from by simpa using h,bH,EX h];simp only[ζb,Ey,Q6];cases zh (yG s i)<;>cases Ea (yG s i)<;>cases(yG s i==95)<;>rfl
theorem Nk{s:U'}{i:Nat}(h:i<s.size):iF.br s i=some (if uy s i then .r ()else .n (wrap .i64 ((i:Int)+1))):=by unfold iF.br uy;rw[show decide ((i:Int)<((ByteArray.size s:Nat):Int))=true from by simpa using h,bH,EX h];simp only[ζb,Eu,QT];cases zh (yG s i)<;>cases Ea (yG s i)<;>cases(yG s i==95)<;>rfl
theorem toList_empty{s:U'}:(toList s==toList ByteArray.empty)=decide (s.size=0):=by
 rw[Bool.eq_iff_iff,beq_iff_eq,decide_eq_true_eq];constructor;intro h;have a:(toList s).length=s.size:=by rw[Go.ByteArray.toList_eq];simp
 rw[<-a,h];rw[Go.ByteArray.toList_eq];rfl;intro h;have:s=ByteArray.empty:=by apply ByteArray.ext;exact Array.eq_empty_of_size_eq_zero h
 rw[this]
theorem G4{s:U'}(B:s.size<1073741824):gO s=some (mK s):=by
 unfold gO;rw[toList_empty];simp only[mG,ζb];by_cases b:s.size=0;simp[b,mK,bl];by_cases u:s.size<=16;have a:(decide (s.size=0)||decide (((ByteArray.size s:Nat):Int)>16))=false:=by simp[b];omega
 rw[a,bE,show(0:Int)=((0:Nat):Int)from rfl,EX (show 0<s.size by omega)];simp only[ζb,Ey];cases w:zh (yG s 0)with|false=>simp[mK,w,bl]|true=>simp only[Bool.not_true,bE];unfold gO.W1;rw[Gm (n:=s.size) (uy s) Zaa (λi hi=>NJ hi) (by unfold gO.br;simp[bl]) s.size 0 Zaa];have:mK s= !js (uy s) 0 s.size:=(by simp[mK,w,u];omega);rw[this];cases js (uy s) 0 s.size<;>rfl
 have a:(decide (s.size=0)||decide (((ByteArray.size s:Nat):Int)>16))=true:=by simp;omega
 rw[a,bH];simp[mK,u,bl]
theorem I9{s:U'}(B:s.size<1073741824):iF s=some (mK s):=by
 unfold iF;simp only[mG,ζb];by_cases c:s.size=0;simp[c,mK,bl];by_cases u:s.size<=16;have a:(decide (((ByteArray.size s:Nat):Int)<1)||decide (((ByteArray.size s:Nat):Int)>16))=false:=by simp;omega
 rw[a,bE,show(0:Int)=((0:Nat):Int)from rfl,EX (show 0<s.size by omega)];simp only[ζb,Eu];cases w:zh (yG s 0)with|false=>simp[mK,w,bl]|true=>simp only[Bool.not_true,bE];unfold iF.W1;rw[show(1:Int)=((1:Nat):Int)from rfl,Gm (n:=s.size) (uy s) Zaa (λi hi=>Nk hi) (by unfold iF.br;simp[bl]) (s.size-1) 1 Zaa];have z:uy s 0=false:=(by simp[uy,w]);have:mK s= !js (uy s) 1 s.size:=(by have b:=HF (f:=uy s) (show 0<s.size by omega);rw[z]at b;simp[mK,w,u,b];omega);rw[this];cases js (uy s) 1 s.size<;>rfl
 have a:(decide (((ByteArray.size s:Nat):Int)<1)||decide (((ByteArray.size s:Nat):Int)>16))=true:=by simp;omega
 rw[a,bH];simp[mK,u,bl]
def fO{α:Type}(l:aZ α)(f:α->X')(i:Nat):X':=match l[i]?with|some y=>f y|none=>false
theorem BG{α:Type}{l:aZ α}{f:α->X'}{i:Nat}(h:i<l.length):fO l f i=f l[i]:=by unfold fO;rw[ζd h]
theorem DZ{α:Type}{l:aZ α}{f:α->X'}{p:Nat}:(l.take p).any f=js (fO l f) 0 p:=by
 rw[Bool.eq_iff_iff,List.any_eq_true,SX];constructor;rintro⟨x,w,u⟩;have⟨i,hi⟩:=List.getElem?_of_mem w;have z:=(ζe.1 hi).1;rw[length_take]at z;rw[getElem?_take,if_pos Zaa]at hi;exact⟨i,zero_le _,Zaa,by unfold fO;rw[hi];exact u⟩;rintro⟨i,_,hi,u⟩;unfold fO at u;split at u;next y B=>exact⟨y,mem_of_getElem? (i:=i) (by rw[getElem?_take,if_pos hi];exact B),u⟩
 cases u
def ta(a b:U'):X':=toList a==toList b
def Zo:X'->X'->X'->Int
 |true,false,true=>0|true,false,false=>2|_,_,_=>13
def wo(P:bX)(i:Nat):Int:=match P.vars.l[i]?with
 |some v=>Zo (mK v.name) (js (fO P.vars.l λw=>ta w.name v.name) 0 i) (decide (v.init_>=-1073741824)&&decide (v.init_<=1073741824))|none=>0
def rH(t:Z4)(p:Nat):Int:=match t.procs.l[p]?with
 |some P=>if mK P.name&& !js (fO t.procs.l λy=>ta y.name P.name) 0 p then
  (if P.vars.l.length>8 then 5 else if oD (wo P) 0 P.vars.l.length=0 then(if P.events.l.length>64 then 5 else 0)else oD (wo P) 0 P.vars.l.length)else 13
 |none=>0
theorem G0{P:bX}{i:Nat}(h:i<P.vars.l.length):wo P i=Zo (mK P.vars.l[i].name) (js (fO P.vars.l λw=>ta w.name P.vars.l[i].name) 0 i) (decide (P.vars.l[i].init_>=-1073741824)&&decide (P.vars.l[i].init_<=1073741824)):=by unfold wo;rw[ζd h]
theorem HH(n:Int):ri n=some (decide (n>=-1073741824)&&decide (n<=1073741824)):=by unfold ri;rw[nS];rfl
theorem SK{t:Z4}(a:Small t){p:Nat}(hp:p<t.procs.l.length):fh t p=some (rH t p):=by
 have U:=a.2 _ (getElem_mem hp);have d:=a.1;unfold fh rH;rw[bJ hp,ζb,ζd hp];generalize W:t.procs.l[p]=P at *;have⟨S,X,O,u,_⟩:=U;rw[G4 O,ζb];have⟨x,Y,D⟩:=qW t.procs p Zaa;have G:iZ x (λz=>ko z P)=some (js (fO t.procs.l λy=>ta y.name P.name) 0 p):=by rw[KM (p:=λz=>ko z P) (f:=λy=>ta y.name P.name) (λy _=>rfl) (by rw[D,length_take];omega),D,DZ]
 rw[Y,ζb,G,ζb];dsimp only;cases e:mK P.name with|false=>simp[bl]|true=>rw[bH,ζb,Bool.true_and];cases hd:js (fO t.procs.l λy=>ta y.name P.name) 0 p with|true=>simp[bl]|false=>rw[bE];simp only[Bool.not_false,if_true];by_cases T:P.vars.l.length>8;rw[show decide (len P.vars>8)=true from by simp[len];omega,bH,if_pos T];rw[show decide (len P.vars>8)=false from by simp[len];omega,bE,if_neg T];unfold fh.W1;rw[Aw (n:=P.vars.l.length) (wo P) Zaa (λi hi=>?_) (by unfold fh.br;simp[bl,len])];by_cases L:oD (wo P) 0 P.vars.l.length=0;rw[if_pos L,if_pos L];show bl (decide (len P.events>64)) (some 5) (some 0)=_;rw[uS];simp only[len,decide_eq_true_eq];by_cases I:P.events.l.length>64;rw[if_pos I,if_pos Zaa];rw[if_neg I,if_neg Zaa];rw[if_neg L,if_neg L];rfl;unfold fh.br;rw[G0 hi,show decide ((i:Int)<len P.vars)=true from by simp[len];exact hi,bH,bJ hi,ζb];have b:=u _ (getElem_mem hi);have⟨y,Z,J⟩:=qW P.vars i Zaa;have Q:hU y (λz=>kj z P.vars.l[i])=some (js (fO P.vars.l λw=>ta w.name P.vars.l[i].name) 0 i):=(by rw[Dk (p:=λz=>kj z P.vars.l[i]) (f:=λw=>ta w.name P.vars.l[i].name) (λw _=>rfl) (by rw[J,length_take];omega),J,DZ]);rw[G4 b,ζb,Z,ζb,Q,ζb,qm];have c:(decide (-1073741824<=P.vars.l[i].init_)&&decide (P.vars.l[i].init_<=1073741824))=(decide (P.vars.l[i].init_>=-1073741824)&&decide (P.vars.l[i].init_<=1073741824)):=rfl;rw[c];generalize mK P.vars.l[i].name=A;generalize js (fO P.vars.l λw=>ta w.name P.vars.l[i].name) 0 i=B;generalize(decide (P.vars.l[i].init_>=-1073741824)&&decide (P.vars.l[i].init_<=1073741824))=C;cases A<;>cases B<;>cases C<;>rfl
theorem TY{t:Z4}(a:Small t){p:Nat}(hp:p<t.procs.l.length):eN t p=some (rH t p):=by have Q:=a.2 _ (getElem_mem hp);have b:=a.1;unfold eN rH;rw[bJ hp,ζb,ζd hp];generalize S:t.procs.l[p]=P at *;have⟨L,T,J,u,_⟩:=Q;rw[I9 J,ζb];dsimp only;cases X:mK P.name with|false=>simp[bl]|true=>rw[bH,Bool.true_and];unfold eN.W1;rw[Dy (n:=p) (fO t.procs.l λy=>ta y.name P.name) Zaa (λi hi=>?_) (by unfold eN.br;simp[bl])];(cases hd:js (fO t.procs.l λy=>ta y.name P.name) 0 p with|true=>rfl|false=>simp only[Bool.not_false,if_true];show bl (decide (len P.vars>8)) (some 5) (eN.W2 0 P)=_;by_cases O:P.vars.l.length>8;rw[show decide (len P.vars>8)=true from by simp[len];omega,bH,if_pos O];rw[show decide (len P.vars>8)=false from by simp[len];omega,bE,if_neg O];unfold eN.W2;rw[Aw (n:=P.vars.l.length) (wo P) Zaa (λi hi=>?_) (by unfold eN.bT;simp[bl,len])];by_cases I:oD (wo P) 0 P.vars.l.length=0;rw[if_pos I,if_pos I];show bl (decide (len P.events>64)) (some 5) (some 0)=_;rw[uS];simp only[len,decide_eq_true_eq];by_cases z:P.events.l.length>64;rw[if_pos z,if_pos Zaa];rw[if_neg z,if_neg Zaa];rw[if_neg I,if_neg I];rfl;unfold eN.bT;rw[G0 hi,show decide ((i:Int)<len P.vars)=true from by simp[len];exact hi,bH,bJ hi,ζb];(rw[I9 (u _ (getElem_mem hi)),ζb];have U:eN.W3 i 0 P=if js (fO P.vars.l λw=>ta w.name P.vars.l[i].name) 0 i then some (.r 13)else(if decide (P.vars.l[i].init_>=-1073741824)&&decide (P.vars.l[i].init_<=1073741824)then some (.n (wrap .i64 ((i:Int)+1)))else some (.r 2)):=by unfold eN.W3;rw[Dy (n:=i) (fO P.vars.l λw=>ta w.name P.vars.l[i].name) Zaa (λj W=>?_) (by unfold eN.fe;simp[bl])];(cases js (fO P.vars.l λw=>ta w.name P.vars.l[i].name) 0 i with|true=>rfl|false=>show(idx P.vars (i:Int)).bind _=_;rw[bJ hi,ζb,HH,ζb];cases(decide (P.vars.l[i].init_>=-1073741824)&&decide (P.vars.l[i].init_<=1073741824))<;>rfl);unfold eN.fe;have D:j<P.vars.l.length:=Zaa;rw[show decide ((j:Int)<(i:Int))=true from by simpa using W,bH,bJ D,ζb,bJ hi,ζb,BG D,uS];rfl);rw[U];generalize mK P.vars.l[i].name=A;generalize js (fO P.vars.l λw=>ta w.name P.vars.l[i].name) 0 i=B;generalize(decide (P.vars.l[i].init_>=-1073741824)&&decide (P.vars.l[i].init_<=1073741824))=C;cases A<;>cases B<;>cases C<;>rfl);unfold eN.br;have G:i<t.procs.l.length:=Zaa;rw[show decide ((i:Int)<(p:Int))=true from by simpa using hi,bH,bJ G,ζb,BG G,uS];rfl
def Jb(n:Nat)(p:Int)(e:WF):X':=if e.kind==1 then e.peer==0&&e.message==0 else(e.kind==2||e.kind==3)&&(decide (0<=e.peer)&&decide (e.peer<n))&& !(e.peer==p)&&(decide (0<=e.message)&&decide (e.message<=199))
theorem QC{t:Z4}(a:Small t)(p:Int)(e:WF):iY t p e=some (Jb t.procs.l.length p e):=by
 have c:=a.1;have w:wrap .i64 (len t.procs-1)=len t.procs-1:=eB _ (by simp[len];omega) (by simp[len];omega);have u:∀b:X',iY.J1 p b t e=some (b&&(decide (0<=e.peer)&&decide (e.peer<t.procs.l.length))&& !(e.peer==p)&&(decide (0<=e.message)&&decide (e.message<=199))):=by intro b;unfold iY.J1;simp only[qm,w,ζb];have:decide (e.peer<=len t.procs-1)=decide (e.peer<t.procs.l.length):=(by congr 1;apply propext;simp[len];omega);rw[this];generalize(decide (0<=e.peer)&&decide (e.peer<(t.procs.l.length:Int)))=A;generalize(e.peer==p)=B;generalize(decide (0<=e.message)&&decide (e.message<=199))=C;cases b<;>cases A<;>cases B<;>cases C<;>rfl
 unfold iY Jb;rw[u,u];cases c:e.kind==1 with|true=>rw[bH];cases e.peer==0<;>cases e.message==0<;>rfl|false=>rw[bE];simp only[false_eq_true,if_false];cases z:e.kind==2<;>simp[bl]
def Ej(P:bX)(k:Nat)(e:WF):X':=match k with|0=>false|j+1=>fO P.events.l (λx=>decide (e.time<x.time)) j
def vA(P:bX)(k:Nat)(e:WF):X':=decide (e.time<0)||decide (e.time>1099511627776)||Ej P k e
def RY:X'->X'->X'->Int
 |true,true,false=>0|true,true,true=>8|_,_,_=>2
def pJ(P:bX)(e:WF)(i:Nat):Int:=match e.assign.l[i]?with
 |some a=>RY (decide (0<=a.var)&&decide (a.var<P.vars.l.length)) (decide (a.value>=-1073741824)&&decide (a.value<=1073741824)) (js (fO e.assign.l λb=>b.var==a.var) 0 i)|none=>0
theorem Ib{P:bX}{e:WF}{i:Nat}(h:i<e.assign.l.length):pJ P e i=RY (decide (0<=e.assign.l[i].var)&&decide (e.assign.l[i].var<P.vars.l.length)) (decide (e.assign.l[i].value>=-1073741824)&&decide (e.assign.l[i].value<=1073741824)) (js (fO e.assign.l λb=>b.var==e.assign.l[i].var) 0 i):=by unfold pJ;rw[ζd h]
def pV(n:Nat)(P:bX)(p k:Nat)(e:WF):Int:=if Jb n p e then(if vA P k e then 11 else if e.assign.l.length>8 then 5 else oD (pJ P e) 0 e.assign.l.length)else 3
theorem No{P:bX}{e:WF}(c:P.vars.l.length<1073741824)(U:e.assign.l.length<1073741824):dV.W2 e.assign (len e.assign) 0 e P=some (oD (pJ P e) 0 e.assign.l.length):=by
 have I:wrap .i64 (len P.vars-1)=len P.vars-1:=eB _ (by simp[len];omega) (by simp[len];omega);unfold dV.W2;rw[Aw (n:=e.assign.l.length) (pJ P e) Zaa (λi hi=>?_) (by unfold dV.bT;simp[bl,len])];by_cases D:oD (pJ P e) 0 e.assign.l.length=0;rw[if_pos D,D];rfl;rw[if_neg D];rfl;unfold dV.bT;have⟨y,J,u⟩:=qW e.assign i Zaa;have G:iC y (λz=>lu z e.assign.l[i])=some (js (fO e.assign.l λb=>b.var==e.assign.l[i].var) 0 i):=by rw[Gr (p:=λz=>lu z e.assign.l[i]) (f:=λb=>b.var==e.assign.l[i].var) (λw _=>rfl) (by rw[u,length_take];omega),u,DZ]
 rw[Ib hi,show decide ((i:Int)<len e.assign)=true from by simp[len];exact hi,bH,bJ hi,ζb,qm,qm,I,J,ζb,ζb,ζb,G,ζb];have a:(decide (0<=e.assign.l[i].var)&&decide (e.assign.l[i].var<=len P.vars-1))=(decide (0<=e.assign.l[i].var)&&decide (e.assign.l[i].var<P.vars.l.length)):=by congr 2;apply propext;simp[len];omega
 have L:(decide (-1073741824<=e.assign.l[i].value)&&decide (e.assign.l[i].value<=1073741824))=(decide (e.assign.l[i].value>=-1073741824)&&decide (e.assign.l[i].value<=1073741824)):=rfl;rw[a,L];generalize(decide (0<=e.assign.l[i].var)&&decide (e.assign.l[i].var<(P.vars.l.length:Int)))=A;generalize(decide (e.assign.l[i].value>=-1073741824)&&decide (e.assign.l[i].value<=1073741824))=B;generalize js (fO e.assign.l λb=>b.var==e.assign.l[i].var) 0 i=C;cases A<;>cases B<;>cases C<;>rfl
theorem PS{t:Z4}(a:Small t){p k:Nat}{P:bX}{e:WF}(D:t.procs.l[p]?=some P)(U:P.events.l[k]?=some e):dV t ⟨p,k+1⟩ e=some (pV t.procs.l.length P p k e):=by
 have⟨L,w⟩:=ζe.1 D;have⟨b,z⟩:=ζe.1 U;have⟨G,B,_,_,C⟩:=a.2 P (w▸getElem_mem L);have O:=C e (z▸getElem_mem b);have I:∀last:Int,((decide (0<=e.time)&&decide (e.time<=1099511627776))&& !decide (e.time<last))=(!vA P k e)->
  dV.J1 last t ⟨p,k+1⟩ e P=some (pV t.procs.l.length P p k e):=by
  intro last Q;unfold dV.J1 pV;rw[QC a,ζb,qm,ζb,No B O];dsimp only
  cases Jb t.procs.l.length p e with
  |false=>rfl|true=>
   rw[bH,if_pos rfl];have:(bl (decide (0<=e.time)&&decide (e.time<=1099511627776)) (some (decide (e.time<last))) (some true):a_ X')=some (vA P k e):=by
    have S:(!((decide (0<=e.time)&&decide (e.time<=1099511627776))&& !decide (e.time<last)))=vA P k e:=by rw[Q,Bool.not_not]
    rw[<-S];cases(decide (0<=e.time)&&decide (e.time<=1099511627776))<;>cases decide (e.time<last)<;>rfl
   rw[this,ζb]
   cases vA P k e with
   |true=>rfl|false=>
    rw[bE];simp only[false_eq_true,if_false]
    by_cases J:e.assign.l.length>8
    .rw[show decide (len e.assign>8)=true from by simp[len];omega,bH,if_pos J]
    rw[show decide (len e.assign>8)=false from by simp[len];omega,bE,if_neg J]
 unfold dV;dsimp only;rw[show idx t.procs (p:Int)=some P from by rw[jd];exact D,ζb];cases k with|zero=>rw[show decide (((0:Nat):Int)+1>1)=false from by decide,bE];refine I 0 ?_;simp only[vA,Ej,Bool.or_false];rw[Bool.eq_iff_iff];simp only[ζh,not_eq_true',decide_eq_true_eq,decide_eq_false_iff_not,or_eq_false_iff];omega|succ j=>rw[show decide ((((j+1:Nat)):Int)+1>1)=true from by simp;omega,bH];have u:j<P.events.l.length:=Zaa;have T:wrap .i64 ((((j+1:Nat)):Int)+1-2)=((j:Nat):Int):=(by rw[eB _ Zaa Zaa];omega);rw[T,bJ u,ζb];refine I _ ?_;simp only[vA,Ej,BG u];rw[Bool.eq_iff_iff];simp only[ζh,not_eq_true',decide_eq_true_eq,decide_eq_false_iff_not,or_eq_false_iff];omega
theorem NA{t:Z4}{p:Nat}{P:bX}{e:WF}(D:t.procs.l[p]?=some P)(J:e.assign.l.length<1073741824):eM.W2 p 0 t e=some (oD (pJ P e) 0 e.assign.l.length):=by
 unfold eM.W2;rw[Aw (n:=e.assign.l.length) (pJ P e) Zaa (λi hi=>?_) (by unfold eM.bT;simp[bl,len])];by_cases w:oD (pJ P e) 0 e.assign.l.length=0;rw[if_pos w,w];rfl;rw[if_neg w];rfl;unfold eM.bT;have z:eM.W3 p i 0 t e e.assign.l[i]=if js (fO e.assign.l λb=>b.var==e.assign.l[i].var) 0 i then some (.r 8)else some (.n (wrap .i64 ((i:Int)+1))):=by unfold eM.W3;rw[Dy (n:=i) (fO e.assign.l λb=>b.var==e.assign.l[i].var) Zaa (λj G=>?_) (by unfold eM.fe;simp[bl])];cases js (fO e.assign.l λb=>b.var==e.assign.l[i].var) 0 i<;>rfl;unfold eM.fe;have u:j<e.assign.l.length:=Zaa;rw[show decide ((j:Int)<(i:Int))=true from by simpa using G,bH,bJ u,ζb,BG u,uS]
 rw[Ib hi,show decide ((i:Int)<len e.assign)=true from by simp[len];exact hi,bH,bJ hi,ζb,z,HH,ζb,show idx t.procs (p:Int)=some P from by rw[jd];exact D,ζb];have a:(bl (decide (e.assign.l[i].var<0)) (some true) (some (decide (e.assign.l[i].var>=len P.vars))):a_ X')=some (!(decide (0<=e.assign.l[i].var)&&decide (e.assign.l[i].var<P.vars.l.length))):=by rw[mG];congr 1;rw[Bool.eq_iff_iff];simp only[or_eq_true,not_eq_true',decide_eq_true_eq,Bool.and_eq_false_iff,decide_eq_false_iff_not,len];omega
 rw[a,ζb];generalize(decide (0<=e.assign.l[i].var)&&decide (e.assign.l[i].var<(P.vars.l.length:Int)))=A;generalize(decide (e.assign.l[i].value>=-1073741824)&&decide (e.assign.l[i].value<=1073741824))=B;generalize js (fO e.assign.l λb=>b.var==e.assign.l[i].var) 0 i=C;cases A<;>cases B<;>cases C<;>rfl
theorem T6{t:Z4}(b:Small t){p k:Nat}{P:bX}{e:WF}(J:t.procs.l[p]?=some P)(U:P.events.l[k]?=some e):eM t p k=some (pV t.procs.l.length P p k e):=by
 have⟨S,w⟩:=ζe.1 J;have⟨c,z⟩:=ζe.1 U;have⟨O,T,_,_,I⟩:=b.2 P (w▸getElem_mem S);have W:=I e (z▸getElem_mem c);have X:eM.J1 p k t e=some (if vA P k e then 11 else if e.assign.l.length>8 then 5 else oD (pJ P e) 0 e.assign.l.length):=by unfold eM.J1;rw[mG,ζb,NA J W,show idx t.procs (p:Int)=some P from by rw[jd];exact J,ζb];have a:(bl (decide ((k:Int)>0)) ((idx P.events (wrap .i64 ((k:Int)-1))).bind λL=>some (decide (e.time<L.time))) (some false):a_ X')=some (Ej P k e):=(by cases k with|zero=>rfl|succ j=>have u:j<P.events.l.length:=Zaa;rw[show decide ((((j+1:Nat)):Int)>0)=true from by simp only[decide_eq_true_eq];omega,bH,show wrap .i64 ((((j+1:Nat)):Int)-1)=((j:Nat):Int)from by rw[eB _ Zaa Zaa];omega,bJ u,ζb];simp only[Ej,BG u]);rw[a,ζb,mG,ζb];show bl (vA P k e) _ _=_;cases vA P k e with|true=>rfl|false=>rw[bE];simp only[false_eq_true,if_false];by_cases Q:e.assign.l.length>8;rw[show decide (len e.assign>8)=true from by simp[len];omega,bH,if_pos Q];rw[show decide (len e.assign>8)=false from by simp[len];omega,bE,if_neg Q]
 unfold eM pV;rw[show idx t.procs (p:Int)=some P from by rw[jd];exact J,ζb,show idx P.events (k:Int)=some e from by rw[jd];exact U,ζb,X];unfold Jb;cases a:e.kind==1 with|true=>rw[bH];simp only[if_true];cases e.peer==0<;>cases e.message==0<;>rfl|false=>rw[bE];simp only[false_eq_true,if_false];have Y:(bl (e.kind==2) (some false) (some (!(e.kind==3))):a_ X')=some (!(e.kind==2||e.kind==3)):=(by cases e.kind==2<;>rfl);rw[Y,ζb,mG,ζb,mG,ζb,mG,ζb,mG,ζb,mG,ζb];have d:(((((!(e.kind==2||e.kind==3))||decide (e.peer<0))||decide (e.peer>=len t.procs))||(e.peer==p))||decide (e.message<0)||decide (e.message>199))= !((e.kind==2||e.kind==3)&&(decide (0<=e.peer)&&decide (e.peer<t.procs.l.length))&& !(e.peer==p)&&(decide (0<=e.message)&&decide (e.message<=199))):=(by generalize(e.kind==2||e.kind==3)=A;have a1:decide (e.peer<0)= !decide (0<=e.peer):=(by rw[Bool.eq_iff_iff];simp);have a2:decide (e.peer>=len t.procs)= !decide (e.peer<t.procs.l.length):=(by rw[Bool.eq_iff_iff];simp[len]);have a3:decide (e.message<0)= !decide (0<=e.message):=(by rw[Bool.eq_iff_iff];simp);have a4:decide (e.message>199)= !decide (e.message<=199):=(by rw[Bool.eq_iff_iff];simp);rw[a1,a2,a3,a4];generalize decide (0<=e.peer)=B;generalize decide (e.peer<(t.procs.l.length:Int))=C;generalize(e.peer==(p:Int))=D;generalize decide (0<=e.message)=F;generalize decide (e.message<=199)=G;cases A<;>cases B<;>cases C<;>cases D<;>cases F<;>cases G<;>rfl);rw[d];generalize((e.kind==2||e.kind==3)&&(decide (0<=e.peer)&&decide (e.peer<(t.procs.l.length:Int)))&& !(e.peer==(p:Int))&&(decide (0<=e.message)&&decide (e.message<=199)))=Z;cases Z<;>rfl
theorem Ox{n:Nat}{p:Int}{e:WF}(h:Jb n p e=true):lS n p e:=by
 unfold Jb at h;split at h;next a=>left;simpa using a
 right;simp only[ζh,or_eq_true,beq_iff_eq,decide_eq_true_eq,not_eq_true',beq_eq_false_iff_ne,ne_eq]at h;have⟨⟨⟨a,u⟩,z⟩,w⟩:=h;exact⟨a,u.1,u.2,z,w.1,w.2⟩
theorem Jz{n:Nat}{P:bX}{p k:Nat}{e:WF}(h:pV n P p k e=0):lS n p e:=by
 unfold pV at h;split at h;next a=>exact Ox a
 cases h
theorem Ao{α:Type}[DecidableEq α]:∀{l r:aZ α},l.Nodup->(∀x∈l,x∈r)->l.length<=r.length
 |[],_,_,_=>zero_le _|x::l,r,D,G=>by have B:=List.nodup_cons.1 D;have:=Ao (r:=r.erase x) B.2 λy u=>(List.mem_erase_of_ne Zac).2 (G y (mem_cons_of_mem _ u));grind
section
variable{κ:Type}[DecidableEq κ]
theorem EK{ν:Type}{k:κ}:∀{m:Mo κ ν},k∉m.map (·.1)->jV k m=none
 |[],_=>rfl|(a,v)::r,h=>by simp only[map_cons,mem_cons,not_or]at h;unfold jV;rw[if_neg h.1];exact EK h.2
theorem GP{ν:Type}{k:κ}:∀{m:Mo κ ν},k∈m.map (·.1)->∃v,jV k m=some v/\(k,v)∈m
 |[],h=>Zad|(a,v)::r,h=>by unfold jV;by_cases e:k=a;grind;obtain⟨w,b,B⟩:=GP (by simpa[e]using h);grind
theorem s8{ν:Type}{k:κ}{v:ν}:∀{m:Mo κ ν},k∉m.map (·.1)->mP m k v=m++[(k,v)]
 |[],_=>rfl|(a,w)::r,h=>by simp only[map_cons,mem_cons,not_or]at h;show(if k=a then _ else _)=_;rw[if_neg h.1,s8 h.2];rfl
end
def Vd(t:Z4)(y:bf):Prop:=∃e,(y,e)∈bR t
theorem Vd.at_{t:Z4}{y:bf}(h:Vd t y):∃(p k:Nat)(e:WF),mF t p k e/\y=⟨p,k+1⟩/\(y,e)∈bR t:=by have⟨e,u⟩:=h;have⟨p,k,a,w⟩:=dY.1 u;grind
def Jr(t:Z4)(y z:bf):Prop:=∃e f,(y,e)∈bR t/\(z,f)∈bR t/\e.kind=2/\f.kind=3/\e.message=f.message
def Edge(t:Z4)(y z:bf):Prop:=Vd t y/\Vd t z/\(z=⟨y.proc,y.index+1⟩\/Jr t y z)
abbrev Way(t:Trace):bf->bf->Prop:=TransGen (Edge t)
def MZ(t:Z4):Prop:=∃x,Way t x x
theorem Way.l{t:Z4}{x y:bf}(h:Way t x y):Vd t x:=by induction h with|single h=>exact h.1|tail _ _ u=>omega
theorem Way.r{t:Z4}{x y:bf}(h:Way t x y):Vd t y:=by cases h with|single h=>exact h.2.1|tail _ h=>exact h.2.1
theorem SE{t:Z4}(g:Small t)(l:∀x∈bR t,lS t.procs.l.length x.1.proc x.2){A:cq 200 bD}(Y:fN t (bR t) A){y:bf}(J:Vd t y):
 Wp (jK t A y) λs=>s.l.length<=2/\∀z,z∈s.l↔Edge t y z:=by
 have⟨p,k,e,L,C,u⟩:=J.at_;have⟨P,O,d⟩:=L;have S:P∈t.procs.l:=mem_of_getElem? O;have a:=(g.2 P S).1;have X:k<P.events.l.length:=(ζe.1 d).1;have D:y.proc=p:=by rw[C]
 have T:y.index=k+1:=by rw[C]
 have j:∀s:Sl bf,s.l.length<=1->(∀z,z∈s.l↔Vd t z/\z=⟨y.proc,y.index+1⟩)->Wp (jK.J1 A s P.events y) λs=>s.l.length<=2/\∀z,z∈s.l↔Edge t y z:=by intro s n w;have no:¬(∃z,Jr t y z)->s.l.length<=2/\∀z,z∈s.l↔Edge t y z:=λZ=>⟨Zaa,λz=>(w z).trans ⟨λh=>⟨J,h.1,.inl h.2⟩,λh=>⟨h.2.1,h.2.2.elim id λh=>(Z ⟨z,h⟩).elim⟩⟩⟩;unfold jK.J1;have U:wrap .i64 (y.index-1)=((k:Nat):Int):=(by rw[T,eB _ Zaa Zaa];omega);rw[U,jd,d,ζb,dX,b9];constructor;intro B;have B:e.kind=2:=(by grind);have I:0<=e.message/\e.message<=199:=(by rcases l _ u with h|⟨_,_,_,_,h⟩;grind;omega);have b:∀z,Jr t y z->(ag A e.message).to_=z:=λz⟨W,f,a1,a2,a3,a4,a5⟩=>(by cases AP a1 u rfl;rw[a5];exact(Y.rcv _ a2 a4).1);rw[OO A I.1 I.2,ζb,bg,b9];refine⟨λh=>?_,λh=>(bg _).2 (no λ⟨z,w⟩=>?_)⟩;have h:(ag A e.message).to_.index>0:=(by grind);rw[ζb];unfold gw;rw[if_pos Zaa,ζb,bg];refine⟨by show(s.l++[(ag A e.message).to_]).length<=2;grind,λz=>?_⟩;have G:Jr t y (ag A e.message).to_:=(by rcases Y.to e.message I.1 I.2 with o|⟨W,a,c,m⟩;omega;exact⟨e,W,u,a,B,c,m.symm⟩);show z∈s.l++[(ag A e.message).to_]↔_;rw[mem_append,mem_singleton,w];constructor;rintro(h|rfl);exact⟨J,h.1,.inl h.2⟩;exact⟨J,let⟨_,f,_,a2,_⟩:=G;⟨f,a2⟩,.inr G⟩;rintro⟨_,a,c|c⟩;grind;grind;rw[b z w]at h;have⟨_,f,_,a2,_⟩:=w;have⟨q,i,_,hi⟩:=dY.1 a2;grind;intro B;rw[bg,b9];refine⟨λh=>(by cases h),λ_=>(bg _).2 (no λ⟨z,W,f,a1,_,a3,_⟩=>?_)⟩;cases AP a1 u rfl;grind
 unfold jK;rw[D,jd,O,ζb,b9];rw[D]at j;constructor
 .intro h;have h:y.index<len P.events:=by grind
  have B:k+1<P.events.l.length:=Zac
  refine j _ (by simp[Sl.l]) λz=>?_
  have U:wrap .i64 (y.index+1)=y.index+1:=eB _ Zaa Zaa
  simp only[Sl.l,mem_singleton,U];refine⟨λw=>⟨⟨P.events.l[k+1],dY.2 ⟨p,k+1,⟨P,O,ζd B⟩,?_⟩⟩,w⟩,λw=>w.2⟩
  grind
 intro h;have h:¬y.index<len P.events:=Zac
 refine j _ (by simp[Sl.l]) λz=>⟨λw=>by simp[Sl.l]at w,λ⟨w,r⟩=>?_⟩
 have⟨q,i,f,⟨Q,v,hi⟩,E,_⟩:=w.at_
 grind
structure KC(t:Trace)(x:bf)(rest:Sl bf)(m:Mo bf Bool)(U:bf->Prop):Prop where
 rst:∀y∈rest.l,y=x\/Way t x y
 keys:(m.map (·.1)).Nodup
 seen:∀y∈m,Way t x y.1/\y.1≠x/\y.2=true
 le:rest.l.length<=m.length+1
 done:∀y,y=x\/y∈m.map (·.1)->y∈rest.l\/U y\/∀z,Edge t y z->z∈m.map (·.1)
theorem KC.count{t:Z4}{x:bf}{rest:Sl bf}{m:Mo bf X'}{U:bf->Prop}(h:KC t x rest m U):m.length<=(bR t).length:=by
 have:=Ao (r:=(bR t).map (·.1)) h.keys λx u=>by obtain⟨y,w,rfl⟩:=mem_map.1 u;have⟨e,z⟩:=(h.seen y w).1.r;grind
 grind
theorem Pr{t:Z4}(E:Small t)(hN:(bR t).length<1073741824)(hF:∀x∈bR t,lS t.procs.l.length x.1.proc x.2){A:cq 200 bD}(hA:fN t (bR t) A):Wp (ja t A) λr=>(r.2=true↔MZ t):=by
 unfold ja jS;rw[ζb];unfold ja.E1;rw[uv E,ζb];refine zX (λk _=>∀x∈(bR t).take k,¬Way t x.1 x.1) Zab ?_ λ_ h=>(bg _).2 ⟨λh=>(by cases h),λ⟨x,g⟩=>?_⟩
 .intro i x _ g ar;have ah:x∈bR t:=mem_of_getElem? g;refine Wp.mono (P:=λw=>match w with|.n s=>¬Way t x.1 x.1|.x e=>False|.r e=>MZ t) ?_ λw j=>by cases w with|n s=>intro y d;rw[take_add_one,g]at d;grind|x e=>grind|r b=>exact(bg _).2 ⟨λ_=>j,λ_=>rfl⟩
  refine fJ (λq:Sl bf×Mo bf X'=>KC t x.1 q.1 q.2 λ_=>False) (λq=>2*((bR t).length-q.2.length)+q.1.l.length) ⟨λy d=>.inl (by simpa[Sl.l]using d),Zab,Zab,by simp[Sl.l],λy d=>.inl ?_⟩ ?_;simpa[Sl.l]using d;rintro⟨rest,m⟩ L;unfold ja.bT;rw[b9];refine⟨λh=>?_,λh=>(bg _).2 ((bg _).2 λj=>?_)⟩
  .have G:0<rest.l.length:=by grind
   have hc:=L.count;have av:=L.le;have j:wrap .i64 ((len rest)-1)=(rest.l.length-1:Nat):=by rw[eB _ Zac Zac];grind
   have I:rest.l.length-1<rest.l.length:=Zaa;rw[j];have h1:Sl.jR rest (rest.l.length-1:Nat)=some (rest.l.length-1):=by unfold Sl.jR;grind
   have h2:Sl.get rest (rest.l.length-1)=some rest.l[rest.l.length-1]:=by unfold Sl.get;grind
   obtain⟨cut,h3,h4⟩:∃x,qa rest none (some ((rest.l.length-1:Nat):Int))=some x/\x.l=rest.l.take (rest.l.length-1):=by cases rest with|nil=>simp[Sl.l]at G|emp=>simp[Sl.l]at G|row l=>simp only[Sl.l]at G⊢;unfold qa eu;simp_all|part l=>simp[Sl.l]at G⊢;unfold qa eu;simp_all
   rw[h1,ζb,h2,ζb,h3,ζb,dX];generalize ai:rest.l[rest.l.length-1]=y;have aj:y∈rest.l:=ai▸getElem_mem I;have O:∀z,z∈rest.l->z∈cut.l\/z=y:=λz c=>by have:rest.l.take (rest.l.length-1)++rest.l.drop (rest.l.length-1)=rest.l:=take_append_drop ..;rw[<-this]at c;rcases mem_append.1 c with c|c;grind;rw[drop_eq_getElem_cons I,drop_of_length_le Zaa]at c;grind
   have F:=L.rst _ aj;have ak:=F.elim (λe=>⟨x.2,e▸ah⟩) Way.r;refine(SE E hF hA ak).mono λs H=>?_;refine fJ (λq:Sl bf×Int×Mo bf X'=>∃n:Nat,q.2.1=n/\n<=s.l.length/\KC t x.1 q.1 q.2.2 (λu=>u=y)/\(∀z∈s.l.take n,z∈q.2.2.map (·.1))/\2*((bR t).length-q.2.2.length)+q.1.l.length<2*((bR t).length-m.length)+rest.l.length) (λq=>s.l.length-q.2.1.toNat)
    ⟨0,rfl,zero_le _,⟨λz c=>L.rst z Zac,L.keys,L.seen,Zac,λu f=>?_⟩,Zab,Zac⟩ ?_
   .rcases L.done u f with h|h|h;exact(O u h).imp_right .inl;exact h.elim;exact .inr (.inr h)
   rintro⟨C,i2,W⟩ ⟨n,rfl,hn,B,J,o⟩;simp only at B o J;unfold ja.fe;rw[b9];constructor
   .intro h;have X:n<s.l.length:=(by simpa[len]using h);have K:=(H.2 s.l[n]).1 (getElem_mem X);have Q:Way t x.1 s.l[n]:=F.elim (λe=>.single (e▸K)) λh=>.tail h K;rw[bJ X,ζb,b9];refine⟨λZ=>(bg _).2 ((bg _).2 ((bg _).2 ⟨x.1,?_⟩)),λS=>?_⟩;have:s.l[n]=x.1:=(by unfold My at Z;revert Z;cases s.l[n];cases x.1;intro Z;simpa using Z);rw[this]at Q;exact Q;have S:s.l[n]≠x.1:=λe=>(by rw[e]at S;simp[My]at S);have T:=cM n Zaa;have M:s.l.take (n+1)=s.l.take n++[s.l[n]]:=(by rw[take_add_one,ζd X];rfl);rw[b9];refine⟨λp=>(bg _).2 ⟨⟨n+1,T,Zaa,B,λz c=>?_,o⟩,by show _-(wrap .i64 ((n:Int)+1)).toNat<_;rw[T];simp;omega⟩,λY=>?_⟩;rw[M]at c;rcases mem_append.1 c with c|c;exact J z c;simp[mem_singleton]at c;subst c;apply byContradiction;intro hk;unfold ov at p;rw[EK hk]at p;cases p;have aw:=B.count;have au:=B.le;unfold gw;rw[if_pos (show C.l.length+1<=2147483648 from Zaa),ζb,bg];have D:s.l[n]∉W.map (·.1):=λal=>(by have⟨v,hv,am⟩:=GP al;have:=(B.seen _ am).2.2;simp only at this;subst this;unfold ov at Y;rw[hv]at Y;cases Y);have U:∀z,z∈(mP W s.l[n] true).map (·.1)↔z∈W.map (·.1)\/z=s.l[n]:=λz=>(by rw[s8 D,map_append,mem_append];simp);have N:KC t x.1 (.row (C.l++[s.l[n]])) (mP W s.l[n] true) (λu=>u=y):=(by refine⟨λy d=>?_,?_,λy d=>?_,?_,λu f=>?_⟩;simp[Sl.l,mem_singleton]at d;rcases d with d|rfl;exact B.rst y d;exact .inr Q;rw[s8 D,map_append,List.nodup_append];refine⟨B.keys,Zab,λa ha b R=>?_⟩;simp[mem_singleton]at R;subst R;exactλe=>D (e▸ha);rw[s8 D]at d;rcases mem_append.1 d with d|d;exact B.seen y d;simp[mem_singleton]at d;subst d;exact⟨Q,S,rfl⟩;rw[s8 D];show(C.l++[s.l[n]]).length<=_;rw[ζi,ζi,length_singleton,length_singleton];omega;simp only[Sl.l,mem_append,mem_singleton];have V:u=x.1\/u∈W.map (·.1)->(u∈C.l\/u=s.l[n])\/u=y\/∀z,Edge t u z->z∈(mP W s.l[n] true).map (·.1):=λf=>(by rcases B.done u f with h|h|h;exact .inl (.inl h);exact .inr (.inl h);exact .inr (.inr λz c=>(U z).2 (.inl (h z c))));rcases f with f|f;exact V (.inl f);rcases(U u).1 f with f|f;exact V (.inr f);exact .inl (.inr f));have an:=N.count;refine⟨⟨n+1,T,Zaa,N,λz c=>?_,?_⟩,by show _-(wrap .i64 ((n)+1)).toNat<_;rw[T];simp;omega⟩;rw[M]at c;rcases mem_append.1 c with c|c;exact(U z).2 (.inl (J z c));exact(U z).2 (.inr (by simpa using c));rw[s8 D,ζi,length_singleton]at an;show 2*((bR t).length-(mP W s.l[n] true).length)+(C.l++[s.l[n]]).length<_;rw[s8 D,ζi,ζi,length_singleton,length_singleton];omega
   intro h;have ao:s.l.length<=n:=by simpa[len]using h
   rw[List.take_of_length_le ao]at J;refine(bg _).2 ((bg _).2 ⟨⟨B.rst,B.keys,B.seen,B.le,λu f=>?_⟩,o⟩);rcases B.done u f with h|h|h;exact .inl h;subst h;exact .inr (.inr λz c=>J z ((H.2 z).2 c));exact .inr (.inr h)
  have ap:rest.l=[]:=by have:¬len rest>0:=(by simpa using h);simp[len]at this;exact this
  have hd:∀y,y=x.1\/y∈m.map (·.1)->∀z,Edge t y z->z∈m.map (·.1):=λy d=>by rcases L.done y d with h|h|h;simp only[ap]at h;cases h;exact h.elim;exact h
  have key:∀z,Way t x.1 z->z∈m.map (·.1):=λz c=>by induction c with|single h=>exact hd _ (.inl rfl) _ h|tail _ h ih=>exact hd _ (.inr ih) _ h
  have⟨y,d,aq⟩:=mem_map.1 (key _ j);exact(L.seen y d).2.1 aq
 have⟨e,Z⟩:=g.l;rw[take_length]at h;exact absurd g (h _ Z)
structure Ok(t:Trace):Prop where
 one:1<=t.procs.l.length
 few:t.procs.l.length<=8
 heads:∀p,p<t.procs.l.length->rH t p=0
 fU:∀(p k:Nat)P e,t.procs.l[p]?=some P->P.events.l[k]?=some e->pV t.procs.l.length P p k e=0
 oM:zQ t
 acyc:¬MZ t
theorem H_{t:Z4}(h:∀(p k:Nat)P e,t.procs.l[p]?=some P->P.events.l[k]?=some e->pV t.procs.l.length P p k e=0):∀x∈bR t,lS t.procs.l.length x.1.proc x.2:=λx w=>by have⟨p,k,⟨P,z,B⟩,u⟩:=dY.1 w;rw[u];exact Jz (h p k P _ z B)
structure VT(t:Trace):Prop where
 formed:∀x∈bR t,lS t.procs.l.length x.1.proc x.2
 msgs:∃A i,fm t=some (some A,i,0)/\fN t (bR t) A
 few:t.procs.l.length<=8
 ok:Ok t
theorem TZ{t:Z4}(b:Small t)(U:(bR t).length<1073741824):Wp (iE t) λr=>(r.2=0->VT t)/\(Ok t->r.2=0):=by
 unfold iE;rw[qm,ζb,b9];refine⟨λD=>?_,λD=>(bg _).2 ⟨λh=>Zaa,λh=>?_⟩⟩;rotate_left;have q:=h.one;have C:=h.few;grind;have C:1<=t.procs.l.length/\t.procs.l.length<=8:=by grind
 unfold iE.W1;refine fJ (λi:Int=>∃n:Nat,i=n/\n<=t.procs.l.length/\∀p,p<n->rH t p=0) (λi:Int=>t.procs.l.length-i.toNat) ⟨0,rfl,zero_le _,λp G=>absurd G Zaa⟩ ?_;rintro i ⟨n,rfl,s,W⟩;unfold iE.br;rw[b9];constructor;intro h;have u:n<t.procs.l.length:=by grind
 rw[SK b u,ζb,b9];refine⟨λa=>(bg _).2 ⟨⟨n+1,cM n Zaa,Zaa,λp G=>?_⟩,by rw[cM n Zaa];simp;omega⟩,λa=>(bg _).2 ((bg _).2 ⟨λh=>?_,λh=>?_⟩)⟩;grind;grind;simp[h.heads n u]at a;intro h;have X:t.procs.l.length<=n:=Zac;rw[bg];unfold jS;rw[ζb];unfold iE.E2;rw[uv b,ζb];refine zX (λi _=>∀(p k:Nat)P e,t.procs.l[p]?=some P->P.events.l[k]?=some e->(⟨p,k+1⟩,e)∈(bR t).take i->pV t.procs.l.length P p k e=0) Zab ?_ ?_;intro i x _ S w;have I:=mem_of_getElem? S;have⟨p,j,⟨P,z,B⟩,J⟩:=dY.1 I;unfold iE.Mm;rw[J,PS b z B,ζb,b9];refine⟨λa=>(bg _).2 λp' v y E Y Z g=>?_,λa=>(bg _).2 ((bg _).2 ⟨λh=>?_,λh=>?_⟩)⟩;rw[take_add_one,S]at g;grind;grind;simp[h.fU p j P _ z B]at a;intro _ w;have w:∀(p k:Nat)P e,t.procs.l[p]?=some P->P.events.l[k]?=some e->pV t.procs.l.length P p k e=0:=λp k P e z B=>w p k P e z B (by rw[take_length];exact dY.2 ⟨p,k,⟨P,z,B⟩,rfl⟩);have L:=H_ w;have⟨r,l,m,O⟩:=E4 b L;rw[l,ζb,b9];refine⟨λa=>?_,λa=>(bg _).2 ⟨λh=>?_,λh=>O h.oM⟩⟩;have a:=by simpa using a
 have⟨A,o,d⟩:=m a;rw[o,ζb];have⟨c,f,Q⟩:=Pr b U L d;rw[f,ζb,b9];refine⟨λT=>(bg _).2 ⟨λh=>Zaa,λh=>absurd (Q.1 T) h.acyc⟩,λT=>(bg _).2 ⟨λ_=>?_,λ_=>rfl⟩⟩;exact⟨L,⟨A,r.2.1,Zac,d⟩,C.2,C.1,C.2,λp G=>W p Zaa,w,d.oM,λf=>Zac⟩;simp_all
theorem Ln{t:Z4}(a:Small t)(B:(bR t).length<1073741824):Wp (cH t) λb=>(b=true->VT t)/\(Ok t->b=true):=by unfold cH;rw[dX];exact(TZ a B).mono λr c=>(bg _).2 ⟨λh=>c.1 Zac,λh=>Zac⟩
def gF(q:Int)(e:WF):X':=e.kind==2&&e.peer==q
def zT(p:Int)(e:WF):X':=e.kind==3&&e.peer==p
def under(t:Z4)(c:ST)(p q:Nat):Int:=match t.procs.l[p]?,t.procs.l[q]?,c[p]?,c[q]?with
 |some P,some Q,some a,some b=>((P.events.l.take a.toNat).countP (gF q):Int)-((Q.events.l.take b.toNat).countP (zT p):Int)|_,_,_,_=>0
theorem Ii{t:Z4}(f:Small t)(g:cH t=some true){A:cq 200 bD}(c:fN t (bR t) A){x:bf×WF}(B:x∈bR t)(d:x.2.kind=2):rB t x.2.message=some (x.1,true):=by
 refine Wp.eq ?_;unfold rB iM;rw[g,ζb,bH];unfold jS;rw[ζb];unfold iM.E1;rw[uv f,ζb,dX];refine zX (λk _=>∀y∈(bR t).take k,¬(y.2.kind=2/\y.2.message=x.2.message)) Zab ?_ ?_;intro k y _ C u;have w:y∈bR t:=mem_of_getElem? C;unfold iM.kr;rw[nS,ζb,b9];constructor;intro a;have a:y.2.kind=2/\y.2.message=x.2.message:=by simpa using a
 refine(bg _).2 ((bg _).2 ((bg _).2 ?_));have e:=c.snd y w a.1;have D:=c.snd x B d;rw[a.2,D]at e;rw[e];intro a;have a:¬(y.2.kind=2/\y.2.message=x.2.message):=by intro h;rw[h.1,h.2]at a;simp at a
 rw[bg];intro z b;rw[take_add_one,C]at b;rcases mem_append.1 b with b|b;exact u z b;simp at b;subst b;exact a;intro _ u;rw[take_length]at u;exact absurd ⟨d,rfl⟩ (u x B)
def pQ(t:Z4)(c:ST):Prop:=c.length=t.procs.l.length/\∀(p:Nat)(a:Int)(P:bX),c[p]?=some a->t.procs.l[p]?=some P->0<=a/\a<=P.events.l.length
def nQ(t:Z4)(A:cq 200 bD)(c:ST):Prop:=∀(p k:Nat)(e:WF)(a:Int),mF t p k e->c[p]?=some a->(k:Int)<a->e.kind=3->∃b,c[(ag A e.message).from_.proc.toNat]?=some b/\(ag A e.message).from_.index<=b
theorem D7{t:Z4}(c:VT t){A:cq 200 bD}(a:fN t (bR t) A){p k:Nat}{e:WF}(J:mF t p k e)(d:e.kind=3):
 ∃(q j:Nat)(y:WF),mF t q j y/\y.kind=2/\y.message=e.message/\y.peer=p/\e.peer=q/\(ag A e.message).from_=⟨q,j+1⟩:=by
 have u:((⟨p,k+1⟩:bf),e)∈bR t:=dY.2 ⟨p,k,J,rfl⟩;have z:=(a.rcv _ u d).2;have C:=c.formed _ u;simp only at z C;have B:0<=e.peer:=by rcases C with h|⟨_,h,_⟩;omega;exact h
 obtain⟨q,D⟩:∃q:Nat,e.peer=q:=⟨e.peer.toNat,Zaa⟩
 rw[D]at z;have⟨j,y,w,b,G,I⟩:=Ag.1 z;have:=a.snd (⟨q,j+1⟩,y) (dY.2 ⟨q,j,w,rfl⟩) b;simp only at this;rw[G]at this;exact⟨q,j,y,w,b,G,I,D,this⟩
def abq(t:Z4)(A:cq 200 bD)(c:ST)(s:bf):Prop:=∃(p k:Nat)(e:WF)(a:Int)(q j:Nat)(y:WF)(b:Int),mF t p k e/\c[p]?=some a/\(k:Int)<a/\e.kind=3/\(ag A e.message).from_=s/\s=⟨q,j+1⟩/\mF t q j y/\c[q]?=some b/\b<(j:Int)+1
theorem MV{t:Z4}(v:Small t)(P:cH t=some true)(E:VT t){A:cq 200 bD}(F:fN t (bR t) A){c:Zg}(H:pQ t c.l):Wp (g_ t c) λr=>(r.2.2=false->nQ t A c.l)/\(r.2.2=true->abq t A c.l r.1):=by
 have ah:=E.few;unfold g_ g_.W1;refine fJ (λs:Int=>∃n:Nat,s=n/\n<=c.l.length/\∀(p k:Nat)(e:WF)(a:Int),p<n->mF t p k e->c.l[p]?=some a->(k:Int)<a->e.kind=3->∃b,c.l[(ag A e.message).from_.proc.toNat]?=some b/\(ag A e.message).from_.index<=b) (λs:Int=>c.l.length-s.toNat) ⟨0,rfl,zero_le _,λp k e a h=>absurd h Zaa⟩ ?_;rintro s ⟨n,rfl,hn,K⟩;have ai:=H.1;unfold g_.br;rw[b9];constructor;intro h;have C:n<c.l.length:=by simpa[len]using h
 have B:n<t.procs.l.length:=Zaa;have hP:=(v.2 _ (getElem_mem B)).1;have⟨r1,r2⟩:=H.2 n _ _ (ζd C) (ζd B);rw[bJ C,ζb,bJ B,ζb];have⟨y,M,T⟩:=qW t.procs.l[n].events c.l[n].toNat Zaa;rw[show((c.l[n].toNat:Nat):Int)=c.l[n]from Zaa]at M;rw[M,ζb];unfold g_.W2;refine fJ (λs:Int=>∃m:Nat,s=m/\m<=y.l.length/\∀(k:Nat)(e:WF),k<m->mF t n k e->e.kind=3->∃b,c.l[(ag A e.message).from_.proc.toNat]?=some b/\(ag A e.message).from_.index<=b) (λs:Int=>y.l.length-s.toNat) ⟨0,rfl,zero_le _,λk e h=>absurd h Zaa⟩ ?_;rintro s ⟨m,rfl,hm,i⟩;have af:y.l.length=c.l[n].toNat:=by rw[T,length_take];omega
 unfold g_.bT;rw[b9];constructor;intro h;have G:m<y.l.length:=by simpa[len]using h
 have I:=cM m Zaa;have U:y.l.length-(wrap .i64 ((m:Int)+1)).toNat<y.l.length-((m:Int)).toNat:=by rw[I];simp;omega
 have R:y.l[m]?=t.procs.l[n].events.l[m]?:=by rw[T,getElem?_take,if_pos (show m<c.l[n].toNat from Zaa)]
 have u:mF t n m y.l[m]:=⟨_,ζd B,by rw[<-R];exact ζd G⟩;rw[bJ G,ζb];generalize y.l[m]=e at u;rw[b9];constructor;intro d;have d:e.kind=3:=by simpa using d
 have⟨q,j,z,l,V,z2,z3,z4,z5⟩:=D7 E F u d;have J:=Ii v P F (x:=(⟨q,j+1⟩,z)) (dY.2 ⟨q,j,l,rfl⟩) V;simp only at J;rw[z2]at J;have ab:=l;have⟨Q,hQ,_⟩:=l;have L:q<c.l.length:=by have:=(ζe.1 hQ).1;omega
 rw[J,ζb];simp only;rw[bJ L,ζb,b9];constructor;intro W;have W:(j:Int)+1>c.l[q]:=by simpa using W
 exact(bg _).2 ((bg _).2 ((bg _).2 ⟨λh=>(by cases h),λ_=>⟨n,m,e,c.l[n],q,j,z,c.l[q],u,ζd C,Zaa,d,z5,rfl,ab,ζd L,Zaa⟩⟩));intro X;have X:¬((j:Int)+1>c.l[q]):=by simpa using X
 refine(bg _).2 ⟨⟨m+1,I,Zaa,λk Y ad w D=>?_⟩,U⟩;by_cases o:k=m;subst o;have:Y=e:=by have⟨P1,a1,a2⟩:=u;have⟨P2,Z,f⟩:=w;rw[a1]at Z;cases Z;rw[a2]at f;cases f;rfl
 subst this;rw[z5];exact⟨c.l[q],by simp only[toNat_natCast];exact ζd L,by simp only;omega⟩;exact i k Y Zaa w D;intro d;have d:¬e.kind=3:=by simpa using d
 refine(bg _).2 ⟨⟨m+1,I,Zaa,λk Y ad w D=>?_⟩,U⟩;by_cases o:k=m;subst o;have:Y=e:=by have⟨P1,a1,a2⟩:=u;have⟨P2,Z,f⟩:=w;rw[a1]at Z;cases Z;rw[a2]at f;cases f;rfl
 subst this;exact absurd D d;exact i k Y Zaa w D;intro h;have ae:y.l.length<=m:=by simpa[len]using h
 have N:=cM n Zaa;refine(bg _).2 ((bg _).2 ⟨⟨n+1,N,Zaa,λp k e a hp u S O g=>?_⟩,by show _-(wrap .i64 ((n:Int)+1)).toNat<_;rw[N];simp;omega⟩);by_cases ep:p=n;subst ep;rw[ζd C]at S;cases S;exact i k e Zaa u g;exact K p k e a Zaa u S O g;intro h;have ae:c.l.length<=n:=by simpa[len]using h
 refine(bg _).2 ((bg _).2 ⟨λ_ p k e a u S O g=>K p k e a (by have:=(ζe.1 S).1;omega) u S O g,λh=>(by cases h)⟩)
theorem FL{t:Z4}(f:Small t)(g:cH t=some true)(i:VT t){A:cq 200 bD}(l:fN t (bR t) A){c:Zg}(B:pQ t c.l):Wp (g_ t c) λr=>(r.2.2=false↔nQ t A c.l):=by refine(MV f g i l B).mono λr d=>⟨d.1,λm=>?_⟩;cases h:r.2.2 with|false=>rfl|true=>have⟨p,k,e,a,q,j,y,b,n,u,w,z,C,D,_,G,I⟩:=d.2 h;have⟨J,g1,g2⟩:=m p k e a n u w z;rw[C,D]at g1 g2;simp only[toNat_natCast]at g1 g2;rw[G]at g1;cases g1;omega
theorem uu{s:Zb}{p:Zg->a_ X'}{f:Zg->X'}(hp:∀x∈s.l,p x=some (f x))(B:s.l.length<1073741824):jb s p=some (s.l.any f):=by have h:gR s p=some (place f s.l):=vR hp Zaa (λi=>rfl);unfold jb;rw[h,ζb,wv]
theorem AN{t:Z4}(d:Small t){c:Zg}(D:c.l.length=t.procs.l.length):Wp (jM t c) λb=>(b=true↔pQ t c.l):=by
 have f:=d.1;unfold jM jM.W1;refine fJ (λs:Int=>∃n:Nat,s=n/\n<=c.l.length/\∀(p:Nat)(a:Int)(P:bX),p<n->c.l[p]?=some a->t.procs.l[p]?=some P->0<=a/\a<=P.events.l.length) (λs:Int=>c.l.length-s.toNat) ⟨0,rfl,zero_le _,λp a P h=>absurd h Zaa⟩ ?_;rintro s ⟨n,rfl,O,G⟩;unfold jM.br;rw[b9];constructor;intro h;have w:n<c.l.length:=by simpa[len]using h
 have u:n<t.procs.l.length:=Zaa;have I:=cM n Zaa;rw[bJ w,ζb,bJ u,ζb,mG,ζb,b9];constructor;intro z;have z:c.l[n]<0\/c.l[n]>t.procs.l[n].events.l.length:=by simpa[len]using z
 refine(bg _).2 ((bg _).2 ⟨λh=>(by cases h),λJ=>?_⟩);have:=J.2 n _ _ (ζd w) (ζd u);omega;intro z;have z:0<=c.l[n]/\c.l[n]<=t.procs.l[n].events.l.length:=by simpa[len]using z
 refine(bg _).2 ⟨⟨n+1,I,Zaa,λp a P Q B C=>?_⟩,by rw[I];simp;omega⟩;by_cases e:p=n;subst e;rw[ζd w]at B;cases B;rw[ζd u]at C;cases C;exact z;exact G p a P Zaa B C;intro h;have L:c.l.length<=n:=by simpa[len]using h
 refine(bg _).2 ((bg _).2 ⟨λ_=>⟨D,λp a P B C=>G p a P (by have:=(ζe.1 B).1;omega) B C⟩,λ_=>rfl⟩)
def Code(t:Z4)(A:cq 200 bD)(c:ST)(r:Int):Prop:=c.length≠t.procs.l.length/\r=1\/c.length=t.procs.l.length/\¬pQ t c/\r=2\/pQ t c/\¬nQ t A c/\r=18\/pQ t c/\nQ t A c/\r=0
theorem QH{t:Z4}(a:Small t)(d:cH t=some true)(i:VT t){A:cq 200 bD}(j:fN t (bR t) A)(c:Zg):
 Wp (dD t (Sl.row [c]:Zb) (Sl.nil:Zg)) λr=>Code t A c.l r:=by
 unfold dD tN;rw[d,ζb,bH,uu (f:=λz=>(iD z t).getD false) (λz _=>Kl.ok ((bg _).2 trivial)) (by simp[Sl.l]),ζb,ζb,ζb]
 have w:(!((Sl.row [c]:Zb).l.any λz=>(iD z t).getD false))=(len c==len t.procs):=by simp[Sl.l,iD]
 rw[w,b9];constructor
 .intro h;have B:c.l.length=t.procs.l.length:=by
   have:(c.l.length:Int)=t.procs.l.length:=by simpa[len]using h
   omega
  unfold dD.W1;refine fJ (λs:Int=>s=0\/s=1/\pQ t c.l) (λs:Int=>1-s.toNat) (.inl rfl) ?_
  intro s D;unfold dD.br;rcases D with rfl|⟨rfl,G⟩
  .rw[show decide ((0:Int)<len (Sl.row [c]:Zb))=true from rfl,bH,show idx (Sl.row [c]:Zb) 0=some c from rfl,ζb,dX];refine(AN a B).mono λb u=>?_
   rw[b9];exact⟨λI=>(bg _).2 ⟨.inr ⟨rfl,u.1 I⟩,by decide⟩,λC=>(bg _).2 ((bg _).2 (.inr (.inl ⟨B,λh=>(by rw[u.2 h]at C;cases C),rfl⟩)))⟩
  rw[show decide ((1:Int)<len (Sl.row [c]:Zb))=false from rfl,bE,bg];show Wp (dD.W2 (Sl.row [c]) Sl.nil 0 0 t) _;unfold dD.W2;refine fJ (λs:Int=>s=0) (λ_=>0) rfl ?_
  rintro s rfl;unfold dD.bT;rw[show decide ((0:Int)<0)=false from rfl,bE,bg];show Wp (dD.W3 (Sl.row [c]) 1 0 t) _;unfold dD.W3;refine fJ (λs:Int=>s=0\/s=1/\nQ t A c.l) (λs:Int=>1-s.toNat) (.inl rfl) ?_
  intro s D;unfold dD.fe;rcases D with rfl|⟨rfl,k⟩
  .rw[show decide ((0:Int)<1)=true from rfl,bH,show idx (Sl.row [c]:Zb) 0=some c from rfl,ζb];unfold w8;rw[dX,dX];refine(FL a d i j G).mono λr g=>?_
   rw[bg,b9];exact⟨λu=>(bg _).2 ⟨.inr ⟨rfl,g.1 (by simpa using u)⟩,by decide⟩,λu=>(bg _).2 ((bg _).2 (.inr (.inr (.inl ⟨G,λh=>(by have:=g.2 h;simp[this]at u),rfl⟩))))⟩
  rw[show decide ((1:Int)<1)=false from rfl,bE,bg];exact(bg _).2 (.inr (.inr (.inr ⟨G,k,rfl⟩)))
 intro h;exact(bg _).2 (.inl ⟨λe=>(by simp[len,e]at h),rfl⟩)
theorem Code.zero{t:Z4}{A:cq 200 bD}{c:ST}{r:Int}(h:Code t A c r):r=0↔pQ t c/\nQ t A c:=by rcases h with⟨h,rfl⟩|⟨_,h,rfl⟩|⟨_,h,rfl⟩|⟨a,w,rfl⟩;exact⟨λh=>(by cases h),λu=>absurd u.1.1 h⟩;exact⟨λh=>(by cases h),λu=>absurd u.1 h⟩;exact⟨λh=>(by cases h),λu=>absurd u.2 h⟩;exact⟨λ_=>⟨a,w⟩,λ_=>rfl⟩
theorem S_{t:Z4}(a:Small t)(b:cH t=some true)(d:VT t){A:cq 200 bD}(e:fN t (bR t) A)(c:Zg):Wp (dD t (Sl.row [c]:Zb) (Sl.nil:Zg)) λr=>(r=0↔pQ t c.l/\nQ t A c.l):=(QH a b d e c).mono λ_ h=>h.zero
def Cons(t:Z4)(A:cq 200 bD)(c:ST):Prop:=pQ t c/\nQ t A c
def places{α:Type}(f:α->X')(l:aZ α):S':=(range l.length).filter λk=>match l[k]?with|some x=>f x|none=>false
theorem Om{α:Type}{f:α->X'}{l:aZ α}{k:Nat}:k∈places f l↔∃x,l[k]?=some x/\f x=true:=by unfold places;rw[List.mem_filter,mem_range];constructor;rintro⟨a,u⟩;rw[ζd a]at u;exact⟨_,ζd a,u⟩;rintro⟨x,a,u⟩;exact⟨(ζe.1 a).1,by rw[a];exact u⟩
theorem KE{α:Type}(f:α->X')(l:aZ α):(places f l).Nodup:=List.nodup_range.sublist (List.filter_sublist ..)
theorem Ee{α:Type}(f:α->X'):∀l:aZ α,(places f l).length=l.countP f:=by intro l;unfold places;rw[<-List.countP_eq_length_filter];induction l with|nil=>rfl|cons x l u=>rw[length_cons,List.range_succ_eq_map,countP_cons,List.countP_map,countP_cons];simp only[List.getElem?_cons_zero];rw[<-u];congr 1
theorem G5{α β:Type}{f:α->X'}{g:β->X'}{l:aZ α}{m:aZ β}(φ:Nat->Nat)(h:∀k∈places f l,φ k∈places g m)(hi:∀k B,k∈places f l->B∈places f l->φ k=φ B->k=B):l.countP f<=m.countP g:=by
 rw[<-Ee,<-Ee];have w:((places f l).map φ).Nodup:=by unfold Nodup;rw[pairwise_map];exact Pairwise.imp_of_mem (λ{a b}z C u D=>u (hi a b z C D)) (KE f l)
 have:=Ao (r:=places g m) w λx G=>by obtain⟨k,c,rfl⟩:=mem_map.1 G;exact h k c
 simpa using this
end Go.VE
namespace Go.VE
def l8(kind m:Int)(x:bf×WF):X':=x.2.kind==kind&&x.2.message==m
def h_(t:Z4)(kind m:Int):bf:=match(bR t).find? (l8 kind m)with
 |some x=>x.1|none=>⟨0,0⟩
theorem OR{t:Z4}{kind m:Int}{p:Nat}{P:bX}(B:p<9223372036854775806)(D:t.procs.l[p]?=some P)(G:P.events.l.length<1073741824):∀(q i:Nat),i+q=P.events.l.length->
 bS (λq:Int=>en.bT kind m p t ⟨0,0⟩ q) (i:Int)=some (match(ji p i (P.events.l.drop i)).find? (l8 kind m)with|some x=>.r x.1|none=>.x ()):=by
 have u:idx t.procs (p:Int)=some P:=by rw[jd];exact D
 intro q
 induction q with
 |zero=>
  intro i hi;rw[eD];unfold en.bT;rw[u,ζb,show decide ((i:Int)<len P.events)=false from by simp[len];omega,bE,drop_of_length_le Zaa]
  rfl
 |succ q z=>
  intro i hi;have w:i<P.events.l.length:=Zaa
  rw[eD];have C:en.bT kind m p t ⟨0,0⟩ i=some (if l8 kind m (⟨p,(i:Int)+1⟩,P.events.l[i])then .r ⟨p,(i:Int)+1⟩else .n ((i+1:Nat):Int)):=by unfold en.bT;rw[u,ζb,show decide ((i:Int)<len P.events)=true from by simp[len];omega,bH,ζb,bJ w,ζb,nS,ζb,cM i Zaa,uS];rfl
  rw[C,ζb,drop_eq_getElem_cons w];simp only[ji,List.find?_cons]
  cases I:l8 kind m (⟨p,(i:Int)+1⟩,P.events.l[i])with
  |true=>rfl|false=>simp only[false_eq_true,if_false];exact z (i+1) Zaa
theorem O4{t:Z4}(a:Small t){kind m:Int}:∀(q p:Nat),p+q=t.procs.l.length->
 bS (λq:Int=>en.br kind m t ⟨0,0⟩ q) (p:Int)=some (match(gA p (t.procs.l.drop p)).find? (l8 kind m)with|some x=>.r x.1|none=>.x ()):=by
 have b:=a.1;intro q
 induction q with
 |zero=>
  intro p w;rw[eD];unfold en.br;rw[show decide ((p:Int)<len t.procs)=false from by simp[len];omega,bE,drop_of_length_le Zaa]
  rfl
 |succ q z=>
  intro p w;have u:p<t.procs.l.length:=Zaa
  have B:bS (λq:Int=>en.bT kind m p t ⟨0,0⟩ q) 0=some (match(ji p 0 t.procs.l[p].events.l).find? (l8 kind m)with|some x=>.r x.1|none=>.x ()):=OR (t:=t) (kind:=kind) (m:=m) Zaa (ζd u) (a.2 _ (getElem_mem u)).1 (t.procs.l[p].events.l.length) 0 Zaa
  rw[eD];unfold en.br;rw[show decide ((p:Int)<len t.procs)=true from by simp[len];omega,bH]
  unfold en.W2;rw[B,drop_eq_getElem_cons u];simp only[gA,find?_append]
  cases C:(ji p 0 t.procs.l[p].events.l).find? (l8 kind m)with
  |some x=>rfl|none=>
   simp only[ζb,Fw.elim,Option.none_or];rw[cM p Zaa]
   exact z (p+1) Zaa
theorem find_eq{t:Z4}(a:Small t)(kind m:Int):en t kind m=some (h_ t kind m):=by unfold en en.W1;have u:bS (λq:Int=>en.br kind m t ⟨0,0⟩ q) 0=some (match(bR t).find? (l8 kind m)with|some x=>.r x.1|none=>.x ()):=O4 a (kind:=kind) (m:=m) t.procs.l.length 0 Zaa;rw[u];unfold h_;cases(bR t).find? (l8 kind m)<;>rfl
theorem xx{t:Z4}{kind m:Int}{x:bf×WF}(h:(bR t).find? (l8 kind m)=some x):x∈bR t/\x.2.kind=kind/\x.2.message=m/\h_ t kind m=x.1:=by have a:=List.find?_some h;simp only[l8,ζh,beq_iff_eq]at a;exact⟨List.mem_of_find?_eq_some h,a.1,a.2,by unfold h_;rw[h]⟩
theorem Lc{t:Z4}{kind m:Int}{x:bf×WF}(B:x∈bR t)(a:x.2.kind=kind)(D:x.2.message=m):∃y,(bR t).find? (l8 kind m)=some y:=by cases u:(bR t).find? (l8 kind m)with|some y=>exact⟨y,rfl⟩|none=>rw[find?_eq_none]at u;exact absurd (u x B) (by simp[l8,a,D])
theorem On{t:Z4}{kind m:Int}(h:∀x∈bR t,¬(x.2.kind=kind/\x.2.message=m)):h_ t kind m=⟨0,0⟩:=by
 unfold h_;have:(bR t).find? (l8 kind m)=none:=by rw[find?_eq_none];intro x u;simp only[l8,ζh,beq_iff_eq];exact h x u
 rw[this]
theorem U6{t:Z4}{p k:Nat}{e:WF}(h:mF t p k e)(a:k<9223372036854775807):v_ t ⟨p,k+1⟩=some e:=by have⟨P,u,w⟩:=h;unfold v_;dsimp only;rw[show idx t.procs (p:Int)=some P from by rw[jd];exact u,ζb,show wrap .i64 ((k:Int)+1-1)=(k:Int)from by rw[eB _ Zaa Zaa];omega,show idx P.events (k:Int)=some e from by rw[jd];exact w];rfl
def xq(t:Z4)(x:bf×WF):Int:=if x.2.kind=1 then 0 else if h_ t x.2.kind x.2.message=x.1 then(if x.2.kind=3 then(if tY t x.2.peer x.2.message x.1.proc then 0 else 7)else 0)else 8
theorem Pp{t:Z4}(b:Small t){p k:Nat}{e:WF}(h:mF t p k e)(U:lS t.procs.l.length p e):jg t ⟨p,k+1⟩=some (xq t (⟨p,k+1⟩,e)):=by
 have c:k<1073741824:=by have⟨P,W,X⟩:=h;have:=(b.2 P (mem_of_getElem? W)).1;have:=(ζe.1 X).1;omega
 unfold jg xq;rw[U6 h Zaa,ζb];dsimp only;by_cases a:e.kind=1;rw[show(e.kind==1)=true from by simp[a],bH,if_pos a];rw[show(e.kind==1)=false from by simp[a],bE,if_neg a,find_eq b,ζb];have D:My (h_ t e.kind e.message) ⟨p,(k:Int)+1⟩=decide (h_ t e.kind e.message=⟨p,(k:Int)+1⟩):=by unfold My;rw[Bool.eq_iff_iff];cases h_ t e.kind e.message;simp
 rw[D];by_cases w:h_ t e.kind e.message=⟨p,(k:Int)+1⟩;rw[if_pos w,show decide (h_ t e.kind e.message=⟨p,(k:Int)+1⟩)=true from by simpa using w,bH];by_cases B:e.kind=3;rw[if_pos B,show(e.kind==3)=true from by simp[B],bH];have G:0<=e.peer/\e.peer<t.procs.l.length:=by rcases U with h|⟨_,a,w,_⟩;exact absurd h a;exact⟨a,w⟩
 have O:e.peer.toNat<t.procs.l.length:=Zaa;have S:=ζd O;have Y:=(b.2 _ (getElem_mem O)).1;generalize Z:t.procs.l[e.peer.toNat]=Q at *;have I:idx t.procs e.peer=some Q:=by rw[TW G.1];exact S
 have J:tY t e.peer e.message p=Q.events.l.any λs=>s.kind==2&&s.message==e.message&&s.peer==p:=by unfold tY;rw[S]
 unfold jg.W1;refine Wp.eq (fJ (λz:X'×Int=>∃m:Nat,z.2=m/\m<=Q.events.l.length/\z.1=(Q.events.l.take m).any λs=>s.kind==2&&s.message==e.message&&s.peer==p) (λz=>Q.events.l.length-z.2.toNat) ⟨0,rfl,zero_le _,rfl⟩ ?_);rintro⟨s,i⟩ ⟨m,hi,d,C⟩;simp only at hi C;subst hi;unfold jg.br;dsimp only;rw[I,ζb,b9];constructor;intro L;have u:m<Q.events.l.length:=by simpa[len]using L
 have T:=cM m Zaa;rw[ζb,bJ u,ζb,nS,ζb,nS,ζb,mG,ζb,bg];refine⟨⟨m+1,T,Zaa,?_⟩,by show _-(wrap .i64 ((m:Int)+1)).toNat<_;rw[T];simp;omega⟩;show(s||_)=_;rw[take_add_one,ζd u,List.any_append,C];simp;intro L;have u:Q.events.l.length<=m:=by simpa[len]using L
 rw[List.take_of_length_le u]at C;refine(bg _).2 ?_;rw[J,<-C];cases s;exact(bg _).2 rfl;exact(bg _).2 rfl;rw[if_neg B,show(e.kind==3)=false from by simp[B],bE];rw[if_neg w,show decide (h_ t e.kind e.message=⟨p,(k:Int)+1⟩)=false from by simpa using w,bE]
theorem N2{t:Z4}(J:∀x∈bR t,lS t.procs.l.length x.1.proc x.2):(∀x∈bR t,xq t x=0)↔zQ t:=by
 constructor;intro h;have key:∀x∈bR t,x.2.kind≠1->h_ t x.2.kind x.2.message=x.1:=λx u a=>by have:=h x u;unfold xq at this;rw[if_neg a]at this;split at this;assumption;cases this
 refine⟨λx u y w z B C=>?_,λx u y w z B C=>?_,λx u z=>?_⟩;rw[<-key x u Zaa,<-key y w Zaa,z,B,C];rw[<-key x u Zaa,<-key y w Zaa,z,B,C];have:=h x u;unfold xq at this;rw[if_neg Zaa,if_pos (key x u Zaa),if_pos z]at this;split at this;assumption;cases this;intro h x u;unfold xq;by_cases k1:x.2.kind=1;rw[if_pos k1];rw[if_neg k1];have⟨y,w⟩:=Lc u rfl rfl;have⟨D,G,y3,y4⟩:=xx w;have a:x.2.kind=2\/x.2.kind=3:=by rcases J x u with h|⟨h,_⟩;exact absurd h k1;exact h
 have I:h_ t x.2.kind x.2.message=x.1:=by rw[y4];rcases a with a|a;exact h.snd y D x u (by rw[G,a]) a y3;exact h.rcv y D x u (by rw[G,a]) a y3
 rw[if_pos I];by_cases k3:x.2.kind=3;rw[if_pos k3,if_pos (h.has x u k3)];rw[if_neg k3]
theorem zR{t:Z4}(D:∀x∈bR t,lS t.procs.l.length x.1.proc x.2)(G:zQ t){z:bf}{f:WF}(B:(z,f)∈bR t)(a:f.kind=3):∃e,(h_ t 2 f.message,e)∈bR t/\e.kind=2/\e.message=f.message:=by
 have h:=G.has _ B a;have I:0<=f.peer:=by rcases D _ B with h|⟨_,h,_⟩;grind;simp_all
 rw[show f.peer=(f.peer.toNat:Nat)from Zaa,Ag]at h;have⟨k,e,u,b,w,_⟩:=h;have⟨y,C⟩:=Lc (dY.2 ⟨_,k,u,rfl⟩:(⟨(f.peer.toNat:Nat),k+1⟩,e)∈bR t) b w;have⟨J,L,y3,y4⟩:=xx C;grind
theorem Jr.find{t:Z4}(G:∀x∈bR t,lS t.procs.l.length x.1.proc x.2)(B:zQ t){y z:bf}{f:WF}(h:Jr t y z)(D:(z,f)∈bR t):f.kind=3/\h_ t 2 f.message=y:=by have⟨e,I,a,w,C,u,J⟩:=h;cases AP w D rfl;have⟨L,a1,a2,a3⟩:=zR G B D u;exact⟨u,B.snd _ a1 _ a a2 C Zad⟩
theorem Dc{t:Z4}(b:Small t)(J:∀x∈bR t,lS t.procs.l.length x.1.proc x.2)(B:zQ t){z:bf}(D:Vd t z):
 Wp (ec t z) λs=>s.l.length<=2/\∀y,y∈s.l↔Edge t y z:=by
 obtain⟨p,k,f,w,rfl,u⟩:=D.at_;have d:k<1073741824:=by have⟨P,B,I⟩:=w;have:=(b.2 P (mem_of_getElem? B)).1;grind
 have j:∀s:Sl bf,s.l.length<=1->(∀y,y∈s.l↔Vd t y/\(⟨p,k+1⟩:bf)=⟨y.proc,y.index+1⟩)->Wp (ec.J1 s t ⟨p,k+1⟩) λs=>s.l.length<=2/\∀y,y∈s.l↔Edge t y ⟨p,k+1⟩:=by intro s Q C;unfold ec.J1;rw[U6 w Zaa,ζb,b9];constructor;intro G;have G:f.kind=3:=(by grind);rw[find_eq b,ζb];unfold gw;rw[if_pos Zaa,ζb,bg];refine⟨by show(s.l++[_]).length<=2;grind,λy=>?_⟩;show y∈s.l++[h_ t 2 f.message]↔_;rw[mem_append,mem_singleton,C];have⟨e,a1,a2,a3⟩:=zR J B u G;constructor;rintro(h|rfl);exact⟨h.1,D,.inl h.2⟩;exact⟨⟨e,a1⟩,D,.inr ⟨e,f,a1,u,a2,G,a3⟩⟩;rintro⟨c,_,a|a⟩;grind;exact .inr (a.find J B u).2.symm;intro G;refine(bg _).2 ⟨Zaa,λy=>(C y).trans ⟨λh=>⟨h.1,D,.inl h.2⟩,λ⟨c,_,a⟩=>⟨c,a.elim id λa=>?_⟩⟩⟩;have:=(a.find J B u).1;grind
 unfold ec;rw[b9];constructor
 .intro h;have h:k+1>1:=by grind
  refine j _ (by simp[Sl.l]) λy=>?_
  have O:wrap .i64 (k+1-1)=k:=by rw[eB _ Zaa Zaa];omega
  simp only[Sl.l,mem_singleton,O,bf.mk.injEq];constructor
  .rintro rfl;have⟨P,B,I⟩:=w;have:=(ζe.1 I).1;exact⟨⟨P.events.l[k-1],dY.2 ⟨p,k-1,⟨P,B,ζd Zaa⟩,by simp;omega⟩⟩,rfl,rfl⟩
  simp_all
 intro h;refine j _ (by simp[Sl.l]) λy=>⟨λL=>by simp[Sl.l]at L,λ⟨L,I⟩=>?_⟩
 obtain⟨q,i,f,_,rfl,_⟩:=L.at_
 grind
theorem XU{α:Type}{r:α->α->Prop}{x:α}(h:Acc r x):¬TransGen r x x:=by induction h with|intro x _ u=>intro h;cases h with|single h=>exact u x h (.single h)|tail h1 w=>exact u _ w (TransGen.trans (.single w) h1)
theorem Nc:∀{d:S'}{i k:Nat},d[i]?=some k->(d.set i (k+1)).sum=d.sum+1
 |[],_,_,h=>Zad|x::d,0,k,h=>Zac|x::d,i+1,k,h=>by have:=Nc (d:=d) (i:=i) (k:=k) Zac;grind
theorem Pn:∀{d l:S'},d.length=l.length->(∀(i a b:Nat),d[i]?=some a->l[i]?=some b->a<=b)->d.sum<=l.sum
 |[],_,_,_=>Zab|x::d,[],h,_=>Zad|x::d,y::l,h,B=>by have c:=B 0 x y rfl rfl;have u:=Pn (d:=d) (l:=l) Zac λi a b w z=>B (i+1) a b Zac Zac;simp;omega
def nI(d:S'):ST:=d.map Int.ofNat
def sI(s:Zg):Nat:=(s.l.map toNat).sum
theorem IS(d:S'):sI (.row (nI d))=d.sum:=by unfold sI nI;rw[show(Sl.row (d.map Int.ofNat)).l=d.map Int.ofNat from rfl,List.map_map,show(toNat ∘ Int.ofNat)=id from rfl,List.map_id]
theorem Pu(d:S'):(nI d).length=d.length:=by simp[nI]
structure Kh(t:Trace)(d:List Nat):Prop where
 len:d.length=t.procs.l.length
 le:∀(p k:Nat)P,d[p]?=some k->t.procs.l[p]?=some P->k<=P.events.l.length
 acc:∀(p k j:Nat),d[p]?=some k->j<k->Acc (Edge t) ⟨p,j+1⟩
def mz(t:Z4):Nat:=(t.procs.l.map λP=>P.events.l.length).sum
theorem Kh.sum{t:Z4}{d:S'}(h:Kh t d):d.sum<=mz t:=Pn (by simp[h.len]) λi a b z u=>by cases w:t.procs.l[i]?with|none=>grind|some P=>simp[w]at u;rw[<-u];exact h.le i a P z w
theorem FF{d:S'}{p:Nat}(h:p<d.length):Sl.jR (.row (nI d)) (p:Int)=some p:=by unfold Sl.jR;rw[if_pos ⟨Zaa,by simpa[Sl.l,Pu]using h⟩];rfl
theorem Be{d:S'}{p k:Nat}(h:d[p]?=some k):Sl.get (.row (nI d)) p=some (k:Int):=by unfold Sl.get nI;rw[show(Sl.row (d.map Int.ofNat)).l=d.map Int.ofNat from rfl,getElem?_map,h];rfl
def Mv(t:Z4)(B:S')(s:Zg)(b:X')(d:S'):Prop:=s=.row (nI d)/\Kh t d/\B.sum<=d.sum/\(b=true->B.sum<d.sum)
def KQ(t:Z4)(B:S')(p:Nat)(w:Fw (Zg×X'×Int) (Zg×X') Empty):Prop:=∃u z C,w=.n (u,z,((p+1:Nat):Int))/\Mv t B u z C
theorem Xi{t:Z4}(c:Small t)(m:∀x∈bR t,lS t.procs.l.length x.1.proc x.2)(n:zQ t){D o:S'}{s:Zg}{b:X'}{p:Nat}(hp:p<t.procs.l.length)(v:Mv t D s b o):
 Wp (eW.W3 s b p t) (KQ t D p):=by
 have Y:=bJ hp;have hn:=c.1;have af:=(c.2 _ (getElem_mem hp)).1;have C:=ζd hp;generalize t.procs.l[p]=P at *;refine fJ (λq:Zg×X'=>∃d,Mv t D q.1 q.2 d) (λq=>mz t-sI q.1) ⟨o,v⟩ ?_
 rintro⟨s,b⟩ ⟨d,rfl,u,hd,A⟩;have w:p<d.length:=by rw[u.len];omega
 have a:=ζd w;generalize d[p]=k at a;have ah:=u.le p k P a C;have stop:∀{W:Empty->Prop},Wp (some (Fw.x (Sl.row (nI d),b))) (U0 (λq:Zg×X'=>∃d,Mv t D q.1 q.2 d) (λq=>mz t-sI q.1) (λe=>Wp (some (Fw.n (e.1,e.2,wrap .i64 (p+1)))) (KQ t D p)) W (Sl.row (nI d),b)):=by refine(bg _).2 ((bg _).2 ⟨_,_,d,?_,rfl,u,hd,A⟩);rw[cM p Zaa]
 unfold eW.fe;rw[FF w,ζb,Be a,ζb,Y,ζb,b9];refine⟨λh=>?_,λ_=>stop⟩
 have G:k<P.events.l.length:=Zac
 have Z:mF t p k P.events.l[k]:=⟨P,C,ζd G⟩;have z:(⟨p,k+1⟩,P.events.l[k])∈bR t:=dY.2 ⟨p,k,Z,rfl⟩;have go:(P.events.l[k].kind=3->∀q j:Nat,h_ t 2 P.events.l[k].message=⟨q,j+1⟩->∃X,d[q]?=some X/\j<X)->∀{r:Zg×X'->Prop}{W:Empty->Prop},Wp (eW.J4 (.row (nI d)) p t) (U0 (λq:Zg×X'=>∃d,Mv t D q.1 q.2 d) (λq=>mz t-sI q.1) r W (Sl.row (nI d),b)):=by intro E r W;unfold eW.J4;rw[FF w,ζb,Be a,ζb,ζb];unfold Sl.put;rw[if_pos (by simpa[Sl.l,Pu]using w),ζb,bg];have I:(nI d).set p (wrap .i64 ((k:Int)+1))=nI (d.set p (k+1)):=(by rw[cM k Zaa];unfold nI;simp_all);have J:=Nc a;have L:Kh t (d.set p (k+1)):=(by refine⟨by simp[u.len],λq i Q hi g=>?_,λq i j hi F=>?_⟩;rw[getElem?_set]at hi;split at hi;grind;exact u.le q i Q hi g;rw[getElem?_set]at hi;split at hi;rename_i e;subst e;cases hi;by_cases H:j<k;exact u.acc p k j a H;have:j=k:=Zaa;subst this;refine Acc.intro _ λy K=>?_;obtain⟨O,_,l|l⟩:=K;obtain⟨q,i,f,_,rfl,_⟩:=O.at_;simp[bf.mk.injEq]at l;have e1:q=p:=(by omega);subst e1;exact u.acc q j i a Zaa;have⟨B,M⟩:=l.find m n z;obtain⟨q,i,f,_,rfl,_⟩:=O.at_;have⟨X,N,R⟩:=E B q i M;exact u.acc q X i N R;exact u.acc q i j hi F);have ai:=L.sum;refine⟨⟨_,Zac,L,Zac,λ_=>Zac⟩,?_⟩;show mz t-sI (.row ((nI d).set p (wrap .i64 ((k:Int)+1))))<mz t-sI (.row (nI d));rw[I,IS,IS,J];grind
 dsimp only;rw[ζb,ζb,Be a,ζb,bJ G,ζb,b9];refine⟨λB=>?_,λB=>go λh=>by simp[h]at B⟩
 have B:P.events.l[k].kind=3:=by simpa using B
 have⟨e,a1,a2,a3⟩:=zR m n z B;have⟨q,j,S,T⟩:=dY.1 a1;simp only at T;have U:q<d.length:=by have⟨Q,g,_⟩:=S;rw[u.len];exact(ζe.1 g).1
 have V:=ζd U;rw[find_eq c,ζb,T,FF U,ζb,Be V,ζb,b9];refine⟨λ_=>stop,λh=>go λ_ q' j' hh=>?_⟩
 grind
theorem Ow{t:Z4}(a:Small t)(U:∀x∈bR t,lS t.procs.l.length x.1.proc x.2)(B:zQ t):Wp (eW t) λb=>b=true->¬MZ t:=by
 have m:=a.1;unfold eW oL;rw[if_pos Zac,ζb];have g:(Sl.row (replicate (len t.procs).toNat 0))=.row (nI (replicate t.procs.l.length 0)):=by simp[nI]
 rw[g];refine fJ (λs:Zg=>∃d,s=.row (nI d)/\Kh t d) (λs=>mz t-sI s) ⟨_,rfl,Zab,λp k P h _=>Zac,λp k j h o=>Zac⟩ ?_;rintro s ⟨D,rfl,O⟩;refine fJ (λq:Zg×X'×Int=>∃(n:Nat)(d:S'),q.2.2=n/\n<=t.procs.l.length/\Mv t D q.1 q.2.1 d) (λq=>t.procs.l.length-q.2.2.toNat) ⟨0,D,rfl,zero_le _,rfl,O,le_refl _,Zab⟩ ?_;rintro⟨s,b,i⟩ ⟨n,d,hi,Q,c⟩;subst hi;unfold eW.bT;rw[b9];constructor;intro h;have u:n<t.procs.l.length:=by grind
 refine(Xi a U B u c).mono ?_;rintro w ⟨r,v,S,rfl,G⟩;exact⟨⟨n+1,S,rfl,Zaa,G⟩,by simp;omega⟩;intro _;obtain⟨rfl,z,T,I⟩:=c;rw[bg];show Wp (bl b _ _) _;rw[b9];refine⟨λW=>(bg _).2 ⟨⟨d,rfl,z⟩,?_⟩,λ_=>(bg _).2 ?_⟩;show mz t-sI (.row (nI d))<mz t-sI (.row (nI D));rw[IS,IS];have:=I W;have:=z.sum;omega;refine fJ (λi:Int=>∃n:Nat,i=n/\n<=t.procs.l.length/\∀p,p<n->∀P,t.procs.l[p]?=some P->d[p]?=some P.events.l.length) (λi:Int=>t.procs.l.length-i.toNat) ⟨0,rfl,zero_le _,λp J=>absurd J Zaa⟩ ?_;rintro i ⟨n,rfl,X,Y⟩;unfold eW.zI;rw[b9];constructor;intro h;have u:n<t.procs.l.length:=by grind
 have C:n<d.length:=by rw[z.len];omega
 have f:=ζd C;rw[FF C,ζb,Be f,ζb,bJ u,ζb,b9];refine⟨λ_=>(bg _).2 ((bg _).2 λh=>by cases h),λh=>(bg _).2 ⟨⟨n+1,cM n Zaa,Zaa,λp J P B=>?_⟩,by rw[cM n Zaa];simp;omega⟩⟩;by_cases e:p=n;subst e;rw[ζd u]at B;have:=z.le p _ _ f (ζd u);grind;grind;intro h;have Z:t.procs.l.length<=n:=Zac;refine(bg _).2 ((bg _).2 λ_⟨x,L⟩=>?_);obtain⟨p,k,e,⟨P,B,l⟩,rfl,_⟩:=L.l.at_;have y:=(ζe.1 B).1;exact XU (z.acc p _ k (Y p Zaa P B) (ζe.1 l).1) L
def sn(out:aZ (aZ X'))(y:bf):X':=match out[y.proc.toNat]?with
 |some row=>row[y.index.toNat]?.getD false|none=>false
theorem Bg{t:Z4}{out:aZ (aZ X')}{p k:Nat}{row:aZ X'}(a:out[p]?=some row)(b:k+1<row.length){z:bf}(B:Vd t z):
 sn (out.set p (row.set (k+1) true)) z=(decide (z=⟨p,k+1⟩)||sn out z):=by
 obtain⟨q,j,e,_,rfl,_⟩:=B.at_;have C:=(ζe.1 a).1;unfold sn;have e1:(⟨(q:Int),(j:Int)+1⟩:bf).proc.toNat=q:=rfl;have e2:(⟨(q:Int),(j:Int)+1⟩:bf).index.toNat=j+1:=by show((j:Int)+1).toNat=j+1;omega
 rw[e1,e2,getElem?_set]
 by_cases u:p=q
 .subst u;rw[if_pos rfl,if_pos C,a];dsimp only;rw[getElem?_set]
  by_cases w:k=j
  .subst w;simp[b]
  rw[if_neg Zaa,show decide ((⟨(p:Int),(j:Int)+1⟩:bf)=⟨p,k+1⟩)=false from by simp;omega,Bool.false_or]
 rw[if_neg u,show decide ((⟨(q:Int),(j:Int)+1⟩:bf)=⟨p,k+1⟩)=false from by simp;omega,Bool.false_or]
theorem BN{α:Type}{f g:α->X'}:∀{l:aZ α},(∀z∈l,f z=true->g z=true)->(∃z∈l,f z=false/\g z=true)->l.countP f<l.countP g
 |[],_,⟨z,b,_⟩=>by simp at b|a::l,h,⟨z,b,B,hg⟩=>by simp only[countP_cons];have D:=List.countP_mono_left (l:=l) (p:=f) (q:=g) λx u=>h x (mem_cons_of_mem _ u);rcases mem_cons.1 b with rfl|b;simp[B,hg];omega;have:=BN (l:=l) (λx u=>h x (mem_cons_of_mem _ u)) ⟨z,b,B,hg⟩;have c:=h a (mem_cons_self ..);cases w:f a with|true=>simp[c w];omega|false=>simp;split<;>omega
def cnt(t:Z4)(out:aZ (aZ X')):Nat:=(bR t).countP λz=>sn out z.1
structure PSt(t:Trace)(x:bf)(out:List (List Bool))(rest:List bf):Prop where
 shp:∀(p:Nat)P,t.procs.l[p]?=some P->∃row,out[p]?=some row/\row.length=P.events.l.length+1
 len:out.length=t.procs.l.length
 que:∀y∈rest,Way t y x
 snd:∀y,Vd t y->sn out y=true->Way t y x
 cls:∀z,z=x\/Vd t z/\sn out z=true->∀y,Edge t y z->sn out y=true\/y∈rest
 le:rest.length<=2*cnt t out+2
theorem C3{t:Z4}{y:bf}:sn (iq t) y=false:=by
 unfold sn iq;split;rename_i row h;rw[getElem?_map]at h;cases u:t.procs.l[y.proc.toNat]?with|none=>simp[u]at h|some P=>simp[u]at h;subst h;rw[getElem?_replicate];split<;>rfl
 rfl
theorem Vy{t:Z4}(c:Small t)(n:(bR t).length<1073741824)(i:∀x∈bR t,lS t.procs.l.length x.1.proc x.2)(J:zQ t){x:bf}(j:Vd t x):
 Wp (oI t x) λs=>∃out,s=nested out/\PSt t x out []/\∀y,Vd t y->(sn out y=true↔Way t y x):=by
 unfold oI;rw[if_pos (by
  unfold Bt;simp only[ζh,all_eq_true,decide_eq_true_eq];exact⟨by have:=c.1;omega,λP J=>by have:=(c.2 P J).1;omega⟩),dX]
 refine(Dc c i J j).mono λs X=>?_
 refine fJ (λq:aZ (aZ X')×aZ bf=>PSt t x q.1 q.2) (λq=>2*((bR t).length-cnt t q.1)+q.2.length) ⟨λp P J=>⟨replicate (P.events.l.length+1) false,by simp[iq,J],Zab⟩,by simp[iq],λy C=>.single ((X.2 y).1 C),λy _ h=>(by rw[C3]at h;cases h),λz a y C=>?_,by have:=X.1;show s.l.length<=2*cnt t (iq t)+2;omega⟩ ?_
 .rcases a with rfl|⟨_,h⟩
  .exact .inr ((X.2 y).2 C)
  rw[C3]at h;cases h
 rintro⟨out,rest⟩ u
 cases rest with
 |nil=>
  show Wp (some _) _;refine(bg _).2 ((bg _).2 ⟨out,rfl,u,λy C=>⟨u.snd y C,λD=>?_⟩⟩)
  have key:∀w,Way t y w->w=x\/Vd t w/\sn out w=true->sn out y=true:=λw D=>by induction D with|single h=>exactλD=>(u.cls _ D _ h).elim id λh=>by cases h|tail ad L ih=>exactλD=>ih (.inr ⟨L.1,(u.cls _ D _ L).elim id λh=>by cases h⟩)
  exact key x D (.inl rfl)
 |cons y rest=>
  have G:=u.que y (mem_cons_self ..);have I:=G.l;obtain⟨p,k,e,Y,rfl,O⟩:=I.at_;have⟨P,S,l⟩:=Y;have o:=(ζe.1 l).1;have⟨row,b,Z⟩:=u.shp p P S;have B:k+1<row.length:=Zaa
  show Wp (p9 _ (out,⟨p,k+1⟩::rest)) _;unfold p9;have e2:((k:Int)+1).toNat=k+1:=Zaa
  dsimp only;rw[if_pos ⟨Zaa,Zaa⟩,show((p:Nat):Int).toNat=p from rfl,e2,b,ζb,ζd B,ζb,b9]
  have T:sn out ⟨p,k+1⟩=row[k+1]:=by unfold sn;rw[show((⟨(p:Int),(k:Int)+1⟩:bf).proc).toNat=p from rfl,b];dsimp only;rw[e2,ζd B];rfl
  constructor
  .intro d;rw[bg];refine⟨⟨u.shp,u.len,λy C=>u.que y (mem_cons_of_mem _ C),u.snd,λz a y C=>?_,by have:=u.le;simp only[length_cons]at this;show rest.length<=2*cnt t out+2;omega⟩,Nat.add_lt_add_left (Nat.lt_succ_self _) _⟩
   rcases u.cls z a y C with h|h
   .exact .inl h
   rcases mem_cons.1 h with rfl|h
   .exact .inl (by rw[T];exact d)
   exact .inr h
  intro d;rw[dX];refine(Dc c i J I).mono λmore f=>?_
  have m:=u.le;simp only[length_cons]at m;have v:cnt t out<=(bR t).length:=List.countP_le_length;have A:=f.1;have E:cnt t out<cnt t (out.set p (row.set (k+1) true)):=BN (λz a h=>by rw[Bg b B ⟨_,a⟩,h,Bool.or_true]) ⟨_,O,by rw[T,d],by rw[Bg b B I];simp⟩
  have F:cnt t (out.set p (row.set (k+1) true))<=(bR t).length:=List.countP_le_length;rw[if_pos Zaa,bg]
  refine⟨⟨λq Q g=>?_,by show(out.set _ _).length=_;rw[length_set];exact u.len,λz a=>?_,λz a h=>?_,λz a y C=>?_,by show(rest++more.l).length<=_;rw[ζi];show _<=2*cnt t (out.set p (row.set (k+1) true))+2;omega⟩,?_⟩
  .show ∃r,(out.set p (row.set (k+1) true))[q]?=some r/\_;rw[getElem?_set];split
   next e=>subst e;rw[if_pos (ζe.1 b).1];rw[S]at g;cases g;exact⟨_,rfl,by simp[Z]⟩
   exact u.shp q Q g
  .rcases mem_append.1 a with a|a
   .exact u.que z (mem_cons_of_mem _ a)
   exact .trans (.single ((f.2 z).1 a)) G
  .show Way t z x;have h:sn (out.set p (row.set (k+1) true)) z=true:=h;rw[Bg b B a]at h;simp only[or_eq_true,decide_eq_true_eq]at h;rcases h with rfl|h
   .exact G
   exact u.snd z a h
  .show sn (out.set p (row.set (k+1) true)) y=true\/y∈rest++more.l;rw[Bg b B C.1];have U:z=x\/Vd t z/\sn out z=true->(decide (y=⟨p,k+1⟩)||sn out y)=true\/y∈rest++more.l:=λa=>by
    rcases u.cls z a y C with h|h
    .exact .inl (by rw[show sn out y=true from h,Bool.or_true])
    rcases mem_cons.1 h with rfl|h
    .exact .inl Zab
    exact .inr (mem_append_left _ h)
   rcases a with a|⟨W,a⟩
   .exact U (.inl a)
   have a:sn (out.set p (row.set (k+1) true)) z=true:=a;rw[Bg b B W]at a;simp only[or_eq_true,decide_eq_true_eq]at a;rcases a with rfl|a
   .exact .inr (List.mem_append_right _ ((f.2 y).2 C))
   exact U (.inr ⟨W,a⟩)
  show 2*((bR t).length-cnt t (out.set p (row.set (k+1) true)))+(rest++more.l).length<2*((bR t).length-cnt t out)+(_::rest).length;rw[ζi,length_cons];omega
theorem aag{t:Z4}(b:Small t)(Y:(bR t).length<1073741824)(f:∀x∈bR t,lS t.procs.l.length x.1.proc x.2)(G:zQ t):Wp (dn.W6 0 t ⟨0,0⟩) λr=>(r.2=0↔¬MZ t):=by
 have v:=b.1;unfold dn.W6;refine fJ (λi:Int=>∃n:Nat,i=n/\n<=t.procs.l.length/\∀(p k:Nat)e,p<n->mF t p k e->¬Way t ⟨p,k+1⟩ ⟨p,k+1⟩) (λi:Int=>t.procs.l.length-i.toNat) ⟨0,rfl,zero_le _,λp k e T=>absurd T Zaa⟩ ?_;rintro i ⟨n,rfl,Z,U⟩;unfold dn.Me;rw[b9];constructor;intro h;have w:n<t.procs.l.length:=by simpa[len]using h
 have I:=bJ w;have z:=ζd w;have y:=(b.2 _ (getElem_mem w)).1;generalize t.procs.l[n]=P at *;unfold dn.W7;refine fJ (λi:Int=>∃m:Nat,i=m/\m<=P.events.l.length/\∀k,k<m->¬Way t ⟨n,k+1⟩ ⟨n,k+1⟩) (λi:Int=>P.events.l.length-i.toNat) ⟨0,rfl,zero_le _,λk a=>absurd a Zaa⟩ ?_;rintro i ⟨m,rfl,A,a⟩;unfold dn.MO;rw[I,ζb,b9];constructor;intro h;have J:m<P.events.l.length:=by simpa[len]using h
 have L:=cM m Zaa;have c:Vd t ⟨n,m+1⟩:=⟨P.events.l[m],dY.2 ⟨n,m,⟨P,z,ζd J⟩,rfl⟩⟩;rw[L,show(((m+1:Nat)):Int)=(m:Int)+1 from Zab,dX];refine(Vy b Y f G c).mono ?_;rintro s ⟨out,rfl,g,B⟩;have⟨row,d,E⟩:=g.shp n P z;have O:out≠[]:=by rintro rfl;cases d
 have C:m+1<row.length:=Zaa;have j:idx (nested out) (n:Int)=some (.row row):=by unfold nested;rw[if_neg O,jd];show(out.map Sl.row)[n]?=_;rw[getElem?_map,d];rfl
 have l:idx (Sl.row row) ((m:Int)+1)=some row[m+1]:=by rw[show(m:Int)+1=((m+1:Nat):Int)from Zab];exact bJ (s:=Sl.row row) C
 rw[j,ζb,l,ζb,b9];have o:row[m+1]=sn out ⟨n,m+1⟩:=by unfold sn;rw[show((⟨(n:Int),(m:Int)+1⟩:bf).proc).toNat=n from rfl,d];dsimp only;rw[show((m:Int)+1).toNat=m+1 from Zaa,ζd C];rfl
 rw[o];refine⟨λD=>(bg _).2 ((bg _).2 ((bg _).2 ⟨λh=>(by cases h),λh=>absurd ⟨_,(B _ c).1 D⟩ h⟩)),λD=>(bg _).2 ⟨⟨m+1,Zab,Zaa,λk F=>?_⟩,by simp;omega⟩⟩;by_cases e:k=m;subst e;exactλL=>by rw[(B _ c).2 L]at D;cases D
 exact a k Zaa;intro h;have S:P.events.l.length<=m:=by simpa[len]using h
 refine(bg _).2 ((bg _).2 ⟨⟨n+1,cM n Zaa,Zaa,λp k e T u=>?_⟩,by rw[cM n Zaa];simp;omega⟩);by_cases e:p=n;subst e;have⟨Q,W,q⟩:=u;rw[z]at W;cases W;have:=(ζe.1 q).1;exact a k Zaa;exact U p k _ Zaa u;intro h;have S:t.procs.l.length<=n:=by simpa[len]using h
 refine(bg _).2 ((bg _).2 ⟨λ_⟨x,X⟩=>?_,λ_=>rfl⟩);obtain⟨p,k,e,u,rfl,_⟩:=X.l.at_;have⟨P,G,_⟩:=id u;exact U p k e (by have:=(ζe.1 G).1;omega) u X
theorem Kj{t:Z4}(B:∀x∈bR t,lS t.procs.l.length x.1.proc x.2):(∀(p k:Nat)e,mF t p k e->xq t (⟨p,k+1⟩,e)=0)↔zQ t:=Iff.trans ⟨λh x w=>by have⟨p,k,b,u⟩:=dY.1 w;have⟨a,e⟩:=x;simp only at b u;rw[u];exact h p k e b,λh p k e z=>h _ (dY.2 ⟨p,k,z,rfl⟩)⟩ (N2 B)
theorem PO{t:Z4}(d:Small t)(s:(bR t).length<1073741824):Wp (dn t) λr=>(r.2=0↔Ok t):=by
 have E:=d.1;unfold dn;rw[mG,ζb,b9];refine⟨λO=>(bg _).2 ⟨λh=>(by cases h),λh=>?_⟩,λO=>?_⟩;have F:=h.one;have g:=h.few;simp only[or_eq_true,decide_eq_true_eq,len]at O;omega;have g:1<=t.procs.l.length/\t.procs.l.length<=8:=by simp only[or_eq_false_iff,decide_eq_false_iff_not,len]at O;omega
 unfold dn.W1;refine fJ (λi:Int=>∃n:Nat,i=n/\n<=t.procs.l.length/\∀p,p<n->rH t p=0) (λi:Int=>t.procs.l.length-i.toNat) ⟨0,rfl,zero_le _,λp G=>absurd G Zaa⟩ ?_;rintro i ⟨n,rfl,H,o⟩;unfold dn.br;rw[b9];constructor;intro h;have w:n<t.procs.l.length:=by simpa[len]using h
 rw[TY d w,ζb,b9];refine⟨λa=>(bg _).2 ⟨⟨n+1,cM n Zaa,Zaa,λp G=>?_⟩,by rw[cM n Zaa];simp;omega⟩,λa=>(bg _).2 ((bg _).2 ⟨λh=>?_,λh=>?_⟩)⟩;by_cases e:p=n;subst e;simpa using a;exact o p Zaa;simp only at h;simp[h]at a;simp[h.heads n w]at a;intro h;have K:t.procs.l.length<=n:=by simpa[len]using h
 rw[bg];unfold dn.W2;refine fJ (λi:Int=>∃n:Nat,i=n/\n<=t.procs.l.length/\∀(p k:Nat)P e,p<n->t.procs.l[p]?=some P->P.events.l[k]?=some e->pV t.procs.l.length P p k e=0) (λi:Int=>t.procs.l.length-i.toNat) ⟨0,rfl,zero_le _,λp k P e G=>absurd G Zaa⟩ ?_;rintro i ⟨I,rfl,M,W⟩;unfold dn.bT;rw[b9];constructor;intro h;have w:I<t.procs.l.length:=by simpa[len]using h
 have D:=bJ w;have B:=ζd w;have S:=(d.2 _ (getElem_mem w)).1;generalize t.procs.l[I]=P at D B S;unfold dn.W3;refine fJ (λi:Int=>∃m:Nat,i=m/\m<=P.events.l.length/\∀(k:Nat)e,k<m->P.events.l[k]?=some e->pV t.procs.l.length P I k e=0) (λi:Int=>P.events.l.length-i.toNat) ⟨0,rfl,zero_le _,λk e c=>absurd c Zaa⟩ ?_;rintro i ⟨m,rfl,v,c⟩;unfold dn.fe;rw[D,ζb,b9];constructor;intro h;have T:m<P.events.l.length:=by simpa[len]using h
 have C:=ζd T;have f:=cM m Zaa;rw[T6 d B C,ζb,b9];refine⟨λa=>(bg _).2 ⟨⟨m+1,f,Zaa,λk e x u=>?_⟩,by rw[f];simp;omega⟩,λa=>(bg _).2 ((bg _).2 ((bg _).2 ⟨λh=>?_,λh=>?_⟩))⟩;by_cases j:k=m;subst j;rw[C]at u;cases u;simpa using a;exact c k e Zaa u;simp only at h;simp[h]at a;simp[h.fU I m P _ B C]at a;intro h;have J:P.events.l.length<=m:=by simpa[len]using h
 refine(bg _).2 ((bg _).2 ⟨⟨I+1,cM I Zaa,Zaa,λp k Q e G U u=>?_⟩,by rw[cM I Zaa];simp;omega⟩);by_cases l:p=I;subst l;rw[B]at U;cases U;exact c k e (by have:=(ζe.1 u).1;omega) u;exact W p k Q e Zaa U u;intro h;have J:t.procs.l.length<=I:=by simpa[len]using h
 have W:∀(p k:Nat)P e,t.procs.l[p]?=some P->P.events.l[k]?=some e->pV t.procs.l.length P p k e=0:=λp k P e L c=>W p k P e (by have:=(ζe.1 L).1;omega) L c;have X:=H_ W;rw[bg];unfold dn.W4;refine fJ (λi:Int=>∃n:Nat,i=n/\n<=t.procs.l.length/\∀(p k:Nat)e,p<n->mF t p k e->xq t (⟨p,k+1⟩,e)=0) (λi:Int=>t.procs.l.length-i.toNat) ⟨0,rfl,zero_le _,λp k e G=>absurd G Zaa⟩ ?_;rintro i ⟨q,rfl,N,Y⟩;unfold dn.MG;rw[b9];constructor;intro h;have w:q<t.procs.l.length:=by simpa[len]using h
 have D:=bJ w;have B:=ζd w;have S:=(d.2 _ (getElem_mem w)).1;generalize t.procs.l[q]=P at D B S;unfold dn.W5;refine fJ (λi:Int=>∃m:Nat,i=m/\m<=P.events.l.length/\∀(k:Nat)e,k<m->P.events.l[k]?=some e->xq t (⟨q,k+1⟩,e)=0) (λi:Int=>P.events.l.length-i.toNat) ⟨0,rfl,zero_le _,λk e c=>absurd c Zaa⟩ ?_;rintro i ⟨m,rfl,v,c⟩;unfold dn.zI;rw[D,ζb,b9];constructor;intro h;have T:m<P.events.l.length:=by simpa[len]using h
 have C:=ζd T;have f:=cM m Zaa;have z:mF t q m P.events.l[m]:=⟨P,B,C⟩;rw[f,show(((m+1:Nat)):Int)=(m:Int)+1 from Zab,Pp d z (X (⟨q,m+1⟩,P.events.l[m]) (dY.2 ⟨q,m,z,rfl⟩)),ζb,b9];refine⟨λa=>(bg _).2 ⟨⟨m+1,Zab,Zaa,λk e x u=>?_⟩,by simp;omega⟩,λa=>(bg _).2 ((bg _).2 ((bg _).2 ⟨λh=>?_,λh=>?_⟩))⟩;by_cases j:k=m;subst j;rw[C]at u;cases u;simpa using a;exact c k e Zaa u;simp only at h;simp[h]at a;simp[(Kj X).2 h.oM q m _ z]at a;intro h;have J:P.events.l.length<=m:=by simpa[len]using h
 refine(bg _).2 ((bg _).2 ⟨⟨q+1,cM q Zaa,Zaa,λp k e G z=>?_⟩,by rw[cM q Zaa];simp;omega⟩);by_cases l:p=q;subst l;have⟨Q,U,u⟩:=z;rw[B]at U;cases U;exact c k e (by have:=(ζe.1 u).1;omega) u;exact Y p k e Zaa z;intro h;have R:t.procs.l.length<=q:=by simpa[len]using h
 have L:zQ t:=(Kj X).1 λp k e z=>Y p k e (by have⟨P,L,_⟩:=z;have:=(ζe.1 L).1;omega) z;have Z:¬MZ t↔Ok t:=⟨λh=>⟨g.1,g.2,λp G=>o p Zaa,W,L,h⟩,λh=>h.acyc⟩;rw[bg,dX];refine(Ow d X L).mono λb y=>?_;rw[b9];exact⟨λh=>(bg _).2 ⟨λ_=>Z.1 (y h),λ_=>rfl⟩,λ_=>(aag d s X L).mono λr A=>A.trans Z⟩
theorem Cb{t:Z4}(a:Small t)(B:(bR t).length<1073741824):∃b,cH t=some b/\uq t=some b/\(b=true->VT t):=by obtain⟨b,u,c,w⟩:=Ln a B;refine⟨b,u,?_,c⟩;unfold uq;obtain⟨r,d,z⟩:=PO a B;rw[d,ζb];congr 1;rw[Bool.eq_iff_iff,beq_iff_eq,z];exact⟨w,λh=>(c h).ok⟩
theorem SH{t:Z4}(d:Small t){c:Zg}(D:c.l.length=t.procs.l.length){step:Int->a_ (Fw Int Unit Unit)}
 (Y:∀i,step i=bl (decide (i<(len c))) ((idx c i).bind λG=>(bl (decide (G<0)) (some true) ((idx c i).bind λJ=>(idx t.procs i).bind λU=>some (decide (J>(len U.events)))):a_ X').bind λW=>bl W (some (.r ())) (some (.n (wrap .i64 (i+1))))) (some (.x ()))):
 Wp ((bS step 0).bind (Fw.elim (λ_=>some true) (λ_=>some false))) λb=>(b=true↔pQ t c.l):=by
 have f:=d.1;refine fJ (λs:Int=>∃n:Nat,s=n/\n<=c.l.length/\∀(p:Nat)(a:Int)(P:bX),p<n->c.l[p]?=some a->t.procs.l[p]?=some P->0<=a/\a<=P.events.l.length) (λs:Int=>c.l.length-s.toNat) ⟨0,rfl,zero_le _,λp a P h=>absurd h Zaa⟩ ?_
 rintro s ⟨n,rfl,S,I⟩;rw[Y,b9];constructor
 .intro h;have w:n<c.l.length:=by simpa[len]using h
  have u:n<t.procs.l.length:=Zaa
  have L:=cM n Zaa
  rw[bJ w,ζb,ζb,bJ u,ζb,mG,ζb,b9];constructor
  .intro z;have z:c.l[n]<0\/c.l[n]>t.procs.l[n].events.l.length:=by simpa[len]using z
   refine(bg _).2 ((bg _).2 ⟨λh=>(by cases h),λO=>?_⟩)
   have:=O.2 n _ _ (ζd w) (ζd u);omega
  intro z;have z:0<=c.l[n]/\c.l[n]<=t.procs.l[n].events.l.length:=by simpa[len]using z
  refine(bg _).2 ⟨⟨n+1,L,Zaa,λp a P T B C=>?_⟩,by rw[L];simp;omega⟩
  by_cases e:p=n
  .subst e;rw[ζd w]at B;cases B;rw[ζd u]at C;cases C;exact z
  exact I p a P Zaa B C
 intro h;have Q:c.l.length<=n:=by simpa[len]using h
 refine(bg _).2 ((bg _).2 ⟨λ_=>⟨D,λp a P B C=>I p a P (by have:=(ζe.1 B).1;omega) B C⟩,λ_=>rfl⟩)
theorem WC{t:Z4}(a:Small t){c:Zg}(B:c.l.length=t.procs.l.length):Wp (oe t c) λb=>(b=true↔pQ t c.l):=by unfold oe;rw[show(len c==len t.procs)=true from by simp[len,B],bH];exact SH a B λi=>rfl
theorem GQ{t:Z4}(a:VT t){A:cq 200 bD}(b:fN t (bR t) A){p k:Nat}{e:WF}(B:mF t p k e)(c:e.kind=3):h_ t 2 e.message=(ag A e.message).from_:=by have⟨y,d,u,w⟩:=zR a.formed a.ok.oM (dY.2 ⟨p,k,B,rfl⟩:((⟨p,k+1⟩:bf),e)∈bR t) c;have:=b.snd _ d u;simp only[w]at this;exact this.symm
theorem Mg(t:Z4)(kind m:Int):h_ t kind m=⟨0,0⟩/\(∀x∈bR t,¬(x.2.kind=kind/\x.2.message=m))\/∃z,(h_ t kind m,z)∈bR t/\z.kind=kind/\z.message=m:=by cases h:(bR t).find? (l8 kind m)with|some x=>have⟨a1,a2,a3,a4⟩:=xx h;exact .inr ⟨x.2,by rw[a4];exact a1,a2,a3⟩|none=>rw[find?_eq_none]at h;have u:∀x∈bR t,¬(x.2.kind=kind/\x.2.message=m):=λx w=>(by have:=h x w;simpa[l8]using this);exact .inl ⟨On u,u⟩
theorem MA{t:Z4}(a:VT t){r s:bf}{z e:WF}(b:(r,z)∈bR t)(D:z.kind=3)(B:(s,e)∈bR t)(G:e.kind=2)(J:e.message=z.message):e.peer=r.proc/\z.peer=s.proc:=by
 have h:=a.ok.oM.has _ b D;have L:0<=z.peer:=by rcases a.formed _ b with h|⟨_,h,_⟩;simp only at h;omega;exact h
 rw[show z.peer=((z.peer.toNat:Nat):Int)from Zaa,Ag]at h;have⟨k,y,w,c,C,I⟩:=h;have u:((⟨(z.peer.toNat:Nat),k+1⟩:bf),y)∈bR t:=dY.2 ⟨_,k,w,rfl⟩;have:=a.ok.oM.snd _ u _ B c G (by rw[J];exact C);simp only at this;subst this;cases AP u B rfl;exact⟨I,by simp only;omega⟩
def rU(t:Z4)(c:ST)(e:WF):X':=(h_ t 3 e.message).index==0||decide ((h_ t 3 e.message).index>(c[(h_ t 3 e.message).proc.toNat]?).getD 0)
theorem Bj{α:Type}(f g:α->X'):∀l:aZ α,l.countP f=l.countP (λx=>f x&&g x)+l.countP (λx=>f x&& !g x)
 |[]=>rfl|x::l=>by simp only[countP_cons,Bj f g l];cases f x<;>cases g x<;>simp<;>omega
theorem vD{α:Type}{f:α->X'}{l:aZ α}{n k:Nat}:k∈places f (l.take n)↔k<n/\∃x,l[k]?=some x/\f x=true:=by rw[Om];simp only[getElem?_take];constructor;rintro⟨x,a,u⟩;split at a;exact⟨‹_›,x,a,u⟩;cases a;rintro⟨h,x,a,u⟩;exact⟨x,by rw[if_pos h];exact a,u⟩
theorem Wj{t:Z4}(i:VT t){A:cq 200 bD}(hM:fN t (bR t) A){c:ST}(E:Cons t A c){p q:Nat}{P Q:bX}{a b:Int}(J:t.procs.l[p]?=some P)(D:t.procs.l[q]?=some Q)(N:c[p]?=some a)(s:c[q]?=some b):
 (Q.events.l.take b.toNat).countP (zT p)=(P.events.l.take a.toNat).countP λe=>gF q e&& !rU t c e:=by
 have f:∀{p:Nat}{P:bX}{k:Nat}{e:WF},t.procs.l[p]?=some P->P.events.l[k]?=some e->((⟨p,k+1⟩:bf),e)∈bR t:=λJ g=>dY.2 ⟨_,_,⟨_,J,g⟩,rfl⟩
 have a0:=(E.1.2 p a P N J).1;have b0:=(E.1.2 q b Q s D).1;have r1:∀k,k∈places (zT p) (Q.events.l.take b.toNat)->∃(z:WF)(j:Nat)(e:WF),Q.events.l[k]?=some z/\z.kind=3/\P.events.l[j]?=some e/\e.kind=2/\e.peer=q/\e.message=z.message/\h_ t 2 z.message=⟨p,j+1⟩/\(j:Int)+1<=a/\(k:Int)+1<=b:=λk g=>by have⟨ai,z,d,u⟩:=vD.1 g;have u:z.kind=3/\z.peer=p:=(by simpa[zT]using u);have R:=f D d;have⟨e,e1,e2,e3⟩:=zR i.formed i.ok.oM R u.1;have⟨l,m⟩:=MA i R u.1 e1 e2 e3;have⟨p',j,⟨P',Z,n⟩,G⟩:=dY.1 e1;simp only at l G n;rw[G]at m;have ab:p'=p:=(by simp only at m;omega);subst ab;rw[J]at Z;cases Z;have⟨x,C,I⟩:=E.2 q k z b ⟨Q,D,d⟩ s Zaa u.1;rw[<-GQ i hM ⟨Q,D,d⟩ u.1,G]at C I;simp only[toNat_natCast]at C I;rw[N]at C;cases C;exact⟨z,j,e,d,u.1,n,e2,l,e3,G,I,Zaa⟩
 have F:∀k,k∈places (λe=>gF q e&& !rU t c e) (P.events.l.take a.toNat)->∃(e:WF)(j:Nat)(z:WF),P.events.l[k]?=some e/\e.kind=2/\Q.events.l[j]?=some z/\z.kind=3/\z.peer=p/\z.message=e.message/\h_ t 3 e.message=⟨q,j+1⟩/\(j:Int)+1<=b:=λk g=>by have⟨aj,e,d,u⟩:=vD.1 g;simp only[ζh,not_eq_true',rU,or_eq_false_iff,gF,beq_iff_eq,beq_eq_false_iff_ne,decide_eq_false_iff_not]at u;have⟨⟨g1,g2⟩,g3,g4⟩:=u;rcases Mg t 3 e.message with⟨h,_⟩|⟨z,v,y,z3⟩;rw[h]at g3;exact absurd rfl g3;have⟨l,m⟩:=MA i v y (f J d) g1 z3.symm;have⟨q',j,⟨Q',V,n⟩,G⟩:=dY.1 v;simp only at G n l m;rw[G]at l g4;have ad:q'=q:=(by simp only at l;omega);subst ad;rw[D]at V;cases V;simp only[toNat_natCast,s,getD_some]at g4;exact⟨e,j,z,d,g1,n,y,m,z3,G,Zaa⟩
 apply Nat.le_antisymm
 .refine G5 (λk=>match Q.events.l[k]?with|some z=>((h_ t 2 z.message).index-1).toNat|none=>0) (λk g=>?_) λk H g L K=>?_
  .have⟨z,j,e,d,u,O,o,r,S,T,h8,h9⟩:=r1 k g;rw[d];simp only[T];rw[show((j:Int)+1-1).toNat=j from Zaa]
   refine vD.2 ⟨Zaa,e,O,?_⟩
   have ae:h_ t 3 e.message=⟨q,k+1⟩:=by rcases Mg t 3 e.message with⟨_,h⟩|⟨z',v,y,z3⟩;exact absurd ⟨u,S.symm⟩ (h _ (f D d));exact i.ok.oM.rcv _ v _ (f D d) y u (by rw[z3,S])
   simp only[rU,ae,gF,o,r,toNat_natCast,s,getD_some];simp;omega
  have⟨z,j,e,d,u,O,o,r,S,T,_⟩:=r1 k g;have⟨z',M,e',w,U,B,af,ah,W,X,_⟩:=r1 H L;simp only[d,w,T,X]at K;have Y:j=M:=Zaa
  subst Y;rw[O]at B;cases B;have:=i.ok.oM.rcv _ (f D d) _ (f D w) u U (by rw[<-S,W])
  simp only[bf.mk.injEq]at this;omega
 refine G5 (λk=>match P.events.l[k]?with|some e=>((h_ t 3 e.message).index-1).toNat|none=>0) (λk g=>?_) λk H g L K=>?_
 .have⟨e,j,z,d,u,O,o,r,S,T,h8⟩:=F k g;rw[d];simp only[T];rw[show((j:Int)+1-1).toNat=j from Zaa]
  exact vD.2 ⟨Zaa,z,O,by simp[zT,o,r]⟩
 have⟨e,j,z,d,u,O,o,r,S,T,_⟩:=F k g;have⟨e',M,z',w,U,B,af,ah,W,X,_⟩:=F H L;simp only[d,w,T,X]at K;have Y:j=M:=Zaa
 subst Y;rw[O]at B;cases B;have:=i.ok.oM.snd _ (f J d) _ (f J w) u U (by rw[<-S,W])
 simp only[bf.mk.injEq]at this;omega
theorem Hg{t:Z4}(d:VT t){A:cq 200 bD}(f:fN t (bR t) A){c:ST}(g:Cons t A c){p q:Nat}{P Q:bX}{a b:Int}(B:t.procs.l[p]?=some P)(D:t.procs.l[q]?=some Q)(G:c[p]?=some a)(J:c[q]?=some b):
 under t c p q=((P.events.l.take a.toNat).countP λe=>gF q e&&rU t c e:Nat):=by
 unfold under;rw[B,D,G,J];dsimp only;rw[Wj d f g B D G J,Bj (gF q) (rU t c)];omega
theorem fD{σ ε ρ γ:Type}{step:σ->a_ (Fw σ ε ρ)}{fx:ε->a_ γ}{fr:ρ->a_ γ}{P:γ->Prop}(n:Nat)(I:Nat->σ->Prop){s:σ}(c:I 0 s)
 (h:∀i s,i<n->I i s->Wp (step s) λw=>match w with|.n B=>I (i+1) B|.x e=>Wp (fx e) P|.r b=>Wp (fr b) P)
 (D:∀s,I n s->Wp (step s) λw=>match w with|.n _=>False|.x e=>Wp (fx e) P|.r b=>Wp (fr b) P):Wp ((bS step s).bind (Fw.elim fx fr)) P:=by
 have key:∀m i s,i+m=n->I i s->Wp ((bS step s).bind (Fw.elim fx fr)) P:=by
  intro m
  induction m with
  |zero=>intro i s hi z;have⟨w,u,a⟩:=D s Zac;rw[eD,u];cases w with|n B=>grind|x e=>exact a|r b=>exact a
  |succ m C=>intro i s hi z;have⟨w,u,a⟩:=h i s Zaa z;rw[eD,u];cases w with|n B=>grind|x e=>exact a|r b=>exact a
 exact key n 0 s (Nat.zero_add n) c
def bump(c:ST)(p:Nat)(d:Int):ST:=c.set p ((c[p]?).getD 0+d)
theorem p_:∀{c:ST}{p:Nat}{a b:Int},c[p]?=some a->(c.set p b).sum=c.sum-a+b
 |[],_,_,_,h=>Zad|x::c,0,a,b,h=>Zac|x::c,p+1,a,b,h=>by have:=p_ (b:=b) (by simpa using h);grind
theorem rI:∀{c:ST},(∀(p:Nat)a,c[p]?=some a->0<=a)->0<=c.sum
 |[],_=>Zab|x::c,h=>by have b:=h 0 x rfl;have u:=rI (c:=c) λp a w=>h (p+1) a Zac;grind
theorem Ld:∀{c:ST},(∀(p:Nat)a,c[p]?=some a->0<=a)->c.sum=0->∀(p:Nat)a,c[p]?=some a->a=0
 |[],_,_,p,a,B=>Zad|x::c,h,D,p,a,B=>by have d:=h 0 x rfl;have b:∀(p:Nat)a,c[p]?=some a->0<=a:=λp a B=>h (p+1) a Zac;have u:=rI b;simp at D;cases p with|zero=>grind|succ p=>exact Ld b Zaa p a Zac
theorem MX:∀{c:ST}{l:S'},c.length=l.length->(∀(i:Nat)a b,c[i]?=some a->l[i]?=some b->a<=(b:Nat))->c.sum<=(l.sum:Nat)
 |[],[],_,_=>Zab|x::c,y::l,B,h=>by have d:=h 0 x y rfl rfl;have u:=MX (c:=c) (l:=l) Zac λi a b w z=>h (i+1) a b Zac Zac;grind
section
variable{t:Z4}{A:cq 200 bD}{c:ST}
theorem pQ.pos(h:pQ t c)(p:Nat)(a:Int)(B:c[p]?=some a):0<=a:=(h.2 p a _ B (ζd (by have:=(ζe.1 B).1;rw[<-h.1];simp_all))).1
theorem pQ.at_(h:pQ t c){p:Nat}(hp:p<t.procs.l.length):∃a,c[p]?=some a:=⟨_,ζd (by rw[h.1];omega)⟩
theorem pQ.sum(h:pQ t c):0<=c.sum/\c.sum<=(mz t:Nat):=
 ⟨rI h.pos,MX (by simp[h.1]) λi a b z u=>by
  cases w:t.procs.l[i]?with
  |none=>grind|some P=>simp[w]at u;rw[<-u];exact(h.2 i a P z w).2⟩
theorem pQ.set(h:pQ t c){p:Nat}{b:Int}{P:bX}(B:t.procs.l[p]?=some P)(d:0<=b)(e:b<=P.events.l.length):pQ t (c.set p b):=by refine⟨by simp[h.1],λq a Q u w=>?_⟩;rw[getElem?_set]at u;split at u;grind;exact h.2 q a Q u w
def R6(t:Z4)(A:cq 200 bD)(c:ST)(p:Nat):Prop:=∃P e a,t.procs.l[p]?=some P/\c[p]?=some a/\P.events.l[a.toNat]?=some e/\(e.kind=3->∃b,c[(ag A e.message).from_.proc.toNat]?=some b/\(ag A e.message).from_.index<=b)
theorem mF.one{p k:Nat}{e f:WF}(h:mF t p k e)(g:mF t p k f):e=f:=by have⟨P,a1,a2⟩:=h;have⟨Q,u,w⟩:=g;grind
theorem nQ.le(h:nQ t A c){p:Nat}{a b:Int}(G:c[p]?=some a)(J:a<=b)(U:∀(k:Nat)e,mF t p k e->a<=k->(k:Int)<b->e.kind=3->∃B,(c.set p b)[(ag A e.message).from_.proc.toNat]?=some B/\(ag A e.message).from_.index<=B):nQ t A (c.set p b):=by
 have L:=(ζe.1 G).1;have up:∀(q:Nat)x,c[q]?=some x->∃y,(c.set p b)[q]?=some y/\x<=y:=λq x u=>by rw[getElem?_set];grind
 intro q k e x w u d I;rw[getElem?_set]at u;have C:∀x,c[q]?=some x->k<x->∃B,(c.set p b)[(ag A e.message).from_.proc.toNat]?=some B/\(ag A e.message).from_.index<=B:=λx u d=>by have⟨y,O,Q⟩:=h q k e x w u d I;have⟨z,S,T⟩:=up _ y O;exact⟨z,S,Zaa⟩
 split at u;rename_i W;subst W;simp[L]at u;subst u;by_cases D:k<a;exact C a G D;exact U k e w Zaa d I;grind
theorem AX(a:VT t)(b:fN t (bR t) A){p k:Nat}{e:WF}(B:mF t p k e)(D:e.kind=3):∃q j:Nat,(ag A e.message).from_=⟨q,j+1⟩/\q≠p/\Jr t ⟨q,j+1⟩ ⟨p,k+1⟩/\∃y,mF t q j y:=by have⟨q,j,y,u,z,C,y3,y4,y5⟩:=D7 a b B D;have w:(⟨p,k+1⟩,e)∈bR t:=dY.2 ⟨p,k,B,rfl⟩;refine⟨q,j,y5,?_,⟨y,e,dY.2 ⟨q,j,u,rfl⟩,w,z,D,C⟩,y,u⟩;rcases a.formed _ w with h|⟨_,_,_,h,_⟩;grind;grind
theorem Cons.up(g:VT t)(i:fN t (bR t) A)(d:Cons t A c){p:Nat}{a:Int}{P:bX}(B:t.procs.l[p]?=some P)(D:c[p]?=some a)(U:a<P.events.l.length):R6 t A c p↔Cons t A (c.set p (a+1)):=by have l:=d.1.pos p a D;have W:=(ζe.1 D).1;constructor;rintro⟨Q,e,x,G,I,L,w⟩;rw[B]at G;cases G;rw[D]at I;cases I;refine⟨d.1.set B Zaa Zaa,d.2.le D Zaa λk f z O S X=>?_⟩;have C:k=a.toNat:=Zaa;subst C;cases z.one ⟨P,B,L⟩;grind;intro h;have u:a.toNat<P.events.l.length:=Zaa;refine⟨P,P.events.l[a.toNat],a,B,D,ζd u,λw=>?_⟩;have⟨b,J,T⟩:=h.2 p a.toNat _ (a+1) ⟨P,B,ζd u⟩ Zad Zaa w;rw[getElem?_set]at J;split at J;have⟨q,j,m,n,_⟩:=AX g i ⟨P,B,ζd u⟩ w;grind;grind
noncomputable def Kx (t:Trace) (x:bf):Nat:=by
 classical
 exact(bR t).countP λz=>decide (Way t z.1 x)
theorem Mt (hV:VT t) {x y:bf} (h:Way t x y):Kx t x<Kx t y:=by
 classical
 refine BN (λz _ u=>?_) ?_
 .have u:Way t z.1 x:=by grind
  simpa using u.trans h
 obtain⟨e,w⟩:=h.l;exact⟨(x,e),w,by simpa using λk=>hV.ok.acyc ⟨x,k⟩,by grind⟩
theorem WE (x:bf):Kx t x<=(bR t).length:=by
 classical
 unfold Kx;grind
theorem Vd.of{p k:Nat}{e:WF}(h:mF t p k e):Vd t ⟨p,k+1⟩:=⟨e,dY.2 ⟨p,k,h,rfl⟩⟩
theorem JA{p:Nat}{P:bX}(B:t.procs.l[p]?=some P):∀(d k:Nat),k+d+1<P.events.l.length->Way t ⟨p,k+1⟩ ⟨p,((k+d+1:Nat):Int)+1⟩
 |0,k,h=>.single ⟨Vd.of ⟨P,B,ζd Zaa⟩,Vd.of ⟨P,B,ζd h⟩,.inl Zab⟩|d+1,k,h=>(JA B d k Zaa).tail ⟨Vd.of ⟨P,B,ζd (show k+d+1<_ by omega)⟩,Vd.of ⟨P,B,ζd h⟩,.inl (by simp;omega)⟩
theorem YI{q k:Nat}{b:Int}{Q:bX}{x:bf}(B:t.procs.l[q]?=some Q)(h:Way t x ⟨q,k+1⟩)(a:(k:Int)<b)(D:b<=Q.events.l.length):Way t x ⟨q,b⟩:=by by_cases e:b=k+1;grind;have:=JA B (b.toNat-k-2) k Zaa;rw[show((k+(b.toNat-k-2)+1:Nat)+1)=b from Zaa]at this;exact h.trans this
theorem Cons.ME(f:VT t)(g:fN t (bR t) A)(d:Cons t A c){p:Nat}{a:Int}(D:c[p]?=some a)(m:0<a):Cons t A (c.set p (a-1))\/∃(q:Nat)(b:Int),c[q]?=some b/\0<b/\Way t ⟨p,a⟩ ⟨q,b⟩:=by
 have Y:=(ζe.1 D).1;have L:=ζd (show p<t.procs.l.length by rw[<-d.1.1];omega);have n:=d.1.2 p a _ D L;refine byContradiction λB=>B (.inl ⟨d.1.set L Zaa Zaa,λq k e x u I o O=>?_⟩);obtain⟨z,w,Z⟩:∃z,c[q]?=some z/\x<=z:=by rw[getElem?_set]at I;split at I;(next e2=>subst e2;simp[Y]at I;exact⟨a,D,Zaa⟩);grind
 have⟨y,G,C⟩:=d.2 q k e z u w Zaa O;have⟨r,j,h,s,i,_⟩:=AX f g u O;rw[h]at G C⊢;simp only[toNat_natCast]at G C⊢;by_cases e2:p=r;subst e2;rw[D]at G;cases G;refine⟨a-1,Zad,?_⟩;refine byContradiction λv=>B (.inr ⟨q,z,w,Zaa,?_⟩);have:a=j+1:=Zaa;subst this;have⟨Q,S,_⟩:=u;have J:=d.1.2 q z Q w S;have⟨T,U,W,X,l⟩:=i;exact YI S (.single ⟨⟨T,W⟩,⟨U,X⟩,.inr ⟨T,U,W,X,l⟩⟩) Zaa J.2;simp_all
theorem Cons.aaa(d:VT t)(f:fN t (bR t) A)(g:Cons t A c):∀(n p:Nat)(a:Int),c[p]?=some a->0<a->(bR t).length-Kx t ⟨p,a⟩<=n->∃(q:Nat)(b:Int),c[q]?=some b/\0<b/\Cons t A (c.set q (b-1)):=by
 intro n
 induction n with
 |zero=>intro p a u e B;rcases g.ME d f u e with h|⟨q,b,_,_,w⟩;grind;have:=Mt d w;have:=WE (t:=t) ⟨q,b⟩;omega
 |succ n C=>intro p a u e B;rcases g.ME d f u e with h|⟨q,b,D,z,w⟩;grind;have:=Mt d w;exact C q b D z Zaa
theorem Cons.down(e:VT t)(f:fN t (bR t) A)(d:Cons t A c)(B:0<c.sum):∃(q:Nat)(b:Int),c[q]?=some b/\0<b/\Cons t A (c.set q (b-1)):=by
 obtain⟨p,a,u,g⟩:∃(p:Nat)(a:Int),c[p]?=some a/\0<a:=by refine byContradiction λw=>?_;have C:∀a∈c,a=0:=λa u=>(by have⟨p,z⟩:=List.mem_iff_getElem?.1 u;have:=d.1.pos p a z;grind);have:c.sum=0:=(by clear d B w;induction c with|nil=>rfl|cons x c D=>simp_all);omega
 exact d.aaa e f _ p a u g (le_refl _)
theorem Cons.GL(a:VT t)(e:fN t (bR t) A):∀(d:Nat){c:ST}{k:Nat},Cons t A c->c.sum=((k+d:Nat):Int)->∃c',Cons t A c'/\c'.sum=(k:Int)
 |0,c,k,hC,D=>⟨c,hC,Zac⟩|d+1,c,k,hC,D=>by have⟨q,b,G,J,B⟩:=hC.down a e Zaa;exact Cons.GL a e d B (by rw[p_ G];omega)
end
theorem iL{α:Type}{s:Sl α}{n:Nat}(h:n<s.l.length):decide ((n:Int)<len s)=true:=by simp[len];omega
theorem jm{α:Type}{s:Sl α}:decide ((s.l.length:Int)<len s)=false:=by simp[len]
theorem Co{α:Type}{s x:Sl α}(h:s.l.length+x.l.length<=2147483648):∃r,oH s x=some r/\r.l=s.l++x.l:=by unfold oH;by_cases e:x.l=[];rw[if_pos e];exact⟨s,rfl,by rw[e,List.append_nil]⟩;rw[if_neg e,if_pos h];exact⟨_,rfl,rfl⟩
theorem nM{α:Type}{s:Sl α}{x:α}(h:s.l.length<2147483648):∃r,gw s x=some r/\r.l=s.l++[x]:=by unfold gw;rw[if_pos Zaa];exact⟨_,rfl,rfl⟩
theorem wB{α:Type}{s:Sl α}{p:Nat}(h:p<s.l.length):Sl.jR s (p:Int)=some p:=by unfold Sl.jR;rw[if_pos ⟨Zaa,by simpa using h⟩];rfl
theorem put_eq{α:Type}{s:Sl α}{p:Nat}{x:α}(h:p<s.l.length):∃r,Sl.put s p x=some r/\r.l=s.l.set p x:=by unfold Sl.put;rw[if_pos h];exact⟨_,rfl,by cases s<;>first|rfl|(simp[Sl.l]at h)⟩
section
variable{t:Z4}{A:cq 200 bD}
def ClN(t:Z4)(A:cq 200 bD)(c:ST)(n:Nat):Prop:=∀(p k:Nat)(e:WF)(a:Int),p<n->mF t p k e->c[p]?=some a->(k:Int)<a->e.kind=3->∃b,c[(ag A e.message).from_.proc.toNat]?=some b/\(ag A e.message).from_.index<=b
theorem Zl(i:Small t)(d:VT t)(l:fN t (bR t) A){c:Zg}(Y:pQ t c.l):Wp (d_ t c) λb=>(b=true↔nQ t A c.l):=by
 have F:=Y.1;have H:=d.few;unfold d_ d_.W1;refine fD c.l.length (λn s=>s=(n:Int)/\ClN t A c.l n) ⟨rfl,λp k e a h=>absurd h Zaa⟩ ?_ ?_;rintro n _ B ⟨rfl,T⟩;unfold d_.br;rw[iL B,bH];have z:n<t.procs.l.length:=by omega
 have K:=(i.2 _ (getElem_mem z)).1;have C:=ζd z;have D:=ζd B;have⟨r1,r2⟩:=Y.2 n _ _ D C;have J:=bJ B;generalize c.l[n]=a at *;generalize t.procs.l[n]=P at *;unfold d_.W2;refine fD a.toNat (λm s=>s=(m:Int)/\∀(k:Nat)(e:WF),k<m->mF t n k e->e.kind=3->∃b,c.l[(ag A e.message).from_.proc.toNat]?=some b/\(ag A e.message).from_.index<=b) ⟨rfl,λk e h=>absurd h Zaa⟩ ?_ ?_;rintro m _ M ⟨rfl,U⟩;unfold d_.bT;have L:m<P.events.l.length:=by omega
 have u:mF t n m P.events.l[m]:=⟨P,C,ζd L⟩;rw[J,ζb,show decide ((m:Int)<a)=true from by simp;omega,bH,jd,C,ζb,bJ L,ζb,cM m Zaa];generalize P.events.l[m]=e at *;have more:(e.kind=3->∃b,c.l[(ag A e.message).from_.proc.toNat]?=some b/\(ag A e.message).from_.index<=b)->∀(k:Nat)(e:WF),k<m+1->mF t n k e->e.kind=3->∃b,c.l[(ag A e.message).from_.proc.toNat]?=some b/\(ag A e.message).from_.index<=b:=λh k f o Z w=>by by_cases r:k=m;subst r;cases u.one Z;exact h w;exact U k f Zaa Z w
 rw[b9];refine⟨λw=>?_,λw=>(bg _).2 ⟨rfl,more λk=>by simp[k]at w⟩⟩;have w:e.kind=3:=by simpa using w
 have⟨q,j,g,_,_,y,Q,v,_⟩:=AX d l u w;have G:q<c.l.length:=by have:=(ζe.1 v).1;omega
 rw[find_eq i,GQ d l u w,ζb,g];simp only;rw[bJ G,ζb,b9];refine⟨λW=>(bg _).2 ((bg _).2 ((bg _).2 ⟨λh=>(by cases h),λE=>?_⟩)),λX=>(bg _).2 ⟨rfl,more λ_=>?_⟩⟩;have⟨b,O,S⟩:=E n m e a u D Zaa w;rw[g]at O S;simp only[toNat_natCast,ζd G,ζa]at O S;simp only[decide_eq_true_eq]at W;omega;rw[g];exact⟨c.l[q],by simp only[toNat_natCast];exact ζd G,by simp at X⊢;omega⟩;rintro _ ⟨rfl,U⟩;unfold d_.bT;rw[J,ζb,show decide ((a.toNat:Int)<a)=false from by simp;omega,bE];refine(bg _).2 ((bg _).2 ⟨cM n Zaa,λp k e x hp u I o w=>?_⟩);by_cases e2:p=n;subst e2;rw[D]at I;cases I;exact U k e Zaa u w;exact T p k e x Zaa u I o w;rintro _ ⟨rfl,T⟩;unfold d_.br;rw[jm,bE];exact(bg _).2 ((bg _).2 ⟨λ_ p k e a u I=>T p k e a (ζe.1 I).1 u I,λ_=>rfl⟩)
theorem aaz(a:Small t)(d:VT t)(e:fN t (bR t) A){c:Zg}(B:c.l.length=t.procs.l.length):Wp (yu t c) λb=>(b=true↔Cons t A c.l):=by unfold yu;rw[dX];refine(WC a B).mono λb w=>?_;rw[dX,b9];constructor;intro h;have z:=w.1 h;rw[dX];refine(Zl a d e z).mono λC u=>?_;rw[bg,bg];exact u.trans ⟨λh=>⟨z,h⟩,λh=>h.2⟩;intro h;rw[bg,bg];exact⟨λh=>(by cases h),λf=>absurd (w.2 f.1) (by simp[h])⟩
theorem step_eq{c:Zg}{p:Nat}{a:Int}(B:c.l[p]?=some a)(G:c.l.length<=1073741824)(b:0<=a)(e:a<1073741824):∃d:Zg,sA c p=some d/\d.l=c.l.set p (a+1):=by have w:=(ζe.1 B).1;unfold sA;have⟨r,z,u⟩:=Co (s:=Sl.row []) (x:=c) (show 0+c.l.length<=_ by omega);have u:r.l=c.l:=u;rw[z,ζb,wB (by rw[u];exact w),ζb];unfold Sl.get;rw[u,B,ζb,ζb,eB _ Zaa Zaa];have⟨d,C,D⟩:=put_eq (s:=r) (p:=p) (x:=a+1) (by rw[u];exact w);rw[C];exact⟨d,rfl,by rw[D,u]⟩
end
def ins(s:Zb):aZ ST:=s.l.map Sl.l
theorem Da{α:Type}(s:Sl α)(i:Nat)(h:i<=s.l.length):∃x,fZ s (some (i:Int)) none=some x/\x.l=s.l.drop i:=by unfold fZ eu;simp only[getD_some,Option.getD_none];rw[if_pos ⟨Zaa,Zaa,Zaa⟩];exact⟨_,rfl,by cases s<;>simp[Sl.l]⟩
def DP(t:Z4)(A:cq 200 bD)(c d:ST):Prop:=∃(p:Nat)(a:Int),c[p]?=some a/\d=c.set p (a+1)/\Cons t A d
section
variable{t:Z4}{A:cq 200 bD}
theorem qo{s:Zb}{d:ST}:d∈ins s↔∃x∈s.l,x.l=d:=by unfold ins;exact mem_map
theorem Md{r s:Zb}{x:Zg}(h:r.l=s.l++[x]){d:ST}:d∈ins r↔d∈ins s\/d=x.l:=by unfold ins;rw[h];simp
theorem Wf(f:Small t)(g:VT t)(j:fN t (bR t) A){c:Zg}(i:Cons t A c.l):Wp (jI t c) λr=>r.l.length<=8/\∀d,d∈ins r↔DP t A c.l d:=by
 have J:=i.1.1;have T:=g.few;unfold jI jI.W1;refine fD c.l.length (λn s=>s.2=(n:Int)/\s.1.l.length<=n/\∀d,d∈ins s.1↔∃(p:Nat)(a:Int),p<n/\c.l[p]?=some a/\d=c.l.set p (a+1)/\Cons t A d) ⟨rfl,le_refl _,λd=>⟨λh=>by simp[ins,Sl.l]at h,λ⟨p,a,h,_⟩=>absurd h Zaa⟩⟩ ?_ ?_;rintro n ⟨out,_⟩ B ⟨h,u,G⟩;simp only at h u G;subst h;have w:n<t.procs.l.length:=by omega
 have U:=(f.2 _ (getElem_mem w)).1;have z:=ζd B;have l:=i.1.2 n _ _ z (ζd w);unfold jI.br;rw[iL B,bH,bJ B,ζb,bJ w,ζb,cM n Zaa];generalize c.l[n]=a at *;have keep:¬Cons t A (c.l.set n (a+1))->∀d,d∈ins out↔∃(p:Nat)(a:Int),p<n+1/\c.l[p]?=some a/\d=c.l.set p (a+1)/\Cons t A d:=λL d=>by rw[G];refine⟨λ⟨p,b,h,k⟩=>⟨p,b,Zaa,k⟩,λ⟨p,b,h,k1,k2,k3⟩=>⟨p,b,?_,k1,k2,k3⟩⟩;refine byContradiction λX=>L ?_;have:p=n:=Zaa;subst this;rw[z]at k1;cases k1;rw[<-k2];exact k3
 by_cases C:a<t.procs.l[n].events.l.length;have⟨d,hd,D⟩:=step_eq (c:=c) z Zaa l.1 Zaa;rw[show decide (a<(len t.procs.l[n].events))=true from by simpa[len]using C,bH,hd,ζb,dX,dX];refine(aaz f g j (c:=d) (by rw[D,length_set];exact J)).mono λb O=>?_;rw[D]at O;rw[bg,b9];constructor;intro W;have⟨r,Q,I⟩:=nM (s:=out) (x:=d) Zaa;rw[ζb,Q,ζb,bg];refine⟨rfl,by rw[I];simp;omega,λe=>?_⟩;rw[Md I,G,D];constructor;rintro(⟨p,b,h,k⟩|h);exact⟨p,b,Zaa,k⟩;exact⟨n,a,Zaa,z,h,by rw[h];exact O.1 W⟩;rintro⟨p,b,h,k1,k2,k3⟩;by_cases e2:p=n;subst e2;rw[z]at k1;cases k1;exact .inr k2;exact .inl ⟨p,b,Zaa,k1,k2,k3⟩;intro S;exact(bg _).2 ⟨rfl,Nat.le_succ_of_le u,keep λh=>by rw[O.2 h]at S;cases S⟩;rw[show decide (a<(len t.procs.l[n].events))=false from by simpa[len]using C,bE,ζb,bE,bg];refine⟨rfl,Nat.le_succ_of_le u,keep λh=>?_⟩;have:=h.1.2 n (a+1) _ (by simp[getElem?_set,B]) (ζd w);omega;rintro⟨out,_⟩ ⟨h,u,G⟩;simp only at h u G;subst h;unfold jI.br;rw[jm,bE,bg];refine(bg _).2 ⟨show out.l.length<=8 by omega,λd=>(G d).trans ⟨λ⟨p,a,_,h⟩=>⟨p,a,h⟩,λ⟨p,a,h⟩=>⟨p,a,(ζe.1 h.1).1,h⟩⟩⟩
def A1(t:Z4)(A:cq 200 bD)(k:Nat)(s:Zb):Prop:=∀d,d∈ins s↔Cons t A d/\d.sum=(k:Int)
theorem DP.iff(g:VT t)(h:fN t (bR t) A){k:Nat}{d:ST}:(∃c,(Cons t A c/\c.sum=(k:Int))/\DP t A c d)↔Cons t A d/\d.sum=((k+1:Nat):Int):=by
 constructor;rintro⟨c,⟨f,B⟩,p,a,C,rfl,u⟩;exact⟨u,by rw[p_ C];omega⟩;rintro⟨u,B⟩;have⟨q,b,w,D,f⟩:=u.down g h Zaa;have z:=(ζe.1 w).1;refine⟨_,⟨f,by rw[p_ w];omega⟩,q,b-1,by simp[z],?_,u⟩;rw[List.set_set,show b-1+1=b from Zaa];refine ext_getElem? λi=>?_;rw[getElem?_set];split;next e=>subst e;simp[z,w];exact(ζe.1 w).2.symm▸rfl
 rfl
theorem yd{s:Zb}{n:Nat}(h:n<s.l.length){d:ST}:d∈(s.l.take (n+1)).map Sl.l↔d∈(s.l.take n).map Sl.l\/d=s.l[n].l:=by rw[show s.l.take (n+1)=s.l.take n++[s.l[n]]from by rw[take_add_one,ζd h];rfl];simp only[map_append,mem_append,map_cons,map_nil,mem_singleton]
theorem Ms:∀n:Nat,(replicate n (0:Int)).sum=0
 |0=>rfl|n+1=>by rw[List.replicate_succ,sum_cons,Ms n];rfl
theorem OA:Cons t A (replicate t.procs.l.length 0):=by
 have w:∀(p:Nat)a,(replicate t.procs.l.length (0:Int))[p]?=some a->a=0:=λp a h=>by rw[getElem?_replicate]at h;split at h<;>cases h;rfl
 exact⟨⟨Zab,λp a P u _=>by rw[w p a u];omega⟩,λp k e a _ u b=>by rw[w p a u]at b;omega⟩
theorem Oz{z:Zg}(B:z.l=replicate t.procs.l.length 0):A1 t A 0 (Sl.row [z]):=by
 intro d;have:d∈ins (Sl.row [z])↔d=replicate t.procs.l.length 0:=by unfold ins;rw[<-B];exact mem_singleton
 rw[this];constructor;rintro rfl;exact⟨OA,by rw[Ms];rfl⟩;rintro⟨a,u⟩;refine ext_getElem? λi=>?_;rw[getElem?_replicate,<-a.1.1];split;next hi=>have h:=ζd hi;rw[h,Ld a.1.pos (by simpa using u) i _ h]
 exact getElem?_eq_none Zaa
theorem A1.none(a:VT t)(b:fN t (bR t) A){k:Nat}{s:Zb}(h:A1 t A k s)(D:s.l.length=0){d:ST}(B:Cons t A d):d.sum<(k:Int):=by refine byContradiction λu=>?_;have f:=rI B.1.pos;have⟨c,e,w⟩:=Cons.GL a b (d.sum.toNat-k) (k:=k) B Zaa;have:=(h c).2 ⟨e,w⟩;have⟨x,z,_⟩:=qo.1 this;have:=List.length_pos_of_mem z;omega
theorem A1.last{s:Zb}(h:A1 t A (mz t+1) s):s.l.length=0:=by refine byContradiction λu=>?_;have w:=getElem_mem (show 0<s.l.length by omega);have:=(h s.l[0].l).1 (qo.2 ⟨_,w,rfl⟩);have:=this.1.1.sum;omega
theorem FE{α:Type}(s:Sl α):decide ((len s)>0)= !decide (s.l.length=0):=by by_cases h:s.l.length=0;simp[len,h];simp[h,len];omega
end
def fW:ST->ST->Int
 |[],[]=>0|[],_::_=>-1|_::_,[]=>1|x::a,y::b=>if x<y then -1 else if x>y then 1 else fW a b
theorem yL:∀a,fW a a=0
 |[]=>rfl|x::a=>by simp[fW,yL a]
theorem CF:∀a b c,fW a b<0->fW b c<0->fW a c<0
 |[],[],_,h,_=>by simp[fW]at h|[],_::_,[],_,h=>by simp[fW]at h|[],_::_,_::_,_,_=>by simp[fW]|_::_,[],_,h,_=>by simp[fW]at h|_::_,_::_,[],_,h=>by simp[fW]at h|x::a,y::b,z::c,h1,B=>by have D:=CF a b c;simp only[fW]at h1 B⊢;split at h1;split at B;rw[if_pos Zaa];omega;split at B;omega;rw[if_pos Zaa];omega;split at h1;omega;split at B;rw[if_pos Zaa];omega;split at B;omega;rw[if_neg Zaa,if_neg Zaa];exact D h1 B
theorem zD:∀a b,¬fW a b<0->¬fW b a<0->a=b
 |[],[],_,_=>rfl|[],_::_,h,_=>by simp[fW]at h|_::_,[],_,h=>by simp[fW]at h|x::a,y::b,h1,B=>by have D:=zD a b;simp only[fW]at h1 B;split at h1;omega;split at B;omega;rw[D (by first|assumption|(split at h1<;>first|assumption|omega)) (by first|assumption|(split at B<;>first|assumption|omega)),show x=y from Zaa]
theorem SB(a b c:ST)(d:¬fW a b<0)(B:¬fW b c<0):¬fW a c<0:=λh=>by by_cases u:fW b a<0;exact B (CF b a c u h);rw[zD a b d u]at h;exact B h
theorem Tu{α:Type}{s:Sl α}{p:α->α->QQ}{f:α->ST}(hp:∀x y,x∈s.l->y∈s.l->p x y=some (fW (f x) (f y)))(U:s.l.length<2147483648):∃r,Ae s p=some r/\r.l.Perm s.l/\r.l.Pairwise λx y=>¬fW (f y) (f x)<0:=by
 unfold Ae;split;next h=>exact⟨s,rfl,List.Perm.refl _,by rw[h];exact Pairwise.nil⟩
 rename_i x l h;rw[if_pos (by rw[h]at U;simp at U;omega)];simp only;have S:∀i j:_root_.Fin (l.length+1),p (x::l)[i.1] (x::l)[j.1]=some (fW (f (x::l)[i.1]) (f (x::l)[j.1])):=λi j=>hp _ _ (by rw[h];exact getElem_mem _) (by rw[h];exact getElem_mem _);have C:(qG λi j:_root_.Fin (l.length+1)=>p (x::l)[i.1] (x::l)[j.1])=λi j=>decide (fW (f (x::l)[i.1]) (f (x::l)[j.1])<0):=by funext i j;unfold qG;show decide ((p _ _).getD 0<0)=_;rw[S];rfl
 have D:CE (λi j:_root_.Fin (l.length+1)=>p (x::l)[i.1] (x::l)[j.1])=true:=by have u:∀i j,qG (λi j:_root_.Fin (l.length+1)=>p (x::l)[i.1] (x::l)[j.1]) i j=decide (fW (f (x::l)[i.1]) (f (x::l)[j.1])<0):=λi j=>(by rw[C]);refine all_eq_true.2 λi _=>Bool.and_eq_true_iff.2 ⟨by rw[u,yL];rfl,all_eq_true.2 λj _=>Bool.and_eq_true_iff.2 ⟨by show(p _ _).isSome=true;rw[S];rfl,all_eq_true.2 λk _=>Bool.and_eq_true_iff.2 ⟨?_,?_⟩⟩⟩;have:=CF (f (x::l)[i.1]) (f (x::l)[j.1]) (f (x::l)[k.1]);rw[u,u,u];simp only[or_eq_true,not_eq_true',Bool.and_eq_false_iff,decide_eq_true_eq,decide_eq_false_iff_not];omega;have:=SB (f (x::l)[i.1]) (f (x::l)[j.1]) (f (x::l)[k.1]);rw[u,u,u];simp only[or_eq_true,not_eq_true',decide_eq_true_eq,decide_eq_false_iff_not];omega
 rw[if_pos D];have G:=(rW D).2;have J:=Sort.pdq_sorts _ G (finRange (l.length+1)).toArray 0 (l.length+1) (Lib.bitLen (l.length+1)) true true (zero_le _) Zab (Or.inl rfl);rw[<-DW]at J;generalize rK l.length _=d at J;have⟨⟨z,_,w⟩,B⟩:=J;have z:d.size=l.length+1:=by simpa using z
 have I:∀y:aZ α,(s.re y).l=y:=λy=>by cases s<;>first|rfl|(simp[Sl.l]at h)
 refine⟨_,rfl,?_,?_⟩;rw[I,h];have a:d.extract 0 (l.length+1)=d:=Array.ext (by simp[z]) λi a L=>by simp
 rw[a]at w;have L:((finRange (l.length+1)).toArray.extract 0 (l.length+1)).toList=finRange (l.length+1):=by simp[List.take_of_length_le]
 rw[L]at w;refine(w.map _).trans ?_;rw[show(finRange (l.length+1)).map (λi=>(x::l)[i.1])=x::l from ?_];exact List.ext_getElem Zab λi a L=>Zab;rw[I,pairwise_map,List.pairwise_iff_getElem];intro i j hi O Q;have:=B i j (zero_le _) Q (by simpa[z]using O);rw[C]at this;simp only[Array.length_toList]at hi O;simp only[getElem!_pos d i hi,getElem!_pos d j O,decide_eq_false_iff_not]at this;simpa using this
def Gv(c:ST):ST:=c.sum::c
def Ic(c:ST):Prop:=c.length<=8/\∀x∈c,0<=x/\x<1073741824
theorem Un{c:ST}(h:Ic c)(i:Nat):0<=(c.take i).sum/\(c.take i).sum<=8589934592:=by
 have key:∀(l:ST),(∀x∈l,0<=x/\x<1073741824)->0<=l.sum/\l.sum<=1073741824*(l.length:Int):=by intro l;induction l with|nil=>intro _;simp|cons x l u=>intro h;have a:=h x Zab;have w:=u λy z=>h y (mem_cons_of_mem _ z);simp only[sum_cons,length_cons];omega
 have a:=key (c.take i) λx B=>h.2 x (mem_of_mem_take B);have w:(c.take i).length<=8:=by rw[length_take];have:=h.1;omega
 omega
theorem JG{c:ST}{i:Nat}(hi:i<c.length):(c.take (i+1)).sum=(c.take i).sum+c[i]:=by rw[List.take_succ_eq_append_getElem hi,List.sum_append];simp
theorem Rk{a b:ST}{i:Nat}(B:i<a.length)(D:i<b.length):fW (a.drop i) (b.drop i)=if a[i]<b[i]then -1 else if a[i]>b[i]then 1 else fW (a.drop (i+1)) (b.drop (i+1)):=by rw[drop_eq_getElem_cons B,drop_eq_getElem_cons D];rfl
def fE(x y:ST):Prop:=fW (Gv x) (Gv y)<0
instance(x y:ST):Decidable (fE x y):=by unfold fE;exact inferInstance
theorem fE.QI(x:ST):¬fE x x:=by unfold fE;rw[yL];omega
theorem fE.tr{x y z:ST}(h:fE x y)(k:fE y z):fE x z:=CF _ _ _ h k
theorem fE.tot{x y:ST}(h:¬fE x y)(k:¬fE y x):x=y:=by have:=zD _ _ h k;unfold Gv at this;exact(List.cons.inj this).2
theorem fE.sum{x y:ST}(h:x.sum<y.sum):fE x y:=by unfold fE Gv;simp[fW,h]
theorem Ek:∀{l r:aZ ST},l.Pairwise fE->r.Pairwise fE->(∀x,x∈l↔x∈r)->l=r
 |[],[],_,_,_=>rfl|[],y::r,_,_,h=>by have:=(h y).2 Zab;simp at this|x::l,[],_,_,h=>by have:=(h x).1 Zab;simp at this|x::l,y::r,C,hr,h=>by have e:x=y:=(by rcases mem_cons.1 ((h x).1 Zab)with e|e;exact e;rcases mem_cons.1 ((h y).2 Zab)with k|k;exact k.symm;exact absurd (((pairwise_cons.1 hr).1 x e).tr ((pairwise_cons.1 C).1 y k)) (fE.QI y));subst e;congr 1;have u:=pairwise_cons.1 C;have w:=pairwise_cons.1 hr;refine Ek u.2 w.2 λz=>⟨λB=>?_,λB=>?_⟩;rcases mem_cons.1 ((h z).1 (mem_cons_of_mem _ B))with e|e;exact absurd (e▸u.1 z B) (fE.QI x);exact e;rcases mem_cons.1 ((h z).2 (mem_cons_of_mem _ B))with e|e;exact absurd (e▸w.1 z B) (fE.QI x);exact e
theorem GJ{t:Z4}{A:cq 200 bD}(b:Small t)(d:VT t){c:ST}(a:Cons t A c):Ic c:=by
 refine⟨a.1.1▸d.few,λx z=>?_⟩;have⟨p,w,e⟩:=mem_iff_getElem.1 z;have u:p<t.procs.l.length:=by rw[<-a.1.1];exact w
 have:=a.1.2 p x _ (by rw[ζd w,e]) (ζd u);have k:=(b.2 _ (getElem_mem u)).1;omega
theorem fE.J8{x y:ST}(h:x.sum=y.sum):fE x y↔fW x y<0:=by unfold fE Gv;simp only[fW,if_neg (show¬x.sum<y.sum by omega),if_neg (show¬x.sum>y.sum by omega)]
theorem fE.nodup{L:aZ ST}(h:L.Pairwise fE):L.Nodup:=h.imp λ{x y}(h:fE x y)(e:x=y)=>fE.QI y (by rw[e]at h;exact h)
theorem N4{L:aZ ST}{c:ST}{j:Nat}(h:L.Pairwise fE)(d:∀(i:Nat)x,i<j->L[i]?=some x->fE x c)(D:∀x,L[j]?=some x->fE c x):
 (L.take j++[c]++L.drop j).Pairwise fE/\∀x,x∈L.take j++[c]++L.drop j↔x∈L\/x=c:=by
 have w:∀x∈L.take j,fE x c:=λx a=>by
  have⟨k,b,e⟩:=mem_iff_getElem.1 a;rw[length_take]at b;rw[List.getElem_take]at e;exact d k x Zaa (by rw[ζd Zaa,e])
 have u:∀x∈L.drop j,fE c x:=λx a=>by
  have⟨k,b,e⟩:=mem_iff_getElem.1 a;rw[List.length_drop]at b;rw[List.getElem_drop]at e;have B:j<L.length:=Zaa
  have k0:=D _ (ζd B)
  by_cases e0:k=0
  .subst e0;simp only[Nat.add_zero]at e;rw[<-e];exact k0
  rw[<-e];exact k0.tr (List.pairwise_iff_getElem.1 h j (j+k) B Zaa Zaa)
 refine⟨pairwise_append.2 ⟨pairwise_append.2 ⟨h.sublist (List.take_sublist _ _),List.pairwise_singleton _ _,λx a y z=>?_⟩,h.sublist (List.drop_sublist _ _),λx a y z=>?_⟩,λx=>?_⟩
 .rw[mem_singleton.1 z];exact w x a
 .rcases mem_append.1 a with a|a
  .exact(w x a).tr (u y z)
  rw[mem_singleton.1 a];exact u y z
 conv=>rhs;rw[<-take_append_drop j L]
 simp only[mem_append,mem_singleton];constructor
 .rintro ((h|h)|h)<;>simp[h]
 rintro((h|h)|h)<;>simp[h]
theorem Ul{α:Type}{s:Sl α}{p:α->α->a_ X'}{f:α->ST}(hp:∀x y,x∈s.l->y∈s.l->p x y=some (decide (f x=f y)))(g:s.l.length<2147483648)(Y:s.l.Pairwise λx y=>¬fW (f y) (f x)<0):
 ∃r,y8 s p=some r/\(r.l.map f).Nodup/\(∀d,d∈r.l.map f↔d∈s.l.map f)/\r.l.length<=s.l.length:=by
 have Q:∀i,i<s.l.length->0<i->∃(a:i<s.l.length)(O:i-1<s.l.length),uK s.l p i=some (decide (f s.l[i]=f s.l[i-1])):=λi h k=>by refine⟨h,Zaa,?_⟩;unfold uK;rw[ζd h,ζd (show i-1<s.l.length by omega)];exact hp _ _ (getElem_mem _) (getElem_mem _)
 unfold y8;rw[if_pos ⟨Zaa,all_eq_true.2 λi hi=>by
  by_cases h:i=0
  .subst h;rfl
  have⟨_,_,e⟩:=Q i (mem_range.1 hi) Zaa
  rw[e];simp⟩]
 have B:∀y:aZ α,(s.l=[]->y=[])->(s.uC y).l=y:=λy z=>by cases s<;>first|rfl|exact(z rfl).symm
 have S:∀i,i∈kept (λi=>(uK s.l p i).getD false) s.l.length↔i<s.l.length/\(i=0\/(uK s.l p i).getD false=false):=λi=>by unfold kept;simp[List.mem_filter]
 have C:=Cz (λi=>(uK s.l p i).getD false) s.l.length
 have T:(kept (λi=>(uK s.l p i).getD false) s.l.length).Pairwise (·<·):=by unfold kept;exact List.pairwise_lt_range.filter _
 generalize kept (λi=>(uK s.l p i).getD false) s.l.length=K at *
 have w:(s.uC (K.filterMap (s.l[·]?))).l=K.filterMap (s.l[·]?):=B _ λh=>by rw[h];simp
 refine⟨_,rfl,?_,λd=>?_,?_⟩
 .rw[w,Nodup,pairwise_map,List.pairwise_filterMap];refine T.imp_of_mem ?_;intro i j hi Z l x u y z D;have⟨U,G⟩:=(S j).1 Z;have⟨a,O,e⟩:=Q j U Zaa
  rw[e]at G;have W:¬f s.l[j]=f s.l[j-1]:=by rcases G with h|h;omega;simpa using h
  rw[ζd a]at z;cases z;have I:i<s.l.length:=Zaa
  rw[ζd I]at u;cases u;have J:=List.pairwise_iff_getElem.1 Y;have a1:=J (j-1) j O a Zaa
  refine W (zD _ _ a1 ?_)
  by_cases e2:i=j-1
  .subst e2;rw[<-D,yL];omega
  have a2:=J i (j-1) I O Zaa
  rw[D]at a2;exact a2
 .rw[w];simp only[mem_map,List.mem_filterMap];constructor
  .rintro⟨x,⟨i,_,u⟩,rfl⟩;exact⟨x,mem_of_getElem? u,rfl⟩
  rintro⟨x,u,rfl⟩;have⟨i,hi⟩:=List.mem_iff_getElem?.1 u;have key:∀(i:Nat)x,s.l[i]?=some x->∃y,(∃j,j∈K/\s.l[j]?=some y)/\f y=f x:=by intro i;induction i with|zero=>intro x u;exact⟨x,⟨0,(S 0).2 ⟨(ζe.1 u).1,.inl rfl⟩,u⟩,rfl⟩|succ i ih=>intro x u;have L:=(ζe.1 u).1;have⟨a,O,e⟩:=Q (i+1) L Zaa;have X:s.l[i+1]=x:=(ζe.1 u).2;by_cases b:f s.l[i+1]=f s.l[i+1-1];have⟨y,z,c⟩:=ih _ (ζd (show i<s.l.length by omega));exact⟨y,z,by rw[c,<-X];exact b.symm⟩;exact⟨x,⟨i+1,(S _).2 ⟨L,.inr (by rw[e];simpa using b)⟩,u⟩,rfl⟩
  exact key i x hi
 rw[w];exact Nat.le_trans (List.length_filterMap_le ..) C
theorem NH{a b:Zg}(J:a.l.length<1073741824):kz a b=some (fW a.l b.l):=by
 refine Wp.eq ?_;unfold kz fM fM.W1;rw[dX];refine fD a.l.length (λn s=>s=(n:Int)/\n<=b.l.length/\fW (a.l.drop n) (b.l.drop n)=fW a.l b.l) ⟨rfl,zero_le _,rfl⟩ ?_ ?_;rintro n _ w ⟨rfl,C,u⟩;unfold fM.br;rw[iL w,bH,bJ w,ζb];have hd:a.l.drop n=a.l[n]::a.l.drop (n+1):=drop_eq_getElem_cons w;by_cases D:n<b.l.length;have G:b.l.drop n=b.l[n]::b.l.drop (n+1):=drop_eq_getElem_cons D;rw[show decide ((n:Int)>=len b)=false from by simp[len];omega,bE,bJ D,ζb];rw[hd,G]at u;simp only[fW]at u;generalize a.l[n]=x at *;generalize b.l[n]=y at *;have z:qB x y=some (if x<y then -1 else if x>y then 1 else 0):=by unfold qB sY;simp only[bne_self_eq_false,ζb,bE,bH];by_cases c:x<y;simp[c,bl];by_cases B:x>y;simp[c,B,bl];simp[c,B,bl]
 rw[z,ζb];by_cases c:x<y;rw[if_pos c]at u⊢;rw[show((-1:Int)==0)=false from rfl,bE,bg];exact(bg _).2 ((bg _).2 u);rw[if_neg c]at u⊢;by_cases B:x>y;rw[if_pos B]at u⊢;rw[show((1:Int)==0)=false from rfl,bE,bg];exact(bg _).2 ((bg _).2 u);rw[if_neg B]at u⊢;rw[show((0:Int)==0)=true from rfl,bH,bg];exact⟨cM n Zaa,D,u⟩;rw[show decide ((n:Int)>=len b)=true from by simp[len];omega,bH,bg];rw[hd,List.drop_eq_nil_of_le (show b.l.length<=n by omega)]at u;exact(bg _).2 ((bg _).2 u);rintro _ ⟨rfl,C,u⟩;unfold fM.br;rw[jm,bE,bg];rw[List.drop_eq_nil_of_le (le_refl _)]at u;by_cases h:a.l.length<b.l.length;rw[show decide (len a<len b)=true from by simp[len];omega,bH];rw[drop_eq_getElem_cons h]at u;exact(bg _).2 ((bg _).2 u);rw[show decide (len a<len b)=false from by simp[len];omega,bE];rw[List.drop_eq_nil_of_le (show b.l.length<=a.l.length by omega)]at u;exact(bg _).2 ((bg _).2 u)
theorem AH{a b:Zg}(D:a.l.length<1073741824):eF a b=some (decide (a.l=b.l)):=by
 refine Wp.eq ?_;unfold eF;rw[b9];refine⟨λh=>?_,λh=>(bg _).2 ?_⟩;have h:(a.l.length:Int)=b.l.length:=by simpa[len]using h
 have h:a.l.length=b.l.length:=Zaa;unfold eF.W1;refine fD a.l.length (λn s=>s=(n:Int)/\∀i,i<n->a.l[i]?=b.l[i]?) ⟨rfl,λi h=>absurd h Zaa⟩ ?_ ?_;rintro n _ u ⟨rfl,z⟩;unfold eF.br;have B:n<b.l.length:=by omega
 rw[show decide ((n:Int)<len a)=true from iL u,bH,bJ u,ζb,bJ B,ζb,b9];refine⟨λw=>(bg _).2 ⟨cM n Zaa,λi hi=>?_⟩,λw=>(bg _).2 ((bg _).2 ?_)⟩;by_cases e:i=n;subst e;rw[ζd u,ζd B];simpa using w;exact z i Zaa;refine(decide_eq_false λe=>?_).symm;have c:a.l[n]?=b.l[n]?:=by rw[e]
 rw[ζd u,ζd B]at c;simp at w c;exact w c;rintro _ ⟨rfl,z⟩;unfold eF.br;rw[jm,bE,bg];refine(bg _).2 (decide_eq_true (ext_getElem? λi=>?_)).symm;by_cases hi:i<a.l.length;exact z i hi;rw[getElem?_eq_none Zaa,getElem?_eq_none Zaa];refine(decide_eq_false λe=>?_).symm;simp[len,e]at h
section
variable{t:Z4}{A:cq 200 bD}
def vY(A:cq 200 bD)(e:WF):bf:=if e.kind=3 then(ag A e.message).from_ else⟨0,0⟩
structure Vl(t:Trace)(A:cq 200 bD)(n:Nat)(m:cz):Prop where
 lens:m.lengths.l=(t.procs.l.take n).map λP=>(P.events.l.length:Int)
 need:m.need.l.map Sl.l=(t.procs.l.take n).map λP=>P.events.l.map (vY A)
theorem of_wp(d:Small t)(h:cH t=some true)(f:VT t)(g:fN t (bR t) A):Wp (kW t) (Vl t A t.procs.l.length):=by
 have Y:=f.few;unfold kW kW.W1;refine fD t.procs.l.length (λn s=>s.1=(n:Int)/\s.2.1=t/\Vl t A n s.2.2.2) ⟨rfl,rfl,rfl,rfl⟩ ?_ ?_;rintro n ⟨_,_,Z,I⟩ z ⟨a,B,u⟩;simp only at a B u;subst a;have B:=B.symm;subst B;unfold kW.br;rw[iL z,bH,bJ z,ζb];have O:=ζd z;have H:=(d.2 _ (getElem_mem z)).1;generalize K:t.procs.l[n]=P at *;unfold kW.W2;refine fD P.events.l.length (λk s=>s.2.1=(k:Int)/\s.2.2.1=t/\s.2.2.2.2=I/\s.1.l=(P.events.l.take k).map (vY A)) ⟨rfl,rfl,rfl,rfl⟩ ?_ ?_;rintro k ⟨nd,_,_,T,_⟩ c ⟨Q,C,D,L⟩;simp only at Q C D L;subst Q;have C:=C.symm;have D:=D.symm;subst C D;unfold kW.bT;rw[iL c,bH,bJ c,ζb];have U:mF t n k P.events.l[k]:=⟨P,O,ζd c⟩;have G:P.events.l.take (k+1)=P.events.l.take k++[P.events.l[k]]:=by rw[take_add_one,ζd c];rfl
 generalize P.events.l[k]=e at *;have fin:∀id,id=vY A e->Wp (kW.J3 nd t.procs (len t.procs) n P.events (len P.events) k t ⟨Sl.nil,Sl.nil⟩ I P id) λw=>match w with|.n S=>S.2.1=((k+1:Nat):Int)/\S.2.2.1=t/\S.2.2.2.2=I/\S.1.l=(P.events.l.take (k+1)).map (vY A)|.x e=>False|.r b=>False:=λid W=>by unfold kW.J3;have⟨r,i,l⟩:=nM (s:=nd) (x:=id) (by rw[L];simp;omega);rw[i,ζb,bg];exact⟨cM k Zaa,rfl,rfl,by rw[l,L,G,map_append,W];rfl⟩
 rw[b9];constructor;intro u;have u:e.kind=3:=by simpa using u
 have⟨q,j,y,m,o,p,y3,y4,y5⟩:=D7 f g U u;have X:=Ii d h g (dY.2 ⟨q,j,m,rfl⟩:((⟨q,j+1⟩:bf),y)∈bR t) o;simp only at X;rw[p]at X;rw[X,ζb];refine(fin _ (by unfold vY;rw[if_pos u,y5])).mono λw J=>?_;cases w with|n s=>exact J|x e=>exact J.elim|r b=>exact J.elim
 intro u;have u:¬e.kind=3:=by simpa using u
 refine(fin _ (by unfold vY;rw[if_neg u])).mono λw J=>?_;cases w with|n s=>exact J|x e=>exact J.elim|r b=>exact J.elim
 rintro⟨nd,_,_,T,_⟩ ⟨Q,C,D,L⟩;simp only at Q C D L;subst Q;have C:=C.symm;have D:=D.symm;subst C D;unfold kW.bT;have M:I.lengths.l.length=n:=by rw[u.lens];simp;omega
 have N:I.need.l.length=n:=by have:=congrArg length u.need;simp at this;omega
 have⟨v,a1,a2⟩:=nM (s:=I.lengths) (x:=len P.events) Zaa;have⟨x2,E,F⟩:=nM (s:=I.need) (x:=nd) Zaa;rw[jm,bE,bg];simp only;rw[a1,ζb,E,ζb,bg];have G:t.procs.l.take (n+1)=t.procs.l.take n++[P]:=by rw[take_add_one,O];rfl
 refine⟨cM n Zaa,rfl,?_,?_⟩;show v.l=_;rw[a2,u.lens,G,map_append];rfl;show x2.l.map Sl.l=_;rw[F,map_append,u.need,G,map_append,map_cons,L,take_length];rfl;rintro⟨_,_,Z,I⟩ ⟨a,B,u⟩;simp only at a B u;subst a;have B:=B.symm;subst B;unfold kW.br;rw[jm,bE,bg];exact(bg _).2 u
theorem S8(f:VT t)(g:fN t (bR t) A){m:cz}(n:Vl t A t.procs.l.length m){c:Zg}(d:Cons t A c.l){p:Nat}(hp:p<t.procs.l.length):
 Wp (pZ m c p) λb=>(b=true↔∃a,c.l[p]?=some a/\Cons t A (c.l.set p (a+1))):=by
 have V:=d.1.1;have u:=ζd hp;have⟨a,w⟩:=d.1.at_ hp;have F:=d.1.2 p a _ w u;generalize t.procs.l[p]=P at *;have D:m.lengths.l[p]?=some (P.events.l.length:Int):=by rw[n.lens,take_length,getElem?_map,u];rfl
 have J:=(ζe.1 w).1;have L:idx c (p:Int)=some a:=by rw[jd];exact w
 unfold pZ;rw[L,ζb,jd,D,ζb,b9];constructor
 .intro h;have h:a=P.events.l.length:=by simpa using h
  refine(bg _).2 ⟨λh=>(by cases h),λ⟨b,B,O⟩=>?_⟩
  rw[w]at B;cases B;have:=O.1.2 p (a+1) P (by simp[J]) u
  omega
 intro h;have h:¬a=P.events.l.length:=by simpa using h
 have S:a<P.events.l.length:=Zaa
 have o:=congrArg (λl=>l[p]?) n.need
 simp only[take_length,getElem?_map,u,Option.map_some]at o;have⟨nd,T,U⟩:=ζf.1 o;have z:a.toNat<P.events.l.length:=Zaa
 have H:idx nd a=some (vY A P.events.l[a.toNat]):=by rw[TW F.1,U,getElem?_map,ζd z];rfl
 rw[jd,T,ζb,ζb,H,ζb];have W:=d.up f g u w S;have G:(∃b,c.l[p]?=some b/\Cons t A (c.l.set p (b+1)))↔R6 t A c.l p:=by rw[W];exact⟨λ⟨b,B,k⟩=>by rw[w]at B;cases B;exact k,λk=>⟨a,w,k⟩⟩
 rw[G];have X:mF t p a.toNat P.events.l[a.toNat]:=⟨P,u,ζd z⟩;have Y:R6 t A c.l p↔(P.events.l[a.toNat].kind=3->∃b,c.l[(ag A P.events.l[a.toNat].message).from_.proc.toNat]?=some b/\(ag A P.events.l[a.toNat].message).from_.index<=b):=⟨λ⟨Q,e,x,r,v,C,K⟩=>by rw[u]at r;cases r;rw[w]at v;cases v;rw[ζd z]at C;cases C;exact K,λh=>⟨P,_,a,u,w,ζd z,h⟩⟩
 rw[Y];generalize P.events.l[a.toNat]=e at *;unfold vY
 by_cases C:e.kind=3
 .rw[if_pos C];have⟨q,j,M,_,_,y,Q,N,_⟩:=AX f g X C;have Z:q<c.l.length:=by have:=(ζe.1 N).1;omega
  rw[M];simp only[toNat_natCast];rw[bJ Z,ζb,bg];simp only[decide_eq_true_eq];exact⟨λh _=>⟨_,ζd Z,h⟩,λh=>by have⟨b,B,R⟩:=h C;rw[ζd Z]at B;cases B;exact R⟩
 rw[if_neg C];have E:0<c.l.length:=Zaa
 have I:=d.1.pos 0 _ (ζd E);have hi:idx c ((⟨0,0⟩:bf).proc)=some c.l[0]:=bJ (s:=c) (i:=0) E;rw[hi,ζb,bg];exact⟨λ_ h=>absurd h C,λ_=>by simpa using I⟩
end
theorem H9{α:Type}:∀l:aZ α,(range l.length).filterMap (l[·]?)=l
 |[]=>rfl|x::l=>by rw[length_cons,List.range_succ_eq_map,List.filterMap_cons,List.filterMap_map];show x::(range l.length).filterMap (λi=>(x::l)[i+1]?)=_;simp only[List.getElem?_cons_succ];rw[H9 l]
theorem Wu{α:Type}{s r:Sl α}{p:α->α->a_ X'}(h:y8 s p=some r):r.l.Sublist s.l:=by
 unfold y8 at h;split at h
 .cases h;have key:((kept (λi=>(uK s.l p i).getD false) s.l.length).filterMap (s.l[·]?)).Sublist s.l:=by
   have e:=H9 s.l
   conv=>rhs;rw[<-e]
   exact List.Sublist.filterMap _ (by unfold kept;exact List.filter_sublist)
  generalize(kept (λi=>(uK s.l p i).getD false) s.l.length).filterMap (s.l[·]?)=y at *
  cases s<;>first|exact key|(simp[Sl.uC,Sl.l])
 cases h
theorem tA{c:Zg}(B:c.l.length<=1073741824)(a:0<c.l.length):∃d,(dc c).bind Sl.whole=some d/\d.l=c.l:=by
 unfold dc;have key:((oH (Sl.row []:Zg) c).bind λx=>some x).bind Sl.whole=some (.row ([]++c.l)):=by unfold oH;rw[if_neg (λh=>by rw[h]at a;simp at a),if_pos (show(Sl.row ([]:ST)).l.length+c.l.length<=2147483648 from show 0+c.l.length<=_ by omega)];rfl
 cases c with|nil=>simp[Sl.l]at a|emp=>simp[Sl.l]at a|part l=>exact⟨_,key,rfl⟩|row l=>exact⟨_,key,rfl⟩
section
variable{t:Z4}{A:cq 200 bD}
theorem Sd(K:Small t)(l:VT t)(v:fN t (bR t) A){m:cz}(M:Vl t A t.procs.l.length m){k:Nat}{B:Zb}(W:A1 t A k B)(V:B.l.length<=5000):
 Wp (eT m B) λr=>A1 t A (k+1) r/\(ins r).Nodup/\r.l.length<=40000/\(ins r).Pairwise λx y=>¬fW y x<0:=by
 have ad:=l.few;unfold eT eT.W1;refine fD B.l.length (λn s=>s.2.1=len B/\s.2.2=(n:Int)/\s.1.l.length<=8*n/\∀d,d∈ins s.1↔∃c∈(B.l.take n).map Sl.l,DP t A c d) ⟨rfl,rfl,zero_le _,λd=>by simp[ins,Sl.l]⟩ ?_ ?_
 .rintro n ⟨out,_,_⟩ w ⟨e1,e2,g1,g2⟩;simp only at e1 e2 g1 g2;subst e1 e2;have L:=(W B.l[n].l).1 (qo.2 ⟨_,getElem_mem w,rfl⟩);unfold eT.br;rw[iL w,bH,bJ w,ζb];have O:∀d,d∈(B.l.take (n+1)).map Sl.l↔d∈(B.l.take n).map Sl.l\/d=B.l[n].l:=λd=>yd w
  generalize B.l[n]=c at *;have ae:=L.1.1.1;have aa:=l.ok.one;unfold eT.W2;refine fD c.l.length (λj s=>s.2=(j:Int)/\s.1.l.length<=8*n+j/\∀d,d∈ins s.1↔d∈ins out\/∃(p:Nat)(a:Int),p<j/\c.l[p]?=some a/\d=c.l.set p (a+1)/\Cons t A d) ⟨rfl,g1,λd=>⟨.inl,λh=>h.elim id λ⟨p,a,h,_⟩=>absurd h Zaa⟩⟩ ?_ ?_
  .rintro j ⟨o2,_⟩ T ⟨e,o,i⟩;simp only at e o i;subst e;unfold eT.bT;rw[show decide ((j:Int)<len c)=true from iL T,bH,dX];refine(S8 l v M L.1 (p:=j) Zaa).mono λb E=>?_
   have u:=ζd T;have hr:=L.1.1.2 j _ _ u (ζd (show j<t.procs.l.length by omega))
   have af:=(K.2 _ (getElem_mem (show j<t.procs.l.length by omega))).1
   generalize c.l[j]=a at *;have more:∀o3:Zb,(∀d,d∈ins o3↔d∈ins o2\/d=c.l.set j (a+1)/\Cons t A d)->∀d,d∈ins o3↔d∈ins out\/∃(p:Nat)(a:Int),p<j+1/\c.l[p]?=some a/\d=c.l.set p (a+1)/\Cons t A d:=λo3 h d=>by rw[h,i];constructor;rintro((h|⟨p,b,h,k⟩)|⟨h,k⟩);exact .inl h;exact .inr ⟨p,b,Zaa,k⟩;exact .inr ⟨j,a,Zaa,u,h,k⟩;rintro(h|⟨p,b,h,k1,k2,k3⟩);exact .inl (.inl h);by_cases e:p=j;subst e;rw[u]at k1;cases k1;exact .inr ⟨k2,k3⟩;exact .inl (.inr ⟨p,b,Zaa,k1,k2,k3⟩)
   rw[b9];constructor
   .intro ht;have⟨x,C,X⟩:=E.1 ht;rw[u]at C;cases C;have⟨d,hd,z⟩:=tA (c:=c) Zaa Zaa
    have⟨N,Y,Q⟩:=put_eq (s:=d) (p:=j) (x:=a+1) (by rw[z];exact T)
    have⟨o3,Z,D⟩:=nM (s:=o2) (x:=N) Zaa
    have P:Sl.get d j=some a:=by unfold Sl.get;rw[z];exact u
    rw[hd,ζb,wB (by rw[z];exact T),ζb,P,ζb,ζb,eB _ Zaa Zaa,Y,ζb,Z,ζb,bg]
    refine⟨cM j Zaa,by rw[D];simp;omega,more o3 λe=>?_⟩
    rw[Md D,Q,z];exact⟨λh=>h.elim .inl λh=>.inr ⟨h,by rw[h];exact X⟩,λh=>h.elim .inl λh=>.inr h.1⟩
   intro F;refine(bg _).2 ⟨cM j Zaa,Nat.le_succ_of_le o,more o2 λd=>⟨.inl,λh=>h.elim id λ⟨q,U⟩=>?_⟩⟩
   rw[E.2 ⟨a,u,by rw[<-q];exact U⟩]at F;cases F
  rintro⟨o2,_⟩ ⟨e,o,i⟩;simp only at e o i;subst e;unfold eT.bT;rw[jm,bE,bg];refine(bg _).2 ⟨rfl,cM n Zaa,show o2.l.length<=_ by omega,λd=>?_⟩
  rw[i];constructor
  .rintro (h|⟨p,a,_,h⟩)
   .have⟨c',g,G⟩:=(g2 d).1 h;exact⟨c',(O c').2 (.inl g),G⟩
   exact⟨_,(O _).2 (.inr rfl),p,a,h⟩
  rintro⟨c',g,G⟩;rcases(O c').1 g with h|h
  .exact .inl ((g2 d).2 ⟨c',h,G⟩)
  subst h;have⟨p,a,h⟩:=G;exact .inr ⟨p,a,(ζe.1 h.1).1,h⟩
 rintro⟨out,_,_⟩ ⟨e1,e2,g1,g2⟩;simp only at e1 e2 g1 g2;subst e1 e2;unfold eT.br;rw[jm,bE,bg];simp only;have I:A1 t A (k+1) out:=λd=>by rw[g2,take_length,<-DP.iff l v (k:=k)];exact⟨λ⟨c,g,G⟩=>⟨c,(W c).1 g,G⟩,λ⟨c,g,G⟩=>⟨c,(W c).2 g,G⟩⟩
 have J:∀s:Zb,(∀d,d∈ins s↔d∈ins out)->∀x∈s.l,x.l.length<1073741824:=λs h x C=>by have:=((I x.l).1 ((h x.l).1 (qo.2 ⟨x,C,rfl⟩))).1.1.1;omega
 have⟨r1,q,p1,H⟩:=Tu (s:=out) (p:=kz) (f:=Sl.l) (λx y C _=>NH (J out (λ_=>Iff.rfl) x C)) Zaa
 have S:∀d,d∈ins r1↔d∈ins out:=λd=>(p1.map Sl.l).mem_iff
 have ab:r1.l.length=out.l.length:=p1.length_eq;have⟨r2,U,nd,R,l2⟩:=Ul (s:=r1) (p:=lU) (f:=Sl.l) (λx y C _=>by unfold lU;rw[AH (J r1 S x C)];rfl) Zaa H
 rw[q,ζb,U,ζb,bg];exact⟨λd=>(R d).trans ((S d).trans (I d)),nd,Zaa,by unfold ins;rw[pairwise_map];exact H.sublist (Wu U)⟩
end
theorem HN{c:Zg}(h:Ic c.l):gY c=some c.l.sum:=by refine Wp.eq ?_;have u:=h.1;unfold gY gY.W1;refine fD c.l.length (λi(q:Int×Int)=>q.2=(i:Int)/\q.1=(c.l.take i).sum) ⟨rfl,rfl⟩ ?_ ?_;rintro i ⟨m,_⟩ hi ⟨e,a⟩;simp only at e a;subst e;subst a;unfold gY.br;rw[iL hi,bH,bJ hi,ζb,bg];have k:=Un h (i+1);rw[JG hi]at k;exact⟨cM i Zaa,by rw[JG hi];exact eB _ Zaa Zaa⟩;rintro⟨m,_⟩ ⟨e,a⟩;simp only at e a;subst e;subst a;unfold gY.br;rw[jm,bE,bg];exact(bg _).2 Zac
theorem LI{a b:Zg}(B:Ic a.l)(D:Ic b.l)(G:a.l.length=b.l.length):iy a b=some (decide (fE a.l b.l)):=by
 have w:=B.1;unfold iy;rw[HN B,ζb,HN D,ζb];by_cases e:a.l.sum=b.l.sum;rw[show(a.l.sum==b.l.sum)=true from Zac,bH];refine Wp.eq ?_;unfold iy.W1;refine fD a.l.length (λi(q:Int)=>q=(i:Int)/\fW (a.l.drop i) (b.l.drop i)=fW a.l b.l) ⟨rfl,rfl⟩ ?_ ?_;rintro i _ hi ⟨rfl,h⟩;have u:i<b.l.length:=by omega
 unfold iy.br;rw[iL hi,bH,bJ hi,ζb,bJ u,ζb];rw[Rk hi u]at h;by_cases e2:a.l[i]=b.l[i];rw[show(a.l[i]==b.l[i])=true from Zac,bH,bg];rw[if_neg Zaa,if_neg Zaa]at h;exact⟨cM i Zaa,h⟩;rw[show(a.l[i]==b.l[i])=false from Zac,bE,ζb,ζb,bg];refine(bg _).2 ?_;have hd:decide (fE a.l b.l)=decide (fW a.l b.l<0):=decide_eq_decide.2 (fE.J8 e);grind;rintro _ ⟨rfl,h⟩;unfold iy.br;rw[jm,bE,bg];refine(bg _).2 ?_;have hd:decide (fE a.l b.l)=decide (fW a.l b.l<0):=decide_eq_decide.2 (fE.J8 e);rw[hd];rw[drop_of_length_le (le_refl _),drop_of_length_le Zaa]at h;rw[<-h];rfl;rw[show(a.l.sum==b.l.sum)=false from Zac,bE,ζb,ζb];congr 1;refine decide_eq_decide.2 ?_;unfold fE Gv;by_cases k:a.l.sum<b.l.sum;simp[fW,k];simp[fW,k,show a.l.sum>b.l.sum by omega]
theorem Qo{a b:Zg}(D:a.l.length<1073741824):fQ a b=some (decide (a.l=b.l)):=by
 refine Wp.eq ?_;unfold fQ;rw[b9];refine⟨λh=>?_,λh=>(bg _).2 ?_⟩;have h:(a.l.length:Int)=b.l.length:=by grind
 have h:a.l.length=b.l.length:=Zaa;unfold fQ.W1;refine fD a.l.length (λn s=>s=(n:Int)/\∀i,i<n->a.l[i]?=b.l[i]?) ⟨rfl,λi h=>absurd h Zaa⟩ ?_ ?_;rintro n _ u ⟨rfl,w⟩;unfold fQ.br;have z:n<b.l.length:=by omega
 rw[iL u,bH,bJ u,ζb,bJ z,ζb,b9];refine⟨λB=>(bg _).2 ⟨cM n Zaa,λi hi=>?_⟩,λB=>(bg _).2 ((bg _).2 ?_)⟩;grind;grind;rintro _ ⟨rfl,w⟩;unfold fQ.br;rw[jm,bE,bg];refine(bg _).2 (decide_eq_true (ext_getElem? λi=>?_)).symm;grind;grind
theorem lE(s:Zb):(ins s).length=s.l.length:=by unfold ins;simp
theorem Wk(s:Zb)(i:Nat):(ins s)[i]?=(s.l[i]?).map Sl.l:=by unfold ins;grind
theorem xN{s:Zb}{i:Nat}(h:i<s.l.length):(ins s)[i]?=some s.l[i].l:=by rw[Wk,ζd h];rfl
theorem Mb{l:Zb}{c:Zg}(Y:∀x∈l.l,Ic x.l/\x.l.length=c.l.length)(b:Ic c.l)(v:l.l.length<1073741824)(f:(ins l).Pairwise fE):
 Wp (iu l c) λr=>r.l.length<=l.l.length+1/\(ins r).Pairwise fE/\∀d,d∈ins r↔d∈ins l\/d=c.l:=by
 have Z:=b.1;have a:∀n:Nat,n<=l.l.length->(∀(i:Nat)x,i<n->(ins l)[i]?=some x->fE x c.l)->(∀x,(ins l)[n]?=some x->¬fE x c.l)->
  Wp ((bl (decide ((n:Int)<(len l))) ((idx l n).bind λO=>(fQ O c).bind λQ=>some Q) (some false):a_ X').bind λS=>
  bl S (some l) ((fZ l none (some (n:Int))).bind λB=>(oH (Sl.row []:Zb) B).bind λC=>(gw C (c:Zg)).bind λD=>(fZ l (some (n:Int)) none).bind λG=>(oH D G).bind λI=>some I))
  λr=>r.l.length<=l.l.length+1/\(ins r).Pairwise fE/\∀d,d∈ins r↔d∈ins l\/d=c.l:=by
  intro n J T U;have z:(∀x,(ins l)[n]?=some x->x≠c.l)->Wp ((fZ l none (some (n:Int))).bind λB=>(oH (Sl.row []:Zb) B).bind λC=>(gw C (c:Zg)).bind λD=>(fZ l (some (n:Int)) none).bind λG=>(oH D G).bind λI=>some I) λr=>r.l.length<=l.l.length+1/\(ins r).Pairwise fE/\∀d,d∈ins r↔d∈ins l\/d=c.l:=by intro W;have⟨x4,g,e4⟩:=qW l n J;have y:x4.l.length<=l.l.length:=Zac;have⟨x5,j,e5⟩:=Co (s:=(Sl.row []:Zb)) (x:=x4) (show 0+x4.l.length<=_ by omega);have e5:x5.l=x4.l:=e5;have⟨x6,m,e6⟩:=nM (s:=x5) (x:=c) Zac;have⟨x7,o,e7⟩:=Da l n J;have⟨x8,Z,A⟩:=Co (s:=x6) (x:=x7) Zac;rw[g,ζb,j,ζb,m,ζb,o,ζb,Z,ζb,bg];have e:x8.l=l.l.take n++[c]++l.l.drop n:=Zad;have p:ins x8=(ins l).take n++[c.l]++(ins l).drop n:=(by unfold ins;simp_all);have⟨E,F⟩:=N4 f T λx u=>(by by_cases k:fE c.l x;omega;exact absurd (fE.tot k (U x u)).symm (W x u));exact⟨by rw[e];simp;omega,by rw[p];omega,λd=>Zad⟩
  by_cases h:n<l.l.length
  .rw[iL h,bH,bJ h,ζb,Qo (by have:=(Y _ (getElem_mem h)).1.1;omega),ζb,ζb]
   by_cases e:l.l[n].l=c.l
   .rw[decide_eq_true e,bH,bg];refine⟨Zaa,f,λd=>⟨.inl,λX=>X.elim id λX=>?_⟩⟩
    rw[X,<-e];exact qo.2 ⟨_,getElem_mem h,rfl⟩
   rw[decide_eq_false e,bE];exact z λx u=>by rw[xN h]at u;cases u;exact e
  rw[show(n:Int)=(l.l.length:Nat)from Zaa,jm,bE,ζb,bE,<-show(n:Int)=(l.l.length:Nat)from Zaa]
  exact z λx u=>by have:=(ζe.1 u).1;rw[lE]at this;omega
 unfold iu iu.W1;refine fD l.l.length (λn s=>s=(n:Int)/\∀(i:Nat)x,i<n->(ins l)[i]?=some x->fE x c.l) ⟨rfl,λi x h=>absurd h Zaa⟩ ?_ ?_
 .rintro n _ w ⟨rfl,L⟩;have⟨q,t⟩:=Y _ (getElem_mem w);unfold iu.br;rw[iL w,bH,bJ w,ζb,LI q b t,ζb,ζb]
  by_cases e:fE l.l[n].l c.l
  .rw[decide_eq_true e,bH,bg];refine⟨cM n Zaa,λi x hi u=>?_⟩
   by_cases e2:i=n
   .subst e2;rw[xN w]at u;cases u;exact e
   exact L i x Zaa u
  rw[decide_eq_false e,bE,bg];exact a n Zaa L λx u=>by rw[xN w]at u;cases u;exact e
 rintro _ ⟨rfl,L⟩;unfold iu.br;rw[jm,bE,ζb,bE,bg];exact a _ (le_refl _) L λx u=>by have:=(ζe.1 u).1;rw[lE]at this;omega
section
variable{t:Z4}{A:cq 200 bD}
structure fC(t:Trace)(A:cq 200 bD)(L:List (List Int)):Prop where
 srt:L.Pairwise fE
 mem:∀d,d∈L↔Cons t A d
def CB(t:Z4)(A:cq 200 bD):Prop:=∃L:aZ ST,L.Nodup/\(∀d∈L,Cons t A d)/\5000<L.length
theorem fC.one{L R:aZ ST}(h:fC t A L)(k:fC t A R):L=R:=Ek h.srt k.srt λx=>(h.mem x).trans (k.mem x).symm
theorem fC.not{L:aZ ST}(h:fC t A L)(B:L.length<=5000)(k:CB t A):False:=by have⟨R,nd,w,u⟩:=k;have:=Ao nd λx z=>(h.mem x).2 (w x z);omega
theorem Ho{k:Nat}{o l:aZ ST}(c:∀d,d∈l↔Cons t A d/\d.sum=(k:Int))(B:l.Pairwise fE)(D:o.Pairwise fE)(G:∀d,d∈o↔Cons t A d/\d.sum<(k:Int)):
 (o++l).Pairwise fE/\∀d,d∈o++l↔Cons t A d/\d.sum<((k+1:Nat):Int):=by
 refine⟨pairwise_append.2 ⟨D,B,λa u b w=>fE.sum Zac⟩,λd=>?_⟩
 grind
theorem Qv(E:Small t)(i:VT t)(o:fN t (bR t) A):Wp (e9 t) λr=>(r.2=true/\fC t A (ins r.1)/\r.1.l.length<=5000)\/(r.2=false/\r.1=.nil/\CB t A):=by
 have Y:=i.few;unfold e9 oL;rw[if_pos ⟨Zad,Zac⟩,ζb];unfold e9.W1;have fin:∀(k:Nat)(u out:Zb),A1 t A k u->u.l.length=0->(ins out).Pairwise fE->(∀d,d∈ins out↔Cons t A d/\d.sum<(k:Int))->fC t A (ins out):=λk u out b Q G J=>⟨G,λd=>(J d).trans ⟨λh=>h.1,λh=>⟨h,b.none i o Q h⟩⟩⟩
 refine fD (mz t+1) (λk s=>A1 t A k s.1/\(ins s.1).Pairwise fE/\(ins s.2).Pairwise fE/\(∀d,d∈ins s.2↔Cons t A d/\d.sum<(k:Int))/\s.1.l.length<=40000/\s.2.l.length<=5000)
  ⟨Oz (by simp[Sl.l,len]),by simp[ins,Sl.l],by simp[ins,Sl.l],λd=>⟨λh=>by simp[ins,Sl.l]at h,λh=>absurd (rI h.1.1.pos) Zac⟩,by simp[Sl.l],by simp[Sl.l]⟩ ?_ ?_
 rintro k ⟨u,out⟩ N ⟨b,C,w,G,J,L⟩;simp only at b C w G J L;unfold e9.br;rw[FE];by_cases Q:u.l.length=0;rw[show(!decide (u.l.length=0))=false from Zad,bE,bg];exact(bg _).2 (.inl ⟨rfl,fin k u out b Q w G,L⟩);rw[show(!decide (u.l.length=0))=true from Zad,bH];have⟨x,Z,P⟩:=Co (s:=out) (x:=u) Zaa;have S:ins x=ins out++ins u:=by unfold ins;grind
 have⟨o1,o2⟩:=Ho b C w G;rw[<-S]at o1 o2;rw[Z,ζb,b9];refine⟨λT=>(bg _).2 ((bg _).2 (.inr ⟨rfl,rfl,ins x,fE.nodup o1,λd hd=>((o2 d).1 hd).1,?_⟩)),λT=>?_⟩;rw[lE];grind;have T:x.l.length<=5000:=Zac;have R:u.l.length<=5000:=Zac;have F:∀d,Cons t A d->Ic d/\d.length=t.procs.l.length:=λd h=>⟨GJ E i h,h.1.1⟩;unfold e9.W2;refine fD u.l.length (λn s=>s.2=(n:Int)/\s.1.l.length<=8*n/\(ins s.1).Pairwise fE/\∀d,d∈ins s.1↔∃c∈(u.l.take n).map Sl.l,DP t A c d) ⟨rfl,zero_le _,by simp[ins,Sl.l],λd=>by simp[ins,Sl.l]⟩ ?_ ?_;rintro n ⟨more,_⟩ B ⟨e,g1,j,g2⟩;simp only at e g1 j g2;subst e;unfold e9.bT;have U:=(b u.l[n].l).1 (qo.2 ⟨_,getElem_mem B,rfl⟩);rw[iL B,bH,bJ B,ζb,dX];refine(Wf E i o U.1).mono λnx O=>?_;unfold e9.W3;refine fD nx.l.length (λm s=>s.2=(m:Int)/\s.1.l.length<=8*n+m/\(ins s.1).Pairwise fE/\∀d,d∈ins s.1↔d∈ins more\/d∈(nx.l.take m).map Sl.l) ⟨rfl,g1,j,λd=>Zab⟩ ?_ ?_;rintro m ⟨W,_⟩ D ⟨e,q,fs,g⟩;simp only at e q fs g;subst e;unfold e9.fe;rw[iL D,bH,bJ D,ζb,dX];have H:=(O.2 nx.l[m].l).1 (qo.2 ⟨_,getElem_mem D,rfl⟩);have⟨_,_,_,_,X⟩:=H;refine(Mb (l:=W) (c:=nx.l[m]) (λy K=>?_) (F _ X).1 Zaa fs).mono λr v=>?_;have V:Cons t A y.l:=by rcases(g y.l).1 (qo.2 ⟨_,K,rfl⟩)with h|h;have⟨_,_,p,a,_,_,k⟩:=(g2 y.l).1 h;omega;have⟨z,M,e⟩:=mem_map.1 h;have⟨p,a,_,_,k⟩:=(O.2 z.l).1 (qo.2 ⟨_,mem_of_mem_take M,rfl⟩);rw[<-e];exact k
 grind;refine(bg _).2 ⟨cM m Zaa,Nat.le_trans v.1 Zaa,v.2.1,λd=>?_⟩;rw[v.2.2,g,yd D,or_assoc];rintro⟨W,_⟩ ⟨e,q,fs,g⟩;simp only at e q fs g;subst e;unfold e9.fe;rw[jm,bE,bg];refine(bg _).2 ⟨cM n Zaa,show W.l.length<=_ by omega,fs,λd=>?_⟩;rw[g,take_length];constructor;rintro(h|h);have⟨c,f,I⟩:=(g2 d).1 h;exact⟨c,(yd B).2 (.inl f),I⟩;exact⟨_,(yd B).2 (.inr rfl),(O.2 d).1 h⟩;rintro⟨c,f,I⟩;rcases(yd B).1 f with h|h;exact .inl ((g2 d).2 ⟨c,h,I⟩);subst h;exact .inr ((O.2 d).2 I);rintro⟨more,_⟩ ⟨e,g1,j,g2⟩;simp only at e g1 j g2;subst e;unfold e9.bT;rw[jm,bE,bg];refine(bg _).2 ⟨λd=>?_,j,o1,o2,show more.l.length<=_ by omega,T⟩;rw[g2,take_length,<-DP.iff i o (k:=k)];exact⟨λ⟨c,f,I⟩=>⟨c,(b c).1 f,I⟩,λ⟨c,f,I⟩=>⟨c,(b c).2 f,I⟩⟩;rintro⟨u,out⟩ ⟨b,C,w,G,J,L⟩;simp only at b C w G J L;unfold e9.br;rw[FE,show(!decide (u.l.length=0))=false from by simp[b.last],bE,bg];exact(bg _).2 (.inl ⟨rfl,fin _ u out b b.last w G,L⟩)
theorem Sp(a:VT t)(b:Small t):mz t<8589934600:=by
 have key:∀(l:aZ bX),(∀p∈l,p.events.l.length<1073741824)->(l.map λP=>P.events.l.length).sum<=1073741824*l.length:=by intro l;induction l with|nil=>grind|cons x l w=>grind
 have c:=key t.procs.l λp u=>(b.2 p u).1;have z:=a.few;unfold mz;omega
theorem Vx{k:Int}{L:aZ ST}(nd:L.Nodup)(B:L.Pairwise λx y=>¬fW y x<0)(a:∀d∈L,d.sum=k):L.Pairwise fE:=by refine(B.and nd).imp_of_mem λ{x y}u w h=>?_;have e:x.sum=y.sum:=Zac;rw[fE.J8 e];by_cases q:fW x y<0;omega;exact absurd (zD _ _ q h.1) h.2
theorem P7(c:Small t)(g:cH t=some true)(b:VT t)(f:fN t (bR t) A):
 Wp (tX t) λr=>(r.2=0/\fC t A (ins r.1)/\r.1.l.length<=5000)\/(r.2=16/\r.1=.nil/\CB t A):=by
 have S:=b.few;have X:=Sp b c;unfold tX kD;rw[g,ζb,bH,dX,dX];refine(of_wp c g b f).mono λm T=>?_
 unfold oL;rw[if_pos ⟨Zad,Zac⟩,ζb]
 have fin:∀(k:Nat)(u:Zb)(out:Sl Zb),A1 t A k u->u.l.length=0->(out.l.flatMap ins).Pairwise fE->(∀d,d∈out.l.flatMap ins↔Cons t A d/\d.sum<(k:Int))->out.l.length<=5000->(out.l.flatMap ins).length<=5000->
  Wp ((gy out).bind λC=>some (C,(0:Int))) λr=>(r.2=0/\fC t A (ins r.1)/\r.1.l.length<=5000)\/(r.2=16/\r.1=.nil/\CB t A):=λk u out a L D U Y Z=>by
  have w:(out.l.flatMap Sl.l).map Sl.l=out.l.flatMap ins:=by rw[List.map_flatMap];rfl
  have i:(D_ out).l=out.l.flatMap Sl.l:=by unfold D_;split;(next h=>exact(List.length_eq_zero_iff.1 h).symm);rfl
  unfold gy;rw[if_pos ⟨Zaa,Zac⟩,ζb,bg]
  have e:ins (D_ out)=out.l.flatMap ins:=by unfold ins at w⊢;grind
  refine .inl ⟨rfl,⟨Zac,λd=>by rw[e];exact(U d).trans ⟨λh=>h.1,λh=>⟨h,a.none b f L h⟩⟩⟩,?_⟩
  grind
 unfold kD.W1;refine fD (mz t+1) (λk s=>A1 t A k s.1/\(ins s.1).Pairwise fE/\(s.2.1.l.flatMap ins).Pairwise fE/\(∀d,d∈s.2.1.l.flatMap ins↔Cons t A d/\d.sum<(k:Int))/\s.2.2=((s.2.1.l.flatMap ins).length:Int)/\s.2.1.l.length<=(s.2.1.l.flatMap ins).length/\(s.2.1.l.flatMap ins).length<=5000/\s.1.l.length<=40000)
  ⟨Oz (by simp[Sl.l,len]),by simp[ins,Sl.l],by simp[Sl.l],λd=>⟨λh=>by simp[Sl.l]at h,λh=>absurd (rI h.1.1.pos) Zac⟩,by simp[Sl.l],by simp[Sl.l],by simp[Sl.l],by simp[Sl.l]⟩ ?_ ?_
 .rintro k ⟨u,out,tot⟩ hk ⟨a,B,z,D,J,O,G,Q⟩;simp only at a B z D J O G Q;have⟨o1,o2⟩:=Ho a B z D;unfold kD.br;rw[FE]
  by_cases L:u.l.length=0
  .rw[show(!decide (u.l.length=0))=false from Zad,bE,bg]
   exact(bg _).2 (fin k u out a L z D Zaa G)
  rw[show(!decide (u.l.length=0))=true from Zad,bH,J]
  have W:wrap .i64 (((out.l.flatMap ins).length:Int)+len u)=(((out.l.flatMap ins).length+u.l.length:Nat):Int):=by have e:len u=(u.l.length:Int):=rfl;rw[e,eB _ Zaa Zaa];omega
  rw[W,b9];refine⟨λI=>(bg _).2 ((bg _).2 ?_),λI=>?_⟩
  .show Wp (((gy (Sl.nil:Sl Zb)).bind λC=>some (C,(16:Int)))) _
   have e0:gy (Sl.nil:Sl Zb)=some .nil:=by unfold gy;rfl
   rw[e0,ζb,bg];refine .inr ⟨rfl,rfl,out.l.flatMap ins++ins u,fE.nodup o1,λd hd=>((o2 d).1 hd).1,?_⟩
   have I:=of_decide_eq_true I;rw[ζi,lE];omega
  have I:=of_decide_eq_false I;have⟨o3,g1,g2⟩:=nM (s:=out) (x:=u) Zaa
  rw[g1,ζb,dX];refine(Sd c b f T a Zaa).mono λr⟨r1,r2,r3,r4⟩=>?_
  have w:o3.l.flatMap ins=out.l.flatMap ins++ins u:=by rw[g2];simp
  refine(bg _).2 ⟨r1,Vx r2 r4 λd hd=>((r1 d).1 hd).2,by rw[w];exact o1,λd=>by rw[w];exact o2 d,by rw[w,ζi,lE],?_,?_,r3⟩
  .show o3.l.length<=_;rw[w,ζi,lE,g2,ζi,length_singleton];omega
  rw[w,ζi,lE];omega
 rintro⟨u,out,tot⟩ ⟨a,B,z,D,J,O,G,Q⟩;simp only at a B z D J O G Q;unfold kD.br;rw[FE,show(!decide (u.l.length=0))=false from by simp[a.last],bE,bg]
 exact(bg _).2 (fin _ u out a a.last z D Zaa G)
theorem AD(a:Small t)(f:cH t=some true)(c:VT t)(d:fN t (bR t) A):
 (∃L r s,fC t A L/\L.length<=5000/\tX t=some (r,0)/\e9 t=some (s,true)/\ins r=L/\ins s=L)\/
 (tX t=some (.nil,16)/\e9 t=some (.nil,false)):=by
 have⟨⟨r,e⟩,g,h⟩:=P7 a f c d;have⟨⟨s,b⟩,z,w⟩:=Qv a c d;rcases h with⟨rfl,k1,k2⟩|⟨rfl,rfl,k1⟩
 .rcases w with⟨rfl,u,B⟩|⟨rfl,rfl,u⟩
  .exact .inl ⟨ins r,r,s,k1,by rw[lE];omega,g,z,rfl,u.one k1⟩
  exact(k1.not (by rw[lE];omega) u).elim
 rcases w with⟨rfl,u,B⟩|⟨rfl,rfl,u⟩
 .exact(u.not (by rw[lE];omega) k1).elim
 grind
end
theorem LF{t:Z4}(e:Small t)(f:cH t=some true)(d:VT t){A:cq 200 bD}(g:fN t (bR t) A)(c:Zg):Wp (jH t c) λr=>Code t A c.l r.2:=by
 have D:=d.few;unfold jH;rw[dX];refine(QH e f d g c).mono λr b=>?_;rw[b9];constructor;intro a;have a:r=0:=by simpa using a
 have j:=b.zero.1 a;have B:=j.1.1;unfold jH.W1;refine fJ (λs:Sl bf×Int=>∃n:Nat,s.2=n/\n<=c.l.length/\s.1.l.length<=n) (λs=>c.l.length-s.2.toNat) ⟨0,rfl,zero_le _,le_refl _⟩ ?_;rintro⟨o,i⟩ ⟨n,hi,G,C⟩;simp only at hi C;subst hi;unfold jH.br;rw[b9];constructor;intro h;have w:n<c.l.length:=by simpa[len]using h
 have z:=cM n Zaa;have u:c.l.length-(wrap .i64 ((n:Int)+1)).toNat<c.l.length-((n:Int)).toNat:=by rw[z];simp;omega
 rw[bJ w,ζb,b9];constructor;intro _;unfold gw;rw[if_pos (show o.l.length+1<=2147483648 from Zaa),ζb,bg];exact⟨⟨n+1,z,Zaa,by show(o.l++[_]).length<=n+1;rw[ζi,length_singleton];omega⟩,u⟩;intro _;exact(bg _).2 ⟨⟨n+1,z,Zaa,show o.l.length<=n+1 from Zaa⟩,u⟩;intro _;exact(bg _).2 ((bg _).2 (a▸b));intro a;exact(bg _).2 b
end Go.VE
namespace Go.VE
theorem Code.one{t:Z4}{A:cq 200 bD}{c:ST}{r s:Int}(h:Code t A c r)(g:Code t A c s):r=s:=by rcases h with⟨h,rfl⟩|⟨a,u,rfl⟩|⟨a,u,rfl⟩|⟨a,u,rfl⟩<;>rcases g with⟨g,rfl⟩|⟨g1,g2,rfl⟩|⟨g1,g2,rfl⟩|⟨g1,g2,rfl⟩<;>first|rfl|contradiction|exact absurd ‹pQ t c›.1 ‹_›
def C8(c d:ST):Prop:=∀(p:Nat)(a b:Int),c[p]?=some a->d[p]?=some b->a<=b
section
variable{t:Z4}{A:cq 200 bD}
theorem SU(l:Small t)(m:cH t=some true)(g:VT t)(v:fN t (bR t) A){c:Zg}(Y:pQ t c.l):
 Wp (tS t c) λr=>r.2=0/\Cons t A r.1.l/\C8 c.l r.1.l/\∀d,Cons t A d->C8 c.l d->C8 r.1.l d:=by
 have P:=g.few;have R:=g.ok.one;have D:=Y.1;unfold tS kF tN;rw[m,ζb,bH,uu (f:=λz=>(iD z t).getD false) (λz _=>Kl.ok ((bg _).2 trivial)) (by simp[Sl.l]),ζb,ζb,ζb]
 have G:(!((Sl.row [c]:Zb).l.any λz=>(iD z t).getD false))=true:=by simp[Sl.l,iD,len,D]<;>exact congrArg Int.ofNat D
 rw[G,bH,dX,dX];refine(AN l D).mono λb S=>?_
 rw[S.2 Y,bH];have⟨V,E,Z⟩:=tA (c:=c) Zaa Zaa
 rw[E,ζb];unfold kF.W1;refine fJ (λs:Zg=>pQ t s.l/\C8 c.l s.l/\∀d,Cons t A d->C8 c.l d->C8 s.l d) (λs:Zg=>((mz t:Int)-s.l.sum).toNat) ⟨by rw[Z];exact Y,λp a b F S=>by rw[Z,F]at S;cases S;exact Int.le_refl _,λd _ h=>by rw[Z];exact h⟩ ?_
 rintro s ⟨i1,i2,i3⟩;unfold kF.br;rw[dX];refine(MV l m g v i1).mono λr n=>?_
 rw[b9];constructor
 .intro ht;have⟨p,k,e,a,q,j,y,b,g1,g2,g3,g4,g5,g6,g7,T,g9⟩:=n.2 ht;have B:=(ζe.1 T).1;have I:Sl.setAt s r.1.proc r.1.index=some (s.re (s.l.set q ((j:Int)+1))):=by
   unfold Sl.setAt;rw[g6,if_pos ⟨Zab,by simpa using B⟩];rfl
  have C:(s.re (s.l.set q ((j:Int)+1))).l=s.l.set q ((j:Int)+1):=by cases s<;>first|rfl|(simp[Sl.l]at B)
  simp only;rw[I,ζb,bg];have⟨Q,H,K⟩:=g7;have ad:=(ζe.1 K).1;have J:=i1.set H (b:=(j:Int)+1) Zaa Zaa
  refine⟨⟨by rw[C];exact J,?_,?_⟩,?_⟩
  .rw[C];intro p' U i u w;rw[getElem?_set]at w;split at w
   next e2=>subst e2;simp[B]at w;have:=i2 q U b u T;omega
   exact i2 p' U i u w
  .rw[C];intro d W L p' U i u w;rw[getElem?_set]at u;split at u
   .rename_i e2;subst e2;simp[B]at u;have⟨x,o⟩:=W.1.at_ (show p<t.procs.l.length by have:=(ζe.1 g2).1;rw[<-i1.1];exact this)
    have:=i3 d W L p a x g2 o;have⟨z,X,O⟩:=W.2 p k e x g1 o Zaa g4
    rw[g5,g6]at X O;simp only[toNat_natCast]at X O;rw[w]at X;cases X;omega
   exact i3 d W L p' U i u w
  show((mz t:Int)-(s.re (s.l.set q ((j:Int)+1))).l.sum).toNat<((mz t:Int)-s.l.sum).toNat;have M:=J.sum;rw[p_ T]at M;rw[C,p_ T];omega
 intro N;exact(bg _).2 ((bg _).2 ((bg _).2 ⟨rfl,⟨i1,n.1 N⟩,i2,i3⟩))
end
section
variable{t:Z4}{A:cq 200 bD}
end
section
variable{t:Z4}{A:cq 200 bD}
theorem PK(g:Small t)(h:cH t=some true)(i:VT t)(j:fN t (bR t) A){c:Zg}(d:Cons t A c.l){p q:Nat}(hp:p<t.procs.l.length)(D:q<t.procs.l.length):
 dD t (Sl.row [c]:Zb) (Sl.row [(p:Int),(q:Int)]:Zg)=some 0:=by
 refine Wp.eq ?_;have u:=d.1.1;unfold dD tN;rw[h,ζb,bH,uu (f:=λz=>(iD z t).getD false) (λz _=>Kl.ok ((bg _).2 trivial)) (by simp[Sl.l]),ζb,ζb,ζb]
 have w:(!((Sl.row [c]:Zb).l.any λz=>(iD z t).getD false))=true:=by simp[Sl.l,iD,len,u]<;>exact congrArg Int.ofNat u
 rw[w,bH];unfold dD.W1;refine fD 1 (λn s=>s=(n:Int)) rfl ?_ ?_
 .rintro n _ B rfl;obtain rfl:n=0:=by omega
  unfold dD.br;rw[show decide (((0:Nat):Int)<len (Sl.row [c]:Zb))=true from rfl,bH,show idx (Sl.row [c]:Zb) ((0:Nat):Int)=some c from rfl,ζb,dX];refine(AN g u).mono λb C=>?_
  rw[C.2 d.1,bH];exact(bg _).2 rfl
 rintro _ rfl;unfold dD.br;rw[show decide (((1:Nat):Int)<len (Sl.row [c]:Zb))=false from rfl,bE,bg];have a:∀r:Nat,r<t.procs.l.length->vQ t r=some true:=λr e=>by unfold vQ;rw[show decide ((r:Int)>=0)=true from Zab,bH,iL e];rfl
 show Wp (dD.W2 (Sl.row [c]) (Sl.row [(p:Int),(q:Int)]) 2 0 t) _;unfold dD.W2;refine fD 2 (λn s=>s=(n:Int)) rfl ?_ ?_
 .rintro n _ B rfl;unfold dD.bT;rw[show decide ((n:Int)<2)=true from by simp;omega,bH]
  have G:∃r:Nat,idx (Sl.row [(p:Int),(q:Int)]) (n:Int)=some (r:Int)/\r<t.procs.l.length:=by rcases(show n=0\/n=1 by omega)with rfl|rfl;exact⟨p,rfl,hp⟩;exact⟨q,rfl,D⟩
  have⟨r,k,I⟩:=G;rw[k,ζb,a r I,ζb,bH];exact(bg _).2 (cM n Zaa)
 rintro _ rfl;unfold dD.bT;rw[show decide (((2:Nat):Int)<2)=false from rfl,bE,bg];show Wp (dD.W3 (Sl.row [c]) 1 0 t) _;unfold dD.W3;refine fD 1 (λn s=>s=(n:Int)) rfl ?_ ?_
 .rintro n _ B rfl;obtain rfl:n=0:=by omega
  unfold dD.fe;rw[show decide (((0:Nat):Int)<1)=true from rfl,bH,show idx (Sl.row [c]:Zb) ((0:Nat):Int)=some c from rfl,ζb];unfold w8;rw[dX,dX];refine(FL g h i j d.1).mono λr e=>?_
  rw[bg,e.2 d.2];exact(bg _).2 rfl
 rintro _ rfl;unfold dD.fe;rw[show decide (((1:Nat):Int)<1)=false from rfl,bE,bg];exact(bg _).2 rfl
theorem RR(b:Small t)(c:cH t=some true)(kind m:Int):iM t kind m=some (match(bR t).find? (l8 kind m)with|some x=>(x.1,true)|none=>(⟨0,0⟩,false)):=by
 refine Wp.eq ?_;unfold iM;rw[c,ζb,bH];unfold jS;rw[ζb];unfold iM.E1;rw[uv b,ζb];refine zX (λk _=>((bR t).take k).find? (l8 kind m)=none) Zab ?_ ?_;intro k y _ z u;have w:(bR t).take (k+1)=(bR t).take k++[y]:=by rw[take_add_one,z];rfl
 have B:(y.2.kind==kind&&y.2.message==m)=l8 kind m y:=rfl;unfold iM.kr;rw[nS,ζb,B,b9];constructor;intro a;refine(bg _).2 ((bg _).2 ?_);have:(bR t).find? (l8 kind m)=some y:=by rw[<-take_append_drop (k+1) (bR t),w,find?_append,find?_append,u];simp[a]
 rw[this];intro a;rw[bg,w,find?_append,u];simp[a];intro _ u;rw[take_length]at u;exact(bg _).2 (by rw[u])
theorem Up(f:Small t)(g:cH t=some true)(h:VT t)(i:fN t (bR t) A){c:Zg}(d:Cons t A c.l){p q:Nat}(hp:p<t.procs.l.length)(J:q<t.procs.l.length):
 Wp (iX t c p q) λr=>r.2=0/\(r.1.l.length:Int)=under t c.l p q:=by
 have I:=ζd hp;have⟨a,L⟩:=d.1.at_ hp;have⟨b,C⟩:=d.1.at_ J;rw[Hg h i d I (ζd J) L C];have Y:=(f.2 _ (getElem_mem hp)).1;have⟨a0,a1⟩:=d.1.2 p a _ L I;generalize Z:t.procs.l[p]=P at *;unfold iX;rw[PK f g h i d hp J,ζb,show((0:Int)==0)=true from rfl,bH,jd,I,ζb,show idx c (p:Int)=some a from by rw[jd];exact L,ζb]
 have⟨y,X,D⟩:=qW P.events a.toNat Zaa
 rw[show((a.toNat:Nat):Int)=a from Zaa]at X
 rw[X,ζb,<-D];have H:y.l.length<=P.events.l.length:=by rw[D,length_take];omega
 unfold iX.W1;refine fD y.l.length (λn s=>s.2.1=len y/\s.2.2=(n:Int)/\s.1.l.length=(y.l.take n).countP λe=>gF q e&&rU t c.l e) ⟨rfl,rfl,rfl⟩ ?_ ?_
 .rintro n ⟨o,_,_⟩ w ⟨e1,e2,z⟩;simp only at e1 e2 z;subst e1 e2;have O:=List.countP_le_length (p:=λe=>gF q e&&rU t c.l e) (l:=y.l.take n)
  rw[length_take]at O;have u:(y.l.take (n+1)).countP (λe=>gF q e&&rU t c.l e)=o.l.length+if gF q y.l[n]&&rU t c.l y.l[n]then 1 else 0:=by rw[take_add_one,ζd w,List.countP_append,z];show _+List.countP _ [y.l[n]]=_;rw[countP_cons,List.countP_nil];simp
  have Q:=cM n Zaa
  unfold iX.br;rw[iL w,bH,bJ w,ζb];generalize y.l[n]=e at u;have S:(bl (e.kind==2) (some (!(e.peer==(q:Int)))) (some true):a_ X')=some (!gF q e):=by unfold gF;cases e.kind==2<;>cases e.peer==(q:Int)<;>rfl
  rw[S,ζb,b9];refine⟨λB=>(bg _).2 ⟨rfl,Q,by rw[u,show gF q e=false from by simpa using B];rfl⟩,λB=>?_⟩
  have B:gF q e=true:=by simpa using B
  unfold uU;rw[RR f g,ζb,ζb];have k:(bl (match(bR t).find? (l8 3 e.message)with|some x=>(x.1,true)|none=>((⟨0,0⟩:bf),false)).2 ((idx c (match(bR t).find? (l8 3 e.message)with|some x=>(x.1,true)|none=>((⟨0,0⟩:bf),false)).1.proc).bind λT=>some (decide ((match(bR t).find? (l8 3 e.message)with|some x=>(x.1,true)|none=>((⟨0,0⟩:bf),false)).1.index>T))) (some true):a_ X')=some (rU t c.l e):=by unfold rU h_;cases m:(bR t).find? (l8 3 e.message)with|none=>rfl|some x=>have⟨U,j,⟨K,W,_⟩,v⟩:=dY.1 (xx m).1;have G:U<c.l.length:=(by rw[d.1.1];exact(ζe.1 W).1);simp only[v,bH];rw[bJ G,ζb,show((U:Nat):Int).toNat=U from rfl,ζd G,show(((j:Int)+1)==0)=false from by simp;omega,Bool.false_or];rfl
  rw[k,ζb,b9];refine⟨λC=>?_,λC=>(bg _).2 ⟨rfl,Q,by rw[u,B,C];rfl⟩⟩
  have⟨r,E,F⟩:=nM (s:=o) (x:=e.message) Zaa
  rw[E,ζb,bg];exact⟨rfl,Q,by rw[F,u,B,C,ζi];rfl⟩
 rintro⟨o,_,_⟩ ⟨e1,e2,z⟩;simp only at e1 e2 z;subst e1 e2;unfold iX.br;rw[jm,bE,bg];refine(bg _).2 ⟨rfl,?_⟩;rw[take_length]at z;simp only[z]
end
section
variable{t:Z4}{A:cq 200 bD}
theorem yD(a:VT t){p:Nat}{P:bX}(B:t.procs.l[p]?=some P):P.events.l.length<=64:=by have h:=a.ok.heads p (ζe.1 B).1;unfold rH at h;rw[B]at h;simp only at h;split at h;split at h;cases h;split at h;split at h;cases h;omega;rename_i u;exact absurd h u;cases h
theorem Gz(a:VT t):mz t<1073741824:=by
 have key:∀l:aZ bX,(∀P∈l,P.events.l.length<=64)->(l.map λP=>P.events.l.length).sum<=64*l.length:=by intro l;induction l with|nil=>intro _;simp|cons P l u=>intro h;have b:=h P (mem_cons_self ..);have C:=u λQ w=>h Q (mem_cons_of_mem _ w);simp only[map_cons,sum_cons,length_cons];omega
 have:=key t.procs.l λP z=>by have⟨p,B⟩:=List.mem_iff_getElem?.1 z;exact yD a B
 have:=a.few;unfold mz;omega
end
abbrev lM(m:a_ Bool)(P:Prop):Prop:=Wp m λb=>(b=true↔P)
theorem lM.eq{m:a_ X'}{P:Prop}(h:lM m P):∃b,m=some b/\(b=true↔P):=h
theorem lM.iff{m:a_ X'}{P Q:Prop}(h:lM m P)(e:P↔Q):lM m Q:=h.mono λb u=>u.trans e
theorem CI{b:X'}{P:Prop}(h:b=true↔P):lM (some b) P:=(bg _).2 h
theorem lM.some{m:a_ X'}{P:Prop}(h:lM m P):lM (m.bind λx=>Option.some x) P:=by have⟨b,u,h⟩:=h;rw[u];exact CI h
theorem lM.same{m n:a_ X'}{P:Prop}(h:lM m P)(k:lM n P):∃b,m=Option.some b/\n=Option.some b/\(b=true↔P):=by
 obtain⟨b,u,h⟩:=h;obtain⟨d,hd,k⟩:=k;have:b=d:=by rw[Bool.eq_iff_iff,h,k]
 subst this;exact⟨b,u,hd,h⟩
theorem lM.and{m n:a_ X'}{P Q:Prop}(h:lM m P)(k:P->lM n Q){f:X'->a_ X'}(B:∀b,f b=bl b (n.bind λx=>Option.some x) (Option.some false)):lM (m.bind f) (P/\Q):=by have⟨b,u,h⟩:=h;rw[u,ζb,B];cases b with|true=>exact((k (h.1 rfl)).some).iff ⟨λq=>⟨h.1 rfl,q⟩,λq=>q.2⟩|false=>exact CI ⟨λe=>(nomatch e),λq=>(h.2 q.1).symm▸rfl⟩
theorem SI{step:Int->a_ (Fw Int Unit Unit)}{n:Nat}{P:Nat->Prop}(h:∀i,i<n->(∀j,j<i->P j)->Wp (step (i:Int)) λw=>P i/\w=.n ((i+1:Nat):Int)\/¬P i/\w=.r ())(B:(∀j,j<n->P j)->step (n:Int)=some (.x ())):
 Wp (bS step 0) λw=>(∀i,i<n->P i)/\w=.x ()\/(¬∀i,i<n->P i)/\w=.r ():=by
 have key:∀m k,k+m=n->(∀j,j<k->P j)->Wp (bS step (k:Int)) λw=>(∀i,i<n->P i)/\w=.x ()\/(¬∀i,i<n->P i)/\w=.r ():=by intro m;induction m with|zero=>intro k b u;have:k=n:=Zaa;subst this;rw[eD,B u,ζb];exact(bg _).2 (.inl ⟨u,rfl⟩)|succ m C=>intro k b u;rw[eD,dX];refine(h k Zaa u).mono ?_;rintro w (⟨a,rfl⟩|⟨a,rfl⟩);exact C (k+1) Zaa λj z=>(by rcases Nat.lt_or_eq_of_le (Nat.lt_succ_iff.1 z)with z|rfl;exact u j z;exact a);exact(bg _).2 (.inr ⟨λk2=>a (k2 k Zaa),rfl⟩)
 exact key n 0 Zaa λj z=>absurd z Zaa
theorem Q9{step:Int->a_ (Fw Int Unit Unit)}{n:Nat}{P:Nat->Prop}(h:∀i,i<n->(∀j,j<i->P j)->Wp (step (i:Int)) λw=>P i/\w=.n ((i+1:Nat):Int)\/¬P i/\w=.r ())(B:(∀j,j<n->P j)->step (n:Int)=some (.x ())):
 lM ((bS step 0).bind (Fw.elim (λ_=>some true) (λ_=>some false))) (∀i,i<n->P i):=by
 rw[lM,dX];refine(SI h B).mono ?_;rintro w (⟨a,rfl⟩|⟨a,rfl⟩)
 .exact CI ⟨λ_=>a,λ_=>rfl⟩
 exact CI ⟨λe=>(nomatch e),λu=>absurd u a⟩
theorem Qe{b:X'}{P:Prop}{n:Int}{k:Nat}(h:b=true↔¬P)(B:n=((k+1:Nat):Int)):Wp (bl b (some (.r ())) (some (.n n))) λw:Fw Int Unit Unit=>P/\w=.n ((k+1:Nat):Int)\/¬P/\w=.r ():=by cases b with|true=>exact(bg _).2 (.inr ⟨h.1 rfl,rfl⟩)|false=>exact(bg _).2 (.inl ⟨byContradiction λq=>(nomatch h.2 q),by rw[B]⟩)
def eC(a b:ST):Prop:=a.length=b.length/\∀(p:Nat)(x y:Int),a[p]?=some x->b[p]?=some y->x<=y
theorem XZ{a b:ST}(B:a.length=b.length):(∀i,i<a.length->∀x y,a[i]?=some x->b[i]?=some y->x<=y)↔eC a b:=⟨λh=>⟨B,λp x y u w=>h p (ζe.1 u).1 x y u w⟩,λh i _ x y u w=>h.2 i x y u w⟩
theorem Wg{a b:Zg}(J:a.l.length<1073741824){step:Int->a_ (Fw Int Unit Unit)}
 (G:∀i,step i=bl (decide (i<len a)) ((idx a i).bind λB=>(idx b i).bind λD=>bl (decide (B>D)) (some (.r ())) (some (.n (wrap .i64 (i+1))))) (some (.x ()))):
 lM (bl ((len a)==(len b)) ((bS step 0).bind (Fw.elim (λ_=>some true) (λ_=>some false))) (some false)) (eC a.l b.l):=by
 by_cases u:a.l.length=b.l.length
 .rw[show((len a)==(len b))=true from by simp[len,u],bH]
  refine(Q9 (n:=a.l.length) (P:=λi=>∀x y,a.l[i]?=some x->b.l[i]?=some y->x<=y) ?_ ?_).iff (XZ u)
  .intro i hi _;have w:i<b.l.length:=by omega
   rw[G,iL hi,bH,bJ hi,ζb,bJ w,ζb];refine Qe ?_ (cM i Zaa)
   rw[decide_eq_true_eq];constructor
   .intro h k;have:=k _ _ (ζd hi) (ζd w);omega
   intro h;refine byContradiction λI=>h λx y z C=>?_
   rw[ζd hi]at z;rw[ζd w]at C;cases z;cases C;omega
  intro _;rw[G,jm,bE]
 rw[show((len a)==(len b))=false from by simp[len];omega,bE]
 exact CI ⟨λe=>(nomatch e),λh=>absurd h.1 u⟩
theorem abi{a b:Zg}(B:a.l.length<1073741824):lM (vj a b) (eC a.l b.l):=Wg B λi=>rfl
section
variable{t:Z4}{A:cq 200 bD}
theorem U3(a:Small t)(b:cH t=some true)(d:VT t)(e:fN t (bR t) A)(c:Zg):lM (sj t c) (Cons t A c.l):=by obtain⟨r,f,h⟩:=S_ a b d e c;unfold sj;rw[f,ζb];exact CI (by rw[beq_iff_eq,h];exact Iff.rfl)
end
section
variable{t:Z4}{A:cq 200 bD}
def qz(g:Int->Int->Int)(a b c:ST):Prop:=c.length=a.length/\∀(p:Nat)(x y:Int),a[p]?=some x->b[p]?=some y->c[p]?=some (g x y)
def D3(x y:Int):Int:=if y>x then y else x
def tg(x y:Int):Int:=if y<x then y else x
theorem qz.of(g:Int->Int->Int){a b:ST}(h:a.length=b.length):qz g a b (zipWith g a b):=⟨by simp[h],λp x y u w=>by rw[List.getElem?_zipWith,u,w]⟩
theorem qz.at_{g:Int->Int->Int}{a b c:ST}(h:qz g a b c)(D:a.length=b.length){p:Nat}{z:Int}(B:c[p]?=some z):∃x y,a[p]?=some x/\b[p]?=some y/\z=g x y:=by
 have u:p<a.length:=by rw[<-h.1];exact(ζe.1 B).1
 refine⟨a[p],b[p]' Zaa,ζd u,ζd Zaa,?_⟩;have:=h.2 p _ _ (ζd u) (ζd (show p<b.length by omega));rw[B]at this;cases this;rfl
theorem vm(x y:Int):(D3 x y=x/\y<=x)\/(D3 x y=y/\x<=y):=by unfold D3;split<;>omega
theorem uV(x y:Int):(tg x y=x/\x<=y)\/(tg x y=y/\y<=x):=by unfold tg;split<;>omega
theorem join_cons{a b c:ST}(B:Cons t A a)(D:Cons t A b)(h:qz D3 a b c):Cons t A c:=by have L:a.length=b.length:=B.1.1.trans D.1.1.symm;refine⟨⟨h.1.trans B.1.1,λp z P C O=>?_⟩,λp k e z Q C f w=>?_⟩;obtain⟨x,y,G,I,rfl⟩:=h.at_ L C;have i:=B.1.2 p x P G O;have U:=D.1.2 p y P I O;rcases vm x y with⟨e,_⟩|⟨e,_⟩<;>rw[e]<;>assumption;obtain⟨x,y,G,I,rfl⟩:=h.at_ L C;rcases vm x y with⟨S,_⟩|⟨S,_⟩<;>rw[S]at f;have⟨u,d,J⟩:=B.2 p k e x Q G f w;have T:=(ζe.1 d).1;have g:=ζd (show(ag A e.message).from_.proc.toNat<b.length by omega);exact⟨_,h.2 _ _ _ d g,by rcases vm u b[(ag A e.message).from_.proc.toNat]with⟨e2,_⟩|⟨e2,_⟩<;>rw[e2]<;>omega⟩;have⟨u,d,J⟩:=D.2 p k e y Q I f w;have T:=(ζe.1 d).1;have g:=ζd (show(ag A e.message).from_.proc.toNat<a.length by omega);exact⟨_,h.2 _ _ _ g d,by rcases vm a[(ag A e.message).from_.proc.toNat] u with⟨e2,_⟩|⟨e2,_⟩<;>rw[e2]<;>omega⟩
theorem HC{a b c:ST}(B:Cons t A a)(D:Cons t A b)(h:qz tg a b c):Cons t A c:=by
 have Q:a.length=b.length:=B.1.1.trans D.1.1.symm;refine⟨⟨h.1.trans B.1.1,λp z P C S=>?_⟩,λp k e z T C g w=>?_⟩;obtain⟨x,y,G,I,rfl⟩:=h.at_ Q C;have i:=B.1.2 p x P G S;have X:=D.1.2 p y P I S;rcases uV x y with⟨e,_⟩|⟨e,_⟩<;>rw[e]<;>assumption;obtain⟨x,y,G,I,rfl⟩:=h.at_ Q C;have J:(k:Int)<x:=by rcases uV x y with⟨L,_⟩|⟨L,_⟩<;>omega
 have O:(k:Int)<y:=by rcases uV x y with⟨L,_⟩|⟨L,_⟩<;>omega
 have⟨u,d,W⟩:=B.2 p k e x T G J w;have⟨v,f,U⟩:=D.2 p k e y T I O w;exact⟨_,h.2 _ _ _ d f,by rcases uV u v with⟨e2,_⟩|⟨e2,_⟩<;>rw[e2]<;>omega⟩
theorem eC.trans{a b c:ST}(h:eC a b)(k:eC b c):eC a c:=by
 refine⟨h.1.trans k.1,λp x z u w=>?_⟩;have B:p<b.length:=by rw[<-h.1];exact(ζe.1 u).1
 have e:=ζd B;exact Int.le_trans (h.2 p x _ u e) (k.2 p _ z e w)
theorem eC.refl(a:ST):eC a a:=⟨rfl,λp x y w u=>by rw[w]at u;cases u;exact Int.le_refl _⟩
theorem qz.le_max{a b c:ST}(h:qz D3 a b c)(D:a.length=b.length):eC a c/\eC b c/\∀d,eC a d->eC b d->eC c d:=by refine⟨⟨h.1.symm,λp x z G u=>?_⟩,⟨D.symm.trans h.1.symm,λp y z I u=>?_⟩,λd J O=>⟨h.1.trans J.1,λp z w u L=>?_⟩⟩;obtain⟨Q,y,B,I,rfl⟩:=h.at_ D u;rw[G]at B;cases B;rcases vm x y with⟨e2,_⟩|⟨e2,_⟩<;>rw[e2]<;>omega;obtain⟨x,S,G,C,rfl⟩:=h.at_ D u;rw[I]at C;cases C;rcases vm x y with⟨e2,_⟩|⟨e2,_⟩<;>rw[e2]<;>omega;obtain⟨x,y,G,I,rfl⟩:=h.at_ D u;have e:=J.2 p x w G L;have T:=O.2 p y w I L;rcases vm x y with⟨e2,_⟩|⟨e2,_⟩<;>rw[e2]<;>assumption
theorem qz.le_min{a b c:ST}(h:qz tg a b c)(D:a.length=b.length):eC c a/\eC c b/\∀d,eC d a->eC d b->eC d c:=by refine⟨⟨h.1,λp z x u G=>?_⟩,⟨h.1.trans D,λp z y u I=>?_⟩,λd J O=>⟨J.1.trans h.1.symm,λp w z L u=>?_⟩⟩;obtain⟨Q,y,B,I,rfl⟩:=h.at_ D u;rw[G]at B;cases B;rcases uV x y with⟨e2,_⟩|⟨e2,_⟩<;>rw[e2]<;>omega;obtain⟨x,S,G,C,rfl⟩:=h.at_ D u;rw[I]at C;cases C;rcases uV x y with⟨e2,_⟩|⟨e2,_⟩<;>rw[e2]<;>omega;obtain⟨x,y,G,I,rfl⟩:=h.at_ D u;have e:=J.2 p w x L G;have T:=O.2 p w y L I;rcases uV x y with⟨e2,_⟩|⟨e2,_⟩<;>rw[e2]<;>assumption
end
section
variable{t:Z4}{A:cq 200 bD}
theorem qz.one{g:Int->Int->Int}{a b c d:ST}(h:qz g a b c)(k:qz g a b d)(B:a.length=b.length):c=d:=by refine ext_getElem? λp=>?_;by_cases u:p<a.length;rw[h.2 p _ _ (ζd u) (ζd Zaa),k.2 p _ _ (ζd u) (ζd Zaa)];rw[getElem?_eq_none (by rw[h.1];omega),getElem?_eq_none (by rw[k.1];omega)]
def uL(l:Sl X')(i:Nat):X':=(l.l[i]?).getD false
theorem Ml{l:Sl X'}{i:Nat}(h:i<l.l.length):idx l (i:Int)=some (uL l i):=by rw[jd,ζd h];unfold uL;rw[ζd h];rfl
end
section
variable{t:Z4}{A:cq 200 bD}
end
section
variable{t:Z4}{A:cq 200 bD}
theorem tM{L:aZ ST}(h:L.Nodup){i:Nat}{c:ST}(a:L[i]?=some c):L.idxOf c=i:=by have⟨hi,e⟩:=ζe.1 a;rw[<-e];exact Nodup.idxOf_getElem h i hi
theorem tD{L:aZ ST}{c:ST}(h:c∈L):L[L.idxOf c]?=some c:=by have hi:=List.idxOf_lt_length_of_mem h;rw[ζd hi,List.getElem_idxOf]
theorem qz.zip{g:Int->Int->Int}{a b c:ST}(h:qz g a b c)(B:a.length=b.length):c=zipWith g a b:=by refine h.one ⟨by simp[B],λp x y u w=>?_⟩ B;rw[List.getElem?_zipWith,u,w]
end
def wS(L:aZ ST)(c:ST):S':=(range c.length).filterMap λp=>if bump c p 1∈L then some (L.idxOf (bump c p 1))else none
theorem u5{c:ST}{p:Nat}{d:Int}:(bump c p d).length=c.length:=by unfold bump;simp
theorem Tn{c:ST}{p:Nat}(h:p<c.length):(bump c p 1).sum=c.sum+1:=by unfold bump;have a:c[p]?=some c[p]:=ζd h;rw[p_ a,a];simp;omega
theorem CL{L:aZ ST}{c:ST}{k:Nat}:k∈wS L c↔∃p,p<c.length/\bump c p 1∈L/\k=L.idxOf (bump c p 1):=by
 unfold wS;rw[List.mem_filterMap];constructor;rintro⟨p,u,h⟩;split at h;next w=>cases h;exact⟨p,mem_range.1 u,w,rfl⟩
 cases h;rintro⟨p,u,w,rfl⟩;exact⟨p,mem_range.2 u,by rw[if_pos w]⟩
section
variable{t:Z4}{A:cq 200 bD}{L:aZ ST}
theorem fC.nodup(h:fC t A L):L.Nodup:=fE.nodup h.srt
theorem fC.lt(h:fC t A L){i k:Nat}{c d:ST}(hi:L[i]?=some c)(a:L[k]?=some d)(B:c.sum<d.sum):i<k:=by rcases Nat.lt_trichotomy i k with g|g|g;exact g;subst g;rw[hi]at a;cases a;omega;obtain⟨u,rfl⟩:=ζe.1 hi;obtain⟨w,rfl⟩:=ζe.1 a;exact absurd ((List.pairwise_iff_getElem.1 h.srt k i w u g).tr (fE.sum B)) (fE.QI _)
theorem Jj(h:fC t A L){i k:Nat}{c:ST}(hi:L[i]?=some c)(a:k∈wS L c):i<k/\k<L.length:=by obtain⟨p,w,u,rfl⟩:=CL.1 a;exact⟨h.lt hi (tD u) (by rw[Tn w];omega),List.idxOf_lt_length_of_mem u⟩
theorem fC.len(h:fC t A L){c:ST}(a:c∈L):c.length=t.procs.l.length:=((h.mem _).1 a).1.1
end
section
variable{t:Z4}{A:cq 200 bD}{L:aZ ST}
end
section
variable{L:aZ ST}{f:Nat->X'}
inductive Rc(L:List (List Int))(f:Nat->Bool):Nat->Prop
 |zero:Rc L f 0|step{i k:Nat}{c:List Int}:Rc L f i->f i=false->L[i]?=some c->k∈wS L c->Rc L f k
def YA(L:aZ ST):Prop:=∀(i k:Nat)c,L[i]?=some c->k∈wS L c->i<k/\k<L.length
open Classical in
end
def ps(L:aZ ST)(c:ST)(n:Nat):S':=(range n).filter λp=>decide (bump c p 1∈L)
theorem GF{c:ST}{p:Nat}{a:Int}(h:c[p]?=some a):bump c p 1=c.set p (a+1):=by unfold bump;rw[h];rfl
section
variable{t:Z4}{A:cq 200 bD}{L:aZ ST}
theorem YA.of(B:fC t A L):YA L:=λ_ _ _ h k=>Jj B h k
end
end Go.VE
namespace Go.VE
end Go.VE
namespace Go.VE
end Go.VE
namespace Go.VE
section
variable{L:aZ ST}{f:Nat->X'}
inductive Ri(L:List (List Int))(f:Nat->Bool):Nat->Prop
 |last:f (L.length-1)=false->Ri L f (L.length-1)|step{i k:Nat}{c:List Int}:f i=false->L[i]?=some c->k∈wS L c->Ri L f k->Ri L f i
theorem Ri.no{i:Nat}(h:Ri L f i):f i=false:=by cases h<;>assumption
end
section
variable{t:Z4}{A:cq 200 bD}{L:aZ ST}
end
end Go.VE
namespace Go.VE
section
variable{t:Z4}{A:cq 200 bD}
end
theorem Uf{κ ν:Type}[DecidableEq κ]{m:Mo κ ν}{k B:κ}{v z:ν}:ov (mP m k v) B z=if B=k then v else ov m B z:=by unfold ov;induction m with|nil=>unfold mP jV;by_cases h:B=k<;>simp[h,jV]|cons a m C=>have⟨a,w⟩:=a;unfold mP;by_cases h:k=a;subst h;rw[if_pos rfl];by_cases u:B=k;simp[jV,u];simp[jV,u];rw[if_neg h];by_cases u:B=a;have:B≠k:=λe=>h (e▸u);simp[jV,u,Ne.symm h];simp only[jV,if_neg u];exact C
theorem Ik:∀(l:ST)(r:U'),(l.foldl (λr n=>r.push (ofNat n.toNat)) r).data.toList=r.data.toList++l.map λn=>ofNat n.toNat
 |[],r=>Zab|a::l,r=>by rw[List.foldl_cons,Ik l];show(r.data.push _).toList++_=_;simp
theorem HJ(l:ST):(nG l).data.toList=l.map λn=>ofNat n.toNat:=by unfold nG;rw[Ik];rfl
def Ew(l:ST):Prop:=∀x∈l,0<=x/\x<256
theorem X9{a b:Int}(B:0<=a/\a<256)(D:0<=b/\b<256)(h:ofNat a.toNat=ofNat b.toNat):a=b:=by have:=congrArg UInt8.toNat h;simp[UInt8.toNat_ofNat']at this;omega
theorem KB:∀{a b:ST},Ew a->Ew b->(a.map λn=>ofNat n.toNat)=(b.map λn=>ofNat n.toNat)->a=b
 |[],[],_,_,_=>rfl|[],_::_,_,_,h=>by simp at h|_::_,[],_,_,h=>by simp at h|x::a,y::b,D,G,h=>by simp only[map_cons,List.cons.injEq]at h;rw[X9 (D x Zab) (G y Zab) h.1,KB (λz B=>D z (mem_cons_of_mem _ B)) (λz B=>G z (mem_cons_of_mem _ B)) h.2]
theorem KK{a b:ST}(B:Ew a)(D:Ew b)(h:nG a=nG b):a=b:=KB B D (by rw[<-HJ,<-HJ,h])
section
variable{t:Z4}{A:cq 200 bD}{L:aZ ST}
theorem yh(b:VT t){c:ST}(a:Cons t A c):Ew c:=λx z=>by
 obtain⟨p,w,rfl⟩:=mem_iff_getElem.1 z;have u:p<t.procs.l.length:=by rw[<-a.1.1];exact w
 have d:=a.1.2 p _ _ (ζd w) (ζd u);have B:=yD b (ζd u);omega
end
theorem TH{κ ν:Type}[DecidableEq κ]{m:Mo κ ν}{k B:κ}{v:ν}:uT (mP m k v) B=(decide (B=k)||uT m B):=by unfold uT;induction m with|nil=>unfold mP jV;by_cases h:B=k<;>simp[h,jV]|cons a m z=>have⟨a,w⟩:=a;unfold mP;by_cases h:k=a;subst h;rw[if_pos rfl];by_cases u:B=k;simp[jV,u];simp[jV,u];rw[if_neg h];by_cases u:B=a;have:B≠k:=λe=>h (e▸u);simp[jV,u,Ne.symm h];simp only[jV,if_neg u];exact z
theorem zS{c:Zg}(h:Ew c.l)(D:c.l.length<=8):iN c=some (nG c.l):=by
 refine Wp.eq ?_;unfold iN;have b:∃r,v7 (len c) (⟨0⟩:U8)=some r/\r.l=[]:=by unfold v7;rw[if_pos ⟨by simp[len],by simp[len];omega⟩];refine⟨_,rfl,?_⟩;split<;>rfl
 have⟨r,b,u⟩:=b;rw[b,ζb];unfold iN.W1;refine fD c.l.length (λi(q:Sl U8×Int)=>q.2=(i:Int)/\q.1.l.map U8.v=c.l.take i) ⟨rfl,by rw[u];rfl⟩ ?_ ?_;rintro i ⟨o,_⟩ hi ⟨e,a⟩;simp only at e a;subst e;have w:o.l.length=i:=by have:=congrArg length a;simp at this;omega
 unfold iN.br;rw[iL hi,bH,bJ hi,ζb];have C:=h c.l[i] (getElem_mem hi);have⟨z,k1,k2⟩:=nM (s:=o) (x:=(⟨wrap .u8 c.l[i]⟩:U8)) Zaa;rw[k1,ζb,bg];refine⟨cM i Zaa,?_⟩;show z.l.map U8.v=_;have B:wrap .u8 c.l[i]=c.l[i]:=by simp[wrap,IntKind.bits,signed];omega
 rw[k2,map_append,a,List.take_succ_eq_append_getElem hi,List.map_singleton,B];rintro⟨o,_⟩ ⟨e,a⟩;simp only at e a;subst e;unfold iN.br;rw[jm,bE,bg];refine(bg _).2 ?_;unfold O7;rw[a,take_length]
section
variable{t:Z4}{A:cq 200 bD}{L:aZ ST}
theorem Ta(b:VT t){c:ST}(a:Cons t A c)(p:Nat):Ew (bump c p 1):=λx z=>by
 unfold bump at z;have key:∀y∈c,0<=y/\y<=250:=λy C=>by obtain⟨q,B,rfl⟩:=mem_iff_getElem.1 C;have u:q<t.procs.l.length:=(by rw[<-a.1.1];exact B);have d:=a.1.2 q _ _ (ζd B) (ζd u);have D:=yD b (ζd u);omega
 rcases List.mem_or_eq_of_mem_set z with h|h;have:=key x h;omega;cases w:c[p]?with|none=>rw[w]at h;have:x=0+1:=h;omega|some y=>rw[w]at h;have h:x=y+1:=h;have:=key y (mem_of_getElem? w);omega
structure EB(L:List (List Int))(m:Mo ByteArray Int):Prop where
 get:∀c∈L,ov m (nG c) 0=(L.idxOf c:Int)
 has:∀d,Ew d->(uT m (nG d)=true↔d∈L)
theorem SM(f:VT t)(B:fC t A L)(U:L.length<=5000){r:Zb}(g:ins r=L)(tb:Sl X'):
 Wp (jJ t r tb) λq=>∃x,q=some x/\x.t=t/\x.l=r/\x.truth=tb/\EB L (nF x.index):=by
 have Q:=f.few;have S:r.l.length=L.length:=by rw[<-g,lE]
 unfold jJ jJ.W1;refine fD r.l.length (λi(q:Int×(Mo ByteArray Int)×b_)=>q.1=(i:Int)/\q.2.2.t=t/\q.2.2.l=r/\q.2.2.truth=tb/\(∀(j:Nat)c,j<i->L[j]?=some c->ov q.2.1 (nG c) 0=(j:Int))/\∀d,Ew d->(uT q.2.1 (nG d)=true↔∃j:Nat,j<i/\L[j]?=some d))
  ⟨rfl,rfl,rfl,rfl,λj c w=>absurd w Zaa,λd _=>⟨λh=>(by cases h),λ⟨j,w,_⟩=>absurd w Zaa⟩⟩ ?_ ?_
 .rintro i ⟨_,m,x⟩ hi ⟨rfl,b,z,C,D,G⟩;simp only at b z C D G;have u:L[i]?=some r.l[i].l:=by rw[<-g];exact xN hi
  have I:=mem_of_getElem? u;have k:=(B.mem _).1 I;have J:=yh f k;unfold jJ.br;dsimp only;rw[iL hi,bH,bJ hi,ζb,zS J (by rw[k.1.1];exact Q),ζb,bg]
  refine⟨cM i Zaa,b,z,C,λj c w a=>?_,λd hd=>?_⟩
  .show ov (mP m (nG r.l[i].l) (i:Int)) (nG c) 0=_;rw[Uf]
   by_cases e:j=i
   .subst e;rw[u]at a;cases a;rw[if_pos rfl]
   have O:=mem_of_getElem? a;rw[if_neg (λh=>e ?_)]
   .exact D j c Zaa a
   have:=KK (yh f ((B.mem _).1 O)) J h;subst this;rw[<-tM B.nodup a,tM B.nodup u]
  show uT (mP m (nG r.l[i].l) (i:Int)) (nG d)=true↔_;rw[TH,or_eq_true,decide_eq_true_eq,G d hd];constructor
  .rintro (h|⟨j,w,h⟩)
   .have:=KK hd J h;subst this;exact⟨i,Zaa,u⟩
   exact⟨j,Zaa,h⟩
  rintro⟨j,w,h⟩
  by_cases e:j=i
  .subst e;rw[u]at h;cases h;exact .inl rfl
  exact .inr ⟨j,Zaa,h⟩
 rintro⟨_,m,x⟩ ⟨rfl,b,z,C,D,G⟩;simp only at b z C D G;unfold jJ.br;dsimp only;rw[jm,bE,bg];refine(bg _).2 ⟨_,rfl,b,z,C,⟨λc a=>?_,λd hd=>?_⟩⟩
 .have:=List.idxOf_lt_length_of_mem a;exact D _ c Zaa (tD a)
 show uT m (nG d)=true↔_;rw[G d hd];exact⟨λ⟨j,_,h⟩=>mem_of_getElem? h,λh=>⟨L.idxOf d,by have:=List.idxOf_lt_length_of_mem h;omega,tD h⟩⟩
theorem VZ(f:Small t)(a:VT t)(B:fC t A L){x:b_}(D:ins x.l=L)(U:EB L (nF x.index)){i:Nat}{c:ST}(b:L[i]?=some c):
 Wp (fG x (i:Int) 1) λo=>o.l=(wS L c).map λk:Nat=>(k:Int):=by
 have l:=a.few;have hi:i<x.l.l.length:=by rw[<-lE,D];exact(ζe.1 b).1
 have u:x.l.l[i].l=c:=by have:=xN hi;rw[D,b]at this;exact(Option.some.inj this).symm
 have e:=(B.mem _).1 (mem_of_getElem? b);have S:=e.1.1;have T:=a.ok.one;have O:=GJ f a e;unfold fG;rw[bJ hi,ζb];unfold fG.W1;refine fD x.l.l[i].l.length (λn(q:Zg×Int)=>q.2=(n:Int)/\q.1.l.length<=n/\q.1.l=((range n).filterMap λp=>if bump c p 1∈L then some (L.idxOf (bump c p 1))else none).map λk:Nat=>(k:Int)) ⟨rfl,le_refl _,rfl⟩ ?_ ?_
 .rintro n ⟨o,_⟩ z ⟨rfl,C,G⟩;simp only at C G;rw[u]at z;have W:=ζd z;have X:=O.2 c[n] (getElem_mem z);have⟨d,Y,I⟩:=tA (c:=x.l.l[i]) (by rw[u];omega) (by rw[u];omega)
  rw[u]at I;unfold fG.br;dsimp only;rw[show len x.l.l[i]=((x.l.l[i].l.length:Nat):Int)from rfl,u,decide_eq_true Zaa,bH,bJ hi,ζb,Y,ζb,wB (by rw[I];exact z),ζb]
  unfold Sl.get;rw[I,W,ζb,ζb,eB _ Zaa Zaa]
  have⟨g,Z,j⟩:=put_eq (s:=d) (p:=n) (x:=c[n]+1) (by rw[I];exact z)
  have w:g.l=bump c n 1:=by rw[j,I,GF W]
  have Q:=Ta a e n;rw[Z,ζb,zS (by rw[w];exact Q) (by rw[w,u5];omega),ζb,w]
  by_cases J:bump c n 1∈L
  .have⟨o2,k1,k2⟩:=nM (s:=o) (x:=ov (nF x.index) (nG (bump c n 1)) 0) Zaa
   rw[(U.has _ Q).2 J,bH,k1,ζb,bg];refine⟨cM n Zaa,by show o2.l.length<=_;rw[k2];simp;omega,?_⟩
   show o2.l=_;rw[k2,G,U.get _ J,List.range_succ,List.filterMap_append,map_append];simp[J]
  rw[show uT (nF x.index) (nG (bump c n 1))=false from by
   cases h:uT (nF x.index) (nG (bump c n 1))with
   |false=>rfl|true=>exact absurd ((U.has _ Q).1 h) J,bE,bg]
  refine⟨cM n Zaa,by show o.l.length<=_;omega,?_⟩
  show o.l=_;rw[G,List.range_succ,List.filterMap_append,map_append];simp[J]
 rintro⟨o,_⟩ ⟨rfl,C,G⟩;unfold fG.br;dsimp only;rw[jm,bE,bg];refine(bg _).2 ?_;rw[G,u];rfl
theorem tc{c:ST}{p:Nat}{a:Int}(h:c[p]?=some a)(q:Nat):(bump c p 1)[q]?=if p=q then some (a+1)else c[q]?:=by have u:=(ζe.1 h).1;unfold bump;rw[h,getElem?_set];by_cases e:p=q;subst e;rw[if_pos rfl,if_pos rfl,if_pos u];rfl;rw[if_neg e,if_neg e]
theorem FP(g:VT t)(h:fN t (bR t) A)(D:fC t A L){c e:ST}(a:Cons t A c)(G:eC c e):∀(n:Nat){d:ST},Cons t A d->eC d e->d.sum<=(n:Int)->¬eC d c->∃p,p<c.length/\bump c p 1∈L/\eC (bump c p 1) e
 |n,d,J,B,hs,U=>by have W:d.length=c.length:=J.1.1.trans a.1.1.symm;have I:0<d.sum:=(by refine byContradiction λi=>U ?_;have j:=J.1.sum.1;have f:=(Oz (t:=t) (A:=A) (z:=.row (replicate t.procs.l.length 0)) rfl d).2 ⟨J,by simp;omega⟩;have f:d=replicate t.procs.l.length 0:=(by simpa[ins,Sl.l]using f);refine⟨W,λp x y u w=>?_⟩;rw[f,getElem?_replicate]at u;split at u;cases u;exact a.1.pos p y w;cases u);have⟨q,b,C,T,X⟩:=J.down g h I;have S:=(ζe.1 C).1;by_cases Q:eC (d.set q (b-1)) c;have O:=ζd (show q<c.length by omega);have e1:=Q.2 q (b-1) _ (by rw[List.getElem?_set_self S]) O;have e2:∀p x y,p≠q->d[p]?=some x->c[p]?=some y->x<=y:=λp x y Y u w=>Q.2 p x y (by rw[List.getElem?_set_ne (Ne.symm Y)];exact u) w;have e3:b=c[q]+1:=(by refine byContradiction λZ=>U ⟨W,λp x y u w=>?_⟩;by_cases e:p=q;subst e;rw[C]at u;cases u;rw[O]at w;cases w;omega;exact e2 p x y e u w);refine⟨q,Zaa,(D.mem _).2 (join_cons a J ⟨u5,λp x y u w=>?_⟩),⟨by rw[u5];exact G.1,λp x y u w=>?_⟩⟩;rw[tc O];by_cases e:q=p;subst e;rw[if_pos rfl];rw[C]at w;cases w;rw[O]at u;cases u;unfold D3;simp;omega;rw[if_neg e,u];have:=e2 p y x (Ne.symm e) w u;unfold D3;simp;omega;rw[tc O]at u;by_cases e:q=p;subst e;rw[if_pos rfl]at u;cases u;have:=B.2 q b y C w;omega;rw[if_neg e]at u;exact G.2 p x y u w;cases n with|zero=>omega|succ n=>refine FP g h D a G n X ⟨by rw[length_set];exact B.1,λp x y u w=>?_⟩ (by rw[p_ C];omega) Q;by_cases e:q=p;subst e;rw[List.getElem?_set_self S]at u;cases u;have:=B.2 q b y C w;omega;rw[List.getElem?_set_ne e]at u;exact B.2 p x y u w
end
end Go.VE
