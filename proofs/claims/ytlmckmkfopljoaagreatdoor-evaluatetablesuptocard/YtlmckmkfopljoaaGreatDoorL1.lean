/-
 The law in plain Lean, and the join.
-/
import Derived.Test.YtlmckmkfopljoaaGreatDoorK1
import Derived.Test.YtlmckmkfopljoaaGreatDoorG1
set_option linter.all false
open List(Nodup Pairwise all_cons all_eq_true any_eq_true countP countP_append countP_cons countP_le_length countP_nil drop_eq_getElem_cons drop_eq_nil_of_le ext_getElem? finRange find?_append find?_eq_none getElem?_eq_none getElem?_map getElem?_set getElem?_take getElem_mem length_cons length_singleton length_take mapM_cons map_append map_cons map_nil mem_append mem_append_left mem_cons mem_cons_of_mem mem_cons_self mem_iff_getElem? mem_map mem_of_getElem? mem_of_mem_take mem_range mem_singleton not_mem_nil pairwise_map range range' replicate sum_cons sum_nil take_add_one take_length)
open Option(bind_eq_bind getD_none getD_some map_some pure_def)
open Go.IntKind(wrap)
open Nat(le_refl zero_le)
open Bool(false_eq_true not_eq_true' not_not or_eq_false_iff or_eq_true)
open ByteArray(toList)
open Relation(TransGen)
open Classical(byContradiction)
open Int(ofNat toNat toNat_natCast)
open Empty(elim)
namespace Go.VE
theorem Zaf{p:Prop}(h:p:=by kernel_rfl):p:=h
instance:cA Var where
 wt x:=cA.wt x.name+cA.wt x.init_+1
 ok x:=cA.ok x.name/\cA.ok x.init_/\True
instance:cA Assign where
 wt x:=cA.wt x.var+cA.wt x.value+1
 ok x:=cA.ok x.var/\cA.ok x.value/\True
instance:cA WF where
 wt x:=cA.wt x.kind+cA.wt x.peer+cA.wt x.message+cA.wt x.time+cA.wt x.assign+1
 ok x:=cA.ok x.kind/\cA.ok x.peer/\cA.ok x.message/\cA.ok x.time/\cA.ok x.assign/\True
instance:cA bX where
 wt x:=cA.wt x.name+cA.wt x.vars+cA.wt x.events+1
 ok x:=cA.ok x.name/\cA.ok x.vars/\cA.ok x.events/\True
instance:cA Z4 where
 wt x:=cA.wt x.procs+1
 ok x:=cA.ok x.procs/\True
instance:cA b7 where
 wt x:=cA.wt x.low+cA.wt x.high+1
 ok x:=cA.ok x.low/\cA.ok x.high/\True
instance:cA cq where
 wt x:=cA.wt x.t+cA.wt x.counts+cA.wt x.values+1
 ok x:=cA.ok x.t/\cA.ok x.counts/\cA.ok x.values/\True
mutual
def Pred.Zk:Pred->Nat
 |⟨f0,f1,f2,f3,B,f5⟩=>cA.wt f0+cA.wt f1+cA.wt f2+cA.wt f3+cA.wt B+Pred.Ud f5+1
def Pred.Ud:Sl Pred->Nat
 |.nil=>1|.emp=>1|.row l=>Pred.Jh l+1|.part l=>Pred.Jh l+1
def Pred.Jh:aZ Pred->Nat
 |[]=>0|x::r=>Pred.Zk x+Pred.Jh r
end
mutual
def Pred.Zp:Pred->Prop
 |⟨f0,f1,f2,f3,B,f5⟩=>cA.ok f0/\cA.ok f1/\cA.ok f2/\cA.ok f3/\cA.ok B/\Pred.Zt f5/\True
def Pred.Zt:Sl Pred->Prop
 |.nil=>True|.emp=>False|.row l=>Pred.Th l|.part l=>Pred.Th l
def Pred.Th:aZ Pred->Prop
 |[]=>True|x::r=>Pred.Zp x/\Pred.Th r
end
instance:cA Pred where
 wt:=Pred.Zk
 ok:=Pred.Zp
theorem Pred.FF:∀l:aZ Pred,Pred.Jh l=(l.map cA.wt).sum
 |[]=>rfl|x::r=>by simp only[Pred.Jh,map_cons,sum_cons,Pred.FF r];rfl
theorem Pred.Za(s:Sl Pred):Pred.Ud s=cA.wt s:=by cases s with|nil=>rfl|emp=>rfl|row l=>show Pred.Jh l+1=(l.map cA.wt).sum+1;rw[Pred.FF]|part l=>show Pred.Jh l+1=(l.map cA.wt).sum+1;rw[Pred.FF]
theorem Pred.Ga:∀l:aZ Pred,(∀x∈l,cA.ok x)->Pred.Th l
 |[],_=>trivial|x::r,h=>⟨h x (mem_cons_self ..),Pred.Ga r λy B=>h y (mem_cons_of_mem _ B)⟩
theorem Pred.Z5(s:Sl Pred)(h:cA.ok s):Pred.Zt s:=by cases s with|nil=>trivial|emp=>exact h.2 rfl|row l=>exact Pred.Ga l h.1|part l=>exact Pred.Ga l h.1
end Go.VE
namespace Go.VE.YtlmckmkfopljoaaGreatDoor
open Go.Proofs Go.Proofs.YtlmckmkfopljoaaGreatDoor
instance rd9:Reads Tryz.prog 9 U':=Reads.str Tryz.underlying9 Zaf
instance rd3:Reads Tryz.prog 3 Int:=Reads.int Tryz.underlying3 Zaf
instance aap:Reads Tryz.prog 116 Var:=by refine Reads.st Tryz.underlying116 Zaf rfl ?_;intro H enc w base a c u cs l J h;simp only[mapM_cons,List.mapM_nil,pure_def,bind_eq_bind,ζg,ζa]at h;obtain⟨z,e,L,⟨B,f,O,rfl,rfl⟩,rfl⟩:=h;have⟨a0,C,k0,Q⟩:=Reads.rd (P:=Tryz.prog) (t:=9) (α:=U') (d:=z.1) (ps:=z.2) e;rw[show Tryz.prog.cellsOf 9=1 from by kernel_rfl]at C;have⟨D,G,k1,S⟩:=Reads.rd (P:=Tryz.prog) (t:=3) (α:=Int) (d:=B.1) (ps:=B.2) f;rw[show Tryz.prog.cellsOf 3=1 from by kernel_rfl]at G;refine⟨⟨a0,D⟩,fN.fin (n:=2) (fN.seg (o:=1) (n:=1) (fN.seg (o:=0) (n:=1) (show fN (snap w) [] (cs.take 0)from by simpa using fN.nil) C) G) J,⟨k0,k1,trivial⟩,λb I=>?_⟩;have T:=Q b I;have U:=S b I;show cA.wt a0+cA.wt D+1<=_;simp only[map_cons,map_nil,sum_cons,sum_nil];omega
instance aas:Reads Tryz.prog 46 (Sl Var):=Reads.sl (e:=116) Tryz.underlying46 Zaf (by decide)
instance aao:Reads Tryz.prog 114 Assign:=by refine Reads.st Tryz.underlying114 Zaf rfl ?_;intro H enc w base a c u cs l J h;simp only[mapM_cons,List.mapM_nil,pure_def,bind_eq_bind,ζg,ζa]at h;obtain⟨z,e,L,⟨B,f,O,rfl,rfl⟩,rfl⟩:=h;have⟨a0,C,k0,Q⟩:=Reads.rd (P:=Tryz.prog) (t:=3) (α:=Int) (d:=z.1) (ps:=z.2) e;rw[show Tryz.prog.cellsOf 3=1 from by kernel_rfl]at C;have⟨D,G,k1,S⟩:=Reads.rd (P:=Tryz.prog) (t:=3) (α:=Int) (d:=B.1) (ps:=B.2) f;rw[show Tryz.prog.cellsOf 3=1 from by kernel_rfl]at G;refine⟨⟨a0,D⟩,fN.fin (n:=2) (fN.seg (o:=1) (n:=1) (fN.seg (o:=0) (n:=1) (show fN (snap w) [] (cs.take 0)from by simpa using fN.nil) C) G) J,⟨k0,k1,trivial⟩,λb I=>?_⟩;have T:=Q b I;have U:=S b I;show cA.wt a0+cA.wt D+1<=_;simp only[map_cons,map_nil,sum_cons,sum_nil];omega
instance aav:Reads Tryz.prog 49 (Sl Assign):=Reads.sl (e:=114) Tryz.underlying49 Zaf (by decide)
instance aaw:Reads Tryz.prog 51 WF:=by refine Reads.st Tryz.underlying51 Zaf rfl ?_;intro H enc w base a c z cs l W h;simp only[mapM_cons,List.mapM_nil,pure_def,bind_eq_bind,ζg,ζa]at h;obtain⟨B,e,X,⟨C,f,Y,⟨x2,Z,x,⟨D,g,y,⟨x4,i,A,rfl,rfl⟩,rfl⟩,rfl⟩,rfl⟩,rfl⟩:=h;have⟨a0,G,k0,j⟩:=Reads.rd (P:=Tryz.prog) (t:=3) (α:=Int) (d:=B.1) (ps:=B.2) e;rw[show Tryz.prog.cellsOf 3=1 from by kernel_rfl]at G;have⟨I,J,k1,k⟩:=Reads.rd (P:=Tryz.prog) (t:=3) (α:=Int) (d:=C.1) (ps:=C.2) f;rw[show Tryz.prog.cellsOf 3=1 from by kernel_rfl]at J;have⟨L,O,m,p⟩:=Reads.rd (P:=Tryz.prog) (t:=3) (α:=Int) (d:=x2.1) (ps:=x2.2) Z;rw[show Tryz.prog.cellsOf 3=1 from by kernel_rfl]at O;have⟨Q,S,q,r⟩:=Reads.rd (P:=Tryz.prog) (t:=3) (α:=Int) (d:=D.1) (ps:=D.2) g;rw[show Tryz.prog.cellsOf 3=1 from by kernel_rfl]at S;have⟨T,U,s,v⟩:=Reads.rd (P:=Tryz.prog) (t:=49) (α:=(Sl Assign)) (d:=x4.1) (ps:=x4.2) i;rw[show Tryz.prog.cellsOf 49=1 from by kernel_rfl]at U;refine⟨⟨a0,I,L,Q,T⟩,fN.fin (n:=5) (fN.seg (o:=4) (n:=1) (fN.seg (o:=3) (n:=1) (fN.seg (o:=2) (n:=1) (fN.seg (o:=1) (n:=1) (fN.seg (o:=0) (n:=1) (show fN (snap w) [] (cs.take 0)from by simpa using fN.nil) G) J) O) S) U) W,⟨k0,k1,m,q,s,trivial⟩,λb u=>?_⟩;have E:=j b u;have F:=k b u;have K:=p b u;have M:=r b u;have N:=v b u;show cA.wt a0+cA.wt I+cA.wt L+cA.wt Q+cA.wt T+1<=_;simp only[map_cons,map_nil,sum_cons,sum_nil];omega
instance aat:Reads Tryz.prog 45 (Sl WF):=Reads.sl (e:=51) Tryz.underlying45 Zaf (by decide)
instance aay:Reads Tryz.prog 48 bX:=by refine Reads.st Tryz.underlying48 Zaf rfl ?_;intro H enc w base a c z cs l O h;simp only[mapM_cons,List.mapM_nil,pure_def,bind_eq_bind,ζg,ζa]at h;obtain⟨B,e,Q,⟨C,f,S,⟨x2,T,U,rfl,rfl⟩,rfl⟩,rfl⟩:=h;have⟨a0,D,k0,W⟩:=Reads.rd (P:=Tryz.prog) (t:=9) (α:=U') (d:=B.1) (ps:=B.2) e;rw[show Tryz.prog.cellsOf 9=1 from by kernel_rfl]at D;have⟨G,I,k1,X⟩:=Reads.rd (P:=Tryz.prog) (t:=46) (α:=(Sl Var)) (d:=C.1) (ps:=C.2) f;rw[show Tryz.prog.cellsOf 46=1 from by kernel_rfl]at I;have⟨J,L,Y,Z⟩:=Reads.rd (P:=Tryz.prog) (t:=45) (α:=(Sl WF)) (d:=x2.1) (ps:=x2.2) T;rw[show Tryz.prog.cellsOf 45=1 from by kernel_rfl]at L;refine⟨⟨a0,G,J⟩,fN.fin (n:=3) (fN.seg (o:=2) (n:=1) (fN.seg (o:=1) (n:=1) (fN.seg (o:=0) (n:=1) (show fN (snap w) [] (cs.take 0)from by simpa using fN.nil) D) I) L) O,⟨k0,k1,Y,trivial⟩,λb u=>?_⟩;have g:=W b u;have i:=X b u;have j:=Z b u;show cA.wt a0+cA.wt G+cA.wt J+1<=_;simp only[map_cons,map_nil,sum_cons,sum_nil];omega
instance aax:Reads Tryz.prog 22 (Sl bX):=Reads.sl (e:=48) Tryz.underlying22 Zaf (by decide)
instance aau:Reads Tryz.prog 24 Z4:=by refine Reads.st Tryz.underlying24 Zaf rfl ?_;intro H enc w base a c u cs l C h;simp only[mapM_cons,List.mapM_nil,pure_def,bind_eq_bind,ζg,ζa]at h;obtain⟨z,e,D,rfl,rfl⟩:=h;have⟨a0,B,k0,G⟩:=Reads.rd (P:=Tryz.prog) (t:=22) (α:=(Sl bX)) (d:=z.1) (ps:=z.2) e;rw[show Tryz.prog.cellsOf 22=1 from by kernel_rfl]at B;refine⟨⟨a0⟩,fN.fin (n:=1) (fN.seg (o:=0) (n:=1) (show fN (snap w) [] (cs.take 0)from by simpa using fN.nil) B) C,⟨k0,trivial⟩,λb I=>?_⟩;have J:=G b I;show cA.wt a0+1<=_;simp only[map_cons,map_nil,sum_cons,sum_nil];omega
theorem WS:∀B,tg Tryz.prog 28 Pred B:=by
 intro B;induction B using Nat.strongRecOn with|ind B Y=>
 cases B with|zero=>intro H enc w base a c cs d ps h;simp[DataW.trod]at h|succ B=>
 refine tg.st Tryz.underlying28 Zaf ?_;intro H enc w base a c cs l Z h;simp only[mapM_cons,List.mapM_nil,pure_def,bind_eq_bind,ζg,ζa]at h;obtain⟨C,f,M,⟨D,i,N,⟨x2,j,R,⟨G,k,V,⟨x4,m,af,⟨x5,p,ah,rfl,rfl⟩,rfl⟩,rfl⟩,rfl⟩,rfl⟩,rfl⟩:=h;have⟨a0,I,k0,q⟩:=Reads.rd (P:=Tryz.prog) (t:=3) (α:=Int) (d:=C.1) (ps:=C.2) f;rw[show Tryz.prog.cellsOf 3=1 from by kernel_rfl]at I;have⟨J,L,k1,r⟩:=Reads.rd (P:=Tryz.prog) (t:=3) (α:=Int) (d:=D.1) (ps:=D.2) i;rw[show Tryz.prog.cellsOf 3=1 from by kernel_rfl]at L;have⟨O,Q,s,v⟩:=Reads.rd (P:=Tryz.prog) (t:=3) (α:=Int) (d:=x2.1) (ps:=x2.2) j;rw[show Tryz.prog.cellsOf 3=1 from by kernel_rfl]at Q;have⟨S,T,x,y⟩:=Reads.rd (P:=Tryz.prog) (t:=3) (α:=Int) (d:=G.1) (ps:=G.2) k;rw[show Tryz.prog.cellsOf 3=1 from by kernel_rfl]at T;have⟨U,W,A,E⟩:=Reads.rd (P:=Tryz.prog) (t:=9) (α:=U') (d:=x4.1) (ps:=x4.2) m;rw[show Tryz.prog.cellsOf 9=1 from by kernel_rfl]at W;have⟨X,z,F,K⟩:=tg.Y_ (t:=26) (e:=28) (α:=Pred) Tryz.underlying26 Zaf (by decide) (λg hg=>Y g Zaa) (show _=some (x5.1,x5.2)from p);rw[show Tryz.prog.cellsOf 26=1 from by kernel_rfl]at z;rw[vO rfl,<-Pred.eE]at z;refine⟨⟨a0,J,O,S,U,X⟩,fN.fin (n:=6) (fN.seg (o:=5) (n:=1) (fN.seg (o:=4) (n:=1) (fN.seg (o:=3) (n:=1) (fN.seg (o:=2) (n:=1) (fN.seg (o:=1) (n:=1) (fN.seg (o:=0) (n:=1) (show fN (snap w) [] (cs.take 0)from by simpa using fN.nil) I) L) Q) T) W) z) Z,⟨k0,k1,s,x,A,Pred.Z5 _ F,trivial⟩,λb u=>?_⟩;have w0:=q b u;have w1:=r b u;have w2:=v b u;have w3:=y b u;have w4:=E b u;have w5:=K b u;show cA.wt a0+cA.wt J+cA.wt O+cA.wt S+cA.wt U+Pred.Ud X+1<=_;rw[Pred.Za];simp only[map_cons,map_nil,sum_cons,sum_nil];omega
instance aaz:Reads Tryz.prog 28 Pred:=Reads.of Tryz.underlying28 Zaf rfl WS
end Go.VE.YtlmckmkfopljoaaGreatDoor
namespace Go.VE
end Go.VE
namespace Go.VE
abbrev Mb{α:Type}(m:a_ α):Prop:=Wp m λ_=>True
theorem Mb.get{α:Type}{m:a_ α}(h:Mb m):∃a,m=some a:=let⟨a,e,_⟩:=h;⟨a,e⟩
theorem Mb.ok{m:a_ X'}(h:Mb m):m=some (m.getD false):=by have⟨a,e,_⟩:=h;rw[e];rfl
def Small(t:Z4):Prop:=t.procs.l.length<1073741824/\∀p∈t.procs.l,p.events.l.length<1073741824/\p.vars.l.length<1073741824/\p.name.size<1073741824/\(∀v∈p.vars.l,v.name.size<1073741824)/\∀e∈p.events.l,e.assign.l.length<1073741824
section
theorem MR{s:Sl WF}{p:WF->a_ X'}{f:WF->X'}(hp:∀x∈s.l,p x=some (f x))(B:s.l.length<1073741824):gJ s p=some (place f s.l):=vW hp Zaa (λi=>rfl)
theorem Px{s:Sl bX}{p:bX->a_ X'}{f:bX->X'}(hp:∀x∈s.l,p x=some (f x))(B:s.l.length<1073741824):hU s p=some (place f s.l):=vW hp Zaa (λi=>rfl)
theorem DE{s:Sl Var}{p:Var->a_ X'}{f:Var->X'}(hp:∀x∈s.l,p x=some (f x))(B:s.l.length<1073741824):fI s p=some (place f s.l):=vW hp Zaa (λi=>rfl)
theorem KP{s:Sl Assign}{p:Assign->a_ X'}{f:Assign->X'}(hp:∀x∈s.l,p x=some (f x))(B:s.l.length<1073741824):gp s p=some (place f s.l):=vW hp Zaa (λi=>rfl)
theorem AJ{s:Sl WF}{p:WF->a_ X'}{f:WF->X'}(hp:∀x∈s.l,p x=some (f x))(B:s.l.length<1073741824):ja s p=some (s.l.any f):=by unfold ja;rw[MR hp B,ζb,vT]
theorem Bh{s:Sl bX}{p:bX->a_ X'}{f:bX->X'}(hp:∀x∈s.l,p x=some (f x))(B:s.l.length<1073741824):ir s p=some (s.l.any f):=by unfold ir;rw[Px hp B,ζb,vT]
theorem CJ{s:Sl Var}{p:Var->a_ X'}{f:Var->X'}(hp:∀x∈s.l,p x=some (f x))(B:s.l.length<1073741824):iC s p=some (s.l.any f):=by unfold iC;rw[DE hp B,ζb,vT]
theorem FA{s:Sl Assign}{p:Assign->a_ X'}{f:Assign->X'}(hp:∀x∈s.l,p x=some (f x))(B:s.l.length<1073741824):iJ s p=some (s.l.any f):=by unfold iJ;rw[KP hp B,ζb,vT]
theorem qo(x a b:Int):oC x a b=some (decide (a<=x)&&decide (x<=b)):=by unfold oC;rw[nZ];rfl
theorem N9{s:U'}{i:Nat}(h:i<s.size):∃x,lZ s (i:Int)=some x:=by unfold lZ;rw[if_pos Zaa];exact⟨_,by rw[show(s[(i:Int).toNat]?)=some s[i]from by simp[h]];rfl⟩
def l_(n:Nat)(p:Int)(e:WF):Prop:=e.kind=1\/((e.kind=2\/e.kind=3)/\0<=e.peer/\e.peer<n/\e.peer≠p/\0<=e.message/\e.message<=199)
end
def mM(t:Z4)(p k:Nat)(e:WF):Prop:=∃P,t.procs.l[p]?=some P/\P.events.l[k]?=some e
theorem vt{p:Int}{x:bf×WF}:∀{es:aZ WF}{j:Int},x∈jA p j es↔∃k:Nat,es[k]?=some x.2/\x.1=⟨p,j+k+1⟩
 |[],j=>by simp[jA]|e::es,j=>by simp[jA,vt];constructor;rintro(rfl|⟨k,a,B⟩);exact⟨0,rfl,Zab⟩;exact⟨k+1,Zac,Zac⟩;grind
theorem wv{x:bf×WF}:∀{ps:aZ bX}{i:Int},x∈gG i ps↔∃(a k:Nat)(P:bX),ps[a]?=some P/\P.events.l[k]?=some x.2/\x.1=⟨i+a,k+1⟩
 |[],i=>by simp[gG]|p::ps,i=>by simp only[gG,mem_append,vt,wv];constructor;rintro(⟨k,b,B⟩|⟨a,k,P,b,B,D⟩);exact⟨0,k,p,rfl,b,Zac⟩;exact⟨a+1,k,P,Zad,B,Zac⟩;grind
abbrev bY(t:Trace):aZ (bf×Event):=gG 0 t.procs.l
theorem dR{t:Z4}{x:bf×WF}:x∈bY t↔∃p k:Nat,mM t p k x.2/\x.1=⟨p,k+1⟩:=by rw[wv];constructor;rintro⟨a,k,P,b,u,w⟩;exact⟨a,k,⟨P,b,u⟩,Zac⟩;rintro⟨a,k,⟨P,b,u⟩,w⟩;grind
theorem zX{t:Z4}{x y:bf×WF}(B:x∈bY t)(D:y∈bY t)(h:x.1=y.1):x=y:=by have⟨p,k,⟨P,u,a⟩,e1⟩:=dR.1 B;have⟨q,j,⟨Q,w,z⟩,e2⟩:=dR.1 D;grind
theorem uw{t:Z4}(a:Small t):kf t=some (bY t):=by unfold kf;rw[if_pos];simp[pY];exact⟨by have:=a.1;omega,λp u=>by have:=(a.2 p u).1;omega⟩
def uh(t:Z4)(p m a:Int):X':=match t.procs.l[p.toNat]?with
 |some P=>P.events.l.any λe=>e.kind==2&&e.message==m&&e.peer==a|none=>false
theorem S_{t:Z4}(b:Small t){p:Int}(c:0<=p)(d:p<t.procs.l.length)(m a:Int):vo t p m a=some (uh t p m a):=by unfold vo;have u:p.toNat<t.procs.l.length:=Zaa;have w:=getElem_mem u;rw[S9 c,ζd u,ζb,AJ (f:=λe=>e.kind==2&&e.message==m&&e.peer==a) (λe _=>by unfold rL;simp[nZ]) (b.2 _ w).1,ζb];unfold uh;grind
theorem Ay{t:Z4}{p:Nat}{m a:Int}:uh t p m a=true↔∃k e,mM t p k e/\e.kind=2/\e.message=m/\e.peer=a:=by unfold uh mM;rw[show(p:Int).toNat=p from rfl];cases w:t.procs.l[p]?with|none=>simp|some P=>simp;constructor;rintro⟨e,u,h⟩;have⟨k,b⟩:=List.getElem?_of_mem u;grind;grind
def ag(A:cH 200 bM)(m:Int):bM:=(A.at m).getD default
theorem NF(A:cH 200 bM){m:Int}(a:0<=m)(b:m<=199):A.at m=some (ag A m):=by
 have:m.toNat<A.l.length:=by rw[A.len];omega
 unfold ag cH.at;grind
theorem sG(A:cH 200 bM){m m':Int}(x:bM)(a:0<=m)(b:m<=199)(B:0<=m'):ag (A.set m x) m'=if m'=m then x else ag A m':=by
 have:m.toNat<A.l.length:=by rw[A.len];omega
 unfold ag cH.at cH.set;grind
theorem O5{m:Int}(a:0<=m)(b:m<=199):ag (cH.PY 200 (⟨⟨0,0⟩,⟨0,0⟩⟩:bM)) m=⟨⟨0,0⟩,⟨0,0⟩⟩:=by unfold ag cH.at cH.PY;grind
structure iW(t:Trace)(its:List (bf×Event))(A:cH 200 bM):Prop where
 snd:∀x∈its,x.2.kind=2->(ag A x.2.message).from_=x.1
 rcv:∀x∈its,x.2.kind=3->(ag A x.2.message).to_=x.1/\uh t x.2.peer x.2.message x.1.proc=true
 fr:∀m,0<=m->m<=199->(ag A m).from_.index=0\/∃e,((ag A m).from_,e)∈its/\e.kind=2/\e.message=m
 to:∀m,0<=m->m<=199->(ag A m).to_.index=0\/∃e,((ag A m).to_,e)∈its/\e.kind=3/\e.message=m
def NY(a b:bf×WF):Prop:=a.1.proc<b.1.proc\/a.1.proc=b.1.proc/\a.1.index<b.1.index
theorem OU{p:Int}:∀{es:aZ WF}{j:Int},(jA p j es).Pairwise NY
 |[],_=>Pairwise.nil|e::es,j=>by simp only[jA,List.pairwise_cons];refine⟨λb B=>?_,OU⟩;have⟨k,_,D⟩:=vt.1 B;refine .inr ⟨by rw[D],?_⟩;grind
theorem Kj:∀{ps:aZ bX}{i:Int},(gG i ps).Pairwise NY
 |[],_=>Pairwise.nil|P::ps,i=>by simp only[gG,List.pairwise_append];refine⟨OU,Kj,λa B b D=>.inl ?_⟩;have⟨k,_,G⟩:=vt.1 B;have⟨c,j,P,_,_,u⟩:=wv.1 D;grind
theorem JH{t:Z4}{k:Nat}{x y:bf×WF}(B:(bY t)[k]?=some x)(D:y∈(bY t).take k):y.1≠x.1:=by
 have⟨a,u⟩:=ζe.1 B;have w:((bY t).take k++(bY t).drop k).Pairwise NY:=by rw[List.take_append_drop];exact Kj
 have:=(List.pairwise_append.1 w).2.2 y D x (by rw[drop_eq_getElem_cons a,u];grind);unfold NY at this;grind
structure zj(t:Trace):Prop where
 snd:∀x∈bY t,∀y∈bY t,x.2.kind=2->y.2.kind=2->x.2.message=y.2.message->x.1=y.1
 rcv:∀x∈bY t,∀y∈bY t,x.2.kind=3->y.2.kind=3->x.2.message=y.2.message->x.1=y.1
 has:∀x∈bY t,x.2.kind=3->uh t x.2.peer x.2.message x.1.proc=true
theorem iW.Bm{t:Z4}{A:cH 200 bM}(h:iW t (bY t) A):zj t:=⟨λx w y z B u C=>by rw[<-h.snd x w B,<-h.snd y z u,C],λx w y z B u C=>by rw[<-(h.rcv x w B).1,<-(h.rcv y z u).1,C],λx w k=>(h.rcv x w k).2⟩
theorem Ew{t:Z4}(i:Small t)(g:∀x∈bY t,l_ t.procs.l.length x.1.proc x.2):Wp (eZ t) λr=>(r.2.2=0->∃A,r.1=some A/\iW t (bY t) A)/\(zj t->r.2.2=0):=by
 unfold eZ jU;rw[ζb];unfold eZ.E1;rw[uw i,ζb];refine za (λk A=>iW t ((bY t).take k) A) ⟨Zab,Zab,λm c b=>.inl (by rw[O5 c b]),λm c b=>.inl (by rw[O5 c b])⟩ ?_ ?_;intro k x A Z B;have G:=mem_of_getElem? Z;have S:(bY t).take (k+1)=(bY t).take k++[x]:=by rw[take_add_one,Z];rfl
 have⟨p,j,E,F⟩:=dR.1 G;have l:=g x G;unfold eZ.kD;rw[ct];constructor;intro d;have L:x.2.kind=2:=by grind
 have u:0<=x.2.message/\x.2.message<=199:=by rcases l with h|⟨_,_,_,_,h⟩;omega;simp_all
 rw[NF A u.1 u.2,ζb,ct];refine⟨λn=>(bh _).2 ((bh _).2 ⟨λh=>(by cases h),λW=>?_⟩),λc=>?_⟩;rcases B.fr _ u.1 u.2 with X|⟨e,O,T,U⟩;grind;exact absurd (W.snd _ (mem_of_mem_take O) x G T L U) (JH Z O);rw[ζb,bh,S];have old:∀y∈(bY t).take k,y.2.kind=2->y.2.message≠x.2.message:=λy a w O=>by have:=B.snd y a w;rw[O]at this;have⟨p',o,_,Q⟩:=dR.1 (mem_of_mem_take a);grind
 have Y:∀y∈(bY t).take k,y.2.kind=2\/y.2.kind=3->0<=y.2.message:=λy a w=>by rcases g y (mem_of_mem_take a)with h|⟨_,_,_,_,h,_⟩;omega;simp_all
 refine⟨λy a w=>?_,λy a z=>?_,λm C I=>?_,λm C I=>?_⟩;rcases mem_append.1 a with a|a;rw[sG A _ u.1 u.2 (Y y a (.inl w)),if_neg (old y a w)];exact B.snd y a w;simp at a;subst a;rw[sG A _ u.1 u.2 u.1,if_pos rfl];rcases mem_append.1 a with a|a;rw[sG A _ u.1 u.2 (Y y a (.inr z))];have:=B.rcv y a z;grind;grind;rw[sG A _ u.1 u.2 C];split;next e=>exact .inr ⟨x.2,Zab,L,e.symm⟩
 exact(B.fr m C I).imp (λh=>h) λ⟨e,b,D⟩=>⟨e,mem_append_left _ b,D⟩;rw[sG A _ u.1 u.2 C];have:=(B.to m C I).imp (λh=>h) λ⟨e,b,D⟩=>(⟨e,mem_append_left [x] b,D⟩:∃e,((ag A m).to_,e)∈(bY t).take k++[x]/\e.kind=3/\e.message=m);split;next e=>subst e;omega
 omega;intro d;have L:=by simpa using d
 rw[ct];constructor;intro d;have J:=by simpa using d
 have u:0<=x.2.message/\x.2.message<=199/\0<=x.2.peer/\x.2.peer<t.procs.l.length:=by rcases l with h|⟨_,b,D,_,s,v⟩;omega;exact⟨s,v,b,D⟩
 rw[NF A u.1 u.2.1,ζb,ct];refine⟨λn=>(bh _).2 ((bh _).2 ⟨λh=>(by cases h),λW=>?_⟩),λc=>?_⟩;rcases B.to _ u.1 u.2.1 with X|⟨e,O,T,U⟩;simp[X]at n;exact absurd (W.rcv _ (mem_of_mem_take O) x G T J U) (JH Z O);have c:¬(ag A x.2.message).to_.index>0:=by simpa using c
 rw[S_ i u.2.2.1 u.2.2.2,ζb,ct];refine⟨λf=>?_,λf=>(bh _).2 ((bh _).2 ⟨λh=>(by cases h),λW=>by rw[W.has x G J]at f;cases f⟩)⟩;rw[ζb,bh,S];have old:∀y∈(bY t).take k,y.2.kind=3->y.2.message≠x.2.message:=λy a w O=>by have:=(B.rcv y a w).1;rw[O]at this;rw[this]at c;have⟨p',o,_,Q⟩:=dR.1 (mem_of_mem_take a);rw[Q]at c;exact c (by show(o:Int)+1>0;omega)
 have Y:∀y∈(bY t).take k,y.2.kind=2\/y.2.kind=3->0<=y.2.message:=λy a w=>by rcases g y (mem_of_mem_take a)with h|⟨_,_,_,_,h,_⟩;omega;exact h
 refine⟨λy a w=>?_,λy a z=>?_,λm C I=>?_,λm C I=>?_⟩;rcases mem_append.1 a with a|a;rw[sG A _ u.1 u.2.1 (Y y a (.inl w))];have:=B.snd y a w;split;next e=>rw[e]at this;exact this
 exact this;simp at a;subst a;omega;rcases mem_append.1 a with a|a;rw[sG A _ u.1 u.2.1 (Y y a (.inr z)),if_neg (old y a z)];exact B.rcv y a z;simp at a;subst a;rw[sG A _ u.1 u.2.1 u.1,if_pos rfl];exact⟨rfl,f⟩;rw[sG A _ u.1 u.2.1 C];have:=(B.fr m C I).imp (λh=>h) λ⟨e,b,D⟩=>(⟨e,mem_append_left [x] b,D⟩:∃e,((ag A m).from_,e)∈(bY t).take k++[x]/\e.kind=2/\e.message=m);split;next e=>subst e;exact this
 exact this;rw[sG A _ u.1 u.2.1 C];split;next e=>exact .inr ⟨x.2,Zab,J,e.symm⟩
 exact(B.to m C I).imp (λh=>h) λ⟨e,b,D⟩=>⟨e,mem_append_left _ b,D⟩;intro d;have J:=by simpa using d
 rw[bh,S];refine⟨λy a w=>?_,λy a z=>?_,λm C I=>?_,λm C I=>?_⟩;rcases mem_append.1 a with a|a;exact B.snd y a w;simp at a;subst a;exact absurd w L;rcases mem_append.1 a with a|a;exact B.rcv y a z;simp at a;subst a;exact absurd z J;exact(B.fr m C I).imp (λh=>h) λ⟨e,b,D⟩=>⟨e,mem_append_left _ b,D⟩;exact(B.to m C I).imp (λh=>h) λ⟨e,b,D⟩=>⟨e,mem_append_left _ b,D⟩;intro A q;rw[take_length]at q;exact(bh _).2 ⟨λ_=>⟨A,rfl,q⟩,λ_=>rfl⟩
def jy(f:Nat->X')(k n:Nat):X':=(range' k (n-k)).any f
theorem Gi{f:Nat->X'}{k n:Nat}(h:k<n):jy f k n=(f k||jy f (k+1) n):=by unfold jy;rw[show n-k=(n-(k+1))+1 from Zaa,List.range'_succ];rfl
theorem Ry{f:Nat->X'}{k n:Nat}(h:n<=k):jy f k n=false:=by unfold jy;rw[show n-k=0 from Zaa];rfl
theorem Ku{f:Nat->X'}{k n:Nat}:jy f k n=true↔∃i,k<=i/\i<n/\f i=true:=by unfold jy;rw[any_eq_true];constructor;rintro⟨i,a,u⟩;rw[List.mem_range'_1]at a;exact⟨i,a.1,Zaa,u⟩;rintro⟨i,b,w,u⟩;exact⟨i,by rw[List.mem_range'_1];omega,u⟩
theorem FU{step:Int->a_ (Fw Int Unit Unit)}{n:Nat}(f:Nat->X')(D:n<9223372036854775807)(a:∀i:Nat,i<n->step i=some (if f i then .r ()else .n (wrap .i64 ((i:Int)+1))))(B:step (n:Int)=some (.x ())):
 ∀m k:Nat,k+m=n->bQ step (k:Int)=some (if jy f k n then .r ()else .x ()):=by
 intro m
 induction m with
 |zero=>
  intro k b;have:k=n:=Zaa
  subst this;rw[fq,B,Ry (le_refl _)];rfl
 |succ m u=>
  intro k b;rw[fq,a k Zaa,Gi Zaa]
  cases w:f k with
  |true=>rfl|false=>
   simp only[false_eq_true,if_false,ζb,Bool.false_or];rw[cF k Zaa]
   exact u (k+1) Zaa
def nR(g:Nat->Int)(k n:Nat):Int:=match(range' k (n-k)).find? λi=> !(g i==0)with
 |some i=>g i|none=>0
theorem GC{g:Nat->Int}{k n:Nat}(h:k<n):nR g k n=if g k=0 then nR g (k+1) n else g k:=by unfold nR;rw[show n-k=(n-(k+1))+1 from Zaa,List.range'_succ,List.find?_cons];by_cases a:g k=0;simp[a];rw[if_neg a,show(!(g k==0))=true from by simp[a]]
theorem IQ{g:Nat->Int}{k n:Nat}(h:n<=k):nR g k n=0:=by unfold nR;rw[show n-k=0 from Zaa];rfl
theorem Ho{g:Nat->Int}{n:Nat}:∀{m k:Nat},k+m=n->(nR g k n=0↔∀i,k<=i->i<n->g i=0):=by intro m;induction m with|zero=>intro k c;rw[IQ Zaa];exact⟨λ_ i b u=>Zaa,λ_=>rfl⟩|succ m w=>intro k c;rw[GC Zaa];split;rename_i a;rw[w (show k+1+m=n by omega)];constructor;intro h i b u;by_cases e:i=k;subst e;exact a;exact h i Zaa u;intro h i b u;exact h i Zaa u;rename_i a;exact⟨λh=>absurd h a,λh=>absurd (h k (le_refl _) Zaa) a⟩
theorem Ux{step:Int->a_ (Fw Int Unit Int)}{n:Nat}(g:Nat->Int)(D:n<9223372036854775807)(b:∀i:Nat,i<n->step i=some (if g i=0 then .n (wrap .i64 ((i:Int)+1))else .r (g i)))(B:step (n:Int)=some (.x ())):
 ∀m k:Nat,k+m=n->bQ step (k:Int)=some (if nR g k n=0 then .x ()else .r (nR g k n)):=by
 intro m
 induction m with
 |zero=>
  intro k c;have:k=n:=Zaa
  subst this;rw[fq,B,IQ (le_refl _)];rfl
 |succ m u=>
  intro k c;rw[fq,b k Zaa,GC Zaa]
  by_cases a:g k=0
  .simp only[a,if_true,ζb];rw[cF k Zaa]
   exact u (k+1) Zaa
  simp only[a,if_false,ζb]
theorem Af{step:Int->a_ (Fw Int Unit Int)}{n:Nat}(g:Nat->Int)(B:n<9223372036854775807)(a:∀i:Nat,i<n->step i=some (if g i=0 then .n (wrap .i64 ((i:Int)+1))else .r (g i)))(D:step (n:Int)=some (.x ())):bQ step 0=some (if nR g 0 n=0 then .x ()else .r (nR g 0 n)):=Ux g B a D n 0 Zaa
theorem DB{step:Int->a_ (Fw Int Unit Unit)}{n:Nat}(f:Nat->X')(B:n<9223372036854775807)(a:∀i:Nat,i<n->step i=some (if f i then .r ()else .n (wrap .i64 ((i:Int)+1))))(D:step (n:Int)=some (.x ())):bQ step 0=some (if jy f 0 n then .r ()else .x ()):=FU f B a D n 0 Zaa
def yX(c:Int):X':=decide (c>=65)&&decide (c<=90)||decide (c>=97)&&decide (c<=122)
def DQ(c:Int):X':=decide (c>=48)&&decide (c<=57)
theorem E9(c:Int):ri c=some (yX c):=by unfold ri yX;simp only[nZ,mg,ζb];rw[Bool.or_comm]
theorem Eb(c:Int):qb c=some (yX c):=by unfold qb yX;simp only[nZ,mg,ζb]
theorem PV(c:Int):vv c=some (DQ c):=by unfold vv DQ;simp only[nZ,ζb]
theorem P7(c:Int):ug c=some (DQ c):=by unfold ug DQ;simp only[nZ,ζb]
def yF(s:U')(i:Nat):Int:=(lZ s (i:Int)).getD 0
theorem Fk{s:U'}{i:Nat}(h:i<s.size):lZ s (i:Int)=some (yF s i):=by have⟨x,u⟩:=N9 h;unfold yF;rw[u];rfl
def tV(s:U')(i:Nat):X':= !yX (yF s i)&& !DQ (yF s i)&& !(yF s i==95)
def mT(s:U'):X':=decide (1<=s.size)&&decide (s.size<=16)&&yX (yF s 0)&& !jy (tV s) 0 s.size
theorem My{s:U'}{i:Nat}(h:i<s.size):g_.bn s (s.size:Int) i=some (if tV s i then .r ()else .n (wrap .i64 ((i:Int)+1))):=by unfold g_.bn tV;rw[show decide ((i:Int)<(s.size:Int))=true from by simpa using h,bE,Fk h];simp only[ζb,E9,PV];cases yX (yF s i)<;>cases DQ (yF s i)<;>cases(yF s i==95)<;>rfl
theorem NS{s:U'}{i:Nat}(h:i<s.size):iT.bn s i=some (if tV s i then .r ()else .n (wrap .i64 ((i:Int)+1))):=by unfold iT.bn tV;rw[show decide ((i:Int)<((ByteArray.size s:Nat):Int))=true from by simpa using h,bE,Fk h];simp only[ζb,Eb,P7];cases yX (yF s i)<;>cases DQ (yF s i)<;>cases(yF s i==95)<;>rfl
theorem toList_empty{s:U'}:(toList s==toList ByteArray.empty)=decide (s.size=0):=by
 rw[Bool.eq_iff_iff,beq_iff_eq,decide_eq_true_eq];constructor;intro h;have a:(toList s).length=s.size:=by rw[Go.ByteArray.toList_eq];simp
 rw[<-a,h];rw[Go.ByteArray.toList_eq];rfl;intro h;have:s=ByteArray.empty:=by apply ByteArray.ext;exact Array.eq_empty_of_size_eq_zero h
 rw[this]
theorem Hw{s:U'}(B:s.size<1073741824):g_ s=some (mT s):=by
 unfold g_;rw[toList_empty];simp only[mg,ζb];by_cases b:s.size=0;simp[b,mT,bl];by_cases u:s.size<=16;have a:(decide (s.size=0)||decide (((ByteArray.size s:Nat):Int)>16))=false:=by simp[b];omega
 rw[a,bJ,show(0:Int)=((0:Nat):Int)from rfl,Fk (show 0<s.size by omega)];simp only[ζb,E9];cases w:yX (yF s 0)with|false=>simp[mT,w,bl]|true=>simp only[Bool.not_true,bJ];unfold g_.W1;rw[FU (n:=s.size) (tV s) Zaa (λi c=>My c) (by unfold g_.bn;simp[bl]) s.size 0 Zaa];have:mT s= !jy (tV s) 0 s.size:=(by simp[mT,w,u];omega);rw[this];cases jy (tV s) 0 s.size<;>rfl
 have a:(decide (s.size=0)||decide (((ByteArray.size s:Nat):Int)>16))=true:=by simp;omega
 rw[a,bE];simp[mT,u,bl]
theorem I9{s:U'}(B:s.size<1073741824):iT s=some (mT s):=by
 unfold iT;simp only[mg,ζb];by_cases c:s.size=0;simp[c,mT,bl];by_cases u:s.size<=16;have a:(decide (((ByteArray.size s:Nat):Int)<1)||decide (((ByteArray.size s:Nat):Int)>16))=false:=by simp;omega
 rw[a,bJ,show(0:Int)=((0:Nat):Int)from rfl,Fk (show 0<s.size by omega)];simp only[ζb,Eb];cases w:yX (yF s 0)with|false=>simp[mT,w,bl]|true=>simp only[Bool.not_true,bJ];unfold iT.W1;rw[show(1:Int)=((1:Nat):Int)from rfl,FU (n:=s.size) (tV s) Zaa (λi d=>NS d) (by unfold iT.bn;simp[bl]) (s.size-1) 1 Zaa];have z:tV s 0=false:=(by simp[tV,w]);have:mT s= !jy (tV s) 1 s.size:=(by have b:=Gi (f:=tV s) (show 0<s.size by omega);rw[z]at b;simp[mT,w,u,b];omega);rw[this];cases jy (tV s) 1 s.size<;>rfl
 have a:(decide (((ByteArray.size s:Nat):Int)<1)||decide (((ByteArray.size s:Nat):Int)>16))=true:=by simp;omega
 rw[a,bE];simp[mT,u,bl]
def fO{α:Type}(l:aZ α)(f:α->X')(i:Nat):X':=match l[i]?with|some y=>f y|none=>false
theorem BU{α:Type}{l:aZ α}{f:α->X'}{i:Nat}(h:i<l.length):fO l f i=f l[i]:=by unfold fO;rw[ζd h]
theorem DF{α:Type}{l:aZ α}{f:α->X'}{p:Nat}:(l.take p).any f=jy (fO l f) 0 p:=by
 rw[Bool.eq_iff_iff,any_eq_true,Ku];constructor;rintro⟨x,w,u⟩;have⟨i,a⟩:=List.getElem?_of_mem w;have z:=(ζe.1 a).1;rw[length_take]at z;rw[getElem?_take,if_pos Zaa]at a;exact⟨i,zero_le _,Zaa,by unfold fO;rw[a];exact u⟩;rintro⟨i,_,a,u⟩;unfold fO at u;split at u;next y B=>exact⟨y,mem_of_getElem? (i:=i) (by rw[getElem?_take,if_pos a];exact B),u⟩
 cases u
def tf(a b:U'):X':=toList a==toList b
def XU:X'->X'->X'->Int
 |true,false,true=>0|true,false,false=>2|_,_,_=>13
def vS(P:bX)(i:Nat):Int:=match P.vars.l[i]?with
 |some v=>XU (mT v.name) (jy (fO P.vars.l λw=>tf w.name v.name) 0 i) (decide (v.init_>=-1073741824)&&decide (v.init_<=1073741824))|none=>0
def tR(t:Z4)(p:Nat):Int:=match t.procs.l[p]?with
 |some P=>if mT P.name&& !jy (fO t.procs.l λy=>tf y.name P.name) 0 p then
  (if P.vars.l.length>8 then 5 else if nR (vS P) 0 P.vars.l.length=0 then(if P.events.l.length>64 then 5 else 0)else nR (vS P) 0 P.vars.l.length)else 13
 |none=>0
theorem Hi{P:bX}{i:Nat}(h:i<P.vars.l.length):vS P i=XU (mT P.vars.l[i].name) (jy (fO P.vars.l λw=>tf w.name P.vars.l[i].name) 0 i) (decide (P.vars.l[i].init_>=-1073741824)&&decide (P.vars.l[i].init_<=1073741824)):=by unfold vS;rw[ζd h]
theorem HC(n:Int):rA n=some (decide (n>=-1073741824)&&decide (n<=1073741824)):=by unfold rA;rw[nZ];rfl
theorem SA{t:Z4}(b:Small t){p:Nat}(hp:p<t.procs.l.length):e9 t p=some (tR t p):=by
 have U:=b.2 _ (getElem_mem hp);have e:=b.1;unfold e9 tR;rw[bF hp,ζb,ζd hp];generalize W:t.procs.l[p]=P at *;have⟨S,X,O,u,_⟩:=U;rw[Hw O,ζb];have⟨x,Y,D⟩:=tF t.procs p Zaa;have G:ir x (λz=>kC z P)=some (jy (fO t.procs.l λy=>tf y.name P.name) 0 p):=by rw[Bh (p:=λz=>kC z P) (f:=λy=>tf y.name P.name) (λy _=>rfl) (by rw[D,length_take];omega),D,DF]
 rw[Y,ζb,G,ζb];dsimp only;cases g:mT P.name with|false=>simp[bl]|true=>rw[bE,ζb,Bool.true_and];cases hd:jy (fO t.procs.l λy=>tf y.name P.name) 0 p with|true=>simp[bl]|false=>rw[bJ];simp only[Bool.not_false,if_true];by_cases T:P.vars.l.length>8;rw[show decide (len P.vars>8)=true from by simp[len];omega,bE,if_pos T];rw[show decide (len P.vars>8)=false from by simp[len];omega,bJ,if_neg T];unfold e9.W1;rw[Af (n:=P.vars.l.length) (vS P) Zaa (λi a=>?_) (by unfold e9.bn;simp[bl,len])];by_cases L:nR (vS P) 0 P.vars.l.length=0;rw[if_pos L,if_pos L];show bl (decide (len P.events>64)) (some 5) (some 0)=_;rw[uT];simp only[len,decide_eq_true_eq];by_cases I:P.events.l.length>64;rw[if_pos I,if_pos Zaa];rw[if_neg I,if_neg Zaa];rw[if_neg L,if_neg L];rfl;unfold e9.bn;rw[Hi a,show decide ((i:Int)<len P.vars)=true from by simp[len];exact a,bE,bF a,ζb];have c:=u _ (getElem_mem a);have⟨y,Z,J⟩:=tF P.vars i Zaa;have Q:iC y (λz=>kB z P.vars.l[i])=some (jy (fO P.vars.l λw=>tf w.name P.vars.l[i].name) 0 i):=(by rw[CJ (p:=λz=>kB z P.vars.l[i]) (f:=λw=>tf w.name P.vars.l[i].name) (λw _=>rfl) (by rw[J,length_take];omega),J,DF]);rw[Hw c,ζb,Z,ζb,Q,ζb,qo];have d:(decide (-1073741824<=P.vars.l[i].init_)&&decide (P.vars.l[i].init_<=1073741824))=(decide (P.vars.l[i].init_>=-1073741824)&&decide (P.vars.l[i].init_<=1073741824)):=rfl;rw[d];generalize mT P.vars.l[i].name=A;generalize jy (fO P.vars.l λw=>tf w.name P.vars.l[i].name) 0 i=B;generalize(decide (P.vars.l[i].init_>=-1073741824)&&decide (P.vars.l[i].init_<=1073741824))=C;cases A<;>cases B<;>cases C<;>rfl
theorem RZ{t:Z4}(b:Small t){p:Nat}(hp:p<t.procs.l.length):eA t p=some (tR t p):=by have Q:=b.2 _ (getElem_mem hp);have c:=b.1;unfold eA tR;rw[bF hp,ζb,ζd hp];generalize S:t.procs.l[p]=P at *;have⟨L,T,J,u,_⟩:=Q;rw[I9 J,ζb];dsimp only;cases X:mT P.name with|false=>simp[bl]|true=>rw[bE,Bool.true_and];unfold eA.W1;rw[DB (n:=p) (fO t.procs.l λy=>tf y.name P.name) Zaa (λi a=>?_) (by unfold eA.bn;simp[bl])];(cases hd:jy (fO t.procs.l λy=>tf y.name P.name) 0 p with|true=>rfl|false=>simp only[Bool.not_false,if_true];show bl (decide (len P.vars>8)) (some 5) (eA.W2 0 P)=_;by_cases O:P.vars.l.length>8;rw[show decide (len P.vars>8)=true from by simp[len];omega,bE,if_pos O];rw[show decide (len P.vars>8)=false from by simp[len];omega,bJ,if_neg O];unfold eA.W2;rw[Af (n:=P.vars.l.length) (vS P) Zaa (λi a=>?_) (by unfold eA.bV;simp[bl,len])];by_cases I:nR (vS P) 0 P.vars.l.length=0;rw[if_pos I,if_pos I];show bl (decide (len P.events>64)) (some 5) (some 0)=_;rw[uT];simp only[len,decide_eq_true_eq];by_cases z:P.events.l.length>64;rw[if_pos z,if_pos Zaa];rw[if_neg z,if_neg Zaa];rw[if_neg I,if_neg I];rfl;unfold eA.bV;rw[Hi a,show decide ((i:Int)<len P.vars)=true from by simp[len];exact a,bE,bF a,ζb];(rw[I9 (u _ (getElem_mem a)),ζb];have U:eA.W3 i 0 P=if jy (fO P.vars.l λw=>tf w.name P.vars.l[i].name) 0 i then some (.r 13)else(if decide (P.vars.l[i].init_>=-1073741824)&&decide (P.vars.l[i].init_<=1073741824)then some (.n (wrap .i64 ((i:Int)+1)))else some (.r 2)):=by unfold eA.W3;rw[DB (n:=i) (fO P.vars.l λw=>tf w.name P.vars.l[i].name) Zaa (λj W=>?_) (by unfold eA.eX;simp[bl])];(cases jy (fO P.vars.l λw=>tf w.name P.vars.l[i].name) 0 i with|true=>rfl|false=>show(idx P.vars (i:Int)).bind _=_;rw[bF a,ζb,HC,ζb];cases(decide (P.vars.l[i].init_>=-1073741824)&&decide (P.vars.l[i].init_<=1073741824))<;>rfl);unfold eA.eX;have D:j<P.vars.l.length:=Zaa;rw[show decide ((j:Int)<(i:Int))=true from by simpa using W,bE,bF D,ζb,bF a,ζb,BU D,uT];rfl);rw[U];generalize mT P.vars.l[i].name=A;generalize jy (fO P.vars.l λw=>tf w.name P.vars.l[i].name) 0 i=B;generalize(decide (P.vars.l[i].init_>=-1073741824)&&decide (P.vars.l[i].init_<=1073741824))=C;cases A<;>cases B<;>cases C<;>rfl);unfold eA.bn;have G:i<t.procs.l.length:=Zaa;rw[show decide ((i:Int)<(p:Int))=true from by simpa using a,bE,bF G,ζb,BU G,uT];rfl
def IX(n:Nat)(p:Int)(e:WF):X':=if e.kind==1 then e.peer==0&&e.message==0 else(e.kind==2||e.kind==3)&&(decide (0<=e.peer)&&decide (e.peer<n))&& !(e.peer==p)&&(decide (0<=e.message)&&decide (e.message<=199))
theorem Pa{t:Z4}(a:Small t)(p:Int)(e:WF):jh t p e=some (IX t.procs.l.length p e):=by
 have c:=a.1;have w:wrap .i64 (len t.procs-1)=len t.procs-1:=gW _ (by simp[len];omega) (by simp[len];omega);have u:∀b:X',jh.J1 p b t e=some (b&&(decide (0<=e.peer)&&decide (e.peer<t.procs.l.length))&& !(e.peer==p)&&(decide (0<=e.message)&&decide (e.message<=199))):=by intro b;unfold jh.J1;simp only[qo,w,ζb];have:decide (e.peer<=len t.procs-1)=decide (e.peer<t.procs.l.length):=(by congr 1;apply propext;simp[len];omega);rw[this];generalize(decide (0<=e.peer)&&decide (e.peer<(t.procs.l.length:Int)))=A;generalize(e.peer==p)=B;generalize(decide (0<=e.message)&&decide (e.message<=199))=C;cases b<;>cases A<;>cases B<;>cases C<;>rfl
 unfold jh IX;rw[u,u];cases c:e.kind==1 with|true=>rw[bE];cases e.peer==0<;>cases e.message==0<;>rfl|false=>rw[bJ];simp only[false_eq_true,if_false];cases z:e.kind==2<;>simp[bl]
def EP(P:bX)(k:Nat)(e:WF):X':=match k with|0=>false|j+1=>fO P.events.l (λx=>decide (e.time<x.time)) j
def vq(P:bX)(k:Nat)(e:WF):X':=decide (e.time<0)||decide (e.time>1099511627776)||EP P k e
def Nb:X'->X'->X'->Int
 |true,true,false=>0|true,true,true=>8|_,_,_=>2
def mO(P:bX)(e:WF)(i:Nat):Int:=match e.assign.l[i]?with
 |some a=>Nb (decide (0<=a.var)&&decide (a.var<P.vars.l.length)) (decide (a.value>=-1073741824)&&decide (a.value<=1073741824)) (jy (fO e.assign.l λb=>b.var==a.var) 0 i)|none=>0
theorem GS{P:bX}{e:WF}{i:Nat}(h:i<e.assign.l.length):mO P e i=Nb (decide (0<=e.assign.l[i].var)&&decide (e.assign.l[i].var<P.vars.l.length)) (decide (e.assign.l[i].value>=-1073741824)&&decide (e.assign.l[i].value<=1073741824)) (jy (fO e.assign.l λb=>b.var==e.assign.l[i].var) 0 i):=by unfold mO;rw[ζd h]
def oZ(n:Nat)(P:bX)(p k:Nat)(e:WF):Int:=if IX n p e then(if vq P k e then 11 else if e.assign.l.length>8 then 5 else nR (mO P e) 0 e.assign.l.length)else 3
theorem N_{P:bX}{e:WF}(d:P.vars.l.length<1073741824)(U:e.assign.l.length<1073741824):dS.W2 e.assign (len e.assign) 0 e P=some (nR (mO P e) 0 e.assign.l.length):=by
 have I:wrap .i64 (len P.vars-1)=len P.vars-1:=gW _ (by simp[len];omega) (by simp[len];omega);unfold dS.W2;rw[Af (n:=e.assign.l.length) (mO P e) Zaa (λi a=>?_) (by unfold dS.bV;simp[bl,len])];by_cases D:nR (mO P e) 0 e.assign.l.length=0;rw[if_pos D,D];rfl;rw[if_neg D];rfl;unfold dS.bV;have⟨y,J,u⟩:=tF e.assign i Zaa;have G:iJ y (λz=>lP z e.assign.l[i])=some (jy (fO e.assign.l λb=>b.var==e.assign.l[i].var) 0 i):=by rw[FA (p:=λz=>lP z e.assign.l[i]) (f:=λb=>b.var==e.assign.l[i].var) (λw _=>rfl) (by rw[u,length_take];omega),u,DF]
 rw[GS a,show decide ((i:Int)<len e.assign)=true from by simp[len];exact a,bE,bF a,ζb,qo,qo,I,J,ζb,ζb,ζb,G,ζb];have c:(decide (0<=e.assign.l[i].var)&&decide (e.assign.l[i].var<=len P.vars-1))=(decide (0<=e.assign.l[i].var)&&decide (e.assign.l[i].var<P.vars.l.length)):=by congr 2;apply propext;simp[len];omega
 have L:(decide (-1073741824<=e.assign.l[i].value)&&decide (e.assign.l[i].value<=1073741824))=(decide (e.assign.l[i].value>=-1073741824)&&decide (e.assign.l[i].value<=1073741824)):=rfl;rw[c,L];generalize(decide (0<=e.assign.l[i].var)&&decide (e.assign.l[i].var<(P.vars.l.length:Int)))=A;generalize(decide (e.assign.l[i].value>=-1073741824)&&decide (e.assign.l[i].value<=1073741824))=B;generalize jy (fO e.assign.l λb=>b.var==e.assign.l[i].var) 0 i=C;cases A<;>cases B<;>cases C<;>rfl
theorem Pz{t:Z4}(a:Small t){p k:Nat}{P:bX}{e:WF}(D:t.procs.l[p]?=some P)(U:P.events.l[k]?=some e):dS t ⟨p,k+1⟩ e=some (oZ t.procs.l.length P p k e):=by
 have⟨L,w⟩:=ζe.1 D;have⟨b,z⟩:=ζe.1 U;have⟨G,B,_,_,C⟩:=a.2 P (w▸getElem_mem L);have O:=C e (z▸getElem_mem b);have I:∀last:Int,((decide (0<=e.time)&&decide (e.time<=1099511627776))&& !decide (e.time<last))=(!vq P k e)->
  dS.J1 last t ⟨p,k+1⟩ e P=some (oZ t.procs.l.length P p k e):=by
  intro last Q;unfold dS.J1 oZ;rw[Pa a,ζb,qo,ζb,N_ B O];dsimp only
  cases IX t.procs.l.length p e with
  |false=>rfl|true=>
   rw[bE,if_pos rfl];have:(bl (decide (0<=e.time)&&decide (e.time<=1099511627776)) (some (decide (e.time<last))) (some true):a_ X')=some (vq P k e):=by
    have S:(!((decide (0<=e.time)&&decide (e.time<=1099511627776))&& !decide (e.time<last)))=vq P k e:=by rw[Q,not_not]
    rw[<-S];cases(decide (0<=e.time)&&decide (e.time<=1099511627776))<;>cases decide (e.time<last)<;>rfl
   rw[this,ζb]
   cases vq P k e with
   |true=>rfl|false=>
    rw[bJ];simp only[false_eq_true,if_false]
    by_cases J:e.assign.l.length>8
    .rw[show decide (len e.assign>8)=true from by simp[len];omega,bE,if_pos J]
    rw[show decide (len e.assign>8)=false from by simp[len];omega,bJ,if_neg J]
 unfold dS;dsimp only;rw[show idx t.procs (p:Int)=some P from by rw[jd];exact D,ζb];cases k with|zero=>rw[show decide (((0:Nat):Int)+1>1)=false from by decide,bJ];refine I 0 ?_;simp only[vq,EP,Bool.or_false];rw[Bool.eq_iff_iff];simp only[ζh,not_eq_true',decide_eq_true_eq,decide_eq_false_iff_not,or_eq_false_iff];omega|succ j=>rw[show decide ((((j+1:Nat)):Int)+1>1)=true from by simp;omega,bE];have u:j<P.events.l.length:=Zaa;have T:wrap .i64 ((((j+1:Nat)):Int)+1-2)=((j:Nat):Int):=(by rw[gW _ Zaa Zaa];omega);rw[T,bF u,ζb];refine I _ ?_;simp only[vq,EP,BU u];rw[Bool.eq_iff_iff];simp only[ζh,not_eq_true',decide_eq_true_eq,decide_eq_false_iff_not,or_eq_false_iff];omega
theorem NP{t:Z4}{p:Nat}{P:bX}{e:WF}(D:t.procs.l[p]?=some P)(J:e.assign.l.length<1073741824):eB.W2 p 0 t e=some (nR (mO P e) 0 e.assign.l.length):=by
 unfold eB.W2;rw[Af (n:=e.assign.l.length) (mO P e) Zaa (λi a=>?_) (by unfold eB.bV;simp[bl,len])];by_cases w:nR (mO P e) 0 e.assign.l.length=0;rw[if_pos w,w];rfl;rw[if_neg w];rfl;unfold eB.bV;have z:eB.W3 p i 0 t e e.assign.l[i]=if jy (fO e.assign.l λb=>b.var==e.assign.l[i].var) 0 i then some (.r 8)else some (.n (wrap .i64 ((i:Int)+1))):=by unfold eB.W3;rw[DB (n:=i) (fO e.assign.l λb=>b.var==e.assign.l[i].var) Zaa (λj G=>?_) (by unfold eB.eX;simp[bl])];cases jy (fO e.assign.l λb=>b.var==e.assign.l[i].var) 0 i<;>rfl;unfold eB.eX;have u:j<e.assign.l.length:=Zaa;rw[show decide ((j:Int)<(i:Int))=true from by simpa using G,bE,bF u,ζb,BU u,uT]
 rw[GS a,show decide ((i:Int)<len e.assign)=true from by simp[len];exact a,bE,bF a,ζb,z,HC,ζb,show idx t.procs (p:Int)=some P from by rw[jd];exact D,ζb];have c:(bl (decide (e.assign.l[i].var<0)) (some true) (some (decide (e.assign.l[i].var>=len P.vars))):a_ X')=some (!(decide (0<=e.assign.l[i].var)&&decide (e.assign.l[i].var<P.vars.l.length))):=by rw[mg];congr 1;rw[Bool.eq_iff_iff];simp only[or_eq_true,not_eq_true',decide_eq_true_eq,Bool.and_eq_false_iff,decide_eq_false_iff_not,len];omega
 rw[c,ζb];generalize(decide (0<=e.assign.l[i].var)&&decide (e.assign.l[i].var<(P.vars.l.length:Int)))=A;generalize(decide (e.assign.l[i].value>=-1073741824)&&decide (e.assign.l[i].value<=1073741824))=B;generalize jy (fO e.assign.l λb=>b.var==e.assign.l[i].var) 0 i=C;cases A<;>cases B<;>cases C<;>rfl
theorem RA{t:Z4}(b:Small t){p k:Nat}{P:bX}{e:WF}(J:t.procs.l[p]?=some P)(U:P.events.l[k]?=some e):eB t p k=some (oZ t.procs.l.length P p k e):=by
 have⟨S,w⟩:=ζe.1 J;have⟨c,z⟩:=ζe.1 U;have⟨O,T,_,_,I⟩:=b.2 P (w▸getElem_mem S);have W:=I e (z▸getElem_mem c);have X:eB.J1 p k t e=some (if vq P k e then 11 else if e.assign.l.length>8 then 5 else nR (mO P e) 0 e.assign.l.length):=by unfold eB.J1;rw[mg,ζb,NP J W,show idx t.procs (p:Int)=some P from by rw[jd];exact J,ζb];have a:(bl (decide ((k:Int)>0)) ((idx P.events (wrap .i64 ((k:Int)-1))).bind λL=>some (decide (e.time<L.time))) (some false):a_ X')=some (EP P k e):=(by cases k with|zero=>rfl|succ j=>have u:j<P.events.l.length:=Zaa;rw[show decide ((((j+1:Nat)):Int)>0)=true from by simp only[decide_eq_true_eq];omega,bE,show wrap .i64 ((((j+1:Nat)):Int)-1)=((j:Nat):Int)from by rw[gW _ Zaa Zaa];omega,bF u,ζb];simp only[EP,BU u]);rw[a,ζb,mg,ζb];show bl (vq P k e) _ _=_;cases vq P k e with|true=>rfl|false=>rw[bJ];simp only[false_eq_true,if_false];by_cases Q:e.assign.l.length>8;rw[show decide (len e.assign>8)=true from by simp[len];omega,bE,if_pos Q];rw[show decide (len e.assign>8)=false from by simp[len];omega,bJ,if_neg Q]
 unfold eB oZ;rw[show idx t.procs (p:Int)=some P from by rw[jd];exact J,ζb,show idx P.events (k:Int)=some e from by rw[jd];exact U,ζb,X];unfold IX;cases a:e.kind==1 with|true=>rw[bE];simp only[if_true];cases e.peer==0<;>cases e.message==0<;>rfl|false=>rw[bJ];simp only[false_eq_true,if_false];have Y:(bl (e.kind==2) (some false) (some (!(e.kind==3))):a_ X')=some (!(e.kind==2||e.kind==3)):=(by cases e.kind==2<;>rfl);rw[Y,ζb,mg,ζb,mg,ζb,mg,ζb,mg,ζb,mg,ζb];have d:(((((!(e.kind==2||e.kind==3))||decide (e.peer<0))||decide (e.peer>=len t.procs))||(e.peer==p))||decide (e.message<0)||decide (e.message>199))= !((e.kind==2||e.kind==3)&&(decide (0<=e.peer)&&decide (e.peer<t.procs.l.length))&& !(e.peer==p)&&(decide (0<=e.message)&&decide (e.message<=199))):=(by generalize(e.kind==2||e.kind==3)=A;have f:decide (e.peer<0)= !decide (0<=e.peer):=(by rw[Bool.eq_iff_iff];simp);have g:decide (e.peer>=len t.procs)= !decide (e.peer<t.procs.l.length):=(by rw[Bool.eq_iff_iff];simp[len]);have a3:decide (e.message<0)= !decide (0<=e.message):=(by rw[Bool.eq_iff_iff];simp);have a4:decide (e.message>199)= !decide (e.message<=199):=(by rw[Bool.eq_iff_iff];simp);rw[f,g,a3,a4];generalize decide (0<=e.peer)=B;generalize decide (e.peer<(t.procs.l.length:Int))=C;generalize(e.peer==(p:Int))=D;generalize decide (0<=e.message)=F;generalize decide (e.message<=199)=G;cases A<;>cases B<;>cases C<;>cases D<;>cases F<;>cases G<;>rfl);rw[d];generalize((e.kind==2||e.kind==3)&&(decide (0<=e.peer)&&decide (e.peer<(t.procs.l.length:Int)))&& !(e.peer==(p:Int))&&(decide (0<=e.message)&&decide (e.message<=199)))=Z;cases Z<;>rfl
theorem Mp{n:Nat}{p:Int}{e:WF}(h:IX n p e=true):l_ n p e:=by
 unfold IX at h;split at h;next a=>left;simpa using a
 right;simp only[ζh,or_eq_true,beq_iff_eq,decide_eq_true_eq,not_eq_true',beq_eq_false_iff_ne,ne_eq]at h;have⟨⟨⟨a,u⟩,z⟩,w⟩:=h;exact⟨a,u.1,u.2,z,w.1,w.2⟩
theorem Ji{n:Nat}{P:bX}{p k:Nat}{e:WF}(h:oZ n P p k e=0):l_ n p e:=by
 unfold oZ at h;split at h;next a=>exact Mp a
 cases h
theorem Az{α:Type}[DecidableEq α]:∀{l r:aZ α},l.Nodup->(∀x∈l,x∈r)->l.length<=r.length
 |[],_,_,_=>zero_le _|x::l,r,D,G=>by have B:=List.nodup_cons.1 D;have:=Az (r:=r.erase x) B.2 λy u=>(List.mem_erase_of_ne Zac).2 (G y (mem_cons_of_mem _ u));grind
section
variable{κ:Type}[DecidableEq κ]
theorem D0{ν:Type}{k:κ}:∀{m:Mo κ ν},k∉m.map (·.1)->vB k m=none
 |[],_=>rfl|(a,v)::r,h=>by simp only[map_cons,mem_cons,not_or]at h;unfold vB;rw[if_neg h.1];exact D0 h.2
theorem GG {ν:Type} {k:κ}:∀{m:Mo κ ν},k∈m.map (·.1)->∃v,vB k m=some v/\(k,v)∈m
 | [],h=>by simp_all
 | (a,v)::r,h=>by
  unfold vB
  by_cases e:k=a
  .grind
  obtain⟨w,h1,B⟩:=GG  (by simpa [e]using h)
  grind
theorem sX{ν:Type}{k:κ}{v:ν}:∀{m:Mo κ ν},k∉m.map (·.1)->s_ m k v=m++[(k,v)]
 |[],_=>rfl|(a,w)::r,h=>by simp only[map_cons,mem_cons,not_or]at h;show(if k=a then _ else _)=_;rw[if_neg h.1,sX h.2];rfl
end
def Vd(t:Z4)(y:bf):Prop:=∃e,(y,e)∈bY t
theorem Vd.at_{t:Z4}{y:bf}(h:Vd t y):∃(p k:Nat)(e:WF),mM t p k e/\y=⟨p,k+1⟩/\(y,e)∈bY t:=by have⟨e,u⟩:=h;have⟨p,k,a,w⟩:=dR.1 u;grind
def Iw(t:Z4)(y z:bf):Prop:=∃e f,(y,e)∈bY t/\(z,f)∈bY t/\e.kind=2/\f.kind=3/\e.message=f.message
def Edge(t:Z4)(y z:bf):Prop:=Vd t y/\Vd t z/\(z=⟨y.proc,y.index+1⟩\/Iw t y z)
abbrev Way(t:Trace):bf->bf->Prop:=TransGen (Edge t)
def LF(t:Z4):Prop:=∃x,Way t x x
theorem Way.l{t:Z4}{x y:bf}(h:Way t x y):Vd t x:=by induction h with|single h=>exact h.1|tail _ _ u=>omega
theorem Way.r{t:Z4}{x y:bf}(h:Way t x y):Vd t y:=by cases h with|single h=>exact h.2.1|tail _ h=>exact h.2.1
theorem Q9{t:Z4}(m:Small t)(n:∀x∈bY t,l_ t.procs.l.length x.1.proc x.2){A:cH 200 bM}(d:iW t (bY t) A){y:bf}(J:Vd t y):
 Wp (jX t A y) λs=>s.l.length<=2/\∀z,z∈s.l↔Edge t y z:=by
 have⟨p,k,e,O,C,u⟩:=J.at_;have⟨P,S,g⟩:=O;have T:P∈t.procs.l:=mem_of_getElem? S;have a:=(m.2 P T).1;have Z:k<P.events.l.length:=(ζe.1 g).1;have D:y.proc=p:=by rw[C]
 have U:y.index=k+1:=by rw[C]
 have j:∀s:Sl bf,s.l.length<=1->(∀z,z∈s.l↔Vd t z/\z=⟨y.proc,y.index+1⟩)->Wp (jX.J1 A s P.events y) λs=>s.l.length<=2/\∀z,z∈s.l↔Edge t y z:=by intro s E w;have l:¬(∃z,Iw t y z)->s.l.length<=2/\∀z,z∈s.l↔Edge t y z:=λo=>⟨Zaa,λz=>(w z).trans ⟨λh=>⟨J,h.1,.inl h.2⟩,λh=>⟨h.2.1,h.2.2.elim id λh=>(o ⟨z,h⟩).elim⟩⟩⟩;unfold jX.J1;have W:wrap .i64 (y.index-1)=((k:Nat):Int):=(by rw[U,gW _ Zaa Zaa];omega);rw[W,jd,g,ζb,eW,ct];constructor;intro B;have B:e.kind=2:=(by grind);have L:0<=e.message/\e.message<=199:=(by rcases n _ u with h|⟨_,_,_,_,h⟩;grind;omega);have b:∀z,Iw t y z->(ag A e.message).to_=z:=λz⟨X,f,Y,G,a3,a4,a5⟩=>(by cases zX Y u rfl;rw[a5];exact(d.rcv _ G a4).1);rw[NF A L.1 L.2,ζb,bh,ct];refine⟨λh=>?_,λh=>(bh _).2 (l λ⟨z,w⟩=>?_)⟩;have h:(ag A e.message).to_.index>0:=(by grind);rw[ζb];unfold eU;rw[if_pos Zaa,ζb,bh];refine⟨by show(s.l++[(ag A e.message).to_]).length<=2;grind,λz=>?_⟩;have I:Iw t y (ag A e.message).to_:=(by rcases d.to e.message L.1 L.2 with F|⟨X,a,c,r⟩;omega;exact⟨e,X,u,a,B,c,r.symm⟩);show z∈s.l++[(ag A e.message).to_]↔_;rw[mem_append,mem_singleton,w];constructor;rintro(h|rfl);exact⟨J,h.1,.inl h.2⟩;exact⟨J,let⟨_,f,_,G,_⟩:=I;⟨f,G⟩,.inr I⟩;rintro⟨_,a,c|c⟩;grind;grind;rw[b z w]at h;have⟨_,f,_,G,_⟩:=w;have⟨q,i,_,v⟩:=dR.1 G;grind;intro B;rw[bh,ct];refine⟨λh=>(by cases h),λ_=>(bh _).2 (l λ⟨z,X,f,Y,_,a3,_⟩=>?_)⟩;cases zX Y u rfl;grind
 unfold jX;rw[D,jd,S,ζb,ct];rw[D]at j;constructor
 .intro h;have h:y.index<len P.events:=by grind
  have B:k+1<P.events.l.length:=Zac
  refine j _ (by simp[Sl.l]) λz=>?_
  have W:wrap .i64 (y.index+1)=y.index+1:=gW _ Zaa Zaa
  simp only[Sl.l,mem_singleton,W];refine⟨λw=>⟨⟨P.events.l[k+1],dR.2 ⟨p,k+1,⟨P,S,ζd B⟩,?_⟩⟩,w⟩,λw=>w.2⟩
  grind
 intro h;have h:¬y.index<len P.events:=Zac
 refine j _ (by simp[Sl.l]) λz=>⟨λw=>by simp[Sl.l]at w,λ⟨w,H⟩=>?_⟩
 have⟨q,i,f,⟨Q,K,v⟩,M,_⟩:=w.at_
 grind
structure Ir(t:Trace)(x:bf)(rest:Sl bf)(m:Mo bf Bool)(U:bf->Prop):Prop where
 rst:∀y∈rest.l,y=x\/Way t x y
 keys:(m.map (·.1)).Nodup
 seen:∀y∈m,Way t x y.1/\y.1≠x/\y.2=true
 le:rest.l.length<=m.length+1
 done:∀y,y=x\/y∈m.map (·.1)->y∈rest.l\/U y\/∀z,Edge t y z->z∈m.map (·.1)
theorem Ir.count{t:Z4}{x:bf}{rest:Sl bf}{m:Mo bf X'}{U:bf->Prop}(h:Ir t x rest m U):m.length<=(bY t).length:=by
 have:=Az (r:=(bY t).map (·.1)) h.keys λx u=>by obtain⟨y,w,rfl⟩:=mem_map.1 u;have⟨e,z⟩:=(h.seen y w).1.r;grind
 grind
theorem PA{t:Z4}(E:Small t)(hN:(bY t).length<1073741824)(V:∀x∈bY t,l_ t.procs.l.length x.1.proc x.2){A:cH 200 bM}(hA:iW t (bY t) A):Wp (jm t A) λr=>(r.2=true↔LF t):=by
 unfold jm jU;rw[ζb];unfold jm.E1;rw[uw E,ζb];refine za (λk _=>∀x∈(bY t).take k,¬Way t x.1 x.1) Zab ?_ λ_ h=>(bh _).2 ⟨λh=>(by cases h),λ⟨x,g⟩=>?_⟩
 .intro i x _ g aq;have af:x∈bY t:=mem_of_getElem? g;refine Wp.mono (P:=λw=>match w with|.n s=>¬Way t x.1 x.1|.x e=>False|.r e=>LF t) ?_ λw j=>by cases w with|n s=>intro y d;rw[take_add_one,g]at d;grind|x e=>grind|r b=>exact(bh _).2 ⟨λ_=>j,λ_=>rfl⟩
  refine eY (λq:Sl bf×Mo bf X'=>Ir t x.1 q.1 q.2 λ_=>False) (λq=>2*((bY t).length-q.2.length)+q.1.l.length) ⟨λy d=>.inl (by simpa[Sl.l]using d),Zab,Zab,by simp[Sl.l],λy d=>.inl ?_⟩ ?_;simpa[Sl.l]using d;rintro⟨rest,m⟩ L;unfold jm.bV;rw[ct];refine⟨λh=>?_,λh=>(bh _).2 ((bh _).2 λj=>?_)⟩
  .have G:0<rest.l.length:=by grind
   have hc:=L.count;have au:=L.le;have j:wrap .i64 ((len rest)-1)=(rest.l.length-1:Nat):=by rw[gW _ Zac Zac];grind
   have I:rest.l.length-1<rest.l.length:=Zaa;rw[j];have h1:Sl.pP rest (rest.l.length-1:Nat)=some (rest.l.length-1):=by unfold Sl.pP;grind
   have h2:Sl.get rest (rest.l.length-1)=some rest.l[rest.l.length-1]:=by unfold Sl.get;grind
   obtain⟨cut,h3,h4⟩:∃x,qd rest none (some ((rest.l.length-1:Nat):Int))=some x/\x.l=rest.l.take (rest.l.length-1):=by cases rest with|nil=>simp[Sl.l]at G|emp=>simp[Sl.l]at G|row l=>simp only[Sl.l]at G⊢;unfold qd dZ;simp_all|part l=>simp[Sl.l]at G⊢;unfold qd dZ;simp_all
   rw[h1,ζb,h2,ζb,h3,ζb,eW];generalize ah:rest.l[rest.l.length-1]=y;have ai:y∈rest.l:=ah▸getElem_mem I;have O:∀z,z∈rest.l->z∈cut.l\/z=y:=λz c=>by have:rest.l.take (rest.l.length-1)++rest.l.drop (rest.l.length-1)=rest.l:=List.take_append_drop ..;rw[<-this]at c;rcases mem_append.1 c with c|c;grind;rw[drop_eq_getElem_cons I,List.drop_of_length_le Zaa]at c;grind
   have F:=L.rst _ ai;have aj:=F.elim (λe=>⟨x.2,e▸af⟩) Way.r;refine(Q9 E V hA aj).mono λs H=>?_;refine eY (λq:Sl bf×Int×Mo bf X'=>∃n:Nat,q.2.1=n/\n<=s.l.length/\Ir t x.1 q.1 q.2.2 (λu=>u=y)/\(∀z∈s.l.take n,z∈q.2.2.map (·.1))/\2*((bY t).length-q.2.2.length)+q.1.l.length<2*((bY t).length-m.length)+rest.l.length) (λq=>s.l.length-q.2.1.toNat)
    ⟨0,rfl,zero_le _,⟨λz c=>L.rst z Zac,L.keys,L.seen,Zac,λu f=>?_⟩,Zab,Zac⟩ ?_
   .rcases L.done u f with h|h|h;exact(O u h).imp_right .inl;exact h.elim;exact .inr (.inr h)
   rintro⟨C,i2,W⟩ ⟨n,rfl,hn,B,J,o⟩;simp only at B o J;unfold jm.eX;rw[ct];constructor
   .intro h;have X:n<s.l.length:=(by simpa[len]using h);have K:=(H.2 s.l[n]).1 (getElem_mem X);have Q:Way t x.1 s.l[n]:=F.elim (λe=>.single (e▸K)) λh=>.tail h K;rw[bF X,ζb,ct];refine⟨λZ=>(bh _).2 ((bh _).2 ((bh _).2 ⟨x.1,?_⟩)),λS=>?_⟩;have:s.l[n]=x.1:=(by unfold Mc at Z;revert Z;cases s.l[n];cases x.1;intro Z;simpa using Z);rw[this]at Q;exact Q;have S:s.l[n]≠x.1:=λe=>(by rw[e]at S;simp[Mc]at S);have T:=cF n Zaa;have M:s.l.take (n+1)=s.l.take n++[s.l[n]]:=(by rw[take_add_one,ζd X];rfl);rw[ct];refine⟨λp=>(bh _).2 ⟨⟨n+1,T,Zaa,B,λz c=>?_,o⟩,by show _-(wrap .i64 ((n:Int)+1)).toNat<_;rw[T];simp;omega⟩,λY=>?_⟩;rw[M]at c;rcases mem_append.1 c with c|c;exact J z c;simp[mem_singleton]at c;subst c;apply byContradiction;intro hk;unfold FW at p;rw[D0 hk]at p;cases p;have av:=B.count;have ar:=B.le;unfold eU;rw[if_pos (show C.l.length+1<=2147483648 from Zaa),ζb,bh];have D:s.l[n]∉W.map (·.1):=λak=>(by have⟨v,hv,al⟩:=GG ak;have:=(B.seen _ al).2.2;simp only at this;subst this;unfold FW at Y;rw[hv]at Y;cases Y);have U:∀z,z∈(s_ W s.l[n] true).map (·.1)↔z∈W.map (·.1)\/z=s.l[n]:=λz=>(by rw[sX D,map_append,mem_append];simp);have N:Ir t x.1 (.row (C.l++[s.l[n]])) (s_ W s.l[n] true) (λu=>u=y):=(by refine⟨λy d=>?_,?_,λy d=>?_,?_,λu f=>?_⟩;simp[Sl.l,mem_singleton]at d;rcases d with d|rfl;exact B.rst y d;exact .inr Q;rw[sX D,map_append,List.nodup_append];refine⟨B.keys,Zab,λa ha b R=>?_⟩;simp[mem_singleton]at R;subst R;exactλe=>D (e▸ha);rw[sX D]at d;rcases mem_append.1 d with d|d;exact B.seen y d;simp[mem_singleton]at d;subst d;exact⟨Q,S,rfl⟩;rw[sX D];show(C.l++[s.l[n]]).length<=_;rw[ζi,ζi,length_singleton,length_singleton];omega;simp only[Sl.l,mem_append,mem_singleton];have old:u=x.1\/u∈W.map (·.1)->(u∈C.l\/u=s.l[n])\/u=y\/∀z,Edge t u z->z∈(s_ W s.l[n] true).map (·.1):=λf=>(by rcases B.done u f with h|h|h;exact .inl (.inl h);exact .inr (.inl h);exact .inr (.inr λz c=>(U z).2 (.inl (h z c))));rcases f with f|f;exact old (.inl f);rcases(U u).1 f with f|f;exact old (.inr f);exact .inl (.inr f));have am:=N.count;refine⟨⟨n+1,T,Zaa,N,λz c=>?_,?_⟩,by show _-(wrap .i64 ((n)+1)).toNat<_;rw[T];simp;omega⟩;rw[M]at c;rcases mem_append.1 c with c|c;exact(U z).2 (.inl (J z c));exact(U z).2 (.inr (by simpa using c));rw[sX D,ζi,length_singleton]at am;show 2*((bY t).length-(s_ W s.l[n] true).length)+(C.l++[s.l[n]]).length<_;rw[sX D,ζi,ζi,length_singleton,length_singleton];omega
   intro h;have an:s.l.length<=n:=by simpa[len]using h
   rw[List.take_of_length_le an]at J;refine(bh _).2 ((bh _).2 ⟨⟨B.rst,B.keys,B.seen,B.le,λu f=>?_⟩,o⟩);rcases B.done u f with h|h|h;exact .inl h;subst h;exact .inr (.inr λz c=>J z ((H.2 z).2 c));exact .inr (.inr h)
  have ao:rest.l=[]:=by have:¬len rest>0:=(by simpa using h);simp[len]at this;exact this
  have hd:∀y,y=x.1\/y∈m.map (·.1)->∀z,Edge t y z->z∈m.map (·.1):=λy d=>by rcases L.done y d with h|h|h;simp only[ao]at h;cases h;exact h.elim;exact h
  have key:∀z,Way t x.1 z->z∈m.map (·.1):=λz c=>by induction c with|single h=>exact hd _ (.inl rfl) _ h|tail _ h ih=>exact hd _ (.inr ih) _ h
  have⟨y,d,ap⟩:=mem_map.1 (key _ j);exact(L.seen y d).2.1 ap
 have⟨e,Z⟩:=g.l;rw[take_length]at h;exact absurd g (h _ Z)
structure Ok(t:Trace):Prop where
 one:1<=t.procs.l.length
 few:t.procs.l.length<=8
 heads:∀p,p<t.procs.l.length->tR t p=0
 fT:∀(p k:Nat)P e,t.procs.l[p]?=some P->P.events.l[k]?=some e->oZ t.procs.l.length P p k e=0
 Bm:zj t
 acyc:¬LF t
theorem HD{t:Z4}(h:∀(p k:Nat)P e,t.procs.l[p]?=some P->P.events.l[k]?=some e->oZ t.procs.l.length P p k e=0):∀x∈bY t,l_ t.procs.l.length x.1.proc x.2:=λx w=>by have⟨p,k,⟨P,z,B⟩,u⟩:=dR.1 w;rw[u];exact Ji (h p k P _ z B)
structure VT(t:Trace):Prop where
 formed:∀x∈bY t,l_ t.procs.l.length x.1.proc x.2
 msgs:∃A i,eZ t=some (some A,i,0)/\iW t (bY t) A
 few:t.procs.l.length<=8
 ok:Ok t
theorem RB{t:Z4}(b:Small t)(U:(bY t).length<1073741824):Wp (iN t) λr=>(r.2=0->VT t)/\(Ok t->r.2=0):=by
 unfold iN;rw[qo,ζb,ct];refine⟨λD=>?_,λD=>(bh _).2 ⟨λh=>Zaa,λh=>?_⟩⟩;rotate_left;have q:=h.one;have C:=h.few;grind;have C:1<=t.procs.l.length/\t.procs.l.length<=8:=by grind
 unfold iN.W1;refine eY (λi:Int=>∃n:Nat,i=n/\n<=t.procs.l.length/\∀p,p<n->tR t p=0) (λi:Int=>t.procs.l.length-i.toNat) ⟨0,rfl,zero_le _,λp G=>absurd G Zaa⟩ ?_;rintro i ⟨n,rfl,s,W⟩;unfold iN.bn;rw[ct];constructor;intro h;have u:n<t.procs.l.length:=by grind
 rw[SA b u,ζb,ct];refine⟨λa=>(bh _).2 ⟨⟨n+1,cF n Zaa,Zaa,λp G=>?_⟩,by rw[cF n Zaa];simp;omega⟩,λa=>(bh _).2 ((bh _).2 ⟨λh=>?_,λh=>?_⟩)⟩;grind;grind;simp[h.heads n u]at a;intro h;have X:t.procs.l.length<=n:=Zac;rw[bh];unfold jU;rw[ζb];unfold iN.E2;rw[uw b,ζb];refine za (λi _=>∀(p k:Nat)P e,t.procs.l[p]?=some P->P.events.l[k]?=some e->(⟨p,k+1⟩,e)∈(bY t).take i->oZ t.procs.l.length P p k e=0) Zab ?_ ?_;intro i x _ S w;have I:=mem_of_getElem? S;have⟨p,j,⟨P,z,B⟩,J⟩:=dR.1 I;unfold iN.LW;rw[J,Pz b z B,ζb,ct];refine⟨λa=>(bh _).2 λp' v y E Y Z g=>?_,λa=>(bh _).2 ((bh _).2 ⟨λh=>?_,λh=>?_⟩)⟩;rw[take_add_one,S]at g;grind;grind;simp[h.fT p j P _ z B]at a;intro _ w;have w:∀(p k:Nat)P e,t.procs.l[p]?=some P->P.events.l[k]?=some e->oZ t.procs.l.length P p k e=0:=λp k P e z B=>w p k P e z B (by rw[take_length];exact dR.2 ⟨p,k,⟨P,z,B⟩,rfl⟩);have L:=HD w;have⟨r,l,m,O⟩:=Ew b L;rw[l,ζb,ct];refine⟨λa=>?_,λa=>(bh _).2 ⟨λh=>?_,λh=>O h.Bm⟩⟩;have a:=by simpa using a
 have⟨A,o,d⟩:=m a;rw[o,ζb];have⟨c,f,Q⟩:=PA b U L d;rw[f,ζb,ct];refine⟨λT=>(bh _).2 ⟨λh=>Zaa,λh=>absurd (Q.1 T) h.acyc⟩,λT=>(bh _).2 ⟨λ_=>?_,λ_=>rfl⟩⟩;exact⟨L,⟨A,r.2.1,Zac,d⟩,C.2,C.1,C.2,λp G=>W p Zaa,w,d.Bm,λf=>Zac⟩;simp_all
theorem Rz{t:Z4}(a:Small t)(B:(bY t).length<1073741824):Wp (dz t) λb=>(b=true->VT t)/\(Ok t->b=true):=by unfold dz;rw[eW];exact(RB a B).mono λr c=>(bh _).2 ⟨λh=>c.1 Zac,λh=>Zac⟩
def ec(q:Int)(e:WF):X':=e.kind==2&&e.peer==q
def zg(p:Int)(e:WF):X':=e.kind==3&&e.peer==p
def under(t:Z4)(c:SW)(p q:Nat):Int:=match t.procs.l[p]?,t.procs.l[q]?,c[p]?,c[q]?with
 |some P,some Q,some a,some b=>((P.events.l.take a.toNat).countP (ec q):Int)-((Q.events.l.take b.toNat).countP (zg p):Int)|_,_,_,_=>0
theorem GP{t:Z4}(f:Small t)(g:dz t=some true){A:cH 200 bM}(c:iW t (bY t) A){x:bf×WF}(B:x∈bY t)(d:x.2.kind=2):qS t x.2.message=some (x.1,true):=by
 refine Wp.eq ?_;unfold qS jb;rw[g,ζb,bE];unfold jU;rw[ζb];unfold jb.E1;rw[uw f,ζb,eW];refine za (λk _=>∀y∈(bY t).take k,¬(y.2.kind=2/\y.2.message=x.2.message)) Zab ?_ ?_;intro k y _ C u;have w:y∈bY t:=mem_of_getElem? C;unfold jb.kD;rw[nZ,ζb,ct];constructor;intro a;have a:y.2.kind=2/\y.2.message=x.2.message:=by simpa using a
 refine(bh _).2 ((bh _).2 ((bh _).2 ?_));have e:=c.snd y w a.1;have D:=c.snd x B d;rw[a.2,D]at e;rw[e];intro a;have a:¬(y.2.kind=2/\y.2.message=x.2.message):=by intro h;rw[h.1,h.2]at a;simp at a
 rw[bh];intro z b;rw[take_add_one,C]at b;rcases mem_append.1 b with b|b;exact u z b;simp at b;subst b;exact a;intro _ u;rw[take_length]at u;exact absurd ⟨d,rfl⟩ (u x B)
def rj(t:Z4)(c:SW):Prop:=c.length=t.procs.l.length/\∀(p:Nat)(a:Int)(P:bX),c[p]?=some a->t.procs.l[p]?=some P->0<=a/\a<=P.events.l.length
def pF(t:Z4)(A:cH 200 bM)(c:SW):Prop:=∀(p k:Nat)(e:WF)(a:Int),mM t p k e->c[p]?=some a->(k:Int)<a->e.kind=3->∃b,c[(ag A e.message).from_.proc.toNat]?=some b/\(ag A e.message).from_.index<=b
theorem Dd{t:Z4}(c:VT t){A:cH 200 bM}(a:iW t (bY t) A){p k:Nat}{e:WF}(J:mM t p k e)(d:e.kind=3):
 ∃(q j:Nat)(y:WF),mM t q j y/\y.kind=2/\y.message=e.message/\y.peer=p/\e.peer=q/\(ag A e.message).from_=⟨q,j+1⟩:=by
 have u:((⟨p,k+1⟩:bf),e)∈bY t:=dR.2 ⟨p,k,J,rfl⟩;have z:=(a.rcv _ u d).2;have C:=c.formed _ u;simp only at z C;have B:0<=e.peer:=by rcases C with h|⟨_,h,_⟩;omega;exact h
 obtain⟨q,D⟩:∃q:Nat,e.peer=q:=⟨e.peer.toNat,Zaa⟩
 rw[D]at z;have⟨j,y,w,b,G,I⟩:=Ay.1 z;have:=a.snd (⟨q,j+1⟩,y) (dR.2 ⟨q,j,w,rfl⟩) b;simp only at this;rw[G]at this;exact⟨q,j,y,w,b,G,I,D,this⟩
def ZL(t:Z4)(A:cH 200 bM)(c:SW)(s:bf):Prop:=∃(p k:Nat)(e:WF)(a:Int)(q j:Nat)(y:WF)(b:Int),mM t p k e/\c[p]?=some a/\(k:Int)<a/\e.kind=3/\(ag A e.message).from_=s/\s=⟨q,j+1⟩/\mM t q j y/\c[q]?=some b/\b<(j:Int)+1
theorem Vj{t:Z4}(F:Small t)(V:dz t=some true)(H:VT t){A:cH 200 bM}(K:iW t (bY t) A){c:Zg}(M:rj t c.l):Wp (iO t c) λr=>(r.2.2=false->pF t A c.l)/\(r.2.2=true->ZL t A c.l r.1):=by
 have ah:=H.few;unfold iO iO.W1;refine eY (λs:Int=>∃n:Nat,s=n/\n<=c.l.length/\∀(p k:Nat)(e:WF)(a:Int),p<n->mM t p k e->c.l[p]?=some a->(k:Int)<a->e.kind=3->∃b,c.l[(ag A e.message).from_.proc.toNat]?=some b/\(ag A e.message).from_.index<=b) (λs:Int=>c.l.length-s.toNat) ⟨0,rfl,zero_le _,λp k e a h=>absurd h Zaa⟩ ?_;rintro s ⟨n,rfl,hn,N⟩;have ai:=M.1;unfold iO.bn;rw[ct];constructor;intro h;have C:n<c.l.length:=by simpa[len]using h
 have B:n<t.procs.l.length:=Zaa;have hP:=(F.2 _ (getElem_mem B)).1;have⟨r1,r2⟩:=M.2 n _ _ (ζd C) (ζd B);rw[bF C,ζb,bF B,ζb];have⟨y,P,T⟩:=tF t.procs.l[n].events c.l[n].toNat Zaa;rw[show((c.l[n].toNat:Nat):Int)=c.l[n]from Zaa]at P;rw[P,ζb];unfold iO.W2;refine eY (λs:Int=>∃m:Nat,s=m/\m<=y.l.length/\∀(k:Nat)(e:WF),k<m->mM t n k e->e.kind=3->∃b,c.l[(ag A e.message).from_.proc.toNat]?=some b/\(ag A e.message).from_.index<=b) (λs:Int=>y.l.length-s.toNat) ⟨0,rfl,zero_le _,λk e h=>absurd h Zaa⟩ ?_;rintro s ⟨m,rfl,hm,i⟩;have af:y.l.length=c.l[n].toNat:=by rw[T,length_take];omega
 unfold iO.bV;rw[ct];constructor;intro h;have G:m<y.l.length:=by simpa[len]using h
 have I:=cF m Zaa;have U:y.l.length-(wrap .i64 ((m:Int)+1)).toNat<y.l.length-((m:Int)).toNat:=by rw[I];simp;omega
 have hg:y.l[m]?=t.procs.l[n].events.l[m]?:=by rw[T,getElem?_take,if_pos (show m<c.l[n].toNat from Zaa)]
 have u:mM t n m y.l[m]:=⟨_,ζd B,by rw[<-hg];exact ζd G⟩;rw[bF G,ζb];generalize y.l[m]=e at u;rw[ct];constructor;intro d;have d:e.kind=3:=by simpa using d
 have⟨q,j,z,l,z1,z2,z3,z4,z5⟩:=Dd H K u d;have J:=GP F V K (x:=(⟨q,j+1⟩,z)) (dR.2 ⟨q,j,l,rfl⟩) z1;simp only at J;rw[z2]at J;have ab:=l;have⟨Q,hQ,_⟩:=l;have L:q<c.l.length:=by have:=(ζe.1 hQ).1;omega
 rw[J,ζb];simp only;rw[bF L,ζb,ct];constructor;intro W;have W:(j:Int)+1>c.l[q]:=by simpa using W
 exact(bh _).2 ((bh _).2 ((bh _).2 ⟨λh=>(by cases h),λ_=>⟨n,m,e,c.l[n],q,j,z,c.l[q],u,ζd C,Zaa,d,z5,rfl,ab,ζd L,Zaa⟩⟩));intro X;have X:¬((j:Int)+1>c.l[q]):=by simpa using X
 refine(bh _).2 ⟨⟨m+1,I,Zaa,λk Y ad w D=>?_⟩,U⟩;by_cases o:k=m;subst o;have:Y=e:=by have⟨P1,v,E⟩:=u;have⟨P2,Z,f⟩:=w;rw[v]at Z;cases Z;rw[E]at f;cases f;rfl
 subst this;rw[z5];exact⟨c.l[q],by simp only[toNat_natCast];exact ζd L,by simp only;omega⟩;exact i k Y Zaa w D;intro d;have d:¬e.kind=3:=by simpa using d
 refine(bh _).2 ⟨⟨m+1,I,Zaa,λk Y ad w D=>?_⟩,U⟩;by_cases o:k=m;subst o;have:Y=e:=by have⟨P1,v,E⟩:=u;have⟨P2,Z,f⟩:=w;rw[v]at Z;cases Z;rw[E]at f;cases f;rfl
 subst this;exact absurd D d;exact i k Y Zaa w D;intro h;have ae:y.l.length<=m:=by simpa[len]using h
 have R:=cF n Zaa;refine(bh _).2 ((bh _).2 ⟨⟨n+1,R,Zaa,λp k e a hp u S O g=>?_⟩,by show _-(wrap .i64 ((n:Int)+1)).toNat<_;rw[R];simp;omega⟩);by_cases ep:p=n;subst ep;rw[ζd C]at S;cases S;exact i k e Zaa u g;exact N p k e a Zaa u S O g;intro h;have ae:c.l.length<=n:=by simpa[len]using h
 refine(bh _).2 ((bh _).2 ⟨λ_ p k e a u S O g=>N p k e a (by have:=(ζe.1 S).1;omega) u S O g,λh=>(by cases h)⟩)
theorem Ep{t:Z4}(f:Small t)(g:dz t=some true)(i:VT t){A:cH 200 bM}(l:iW t (bY t) A){c:Zg}(B:rj t c.l):Wp (iO t c) λr=>(r.2.2=false↔pF t A c.l):=by refine(Vj f g i l B).mono λr d=>⟨d.1,λm=>?_⟩;cases h:r.2.2 with|false=>rfl|true=>have⟨p,k,e,a,q,j,y,b,n,u,w,z,C,D,_,G,I⟩:=d.2 h;have⟨J,g1,g2⟩:=m p k e a n u w z;rw[C,D]at g1 g2;simp only[toNat_natCast]at g1 g2;rw[G]at g1;cases g1;omega
theorem BP{s:Zb}{p:Zg->a_ X'}{f:Zg->X'}(hp:∀x∈s.l,p x=some (f x))(B:s.l.length<1073741824):kO s p=some (s.l.any f):=by have h:hG s p=some (place f s.l):=vW hp Zaa (λi=>rfl);unfold kO;rw[h,ζb,vT]
theorem EK{t:Z4}(d:Small t){c:Zg}(D:c.l.length=t.procs.l.length):Wp (kM t c) λb=>(b=true↔rj t c.l):=by
 have f:=d.1;unfold kM kM.W1;refine eY (λs:Int=>∃n:Nat,s=n/\n<=c.l.length/\∀(p:Nat)(a:Int)(P:bX),p<n->c.l[p]?=some a->t.procs.l[p]?=some P->0<=a/\a<=P.events.l.length) (λs:Int=>c.l.length-s.toNat) ⟨0,rfl,zero_le _,λp a P h=>absurd h Zaa⟩ ?_;rintro s ⟨n,rfl,O,G⟩;unfold kM.bn;rw[ct];constructor;intro h;have w:n<c.l.length:=by simpa[len]using h
 have u:n<t.procs.l.length:=Zaa;have I:=cF n Zaa;rw[bF w,ζb,bF u,ζb,mg,ζb,ct];constructor;intro z;have z:c.l[n]<0\/c.l[n]>t.procs.l[n].events.l.length:=by simpa[len]using z
 refine(bh _).2 ((bh _).2 ⟨λh=>(by cases h),λJ=>?_⟩);have:=J.2 n _ _ (ζd w) (ζd u);omega;intro z;have z:0<=c.l[n]/\c.l[n]<=t.procs.l[n].events.l.length:=by simpa[len]using z
 refine(bh _).2 ⟨⟨n+1,I,Zaa,λp a P Q B C=>?_⟩,by rw[I];simp;omega⟩;by_cases e:p=n;subst e;rw[ζd w]at B;cases B;rw[ζd u]at C;cases C;exact z;exact G p a P Zaa B C;intro h;have L:c.l.length<=n:=by simpa[len]using h
 refine(bh _).2 ((bh _).2 ⟨λ_=>⟨D,λp a P B C=>G p a P (by have:=(ζe.1 B).1;omega) B C⟩,λ_=>rfl⟩)
def Code(t:Z4)(A:cH 200 bM)(c:SW)(r:Int):Prop:=c.length≠t.procs.l.length/\r=1\/c.length=t.procs.l.length/\¬rj t c/\r=2\/rj t c/\¬pF t A c/\r=18\/rj t c/\pF t A c/\r=0
theorem Xt{t:Z4}(a:Small t)(d:dz t=some true)(i:VT t){A:cH 200 bM}(j:iW t (bY t) A)(c:Zg):
 Wp (dF t (Sl.row [c]:Zb) (Sl.nil:Zg)) λr=>Code t A c.l r:=by
 unfold dF yd;rw[d,ζb,bE,BP (f:=λz=>(kV z t).getD false) (λz _=>Mb.ok ((bh _).2 trivial)) (by simp[Sl.l]),ζb,ζb,ζb]
 have w:(!((Sl.row [c]:Zb).l.any λz=>(kV z t).getD false))=(len c==len t.procs):=by simp[Sl.l,kV]
 rw[w,ct];constructor
 .intro h;have B:c.l.length=t.procs.l.length:=by
   have:(c.l.length:Int)=t.procs.l.length:=by simpa[len]using h
   omega
  unfold dF.W1;refine eY (λs:Int=>s=0\/s=1/\rj t c.l) (λs:Int=>1-s.toNat) (.inl rfl) ?_
  intro s D;unfold dF.bn;rcases D with rfl|⟨rfl,G⟩
  .rw[show decide ((0:Int)<len (Sl.row [c]:Zb))=true from rfl,bE,show idx (Sl.row [c]:Zb) 0=some c from rfl,ζb,eW];refine(EK a B).mono λb u=>?_
   rw[ct];exact⟨λI=>(bh _).2 ⟨.inr ⟨rfl,u.1 I⟩,by decide⟩,λC=>(bh _).2 ((bh _).2 (.inr (.inl ⟨B,λh=>(by rw[u.2 h]at C;cases C),rfl⟩)))⟩
  rw[show decide ((1:Int)<len (Sl.row [c]:Zb))=false from rfl,bJ,bh];show Wp (dF.W2 (Sl.row [c]) Sl.nil 0 0 t) _;unfold dF.W2;refine eY (λs:Int=>s=0) (λ_=>0) rfl ?_
  rintro s rfl;unfold dF.bV;rw[show decide ((0:Int)<0)=false from rfl,bJ,bh];show Wp (dF.W3 (Sl.row [c]) 1 0 t) _;unfold dF.W3;refine eY (λs:Int=>s=0\/s=1/\pF t A c.l) (λs:Int=>1-s.toNat) (.inl rfl) ?_
  intro s D;unfold dF.eX;rcases D with rfl|⟨rfl,k⟩
  .rw[show decide ((0:Int)<1)=true from rfl,bE,show idx (Sl.row [c]:Zb) 0=some c from rfl,ζb];unfold wQ;rw[eW,eW];refine(Ep a d i j G).mono λr g=>?_
   rw[bh,ct];exact⟨λu=>(bh _).2 ⟨.inr ⟨rfl,g.1 (by simpa using u)⟩,by decide⟩,λu=>(bh _).2 ((bh _).2 (.inr (.inr (.inl ⟨G,λh=>(by have:=g.2 h;simp[this]at u),rfl⟩))))⟩
  rw[show decide ((1:Int)<1)=false from rfl,bJ,bh];exact(bh _).2 (.inr (.inr (.inr ⟨G,k,rfl⟩)))
 intro h;exact(bh _).2 (.inl ⟨λe=>(by simp[len,e]at h),rfl⟩)
theorem Code.zero{t:Z4}{A:cH 200 bM}{c:SW}{r:Int}(h:Code t A c r):r=0↔rj t c/\pF t A c:=by rcases h with⟨h,rfl⟩|⟨_,h,rfl⟩|⟨_,h,rfl⟩|⟨a,w,rfl⟩;exact⟨λh=>(by cases h),λu=>absurd u.1.1 h⟩;exact⟨λh=>(by cases h),λu=>absurd u.1 h⟩;exact⟨λh=>(by cases h),λu=>absurd u.2 h⟩;exact⟨λ_=>⟨a,w⟩,λ_=>rfl⟩
def Cons(t:Z4)(A:cH 200 bM)(c:SW):Prop:=rj t c/\pF t A c
def places{α:Type}(f:α->X')(l:aZ α):S':=(range l.length).filter λk=>match l[k]?with|some x=>f x|none=>false
theorem Nt{α:Type}{f:α->X'}{l:aZ α}{k:Nat}:k∈places f l↔∃x,l[k]?=some x/\f x=true:=by unfold places;rw[List.mem_filter,mem_range];constructor;rintro⟨a,u⟩;rw[ζd a]at u;exact⟨_,ζd a,u⟩;rintro⟨x,a,u⟩;exact⟨(ζe.1 a).1,by rw[a];exact u⟩
theorem Jy{α:Type}(f:α->X')(l:aZ α):(places f l).Nodup:=List.nodup_range.sublist (List.filter_sublist ..)
theorem E6{α:Type}(f:α->X'):∀l:aZ α,(places f l).length=l.countP f:=by intro l;unfold places;rw[<-List.countP_eq_length_filter];induction l with|nil=>rfl|cons x l u=>rw[length_cons,List.range_succ_eq_map,countP_cons,List.countP_map,countP_cons];simp only[List.getElem?_cons_zero];rw[<-u];congr 1
theorem GN{α β:Type}{f:α->X'}{g:β->X'}{l:aZ α}{m:aZ β}(φ:Nat->Nat)(h:∀k∈places f l,φ k∈places g m)(c:∀k B,k∈places f l->B∈places f l->φ k=φ B->k=B):l.countP f<=m.countP g:=by
 rw[<-E6,<-E6];have w:((places f l).map φ).Nodup:=by unfold Nodup;rw[pairwise_map];exact Pairwise.imp_of_mem (λ{a b}z C u D=>u (c a b z C D)) (Jy f l)
 have:=Az (r:=places g m) w λx G=>by obtain⟨k,d,rfl⟩:=mem_map.1 G;exact h k d
 simpa using this
end Go.VE
namespace Go.VE
def mb(kind m:Int)(x:bf×WF):X':=x.2.kind==kind&&x.2.message==m
def gM(t:Z4)(kind m:Int):bf:=match(bY t).find? (mb kind m)with
 |some x=>x.1|none=>⟨0,0⟩
theorem N2{t:Z4}{kind m:Int}{p:Nat}{P:bX}(B:p<9223372036854775806)(D:t.procs.l[p]?=some P)(G:P.events.l.length<1073741824):∀(q i:Nat),i+q=P.events.l.length->
 bQ (λq:Int=>dV.bV kind m p t ⟨0,0⟩ q) (i:Int)=some (match(jA p i (P.events.l.drop i)).find? (mb kind m)with|some x=>.r x.1|none=>.x ()):=by
 have u:idx t.procs (p:Int)=some P:=by rw[jd];exact D
 intro q
 induction q with
 |zero=>
  intro i a;rw[fq];unfold dV.bV;rw[u,ζb,show decide ((i:Int)<len P.events)=false from by simp[len];omega,bJ,List.drop_of_length_le Zaa]
  rfl
 |succ q z=>
  intro i a;have w:i<P.events.l.length:=Zaa
  rw[fq];have C:dV.bV kind m p t ⟨0,0⟩ i=some (if mb kind m (⟨p,(i:Int)+1⟩,P.events.l[i])then .r ⟨p,(i:Int)+1⟩else .n ((i+1:Nat):Int)):=by unfold dV.bV;rw[u,ζb,show decide ((i:Int)<len P.events)=true from by simp[len];omega,bE,ζb,bF w,ζb,nZ,ζb,cF i Zaa,uT];rfl
  rw[C,ζb,drop_eq_getElem_cons w];simp only[jA,List.find?_cons]
  cases I:mb kind m (⟨p,(i:Int)+1⟩,P.events.l[i])with
  |true=>rfl|false=>simp only[false_eq_true,if_false];exact z (i+1) Zaa
theorem NC{t:Z4}(a:Small t){kind m:Int}:∀(q p:Nat),p+q=t.procs.l.length->
 bQ (λq:Int=>dV.bn kind m t ⟨0,0⟩ q) (p:Int)=some (match(gG p (t.procs.l.drop p)).find? (mb kind m)with|some x=>.r x.1|none=>.x ()):=by
 have b:=a.1;intro q
 induction q with
 |zero=>
  intro p w;rw[fq];unfold dV.bn;rw[show decide ((p:Int)<len t.procs)=false from by simp[len];omega,bJ,List.drop_of_length_le Zaa]
  rfl
 |succ q z=>
  intro p w;have u:p<t.procs.l.length:=Zaa
  have B:bQ (λq:Int=>dV.bV kind m p t ⟨0,0⟩ q) 0=some (match(jA p 0 t.procs.l[p].events.l).find? (mb kind m)with|some x=>.r x.1|none=>.x ()):=N2 (t:=t) (kind:=kind) (m:=m) Zaa (ζd u) (a.2 _ (getElem_mem u)).1 (t.procs.l[p].events.l.length) 0 Zaa
  rw[fq];unfold dV.bn;rw[show decide ((p:Int)<len t.procs)=true from by simp[len];omega,bE]
  unfold dV.W2;rw[B,drop_eq_getElem_cons u];simp only[gG,find?_append]
  cases C:(jA p 0 t.procs.l[p].events.l).find? (mb kind m)with
  |some x=>rfl|none=>
   simp only[ζb,Fw.elim,Option.none_or];rw[cF p Zaa]
   exact z (p+1) Zaa
theorem find_eq{t:Z4}(a:Small t)(kind m:Int):dV t kind m=some (gM t kind m):=by unfold dV dV.W1;have u:bQ (λq:Int=>dV.bn kind m t ⟨0,0⟩ q) 0=some (match(bY t).find? (mb kind m)with|some x=>.r x.1|none=>.x ()):=NC a (kind:=kind) (m:=m) t.procs.l.length 0 Zaa;rw[u];unfold gM;cases(bY t).find? (mb kind m)<;>rfl
theorem wY{t:Z4}{kind m:Int}{x:bf×WF}(h:(bY t).find? (mb kind m)=some x):x∈bY t/\x.2.kind=kind/\x.2.message=m/\gM t kind m=x.1:=by have a:=List.find?_some h;simp only[mb,ζh,beq_iff_eq]at a;exact⟨List.mem_of_find?_eq_some h,a.1,a.2,by unfold gM;rw[h]⟩
theorem Iz{t:Z4}{kind m:Int}{x:bf×WF}(B:x∈bY t)(a:x.2.kind=kind)(D:x.2.message=m):∃y,(bY t).find? (mb kind m)=some y:=by cases u:(bY t).find? (mb kind m)with|some y=>exact⟨y,rfl⟩|none=>rw[find?_eq_none]at u;exact absurd (u x B) (by simp[mb,a,D])
theorem NT{t:Z4}{kind m:Int}(h:∀x∈bY t,¬(x.2.kind=kind/\x.2.message=m)):gM t kind m=⟨0,0⟩:=by
 unfold gM;have:(bY t).find? (mb kind m)=none:=by rw[find?_eq_none];intro x u;simp only[mb,ζh,beq_iff_eq];exact h x u
 rw[this]
theorem TU{t:Z4}{p k:Nat}{e:WF}(h:mM t p k e)(a:k<9223372036854775807):vM t ⟨p,k+1⟩=some e:=by have⟨P,u,w⟩:=h;unfold vM;dsimp only;rw[show idx t.procs (p:Int)=some P from by rw[jd];exact u,ζb,show wrap .i64 ((k:Int)+1-1)=(k:Int)from by rw[gW _ Zaa Zaa];omega,show idx P.events (k:Int)=some e from by rw[jd];exact w];rfl
def wG(t:Z4)(x:bf×WF):Int:=if x.2.kind=1 then 0 else if gM t x.2.kind x.2.message=x.1 then(if x.2.kind=3 then(if uh t x.2.peer x.2.message x.1.proc then 0 else 7)else 0)else 8
theorem O9{t:Z4}(b:Small t){p k:Nat}{e:WF}(h:mM t p k e)(U:l_ t.procs.l.length p e):jw t ⟨p,k+1⟩=some (wG t (⟨p,k+1⟩,e)):=by
 have d:k<1073741824:=by have⟨P,W,X⟩:=h;have:=(b.2 P (mem_of_getElem? W)).1;have:=(ζe.1 X).1;omega
 unfold jw wG;rw[TU h Zaa,ζb];dsimp only;by_cases a:e.kind=1;rw[show(e.kind==1)=true from by simp[a],bE,if_pos a];rw[show(e.kind==1)=false from by simp[a],bJ,if_neg a,find_eq b,ζb];have D:Mc (gM t e.kind e.message) ⟨p,(k:Int)+1⟩=decide (gM t e.kind e.message=⟨p,(k:Int)+1⟩):=by unfold Mc;rw[Bool.eq_iff_iff];cases gM t e.kind e.message;simp
 rw[D];by_cases w:gM t e.kind e.message=⟨p,(k:Int)+1⟩;rw[if_pos w,show decide (gM t e.kind e.message=⟨p,(k:Int)+1⟩)=true from by simpa using w,bE];by_cases B:e.kind=3;rw[if_pos B,show(e.kind==3)=true from by simp[B],bE];have G:0<=e.peer/\e.peer<t.procs.l.length:=by rcases U with h|⟨_,a,w,_⟩;exact absurd h a;exact⟨a,w⟩
 have O:e.peer.toNat<t.procs.l.length:=Zaa;have S:=ζd O;have Y:=(b.2 _ (getElem_mem O)).1;generalize Z:t.procs.l[e.peer.toNat]=Q at *;have I:idx t.procs e.peer=some Q:=by rw[S9 G.1];exact S
 have J:uh t e.peer e.message p=Q.events.l.any λs=>s.kind==2&&s.message==e.message&&s.peer==p:=by unfold uh;rw[S]
 unfold jw.W1;refine Wp.eq (eY (λz:X'×Int=>∃m:Nat,z.2=m/\m<=Q.events.l.length/\z.1=(Q.events.l.take m).any λs=>s.kind==2&&s.message==e.message&&s.peer==p) (λz=>Q.events.l.length-z.2.toNat) ⟨0,rfl,zero_le _,rfl⟩ ?_);rintro⟨s,i⟩ ⟨m,c,f,C⟩;simp only at c C;subst c;unfold jw.bn;dsimp only;rw[I,ζb,ct];constructor;intro L;have u:m<Q.events.l.length:=by simpa[len]using L
 have T:=cF m Zaa;rw[ζb,bF u,ζb,nZ,ζb,nZ,ζb,mg,ζb,bh];refine⟨⟨m+1,T,Zaa,?_⟩,by show _-(wrap .i64 ((m:Int)+1)).toNat<_;rw[T];simp;omega⟩;show(s||_)=_;rw[take_add_one,ζd u,List.any_append,C];simp;intro L;have u:Q.events.l.length<=m:=by simpa[len]using L
 rw[List.take_of_length_le u]at C;refine(bh _).2 ?_;rw[J,<-C];cases s;exact(bh _).2 rfl;exact(bh _).2 rfl;rw[if_neg B,show(e.kind==3)=false from by simp[B],bJ];rw[if_neg w,show decide (gM t e.kind e.message=⟨p,(k:Int)+1⟩)=false from by simpa using w,bJ]
theorem ND{t:Z4}(J:∀x∈bY t,l_ t.procs.l.length x.1.proc x.2):(∀x∈bY t,wG t x=0)↔zj t:=by
 constructor;intro h;have key:∀x∈bY t,x.2.kind≠1->gM t x.2.kind x.2.message=x.1:=λx u a=>by have:=h x u;unfold wG at this;rw[if_neg a]at this;split at this;assumption;cases this
 refine⟨λx u y w z B C=>?_,λx u y w z B C=>?_,λx u z=>?_⟩;rw[<-key x u Zaa,<-key y w Zaa,z,B,C];rw[<-key x u Zaa,<-key y w Zaa,z,B,C];have:=h x u;unfold wG at this;rw[if_neg Zaa,if_pos (key x u Zaa),if_pos z]at this;split at this;assumption;cases this;intro h x u;unfold wG;by_cases k1:x.2.kind=1;rw[if_pos k1];rw[if_neg k1];have⟨y,w⟩:=Iz u rfl rfl;have⟨G,I,y3,y4⟩:=wY w;have a:x.2.kind=2\/x.2.kind=3:=by rcases J x u with h|⟨h,_⟩;exact absurd h k1;exact h
 have L:gM t x.2.kind x.2.message=x.1:=by rw[y4];rcases a with a|a;exact h.snd y G x u (by rw[I,a]) a y3;exact h.rcv y G x u (by rw[I,a]) a y3
 rw[if_pos L];by_cases D:x.2.kind=3;rw[if_pos D,if_pos (h.has x u D)];rw[if_neg D]
theorem zu{t:Z4}(D:∀x∈bY t,l_ t.procs.l.length x.1.proc x.2)(G:zj t){z:bf}{f:WF}(B:(z,f)∈bY t)(a:f.kind=3):∃e,(gM t 2 f.message,e)∈bY t/\e.kind=2/\e.message=f.message:=by
 have h:=G.has _ B a;have I:0<=f.peer:=by rcases D _ B with h|⟨_,h,_⟩;grind;simp_all
 rw[show f.peer=(f.peer.toNat:Nat)from Zaa,Ay]at h;have⟨k,e,u,b,w,_⟩:=h;have⟨y,C⟩:=Iz (dR.2 ⟨_,k,u,rfl⟩:(⟨(f.peer.toNat:Nat),k+1⟩,e)∈bY t) b w;have⟨J,L,y3,y4⟩:=wY C;grind
theorem Iw.find{t:Z4}(G:∀x∈bY t,l_ t.procs.l.length x.1.proc x.2)(B:zj t){y z:bf}{f:WF}(h:Iw t y z)(D:(z,f)∈bY t):f.kind=3/\gM t 2 f.message=y:=by have⟨e,L,a,w,C,u,O⟩:=h;cases zX w D rfl;have⟨Q,I,J,S⟩:=zu G B D u;exact⟨u,B.snd _ I _ a J C Zad⟩
theorem CQ{t:Z4}(b:Small t)(J:∀x∈bY t,l_ t.procs.l.length x.1.proc x.2)(B:zj t){z:bf}(D:Vd t z):
 Wp (dY t z) λs=>s.l.length<=2/\∀y,y∈s.l↔Edge t y z:=by
 obtain⟨p,k,f,w,rfl,u⟩:=D.at_;have d:k<1073741824:=by have⟨P,B,I⟩:=w;have:=(b.2 P (mem_of_getElem? B)).1;grind
 have j:∀s:Sl bf,s.l.length<=1->(∀y,y∈s.l↔Vd t y/\(⟨p,k+1⟩:bf)=⟨y.proc,y.index+1⟩)->Wp (dY.J1 s t ⟨p,k+1⟩) λs=>s.l.length<=2/\∀y,y∈s.l↔Edge t y ⟨p,k+1⟩:=by intro s U C;unfold dY.J1;rw[TU w Zaa,ζb,ct];constructor;intro G;have G:f.kind=3:=(by grind);rw[find_eq b,ζb];unfold eU;rw[if_pos Zaa,ζb,bh];refine⟨by show(s.l++[_]).length<=2;grind,λy=>?_⟩;show y∈s.l++[gM t 2 f.message]↔_;rw[mem_append,mem_singleton,C];have⟨e,O,Q,S⟩:=zu J B u G;constructor;rintro(h|rfl);exact⟨h.1,D,.inl h.2⟩;exact⟨⟨e,O⟩,D,.inr ⟨e,f,O,u,Q,G,S⟩⟩;rintro⟨c,_,a|a⟩;grind;exact .inr (a.find J B u).2.symm;intro G;refine(bh _).2 ⟨Zaa,λy=>(C y).trans ⟨λh=>⟨h.1,D,.inl h.2⟩,λ⟨c,_,a⟩=>⟨c,a.elim id λa=>?_⟩⟩⟩;have:=(a.find J B u).1;grind
 unfold dY;rw[ct];constructor
 .intro h;have h:k+1>1:=by grind
  refine j _ (by simp[Sl.l]) λy=>?_
  have T:wrap .i64 (k+1-1)=k:=by rw[gW _ Zaa Zaa];omega
  simp only[Sl.l,mem_singleton,T,bf.mk.injEq];constructor
  .rintro rfl;have⟨P,B,I⟩:=w;have:=(ζe.1 I).1;exact⟨⟨P.events.l[k-1],dR.2 ⟨p,k-1,⟨P,B,ζd Zaa⟩,by simp;omega⟩⟩,rfl,rfl⟩
  simp_all
 intro h;refine j _ (by simp[Sl.l]) λy=>⟨λL=>by simp[Sl.l]at L,λ⟨L,I⟩=>?_⟩
 obtain⟨q,i,f,_,rfl,_⟩:=L.at_
 grind
theorem W9{α:Type}{r:α->α->Prop}{x:α}(h:Acc r x):¬TransGen r x x:=by induction h with|intro x _ u=>intro h;cases h with|single h=>exact u x h (.single h)|tail h1 w=>exact u _ w (TransGen.trans (.single w) h1)
theorem Me:∀{d:S'}{i k:Nat},d[i]?=some k->(d.set i (k+1)).sum=d.sum+1
 |[],_,_,h=>Zad|x::d,0,k,h=>Zac|x::d,i+1,k,h=>by have:=Me (d:=d) (i:=i) (k:=k) Zac;grind
theorem Qp:∀{d l:S'},d.length=l.length->(∀(i a b:Nat),d[i]?=some a->l[i]?=some b->a<=b)->d.sum<=l.sum
 |[],_,_,_=>Zab|x::d,[],h,_=>Zad|x::d,y::l,h,B=>by have c:=B 0 x y rfl rfl;have u:=Qp (d:=d) (l:=l) Zac λi a b w z=>B (i+1) a b Zac Zac;simp;omega
def nI(d:S'):SW:=d.map ofNat
def sI(s:Zg):Nat:=(s.l.map toNat).sum
theorem H9(d:S'):sI (.row (nI d))=d.sum:=by unfold sI nI;rw[show(Sl.row (d.map ofNat)).l=d.map ofNat from rfl,List.map_map,show(toNat ∘ ofNat)=id from rfl,List.map_id]
theorem OX(d:S'):(nI d).length=d.length:=by simp[nI]
structure Kh(t:Trace)(d:List Nat):Prop where
 len:d.length=t.procs.l.length
 le:∀(p k:Nat)P,d[p]?=some k->t.procs.l[p]?=some P->k<=P.events.l.length
 acc:∀(p k j:Nat),d[p]?=some k->j<k->Acc (Edge t) ⟨p,j+1⟩
def s9(t:Z4):Nat:=(t.procs.l.map λP=>P.events.l.length).sum
theorem Kh.sum{t:Z4}{d:S'}(h:Kh t d):d.sum<=s9 t:=Qp (by simp[h.len]) λi a b z u=>by cases w:t.procs.l[i]?with|none=>grind|some P=>simp[w]at u;rw[<-u];exact h.le i a P z w
theorem EU{d:S'}{p:Nat}(h:p<d.length):Sl.pP (.row (nI d)) (p:Int)=some p:=by unfold Sl.pP;rw[if_pos ⟨Zaa,by simpa[Sl.l,OX]using h⟩];rfl
theorem BY{d:S'}{p k:Nat}(h:d[p]?=some k):Sl.get (.row (nI d)) p=some (k:Int):=by unfold Sl.get nI;rw[show(Sl.row (d.map ofNat)).l=d.map ofNat from rfl,getElem?_map,h];rfl
def Mv(t:Z4)(B:S')(s:Zg)(b:X')(d:S'):Prop:=s=.row (nI d)/\Kh t d/\B.sum<=d.sum/\(b=true->B.sum<d.sum)
def KQ(t:Z4)(B:S')(p:Nat)(w:Fw (Zg×X'×Int) (Zg×X') Empty):Prop:=∃u z C,w=.n (u,z,((p+1:Nat):Int))/\Mv t B u z C
theorem Vf{t:Z4}(g:Small t)(n:∀x∈bY t,l_ t.procs.l.length x.1.proc x.2)(o:zj t){D r:S'}{s:Zg}{b:X'}{p:Nat}(hp:p<t.procs.l.length)(A:Mv t D s b r):
 Wp (eM.W3 s b p t) (KQ t D p):=by
 have Y:=bF hp;have hn:=g.1;have af:=(g.2 _ (getElem_mem hp)).1;have C:=ζd hp;generalize t.procs.l[p]=P at *;refine eY (λq:Zg×X'=>∃d,Mv t D q.1 q.2 d) (λq=>s9 t-sI q.1) ⟨r,A⟩ ?_
 rintro⟨s,b⟩ ⟨d,rfl,u,hd,E⟩;have w:p<d.length:=by rw[u.len];omega
 have a:=ζd w;generalize d[p]=k at a;have ah:=u.le p k P a C;have stop:∀{W:Empty->Prop},Wp (some (Fw.x (Sl.row (nI d),b))) (TH (λq:Zg×X'=>∃d,Mv t D q.1 q.2 d) (λq=>s9 t-sI q.1) (λe=>Wp (some (Fw.n (e.1,e.2,wrap .i64 (p+1)))) (KQ t D p)) W (Sl.row (nI d),b)):=by refine(bh _).2 ((bh _).2 ⟨_,_,d,?_,rfl,u,hd,E⟩);rw[cF p Zaa]
 unfold eM.eX;rw[EU w,ζb,BY a,ζb,Y,ζb,ct];refine⟨λh=>?_,λ_=>stop⟩
 have G:k<P.events.l.length:=Zac
 have Z:mM t p k P.events.l[k]:=⟨P,C,ζd G⟩;have z:(⟨p,k+1⟩,P.events.l[k])∈bY t:=dR.2 ⟨p,k,Z,rfl⟩;have go:(P.events.l[k].kind=3->∀q j:Nat,gM t 2 P.events.l[k].message=⟨q,j+1⟩->∃X,d[q]?=some X/\j<X)->∀{v:Zg×X'->Prop}{W:Empty->Prop},Wp (eM.J4 (.row (nI d)) p t) (TH (λq:Zg×X'=>∃d,Mv t D q.1 q.2 d) (λq=>s9 t-sI q.1) v W (Sl.row (nI d),b)):=by intro F v W;unfold eM.J4;rw[EU w,ζb,BY a,ζb,ζb];unfold Sl.put;rw[if_pos (by simpa[Sl.l,OX]using w),ζb,bh];have I:(nI d).set p (wrap .i64 ((k:Int)+1))=nI (d.set p (k+1)):=(by rw[cF k Zaa];unfold nI;simp_all);have J:=Me a;have L:Kh t (d.set p (k+1)):=(by refine⟨by simp[u.len],λq i Q c l=>?_,λq i j c H=>?_⟩;rw[getElem?_set]at c;split at c;grind;exact u.le q i Q c l;rw[getElem?_set]at c;split at c;rename_i e;subst e;cases c;by_cases K:j<k;exact u.acc p k j a K;have:j=k:=Zaa;subst this;refine Acc.intro _ λy M=>?_;obtain⟨O,_,m|m⟩:=M;obtain⟨q,i,f,_,rfl,_⟩:=O.at_;simp[bf.mk.injEq]at m;have e1:q=p:=(by omega);subst e1;exact u.acc q j i a Zaa;have⟨B,N⟩:=m.find n o z;obtain⟨q,i,f,_,rfl,_⟩:=O.at_;have⟨X,R,V⟩:=F B q i N;exact u.acc q X i R V;exact u.acc q i j c H);have ai:=L.sum;refine⟨⟨_,Zac,L,Zac,λ_=>Zac⟩,?_⟩;show s9 t-sI (.row ((nI d).set p (wrap .i64 ((k:Int)+1))))<s9 t-sI (.row (nI d));rw[I,H9,H9,J];grind
 dsimp only;rw[ζb,ζb,BY a,ζb,bF G,ζb,ct];refine⟨λB=>?_,λB=>go λh=>by simp[h]at B⟩
 have B:P.events.l[k].kind=3:=by simpa using B
 have⟨e,a1,a2,a3⟩:=zu n o z B;have⟨q,j,S,T⟩:=dR.1 a1;simp only at T;have U:q<d.length:=by have⟨Q,l,_⟩:=S;rw[u.len];exact(ζe.1 l).1
 have ae:=ζd U;rw[find_eq g,ζb,T,EU U,ζb,BY ae,ζb,ct];refine⟨λ_=>stop,λh=>go λ_ q' j' hh=>?_⟩
 grind
theorem Mr{t:Z4}(a:Small t)(U:∀x∈bY t,l_ t.procs.l.length x.1.proc x.2)(B:zj t):Wp (eM t) λb=>b=true->¬LF t:=by
 have o:=a.1;unfold eM xU;rw[if_pos Zac,ζb];have g:(Sl.row (replicate (len t.procs).toNat 0))=.row (nI (replicate t.procs.l.length 0)):=by simp[nI]
 rw[g];refine eY (λs:Zg=>∃d,s=.row (nI d)/\Kh t d) (λs=>s9 t-sI s) ⟨_,rfl,Zab,λp k P h _=>Zac,λp k j h r=>Zac⟩ ?_;rintro s ⟨D,rfl,O⟩;refine eY (λq:Zg×X'×Int=>∃(n:Nat)(d:S'),q.2.2=n/\n<=t.procs.l.length/\Mv t D q.1 q.2.1 d) (λq=>t.procs.l.length-q.2.2.toNat) ⟨0,D,rfl,zero_le _,rfl,O,le_refl _,Zab⟩ ?_;rintro⟨s,b,i⟩ ⟨n,d,l,Q,c⟩;subst l;unfold eM.bV;rw[ct];constructor;intro h;have u:n<t.procs.l.length:=by grind
 refine(Vf a U B u c).mono ?_;rintro w ⟨v,y,S,rfl,G⟩;exact⟨⟨n+1,S,rfl,Zaa,G⟩,by simp;omega⟩;intro _;obtain⟨rfl,z,T,I⟩:=c;rw[bh];show Wp (bl b _ _) _;rw[ct];refine⟨λW=>(bh _).2 ⟨⟨d,rfl,z⟩,?_⟩,λ_=>(bh _).2 ?_⟩;show s9 t-sI (.row (nI d))<s9 t-sI (.row (nI D));rw[H9,H9];have:=I W;have:=z.sum;omega;refine eY (λi:Int=>∃n:Nat,i=n/\n<=t.procs.l.length/\∀p,p<n->∀P,t.procs.l[p]?=some P->d[p]?=some P.events.l.length) (λi:Int=>t.procs.l.length-i.toNat) ⟨0,rfl,zero_le _,λp J=>absurd J Zaa⟩ ?_;rintro i ⟨n,rfl,X,Y⟩;unfold eM.zn;rw[ct];constructor;intro h;have u:n<t.procs.l.length:=by grind
 have C:n<d.length:=by rw[z.len];omega
 have f:=ζd C;rw[EU C,ζb,BY f,ζb,bF u,ζb,ct];refine⟨λ_=>(bh _).2 ((bh _).2 λh=>by cases h),λh=>(bh _).2 ⟨⟨n+1,cF n Zaa,Zaa,λp J P B=>?_⟩,by rw[cF n Zaa];simp;omega⟩⟩;by_cases e:p=n;subst e;rw[ζd u]at B;have:=z.le p _ _ f (ζd u);grind;grind;intro h;have Z:t.procs.l.length<=n:=Zac;refine(bh _).2 ((bh _).2 λ_⟨x,L⟩=>?_);obtain⟨p,k,e,⟨P,B,m⟩,rfl,_⟩:=L.l.at_;have A:=(ζe.1 B).1;exact W9 (z.acc p _ k (Y p Zaa P B) (ζe.1 m).1) L
def rZ(out:aZ (aZ X'))(y:bf):X':=match out[y.proc.toNat]?with
 |some row=>row[y.index.toNat]?.getD false|none=>false
theorem By{t:Z4}{out:aZ (aZ X')}{p k:Nat}{row:aZ X'}(a:out[p]?=some row)(b:k+1<row.length){z:bf}(B:Vd t z):
 rZ (out.set p (row.set (k+1) true)) z=(decide (z=⟨p,k+1⟩)||rZ out z):=by
 obtain⟨q,j,e,_,rfl,_⟩:=B.at_;have C:=(ζe.1 a).1;unfold rZ;have e1:(⟨(q:Int),(j:Int)+1⟩:bf).proc.toNat=q:=rfl;have e2:(⟨(q:Int),(j:Int)+1⟩:bf).index.toNat=j+1:=by show((j:Int)+1).toNat=j+1;omega
 rw[e1,e2,getElem?_set]
 by_cases u:p=q
 .subst u;rw[if_pos rfl,if_pos C,a];dsimp only;rw[getElem?_set]
  by_cases w:k=j
  .subst w;simp[b]
  rw[if_neg Zaa,show decide ((⟨(p:Int),(j:Int)+1⟩:bf)=⟨p,k+1⟩)=false from by simp;omega,Bool.false_or]
 rw[if_neg u,show decide ((⟨(q:Int),(j:Int)+1⟩:bf)=⟨p,k+1⟩)=false from by simp;omega,Bool.false_or]
theorem B0{α:Type}{f g:α->X'}:∀{l:aZ α},(∀z∈l,f z=true->g z=true)->(∃z∈l,f z=false/\g z=true)->l.countP f<l.countP g
 |[],_,⟨z,b,_⟩=>by simp at b|a::l,h,⟨z,b,B,hg⟩=>by simp only[countP_cons];have D:=List.countP_mono_left (l:=l) (p:=f) (q:=g) λx u=>h x (mem_cons_of_mem _ u);rcases mem_cons.1 b with rfl|b;simp[B,hg];omega;have:=B0 (l:=l) (λx u=>h x (mem_cons_of_mem _ u)) ⟨z,b,B,hg⟩;have c:=h a (mem_cons_self ..);cases w:f a with|true=>simp[c w];omega|false=>simp;split<;>omega
def cnt(t:Z4)(out:aZ (aZ X')):Nat:=(bY t).countP λz=>rZ out z.1
structure Zs(t:Trace)(x:bf)(out:List (List Bool))(rest:List bf):Prop where
 shp:∀(p:Nat)P,t.procs.l[p]?=some P->∃row,out[p]?=some row/\row.length=P.events.l.length+1
 len:out.length=t.procs.l.length
 que:∀y∈rest,Way t y x
 snd:∀y,Vd t y->rZ out y=true->Way t y x
 cls:∀z,z=x\/Vd t z/\rZ out z=true->∀y,Edge t y z->rZ out y=true\/y∈rest
 le:rest.length<=2*cnt t out+2
theorem C4{t:Z4}{y:bf}:rZ (iD t) y=false:=by
 unfold rZ iD;split;rename_i row h;rw[getElem?_map]at h;cases u:t.procs.l[y.proc.toNat]?with|none=>simp[u]at h|some P=>simp[u]at h;subst h;rw[List.getElem?_replicate];split<;>rfl
 rfl
theorem Vv{t:Z4}(c:Small t)(m:(bY t).length<1073741824)(g:∀x∈bY t,l_ t.procs.l.length x.1.proc x.2)(J:zj t){x:bf}(i:Vd t x):
 Wp (oE t x) λs=>∃out,s=nested out/\Zs t x out []/\∀y,Vd t y->(rZ out y=true↔Way t y x):=by
 unfold oE;rw[if_pos (by
  unfold A8;simp only[ζh,all_eq_true,decide_eq_true_eq];exact⟨by have:=c.1;omega,λP J=>by have:=(c.2 P J).1;omega⟩),eW]
 refine(CQ c g J i).mono λs W=>?_
 refine eY (λq:aZ (aZ X')×aZ bf=>Zs t x q.1 q.2) (λq=>2*((bY t).length-cnt t q.1)+q.2.length) ⟨λp P J=>⟨replicate (P.events.l.length+1) false,by simp[iD,J],Zab⟩,by simp[iD],λy C=>.single ((W.2 y).1 C),λy _ h=>(by rw[C4]at h;cases h),λz a y C=>?_,by have:=W.1;show s.l.length<=2*cnt t (iD t)+2;omega⟩ ?_
 .rcases a with rfl|⟨_,h⟩
  .exact .inr ((W.2 y).2 C)
  rw[C4]at h;cases h
 rintro⟨out,rest⟩ u
 cases rest with
 |nil=>
  show Wp (some _) _;refine(bh _).2 ((bh _).2 ⟨out,rfl,u,λy C=>⟨u.snd y C,λD=>?_⟩⟩)
  have key:∀w,Way t y w->w=x\/Vd t w/\rZ out w=true->rZ out y=true:=λw D=>by induction D with|single h=>exactλD=>(u.cls _ D _ h).elim id λh=>by cases h|tail ad L ih=>exactλD=>ih (.inr ⟨L.1,(u.cls _ D _ L).elim id λh=>by cases h⟩)
  exact key x D (.inl rfl)
 |cons y rest=>
  have G:=u.que y (mem_cons_self ..);have I:=G.l;obtain⟨p,k,e,X,rfl,O⟩:=I.at_;have⟨P,S,j⟩:=X;have n:=(ζe.1 j).1;have⟨row,b,Y⟩:=u.shp p P S;have B:k+1<row.length:=Zaa
  show Wp (qa _ (out,⟨p,k+1⟩::rest)) _;unfold qa;have e2:((k:Int)+1).toNat=k+1:=Zaa
  dsimp only;rw[if_pos ⟨Zaa,Zaa⟩,show((p:Nat):Int).toNat=p from rfl,e2,b,ζb,ζd B,ζb,ct]
  have T:rZ out ⟨p,k+1⟩=row[k+1]:=by unfold rZ;rw[show((⟨(p:Int),(k:Int)+1⟩:bf).proc).toNat=p from rfl,b];dsimp only;rw[e2,ζd B];rfl
  constructor
  .intro Z;rw[bh];refine⟨⟨u.shp,u.len,λy C=>u.que y (mem_cons_of_mem _ C),u.snd,λz a y C=>?_,by have:=u.le;simp only[length_cons]at this;show rest.length<=2*cnt t out+2;omega⟩,Nat.add_lt_add_left (Nat.lt_succ_self _) _⟩
   rcases u.cls z a y C with h|h
   .exact .inl h
   rcases mem_cons.1 h with rfl|h
   .exact .inl (by rw[T];exact Z)
   exact .inr h
  intro Z;rw[eW];refine(CQ c g J I).mono λmore d=>?_
  have l:=u.le;simp only[length_cons]at l;have o:cnt t out<=(bY t).length:=countP_le_length;have v:=d.1;have A:cnt t out<cnt t (out.set p (row.set (k+1) true)):=B0 (λz a h=>by rw[By b B ⟨_,a⟩,h,Bool.or_true]) ⟨_,O,by rw[T,Z],by rw[By b B I];simp⟩
  have E:cnt t (out.set p (row.set (k+1) true))<=(bY t).length:=countP_le_length;rw[if_pos Zaa,bh]
  refine⟨⟨λq Q f=>?_,by show(out.set _ _).length=_;rw[List.length_set];exact u.len,λz a=>?_,λz a h=>?_,λz a y C=>?_,by show(rest++more.l).length<=_;rw[ζi];show _<=2*cnt t (out.set p (row.set (k+1) true))+2;omega⟩,?_⟩
  .show ∃r,(out.set p (row.set (k+1) true))[q]?=some r/\_;rw[getElem?_set];split
   next e=>subst e;rw[if_pos (ζe.1 b).1];rw[S]at f;cases f;exact⟨_,rfl,by simp[Y]⟩
   exact u.shp q Q f
  .rcases mem_append.1 a with a|a
   .exact u.que z (mem_cons_of_mem _ a)
   exact .trans (.single ((d.2 z).1 a)) G
  .show Way t z x;have h:rZ (out.set p (row.set (k+1) true)) z=true:=h;rw[By b B a]at h;simp only[or_eq_true,decide_eq_true_eq]at h;rcases h with rfl|h
   .exact G
   exact u.snd z a h
  .show rZ (out.set p (row.set (k+1) true)) y=true\/y∈rest++more.l;rw[By b B C.1];have old:z=x\/Vd t z/\rZ out z=true->(decide (y=⟨p,k+1⟩)||rZ out y)=true\/y∈rest++more.l:=λa=>by
    rcases u.cls z a y C with h|h
    .exact .inl (by rw[show rZ out y=true from h,Bool.or_true])
    rcases mem_cons.1 h with rfl|h
    .exact .inl Zab
    exact .inr (mem_append_left _ h)
   rcases a with a|⟨U,a⟩
   .exact old (.inl a)
   have a:rZ (out.set p (row.set (k+1) true)) z=true:=a;rw[By b B U]at a;simp only[or_eq_true,decide_eq_true_eq]at a;rcases a with rfl|a
   .exact .inr (List.mem_append_right _ ((d.2 y).2 C))
   exact old (.inr ⟨U,a⟩)
  show 2*((bY t).length-cnt t (out.set p (row.set (k+1) true)))+(rest++more.l).length<2*((bY t).length-cnt t out)+(_::rest).length;rw[ζi,length_cons];omega
theorem Y7{t:Z4}(b:Small t)(Y:(bY t).length<1073741824)(f:∀x∈bY t,l_ t.procs.l.length x.1.proc x.2)(G:zj t):Wp (di.W6 0 t ⟨0,0⟩) λr=>(r.2=0↔¬LF t):=by
 have v:=b.1;unfold di.W6;refine eY (λi:Int=>∃n:Nat,i=n/\n<=t.procs.l.length/\∀(p k:Nat)e,p<n->mM t p k e->¬Way t ⟨p,k+1⟩ ⟨p,k+1⟩) (λi:Int=>t.procs.l.length-i.toNat) ⟨0,rfl,zero_le _,λp k e T=>absurd T Zaa⟩ ?_;rintro i ⟨n,rfl,Z,U⟩;unfold di.L5;rw[ct];constructor;intro h;have w:n<t.procs.l.length:=by simpa[len]using h
 have I:=bF w;have z:=ζd w;have y:=(b.2 _ (getElem_mem w)).1;generalize t.procs.l[n]=P at *;unfold di.W7;refine eY (λi:Int=>∃m:Nat,i=m/\m<=P.events.l.length/\∀k,k<m->¬Way t ⟨n,k+1⟩ ⟨n,k+1⟩) (λi:Int=>P.events.l.length-i.toNat) ⟨0,rfl,zero_le _,λk a=>absurd a Zaa⟩ ?_;rintro i ⟨m,rfl,A,a⟩;unfold di.L8;rw[I,ζb,ct];constructor;intro h;have J:m<P.events.l.length:=by simpa[len]using h
 have L:=cF m Zaa;have c:Vd t ⟨n,m+1⟩:=⟨P.events.l[m],dR.2 ⟨n,m,⟨P,z,ζd J⟩,rfl⟩⟩;rw[L,show(((m+1:Nat)):Int)=(m:Int)+1 from Zab,eW];refine(Vv b Y f G c).mono ?_;rintro s ⟨out,rfl,g,B⟩;have⟨row,d,E⟩:=g.shp n P z;have O:out≠[]:=by rintro rfl;cases d
 have C:m+1<row.length:=Zaa;have j:idx (nested out) (n:Int)=some (.row row):=by unfold nested;rw[if_neg O,jd];show(out.map Sl.row)[n]?=_;rw[getElem?_map,d];rfl
 have l:idx (Sl.row row) ((m:Int)+1)=some row[m+1]:=by rw[show(m:Int)+1=((m+1:Nat):Int)from Zab];exact bF (s:=Sl.row row) C
 rw[j,ζb,l,ζb,ct];have o:row[m+1]=rZ out ⟨n,m+1⟩:=by unfold rZ;rw[show((⟨(n:Int),(m:Int)+1⟩:bf).proc).toNat=n from rfl,d];dsimp only;rw[show((m:Int)+1).toNat=m+1 from Zaa,ζd C];rfl
 rw[o];refine⟨λD=>(bh _).2 ((bh _).2 ((bh _).2 ⟨λh=>(by cases h),λh=>absurd ⟨_,(B _ c).1 D⟩ h⟩)),λD=>(bh _).2 ⟨⟨m+1,Zab,Zaa,λk F=>?_⟩,by simp;omega⟩⟩;by_cases e:k=m;subst e;exactλL=>by rw[(B _ c).2 L]at D;cases D
 exact a k Zaa;intro h;have S:P.events.l.length<=m:=by simpa[len]using h
 refine(bh _).2 ((bh _).2 ⟨⟨n+1,cF n Zaa,Zaa,λp k e T u=>?_⟩,by rw[cF n Zaa];simp;omega⟩);by_cases e:p=n;subst e;have⟨Q,W,q⟩:=u;rw[z]at W;cases W;have:=(ζe.1 q).1;exact a k Zaa;exact U p k _ Zaa u;intro h;have S:t.procs.l.length<=n:=by simpa[len]using h
 refine(bh _).2 ((bh _).2 ⟨λ_⟨x,X⟩=>?_,λ_=>rfl⟩);obtain⟨p,k,e,u,rfl,_⟩:=X.l.at_;have⟨P,G,_⟩:=id u;exact U p k e (by have:=(ζe.1 G).1;omega) u X
theorem Kb{t:Z4}(B:∀x∈bY t,l_ t.procs.l.length x.1.proc x.2):(∀(p k:Nat)e,mM t p k e->wG t (⟨p,k+1⟩,e)=0)↔zj t:=Iff.trans ⟨λh x w=>by have⟨p,k,b,u⟩:=dR.1 w;have⟨a,e⟩:=x;simp only at b u;rw[u];exact h p k e b,λh p k e z=>h _ (dR.2 ⟨p,k,z,rfl⟩)⟩ (ND B)
theorem OM{t:Z4}(d:Small t)(s:(bY t).length<1073741824):Wp (di t) λr=>(r.2=0↔Ok t):=by
 have E:=d.1;unfold di;rw[mg,ζb,ct];refine⟨λO=>(bh _).2 ⟨λh=>(by cases h),λh=>?_⟩,λO=>?_⟩;have F:=h.one;have g:=h.few;simp only[or_eq_true,decide_eq_true_eq,len]at O;omega;have g:1<=t.procs.l.length/\t.procs.l.length<=8:=by simp only[or_eq_false_iff,decide_eq_false_iff_not,len]at O;omega
 unfold di.W1;refine eY (λi:Int=>∃n:Nat,i=n/\n<=t.procs.l.length/\∀p,p<n->tR t p=0) (λi:Int=>t.procs.l.length-i.toNat) ⟨0,rfl,zero_le _,λp G=>absurd G Zaa⟩ ?_;rintro i ⟨n,rfl,H,o⟩;unfold di.bn;rw[ct];constructor;intro h;have w:n<t.procs.l.length:=by simpa[len]using h
 rw[RZ d w,ζb,ct];refine⟨λa=>(bh _).2 ⟨⟨n+1,cF n Zaa,Zaa,λp G=>?_⟩,by rw[cF n Zaa];simp;omega⟩,λa=>(bh _).2 ((bh _).2 ⟨λh=>?_,λh=>?_⟩)⟩;by_cases e:p=n;subst e;simpa using a;exact o p Zaa;simp only at h;simp[h]at a;simp[h.heads n w]at a;intro h;have K:t.procs.l.length<=n:=by simpa[len]using h
 rw[bh];unfold di.W2;refine eY (λi:Int=>∃n:Nat,i=n/\n<=t.procs.l.length/\∀(p k:Nat)P e,p<n->t.procs.l[p]?=some P->P.events.l[k]?=some e->oZ t.procs.l.length P p k e=0) (λi:Int=>t.procs.l.length-i.toNat) ⟨0,rfl,zero_le _,λp k P e G=>absurd G Zaa⟩ ?_;rintro i ⟨I,rfl,M,W⟩;unfold di.bV;rw[ct];constructor;intro h;have w:I<t.procs.l.length:=by simpa[len]using h
 have D:=bF w;have B:=ζd w;have S:=(d.2 _ (getElem_mem w)).1;generalize t.procs.l[I]=P at D B S;unfold di.W3;refine eY (λi:Int=>∃m:Nat,i=m/\m<=P.events.l.length/\∀(k:Nat)e,k<m->P.events.l[k]?=some e->oZ t.procs.l.length P I k e=0) (λi:Int=>P.events.l.length-i.toNat) ⟨0,rfl,zero_le _,λk e c=>absurd c Zaa⟩ ?_;rintro i ⟨m,rfl,v,c⟩;unfold di.eX;rw[D,ζb,ct];constructor;intro h;have T:m<P.events.l.length:=by simpa[len]using h
 have C:=ζd T;have f:=cF m Zaa;rw[RA d B C,ζb,ct];refine⟨λa=>(bh _).2 ⟨⟨m+1,f,Zaa,λk e x u=>?_⟩,by rw[f];simp;omega⟩,λa=>(bh _).2 ((bh _).2 ((bh _).2 ⟨λh=>?_,λh=>?_⟩))⟩;by_cases j:k=m;subst j;rw[C]at u;cases u;simpa using a;exact c k e Zaa u;simp only at h;simp[h]at a;simp[h.fT I m P _ B C]at a;intro h;have J:P.events.l.length<=m:=by simpa[len]using h
 refine(bh _).2 ((bh _).2 ⟨⟨I+1,cF I Zaa,Zaa,λp k Q e G U u=>?_⟩,by rw[cF I Zaa];simp;omega⟩);by_cases l:p=I;subst l;rw[B]at U;cases U;exact c k e (by have:=(ζe.1 u).1;omega) u;exact W p k Q e Zaa U u;intro h;have J:t.procs.l.length<=I:=by simpa[len]using h
 have W:∀(p k:Nat)P e,t.procs.l[p]?=some P->P.events.l[k]?=some e->oZ t.procs.l.length P p k e=0:=λp k P e L c=>W p k P e (by have:=(ζe.1 L).1;omega) L c;have X:=HD W;rw[bh];unfold di.W4;refine eY (λi:Int=>∃n:Nat,i=n/\n<=t.procs.l.length/\∀(p k:Nat)e,p<n->mM t p k e->wG t (⟨p,k+1⟩,e)=0) (λi:Int=>t.procs.l.length-i.toNat) ⟨0,rfl,zero_le _,λp k e G=>absurd G Zaa⟩ ?_;rintro i ⟨q,rfl,N,Y⟩;unfold di.Mh;rw[ct];constructor;intro h;have w:q<t.procs.l.length:=by simpa[len]using h
 have D:=bF w;have B:=ζd w;have S:=(d.2 _ (getElem_mem w)).1;generalize t.procs.l[q]=P at D B S;unfold di.W5;refine eY (λi:Int=>∃m:Nat,i=m/\m<=P.events.l.length/\∀(k:Nat)e,k<m->P.events.l[k]?=some e->wG t (⟨q,k+1⟩,e)=0) (λi:Int=>P.events.l.length-i.toNat) ⟨0,rfl,zero_le _,λk e c=>absurd c Zaa⟩ ?_;rintro i ⟨m,rfl,v,c⟩;unfold di.zn;rw[D,ζb,ct];constructor;intro h;have T:m<P.events.l.length:=by simpa[len]using h
 have C:=ζd T;have f:=cF m Zaa;have z:mM t q m P.events.l[m]:=⟨P,B,C⟩;rw[f,show(((m+1:Nat)):Int)=(m:Int)+1 from Zab,O9 d z (X (⟨q,m+1⟩,P.events.l[m]) (dR.2 ⟨q,m,z,rfl⟩)),ζb,ct];refine⟨λa=>(bh _).2 ⟨⟨m+1,Zab,Zaa,λk e x u=>?_⟩,by simp;omega⟩,λa=>(bh _).2 ((bh _).2 ((bh _).2 ⟨λh=>?_,λh=>?_⟩))⟩;by_cases j:k=m;subst j;rw[C]at u;cases u;simpa using a;exact c k e Zaa u;simp only at h;simp[h]at a;simp[(Kb X).2 h.Bm q m _ z]at a;intro h;have J:P.events.l.length<=m:=by simpa[len]using h
 refine(bh _).2 ((bh _).2 ⟨⟨q+1,cF q Zaa,Zaa,λp k e G z=>?_⟩,by rw[cF q Zaa];simp;omega⟩);by_cases l:p=q;subst l;have⟨Q,U,u⟩:=z;rw[B]at U;cases U;exact c k e (by have:=(ζe.1 u).1;omega) u;exact Y p k e Zaa z;intro h;have R:t.procs.l.length<=q:=by simpa[len]using h
 have L:zj t:=(Kb X).1 λp k e z=>Y p k e (by have⟨P,L,_⟩:=z;have:=(ζe.1 L).1;omega) z;have Z:¬LF t↔Ok t:=⟨λh=>⟨g.1,g.2,λp G=>o p Zaa,W,L,h⟩,λh=>h.acyc⟩;rw[bh,eW];refine(Mr d X L).mono λb y=>?_;rw[ct];exact⟨λh=>(bh _).2 ⟨λ_=>Z.1 (y h),λ_=>rfl⟩,λ_=>(Y7 d s X L).mono λr A=>A.trans Z⟩
theorem OG {t:Trace} (hS:Small t) (B:(bY t).length<1073741824):∃b,dz t=some b/\uA t=some b/\(b=true->VT t):=by
 obtain⟨b,u,h1,w⟩:=Rz hS B;refine⟨b,u,?_,h1⟩;unfold uA;obtain⟨r,hr,z⟩:=OM hS B;rw[hr,ζb]
 congr 1
 rw[Bool.eq_iff_iff,beq_iff_eq,z];exact⟨w,λh=>(h1 h).ok⟩
theorem RX{t:Z4}(d:Small t){c:Zg}(D:c.l.length=t.procs.l.length){step:Int->a_ (Fw Int Unit Unit)}
 (Y:∀i,step i=bl (decide (i<(len c))) ((idx c i).bind λG=>(bl (decide (G<0)) (some true) ((idx c i).bind λJ=>(idx t.procs i).bind λU=>some (decide (J>(len U.events)))):a_ X').bind λW=>bl W (some (.r ())) (some (.n (wrap .i64 (i+1))))) (some (.x ()))):
 Wp ((bQ step 0).bind (Fw.elim (λ_=>some true) (λ_=>some false))) λb=>(b=true↔rj t c.l):=by
 have f:=d.1;refine eY (λs:Int=>∃n:Nat,s=n/\n<=c.l.length/\∀(p:Nat)(a:Int)(P:bX),p<n->c.l[p]?=some a->t.procs.l[p]?=some P->0<=a/\a<=P.events.l.length) (λs:Int=>c.l.length-s.toNat) ⟨0,rfl,zero_le _,λp a P h=>absurd h Zaa⟩ ?_
 rintro s ⟨n,rfl,S,I⟩;rw[Y,ct];constructor
 .intro h;have w:n<c.l.length:=by simpa[len]using h
  have u:n<t.procs.l.length:=Zaa
  have L:=cF n Zaa
  rw[bF w,ζb,ζb,bF u,ζb,mg,ζb,ct];constructor
  .intro z;have z:c.l[n]<0\/c.l[n]>t.procs.l[n].events.l.length:=by simpa[len]using z
   refine(bh _).2 ((bh _).2 ⟨λh=>(by cases h),λO=>?_⟩)
   have:=O.2 n _ _ (ζd w) (ζd u);omega
  intro z;have z:0<=c.l[n]/\c.l[n]<=t.procs.l[n].events.l.length:=by simpa[len]using z
  refine(bh _).2 ⟨⟨n+1,L,Zaa,λp a P T B C=>?_⟩,by rw[L];simp;omega⟩
  by_cases e:p=n
  .subst e;rw[ζd w]at B;cases B;rw[ζd u]at C;cases C;exact z
  exact I p a P Zaa B C
 intro h;have Q:c.l.length<=n:=by simpa[len]using h
 refine(bh _).2 ((bh _).2 ⟨λ_=>⟨D,λp a P B C=>I p a P (by have:=(ζe.1 B).1;omega) B C⟩,λ_=>rfl⟩)
theorem VN{t:Z4}(a:Small t){c:Zg}(B:c.l.length=t.procs.l.length):Wp (oh t c) λb=>(b=true↔rj t c.l):=by unfold oh;rw[show(len c==len t.procs)=true from by simp[len,B],bE];exact RX a B λi=>rfl
theorem Hz{t:Z4}(a:VT t){A:cH 200 bM}(b:iW t (bY t) A){p k:Nat}{e:WF}(B:mM t p k e)(c:e.kind=3):gM t 2 e.message=(ag A e.message).from_:=by have⟨y,d,u,w⟩:=zu a.formed a.ok.Bm (dR.2 ⟨p,k,B,rfl⟩:((⟨p,k+1⟩:bf),e)∈bY t) c;have:=b.snd _ d u;simp only[w]at this;exact this.symm
theorem Fu(t:Z4)(kind m:Int):gM t kind m=⟨0,0⟩/\(∀x∈bY t,¬(x.2.kind=kind/\x.2.message=m))\/∃z,(gM t kind m,z)∈bY t/\z.kind=kind/\z.message=m:=by cases h:(bY t).find? (mb kind m)with|some x=>have⟨w,B,C,D⟩:=wY h;exact .inr ⟨x.2,by rw[D];exact w,B,C⟩|none=>rw[find?_eq_none]at h;have u:∀x∈bY t,¬(x.2.kind=kind/\x.2.message=m):=λx G=>(by have:=h x G;simpa[mb]using this);exact .inl ⟨NT u,u⟩
theorem Mf{t:Z4}(a:VT t){r s:bf}{z e:WF}(b:(r,z)∈bY t)(D:z.kind=3)(B:(s,e)∈bY t)(G:e.kind=2)(J:e.message=z.message):e.peer=r.proc/\z.peer=s.proc:=by
 have h:=a.ok.Bm.has _ b D;have L:0<=z.peer:=by rcases a.formed _ b with h|⟨_,h,_⟩;simp only at h;omega;exact h
 rw[show z.peer=((z.peer.toNat:Nat):Int)from Zaa,Ay]at h;have⟨k,y,w,c,C,I⟩:=h;have u:((⟨(z.peer.toNat:Nat),k+1⟩:bf),y)∈bY t:=dR.2 ⟨_,k,w,rfl⟩;have:=a.ok.Bm.snd _ u _ B c G (by rw[J];exact C);simp only at this;subst this;cases zX u B rfl;exact⟨I,by simp only;omega⟩
def mX(t:Z4)(c:SW)(e:WF):X':=(gM t 3 e.message).index==0||decide ((gM t 3 e.message).index>(c[(gM t 3 e.message).proc.toNat]?).getD 0)
theorem BM{α:Type}(f g:α->X'):∀l:aZ α,l.countP f=l.countP (λx=>f x&&g x)+l.countP (λx=>f x&& !g x)
 |[]=>rfl|x::l=>by simp only[countP_cons,BM f g l];cases f x<;>cases g x<;>simp<;>omega
theorem vE{α:Type}{f:α->X'}{l:aZ α}{n k:Nat}:k∈places f (l.take n)↔k<n/\∃x,l[k]?=some x/\f x=true:=by rw[Nt];simp only[getElem?_take];constructor;rintro⟨x,a,u⟩;split at a;exact⟨‹_›,x,a,u⟩;cases a;rintro⟨h,x,a,u⟩;exact⟨x,by rw[if_pos h];exact a,u⟩
theorem UA{t:Z4}(i:VT t){A:cH 200 bM}(hM:iW t (bY t) A){c:SW}(E:Cons t A c){p q:Nat}{P Q:bX}{a b:Int}(J:t.procs.l[p]?=some P)(D:t.procs.l[q]?=some Q)(N:c[p]?=some a)(s:c[q]?=some b):
 (Q.events.l.take b.toNat).countP (zg p)=(P.events.l.take a.toNat).countP λe=>ec q e&& !mX t c e:=by
 have f:∀{p:Nat}{P:bX}{k:Nat}{e:WF},t.procs.l[p]?=some P->P.events.l[k]?=some e->((⟨p,k+1⟩:bf),e)∈bY t:=λJ g=>dR.2 ⟨_,_,⟨_,J,g⟩,rfl⟩
 have a0:=(E.1.2 p a P N J).1;have b0:=(E.1.2 q b Q s D).1;have r1:∀k,k∈places (zg p) (Q.events.l.take b.toNat)->∃(z:WF)(j:Nat)(e:WF),Q.events.l[k]?=some z/\z.kind=3/\P.events.l[j]?=some e/\e.kind=2/\e.peer=q/\e.message=z.message/\gM t 2 z.message=⟨p,j+1⟩/\(j:Int)+1<=a/\(k:Int)+1<=b:=λk g=>by have⟨ai,z,d,u⟩:=vE.1 g;have u:z.kind=3/\z.peer=p:=(by simpa[zg]using u);have R:=f D d;have⟨e,e1,e2,e3⟩:=zu i.formed i.ok.Bm R u.1;have⟨l,m⟩:=Mf i R u.1 e1 e2 e3;have⟨p',j,⟨P',Z,n⟩,G⟩:=dR.1 e1;simp only at l G n;rw[G]at m;have ab:p'=p:=(by simp only at m;omega);subst ab;rw[J]at Z;cases Z;have⟨x,C,I⟩:=E.2 q k z b ⟨Q,D,d⟩ s Zaa u.1;rw[<-Hz i hM ⟨Q,D,d⟩ u.1,G]at C I;simp only[toNat_natCast]at C I;rw[N]at C;cases C;exact⟨z,j,e,d,u.1,n,e2,l,e3,G,I,Zaa⟩
 have F:∀k,k∈places (λe=>ec q e&& !mX t c e) (P.events.l.take a.toNat)->∃(e:WF)(j:Nat)(z:WF),P.events.l[k]?=some e/\e.kind=2/\Q.events.l[j]?=some z/\z.kind=3/\z.peer=p/\z.message=e.message/\gM t 3 e.message=⟨q,j+1⟩/\(j:Int)+1<=b:=λk g=>by have⟨aj,e,d,u⟩:=vE.1 g;simp only[ζh,not_eq_true',mX,or_eq_false_iff,ec,beq_iff_eq,beq_eq_false_iff_ne,decide_eq_false_iff_not]at u;have⟨⟨g1,g2⟩,g3,g4⟩:=u;rcases Fu t 3 e.message with⟨h,_⟩|⟨z,v,y,z3⟩;rw[h]at g3;exact absurd rfl g3;have⟨l,m⟩:=Mf i v y (f J d) g1 z3.symm;have⟨q',j,⟨Q',V,n⟩,G⟩:=dR.1 v;simp only at G n l m;rw[G]at l g4;have ad:q'=q:=(by simp only at l;omega);subst ad;rw[D]at V;cases V;simp only[toNat_natCast,s,getD_some]at g4;exact⟨e,j,z,d,g1,n,y,m,z3,G,Zaa⟩
 apply Nat.le_antisymm
 .refine GN (λk=>match Q.events.l[k]?with|some z=>((gM t 2 z.message).index-1).toNat|none=>0) (λk g=>?_) λk H g L K=>?_
  .have⟨z,j,e,d,u,O,o,r,S,T,h8,h9⟩:=r1 k g;rw[d];simp only[T];rw[show((j:Int)+1-1).toNat=j from Zaa]
   refine vE.2 ⟨Zaa,e,O,?_⟩
   have ae:gM t 3 e.message=⟨q,k+1⟩:=by rcases Fu t 3 e.message with⟨_,h⟩|⟨z',v,y,z3⟩;exact absurd ⟨u,S.symm⟩ (h _ (f D d));exact i.ok.Bm.rcv _ v _ (f D d) y u (by rw[z3,S])
   simp only[mX,ae,ec,o,r,toNat_natCast,s,getD_some];simp;omega
  have⟨z,j,e,d,u,O,o,r,S,T,_⟩:=r1 k g;have⟨z',M,e',w,U,B,af,ah,W,X,_⟩:=r1 H L;simp only[d,w,T,X]at K;have Y:j=M:=Zaa
  subst Y;rw[O]at B;cases B;have:=i.ok.Bm.rcv _ (f D d) _ (f D w) u U (by rw[<-S,W])
  simp only[bf.mk.injEq]at this;omega
 refine GN (λk=>match P.events.l[k]?with|some e=>((gM t 3 e.message).index-1).toNat|none=>0) (λk g=>?_) λk H g L K=>?_
 .have⟨e,j,z,d,u,O,o,r,S,T,h8⟩:=F k g;rw[d];simp only[T];rw[show((j:Int)+1-1).toNat=j from Zaa]
  exact vE.2 ⟨Zaa,z,O,by simp[zg,o,r]⟩
 have⟨e,j,z,d,u,O,o,r,S,T,_⟩:=F k g;have⟨e',M,z',w,U,B,af,ah,W,X,_⟩:=F H L;simp only[d,w,T,X]at K;have Y:j=M:=Zaa
 subst Y;rw[O]at B;cases B;have:=i.ok.Bm.snd _ (f J d) _ (f J w) u U (by rw[<-S,W])
 simp only[bf.mk.injEq]at this;omega
theorem HF{t:Z4}(d:VT t){A:cH 200 bM}(f:iW t (bY t) A){c:SW}(g:Cons t A c){p q:Nat}{P Q:bX}{a b:Int}(B:t.procs.l[p]?=some P)(D:t.procs.l[q]?=some Q)(G:c[p]?=some a)(J:c[q]?=some b):
 under t c p q=((P.events.l.take a.toNat).countP λe=>ec q e&&mX t c e:Nat):=by
 unfold under;rw[B,D,G,J];dsimp only;rw[UA d f g B D G J,BM (ec q) (mX t c)];omega
theorem fC{σ ε ρ γ:Type}{step:σ->a_ (Fw σ ε ρ)}{B:ε->a_ γ}{fr:ρ->a_ γ}{P:γ->Prop}(n:Nat)(I:Nat->σ->Prop){s:σ}(c:I 0 s)
 (h:∀i s,i<n->I i s->Wp (step s) λw=>match w with|.n D=>I (i+1) D|.x e=>Wp (B e) P|.r b=>Wp (fr b) P)
 (G:∀s,I n s->Wp (step s) λw=>match w with|.n _=>False|.x e=>Wp (B e) P|.r b=>Wp (fr b) P):Wp ((bQ step s).bind (Fw.elim B fr)) P:=by
 have key:∀m i s,i+m=n->I i s->Wp ((bQ step s).bind (Fw.elim B fr)) P:=by
  intro m
  induction m with
  |zero=>intro i s d z;have⟨w,u,a⟩:=G s Zac;rw[fq,u];cases w with|n D=>grind|x e=>exact a|r b=>exact a
  |succ m C=>intro i s d z;have⟨w,u,a⟩:=h i s Zaa z;rw[fq,u];cases w with|n D=>grind|x e=>exact a|r b=>exact a
 exact key n 0 s (Nat.zero_add n) c
theorem zO:∀{c:SW}{p:Nat}{a b:Int},c[p]?=some a->(c.set p b).sum=c.sum-a+b
 |[],_,_,_,h=>Zad|x::c,0,a,b,h=>Zac|x::c,p+1,a,b,h=>by have:=zO (b:=b) (by simpa using h);grind
theorem rJ:∀{c:SW},(∀(p:Nat)a,c[p]?=some a->0<=a)->0<=c.sum
 |[],_=>Zab|x::c,h=>by have b:=h 0 x rfl;have u:=rJ (c:=c) λp a w=>h (p+1) a Zac;grind
theorem Ki:∀{c:SW},(∀(p:Nat)a,c[p]?=some a->0<=a)->c.sum=0->∀(p:Nat)a,c[p]?=some a->a=0
 |[],_,_,p,a,B=>Zad|x::c,h,D,p,a,B=>by have d:=h 0 x rfl;have b:∀(p:Nat)a,c[p]?=some a->0<=a:=λp a B=>h (p+1) a Zac;have u:=rJ b;simp at D;cases p with|zero=>grind|succ p=>exact Ki b Zaa p a Zac
theorem LO:∀{c:SW}{l:S'},c.length=l.length->(∀(i:Nat)a b,c[i]?=some a->l[i]?=some b->a<=(b:Nat))->c.sum<=(l.sum:Nat)
 |[],[],_,_=>Zab|x::c,y::l,B,h=>by have d:=h 0 x y rfl rfl;have u:=LO (c:=c) (l:=l) Zac λi a b w z=>h (i+1) a b Zac Zac;grind
section
variable{t:Z4}{A:cH 200 bM}{c:SW}
theorem rj.pos(h:rj t c)(p:Nat)(a:Int)(B:c[p]?=some a):0<=a:=(h.2 p a _ B (ζd (by have:=(ζe.1 B).1;rw[<-h.1];simp_all))).1
theorem rj.at_(h:rj t c){p:Nat}(hp:p<t.procs.l.length):∃a,c[p]?=some a:=⟨_,ζd (by rw[h.1];omega)⟩
theorem rj.sum(h:rj t c):0<=c.sum/\c.sum<=(s9 t:Nat):=
 ⟨rJ h.pos,LO (by simp[h.1]) λi a b z u=>by
  cases w:t.procs.l[i]?with
  |none=>grind|some P=>simp[w]at u;rw[<-u];exact(h.2 i a P z w).2⟩
theorem rj.set(h:rj t c){p:Nat}{b:Int}{P:bX}(B:t.procs.l[p]?=some P)(d:0<=b)(e:b<=P.events.l.length):rj t (c.set p b):=by refine⟨by simp[h.1],λq a Q u w=>?_⟩;rw[getElem?_set]at u;split at u;grind;exact h.2 q a Q u w
def Sh(t:Z4)(A:cH 200 bM)(c:SW)(p:Nat):Prop:=∃P e a,t.procs.l[p]?=some P/\c[p]?=some a/\P.events.l[a.toNat]?=some e/\(e.kind=3->∃b,c[(ag A e.message).from_.proc.toNat]?=some b/\(ag A e.message).from_.index<=b)
theorem mM.one{p k:Nat}{e f:WF}(h:mM t p k e)(g:mM t p k f):e=f:=by have⟨P,u,w⟩:=h;have⟨Q,z,B⟩:=g;grind
theorem pF.le(h:pF t A c){p:Nat}{a b:Int}(D:c[p]?=some a)(J:a<=b)(U:∀(k:Nat)e,mM t p k e->a<=k->(k:Int)<b->e.kind=3->∃B,(c.set p b)[(ag A e.message).from_.proc.toNat]?=some B/\(ag A e.message).from_.index<=B):pF t A (c.set p b):=by
 have I:=(ζe.1 D).1;have up:∀(q:Nat)x,c[q]?=some x->∃y,(c.set p b)[q]?=some y/\x<=y:=λq x u=>by rw[getElem?_set];grind
 intro q k e x w u d G;rw[getElem?_set]at u;have old:∀x,c[q]?=some x->k<x->∃B,(c.set p b)[(ag A e.message).from_.proc.toNat]?=some B/\(ag A e.message).from_.index<=B:=λx u d=>by have⟨y,L,O⟩:=h q k e x w u d G;have⟨z,Q,S⟩:=up _ y L;exact⟨z,Q,Zaa⟩
 split at u;rename_i T;subst T;simp[I]at u;subst u;by_cases C:k<a;exact old a D C;exact U k e w Zaa d G;grind
theorem zP(a:VT t)(b:iW t (bY t) A){p k:Nat}{e:WF}(B:mM t p k e)(D:e.kind=3):∃q j:Nat,(ag A e.message).from_=⟨q,j+1⟩/\q≠p/\Iw t ⟨q,j+1⟩ ⟨p,k+1⟩/\∃y,mM t q j y:=by have⟨q,j,y,u,z,C,y3,y4,y5⟩:=Dd a b B D;have w:(⟨p,k+1⟩,e)∈bY t:=dR.2 ⟨p,k,B,rfl⟩;refine⟨q,j,y5,?_,⟨y,e,dR.2 ⟨q,j,u,rfl⟩,w,z,D,C⟩,y,u⟩;rcases a.formed _ w with h|⟨_,_,_,h,_⟩;grind;grind
theorem Cons.up(g:VT t)(i:iW t (bY t) A)(d:Cons t A c){p:Nat}{a:Int}{P:bX}(B:t.procs.l[p]?=some P)(D:c[p]?=some a)(U:a<P.events.l.length):Sh t A c p↔Cons t A (c.set p (a+1)):=by have l:=d.1.pos p a D;have W:=(ζe.1 D).1;constructor;rintro⟨Q,e,x,G,I,L,w⟩;rw[B]at G;cases G;rw[D]at I;cases I;refine⟨d.1.set B Zaa Zaa,d.2.le D Zaa λk f z O S X=>?_⟩;have C:k=a.toNat:=Zaa;subst C;cases z.one ⟨P,B,L⟩;grind;intro h;have u:a.toNat<P.events.l.length:=Zaa;refine⟨P,P.events.l[a.toNat],a,B,D,ζd u,λw=>?_⟩;have⟨b,J,T⟩:=h.2 p a.toNat _ (a+1) ⟨P,B,ζd u⟩ Zad Zaa w;rw[getElem?_set]at J;split at J;have⟨q,j,m,n,_⟩:=zP g i ⟨P,B,ζd u⟩ w;grind;grind
noncomputable def JV (t:Trace) (x:bf):Nat:=by
 classical
 exact(bY t).countP λz=>decide (Way t z.1 x)
theorem LP (hV:VT t) {x y:bf} (h:Way t x y):JV t x<JV t y:=by
 classical
 refine B0 (λz _ u=>?_) ?_
 .have u:Way t z.1 x:=by grind
  simpa using u.trans h
 obtain⟨e,w⟩:=h.l;exact⟨(x,e),w,by simpa using λk=>hV.ok.acyc ⟨x,k⟩,by grind⟩
theorem V3 (x:bf):JV t x<=(bY t).length:=by
 classical
 unfold JV;grind
theorem Vd.of{p k:Nat}{e:WF}(h:mM t p k e):Vd t ⟨p,k+1⟩:=⟨e,dR.2 ⟨p,k,h,rfl⟩⟩
theorem I4{p:Nat}{P:bX}(B:t.procs.l[p]?=some P):∀(d k:Nat),k+d+1<P.events.l.length->Way t ⟨p,k+1⟩ ⟨p,((k+d+1:Nat):Int)+1⟩
 |0,k,h=>.single ⟨Vd.of ⟨P,B,ζd Zaa⟩,Vd.of ⟨P,B,ζd h⟩,.inl Zab⟩|d+1,k,h=>(I4 B d k Zaa).tail ⟨Vd.of ⟨P,B,ζd (show k+d+1<_ by omega)⟩,Vd.of ⟨P,B,ζd h⟩,.inl (by simp;omega)⟩
theorem XI{q k:Nat}{b:Int}{Q:bX}{x:bf}(B:t.procs.l[q]?=some Q)(h:Way t x ⟨q,k+1⟩)(a:(k:Int)<b)(D:b<=Q.events.l.length):Way t x ⟨q,b⟩:=by by_cases e:b=k+1;grind;have:=I4 B (b.toNat-k-2) k Zaa;rw[show((k+(b.toNat-k-2)+1:Nat)+1)=b from Zaa]at this;exact h.trans this
theorem Cons.Lt(f:VT t)(g:iW t (bY t) A)(d:Cons t A c){p:Nat}{a:Int}(D:c[p]?=some a)(m:0<a):Cons t A (c.set p (a-1))\/∃(q:Nat)(b:Int),c[q]?=some b/\0<b/\Way t ⟨p,a⟩ ⟨q,b⟩:=by
 have Y:=(ζe.1 D).1;have L:=ζd (show p<t.procs.l.length by rw[<-d.1.1];omega);have n:=d.1.2 p a _ D L;refine byContradiction λB=>B (.inl ⟨d.1.set L Zaa Zaa,λq k e x u I o O=>?_⟩);obtain⟨z,w,Z⟩:∃z,c[q]?=some z/\x<=z:=by rw[getElem?_set]at I;split at I;(next e2=>subst e2;simp[Y]at I;exact⟨a,D,Zaa⟩);grind
 have⟨y,G,C⟩:=d.2 q k e z u w Zaa O;have⟨r,j,h,s,i,_⟩:=zP f g u O;rw[h]at G C⊢;simp only[toNat_natCast]at G C⊢;by_cases e2:p=r;subst e2;rw[D]at G;cases G;refine⟨a-1,Zad,?_⟩;refine byContradiction λv=>B (.inr ⟨q,z,w,Zaa,?_⟩);have:a=j+1:=Zaa;subst this;have⟨Q,S,_⟩:=u;have J:=d.1.2 q z Q w S;have⟨T,U,W,X,l⟩:=i;exact XI S (.single ⟨⟨T,W⟩,⟨U,X⟩,.inr ⟨T,U,W,X,l⟩⟩) Zaa J.2;simp_all
theorem Cons.Yt(d:VT t)(f:iW t (bY t) A)(g:Cons t A c):∀(n p:Nat)(a:Int),c[p]?=some a->0<a->(bY t).length-JV t ⟨p,a⟩<=n->∃(q:Nat)(b:Int),c[q]?=some b/\0<b/\Cons t A (c.set q (b-1)):=by
 intro n
 induction n with
 |zero=>intro p a u e B;rcases g.Lt d f u e with h|⟨q,b,_,_,w⟩;grind;have:=LP d w;have:=V3 (t:=t) ⟨q,b⟩;omega
 |succ n C=>intro p a u e B;rcases g.Lt d f u e with h|⟨q,b,D,z,w⟩;grind;have:=LP d w;exact C q b D z Zaa
theorem Cons.down(e:VT t)(f:iW t (bY t) A)(d:Cons t A c)(B:0<c.sum):∃(q:Nat)(b:Int),c[q]?=some b/\0<b/\Cons t A (c.set q (b-1)):=by
 obtain⟨p,a,u,g⟩:∃(p:Nat)(a:Int),c[p]?=some a/\0<a:=by refine byContradiction λw=>?_;have C:∀a∈c,a=0:=λa u=>(by have⟨p,z⟩:=mem_iff_getElem?.1 u;have:=d.1.pos p a z;grind);have:c.sum=0:=(by clear d B w;induction c with|nil=>rfl|cons x c D=>simp_all);omega
 exact d.Yt e f _ p a u g (le_refl _)
theorem Cons.Hg(a:VT t)(e:iW t (bY t) A):∀(d:Nat){c:SW}{k:Nat},Cons t A c->c.sum=((k+d:Nat):Int)->∃c',Cons t A c'/\c'.sum=(k:Int)
 |0,c,k,hC,D=>⟨c,hC,Zac⟩|d+1,c,k,hC,D=>by have⟨q,b,G,J,B⟩:=hC.down a e Zaa;exact Cons.Hg a e d B (by rw[zO G];omega)
end
theorem gE{α:Type}{s:Sl α}{n:Nat}(h:n<s.l.length):decide ((n:Int)<len s)=true:=by simp[len];omega
theorem iA{α:Type}{s:Sl α}:decide ((s.l.length:Int)<len s)=false:=by simp[len]
theorem Cb{α:Type}{s x:Sl α}(h:s.l.length+x.l.length<=2147483648):∃r,oG s x=some r/\r.l=s.l++x.l:=by unfold oG;by_cases e:x.l=[];rw[if_pos e];exact⟨s,rfl,by rw[e,List.append_nil]⟩;rw[if_neg e,if_pos h];exact⟨_,rfl,rfl⟩
theorem tI{α:Type}{s:Sl α}{x:α}(h:s.l.length<2147483648):∃r,eU s x=some r/\r.l=s.l++[x]:=by unfold eU;rw[if_pos Zaa];exact⟨_,rfl,rfl⟩
theorem Ou{α:Type}{s:Sl α}{p:Nat}(h:p<s.l.length):Sl.pP s (p:Int)=some p:=by unfold Sl.pP;rw[if_pos ⟨Zaa,by simpa using h⟩];rfl
theorem put_eq{α:Type}{s:Sl α}{p:Nat}{x:α}(h:p<s.l.length):∃r,Sl.put s p x=some r/\r.l=s.l.set p x:=by unfold Sl.put;rw[if_pos h];exact⟨_,rfl,by cases s<;>first|rfl|(simp[Sl.l]at h)⟩
section
variable{t:Z4}{A:cH 200 bM}
def ClN(t:Z4)(A:cH 200 bM)(c:SW)(n:Nat):Prop:=∀(p k:Nat)(e:WF)(a:Int),p<n->mM t p k e->c[p]?=some a->(k:Int)<a->e.kind=3->∃b,c[(ag A e.message).from_.proc.toNat]?=some b/\(ag A e.message).from_.index<=b
theorem XM(i:Small t)(d:VT t)(l:iW t (bY t) A){c:Zg}(Y:rj t c.l):Wp (dX t c) λb=>(b=true↔pF t A c.l):=by
 have F:=Y.1;have H:=d.few;unfold dX dX.W1;refine fC c.l.length (λn s=>s=(n:Int)/\ClN t A c.l n) ⟨rfl,λp k e a h=>absurd h Zaa⟩ ?_ ?_;rintro n _ B ⟨rfl,T⟩;unfold dX.bn;rw[gE B,bE];have z:n<t.procs.l.length:=by omega
 have K:=(i.2 _ (getElem_mem z)).1;have C:=ζd z;have D:=ζd B;have⟨r1,r2⟩:=Y.2 n _ _ D C;have J:=bF B;generalize c.l[n]=a at *;generalize t.procs.l[n]=P at *;unfold dX.W2;refine fC a.toNat (λm s=>s=(m:Int)/\∀(k:Nat)(e:WF),k<m->mM t n k e->e.kind=3->∃b,c.l[(ag A e.message).from_.proc.toNat]?=some b/\(ag A e.message).from_.index<=b) ⟨rfl,λk e h=>absurd h Zaa⟩ ?_ ?_;rintro m _ M ⟨rfl,U⟩;unfold dX.bV;have L:m<P.events.l.length:=by omega
 have u:mM t n m P.events.l[m]:=⟨P,C,ζd L⟩;rw[J,ζb,show decide ((m:Int)<a)=true from by simp;omega,bE,jd,C,ζb,bF L,ζb,cF m Zaa];generalize P.events.l[m]=e at *;have more:(e.kind=3->∃b,c.l[(ag A e.message).from_.proc.toNat]?=some b/\(ag A e.message).from_.index<=b)->∀(k:Nat)(e:WF),k<m+1->mM t n k e->e.kind=3->∃b,c.l[(ag A e.message).from_.proc.toNat]?=some b/\(ag A e.message).from_.index<=b:=λh k f o Z w=>by by_cases r:k=m;subst r;cases u.one Z;exact h w;exact U k f Zaa Z w
 rw[ct];refine⟨λw=>?_,λw=>(bh _).2 ⟨rfl,more λk=>by simp[k]at w⟩⟩;have w:e.kind=3:=by simpa using w
 have⟨q,j,g,_,_,y,Q,v,_⟩:=zP d l u w;have G:q<c.l.length:=by have:=(ζe.1 v).1;omega
 rw[find_eq i,Hz d l u w,ζb,g];simp only;rw[bF G,ζb,ct];refine⟨λW=>(bh _).2 ((bh _).2 ((bh _).2 ⟨λh=>(by cases h),λE=>?_⟩)),λX=>(bh _).2 ⟨rfl,more λ_=>?_⟩⟩;have⟨b,O,S⟩:=E n m e a u D Zaa w;rw[g]at O S;simp only[toNat_natCast,ζd G,ζa]at O S;simp only[decide_eq_true_eq]at W;omega;rw[g];exact⟨c.l[q],by simp only[toNat_natCast];exact ζd G,by simp at X⊢;omega⟩;rintro _ ⟨rfl,U⟩;unfold dX.bV;rw[J,ζb,show decide ((a.toNat:Int)<a)=false from by simp;omega,bJ];refine(bh _).2 ((bh _).2 ⟨cF n Zaa,λp k e x hp u I o w=>?_⟩);by_cases e2:p=n;subst e2;rw[D]at I;cases I;exact U k e Zaa u w;exact T p k e x Zaa u I o w;rintro _ ⟨rfl,T⟩;unfold dX.bn;rw[iA,bJ];exact(bh _).2 ((bh _).2 ⟨λ_ p k e a u I=>T p k e a (ζe.1 I).1 u I,λ_=>rfl⟩)
theorem YA(a:Small t)(d:VT t)(e:iW t (bY t) A){c:Zg}(B:c.l.length=t.procs.l.length):Wp (yj t c) λb=>(b=true↔Cons t A c.l):=by unfold yj;rw[eW];refine(VN a B).mono λb w=>?_;rw[eW,ct];constructor;intro h;have z:=w.1 h;rw[eW];refine(XM a d e z).mono λC u=>?_;rw[bh,bh];exact u.trans ⟨λh=>⟨z,h⟩,λh=>h.2⟩;intro h;rw[bh,bh];exact⟨λh=>(by cases h),λf=>absurd (w.2 f.1) (by simp[h])⟩
theorem step_eq{c:Zg}{p:Nat}{a:Int}(B:c.l[p]?=some a)(G:c.l.length<=1073741824)(b:0<=a)(e:a<1073741824):∃d:Zg,sD c p=some d/\d.l=c.l.set p (a+1):=by have w:=(ζe.1 B).1;unfold sD;have⟨r,z,u⟩:=Cb (s:=Sl.row []) (x:=c) (show 0+c.l.length<=_ by omega);have u:r.l=c.l:=u;rw[z,ζb,Ou (by rw[u];exact w),ζb];unfold Sl.get;rw[u,B,ζb,ζb,gW _ Zaa Zaa];have⟨d,C,D⟩:=put_eq (s:=r) (p:=p) (x:=a+1) (by rw[u];exact w);rw[C];exact⟨d,rfl,by rw[D,u]⟩
end
def ins(s:Zb):aZ SW:=s.l.map Sl.l
theorem La{α:Type}(s:Sl α)(i:Nat)(h:i<=s.l.length):∃x,h_ s (some (i:Int)) none=some x/\x.l=s.l.drop i:=by unfold h_ dZ;simp only[getD_some,getD_none];rw[if_pos ⟨Zaa,Zaa,Zaa⟩];exact⟨_,rfl,by cases s<;>simp[Sl.l]⟩
def C5(t:Z4)(A:cH 200 bM)(c d:SW):Prop:=∃(p:Nat)(a:Int),c[p]?=some a/\d=c.set p (a+1)/\Cons t A d
section
variable{t:Z4}{A:cH 200 bM}
theorem nX{s:Zb}{d:SW}:d∈ins s↔∃x∈s.l,x.l=d:=by unfold ins;exact mem_map
theorem LJ{r s:Zb}{x:Zg}(h:r.l=s.l++[x]){d:SW}:d∈ins r↔d∈ins s\/d=x.l:=by unfold ins;rw[h];simp
theorem Uv(f:Small t)(g:VT t)(j:iW t (bY t) A){c:Zg}(i:Cons t A c.l):Wp (jW t c) λr=>r.l.length<=8/\∀d,d∈ins r↔C5 t A c.l d:=by
 have O:=i.1.1;have W:=g.few;unfold jW jW.W1;refine fC c.l.length (λn s=>s.2=(n:Int)/\s.1.l.length<=n/\∀d,d∈ins s.1↔∃(p:Nat)(a:Int),p<n/\c.l[p]?=some a/\d=c.l.set p (a+1)/\Cons t A d) ⟨rfl,le_refl _,λd=>⟨λh=>by simp[ins,Sl.l]at h,λ⟨p,a,h,_⟩=>absurd h Zaa⟩⟩ ?_ ?_;rintro n ⟨out,_⟩ B ⟨h,u,G⟩;simp only at h u G;subst h;have w:n<t.procs.l.length:=by omega
 have X:=(f.2 _ (getElem_mem w)).1;have z:=ζd B;have l:=i.1.2 n _ _ z (ζd w);unfold jW.bn;rw[gE B,bE,bF B,ζb,bF w,ζb,cF n Zaa];generalize c.l[n]=a at *;have keep:¬Cons t A (c.l.set n (a+1))->∀d,d∈ins out↔∃(p:Nat)(a:Int),p<n+1/\c.l[p]?=some a/\d=c.l.set p (a+1)/\Cons t A d:=λQ d=>by rw[G];refine⟨λ⟨p,b,h,k⟩=>⟨p,b,Zaa,k⟩,λ⟨p,b,h,k1,I,L⟩=>⟨p,b,?_,k1,I,L⟩⟩;refine byContradiction λZ=>Q ?_;have:p=n:=Zaa;subst this;rw[z]at k1;cases k1;rw[<-I];exact L
 by_cases C:a<t.procs.l[n].events.l.length;have⟨d,hd,D⟩:=step_eq (c:=c) z Zaa l.1 Zaa;rw[show decide (a<(len t.procs.l[n].events))=true from by simpa[len]using C,bE,hd,ζb,eW,eW];refine(YA f g j (c:=d) (by rw[D,List.length_set];exact O)).mono λb S=>?_;rw[D]at S;rw[bh,ct];constructor;intro Y;have⟨r,T,J⟩:=tI (s:=out) (x:=d) Zaa;rw[ζb,T,ζb,bh];refine⟨rfl,by rw[J];simp;omega,λe=>?_⟩;rw[LJ J,G,D];constructor;rintro(⟨p,b,h,k⟩|h);exact⟨p,b,Zaa,k⟩;exact⟨n,a,Zaa,z,h,by rw[h];exact S.1 Y⟩;rintro⟨p,b,h,k1,I,L⟩;by_cases e2:p=n;subst e2;rw[z]at k1;cases k1;exact .inr I;exact .inl ⟨p,b,Zaa,k1,I,L⟩;intro U;exact(bh _).2 ⟨rfl,Nat.le_succ_of_le u,keep λh=>by rw[S.2 h]at U;cases U⟩;rw[show decide (a<(len t.procs.l[n].events))=false from by simpa[len]using C,bJ,ζb,bJ,bh];refine⟨rfl,Nat.le_succ_of_le u,keep λh=>?_⟩;have:=h.1.2 n (a+1) _ (by simp[getElem?_set,B]) (ζd w);omega;rintro⟨out,_⟩ ⟨h,u,G⟩;simp only at h u G;subst h;unfold jW.bn;rw[iA,bJ,bh];refine(bh _).2 ⟨show out.l.length<=8 by omega,λd=>(G d).trans ⟨λ⟨p,a,_,h⟩=>⟨p,a,h⟩,λ⟨p,a,h⟩=>⟨p,a,(ζe.1 h.1).1,h⟩⟩⟩
def AI(t:Z4)(A:cH 200 bM)(k:Nat)(s:Zb):Prop:=∀d,d∈ins s↔Cons t A d/\d.sum=(k:Int)
theorem C5.iff(g:VT t)(h:iW t (bY t) A){k:Nat}{d:SW}:(∃c,(Cons t A c/\c.sum=(k:Int))/\C5 t A c d)↔Cons t A d/\d.sum=((k+1:Nat):Int):=by
 constructor;rintro⟨c,⟨f,B⟩,p,a,C,rfl,u⟩;exact⟨u,by rw[zO C];omega⟩;rintro⟨u,B⟩;have⟨q,b,w,D,f⟩:=u.down g h Zaa;have z:=(ζe.1 w).1;refine⟨_,⟨f,by rw[zO w];omega⟩,q,b-1,by simp[z],?_,u⟩;rw[List.set_set,show b-1+1=b from Zaa];refine ext_getElem? λi=>?_;rw[getElem?_set];split;next e=>subst e;simp[z,w];exact(ζe.1 w).2.symm▸rfl
 rfl
theorem xx{s:Zb}{n:Nat}(h:n<s.l.length){d:SW}:d∈(s.l.take (n+1)).map Sl.l↔d∈(s.l.take n).map Sl.l\/d=s.l[n].l:=by rw[show s.l.take (n+1)=s.l.take n++[s.l[n]]from by rw[take_add_one,ζd h];rfl];simp only[map_append,mem_append,map_cons,map_nil,mem_singleton]
theorem LG:∀n:Nat,(replicate n (0:Int)).sum=0
 |0=>rfl|n+1=>by rw[List.replicate_succ,sum_cons,LG n];rfl
theorem Nc:Cons t A (replicate t.procs.l.length 0):=by
 have w:∀(p:Nat)a,(replicate t.procs.l.length (0:Int))[p]?=some a->a=0:=λp a h=>by rw[List.getElem?_replicate]at h;split at h<;>cases h;rfl
 exact⟨⟨Zab,λp a P u _=>by rw[w p a u];omega⟩,λp k e a _ u b=>by rw[w p a u]at b;omega⟩
theorem WX{z:Zg}(B:z.l=replicate t.procs.l.length 0):AI t A 0 (Sl.row [z]):=by
 intro d;have:d∈ins (Sl.row [z])↔d=replicate t.procs.l.length 0:=by unfold ins;rw[<-B];exact mem_singleton
 rw[this];constructor;rintro rfl;exact⟨Nc,by rw[LG];rfl⟩;rintro⟨a,u⟩;refine ext_getElem? λi=>?_;rw[List.getElem?_replicate,<-a.1.1];split;next b=>have h:=ζd b;rw[h,Ki a.1.pos (by simpa using u) i _ h]
 exact getElem?_eq_none Zaa
theorem AI.none(a:VT t)(b:iW t (bY t) A){k:Nat}{s:Zb}(h:AI t A k s)(D:s.l.length=0){d:SW}(B:Cons t A d):d.sum<(k:Int):=by refine byContradiction λu=>?_;have f:=rJ B.1.pos;have⟨c,e,w⟩:=Cons.Hg a b (d.sum.toNat-k) (k:=k) B Zaa;have:=(h c).2 ⟨e,w⟩;have⟨x,z,_⟩:=nX.1 this;have:=List.length_pos_of_mem z;omega
theorem AI.last{s:Zb}(h:AI t A (s9 t+1) s):s.l.length=0:=by refine byContradiction λu=>?_;have w:=getElem_mem (show 0<s.l.length by omega);have:=(h s.l[0].l).1 (nX.2 ⟨_,w,rfl⟩);have:=this.1.1.sum;omega
theorem Ec{α:Type}(s:Sl α):decide ((len s)>0)= !decide (s.l.length=0):=by by_cases h:s.l.length=0;simp[len,h];simp[h,len];omega
end
def gb:SW->SW->Int
 |[],[]=>0|[],_::_=>-1|_::_,[]=>1|x::a,y::b=>if x<y then -1 else if x>y then 1 else gb a b
theorem yE:∀a,gb a a=0
 |[]=>rfl|x::a=>by simp[gb,yE a]
theorem Ct:∀a b c,gb a b<0->gb b c<0->gb a c<0
 |[],[],_,h,_=>by simp[gb]at h|[],_::_,[],_,h=>by simp[gb]at h|[],_::_,_::_,_,_=>by simp[gb]|_::_,[],_,h,_=>by simp[gb]at h|_::_,_::_,[],_,h=>by simp[gb]at h|x::a,y::b,z::c,h1,B=>by have D:=Ct a b c;simp only[gb]at h1 B⊢;split at h1;split at B;rw[if_pos Zaa];omega;split at B;omega;rw[if_pos Zaa];omega;split at h1;omega;split at B;rw[if_pos Zaa];omega;split at B;omega;rw[if_neg Zaa,if_neg Zaa];exact D h1 B
theorem zk:∀a b,¬gb a b<0->¬gb b a<0->a=b
 |[],[],_,_=>rfl|[],_::_,h,_=>by simp[gb]at h|_::_,[],_,h=>by simp[gb]at h|x::a,y::b,h1,B=>by have D:=zk a b;simp only[gb]at h1 B;split at h1;omega;split at B;omega;rw[D (by first|assumption|(split at h1<;>first|assumption|omega)) (by first|assumption|(split at B<;>first|assumption|omega)),show x=y from Zaa]
theorem S5(a b c:SW)(d:¬gb a b<0)(B:¬gb b c<0):¬gb a c<0:=λh=>by by_cases u:gb b a<0;exact B (Ct b a c u h);rw[zk a b d u]at h;exact B h
theorem RQ{α:Type}{s:Sl α}{p:α->α->QR}{f:α->SW}(hp:∀x y,x∈s.l->y∈s.l->p x y=some (gb (f x) (f y)))(U:s.l.length<2147483648):∃r,zN s p=some r/\r.l.Perm s.l/\r.l.Pairwise λx y=>¬gb (f y) (f x)<0:=by
 unfold zN;split;next h=>exact⟨s,rfl,List.Perm.refl _,by rw[h];exact Pairwise.nil⟩
 rename_i x l h;rw[if_pos (by rw[h]at U;simp at U;omega)];simp only;have S:∀i j:_root_.Fin (l.length+1),p (x::l)[i.1] (x::l)[j.1]=some (gb (f (x::l)[i.1]) (f (x::l)[j.1])):=λi j=>hp _ _ (by rw[h];exact getElem_mem _) (by rw[h];exact getElem_mem _);have C:(qI λi j:_root_.Fin (l.length+1)=>p (x::l)[i.1] (x::l)[j.1])=λi j=>decide (gb (f (x::l)[i.1]) (f (x::l)[j.1])<0):=by funext i j;unfold qI;show decide ((p _ _).getD 0<0)=_;rw[S];rfl
 have D:Cl (λi j:_root_.Fin (l.length+1)=>p (x::l)[i.1] (x::l)[j.1])=true:=by have u:∀i j,qI (λi j:_root_.Fin (l.length+1)=>p (x::l)[i.1] (x::l)[j.1]) i j=decide (gb (f (x::l)[i.1]) (f (x::l)[j.1])<0):=λi j=>(by rw[C]);refine all_eq_true.2 λi _=>Bool.and_eq_true_iff.2 ⟨by rw[u,yE];rfl,all_eq_true.2 λj _=>Bool.and_eq_true_iff.2 ⟨by show(p _ _).isSome=true;rw[S];rfl,all_eq_true.2 λk _=>Bool.and_eq_true_iff.2 ⟨?_,?_⟩⟩⟩;have:=Ct (f (x::l)[i.1]) (f (x::l)[j.1]) (f (x::l)[k.1]);rw[u,u,u];simp only[or_eq_true,not_eq_true',Bool.and_eq_false_iff,decide_eq_true_eq,decide_eq_false_iff_not];omega;have:=S5 (f (x::l)[i.1]) (f (x::l)[j.1]) (f (x::l)[k.1]);rw[u,u,u];simp only[or_eq_true,not_eq_true',decide_eq_true_eq,decide_eq_false_iff_not];omega
 rw[if_pos D];have G:=(rW D).2;have J:=Sort.pdq_sorts _ G (finRange (l.length+1)).toArray 0 (l.length+1) (Lib.bitLen (l.length+1)) true true (zero_le _) Zab (Or.inl rfl);rw[<-Dk]at J;generalize rY l.length _=d at J;have⟨⟨z,_,w⟩,B⟩:=J;have z:d.size=l.length+1:=by simpa using z
 have I:∀y:aZ α,(s.re y).l=y:=λy=>by cases s<;>first|rfl|(simp[Sl.l]at h)
 refine⟨_,rfl,?_,?_⟩;rw[I,h];have a:d.extract 0 (l.length+1)=d:=Array.ext (by simp[z]) λi a L=>by simp
 rw[a]at w;have L:((finRange (l.length+1)).toArray.extract 0 (l.length+1)).toList=finRange (l.length+1):=by simp[List.take_of_length_le]
 rw[L]at w;refine(w.map _).trans ?_;rw[show(finRange (l.length+1)).map (λi=>(x::l)[i.1])=x::l from ?_];exact List.ext_getElem Zab λi a L=>Zab;rw[I,pairwise_map,List.pairwise_iff_getElem];intro i j b O Q;have:=B i j (zero_le _) Q (by simpa[z]using O);rw[C]at this;simp only[Array.length_toList]at b O;simp only[getElem!_pos d i b,getElem!_pos d j O,decide_eq_false_iff_not]at this;simpa using this
theorem SJ{α:Type}{s:Sl α}{p:α->α->a_ X'}{f:α->SW}(hp:∀x y,x∈s.l->y∈s.l->p x y=some (decide (f x=f y)))(m:s.l.length<2147483648)(g:s.l.Pairwise λx y=>¬gb (f y) (f x)<0):
 ∃r,yS s p=some r/\(r.l.map f).Nodup/\(∀d,d∈r.l.map f↔d∈s.l.map f)/\r.l.length<=s.l.length:=by
 have Q:∀i,i<s.l.length->0<i->∃(a:i<s.l.length)(O:i-1<s.l.length),uD s.l p i=some (decide (f s.l[i]=f s.l[i-1])):=λi h n=>by refine⟨h,Zaa,?_⟩;unfold uD;rw[ζd h,ζd (show i-1<s.l.length by omega)];exact hp _ _ (getElem_mem _) (getElem_mem _)
 unfold yS;rw[if_pos ⟨Zaa,all_eq_true.2 λi b=>by
  by_cases h:i=0
  .subst h;rfl
  have⟨_,_,e⟩:=Q i (mem_range.1 b) Zaa
  rw[e];simp⟩]
 have B:∀y:aZ α,(s.l=[]->y=[])->(s.ue y).l=y:=λy z=>by cases s<;>first|rfl|exact(z rfl).symm
 have S:∀i,i∈kept (λi=>(uD s.l p i).getD false) s.l.length↔i<s.l.length/\(i=0\/(uD s.l p i).getD false=false):=λi=>by unfold kept;simp[List.mem_filter]
 have C:=Cq (λi=>(uD s.l p i).getD false) s.l.length
 have T:(kept (λi=>(uD s.l p i).getD false) s.l.length).Pairwise (·<·):=by unfold kept;exact List.pairwise_lt_range.filter _
 generalize kept (λi=>(uD s.l p i).getD false) s.l.length=K at *
 have w:(s.ue (K.filterMap (s.l[·]?))).l=K.filterMap (s.l[·]?):=B _ λh=>by rw[h];simp
 refine⟨_,rfl,?_,λd=>?_,?_⟩
 .rw[w,Nodup,pairwise_map,List.pairwise_filterMap];refine T.imp_of_mem ?_;intro i j b Z o x u y z D;have⟨U,G⟩:=(S j).1 Z;have⟨a,O,e⟩:=Q j U Zaa
  rw[e]at G;have W:¬f s.l[j]=f s.l[j-1]:=by rcases G with h|h;omega;simpa using h
  rw[ζd a]at z;cases z;have I:i<s.l.length:=Zaa
  rw[ζd I]at u;cases u;have J:=List.pairwise_iff_getElem.1 g;have k:=J (j-1) j O a Zaa
  refine W (zk _ _ k ?_)
  by_cases e2:i=j-1
  .subst e2;rw[<-D,yE];omega
  have Y:=J i (j-1) I O Zaa
  rw[D]at Y;exact Y
 .rw[w];simp only[mem_map,List.mem_filterMap];constructor
  .rintro⟨x,⟨i,_,u⟩,rfl⟩;exact⟨x,mem_of_getElem? u,rfl⟩
  rintro⟨x,u,rfl⟩;have⟨i,b⟩:=mem_iff_getElem?.1 u;have key:∀(i:Nat)x,s.l[i]?=some x->∃y,(∃j,j∈K/\s.l[j]?=some y)/\f y=f x:=by intro i;induction i with|zero=>intro x u;exact⟨x,⟨0,(S 0).2 ⟨(ζe.1 u).1,.inl rfl⟩,u⟩,rfl⟩|succ i ih=>intro x u;have L:=(ζe.1 u).1;have⟨a,O,e⟩:=Q (i+1) L Zaa;have X:s.l[i+1]=x:=(ζe.1 u).2;by_cases c:f s.l[i+1]=f s.l[i+1-1];have⟨y,z,l⟩:=ih _ (ζd (show i<s.l.length by omega));exact⟨y,z,by rw[l,<-X];exact c.symm⟩;exact⟨x,⟨i+1,(S _).2 ⟨L,.inr (by rw[e];simpa using c)⟩,u⟩,rfl⟩
  exact key i x b
 rw[w];exact Nat.le_trans (List.length_filterMap_le ..) C
theorem Na{a b:Zg}(J:a.l.length<1073741824):kE a b=some (gb a.l b.l):=by
 refine Wp.eq ?_;unfold kE fJ fJ.W1;rw[eW];refine fC a.l.length (λn s=>s=(n:Int)/\n<=b.l.length/\gb (a.l.drop n) (b.l.drop n)=gb a.l b.l) ⟨rfl,zero_le _,rfl⟩ ?_ ?_;rintro n _ w ⟨rfl,C,u⟩;unfold fJ.bn;rw[gE w,bE,bF w,ζb];have hd:a.l.drop n=a.l[n]::a.l.drop (n+1):=drop_eq_getElem_cons w;by_cases D:n<b.l.length;have G:b.l.drop n=b.l[n]::b.l.drop (n+1):=drop_eq_getElem_cons D;rw[show decide ((n:Int)>=len b)=false from by simp[len];omega,bJ,bF D,ζb];rw[hd,G]at u;simp only[gb]at u;generalize a.l[n]=x at *;generalize b.l[n]=y at *;have z:qO x y=some (if x<y then -1 else if x>y then 1 else 0):=by unfold qO sU;simp only[bne_self_eq_false,ζb,bJ,bE];by_cases c:x<y;simp[c,bl];by_cases B:x>y;simp[c,B,bl];simp[c,B,bl]
 rw[z,ζb];by_cases c:x<y;rw[if_pos c]at u⊢;rw[show((-1:Int)==0)=false from rfl,bJ,bh];exact(bh _).2 ((bh _).2 u);rw[if_neg c]at u⊢;by_cases B:x>y;rw[if_pos B]at u⊢;rw[show((1:Int)==0)=false from rfl,bJ,bh];exact(bh _).2 ((bh _).2 u);rw[if_neg B]at u⊢;rw[show((0:Int)==0)=true from rfl,bE,bh];exact⟨cF n Zaa,D,u⟩;rw[show decide ((n:Int)>=len b)=true from by simp[len];omega,bE,bh];rw[hd,drop_eq_nil_of_le (show b.l.length<=n by omega)]at u;exact(bh _).2 ((bh _).2 u);rintro _ ⟨rfl,C,u⟩;unfold fJ.bn;rw[iA,bJ,bh];rw[drop_eq_nil_of_le (le_refl _)]at u;by_cases h:a.l.length<b.l.length;rw[show decide (len a<len b)=true from by simp[len];omega,bE];rw[drop_eq_getElem_cons h]at u;exact(bh _).2 ((bh _).2 u);rw[show decide (len a<len b)=false from by simp[len];omega,bJ];rw[drop_eq_nil_of_le (show b.l.length<=a.l.length by omega)]at u;exact(bh _).2 ((bh _).2 u)
theorem Q1{a b:Zg}(D:a.l.length<1073741824):fS a b=some (decide (a.l=b.l)):=by
 refine Wp.eq ?_;unfold fS;rw[ct];refine⟨λh=>?_,λh=>(bh _).2 ?_⟩;have h:(a.l.length:Int)=b.l.length:=by simpa[len]using h
 have h:a.l.length=b.l.length:=Zaa;unfold fS.W1;refine fC a.l.length (λn s=>s=(n:Int)/\∀i,i<n->a.l[i]?=b.l[i]?) ⟨rfl,λi h=>absurd h Zaa⟩ ?_ ?_;rintro n _ u ⟨rfl,z⟩;unfold fS.bn;have B:n<b.l.length:=by omega
 rw[show decide ((n:Int)<len a)=true from gE u,bE,bF u,ζb,bF B,ζb,ct];refine⟨λw=>(bh _).2 ⟨cF n Zaa,λi d=>?_⟩,λw=>(bh _).2 ((bh _).2 ?_)⟩;by_cases e:i=n;subst e;rw[ζd u,ζd B];simpa using w;exact z i Zaa;refine(decide_eq_false λe=>?_).symm;have c:a.l[n]?=b.l[n]?:=by rw[e]
 rw[ζd u,ζd B]at c;simp at w c;exact w c;rintro _ ⟨rfl,z⟩;unfold fS.bn;rw[iA,bJ,bh];refine(bh _).2 (decide_eq_true (ext_getElem? λi=>?_)).symm;by_cases d:i<a.l.length;exact z i d;rw[getElem?_eq_none Zaa,getElem?_eq_none Zaa];refine(decide_eq_false λe=>?_).symm;simp[len,e]at h
section
variable{t:Z4}{A:cH 200 bM}
def vY(A:cH 200 bM)(e:WF):bf:=if e.kind=3 then(ag A e.message).from_ else⟨0,0⟩
structure TX(t:Trace)(A:cH 200 bM)(n:Nat)(m:cD):Prop where
 lens:m.lengths.l=(t.procs.l.take n).map λP=>(P.events.l.length:Int)
 need:m.need.l.map Sl.l=(t.procs.l.take n).map λP=>P.events.l.map (vY A)
theorem of_wp(d:Small t)(h:dz t=some true)(f:VT t)(g:iW t (bY t) A):Wp (lC t) (TX t A t.procs.l.length):=by
 have Y:=f.few;unfold lC lC.W1;refine fC t.procs.l.length (λn s=>s.1=(n:Int)/\s.2.1=t/\TX t A n s.2.2.2) ⟨rfl,rfl,rfl,rfl⟩ ?_ ?_;rintro n ⟨_,_,Z,I⟩ z ⟨a,B,u⟩;simp only at a B u;subst a;have B:=B.symm;subst B;unfold lC.bn;rw[gE z,bE,bF z,ζb];have O:=ζd z;have M:=(d.2 _ (getElem_mem z)).1;generalize N:t.procs.l[n]=P at *;unfold lC.W2;refine fC P.events.l.length (λk s=>s.2.1=(k:Int)/\s.2.2.1=t/\s.2.2.2.2=I/\s.1.l=(P.events.l.take k).map (vY A)) ⟨rfl,rfl,rfl,rfl⟩ ?_ ?_;rintro k ⟨nd,_,_,T,_⟩ c ⟨Q,C,D,L⟩;simp only at Q C D L;subst Q;have C:=C.symm;have D:=D.symm;subst C D;unfold lC.bV;rw[gE c,bE,bF c,ζb];have U:mM t n k P.events.l[k]:=⟨P,O,ζd c⟩;have G:P.events.l.take (k+1)=P.events.l.take k++[P.events.l[k]]:=by rw[take_add_one,ζd c];rfl
 generalize P.events.l[k]=e at *;have fin:∀id,id=vY A e->Wp (lC.J3 nd t.procs (len t.procs) n P.events (len P.events) k t ⟨Sl.nil,Sl.nil⟩ I P id) λw=>match w with|.n S=>S.2.1=((k+1:Nat):Int)/\S.2.2.1=t/\S.2.2.2.2=I/\S.1.l=(P.events.l.take (k+1)).map (vY A)|.x e=>False|.r b=>False:=λid W=>by unfold lC.J3;have⟨r,i,l⟩:=tI (s:=nd) (x:=id) (by rw[L];simp;omega);rw[i,ζb,bh];exact⟨cF k Zaa,rfl,rfl,by rw[l,L,G,map_append,W];rfl⟩
 rw[ct];constructor;intro u;have u:e.kind=3:=by simpa using u
 have⟨q,j,y,m,o,p,y3,y4,y5⟩:=Dd f g U u;have X:=GP d h g (dR.2 ⟨q,j,m,rfl⟩:((⟨q,j+1⟩:bf),y)∈bY t) o;simp only at X;rw[p]at X;rw[X,ζb];refine(fin _ (by unfold vY;rw[if_pos u,y5])).mono λw J=>?_;cases w with|n s=>exact J|x e=>exact J.elim|r b=>exact J.elim
 intro u;have u:¬e.kind=3:=by simpa using u
 refine(fin _ (by unfold vY;rw[if_neg u])).mono λw J=>?_;cases w with|n s=>exact J|x e=>exact J.elim|r b=>exact J.elim
 rintro⟨nd,_,_,T,_⟩ ⟨Q,C,D,L⟩;simp only at Q C D L;subst Q;have C:=C.symm;have D:=D.symm;subst C D;unfold lC.bV;have R:I.lengths.l.length=n:=by rw[u.lens];simp;omega
 have V:I.need.l.length=n:=by have:=congrArg List.length u.need;simp at this;omega
 have⟨v,E,F⟩:=tI (s:=I.lengths) (x:=len P.events) Zaa;have⟨x2,H,K⟩:=tI (s:=I.need) (x:=nd) Zaa;rw[iA,bJ,bh];simp only;rw[E,ζb,H,ζb,bh];have G:t.procs.l.take (n+1)=t.procs.l.take n++[P]:=by rw[take_add_one,O];rfl
 refine⟨cF n Zaa,rfl,?_,?_⟩;show v.l=_;rw[F,u.lens,G,map_append];rfl;show x2.l.map Sl.l=_;rw[K,map_append,u.need,G,map_append,map_cons,L,take_length];rfl;rintro⟨_,_,Z,I⟩ ⟨a,B,u⟩;simp only at a B u;subst a;have B:=B.symm;subst B;unfold lC.bn;rw[iA,bJ,bh];exact(bh _).2 u
theorem QY(f:VT t)(g:iW t (bY t) A){m:cD}(n:TX t A t.procs.l.length m){c:Zg}(d:Cons t A c.l){p:Nat}(hp:p<t.procs.l.length):
 Wp (pZ m c p) λb=>(b=true↔∃a,c.l[p]?=some a/\Cons t A (c.l.set p (a+1))):=by
 have ab:=d.1.1;have u:=ζd hp;have⟨a,w⟩:=d.1.at_ hp;have F:=d.1.2 p a _ w u;generalize t.procs.l[p]=P at *;have D:m.lengths.l[p]?=some (P.events.l.length:Int):=by rw[n.lens,take_length,getElem?_map,u];rfl
 have J:=(ζe.1 w).1;have L:idx c (p:Int)=some a:=by rw[jd];exact w
 unfold pZ;rw[L,ζb,jd,D,ζb,ct];constructor
 .intro h;have h:a=P.events.l.length:=by simpa using h
  refine(bh _).2 ⟨λh=>(by cases h),λ⟨b,B,O⟩=>?_⟩
  rw[w]at B;cases B;have:=O.1.2 p (a+1) P (by simp[J]) u
  omega
 intro h;have h:¬a=P.events.l.length:=by simpa using h
 have S:a<P.events.l.length:=Zaa
 have o:=congrArg (λl=>l[p]?) n.need
 simp only[take_length,getElem?_map,u,map_some]at o;have⟨nd,T,U⟩:=ζf.1 o;have z:a.toNat<P.events.l.length:=Zaa
 have H:idx nd a=some (vY A P.events.l[a.toNat]):=by rw[S9 F.1,U,getElem?_map,ζd z];rfl
 rw[jd,T,ζb,ζb,H,ζb];have W:=d.up f g u w S;have G:(∃b,c.l[p]?=some b/\Cons t A (c.l.set p (b+1)))↔Sh t A c.l p:=by rw[W];exact⟨λ⟨b,B,k⟩=>by rw[w]at B;cases B;exact k,λk=>⟨a,w,k⟩⟩
 rw[G];have X:mM t p a.toNat P.events.l[a.toNat]:=⟨P,u,ζd z⟩;have Y:Sh t A c.l p↔(P.events.l[a.toNat].kind=3->∃b,c.l[(ag A P.events.l[a.toNat].message).from_.proc.toNat]?=some b/\(ag A P.events.l[a.toNat].message).from_.index<=b):=⟨λ⟨Q,e,x,r,v,C,K⟩=>by rw[u]at r;cases r;rw[w]at v;cases v;rw[ζd z]at C;cases C;exact K,λh=>⟨P,_,a,u,w,ζd z,h⟩⟩
 rw[Y];generalize P.events.l[a.toNat]=e at *;unfold vY
 by_cases C:e.kind=3
 .rw[if_pos C];have⟨q,j,M,_,_,y,Q,N,_⟩:=zP f g X C;have Z:q<c.l.length:=by have:=(ζe.1 N).1;omega
  rw[M];simp only[toNat_natCast];rw[bF Z,ζb,bh];simp only[decide_eq_true_eq];exact⟨λh _=>⟨_,ζd Z,h⟩,λh=>by have⟨b,B,R⟩:=h C;rw[ζd Z]at B;cases B;exact R⟩
 rw[if_neg C];have E:0<c.l.length:=Zaa
 have I:=d.1.pos 0 _ (ζd E);have V:idx c ((⟨0,0⟩:bf).proc)=some c.l[0]:=bF (s:=c) (i:=0) E;rw[V,ζb,bh];exact⟨λ_ h=>absurd h C,λ_=>by simpa using I⟩
end
theorem Gz{α:Type}:∀l:aZ α,(range l.length).filterMap (l[·]?)=l
 |[]=>rfl|x::l=>by rw[length_cons,List.range_succ_eq_map,List.filterMap_cons,List.filterMap_map];show x::(range l.length).filterMap (λi=>(x::l)[i+1]?)=_;simp only[List.getElem?_cons_succ];rw[Gz l]
theorem VB{α:Type}{s r:Sl α}{p:α->α->a_ X'}(h:yS s p=some r):r.l.Sublist s.l:=by
 unfold yS at h;split at h
 .cases h;have key:((kept (λi=>(uD s.l p i).getD false) s.l.length).filterMap (s.l[·]?)).Sublist s.l:=by
   have e:=Gz s.l
   conv=>rhs;rw[<-e]
   exact List.Sublist.filterMap _ (by unfold kept;exact List.filter_sublist)
  generalize(kept (λi=>(uD s.l p i).getD false) s.l.length).filterMap (s.l[·]?)=y at *
  cases s<;>first|exact key|(simp[Sl.ue,Sl.l])
 cases h
theorem SL{c:Zg}(B:c.l.length<=1073741824)(a:0<c.l.length):∃d,(fu c).bind Sl.whole=some d/\d.l=c.l:=by
 unfold fu;have key:((oG (Sl.row []:Zg) c).bind λx=>some x).bind Sl.whole=some (.row ([]++c.l)):=by unfold oG;rw[if_neg (λh=>by rw[h]at a;simp at a),if_pos (show(Sl.row ([]:SW)).l.length+c.l.length<=2147483648 from show 0+c.l.length<=_ by omega)];rfl
 cases c with|nil=>simp[Sl.l]at a|emp=>simp[Sl.l]at a|part l=>exact⟨_,key,rfl⟩|row l=>exact⟨_,key,rfl⟩
section
variable{t:Z4}{A:cH 200 bM}
theorem Sk(N:Small t)(l:VT t)(v:iW t (bY t) A){m:cD}(P:TX t A t.procs.l.length m){k:Nat}{B:Zb}(W:AI t A k B)(hl:B.l.length<=5000):
 Wp (eG m B) λr=>AI t A (k+1) r/\(ins r).Nodup/\r.l.length<=40000/\(ins r).Pairwise λx y=>¬gb y x<0:=by
 have ad:=l.few;unfold eG eG.W1;refine fC B.l.length (λn s=>s.2.1=len B/\s.2.2=(n:Int)/\s.1.l.length<=8*n/\∀d,d∈ins s.1↔∃c∈(B.l.take n).map Sl.l,C5 t A c d) ⟨rfl,rfl,zero_le _,λd=>by simp[ins,Sl.l]⟩ ?_ ?_
 .rintro n ⟨out,_,_⟩ w ⟨e1,e2,g1,g2⟩;simp only at e1 e2 g1 g2;subst e1 e2;have L:=(W B.l[n].l).1 (nX.2 ⟨_,getElem_mem w,rfl⟩);unfold eG.bn;rw[gE w,bE,bF w,ζb];have O:∀d,d∈(B.l.take (n+1)).map Sl.l↔d∈(B.l.take n).map Sl.l\/d=B.l[n].l:=λd=>xx w
  generalize B.l[n]=c at *;have ae:=L.1.1.1;have aa:=l.ok.one;unfold eG.W2;refine fC c.l.length (λj s=>s.2=(j:Int)/\s.1.l.length<=8*n+j/\∀d,d∈ins s.1↔d∈ins out\/∃(p:Nat)(a:Int),p<j/\c.l[p]?=some a/\d=c.l.set p (a+1)/\Cons t A d) ⟨rfl,g1,λd=>⟨.inl,λh=>h.elim id λ⟨p,a,h,_⟩=>absurd h Zaa⟩⟩ ?_ ?_
  .rintro j ⟨o2,_⟩ T ⟨e,o,i⟩;simp only at e o i;subst e;unfold eG.bV;rw[show decide ((j:Int)<len c)=true from gE T,bE,eW];refine(QY l v P L.1 (p:=j) Zaa).mono λb E=>?_
   have u:=ζd T;have hr:=L.1.1.2 j _ _ u (ζd (show j<t.procs.l.length by omega))
   have af:=(N.2 _ (getElem_mem (show j<t.procs.l.length by omega))).1
   generalize c.l[j]=a at *;have more:∀o3:Zb,(∀d,d∈ins o3↔d∈ins o2\/d=c.l.set j (a+1)/\Cons t A d)->∀d,d∈ins o3↔d∈ins out\/∃(p:Nat)(a:Int),p<j+1/\c.l[p]?=some a/\d=c.l.set p (a+1)/\Cons t A d:=λo3 h d=>by rw[h,i];constructor;rintro((h|⟨p,b,h,k⟩)|⟨h,k⟩);exact .inl h;exact .inr ⟨p,b,Zaa,k⟩;exact .inr ⟨j,a,Zaa,u,h,k⟩;rintro(h|⟨p,b,h,k1,F,H⟩);exact .inl (.inl h);by_cases e:p=j;subst e;rw[u]at k1;cases k1;exact .inr ⟨F,H⟩;exact .inl (.inr ⟨p,b,Zaa,k1,F,H⟩)
   rw[ct];constructor
   .intro ht;have⟨x,C,X⟩:=E.1 ht;rw[u]at C;cases C;have⟨d,hd,z⟩:=SL (c:=c) Zaa Zaa
    have⟨R,Y,Q⟩:=put_eq (s:=d) (p:=j) (x:=a+1) (by rw[z];exact T)
    have⟨o3,Z,D⟩:=tI (s:=o2) (x:=R) Zaa
    have V:Sl.get d j=some a:=by unfold Sl.get;rw[z];exact u
    rw[hd,ζb,Ou (by rw[z];exact T),ζb,V,ζb,ζb,gW _ Zaa Zaa,Y,ζb,Z,ζb,bh]
    refine⟨cF j Zaa,by rw[D];simp;omega,more o3 λe=>?_⟩
    rw[LJ D,Q,z];exact⟨λh=>h.elim .inl λh=>.inr ⟨h,by rw[h];exact X⟩,λh=>h.elim .inl λh=>.inr h.1⟩
   intro K;refine(bh _).2 ⟨cF j Zaa,Nat.le_succ_of_le o,more o2 λd=>⟨.inl,λh=>h.elim id λ⟨q,U⟩=>?_⟩⟩
   rw[E.2 ⟨a,u,by rw[<-q];exact U⟩]at K;cases K
  rintro⟨o2,_⟩ ⟨e,o,i⟩;simp only at e o i;subst e;unfold eG.bV;rw[iA,bJ,bh];refine(bh _).2 ⟨rfl,cF n Zaa,show o2.l.length<=_ by omega,λd=>?_⟩
  rw[i];constructor
  .rintro (h|⟨p,a,_,h⟩)
   .have⟨c',g,G⟩:=(g2 d).1 h;exact⟨c',(O c').2 (.inl g),G⟩
   exact⟨_,(O _).2 (.inr rfl),p,a,h⟩
  rintro⟨c',g,G⟩;rcases(O c').1 g with h|h
  .exact .inl ((g2 d).2 ⟨c',h,G⟩)
  subst h;have⟨p,a,h⟩:=G;exact .inr ⟨p,a,(ζe.1 h.1).1,h⟩
 rintro⟨out,_,_⟩ ⟨e1,e2,g1,g2⟩;simp only at e1 e2 g1 g2;subst e1 e2;unfold eG.bn;rw[iA,bJ,bh];simp only;have I:AI t A (k+1) out:=λd=>by rw[g2,take_length,<-C5.iff l v (k:=k)];exact⟨λ⟨c,g,G⟩=>⟨c,(W c).1 g,G⟩,λ⟨c,g,G⟩=>⟨c,(W c).2 g,G⟩⟩
 have J:∀s:Zb,(∀d,d∈ins s↔d∈ins out)->∀x∈s.l,x.l.length<1073741824:=λs h x C=>by have:=((I x.l).1 ((h x.l).1 (nX.2 ⟨x,C,rfl⟩))).1.1.1;omega
 have⟨r1,q,p1,M⟩:=RQ (s:=out) (p:=kE) (f:=Sl.l) (λx y C _=>Na (J out (λ_=>Iff.rfl) x C)) Zaa
 have S:∀d,d∈ins r1↔d∈ins out:=λd=>(p1.map Sl.l).mem_iff
 have ab:r1.l.length=out.l.length:=p1.length_eq;have⟨r2,U,nd,m2,l2⟩:=SJ (s:=r1) (p:=l8) (f:=Sl.l) (λx y C _=>by unfold l8;rw[Q1 (J r1 S x C)];rfl) Zaa M
 rw[q,ζb,U,ζb,bh];exact⟨λd=>(m2 d).trans ((S d).trans (I d)),nd,Zaa,by unfold ins;rw[pairwise_map];exact M.sublist (VB U)⟩
end
section
variable{t:Z4}{A:cH 200 bM}
end
section
variable{t:Z4}{A:cH 200 bM}
end
section
variable{t:Z4}{A:cH 200 bM}
theorem Qo(g:Small t)(h:dz t=some true)(i:VT t)(j:iW t (bY t) A){c:Zg}(d:Cons t A c.l){p q:Nat}(hp:p<t.procs.l.length)(D:q<t.procs.l.length):
 dF t (Sl.row [c]:Zb) (Sl.row [(p:Int),(q:Int)]:Zg)=some 0:=by
 refine Wp.eq ?_;have u:=d.1.1;unfold dF yd;rw[h,ζb,bE,BP (f:=λz=>(kV z t).getD false) (λz _=>Mb.ok ((bh _).2 trivial)) (by simp[Sl.l]),ζb,ζb,ζb]
 have w:(!((Sl.row [c]:Zb).l.any λz=>(kV z t).getD false))=true:=by simp[Sl.l,kV,len,u]<;>exact congrArg ofNat u
 rw[w,bE];unfold dF.W1;refine fC 1 (λn s=>s=(n:Int)) rfl ?_ ?_
 .rintro n _ B rfl;obtain rfl:n=0:=by omega
  unfold dF.bn;rw[show decide (((0:Nat):Int)<len (Sl.row [c]:Zb))=true from rfl,bE,show idx (Sl.row [c]:Zb) ((0:Nat):Int)=some c from rfl,ζb,eW];refine(EK g u).mono λb C=>?_
  rw[C.2 d.1,bE];exact(bh _).2 rfl
 rintro _ rfl;unfold dF.bn;rw[show decide (((1:Nat):Int)<len (Sl.row [c]:Zb))=false from rfl,bJ,bh];have a:∀r:Nat,r<t.procs.l.length->vj t r=some true:=λr e=>by unfold vj;rw[show decide ((r:Int)>=0)=true from Zab,bE,gE e];rfl
 show Wp (dF.W2 (Sl.row [c]) (Sl.row [(p:Int),(q:Int)]) 2 0 t) _;unfold dF.W2;refine fC 2 (λn s=>s=(n:Int)) rfl ?_ ?_
 .rintro n _ B rfl;unfold dF.bV;rw[show decide ((n:Int)<2)=true from by simp;omega,bE]
  have G:∃r:Nat,idx (Sl.row [(p:Int),(q:Int)]) (n:Int)=some (r:Int)/\r<t.procs.l.length:=by rcases(show n=0\/n=1 by omega)with rfl|rfl;exact⟨p,rfl,hp⟩;exact⟨q,rfl,D⟩
  have⟨r,k,I⟩:=G;rw[k,ζb,a r I,ζb,bE];exact(bh _).2 (cF n Zaa)
 rintro _ rfl;unfold dF.bV;rw[show decide (((2:Nat):Int)<2)=false from rfl,bJ,bh];show Wp (dF.W3 (Sl.row [c]) 1 0 t) _;unfold dF.W3;refine fC 1 (λn s=>s=(n:Int)) rfl ?_ ?_
 .rintro n _ B rfl;obtain rfl:n=0:=by omega
  unfold dF.eX;rw[show decide (((0:Nat):Int)<1)=true from rfl,bE,show idx (Sl.row [c]:Zb) ((0:Nat):Int)=some c from rfl,ζb];unfold wQ;rw[eW,eW];refine(Ep g h i j d.1).mono λr e=>?_
  rw[bh,e.2 d.2];exact(bh _).2 rfl
 rintro _ rfl;unfold dF.eX;rw[show decide (((1:Nat):Int)<1)=false from rfl,bJ,bh];exact(bh _).2 rfl
theorem Sp(b:Small t)(c:dz t=some true)(kind m:Int):jb t kind m=some (match(bY t).find? (mb kind m)with|some x=>(x.1,true)|none=>(⟨0,0⟩,false)):=by
 refine Wp.eq ?_;unfold jb;rw[c,ζb,bE];unfold jU;rw[ζb];unfold jb.E1;rw[uw b,ζb];refine za (λk _=>((bY t).take k).find? (mb kind m)=none) Zab ?_ ?_;intro k y _ z u;have w:(bY t).take (k+1)=(bY t).take k++[y]:=by rw[take_add_one,z];rfl
 have B:(y.2.kind==kind&&y.2.message==m)=mb kind m y:=rfl;unfold jb.kD;rw[nZ,ζb,B,ct];constructor;intro a;refine(bh _).2 ((bh _).2 ?_);have:(bY t).find? (mb kind m)=some y:=by rw[<-List.take_append_drop (k+1) (bY t),w,find?_append,find?_append,u];simp[a]
 rw[this];intro a;rw[bh,w,find?_append,u];simp[a];intro _ u;rw[take_length]at u;exact(bh _).2 (by rw[u])
theorem SN(f:Small t)(g:dz t=some true)(h:VT t)(i:iW t (bY t) A){c:Zg}(d:Cons t A c.l){p q:Nat}(hp:p<t.procs.l.length)(J:q<t.procs.l.length):
 Wp (ji t c p q) λr=>r.2=0/\(r.1.l.length:Int)=under t c.l p q:=by
 have I:=ζd hp;have⟨a,L⟩:=d.1.at_ hp;have⟨b,C⟩:=d.1.at_ J;rw[HF h i d I (ζd J) L C];have Y:=(f.2 _ (getElem_mem hp)).1;have⟨a0,H⟩:=d.1.2 p a _ L I;generalize Z:t.procs.l[p]=P at *;unfold ji;rw[Qo f g h i d hp J,ζb,show((0:Int)==0)=true from rfl,bE,jd,I,ζb,show idx c (p:Int)=some a from by rw[jd];exact L,ζb]
 have⟨y,X,D⟩:=tF P.events a.toNat Zaa
 rw[show((a.toNat:Nat):Int)=a from Zaa]at X
 rw[X,ζb,<-D];have K:y.l.length<=P.events.l.length:=by rw[D,length_take];omega
 unfold ji.W1;refine fC y.l.length (λn s=>s.2.1=len y/\s.2.2=(n:Int)/\s.1.l.length=(y.l.take n).countP λe=>ec q e&&mX t c.l e) ⟨rfl,rfl,rfl⟩ ?_ ?_
 .rintro n ⟨o,_,_⟩ w ⟨e1,e2,z⟩;simp only at e1 e2 z;subst e1 e2;have O:=countP_le_length (p:=λe=>ec q e&&mX t c.l e) (l:=y.l.take n)
  rw[length_take]at O;have u:(y.l.take (n+1)).countP (λe=>ec q e&&mX t c.l e)=o.l.length+if ec q y.l[n]&&mX t c.l y.l[n]then 1 else 0:=by rw[take_add_one,ζd w,countP_append,z];show _+countP _ [y.l[n]]=_;rw[countP_cons,countP_nil];simp
  have Q:=cF n Zaa
  unfold ji.bn;rw[gE w,bE,bF w,ζb];generalize y.l[n]=e at u;have S:(bl (e.kind==2) (some (!(e.peer==(q:Int)))) (some true):a_ X')=some (!ec q e):=by unfold ec;cases e.kind==2<;>cases e.peer==(q:Int)<;>rfl
  rw[S,ζb,ct];refine⟨λB=>(bh _).2 ⟨rfl,Q,by rw[u,show ec q e=false from by simpa using B];rfl⟩,λB=>?_⟩
  have B:ec q e=true:=by simpa using B
  unfold uU;rw[Sp f g,ζb,ζb];have k:(bl (match(bY t).find? (mb 3 e.message)with|some x=>(x.1,true)|none=>((⟨0,0⟩:bf),false)).2 ((idx c (match(bY t).find? (mb 3 e.message)with|some x=>(x.1,true)|none=>((⟨0,0⟩:bf),false)).1.proc).bind λT=>some (decide ((match(bY t).find? (mb 3 e.message)with|some x=>(x.1,true)|none=>((⟨0,0⟩:bf),false)).1.index>T))) (some true):a_ X')=some (mX t c.l e):=by unfold mX gM;cases m:(bY t).find? (mb 3 e.message)with|none=>rfl|some x=>have⟨U,j,⟨M,W,_⟩,v⟩:=dR.1 (wY m).1;have G:U<c.l.length:=(by rw[d.1.1];exact(ζe.1 W).1);simp only[v,bE];rw[bF G,ζb,show((U:Nat):Int).toNat=U from rfl,ζd G,show(((j:Int)+1)==0)=false from by simp;omega,Bool.false_or];rfl
  rw[k,ζb,ct];refine⟨λC=>?_,λC=>(bh _).2 ⟨rfl,Q,by rw[u,B,C];rfl⟩⟩
  have⟨r,E,F⟩:=tI (s:=o) (x:=e.message) Zaa
  rw[E,ζb,bh];exact⟨rfl,Q,by rw[F,u,B,C,ζi];rfl⟩
 rintro⟨o,_,_⟩ ⟨e1,e2,z⟩;simp only at e1 e2 z;subst e1 e2;unfold ji.bn;rw[iA,bJ,bh];refine(bh _).2 ⟨rfl,?_⟩;rw[take_length]at z;simp only[z]
end
section
variable{α σ:Type}
def yU(p:α->σ->a_ (X'×σ)):aZ α->σ->a_ (X'×σ)
 |[],x=>some (false,x)|a::r,x=>(p a x).bind λy=>if y.1 then some (true,y.2)else yU p r y.2
theorem LB{s:Sl α}{p:α->σ->a_ (X'×σ)}{x:σ}(B:s.l.length<1073741824):BI s p x=yU p s.l x:=by
 have key:∀(c:aZ α)(j:Nat)(x:σ),s.l.drop j=c->((bQ (EY s p) ((j:Int),x)).bind (Fw.elim (λe=>some ((-1:Int),e)) λe=>some e)).bind (λy:Int×σ=>some (decide (y.1>=0),y.2))=yU p c x:=by intro c;induction c with|nil=>intro j x hd;have d:decide ((j:Int)<len s)=false:=(by have:s.l.length<=j:=(by simpa using hd);simp[len];omega);rw[fq];simp only[EY,d,bl,false_eq_true,if_false,ζb,Fw.elim,yU];rfl|cons a c u=>intro j x hd;have d:j<s.l.length:=(by apply byContradiction;intro C;rw[drop_eq_nil_of_le Zaa]at hd;cases hd);have w:=drop_eq_getElem_cons d;rw[w]at hd;simp only[List.cons.injEq]at hd;rw[fq];simp only[EY,gE d,bl,if_true,bF d,ζb,hd.1,yU];cases p a x with|none=>rfl|some y=>have⟨b,z⟩:=y;simp only[ζb];cases b with|true=>simp[Fw.elim]|false=>simp only[false_eq_true,if_false,ζb,cF j Zaa];exact u (j+1) z hd.2
 exact key s.l 0 x rfl
def FT(p:α->a_ X'):aZ α->a_ X'
 |[]=>some false|a::r=>(p a).bind λb=>if b then some true else FT p r
theorem Gm(p:α->a_ X'):∀l:aZ α,yU (λx(u:Unit)=>(p x).map λb=>(b,u)) l ()=(FT p l).map λb=>(b,())
 |[]=>rfl|a::r=>by simp only[yU,FT];cases p a with|none=>rfl|some b=>cases b<;>simp[Gm p r]
theorem A0{s:Sl α}(p:α->a_ X')(B:s.l.length<1073741824):BI s (λx(u:Unit)=>(p x).map λb=>(b,u)) ()=(FT p s.l).map λb=>(b,()):=by rw[LB B,Gm]
theorem zM{p:α->a_ X'}{f:α->X'}:∀{l:aZ α},(∀x∈l,p x=some (f x))->FT p l=some (l.any f)
 |[],_=>rfl|a::r,h=>by simp only[FT,h a Zab,ζb,List.any_cons,zM (λx B=>h x (mem_cons_of_mem _ B))];cases f a<;>rfl
theorem jq{δ:Type}{b:(α->a_ δ)->α->a_ δ}{n:Nat}(h:0<n)(z:α):dA b n z=b (dA b (n-1)) z:=by cases n with|zero=>omega|succ n=>rfl
end
def z7(l:SW)(az:aZ Assign):SW:=az.foldl (λl a=>l.set a.var.toNat a.value) l
def iL(P:bX):Nat->SW
 |0=>P.vars.l.map Var.init_|k+1=>match P.events.l[k]?with
  |some e=>z7 (iL P k) e.assign.l|none=>iL P k
theorem Js:∀(az:aZ Assign)(l:SW),(z7 l az).length=l.length
 |[],l=>rfl|a::r,l=>by show(z7 (l.set a.var.toNat a.value) r).length=_;rw[Js r];simp
theorem pR(P:bX):∀k,(iL P k).length=P.vars.l.length
 |0=>by simp[iL]|k+1=>by unfold iL;split;rw[Js,pR P k];exact pR P k
def Nr{α:Type}(s:Sl α):Prop:=s=.nil\/∃l,s=.row l
theorem Ip:∀(vs:aZ Var)(s:Zg),Nr s->s.l.length+vs.length<1073741824->∃B,wX vs s=some B/\Nr B/\B.l=s.l++vs.map Var.init_
 |[],s,h,_=>⟨s,rfl,h,Zab⟩|v::r,s,h,D=>by simp only[length_cons]at D;have a:eU s v.init_=some (.row (s.l++[v.init_])):=(by unfold eU;rw[if_pos Zaa]);have⟨B,g1,g2,g3⟩:=Ip r (.row (s.l++[v.init_])) (.inr ⟨_,rfl⟩) (by show(s.l++[v.init_]).length+r.length<1073741824;simp;omega);refine⟨B,?_,g2,by rw[g3];show(s.l++[v.init_])++r.map Var.init_=_;simp⟩;simp only[wX,a,ζb,g1]
theorem Kc:∀(az:aZ Assign)(s:Zg),Nr s->(∀a∈az,0<=a.var/\a.var<s.l.length)->∃B,wP az s=some B/\Nr B/\B.l=z7 s.l az
 |[],s,h,_=>⟨s,rfl,h,rfl⟩|a::r,s,h,D=>by have⟨d,c⟩:=D a Zab;have e:Sl.pP s a.var=some a.var.toNat:=(by unfold Sl.pP;rw[if_pos ⟨d,Zaa⟩]);rcases h with rfl|⟨l,rfl⟩;simp[Sl.l]at c;omega;have u:Sl.put (.row l) a.var.toNat a.value=some (.row (l.set a.var.toNat a.value)):=(by unfold Sl.put;rw[if_pos (by simp[Sl.l]at c⊢;omega)]);have⟨B,g1,g2,g3⟩:=Kc r (.row (l.set a.var.toNat a.value)) (.inr ⟨_,rfl⟩) (λb w=>by have:=D b (mem_cons_of_mem _ w);simpa[Sl.l]using this);refine⟨B,?_,g2,g3⟩;simp only[wP,e,u,ζb,g1]
theorem L7{s:Zg}(h:Nr s)(B:s.l.length<1073741824):∃c,NL s=some c/\c.l=s.l:=by rcases h with rfl|⟨l,rfl⟩;exact⟨.nil,rfl,rfl⟩;unfold NL IB.fu oG;simp only[Sl.isNil,ζb,bl,false_eq_true,if_false];by_cases a:(Sl.row l).l=[];rw[if_pos a];exact⟨.row [],rfl,a.symm⟩;rw[if_neg a,if_pos (by simp[Sl.l]at B⊢;omega)];exact⟨_,rfl,by simp[Sl.l]⟩
def vF(P:bX):Prop:=∀e∈P.events.l,∀a∈e.assign.l,0<=a.var/\a.var<P.vars.l.length
theorem Je{P:bX}(B:vF P)(f:P.vars.l.length<1073741824):∀(b:aZ WF)(k:Nat)(s:Zg),P.events.l.drop k=b->Nr s->s.l=iL P k->
 ∃r,wK (k:Int) b s=some r/\r.length=b.length/\∀(i:Nat)x,r[i]?=some x->x.1=((k+i+1:Nat):Int)/\x.2.l=iL P (k+i+1)
 |[],k,s,_,_,_=>⟨[],rfl,rfl,Zab⟩|e::b,k,s,hd,D,G=>by have d:k<P.events.l.length:=(by apply byContradiction;intro D;rw[drop_eq_nil_of_le Zaa]at hd;cases hd);have C:=drop_eq_getElem_cons d;rw[C]at hd;simp only[List.cons.injEq]at hd;have I:e∈P.events.l:=hd.1▸getElem_mem d;have w:s.l.length=P.vars.l.length:=(by rw[G,pR]);have⟨n,g1,g2,g3⟩:=Kc e.assign.l s D (λa J=>by rw[w];exact B e I a J);have u:iL P (k+1)=n.l:=(by rw[g3,G];unfold iL;rw[ζd d,hd.1];cases k<;>rfl);have⟨c,g4,g5⟩:=L7 g2 (by rw[<-u,pR];exact f);have⟨r,L,O,Q⟩:=Je B f b (k+1) n hd.2 g2 u.symm;refine⟨((k:Int)+1,c)::r,?_,by simp[O],λi x z=>?_⟩;simp only[wK,g1,g4,ζb];rw[show(k:Int)+1=((k+1:Nat):Int)from rfl,L];rfl;cases i with|zero=>simp only[List.getElem?_cons_zero,ζa]at z;subst z;exact⟨rfl,by rw[g5,<-u]⟩|succ i=>rw[List.getElem?_cons_succ]at z;have⟨S,T⟩:=Q i x z;exact⟨by rw[S];congr 1;omega,by rw[T];congr 1;omega⟩
theorem Hf{P:bX}(B:vF P)(a:P.vars.l.length<1073741824)(U:P.events.l.length<1073741824)(D:∀e∈P.events.l,e.assign.l.length<1073741824):
 ∃r,j7 P=some r/\r.length=P.events.l.length+1/\∀(i:Nat)x,r[i]?=some x->x.1=(i:Int)/\x.2.l=iL P i:=by
 have⟨s,g1,g2,g3⟩:=Ip P.vars.l .nil (.inl rfl) (by simpa[Sl.l]using a)
 have w:s.l=iL P 0:=by rw[g3];simp[Sl.l,iL]
 have⟨c,g4,g5⟩:=L7 g2 (by rw[w,pR];exact a)
 have⟨r,z,C,G⟩:=Je B a P.events.l 0 s rfl g2 w;refine⟨(0,c)::r,?_,by simp[C],λi x u=>?_⟩
 .unfold j7;have b:(pY P.vars.l.length&&(pY P.events.l.length&&P.events.l.all λe=>pY e.assign.l.length))=true:=by
   simp only[ζh,all_eq_true,pY,decide_eq_true_eq];exact⟨Zaa,Zaa,λe h=>by have:=D e h;omega⟩
  rw[if_pos b,g1,ζb,g4,ζb];rw[show((0:Nat):Int)=0 from rfl]at z;rw[z];rfl
 cases i with
 |zero=>simp only[List.getElem?_cons_zero,ζa]at u;subst u;exact⟨rfl,by rw[g5,w]⟩|succ i=>rw[List.getElem?_cons_succ]at u;have⟨I,J⟩:=G i x u;exact⟨by rw[I];congr 1;omega,by rw[J];congr 1;omega⟩
theorem RP{P:bX}(D:vF P)(b:P.vars.l.length<1073741824)(G:P.events.l.length<1073741824)(J:∀e∈P.events.l,e.assign.l.length<1073741824){k:Nat}(f:k<=P.events.l.length):
 ∃x,gu P (k:Int)=some x/\x.l=iL P k:=by
 have⟨r,c,O,C⟩:=Hf D b G J;have key:∀(a:aZ (Int×Zg))(i:Nat)(q:Zg),r.drop i=a->i<=k->∃x,(lJ (λ(x:Int×(Zg))(q:Zg)=>gu.kD P k x q) a q).bind (Fw.rQ (λq=>some Sl.nil) (λe=>elim e) (λe=>some e))=some x/\x.l=iL P k:=by intro a;induction a with|nil=>intro i q hd d;have:r.length<=i:=(by simpa using hd);omega|cons y a I=>intro i q hd d;have u:i<r.length:=Zaa;have e2:=drop_eq_getElem_cons u;rw[e2]at hd;simp only[List.cons.injEq]at hd;have⟨B,L⟩:=C i y (by rw[ζd u,hd.1]);by_cases w:i=k;subst w;refine⟨y.2,?_,L⟩;simp only[lJ,gu.kD,B,beq_self_eq_true,bl,if_true,ζb,Fw.rQ];have z:(y.1==(k:Int))=false:=(by rw[B];simp;omega);have⟨x,g1,g2⟩:=I (i+1) .nil hd.2 Zaa;refine⟨x,?_,g2⟩;simp only[lJ,gu.kD,z,bl,false_eq_true,if_false,ζb];exact g1
 have⟨x,g1,g2⟩:=key r 0 .nil rfl (zero_le _);refine⟨x,?_,g2⟩;unfold gu ox gu.E1;simp only[ζb,c];exact g1
mutual
def Pred.sz:Pred->Nat
 |⟨_,_,_,_,_,l⟩=>1+Pred.XQ l
def Pred.XQ:Sl Pred->Nat
 |.nil=>0|.emp=>0|.row l=>Pred.nh l|.part l=>Pred.nh l
def Pred.nh:aZ Pred->Nat
 |[]=>0|x::r=>Pred.sz x+Pred.nh r
end
mutual
def Pred.dp:Pred->Nat
 |⟨_,_,_,_,_,l⟩=>1+Pred.X5 l
def Pred.X5:Sl Pred->Nat
 |.nil=>0|.emp=>0|.row l=>Pred.uq l|.part l=>Pred.uq l
def Pred.uq:aZ Pred->Nat
 |[]=>0|x::r=>max (Pred.dp x) (Pred.uq r)
end
mutual
def Pred.gH(f:Pred->X'):Pred->X'
 |⟨a,b,c,d,e,l⟩=>f ⟨a,b,c,d,e,l⟩&&Pred.Mt f l
def Pred.Mt(f:Pred->X'):Sl Pred->X'
 |.nil=>true|.emp=>true|.row l=>Pred.FZ f l|.part l=>Pred.FZ f l
def Pred.FZ(f:Pred->X'):aZ Pred->X'
 |[]=>true|x::r=>Pred.gH f x&&Pred.FZ f r
end
theorem Pred.Ym(s:Sl Pred):Pred.XQ s=Pred.nh s.l:=by cases s<;>simp[Pred.XQ,Pred.nh,Sl.l]
theorem Pred.YJ(s:Sl Pred):Pred.X5 s=Pred.uq s.l:=by cases s<;>simp[Pred.X5,Pred.uq,Sl.l]
theorem Pred.Kr(f:Pred->X'):∀l:aZ Pred,Pred.FZ f l=l.all (Pred.gH f)
 |[]=>by simp[Pred.FZ]|x::r=>by simp only[Pred.FZ,all_cons,Pred.Kr f r]
theorem Pred.Xa(f:Pred->X')(s:Sl Pred):Pred.Mt f s=s.l.all (Pred.gH f):=by cases s<;>simp[Pred.Mt,Pred.Kr,Sl.l]
theorem Pred.TZ(p:Pred):p.sz=1+Pred.nh p.l.l:=by cases p;simp only[Pred.sz,Pred.Ym]
theorem Pred.EG(p:Pred):p.dp=1+Pred.uq p.l.l:=by cases p;simp only[Pred.dp,Pred.YJ]
theorem Pred.lz(f:Pred->X')(p:Pred):p.gH f=(f p&&p.l.l.all (Pred.gH f)):=by cases p;simp only[Pred.gH,Pred.Xa]
theorem Pred.Lz:∀{l:aZ Pred}{q:Pred},q∈l->q.dp<=Pred.uq l
 |x::r,q,h=>by simp only[Pred.uq];rcases mem_cons.1 h with rfl|h;omega;have:=Pred.Lz h;omega
theorem Pred.qQ{p q:Pred}(h:q∈p.l.l):q.dp<p.dp:=by rw[p.EG];have:=Pred.Lz h;omega
theorem Pred.sB(p:Pred):0<p.dp:=by rw[p.EG];omega
theorem Pred.ind{M:Pred->Prop}(h:∀p,(∀q∈p.l.l,M q)->M p)(p:Pred):M p:=by
 have key:∀n p,p.dp<=n->M p:=by intro n;induction n with|zero=>intro p u;have:=p.sB;omega|succ n w=>intro p u;exact h p λq z=>w q (by have:=Pred.qQ z;omega)
 exact key _ p (le_refl _)
abbrev Pred.Sm(p:Pred):Prop:=p.gH (λq=>decide (q.l.l.length<1073741824))=true
theorem Pred.Sm.len{p:Pred}(h:p.Sm):p.l.l.length<1073741824:=by unfold Pred.Sm at h;rw[p.lz]at h;simp only[ζh,decide_eq_true_eq]at h;exact h.1
theorem Pred.Sm.uE{p q:Pred}(h:p.Sm)(B:q∈p.l.l):q.Sm:=by unfold Pred.Sm at h;rw[p.lz]at h;simp only[ζh,all_eq_true]at h;exact h.2 q B
theorem LM{f:Pred->a_ X'}{g:Pred->X'}(p:Pred)(B:p.Sm):p.gH (λq=>f q==some (g q))=true->∀n,p.dp<=n->dA (λr(z:Pred)=>jP z f r) n p=some (p.gH g):=by induction p using Pred.ind with|h p C=>intro u n D;rw[p.lz]at u;simp only[ζh,all_eq_true,beq_iff_eq]at u;have hd:=p.EG;rw[jq Zaa];show jP p f _=_;unfold jP;rw[u.1,ζb,p.lz];cases g p with|false=>rfl|true=>rw[bE,A0 _ B.len,zM (f:=λq=> !q.gH g) (λq w=>by have:=C q w (B.uE w) (u.2 q w) (n-1) (by have:=Pred.qQ w;omega);show(dA (λr(z:Pred)=>jP z f r) (n-1) q).bind _=_;rw[this];rfl)];simp only[map_some,ζb,Bool.true_and];congr 1;rw[Bool.eq_iff_iff];simp
theorem wh{step:Int->a_ (Fw Int Unit Unit)}{p:Pred}{g:Pred->X'}(D:p.l.l.length<1073741824)(h:∀(i:Nat)(a:i<p.l.l.length),step i=some (if g p.l.l[i]then .n ((i+1:Nat):Int)else .r ()))(B:step p.l.l.length=some (.x ())):
 (bQ (λq:Int=>step q) 0).bind (Fw.elim (λ_=>some true) (λ_=>some false))=some (p.l.l.all g):=by
 refine Wp.eq ?_;refine fC p.l.l.length (λn s=>s=(n:Int)/\(p.l.l.take n).all g=true) ⟨rfl,rfl⟩ ?_ ?_
 .rintro i _ a ⟨rfl,u⟩;rw[h i a,bh]
  cases b:g p.l.l[i]with
  |true=>refine⟨rfl,?_⟩;rw[take_add_one,ζd a,List.all_append,u];simp[b]|false=>
   refine(bh _).2 ?_
   symm
   rw[List.all_eq_false];exact⟨_,getElem_mem a,by rw[b];simp⟩
 rintro _ ⟨rfl,u⟩;rw[B,bh];rw[take_length]at u;exact(bh _).2 u.symm
abbrev JX(p:Pred):Bool:=toList p.name==toList ByteArray.empty
abbrev EV(p:Pred)(c:Int):Bool:=(len p.l==c)&&(!decide (p.n<0)&&(!decide (p.n>1125899906842624)&&((p.n==0||p.kind==1)&&(p.kind==2||(p.kind==3||(p.kind==4||(p.proc==0&&(p.peer==0&&JX p))))))))
theorem VO:∀k:_root_.Fin 22,1<=k.1->(cH.at vn ((k.1:Nat):Int)).isSome=true:=by decide
theorem Gy{k:Int}(a:1<=k)(B:k<22):∃c,cH.at vn k=some c:=by have g:=VO ⟨k.toNat,Zaa⟩ (by show 1<=k.toNat;omega);simp only at g;rw[show((k.toNat:Nat):Int)=k from Zaa]at g;exact Option.isSome_iff_exists.1 g
theorem SD:∀k:_root_.Fin 22,1<=k.1->cH.at vn ((k.1:Nat):Int)=lY ((k.1:Nat):Int)/\(lY ((k.1:Nat):Int)).isSome=true:=by decide
theorem MU{k:Int}(b:1<=k)(B:k<22):∃c,cH.at vn k=some c/\lY k=some c:=by have⟨g1,g2⟩:=SD ⟨k.toNat,Zaa⟩ (by show 1<=k.toNat;omega);simp only at g1 g2;rw[show((k.toNat:Nat):Int)=k from Zaa]at g1 g2;have⟨c,a⟩:=Option.isSome_iff_exists.1 g2;exact⟨c,by rw[g1,a],a⟩
theorem ON{k:Int}(h:k<1\/22<=k):lY k=some (-1):=by
 have c:(bl (decide (k>=1)) (some (decide (k<=4))) (some false):a_ X')=some false:=by by_cases a:k>=1;rw[decide_eq_true a,bE,decide_eq_false Zaa];rw[decide_eq_false a];rfl
 have d:(bl (decide (k>=18)) (some (decide (k<=21))) (some false):a_ X')=some false:=by by_cases a:k>=18;rw[decide_eq_true a,bE,decide_eq_false Zaa];rw[decide_eq_false a];rfl
 have e:(bl (decide (k>=6)) (some (decide (k<=12))) (some false):a_ X')=some false:=by by_cases a:k>=6;rw[decide_eq_true a,bE,decide_eq_false Zaa];rw[decide_eq_false a];rfl
 have b:∀m:Int,1<=m->m<22->(k==m)=false:=λm a u=>by simp;omega
 unfold lY;rw[c,d,e,b 13 Zaa Zaa,b 14 Zaa Zaa,b 5 Zaa Zaa,b 15 Zaa Zaa,b 16 Zaa Zaa,b 17 Zaa Zaa];rfl
theorem FP{p:Pred}{c:Int}(f:1<=p.kind)(D:p.kind<22)(d:cH.at vn p.kind=some c):lE p=some (EV p c):=by
 unfold lE uX EV JX;rw[decide_eq_false (show¬p.kind<1 by omega),bJ,ζb,decide_eq_false (show¬p.kind>=22 by omega),bJ,d,ζb,ζb];generalize(len p.l==c)=e;generalize decide (p.n<0)=a;generalize decide (p.n>1125899906842624)=b;generalize(p.n==0)=z;generalize(p.kind==1)=k1;generalize(p.kind==2)=u;generalize(p.kind==3)=w;generalize(p.kind==4)=B;generalize(p.proc==0)=d1;generalize(p.peer==0)=d2;generalize(toList p.name==toList ByteArray.empty)=d3
 cases e with
 |false=>rfl|true=>cases a with
  |true=>rfl|false=>cases b with
   |true=>rfl|false=>cases z<;>cases k1<;>first|rfl|(cases u<;>cases w<;>cases B<;>cases d1<;>cases d2<;>cases d3<;>rfl)
theorem Dn{p:Pred}(h:p.kind<1\/22<=p.kind):lE p=some false:=by
 unfold lE;have:(bl (decide (p.kind<1)) (some true) (some (decide (p.kind>=22))):a_ X')=some true:=by by_cases a:p.kind<1;rw[decide_eq_true a];rfl;rw[decide_eq_false a,bJ,decide_eq_true Zaa]
 rw[this];rfl
theorem RD{p:Pred}{c:Int}(i:1<=p.kind)(D:p.kind<22)(d:lY p.kind=some c)(r:Pred->a_ X'):gy p r=bl (EV p c) (fV.W2 0 p r) (some false):=by
 unfold gy fV.J1 EV JX;rw[d,ζb,show(c==len p.l)=(len p.l==c)from by rw[Bool.eq_iff_iff];simp;exact⟨Eq.symm,Eq.symm⟩];have f:(bl (decide (p.kind<2)) (some true) (some (decide (p.kind>4))):a_ X')=some (!(p.kind==2||(p.kind==3||p.kind==4))):=by by_cases g:p.kind<2;rw[decide_eq_true g,bE,show(p.kind==2)=false from by simp;omega,show(p.kind==3)=false from by simp;omega,show(p.kind==4)=false from by simp;omega];rfl;rw[decide_eq_false g,bJ];congr 1;rw[Bool.eq_iff_iff];simp;omega
 have C:(p.n==0)=true->decide (p.n<0)=false/\decide (p.n>1125899906842624)=false:=λh=>by have h:p.n=0:=(by simpa using h);rw[h];exact⟨rfl,rfl⟩
 rw[f];generalize(len p.l==c)=e;generalize decide (p.n<0)=a at *;generalize decide (p.n>1125899906842624)=b at *;generalize(p.n==0)=z at *;generalize(p.kind==1)=k1;generalize(p.kind==2)=u;generalize(p.kind==3)=w;generalize(p.kind==4)=B;generalize(p.proc==0)=d1;generalize(p.peer==0)=d2;generalize(toList p.name==toList ByteArray.empty)=d3
 cases e with
 |false=>rfl|true=>cases k1 with
  |true=>cases a with
   |true=>rfl|false=>cases b with
    |true=>rfl|false=>cases z<;>cases u<;>cases w<;>cases B<;>cases d1<;>cases d2<;>cases d3<;>rfl
  |false=>cases z with
   |false=>cases a<;>cases b<;>rfl|true=>obtain⟨rfl,rfl⟩:=C rfl;cases u<;>cases w<;>cases B<;>cases d1<;>cases d2<;>cases d3<;>rfl
def fB(p:Pred):X':=(lE p).getD false
theorem U7(p:Pred):lE p=some (fB p):=by unfold fB;by_cases h:p.kind<1\/22<=p.kind;rw[Dn h];rfl;have⟨c,a⟩:=Gy (k:=p.kind) Zaa Zaa;rw[FP Zaa Zaa a];rfl
theorem xo{p:Pred}(h:fB p=true):1<=p.kind/\p.kind<22/\cH.at vn p.kind=some (len p.l):=by by_cases g:p.kind<1\/22<=p.kind;unfold fB at h;rw[Dn g]at h;cases h;have⟨c,a⟩:=Gy (k:=p.kind) Zaa Zaa;unfold fB at h;rw[FP Zaa Zaa a]at h;simp only[EV,getD_some,ζh,beq_iff_eq]at h;exact⟨Zaa,Zaa,by rw[a,h.1]⟩
theorem Rh(p:Pred)(r:Pred->a_ X'):gy p r=bl (fB p) (fV.W2 0 p r) (some false):=by unfold fB;by_cases h:p.kind<1\/22<=p.kind;rw[Dn h];unfold gy;rw[ON h,ζb,show((-1:Int)==len p.l)=false from by simp[len]];rfl;have⟨c,a,u⟩:=MU (k:=p.kind) Zaa Zaa;rw[FP Zaa Zaa a,RD Zaa Zaa u];rfl
theorem P0(p:Pred)(B:p.Sm):∀n,p.dp<=n->dA (λr(z:Pred)=>gy z r) n p=some (p.gH fB):=by induction p using Pred.ind with|h p u=>intro n C;have hd:=p.sB;rw[jq Zaa];have u:=λq w=>u q w (B.uE w) (n-1);show gy p (dA (λr(z:Pred)=>gy z r) (n-1))=_;generalize dA (λr(z:Pred)=>gy z r) (n-1)=R at u⊢;rw[Rh,p.lz];cases fB p with|false=>rfl|true=>rw[bE,Bool.true_and];unfold fV.W2;refine wh (g:=Pred.gH fB) B.len (λi a=>?_) ?_;unfold fV.bV;rw[gE a,bE,bF a,ζb,u _ (getElem_mem a) (by have:=Pred.qQ (getElem_mem a);omega),ζb,cF i (by have:=B.len;omega)];cases Pred.gH fB p.l.l[i]<;>rfl;unfold fV.bV;rw[iA];rfl
def nP(p:Pred):X':=decide (p.sz<=200)&&(decide (p.dp<=20)&&p.gH fB)
abbrev oU(p:Pred)(d l:Nat):Bool:=decide (p.sz<=l)&&(decide (p.dp+d<=21)&&p.gH fB)
abbrev vQ(k:aZ Pred)(d l:Nat):Bool:=decide (Pred.nh k<=l)&&(decide (Pred.uq k+d<=21)&&k.all (Pred.gH fB))
theorem UF(p:Pred)(U:p.Sm):∀(n d l:Nat),1<=n->22<=n+d->d<=21->1<=d->l<=200->
 ∃G:Int,dA (λr(z:Pred×Int×Int)=>eV z.1 z.2.1 z.2.2 r) n (p,(d:Int),(l:Int))=some (oU p d l,G)/\(oU p d l=true->G=((l-p.sz:Nat):Int)):=by
 induction p using Pred.ind with
 |h p J=>
  intro n d l g i hd j8 j;have I:=p.TZ;have O:=p.EG;rw[jq Zaa]
  have J:=λq L=>J q L (U.uE L) (n-1)
  show∃G,eV p (d:Int) (l:Int) (dA (λr(z:Pred×Int×Int)=>eV z.1 z.2.1 z.2.2 r) (n-1))=_/\_
  generalize dA (λr(z:Pred×Int×Int)=>eV z.1 z.2.1 z.2.2 r) (n-1)=R at J⊢
  unfold eV;rw[gW _ Zaa Zaa,U7]
  by_cases b:l=0
  .subst b;have w:oU p d 0=false:=by
    have:¬(p.sz<=0):=Zaa
    simp only[oU,decide_eq_false this,Bool.false_and]
   rw[w];exact⟨_,rfl,λh=>by cases h⟩
  rw[decide_eq_false (show¬((l:Int)-1<0)by omega),bJ,ζb]
  by_cases o:20<d
  .have w:oU p d l=false:=by
    have:¬(p.dp+d<=21):=by have:=p.sB;omega
    simp only[oU,decide_eq_false this,Bool.false_and,Bool.and_false]
   rw[w,decide_eq_true (show(d:Int)>20 by omega)]
   exact⟨_,rfl,λh=>by cases h⟩
  rw[decide_eq_false (show¬((d:Int)>20)by omega),bJ,ζb]
  have W:=p.lz fB
  cases X:fB p with
  |false=>
   have w:oU p d l=false:=by simp[oU,W,X]
   rw[w];exact⟨_,rfl,λh=>by cases h⟩
  |true=>
   rw[ζb,show(!true)=false from rfl,bJ,LB U.len];have key:∀(k:aZ Pred),(∀q∈k,q∈p.l.l)->∀m:Nat,m<=200->∃m':Int,yU (λx s=>je x (d:Int) s R) k (m:Int)=some (!vQ k (d+1) m,m')/\(vQ k (d+1) m=true->m'=((m-Pred.nh k:Nat):Int)):=by intro k;induction k with|nil=>intro _ m _;exact⟨m,by simp[yU,vQ,Pred.nh,Pred.uq];omega,λ_=>by simp[Pred.nh]⟩|cons q k Q=>intro a m c;have⟨G,g1,g2⟩:=J q (a q Zab) (d+1) m Zaa Zaa Zaa Zaa c;have e1:je q (d:Int) (m:Int) R=some (!oU q (d+1) m,G):=(by unfold je;rw[cF d Zaa,g1];rfl);simp only[yU,e1,ζb];have u:vQ (q::k) (d+1) m=(oU q (d+1) m&&vQ k (d+1) (m-q.sz)):=(by rw[Bool.eq_iff_iff];simp only[vQ,oU,Pred.nh,Pred.uq,ζh,all_cons];constructor;rintro⟨B,C,D,a4⟩;have B:=of_decide_eq_true B;have C:=of_decide_eq_true C;exact⟨⟨decide_eq_true Zaa,decide_eq_true Zaa,D⟩,decide_eq_true Zaa,decide_eq_true Zaa,a4⟩;rintro⟨⟨B,C,D⟩,Y,Z,e⟩;have B:=of_decide_eq_true B;have C:=of_decide_eq_true C;have Y:=of_decide_eq_true Y;have Z:=of_decide_eq_true Z;exact⟨decide_eq_true Zaa,decide_eq_true Zaa,D,e⟩);cases w:oU q (d+1) m with|false=>rw[u,w];exact⟨G,rfl,λh=>by cases h⟩|true=>have⟨m',S,T⟩:=Q (λx f=>a x (mem_cons_of_mem _ f)) (m-q.sz) Zaa;rw[u,w,Bool.true_and,g2 w];refine⟨m',by simpa using S,λh=>?_⟩;rw[T h];have:q.sz<=m:=(by have:=w;simp only[oU,ζh]at this;exact of_decide_eq_true this.1);congr 1;show m-q.sz-Pred.nh k=m-(q.sz+Pred.nh k);omega
   have⟨m',S,T⟩:=key p.l.l (λq L=>L) (l-1) Zaa
   rw[show((l:Int)-1)=((l-1:Nat):Int)from Zaa,S,ζb]
   have w:oU p d l=vQ p.l.l (d+1) (l-1):=by rw[Bool.eq_iff_iff];simp only[oU,vQ,ζh,W,X,true_and,I,O];constructor;rintro⟨B,C,D⟩;have B:=of_decide_eq_true B;have C:=of_decide_eq_true C;exact⟨decide_eq_true Zaa,decide_eq_true Zaa,D⟩;rintro⟨B,C,D⟩;have B:=of_decide_eq_true B;have C:=of_decide_eq_true C;exact⟨decide_eq_true Zaa,decide_eq_true Zaa,D⟩
   refine⟨m',by rw[w];simp,λh=>?_⟩
   rw[T (by rw[<-w];exact h),I]
   congr 1
   omega
theorem Av{p:Pred}(D:p.Sm):mB p=some (nP p):=by obtain⟨C,h,-⟩:=UF p D 100000 1 200 Zaa Zaa Zaa Zaa Zaa;unfold mB rC;rw[show dA (λr(z:Pred×Int×Int)=>eV z.1 z.2.1 z.2.2 r) 100000 (p,(1:Int),(200:Int))=_ from h];simp only[ζb];congr 1;rw[Bool.eq_iff_iff];simp only[nP,oU,ζh];constructor;rintro⟨w,u,B⟩;have u:=of_decide_eq_true u;exact⟨w,decide_eq_true Zaa,B⟩;rintro⟨w,u,B⟩;have u:=of_decide_eq_true u;exact⟨w,decide_eq_true Zaa,B⟩
theorem Q8{l:aZ Pred}{i:Nat}(h:i<l.length):Pred.nh (l.take (i+1))=Pred.nh (l.take i)+l[i].sz:=by
 have key:∀(l:aZ Pred)(i:Nat)(h:i<l.length),Pred.nh (l.take (i+1))=Pred.nh (l.take i)+l[i].sz:=by intro l;induction l with|nil=>intro i h;simp at h|cons x r u=>intro i h;cases i with|zero=>simp[Pred.nh]|succ i=>have:=u i (by simpa using h);simp only[List.take_succ_cons,Pred.nh,List.getElem_cons_succ]at this⊢;omega
 exact key l i h
theorem Q7{l:aZ Pred}{i:Nat}(h:i<l.length):Pred.uq (l.take (i+1))=max (Pred.uq (l.take i)) l[i].dp:=by
 have key:∀(l:aZ Pred)(i:Nat)(h:i<l.length),Pred.uq (l.take (i+1))=max (Pred.uq (l.take i)) l[i].dp:=by intro l;induction l with|nil=>intro i h;simp at h|cons x r u=>intro i h;cases i with|zero=>simp[Pred.uq]|succ i=>have:=u i (by simpa using h);simp only[List.take_succ_cons,Pred.uq,List.getElem_cons_succ]at this⊢;omega
 exact key l i h
theorem Ld(l:aZ Pred)(i:Nat):Pred.nh (l.take i)<=Pred.nh l:=by
 induction l generalizing i with
 |nil=>simp|cons x r u=>cases i with
  |zero=>simp[Pred.nh]|succ i=>simp only[List.take_succ_cons,Pred.nh];have:=u i;omega
theorem count_eq(p:Pred)(G:p.Sm):∀(n l:Nat),l+1<=n->l<=200->dA (λr(z:Pred×Int)=>iR z.1 z.2 r) n (p,(l:Int))=some ((min p.sz (l+1):Nat):Int):=by
 induction p using Pred.ind with|h p C=>
  intro n l O Q;have J:=p.TZ;rw[jq Zaa];have C:=λq I=>C q I (G.uE I) (n-1);show iR p (l:Int) (dA (λr(z:Pred×Int)=>iR z.1 z.2 r) (n-1))=_;generalize dA (λr(z:Pred×Int)=>iR z.1 z.2 r) (n-1)=R at C⊢;unfold iR kZ.W1;refine Wp.eq ?_;refine eY (λs:Int×Int=>∃i:Nat,s.2=i/\i<=p.l.l.length/\s.1=((min (1+Pred.nh (p.l.l.take i)) (l+1):Nat):Int)) (λs=>p.l.l.length-s.2.toNat) ⟨0,rfl,zero_le _,by simp[Pred.nh]⟩ ?_;rintro⟨c,_⟩ ⟨i,rfl,b,a⟩;simp only at a;subst a;unfold kZ.bn;by_cases u:i<p.l.l.length;rw[gE u,bE,ζb];by_cases L:min (1+Pred.nh (p.l.l.take i)) (l+1)<=l;have w:min (1+Pred.nh (p.l.l.take i)) (l+1)=1+Pred.nh (p.l.l.take i):=by omega
  have B:=getElem_mem u;rw[decide_eq_true (show(((min (1+Pred.nh (p.l.l.take i)) (l+1):Nat)):Int)<=(l:Int)by omega),bE,bF u,ζb,w,gW _ Zaa Zaa,
   show(l:Int)-((1+Pred.nh (p.l.l.take i):Nat):Int)=((l-(1+Pred.nh (p.l.l.take i)):Nat):Int)from Zaa,
   C _ B _ Zaa Zaa,ζb,bh,gW _ Zaa Zaa,cF i (by have:=G.len;omega)]
  refine⟨⟨i+1,rfl,Zaa,?_⟩,by simp only;omega⟩;simp only;rw[Q8 u];omega;rw[decide_eq_false (show¬(((min (1+Pred.nh (p.l.l.take i)) (l+1):Nat)):Int)<=(l:Int)by omega),bJ,bh];refine(bh _).2 ?_;have:=Ld p.l.l i;congr 1;omega;have D:i=p.l.l.length:=Zaa;subst D;rw[show decide (((p.l.l.length:Nat):Int)<len p.l)=false from iA,bJ,ζb,bJ,bh];refine(bh _).2 ?_;rw[take_length];congr 1;omega
theorem RN(p:Pred)(D:p.Sm):∀(n m:Nat),m+1<=n->m<=200->dA (λr(z:Pred×Int)=>iQ z.1 z.2 r) n (p,(m:Int))=some ((min p.dp (m+1):Nat):Int):=by induction p using Pred.ind with|h p B=>intro n m I J;have G:=p.EG;rw[jq Zaa];have B:=λq C=>B q C (D.uE C) (n-1);show iQ p (m:Int) (dA (λr(z:Pred×Int)=>iQ z.1 z.2 r) (n-1))=_;generalize dA (λr(z:Pred×Int)=>iQ z.1 z.2 r) (n-1)=R at B⊢;unfold iQ;by_cases a:m=0;subst a;rw[show(((0:Nat):Int)==0)=true from rfl,bE];congr 1;omega;rw[show((m:Int)==0)=false from by simp;omega,bJ];unfold jY.W1;refine Wp.eq ?_;refine fC p.l.l.length (λi s=>s.2=(i:Int)/\s.1=((min (Pred.uq (p.l.l.take i)) m:Nat):Int)) ⟨rfl,by simp[Pred.uq]⟩ ?_ ?_;rintro i ⟨c,_⟩ u ⟨e1,e2⟩;simp only at e1 e2;subst e1 e2;have w:=getElem_mem u;unfold jY.bn;rw[gE u,bE,bF u,ζb,gW _ Zaa Zaa,show((m:Int)-1)=((m-1:Nat):Int)from Zaa,B _ w _ Zaa Zaa,ζb,bh,cF i (by have:=D.len;omega)];refine⟨rfl,?_⟩;simp only;rw[Q7 u];split<;>omega;rintro⟨c,_⟩ ⟨e1,e2⟩;simp only at e1 e2;subst e1 e2;unfold jY.bn;rw[iA,bJ,bh];refine(bh _).2 ?_;rw[take_length,cF _ Zaa];omega
theorem Aw{p:Pred}(B:p.Sm):nY p=some (nP p):=by unfold nY yL kZ jY fV;rw[show dA (λr(z:Pred×Int)=>iR z.1 z.2 r) 100000 (p,(200:Int))=_ from count_eq p B 100000 200 Zaa Zaa,ζb,ζb];unfold nP;by_cases a:p.sz<=200;rw[decide_eq_true a,if_neg Zaa,decide_eq_true Zaa,bE,show dA (λr(z:Pred×Int)=>iQ z.1 z.2 r) 100000 (p,(21:Int))=_ from RN p B 100000 21 Zaa Zaa,ζb,ζb];by_cases u:p.dp<=20;rw[decide_eq_true u,decide_eq_true Zaa,bE,P0 p B 100000 Zaa];rfl;rw[decide_eq_false u,decide_eq_false Zaa];rfl;rw[decide_eq_false a,decide_eq_false (by split<;>omega)];rfl
section
variable{t:Z4}
abbrev tA(t:Trace)(p:Int):Bool:=decide (p>=0)&&decide (p<len t.procs)
def Ds(t:Z4)(p:Int)(name:U'):X':=match idx t.procs p with
 |some P=>P.vars.l.any λv=>toList v.name==toList name|none=>false
def o9(t:Z4)(q:Pred):X':=if q.kind==2 then tA t q.proc&&(q.peer==0&&Ds t q.proc q.name)else if q.kind==3 then tA t q.proc&&(q.peer==0&&JX q)else if q.kind==4 then tA t q.proc&&(tA t q.peer&&(!(q.proc==q.peer)&&JX q))else true
theorem LD(p:Int):k8 t p=some (tA t p):=by unfold k8 tA;cases decide (p>=0)<;>rfl
theorem TO(p:Int):oL t p=some (tA t p):=by unfold oL tA;cases decide (p>=0)<;>rfl
theorem vP{p:Int}(h:tA t p=true):∃n:Nat,p=n/\n<t.procs.l.length:=by simp only[tA,ζh]at h;have a:=of_decide_eq_true h.1;have u:=of_decide_eq_true h.2;exact⟨p.toNat,Zaa,by simp only[len]at u;omega⟩
theorem Te(a:Small t){p:Int}(h:tA t p=true)(name:U'):rM t p name=some (Ds t p name):=by obtain⟨n,rfl,u⟩:=vP h;unfold rM Ds;rw[bF u,ζb,CJ (p:=λz=>oP z name) (f:=λv=>toList v.name==toList name) (λv _=>rfl) (a.2 _ (getElem_mem u)).2.1];rfl
theorem FB(b:Small t){p:Int}(h:tA t p=true)(name:U'):Wp (jx t p name) λi=>(∃(n k:Nat)(P:bX)(v:Var),p=n/\t.procs.l[n]?=some P/\i=k/\P.vars.l[k]?=some v/\(toList v.name==toList name)=true/\(∀(j:Nat)(w:Var),j<k->P.vars.l[j]?=some w->(toList w.name==toList name)=false)/\Ds t p name=true)\/i=-1/\Ds t p name=false:=by
 obtain⟨n,rfl,u⟩:=vP h;have L:=ζd u;have O:=(b.2 _ (getElem_mem u)).2.1;unfold jx jx.W1;have z:Ds t (n:Int) name=t.procs.l[n].vars.l.any λv=>toList v.name==toList name:=by unfold Ds;rw[bF u]
 refine fC t.procs.l[n].vars.l.length (λi s=>s=(i:Int)/\∀(j:Nat)(w:Var),j<i->t.procs.l[n].vars.l[j]?=some w->(toList w.name==toList name)=false) ⟨rfl,λj w B=>absurd B Zaa⟩ ?_ ?_;rintro i _ a ⟨rfl,C⟩;unfold jx.bn;rw[bF u,ζb,gE a,bE,ζb,bF a,ζb];cases D:toList t.procs.l[n].vars.l[i].name==toList name with|true=>rw[bE,bh];refine(bh _).2 (.inl ⟨n,i,_,_,rfl,L,rfl,ζd a,D,C,?_⟩);rw[z,any_eq_true];exact⟨_,getElem_mem a,D⟩|false=>rw[bJ,bh,cF i Zaa];refine⟨rfl,λj w B G=>?_⟩;by_cases I:j=i;subst I;rw[ζd a]at G;cases G;exact D;exact C j w Zaa G
 rintro _ ⟨rfl,C⟩;unfold jx.bn;rw[bF u,ζb,iA,bJ,bh];refine(bh _).2 (.inr ⟨rfl,?_⟩);rw[z,List.any_eq_false];intro v c;have⟨j,B⟩:=mem_iff_getElem?.1 c;have J:=(ζe.1 B).1;rw[C j v J B];simp
theorem VG(a:Small t)(q:Pred):kS q t=some (o9 t q):=by
 unfold kS o9 JX;rw[LD,LD]
 cases q.kind==2 with
 |true=>rw[bE,if_pos rfl,ζb];cases h:tA t q.proc with|false=>rfl|true=>rw[Te a h];cases q.peer==0<;>rfl
 |false=>rw[bJ,if_neg Zab];cases q.kind==3 with|true=>rw[bE,if_pos rfl];cases tA t q.proc<;>cases q.peer==0<;>cases(toList q.name==toList ByteArray.empty)<;>rfl|false=>rw[bJ,if_neg Zab];cases q.kind==4 with|true=>rw[bE,if_pos rfl];cases tA t q.proc<;>cases tA t q.peer<;>cases(q.proc==q.peer)<;>cases(toList q.name==toList ByteArray.empty)<;>rfl|false=>rfl
theorem VJ(c:Small t)(q:Pred)(r:Z4×Pred->a_ X'):gm t q r=bl (o9 t q) (gF.W1 0 t q r) (some false):=by
 unfold gm o9 JX;rw[TO,TO];have a:(q.kind==2)=true->(q.kind==3)=false/\(q.kind==4)=false:=λh=>by have:q.kind=2:=(by simpa using h);rw[this];exact⟨rfl,rfl⟩
 have u:(q.kind==3)=true->(q.kind==4)=false:=λh=>by have:q.kind=3:=(by simpa using h);rw[this];rfl
 cases z:q.kind==2 with
 |true=>have⟨w,B⟩:=a z;rw[bE,if_pos rfl,ζb,w,B];cases h:tA t q.proc with|false=>rfl|true=>rw[bE,ζb];cases q.peer==0 with|false=>rfl|true=>have⟨i,d,e⟩:=FB c h q.name;rw[show(!true)=false from rfl,bJ,d,ζb];rcases e with⟨n,k,P,v,-,-,rfl,-,-,-,b⟩|⟨rfl,b⟩;rw[b,decide_eq_false (show¬((k:Nat):Int)<0 by omega)];rfl;rw[b];rfl
 |false=>rw[bJ,if_neg Zab,ζb,bJ];cases w:q.kind==3 with|true=>rw[bE,if_pos rfl,u w];cases tA t q.proc<;>cases q.peer==0<;>cases(toList q.name==toList ByteArray.empty)<;>rfl|false=>rw[bJ,if_neg Zab,ζb,bJ];cases q.kind==4 with|true=>rw[bE,if_pos rfl];cases tA t q.proc<;>cases tA t q.peer<;>cases(q.proc==q.peer)<;>cases(toList q.name==toList ByteArray.empty)<;>rfl|false=>rfl
theorem JA{f:Pred->a_ X'}{g:Pred->X'}(h:∀q,f q=some (g q)){p:Pred}(B:p.Sm)(hd:p.dp<=100000):nW p f=some (p.gH g):=by refine LM p B ?_ _ hd;induction p using Pred.ind with|h p w=>rw[p.lz,ζh,all_eq_true];exact⟨by rw[h];simp,λq u=>w q u (B.uE u) (by have:=Pred.qQ u;omega)⟩
theorem IZ(a:Small t){p:Pred}(B:p.Sm)(hd:p.dp<=100000):oS t p=some (p.gH (o9 t)):=by unfold oS;rw[JA (g:=o9 t) (λq=>VG a q) B hd];rfl
theorem JK(b:Small t)(p:Pred)(B:p.Sm):∀n,p.dp<=n->dA (λr(z:Z4×Pred)=>gm z.1 z.2 r) n (t,p)=some (p.gH (o9 t)):=by induction p using Pred.ind with|h p u=>intro n C;have hd:=p.sB;rw[jq Zaa];have u:=λq w=>u q w (B.uE w) (n-1);show gm t p (dA (λr(z:Z4×Pred)=>gm z.1 z.2 r) (n-1))=_;generalize dA (λr(z:Z4×Pred)=>gm z.1 z.2 r) (n-1)=R at u⊢;rw[VJ b,p.lz];cases o9 t p with|false=>rfl|true=>rw[bE,Bool.true_and];unfold gF.W1;refine wh (g:=Pred.gH (o9 t)) B.len (λi a=>?_) ?_;unfold gF.bn;rw[gE a,bE,bF a,ζb,u _ (getElem_mem a) (by have:=Pred.qQ (getElem_mem a);omega),ζb,cF i (by have:=B.len;omega)];cases Pred.gH (o9 t) p.l.l[i]<;>rfl;unfold gF.bn;rw[iA];rfl
abbrev nQ(k:Int):Int:=if k<=8 then 1 else 2
abbrev vz(k:Int):Int:=if k<=12 then 1 else 2
def qX(q:Pred):X':=q.l.l.all λk=>nQ k.kind==vz q.kind
theorem BV(k:Int):mA k=some (nQ k):=by unfold mA nQ;by_cases h:k<=8;rw[decide_eq_true h,if_pos h];rfl;rw[decide_eq_false h,if_neg h];rfl
theorem Dv(q:Pred):qy q=some (nQ q.kind):=by unfold qy nQ;by_cases h:q.kind<=8;rw[decide_eq_true h,if_pos h];rfl;rw[decide_eq_false h,if_neg h];rfl
theorem U5(k:Int):sP k=some (vz k):=by unfold sP vz;by_cases h:k<=12;rw[decide_eq_true h,if_pos h];rfl;rw[decide_eq_false h,if_neg h];rfl
theorem Up{q:Pred}(B:q.l.l.length<1073741824):jK q=some (qX q):=by unfold jK qX;rw[A0 _ B,zM (f:=λk=> !(nQ k.kind==vz q.kind)) (λk _=>by unfold mS;rw[BV,U5];rfl)];simp only[map_some,ζb];congr 1;rw[Bool.eq_iff_iff];simp
theorem Hv{p:Pred}(B:p.Sm)(hd:p.dp<=100000):o_ p=some (p.gH qX):=by
 unfold o_;have:p.gH (λq=>(λz=>jK z) q==some (qX q))=true:=by clear hd;induction p using Pred.ind with|h p w=>rw[p.lz,ζh,all_eq_true];exact⟨by show(jK p==some (qX p))=true;rw[Up B.len];simp,λq u=>w q u (B.uE u)⟩
 unfold nW;rw[LM p B this _ hd];rfl
theorem He(p:Pred)(G:p.Sm):p.gH fB=true->∀n,p.dp<=n->dA (λr(z:Pred)=>jD z r) n p=some (p.gH qX):=by induction p using Pred.ind with|h p D=>intro I n Q;have hd:=p.sB;rw[p.lz,ζh,all_eq_true]at I;rw[jq Zaa];have D:=λq J=>D q J (G.uE J) (I.2 q J) (n-1);show jD p (dA (λr(z:Pred)=>jD z r) (n-1))=_;generalize dA (λr(z:Pred)=>jD z r) (n-1)=R at D⊢;(unfold jD gB.W1;have u:p.l.l≠[]->vz p.kind=if p.kind>=15 then 2 else 1:=λB=>by have⟨k1,S,L⟩:=xo I.1;by_cases h:p.kind=13\/p.kind=14;have c:cH.at vn p.kind=some 0:=(by rcases h with h|h<;>(rw[h];rfl));rw[c]at L;have:p.l.l.length=0:=(by simpa[len]using(Option.some.inj L).symm);exact absurd (List.length_eq_zero_iff.1 this) B;unfold vz;split<;>split<;>omega);have C:p.gH qX=p.l.l.all λk=>(nQ k.kind==vz p.kind)&&Pred.gH qX k:=(by rw[p.lz];unfold qX;rw[Bool.eq_iff_iff];simp only[ζh,all_eq_true];exact⟨λh k a=>⟨h.1 k a,h.2 k a⟩,λh=>⟨λk a=>(h k a).1,λk a=>(h k a).2⟩⟩);rw[C];refine wh (g:=λk=>(nQ k.kind==vz p.kind)&&Pred.gH qX k) G.len (λi b=>?_) ?_;have B:p.l.l≠[]:=λh=>(by rw[h]at b;simp at b);have O:∀w:Int,gB.J2 (i:Int) w p R=some (if(nQ p.l.l[i].kind==w)&&Pred.gH qX p.l.l[i]then .n ((i+1:Nat):Int)else .r ()):=λw=>(by unfold gB.J2;rw[bF b,ζb,Dv,ζb,ζb,D _ (getElem_mem b) (by have:=Pred.qQ (getElem_mem b);omega),cF i (by have:=G.len;omega)];cases(nQ p.l.l[i].kind==w)<;>cases Pred.gH qX p.l.l[i]<;>rfl);unfold gB.bn;rw[gE b,bE,O,O,u B];by_cases h:p.kind>=15;rw[decide_eq_true h,if_pos h];rfl;rw[decide_eq_false h,if_neg h];rfl;unfold gB.bn;rw[iA];rfl
def tW(q:Pred):X':=decide (q.kind>=18)&&decide (q.kind<=21)
theorem J7{p:Pred}(B:p.Sm):oW p=some (nP p&& !p.gH λq=> !tW q):=by unfold oW;rw[Av B,ζb];cases u:nP p with|false=>rfl|true=>have hd:p.dp<=20:=(by simp only[nP,ζh]at u;exact of_decide_eq_true u.2.1);rw[bE,JA (g:=λq=> !tW q) (λq=>by unfold mZ sj tW;cases decide (q.kind>=18)<;>rfl) B Zaa];rfl
theorem Kz(p:Pred)(B:p.Sm):∀n,p.dp<=n->dA (λr(z:Pred)=>gV z r) n p=some (!p.gH λq=> !tW q):=by induction p using Pred.ind with|h p u=>intro n G;have hd:=p.sB;rw[jq Zaa];have u:=λq C=>u q C (B.uE C) (n-1);show gV p (dA (λr(z:Pred)=>gV z r) (n-1))=_;generalize dA (λr(z:Pred)=>gV z r) (n-1)=R at u⊢;unfold gV;rw[show(bl (decide (p.kind>=18)) (some (decide (p.kind<=21))) (some false):a_ X')=some (tW p)from by unfold tW;cases decide (p.kind>=18)<;>rfl,ζb,p.lz];cases tW p with|true=>rfl|false=>rw[bJ];unfold fQ.W1;have key:(bQ (λq:Int=>fQ.bn p q R) 0).bind (Fw.elim (λ_=>some true) (λ_=>some false))=some (p.l.l.all (Pred.gH λq=> !tW q)):=(by refine wh (g:=Pred.gH λq=> !tW q) B.len (λi a=>?_) ?_;unfold fQ.bn;rw[gE a,bE,bF a,ζb,u _ (getElem_mem a) (by have:=Pred.qQ (getElem_mem a);omega),ζb,cF i (by have:=B.len;omega)];cases Pred.gH (λq=> !tW q) p.l.l[i]<;>rfl;unfold fQ.bn;rw[iA];rfl);cases D:bQ (λq:Int=>fQ.bn p q R) 0 with|none=>rw[D]at key;cases key|some w=>rw[D]at key;cases w with|n s=>exact elim s|x e=>simp only[ζb,Fw.elim,ζa]at key⊢;rw[<-key];rfl|r e=>simp only[ζb,Fw.elim,ζa]at key⊢;rw[<-key];rfl
theorem J6{p:Pred}(B:p.Sm):qM p=some (nP p&& !p.gH λq=> !tW q):=by unfold qM fQ;rw[Aw B,ζb];cases u:nP p with|false=>rfl|true=>have hd:p.dp<=20:=(by simp only[nP,ζh]at u;exact of_decide_eq_true u.2.1);rw[bE,Kz p B 100000 Zaa];rfl
end
theorem K5{t:Z4}(f:Small t)(g:dz t=some true)(d:VT t){A:cH 200 bM}(j:iW t (bY t) A)(c:Zg):Wp (j9 t c) λr=>Code t A c.l r.2:=by
 have D:=d.few;unfold j9;rw[eW];refine(Xt f g d j c).mono λr b=>?_;rw[ct];constructor;intro a;have a:r=0:=by simpa using a
 have k:=b.zero.1 a;have B:=k.1.1;unfold j9.W1;refine eY (λs:Sl bf×Int=>∃n:Nat,s.2=n/\n<=c.l.length/\s.1.l.length<=n) (λs=>c.l.length-s.2.toNat) ⟨0,rfl,zero_le _,le_refl _⟩ ?_;rintro⟨o,i⟩ ⟨n,e,G,C⟩;simp only at e C;subst e;unfold j9.bn;rw[ct];constructor;intro h;have w:n<c.l.length:=by simpa[len]using h
 have z:=cF n Zaa;have u:c.l.length-(wrap .i64 ((n:Int)+1)).toNat<c.l.length-((n:Int)).toNat:=by rw[z];simp;omega
 rw[bF w,ζb,ct];constructor;intro _;unfold eU;rw[if_pos (show o.l.length+1<=2147483648 from Zaa),ζb,bh];exact⟨⟨n+1,z,Zaa,by show(o.l++[_]).length<=n+1;rw[ζi,length_singleton];omega⟩,u⟩;intro _;exact(bh _).2 ⟨⟨n+1,z,Zaa,show o.l.length<=n+1 from Zaa⟩,u⟩;intro _;exact(bh _).2 ((bh _).2 (a▸b));intro a;exact(bh _).2 b
theorem vF.of{t:Z4}(B:Ok t){p:Nat}{P:bX}(D:t.procs.l[p]?=some P):vF P:=by
 intro e C a G;have⟨k,c⟩:=mem_iff_getElem?.1 C;have⟨i,b⟩:=mem_iff_getElem?.1 G;have h:=B.fT p k P e D c;unfold oZ at h;have w:i<e.assign.l.length:=by apply byContradiction;intro J;rw[getElem?_eq_none Zaa]at b;cases b
 have I:nR (mO P e) 0 e.assign.l.length=0:=by split at h;split at h;cases h;split at h;cases h;exact h;cases h
 have u:=(Ho (g:=mO P e) (n:=e.assign.l.length) (m:=e.assign.l.length) (k:=0) Zaa).1 I i (zero_le _) w;unfold mO at u;rw[b]at u;dsimp only at u;by_cases z:(decide (0<=a.var)&&decide (a.var<P.vars.l.length))=true;simpa using z;rw[Bool.not_eq_true]at z;rw[z]at u;simp only[Nb]at u;cases u
theorem YY{t:Z4}{A:cH 200 bM}(b:Small t)(f:dz t=some true)(e:VT t)(g:iW t (bY t) A){c:Zg}(d:Cons t A c.l):
 Wp (js t c) λr=>r.2=0/\r.1.l.length=t.procs.l.length/\∀(p:Nat)(P:bX)(a:Int),t.procs.l[p]?=some P->c.l[p]?=some a->∃x,r.1.l[p]?=some x/\x.l=iL P a.toNat:=by
 have I:=d.1.1;unfold js;rw[eW];refine(K5 b f e g c).mono λr i=>?_
 rw[i.zero.2 d,show((0:Int)==0)=true from rfl,bE];unfold js.W1;refine fC c.l.length (λn s=>s.2=(n:Int)/\s.1.l.length=n/\∀(p:Nat)(P:bX)(a:Int),p<n->t.procs.l[p]?=some P->c.l[p]?=some a->∃x,s.1.l[p]?=some x/\x.l=iL P a.toNat) ⟨rfl,rfl,λp P a h=>absurd h Zaa⟩ ?_ ?_
 .rintro n ⟨o,_⟩ u ⟨e1,e2,e3⟩;simp only at e1 e2 e3;subst e1;have J:n<t.procs.l.length:=by omega
  have w:=b.2 _ (getElem_mem J);have D:=ζd J;have C:=ζd u;have⟨a0,W⟩:=d.1.2 n _ _ C D;have T:=vF.of e.ok D;have⟨x,S,L⟩:=RP T w.2.1 w.1 w.2.2.2.2 (k:=c.l[n].toNat) Zaa
  rw[show((c.l[n].toNat:Nat):Int)=c.l[n]from Zaa]at S
  have j:=b.1;unfold js.bn;rw[gE u,bE,bF u,ζb,bF J,ζb,S,ζb];have G:eU o (x:Zg)=some (.row (o.l++[x])):=by unfold eU;rw[if_pos Zaa]
  rw[G,ζb,bh,cF n Zaa]
  refine⟨rfl,by simp[Sl.l];exact e2,λp P a h z B=>?_⟩
  show∃y,(o.l++[x])[p]?=some y/\_
  by_cases O:p=n
  .subst O;rw[D]at z;rw[C]at B;cases z;cases B;exact⟨x,by rw[List.getElem?_append_right Zaa];simp[e2],L⟩
  have⟨y,U,Q⟩:=e3 p P a Zaa z B
  exact⟨y,by rw[List.getElem?_append_left Zaa];exact U,Q⟩
 rintro⟨o,_⟩ ⟨e1,e2,e3⟩;simp only at e1 e2 e3;subst e1;unfold js.bn;rw[show decide ((c.l.length:Int)<len c)=false from iA,bJ,bh];refine(bh _).2 ⟨rfl,by rw[e2,I],λp P a D C=>e3 p P a ?_ D C⟩
 apply byContradiction;intro X;rw[getElem?_eq_none Zaa]at C;cases C
section
variable{P:Pred}{t:Z4}
end
def pW(l:SW)(m:Int):Prop:=m∈l/\∀x∈l,m<=x
def isMax(l:SW)(m:Int):Prop:=m∈l/\∀x∈l,x<=m
theorem pW.one{l:SW}{a b:Int}(h:pW l a)(g:pW l b):a=b:=by have:=h.2 b g.1;have:=g.2 a h.1;omega
theorem isMax.one{l:SW}{a b:Int}(h:isMax l a)(g:isMax l b):a=b:=by have:=h.2 b g.1;have:=g.2 a h.1;omega
theorem pW.snoc{l:SW}{a x:Int}(h:pW l a):pW (l++[x]) (if x<a then x else a):=by have⟨c,u⟩:=h;split;refine⟨Zab,λy b=>?_⟩;rcases mem_append.1 b with b|b;have:=u y b;omega;simp at b;omega;refine⟨mem_append_left _ c,λy b=>?_⟩;rcases mem_append.1 b with b|b;exact u y b;simp at b;omega
theorem isMax.snoc{l:SW}{a x:Int}(h:isMax l a):isMax (l++[x]) (if x>a then x else a):=by have⟨c,u⟩:=h;split;refine⟨Zab,λy b=>?_⟩;rcases mem_append.1 b with b|b;have:=u y b;omega;simp at b;omega;refine⟨mem_append_left _ c,λy b=>?_⟩;rcases mem_append.1 b with b|b;exact u y b;simp at b;omega
theorem Pq{s:Zg}(h:0<s.l.length)(B:s.l.length<1073741824):Wp (e_ s) λm=>pW s.l m:=by
 unfold e_ e_.J1 e_.W2;rw[decide_eq_false (show¬len s<1 by simp only[len];omega),bJ,show idx s 0=some s.l[0]from bF (i:=0) h,ζb];refine fC (s.l.length-1) (λn q=>q.2=((n+1:Nat):Int)/\pW (s.l.take (n+1)) q.1) ⟨rfl,?_⟩ ?_ ?_;rw[take_add_one,ζd h];exact⟨Zab,λx z=>by simp at z;omega⟩;rintro n ⟨m,_⟩ C ⟨rfl,w⟩;have u:n+1<s.l.length:=by omega
 unfold e_.bV;rw[gE u,bE,bF u,ζb,bh,cF _ Zaa];refine⟨rfl,?_⟩;rw[take_add_one,ζd u];exact w.snoc;rintro⟨m,_⟩ ⟨rfl,w⟩;unfold e_.bV;rw[show s.l.length-1+1=s.l.length from Zaa,iA,bJ,bh];rw[show s.l.length-1+1=s.l.length from Zaa,take_length]at w;exact(bh _).2 w
theorem Oo{s:Zg}(h:0<s.l.length)(B:s.l.length<1073741824):Wp (fm s) λm=>isMax s.l m:=by
 unfold fm fm.J1 fm.W2;rw[decide_eq_false (show¬len s<1 by simp only[len];omega),bJ,show idx s 0=some s.l[0]from bF (i:=0) h,ζb];refine fC (s.l.length-1) (λn q=>q.2=((n+1:Nat):Int)/\isMax (s.l.take (n+1)) q.1) ⟨rfl,?_⟩ ?_ ?_;rw[take_add_one,ζd h];exact⟨Zab,λx z=>by simp at z;omega⟩;rintro n ⟨m,_⟩ C ⟨rfl,w⟩;have u:n+1<s.l.length:=by omega
 unfold fm.bV;rw[gE u,bE,bF u,ζb,bh,cF _ Zaa];refine⟨rfl,?_⟩;rw[take_add_one,ζd u];exact w.snoc;rintro⟨m,_⟩ ⟨rfl,w⟩;unfold fm.bV;rw[show s.l.length-1+1=s.l.length from Zaa,iA,bJ,bh];rw[show s.l.length-1+1=s.l.length from Zaa,take_length]at w;exact(bh _).2 w
theorem Ma{s:Zg}{a b:Int}(h:0<s.l.length)(B:s.l.length<1073741824)(D:pW s.l a)(G:isMax s.l b):mG s=some ⟨a,b⟩:=by have⟨m,c,u⟩:=Pq h B;have⟨n,g1,g2⟩:=Oo h B;unfold mG;rw[c,ζb,g1,ζb,u.one D,g2.one G]
theorem Yw(n:Int):mG (Sl.row [n]:Zg)=some ⟨n,n⟩:=Ma (by simp[Sl.l]) (by simp[Sl.l]) ⟨by simp[Sl.l],λx u=>by simp[Sl.l]at u;omega⟩ ⟨by simp[Sl.l],λx u=>by simp[Sl.l]at u;omega⟩
theorem YD(a b c d:Int):mG (Sl.row [a,b,c,d]:Zg)=some ⟨if(if d<c then d else c)<(if b<a then b else a)then(if d<c then d else c)else(if b<a then b else a),if(if d>c then d else c)>(if b>a then b else a)then(if d>c then d else c)else(if b>a then b else a)⟩:=by
 refine Ma (by simp[Sl.l]) (by simp[Sl.l]) ⟨?_,λx u=>?_⟩ ⟨?_,λx u=>?_⟩
 .show _∈[a,b,c,d];simp only[mem_cons,not_mem_nil,or_false];split<;>split<;>(try split)<;>omega
 .have u:x∈[a,b,c,d]:=u;simp only[mem_cons,not_mem_nil,or_false]at u;split<;>split<;>(try split)<;>omega
 .show _∈[a,b,c,d];simp only[mem_cons,not_mem_nil,or_false];split<;>split<;>(try split)<;>omega
 have u:x∈[a,b,c,d]:=u;simp only[mem_cons,not_mem_nil,or_false]at u;split<;>split<;>(try split)<;>omega
theorem Nh(a b:Int):kq a b=cU a b:=by
 unfold kq cU cU.J1 tU;by_cases z:a=0;subst z;rw[show(0:Int)*b=0 from Zaa];rfl;have u:(a==0)=false:=by simpa using z
 by_cases B:b=0;subst B;rw[u,show a*(0:Int)=0 from Zaa];rfl;have w:(b==0)=false:=by simpa using B
 rw[u,w];rfl
def mI(az:aZ Assign)(v:Int):QR:=(az.find? λa=>a.var==v).map Assign.value
def Et(az:aZ Assign):Prop:=∀(i j:Nat)a b,i<j->az[i]?=some a->az[j]?=some b->a.var≠b.var
theorem Et.tail{a:Assign}{r:aZ Assign}(h:Et (a::r)):Et r:=λi j x y u w z=>h (i+1) (j+1) x y Zaa (by simpa using w) (by simpa using z)
theorem Et.head{a:Assign}{r:aZ Assign}(h:Et (a::r)):∀b∈r,a.var≠b.var:=λb u=>by have⟨j,w⟩:=mem_iff_getElem?.1 u;exact h 0 (j+1) a b Zaa Zab (by simpa using w)
theorem IU:∀(az:aZ Assign)(l:SW)(k:Nat),Et az->(∀a∈az,0<=a.var)->k<l.length->(z7 l az)[k]?=some ((mI az k).getD (l[k]?.getD 0))
 |[],l,k,_,_,hk=>by simp[z7,mI,ζd hk]|a::r,l,k,hd,h0,hk=>by show(z7 (l.set a.var.toNat a.value) r)[k]?=_;have B:=h0 a Zab;rw[IU r _ k hd.tail (λb w=>h0 b (mem_cons_of_mem _ w)) (by simpa using hk)];congr 1;by_cases u:a.var=(k:Int);have c:mI r k=none:=(by unfold mI;rw[Option.map_eq_none_iff,find?_eq_none];intro b w;have:=hd.head b w;simp;omega);rw[c];unfold mI;rw[List.find?_cons_of_pos (by simpa using u)];simp only[getD_none,map_some,getD_some];rw[getElem?_set,if_pos Zaa,if_pos Zaa];rfl;have c:mI (a::r) k=mI r k:=(by unfold mI;rw[List.find?_cons_of_neg (by simpa using u)]);rw[c,getElem?_set,if_neg Zaa]
def mY(P:bX)(v k:Nat):Int:=((iL P k)[v]?).getD 0
structure Pf(P:bX):Prop where
 ok:vF P
 dst:∀e∈P.events.l,Et e.assign.l
theorem GJ{P:bX}{v:Nat}(k:Nat)(a:v<P.vars.l.length):(iL P k)[v]?=some (mY P v k):=by unfold mY;rw[ζd (by rw[pR];exact a)];rfl
theorem GU{P:bX}(B:Pf P){v k:Nat}(b:v<P.vars.l.length){e:WF}(D:P.events.l[k]?=some e):mY P v (k+1)=(mI e.assign.l v).getD (mY P v k):=by
 have u:=mem_of_getElem? D;have c:iL P (k+1)=z7 (iL P k) e.assign.l:=by show(match P.events.l[k]?with|some e=>z7 (iL P k) e.assign.l|none=>iL P k)=_;rw[D]
 unfold mY;rw[c,IU _ _ _ (B.dst e u) (λa w=>(B.ok e u a w).1) (by rw[pR];exact b)];rfl
theorem Pf.of{t:Z4}(D:Ok t){p:Nat}{P:bX}(G:t.procs.l[p]?=some P):Pf P:=by
 refine⟨vF.of D G,λe I i j a b w J C z=>?_⟩;have⟨k,c⟩:=mem_iff_getElem?.1 I;have h:=D.fT p k P e G c;unfold oZ at h;have B:j<e.assign.l.length:=(ζe.1 C).1;have L:nR (mO P e) 0 e.assign.l.length=0:=by split at h;split at h;cases h;split at h;cases h;exact h;cases h
 have u:=(Ho (g:=mO P e) (n:=e.assign.l.length) (m:=e.assign.l.length) (k:=0) Zaa).1 L j (zero_le _) B;unfold mO at u;rw[C]at u;dsimp only at u;have O:jy (fO e.assign.l λx=>x.var==b.var) 0 j=true:=by rw[Ku];exact⟨i,zero_le _,w,by simp[fO,J,z]⟩
 rw[O]at u;revert u;cases(decide (0<=b.var)&&decide (b.var<P.vars.l.length))<;>cases(decide (b.value>=-1073741824)&&decide (b.value<=1073741824))<;>simp[Nb]
abbrev qE(P:bX)(v n:Nat):aZ Int:=(range (n+1)).map (mY P v)
theorem Ms(P:bX)(v n:Nat):qE P v (n+1)=qE P v n++[mY P v (n+1)]:=by unfold qE;rw[List.range_succ,map_append];rfl
theorem Gk{P:bX}{v n k:Nat}(h:k<=n):mY P v k∈qE P v n:=mem_map.2 ⟨k,mem_range.2 Zaa,rfl⟩
theorem pW.old{l:SW}{a x:Int}(h:pW l a)(B:x∈l):pW (l++[x]) a:=
 ⟨mem_append_left _ h.1,λy b=>by
  rcases mem_append.1 b with b|b
  .exact h.2 y b
  simp at b;subst b;exact h.2 _ B⟩
theorem isMax.old{l:SW}{a x:Int}(h:isMax l a)(B:x∈l):isMax (l++[x]) a:=
 ⟨mem_append_left _ h.1,λy b=>by
  rcases mem_append.1 b with b|b
  .exact h.2 y b
  simp at b;subst b;exact h.2 _ B⟩
section
variable{P:bX}{v:Nat}
theorem Qd(D:vF P)(b:P.vars.l.length<1073741824)(U:P.events.l.length<1073741823)(G:∀e∈P.events.l,e.assign.l.length<1073741824)(B:v<P.vars.l.length):
 Wp (gz P v) λs=>s.l=qE P v P.events.l.length:=by
 have⟨r,c,C,I⟩:=Hf D b Zaa G
 have key:∀(a:aZ (Int×Zg))(i:Nat)(q:Zg),r.drop i=a->i<=r.length->q.l=(range i).map (mY P v)->∃s,(lJ (λ(x:Int×(Zg))(q:Zg)=>gz.kD P v x q) a q).bind (Fw.rQ (λq=>some q) (λe=>elim e) (λe=>elim e))=some s/\s.l=(range r.length).map (mY P v):=by intro a;induction a with|nil=>intro i q hd d z;have:r.length<=i:=(by simpa using hd);exact⟨q,rfl,by rw[z,show i=r.length from Zaa]⟩|cons y a J=>intro i q hd _ z;have u:i<r.length:=(by apply byContradiction;intro S;rw[drop_eq_nil_of_le Zaa]at hd;cases hd);have e2:=drop_eq_getElem_cons u;rw[e2]at hd;simp only[List.cons.injEq]at hd;have⟨T,L⟩:=I i y (by rw[ζd u,hd.1]);have O:idx y.2 (v:Int)=some (mY P v i):=(by rw[jd,L];exact GJ i B);have Q:q.l.length=i:=(by rw[z];simp);have w:eU q (mY P v i)=some (.row (q.l++[mY P v i])):=(by unfold eU;rw[if_pos Zaa]);have⟨s,g1,g2⟩:=J (i+1) (.row (q.l++[mY P v i])) hd.2 Zaa (by show q.l++[mY P v i]=_;rw[z,List.range_succ,map_append];rfl);refine⟨s,?_,g2⟩;simp only[lJ,gz.kD,O,w,ζb];exact g1
 have⟨s,g1,g2⟩:=key r 0 .nil rfl (zero_le _) rfl;refine⟨s,?_,by show s.l=_;rw[g2,C]⟩
 unfold gz ox gz.E1;simp only[ζb,c];exact g1
theorem Ja{α:Type}{f:α->X'}{l:aZ α}{k:Nat}{x:α}(b:l[k]?=some x)(B:f x=true)(D:∀(j:Nat)(y:α),j<k->l[j]?=some y->f y=false):place f l=k:=by unfold place;have a:=(ζe.1 b);have⟨a,u⟩:=a;rw[show l.findIdx? f=some k from by rw[List.findIdx?_eq_some_iff_getElem];exact⟨a,by rw[u];exact B,λj w=>by rw[D j _ w (ζd Zaa)];simp⟩]
theorem O2{t:Z4}(d:Small t)(e:dz t=some true)(J:Ok t){n:Nat}(D:t.procs.l[n]?=some P){name:U'}{x:Var}(c:P.vars.l[v]?=some x)(U:(toList x.name==toList name)=true)
 (W:∀(j:Nat)(w:Var),j<v->P.vars.l[j]?=some w->(toList w.name==toList name)=false):
 Wp (rH t n name) λr=>r.2.2=0/\pW (qE P v P.events.l.length) r.1/\isMax (qE P v P.events.l.length) r.2.1:=by
 have Q:n<t.procs.l.length:=(ζe.1 D).1;have S:=mem_of_getElem? D;have u:=d.2 P S;have C:v<P.vars.l.length:=(ζe.1 c).1;have I:P.events.l.length<=64:=by have:=J.heads n Q;unfold tR at this;rw[D]at this;dsimp only at this;split at this;split at this;cases this;split at this;split at this;cases this;omega;rename_i G;exact absurd this G;cases this
 have⟨s,g1,g2⟩:=Qd (vF.of J D) u.2.1 Zaa u.2.2.2.2 C
 have g:s.l.length=P.events.l.length+1:=by rw[g2];simp[qE]
 have⟨a,T,L⟩:=Pq (s:=s) Zaa Zaa
 have⟨b,X,O⟩:=Oo (s:=s) Zaa Zaa
 have B:sV t n name=some ((v:Int),0):=by unfold sV;rw[e,ζb,bE,decide_eq_false (show¬(n:Int)<0 by omega),bJ,ζb,decide_eq_false (show¬(n:Int)>=len t.procs by simp only[len];omega),bJ,jd,D,ζb];unfold uS;rw[DE (p:=λz=>oT z name) (f:=λw=>toList w.name==toList name) (λ_ _=>rfl) u.2.1,Ja c U W,ζb,ζb,decide_eq_false (show¬((v:Nat):Int)<0 by omega)];rfl
 unfold rH;rw[B,ζb];simp only;rw[show((0:Int)==0)=true from rfl,bE,jd,D,ζb,g1,ζb,T,ζb,X,ζb,bh];rw[g2]at L O;exact⟨rfl,L,O⟩
def gO(o:QR)(b a:Int):Int×Int:=match o with
 |none=>(b,a)|some x=>(if x<b then x else b,if x>a then x else a)
theorem HH{az:aZ Assign}(hd:Et az){j:Nat}(B:j<az.length):mI (az.take (j+1)) v=if az[j].var=(v:Int)then some az[j].value else mI (az.take j) v:=by
 unfold mI;rw[take_add_one,ζd B];show((az.take j++[az[j]]).find? _).map _=_;rw[find?_append];by_cases h:az[j].var=(v:Int);rw[if_pos h];have:(az.take j).find? (λa=>a.var==(v:Int))=none:=by rw[find?_eq_none];intro b w;have⟨i,c⟩:=mem_iff_getElem?.1 w;have u:i<j:=(by have:=(ζe.1 c).1;rw[length_take]at this;omega);rw[List.getElem?_take_of_lt u]at c;have:=hd i j b az[j] u c (ζd B);simp;omega
 rw[this,List.find?_cons_of_pos (by simpa using h)];rfl;rw[if_neg h,List.find?_cons_of_neg (by simpa using h)];simp
theorem Ow{az:aZ Assign}(hd:Et az){j:Nat}(B:j<az.length)(h:az[j].var=(v:Int)):mI (az.take j) v=none:=by
 unfold mI;rw[Option.map_eq_none_iff,find?_eq_none];intro b w;have⟨i,a⟩:=mem_iff_getElem?.1 w;have u:i<j:=by have:=(ζe.1 a).1;rw[length_take]at this;omega
 rw[List.getElem?_take_of_lt u]at a;have:=hd i j b az[j] u a (ζd B);simp;omega
theorem O1{t:Z4}(f:Small t)(U:Ok t){n:Nat}(J:t.procs.l[n]?=some P)(B:v<P.vars.l.length):
 Wp (fW t n v) λr=>pW (qE P v P.events.l.length) r.1/\isMax (qE P v P.events.l.length) r.2:=by
 have T:=mem_of_getElem? J;have L:=f.2 P T;have Q:=Pf.of U J;have C:idx t.procs (n:Int)=some P:=by rw[jd];exact J
 unfold fW;rw[C,ζb,bF B,ζb];unfold fW.W1;have d:qE P v 0=[P.vars.l[v].init_]:=by simp[qE,mY,iL,ζd B]
 refine fC P.events.l.length (λi s=>s.2.2=(i:Int)/\pW (qE P v i) s.1/\isMax (qE P v i) s.2.1) ⟨rfl,by rw[d];exact⟨Zab,λx C=>by simp at C;show P.vars.l[v].init_<=x;omega⟩,by rw[d];exact⟨Zab,λx C=>by simp at C;show x<=P.vars.l[v].init_;omega⟩⟩ ?_ ?_
 .rintro i ⟨c,b,_⟩ hi ⟨rfl,w,z⟩;simp only at w z;have D:=getElem_mem hi;have hd:=Q.dst _ D;have W:=L.2.2.2.2 _ D;have u:=GU Q B (ζd hi);unfold fW.bn;rw[C,ζb,gE hi,bE,ζb,bF hi,ζb];generalize P.events.l[i]=e at *;unfold fW.W2;refine fC e.assign.l.length (λj s=>s.2.2=(j:Int)/\(s.1,s.2.1)=gO (mI (e.assign.l.take j) v) c b) ⟨rfl,by simp[mI,gO]⟩ ?_ ?_
  .rintro j ⟨g,O,_⟩ G ⟨rfl,a⟩;unfold fW.bV;rw[gE G,bE,bF G,ζb]
   by_cases I:e.assign.l[j].var=(v:Int)
   .rw[show(e.assign.l[j].var==(v:Int))=true from by simpa using I,bE,ζb,ζb,bh,cF j Zaa]
    rw[Ow hd G I]at a;simp only[gO,ζc]at a;obtain⟨rfl,rfl⟩:=a;refine⟨rfl,?_⟩;rw[HH hd G,if_pos I];rfl
   rw[show(e.assign.l[j].var==(v:Int))=false from by simpa using I,bJ,bh,cF j Zaa]
   refine⟨rfl,?_⟩;rw[HH hd G,if_neg I];exact a
  rintro⟨g,O,_⟩ ⟨rfl,a⟩;unfold fW.bV;rw[iA,bJ,bh];simp only;rw[bh,cF i Zaa]
  rw[take_length]at a;refine⟨rfl,?_⟩;simp only;rw[Ms]
  cases S:mI e.assign.l v with
  |none=>rw[S]at a u;simp only[gO,ζc]at a;obtain⟨rfl,rfl⟩:=a;rw[show mY P v (i+1)=mY P v i from u];exact⟨w.old (Gk (le_refl _)),z.old (Gk (le_refl _))⟩|some x=>rw[S]at a u;simp only[gO,ζc]at a;obtain⟨rfl,rfl⟩:=a;rw[show mY P v (i+1)=x from u];exact⟨w.snoc,z.snoc⟩
 rintro⟨c,b,_⟩ ⟨rfl,w,z⟩;unfold fW.bn;rw[C,ζb,iA,bJ,bh];exact(bh _).2 ⟨w,z⟩
end
theorem U3{t:Z4}(a:Small t):∃b,wO t=some b:=by
 have c:∀e:WF,pU e=some (decide (len e.assign>20)):=λe=>rfl;have w:∀P∈t.procs.l,∃b,mL P=some b:=λP u=>by unfold mL;rw[AJ (f:=λe=>decide (len e.assign>20)) (λe _=>c e) (a.2 P u).1];cases decide (len P.events>70)<;>cases decide (len P.vars>20)<;>exact⟨_,rfl⟩
 unfold wO;rw[Bh (p:=λz=>mL z) (f:=λP=>(mL P).getD false) (λP u=>by have⟨b,B⟩:=w P u;rw[B];rfl) a.1];cases decide (len t.procs>10)<;>exact⟨_,rfl⟩
section
variable{t:Z4}{A:cH 200 bM}
theorem KJ(a:Small t){p:Nat}{P:bX}(D:t.procs.l[p]?=some P)(q:Nat):fD t p q=some ((P.events.l.countP (ec q):Nat):Int):=by
 have G:P∈t.procs.l:=mem_of_getElem? D;have I:=(a.2 P G).1;refine Wp.eq ?_;unfold fD;rw[jd,D,ζb];unfold fD.W1;refine fC P.events.l.length (λn s=>s.2=(n:Int)/\s.1=(((P.events.l.take n).countP (ec q):Nat):Int)) ⟨rfl,rfl⟩ ?_ ?_;rintro n ⟨o,_⟩ w ⟨e1,e2⟩;simp only at e1 e2;subst e1 e2;have z:=countP_le_length (p:=ec q) (l:=P.events.l.take n);rw[length_take]at z;have u:(P.events.l.take (n+1)).countP (ec q)=(P.events.l.take n).countP (ec q)+if ec q P.events.l[n]then 1 else 0:=by rw[take_add_one,ζd w,countP_append];show _+countP _ [P.events.l[n]]=_;rw[countP_cons,countP_nil];simp
 unfold fD.bn;rw[gE w,bE,bF w,ζb];generalize P.events.l[n]=e at u;have B:(bl (e.kind==2) (some (e.peer==(q:Int))) (some false):a_ X')=some (ec q e):=by unfold ec;cases e.kind==2<;>cases e.peer==(q:Int)<;>rfl
 rw[B,ζb,cF n Zaa];cases C:ec q e with|true=>rw[C]at u;rw[bE,bh,cF _ Zaa];exact⟨rfl,by simp only[u];rfl⟩|false=>rw[C]at u;rw[bJ,bh];exact⟨rfl,by simp only[u];rfl⟩
 rintro⟨o,_⟩ ⟨e1,e2⟩;simp only at e1 e2;subst e1 e2;unfold fD.bn;rw[iA,bJ,bh];exact(bh _).2 (by rw[take_length])
theorem MM{α:Type}{f:α->X'}{l:aZ α}{n:Nat}(h:n<l.length):(l.take (n+1)).countP f=(l.take n).countP f+if f l[n]then 1 else 0:=by rw[take_add_one,ζd h,countP_append];show _+countP _ [l[n]]=_;rw[countP_cons,countP_nil];simp
end
section
variable{t:Z4}
theorem Uk(a:Small t){p:Nat}{P:bX}(D:t.procs.l[p]?=some P)(q:Int):jt t p q=some ((P.events.l.countP (ec q):Nat):Int):=by
 have I:P∈t.procs.l:=mem_of_getElem? D;have J:=(a.2 P I).1;have C:idx t.procs (p:Int)=some P:=by rw[jd];exact D
 refine Wp.eq ?_;unfold jt jt.W1;refine fC P.events.l.length (λn s=>s.2=(n:Int)/\s.1=(((P.events.l.take n).countP (ec q):Nat):Int)) ⟨rfl,rfl⟩ ?_ ?_;rintro n ⟨o,_⟩ w ⟨e1,e2⟩;simp only at e1 e2;subst e1 e2;have z:=countP_le_length (p:=ec q) (l:=P.events.l.take n);rw[length_take]at z;have u:=MM (f:=ec q) w;unfold jt.bn;rw[C,ζb,gE w,bE,ζb,bF w,ζb];generalize P.events.l[n]=e at u;have B:(bl (e.kind==2) (some (e.peer==q)) (some false):a_ X')=some (ec q e):=by unfold ec;cases e.kind==2<;>cases e.peer==q<;>rfl
 rw[B,ζb,cF n Zaa];cases G:ec q e with|true=>rw[G]at u;rw[bE,bh,cF _ Zaa];exact⟨rfl,by simp only[u];rfl⟩|false=>rw[G]at u;rw[bJ,bh];exact⟨rfl,by simp only[u];rfl⟩
 rintro⟨o,_⟩ ⟨e1,e2⟩;simp only at e1 e2;subst e1 e2;unfold jt.bn;rw[C,ζb,iA,bJ,bh];exact(bh _).2 (by rw[take_length])
def AM(b a:Int):X':=decide (b>=-1125899906842624)&&decide (a<=1125899906842624)
structure GQ(low high:Int):Prop where
 le:low<=high
 lo:-1125899906842624<=low
 hi:high<=1125899906842624
theorem EL(b a:Int)(r:Z4×Pred->a_ (Int×Int×X')):bW.J3 b a r=some (b,a,AM b a):=by unfold bW.J3 AM;cases decide (b>=-1125899906842624)<;>rfl
theorem JM(b a:Int):jH ⟨b,a⟩=some (!AM b a):=by
 unfold jH AM;have c:decide (b< -1125899906842624)= !decide (b>=-1125899906842624):=by rw[Bool.eq_iff_iff];simp
 have u:decide (a>1125899906842624)= !decide (a<=1125899906842624):=by rw[Bool.eq_iff_iff];simp
 simp only;rw[c,u];cases decide (b>=-1125899906842624)<;>cases decide (a<=1125899906842624)<;>rfl
theorem GQ.of{b a:Int}(h:b<=a)(g:AM b a=true):GQ b a:=by simp only[AM,ζh]at g;have:=of_decide_eq_true g.1;have:=of_decide_eq_true g.2;exact⟨h,Zaa,Zaa⟩
theorem z_(a b c d:Int)(p:Pred)(r:Z4×Pred->a_ (Int×Int×X')):bW.J2 a b c d true true t p r=(bl (p.kind==1) (bW.J3 p.n p.n r) (bl (p.kind==2) ((jx t p.proc p.name).bind λg=>(fW t p.proc g).bind λf=>bW.J3 f.1 f.2 r) (bl (p.kind==3) ((idx t.procs p.proc).bind λh=>bW.J3 0 (len h.events) r) (bl (p.kind==4) ((jt t p.proc p.peer).bind λi=>bW.J3 0 i r) (bl (p.kind==5) (bW.J3 (wrap .i64 (0-b)) (wrap .i64 (0-a)) r) (bl (p.kind==6) (bW.J3 (wrap .i64 (a+c)) (wrap .i64 (b+d)) r) (bl (p.kind==7) (bW.J3 (wrap .i64 (a-d)) (wrap .i64 (b-c)) r) ((cU a c).bind λB=>(cU a d).bind λD=>(cU b c).bind λG=>(cU b d).bind λJ=>(cU a c).bind λU=>(cU a d).bind λW=>(cU b c).bind λY=>(cU b d).bind λe=>bW.J3 (if(if J<G then J else G)<(if D<B then D else B)then(if J<G then J else G)else(if D<B then D else B)) (if(if e>Y then e else Y)>(if W>U then W else U)then(if e>Y then e else Y)else(if W>U then W else U)) r))))))):a_ (Int×Int×X')):=rfl
theorem TV{a b c d:Int}{ok B:X'}(h:(ok&&B)=false)(p:Pred)(r:Z4×Pred->a_ (Int×Int×X')):bW.J2 a b c d ok B t p r=some (0,0,false):=by unfold bW.J2;cases ok<;>cases B<;>first|rfl|cases h
theorem yw{a b:Int}(B:-1125899906842624<=a/\a<=1125899906842624)(D:-1125899906842624<=b/\b<=1125899906842624):∃x,cU a b=some x:=by
 unfold cU cU.J1;by_cases c:a=0;subst c;exact⟨_,rfl⟩;rw[show(a==0)=false from by simpa using c,bJ,ζb];by_cases d:b=0;subst d;exact⟨_,rfl⟩;rw[show(b==0)=false from by simpa using d,show(!false)=true from rfl,bE,gW (0-b) Zaa Zaa];have:∀k m:Int,m≠0->∃x,zU .i64 k m=some x:=λk m u=>by unfold zU;rw[if_neg u];exact⟨_,rfl⟩
 have⟨x,w⟩:=this 1125899906842624 (if 0-b>b then 0-b else b) (by split<;>omega);rw[w,ζb];cases decide ((if wrap .i64 (0-a)>a then wrap .i64 (0-a)else a)>x)<;>cases(decide (a<0)==decide (b<0))<;>exact⟨_,rfl⟩
theorem PZ(g:Small t)(j:dz t=some true)(G:Ok t){q:Pred}(U:fB q=true)(d:o9 t q=true)(x:q.kind<=4):
 ∃f c,mH t q=some ⟨f,c⟩/\f<=c/\∀r,bW.J2 0 0 0 0 true true t q r=bW.J3 f c r:=by
 obtain⟨k1,-,-⟩:=xo U;rcases(show q.kind=1\/q.kind=2\/q.kind=3\/q.kind=4 by omega)with h|h|h|h
 .refine⟨q.n,q.n,?_,Int.le_refl _,λr=>?_⟩
  .unfold mH;rw[show(q.kind==1)=true from by simpa using h,bE,Yw];rfl
  rw[z_,show(q.kind==1)=true from by simpa using h,bE]
 .unfold o9 at d;rw[if_pos (by simpa using h)]at d
  simp only[ζh]at d;obtain⟨O,-,w⟩:=d;have⟨i,l,o⟩:=FB g (p:=q.proc) (by simp only[ζh];exact O) q.name
  rcases o with⟨n,k,P,v,u,z,rfl,B,s,Q,-⟩|⟨-,C⟩
  .have⟨⟨f,c,e⟩,g1,g2,g3,g4⟩:=O2 g j G z (name:=q.name) B s Q;simp only at g2 g3 g4;subst g2;have⟨⟨a,b⟩,S,I,J⟩:=O1 g G z (v:=k) (ζe.1 B).1;simp only at I J;obtain rfl:=g3.one I;obtain rfl:=g4.one J;refine⟨f,c,?_,g4.2 _ g3.1,λr=>?_⟩
   .unfold mH;rw[h,show((2:Int)==1)=false from rfl,bJ,show((2:Int)==3)=false from rfl,bJ,show((2:Int)==4)=false from rfl,bJ,u,g1];rfl
   rw[z_,h,show((2:Int)==1)=false from rfl,bJ,show((2:Int)==2)=true from rfl,bE,l,ζb,u,S,ζb]
  rw[C]at w;cases w
 .unfold o9 at d;rw[if_neg (by simp[h]),if_pos (by simpa using h)]at d
  simp only[ζh]at d;have⟨n,u,D⟩:=vP (t:=t) (p:=q.proc) (by simp only[ζh];exact d.1)
  refine⟨0,len t.procs.l[n].events,?_,by simp only[len];omega,λr=>?_⟩
  .unfold mH;rw[h,show((3:Int)==1)=false from rfl,bJ,show((3:Int)==3)=true from rfl,bE,u,bF D];rfl
  rw[z_,h,show((3:Int)==1)=false from rfl,bJ,show((3:Int)==2)=false from rfl,bJ,show((3:Int)==3)=true from rfl,bE,u,bF D];rfl
 unfold o9 at d;rw[if_neg (by simp[h]),if_neg (by simp[h]),if_pos (by simpa using h)]at d
 simp only[ζh]at d;have⟨n,u,D⟩:=vP (t:=t) (p:=q.proc) (by simp only[ζh];exact d.1)
 have⟨m,L,T⟩:=vP (t:=t) (p:=q.peer) (by simp only[ζh];exact d.2.1)
 have z:=ζd D;refine⟨0,((t.procs.l[n].events.l.countP (ec m):Nat):Int),?_,Zaa,λr=>?_⟩
 .unfold mH;rw[h,show((4:Int)==1)=false from rfl,bJ,show((4:Int)==3)=false from rfl,bJ,show((4:Int)==4)=true from rfl,bE,u,L,KJ g z];rfl
 rw[z_,h,show((4:Int)==1)=false from rfl,bJ,show((4:Int)==2)=false from rfl,bJ,show((4:Int)==3)=false from rfl,bJ,show((4:Int)==4)=true from rfl,bE,u,L,Uk g z];rfl
end
section
variable{t:Z4}
theorem TR(v:b7)(l h:Int)(r:Z4×Pred->a_ (b7×X')):dD.J2 v ⟨l,h⟩ r=some (⟨l,h⟩,AM l h):=by unfold dD.J2;rw[JM,ζb,not_not]
theorem Qk{ok B:X'}(h:(ok&&B)=false)(p:Pred)(v a b:b7)(r:Z4×Pred->a_ (b7×X')):dD.J1 ok B p v a b r=some (⟨0,0⟩,false):=by unfold dD.J1;cases ok<;>cases B<;>first|rfl|cases h
theorem HL{p:Pred}(i:5<=p.kind/\p.kind<=8){a b c d:Int}(g:GQ a b)(J:GQ c d)(v:b7)(r:Z4×Pred->a_ (b7×X'))(B:Z4×Pred->a_ (Int×Int×X')):
 ∃f e,dD.J1 true true p v ⟨a,b⟩ ⟨c,d⟩ r=some (⟨f,e⟩,AM f e)/\bW.J2 a b c d true true t p B=some (f,e,AM f e)/\f<=e:=by
 have⟨O,Q,S⟩:=g;have⟨T,U,W⟩:=J;rw[z_];unfold dD.J1;rw[bE,ζb,show(!true)=false from rfl,bJ];rcases(show p.kind=5\/p.kind=6\/p.kind=7\/p.kind=8 by omega)with h|h|h|h<;>rw[h]
 .refine⟨-b,-a,?_,?_,Zaa⟩
  .rw[show((5:Int)==5)=true from rfl,bE,TR];simp only;rw[gW (0-b) Zaa Zaa,gW (0-a) Zaa Zaa,show(0:Int)-b=-b from Zaa,show(0:Int)-a=-a from Zaa]
  show bW.J3 _ _ B=_;rw[EL,gW (0-b) Zaa Zaa,gW (0-a) Zaa Zaa,show(0:Int)-b=-b from Zaa,show(0:Int)-a=-a from Zaa]
 .refine⟨a+c,b+d,?_,?_,Zaa⟩
  .rw[show((6:Int)==5)=false from rfl,bJ,show((6:Int)==6)=true from rfl,bE,TR];simp only;rw[gW (a+c) Zaa Zaa,gW (b+d) Zaa Zaa]
  show bW.J3 _ _ B=_;rw[EL,gW (a+c) Zaa Zaa,gW (b+d) Zaa Zaa]
 .refine⟨a-d,b-c,?_,?_,Zaa⟩
  .rw[show((7:Int)==5)=false from rfl,bJ,show((7:Int)==6)=false from rfl,bJ,show((7:Int)==7)=true from rfl,bE,TR];simp only;rw[gW (a-d) Zaa Zaa,gW (b-c) Zaa Zaa]
  show bW.J3 _ _ B=_;rw[EL,gW (a-d) Zaa Zaa,gW (b-c) Zaa Zaa]
 have⟨w,u⟩:=yw (a:=a) (b:=c) ⟨Zaa,Zaa⟩ ⟨Zaa,Zaa⟩
 have⟨x,C⟩:=yw (a:=a) (b:=d) ⟨Zaa,Zaa⟩ ⟨Zaa,Zaa⟩
 have⟨y,D⟩:=yw (a:=b) (b:=c) ⟨Zaa,Zaa⟩ ⟨Zaa,Zaa⟩
 have⟨z,G⟩:=yw (a:=b) (b:=d) ⟨Zaa,Zaa⟩ ⟨Zaa,Zaa⟩
 refine⟨if(if z<y then z else y)<(if x<w then x else w)then(if z<y then z else y)else(if x<w then x else w),if(if z>y then z else y)>(if x>w then x else w)then(if z>y then z else y)else(if x>w then x else w),?_,?_,?_⟩
 .rw[show((8:Int)==5)=false from rfl,bJ,show((8:Int)==6)=false from rfl,bJ,show((8:Int)==7)=false from rfl,bJ];simp only[Nh];rw[u,C,D,G];simp only[ζb];rw[YD,ζb,TR]
 .show (cU a c).bind _=_;rw[u,C,D,G];simp only[ζb];rw[EL]
 have L:(if z<y then z else y)<=(if z>y then z else y):=by split<;>split<;>omega
 have I:(if x<w then x else w)<=(if x>w then x else w):=by split<;>split<;>omega
 split<;>split<;>omega
theorem S4{k:Int}(h:(nQ k==1)=true):k<=8:=by unfold nQ at h;by_cases g:k<=8;exact g;rw[if_neg g]at h;cases h
theorem Pred.parts{p:Pred}(B:fB p=true){c:Int}(a:cH.at vn p.kind=some c):(p.l.l.length:Int)=c:=by obtain⟨-,-,h⟩:=xo B;rw[a]at h;exact(Option.some.inj h).symm
structure xS(t:Trace)(p:Pred):Prop where
 sm:p.Sm
 f:p.gH fB=true
 r:p.gH (o9 t)=true
 y:p.gH qX=true
theorem xS.uE{p q:Pred}(h:xS t p)(B:q∈p.l.l):xS t q:=by have⟨a,u,w,z⟩:=h;rw[p.lz,ζh,all_eq_true]at u w z;exact⟨a.uE B,u.2 q B,w.2 q B,z.2 q B⟩
theorem xS.here{p:Pred}(h:xS t p):fB p=true/\o9 t p=true/\qX p=true:=by have⟨a,u,w,z⟩:=h;rw[p.lz,ζh]at u w z;exact⟨u.1,w.1,z.1⟩
theorem xS.int{p q:Pred}(h:xS t p)(a:p.kind<=12)(B:q∈p.l.l):q.kind<=8:=by have:=h.here.2.2;unfold qX at this;rw[all_eq_true]at this;have:=this q B;unfold vz at this;rw[if_pos a]at this;exact S4 this
theorem Lo(m:Small t)(o:dz t=some true)(s:Ok t)(p:Pred):xS t p->p.kind<=8->∀n,p.dp<=n->
 ∃f e ok i,dA (λr(z:Z4×Pred)=>gT z.1 z.2 r) n (t,p)=some (i,ok)/\dA (λr(z:Z4×Pred)=>gU z.1 z.2 r) n (t,p)=some (f,e,ok)/\(ok=true->i=⟨f,e⟩/\GQ f e):=by
 induction p using Pred.ind with
 |h p B=>
  intro k E n F;have hd:=p.sB;have⟨D,v,H⟩:=k.here;obtain⟨k1,-,-⟩:=xo D;rw[jq Zaa,jq Zaa]
  have B:=λq I=>B q I (k.uE I) (k.int Zaa I) (n-1) (by have:=Pred.qQ I;omega)
  show∃f e ok i,gT t p (dA (λr(z:Z4×Pred)=>gT z.1 z.2 r) (n-1))=some (i,ok)/\gU t p (dA (λr(z:Z4×Pred)=>gU z.1 z.2 r) (n-1))=some (f,e,ok)/\_
  generalize dA (λr(z:Z4×Pred)=>gT z.1 z.2 r) (n-1)=R at B⊢
  generalize dA (λr(z:Z4×Pred)=>gU z.1 z.2 r) (n-1)=X at B⊢
  unfold gT gU bW.J1
  by_cases Z:p.kind<=4
  .have C:p.l.l.length=0:=by
    have:=Pred.parts D (c:=0) (by rcases(show p.kind=1\/p.kind=2\/p.kind=3\/p.kind=4 by omega)with h|h|h|h<;>(rw[h];rfl))
    omega
   have⟨f,e,g1,g2,g3⟩:=PZ m o s D v Z;refine⟨f,e,AM f e,⟨f,e⟩,?_,?_,λh=>⟨rfl,GQ.of g2 h⟩⟩
   .rw[show(len p.l==0)=true from by simp[len,C],bE,g1,ζb,JM,ζb,not_not]
   rw[decide_eq_false (show¬len p.l>0 by simp[len,C]),bJ,decide_eq_false (show¬len p.l>1 by simp[len,C]),bJ,g3,EL]
  by_cases Y:p.kind=5
  .have u:p.l.l.length=1:=by
    have:=Pred.parts D (c:=1) (by rw[Y];rfl)
    omega
   have g:0<p.l.l.length:=Zaa
   have⟨a,b,ok,i,g1,g2,g3⟩:=B _ (getElem_mem g);have O:idx p.l 0=some p.l.l[0]:=bF (i:=0) g;rw[show(len p.l==0)=false from by simp[len,u],bJ,O,ζb,g1,ζb,show(len p.l==2)=false from by simp[len,u],bJ,
    decide_eq_true (show len p.l>0 by simp[len,u]),bE,ζb,g2,ζb,decide_eq_false (show¬len p.l>1 by simp[len,u]),bJ]
   simp only
   cases ok with
   |false=>rw[Qk rfl,TV rfl];exact⟨0,0,false,_,rfl,rfl,λh=>by cases h⟩|true=>
    obtain⟨rfl,J⟩:=g3 rfl;have⟨f,e,Q,S,T⟩:=HL (t:=t) (p:=p) ⟨Zaa,Zaa⟩ J J ⟨0,0⟩ R X
    refine⟨f,e,AM f e,⟨f,e⟩,Q,?_,λh=>⟨rfl,GQ.of T h⟩⟩
    rw[<-S,z_,z_,Y];rfl
  have w:p.l.l.length=2:=by have:=Pred.parts D (c:=2) (by rcases(show p.kind=6\/p.kind=7\/p.kind=8 by omega)with h|h|h<;>(rw[h];rfl));omega
  have g:0<p.l.l.length:=Zaa
  have l:1<p.l.l.length:=Zaa
  have⟨a,b,ok,i,g1,g2,g3⟩:=B _ (getElem_mem g);have⟨c,d,G,j,x,y,A⟩:=B _ (getElem_mem l);have O:idx p.l 0=some p.l.l[0]:=bF (i:=0) g;have U:idx p.l 1=some p.l.l[1]:=bF (i:=1) l;rw[show(len p.l==0)=false from by simp[len,w],bJ,O,ζb,g1,ζb,show(len p.l==2)=true from by simp[len,w],bE,U,ζb,x,ζb,
   decide_eq_true (show len p.l>0 by simp[len,w]),bE,ζb,g2,ζb,decide_eq_true (show len p.l>1 by simp[len,w]),bE,ζb,y,ζb]
  simp only
  cases L:ok&&G with
  |false=>rw[Qk L,TV L];exact⟨0,0,false,_,rfl,rfl,λh=>by cases h⟩|true=>
   simp only[ζh]at L;obtain⟨rfl,rfl⟩:=L;obtain⟨rfl,J⟩:=g3 rfl;obtain⟨rfl,W⟩:=A rfl;have⟨f,e,Q,S,T⟩:=HL (t:=t) (p:=p) ⟨Zaa,Zaa⟩ J W ⟨0,0⟩ R X
   exact⟨f,e,AM f e,⟨f,e⟩,Q,S,λh=>⟨rfl,GQ.of T h⟩⟩
theorem MX(l:Small t)(m:dz t=some true)(B:Ok t)(p:Pred):xS t p->p.dp<=20->∀n,p.dp<=n->
 ∃b,dA (λr(z:Z4×Pred)=>iE z.1 z.2 r) n (t,p)=some b/\dA (λr(z:Z4×Pred)=>ki z.1 z.2 r) n (t,p)=some b:=by
 induction p using Pred.ind with
 |h p w=>
  intro a hd n I;have C:=p.sB;rw[jq Zaa,jq Zaa]
  have w:=λq u=>w q u (a.uE u) (by have:=Pred.qQ u;omega) (n-1) (by have:=Pred.qQ u;omega)
  show∃b,iE t p (dA (λr(z:Z4×Pred)=>iE z.1 z.2 r) (n-1))=some b/\ki t p (dA (λr(z:Z4×Pred)=>ki z.1 z.2 r) (n-1))=some b
  generalize dA (λr(z:Z4×Pred)=>iE z.1 z.2 r) (n-1)=R at w⊢
  generalize dA (λr(z:Z4×Pred)=>ki z.1 z.2 r) (n-1)=D at w⊢
  unfold iE ki;rw[BV,Dv,ζb,ζb]
  by_cases c:p.kind<=8
  .rw[show(nQ p.kind==1)=true from by simp[nQ,c],bE,bE]
   obtain⟨o,e,ok,i,g1,g2,-⟩:=Lo l m B p a c 100000 Zaa
   refine⟨ok,?_,?_⟩
   .show (dD t p).bind _=_;rw[show dD t p=_ from g1];rfl
   show(bW t p).bind _=_;rw[show bW t p=_ from g2];rfl
  rw[show(nQ p.kind==1)=false from by simp[nQ,c],bJ,bJ]
  let g:Pred->X':=λq=>(R (t,q)).getD false
  have j:∀q∈p.l.l,R (t,q)=some (g q)/\D (t,q)=some (g q):=λq u=>by have⟨b,k,G⟩:=w q u;exact⟨by show _=some ((R (t,q)).getD false);rw[k];rfl,by show _=some ((R (t,q)).getD false);rw[k,G];rfl⟩
  refine⟨p.l.l.all g,?_,?_⟩
  .rw[A0 _ a.sm.len,zM (f:=λq=> !g q) (λq u=>by
    unfold oQ;rw[(j q u).1];rfl)]
   simp only[map_some,ζb]
   congr 1
   rw[Bool.eq_iff_iff];simp
  unfold kJ.W1;refine wh (g:=g) a.sm.len (λi d=>?_) ?_
  .unfold kJ.bn;rw[gE d,bE,bF d,ζb,(j _ (getElem_mem d)).2,ζb,cF i (by have:=a.sm.len;omega)]
   cases g p.l.l[i]<;>rfl
  unfold kJ.bn;rw[iA];rfl
theorem Mn(a:Small t)(D:(bY t).length<1073741824){p:Pred}(B:p.Sm):
 ∃e,rV t p=some e/\uk t p=some e/\(e=0->dz t=some true/\VT t/\nP p=true/\xS t p):=by
 have⟨C,c,w,z⟩:=OG a D;unfold rV uk;rw[c,w,ζb,ζb]
 cases C with
 |false=>exact⟨1,rfl,rfl,λh=>by cases h⟩|true=>
  have d:=z rfl;rw[bE,bE,Av B,Aw B,ζb,ζb]
  cases G:nP p with
  |false=>exact⟨1,rfl,rfl,λh=>by cases h⟩|true=>
   have u:=G;simp only[nP,ζh]at u;have hd:=of_decide_eq_true u.2.1;unfold gF gB kJ vc;rw[show(!true)=false from rfl,bJ,ζb,bJ,IZ a B Zaa,JK a p B 100000 Zaa,ζb,ζb]
   cases g:p.gH (o9 t)with
   |false=>exact⟨13,rfl,rfl,λh=>by cases h⟩|true=>
    rw[bE,bE,Hv B Zaa,He p B u.2.2 100000 Zaa,ζb,ζb]
    cases I:p.gH qX with
    |false=>exact⟨14,rfl,rfl,λh=>by cases h⟩|true=>
     have f:xS t p:=⟨B,u.2.2,g,I⟩;have⟨b,g1,g2⟩:=MX a c d.ok p f hd 100000 Zaa
     rw[bE,bE,g1,g2,ζb]
     cases b with
     |false=>exact⟨9,rfl,rfl,λh=>by cases h⟩|true=>exact⟨0,rfl,rfl,λ_=>⟨rfl,d,rfl,f⟩⟩
end
end Go.VE
namespace Go.VE
theorem Code.one{t:Z4}{A:cH 200 bM}{c:SW}{r s:Int}(h:Code t A c r)(g:Code t A c s):r=s:=by rcases h with⟨h,rfl⟩|⟨a,u,rfl⟩|⟨a,u,rfl⟩|⟨a,u,rfl⟩<;>rcases g with⟨g,rfl⟩|⟨g1,g2,rfl⟩|⟨g1,g2,rfl⟩|⟨g1,g2,rfl⟩<;>first|rfl|contradiction|exact absurd ‹rj t c›.1 ‹_›
end Go.VE
