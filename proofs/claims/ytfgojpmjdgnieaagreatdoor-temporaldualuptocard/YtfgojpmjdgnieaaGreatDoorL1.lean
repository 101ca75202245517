/-
 The law in plain Lean, and the join.
-/
import Derived.Test.YtfgojpmjdgnieaaGreatDoorK1
import Derived.Test.YtfgojpmjdgnieaaGreatDoorG1
set_option linter.all false
open List(Nodup Pairwise all_eq_true any_eq_true drop_eq_getElem_cons ext_getElem? finRange getElem?_eq_none getElem?_map getElem?_set getElem?_take getElem_mem length_cons length_singleton length_take mapM_cons map_append map_cons map_nil mem_append mem_append_left mem_cons mem_cons_of_mem mem_map mem_of_getElem? mem_of_mem_take mem_range mem_singleton pairwise_cons pairwise_map range range' replicate sum_cons sum_nil take_add_one take_length take_of_length_le zipWith)
open Option(bind_eq_bind pure_def)
open Go.IntKind(signed wrap)
open Nat(le_refl zero_le)
open Bool(false_eq_true not_eq_true' or_eq_true)
open ByteArray(toList)
open Relation(TransGen)
open Classical(byContradiction)
open Int(toNat toNat_natCast)
open UInt8(ofNat)
namespace Go.VE
theorem Zh{p:Prop}(h:p:=by kernel_rfl):p:=h
instance:cD Var where
 wt x:=cD.wt x.name+cD.wt x.init_+1
 ok x:=cD.ok x.name/\cD.ok x.init_/\True
instance:cD Assign where
 wt x:=cD.wt x.var+cD.wt x.value+1
 ok x:=cD.ok x.var/\cD.ok x.value/\True
instance:cD Zn where
 wt x:=cD.wt x.kind+cD.wt x.peer+cD.wt x.message+cD.wt x.time+cD.wt x.assign+1
 ok x:=cD.ok x.kind/\cD.ok x.peer/\cD.ok x.message/\cD.ok x.time/\cD.ok x.assign/\True
instance:cD cz where
 wt x:=cD.wt x.name+cD.wt x.vars+cD.wt x.events+1
 ok x:=cD.ok x.name/\cD.ok x.vars/\cD.ok x.events/\True
instance:cD Zj where
 wt x:=cD.wt x.procs+1
 ok x:=cD.ok x.procs/\True
instance:cD bW where
 wt x:=cD.wt x.t+cD.wt x.l+cD.wt x.next+1
 ok x:=cD.ok x.t/\cD.ok x.l/\cD.ok x.next/\True
mutual
def Pred.TL:Pred->Nat
 |⟨f0,f1,f2,f3,B,f5⟩=>cD.wt f0+cD.wt f1+cD.wt f2+cD.wt f3+cD.wt B+Pred.UO f5+1
def Pred.UO:Sl Pred->Nat
 |.nil=>1|.emp=>1|.row l=>Pred.RB l+1|.part l=>Pred.RB l+1
def Pred.RB:a_ Pred->Nat
 |[]=>0|x::r=>Pred.TL x+Pred.RB r
end
mutual
def Pred.TU:Pred->Prop
 |⟨f0,f1,f2,f3,B,f5⟩=>cD.ok f0/\cD.ok f1/\cD.ok f2/\cD.ok f3/\cD.ok B/\Pred.UE f5/\True
def Pred.UE:Sl Pred->Prop
 |.nil=>True|.emp=>False|.row l=>Pred.Q_ l|.part l=>Pred.Q_ l
def Pred.Q_:a_ Pred->Prop
 |[]=>True|x::r=>Pred.TU x/\Pred.Q_ r
end
instance:cD Pred where
 wt:=Pred.TL
 ok:=Pred.TU
end Go.VE
namespace Go.VE.YtfgojpmjdgnieaaGreatDoor
open Go.Proofs Go.Proofs.YtfgojpmjdgnieaaGreatDoor
instance U9:Reads Tryz.prog 9 Zq:=Reads.str Tryz.underlying9 Zh
instance U6:Reads Tryz.prog 3 Int:=Reads.int Tryz.underlying3 Zh
instance US:Reads Tryz.prog 109 Var:=by refine Reads.st Tryz.underlying109 Zh rfl ?_;intro H enc w base a c u I l J h;simp only[mapM_cons,List.mapM_nil,pure_def,bind_eq_bind,ζg,ζa]at h;obtain⟨z,e,L,⟨B,f,O,rfl,rfl⟩,rfl⟩:=h;have⟨a0,C,k0,Q⟩:=Reads.rd (P:=Tryz.prog) (t:=9) (α:=Zq) (d:=z.1) (ps:=z.2) e;rw[show Tryz.prog.cellsOf 9=1 from by kernel_rfl]at C;have⟨a1,D,k1,S⟩:=Reads.rd (P:=Tryz.prog) (t:=3) (α:=Int) (d:=B.1) (ps:=B.2) f;rw[show Tryz.prog.cellsOf 3=1 from by kernel_rfl]at D;refine⟨⟨a0,a1⟩,fK.fin (n:=2) (fK.seg (o:=1) (n:=1) (fK.seg (o:=0) (n:=1) (show fK (snap w) [] (I.take 0)from by simpa using fK.nil) C) D) J,⟨k0,k1,trivial⟩,λb G=>?_⟩;have T:=Q b G;have U:=S b G;show cD.wt a0+cD.wt a1+1<=_;simp only[map_cons,map_nil,sum_cons,sum_nil];omega
instance UZ:Reads Tryz.prog 53 (Sl Var):=Reads.sl (e:=109) Tryz.underlying53 Zh (by decide)
instance UU:Reads Tryz.prog 111 Assign:=by refine Reads.st Tryz.underlying111 Zh rfl ?_;intro H enc w base a c u I l J h;simp only[mapM_cons,List.mapM_nil,pure_def,bind_eq_bind,ζg,ζa]at h;obtain⟨z,e,L,⟨B,f,O,rfl,rfl⟩,rfl⟩:=h;have⟨a0,C,k0,Q⟩:=Reads.rd (P:=Tryz.prog) (t:=3) (α:=Int) (d:=z.1) (ps:=z.2) e;rw[show Tryz.prog.cellsOf 3=1 from by kernel_rfl]at C;have⟨a1,D,k1,S⟩:=Reads.rd (P:=Tryz.prog) (t:=3) (α:=Int) (d:=B.1) (ps:=B.2) f;rw[show Tryz.prog.cellsOf 3=1 from by kernel_rfl]at D;refine⟨⟨a0,a1⟩,fK.fin (n:=2) (fK.seg (o:=1) (n:=1) (fK.seg (o:=0) (n:=1) (show fK (snap w) [] (I.take 0)from by simpa using fK.nil) C) D) J,⟨k0,k1,trivial⟩,λb G=>?_⟩;have T:=Q b G;have U:=S b G;show cD.wt a0+cD.wt a1+1<=_;simp only[map_cons,map_nil,sum_cons,sum_nil];omega
instance U3:Reads Tryz.prog 59 (Sl Assign):=Reads.sl (e:=111) Tryz.underlying59 Zh (by decide)
instance U0:Reads Tryz.prog 61 Zn:=by refine Reads.st Tryz.underlying61 Zh rfl ?_;intro H enc w base a c z T l U h;simp only[mapM_cons,List.mapM_nil,pure_def,bind_eq_bind,ζg,ζa]at h;obtain⟨B,e,W,⟨C,f,X,⟨x2,Y,Z,⟨D,g,r,⟨x4,i,s,rfl,rfl⟩,rfl⟩,rfl⟩,rfl⟩,rfl⟩:=h;have⟨a0,G,k0,j⟩:=Reads.rd (P:=Tryz.prog) (t:=3) (α:=Int) (d:=B.1) (ps:=B.2) e;rw[show Tryz.prog.cellsOf 3=1 from by kernel_rfl]at G;have⟨a1,I,k1,k⟩:=Reads.rd (P:=Tryz.prog) (t:=3) (α:=Int) (d:=C.1) (ps:=C.2) f;rw[show Tryz.prog.cellsOf 3=1 from by kernel_rfl]at I;have⟨a2,J,k2,m⟩:=Reads.rd (P:=Tryz.prog) (t:=3) (α:=Int) (d:=x2.1) (ps:=x2.2) Y;rw[show Tryz.prog.cellsOf 3=1 from by kernel_rfl]at J;have⟨L,O,k3,p⟩:=Reads.rd (P:=Tryz.prog) (t:=3) (α:=Int) (d:=D.1) (ps:=D.2) g;rw[show Tryz.prog.cellsOf 3=1 from by kernel_rfl]at O;have⟨Q,S,k4,q⟩:=Reads.rd (P:=Tryz.prog) (t:=59) (α:=(Sl Assign)) (d:=x4.1) (ps:=x4.2) i;rw[show Tryz.prog.cellsOf 59=1 from by kernel_rfl]at S;refine⟨⟨a0,a1,a2,L,Q⟩,fK.fin (n:=5) (fK.seg (o:=4) (n:=1) (fK.seg (o:=3) (n:=1) (fK.seg (o:=2) (n:=1) (fK.seg (o:=1) (n:=1) (fK.seg (o:=0) (n:=1) (show fK (snap w) [] (T.take 0)from by simpa using fK.nil) G) I) J) O) S) U,⟨k0,k1,k2,k3,k4,trivial⟩,λb u=>?_⟩;have v:=j b u;have x:=k b u;have y:=m b u;have A:=p b u;have E:=q b u;show cD.wt a0+cD.wt a1+cD.wt a2+cD.wt L+cD.wt Q+1<=_;simp only[map_cons,map_nil,sum_cons,sum_nil];omega
instance UW:Reads Tryz.prog 54 (Sl Zn):=Reads.sl (e:=61) Tryz.underlying54 Zh (by decide)
instance UX:Reads Tryz.prog 56 cz:=by refine Reads.st Tryz.underlying56 Zh rfl ?_;intro H enc w base a c z J l L h;simp only[mapM_cons,List.mapM_nil,pure_def,bind_eq_bind,ζg,ζa]at h;obtain⟨B,e,O,⟨C,f,Q,⟨x2,S,T,rfl,rfl⟩,rfl⟩,rfl⟩:=h;have⟨a0,D,k0,U⟩:=Reads.rd (P:=Tryz.prog) (t:=9) (α:=Zq) (d:=B.1) (ps:=B.2) e;rw[show Tryz.prog.cellsOf 9=1 from by kernel_rfl]at D;have⟨a1,G,k1,W⟩:=Reads.rd (P:=Tryz.prog) (t:=53) (α:=(Sl Var)) (d:=C.1) (ps:=C.2) f;rw[show Tryz.prog.cellsOf 53=1 from by kernel_rfl]at G;have⟨a2,I,k2,X⟩:=Reads.rd (P:=Tryz.prog) (t:=54) (α:=(Sl Zn)) (d:=x2.1) (ps:=x2.2) S;rw[show Tryz.prog.cellsOf 54=1 from by kernel_rfl]at I;refine⟨⟨a0,a1,a2⟩,fK.fin (n:=3) (fK.seg (o:=2) (n:=1) (fK.seg (o:=1) (n:=1) (fK.seg (o:=0) (n:=1) (show fK (snap w) [] (J.take 0)from by simpa using fK.nil) D) G) I) L,⟨k0,k1,k2,trivial⟩,λb u=>?_⟩;have Y:=U b u;have Z:=W b u;have g:=X b u;show cD.wt a0+cD.wt a1+cD.wt a2+1<=_;simp only[map_cons,map_nil,sum_cons,sum_nil];omega
instance UY:Reads Tryz.prog 22 (Sl cz):=Reads.sl (e:=56) Tryz.underlying22 Zh (by decide)
instance U4:Reads Tryz.prog 24 Zj:=by refine Reads.st Tryz.underlying24 Zh rfl ?_;intro H enc w base a c u C l D h;simp only[mapM_cons,List.mapM_nil,pure_def,bind_eq_bind,ζg,ζa]at h;obtain⟨z,e,G,rfl,rfl⟩:=h;have⟨a0,B,k0,I⟩:=Reads.rd (P:=Tryz.prog) (t:=22) (α:=(Sl cz)) (d:=z.1) (ps:=z.2) e;rw[show Tryz.prog.cellsOf 22=1 from by kernel_rfl]at B;refine⟨⟨a0⟩,fK.fin (n:=1) (fK.seg (o:=0) (n:=1) (show fK (snap w) [] (C.take 0)from by simpa using fK.nil) B) D,⟨k0,trivial⟩,λb J=>?_⟩;have L:=I b J;show cD.wt a0+1<=_;simp only[map_cons,map_nil,sum_cons,sum_nil];omega
instance U7:Reads Tryz.prog 4 Zl:=Reads.bool Tryz.underlying4 Zh
instance U5:Reads Tryz.prog 25 (Sl Zl):=Reads.sl (e:=4) Tryz.underlying25 Zh (by decide)
end Go.VE.YtfgojpmjdgnieaaGreatDoor
namespace Go.VE
end Go.VE
namespace Go.VE
abbrev Ko{α:Type}(m:bt α):Prop:=Wp m λ_=>True
theorem Ko.get{α:Type}{m:bt α}(h:Ko m):∃a,m=some a:=let⟨a,e,_⟩:=h;⟨a,e⟩
theorem Ko.ok{m:bt Zl}(h:Ko m):m=some (m.getD false):=by have⟨a,e,_⟩:=h;rw[e];rfl
def Small(t:Zj):Prop:=t.procs.l.length<1073741824/\∀p∈t.procs.l,p.events.l.length<1073741824/\p.vars.l.length<1073741824/\p.name.size<1073741824/\(∀v∈p.vars.l,v.name.size<1073741824)/\∀e∈p.events.l,e.assign.l.length<1073741824
section
theorem Jr{s:Sl Zn}{p:Zn->bt Zl}{f:Zn->Zl}(B:∀x∈s.l,p x=some (f x))(D:s.l.length<1073741824):fB s p=some (place f s.l):=oK B Za (λi=>rfl)
theorem KU{s:Sl cz}{p:cz->bt Zl}{f:cz->Zl}(B:∀x∈s.l,p x=some (f x))(D:s.l.length<1073741824):fS s p=some (place f s.l):=oK B Za (λi=>rfl)
theorem Nb{s:Sl Var}{p:Var->bt Zl}{f:Var->Zl}(B:∀x∈s.l,p x=some (f x))(D:s.l.length<1073741824):gm s p=some (place f s.l):=oK B Za (λi=>rfl)
theorem GU{s:Sl Assign}{p:Assign->bt Zl}{f:Assign->Zl}(B:∀x∈s.l,p x=some (f x))(D:s.l.length<1073741824):e8 s p=some (place f s.l):=oK B Za (λi=>rfl)
theorem xE{s:Sl Zn}{p:Zn->bt Zl}{f:Zn->Zl}(B:∀x∈s.l,p x=some (f x))(D:s.l.length<1073741824):gJ s p=some (s.l.any f):=by unfold gJ;rw[Jr B D,ζb,qQ]
theorem xQ{s:Sl cz}{p:cz->bt Zl}{f:cz->Zl}(B:∀x∈s.l,p x=some (f x))(D:s.l.length<1073741824):fL s p=some (s.l.any f):=by unfold fL;rw[KU B D,ζb,qQ]
theorem Hi{s:Sl Var}{p:Var->bt Zl}{f:Var->Zl}(B:∀x∈s.l,p x=some (f x))(D:s.l.length<1073741824):ir s p=some (s.l.any f):=by unfold ir;rw[Nb B D,ζb,qQ]
theorem CH{s:Sl Assign}{p:Assign->bt Zl}{f:Assign->Zl}(B:∀x∈s.l,p x=some (f x))(D:s.l.length<1073741824):gy s p=some (s.l.any f):=by unfold gy;rw[GU B D,ζb,qQ]
theorem od(x B D:Int):mm x B D=some (decide (B<=x)&&decide (x<=D)):=by unfold mm;rw[mT];rfl
theorem JS{s:Zq}{i:Nat}(h:i<s.size):∃x,kf s (i:Int)=some x:=by unfold kf;rw[if_pos Za];exact⟨_,by rw[show(s[(i:Int).toNat]?)=some s[i]from by simp[h]];rfl⟩
def j7(n:Nat)(p:Int)(e:Zn):Prop:=e.kind=1\/((e.kind=2\/e.kind=3)/\0<=e.peer/\e.peer<n/\e.peer≠p/\0<=e.message/\e.message<=199)
end
def kA(t:Zj)(p k:Nat)(e:Zn):Prop:=∃P,t.procs.l[p]?=some P/\P.events.l[k]?=some e
theorem sQ{p:Int}{x:bu×Zn}:∀{es:a_ Zn}{j:Int},x∈hU p j es↔∃k:Nat,es[k]?=some x.2/\x.1=⟨p,j+k+1⟩
 |[],j=>by simp[hU]|e::es,j=>by simp[hU,sQ];constructor;rintro(rfl|⟨k,a,B⟩);exact⟨0,rfl,Zc⟩;exact⟨k+1,Zd,Zd⟩;grind
theorem tN{x:bu×Zn}:∀{ps:a_ cz}{i:Int},x∈fe i ps↔∃(a k:Nat)(P:cz),ps[a]?=some P/\P.events.l[k]?=some x.2/\x.1=⟨i+a,k+1⟩
 |[],i=>by simp[fe]|p::ps,i=>by simp only[fe,mem_append,sQ,tN];constructor;rintro(⟨k,b,B⟩|⟨a,k,P,b,B,D⟩);exact⟨0,k,p,rfl,b,Zd⟩;exact⟨a+1,k,P,Ze,B,Zd⟩;grind
abbrev bZ(t:Trace):a_ (bu×Event):=fe 0 t.procs.l
theorem d_{t:Zj}{x:bu×Zn}:x∈bZ t↔∃p k:Nat,kA t p k x.2/\x.1=⟨p,k+1⟩:=by rw[tN];constructor;rintro⟨a,k,P,b,u,w⟩;exact⟨a,k,⟨P,b,u⟩,Zd⟩;rintro⟨a,k,⟨P,b,u⟩,w⟩;grind
theorem AK{t:Zj}{x y:bu×Zn}(B:x∈bZ t)(D:y∈bZ t)(h:x.1=y.1):x=y:=by have⟨p,k,⟨P,u,a⟩,e1⟩:=d_.1 B;have⟨q,j,⟨Q,w,z⟩,e2⟩:=d_.1 D;grind
theorem tX{t:Zj}(B:Small t):iH t=some (bZ t):=by unfold iH;rw[if_pos];simp[Ek];exact⟨by have:=B.1;omega,λp u=>by have:=(B.2 p u).1;omega⟩
def rM(t:Zj)(p m a:Int):Zl:=match t.procs.l[p.toNat]?with
 |some P=>P.events.l.any λe=>e.kind==2&&e.message==m&&e.peer==a|none=>false
theorem Nw{t:Zj}(B:Small t){p:Int}(b:0<=p)(c:p<t.procs.l.length)(m a:Int):sX t p m a=some (rM t p m a):=by unfold sX;have u:p.toNat<t.procs.l.length:=Za;have w:=getElem_mem u;rw[MV b,ζd u,ζb,xE (f:=λe=>e.kind==2&&e.message==m&&e.peer==a) (λe _=>by unfold pM;simp[mT]) (B.2 _ w).1,ζb];unfold rM;grind
theorem Bb{t:Zj}{p:Nat}{m a:Int}:rM t p m a=true↔∃k e,kA t p k e/\e.kind=2/\e.message=m/\e.peer=a:=by unfold rM kA;rw[show(p:Int).toNat=p from rfl];cases w:t.procs.l[p]?with|none=>simp|some P=>simp;constructor;rintro⟨e,u,h⟩;have⟨k,b⟩:=List.getElem?_of_mem u;grind;grind
def ag(A:cB 200 bJ)(m:Int):bJ:=(A.at m).getD default
theorem IQ(A:cB 200 bJ){m:Int}(a:0<=m)(b:m<=199):A.at m=some (ag A m):=by
 have:m.toNat<A.l.length:=by rw[A.len];omega
 unfold ag cB.at;grind
theorem qc(A:cB 200 bJ){m m':Int}(x:bJ)(a:0<=m)(b:m<=199)(B:0<=m'):ag (A.set m x) m'=if m'=m then x else ag A m':=by
 have:m.toNat<A.l.length:=by rw[A.len];omega
 unfold ag cB.at cB.set;grind
theorem Kl{m:Int}(a:0<=m)(b:m<=199):ag (cB.LR 200 (⟨⟨0,0⟩,⟨0,0⟩⟩:bJ)) m=⟨⟨0,0⟩,⟨0,0⟩⟩:=by unfold ag cB.at cB.LR;grind
structure iy(t:Trace)(its:List (bu×Event))(A:cB 200 bJ):Prop where
 snd:∀x∈its,x.2.kind=2->(ag A x.2.message).from_=x.1
 rcv:∀x∈its,x.2.kind=3->(ag A x.2.message).to_=x.1/\rM t x.2.peer x.2.message x.1.proc=true
 fr:∀m,0<=m->m<=199->(ag A m).from_.index=0\/∃e,((ag A m).from_,e)∈its/\e.kind=2/\e.message=m
 to:∀m,0<=m->m<=199->(ag A m).to_.index=0\/∃e,((ag A m).to_,e)∈its/\e.kind=3/\e.message=m
def Jd(a b:bu×Zn):Prop:=a.1.proc<b.1.proc\/a.1.proc=b.1.proc/\a.1.index<b.1.index
theorem LP{p:Int}:∀{es:a_ Zn}{j:Int},(hU p j es).Pairwise Jd
 |[],_=>Pairwise.nil|e::es,j=>by simp only[hU,pairwise_cons];refine⟨λb B=>?_,LP⟩;have⟨k,_,D⟩:=sQ.1 B;refine .inr ⟨by rw[D],?_⟩;grind
theorem FF:∀{ps:a_ cz}{i:Int},(fe i ps).Pairwise Jd
 |[],_=>Pairwise.nil|P::ps,i=>by simp only[fe,List.pairwise_append];refine⟨LP,FF,λa B b D=>.inl ?_⟩;have⟨k,_,G⟩:=sQ.1 B;have⟨c,j,P,_,_,u⟩:=tN.1 D;grind
theorem EE{t:Zj}{k:Nat}{x y:bu×Zn}(B:(bZ t)[k]?=some x)(D:y∈(bZ t).take k):y.1≠x.1:=by
 have⟨a,u⟩:=ζe.1 B;have w:((bZ t).take k++(bZ t).drop k).Pairwise Jd:=by rw[List.take_append_drop];exact FF
 have:=(List.pairwise_append.1 w).2.2 y D x (by rw[drop_eq_getElem_cons a,u];grind);unfold Jd at this;grind
structure vZ(t:Trace):Prop where
 snd:∀x∈bZ t,∀y∈bZ t,x.2.kind=2->y.2.kind=2->x.2.message=y.2.message->x.1=y.1
 rcv:∀x∈bZ t,∀y∈bZ t,x.2.kind=3->y.2.kind=3->x.2.message=y.2.message->x.1=y.1
 has:∀x∈bZ t,x.2.kind=3->rM t x.2.peer x.2.message x.1.proc=true
theorem iy.Ke{t:Zj}{A:cB 200 bJ}(h:iy t (bZ t) A):vZ t:=⟨λx w y z k2 u B=>by rw[<-h.snd x w k2,<-h.snd y z u,B],λx w y z k2 u B=>by rw[<-(h.rcv x w k2).1,<-(h.rcv y z u).1,B],λx w k=>(h.rcv x w k).2⟩
theorem BD{t:Zj}(l:Small t)(i:∀x∈bZ t,j7 t.procs.l.length x.1.proc x.2):Wp (eM t) λr=>(r.2.2=0->∃A,r.1=some A/\iy t (bZ t) A)/\(vZ t->r.2.2=0):=by
 unfold eM jy;rw[ζb];unfold eM.E1;rw[tX l,ζb];refine zG (λk A=>iy t ((bZ t).take k) A) ⟨Zc,Zc,λm c b=>.inl (by rw[Kl c b]),λm c b=>.inl (by rw[Kl c b])⟩ ?_ ?_;intro k x A f B;have G:=mem_of_getElem? f;have S:(bZ t).take (k+1)=(bZ t).take k++[x]:=by rw[take_add_one,f];rfl
 have⟨p,j,F,H⟩:=d_.1 G;have n:=i x G;unfold eM.sx;rw[cA];constructor;intro d;have L:x.2.kind=2:=by grind
 have u:0<=x.2.message/\x.2.message<=199:=by rcases n with h|⟨_,_,_,_,h⟩;omega;simp_all
 rw[IQ A u.1 u.2,ζb,cA];refine⟨λo=>(bz _).2 ((bz _).2 ⟨λh=>(by cases h),λX=>?_⟩),λc=>?_⟩;rcases B.fr _ u.1 u.2 with Y|⟨e,O,T,U⟩;grind;exact absurd (X.snd _ (mem_of_mem_take O) x G T L U) (EE f O);rw[ζb,bz,S];have W:∀y∈(bZ t).take k,y.2.kind=2->y.2.message≠x.2.message:=λy a w O=>by have:=B.snd y a w;rw[O]at this;have⟨p',q,_,Q⟩:=d_.1 (mem_of_mem_take a);grind
 have Z:∀y∈(bZ t).take k,y.2.kind=2\/y.2.kind=3->0<=y.2.message:=λy a w=>by rcases i y (mem_of_mem_take a)with h|⟨_,_,_,_,h,_⟩;omega;simp_all
 refine⟨λy a w=>?_,λy a z=>?_,λm C I=>?_,λm C I=>?_⟩;rcases mem_append.1 a with a|a;rw[qc A _ u.1 u.2 (Z y a (.inl w)),if_neg (W y a w)];exact B.snd y a w;simp at a;subst a;rw[qc A _ u.1 u.2 u.1,if_pos rfl];rcases mem_append.1 a with a|a;rw[qc A _ u.1 u.2 (Z y a (.inr z))];have:=B.rcv y a z;grind;grind;rw[qc A _ u.1 u.2 C];split;next e=>exact .inr ⟨x.2,Zc,L,e.symm⟩
 exact(B.fr m C I).imp (λh=>h) λ⟨e,b,D⟩=>⟨e,mem_append_left _ b,D⟩;rw[qc A _ u.1 u.2 C];have:=(B.to m C I).imp (λh=>h) λ⟨e,b,D⟩=>(⟨e,mem_append_left [x] b,D⟩:∃e,((ag A m).to_,e)∈(bZ t).take k++[x]/\e.kind=3/\e.message=m);split;next e=>subst e;omega
 omega;intro d;have L:=by simpa using d
 rw[cA];constructor;intro d;have J:=by simpa using d
 have u:0<=x.2.message/\x.2.message<=199/\0<=x.2.peer/\x.2.peer<t.procs.l.length:=by rcases n with h|⟨_,b,D,_,v,E⟩;omega;exact⟨v,E,b,D⟩
 rw[IQ A u.1 u.2.1,ζb,cA];refine⟨λo=>(bz _).2 ((bz _).2 ⟨λh=>(by cases h),λX=>?_⟩),λc=>?_⟩;rcases B.to _ u.1 u.2.1 with Y|⟨e,O,T,U⟩;simp[Y]at o;exact absurd (X.rcv _ (mem_of_mem_take O) x G T J U) (EE f O);have c:¬(ag A x.2.message).to_.index>0:=by simpa using c
 rw[Nw l u.2.2.1 u.2.2.2,ζb,cA];refine⟨λg=>?_,λg=>(bz _).2 ((bz _).2 ⟨λh=>(by cases h),λX=>by rw[X.has x G J]at g;cases g⟩)⟩;rw[ζb,bz,S];have W:∀y∈(bZ t).take k,y.2.kind=3->y.2.message≠x.2.message:=λy a w O=>by have:=(B.rcv y a w).1;rw[O]at this;rw[this]at c;have⟨p',q,_,Q⟩:=d_.1 (mem_of_mem_take a);rw[Q]at c;exact c (by show(q:Int)+1>0;omega)
 have Z:∀y∈(bZ t).take k,y.2.kind=2\/y.2.kind=3->0<=y.2.message:=λy a w=>by rcases i y (mem_of_mem_take a)with h|⟨_,_,_,_,h,_⟩;omega;exact h
 refine⟨λy a w=>?_,λy a z=>?_,λm C I=>?_,λm C I=>?_⟩;rcases mem_append.1 a with a|a;rw[qc A _ u.1 u.2.1 (Z y a (.inl w))];have:=B.snd y a w;split;next e=>rw[e]at this;exact this
 exact this;simp at a;subst a;omega;rcases mem_append.1 a with a|a;rw[qc A _ u.1 u.2.1 (Z y a (.inr z)),if_neg (W y a z)];exact B.rcv y a z;simp at a;subst a;rw[qc A _ u.1 u.2.1 u.1,if_pos rfl];exact⟨rfl,g⟩;rw[qc A _ u.1 u.2.1 C];have:=(B.fr m C I).imp (λh=>h) λ⟨e,b,D⟩=>(⟨e,mem_append_left [x] b,D⟩:∃e,((ag A m).from_,e)∈(bZ t).take k++[x]/\e.kind=2/\e.message=m);split;next e=>subst e;exact this
 exact this;rw[qc A _ u.1 u.2.1 C];split;next e=>exact .inr ⟨x.2,Zc,J,e.symm⟩
 exact(B.to m C I).imp (λh=>h) λ⟨e,b,D⟩=>⟨e,mem_append_left _ b,D⟩;intro d;have J:=by simpa using d
 rw[bz,S];refine⟨λy a w=>?_,λy a z=>?_,λm C I=>?_,λm C I=>?_⟩;rcases mem_append.1 a with a|a;exact B.snd y a w;simp at a;subst a;exact absurd w L;rcases mem_append.1 a with a|a;exact B.rcv y a z;simp at a;subst a;exact absurd z J;exact(B.fr m C I).imp (λh=>h) λ⟨e,b,D⟩=>⟨e,mem_append_left _ b,D⟩;exact(B.to m C I).imp (λh=>h) λ⟨e,b,D⟩=>⟨e,mem_append_left _ b,D⟩;intro A s;rw[take_length]at s;exact(bz _).2 ⟨λ_=>⟨A,rfl,s⟩,λ_=>rfl⟩
def iu(f:Nat->Zl)(k n:Nat):Zl:=(range' k (n-k)).any f
theorem DS{f:Nat->Zl}{k n:Nat}(h:k<n):iu f k n=(f k||iu f (k+1) n):=by unfold iu;rw[show n-k=(n-(k+1))+1 from Za,List.range'_succ];rfl
theorem Ms{f:Nat->Zl}{k n:Nat}(h:n<=k):iu f k n=false:=by unfold iu;rw[show n-k=0 from Za];rfl
theorem ME{f:Nat->Zl}{k n:Nat}:iu f k n=true↔∃i,k<=i/\i<n/\f i=true:=by unfold iu;rw[any_eq_true];constructor;rintro⟨i,w,u⟩;rw[List.mem_range'_1]at w;exact⟨i,w.1,Za,u⟩;rintro⟨i,a,z,u⟩;exact⟨i,by rw[List.mem_range'_1];omega,u⟩
theorem CU{step:Int->bt (Fw Int Unit Unit)}{n:Nat}(f:Nat->Zl)(D:n<9223372036854775807)(a:∀i:Nat,i<n->step i=some (if f i then .r ()else .n (wrap .i64 ((i:Int)+1))))(B:step (n:Int)=some (.x ())):
 ∀m k:Nat,k+m=n->b8 step (k:Int)=some (if iu f k n then .r ()else .x ()):=by
 intro m
 induction m with
 |zero=>
  intro k b;have:k=n:=Za
  subst this;rw[iU,B,Ms (le_refl _)];rfl
 |succ m u=>
  intro k b;rw[iU,a k Za,DS Za]
  cases w:f k with
  |true=>rfl|false=>
   simp only[false_eq_true,if_false,ζb,Bool.false_or];rw[dB k Za]
   exact u (k+1) Za
def ny(g:Nat->Int)(k n:Nat):Int:=match(range' k (n-k)).find? λi=> !(g i==0)with
 |some i=>g i|none=>0
theorem Ll{g:Nat->Int}{k n:Nat}(h:k<n):ny g k n=if g k=0 then ny g (k+1) n else g k:=by unfold ny;rw[show n-k=(n-(k+1))+1 from Za,List.range'_succ,List.find?_cons];by_cases a:g k=0;simp[a];rw[if_neg a,show(!(g k==0))=true from by simp[a]]
theorem Ns{g:Nat->Int}{k n:Nat}(h:n<=k):ny g k n=0:=by unfold ny;rw[show n-k=0 from Za];rfl
theorem Qo{step:Int->bt (Fw Int Unit Int)}{n:Nat}(g:Nat->Int)(D:n<9223372036854775807)(b:∀i:Nat,i<n->step i=some (if g i=0 then .n (wrap .i64 ((i:Int)+1))else .r (g i)))(B:step (n:Int)=some (.x ())):
 ∀m k:Nat,k+m=n->b8 step (k:Int)=some (if ny g k n=0 then .x ()else .r (ny g k n)):=by
 intro m
 induction m with
 |zero=>
  intro k c;have:k=n:=Za
  subst this;rw[iU,B,Ns (le_refl _)];rfl
 |succ m u=>
  intro k c;rw[iU,b k Za,Ll Za]
  by_cases a:g k=0
  .simp only[a,if_true,ζb];rw[dB k Za]
   exact u (k+1) Za
  simp only[a,if_false,ζb]
theorem wR{step:Int->bt (Fw Int Unit Int)}{n:Nat}(g:Nat->Int)(B:n<9223372036854775807)(a:∀i:Nat,i<n->step i=some (if g i=0 then .n (wrap .i64 ((i:Int)+1))else .r (g i)))(D:step (n:Int)=some (.x ())):b8 step 0=some (if ny g 0 n=0 then .x ()else .r (ny g 0 n)):=Qo g B a D n 0 Za
theorem Av{step:Int->bt (Fw Int Unit Unit)}{n:Nat}(f:Nat->Zl)(B:n<9223372036854775807)(a:∀i:Nat,i<n->step i=some (if f i then .r ()else .n (wrap .i64 ((i:Int)+1))))(D:step (n:Int)=some (.x ())):b8 step 0=some (if iu f 0 n then .r ()else .x ()):=CU f B a D n 0 Za
def vP(c:Int):Zl:=decide (c>=65)&&decide (c<=90)||decide (c>=97)&&decide (c<=122)
def A0(c:Int):Zl:=decide (c>=48)&&decide (c<=57)
theorem Bq(c:Int):o6 c=some (vP c):=by unfold o6 vP;simp only[mT,ku,ζb];rw[Bool.or_comm]
theorem B4(c:Int):nT c=some (vP c):=by unfold nT vP;simp only[mT,ku,ζb]
theorem KB(c:Int):s9 c=some (A0 c):=by unfold s9 A0;simp only[mT,ζb]
theorem L5(c:Int):rL c=some (A0 c):=by unfold rL A0;simp only[mT,ζb]
def u9(s:Zq)(i:Nat):Int:=(kf s (i:Int)).getD 0
theorem Cb{s:Zq}{i:Nat}(h:i<s.size):kf s (i:Int)=some (u9 s i):=by have⟨x,u⟩:=JS h;unfold u9;rw[u];rfl
def rB(s:Zq)(i:Nat):Zl:= !vP (u9 s i)&& !A0 (u9 s i)&& !(u9 s i==95)
def kJ(s:Zq):Zl:=decide (1<=s.size)&&decide (s.size<=16)&&vP (u9 s 0)&& !iu (rB s) 0 s.size
theorem JH{s:Zq}{i:Nat}(h:i<s.size):fJ.bG s (s.size:Int) i=some (if rB s i then .r ()else .n (wrap .i64 ((i:Int)+1))):=by unfold fJ.bG rB;rw[show decide ((i:Int)<(s.size:Int))=true from by simpa using h,b9,Cb h];simp only[ζb,Bq,KB];cases vP (u9 s i)<;>cases A0 (u9 s i)<;>cases(u9 s i==95)<;>rfl
theorem Jo{s:Zq}{i:Nat}(h:i<s.size):gA.bG s i=some (if rB s i then .r ()else .n (wrap .i64 ((i:Int)+1))):=by unfold gA.bG rB;rw[show decide ((i:Int)<((ByteArray.size s:Nat):Int))=true from by simpa using h,b9,Cb h];simp only[ζb,B4,L5];cases vP (u9 s i)<;>cases A0 (u9 s i)<;>cases(u9 s i==95)<;>rfl
theorem toList_empty{s:Zq}:(toList s==toList ByteArray.empty)=decide (s.size=0):=by
 rw[Bool.eq_iff_iff,beq_iff_eq,decide_eq_true_eq];constructor;intro h;have a:(toList s).length=s.size:=by rw[Go.ByteArray.toList_eq];simp
 rw[<-a,h];rw[Go.ByteArray.toList_eq];rfl;intro h;have:s=ByteArray.empty:=by apply ByteArray.ext;exact Array.eq_empty_of_size_eq_zero h
 rw[this]
theorem Dw{s:Zq}(B:s.size<1073741824):fJ s=some (kJ s):=by
 unfold fJ;rw[toList_empty];simp only[ku,ζb];by_cases b:s.size=0;simp[b,kJ,bE];by_cases u:s.size<=16;have a:(decide (s.size=0)||decide (((ByteArray.size s:Nat):Int)>16))=false:=by simp[b];omega
 rw[a,cK,show(0:Int)=((0:Nat):Int)from rfl,Cb (show 0<s.size by omega)];simp only[ζb,Bq];cases w:vP (u9 s 0)with|false=>simp[kJ,w,bE]|true=>simp only[Bool.not_true,cK];unfold fJ.W1;rw[CU (n:=s.size) (rB s) Za (λi z=>JH z) (by unfold fJ.bG;simp[bE]) s.size 0 Za];have:kJ s= !iu (rB s) 0 s.size:=(by simp[kJ,w,u];omega);rw[this];cases iu (rB s) 0 s.size<;>rfl
 have a:(decide (s.size=0)||decide (((ByteArray.size s:Nat):Int)>16))=true:=by simp;omega
 rw[a,b9];simp[kJ,u,bE]
theorem FG{s:Zq}(D:s.size<1073741824):gA s=some (kJ s):=by
 unfold gA;simp only[ku,ζb];by_cases c:s.size=0;simp[c,kJ,bE];by_cases u:s.size<=16;have a:(decide (((ByteArray.size s:Nat):Int)<1)||decide (((ByteArray.size s:Nat):Int)>16))=false:=by simp;omega
 rw[a,cK,show(0:Int)=((0:Nat):Int)from rfl,Cb (show 0<s.size by omega)];simp only[ζb,B4];cases w:vP (u9 s 0)with|false=>simp[kJ,w,bE]|true=>simp only[Bool.not_true,cK];unfold gA.W1;rw[show(1:Int)=((1:Nat):Int)from rfl,CU (n:=s.size) (rB s) Za (λi B=>Jo B) (by unfold gA.bG;simp[bE]) (s.size-1) 1 Za];have z:rB s 0=false:=(by simp[rB,w]);have:kJ s= !iu (rB s) 1 s.size:=(by have b:=DS (f:=rB s) (show 0<s.size by omega);rw[z]at b;simp[kJ,w,u,b];omega);rw[this];cases iu (rB s) 1 s.size<;>rfl
 have a:(decide (((ByteArray.size s:Nat):Int)<1)||decide (((ByteArray.size s:Nat):Int)>16))=true:=by simp;omega
 rw[a,b9];simp[kJ,u,bE]
def fO{α:Type}(l:a_ α)(f:α->Zl)(i:Nat):Zl:=match l[i]?with|some y=>f y|none=>false
theorem yd{α:Type}{l:a_ α}{f:α->Zl}{i:Nat}(h:i<l.length):fO l f i=f l[i]:=by unfold fO;rw[ζd h]
theorem A5{α:Type}{l:a_ α}{f:α->Zl}{p:Nat}:(l.take p).any f=iu (fO l f) 0 p:=by
 rw[Bool.eq_iff_iff,any_eq_true,ME];constructor;rintro⟨x,z,u⟩;have⟨i,w⟩:=List.getElem?_of_mem z;have B:=(ζe.1 w).1;rw[length_take]at B;rw[getElem?_take,if_pos Za]at w;exact⟨i,zero_le _,Za,by unfold fO;rw[w];exact u⟩;rintro⟨i,_,w,u⟩;unfold fO at u;split at u;next y C=>exact⟨y,mem_of_getElem? (i:=i) (by rw[getElem?_take,if_pos w];exact C),u⟩
 cases u
def qG(a b:Zq):Zl:=toList a==toList b
def Sf:Zl->Zl->Zl->Int
 |true,false,true=>0|true,false,false=>2|_,_,_=>13
def tB(P:cz)(i:Nat):Int:=match P.vars.l[i]?with
 |some v=>Sf (kJ v.name) (iu (fO P.vars.l λw=>qG w.name v.name) 0 i) (decide (v.init_>=-1073741824)&&decide (v.init_<=1073741824))|none=>0
def qX(t:Zj)(p:Nat):Int:=match t.procs.l[p]?with
 |some P=>if kJ P.name&& !iu (fO t.procs.l λy=>qG y.name P.name) 0 p then
  (if P.vars.l.length>8 then 5 else if ny (tB P) 0 P.vars.l.length=0 then(if P.events.l.length>64 then 5 else 0)else ny (tB P) 0 P.vars.l.length)else 13
 |none=>0
theorem C7{P:cz}{i:Nat}(h:i<P.vars.l.length):tB P i=Sf (kJ P.vars.l[i].name) (iu (fO P.vars.l λw=>qG w.name P.vars.l[i].name) 0 i) (decide (P.vars.l[i].init_>=-1073741824)&&decide (P.vars.l[i].init_<=1073741824)):=by unfold tB;rw[ζd h]
theorem DL(n:Int):o5 n=some (decide (n>=-1073741824)&&decide (n<=1073741824)):=by unfold o5;rw[mT];rfl
theorem L_{t:Zj}(W:Small t){p:Nat}(U:p<t.procs.l.length):eH t p=some (qX t p):=by
 have Y:=W.2 _ (getElem_mem U);have e:=W.1;unfold eH qX;rw[bX U,ζb,ζd U];generalize Z:t.procs.l[p]=P at *;have⟨T,g,Q,u,_⟩:=Y;rw[Dw Q,ζb];have⟨x,a,D⟩:=vh t.procs p Za;have G:fL x (λz=>jc z P)=some (iu (fO t.procs.l λy=>qG y.name P.name) 0 p):=by rw[xQ (p:=λz=>jc z P) (f:=λy=>qG y.name P.name) (λy _=>rfl) (by rw[D,length_take];omega),D,A5]
 rw[a,ζb,G,ζb];dsimp only;cases h:kJ P.name with|false=>simp[bE]|true=>rw[b9,ζb,Bool.true_and];cases j:iu (fO t.procs.l λy=>qG y.name P.name) 0 p with|true=>simp[bE]|false=>rw[cK];simp only[Bool.not_false,if_true];by_cases X:P.vars.l.length>8;rw[show decide (len P.vars>8)=true from by simp[len];omega,b9,if_pos X];rw[show decide (len P.vars>8)=false from by simp[len];omega,cK,if_neg X];unfold eH.W1;rw[wR (n:=P.vars.l.length) (tB P) Za (λi L=>?_) (by unfold eH.bG;simp[bE,len])];by_cases O:ny (tB P) 0 P.vars.l.length=0;rw[if_pos O,if_pos O];show bE (decide (len P.events>64)) (some 5) (some 0)=_;rw[sn];simp only[len,decide_eq_true_eq];by_cases I:P.events.l.length>64;rw[if_pos I,if_pos Za];rw[if_neg I,if_neg Za];rw[if_neg O,if_neg O];rfl;unfold eH.bG;rw[C7 L,show decide ((i:Int)<len P.vars)=true from by simp[len];exact L,b9,bX L,ζb];have b:=u _ (getElem_mem L);have⟨y,c,J⟩:=vh P.vars i Za;have S:ir y (λz=>jd z P.vars.l[i])=some (iu (fO P.vars.l λw=>qG w.name P.vars.l[i].name) 0 i):=(by rw[Hi (p:=λz=>jd z P.vars.l[i]) (f:=λw=>qG w.name P.vars.l[i].name) (λw _=>rfl) (by rw[J,length_take];omega),J,A5]);rw[Dw b,ζb,c,ζb,S,ζb,od];have d:(decide (-1073741824<=P.vars.l[i].init_)&&decide (P.vars.l[i].init_<=1073741824))=(decide (P.vars.l[i].init_>=-1073741824)&&decide (P.vars.l[i].init_<=1073741824)):=rfl;rw[d];generalize kJ P.vars.l[i].name=A;generalize iu (fO P.vars.l λw=>qG w.name P.vars.l[i].name) 0 i=B;generalize(decide (P.vars.l[i].init_>=-1073741824)&&decide (P.vars.l[i].init_<=1073741824))=C;cases A<;>cases B<;>cases C<;>rfl
theorem M9{t:Zj}(U:Small t){p:Nat}(O:p<t.procs.l.length):eo t p=some (qX t p):=by have T:=U.2 _ (getElem_mem O);have a:=U.1;unfold eo qX;rw[bX O,ζb,ζd O];generalize W:t.procs.l[p]=P at *;have⟨Q,X,L,z,_⟩:=T;rw[FG L,ζb];dsimp only;cases b:kJ P.name with|false=>simp[bE]|true=>rw[b9,Bool.true_and];unfold eo.W1;rw[Av (n:=p) (fO t.procs.l λy=>qG y.name P.name) Za (λi u=>?_) (by unfold eo.bG;simp[bE])];(cases c:iu (fO t.procs.l λy=>qG y.name P.name) 0 p with|true=>rfl|false=>simp only[Bool.not_false,if_true];show bE (decide (len P.vars>8)) (some 5) (eo.W2 0 P)=_;by_cases S:P.vars.l.length>8;rw[show decide (len P.vars>8)=true from by simp[len];omega,b9,if_pos S];rw[show decide (len P.vars>8)=false from by simp[len];omega,cK,if_neg S];unfold eo.W2;rw[wR (n:=P.vars.l.length) (tB P) Za (λi u=>?_) (by unfold eo.ct;simp[bE,len])];by_cases J:ny (tB P) 0 P.vars.l.length=0;rw[if_pos J,if_pos J];show bE (decide (len P.events>64)) (some 5) (some 0)=_;rw[sn];simp only[len,decide_eq_true_eq];by_cases D:P.events.l.length>64;rw[if_pos D,if_pos Za];rw[if_neg D,if_neg Za];rw[if_neg J,if_neg J];rfl;unfold eo.ct;rw[C7 u,show decide ((i:Int)<len P.vars)=true from by simp[len];exact u,b9,bX u,ζb];(rw[FG (z _ (getElem_mem u)),ζb];have Y:eo.W3 i 0 P=if iu (fO P.vars.l λw=>qG w.name P.vars.l[i].name) 0 i then some (.r 13)else(if decide (P.vars.l[i].init_>=-1073741824)&&decide (P.vars.l[i].init_<=1073741824)then some (.n (wrap .i64 ((i:Int)+1)))else some (.r 2)):=by unfold eo.W3;rw[Av (n:=i) (fO P.vars.l λw=>qG w.name P.vars.l[i].name) Za (λj Z=>?_) (by unfold eo.eP;simp[bE])];(cases iu (fO P.vars.l λw=>qG w.name P.vars.l[i].name) 0 i with|true=>rfl|false=>show(idx P.vars (i:Int)).bind _=_;rw[bX u,ζb,DL,ζb];cases(decide (P.vars.l[i].init_>=-1073741824)&&decide (P.vars.l[i].init_<=1073741824))<;>rfl);unfold eo.eP;have G:j<P.vars.l.length:=Za;rw[show decide ((j:Int)<(i:Int))=true from by simpa using Z,b9,bX G,ζb,bX u,ζb,yd G,sn];rfl);rw[Y];generalize kJ P.vars.l[i].name=A;generalize iu (fO P.vars.l λw=>qG w.name P.vars.l[i].name) 0 i=B;generalize(decide (P.vars.l[i].init_>=-1073741824)&&decide (P.vars.l[i].init_<=1073741824))=C;cases A<;>cases B<;>cases C<;>rfl);unfold eo.bG;have I:i<t.procs.l.length:=Za;rw[show decide ((i:Int)<(p:Int))=true from by simpa using u,b9,bX I,ζb,yd I,sn];rfl
def EC(n:Nat)(p:Int)(e:Zn):Zl:=if e.kind==1 then e.peer==0&&e.message==0 else(e.kind==2||e.kind==3)&&(decide (0<=e.peer)&&decide (e.peer<n))&& !(e.peer==p)&&(decide (0<=e.message)&&decide (e.message<=199))
theorem LW{t:Zj}(D:Small t)(p:Int)(e:Zn):gW t p e=some (EC t.procs.l.length p e):=by
 have a:=D.1;have w:wrap .i64 (len t.procs-1)=len t.procs-1:=mE _ (by simp[len];omega) (by simp[len];omega);have u:∀b:Zl,gW.J1 p b t e=some (b&&(decide (0<=e.peer)&&decide (e.peer<t.procs.l.length))&& !(e.peer==p)&&(decide (0<=e.message)&&decide (e.message<=199))):=by intro b;unfold gW.J1;simp only[od,w,ζb];have:decide (e.peer<=len t.procs-1)=decide (e.peer<t.procs.l.length):=(by congr 1;apply propext;simp[len];omega);rw[this];generalize(decide (0<=e.peer)&&decide (e.peer<(t.procs.l.length:Int)))=A;generalize(e.peer==p)=B;generalize(decide (0<=e.message)&&decide (e.message<=199))=C;cases b<;>cases A<;>cases B<;>cases C<;>rfl
 unfold gW EC;rw[u,u];cases a:e.kind==1 with|true=>rw[b9];cases e.peer==0<;>cases e.message==0<;>rfl|false=>rw[cK];simp only[false_eq_true,if_false];cases z:e.kind==2<;>simp[bE]
def BE(P:cz)(k:Nat)(e:Zn):Zl:=match k with|0=>false|j+1=>fO P.events.l (λx=>decide (e.time<x.time)) j
def s6(P:cz)(k:Nat)(e:Zn):Zl:=decide (e.time<0)||decide (e.time>1099511627776)||BE P k e
def RK:Zl->Zl->Zl->Int
 |true,true,false=>0|true,true,true=>8|_,_,_=>2
def p8(P:cz)(e:Zn)(i:Nat):Int:=match e.assign.l[i]?with
 |some a=>RK (decide (0<=a.var)&&decide (a.var<P.vars.l.length)) (decide (a.value>=-1073741824)&&decide (a.value<=1073741824)) (iu (fO e.assign.l λb=>b.var==a.var) 0 i)|none=>0
theorem C2{P:cz}{e:Zn}{i:Nat}(h:i<e.assign.l.length):p8 P e i=RK (decide (0<=e.assign.l[i].var)&&decide (e.assign.l[i].var<P.vars.l.length)) (decide (e.assign.l[i].value>=-1073741824)&&decide (e.assign.l[i].value<=1073741824)) (iu (fO e.assign.l λb=>b.var==e.assign.l[i].var) 0 i):=by unfold p8;rw[ζd h]
def oB(n:Nat)(P:cz)(p k:Nat)(e:Zn):Int:=if EC n p e then(if s6 P k e then 11 else if e.assign.l.length>8 then 5 else ny (p8 P e) 0 e.assign.l.length)else 3
theorem IE{P:cz}{e:Zn}(c:P.vars.l.length<1073741824)(U:e.assign.l.length<1073741824):dI.W2 e.assign (len e.assign) 0 e P=some (ny (p8 P e) 0 e.assign.l.length):=by
 have J:wrap .i64 (len P.vars-1)=len P.vars-1:=mE _ (by simp[len];omega) (by simp[len];omega);unfold dI.W2;rw[wR (n:=e.assign.l.length) (p8 P e) Za (λi D=>?_) (by unfold dI.ct;simp[bE,len])];by_cases G:ny (p8 P e) 0 e.assign.l.length=0;rw[if_pos G,G];rfl;rw[if_neg G];rfl;unfold dI.ct;have⟨y,L,u⟩:=vh e.assign i Za;have I:gy y (λz=>jK z e.assign.l[i])=some (iu (fO e.assign.l λb=>b.var==e.assign.l[i].var) 0 i):=by rw[CH (p:=λz=>jK z e.assign.l[i]) (f:=λb=>b.var==e.assign.l[i].var) (λw _=>rfl) (by rw[u,length_take];omega),u,A5]
 rw[C2 D,show decide ((i:Int)<len e.assign)=true from by simp[len];exact D,b9,bX D,ζb,od,od,J,L,ζb,ζb,ζb,I,ζb];have a:(decide (0<=e.assign.l[i].var)&&decide (e.assign.l[i].var<=len P.vars-1))=(decide (0<=e.assign.l[i].var)&&decide (e.assign.l[i].var<P.vars.l.length)):=by congr 2;apply propext;simp[len];omega
 have O:(decide (-1073741824<=e.assign.l[i].value)&&decide (e.assign.l[i].value<=1073741824))=(decide (e.assign.l[i].value>=-1073741824)&&decide (e.assign.l[i].value<=1073741824)):=rfl;rw[a,O];generalize(decide (0<=e.assign.l[i].var)&&decide (e.assign.l[i].var<(P.vars.l.length:Int)))=A;generalize(decide (e.assign.l[i].value>=-1073741824)&&decide (e.assign.l[i].value<=1073741824))=B;generalize iu (fO e.assign.l λb=>b.var==e.assign.l[i].var) 0 i=C;cases A<;>cases B<;>cases C<;>rfl
theorem Lt{t:Zj}(D:Small t){p k:Nat}{P:cz}{e:Zn}(G:t.procs.l[p]?=some P)(O:P.events.l[k]?=some e):dI t ⟨p,k+1⟩ e=some (oB t.procs.l.length P p k e):=by
 have⟨Q,w⟩:=ζe.1 G;have⟨a,z⟩:=ζe.1 O;have⟨I,B,_,_,C⟩:=D.2 P (w▸getElem_mem Q);have S:=C e (z▸getElem_mem a);have J:∀last:Int,((decide (0<=e.time)&&decide (e.time<=1099511627776))&& !decide (e.time<last))=(!s6 P k e)->
  dI.J1 last t ⟨p,k+1⟩ e P=some (oB t.procs.l.length P p k e):=by
  intro last T;unfold dI.J1 oB;rw[LW D,ζb,od,ζb,IE B S];dsimp only
  cases EC t.procs.l.length p e with
  |false=>rfl|true=>
   rw[b9,if_pos rfl];have:(bE (decide (0<=e.time)&&decide (e.time<=1099511627776)) (some (decide (e.time<last))) (some true):bt Zl)=some (s6 P k e):=by
    have U:(!((decide (0<=e.time)&&decide (e.time<=1099511627776))&& !decide (e.time<last)))=s6 P k e:=by rw[T,Bool.not_not]
    rw[<-U];cases(decide (0<=e.time)&&decide (e.time<=1099511627776))<;>cases decide (e.time<last)<;>rfl
   rw[this,ζb]
   cases s6 P k e with
   |true=>rfl|false=>
    rw[cK];simp only[false_eq_true,if_false]
    by_cases L:e.assign.l.length>8
    .rw[show decide (len e.assign>8)=true from by simp[len];omega,b9,if_pos L]
    rw[show decide (len e.assign>8)=false from by simp[len];omega,cK,if_neg L]
 unfold dI;dsimp only;rw[show idx t.procs (p:Int)=some P from by rw[lG];exact G,ζb];cases k with|zero=>rw[show decide (((0:Nat):Int)+1>1)=false from by decide,cK];refine J 0 ?_;simp only[s6,BE,Bool.or_false];rw[Bool.eq_iff_iff];simp only[ζh,not_eq_true',decide_eq_true_eq,decide_eq_false_iff_not,Bool.or_eq_false_iff];omega|succ j=>rw[show decide ((((j+1:Nat)):Int)+1>1)=true from by simp;omega,b9];have u:j<P.events.l.length:=Za;have W:wrap .i64 ((((j+1:Nat)):Int)+1-2)=((j:Nat):Int):=(by rw[mE _ Za Za];omega);rw[W,bX u,ζb];refine J _ ?_;simp only[s6,BE,yd u];rw[Bool.eq_iff_iff];simp only[ζh,not_eq_true',decide_eq_true_eq,decide_eq_false_iff_not,Bool.or_eq_false_iff];omega
theorem Jk{t:Zj}{p:Nat}{P:cz}{e:Zn}(D:t.procs.l[p]?=some P)(J:e.assign.l.length<1073741824):en.W2 p 0 t e=some (ny (p8 P e) 0 e.assign.l.length):=by
 unfold en.W2;rw[wR (n:=e.assign.l.length) (p8 P e) Za (λi w=>?_) (by unfold en.ct;simp[bE,len])];by_cases z:ny (p8 P e) 0 e.assign.l.length=0;rw[if_pos z,z];rfl;rw[if_neg z];rfl;unfold en.ct;have G:en.W3 p i 0 t e e.assign.l[i]=if iu (fO e.assign.l λb=>b.var==e.assign.l[i].var) 0 i then some (.r 8)else some (.n (wrap .i64 ((i:Int)+1))):=by unfold en.W3;rw[Av (n:=i) (fO e.assign.l λb=>b.var==e.assign.l[i].var) Za (λj I=>?_) (by unfold en.eP;simp[bE])];cases iu (fO e.assign.l λb=>b.var==e.assign.l[i].var) 0 i<;>rfl;unfold en.eP;have u:j<e.assign.l.length:=Za;rw[show decide ((j:Int)<(i:Int))=true from by simpa using I,b9,bX u,ζb,yd u,sn]
 rw[C2 w,show decide ((i:Int)<len e.assign)=true from by simp[len];exact w,b9,bX w,ζb,G,DL,ζb,show idx t.procs (p:Int)=some P from by rw[lG];exact D,ζb];have a:(bE (decide (e.assign.l[i].var<0)) (some true) (some (decide (e.assign.l[i].var>=len P.vars))):bt Zl)=some (!(decide (0<=e.assign.l[i].var)&&decide (e.assign.l[i].var<P.vars.l.length))):=by rw[ku];congr 1;rw[Bool.eq_iff_iff];simp only[or_eq_true,not_eq_true',decide_eq_true_eq,Bool.and_eq_false_iff,decide_eq_false_iff_not,len];omega
 rw[a,ζb];generalize(decide (0<=e.assign.l[i].var)&&decide (e.assign.l[i].var<(P.vars.l.length:Int)))=A;generalize(decide (e.assign.l[i].value>=-1073741824)&&decide (e.assign.l[i].value<=1073741824))=B;generalize iu (fO e.assign.l λb=>b.var==e.assign.l[i].var) 0 i=C;cases A<;>cases B<;>cases C<;>rfl
theorem NR{t:Zj}(U:Small t){p k:Nat}{P:cz}{e:Zn}(J:t.procs.l[p]?=some P)(O:P.events.l[k]?=some e):en t p k=some (oB t.procs.l.length P p k e):=by
 have⟨T,w⟩:=ζe.1 J;have⟨b,z⟩:=ζe.1 O;have⟨Q,W,_,_,I⟩:=U.2 P (w▸getElem_mem T);have X:=I e (z▸getElem_mem b);have Y:en.J1 p k t e=some (if s6 P k e then 11 else if e.assign.l.length>8 then 5 else ny (p8 P e) 0 e.assign.l.length):=by unfold en.J1;rw[ku,ζb,Jk J X,show idx t.procs (p:Int)=some P from by rw[lG];exact J,ζb];have a:(bE (decide ((k:Int)>0)) ((idx P.events (wrap .i64 ((k:Int)-1))).bind λL=>some (decide (e.time<L.time))) (some false):bt Zl)=some (BE P k e):=(by cases k with|zero=>rfl|succ j=>have u:j<P.events.l.length:=Za;rw[show decide ((((j+1:Nat)):Int)>0)=true from by simp only[decide_eq_true_eq];omega,b9,show wrap .i64 ((((j+1:Nat)):Int)-1)=((j:Nat):Int)from by rw[mE _ Za Za];omega,bX u,ζb];simp only[BE,yd u]);rw[a,ζb,ku,ζb];show bE (s6 P k e) _ _=_;cases s6 P k e with|true=>rfl|false=>rw[cK];simp only[false_eq_true,if_false];by_cases S:e.assign.l.length>8;rw[show decide (len e.assign>8)=true from by simp[len];omega,b9,if_pos S];rw[show decide (len e.assign>8)=false from by simp[len];omega,cK,if_neg S]
 unfold en oB;rw[show idx t.procs (p:Int)=some P from by rw[lG];exact J,ζb,show idx P.events (k:Int)=some e from by rw[lG];exact O,ζb,Y];unfold EC;cases a:e.kind==1 with|true=>rw[b9];simp only[if_true];cases e.peer==0<;>cases e.message==0<;>rfl|false=>rw[cK];simp only[false_eq_true,if_false];have c:(bE (e.kind==2) (some false) (some (!(e.kind==3))):bt Zl)=some (!(e.kind==2||e.kind==3)):=(by cases e.kind==2<;>rfl);rw[c,ζb,ku,ζb,ku,ζb,ku,ζb,ku,ζb,ku,ζb];have d:(((((!(e.kind==2||e.kind==3))||decide (e.peer<0))||decide (e.peer>=len t.procs))||(e.peer==p))||decide (e.message<0)||decide (e.message>199))= !((e.kind==2||e.kind==3)&&(decide (0<=e.peer)&&decide (e.peer<t.procs.l.length))&& !(e.peer==p)&&(decide (0<=e.message)&&decide (e.message<=199))):=(by generalize(e.kind==2||e.kind==3)=A;have a1:decide (e.peer<0)= !decide (0<=e.peer):=(by rw[Bool.eq_iff_iff];simp);have a2:decide (e.peer>=len t.procs)= !decide (e.peer<t.procs.l.length):=(by rw[Bool.eq_iff_iff];simp[len]);have a3:decide (e.message<0)= !decide (0<=e.message):=(by rw[Bool.eq_iff_iff];simp);have a4:decide (e.message>199)= !decide (e.message<=199):=(by rw[Bool.eq_iff_iff];simp);rw[a1,a2,a3,a4];generalize decide (0<=e.peer)=B;generalize decide (e.peer<(t.procs.l.length:Int))=C;generalize(e.peer==(p:Int))=D;generalize decide (0<=e.message)=F;generalize decide (e.message<=199)=G;cases A<;>cases B<;>cases C<;>cases D<;>cases F<;>cases G<;>rfl);rw[d];generalize((e.kind==2||e.kind==3)&&(decide (0<=e.peer)&&decide (e.peer<(t.procs.l.length:Int)))&& !(e.peer==(p:Int))&&(decide (0<=e.message)&&decide (e.message<=199)))=Z;cases Z<;>rfl
theorem Jn{n:Nat}{p:Int}{e:Zn}(h:EC n p e=true):j7 n p e:=by
 unfold EC at h;split at h;next a=>left;simpa using a
 right;simp only[ζh,or_eq_true,beq_iff_eq,decide_eq_true_eq,not_eq_true',beq_eq_false_iff_ne,ne_eq]at h;have⟨⟨⟨a,u⟩,z⟩,w⟩:=h;exact⟨a,u.1,u.2,z,w.1,w.2⟩
theorem Fz{n:Nat}{P:cz}{p k:Nat}{e:Zn}(h:oB n P p k e=0):j7 n p e:=by
 unfold oB at h;split at h;next a=>exact Jn a
 cases h
theorem AL{α:Type}[DecidableEq α]:∀{l r:a_ α},l.Nodup->(∀x∈l,x∈r)->l.length<=r.length
 |[],_,_,_=>zero_le _|x::l,r,D,G=>by have B:=List.nodup_cons.1 D;have:=AL (r:=r.erase x) B.2 λy u=>(List.mem_erase_of_ne Zd).2 (G y (mem_cons_of_mem _ u));grind
section
variable{κ:Type}[DecidableEq κ]
theorem Ch{ν:Type}{k:κ}:∀{m:Mo κ ν},k∉m.map (·.1)->mC k m=none
 |[],_=>rfl|(a,v)::r,h=>by simp only[map_cons,mem_cons,not_or]at h;unfold mC;rw[if_neg h.1];exact Ch h.2
theorem Df{ν:Type}{k:κ}:∀{m:Mo κ ν},k∈m.map (·.1)->∃v,mC k m=some v/\(k,v)∈m
 |[],h=>Ze|(a,v)::r,h=>by unfold mC;by_cases e:k=a;grind;obtain⟨w,b,B⟩:=Df (by simpa[e]using h);grind
theorem qD{ν:Type}{k:κ}{v:ν}:∀{m:Mo κ ν},k∉m.map (·.1)->mG m k v=m++[(k,v)]
 |[],_=>rfl|(a,w)::r,h=>by simp only[map_cons,mem_cons,not_or]at h;show(if k=a then _ else _)=_;rw[if_neg h.1,qD h.2];rfl
end
def Vd(t:Zj)(y:bu):Prop:=∃e,(y,e)∈bZ t
theorem Vd.at_{t:Zj}{y:bu}(h:Vd t y):∃(p k:Nat)(e:Zn),kA t p k e/\y=⟨p,k+1⟩/\(y,e)∈bZ t:=by have⟨e,u⟩:=h;have⟨p,k,a,w⟩:=d_.1 u;grind
def FE(t:Zj)(y z:bu):Prop:=∃e f,(y,e)∈bZ t/\(z,f)∈bZ t/\e.kind=2/\f.kind=3/\e.message=f.message
def Edge(t:Zj)(y z:bu):Prop:=Vd t y/\Vd t z/\(z=⟨y.proc,y.index+1⟩\/FE t y z)
abbrev Way(t:Trace):bu->bu->Prop:=TransGen (Edge t)
def HY(t:Zj):Prop:=∃x,Way t x x
theorem Way.l{t:Zj}{x y:bu}(h:Way t x y):Vd t x:=by induction h with|single h=>exact h.1|tail _ _ u=>omega
theorem Way.r{t:Zj}{x y:bu}(h:Way t x y):Vd t y:=by cases h with|single h=>exact h.2.1|tail _ h=>exact h.2.1
theorem Nl{t:Zj}(g:Small t)(l:∀x∈bZ t,j7 t.procs.l.length x.1.proc x.2){A:cB 200 bJ}(Y:iy t (bZ t) A){y:bu}(J:Vd t y):
 Wp (iI t A y) λs=>s.l.length<=2/\∀z,z∈s.l↔Edge t y z:=by
 have⟨p,k,e,L,C,u⟩:=J.at_;have⟨P,O,d⟩:=L;have S:P∈t.procs.l:=mem_of_getElem? O;have a:=(g.2 P S).1;have X:k<P.events.l.length:=(ζe.1 d).1;have D:y.proc=p:=by rw[C]
 have T:y.index=k+1:=by rw[C]
 have j:∀s:Sl bu,s.l.length<=1->(∀z,z∈s.l↔Vd t z/\z=⟨y.proc,y.index+1⟩)->Wp (iI.J1 A s P.events y) λs=>s.l.length<=2/\∀z,z∈s.l↔Edge t y z:=by intro s o w;have no:¬(∃z,FE t y z)->s.l.length<=2/\∀z,z∈s.l↔Edge t y z:=λZ=>⟨Za,λz=>(w z).trans ⟨λh=>⟨J,h.1,.inl h.2⟩,λh=>⟨h.2.1,h.2.2.elim id λh=>(Z ⟨z,h⟩).elim⟩⟩⟩;unfold iI.J1;have U:wrap .i64 (y.index-1)=((k:Nat):Int):=(by rw[T,mE _ Za Za];omega);rw[U,lG,d,ζb,fC,cA];constructor;intro B;have B:e.kind=2:=(by grind);have I:0<=e.message/\e.message<=199:=(by rcases l _ u with h|⟨_,_,_,_,h⟩;grind;omega);have b:∀z,FE t y z->(ag A e.message).to_=z:=λz⟨W,f,a1,a2,a3,a4,a5⟩=>(by cases AK a1 u rfl;rw[a5];exact(Y.rcv _ a2 a4).1);rw[IQ A I.1 I.2,ζb,bz,cA];refine⟨λh=>?_,λh=>(bz _).2 (no λ⟨z,w⟩=>?_)⟩;have h:(ag A e.message).to_.index>0:=(by grind);rw[ζb];unfold jt;rw[if_pos Za,ζb,bz];refine⟨by show(s.l++[(ag A e.message).to_]).length<=2;grind,λz=>?_⟩;have G:FE t y (ag A e.message).to_:=(by rcases Y.to e.message I.1 I.2 with r|⟨W,a,c,m⟩;omega;exact⟨e,W,u,a,B,c,m.symm⟩);show z∈s.l++[(ag A e.message).to_]↔_;rw[mem_append,mem_singleton,w];constructor;rintro(h|rfl);exact⟨J,h.1,.inl h.2⟩;exact⟨J,let⟨_,f,_,a2,_⟩:=G;⟨f,a2⟩,.inr G⟩;rintro⟨_,a,c|c⟩;grind;grind;rw[b z w]at h;have⟨_,f,_,a2,_⟩:=w;have⟨q,i,_,n⟩:=d_.1 a2;grind;intro B;rw[bz,cA];refine⟨λh=>(by cases h),λ_=>(bz _).2 (no λ⟨z,W,f,a1,_,a3,_⟩=>?_)⟩;cases AK a1 u rfl;grind
 unfold iI;rw[D,lG,O,ζb,cA];rw[D]at j;constructor
 .intro h;have h:y.index<len P.events:=by grind
  have B:k+1<P.events.l.length:=Zd
  refine j _ (by simp[Sl.l]) λz=>?_
  have U:wrap .i64 (y.index+1)=y.index+1:=mE _ Za Za
  simp only[Sl.l,mem_singleton,U];refine⟨λw=>⟨⟨P.events.l[k+1],d_.2 ⟨p,k+1,⟨P,O,ζd B⟩,?_⟩⟩,w⟩,λw=>w.2⟩
  grind
 intro h;have h:¬y.index<len P.events:=Zd
 refine j _ (by simp[Sl.l]) λz=>⟨λw=>by simp[Sl.l]at w,λ⟨w,v⟩=>?_⟩
 have⟨q,i,f,⟨Q,E,n⟩,F,_⟩:=w.at_
 grind
structure Gf(t:Trace)(x:bu)(rest:Sl bu)(m:Mo bu Bool)(U:bu->Prop):Prop where
 rst:∀y∈rest.l,y=x\/Way t x y
 keys:(m.map (·.1)).Nodup
 seen:∀y∈m,Way t x y.1/\y.1≠x/\y.2=true
 le:rest.l.length<=m.length+1
 done:∀y,y=x\/y∈m.map (·.1)->y∈rest.l\/U y\/∀z,Edge t y z->z∈m.map (·.1)
theorem Gf.count{t:Zj}{x:bu}{rest:Sl bu}{m:Mo bu Zl}{U:bu->Prop}(h:Gf t x rest m U):m.length<=(bZ t).length:=by
 have:=AL (r:=(bZ t).map (·.1)) h.keys λx u=>by obtain⟨y,w,rfl⟩:=mem_map.1 u;have⟨e,z⟩:=(h.seen y w).1.r;grind
 grind
theorem Kr{t:Zj}(E:Small t)(hN:(bZ t).length<1073741824)(hF:∀x∈bZ t,j7 t.procs.l.length x.1.proc x.2){A:cB 200 bJ}(hA:iy t (bZ t) A):Wp (gV t A) λr=>(r.2=true↔HY t):=by
 unfold gV jy;rw[ζb];unfold gV.E1;rw[tX E,ζb];refine zG (λk _=>∀x∈(bZ t).take k,¬Way t x.1 x.1) Zc ?_ λ_ h=>(bz _).2 ⟨λh=>(by cases h),λ⟨x,g⟩=>?_⟩
 .intro i x _ g ar;have ah:x∈bZ t:=mem_of_getElem? g;refine Wp.mono (P:=λw=>match w with|.n s=>¬Way t x.1 x.1|.x e=>False|.r e=>HY t) ?_ λw j=>by cases w with|n s=>intro y d;rw[take_add_one,g]at d;grind|x e=>grind|r b=>exact(bz _).2 ⟨λ_=>j,λ_=>rfl⟩
  refine ga (λq:Sl bu×Mo bu Zl=>Gf t x.1 q.1 q.2 λ_=>False) (λq=>2*((bZ t).length-q.2.length)+q.1.l.length) ⟨λy d=>.inl (by simpa[Sl.l]using d),Zc,Zc,by simp[Sl.l],λy d=>.inl ?_⟩ ?_;simpa[Sl.l]using d;rintro⟨rest,m⟩ L;unfold gV.ct;rw[cA];refine⟨λh=>?_,λh=>(bz _).2 ((bz _).2 λj=>?_)⟩
  .have G:0<rest.l.length:=by grind
   have hc:=L.count;have av:=L.le;have j:wrap .i64 ((len rest)-1)=(rest.l.length-1:Nat):=by rw[mE _ Zd Zd];grind
   have I:rest.l.length-1<rest.l.length:=Za;rw[j];have h1:Sl.l_ rest (rest.l.length-1:Nat)=some (rest.l.length-1):=by unfold Sl.l_;grind
   have h2:Sl.get rest (rest.l.length-1)=some rest.l[rest.l.length-1]:=by unfold Sl.get;grind
   obtain⟨cut,h3,h4⟩:∃x,nR rest none (some ((rest.l.length-1:Nat):Int))=some x/\x.l=rest.l.take (rest.l.length-1):=by cases rest with|nil=>simp[Sl.l]at G|emp=>simp[Sl.l]at G|row l=>simp only[Sl.l]at G⊢;unfold nR dW;simp_all|part l=>simp[Sl.l]at G⊢;unfold nR dW;simp_all
   rw[h1,ζb,h2,ζb,h3,ζb,fC];generalize ai:rest.l[rest.l.length-1]=y;have aj:y∈rest.l:=ai▸getElem_mem I;have O:∀z,z∈rest.l->z∈cut.l\/z=y:=λz c=>by have:rest.l.take (rest.l.length-1)++rest.l.drop (rest.l.length-1)=rest.l:=List.take_append_drop ..;rw[<-this]at c;rcases mem_append.1 c with c|c;grind;rw[drop_eq_getElem_cons I,List.drop_of_length_le Za]at c;grind
   have F:=L.rst _ aj;have ak:=F.elim (λe=>⟨x.2,e▸ah⟩) Way.r;refine(Nl E hF hA ak).mono λs H=>?_;refine ga (λq:Sl bu×Int×Mo bu Zl=>∃n:Nat,q.2.1=n/\n<=s.l.length/\Gf t x.1 q.1 q.2.2 (λu=>u=y)/\(∀z∈s.l.take n,z∈q.2.2.map (·.1))/\2*((bZ t).length-q.2.2.length)+q.1.l.length<2*((bZ t).length-m.length)+rest.l.length) (λq=>s.l.length-q.2.1.toNat)
    ⟨0,rfl,zero_le _,⟨λz c=>L.rst z Zd,L.keys,L.seen,Zd,λu f=>?_⟩,Zc,Zd⟩ ?_
   .rcases L.done u f with h|h|h;exact(O u h).imp_right .inl;exact h.elim;exact .inr (.inr h)
   rintro⟨C,i2,W⟩ ⟨n,rfl,hn,B,J,o⟩;simp only at B o J;unfold gV.eP;rw[cA];constructor
   .intro h;have X:n<s.l.length:=(by simpa[len]using h);have K:=(H.2 s.l[n]).1 (getElem_mem X);have Q:Way t x.1 s.l[n]:=F.elim (λe=>.single (e▸K)) λh=>.tail h K;rw[bX X,ζb,cA];refine⟨λZ=>(bz _).2 ((bz _).2 ((bz _).2 ⟨x.1,?_⟩)),λS=>?_⟩;have:s.l[n]=x.1:=(by unfold HE at Z;revert Z;cases s.l[n];cases x.1;intro Z;simpa using Z);rw[this]at Q;exact Q;have S:s.l[n]≠x.1:=λe=>(by rw[e]at S;simp[HE]at S);have T:=dB n Za;have M:s.l.take (n+1)=s.l.take n++[s.l[n]]:=(by rw[take_add_one,ζd X];rfl);rw[cA];refine⟨λp=>(bz _).2 ⟨⟨n+1,T,Za,B,λz c=>?_,o⟩,by show _-(wrap .i64 ((n:Int)+1)).toNat<_;rw[T];simp;omega⟩,λY=>?_⟩;rw[M]at c;rcases mem_append.1 c with c|c;exact J z c;simp[mem_singleton]at c;subst c;apply byContradiction;intro hk;unfold rm at p;rw[Ch hk]at p;cases p;have aw:=B.count;have au:=B.le;unfold jt;rw[if_pos (show C.l.length+1<=2147483648 from Za),ζb,bz];have D:s.l[n]∉W.map (·.1):=λal=>(by have⟨v,hv,am⟩:=Df al;have:=(B.seen _ am).2.2;simp only at this;subst this;unfold rm at Y;rw[hv]at Y;cases Y);have U:∀z,z∈(mG W s.l[n] true).map (·.1)↔z∈W.map (·.1)\/z=s.l[n]:=λz=>(by rw[qD D,map_append,mem_append];simp);have N:Gf t x.1 (.row (C.l++[s.l[n]])) (mG W s.l[n] true) (λu=>u=y):=(by refine⟨λy d=>?_,?_,λy d=>?_,?_,λu f=>?_⟩;simp[Sl.l,mem_singleton]at d;rcases d with d|rfl;exact B.rst y d;exact .inr Q;rw[qD D,map_append,List.nodup_append];refine⟨B.keys,Zc,λa ha b R=>?_⟩;simp[mem_singleton]at R;subst R;exactλe=>D (e▸ha);rw[qD D]at d;rcases mem_append.1 d with d|d;exact B.seen y d;simp[mem_singleton]at d;subst d;exact⟨Q,S,rfl⟩;rw[qD D];show(C.l++[s.l[n]]).length<=_;rw[ζi,ζi,length_singleton,length_singleton];omega;simp only[Sl.l,mem_append,mem_singleton];have V:u=x.1\/u∈W.map (·.1)->(u∈C.l\/u=s.l[n])\/u=y\/∀z,Edge t u z->z∈(mG W s.l[n] true).map (·.1):=λf=>(by rcases B.done u f with h|h|h;exact .inl (.inl h);exact .inr (.inl h);exact .inr (.inr λz c=>(U z).2 (.inl (h z c))));rcases f with f|f;exact V (.inl f);rcases(U u).1 f with f|f;exact V (.inr f);exact .inl (.inr f));have an:=N.count;refine⟨⟨n+1,T,Za,N,λz c=>?_,?_⟩,by show _-(wrap .i64 ((n)+1)).toNat<_;rw[T];simp;omega⟩;rw[M]at c;rcases mem_append.1 c with c|c;exact(U z).2 (.inl (J z c));exact(U z).2 (.inr (by simpa using c));rw[qD D,ζi,length_singleton]at an;show 2*((bZ t).length-(mG W s.l[n] true).length)+(C.l++[s.l[n]]).length<_;rw[qD D,ζi,ζi,length_singleton,length_singleton];omega
   intro h;have ao:s.l.length<=n:=by simpa[len]using h
   rw[take_of_length_le ao]at J;refine(bz _).2 ((bz _).2 ⟨⟨B.rst,B.keys,B.seen,B.le,λu f=>?_⟩,o⟩);rcases B.done u f with h|h|h;exact .inl h;subst h;exact .inr (.inr λz c=>J z ((H.2 z).2 c));exact .inr (.inr h)
  have ap:rest.l=[]:=by have:¬len rest>0:=(by simpa using h);simp[len]at this;exact this
  have hd:∀y,y=x.1\/y∈m.map (·.1)->∀z,Edge t y z->z∈m.map (·.1):=λy d=>by rcases L.done y d with h|h|h;simp only[ap]at h;cases h;exact h.elim;exact h
  have key:∀z,Way t x.1 z->z∈m.map (·.1):=λz c=>by induction c with|single h=>exact hd _ (.inl rfl) _ h|tail _ h ih=>exact hd _ (.inr ih) _ h
  have⟨y,d,aq⟩:=mem_map.1 (key _ j);exact(L.seen y d).2.1 aq
 have⟨e,Z⟩:=g.l;rw[take_length]at h;exact absurd g (h _ Z)
structure Ok(t:Trace):Prop where
 one:1<=t.procs.l.length
 few:t.procs.l.length<=8
 heads:∀p,p<t.procs.l.length->qX t p=0
 fu:∀(p k:Nat)P e,t.procs.l[p]?=some P->P.events.l[k]?=some e->oB t.procs.l.length P p k e=0
 Ke:vZ t
 acyc:¬HY t
theorem Dy{t:Zj}(h:∀(p k:Nat)P e,t.procs.l[p]?=some P->P.events.l[k]?=some e->oB t.procs.l.length P p k e=0):∀x∈bZ t,j7 t.procs.l.length x.1.proc x.2:=λx w=>by have⟨p,k,⟨P,z,B⟩,u⟩:=d_.1 w;rw[u];exact Fz (h p k P _ z B)
structure VT(t:Trace):Prop where
 formed:∀x∈bZ t,j7 t.procs.l.length x.1.proc x.2
 msgs:∃A i,eM t=some (some A,i,0)/\iy t (bZ t) A
 few:t.procs.l.length<=8
 ok:Ok t
theorem Nx{t:Zj}(B:Small t)(Y:(bZ t).length<1073741824):Wp (gz t) λr=>(r.2=0->VT t)/\(Ok t->r.2=0):=by
 unfold gz;rw[od,ζb,cA];refine⟨λG=>?_,λG=>(bz _).2 ⟨λh=>Za,λh=>?_⟩⟩;rotate_left;have m:=h.one;have D:=h.few;grind;have D:1<=t.procs.l.length/\t.procs.l.length<=8:=by grind
 unfold gz.W1;refine ga (λi:Int=>∃n:Nat,i=n/\n<=t.procs.l.length/\∀p,p<n->qX t p=0) (λi:Int=>t.procs.l.length-i.toNat) ⟨0,rfl,zero_le _,λp I=>absurd I Za⟩ ?_;rintro i ⟨n,rfl,o,X⟩;unfold gz.bG;rw[cA];constructor;intro h;have u:n<t.procs.l.length:=by grind
 rw[L_ B u,ζb,cA];refine⟨λa=>(bz _).2 ⟨⟨n+1,dB n Za,Za,λp I=>?_⟩,by rw[dB n Za];simp;omega⟩,λa=>(bz _).2 ((bz _).2 ⟨λh=>?_,λh=>?_⟩)⟩;grind;grind;simp[h.heads n u]at a;intro h;have Z:t.procs.l.length<=n:=Zd;rw[bz];unfold jy;rw[ζb];unfold gz.E2;rw[tX B,ζb];refine zG (λi _=>∀(p k:Nat)P e,t.procs.l[p]?=some P->P.events.l[k]?=some e->(⟨p,k+1⟩,e)∈(bZ t).take i->oB t.procs.l.length P p k e=0) Zc ?_ ?_;intro i x _ U w;have J:=mem_of_getElem? U;have⟨p,j,⟨P,z,C⟩,L⟩:=d_.1 J;unfold gz.Hs;rw[L,Lt B z C,ζb,cA];refine⟨λa=>(bz _).2 λp' q s v y E d=>?_,λa=>(bz _).2 ((bz _).2 ⟨λh=>?_,λh=>?_⟩)⟩;rw[take_add_one,U]at d;grind;grind;simp[h.fu p j P _ z C]at a;intro _ w;have w:∀(p k:Nat)P e,t.procs.l[p]?=some P->P.events.l[k]?=some e->oB t.procs.l.length P p k e=0:=λp k P e z C=>w p k P e z C (by rw[take_length];exact d_.2 ⟨p,k,⟨P,z,C⟩,rfl⟩);have O:=Dy w;have⟨r,f,g,Q⟩:=BD B O;rw[f,ζb,cA];refine⟨λa=>?_,λa=>(bz _).2 ⟨λh=>?_,λh=>Q h.Ke⟩⟩;have a:=by simpa using a
 have⟨A,l,S⟩:=g a;rw[l,ζb];have⟨c,b,T⟩:=Kr B Y O S;rw[b,ζb,cA];refine⟨λW=>(bz _).2 ⟨λh=>Za,λh=>absurd (T.1 W) h.acyc⟩,λW=>(bz _).2 ⟨λ_=>?_,λ_=>rfl⟩⟩;exact⟨O,⟨A,r.2.1,Zd,S⟩,D.2,D.1,D.2,λp I=>X p Za,w,S.Ke,λb=>Zd⟩;simp_all
theorem MN{t:Zj}(B:Small t)(D:(bZ t).length<1073741824):Wp (eu t) λb=>(b=true->VT t)/\(Ok t->b=true):=by unfold eu;rw[fC];exact(Nx B D).mono λr a=>(bz _).2 ⟨λh=>a.1 Zd,λh=>Zd⟩
end Go.VE
namespace Go.VE
theorem ze{t:Zj}(G:Small t)(e:eu t=some true){A:cB 200 bJ}(B:iy t (bZ t) A){x:bu×Zn}(D:x∈bZ t)(c:x.2.kind=2):mL t x.2.message=some (x.1,true):=by
 refine Wp.eq ?_;unfold mL kI;rw[e,ζb,b9];unfold jy;rw[ζb];unfold kI.E1;rw[tX G,ζb,fC];refine zG (λk _=>∀y∈(bZ t).take k,¬(y.2.kind=2/\y.2.message=x.2.message)) Zc ?_ ?_;intro k y _ C u;have w:y∈bZ t:=mem_of_getElem? C;unfold kI.sx;rw[mT,ζb,cA];constructor;intro a;have a:y.2.kind=2/\y.2.message=x.2.message:=by simpa using a
 refine(bz _).2 ((bz _).2 ((bz _).2 ?_));have d:=B.snd y w a.1;have I:=B.snd x D c;rw[a.2,I]at d;rw[d];intro a;have a:¬(y.2.kind=2/\y.2.message=x.2.message):=by intro h;rw[h.1,h.2]at a;simp at a
 rw[bz];intro z b;rw[take_add_one,C]at b;rcases mem_append.1 b with b|b;exact u z b;simp at b;subst b;exact a;intro _ u;rw[take_length]at u;exact absurd ⟨c,rfl⟩ (u x D)
def pX(t:Zj)(c:Zy):Prop:=c.length=t.procs.l.length/\∀(p:Nat)(a:Int)(P:cz),c[p]?=some a->t.procs.l[p]?=some P->0<=a/\a<=P.events.l.length
def oe(t:Zj)(A:cB 200 bJ)(c:Zy):Prop:=∀(p k:Nat)(e:Zn)(a:Int),kA t p k e->c[p]?=some a->(k:Int)<a->e.kind=3->∃b,c[(ag A e.message).from_.proc.toNat]?=some b/\(ag A e.message).from_.index<=b
theorem wD{t:Zj}(J:VT t){A:cB 200 bJ}(D:iy t (bZ t) A){p k:Nat}{e:Zn}(O:kA t p k e)(b:e.kind=3):
 ∃(q j:Nat)(y:Zn),kA t q j y/\y.kind=2/\y.message=e.message/\y.peer=p/\e.peer=q/\(ag A e.message).from_=⟨q,j+1⟩:=by
 have u:((⟨p,k+1⟩:bu),e)∈bZ t:=d_.2 ⟨p,k,O,rfl⟩;have z:=(D.rcv _ u b).2;have C:=J.formed _ u;simp only at z C;have B:0<=e.peer:=by rcases C with h|⟨_,h,_⟩;omega;exact h
 obtain⟨q,G⟩:∃q:Nat,e.peer=q:=⟨e.peer.toNat,Za⟩
 rw[G]at z;have⟨j,y,w,a,I,L⟩:=Bb.1 z;have:=D.snd (⟨q,j+1⟩,y) (d_.2 ⟨q,j,w,rfl⟩) a;simp only at this;rw[I]at this;exact⟨q,j,y,w,a,I,L,G,this⟩
def Un(t:Zj)(A:cB 200 bJ)(c:Zy)(s u:bu):Prop:=∃(p k:Nat)(e:Zn)(a:Int)(q j:Nat)(y:Zn)(b:Int),kA t p k e/\c[p]?=some a/\(k:Int)<a/\e.kind=3/\(ag A e.message).from_=s/\s=⟨q,j+1⟩/\kA t q j y/\c[q]?=some b/\b<(j:Int)+1/\u=⟨p,k+1⟩
theorem Pq{t:Zj}(v:Small t)(P:eu t=some true)(E:VT t){A:cB 200 bJ}(F:iy t (bZ t) A){c:Zg}(H:pX t c.l):Wp (gD t c) λr=>(r.2.2=false->oe t A c.l)/\(r.2.2=true->Un t A c.l r.1 r.2.1):=by
 have ah:=E.few;unfold gD gD.W1;refine ga (λs:Int=>∃n:Nat,s=n/\n<=c.l.length/\∀(p k:Nat)(e:Zn)(a:Int),p<n->kA t p k e->c.l[p]?=some a->(k:Int)<a->e.kind=3->∃b,c.l[(ag A e.message).from_.proc.toNat]?=some b/\(ag A e.message).from_.index<=b) (λs:Int=>c.l.length-s.toNat) ⟨0,rfl,zero_le _,λp k e a h=>absurd h Za⟩ ?_;rintro s ⟨n,rfl,hn,K⟩;have ai:=H.1;unfold gD.bG;rw[cA];constructor;intro h;have C:n<c.l.length:=by simpa[len]using h
 have B:n<t.procs.l.length:=Za;have hP:=(v.2 _ (getElem_mem B)).1;have⟨r1,r2⟩:=H.2 n _ _ (ζd C) (ζd B);rw[bX C,ζb,bX B,ζb];have⟨y,M,T⟩:=vh t.procs.l[n].events c.l[n].toNat Za;rw[show((c.l[n].toNat:Nat):Int)=c.l[n]from Za]at M;rw[M,ζb];unfold gD.W2;refine ga (λs:Int=>∃m:Nat,s=m/\m<=y.l.length/\∀(k:Nat)(e:Zn),k<m->kA t n k e->e.kind=3->∃b,c.l[(ag A e.message).from_.proc.toNat]?=some b/\(ag A e.message).from_.index<=b) (λs:Int=>y.l.length-s.toNat) ⟨0,rfl,zero_le _,λk e h=>absurd h Za⟩ ?_;rintro s ⟨m,rfl,hm,i⟩;have af:y.l.length=c.l[n].toNat:=by rw[T,length_take];omega
 unfold gD.ct;rw[cA];constructor;intro h;have I:m<y.l.length:=by simpa[len]using h
 have D:=dB m Za;have U:y.l.length-(wrap .i64 ((m:Int)+1)).toNat<y.l.length-((m:Int)).toNat:=by rw[D];simp;omega
 have R:y.l[m]?=t.procs.l[n].events.l[m]?:=by rw[T,getElem?_take,if_pos (show m<c.l[n].toNat from Za)]
 have u:kA t n m y.l[m]:=⟨_,ζd B,by rw[<-R];exact ζd I⟩;rw[bX I,ζb];generalize y.l[m]=e at u;rw[cA];constructor;intro d;have d:e.kind=3:=by simpa using d
 have⟨q,j,z,l,V,z2,z3,z4,z5⟩:=wD E F u d;have J:=ze v P F (x:=(⟨q,j+1⟩,z)) (d_.2 ⟨q,j,l,rfl⟩) V;simp only at J;rw[z2]at J;have ab:=l;have⟨Q,hQ,_⟩:=l;have L:q<c.l.length:=by have:=(ζe.1 hQ).1;omega
 rw[J,ζb];simp only;rw[bX L,ζb,cA];constructor;intro W;have W:(j:Int)+1>c.l[q]:=by simpa using W
 exact(bz _).2 ((bz _).2 ((bz _).2 ⟨λh=>(by cases h),λ_=>⟨n,m,e,c.l[n],q,j,z,c.l[q],u,ζd C,Za,d,z5,rfl,ab,ζd L,Za,by simp[D]⟩⟩));intro X;have X:¬((j:Int)+1>c.l[q]):=by simpa using X
 refine(bz _).2 ⟨⟨m+1,D,Za,λk Y ad w G=>?_⟩,U⟩;by_cases o:k=m;subst o;have:Y=e:=by have⟨P1,a1,a2⟩:=u;have⟨P2,Z,f⟩:=w;rw[a1]at Z;cases Z;rw[a2]at f;cases f;rfl
 subst this;rw[z5];exact⟨c.l[q],by simp only[toNat_natCast];exact ζd L,by simp only;omega⟩;exact i k Y Za w G;intro d;have d:¬e.kind=3:=by simpa using d
 refine(bz _).2 ⟨⟨m+1,D,Za,λk Y ad w G=>?_⟩,U⟩;by_cases o:k=m;subst o;have:Y=e:=by have⟨P1,a1,a2⟩:=u;have⟨P2,Z,f⟩:=w;rw[a1]at Z;cases Z;rw[a2]at f;cases f;rfl
 subst this;exact absurd G d;exact i k Y Za w G;intro h;have ae:y.l.length<=m:=by simpa[len]using h
 have N:=dB n Za;refine(bz _).2 ((bz _).2 ⟨⟨n+1,N,Za,λp k e a hp u S O g=>?_⟩,by show _-(wrap .i64 ((n:Int)+1)).toNat<_;rw[N];simp;omega⟩);by_cases ep:p=n;subst ep;rw[ζd C]at S;cases S;exact i k e Za u g;exact K p k e a Za u S O g;intro h;have ae:c.l.length<=n:=by simpa[len]using h
 refine(bz _).2 ((bz _).2 ⟨λ_ p k e a u S O g=>K p k e a (by have:=(ζe.1 S).1;omega) u S O g,λh=>(by cases h)⟩)
theorem JX{t:Zj}(B:Small t)(f:eu t=some true)(D:VT t){A:cB 200 bJ}(G:iy t (bZ t) A){c:Zg}(J:pX t c.l):Wp (gD t c) λr=>(r.2.2=false↔oe t A c.l):=by refine(Pq B f D G J).mono λr d=>⟨d.1,λu=>?_⟩;cases h:r.2.2 with|false=>rfl|true=>obtain⟨p,k,e,a,q,j,y,b,g,w,z,C,I,L,_,O,Q,-⟩:=d.2 h;have⟨S,g1,g2⟩:=u p k e a g w z C;rw[I,L]at g1 g2;simp only[toNat_natCast]at g1 g2;rw[O]at g1;cases g1;omega
theorem Fp{s:Zb}{p:Zg->bt Zl}{f:Zg->Zl}(B:∀x∈s.l,p x=some (f x))(D:s.l.length<1073741824):js s p=some (s.l.any f):=by have h:fI s p=some (place f s.l):=oK B Za (λi=>rfl);unfold js;rw[h,ζb,qQ]
theorem Il{t:Zj}(J:Small t){c:Zg}(D:c.l.length=t.procs.l.length):Wp (jm t c) λb=>(b=true↔pX t c.l):=by
 have d:=J.1;unfold jm jm.W1;refine ga (λs:Int=>∃n:Nat,s=n/\n<=c.l.length/\∀(p:Nat)(a:Int)(P:cz),p<n->c.l[p]?=some a->t.procs.l[p]?=some P->0<=a/\a<=P.events.l.length) (λs:Int=>c.l.length-s.toNat) ⟨0,rfl,zero_le _,λp a P h=>absurd h Za⟩ ?_;rintro s ⟨n,rfl,Q,G⟩;unfold jm.bG;rw[cA];constructor;intro h;have w:n<c.l.length:=by simpa[len]using h
 have u:n<t.procs.l.length:=Za;have I:=dB n Za;rw[bX w,ζb,bX u,ζb,ku,ζb,cA];constructor;intro z;have z:c.l[n]<0\/c.l[n]>t.procs.l[n].events.l.length:=by simpa[len]using z
 refine(bz _).2 ((bz _).2 ⟨λh=>(by cases h),λL=>?_⟩);have:=L.2 n _ _ (ζd w) (ζd u);omega;intro z;have z:0<=c.l[n]/\c.l[n]<=t.procs.l[n].events.l.length:=by simpa[len]using z
 refine(bz _).2 ⟨⟨n+1,I,Za,λp a P S B C=>?_⟩,by rw[I];simp;omega⟩;by_cases e:p=n;subst e;rw[ζd w]at B;cases B;rw[ζd u]at C;cases C;exact z;exact G p a P Za B C;intro h;have O:c.l.length<=n:=by simpa[len]using h
 refine(bz _).2 ((bz _).2 ⟨λ_=>⟨D,λp a P B C=>G p a P (by have:=(ζe.1 B).1;omega) B C⟩,λ_=>rfl⟩)
def Code(t:Zj)(A:cB 200 bJ)(c:Zy)(r:Int):Prop:=c.length≠t.procs.l.length/\r=1\/c.length=t.procs.l.length/\¬pX t c/\r=2\/pX t c/\¬oe t A c/\r=18\/pX t c/\oe t A c/\r=0
theorem Code.zero{t:Zj}{A:cB 200 bJ}{c:Zy}{r:Int}(h:Code t A c r):r=0↔pX t c/\oe t A c:=by rcases h with⟨h,rfl⟩|⟨_,h,rfl⟩|⟨_,h,rfl⟩|⟨a,w,rfl⟩;exact⟨λh=>(by cases h),λu=>absurd u.1.1 h⟩;exact⟨λh=>(by cases h),λu=>absurd u.1 h⟩;exact⟨λh=>(by cases h),λu=>absurd u.2 h⟩;exact⟨λ_=>⟨a,w⟩,λ_=>rfl⟩
def Cons(t:Zj)(A:cB 200 bJ)(c:Zy):Prop:=pX t c/\oe t A c
def places{α:Type}(f:α->Zl)(l:a_ α):Zv:=(range l.length).filter λk=>match l[k]?with|some x=>f x|none=>false
end Go.VE
namespace Go.VE
def rq(kind m:Int)(x:bu×Zn):Zl:=x.2.kind==kind&&x.2.message==m
def lE(t:Zj)(kind m:Int):bu:=match(bZ t).find? (rq kind m)with
 |some x=>x.1|none=>⟨0,0⟩
theorem IA{t:Zj}{kind m:Int}{p:Nat}{P:cz}(B:p<9223372036854775806)(D:t.procs.l[p]?=some P)(J:P.events.l.length<1073741824):∀(q i:Nat),i+q=P.events.l.length->
 b8 (λq:Int=>dN.ct kind m p t ⟨0,0⟩ q) (i:Int)=some (match(hU p i (P.events.l.drop i)).find? (rq kind m)with|some x=>.r x.1|none=>.x ()):=by
 have u:idx t.procs (p:Int)=some P:=by rw[lG];exact D
 intro q
 induction q with
 |zero=>
  intro i z;rw[iU];unfold dN.ct;rw[u,ζb,show decide ((i:Int)<len P.events)=false from by simp[len];omega,cK,List.drop_of_length_le Za]
  rfl
 |succ q C=>
  intro i z;have w:i<P.events.l.length:=Za
  rw[iU];have G:dN.ct kind m p t ⟨0,0⟩ i=some (if rq kind m (⟨p,(i:Int)+1⟩,P.events.l[i])then .r ⟨p,(i:Int)+1⟩else .n ((i+1:Nat):Int)):=by unfold dN.ct;rw[u,ζb,show decide ((i:Int)<len P.events)=true from by simp[len];omega,b9,ζb,bX w,ζb,mT,ζb,dB i Za,sn];rfl
  rw[G,ζb,drop_eq_getElem_cons w];simp only[hU,List.find?_cons]
  cases I:rq kind m (⟨p,(i:Int)+1⟩,P.events.l[i])with
  |true=>rfl|false=>simp only[false_eq_true,if_false];exact C (i+1) Za
theorem JB{t:Zj}(B:Small t){kind m:Int}:∀(q p:Nat),p+q=t.procs.l.length->
 b8 (λq:Int=>dN.bG kind m t ⟨0,0⟩ q) (p:Int)=some (match(fe p (t.procs.l.drop p)).find? (rq kind m)with|some x=>.r x.1|none=>.x ()):=by
 have a:=B.1;intro q
 induction q with
 |zero=>
  intro p w;rw[iU];unfold dN.bG;rw[show decide ((p:Int)<len t.procs)=false from by simp[len];omega,cK,List.drop_of_length_le Za]
  rfl
 |succ q z=>
  intro p w;have u:p<t.procs.l.length:=Za
  have C:b8 (λq:Int=>dN.ct kind m p t ⟨0,0⟩ q) 0=some (match(hU p 0 t.procs.l[p].events.l).find? (rq kind m)with|some x=>.r x.1|none=>.x ()):=IA (t:=t) (kind:=kind) (m:=m) Za (ζd u) (B.2 _ (getElem_mem u)).1 (t.procs.l[p].events.l.length) 0 Za
  rw[iU];unfold dN.bG;rw[show decide ((p:Int)<len t.procs)=true from by simp[len];omega,b9]
  unfold dN.W2;rw[C,drop_eq_getElem_cons u];simp only[fe,List.find?_append]
  cases D:(hU p 0 t.procs.l[p].events.l).find? (rq kind m)with
  |some x=>rfl|none=>
   simp only[ζb,Fw.elim,Option.none_or];rw[dB p Za]
   exact z (p+1) Za
theorem find_eq{t:Zj}(B:Small t)(kind m:Int):dN t kind m=some (lE t kind m):=by unfold dN dN.W1;have u:b8 (λq:Int=>dN.bG kind m t ⟨0,0⟩ q) 0=some (match(bZ t).find? (rq kind m)with|some x=>.r x.1|none=>.x ()):=JB B (kind:=kind) (m:=m) t.procs.l.length 0 Za;rw[u];unfold lE;cases(bZ t).find? (rq kind m)<;>rfl
theorem Cl{t:Zj}{kind m:Int}{x:bu×Zn}(h:(bZ t).find? (rq kind m)=some x):x∈bZ t/\x.2.kind=kind/\x.2.message=m/\lE t kind m=x.1:=by have a:=List.find?_some h;simp only[rq,ζh,beq_iff_eq]at a;exact⟨List.mem_of_find?_eq_some h,a.1,a.2,by unfold lE;rw[h]⟩
theorem Ft{t:Zj}{kind m:Int}{x:bu×Zn}(B:x∈bZ t)(a:x.2.kind=kind)(D:x.2.message=m):∃y,(bZ t).find? (rq kind m)=some y:=by cases u:(bZ t).find? (rq kind m)with|some y=>exact⟨y,rfl⟩|none=>rw[List.find?_eq_none]at u;exact absurd (u x B) (by simp[rq,a,D])
theorem OU{t:Zj}{p k:Nat}{e:Zn}(h:kA t p k e)(a:k<9223372036854775807):tj t ⟨p,k+1⟩=some e:=by have⟨P,u,w⟩:=h;unfold tj;dsimp only;rw[show idx t.procs (p:Int)=some P from by rw[lG];exact u,ζb,show wrap .i64 ((k:Int)+1-1)=(k:Int)from by rw[mE _ Za Za];omega,show idx P.events (k:Int)=some e from by rw[lG];exact w];rfl
def tY(t:Zj)(x:bu×Zn):Int:=if x.2.kind=1 then 0 else if lE t x.2.kind x.2.message=x.1 then(if x.2.kind=3 then(if rM t x.2.peer x.2.message x.1.proc then 0 else 7)else 0)else 8
theorem KC{t:Zj}(D:Small t){p k:Nat}{e:Zn}(h:kA t p k e)(Y:j7 t.procs.l.length p e):gZ t ⟨p,k+1⟩=some (tY t (⟨p,k+1⟩,e)):=by
 have b:k<1073741824:=by have⟨P,X,Z⟩:=h;have:=(D.2 P (mem_of_getElem? X)).1;have:=(ζe.1 Z).1;omega
 unfold gZ tY;rw[OU h Za,ζb];dsimp only;by_cases a:e.kind=1;rw[show(e.kind==1)=true from by simp[a],b9,if_pos a];rw[show(e.kind==1)=false from by simp[a],cK,if_neg a,find_eq D,ζb];have G:HE (lE t e.kind e.message) ⟨p,(k:Int)+1⟩=decide (lE t e.kind e.message=⟨p,(k:Int)+1⟩):=by unfold HE;rw[Bool.eq_iff_iff];cases lE t e.kind e.message;simp
 rw[G];by_cases w:lE t e.kind e.message=⟨p,(k:Int)+1⟩;rw[if_pos w,show decide (lE t e.kind e.message=⟨p,(k:Int)+1⟩)=true from by simpa using w,b9];by_cases B:e.kind=3;rw[if_pos B,show(e.kind==3)=true from by simp[B],b9];have I:0<=e.peer/\e.peer<t.procs.l.length:=by rcases Y with h|⟨_,a,w,_⟩;exact absurd h a;exact⟨a,w⟩
 have S:e.peer.toNat<t.procs.l.length:=Za;have T:=ζd S;have c:=(D.2 _ (getElem_mem S)).1;generalize d:t.procs.l[e.peer.toNat]=Q at *;have J:idx t.procs e.peer=some Q:=by rw[MV I.1];exact T
 have L:rM t e.peer e.message p=Q.events.l.any λs=>s.kind==2&&s.message==e.message&&s.peer==p:=by unfold rM;rw[T]
 unfold gZ.W1;refine Wp.eq (ga (λz:Zl×Int=>∃m:Nat,z.2=m/\m<=Q.events.l.length/\z.1=(Q.events.l.take m).any λs=>s.kind==2&&s.message==e.message&&s.peer==p) (λz=>Q.events.l.length-z.2.toNat) ⟨0,rfl,zero_le _,rfl⟩ ?_);rintro⟨s,i⟩ ⟨m,U,f,C⟩;simp only at U C;subst U;unfold gZ.bG;dsimp only;rw[J,ζb,cA];constructor;intro O;have u:m<Q.events.l.length:=by simpa[len]using O
 have W:=dB m Za;rw[ζb,bX u,ζb,mT,ζb,mT,ζb,ku,ζb,bz];refine⟨⟨m+1,W,Za,?_⟩,by show _-(wrap .i64 ((m:Int)+1)).toNat<_;rw[W];simp;omega⟩;show(s||_)=_;rw[take_add_one,ζd u,List.any_append,C];simp;intro O;have u:Q.events.l.length<=m:=by simpa[len]using O
 rw[take_of_length_le u]at C;refine(bz _).2 ?_;rw[L,<-C];cases s;exact(bz _).2 rfl;exact(bz _).2 rfl;rw[if_neg B,show(e.kind==3)=false from by simp[B],cK];rw[if_neg w,show decide (lE t e.kind e.message=⟨p,(k:Int)+1⟩)=false from by simpa using w,cK]
theorem Ja{t:Zj}(J:∀x∈bZ t,j7 t.procs.l.length x.1.proc x.2):(∀x∈bZ t,tY t x=0)↔vZ t:=by
 constructor;intro h;have key:∀x∈bZ t,x.2.kind≠1->lE t x.2.kind x.2.message=x.1:=λx u a=>by have:=h x u;unfold tY at this;rw[if_neg a]at this;split at this;assumption;cases this
 refine⟨λx u y w z B C=>?_,λx u y w z B C=>?_,λx u z=>?_⟩;rw[<-key x u Za,<-key y w Za,z,B,C];rw[<-key x u Za,<-key y w Za,z,B,C];have:=h x u;unfold tY at this;rw[if_neg Za,if_pos (key x u Za),if_pos z]at this;split at this;assumption;cases this;intro h x u;unfold tY;by_cases k1:x.2.kind=1;rw[if_pos k1];rw[if_neg k1];have⟨y,w⟩:=Ft u rfl rfl;have⟨D,G,y3,y4⟩:=Cl w;have a:x.2.kind=2\/x.2.kind=3:=by rcases J x u with h|⟨h,_⟩;exact absurd h k1;exact h
 have I:lE t x.2.kind x.2.message=x.1:=by rw[y4];rcases a with a|a;exact h.snd y D x u (by rw[G,a]) a y3;exact h.rcv y D x u (by rw[G,a]) a y3
 rw[if_pos I];by_cases k3:x.2.kind=3;rw[if_pos k3,if_pos (h.has x u k3)];rw[if_neg k3]
theorem zp{t:Zj}(D:∀x∈bZ t,j7 t.procs.l.length x.1.proc x.2)(G:vZ t){z:bu}{f:Zn}(B:(z,f)∈bZ t)(a:f.kind=3):∃e,(lE t 2 f.message,e)∈bZ t/\e.kind=2/\e.message=f.message:=by
 have h:=G.has _ B a;have I:0<=f.peer:=by rcases D _ B with h|⟨_,h,_⟩;grind;omega
 rw[show f.peer=(f.peer.toNat:Nat)from Za,Bb]at h;have⟨k,e,u,b,w,_⟩:=h;have⟨y,C⟩:=Ft (d_.2 ⟨_,k,u,rfl⟩:(⟨(f.peer.toNat:Nat),k+1⟩,e)∈bZ t) b w;have⟨J,L,y3,y4⟩:=Cl C;grind
theorem FE.find{t:Zj}(G:∀x∈bZ t,j7 t.procs.l.length x.1.proc x.2)(B:vZ t){y z:bu}{f:Zn}(h:FE t y z)(D:(z,f)∈bZ t):f.kind=3/\lE t 2 f.message=y:=by have⟨e,I,a,w,C,u,J⟩:=h;cases AK w D rfl;have⟨L,a1,a2,O⟩:=zp G B D u;exact⟨u,B.snd _ a1 _ a a2 C Ze⟩
theorem z8{t:Zj}(O:Small t)(J:∀x∈bZ t,j7 t.procs.l.length x.1.proc x.2)(B:vZ t){z:bu}(D:Vd t z):
 Wp (dM t z) λs=>s.l.length<=2/\∀y,y∈s.l↔Edge t y z:=by
 obtain⟨p,k,f,w,rfl,u⟩:=D.at_;have c:k<1073741824:=by have⟨P,B,I⟩:=w;have:=(O.2 P (mem_of_getElem? B)).1;grind
 have j:∀s:Sl bu,s.l.length<=1->(∀y,y∈s.l↔Vd t y/\(⟨p,k+1⟩:bu)=⟨y.proc,y.index+1⟩)->Wp (dM.J1 s t ⟨p,k+1⟩) λs=>s.l.length<=2/\∀y,y∈s.l↔Edge t y ⟨p,k+1⟩:=by intro s T C;unfold dM.J1;rw[OU w Za,ζb,cA];constructor;intro G;have G:f.kind=3:=(by grind);rw[find_eq O,ζb];unfold jt;rw[if_pos Za,ζb,bz];refine⟨by show(s.l++[_]).length<=2;grind,λy=>?_⟩;show y∈s.l++[lE t 2 f.message]↔_;rw[mem_append,mem_singleton,C];have⟨e,a1,a2,Q⟩:=zp J B u G;constructor;rintro(h|rfl);exact⟨h.1,D,.inl h.2⟩;exact⟨⟨e,a1⟩,D,.inr ⟨e,f,a1,u,a2,G,Q⟩⟩;rintro⟨b,_,a|a⟩;grind;exact .inr (a.find J B u).2.symm;intro G;refine(bz _).2 ⟨Za,λy=>(C y).trans ⟨λh=>⟨h.1,D,.inl h.2⟩,λ⟨b,_,a⟩=>⟨b,a.elim id λa=>?_⟩⟩⟩;have:=(a.find J B u).1;grind
 unfold dM;rw[cA];constructor
 .intro h;have h:k+1>1:=by grind
  refine j _ (by simp[Sl.l]) λy=>?_
  have S:wrap .i64 (k+1-1)=k:=by rw[mE _ Za Za];omega
  simp only[Sl.l,mem_singleton,S,bu.mk.injEq];constructor
  .rintro rfl;have⟨P,B,I⟩:=w;have:=(ζe.1 I).1;exact⟨⟨P.events.l[k-1],d_.2 ⟨p,k-1,⟨P,B,ζd Za⟩,by simp;omega⟩⟩,rfl,rfl⟩
  simp_all
 intro h;refine j _ (by simp[Sl.l]) λy=>⟨λL=>by simp[Sl.l]at L,λ⟨L,I⟩=>?_⟩
 obtain⟨q,i,f,_,rfl,_⟩:=L.at_
 grind
theorem Ri{α:Type}{r:α->α->Prop}{x:α}(h:Acc r x):¬TransGen r x x:=by induction h with|intro x _ u=>intro h;cases h with|single h=>exact u x h (.single h)|tail h1 w=>exact u _ w (TransGen.trans (.single w) h1)
theorem HV:∀{d:Zv}{i k:Nat},d[i]?=some k->(d.set i (k+1)).sum=d.sum+1
 |[],_,_,h=>Ze|x::d,0,k,h=>Zd|x::d,i+1,k,h=>by have:=HV (d:=d) (i:=i) (k:=k) Zd;grind
theorem K9:∀{d l:Zv},d.length=l.length->(∀(i a b:Nat),d[i]?=some a->l[i]?=some b->a<=b)->d.sum<=l.sum
 |[],_,_,_=>Zc|x::d,[],h,_=>Ze|x::d,y::l,h,B=>by have c:=B 0 x y rfl rfl;have u:=K9 (d:=d) (l:=l) Zd λi a b w z=>B (i+1) a b Zd Zd;simp;omega
def nI(d:Zv):Zy:=d.map Int.ofNat
def sI(s:Zg):Nat:=(s.l.map toNat).sum
theorem Eo(d:Zv):sI (.row (nI d))=d.sum:=by unfold sI nI;rw[show(Sl.row (d.map Int.ofNat)).l=d.map Int.ofNat from rfl,List.map_map,show(toNat ∘ Int.ofNat)=id from rfl,List.map_id]
theorem LQ(d:Zv):(nI d).length=d.length:=by simp[nI]
structure Kh(t:Trace)(d:List Nat):Prop where
 len:d.length=t.procs.l.length
 le:∀(p k:Nat)P,d[p]?=some k->t.procs.l[p]?=some P->k<=P.events.l.length
 acc:∀(p k j:Nat),d[p]?=some k->j<k->Acc (Edge t) ⟨p,j+1⟩
def rC(t:Zj):Nat:=(t.procs.l.map λP=>P.events.l.length).sum
theorem Kh.sum{t:Zj}{d:Zv}(h:Kh t d):d.sum<=rC t:=K9 (by simp[h.len]) λi a b z u=>by cases w:t.procs.l[i]?with|none=>grind|some P=>simp[w]at u;rw[<-u];exact h.le i a P z w
theorem B_{d:Zv}{p:Nat}(h:p<d.length):Sl.l_ (.row (nI d)) (p:Int)=some p:=by unfold Sl.l_;rw[if_pos ⟨Za,by simpa[Sl.l,LQ]using h⟩];rfl
theorem yW{d:Zv}{p k:Nat}(h:d[p]?=some k):Sl.get (.row (nI d)) p=some (k:Int):=by unfold Sl.get nI;rw[show(Sl.row (d.map Int.ofNat)).l=d.map Int.ofNat from rfl,getElem?_map,h];rfl
def Mv(t:Zj)(B:Zv)(s:Zg)(b:Zl)(d:Zv):Prop:=s=.row (nI d)/\Kh t d/\B.sum<=d.sum/\(b=true->B.sum<d.sum)
def KQ(t:Zj)(B:Zv)(p:Nat)(w:Fw (Zg×Zl×Int) (Zg×Zl) Empty):Prop:=∃u z C,w=.n (u,z,((p+1:Nat):Int))/\Mv t B u z C
theorem Qc{t:Zj}(c:Small t)(m:∀x∈bZ t,j7 t.procs.l.length x.1.proc x.2)(n:vZ t){D o:Zv}{s:Zg}{b:Zl}{p:Nat}(g:p<t.procs.l.length)(A:Mv t D s b o):
 Wp (eE.W3 s b p t) (KQ t D p):=by
 have Z:=bX g;have hn:=c.1;have ah:=(c.2 _ (getElem_mem g)).1;have C:=ζd g;generalize t.procs.l[p]=P at *;refine ga (λq:Zg×Zl=>∃d,Mv t D q.1 q.2 d) (λq=>rC t-sI q.1) ⟨o,A⟩ ?_
 rintro⟨s,b⟩ ⟨d,rfl,u,E,F⟩;have w:p<d.length:=by rw[u.len];omega
 have a:=ζd w;generalize d[p]=k at a;have ai:=u.le p k P a C;have stop:∀{X:Empty->Prop},Wp (some (Fw.x (Sl.row (nI d),b))) (Oq (λq:Zg×Zl=>∃d,Mv t D q.1 q.2 d) (λq=>rC t-sI q.1) (λe=>Wp (some (Fw.n (e.1,e.2,wrap .i64 (p+1)))) (KQ t D p)) X (Sl.row (nI d),b)):=by refine(bz _).2 ((bz _).2 ⟨_,_,d,?_,rfl,u,E,F⟩);rw[dB p Za]
 unfold eE.eP;rw[B_ w,ζb,yW a,ζb,Z,ζb,cA];refine⟨λh=>?_,λ_=>stop⟩
 have G:k<P.events.l.length:=Zd
 have H:kA t p k P.events.l[k]:=⟨P,C,ζd G⟩;have z:(⟨p,k+1⟩,P.events.l[k])∈bZ t:=d_.2 ⟨p,k,H,rfl⟩;have go:(P.events.l[k].kind=3->∀q j:Nat,lE t 2 P.events.l[k].message=⟨q,j+1⟩->∃Y,d[q]?=some Y/\j<Y)->∀{r:Zg×Zl->Prop}{X:Empty->Prop},Wp (eE.J4 (.row (nI d)) p t) (Oq (λq:Zg×Zl=>∃d,Mv t D q.1 q.2 d) (λq=>rC t-sI q.1) r X (Sl.row (nI d),b)):=by intro K r X;unfold eE.J4;rw[B_ w,ζb,yW a,ζb,ζb];unfold Sl.put;rw[if_pos (by simpa[Sl.l,LQ]using w),ζb,bz];have I:(nI d).set p (wrap .i64 ((k:Int)+1))=nI (d.set p (k+1)):=(by rw[dB k Za];unfold nI;simp_all);have J:=HV a;have L:Kh t (d.set p (k+1)):=(by refine⟨by simp[u.len],λq i Q B v=>?_,λq i j B M=>?_⟩;rw[getElem?_set]at B;split at B;grind;exact u.le q i Q B v;rw[getElem?_set]at B;split at B;rename_i e;subst e;cases B;by_cases N:j<k;exact u.acc p k j a N;have:j=k:=Za;subst this;refine Acc.intro _ λy R=>?_;obtain⟨O,_,l|l⟩:=R;obtain⟨q,i,f,_,rfl,_⟩:=O.at_;simp[bu.mk.injEq]at l;have e1:q=p:=(by omega);subst e1;exact u.acc q j i a Za;have⟨S,V⟩:=l.find m n z;obtain⟨q,i,f,_,rfl,_⟩:=O.at_;have⟨Y,ad,ae⟩:=K S q i V;exact u.acc q Y i ad ae;exact u.acc q i j B M);have aj:=L.sum;refine⟨⟨_,Zd,L,Zd,λ_=>Zd⟩,?_⟩;show rC t-sI (.row ((nI d).set p (wrap .i64 ((k:Int)+1))))<rC t-sI (.row (nI d));rw[I,Eo,Eo,J];grind
 dsimp only;rw[ζb,ζb,yW a,ζb,bX G,ζb,cA];refine⟨λS=>?_,λS=>go λh=>Zd⟩
 have S:P.events.l[k].kind=3:=Zd
 have⟨e,a1,a2,a3⟩:=zp m n z S;have⟨q,j,T,U⟩:=d_.1 a1;simp only at U;have W:q<d.length:=by have⟨Q,v,_⟩:=T;rw[u.len];grind
 have af:=ζd W;rw[find_eq c,ζb,U,B_ W,ζb,yW af,ζb,cA];refine⟨λ_=>stop,λh=>go λ_ q' j' hh=>?_⟩
 grind
theorem Js{t:Zj}(J:Small t)(U:∀x∈bZ t,j7 t.procs.l.length x.1.proc x.2)(B:vZ t):Wp (eE t) λb=>b=true->¬HY t:=by
 have l:=J.1;unfold eE qw;rw[if_pos Zd,ζb];have c:(Sl.row (replicate (len t.procs).toNat 0))=.row (nI (replicate t.procs.l.length 0)):=by simp[nI]
 rw[c];refine ga (λs:Zg=>∃d,s=.row (nI d)/\Kh t d) (λs=>rC t-sI s) ⟨_,rfl,Zc,λp k P h _=>Zd,λp k j h m=>Zd⟩ ?_;rintro s ⟨D,rfl,S⟩;refine ga (λq:Zg×Zl×Int=>∃(n:Nat)(d:Zv),q.2.2=n/\n<=t.procs.l.length/\Mv t D q.1 q.2.1 d) (λq=>t.procs.l.length-q.2.2.toNat) ⟨0,D,rfl,zero_le _,rfl,S,le_refl _,Zc⟩ ?_;rintro⟨s,b,i⟩ ⟨n,d,T,W,L⟩;subst T;unfold eE.ct;rw[cA];constructor;intro h;have u:n<t.procs.l.length:=by grind
 refine(Qc J U B u L).mono ?_;rintro w ⟨o,r,X,rfl,G⟩;exact⟨⟨n+1,X,rfl,Za,G⟩,by simp;omega⟩;intro _;obtain⟨rfl,z,Y,I⟩:=L;rw[bz];show Wp (bE b _ _) _;rw[cA];refine⟨λZ=>(bz _).2 ⟨⟨d,rfl,z⟩,?_⟩,λ_=>(bz _).2 ?_⟩;show rC t-sI (.row (nI d))<rC t-sI (.row (nI D));rw[Eo,Eo];have:=I Z;have:=z.sum;omega;refine ga (λi:Int=>∃n:Nat,i=n/\n<=t.procs.l.length/\∀p,p<n->∀P,t.procs.l[p]?=some P->d[p]?=some P.events.l.length) (λi:Int=>t.procs.l.length-i.toNat) ⟨0,rfl,zero_le _,λp O=>absurd O Za⟩ ?_;rintro i ⟨n,rfl,v,f⟩;unfold eE.wh;rw[cA];constructor;intro h;have u:n<t.procs.l.length:=by grind
 have C:n<d.length:=by rw[z.len];omega
 have a:=ζd C;rw[B_ C,ζb,yW a,ζb,bX u,ζb,cA];refine⟨λ_=>(bz _).2 ((bz _).2 λh=>by cases h),λh=>(bz _).2 ⟨⟨n+1,dB n Za,Za,λp O P B=>?_⟩,by rw[dB n Za];simp;omega⟩⟩;by_cases e:p=n;subst e;rw[ζd u]at B;have:=z.le p _ _ a (ζd u);grind;grind;intro h;have y:t.procs.l.length<=n:=Zd;refine(bz _).2 ((bz _).2 λ_⟨x,Q⟩=>?_);obtain⟨p,k,e,⟨P,B,g⟩,rfl,_⟩:=Q.l.at_;have A:=(ζe.1 B).1;exact Ri (z.acc p _ k (f p Za P B) (ζe.1 g).1) Q
def pS(out:a_ (a_ Zl))(y:bu):Zl:=match out[y.proc.toNat]?with
 |some row=>row[y.index.toNat]?.getD false|none=>false
theorem za{t:Zj}{out:a_ (a_ Zl)}{p k:Nat}{row:a_ Zl}(a:out[p]?=some row)(b:k+1<row.length){z:bu}(B:Vd t z):
 pS (out.set p (row.set (k+1) true)) z=(decide (z=⟨p,k+1⟩)||pS out z):=by
 obtain⟨q,j,e,_,rfl,_⟩:=B.at_;have C:=(ζe.1 a).1;unfold pS;have e1:(⟨(q:Int),(j:Int)+1⟩:bu).proc.toNat=q:=rfl;have e2:(⟨(q:Int),(j:Int)+1⟩:bu).index.toNat=j+1:=by show((j:Int)+1).toNat=j+1;omega
 rw[e1,e2,getElem?_set]
 by_cases u:p=q
 .subst u;rw[if_pos rfl,if_pos C,a];dsimp only;rw[getElem?_set]
  by_cases w:k=j
  .subst w;simp[b]
  rw[if_neg Za,show decide ((⟨(p:Int),(j:Int)+1⟩:bu)=⟨p,k+1⟩)=false from by simp;omega,Bool.false_or]
 rw[if_neg u,show decide ((⟨(q:Int),(j:Int)+1⟩:bu)=⟨p,k+1⟩)=false from by simp;omega,Bool.false_or]
theorem yq{α:Type}{f g:α->Zl}:∀{l:a_ α},(∀z∈l,f z=true->g z=true)->(∃z∈l,f z=false/\g z=true)->l.countP f<l.countP g
 |[],_,⟨z,b,_⟩=>by simp at b|a::l,h,⟨z,b,B,hg⟩=>by simp only[List.countP_cons];have D:=List.countP_mono_left (l:=l) (p:=f) (q:=g) λx u=>h x (mem_cons_of_mem _ u);rcases mem_cons.1 b with rfl|b;simp[B,hg];omega;have:=yq (l:=l) (λx u=>h x (mem_cons_of_mem _ u)) ⟨z,b,B,hg⟩;have c:=h a (List.mem_cons_self ..);cases w:f a with|true=>simp[c w];omega|false=>simp;split<;>omega
def cnt(t:Zj)(out:a_ (a_ Zl)):Nat:=(bZ t).countP λz=>pS out z.1
structure TY(t:Trace)(x:bu)(out:List (List Bool))(rest:List bu):Prop where
 shp:∀(p:Nat)P,t.procs.l[p]?=some P->∃row,out[p]?=some row/\row.length=P.events.l.length+1
 len:out.length=t.procs.l.length
 que:∀y∈rest,Way t y x
 snd:∀y,Vd t y->pS out y=true->Way t y x
 cls:∀z,z=x\/Vd t z/\pS out z=true->∀y,Edge t y z->pS out y=true\/y∈rest
 le:rest.length<=2*cnt t out+2
theorem Ac{t:Zj}{y:bu}:pS (gp t) y=false:=by
 unfold pS gp;split;rename_i row h;rw[getElem?_map]at h;cases u:t.procs.l[y.proc.toNat]?with|none=>simp[u]at h|some P=>simp[u]at h;subst h;rw[List.getElem?_replicate];split<;>rfl
 rfl
theorem PN{t:Zj}(Y:Small t)(n:(bZ t).length<1073741824)(g:∀x∈bZ t,j7 t.procs.l.length x.1.proc x.2)(J:vZ t){x:bu}(i:Vd t x):
 Wp (mw t x) λs=>∃out,s=nested out/\TY t x out []/\∀y,Vd t y->(pS out y=true↔Way t y x):=by
 unfold mw;rw[if_pos (by
  unfold yu;simp only[ζh,all_eq_true,decide_eq_true_eq];exact⟨by have:=Y.1;omega,λP J=>by have:=(Y.2 P J).1;omega⟩),fC]
 refine(z8 Y g J i).mono λs X=>?_
 refine ga (λq:a_ (a_ Zl)×a_ bu=>TY t x q.1 q.2) (λq=>2*((bZ t).length-cnt t q.1)+q.2.length) ⟨λp P J=>⟨replicate (P.events.l.length+1) false,by simp[gp,J],Zc⟩,by simp[gp],λy C=>.single ((X.2 y).1 C),λy _ h=>(by rw[Ac]at h;cases h),λz a y C=>?_,by have:=X.1;show s.l.length<=2*cnt t (gp t)+2;omega⟩ ?_
 .rcases a with rfl|⟨_,h⟩
  .exact .inr ((X.2 y).2 C)
  rw[Ac]at h;cases h
 rintro⟨out,rest⟩ u
 cases rest with
 |nil=>
  show Wp (some _) _;refine(bz _).2 ((bz _).2 ⟨out,rfl,u,λy C=>⟨u.snd y C,λD=>?_⟩⟩)
  have key:∀w,Way t y w->w=x\/Vd t w/\pS out w=true->pS out y=true:=λw D=>by induction D with|single h=>exactλD=>(u.cls _ D _ h).elim id λh=>by cases h|tail ae L ih=>exactλD=>ih (.inr ⟨L.1,(u.cls _ D _ L).elim id λh=>by cases h⟩)
  exact key x D (.inl rfl)
 |cons y rest=>
  have G:=u.que y (List.mem_cons_self ..);have I:=G.l;obtain⟨p,k,e,Z,rfl,O⟩:=I.at_;have⟨P,S,j⟩:=Z;have o:=(ζe.1 j).1;have⟨row,b,l⟩:=u.shp p P S;have B:k+1<row.length:=Za
  show Wp (nD _ (out,⟨p,k+1⟩::rest)) _;unfold nD;have e2:((k:Int)+1).toNat=k+1:=Za
  dsimp only;rw[if_pos ⟨Za,Za⟩,show((p:Nat):Int).toNat=p from rfl,e2,b,ζb,ζd B,ζb,cA]
  have T:pS out ⟨p,k+1⟩=row[k+1]:=by unfold pS;rw[show((⟨(p:Int),(k:Int)+1⟩:bu).proc).toNat=p from rfl,b];dsimp only;rw[e2,ζd B];rfl
  constructor
  .intro c;rw[bz];refine⟨⟨u.shp,u.len,λy C=>u.que y (mem_cons_of_mem _ C),u.snd,λz a y C=>?_,by have:=u.le;simp only[length_cons]at this;show rest.length<=2*cnt t out+2;omega⟩,Nat.add_lt_add_left (Nat.lt_succ_self _) _⟩
   rcases u.cls z a y C with h|h
   .exact .inl h
   rcases mem_cons.1 h with rfl|h
   .exact .inl (by rw[T];exact c)
   exact .inr h
  intro c;rw[fC];refine(z8 Y g J I).mono λmore d=>?_
  have m:=u.le;simp only[length_cons]at m;have v:cnt t out<=(bZ t).length:=List.countP_le_length;have A:=d.1;have E:cnt t out<cnt t (out.set p (row.set (k+1) true)):=yq (λz a h=>by rw[za b B ⟨_,a⟩,h,Bool.or_true]) ⟨_,O,by rw[T,c],by rw[za b B I];simp⟩
  have F:cnt t (out.set p (row.set (k+1) true))<=(bZ t).length:=List.countP_le_length;rw[if_pos Za,bz]
  refine⟨⟨λq Q f=>?_,by show(out.set _ _).length=_;rw[List.length_set];exact u.len,λz a=>?_,λz a h=>?_,λz a y C=>?_,by show(rest++more.l).length<=_;rw[ζi];show _<=2*cnt t (out.set p (row.set (k+1) true))+2;omega⟩,?_⟩
  .show ∃r,(out.set p (row.set (k+1) true))[q]?=some r/\_;rw[getElem?_set];split
   next e=>subst e;rw[if_pos (ζe.1 b).1];rw[S]at f;cases f;exact⟨_,rfl,by simp[l]⟩
   exact u.shp q Q f
  .rcases mem_append.1 a with a|a
   .exact u.que z (mem_cons_of_mem _ a)
   exact .trans (.single ((d.2 z).1 a)) G
  .show Way t z x;have h:pS (out.set p (row.set (k+1) true)) z=true:=h;rw[za b B a]at h;simp only[or_eq_true,decide_eq_true_eq]at h;rcases h with rfl|h
   .exact G
   exact u.snd z a h
  .show pS (out.set p (row.set (k+1) true)) y=true\/y∈rest++more.l;rw[za b B C.1];have U:z=x\/Vd t z/\pS out z=true->(decide (y=⟨p,k+1⟩)||pS out y)=true\/y∈rest++more.l:=λa=>by
    rcases u.cls z a y C with h|h
    .exact .inl (by rw[show pS out y=true from h,Bool.or_true])
    rcases mem_cons.1 h with rfl|h
    .exact .inl Zc
    exact .inr (mem_append_left _ h)
   rcases a with a|⟨W,a⟩
   .exact U (.inl a)
   have a:pS (out.set p (row.set (k+1) true)) z=true:=a;rw[za b B W]at a;simp only[or_eq_true,decide_eq_true_eq]at a;rcases a with rfl|a
   .exact .inr (List.mem_append_right _ ((d.2 y).2 C))
   exact U (.inr ⟨W,a⟩)
  show 2*((bZ t).length-cnt t (out.set p (row.set (k+1) true)))+(rest++more.l).length<2*((bZ t).length-cnt t out)+(_::rest).length;rw[ζi,length_cons];omega
theorem SZ{t:Zj}(G:Small t)(d:(bZ t).length<1073741824)(f:∀x∈bZ t,j7 t.procs.l.length x.1.proc x.2)(J:vZ t):Wp (dc.W6 0 t ⟨0,0⟩) λr=>(r.2=0↔¬HY t):=by
 have v:=G.1;unfold dc.W6;refine ga (λi:Int=>∃n:Nat,i=n/\n<=t.procs.l.length/\∀(p k:Nat)e,p<n->kA t p k e->¬Way t ⟨p,k+1⟩ ⟨p,k+1⟩) (λi:Int=>t.procs.l.length-i.toNat) ⟨0,rfl,zero_le _,λp k e U=>absurd U Za⟩ ?_;rintro i ⟨n,rfl,Z,W⟩;unfold dc.H_;rw[cA];constructor;intro h;have w:n<t.procs.l.length:=by simpa[len]using h
 have I:=bX w;have z:=ζd w;have y:=(G.2 _ (getElem_mem w)).1;generalize t.procs.l[n]=P at *;unfold dc.W7;refine ga (λi:Int=>∃m:Nat,i=m/\m<=P.events.l.length/\∀k,k<m->¬Way t ⟨n,k+1⟩ ⟨n,k+1⟩) (λi:Int=>P.events.l.length-i.toNat) ⟨0,rfl,zero_le _,λk a=>absurd a Za⟩ ?_;rintro i ⟨m,rfl,A,a⟩;unfold dc.Hy;rw[I,ζb,cA];constructor;intro h;have L:m<P.events.l.length:=by simpa[len]using h
 have O:=dB m Za;have b:Vd t ⟨n,m+1⟩:=⟨P.events.l[m],d_.2 ⟨n,m,⟨P,z,ζd L⟩,rfl⟩⟩;rw[O,show(((m+1:Nat)):Int)=(m:Int)+1 from Zc,fC];refine(PN G d f J b).mono ?_;rintro s ⟨out,rfl,g,B⟩;have⟨row,c,E⟩:=g.shp n P z;have S:out≠[]:=by rintro rfl;cases c
 have C:m+1<row.length:=Za;have j:idx (nested out) (n:Int)=some (.row row):=by unfold nested;rw[if_neg S,lG];show(out.map Sl.row)[n]?=_;rw[getElem?_map,c];rfl
 have l:idx (Sl.row row) ((m:Int)+1)=some row[m+1]:=by rw[show(m:Int)+1=((m+1:Nat):Int)from Zc];exact bX (s:=Sl.row row) C
 rw[j,ζb,l,ζb,cA];have o:row[m+1]=pS out ⟨n,m+1⟩:=by unfold pS;rw[show((⟨(n:Int),(m:Int)+1⟩:bu).proc).toNat=n from rfl,c];dsimp only;rw[show((m:Int)+1).toNat=m+1 from Za,ζd C];rfl
 rw[o];refine⟨λD=>(bz _).2 ((bz _).2 ((bz _).2 ⟨λh=>(by cases h),λh=>absurd ⟨_,(B _ b).1 D⟩ h⟩)),λD=>(bz _).2 ⟨⟨m+1,Zc,Za,λk F=>?_⟩,by simp;omega⟩⟩;by_cases e:k=m;subst e;exactλO=>by rw[(B _ b).2 O]at D;cases D
 exact a k Za;intro h;have T:P.events.l.length<=m:=by simpa[len]using h
 refine(bz _).2 ((bz _).2 ⟨⟨n+1,dB n Za,Za,λp k e U u=>?_⟩,by rw[dB n Za];simp;omega⟩);by_cases e:p=n;subst e;have⟨Q,X,q⟩:=u;rw[z]at X;cases X;have:=(ζe.1 q).1;exact a k Za;exact W p k _ Za u;intro h;have T:t.procs.l.length<=n:=by simpa[len]using h
 refine(bz _).2 ((bz _).2 ⟨λ_⟨x,Y⟩=>?_,λ_=>rfl⟩);obtain⟨p,k,e,u,rfl,_⟩:=Y.l.at_;have⟨P,J,_⟩:=id u;exact W p k e (by have:=(ζe.1 J).1;omega) u Y
theorem GC{t:Zj}(B:∀x∈bZ t,j7 t.procs.l.length x.1.proc x.2):(∀(p k:Nat)e,kA t p k e->tY t (⟨p,k+1⟩,e)=0)↔vZ t:=Iff.trans ⟨λh x w=>by have⟨p,k,b,u⟩:=d_.1 w;have⟨a,e⟩:=x;simp only at b u;rw[u];exact h p k e b,λh p k e z=>h _ (d_.2 ⟨p,k,z,rfl⟩)⟩ (Ja B)
theorem LI{t:Zj}(J:Small t)(s:(bZ t).length<1073741824):Wp (dc t) λr=>(r.2=0↔Ok t):=by
 have E:=J.1;unfold dc;rw[ku,ζb,cA];refine⟨λS=>(bz _).2 ⟨λh=>(by cases h),λh=>?_⟩,λS=>?_⟩;have F:=h.one;have f:=h.few;simp only[or_eq_true,decide_eq_true_eq,len]at S;omega;have f:1<=t.procs.l.length/\t.procs.l.length<=8:=by simp only[Bool.or_eq_false_iff,decide_eq_false_iff_not,len]at S;omega
 unfold dc.W1;refine ga (λi:Int=>∃n:Nat,i=n/\n<=t.procs.l.length/\∀p,p<n->qX t p=0) (λi:Int=>t.procs.l.length-i.toNat) ⟨0,rfl,zero_le _,λp G=>absurd G Za⟩ ?_;rintro i ⟨n,rfl,H,l⟩;unfold dc.bG;rw[cA];constructor;intro h;have w:n<t.procs.l.length:=by simpa[len]using h
 rw[M9 J w,ζb,cA];refine⟨λa=>(bz _).2 ⟨⟨n+1,dB n Za,Za,λp G=>?_⟩,by rw[dB n Za];simp;omega⟩,λa=>(bz _).2 ((bz _).2 ⟨λh=>?_,λh=>?_⟩)⟩;by_cases e:p=n;subst e;simpa using a;exact l p Za;simp only at h;simp[h]at a;simp[h.heads n w]at a;intro h;have K:t.procs.l.length<=n:=by simpa[len]using h
 rw[bz];unfold dc.W2;refine ga (λi:Int=>∃n:Nat,i=n/\n<=t.procs.l.length/\∀(p k:Nat)P e,p<n->t.procs.l[p]?=some P->P.events.l[k]?=some e->oB t.procs.l.length P p k e=0) (λi:Int=>t.procs.l.length-i.toNat) ⟨0,rfl,zero_le _,λp k P e G=>absurd G Za⟩ ?_;rintro i ⟨I,rfl,M,X⟩;unfold dc.ct;rw[cA];constructor;intro h;have w:I<t.procs.l.length:=by simpa[len]using h
 have D:=bX w;have B:=ζd w;have T:=(J.2 _ (getElem_mem w)).1;generalize t.procs.l[I]=P at D B T;unfold dc.W3;refine ga (λi:Int=>∃m:Nat,i=m/\m<=P.events.l.length/\∀(k:Nat)e,k<m->P.events.l[k]?=some e->oB t.procs.l.length P I k e=0) (λi:Int=>P.events.l.length-i.toNat) ⟨0,rfl,zero_le _,λk e c=>absurd c Za⟩ ?_;rintro i ⟨m,rfl,v,c⟩;unfold dc.eP;rw[D,ζb,cA];constructor;intro h;have U:m<P.events.l.length:=by simpa[len]using h
 have C:=ζd U;have d:=dB m Za;rw[NR J B C,ζb,cA];refine⟨λa=>(bz _).2 ⟨⟨m+1,d,Za,λk e x u=>?_⟩,by rw[d];simp;omega⟩,λa=>(bz _).2 ((bz _).2 ((bz _).2 ⟨λh=>?_,λh=>?_⟩))⟩;by_cases g:k=m;subst g;rw[C]at u;cases u;simpa using a;exact c k e Za u;simp only at h;simp[h]at a;simp[h.fu I m P _ B C]at a;intro h;have L:P.events.l.length<=m:=by simpa[len]using h
 refine(bz _).2 ((bz _).2 ⟨⟨I+1,dB I Za,Za,λp k Q e G W u=>?_⟩,by rw[dB I Za];simp;omega⟩);by_cases j:p=I;subst j;rw[B]at W;cases W;exact c k e (by have:=(ζe.1 u).1;omega) u;exact X p k Q e Za W u;intro h;have L:t.procs.l.length<=I:=by simpa[len]using h
 have X:∀(p k:Nat)P e,t.procs.l[p]?=some P->P.events.l[k]?=some e->oB t.procs.l.length P p k e=0:=λp k P e O c=>X p k P e (by have:=(ζe.1 O).1;omega) O c;have Y:=Dy X;rw[bz];unfold dc.W4;refine ga (λi:Int=>∃n:Nat,i=n/\n<=t.procs.l.length/\∀(p k:Nat)e,p<n->kA t p k e->tY t (⟨p,k+1⟩,e)=0) (λi:Int=>t.procs.l.length-i.toNat) ⟨0,rfl,zero_le _,λp k e G=>absurd G Za⟩ ?_;rintro i ⟨q,rfl,N,Z⟩;unfold dc.Hw;rw[cA];constructor;intro h;have w:q<t.procs.l.length:=by simpa[len]using h
 have D:=bX w;have B:=ζd w;have T:=(J.2 _ (getElem_mem w)).1;generalize t.procs.l[q]=P at D B T;unfold dc.W5;refine ga (λi:Int=>∃m:Nat,i=m/\m<=P.events.l.length/\∀(k:Nat)e,k<m->P.events.l[k]?=some e->tY t (⟨q,k+1⟩,e)=0) (λi:Int=>P.events.l.length-i.toNat) ⟨0,rfl,zero_le _,λk e c=>absurd c Za⟩ ?_;rintro i ⟨m,rfl,v,c⟩;unfold dc.wh;rw[D,ζb,cA];constructor;intro h;have U:m<P.events.l.length:=by simpa[len]using h
 have C:=ζd U;have d:=dB m Za;have z:kA t q m P.events.l[m]:=⟨P,B,C⟩;rw[d,show(((m+1:Nat)):Int)=(m:Int)+1 from Zc,KC J z (Y (⟨q,m+1⟩,P.events.l[m]) (d_.2 ⟨q,m,z,rfl⟩)),ζb,cA];refine⟨λa=>(bz _).2 ⟨⟨m+1,Zc,Za,λk e x u=>?_⟩,by simp;omega⟩,λa=>(bz _).2 ((bz _).2 ((bz _).2 ⟨λh=>?_,λh=>?_⟩))⟩;by_cases g:k=m;subst g;rw[C]at u;cases u;simpa using a;exact c k e Za u;simp only at h;simp[h]at a;simp[(GC Y).2 h.Ke q m _ z]at a;intro h;have L:P.events.l.length<=m:=by simpa[len]using h
 refine(bz _).2 ((bz _).2 ⟨⟨q+1,dB q Za,Za,λp k e G z=>?_⟩,by rw[dB q Za];simp;omega⟩);by_cases j:p=q;subst j;have⟨Q,W,u⟩:=z;rw[B]at W;cases W;exact c k e (by have:=(ζe.1 u).1;omega) u;exact Z p k e Za z;intro h;have R:t.procs.l.length<=q:=by simpa[len]using h
 have O:vZ t:=(GC Y).1 λp k e z=>Z p k e (by have⟨P,O,_⟩:=z;have:=(ζe.1 O).1;omega) z;have o:¬HY t↔Ok t:=⟨λh=>⟨f.1,f.2,λp G=>l p Za,X,O,h⟩,λh=>h.acyc⟩;rw[bz,fC];refine(Js J Y O).mono λb y=>?_;rw[cA];exact⟨λh=>(bz _).2 ⟨λ_=>o.1 (y h),λ_=>rfl⟩,λ_=>(SZ J s Y O).mono λr A=>A.trans o⟩
theorem Lf{t:Zj}(B:Small t)(D:(bZ t).length<1073741824):∃b,eu t=some b/\rT t=some b/\(b=true->VT t):=by obtain⟨b,u,a,w⟩:=MN B D;refine⟨b,u,?_,a⟩;unfold rT;obtain⟨r,c,z⟩:=LI B D;rw[c,ζb];congr 1;rw[Bool.eq_iff_iff,beq_iff_eq,z];exact⟨w,λh=>(a h).ok⟩
theorem Mp{t:Zj}(W:Small t){c:Zg}(D:c.l.length=t.procs.l.length){step:Int->bt (Fw Int Unit Unit)}
 (Y:∀i,step i=bE (decide (i<(len c))) ((idx c i).bind λG=>(bE (decide (G<0)) (some true) ((idx c i).bind λJ=>(idx t.procs i).bind λO=>some (decide (J>(len O.events)))):bt Zl).bind λU=>bE U (some (.r ())) (some (.n (wrap .i64 (i+1))))) (some (.x ()))):
 Wp ((b8 step 0).bind (Fw.elim (λ_=>some true) (λ_=>some false))) λb=>(b=true↔pX t c.l):=by
 have d:=W.1;refine ga (λs:Int=>∃n:Nat,s=n/\n<=c.l.length/\∀(p:Nat)(a:Int)(P:cz),p<n->c.l[p]?=some a->t.procs.l[p]?=some P->0<=a/\a<=P.events.l.length) (λs:Int=>c.l.length-s.toNat) ⟨0,rfl,zero_le _,λp a P h=>absurd h Za⟩ ?_
 rintro s ⟨n,rfl,T,I⟩;rw[Y,cA];constructor
 .intro h;have w:n<c.l.length:=by simpa[len]using h
  have u:n<t.procs.l.length:=Za
  have L:=dB n Za
  rw[bX w,ζb,ζb,bX u,ζb,ku,ζb,cA];constructor
  .intro z;have z:c.l[n]<0\/c.l[n]>t.procs.l[n].events.l.length:=by simpa[len]using z
   refine(bz _).2 ((bz _).2 ⟨λh=>(by cases h),λQ=>?_⟩)
   have:=Q.2 n _ _ (ζd w) (ζd u);omega
  intro z;have z:0<=c.l[n]/\c.l[n]<=t.procs.l[n].events.l.length:=by simpa[len]using z
  refine(bz _).2 ⟨⟨n+1,L,Za,λp a P X B C=>?_⟩,by rw[L];simp;omega⟩
  by_cases e:p=n
  .subst e;rw[ζd w]at B;cases B;rw[ζd u]at C;cases C;exact z
  exact I p a P Za B C
 intro h;have S:c.l.length<=n:=by simpa[len]using h
 refine(bz _).2 ((bz _).2 ⟨λ_=>⟨D,λp a P B C=>I p a P (by have:=(ζe.1 B).1;omega) B C⟩,λ_=>rfl⟩)
theorem P8{t:Zj}(D:Small t){c:Zg}(B:c.l.length=t.procs.l.length):Wp (mc t c) λb=>(b=true↔pX t c.l):=by unfold mc;rw[show(len c==len t.procs)=true from by simp[len,B],b9];exact Mp D B λi=>rfl
theorem KZ{t:Zj}(D:VT t){A:cB 200 bJ}(G:iy t (bZ t) A){p k:Nat}{e:Zn}(B:kA t p k e)(a:e.kind=3):lE t 2 e.message=(ag A e.message).from_:=by have⟨y,b,u,w⟩:=zp D.formed D.ok.Ke (d_.2 ⟨p,k,B,rfl⟩:((⟨p,k+1⟩:bu),e)∈bZ t) a;have:=G.snd _ b u;simp only[w]at this;exact this.symm
theorem iS{σ ε ρ γ:Type}{step:σ->bt (Fw σ ε ρ)}{B:ε->bt γ}{fr:ρ->bt γ}{P:γ->Prop}(n:Nat)(I:Nat->σ->Prop){s:σ}(c:I 0 s)
 (h:∀i s,i<n->I i s->Wp (step s) λw=>match w with|.n D=>I (i+1) D|.x e=>Wp (B e) P|.r b=>Wp (fr b) P)
 (G:∀s,I n s->Wp (step s) λw=>match w with|.n _=>False|.x e=>Wp (B e) P|.r b=>Wp (fr b) P):Wp ((b8 step s).bind (Fw.elim B fr)) P:=by
 have key:∀m i s,i+m=n->I i s->Wp ((b8 step s).bind (Fw.elim B fr)) P:=by
  intro m
  induction m with
  |zero=>intro i s C z;have⟨w,u,a⟩:=G s Zd;rw[iU,u];cases w with|n D=>grind|x e=>exact a|r b=>exact a
  |succ m J=>intro i s C z;have⟨w,u,a⟩:=h i s Za z;rw[iU,u];cases w with|n D=>grind|x e=>exact a|r b=>exact a
 exact key n 0 s (Nat.zero_add n) c
def bump(c:Zy)(p:Nat)(d:Int):Zy:=c.set p ((c[p]?).getD 0+d)
theorem uO:∀{c:Zy}{p:Nat}{a b:Int},c[p]?=some a->(c.set p b).sum=c.sum-a+b
 |[],_,_,_,h=>Ze|x::c,0,a,b,h=>Zd|x::c,p+1,a,b,h=>by have:=uO (b:=b) (by simpa using h);grind
theorem rH:∀{c:Zy},(∀(p:Nat)a,c[p]?=some a->0<=a)->0<=c.sum
 |[],_=>Zc|x::c,h=>by have b:=h 0 x rfl;have u:=rH (c:=c) λp a w=>h (p+1) a Zd;grind
theorem FM:∀{c:Zy},(∀(p:Nat)a,c[p]?=some a->0<=a)->c.sum=0->∀(p:Nat)a,c[p]?=some a->a=0
 |[],_,_,p,a,B=>Ze|x::c,h,D,p,a,B=>by have d:=h 0 x rfl;have b:∀(p:Nat)a,c[p]?=some a->0<=a:=λp a B=>h (p+1) a Zd;have u:=rH b;simp at D;cases p with|zero=>grind|succ p=>exact FM b Za p a Zd
theorem HH:∀{c:Zy}{l:Zv},c.length=l.length->(∀(i:Nat)a b,c[i]?=some a->l[i]?=some b->a<=(b:Nat))->c.sum<=(l.sum:Nat)
 |[],[],_,_=>Zc|x::c,y::l,B,h=>by have d:=h 0 x y rfl rfl;have u:=HH (c:=c) (l:=l) Zd λi a b w z=>h (i+1) a b Zd Zd;grind
section
variable{t:Zj}{A:cB 200 bJ}{c:Zy}
theorem pX.pos(h:pX t c)(p:Nat)(a:Int)(B:c[p]?=some a):0<=a:=(h.2 p a _ B (ζd (by have:=(ζe.1 B).1;rw[<-h.1];simp_all))).1
theorem pX.at_(h:pX t c){p:Nat}(B:p<t.procs.l.length):∃a,c[p]?=some a:=⟨_,ζd (by rw[h.1];omega)⟩
theorem pX.sum(h:pX t c):0<=c.sum/\c.sum<=(rC t:Nat):=
 ⟨rH h.pos,HH (by simp[h.1]) λi a b z u=>by
  cases w:t.procs.l[i]?with
  |none=>grind|some P=>simp[w]at u;rw[<-u];exact(h.2 i a P z w).2⟩
theorem pX.set(h:pX t c){p:Nat}{b:Int}{P:cz}(B:t.procs.l[p]?=some P)(d:0<=b)(e:b<=P.events.l.length):pX t (c.set p b):=by refine⟨by simp[h.1],λq a Q u w=>?_⟩;rw[getElem?_set]at u;split at u;grind;exact h.2 q a Q u w
def EJ(t:Zj)(A:cB 200 bJ)(c:Zy)(p:Nat):Prop:=∃P e a,t.procs.l[p]?=some P/\c[p]?=some a/\P.events.l[a.toNat]?=some e/\(e.kind=3->∃b,c[(ag A e.message).from_.proc.toNat]?=some b/\(ag A e.message).from_.index<=b)
theorem kA.one{p k:Nat}{e f:Zn}(h:kA t p k e)(g:kA t p k f):e=f:=by have⟨P,a1,a2⟩:=h;have⟨Q,u,w⟩:=g;grind
theorem oe.le(h:oe t A c){p:Nat}{a b:Int}(G:c[p]?=some a)(J:a<=b)(O:∀(k:Nat)e,kA t p k e->a<=k->(k:Int)<b->e.kind=3->∃B,(c.set p b)[(ag A e.message).from_.proc.toNat]?=some B/\(ag A e.message).from_.index<=B):oe t A (c.set p b):=by
 have L:=(ζe.1 G).1;have up:∀(q:Nat)x,c[q]?=some x->∃y,(c.set p b)[q]?=some y/\x<=y:=λq x u=>by rw[getElem?_set];grind
 intro q k e x w u d I;rw[getElem?_set]at u;have C:∀x,c[q]?=some x->k<x->∃B,(c.set p b)[(ag A e.message).from_.proc.toNat]?=some B/\(ag A e.message).from_.index<=B:=λx u d=>by have⟨y,Q,S⟩:=h q k e x w u d I;have⟨z,T,U⟩:=up _ y Q;exact⟨z,T,Za⟩
 split at u;rename_i W;subst W;simp[L]at u;subst u;by_cases D:k<a;exact C a G D;exact O k e w Za d I;grind
theorem wI(D:VT t)(J:iy t (bZ t) A){p k:Nat}{e:Zn}(B:kA t p k e)(G:e.kind=3):∃q j:Nat,(ag A e.message).from_=⟨q,j+1⟩/\q≠p/\FE t ⟨q,j+1⟩ ⟨p,k+1⟩/\∃y,kA t q j y:=by have⟨q,j,y,u,z,C,y3,y4,y5⟩:=wD D J B G;have w:(⟨p,k+1⟩,e)∈bZ t:=d_.2 ⟨p,k,B,rfl⟩;refine⟨q,j,y5,?_,⟨y,e,d_.2 ⟨q,j,u,rfl⟩,w,z,G,C⟩,y,u⟩;rcases D.formed _ w with h|⟨_,_,_,h,_⟩;grind;grind
theorem Cons.up(O:VT t)(U:iy t (bZ t) A)(G:Cons t A c){p:Nat}{a:Int}{P:cz}(B:t.procs.l[p]?=some P)(D:c[p]?=some a)(Y:a<P.events.l.length):EJ t A c p↔Cons t A (c.set p (a+1)):=by have d:=G.1.pos p a D;have Z:=(ζe.1 D).1;constructor;rintro⟨Q,e,x,I,J,S,w⟩;rw[B]at I;cases I;rw[D]at J;cases J;refine⟨G.1.set B Za Za,G.2.le D Za λk f z T W g=>?_⟩;have C:k=a.toNat:=Za;subst C;cases z.one ⟨P,B,S⟩;grind;intro h;have u:a.toNat<P.events.l.length:=Za;refine⟨P,P.events.l[a.toNat],a,B,D,ζd u,λw=>?_⟩;have⟨b,L,X⟩:=h.2 p a.toNat _ (a+1) ⟨P,B,ζd u⟩ Ze Za w;rw[getElem?_set]at L;split at L;have⟨q,j,i,l,_⟩:=wI O U ⟨P,B,ζd u⟩ w;grind;grind
noncomputable def FL (t:Trace) (x:bu):Nat:=by
 classical
 exact(bZ t).countP λz=>decide (Way t z.1 x)
theorem HK (B:VT t) {x y:bu} (h:Way t x y):FL t x<FL t y:=by
 classical
 refine yq (λz _ u=>?_) ?_
 .have u:Way t z.1 x:=by grind
  simpa using u.trans h
 obtain⟨e,w⟩:=h.l;exact⟨(x,e),w,by simpa using λk=>B.ok.acyc ⟨x,k⟩,by grind⟩
theorem Py (x:bu):FL t x<=(bZ t).length:=by
 classical
 unfold FL;grind
theorem Vd.of{p k:Nat}{e:Zn}(h:kA t p k e):Vd t ⟨p,k+1⟩:=⟨e,d_.2 ⟨p,k,h,rfl⟩⟩
theorem Et{p:Nat}{P:cz}(B:t.procs.l[p]?=some P):∀(d k:Nat),k+d+1<P.events.l.length->Way t ⟨p,k+1⟩ ⟨p,((k+d+1:Nat):Int)+1⟩
 |0,k,h=>.single ⟨Vd.of ⟨P,B,ζd Za⟩,Vd.of ⟨P,B,ζd h⟩,.inl Zc⟩|d+1,k,h=>(Et B d k Za).tail ⟨Vd.of ⟨P,B,ζd (show k+d+1<_ by omega)⟩,Vd.of ⟨P,B,ζd h⟩,.inl (by simp;omega)⟩
theorem RT{q k:Nat}{b:Int}{Q:cz}{x:bu}(B:t.procs.l[q]?=some Q)(h:Way t x ⟨q,k+1⟩)(a:(k:Int)<b)(D:b<=Q.events.l.length):Way t x ⟨q,b⟩:=by by_cases e:b=k+1;grind;have:=Et B (b.toNat-k-2) k Za;rw[show((k+(b.toNat-k-2)+1:Nat)+1)=b from Za]at this;exact h.trans this
theorem Cons.HL(d:VT t)(f:iy t (bZ t) A)(B:Cons t A c){p:Nat}{a:Int}(G:c[p]?=some a)(l:0<a):Cons t A (c.set p (a-1))\/∃(q:Nat)(b:Int),c[q]?=some b/\0<b/\Way t ⟨p,a⟩ ⟨q,b⟩:=by
 have Z:=(ζe.1 G).1;have O:=ζd (show p<t.procs.l.length by rw[<-B.1.1];omega);have m:=B.1.2 p a _ G O;refine byContradiction λC=>C (.inl ⟨B.1.set O Za Za,λq k e x u J n S=>?_⟩);obtain⟨z,w,o⟩:∃z,c[q]?=some z/\x<=z:=by rw[getElem?_set]at J;split at J;(next e2=>subst e2;simp[Z]at J;exact⟨a,G,Za⟩);grind
 have⟨y,I,D⟩:=B.2 q k e z u w Za S;have⟨r,j,g,s,h,_⟩:=wI d f u S;rw[g]at I D⊢;simp only[toNat_natCast]at I D⊢;by_cases e2:p=r;subst e2;rw[G]at I;cases I;refine⟨a-1,Ze,?_⟩;refine byContradiction λv=>C (.inr ⟨q,z,w,Za,?_⟩);have:a=j+1:=Za;subst this;have⟨Q,T,_⟩:=u;have L:=B.1.2 q z Q w T;have⟨U,W,X,Y,i⟩:=h;exact RT T (.single ⟨⟨U,X⟩,⟨W,Y⟩,.inr ⟨U,W,X,Y,i⟩⟩) Za L.2;simp_all
theorem Cons.S3(B:VT t)(D:iy t (bZ t) A)(G:Cons t A c):∀(n p:Nat)(a:Int),c[p]?=some a->0<a->(bZ t).length-FL t ⟨p,a⟩<=n->∃(q:Nat)(b:Int),c[q]?=some b/\0<b/\Cons t A (c.set q (b-1)):=by
 intro n
 induction n with
 |zero=>intro p a u d C;rcases G.HL B D u d with h|⟨q,b,_,_,w⟩;grind;have:=HK B w;have:=Py (t:=t) ⟨q,b⟩;omega
 |succ n I=>intro p a u d C;rcases G.HL B D u d with h|⟨q,b,J,z,w⟩;grind;have:=HK B w;exact I q b J z Za
theorem Cons.down(D:VT t)(G:iy t (bZ t) A)(B:Cons t A c)(J:0<c.sum):∃(q:Nat)(b:Int),c[q]?=some b/\0<b/\Cons t A (c.set q (b-1)):=by
 obtain⟨p,a,u,d⟩:∃(p:Nat)(a:Int),c[p]?=some a/\0<a:=by refine byContradiction λw=>?_;have C:∀a∈c,a=0:=λa u=>(by have⟨p,z⟩:=List.mem_iff_getElem?.1 u;have:=B.1.pos p a z;grind);have:c.sum=0:=(by clear B J w;induction c with|nil=>rfl|cons x c I=>simp_all);omega
 exact B.S3 D G _ p a u d (le_refl _)
theorem Cons.Dg(G:VT t)(J:iy t (bZ t) A):∀(d:Nat){c:Zy}{k:Nat},Cons t A c->c.sum=((k+d:Nat):Int)->∃c',Cons t A c'/\c'.sum=(k:Int)
 |0,c,k,B,O=>⟨c,B,Zd⟩|d+1,c,k,B,O=>by have⟨q,b,U,W,D⟩:=B.down G J Za;exact Cons.Dg G J d D (by rw[uO U];omega)
end
theorem mQ{α:Type}{s:Sl α}{n:Nat}(h:n<s.l.length):decide ((n:Int)<len s)=true:=by simp[len];omega
theorem nK{α:Type}{s:Sl α}:decide ((s.l.length:Int)<len s)=false:=by simp[len]
theorem Qt{α:Type}{s x:Sl α}(h:s.l.length+x.l.length<=2147483648):∃r,tG s x=some r/\r.l=s.l++x.l:=by unfold tG;by_cases e:x.l=[];rw[if_pos e];exact⟨s,rfl,by rw[e,List.append_nil]⟩;rw[if_neg e,if_pos h];exact⟨_,rfl,rfl⟩
theorem nZ{α:Type}{s:Sl α}{x:α}(h:s.l.length<2147483648):∃r,jt s x=some r/\r.l=s.l++[x]:=by unfold jt;rw[if_pos Za];exact⟨_,rfl,rfl⟩
theorem tg{α:Type}{s:Sl α}{p:Nat}(h:p<s.l.length):Sl.l_ s (p:Int)=some p:=by unfold Sl.l_;rw[if_pos ⟨Za,by simpa using h⟩];rfl
theorem put_eq{α:Type}{s:Sl α}{p:Nat}{x:α}(h:p<s.l.length):∃r,Sl.put s p x=some r/\r.l=s.l.set p x:=by unfold Sl.put;rw[if_pos h];exact⟨_,rfl,by cases s<;>first|rfl|(simp[Sl.l]at h)⟩
section
variable{t:Zj}{A:cB 200 bJ}
def UN(t:Zj)(A:cB 200 bJ)(c:Zy)(n:Nat):Prop:=∀(p k:Nat)(e:Zn)(a:Int),p<n->kA t p k e->c[p]?=some a->(k:Int)<a->e.kind=3->∃b,c[(ag A e.message).from_.proc.toNat]?=some b/\(ag A e.message).from_.index<=b
theorem Sx(g:Small t)(U:VT t)(i:iy t (bZ t) A){c:Zg}(l:pX t c.l):Wp (dL t c) λb=>(b=true↔oe t A c.l):=by
 have F:=l.1;have H:=U.few;unfold dL dL.W1;refine iS c.l.length (λn s=>s=(n:Int)/\UN t A c.l n) ⟨rfl,λp k e a h=>absurd h Za⟩ ?_ ?_;rintro n _ B ⟨rfl,T⟩;unfold dL.bG;rw[mQ B,b9];have z:n<t.procs.l.length:=by omega
 have K:=(g.2 _ (getElem_mem z)).1;have C:=ζd z;have D:=ζd B;have⟨r1,r2⟩:=l.2 n _ _ D C;have J:=bX B;generalize c.l[n]=a at *;generalize t.procs.l[n]=P at *;unfold dL.W2;refine iS a.toNat (λm s=>s=(m:Int)/\∀(k:Nat)(e:Zn),k<m->kA t n k e->e.kind=3->∃b,c.l[(ag A e.message).from_.proc.toNat]?=some b/\(ag A e.message).from_.index<=b) ⟨rfl,λk e h=>absurd h Za⟩ ?_ ?_;rintro m _ M ⟨rfl,W⟩;unfold dL.ct;have L:m<P.events.l.length:=by omega
 have u:kA t n m P.events.l[m]:=⟨P,C,ζd L⟩;rw[J,ζb,show decide ((m:Int)<a)=true from by simp;omega,b9,lG,C,ζb,bX L,ζb,dB m Za];generalize P.events.l[m]=e at *;have more:(e.kind=3->∃b,c.l[(ag A e.message).from_.proc.toNat]?=some b/\(ag A e.message).from_.index<=b)->∀(k:Nat)(e:Zn),k<m+1->kA t n k e->e.kind=3->∃b,c.l[(ag A e.message).from_.proc.toNat]?=some b/\(ag A e.message).from_.index<=b:=λh k f o Z w=>by by_cases r:k=m;subst r;cases u.one Z;exact h w;exact W k f Za Z w
 rw[cA];refine⟨λw=>?_,λw=>(bz _).2 ⟨rfl,more λk=>by simp[k]at w⟩⟩;have w:e.kind=3:=by simpa using w
 have⟨q,j,d,_,_,y,Q,v,_⟩:=wI U i u w;have G:q<c.l.length:=by have:=(ζe.1 v).1;omega
 rw[find_eq g,KZ U i u w,ζb,d];simp only;rw[bX G,ζb,cA];refine⟨λX=>(bz _).2 ((bz _).2 ((bz _).2 ⟨λh=>(by cases h),λE=>?_⟩)),λY=>(bz _).2 ⟨rfl,more λ_=>?_⟩⟩;have⟨b,O,S⟩:=E n m e a u D Za w;rw[d]at O S;simp only[toNat_natCast,ζd G,ζa]at O S;simp only[decide_eq_true_eq]at X;omega;rw[d];exact⟨c.l[q],by simp only[toNat_natCast];exact ζd G,by simp at Y⊢;omega⟩;rintro _ ⟨rfl,W⟩;unfold dL.ct;rw[J,ζb,show decide ((a.toNat:Int)<a)=false from by simp;omega,cK];refine(bz _).2 ((bz _).2 ⟨dB n Za,λp k e x N u I o w=>?_⟩);by_cases e2:p=n;subst e2;rw[D]at I;cases I;exact W k e Za u w;exact T p k e x Za u I o w;rintro _ ⟨rfl,T⟩;unfold dL.bG;rw[nK,cK];exact(bz _).2 ((bz _).2 ⟨λ_ p k e a u I=>T p k e a (ζe.1 I).1 u I,λ_=>rfl⟩)
theorem Ta(D:Small t)(G:VT t)(J:iy t (bZ t) A){c:Zg}(B:c.l.length=t.procs.l.length):Wp (vf t c) λb=>(b=true↔Cons t A c.l):=by unfold vf;rw[fC];refine(P8 D B).mono λb w=>?_;rw[fC,cA];constructor;intro h;have z:=w.1 h;rw[fC];refine(Sx D G J z).mono λI u=>?_;rw[bz,bz];exact u.trans ⟨λh=>⟨z,h⟩,λh=>h.2⟩;intro h;rw[bz,bz];exact⟨λh=>(by cases h),λC=>absurd (w.2 C.1) (by simp[h])⟩
theorem step_eq{c:Zg}{p:Nat}{a:Int}(B:c.l[p]?=some a)(G:c.l.length<=1073741824)(b:0<=a)(e:a<1073741824):∃d:Zg,pZ c p=some d/\d.l=c.l.set p (a+1):=by have w:=(ζe.1 B).1;unfold pZ;have⟨r,z,u⟩:=Qt (s:=Sl.row []) (x:=c) (show 0+c.l.length<=_ by omega);have u:r.l=c.l:=u;rw[z,ζb,tg (by rw[u];exact w),ζb];unfold Sl.get;rw[u,B,ζb,ζb,mE _ Za Za];have⟨d,C,D⟩:=put_eq (s:=r) (p:=p) (x:=a+1) (by rw[u];exact w);rw[C];exact⟨d,rfl,by rw[D,u]⟩
end
def ins(s:Zb):a_ Zy:=s.l.map Sl.l
def GB(t:Zj)(A:cB 200 bJ)(c d:Zy):Prop:=∃(p:Nat)(a:Int),c[p]?=some a/\d=c.set p (a+1)/\Cons t A d
section
variable{t:Zj}{A:cB 200 bJ}
theorem pL{s:Zb}{d:Zy}:d∈ins s↔∃x∈s.l,x.l=d:=by unfold ins;exact mem_map
theorem HD{r s:Zb}{x:Zg}(h:r.l=s.l++[x]){d:Zy}:d∈ins r↔d∈ins s\/d=x.l:=by unfold ins;rw[h];simp
theorem O4(U:Small t)(W:VT t)(f:iy t (bZ t) A){c:Zg}(Y:Cons t A c.l):Wp (iK t c) λr=>r.l.length<=8/\∀d,d∈ins r↔GB t A c.l d:=by
 have J:=Y.1.1;have T:=W.few;unfold iK iK.W1;refine iS c.l.length (λn s=>s.2=(n:Int)/\s.1.l.length<=n/\∀d,d∈ins s.1↔∃(p:Nat)(a:Int),p<n/\c.l[p]?=some a/\d=c.l.set p (a+1)/\Cons t A d) ⟨rfl,le_refl _,λd=>⟨λh=>by simp[ins,Sl.l]at h,λ⟨p,a,h,_⟩=>absurd h Za⟩⟩ ?_ ?_;rintro n ⟨out,_⟩ B ⟨h,u,G⟩;simp only at h u G;subst h;have w:n<t.procs.l.length:=by omega
 have X:=(U.2 _ (getElem_mem w)).1;have z:=ζd B;have g:=Y.1.2 n _ _ z (ζd w);unfold iK.bG;rw[mQ B,b9,bX B,ζb,bX w,ζb,dB n Za];generalize c.l[n]=a at *;have keep:¬Cons t A (c.l.set n (a+1))->∀d,d∈ins out↔∃(p:Nat)(a:Int),p<n+1/\c.l[p]?=some a/\d=c.l.set p (a+1)/\Cons t A d:=λL d=>by rw[G];refine⟨λ⟨p,b,h,k⟩=>⟨p,b,Za,k⟩,λ⟨p,b,h,k1,k2,k3⟩=>⟨p,b,?_,k1,k2,k3⟩⟩;refine byContradiction λj=>L ?_;have:p=n:=Za;subst this;rw[z]at k1;cases k1;rw[<-k2];exact k3
 by_cases C:a<t.procs.l[n].events.l.length;have⟨d,Z,D⟩:=step_eq (c:=c) z Za g.1 Za;rw[show decide (a<(len t.procs.l[n].events))=true from by simpa[len]using C,b9,Z,ζb,fC,fC];refine(Ta U W f (c:=d) (by rw[D,List.length_set];exact J)).mono λb O=>?_;rw[D]at O;rw[bz,cA];constructor;intro i;have⟨r,Q,I⟩:=nZ (s:=out) (x:=d) Za;rw[ζb,Q,ζb,bz];refine⟨rfl,by rw[I];simp;omega,λe=>?_⟩;rw[HD I,G,D];constructor;rintro(⟨p,b,h,k⟩|h);exact⟨p,b,Za,k⟩;exact⟨n,a,Za,z,h,by rw[h];exact O.1 i⟩;rintro⟨p,b,h,k1,k2,k3⟩;by_cases e2:p=n;subst e2;rw[z]at k1;cases k1;exact .inr k2;exact .inl ⟨p,b,Za,k1,k2,k3⟩;intro S;exact(bz _).2 ⟨rfl,Nat.le_succ_of_le u,keep λh=>by rw[O.2 h]at S;cases S⟩;rw[show decide (a<(len t.procs.l[n].events))=false from by simpa[len]using C,cK,ζb,cK,bz];refine⟨rfl,Nat.le_succ_of_le u,keep λh=>?_⟩;have:=h.1.2 n (a+1) _ (by simp[getElem?_set,B]) (ζd w);omega;rintro⟨out,_⟩ ⟨h,u,G⟩;simp only at h u G;subst h;unfold iK.bG;rw[nK,cK,bz];refine(bz _).2 ⟨show out.l.length<=8 by omega,λd=>(G d).trans ⟨λ⟨p,a,_,h⟩=>⟨p,a,h⟩,λ⟨p,a,h⟩=>⟨p,a,(ζe.1 h.1).1,h⟩⟩⟩
def zY(t:Zj)(A:cB 200 bJ)(k:Nat)(s:Zb):Prop:=∀d,d∈ins s↔Cons t A d/\d.sum=(k:Int)
theorem GB.iff(D:VT t)(G:iy t (bZ t) A){k:Nat}{d:Zy}:(∃c,(Cons t A c/\c.sum=(k:Int))/\GB t A c d)↔Cons t A d/\d.sum=((k+1:Nat):Int):=by
 constructor;rintro⟨c,⟨z,C⟩,p,a,I,rfl,u⟩;exact⟨u,by rw[uO I];omega⟩;rintro⟨u,C⟩;have⟨q,b,w,J,z⟩:=u.down D G Za;have B:=(ζe.1 w).1;refine⟨_,⟨z,by rw[uO w];omega⟩,q,b-1,by simp[B],?_,u⟩;rw[List.set_set,show b-1+1=b from Za];refine ext_getElem? λi=>?_;rw[getElem?_set];split;next e=>subst e;simp[B,w];exact(ζe.1 w).2.symm▸rfl
 rfl
theorem Ny{s:Zb}{n:Nat}(h:n<s.l.length){d:Zy}:d∈(s.l.take (n+1)).map Sl.l↔d∈(s.l.take n).map Sl.l\/d=s.l[n].l:=by rw[show s.l.take (n+1)=s.l.take n++[s.l[n]]from by rw[take_add_one,ζd h];rfl];simp only[map_append,mem_append,map_cons,map_nil,mem_singleton]
theorem Ie:∀n:Nat,(replicate n (0:Int)).sum=0
 |0=>rfl|n+1=>by rw[List.replicate_succ,sum_cons,Ie n];rfl
theorem JQ:Cons t A (replicate t.procs.l.length 0):=by
 have w:∀(p:Nat)a,(replicate t.procs.l.length (0:Int))[p]?=some a->a=0:=λp a h=>by rw[List.getElem?_replicate]at h;split at h<;>cases h;rfl
 exact⟨⟨Zc,λp a P u _=>by rw[w p a u];omega⟩,λp k e a _ u b=>by rw[w p a u]at b;omega⟩
theorem Uc{z:Zg}(B:z.l=replicate t.procs.l.length 0):zY t A 0 (Sl.row [z]):=by
 intro d;have:d∈ins (Sl.row [z])↔d=replicate t.procs.l.length 0:=by unfold ins;rw[<-B];exact mem_singleton
 rw[this];constructor;rintro rfl;exact⟨JQ,by rw[Ie];rfl⟩;rintro⟨u,w⟩;refine ext_getElem? λi=>?_;rw[List.getElem?_replicate,<-u.1.1];split;next C=>have h:=ζd C;rw[h,FM u.1.pos (by simpa using w) i _ h]
 exact getElem?_eq_none Za
theorem zY.none(D:VT t)(G:iy t (bZ t) A){k:Nat}{s:Zb}(h:zY t A k s)(J:s.l.length=0){d:Zy}(B:Cons t A d):d.sum<(k:Int):=by refine byContradiction λu=>?_;have a:=rH B.1.pos;have⟨c,w,z⟩:=Cons.Dg D G (d.sum.toNat-k) (k:=k) B Za;have:=(h c).2 ⟨w,z⟩;have⟨x,C,_⟩:=pL.1 this;have:=List.length_pos_of_mem C;omega
theorem zY.last{s:Zb}(h:zY t A (rC t+1) s):s.l.length=0:=by refine byContradiction λu=>?_;have w:=getElem_mem (show 0<s.l.length by omega);have:=(h s.l[0].l).1 (pL.2 ⟨_,w,rfl⟩);have:=this.1.1.sum;omega
theorem K4{α:Type}(s:Sl α):decide ((len s)>0)= !decide (s.l.length=0):=by by_cases h:s.l.length=0;simp[len,h];simp[h,len];omega
end
def gw:Zy->Zy->Int
 |[],[]=>0|[],_::_=>-1|_::_,[]=>1|x::a,y::b=>if x<y then -1 else if x>y then 1 else gw a b
theorem vc:∀a,gw a a=0
 |[]=>rfl|x::a=>by simp[gw,vc a]
theorem zM:∀a b c,gw a b<0->gw b c<0->gw a c<0
 |[],[],_,h,_=>by simp[gw]at h|[],_::_,[],_,h=>by simp[gw]at h|[],_::_,_::_,_,_=>by simp[gw]|_::_,[],_,h,_=>by simp[gw]at h|_::_,_::_,[],_,h=>by simp[gw]at h|x::a,y::b,z::c,h1,B=>by have D:=zM a b c;simp only[gw]at h1 B⊢;split at h1;split at B;rw[if_pos Za];omega;split at B;omega;rw[if_pos Za];omega;split at h1;omega;split at B;rw[if_pos Za];omega;split at B;omega;rw[if_neg Za,if_neg Za];exact D h1 B
theorem we:∀a b,¬gw a b<0->¬gw b a<0->a=b
 |[],[],_,_=>rfl|[],_::_,h,_=>by simp[gw]at h|_::_,[],_,h=>by simp[gw]at h|x::a,y::b,h1,B=>by have D:=we a b;simp only[gw]at h1 B;split at h1;omega;split at B;omega;rw[D (by first|assumption|(split at h1<;>first|assumption|omega)) (by first|assumption|(split at B<;>first|assumption|omega)),show x=y from Za]
theorem NV(a b c:Zy)(d:¬gw a b<0)(B:¬gw b c<0):¬gw a c<0:=λh=>by by_cases u:gw b a<0;exact B (zM b a c u h);rw[we a b d u]at h;exact B h
theorem Mz{α:Type}{s:Sl α}{p:α->α->Z6}{f:α->Zy}(W:∀x y,x∈s.l->y∈s.l->p x y=some (gw (f x) (f y)))(U:s.l.length<2147483648):∃r,wS s p=some r/\r.l.Perm s.l/\r.l.Pairwise λx y=>¬gw (f y) (f x)<0:=by
 unfold wS;split;next h=>exact⟨s,rfl,List.Perm.refl _,by rw[h];exact Pairwise.nil⟩
 rename_i x l h;rw[if_pos (by rw[h]at U;simp at U;omega)];simp only;have S:∀i j:_root_.Fin (l.length+1),p (x::l)[i.1] (x::l)[j.1]=some (gw (f (x::l)[i.1]) (f (x::l)[j.1])):=λi j=>W _ _ (by rw[h];exact getElem_mem _) (by rw[h];exact getElem_mem _);have C:(oC λi j:_root_.Fin (l.length+1)=>p (x::l)[i.1] (x::l)[j.1])=λi j=>decide (gw (f (x::l)[i.1]) (f (x::l)[j.1])<0):=by funext i j;unfold oC;show decide ((p _ _).getD 0<0)=_;rw[S];rfl
 have D:zQ (λi j:_root_.Fin (l.length+1)=>p (x::l)[i.1] (x::l)[j.1])=true:=by have u:∀i j,oC (λi j:_root_.Fin (l.length+1)=>p (x::l)[i.1] (x::l)[j.1]) i j=decide (gw (f (x::l)[i.1]) (f (x::l)[j.1])<0):=λi j=>(by rw[C]);refine all_eq_true.2 λi _=>Bool.and_eq_true_iff.2 ⟨by rw[u,vc];rfl,all_eq_true.2 λj _=>Bool.and_eq_true_iff.2 ⟨by show(p _ _).isSome=true;rw[S];rfl,all_eq_true.2 λk _=>Bool.and_eq_true_iff.2 ⟨?_,?_⟩⟩⟩;have:=zM (f (x::l)[i.1]) (f (x::l)[j.1]) (f (x::l)[k.1]);rw[u,u,u];simp only[or_eq_true,not_eq_true',Bool.and_eq_false_iff,decide_eq_true_eq,decide_eq_false_iff_not];omega;have:=NV (f (x::l)[i.1]) (f (x::l)[j.1]) (f (x::l)[k.1]);rw[u,u,u];simp only[or_eq_true,not_eq_true',decide_eq_true_eq,decide_eq_false_iff_not];omega
 rw[if_pos D];have G:=(pP D).2;have J:=Sort.pdq_sorts _ G (finRange (l.length+1)).toArray 0 (l.length+1) (Lib.bitLen (l.length+1)) true true (zero_le _) Zc (Or.inl rfl);rw[<-AJ]at J;generalize pO l.length _=d at J;have⟨⟨z,_,w⟩,B⟩:=J;have z:d.size=l.length+1:=by simpa using z
 have I:∀y:a_ α,(s.re y).l=y:=λy=>by cases s<;>first|rfl|(simp[Sl.l]at h)
 refine⟨_,rfl,?_,?_⟩;rw[I,h];have a:d.extract 0 (l.length+1)=d:=Array.ext (by simp[z]) λi a L=>by simp
 rw[a]at w;have L:((finRange (l.length+1)).toArray.extract 0 (l.length+1)).toList=finRange (l.length+1):=by simp[take_of_length_le]
 rw[L]at w;refine(w.map _).trans ?_;rw[show(finRange (l.length+1)).map (λi=>(x::l)[i.1])=x::l from ?_];exact List.ext_getElem Zc λi a L=>Zc;rw[I,pairwise_map,List.pairwise_iff_getElem];intro i j T O Q;have:=B i j (zero_le _) Q (by simpa[z]using O);rw[C]at this;simp only[Array.length_toList]at T O;simp only[getElem!_pos d i T,getElem!_pos d j O,decide_eq_false_iff_not]at this;simpa using this
def E7(c:Zy):Zy:=c.sum::c
def UL(c:Zy):Prop:=c.length<=8/\∀x∈c,0<=x/\x<1073741824
def ja(x y:Zy):Prop:=gw (E7 x) (E7 y)<0
instance(x y:Zy):Decidable (ja x y):=by unfold ja;exact inferInstance
theorem ja.Lr(x:Zy):¬ja x x:=by unfold ja;rw[vc];omega
theorem ja.tr{x y z:Zy}(h:ja x y)(k:ja y z):ja x z:=zM _ _ _ h k
theorem ja.tot{x y:Zy}(h:¬ja x y)(k:¬ja y x):x=y:=by have:=we _ _ h k;unfold E7 at this;exact(List.cons.inj this).2
theorem ja.sum{x y:Zy}(h:x.sum<y.sum):ja x y:=by unfold ja E7;simp[gw,h]
theorem Cn:∀{l r:a_ Zy},l.Pairwise ja->r.Pairwise ja->(∀x,x∈l↔x∈r)->l=r
 |[],[],_,_,_=>rfl|[],y::r,_,_,h=>by have:=(h y).2 Zc;simp at this|x::l,[],_,_,h=>by have:=(h x).1 Zc;simp at this|x::l,y::r,C,hr,h=>by have e:x=y:=(by rcases mem_cons.1 ((h x).1 Zc)with e|e;exact e;rcases mem_cons.1 ((h y).2 Zc)with k|k;exact k.symm;exact absurd (((pairwise_cons.1 hr).1 x e).tr ((pairwise_cons.1 C).1 y k)) (ja.Lr y));subst e;congr 1;have u:=pairwise_cons.1 C;have w:=pairwise_cons.1 hr;refine Cn u.2 w.2 λz=>⟨λB=>?_,λB=>?_⟩;rcases mem_cons.1 ((h z).1 (mem_cons_of_mem _ B))with e|e;exact absurd (e▸u.1 z B) (ja.Lr x);exact e;rcases mem_cons.1 ((h z).2 (mem_cons_of_mem _ B))with e|e;exact absurd (e▸w.1 z B) (ja.Lr x);exact e
theorem Pm{t:Zj}{A:cB 200 bJ}(D:Small t)(G:VT t){c:Zy}(B:Cons t A c):UL c:=by
 refine⟨B.1.1▸G.few,λx z=>?_⟩;have⟨p,w,e⟩:=List.mem_iff_getElem.1 z;have u:p<t.procs.l.length:=by rw[<-B.1.1];exact w
 have:=B.1.2 p x _ (by rw[ζd w,e]) (ζd u);have k:=(D.2 _ (getElem_mem u)).1;omega
theorem ja.Se{x y:Zy}(h:x.sum=y.sum):ja x y↔gw x y<0:=by unfold ja E7;simp only[gw,if_neg (show¬x.sum<y.sum by omega),if_neg (show¬x.sum>y.sum by omega)]
theorem ja.nodup{L:a_ Zy}(h:L.Pairwise ja):L.Nodup:=h.imp λ{x y}(h:ja x y)(e:x=y)=>ja.Lr y (by rw[e]at h;exact h)
theorem N2{α:Type}{s:Sl α}{p:α->α->bt Zl}{f:α->Zy}(c:∀x y,x∈s.l->y∈s.l->p x y=some (decide (f x=f y)))(l:s.l.length<2147483648)(g:s.l.Pairwise λx y=>¬gw (f y) (f x)<0):
 ∃r,vB s p=some r/\(r.l.map f).Nodup/\(∀d,d∈r.l.map f↔d∈s.l.map f)/\r.l.length<=s.l.length:=by
 have S:∀i,i<s.l.length->0<i->∃(a:i<s.l.length)(O:i-1<s.l.length),rW s.l p i=some (decide (f s.l[i]=f s.l[i-1])):=λi h m=>by refine⟨h,Za,?_⟩;unfold rW;rw[ζd h,ζd (show i-1<s.l.length by omega)];exact c _ _ (getElem_mem _) (getElem_mem _)
 unfold vB;rw[if_pos ⟨Za,all_eq_true.2 λi Q=>by
  by_cases h:i=0
  .subst h;rfl
  have⟨_,_,e⟩:=S i (mem_range.1 Q) Za
  rw[e];simp⟩]
 have B:∀y:a_ α,(s.l=[]->y=[])->(s.rI y).l=y:=λy z=>by cases s<;>first|rfl|exact(z rfl).symm
 have T:∀i,i∈kept (λi=>(rW s.l p i).getD false) s.l.length↔i<s.l.length/\(i=0\/(rW s.l p i).getD false=false):=λi=>by unfold kept;simp[List.mem_filter]
 have C:=zo (λi=>(rW s.l p i).getD false) s.l.length
 have U:(kept (λi=>(rW s.l p i).getD false) s.l.length).Pairwise (·<·):=by unfold kept;exact List.pairwise_lt_range.filter _
 generalize kept (λi=>(rW s.l p i).getD false) s.l.length=K at *
 have w:(s.rI (K.filterMap (s.l[·]?))).l=K.filterMap (s.l[·]?):=B _ λh=>by rw[h];simp
 refine⟨_,rfl,?_,λd=>?_,?_⟩
 .rw[w,Nodup,pairwise_map,List.pairwise_filterMap];refine U.imp_of_mem ?_;intro i j Q Z n x u y z D;have⟨W,G⟩:=(T j).1 Z;have⟨a,O,e⟩:=S j W Za
  rw[e]at G;have X:¬f s.l[j]=f s.l[j-1]:=by rcases G with h|h;omega;simpa using h
  rw[ζd a]at z;cases z;have I:i<s.l.length:=Za
  rw[ζd I]at u;cases u;have J:=List.pairwise_iff_getElem.1 g;have a1:=J (j-1) j O a Za
  refine X (we _ _ a1 ?_)
  by_cases e2:i=j-1
  .subst e2;rw[<-D,vc];omega
  have a2:=J i (j-1) I O Za
  rw[D]at a2;exact a2
 .rw[w];simp only[mem_map,List.mem_filterMap];constructor
  .rintro⟨x,⟨i,_,u⟩,rfl⟩;exact⟨x,mem_of_getElem? u,rfl⟩
  rintro⟨x,u,rfl⟩;have⟨i,Q⟩:=List.mem_iff_getElem?.1 u;have key:∀(i:Nat)x,s.l[i]?=some x->∃y,(∃j,j∈K/\s.l[j]?=some y)/\f y=f x:=by intro i;induction i with|zero=>intro x u;exact⟨x,⟨0,(T 0).2 ⟨(ζe.1 u).1,.inl rfl⟩,u⟩,rfl⟩|succ i ih=>intro x u;have L:=(ζe.1 u).1;have⟨a,O,e⟩:=S (i+1) L Za;have Y:s.l[i+1]=x:=(ζe.1 u).2;by_cases b:f s.l[i+1]=f s.l[i+1-1];have⟨y,z,k⟩:=ih _ (ζd (show i<s.l.length by omega));exact⟨y,z,by rw[k,<-Y];exact b.symm⟩;exact⟨x,⟨i+1,(T _).2 ⟨L,.inr (by rw[e];simpa using b)⟩,u⟩,rfl⟩
  exact key i x Q
 rw[w];exact Nat.le_trans (List.length_filterMap_le ..) C
theorem Je{a b:Zg}(J:a.l.length<1073741824):ji a b=some (gw a.l b.l):=by
 refine Wp.eq ?_;unfold ji eS eS.W1;rw[fC];refine iS a.l.length (λn s=>s=(n:Int)/\n<=b.l.length/\gw (a.l.drop n) (b.l.drop n)=gw a.l b.l) ⟨rfl,zero_le _,rfl⟩ ?_ ?_;rintro n _ w ⟨rfl,C,u⟩;unfold eS.bG;rw[mQ w,b9,bX w,ζb];have I:a.l.drop n=a.l[n]::a.l.drop (n+1):=drop_eq_getElem_cons w;by_cases D:n<b.l.length;have G:b.l.drop n=b.l[n]::b.l.drop (n+1):=drop_eq_getElem_cons D;rw[show decide ((n:Int)>=len b)=false from by simp[len];omega,cK,bX D,ζb];rw[I,G]at u;simp only[gw]at u;generalize a.l[n]=x at *;generalize b.l[n]=y at *;have z:ov x y=some (if x<y then -1 else if x>y then 1 else 0):=by unfold ov qg;simp only[bne_self_eq_false,ζb,cK,b9];by_cases c:x<y;simp[c,bE];by_cases B:x>y;simp[c,B,bE];simp[c,B,bE]
 rw[z,ζb];by_cases c:x<y;rw[if_pos c]at u⊢;rw[show((-1:Int)==0)=false from rfl,cK,bz];exact(bz _).2 ((bz _).2 u);rw[if_neg c]at u⊢;by_cases B:x>y;rw[if_pos B]at u⊢;rw[show((1:Int)==0)=false from rfl,cK,bz];exact(bz _).2 ((bz _).2 u);rw[if_neg B]at u⊢;rw[show((0:Int)==0)=true from rfl,b9,bz];exact⟨dB n Za,D,u⟩;rw[show decide ((n:Int)>=len b)=true from by simp[len];omega,b9,bz];rw[I,List.drop_eq_nil_of_le (show b.l.length<=n by omega)]at u;exact(bz _).2 ((bz _).2 u);rintro _ ⟨rfl,C,u⟩;unfold eS.bG;rw[nK,cK,bz];rw[List.drop_eq_nil_of_le (le_refl _)]at u;by_cases h:a.l.length<b.l.length;rw[show decide (len a<len b)=true from by simp[len];omega,b9];rw[drop_eq_getElem_cons h]at u;exact(bz _).2 ((bz _).2 u);rw[show decide (len a<len b)=false from by simp[len];omega,cK];rw[List.drop_eq_nil_of_le (show b.l.length<=a.l.length by omega)]at u;exact(bz _).2 ((bz _).2 u)
theorem M5{a b:Zg}(D:a.l.length<1073741824):eV a b=some (decide (a.l=b.l)):=by
 refine Wp.eq ?_;unfold eV;rw[cA];refine⟨λh=>?_,λh=>(bz _).2 ?_⟩;have h:(a.l.length:Int)=b.l.length:=by simpa[len]using h
 have h:a.l.length=b.l.length:=Za;unfold eV.W1;refine iS a.l.length (λn s=>s=(n:Int)/\∀i,i<n->a.l[i]?=b.l[i]?) ⟨rfl,λi h=>absurd h Za⟩ ?_ ?_;rintro n _ u ⟨rfl,z⟩;unfold eV.bG;have B:n<b.l.length:=by omega
 rw[show decide ((n:Int)<len a)=true from mQ u,b9,bX u,ζb,bX B,ζb,cA];refine⟨λw=>(bz _).2 ⟨dB n Za,λi C=>?_⟩,λw=>(bz _).2 ((bz _).2 ?_)⟩;by_cases e:i=n;subst e;rw[ζd u,ζd B];simpa using w;exact z i Za;refine(decide_eq_false λe=>?_).symm;have c:a.l[n]?=b.l[n]?:=by rw[e]
 rw[ζd u,ζd B]at c;simp at w c;exact w c;rintro _ ⟨rfl,z⟩;unfold eV.bG;rw[nK,cK,bz];refine(bz _).2 (decide_eq_true (ext_getElem? λi=>?_)).symm;by_cases C:i<a.l.length;exact z i C;rw[getElem?_eq_none Za,getElem?_eq_none Za];refine(decide_eq_false λe=>?_).symm;simp[len,e]at h
section
variable{t:Zj}{A:cB 200 bJ}
def tw(A:cB 200 bJ)(e:Zn):bu:=if e.kind=3 then(ag A e.message).from_ else⟨0,0⟩
structure Of(t:Trace)(A:cB 200 bJ)(n:Nat)(m:cq):Prop where
 lens:m.lengths.l=(t.procs.l.take n).map λP=>(P.events.l.length:Int)
 need:m.need.l.map Sl.l=(t.procs.l.take n).map λP=>P.events.l.map (tw A)
theorem of_wp(Y:Small t)(g:eu t=some true)(d:VT t)(f:iy t (bZ t) A):Wp (jG t) (Of t A t.procs.l.length):=by
 have Z:=d.few;unfold jG jG.W1;refine iS t.procs.l.length (λn s=>s.1=(n:Int)/\s.2.1=t/\Of t A n s.2.2.2) ⟨rfl,rfl,rfl,rfl⟩ ?_ ?_;rintro n ⟨_,_,h,I⟩ z ⟨a,B,u⟩;simp only at a B u;subst a;have B:=B.symm;subst B;unfold jG.bG;rw[mQ z,b9,bX z,ζb];have O:=ζd z;have H:=(Y.2 _ (getElem_mem z)).1;generalize K:t.procs.l[n]=P at *;unfold jG.W2;refine iS P.events.l.length (λk s=>s.2.1=(k:Int)/\s.2.2.1=t/\s.2.2.2.2=I/\s.1.l=(P.events.l.take k).map (tw A)) ⟨rfl,rfl,rfl,rfl⟩ ?_ ?_;rintro k ⟨nd,_,_,T,_⟩ c ⟨Q,C,D,L⟩;simp only at Q C D L;subst Q;have C:=C.symm;have D:=D.symm;subst C D;unfold jG.ct;rw[mQ c,b9,bX c,ζb];have U:kA t n k P.events.l[k]:=⟨P,O,ζd c⟩;have G:P.events.l.take (k+1)=P.events.l.take k++[P.events.l[k]]:=by rw[take_add_one,ζd c];rfl
 generalize P.events.l[k]=e at *;have fin:∀id,id=tw A e->Wp (jG.J3 nd t.procs (len t.procs) n P.events (len P.events) k t ⟨Sl.nil,Sl.nil⟩ I P id) λw=>match w with|.n S=>S.2.1=((k+1:Nat):Int)/\S.2.2.1=t/\S.2.2.2.2=I/\S.1.l=(P.events.l.take (k+1)).map (tw A)|.x e=>False|.r b=>False:=λid W=>by unfold jG.J3;have⟨r,i,l⟩:=nZ (s:=nd) (x:=id) (by rw[L];simp;omega);rw[i,ζb,bz];exact⟨dB k Za,rfl,rfl,by rw[l,L,G,map_append,W];rfl⟩
 rw[cA];constructor;intro u;have u:e.kind=3:=by simpa using u
 have⟨q,j,y,m,o,p,y3,y4,y5⟩:=wD d f U u;have X:=ze Y g f (d_.2 ⟨q,j,m,rfl⟩:((⟨q,j+1⟩:bu),y)∈bZ t) o;simp only at X;rw[p]at X;rw[X,ζb];refine(fin _ (by unfold tw;rw[if_pos u,y5])).mono λw J=>?_;cases w with|n s=>exact J|x e=>exact J.elim|r b=>exact J.elim
 intro u;have u:¬e.kind=3:=by simpa using u
 refine(fin _ (by unfold tw;rw[if_neg u])).mono λw J=>?_;cases w with|n s=>exact J|x e=>exact J.elim|r b=>exact J.elim
 rintro⟨nd,_,_,T,_⟩ ⟨Q,C,D,L⟩;simp only at Q C D L;subst Q;have C:=C.symm;have D:=D.symm;subst C D;unfold jG.ct;have M:I.lengths.l.length=n:=by rw[u.lens];simp;omega
 have N:I.need.l.length=n:=by have:=congrArg List.length u.need;simp at this;omega
 have⟨v,a1,a2⟩:=nZ (s:=I.lengths) (x:=len P.events) Za;have⟨x2,E,F⟩:=nZ (s:=I.need) (x:=nd) Za;rw[nK,cK,bz];simp only;rw[a1,ζb,E,ζb,bz];have G:t.procs.l.take (n+1)=t.procs.l.take n++[P]:=by rw[take_add_one,O];rfl
 refine⟨dB n Za,rfl,?_,?_⟩;show v.l=_;rw[a2,u.lens,G,map_append];rfl;show x2.l.map Sl.l=_;rw[F,map_append,u.need,G,map_append,map_cons,L,take_length];rfl;rintro⟨_,_,h,I⟩ ⟨a,B,u⟩;simp only at a B u;subst a;have B:=B.symm;subst B;unfold jG.bG;rw[nK,cK,bz];exact(bz _).2 u
theorem MD(f:VT t)(g:iy t (bZ t) A){m:cq}(n:Of t A t.procs.l.length m){c:Zg}(D:Cons t A c.l){p:Nat}(o:p<t.procs.l.length):
 Wp (nC m c p) λb=>(b=true↔∃a,c.l[p]?=some a/\Cons t A (c.l.set p (a+1))):=by
 have ab:=D.1.1;have u:=ζd o;have⟨a,w⟩:=D.1.at_ o;have H:=D.1.2 p a _ w u;generalize t.procs.l[p]=P at *;have G:m.lengths.l[p]?=some (P.events.l.length:Int):=by rw[n.lens,take_length,getElem?_map,u];rfl
 have L:=(ζe.1 w).1;have O:idx c (p:Int)=some a:=by rw[lG];exact w
 unfold nC;rw[O,ζb,lG,G,ζb,cA];constructor
 .intro h;have h:a=P.events.l.length:=by simpa using h
  refine(bz _).2 ⟨λh=>(by cases h),λ⟨b,B,S⟩=>?_⟩
  rw[w]at B;cases B;have:=S.1.2 p (a+1) P (by simp[L]) u
  omega
 intro h;have h:¬a=P.events.l.length:=by simpa using h
 have T:a<P.events.l.length:=Za
 have r:=congrArg (λl=>l[p]?) n.need
 simp only[take_length,getElem?_map,u,Option.map_some]at r;have⟨nd,U,W⟩:=ζf.1 r;have z:a.toNat<P.events.l.length:=Za
 have K:idx nd a=some (tw A P.events.l[a.toNat]):=by rw[MV H.1,W,getElem?_map,ζd z];rfl
 rw[lG,U,ζb,ζb,K,ζb];have X:=D.up f g u w T;have I:(∃b,c.l[p]?=some b/\Cons t A (c.l.set p (b+1)))↔EJ t A c.l p:=by rw[X];exact⟨λ⟨b,B,k⟩=>by rw[w]at B;cases B;exact k,λk=>⟨a,w,k⟩⟩
 rw[I];have Y:kA t p a.toNat P.events.l[a.toNat]:=⟨P,u,ζd z⟩;have Z:EJ t A c.l p↔(P.events.l[a.toNat].kind=3->∃b,c.l[(ag A P.events.l[a.toNat].message).from_.proc.toNat]?=some b/\(ag A P.events.l[a.toNat].message).from_.index<=b):=⟨λ⟨Q,e,x,v,E,C,M⟩=>by rw[u]at v;cases v;rw[w]at E;cases E;rw[ζd z]at C;cases C;exact M,λh=>⟨P,_,a,u,w,ζd z,h⟩⟩
 rw[Z];generalize P.events.l[a.toNat]=e at *;unfold tw
 by_cases C:e.kind=3
 .rw[if_pos C];have⟨q,j,N,_,_,y,Q,R,_⟩:=wI f g Y C;have d:q<c.l.length:=by have:=(ζe.1 R).1;omega
  rw[N];simp only[toNat_natCast];rw[bX d,ζb,bz];simp only[decide_eq_true_eq];exact⟨λh _=>⟨_,ζd d,h⟩,λh=>by have⟨b,B,V⟩:=h C;rw[ζd d]at B;cases B;exact V⟩
 rw[if_neg C];have F:0<c.l.length:=Za
 have J:=D.1.pos 0 _ (ζd F);have hi:idx c ((⟨0,0⟩:bu).proc)=some c.l[0]:=bX (s:=c) (i:=0) F;rw[hi,ζb,bz];exact⟨λ_ h=>absurd h C,λ_=>by simpa using J⟩
end
theorem Dm{α:Type}:∀l:a_ α,(range l.length).filterMap (l[·]?)=l
 |[]=>rfl|x::l=>by rw[length_cons,List.range_succ_eq_map,List.filterMap_cons,List.filterMap_map];show x::(range l.length).filterMap (λi=>(x::l)[i+1]?)=_;simp only[List.getElem?_cons_succ];rw[Dm l]
theorem Pe{α:Type}{s r:Sl α}{p:α->α->bt Zl}(h:vB s p=some r):r.l.Sublist s.l:=by
 unfold vB at h;split at h
 .cases h;have key:((kept (λi=>(rW s.l p i).getD false) s.l.length).filterMap (s.l[·]?)).Sublist s.l:=by
   have e:=Dm s.l
   conv=>rhs;rw[<-e]
   exact List.Sublist.filterMap _ (by unfold kept;exact List.filter_sublist)
  generalize(kept (λi=>(rW s.l p i).getD false) s.l.length).filterMap (s.l[·]?)=y at *
  cases s<;>first|exact key|(simp[Sl.rI,Sl.l])
 cases h
theorem FK{c:Zg}(B:c.l.length<=1073741824)(a:0<c.l.length):∃d,(k_ c).bind Sl.whole=some d/\d.l=c.l:=by
 unfold k_;have key:((tG (Sl.row []:Zg) c).bind λx=>some x).bind Sl.whole=some (.row ([]++c.l)):=by unfold tG;rw[if_neg (λh=>by rw[h]at a;simp at a),if_pos (show(Sl.row ([]:Zy)).l.length+c.l.length<=2147483648 from show 0+c.l.length<=_ by omega)];rfl
 cases c with|nil=>simp[Sl.l]at a|emp=>simp[Sl.l]at a|part l=>exact⟨_,key,rfl⟩|row l=>exact⟨_,key,rfl⟩
section
variable{t:Zj}{A:cB 200 bJ}
theorem NS(H:Small t)(U:VT t)(q:iy t (bZ t) A){m:cq}(K:Of t A t.procs.l.length m){k:Nat}{B:Zb}(Y:zY t A k B)(hl:B.l.length<=5000):
 Wp (eA m B) λr=>zY t A (k+1) r/\(ins r).Nodup/\r.l.length<=40000/\(ins r).Pairwise λx y=>¬gw y x<0:=by
 have ae:=U.few;unfold eA eA.W1;refine iS B.l.length (λn s=>s.2.1=len B/\s.2.2=(n:Int)/\s.1.l.length<=8*n/\∀d,d∈ins s.1↔∃c∈(B.l.take n).map Sl.l,GB t A c d) ⟨rfl,rfl,zero_le _,λd=>by simp[ins,Sl.l]⟩ ?_ ?_
 .rintro n ⟨out,_,_⟩ w ⟨e1,e2,g1,g2⟩;simp only at e1 e2 g1 g2;subst e1 e2;have L:=(Y B.l[n].l).1 (pL.2 ⟨_,getElem_mem w,rfl⟩);unfold eA.bG;rw[mQ w,b9,bX w,ζb];have O:∀d,d∈(B.l.take (n+1)).map Sl.l↔d∈(B.l.take n).map Sl.l\/d=B.l[n].l:=λd=>Ny w
  generalize B.l[n]=c at *;have af:=L.1.1.1;have ab:=U.ok.one;unfold eA.W2;refine iS c.l.length (λj s=>s.2=(j:Int)/\s.1.l.length<=8*n+j/\∀d,d∈ins s.1↔d∈ins out\/∃(p:Nat)(a:Int),p<j/\c.l[p]?=some a/\d=c.l.set p (a+1)/\Cons t A d) ⟨rfl,g1,λd=>⟨.inl,λh=>h.elim id λ⟨p,a,h,_⟩=>absurd h Za⟩⟩ ?_ ?_
  .rintro j ⟨o2,_⟩ T ⟨e,l,i⟩;simp only at e l i;subst e;unfold eA.ct;rw[show decide ((j:Int)<len c)=true from mQ T,b9,fC];refine(MD U q K L.1 (p:=j) Za).mono λb v=>?_
   have u:=ζd T;have hr:=L.1.1.2 j _ _ u (ζd (show j<t.procs.l.length by omega))
   have ah:=(H.2 _ (getElem_mem (show j<t.procs.l.length by omega))).1
   generalize c.l[j]=a at *;have more:∀o3:Zb,(∀d,d∈ins o3↔d∈ins o2\/d=c.l.set j (a+1)/\Cons t A d)->∀d,d∈ins o3↔d∈ins out\/∃(p:Nat)(a:Int),p<j+1/\c.l[p]?=some a/\d=c.l.set p (a+1)/\Cons t A d:=λo3 h d=>by rw[h,i];constructor;rintro((h|⟨p,b,h,k⟩)|⟨h,k⟩);exact .inl h;exact .inr ⟨p,b,Za,k⟩;exact .inr ⟨j,a,Za,u,h,k⟩;rintro(h|⟨p,b,h,k1,k2,k3⟩);exact .inl (.inl h);by_cases e:p=j;subst e;rw[u]at k1;cases k1;exact .inr ⟨k2,k3⟩;exact .inl (.inr ⟨p,b,Za,k1,k2,k3⟩)
   rw[cA];constructor
   .intro ht;have⟨x,C,X⟩:=v.1 ht;rw[u]at C;cases C;have⟨d,M,z⟩:=FK (c:=c) Za Za
    have⟨N,Z,Q⟩:=put_eq (s:=d) (p:=j) (x:=a+1) (by rw[z];exact T)
    have⟨o3,P,D⟩:=nZ (s:=o2) (x:=N) Za
    have R:Sl.get d j=some a:=by unfold Sl.get;rw[z];exact u
    rw[M,ζb,tg (by rw[z];exact T),ζb,R,ζb,ζb,mE _ Za Za,Z,ζb,P,ζb,bz]
    refine⟨dB j Za,by rw[D];simp;omega,more o3 λe=>?_⟩
    rw[HD D,Q,z];exact⟨λh=>h.elim .inl λh=>.inr ⟨h,by rw[h];exact X⟩,λh=>h.elim .inl λh=>.inr h.1⟩
   intro E;refine(bz _).2 ⟨dB j Za,Nat.le_succ_of_le l,more o2 λd=>⟨.inl,λh=>h.elim id λ⟨o,W⟩=>?_⟩⟩
   rw[v.2 ⟨a,u,by rw[<-o];exact W⟩]at E;cases E
  rintro⟨o2,_⟩ ⟨e,l,i⟩;simp only at e l i;subst e;unfold eA.ct;rw[nK,cK,bz];refine(bz _).2 ⟨rfl,dB n Za,show o2.l.length<=_ by omega,λd=>?_⟩
  rw[i];constructor
  .rintro (h|⟨p,a,_,h⟩)
   .have⟨c',g,G⟩:=(g2 d).1 h;exact⟨c',(O c').2 (.inl g),G⟩
   exact⟨_,(O _).2 (.inr rfl),p,a,h⟩
  rintro⟨c',g,G⟩;rcases(O c').1 g with h|h
  .exact .inl ((g2 d).2 ⟨c',h,G⟩)
  subst h;have⟨p,a,h⟩:=G;exact .inr ⟨p,a,(ζe.1 h.1).1,h⟩
 rintro⟨out,_,_⟩ ⟨e1,e2,g1,g2⟩;simp only at e1 e2 g1 g2;subst e1 e2;unfold eA.bG;rw[nK,cK,bz];simp only;have I:zY t A (k+1) out:=λd=>by rw[g2,take_length,<-GB.iff U q (k:=k)];exact⟨λ⟨c,g,G⟩=>⟨c,(Y c).1 g,G⟩,λ⟨c,g,G⟩=>⟨c,(Y c).2 g,G⟩⟩
 have J:∀s:Zb,(∀d,d∈ins s↔d∈ins out)->∀x∈s.l,x.l.length<1073741824:=λs h x C=>by have:=((I x.l).1 ((h x.l).1 (pL.2 ⟨x,C,rfl⟩))).1.1.1;omega
 have⟨r1,o,p1,F⟩:=Mz (s:=out) (p:=ji) (f:=Sl.l) (λx y C _=>Je (J out (λ_=>Iff.rfl) x C)) Za
 have S:∀d,d∈ins r1↔d∈ins out:=λd=>(p1.map Sl.l).mem_iff
 have ad:r1.l.length=out.l.length:=p1.length_eq;have⟨r2,W,nd,V,l2⟩:=N2 (s:=r1) (p:=j_) (f:=Sl.l) (λx y C _=>by unfold j_;rw[M5 (J r1 S x C)];rfl) Za F
 rw[o,ζb,W,ζb,bz];exact⟨λd=>(V d).trans ((S d).trans (I d)),nd,Za,by unfold ins;rw[pairwise_map];exact F.sublist (Pe W)⟩
end
theorem Kw{a b:Zg}(D:a.l.length<1073741824):eT a b=some (decide (a.l=b.l)):=by
 refine Wp.eq ?_;unfold eT;rw[cA];refine⟨λh=>?_,λh=>(bz _).2 ?_⟩;have h:(a.l.length:Int)=b.l.length:=by grind
 have h:a.l.length=b.l.length:=Za;unfold eT.W1;refine iS a.l.length (λn s=>s=(n:Int)/\∀i,i<n->a.l[i]?=b.l[i]?) ⟨rfl,λi h=>absurd h Za⟩ ?_ ?_;rintro n _ u ⟨rfl,w⟩;unfold eT.bG;have z:n<b.l.length:=by omega
 rw[mQ u,b9,bX u,ζb,bX z,ζb,cA];refine⟨λB=>(bz _).2 ⟨dB n Za,λi C=>?_⟩,λB=>(bz _).2 ((bz _).2 ?_)⟩;grind;grind;rintro _ ⟨rfl,w⟩;unfold eT.bG;rw[nK,cK,bz];refine(bz _).2 (decide_eq_true (ext_getElem? λi=>?_)).symm;grind;grind
theorem lM(s:Zb):(ins s).length=s.l.length:=by unfold ins;simp
theorem QG(s:Zb)(i:Nat):(ins s)[i]?=(s.l[i]?).map Sl.l:=by unfold ins;grind
theorem KY{s:Zb}{i:Nat}(h:i<s.l.length):(ins s)[i]?=some s.l[i].l:=by rw[QG,ζd h];rfl
section
variable{t:Zj}{A:cB 200 bJ}
structure fQ(t:Trace)(A:cB 200 bJ)(L:List (List Int)):Prop where
 srt:L.Pairwise ja
 mem:∀d,d∈L↔Cons t A d
def CI(t:Zj)(A:cB 200 bJ):Prop:=∃L:a_ Zy,L.Nodup/\(∀d∈L,Cons t A d)/\5000<L.length
theorem fQ.one{L R:a_ Zy}(h:fQ t A L)(k:fQ t A R):L=R:=Cn h.srt k.srt λx=>(h.mem x).trans (k.mem x).symm
theorem fQ.not{L:a_ Zy}(h:fQ t A L)(B:L.length<=5000)(k:CI t A):False:=by have⟨R,nd,w,u⟩:=k;have:=AL nd λx z=>(h.mem x).2 (w x z);omega
theorem LL{k:Nat}{o l:a_ Zy}(c:∀d,d∈l↔Cons t A d/\d.sum=(k:Int))(B:l.Pairwise ja)(D:o.Pairwise ja)(G:∀d,d∈o↔Cons t A d/\d.sum<(k:Int)):
 (o++l).Pairwise ja/\∀d,d∈o++l↔Cons t A d/\d.sum<((k+1:Nat):Int):=by
 refine⟨List.pairwise_append.2 ⟨D,B,λa u b w=>ja.sum Zd⟩,λd=>?_⟩
 grind
theorem MF(B:VT t)(D:Small t):rC t<8589934600:=by
 have key:∀(l:a_ cz),(∀p∈l,p.events.l.length<1073741824)->(l.map λP=>P.events.l.length).sum<=1073741824*l.length:=by intro l;induction l with|nil=>grind|cons x l w=>grind
 have a:=key t.procs.l λp u=>(D.2 p u).1;have z:=B.few;unfold rC;omega
theorem Po{k:Int}{L:a_ Zy}(nd:L.Nodup)(B:L.Pairwise λx y=>¬gw y x<0)(a:∀d∈L,d.sum=k):L.Pairwise ja:=by refine(B.and nd).imp_of_mem λ{x y}u w h=>?_;have e:x.sum=y.sum:=Zd;rw[ja.Se e];by_cases q:gw x y<0;omega;exact absurd (we _ _ q h.1) h.2
theorem Lp(O:Small t)(b:eu t=some true)(G:VT t)(U:iy t (bZ t) A):
 Wp (tv t) λr=>(r.2=0/\fQ t A (ins r.1)/\r.1.l.length<=5000)\/(r.2=16/\r.1=.nil/\CI t A):=by
 have X:=G.few;have f:=MF G O;unfold tv jk;rw[b,ζb,b9,fC,fC];refine(of_wp O b G U).mono λm Y=>?_
 unfold qw;rw[if_pos ⟨Ze,Zd⟩,ζb]
 have fin:∀(k:Nat)(u:Zb)(out:Sl Zb),zY t A k u->u.l.length=0->(out.l.flatMap ins).Pairwise ja->(∀d,d∈out.l.flatMap ins↔Cons t A d/\d.sum<(k:Int))->out.l.length<=5000->(out.l.flatMap ins).length<=5000->
  Wp ((fh out).bind λC=>some (C,(0:Int))) λr=>(r.2=0/\fQ t A (ins r.1)/\r.1.l.length<=5000)\/(r.2=16/\r.1=.nil/\CI t A):=λk u out a Q D Z g i=>by
  have w:(out.l.flatMap Sl.l).map Sl.l=out.l.flatMap ins:=by rw[List.map_flatMap];rfl
  have j:(AH out).l=out.l.flatMap Sl.l:=by unfold AH;split;(next h=>exact(List.length_eq_zero_iff.1 h).symm);rfl
  unfold fh;rw[if_pos ⟨Za,Zd⟩,ζb,bz]
  have e:ins (AH out)=out.l.flatMap ins:=by unfold ins at w⊢;grind
  refine .inl ⟨rfl,⟨Zd,λd=>by rw[e];exact(Z d).trans ⟨λh=>h.1,λh=>⟨h,a.none G U Q h⟩⟩⟩,?_⟩
  grind
 unfold jk.W1;refine iS (rC t+1) (λk s=>zY t A k s.1/\(ins s.1).Pairwise ja/\(s.2.1.l.flatMap ins).Pairwise ja/\(∀d,d∈s.2.1.l.flatMap ins↔Cons t A d/\d.sum<(k:Int))/\s.2.2=((s.2.1.l.flatMap ins).length:Int)/\s.2.1.l.length<=(s.2.1.l.flatMap ins).length/\(s.2.1.l.flatMap ins).length<=5000/\s.1.l.length<=40000)
  ⟨Uc (by simp[Sl.l,len]),by simp[ins,Sl.l],by simp[Sl.l],λd=>⟨λh=>by simp[Sl.l]at h,λh=>absurd (rH h.1.1.pos) Zd⟩,by simp[Sl.l],by simp[Sl.l],by simp[Sl.l],by simp[Sl.l]⟩ ?_ ?_
 .rintro k ⟨u,out,tot⟩ hk ⟨a,B,z,D,L,S,I,T⟩;simp only at a B z D L S I T;have⟨o1,o2⟩:=LL a B z D;unfold jk.bG;rw[K4]
  by_cases Q:u.l.length=0
  .rw[show(!decide (u.l.length=0))=false from Ze,cK,bz]
   exact(bz _).2 (fin k u out a Q z D Za I)
  rw[show(!decide (u.l.length=0))=true from Ze,b9,L]
  have c:wrap .i64 (((out.l.flatMap ins).length:Int)+len u)=(((out.l.flatMap ins).length+u.l.length:Nat):Int):=by have e:len u=(u.l.length:Int):=rfl;rw[e,mE _ Za Za];omega
  rw[c,cA];refine⟨λJ=>(bz _).2 ((bz _).2 ?_),λJ=>?_⟩
  .show Wp (((fh (Sl.nil:Sl Zb)).bind λC=>some (C,(16:Int)))) _
   have e0:fh (Sl.nil:Sl Zb)=some .nil:=by unfold fh;rfl
   rw[e0,ζb,bz];refine .inr ⟨rfl,rfl,out.l.flatMap ins++ins u,ja.nodup o1,λd W=>((o2 d).1 W).1,?_⟩
   have J:=of_decide_eq_true J;rw[ζi,lM];omega
  have J:=of_decide_eq_false J;have⟨o3,g1,g2⟩:=nZ (s:=out) (x:=u) Za
  rw[g1,ζb,fC];refine(NS O G U Y a Za).mono λr⟨r1,r2,r3,r4⟩=>?_
  have w:o3.l.flatMap ins=out.l.flatMap ins++ins u:=by rw[g2];simp
  refine(bz _).2 ⟨r1,Po r2 r4 λd W=>((r1 d).1 W).2,by rw[w];exact o1,λd=>by rw[w];exact o2 d,by rw[w,ζi,lM],?_,?_,r3⟩
  .show o3.l.length<=_;rw[w,ζi,lM,g2,ζi,length_singleton];omega
  rw[w,ζi,lM];omega
 rintro⟨u,out,tot⟩ ⟨a,B,z,D,L,S,I,T⟩;simp only at a B z D L S I T;unfold jk.bG;rw[K4,show(!decide (u.l.length=0))=false from by simp[a.last],cK,bz]
 exact(bz _).2 (fin _ u out a a.last z D Za I)
end
theorem Aj{s:Zg}{p:Int->bt Zl}{f:Int->Zl}(B:∀x∈s.l,p x=some (f x))(D:s.l.length<1073741824):ij s p=some (s.l.any f):=by have h:gf s p=some (place f s.l):=oK B Za (λi=>rfl);unfold ij;rw[h,ζb,qQ]
end Go.VE
namespace Go.VE
theorem Code.one{t:Zj}{A:cB 200 bJ}{c:Zy}{r s:Int}(h:Code t A c r)(g:Code t A c s):r=s:=by rcases h with⟨h,rfl⟩|⟨a,u,rfl⟩|⟨a,u,rfl⟩|⟨a,u,rfl⟩<;>rcases g with⟨g,rfl⟩|⟨g1,g2,rfl⟩|⟨g1,g2,rfl⟩|⟨g1,g2,rfl⟩<;>first|rfl|contradiction|exact absurd ‹pX t c›.1 ‹_›
section
variable{t:Zj}{A:cB 200 bJ}
theorem My(G:Small t)(e:eu t=some true)(J:VT t)(O:iy t (bZ t) A){c:Zg}(B:Cons t A c.l){ps:Zv}(D:∀r∈ps,r<t.procs.l.length)(U:ps.length<1073741824):
 eN t (Sl.row [c]:Zb) (Sl.row (ps.map λn:Nat=>(n:Int)):Zg)=some 0:=by
 refine Wp.eq ?_;have u:=B.1.1;unfold eN xV;rw[e,ζb,b9,Fp (f:=λz=>(mM z t).getD false) (λz _=>Ko.ok ((bz _).2 trivial)) (by simp[Sl.l]),ζb,ζb,ζb]
 have w:(!((Sl.row [c]:Zb).l.any λz=>(mM z t).getD false))=true:=by simp[Sl.l,mM,len,u]<;>exact congrArg Int.ofNat u
 rw[w,b9];unfold eN.W1;refine iS 1 (λn s=>s=(n:Int)) rfl ?_ ?_
 .rintro n _ C rfl;obtain rfl:n=0:=by omega
  unfold eN.bG;rw[show decide (((0:Nat):Int)<len (Sl.row [c]:Zb))=true from rfl,b9,show idx (Sl.row [c]:Zb) ((0:Nat):Int)=some c from rfl,ζb,fC];refine(Il G u).mono λb I=>?_
  rw[I.2 B.1,b9];exact(bz _).2 rfl
 rintro _ rfl;unfold eN.bG;rw[show decide (((1:Nat):Int)<len (Sl.row [c]:Zb))=false from rfl,cK,bz];have a:∀r:Nat,r<t.procs.l.length->sY t r=some true:=λr d=>by unfold sY;rw[show decide ((r:Int)>=0)=true from Zc,b9,mQ d];rfl
 show Wp (eN.W2 (Sl.row [c]) (Sl.row (ps.map λn:Nat=>(n:Int))) (len (Sl.row (ps.map λn:Nat=>(n:Int)))) 0 t) _
 unfold eN.W2;refine iS ps.length (λn s=>s=(n:Int)) rfl ?_ ?_
 .rintro n _ C rfl;unfold eN.ct;have L:idx (Sl.row (ps.map λn:Nat=>(n:Int))) (n:Int)=some ((ps[n]:Nat):Int):=by
   rw[bX (show n<(Sl.row (ps.map λn:Nat=>(n:Int))).l.length by simpa[Sl.l]using C)]
   simp[Sl.l]
  rw[show decide ((n:Int)<len (Sl.row (ps.map λn:Nat=>(n:Int))))=true from by simp[len,Sl.l];omega,b9,L,ζb,a _ (D _ (getElem_mem C)),ζb,b9]
  exact(bz _).2 (dB n Za)
 rintro _ rfl;unfold eN.ct;rw[show decide (((ps.length:Nat):Int)<len (Sl.row (ps.map λn:Nat=>(n:Int))))=false from by simp[len,Sl.l],cK,bz]
 show Wp (eN.W3 (Sl.row [c]) 1 0 t) _;unfold eN.W3;refine iS 1 (λn s=>s=(n:Int)) rfl ?_ ?_
 .rintro n _ C rfl;obtain rfl:n=0:=by omega
  unfold eN.eP;rw[show decide (((0:Nat):Int)<1)=true from rfl,b9,show idx (Sl.row [c]:Zb) ((0:Nat):Int)=some c from rfl,ζb];unfold xk;rw[fC,fC];refine(JX G e J O B.1).mono λr d=>?_
  rw[bz,d.2 B.2];exact(bz _).2 rfl
 rintro _ rfl;unfold eN.eP;rw[show decide (((1:Nat):Int)<1)=false from rfl,cK,bz];exact(bz _).2 rfl
theorem Lu(D:VT t){p:Nat}{P:cz}(B:t.procs.l[p]?=some P):P.events.l.length<=64:=by have h:=D.ok.heads p (ζe.1 B).1;unfold qX at h;rw[B]at h;simp only at h;split at h;split at h;cases h;split at h;split at h;cases h;omega;rename_i u;exact absurd h u;cases h
end
abbrev mB(m:bt Bool)(P:Prop):Prop:=Wp m λb=>(b=true↔P)
theorem mB.eq{m:bt Zl}{P:Prop}(h:mB m P):∃b,m=some b/\(b=true↔P):=h
theorem mB.iff{m:bt Zl}{P Q:Prop}(h:mB m P)(e:P↔Q):mB m Q:=h.mono λb u=>u.trans e
theorem Ow{b:Zl}{P:Prop}(h:b=true↔P):mB (some b) P:=(bz _).2 h
theorem mB.some{m:bt Zl}{P:Prop}(h:mB m P):mB (m.bind λx=>Option.some x) P:=by have⟨b,u,h⟩:=h;rw[u];exact Ow h
theorem mB.same{m n:bt Zl}{P:Prop}(h:mB m P)(k:mB n P):∃b,m=Option.some b/\n=Option.some b/\(b=true↔P):=by
 obtain⟨b,u,h⟩:=h;obtain⟨d,w,k⟩:=k;have:b=d:=by rw[Bool.eq_iff_iff,h,k]
 subst this;exact⟨b,u,w,h⟩
theorem mB.and{m n:bt Zl}{P Q:Prop}(h:mB m P)(k:P->mB n Q){f:Zl->bt Zl}(B:∀b,f b=bE b (n.bind λx=>Option.some x) (Option.some false)):mB (m.bind f) (P/\Q):=by have⟨b,u,h⟩:=h;rw[u,ζb,B];cases b with|true=>exact((k (h.1 rfl)).some).iff ⟨λq=>⟨h.1 rfl,q⟩,λq=>q.2⟩|false=>exact Ow ⟨λe=>(nomatch e),λq=>(h.2 q.1).symm▸rfl⟩
def H7(a b:Zy):Prop:=a.length=b.length/\∀(p:Nat)(x y:Int),a[p]?=some x->b[p]?=some y->x<=y
section
variable{t:Zj}{A:cB 200 bJ}
def xy(g:Int->Int->Int)(a b c:Zy):Prop:=c.length=a.length/\∀(p:Nat)(x y:Int),a[p]?=some x->b[p]?=some y->c[p]?=some (g x y)
theorem xy.of(g:Int->Int->Int){a b:Zy}(h:a.length=b.length):xy g a b (zipWith g a b):=⟨by simp[h],λp x y u w=>by rw[List.getElem?_zipWith,u,w]⟩
theorem xy.at_{g:Int->Int->Int}{a b c:Zy}(h:xy g a b c)(D:a.length=b.length){p:Nat}{z:Int}(B:c[p]?=some z):∃x y,a[p]?=some x/\b[p]?=some y/\z=g x y:=by
 have u:p<a.length:=by rw[<-h.1];exact(ζe.1 B).1
 refine⟨a[p],b[p]' Za,ζd u,ζd Za,?_⟩;have:=h.2 p _ _ (ζd u) (ζd (show p<b.length by omega));rw[B]at this;cases this;rfl
theorem H7.trans{a b c:Zy}(h:H7 a b)(k:H7 b c):H7 a c:=by
 refine⟨h.1.trans k.1,λp x z u w=>?_⟩;have B:p<b.length:=by rw[<-h.1];exact(ζe.1 u).1
 have e:=ζd B;exact Int.le_trans (h.2 p x _ u e) (k.2 p _ z e w)
theorem H7.refl(a:Zy):H7 a a:=⟨rfl,λp x y w u=>by rw[w]at u;cases u;exact Int.le_refl _⟩
theorem xy.one{g:Int->Int->Int}{a b c d:Zy}(h:xy g a b c)(k:xy g a b d)(B:a.length=b.length):c=d:=by refine ext_getElem? λp=>?_;by_cases u:p<a.length;rw[h.2 p _ _ (ζd u) (ζd Za),k.2 p _ _ (ζd u) (ζd Za)];rw[getElem?_eq_none (by rw[h.1];omega),getElem?_eq_none (by rw[k.1];omega)]
def dz(l:Sl Zl)(i:Nat):Zl:=(l.l[i]?).getD false
theorem lN{l:Sl Zl}{i:Nat}(h:i<l.l.length):idx l (i:Int)=some (dz l i):=by rw[lG,ζd h];unfold dz;rw[ζd h];rfl
def Gr(L:a_ Zy)(l:Sl Zl)(F:Zy->Zy->Zl)(i k:Nat):Prop:=∀a b,L[i]?=some a->L[k]?=some b->dz l i=true->dz l k=true->F a b=true
def wv(L:a_ Zy)(l:Sl Zl)(F:Zy->Zy->Zl)(i k:Nat)(a b:Zy):Prop:=i<k/\L[i]?=some a/\L[k]?=some b/\dz l i=true/\dz l k=true/\F a b=false/\(∀u,i<u->u<k->Gr L l F i u)/\∀w u,w<i->w<u->Gr L l F w u
theorem Kq{c:Zy}:∀{l:a_ Zg},c∈l.map Sl.l->place (λd=>decide (c=d.l)) l=((l.map Sl.l).idxOf c:Int):=by
 intro l h;have key:∀l:a_ Zg,c∈l.map Sl.l->l.findIdx? (λd=>decide (c=d.l))=some ((l.map Sl.l).idxOf c):=by intro l;induction l with|nil=>intro h;simp at h|cons x l u=>intro h;rw[List.findIdx?_cons,map_cons,List.idxOf_cons];by_cases e:c=x.l;rw[decide_eq_true e,show(x.l==c)=true from by simpa using e.symm];rfl;rw[decide_eq_false e,show(x.l==c)=false from beq_eq_false_iff_ne.2 λk=>e k.symm];rw[map_cons]at h;rw[u ((mem_cons.1 h).resolve_left e)];rfl
 unfold place;rw[key l h]
theorem C4{L:a_ Zy}(h:L.Nodup){i:Nat}{c:Zy}(a:L[i]?=some c):L.idxOf c=i:=by have⟨u,e⟩:=ζe.1 a;rw[<-e];exact Nodup.idxOf_getElem h i u
theorem HX{L:a_ Zy}{c:Zy}(h:c∈L):L[L.idxOf c]?=some c:=by have u:=List.idxOf_lt_length_of_mem h;rw[ζd u,List.getElem_idxOf]
theorem xy.zip{g:Int->Int->Int}{a b c:Zy}(h:xy g a b c)(B:a.length=b.length):c=zipWith g a b:=by refine h.one ⟨by simp[B],λp x y u w=>?_⟩ B;rw[List.getElem?_zipWith,u,w]
end
def vU(L:a_ Zy)(c:Zy):Zv:=(range c.length).filterMap λp=>if bump c p 1∈L then some (L.idxOf (bump c p 1))else none
theorem Nc{c:Zy}{p:Nat}{d:Int}:(bump c p d).length=c.length:=by unfold bump;simp
theorem Nj{c:Zy}{p:Nat}(h:p<c.length):(bump c p 1).sum=c.sum+1:=by unfold bump;have a:c[p]?=some c[p]:=ζd h;rw[uO a,a];simp;omega
theorem wA{L:a_ Zy}{c:Zy}{k:Nat}:k∈vU L c↔∃p,p<c.length/\bump c p 1∈L/\k=L.idxOf (bump c p 1):=by
 unfold vU;rw[List.mem_filterMap];constructor;rintro⟨p,u,h⟩;split at h;next w=>cases h;exact⟨p,mem_range.1 u,w,rfl⟩
 cases h;rintro⟨p,u,w,rfl⟩;exact⟨p,mem_range.2 u,by rw[if_pos w]⟩
section
variable{t:Zj}{A:cB 200 bJ}{L:a_ Zy}
theorem fQ.nodup(h:fQ t A L):L.Nodup:=ja.nodup h.srt
theorem fQ.lt(h:fQ t A L){i k:Nat}{c d:Zy}(B:L[i]?=some c)(a:L[k]?=some d)(D:c.sum<d.sum):i<k:=by rcases Nat.lt_trichotomy i k with g|g|g;exact g;subst g;rw[B]at a;cases a;omega;obtain⟨u,rfl⟩:=ζe.1 B;obtain⟨w,rfl⟩:=ζe.1 a;exact absurd ((List.pairwise_iff_getElem.1 h.srt k i w u g).tr (ja.sum D)) (ja.Lr _)
theorem Kj(h:fQ t A L){i k:Nat}{c:Zy}(B:L[i]?=some c)(a:k∈vU L c):i<k/\k<L.length:=by obtain⟨p,w,u,rfl⟩:=wA.1 a;exact⟨h.lt B (HX u) (by rw[Nj w];omega),List.idxOf_lt_length_of_mem u⟩
theorem fQ.len(h:fQ t A L){c:Zy}(a:c∈L):c.length=t.procs.l.length:=((h.mem _).1 a).1.1
end
section
variable{L:a_ Zy}{f:Nat->Zl}
inductive Rc(L:List (List Int))(f:Nat->Bool):Nat->Prop
 |zero:Rc L f 0|step{i k:Nat}{c:List Int}:Rc L f i->f i=false->L[i]?=some c->k∈vU L c->Rc L f k
def Sa(L:a_ Zy):Prop:=∀(i k:Nat)c,L[i]?=some c->k∈vU L c->i<k/\k<L.length
open Classical in
end
def ps(L:a_ Zy)(c:Zy)(n:Nat):Zv:=(range n).filter λp=>decide (bump c p 1∈L)
theorem CM{c:Zy}{p:Nat}{a:Int}(h:c[p]?=some a):bump c p 1=c.set p (a+1):=by unfold bump;rw[h];rfl
section
variable{t:Zj}{A:cB 200 bJ}{L:a_ Zy}
theorem Sa.of(B:fQ t A L):Sa L:=λ_ _ _ h k=>Kj B h k
end
end Go.VE
namespace Go.VE
end Go.VE
namespace Go.VE
end Go.VE
namespace Go.VE
section
variable{L:a_ Zy}{f:Nat->Zl}
inductive Ln(L:List (List Int))(f:Nat->Bool):Nat->Prop
 |last:f (L.length-1)=false->Ln L f (L.length-1)|step{i k:Nat}{c:List Int}:f i=false->L[i]?=some c->k∈vU L c->Ln L f k->Ln L f i
theorem Ln.no{i:Nat}(h:Ln L f i):f i=false:=by cases h<;>assumption
end
section
variable{t:Zj}{A:cB 200 bJ}{L:a_ Zy}
end
end Go.VE
namespace Go.VE
section
variable{t:Zj}{A:cB 200 bJ}
end
theorem Ma{κ ν:Type}[DecidableEq κ]{m:Mo κ ν}{k B:κ}{v z:ν}:rm (mG m k v) B z=if B=k then v else rm m B z:=by unfold rm;induction m with|nil=>unfold mG mC;by_cases h:B=k<;>simp[h,mC]|cons a m C=>have⟨a,w⟩:=a;unfold mG;by_cases h:k=a;subst h;rw[if_pos rfl];by_cases u:B=k;simp[mC,u];simp[mC,u];rw[if_neg h];by_cases u:B=a;have:B≠k:=λe=>h (e▸u);simp[mC,u,Ne.symm h];simp only[mC,if_neg u];exact C
theorem C9:∀(l:Zy)(r:Zq),(l.foldl (λr n=>r.push (ofNat n.toNat)) r).data.toList=r.data.toList++l.map λn=>ofNat n.toNat
 |[],r=>Zc|a::l,r=>by rw[List.foldl_cons,C9 l];show(r.data.push _).toList++_=_;simp
theorem Ds(l:Zy):(pU l).data.toList=l.map λn=>ofNat n.toNat:=by unfold pU;rw[C9];rfl
def HU(l:Zy):Prop:=∀x∈l,0<=x/\x<256
theorem Sb{a b:Int}(B:0<=a/\a<256)(D:0<=b/\b<256)(h:ofNat a.toNat=ofNat b.toNat):a=b:=by have:=congrArg UInt8.toNat h;simp[UInt8.toNat_ofNat']at this;omega
theorem EO:∀{a b:Zy},HU a->HU b->(a.map λn=>ofNat n.toNat)=(b.map λn=>ofNat n.toNat)->a=b
 |[],[],_,_,_=>rfl|[],_::_,_,_,h=>by simp at h|_::_,[],_,_,h=>by simp at h|x::a,y::b,D,G,h=>by simp only[map_cons,List.cons.injEq]at h;rw[Sb (D x Zc) (G y Zc) h.1,EO (λz B=>D z (mem_cons_of_mem _ B)) (λz B=>G z (mem_cons_of_mem _ B)) h.2]
theorem Ni{a b:Zy}(B:HU a)(D:HU b)(h:pU a=pU b):a=b:=EO B D (by rw[<-Ds,<-Ds,h])
section
variable{t:Zj}{A:cB 200 bJ}{L:a_ Zy}
theorem AD(D:VT t){c:Zy}(B:Cons t A c):HU c:=λx z=>by
 obtain⟨p,w,rfl⟩:=List.mem_iff_getElem.1 z;have u:p<t.procs.l.length:=by rw[<-B.1.1];exact w
 have a:=B.1.2 p _ _ (ζd w) (ζd u);have C:=Lu D (ζd u);omega
end
theorem Kp{a b:Sl Zl}(B:a.l.length<=1073741824)(h:a.l=b.l):eF a b=some true:=by unfold eF;rw[show(len a==len b)=true from by simp[len,h],b9];refine Wp.eq ?_;unfold eF.W1;refine iS a.l.length (λn s=>s=(n:Int)) rfl ?_ ?_;rintro i _ u rfl;unfold eF.bG;rw[mQ u,b9,bX u,ζb,show idx b (i:Int)=some a.l[i]from by rw[lG,<-h];exact ζd u,ζb,show(a.l[i]==a.l[i])=true from Zc,b9,bz,dB i Za];rintro _ rfl;unfold eF.bG;rw[nK,cK,bz];exact(bz _).2 rfl
theorem RP{α:Type}{n:Nat}(z:α)(h:n<=2147483648):qw (n:Int) z=some (.row (replicate n z)):=by unfold qw;rw[if_pos Za];simp
theorem Hu{c:Zg}(h:HU c.l)(B:c.l.length<=8):gu c=some (pU c.l):=by
 refine Wp.eq ?_;unfold gu;rw[show len c=((c.l.length:Nat):Int)from rfl,RP _ Za,ζb];unfold gu.W1;refine iS c.l.length (λi(q:Sl U8×Int)=>q.2=(i:Int)/\q.1.l.length=c.l.length/\(q.1.l.map U8.v).take i=c.l.take i) ⟨rfl,by simp[Sl.l],Zc⟩ ?_ ?_;rintro i ⟨o,_⟩ u ⟨e,a,b⟩;simp only at e a b;subst e;have C:=h c.l[i] (getElem_mem u);have z:wrap .u8 c.l[i]=c.l[i]:=by simp[wrap,IntKind.bits,signed];omega
 have⟨w,k1,k2⟩:=put_eq (s:=o) (p:=i) (x:=(⟨wrap .u8 c.l[i]⟩:U8)) Za;unfold gu.bG;rw[show decide ((i:Int)<((c.l.length:Nat):Int))=true from by simpa using u,b9,bX u,ζb,tg (by omega:i<o.l.length),ζb,k1,ζb,bz];refine⟨dB i Za,by show w.l.length=_;rw[k2];simp[a],?_⟩;show(w.l.map U8.v).take (i+1)=_;rw[k2,z,List.take_succ_eq_append_getElem u,List.take_succ_eq_append_getElem (by simp[a];exact u),<-b];simp[List.take_set_of_le];rintro⟨o,_⟩ ⟨e,a,b⟩;simp only at e a b;subst e;unfold gu.bG;rw[show decide (((c.l.length:Nat):Int)<((c.l.length:Nat):Int))=false from Zc,cK,bz];refine(bz _).2 ?_;unfold IS;rw[take_length,take_of_length_le (by simp[a])]at b;rw[b]
section
variable{t:Zj}{A:cB 200 bJ}{L:a_ Zy}
theorem Jj(W:Small t)(d:eu t=some true)(Y:VT t)(O:iy t (bZ t) A){c:Zg}(f:Cons t A c.l){p k:Nat}{P:cz}(B:t.procs.l[p]?=some P)(D:c.l[p]?=some (k:Int))(a:k<P.events.l.length):
 ∃b,sW t c (p:Int)=some b/\(b=true↔EJ t A c.l p):=by
 have C:=ζd a;unfold sW;rw[lG,B,ζb,lG,D,ζb,bX a,ζb];generalize P.events.l[k]=e at C⊢;have G:EJ t A c.l p↔(e.kind=3->∃b,c.l[(ag A e.message).from_.proc.toNat]?=some b/\(ag A e.message).from_.index<=b):=by constructor;rintro⟨Q,g,x,z,L,u,w⟩;rw[B]at z;cases z;rw[D]at L;cases L;simp only[toNat_natCast]at u;rw[C]at u;cases u;exact w;intro h;exact⟨P,e,k,B,D,by simpa using C,h⟩
 rw[G]
 by_cases w:e.kind=3
 .have⟨q,j,y,⟨Q,z,X⟩,Z,S,y3,y4,y5⟩:=wD Y O ⟨P,B,C⟩ w;have T:=ze W d O (x:=(⟨q,j+1⟩,y)) (d_.2 ⟨q,j,⟨Q,z,X⟩,rfl⟩) Z;simp only at T;have I:q<c.l.length:=by rw[f.1.1];exact(ζe.1 z).1
  rw[show(e.kind==3)=true from by rw[w];rfl,b9,<-S,T,ζb,bX I,ζb]
  refine⟨_,rfl,?_⟩;rw[S,y5];simp only[toNat_natCast,decide_eq_true_eq];exact⟨λh _=>⟨_,ζd I,h⟩,λh=>by
   have⟨b,U,J⟩:=h w;rw[ζd I]at U;cases U;exact J⟩
 rw[show(e.kind==3)=false from beq_eq_false_iff_ne.2 w,cK];exact⟨true,rfl,λ_ h=>absurd h w,λ_=>rfl⟩
theorem R9(O:Small t)(a:eu t=some true)(B:VT t)(U:iy t (bZ t) A){c:Zg}(D:Cons t A c.l){p:Nat}(G:p<c.l.length):
 ∃q,sR t c (p:Int)=some q/\((q.2=0/\q.1.l=bump c.l p 1/\Cons t A (bump c.l p 1))\/(q.2≠0/\¬Cons t A (bump c.l p 1))):=by
 have j:=B.few;have Q:=B.ok.one;have T:=D.1.1;have u:p<t.procs.l.length:=Za
 have C:=ζd u;have z:=ζd G;have W:=(Pm O B D).2 c.l[p] (getElem_mem G);have⟨l,m⟩:=D.1.2 p _ _ z C;have L:=CM z;unfold sR;rw[show eN t (Sl.row [c]) (Sl.row [(p:Int)])=some 0 from My O a B U D (ps:=[p]) (by simpa using u) Zc,ζb,show((0:Int)==0)=true from rfl,b9,bX G,ζb,bX u,ζb]
 by_cases I:c.l[p]=len t.procs.l[p].events
 .rw[I,show(len t.procs.l[p].events==len t.procs.l[p].events)=true from Zc,b9]
  refine⟨_,rfl,.inr ⟨Zc,λh=>?_⟩⟩
  have:=(h.1.2 p (c.l[p]+1) _ (by rw[L];simp[G]) C).2
  simp only[len]at I;omega
 rw[show(c.l[p]==len t.procs.l[p].events)=false from beq_eq_false_iff_ne.2 I,cK];simp only[len]at I;have e:c.l[p]=((c.l[p].toNat:Nat):Int):=Za
 have⟨b,X,S⟩:=Jj O a B U D C (k:=c.l[p].toNat) (by rw[<-e];exact z) Za
 have w:=Cons.up B U D C z Za
 rw[X,ζb];rw[<-L]at w
 cases b with
 |false=>rw[cK];exact⟨_,rfl,.inr ⟨Zc,λh=>by have:=S.2 (w.2 h);cases this⟩⟩|true=>
  have⟨d,Y,J⟩:=FK (c:=c) Za Za
  have⟨f,Z,g⟩:=put_eq (s:=d) (p:=p) (x:=wrap .i64 (c.l[p]+1)) (by rw[J];exact G)
  have i:Sl.get d p=some c.l[p]:=by unfold Sl.get;rw[J];exact z
  rw[b9,Y,ζb,tg (by rw[J];exact G),ζb,i,ζb,ζb,Z,ζb]
  exact⟨_,rfl,.inl ⟨rfl,by show f.l=_;rw[g,J,mE _ Za Za,L],w.1 (S.1 rfl)⟩⟩
def jS(L:a_ Zy)(i:Nat):Zv:=vU L ((L[i]?).getD [])
structure OI(L:List (List Int))(x:bW):Prop where
 l:ins x.l=L
 n:x.next.l.length=L.length
 nx:∀i,i<L.length->∃o,x.next.l[i]?=some o/\o.l=(jS L i).map λk:Nat=>(k:Int)
theorem HT(g:Small t)(l:eu t=some true)(J:VT t)(v:iy t (bZ t) A)(B:fQ t A L)(R:L.length<=5000){r:Zb}(y:mZ t=some (r,0))(b:ins r=L):
 Wp (dG t) λq=>∃x,q=(some x,0)/\x.t=t/\OI L x:=by
 have E:=J.few;have W:r.l.length=L.length:=by rw[<-b,lM]
 have I:∀i(h:i<r.l.length),L[i]?=some r.l[i].l:=λi h=>by rw[<-b];exact KY h
 unfold dG;rw[y,ζb];simp only;rw[show((0:Int)==0)=true from rfl,b9];unfold dG.W1;refine iS r.l.length (λi(q:Int×Mo ByteArray Int)=>q.1=(i:Int)/\∀(j:Nat)c,j<i->L[j]?=some c->rm q.2 (pU c) 0=(j:Int)) ⟨rfl,λj c O=>absurd O Za⟩ ?_ ?_
 .rintro i ⟨_,m⟩ z ⟨rfl,Q⟩;simp only at Q;have w:=I i z;have S:=(B.mem _).1 (mem_of_getElem? w);have f:=AD J S;unfold dG.bG;dsimp only;rw[mQ z,b9,bX z,ζb,Hu f (by rw[S.1.1];exact E),ζb,bz]
  refine⟨dB i Za,λj c O a=>?_⟩
  show rm (mG m (pU r.l[i].l) (i:Int)) (pU c) 0=_;rw[Ma]
  by_cases e:j=i
  .subst e;rw[w]at a;cases a;rw[if_pos rfl]
  have X:=mem_of_getElem? a;rw[if_neg (λh=>e ?_)]
  .exact Q j c Za a
  have:=Ni (AD J ((B.mem _).1 X)) f h;subst this;rw[<-C4 B.nodup a,C4 B.nodup w]
 rintro⟨_,m⟩ ⟨rfl,Q⟩;simp only at Q;have F:∀c∈L,rm m (pU c) 0=(L.idxOf c:Int):=λc a=>by have:=List.idxOf_lt_length_of_mem a;exact Q _ c Za (HX a)
 unfold dG.bG;dsimp only;rw[nK,cK,bz];show Wp (dG.W2 r (len r) 0 t m ⟨t,r,.nil⟩) _;unfold dG.W2;refine iS r.l.length (λi(q:Int×Mo ByteArray Int×bW)=>q.1=(i:Int)/\q.2.1=m/\q.2.2.t=t/\q.2.2.l=r/\q.2.2.next.l.length=i/\∀j,j<i->∃o,q.2.2.next.l[j]?=some o/\o.l=(jS L j).map λk:Nat=>(k:Int)) ⟨rfl,rfl,rfl,rfl,rfl,λj O=>absurd O Za⟩ ?_ ?_
 .rintro i ⟨_,m,x⟩ z ⟨rfl,rfl,G,x2,D,x4⟩;simp only at G x2 D x4;have w:=I i z;have S:=(B.mem _).1 (mem_of_getElem? w);have V:=S.1.1;have Y:jS L i=vU L r.l[i].l:=by unfold jS;rw[w];rfl
  unfold dG.ct;dsimp only;rw[mQ z,b9,bX z,ζb];unfold dG.W3;refine iS r.l[i].l.length (λn(q:Zg×Int×bW)=>q.2.1=(n:Int)/\q.2.2=x/\q.1.l.length<=n/\q.1.l=((range n).filterMap λp=>if bump r.l[i].l p 1∈L then some (L.idxOf (bump r.l[i].l p 1))else none).map λk:Nat=>(k:Int)) ⟨rfl,rfl,le_refl _,rfl⟩ ?_ ?_
  .rintro n ⟨o,_,x⟩ hn ⟨rfl,rfl,o1,o2⟩;simp only at o1 o2;have⟨q,H,K⟩:=R9 g l J v S hn;unfold dG.eP;dsimp only;rw[mQ hn,b9,H,ζb];rcases K with⟨k1,k2,k3⟩|⟨k1,k2⟩
   .have C:=(B.mem _).2 k3;have Z:(bump r.l[i].l n 1).length<=8:=by rw[Nc];omega
    have⟨T,d,U⟩:=nZ (s:=o) (x:=rm m (pU (bump r.l[i].l n 1)) 0) Za
    rw[k1,show((0:Int)==0)=true from rfl,b9,Hu (by rw[k2];exact AD J k3) (by rw[k2];exact Z),ζb,k2,d,ζb,bz]
    refine⟨dB n Za,rfl,by show T.l.length<=_;rw[U];simp;omega,?_⟩
    show T.l=_;rw[U,o2,F _ C,List.range_succ,List.filterMap_append,map_append];simp[C]
   have M:bump r.l[i].l n 1∉L:=λh=>k2 ((B.mem _).1 h)
   rw[show(q.2==0)=false from beq_eq_false_iff_ne.2 k1,cK,bz];refine⟨dB n Za,rfl,by show o.l.length<=_;omega,?_⟩
   show o.l=_;rw[o2,List.range_succ,List.filterMap_append,map_append];simp[M]
  rintro⟨o,_,x⟩ ⟨rfl,rfl,o1,o2⟩;simp only at o1 o2 G x2 D x4;have⟨T,d,U⟩:=nZ (s:=x.next) (x:=o) Za
  unfold dG.eP;dsimp only;rw[nK,cK,bz];show Wp ((jt x.next o).bind _) _;rw[d,ζb,bz];refine⟨dB i Za,rfl,G,x2,by show T.l.length=_;rw[U];simp[D],λj O=>?_⟩
  show∃u,T.l[j]?=some u/\_;rw[U]
  by_cases e:j=i
  .subst e;exact⟨o,by rw[List.getElem?_append_right Za,D];simp,by rw[o2,Y];rfl⟩
  have⟨u,N,P⟩:=x4 j Za
  exact⟨u,by rw[List.getElem?_append_left Za];exact N,P⟩
 rintro⟨_,m,x⟩ ⟨rfl,rfl,G,x2,D,x4⟩;simp only at G x2 D x4;unfold dG.ct;dsimp only;rw[nK,cK,bz];exact(bz _).2 ⟨x,rfl,G,by rw[x2];exact b,by rw[D,W],λi z=>x4 i Za⟩
theorem B8(B:fQ t A L){i k:Nat}(D:i<L.length)(a:k∈jS L i):i<k/\k<L.length:=by unfold jS at a;rw[ζd D]at a;exact Kj B (ζd D) a
theorem PR(G:VT t)(B:fQ t A L){i:Nat}(D:i<L.length):(jS L i).length<=8:=by have u:=(B.mem _).1 (getElem_mem D);have:=G.few;unfold jS vU;rw[ζd D];refine Nat.le_trans (List.length_filterMap_le ..) ?_;simp[u.1.1];omega
def Bk(L:a_ Zy)(g:Nat->a_ Zl->Zl)(o:Sl Zl):Prop:=o.l.length=L.length/\∀i,i<L.length->dz o i=g i ((jS L i).map (dz o))
theorem Bk.ind(B:fQ t A L){g1 g2:Nat->a_ Zl->Zl}{a b:Sl Zl}(D:Bk L g1 a)(G:Bk L g2 b){R:Zl->Zl->Prop}
 (h:∀i,i<L.length->(∀k∈jS L i,R (dz a k) (dz b k))->R (g1 i ((jS L i).map (dz a))) (g2 i ((jS L i).map (dz b)))):∀i,i<L.length->R (dz a i) (dz b i):=by
 have key:∀n i,i<L.length->L.length<=i+n->R (dz a i) (dz b i):=by intro n;induction n with|zero=>intro i c u;omega|succ n w=>intro i c u;rw[D.2 i c,G.2 i c];refine h i c λk d=>?_;have:=B8 B c d;exact w k this.2 Za
 exactλi z=>key L.length i z Za
theorem HM{a b:Sl Zl}(B:a.l.length=b.l.length)(h:∀i,i<a.l.length->dz a i=dz b i):a.l=b.l:=by refine List.ext_getElem B λi c u=>?_;have:=h i c;unfold dz at this;rw[ζd c,ζd u]at this;exact this
theorem HZ(d:VT t)(B:fQ t A L)(l:L.length<=5000){x:bW}(Y:OI L x){p:Int×Sl Zl->bt Zl}{g:Nat->a_ Zl->Zl}(f:∀(i:Nat)(nx:Sl Zl),i<L.length->nx.l.length<=8->p ((i:Int),nx)=some (g i nx.l)):
 Wp (dm x p) λo=>Bk L g o:=by
 have Q:len x.l=((L.length:Nat):Int):=by simp only[len];rw[<-lM,Y.l]
 unfold dm;rw[Q,RP _ Za,ζb,mE _ Za Za]
 unfold dm.W1;refine ga (λq:Sl Zl×Int=>∃k:Nat,k<=L.length/\q.2=(k:Int)-1/\q.1.l.length=L.length/\∀i,k<=i->i<L.length->dz q.1 i=g i ((jS L i).map (dz q.1))) (λq=>(q.2+1).toNat)
  ⟨L.length,le_refl _,rfl,by simp[Sl.l],λi b G=>Za⟩ ?_
 rintro⟨o,_⟩ ⟨k,c,rfl,o1,o2⟩;simp only at o1 o2;unfold dm.bG;dsimp only
 cases k with
 |zero=>
  rw[show decide ((((0:Nat):Int)-1)>=0)=false from by decide,cK,bz]
  exact(bz _).2 ⟨o1,λi D=>o2 i (zero_le _) D⟩
 |succ i=>
  have D:i<L.length:=Za
  have⟨u,Z,X⟩:=Y.nx i D;have h:=PR d B D;have S:u.l.length=(jS L i).length:=by rw[X,List.length_map]
  rw[show(((i+1:Nat):Int)-1)=(i:Int)from Za,show decide ((i:Int)>=0)=true from Zc,b9,lG,Z,ζb]
  unfold dm.W2;refine iS u.l.length (λm(q:Sl Zl×Int)=>q.2=(m:Int)/\q.1.l=((jS L i).take m).map (dz o)) ⟨rfl,by simp[Sl.l]⟩ ?_ ?_
  .rintro m ⟨w,_⟩ hm ⟨rfl,z⟩;simp only at z;have C:m<(jS L i).length:=by omega
   have n:=B8 B D (getElem_mem C);have T:idx u (m:Int)=some (((jS L i)[m]:Nat):Int):=by rw[lG,X];simp[C]
   have U:Sl.get o (jS L i)[m]=some (dz o (jS L i)[m]):=by unfold Sl.get dz;rw[ζd Za];rfl
   have⟨w',W,O⟩:=nZ (s:=w) (x:=dz o (jS L i)[m]) (by rw[z];simp;omega)
   unfold dm.ct;dsimp only;rw[mQ hm,b9,T,ζb,tg (by omega:(jS L i)[m]<o.l.length),ζb,U,ζb,W,ζb,bz]
   refine⟨dB m Za,?_⟩
   show w'.l=_;rw[O,z,List.take_succ_eq_append_getElem C,map_append];rfl
  rintro⟨w,_⟩ ⟨rfl,z⟩;simp only at z;rw[S,take_length]at z;unfold dm.ct;dsimp only;rw[nK,cK,bz];have⟨I,W,O⟩:=put_eq (s:=o) (p:=i) (x:=g i w.l) Za
  show Wp ((p ((i:Int),w)).bind _) _;rw[f i w D (by rw[z];simpa using h),ζb,tg (by omega:i<o.l.length),ζb,W,ζb,bz]
  have J:∀k,dz I k=if k=i then g i w.l else dz o k:=λk=>by unfold dz;rw[O,getElem?_set];by_cases e:k=i;subst e;rw[if_pos rfl,if_pos rfl,if_pos Za];rfl;rw[if_neg (Ne.symm e),if_neg e]
  have a:∀j,i<=j->j<L.length->(jS L j).map (dz I)=(jS L j).map (dz o):=λj b G=>List.map_congr_left λk c=>by have:=B8 B G c;rw[J,if_neg Za]
  refine⟨⟨i,Za,by show wrap .i64 ((i:Int)-1)=_;exact mE _ Za Za,by show I.l.length=_;rw[O];simp[o1],λj b G=>?_⟩,?_⟩
  .show dz I j=g j ((jS L j).map (dz I));rw[a j b G,J]
   by_cases e:j=i
   .subst e;rw[if_pos rfl,z]
   rw[if_neg e];exact o2 j Za G
  show((wrap .i64 ((i:Int)-1):Int)+1).toNat<((i:Int)+1).toNat;rw[mE _ Za Za];omega
theorem DF{s:Sl Zl}{v:Zl}(D:s.l.length<1073741824):ig s v=some (s.l.any λb=>v==b):=by
 have key:Wp (ig s v) λb=>b=s.l.any λb=>v==b:=by unfold ig eY eY.W1;rw[fC];refine iS s.l.length (λi(q:Int)=>q=(i:Int)/\∀(j:Nat)b,j<i->s.l[j]?=some b->(v==b)=false) ⟨rfl,λj b h=>absurd h Za⟩ ?_ ?_;rintro i _ w ⟨rfl,a⟩;unfold eY.bG;rw[mQ w,b9,bX w,ζb];(cases z:(v==s.l[i])with|true=>rw[b9,bz];refine(bz _).2 ((bz _).2 ?_);rw[show decide ((i:Int)>=0)=true from Zc];exact(any_eq_true.2 ⟨_,getElem_mem w,z⟩).symm|false=>rw[cK,bz];refine⟨dB i Za,λj b B u=>?_⟩;by_cases e:j=i;subst e;rw[ζd w]at u;cases u;exact z;exact a j b Za u);rintro _ ⟨rfl,a⟩;unfold eY.bG;rw[nK,cK,bz];refine(bz _).2 ((bz _).2 ?_);rw[show decide ((-1:Int)>=0)=false from by decide];refine(List.any_eq_false.2 λb z=>?_).symm;have⟨j,B⟩:=List.mem_iff_getElem?.1 z;rw[a j b (ζe.1 B).1 B];simp
 obtain⟨b,a,rfl⟩:=key;exact a
theorem CC{s:Sl Zl}(B:s.l.length<=8):lK s=some (s.l.any id):=by unfold lK;rw[DF Za];simp only[ζb];congr 2;funext b;cases b<;>rfl
theorem all_eq{s:Sl Zl}(B:s.l.length<=8):mH s=some (!s.l.isEmpty&&s.l.all id):=by unfold mH;rw[DF Za,show decide (len s>0)= !s.l.isEmpty from by cases h:s.l<;>simp[len,h]];cases s.l.isEmpty with|true=>rfl|false=>rw[Bool.not_false,b9];simp only[ζb,Bool.true_and];congr 1;rw[Bool.eq_iff_iff];simp
def gS(kind:Int)(l:Sl Zl)(i:Nat)(nx:a_ Zl):Zl:=if kind=18 then dz l i||nx.any id else if kind=19 then dz l i||(!nx.isEmpty&&nx.all id)else if kind=20 then dz l i&&(nx.isEmpty||nx.any id)else dz l i&&nx.all id
theorem MQ{kind:Int}{l:Sl Zl}{i:Nat}{nx:Sl Zl}(B:i<l.l.length)(D:nx.l.length<=8):fH (i:Int) nx kind l=some (gS kind l i nx.l):=by
 have z:(len nx==0)=nx.l.isEmpty:=by cases h:nx.l<;>simp[len,h];omega
 unfold fH gS;by_cases a:kind=18;rw[show(kind==18)=true from by simp[a],b9,if_pos a,lN B,ζb,CC D];cases dz l i<;>rfl;rw[show(kind==18)=false from beq_eq_false_iff_ne.2 a,cK,if_neg a];by_cases u:kind=19;rw[show(kind==19)=true from by simp[u],b9,if_pos u,lN B,ζb,all_eq D];cases dz l i<;>rfl;rw[show(kind==19)=false from beq_eq_false_iff_ne.2 u,cK,if_neg u];by_cases w:kind=20;rw[show(kind==20)=true from by simp[w],b9,if_pos w,lN B,ζb,CC D,z];cases dz l i<;>cases nx.l.isEmpty<;>rfl;rw[show(kind==20)=false from beq_eq_false_iff_ne.2 w,cK,if_neg w,lN B,ζb,all_eq D,z];cases h:nx.l<;>cases dz l i<;>rfl
end
theorem Q4{s:Zb}{c:Zg}(B:s.l.length<1073741824)(a:∀x∈s.l,x.l.length<1073741824):mz s c=some (place (λd:Zg=>decide (c.l=d.l)) s.l):=(oK (p:=λx=>eT x c) (f:=λd:Zg=>decide (c.l=d.l)) (λx u=>by rw[Kw (a x u)];congr 1;exact decide_eq_decide.2 eq_comm) Za (λi=>rfl):)
section
variable{t:Zj}{A:cB 200 bJ}
theorem wv.one{L:a_ Zy}{l:Sl Zl}{F:Zy->Zy->Zl}{i k D B:Nat}{a b a' G:Zy}(h:wv L l F i k a b)(g:wv L l F D B a' G):a=a'/\b=G:=by
 have⟨c,u,w,z,C,I,J,O⟩:=h;have⟨g1,g2,g3,g4,g5,g6,g7,Q⟩:=g;have S:¬i<D:=λe=>by have:=Q i k e c a b u w z C;rw[I]at this;cases this
 have T:¬D<i:=λe=>by have:=O D B e g1 a' G g2 g3 g4 g5;rw[g6]at this;cases this
 have e:i=D:=Za;subst e;have U:¬k<B:=λe=>by have:=g7 k c e a b u w z C;rw[I]at this;cases this
 have W:¬B<k:=λe=>by have:=J B g1 e a' G g2 g3 g4 g5;rw[g6]at this;cases this
 have e:k=B:=Za;subst e;rw[u]at g2;rw[w]at g3;cases g2;cases g3;exact⟨rfl,rfl⟩
theorem wv.no{L:a_ Zy}{l:Sl Zl}{F:Zy->Zy->Zl}{i k:Nat}{a b:Zy}(h:wv L l F i k a b)(g:∀i k,i<k->Gr L l F i k):False:=by have⟨c,u,w,z,B,C,_⟩:=h;have:=g i k c a b u w z B;rw[C]at this;cases this
end
end Go.VE
