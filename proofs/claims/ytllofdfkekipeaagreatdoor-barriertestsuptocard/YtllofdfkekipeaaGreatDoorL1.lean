/-
 The law in plain Lean, and the join.
-/
import Derived.Test.YtllofdfkekipeaaGreatDoorK1
import Derived.Test.YtllofdfkekipeaaGreatDoorG1
set_option linter.all false
open List(Nodup Pairwise all_eq_true append_nil drop_eq_getElem_cons drop_of_length_le ext_getElem? finRange getElem?_eq_none getElem?_map getElem?_replicate getElem?_set getElem?_take getElem_mem length_cons length_set length_singleton length_take mapM_cons map_append map_cons map_map map_nil mem_append mem_append_left mem_cons mem_cons_of_mem mem_cons_self mem_iff_getElem mem_map mem_of_getElem? mem_of_mem_take mem_range mem_singleton pairwise_append pairwise_cons pairwise_map range range' replicate sum_cons sum_nil take_add_one take_length take_of_length_le zipWith)
open Option(bind_eq_bind pure_def)
open Go.IntKind(wrap)
open Nat(le_refl le_trans zero_le)
open Bool(false_eq_true not_eq_true' or_eq_true)
open ByteArray(toList)
open Relation(TransGen)
open Classical(byContradiction)
open Int(ofNat toNat toNat_natCast)
namespace Go.VE
theorem Zh{p:Prop}(h:p:=by kernel_rfl):p:=h
instance:b_ Assign where
 wt x:=b_.wt x.var+b_.wt x.value+1
 ok x:=b_.ok x.var/\b_.ok x.value/\True
instance:b_ Zn where
 wt x:=b_.wt x.kind+b_.wt x.peer+b_.wt x.message+b_.wt x.time+b_.wt x.assign+1
 ok x:=b_.ok x.kind/\b_.ok x.peer/\b_.ok x.message/\b_.ok x.time/\b_.ok x.assign/\True
instance:b_ Var where
 wt x:=b_.wt x.name+b_.wt x.init_+1
 ok x:=b_.ok x.name/\b_.ok x.init_/\True
instance:b_ cg where
 wt x:=b_.wt x.name+b_.wt x.vars+b_.wt x.events+1
 ok x:=b_.ok x.name/\b_.ok x.vars/\b_.ok x.events/\True
instance:b_ Zj where
 wt x:=b_.wt x.procs+1
 ok x:=b_.ok x.procs/\True
instance:b_ Span where
 wt x:=b_.wt x.proc+b_.wt x.from_+b_.wt x.to_+1
 ok x:=b_.ok x.proc/\b_.ok x.from_/\b_.ok x.to_/\True
instance:b_ Answer where
 wt x:=b_.wt x.mode+b_.wt x.holds+b_.wt x.kind+b_.wt x.cut+b_.wt x.cuts+b_.wt x.run+b_.wt x.spans+b_.wt x.value+1
 ok x:=b_.ok x.mode/\b_.ok x.holds/\b_.ok x.kind/\b_.ok x.cut/\b_.ok x.cuts/\b_.ok x.run/\b_.ok x.spans/\b_.ok x.value/\True
mutual
def Pred.Wj:Pred->Nat
 |⟨f0,f1,f2,f3,B,f5⟩=>b_.wt f0+b_.wt f1+b_.wt f2+b_.wt f3+b_.wt B+Pred.W0 f5+1
def Pred.W0:Sl Pred->Nat
 |.nil=>1|.emp=>1|.row l=>Pred.T_ l+1|.part l=>Pred.T_ l+1
def Pred.T_:aY Pred->Nat
 |[]=>0|x::r=>Pred.Wj x+Pred.T_ r
end
mutual
def Pred.Wn:Pred->Prop
 |⟨f0,f1,f2,f3,B,f5⟩=>b_.ok f0/\b_.ok f1/\b_.ok f2/\b_.ok f3/\b_.ok B/\Pred.WV f5/\True
def Pred.WV:Sl Pred->Prop
 |.nil=>True|.emp=>False|.row l=>Pred.T8 l|.part l=>Pred.T8 l
def Pred.T8:aY Pred->Prop
 |[]=>True|x::r=>Pred.Wn x/\Pred.T8 r
end
instance:b_ Pred where
 wt:=Pred.Wj
 ok:=Pred.Wn
end Go.VE
namespace Go.VE.YtllofdfkekipeaaGreatDoor
open Go.Proofs Go.Proofs.YtllofdfkekipeaaGreatDoor
instance XC:Reads Tryz.prog 9 Zq:=Reads.str Tryz.underlying9 Zh
instance XB:Reads Tryz.prog 3 Int:=Reads.int Tryz.underlying3 Zh
instance Xz:Reads Tryz.prog 59 Var:=by refine Reads.st Tryz.underlying59 Zh rfl ?_;intro H enc w base a c u I l J h;simp only[mapM_cons,List.mapM_nil,pure_def,bind_eq_bind,ζg,ζa]at h;obtain⟨z,e,L,⟨B,f,O,rfl,rfl⟩,rfl⟩:=h;have⟨a0,C,k0,Q⟩:=Reads.rd (P:=Tryz.prog) (t:=9) (α:=Zq) (d:=z.1) (ps:=z.2) e;rw[show Tryz.prog.cellsOf 9=1 from by kernel_rfl]at C;have⟨a1,D,k1,S⟩:=Reads.rd (P:=Tryz.prog) (t:=3) (α:=Int) (d:=B.1) (ps:=B.2) f;rw[show Tryz.prog.cellsOf 3=1 from by kernel_rfl]at D;refine⟨⟨a0,a1⟩,ga.fin (n:=2) (ga.seg (o:=1) (n:=1) (ga.seg (o:=0) (n:=1) (show ga (snap w) [] (I.take 0)from by simpa using ga.nil) C) D) J,⟨k0,k1,trivial⟩,λb G=>?_⟩;have T:=Q b G;have U:=S b G;show b_.wt a0+b_.wt a1+1<=_;simp only[map_cons,map_nil,sum_cons,sum_nil];omega
instance Xu:Reads Tryz.prog 43 (Sl Var):=Reads.sl (e:=59) Tryz.underlying43 Zh (by decide)
instance Xo:Reads Tryz.prog 118 Assign:=by refine Reads.st Tryz.underlying118 Zh rfl ?_;intro H enc w base a c u I l J h;simp only[mapM_cons,List.mapM_nil,pure_def,bind_eq_bind,ζg,ζa]at h;obtain⟨z,e,L,⟨B,f,O,rfl,rfl⟩,rfl⟩:=h;have⟨a0,C,k0,Q⟩:=Reads.rd (P:=Tryz.prog) (t:=3) (α:=Int) (d:=z.1) (ps:=z.2) e;rw[show Tryz.prog.cellsOf 3=1 from by kernel_rfl]at C;have⟨a1,D,k1,S⟩:=Reads.rd (P:=Tryz.prog) (t:=3) (α:=Int) (d:=B.1) (ps:=B.2) f;rw[show Tryz.prog.cellsOf 3=1 from by kernel_rfl]at D;refine⟨⟨a0,a1⟩,ga.fin (n:=2) (ga.seg (o:=1) (n:=1) (ga.seg (o:=0) (n:=1) (show ga (snap w) [] (I.take 0)from by simpa using ga.nil) C) D) J,⟨k0,k1,trivial⟩,λb G=>?_⟩;have T:=Q b G;have U:=S b G;show b_.wt a0+b_.wt a1+1<=_;simp only[map_cons,map_nil,sum_cons,sum_nil];omega
instance Xy:Reads Tryz.prog 39 (Sl Assign):=Reads.sl (e:=118) Tryz.underlying39 Zh (by decide)
instance XA:Reads Tryz.prog 41 Zn:=by refine Reads.st Tryz.underlying41 Zh rfl ?_;intro H enc w base a c z U l W h;simp only[mapM_cons,List.mapM_nil,pure_def,bind_eq_bind,ζg,ζa]at h;obtain⟨B,e,X,⟨C,f,Y,⟨x2,Z,r,⟨D,g,s,⟨x4,i,v,rfl,rfl⟩,rfl⟩,rfl⟩,rfl⟩,rfl⟩:=h;have⟨a0,G,k0,j⟩:=Reads.rd (P:=Tryz.prog) (t:=3) (α:=Int) (d:=B.1) (ps:=B.2) e;rw[show Tryz.prog.cellsOf 3=1 from by kernel_rfl]at G;have⟨a1,I,k1,k⟩:=Reads.rd (P:=Tryz.prog) (t:=3) (α:=Int) (d:=C.1) (ps:=C.2) f;rw[show Tryz.prog.cellsOf 3=1 from by kernel_rfl]at I;have⟨J,L,k2,m⟩:=Reads.rd (P:=Tryz.prog) (t:=3) (α:=Int) (d:=x2.1) (ps:=x2.2) Z;rw[show Tryz.prog.cellsOf 3=1 from by kernel_rfl]at L;have⟨O,Q,k3,p⟩:=Reads.rd (P:=Tryz.prog) (t:=3) (α:=Int) (d:=D.1) (ps:=D.2) g;rw[show Tryz.prog.cellsOf 3=1 from by kernel_rfl]at Q;have⟨S,T,k4,q⟩:=Reads.rd (P:=Tryz.prog) (t:=39) (α:=(Sl Assign)) (d:=x4.1) (ps:=x4.2) i;rw[show Tryz.prog.cellsOf 39=1 from by kernel_rfl]at T;refine⟨⟨a0,a1,J,O,S⟩,ga.fin (n:=5) (ga.seg (o:=4) (n:=1) (ga.seg (o:=3) (n:=1) (ga.seg (o:=2) (n:=1) (ga.seg (o:=1) (n:=1) (ga.seg (o:=0) (n:=1) (show ga (snap w) [] (U.take 0)from by simpa using ga.nil) G) I) L) Q) T) W,⟨k0,k1,k2,k3,k4,trivial⟩,λb u=>?_⟩;have x:=j b u;have y:=k b u;have A:=m b u;have E:=p b u;have F:=q b u;show b_.wt a0+b_.wt a1+b_.wt J+b_.wt O+b_.wt S+1<=_;simp only[map_cons,map_nil,sum_cons,sum_nil];omega
instance Xt:Reads Tryz.prog 42 (Sl Zn):=Reads.sl (e:=41) Tryz.underlying42 Zh (by decide)
instance Xx:Reads Tryz.prog 45 cg:=by refine Reads.st Tryz.underlying45 Zh rfl ?_;intro H enc w base a c z L l O h;simp only[mapM_cons,List.mapM_nil,pure_def,bind_eq_bind,ζg,ζa]at h;obtain⟨B,e,Q,⟨C,f,S,⟨x2,T,U,rfl,rfl⟩,rfl⟩,rfl⟩:=h;have⟨a0,D,k0,W⟩:=Reads.rd (P:=Tryz.prog) (t:=9) (α:=Zq) (d:=B.1) (ps:=B.2) e;rw[show Tryz.prog.cellsOf 9=1 from by kernel_rfl]at D;have⟨a1,G,k1,X⟩:=Reads.rd (P:=Tryz.prog) (t:=43) (α:=(Sl Var)) (d:=C.1) (ps:=C.2) f;rw[show Tryz.prog.cellsOf 43=1 from by kernel_rfl]at G;have⟨I,J,k2,Y⟩:=Reads.rd (P:=Tryz.prog) (t:=42) (α:=(Sl Zn)) (d:=x2.1) (ps:=x2.2) T;rw[show Tryz.prog.cellsOf 42=1 from by kernel_rfl]at J;refine⟨⟨a0,a1,I⟩,ga.fin (n:=3) (ga.seg (o:=2) (n:=1) (ga.seg (o:=1) (n:=1) (ga.seg (o:=0) (n:=1) (show ga (snap w) [] (L.take 0)from by simpa using ga.nil) D) G) J) O,⟨k0,k1,k2,trivial⟩,λb u=>?_⟩;have Z:=W b u;have g:=X b u;have i:=Y b u;show b_.wt a0+b_.wt a1+b_.wt I+1<=_;simp only[map_cons,map_nil,sum_cons,sum_nil];omega
instance Xr:Reads Tryz.prog 22 (Sl cg):=Reads.sl (e:=45) Tryz.underlying22 Zh (by decide)
instance Xv:Reads Tryz.prog 24 Zj:=by refine Reads.st Tryz.underlying24 Zh rfl ?_;intro H enc w base a c u C l D h;simp only[mapM_cons,List.mapM_nil,pure_def,bind_eq_bind,ζg,ζa]at h;obtain⟨z,e,G,rfl,rfl⟩:=h;have⟨a0,B,k0,I⟩:=Reads.rd (P:=Tryz.prog) (t:=22) (α:=(Sl cg)) (d:=z.1) (ps:=z.2) e;rw[show Tryz.prog.cellsOf 22=1 from by kernel_rfl]at B;refine⟨⟨a0⟩,ga.fin (n:=1) (ga.seg (o:=0) (n:=1) (show ga (snap w) [] (C.take 0)from by simpa using ga.nil) B) D,⟨k0,trivial⟩,λb J=>?_⟩;have L:=I b J;show b_.wt a0+1<=_;simp only[map_cons,map_nil,sum_cons,sum_nil];omega
instance Xs:Reads Tryz.prog 49 Zg:=Reads.sl (e:=3) Tryz.underlying49 Zh (by decide)
instance Xw:Reads Tryz.prog 25 Zb:=Reads.sl (e:=49) Tryz.underlying25 Zh (by decide)
end Go.VE.YtllofdfkekipeaaGreatDoor
namespace Go.VE
end Go.VE
namespace Go.VE
abbrev EL{α:Type}(m:aZ α):Prop:=Wp m λ_=>True
theorem EL.get{α:Type}{m:aZ α}(h:EL m):∃a,m=some a:=let⟨a,e,_⟩:=h;⟨a,e⟩
theorem EL.ok{m:aZ Zl}(h:EL m):m=some (m.getD false):=by have⟨a,e,_⟩:=h;rw[e];rfl
def Small(t:Zj):Prop:=t.procs.l.length<1073741824/\∀p∈t.procs.l,p.events.l.length<1073741824/\p.vars.l.length<1073741824/\p.name.size<1073741824/\(∀v∈p.vars.l,v.name.size<1073741824)/\∀e∈p.events.l,e.assign.l.length<1073741824
section
theorem Cm{s:Sl Zn}{p:Zn->aZ Zl}{f:Zn->Zl}(B:∀x∈s.l,p x=some (f x))(G:s.l.length<1073741824):eU s p=some (place f s.l):=rT B Za (λi=>rfl)
theorem MX{s:Sl cg}{p:cg->aZ Zl}{f:cg->Zl}(B:∀x∈s.l,p x=some (f x))(G:s.l.length<1073741824):gb s p=some (place f s.l):=rT B Za (λi=>rfl)
theorem PX{s:Sl Var}{p:Var->aZ Zl}{f:Var->Zl}(B:∀x∈s.l,p x=some (f x))(G:s.l.length<1073741824):gx s p=some (place f s.l):=rT B Za (λi=>rfl)
theorem Ij{s:Sl Assign}{p:Assign->aZ Zl}{f:Assign->Zl}(B:∀x∈s.l,p x=some (f x))(G:s.l.length<1073741824):fm s p=some (place f s.l):=rT B Za (λi=>rfl)
theorem yH{s:Sl Zn}{p:Zn->aZ Zl}{f:Zn->Zl}(B:∀x∈s.l,p x=some (f x))(G:s.l.length<1073741824):gR s p=some (s.l.any f):=by unfold gR;rw[Cm B G,ζb,ug]
theorem FQ{s:Sl cg}{p:cg->aZ Zl}{f:cg->Zl}(B:∀x∈s.l,p x=some (f x))(G:s.l.length<1073741824):h_ s p=some (s.l.any f):=by unfold h_;rw[MX B G,ζb,ug]
theorem A4{s:Sl Var}{p:Var->aZ Zl}{f:Var->Zl}(B:∀x∈s.l,p x=some (f x))(G:s.l.length<1073741824):gu s p=some (s.l.any f):=by unfold gu;rw[PX B G,ζb,ug]
theorem DA{s:Sl Assign}{p:Assign->aZ Zl}{f:Assign->Zl}(B:∀x∈s.l,p x=some (f x))(G:s.l.length<1073741824):gE s p=some (s.l.any f):=by unfold gE;rw[Ij B G,ζb,ug]
theorem oK(x B G:Int):mT x B G=some (decide (B<=x)&&decide (x<=G)):=by unfold mT;rw[lQ];rfl
theorem Kl{s:Zq}{i:Nat}(h:i<s.size):∃x,kD s (i:Int)=some x:=by unfold kD;rw[if_pos Za];exact⟨_,by rw[show(s[(i:Int).toNat]?)=some s[i]from by simp[h]];rfl⟩
def kJ(n:Nat)(p:Int)(e:Zn):Prop:=e.kind=1\/((e.kind=2\/e.kind=3)/\0<=e.peer/\e.peer<n/\e.peer≠p/\0<=e.message/\e.message<=199)
end
def jw(t:Zj)(p k:Nat)(e:Zn):Prop:=∃P,t.procs.l[p]?=some P/\P.events.l[k]?=some e
theorem tM{p:Int}{x:a_×Zn}:∀{es:aY Zn}{j:Int},x∈iz p j es↔∃k:Nat,es[k]?=some x.2/\x.1=⟨p,j+k+1⟩
 |[],j=>by simp[iz]|e::es,j=>by simp[iz,tM];constructor;rintro(rfl|⟨k,a,B⟩);exact⟨0,rfl,Zc⟩;exact⟨k+1,Zd,Zd⟩;grind
theorem uA{x:a_×Zn}:∀{ps:aY cg}{i:Int},x∈fF i ps↔∃(a k:Nat)(P:cg),ps[a]?=some P/\P.events.l[k]?=some x.2/\x.1=⟨i+a,k+1⟩
 |[],i=>by simp[fF]|p::ps,i=>by simp only[fF,mem_append,tM,uA];constructor;rintro(⟨k,b,B⟩|⟨a,k,P,b,B,G⟩);exact⟨0,k,p,rfl,b,Zd⟩;exact⟨a+1,k,P,Ze,B,Zd⟩;grind
abbrev bQ(t:Trace):aY (a_×Event):=fF 0 t.procs.l
theorem eu{t:Zj}{x:a_×Zn}:x∈bQ t↔∃p k:Nat,jw t p k x.2/\x.1=⟨p,k+1⟩:=by rw[uA];constructor;rintro⟨a,k,P,b,u,w⟩;exact⟨a,k,⟨P,b,u⟩,Zd⟩;rintro⟨a,k,⟨P,b,u⟩,w⟩;grind
theorem BR{t:Zj}{x y:a_×Zn}(B:x∈bQ t)(G:y∈bQ t)(h:x.1=y.1):x=y:=by have⟨p,k,⟨P,u,a⟩,e1⟩:=eu.1 B;have⟨q,j,⟨Q,w,z⟩,e2⟩:=eu.1 G;grind
theorem uK{t:Zj}(B:Small t):iU t=some (bQ t):=by unfold iU;rw[if_pos];simp[Ft];exact⟨by have:=B.1;omega,λp u=>by have:=(B.2 p u).1;omega⟩
def sD(t:Zj)(p m a:Int):Zl:=match t.procs.l[p.toNat]?with
 |some P=>P.events.l.any λe=>e.kind==2&&e.message==m&&e.peer==a|none=>false
theorem NH{t:Zj}(B:Small t){p:Int}(b:0<=p)(c:p<t.procs.l.length)(m a:Int):tH t p m a=some (sD t p m a):=by unfold tH;have u:p.toNat<t.procs.l.length:=Za;have w:=getElem_mem u;rw[Ht b,ζd u,ζb,yH (f:=λe=>e.kind==2&&e.message==m&&e.peer==a) (λe _=>by unfold pZ;simp[lQ]) (B.2 _ w).1,ζb];unfold sD;grind
theorem C3{t:Zj}{p:Nat}{m a:Int}:sD t p m a=true↔∃k e,jw t p k e/\e.kind=2/\e.message=m/\e.peer=a:=by unfold sD jw;rw[show(p:Int).toNat=p from rfl];cases w:t.procs.l[p]?with|none=>simp|some P=>simp;constructor;rintro⟨e,u,h⟩;have⟨k,b⟩:=List.getElem?_of_mem u;grind;grind
def ag(A:bU 200 bt)(m:Int):bt:=(A.at m).getD default
theorem KB(A:bU 200 bt){m:Int}(a:0<=m)(b:m<=199):A.at m=some (ag A m):=by
 have:m.toNat<A.l.length:=by rw[A.len];omega
 unfold ag bU.at;grind
theorem qF(A:bU 200 bt){m m':Int}(x:bt)(a:0<=m)(b:m<=199)(B:0<=m'):ag (A.set m x) m'=if m'=m then x else ag A m':=by
 have:m.toNat<A.l.length:=by rw[A.len];omega
 unfold ag bU.at bU.set;grind
theorem Ns{m:Int}(a:0<=m)(b:m<=199):ag (bU.EO 200 (⟨⟨0,0⟩,⟨0,0⟩⟩:bt)) m=⟨⟨0,0⟩,⟨0,0⟩⟩:=by unfold ag bU.at bU.EO;grind
structure eR(t:Trace)(its:List (a_×Event))(A:bU 200 bt):Prop where
 snd:∀x∈its,x.2.kind=2->(ag A x.2.message).from_=x.1
 rcv:∀x∈its,x.2.kind=3->(ag A x.2.message).to_=x.1/\sD t x.2.peer x.2.message x.1.proc=true
 fr:∀m,0<=m->m<=199->(ag A m).from_.index=0\/∃e,((ag A m).from_,e)∈its/\e.kind=2/\e.message=m
 to:∀m,0<=m->m<=199->(ag A m).to_.index=0\/∃e,((ag A m).to_,e)∈its/\e.kind=3/\e.message=m
def K4(a b:a_×Zn):Prop:=a.1.proc<b.1.proc\/a.1.proc=b.1.proc/\a.1.index<b.1.index
theorem LR{p:Int}:∀{es:aY Zn}{j:Int},(iz p j es).Pairwise K4
 |[],_=>Pairwise.nil|e::es,j=>by simp only[iz,pairwise_cons];refine⟨λb B=>?_,LR⟩;have⟨k,_,G⟩:=tM.1 B;refine .inr ⟨by rw[G],?_⟩;grind
theorem HE:∀{ps:aY cg}{i:Int},(fF i ps).Pairwise K4
 |[],_=>Pairwise.nil|P::ps,i=>by simp only[fF,pairwise_append];refine⟨LR,HE,λa B b G=>.inl ?_⟩;have⟨k,_,J⟩:=tM.1 B;have⟨c,j,P,_,_,u⟩:=uA.1 G;grind
theorem FO{t:Zj}{k:Nat}{x y:a_×Zn}(B:(bQ t)[k]?=some x)(G:y∈(bQ t).take k):y.1≠x.1:=by
 have⟨a,u⟩:=ζe.1 B;have w:((bQ t).take k++(bQ t).drop k).Pairwise K4:=by rw[List.take_append_drop];exact HE
 have:=(pairwise_append.1 w).2.2 y G x (by rw[drop_eq_getElem_cons a,u];grind);unfold K4 at this;grind
structure xo(t:Trace):Prop where
 snd:∀x∈bQ t,∀y∈bQ t,x.2.kind=2->y.2.kind=2->x.2.message=y.2.message->x.1=y.1
 rcv:∀x∈bQ t,∀y∈bQ t,x.2.kind=3->y.2.kind=3->x.2.message=y.2.message->x.1=y.1
 has:∀x∈bQ t,x.2.kind=3->sD t x.2.peer x.2.message x.1.proc=true
theorem eR.Nb{t:Zj}{A:bU 200 bt}(h:eR t (bQ t) A):xo t:=⟨λx w y z k2 u B=>by rw[<-h.snd x w k2,<-h.snd y z u,B],λx w y z k2 u B=>by rw[<-(h.rcv x w k2).1,<-(h.rcv y z u).1,B],λx w k=>(h.rcv x w k).2⟩
theorem CM{t:Zj}(l:Small t)(i:∀x∈bQ t,kJ t.procs.l.length x.1.proc x.2):Wp (eN t) λr=>(r.2.2=0->∃A,r.1=some A/\eR t (bQ t) A)/\(xo t->r.2.2=0):=by
 unfold eN jI;rw[ζb];unfold eN.E1;rw[uK l,ζb];refine Ag (λk A=>eR t ((bQ t).take k) A) ⟨Zc,Zc,λm c b=>.inl (by rw[Ns c b]),λm c b=>.inl (by rw[Ns c b])⟩ ?_ ?_;intro k x A f B;have G:=mem_of_getElem? f;have S:(bQ t).take (k+1)=(bQ t).take k++[x]:=by rw[take_add_one,f];rfl
 have⟨p,j,F,H⟩:=eu.1 G;have n:=i x G;unfold eN.sR;rw[bP];constructor;intro d;have L:x.2.kind=2:=by grind
 have u:0<=x.2.message/\x.2.message<=199:=by rcases n with h|⟨_,_,_,_,h⟩;omega;simp_all
 rw[KB A u.1 u.2,ζb,bP];refine⟨λo=>(bf _).2 ((bf _).2 ⟨λh=>(by cases h),λX=>?_⟩),λc=>?_⟩;rcases B.fr _ u.1 u.2 with Y|⟨e,O,T,U⟩;grind;exact absurd (X.snd _ (mem_of_mem_take O) x G T L U) (FO f O);rw[ζb,bf,S];have W:∀y∈(bQ t).take k,y.2.kind=2->y.2.message≠x.2.message:=λy a w O=>by have:=B.snd y a w;rw[O]at this;have⟨p',q,_,Q⟩:=eu.1 (mem_of_mem_take a);grind
 have Z:∀y∈(bQ t).take k,y.2.kind=2\/y.2.kind=3->0<=y.2.message:=λy a w=>by rcases i y (mem_of_mem_take a)with h|⟨_,_,_,_,h,_⟩;omega;simp_all
 refine⟨λy a w=>?_,λy a z=>?_,λm C I=>?_,λm C I=>?_⟩;rcases mem_append.1 a with a|a;rw[qF A _ u.1 u.2 (Z y a (.inl w)),if_neg (W y a w)];exact B.snd y a w;simp at a;subst a;rw[qF A _ u.1 u.2 u.1,if_pos rfl];rcases mem_append.1 a with a|a;rw[qF A _ u.1 u.2 (Z y a (.inr z))];have:=B.rcv y a z;grind;grind;rw[qF A _ u.1 u.2 C];split;next e=>exact .inr ⟨x.2,Zc,L,e.symm⟩
 exact(B.fr m C I).imp (λh=>h) λ⟨e,b,D⟩=>⟨e,mem_append_left _ b,D⟩;rw[qF A _ u.1 u.2 C];have:=(B.to m C I).imp (λh=>h) λ⟨e,b,D⟩=>(⟨e,mem_append_left [x] b,D⟩:∃e,((ag A m).to_,e)∈(bQ t).take k++[x]/\e.kind=3/\e.message=m);split;next e=>subst e;omega
 omega;intro d;have L:=by simpa using d
 rw[bP];constructor;intro d;have J:=by simpa using d
 have u:0<=x.2.message/\x.2.message<=199/\0<=x.2.peer/\x.2.peer<t.procs.l.length:=by rcases n with h|⟨_,b,D,_,v,E⟩;omega;exact⟨v,E,b,D⟩
 rw[KB A u.1 u.2.1,ζb,bP];refine⟨λo=>(bf _).2 ((bf _).2 ⟨λh=>(by cases h),λX=>?_⟩),λc=>?_⟩;rcases B.to _ u.1 u.2.1 with Y|⟨e,O,T,U⟩;simp[Y]at o;exact absurd (X.rcv _ (mem_of_mem_take O) x G T J U) (FO f O);have c:¬(ag A x.2.message).to_.index>0:=by simpa using c
 rw[NH l u.2.2.1 u.2.2.2,ζb,bP];refine⟨λg=>?_,λg=>(bf _).2 ((bf _).2 ⟨λh=>(by cases h),λX=>by rw[X.has x G J]at g;cases g⟩)⟩;rw[ζb,bf,S];have W:∀y∈(bQ t).take k,y.2.kind=3->y.2.message≠x.2.message:=λy a w O=>by have:=(B.rcv y a w).1;rw[O]at this;rw[this]at c;have⟨p',q,_,Q⟩:=eu.1 (mem_of_mem_take a);rw[Q]at c;exact c (by show(q:Int)+1>0;omega)
 have Z:∀y∈(bQ t).take k,y.2.kind=2\/y.2.kind=3->0<=y.2.message:=λy a w=>by rcases i y (mem_of_mem_take a)with h|⟨_,_,_,_,h,_⟩;omega;exact h
 refine⟨λy a w=>?_,λy a z=>?_,λm C I=>?_,λm C I=>?_⟩;rcases mem_append.1 a with a|a;rw[qF A _ u.1 u.2.1 (Z y a (.inl w))];have:=B.snd y a w;split;next e=>rw[e]at this;exact this
 exact this;simp at a;subst a;omega;rcases mem_append.1 a with a|a;rw[qF A _ u.1 u.2.1 (Z y a (.inr z)),if_neg (W y a z)];exact B.rcv y a z;simp at a;subst a;rw[qF A _ u.1 u.2.1 u.1,if_pos rfl];exact⟨rfl,g⟩;rw[qF A _ u.1 u.2.1 C];have:=(B.fr m C I).imp (λh=>h) λ⟨e,b,D⟩=>(⟨e,mem_append_left [x] b,D⟩:∃e,((ag A m).from_,e)∈(bQ t).take k++[x]/\e.kind=2/\e.message=m);split;next e=>subst e;exact this
 exact this;rw[qF A _ u.1 u.2.1 C];split;next e=>exact .inr ⟨x.2,Zc,J,e.symm⟩
 exact(B.to m C I).imp (λh=>h) λ⟨e,b,D⟩=>⟨e,mem_append_left _ b,D⟩;intro d;have J:=by simpa using d
 rw[bf,S];refine⟨λy a w=>?_,λy a z=>?_,λm C I=>?_,λm C I=>?_⟩;rcases mem_append.1 a with a|a;exact B.snd y a w;simp at a;subst a;exact absurd w L;rcases mem_append.1 a with a|a;exact B.rcv y a z;simp at a;subst a;exact absurd z J;exact(B.fr m C I).imp (λh=>h) λ⟨e,b,D⟩=>⟨e,mem_append_left _ b,D⟩;exact(B.to m C I).imp (λh=>h) λ⟨e,b,D⟩=>⟨e,mem_append_left _ b,D⟩;intro A s;rw[take_length]at s;exact(bf _).2 ⟨λ_=>⟨A,rfl,s⟩,λ_=>rfl⟩
def iK(f:Nat->Zl)(k n:Nat):Zl:=(range' k (n-k)).any f
theorem EU{f:Nat->Zl}{k n:Nat}(h:k<n):iK f k n=(f k||iK f (k+1) n):=by unfold iK;rw[show n-k=(n-(k+1))+1 from Za,List.range'_succ];rfl
theorem Pp{f:Nat->Zl}{k n:Nat}(h:n<=k):iK f k n=false:=by unfold iK;rw[show n-k=0 from Za];rfl
theorem NO{f:Nat->Zl}{k n:Nat}:iK f k n=true↔∃i,k<=i/\i<n/\f i=true:=by unfold iK;rw[List.any_eq_true];constructor;rintro⟨i,w,u⟩;rw[List.mem_range'_1]at w;exact⟨i,w.1,Za,u⟩;rintro⟨i,a,z,u⟩;exact⟨i,by rw[List.mem_range'_1];omega,u⟩
theorem Dz{step:Int->aZ (Fw Int Unit Unit)}{n:Nat}(f:Nat->Zl)(G:n<9223372036854775807)(a:∀i:Nat,i<n->step i=some (if f i then .r ()else .n (wrap .i64 ((i:Int)+1))))(B:step (n:Int)=some (.x ())):
 ∀m k:Nat,k+m=n->bM step (k:Int)=some (if iK f k n then .r ()else .x ()):=by
 intro m
 induction m with
 |zero=>
  intro k b;have:k=n:=Za
  subst this;rw[iZ,B,Pp (le_refl _)];rfl
 |succ m u=>
  intro k b;rw[iZ,a k Za,EU Za]
  cases w:f k with
  |true=>rfl|false=>
   simp only[false_eq_true,if_false,ζb,Bool.false_or];rw[ct k Za]
   exact u (k+1) Za
def nV(g:Nat->Int)(k n:Nat):Int:=match(range' k (n-k)).find? λi=> !(g i==0)with
 |some i=>g i|none=>0
theorem Nq{g:Nat->Int}{k n:Nat}(h:k<n):nV g k n=if g k=0 then nV g (k+1) n else g k:=by unfold nV;rw[show n-k=(n-(k+1))+1 from Za,List.range'_succ,List.find?_cons];by_cases a:g k=0;simp[a];rw[if_neg a,show(!(g k==0))=true from by simp[a]]
theorem PK{g:Nat->Int}{k n:Nat}(h:n<=k):nV g k n=0:=by unfold nV;rw[show n-k=0 from Za];rfl
theorem Ru{step:Int->aZ (Fw Int Unit Int)}{n:Nat}(g:Nat->Int)(G:n<9223372036854775807)(b:∀i:Nat,i<n->step i=some (if g i=0 then .n (wrap .i64 ((i:Int)+1))else .r (g i)))(B:step (n:Int)=some (.x ())):
 ∀m k:Nat,k+m=n->bM step (k:Int)=some (if nV g k n=0 then .x ()else .r (nV g k n)):=by
 intro m
 induction m with
 |zero=>
  intro k c;have:k=n:=Za
  subst this;rw[iZ,B,PK (le_refl _)];rfl
 |succ m u=>
  intro k c;rw[iZ,b k Za,Nq Za]
  by_cases a:g k=0
  .simp only[a,if_true,ζb];rw[ct k Za]
   exact u (k+1) Za
  simp only[a,if_false,ζb]
theorem xZ{step:Int->aZ (Fw Int Unit Int)}{n:Nat}(g:Nat->Int)(B:n<9223372036854775807)(a:∀i:Nat,i<n->step i=some (if g i=0 then .n (wrap .i64 ((i:Int)+1))else .r (g i)))(G:step (n:Int)=some (.x ())):bM step 0=some (if nV g 0 n=0 then .x ()else .r (nV g 0 n)):=Ru g B a G n 0 Za
theorem BW{step:Int->aZ (Fw Int Unit Unit)}{n:Nat}(f:Nat->Zl)(B:n<9223372036854775807)(a:∀i:Nat,i<n->step i=some (if f i then .r ()else .n (wrap .i64 ((i:Int)+1))))(G:step (n:Int)=some (.x ())):bM step 0=some (if iK f 0 n then .r ()else .x ()):=Dz f B a G n 0 Za
def wX(c:Int):Zl:=decide (c>=65)&&decide (c<=90)||decide (c>=97)&&decide (c<=122)
def BE(c:Int):Zl:=decide (c>=48)&&decide (c<=57)
theorem B9(c:Int):pT c=some (wX c):=by unfold pT wX;simp only[lQ,iF,ζb];rw[Bool.or_comm]
theorem Cq(c:Int):ou c=some (wX c):=by unfold ou wX;simp only[lQ,iF,ζb]
theorem MA(c:Int):tQ c=some (BE c):=by unfold tQ BE;simp only[lQ,ζb]
theorem Ml(c:Int):sA c=some (BE c):=by unfold sA BE;simp only[lQ,ζb]
def vR(s:Zq)(i:Nat):Int:=(kD s (i:Int)).getD 0
theorem B7{s:Zq}{i:Nat}(h:i<s.size):kD s (i:Int)=some (vR s i):=by have⟨x,u⟩:=Kl h;unfold vR;rw[u];rfl
def sJ(s:Zq)(i:Nat):Zl:= !wX (vR s i)&& !BE (vR s i)&& !(vR s i==95)
def lB(s:Zq):Zl:=decide (1<=s.size)&&decide (s.size<=16)&&wX (vR s 0)&& !iK (sJ s) 0 s.size
theorem Lq{s:Zq}{i:Nat}(h:i<s.size):fU.bn s (s.size:Int) i=some (if sJ s i then .r ()else .n (wrap .i64 ((i:Int)+1))):=by unfold fU.bn sJ;rw[show decide ((i:Int)<(s.size:Int))=true from by simpa using h,bO,B7 h];simp only[ζb,B9,MA];cases wX (vR s i)<;>cases BE (vR s i)<;>cases(vR s i==95)<;>rfl
theorem K7{s:Zq}{i:Nat}(h:i<s.size):gH.bn s i=some (if sJ s i then .r ()else .n (wrap .i64 ((i:Int)+1))):=by unfold gH.bn sJ;rw[show decide ((i:Int)<((ByteArray.size s:Nat):Int))=true from by simpa using h,bO,B7 h];simp only[ζb,Cq,Ml];cases wX (vR s i)<;>cases BE (vR s i)<;>cases(vR s i==95)<;>rfl
theorem toList_empty{s:Zq}:(toList s==toList ByteArray.empty)=decide (s.size=0):=by
 rw[Bool.eq_iff_iff,beq_iff_eq,decide_eq_true_eq];constructor;intro h;have a:(toList s).length=s.size:=by rw[Go.ByteArray.toList_eq];simp
 rw[<-a,h];rw[Go.ByteArray.toList_eq];rfl;intro h;have:s=ByteArray.empty:=by apply ByteArray.ext;exact Array.eq_empty_of_size_eq_zero h
 rw[this]
theorem EP{s:Zq}(B:s.size<1073741824):fU s=some (lB s):=by
 unfold fU;rw[toList_empty];simp only[iF,ζb];by_cases a:s.size=0;simp[a,lB,bp];by_cases u:s.size<=16;have hc:(decide (s.size=0)||decide (((ByteArray.size s:Nat):Int)>16))=false:=by simp[a];omega
 rw[hc,bX,show(0:Int)=((0:Nat):Int)from rfl,B7 (show 0<s.size by omega)];simp only[ζb,B9];cases w:wX (vR s 0)with|false=>simp[lB,w,bp]|true=>simp only[Bool.not_true,bX];unfold fU.W1;rw[Dz (n:=s.size) (sJ s) Za (λi z=>Lq z) (by unfold fU.bn;simp[bp]) s.size 0 Za];have:lB s= !iK (sJ s) 0 s.size:=(by simp[lB,w,u];omega);rw[this];cases iK (sJ s) 0 s.size<;>rfl
 have hc:(decide (s.size=0)||decide (((ByteArray.size s:Nat):Int)>16))=true:=by simp;omega
 rw[hc,bO];simp[lB,u,bp]
theorem GX{s:Zq}(G:s.size<1073741824):gH s=some (lB s):=by
 unfold gH;simp only[iF,ζb];by_cases b:s.size=0;simp[b,lB,bp];by_cases u:s.size<=16;have hc:(decide (((ByteArray.size s:Nat):Int)<1)||decide (((ByteArray.size s:Nat):Int)>16))=false:=by simp;omega
 rw[hc,bX,show(0:Int)=((0:Nat):Int)from rfl,B7 (show 0<s.size by omega)];simp only[ζb,Cq];cases w:wX (vR s 0)with|false=>simp[lB,w,bp]|true=>simp only[Bool.not_true,bX];unfold gH.W1;rw[show(1:Int)=((1:Nat):Int)from rfl,Dz (n:=s.size) (sJ s) Za (λi B=>K7 B) (by unfold gH.bn;simp[bp]) (s.size-1) 1 Za];have z:sJ s 0=false:=(by simp[sJ,w]);have:lB s= !iK (sJ s) 1 s.size:=(by have a:=EU (f:=sJ s) (show 0<s.size by omega);rw[z]at a;simp[lB,w,u,a];omega);rw[this];cases iK (sJ s) 1 s.size<;>rfl
 have hc:(decide (((ByteArray.size s:Nat):Int)<1)||decide (((ByteArray.size s:Nat):Int)>16))=true:=by simp;omega
 rw[hc,bO];simp[lB,u,bp]
def fO{α:Type}(l:aY α)(f:α->Zl)(i:Nat):Zl:=match l[i]?with|some y=>f y|none=>false
theorem zT{α:Type}{l:aY α}{f:α->Zl}{i:Nat}(h:i<l.length):fO l f i=f l[i]:=by unfold fO;rw[ζd h]
theorem BB{α:Type}{l:aY α}{f:α->Zl}{p:Nat}:(l.take p).any f=iK (fO l f) 0 p:=by
 rw[Bool.eq_iff_iff,List.any_eq_true,NO];constructor;rintro⟨x,z,u⟩;have⟨i,w⟩:=List.getElem?_of_mem z;have B:=(ζe.1 w).1;rw[length_take]at B;rw[getElem?_take,if_pos Za]at w;exact⟨i,zero_le _,Za,by unfold fO;rw[w];exact u⟩;rintro⟨i,_,w,u⟩;unfold fO at u;split at u;next y C=>exact⟨y,mem_of_getElem? (i:=i) (by rw[getElem?_take,if_pos w];exact C),u⟩
 cases u
def qZ(a b:Zq):Zl:=toList a==toList b
def TR:Zl->Zl->Zl->Int
 |true,false,true=>0|true,false,false=>2|_,_,_=>13
def uq(P:cg)(i:Nat):Int:=match P.vars.l[i]?with
 |some v=>TR (lB v.name) (iK (fO P.vars.l λw=>qZ w.name v.name) 0 i) (decide (v.init_>=-1073741824)&&decide (v.init_<=1073741824))|none=>0
def rI(t:Zj)(p:Nat):Int:=match t.procs.l[p]?with
 |some P=>if lB P.name&& !iK (fO t.procs.l λy=>qZ y.name P.name) 0 p then
  (if P.vars.l.length>8 then 5 else if nV (uq P) 0 P.vars.l.length=0 then(if P.events.l.length>64 then 5 else 0)else nV (uq P) 0 P.vars.l.length)else 13
 |none=>0
theorem ED{P:cg}{i:Nat}(h:i<P.vars.l.length):uq P i=TR (lB P.vars.l[i].name) (iK (fO P.vars.l λw=>qZ w.name P.vars.l[i].name) 0 i) (decide (P.vars.l[i].init_>=-1073741824)&&decide (P.vars.l[i].init_<=1073741824)):=by unfold uq;rw[ζd h]
theorem Ef(n:Int):pH n=some (decide (n>=-1073741824)&&decide (n<=1073741824)):=by unfold pH;rw[lQ];rfl
theorem NG{t:Zj}(W:Small t){p:Nat}(U:p<t.procs.l.length):eM t p=some (rI t p):=by
 have Y:=W.2 _ (getElem_mem U);have e:=W.1;unfold eM rI;rw[bB U,ζb,ζd U];generalize Z:t.procs.l[p]=P at *;have⟨T,g,Q,u,_⟩:=Y;rw[EP Q,ζb];have⟨x,a,D⟩:=rO t.procs p Za;have G:h_ x (λz=>jk z P)=some (iK (fO t.procs.l λy=>qZ y.name P.name) 0 p):=by rw[FQ (p:=λz=>jk z P) (f:=λy=>qZ y.name P.name) (λy _=>rfl) (by rw[D,length_take];omega),D,BB]
 rw[a,ζb,G,ζb];dsimp only;cases h:lB P.name with|false=>simp[bp]|true=>rw[bO,ζb,Bool.true_and];cases j:iK (fO t.procs.l λy=>qZ y.name P.name) 0 p with|true=>simp[bp]|false=>rw[bX];simp only[Bool.not_false,if_true];by_cases X:P.vars.l.length>8;rw[show decide (len P.vars>8)=true from by simp[len];omega,bO,if_pos X];rw[show decide (len P.vars>8)=false from by simp[len];omega,bX,if_neg X];unfold eM.W1;rw[xZ (n:=P.vars.l.length) (uq P) Za (λi L=>?_) (by unfold eM.bn;simp[bp,len])];by_cases O:nV (uq P) 0 P.vars.l.length=0;rw[if_pos O,if_pos O];show bp (decide (len P.events>64)) (some 5) (some 0)=_;rw[sZ];simp only[len,decide_eq_true_eq];by_cases I:P.events.l.length>64;rw[if_pos I,if_pos Za];rw[if_neg I,if_neg Za];rw[if_neg O,if_neg O];rfl;unfold eM.bn;rw[ED L,show decide ((i:Int)<len P.vars)=true from by simp[len];exact L,bO,bB L,ζb];have b:=u _ (getElem_mem L);have⟨y,c,J⟩:=rO P.vars i Za;have S:gu y (λz=>jr z P.vars.l[i])=some (iK (fO P.vars.l λw=>qZ w.name P.vars.l[i].name) 0 i):=(by rw[A4 (p:=λz=>jr z P.vars.l[i]) (f:=λw=>qZ w.name P.vars.l[i].name) (λw _=>rfl) (by rw[J,length_take];omega),J,BB]);rw[EP b,ζb,c,ζb,S,ζb,oK];have d:(decide (-1073741824<=P.vars.l[i].init_)&&decide (P.vars.l[i].init_<=1073741824))=(decide (P.vars.l[i].init_>=-1073741824)&&decide (P.vars.l[i].init_<=1073741824)):=rfl;rw[d];generalize lB P.vars.l[i].name=A;generalize iK (fO P.vars.l λw=>qZ w.name P.vars.l[i].name) 0 i=B;generalize(decide (P.vars.l[i].init_>=-1073741824)&&decide (P.vars.l[i].init_<=1073741824))=C;cases A<;>cases B<;>cases C<;>rfl
theorem OR{t:Zj}(U:Small t){p:Nat}(O:p<t.procs.l.length):eA t p=some (rI t p):=by have T:=U.2 _ (getElem_mem O);have a:=U.1;unfold eA rI;rw[bB O,ζb,ζd O];generalize W:t.procs.l[p]=P at *;have⟨Q,X,L,z,_⟩:=T;rw[GX L,ζb];dsimp only;cases b:lB P.name with|false=>simp[bp]|true=>rw[bO,Bool.true_and];unfold eA.W1;rw[BW (n:=p) (fO t.procs.l λy=>qZ y.name P.name) Za (λi u=>?_) (by unfold eA.bn;simp[bp])];(cases c:iK (fO t.procs.l λy=>qZ y.name P.name) 0 p with|true=>rfl|false=>simp only[Bool.not_false,if_true];show bp (decide (len P.vars>8)) (some 5) (eA.W2 0 P)=_;by_cases S:P.vars.l.length>8;rw[show decide (len P.vars>8)=true from by simp[len];omega,bO,if_pos S];rw[show decide (len P.vars>8)=false from by simp[len];omega,bX,if_neg S];unfold eA.W2;rw[xZ (n:=P.vars.l.length) (uq P) Za (λi u=>?_) (by unfold eA.bS;simp[bp,len])];by_cases J:nV (uq P) 0 P.vars.l.length=0;rw[if_pos J,if_pos J];show bp (decide (len P.events>64)) (some 5) (some 0)=_;rw[sZ];simp only[len,decide_eq_true_eq];by_cases D:P.events.l.length>64;rw[if_pos D,if_pos Za];rw[if_neg D,if_neg Za];rw[if_neg J,if_neg J];rfl;unfold eA.bS;rw[ED u,show decide ((i:Int)<len P.vars)=true from by simp[len];exact u,bO,bB u,ζb];(rw[GX (z _ (getElem_mem u)),ζb];have Y:eA.W3 i 0 P=if iK (fO P.vars.l λw=>qZ w.name P.vars.l[i].name) 0 i then some (.r 13)else(if decide (P.vars.l[i].init_>=-1073741824)&&decide (P.vars.l[i].init_<=1073741824)then some (.n (wrap .i64 ((i:Int)+1)))else some (.r 2)):=by unfold eA.W3;rw[BW (n:=i) (fO P.vars.l λw=>qZ w.name P.vars.l[i].name) Za (λj Z=>?_) (by unfold eA.dN;simp[bp])];(cases iK (fO P.vars.l λw=>qZ w.name P.vars.l[i].name) 0 i with|true=>rfl|false=>show(idx P.vars (i:Int)).bind _=_;rw[bB u,ζb,Ef,ζb];cases(decide (P.vars.l[i].init_>=-1073741824)&&decide (P.vars.l[i].init_<=1073741824))<;>rfl);unfold eA.dN;have G:j<P.vars.l.length:=Za;rw[show decide ((j:Int)<(i:Int))=true from by simpa using Z,bO,bB G,ζb,bB u,ζb,zT G,sZ];rfl);rw[Y];generalize lB P.vars.l[i].name=A;generalize iK (fO P.vars.l λw=>qZ w.name P.vars.l[i].name) 0 i=B;generalize(decide (P.vars.l[i].init_>=-1073741824)&&decide (P.vars.l[i].init_<=1073741824))=C;cases A<;>cases B<;>cases C<;>rfl);unfold eA.bn;have I:i<t.procs.l.length:=Za;rw[show decide ((i:Int)<(p:Int))=true from by simpa using u,bO,bB I,ζb,zT I,sZ];rfl
def G_(n:Nat)(p:Int)(e:Zn):Zl:=if e.kind==1 then e.peer==0&&e.message==0 else(e.kind==2||e.kind==3)&&(decide (0<=e.peer)&&decide (e.peer<n))&& !(e.peer==p)&&(decide (0<=e.message)&&decide (e.message<=199))
theorem LK{t:Zj}(G:Small t)(p:Int)(e:Zn):ir t p e=some (G_ t.procs.l.length p e):=by
 have a:=G.1;have w:wrap .i64 (len t.procs-1)=len t.procs-1:=jB _ (by simp[len];omega) (by simp[len];omega);have u:∀b:Zl,ir.J1 p b t e=some (b&&(decide (0<=e.peer)&&decide (e.peer<t.procs.l.length))&& !(e.peer==p)&&(decide (0<=e.message)&&decide (e.message<=199))):=by intro b;unfold ir.J1;simp only[oK,w,ζb];have:decide (e.peer<=len t.procs-1)=decide (e.peer<t.procs.l.length):=(by congr 1;apply propext;simp[len];omega);rw[this];generalize(decide (0<=e.peer)&&decide (e.peer<(t.procs.l.length:Int)))=A;generalize(e.peer==p)=B;generalize(decide (0<=e.message)&&decide (e.message<=199))=C;cases b<;>cases A<;>cases B<;>cases C<;>rfl
 unfold ir G_;rw[u,u];cases a:e.kind==1 with|true=>rw[bO];cases e.peer==0<;>cases e.message==0<;>rfl|false=>rw[bX];simp only[false_eq_true,if_false];cases z:e.kind==2<;>simp[bp]
def Da(P:cg)(k:Nat)(e:Zn):Zl:=match k with|0=>false|j+1=>fO P.events.l (λx=>decide (e.time<x.time)) j
def tK(P:cg)(k:Nat)(e:Zn):Zl:=decide (e.time<0)||decide (e.time>1099511627776)||Da P k e
def UE:Zl->Zl->Zl->Int
 |true,true,false=>0|true,true,true=>8|_,_,_=>2
def qx(P:cg)(e:Zn)(i:Nat):Int:=match e.assign.l[i]?with
 |some a=>UE (decide (0<=a.var)&&decide (a.var<P.vars.l.length)) (decide (a.value>=-1073741824)&&decide (a.value<=1073741824)) (iK (fO e.assign.l λb=>b.var==a.var) 0 i)|none=>0
theorem EK{P:cg}{e:Zn}{i:Nat}(h:i<e.assign.l.length):qx P e i=UE (decide (0<=e.assign.l[i].var)&&decide (e.assign.l[i].var<P.vars.l.length)) (decide (e.assign.l[i].value>=-1073741824)&&decide (e.assign.l[i].value<=1073741824)) (iK (fO e.assign.l λb=>b.var==e.assign.l[i].var) 0 i):=by unfold qx;rw[ζd h]
def oV(n:Nat)(P:cg)(p k:Nat)(e:Zn):Int:=if G_ n p e then(if tK P k e then 11 else if e.assign.l.length>8 then 5 else nV (qx P e) 0 e.assign.l.length)else 3
theorem JS{P:cg}{e:Zn}(c:P.vars.l.length<1073741824)(U:e.assign.l.length<1073741824):dB.W2 e.assign (len e.assign) 0 e P=some (nV (qx P e) 0 e.assign.l.length):=by
 have J:wrap .i64 (len P.vars-1)=len P.vars-1:=jB _ (by simp[len];omega) (by simp[len];omega);unfold dB.W2;rw[xZ (n:=e.assign.l.length) (qx P e) Za (λi D=>?_) (by unfold dB.bS;simp[bp,len])];by_cases G:nV (qx P e) 0 e.assign.l.length=0;rw[if_pos G,G];rfl;rw[if_neg G];rfl;unfold dB.bS;have⟨y,L,u⟩:=rO e.assign i Za;have I:gE y (λz=>jZ z e.assign.l[i])=some (iK (fO e.assign.l λb=>b.var==e.assign.l[i].var) 0 i):=by rw[DA (p:=λz=>jZ z e.assign.l[i]) (f:=λb=>b.var==e.assign.l[i].var) (λw _=>rfl) (by rw[u,length_take];omega),u,BB]
 rw[EK D,show decide ((i:Int)<len e.assign)=true from by simp[len];exact D,bO,bB D,ζb,oK,oK,J,L,ζb,ζb,ζb,I,ζb];have a:(decide (0<=e.assign.l[i].var)&&decide (e.assign.l[i].var<=len P.vars-1))=(decide (0<=e.assign.l[i].var)&&decide (e.assign.l[i].var<P.vars.l.length)):=by congr 2;apply propext;simp[len];omega
 have O:(decide (-1073741824<=e.assign.l[i].value)&&decide (e.assign.l[i].value<=1073741824))=(decide (e.assign.l[i].value>=-1073741824)&&decide (e.assign.l[i].value<=1073741824)):=rfl;rw[a,O];generalize(decide (0<=e.assign.l[i].var)&&decide (e.assign.l[i].var<(P.vars.l.length:Int)))=A;generalize(decide (e.assign.l[i].value>=-1073741824)&&decide (e.assign.l[i].value<=1073741824))=B;generalize iK (fO e.assign.l λb=>b.var==e.assign.l[i].var) 0 i=C;cases A<;>cases B<;>cases C<;>rfl
theorem Mf{t:Zj}(G:Small t){p k:Nat}{P:cg}{e:Zn}(J:t.procs.l[p]?=some P)(O:P.events.l[k]?=some e):dB t ⟨p,k+1⟩ e=some (oV t.procs.l.length P p k e):=by
 have⟨Q,w⟩:=ζe.1 J;have⟨a,z⟩:=ζe.1 O;have⟨D,B,_,_,C⟩:=G.2 P (w▸getElem_mem Q);have S:=C e (z▸getElem_mem a);have I:∀last:Int,((decide (0<=e.time)&&decide (e.time<=1099511627776))&& !decide (e.time<last))=(!tK P k e)->
  dB.J1 last t ⟨p,k+1⟩ e P=some (oV t.procs.l.length P p k e):=by
  intro last T;unfold dB.J1 oV;rw[LK G,ζb,oK,ζb,JS B S];dsimp only
  cases G_ t.procs.l.length p e with
  |false=>rfl|true=>
   rw[bO,if_pos rfl];have:(bp (decide (0<=e.time)&&decide (e.time<=1099511627776)) (some (decide (e.time<last))) (some true):aZ Zl)=some (tK P k e):=by
    have U:(!((decide (0<=e.time)&&decide (e.time<=1099511627776))&& !decide (e.time<last)))=tK P k e:=by rw[T,Bool.not_not]
    rw[<-U];cases(decide (0<=e.time)&&decide (e.time<=1099511627776))<;>cases decide (e.time<last)<;>rfl
   rw[this,ζb]
   cases tK P k e with
   |true=>rfl|false=>
    rw[bX];simp only[false_eq_true,if_false]
    by_cases L:e.assign.l.length>8
    .rw[show decide (len e.assign>8)=true from by simp[len];omega,bO,if_pos L]
    rw[show decide (len e.assign>8)=false from by simp[len];omega,bX,if_neg L]
 unfold dB;dsimp only;rw[show idx t.procs (p:Int)=some P from by rw[mX];exact J,ζb];cases k with|zero=>rw[show decide (((0:Nat):Int)+1>1)=false from by decide,bX];refine I 0 ?_;simp only[tK,Da,Bool.or_false];rw[Bool.eq_iff_iff];simp only[ζh,not_eq_true',decide_eq_true_eq,decide_eq_false_iff_not,Bool.or_eq_false_iff];omega|succ j=>rw[show decide ((((j+1:Nat)):Int)+1>1)=true from by simp;omega,bO];have u:j<P.events.l.length:=Za;have W:wrap .i64 ((((j+1:Nat)):Int)+1-2)=((j:Nat):Int):=(by rw[jB _ Za Za];omega);rw[W,bB u,ζb];refine I _ ?_;simp only[tK,Da,zT u];rw[Bool.eq_iff_iff];simp only[ζh,not_eq_true',decide_eq_true_eq,decide_eq_false_iff_not,Bool.or_eq_false_iff];omega
theorem Ky{t:Zj}{p:Nat}{P:cg}{e:Zn}(G:t.procs.l[p]?=some P)(J:e.assign.l.length<1073741824):ey.W2 p 0 t e=some (nV (qx P e) 0 e.assign.l.length):=by
 unfold ey.W2;rw[xZ (n:=e.assign.l.length) (qx P e) Za (λi w=>?_) (by unfold ey.bS;simp[bp,len])];by_cases z:nV (qx P e) 0 e.assign.l.length=0;rw[if_pos z,z];rfl;rw[if_neg z];rfl;unfold ey.bS;have D:ey.W3 p i 0 t e e.assign.l[i]=if iK (fO e.assign.l λb=>b.var==e.assign.l[i].var) 0 i then some (.r 8)else some (.n (wrap .i64 ((i:Int)+1))):=by unfold ey.W3;rw[BW (n:=i) (fO e.assign.l λb=>b.var==e.assign.l[i].var) Za (λj I=>?_) (by unfold ey.dN;simp[bp])];cases iK (fO e.assign.l λb=>b.var==e.assign.l[i].var) 0 i<;>rfl;unfold ey.dN;have u:j<e.assign.l.length:=Za;rw[show decide ((j:Int)<(i:Int))=true from by simpa using I,bO,bB u,ζb,zT u,sZ]
 rw[EK w,show decide ((i:Int)<len e.assign)=true from by simp[len];exact w,bO,bB w,ζb,D,Ef,ζb,show idx t.procs (p:Int)=some P from by rw[mX];exact G,ζb];have a:(bp (decide (e.assign.l[i].var<0)) (some true) (some (decide (e.assign.l[i].var>=len P.vars))):aZ Zl)=some (!(decide (0<=e.assign.l[i].var)&&decide (e.assign.l[i].var<P.vars.l.length))):=by rw[iF];congr 1;rw[Bool.eq_iff_iff];simp only[or_eq_true,not_eq_true',decide_eq_true_eq,Bool.and_eq_false_iff,decide_eq_false_iff_not,len];omega
 rw[a,ζb];generalize(decide (0<=e.assign.l[i].var)&&decide (e.assign.l[i].var<(P.vars.l.length:Int)))=A;generalize(decide (e.assign.l[i].value>=-1073741824)&&decide (e.assign.l[i].value<=1073741824))=B;generalize iK (fO e.assign.l λb=>b.var==e.assign.l[i].var) 0 i=C;cases A<;>cases B<;>cases C<;>rfl
theorem OM{t:Zj}(U:Small t){p k:Nat}{P:cg}{e:Zn}(J:t.procs.l[p]?=some P)(O:P.events.l[k]?=some e):ey t p k=some (oV t.procs.l.length P p k e):=by
 have⟨T,w⟩:=ζe.1 J;have⟨b,z⟩:=ζe.1 O;have⟨Q,W,_,_,I⟩:=U.2 P (w▸getElem_mem T);have X:=I e (z▸getElem_mem b);have Y:ey.J1 p k t e=some (if tK P k e then 11 else if e.assign.l.length>8 then 5 else nV (qx P e) 0 e.assign.l.length):=by unfold ey.J1;rw[iF,ζb,Ky J X,show idx t.procs (p:Int)=some P from by rw[mX];exact J,ζb];have a:(bp (decide ((k:Int)>0)) ((idx P.events (wrap .i64 ((k:Int)-1))).bind λL=>some (decide (e.time<L.time))) (some false):aZ Zl)=some (Da P k e):=(by cases k with|zero=>rfl|succ j=>have u:j<P.events.l.length:=Za;rw[show decide ((((j+1:Nat)):Int)>0)=true from by simp only[decide_eq_true_eq];omega,bO,show wrap .i64 ((((j+1:Nat)):Int)-1)=((j:Nat):Int)from by rw[jB _ Za Za];omega,bB u,ζb];simp only[Da,zT u]);rw[a,ζb,iF,ζb];show bp (tK P k e) _ _=_;cases tK P k e with|true=>rfl|false=>rw[bX];simp only[false_eq_true,if_false];by_cases S:e.assign.l.length>8;rw[show decide (len e.assign>8)=true from by simp[len];omega,bO,if_pos S];rw[show decide (len e.assign>8)=false from by simp[len];omega,bX,if_neg S]
 unfold ey oV;rw[show idx t.procs (p:Int)=some P from by rw[mX];exact J,ζb,show idx P.events (k:Int)=some e from by rw[mX];exact O,ζb,Y];unfold G_;cases a:e.kind==1 with|true=>rw[bO];simp only[if_true];cases e.peer==0<;>cases e.message==0<;>rfl|false=>rw[bX];simp only[false_eq_true,if_false];have c:(bp (e.kind==2) (some false) (some (!(e.kind==3))):aZ Zl)=some (!(e.kind==2||e.kind==3)):=(by cases e.kind==2<;>rfl);rw[c,ζb,iF,ζb,iF,ζb,iF,ζb,iF,ζb,iF,ζb];have d:(((((!(e.kind==2||e.kind==3))||decide (e.peer<0))||decide (e.peer>=len t.procs))||(e.peer==p))||decide (e.message<0)||decide (e.message>199))= !((e.kind==2||e.kind==3)&&(decide (0<=e.peer)&&decide (e.peer<t.procs.l.length))&& !(e.peer==p)&&(decide (0<=e.message)&&decide (e.message<=199))):=(by generalize(e.kind==2||e.kind==3)=A;have a1:decide (e.peer<0)= !decide (0<=e.peer):=(by rw[Bool.eq_iff_iff];simp);have f:decide (e.peer>=len t.procs)= !decide (e.peer<t.procs.l.length):=(by rw[Bool.eq_iff_iff];simp[len]);have a3:decide (e.message<0)= !decide (0<=e.message):=(by rw[Bool.eq_iff_iff];simp);have a4:decide (e.message>199)= !decide (e.message<=199):=(by rw[Bool.eq_iff_iff];simp);rw[a1,f,a3,a4];generalize decide (0<=e.peer)=B;generalize decide (e.peer<(t.procs.l.length:Int))=C;generalize(e.peer==(p:Int))=D;generalize decide (0<=e.message)=F;generalize decide (e.message<=199)=G;cases A<;>cases B<;>cases C<;>cases D<;>cases F<;>cases G<;>rfl);rw[d];generalize((e.kind==2||e.kind==3)&&(decide (0<=e.peer)&&decide (e.peer<(t.procs.l.length:Int)))&& !(e.peer==(p:Int))&&(decide (0<=e.message)&&decide (e.message<=199)))=Z;cases Z<;>rfl
theorem KW{n:Nat}{p:Int}{e:Zn}(h:G_ n p e=true):kJ n p e:=by
 unfold G_ at h;split at h;next a=>left;simpa using a
 right;simp only[ζh,or_eq_true,beq_iff_eq,decide_eq_true_eq,not_eq_true',beq_eq_false_iff_ne,ne_eq]at h;have⟨⟨⟨a,u⟩,z⟩,w⟩:=h;exact⟨a,u.1,u.2,z,w.1,w.2⟩
theorem GR{n:Nat}{P:cg}{p k:Nat}{e:Zn}(h:oV n P p k e=0):kJ n p e:=by
 unfold oV at h;split at h;next a=>exact KW a
 cases h
theorem BD{α:Type}[DecidableEq α]:∀{l r:aY α},l.Nodup->(∀x∈l,x∈r)->l.length<=r.length
 |[],_,_,_=>zero_le _|x::l,r,G,J=>by have B:=List.nodup_cons.1 G;have:=BD (r:=r.erase x) B.2 λy u=>(List.mem_erase_of_ne Zd).2 (J y (mem_cons_of_mem _ u));grind
section
variable{κ:Type}[DecidableEq κ]
theorem yB{ν:Type}{k:κ}:∀{m:Mo κ ν},k∉m.map (·.1)->jA k m=none
 |[],_=>rfl|(a,v)::r,h=>by simp only[map_cons,mem_cons,not_or]at h;unfold jA;rw[if_neg h.1];exact yB h.2
theorem yP{ν:Type}{k:κ}:∀{m:Mo κ ν},k∈m.map (·.1)->∃v,jA k m=some v/\(k,v)∈m
 |[],h=>Ze|(a,v)::r,h=>by unfold jA;by_cases e:k=a;grind;obtain⟨w,b,B⟩:=yP (by simpa[e]using h);grind
theorem pO{ν:Type}{k:κ}{v:ν}:∀{m:Mo κ ν},k∉m.map (·.1)->kV m k v=m++[(k,v)]
 |[],_=>rfl|(a,w)::r,h=>by simp only[map_cons,mem_cons,not_or]at h;show(if k=a then _ else _)=_;rw[if_neg h.1,pO h.2];rfl
end
def Vd(t:Zj)(y:a_):Prop:=∃e,(y,e)∈bQ t
theorem Vd.at_{t:Zj}{y:a_}(h:Vd t y):∃(p k:Nat)(e:Zn),jw t p k e/\y=⟨p,k+1⟩/\(y,e)∈bQ t:=by have⟨e,u⟩:=h;have⟨p,k,a,w⟩:=eu.1 u;grind
def Gw(t:Zj)(y z:a_):Prop:=∃e f,(y,e)∈bQ t/\(z,f)∈bQ t/\e.kind=2/\f.kind=3/\e.message=f.message
def Edge(t:Zj)(y z:a_):Prop:=Vd t y/\Vd t z/\(z=⟨y.proc,y.index+1⟩\/Gw t y z)
abbrev Way(t:Trace):a_->a_->Prop:=TransGen (Edge t)
def I6(t:Zj):Prop:=∃x,Way t x x
theorem Way.l{t:Zj}{x y:a_}(h:Way t x y):Vd t x:=by induction h with|single h=>exact h.1|tail _ _ u=>omega
theorem Way.r{t:Zj}{x y:a_}(h:Way t x y):Vd t y:=by cases h with|single h=>exact h.2.1|tail _ h=>exact h.2.1
theorem NQ{t:Zj}(g:Small t)(l:∀x∈bQ t,kJ t.procs.l.length x.1.proc x.2){A:bU 200 bt}(Y:eR t (bQ t) A){y:a_}(J:Vd t y):
 Wp (iV t A y) λs=>s.l.length<=2/\∀z,z∈s.l↔Edge t y z:=by
 have⟨p,k,e,O,C,u⟩:=J.at_;have⟨P,S,d⟩:=O;have T:P∈t.procs.l:=mem_of_getElem? S;have a:=(g.2 P T).1;have Z:k<P.events.l.length:=(ζe.1 d).1;have D:y.proc=p:=by rw[C]
 have U:y.index=k+1:=by rw[C]
 have j:∀s:Sl a_,s.l.length<=1->(∀z,z∈s.l↔Vd t z/\z=⟨y.proc,y.index+1⟩)->Wp (iV.J1 A s P.events y) λs=>s.l.length<=2/\∀z,z∈s.l↔Edge t y z:=by intro s r w;have no:¬(∃z,Gw t y z)->s.l.length<=2/\∀z,z∈s.l↔Edge t y z:=λm=>⟨Za,λz=>(w z).trans ⟨λh=>⟨J,h.1,.inl h.2⟩,λh=>⟨h.2.1,h.2.2.elim id λh=>(m ⟨z,h⟩).elim⟩⟩⟩;unfold iV.J1;have W:wrap .i64 (y.index-1)=((k:Nat):Int):=(by rw[U,jB _ Za Za];omega);rw[W,mX,d,ζb,dU,bP];constructor;intro B;have B:e.kind=2:=(by grind);have L:0<=e.message/\e.message<=199:=(by rcases l _ u with h|⟨_,_,_,_,h⟩;grind;omega);have b:∀z,Gw t y z->(ag A e.message).to_=z:=λz⟨X,f,a1,G,a3,a4,a5⟩=>(by cases BR a1 u rfl;rw[a5];exact(Y.rcv _ G a4).1);rw[KB A L.1 L.2,ζb,bf,bP];refine⟨λh=>?_,λh=>(bf _).2 (no λ⟨z,w⟩=>?_)⟩;have h:(ag A e.message).to_.index>0:=(by grind);rw[ζb];unfold fP;rw[if_pos Za,ζb,bf];refine⟨by show(s.l++[(ag A e.message).to_]).length<=2;grind,λz=>?_⟩;have I:Gw t y (ag A e.message).to_:=(by rcases Y.to e.message L.1 L.2 with v|⟨X,a,c,n⟩;omega;exact⟨e,X,u,a,B,c,n.symm⟩);show z∈s.l++[(ag A e.message).to_]↔_;rw[mem_append,mem_singleton,w];constructor;rintro(h|rfl);exact⟨J,h.1,.inl h.2⟩;exact⟨J,let⟨_,f,_,G,_⟩:=I;⟨f,G⟩,.inr I⟩;rintro⟨_,a,c|c⟩;grind;grind;rw[b z w]at h;have⟨_,f,_,G,_⟩:=w;have⟨q,i,_,o⟩:=eu.1 G;grind;intro B;rw[bf,bP];refine⟨λh=>(by cases h),λ_=>(bf _).2 (no λ⟨z,X,f,a1,_,a3,_⟩=>?_)⟩;cases BR a1 u rfl;grind
 unfold iV;rw[D,mX,S,ζb,bP];rw[D]at j;constructor
 .intro h;have h:y.index<len P.events:=by grind
  have B:k+1<P.events.l.length:=Zd
  refine j _ (by simp[Sl.l]) λz=>?_
  have W:wrap .i64 (y.index+1)=y.index+1:=jB _ Za Za
  simp only[Sl.l,mem_singleton,W];refine⟨λw=>⟨⟨P.events.l[k+1],eu.2 ⟨p,k+1,⟨P,S,ζd B⟩,?_⟩⟩,w⟩,λw=>w.2⟩
  grind
 intro h;have h:¬y.index<len P.events:=Zd
 refine j _ (by simp[Sl.l]) λz=>⟨λw=>by simp[Sl.l]at w,λ⟨w,E⟩=>?_⟩
 have⟨q,i,f,⟨Q,F,o⟩,H,_⟩:=w.at_
 grind
structure FZ(t:Trace)(x:a_)(rest:Sl a_)(m:Mo a_ Bool)(U:a_->Prop):Prop where
 rst:∀y∈rest.l,y=x\/Way t x y
 keys:(m.map (·.1)).Nodup
 seen:∀y∈m,Way t x y.1/\y.1≠x/\y.2=true
 le:rest.l.length<=m.length+1
 done:∀y,y=x\/y∈m.map (·.1)->y∈rest.l\/U y\/∀z,Edge t y z->z∈m.map (·.1)
theorem FZ.count{t:Zj}{x:a_}{rest:Sl a_}{m:Mo a_ Zl}{U:a_->Prop}(h:FZ t x rest m U):m.length<=(bQ t).length:=by
 have:=BD (r:=(bQ t).map (·.1)) h.keys λx u=>by obtain⟨y,w,rfl⟩:=mem_map.1 u;have⟨e,z⟩:=(h.seen y w).1.r;grind
 grind
theorem Na{t:Zj}(E:Small t)(hN:(bQ t).length<1073741824)(hF:∀x∈bQ t,kJ t.procs.l.length x.1.proc x.2){A:bU 200 bt}(hA:eR t (bQ t) A):Wp (ij t A) λr=>(r.2=true↔I6 t):=by
 unfold ij jI;rw[ζb];unfold ij.E1;rw[uK E,ζb];refine Ag (λk _=>∀x∈(bQ t).take k,¬Way t x.1 x.1) Zc ?_ λ_ h=>(bf _).2 ⟨λh=>(by cases h),λ⟨x,g⟩=>?_⟩
 .intro i x _ g ar;have ah:x∈bQ t:=mem_of_getElem? g;refine Wp.mono (P:=λw=>match w with|.n s=>¬Way t x.1 x.1|.x e=>False|.r e=>I6 t) ?_ λw j=>by cases w with|n s=>intro y d;rw[take_add_one,g]at d;grind|x e=>grind|r b=>exact(bf _).2 ⟨λ_=>j,λ_=>rfl⟩
  refine eX (λq:Sl a_×Mo a_ Zl=>FZ t x.1 q.1 q.2 λ_=>False) (λq=>2*((bQ t).length-q.2.length)+q.1.l.length) ⟨λy d=>.inl (by simpa[Sl.l]using d),Zc,Zc,by simp[Sl.l],λy d=>.inl ?_⟩ ?_;simpa[Sl.l]using d;rintro⟨rest,m⟩ L;unfold ij.bS;rw[bP];refine⟨λh=>?_,λh=>(bf _).2 ((bf _).2 λj=>?_)⟩
  .have G:0<rest.l.length:=by grind
   have hc:=L.count;have av:=L.le;have j:wrap .i64 ((len rest)-1)=(rest.l.length-1:Nat):=by rw[jB _ Zd Zd];grind
   have I:rest.l.length-1<rest.l.length:=Za;rw[j];have h1:Sl.jc rest (rest.l.length-1:Nat)=some (rest.l.length-1):=by unfold Sl.jc;grind
   have h2:Sl.get rest (rest.l.length-1)=some rest.l[rest.l.length-1]:=by unfold Sl.get;grind
   obtain⟨cut,h3,h4⟩:∃x,oq rest none (some ((rest.l.length-1:Nat):Int))=some x/\x.l=rest.l.take (rest.l.length-1):=by cases rest with|nil=>simp[Sl.l]at G|emp=>simp[Sl.l]at G|row l=>simp only[Sl.l]at G⊢;unfold oq dR;simp_all|part l=>simp[Sl.l]at G⊢;unfold oq dR;simp_all
   rw[h1,ζb,h2,ζb,h3,ζb,dU];generalize ai:rest.l[rest.l.length-1]=y;have aj:y∈rest.l:=ai▸getElem_mem I;have O:∀z,z∈rest.l->z∈cut.l\/z=y:=λz c=>by have:rest.l.take (rest.l.length-1)++rest.l.drop (rest.l.length-1)=rest.l:=List.take_append_drop ..;rw[<-this]at c;rcases mem_append.1 c with c|c;grind;rw[drop_eq_getElem_cons I,drop_of_length_le Za]at c;grind
   have F:=L.rst _ aj;have ak:=F.elim (λe=>⟨x.2,e▸ah⟩) Way.r;refine(NQ E hF hA ak).mono λs H=>?_;refine eX (λq:Sl a_×Int×Mo a_ Zl=>∃n:Nat,q.2.1=n/\n<=s.l.length/\FZ t x.1 q.1 q.2.2 (λu=>u=y)/\(∀z∈s.l.take n,z∈q.2.2.map (·.1))/\2*((bQ t).length-q.2.2.length)+q.1.l.length<2*((bQ t).length-m.length)+rest.l.length) (λq=>s.l.length-q.2.1.toNat)
    ⟨0,rfl,zero_le _,⟨λz c=>L.rst z Zd,L.keys,L.seen,Zd,λu f=>?_⟩,Zc,Zd⟩ ?_
   .rcases L.done u f with h|h|h;exact(O u h).imp_right .inl;exact h.elim;exact .inr (.inr h)
   rintro⟨C,i2,W⟩ ⟨n,rfl,hn,B,J,o⟩;simp only at B o J;unfold ij.dN;rw[bP];constructor
   .intro h;have X:n<s.l.length:=(by simpa[len]using h);have K:=(H.2 s.l[n]).1 (getElem_mem X);have Q:Way t x.1 s.l[n]:=F.elim (λe=>.single (e▸K)) λh=>.tail h K;rw[bB X,ζb,bP];refine⟨λZ=>(bf _).2 ((bf _).2 ((bf _).2 ⟨x.1,?_⟩)),λS=>?_⟩;have:s.l[n]=x.1:=(by unfold IV at Z;revert Z;cases s.l[n];cases x.1;intro Z;simpa using Z);rw[this]at Q;exact Q;have S:s.l[n]≠x.1:=λe=>(by rw[e]at S;simp[IV]at S);have T:=ct n Za;have M:s.l.take (n+1)=s.l.take n++[s.l[n]]:=(by rw[take_add_one,ζd X];rfl);rw[bP];refine⟨λp=>(bf _).2 ⟨⟨n+1,T,Za,B,λz c=>?_,o⟩,by show _-(wrap .i64 ((n:Int)+1)).toNat<_;rw[T];simp;omega⟩,λY=>?_⟩;rw[M]at c;rcases mem_append.1 c with c|c;exact J z c;simp[mem_singleton]at c;subst c;apply byContradiction;intro hk;unfold iD at p;rw[yB hk]at p;cases p;have aw:=B.count;have au:=B.le;unfold fP;rw[if_pos (show C.l.length+1<=2147483648 from Za),ζb,bf];have D:s.l[n]∉W.map (·.1):=λal=>(by have⟨v,hv,am⟩:=yP al;have:=(B.seen _ am).2.2;simp only at this;subst this;unfold iD at Y;rw[hv]at Y;cases Y);have U:∀z,z∈(kV W s.l[n] true).map (·.1)↔z∈W.map (·.1)\/z=s.l[n]:=λz=>(by rw[pO D,map_append,mem_append];simp);have N:FZ t x.1 (.row (C.l++[s.l[n]])) (kV W s.l[n] true) (λu=>u=y):=(by refine⟨λy d=>?_,?_,λy d=>?_,?_,λu f=>?_⟩;simp[Sl.l,mem_singleton]at d;rcases d with d|rfl;exact B.rst y d;exact .inr Q;rw[pO D,map_append,List.nodup_append];refine⟨B.keys,Zc,λa ha b R=>?_⟩;simp[mem_singleton]at R;subst R;exactλe=>D (e▸ha);rw[pO D]at d;rcases mem_append.1 d with d|d;exact B.seen y d;simp[mem_singleton]at d;subst d;exact⟨Q,S,rfl⟩;rw[pO D];show(C.l++[s.l[n]]).length<=_;rw[ζi,ζi,length_singleton,length_singleton];omega;simp only[Sl.l,mem_append,mem_singleton];have V:u=x.1\/u∈W.map (·.1)->(u∈C.l\/u=s.l[n])\/u=y\/∀z,Edge t u z->z∈(kV W s.l[n] true).map (·.1):=λf=>(by rcases B.done u f with h|h|h;exact .inl (.inl h);exact .inr (.inl h);exact .inr (.inr λz c=>(U z).2 (.inl (h z c))));rcases f with f|f;exact V (.inl f);rcases(U u).1 f with f|f;exact V (.inr f);exact .inl (.inr f));have an:=N.count;refine⟨⟨n+1,T,Za,N,λz c=>?_,?_⟩,by show _-(wrap .i64 ((n)+1)).toNat<_;rw[T];simp;omega⟩;rw[M]at c;rcases mem_append.1 c with c|c;exact(U z).2 (.inl (J z c));exact(U z).2 (.inr (by simpa using c));rw[pO D,ζi,length_singleton]at an;show 2*((bQ t).length-(kV W s.l[n] true).length)+(C.l++[s.l[n]]).length<_;rw[pO D,ζi,ζi,length_singleton,length_singleton];omega
   intro h;have ao:s.l.length<=n:=by simpa[len]using h
   rw[take_of_length_le ao]at J;refine(bf _).2 ((bf _).2 ⟨⟨B.rst,B.keys,B.seen,B.le,λu f=>?_⟩,o⟩);rcases B.done u f with h|h|h;exact .inl h;subst h;exact .inr (.inr λz c=>J z ((H.2 z).2 c));exact .inr (.inr h)
  have ap:rest.l=[]:=by have:¬len rest>0:=(by simpa using h);simp[len]at this;exact this
  have hd:∀y,y=x.1\/y∈m.map (·.1)->∀z,Edge t y z->z∈m.map (·.1):=λy d=>by rcases L.done y d with h|h|h;simp only[ap]at h;cases h;exact h.elim;exact h
  have key:∀z,Way t x.1 z->z∈m.map (·.1):=λz c=>by induction c with|single h=>exact hd _ (.inl rfl) _ h|tail _ h ih=>exact hd _ (.inr ih) _ h
  have⟨y,d,aq⟩:=mem_map.1 (key _ j);exact(L.seen y d).2.1 aq
 have⟨e,Z⟩:=g.l;rw[take_length]at h;exact absurd g (h _ Z)
structure Ok(t:Trace):Prop where
 one:1<=t.procs.l.length
 few:t.procs.l.length<=8
 heads:∀p,p<t.procs.l.length->rI t p=0
 fH:∀(p k:Nat)P e,t.procs.l[p]?=some P->P.events.l[k]?=some e->oV t.procs.l.length P p k e=0
 Nb:xo t
 acyc:¬I6 t
theorem Eu{t:Zj}(h:∀(p k:Nat)P e,t.procs.l[p]?=some P->P.events.l[k]?=some e->oV t.procs.l.length P p k e=0):∀x∈bQ t,kJ t.procs.l.length x.1.proc x.2:=λx w=>by have⟨p,k,⟨P,z,B⟩,u⟩:=eu.1 w;rw[u];exact GR (h p k P _ z B)
structure VT(t:Trace):Prop where
 formed:∀x∈bQ t,kJ t.procs.l.length x.1.proc x.2
 msgs:∃A i,eN t=some (some A,i,0)/\eR t (bQ t) A
 few:t.procs.l.length<=8
 ok:Ok t
theorem NT{t:Zj}(B:Small t)(Y:(bQ t).length<1073741824):Wp (gL t) λr=>(r.2=0->VT t)/\(Ok t->r.2=0):=by
 unfold gL;rw[oK,ζb,bP];refine⟨λG=>?_,λG=>(bf _).2 ⟨λh=>Za,λh=>?_⟩⟩;rotate_left;have l:=h.one;have D:=h.few;grind;have D:1<=t.procs.l.length/\t.procs.l.length<=8:=by grind
 unfold gL.W1;refine eX (λi:Int=>∃n:Nat,i=n/\n<=t.procs.l.length/\∀p,p<n->rI t p=0) (λi:Int=>t.procs.l.length-i.toNat) ⟨0,rfl,zero_le _,λp I=>absurd I Za⟩ ?_;rintro i ⟨n,rfl,m,X⟩;unfold gL.bn;rw[bP];constructor;intro h;have u:n<t.procs.l.length:=by grind
 rw[NG B u,ζb,bP];refine⟨λa=>(bf _).2 ⟨⟨n+1,ct n Za,Za,λp I=>?_⟩,by rw[ct n Za];simp;omega⟩,λa=>(bf _).2 ((bf _).2 ⟨λh=>?_,λh=>?_⟩)⟩;grind;grind;simp[h.heads n u]at a;intro h;have Z:t.procs.l.length<=n:=Zd;rw[bf];unfold jI;rw[ζb];unfold gL.E2;rw[uK B,ζb];refine Ag (λi _=>∀(p k:Nat)P e,t.procs.l[p]?=some P->P.events.l[k]?=some e->(⟨p,k+1⟩,e)∈(bQ t).take i->oV t.procs.l.length P p k e=0) Zc ?_ ?_;intro i x _ U w;have J:=mem_of_getElem? U;have⟨p,j,⟨P,z,C⟩,L⟩:=eu.1 J;unfold gL.IS;rw[L,Mf B z C,ζb,bP];refine⟨λa=>(bf _).2 λp' o q s v y b=>?_,λa=>(bf _).2 ((bf _).2 ⟨λh=>?_,λh=>?_⟩)⟩;rw[take_add_one,U]at b;grind;grind;simp[h.fH p j P _ z C]at a;intro _ w;have w:∀(p k:Nat)P e,t.procs.l[p]?=some P->P.events.l[k]?=some e->oV t.procs.l.length P p k e=0:=λp k P e z C=>w p k P e z C (by rw[take_length];exact eu.2 ⟨p,k,⟨P,z,C⟩,rfl⟩);have O:=Eu w;have⟨r,d,f,Q⟩:=CM B O;rw[d,ζb,bP];refine⟨λa=>?_,λa=>(bf _).2 ⟨λh=>?_,λh=>Q h.Nb⟩⟩;have a:=by simpa using a
 have⟨A,g,S⟩:=f a;rw[g,ζb];have⟨c,hc,T⟩:=Na B Y O S;rw[hc,ζb,bP];refine⟨λW=>(bf _).2 ⟨λh=>Za,λh=>absurd (T.1 W) h.acyc⟩,λW=>(bf _).2 ⟨λ_=>?_,λ_=>rfl⟩⟩;exact⟨O,⟨A,r.2.1,Zd,S⟩,D.2,D.1,D.2,λp I=>X p Za,w,S.Nb,λhc=>Zd⟩;simp_all
theorem OU{t:Zj}(B:Small t)(G:(bQ t).length<1073741824):Wp (dV t) λb=>(b=true->VT t)/\(Ok t->b=true):=by unfold dV;rw[dU];exact(NT B G).mono λr a=>(bf _).2 ⟨λh=>a.1 Zd,λh=>Zd⟩
end Go.VE
namespace Go.VE
theorem E3{t:Zj}(J:Small t)(d:dV t=some true){A:bU 200 bt}(B:eR t (bQ t) A){x:a_×Zn}(G:x∈bQ t)(b:x.2.kind=2):pJ t x.2.message=some (x.1,true):=by
 refine Wp.eq ?_;unfold pJ lH;rw[d,ζb,bO];unfold jI;rw[ζb];unfold lH.E1;rw[uK J,ζb,dU];refine Ag (λk _=>∀y∈(bQ t).take k,¬(y.2.kind=2/\y.2.message=x.2.message)) Zc ?_ ?_;intro k y _ C u;have w:y∈bQ t:=mem_of_getElem? C;unfold lH.sR;rw[lQ,ζb,bP];constructor;intro hc;have hc:y.2.kind=2/\y.2.message=x.2.message:=by simpa using hc
 refine(bf _).2 ((bf _).2 ((bf _).2 ?_));have c:=B.snd y w hc.1;have D:=B.snd x G b;rw[hc.2,D]at c;rw[c];intro hc;have hc:¬(y.2.kind=2/\y.2.message=x.2.message):=by intro h;rw[h.1,h.2]at hc;simp at hc
 rw[bf];intro z a;rw[take_add_one,C]at a;rcases mem_append.1 a with a|a;exact u z a;simp at a;subst a;exact hc;intro _ u;rw[take_length]at u;exact absurd ⟨b,rfl⟩ (u x G)
def nS(t:Zj)(c:Zx):Prop:=c.length=t.procs.l.length/\∀(p:Nat)(a:Int)(P:cg),c[p]?=some a->t.procs.l[p]?=some P->0<=a/\a<=P.events.l.length
def kP(t:Zj)(A:bU 200 bt)(c:Zx):Prop:=∀(p k:Nat)(e:Zn)(a:Int),jw t p k e->c[p]?=some a->(k:Int)<a->e.kind=3->∃b,c[(ag A e.message).from_.proc.toNat]?=some b/\(ag A e.message).from_.index<=b
theorem vk{t:Zj}(J:VT t){A:bU 200 bt}(G:eR t (bQ t) A){p k:Nat}{e:Zn}(O:jw t p k e)(b:e.kind=3):
 ∃(q j:Nat)(y:Zn),jw t q j y/\y.kind=2/\y.message=e.message/\y.peer=p/\e.peer=q/\(ag A e.message).from_=⟨q,j+1⟩:=by
 have u:((⟨p,k+1⟩:a_),e)∈bQ t:=eu.2 ⟨p,k,O,rfl⟩;have z:=(G.rcv _ u b).2;have C:=J.formed _ u;simp only at z C;have B:0<=e.peer:=by rcases C with h|⟨_,h,_⟩;omega;exact h
 obtain⟨q,D⟩:∃q:Nat,e.peer=q:=⟨e.peer.toNat,Za⟩
 rw[D]at z;have⟨j,y,w,a,I,L⟩:=C3.1 z;have:=G.snd (⟨q,j+1⟩,y) (eu.2 ⟨q,j,w,rfl⟩) a;simp only at this;rw[I]at this;exact⟨q,j,y,w,a,I,L,D,this⟩
def Wx(t:Zj)(A:bU 200 bt)(c:Zx)(s u:a_):Prop:=∃(p k:Nat)(e:Zn)(a:Int)(q j:Nat)(y:Zn)(b:Int),jw t p k e/\c[p]?=some a/\(k:Int)<a/\e.kind=3/\(ag A e.message).from_=s/\s=⟨q,j+1⟩/\jw t q j y/\c[q]?=some b/\b<(j:Int)+1/\u=⟨p,k+1⟩
theorem RS{t:Zj}(E:Small t)(R:dV t=some true)(F:VT t){A:bU 200 bt}(H:eR t (bQ t) A){c:Zg}(K:nS t c.l):Wp (gM t c) λr=>(r.2.2=false->kP t A c.l)/\(r.2.2=true->Wx t A c.l r.1 r.2.1):=by
 have ah:=F.few;unfold gM gM.W1;refine eX (λs:Int=>∃n:Nat,s=n/\n<=c.l.length/\∀(p k:Nat)(e:Zn)(a:Int),p<n->jw t p k e->c.l[p]?=some a->(k:Int)<a->e.kind=3->∃b,c.l[(ag A e.message).from_.proc.toNat]?=some b/\(ag A e.message).from_.index<=b) (λs:Int=>c.l.length-s.toNat) ⟨0,rfl,zero_le _,λp k e a h=>absurd h Za⟩ ?_;rintro s ⟨n,rfl,hn,M⟩;have ai:=K.1;unfold gM.bn;rw[bP];constructor;intro h;have C:n<c.l.length:=by simpa[len]using h
 have B:n<t.procs.l.length:=Za;have hP:=(E.2 _ (getElem_mem B)).1;have⟨r1,r2⟩:=K.2 n _ _ (ζd C) (ζd B);rw[bB C,ζb,bB B,ζb];have⟨y,N,T⟩:=rO t.procs.l[n].events c.l[n].toNat Za;rw[show((c.l[n].toNat:Nat):Int)=c.l[n]from Za]at N;rw[N,ζb];unfold gM.W2;refine eX (λs:Int=>∃m:Nat,s=m/\m<=y.l.length/\∀(k:Nat)(e:Zn),k<m->jw t n k e->e.kind=3->∃b,c.l[(ag A e.message).from_.proc.toNat]?=some b/\(ag A e.message).from_.index<=b) (λs:Int=>y.l.length-s.toNat) ⟨0,rfl,zero_le _,λk e h=>absurd h Za⟩ ?_;rintro s ⟨m,rfl,hm,i⟩;have af:y.l.length=c.l[n].toNat:=by rw[T,length_take];omega
 unfold gM.bS;rw[bP];constructor;intro h;have I:m<y.l.length:=by simpa[len]using h
 have D:=ct m Za;have U:y.l.length-(wrap .i64 ((m:Int)+1)).toNat<y.l.length-((m:Int)).toNat:=by rw[D];simp;omega
 have V:y.l[m]?=t.procs.l[n].events.l[m]?:=by rw[T,getElem?_take,if_pos (show m<c.l[n].toNat from Za)]
 have u:jw t n m y.l[m]:=⟨_,ζd B,by rw[<-V];exact ζd I⟩;rw[bB I,ζb];generalize y.l[m]=e at u;rw[bP];constructor;intro d;have d:e.kind=3:=by simpa using d
 have⟨q,j,z,l,z1,z2,z3,z4,z5⟩:=vk F H u d;have J:=E3 E R H (x:=(⟨q,j+1⟩,z)) (eu.2 ⟨q,j,l,rfl⟩) z1;simp only at J;rw[z2]at J;have ab:=l;have⟨Q,hQ,_⟩:=l;have L:q<c.l.length:=by have:=(ζe.1 hQ).1;omega
 rw[J,ζb];simp only;rw[bB L,ζb,bP];constructor;intro W;have W:(j:Int)+1>c.l[q]:=by simpa using W
 exact(bf _).2 ((bf _).2 ((bf _).2 ⟨λh=>(by cases h),λ_=>⟨n,m,e,c.l[n],q,j,z,c.l[q],u,ζd C,Za,d,z5,rfl,ab,ζd L,Za,by simp[D]⟩⟩));intro X;have X:¬((j:Int)+1>c.l[q]):=by simpa using X
 refine(bf _).2 ⟨⟨m+1,D,Za,λk Y ad w G=>?_⟩,U⟩;by_cases o:k=m;subst o;have:Y=e:=by have⟨P1,a1,v⟩:=u;have⟨P2,Z,f⟩:=w;rw[a1]at Z;cases Z;rw[v]at f;cases f;rfl
 subst this;rw[z5];exact⟨c.l[q],by simp only[toNat_natCast];exact ζd L,by simp only;omega⟩;exact i k Y Za w G;intro d;have d:¬e.kind=3:=by simpa using d
 refine(bf _).2 ⟨⟨m+1,D,Za,λk Y ad w G=>?_⟩,U⟩;by_cases o:k=m;subst o;have:Y=e:=by have⟨P1,a1,v⟩:=u;have⟨P2,Z,f⟩:=w;rw[a1]at Z;cases Z;rw[v]at f;cases f;rfl
 subst this;exact absurd G d;exact i k Y Za w G;intro h;have ae:y.l.length<=m:=by simpa[len]using h
 have P:=ct n Za;refine(bf _).2 ((bf _).2 ⟨⟨n+1,P,Za,λp k e a hp u S O g=>?_⟩,by show _-(wrap .i64 ((n:Int)+1)).toNat<_;rw[P];simp;omega⟩);by_cases ep:p=n;subst ep;rw[ζd C]at S;cases S;exact i k e Za u g;exact M p k e a Za u S O g;intro h;have ae:c.l.length<=n:=by simpa[len]using h
 refine(bf _).2 ((bf _).2 ⟨λ_ p k e a u S O g=>M p k e a (by have:=(ζe.1 S).1;omega) u S O g,λh=>(by cases h)⟩)
theorem K5{t:Zj}(B:Small t)(f:dV t=some true)(G:VT t){A:bU 200 bt}(J:eR t (bQ t) A){c:Zg}(O:nS t c.l):Wp (gM t c) λr=>(r.2.2=false↔kP t A c.l):=by refine(RS B f G J O).mono λr d=>⟨d.1,λu=>?_⟩;cases h:r.2.2 with|false=>rfl|true=>obtain⟨p,k,e,a,q,j,y,b,g,w,z,C,D,I,_,L,Q,-⟩:=d.2 h;have⟨S,g1,g2⟩:=u p k e a g w z C;rw[D,I]at g1 g2;simp only[toNat_natCast]at g1 g2;rw[L]at g1;cases g1;omega
theorem si{s:Zb}{p:Zg->aZ Zl}{f:Zg->Zl}(B:∀x∈s.l,p x=some (f x))(G:s.l.length<1073741824):gf s p=some (s.l.any f):=by have h:f_ s p=some (place f s.l):=rT B Za (λi=>rfl);unfold gf;rw[h,ζb,ug]
theorem KM{t:Zj}(J:Small t){c:Zg}(G:c.l.length=t.procs.l.length):Wp (jG t c) λb=>(b=true↔nS t c.l):=by
 have d:=J.1;unfold jG jG.W1;refine eX (λs:Int=>∃n:Nat,s=n/\n<=c.l.length/\∀(p:Nat)(a:Int)(P:cg),p<n->c.l[p]?=some a->t.procs.l[p]?=some P->0<=a/\a<=P.events.l.length) (λs:Int=>c.l.length-s.toNat) ⟨0,rfl,zero_le _,λp a P h=>absurd h Za⟩ ?_;rintro s ⟨n,rfl,Q,D⟩;unfold jG.bn;rw[bP];constructor;intro h;have w:n<c.l.length:=by simpa[len]using h
 have u:n<t.procs.l.length:=Za;have I:=ct n Za;rw[bB w,ζb,bB u,ζb,iF,ζb,bP];constructor;intro z;have z:c.l[n]<0\/c.l[n]>t.procs.l[n].events.l.length:=by simpa[len]using z
 refine(bf _).2 ((bf _).2 ⟨λh=>(by cases h),λL=>?_⟩);have:=L.2 n _ _ (ζd w) (ζd u);omega;intro z;have z:0<=c.l[n]/\c.l[n]<=t.procs.l[n].events.l.length:=by simpa[len]using z
 refine(bf _).2 ⟨⟨n+1,I,Za,λp a P S B C=>?_⟩,by rw[I];simp;omega⟩;by_cases e:p=n;subst e;rw[ζd w]at B;cases B;rw[ζd u]at C;cases C;exact z;exact D p a P Za B C;intro h;have O:c.l.length<=n:=by simpa[len]using h
 refine(bf _).2 ((bf _).2 ⟨λ_=>⟨G,λp a P B C=>D p a P (by have:=(ζe.1 B).1;omega) B C⟩,λ_=>rfl⟩)
def Code(t:Zj)(A:bU 200 bt)(c:Zx)(r:Int):Prop:=c.length≠t.procs.l.length/\r=1\/c.length=t.procs.l.length/\¬nS t c/\r=2\/nS t c/\¬kP t A c/\r=18\/nS t c/\kP t A c/\r=0
theorem TC{t:Zj}(J:Small t)(a:dV t=some true)(O:VT t){A:bU 200 bt}(U:eR t (bQ t) A)(c:Zg):
 Wp (fC t (Sl.row [c]:Zb) (Sl.nil:Zg)) λr=>Code t A c.l r:=by
 unfold fC zM;rw[a,ζb,bO,si (f:=λz=>(nJ z t).getD false) (λz _=>EL.ok ((bf _).2 trivial)) (by simp[Sl.l]),ζb,ζb,ζb]
 have w:(!((Sl.row [c]:Zb).l.any λz=>(nJ z t).getD false))=(len c==len t.procs):=by simp[Sl.l,nJ]
 rw[w,bP];constructor
 .intro h;have B:c.l.length=t.procs.l.length:=by
   have:(c.l.length:Int)=t.procs.l.length:=by simpa[len]using h
   omega
  unfold fC.W1;refine eX (λs:Int=>s=0\/s=1/\nS t c.l) (λs:Int=>1-s.toNat) (.inl rfl) ?_
  intro s D;unfold fC.bn;rcases D with rfl|⟨rfl,G⟩
  .rw[show decide ((0:Int)<len (Sl.row [c]:Zb))=true from rfl,bO,show idx (Sl.row [c]:Zb) 0=some c from rfl,ζb,dU];refine(KM J B).mono λb u=>?_
   rw[bP];exact⟨λI=>(bf _).2 ⟨.inr ⟨rfl,u.1 I⟩,by decide⟩,λC=>(bf _).2 ((bf _).2 (.inr (.inl ⟨B,λh=>(by rw[u.2 h]at C;cases C),rfl⟩)))⟩
  rw[show decide ((1:Int)<len (Sl.row [c]:Zb))=false from rfl,bX,bf];show Wp (fC.W2 (Sl.row [c]) Sl.nil 0 0 t) _;unfold fC.W2;refine eX (λs:Int=>s=0) (λ_=>0) rfl ?_
  rintro s rfl;unfold fC.bS;rw[show decide ((0:Int)<0)=false from rfl,bX,bf];show Wp (fC.W3 (Sl.row [c]) 1 0 t) _;unfold fC.W3;refine eX (λs:Int=>s=0\/s=1/\kP t A c.l) (λs:Int=>1-s.toNat) (.inl rfl) ?_
  intro s D;unfold fC.dN;rcases D with rfl|⟨rfl,L⟩
  .rw[show decide ((0:Int)<1)=true from rfl,bO,show idx (Sl.row [c]:Zb) 0=some c from rfl,ζb];unfold yd;rw[dU,dU];refine(K5 J a O U G).mono λr d=>?_
   rw[bf,bP];exact⟨λu=>(bf _).2 ⟨.inr ⟨rfl,d.1 (by simpa using u)⟩,by decide⟩,λu=>(bf _).2 ((bf _).2 (.inr (.inr (.inl ⟨G,λh=>(by have:=d.2 h;simp[this]at u),rfl⟩))))⟩
  rw[show decide ((1:Int)<1)=false from rfl,bX,bf];exact(bf _).2 (.inr (.inr (.inr ⟨G,L,rfl⟩)))
 intro h;exact(bf _).2 (.inl ⟨λe=>(by simp[len,e]at h),rfl⟩)
theorem Code.zero{t:Zj}{A:bU 200 bt}{c:Zx}{r:Int}(h:Code t A c r):r=0↔nS t c/\kP t A c:=by rcases h with⟨h,rfl⟩|⟨_,h,rfl⟩|⟨_,h,rfl⟩|⟨a,w,rfl⟩;exact⟨λh=>(by cases h),λu=>absurd u.1.1 h⟩;exact⟨λh=>(by cases h),λu=>absurd u.1 h⟩;exact⟨λh=>(by cases h),λu=>absurd u.2 h⟩;exact⟨λ_=>⟨a,w⟩,λ_=>rfl⟩
theorem OG{t:Zj}(B:Small t)(a:dV t=some true)(G:VT t){A:bU 200 bt}(J:eR t (bQ t) A)(c:Zg):Wp (fC t (Sl.row [c]:Zb) (Sl.nil:Zg)) λr=>(r=0↔nS t c.l/\kP t A c.l):=(TC B a G J c).mono λ_ h=>h.zero
def Cons(t:Zj)(A:bU 200 bt)(c:Zx):Prop:=nS t c/\kP t A c
def places{α:Type}(f:α->Zl)(l:aY α):Zv:=(range l.length).filter λk=>match l[k]?with|some x=>f x|none=>false
end Go.VE
namespace Go.VE
def sG(kind m:Int)(x:a_×Zn):Zl:=x.2.kind==kind&&x.2.message==m
def mz(t:Zj)(kind m:Int):a_:=match(bQ t).find? (sG kind m)with
 |some x=>x.1|none=>⟨0,0⟩
theorem Kk{t:Zj}{kind m:Int}{p:Nat}{P:cg}(B:p<9223372036854775806)(G:t.procs.l[p]?=some P)(J:P.events.l.length<1073741824):∀(q i:Nat),i+q=P.events.l.length->
 bM (λq:Int=>dG.bS kind m p t ⟨0,0⟩ q) (i:Int)=some (match(iz p i (P.events.l.drop i)).find? (sG kind m)with|some x=>.r x.1|none=>.x ()):=by
 have u:idx t.procs (p:Int)=some P:=by rw[mX];exact G
 intro q
 induction q with
 |zero=>
  intro i z;rw[iZ];unfold dG.bS;rw[u,ζb,show decide ((i:Int)<len P.events)=false from by simp[len];omega,bX,drop_of_length_le Za]
  rfl
 |succ q C=>
  intro i z;have w:i<P.events.l.length:=Za
  rw[iZ];have D:dG.bS kind m p t ⟨0,0⟩ i=some (if sG kind m (⟨p,(i:Int)+1⟩,P.events.l[i])then .r ⟨p,(i:Int)+1⟩else .n ((i+1:Nat):Int)):=by unfold dG.bS;rw[u,ζb,show decide ((i:Int)<len P.events)=true from by simp[len];omega,bO,ζb,bB w,ζb,lQ,ζb,ct i Za,sZ];rfl
  rw[D,ζb,drop_eq_getElem_cons w];simp only[iz,List.find?_cons]
  cases I:sG kind m (⟨p,(i:Int)+1⟩,P.events.l[i])with
  |true=>rfl|false=>simp only[false_eq_true,if_false];exact C (i+1) Za
theorem Lg{t:Zj}(B:Small t){kind m:Int}:∀(q p:Nat),p+q=t.procs.l.length->
 bM (λq:Int=>dG.bn kind m t ⟨0,0⟩ q) (p:Int)=some (match(fF p (t.procs.l.drop p)).find? (sG kind m)with|some x=>.r x.1|none=>.x ()):=by
 have a:=B.1;intro q
 induction q with
 |zero=>
  intro p w;rw[iZ];unfold dG.bn;rw[show decide ((p:Int)<len t.procs)=false from by simp[len];omega,bX,drop_of_length_le Za]
  rfl
 |succ q z=>
  intro p w;have u:p<t.procs.l.length:=Za
  have C:bM (λq:Int=>dG.bS kind m p t ⟨0,0⟩ q) 0=some (match(iz p 0 t.procs.l[p].events.l).find? (sG kind m)with|some x=>.r x.1|none=>.x ()):=Kk (t:=t) (kind:=kind) (m:=m) Za (ζd u) (B.2 _ (getElem_mem u)).1 (t.procs.l[p].events.l.length) 0 Za
  rw[iZ];unfold dG.bn;rw[show decide ((p:Int)<len t.procs)=true from by simp[len];omega,bO]
  unfold dG.W2;rw[C,drop_eq_getElem_cons u];simp only[fF,List.find?_append]
  cases D:(iz p 0 t.procs.l[p].events.l).find? (sG kind m)with
  |some x=>rfl|none=>
   simp only[ζb,Fw.elim,Option.none_or];rw[ct p Za]
   exact z (p+1) Za
theorem find_eq{t:Zj}(B:Small t)(kind m:Int):dG t kind m=some (mz t kind m):=by unfold dG dG.W1;have u:bM (λq:Int=>dG.bn kind m t ⟨0,0⟩ q) 0=some (match(bQ t).find? (sG kind m)with|some x=>.r x.1|none=>.x ()):=Lg B (kind:=kind) (m:=m) t.procs.l.length 0 Za;rw[u];unfold mz;cases(bQ t).find? (sG kind m)<;>rfl
theorem Dd{t:Zj}{kind m:Int}{x:a_×Zn}(h:(bQ t).find? (sG kind m)=some x):x∈bQ t/\x.2.kind=kind/\x.2.message=m/\mz t kind m=x.1:=by have a:=List.find?_some h;simp only[sG,ζh,beq_iff_eq]at a;exact⟨List.mem_of_find?_eq_some h,a.1,a.2,by unfold mz;rw[h]⟩
theorem HQ{t:Zj}{kind m:Int}{x:a_×Zn}(B:x∈bQ t)(a:x.2.kind=kind)(G:x.2.message=m):∃y,(bQ t).find? (sG kind m)=some y:=by cases u:(bQ t).find? (sG kind m)with|some y=>exact⟨y,rfl⟩|none=>rw[List.find?_eq_none]at u;exact absurd (u x B) (by simp[sG,a,G])
theorem Qy{t:Zj}{p k:Nat}{e:Zn}(h:jw t p k e)(a:k<9223372036854775807):ud t ⟨p,k+1⟩=some e:=by have⟨P,u,w⟩:=h;unfold ud;dsimp only;rw[show idx t.procs (p:Int)=some P from by rw[mX];exact u,ζb,show wrap .i64 ((k:Int)+1-1)=(k:Int)from by rw[jB _ Za Za];omega,show idx P.events (k:Int)=some e from by rw[mX];exact w];rfl
def uX(t:Zj)(x:a_×Zn):Int:=if x.2.kind=1 then 0 else if mz t x.2.kind x.2.message=x.1 then(if x.2.kind=3 then(if sD t x.2.peer x.2.message x.1.proc then 0 else 7)else 0)else 8
theorem MH{t:Zj}(G:Small t){p k:Nat}{e:Zn}(h:jw t p k e)(Y:kJ t.procs.l.length p e):iy t ⟨p,k+1⟩=some (uX t (⟨p,k+1⟩,e)):=by
 have b:k<1073741824:=by have⟨P,X,Z⟩:=h;have:=(G.2 P (mem_of_getElem? X)).1;have:=(ζe.1 Z).1;omega
 unfold iy uX;rw[Qy h Za,ζb];dsimp only;by_cases a:e.kind=1;rw[show(e.kind==1)=true from by simp[a],bO,if_pos a];rw[show(e.kind==1)=false from by simp[a],bX,if_neg a,find_eq G,ζb];have D:IV (mz t e.kind e.message) ⟨p,(k:Int)+1⟩=decide (mz t e.kind e.message=⟨p,(k:Int)+1⟩):=by unfold IV;rw[Bool.eq_iff_iff];cases mz t e.kind e.message;simp
 rw[D];by_cases w:mz t e.kind e.message=⟨p,(k:Int)+1⟩;rw[if_pos w,show decide (mz t e.kind e.message=⟨p,(k:Int)+1⟩)=true from by simpa using w,bO];by_cases B:e.kind=3;rw[if_pos B,show(e.kind==3)=true from by simp[B],bO];have I:0<=e.peer/\e.peer<t.procs.l.length:=by rcases Y with h|⟨_,a,w,_⟩;exact absurd h a;exact⟨a,w⟩
 have S:e.peer.toNat<t.procs.l.length:=Za;have T:=ζd S;have c:=(G.2 _ (getElem_mem S)).1;generalize d:t.procs.l[e.peer.toNat]=Q at *;have J:idx t.procs e.peer=some Q:=by rw[Ht I.1];exact T
 have L:sD t e.peer e.message p=Q.events.l.any λs=>s.kind==2&&s.message==e.message&&s.peer==p:=by unfold sD;rw[T]
 unfold iy.W1;refine Wp.eq (eX (λz:Zl×Int=>∃m:Nat,z.2=m/\m<=Q.events.l.length/\z.1=(Q.events.l.take m).any λs=>s.kind==2&&s.message==e.message&&s.peer==p) (λz=>Q.events.l.length-z.2.toNat) ⟨0,rfl,zero_le _,rfl⟩ ?_);rintro⟨s,i⟩ ⟨m,U,f,C⟩;simp only at U C;subst U;unfold iy.bn;dsimp only;rw[J,ζb,bP];constructor;intro O;have u:m<Q.events.l.length:=by simpa[len]using O
 have W:=ct m Za;rw[ζb,bB u,ζb,lQ,ζb,lQ,ζb,iF,ζb,bf];refine⟨⟨m+1,W,Za,?_⟩,by show _-(wrap .i64 ((m:Int)+1)).toNat<_;rw[W];simp;omega⟩;show(s||_)=_;rw[take_add_one,ζd u,List.any_append,C];simp;intro O;have u:Q.events.l.length<=m:=by simpa[len]using O
 rw[take_of_length_le u]at C;refine(bf _).2 ?_;rw[L,<-C];cases s;exact(bf _).2 rfl;exact(bf _).2 rfl;rw[if_neg B,show(e.kind==3)=false from by simp[B],bX];rw[if_neg w,show decide (mz t e.kind e.message=⟨p,(k:Int)+1⟩)=false from by simpa using w,bX]
theorem KO{t:Zj}(J:∀x∈bQ t,kJ t.procs.l.length x.1.proc x.2):(∀x∈bQ t,uX t x=0)↔xo t:=by
 constructor;intro h;have key:∀x∈bQ t,x.2.kind≠1->mz t x.2.kind x.2.message=x.1:=λx u a=>by have:=h x u;unfold uX at this;rw[if_neg a]at this;split at this;assumption;cases this
 refine⟨λx u y w z B C=>?_,λx u y w z B C=>?_,λx u z=>?_⟩;rw[<-key x u Za,<-key y w Za,z,B,C];rw[<-key x u Za,<-key y w Za,z,B,C];have:=h x u;unfold uX at this;rw[if_neg Za,if_pos (key x u Za),if_pos z]at this;split at this;assumption;cases this;intro h x u;unfold uX;by_cases k1:x.2.kind=1;rw[if_pos k1];rw[if_neg k1];have⟨y,w⟩:=HQ u rfl rfl;have⟨D,G,y3,y4⟩:=Dd w;have a:x.2.kind=2\/x.2.kind=3:=by rcases J x u with h|⟨h,_⟩;exact absurd h k1;exact h
 have I:mz t x.2.kind x.2.message=x.1:=by rw[y4];rcases a with a|a;exact h.snd y D x u (by rw[G,a]) a y3;exact h.rcv y D x u (by rw[G,a]) a y3
 rw[if_pos I];by_cases k3:x.2.kind=3;rw[if_pos k3,if_pos (h.has x u k3)];rw[if_neg k3]
theorem Af{t:Zj}(G:∀x∈bQ t,kJ t.procs.l.length x.1.proc x.2)(J:xo t){z:a_}{f:Zn}(B:(z,f)∈bQ t)(a:f.kind=3):∃e,(mz t 2 f.message,e)∈bQ t/\e.kind=2/\e.message=f.message:=by
 have h:=J.has _ B a;have D:0<=f.peer:=by rcases G _ B with h|⟨_,h,_⟩;grind;omega
 rw[show f.peer=(f.peer.toNat:Nat)from Za,C3]at h;have⟨k,e,u,b,w,_⟩:=h;have⟨y,C⟩:=HQ (eu.2 ⟨_,k,u,rfl⟩:(⟨(f.peer.toNat:Nat),k+1⟩,e)∈bQ t) b w;have⟨I,L,y3,y4⟩:=Dd C;grind
theorem Gw.find{t:Zj}(J:∀x∈bQ t,kJ t.procs.l.length x.1.proc x.2)(B:xo t){y z:a_}{f:Zn}(h:Gw t y z)(G:(z,f)∈bQ t):f.kind=3/\mz t 2 f.message=y:=by have⟨e,I,a,w,C,u,L⟩:=h;cases BR w G rfl;have⟨O,a1,D,Q⟩:=Af J B G u;exact⟨u,B.snd _ a1 _ a D C Ze⟩
theorem Bh{t:Zj}(O:Small t)(J:∀x∈bQ t,kJ t.procs.l.length x.1.proc x.2)(B:xo t){z:a_}(G:Vd t z):
 Wp (dL t z) λs=>s.l.length<=2/\∀y,y∈s.l↔Edge t y z:=by
 obtain⟨p,k,f,w,rfl,u⟩:=G.at_;have c:k<1073741824:=by have⟨P,B,I⟩:=w;have:=(O.2 P (mem_of_getElem? B)).1;grind
 have j:∀s:Sl a_,s.l.length<=1->(∀y,y∈s.l↔Vd t y/\(⟨p,k+1⟩:a_)=⟨y.proc,y.index+1⟩)->Wp (dL.J1 s t ⟨p,k+1⟩) λs=>s.l.length<=2/\∀y,y∈s.l↔Edge t y ⟨p,k+1⟩:=by intro s U C;unfold dL.J1;rw[Qy w Za,ζb,bP];constructor;intro D;have D:f.kind=3:=(by grind);rw[find_eq O,ζb];unfold fP;rw[if_pos Za,ζb,bf];refine⟨by show(s.l++[_]).length<=2;grind,λy=>?_⟩;show y∈s.l++[mz t 2 f.message]↔_;rw[mem_append,mem_singleton,C];have⟨e,a1,Q,S⟩:=Af J B u D;constructor;rintro(h|rfl);exact⟨h.1,G,.inl h.2⟩;exact⟨⟨e,a1⟩,G,.inr ⟨e,f,a1,u,Q,D,S⟩⟩;rintro⟨b,_,a|a⟩;grind;exact .inr (a.find J B u).2.symm;intro D;refine(bf _).2 ⟨Za,λy=>(C y).trans ⟨λh=>⟨h.1,G,.inl h.2⟩,λ⟨b,_,a⟩=>⟨b,a.elim id λa=>?_⟩⟩⟩;have:=(a.find J B u).1;grind
 unfold dL;rw[bP];constructor
 .intro h;have h:k+1>1:=by grind
  refine j _ (by simp[Sl.l]) λy=>?_
  have T:wrap .i64 (k+1-1)=k:=by rw[jB _ Za Za];omega
  simp only[Sl.l,mem_singleton,T,a_.mk.injEq];constructor
  .rintro rfl;have⟨P,B,I⟩:=w;have:=(ζe.1 I).1;exact⟨⟨P.events.l[k-1],eu.2 ⟨p,k-1,⟨P,B,ζd Za⟩,by simp;omega⟩⟩,rfl,rfl⟩
  simp_all
 intro h;refine j _ (by simp[Sl.l]) λy=>⟨λL=>by simp[Sl.l]at L,λ⟨L,I⟩=>?_⟩
 obtain⟨q,i,f,_,rfl,_⟩:=L.at_
 grind
theorem Um{α:Type}{r:α->α->Prop}{x:α}(h:Acc r x):¬TransGen r x x:=by induction h with|intro x _ u=>intro h;cases h with|single h=>exact u x h (.single h)|tail h1 w=>exact u _ w (TransGen.trans (.single w) h1)
theorem IT:∀{d:Zv}{i k:Nat},d[i]?=some k->(d.set i (k+1)).sum=d.sum+1
 |[],_,_,h=>Ze|x::d,0,k,h=>Zd|x::d,i+1,k,h=>by have:=IT (d:=d) (i:=i) (k:=k) Zd;grind
theorem LU:∀{d l:Zv},d.length=l.length->(∀(i a b:Nat),d[i]?=some a->l[i]?=some b->a<=b)->d.sum<=l.sum
 |[],_,_,_=>Zc|x::d,[],h,_=>Ze|x::d,y::l,h,B=>by have c:=B 0 x y rfl rfl;have u:=LU (d:=d) (l:=l) Zd λi a b w z=>B (i+1) a b Zd Zd;simp;omega
def nI(d:Zv):Zx:=d.map ofNat
def sI(s:Zg):Nat:=(s.l.map toNat).sum
theorem Fv(d:Zv):sI (.row (nI d))=d.sum:=by unfold sI nI;rw[show(Sl.row (d.map ofNat)).l=d.map ofNat from rfl,map_map,show(toNat ∘ ofNat)=id from rfl,List.map_id]
theorem Mj(d:Zv):(nI d).length=d.length:=by simp[nI]
structure Kh(t:Trace)(d:List Nat):Prop where
 len:d.length=t.procs.l.length
 le:∀(p k:Nat)P,d[p]?=some k->t.procs.l[p]?=some P->k<=P.events.l.length
 acc:∀(p k j:Nat),d[p]?=some k->j<k->Acc (Edge t) ⟨p,j+1⟩
def mc(t:Zj):Nat:=(t.procs.l.map λP=>P.events.l.length).sum
theorem Kh.sum{t:Zj}{d:Zv}(h:Kh t d):d.sum<=mc t:=LU (by simp[h.len]) λi a b z u=>by cases w:t.procs.l[i]?with|none=>grind|some P=>simp[w]at u;rw[<-u];exact h.le i a P z w
theorem CP{d:Zv}{p:Nat}(h:p<d.length):Sl.jc (.row (nI d)) (p:Int)=some p:=by unfold Sl.jc;rw[if_pos ⟨Za,by simpa[Sl.l,Mj]using h⟩];rfl
theorem zi{d:Zv}{p k:Nat}(h:d[p]?=some k):Sl.get (.row (nI d)) p=some (k:Int):=by unfold Sl.get nI;rw[show(Sl.row (d.map ofNat)).l=d.map ofNat from rfl,getElem?_map,h];rfl
def Mv(t:Zj)(B:Zv)(s:Zg)(b:Zl)(d:Zv):Prop:=s=.row (nI d)/\Kh t d/\B.sum<=d.sum/\(b=true->B.sum<d.sum)
def KQ(t:Zj)(B:Zv)(p:Nat)(w:Fw (Zg×Zl×Int) (Zg×Zl) Empty):Prop:=∃u z C,w=.n (u,z,((p+1:Nat):Int))/\Mv t B u z C
theorem Sb{t:Zj}(c:Small t)(m:∀x∈bQ t,kJ t.procs.l.length x.1.proc x.2)(n:xo t){G o:Zv}{s:Zg}{b:Zl}{p:Nat}(g:p<t.procs.l.length)(A:Mv t G s b o):
 Wp (eD.W3 s b p t) (KQ t G p):=by
 have Z:=bB g;have hn:=c.1;have ah:=(c.2 _ (getElem_mem g)).1;have C:=ζd g;generalize t.procs.l[p]=P at *;refine eX (λq:Zg×Zl=>∃d,Mv t G q.1 q.2 d) (λq=>mc t-sI q.1) ⟨o,A⟩ ?_
 rintro⟨s,b⟩ ⟨d,rfl,u,E,F⟩;have w:p<d.length:=by rw[u.len];omega
 have a:=ζd w;generalize d[p]=k at a;have ai:=u.le p k P a C;have stop:∀{X:Empty->Prop},Wp (some (Fw.x (Sl.row (nI d),b))) (QU (λq:Zg×Zl=>∃d,Mv t G q.1 q.2 d) (λq=>mc t-sI q.1) (λe=>Wp (some (Fw.n (e.1,e.2,wrap .i64 (p+1)))) (KQ t G p)) X (Sl.row (nI d),b)):=by refine(bf _).2 ((bf _).2 ⟨_,_,d,?_,rfl,u,E,F⟩);rw[ct p Za]
 unfold eD.dN;rw[CP w,ζb,zi a,ζb,Z,ζb,bP];refine⟨λh=>?_,λ_=>stop⟩
 have D:k<P.events.l.length:=Zd
 have H:jw t p k P.events.l[k]:=⟨P,C,ζd D⟩;have z:(⟨p,k+1⟩,P.events.l[k])∈bQ t:=eu.2 ⟨p,k,H,rfl⟩;have go:(P.events.l[k].kind=3->∀q j:Nat,mz t 2 P.events.l[k].message=⟨q,j+1⟩->∃Y,d[q]?=some Y/\j<Y)->∀{r:Zg×Zl->Prop}{X:Empty->Prop},Wp (eD.J4 (.row (nI d)) p t) (QU (λq:Zg×Zl=>∃d,Mv t G q.1 q.2 d) (λq=>mc t-sI q.1) r X (Sl.row (nI d),b)):=by intro K r X;unfold eD.J4;rw[CP w,ζb,zi a,ζb,ζb];unfold Sl.put;rw[if_pos (by simpa[Sl.l,Mj]using w),ζb,bf];have I:(nI d).set p (wrap .i64 ((k:Int)+1))=nI (d.set p (k+1)):=(by rw[ct k Za];unfold nI;simp_all);have J:=IT a;have L:Kh t (d.set p (k+1)):=(by refine⟨by simp[u.len],λq i Q B v=>?_,λq i j B M=>?_⟩;rw[getElem?_set]at B;split at B;grind;exact u.le q i Q B v;rw[getElem?_set]at B;split at B;rename_i e;subst e;cases B;by_cases N:j<k;exact u.acc p k j a N;have:j=k:=Za;subst this;refine Acc.intro _ λy R=>?_;obtain⟨O,_,l|l⟩:=R;obtain⟨q,i,f,_,rfl,_⟩:=O.at_;simp[a_.mk.injEq]at l;have e1:q=p:=(by omega);subst e1;exact u.acc q j i a Za;have⟨S,V⟩:=l.find m n z;obtain⟨q,i,f,_,rfl,_⟩:=O.at_;have⟨Y,ad,ae⟩:=K S q i V;exact u.acc q Y i ad ae;exact u.acc q i j B M);have aj:=L.sum;refine⟨⟨_,Zd,L,Zd,λ_=>Zd⟩,?_⟩;show mc t-sI (.row ((nI d).set p (wrap .i64 ((k:Int)+1))))<mc t-sI (.row (nI d));rw[I,Fv,Fv,J];grind
 dsimp only;rw[ζb,ζb,zi a,ζb,bB D,ζb,bP];refine⟨λS=>?_,λS=>go λh=>Zd⟩
 have S:P.events.l[k].kind=3:=Zd
 have⟨e,a1,a2,a3⟩:=Af m n z S;have⟨q,j,T,U⟩:=eu.1 a1;simp only at U;have W:q<d.length:=by have⟨Q,v,_⟩:=T;rw[u.len];grind
 have af:=ζd W;rw[find_eq c,ζb,U,CP W,ζb,zi af,ζb,bP];refine⟨λ_=>stop,λh=>go λ_ q' j' hh=>?_⟩
 grind
theorem Kr{t:Zj}(J:Small t)(U:∀x∈bQ t,kJ t.procs.l.length x.1.proc x.2)(B:xo t):Wp (eD t) λb=>b=true->¬I6 t:=by
 have l:=J.1;unfold eD od;rw[if_pos Zd,ζb];have c:(Sl.row (replicate (len t.procs).toNat 0))=.row (nI (replicate t.procs.l.length 0)):=by simp[nI]
 rw[c];refine eX (λs:Zg=>∃d,s=.row (nI d)/\Kh t d) (λs=>mc t-sI s) ⟨_,rfl,Zc,λp k P h _=>Zd,λp k j h m=>Zd⟩ ?_;rintro s ⟨D,rfl,S⟩;refine eX (λq:Zg×Zl×Int=>∃(n:Nat)(d:Zv),q.2.2=n/\n<=t.procs.l.length/\Mv t D q.1 q.2.1 d) (λq=>t.procs.l.length-q.2.2.toNat) ⟨0,D,rfl,zero_le _,rfl,S,le_refl _,Zc⟩ ?_;rintro⟨s,b,i⟩ ⟨n,d,T,W,L⟩;subst T;unfold eD.bS;rw[bP];constructor;intro h;have u:n<t.procs.l.length:=by grind
 refine(Sb J U B u L).mono ?_;rintro w ⟨o,r,X,rfl,G⟩;exact⟨⟨n+1,X,rfl,Za,G⟩,by simp;omega⟩;intro _;obtain⟨rfl,z,Y,I⟩:=L;rw[bf];show Wp (bp b _ _) _;rw[bP];refine⟨λZ=>(bf _).2 ⟨⟨d,rfl,z⟩,?_⟩,λ_=>(bf _).2 ?_⟩;show mc t-sI (.row (nI d))<mc t-sI (.row (nI D));rw[Fv,Fv];have:=I Z;have:=z.sum;omega;refine eX (λi:Int=>∃n:Nat,i=n/\n<=t.procs.l.length/\∀p,p<n->∀P,t.procs.l[p]?=some P->d[p]?=some P.events.l.length) (λi:Int=>t.procs.l.length-i.toNat) ⟨0,rfl,zero_le _,λp O=>absurd O Za⟩ ?_;rintro i ⟨n,rfl,v,f⟩;unfold eD.qf;rw[bP];constructor;intro h;have u:n<t.procs.l.length:=by grind
 have C:n<d.length:=by rw[z.len];omega
 have a:=ζd C;rw[CP C,ζb,zi a,ζb,bB u,ζb,bP];refine⟨λ_=>(bf _).2 ((bf _).2 λh=>by cases h),λh=>(bf _).2 ⟨⟨n+1,ct n Za,Za,λp O P B=>?_⟩,by rw[ct n Za];simp;omega⟩⟩;by_cases e:p=n;subst e;rw[ζd u]at B;have:=z.le p _ _ a (ζd u);grind;grind;intro h;have y:t.procs.l.length<=n:=Zd;refine(bf _).2 ((bf _).2 λ_⟨x,Q⟩=>?_);obtain⟨p,k,e,⟨P,B,g⟩,rfl,_⟩:=Q.l.at_;have A:=(ζe.1 B).1;exact Um (z.acc p _ k (f p Za P B) (ζe.1 g).1) Q
def qq(out:aY (aY Zl))(y:a_):Zl:=match out[y.proc.toNat]?with
 |some row=>row[y.index.toNat]?.getD false|none=>false
theorem zl{t:Zj}{out:aY (aY Zl)}{p k:Nat}{row:aY Zl}(a:out[p]?=some row)(b:k+1<row.length){z:a_}(B:Vd t z):
 qq (out.set p (row.set (k+1) true)) z=(decide (z=⟨p,k+1⟩)||qq out z):=by
 obtain⟨q,j,e,_,rfl,_⟩:=B.at_;have C:=(ζe.1 a).1;unfold qq;have e1:(⟨(q:Int),(j:Int)+1⟩:a_).proc.toNat=q:=rfl;have e2:(⟨(q:Int),(j:Int)+1⟩:a_).index.toNat=j+1:=by show((j:Int)+1).toNat=j+1;omega
 rw[e1,e2,getElem?_set]
 by_cases u:p=q
 .subst u;rw[if_pos rfl,if_pos C,a];dsimp only;rw[getElem?_set]
  by_cases w:k=j
  .subst w;simp[b]
  rw[if_neg Za,show decide ((⟨(p:Int),(j:Int)+1⟩:a_)=⟨p,k+1⟩)=false from by simp;omega,Bool.false_or]
 rw[if_neg u,show decide ((⟨(q:Int),(j:Int)+1⟩:a_)=⟨p,k+1⟩)=false from by simp;omega,Bool.false_or]
theorem zR{α:Type}{f g:α->Zl}:∀{l:aY α},(∀z∈l,f z=true->g z=true)->(∃z∈l,f z=false/\g z=true)->l.countP f<l.countP g
 |[],_,⟨z,b,_⟩=>by simp at b|a::l,h,⟨z,b,B,hg⟩=>by simp only[List.countP_cons];have G:=List.countP_mono_left (l:=l) (p:=f) (q:=g) λx u=>h x (mem_cons_of_mem _ u);rcases mem_cons.1 b with rfl|b;simp[B,hg];omega;have:=zR (l:=l) (λx u=>h x (mem_cons_of_mem _ u)) ⟨z,b,B,hg⟩;have c:=h a (mem_cons_self ..);cases w:f a with|true=>simp[c w];omega|false=>simp;split<;>omega
def cnt(t:Zj)(out:aY (aY Zl)):Nat:=(bQ t).countP λz=>qq out z.1
structure Wa(t:Trace)(x:a_)(out:List (List Bool))(rest:List a_):Prop where
 shp:∀(p:Nat)P,t.procs.l[p]?=some P->∃row,out[p]?=some row/\row.length=P.events.l.length+1
 len:out.length=t.procs.l.length
 que:∀y∈rest,Way t y x
 snd:∀y,Vd t y->qq out y=true->Way t y x
 cls:∀z,z=x\/Vd t z/\qq out z=true->∀y,Edge t y z->qq out y=true\/y∈rest
 le:rest.length<=2*cnt t out+2
theorem A7{t:Zj}{y:a_}:qq (gy t) y=false:=by
 unfold qq gy;split;rename_i row h;rw[getElem?_map]at h;cases u:t.procs.l[y.proc.toNat]?with|none=>simp[u]at h|some P=>simp[u]at h;subst h;rw[getElem?_replicate];split<;>rfl
 rfl
theorem Sg{t:Zj}(Y:Small t)(n:(bQ t).length<1073741824)(g:∀x∈bQ t,kJ t.procs.l.length x.1.proc x.2)(J:xo t){x:a_}(i:Vd t x):
 Wp (mU t x) λs=>∃out,s=nested out/\Wa t x out []/\∀y,Vd t y->(qq out y=true↔Way t y x):=by
 unfold mU;rw[if_pos (by
  unfold zL;simp only[ζh,all_eq_true,decide_eq_true_eq];exact⟨by have:=Y.1;omega,λP J=>by have:=(Y.2 P J).1;omega⟩),dU]
 refine(Bh Y g J i).mono λs X=>?_
 refine eX (λq:aY (aY Zl)×aY a_=>Wa t x q.1 q.2) (λq=>2*((bQ t).length-cnt t q.1)+q.2.length) ⟨λp P J=>⟨replicate (P.events.l.length+1) false,by simp[gy,J],Zc⟩,by simp[gy],λy C=>.single ((X.2 y).1 C),λy _ h=>(by rw[A7]at h;cases h),λz a y C=>?_,by have:=X.1;show s.l.length<=2*cnt t (gy t)+2;omega⟩ ?_
 .rcases a with rfl|⟨_,h⟩
  .exact .inr ((X.2 y).2 C)
  rw[A7]at h;cases h
 rintro⟨out,rest⟩ u
 cases rest with
 |nil=>
  show Wp (some _) _;refine(bf _).2 ((bf _).2 ⟨out,rfl,u,λy C=>⟨u.snd y C,λD=>?_⟩⟩)
  have key:∀w,Way t y w->w=x\/Vd t w/\qq out w=true->qq out y=true:=λw D=>by induction D with|single h=>exactλD=>(u.cls _ D _ h).elim id λh=>by cases h|tail ae L ih=>exactλD=>ih (.inr ⟨L.1,(u.cls _ D _ L).elim id λh=>by cases h⟩)
  exact key x D (.inl rfl)
 |cons y rest=>
  have G:=u.que y (mem_cons_self ..);have I:=G.l;obtain⟨p,k,e,Z,rfl,O⟩:=I.at_;have⟨P,S,j⟩:=Z;have o:=(ζe.1 j).1;have⟨row,b,l⟩:=u.shp p P S;have B:k+1<row.length:=Za
  show Wp (nT _ (out,⟨p,k+1⟩::rest)) _;unfold nT;have e2:((k:Int)+1).toNat=k+1:=Za
  dsimp only;rw[if_pos ⟨Za,Za⟩,show((p:Nat):Int).toNat=p from rfl,e2,b,ζb,ζd B,ζb,bP]
  have T:qq out ⟨p,k+1⟩=row[k+1]:=by unfold qq;rw[show((⟨(p:Int),(k:Int)+1⟩:a_).proc).toNat=p from rfl,b];dsimp only;rw[e2,ζd B];rfl
  constructor
  .intro c;rw[bf];refine⟨⟨u.shp,u.len,λy C=>u.que y (mem_cons_of_mem _ C),u.snd,λz a y C=>?_,by have:=u.le;simp only[length_cons]at this;show rest.length<=2*cnt t out+2;omega⟩,Nat.add_lt_add_left (Nat.lt_succ_self _) _⟩
   rcases u.cls z a y C with h|h
   .exact .inl h
   rcases mem_cons.1 h with rfl|h
   .exact .inl (by rw[T];exact c)
   exact .inr h
  intro c;rw[dU];refine(Bh Y g J I).mono λmore d=>?_
  have m:=u.le;simp only[length_cons]at m;have v:cnt t out<=(bQ t).length:=List.countP_le_length;have A:=d.1;have E:cnt t out<cnt t (out.set p (row.set (k+1) true)):=zR (λz a h=>by rw[zl b B ⟨_,a⟩,h,Bool.or_true]) ⟨_,O,by rw[T,c],by rw[zl b B I];simp⟩
  have F:cnt t (out.set p (row.set (k+1) true))<=(bQ t).length:=List.countP_le_length;rw[if_pos Za,bf]
  refine⟨⟨λq Q f=>?_,by show(out.set _ _).length=_;rw[length_set];exact u.len,λz a=>?_,λz a h=>?_,λz a y C=>?_,by show(rest++more.l).length<=_;rw[ζi];show _<=2*cnt t (out.set p (row.set (k+1) true))+2;omega⟩,?_⟩
  .show ∃r,(out.set p (row.set (k+1) true))[q]?=some r/\_;rw[getElem?_set];split
   next e=>subst e;rw[if_pos (ζe.1 b).1];rw[S]at f;cases f;exact⟨_,rfl,by simp[l]⟩
   exact u.shp q Q f
  .rcases mem_append.1 a with a|a
   .exact u.que z (mem_cons_of_mem _ a)
   exact .trans (.single ((d.2 z).1 a)) G
  .show Way t z x;have h:qq (out.set p (row.set (k+1) true)) z=true:=h;rw[zl b B a]at h;simp only[or_eq_true,decide_eq_true_eq]at h;rcases h with rfl|h
   .exact G
   exact u.snd z a h
  .show qq (out.set p (row.set (k+1) true)) y=true\/y∈rest++more.l;rw[zl b B C.1];have U:z=x\/Vd t z/\qq out z=true->(decide (y=⟨p,k+1⟩)||qq out y)=true\/y∈rest++more.l:=λa=>by
    rcases u.cls z a y C with h|h
    .exact .inl (by rw[show qq out y=true from h,Bool.or_true])
    rcases mem_cons.1 h with rfl|h
    .exact .inl Zc
    exact .inr (mem_append_left _ h)
   rcases a with a|⟨W,a⟩
   .exact U (.inl a)
   have a:qq (out.set p (row.set (k+1) true)) z=true:=a;rw[zl b B W]at a;simp only[or_eq_true,decide_eq_true_eq]at a;rcases a with rfl|a
   .exact .inr (List.mem_append_right _ ((d.2 y).2 C))
   exact U (.inr ⟨W,a⟩)
  show 2*((bQ t).length-cnt t (out.set p (row.set (k+1) true)))+(rest++more.l).length<2*((bQ t).length-cnt t out)+(_::rest).length;rw[ζi,length_cons];omega
theorem U9{t:Zj}(G:Small t)(d:(bQ t).length<1073741824)(f:∀x∈bQ t,kJ t.procs.l.length x.1.proc x.2)(J:xo t):Wp (cU.W6 0 t ⟨0,0⟩) λr=>(r.2=0↔¬I6 t):=by
 have v:=G.1;unfold cU.W6;refine eX (λi:Int=>∃n:Nat,i=n/\n<=t.procs.l.length/\∀(p k:Nat)e,p<n->jw t p k e->¬Way t ⟨p,k+1⟩ ⟨p,k+1⟩) (λi:Int=>t.procs.l.length-i.toNat) ⟨0,rfl,zero_le _,λp k e U=>absurd U Za⟩ ?_;rintro i ⟨n,rfl,Z,W⟩;unfold cU.IN;rw[bP];constructor;intro h;have w:n<t.procs.l.length:=by simpa[len]using h
 have I:=bB w;have z:=ζd w;have y:=(G.2 _ (getElem_mem w)).1;generalize t.procs.l[n]=P at *;unfold cU.W7;refine eX (λi:Int=>∃m:Nat,i=m/\m<=P.events.l.length/\∀k,k<m->¬Way t ⟨n,k+1⟩ ⟨n,k+1⟩) (λi:Int=>P.events.l.length-i.toNat) ⟨0,rfl,zero_le _,λk a=>absurd a Za⟩ ?_;rintro i ⟨m,rfl,A,a⟩;unfold cU.Jw;rw[I,ζb,bP];constructor;intro h;have L:m<P.events.l.length:=by simpa[len]using h
 have O:=ct m Za;have b:Vd t ⟨n,m+1⟩:=⟨P.events.l[m],eu.2 ⟨n,m,⟨P,z,ζd L⟩,rfl⟩⟩;rw[O,show(((m+1:Nat)):Int)=(m:Int)+1 from Zc,dU];refine(Sg G d f J b).mono ?_;rintro s ⟨out,rfl,g,B⟩;have⟨row,c,E⟩:=g.shp n P z;have S:out≠[]:=by rintro rfl;cases c
 have C:m+1<row.length:=Za;have j:idx (nested out) (n:Int)=some (.row row):=by unfold nested;rw[if_neg S,mX];show(out.map Sl.row)[n]?=_;rw[getElem?_map,c];rfl
 have l:idx (Sl.row row) ((m:Int)+1)=some row[m+1]:=by rw[show(m:Int)+1=((m+1:Nat):Int)from Zc];exact bB (s:=Sl.row row) C
 rw[j,ζb,l,ζb,bP];have o:row[m+1]=qq out ⟨n,m+1⟩:=by unfold qq;rw[show((⟨(n:Int),(m:Int)+1⟩:a_).proc).toNat=n from rfl,c];dsimp only;rw[show((m:Int)+1).toNat=m+1 from Za,ζd C];rfl
 rw[o];refine⟨λD=>(bf _).2 ((bf _).2 ((bf _).2 ⟨λh=>(by cases h),λh=>absurd ⟨_,(B _ b).1 D⟩ h⟩)),λD=>(bf _).2 ⟨⟨m+1,Zc,Za,λk F=>?_⟩,by simp;omega⟩⟩;by_cases e:k=m;subst e;exactλO=>by rw[(B _ b).2 O]at D;cases D
 exact a k Za;intro h;have T:P.events.l.length<=m:=by simpa[len]using h
 refine(bf _).2 ((bf _).2 ⟨⟨n+1,ct n Za,Za,λp k e U u=>?_⟩,by rw[ct n Za];simp;omega⟩);by_cases e:p=n;subst e;have⟨Q,X,q⟩:=u;rw[z]at X;cases X;have:=(ζe.1 q).1;exact a k Za;exact W p k _ Za u;intro h;have T:t.procs.l.length<=n:=by simpa[len]using h
 refine(bf _).2 ((bf _).2 ⟨λ_⟨x,Y⟩=>?_,λ_=>rfl⟩);obtain⟨p,k,e,u,rfl,_⟩:=Y.l.at_;have⟨P,J,_⟩:=id u;exact W p k e (by have:=(ζe.1 J).1;omega) u Y
theorem Gm{t:Zj}(B:∀x∈bQ t,kJ t.procs.l.length x.1.proc x.2):(∀(p k:Nat)e,jw t p k e->uX t (⟨p,k+1⟩,e)=0)↔xo t:=Iff.trans ⟨λh x w=>by have⟨p,k,b,u⟩:=eu.1 w;have⟨a,e⟩:=x;simp only at b u;rw[u];exact h p k e b,λh p k e z=>h _ (eu.2 ⟨p,k,z,rfl⟩)⟩ (KO B)
theorem LQ{t:Zj}(J:Small t)(s:(bQ t).length<1073741824):Wp (cU t) λr=>(r.2=0↔Ok t):=by
 have E:=J.1;unfold cU;rw[iF,ζb,bP];refine⟨λS=>(bf _).2 ⟨λh=>(by cases h),λh=>?_⟩,λS=>?_⟩;have F:=h.one;have f:=h.few;simp only[or_eq_true,decide_eq_true_eq,len]at S;omega;have f:1<=t.procs.l.length/\t.procs.l.length<=8:=by simp only[Bool.or_eq_false_iff,decide_eq_false_iff_not,len]at S;omega
 unfold cU.W1;refine eX (λi:Int=>∃n:Nat,i=n/\n<=t.procs.l.length/\∀p,p<n->rI t p=0) (λi:Int=>t.procs.l.length-i.toNat) ⟨0,rfl,zero_le _,λp G=>absurd G Za⟩ ?_;rintro i ⟨n,rfl,H,l⟩;unfold cU.bn;rw[bP];constructor;intro h;have w:n<t.procs.l.length:=by simpa[len]using h
 rw[OR J w,ζb,bP];refine⟨λa=>(bf _).2 ⟨⟨n+1,ct n Za,Za,λp G=>?_⟩,by rw[ct n Za];simp;omega⟩,λa=>(bf _).2 ((bf _).2 ⟨λh=>?_,λh=>?_⟩)⟩;by_cases e:p=n;subst e;simpa using a;exact l p Za;simp only at h;simp[h]at a;simp[h.heads n w]at a;intro h;have K:t.procs.l.length<=n:=by simpa[len]using h
 rw[bf];unfold cU.W2;refine eX (λi:Int=>∃n:Nat,i=n/\n<=t.procs.l.length/\∀(p k:Nat)P e,p<n->t.procs.l[p]?=some P->P.events.l[k]?=some e->oV t.procs.l.length P p k e=0) (λi:Int=>t.procs.l.length-i.toNat) ⟨0,rfl,zero_le _,λp k P e G=>absurd G Za⟩ ?_;rintro i ⟨I,rfl,M,X⟩;unfold cU.bS;rw[bP];constructor;intro h;have w:I<t.procs.l.length:=by simpa[len]using h
 have D:=bB w;have B:=ζd w;have T:=(J.2 _ (getElem_mem w)).1;generalize t.procs.l[I]=P at D B T;unfold cU.W3;refine eX (λi:Int=>∃m:Nat,i=m/\m<=P.events.l.length/\∀(k:Nat)e,k<m->P.events.l[k]?=some e->oV t.procs.l.length P I k e=0) (λi:Int=>P.events.l.length-i.toNat) ⟨0,rfl,zero_le _,λk e c=>absurd c Za⟩ ?_;rintro i ⟨m,rfl,v,c⟩;unfold cU.dN;rw[D,ζb,bP];constructor;intro h;have U:m<P.events.l.length:=by simpa[len]using h
 have C:=ζd U;have d:=ct m Za;rw[OM J B C,ζb,bP];refine⟨λa=>(bf _).2 ⟨⟨m+1,d,Za,λk e x u=>?_⟩,by rw[d];simp;omega⟩,λa=>(bf _).2 ((bf _).2 ((bf _).2 ⟨λh=>?_,λh=>?_⟩))⟩;by_cases g:k=m;subst g;rw[C]at u;cases u;simpa using a;exact c k e Za u;simp only at h;simp[h]at a;simp[h.fH I m P _ B C]at a;intro h;have L:P.events.l.length<=m:=by simpa[len]using h
 refine(bf _).2 ((bf _).2 ⟨⟨I+1,ct I Za,Za,λp k Q e G W u=>?_⟩,by rw[ct I Za];simp;omega⟩);by_cases j:p=I;subst j;rw[B]at W;cases W;exact c k e (by have:=(ζe.1 u).1;omega) u;exact X p k Q e Za W u;intro h;have L:t.procs.l.length<=I:=by simpa[len]using h
 have X:∀(p k:Nat)P e,t.procs.l[p]?=some P->P.events.l[k]?=some e->oV t.procs.l.length P p k e=0:=λp k P e O c=>X p k P e (by have:=(ζe.1 O).1;omega) O c;have Y:=Eu X;rw[bf];unfold cU.W4;refine eX (λi:Int=>∃n:Nat,i=n/\n<=t.procs.l.length/\∀(p k:Nat)e,p<n->jw t p k e->uX t (⟨p,k+1⟩,e)=0) (λi:Int=>t.procs.l.length-i.toNat) ⟨0,rfl,zero_le _,λp k e G=>absurd G Za⟩ ?_;rintro i ⟨q,rfl,N,Z⟩;unfold cU.u9;rw[bP];constructor;intro h;have w:q<t.procs.l.length:=by simpa[len]using h
 have D:=bB w;have B:=ζd w;have T:=(J.2 _ (getElem_mem w)).1;generalize t.procs.l[q]=P at D B T;unfold cU.W5;refine eX (λi:Int=>∃m:Nat,i=m/\m<=P.events.l.length/\∀(k:Nat)e,k<m->P.events.l[k]?=some e->uX t (⟨q,k+1⟩,e)=0) (λi:Int=>P.events.l.length-i.toNat) ⟨0,rfl,zero_le _,λk e c=>absurd c Za⟩ ?_;rintro i ⟨m,rfl,v,c⟩;unfold cU.qf;rw[D,ζb,bP];constructor;intro h;have U:m<P.events.l.length:=by simpa[len]using h
 have C:=ζd U;have d:=ct m Za;have z:jw t q m P.events.l[m]:=⟨P,B,C⟩;rw[d,show(((m+1:Nat)):Int)=(m:Int)+1 from Zc,MH J z (Y (⟨q,m+1⟩,P.events.l[m]) (eu.2 ⟨q,m,z,rfl⟩)),ζb,bP];refine⟨λa=>(bf _).2 ⟨⟨m+1,Zc,Za,λk e x u=>?_⟩,by simp;omega⟩,λa=>(bf _).2 ((bf _).2 ((bf _).2 ⟨λh=>?_,λh=>?_⟩))⟩;by_cases g:k=m;subst g;rw[C]at u;cases u;simpa using a;exact c k e Za u;simp only at h;simp[h]at a;simp[(Gm Y).2 h.Nb q m _ z]at a;intro h;have L:P.events.l.length<=m:=by simpa[len]using h
 refine(bf _).2 ((bf _).2 ⟨⟨q+1,ct q Za,Za,λp k e G z=>?_⟩,by rw[ct q Za];simp;omega⟩);by_cases j:p=q;subst j;have⟨Q,W,u⟩:=z;rw[B]at W;cases W;exact c k e (by have:=(ζe.1 u).1;omega) u;exact Z p k e Za z;intro h;have R:t.procs.l.length<=q:=by simpa[len]using h
 have O:xo t:=(Gm Y).1 λp k e z=>Z p k e (by have⟨P,O,_⟩:=z;have:=(ζe.1 O).1;omega) z;have o:¬I6 t↔Ok t:=⟨λh=>⟨f.1,f.2,λp G=>l p Za,X,O,h⟩,λh=>h.acyc⟩;rw[bf,dU];refine(Kr J Y O).mono λb y=>?_;rw[bP];exact⟨λh=>(bf _).2 ⟨λ_=>o.1 (y h),λ_=>rfl⟩,λ_=>(U9 J s Y O).mono λr A=>A.trans o⟩
theorem M3{t:Zj}(B:Small t)(G:(bQ t).length<1073741824):∃b,dV t=some b/\kE t=some b/\(b=true->VT t):=by obtain⟨b,u,a,w⟩:=OU B G;refine⟨b,u,?_,a⟩;unfold kE;obtain⟨r,c,z⟩:=LQ B G;rw[c,ζb];congr 1;rw[Bool.eq_iff_iff,beq_iff_eq,z];exact⟨w,λh=>(a h).ok⟩
theorem HW{t:Zj}(Y:Small t){c:Zg}(G:c.l.length=t.procs.l.length){step:Int->aZ (Fw Int Unit Unit)}
 (d:∀i,step i=bp (decide (i<(len c))) ((idx c i).bind λJ=>(bp (decide (J<0)) (some true) ((idx c i).bind λO=>(idx t.procs i).bind λU=>some (decide (O>(len U.events)))):aZ Zl).bind λW=>bp W (some (.r ())) (some (.n (wrap .i64 (i+1))))) (some (.x ()))):
 Wp ((bM step 0).bind (Fw.elim (λ_=>some true) (λ_=>some false))) λb=>(b=true↔nS t c.l):=by
 have f:=Y.1;refine eX (λs:Int=>∃n:Nat,s=n/\n<=c.l.length/\∀(p:Nat)(a:Int)(P:cg),p<n->c.l[p]?=some a->t.procs.l[p]?=some P->0<=a/\a<=P.events.l.length) (λs:Int=>c.l.length-s.toNat) ⟨0,rfl,zero_le _,λp a P h=>absurd h Za⟩ ?_
 rintro s ⟨n,rfl,S,D⟩;rw[d,bP];constructor
 .intro h;have w:n<c.l.length:=by simpa[len]using h
  have u:n<t.procs.l.length:=Za
  have I:=ct n Za
  rw[bB w,ζb,ζb,bB u,ζb,iF,ζb,bP];constructor
  .intro z;have z:c.l[n]<0\/c.l[n]>t.procs.l[n].events.l.length:=by simpa[len]using z
   refine(bf _).2 ((bf _).2 ⟨λh=>(by cases h),λL=>?_⟩)
   have:=L.2 n _ _ (ζd w) (ζd u);omega
  intro z;have z:0<=c.l[n]/\c.l[n]<=t.procs.l[n].events.l.length:=by simpa[len]using z
  refine(bf _).2 ⟨⟨n+1,I,Za,λp a P T B C=>?_⟩,by rw[I];simp;omega⟩
  by_cases e:p=n
  .subst e;rw[ζd w]at B;cases B;rw[ζd u]at C;cases C;exact z
  exact D p a P Za B C
 intro h;have Q:c.l.length<=n:=by simpa[len]using h
 refine(bf _).2 ((bf _).2 ⟨λ_=>⟨G,λp a P B C=>D p a P (by have:=(ζe.1 B).1;omega) B C⟩,λ_=>rfl⟩)
theorem Su{t:Zj}(G:Small t){c:Zg}(B:c.l.length=t.procs.l.length):Wp (mN t c) λb=>(b=true↔nS t c.l):=by unfold mN;rw[show(len c==len t.procs)=true from by simp[len,B],bO];exact HW G B λi=>rfl
theorem zI{t:Zj}(G:VT t){A:bU 200 bt}(J:eR t (bQ t) A){p k:Nat}{e:Zn}(B:jw t p k e)(a:e.kind=3):mz t 2 e.message=(ag A e.message).from_:=by have⟨y,b,u,w⟩:=Af G.formed G.ok.Nb (eu.2 ⟨p,k,B,rfl⟩:((⟨p,k+1⟩:a_),e)∈bQ t) a;have:=J.snd _ b u;simp only[w]at this;exact this.symm
theorem eO{σ ε ρ γ:Type}{step:σ->aZ (Fw σ ε ρ)}{B:ε->aZ γ}{fr:ρ->aZ γ}{P:γ->Prop}(n:Nat)(I:Nat->σ->Prop){s:σ}(c:I 0 s)
 (h:∀i s,i<n->I i s->Wp (step s) λw=>match w with|.n G=>I (i+1) G|.x e=>Wp (B e) P|.r b=>Wp (fr b) P)
 (J:∀s,I n s->Wp (step s) λw=>match w with|.n _=>False|.x e=>Wp (B e) P|.r b=>Wp (fr b) P):Wp ((bM step s).bind (Fw.elim B fr)) P:=by
 have key:∀m i s,i+m=n->I i s->Wp ((bM step s).bind (Fw.elim B fr)) P:=by
  intro m
  induction m with
  |zero=>intro i s C z;have⟨w,u,a⟩:=J s Zd;rw[iZ,u];cases w with|n G=>grind|x e=>exact a|r b=>exact a
  |succ m D=>intro i s C z;have⟨w,u,a⟩:=h i s Za z;rw[iZ,u];cases w with|n G=>grind|x e=>exact a|r b=>exact a
 exact key n 0 s (Nat.zero_add n) c
def bump(c:Zx)(p:Nat)(d:Int):Zx:=c.set p ((c[p]?).getD 0+d)
theorem vG:∀{c:Zx}{p:Nat}{a b:Int},c[p]?=some a->(c.set p b).sum=c.sum-a+b
 |[],_,_,_,h=>Ze|x::c,0,a,b,h=>Zd|x::c,p+1,a,b,h=>by have:=vG (b:=b) (by simpa using h);grind
theorem qo:∀{c:Zx},(∀(p:Nat)a,c[p]?=some a->0<=a)->0<=c.sum
 |[],_=>Zc|x::c,h=>by have b:=h 0 x rfl;have u:=qo (c:=c) λp a w=>h (p+1) a Zd;grind
theorem GB:∀{c:Zx},(∀(p:Nat)a,c[p]?=some a->0<=a)->c.sum=0->∀(p:Nat)a,c[p]?=some a->a=0
 |[],_,_,p,a,B=>Ze|x::c,h,G,p,a,B=>by have b:=h 0 x rfl;have hc:∀(p:Nat)a,c[p]?=some a->0<=a:=λp a B=>h (p+1) a Zd;have u:=qo hc;simp at G;cases p with|zero=>grind|succ p=>exact GB hc Za p a Zd
theorem Jq:∀{c:Zx}{l:Zv},c.length=l.length->(∀(i:Nat)a b,c[i]?=some a->l[i]?=some b->a<=(b:Nat))->c.sum<=(l.sum:Nat)
 |[],[],_,_=>Zc|x::c,y::l,B,h=>by have d:=h 0 x y rfl rfl;have u:=Jq (c:=c) (l:=l) Zd λi a b w z=>h (i+1) a b Zd Zd;grind
section
variable{t:Zj}{A:bU 200 bt}{c:Zx}
theorem nS.pos(h:nS t c)(p:Nat)(a:Int)(B:c[p]?=some a):0<=a:=(h.2 p a _ B (ζd (by have:=(ζe.1 B).1;rw[<-h.1];simp_all))).1
theorem nS.at_(h:nS t c){p:Nat}(B:p<t.procs.l.length):∃a,c[p]?=some a:=⟨_,ζd (by rw[h.1];omega)⟩
theorem nS.sum(h:nS t c):0<=c.sum/\c.sum<=(mc t:Nat):=
 ⟨qo h.pos,Jq (by simp[h.1]) λi a b z u=>by
  cases w:t.procs.l[i]?with
  |none=>grind|some P=>simp[w]at u;rw[<-u];exact(h.2 i a P z w).2⟩
theorem nS.set(h:nS t c){p:Nat}{b:Int}{P:cg}(B:t.procs.l[p]?=some P)(d:0<=b)(e:b<=P.events.l.length):nS t (c.set p b):=by refine⟨by simp[h.1],λq a Q u w=>?_⟩;rw[getElem?_set]at u;split at u;grind;exact h.2 q a Q u w
def GN(t:Zj)(A:bU 200 bt)(c:Zx)(p:Nat):Prop:=∃P e a,t.procs.l[p]?=some P/\c[p]?=some a/\P.events.l[a.toNat]?=some e/\(e.kind=3->∃b,c[(ag A e.message).from_.proc.toNat]?=some b/\(ag A e.message).from_.index<=b)
theorem jw.one{p k:Nat}{e f:Zn}(h:jw t p k e)(g:jw t p k f):e=f:=by have⟨P,a1,u⟩:=h;have⟨Q,w,z⟩:=g;grind
theorem kP.le(h:kP t A c){p:Nat}{a b:Int}(G:c[p]?=some a)(J:a<=b)(O:∀(k:Nat)e,jw t p k e->a<=k->(k:Int)<b->e.kind=3->∃B,(c.set p b)[(ag A e.message).from_.proc.toNat]?=some B/\(ag A e.message).from_.index<=B):kP t A (c.set p b):=by
 have L:=(ζe.1 G).1;have up:∀(q:Nat)x,c[q]?=some x->∃y,(c.set p b)[q]?=some y/\x<=y:=λq x u=>by rw[getElem?_set];grind
 intro q k e x w u d I;rw[getElem?_set]at u;have C:∀x,c[q]?=some x->k<x->∃B,(c.set p b)[(ag A e.message).from_.proc.toNat]?=some B/\(ag A e.message).from_.index<=B:=λx u d=>by have⟨y,Q,S⟩:=h q k e x w u d I;have⟨z,T,U⟩:=up _ y Q;exact⟨z,T,Za⟩
 split at u;rename_i W;subst W;simp[L]at u;subst u;by_cases D:k<a;exact C a G D;exact O k e w Za d I;grind
theorem tE(G:VT t)(O:eR t (bQ t) A){p k:Nat}{e:Zn}(B:jw t p k e)(J:e.kind=3):∃q j:Nat,(ag A e.message).from_=⟨q,j+1⟩/\q≠p/\Gw t ⟨q,j+1⟩ ⟨p,k+1⟩/\∃y,jw t q j y:=by have⟨q,j,y,u,z,C,y3,y4,y5⟩:=vk G O B J;have w:(⟨p,k+1⟩,e)∈bQ t:=eu.2 ⟨p,k,B,rfl⟩;refine⟨q,j,y5,?_,⟨y,e,eu.2 ⟨q,j,u,rfl⟩,w,z,J,C⟩,y,u⟩;rcases G.formed _ w with h|⟨_,_,_,h,_⟩;grind;grind
theorem Cons.up(O:VT t)(U:eR t (bQ t) A)(J:Cons t A c){p:Nat}{a:Int}{P:cg}(B:t.procs.l[p]?=some P)(G:c[p]?=some a)(Y:a<P.events.l.length):GN t A c p↔Cons t A (c.set p (a+1)):=by have d:=J.1.pos p a G;have Z:=(ζe.1 G).1;constructor;rintro⟨Q,e,x,D,I,S,w⟩;rw[B]at D;cases D;rw[G]at I;cases I;refine⟨J.1.set B Za Za,J.2.le G Za λk f z T W g=>?_⟩;have C:k=a.toNat:=Za;subst C;cases z.one ⟨P,B,S⟩;grind;intro h;have u:a.toNat<P.events.l.length:=Za;refine⟨P,P.events.l[a.toNat],a,B,G,ζd u,λw=>?_⟩;have⟨b,L,X⟩:=h.2 p a.toNat _ (a+1) ⟨P,B,ζd u⟩ Ze Za w;rw[getElem?_set]at L;split at L;have⟨q,j,i,l,_⟩:=tE O U ⟨P,B,ζd u⟩ w;grind;grind
noncomputable def HA (t:Trace) (x:a_):Nat:=by
 classical
 exact(bQ t).countP λz=>decide (Way t z.1 x)
theorem Jy (B:VT t) {x y:a_} (h:Way t x y):HA t x<HA t y:=by
 classical
 refine zR (λz _ u=>?_) ?_
 .have u:Way t z.1 x:=by grind
  simpa using u.trans h
 obtain⟨e,w⟩:=h.l;exact⟨(x,e),w,by simpa using λk=>B.ok.acyc ⟨x,k⟩,by grind⟩
theorem R6 (x:a_):HA t x<=(bQ t).length:=by
 classical
 unfold HA;grind
theorem Vd.of{p k:Nat}{e:Zn}(h:jw t p k e):Vd t ⟨p,k+1⟩:=⟨e,eu.2 ⟨p,k,h,rfl⟩⟩
theorem HJ{p:Nat}{P:cg}(B:t.procs.l[p]?=some P):∀(d k:Nat),k+d+1<P.events.l.length->Way t ⟨p,k+1⟩ ⟨p,((k+d+1:Nat):Int)+1⟩
 |0,k,h=>.single ⟨Vd.of ⟨P,B,ζd Za⟩,Vd.of ⟨P,B,ζd h⟩,.inl Zc⟩|d+1,k,h=>(HJ B d k Za).tail ⟨Vd.of ⟨P,B,ζd (show k+d+1<_ by omega)⟩,Vd.of ⟨P,B,ζd h⟩,.inl (by simp;omega)⟩
theorem UO{q k:Nat}{b:Int}{Q:cg}{x:a_}(B:t.procs.l[q]?=some Q)(h:Way t x ⟨q,k+1⟩)(a:(k:Int)<b)(G:b<=Q.events.l.length):Way t x ⟨q,b⟩:=by by_cases e:b=k+1;grind;have:=HJ B (b.toNat-k-2) k Za;rw[show((k+(b.toNat-k-2)+1:Nat)+1)=b from Za]at this;exact h.trans this
theorem Cons.IK(d:VT t)(f:eR t (bQ t) A)(B:Cons t A c){p:Nat}{a:Int}(G:c[p]?=some a)(l:0<a):Cons t A (c.set p (a-1))\/∃(q:Nat)(b:Int),c[q]?=some b/\0<b/\Way t ⟨p,a⟩ ⟨q,b⟩:=by
 have Z:=(ζe.1 G).1;have O:=ζd (show p<t.procs.l.length by rw[<-B.1.1];omega);have m:=B.1.2 p a _ G O;refine byContradiction λC=>C (.inl ⟨B.1.set O Za Za,λq k e x u J n S=>?_⟩);obtain⟨z,w,o⟩:∃z,c[q]?=some z/\x<=z:=by rw[getElem?_set]at J;split at J;(next e2=>subst e2;simp[Z]at J;exact⟨a,G,Za⟩);grind
 have⟨y,I,D⟩:=B.2 q k e z u w Za S;have⟨r,j,g,s,h,_⟩:=tE d f u S;rw[g]at I D⊢;simp only[toNat_natCast]at I D⊢;by_cases e2:p=r;subst e2;rw[G]at I;cases I;refine⟨a-1,Ze,?_⟩;refine byContradiction λv=>C (.inr ⟨q,z,w,Za,?_⟩);have:a=j+1:=Za;subst this;have⟨Q,T,_⟩:=u;have L:=B.1.2 q z Q w T;have⟨U,W,X,Y,i⟩:=h;exact UO T (.single ⟨⟨U,X⟩,⟨W,Y⟩,.inr ⟨U,W,X,Y,i⟩⟩) Za L.2;simp_all
theorem Cons.VP(B:VT t)(G:eR t (bQ t) A)(J:Cons t A c):∀(n p:Nat)(a:Int),c[p]?=some a->0<a->(bQ t).length-HA t ⟨p,a⟩<=n->∃(q:Nat)(b:Int),c[q]?=some b/\0<b/\Cons t A (c.set q (b-1)):=by
 intro n
 induction n with
 |zero=>intro p a u d C;rcases J.IK B G u d with h|⟨q,b,_,_,w⟩;grind;have:=Jy B w;have:=R6 (t:=t) ⟨q,b⟩;omega
 |succ n D=>intro p a u d C;rcases J.IK B G u d with h|⟨q,b,I,z,w⟩;grind;have:=Jy B w;exact D q b I z Za
theorem Cons.down(G:VT t)(J:eR t (bQ t) A)(B:Cons t A c)(O:0<c.sum):∃(q:Nat)(b:Int),c[q]?=some b/\0<b/\Cons t A (c.set q (b-1)):=by
 obtain⟨p,a,u,d⟩:∃(p:Nat)(a:Int),c[p]?=some a/\0<a:=by refine byContradiction λw=>?_;have C:∀a∈c,a=0:=λa u=>(by have⟨p,z⟩:=List.mem_iff_getElem?.1 u;have:=B.1.pos p a z;grind);have:c.sum=0:=(by clear B O w;induction c with|nil=>rfl|cons x c D=>simp_all);omega
 exact B.VP G J _ p a u d (le_refl _)
theorem Cons.Es(J:VT t)(O:eR t (bQ t) A):∀(d:Nat){c:Zx}{k:Nat},Cons t A c->c.sum=((k+d:Nat):Int)->∃c',Cons t A c'/\c'.sum=(k:Int)
 |0,c,k,B,U=>⟨c,B,Zd⟩|d+1,c,k,B,U=>by have⟨q,b,W,Y,G⟩:=B.down J O Za;exact Cons.Es J O d G (by rw[vG W];omega)
end
theorem iA{α:Type}{s:Sl α}{n:Nat}(h:n<s.l.length):decide ((n:Int)<len s)=true:=by simp[len];omega
theorem hU{α:Type}{s:Sl α}:decide ((s.l.length:Int)<len s)=false:=by simp[len]
theorem tj{α:Type}{s x:Sl α}(h:s.l.length+x.l.length<=2147483648):∃r,mE s x=some r/\r.l=s.l++x.l:=by unfold mE;by_cases e:x.l=[];rw[if_pos e];exact⟨s,rfl,by rw[e,append_nil]⟩;rw[if_neg e,if_pos h];exact⟨_,rfl,rfl⟩
theorem jx{α:Type}{s:Sl α}{x:α}(h:s.l.length<2147483648):∃r,fP s x=some r/\r.l=s.l++[x]:=by unfold fP;rw[if_pos Za];exact⟨_,rfl,rfl⟩
theorem kZ{α:Type}{s:Sl α}{p:Nat}(h:p<s.l.length):Sl.jc s (p:Int)=some p:=by unfold Sl.jc;rw[if_pos ⟨Za,by simpa using h⟩];rfl
theorem put_eq{α:Type}{s:Sl α}{p:Nat}{x:α}(h:p<s.l.length):∃r,Sl.put s p x=some r/\r.l=s.l.set p x:=by unfold Sl.put;rw[if_pos h];exact⟨_,rfl,by cases s<;>first|rfl|(simp[Sl.l]at h)⟩
section
variable{t:Zj}{A:bU 200 bt}
def W_(t:Zj)(A:bU 200 bt)(c:Zx)(n:Nat):Prop:=∀(p k:Nat)(e:Zn)(a:Int),p<n->jw t p k e->c[p]?=some a->(k:Int)<a->e.kind=3->∃b,c[(ag A e.message).from_.proc.toNat]?=some b/\(ag A e.message).from_.index<=b
theorem Us(g:Small t)(U:VT t)(i:eR t (bQ t) A){c:Zg}(l:nS t c.l):Wp (dK t c) λb=>(b=true↔kP t A c.l):=by
 have F:=l.1;have H:=U.few;unfold dK dK.W1;refine eO c.l.length (λn s=>s=(n:Int)/\W_ t A c.l n) ⟨rfl,λp k e a h=>absurd h Za⟩ ?_ ?_;rintro n _ B ⟨rfl,T⟩;unfold dK.bn;rw[iA B,bO];have z:n<t.procs.l.length:=by omega
 have K:=(g.2 _ (getElem_mem z)).1;have C:=ζd z;have D:=ζd B;have⟨r1,r2⟩:=l.2 n _ _ D C;have J:=bB B;generalize c.l[n]=a at *;generalize t.procs.l[n]=P at *;unfold dK.W2;refine eO a.toNat (λm s=>s=(m:Int)/\∀(k:Nat)(e:Zn),k<m->jw t n k e->e.kind=3->∃b,c.l[(ag A e.message).from_.proc.toNat]?=some b/\(ag A e.message).from_.index<=b) ⟨rfl,λk e h=>absurd h Za⟩ ?_ ?_;rintro m _ M ⟨rfl,W⟩;unfold dK.bS;have L:m<P.events.l.length:=by omega
 have u:jw t n m P.events.l[m]:=⟨P,C,ζd L⟩;rw[J,ζb,show decide ((m:Int)<a)=true from by simp;omega,bO,mX,C,ζb,bB L,ζb,ct m Za];generalize P.events.l[m]=e at *;have more:(e.kind=3->∃b,c.l[(ag A e.message).from_.proc.toNat]?=some b/\(ag A e.message).from_.index<=b)->∀(k:Nat)(e:Zn),k<m+1->jw t n k e->e.kind=3->∃b,c.l[(ag A e.message).from_.proc.toNat]?=some b/\(ag A e.message).from_.index<=b:=λh k f o Z w=>by by_cases r:k=m;subst r;cases u.one Z;exact h w;exact W k f Za Z w
 rw[bP];refine⟨λw=>?_,λw=>(bf _).2 ⟨rfl,more λk=>by simp[k]at w⟩⟩;have w:e.kind=3:=by simpa using w
 have⟨q,j,d,_,_,y,Q,v,_⟩:=tE U i u w;have G:q<c.l.length:=by have:=(ζe.1 v).1;omega
 rw[find_eq g,zI U i u w,ζb,d];simp only;rw[bB G,ζb,bP];refine⟨λX=>(bf _).2 ((bf _).2 ((bf _).2 ⟨λh=>(by cases h),λE=>?_⟩)),λY=>(bf _).2 ⟨rfl,more λ_=>?_⟩⟩;have⟨b,O,S⟩:=E n m e a u D Za w;rw[d]at O S;simp only[toNat_natCast,ζd G,ζa]at O S;simp only[decide_eq_true_eq]at X;omega;rw[d];exact⟨c.l[q],by simp only[toNat_natCast];exact ζd G,by simp at Y⊢;omega⟩;rintro _ ⟨rfl,W⟩;unfold dK.bS;rw[J,ζb,show decide ((a.toNat:Int)<a)=false from by simp;omega,bX];refine(bf _).2 ((bf _).2 ⟨ct n Za,λp k e x N u I o w=>?_⟩);by_cases e2:p=n;subst e2;rw[D]at I;cases I;exact W k e Za u w;exact T p k e x Za u I o w;rintro _ ⟨rfl,T⟩;unfold dK.bn;rw[hU,bX];exact(bf _).2 ((bf _).2 ⟨λ_ p k e a u I=>T p k e a (ζe.1 I).1 u I,λ_=>rfl⟩)
theorem V2(G:Small t)(J:VT t)(O:eR t (bQ t) A){c:Zg}(B:c.l.length=t.procs.l.length):Wp (vV t c) λb=>(b=true↔Cons t A c.l):=by unfold vV;rw[dU];refine(Su G B).mono λb w=>?_;rw[dU,bP];constructor;intro h;have z:=w.1 h;rw[dU];refine(Us G J O z).mono λD u=>?_;rw[bf,bf];exact u.trans ⟨λh=>⟨z,h⟩,λh=>h.2⟩;intro h;rw[bf,bf];exact⟨λh=>(by cases h),λC=>absurd (w.2 C.1) (by simp[h])⟩
theorem step_eq{c:Zg}{p:Nat}{a:Int}(B:c.l[p]?=some a)(G:c.l.length<=1073741824)(b:0<=a)(e:a<1073741824):∃d:Zg,qy c p=some d/\d.l=c.l.set p (a+1):=by have w:=(ζe.1 B).1;unfold qy;have⟨r,z,u⟩:=tj (s:=Sl.row []) (x:=c) (show 0+c.l.length<=_ by omega);have u:r.l=c.l:=u;rw[z,ζb,kZ (by rw[u];exact w),ζb];unfold Sl.get;rw[u,B,ζb,ζb,jB _ Za Za];have⟨d,C,D⟩:=put_eq (s:=r) (p:=p) (x:=a+1) (by rw[u];exact w);rw[C];exact⟨d,rfl,by rw[D,u]⟩
end
def ins(s:Zb):aY Zx:=s.l.map Sl.l
theorem A1{α:Type}(s:Sl α)(i:Nat)(h:i<=s.l.length):∃x,fN s (some (i:Int)) none=some x/\x.l=s.l.drop i:=by unfold fN dR;simp only[Option.getD_some,Option.getD_none];rw[if_pos ⟨Za,Za,Za⟩];exact⟨_,rfl,by cases s<;>simp[Sl.l]⟩
def Bx(t:Zj)(A:bU 200 bt)(c d:Zx):Prop:=∃(p:Nat)(a:Int),c[p]?=some a/\d=c.set p (a+1)/\Cons t A d
section
variable{t:Zj}{A:bU 200 bt}
theorem j8{s:Zb}{d:Zx}:d∈ins s↔∃x∈s.l,x.l=d:=by unfold ins;exact mem_map
theorem Jp{r s:Zb}{x:Zg}(h:r.l=s.l++[x]){d:Zx}:d∈ins r↔d∈ins s\/d=x.l:=by unfold ins;rw[h];simp
theorem RE(U:Small t)(W:VT t)(f:eR t (bQ t) A){c:Zg}(Y:Cons t A c.l):Wp (iT t c) λr=>r.l.length<=8/\∀d,d∈ins r↔Bx t A c.l d:=by
 have J:=Y.1.1;have T:=W.few;unfold iT iT.W1;refine eO c.l.length (λn s=>s.2=(n:Int)/\s.1.l.length<=n/\∀d,d∈ins s.1↔∃(p:Nat)(a:Int),p<n/\c.l[p]?=some a/\d=c.l.set p (a+1)/\Cons t A d) ⟨rfl,le_refl _,λd=>⟨λh=>by simp[ins,Sl.l]at h,λ⟨p,a,h,_⟩=>absurd h Za⟩⟩ ?_ ?_;rintro n ⟨out,_⟩ B ⟨h,u,G⟩;simp only at h u G;subst h;have w:n<t.procs.l.length:=by omega
 have X:=(U.2 _ (getElem_mem w)).1;have z:=ζd B;have g:=Y.1.2 n _ _ z (ζd w);unfold iT.bn;rw[iA B,bO,bB B,ζb,bB w,ζb,ct n Za];generalize c.l[n]=a at *;have keep:¬Cons t A (c.l.set n (a+1))->∀d,d∈ins out↔∃(p:Nat)(a:Int),p<n+1/\c.l[p]?=some a/\d=c.l.set p (a+1)/\Cons t A d:=λL d=>by rw[G];refine⟨λ⟨p,b,h,k⟩=>⟨p,b,Za,k⟩,λ⟨p,b,h,k1,k2,k3⟩=>⟨p,b,?_,k1,k2,k3⟩⟩;refine byContradiction λj=>L ?_;have:p=n:=Za;subst this;rw[z]at k1;cases k1;rw[<-k2];exact k3
 by_cases C:a<t.procs.l[n].events.l.length;have⟨d,Z,D⟩:=step_eq (c:=c) z Za g.1 Za;rw[show decide (a<(len t.procs.l[n].events))=true from by simpa[len]using C,bO,Z,ζb,dU,dU];refine(V2 U W f (c:=d) (by rw[D,length_set];exact J)).mono λb O=>?_;rw[D]at O;rw[bf,bP];constructor;intro i;have⟨r,Q,I⟩:=jx (s:=out) (x:=d) Za;rw[ζb,Q,ζb,bf];refine⟨rfl,by rw[I];simp;omega,λe=>?_⟩;rw[Jp I,G,D];constructor;rintro(⟨p,b,h,k⟩|h);exact⟨p,b,Za,k⟩;exact⟨n,a,Za,z,h,by rw[h];exact O.1 i⟩;rintro⟨p,b,h,k1,k2,k3⟩;by_cases e2:p=n;subst e2;rw[z]at k1;cases k1;exact .inr k2;exact .inl ⟨p,b,Za,k1,k2,k3⟩;intro S;exact(bf _).2 ⟨rfl,Nat.le_succ_of_le u,keep λh=>by rw[O.2 h]at S;cases S⟩;rw[show decide (a<(len t.procs.l[n].events))=false from by simpa[len]using C,bX,ζb,bX,bf];refine⟨rfl,Nat.le_succ_of_le u,keep λh=>?_⟩;have:=h.1.2 n (a+1) _ (by simp[getElem?_set,B]) (ζd w);omega;rintro⟨out,_⟩ ⟨h,u,G⟩;simp only at h u G;subst h;unfold iT.bn;rw[hU,bX,bf];refine(bf _).2 ⟨show out.l.length<=8 by omega,λd=>(G d).trans ⟨λ⟨p,a,_,h⟩=>⟨p,a,h⟩,λ⟨p,a,h⟩=>⟨p,a,(ζe.1 h.1).1,h⟩⟩⟩
def yE(t:Zj)(A:bU 200 bt)(k:Nat)(s:Zb):Prop:=∀d,d∈ins s↔Cons t A d/\d.sum=(k:Int)
theorem Bx.iff(G:VT t)(J:eR t (bQ t) A){k:Nat}{d:Zx}:(∃c,(Cons t A c/\c.sum=(k:Int))/\Bx t A c d)↔Cons t A d/\d.sum=((k+1:Nat):Int):=by
 constructor;rintro⟨c,⟨z,C⟩,p,a,D,rfl,u⟩;exact⟨u,by rw[vG D];omega⟩;rintro⟨u,C⟩;have⟨q,b,w,I,z⟩:=u.down G J Za;have B:=(ζe.1 w).1;refine⟨_,⟨z,by rw[vG w];omega⟩,q,b-1,by simp[B],?_,u⟩;rw[List.set_set,show b-1+1=b from Za];refine ext_getElem? λi=>?_;rw[getElem?_set];split;next e=>subst e;simp[B,w];exact(ζe.1 w).2.symm▸rfl
 rfl
theorem vC{s:Zb}{n:Nat}(h:n<s.l.length){d:Zx}:d∈(s.l.take (n+1)).map Sl.l↔d∈(s.l.take n).map Sl.l\/d=s.l[n].l:=by rw[show s.l.take (n+1)=s.l.take n++[s.l[n]]from by rw[take_add_one,ζd h];rfl];simp only[map_append,mem_append,map_cons,map_nil,mem_singleton]
theorem IW:∀n:Nat,(replicate n (0:Int)).sum=0
 |0=>rfl|n+1=>by rw[List.replicate_succ,sum_cons,IW n];rfl
theorem xU:Cons t A (replicate t.procs.l.length 0):=by
 have w:∀(p:Nat)a,(replicate t.procs.l.length (0:Int))[p]?=some a->a=0:=λp a h=>by rw[getElem?_replicate]at h;split at h<;>cases h;rfl
 exact⟨⟨Zc,λp a P u _=>by rw[w p a u];omega⟩,λp k e a _ u b=>by rw[w p a u]at b;omega⟩
theorem O1{z:Zg}(B:z.l=replicate t.procs.l.length 0):yE t A 0 (Sl.row [z]):=by
 intro d;have:d∈ins (Sl.row [z])↔d=replicate t.procs.l.length 0:=by unfold ins;rw[<-B];exact mem_singleton
 rw[this];constructor;rintro rfl;exact⟨xU,by rw[IW];rfl⟩;rintro⟨u,w⟩;refine ext_getElem? λi=>?_;rw[getElem?_replicate,<-u.1.1];split;next C=>have h:=ζd C;rw[h,GB u.1.pos (by simpa using w) i _ h]
 exact getElem?_eq_none Za
theorem yE.none(G:VT t)(J:eR t (bQ t) A){k:Nat}{s:Zb}(h:yE t A k s)(O:s.l.length=0){d:Zx}(B:Cons t A d):d.sum<(k:Int):=by refine byContradiction λu=>?_;have a:=qo B.1.pos;have⟨c,w,z⟩:=Cons.Es G J (d.sum.toNat-k) (k:=k) B Za;have:=(h c).2 ⟨w,z⟩;have⟨x,C,_⟩:=j8.1 this;have:=List.length_pos_of_mem C;omega
theorem yE.last{s:Zb}(h:yE t A (mc t+1) s):s.l.length=0:=by refine byContradiction λu=>?_;have w:=getElem_mem (show 0<s.l.length by omega);have:=(h s.l[0].l).1 (j8.2 ⟨_,w,rfl⟩);have:=this.1.1.sum;omega
theorem Dj{α:Type}(s:Sl α):decide ((len s)>0)= !decide (s.l.length=0):=by by_cases h:s.l.length=0;simp[len,h];simp[h,len];omega
end
def fe:Zx->Zx->Int
 |[],[]=>0|[],_::_=>-1|_::_,[]=>1|x::a,y::b=>if x<y then -1 else if x>y then 1 else fe a b
theorem wj:∀a,fe a a=0
 |[]=>rfl|x::a=>by simp[fe,wj a]
theorem An:∀a b c,fe a b<0->fe b c<0->fe a c<0
 |[],[],_,h,_=>by simp[fe]at h|[],_::_,[],_,h=>by simp[fe]at h|[],_::_,_::_,_,_=>by simp[fe]|_::_,[],_,h,_=>by simp[fe]at h|_::_,_::_,[],_,h=>by simp[fe]at h|x::a,y::b,z::c,h1,B=>by have G:=An a b c;simp only[fe]at h1 B⊢;split at h1;split at B;rw[if_pos Za];omega;split at B;omega;rw[if_pos Za];omega;split at h1;omega;split at B;rw[if_pos Za];omega;split at B;omega;rw[if_neg Za,if_neg Za];exact G h1 B
theorem xw:∀a b,¬fe a b<0->¬fe b a<0->a=b
 |[],[],_,_=>rfl|[],_::_,h,_=>by simp[fe]at h|_::_,[],_,h=>by simp[fe]at h|x::a,y::b,h1,B=>by have G:=xw a b;simp only[fe]at h1 B;split at h1;omega;split at B;omega;rw[G (by first|assumption|(split at h1<;>first|assumption|omega)) (by first|assumption|(split at B<;>first|assumption|omega)),show x=y from Za]
theorem Pt(a b c:Zx)(d:¬fe a b<0)(B:¬fe b c<0):¬fe a c<0:=λh=>by by_cases u:fe b a<0;exact B (An b a c u h);rw[xw a b d u]at h;exact B h
theorem O2{α:Type}{s:Sl α}{p:α->α->Z6}{f:α->Zx}(W:∀x y,x∈s.l->y∈s.l->p x y=some (fe (f x) (f y)))(U:s.l.length<2147483648):∃r,xV s p=some r/\r.l.Perm s.l/\r.l.Pairwise λx y=>¬fe (f y) (f x)<0:=by
 unfold xV;split;next h=>exact⟨s,rfl,List.Perm.refl _,by rw[h];exact Pairwise.nil⟩
 rename_i x l h;rw[if_pos (by rw[h]at U;simp at U;omega)];simp only;have S:∀i j:_root_.Fin (l.length+1),p (x::l)[i.1] (x::l)[j.1]=some (fe (f (x::l)[i.1]) (f (x::l)[j.1])):=λi j=>W _ _ (by rw[h];exact getElem_mem _) (by rw[h];exact getElem_mem _);have C:(oU λi j:_root_.Fin (l.length+1)=>p (x::l)[i.1] (x::l)[j.1])=λi j=>decide (fe (f (x::l)[i.1]) (f (x::l)[j.1])<0):=by funext i j;unfold oU;show decide ((p _ _).getD 0<0)=_;rw[S];rfl
 have D:Au (λi j:_root_.Fin (l.length+1)=>p (x::l)[i.1] (x::l)[j.1])=true:=by have u:∀i j,oU (λi j:_root_.Fin (l.length+1)=>p (x::l)[i.1] (x::l)[j.1]) i j=decide (fe (f (x::l)[i.1]) (f (x::l)[j.1])<0):=λi j=>(by rw[C]);refine all_eq_true.2 λi _=>Bool.and_eq_true_iff.2 ⟨by rw[u,wj];rfl,all_eq_true.2 λj _=>Bool.and_eq_true_iff.2 ⟨by show(p _ _).isSome=true;rw[S];rfl,all_eq_true.2 λk _=>Bool.and_eq_true_iff.2 ⟨?_,?_⟩⟩⟩;have:=An (f (x::l)[i.1]) (f (x::l)[j.1]) (f (x::l)[k.1]);rw[u,u,u];simp only[or_eq_true,not_eq_true',Bool.and_eq_false_iff,decide_eq_true_eq,decide_eq_false_iff_not];omega;have:=Pt (f (x::l)[i.1]) (f (x::l)[j.1]) (f (x::l)[k.1]);rw[u,u,u];simp only[or_eq_true,not_eq_true',decide_eq_true_eq,decide_eq_false_iff_not];omega
 rw[if_pos D];have G:=(p_ D).2;have J:=Sort.pdq_sorts _ G (finRange (l.length+1)).toArray 0 (l.length+1) (Lib.bitLen (l.length+1)) true true (zero_le _) Zc (Or.inl rfl);rw[<-BX]at J;generalize qe l.length _=d at J;have⟨⟨z,_,w⟩,B⟩:=J;have z:d.size=l.length+1:=by simpa using z
 have I:∀y:aY α,(s.re y).l=y:=λy=>by cases s<;>first|rfl|(simp[Sl.l]at h)
 refine⟨_,rfl,?_,?_⟩;rw[I,h];have a:d.extract 0 (l.length+1)=d:=Array.ext (by simp[z]) λi a L=>by simp
 rw[a]at w;have L:((finRange (l.length+1)).toArray.extract 0 (l.length+1)).toList=finRange (l.length+1):=by simp[take_of_length_le]
 rw[L]at w;refine(w.map _).trans ?_;rw[show(finRange (l.length+1)).map (λi=>(x::l)[i.1])=x::l from ?_];exact List.ext_getElem Zc λi a L=>Zc;rw[I,pairwise_map,List.pairwise_iff_getElem];intro i j T O Q;have:=B i j (zero_le _) Q (by simpa[z]using O);rw[C]at this;simp only[Array.length_toList]at T O;simp only[getElem!_pos d i T,getElem!_pos d j O,decide_eq_false_iff_not]at this;simpa using this
def DE(c:Zx):Zx:=c.sum::c
def Cy(c:Zx):Prop:=c.length<=8/\∀x∈c,0<=x/\x<1073741824
theorem Oz{c:Zx}(h:Cy c)(i:Nat):0<=(c.take i).sum/\(c.take i).sum<=8589934592:=by
 have key:∀(l:Zx),(∀x∈l,0<=x/\x<1073741824)->0<=l.sum/\l.sum<=1073741824*(l.length:Int):=by intro l;induction l with|nil=>intro _;simp|cons x l u=>intro h;have a:=h x Zc;have w:=u λy z=>h y (mem_cons_of_mem _ z);simp only[sum_cons,length_cons];omega
 have a:=key (c.take i) λx B=>h.2 x (mem_of_mem_take B);have w:(c.take i).length<=8:=by rw[length_take];have:=h.1;omega
 omega
theorem GA{c:Zx}{i:Nat}(B:i<c.length):(c.take (i+1)).sum=(c.take i).sum+c[i]:=by rw[List.take_succ_eq_append_getElem B,List.sum_append];simp
theorem MY{a b:Zx}{i:Nat}(B:i<a.length)(G:i<b.length):fe (a.drop i) (b.drop i)=if a[i]<b[i]then -1 else if a[i]>b[i]then 1 else fe (a.drop (i+1)) (b.drop (i+1)):=by rw[drop_eq_getElem_cons B,drop_eq_getElem_cons G];rfl
def eC(x y:Zx):Prop:=fe (DE x) (DE y)<0
instance(x y:Zx):Decidable (eC x y):=by unfold eC;exact inferInstance
theorem eC.Hl(x:Zx):¬eC x x:=by unfold eC;rw[wj];omega
theorem eC.tr{x y z:Zx}(h:eC x y)(k:eC y z):eC x z:=An _ _ _ h k
theorem eC.tot{x y:Zx}(h:¬eC x y)(k:¬eC y x):x=y:=by have:=xw _ _ h k;unfold DE at this;exact(List.cons.inj this).2
theorem eC.sum{x y:Zx}(h:x.sum<y.sum):eC x y:=by unfold eC DE;simp[fe,h]
theorem CY:∀{l r:aY Zx},l.Pairwise eC->r.Pairwise eC->(∀x,x∈l↔x∈r)->l=r
 |[],[],_,_,_=>rfl|[],y::r,_,_,h=>by have:=(h y).2 Zc;simp at this|x::l,[],_,_,h=>by have:=(h x).1 Zc;simp at this|x::l,y::r,C,hr,h=>by have e:x=y:=(by rcases mem_cons.1 ((h x).1 Zc)with e|e;exact e;rcases mem_cons.1 ((h y).2 Zc)with k|k;exact k.symm;exact absurd (((pairwise_cons.1 hr).1 x e).tr ((pairwise_cons.1 C).1 y k)) (eC.Hl y));subst e;congr 1;have u:=pairwise_cons.1 C;have w:=pairwise_cons.1 hr;refine CY u.2 w.2 λz=>⟨λB=>?_,λB=>?_⟩;rcases mem_cons.1 ((h z).1 (mem_cons_of_mem _ B))with e|e;exact absurd (e▸u.1 z B) (eC.Hl x);exact e;rcases mem_cons.1 ((h z).2 (mem_cons_of_mem _ B))with e|e;exact absurd (e▸w.1 z B) (eC.Hl x);exact e
theorem AN{t:Zj}{A:bU 200 bt}(G:Small t)(J:VT t){c:Zx}(B:Cons t A c):Cy c:=by
 refine⟨B.1.1▸J.few,λx z=>?_⟩;have⟨p,w,e⟩:=mem_iff_getElem.1 z;have u:p<t.procs.l.length:=by rw[<-B.1.1];exact w
 have:=B.1.2 p x _ (by rw[ζd w,e]) (ζd u);have k:=(G.2 _ (getElem_mem u)).1;omega
theorem eC.GZ{x y:Zx}(h:x.sum=y.sum):eC x y↔fe x y<0:=by unfold eC DE;simp only[fe,if_neg (show¬x.sum<y.sum by omega),if_neg (show¬x.sum>y.sum by omega)]
theorem eC.nodup{L:aY Zx}(h:L.Pairwise eC):L.Nodup:=h.imp λ{x y}(h:eC x y)(e:x=y)=>eC.Hl y (by rw[e]at h;exact h)
theorem Kn{L:aY Zx}{c:Zx}{j:Nat}(h:L.Pairwise eC)(d:∀(i:Nat)x,i<j->L[i]?=some x->eC x c)(G:∀x,L[j]?=some x->eC c x):
 (L.take j++[c]++L.drop j).Pairwise eC/\∀x,x∈L.take j++[c]++L.drop j↔x∈L\/x=c:=by
 have w:∀x∈L.take j,eC x c:=λx a=>by
  have⟨k,b,e⟩:=mem_iff_getElem.1 a;rw[length_take]at b;rw[List.getElem_take]at e;exact d k x Za (by rw[ζd Za,e])
 have u:∀x∈L.drop j,eC c x:=λx a=>by
  have⟨k,b,e⟩:=mem_iff_getElem.1 a;rw[List.length_drop]at b;rw[List.getElem_drop]at e;have B:j<L.length:=Za
  have k0:=G _ (ζd B)
  by_cases e0:k=0
  .subst e0;simp only[Nat.add_zero]at e;rw[<-e];exact k0
  rw[<-e];exact k0.tr (List.pairwise_iff_getElem.1 h j (j+k) B Za Za)
 refine⟨pairwise_append.2 ⟨pairwise_append.2 ⟨h.sublist (List.take_sublist _ _),List.pairwise_singleton _ _,λx a y z=>?_⟩,h.sublist (List.drop_sublist _ _),λx a y z=>?_⟩,λx=>?_⟩
 .rw[mem_singleton.1 z];exact w x a
 .rcases mem_append.1 a with a|a
  .exact(w x a).tr (u y z)
  rw[mem_singleton.1 a];exact u y z
 conv=>rhs;rw[<-List.take_append_drop j L]
 simp only[mem_append,mem_singleton];constructor
 .rintro ((h|h)|h)<;>simp[h]
 rintro((h|h)|h)<;>simp[h]
theorem Pd{α:Type}{s:Sl α}{p:α->α->aZ Zl}{f:α->Zx}(c:∀x y,x∈s.l->y∈s.l->p x y=some (decide (f x=f y)))(m:s.l.length<2147483648)(g:s.l.Pairwise λx y=>¬fe (f y) (f x)<0):
 ∃r,wM s p=some r/\(r.l.map f).Nodup/\(∀d,d∈r.l.map f↔d∈s.l.map f)/\r.l.length<=s.l.length:=by
 have S:∀i,i<s.l.length->0<i->∃(a:i<s.l.length)(O:i-1<s.l.length),sP s.l p i=some (decide (f s.l[i]=f s.l[i-1])):=λi h n=>by refine⟨h,Za,?_⟩;unfold sP;rw[ζd h,ζd (show i-1<s.l.length by omega)];exact c _ _ (getElem_mem _) (getElem_mem _)
 unfold wM;rw[if_pos ⟨Za,all_eq_true.2 λi Q=>by
  by_cases h:i=0
  .subst h;rfl
  have⟨_,_,e⟩:=S i (mem_range.1 Q) Za
  rw[e];simp⟩]
 have B:∀y:aY α,(s.l=[]->y=[])->(s.sq y).l=y:=λy z=>by cases s<;>first|rfl|exact(z rfl).symm
 have T:∀i,i∈kept (λi=>(sP s.l p i).getD false) s.l.length↔i<s.l.length/\(i=0\/(sP s.l p i).getD false=false):=λi=>by unfold kept;simp[List.mem_filter]
 have C:=AH (λi=>(sP s.l p i).getD false) s.l.length
 have U:(kept (λi=>(sP s.l p i).getD false) s.l.length).Pairwise (·<·):=by unfold kept;exact List.pairwise_lt_range.filter _
 generalize kept (λi=>(sP s.l p i).getD false) s.l.length=K at *
 have w:(s.sq (K.filterMap (s.l[·]?))).l=K.filterMap (s.l[·]?):=B _ λh=>by rw[h];simp
 refine⟨_,rfl,?_,λd=>?_,?_⟩
 .rw[w,Nodup,pairwise_map,List.pairwise_filterMap];refine U.imp_of_mem ?_;intro i j Q k o x u y z D;have⟨W,G⟩:=(T j).1 k;have⟨a,O,e⟩:=S j W Za
  rw[e]at G;have X:¬f s.l[j]=f s.l[j-1]:=by rcases G with h|h;omega;simpa using h
  rw[ζd a]at z;cases z;have I:i<s.l.length:=Za
  rw[ζd I]at u;cases u;have J:=List.pairwise_iff_getElem.1 g;have a1:=J (j-1) j O a Za
  refine X (xw _ _ a1 ?_)
  by_cases e2:i=j-1
  .subst e2;rw[<-D,wj];omega
  have Z:=J i (j-1) I O Za
  rw[D]at Z;exact Z
 .rw[w];simp only[mem_map,List.mem_filterMap];constructor
  .rintro⟨x,⟨i,_,u⟩,rfl⟩;exact⟨x,mem_of_getElem? u,rfl⟩
  rintro⟨x,u,rfl⟩;have⟨i,Q⟩:=List.mem_iff_getElem?.1 u;have key:∀(i:Nat)x,s.l[i]?=some x->∃y,(∃j,j∈K/\s.l[j]?=some y)/\f y=f x:=by intro i;induction i with|zero=>intro x u;exact⟨x,⟨0,(T 0).2 ⟨(ζe.1 u).1,.inl rfl⟩,u⟩,rfl⟩|succ i ih=>intro x u;have L:=(ζe.1 u).1;have⟨a,O,e⟩:=S (i+1) L Za;have Y:s.l[i+1]=x:=(ζe.1 u).2;by_cases b:f s.l[i+1]=f s.l[i+1-1];have⟨y,z,l⟩:=ih _ (ζd (show i<s.l.length by omega));exact⟨y,z,by rw[l,<-Y];exact b.symm⟩;exact⟨x,⟨i+1,(T _).2 ⟨L,.inr (by rw[e];simpa using b)⟩,u⟩,rfl⟩
  exact key i x Q
 rw[w];exact le_trans (List.length_filterMap_le ..) C
theorem JF{a b:Zg}(J:a.l.length<1073741824):jv a b=some (fe a.l b.l):=by
 refine Wp.eq ?_;unfold jv eW eW.W1;rw[dU];refine eO a.l.length (λn s=>s=(n:Int)/\n<=b.l.length/\fe (a.l.drop n) (b.l.drop n)=fe a.l b.l) ⟨rfl,zero_le _,rfl⟩ ?_ ?_;rintro n _ w ⟨rfl,C,u⟩;unfold eW.bn;rw[iA w,bO,bB w,ζb];have I:a.l.drop n=a.l[n]::a.l.drop (n+1):=drop_eq_getElem_cons w;by_cases D:n<b.l.length;have G:b.l.drop n=b.l[n]::b.l.drop (n+1):=drop_eq_getElem_cons D;rw[show decide ((n:Int)>=len b)=false from by simp[len];omega,bX,bB D,ζb];rw[I,G]at u;simp only[fe]at u;generalize a.l[n]=x at *;generalize b.l[n]=y at *;have z:o8 x y=some (if x<y then -1 else if x>y then 1 else 0):=by unfold o8 qR;simp only[bne_self_eq_false,ζb,bX,bO];by_cases c:x<y;simp[c,bp];by_cases B:x>y;simp[c,B,bp];simp[c,B,bp]
 rw[z,ζb];by_cases c:x<y;rw[if_pos c]at u⊢;rw[show((-1:Int)==0)=false from rfl,bX,bf];exact(bf _).2 ((bf _).2 u);rw[if_neg c]at u⊢;by_cases B:x>y;rw[if_pos B]at u⊢;rw[show((1:Int)==0)=false from rfl,bX,bf];exact(bf _).2 ((bf _).2 u);rw[if_neg B]at u⊢;rw[show((0:Int)==0)=true from rfl,bO,bf];exact⟨ct n Za,D,u⟩;rw[show decide ((n:Int)>=len b)=true from by simp[len];omega,bO,bf];rw[I,List.drop_eq_nil_of_le (show b.l.length<=n by omega)]at u;exact(bf _).2 ((bf _).2 u);rintro _ ⟨rfl,C,u⟩;unfold eW.bn;rw[hU,bX,bf];rw[List.drop_eq_nil_of_le (le_refl _)]at u;by_cases h:a.l.length<b.l.length;rw[show decide (len a<len b)=true from by simp[len];omega,bO];rw[drop_eq_getElem_cons h]at u;exact(bf _).2 ((bf _).2 u);rw[show decide (len a<len b)=false from by simp[len];omega,bX];rw[List.drop_eq_nil_of_le (show b.l.length<=a.l.length by omega)]at u;exact(bf _).2 ((bf _).2 u)
theorem OS{a b:Zg}(G:a.l.length<1073741824):e9 a b=some (decide (a.l=b.l)):=by
 refine Wp.eq ?_;unfold e9;rw[bP];refine⟨λh=>?_,λh=>(bf _).2 ?_⟩;have h:(a.l.length:Int)=b.l.length:=by simpa[len]using h
 have h:a.l.length=b.l.length:=Za;unfold e9.W1;refine eO a.l.length (λn s=>s=(n:Int)/\∀i,i<n->a.l[i]?=b.l[i]?) ⟨rfl,λi h=>absurd h Za⟩ ?_ ?_;rintro n _ u ⟨rfl,z⟩;unfold e9.bn;have B:n<b.l.length:=by omega
 rw[show decide ((n:Int)<len a)=true from iA u,bO,bB u,ζb,bB B,ζb,bP];refine⟨λw=>(bf _).2 ⟨ct n Za,λi C=>?_⟩,λw=>(bf _).2 ((bf _).2 ?_)⟩;by_cases e:i=n;subst e;rw[ζd u,ζd B];simpa using w;exact z i Za;refine(decide_eq_false λe=>?_).symm;have c:a.l[n]?=b.l[n]?:=by rw[e]
 rw[ζd u,ζd B]at c;simp at w c;exact w c;rintro _ ⟨rfl,z⟩;unfold e9.bn;rw[hU,bX,bf];refine(bf _).2 (decide_eq_true (ext_getElem? λi=>?_)).symm;by_cases C:i<a.l.length;exact z i C;rw[getElem?_eq_none Za,getElem?_eq_none Za];refine(decide_eq_false λe=>?_).symm;simp[len,e]at h
section
variable{t:Zj}{A:bU 200 bt}
def uc(A:bU 200 bt)(e:Zn):a_:=if e.kind=3 then(ag A e.message).from_ else⟨0,0⟩
structure P5(t:Trace)(A:bU 200 bt)(n:Nat)(m:b9):Prop where
 lens:m.lengths.l=(t.procs.l.take n).map λP=>(P.events.l.length:Int)
 need:m.need.l.map Sl.l=(t.procs.l.take n).map λP=>P.events.l.map (uc A)
theorem of_wp(Y:Small t)(g:dV t=some true)(d:VT t)(f:eR t (bQ t) A):Wp (jU t) (P5 t A t.procs.l.length):=by
 have Z:=d.few;unfold jU jU.W1;refine eO t.procs.l.length (λn s=>s.1=(n:Int)/\s.2.1=t/\P5 t A n s.2.2.2) ⟨rfl,rfl,rfl,rfl⟩ ?_ ?_;rintro n ⟨_,_,h,I⟩ z ⟨a,B,u⟩;simp only at a B u;subst a;have B:=B.symm;subst B;unfold jU.bn;rw[iA z,bO,bB z,ζb];have O:=ζd z;have K:=(Y.2 _ (getElem_mem z)).1;generalize M:t.procs.l[n]=P at *;unfold jU.W2;refine eO P.events.l.length (λk s=>s.2.1=(k:Int)/\s.2.2.1=t/\s.2.2.2.2=I/\s.1.l=(P.events.l.take k).map (uc A)) ⟨rfl,rfl,rfl,rfl⟩ ?_ ?_;rintro k ⟨nd,_,_,T,_⟩ c ⟨Q,C,D,L⟩;simp only at Q C D L;subst Q;have C:=C.symm;have D:=D.symm;subst C D;unfold jU.bS;rw[iA c,bO,bB c,ζb];have U:jw t n k P.events.l[k]:=⟨P,O,ζd c⟩;have G:P.events.l.take (k+1)=P.events.l.take k++[P.events.l[k]]:=by rw[take_add_one,ζd c];rfl
 generalize P.events.l[k]=e at *;have fin:∀id,id=uc A e->Wp (jU.J3 nd t.procs (len t.procs) n P.events (len P.events) k t ⟨Sl.nil,Sl.nil⟩ I P id) λw=>match w with|.n S=>S.2.1=((k+1:Nat):Int)/\S.2.2.1=t/\S.2.2.2.2=I/\S.1.l=(P.events.l.take (k+1)).map (uc A)|.x e=>False|.r b=>False:=λid W=>by unfold jU.J3;have⟨r,i,l⟩:=jx (s:=nd) (x:=id) (by rw[L];simp;omega);rw[i,ζb,bf];exact⟨ct k Za,rfl,rfl,by rw[l,L,G,map_append,W];rfl⟩
 rw[bP];constructor;intro u;have u:e.kind=3:=by simpa using u
 have⟨q,j,y,m,o,p,y3,y4,y5⟩:=vk d f U u;have X:=E3 Y g f (eu.2 ⟨q,j,m,rfl⟩:((⟨q,j+1⟩:a_),y)∈bQ t) o;simp only at X;rw[p]at X;rw[X,ζb];refine(fin _ (by unfold uc;rw[if_pos u,y5])).mono λw J=>?_;cases w with|n s=>exact J|x e=>exact J.elim|r b=>exact J.elim
 intro u;have u:¬e.kind=3:=by simpa using u
 refine(fin _ (by unfold uc;rw[if_neg u])).mono λw J=>?_;cases w with|n s=>exact J|x e=>exact J.elim|r b=>exact J.elim
 rintro⟨nd,_,_,T,_⟩ ⟨Q,C,D,L⟩;simp only at Q C D L;subst Q;have C:=C.symm;have D:=D.symm;subst C D;unfold jU.bS;have N:I.lengths.l.length=n:=by rw[u.lens];simp;omega
 have R:I.need.l.length=n:=by have:=congrArg List.length u.need;simp at this;omega
 have⟨v,a1,E⟩:=jx (s:=I.lengths) (x:=len P.events) Za;have⟨x2,F,H⟩:=jx (s:=I.need) (x:=nd) Za;rw[hU,bX,bf];simp only;rw[a1,ζb,F,ζb,bf];have G:t.procs.l.take (n+1)=t.procs.l.take n++[P]:=by rw[take_add_one,O];rfl
 refine⟨ct n Za,rfl,?_,?_⟩;show v.l=_;rw[E,u.lens,G,map_append];rfl;show x2.l.map Sl.l=_;rw[H,map_append,u.need,G,map_append,map_cons,L,take_length];rfl;rintro⟨_,_,h,I⟩ ⟨a,B,u⟩;simp only at a B u;subst a;have B:=B.symm;subst B;unfold jU.bn;rw[hU,bX,bf];exact(bf _).2 u
theorem O9(f:VT t)(g:eR t (bQ t) A){m:b9}(n:P5 t A t.procs.l.length m){c:Zg}(G:Cons t A c.l){p:Nat}(o:p<t.procs.l.length):
 Wp (nZ m c p) λb=>(b=true↔∃a,c.l[p]?=some a/\Cons t A (c.l.set p (a+1))):=by
 have ab:=G.1.1;have u:=ζd o;have⟨a,w⟩:=G.1.at_ o;have H:=G.1.2 p a _ w u;generalize t.procs.l[p]=P at *;have D:m.lengths.l[p]?=some (P.events.l.length:Int):=by rw[n.lens,take_length,getElem?_map,u];rfl
 have L:=(ζe.1 w).1;have O:idx c (p:Int)=some a:=by rw[mX];exact w
 unfold nZ;rw[O,ζb,mX,D,ζb,bP];constructor
 .intro h;have h:a=P.events.l.length:=by simpa using h
  refine(bf _).2 ⟨λh=>(by cases h),λ⟨b,B,S⟩=>?_⟩
  rw[w]at B;cases B;have:=S.1.2 p (a+1) P (by simp[L]) u
  omega
 intro h;have h:¬a=P.events.l.length:=by simpa using h
 have T:a<P.events.l.length:=Za
 have r:=congrArg (λl=>l[p]?) n.need
 simp only[take_length,getElem?_map,u,Option.map_some]at r;have⟨nd,U,W⟩:=ζf.1 r;have z:a.toNat<P.events.l.length:=Za
 have K:idx nd a=some (uc A P.events.l[a.toNat]):=by rw[Ht H.1,W,getElem?_map,ζd z];rfl
 rw[mX,U,ζb,ζb,K,ζb];have X:=G.up f g u w T;have I:(∃b,c.l[p]?=some b/\Cons t A (c.l.set p (b+1)))↔GN t A c.l p:=by rw[X];exact⟨λ⟨b,B,k⟩=>by rw[w]at B;cases B;exact k,λk=>⟨a,w,k⟩⟩
 rw[I];have Y:jw t p a.toNat P.events.l[a.toNat]:=⟨P,u,ζd z⟩;have Z:GN t A c.l p↔(P.events.l[a.toNat].kind=3->∃b,c.l[(ag A P.events.l[a.toNat].message).from_.proc.toNat]?=some b/\(ag A P.events.l[a.toNat].message).from_.index<=b):=⟨λ⟨Q,e,x,v,E,C,M⟩=>by rw[u]at v;cases v;rw[w]at E;cases E;rw[ζd z]at C;cases C;exact M,λh=>⟨P,_,a,u,w,ζd z,h⟩⟩
 rw[Z];generalize P.events.l[a.toNat]=e at *;unfold uc
 by_cases C:e.kind=3
 .rw[if_pos C];have⟨q,j,N,_,_,y,Q,R,_⟩:=tE f g Y C;have d:q<c.l.length:=by have:=(ζe.1 R).1;omega
  rw[N];simp only[toNat_natCast];rw[bB d,ζb,bf];simp only[decide_eq_true_eq];exact⟨λh _=>⟨_,ζd d,h⟩,λh=>by have⟨b,B,V⟩:=h C;rw[ζd d]at B;cases B;exact V⟩
 rw[if_neg C];have F:0<c.l.length:=Za
 have J:=G.1.pos 0 _ (ζd F);have hi:idx c ((⟨0,0⟩:a_).proc)=some c.l[0]:=bB (s:=c) (i:=0) F;rw[hi,ζb,bf];exact⟨λ_ h=>absurd h C,λ_=>by simpa using J⟩
end
theorem E4{α:Type}:∀l:aY α,(range l.length).filterMap (l[·]?)=l
 |[]=>rfl|x::l=>by rw[length_cons,List.range_succ_eq_map,List.filterMap_cons,List.filterMap_map];show x::(range l.length).filterMap (λi=>(x::l)[i+1]?)=_;simp only[List.getElem?_cons_succ];rw[E4 l]
theorem SF{α:Type}{s r:Sl α}{p:α->α->aZ Zl}(h:wM s p=some r):r.l.Sublist s.l:=by
 unfold wM at h;split at h
 .cases h;have key:((kept (λi=>(sP s.l p i).getD false) s.l.length).filterMap (s.l[·]?)).Sublist s.l:=by
   have e:=E4 s.l
   conv=>rhs;rw[<-e]
   exact List.Sublist.filterMap _ (by unfold kept;exact List.filter_sublist)
  generalize(kept (λi=>(sP s.l p i).getD false) s.l.length).filterMap (s.l[·]?)=y at *
  cases s<;>first|exact key|(simp[Sl.sq,Sl.l])
 cases h
theorem ye{c:Zg}(B:c.l.length<=1073741824)(a:0<c.l.length):∃d,(jh c).bind Sl.whole=some d/\d.l=c.l:=by
 unfold jh;have key:((mE (Sl.row []:Zg) c).bind λx=>some x).bind Sl.whole=some (.row ([]++c.l)):=by unfold mE;rw[if_neg (λh=>by rw[h]at a;simp at a),if_pos (show(Sl.row ([]:Zx)).l.length+c.l.length<=2147483648 from show 0+c.l.length<=_ by omega)];rfl
 cases c with|nil=>simp[Sl.l]at a|emp=>simp[Sl.l]at a|part l=>exact⟨_,key,rfl⟩|row l=>exact⟨_,key,rfl⟩
section
variable{t:Zj}{A:bU 200 bt}
theorem ND(F:Small t)(U:VT t)(o:eR t (bQ t) A){m:b9}(H:P5 t A t.procs.l.length m){k:Nat}{B:Zb}(Y:yE t A k B)(V:B.l.length<=5000):
 Wp (eB m B) λr=>yE t A (k+1) r/\(ins r).Nodup/\r.l.length<=40000/\(ins r).Pairwise λx y=>¬fe y x<0:=by
 have ae:=U.few;unfold eB eB.W1;refine eO B.l.length (λn s=>s.2.1=len B/\s.2.2=(n:Int)/\s.1.l.length<=8*n/\∀d,d∈ins s.1↔∃c∈(B.l.take n).map Sl.l,Bx t A c d) ⟨rfl,rfl,zero_le _,λd=>by simp[ins,Sl.l]⟩ ?_ ?_
 .rintro n ⟨out,_,_⟩ w ⟨e1,e2,g1,g2⟩;simp only at e1 e2 g1 g2;subst e1 e2;have L:=(Y B.l[n].l).1 (j8.2 ⟨_,getElem_mem w,rfl⟩);unfold eB.bn;rw[iA w,bO,bB w,ζb];have O:∀d,d∈(B.l.take (n+1)).map Sl.l↔d∈(B.l.take n).map Sl.l\/d=B.l[n].l:=λd=>vC w
  generalize B.l[n]=c at *;have af:=L.1.1.1;have ab:=U.ok.one;unfold eB.W2;refine eO c.l.length (λj s=>s.2=(j:Int)/\s.1.l.length<=8*n+j/\∀d,d∈ins s.1↔d∈ins out\/∃(p:Nat)(a:Int),p<j/\c.l[p]?=some a/\d=c.l.set p (a+1)/\Cons t A d) ⟨rfl,g1,λd=>⟨.inl,λh=>h.elim id λ⟨p,a,h,_⟩=>absurd h Za⟩⟩ ?_ ?_
  .rintro j ⟨o2,_⟩ T ⟨e,i,g⟩;simp only at e i g;subst e;unfold eB.bS;rw[show decide ((j:Int)<len c)=true from iA T,bO,dU];refine(O9 U o H L.1 (p:=j) Za).mono λb q=>?_
   have u:=ζd T;have hr:=L.1.1.2 j _ _ u (ζd (show j<t.procs.l.length by omega))
   have ah:=(F.2 _ (getElem_mem (show j<t.procs.l.length by omega))).1
   generalize c.l[j]=a at *;have more:∀o3:Zb,(∀d,d∈ins o3↔d∈ins o2\/d=c.l.set j (a+1)/\Cons t A d)->∀d,d∈ins o3↔d∈ins out\/∃(p:Nat)(a:Int),p<j+1/\c.l[p]?=some a/\d=c.l.set p (a+1)/\Cons t A d:=λo3 h d=>by rw[h,g];constructor;rintro((h|⟨p,b,h,k⟩)|⟨h,k⟩);exact .inl h;exact .inr ⟨p,b,Za,k⟩;exact .inr ⟨j,a,Za,u,h,k⟩;rintro(h|⟨p,b,h,k1,k2,k3⟩);exact .inl (.inl h);by_cases e:p=j;subst e;rw[u]at k1;cases k1;exact .inr ⟨k2,k3⟩;exact .inl (.inr ⟨p,b,Za,k1,k2,k3⟩)
   rw[bP];constructor
   .intro ht;have⟨x,C,X⟩:=q.1 ht;rw[u]at C;cases C;have⟨d,K,z⟩:=ye (c:=c) Za Za
    have⟨M,Z,Q⟩:=put_eq (s:=d) (p:=j) (x:=a+1) (by rw[z];exact T)
    have⟨o3,N,D⟩:=jx (s:=o2) (x:=M) Za
    have P:Sl.get d j=some a:=by unfold Sl.get;rw[z];exact u
    rw[K,ζb,kZ (by rw[z];exact T),ζb,P,ζb,ζb,jB _ Za Za,Z,ζb,N,ζb,bf]
    refine⟨ct j Za,by rw[D];simp;omega,more o3 λe=>?_⟩
    rw[Jp D,Q,z];exact⟨λh=>h.elim .inl λh=>.inr ⟨h,by rw[h];exact X⟩,λh=>h.elim .inl λh=>.inr h.1⟩
   intro v;refine(bf _).2 ⟨ct j Za,Nat.le_succ_of_le i,more o2 λd=>⟨.inl,λh=>h.elim id λ⟨l,W⟩=>?_⟩⟩
   rw[q.2 ⟨a,u,by rw[<-l];exact W⟩]at v;cases v
  rintro⟨o2,_⟩ ⟨e,i,g⟩;simp only at e i g;subst e;unfold eB.bS;rw[hU,bX,bf];refine(bf _).2 ⟨rfl,ct n Za,show o2.l.length<=_ by omega,λd=>?_⟩
  rw[g];constructor
  .rintro (h|⟨p,a,_,h⟩)
   .have⟨c',hc,G⟩:=(g2 d).1 h;exact⟨c',(O c').2 (.inl hc),G⟩
   exact⟨_,(O _).2 (.inr rfl),p,a,h⟩
  rintro⟨c',hc,G⟩;rcases(O c').1 hc with h|h
  .exact .inl ((g2 d).2 ⟨c',h,G⟩)
  subst h;have⟨p,a,h⟩:=G;exact .inr ⟨p,a,(ζe.1 h.1).1,h⟩
 rintro⟨out,_,_⟩ ⟨e1,e2,g1,g2⟩;simp only at e1 e2 g1 g2;subst e1 e2;unfold eB.bn;rw[hU,bX,bf];simp only;have I:yE t A (k+1) out:=λd=>by rw[g2,take_length,<-Bx.iff U o (k:=k)];exact⟨λ⟨c,hc,G⟩=>⟨c,(Y c).1 hc,G⟩,λ⟨c,hc,G⟩=>⟨c,(Y c).2 hc,G⟩⟩
 have J:∀s:Zb,(∀d,d∈ins s↔d∈ins out)->∀x∈s.l,x.l.length<1073741824:=λs h x C=>by have:=((I x.l).1 ((h x.l).1 (j8.2 ⟨x,C,rfl⟩))).1.1.1;omega
 have⟨r1,l,p1,E⟩:=O2 (s:=out) (p:=jv) (f:=Sl.l) (λx y C _=>JF (J out (λ_=>Iff.rfl) x C)) Za
 have S:∀d,d∈ins r1↔d∈ins out:=λd=>(p1.map Sl.l).mem_iff
 have ad:r1.l.length=out.l.length:=p1.length_eq;have⟨r2,W,nd,R,l2⟩:=Pd (s:=r1) (p:=kA) (f:=Sl.l) (λx y C _=>by unfold kA;rw[OS (J r1 S x C)];rfl) Za E
 rw[l,ζb,W,ζb,bf];exact⟨λd=>(R d).trans ((S d).trans (I d)),nd,Za,by unfold ins;rw[pairwise_map];exact E.sublist (SF W)⟩
end
theorem vZ{c:Zg}(h:Cy c.l):fI c=some c.l.sum:=by refine Wp.eq ?_;have w:=h.1;unfold fI fI.W1;refine eO c.l.length (λi(q:Int×Int)=>q.2=(i:Int)/\q.1=(c.l.take i).sum) ⟨rfl,rfl⟩ ?_ ?_;rintro i ⟨m,_⟩ u ⟨e,a⟩;simp only at e a;subst e;subst a;unfold fI.bn;rw[iA u,bO,bB u,ζb,bf];have k:=Oz h (i+1);rw[GA u]at k;exact⟨ct i Za,by rw[GA u];exact jB _ Za Za⟩;rintro⟨m,_⟩ ⟨e,a⟩;simp only at e a;subst e;subst a;unfold fI.bn;rw[hU,bX,bf];exact(bf _).2 Zd
theorem Ih{a b:Zg}(B:Cy a.l)(G:Cy b.l)(J:a.l.length=b.l.length):gC a b=some (decide (eC a.l b.l)):=by
 have C:=B.1;unfold gC;rw[vZ B,ζb,vZ G,ζb];by_cases e:a.l.sum=b.l.sum;rw[show(a.l.sum==b.l.sum)=true from Zd,bO];refine Wp.eq ?_;unfold gC.W1;refine eO a.l.length (λi(q:Int)=>q=(i:Int)/\fe (a.l.drop i) (b.l.drop i)=fe a.l b.l) ⟨rfl,rfl⟩ ?_ ?_;rintro i _ w ⟨rfl,h⟩;have u:i<b.l.length:=by omega
 unfold gC.bn;rw[iA w,bO,bB w,ζb,bB u,ζb];rw[MY w u]at h;by_cases e2:a.l[i]=b.l[i];rw[show(a.l[i]==b.l[i])=true from Zd,bO,bf];rw[if_neg Za,if_neg Za]at h;exact⟨ct i Za,h⟩;rw[show(a.l[i]==b.l[i])=false from Zd,bX,ζb,ζb,bf];refine(bf _).2 ?_;have z:decide (eC a.l b.l)=decide (fe a.l b.l<0):=decide_eq_decide.2 (eC.GZ e);grind;rintro _ ⟨rfl,h⟩;unfold gC.bn;rw[hU,bX,bf];refine(bf _).2 ?_;have z:decide (eC a.l b.l)=decide (fe a.l b.l<0):=decide_eq_decide.2 (eC.GZ e);rw[z];rw[drop_of_length_le (le_refl _),drop_of_length_le Za]at h;rw[<-h];rfl;rw[show(a.l.sum==b.l.sum)=false from Zd,bX,ζb,ζb];congr 1;refine decide_eq_decide.2 ?_;unfold eC DE;by_cases k:a.l.sum<b.l.sum;simp[fe,k];simp[fe,k,show a.l.sum>b.l.sum by omega]
theorem yT{a b:Zg}(G:a.l.length<1073741824):dZ a b=some (decide (a.l=b.l)):=by
 refine Wp.eq ?_;unfold dZ;rw[bP];refine⟨λh=>?_,λh=>(bf _).2 ?_⟩;have h:(a.l.length:Int)=b.l.length:=by grind
 have h:a.l.length=b.l.length:=Za;unfold dZ.W1;refine eO a.l.length (λn s=>s=(n:Int)/\∀i,i<n->a.l[i]?=b.l[i]?) ⟨rfl,λi h=>absurd h Za⟩ ?_ ?_;rintro n _ u ⟨rfl,w⟩;unfold dZ.bn;have z:n<b.l.length:=by omega
 rw[iA u,bO,bB u,ζb,bB z,ζb,bP];refine⟨λB=>(bf _).2 ⟨ct n Za,λi C=>?_⟩,λB=>(bf _).2 ((bf _).2 ?_)⟩;grind;grind;rintro _ ⟨rfl,w⟩;unfold dZ.bn;rw[hU,bX,bf];refine(bf _).2 (decide_eq_true (ext_getElem? λi=>?_)).symm;grind;grind
theorem fL(s:Zb):(ins s).length=s.l.length:=by unfold ins;simp
theorem IY(s:Zb)(i:Nat):(ins s)[i]?=(s.l[i]?).map Sl.l:=by unfold ins;grind
theorem nL{s:Zb}{i:Nat}(h:i<s.l.length):(ins s)[i]?=some s.l[i].l:=by rw[IY,ζd h];rfl
theorem Ia{l:Zb}{c:Zg}(Y:∀x∈l.l,Cy x.l/\x.l.length=c.l.length)(hc:Cy c.l)(t:l.l.length<1073741824)(b:(ins l).Pairwise eC):
 Wp (gB l c) λr=>r.l.length<=l.l.length+1/\(ins r).Pairwise eC/\∀d,d∈ins r↔d∈ins l\/d=c.l:=by
 have Z:=hc.1;have a:∀n:Nat,n<=l.l.length->(∀(i:Nat)x,i<n->(ins l)[i]?=some x->eC x c.l)->(∀x,(ins l)[n]?=some x->¬eC x c.l)->
  Wp ((bp (decide ((n:Int)<(len l))) ((idx l n).bind λO=>(dZ O c).bind λQ=>some Q) (some false):aZ Zl).bind λS=>
  bp S (some l) ((fN l none (some (n:Int))).bind λB=>(mE (Sl.row []:Zb) B).bind λC=>(fP C (c:Zg)).bind λD=>(fN l (some (n:Int)) none).bind λG=>(mE D G).bind λI=>some I))
  λr=>r.l.length<=l.l.length+1/\(ins r).Pairwise eC/\∀d,d∈ins r↔d∈ins l\/d=c.l:=by
  intro n J T U;have z:(∀x,(ins l)[n]?=some x->x≠c.l)->Wp ((fN l none (some (n:Int))).bind λB=>(mE (Sl.row []:Zb) B).bind λC=>(fP C (c:Zg)).bind λD=>(fN l (some (n:Int)) none).bind λG=>(mE D G).bind λI=>some I) λr=>r.l.length<=l.l.length+1/\(ins r).Pairwise eC/\∀d,d∈ins r↔d∈ins l\/d=c.l:=by intro W;have⟨x4,f,e4⟩:=rO l n J;have v:x4.l.length<=l.l.length:=Zd;have⟨x5,g,e5⟩:=tj (s:=(Sl.row []:Zb)) (x:=x4) (show 0+x4.l.length<=_ by omega);have e5:x5.l=x4.l:=e5;have⟨x6,j,e6⟩:=jx (s:=x5) (x:=c) Zd;have⟨x7,m,e7⟩:=A1 l n J;have⟨x8,Z,y⟩:=tj (s:=x6) (x:=x7) Zd;rw[f,ζb,g,ζb,j,ζb,m,ζb,Z,ζb,bf];have e:x8.l=l.l.take n++[c]++l.l.drop n:=Ze;have o:ins x8=(ins l).take n++[c.l]++(ins l).drop n:=(by unfold ins;simp_all);have⟨A,E⟩:=Kn b T λx u=>(by by_cases k:eC c.l x;omega;exact absurd (eC.tot k (U x u)).symm (W x u));exact⟨by rw[e];simp;omega,by rw[o];omega,λd=>Ze⟩
  by_cases h:n<l.l.length
  .rw[iA h,bO,bB h,ζb,yT (by have:=(Y _ (getElem_mem h)).1.1;omega),ζb,ζb]
   by_cases e:l.l[n].l=c.l
   .rw[decide_eq_true e,bO,bf];refine⟨Za,b,λd=>⟨.inl,λX=>X.elim id λX=>?_⟩⟩
    rw[X,<-e];exact j8.2 ⟨_,getElem_mem h,rfl⟩
   rw[decide_eq_false e,bX];exact z λx u=>by rw[nL h]at u;cases u;exact e
  rw[show(n:Int)=(l.l.length:Nat)from Za,hU,bX,ζb,bX,<-show(n:Int)=(l.l.length:Nat)from Za]
  exact z λx u=>by have:=(ζe.1 u).1;rw[fL]at this;omega
 unfold gB gB.W1;refine eO l.l.length (λn s=>s=(n:Int)/\∀(i:Nat)x,i<n->(ins l)[i]?=some x->eC x c.l) ⟨rfl,λi x h=>absurd h Za⟩ ?_ ?_
 .rintro n _ w ⟨rfl,L⟩;have⟨p,q⟩:=Y _ (getElem_mem w);unfold gB.bn;rw[iA w,bO,bB w,ζb,Ih p hc q,ζb,ζb]
  by_cases e:eC l.l[n].l c.l
  .rw[decide_eq_true e,bO,bf];refine⟨ct n Za,λi x F u=>?_⟩
   by_cases e2:i=n
   .subst e2;rw[nL w]at u;cases u;exact e
   exact L i x Za u
  rw[decide_eq_false e,bX,bf];exact a n Za L λx u=>by rw[nL w]at u;cases u;exact e
 rintro _ ⟨rfl,L⟩;unfold gB.bn;rw[hU,bX,ζb,bX,bf];exact a _ (le_refl _) L λx u=>by have:=(ζe.1 u).1;rw[fL]at this;omega
section
variable{t:Zj}{A:bU 200 bt}
structure dF(t:Trace)(A:bU 200 bt)(L:List (List Int)):Prop where
 srt:L.Pairwise eC
 mem:∀d,d∈L↔Cons t A d
def Ak(t:Zj)(A:bU 200 bt):Prop:=∃L:aY Zx,L.Nodup/\(∀d∈L,Cons t A d)/\5000<L.length
theorem dF.one{L R:aY Zx}(h:dF t A L)(k:dF t A R):L=R:=CY h.srt k.srt λx=>(h.mem x).trans (k.mem x).symm
theorem dF.not{L:aY Zx}(h:dF t A L)(B:L.length<=5000)(k:Ak t A):False:=by have⟨R,nd,w,u⟩:=k;have:=BD nd λx z=>(h.mem x).2 (w x z);omega
theorem D7{k:Nat}{o l:aY Zx}(c:∀d,d∈l↔Cons t A d/\d.sum=(k:Int))(B:l.Pairwise eC)(G:o.Pairwise eC)(J:∀d,d∈o↔Cons t A d/\d.sum<(k:Int)):
 (o++l).Pairwise eC/\∀d,d∈o++l↔Cons t A d/\d.sum<((k+1:Nat):Int):=by
 refine⟨pairwise_append.2 ⟨G,B,λa u b w=>eC.sum Zd⟩,λd=>?_⟩
 grind
theorem Me(o:Small t)(J:VT t)(U:eR t (bQ t) A):Wp (dM t) λr=>(r.2=true/\dF t A (ins r.1)/\r.1.l.length<=5000)\/(r.2=false/\r.1=.nil/\Ak t A):=by
 have M:=J.few;unfold dM od;rw[if_pos ⟨Ze,Zd⟩,ζb];unfold dM.W1;have fin:∀(k:Nat)(u out:Zb),yE t A k u->u.l.length=0->(ins out).Pairwise eC->(∀d,d∈ins out↔Cons t A d/\d.sum<(k:Int))->dF t A (ins out):=λk u out b S G L=>⟨G,λd=>(L d).trans ⟨λh=>h.1,λh=>⟨h,b.none J U S h⟩⟩⟩
 refine eO (mc t+1) (λk s=>yE t A k s.1/\(ins s.1).Pairwise eC/\(ins s.2).Pairwise eC/\(∀d,d∈ins s.2↔Cons t A d/\d.sum<(k:Int))/\s.1.l.length<=40000/\s.2.l.length<=5000)
  ⟨O1 (by simp[Sl.l,len]),by simp[ins,Sl.l],by simp[ins,Sl.l],λd=>⟨λh=>by simp[ins,Sl.l]at h,λh=>absurd (qo h.1.1.pos) Zd⟩,by simp[Sl.l],by simp[Sl.l]⟩ ?_ ?_
 rintro k ⟨u,out⟩ N ⟨b,C,w,G,L,O⟩;simp only at b C w G L O;unfold dM.bn;rw[Dj];by_cases S:u.l.length=0;rw[show(!decide (u.l.length=0))=false from Ze,bX,bf];exact(bf _).2 (.inl ⟨rfl,fin k u out b S w G,O⟩);rw[show(!decide (u.l.length=0))=true from Ze,bO];have⟨x,q,P⟩:=tj (s:=out) (x:=u) Za;have T:ins x=ins out++ins u:=by unfold ins;grind
 have⟨o1,o2⟩:=D7 b C w G;rw[<-T]at o1 o2;rw[q,ζb,bP];refine⟨λW=>(bf _).2 ((bf _).2 (.inr ⟨rfl,rfl,ins x,eC.nodup o1,λd v=>((o2 d).1 v).1,?_⟩)),λW=>?_⟩;rw[fL];grind;have W:x.l.length<=5000:=Zd;have R:u.l.length<=5000:=Zd;have E:∀d,Cons t A d->Cy d/\d.length=t.procs.l.length:=λd h=>⟨AN o J h,h.1.1⟩;unfold dM.W2;refine eO u.l.length (λn s=>s.2=(n:Int)/\s.1.l.length<=8*n/\(ins s.1).Pairwise eC/\∀d,d∈ins s.1↔∃c∈(u.l.take n).map Sl.l,Bx t A c d) ⟨rfl,zero_le _,by simp[ins,Sl.l],λd=>by simp[ins,Sl.l]⟩ ?_ ?_;rintro n ⟨more,_⟩ B ⟨e,g1,g,g2⟩;simp only at e g1 g g2;subst e;unfold dM.bS;have X:=(b u.l[n].l).1 (j8.2 ⟨_,getElem_mem B,rfl⟩);rw[iA B,bO,bB B,ζb,dU];refine(RE o J U X.1).mono λnx Q=>?_;unfold dM.W3;refine eO nx.l.length (λm s=>s.2=(m:Int)/\s.1.l.length<=8*n+m/\(ins s.1).Pairwise eC/\∀d,d∈ins s.1↔d∈ins more\/d∈(nx.l.take m).map Sl.l) ⟨rfl,g1,g,λd=>Zc⟩ ?_ ?_;rintro m ⟨Y,_⟩ D ⟨e,i,fs,f⟩;simp only at e i fs f;subst e;unfold dM.dN;rw[iA D,bO,bB D,ζb,dU];have F:=(Q.2 nx.l[m].l).1 (j8.2 ⟨_,getElem_mem D,rfl⟩);have⟨_,_,_,_,Z⟩:=F;refine(Ia (l:=Y) (c:=nx.l[m]) (λy H=>?_) (E _ Z).1 Za fs).mono λr j=>?_;have V:Cons t A y.l:=by rcases(f y.l).1 (j8.2 ⟨_,H,rfl⟩)with h|h;have⟨_,_,p,a,_,_,k⟩:=(g2 y.l).1 h;omega;have⟨z,K,e⟩:=mem_map.1 h;have⟨p,a,_,_,k⟩:=(Q.2 z.l).1 (j8.2 ⟨_,mem_of_mem_take K,rfl⟩);rw[<-e];exact k
 grind;refine(bf _).2 ⟨ct m Za,le_trans j.1 Za,j.2.1,λd=>?_⟩;rw[j.2.2,f,vC D,or_assoc];rintro⟨Y,_⟩ ⟨e,i,fs,f⟩;simp only at e i fs f;subst e;unfold dM.dN;rw[hU,bX,bf];refine(bf _).2 ⟨ct n Za,show Y.l.length<=_ by omega,fs,λd=>?_⟩;rw[f,take_length];constructor;rintro(h|h);have⟨c,hc,I⟩:=(g2 d).1 h;exact⟨c,(vC B).2 (.inl hc),I⟩;exact⟨_,(vC B).2 (.inr rfl),(Q.2 d).1 h⟩;rintro⟨c,hc,I⟩;rcases(vC B).1 hc with h|h;exact .inl ((g2 d).2 ⟨c,h,I⟩);subst h;exact .inr ((Q.2 d).2 I);rintro⟨more,_⟩ ⟨e,g1,g,g2⟩;simp only at e g1 g g2;subst e;unfold dM.bS;rw[hU,bX,bf];refine(bf _).2 ⟨λd=>?_,g,o1,o2,show more.l.length<=_ by omega,W⟩;rw[g2,take_length,<-Bx.iff J U (k:=k)];exact⟨λ⟨c,hc,I⟩=>⟨c,(b c).1 hc,I⟩,λ⟨c,hc,I⟩=>⟨c,(b c).2 hc,I⟩⟩;rintro⟨u,out⟩ ⟨b,C,w,G,L,O⟩;simp only at b C w G L O;unfold dM.bn;rw[Dj,show(!decide (u.l.length=0))=false from by simp[b.last],bX,bf];exact(bf _).2 (.inl ⟨rfl,fin _ u out b b.last w G,O⟩)
theorem PW(B:VT t)(G:Small t):mc t<8589934600:=by
 have key:∀(l:aY cg),(∀p∈l,p.events.l.length<1073741824)->(l.map λP=>P.events.l.length).sum<=1073741824*l.length:=by intro l;induction l with|nil=>grind|cons x l w=>grind
 have a:=key t.procs.l λp u=>(G.2 p u).1;have z:=B.few;unfold mc;omega
theorem Rz{k:Int}{L:aY Zx}(nd:L.Nodup)(B:L.Pairwise λx y=>¬fe y x<0)(a:∀d∈L,d.sum=k):L.Pairwise eC:=by refine(B.and nd).imp_of_mem λ{x y}u w h=>?_;have e:x.sum=y.sum:=Zd;rw[eC.GZ e];by_cases q:fe x y<0;omega;exact absurd (xw _ _ q h.1) h.2
theorem M0(O:Small t)(b:dV t=some true)(G:VT t)(U:eR t (bQ t) A):
 Wp (lM t) λr=>(r.2=0/\dF t A (ins r.1)/\r.1.l.length<=5000)\/(r.2=16/\r.1=.nil/\Ak t A):=by
 have X:=G.few;have f:=PW G O;unfold lM jF;rw[b,ζb,bO,dU,dU];refine(of_wp O b G U).mono λm Y=>?_
 unfold od;rw[if_pos ⟨Ze,Zd⟩,ζb]
 have fin:∀(k:Nat)(u:Zb)(out:Sl Zb),yE t A k u->u.l.length=0->(out.l.flatMap ins).Pairwise eC->(∀d,d∈out.l.flatMap ins↔Cons t A d/\d.sum<(k:Int))->out.l.length<=5000->(out.l.flatMap ins).length<=5000->
  Wp ((fD out).bind λC=>some (C,(0:Int))) λr=>(r.2=0/\dF t A (ins r.1)/\r.1.l.length<=5000)\/(r.2=16/\r.1=.nil/\Ak t A):=λk u out a Q D Z g i=>by
  have w:(out.l.flatMap Sl.l).map Sl.l=out.l.flatMap ins:=by rw[List.map_flatMap];rfl
  have hc:(BL out).l=out.l.flatMap Sl.l:=by unfold BL;split;(next h=>exact(List.length_eq_zero_iff.1 h).symm);rfl
  unfold fD;rw[if_pos ⟨Za,Zd⟩,ζb,bf]
  have e:ins (BL out)=out.l.flatMap ins:=by unfold ins at w⊢;grind
  refine .inl ⟨rfl,⟨Zd,λd=>by rw[e];exact(Z d).trans ⟨λh=>h.1,λh=>⟨h,a.none G U Q h⟩⟩⟩,?_⟩
  grind
 unfold jF.W1;refine eO (mc t+1) (λk s=>yE t A k s.1/\(ins s.1).Pairwise eC/\(s.2.1.l.flatMap ins).Pairwise eC/\(∀d,d∈s.2.1.l.flatMap ins↔Cons t A d/\d.sum<(k:Int))/\s.2.2=((s.2.1.l.flatMap ins).length:Int)/\s.2.1.l.length<=(s.2.1.l.flatMap ins).length/\(s.2.1.l.flatMap ins).length<=5000/\s.1.l.length<=40000)
  ⟨O1 (by simp[Sl.l,len]),by simp[ins,Sl.l],by simp[Sl.l],λd=>⟨λh=>by simp[Sl.l]at h,λh=>absurd (qo h.1.1.pos) Zd⟩,by simp[Sl.l],by simp[Sl.l],by simp[Sl.l],by simp[Sl.l]⟩ ?_ ?_
 .rintro k ⟨u,out,tot⟩ hk ⟨a,B,z,D,L,S,I,T⟩;simp only at a B z D L S I T;have⟨o1,o2⟩:=D7 a B z D;unfold jF.bn;rw[Dj]
  by_cases Q:u.l.length=0
  .rw[show(!decide (u.l.length=0))=false from Ze,bX,bf]
   exact(bf _).2 (fin k u out a Q z D Za I)
  rw[show(!decide (u.l.length=0))=true from Ze,bO,L]
  have c:wrap .i64 (((out.l.flatMap ins).length:Int)+len u)=(((out.l.flatMap ins).length+u.l.length:Nat):Int):=by have e:len u=(u.l.length:Int):=rfl;rw[e,jB _ Za Za];omega
  rw[c,bP];refine⟨λJ=>(bf _).2 ((bf _).2 ?_),λJ=>?_⟩
  .show Wp (((fD (Sl.nil:Sl Zb)).bind λC=>some (C,(16:Int)))) _
   have e0:fD (Sl.nil:Sl Zb)=some .nil:=by unfold fD;rfl
   rw[e0,ζb,bf];refine .inr ⟨rfl,rfl,out.l.flatMap ins++ins u,eC.nodup o1,λd W=>((o2 d).1 W).1,?_⟩
   have J:=of_decide_eq_true J;rw[ζi,fL];omega
  have J:=of_decide_eq_false J;have⟨o3,g1,g2⟩:=jx (s:=out) (x:=u) Za
  rw[g1,ζb,dU];refine(ND O G U Y a Za).mono λr⟨r1,r2,r3,r4⟩=>?_
  have w:o3.l.flatMap ins=out.l.flatMap ins++ins u:=by rw[g2];simp
  refine(bf _).2 ⟨r1,Rz r2 r4 λd W=>((r1 d).1 W).2,by rw[w];exact o1,λd=>by rw[w];exact o2 d,by rw[w,ζi,fL],?_,?_,r3⟩
  .show o3.l.length<=_;rw[w,ζi,fL,g2,ζi,length_singleton];omega
  rw[w,ζi,fL];omega
 rintro⟨u,out,tot⟩ ⟨a,B,z,D,L,S,I,T⟩;simp only at a B z D L S I T;unfold jF.bn;rw[Dj,show(!decide (u.l.length=0))=false from by simp[a.last],bX,bf]
 exact(bf _).2 (fin _ u out a a.last z D Za I)
theorem J9(B:Small t)(a:dV t=some true)(G:VT t)(J:eR t (bQ t) A):
 (∃L r s,dF t A L/\L.length<=5000/\lM t=some (r,0)/\dM t=some (s,true)/\ins r=L/\ins s=L)\/
 (lM t=some (.nil,16)/\dM t=some (.nil,false)):=by
 have⟨⟨r,e⟩,c,d⟩:=M0 B a G J;have⟨⟨s,b⟩,z,w⟩:=Me B G J;rcases d with⟨rfl,k1,k2⟩|⟨rfl,rfl,k1⟩
 .rcases w with⟨rfl,u,C⟩|⟨rfl,rfl,u⟩
  .exact .inl ⟨ins r,r,s,k1,by rw[fL];omega,c,z,rfl,u.one k1⟩
  exact(k1.not (by rw[fL];omega) u).elim
 rcases w with⟨rfl,u,C⟩|⟨rfl,rfl,u⟩
 .exact(u.not (by rw[fL];omega) k1).elim
 grind
end
end Go.VE
namespace Go.VE
theorem JO{t:Zj}(o:Small t)(g:VT t){A:bU 200 bt}(r:eR t (bQ t) A){c:Zg}(v:nS t c.l):Wp (eZ t c) λb=>(b=true↔kP t A c.l):=by
 have ai:=g.few;have aj:=v.1;unfold eZ eZ.W1;refine eX (λs:Int=>∃n:Nat,s=n/\n<=c.l.length/\∀(p k:Nat)(e:Zn)(a:Int),p<n->jw t p k e->c.l[p]?=some a->(k:Int)<a->e.kind=3->∃b,c.l[(ag A e.message).from_.proc.toNat]?=some b/\(ag A e.message).from_.index<=b) (λs:Int=>c.l.length-s.toNat) ⟨0,rfl,zero_le _,λp k e a h=>absurd h Za⟩ ?_;rintro s ⟨n,rfl,hn,x⟩;unfold eZ.bn;rw[bP];constructor;intro h;have U:n<c.l.length:=by simpa[len]using h
 have I:n<t.procs.l.length:=Za;have ak:=(o.2 _ (getElem_mem I)).1;have B:=ζd I;have J:=ζd U;have⟨r1,r2⟩:=v.2 n _ _ J B;have K:=bB U;generalize c.l[n]=a at *;generalize al:t.procs.l[n]=P at *;unfold eZ.W2;refine eX (λs:Int=>∃m:Nat,s=m/\(m:Int)<=a/\∀(k:Nat)(e:Zn),k<m->jw t n k e->e.kind=3->∃b,c.l[(ag A e.message).from_.proc.toNat]?=some b/\(ag A e.message).from_.index<=b) (λs:Int=>a.toNat-s.toNat) ⟨0,rfl,by simpa using r1,λk e h=>absurd h Za⟩ ?_;rintro s ⟨m,rfl,hm,i⟩;unfold eZ.bS;rw[K,ζb,bP];constructor;intro h;have M:(m:Int)<a:=by simpa using h
 have L:m<P.events.l.length:=Za;have O:=ct m Za;have W:a.toNat-(wrap .i64 ((m:Int)+1)).toNat<a.toNat-((m:Int)).toNat:=by rw[O];simp;omega
 have u:jw t n m P.events.l[m]:=⟨P,B,ζd L⟩;have X:idx t.procs (n:Int)=some P:=by rw[mX];exact B
 have same:∀k e,jw t n k e->k=m->e=P.events.l[m]:=λk e⟨Q,f,y⟩d=>by subst d;rw[B]at f;cases f;rw[ζd L]at y;cases y;rfl
 unfold oF;rw[X,ζb,bB L,ζb,dU,bP];constructor;intro d;have d:P.events.l[m].kind=3:=by simpa using d
 have⟨q,j,z,N,z1,z2,z3,z4,z5⟩:=vk g r u d;have⟨Q,f,_⟩:=N;have S:q<c.l.length:=by have:=(ζe.1 f).1;omega
 rw[find_eq o,zI g r u d,ζb,z5];simp only;rw[bB S,ζb,bf,bP];constructor;intro Y;have Y:(j:Int)+1<=c.l[q]:=by simpa using Y
 refine(bf _).2 ⟨⟨m+1,O,Za,λk Z R w C=>?_⟩,W⟩;by_cases l:k=m;cases same k Z w l;rw[z5];exact⟨c.l[q],by simp only[toNat_natCast];exact ζd S,by simp only;omega⟩;exact i k Z Za w C;intro E;have E:¬((j:Int)+1<=c.l[q]):=by simpa using E
 refine(bf _).2 ((bf _).2 ((bf _).2 ⟨λh=>(by cases h),λV=>?_⟩));have⟨b,D,F⟩:=V n m _ a u J M d;rw[z5]at D F;simp only[toNat_natCast]at D F;rw[ζd S]at D;cases D;omega;intro d;rw[bf,bO];refine(bf _).2 ⟨⟨m+1,O,Za,λk Z R w C=>?_⟩,W⟩;by_cases l:k=m;cases same k Z w l;simp[C]at d;exact i k Z Za w C;intro h;have ah:¬(m:Int)<a:=by simpa using h
 refine(bf _).2 ((bf _).2 ⟨⟨n+1,ct n Za,Za,λp k e a' hp u T d G=>?_⟩,by rw[ct n Za];simp;omega⟩);by_cases ep:p=n;subst ep;rw[J]at T;cases T;exact i k e Za u G;exact x p k e a' Za u T d G;intro h;have ah:c.l.length<=n:=by simpa[len]using h
 refine(bf _).2 ((bf _).2 ⟨λ_ p k e a u H d G=>x p k e a (by have:=(ζe.1 H).1;omega) u H d G,λ_=>rfl⟩)
theorem Code.one{t:Zj}{A:bU 200 bt}{c:Zx}{r s:Int}(h:Code t A c r)(g:Code t A c s):r=s:=by rcases h with⟨h,rfl⟩|⟨a,u,rfl⟩|⟨a,u,rfl⟩|⟨a,u,rfl⟩<;>rcases g with⟨g,rfl⟩|⟨g1,g2,rfl⟩|⟨g1,g2,rfl⟩|⟨g1,g2,rfl⟩<;>first|rfl|contradiction|exact absurd ‹nS t c›.1 ‹_›
section
variable{t:Zj}{A:bU 200 bt}
theorem Ej(G:VT t){p:Nat}{P:cg}(B:t.procs.l[p]?=some P):P.events.l.length<=64:=by have h:=G.ok.heads p (ζe.1 B).1;unfold rI at h;rw[B]at h;simp only at h;split at h;split at h;cases h;split at h;split at h;cases h;omega;rename_i u;exact absurd h u;cases h
theorem RM(B:VT t):mc t<=512:=by
 have key:∀l:aY cg,(∀P∈l,P.events.l.length<=64)->(l.map λP=>P.events.l.length).sum<=64*l.length:=by intro l;induction l with|nil=>intro _;simp|cons P l u=>intro h;have a:=h P (mem_cons_self ..);have D:=u λQ w=>h Q (mem_cons_of_mem _ w);simp only[map_cons,sum_cons,length_cons];omega
 have:=key t.procs.l λP z=>by have⟨p,C⟩:=List.mem_iff_getElem?.1 z;exact Ej B C
 have:=B.few;unfold mc;omega
theorem RI(B:VT t):mc t<1073741824:=by have:=RM B;omega
end
abbrev jC(m:aZ Bool)(P:Prop):Prop:=Wp m λb=>(b=true↔P)
theorem jC.eq{m:aZ Zl}{P:Prop}(h:jC m P):∃b,m=some b/\(b=true↔P):=h
theorem jC.iff{m:aZ Zl}{P Q:Prop}(h:jC m P)(e:P↔Q):jC m Q:=h.mono λb u=>u.trans e
theorem Fx{b:Zl}{P:Prop}(h:b=true↔P):jC (some b) P:=(bf _).2 h
theorem jC.some{m:aZ Zl}{P:Prop}(h:jC m P):jC (m.bind λx=>Option.some x) P:=by have⟨b,u,h⟩:=h;rw[u];exact Fx h
theorem jC.same{m n:aZ Zl}{P:Prop}(h:jC m P)(k:jC n P):∃b,m=Option.some b/\n=Option.some b/\(b=true↔P):=by
 obtain⟨b,u,h⟩:=h;obtain⟨d,w,k⟩:=k;have:b=d:=by rw[Bool.eq_iff_iff,h,k]
 subst this;exact⟨b,u,w,h⟩
theorem jC.and{m n:aZ Zl}{P Q:Prop}(h:jC m P)(k:P->jC n Q){f:Zl->aZ Zl}(B:∀b,f b=bp b (n.bind λx=>Option.some x) (Option.some false)):jC (m.bind f) (P/\Q):=by have⟨b,u,h⟩:=h;rw[u,ζb,B];cases b with|true=>exact((k (h.1 rfl)).some).iff ⟨λq=>⟨h.1 rfl,q⟩,λq=>q.2⟩|false=>exact Fx ⟨λe=>(nomatch e),λq=>(h.2 q.1).symm▸rfl⟩
def I5(a b:Zx):Prop:=a.length=b.length/\∀(p:Nat)(x y:Int),a[p]?=some x->b[p]?=some y->x<=y
section
variable{t:Zj}{A:bU 200 bt}
theorem Qs(B:Small t)(a:dV t=some true)(G:VT t)(J:eR t (bQ t) A)(c:Zg):jC (pW t c) (Cons t A c.l):=by obtain⟨r,b,h⟩:=OG B a G J c;unfold pW;rw[b,ζb];exact Fx (by rw[beq_iff_eq,h];exact Iff.rfl)
theorem Vi(G:Small t)(a:kE t=some true)(J:VT t)(O:eR t (bQ t) A)(c:Zg):jC (ni t c) (Cons t A c.l):=by unfold ni wJ;rw[a,ζb,bO,ζb,ζb];by_cases u:c.l.length=t.procs.l.length;rw[show(len c==len t.procs)=true from by simp[len,u],bO];have d:jC (mg t c) (nS t c.l):=HW G u λi=>rfl;refine jC.and (P:=nS t c.l) (Q:=kP t A c.l) (n:=eZ t c) (jC.some d) (λC=>?_) (f:=λw=>(bp w ((eZ t c).bind λz=>some z) (some false):aZ Zl).bind λB=>some B) (λb=>by cases b<;>simp[bp]);exact JO G J O C;rw[show(len c==len t.procs)=false from by simp[len];omega];exact Fx ⟨λe=>(nomatch e),λh=>absurd h.1.1 u⟩
def wB(g:Int->Int->Int)(a b c:Zx):Prop:=c.length=a.length/\∀(p:Nat)(x y:Int),a[p]?=some x->b[p]?=some y->c[p]?=some (g x y)
def KS(x y:Int):Int:=if y>x then y else x
theorem wB.of(g:Int->Int->Int){a b:Zx}(h:a.length=b.length):wB g a b (zipWith g a b):=⟨by simp[h],λp x y u w=>by rw[List.getElem?_zipWith,u,w]⟩
theorem wB.at_{g:Int->Int->Int}{a b c:Zx}(h:wB g a b c)(G:a.length=b.length){p:Nat}{z:Int}(B:c[p]?=some z):∃x y,a[p]?=some x/\b[p]?=some y/\z=g x y:=by
 have u:p<a.length:=by rw[<-h.1];exact(ζe.1 B).1
 refine⟨a[p],b[p]' Za,ζd u,ζd Za,?_⟩;have:=h.2 p _ _ (ζd u) (ζd (show p<b.length by omega));rw[B]at this;cases this;rfl
theorem AM(x y:Int):(KS x y=x/\y<=x)\/(KS x y=y/\x<=y):=by unfold KS;split<;>omega
theorem join_cons{a b c:Zx}(B:Cons t A a)(G:Cons t A b)(h:wB KS a b c):Cons t A c:=by have L:a.length=b.length:=B.1.1.trans G.1.1.symm;refine⟨⟨h.1.trans B.1.1,λp z P C O=>?_⟩,λp k e z Q C f w=>?_⟩;obtain⟨x,y,D,I,rfl⟩:=h.at_ L C;have i:=B.1.2 p x P D O;have U:=G.1.2 p y P I O;rcases AM x y with⟨e,_⟩|⟨e,_⟩<;>rw[e]<;>assumption;obtain⟨x,y,D,I,rfl⟩:=h.at_ L C;rcases AM x y with⟨S,_⟩|⟨S,_⟩<;>rw[S]at f;have⟨u,d,J⟩:=B.2 p k e x Q D f w;have T:=(ζe.1 d).1;have g:=ζd (show(ag A e.message).from_.proc.toNat<b.length by omega);exact⟨_,h.2 _ _ _ d g,by rcases AM u b[(ag A e.message).from_.proc.toNat]with⟨e2,_⟩|⟨e2,_⟩<;>rw[e2]<;>omega⟩;have⟨u,d,J⟩:=G.2 p k e y Q I f w;have T:=(ζe.1 d).1;have g:=ζd (show(ag A e.message).from_.proc.toNat<a.length by omega);exact⟨_,h.2 _ _ _ g d,by rcases AM a[(ag A e.message).from_.proc.toNat] u with⟨e2,_⟩|⟨e2,_⟩<;>rw[e2]<;>omega⟩
theorem I5.trans{a b c:Zx}(h:I5 a b)(k:I5 b c):I5 a c:=by
 refine⟨h.1.trans k.1,λp x z u w=>?_⟩;have B:p<b.length:=by rw[<-h.1];exact(ζe.1 u).1
 have e:=ζd B;exact Int.le_trans (h.2 p x _ u e) (k.2 p _ z e w)
theorem I5.refl(a:Zx):I5 a a:=⟨rfl,λp x y w u=>by rw[w]at u;cases u;exact Int.le_refl _⟩
theorem wB.one{g:Int->Int->Int}{a b c d:Zx}(h:wB g a b c)(k:wB g a b d)(B:a.length=b.length):c=d:=by refine ext_getElem? λp=>?_;by_cases u:p<a.length;rw[h.2 p _ _ (ζd u) (ζd Za),k.2 p _ _ (ζd u) (ζd Za)];rw[getElem?_eq_none (by rw[h.1];omega),getElem?_eq_none (by rw[k.1];omega)]
def iO(l:Sl Zl)(i:Nat):Zl:=(l.l[i]?).getD false
theorem rR{L:aY Zx}(h:L.Nodup){i:Nat}{c:Zx}(hc:L[i]?=some c):L.idxOf c=i:=by have⟨u,e⟩:=ζe.1 hc;rw[<-e];exact Nodup.idxOf_getElem h i u
theorem u6{L:aY Zx}{c:Zx}(h:c∈L):L[L.idxOf c]?=some c:=by have u:=List.idxOf_lt_length_of_mem h;rw[ζd u,List.getElem_idxOf]
theorem wB.zip{g:Int->Int->Int}{a b c:Zx}(h:wB g a b c)(B:a.length=b.length):c=zipWith g a b:=by refine h.one ⟨by simp[B],λp x y u w=>?_⟩ B;rw[List.getElem?_zipWith,u,w]
end
def rL(L:aY Zx)(c:Zx):Zv:=(range c.length).filterMap λp=>if bump c p 1∈L then some (L.idxOf (bump c p 1))else none
theorem PB{c:Zx}{p:Nat}{d:Int}:(bump c p d).length=c.length:=by unfold bump;simp
theorem PS{c:Zx}{p:Nat}(h:p<c.length):(bump c p 1).sum=c.sum+1:=by unfold bump;have a:c[p]?=some c[p]:=ζd h;rw[vG a,a];simp;omega
theorem DP{L:aY Zx}{c:Zx}{k:Nat}:k∈rL L c↔∃p,p<c.length/\bump c p 1∈L/\k=L.idxOf (bump c p 1):=by
 unfold rL;rw[List.mem_filterMap];constructor;rintro⟨p,u,h⟩;split at h;next w=>cases h;exact⟨p,mem_range.1 u,w,rfl⟩
 cases h;rintro⟨p,u,w,rfl⟩;exact⟨p,mem_range.2 u,by rw[if_pos w]⟩
section
variable{t:Zj}{A:bU 200 bt}{L:aY Zx}
theorem dF.nodup(h:dF t A L):L.Nodup:=eC.nodup h.srt
theorem dF.lt(h:dF t A L){i k:Nat}{c d:Zx}(B:L[i]?=some c)(a:L[k]?=some d)(G:c.sum<d.sum):i<k:=by rcases Nat.lt_trichotomy i k with g|g|g;exact g;subst g;rw[B]at a;cases a;omega;obtain⟨u,rfl⟩:=ζe.1 B;obtain⟨w,rfl⟩:=ζe.1 a;exact absurd ((List.pairwise_iff_getElem.1 h.srt k i w u g).tr (eC.sum G)) (eC.Hl _)
theorem Ub(h:dF t A L){i k:Nat}{c:Zx}(B:L[i]?=some c)(a:k∈rL L c):i<k/\k<L.length:=by obtain⟨p,w,u,rfl⟩:=DP.1 a;exact⟨h.lt B (u6 u) (by rw[PS w];omega),List.idxOf_lt_length_of_mem u⟩
theorem dF.len(h:dF t A L){c:Zx}(hc:c∈L):c.length=t.procs.l.length:=((h.mem _).1 hc).1.1
end
theorem Gy{a b:Zx}(h:a.length=b.length)(B:a.length<=8)(e:mD 8 (.row a)=mD 8 (.row b)):a=b:=by have e2:nq 8 a=nq 8 b:=congrArg bU.l e;unfold nq at e2;rw[take_of_length_le B,take_of_length_le Za]at e2;exact(List.append_inj e2 h).1
theorem IP(s:Zg):mD 8 s=mD 8 (.row s.l):=rfl
def uH(L:aY Zx)(n:Nat):Mo (bU 8 Int) Int:=(L.take n).map λc=>(mD 8 (.row c),(L.idxOf c:Int))
theorem DB{L:aY Zx}{n m:Nat}(B:∀c∈L,c.length=n)(G:n<=8){c:Zx}(hc:c.length=n):mD 8 (.row c)∈(uH L m).map (·.1)↔c∈L.take m:=by unfold uH;rw[map_map,mem_map];constructor;rintro⟨d,u,e⟩;have:=Gy (by rw[B d (mem_of_mem_take u),hc]) (by rw[B d (mem_of_mem_take u)];exact G) e;rwa [<-this];intro h;exact⟨c,h,rfl⟩
theorem Gr{L:aY Zx}{n m:Nat}(B:∀c∈L,c.length=n)(G:n<=8){c:Zx}(hc:c.length=n):jA (mD 8 (.row c)) (uH L m)=if c∈L.take m then some (L.idxOf c:Int)else none:=by by_cases h:c∈L.take m;rw[if_pos h];have⟨v,a,u⟩:=yP ((DB B G hc).2 h);rw[a];unfold uH at u;have⟨d,w,e⟩:=mem_map.1 u;have:=Gy (by rw[B d (mem_of_mem_take w),hc]) (by rw[B d (mem_of_mem_take w)];exact G) (Prod.mk.inj e).1;rw[<-(Prod.mk.inj e).2,this];rw[if_neg h,yB (λk=>h ((DB B G hc).1 k))]
theorem RY{L:aY Zx}{n m:Nat}(B:∀c∈L,c.length=n)(J:n<=8)(G:L.Nodup){c:Zx}(O:L[m]?=some c):kV (uH L m) (mD 8 (.row c)) (m:Int)=uH L (m+1):=by obtain⟨u,rfl⟩:=ζe.1 O;have hc:=B _ (getElem_mem u);rw[pO (λk=>?_)];unfold uH;rw[List.take_succ_eq_append_getElem u,map_append,List.map_singleton,Nodup.idxOf_getElem G];have a:=(DB B J hc).1 k;have⟨j,w,e⟩:=mem_iff_getElem.1 a;rw[length_take]at w;rw[List.getElem_take]at e;have:=(List.getElem_inj G).1 e;omega
section
variable{t:Zj}{A:bU 200 bt}{L:aY Zx}
def ixs(l:Zv):Zx:=l.map λ(k:Nat)=>(k:Int)
structure TN(L:List (List Int))(x:bF):Prop where
 list:ins x.list=L
 len:x.next.l.length=L.length
 next:∀(i:Nat)(c:List Int)(s:Sl Int),L[i]?=some c->x.next.l[i]?=some s->s.l=ixs (rL L c)
 index:x.index=⟨some (uH L L.length)⟩
theorem Po(M:Small t)(n:VT t)(G:dF t A L)(ak:L.length<=5000){r:Zb}(hc:lM t=some (r,0))(g:ins r=L):Wp (dJ t) λq=>∃x,q=(some x,0)/\TN L x:=by
 have v:=n.few;have W:r.l.length=L.length:=by rw[<-fL,g]
 have k:∀c∈L,c.length=t.procs.l.length:=λc h=>G.len h;have X:∀{i:Nat}(w:i<r.l.length),L[i]?=some r.l[i].l:=λw=>by rw[<-g];exact nL w
 unfold dJ uj;rw[hc,ζb,ζb];simp only;rw[show((0:Int)==0)=true from rfl,bO];unfold dJ.W1;refine eO r.l.length (λi(q:Int×Mo (bU 8 Int) Int×bF)=>q.1=(i:Int)/\q.2.1=uH L i/\q.2.2.list=r/\q.2.2.next=.nil) ⟨rfl,rfl,rfl,rfl⟩ ?_ ?_;rintro i ⟨m,l,x⟩ w ⟨e,d,J,O⟩;simp only at e d J O;subst e;subst d;subst J;unfold dJ.bn jV;rw[iA w,bO,bB w,ζb,ζb,bf];refine⟨ct i Za,?_,rfl,rfl⟩;show kV _ (mD 8 (x.list.l[i])) _=_;rw[IP];exact RY k v G.nodup (X w);rintro⟨m,l,x⟩ ⟨e,d,J,O⟩;simp only at e d J O;subst e;subst d;subst J;unfold dJ.bn;rw[hU,bX,bf];show Wp (dJ.W2 _ _ _ _ _) _;unfold dJ.W2;have Q:uH L x.list.l.length=uH L L.length:=by rw[W]
 rw[Q];refine eO x.list.l.length (λi(q:Int×Mo (bU 8 Int) Int×bF)=>q.1=(i:Int)/\q.2.1=uH L L.length/\q.2.2.list=x.list/\q.2.2.next.l.length=i/\∀(j:Nat)(c:Zx)(s:Zg),j<i->L[j]?=some c->q.2.2.next.l[j]?=some s->s.l=ixs (rL L c))
  ⟨rfl,rfl,rfl,rfl,λj c s h=>absurd h Za⟩ ?_ ?_
 rintro i ⟨m,l,y⟩ w ⟨e,d,J,O,Y⟩;simp only at e d J O Y;subst e;subst d;unfold dJ.bS;rw[iA w,bO,bB w,ζb];have S:=X w;generalize al:x.list.l[i]=u at S;have E:=mem_of_getElem? S;have N:=k _ E;unfold dJ.W3;refine eO u.l.length (λp(q:Zg×Int×bF)=>q.2.1=(p:Int)/\q.1.l=ixs ((range p).filterMap λp=>if bump u.l p 1∈L then some (L.idxOf (bump u.l p 1))else none)/\q.1.l.length<=p/\q.2.2.list=x.list/\q.2.2.next=y.next)
  ⟨rfl,rfl,le_refl _,J,rfl⟩ ?_ ?_
 rintro p ⟨B,m,z⟩ T ⟨e,g1,g2,g3,g4⟩;simp only at e g1 g2 g3 g4;subst e;unfold dJ.dN jV;rw[show len u=(u.l.length:Int)from rfl,iA (s:=u) T,bO,ζb];have am:p<(nq 8 u.l).length:=by unfold nq;simp;omega
 have R:(mD 8 u).l[p]?=some u.l[p]:=by show(nq 8 u.l)[p]?=_;unfold nq;rw[take_of_length_le Za,List.getElem?_append_left T,ζd T]
 have Z:bU.at (mD 8 u) (p:Int)=some u.l[p]:=by unfold bU.at;rw[if_pos Za];simpa using R
 have F:=(G.mem _).1 E;obtain⟨P,V⟩:∃P,t.procs.l[p]?=some P:=⟨_,ζd Za⟩;have an:=F.1.2 p u.l[p] P (ζd T) V;have ah:=AN M n F;have ao:=ah.2 u.l[p] (getElem_mem T);rw[Z,ζb,ζb,jB _ Za Za];have aa:bU.set (mD 8 u) (p:Int) (u.l[p]+1)=mD 8 (.row (bump u.l p 1)):=by have:∀(a b:bU 8 Int),a.l=b.l->a=b:=λa b h=>(by cases a;cases b;cases h;rfl);apply this;show(nq 8 u.l).set _ _=nq 8 (bump u.l p 1);unfold nq bump;rw[take_of_length_le Za,take_of_length_le (by simp;omega)];rw[List.set_append_left _ _ (by simpa using T)];simp[T]
 rw[aa];have ai:(bump u.l p 1).length=t.procs.l.length:=by rw[PB];exact N
 have C:=Gr (m:=L.length) k v ai;rw[take_length]at C;have D:(range (p+1)).filterMap (λp=>if bump u.l p 1∈L then some (L.idxOf (bump u.l p 1))else none)=(range p).filterMap (λp=>if bump u.l p 1∈L then some (L.idxOf (bump u.l p 1))else none)++(if bump u.l p 1∈L then[L.idxOf (bump u.l p 1)]else[]):=by rw[List.range_succ,List.filterMap_append];congr 1;by_cases f:bump u.l p 1∈L<;>simp[f]
 by_cases f:bump u.l p 1∈L;rw[if_pos f]at C D;rw[show wK (uH L L.length) (mD 8 (.row (bump u.l p 1)))=true from by unfold wK;rw[C];rfl,bO];have⟨o,k1,k2⟩:=jx (s:=B) (x:=iD (uH L L.length) (mD 8 (.row (bump u.l p 1))) 0) Za;rw[k1,ζb,bf];refine⟨ct p Za,?_,?_,g3,g4⟩;show o.l=_;rw[k2,D,g1];unfold ixs iD;rw[C];simp;show o.l.length<=_;rw[k2,ζi,length_singleton];omega;rw[if_neg f]at C D;rw[show wK (uH L L.length) (mD 8 (.row (bump u.l p 1)))=false from by unfold wK;rw[C];rfl,bX,bf];exact⟨ct p Za,by show B.l=_;rw[D,append_nil];exact g1,by show B.l.length<=_;omega,g3,g4⟩;rintro⟨B,m,z⟩ ⟨e,g1,g2,g3,g4⟩;simp only at e g1 g2 g3 g4;subst e;unfold dJ.dN;rw[show len u=(u.l.length:Int)from rfl,hU (s:=u),bX,bf];have⟨o,k1,k2⟩:=jx (s:=z.next) (x:=B) (by rw[g4,O];omega);show Wp ((fP z.next B).bind _) _;rw[k1,ζb,bf];refine⟨ct i Za,rfl,g3,?_,λj c s hj U I=>?_⟩;show o.l.length=_;rw[k2,g4,ζi,O];rfl;replace I:o.l[j]?=some s:=I;rw[k2,g4]at I;by_cases aj:j<i;rw[List.getElem?_append_left Za]at I;exact Y j c s aj U I;have:j=i:=Za;subst this;rw[List.getElem?_append_right Za,O,Nat.sub_self]at I;cases I;rw[S]at U;cases U;exact g1;rintro⟨m,l,y⟩ ⟨e,d,H,K,Y⟩;simp only at e d H K Y;subst e;subst d;unfold dJ.bS;rw[hU,bX,bf];refine(bf _).2 ⟨_,rfl,by show ins y.list=L;rw[H];exact g,by show y.next.l.length=_;rw[K,W],λi c s w I=>Y i c s ?_ w I,rfl⟩;have:=(ζe.1 w).1;omega
end
section
variable{L:aY Zx}{f:Nat->Zl}
inductive Rc(L:List (List Int))(f:Nat->Bool):Nat->Prop
 |zero:Rc L f 0|step{i k:Nat}{c:List Int}:Rc L f i->f i=false->L[i]?=some c->k∈rL L c->Rc L f k
def wG(L:aY Zx):Prop:=∀(i k:Nat)c,L[i]?=some c->k∈rL L c->i<k/\k<L.length
def Jn(L:aY Zx)(f:Nat->Zl)(i k:Nat):Prop:=k=0\/∃j c,j<i/\Rc L f j/\f j=false/\L[j]?=some c/\k∈rL L c
theorem Sh(b:wG L){i k:Nat}(h:k<=i):Jn L f i k↔Rc L f k:=by constructor;rintro(rfl|⟨j,c,_,a,z,u,w⟩);exact .zero;exact .step a z u w;intro d;cases d with|zero=>exact .inl rfl|step a z u w=>exact .inr ⟨_,_,by have:=(b _ _ _ u w).1;omega,a,z,u,w⟩
theorem vA{i k:Nat}{c:Zx}(B:L[i]?=some c):Jn L f (i+1) k↔Jn L f i k\/(Rc L f i/\f i=false/\k∈rL L c):=by constructor;rintro(h|⟨j,d,C,a,w,u,z⟩);exact .inl (.inl h);by_cases e:j=i;subst e;rw[B]at u;cases u;exact .inr ⟨a,w,z⟩;exact .inl (.inr ⟨j,d,Za,a,w,u,z⟩);rintro((h|⟨j,d,C,a⟩)|⟨a,w,u⟩);exact .inl h;exact .inr ⟨j,d,Za,a⟩;exact .inr ⟨i,c,Za,a,w,B,u⟩
theorem NV{k:Nat}:Jn L f 0 k↔k=0:=⟨λh=>h.elim id λ⟨_,_,h,_⟩=>absurd h Za,.inl⟩
open Classical in
noncomputable def outs(L:aY Zx)(f:Nat->Zl):Nat->aY Zx
 |0=>[]|n+1=>outs L f n++if Rc L f n/\f n=true then L[n]?.toList else[]
theorem IQ{n:Nat}(h:¬(Rc L f n/\f n=true)):outs L f (n+1)=outs L f n:=by show _++_=_;rw[if_neg h,append_nil]
theorem Pf{n:Nat}{c:Zx}(h:Rc L f n)(B:f n=true)(hc:L[n]?=some c):outs L f (n+1)=outs L f n++[c]:=by show _++_=_;rw[if_pos ⟨h,B⟩,hc];rfl
theorem vc{r:Sl Zl}{k:Nat}(h:k<r.l.length):Sl.get r k=some (iO r k):=by unfold Sl.get iO;rw[ζd h];rfl
theorem u7{r s:Sl Zl}{k:Nat}(h:k<r.l.length)(B:s.l=r.l.set k true)(j:Nat):iO s j=true↔iO r j=true\/j=k:=by unfold iO;rw[B,getElem?_set];by_cases e:k=j;subst e;rw[if_pos rfl,if_pos h];simp;rw[if_neg e];simp[Ne.symm e]
theorem DI{n:Nat}(h:n<=2147483648):od (n:Int) (false:Zl)=some (.row (replicate n false)):=by unfold od;rw[if_pos ⟨Za,Za⟩];rfl
theorem DL{n k:Nat}:iO (.row (replicate n false)) k=false:=by unfold iO;show((replicate n false)[k]?).getD false=false;rw[getElem?_replicate];split<;>rfl
theorem My{n:Nat}(a:0<n)(h:n<=2147483648){β:Type}{k:Sl Zl->aZ β}{P:β->Prop}(b:∀r:Sl Zl,r.l.length=n->(∀j,iO r j=true↔j=0)->Wp (k r) P):
 Wp ((od (n:Int) (false:Zl)).bind λB=>(Sl.jc B 0).bind λG=>(Sl.put B G (true:Zl)).bind k) P:=by
 rw[DI h,ζb];have u:(Sl.row (replicate n false)).l.length=n:=by simp[Sl.l]
 rw[show(0:Int)=((0:Nat):Int)from rfl,kZ (by rw[u];exact a),ζb]
 have⟨r,c,w⟩:=put_eq (s:=Sl.row (replicate n false)) (p:=0) (x:=true) (by rw[u];exact a)
 rw[c,ζb];refine b r (by rw[w,length_set,u]) λj=>?_
 rw[u7 (by rw[u];exact a) w,DL];simp
theorem DM{l:Zv}{m:Nat}(h:m<l.length):(ixs l)[m]?=some (l[m]:Int):=by unfold ixs;rw[getElem?_map,ζd h];rfl
theorem DY{l:Zv}:(ixs l).length=l.length:=by unfold ixs;simp
end
section
variable{L:aY Zx}
theorem N7{x:bF}(U:TN L x)(l:wG L)(v:0<L.length)(N:L.length<=5000)(Y:∀c∈L,0<c.length/\c.length<=8){b:Sl Zl}(n:b.l.length=L.length):
 Wp (cI x b) λq=>(q=(.nil,false,b)/\Rc L (iO b) (L.length-1)/\iO b (L.length-1)=false)\/(q.2=(true,b)/\¬(Rc L (iO b) (L.length-1)/\iO b (L.length-1)=false)/\ins q.1=outs L (iO b) L.length):=by
 have z:x.list.l.length=L.length:=by rw[<-fL,U.list]
 have Z:∀{i:Nat}(Q:i<x.list.l.length),L[i]?=some x.list.l[i].l:=λQ=>by rw[<-U.list];exact nL Q
 unfold cI;rw[show(len x.list:Int)=((L.length:Nat):Int)from by show((x.list.l.length:Nat):Int)=_;rw[z]]
 refine My v Za λP y A=>?_
 unfold cI.W1;refine eO x.list.l.length (λi(q:Sl Zl×Zb×Int)=>q.2.2=(i:Int)/\q.1.l.length=L.length/\(∀k,k<L.length->(iO q.1 k=true↔Jn L (iO b) i k))/\ins q.2.1=outs L (iO b) i/\q.2.1.l.length<=i/\(i=L.length->¬(Rc L (iO b) (L.length-1)/\iO b (L.length-1)=false)))
  ⟨rfl,y,λk _=>(A k).trans NV.symm,rfl,le_refl _,λh=>absurd h Za⟩ ?_ ?_
 .rintro i ⟨r,o,_⟩ Q ⟨e,f,C,D,j,W⟩;simp only at e f C D j W;subst e;have w:i<L.length:=by omega
  unfold cI.bn;rw[show decide ((i:Int)<((L.length:Nat):Int))=true from decide_eq_true Za,bO,bB Q,ζb,kZ (by rw[f];exact w),ζb,vc (by rw[f];exact w),ζb]
  have u:=Z Q;have B:=mem_of_getElem? u;generalize x.list.l[i]=G at u B;have S:=(C i w).trans (Sh l (le_refl i));rw[bP];constructor
  .intro X;have I:=S.1 X;rw[kZ (by rw[n];exact w),ζb,vc (by rw[n];exact w),ζb,bP]
   constructor
   .intro J;have⟨d,E,F⟩:=ye (c:=G) (by have:=(Y _ B).2;omega) (Y _ B).1
    have⟨t,k1,k2⟩:=jx (s:=o) (x:=d) Za
    rw[E,ζb,k1,ζb,bf];refine⟨ct i Za,f,λk a=>(C k a).trans ⟨λh=>(vA u).2 (.inl h),λh=>((vA u).1 h).elim id λh=>by rw[J]at h;exact absurd h.2.1 Zc⟩,?_,?_,λh q=>?_⟩
    .show ins t=_;rw[Pf I J u,<-D];unfold ins;rw[k2];simp[F]
    .show t.l.length<=_;rw[k2];simp;omega
    rw[show L.length-1=i from Za,J]at q;exact absurd q.2 Zc
   intro J;rw[show(len x.list:Int)=((L.length:Nat):Int)from by show((x.list.l.length:Nat):Int)=_;rw[z],jB _ Za Za,bP]
   constructor
   .intro e;have e:(i:Int)=(L.length:Int)-1:=by simpa using e
    have e:L.length-1=i:=Za
    refine(bf _).2 ((bf _).2 (.inl ⟨rfl,?_,?_⟩))
    .rw[e];exact I
    rw[e];exact J
   intro e;have e:¬(i:Int)=(L.length:Int)-1:=by simpa using e
   have T:i<x.next.l.length:=by rw[U.len];exact w
   have g:=U.next i G.l _ u (ζd T);rw[bB T,ζb];generalize x.next.l[i]=s at g;have H:s.l.length=(rL L G.l).length:=by rw[g,DY]
   have R:(rL L G.l).length<=8:=by unfold rL;refine le_trans (List.length_filterMap_le _ _) ?_;rw[List.length_range];exact(Y _ B).2
   unfold cI.W2;refine eO s.l.length (λm(q:Sl Zl×Int×Int)=>q.2.2=(m:Int)/\q.2.1=len s/\q.1.l.length=L.length/\∀k,k<L.length->(iO q.1 k=true↔Jn L (iO b) i k\/k∈(rL L G.l).take m)) ⟨rfl,rfl,f,λk a=>(C k a).trans Zc⟩ ?_ ?_
   .rintro m ⟨r,_,_⟩ hm ⟨e1,e2,g1,g2⟩;simp only at e1 e2 g1 g2;subst e1;subst e2;unfold cI.bS;have O:m<(rL L G.l).length:=by omega
    have a:=l i _ _ u (getElem_mem O);rw[iA hm,bO,mX,g,DM O,ζb,kZ (by rw[g1];exact a.2),ζb]
    have⟨K,k1,k2⟩:=put_eq (s:=r) (p:=(rL L G.l)[m]) (x:=true) (by rw[g1];exact a.2)
    rw[k1,ζb,bf];refine⟨ct m Za,rfl,by show K.l.length=_;rw[k2,length_set,g1],λk M=>?_⟩
    rw[u7 (by rw[g1];exact a.2) k2,g2 k M,List.take_succ_eq_append_getElem O,mem_append,mem_singleton,or_assoc]
   rintro⟨r,_,_⟩ ⟨e1,e2,g1,g2⟩;simp only at e1 e2 g1 g2;subst e1;subst e2;unfold cI.bS;rw[hU,bX,bf];refine(bf _).2 ⟨ct i Za,g1,λk a=>?_,?_,by show o.l.length<=_;omega,λh=>absurd h Za⟩
   .rw[g2 k a,vA u,H,take_length];exact⟨λh=>h.imp id λh=>⟨I,J,h⟩,λh=>h.imp id λh=>h.2.2⟩
   show ins o=_;rw[IQ (λh=>by rw[J]at h;exact absurd h.2 Zc)];exact D
  intro X;have I:¬Rc L (iO b) i:=λh=>by rw[S.2 h]at X;cases X
  rw[bf];refine⟨ct i Za,f,λk a=>(C k a).trans ⟨λh=>(vA u).2 (.inl h),λh=>((vA u).1 h).elim id λh=>absurd h.1 I⟩,?_,by show o.l.length<=_;omega,λh q=>I ?_⟩
  .show ins o=_;rw[IQ (λh=>I h.1)];exact D
  rw[show L.length-1=i from Za]at q;exact q.1
 rintro⟨r,o,_⟩ ⟨e,f,C,D,j,W⟩;simp only at e f C D j W;subst e;unfold cI.bn;rw[show decide (((x.list.l.length:Nat):Int)<((L.length:Nat):Int))=false from decide_eq_false Za,bX,bf]
 refine(bf _).2 (.inr ⟨rfl,?_,?_⟩)
 .exact W z
 rw[<-z];exact D
end
theorem Eg{a b:Zg}(B:a.l.length<1073741824):kr a b=some (decide (a.l=b.l)):=(rfl:kr a b=dZ a b).trans (yT B)
def ps(L:aY Zx)(c:Zx)(n:Nat):Zv:=(range n).filter λp=>decide (bump c p 1∈L)
theorem DG(L:aY Zx)(c:Zx)(n:Nat):ps L c (n+1)=ps L c n++if bump c n 1∈L then[n]else[]:=by unfold ps;rw[List.range_succ,List.filter_append];congr 1;by_cases h:bump c n 1∈L<;>simp[h]
theorem Nt(L:aY Zx)(c:Zx):rL L c=(ps L c c.length).map λp=>L.idxOf (bump c p 1):=by unfold rL ps;induction range c.length with|nil=>rfl|cons a l u=>by_cases h:bump c a 1∈L<;>simp[h,u]
theorem Nf(L:aY Zx)(c:Zx):(ps L c c.length).length<=c.length:=by unfold ps;refine le_trans (List.length_filter_le _ _) ?_;rw[List.length_range];exact le_refl _
theorem HD{L:aY Zx}{c:Zx}{n p:Nat}:p∈ps L c n↔p<n/\bump c p 1∈L:=by unfold ps;simp
theorem Am{c:Zx}{p:Nat}{a:Int}(h:c[p]?=some a):bump c p 1=c.set p (a+1):=by unfold bump;rw[h];rfl
section
variable{t:Zj}{A:bU 200 bt}{L:aY Zx}
theorem Q5(g:Small t)(W:VT t)(Y:eR t (bQ t) A)(G:dF t A L){c:Zg}(d:Cons t A c.l){p:Nat}(f:p<c.l.length):
 ((tR t c (p:Int)).bind λl=>(bp l ((idx c (p:Int)).bind λm=>(oF t c (p:Int) m).bind λn=>some n) (some false):aZ Zl))=some (decide (bump c.l p 1∈L)):=by
 have s:=d.1.1;have z:p<t.procs.l.length:=Za
 have D:=ζd z;have I:=ζd f;have o:=d.1.2 p _ _ I D;have v:=(g.2 _ (getElem_mem z)).1;refine Wp.eq ?_;unfold tR;rw[bB f,ζb,bB z,ζb,ζb,Am I];generalize c.l[p]=a at *;have X:idx t.procs (p:Int)=some t.procs.l[p]:=bB z;generalize t.procs.l[p]=P at *;rw[bP];constructor
 .intro u;have u:a<(P.events.l.length:Int):=by simpa[len]using u
  have B:a.toNat<P.events.l.length:=Za
  rw[ζb];unfold oF;have J:jw t p a.toNat P.events.l[a.toNat]:=⟨P,D,ζd B⟩;rw[X,ζb,Ht o.1,ζd B,ζb];have O:=Cons.up W Y d D I u;have C:=G.mem (c.l.set p (a+1));have S:GN t A c.l p↔(P.events.l[a.toNat].kind=3->∃b,c.l[(ag A P.events.l[a.toNat].message).from_.proc.toNat]?=some b/\(ag A P.events.l[a.toNat].message).from_.index<=b):=by constructor;rintro⟨Q,e,x,U,Z,i,w⟩;rw[D]at U;cases U;rw[I]at Z;cases Z;rw[ζd B]at i;cases i;exact w;intro w;exact⟨P,_,a,D,I,ζd B,w⟩
  generalize P.events.l[a.toNat]=e at *;rw[dU,bP];constructor
  .intro w;have w:e.kind=3:=by simpa using w
   have⟨q,j,k,_,_,y,Q,U,_⟩:=tE W Y J w;have T:q<c.l.length:=by have:=(ζe.1 U).1;omega
   rw[find_eq g,zI W Y J w,ζb,k];simp only;rw[bB T,ζb,bf,bf];refine decide_eq_decide.2 ?_;rw[C,<-O,S,k];simp only[toNat_natCast,ζd T];constructor
   .intro h _;exact⟨_,rfl,h⟩
   intro h;have⟨b,r,h⟩:=h w;cases r;exact h
  intro w;have w:¬e.kind=3:=by simpa using w
  rw[bf,bf];refine(decide_eq_true ?_).symm;rw[C,<-O,S];exactλh=>absurd h w
 intro u;have u:¬a<(P.events.l.length:Int):=by simpa[len]using u
 rw[bf];refine(decide_eq_false λh=>?_).symm
 have h:=((G.mem _).1 h).1.2 p (a+1) P (by rw[List.getElem?_set_self f]) D
 omega
theorem Dk(O:Small t)(G:VT t)(U:eR t (bQ t) A)(B:dF t A L){c:Zg}(J:Cons t A c.l):Wp (fA t c) λr=>r.l=ixs (ps L c.l c.l.length):=by have D:=J.1.1;have I:=G.few;unfold fA fA.W1;refine eO c.l.length (λi(q:Zg×Int)=>q.2=(i:Int)/\q.1.l=ixs (ps L c.l i)/\q.1.l.length<=i) ⟨rfl,rfl,le_refl _⟩ ?_ ?_;rintro i ⟨o,_⟩ z ⟨e,a,w⟩;simp only at e a w;subst e;unfold fA.bn;rw[iA z,bO,<-Option.bind_assoc,Q5 O G U B J z,ζb];by_cases u:bump c.l i 1∈L;have⟨C,k1,k2⟩:=jx (s:=o) (x:=(i:Int)) Za;rw[decide_eq_true u,bO,k1,ζb,bf];refine⟨ct i Za,?_,?_⟩;show C.l=_;rw[k2,DG,if_pos u,a];unfold ixs;simp;show C.l.length<=_;rw[k2];simp;omega;rw[decide_eq_false u,bX,bf];exact⟨ct i Za,by show o.l=_;rw[DG,if_neg u,append_nil];exact a,by show o.l.length<=_;omega⟩;rintro⟨o,_⟩ ⟨e,a,w⟩;simp only at e a w;subst e;unfold fA.bn;rw[hU,bX,bf];exact(bf _).2 a
theorem Jr(G:Small t)(J:VT t){c:Zg}(O:Cons t A c.l){p:Nat}(B:p<c.l.length):∃d:Zg,qC c (p:Int)=some d/\d.l=bump c.l p 1:=by have w:=AN G J O;have Q:=w.1;have z:=ζd B;have C:=w.2 c.l[p] (getElem_mem B);unfold qC;have⟨r,D,u⟩:=tj (s:=Sl.row []) (x:=c) (show 0+c.l.length<=_ by omega);have u:r.l=c.l:=u;rw[D,ζb,kZ (by rw[u];exact B),ζb];unfold Sl.get;rw[u,z,ζb,ζb,jB _ Za Za];have⟨d,I,L⟩:=put_eq (s:=r) (p:=p) (x:=c.l[p]+1) (by rw[u];exact B);rw[I];exact⟨d,rfl,by rw[L,u,Am z]⟩
theorem wG.of(B:dF t A L):wG L:=λ_ _ _ h k=>Ub B h k
theorem G9(B:dF t A L){j:Nat}{d:Zx}(G:d∈L):L[j]?=some d↔j=L.idxOf d:=⟨λh=>(rR B.nodup h).symm,λh=>by rw[h];exact u6 G⟩
end
end Go.VE
namespace Go.VE
theorem Lc{t:Zj}(G:Small t)(J:t.procs.l.length<=8):Wp (gJ t) λs=>s.l=t.procs.l.map λP=>(P.events.l.length:Int):=by
 unfold gJ gJ.W1;refine eX (λs:Zg×Int=>∃n:Nat,s.2=n/\n<=t.procs.l.length/\s.1.l=(t.procs.l.take n).map λP=>(P.events.l.length:Int)) (λs=>t.procs.l.length-s.2.toNat) ⟨0,rfl,zero_le _,rfl⟩ ?_;rintro⟨o,i⟩ ⟨n,B,I,u⟩;simp only at B u;subst B;unfold gJ.bn;rw[bP];constructor;intro h;have w:n<t.procs.l.length:=by simpa[len]using h
 have C:=ct n Za;rw[bB w,ζb];unfold fP;have D:o.l.length=n:=by rw[u,List.length_map,length_take];omega
 rw[if_pos (show o.l.length+1<=2147483648 from Za),ζb,bf];refine⟨⟨n+1,C,Za,?_⟩,by show _-(wrap .i64 ((n:Int)+1)).toNat<_;rw[C];simp;omega⟩;show o.l++[len t.procs.l[n].events]=_;rw[take_add_one,ζd w,map_append,u];rfl;intro h;have z:t.procs.l.length<=n:=by simpa[len]using h
 rw[take_of_length_le z]at u;exact(bf _).2 ((bf _).2 u)
end Go.VE
