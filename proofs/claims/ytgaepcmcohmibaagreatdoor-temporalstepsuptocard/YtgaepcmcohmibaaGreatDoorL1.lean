/- The plain law. -/
import Derived.Test.YtgaepcmcohmibaaGreatDoorK1
import Derived.Test.YtgaepcmcohmibaaGreatDoorG1
set_option linter.all false
open List(Nodup Pairwise all_eq_true drop_eq_getElem_cons drop_of_length_le ext_getElem? finRange getElem?_eq_none getElem?_map getElem?_set getElem?_take getElem_mem length_cons length_singleton length_take mapM_cons map_append map_cons map_map map_nil mem_append mem_append_left mem_cons mem_cons_of_mem mem_iff_getElem mem_map mem_of_getElem? mem_of_mem_take mem_range mem_singleton pairwise_append pairwise_cons pairwise_map range range' replicate sum_cons sum_nil take_add_one take_length take_of_length_le zipWith)
open Option(bind_eq_bind getD_none getD_some pure_def)
open Go.IntKind(signed wrap)
open Nat(le_refl zero_le)
open Bool(false_eq_true not_eq_true' or_eq_true)
open ByteArray(toList)
open Relation(TransGen)
open Classical(byContradiction)
open Int(toNat toNat_natCast)
open UInt8(ofNat)
namespace Go.VE
theorem Zh{p:Prop}(h:p:=by kernel_rfl):p:=h
instance:ck Var where
 wt x:=ck.wt x.name+ck.wt x.init_+1
 ok x:=ck.ok x.name/\ck.ok x.init_/\True
instance:ck Assign where
 wt x:=ck.wt x.var+ck.wt x.value+1
 ok x:=ck.ok x.var/\ck.ok x.value/\True
instance:ck Zn where
 wt x:=ck.wt x.kind+ck.wt x.peer+ck.wt x.message+ck.wt x.time+ck.wt x.assign+1
 ok x:=ck.ok x.kind/\ck.ok x.peer/\ck.ok x.message/\ck.ok x.time/\ck.ok x.assign/\True
instance:ck cn where
 wt x:=ck.wt x.name+ck.wt x.vars+ck.wt x.events+1
 ok x:=ck.ok x.name/\ck.ok x.vars/\ck.ok x.events/\True
instance:ck Zj where
 wt x:=ck.wt x.procs+1
 ok x:=ck.ok x.procs/\True
instance:ck bQ where
 wt x:=ck.wt x.t+ck.wt x.l+ck.wt x.next+1
 ok x:=ck.ok x.t/\ck.ok x.l/\ck.ok x.next/\True
mutual
def Pred.Ur:Pred->Nat
 |⟨f0,f1,B,D,G,f5⟩=>ck.wt f0+ck.wt f1+ck.wt B+ck.wt D+ck.wt G+Pred.Vq f5+1
def Pred.Vq:Sl Pred->Nat
 |.nil=>1|.emp=>1|.row l=>Pred.Tc l+1|.part l=>Pred.Tc l+1
def Pred.Tc:aX Pred->Nat
 |[]=>0|x::r=>Pred.Ur x+Pred.Tc r
end
mutual
def Pred.UJ:Pred->Prop
 |⟨f0,f1,B,D,G,f5⟩=>ck.ok f0/\ck.ok f1/\ck.ok B/\ck.ok D/\ck.ok G/\Pred.VF f5/\True
def Pred.VF:Sl Pred->Prop
 |.nil=>True|.emp=>False|.row l=>Pred.RS l|.part l=>Pred.RS l
def Pred.RS:aX Pred->Prop
 |[]=>True|x::r=>Pred.UJ x/\Pred.RS r
end
instance:ck Pred where
 wt:=Pred.Ur
 ok:=Pred.UJ
end Go.VE
namespace Go.VE.YtgaepcmcohmibaaGreatDoor
open Go.Proofs Go.Proofs.YtgaepcmcohmibaaGreatDoor
instance VW:Reads Tryz.prog 9 Zq:=Reads.str Tryz.underlying9 Zh
instance VX:Reads Tryz.prog 3 Int:=Reads.int Tryz.underlying3 Zh
instance VJ:Reads Tryz.prog 133 Var:=by refine Reads.st Tryz.underlying133 Zh rfl ?_;intro H enc w base a c u I l J h;simp only[mapM_cons,List.mapM_nil,pure_def,bind_eq_bind,ζg,ζa]at h;obtain⟨z,L,O,⟨B,e,Q,rfl,rfl⟩,rfl⟩:=h;have⟨a0,C,k0,S⟩:=Reads.rd (P:=Tryz.prog) (t:=9) (α:=Zq) (d:=z.1) (ps:=z.2) L;rw[show Tryz.prog.cellsOf 9=1 from by kernel_rfl]at C;have⟨a1,D,k1,T⟩:=Reads.rd (P:=Tryz.prog) (t:=3) (α:=Int) (d:=B.1) (ps:=B.2) e;rw[show Tryz.prog.cellsOf 3=1 from by kernel_rfl]at D;refine⟨⟨a0,a1⟩,fH.fin (n:=2) (fH.seg (o:=1) (n:=1) (fH.seg (o:=0) (n:=1) (show fH (snap w) [] (I.take 0)from by simpa using fH.nil) C) D) J,⟨k0,k1,trivial⟩,λb G=>?_⟩;have U:=S b G;have W:=T b G;show ck.wt a0+ck.wt a1+1<=_;simp only[map_cons,map_nil,sum_cons,sum_nil];omega
instance VR:Reads Tryz.prog 49 (Sl Var):=Reads.sl (e:=133) Tryz.underlying49 Zh (by decide)
instance VH:Reads Tryz.prog 139 Assign:=by refine Reads.st Tryz.underlying139 Zh rfl ?_;intro H enc w base a c u I l J h;simp only[mapM_cons,List.mapM_nil,pure_def,bind_eq_bind,ζg,ζa]at h;obtain⟨z,L,O,⟨B,e,Q,rfl,rfl⟩,rfl⟩:=h;have⟨a0,C,k0,S⟩:=Reads.rd (P:=Tryz.prog) (t:=3) (α:=Int) (d:=z.1) (ps:=z.2) L;rw[show Tryz.prog.cellsOf 3=1 from by kernel_rfl]at C;have⟨a1,D,k1,T⟩:=Reads.rd (P:=Tryz.prog) (t:=3) (α:=Int) (d:=B.1) (ps:=B.2) e;rw[show Tryz.prog.cellsOf 3=1 from by kernel_rfl]at D;refine⟨⟨a0,a1⟩,fH.fin (n:=2) (fH.seg (o:=1) (n:=1) (fH.seg (o:=0) (n:=1) (show fH (snap w) [] (I.take 0)from by simpa using fH.nil) C) D) J,⟨k0,k1,trivial⟩,λb G=>?_⟩;have U:=S b G;have W:=T b G;show ck.wt a0+ck.wt a1+1<=_;simp only[map_cons,map_nil,sum_cons,sum_nil];omega
instance VO:Reads Tryz.prog 55 (Sl Assign):=Reads.sl (e:=139) Tryz.underlying55 Zh (by decide)
instance VN:Reads Tryz.prog 57 Zn:=by refine Reads.st Tryz.underlying57 Zh rfl ?_;intro H enc w base a c z U l W h;simp only[mapM_cons,List.mapM_nil,pure_def,bind_eq_bind,ζg,ζa]at h;obtain⟨B,X,Y,⟨C,e,Z,⟨x2,f,r,⟨D,g,s,⟨G,i,v,rfl,rfl⟩,rfl⟩,rfl⟩,rfl⟩,rfl⟩:=h;have⟨a0,I,k0,j⟩:=Reads.rd (P:=Tryz.prog) (t:=3) (α:=Int) (d:=B.1) (ps:=B.2) X;rw[show Tryz.prog.cellsOf 3=1 from by kernel_rfl]at I;have⟨a1,J,k1,k⟩:=Reads.rd (P:=Tryz.prog) (t:=3) (α:=Int) (d:=C.1) (ps:=C.2) e;rw[show Tryz.prog.cellsOf 3=1 from by kernel_rfl]at J;have⟨a2,L,k2,m⟩:=Reads.rd (P:=Tryz.prog) (t:=3) (α:=Int) (d:=x2.1) (ps:=x2.2) f;rw[show Tryz.prog.cellsOf 3=1 from by kernel_rfl]at L;have⟨O,Q,k3,p⟩:=Reads.rd (P:=Tryz.prog) (t:=3) (α:=Int) (d:=D.1) (ps:=D.2) g;rw[show Tryz.prog.cellsOf 3=1 from by kernel_rfl]at Q;have⟨S,T,k4,q⟩:=Reads.rd (P:=Tryz.prog) (t:=55) (α:=(Sl Assign)) (d:=G.1) (ps:=G.2) i;rw[show Tryz.prog.cellsOf 55=1 from by kernel_rfl]at T;refine⟨⟨a0,a1,a2,O,S⟩,fH.fin (n:=5) (fH.seg (o:=4) (n:=1) (fH.seg (o:=3) (n:=1) (fH.seg (o:=2) (n:=1) (fH.seg (o:=1) (n:=1) (fH.seg (o:=0) (n:=1) (show fH (snap w) [] (U.take 0)from by simpa using fH.nil) I) J) L) Q) T) W,⟨k0,k1,k2,k3,k4,trivial⟩,λb u=>?_⟩;have x:=j b u;have y:=k b u;have A:=m b u;have E:=p b u;have F:=q b u;show ck.wt a0+ck.wt a1+ck.wt a2+ck.wt O+ck.wt S+1<=_;simp only[map_cons,map_nil,sum_cons,sum_nil];omega
instance VV:Reads Tryz.prog 50 (Sl Zn):=Reads.sl (e:=57) Tryz.underlying50 Zh (by decide)
instance VS:Reads Tryz.prog 52 cn:=by refine Reads.st Tryz.underlying52 Zh rfl ?_;intro H enc w base a c z J l L h;simp only[mapM_cons,List.mapM_nil,pure_def,bind_eq_bind,ζg,ζa]at h;obtain⟨B,O,Q,⟨C,e,S,⟨x2,T,U,rfl,rfl⟩,rfl⟩,rfl⟩:=h;have⟨a0,D,k0,W⟩:=Reads.rd (P:=Tryz.prog) (t:=9) (α:=Zq) (d:=B.1) (ps:=B.2) O;rw[show Tryz.prog.cellsOf 9=1 from by kernel_rfl]at D;have⟨a1,G,k1,X⟩:=Reads.rd (P:=Tryz.prog) (t:=49) (α:=(Sl Var)) (d:=C.1) (ps:=C.2) e;rw[show Tryz.prog.cellsOf 49=1 from by kernel_rfl]at G;have⟨a2,I,k2,Y⟩:=Reads.rd (P:=Tryz.prog) (t:=50) (α:=(Sl Zn)) (d:=x2.1) (ps:=x2.2) T;rw[show Tryz.prog.cellsOf 50=1 from by kernel_rfl]at I;refine⟨⟨a0,a1,a2⟩,fH.fin (n:=3) (fH.seg (o:=2) (n:=1) (fH.seg (o:=1) (n:=1) (fH.seg (o:=0) (n:=1) (show fH (snap w) [] (J.take 0)from by simpa using fH.nil) D) G) I) L,⟨k0,k1,k2,trivial⟩,λb u=>?_⟩;have Z:=W b u;have f:=X b u;have g:=Y b u;show ck.wt a0+ck.wt a1+ck.wt a2+1<=_;simp only[map_cons,map_nil,sum_cons,sum_nil];omega
instance VP:Reads Tryz.prog 22 (Sl cn):=Reads.sl (e:=52) Tryz.underlying22 Zh (by decide)
instance VQ:Reads Tryz.prog 24 Zj:=by refine Reads.st Tryz.underlying24 Zh rfl ?_;intro H enc w base a c u C l D h;simp only[mapM_cons,List.mapM_nil,pure_def,bind_eq_bind,ζg,ζa]at h;obtain⟨z,G,I,rfl,rfl⟩:=h;have⟨a0,B,k0,J⟩:=Reads.rd (P:=Tryz.prog) (t:=22) (α:=(Sl cn)) (d:=z.1) (ps:=z.2) G;rw[show Tryz.prog.cellsOf 22=1 from by kernel_rfl]at B;refine⟨⟨a0⟩,fH.fin (n:=1) (fH.seg (o:=0) (n:=1) (show fH (snap w) [] (C.take 0)from by simpa using fH.nil) B) D,⟨k0,trivial⟩,λb L=>?_⟩;have O:=J b L;show ck.wt a0+1<=_;simp only[map_cons,map_nil,sum_cons,sum_nil];omega
instance VY:Reads Tryz.prog 4 Zl:=Reads.bool Tryz.underlying4 Zh
instance VU:Reads Tryz.prog 25 (Sl Zl):=Reads.sl (e:=4) Tryz.underlying25 Zh (by decide)
end Go.VE.YtgaepcmcohmibaaGreatDoor
namespace Go.VE
end Go.VE
namespace Go.VE
abbrev LU{α:Type}(m:aY α):Prop:=Wp m λ_=>True
theorem LU.get{α:Type}{m:aY α}(h:LU m):∃a,m=some a:=let⟨a,e,_⟩:=h;⟨a,e⟩
theorem LU.ok{m:aY Zl}(h:LU m):m=some (m.getD false):=by have⟨a,e,_⟩:=h;rw[e];rfl
def Small(t:Zj):Prop:=t.procs.l.length<1073741824/\∀p∈t.procs.l,p.events.l.length<1073741824/\p.vars.l.length<1073741824/\p.name.size<1073741824/\(∀v∈p.vars.l,v.name.size<1073741824)/\∀e∈p.events.l,e.assign.l.length<1073741824
section
theorem IN{s:Sl Zn}{p:Zn->aY Zl}{f:Zn->Zl}(B:∀x∈s.l,p x=some (f x))(D:s.l.length<1073741824):fu s p=some (place f s.l):=qW B Za (λi=>rfl)
theorem LB{s:Sl cn}{p:cn->aY Zl}{f:cn->Zl}(B:∀x∈s.l,p x=some (f x))(D:s.l.length<1073741824):fR s p=some (place f s.l):=qW B Za (λi=>rfl)
theorem No{s:Sl Var}{p:Var->aY Zl}{f:Var->Zl}(B:∀x∈s.l,p x=some (f x))(D:s.l.length<1073741824):gm s p=some (place f s.l):=qW B Za (λi=>rfl)
theorem Hr{s:Sl Assign}{p:Assign->aY Zl}{f:Assign->Zl}(B:∀x∈s.l,p x=some (f x))(D:s.l.length<1073741824):eS s p=some (place f s.l):=qW B Za (λi=>rfl)
theorem xd{s:Sl Zn}{p:Zn->aY Zl}{f:Zn->Zl}(B:∀x∈s.l,p x=some (f x))(D:s.l.length<1073741824):gJ s p=some (s.l.any f):=by unfold gJ;rw[IN B D,ζb,tu]
theorem yf{s:Sl cn}{p:cn->aY Zl}{f:cn->Zl}(B:∀x∈s.l,p x=some (f x))(D:s.l.length<1073741824):fJ s p=some (s.l.any f):=by unfold fJ;rw[LB B D,ζb,tu]
theorem HF{s:Sl Var}{p:Var->aY Zl}{f:Var->Zl}(B:∀x∈s.l,p x=some (f x))(D:s.l.length<1073741824):iq s p=some (s.l.any f):=by unfold iq;rw[No B D,ζb,tu]
theorem C0{s:Sl Assign}{p:Assign->aY Zl}{f:Assign->Zl}(B:∀x∈s.l,p x=some (f x))(D:s.l.length<1073741824):gp s p=some (s.l.any f):=by unfold gp;rw[Hr B D,ζb,tu]
theorem nW(x B D:Int):mq x B D=some (decide (B<=x)&&decide (x<=D)):=by unfold mq;rw[mS];rfl
theorem IQ{s:Zq}{i:Nat}(h:i<s.size):∃x,j8 s (i:Int)=some x:=by unfold j8;rw[if_pos Za];exact⟨_,by rw[show(s[(i:Int).toNat]?)=some s[i]from by simp[h]];rfl⟩
def jU(n:Nat)(p:Int)(e:Zn):Prop:=e.kind=1\/((e.kind=2\/e.kind=3)/\0<=e.peer/\e.peer<n/\e.peer≠p/\0<=e.message/\e.message<=199)
end
def ko(t:Zj)(p k:Nat)(e:Zn):Prop:=∃P,t.procs.l[p]?=some P/\P.events.l[k]?=some e
theorem sO{p:Int}{x:aZ×Zn}:∀{es:aX Zn}{j:Int},x∈hD p j es↔∃k:Nat,es[k]?=some x.2/\x.1=⟨p,j+k+1⟩
 |[],j=>by simp[hD]|e::es,j=>by simp[hD,sO];constructor;rintro(rfl|⟨k,a,B⟩);exact⟨0,rfl,Zc⟩;exact⟨k+1,Zd,Zd⟩;grind
theorem tR{x:aZ×Zn}:∀{ps:aX cn}{i:Int},x∈eY i ps↔∃(a k:Nat)(P:cn),ps[a]?=some P/\P.events.l[k]?=some x.2/\x.1=⟨i+a,k+1⟩
 |[],i=>by simp[eY]|p::ps,i=>by simp only[eY,mem_append,sO,tR];constructor;rintro(⟨k,b,B⟩|⟨a,k,P,b,B,D⟩);exact⟨0,k,p,rfl,b,Zd⟩;exact⟨a+1,k,P,Ze,B,Zd⟩;grind
abbrev bO(t:Trace):aX (aZ×Event):=eY 0 t.procs.l
theorem dK{t:Zj}{x:aZ×Zn}:x∈bO t↔∃p k:Nat,ko t p k x.2/\x.1=⟨p,k+1⟩:=by rw[tR];constructor;rintro⟨a,k,P,b,u,w⟩;exact⟨a,k,⟨P,b,u⟩,Zd⟩;rintro⟨a,k,⟨P,b,u⟩,w⟩;grind
theorem Ap{t:Zj}{x y:aZ×Zn}(B:x∈bO t)(D:y∈bO t)(h:x.1=y.1):x=y:=by have⟨p,k,⟨P,u,a⟩,e1⟩:=dK.1 B;have⟨q,j,⟨Q,w,z⟩,e2⟩:=dK.1 D;grind
theorem tX{t:Zj}(B:Small t):iF t=some (bO t):=by unfold iF;rw[if_pos];simp[ED];exact⟨by have:=B.1;omega,λp u=>by have:=(B.2 p u).1;omega⟩
def rM(t:Zj)(p m a:Int):Zl:=match t.procs.l[p.toNat]?with
 |some P=>P.events.l.any λe=>e.kind==2&&e.message==m&&e.peer==a|none=>false
theorem On{t:Zj}(B:Small t){p:Int}(D:0<=p)(b:p<t.procs.l.length)(m a:Int):s6 t p m a=some (rM t p m a):=by unfold s6;have u:p.toNat<t.procs.l.length:=Za;have w:=getElem_mem u;rw[N0 D,ζd u,ζb,xd (f:=λe=>e.kind==2&&e.message==m&&e.peer==a) (λe _=>by unfold pq;simp[mS]) (B.2 _ w).1,ζb];unfold rM;grind
theorem AW{t:Zj}{p:Nat}{m a:Int}:rM t p m a=true↔∃k e,ko t p k e/\e.kind=2/\e.message=m/\e.peer=a:=by unfold rM ko;rw[show(p:Int).toNat=p from rfl];cases w:t.procs.l[p]?with|none=>simp|some P=>simp;constructor;rintro⟨e,u,h⟩;have⟨k,b⟩:=List.getElem?_of_mem u;grind;grind
def ag(A:cm 200 br)(m:Int):br:=(A.at m).getD default
theorem Jm(A:cm 200 br){m:Int}(B:0<=m)(a:m<=199):A.at m=some (ag A m):=by
 have:m.toNat<A.l.length:=by rw[A.len];omega
 unfold ag cm.at;grind
theorem pQ(A:cm 200 br){m m':Int}(x:br)(B:0<=m)(a:m<=199)(D:0<=m'):ag (A.set m x) m'=if m'=m then x else ag A m':=by
 have:m.toNat<A.l.length:=by rw[A.len];omega
 unfold ag cm.at cm.set;grind
theorem KL{m:Int}(B:0<=m)(a:m<=199):ag (cm.Ld 200 (⟨⟨0,0⟩,⟨0,0⟩⟩:br)) m=⟨⟨0,0⟩,⟨0,0⟩⟩:=by unfold ag cm.at cm.Ld;grind
structure gj(t:Trace)(its:List (aZ×Event))(A:cm 200 br):Prop where
 snd:∀x∈its,x.2.kind=2->(ag A x.2.message).from_=x.1
 rcv:∀x∈its,x.2.kind=3->(ag A x.2.message).to_=x.1/\rM t x.2.peer x.2.message x.1.proc=true
 fr:∀m,0<=m->m<=199->(ag A m).from_.index=0\/∃e,((ag A m).from_,e)∈its/\e.kind=2/\e.message=m
 to:∀m,0<=m->m<=199->(ag A m).to_.index=0\/∃e,((ag A m).to_,e)∈its/\e.kind=3/\e.message=m
def JU(a b:aZ×Zn):Prop:=a.1.proc<b.1.proc\/a.1.proc=b.1.proc/\a.1.index<b.1.index
theorem Ml{p:Int}:∀{es:aX Zn}{j:Int},(hD p j es).Pairwise JU
 |[],_=>Pairwise.nil|e::es,j=>by simp only[hD,pairwise_cons];refine⟨λb B=>?_,Ml⟩;have⟨k,_,D⟩:=sO.1 B;refine .inr ⟨by rw[D],?_⟩;grind
theorem Gb:∀{ps:aX cn}{i:Int},(eY i ps).Pairwise JU
 |[],_=>Pairwise.nil|P::ps,i=>by simp only[eY,pairwise_append];refine⟨Ml,Gb,λa B b D=>.inl ?_⟩;have⟨k,_,G⟩:=sO.1 B;have⟨c,j,P,_,_,u⟩:=tR.1 D;grind
theorem E5{t:Zj}{k:Nat}{x y:aZ×Zn}(B:(bO t)[k]?=some x)(D:y∈(bO t).take k):y.1≠x.1:=by
 have⟨a,u⟩:=ζe.1 B;have w:((bO t).take k++(bO t).drop k).Pairwise JU:=by rw[List.take_append_drop];exact Gb
 have:=(pairwise_append.1 w).2.2 y D x (by rw[drop_eq_getElem_cons a,u];grind);unfold JU at this;grind
structure vT(t:Trace):Prop where
 snd:∀x∈bO t,∀y∈bO t,x.2.kind=2->y.2.kind=2->x.2.message=y.2.message->x.1=y.1
 rcv:∀x∈bO t,∀y∈bO t,x.2.kind=3->y.2.kind=3->x.2.message=y.2.message->x.1=y.1
 has:∀x∈bO t,x.2.kind=3->rM t x.2.peer x.2.message x.1.proc=true
theorem gj.LS{t:Zj}{A:cm 200 br}(h:gj t (bO t) A):vT t:=⟨λx w y z k2 u B=>by rw[<-h.snd x w k2,<-h.snd y z u,B],λx w y z k2 u B=>by rw[<-(h.rcv x w k2).1,<-(h.rcv y z u).1,B],λx w k=>(h.rcv x w k).2⟩
theorem Bj{t:Zj}(l:Small t)(i:∀x∈bO t,jU t.procs.l.length x.1.proc x.2):Wp (en t) λr=>(r.2.2=0->∃A,r.1=some A/\gj t (bO t) A)/\(vT t->r.2.2=0):=by
 unfold en jv;rw[ζb];unfold en.E1;rw[tX l,ζb];refine zh (λk A=>gj t ((bO t).take k) A) ⟨Zc,Zc,λm L b=>.inl (by rw[KL L b]),λm L b=>.inl (by rw[KL L b])⟩ ?_ ?_;intro k x A f B;have G:=mem_of_getElem? f;have T:(bO t).take (k+1)=(bO t).take k++[x]:=by rw[take_add_one,f];rfl
 have⟨p,j,F,H⟩:=dK.1 G;have n:=i x G;unfold en.si;rw[b9];constructor;intro c;have O:x.2.kind=2:=by grind
 have u:0<=x.2.message/\x.2.message<=199:=by rcases n with h|⟨_,_,_,_,h⟩;omega;simp_all
 rw[Jm A u.1 u.2,ζb,b9];refine⟨λo=>(a_ _).2 ((a_ _).2 ⟨λh=>(by cases h),λY=>?_⟩),λL=>?_⟩;rcases B.fr _ u.1 u.2 with Z|⟨e,Q,U,W⟩;grind;exact absurd (Y.snd _ (mem_of_mem_take Q) x G U O W) (E5 f Q);rw[ζb,a_,T];have X:∀y∈(bO t).take k,y.2.kind=2->y.2.message≠x.2.message:=λy a w Q=>by have:=B.snd y a w;rw[Q]at this;have⟨p',q,_,S⟩:=dK.1 (mem_of_mem_take a);grind
 have d:∀y∈(bO t).take k,y.2.kind=2\/y.2.kind=3->0<=y.2.message:=λy a w=>by rcases i y (mem_of_mem_take a)with h|⟨_,_,_,_,h,_⟩;omega;simp_all
 refine⟨λy a w=>?_,λy a z=>?_,λm C I=>?_,λm C I=>?_⟩;rcases mem_append.1 a with a|a;rw[pQ A _ u.1 u.2 (d y a (.inl w)),if_neg (X y a w)];exact B.snd y a w;simp at a;subst a;rw[pQ A _ u.1 u.2 u.1,if_pos rfl];rcases mem_append.1 a with a|a;rw[pQ A _ u.1 u.2 (d y a (.inr z))];have:=B.rcv y a z;grind;grind;rw[pQ A _ u.1 u.2 C];split;next e=>exact .inr ⟨x.2,Zc,O,e.symm⟩
 exact(B.fr m C I).imp (λh=>h) λ⟨e,b,D⟩=>⟨e,mem_append_left _ b,D⟩;rw[pQ A _ u.1 u.2 C];have:=(B.to m C I).imp (λh=>h) λ⟨e,b,D⟩=>(⟨e,mem_append_left [x] b,D⟩:∃e,((ag A m).to_,e)∈(bO t).take k++[x]/\e.kind=3/\e.message=m);split;next e=>subst e;omega
 omega;intro c;have O:=by simpa using c
 rw[b9];constructor;intro c;have J:=by simpa using c
 have u:0<=x.2.message/\x.2.message<=199/\0<=x.2.peer/\x.2.peer<t.procs.l.length:=by rcases n with h|⟨_,b,D,_,v,E⟩;omega;exact⟨v,E,b,D⟩
 rw[Jm A u.1 u.2.1,ζb,b9];refine⟨λo=>(a_ _).2 ((a_ _).2 ⟨λh=>(by cases h),λY=>?_⟩),λL=>?_⟩;rcases B.to _ u.1 u.2.1 with Z|⟨e,Q,U,W⟩;simp[Z]at o;exact absurd (Y.rcv _ (mem_of_mem_take Q) x G U J W) (E5 f Q);have L:¬(ag A x.2.message).to_.index>0:=by simpa using L
 rw[On l u.2.2.1 u.2.2.2,ζb,b9];refine⟨λg=>?_,λg=>(a_ _).2 ((a_ _).2 ⟨λh=>(by cases h),λY=>by rw[Y.has x G J]at g;cases g⟩)⟩;rw[ζb,a_,T];have X:∀y∈(bO t).take k,y.2.kind=3->y.2.message≠x.2.message:=λy a w Q=>by have:=(B.rcv y a w).1;rw[Q]at this;rw[this]at L;have⟨p',q,_,S⟩:=dK.1 (mem_of_mem_take a);rw[S]at L;exact L (by show(q:Int)+1>0;omega)
 have d:∀y∈(bO t).take k,y.2.kind=2\/y.2.kind=3->0<=y.2.message:=λy a w=>by rcases i y (mem_of_mem_take a)with h|⟨_,_,_,_,h,_⟩;omega;exact h
 refine⟨λy a w=>?_,λy a z=>?_,λm C I=>?_,λm C I=>?_⟩;rcases mem_append.1 a with a|a;rw[pQ A _ u.1 u.2.1 (d y a (.inl w))];have:=B.snd y a w;split;next e=>rw[e]at this;exact this
 exact this;simp at a;subst a;omega;rcases mem_append.1 a with a|a;rw[pQ A _ u.1 u.2.1 (d y a (.inr z)),if_neg (X y a z)];exact B.rcv y a z;simp at a;subst a;rw[pQ A _ u.1 u.2.1 u.1,if_pos rfl];exact⟨rfl,g⟩;rw[pQ A _ u.1 u.2.1 C];have:=(B.fr m C I).imp (λh=>h) λ⟨e,b,D⟩=>(⟨e,mem_append_left [x] b,D⟩:∃e,((ag A m).from_,e)∈(bO t).take k++[x]/\e.kind=2/\e.message=m);split;next e=>subst e;exact this
 exact this;rw[pQ A _ u.1 u.2.1 C];split;next e=>exact .inr ⟨x.2,Zc,J,e.symm⟩
 exact(B.to m C I).imp (λh=>h) λ⟨e,b,D⟩=>⟨e,mem_append_left _ b,D⟩;intro c;have J:=by simpa using c
 rw[a_,T];refine⟨λy a w=>?_,λy a z=>?_,λm C I=>?_,λm C I=>?_⟩;rcases mem_append.1 a with a|a;exact B.snd y a w;simp at a;subst a;exact absurd w O;rcases mem_append.1 a with a|a;exact B.rcv y a z;simp at a;subst a;exact absurd z J;exact(B.fr m C I).imp (λh=>h) λ⟨e,b,D⟩=>⟨e,mem_append_left _ b,D⟩;exact(B.to m C I).imp (λh=>h) λ⟨e,b,D⟩=>⟨e,mem_append_left _ b,D⟩;intro A s;rw[take_length]at s;exact(a_ _).2 ⟨λ_=>⟨A,rfl,s⟩,λ_=>rfl⟩
def iy(f:Nat->Zl)(k n:Nat):Zl:=(range' k (n-k)).any f
theorem Dr{f:Nat->Zl}{k n:Nat}(h:k<n):iy f k n=(f k||iy f (k+1) n):=by unfold iy;rw[show n-k=(n-(k+1))+1 from Za,List.range'_succ];rfl
theorem Nj{f:Nat->Zl}{k n:Nat}(h:n<=k):iy f k n=false:=by unfold iy;rw[show n-k=0 from Za];rfl
theorem NL{f:Nat->Zl}{k n:Nat}:iy f k n=true↔∃i,k<=i/\i<n/\f i=true:=by unfold iy;rw[List.any_eq_true];constructor;rintro⟨i,w,u⟩;rw[List.mem_range'_1]at w;exact⟨i,w.1,Za,u⟩;rintro⟨i,a,z,u⟩;exact⟨i,by rw[List.mem_range'_1];omega,u⟩
theorem Cr{step:Int->aY (Fw Int Unit Unit)}{n:Nat}(f:Nat->Zl)(D:n<9223372036854775807)(a:∀i:Nat,i<n->step i=some (if f i then .r ()else .n (wrap .i64 ((i:Int)+1))))(B:step (n:Int)=some (.x ())):
 ∀m k:Nat,k+m=n->bM step (k:Int)=some (if iy f k n then .r ()else .x ()):=by
 intro m
 induction m with
 |zero=>
  intro k b;have:k=n:=Za
  subst this;rw[iJ,B,Nj (le_refl _)];rfl
 |succ m u=>
  intro k b;rw[iJ,a k Za,Dr Za]
  cases w:f k with
  |true=>rfl|false=>
   simp only[false_eq_true,if_false,ζb,Bool.false_or];rw[cK k Za]
   exact u (k+1) Za
def nj(g:Nat->Int)(k n:Nat):Int:=match(range' k (n-k)).find? λi=> !(g i==0)with
 |some i=>g i|none=>0
theorem Lm{g:Nat->Int}{k n:Nat}(h:k<n):nj g k n=if g k=0 then nj g (k+1) n else g k:=by unfold nj;rw[show n-k=(n-(k+1))+1 from Za,List.range'_succ,List.find?_cons];by_cases u:g k=0;simp[u];rw[if_neg u,show(!(g k==0))=true from by simp[u]]
theorem M8{g:Nat->Int}{k n:Nat}(h:n<=k):nj g k n=0:=by unfold nj;rw[show n-k=0 from Za];rfl
theorem Qy{step:Int->aY (Fw Int Unit Int)}{n:Nat}(g:Nat->Int)(D:n<9223372036854775807)(a:∀i:Nat,i<n->step i=some (if g i=0 then .n (wrap .i64 ((i:Int)+1))else .r (g i)))(B:step (n:Int)=some (.x ())):
 ∀m k:Nat,k+m=n->bM step (k:Int)=some (if nj g k n=0 then .x ()else .r (nj g k n)):=by
 intro m
 induction m with
 |zero=>
  intro k b;have:k=n:=Za
  subst this;rw[iJ,B,M8 (le_refl _)];rfl
 |succ m w=>
  intro k b;rw[iJ,a k Za,Lm Za]
  by_cases u:g k=0
  .simp only[u,if_true,ζb];rw[cK k Za]
   exact w (k+1) Za
  simp only[u,if_false,ζb]
theorem wA{step:Int->aY (Fw Int Unit Int)}{n:Nat}(g:Nat->Int)(B:n<9223372036854775807)(a:∀i:Nat,i<n->step i=some (if g i=0 then .n (wrap .i64 ((i:Int)+1))else .r (g i)))(D:step (n:Int)=some (.x ())):bM step 0=some (if nj g 0 n=0 then .x ()else .r (nj g 0 n)):=Qy g B a D n 0 Za
theorem AK{step:Int->aY (Fw Int Unit Unit)}{n:Nat}(f:Nat->Zl)(B:n<9223372036854775807)(a:∀i:Nat,i<n->step i=some (if f i then .r ()else .n (wrap .i64 ((i:Int)+1))))(D:step (n:Int)=some (.x ())):bM step 0=some (if iy f 0 n then .r ()else .x ()):=Cr f B a D n 0 Za
def vv(c:Int):Zl:=decide (c>=65)&&decide (c<=90)||decide (c>=97)&&decide (c<=122)
def As(c:Int):Zl:=decide (c>=48)&&decide (c<=57)
theorem Bw(c:Int):oM c=some (vv c):=by unfold oM vv;simp only[mS,kB,ζb];rw[Bool.or_comm]
theorem BV(c:Int):nN c=some (vv c):=by unfold nN vv;simp only[mS,kB,ζb]
theorem Ll(c:Int):sU c=some (As c):=by unfold sU As;simp only[mS,ζb]
theorem LN(c:Int):rJ c=some (As c):=by unfold rJ As;simp only[mS,ζb]
def u5(s:Zq)(i:Nat):Int:=(j8 s (i:Int)).getD 0
theorem A1{s:Zq}{i:Nat}(h:i<s.size):j8 s (i:Int)=some (u5 s i):=by have⟨x,u⟩:=IQ h;unfold u5;rw[u];rfl
def qX(s:Zq)(i:Nat):Zl:= !vv (u5 s i)&& !As (u5 s i)&& !(u5 s i==95)
def kL(s:Zq):Zl:=decide (1<=s.size)&&decide (s.size<=16)&&vv (u5 s 0)&& !iy (qX s) 0 s.size
theorem Jr{s:Zq}{i:Nat}(h:i<s.size):fM.bn s (s.size:Int) i=some (if qX s i then .r ()else .n (wrap .i64 ((i:Int)+1))):=by unfold fM.bn qX;rw[show decide ((i:Int)<(s.size:Int))=true from by simpa using h,bA,A1 h];simp only[ζb,Bw,Ll];cases vv (u5 s i)<;>cases As (u5 s i)<;>cases(u5 s i==95)<;>rfl
theorem JS{s:Zq}{i:Nat}(h:i<s.size):gC.bn s i=some (if qX s i then .r ()else .n (wrap .i64 ((i:Int)+1))):=by unfold gC.bn qX;rw[show decide ((i:Int)<((ByteArray.size s:Nat):Int))=true from by simpa using h,bA,A1 h];simp only[ζb,BV,LN];cases vv (u5 s i)<;>cases As (u5 s i)<;>cases(u5 s i==95)<;>rfl
theorem toList_empty{s:Zq}:(toList s==toList ByteArray.empty)=decide (s.size=0):=by
 rw[Bool.eq_iff_iff,beq_iff_eq,decide_eq_true_eq];constructor;intro h;have a:(toList s).length=s.size:=by rw[Go.ByteArray.toList_eq];simp
 rw[<-a,h];rw[Go.ByteArray.toList_eq];rfl;intro h;have:s=ByteArray.empty:=by apply ByteArray.ext;exact Array.eq_empty_of_size_eq_zero h
 rw[this]
theorem Dd{s:Zq}(D:s.size<1073741824):fM s=some (kL s):=by
 unfold fM;rw[toList_empty];simp only[kB,ζb];by_cases w:s.size=0;simp[w,kL,bl];by_cases u:s.size<=16;have a:(decide (s.size=0)||decide (((ByteArray.size s:Nat):Int)>16))=false:=by simp[w];omega
 rw[a,bW,show(0:Int)=((0:Nat):Int)from rfl,A1 (show 0<s.size by omega)];simp only[ζb,Bw];cases z:vv (u5 s 0)with|false=>simp[kL,z,bl]|true=>simp only[Bool.not_true,bW];unfold fM.W1;rw[Cr (n:=s.size) (qX s) Za (λi B=>Jr B) (by unfold fM.bn;simp[bl]) s.size 0 Za];have:kL s= !iy (qX s) 0 s.size:=(by simp[kL,z,u];omega);rw[this];cases iy (qX s) 0 s.size<;>rfl
 have a:(decide (s.size=0)||decide (((ByteArray.size s:Nat):Int)>16))=true:=by simp;omega
 rw[a,bA];simp[kL,u,bl]
theorem F8{s:Zq}(D:s.size<1073741824):gC s=some (kL s):=by
 unfold gC;simp only[kB,ζb];by_cases B:s.size=0;simp[B,kL,bl];by_cases u:s.size<=16;have a:(decide (((ByteArray.size s:Nat):Int)<1)||decide (((ByteArray.size s:Nat):Int)>16))=false:=by simp;omega
 rw[a,bW,show(0:Int)=((0:Nat):Int)from rfl,A1 (show 0<s.size by omega)];simp only[ζb,BV];cases w:vv (u5 s 0)with|false=>simp[kL,w,bl]|true=>simp only[Bool.not_true,bW];unfold gC.W1;rw[show(1:Int)=((1:Nat):Int)from rfl,Cr (n:=s.size) (qX s) Za (λi C=>JS C) (by unfold gC.bn;simp[bl]) (s.size-1) 1 Za];have z:qX s 0=false:=(by simp[qX,w]);have:kL s= !iy (qX s) 1 s.size:=(by have b:=Dr (f:=qX s) (show 0<s.size by omega);rw[z]at b;simp[kL,w,u,b];omega);rw[this];cases iy (qX s) 1 s.size<;>rfl
 have a:(decide (((ByteArray.size s:Nat):Int)<1)||decide (((ByteArray.size s:Nat):Int)>16))=true:=by simp;omega
 rw[a,bA];simp[kL,u,bl]
def fO{α:Type}(l:aX α)(f:α->Zl)(i:Nat):Zl:=match l[i]?with|some y=>f y|none=>false
theorem yw{α:Type}{l:aX α}{f:α->Zl}{i:Nat}(h:i<l.length):fO l f i=f l[i]:=by unfold fO;rw[ζd h]
theorem Ay{α:Type}{l:aX α}{f:α->Zl}{p:Nat}:(l.take p).any f=iy (fO l f) 0 p:=by
 rw[Bool.eq_iff_iff,List.any_eq_true,NL];constructor;rintro⟨x,z,u⟩;have⟨i,w⟩:=List.getElem?_of_mem z;have B:=(ζe.1 w).1;rw[length_take]at B;rw[getElem?_take,if_pos Za]at w;exact⟨i,zero_le _,Za,by unfold fO;rw[w];exact u⟩;rintro⟨i,_,w,u⟩;unfold fO at u;split at u;next y C=>exact⟨y,mem_of_getElem? (i:=i) (by rw[getElem?_take,if_pos w];exact C),u⟩
 cases u
def qw(a b:Zq):Zl:=toList a==toList b
def Sa:Zl->Zl->Zl->Int
 |true,false,true=>0|true,false,false=>2|_,_,_=>13
def tG(P:cn)(i:Nat):Int:=match P.vars.l[i]?with
 |some v=>Sa (kL v.name) (iy (fO P.vars.l λw=>qw w.name v.name) 0 i) (decide (v.init_>=-1073741824)&&decide (v.init_<=1073741824))|none=>0
def qS(t:Zj)(p:Nat):Int:=match t.procs.l[p]?with
 |some P=>if kL P.name&& !iy (fO t.procs.l λy=>qw y.name P.name) 0 p then
  (if P.vars.l.length>8 then 5 else if nj (tG P) 0 P.vars.l.length=0 then(if P.events.l.length>64 then 5 else 0)else nj (tG P) 0 P.vars.l.length)else 13
 |none=>0
theorem DP{P:cn}{i:Nat}(h:i<P.vars.l.length):tG P i=Sa (kL P.vars.l[i].name) (iy (fO P.vars.l λw=>qw w.name P.vars.l[i].name) 0 i) (decide (P.vars.l[i].init_>=-1073741824)&&decide (P.vars.l[i].init_<=1073741824)):=by unfold tG;rw[ζd h]
theorem DW(n:Int):ov n=some (decide (n>=-1073741824)&&decide (n<=1073741824)):=by unfold ov;rw[mS];rfl
theorem NV{t:Zj}(U:Small t){p:Nat}(T:p<t.procs.l.length):ec t p=some (qS t p):=by
 have Y:=U.2 _ (getElem_mem T);have e:=U.1;unfold ec qS;rw[bJ T,ζb,ζd T];generalize Z:t.procs.l[p]=P at *;have⟨W,g,Q,u,_⟩:=Y;rw[Dd Q,ζb];have⟨x,a,D⟩:=tF t.procs p Za;have G:fJ x (λz=>jd z P)=some (iy (fO t.procs.l λy=>qw y.name P.name) 0 p):=by rw[yf (p:=λz=>jd z P) (f:=λy=>qw y.name P.name) (λy _=>rfl) (by rw[D,length_take];omega),D,Ay]
 rw[a,ζb,G,ζb];dsimp only;cases h:kL P.name with|false=>simp[bl]|true=>rw[bA,ζb,Bool.true_and];cases j:iy (fO t.procs.l λy=>qw y.name P.name) 0 p with|true=>simp[bl]|false=>rw[bW];simp only[Bool.not_false,if_true];by_cases X:P.vars.l.length>8;rw[show decide (len P.vars>8)=true from by simp[len];omega,bA,if_pos X];rw[show decide (len P.vars>8)=false from by simp[len];omega,bW,if_neg X];unfold ec.W1;rw[wA (n:=P.vars.l.length) (tG P) Za (λi L=>?_) (by unfold ec.bn;simp[bl,len])];by_cases O:nj (tG P) 0 P.vars.l.length=0;rw[if_pos O,if_pos O];show bl (decide (len P.events>64)) (some 5) (some 0)=_;rw[rX];simp only[len,decide_eq_true_eq];by_cases I:P.events.l.length>64;rw[if_pos I,if_pos Za];rw[if_neg I,if_neg Za];rw[if_neg O,if_neg O];rfl;unfold ec.bn;rw[DP L,show decide ((i:Int)<len P.vars)=true from by simp[len];exact L,bA,bJ L,ζb];have b:=u _ (getElem_mem L);have⟨y,c,J⟩:=tF P.vars i Za;have S:iq y (λz=>iX z P.vars.l[i])=some (iy (fO P.vars.l λw=>qw w.name P.vars.l[i].name) 0 i):=(by rw[HF (p:=λz=>iX z P.vars.l[i]) (f:=λw=>qw w.name P.vars.l[i].name) (λw _=>rfl) (by rw[J,length_take];omega),J,Ay]);rw[Dd b,ζb,c,ζb,S,ζb,nW];have d:(decide (-1073741824<=P.vars.l[i].init_)&&decide (P.vars.l[i].init_<=1073741824))=(decide (P.vars.l[i].init_>=-1073741824)&&decide (P.vars.l[i].init_<=1073741824)):=rfl;rw[d];generalize kL P.vars.l[i].name=A;generalize iy (fO P.vars.l λw=>qw w.name P.vars.l[i].name) 0 i=B;generalize(decide (P.vars.l[i].init_>=-1073741824)&&decide (P.vars.l[i].init_<=1073741824))=C;cases A<;>cases B<;>cases C<;>rfl
theorem Oy{t:Zj}(T:Small t){p:Nat}(O:p<t.procs.l.length):dM t p=some (qS t p):=by have U:=T.2 _ (getElem_mem O);have a:=T.1;unfold dM qS;rw[bJ O,ζb,ζd O];generalize W:t.procs.l[p]=P at *;have⟨Q,X,L,z,_⟩:=U;rw[F8 L,ζb];dsimp only;cases b:kL P.name with|false=>simp[bl]|true=>rw[bA,Bool.true_and];unfold dM.W1;rw[AK (n:=p) (fO t.procs.l λy=>qw y.name P.name) Za (λi u=>?_) (by unfold dM.bn;simp[bl])];(cases c:iy (fO t.procs.l λy=>qw y.name P.name) 0 p with|true=>rfl|false=>simp only[Bool.not_false,if_true];show bl (decide (len P.vars>8)) (some 5) (dM.W2 0 P)=_;by_cases S:P.vars.l.length>8;rw[show decide (len P.vars>8)=true from by simp[len];omega,bA,if_pos S];rw[show decide (len P.vars>8)=false from by simp[len];omega,bW,if_neg S];unfold dM.W2;rw[wA (n:=P.vars.l.length) (tG P) Za (λi u=>?_) (by unfold dM.bP;simp[bl,len])];by_cases J:nj (tG P) 0 P.vars.l.length=0;rw[if_pos J,if_pos J];show bl (decide (len P.events>64)) (some 5) (some 0)=_;rw[rX];simp only[len,decide_eq_true_eq];by_cases D:P.events.l.length>64;rw[if_pos D,if_pos Za];rw[if_neg D,if_neg Za];rw[if_neg J,if_neg J];rfl;unfold dM.bP;rw[DP u,show decide ((i:Int)<len P.vars)=true from by simp[len];exact u,bA,bJ u,ζb];(rw[F8 (z _ (getElem_mem u)),ζb];have Y:dM.W3 i 0 P=if iy (fO P.vars.l λw=>qw w.name P.vars.l[i].name) 0 i then some (.r 13)else(if decide (P.vars.l[i].init_>=-1073741824)&&decide (P.vars.l[i].init_<=1073741824)then some (.n (wrap .i64 ((i:Int)+1)))else some (.r 2)):=by unfold dM.W3;rw[AK (n:=i) (fO P.vars.l λw=>qw w.name P.vars.l[i].name) Za (λj Z=>?_) (by unfold dM.dU;simp[bl])];(cases iy (fO P.vars.l λw=>qw w.name P.vars.l[i].name) 0 i with|true=>rfl|false=>show(idx P.vars (i:Int)).bind _=_;rw[bJ u,ζb,DW,ζb];cases(decide (P.vars.l[i].init_>=-1073741824)&&decide (P.vars.l[i].init_<=1073741824))<;>rfl);unfold dM.dU;have G:j<P.vars.l.length:=Za;rw[show decide ((j:Int)<(i:Int))=true from by simpa using Z,bA,bJ G,ζb,bJ u,ζb,yw G,rX];rfl);rw[Y];generalize kL P.vars.l[i].name=A;generalize iy (fO P.vars.l λw=>qw w.name P.vars.l[i].name) 0 i=B;generalize(decide (P.vars.l[i].init_>=-1073741824)&&decide (P.vars.l[i].init_<=1073741824))=C;cases A<;>cases B<;>cases C<;>rfl);unfold dM.bn;have I:i<t.procs.l.length:=Za;rw[show decide ((i:Int)<(p:Int))=true from by simpa using u,bA,bJ I,ζb,yw I,rX];rfl
def Fq(n:Nat)(p:Int)(e:Zn):Zl:=if e.kind==1 then e.peer==0&&e.message==0 else(e.kind==2||e.kind==3)&&(decide (0<=e.peer)&&decide (e.peer<n))&& !(e.peer==p)&&(decide (0<=e.message)&&decide (e.message<=199))
theorem LD{t:Zj}(D:Small t)(p:Int)(e:Zn):gT t p e=some (Fq t.procs.l.length p e):=by
 have a:=D.1;have w:wrap .i64 (len t.procs-1)=len t.procs-1:=j9 _ (by simp[len];omega) (by simp[len];omega);have u:∀b:Zl,gT.J1 p b t e=some (b&&(decide (0<=e.peer)&&decide (e.peer<t.procs.l.length))&& !(e.peer==p)&&(decide (0<=e.message)&&decide (e.message<=199))):=by intro b;unfold gT.J1;simp only[nW,w,ζb];have:decide (e.peer<=len t.procs-1)=decide (e.peer<t.procs.l.length):=(by congr 1;apply propext;simp[len];omega);rw[this];generalize(decide (0<=e.peer)&&decide (e.peer<(t.procs.l.length:Int)))=A;generalize(e.peer==p)=B;generalize(decide (0<=e.message)&&decide (e.message<=199))=C;cases b<;>cases A<;>cases B<;>cases C<;>rfl
 unfold gT Fq;rw[u,u];cases a:e.kind==1 with|true=>rw[bA];cases e.peer==0<;>cases e.message==0<;>rfl|false=>rw[bW];simp only[false_eq_true,if_false];cases z:e.kind==2<;>simp[bl]
def AY(P:cn)(k:Nat)(e:Zn):Zl:=match k with|0=>false|j+1=>fO P.events.l (λx=>decide (e.time<x.time)) j
def s8(P:cn)(k:Nat)(e:Zn):Zl:=decide (e.time<0)||decide (e.time>1099511627776)||AY P k e
def SE:Zl->Zl->Zl->Int
 |true,true,false=>0|true,true,true=>8|_,_,_=>2
def pU(P:cn)(e:Zn)(i:Nat):Int:=match e.assign.l[i]?with
 |some a=>SE (decide (0<=a.var)&&decide (a.var<P.vars.l.length)) (decide (a.value>=-1073741824)&&decide (a.value<=1073741824)) (iy (fO e.assign.l λb=>b.var==a.var) 0 i)|none=>0
theorem Dx{P:cn}{e:Zn}{i:Nat}(h:i<e.assign.l.length):pU P e i=SE (decide (0<=e.assign.l[i].var)&&decide (e.assign.l[i].var<P.vars.l.length)) (decide (e.assign.l[i].value>=-1073741824)&&decide (e.assign.l[i].value<=1073741824)) (iy (fO e.assign.l λb=>b.var==e.assign.l[i].var) 0 i):=by unfold pU;rw[ζd h]
def od(n:Nat)(P:cn)(p k:Nat)(e:Zn):Int:=if Fq n p e then(if s8 P k e then 11 else if e.assign.l.length>8 then 5 else nj (pU P e) 0 e.assign.l.length)else 3
theorem Ku{P:cn}{e:Zn}(c:P.vars.l.length<1073741824)(T:e.assign.l.length<1073741824):dm.W2 e.assign (len e.assign) 0 e P=some (nj (pU P e) 0 e.assign.l.length):=by
 have J:wrap .i64 (len P.vars-1)=len P.vars-1:=j9 _ (by simp[len];omega) (by simp[len];omega);unfold dm.W2;rw[wA (n:=e.assign.l.length) (pU P e) Za (λi D=>?_) (by unfold dm.bP;simp[bl,len])];by_cases G:nj (pU P e) 0 e.assign.l.length=0;rw[if_pos G,G];rfl;rw[if_neg G];rfl;unfold dm.bP;have⟨y,L,u⟩:=tF e.assign i Za;have I:gp y (λz=>jH z e.assign.l[i])=some (iy (fO e.assign.l λb=>b.var==e.assign.l[i].var) 0 i):=by rw[C0 (p:=λz=>jH z e.assign.l[i]) (f:=λb=>b.var==e.assign.l[i].var) (λw _=>rfl) (by rw[u,length_take];omega),u,Ay]
 rw[Dx D,show decide ((i:Int)<len e.assign)=true from by simp[len];exact D,bA,bJ D,ζb,nW,nW,J,L,ζb,ζb,ζb,I,ζb];have a:(decide (0<=e.assign.l[i].var)&&decide (e.assign.l[i].var<=len P.vars-1))=(decide (0<=e.assign.l[i].var)&&decide (e.assign.l[i].var<P.vars.l.length)):=by congr 2;apply propext;simp[len];omega
 have O:(decide (-1073741824<=e.assign.l[i].value)&&decide (e.assign.l[i].value<=1073741824))=(decide (e.assign.l[i].value>=-1073741824)&&decide (e.assign.l[i].value<=1073741824)):=rfl;rw[a,O];generalize(decide (0<=e.assign.l[i].var)&&decide (e.assign.l[i].var<(P.vars.l.length:Int)))=A;generalize(decide (e.assign.l[i].value>=-1073741824)&&decide (e.assign.l[i].value<=1073741824))=B;generalize iy (fO e.assign.l λb=>b.var==e.assign.l[i].var) 0 i=C;cases A<;>cases B<;>cases C<;>rfl
theorem Lr{t:Zj}(D:Small t){p k:Nat}{P:cn}{e:Zn}(G:t.procs.l[p]?=some P)(O:P.events.l[k]?=some e):dm t ⟨p,k+1⟩ e=some (od t.procs.l.length P p k e):=by
 have⟨Q,w⟩:=ζe.1 G;have⟨a,z⟩:=ζe.1 O;have⟨I,B,_,_,C⟩:=D.2 P (w▸getElem_mem Q);have S:=C e (z▸getElem_mem a);have J:∀last:Int,((decide (0<=e.time)&&decide (e.time<=1099511627776))&& !decide (e.time<last))=(!s8 P k e)->
  dm.J1 last t ⟨p,k+1⟩ e P=some (od t.procs.l.length P p k e):=by
  intro last T;unfold dm.J1 od;rw[LD D,ζb,nW,ζb,Ku B S];dsimp only
  cases Fq t.procs.l.length p e with
  |false=>rfl|true=>
   rw[bA,if_pos rfl];have:(bl (decide (0<=e.time)&&decide (e.time<=1099511627776)) (some (decide (e.time<last))) (some true):aY Zl)=some (s8 P k e):=by
    have U:(!((decide (0<=e.time)&&decide (e.time<=1099511627776))&& !decide (e.time<last)))=s8 P k e:=by rw[T,Bool.not_not]
    rw[<-U];cases(decide (0<=e.time)&&decide (e.time<=1099511627776))<;>cases decide (e.time<last)<;>rfl
   rw[this,ζb]
   cases s8 P k e with
   |true=>rfl|false=>
    rw[bW];simp only[false_eq_true,if_false]
    by_cases L:e.assign.l.length>8
    .rw[show decide (len e.assign>8)=true from by simp[len];omega,bA,if_pos L]
    rw[show decide (len e.assign>8)=false from by simp[len];omega,bW,if_neg L]
 unfold dm;dsimp only;rw[show idx t.procs (p:Int)=some P from by rw[kj];exact G,ζb];cases k with|zero=>rw[show decide (((0:Nat):Int)+1>1)=false from by decide,bW];refine J 0 ?_;simp only[s8,AY,Bool.or_false];rw[Bool.eq_iff_iff];simp only[ζh,not_eq_true',decide_eq_true_eq,decide_eq_false_iff_not,Bool.or_eq_false_iff];omega|succ j=>rw[show decide ((((j+1:Nat)):Int)+1>1)=true from by simp;omega,bA];have u:j<P.events.l.length:=Za;have W:wrap .i64 ((((j+1:Nat)):Int)+1-2)=((j:Nat):Int):=(by rw[j9 _ Za Za];omega);rw[W,bJ u,ζb];refine J _ ?_;simp only[s8,AY,yw u];rw[Bool.eq_iff_iff];simp only[ζh,not_eq_true',decide_eq_true_eq,decide_eq_false_iff_not,Bool.or_eq_false_iff];omega
theorem Jj{t:Zj}{p:Nat}{P:cn}{e:Zn}(D:t.procs.l[p]?=some P)(J:e.assign.l.length<1073741824):dN.W2 p 0 t e=some (nj (pU P e) 0 e.assign.l.length):=by
 unfold dN.W2;rw[wA (n:=e.assign.l.length) (pU P e) Za (λi w=>?_) (by unfold dN.bP;simp[bl,len])];by_cases z:nj (pU P e) 0 e.assign.l.length=0;rw[if_pos z,z];rfl;rw[if_neg z];rfl;unfold dN.bP;have G:dN.W3 p i 0 t e e.assign.l[i]=if iy (fO e.assign.l λb=>b.var==e.assign.l[i].var) 0 i then some (.r 8)else some (.n (wrap .i64 ((i:Int)+1))):=by unfold dN.W3;rw[AK (n:=i) (fO e.assign.l λb=>b.var==e.assign.l[i].var) Za (λj I=>?_) (by unfold dN.dU;simp[bl])];cases iy (fO e.assign.l λb=>b.var==e.assign.l[i].var) 0 i<;>rfl;unfold dN.dU;have u:j<e.assign.l.length:=Za;rw[show decide ((j:Int)<(i:Int))=true from by simpa using I,bA,bJ u,ζb,yw u,rX]
 rw[Dx w,show decide ((i:Int)<len e.assign)=true from by simp[len];exact w,bA,bJ w,ζb,G,DW,ζb,show idx t.procs (p:Int)=some P from by rw[kj];exact D,ζb];have a:(bl (decide (e.assign.l[i].var<0)) (some true) (some (decide (e.assign.l[i].var>=len P.vars))):aY Zl)=some (!(decide (0<=e.assign.l[i].var)&&decide (e.assign.l[i].var<P.vars.l.length))):=by rw[kB];congr 1;rw[Bool.eq_iff_iff];simp only[or_eq_true,not_eq_true',decide_eq_true_eq,Bool.and_eq_false_iff,decide_eq_false_iff_not,len];omega
 rw[a,ζb];generalize(decide (0<=e.assign.l[i].var)&&decide (e.assign.l[i].var<(P.vars.l.length:Int)))=A;generalize(decide (e.assign.l[i].value>=-1073741824)&&decide (e.assign.l[i].value<=1073741824))=B;generalize iy (fO e.assign.l λb=>b.var==e.assign.l[i].var) 0 i=C;cases A<;>cases B<;>cases C<;>rfl
theorem Nz{t:Zj}(T:Small t){p k:Nat}{P:cn}{e:Zn}(J:t.procs.l[p]?=some P)(O:P.events.l[k]?=some e):dN t p k=some (od t.procs.l.length P p k e):=by
 have⟨U,w⟩:=ζe.1 J;have⟨b,z⟩:=ζe.1 O;have⟨Q,W,_,_,I⟩:=T.2 P (w▸getElem_mem U);have X:=I e (z▸getElem_mem b);have Y:dN.J1 p k t e=some (if s8 P k e then 11 else if e.assign.l.length>8 then 5 else nj (pU P e) 0 e.assign.l.length):=by unfold dN.J1;rw[kB,ζb,Jj J X,show idx t.procs (p:Int)=some P from by rw[kj];exact J,ζb];have a:(bl (decide ((k:Int)>0)) ((idx P.events (wrap .i64 ((k:Int)-1))).bind λL=>some (decide (e.time<L.time))) (some false):aY Zl)=some (AY P k e):=(by cases k with|zero=>rfl|succ j=>have u:j<P.events.l.length:=Za;rw[show decide ((((j+1:Nat)):Int)>0)=true from by simp only[decide_eq_true_eq];omega,bA,show wrap .i64 ((((j+1:Nat)):Int)-1)=((j:Nat):Int)from by rw[j9 _ Za Za];omega,bJ u,ζb];simp only[AY,yw u]);rw[a,ζb,kB,ζb];show bl (s8 P k e) _ _=_;cases s8 P k e with|true=>rfl|false=>rw[bW];simp only[false_eq_true,if_false];by_cases S:e.assign.l.length>8;rw[show decide (len e.assign>8)=true from by simp[len];omega,bA,if_pos S];rw[show decide (len e.assign>8)=false from by simp[len];omega,bW,if_neg S]
 unfold dN od;rw[show idx t.procs (p:Int)=some P from by rw[kj];exact J,ζb,show idx P.events (k:Int)=some e from by rw[kj];exact O,ζb,Y];unfold Fq;cases a:e.kind==1 with|true=>rw[bA];simp only[if_true];cases e.peer==0<;>cases e.message==0<;>rfl|false=>rw[bW];simp only[false_eq_true,if_false];have c:(bl (e.kind==2) (some false) (some (!(e.kind==3))):aY Zl)=some (!(e.kind==2||e.kind==3)):=(by cases e.kind==2<;>rfl);rw[c,ζb,kB,ζb,kB,ζb,kB,ζb,kB,ζb,kB,ζb];have d:(((((!(e.kind==2||e.kind==3))||decide (e.peer<0))||decide (e.peer>=len t.procs))||(e.peer==p))||decide (e.message<0)||decide (e.message>199))= !((e.kind==2||e.kind==3)&&(decide (0<=e.peer)&&decide (e.peer<t.procs.l.length))&& !(e.peer==p)&&(decide (0<=e.message)&&decide (e.message<=199))):=(by generalize(e.kind==2||e.kind==3)=A;have a1:decide (e.peer<0)= !decide (0<=e.peer):=(by rw[Bool.eq_iff_iff];simp);have a2:decide (e.peer>=len t.procs)= !decide (e.peer<t.procs.l.length):=(by rw[Bool.eq_iff_iff];simp[len]);have a3:decide (e.message<0)= !decide (0<=e.message):=(by rw[Bool.eq_iff_iff];simp);have a4:decide (e.message>199)= !decide (e.message<=199):=(by rw[Bool.eq_iff_iff];simp);rw[a1,a2,a3,a4];generalize decide (0<=e.peer)=B;generalize decide (e.peer<(t.procs.l.length:Int))=C;generalize(e.peer==(p:Int))=D;generalize decide (0<=e.message)=F;generalize decide (e.message<=199)=G;cases A<;>cases B<;>cases C<;>cases D<;>cases F<;>cases G<;>rfl);rw[d];generalize((e.kind==2||e.kind==3)&&(decide (0<=e.peer)&&decide (e.peer<(t.procs.l.length:Int)))&& !(e.peer==(p:Int))&&(decide (0<=e.message)&&decide (e.message<=199)))=Z;cases Z<;>rfl
theorem JG{n:Nat}{p:Int}{e:Zn}(h:Fq n p e=true):jU n p e:=by
 unfold Fq at h;split at h;next a=>left;simpa using a
 right;simp only[ζh,or_eq_true,beq_iff_eq,decide_eq_true_eq,not_eq_true',beq_eq_false_iff_ne,ne_eq]at h;have⟨⟨⟨a,u⟩,z⟩,w⟩:=h;exact⟨a,u.1,u.2,z,w.1,w.2⟩
theorem Ga{n:Nat}{P:cn}{p k:Nat}{e:Zn}(h:od n P p k e=0):jU n p e:=by
 unfold od at h;split at h;next a=>exact JG a
 cases h
theorem AB{α:Type}[DecidableEq α]:∀{l r:aX α},l.Nodup->(∀x∈l,x∈r)->l.length<=r.length
 |[],_,_,_=>zero_le _|x::l,r,D,G=>by have B:=List.nodup_cons.1 D;have:=AB (r:=r.erase x) B.2 λy u=>(List.mem_erase_of_ne Zd).2 (G y (mem_cons_of_mem _ u));grind
section
variable{κ:Type}[DecidableEq κ]
theorem Ba{ν:Type}{k:κ}:∀{m:Mo κ ν},k∉m.map (·.1)->mz k m=none
 |[],_=>rfl|(a,v)::r,h=>by simp only[map_cons,mem_cons,not_or]at h;unfold mz;rw[if_neg h.1];exact Ba h.2
theorem C9{ν:Type}{k:κ}:∀{m:Mo κ ν},k∈m.map (·.1)->∃v,mz k m=some v/\(k,v)∈m
 |[],h=>Ze|(a,v)::r,h=>by unfold mz;by_cases e:k=a;grind;obtain⟨w,b,B⟩:=C9 (by simpa[e]using h);grind
theorem qt{ν:Type}{k:κ}{v:ν}:∀{m:Mo κ ν},k∉m.map (·.1)->mP m k v=m++[(k,v)]
 |[],_=>rfl|(a,w)::r,h=>by simp only[map_cons,mem_cons,not_or]at h;show(if k=a then _ else _)=_;rw[if_neg h.1,qt h.2];rfl
end
def Vd(t:Zj)(y:aZ):Prop:=∃e,(y,e)∈bO t
theorem Vd.at_{t:Zj}{y:aZ}(h:Vd t y):∃(p k:Nat)(e:Zn),ko t p k e/\y=⟨p,k+1⟩/\(y,e)∈bO t:=by have⟨e,u⟩:=h;have⟨p,k,a,w⟩:=dK.1 u;grind
def Fj(t:Zj)(y z:aZ):Prop:=∃e f,(y,e)∈bO t/\(z,f)∈bO t/\e.kind=2/\f.kind=3/\e.message=f.message
def Edge(t:Zj)(y z:aZ):Prop:=Vd t y/\Vd t z/\(z=⟨y.proc,y.index+1⟩\/Fj t y z)
abbrev Way(t:Trace):aZ->aZ->Prop:=TransGen (Edge t)
def HQ(t:Zj):Prop:=∃x,Way t x x
theorem Way.l{t:Zj}{x y:aZ}(h:Way t x y):Vd t x:=by induction h with|single h=>exact h.1|tail _ _ u=>omega
theorem Way.r{t:Zj}{x y:aZ}(h:Way t x y):Vd t y:=by cases h with|single h=>exact h.2.1|tail _ h=>exact h.2.1
theorem NQ{t:Zj}(g:Small t)(l:∀x∈bO t,jU t.procs.l.length x.1.proc x.2){A:cm 200 br}(Y:gj t (bO t) A){y:aZ}(J:Vd t y):
 Wp (iG t A y) λs=>s.l.length<=2/\∀z,z∈s.l↔Edge t y z:=by
 have⟨p,k,e,L,C,u⟩:=J.at_;have⟨P,O,d⟩:=L;have S:P∈t.procs.l:=mem_of_getElem? O;have a:=(g.2 P S).1;have X:k<P.events.l.length:=(ζe.1 d).1;have D:y.proc=p:=by rw[C]
 have T:y.index=k+1:=by rw[C]
 have j:∀s:Sl aZ,s.l.length<=1->(∀z,z∈s.l↔Vd t z/\z=⟨y.proc,y.index+1⟩)->Wp (iG.J1 A s P.events y) λs=>s.l.length<=2/\∀z,z∈s.l↔Edge t y z:=by intro s o w;have no:¬(∃z,Fj t y z)->s.l.length<=2/\∀z,z∈s.l↔Edge t y z:=λZ=>⟨Za,λz=>(w z).trans ⟨λh=>⟨J,h.1,.inl h.2⟩,λh=>⟨h.2.1,h.2.2.elim id λh=>(Z ⟨z,h⟩).elim⟩⟩⟩;unfold iG.J1;have U:wrap .i64 (y.index-1)=((k:Nat):Int):=(by rw[T,j9 _ Za Za];omega);rw[U,kj,d,ζb,eH,b9];constructor;intro B;have B:e.kind=2:=(by grind);have I:0<=e.message/\e.message<=199:=(by rcases l _ u with h|⟨_,_,_,_,h⟩;grind;omega);have b:∀z,Fj t y z->(ag A e.message).to_=z:=λz⟨W,f,a1,a2,a3,a4,a5⟩=>(by cases Ap a1 u rfl;rw[a5];exact(Y.rcv _ a2 a4).1);rw[Jm A I.1 I.2,ζb,a_,b9];refine⟨λh=>?_,λh=>(a_ _).2 (no λ⟨z,w⟩=>?_)⟩;have h:(ag A e.message).to_.index>0:=(by grind);rw[ζb];unfold eW;rw[if_pos Za,ζb,a_];refine⟨by show(s.l++[(ag A e.message).to_]).length<=2;grind,λz=>?_⟩;have G:Fj t y (ag A e.message).to_:=(by rcases Y.to e.message I.1 I.2 with r|⟨W,a,c,m⟩;omega;exact⟨e,W,u,a,B,c,m.symm⟩);show z∈s.l++[(ag A e.message).to_]↔_;rw[mem_append,mem_singleton,w];constructor;rintro(h|rfl);exact⟨J,h.1,.inl h.2⟩;exact⟨J,let⟨_,f,_,a2,_⟩:=G;⟨f,a2⟩,.inr G⟩;rintro⟨_,a,c|c⟩;grind;grind;rw[b z w]at h;have⟨_,f,_,a2,_⟩:=w;have⟨q,i,_,n⟩:=dK.1 a2;grind;intro B;rw[a_,b9];refine⟨λh=>(by cases h),λ_=>(a_ _).2 (no λ⟨z,W,f,a1,_,a3,_⟩=>?_)⟩;cases Ap a1 u rfl;grind
 unfold iG;rw[D,kj,O,ζb,b9];rw[D]at j;constructor
 .intro h;have h:y.index<len P.events:=by grind
  have B:k+1<P.events.l.length:=Zd
  refine j _ (by simp[Sl.l]) λz=>?_
  have U:wrap .i64 (y.index+1)=y.index+1:=j9 _ Za Za
  simp only[Sl.l,mem_singleton,U];refine⟨λw=>⟨⟨P.events.l[k+1],dK.2 ⟨p,k+1,⟨P,O,ζd B⟩,?_⟩⟩,w⟩,λw=>w.2⟩
  grind
 intro h;have h:¬y.index<len P.events:=Zd
 refine j _ (by simp[Sl.l]) λz=>⟨λw=>by simp[Sl.l]at w,λ⟨w,v⟩=>?_⟩
 have⟨q,i,f,⟨Q,E,n⟩,F,_⟩:=w.at_
 grind
structure Fb(t:Trace)(x:aZ)(rest:Sl aZ)(m:Mo aZ Bool)(U:aZ->Prop):Prop where
 rst:∀y∈rest.l,y=x\/Way t x y
 keys:(m.map (·.1)).Nodup
 seen:∀y∈m,Way t x y.1/\y.1≠x/\y.2=true
 le:rest.l.length<=m.length+1
 done:∀y,y=x\/y∈m.map (·.1)->y∈rest.l\/U y\/∀z,Edge t y z->z∈m.map (·.1)
theorem Fb.count{t:Zj}{x:aZ}{rest:Sl aZ}{m:Mo aZ Zl}{U:aZ->Prop}(h:Fb t x rest m U):m.length<=(bO t).length:=by
 have:=AB (r:=(bO t).map (·.1)) h.keys λx u=>by obtain⟨y,w,rfl⟩:=mem_map.1 u;have⟨e,z⟩:=(h.seen y w).1.r;grind
 grind
theorem K6{t:Zj}(E:Small t)(hN:(bO t).length<1073741824)(hF:∀x∈bO t,jU t.procs.l.length x.1.proc x.2){A:cm 200 br}(hA:gj t (bO t) A):Wp (gY t A) λr=>(r.2=true↔HQ t):=by
 unfold gY jv;rw[ζb];unfold gY.E1;rw[tX E,ζb];refine zh (λk _=>∀x∈(bO t).take k,¬Way t x.1 x.1) Zc ?_ λ_ h=>(a_ _).2 ⟨λh=>(by cases h),λ⟨x,g⟩=>?_⟩
 .intro i x _ g ar;have ah:x∈bO t:=mem_of_getElem? g;refine Wp.mono (P:=λw=>match w with|.n s=>¬Way t x.1 x.1|.x e=>False|.r e=>HQ t) ?_ λw j=>by cases w with|n s=>intro y d;rw[take_add_one,g]at d;grind|x e=>grind|r b=>exact(a_ _).2 ⟨λ_=>j,λ_=>rfl⟩
  refine eT (λq:Sl aZ×Mo aZ Zl=>Fb t x.1 q.1 q.2 λ_=>False) (λq=>2*((bO t).length-q.2.length)+q.1.l.length) ⟨λy d=>.inl (by simpa[Sl.l]using d),Zc,Zc,by simp[Sl.l],λy d=>.inl ?_⟩ ?_;simpa[Sl.l]using d;rintro⟨rest,m⟩ L;unfold gY.bP;rw[b9];refine⟨λh=>?_,λh=>(a_ _).2 ((a_ _).2 λj=>?_)⟩
  .have G:0<rest.l.length:=by grind
   have hc:=L.count;have av:=L.le;have j:wrap .i64 ((len rest)-1)=(rest.l.length-1:Nat):=by rw[j9 _ Zd Zd];grind
   have I:rest.l.length-1<rest.l.length:=Za;rw[j];have h1:Sl.iB rest (rest.l.length-1:Nat)=some (rest.l.length-1):=by unfold Sl.iB;grind
   have h2:Sl.get rest (rest.l.length-1)=some rest.l[rest.l.length-1]:=by unfold Sl.get;grind
   obtain⟨cut,h3,h4⟩:∃x,ku rest none (some ((rest.l.length-1:Nat):Int))=some x/\x.l=rest.l.take (rest.l.length-1):=by cases rest with|nil=>simp[Sl.l]at G|emp=>simp[Sl.l]at G|row l=>simp only[Sl.l]at G⊢;unfold ku dx;simp_all|part l=>simp[Sl.l]at G⊢;unfold ku dx;simp_all
   rw[h1,ζb,h2,ζb,h3,ζb,eH];generalize ai:rest.l[rest.l.length-1]=y;have aj:y∈rest.l:=ai▸getElem_mem I;have O:∀z,z∈rest.l->z∈cut.l\/z=y:=λz c=>by have:rest.l.take (rest.l.length-1)++rest.l.drop (rest.l.length-1)=rest.l:=List.take_append_drop ..;rw[<-this]at c;rcases mem_append.1 c with c|c;grind;rw[drop_eq_getElem_cons I,drop_of_length_le Za]at c;grind
   have F:=L.rst _ aj;have ak:=F.elim (λe=>⟨x.2,e▸ah⟩) Way.r;refine(NQ E hF hA ak).mono λs H=>?_;refine eT (λq:Sl aZ×Int×Mo aZ Zl=>∃n:Nat,q.2.1=n/\n<=s.l.length/\Fb t x.1 q.1 q.2.2 (λu=>u=y)/\(∀z∈s.l.take n,z∈q.2.2.map (·.1))/\2*((bO t).length-q.2.2.length)+q.1.l.length<2*((bO t).length-m.length)+rest.l.length) (λq=>s.l.length-q.2.1.toNat)
    ⟨0,rfl,zero_le _,⟨λz c=>L.rst z Zd,L.keys,L.seen,Zd,λu f=>?_⟩,Zc,Zd⟩ ?_
   .rcases L.done u f with h|h|h;exact(O u h).imp_right .inl;exact h.elim;exact .inr (.inr h)
   rintro⟨C,i2,W⟩ ⟨n,rfl,hn,B,J,o⟩;simp only at B o J;unfold gY.dU;rw[b9];constructor
   .intro h;have X:n<s.l.length:=(by simpa[len]using h);have K:=(H.2 s.l[n]).1 (getElem_mem X);have Q:Way t x.1 s.l[n]:=F.elim (λe=>.single (e▸K)) λh=>.tail h K;rw[bJ X,ζb,b9];refine⟨λZ=>(a_ _).2 ((a_ _).2 ((a_ _).2 ⟨x.1,?_⟩)),λS=>?_⟩;have:s.l[n]=x.1:=(by unfold HZ at Z;revert Z;cases s.l[n];cases x.1;intro Z;simpa using Z);rw[this]at Q;exact Q;have S:s.l[n]≠x.1:=λe=>(by rw[e]at S;simp[HZ]at S);have T:=cK n Za;have M:s.l.take (n+1)=s.l.take n++[s.l[n]]:=(by rw[take_add_one,ζd X];rfl);rw[b9];refine⟨λp=>(a_ _).2 ⟨⟨n+1,T,Za,B,λz c=>?_,o⟩,by show _-(wrap .i64 ((n:Int)+1)).toNat<_;rw[T];simp;omega⟩,λY=>?_⟩;rw[M]at c;rcases mem_append.1 c with c|c;exact J z c;simp[mem_singleton]at c;subst c;apply byContradiction;intro hk;unfold rL at p;rw[Ba hk]at p;cases p;have aw:=B.count;have au:=B.le;unfold eW;rw[if_pos (show C.l.length+1<=2147483648 from Za),ζb,a_];have D:s.l[n]∉W.map (·.1):=λal=>(by have⟨v,hv,am⟩:=C9 al;have:=(B.seen _ am).2.2;simp only at this;subst this;unfold rL at Y;rw[hv]at Y;cases Y);have U:∀z,z∈(mP W s.l[n] true).map (·.1)↔z∈W.map (·.1)\/z=s.l[n]:=λz=>(by rw[qt D,map_append,mem_append];simp);have N:Fb t x.1 (.row (C.l++[s.l[n]])) (mP W s.l[n] true) (λu=>u=y):=(by refine⟨λy d=>?_,?_,λy d=>?_,?_,λu f=>?_⟩;simp[Sl.l,mem_singleton]at d;rcases d with d|rfl;exact B.rst y d;exact .inr Q;rw[qt D,map_append,List.nodup_append];refine⟨B.keys,Zc,λa ha b R=>?_⟩;simp[mem_singleton]at R;subst R;exactλe=>D (e▸ha);rw[qt D]at d;rcases mem_append.1 d with d|d;exact B.seen y d;simp[mem_singleton]at d;subst d;exact⟨Q,S,rfl⟩;rw[qt D];show(C.l++[s.l[n]]).length<=_;rw[ζi,ζi,length_singleton,length_singleton];omega;simp only[Sl.l,mem_append,mem_singleton];have V:u=x.1\/u∈W.map (·.1)->(u∈C.l\/u=s.l[n])\/u=y\/∀z,Edge t u z->z∈(mP W s.l[n] true).map (·.1):=λf=>(by rcases B.done u f with h|h|h;exact .inl (.inl h);exact .inr (.inl h);exact .inr (.inr λz c=>(U z).2 (.inl (h z c))));rcases f with f|f;exact V (.inl f);rcases(U u).1 f with f|f;exact V (.inr f);exact .inl (.inr f));have an:=N.count;refine⟨⟨n+1,T,Za,N,λz c=>?_,?_⟩,by show _-(wrap .i64 ((n)+1)).toNat<_;rw[T];simp;omega⟩;rw[M]at c;rcases mem_append.1 c with c|c;exact(U z).2 (.inl (J z c));exact(U z).2 (.inr (by simpa using c));rw[qt D,ζi,length_singleton]at an;show 2*((bO t).length-(mP W s.l[n] true).length)+(C.l++[s.l[n]]).length<_;rw[qt D,ζi,ζi,length_singleton,length_singleton];omega
   intro h;have ao:s.l.length<=n:=by simpa[len]using h
   rw[take_of_length_le ao]at J;refine(a_ _).2 ((a_ _).2 ⟨⟨B.rst,B.keys,B.seen,B.le,λu f=>?_⟩,o⟩);rcases B.done u f with h|h|h;exact .inl h;subst h;exact .inr (.inr λz c=>J z ((H.2 z).2 c));exact .inr (.inr h)
  have ap:rest.l=[]:=by have:¬len rest>0:=(by simpa using h);simp[len]at this;exact this
  have hd:∀y,y=x.1\/y∈m.map (·.1)->∀z,Edge t y z->z∈m.map (·.1):=λy d=>by rcases L.done y d with h|h|h;simp only[ap]at h;cases h;exact h.elim;exact h
  have key:∀z,Way t x.1 z->z∈m.map (·.1):=λz c=>by induction c with|single h=>exact hd _ (.inl rfl) _ h|tail _ h ih=>exact hd _ (.inr ih) _ h
  have⟨y,d,aq⟩:=mem_map.1 (key _ j);exact(L.seen y d).2.1 aq
 have⟨e,Z⟩:=g.l;rw[take_length]at h;exact absurd g (h _ Z)
structure Ok(t:Trace):Prop where
 one:1<=t.procs.l.length
 few:t.procs.l.length<=8
 heads:∀p,p<t.procs.l.length->qS t p=0
 fe:∀(p k:Nat)P e,t.procs.l[p]?=some P->P.events.l[k]?=some e->od t.procs.l.length P p k e=0
 LS:vT t
 acyc:¬HQ t
theorem DR{t:Zj}(h:∀(p k:Nat)P e,t.procs.l[p]?=some P->P.events.l[k]?=some e->od t.procs.l.length P p k e=0):∀x∈bO t,jU t.procs.l.length x.1.proc x.2:=λx w=>by have⟨p,k,⟨P,z,B⟩,u⟩:=dK.1 w;rw[u];exact Ga (h p k P _ z B)
structure VT(t:Trace):Prop where
 formed:∀x∈bO t,jU t.procs.l.length x.1.proc x.2
 msgs:∃A i,en t=some (some A,i,0)/\gj t (bO t) A
 few:t.procs.l.length<=8
 ok:Ok t
theorem NG{t:Zj}(B:Small t)(Y:(bO t).length<1073741824):Wp (gD t) λr=>(r.2=0->VT t)/\(Ok t->r.2=0):=by
 unfold gD;rw[nW,ζb,b9];refine⟨λI=>?_,λI=>(a_ _).2 ⟨λh=>Za,λh=>?_⟩⟩;rotate_left;have l:=h.one;have G:=h.few;grind;have G:1<=t.procs.l.length/\t.procs.l.length<=8:=by grind
 unfold gD.W1;refine eT (λi:Int=>∃n:Nat,i=n/\n<=t.procs.l.length/\∀p,p<n->qS t p=0) (λi:Int=>t.procs.l.length-i.toNat) ⟨0,rfl,zero_le _,λp J=>absurd J Za⟩ ?_;rintro i ⟨n,rfl,m,Z⟩;unfold gD.bn;rw[b9];constructor;intro h;have w:n<t.procs.l.length:=by grind
 rw[NV B w,ζb,b9];refine⟨λu=>(a_ _).2 ⟨⟨n+1,cK n Za,Za,λp J=>?_⟩,by rw[cK n Za];simp;omega⟩,λu=>(a_ _).2 ((a_ _).2 ⟨λh=>?_,λh=>?_⟩)⟩;grind;grind;simp[h.heads n w]at u;intro h;have o:t.procs.l.length<=n:=Zd;rw[a_];unfold jv;rw[ζb];unfold gD.E2;rw[tX B,ζb];refine zh (λi _=>∀(p k:Nat)P e,t.procs.l[p]?=some P->P.events.l[k]?=some e->(⟨p,k+1⟩,e)∈(bO t).take i->od t.procs.l.length P p k e=0) Zc ?_ ?_;intro i x _ W z;have L:=mem_of_getElem? W;have⟨p,j,⟨P,C,D⟩,O⟩:=dK.1 L;unfold gD.Ip;rw[O,Lr B C D,ζb,b9];refine⟨λu=>(a_ _).2 λp' q s v y E b=>?_,λu=>(a_ _).2 ((a_ _).2 ⟨λh=>?_,λh=>?_⟩)⟩;rw[take_add_one,W]at b;grind;grind;simp[h.fe p j P _ C D]at u;intro _ z;have z:∀(p k:Nat)P e,t.procs.l[p]?=some P->P.events.l[k]?=some e->od t.procs.l.length P p k e=0:=λp k P e C D=>z p k P e C D (by rw[take_length];exact dK.2 ⟨p,k,⟨P,C,D⟩,rfl⟩);have Q:=DR z;have⟨r,d,f,S⟩:=Bj B Q;rw[d,ζb,b9];refine⟨λu=>?_,λu=>(a_ _).2 ⟨λh=>?_,λh=>S h.LS⟩⟩;have u:=by simpa using u
 have⟨A,g,T⟩:=f u;rw[g,ζb];have⟨c,a,U⟩:=K6 B Y Q T;rw[a,ζb,b9];refine⟨λX=>(a_ _).2 ⟨λh=>Za,λh=>absurd (U.1 X) h.acyc⟩,λX=>(a_ _).2 ⟨λ_=>?_,λ_=>rfl⟩⟩;exact⟨Q,⟨A,r.2.1,Zd,T⟩,G.2,G.1,G.2,λp J=>Z p Za,z,T.LS,λa=>Zd⟩;simp_all
theorem N3{t:Zj}(B:Small t)(D:(bO t).length<1073741824):Wp (dH t) λb=>(b=true->VT t)/\(Ok t->b=true):=by unfold dH;rw[eH];exact(NG B D).mono λr a=>(a_ _).2 ⟨λh=>a.1 Zd,λh=>Zd⟩
end Go.VE
namespace Go.VE
theorem yS{t:Zj}(G:Small t)(e:dH t=some true){A:cm 200 br}(B:gj t (bO t) A){x:aZ×Zn}(D:x∈bO t)(c:x.2.kind=2):mL t x.2.message=some (x.1,true):=by
 refine Wp.eq ?_;unfold mL kE;rw[e,ζb,bA];unfold jv;rw[ζb];unfold kE.E1;rw[tX G,ζb,eH];refine zh (λk _=>∀y∈(bO t).take k,¬(y.2.kind=2/\y.2.message=x.2.message)) Zc ?_ ?_;intro k y _ C u;have w:y∈bO t:=mem_of_getElem? C;unfold kE.si;rw[mS,ζb,b9];constructor;intro a;have a:y.2.kind=2/\y.2.message=x.2.message:=by simpa using a
 refine(a_ _).2 ((a_ _).2 ((a_ _).2 ?_));have d:=B.snd y w a.1;have I:=B.snd x D c;rw[a.2,I]at d;rw[d];intro a;have a:¬(y.2.kind=2/\y.2.message=x.2.message):=by intro h;rw[h.1,h.2]at a;simp at a
 rw[a_];intro z b;rw[take_add_one,C]at b;rcases mem_append.1 b with b|b;exact u z b;simp at b;subst b;exact a;intro _ u;rw[take_length]at u;exact absurd ⟨c,rfl⟩ (u x D)
def pP(t:Zj)(c:Zx):Prop:=c.length=t.procs.l.length/\∀(p:Nat)(a:Int)(P:cn),c[p]?=some a->t.procs.l[p]?=some P->0<=a/\a<=P.events.l.length
def nP(t:Zj)(A:cm 200 br)(c:Zx):Prop:=∀(p k:Nat)(e:Zn)(a:Int),ko t p k e->c[p]?=some a->(k:Int)<a->e.kind=3->∃b,c[(ag A e.message).from_.proc.toNat]?=some b/\(ag A e.message).from_.index<=b
theorem wL{t:Zj}(J:VT t){A:cm 200 br}(D:gj t (bO t) A){p k:Nat}{e:Zn}(O:ko t p k e)(b:e.kind=3):
 ∃(q j:Nat)(y:Zn),ko t q j y/\y.kind=2/\y.message=e.message/\y.peer=p/\e.peer=q/\(ag A e.message).from_=⟨q,j+1⟩:=by
 have u:((⟨p,k+1⟩:aZ),e)∈bO t:=dK.2 ⟨p,k,O,rfl⟩;have z:=(D.rcv _ u b).2;have C:=J.formed _ u;simp only at z C;have B:0<=e.peer:=by rcases C with h|⟨_,h,_⟩;omega;exact h
 obtain⟨q,G⟩:∃q:Nat,e.peer=q:=⟨e.peer.toNat,Za⟩
 rw[G]at z;have⟨j,y,w,a,I,L⟩:=AW.1 z;have:=D.snd (⟨q,j+1⟩,y) (dK.2 ⟨q,j,w,rfl⟩) a;simp only at this;rw[I]at this;exact⟨q,j,y,w,a,I,L,G,this⟩
def U0(t:Zj)(A:cm 200 br)(c:Zx)(s u:aZ):Prop:=∃(p k:Nat)(e:Zn)(a:Int)(q j:Nat)(y:Zn)(b:Int),ko t p k e/\c[p]?=some a/\(k:Int)<a/\e.kind=3/\(ag A e.message).from_=s/\s=⟨q,j+1⟩/\ko t q j y/\c[q]?=some b/\b<(j:Int)+1/\u=⟨p,k+1⟩
theorem P_{t:Zj}(v:Small t)(P:dH t=some true)(E:VT t){A:cm 200 br}(F:gj t (bO t) A){c:Zg}(H:pP t c.l):Wp (gB t c) λr=>(r.2.2=false->nP t A c.l)/\(r.2.2=true->U0 t A c.l r.1 r.2.1):=by
 have ah:=E.few;unfold gB gB.W1;refine eT (λs:Int=>∃n:Nat,s=n/\n<=c.l.length/\∀(p k:Nat)(e:Zn)(a:Int),p<n->ko t p k e->c.l[p]?=some a->(k:Int)<a->e.kind=3->∃b,c.l[(ag A e.message).from_.proc.toNat]?=some b/\(ag A e.message).from_.index<=b) (λs:Int=>c.l.length-s.toNat) ⟨0,rfl,zero_le _,λp k e a h=>absurd h Za⟩ ?_;rintro s ⟨n,rfl,hn,K⟩;have ai:=H.1;unfold gB.bn;rw[b9];constructor;intro h;have C:n<c.l.length:=by simpa[len]using h
 have B:n<t.procs.l.length:=Za;have hP:=(v.2 _ (getElem_mem B)).1;have⟨r1,r2⟩:=H.2 n _ _ (ζd C) (ζd B);rw[bJ C,ζb,bJ B,ζb];have⟨y,M,T⟩:=tF t.procs.l[n].events c.l[n].toNat Za;rw[show((c.l[n].toNat:Nat):Int)=c.l[n]from Za]at M;rw[M,ζb];unfold gB.W2;refine eT (λs:Int=>∃m:Nat,s=m/\m<=y.l.length/\∀(k:Nat)(e:Zn),k<m->ko t n k e->e.kind=3->∃b,c.l[(ag A e.message).from_.proc.toNat]?=some b/\(ag A e.message).from_.index<=b) (λs:Int=>y.l.length-s.toNat) ⟨0,rfl,zero_le _,λk e h=>absurd h Za⟩ ?_;rintro s ⟨m,rfl,hm,i⟩;have af:y.l.length=c.l[n].toNat:=by rw[T,length_take];omega
 unfold gB.bP;rw[b9];constructor;intro h;have I:m<y.l.length:=by simpa[len]using h
 have D:=cK m Za;have U:y.l.length-(wrap .i64 ((m:Int)+1)).toNat<y.l.length-((m:Int)).toNat:=by rw[D];simp;omega
 have R:y.l[m]?=t.procs.l[n].events.l[m]?:=by rw[T,getElem?_take,if_pos (show m<c.l[n].toNat from Za)]
 have u:ko t n m y.l[m]:=⟨_,ζd B,by rw[<-R];exact ζd I⟩;rw[bJ I,ζb];generalize y.l[m]=e at u;rw[b9];constructor;intro d;have d:e.kind=3:=by simpa using d
 have⟨q,j,z,l,V,z2,z3,z4,z5⟩:=wL E F u d;have J:=yS v P F (x:=(⟨q,j+1⟩,z)) (dK.2 ⟨q,j,l,rfl⟩) V;simp only at J;rw[z2]at J;have ab:=l;have⟨Q,hQ,_⟩:=l;have L:q<c.l.length:=by have:=(ζe.1 hQ).1;omega
 rw[J,ζb];simp only;rw[bJ L,ζb,b9];constructor;intro W;have W:(j:Int)+1>c.l[q]:=by simpa using W
 exact(a_ _).2 ((a_ _).2 ((a_ _).2 ⟨λh=>(by cases h),λ_=>⟨n,m,e,c.l[n],q,j,z,c.l[q],u,ζd C,Za,d,z5,rfl,ab,ζd L,Za,by simp[D]⟩⟩));intro X;have X:¬((j:Int)+1>c.l[q]):=by simpa using X
 refine(a_ _).2 ⟨⟨m+1,D,Za,λk Y ad w G=>?_⟩,U⟩;by_cases o:k=m;subst o;have:Y=e:=by have⟨P1,a1,a2⟩:=u;have⟨P2,Z,f⟩:=w;rw[a1]at Z;cases Z;rw[a2]at f;cases f;rfl
 subst this;rw[z5];exact⟨c.l[q],by simp only[toNat_natCast];exact ζd L,by simp only;omega⟩;exact i k Y Za w G;intro d;have d:¬e.kind=3:=by simpa using d
 refine(a_ _).2 ⟨⟨m+1,D,Za,λk Y ad w G=>?_⟩,U⟩;by_cases o:k=m;subst o;have:Y=e:=by have⟨P1,a1,a2⟩:=u;have⟨P2,Z,f⟩:=w;rw[a1]at Z;cases Z;rw[a2]at f;cases f;rfl
 subst this;exact absurd G d;exact i k Y Za w G;intro h;have ae:y.l.length<=m:=by simpa[len]using h
 have N:=cK n Za;refine(a_ _).2 ((a_ _).2 ⟨⟨n+1,N,Za,λp k e a hp u S O g=>?_⟩,by show _-(wrap .i64 ((n:Int)+1)).toNat<_;rw[N];simp;omega⟩);by_cases ep:p=n;subst ep;rw[ζd C]at S;cases S;exact i k e Za u g;exact K p k e a Za u S O g;intro h;have ae:c.l.length<=n:=by simpa[len]using h
 refine(a_ _).2 ((a_ _).2 ⟨λ_ p k e a u S O g=>K p k e a (by have:=(ζe.1 S).1;omega) u S O g,λh=>(by cases h)⟩)
theorem Js{t:Zj}(B:Small t)(f:dH t=some true)(D:VT t){A:cm 200 br}(G:gj t (bO t) A){c:Zg}(J:pP t c.l):Wp (gB t c) λr=>(r.2.2=false↔nP t A c.l):=by refine(P_ B f D G J).mono λr d=>⟨d.1,λu=>?_⟩;cases h:r.2.2 with|false=>rfl|true=>obtain⟨p,k,e,a,q,j,y,b,g,w,z,C,I,L,_,O,Q,-⟩:=d.2 h;have⟨S,g1,g2⟩:=u p k e a g w z C;rw[I,L]at g1 g2;simp only[toNat_natCast]at g1 g2;rw[O]at g1;cases g1;omega
theorem Gt{s:Zb}{p:Zg->aY Zl}{f:Zg->Zl}(B:∀x∈s.l,p x=some (f x))(D:s.l.length<1073741824):jt s p=some (s.l.any f):=by have h:fK s p=some (place f s.l):=qW B Za (λi=>rfl);unfold jt;rw[h,ζb,tu]
theorem I9{t:Zj}(J:Small t){c:Zg}(D:c.l.length=t.procs.l.length):Wp (jf t c) λb=>(b=true↔pP t c.l):=by
 have d:=J.1;unfold jf jf.W1;refine eT (λs:Int=>∃n:Nat,s=n/\n<=c.l.length/\∀(p:Nat)(a:Int)(P:cn),p<n->c.l[p]?=some a->t.procs.l[p]?=some P->0<=a/\a<=P.events.l.length) (λs:Int=>c.l.length-s.toNat) ⟨0,rfl,zero_le _,λp a P h=>absurd h Za⟩ ?_;rintro s ⟨n,rfl,Q,G⟩;unfold jf.bn;rw[b9];constructor;intro h;have w:n<c.l.length:=by simpa[len]using h
 have u:n<t.procs.l.length:=Za;have I:=cK n Za;rw[bJ w,ζb,bJ u,ζb,kB,ζb,b9];constructor;intro z;have z:c.l[n]<0\/c.l[n]>t.procs.l[n].events.l.length:=by simpa[len]using z
 refine(a_ _).2 ((a_ _).2 ⟨λh=>(by cases h),λL=>?_⟩);have:=L.2 n _ _ (ζd w) (ζd u);omega;intro z;have z:0<=c.l[n]/\c.l[n]<=t.procs.l[n].events.l.length:=by simpa[len]using z
 refine(a_ _).2 ⟨⟨n+1,I,Za,λp a P S B C=>?_⟩,by rw[I];simp;omega⟩;by_cases e:p=n;subst e;rw[ζd w]at B;cases B;rw[ζd u]at C;cases C;exact z;exact G p a P Za B C;intro h;have O:c.l.length<=n:=by simpa[len]using h
 refine(a_ _).2 ((a_ _).2 ⟨λ_=>⟨D,λp a P B C=>G p a P (by have:=(ζe.1 B).1;omega) B C⟩,λ_=>rfl⟩)
def Code(t:Zj)(A:cm 200 br)(c:Zx)(r:Int):Prop:=c.length≠t.procs.l.length/\r=1\/c.length=t.procs.l.length/\¬pP t c/\r=2\/pP t c/\¬nP t A c/\r=18\/pP t c/\nP t A c/\r=0
theorem Code.zero{t:Zj}{A:cm 200 br}{c:Zx}{r:Int}(h:Code t A c r):r=0↔pP t c/\nP t A c:=by rcases h with⟨h,rfl⟩|⟨_,h,rfl⟩|⟨_,h,rfl⟩|⟨a,w,rfl⟩;exact⟨λh=>(by cases h),λu=>absurd u.1.1 h⟩;exact⟨λh=>(by cases h),λu=>absurd u.1 h⟩;exact⟨λh=>(by cases h),λu=>absurd u.2 h⟩;exact⟨λ_=>⟨a,w⟩,λ_=>rfl⟩
def Cons(t:Zj)(A:cm 200 br)(c:Zx):Prop:=pP t c/\nP t A c
def places{α:Type}(f:α->Zl)(l:aX α):Zv:=(range l.length).filter λk=>match l[k]?with|some x=>f x|none=>false
end Go.VE
namespace Go.VE
def ri(kind m:Int)(x:aZ×Zn):Zl:=x.2.kind==kind&&x.2.message==m
def lG(t:Zj)(kind m:Int):aZ:=match(bO t).find? (ri kind m)with
 |some x=>x.1|none=>⟨0,0⟩
theorem Jg{t:Zj}{kind m:Int}{p:Nat}{P:cn}(B:p<9223372036854775806)(D:t.procs.l[p]?=some P)(J:P.events.l.length<1073741824):∀(q i:Nat),i+q=P.events.l.length->
 bM (λq:Int=>dz.bP kind m p t ⟨0,0⟩ q) (i:Int)=some (match(hD p i (P.events.l.drop i)).find? (ri kind m)with|some x=>.r x.1|none=>.x ()):=by
 have u:idx t.procs (p:Int)=some P:=by rw[kj];exact D
 intro q
 induction q with
 |zero=>
  intro i z;rw[iJ];unfold dz.bP;rw[u,ζb,show decide ((i:Int)<len P.events)=false from by simp[len];omega,bW,drop_of_length_le Za]
  rfl
 |succ q C=>
  intro i z;have w:i<P.events.l.length:=Za
  rw[iJ];have G:dz.bP kind m p t ⟨0,0⟩ i=some (if ri kind m (⟨p,(i:Int)+1⟩,P.events.l[i])then .r ⟨p,(i:Int)+1⟩else .n ((i+1:Nat):Int)):=by unfold dz.bP;rw[u,ζb,show decide ((i:Int)<len P.events)=true from by simp[len];omega,bA,ζb,bJ w,ζb,mS,ζb,cK i Za,rX];rfl
  rw[G,ζb,drop_eq_getElem_cons w];simp only[hD,List.find?_cons]
  cases I:ri kind m (⟨p,(i:Int)+1⟩,P.events.l[i])with
  |true=>rfl|false=>simp only[false_eq_true,if_false];exact C (i+1) Za
theorem Jp{t:Zj}(B:Small t){kind m:Int}:∀(q p:Nat),p+q=t.procs.l.length->
 bM (λq:Int=>dz.bn kind m t ⟨0,0⟩ q) (p:Int)=some (match(eY p (t.procs.l.drop p)).find? (ri kind m)with|some x=>.r x.1|none=>.x ()):=by
 have a:=B.1;intro q
 induction q with
 |zero=>
  intro p w;rw[iJ];unfold dz.bn;rw[show decide ((p:Int)<len t.procs)=false from by simp[len];omega,bW,drop_of_length_le Za]
  rfl
 |succ q z=>
  intro p w;have u:p<t.procs.l.length:=Za
  have C:bM (λq:Int=>dz.bP kind m p t ⟨0,0⟩ q) 0=some (match(hD p 0 t.procs.l[p].events.l).find? (ri kind m)with|some x=>.r x.1|none=>.x ()):=Jg (t:=t) (kind:=kind) (m:=m) Za (ζd u) (B.2 _ (getElem_mem u)).1 (t.procs.l[p].events.l.length) 0 Za
  rw[iJ];unfold dz.bn;rw[show decide ((p:Int)<len t.procs)=true from by simp[len];omega,bA]
  unfold dz.W2;rw[C,drop_eq_getElem_cons u];simp only[eY,List.find?_append]
  cases D:(hD p 0 t.procs.l[p].events.l).find? (ri kind m)with
  |some x=>rfl|none=>
   simp only[ζb,Fw.elim,Option.none_or];rw[cK p Za]
   exact z (p+1) Za
theorem find_eq{t:Zj}(B:Small t)(kind m:Int):dz t kind m=some (lG t kind m):=by unfold dz dz.W1;have u:bM (λq:Int=>dz.bn kind m t ⟨0,0⟩ q) 0=some (match(bO t).find? (ri kind m)with|some x=>.r x.1|none=>.x ()):=Jp B (kind:=kind) (m:=m) t.procs.l.length 0 Za;rw[u];unfold lG;cases(bO t).find? (ri kind m)<;>rfl
theorem Cd{t:Zj}{kind m:Int}{x:aZ×Zn}(h:(bO t).find? (ri kind m)=some x):x∈bO t/\x.2.kind=kind/\x.2.message=m/\lG t kind m=x.1:=by have a:=List.find?_some h;simp only[ri,ζh,beq_iff_eq]at a;exact⟨List.mem_of_find?_eq_some h,a.1,a.2,by unfold lG;rw[h]⟩
theorem Fe{t:Zj}{kind m:Int}{x:aZ×Zn}(B:x∈bO t)(a:x.2.kind=kind)(D:x.2.message=m):∃y,(bO t).find? (ri kind m)=some y:=by cases u:(bO t).find? (ri kind m)with|some y=>exact⟨y,rfl⟩|none=>rw[List.find?_eq_none]at u;exact absurd (u x B) (by simp[ri,a,D])
theorem Pw{t:Zj}{p k:Nat}{e:Zn}(h:ko t p k e)(a:k<9223372036854775807):tc t ⟨p,k+1⟩=some e:=by have⟨P,u,w⟩:=h;unfold tc;dsimp only;rw[show idx t.procs (p:Int)=some P from by rw[kj];exact u,ζb,show wrap .i64 ((k:Int)+1-1)=(k:Int)from by rw[j9 _ Za Za];omega,show idx P.events (k:Int)=some e from by rw[kj];exact w];rfl
def t_(t:Zj)(x:aZ×Zn):Int:=if x.2.kind=1 then 0 else if lG t x.2.kind x.2.message=x.1 then(if x.2.kind=3 then(if rM t x.2.peer x.2.message x.1.proc then 0 else 7)else 0)else 8
theorem Mr{t:Zj}(D:Small t){p k:Nat}{e:Zn}(h:ko t p k e)(Y:jU t.procs.l.length p e):gZ t ⟨p,k+1⟩=some (t_ t (⟨p,k+1⟩,e)):=by
 have b:k<1073741824:=by have⟨P,X,Z⟩:=h;have:=(D.2 P (mem_of_getElem? X)).1;have:=(ζe.1 Z).1;omega
 unfold gZ t_;rw[Pw h Za,ζb];dsimp only;by_cases a:e.kind=1;rw[show(e.kind==1)=true from by simp[a],bA,if_pos a];rw[show(e.kind==1)=false from by simp[a],bW,if_neg a,find_eq D,ζb];have G:HZ (lG t e.kind e.message) ⟨p,(k:Int)+1⟩=decide (lG t e.kind e.message=⟨p,(k:Int)+1⟩):=by unfold HZ;rw[Bool.eq_iff_iff];cases lG t e.kind e.message;simp
 rw[G];by_cases w:lG t e.kind e.message=⟨p,(k:Int)+1⟩;rw[if_pos w,show decide (lG t e.kind e.message=⟨p,(k:Int)+1⟩)=true from by simpa using w,bA];by_cases B:e.kind=3;rw[if_pos B,show(e.kind==3)=true from by simp[B],bA];have I:0<=e.peer/\e.peer<t.procs.l.length:=by rcases Y with h|⟨_,a,w,_⟩;exact absurd h a;exact⟨a,w⟩
 have S:e.peer.toNat<t.procs.l.length:=Za;have T:=ζd S;have c:=(D.2 _ (getElem_mem S)).1;generalize d:t.procs.l[e.peer.toNat]=Q at *;have J:idx t.procs e.peer=some Q:=by rw[N0 I.1];exact T
 have L:rM t e.peer e.message p=Q.events.l.any λs=>s.kind==2&&s.message==e.message&&s.peer==p:=by unfold rM;rw[T]
 unfold gZ.W1;refine Wp.eq (eT (λz:Zl×Int=>∃m:Nat,z.2=m/\m<=Q.events.l.length/\z.1=(Q.events.l.take m).any λs=>s.kind==2&&s.message==e.message&&s.peer==p) (λz=>Q.events.l.length-z.2.toNat) ⟨0,rfl,zero_le _,rfl⟩ ?_);rintro⟨s,i⟩ ⟨m,U,f,C⟩;simp only at U C;subst U;unfold gZ.bn;dsimp only;rw[J,ζb,b9];constructor;intro O;have u:m<Q.events.l.length:=by simpa[len]using O
 have W:=cK m Za;rw[ζb,bJ u,ζb,mS,ζb,mS,ζb,kB,ζb,a_];refine⟨⟨m+1,W,Za,?_⟩,by show _-(wrap .i64 ((m:Int)+1)).toNat<_;rw[W];simp;omega⟩;show(s||_)=_;rw[take_add_one,ζd u,List.any_append,C];simp;intro O;have u:Q.events.l.length<=m:=by simpa[len]using O
 rw[take_of_length_le u]at C;refine(a_ _).2 ?_;rw[L,<-C];cases s;exact(a_ _).2 rfl;exact(a_ _).2 rfl;rw[if_neg B,show(e.kind==3)=false from by simp[B],bW];rw[if_neg w,show decide (lG t e.kind e.message=⟨p,(k:Int)+1⟩)=false from by simpa using w,bW]
theorem I_{t:Zj}(J:∀x∈bO t,jU t.procs.l.length x.1.proc x.2):(∀x∈bO t,t_ t x=0)↔vT t:=by
 constructor;intro h;have key:∀x∈bO t,x.2.kind≠1->lG t x.2.kind x.2.message=x.1:=λx u a=>by have:=h x u;unfold t_ at this;rw[if_neg a]at this;split at this;assumption;cases this
 refine⟨λx u y w z B C=>?_,λx u y w z B C=>?_,λx u z=>?_⟩;rw[<-key x u Za,<-key y w Za,z,B,C];rw[<-key x u Za,<-key y w Za,z,B,C];have:=h x u;unfold t_ at this;rw[if_neg Za,if_pos (key x u Za),if_pos z]at this;split at this;assumption;cases this;intro h x u;unfold t_;by_cases k1:x.2.kind=1;rw[if_pos k1];rw[if_neg k1];have⟨y,w⟩:=Fe u rfl rfl;have⟨D,G,y3,y4⟩:=Cd w;have a:x.2.kind=2\/x.2.kind=3:=by rcases J x u with h|⟨h,_⟩;exact absurd h k1;exact h
 have I:lG t x.2.kind x.2.message=x.1:=by rw[y4];rcases a with a|a;exact h.snd y D x u (by rw[G,a]) a y3;exact h.rcv y D x u (by rw[G,a]) a y3
 rw[if_pos I];by_cases k3:x.2.kind=3;rw[if_pos k3,if_pos (h.has x u k3)];rw[if_neg k3]
theorem zi{t:Zj}(D:∀x∈bO t,jU t.procs.l.length x.1.proc x.2)(G:vT t){z:aZ}{f:Zn}(B:(z,f)∈bO t)(a:f.kind=3):∃e,(lG t 2 f.message,e)∈bO t/\e.kind=2/\e.message=f.message:=by
 have h:=G.has _ B a;have I:0<=f.peer:=by rcases D _ B with h|⟨_,h,_⟩;grind;omega
 rw[show f.peer=(f.peer.toNat:Nat)from Za,AW]at h;have⟨k,e,u,b,w,_⟩:=h;have⟨y,C⟩:=Fe (dK.2 ⟨_,k,u,rfl⟩:(⟨(f.peer.toNat:Nat),k+1⟩,e)∈bO t) b w;have⟨J,L,y3,y4⟩:=Cd C;grind
theorem Fj.find{t:Zj}(G:∀x∈bO t,jU t.procs.l.length x.1.proc x.2)(B:vT t){y z:aZ}{f:Zn}(h:Fj t y z)(D:(z,f)∈bO t):f.kind=3/\lG t 2 f.message=y:=by have⟨e,I,a,w,C,u,J⟩:=h;cases Ap w D rfl;have⟨L,a1,a2,O⟩:=zi G B D u;exact⟨u,B.snd _ a1 _ a a2 C Ze⟩
theorem Aa{t:Zj}(O:Small t)(J:∀x∈bO t,jU t.procs.l.length x.1.proc x.2)(B:vT t){z:aZ}(D:Vd t z):
 Wp (c9 t z) λs=>s.l.length<=2/\∀y,y∈s.l↔Edge t y z:=by
 obtain⟨p,k,f,w,rfl,u⟩:=D.at_;have c:k<1073741824:=by have⟨P,B,I⟩:=w;have:=(O.2 P (mem_of_getElem? B)).1;grind
 have j:∀s:Sl aZ,s.l.length<=1->(∀y,y∈s.l↔Vd t y/\(⟨p,k+1⟩:aZ)=⟨y.proc,y.index+1⟩)->Wp (c9.J1 s t ⟨p,k+1⟩) λs=>s.l.length<=2/\∀y,y∈s.l↔Edge t y ⟨p,k+1⟩:=by intro s T C;unfold c9.J1;rw[Pw w Za,ζb,b9];constructor;intro G;have G:f.kind=3:=(by grind);rw[find_eq O,ζb];unfold eW;rw[if_pos Za,ζb,a_];refine⟨by show(s.l++[_]).length<=2;grind,λy=>?_⟩;show y∈s.l++[lG t 2 f.message]↔_;rw[mem_append,mem_singleton,C];have⟨e,a1,a2,Q⟩:=zi J B u G;constructor;rintro(h|rfl);exact⟨h.1,D,.inl h.2⟩;exact⟨⟨e,a1⟩,D,.inr ⟨e,f,a1,u,a2,G,Q⟩⟩;rintro⟨b,_,a|a⟩;grind;exact .inr (a.find J B u).2.symm;intro G;refine(a_ _).2 ⟨Za,λy=>(C y).trans ⟨λh=>⟨h.1,D,.inl h.2⟩,λ⟨b,_,a⟩=>⟨b,a.elim id λa=>?_⟩⟩⟩;have:=(a.find J B u).1;grind
 unfold c9;rw[b9];constructor
 .intro h;have h:k+1>1:=by grind
  refine j _ (by simp[Sl.l]) λy=>?_
  have S:wrap .i64 (k+1-1)=k:=by rw[j9 _ Za Za];omega
  simp only[Sl.l,mem_singleton,S,aZ.mk.injEq];constructor
  .rintro rfl;have⟨P,B,I⟩:=w;have:=(ζe.1 I).1;exact⟨⟨P.events.l[k-1],dK.2 ⟨p,k-1,⟨P,B,ζd Za⟩,by simp;omega⟩⟩,rfl,rfl⟩
  simp_all
 intro h;refine j _ (by simp[Sl.l]) λy=>⟨λL=>by simp[Sl.l]at L,λ⟨L,I⟩=>?_⟩
 obtain⟨q,i,f,_,rfl,_⟩:=L.at_
 grind
theorem S7{α:Type}{r:α->α->Prop}{x:α}(h:Acc r x):¬TransGen r x x:=by induction h with|intro x _ u=>intro h;cases h with|single h=>exact u x h (.single h)|tail h1 w=>exact u _ w (TransGen.trans (.single w) h1)
theorem HS:∀{d:Zv}{i k:Nat},d[i]?=some k->(d.set i (k+1)).sum=d.sum+1
 |[],_,_,h=>Ze|x::d,0,k,h=>Zd|x::d,i+1,k,h=>by have:=HS (d:=d) (i:=i) (k:=k) Zd;grind
theorem KM:∀{d l:Zv},d.length=l.length->(∀(i a b:Nat),d[i]?=some a->l[i]?=some b->a<=b)->d.sum<=l.sum
 |[],_,_,_=>Zc|x::d,[],h,_=>Ze|x::d,y::l,h,B=>by have c:=B 0 x y rfl rfl;have u:=KM (d:=d) (l:=l) Zd λi a b w z=>B (i+1) a b Zd Zd;simp;omega
def nI(d:Zv):Zx:=d.map Int.ofNat
def sI(s:Zg):Nat:=(s.l.map toNat).sum
theorem Ep(d:Zv):sI (.row (nI d))=d.sum:=by unfold sI nI;rw[show(Sl.row (d.map Int.ofNat)).l=d.map Int.ofNat from rfl,map_map,show(toNat ∘ Int.ofNat)=id from rfl,List.map_id]
theorem LK(d:Zv):(nI d).length=d.length:=by simp[nI]
structure Kh(t:Trace)(d:List Nat):Prop where
 len:d.length=t.procs.l.length
 le:∀(p k:Nat)P,d[p]?=some k->t.procs.l[p]?=some P->k<=P.events.l.length
 acc:∀(p k j:Nat),d[p]?=some k->j<k->Acc (Edge t) ⟨p,j+1⟩
def qx(t:Zj):Nat:=(t.procs.l.map λP=>P.events.l.length).sum
theorem Kh.sum{t:Zj}{d:Zv}(h:Kh t d):d.sum<=qx t:=KM (by simp[h.len]) λi a b z u=>by cases w:t.procs.l[i]?with|none=>grind|some P=>simp[w]at u;rw[<-u];exact h.le i a P z w
theorem Bb{d:Zv}{p:Nat}(h:p<d.length):Sl.iB (.row (nI d)) (p:Int)=some p:=by unfold Sl.iB;rw[if_pos ⟨Za,by simpa[Sl.l,LK]using h⟩];rfl
theorem yR{d:Zv}{p k:Nat}(h:d[p]?=some k):Sl.get (.row (nI d)) p=some (k:Int):=by unfold Sl.get nI;rw[show(Sl.row (d.map Int.ofNat)).l=d.map Int.ofNat from rfl,getElem?_map,h];rfl
def Mv(t:Zj)(B:Zv)(s:Zg)(b:Zl)(d:Zv):Prop:=s=.row (nI d)/\Kh t d/\B.sum<=d.sum/\(b=true->B.sum<d.sum)
def KQ(t:Zj)(B:Zv)(p:Nat)(w:Fw (Zg×Zl×Int) (Zg×Zl) Empty):Prop:=∃u z C,w=.n (u,z,((p+1:Nat):Int))/\Mv t B u z C
theorem Qd{t:Zj}(c:Small t)(m:∀x∈bO t,jU t.procs.l.length x.1.proc x.2)(n:vT t){D o:Zv}{s:Zg}{b:Zl}{p:Nat}(g:p<t.procs.l.length)(A:Mv t D s b o):
 Wp (dR.W3 s b p t) (KQ t D p):=by
 have Z:=bJ g;have hn:=c.1;have ah:=(c.2 _ (getElem_mem g)).1;have C:=ζd g;generalize t.procs.l[p]=P at *;refine eT (λq:Zg×Zl=>∃d,Mv t D q.1 q.2 d) (λq=>qx t-sI q.1) ⟨o,A⟩ ?_
 rintro⟨s,b⟩ ⟨d,rfl,u,E,F⟩;have w:p<d.length:=by rw[u.len];omega
 have a:=ζd w;generalize d[p]=k at a;have ai:=u.le p k P a C;have stop:∀{X:Empty->Prop},Wp (some (Fw.x (Sl.row (nI d),b))) (Pk (λq:Zg×Zl=>∃d,Mv t D q.1 q.2 d) (λq=>qx t-sI q.1) (λe=>Wp (some (Fw.n (e.1,e.2,wrap .i64 (p+1)))) (KQ t D p)) X (Sl.row (nI d),b)):=by refine(a_ _).2 ((a_ _).2 ⟨_,_,d,?_,rfl,u,E,F⟩);rw[cK p Za]
 unfold dR.dU;rw[Bb w,ζb,yR a,ζb,Z,ζb,b9];refine⟨λh=>?_,λ_=>stop⟩
 have G:k<P.events.l.length:=Zd
 have H:ko t p k P.events.l[k]:=⟨P,C,ζd G⟩;have z:(⟨p,k+1⟩,P.events.l[k])∈bO t:=dK.2 ⟨p,k,H,rfl⟩;have go:(P.events.l[k].kind=3->∀q j:Nat,lG t 2 P.events.l[k].message=⟨q,j+1⟩->∃Y,d[q]?=some Y/\j<Y)->∀{r:Zg×Zl->Prop}{X:Empty->Prop},Wp (dR.J4 (.row (nI d)) p t) (Pk (λq:Zg×Zl=>∃d,Mv t D q.1 q.2 d) (λq=>qx t-sI q.1) r X (Sl.row (nI d),b)):=by intro K r X;unfold dR.J4;rw[Bb w,ζb,yR a,ζb,ζb];unfold Sl.put;rw[if_pos (by simpa[Sl.l,LK]using w),ζb,a_];have I:(nI d).set p (wrap .i64 ((k:Int)+1))=nI (d.set p (k+1)):=(by rw[cK k Za];unfold nI;simp_all);have J:=HS a;have L:Kh t (d.set p (k+1)):=(by refine⟨by simp[u.len],λq i Q B v=>?_,λq i j B M=>?_⟩;rw[getElem?_set]at B;split at B;grind;exact u.le q i Q B v;rw[getElem?_set]at B;split at B;rename_i e;subst e;cases B;by_cases N:j<k;exact u.acc p k j a N;have:j=k:=Za;subst this;refine Acc.intro _ λy R=>?_;obtain⟨O,_,l|l⟩:=R;obtain⟨q,i,f,_,rfl,_⟩:=O.at_;simp[aZ.mk.injEq]at l;have e1:q=p:=(by omega);subst e1;exact u.acc q j i a Za;have⟨S,V⟩:=l.find m n z;obtain⟨q,i,f,_,rfl,_⟩:=O.at_;have⟨Y,ad,ae⟩:=K S q i V;exact u.acc q Y i ad ae;exact u.acc q i j B M);have aj:=L.sum;refine⟨⟨_,Zd,L,Zd,λ_=>Zd⟩,?_⟩;show qx t-sI (.row ((nI d).set p (wrap .i64 ((k:Int)+1))))<qx t-sI (.row (nI d));rw[I,Ep,Ep,J];grind
 dsimp only;rw[ζb,ζb,yR a,ζb,bJ G,ζb,b9];refine⟨λS=>?_,λS=>go λh=>Zd⟩
 have S:P.events.l[k].kind=3:=Zd
 have⟨e,a1,a2,a3⟩:=zi m n z S;have⟨q,j,T,U⟩:=dK.1 a1;simp only at U;have W:q<d.length:=by have⟨Q,v,_⟩:=T;rw[u.len];grind
 have af:=ζd W;rw[find_eq c,ζb,U,Bb W,ζb,yR af,ζb,b9];refine⟨λ_=>stop,λh=>go λ_ q' j' hh=>?_⟩
 grind
theorem Jo{t:Zj}(J:Small t)(T:∀x∈bO t,jU t.procs.l.length x.1.proc x.2)(B:vT t):Wp (dR t) λb=>b=true->¬HQ t:=by
 have l:=J.1;unfold dR jT;rw[if_pos Zd,ζb];have S:(Sl.row (replicate (len t.procs).toNat 0))=.row (nI (replicate t.procs.l.length 0)):=by simp[nI]
 rw[S];refine eT (λs:Zg=>∃d,s=.row (nI d)/\Kh t d) (λs=>qx t-sI s) ⟨_,rfl,Zc,λp k P h _=>Zd,λp k j h m=>Zd⟩ ?_;rintro s ⟨D,rfl,U⟩;refine eT (λq:Zg×Zl×Int=>∃(n:Nat)(d:Zv),q.2.2=n/\n<=t.procs.l.length/\Mv t D q.1 q.2.1 d) (λq=>t.procs.l.length-q.2.2.toNat) ⟨0,D,rfl,zero_le _,rfl,U,le_refl _,Zc⟩ ?_;rintro⟨s,b,i⟩ ⟨n,d,W,X,L⟩;subst W;unfold dR.bP;rw[b9];constructor;intro h;have u:n<t.procs.l.length:=by grind
 refine(Qd J T B u L).mono ?_;rintro w ⟨o,r,Y,rfl,G⟩;exact⟨⟨n+1,Y,rfl,Za,G⟩,by simp;omega⟩;intro _;obtain⟨rfl,z,Z,I⟩:=L;rw[a_];show Wp (bl b _ _) _;rw[b9];refine⟨λc=>(a_ _).2 ⟨⟨d,rfl,z⟩,?_⟩,λ_=>(a_ _).2 ?_⟩;show qx t-sI (.row (nI d))<qx t-sI (.row (nI D));rw[Ep,Ep];have:=I c;have:=z.sum;omega;refine eT (λi:Int=>∃n:Nat,i=n/\n<=t.procs.l.length/\∀p,p<n->∀P,t.procs.l[p]?=some P->d[p]?=some P.events.l.length) (λi:Int=>t.procs.l.length-i.toNat) ⟨0,rfl,zero_le _,λp O=>absurd O Za⟩ ?_;rintro i ⟨n,rfl,v,f⟩;unfold dR.vU;rw[b9];constructor;intro h;have u:n<t.procs.l.length:=by grind
 have C:n<d.length:=by rw[z.len];omega
 have a:=ζd C;rw[Bb C,ζb,yR a,ζb,bJ u,ζb,b9];refine⟨λ_=>(a_ _).2 ((a_ _).2 λh=>by cases h),λh=>(a_ _).2 ⟨⟨n+1,cK n Za,Za,λp O P B=>?_⟩,by rw[cK n Za];simp;omega⟩⟩;by_cases e:p=n;subst e;rw[ζd u]at B;have:=z.le p _ _ a (ζd u);grind;grind;intro h;have y:t.procs.l.length<=n:=Zd;refine(a_ _).2 ((a_ _).2 λ_⟨x,Q⟩=>?_);obtain⟨p,k,e,⟨P,B,g⟩,rfl,_⟩:=Q.l.at_;have A:=(ζe.1 B).1;exact S7 (z.acc p _ k (f p Za P B) (ζe.1 g).1) Q
def pJ(out:aX (aX Zl))(y:aZ):Zl:=match out[y.proc.toNat]?with
 |some row=>row[y.index.toNat]?.getD false|none=>false
theorem yb{t:Zj}{out:aX (aX Zl)}{p k:Nat}{row:aX Zl}(a:out[p]?=some row)(b:k+1<row.length){z:aZ}(B:Vd t z):
 pJ (out.set p (row.set (k+1) true)) z=(decide (z=⟨p,k+1⟩)||pJ out z):=by
 obtain⟨q,j,e,_,rfl,_⟩:=B.at_;have C:=(ζe.1 a).1;unfold pJ;have e1:(⟨(q:Int),(j:Int)+1⟩:aZ).proc.toNat=q:=rfl;have e2:(⟨(q:Int),(j:Int)+1⟩:aZ).index.toNat=j+1:=by show((j:Int)+1).toNat=j+1;omega
 rw[e1,e2,getElem?_set]
 by_cases u:p=q
 .subst u;rw[if_pos rfl,if_pos C,a];dsimp only;rw[getElem?_set]
  by_cases w:k=j
  .subst w;simp[b]
  rw[if_neg Za,show decide ((⟨(p:Int),(j:Int)+1⟩:aZ)=⟨p,k+1⟩)=false from by simp;omega,Bool.false_or]
 rw[if_neg u,show decide ((⟨(q:Int),(j:Int)+1⟩:aZ)=⟨p,k+1⟩)=false from by simp;omega,Bool.false_or]
theorem xH{α:Type}{f g:α->Zl}:∀{l:aX α},(∀z∈l,f z=true->g z=true)->(∃z∈l,f z=false/\g z=true)->l.countP f<l.countP g
 |[],_,⟨z,b,_⟩=>by simp at b|a::l,h,⟨z,b,B,hg⟩=>by simp only[List.countP_cons];have D:=List.countP_mono_left (l:=l) (p:=f) (q:=g) λx u=>h x (mem_cons_of_mem _ u);rcases mem_cons.1 b with rfl|b;simp[B,hg];omega;have:=xH (l:=l) (λx u=>h x (mem_cons_of_mem _ u)) ⟨z,b,B,hg⟩;have c:=h a (List.mem_cons_self ..);cases w:f a with|true=>simp[c w];omega|false=>simp;split<;>omega
def cnt(t:Zj)(out:aX (aX Zl)):Nat:=(bO t).countP λz=>pJ out z.1
structure UG(t:Trace)(x:aZ)(out:List (List Bool))(rest:List aZ):Prop where
 tD:∀(p:Nat)P,t.procs.l[p]?=some P->∃row,out[p]?=some row/\row.length=P.events.l.length+1
 len:out.length=t.procs.l.length
 que:∀y∈rest,Way t y x
 snd:∀y,Vd t y->pJ out y=true->Way t y x
 cls:∀z,z=x\/Vd t z/\pJ out z=true->∀y,Edge t y z->pJ out y=true\/y∈rest
 le:rest.length<=2*cnt t out+2
def nested(out:aX (aX Zl)):Sl (Sl Zl):=if out=[]then .nil else .row (out.map .row)
def lq(t:Zj):aX (aX Zl):=t.procs.l.map λP=>replicate (P.events.l.length+1) false
theorem Aj(out:aX (aX Zl)):(nested out).l=out.map .row:=by
 unfold nested;split;next h=>rw[h];rfl
 rfl
def FB(s:Sl (Sl Zl)):aX (aX Zl):=s.l.map Sl.l
theorem PC(out:aX (aX Zl)):FB (nested out)=out:=by unfold FB;rw[Aj,map_map];exact List.map_id' _
theorem B3{out:aX (aX Zl)}{p:Nat}{row:aX Zl}(h:out[p]?=some row):(idx (nested out) (p:Int)).bind Sl.whole=some (.row row):=by rw[kj,Aj,getElem?_map,h];rfl
theorem BA{out:aX (aX Zl)}{p:Nat}{row B:aX Zl}(h:out[p]?=some row):lU (nested out) (p:Int) (.row B)=nested (out.set p B):=by
 have u:out≠[]:=by rintro rfl;cases h
 unfold nested;rw[if_neg u,if_neg (by simpa using u)];simp[lU,List.map_set]
theorem Jq{out:aX (aX Zl)}{r:aX Zl}(h:out.length<2147483648):eW (nested out) (.row r)=some (nested (out++[r])):=by unfold eW;rw[Aj,if_pos (by simp;omega)];simp[nested]
theorem UZ{α:Type}{s:Sl α}{y:α}{r:aX α}(h:s.l=y::r):∃c,ku s (some 1) none=some c/\c.l=r:=by
 have u:∀l:aX α,l=y::r->dx l.length (some 1) none=some (1,l.length):=λl w=>by unfold dx;simp only[getD_some,getD_none];rw[if_pos (by subst w;simp;omega)];rfl
 cases s with|nil=>cases h|emp=>cases h|row l=>exact⟨_,by simp only[ku,u l h];rfl,by show(l.take l.length).drop 1=r;rw[take_length,show l=y::r from h];rfl⟩|part l=>exact⟨_,by simp only[ku,u l h];rfl,by show(l.take l.length).drop 1=r;rw[take_length,show l=y::r from h];rfl⟩
theorem CH{t:Zj}{y:aZ}{s:Sl aZ}(h:c9 t y=some s):s.whole=some s:=by
 have B:∀o z,Sl.whole o=some o->c9.J1 o t y=some z->z.whole=some z:=λo z D u=>by unfold c9.J1 at u;have⟨e,_,u⟩:=ζg.1 u;cases C:e.kind==3 with|true=>rw[C]at u;have⟨f,_,u⟩:=ζg.1 u;have⟨q,w,u⟩:=ζg.1 u;cases u;unfold eW at w;split at w<;>cases w;rfl|false=>rw[C]at u;cases u;exact D
 unfold c9 at h;cases a:decide (y.index>1)with|true=>rw[a]at h;exact B _ s rfl h|false=>rw[a]at h;exact B _ s rfl h
theorem DB{t:Zj}{y:aZ}{P:Sl aZ->Prop}(h:Wp (c9 t y) P):Wp ((c9 t y).bind Sl.whole) P:=by have⟨s,a,u⟩:=h;exact⟨s,by rw[a];exact CH a,u⟩
theorem NR{α:Type}{s:Sl α}{p:Nat}(h:p<s.l.length):Sl.iB s (p:Int)=some p:=by unfold Sl.iB;rw[if_pos ⟨Za,by simpa using h⟩];rfl
theorem zY{t:Zj}{y:aZ}:pJ (lq t) y=false:=by
 unfold pJ lq;split;rename_i row h;rw[getElem?_map]at h;cases u:t.procs.l[y.proc.toNat]?with|none=>simp[u]at h|some P=>simp[u]at h;subst h;rw[List.getElem?_replicate];split<;>rfl
 rfl
theorem Rb{t:Zj}(d:Small t)(hN:(bO t).length<1073741824)(o:∀x∈bO t,jU t.procs.l.length x.1.proc x.2)(f:vT t){x:aZ}(F:Vd t x):
 Wp (fq t x) λs=>∃out,s=nested out/\UG t x out []/\∀y,Vd t y->(pJ out y=true↔Way t y x):=by
 have H:=d.1;have an:(lq t).length=t.procs.l.length:=by simp[lq]
 unfold fq fq.W1;refine eT (λq:Sl (Sl Zl)×Int=>∃n:Nat,q.2=(n:Int)/\n<=t.procs.l.length/\q.1=nested ((lq t).take n)) (λq=>t.procs.l.length-q.2.toNat) ⟨0,rfl,zero_le _,rfl⟩ ?_
 rintro⟨_,_⟩ ⟨n,rfl,ao,rfl⟩;unfold fq.bn;dsimp only;rw[b9];refine⟨λh=>?_,λh=>?_⟩
 .have C:n<t.procs.l.length:=by simpa[len]using h
  have ap:=(d.2 _ (getElem_mem C)).1;have K:(lq t)[n]' Za=replicate (t.procs.l[n].events.l.length+1) false:=by simp[lq]
  rw[bJ C,ζb,show wrap .i64 (len t.procs.l[n].events+1)=((t.procs.l[n].events.l.length+1:Nat):Int)from cK _ Za,show jT (((t.procs.l[n].events.l.length+1:Nat)):Int) false=some (.row (replicate (t.procs.l[n].events.l.length+1) false))from by unfold jT;rw[if_pos Za];simp,ζb]
  show Wp (((some _:aY (Sl Zl)).bind _)) _;rw[ζb,Jq (by simp;omega),ζb,a_]
  refine⟨⟨n+1,cK n Za,C,?_⟩,?_⟩
  .rw[List.take_succ_eq_append_getElem Za,K]
  show t.procs.l.length-(wrap .i64 ((n:Int)+1)).toNat<t.procs.l.length-((n:Int)).toNat;rw[cK n Za];omega
 have U:t.procs.l.length<=n:=by simpa[len]using h
 rw[a_,take_of_length_le Za]
 show Wp _ _;rw[eH];refine(DB (Aa d o f F)).mono λs g=>?_
 unfold fq.W2;refine eT (λq:Sl (Sl Zl)×Sl aZ=>∃out,q.1=nested out/\UG t x out q.2.l) (λq=>2*((bO t).length-cnt t (FB q.1))+q.2.l.length) ⟨lq t,rfl,λp P f=>⟨replicate (P.events.l.length+1) false,by simp[lq,f],Zc⟩,by simp[lq],λy I=>.single ((g.2 y).1 I),λy _ h=>(by rw[zY]at h;cases h),λz a y I=>?_,by have:=g.1;show s.l.length<=2*cnt t (lq t)+2;omega⟩ ?_
 .rcases a with rfl|⟨_,h⟩
  .exact .inr ((g.2 y).2 I)
  rw[zY]at h;cases h
 rintro⟨_,todo⟩ ⟨out,rfl,u⟩;simp only at u;unfold fq.bP
 cases D:todo.l with
 |nil=>
  rw[D]at u;rw[show decide (len todo>0)=false from by simp[len,D],bW,a_]
  refine(a_ _).2 ⟨out,rfl,u,λy I=>⟨u.snd y I,λO=>?_⟩⟩
  have key:∀w,Way t y w->w=x\/Vd t w/\pJ out w=true->pJ out y=true:=λw O=>by induction O with|single h=>exactλO=>(u.cls _ O _ h).elim id λh=>by cases h|tail aq W ih=>exactλO=>ih (.inr ⟨W.1,(u.cls _ O _ W).elim id λh=>by cases h⟩)
  exact key x O (.inl rfl)
 |cons y rest=>
  rw[D]at u;have S:=u.que y (List.mem_cons_self ..);have T:=S.l;obtain⟨p,k,e,M,rfl,X⟩:=T.at_;have⟨P,Y,N⟩:=M;have ar:=(ζe.1 N).1;have⟨row,b,R⟩:=u.tD p P Y;have B:k+1<row.length:=Za
  have e2:((k:Int)+1)=((k+1:Nat):Int):=Za
  have⟨c,V,J⟩:=UZ D;have Z:out.set p row=out:=by have⟨hp,ai⟩:=ζe.1 b;rw[<-ai];exact List.set_getElem_self hp
  rw[show decide (len todo>0)=true from by simp[len,D],bA,show Sl.iB todo 0=some 0 from by unfold Sl.iB;rw[if_pos (by simp[D])];rfl,ζb,show Sl.get todo 0=some ⟨(p:Int),(k:Int)+1⟩from by unfold Sl.get;rw[D];rfl,ζb,V,ζb]
  dsimp only;rw[B3 b,ζb,e2,show Sl.iB (.row row) ((k+1:Nat):Int)=some (k+1)from NR B,ζb,show Sl.get (.row row) (k+1)=some row[k+1]from ζd B,ζb,show Sl.whole (.row row)=some (.row row)from rfl,ζb,BA b,Z,b9];have v:pJ out ⟨p,k+1⟩=row[k+1]:=by unfold pJ;rw[show((⟨(p:Int),(k:Int)+1⟩:aZ).proc).toNat=p from rfl,b];dsimp only;rw[show((k:Int)+1).toNat=k+1 from Za,ζd B];rfl
  constructor
  .intro i;rw[a_];refine⟨⟨out,rfl,u.tD,u.len,λy I=>u.que y (mem_cons_of_mem _ (J▸I)),u.snd,λz a y I=>?_,by have:=u.le;simp only[length_cons]at this;rw[J];omega⟩,?_⟩
   .rw[J];rcases u.cls z a y I with h|h
    .exact .inl h
    rcases mem_cons.1 h with rfl|h
    .exact .inl (by rw[v];exact i)
    exact .inr h
   show 2*((bO t).length-cnt t (FB (nested out)))+c.l.length<2*((bO t).length-cnt t (FB (nested out)))+todo.l.length;rw[J,D,length_cons];omega
  intro i;obtain⟨L,aj,ak⟩:∃r,Sl.put (.row row) (k+1) true=some (.row r)/\r=row.set (k+1) true:=⟨_,by unfold Sl.put;rw[if_pos (show k+1<(Sl.row row).l.length from B)],rfl⟩
  rw[B3 b,ζb,show Sl.iB (.row row) ((k+1:Nat):Int)=some (k+1)from NR B,ζb,aj,ζb,show Sl.whole (.row L)=some (.row L)from rfl,ζb,BA b,ak,eH,<-e2];refine(DB (Aa d o f T)).mono λmore j=>?_
  have al:=u.le;simp only[length_cons]at al;have au:cnt t out<=(bO t).length:=List.countP_le_length;have av:=j.1;have C:cnt t out<cnt t (out.set p (row.set (k+1) true)):=xH (λz a h=>by rw[yb b B ⟨_,a⟩,h,Bool.or_true]) ⟨_,X,by rw[v,i],by rw[yb b B T];simp⟩
  have am:cnt t (out.set p (row.set (k+1) true))<=(bO t).length:=List.countP_le_length;unfold fq.W3;refine eT (λq:Sl aZ×Int=>∃n:Nat,q.2=(n:Int)/\n<=more.l.length/\q.1.l=rest++more.l.take n) (λq=>more.l.length-q.2.toNat) ⟨0,rfl,zero_le _,by simp[J]⟩ ?_
  rintro⟨l,_⟩ ⟨n,rfl,H,G⟩;simp only at G;unfold fq.dU;rw[b9];refine⟨λh=>?_,λh=>?_⟩
  .have C:n<more.l.length:=by simpa[len]using h
   obtain⟨aw,w1,w2⟩:∃r,eW l more.l[n]=some r/\r.l=l.l++[more.l[n]]:=⟨_,by unfold eW;rw[if_pos (by rw[G];simp;omega)],rfl⟩
   rw[NR C,ζb,show Sl.get more n=some more.l[n]from ζd C,ζb,w1,ζb,a_];exact⟨⟨n+1,cK n Za,C,by rw[w2,G,List.take_succ_eq_append_getElem C,List.append_assoc]⟩,by rw[cK n Za];simp;omega⟩
  have U:more.l.length<=n:=by simpa[len]using h
  rw[take_of_length_le U]at G;rw[a_];refine(a_ _).2 ⟨⟨_,rfl,λq Q m=>?_,by show(out.set _ _).length=_;rw[List.length_set];exact u.len,λz a=>?_,λz a h=>?_,λz a y I=>?_,by rw[G,ζi];show _<=2*cnt t (out.set p (row.set (k+1) true))+2;omega⟩,?_⟩
  .show ∃r,(out.set p (row.set (k+1) true))[q]?=some r/\_;rw[getElem?_set];split
   next e=>subst e;rw[if_pos (ζe.1 b).1];rw[Y]at m;cases m;exact⟨_,rfl,by simp[R]⟩
   exact u.tD q Q m
  .rw[G]at a;rcases mem_append.1 a with a|a
   .exact u.que z (mem_cons_of_mem _ a)
   exact .trans (.single ((j.2 z).1 a)) S
  .show Way t z x;have h:pJ (out.set p (row.set (k+1) true)) z=true:=h;rw[yb b B a]at h;simp only[or_eq_true,decide_eq_true_eq]at h;rcases h with rfl|h
   .exact S
   exact u.snd z a h
  .rw[G];show pJ (out.set p (row.set (k+1) true)) y=true\/y∈rest++more.l;rw[yb b B I.1];have A:z=x\/Vd t z/\pJ out z=true->(decide (y=⟨p,k+1⟩)||pJ out y)=true\/y∈rest++more.l:=λa=>by
    rcases u.cls z a y I with h|h
    .exact .inl (by rw[show pJ out y=true from h,Bool.or_true])
    rcases mem_cons.1 h with rfl|h
    .exact .inl Zc
    exact .inr (mem_append_left _ h)
   rcases a with a|⟨E,a⟩
   .exact A (.inl a)
   have a:pJ (out.set p (row.set (k+1) true)) z=true:=a;rw[yb b B E]at a;simp only[or_eq_true,decide_eq_true_eq]at a;rcases a with rfl|a
   .exact .inr (List.mem_append_right _ ((j.2 y).2 I))
   exact A (.inr ⟨E,a⟩)
  show 2*((bO t).length-cnt t (FB (nested (out.set p (row.set (k+1) true)))))+l.l.length<2*((bO t).length-cnt t (FB (nested out)))+todo.l.length;rw[PC,PC,G,D,ζi,length_cons];omega
theorem TQ{t:Zj}(G:Small t)(d:(bO t).length<1073741824)(f:∀x∈bO t,jU t.procs.l.length x.1.proc x.2)(J:vT t):Wp (cO.W6 0 t ⟨0,0⟩) λr=>(r.2=0↔¬HQ t):=by
 have v:=G.1;unfold cO.W6;refine eT (λi:Int=>∃n:Nat,i=n/\n<=t.procs.l.length/\∀(p k:Nat)e,p<n->ko t p k e->¬Way t ⟨p,k+1⟩ ⟨p,k+1⟩) (λi:Int=>t.procs.l.length-i.toNat) ⟨0,rfl,zero_le _,λp k e U=>absurd U Za⟩ ?_;rintro i ⟨n,rfl,Z,W⟩;unfold cO.Ir;rw[b9];constructor;intro h;have w:n<t.procs.l.length:=by simpa[len]using h
 have I:=bJ w;have z:=ζd w;have y:=(G.2 _ (getElem_mem w)).1;generalize t.procs.l[n]=P at *;unfold cO.W7;refine eT (λi:Int=>∃m:Nat,i=m/\m<=P.events.l.length/\∀k,k<m->¬Way t ⟨n,k+1⟩ ⟨n,k+1⟩) (λi:Int=>P.events.l.length-i.toNat) ⟨0,rfl,zero_le _,λk a=>absurd a Za⟩ ?_;rintro i ⟨m,rfl,A,a⟩;unfold cO.Ik;rw[I,ζb,b9];constructor;intro h;have L:m<P.events.l.length:=by simpa[len]using h
 have O:=cK m Za;have b:Vd t ⟨n,m+1⟩:=⟨P.events.l[m],dK.2 ⟨n,m,⟨P,z,ζd L⟩,rfl⟩⟩;rw[O,show(((m+1:Nat)):Int)=(m:Int)+1 from Zc,eH];refine(Rb G d f J b).mono ?_;rintro s ⟨out,rfl,g,B⟩;have⟨row,c,E⟩:=g.tD n P z;have S:out≠[]:=by rintro rfl;cases c
 have C:m+1<row.length:=Za;have j:idx (nested out) (n:Int)=some (.row row):=by unfold nested;rw[if_neg S,kj];show(out.map Sl.row)[n]?=_;rw[getElem?_map,c];rfl
 have l:idx (Sl.row row) ((m:Int)+1)=some row[m+1]:=by rw[show(m:Int)+1=((m+1:Nat):Int)from Zc];exact bJ (s:=Sl.row row) C
 rw[j,ζb,l,ζb,b9];have o:row[m+1]=pJ out ⟨n,m+1⟩:=by unfold pJ;rw[show((⟨(n:Int),(m:Int)+1⟩:aZ).proc).toNat=n from rfl,c];dsimp only;rw[show((m:Int)+1).toNat=m+1 from Za,ζd C];rfl
 rw[o];refine⟨λD=>(a_ _).2 ((a_ _).2 ((a_ _).2 ⟨λh=>(by cases h),λh=>absurd ⟨_,(B _ b).1 D⟩ h⟩)),λD=>(a_ _).2 ⟨⟨m+1,Zc,Za,λk F=>?_⟩,by simp;omega⟩⟩;by_cases e:k=m;subst e;exactλO=>by rw[(B _ b).2 O]at D;cases D
 exact a k Za;intro h;have T:P.events.l.length<=m:=by simpa[len]using h
 refine(a_ _).2 ((a_ _).2 ⟨⟨n+1,cK n Za,Za,λp k e U u=>?_⟩,by rw[cK n Za];simp;omega⟩);by_cases e:p=n;subst e;have⟨Q,X,q⟩:=u;rw[z]at X;cases X;have:=(ζe.1 q).1;exact a k Za;exact W p k _ Za u;intro h;have T:t.procs.l.length<=n:=by simpa[len]using h
 refine(a_ _).2 ((a_ _).2 ⟨λ_⟨x,Y⟩=>?_,λ_=>rfl⟩);obtain⟨p,k,e,u,rfl,_⟩:=Y.l.at_;have⟨P,J,_⟩:=id u;exact W p k e (by have:=(ζe.1 J).1;omega) u Y
theorem Fi{t:Zj}(B:∀x∈bO t,jU t.procs.l.length x.1.proc x.2):(∀(p k:Nat)e,ko t p k e->t_ t (⟨p,k+1⟩,e)=0)↔vT t:=Iff.trans ⟨λh x w=>by have⟨p,k,b,u⟩:=dK.1 w;have⟨a,e⟩:=x;simp only at b u;rw[u];exact h p k e b,λh p k e z=>h _ (dK.2 ⟨p,k,z,rfl⟩)⟩ (I_ B)
theorem LA{t:Zj}(O:Small t)(s:(bO t).length<1073741824):Wp (cO t) λr=>(r.2=0↔Ok t):=by
 have E:=O.1;unfold cO;rw[kB,ζb,b9];refine⟨λT=>(a_ _).2 ⟨λh=>(by cases h),λh=>?_⟩,λT=>?_⟩;have F:=h.one;have d:=h.few;simp only[or_eq_true,decide_eq_true_eq,len]at T;omega;have d:1<=t.procs.l.length/\t.procs.l.length<=8:=by simp only[Bool.or_eq_false_iff,decide_eq_false_iff_not,len]at T;omega
 unfold cO.W1;refine eT (λi:Int=>∃n:Nat,i=n/\n<=t.procs.l.length/\∀p,p<n->qS t p=0) (λi:Int=>t.procs.l.length-i.toNat) ⟨0,rfl,zero_le _,λp I=>absurd I Za⟩ ?_;rintro i ⟨n,rfl,H,j⟩;unfold cO.bn;rw[b9];constructor;intro h;have w:n<t.procs.l.length:=by simpa[len]using h
 rw[Oy O w,ζb,b9];refine⟨λC=>(a_ _).2 ⟨⟨n+1,cK n Za,Za,λp I=>?_⟩,by rw[cK n Za];simp;omega⟩,λC=>(a_ _).2 ((a_ _).2 ⟨λh=>?_,λh=>?_⟩)⟩;by_cases e:p=n;subst e;simpa using C;exact j p Za;simp only at h;simp[h]at C;simp[h.heads n w]at C;intro h;have K:t.procs.l.length<=n:=by simpa[len]using h
 rw[a_];unfold cO.W2;refine eT (λi:Int=>∃n:Nat,i=n/\n<=t.procs.l.length/\∀(p k:Nat)P e,p<n->t.procs.l[p]?=some P->P.events.l[k]?=some e->od t.procs.l.length P p k e=0) (λi:Int=>t.procs.l.length-i.toNat) ⟨0,rfl,zero_le _,λp k P e I=>absurd I Za⟩ ?_;rintro i ⟨J,rfl,M,Y⟩;unfold cO.bP;rw[b9];constructor;intro h;have w:J<t.procs.l.length:=by simpa[len]using h
 have G:=bJ w;have B:=ζd w;have U:=(O.2 _ (getElem_mem w)).1;generalize t.procs.l[J]=P at G B U;unfold cO.W3;refine eT (λi:Int=>∃m:Nat,i=m/\m<=P.events.l.length/\∀(k:Nat)e,k<m->P.events.l[k]?=some e->od t.procs.l.length P J k e=0) (λi:Int=>P.events.l.length-i.toNat) ⟨0,rfl,zero_le _,λk e a=>absurd a Za⟩ ?_;rintro i ⟨m,rfl,v,a⟩;unfold cO.dU;rw[G,ζb,b9];constructor;intro h;have W:m<P.events.l.length:=by simpa[len]using h
 have D:=ζd W;have c:=cK m Za;rw[Nz O B D,ζb,b9];refine⟨λC=>(a_ _).2 ⟨⟨m+1,c,Za,λk e x u=>?_⟩,by rw[c];simp;omega⟩,λC=>(a_ _).2 ((a_ _).2 ((a_ _).2 ⟨λh=>?_,λh=>?_⟩))⟩;by_cases f:k=m;subst f;rw[D]at u;cases u;simpa using C;exact a k e Za u;simp only at h;simp[h]at C;simp[h.fe J m P _ B D]at C;intro h;have L:P.events.l.length<=m:=by simpa[len]using h
 refine(a_ _).2 ((a_ _).2 ⟨⟨J+1,cK J Za,Za,λp k Q e I X u=>?_⟩,by rw[cK J Za];simp;omega⟩);by_cases g:p=J;subst g;rw[B]at X;cases X;exact a k e (by have:=(ζe.1 u).1;omega) u;exact Y p k Q e Za X u;intro h;have L:t.procs.l.length<=J:=by simpa[len]using h
 have Y:∀(p k:Nat)P e,t.procs.l[p]?=some P->P.events.l[k]?=some e->od t.procs.l.length P p k e=0:=λp k P e S a=>Y p k P e (by have:=(ζe.1 S).1;omega) S a;have Z:=DR Y;rw[a_];unfold cO.W4;refine eT (λi:Int=>∃n:Nat,i=n/\n<=t.procs.l.length/\∀(p k:Nat)e,p<n->ko t p k e->t_ t (⟨p,k+1⟩,e)=0) (λi:Int=>t.procs.l.length-i.toNat) ⟨0,rfl,zero_le _,λp k e I=>absurd I Za⟩ ?_;rintro i ⟨q,rfl,N,l⟩;unfold cO.Im;rw[b9];constructor;intro h;have w:q<t.procs.l.length:=by simpa[len]using h
 have G:=bJ w;have B:=ζd w;have U:=(O.2 _ (getElem_mem w)).1;generalize t.procs.l[q]=P at G B U;unfold cO.W5;refine eT (λi:Int=>∃m:Nat,i=m/\m<=P.events.l.length/\∀(k:Nat)e,k<m->P.events.l[k]?=some e->t_ t (⟨q,k+1⟩,e)=0) (λi:Int=>P.events.l.length-i.toNat) ⟨0,rfl,zero_le _,λk e a=>absurd a Za⟩ ?_;rintro i ⟨m,rfl,v,a⟩;unfold cO.vU;rw[G,ζb,b9];constructor;intro h;have W:m<P.events.l.length:=by simpa[len]using h
 have D:=ζd W;have c:=cK m Za;have z:ko t q m P.events.l[m]:=⟨P,B,D⟩;rw[c,show(((m+1:Nat)):Int)=(m:Int)+1 from Zc,Mr O z (Z (⟨q,m+1⟩,P.events.l[m]) (dK.2 ⟨q,m,z,rfl⟩)),ζb,b9];refine⟨λC=>(a_ _).2 ⟨⟨m+1,Zc,Za,λk e x u=>?_⟩,by simp;omega⟩,λC=>(a_ _).2 ((a_ _).2 ((a_ _).2 ⟨λh=>?_,λh=>?_⟩))⟩;by_cases f:k=m;subst f;rw[D]at u;cases u;simpa using C;exact a k e Za u;simp only at h;simp[h]at C;simp[(Fi Z).2 h.LS q m _ z]at C;intro h;have L:P.events.l.length<=m:=by simpa[len]using h
 refine(a_ _).2 ((a_ _).2 ⟨⟨q+1,cK q Za,Za,λp k e I z=>?_⟩,by rw[cK q Za];simp;omega⟩);by_cases g:p=q;subst g;have⟨Q,X,u⟩:=z;rw[B]at X;cases X;exact a k e (by have:=(ζe.1 u).1;omega) u;exact l p k e Za z;intro h;have R:t.procs.l.length<=q:=by simpa[len]using h
 have S:vT t:=(Fi Z).1 λp k e z=>l p k e (by have⟨P,S,_⟩:=z;have:=(ζe.1 S).1;omega) z;have o:¬HQ t↔Ok t:=⟨λh=>⟨d.1,d.2,λp I=>j p Za,Y,S,h⟩,λh=>h.acyc⟩;rw[a_,eH];refine(Jo O Z S).mono λb y=>?_;rw[b9];exact⟨λh=>(a_ _).2 ⟨λ_=>o.1 (y h),λ_=>rfl⟩,λ_=>(TQ O s Z S).mono λr A=>A.trans o⟩
theorem Mn{t:Zj}(B:Small t)(D:(bO t).length<1073741824):∃b,dH t=some b/\oE t=some b/\(b=true->VT t):=by obtain⟨b,u,a,w⟩:=N3 B D;refine⟨b,u,?_,a⟩;unfold oE;obtain⟨r,c,z⟩:=LA B D;rw[c,ζb];congr 1;rw[Bool.eq_iff_iff,beq_iff_eq,z];exact⟨w,λh=>(a h).ok⟩
theorem Oz{t:Zj}(U:Small t){c:Zg}(D:c.l.length=t.procs.l.length){step:Int->aY (Fw Int Unit Unit)}
 (W:∀i,step i=bl (decide (i<(len c))) ((idx c i).bind λG=>(bl (decide (G<0)) (some true) ((idx c i).bind λJ=>(idx t.procs i).bind λO=>some (decide (J>(len O.events)))):aY Zl).bind λT=>bl T (some (.r ())) (some (.n (wrap .i64 (i+1))))) (some (.x ()))):
 Wp ((bM step 0).bind (Fw.elim (λ_=>some true) (λ_=>some false))) λb=>(b=true↔pP t c.l):=by
 have d:=U.1;refine eT (λs:Int=>∃n:Nat,s=n/\n<=c.l.length/\∀(p:Nat)(a:Int)(P:cn),p<n->c.l[p]?=some a->t.procs.l[p]?=some P->0<=a/\a<=P.events.l.length) (λs:Int=>c.l.length-s.toNat) ⟨0,rfl,zero_le _,λp a P h=>absurd h Za⟩ ?_
 rintro s ⟨n,rfl,X,I⟩;rw[W,b9];constructor
 .intro h;have w:n<c.l.length:=by simpa[len]using h
  have u:n<t.procs.l.length:=Za
  have L:=cK n Za
  rw[bJ w,ζb,ζb,bJ u,ζb,kB,ζb,b9];constructor
  .intro z;have z:c.l[n]<0\/c.l[n]>t.procs.l[n].events.l.length:=by simpa[len]using z
   refine(a_ _).2 ((a_ _).2 ⟨λh=>(by cases h),λQ=>?_⟩)
   have:=Q.2 n _ _ (ζd w) (ζd u);omega
  intro z;have z:0<=c.l[n]/\c.l[n]<=t.procs.l[n].events.l.length:=by simpa[len]using z
  refine(a_ _).2 ⟨⟨n+1,L,Za,λp a P Y B C=>?_⟩,by rw[L];simp;omega⟩
  by_cases e:p=n
  .subst e;rw[ζd w]at B;cases B;rw[ζd u]at C;cases C;exact z
  exact I p a P Za B C
 intro h;have S:c.l.length<=n:=by simpa[len]using h
 refine(a_ _).2 ((a_ _).2 ⟨λ_=>⟨D,λp a P B C=>I p a P (by have:=(ζe.1 B).1;omega) B C⟩,λ_=>rfl⟩)
theorem Qo{t:Zj}(D:Small t){c:Zg}(B:c.l.length=t.procs.l.length):Wp (lY t c) λb=>(b=true↔pP t c.l):=by unfold lY;rw[show(len c==len t.procs)=true from by simp[len,B],bA];exact Oz D B λi=>rfl
theorem K2{t:Zj}(D:VT t){A:cm 200 br}(G:gj t (bO t) A){p k:Nat}{e:Zn}(B:ko t p k e)(a:e.kind=3):lG t 2 e.message=(ag A e.message).from_:=by have⟨y,b,u,w⟩:=zi D.formed D.ok.LS (dK.2 ⟨p,k,B,rfl⟩:((⟨p,k+1⟩:aZ),e)∈bO t) a;have:=G.snd _ b u;simp only[w]at this;exact this.symm
theorem fB{σ ε ρ γ:Type}{step:σ->aY (Fw σ ε ρ)}{B:ε->aY γ}{fr:ρ->aY γ}{P:γ->Prop}(n:Nat)(I:Nat->σ->Prop){s:σ}(G:I 0 s)
 (h:∀i s,i<n->I i s->Wp (step s) λw=>match w with|.n D=>I (i+1) D|.x e=>Wp (B e) P|.r b=>Wp (fr b) P)
 (J:∀s,I n s->Wp (step s) λw=>match w with|.n _=>False|.x e=>Wp (B e) P|.r b=>Wp (fr b) P):Wp ((bM step s).bind (Fw.elim B fr)) P:=by
 have key:∀m i s,i+m=n->I i s->Wp ((bM step s).bind (Fw.elim B fr)) P:=by
  intro m
  induction m with
  |zero=>intro i s C z;have⟨w,u,a⟩:=J s Zd;rw[iJ,u];cases w with|n D=>grind|x e=>exact a|r b=>exact a
  |succ m L=>intro i s C z;have⟨w,u,a⟩:=h i s Za z;rw[iJ,u];cases w with|n D=>grind|x e=>exact a|r b=>exact a
 exact key n 0 s (Nat.zero_add n) G
def bump(c:Zx)(p:Nat)(d:Int):Zx:=c.set p ((c[p]?).getD 0+d)
theorem uC:∀{c:Zx}{p:Nat}{a b:Int},c[p]?=some a->(c.set p b).sum=c.sum-a+b
 |[],_,_,_,h=>Ze|x::c,0,a,b,h=>Zd|x::c,p+1,a,b,h=>by have:=uC (b:=b) (by simpa using h);grind
theorem oU:∀{c:Zx},(∀(p:Nat)a,c[p]?=some a->0<=a)->0<=c.sum
 |[],_=>Zc|x::c,h=>by have b:=h 0 x rfl;have u:=oU (c:=c) λp a w=>h (p+1) a Zd;grind
theorem FQ:∀{c:Zx},(∀(p:Nat)a,c[p]?=some a->0<=a)->c.sum=0->∀(p:Nat)a,c[p]?=some a->a=0
 |[],_,_,p,a,B=>Ze|x::c,h,D,p,a,B=>by have d:=h 0 x rfl;have b:∀(p:Nat)a,c[p]?=some a->0<=a:=λp a B=>h (p+1) a Zd;have u:=oU b;simp at D;cases p with|zero=>grind|succ p=>exact FQ b Za p a Zd
theorem Ia:∀{c:Zx}{l:Zv},c.length=l.length->(∀(i:Nat)a b,c[i]?=some a->l[i]?=some b->a<=(b:Nat))->c.sum<=(l.sum:Nat)
 |[],[],_,_=>Zc|x::c,y::l,B,h=>by have d:=h 0 x y rfl rfl;have u:=Ia (c:=c) (l:=l) Zd λi a b w z=>h (i+1) a b Zd Zd;grind
section
variable{t:Zj}{A:cm 200 br}{c:Zx}
theorem pP.pos(h:pP t c)(p:Nat)(a:Int)(B:c[p]?=some a):0<=a:=(h.2 p a _ B (ζd (by have:=(ζe.1 B).1;rw[<-h.1];simp_all))).1
theorem pP.at_(h:pP t c){p:Nat}(B:p<t.procs.l.length):∃a,c[p]?=some a:=⟨_,ζd (by rw[h.1];omega)⟩
theorem pP.sum(h:pP t c):0<=c.sum/\c.sum<=(qx t:Nat):=
 ⟨oU h.pos,Ia (by simp[h.1]) λi a b z u=>by
  cases w:t.procs.l[i]?with
  |none=>grind|some P=>simp[w]at u;rw[<-u];exact(h.2 i a P z w).2⟩
theorem pP.set(h:pP t c){p:Nat}{b:Int}{P:cn}(B:t.procs.l[p]?=some P)(D:0<=b)(d:b<=P.events.l.length):pP t (c.set p b):=by refine⟨by simp[h.1],λq a Q u w=>?_⟩;rw[getElem?_set]at u;split at u;grind;exact h.2 q a Q u w
def Gj(t:Zj)(A:cm 200 br)(c:Zx)(p:Nat):Prop:=∃P e a,t.procs.l[p]?=some P/\c[p]?=some a/\P.events.l[a.toNat]?=some e/\(e.kind=3->∃b,c[(ag A e.message).from_.proc.toNat]?=some b/\(ag A e.message).from_.index<=b)
theorem ko.one{p k:Nat}{e f:Zn}(h:ko t p k e)(g:ko t p k f):e=f:=by have⟨P,a1,a2⟩:=h;have⟨Q,u,w⟩:=g;grind
theorem nP.le(h:nP t A c){p:Nat}{a b:Int}(G:c[p]?=some a)(J:a<=b)(O:∀(k:Nat)e,ko t p k e->a<=k->(k:Int)<b->e.kind=3->∃B,(c.set p b)[(ag A e.message).from_.proc.toNat]?=some B/\(ag A e.message).from_.index<=B):nP t A (c.set p b):=by
 have L:=(ζe.1 G).1;have up:∀(q:Nat)x,c[q]?=some x->∃y,(c.set p b)[q]?=some y/\x<=y:=λq x u=>by rw[getElem?_set];grind
 intro q k e x w u d I;rw[getElem?_set]at u;have C:∀x,c[q]?=some x->k<x->∃B,(c.set p b)[(ag A e.message).from_.proc.toNat]?=some B/\(ag A e.message).from_.index<=B:=λx u d=>by have⟨y,Q,S⟩:=h q k e x w u d I;have⟨z,T,U⟩:=up _ y Q;exact⟨z,T,Za⟩
 split at u;rename_i W;subst W;simp[L]at u;subst u;by_cases D:k<a;exact C a G D;exact O k e w Za d I;grind
theorem wz(D:VT t)(J:gj t (bO t) A){p k:Nat}{e:Zn}(B:ko t p k e)(G:e.kind=3):∃q j:Nat,(ag A e.message).from_=⟨q,j+1⟩/\q≠p/\Fj t ⟨q,j+1⟩ ⟨p,k+1⟩/\∃y,ko t q j y:=by have⟨q,j,y,u,z,C,y3,y4,y5⟩:=wL D J B G;have w:(⟨p,k+1⟩,e)∈bO t:=dK.2 ⟨p,k,B,rfl⟩;refine⟨q,j,y5,?_,⟨y,e,dK.2 ⟨q,j,u,rfl⟩,w,z,G,C⟩,y,u⟩;rcases D.formed _ w with h|⟨_,_,_,h,_⟩;grind;grind
theorem Cons.up(O:VT t)(T:gj t (bO t) A)(G:Cons t A c){p:Nat}{a:Int}{P:cn}(B:t.procs.l[p]?=some P)(D:c[p]?=some a)(Y:a<P.events.l.length):Gj t A c p↔Cons t A (c.set p (a+1)):=by have Z:=G.1.pos p a D;have d:=(ζe.1 D).1;constructor;rintro⟨Q,e,x,I,J,S,w⟩;rw[B]at I;cases I;rw[D]at J;cases J;refine⟨G.1.set B Za Za,G.2.le D Za λk f z U W g=>?_⟩;have C:k=a.toNat:=Za;subst C;cases z.one ⟨P,B,S⟩;grind;intro h;have u:a.toNat<P.events.l.length:=Za;refine⟨P,P.events.l[a.toNat],a,B,D,ζd u,λw=>?_⟩;have⟨b,L,X⟩:=h.2 p a.toNat _ (a+1) ⟨P,B,ζd u⟩ Ze Za w;rw[getElem?_set]at L;split at L;have⟨q,j,i,l,_⟩:=wz O T ⟨P,B,ζd u⟩ w;grind;grind
noncomputable def FM (t:Trace) (x:aZ):Nat:=by
 classical
 exact(bO t).countP λz=>decide (Way t z.1 x)
theorem H8 (B:VT t) {x y:aZ} (h:Way t x y):FM t x<FM t y:=by
 classical
 refine xH (λz _ u=>?_) ?_
 .have u:Way t z.1 x:=by grind
  simpa using u.trans h
 obtain⟨e,w⟩:=h.l;exact⟨(x,e),w,by simpa using λk=>B.ok.acyc ⟨x,k⟩,by grind⟩
theorem Qw (x:aZ):FM t x<=(bO t).length:=by
 classical
 unfold FM;grind
theorem Vd.of{p k:Nat}{e:Zn}(h:ko t p k e):Vd t ⟨p,k+1⟩:=⟨e,dK.2 ⟨p,k,h,rfl⟩⟩
theorem Gk{p:Nat}{P:cn}(B:t.procs.l[p]?=some P):∀(d k:Nat),k+d+1<P.events.l.length->Way t ⟨p,k+1⟩ ⟨p,((k+d+1:Nat):Int)+1⟩
 |0,k,h=>.single ⟨Vd.of ⟨P,B,ζd Za⟩,Vd.of ⟨P,B,ζd h⟩,.inl Zc⟩|d+1,k,h=>(Gk B d k Za).tail ⟨Vd.of ⟨P,B,ζd (show k+d+1<_ by omega)⟩,Vd.of ⟨P,B,ζd h⟩,.inl (by simp;omega)⟩
theorem SY{q k:Nat}{b:Int}{Q:cn}{x:aZ}(B:t.procs.l[q]?=some Q)(h:Way t x ⟨q,k+1⟩)(a:(k:Int)<b)(D:b<=Q.events.l.length):Way t x ⟨q,b⟩:=by by_cases e:b=k+1;grind;have:=Gk B (b.toNat-k-2) k Za;rw[show((k+(b.toNat-k-2)+1:Nat)+1)=b from Za]at this;exact h.trans this
theorem Cons.Ix(d:VT t)(f:gj t (bO t) A)(B:Cons t A c){p:Nat}{a:Int}(G:c[p]?=some a)(l:0<a):Cons t A (c.set p (a-1))\/∃(q:Nat)(b:Int),c[q]?=some b/\0<b/\Way t ⟨p,a⟩ ⟨q,b⟩:=by
 have Z:=(ζe.1 G).1;have O:=ζd (show p<t.procs.l.length by rw[<-B.1.1];omega);have m:=B.1.2 p a _ G O;refine byContradiction λC=>C (.inl ⟨B.1.set O Za Za,λq k e x u J n S=>?_⟩);obtain⟨z,w,o⟩:∃z,c[q]?=some z/\x<=z:=by rw[getElem?_set]at J;split at J;(next e2=>subst e2;simp[Z]at J;exact⟨a,G,Za⟩);grind
 have⟨y,I,D⟩:=B.2 q k e z u w Za S;have⟨r,j,g,s,h,_⟩:=wz d f u S;rw[g]at I D⊢;simp only[toNat_natCast]at I D⊢;by_cases e2:p=r;subst e2;rw[G]at I;cases I;refine⟨a-1,Ze,?_⟩;refine byContradiction λv=>C (.inr ⟨q,z,w,Za,?_⟩);have:a=j+1:=Za;subst this;have⟨Q,T,_⟩:=u;have L:=B.1.2 q z Q w T;have⟨U,W,X,Y,i⟩:=h;exact SY T (.single ⟨⟨U,X⟩,⟨W,Y⟩,.inr ⟨U,W,X,Y,i⟩⟩) Za L.2;simp_all
theorem Cons.Uo(B:VT t)(D:gj t (bO t) A)(G:Cons t A c):∀(n p:Nat)(a:Int),c[p]?=some a->0<a->(bO t).length-FM t ⟨p,a⟩<=n->∃(q:Nat)(b:Int),c[q]?=some b/\0<b/\Cons t A (c.set q (b-1)):=by
 intro n
 induction n with
 |zero=>intro p a u w I;rcases G.Ix B D u w with h|⟨q,b,_,_,z⟩;grind;have:=H8 B z;have:=Qw (t:=t) ⟨q,b⟩;omega
 |succ n J=>intro p a u w I;rcases G.Ix B D u w with h|⟨q,b,L,C,z⟩;grind;have:=H8 B z;exact J q b L C Za
theorem Cons.down(D:VT t)(G:gj t (bO t) A)(B:Cons t A c)(J:0<c.sum):∃(q:Nat)(b:Int),c[q]?=some b/\0<b/\Cons t A (c.set q (b-1)):=by
 obtain⟨p,a,u,z⟩:∃(p:Nat)(a:Int),c[p]?=some a/\0<a:=by refine byContradiction λw=>?_;have I:∀a∈c,a=0:=λa u=>(by have⟨p,C⟩:=List.mem_iff_getElem?.1 u;have:=B.1.pos p a C;grind);have:c.sum=0:=(by clear B J w;induction c with|nil=>rfl|cons x c L=>simp_all);omega
 exact B.Uo D G _ p a u z (le_refl _)
theorem Cons.Dc(G:VT t)(J:gj t (bO t) A):∀(d:Nat){c:Zx}{k:Nat},Cons t A c->c.sum=((k+d:Nat):Int)->∃c',Cons t A c'/\c'.sum=(k:Int)
 |0,c,k,B,O=>⟨c,B,Zd⟩|d+1,c,k,B,O=>by have⟨q,b,T,U,D⟩:=B.down G J Za;exact Cons.Dc G J d D (by rw[uC T];omega)
end
theorem jD{α:Type}{s:Sl α}{n:Nat}(h:n<s.l.length):decide ((n:Int)<len s)=true:=by simp[len];omega
theorem jN{α:Type}{s:Sl α}:decide ((s.l.length:Int)<len s)=false:=by simp[len]
theorem zc{α:Type}{s x:Sl α}(h:s.l.length+x.l.length<=2147483648):∃r,nD s x=some r/\r.l=s.l++x.l:=by unfold nD;by_cases e:x.l=[];rw[if_pos e];exact⟨s,rfl,by rw[e,List.append_nil]⟩;rw[if_neg e,if_pos h];exact⟨_,rfl,rfl⟩
theorem mH{α:Type}{s:Sl α}{x:α}(h:s.l.length<2147483648):∃r,eW s x=some r/\r.l=s.l++[x]:=by unfold eW;rw[if_pos Za];exact⟨_,rfl,rfl⟩
theorem om{α:Type}{s:Sl α}{p:Nat}(h:p<s.l.length):Sl.iB s (p:Int)=some p:=by unfold Sl.iB;rw[if_pos ⟨Za,by simpa using h⟩];rfl
theorem put_eq{α:Type}{s:Sl α}{p:Nat}{x:α}(h:p<s.l.length):∃r,Sl.put s p x=some r/\r.l=s.l.set p x:=by unfold Sl.put;rw[if_pos h];exact⟨_,rfl,by cases s<;>first|rfl|(simp[Sl.l]at h)⟩
section
variable{t:Zj}{A:cm 200 br}
def Vy(t:Zj)(A:cm 200 br)(c:Zx)(n:Nat):Prop:=∀(p k:Nat)(e:Zn)(a:Int),p<n->ko t p k e->c[p]?=some a->(k:Int)<a->e.kind=3->∃b,c[(ag A e.message).from_.proc.toNat]?=some b/\(ag A e.message).from_.index<=b
theorem SX(g:Small t)(T:VT t)(i:gj t (bO t) A){c:Zg}(l:pP t c.l):Wp (dy t c) λb=>(b=true↔nP t A c.l):=by
 have F:=l.1;have H:=T.few;unfold dy dy.W1;refine fB c.l.length (λn s=>s=(n:Int)/\Vy t A c.l n) ⟨rfl,λp k e a h=>absurd h Za⟩ ?_ ?_;rintro n _ B ⟨rfl,U⟩;unfold dy.bn;rw[jD B,bA];have z:n<t.procs.l.length:=by omega
 have K:=(g.2 _ (getElem_mem z)).1;have C:=ζd z;have D:=ζd B;have⟨r1,r2⟩:=l.2 n _ _ D C;have J:=bJ B;generalize c.l[n]=a at *;generalize t.procs.l[n]=P at *;unfold dy.W2;refine fB a.toNat (λm s=>s=(m:Int)/\∀(k:Nat)(e:Zn),k<m->ko t n k e->e.kind=3->∃b,c.l[(ag A e.message).from_.proc.toNat]?=some b/\(ag A e.message).from_.index<=b) ⟨rfl,λk e h=>absurd h Za⟩ ?_ ?_;rintro m _ M ⟨rfl,W⟩;unfold dy.bP;have L:m<P.events.l.length:=by omega
 have u:ko t n m P.events.l[m]:=⟨P,C,ζd L⟩;rw[J,ζb,show decide ((m:Int)<a)=true from by simp;omega,bA,kj,C,ζb,bJ L,ζb,cK m Za];generalize P.events.l[m]=e at *;have more:(e.kind=3->∃b,c.l[(ag A e.message).from_.proc.toNat]?=some b/\(ag A e.message).from_.index<=b)->∀(k:Nat)(e:Zn),k<m+1->ko t n k e->e.kind=3->∃b,c.l[(ag A e.message).from_.proc.toNat]?=some b/\(ag A e.message).from_.index<=b:=λh k f o Z w=>by by_cases r:k=m;subst r;cases u.one Z;exact h w;exact W k f Za Z w
 rw[b9];refine⟨λw=>?_,λw=>(a_ _).2 ⟨rfl,more λk=>by simp[k]at w⟩⟩;have w:e.kind=3:=by simpa using w
 have⟨q,j,d,_,_,y,Q,v,_⟩:=wz T i u w;have G:q<c.l.length:=by have:=(ζe.1 v).1;omega
 rw[find_eq g,K2 T i u w,ζb,d];simp only;rw[bJ G,ζb,b9];refine⟨λX=>(a_ _).2 ((a_ _).2 ((a_ _).2 ⟨λh=>(by cases h),λE=>?_⟩)),λY=>(a_ _).2 ⟨rfl,more λ_=>?_⟩⟩;have⟨b,O,S⟩:=E n m e a u D Za w;rw[d]at O S;simp only[toNat_natCast,ζd G,ζa]at O S;simp only[decide_eq_true_eq]at X;omega;rw[d];exact⟨c.l[q],by simp only[toNat_natCast];exact ζd G,by simp at Y⊢;omega⟩;rintro _ ⟨rfl,W⟩;unfold dy.bP;rw[J,ζb,show decide ((a.toNat:Int)<a)=false from by simp;omega,bW];refine(a_ _).2 ((a_ _).2 ⟨cK n Za,λp k e x N u I o w=>?_⟩);by_cases e2:p=n;subst e2;rw[D]at I;cases I;exact W k e Za u w;exact U p k e x Za u I o w;rintro _ ⟨rfl,U⟩;unfold dy.bn;rw[jN,bW];exact(a_ _).2 ((a_ _).2 ⟨λ_ p k e a u I=>U p k e a (ζe.1 I).1 u I,λ_=>rfl⟩)
theorem Uk(D:Small t)(G:VT t)(J:gj t (bO t) A){c:Zg}(B:c.l.length=t.procs.l.length):Wp (u_ t c) λb=>(b=true↔Cons t A c.l):=by unfold u_;rw[eH];refine(Qo D B).mono λb w=>?_;rw[eH,b9];constructor;intro h;have z:=w.1 h;rw[eH];refine(SX D G J z).mono λI u=>?_;rw[a_,a_];exact u.trans ⟨λh=>⟨z,h⟩,λh=>h.2⟩;intro h;rw[a_,a_];exact⟨λh=>(by cases h),λC=>absurd (w.2 C.1) (by simp[h])⟩
theorem step_eq{c:Zg}{p:Nat}{a:Int}(B:c.l[p]?=some a)(G:c.l.length<=1073741824)(J:0<=a)(b:a<1073741824):∃d:Zg,pT c p=some d/\d.l=c.l.set p (a+1):=by have w:=(ζe.1 B).1;unfold pT;have⟨r,z,u⟩:=zc (s:=Sl.row []) (x:=c) (show 0+c.l.length<=_ by omega);have u:r.l=c.l:=u;rw[z,ζb,om (by rw[u];exact w),ζb];unfold Sl.get;rw[u,B,ζb,ζb,j9 _ Za Za];have⟨d,C,D⟩:=put_eq (s:=r) (p:=p) (x:=a+1) (by rw[u];exact w);rw[C];exact⟨d,rfl,by rw[D,u]⟩
end
def ins(s:Zb):aX Zx:=s.l.map Sl.l
theorem Hu{α:Type}(s:Sl α)(i:Nat)(h:i<=s.l.length):∃x,ga s (some (i:Int)) none=some x/\x.l=s.l.drop i:=by unfold ga dx;simp only[getD_some,getD_none];rw[if_pos ⟨Za,Za,Za⟩];exact⟨_,rfl,by cases s<;>simp[Sl.l]⟩
def AH(t:Zj)(A:cm 200 br)(c d:Zx):Prop:=∃(p:Nat)(a:Int),c[p]?=some a/\d=c.set p (a+1)/\Cons t A d
section
variable{t:Zj}{A:cm 200 br}
theorem kV{s:Zb}{d:Zx}:d∈ins s↔∃x∈s.l,x.l=d:=by unfold ins;exact mem_map
theorem Ii{r s:Zb}{x:Zg}(h:r.l=s.l++[x]){d:Zx}:d∈ins r↔d∈ins s\/d=x.l:=by unfold ins;rw[h];simp
theorem Ig(T:Small t)(U:VT t)(Y:gj t (bO t) A){c:Zg}(W:Cons t A c.l):Wp (gE t c) λr=>r.l.length<=8/\∀d,d∈ins r↔AH t A c.l d:=by
 have J:=W.1.1;have X:=U.few;unfold gE gE.W1;refine fB c.l.length (λn s=>s.2=(n:Int)/\s.1.l.length<=n/\∀d,d∈ins s.1↔∃(p:Nat)(a:Int),p<n/\c.l[p]?=some a/\d=c.l.set p (a+1)/\Cons t A d) ⟨rfl,le_refl _,λd=>⟨λh=>by simp[ins,Sl.l]at h,λ⟨p,a,h,_⟩=>absurd h Za⟩⟩ ?_ ?_;rintro n ⟨out,_⟩ B ⟨h,u,G⟩;simp only at h u G;subst h;have w:n<t.procs.l.length:=by omega
 have Z:=(T.2 _ (getElem_mem w)).1;have z:=ζd B;have f:=W.1.2 n _ _ z (ζd w);unfold gE.bn;rw[jD B,bA,bJ B,ζb,bJ w,ζb,cK n Za];generalize c.l[n]=a at *;have keep:¬Cons t A (c.l.set n (a+1))->∀d,d∈ins out↔∃(p:Nat)(a:Int),p<n+1/\c.l[p]?=some a/\d=c.l.set p (a+1)/\Cons t A d:=λL d=>by rw[G];refine⟨λ⟨p,b,h,k⟩=>⟨p,b,Za,k⟩,λ⟨p,b,h,k1,k2,k3⟩=>⟨p,b,?_,k1,k2,k3⟩⟩;refine byContradiction λj=>L ?_;have:p=n:=Za;subst this;rw[z]at k1;cases k1;rw[<-k2];exact k3
 by_cases C:a<t.procs.l[n].events.l.length;have⟨d,g,D⟩:=step_eq (c:=c) z Za f.1 Za;rw[show decide (a<(len t.procs.l[n].events))=true from by simpa[len]using C,bA,g,ζb,eH,eH];refine(Uk T U Y (c:=d) (by rw[D,List.length_set];exact J)).mono λb O=>?_;rw[D]at O;rw[a_,b9];constructor;intro i;have⟨r,Q,I⟩:=mH (s:=out) (x:=d) Za;rw[ζb,Q,ζb,a_];refine⟨rfl,by rw[I];simp;omega,λe=>?_⟩;rw[Ii I,G,D];constructor;rintro(⟨p,b,h,k⟩|h);exact⟨p,b,Za,k⟩;exact⟨n,a,Za,z,h,by rw[h];exact O.1 i⟩;rintro⟨p,b,h,k1,k2,k3⟩;by_cases e2:p=n;subst e2;rw[z]at k1;cases k1;exact .inr k2;exact .inl ⟨p,b,Za,k1,k2,k3⟩;intro S;exact(a_ _).2 ⟨rfl,Nat.le_succ_of_le u,keep λh=>by rw[O.2 h]at S;cases S⟩;rw[show decide (a<(len t.procs.l[n].events))=false from by simpa[len]using C,bW,ζb,bW,a_];refine⟨rfl,Nat.le_succ_of_le u,keep λh=>?_⟩;have:=h.1.2 n (a+1) _ (by simp[getElem?_set,B]) (ζd w);omega;rintro⟨out,_⟩ ⟨h,u,G⟩;simp only at h u G;subst h;unfold gE.bn;rw[jN,bW,a_];refine(a_ _).2 ⟨show out.l.length<=8 by omega,λd=>(G d).trans ⟨λ⟨p,a,_,h⟩=>⟨p,a,h⟩,λ⟨p,a,h⟩=>⟨p,a,(ζe.1 h.1).1,h⟩⟩⟩
def xh(t:Zj)(A:cm 200 br)(k:Nat)(s:Zb):Prop:=∀d,d∈ins s↔Cons t A d/\d.sum=(k:Int)
theorem AH.iff(D:VT t)(G:gj t (bO t) A){k:Nat}{d:Zx}:(∃c,(Cons t A c/\c.sum=(k:Int))/\AH t A c d)↔Cons t A d/\d.sum=((k+1:Nat):Int):=by
 constructor;rintro⟨c,⟨z,C⟩,p,a,I,rfl,u⟩;exact⟨u,by rw[uC I];omega⟩;rintro⟨u,C⟩;have⟨q,b,w,J,z⟩:=u.down D G Za;have B:=(ζe.1 w).1;refine⟨_,⟨z,by rw[uC w];omega⟩,q,b-1,by simp[B],?_,u⟩;rw[List.set_set,show b-1+1=b from Za];refine ext_getElem? λi=>?_;rw[getElem?_set];split;next e=>subst e;simp[B,w];exact(ζe.1 w).2.symm▸rfl
 rfl
theorem we{s:Zb}{n:Nat}(h:n<s.l.length){d:Zx}:d∈(s.l.take (n+1)).map Sl.l↔d∈(s.l.take n).map Sl.l\/d=s.l[n].l:=by rw[show s.l.take (n+1)=s.l.take n++[s.l[n]]from by rw[take_add_one,ζd h];rfl];simp only[map_append,mem_append,map_cons,map_nil,mem_singleton]
theorem ID:∀n:Nat,(replicate n (0:Int)).sum=0
 |0=>rfl|n+1=>by rw[List.replicate_succ,sum_cons,ID n];rfl
theorem Ju:Cons t A (replicate t.procs.l.length 0):=by
 have w:∀(p:Nat)a,(replicate t.procs.l.length (0:Int))[p]?=some a->a=0:=λp a h=>by rw[List.getElem?_replicate]at h;split at h<;>cases h;rfl
 exact⟨⟨Zc,λp a P u _=>by rw[w p a u];omega⟩,λp k e a _ u b=>by rw[w p a u]at b;omega⟩
theorem Sb{z:Zg}(B:z.l=replicate t.procs.l.length 0):xh t A 0 (Sl.row [z]):=by
 intro d;have:d∈ins (Sl.row [z])↔d=replicate t.procs.l.length 0:=by unfold ins;rw[<-B];exact mem_singleton
 rw[this];constructor;rintro rfl;exact⟨Ju,by rw[ID];rfl⟩;rintro⟨u,w⟩;refine ext_getElem? λi=>?_;rw[List.getElem?_replicate,<-u.1.1];split;next C=>have h:=ζd C;rw[h,FQ u.1.pos (by simpa using w) i _ h]
 exact getElem?_eq_none Za
theorem xh.none(D:VT t)(G:gj t (bO t) A){k:Nat}{s:Zb}(h:xh t A k s)(J:s.l.length=0){d:Zx}(B:Cons t A d):d.sum<(k:Int):=by refine byContradiction λu=>?_;have I:=oU B.1.pos;have⟨c,w,z⟩:=Cons.Dc D G (d.sum.toNat-k) (k:=k) B Za;have:=(h c).2 ⟨w,z⟩;have⟨x,C,_⟩:=kV.1 this;have:=List.length_pos_of_mem C;omega
theorem xh.last{s:Zb}(h:xh t A (qx t+1) s):s.l.length=0:=by refine byContradiction λu=>?_;have w:=getElem_mem (show 0<s.l.length by omega);have:=(h s.l[0].l).1 (kV.2 ⟨_,w,rfl⟩);have:=this.1.1.sum;omega
theorem Bz{α:Type}(s:Sl α):decide ((len s)>0)= !decide (s.l.length=0):=by by_cases h:s.l.length=0;simp[len,h];simp[h,len];omega
end
def eZ:Zx->Zx->Int
 |[],[]=>0|[],_::_=>-1|_::_,[]=>1|x::a,y::b=>if x<y then -1 else if x>y then 1 else eZ a b
theorem uZ:∀a,eZ a a=0
 |[]=>rfl|x::a=>by simp[eZ,uZ a]
theorem yU:∀a b c,eZ a b<0->eZ b c<0->eZ a c<0
 |[],[],_,h,_=>by simp[eZ]at h|[],_::_,[],_,h=>by simp[eZ]at h|[],_::_,_::_,_,_=>by simp[eZ]|_::_,[],_,h,_=>by simp[eZ]at h|_::_,_::_,[],_,h=>by simp[eZ]at h|x::a,y::b,z::c,h1,B=>by have D:=yU a b c;simp only[eZ]at h1 B⊢;split at h1;split at B;rw[if_pos Za];omega;split at B;omega;rw[if_pos Za];omega;split at h1;omega;split at B;rw[if_pos Za];omega;split at B;omega;rw[if_neg Za,if_neg Za];exact D h1 B
theorem vJ:∀a b,¬eZ a b<0->¬eZ b a<0->a=b
 |[],[],_,_=>rfl|[],_::_,h,_=>by simp[eZ]at h|_::_,[],_,h=>by simp[eZ]at h|x::a,y::b,h1,B=>by have D:=vJ a b;simp only[eZ]at h1 B;split at h1;omega;split at B;omega;rw[D (by first|assumption|(split at h1<;>first|assumption|omega)) (by first|assumption|(split at B<;>first|assumption|omega)),show x=y from Za]
theorem Np(a b c:Zx)(d:¬eZ a b<0)(B:¬eZ b c<0):¬eZ a c<0:=λh=>by by_cases u:eZ b a<0;exact B (yU b a c u h);rw[vJ a b d u]at h;exact B h
theorem MP{α:Type}{s:Sl α}{p:α->α->Z6}{f:α->Zx}(W:∀x y,x∈s.l->y∈s.l->p x y=some (eZ (f x) (f y)))(T:s.l.length<2147483648):∃r,wS s p=some r/\r.l.Perm s.l/\r.l.Pairwise λx y=>¬eZ (f y) (f x)<0:=by
 unfold wS;split;next h=>exact⟨s,rfl,List.Perm.refl _,by rw[h];exact Pairwise.nil⟩
 rename_i x l h;rw[if_pos (by rw[h]at T;simp at T;omega)];simp only;have S:∀i j:_root_.Fin (l.length+1),p (x::l)[i.1] (x::l)[j.1]=some (eZ (f (x::l)[i.1]) (f (x::l)[j.1])):=λi j=>W _ _ (by rw[h];exact getElem_mem _) (by rw[h];exact getElem_mem _);have C:(n_ λi j:_root_.Fin (l.length+1)=>p (x::l)[i.1] (x::l)[j.1])=λi j=>decide (eZ (f (x::l)[i.1]) (f (x::l)[j.1])<0):=by funext i j;unfold n_;show decide ((p _ _).getD 0<0)=_;rw[S];rfl
 have D:za (λi j:_root_.Fin (l.length+1)=>p (x::l)[i.1] (x::l)[j.1])=true:=by have u:∀i j,n_ (λi j:_root_.Fin (l.length+1)=>p (x::l)[i.1] (x::l)[j.1]) i j=decide (eZ (f (x::l)[i.1]) (f (x::l)[j.1])<0):=λi j=>(by rw[C]);refine all_eq_true.2 λi _=>Bool.and_eq_true_iff.2 ⟨by rw[u,uZ];rfl,all_eq_true.2 λj _=>Bool.and_eq_true_iff.2 ⟨by show(p _ _).isSome=true;rw[S];rfl,all_eq_true.2 λk _=>Bool.and_eq_true_iff.2 ⟨?_,?_⟩⟩⟩;have:=yU (f (x::l)[i.1]) (f (x::l)[j.1]) (f (x::l)[k.1]);rw[u,u,u];simp only[or_eq_true,not_eq_true',Bool.and_eq_false_iff,decide_eq_true_eq,decide_eq_false_iff_not];omega;have:=Np (f (x::l)[i.1]) (f (x::l)[j.1]) (f (x::l)[k.1]);rw[u,u,u];simp only[or_eq_true,not_eq_true',decide_eq_true_eq,decide_eq_false_iff_not];omega
 rw[if_pos D];have G:=(oS D).2;have J:=Sort.pdq_sorts _ G (finRange (l.length+1)).toArray 0 (l.length+1) (Lib.bitLen (l.length+1)) true true (zero_le _) Zc (Or.inl rfl);rw[<-Ao]at J;generalize o8 l.length _=d at J;have⟨⟨z,_,w⟩,B⟩:=J;have z:d.size=l.length+1:=by simpa using z
 have I:∀y:aX α,(s.re y).l=y:=λy=>by cases s<;>first|rfl|(simp[Sl.l]at h)
 refine⟨_,rfl,?_,?_⟩;rw[I,h];have a:d.extract 0 (l.length+1)=d:=Array.ext (by simp[z]) λi a L=>by simp
 rw[a]at w;have L:((finRange (l.length+1)).toArray.extract 0 (l.length+1)).toList=finRange (l.length+1):=by simp[take_of_length_le]
 rw[L]at w;refine(w.map _).trans ?_;rw[show(finRange (l.length+1)).map (λi=>(x::l)[i.1])=x::l from ?_];exact List.ext_getElem Zc λi a L=>Zc;rw[I,pairwise_map,List.pairwise_iff_getElem];intro i j U O Q;have:=B i j (zero_le _) Q (by simpa[z]using O);rw[C]at this;simp only[Array.length_toList]at U O;simp only[getElem!_pos d i U,getElem!_pos d j O,decide_eq_false_iff_not]at this;simpa using this
def CF(c:Zx):Zx:=c.sum::c
def C5(c:Zx):Prop:=c.length<=8/\∀x∈c,0<=x/\x<1073741824
theorem Nl{c:Zx}(h:C5 c)(i:Nat):0<=(c.take i).sum/\(c.take i).sum<=8589934592:=by
 have key:∀(l:Zx),(∀x∈l,0<=x/\x<1073741824)->0<=l.sum/\l.sum<=1073741824*(l.length:Int):=by intro l;induction l with|nil=>intro _;simp|cons x l u=>intro h;have a:=h x Zc;have w:=u λy z=>h y (mem_cons_of_mem _ z);simp only[sum_cons,length_cons];omega
 have a:=key (c.take i) λx B=>h.2 x (mem_of_mem_take B);have w:(c.take i).length<=8:=by rw[length_take];have:=h.1;omega
 omega
theorem FA{c:Zx}{i:Nat}(B:i<c.length):(c.take (i+1)).sum=(c.take i).sum+c[i]:=by rw[List.take_succ_eq_append_getElem B,List.sum_append];simp
theorem L8{a b:Zx}{i:Nat}(B:i<a.length)(D:i<b.length):eZ (a.drop i) (b.drop i)=if a[i]<b[i]then -1 else if a[i]>b[i]then 1 else eZ (a.drop (i+1)) (b.drop (i+1)):=by rw[drop_eq_getElem_cons B,drop_eq_getElem_cons D];rfl
def ez(x y:Zx):Prop:=eZ (CF x) (CF y)<0
instance(x y:Zx):Decidable (ez x y):=by unfold ez;exact inferInstance
theorem ez.L_(x:Zx):¬ez x x:=by unfold ez;rw[uZ];omega
theorem ez.tr{x y z:Zx}(h:ez x y)(k:ez y z):ez x z:=yU _ _ _ h k
theorem ez.tot{x y:Zx}(h:¬ez x y)(k:¬ez y x):x=y:=by have:=vJ _ _ h k;unfold CF at this;exact(List.cons.inj this).2
theorem ez.sum{x y:Zx}(h:x.sum<y.sum):ez x y:=by unfold ez CF;simp[eZ,h]
theorem Bx:∀{l r:aX Zx},l.Pairwise ez->r.Pairwise ez->(∀x,x∈l↔x∈r)->l=r
 |[],[],_,_,_=>rfl|[],y::r,_,_,h=>by have:=(h y).2 Zc;simp at this|x::l,[],_,_,h=>by have:=(h x).1 Zc;simp at this|x::l,y::r,C,hr,h=>by have e:x=y:=(by rcases mem_cons.1 ((h x).1 Zc)with e|e;exact e;rcases mem_cons.1 ((h y).2 Zc)with k|k;exact k.symm;exact absurd (((pairwise_cons.1 hr).1 x e).tr ((pairwise_cons.1 C).1 y k)) (ez.L_ y));subst e;congr 1;have u:=pairwise_cons.1 C;have w:=pairwise_cons.1 hr;refine Bx u.2 w.2 λz=>⟨λB=>?_,λB=>?_⟩;rcases mem_cons.1 ((h z).1 (mem_cons_of_mem _ B))with e|e;exact absurd (e▸u.1 z B) (ez.L_ x);exact e;rcases mem_cons.1 ((h z).2 (mem_cons_of_mem _ B))with e|e;exact absurd (e▸w.1 z B) (ez.L_ x);exact e
theorem Iz{t:Zj}{A:cm 200 br}(D:Small t)(G:VT t){c:Zx}(B:Cons t A c):C5 c:=by
 refine⟨B.1.1▸G.few,λx z=>?_⟩;have⟨p,w,e⟩:=mem_iff_getElem.1 z;have u:p<t.procs.l.length:=by rw[<-B.1.1];exact w
 have:=B.1.2 p x _ (by rw[ζd w,e]) (ζd u);have k:=(D.2 _ (getElem_mem u)).1;omega
theorem ez.ET{x y:Zx}(h:x.sum=y.sum):ez x y↔eZ x y<0:=by unfold ez CF;simp only[eZ,if_neg (show¬x.sum<y.sum by omega),if_neg (show¬x.sum>y.sum by omega)]
theorem ez.nodup{L:aX Zx}(h:L.Pairwise ez):L.Nodup:=h.imp λ{x y}(h:ez x y)(e:x=y)=>ez.L_ y (by rw[e]at h;exact h)
theorem JH{L:aX Zx}{c:Zx}{j:Nat}(h:L.Pairwise ez)(d:∀(i:Nat)x,i<j->L[i]?=some x->ez x c)(D:∀x,L[j]?=some x->ez c x):
 (L.take j++[c]++L.drop j).Pairwise ez/\∀x,x∈L.take j++[c]++L.drop j↔x∈L\/x=c:=by
 have w:∀x∈L.take j,ez x c:=λx a=>by
  have⟨k,b,e⟩:=mem_iff_getElem.1 a;rw[length_take]at b;rw[List.getElem_take]at e;exact d k x Za (by rw[ζd Za,e])
 have u:∀x∈L.drop j,ez c x:=λx a=>by
  have⟨k,b,e⟩:=mem_iff_getElem.1 a;rw[List.length_drop]at b;rw[List.getElem_drop]at e;have B:j<L.length:=Za
  have k0:=D _ (ζd B)
  by_cases e0:k=0
  .subst e0;simp only[Nat.add_zero]at e;rw[<-e];exact k0
  rw[<-e];exact k0.tr (List.pairwise_iff_getElem.1 h j (j+k) B Za Za)
 refine⟨pairwise_append.2 ⟨pairwise_append.2 ⟨h.sublist (List.take_sublist _ _),List.pairwise_singleton _ _,λx a y z=>?_⟩,h.sublist (List.drop_sublist _ _),λx a y z=>?_⟩,λx=>?_⟩
 .rw[mem_singleton.1 z];exact w x a
 .rcases mem_append.1 a with a|a
  .exact(w x a).tr (u y z)
  rw[mem_singleton.1 a];exact u y z
 conv=>rhs;rw[<-List.take_append_drop j L]
 simp only[mem_append,mem_singleton];constructor
 .rintro ((h|h)|h)<;>simp[h]
 rintro((h|h)|h)<;>simp[h]
theorem M6{α:Type}{s:Sl α}{p:α->α->aY Zl}{f:α->Zx}(c:∀x y,x∈s.l->y∈s.l->p x y=some (decide (f x=f y)))(l:s.l.length<2147483648)(g:s.l.Pairwise λx y=>¬eZ (f y) (f x)<0):
 ∃r,vw s p=some r/\(r.l.map f).Nodup/\(∀d,d∈r.l.map f↔d∈s.l.map f)/\r.l.length<=s.l.length:=by
 have S:∀i,i<s.l.length->0<i->∃(a:i<s.l.length)(O:i-1<s.l.length),rO s.l p i=some (decide (f s.l[i]=f s.l[i-1])):=λi h m=>by refine⟨h,Za,?_⟩;unfold rO;rw[ζd h,ζd (show i-1<s.l.length by omega)];exact c _ _ (getElem_mem _) (getElem_mem _)
 unfold vw;rw[if_pos ⟨Za,all_eq_true.2 λi Q=>by
  by_cases h:i=0
  .subst h;rfl
  have⟨_,_,e⟩:=S i (mem_range.1 Q) Za
  rw[e];simp⟩]
 have B:∀y:aX α,(s.l=[]->y=[])->(s.rI y).l=y:=λy z=>by cases s<;>first|rfl|exact(z rfl).symm
 have T:∀i,i∈kept (λi=>(rO s.l p i).getD false) s.l.length↔i<s.l.length/\(i=0\/(rO s.l p i).getD false=false):=λi=>by unfold kept;simp[List.mem_filter]
 have C:=zw (λi=>(rO s.l p i).getD false) s.l.length
 have U:(kept (λi=>(rO s.l p i).getD false) s.l.length).Pairwise (·<·):=by unfold kept;exact List.pairwise_lt_range.filter _
 generalize kept (λi=>(rO s.l p i).getD false) s.l.length=K at *
 have w:(s.rI (K.filterMap (s.l[·]?))).l=K.filterMap (s.l[·]?):=B _ λh=>by rw[h];simp
 refine⟨_,rfl,?_,λd=>?_,?_⟩
 .rw[w,Nodup,pairwise_map,List.pairwise_filterMap];refine U.imp_of_mem ?_;intro i j Q Z n x u y z D;have⟨W,G⟩:=(T j).1 Z;have⟨a,O,e⟩:=S j W Za
  rw[e]at G;have X:¬f s.l[j]=f s.l[j-1]:=by rcases G with h|h;omega;simpa using h
  rw[ζd a]at z;cases z;have I:i<s.l.length:=Za
  rw[ζd I]at u;cases u;have J:=List.pairwise_iff_getElem.1 g;have a1:=J (j-1) j O a Za
  refine X (vJ _ _ a1 ?_)
  by_cases e2:i=j-1
  .subst e2;rw[<-D,uZ];omega
  have a2:=J i (j-1) I O Za
  rw[D]at a2;exact a2
 .rw[w];simp only[mem_map,List.mem_filterMap];constructor
  .rintro⟨x,⟨i,_,u⟩,rfl⟩;exact⟨x,mem_of_getElem? u,rfl⟩
  rintro⟨x,u,rfl⟩;have⟨i,Q⟩:=List.mem_iff_getElem?.1 u;have key:∀(i:Nat)x,s.l[i]?=some x->∃y,(∃j,j∈K/\s.l[j]?=some y)/\f y=f x:=by intro i;induction i with|zero=>intro x u;exact⟨x,⟨0,(T 0).2 ⟨(ζe.1 u).1,.inl rfl⟩,u⟩,rfl⟩|succ i ih=>intro x u;have L:=(ζe.1 u).1;have⟨a,O,e⟩:=S (i+1) L Za;have Y:s.l[i+1]=x:=(ζe.1 u).2;by_cases b:f s.l[i+1]=f s.l[i+1-1];have⟨y,z,k⟩:=ih _ (ζd (show i<s.l.length by omega));exact⟨y,z,by rw[k,<-Y];exact b.symm⟩;exact⟨x,⟨i+1,(T _).2 ⟨L,.inr (by rw[e];simpa using b)⟩,u⟩,rfl⟩
  exact key i x Q
 rw[w];exact Nat.le_trans (List.length_filterMap_le ..) C
theorem JP{a b:Zg}(J:a.l.length<1073741824):jc a b=some (eZ a.l b.l):=by
 refine Wp.eq ?_;unfold jc eC eC.W1;rw[eH];refine fB a.l.length (λn s=>s=(n:Int)/\n<=b.l.length/\eZ (a.l.drop n) (b.l.drop n)=eZ a.l b.l) ⟨rfl,zero_le _,rfl⟩ ?_ ?_;rintro n _ w ⟨rfl,C,u⟩;unfold eC.bn;rw[jD w,bA,bJ w,ζb];have I:a.l.drop n=a.l[n]::a.l.drop (n+1):=drop_eq_getElem_cons w;by_cases D:n<b.l.length;have G:b.l.drop n=b.l[n]::b.l.drop (n+1):=drop_eq_getElem_cons D;rw[show decide ((n:Int)>=len b)=false from by simp[len];omega,bW,bJ D,ζb];rw[I,G]at u;simp only[eZ]at u;generalize a.l[n]=x at *;generalize b.l[n]=y at *;have z:n9 x y=some (if x<y then -1 else if x>y then 1 else 0):=by unfold n9 p8;simp only[bne_self_eq_false,ζb,bW,bA];by_cases c:x<y;simp[c,bl];by_cases B:x>y;simp[c,B,bl];simp[c,B,bl]
 rw[z,ζb];by_cases c:x<y;rw[if_pos c]at u⊢;rw[show((-1:Int)==0)=false from rfl,bW,a_];exact(a_ _).2 ((a_ _).2 u);rw[if_neg c]at u⊢;by_cases B:x>y;rw[if_pos B]at u⊢;rw[show((1:Int)==0)=false from rfl,bW,a_];exact(a_ _).2 ((a_ _).2 u);rw[if_neg B]at u⊢;rw[show((0:Int)==0)=true from rfl,bA,a_];exact⟨cK n Za,D,u⟩;rw[show decide ((n:Int)>=len b)=true from by simp[len];omega,bA,a_];rw[I,List.drop_eq_nil_of_le (show b.l.length<=n by omega)]at u;exact(a_ _).2 ((a_ _).2 u);rintro _ ⟨rfl,C,u⟩;unfold eC.bn;rw[jN,bW,a_];rw[List.drop_eq_nil_of_le (le_refl _)]at u;by_cases h:a.l.length<b.l.length;rw[show decide (len a<len b)=true from by simp[len];omega,bA];rw[drop_eq_getElem_cons h]at u;exact(a_ _).2 ((a_ _).2 u);rw[show decide (len a<len b)=false from by simp[len];omega,bW];rw[List.drop_eq_nil_of_le (show b.l.length<=a.l.length by omega)]at u;exact(a_ _).2 ((a_ _).2 u)
theorem NH{a b:Zg}(D:a.l.length<1073741824):eF a b=some (decide (a.l=b.l)):=by
 refine Wp.eq ?_;unfold eF;rw[b9];refine⟨λh=>?_,λh=>(a_ _).2 ?_⟩;have h:(a.l.length:Int)=b.l.length:=by simpa[len]using h
 have h:a.l.length=b.l.length:=Za;unfold eF.W1;refine fB a.l.length (λn s=>s=(n:Int)/\∀i,i<n->a.l[i]?=b.l[i]?) ⟨rfl,λi h=>absurd h Za⟩ ?_ ?_;rintro n _ u ⟨rfl,z⟩;unfold eF.bn;have B:n<b.l.length:=by omega
 rw[show decide ((n:Int)<len a)=true from jD u,bA,bJ u,ζb,bJ B,ζb,b9];refine⟨λw=>(a_ _).2 ⟨cK n Za,λi C=>?_⟩,λw=>(a_ _).2 ((a_ _).2 ?_)⟩;by_cases e:i=n;subst e;rw[ζd u,ζd B];simpa using w;exact z i Za;refine(decide_eq_false λe=>?_).symm;have c:a.l[n]?=b.l[n]?:=by rw[e]
 rw[ζd u,ζd B]at c;simp at w c;exact w c;rintro _ ⟨rfl,z⟩;unfold eF.bn;rw[jN,bW,a_];refine(a_ _).2 (decide_eq_true (ext_getElem? λi=>?_)).symm;by_cases C:i<a.l.length;exact z i C;rw[getElem?_eq_none Za,getElem?_eq_none Za];refine(decide_eq_false λe=>?_).symm;simp[len,e]at h
section
variable{t:Zj}{A:cm 200 br}
def tB(A:cm 200 br)(e:Zn):aZ:=if e.kind=3 then(ag A e.message).from_ else⟨0,0⟩
structure Pm(t:Trace)(A:cm 200 br)(n:Nat)(m:bZ):Prop where
 lens:m.lengths.l=(t.procs.l.take n).map λP=>(P.events.l.length:Int)
 need:m.need.l.map Sl.l=(t.procs.l.take n).map λP=>P.events.l.map (tB A)
theorem of_wp(Y:Small t)(g:dH t=some true)(d:VT t)(f:gj t (bO t) A):Wp (jx t) (Pm t A t.procs.l.length):=by
 have Z:=d.few;unfold jx jx.W1;refine fB t.procs.l.length (λn s=>s.1=(n:Int)/\s.2.1=t/\Pm t A n s.2.2.2) ⟨rfl,rfl,rfl,rfl⟩ ?_ ?_;rintro n ⟨_,_,h,I⟩ z ⟨a,B,u⟩;simp only at a B u;subst a;have B:=B.symm;subst B;unfold jx.bn;rw[jD z,bA,bJ z,ζb];have O:=ζd z;have H:=(Y.2 _ (getElem_mem z)).1;generalize K:t.procs.l[n]=P at *;unfold jx.W2;refine fB P.events.l.length (λk s=>s.2.1=(k:Int)/\s.2.2.1=t/\s.2.2.2.2=I/\s.1.l=(P.events.l.take k).map (tB A)) ⟨rfl,rfl,rfl,rfl⟩ ?_ ?_;rintro k ⟨nd,_,_,T,_⟩ c ⟨Q,C,D,L⟩;simp only at Q C D L;subst Q;have C:=C.symm;have D:=D.symm;subst C D;unfold jx.bP;rw[jD c,bA,bJ c,ζb];have U:ko t n k P.events.l[k]:=⟨P,O,ζd c⟩;have G:P.events.l.take (k+1)=P.events.l.take k++[P.events.l[k]]:=by rw[take_add_one,ζd c];rfl
 generalize P.events.l[k]=e at *;have fin:∀id,id=tB A e->Wp (jx.J3 nd t.procs (len t.procs) n P.events (len P.events) k t ⟨Sl.nil,Sl.nil⟩ I P id) λw=>match w with|.n S=>S.2.1=((k+1:Nat):Int)/\S.2.2.1=t/\S.2.2.2.2=I/\S.1.l=(P.events.l.take (k+1)).map (tB A)|.x e=>False|.r b=>False:=λid W=>by unfold jx.J3;have⟨r,i,l⟩:=mH (s:=nd) (x:=id) (by rw[L];simp;omega);rw[i,ζb,a_];exact⟨cK k Za,rfl,rfl,by rw[l,L,G,map_append,W];rfl⟩
 rw[b9];constructor;intro u;have u:e.kind=3:=by simpa using u
 have⟨q,j,y,m,o,p,y3,y4,y5⟩:=wL d f U u;have X:=yS Y g f (dK.2 ⟨q,j,m,rfl⟩:((⟨q,j+1⟩:aZ),y)∈bO t) o;simp only at X;rw[p]at X;rw[X,ζb];refine(fin _ (by unfold tB;rw[if_pos u,y5])).mono λw J=>?_;cases w with|n s=>exact J|x e=>exact J.elim|r b=>exact J.elim
 intro u;have u:¬e.kind=3:=by simpa using u
 refine(fin _ (by unfold tB;rw[if_neg u])).mono λw J=>?_;cases w with|n s=>exact J|x e=>exact J.elim|r b=>exact J.elim
 rintro⟨nd,_,_,T,_⟩ ⟨Q,C,D,L⟩;simp only at Q C D L;subst Q;have C:=C.symm;have D:=D.symm;subst C D;unfold jx.bP;have M:I.lengths.l.length=n:=by rw[u.lens];simp;omega
 have N:I.need.l.length=n:=by have:=congrArg List.length u.need;simp at this;omega
 have⟨v,a1,a2⟩:=mH (s:=I.lengths) (x:=len P.events) Za;have⟨x2,E,F⟩:=mH (s:=I.need) (x:=nd) Za;rw[jN,bW,a_];simp only;rw[a1,ζb,E,ζb,a_];have G:t.procs.l.take (n+1)=t.procs.l.take n++[P]:=by rw[take_add_one,O];rfl
 refine⟨cK n Za,rfl,?_,?_⟩;show v.l=_;rw[a2,u.lens,G,map_append];rfl;show x2.l.map Sl.l=_;rw[F,map_append,u.need,G,map_append,map_cons,L,take_length];rfl;rintro⟨_,_,h,I⟩ ⟨a,B,u⟩;simp only at a B u;subst a;have B:=B.symm;subst B;unfold jx.bn;rw[jN,bW,a_];exact(a_ _).2 u
theorem NP(f:VT t)(g:gj t (bO t) A){m:bZ}(n:Pm t A t.procs.l.length m){c:Zg}(D:Cons t A c.l){p:Nat}(o:p<t.procs.l.length):
 Wp (ni m c p) λb=>(b=true↔∃a,c.l[p]?=some a/\Cons t A (c.l.set p (a+1))):=by
 have ab:=D.1.1;have u:=ζd o;have⟨a,w⟩:=D.1.at_ o;have H:=D.1.2 p a _ w u;generalize t.procs.l[p]=P at *;have G:m.lengths.l[p]?=some (P.events.l.length:Int):=by rw[n.lens,take_length,getElem?_map,u];rfl
 have L:=(ζe.1 w).1;have O:idx c (p:Int)=some a:=by rw[kj];exact w
 unfold ni;rw[O,ζb,kj,G,ζb,b9];constructor
 .intro h;have h:a=P.events.l.length:=by simpa using h
  refine(a_ _).2 ⟨λh=>(by cases h),λ⟨b,B,S⟩=>?_⟩
  rw[w]at B;cases B;have:=S.1.2 p (a+1) P (by simp[L]) u
  omega
 intro h;have h:¬a=P.events.l.length:=by simpa using h
 have T:a<P.events.l.length:=Za
 have r:=congrArg (λl=>l[p]?) n.need
 simp only[take_length,getElem?_map,u,Option.map_some]at r;have⟨nd,U,W⟩:=ζf.1 r;have z:a.toNat<P.events.l.length:=Za
 have K:idx nd a=some (tB A P.events.l[a.toNat]):=by rw[N0 H.1,W,getElem?_map,ζd z];rfl
 rw[kj,U,ζb,ζb,K,ζb];have X:=D.up f g u w T;have I:(∃b,c.l[p]?=some b/\Cons t A (c.l.set p (b+1)))↔Gj t A c.l p:=by rw[X];exact⟨λ⟨b,B,k⟩=>by rw[w]at B;cases B;exact k,λk=>⟨a,w,k⟩⟩
 rw[I];have Y:ko t p a.toNat P.events.l[a.toNat]:=⟨P,u,ζd z⟩;have Z:Gj t A c.l p↔(P.events.l[a.toNat].kind=3->∃b,c.l[(ag A P.events.l[a.toNat].message).from_.proc.toNat]?=some b/\(ag A P.events.l[a.toNat].message).from_.index<=b):=⟨λ⟨Q,e,x,v,E,C,M⟩=>by rw[u]at v;cases v;rw[w]at E;cases E;rw[ζd z]at C;cases C;exact M,λh=>⟨P,_,a,u,w,ζd z,h⟩⟩
 rw[Z];generalize P.events.l[a.toNat]=e at *;unfold tB
 by_cases C:e.kind=3
 .rw[if_pos C];have⟨q,j,N,_,_,y,Q,R,_⟩:=wz f g Y C;have d:q<c.l.length:=by have:=(ζe.1 R).1;omega
  rw[N];simp only[toNat_natCast];rw[bJ d,ζb,a_];simp only[decide_eq_true_eq];exact⟨λh _=>⟨_,ζd d,h⟩,λh=>by have⟨b,B,V⟩:=h C;rw[ζd d]at B;cases B;exact V⟩
 rw[if_neg C];have F:0<c.l.length:=Za
 have J:=D.1.pos 0 _ (ζd F);have hi:idx c ((⟨0,0⟩:aZ).proc)=some c.l[0]:=bJ (s:=c) (i:=0) F;rw[hi,ζb,a_];exact⟨λ_ h=>absurd h C,λ_=>by simpa using J⟩
end
theorem D2{α:Type}:∀l:aX α,(range l.length).filterMap (l[·]?)=l
 |[]=>rfl|x::l=>by rw[length_cons,List.range_succ_eq_map,List.filterMap_cons,List.filterMap_map];show x::(range l.length).filterMap (λi=>(x::l)[i+1]?)=_;simp only[List.getElem?_cons_succ];rw[D2 l]
theorem Ro{α:Type}{s r:Sl α}{p:α->α->aY Zl}(h:vw s p=some r):r.l.Sublist s.l:=by
 unfold vw at h;split at h
 .cases h;have key:((kept (λi=>(rO s.l p i).getD false) s.l.length).filterMap (s.l[·]?)).Sublist s.l:=by
   have e:=D2 s.l
   conv=>rhs;rw[<-e]
   exact List.Sublist.filterMap _ (by unfold kept;exact List.filter_sublist)
  generalize(kept (λi=>(rO s.l p i).getD false) s.l.length).filterMap (s.l[·]?)=y at *
  cases s<;>first|exact key|(simp[Sl.rI,Sl.l])
 cases h
theorem FN{c:Zg}(D:c.l.length<=1073741824)(B:0<c.l.length):∃d,(lC c).bind Sl.whole=some d/\d.l=c.l:=by
 unfold lC;have key:((nD (Sl.row []:Zg) c).bind λx=>some x).bind Sl.whole=some (.row ([]++c.l)):=by unfold nD;rw[if_neg (λh=>by rw[h]at B;simp at B),if_pos (show(Sl.row ([]:Zx)).l.length+c.l.length<=2147483648 from show 0+c.l.length<=_ by omega)];rfl
 cases c with|nil=>simp[Sl.l]at B|emp=>simp[Sl.l]at B|part l=>exact⟨_,key,rfl⟩|row l=>exact⟨_,key,rfl⟩
section
variable{t:Zj}{A:cm 200 br}
theorem MZ(F:Small t)(U:VT t)(o:gj t (bO t) A){m:bZ}(H:Pm t A t.procs.l.length m){k:Nat}{B:Zb}(Y:xh t A k B)(hl:B.l.length<=5000):
 Wp (dQ m B) λr=>xh t A (k+1) r/\(ins r).Nodup/\r.l.length<=40000/\(ins r).Pairwise λx y=>¬eZ y x<0:=by
 have af:=U.few;unfold dQ dQ.W1;refine fB B.l.length (λn s=>s.2.1=len B/\s.2.2=(n:Int)/\s.1.l.length<=8*n/\∀d,d∈ins s.1↔∃c∈(B.l.take n).map Sl.l,AH t A c d) ⟨rfl,rfl,zero_le _,λd=>by simp[ins,Sl.l]⟩ ?_ ?_
 .rintro n ⟨out,_,_⟩ w ⟨e1,e2,g1,g2⟩;simp only at e1 e2 g1 g2;subst e1 e2;have L:=(Y B.l[n].l).1 (kV.2 ⟨_,getElem_mem w,rfl⟩);unfold dQ.bn;rw[jD w,bA,bJ w,ζb];have O:∀d,d∈(B.l.take (n+1)).map Sl.l↔d∈(B.l.take n).map Sl.l\/d=B.l[n].l:=λd=>we w
  generalize B.l[n]=c at *;have ah:=L.1.1.1;have ad:=U.ok.one;unfold dQ.W2;refine fB c.l.length (λj s=>s.2=(j:Int)/\s.1.l.length<=8*n+j/\∀d,d∈ins s.1↔d∈ins out\/∃(p:Nat)(a:Int),p<j/\c.l[p]?=some a/\d=c.l.set p (a+1)/\Cons t A d) ⟨rfl,g1,λd=>⟨.inl,λh=>h.elim id λ⟨p,a,h,_⟩=>absurd h Za⟩⟩ ?_ ?_
  .rintro j ⟨o2,_⟩ W ⟨e,i,Q⟩;simp only at e i Q;subst e;unfold dQ.bP;rw[show decide ((j:Int)<len c)=true from jD W,bA,eH];refine(NP U o H L.1 (p:=j) Za).mono λb q=>?_
   have u:=ζd W;have hr:=L.1.1.2 j _ _ u (ζd (show j<t.procs.l.length by omega))
   have ai:=(F.2 _ (getElem_mem (show j<t.procs.l.length by omega))).1
   generalize c.l[j]=a at *;have more:∀o3:Zb,(∀d,d∈ins o3↔d∈ins o2\/d=c.l.set j (a+1)/\Cons t A d)->∀d,d∈ins o3↔d∈ins out\/∃(p:Nat)(a:Int),p<j+1/\c.l[p]?=some a/\d=c.l.set p (a+1)/\Cons t A d:=λo3 h d=>by rw[h,Q];constructor;rintro((h|⟨p,b,h,k⟩)|⟨h,k⟩);exact .inl h;exact .inr ⟨p,b,Za,k⟩;exact .inr ⟨j,a,Za,u,h,k⟩;rintro(h|⟨p,b,h,k1,k2,k3⟩);exact .inl (.inl h);by_cases e:p=j;subst e;rw[u]at k1;cases k1;exact .inr ⟨k2,k3⟩;exact .inl (.inr ⟨p,b,Za,k1,k2,k3⟩)
   rw[b9];constructor
   .intro ht;have⟨x,C,Z⟩:=q.1 ht;rw[u]at C;cases C;have⟨d,K,z⟩:=FN (c:=c) Za Za
    have⟨M,N,S⟩:=put_eq (s:=d) (p:=j) (x:=a+1) (by rw[z];exact W)
    have⟨o3,P,D⟩:=mH (s:=o2) (x:=M) Za
    have R:Sl.get d j=some a:=by unfold Sl.get;rw[z];exact u
    rw[K,ζb,om (by rw[z];exact W),ζb,R,ζb,ζb,j9 _ Za Za,N,ζb,P,ζb,a_]
    refine⟨cK j Za,by rw[D];simp;omega,more o3 λe=>?_⟩
    rw[Ii D,S,z];exact⟨λh=>h.elim .inl λh=>.inr ⟨h,by rw[h];exact Z⟩,λh=>h.elim .inl λh=>.inr h.1⟩
   intro v;refine(a_ _).2 ⟨cK j Za,Nat.le_succ_of_le i,more o2 λd=>⟨.inl,λh=>h.elim id λ⟨l,X⟩=>?_⟩⟩
   rw[q.2 ⟨a,u,by rw[<-l];exact X⟩]at v;cases v
  rintro⟨o2,_⟩ ⟨e,i,Q⟩;simp only at e i Q;subst e;unfold dQ.bP;rw[jN,bW,a_];refine(a_ _).2 ⟨rfl,cK n Za,show o2.l.length<=_ by omega,λd=>?_⟩
  rw[Q];constructor
  .rintro (h|⟨p,a,_,h⟩)
   .have⟨c',g,G⟩:=(g2 d).1 h;exact⟨c',(O c').2 (.inl g),G⟩
   exact⟨_,(O _).2 (.inr rfl),p,a,h⟩
  rintro⟨c',g,G⟩;rcases(O c').1 g with h|h
  .exact .inl ((g2 d).2 ⟨c',h,G⟩)
  subst h;have⟨p,a,h⟩:=G;exact .inr ⟨p,a,(ζe.1 h.1).1,h⟩
 rintro⟨out,_,_⟩ ⟨e1,e2,g1,g2⟩;simp only at e1 e2 g1 g2;subst e1 e2;unfold dQ.bn;rw[jN,bW,a_];simp only;have I:xh t A (k+1) out:=λd=>by rw[g2,take_length,<-AH.iff U o (k:=k)];exact⟨λ⟨c,g,G⟩=>⟨c,(Y c).1 g,G⟩,λ⟨c,g,G⟩=>⟨c,(Y c).2 g,G⟩⟩
 have J:∀s:Zb,(∀d,d∈ins s↔d∈ins out)->∀x∈s.l,x.l.length<1073741824:=λs h x C=>by have:=((I x.l).1 ((h x.l).1 (kV.2 ⟨x,C,rfl⟩))).1.1.1;omega
 have⟨r1,l,p1,E⟩:=MP (s:=out) (p:=jc) (f:=Sl.l) (λx y C _=>JP (J out (λ_=>Iff.rfl) x C)) Za
 have T:∀d,d∈ins r1↔d∈ins out:=λd=>(p1.map Sl.l).mem_iff
 have ae:r1.l.length=out.l.length:=p1.length_eq;have⟨r2,X,nd,V,l2⟩:=M6 (s:=r1) (p:=jS) (f:=Sl.l) (λx y C _=>by unfold jS;rw[NH (J r1 T x C)];rfl) Za E
 rw[l,ζb,X,ζb,a_];exact⟨λd=>(V d).trans ((T d).trans (I d)),nd,Za,by unfold ins;rw[pairwise_map];exact E.sublist (Ro X)⟩
end
theorem DE{c:Zg}(h:C5 c.l):fW c=some c.l.sum:=by refine Wp.eq ?_;have w:=h.1;unfold fW fW.W1;refine fB c.l.length (λi(q:Int×Int)=>q.2=(i:Int)/\q.1=(c.l.take i).sum) ⟨rfl,rfl⟩ ?_ ?_;rintro i ⟨m,_⟩ u ⟨e,a⟩;simp only at e a;subst e;subst a;unfold fW.bn;rw[jD u,bA,bJ u,ζb,a_];have k:=Nl h (i+1);rw[FA u]at k;grind[FA,j9];simp_all[fW.bn,bW,a_]
theorem Hi{a b:Zg}(B:C5 a.l)(D:C5 b.l)(G:a.l.length=b.l.length):gq a b=some (decide (ez a.l b.l)):=by
 have C:=B.1;unfold gq;rw[DE B,ζb,DE D,ζb];by_cases e:a.l.sum=b.l.sum;rw[show(a.l.sum==b.l.sum)=true from Zd,bA];refine Wp.eq ?_;unfold gq.W1;refine fB a.l.length (λi(q:Int)=>q=(i:Int)/\eZ (a.l.drop i) (b.l.drop i)=eZ a.l b.l) ⟨rfl,rfl⟩ ?_ ?_;rintro i _ w ⟨rfl,h⟩;have u:i<b.l.length:=by omega
 unfold gq.bn;rw[jD w,bA,bJ w,ζb,bJ u,ζb];rw[L8 w u]at h;by_cases e2:a.l[i]=b.l[i];rw[show(a.l[i]==b.l[i])=true from Zd,bA,a_];rw[if_neg Za,if_neg Za]at h;grind[cK];rw[show(a.l[i]==b.l[i])=false from Zd,bW,ζb,ζb,a_];refine(a_ _).2 ?_;have z:decide (ez a.l b.l)=decide (eZ a.l b.l<0):=decide_eq_decide.2 (ez.ET e);grind;rintro _ ⟨rfl,h⟩;unfold gq.bn;rw[jN,bW,a_];refine(a_ _).2 ?_;have z:decide (ez a.l b.l)=decide (eZ a.l b.l<0):=decide_eq_decide.2 (ez.ET e);rw[z];rw[drop_of_length_le (le_refl _),drop_of_length_le Za]at h;rw[<-h];rfl;rw[show(a.l.sum==b.l.sum)=false from Zd,bW,ζb,ζb];grind[ez,CF,eZ]
theorem Dg{a b:Zg}(B:a.l.length<1073741824):dP a b=some (decide (a.l=b.l)):=by
 refine Wp.eq ?_;unfold dP;rw[b9];refine⟨λh=>?_,λh=>(a_ _).2 ?_⟩;have h:(a.l.length:Int)=b.l.length:=by grind
 have h:a.l.length=b.l.length:=Za;unfold dP.W1;refine fB a.l.length (λn s=>s=(n:Int)/\∀i,i<n->a.l[i]?=b.l[i]?) ⟨rfl,λi h=>absurd h Za⟩ ?_ ?_;rintro n _ u ⟨rfl,w⟩;grind[dP.bn,bJ,b9,a_,cK];rintro _ ⟨rfl,w⟩;unfold dP.bn;rw[jN,bW,a_];refine(a_ _).2 (decide_eq_true (ext_getElem? λi=>?_)).symm;grind;grind
theorem ja(s:Zb):(ins s).length=s.l.length:=by unfold ins;simp
theorem Ri(s:Zb)(i:Nat):(ins s)[i]?=(s.l[i]?).map Sl.l:=by grind[ins]
theorem yx{s:Zb}{i:Nat}(h:i<s.l.length):(ins s)[i]?=some s.l[i].l:=by rw[Ri,ζd h];rfl
theorem HC{l:Zb}{c:Zg}(U:∀x∈l.l,C5 x.l/\x.l.length=c.l.length)(b:C5 c.l)(t:l.l.length<1073741824)(f:(ins l).Pairwise ez):
 Wp (gu l c) λr=>r.l.length<=l.l.length+1/\(ins r).Pairwise ez/\∀d,d∈ins r↔d∈ins l\/d=c.l:=by
 have W:=b.1;have a:∀n:Nat,n<=l.l.length->(∀(i:Nat)x,i<n->(ins l)[i]?=some x->ez x c.l)->(∀x,(ins l)[n]?=some x->¬ez x c.l)->
  Wp ((bl (decide ((n:Int)<(len l))) ((idx l n).bind λJ=>(dP J c).bind λL=>some L) (some false):aY Zl).bind λO=>
  bl O (some l) ((ga l none (some (n:Int))).bind λw=>(nD (Sl.row []:Zb) w).bind λz=>(eW z (c:Zg)).bind λB=>(ga l (some (n:Int)) none).bind λC=>(nD B C).bind λD=>some D))
  λr=>r.l.length<=l.l.length+1/\(ins r).Pairwise ez/\∀d,d∈ins r↔d∈ins l\/d=c.l:=by
  intro n G Z v;have X:(∀x,(ins l)[n]?=some x->x≠c.l)->Wp ((ga l none (some (n:Int))).bind λw=>(nD (Sl.row []:Zb) w).bind λz=>(eW z (c:Zg)).bind λB=>(ga l (some (n:Int)) none).bind λC=>(nD B C).bind λD=>some D) λr=>r.l.length<=l.l.length+1/\(ins r).Pairwise ez/\∀d,d∈ins r↔d∈ins l\/d=c.l:=by intro y;have⟨I,g,e4⟩:=tF l n G;have A:I.l.length<=l.l.length:=Zd;have⟨x5,j,e5⟩:=zc (s:=(Sl.row []:Zb)) (x:=I) (show 0+I.l.length<=_ by omega);have e5:x5.l=I.l:=e5;have⟨k,m,e6⟩:=mH (s:=x5) (x:=c) Zd;have⟨x7,o,e7⟩:=Hu l n G;have⟨Y,W,E⟩:=zc (s:=k) (x:=x7) Zd;rw[g,ζb,j,ζb,m,ζb,o,ζb,W,ζb,a_];have e:Y.l=l.l.take n++[c]++l.l.drop n:=Ze;have F:ins Y=(ins l).take n++[c.l]++(ins l).drop n:=(by simp_all[ins]);grind[JH,ez.tot]
  by_cases h:n<l.l.length
  .rw[jD h,bA,bJ h,ζb,Dg (by have:=(U _ (getElem_mem h)).1.1;omega),ζb,ζb]
   by_cases e:l.l[n].l=c.l
   .rw[decide_eq_true e,bA,a_];refine⟨Za,f,λd=>⟨.inl,λQ=>Q.elim id λQ=>?_⟩⟩
    rw[Q,<-e];exact kV.2 ⟨_,getElem_mem h,rfl⟩
   grind[bW,yx]
  rw[show(n:Int)=(l.l.length:Nat)from Za,jN,bW,ζb,bW,<-show(n:Int)=(l.l.length:Nat)from Za]
  grind[ja]
 unfold gu gu.W1;refine fB l.l.length (λn s=>s=(n:Int)/\∀(i:Nat)x,i<n->(ins l)[i]?=some x->ez x c.l) ⟨rfl,λi x h=>absurd h Za⟩ ?_ ?_
 .rintro n _ u ⟨rfl,S⟩;have⟨p,q⟩:=U _ (getElem_mem u);unfold gu.bn;rw[jD u,bA,bJ u,ζb,Hi p b q,ζb,ζb]
  by_cases e:ez l.l[n].l c.l
  .rw[decide_eq_true e,bA,a_]
   grind[cK,yx]
  rw[decide_eq_false e,bW,a_];exact a n Za S λx T=>by rw[yx u]at T;grind
 rintro _ ⟨rfl,S⟩;unfold gu.bn;rw[jN,bW,ζb,bW,a_];exact a _ (le_refl _) S λx T=>by have:=(ζe.1 T).1;rw[ja]at this;omega
section
variable{t:Zj}{A:cm 200 br}
structure dY(t:Trace)(A:cm 200 br)(L:List (List Int)):Prop where
 srt:L.Pairwise ez
 mem:∀d,d∈L↔Cons t A d
def zg(t:Zj)(A:cm 200 br):Prop:=∃L:aX Zx,L.Nodup/\(∀d∈L,Cons t A d)/\5000<L.length
theorem dY.one{L R:aX Zx}(h:dY t A L)(k:dY t A R):L=R:=Bx h.srt k.srt λx=>(h.mem x).trans (k.mem x).symm
theorem dY.not{L:aX Zx}(h:dY t A L)(B:L.length<=5000)(k:zg t A):False:=by have⟨R,nd,w,u⟩:=k;have:=AB nd λx z=>(h.mem x).2 (w x z);omega
theorem DF{k:Nat}{o l:aX Zx}(a:∀d,d∈l↔Cons t A d/\d.sum=(k:Int))(B:l.Pairwise ez)(D:o.Pairwise ez)(G:∀d,d∈o↔Cons t A d/\d.sum<(k:Int)):
 (o++l).Pairwise ez/\∀d,d∈o++l↔Cons t A d/\d.sum<((k+1:Nat):Int):=by
 grind[ez.sum]
theorem L7(o:Small t)(J:VT t)(T:gj t (bO t) A):Wp (dL t) λr=>(r.2=true/\dY t A (ins r.1)/\r.1.l.length<=5000)\/(r.2=false/\r.1=.nil/\zg t A):=by
 have N:=J.few;unfold dL jT;rw[if_pos ⟨Ze,Zd⟩,ζb];unfold dL.W1;have fin:∀(k:Nat)(u out:Zb),xh t A k u->u.l.length=0->(ins out).Pairwise ez->(∀d,d∈ins out↔Cons t A d/\d.sum<(k:Int))->dY t A (ins out):=λk u out b U G L=>⟨G,λd=>(L d).trans ⟨λh=>h.1,λh=>⟨h,b.none J T U h⟩⟩⟩
 refine fB (qx t+1) (λk s=>xh t A k s.1/\(ins s.1).Pairwise ez/\(ins s.2).Pairwise ez/\(∀d,d∈ins s.2↔Cons t A d/\d.sum<(k:Int))/\s.1.l.length<=40000/\s.2.l.length<=5000)
  ⟨Sb (by simp[Sl.l,len]),by simp[ins,Sl.l],by simp[ins,Sl.l],λd=>⟨λh=>by grind[ins,Sl.l],λh=>absurd (oU h.1.1.pos) Zd⟩,by simp[Sl.l],by simp[Sl.l]⟩ ?_ ?_
 rintro k ⟨u,out⟩ P ⟨b,C,w,G,L,O⟩;simp only at b C w G L O;unfold dL.bn;rw[Bz];by_cases U:u.l.length=0;rw[show(!decide (u.l.length=0))=false from Ze,bW,a_];exact(a_ _).2 (.inl ⟨rfl,fin k u out b U w G,O⟩);rw[show(!decide (u.l.length=0))=true from Ze,bA];have⟨x,q,R⟩:=zc (s:=out) (x:=u) Za;have W:ins x=ins out++ins u:=by grind[ins]
 have⟨o1,o2⟩:=DF b C w G;rw[<-W]at o1 o2;rw[q,ζb,b9];refine⟨λX=>(a_ _).2 ((a_ _).2 (.inr ⟨rfl,rfl,ins x,ez.nodup o1,λd v=>((o2 d).1 v).1,?_⟩)),λX=>?_⟩;rw[ja];grind;have X:x.l.length<=5000:=Zd;have V:u.l.length<=5000:=Zd;have E:∀d,Cons t A d->C5 d/\d.length=t.procs.l.length:=λd h=>⟨Iz o J h,h.1.1⟩;unfold dL.W2;refine fB u.l.length (λn s=>s.2=(n:Int)/\s.1.l.length<=8*n/\(ins s.1).Pairwise ez/\∀d,d∈ins s.1↔∃c∈(u.l.take n).map Sl.l,AH t A c d) ⟨rfl,zero_le _,by simp[ins,Sl.l],λd=>by simp[ins,Sl.l]⟩ ?_ ?_;rintro n ⟨more,_⟩ B ⟨e,g1,f,g2⟩;simp only at e g1 f g2;subst e;unfold dL.bP;have Y:=(b u.l[n].l).1 (kV.2 ⟨_,getElem_mem B,rfl⟩);rw[jD B,bA,bJ B,ζb,eH];refine(Ig o J T Y.1).mono λnx S=>?_;unfold dL.W3;refine fB nx.l.length (λm s=>s.2=(m:Int)/\s.1.l.length<=8*n+m/\(ins s.1).Pairwise ez/\∀d,d∈ins s.1↔d∈ins more\/d∈(nx.l.take m).map Sl.l) ⟨rfl,g1,f,λd=>Zc⟩ ?_ ?_;rintro m ⟨Z,_⟩ D ⟨e,i,fs,I⟩;simp only at e i fs I;subst e;unfold dL.dU;rw[jD D,bA,bJ D,ζb,eH];have F:=(S.2 nx.l[m].l).1 (kV.2 ⟨_,getElem_mem D,rfl⟩);have⟨_,_,_,_,H⟩:=F;refine(HC (l:=Z) (c:=nx.l[m]) (λy K=>?_) (E _ H).1 Za fs).mono λr j=>?_;have ae:Cons t A y.l:=by rcases(I y.l).1 (kV.2 ⟨_,K,rfl⟩)with h|h;have⟨_,_,p,a,_,_,k⟩:=(g2 y.l).1 h;omega;have⟨z,M,e⟩:=mem_map.1 h;have⟨p,a,_,_,k⟩:=(S.2 z.l).1 (kV.2 ⟨_,mem_of_mem_take M,rfl⟩);rw[<-e];exact k
 grind;refine(a_ _).2 ⟨cK m Za,Nat.le_trans j.1 Za,j.2.1,λd=>?_⟩;rw[j.2.2,I,we D,or_assoc];rintro⟨Z,_⟩ ⟨e,i,fs,I⟩;simp only at e i fs I;subst e;unfold dL.dU;rw[jN,bW,a_];refine(a_ _).2 ⟨cK n Za,show Z.l.length<=_ by omega,fs,λd=>?_⟩;rw[I,take_length];constructor;rintro(h|h);grind;exact⟨_,(we B).2 (.inr rfl),(S.2 d).1 h⟩;rintro⟨c,g,Q⟩;rcases(we B).1 g with h|h;grind;subst h;exact .inr ((S.2 d).2 Q);rintro⟨more,_⟩ ⟨e,g1,f,g2⟩;simp only at e g1 f g2;subst e;unfold dL.bP;rw[jN,bW,a_];refine(a_ _).2 ⟨λd=>?_,f,o1,o2,show more.l.length<=_ by omega,X⟩;rw[g2,take_length,<-AH.iff J T (k:=k)];exact⟨λ⟨c,g,Q⟩=>⟨c,(b c).1 g,Q⟩,λ⟨c,g,Q⟩=>⟨c,(b c).2 g,Q⟩⟩;rintro⟨u,out⟩ ⟨b,C,w,G,L,O⟩;simp only at b C w G L O;unfold dL.bn;rw[Bz,show(!decide (u.l.length=0))=false from by simp[b.last],bW,a_];exact(a_ _).2 (.inl ⟨rfl,fin _ u out b b.last w G,O⟩)
theorem Om(B:VT t)(D:Small t):qx t<8589934600:=by
 have key:∀(l:aX cn),(∀p∈l,p.events.l.length<1073741824)->(l.map λP=>P.events.l.length).sum<=1073741824*l.length:=by intro l;induction l with|nil=>grind|cons x l w=>grind
 have a:=key t.procs.l λp u=>(D.2 p u).1;have z:=B.few;grind[qx]
theorem Qv{k:Int}{L:aX Zx}(nd:L.Nodup)(B:L.Pairwise λx y=>¬eZ y x<0)(a:∀d∈L,d.sum=k):L.Pairwise ez:=by refine(B.and nd).imp_of_mem λ{x y}u w h=>?_;grind[ez.ET,vJ]
theorem KG(O:Small t)(b:dH t=some true)(G:VT t)(T:gj t (bO t) A):
 Wp (oG t) λr=>(r.2=0/\dY t A (ins r.1)/\r.1.l.length<=5000)\/(r.2=16/\r.1=.nil/\zg t A):=by
 have X:=G.few;have f:=Om G O;unfold oG ji;rw[b,ζb,bA,eH,eH];refine(of_wp O b G T).mono λm Y=>?_
 unfold jT;rw[if_pos ⟨Ze,Zd⟩,ζb]
 have fin:∀(k:Nat)(u:Zb)(out:Sl Zb),xh t A k u->u.l.length=0->(out.l.flatMap ins).Pairwise ez->(∀d,d∈out.l.flatMap ins↔Cons t A d/\d.sum<(k:Int))->out.l.length<=5000->(out.l.flatMap ins).length<=5000->
  Wp ((e_ out).bind λC=>some (C,(0:Int))) λr=>(r.2=0/\dY t A (ins r.1)/\r.1.l.length<=5000)\/(r.2=16/\r.1=.nil/\zg t A):=λk u out a W D Z g i=>by
  have z:(out.l.flatMap Sl.l).map Sl.l=out.l.flatMap ins:=by rw[List.map_flatMap];rfl
  have j:(Aw out).l=out.l.flatMap Sl.l:=by unfold Aw;split;(next h=>exact(List.length_eq_zero_iff.1 h).symm);rfl
  unfold e_;rw[if_pos ⟨Za,Zd⟩,ζb,a_]
  have e:ins (Aw out)=out.l.flatMap ins:=by grind[ins]
  refine .inl ⟨rfl,⟨Zd,λd=>by rw[e];exact(Z d).trans ⟨λh=>h.1,λh=>⟨h,a.none G T W h⟩⟩⟩,?_⟩
  grind
 unfold ji.W1;refine fB (qx t+1) (λk s=>xh t A k s.1/\(ins s.1).Pairwise ez/\(s.2.1.l.flatMap ins).Pairwise ez/\(∀d,d∈s.2.1.l.flatMap ins↔Cons t A d/\d.sum<(k:Int))/\s.2.2=((s.2.1.l.flatMap ins).length:Int)/\s.2.1.l.length<=(s.2.1.l.flatMap ins).length/\(s.2.1.l.flatMap ins).length<=5000/\s.1.l.length<=40000)
  ⟨Sb (by simp[Sl.l,len]),by simp[ins,Sl.l],by simp[Sl.l],λd=>⟨λh=>by grind[Sl.l],λh=>absurd (oU h.1.1.pos) Zd⟩,by simp[Sl.l],by simp[Sl.l],by simp[Sl.l],by simp[Sl.l]⟩ ?_ ?_
 .rintro k ⟨u,out,tot⟩ hk ⟨a,B,w,D,J,Q,L,S⟩;simp only at a B w D J Q L S;have⟨o1,o2⟩:=DF a B w D;unfold ji.bn;rw[Bz]
  by_cases W:u.l.length=0
  .rw[show(!decide (u.l.length=0))=false from Ze,bW,a_]
   grind[a_]
  rw[show(!decide (u.l.length=0))=true from Ze,bA,J]
  have c:wrap .i64 (((out.l.flatMap ins).length:Int)+len u)=(((out.l.flatMap ins).length+u.l.length:Nat):Int):=by have e:len u=(u.l.length:Int):=rfl;rw[e,j9 _ Za Za];omega
  rw[c,b9];refine⟨λI=>(a_ _).2 ((a_ _).2 ?_),λI=>?_⟩
  .show Wp (((e_ (Sl.nil:Sl Zb)).bind λC=>some (C,(16:Int)))) _
   have e0:e_ (Sl.nil:Sl Zb)=some .nil:=by unfold e_;rfl
   rw[e0,ζb,a_];refine .inr ⟨rfl,rfl,out.l.flatMap ins++ins u,ez.nodup o1,λd U=>((o2 d).1 U).1,?_⟩
   have I:=of_decide_eq_true I;rw[ζi,ja];omega
  have I:=of_decide_eq_false I;have⟨o3,g1,g2⟩:=mH (s:=out) (x:=u) Za
  rw[g1,ζb,eH];refine(MZ O G T Y a Za).mono λr⟨r1,r2,r3,r4⟩=>?_
  have z:o3.l.flatMap ins=out.l.flatMap ins++ins u:=by rw[g2];simp
  refine(a_ _).2 ⟨r1,Qv r2 r4 λd U=>((r1 d).1 U).2,by rw[z];exact o1,λd=>by rw[z];exact o2 d,by rw[z,ζi,ja],?_,?_,r3⟩
  all_goals grind[ja]
 rintro⟨u,out,tot⟩ ⟨a,B,w,D,J,Q,L,S⟩;simp only at a B w D J Q L S;unfold ji.bn;rw[Bz,show(!decide (u.l.length=0))=false from by simp[a.last],bW,a_]
 exact(a_ _).2 (fin _ u out a a.last w D Za L)
theorem IJ(B:Small t)(a:dH t=some true)(D:VT t)(G:gj t (bO t) A):
 (∃L r s,dY t A L/\L.length<=5000/\oG t=some (r,0)/\dL t=some (s,true)/\ins r=L/\ins s=L)\/
 (oG t=some (.nil,16)/\dL t=some (.nil,false)):=by
 have⟨⟨r,e⟩,c,d⟩:=KG B a D G;have⟨⟨s,b⟩,z,w⟩:=L7 B D G;rcases d with⟨rfl,k1,k2⟩|⟨rfl,rfl,k1⟩
 .rcases w with⟨rfl,u,C⟩|⟨rfl,rfl,u⟩
  .exact .inl ⟨ins r,r,s,k1,by rw[ja];omega,c,z,rfl,u.one k1⟩
  exact(k1.not (by rw[ja];omega) u).elim
 rcases w with⟨rfl,u,C⟩|⟨rfl,rfl,u⟩
 .exact(u.not (by rw[ja];omega) k1).elim
 grind
end
end Go.VE
namespace Go.VE
theorem Code.one{t:Zj}{A:cm 200 br}{c:Zx}{r s:Int}(h:Code t A c r)(g:Code t A c s):r=s:=by rcases h with⟨h,rfl⟩|⟨a,u,rfl⟩|⟨a,u,rfl⟩|⟨a,u,rfl⟩<;>rcases g with⟨g,rfl⟩|⟨g1,g2,rfl⟩|⟨g1,g2,rfl⟩|⟨g1,g2,rfl⟩<;>first|rfl|contradiction|exact absurd ‹pP t c›.1 ‹_›
section
variable{t:Zj}{A:cm 200 br}
theorem OA(G:Small t)(e:dH t=some true)(J:VT t)(O:gj t (bO t) A){c:Zg}(B:Cons t A c.l){ps:Zv}(D:∀r∈ps,r<t.procs.l.length)(T:ps.length<1073741824):
 eu t (Sl.row [c]:Zb) (Sl.row (ps.map λn:Nat=>(n:Int)):Zg)=some 0:=by
 refine Wp.eq ?_;have u:=B.1.1;unfold eu xS;rw[e,ζb,bA,Gt (f:=λz=>(mR z t).getD false) (λz _=>LU.ok ((a_ _).2 trivial)) (by simp[Sl.l]),ζb,ζb,ζb]
 have w:(!((Sl.row [c]:Zb).l.any λz=>(mR z t).getD false))=true:=by simp[Sl.l,mR,len,u]<;>exact congrArg Int.ofNat u
 rw[w,bA];unfold eu.W1;refine fB 1 (λn s=>s=(n:Int)) rfl ?_ ?_
 .rintro n _ C rfl;obtain rfl:n=0:=by omega
  unfold eu.bn;rw[show decide (((0:Nat):Int)<len (Sl.row [c]:Zb))=true from rfl,bA,show idx (Sl.row [c]:Zb) ((0:Nat):Int)=some c from rfl,ζb,eH];refine(I9 G u).mono λb I=>?_
  rw[I.2 B.1,bA];exact(a_ _).2 rfl
 rintro _ rfl;unfold eu.bn;rw[show decide (((1:Nat):Int)<len (Sl.row [c]:Zb))=false from rfl,bW,a_];have a:∀r:Nat,r<t.procs.l.length->sL t r=some true:=λr d=>by unfold sL;rw[show decide ((r:Int)>=0)=true from Zc,bA,jD d];rfl
 show Wp (eu.W2 (Sl.row [c]) (Sl.row (ps.map λn:Nat=>(n:Int))) (len (Sl.row (ps.map λn:Nat=>(n:Int)))) 0 t) _
 unfold eu.W2;refine fB ps.length (λn s=>s=(n:Int)) rfl ?_ ?_
 .rintro n _ C rfl;unfold eu.bP;have L:idx (Sl.row (ps.map λn:Nat=>(n:Int))) (n:Int)=some ((ps[n]:Nat):Int):=by
   rw[bJ (show n<(Sl.row (ps.map λn:Nat=>(n:Int))).l.length by simpa[Sl.l]using C)]
   simp[Sl.l]
  rw[show decide ((n:Int)<len (Sl.row (ps.map λn:Nat=>(n:Int))))=true from by simp[len,Sl.l];omega,bA,L,ζb,a _ (D _ (getElem_mem C)),ζb,bA]
  exact(a_ _).2 (cK n Za)
 rintro _ rfl;unfold eu.bP;rw[show decide (((ps.length:Nat):Int)<len (Sl.row (ps.map λn:Nat=>(n:Int))))=false from by simp[len,Sl.l],bW,a_]
 show Wp (eu.W3 (Sl.row [c]) 1 0 t) _;unfold eu.W3;refine fB 1 (λn s=>s=(n:Int)) rfl ?_ ?_
 .rintro n _ C rfl;obtain rfl:n=0:=by omega
  unfold eu.dU;rw[show decide (((0:Nat):Int)<1)=true from rfl,bA,show idx (Sl.row [c]:Zb) ((0:Nat):Int)=some c from rfl,ζb];unfold wU;rw[eH,eH];refine(Js G e J O B.1).mono λr d=>?_
  rw[a_,d.2 B.2];exact(a_ _).2 rfl
 rintro _ rfl;unfold eu.dU;rw[show decide (((1:Nat):Int)<1)=false from rfl,bW,a_];exact(a_ _).2 rfl
theorem KI(D:VT t){p:Nat}{P:cn}(B:t.procs.l[p]?=some P):P.events.l.length<=64:=by have h:=D.ok.heads p (ζe.1 B).1;unfold qS at h;rw[B]at h;simp only at h;split at h;split at h;cases h;split at h;split at h;cases h;omega;rename_i u;exact absurd h u;cases h
end
abbrev mC(m:aY Bool)(P:Prop):Prop:=Wp m λb=>(b=true↔P)
theorem mC.eq{m:aY Zl}{P:Prop}(h:mC m P):∃b,m=some b/\(b=true↔P):=h
theorem mC.iff{m:aY Zl}{P Q:Prop}(h:mC m P)(e:P↔Q):mC m Q:=h.mono λb u=>u.trans e
theorem O1{b:Zl}{P:Prop}(h:b=true↔P):mC (some b) P:=(a_ _).2 h
theorem mC.some{m:aY Zl}{P:Prop}(h:mC m P):mC (m.bind λx=>Option.some x) P:=by have⟨b,u,h⟩:=h;rw[u];exact O1 h
theorem mC.same{m n:aY Zl}{P:Prop}(h:mC m P)(k:mC n P):∃b,m=Option.some b/\n=Option.some b/\(b=true↔P):=by
 obtain⟨b,u,h⟩:=h;obtain⟨d,w,k⟩:=k;have:b=d:=by rw[Bool.eq_iff_iff,h,k]
 subst this;exact⟨b,u,w,h⟩
theorem mC.and{m n:aY Zl}{P Q:Prop}(h:mC m P)(k:P->mC n Q){f:Zl->aY Zl}(B:∀b,f b=bl b (n.bind λx=>Option.some x) (Option.some false)):mC (m.bind f) (P/\Q):=by have⟨b,u,h⟩:=h;rw[u,ζb,B];cases b with|true=>exact((k (h.1 rfl)).some).iff ⟨λq=>⟨h.1 rfl,q⟩,λq=>q.2⟩|false=>exact O1 ⟨λe=>(nomatch e),λq=>(h.2 q.1).symm▸rfl⟩
def Ih(a b:Zx):Prop:=a.length=b.length/\∀(p:Nat)(x y:Int),a[p]?=some x->b[p]?=some y->x<=y
section
variable{t:Zj}{A:cm 200 br}
def wM(g:Int->Int->Int)(a b c:Zx):Prop:=c.length=a.length/\∀(p:Nat)(x y:Int),a[p]?=some x->b[p]?=some y->c[p]?=some (g x y)
def Vc(x y:Int):Int:=if y>x then y else x
def UU(x y:Int):Int:=if y<x then y else x
theorem wM.of(g:Int->Int->Int){a b:Zx}(h:a.length=b.length):wM g a b (zipWith g a b):=⟨by simp[h],λp x y u w=>by rw[List.getElem?_zipWith,u,w]⟩
theorem wM.at_{g:Int->Int->Int}{a b c:Zx}(h:wM g a b c)(D:a.length=b.length){p:Nat}{z:Int}(B:c[p]?=some z):∃x y,a[p]?=some x/\b[p]?=some y/\z=g x y:=by
 have u:p<a.length:=by rw[<-h.1];exact(ζe.1 B).1
 refine⟨a[p],b[p]' Za,ζd u,ζd Za,?_⟩;have:=h.2 p _ _ (ζd u) (ζd (show p<b.length by omega));rw[B]at this;cases this;rfl
theorem Ih.trans{a b c:Zx}(h:Ih a b)(k:Ih b c):Ih a c:=by
 refine⟨h.1.trans k.1,λp x z u w=>?_⟩;have B:p<b.length:=by rw[<-h.1];exact(ζe.1 u).1
 have e:=ζd B;exact Int.le_trans (h.2 p x _ u e) (k.2 p _ z e w)
theorem Ih.refl(a:Zx):Ih a a:=⟨rfl,λp x y w u=>by rw[w]at u;cases u;exact Int.le_refl _⟩
theorem wM.one{g:Int->Int->Int}{a b c d:Zx}(h:wM g a b c)(k:wM g a b d)(B:a.length=b.length):c=d:=by refine ext_getElem? λp=>?_;by_cases u:p<a.length;rw[h.2 p _ _ (ζd u) (ζd Za),k.2 p _ _ (ζd u) (ζd Za)];rw[getElem?_eq_none (by rw[h.1];omega),getElem?_eq_none (by rw[k.1];omega)]
def c6(l:Sl Zl)(i:Nat):Zl:=(l.l[i]?).getD false
def Uw(L:aX Zx)(l:Sl Zl)(c:Zx):Zl:=c6 l (L.idxOf c)
theorem lK{l:Sl Zl}{i:Nat}(h:i<l.l.length):idx l (i:Int)=some (c6 l i):=by rw[kj,ζd h];unfold c6;rw[ζd h];rfl
def KS(L:aX Zx)(l:Sl Zl)(F:Zx->Zx->Zl)(i k:Nat):Prop:=∀a b,L[i]?=some a->L[k]?=some b->c6 l i=true->c6 l k=true->F a b=true
def Vj(L:aX Zx)(l:Sl Zl)(F:Zx->Zx->Zl)(i k:Nat)(a b:Zx):Prop:=i<k/\L[i]?=some a/\L[k]?=some b/\c6 l i=true/\c6 l k=true/\F a b=false/\(∀u,i<u->u<k->KS L l F i u)/\∀w u,w<i->w<u->KS L l F w u
theorem LZ{c:Zx}:∀{l:aX Zg},c∈l.map Sl.l->place (λd=>decide (c=d.l)) l=((l.map Sl.l).idxOf c:Int):=by
 intro l h;have key:∀l:aX Zg,c∈l.map Sl.l->l.findIdx? (λd=>decide (c=d.l))=some ((l.map Sl.l).idxOf c):=by intro l;induction l with|nil=>intro h;simp at h|cons x l u=>intro h;rw[List.findIdx?_cons,map_cons,List.idxOf_cons];by_cases e:c=x.l;rw[decide_eq_true e,show(x.l==c)=true from by simpa using e.symm];rfl;rw[decide_eq_false e,show(x.l==c)=false from beq_eq_false_iff_ne.2 λk=>e k.symm];rw[map_cons]at h;rw[u ((mem_cons.1 h).resolve_left e)];rfl
 unfold place;rw[key l h]
theorem Dy{L:aX Zx}(h:L.Nodup){i:Nat}{c:Zx}(a:L[i]?=some c):L.idxOf c=i:=by have⟨u,e⟩:=ζe.1 a;rw[<-e];exact Nodup.idxOf_getElem h i u
theorem HY{L:aX Zx}{c:Zx}(h:c∈L):L[L.idxOf c]?=some c:=by have u:=List.idxOf_lt_length_of_mem h;rw[ζd u,List.getElem_idxOf]
theorem wM.zip{g:Int->Int->Int}{a b c:Zx}(h:wM g a b c)(B:a.length=b.length):c=zipWith g a b:=by refine h.one ⟨by simp[B],λp x y u w=>?_⟩ B;rw[List.getElem?_zipWith,u,w]
def VM(L:aX Zx)(l:Sl Zl)(a b:Zx):Zl:=Uw L l (zipWith UU a b)
def VG(L:aX Zx)(l:Sl Zl)(a b:Zx):Zl:=Uw L l (zipWith Vc a b)
end
def zH(L:aX Zx)(c:Zx):Zv:=(range c.length).filterMap λp=>if bump c p 1∈L then some (L.idxOf (bump c p 1))else none
theorem MM{c:Zx}{p:Nat}{d:Int}:(bump c p d).length=c.length:=by unfold bump;simp
theorem ME{c:Zx}{p:Nat}(h:p<c.length):(bump c p 1).sum=c.sum+1:=by unfold bump;have a:c[p]?=some c[p]:=ζd h;rw[uC a,a];simp;omega
theorem HT{L:aX Zx}{c:Zx}{k:Nat}:k∈zH L c↔∃p,p<c.length/\bump c p 1∈L/\k=L.idxOf (bump c p 1):=by
 unfold zH;rw[List.mem_filterMap];constructor;rintro⟨p,u,h⟩;split at h;next w=>cases h;exact⟨p,mem_range.1 u,w,rfl⟩
 cases h;rintro⟨p,u,w,rfl⟩;exact⟨p,mem_range.2 u,by rw[if_pos w]⟩
section
variable{t:Zj}{A:cm 200 br}{L:aX Zx}
theorem dY.nodup(h:dY t A L):L.Nodup:=ez.nodup h.srt
theorem dY.lt(h:dY t A L){i k:Nat}{c d:Zx}(B:L[i]?=some c)(a:L[k]?=some d)(D:c.sum<d.sum):i<k:=by rcases Nat.lt_trichotomy i k with g|g|g;exact g;subst g;rw[B]at a;cases a;omega;obtain⟨u,rfl⟩:=ζe.1 B;obtain⟨w,rfl⟩:=ζe.1 a;exact absurd ((List.pairwise_iff_getElem.1 h.srt k i w u g).tr (ez.sum D)) (ez.L_ _)
theorem Lw(h:dY t A L){i k:Nat}{c:Zx}(B:L[i]?=some c)(a:k∈zH L c):i<k/\k<L.length:=by obtain⟨p,w,u,rfl⟩:=HT.1 a;exact⟨h.lt B (HY u) (by rw[ME w];omega),List.idxOf_lt_length_of_mem u⟩
theorem dY.len(h:dY t A L){c:Zx}(a:c∈L):c.length=t.procs.l.length:=((h.mem _).1 a).1.1
end
section
variable{L:aX Zx}{f:Nat->Zl}
inductive Rc(L:List (List Int))(f:Nat->Bool):Nat->Prop
 |zero:Rc L f 0|step{i k:Nat}{c:List Int}:Rc L f i->f i=false->L[i]?=some c->k∈zH L c->Rc L f k
def RX(L:aX Zx):Prop:=∀(i k:Nat)c,L[i]?=some c->k∈zH L c->i<k/\k<L.length
open Classical in
end
def ps(L:aX Zx)(c:Zx)(n:Nat):Zv:=(range n).filter λp=>decide (bump c p 1∈L)
theorem Cu{c:Zx}{p:Nat}{a:Int}(h:c[p]?=some a):bump c p 1=c.set p (a+1):=by unfold bump;rw[h];rfl
section
variable{t:Zj}{A:cm 200 br}{L:aX Zx}
theorem RX.of(B:dY t A L):RX L:=λ_ _ _ h k=>Lw B h k
end
end Go.VE
namespace Go.VE
end Go.VE
namespace Go.VE
end Go.VE
namespace Go.VE
section
variable{L:aX Zx}{f:Nat->Zl}
inductive L4(L:List (List Int))(f:Nat->Bool):Nat->Prop
 |last:f (L.length-1)=false->L4 L f (L.length-1)|step{i k:Nat}{c:List Int}:f i=false->L[i]?=some c->k∈zH L c->L4 L f k->L4 L f i
theorem L4.no{i:Nat}(h:L4 L f i):f i=false:=by cases h<;>assumption
end
section
variable{t:Zj}{A:cm 200 br}{L:aX Zx}
end
end Go.VE
namespace Go.VE
end Go.VE
namespace Go.VE
theorem MW{κ ν:Type}[DecidableEq κ]{m:Mo κ ν}{k B:κ}{v z:ν}:rL (mP m k v) B z=if B=k then v else rL m B z:=by unfold rL;induction m with|nil=>unfold mP mz;by_cases h:B=k<;>simp[h,mz]|cons a m C=>have⟨a,w⟩:=a;unfold mP;by_cases h:k=a;subst h;rw[if_pos rfl];by_cases u:B=k;simp[mz,u];simp[mz,u];rw[if_neg h];by_cases u:B=a;have:B≠k:=λe=>h (e▸u);simp[mz,u,Ne.symm h];simp only[mz,if_neg u];exact C
theorem DD:∀(l:Zx)(r:Zq),(l.foldl (λr n=>r.push (ofNat n.toNat)) r).data.toList=r.data.toList++l.map λn=>ofNat n.toNat
 |[],r=>Zc|a::l,r=>by rw[List.foldl_cons,DD l];show(r.data.push _).toList++_=_;simp
theorem DI(l:Zx):(pN l).data.toList=l.map λn=>ofNat n.toNat:=by unfold pN;rw[DD];rfl
def It(l:Zx):Prop:=∀x∈l,0<=x/\x<256
theorem Tf{a b:Int}(B:0<=a/\a<256)(D:0<=b/\b<256)(h:ofNat a.toNat=ofNat b.toNat):a=b:=by have:=congrArg UInt8.toNat h;simp[UInt8.toNat_ofNat']at this;omega
theorem EX:∀{a b:Zx},It a->It b->(a.map λn=>ofNat n.toNat)=(b.map λn=>ofNat n.toNat)->a=b
 |[],[],_,_,_=>rfl|[],_::_,_,_,h=>by simp at h|_::_,[],_,_,h=>by simp at h|x::a,y::b,D,G,h=>by simp only[map_cons,List.cons.injEq]at h;rw[Tf (D x Zc) (G y Zc) h.1,EX (λz B=>D z (mem_cons_of_mem _ B)) (λz B=>G z (mem_cons_of_mem _ B)) h.2]
theorem M_{a b:Zx}(B:It a)(D:It b)(h:pN a=pN b):a=b:=EX B D (by rw[<-DI,<-DI,h])
section
variable{t:Zj}{A:cm 200 br}{L:aX Zx}
theorem An(D:VT t){c:Zx}(B:Cons t A c):It c:=λx z=>by
 obtain⟨p,w,rfl⟩:=mem_iff_getElem.1 z;have u:p<t.procs.l.length:=by rw[<-B.1.1];exact w
 have a:=B.1.2 p _ _ (ζd w) (ζd u);have C:=KI D (ζd u);omega
end
end Go.VE
namespace Go.VE
section
variable{t:Zj}{A:cm 200 br}{L:aX Zx}
end
theorem E9{α:Type}{n:Nat}(z:α)(h:n<=2147483648):jT (n:Int) z=some (.row (replicate n z)):=by unfold jT;rw[if_pos Za];simp
theorem Il{c:Zg}(h:It c.l)(D:c.l.length<=8):gw c=some (pN c.l):=by
 refine Wp.eq ?_;unfold gw;rw[show len c=((c.l.length:Nat):Int)from rfl,E9 _ Za,ζb];unfold gw.W1;refine fB c.l.length (λi(q:Sl U8×Int)=>q.2=(i:Int)/\q.1.l.length=c.l.length/\(q.1.l.map U8.v).take i=c.l.take i) ⟨rfl,by simp[Sl.l],Zc⟩ ?_ ?_;rintro i ⟨o,_⟩ w ⟨e,u,a⟩;simp only at e u a;subst e;have C:=h c.l[i] (getElem_mem w);have B:wrap .u8 c.l[i]=c.l[i]:=by simp[wrap,IntKind.bits,signed];omega
 have⟨z,k1,k2⟩:=put_eq (s:=o) (p:=i) (x:=(⟨wrap .u8 c.l[i]⟩:U8)) Za;unfold gw.bn;rw[show decide ((i:Int)<((c.l.length:Nat):Int))=true from by simpa using w,bA,bJ w,ζb,om (by omega:i<o.l.length),ζb,k1,ζb,a_];refine⟨cK i Za,by show z.l.length=_;rw[k2];simp[u],?_⟩;show(z.l.map U8.v).take (i+1)=_;rw[k2,B,List.take_succ_eq_append_getElem w,List.take_succ_eq_append_getElem (by simp[u];exact w),<-a];simp[List.take_set_of_le];rintro⟨o,_⟩ ⟨e,u,a⟩;simp only at e u a;subst e;unfold gw.bn;rw[show decide (((c.l.length:Nat):Int)<((c.l.length:Nat):Int))=false from Zc,bW,a_];refine(a_ _).2 ?_;unfold Jt;rw[take_length,take_of_length_le (by simp[u])]at a;rw[a]
section
variable{t:Zj}{A:cm 200 br}{L:aX Zx}
theorem IP(W:Small t)(d:dH t=some true)(Y:VT t)(O:gj t (bO t) A){c:Zg}(f:Cons t A c.l){p k:Nat}{P:cn}(B:t.procs.l[p]?=some P)(D:c.l[p]?=some (k:Int))(a:k<P.events.l.length):
 ∃b,sV t c (p:Int)=some b/\(b=true↔Gj t A c.l p):=by
 have C:=ζd a;unfold sV;rw[kj,B,ζb,kj,D,ζb,bJ a,ζb];generalize P.events.l[k]=e at C⊢;have G:Gj t A c.l p↔(e.kind=3->∃b,c.l[(ag A e.message).from_.proc.toNat]?=some b/\(ag A e.message).from_.index<=b):=by constructor;rintro⟨Q,g,x,z,L,u,w⟩;rw[B]at z;cases z;rw[D]at L;cases L;simp only[toNat_natCast]at u;rw[C]at u;cases u;exact w;intro h;exact⟨P,e,k,B,D,by simpa using C,h⟩
 rw[G]
 by_cases w:e.kind=3
 .have⟨q,j,y,⟨Q,z,X⟩,Z,S,y3,y4,y5⟩:=wL Y O ⟨P,B,C⟩ w;have T:=yS W d O (x:=(⟨q,j+1⟩,y)) (dK.2 ⟨q,j,⟨Q,z,X⟩,rfl⟩) Z;simp only at T;have I:q<c.l.length:=by rw[f.1.1];exact(ζe.1 z).1
  rw[show(e.kind==3)=true from by rw[w];rfl,bA,<-S,T,ζb,bJ I,ζb]
  refine⟨_,rfl,?_⟩;rw[S,y5];simp only[toNat_natCast,decide_eq_true_eq];exact⟨λh _=>⟨_,ζd I,h⟩,λh=>by
   have⟨b,U,J⟩:=h w;rw[ζd I]at U;cases U;exact J⟩
 rw[show(e.kind==3)=false from beq_eq_false_iff_ne.2 w,bW];exact⟨true,rfl,λ_ h=>absurd h w,λ_=>rfl⟩
theorem Sf(O:Small t)(a:dH t=some true)(B:VT t)(T:gj t (bO t) A){c:Zg}(D:Cons t A c.l){p:Nat}(G:p<c.l.length):
 ∃q,sZ t c (p:Int)=some q/\((q.2=0/\q.1.l=bump c.l p 1/\Cons t A (bump c.l p 1))\/(q.2≠0/\¬Cons t A (bump c.l p 1))):=by
 have j:=B.few;have Q:=B.ok.one;have U:=D.1.1;have u:p<t.procs.l.length:=Za
 have C:=ζd u;have z:=ζd G;have W:=(Iz O B D).2 c.l[p] (getElem_mem G);have⟨l,m⟩:=D.1.2 p _ _ z C;have L:=Cu z;unfold sZ;rw[show eu t (Sl.row [c]) (Sl.row [(p:Int)])=some 0 from OA O a B T D (ps:=[p]) (by simpa using u) Zc,ζb,show((0:Int)==0)=true from rfl,bA,bJ G,ζb,bJ u,ζb]
 by_cases I:c.l[p]=len t.procs.l[p].events
 .rw[I,show(len t.procs.l[p].events==len t.procs.l[p].events)=true from Zc,bA]
  refine⟨_,rfl,.inr ⟨Zc,λh=>?_⟩⟩
  have:=(h.1.2 p (c.l[p]+1) _ (by rw[L];simp[G]) C).2
  simp only[len]at I;omega
 rw[show(c.l[p]==len t.procs.l[p].events)=false from beq_eq_false_iff_ne.2 I,bW];simp only[len]at I;have e:c.l[p]=((c.l[p].toNat:Nat):Int):=Za
 have⟨b,X,S⟩:=IP O a B T D C (k:=c.l[p].toNat) (by rw[<-e];exact z) Za
 have w:=Cons.up B T D C z Za
 rw[X,ζb];rw[<-L]at w
 cases b with
 |false=>rw[bW];exact⟨_,rfl,.inr ⟨Zc,λh=>by have:=S.2 (w.2 h);cases this⟩⟩|true=>
  have⟨d,Y,J⟩:=FN (c:=c) Za Za
  have⟨f,Z,g⟩:=put_eq (s:=d) (p:=p) (x:=wrap .i64 (c.l[p]+1)) (by rw[J];exact G)
  have i:Sl.get d p=some c.l[p]:=by unfold Sl.get;rw[J];exact z
  rw[bA,Y,ζb,om (by rw[J];exact G),ζb,i,ζb,ζb,Z,ζb]
  exact⟨_,rfl,.inl ⟨rfl,by show f.l=_;rw[g,J,j9 _ Za Za,L],w.1 (S.1 rfl)⟩⟩
def g_(L:aX Zx)(i:Nat):Zv:=zH L ((L[i]?).getD [])
structure OW(L:List (List Int))(x:bQ):Prop where
 l:ins x.l=L
 n:x.next.l.length=L.length
 nx:∀i,i<L.length->∃o,x.next.l[i]?=some o/\o.l=(g_ L i).map λk:Nat=>(k:Int)
theorem CZ(g:Small t)(l:dH t=some true)(J:VT t)(v:gj t (bO t) A)(B:dY t A L)(V:L.length<=5000){r:Zb}(y:oL t=some (r,0))(b:ins r=L):
 Wp (cW t) λq=>∃x,q=(some x,0)/\x.t=t/\OW L x:=by
 have E:=J.few;have X:r.l.length=L.length:=by rw[<-b,ja]
 have O:∀i(h:i<r.l.length),L[i]?=some r.l[i].l:=λi h=>by rw[<-b];exact yx h
 unfold cW;rw[y,ζb];simp only;rw[show((0:Int)==0)=true from rfl,bA];unfold cW.W1;refine fB r.l.length (λi(q:Int×Mo ByteArray Int)=>q.1=(i:Int)/\∀(j:Nat)c,j<i->L[j]?=some c->rL q.2 (pN c) 0=(j:Int)) ⟨rfl,λj c Q=>absurd Q Za⟩ ?_ ?_
 .rintro i ⟨_,m⟩ z ⟨rfl,S⟩;simp only at S;have w:=O i z;have T:=(B.mem _).1 (mem_of_getElem? w);have f:=An J T;unfold cW.bn;dsimp only;rw[jD z,bA,bJ z,ζb,Il f (by rw[T.1.1];exact E),ζb,a_]
  refine⟨cK i Za,λj c Q a=>?_⟩
  show rL (mP m (pN r.l[i].l) (i:Int)) (pN c) 0=_;rw[MW]
  by_cases e:j=i
  .subst e;rw[w]at a;cases a;rw[if_pos rfl]
  have Y:=mem_of_getElem? a;rw[if_neg (λh=>e ?_)]
  .exact S j c Za a
  have:=M_ (An J ((B.mem _).1 Y)) f h;subst this;rw[<-Dy B.nodup a,Dy B.nodup w]
 rintro⟨_,m⟩ ⟨rfl,S⟩;simp only at S;have F:∀c∈L,rL m (pN c) 0=(L.idxOf c:Int):=λc a=>by have:=List.idxOf_lt_length_of_mem a;exact S _ c Za (HY a)
 unfold cW.bn;dsimp only;rw[jN,bW,a_];show Wp (cW.W2 r (len r) 0 t m ⟨t,r,.nil⟩) _;unfold cW.W2;refine fB r.l.length (λi(q:Int×Mo ByteArray Int×bQ)=>q.1=(i:Int)/\q.2.1=m/\q.2.2.t=t/\q.2.2.l=r/\q.2.2.next.l.length=i/\∀j,j<i->∃o,q.2.2.next.l[j]?=some o/\o.l=(g_ L j).map λk:Nat=>(k:Int)) ⟨rfl,rfl,rfl,rfl,rfl,λj Q=>absurd Q Za⟩ ?_ ?_
 .rintro i ⟨_,m,x⟩ z ⟨rfl,rfl,G,x2,D,I⟩;simp only at G x2 D I;have w:=O i z;have T:=(B.mem _).1 (mem_of_getElem? w);have ad:=T.1.1;have Z:g_ L i=zH L r.l[i].l:=by unfold g_;rw[w];rfl
  unfold cW.bP;dsimp only;rw[jD z,bA,bJ z,ζb];unfold cW.W3;refine fB r.l[i].l.length (λn(q:Zg×Int×bQ)=>q.2.1=(n:Int)/\q.2.2=x/\q.1.l.length<=n/\q.1.l=((range n).filterMap λp=>if bump r.l[i].l p 1∈L then some (L.idxOf (bump r.l[i].l p 1))else none).map λk:Nat=>(k:Int)) ⟨rfl,rfl,le_refl _,rfl⟩ ?_ ?_
  .rintro n ⟨o,_,x⟩ hn ⟨rfl,rfl,o1,o2⟩;simp only at o1 o2;have⟨q,H,K⟩:=Sf g l J v T hn;unfold cW.dU;dsimp only;rw[jD hn,bA,H,ζb];rcases K with⟨k1,k2,k3⟩|⟨k1,k2⟩
   .have C:=(B.mem _).2 k3;have M:(bump r.l[i].l n 1).length<=8:=by rw[MM];omega
    have⟨U,d,W⟩:=mH (s:=o) (x:=rL m (pN (bump r.l[i].l n 1)) 0) Za
    rw[k1,show((0:Int)==0)=true from rfl,bA,Il (by rw[k2];exact An J k3) (by rw[k2];exact M),ζb,k2,d,ζb,a_]
    refine⟨cK n Za,rfl,by show U.l.length<=_;rw[W];simp;omega,?_⟩
    show U.l=_;rw[W,o2,F _ C,List.range_succ,List.filterMap_append,map_append];simp[C]
   have N:bump r.l[i].l n 1∉L:=λh=>k2 ((B.mem _).1 h)
   rw[show(q.2==0)=false from beq_eq_false_iff_ne.2 k1,bW,a_];refine⟨cK n Za,rfl,by show o.l.length<=_;omega,?_⟩
   show o.l=_;rw[o2,List.range_succ,List.filterMap_append,map_append];simp[N]
  rintro⟨o,_,x⟩ ⟨rfl,rfl,o1,o2⟩;simp only at o1 o2 G x2 D I;have⟨U,d,W⟩:=mH (s:=x.next) (x:=o) Za
  unfold cW.dU;dsimp only;rw[jN,bW,a_];show Wp ((eW x.next o).bind _) _;rw[d,ζb,a_];refine⟨cK i Za,rfl,G,x2,by show U.l.length=_;rw[W];simp[D],λj Q=>?_⟩
  show∃u,U.l[j]?=some u/\_;rw[W]
  by_cases e:j=i
  .subst e;exact⟨o,by rw[List.getElem?_append_right Za,D];simp,by rw[o2,Z];rfl⟩
  have⟨u,P,R⟩:=I j Za
  exact⟨u,by rw[List.getElem?_append_left Za];exact P,R⟩
 rintro⟨_,m,x⟩ ⟨rfl,rfl,G,x2,D,I⟩;simp only at G x2 D I;unfold cW.bP;dsimp only;rw[jN,bW,a_];exact(a_ _).2 ⟨x,rfl,G,by rw[x2];exact b,by rw[D,X],λi z=>I i Za⟩
end
end Go.VE
