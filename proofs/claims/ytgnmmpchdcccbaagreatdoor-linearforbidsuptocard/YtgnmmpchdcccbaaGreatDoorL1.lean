/-
 The law in plain Lean, and the join.
-/
import Derived.Test.YtgnmmpchdcccbaaGreatDoorK1
import Derived.Test.YtgnmmpchdcccbaaGreatDoorG1
set_option linter.all false
open List(Nodup Pairwise all_eq_true countP_cons drop_eq_getElem_cons drop_of_length_le ext_getElem? finRange find?_append find?_eq_none getElem?_eq_none getElem?_map getElem?_replicate getElem?_set getElem?_take getElem_mem length length_cons length_set length_singleton length_take mapM_cons map_append map_cons map_nil mem_append mem_append_left mem_cons mem_cons_of_mem mem_cons_self mem_iff_getElem mem_map mem_of_getElem? mem_of_mem_take mem_range mem_singleton pairwise_append pairwise_cons pairwise_map range range' replicate sum_cons sum_nil take_add_one take_append_drop take_length zipWith)
open Option(bind_eq_bind getD_some pure_def)
open Go.IntKind(signed wrap)
open Nat(le_refl zero_le)
open Bool(false_eq_true not_eq_true' or_eq_false_iff or_eq_true)
open ByteArray(toList)
open Relation(TransGen)
open Classical(byContradiction)
open Int(toNat toNat_natCast)
open UInt8(ofNat)
namespace Go.VE
theorem Zaf{p:Prop}(h:p:=by kernel_rfl):p:=h
instance:cu Var where
 wt x:=cu.wt x.name+cu.wt x.init_+1
 ok x:=cu.ok x.name/\cu.ok x.init_/\True
instance:cu Assign where
 wt x:=cu.wt x.var+cu.wt x.value+1
 ok x:=cu.ok x.var/\cu.ok x.value/\True
instance:cu WF where
 wt x:=cu.wt x.kind+cu.wt x.peer+cu.wt x.message+cu.wt x.time+cu.wt x.assign+1
 ok x:=cu.ok x.kind/\cu.ok x.peer/\cu.ok x.message/\cu.ok x.time/\cu.ok x.assign/\True
instance:cu bR where
 wt x:=cu.wt x.name+cu.wt x.vars+cu.wt x.events+1
 ok x:=cu.ok x.name/\cu.ok x.vars/\cu.ok x.events/\True
instance:cu Z4 where
 wt x:=cu.wt x.procs+1
 ok x:=cu.ok x.procs/\True
instance:cu bV where
 wt x:=cu.wt x.low+cu.wt x.high+1
 ok x:=cu.ok x.low/\cu.ok x.high/\True
instance:cu cq where
 wt x:=cu.wt x.t+cu.wt x.counts+cu.wt x.values+1
 ok x:=cu.ok x.t/\cu.ok x.counts/\cu.ok x.values/\True
mutual
def Pred.wtR:T'->Nat
 |⟨f0,f1,f2,f3,B,f5⟩=>cu.wt f0+cu.wt f1+cu.wt f2+cu.wt f3+cu.wt B+Pred.Wh f5+1
def Pred.Wh:Sl T'->Nat
 |.nil=>1|.emp=>1|.row l=>Pred.Lg l+1|.part l=>Pred.Lg l+1
def Pred.Lg:aX T'->Nat
 |[]=>0|x::r=>Pred.wtR x+Pred.Lg r
end
mutual
def Pred.okR:T'->Prop
 |⟨f0,f1,f2,f3,B,f5⟩=>cu.ok f0/\cu.ok f1/\cu.ok f2/\cu.ok f3/\cu.ok B/\Pred.okS f5/\True
def Pred.okS:Sl T'->Prop
 |.nil=>True|.emp=>False|.row l=>Pred.Wm l|.part l=>Pred.Wm l
def Pred.Wm:aX T'->Prop
 |[]=>True|x::r=>Pred.okR x/\Pred.Wm r
end
instance:cu T' where
 wt:=Pred.wtR
 ok:=Pred.okR
theorem Pred.G8:∀l:aX T',Pred.Lg l=(l.map cu.wt).sum
 |[]=>rfl|x::r=>by simp only[Pred.Lg,map_cons,sum_cons,Pred.G8 r];rfl
theorem Pred.wtE(s:Sl T'):Pred.Wh s=cu.wt s:=by cases s with|nil=>rfl|emp=>rfl|row l=>show Pred.Lg l+1=(l.map cu.wt).sum+1;rw[Pred.G8]|part l=>show Pred.Lg l+1=(l.map cu.wt).sum+1;rw[Pred.G8]
theorem Pred.GO:∀l:aX T',(∀x∈l,cu.ok x)->Pred.Wm l
 |[],_=>trivial|x::r,h=>⟨h x (mem_cons_self ..),Pred.GO r λy B=>h y (mem_cons_of_mem _ B)⟩
theorem Pred.okE(s:Sl T')(h:cu.ok s):Pred.okS s:=by cases s with|nil=>trivial|emp=>exact h.2 rfl|row l=>exact Pred.GO l h.1|part l=>exact Pred.GO l h.1
end Go.VE
namespace Go.VE.YtgnmmpchdcccbaaGreatDoor
open Go.Proofs Go.Proofs.YtgnmmpchdcccbaaGreatDoor
instance rd9:Reads Tryz.prog 9 U':=Reads.str Tryz.underlying9 Zaf
instance rd3:Reads Tryz.prog 3 Int:=Reads.int Tryz.underlying3 Zaf
instance adU:Reads Tryz.prog 43 Var:=by refine Reads.st Tryz.underlying43 Zaf rfl ?_;intro H enc w base a c u cs l I h;simp only[mapM_cons,List.mapM_nil,pure_def,bind_eq_bind,ζg,ζa]at h;obtain⟨z,e,J,⟨B,f,L,rfl,rfl⟩,rfl⟩:=h;have⟨a0,C,k0,O⟩:=Reads.rd (P:=Tryz.prog) (t:=9) (α:=U') (d:=z.1) (ps:=z.2) e;rw[show Tryz.prog.cellsOf 9=1 from by kernel_rfl]at C;have⟨a1,D,k1,Q⟩:=Reads.rd (P:=Tryz.prog) (t:=3) (α:=Int) (d:=B.1) (ps:=B.2) f;rw[show Tryz.prog.cellsOf 3=1 from by kernel_rfl]at D;refine⟨⟨a0,a1⟩,fU.fin (n:=2) (fU.seg (o:=1) (n:=1) (fU.seg (o:=0) (n:=1) (show fU (snap w) [] (cs.take 0)from by simpa using fU.nil) C) D) I,⟨k0,k1,trivial⟩,λb G=>?_⟩;have S:=O b G;have T:=Q b G;show cu.wt a0+cu.wt a1+1<=_;simp only[map_cons,map_nil,sum_cons,sum_nil];omega
instance adM:Reads Tryz.prog 44 (Sl Var):=Reads.sl (e:=43) Tryz.underlying44 Zaf (by decide)
instance adQ:Reads Tryz.prog 46 Assign:=by refine Reads.st Tryz.underlying46 Zaf rfl ?_;intro H enc w base a c u cs l I h;simp only[mapM_cons,List.mapM_nil,pure_def,bind_eq_bind,ζg,ζa]at h;obtain⟨z,e,J,⟨B,f,L,rfl,rfl⟩,rfl⟩:=h;have⟨a0,C,k0,O⟩:=Reads.rd (P:=Tryz.prog) (t:=3) (α:=Int) (d:=z.1) (ps:=z.2) e;rw[show Tryz.prog.cellsOf 3=1 from by kernel_rfl]at C;have⟨a1,D,k1,Q⟩:=Reads.rd (P:=Tryz.prog) (t:=3) (α:=Int) (d:=B.1) (ps:=B.2) f;rw[show Tryz.prog.cellsOf 3=1 from by kernel_rfl]at D;refine⟨⟨a0,a1⟩,fU.fin (n:=2) (fU.seg (o:=1) (n:=1) (fU.seg (o:=0) (n:=1) (show fU (snap w) [] (cs.take 0)from by simpa using fU.nil) C) D) I,⟨k0,k1,trivial⟩,λb G=>?_⟩;have S:=O b G;have T:=Q b G;show cu.wt a0+cu.wt a1+1<=_;simp only[map_cons,map_nil,sum_cons,sum_nil];omega
instance adT:Reads Tryz.prog 47 (Sl Assign):=Reads.sl (e:=46) Tryz.underlying47 Zaf (by decide)
instance adR:Reads Tryz.prog 49 WF:=by refine Reads.st Tryz.underlying49 Zaf rfl ?_;intro H enc w base a c z cs l Q h;simp only[mapM_cons,List.mapM_nil,pure_def,bind_eq_bind,ζg,ζa]at h;obtain⟨B,e,S,⟨C,f,T,⟨x2,U,W,⟨D,X,Y,⟨x4,Z,p,rfl,rfl⟩,rfl⟩,rfl⟩,rfl⟩,rfl⟩:=h;have⟨a0,G,k0,g⟩:=Reads.rd (P:=Tryz.prog) (t:=3) (α:=Int) (d:=B.1) (ps:=B.2) e;rw[show Tryz.prog.cellsOf 3=1 from by kernel_rfl]at G;have⟨a1,I,k1,i⟩:=Reads.rd (P:=Tryz.prog) (t:=3) (α:=Int) (d:=C.1) (ps:=C.2) f;rw[show Tryz.prog.cellsOf 3=1 from by kernel_rfl]at I;have⟨a2,J,k2,j⟩:=Reads.rd (P:=Tryz.prog) (t:=3) (α:=Int) (d:=x2.1) (ps:=x2.2) U;rw[show Tryz.prog.cellsOf 3=1 from by kernel_rfl]at J;have⟨a3,L,k3,k⟩:=Reads.rd (P:=Tryz.prog) (t:=3) (α:=Int) (d:=D.1) (ps:=D.2) X;rw[show Tryz.prog.cellsOf 3=1 from by kernel_rfl]at L;have⟨a4,O,k4,m⟩:=Reads.rd (P:=Tryz.prog) (t:=47) (α:=(Sl Assign)) (d:=x4.1) (ps:=x4.2) Z;rw[show Tryz.prog.cellsOf 47=1 from by kernel_rfl]at O;refine⟨⟨a0,a1,a2,a3,a4⟩,fU.fin (n:=5) (fU.seg (o:=4) (n:=1) (fU.seg (o:=3) (n:=1) (fU.seg (o:=2) (n:=1) (fU.seg (o:=1) (n:=1) (fU.seg (o:=0) (n:=1) (show fU (snap w) [] (cs.take 0)from by simpa using fU.nil) G) I) J) L) O) Q,⟨k0,k1,k2,k3,k4,trivial⟩,λb u=>?_⟩;have q:=g b u;have r:=i b u;have s:=j b u;have v:=k b u;have x:=m b u;show cu.wt a0+cu.wt a1+cu.wt a2+cu.wt a3+cu.wt a4+1<=_;simp only[map_cons,map_nil,sum_cons,sum_nil];omega
instance adV:Reads Tryz.prog 50 (Sl WF):=Reads.sl (e:=49) Tryz.underlying50 Zaf (by decide)
instance adL:Reads Tryz.prog 52 bR:=by refine Reads.st Tryz.underlying52 Zaf rfl ?_;intro H enc w base a c z cs l J h;simp only[mapM_cons,List.mapM_nil,pure_def,bind_eq_bind,ζg,ζa]at h;obtain⟨B,e,L,⟨C,f,O,⟨x2,Q,S,rfl,rfl⟩,rfl⟩,rfl⟩:=h;have⟨a0,D,k0,T⟩:=Reads.rd (P:=Tryz.prog) (t:=9) (α:=U') (d:=B.1) (ps:=B.2) e;rw[show Tryz.prog.cellsOf 9=1 from by kernel_rfl]at D;have⟨a1,G,k1,U⟩:=Reads.rd (P:=Tryz.prog) (t:=44) (α:=(Sl Var)) (d:=C.1) (ps:=C.2) f;rw[show Tryz.prog.cellsOf 44=1 from by kernel_rfl]at G;have⟨a2,I,k2,W⟩:=Reads.rd (P:=Tryz.prog) (t:=50) (α:=(Sl WF)) (d:=x2.1) (ps:=x2.2) Q;rw[show Tryz.prog.cellsOf 50=1 from by kernel_rfl]at I;refine⟨⟨a0,a1,a2⟩,fU.fin (n:=3) (fU.seg (o:=2) (n:=1) (fU.seg (o:=1) (n:=1) (fU.seg (o:=0) (n:=1) (show fU (snap w) [] (cs.take 0)from by simpa using fU.nil) D) G) I) J,⟨k0,k1,k2,trivial⟩,λb u=>?_⟩;have X:=T b u;have Y:=U b u;have Z:=W b u;show cu.wt a0+cu.wt a1+cu.wt a2+1<=_;simp only[map_cons,map_nil,sum_cons,sum_nil];omega
instance adS:Reads Tryz.prog 22 (Sl bR):=Reads.sl (e:=52) Tryz.underlying22 Zaf (by decide)
instance adO:Reads Tryz.prog 24 Z4:=by refine Reads.st Tryz.underlying24 Zaf rfl ?_;intro H enc w base a c u cs l C h;simp only[mapM_cons,List.mapM_nil,pure_def,bind_eq_bind,ζg,ζa]at h;obtain⟨z,e,D,rfl,rfl⟩:=h;have⟨a0,B,k0,G⟩:=Reads.rd (P:=Tryz.prog) (t:=22) (α:=(Sl bR)) (d:=z.1) (ps:=z.2) e;rw[show Tryz.prog.cellsOf 22=1 from by kernel_rfl]at B;refine⟨⟨a0⟩,fU.fin (n:=1) (fU.seg (o:=0) (n:=1) (show fU (snap w) [] (cs.take 0)from by simpa using fU.nil) B) C,⟨k0,trivial⟩,λb I=>?_⟩;have J:=G b I;show cu.wt a0+1<=_;simp only[map_cons,map_nil,sum_cons,sum_nil];omega
instance adK:Reads Tryz.prog 25 Zg:=Reads.sl (e:=3) Tryz.underlying25 Zaf (by decide)
theorem aa2:∀B,tX Tryz.prog 28 Pred B:=by
 intro B;induction B using Nat.strongRecOn with|ind B S=>
 cases B with|zero=>intro H enc w base a c cs d ps h;simp[DataW.trod]at h|succ B=>
 refine tX.st Tryz.underlying28 Zaf ?_;intro H enc w base a c cs l T h;simp only[mapM_cons,List.mapM_nil,pure_def,bind_eq_bind,ζg,ζa]at h;obtain⟨C,f,U,⟨D,i,W,⟨x2,X,Y,⟨G,Z,x,⟨x4,j,y,⟨x5,k,A,rfl,rfl⟩,rfl⟩,rfl⟩,rfl⟩,rfl⟩,rfl⟩:=h;have⟨a0,I,k0,m⟩:=Reads.rd (P:=Tryz.prog) (t:=3) (α:=Int) (d:=C.1) (ps:=C.2) f;rw[show Tryz.prog.cellsOf 3=1 from by kernel_rfl]at I;have⟨a1,J,k1,p⟩:=Reads.rd (P:=Tryz.prog) (t:=3) (α:=Int) (d:=D.1) (ps:=D.2) i;rw[show Tryz.prog.cellsOf 3=1 from by kernel_rfl]at J;have⟨a2,L,k2,q⟩:=Reads.rd (P:=Tryz.prog) (t:=3) (α:=Int) (d:=x2.1) (ps:=x2.2) X;rw[show Tryz.prog.cellsOf 3=1 from by kernel_rfl]at L;have⟨a3,O,k3,r⟩:=Reads.rd (P:=Tryz.prog) (t:=3) (α:=Int) (d:=G.1) (ps:=G.2) Z;rw[show Tryz.prog.cellsOf 3=1 from by kernel_rfl]at O;have⟨a4,Q,k4,s⟩:=Reads.rd (P:=Tryz.prog) (t:=9) (α:=U') (d:=x4.1) (ps:=x4.2) j;rw[show Tryz.prog.cellsOf 9=1 from by kernel_rfl]at Q;have⟨a5,z,k5,v⟩:=tX.slF (t:=26) (e:=28) (α:=T') Tryz.underlying26 Zaf (by decide) (λg E=>S g Zaa) (show _=some (x5.1,x5.2)from k);rw[show Tryz.prog.cellsOf 26=1 from by kernel_rfl]at z;rw[wV rfl,<-Pred.eX]at z;refine⟨⟨a0,a1,a2,a3,a4,a5⟩,fU.fin (n:=6) (fU.seg (o:=5) (n:=1) (fU.seg (o:=4) (n:=1) (fU.seg (o:=3) (n:=1) (fU.seg (o:=2) (n:=1) (fU.seg (o:=1) (n:=1) (fU.seg (o:=0) (n:=1) (show fU (snap w) [] (cs.take 0)from by simpa using fU.nil) I) J) L) O) Q) z) T,⟨k0,k1,k2,k3,k4,Pred.okE _ k5,trivial⟩,λb u=>?_⟩;have F:=m b u;have K:=p b u;have M:=q b u;have N:=r b u;have R:=s b u;have V:=v b u;show cu.wt a0+cu.wt a1+cu.wt a2+cu.wt a3+cu.wt a4+Pred.Wh a5+1<=_;rw[Pred.wtE];simp only[map_cons,map_nil,sum_cons,sum_nil];omega
instance adP:Reads Tryz.prog 28 T':=Reads.of Tryz.underlying28 Zaf rfl aa2
end Go.VE.YtgnmmpchdcccbaaGreatDoor
namespace Go.VE
end Go.VE
namespace Go.VE
abbrev NJ{α:Type}(m:aY α):Prop:=Wp m λ_=>True
theorem NJ.get{α:Type}{m:aY α}(h:NJ m):∃a,m=some a:=let⟨a,e,_⟩:=h;⟨a,e⟩
theorem NJ.ok{m:aY X'}(h:NJ m):m=some (m.getD false):=by have⟨a,e,_⟩:=h;rw[e];rfl
def Small(t:Z4):Prop:=t.procs.l.length<1073741824/\∀p∈t.procs.l,p.events.l.length<1073741824/\p.vars.l.length<1073741824/\p.name.size<1073741824/\(∀v∈p.vars.l,v.name.size<1073741824)/\∀e∈p.events.l,e.assign.l.length<1073741824
section
theorem P6{s:Sl WF}{p:WF->aY X'}{f:WF->X'}(hp:∀x∈s.l,p x=some (f x))(B:s.l.length<1073741824):gR s p=some (place f s.l):=uN hp Zaa (λi=>rfl)
theorem RT{s:Sl bR}{p:bR->aY X'}{f:bR->X'}(hp:∀x∈s.l,p x=some (f x))(B:s.l.length<1073741824):iw s p=some (place f s.l):=uN hp Zaa (λi=>rfl)
theorem En{s:Sl Var}{p:Var->aY X'}{f:Var->X'}(hp:∀x∈s.l,p x=some (f x))(B:s.l.length<1073741824):fQ s p=some (place f s.l):=uN hp Zaa (λi=>rfl)
theorem M4{s:Sl Assign}{p:Assign->aY X'}{f:Assign->X'}(hp:∀x∈s.l,p x=some (f x))(B:s.l.length<1073741824):gu s p=some (place f s.l):=uN hp Zaa (λi=>rfl)
theorem xA{s:Sl WF}{p:WF->aY X'}{f:WF->X'}(hp:∀x∈s.l,p x=some (f x))(B:s.l.length<1073741824):gW s p=some (s.l.any f):=by unfold gW;rw[P6 hp B,ζb,uw]
theorem K9{s:Sl bR}{p:bR->aY X'}{f:bR->X'}(hp:∀x∈s.l,p x=some (f x))(B:s.l.length<1073741824):jE s p=some (s.l.any f):=by unfold jE;rw[RT hp B,ζb,uw]
theorem D6{s:Sl Var}{p:Var->aY X'}{f:Var->X'}(hp:∀x∈s.l,p x=some (f x))(B:s.l.length<1073741824):iJ s p=some (s.l.any f):=by unfold iJ;rw[En hp B,ζb,uw]
theorem HC{s:Sl Assign}{p:Assign->aY X'}{f:Assign->X'}(hp:∀x∈s.l,p x=some (f x))(B:s.l.length<1073741824):iP s p=some (s.l.any f):=by unfold iP;rw[M4 hp B,ζb,uw]
theorem q_(x a b:Int):pO x a b=some (decide (a<=x)&&decide (x<=b)):=by unfold pO;rw[oM];rfl
theorem Oz{s:U'}{i:Nat}(h:i<s.size):∃x,mH s (i:Int)=some x:=by unfold mH;rw[if_pos Zaa];exact⟨_,by rw[show(s[(i:Int).toNat]?)=some s[i]from by simp[h]];rfl⟩
def mQ(n:Nat)(p:Int)(e:WF):Prop:=e.kind=1\/((e.kind=2\/e.kind=3)/\0<=e.peer/\e.peer<n/\e.peer≠p/\0<=e.message/\e.message<=199)
end
def nC(t:Z4)(p k:Nat)(e:WF):Prop:=∃P,t.procs.l[p]?=some P/\P.events.l[k]?=some e
theorem wE{p:Int}{x:a_×WF}:∀{es:aX WF}{j:Int},x∈jL p j es↔∃k:Nat,es[k]?=some x.2/\x.1=⟨p,j+k+1⟩
 |[],j=>by simp[jL]|e::es,j=>by simp[jL,wE];constructor;rintro(rfl|⟨k,a,B⟩);exact⟨0,rfl,Zab⟩;exact⟨k+1,Zac,Zac⟩;grind
theorem xB{x:a_×WF}:∀{ps:aX bR}{i:Int},x∈gG i ps↔∃(a k:Nat)(P:bR),ps[a]?=some P/\P.events.l[k]?=some x.2/\x.1=⟨i+a,k+1⟩
 |[],i=>by simp[gG]|p::ps,i=>by simp only[gG,mem_append,wE,xB];constructor;rintro(⟨k,b,B⟩|⟨a,k,P,b,B,D⟩);exact⟨0,k,p,rfl,b,Zac⟩;exact⟨a+1,k,P,Zad,B,Zac⟩;grind
abbrev bL(t:Trace):aX (a_×Event):=gG 0 t.procs.l
theorem dP{t:Z4}{x:a_×WF}:x∈bL t↔∃p k:Nat,nC t p k x.2/\x.1=⟨p,k+1⟩:=by rw[xB];constructor;rintro⟨a,k,P,b,u,w⟩;exact⟨a,k,⟨P,b,u⟩,Zac⟩;rintro⟨a,k,⟨P,b,u⟩,w⟩;grind
theorem Bl{t:Z4}{x y:a_×WF}(B:x∈bL t)(D:y∈bL t)(h:x.1=y.1):x=y:=by have⟨p,k,⟨P,u,a⟩,e1⟩:=dP.1 B;have⟨q,j,⟨Q,w,z⟩,e2⟩:=dP.1 D;grind
theorem vf{t:Z4}(a:Small t):kf t=some (bL t):=by unfold kf;rw[if_pos];simp[qM];exact⟨by have:=a.1;omega,λp u=>by have:=(a.2 p u).1;omega⟩
def u7(t:Z4)(p m a:Int):X':=match t.procs.l[p.toNat]?with
 |some P=>P.events.l.any λe=>e.kind==2&&e.message==m&&e.peer==a|none=>false
theorem UF{t:Z4}(b:Small t){p:Int}(c:0<=p)(d:p<t.procs.l.length)(m a:Int):wM t p m a=some (u7 t p m a):=by unfold wM;have u:p.toNat<t.procs.l.length:=Zaa;have w:=getElem_mem u;rw[Vv c,ζd u,ζb,xA (f:=λe=>e.kind==2&&e.message==m&&e.peer==a) (λe _=>by unfold th;simp[oM]) (b.2 _ w).1,ζb];unfold u7;grind
theorem A7{t:Z4}{p:Nat}{m a:Int}:u7 t p m a=true↔∃k e,nC t p k e/\e.kind=2/\e.message=m/\e.peer=a:=by unfold u7 nC;rw[show(p:Int).toNat=p from rfl];cases w:t.procs.l[p]?with|none=>simp|some P=>simp;constructor;rintro⟨e,u,h⟩;have⟨k,b⟩:=List.getElem?_of_mem u;grind;grind
def ag(A:b9 200 bB)(m:Int):bB:=(A.at m).getD default
theorem Pr(A:b9 200 bB){m:Int}(a:0<=m)(b:m<=199):A.at m=some (ag A m):=by
 have:m.toNat<A.l.length:=by rw[A.len];omega
 unfold ag b9.at;grind
theorem tA(A:b9 200 bB){m m':Int}(x:bB)(a:0<=m)(b:m<=199)(B:0<=m'):ag (A.set m x) m'=if m'=m then x else ag A m':=by
 have:m.toNat<A.l.length:=by rw[A.len];omega
 unfold ag b9.at b9.set;grind
theorem QJ{m:Int}(a:0<=m)(b:m<=199):ag (b9.Q7 200 (⟨⟨0,0⟩,⟨0,0⟩⟩:bB)) m=⟨⟨0,0⟩,⟨0,0⟩⟩:=by unfold ag b9.at b9.Q7;grind
structure fR(t:Trace)(its:List (a_×Event))(A:b9 200 bB):Prop where
 snd:∀x∈its,x.2.kind=2->(ag A x.2.message).from_=x.1
 rcv:∀x∈its,x.2.kind=3->(ag A x.2.message).to_=x.1/\u7 t x.2.peer x.2.message x.1.proc=true
 fr:∀m,0<=m->m<=199->(ag A m).from_.index=0\/∃e,((ag A m).from_,e)∈its/\e.kind=2/\e.message=m
 to:∀m,0<=m->m<=199->(ag A m).to_.index=0\/∃e,((ag A m).to_,e)∈its/\e.kind=3/\e.message=m
def Pa(a b:a_×WF):Prop:=a.1.proc<b.1.proc\/a.1.proc=b.1.proc/\a.1.index<b.1.index
theorem Q3{p:Int}:∀{es:aX WF}{j:Int},(jL p j es).Pairwise Pa
 |[],_=>Pairwise.nil|e::es,j=>by simp only[jL,pairwise_cons];refine⟨λb B=>?_,Q3⟩;have⟨k,_,D⟩:=wE.1 B;refine .inr ⟨by rw[D],?_⟩;grind
theorem K8:∀{ps:aX bR}{i:Int},(gG i ps).Pairwise Pa
 |[],_=>Pairwise.nil|P::ps,i=>by simp only[gG,pairwise_append];refine⟨Q3,K8,λa B b D=>.inl ?_⟩;have⟨k,_,G⟩:=wE.1 B;have⟨c,j,P,_,_,u⟩:=xB.1 D;grind
theorem KG{t:Z4}{k:Nat}{x y:a_×WF}(B:(bL t)[k]?=some x)(D:y∈(bL t).take k):y.1≠x.1:=by
 have⟨a,u⟩:=ζe.1 B;have w:((bL t).take k++(bL t).drop k).Pairwise Pa:=by rw[take_append_drop];exact K8
 have:=(pairwise_append.1 w).2.2 y D x (by rw[drop_eq_getElem_cons a,u];grind);unfold Pa at this;grind
structure AD(t:Trace):Prop where
 snd:∀x∈bL t,∀y∈bL t,x.2.kind=2->y.2.kind=2->x.2.message=y.2.message->x.1=y.1
 rcv:∀x∈bL t,∀y∈bL t,x.2.kind=3->y.2.kind=3->x.2.message=y.2.message->x.1=y.1
 has:∀x∈bL t,x.2.kind=3->u7 t x.2.peer x.2.message x.1.proc=true
theorem fR.Am{t:Z4}{A:b9 200 bB}(h:fR t (bL t) A):AD t:=⟨λx w y z k2 u B=>by rw[<-h.snd x w k2,<-h.snd y z u,B],λx w y z k2 u B=>by rw[<-(h.rcv x w k2).1,<-(h.rcv y z u).1,B],λx w k=>(h.rcv x w k).2⟩
theorem Gy{t:Z4}(i:Small t)(g:∀x∈bL t,mQ t.procs.l.length x.1.proc x.2):Wp (fm t) λr=>(r.2.2=0->∃A,r.1=some A/\fR t (bL t) A)/\(AD t->r.2.2=0):=by
 unfold fm j_;rw[ζb];unfold fm.E1;rw[vf i,ζb];refine Ay (λk A=>fR t ((bL t).take k) A) ⟨Zab,Zab,λm c b=>.inl (by rw[QJ c b]),λm c b=>.inl (by rw[QJ c b])⟩ ?_ ?_;intro k x A Z B;have G:=mem_of_getElem? Z;have S:(bL t).take (k+1)=(bL t).take k++[x]:=by rw[take_add_one,Z];rfl
 have⟨p,j,E,F⟩:=dP.1 G;have l:=g x G;unfold fm.kV;rw[b7];constructor;intro d;have L:x.2.kind=2:=by grind
 have u:0<=x.2.message/\x.2.message<=199:=by rcases l with h|⟨_,_,_,_,h⟩;omega;simp_all
 rw[Pr A u.1 u.2,ζb,b7];refine⟨λn=>(bf _).2 ((bf _).2 ⟨λh=>(by cases h),λW=>?_⟩),λc=>?_⟩;rcases B.fr _ u.1 u.2 with X|⟨e,O,T,U⟩;grind;exact absurd (W.snd _ (mem_of_mem_take O) x G T L U) (KG Z O);rw[ζb,bf,S];have old:∀y∈(bL t).take k,y.2.kind=2->y.2.message≠x.2.message:=λy a w O=>by have:=B.snd y a w;rw[O]at this;have⟨p',o,_,Q⟩:=dP.1 (mem_of_mem_take a);grind
 have Y:∀y∈(bL t).take k,y.2.kind=2\/y.2.kind=3->0<=y.2.message:=λy a w=>by rcases g y (mem_of_mem_take a)with h|⟨_,_,_,_,h,_⟩;omega;simp_all
 refine⟨λy a w=>?_,λy a z=>?_,λm C I=>?_,λm C I=>?_⟩;rcases mem_append.1 a with a|a;rw[tA A _ u.1 u.2 (Y y a (.inl w)),if_neg (old y a w)];exact B.snd y a w;simp at a;subst a;rw[tA A _ u.1 u.2 u.1,if_pos rfl];rcases mem_append.1 a with a|a;rw[tA A _ u.1 u.2 (Y y a (.inr z))];have:=B.rcv y a z;grind;grind;rw[tA A _ u.1 u.2 C];split;next e=>exact .inr ⟨x.2,Zab,L,e.symm⟩
 exact(B.fr m C I).imp (λh=>h) λ⟨e,b,D⟩=>⟨e,mem_append_left _ b,D⟩;rw[tA A _ u.1 u.2 C];have:=(B.to m C I).imp (λh=>h) λ⟨e,b,D⟩=>(⟨e,mem_append_left [x] b,D⟩:∃e,((ag A m).to_,e)∈(bL t).take k++[x]/\e.kind=3/\e.message=m);split;next e=>subst e;omega
 omega;intro d;have L:=by simpa using d
 rw[b7];constructor;intro d;have J:=by simpa using d
 have u:0<=x.2.message/\x.2.message<=199/\0<=x.2.peer/\x.2.peer<t.procs.l.length:=by rcases l with h|⟨_,b,D,_,s,v⟩;omega;exact⟨s,v,b,D⟩
 rw[Pr A u.1 u.2.1,ζb,b7];refine⟨λn=>(bf _).2 ((bf _).2 ⟨λh=>(by cases h),λW=>?_⟩),λc=>?_⟩;rcases B.to _ u.1 u.2.1 with X|⟨e,O,T,U⟩;simp[X]at n;exact absurd (W.rcv _ (mem_of_mem_take O) x G T J U) (KG Z O);have c:¬(ag A x.2.message).to_.index>0:=by simpa using c
 rw[UF i u.2.2.1 u.2.2.2,ζb,b7];refine⟨λf=>?_,λf=>(bf _).2 ((bf _).2 ⟨λh=>(by cases h),λW=>by rw[W.has x G J]at f;cases f⟩)⟩;rw[ζb,bf,S];have old:∀y∈(bL t).take k,y.2.kind=3->y.2.message≠x.2.message:=λy a w O=>by have:=(B.rcv y a w).1;rw[O]at this;rw[this]at c;have⟨p',o,_,Q⟩:=dP.1 (mem_of_mem_take a);rw[Q]at c;exact c (by show(o:Int)+1>0;omega)
 have Y:∀y∈(bL t).take k,y.2.kind=2\/y.2.kind=3->0<=y.2.message:=λy a w=>by rcases g y (mem_of_mem_take a)with h|⟨_,_,_,_,h,_⟩;omega;exact h
 refine⟨λy a w=>?_,λy a z=>?_,λm C I=>?_,λm C I=>?_⟩;rcases mem_append.1 a with a|a;rw[tA A _ u.1 u.2.1 (Y y a (.inl w))];have:=B.snd y a w;split;next e=>rw[e]at this;exact this
 exact this;simp at a;subst a;omega;rcases mem_append.1 a with a|a;rw[tA A _ u.1 u.2.1 (Y y a (.inr z)),if_neg (old y a z)];exact B.rcv y a z;simp at a;subst a;rw[tA A _ u.1 u.2.1 u.1,if_pos rfl];exact⟨rfl,f⟩;rw[tA A _ u.1 u.2.1 C];have:=(B.fr m C I).imp (λh=>h) λ⟨e,b,D⟩=>(⟨e,mem_append_left [x] b,D⟩:∃e,((ag A m).from_,e)∈(bL t).take k++[x]/\e.kind=2/\e.message=m);split;next e=>subst e;exact this
 exact this;rw[tA A _ u.1 u.2.1 C];split;next e=>exact .inr ⟨x.2,Zab,J,e.symm⟩
 exact(B.to m C I).imp (λh=>h) λ⟨e,b,D⟩=>⟨e,mem_append_left _ b,D⟩;intro d;have J:=by simpa using d
 rw[bf,S];refine⟨λy a w=>?_,λy a z=>?_,λm C I=>?_,λm C I=>?_⟩;rcases mem_append.1 a with a|a;exact B.snd y a w;simp at a;subst a;exact absurd w L;rcases mem_append.1 a with a|a;exact B.rcv y a z;simp at a;subst a;exact absurd z J;exact(B.fr m C I).imp (λh=>h) λ⟨e,b,D⟩=>⟨e,mem_append_left _ b,D⟩;exact(B.to m C I).imp (λh=>h) λ⟨e,b,D⟩=>⟨e,mem_append_left _ b,D⟩;intro A q;rw[take_length]at q;exact(bf _).2 ⟨λ_=>⟨A,rfl,q⟩,λ_=>rfl⟩
def jQ(f:Nat->X')(k n:Nat):X':=(range' k (n-k)).any f
theorem IX{f:Nat->X'}{k n:Nat}(h:k<n):jQ f k n=(f k||jQ f (k+1) n):=by unfold jQ;rw[show n-k=(n-(k+1))+1 from Zaa,List.range'_succ];rfl
theorem Tn{f:Nat->X'}{k n:Nat}(h:n<=k):jQ f k n=false:=by unfold jQ;rw[show n-k=0 from Zaa];rfl
theorem Kl{f:Nat->X'}{k n:Nat}:jQ f k n=true↔∃i,k<=i/\i<n/\f i=true:=by unfold jQ;rw[List.any_eq_true];constructor;rintro⟨i,a,u⟩;rw[List.mem_range'_1]at a;exact⟨i,a.1,Zaa,u⟩;rintro⟨i,b,w,u⟩;exact⟨i,by rw[List.mem_range'_1];omega,u⟩
theorem GR{step:Int->aY (Fw Int Unit Unit)}{n:Nat}(f:Nat->X')(D:n<9223372036854775807)(a:∀i:Nat,i<n->step i=some (if f i then .r ()else .n (wrap .i64 ((i:Int)+1))))(B:step (n:Int)=some (.x ())):
 ∀m k:Nat,k+m=n->bF step (k:Int)=some (if jQ f k n then .r ()else .x ()):=by
 intro m
 induction m with
 |zero=>
  intro k b;have:k=n:=Zaa
  subst this;rw[eP,B,Tn (le_refl _)];rfl
 |succ m u=>
  intro k b;rw[eP,a k Zaa,IX Zaa]
  cases w:f k with
  |true=>rfl|false=>
   simp only[false_eq_true,if_false,ζb,Bool.false_or];rw[cr k Zaa]
   exact u (k+1) Zaa
def oJ(g:Nat->Int)(k n:Nat):Int:=match(range' k (n-k)).find? λi=> !(g i==0)with
 |some i=>g i|none=>0
theorem HJ{g:Nat->Int}{k n:Nat}(h:k<n):oJ g k n=if g k=0 then oJ g (k+1) n else g k:=by unfold oJ;rw[show n-k=(n-(k+1))+1 from Zaa,List.range'_succ,List.find?_cons];by_cases a:g k=0;simp[a];rw[if_neg a,show(!(g k==0))=true from by simp[a]]
theorem L_{g:Nat->Int}{k n:Nat}(h:n<=k):oJ g k n=0:=by unfold oJ;rw[show n-k=0 from Zaa];rfl
theorem IP{g:Nat->Int}{n:Nat}:∀{m k:Nat},k+m=n->(oJ g k n=0↔∀i,k<=i->i<n->g i=0):=by intro m;induction m with|zero=>intro k c;rw[L_ Zaa];exact⟨λ_ i b u=>Zaa,λ_=>rfl⟩|succ m w=>intro k c;rw[HJ Zaa];split;rename_i a;rw[w (show k+1+m=n by omega)];constructor;intro h i b u;by_cases e:i=k;subst e;exact a;exact h i Zaa u;intro h i b u;exact h i Zaa u;rename_i a;exact⟨λh=>absurd h a,λh=>absurd (h k (le_refl _) Zaa) a⟩
theorem XL{step:Int->aY (Fw Int Unit Int)}{n:Nat}(g:Nat->Int)(D:n<9223372036854775807)(b:∀i:Nat,i<n->step i=some (if g i=0 then .n (wrap .i64 ((i:Int)+1))else .r (g i)))(B:step (n:Int)=some (.x ())):
 ∀m k:Nat,k+m=n->bF step (k:Int)=some (if oJ g k n=0 then .x ()else .r (oJ g k n)):=by
 intro m
 induction m with
 |zero=>
  intro k c;have:k=n:=Zaa
  subst this;rw[eP,B,L_ (le_refl _)];rfl
 |succ m u=>
  intro k c;rw[eP,b k Zaa,HJ Zaa]
  by_cases a:g k=0
  .simp only[a,if_true,ζb];rw[cr k Zaa]
   exact u (k+1) Zaa
  simp only[a,if_false,ζb]
theorem AS{step:Int->aY (Fw Int Unit Int)}{n:Nat}(g:Nat->Int)(B:n<9223372036854775807)(a:∀i:Nat,i<n->step i=some (if g i=0 then .n (wrap .i64 ((i:Int)+1))else .r (g i)))(D:step (n:Int)=some (.x ())):bF step 0=some (if oJ g 0 n=0 then .x ()else .r (oJ g 0 n)):=XL g B a D n 0 Zaa
theorem Em{step:Int->aY (Fw Int Unit Unit)}{n:Nat}(f:Nat->X')(B:n<9223372036854775807)(a:∀i:Nat,i<n->step i=some (if f i then .r ()else .n (wrap .i64 ((i:Int)+1))))(D:step (n:Int)=some (.x ())):bF step 0=some (if jQ f 0 n then .r ()else .x ()):=GR f B a D n 0 Zaa
def Ac(c:Int):X':=decide (c>=65)&&decide (c<=90)||decide (c>=97)&&decide (c<=122)
def E5(c:Int):X':=decide (c>=48)&&decide (c<=57)
theorem Gj(c:Int):sB c=some (Ac c):=by unfold sB Ac;simp only[oM,mP,ζb];rw[Bool.or_comm]
theorem Fv(c:Int):qR c=some (Ac c):=by unfold qR Ac;simp only[oM,mP,ζb]
theorem Sc(c:Int):wI c=some (E5 c):=by unfold wI E5;simp only[oM,ζb]
theorem R2(c:Int):vh c=some (E5 c):=by unfold vh E5;simp only[oM,ζb]
def zn(s:U')(i:Nat):Int:=(mH s (i:Int)).getD 0
theorem Gu{s:U'}{i:Nat}(h:i<s.size):mH s (i:Int)=some (zn s i):=by have⟨x,u⟩:=Oz h;unfold zn;rw[u];rfl
def ve(s:U')(i:Nat):X':= !Ac (zn s i)&& !E5 (zn s i)&& !(zn s i==95)
def nH(s:U'):X':=decide (1<=s.size)&&decide (s.size<=16)&&Ac (zn s 0)&& !jQ (ve s) 0 s.size
theorem Qj{s:U'}{i:Nat}(h:i<s.size):iq.bh s (s.size:Int) i=some (if ve s i then .r ()else .n (wrap .i64 ((i:Int)+1))):=by unfold iq.bh ve;rw[show decide ((i:Int)<(s.size:Int))=true from by simpa using h,bt,Gu h];simp only[ζb,Gj,Sc];cases Ac (zn s i)<;>cases E5 (zn s i)<;>cases(zn s i==95)<;>rfl
theorem O7{s:U'}{i:Nat}(h:i<s.size):iW.bh s i=some (if ve s i then .r ()else .n (wrap .i64 ((i:Int)+1))):=by unfold iW.bh ve;rw[show decide ((i:Int)<((ByteArray.size s:Nat):Int))=true from by simpa using h,bt,Gu h];simp only[ζb,Fv,R2];cases Ac (zn s i)<;>cases E5 (zn s i)<;>cases(zn s i==95)<;>rfl
theorem toList_empty{s:U'}:(toList s==toList ByteArray.empty)=decide (s.size=0):=by
 rw[Bool.eq_iff_iff,beq_iff_eq,decide_eq_true_eq];constructor;intro h;have a:(toList s).length=s.size:=by rw[Go.ByteArray.toList_eq];simp
 rw[<-a,h];rw[Go.ByteArray.toList_eq];rfl;intro h;have:s=ByteArray.empty:=by apply ByteArray.ext;exact Array.eq_empty_of_size_eq_zero h
 rw[this]
theorem HV{s:U'}(B:s.size<1073741824):iq s=some (nH s):=by
 unfold iq;rw[toList_empty];simp only[mP,ζb];by_cases b:s.size=0;simp[b,nH,bg];by_cases u:s.size<=16;have a:(decide (s.size=0)||decide (((ByteArray.size s:Nat):Int)>16))=false:=by simp[b];omega
 rw[a,bA,show(0:Int)=((0:Nat):Int)from rfl,Gu (show 0<s.size by omega)];simp only[ζb,Gj];cases w:Ac (zn s 0)with|false=>simp[nH,w,bg]|true=>simp only[Bool.not_true,bA];unfold iq.W1;rw[GR (n:=s.size) (ve s) Zaa (λi c=>Qj c) (by unfold iq.bh;simp[bg]) s.size 0 Zaa];have:nH s= !jQ (ve s) 0 s.size:=(by simp[nH,w,u];omega);rw[this];cases jQ (ve s) 0 s.size<;>rfl
 have a:(decide (s.size=0)||decide (((ByteArray.size s:Nat):Int)>16))=true:=by simp;omega
 rw[a,bt];simp[nH,u,bg]
theorem Mb{s:U'}(B:s.size<1073741824):iW s=some (nH s):=by
 unfold iW;simp only[mP,ζb];by_cases c:s.size=0;simp[c,nH,bg];by_cases u:s.size<=16;have a:(decide (((ByteArray.size s:Nat):Int)<1)||decide (((ByteArray.size s:Nat):Int)>16))=false:=by simp;omega
 rw[a,bA,show(0:Int)=((0:Nat):Int)from rfl,Gu (show 0<s.size by omega)];simp only[ζb,Fv];cases w:Ac (zn s 0)with|false=>simp[nH,w,bg]|true=>simp only[Bool.not_true,bA];unfold iW.W1;rw[show(1:Int)=((1:Nat):Int)from rfl,GR (n:=s.size) (ve s) Zaa (λi d=>O7 d) (by unfold iW.bh;simp[bg]) (s.size-1) 1 Zaa];have z:ve s 0=false:=(by simp[ve,w]);have:nH s= !jQ (ve s) 1 s.size:=(by have b:=IX (f:=ve s) (show 0<s.size by omega);rw[z]at b;simp[nH,w,u,b];omega);rw[this];cases jQ (ve s) 1 s.size<;>rfl
 have a:(decide (((ByteArray.size s:Nat):Int)<1)||decide (((ByteArray.size s:Nat):Int)>16))=true:=by simp;omega
 rw[a,bt];simp[nH,u,bg]
def fO{α:Type}(l:aX α)(f:α->X')(i:Nat):X':=match l[i]?with|some y=>f y|none=>false
theorem B3{α:Type}{l:aX α}{f:α->X'}{i:Nat}(h:i<l.length):fO l f i=f l[i]:=by unfold fO;rw[ζd h]
theorem EV{α:Type}{l:aX α}{f:α->X'}{p:Nat}:(l.take p).any f=jQ (fO l f) 0 p:=by
 rw[Bool.eq_iff_iff,List.any_eq_true,Kl];constructor;rintro⟨x,w,u⟩;have⟨i,a⟩:=List.getElem?_of_mem w;have z:=(ζe.1 a).1;rw[length_take]at z;rw[getElem?_take,if_pos Zaa]at a;exact⟨i,zero_le _,Zaa,by unfold fO;rw[a];exact u⟩;rintro⟨i,_,a,u⟩;unfold fO at u;split at u;next y B=>exact⟨y,mem_of_getElem? (i:=i) (by rw[getElem?_take,if_pos a];exact B),u⟩
 cases u
def ud(a b:U'):X':=toList a==toList b
def aaX:X'->X'->X'->Int
 |true,false,true=>0|true,false,false=>2|_,_,_=>13
def wO(P:bR)(i:Nat):Int:=match P.vars.l[i]?with
 |some v=>aaX (nH v.name) (jQ (fO P.vars.l λw=>ud w.name v.name) 0 i) (decide (v.init_>=-1073741824)&&decide (v.init_<=1073741824))|none=>0
def ta(t:Z4)(p:Nat):Int:=match t.procs.l[p]?with
 |some P=>if nH P.name&& !jQ (fO t.procs.l λy=>ud y.name P.name) 0 p then
  (if P.vars.l.length>8 then 5 else if oJ (wO P) 0 P.vars.l.length=0 then(if P.events.l.length>64 then 5 else 0)else oJ (wO P) 0 P.vars.l.length)else 13
 |none=>0
theorem Ja{P:bR}{i:Nat}(h:i<P.vars.l.length):wO P i=aaX (nH P.vars.l[i].name) (jQ (fO P.vars.l λw=>ud w.name P.vars.l[i].name) 0 i) (decide (P.vars.l[i].init_>=-1073741824)&&decide (P.vars.l[i].init_<=1073741824)):=by unfold wO;rw[ζd h]
theorem I6(n:Int):rZ n=some (decide (n>=-1073741824)&&decide (n<=1073741824)):=by unfold rZ;rw[oM];rfl
theorem Uq{t:Z4}(b:Small t){p:Nat}(hp:p<t.procs.l.length):fq t p=some (ta t p):=by
 have U:=b.2 _ (getElem_mem hp);have e:=b.1;unfold fq ta;rw[bz hp,ζb,ζd hp];generalize W:t.procs.l[p]=P at *;have⟨S,X,O,u,_⟩:=U;rw[HV O,ζb];have⟨x,Y,D⟩:=uO t.procs p Zaa;have G:jE x (λz=>kX z P)=some (jQ (fO t.procs.l λy=>ud y.name P.name) 0 p):=by rw[K9 (p:=λz=>kX z P) (f:=λy=>ud y.name P.name) (λy _=>rfl) (by rw[D,length_take];omega),D,EV]
 rw[Y,ζb,G,ζb];dsimp only;cases g:nH P.name with|false=>simp[bg]|true=>rw[bt,ζb,Bool.true_and];cases hd:jQ (fO t.procs.l λy=>ud y.name P.name) 0 p with|true=>simp[bg]|false=>rw[bA];simp only[Bool.not_false,if_true];by_cases T:P.vars.l.length>8;rw[show decide (len P.vars>8)=true from by simp[len];omega,bt,if_pos T];rw[show decide (len P.vars>8)=false from by simp[len];omega,bA,if_neg T];unfold fq.W1;rw[AS (n:=P.vars.l.length) (wO P) Zaa (λi a=>?_) (by unfold fq.bh;simp[bg,len])];by_cases L:oJ (wO P) 0 P.vars.l.length=0;rw[if_pos L,if_pos L];show bg (decide (len P.events>64)) (some 5) (some 0)=_;rw[vI];simp only[len,decide_eq_true_eq];by_cases I:P.events.l.length>64;rw[if_pos I,if_pos Zaa];rw[if_neg I,if_neg Zaa];rw[if_neg L,if_neg L];rfl;unfold fq.bh;rw[Ja a,show decide ((i:Int)<len P.vars)=true from by simp[len];exact a,bt,bz a,ζb];have c:=u _ (getElem_mem a);have⟨y,Z,J⟩:=uO P.vars i Zaa;have Q:iJ y (λz=>kY z P.vars.l[i])=some (jQ (fO P.vars.l λw=>ud w.name P.vars.l[i].name) 0 i):=(by rw[D6 (p:=λz=>kY z P.vars.l[i]) (f:=λw=>ud w.name P.vars.l[i].name) (λw _=>rfl) (by rw[J,length_take];omega),J,EV]);rw[HV c,ζb,Z,ζb,Q,ζb,q_];have d:(decide (-1073741824<=P.vars.l[i].init_)&&decide (P.vars.l[i].init_<=1073741824))=(decide (P.vars.l[i].init_>=-1073741824)&&decide (P.vars.l[i].init_<=1073741824)):=rfl;rw[d];generalize nH P.vars.l[i].name=A;generalize jQ (fO P.vars.l λw=>ud w.name P.vars.l[i].name) 0 i=B;generalize(decide (P.vars.l[i].init_>=-1073741824)&&decide (P.vars.l[i].init_<=1073741824))=C;cases A<;>cases B<;>cases C<;>rfl
theorem Ts{t:Z4}(b:Small t){p:Nat}(hp:p<t.procs.l.length):eN t p=some (ta t p):=by have Q:=b.2 _ (getElem_mem hp);have c:=b.1;unfold eN ta;rw[bz hp,ζb,ζd hp];generalize S:t.procs.l[p]=P at *;have⟨L,T,J,u,_⟩:=Q;rw[Mb J,ζb];dsimp only;cases X:nH P.name with|false=>simp[bg]|true=>rw[bt,Bool.true_and];unfold eN.W1;rw[Em (n:=p) (fO t.procs.l λy=>ud y.name P.name) Zaa (λi a=>?_) (by unfold eN.bh;simp[bg])];(cases hd:jQ (fO t.procs.l λy=>ud y.name P.name) 0 p with|true=>rfl|false=>simp only[Bool.not_false,if_true];show bg (decide (len P.vars>8)) (some 5) (eN.W2 0 P)=_;by_cases O:P.vars.l.length>8;rw[show decide (len P.vars>8)=true from by simp[len];omega,bt,if_pos O];rw[show decide (len P.vars>8)=false from by simp[len];omega,bA,if_neg O];unfold eN.W2;rw[AS (n:=P.vars.l.length) (wO P) Zaa (λi a=>?_) (by unfold eN.bH;simp[bg,len])];by_cases I:oJ (wO P) 0 P.vars.l.length=0;rw[if_pos I,if_pos I];show bg (decide (len P.events>64)) (some 5) (some 0)=_;rw[vI];simp only[len,decide_eq_true_eq];by_cases z:P.events.l.length>64;rw[if_pos z,if_pos Zaa];rw[if_neg z,if_neg Zaa];rw[if_neg I,if_neg I];rfl;unfold eN.bH;rw[Ja a,show decide ((i:Int)<len P.vars)=true from by simp[len];exact a,bt,bz a,ζb];(rw[Mb (u _ (getElem_mem a)),ζb];have U:eN.W3 i 0 P=if jQ (fO P.vars.l λw=>ud w.name P.vars.l[i].name) 0 i then some (.r 13)else(if decide (P.vars.l[i].init_>=-1073741824)&&decide (P.vars.l[i].init_<=1073741824)then some (.n (wrap .i64 ((i:Int)+1)))else some (.r 2)):=by unfold eN.W3;rw[Em (n:=i) (fO P.vars.l λw=>ud w.name P.vars.l[i].name) Zaa (λj W=>?_) (by unfold eN.fh;simp[bg])];(cases jQ (fO P.vars.l λw=>ud w.name P.vars.l[i].name) 0 i with|true=>rfl|false=>show(idx P.vars (i:Int)).bind _=_;rw[bz a,ζb,I6,ζb];cases(decide (P.vars.l[i].init_>=-1073741824)&&decide (P.vars.l[i].init_<=1073741824))<;>rfl);unfold eN.fh;have D:j<P.vars.l.length:=Zaa;rw[show decide ((j:Int)<(i:Int))=true from by simpa using W,bt,bz D,ζb,bz a,ζb,B3 D,vI];rfl);rw[U];generalize nH P.vars.l[i].name=A;generalize jQ (fO P.vars.l λw=>ud w.name P.vars.l[i].name) 0 i=B;generalize(decide (P.vars.l[i].init_>=-1073741824)&&decide (P.vars.l[i].init_<=1073741824))=C;cases A<;>cases B<;>cases C<;>rfl);unfold eN.bh;have G:i<t.procs.l.length:=Zaa;rw[show decide ((i:Int)<(p:Int))=true from by simpa using a,bt,bz G,ζb,B3 G,vI];rfl
def La(n:Nat)(p:Int)(e:WF):X':=if e.kind==1 then e.peer==0&&e.message==0 else(e.kind==2||e.kind==3)&&(decide (0<=e.peer)&&decide (e.peer<n))&& !(e.peer==p)&&(decide (0<=e.message)&&decide (e.message<=199))
theorem Q2{t:Z4}(a:Small t)(p:Int)(e:WF):jy t p e=some (La t.procs.l.length p e):=by
 have c:=a.1;have w:wrap .i64 (len t.procs-1)=len t.procs-1:=fV _ (by simp[len];omega) (by simp[len];omega);have u:∀b:X',jy.J1 p b t e=some (b&&(decide (0<=e.peer)&&decide (e.peer<t.procs.l.length))&& !(e.peer==p)&&(decide (0<=e.message)&&decide (e.message<=199))):=by intro b;unfold jy.J1;simp only[q_,w,ζb];have:decide (e.peer<=len t.procs-1)=decide (e.peer<t.procs.l.length):=(by congr 1;apply propext;simp[len];omega);rw[this];generalize(decide (0<=e.peer)&&decide (e.peer<(t.procs.l.length:Int)))=A;generalize(e.peer==p)=B;generalize(decide (0<=e.message)&&decide (e.message<=199))=C;cases b<;>cases A<;>cases B<;>cases C<;>rfl
 unfold jy La;rw[u,u];cases c:e.kind==1 with|true=>rw[bt];cases e.peer==0<;>cases e.message==0<;>rfl|false=>rw[bA];simp only[false_eq_true,if_false];cases z:e.kind==2<;>simp[bg]
def GK(P:bR)(k:Nat)(e:WF):X':=match k with|0=>false|j+1=>fO P.events.l (λx=>decide (e.time<x.time)) j
def wz(P:bR)(k:Nat)(e:WF):X':=decide (e.time<0)||decide (e.time>1099511627776)||GK P k e
def PX:X'->X'->X'->Int
 |true,true,false=>0|true,true,true=>8|_,_,_=>2
def nv(P:bR)(e:WF)(i:Nat):Int:=match e.assign.l[i]?with
 |some a=>PX (decide (0<=a.var)&&decide (a.var<P.vars.l.length)) (decide (a.value>=-1073741824)&&decide (a.value<=1073741824)) (jQ (fO e.assign.l λb=>b.var==a.var) 0 i)|none=>0
theorem IQ{P:bR}{e:WF}{i:Nat}(h:i<e.assign.l.length):nv P e i=PX (decide (0<=e.assign.l[i].var)&&decide (e.assign.l[i].var<P.vars.l.length)) (decide (e.assign.l[i].value>=-1073741824)&&decide (e.assign.l[i].value<=1073741824)) (jQ (fO e.assign.l λb=>b.var==e.assign.l[i].var) 0 i):=by unfold nv;rw[ζd h]
def pZ(n:Nat)(P:bR)(p k:Nat)(e:WF):Int:=if La n p e then(if wz P k e then 11 else if e.assign.l.length>8 then 5 else oJ (nv P e) 0 e.assign.l.length)else 3
theorem OA{P:bR}{e:WF}(d:P.vars.l.length<1073741824)(U:e.assign.l.length<1073741824):dO.W2 e.assign (len e.assign) 0 e P=some (oJ (nv P e) 0 e.assign.l.length):=by
 have I:wrap .i64 (len P.vars-1)=len P.vars-1:=fV _ (by simp[len];omega) (by simp[len];omega);unfold dO.W2;rw[AS (n:=e.assign.l.length) (nv P e) Zaa (λi a=>?_) (by unfold dO.bH;simp[bg,len])];by_cases D:oJ (nv P e) 0 e.assign.l.length=0;rw[if_pos D,D];rfl;rw[if_neg D];rfl;unfold dO.bH;have⟨y,J,u⟩:=uO e.assign i Zaa;have G:iP y (λz=>mh z e.assign.l[i])=some (jQ (fO e.assign.l λb=>b.var==e.assign.l[i].var) 0 i):=by rw[HC (p:=λz=>mh z e.assign.l[i]) (f:=λb=>b.var==e.assign.l[i].var) (λw _=>rfl) (by rw[u,length_take];omega),u,EV]
 rw[IQ a,show decide ((i:Int)<len e.assign)=true from by simp[len];exact a,bt,bz a,ζb,q_,q_,I,J,ζb,ζb,ζb,G,ζb];have c:(decide (0<=e.assign.l[i].var)&&decide (e.assign.l[i].var<=len P.vars-1))=(decide (0<=e.assign.l[i].var)&&decide (e.assign.l[i].var<P.vars.l.length)):=by congr 2;apply propext;simp[len];omega
 have L:(decide (-1073741824<=e.assign.l[i].value)&&decide (e.assign.l[i].value<=1073741824))=(decide (e.assign.l[i].value>=-1073741824)&&decide (e.assign.l[i].value<=1073741824)):=rfl;rw[c,L];generalize(decide (0<=e.assign.l[i].var)&&decide (e.assign.l[i].var<(P.vars.l.length:Int)))=A;generalize(decide (e.assign.l[i].value>=-1073741824)&&decide (e.assign.l[i].value<=1073741824))=B;generalize jQ (fO e.assign.l λb=>b.var==e.assign.l[i].var) 0 i=C;cases A<;>cases B<;>cases C<;>rfl
theorem Ss{t:Z4}(a:Small t){p k:Nat}{P:bR}{e:WF}(D:t.procs.l[p]?=some P)(U:P.events.l[k]?=some e):dO t ⟨p,k+1⟩ e=some (pZ t.procs.l.length P p k e):=by
 have⟨L,w⟩:=ζe.1 D;have⟨b,z⟩:=ζe.1 U;have⟨G,B,_,_,C⟩:=a.2 P (w▸getElem_mem L);have O:=C e (z▸getElem_mem b);have I:∀last:Int,((decide (0<=e.time)&&decide (e.time<=1099511627776))&& !decide (e.time<last))=(!wz P k e)->
  dO.J1 last t ⟨p,k+1⟩ e P=some (pZ t.procs.l.length P p k e):=by
  intro last Q;unfold dO.J1 pZ;rw[Q2 a,ζb,q_,ζb,OA B O];dsimp only
  cases La t.procs.l.length p e with
  |false=>rfl|true=>
   rw[bt,if_pos rfl];have:(bg (decide (0<=e.time)&&decide (e.time<=1099511627776)) (some (decide (e.time<last))) (some true):aY X')=some (wz P k e):=by
    have S:(!((decide (0<=e.time)&&decide (e.time<=1099511627776))&& !decide (e.time<last)))=wz P k e:=by rw[Q,Bool.not_not]
    rw[<-S];cases(decide (0<=e.time)&&decide (e.time<=1099511627776))<;>cases decide (e.time<last)<;>rfl
   rw[this,ζb]
   cases wz P k e with
   |true=>rfl|false=>
    rw[bA];simp only[false_eq_true,if_false]
    by_cases J:e.assign.l.length>8
    .rw[show decide (len e.assign>8)=true from by simp[len];omega,bt,if_pos J]
    rw[show decide (len e.assign>8)=false from by simp[len];omega,bA,if_neg J]
 unfold dO;dsimp only;rw[show idx t.procs (p:Int)=some P from by rw[gY];exact D,ζb];cases k with|zero=>rw[show decide (((0:Nat):Int)+1>1)=false from by decide,bA];refine I 0 ?_;simp only[wz,GK,Bool.or_false];rw[Bool.eq_iff_iff];simp only[ζh,not_eq_true',decide_eq_true_eq,decide_eq_false_iff_not,or_eq_false_iff];omega|succ j=>rw[show decide ((((j+1:Nat)):Int)+1>1)=true from by simp;omega,bt];have u:j<P.events.l.length:=Zaa;have T:wrap .i64 ((((j+1:Nat)):Int)+1-2)=((j:Nat):Int):=(by rw[fV _ Zaa Zaa];omega);rw[T,bz u,ζb];refine I _ ?_;simp only[wz,GK,B3 u];rw[Bool.eq_iff_iff];simp only[ζh,not_eq_true',decide_eq_true_eq,decide_eq_false_iff_not,or_eq_false_iff];omega
theorem Ow{t:Z4}{p:Nat}{P:bR}{e:WF}(D:t.procs.l[p]?=some P)(J:e.assign.l.length<1073741824):eM.W2 p 0 t e=some (oJ (nv P e) 0 e.assign.l.length):=by
 unfold eM.W2;rw[AS (n:=e.assign.l.length) (nv P e) Zaa (λi a=>?_) (by unfold eM.bH;simp[bg,len])];by_cases w:oJ (nv P e) 0 e.assign.l.length=0;rw[if_pos w,w];rfl;rw[if_neg w];rfl;unfold eM.bH;have z:eM.W3 p i 0 t e e.assign.l[i]=if jQ (fO e.assign.l λb=>b.var==e.assign.l[i].var) 0 i then some (.r 8)else some (.n (wrap .i64 ((i:Int)+1))):=by unfold eM.W3;rw[Em (n:=i) (fO e.assign.l λb=>b.var==e.assign.l[i].var) Zaa (λj G=>?_) (by unfold eM.fh;simp[bg])];cases jQ (fO e.assign.l λb=>b.var==e.assign.l[i].var) 0 i<;>rfl;unfold eM.fh;have u:j<e.assign.l.length:=Zaa;rw[show decide ((j:Int)<(i:Int))=true from by simpa using G,bt,bz u,ζb,B3 u,vI]
 rw[IQ a,show decide ((i:Int)<len e.assign)=true from by simp[len];exact a,bt,bz a,ζb,z,I6,ζb,show idx t.procs (p:Int)=some P from by rw[gY];exact D,ζb];have c:(bg (decide (e.assign.l[i].var<0)) (some true) (some (decide (e.assign.l[i].var>=len P.vars))):aY X')=some (!(decide (0<=e.assign.l[i].var)&&decide (e.assign.l[i].var<P.vars.l.length))):=by rw[mP];congr 1;rw[Bool.eq_iff_iff];simp only[or_eq_true,not_eq_true',decide_eq_true_eq,Bool.and_eq_false_iff,decide_eq_false_iff_not,len];omega
 rw[c,ζb];generalize(decide (0<=e.assign.l[i].var)&&decide (e.assign.l[i].var<(P.vars.l.length:Int)))=A;generalize(decide (e.assign.l[i].value>=-1073741824)&&decide (e.assign.l[i].value<=1073741824))=B;generalize jQ (fO e.assign.l λb=>b.var==e.assign.l[i].var) 0 i=C;cases A<;>cases B<;>cases C<;>rfl
theorem Uh{t:Z4}(b:Small t){p k:Nat}{P:bR}{e:WF}(J:t.procs.l[p]?=some P)(U:P.events.l[k]?=some e):eM t p k=some (pZ t.procs.l.length P p k e):=by
 have⟨S,w⟩:=ζe.1 J;have⟨c,z⟩:=ζe.1 U;have⟨O,T,_,_,I⟩:=b.2 P (w▸getElem_mem S);have W:=I e (z▸getElem_mem c);have X:eM.J1 p k t e=some (if wz P k e then 11 else if e.assign.l.length>8 then 5 else oJ (nv P e) 0 e.assign.l.length):=by unfold eM.J1;rw[mP,ζb,Ow J W,show idx t.procs (p:Int)=some P from by rw[gY];exact J,ζb];have a:(bg (decide ((k:Int)>0)) ((idx P.events (wrap .i64 ((k:Int)-1))).bind λL=>some (decide (e.time<L.time))) (some false):aY X')=some (GK P k e):=(by cases k with|zero=>rfl|succ j=>have u:j<P.events.l.length:=Zaa;rw[show decide ((((j+1:Nat)):Int)>0)=true from by simp only[decide_eq_true_eq];omega,bt,show wrap .i64 ((((j+1:Nat)):Int)-1)=((j:Nat):Int)from by rw[fV _ Zaa Zaa];omega,bz u,ζb];simp only[GK,B3 u]);rw[a,ζb,mP,ζb];show bg (wz P k e) _ _=_;cases wz P k e with|true=>rfl|false=>rw[bA];simp only[false_eq_true,if_false];by_cases Q:e.assign.l.length>8;rw[show decide (len e.assign>8)=true from by simp[len];omega,bt,if_pos Q];rw[show decide (len e.assign>8)=false from by simp[len];omega,bA,if_neg Q]
 unfold eM pZ;rw[show idx t.procs (p:Int)=some P from by rw[gY];exact J,ζb,show idx P.events (k:Int)=some e from by rw[gY];exact U,ζb,X];unfold La;cases a:e.kind==1 with|true=>rw[bt];simp only[if_true];cases e.peer==0<;>cases e.message==0<;>rfl|false=>rw[bA];simp only[false_eq_true,if_false];have Y:(bg (e.kind==2) (some false) (some (!(e.kind==3))):aY X')=some (!(e.kind==2||e.kind==3)):=(by cases e.kind==2<;>rfl);rw[Y,ζb,mP,ζb,mP,ζb,mP,ζb,mP,ζb,mP,ζb];have d:(((((!(e.kind==2||e.kind==3))||decide (e.peer<0))||decide (e.peer>=len t.procs))||(e.peer==p))||decide (e.message<0)||decide (e.message>199))= !((e.kind==2||e.kind==3)&&(decide (0<=e.peer)&&decide (e.peer<t.procs.l.length))&& !(e.peer==p)&&(decide (0<=e.message)&&decide (e.message<=199))):=(by generalize(e.kind==2||e.kind==3)=A;have a1:decide (e.peer<0)= !decide (0<=e.peer):=(by rw[Bool.eq_iff_iff];simp);have a2:decide (e.peer>=len t.procs)= !decide (e.peer<t.procs.l.length):=(by rw[Bool.eq_iff_iff];simp[len]);have a3:decide (e.message<0)= !decide (0<=e.message):=(by rw[Bool.eq_iff_iff];simp);have a4:decide (e.message>199)= !decide (e.message<=199):=(by rw[Bool.eq_iff_iff];simp);rw[a1,a2,a3,a4];generalize decide (0<=e.peer)=B;generalize decide (e.peer<(t.procs.l.length:Int))=C;generalize(e.peer==(p:Int))=D;generalize decide (0<=e.message)=F;generalize decide (e.message<=199)=G;cases A<;>cases B<;>cases C<;>cases D<;>cases F<;>cases G<;>rfl);rw[d];generalize((e.kind==2||e.kind==3)&&(decide (0<=e.peer)&&decide (e.peer<(t.procs.l.length:Int)))&& !(e.peer==(p:Int))&&(decide (0<=e.message)&&decide (e.message<=199)))=Z;cases Z<;>rfl
theorem OH{n:Nat}{p:Int}{e:WF}(h:La n p e=true):mQ n p e:=by
 unfold La at h;split at h;next a=>left;simpa using a
 right;simp only[ζh,or_eq_true,beq_iff_eq,decide_eq_true_eq,not_eq_true',beq_eq_false_iff_ne,ne_eq]at h;have⟨⟨⟨a,u⟩,z⟩,w⟩:=h;exact⟨a,u.1,u.2,z,w.1,w.2⟩
theorem Lc{n:Nat}{P:bR}{p k:Nat}{e:WF}(h:pZ n P p k e=0):mQ n p e:=by
 unfold pZ at h;split at h;next a=>exact OH a
 cases h
theorem Br{α:Type}[DecidableEq α]:∀{l r:aX α},l.Nodup->(∀x∈l,x∈r)->l.length<=r.length
 |[],_,_,_=>zero_le _|x::l,r,D,G=>by have B:=List.nodup_cons.1 D;have:=Br (r:=r.erase x) B.2 λy u=>(List.mem_erase_of_ne Zac).2 (G y (mem_cons_of_mem _ u));grind
section
variable{κ:Type}[DecidableEq κ]
theorem Gk{ν:Type}{k:κ}:∀{m:Mo κ ν},k∉m.map (·.1)->l_ k m=none
 |[],_=>rfl|(a,v)::r,h=>by simp only[map_cons,mem_cons,not_or]at h;unfold l_;rw[if_neg h.1];exact Gk h.2
theorem Ii{ν:Type}{k:κ}:∀{m:Mo κ ν},k∈m.map (·.1)->∃v,l_ k m=some v/\(k,v)∈m
 |[],h=>Zad|(a,v)::r,h=>by unfold l_;by_cases e:k=a;grind;obtain⟨w,b,B⟩:=Ii (by simpa[e]using h);grind
theorem t_{ν:Type}{k:κ}{v:ν}:∀{m:Mo κ ν},k∉m.map (·.1)->nK m k v=m++[(k,v)]
 |[],_=>rfl|(a,w)::r,h=>by simp only[map_cons,mem_cons,not_or]at h;show(if k=a then _ else _)=_;rw[if_neg h.1,t_ h.2];rfl
end
def Vd(t:Z4)(y:a_):Prop:=∃e,(y,e)∈bL t
theorem Vd.at_{t:Z4}{y:a_}(h:Vd t y):∃(p k:Nat)(e:WF),nC t p k e/\y=⟨p,k+1⟩/\(y,e)∈bL t:=by have⟨e,u⟩:=h;have⟨p,k,a,w⟩:=dP.1 u;grind
def Ld(t:Z4)(y z:a_):Prop:=∃e f,(y,e)∈bL t/\(z,f)∈bL t/\e.kind=2/\f.kind=3/\e.message=f.message
def Edge(t:Z4)(y z:a_):Prop:=Vd t y/\Vd t z/\(z=⟨y.proc,y.index+1⟩\/Ld t y z)
abbrev Way(t:Trace):a_->a_->Prop:=TransGen (Edge t)
def N1(t:Z4):Prop:=∃x,Way t x x
theorem Way.l{t:Z4}{x y:a_}(h:Way t x y):Vd t x:=by induction h with|single h=>exact h.1|tail _ _ u=>omega
theorem Way.r{t:Z4}{x y:a_}(h:Way t x y):Vd t y:=by cases h with|single h=>exact h.2.1|tail _ h=>exact h.2.1
theorem UW{t:Z4}(g:Small t)(l:∀x∈bL t,mQ t.procs.l.length x.1.proc x.2){A:b9 200 bB}(Y:fR t (bL t) A){y:a_}(J:Vd t y):
 Wp (kj t A y) λs=>s.l.length<=2/\∀z,z∈s.l↔Edge t y z:=by
 have⟨p,k,e,L,C,u⟩:=J.at_;have⟨P,O,d⟩:=L;have S:P∈t.procs.l:=mem_of_getElem? O;have a:=(g.2 P S).1;have X:k<P.events.l.length:=(ζe.1 d).1;have D:y.proc=p:=by rw[C]
 have T:y.index=k+1:=by rw[C]
 have j:∀s:Sl a_,s.l.length<=1->(∀z,z∈s.l↔Vd t z/\z=⟨y.proc,y.index+1⟩)->Wp (kj.J1 A s P.events y) λs=>s.l.length<=2/\∀z,z∈s.l↔Edge t y z:=by intro s o w;have no:¬(∃z,Ld t y z)->s.l.length<=2/\∀z,z∈s.l↔Edge t y z:=λZ=>⟨Zaa,λz=>(w z).trans ⟨λh=>⟨J,h.1,.inl h.2⟩,λh=>⟨h.2.1,h.2.2.elim id λh=>(Z ⟨z,h⟩).elim⟩⟩⟩;unfold kj.J1;have U:wrap .i64 (y.index-1)=((k:Nat):Int):=(by rw[T,fV _ Zaa Zaa];omega);rw[U,gY,d,ζb,eA,b7];constructor;intro B;have B:e.kind=2:=(by grind);have I:0<=e.message/\e.message<=199:=(by rcases l _ u with h|⟨_,_,_,_,h⟩;grind;omega);have b:∀z,Ld t y z->(ag A e.message).to_=z:=λz⟨W,f,a1,a2,a3,a4,a5⟩=>(by cases Bl a1 u rfl;rw[a5];exact(Y.rcv _ a2 a4).1);rw[Pr A I.1 I.2,ζb,bf,b7];refine⟨λh=>?_,λh=>(bf _).2 (no λ⟨z,w⟩=>?_)⟩;have h:(ag A e.message).to_.index>0:=(by grind);rw[ζb];unfold fu;rw[if_pos Zaa,ζb,bf];refine⟨by show(s.l++[(ag A e.message).to_]).length<=2;grind,λz=>?_⟩;have G:Ld t y (ag A e.message).to_:=(by rcases Y.to e.message I.1 I.2 with r|⟨W,a,c,m⟩;omega;exact⟨e,W,u,a,B,c,m.symm⟩);show z∈s.l++[(ag A e.message).to_]↔_;rw[mem_append,mem_singleton,w];constructor;rintro(h|rfl);exact⟨J,h.1,.inl h.2⟩;exact⟨J,let⟨_,f,_,a2,_⟩:=G;⟨f,a2⟩,.inr G⟩;rintro⟨_,a,c|c⟩;grind;grind;rw[b z w]at h;have⟨_,f,_,a2,_⟩:=w;have⟨q,i,_,n⟩:=dP.1 a2;grind;intro B;rw[bf,b7];refine⟨λh=>(by cases h),λ_=>(bf _).2 (no λ⟨z,W,f,a1,_,a3,_⟩=>?_)⟩;cases Bl a1 u rfl;grind
 unfold kj;rw[D,gY,O,ζb,b7];rw[D]at j;constructor
 .intro h;have h:y.index<len P.events:=by grind
  have B:k+1<P.events.l.length:=Zac
  refine j _ (by simp[Sl.l]) λz=>?_
  have U:wrap .i64 (y.index+1)=y.index+1:=fV _ Zaa Zaa
  simp only[Sl.l,mem_singleton,U];refine⟨λw=>⟨⟨P.events.l[k+1],dP.2 ⟨p,k+1,⟨P,O,ζd B⟩,?_⟩⟩,w⟩,λw=>w.2⟩
  grind
 intro h;have h:¬y.index<len P.events:=Zac
 refine j _ (by simp[Sl.l]) λz=>⟨λw=>by simp[Sl.l]at w,λ⟨w,v⟩=>?_⟩
 have⟨q,i,f,⟨Q,E,n⟩,F,_⟩:=w.at_
 grind
structure Mg(t:Trace)(x:a_)(rest:Sl a_)(m:Mo a_ Bool)(U:a_->Prop):Prop where
 rst:∀y∈rest.l,y=x\/Way t x y
 keys:(m.map (·.1)).Nodup
 seen:∀y∈m,Way t x y.1/\y.1≠x/\y.2=true
 le:rest.l.length<=m.length+1
 done:∀y,y=x\/y∈m.map (·.1)->y∈rest.l\/U y\/∀z,Edge t y z->z∈m.map (·.1)
theorem Mg.count{t:Z4}{x:a_}{rest:Sl a_}{m:Mo a_ X'}{U:a_->Prop}(h:Mg t x rest m U):m.length<=(bL t).length:=by
 have:=Br (r:=(bL t).map (·.1)) h.keys λx u=>by obtain⟨y,w,rfl⟩:=mem_map.1 u;have⟨e,z⟩:=(h.seen y w).1.r;grind
 grind
theorem Rg{t:Z4}(E:Small t)(hN:(bL t).length<1073741824)(V:∀x∈bL t,mQ t.procs.l.length x.1.proc x.2){A:b9 200 bB}(hA:fR t (bL t) A):Wp (jw t A) λr=>(r.2=true↔N1 t):=by
 unfold jw j_;rw[ζb];unfold jw.E1;rw[vf E,ζb];refine Ay (λk _=>∀x∈(bL t).take k,¬Way t x.1 x.1) Zab ?_ λ_ h=>(bf _).2 ⟨λh=>(by cases h),λ⟨x,g⟩=>?_⟩
 .intro i x _ g aq;have af:x∈bL t:=mem_of_getElem? g;refine Wp.mono (P:=λw=>match w with|.n s=>¬Way t x.1 x.1|.x e=>False|.r e=>N1 t) ?_ λw j=>by cases w with|n s=>intro y d;rw[take_add_one,g]at d;grind|x e=>grind|r b=>exact(bf _).2 ⟨λ_=>j,λ_=>rfl⟩
  refine fE (λq:Sl a_×Mo a_ X'=>Mg t x.1 q.1 q.2 λ_=>False) (λq=>2*((bL t).length-q.2.length)+q.1.l.length) ⟨λy d=>.inl (by simpa[Sl.l]using d),Zab,Zab,by simp[Sl.l],λy d=>.inl ?_⟩ ?_;simpa[Sl.l]using d;rintro⟨rest,m⟩ L;unfold jw.bH;rw[b7];refine⟨λh=>?_,λh=>(bf _).2 ((bf _).2 λj=>?_)⟩
  .have G:0<rest.l.length:=by grind
   have hc:=L.count;have au:=L.le;have j:wrap .i64 ((len rest)-1)=(rest.l.length-1:Nat):=by rw[fV _ Zac Zac];grind
   have I:rest.l.length-1<rest.l.length:=Zaa;rw[j];have h1:Sl.lW rest (rest.l.length-1:Nat)=some (rest.l.length-1):=by unfold Sl.lW;grind
   have h2:Sl.get rest (rest.l.length-1)=some rest.l[rest.l.length-1]:=by unfold Sl.get;grind
   obtain⟨cut,h3,h4⟩:∃x,qQ rest none (some ((rest.l.length-1:Nat):Int))=some x/\x.l=rest.l.take (rest.l.length-1):=by cases rest with|nil=>simp[Sl.l]at G|emp=>simp[Sl.l]at G|row l=>simp only[Sl.l]at G⊢;unfold qQ ez;simp_all|part l=>simp[Sl.l]at G⊢;unfold qQ ez;simp_all
   rw[h1,ζb,h2,ζb,h3,ζb,eA];generalize ah:rest.l[rest.l.length-1]=y;have ai:y∈rest.l:=ah▸getElem_mem I;have O:∀z,z∈rest.l->z∈cut.l\/z=y:=λz c=>by have:rest.l.take (rest.l.length-1)++rest.l.drop (rest.l.length-1)=rest.l:=take_append_drop ..;rw[<-this]at c;rcases mem_append.1 c with c|c;grind;rw[drop_eq_getElem_cons I,drop_of_length_le Zaa]at c;grind
   have F:=L.rst _ ai;have aj:=F.elim (λe=>⟨x.2,e▸af⟩) Way.r;refine(UW E V hA aj).mono λs H=>?_;refine fE (λq:Sl a_×Int×Mo a_ X'=>∃n:Nat,q.2.1=n/\n<=s.l.length/\Mg t x.1 q.1 q.2.2 (λu=>u=y)/\(∀z∈s.l.take n,z∈q.2.2.map (·.1))/\2*((bL t).length-q.2.2.length)+q.1.l.length<2*((bL t).length-m.length)+rest.l.length) (λq=>s.l.length-q.2.1.toNat)
    ⟨0,rfl,zero_le _,⟨λz c=>L.rst z Zac,L.keys,L.seen,Zac,λu f=>?_⟩,Zab,Zac⟩ ?_
   .rcases L.done u f with h|h|h;exact(O u h).imp_right .inl;exact h.elim;exact .inr (.inr h)
   rintro⟨C,i2,W⟩ ⟨n,rfl,hn,B,J,o⟩;simp only at B o J;unfold jw.fh;rw[b7];constructor
   .intro h;have X:n<s.l.length:=(by simpa[len]using h);have K:=(H.2 s.l[n]).1 (getElem_mem X);have Q:Way t x.1 s.l[n]:=F.elim (λe=>.single (e▸K)) λh=>.tail h K;rw[bz X,ζb,b7];refine⟨λZ=>(bf _).2 ((bf _).2 ((bf _).2 ⟨x.1,?_⟩)),λS=>?_⟩;have:s.l[n]=x.1:=(by unfold Oc at Z;revert Z;cases s.l[n];cases x.1;intro Z;simpa using Z);rw[this]at Q;exact Q;have S:s.l[n]≠x.1:=λe=>(by rw[e]at S;simp[Oc]at S);have T:=cr n Zaa;have M:s.l.take (n+1)=s.l.take n++[s.l[n]]:=(by rw[take_add_one,ζd X];rfl);rw[b7];refine⟨λp=>(bf _).2 ⟨⟨n+1,T,Zaa,B,λz c=>?_,o⟩,by show _-(wrap .i64 ((n:Int)+1)).toNat<_;rw[T];simp;omega⟩,λY=>?_⟩;rw[M]at c;rcases mem_append.1 c with c|c;exact J z c;simp[mem_singleton]at c;subst c;apply byContradiction;intro hk;unfold pE at p;rw[Gk hk]at p;cases p;have av:=B.count;have ar:=B.le;unfold fu;rw[if_pos (show C.l.length+1<=2147483648 from Zaa),ζb,bf];have D:s.l[n]∉W.map (·.1):=λak=>(by have⟨v,hv,al⟩:=Ii ak;have:=(B.seen _ al).2.2;simp only at this;subst this;unfold pE at Y;rw[hv]at Y;cases Y);have U:∀z,z∈(nK W s.l[n] true).map (·.1)↔z∈W.map (·.1)\/z=s.l[n]:=λz=>(by rw[t_ D,map_append,mem_append];simp);have N:Mg t x.1 (.row (C.l++[s.l[n]])) (nK W s.l[n] true) (λu=>u=y):=(by refine⟨λy d=>?_,?_,λy d=>?_,?_,λu f=>?_⟩;simp[Sl.l,mem_singleton]at d;rcases d with d|rfl;exact B.rst y d;exact .inr Q;rw[t_ D,map_append,List.nodup_append];refine⟨B.keys,Zab,λa ha b R=>?_⟩;simp[mem_singleton]at R;subst R;exactλe=>D (e▸ha);rw[t_ D]at d;rcases mem_append.1 d with d|d;exact B.seen y d;simp[mem_singleton]at d;subst d;exact⟨Q,S,rfl⟩;rw[t_ D];show(C.l++[s.l[n]]).length<=_;rw[ζi,ζi,length_singleton,length_singleton];omega;simp only[Sl.l,mem_append,mem_singleton];have old:u=x.1\/u∈W.map (·.1)->(u∈C.l\/u=s.l[n])\/u=y\/∀z,Edge t u z->z∈(nK W s.l[n] true).map (·.1):=λf=>(by rcases B.done u f with h|h|h;exact .inl (.inl h);exact .inr (.inl h);exact .inr (.inr λz c=>(U z).2 (.inl (h z c))));rcases f with f|f;exact old (.inl f);rcases(U u).1 f with f|f;exact old (.inr f);exact .inl (.inr f));have am:=N.count;refine⟨⟨n+1,T,Zaa,N,λz c=>?_,?_⟩,by show _-(wrap .i64 ((n)+1)).toNat<_;rw[T];simp;omega⟩;rw[M]at c;rcases mem_append.1 c with c|c;exact(U z).2 (.inl (J z c));exact(U z).2 (.inr (by simpa using c));rw[t_ D,ζi,length_singleton]at am;show 2*((bL t).length-(nK W s.l[n] true).length)+(C.l++[s.l[n]]).length<_;rw[t_ D,ζi,ζi,length_singleton,length_singleton];omega
   intro h;have an:s.l.length<=n:=by simpa[len]using h
   rw[List.take_of_length_le an]at J;refine(bf _).2 ((bf _).2 ⟨⟨B.rst,B.keys,B.seen,B.le,λu f=>?_⟩,o⟩);rcases B.done u f with h|h|h;exact .inl h;subst h;exact .inr (.inr λz c=>J z ((H.2 z).2 c));exact .inr (.inr h)
  have ao:rest.l=[]:=by have:¬len rest>0:=(by simpa using h);simp[len]at this;exact this
  have hd:∀y,y=x.1\/y∈m.map (·.1)->∀z,Edge t y z->z∈m.map (·.1):=λy d=>by rcases L.done y d with h|h|h;simp only[ao]at h;cases h;exact h.elim;exact h
  have key:∀z,Way t x.1 z->z∈m.map (·.1):=λz c=>by induction c with|single h=>exact hd _ (.inl rfl) _ h|tail _ h ih=>exact hd _ (.inr ih) _ h
  have⟨y,d,ap⟩:=mem_map.1 (key _ j);exact(L.seen y d).2.1 ap
 have⟨e,Z⟩:=g.l;rw[take_length]at h;exact absurd g (h _ Z)
structure Ok(t:Trace):Prop where
 one:1<=t.procs.l.length
 few:t.procs.l.length<=8
 heads:∀p,p<t.procs.l.length->ta t p=0
 f_:∀(p k:Nat)P e,t.procs.l[p]?=some P->P.events.l[k]?=some e->pZ t.procs.l.length P p k e=0
 Am:AD t
 acyc:¬N1 t
theorem IS{t:Z4}(h:∀(p k:Nat)P e,t.procs.l[p]?=some P->P.events.l[k]?=some e->pZ t.procs.l.length P p k e=0):∀x∈bL t,mQ t.procs.l.length x.1.proc x.2:=λx w=>by have⟨p,k,⟨P,z,B⟩,u⟩:=dP.1 w;rw[u];exact Lc (h p k P _ z B)
structure VT(t:Trace):Prop where
 formed:∀x∈bL t,mQ t.procs.l.length x.1.proc x.2
 msgs:∃A i,fm t=some (some A,i,0)/\fR t (bL t) A
 few:t.procs.l.length<=8
 ok:Ok t
theorem Uu{t:Z4}(b:Small t)(U:(bL t).length<1073741824):Wp (ja t) λr=>(r.2=0->VT t)/\(Ok t->r.2=0):=by
 unfold ja;rw[q_,ζb,b7];refine⟨λD=>?_,λD=>(bf _).2 ⟨λh=>Zaa,λh=>?_⟩⟩;rotate_left;have q:=h.one;have C:=h.few;grind;have C:1<=t.procs.l.length/\t.procs.l.length<=8:=by grind
 unfold ja.W1;refine fE (λi:Int=>∃n:Nat,i=n/\n<=t.procs.l.length/\∀p,p<n->ta t p=0) (λi:Int=>t.procs.l.length-i.toNat) ⟨0,rfl,zero_le _,λp G=>absurd G Zaa⟩ ?_;rintro i ⟨n,rfl,s,W⟩;unfold ja.bh;rw[b7];constructor;intro h;have u:n<t.procs.l.length:=by grind
 rw[Uq b u,ζb,b7];refine⟨λa=>(bf _).2 ⟨⟨n+1,cr n Zaa,Zaa,λp G=>?_⟩,by rw[cr n Zaa];simp;omega⟩,λa=>(bf _).2 ((bf _).2 ⟨λh=>?_,λh=>?_⟩)⟩;grind;grind;simp[h.heads n u]at a;intro h;have X:t.procs.l.length<=n:=Zac;rw[bf];unfold j_;rw[ζb];unfold ja.E2;rw[vf b,ζb];refine Ay (λi _=>∀(p k:Nat)P e,t.procs.l[p]?=some P->P.events.l[k]?=some e->(⟨p,k+1⟩,e)∈(bL t).take i->pZ t.procs.l.length P p k e=0) Zab ?_ ?_;intro i x _ S w;have I:=mem_of_getElem? S;have⟨p,j,⟨P,z,B⟩,J⟩:=dP.1 I;unfold ja.N3;rw[J,Ss b z B,ζb,b7];refine⟨λa=>(bf _).2 λp' v y E Y Z g=>?_,λa=>(bf _).2 ((bf _).2 ⟨λh=>?_,λh=>?_⟩)⟩;rw[take_add_one,S]at g;grind;grind;simp[h.f_ p j P _ z B]at a;intro _ w;have w:∀(p k:Nat)P e,t.procs.l[p]?=some P->P.events.l[k]?=some e->pZ t.procs.l.length P p k e=0:=λp k P e z B=>w p k P e z B (by rw[take_length];exact dP.2 ⟨p,k,⟨P,z,B⟩,rfl⟩);have L:=IS w;have⟨r,l,m,O⟩:=Gy b L;rw[l,ζb,b7];refine⟨λa=>?_,λa=>(bf _).2 ⟨λh=>?_,λh=>O h.Am⟩⟩;have a:=by simpa using a
 have⟨A,o,d⟩:=m a;rw[o,ζb];have⟨c,f,Q⟩:=Rg b U L d;rw[f,ζb,b7];refine⟨λT=>(bf _).2 ⟨λh=>Zaa,λh=>absurd (Q.1 T) h.acyc⟩,λT=>(bf _).2 ⟨λ_=>?_,λ_=>rfl⟩⟩;exact⟨L,⟨A,r.2.1,Zac,d⟩,C.2,C.1,C.2,λp G=>W p Zaa,w,d.Am,λf=>Zac⟩;simp_all
theorem TJ{t:Z4}(a:Small t)(B:(bL t).length<1073741824):Wp (cG t) λb=>(b=true->VT t)/\(Ok t->b=true):=by unfold cG;rw[eA];exact(Uu a B).mono λr c=>(bf _).2 ⟨λh=>c.1 Zac,λh=>Zac⟩
def en(q:Int)(e:WF):X':=e.kind==2&&e.peer==q
def Ao(p:Int)(e:WF):X':=e.kind==3&&e.peer==p
def under(t:Z4)(c:Rd)(p q:Nat):Int:=match t.procs.l[p]?,t.procs.l[q]?,c[p]?,c[q]?with
 |some P,some Q,some a,some b=>((P.events.l.take a.toNat).countP (en q):Int)-((Q.events.l.take b.toNat).countP (Ao p):Int)|_,_,_,_=>0
theorem Ip{t:Z4}(f:Small t)(g:cG t=some true){A:b9 200 bB}(c:fR t (bL t) A){x:a_×WF}(B:x∈bL t)(d:x.2.kind=2):r_ t x.2.message=some (x.1,true):=by
 refine Wp.eq ?_;unfold r_ jg;rw[g,ζb,bt];unfold j_;rw[ζb];unfold jg.E1;rw[vf f,ζb,eA];refine Ay (λk _=>∀y∈(bL t).take k,¬(y.2.kind=2/\y.2.message=x.2.message)) Zab ?_ ?_;intro k y _ C u;have w:y∈bL t:=mem_of_getElem? C;unfold jg.kV;rw[oM,ζb,b7];constructor;intro a;have a:y.2.kind=2/\y.2.message=x.2.message:=by simpa using a
 refine(bf _).2 ((bf _).2 ((bf _).2 ?_));have e:=c.snd y w a.1;have D:=c.snd x B d;rw[a.2,D]at e;rw[e];intro a;have a:¬(y.2.kind=2/\y.2.message=x.2.message):=by intro h;rw[h.1,h.2]at a;simp at a
 rw[bf];intro z b;rw[take_add_one,C]at b;rcases mem_append.1 b with b|b;exact u z b;simp at b;subst b;exact a;intro _ u;rw[take_length]at u;exact absurd ⟨d,rfl⟩ (u x B)
def rM(t:Z4)(c:Rd):Prop:=c.length=t.procs.l.length/\∀(p:Nat)(a:Int)(P:bR),c[p]?=some a->t.procs.l[p]?=some P->0<=a/\a<=P.events.l.length
def oO(t:Z4)(A:b9 200 bB)(c:Rd):Prop:=∀(p k:Nat)(e:WF)(a:Int),nC t p k e->c[p]?=some a->(k:Int)<a->e.kind=3->∃b,c[(ag A e.message).from_.proc.toNat]?=some b/\(ag A e.message).from_.index<=b
theorem ER{t:Z4}(c:VT t){A:b9 200 bB}(a:fR t (bL t) A){p k:Nat}{e:WF}(J:nC t p k e)(d:e.kind=3):
 ∃(q j:Nat)(y:WF),nC t q j y/\y.kind=2/\y.message=e.message/\y.peer=p/\e.peer=q/\(ag A e.message).from_=⟨q,j+1⟩:=by
 have u:((⟨p,k+1⟩:a_),e)∈bL t:=dP.2 ⟨p,k,J,rfl⟩;have z:=(a.rcv _ u d).2;have C:=c.formed _ u;simp only at z C;have B:0<=e.peer:=by rcases C with h|⟨_,h,_⟩;omega;exact h
 obtain⟨q,D⟩:∃q:Nat,e.peer=q:=⟨e.peer.toNat,Zaa⟩
 rw[D]at z;have⟨j,y,w,b,G,I⟩:=A7.1 z;have:=a.snd (⟨q,j+1⟩,y) (dP.2 ⟨q,j,w,rfl⟩) b;simp only at this;rw[G]at this;exact⟨q,j,y,w,b,G,I,D,this⟩
def ade(t:Z4)(A:b9 200 bB)(c:Rd)(s u:a_):Prop:=∃(p k:Nat)(e:WF)(a:Int)(q j:Nat)(y:WF)(b:Int),nC t p k e/\c[p]?=some a/\(k:Int)<a/\e.kind=3/\(ag A e.message).from_=s/\s=⟨q,j+1⟩/\nC t q j y/\c[q]?=some b/\b<(j:Int)+1/\u=⟨p,k+1⟩
theorem YL{t:Z4}(v:Small t)(P:cG t=some true)(E:VT t){A:b9 200 bB}(F:fR t (bL t) A){c:Zg}(H:rM t c.l):Wp (i_ t c) λr=>(r.2.2=false->oO t A c.l)/\(r.2.2=true->ade t A c.l r.1 r.2.1):=by
 have ah:=E.few;unfold i_ i_.W1;refine fE (λs:Int=>∃n:Nat,s=n/\n<=c.l.length/\∀(p k:Nat)(e:WF)(a:Int),p<n->nC t p k e->c.l[p]?=some a->(k:Int)<a->e.kind=3->∃b,c.l[(ag A e.message).from_.proc.toNat]?=some b/\(ag A e.message).from_.index<=b) (λs:Int=>c.l.length-s.toNat) ⟨0,rfl,zero_le _,λp k e a h=>absurd h Zaa⟩ ?_;rintro s ⟨n,rfl,hn,K⟩;have ai:=H.1;unfold i_.bh;rw[b7];constructor;intro h;have C:n<c.l.length:=by simpa[len]using h
 have B:n<t.procs.l.length:=Zaa;have hP:=(v.2 _ (getElem_mem B)).1;have⟨r1,r2⟩:=H.2 n _ _ (ζd C) (ζd B);rw[bz C,ζb,bz B,ζb];have⟨y,M,T⟩:=uO t.procs.l[n].events c.l[n].toNat Zaa;rw[show((c.l[n].toNat:Nat):Int)=c.l[n]from Zaa]at M;rw[M,ζb];unfold i_.W2;refine fE (λs:Int=>∃m:Nat,s=m/\m<=y.l.length/\∀(k:Nat)(e:WF),k<m->nC t n k e->e.kind=3->∃b,c.l[(ag A e.message).from_.proc.toNat]?=some b/\(ag A e.message).from_.index<=b) (λs:Int=>y.l.length-s.toNat) ⟨0,rfl,zero_le _,λk e h=>absurd h Zaa⟩ ?_;rintro s ⟨m,rfl,hm,i⟩;have af:y.l.length=c.l[n].toNat:=by rw[T,length_take];omega
 unfold i_.bH;rw[b7];constructor;intro h;have I:m<y.l.length:=by simpa[len]using h
 have D:=cr m Zaa;have U:y.l.length-(wrap .i64 ((m:Int)+1)).toNat<y.l.length-((m:Int)).toNat:=by rw[D];simp;omega
 have R:y.l[m]?=t.procs.l[n].events.l[m]?:=by rw[T,getElem?_take,if_pos (show m<c.l[n].toNat from Zaa)]
 have u:nC t n m y.l[m]:=⟨_,ζd B,by rw[<-R];exact ζd I⟩;rw[bz I,ζb];generalize y.l[m]=e at u;rw[b7];constructor;intro d;have d:e.kind=3:=by simpa using d
 have⟨q,j,z,l,V,z2,z3,z4,z5⟩:=ER E F u d;have J:=Ip v P F (x:=(⟨q,j+1⟩,z)) (dP.2 ⟨q,j,l,rfl⟩) V;simp only at J;rw[z2]at J;have ab:=l;have⟨Q,hQ,_⟩:=l;have L:q<c.l.length:=by have:=(ζe.1 hQ).1;omega
 rw[J,ζb];simp only;rw[bz L,ζb,b7];constructor;intro W;have W:(j:Int)+1>c.l[q]:=by simpa using W
 exact(bf _).2 ((bf _).2 ((bf _).2 ⟨λh=>(by cases h),λ_=>⟨n,m,e,c.l[n],q,j,z,c.l[q],u,ζd C,Zaa,d,z5,rfl,ab,ζd L,Zaa,by simp[D]⟩⟩));intro X;have X:¬((j:Int)+1>c.l[q]):=by simpa using X
 refine(bf _).2 ⟨⟨m+1,D,Zaa,λk Y ad w G=>?_⟩,U⟩;by_cases o:k=m;subst o;have:Y=e:=by have⟨P1,a1,a2⟩:=u;have⟨P2,Z,f⟩:=w;rw[a1]at Z;cases Z;rw[a2]at f;cases f;rfl
 subst this;rw[z5];exact⟨c.l[q],by simp only[toNat_natCast];exact ζd L,by simp only;omega⟩;exact i k Y Zaa w G;intro d;have d:¬e.kind=3:=by simpa using d
 refine(bf _).2 ⟨⟨m+1,D,Zaa,λk Y ad w G=>?_⟩,U⟩;by_cases o:k=m;subst o;have:Y=e:=by have⟨P1,a1,a2⟩:=u;have⟨P2,Z,f⟩:=w;rw[a1]at Z;cases Z;rw[a2]at f;cases f;rfl
 subst this;exact absurd G d;exact i k Y Zaa w G;intro h;have ae:y.l.length<=m:=by simpa[len]using h
 have N:=cr n Zaa;refine(bf _).2 ((bf _).2 ⟨⟨n+1,N,Zaa,λp k e a hp u S O g=>?_⟩,by show _-(wrap .i64 ((n:Int)+1)).toNat<_;rw[N];simp;omega⟩);by_cases ep:p=n;subst ep;rw[ζd C]at S;cases S;exact i k e Zaa u g;exact K p k e a Zaa u S O g;intro h;have ae:c.l.length<=n:=by simpa[len]using h
 refine(bf _).2 ((bf _).2 ⟨λ_ p k e a u S O g=>K p k e a (by have:=(ζe.1 S).1;omega) u S O g,λh=>(by cases h)⟩)
theorem Fp{t:Z4}(f:Small t)(g:cG t=some true)(i:VT t){A:b9 200 bB}(l:fR t (bL t) A){c:Zg}(B:rM t c.l):Wp (i_ t c) λr=>(r.2.2=false↔oO t A c.l):=by refine(YL f g i l B).mono λr d=>⟨d.1,λm=>?_⟩;cases h:r.2.2 with|false=>rfl|true=>obtain⟨p,k,e,a,q,j,y,b,n,u,w,z,C,D,_,G,I,-⟩:=d.2 h;have⟨J,g1,g2⟩:=m p k e a n u w z;rw[C,D]at g1 g2;simp only[toNat_natCast]at g1 g2;rw[G]at g1;cases g1;omega
theorem yF{s:Zb}{p:Zg->aY X'}{f:Zg->X'}(hp:∀x∈s.l,p x=some (f x))(B:s.l.length<1073741824):jv s p=some (s.l.any f):=by have h:iD s p=some (place f s.l):=uN hp Zaa (λi=>rfl);unfold jv;rw[h,ζb,uw]
theorem F9{t:Z4}(d:Small t){c:Zg}(D:c.l.length=t.procs.l.length):Wp (lC t c) λb=>(b=true↔rM t c.l):=by
 have f:=d.1;unfold lC lC.W1;refine fE (λs:Int=>∃n:Nat,s=n/\n<=c.l.length/\∀(p:Nat)(a:Int)(P:bR),p<n->c.l[p]?=some a->t.procs.l[p]?=some P->0<=a/\a<=P.events.l.length) (λs:Int=>c.l.length-s.toNat) ⟨0,rfl,zero_le _,λp a P h=>absurd h Zaa⟩ ?_;rintro s ⟨n,rfl,O,G⟩;unfold lC.bh;rw[b7];constructor;intro h;have w:n<c.l.length:=by simpa[len]using h
 have u:n<t.procs.l.length:=Zaa;have I:=cr n Zaa;rw[bz w,ζb,bz u,ζb,mP,ζb,b7];constructor;intro z;have z:c.l[n]<0\/c.l[n]>t.procs.l[n].events.l.length:=by simpa[len]using z
 refine(bf _).2 ((bf _).2 ⟨λh=>(by cases h),λJ=>?_⟩);have:=J.2 n _ _ (ζd w) (ζd u);omega;intro z;have z:0<=c.l[n]/\c.l[n]<=t.procs.l[n].events.l.length:=by simpa[len]using z
 refine(bf _).2 ⟨⟨n+1,I,Zaa,λp a P Q B C=>?_⟩,by rw[I];simp;omega⟩;by_cases e:p=n;subst e;rw[ζd w]at B;cases B;rw[ζd u]at C;cases C;exact z;exact G p a P Zaa B C;intro h;have L:c.l.length<=n:=by simpa[len]using h
 refine(bf _).2 ((bf _).2 ⟨λ_=>⟨D,λp a P B C=>G p a P (by have:=(ζe.1 B).1;omega) B C⟩,λ_=>rfl⟩)
def Code(t:Z4)(A:b9 200 bB)(c:Rd)(r:Int):Prop:=c.length≠t.procs.l.length/\r=1\/c.length=t.procs.l.length/\¬rM t c/\r=2\/rM t c/\¬oO t A c/\r=18\/rM t c/\oO t A c/\r=0
theorem QW{t:Z4}(a:Small t)(d:cG t=some true)(i:VT t){A:b9 200 bB}(j:fR t (bL t) A)(c:Zg):
 Wp (dw t (Sl.row [c]:Zb) (Sl.nil:Zg)) λr=>Code t A c.l r:=by
 unfold dw zA;rw[d,ζb,bt,yF (f:=λz=>(lQ z t).getD false) (λz _=>NJ.ok ((bf _).2 trivial)) (by simp[Sl.l]),ζb,ζb,ζb]
 have w:(!((Sl.row [c]:Zb).l.any λz=>(lQ z t).getD false))=(len c==len t.procs):=by simp[Sl.l,lQ]
 rw[w,b7];constructor
 .intro h;have B:c.l.length=t.procs.l.length:=by
   have:(c.l.length:Int)=t.procs.l.length:=by simpa[len]using h
   omega
  unfold dw.W1;refine fE (λs:Int=>s=0\/s=1/\rM t c.l) (λs:Int=>1-s.toNat) (.inl rfl) ?_
  intro s D;unfold dw.bh;rcases D with rfl|⟨rfl,G⟩
  .rw[show decide ((0:Int)<len (Sl.row [c]:Zb))=true from rfl,bt,show idx (Sl.row [c]:Zb) 0=some c from rfl,ζb,eA];refine(F9 a B).mono λb u=>?_
   rw[b7];exact⟨λI=>(bf _).2 ⟨.inr ⟨rfl,u.1 I⟩,by decide⟩,λC=>(bf _).2 ((bf _).2 (.inr (.inl ⟨B,λh=>(by rw[u.2 h]at C;cases C),rfl⟩)))⟩
  rw[show decide ((1:Int)<len (Sl.row [c]:Zb))=false from rfl,bA,bf];show Wp (dw.W2 (Sl.row [c]) Sl.nil 0 0 t) _;unfold dw.W2;refine fE (λs:Int=>s=0) (λ_=>0) rfl ?_
  rintro s rfl;unfold dw.bH;rw[show decide ((0:Int)<0)=false from rfl,bA,bf];show Wp (dw.W3 (Sl.row [c]) 1 0 t) _;unfold dw.W3;refine fE (λs:Int=>s=0\/s=1/\oO t A c.l) (λs:Int=>1-s.toNat) (.inl rfl) ?_
  intro s D;unfold dw.fh;rcases D with rfl|⟨rfl,k⟩
  .rw[show decide ((0:Int)<1)=true from rfl,bt,show idx (Sl.row [c]:Zb) 0=some c from rfl,ζb];unfold xP;rw[eA,eA];refine(Fp a d i j G).mono λr g=>?_
   rw[bf,b7];exact⟨λu=>(bf _).2 ⟨.inr ⟨rfl,g.1 (by simpa using u)⟩,by decide⟩,λu=>(bf _).2 ((bf _).2 (.inr (.inr (.inl ⟨G,λh=>(by have:=g.2 h;simp[this]at u),rfl⟩))))⟩
  rw[show decide ((1:Int)<1)=false from rfl,bA,bf];exact(bf _).2 (.inr (.inr (.inr ⟨G,k,rfl⟩)))
 intro h;exact(bf _).2 (.inl ⟨λe=>(by simp[len,e]at h),rfl⟩)
theorem Code.zero{t:Z4}{A:b9 200 bB}{c:Rd}{r:Int}(h:Code t A c r):r=0↔rM t c/\oO t A c:=by rcases h with⟨h,rfl⟩|⟨_,h,rfl⟩|⟨_,h,rfl⟩|⟨a,w,rfl⟩;exact⟨λh=>(by cases h),λu=>absurd u.1.1 h⟩;exact⟨λh=>(by cases h),λu=>absurd u.1 h⟩;exact⟨λh=>(by cases h),λu=>absurd u.2 h⟩;exact⟨λ_=>⟨a,w⟩,λ_=>rfl⟩
theorem TW{t:Z4}(a:Small t)(b:cG t=some true)(d:VT t){A:b9 200 bB}(e:fR t (bL t) A)(c:Zg):Wp (dw t (Sl.row [c]:Zb) (Sl.nil:Zg)) λr=>(r=0↔rM t c.l/\oO t A c.l):=(QW a b d e c).mono λ_ h=>h.zero
def Cons(t:Z4)(A:b9 200 bB)(c:Rd):Prop:=rM t c/\oO t A c
def places{α:Type}(f:α->X')(l:aX α):ST:=(range l.length).filter λk=>match l[k]?with|some x=>f x|none=>false
theorem O2{α:Type}{f:α->X'}{l:aX α}{k:Nat}:k∈places f l↔∃x,l[k]?=some x/\f x=true:=by unfold places;rw[List.mem_filter,mem_range];constructor;rintro⟨a,u⟩;rw[ζd a]at u;exact⟨_,ζd a,u⟩;rintro⟨x,a,u⟩;exact⟨(ζe.1 a).1,by rw[a];exact u⟩
theorem KM{α:Type}(f:α->X')(l:aX α):(places f l).Nodup:=List.nodup_range.sublist (List.filter_sublist ..)
theorem E8{α:Type}(f:α->X'):∀l:aX α,(places f l).length=l.countP f:=by intro l;unfold places;rw[<-List.countP_eq_length_filter];induction l with|nil=>rfl|cons x l u=>rw[length_cons,List.range_succ_eq_map,countP_cons,List.countP_map,countP_cons];simp only[List.getElem?_cons_zero];rw[<-u];congr 1
theorem H_{α β:Type}{f:α->X'}{g:β->X'}{l:aX α}{m:aX β}(φ:Nat->Nat)(h:∀k∈places f l,φ k∈places g m)(c:∀k B,k∈places f l->B∈places f l->φ k=φ B->k=B):l.countP f<=m.countP g:=by
 rw[<-E8,<-E8];have w:((places f l).map φ).Nodup:=by unfold Nodup;rw[pairwise_map];exact Pairwise.imp_of_mem (λ{a b}z C u D=>u (c a b z C D)) (KM f l)
 have:=Br (r:=places g m) w λx G=>by obtain⟨k,d,rfl⟩:=mem_map.1 G;exact h k d
 simpa using this
end Go.VE
namespace Go.VE
def mN(kind m:Int)(x:a_×WF):X':=x.2.kind==kind&&x.2.message==m
def gU(t:Z4)(kind m:Int):a_:=match(bL t).find? (mN kind m)with
 |some x=>x.1|none=>⟨0,0⟩
theorem PI{t:Z4}{kind m:Int}{p:Nat}{P:bR}(B:p<9223372036854775806)(D:t.procs.l[p]?=some P)(G:P.events.l.length<1073741824):∀(q i:Nat),i+q=P.events.l.length->
 bF (λq:Int=>dX.bH kind m p t ⟨0,0⟩ q) (i:Int)=some (match(jL p i (P.events.l.drop i)).find? (mN kind m)with|some x=>.r x.1|none=>.x ()):=by
 have u:idx t.procs (p:Int)=some P:=by rw[gY];exact D
 intro q
 induction q with
 |zero=>
  intro i a;rw[eP];unfold dX.bH;rw[u,ζb,show decide ((i:Int)<len P.events)=false from by simp[len];omega,bA,drop_of_length_le Zaa]
  rfl
 |succ q z=>
  intro i a;have w:i<P.events.l.length:=Zaa
  rw[eP];have C:dX.bH kind m p t ⟨0,0⟩ i=some (if mN kind m (⟨p,(i:Int)+1⟩,P.events.l[i])then .r ⟨p,(i:Int)+1⟩else .n ((i+1:Nat):Int)):=by unfold dX.bH;rw[u,ζb,show decide ((i:Int)<len P.events)=true from by simp[len];omega,bt,ζb,bz w,ζb,oM,ζb,cr i Zaa,vI];rfl
  rw[C,ζb,drop_eq_getElem_cons w];simp only[jL,List.find?_cons]
  cases I:mN kind m (⟨p,(i:Int)+1⟩,P.events.l[i])with
  |true=>rfl|false=>simp only[false_eq_true,if_false];exact z (i+1) Zaa
theorem O4{t:Z4}(a:Small t){kind m:Int}:∀(q p:Nat),p+q=t.procs.l.length->
 bF (λq:Int=>dX.bh kind m t ⟨0,0⟩ q) (p:Int)=some (match(gG p (t.procs.l.drop p)).find? (mN kind m)with|some x=>.r x.1|none=>.x ()):=by
 have b:=a.1;intro q
 induction q with
 |zero=>
  intro p w;rw[eP];unfold dX.bh;rw[show decide ((p:Int)<len t.procs)=false from by simp[len];omega,bA,drop_of_length_le Zaa]
  rfl
 |succ q z=>
  intro p w;have u:p<t.procs.l.length:=Zaa
  have B:bF (λq:Int=>dX.bH kind m p t ⟨0,0⟩ q) 0=some (match(jL p 0 t.procs.l[p].events.l).find? (mN kind m)with|some x=>.r x.1|none=>.x ()):=PI (t:=t) (kind:=kind) (m:=m) Zaa (ζd u) (a.2 _ (getElem_mem u)).1 (t.procs.l[p].events.l.length) 0 Zaa
  rw[eP];unfold dX.bh;rw[show decide ((p:Int)<len t.procs)=true from by simp[len];omega,bt]
  unfold dX.W2;rw[B,drop_eq_getElem_cons u];simp only[gG,find?_append]
  cases C:(jL p 0 t.procs.l[p].events.l).find? (mN kind m)with
  |some x=>rfl|none=>
   simp only[ζb,Fw.elim,Option.none_or];rw[cr p Zaa]
   exact z (p+1) Zaa
theorem find_eq{t:Z4}(a:Small t)(kind m:Int):dX t kind m=some (gU t kind m):=by unfold dX dX.W1;have u:bF (λq:Int=>dX.bh kind m t ⟨0,0⟩ q) 0=some (match(bL t).find? (mN kind m)with|some x=>.r x.1|none=>.x ()):=O4 a (kind:=kind) (m:=m) t.procs.l.length 0 Zaa;rw[u];unfold gU;cases(bL t).find? (mN kind m)<;>rfl
theorem yf{t:Z4}{kind m:Int}{x:a_×WF}(h:(bL t).find? (mN kind m)=some x):x∈bL t/\x.2.kind=kind/\x.2.message=m/\gU t kind m=x.1:=by have a:=List.find?_some h;simp only[mN,ζh,beq_iff_eq]at a;exact⟨List.mem_of_find?_eq_some h,a.1,a.2,by unfold gU;rw[h]⟩
theorem LK{t:Z4}{kind m:Int}{x:a_×WF}(B:x∈bL t)(a:x.2.kind=kind)(D:x.2.message=m):∃y,(bL t).find? (mN kind m)=some y:=by cases u:(bL t).find? (mN kind m)with|some y=>exact⟨y,rfl⟩|none=>rw[find?_eq_none]at u;exact absurd (u x B) (by simp[mN,a,D])
theorem Pz{t:Z4}{kind m:Int}(h:∀x∈bL t,¬(x.2.kind=kind/\x.2.message=m)):gU t kind m=⟨0,0⟩:=by
 unfold gU;have:(bL t).find? (mN kind m)=none:=by rw[find?_eq_none];intro x u;simp only[mN,ζh,beq_iff_eq];exact h x u
 rw[this]
theorem Wb{t:Z4}{p k:Nat}{e:WF}(h:nC t p k e)(a:k<9223372036854775807):wR t ⟨p,k+1⟩=some e:=by have⟨P,u,w⟩:=h;unfold wR;dsimp only;rw[show idx t.procs (p:Int)=some P from by rw[gY];exact u,ζb,show wrap .i64 ((k:Int)+1-1)=(k:Int)from by rw[fV _ Zaa Zaa];omega,show idx P.events (k:Int)=some e from by rw[gY];exact w];rfl
def yh(t:Z4)(x:a_×WF):Int:=if x.2.kind=1 then 0 else if gU t x.2.kind x.2.message=x.1 then(if x.2.kind=3 then(if u7 t x.2.peer x.2.message x.1.proc then 0 else 7)else 0)else 8
theorem RE{t:Z4}(b:Small t){p k:Nat}{e:WF}(h:nC t p k e)(U:mQ t.procs.l.length p e):jI t ⟨p,k+1⟩=some (yh t (⟨p,k+1⟩,e)):=by
 have d:k<1073741824:=by have⟨P,W,X⟩:=h;have:=(b.2 P (mem_of_getElem? W)).1;have:=(ζe.1 X).1;omega
 unfold jI yh;rw[Wb h Zaa,ζb];dsimp only;by_cases a:e.kind=1;rw[show(e.kind==1)=true from by simp[a],bt,if_pos a];rw[show(e.kind==1)=false from by simp[a],bA,if_neg a,find_eq b,ζb];have D:Oc (gU t e.kind e.message) ⟨p,(k:Int)+1⟩=decide (gU t e.kind e.message=⟨p,(k:Int)+1⟩):=by unfold Oc;rw[Bool.eq_iff_iff];cases gU t e.kind e.message;simp
 rw[D];by_cases w:gU t e.kind e.message=⟨p,(k:Int)+1⟩;rw[if_pos w,show decide (gU t e.kind e.message=⟨p,(k:Int)+1⟩)=true from by simpa using w,bt];by_cases B:e.kind=3;rw[if_pos B,show(e.kind==3)=true from by simp[B],bt];have G:0<=e.peer/\e.peer<t.procs.l.length:=by rcases U with h|⟨_,a,w,_⟩;exact absurd h a;exact⟨a,w⟩
 have O:e.peer.toNat<t.procs.l.length:=Zaa;have S:=ζd O;have Y:=(b.2 _ (getElem_mem O)).1;generalize Z:t.procs.l[e.peer.toNat]=Q at *;have I:idx t.procs e.peer=some Q:=by rw[Vv G.1];exact S
 have J:u7 t e.peer e.message p=Q.events.l.any λs=>s.kind==2&&s.message==e.message&&s.peer==p:=by unfold u7;rw[S]
 unfold jI.W1;refine Wp.eq (fE (λz:X'×Int=>∃m:Nat,z.2=m/\m<=Q.events.l.length/\z.1=(Q.events.l.take m).any λs=>s.kind==2&&s.message==e.message&&s.peer==p) (λz=>Q.events.l.length-z.2.toNat) ⟨0,rfl,zero_le _,rfl⟩ ?_);rintro⟨s,i⟩ ⟨m,c,f,C⟩;simp only at c C;subst c;unfold jI.bh;dsimp only;rw[I,ζb,b7];constructor;intro L;have u:m<Q.events.l.length:=by simpa[len]using L
 have T:=cr m Zaa;rw[ζb,bz u,ζb,oM,ζb,oM,ζb,mP,ζb,bf];refine⟨⟨m+1,T,Zaa,?_⟩,by show _-(wrap .i64 ((m:Int)+1)).toNat<_;rw[T];simp;omega⟩;show(s||_)=_;rw[take_add_one,ζd u,List.any_append,C];simp;intro L;have u:Q.events.l.length<=m:=by simpa[len]using L
 rw[List.take_of_length_le u]at C;refine(bf _).2 ?_;rw[J,<-C];cases s;exact(bf _).2 rfl;exact(bf _).2 rfl;rw[if_neg B,show(e.kind==3)=false from by simp[B],bA];rw[if_neg w,show decide (gU t e.kind e.message=⟨p,(k:Int)+1⟩)=false from by simpa using w,bA]
theorem Px{t:Z4}(J:∀x∈bL t,mQ t.procs.l.length x.1.proc x.2):(∀x∈bL t,yh t x=0)↔AD t:=by
 constructor;intro h;have key:∀x∈bL t,x.2.kind≠1->gU t x.2.kind x.2.message=x.1:=λx u a=>by have:=h x u;unfold yh at this;rw[if_neg a]at this;split at this;assumption;cases this
 refine⟨λx u y w z B C=>?_,λx u y w z B C=>?_,λx u z=>?_⟩;rw[<-key x u Zaa,<-key y w Zaa,z,B,C];rw[<-key x u Zaa,<-key y w Zaa,z,B,C];have:=h x u;unfold yh at this;rw[if_neg Zaa,if_pos (key x u Zaa),if_pos z]at this;split at this;assumption;cases this;intro h x u;unfold yh;by_cases k1:x.2.kind=1;rw[if_pos k1];rw[if_neg k1];have⟨y,w⟩:=LK u rfl rfl;have⟨D,G,y3,y4⟩:=yf w;have a:x.2.kind=2\/x.2.kind=3:=by rcases J x u with h|⟨h,_⟩;exact absurd h k1;exact h
 have I:gU t x.2.kind x.2.message=x.1:=by rw[y4];rcases a with a|a;exact h.snd y D x u (by rw[G,a]) a y3;exact h.rcv y D x u (by rw[G,a]) a y3
 rw[if_pos I];by_cases k3:x.2.kind=3;rw[if_pos k3,if_pos (h.has x u k3)];rw[if_neg k3]
theorem AF{t:Z4}(D:∀x∈bL t,mQ t.procs.l.length x.1.proc x.2)(G:AD t){z:a_}{f:WF}(B:(z,f)∈bL t)(a:f.kind=3):∃e,(gU t 2 f.message,e)∈bL t/\e.kind=2/\e.message=f.message:=by
 have h:=G.has _ B a;have I:0<=f.peer:=by rcases D _ B with h|⟨_,h,_⟩;grind;omega
 rw[show f.peer=(f.peer.toNat:Nat)from Zaa,A7]at h;have⟨k,e,u,b,w,_⟩:=h;have⟨y,C⟩:=LK (dP.2 ⟨_,k,u,rfl⟩:(⟨(f.peer.toNat:Nat),k+1⟩,e)∈bL t) b w;have⟨J,L,y3,y4⟩:=yf C;grind
theorem Ld.find{t:Z4}(G:∀x∈bL t,mQ t.procs.l.length x.1.proc x.2)(B:AD t){y z:a_}{f:WF}(h:Ld t y z)(D:(z,f)∈bL t):f.kind=3/\gU t 2 f.message=y:=by have⟨e,I,a,w,C,u,J⟩:=h;cases Bl w D rfl;have⟨L,a1,a2,a3⟩:=AF G B D u;exact⟨u,B.snd _ a1 _ a a2 C Zad⟩
theorem DK{t:Z4}(b:Small t)(J:∀x∈bL t,mQ t.procs.l.length x.1.proc x.2)(B:AD t){z:a_}(D:Vd t z):
 Wp (d_ t z) λs=>s.l.length<=2/\∀y,y∈s.l↔Edge t y z:=by
 obtain⟨p,k,f,w,rfl,u⟩:=D.at_;have d:k<1073741824:=by have⟨P,B,I⟩:=w;have:=(b.2 P (mem_of_getElem? B)).1;grind
 have j:∀s:Sl a_,s.l.length<=1->(∀y,y∈s.l↔Vd t y/\(⟨p,k+1⟩:a_)=⟨y.proc,y.index+1⟩)->Wp (d_.J1 s t ⟨p,k+1⟩) λs=>s.l.length<=2/\∀y,y∈s.l↔Edge t y ⟨p,k+1⟩:=by intro s Q C;unfold d_.J1;rw[Wb w Zaa,ζb,b7];constructor;intro G;have G:f.kind=3:=(by grind);rw[find_eq b,ζb];unfold fu;rw[if_pos Zaa,ζb,bf];refine⟨by show(s.l++[_]).length<=2;grind,λy=>?_⟩;show y∈s.l++[gU t 2 f.message]↔_;rw[mem_append,mem_singleton,C];have⟨e,a1,a2,a3⟩:=AF J B u G;constructor;rintro(h|rfl);exact⟨h.1,D,.inl h.2⟩;exact⟨⟨e,a1⟩,D,.inr ⟨e,f,a1,u,a2,G,a3⟩⟩;rintro⟨c,_,a|a⟩;grind;exact .inr (a.find J B u).2.symm;intro G;refine(bf _).2 ⟨Zaa,λy=>(C y).trans ⟨λh=>⟨h.1,D,.inl h.2⟩,λ⟨c,_,a⟩=>⟨c,a.elim id λa=>?_⟩⟩⟩;have:=(a.find J B u).1;grind
 unfold d_;rw[b7];constructor
 .intro h;have h:k+1>1:=by grind
  refine j _ (by simp[Sl.l]) λy=>?_
  have O:wrap .i64 (k+1-1)=k:=by rw[fV _ Zaa Zaa];omega
  simp only[Sl.l,mem_singleton,O,a_.mk.injEq];constructor
  .rintro rfl;have⟨P,B,I⟩:=w;have:=(ζe.1 I).1;exact⟨⟨P.events.l[k-1],dP.2 ⟨p,k-1,⟨P,B,ζd Zaa⟩,by simp;omega⟩⟩,rfl,rfl⟩
  simp_all
 intro h;refine j _ (by simp[Sl.l]) λy=>⟨λL=>by simp[Sl.l]at L,λ⟨L,I⟩=>?_⟩
 obtain⟨q,i,f,_,rfl,_⟩:=L.at_
 grind
theorem aaA{α:Type}{r:α->α->Prop}{x:α}(h:Acc r x):¬TransGen r x x:=by induction h with|intro x _ u=>intro h;cases h with|single h=>exact u x h (.single h)|tail h1 w=>exact u _ w (TransGen.trans (.single w) h1)
theorem Nl:∀{d:ST}{i k:Nat},d[i]?=some k->(d.set i (k+1)).sum=d.sum+1
 |[],_,_,h=>Zad|x::d,0,k,h=>Zac|x::d,i+1,k,h=>by have:=Nl (d:=d) (i:=i) (k:=k) Zac;grind
theorem SN:∀{d l:ST},d.length=l.length->(∀(i a b:Nat),d[i]?=some a->l[i]?=some b->a<=b)->d.sum<=l.sum
 |[],_,_,_=>Zab|x::d,[],h,_=>Zad|x::d,y::l,h,B=>by have c:=B 0 x y rfl rfl;have u:=SN (d:=d) (l:=l) Zac λi a b w z=>B (i+1) a b Zac Zac;simp;omega
def nI(d:ST):Rd:=d.map Int.ofNat
def sI(s:Zg):Nat:=(s.l.map toNat).sum
theorem JQ(d:ST):sI (.row (nI d))=d.sum:=by unfold sI nI;rw[show(Sl.row (d.map Int.ofNat)).l=d.map Int.ofNat from rfl,List.map_map,show(toNat ∘ Int.ofNat)=id from rfl,List.map_id]
theorem QO(d:ST):(nI d).length=d.length:=by simp[nI]
structure Kh(t:Trace)(d:List Nat):Prop where
 len:d.length=t.procs.l.length
 le:∀(p k:Nat)P,d[p]?=some k->t.procs.l[p]?=some P->k<=P.events.l.length
 acc:∀(p k j:Nat),d[p]?=some k->j<k->Acc (Edge t) ⟨p,j+1⟩
def rB(t:Z4):Nat:=(t.procs.l.map λP=>P.events.l.length).sum
theorem Kh.sum{t:Z4}{d:ST}(h:Kh t d):d.sum<=rB t:=SN (by simp[h.len]) λi a b z u=>by cases w:t.procs.l[i]?with|none=>grind|some P=>simp[w]at u;rw[<-u];exact h.le i a P z w
theorem FV{d:ST}{p:Nat}(h:p<d.length):Sl.lW (.row (nI d)) (p:Int)=some p:=by unfold Sl.lW;rw[if_pos ⟨Zaa,by simpa[Sl.l,QO]using h⟩];rfl
theorem BW{d:ST}{p k:Nat}(h:d[p]?=some k):Sl.get (.row (nI d)) p=some (k:Int):=by unfold Sl.get nI;rw[show(Sl.row (d.map Int.ofNat)).l=d.map Int.ofNat from rfl,getElem?_map,h];rfl
def Mv(t:Z4)(B:ST)(s:Zg)(b:X')(d:ST):Prop:=s=.row (nI d)/\Kh t d/\B.sum<=d.sum/\(b=true->B.sum<d.sum)
def KQ(t:Z4)(B:ST)(p:Nat)(w:Fw (Zg×X'×Int) (Zg×X') Empty):Prop:=∃u z C,w=.n (u,z,((p+1:Nat):Int))/\Mv t B u z C
theorem XS{t:Z4}(g:Small t)(m:∀x∈bL t,mQ t.procs.l.length x.1.proc x.2)(n:AD t){B o:ST}{s:Zg}{b:X'}{p:Nat}(hp:p<t.procs.l.length)(A:Mv t B s b o):
 Wp (eV.W3 s b p t) (KQ t B p):=by
 have Y:=bz hp;have hn:=g.1;have af:=(g.2 _ (getElem_mem hp)).1;have C:=ζd hp;generalize t.procs.l[p]=P at *;refine fE (λq:Zg×X'=>∃d,Mv t B q.1 q.2 d) (λq=>rB t-sI q.1) ⟨o,A⟩ ?_
 rintro⟨s,b⟩ ⟨d,rfl,u,hd,E⟩;have w:p<d.length:=by rw[u.len];omega
 have a:=ζd w;generalize d[p]=k at a;have ah:=u.le p k P a C;have stop:∀{W:Empty->Prop},Wp (some (Fw.x (Sl.row (nI d),b))) (WK (λq:Zg×X'=>∃d,Mv t B q.1 q.2 d) (λq=>rB t-sI q.1) (λe=>Wp (some (Fw.n (e.1,e.2,wrap .i64 (p+1)))) (KQ t B p)) W (Sl.row (nI d),b)):=by refine(bf _).2 ((bf _).2 ⟨_,_,d,?_,rfl,u,hd,E⟩);rw[cr p Zaa]
 unfold eV.fh;rw[FV w,ζb,BW a,ζb,Y,ζb,b7];refine⟨λh=>?_,λ_=>stop⟩
 have D:k<P.events.l.length:=Zac
 have Z:nC t p k P.events.l[k]:=⟨P,C,ζd D⟩;have z:(⟨p,k+1⟩,P.events.l[k])∈bL t:=dP.2 ⟨p,k,Z,rfl⟩;have go:(P.events.l[k].kind=3->∀q j:Nat,gU t 2 P.events.l[k].message=⟨q,j+1⟩->∃X,d[q]?=some X/\j<X)->∀{r:Zg×X'->Prop}{W:Empty->Prop},Wp (eV.J4 (.row (nI d)) p t) (WK (λq:Zg×X'=>∃d,Mv t B q.1 q.2 d) (λq=>rB t-sI q.1) r W (Sl.row (nI d),b)):=by intro F r W;unfold eV.J4;rw[FV w,ζb,BW a,ζb,ζb];unfold Sl.put;rw[if_pos (by simpa[Sl.l,QO]using w),ζb,bf];have G:(nI d).set p (wrap .i64 ((k:Int)+1))=nI (d.set p (k+1)):=(by rw[cr k Zaa];unfold nI;simp_all);have I:=Nl a;have J:Kh t (d.set p (k+1)):=(by refine⟨by simp[u.len],λq i Q c v=>?_,λq i j c H=>?_⟩;rw[getElem?_set]at c;split at c;grind;exact u.le q i Q c v;rw[getElem?_set]at c;split at c;rename_i e;subst e;cases c;by_cases K:j<k;exact u.acc p k j a K;have:j=k:=Zaa;subst this;refine Acc.intro _ λy M=>?_;obtain⟨L,_,l|l⟩:=M;obtain⟨q,i,f,_,rfl,_⟩:=L.at_;simp[a_.mk.injEq]at l;have e1:q=p:=(by omega);subst e1;exact u.acc q j i a Zaa;have⟨O,N⟩:=l.find m n z;obtain⟨q,i,f,_,rfl,_⟩:=L.at_;have⟨X,R,V⟩:=F O q i N;exact u.acc q X i R V;exact u.acc q i j c H);have ai:=J.sum;refine⟨⟨_,Zac,J,Zac,λ_=>Zac⟩,?_⟩;show rB t-sI (.row ((nI d).set p (wrap .i64 ((k:Int)+1))))<rB t-sI (.row (nI d));rw[G,JQ,JQ,I];grind
 dsimp only;rw[ζb,ζb,BW a,ζb,bz D,ζb,b7];refine⟨λO=>?_,λO=>go λh=>Zac⟩
 have O:P.events.l[k].kind=3:=Zac
 have⟨e,a1,a2,a3⟩:=AF m n z O;have⟨q,j,S,T⟩:=dP.1 a1;simp only at T;have U:q<d.length:=by have⟨Q,v,_⟩:=S;rw[u.len];grind
 have ae:=ζd U;rw[find_eq g,ζb,T,FV U,ζb,BW ae,ζb,b7];refine⟨λ_=>stop,λh=>go λ_ q' j' hh=>?_⟩
 grind
theorem P9{t:Z4}(a:Small t)(U:∀x∈bL t,mQ t.procs.l.length x.1.proc x.2)(B:AD t):Wp (eV t) λb=>b=true->¬N1 t:=by
 have o:=a.1;unfold eV uT;rw[if_pos Zac,ζb];have g:(Sl.row (replicate (len t.procs).toNat 0))=.row (nI (replicate t.procs.l.length 0)):=by simp[nI]
 rw[g];refine fE (λs:Zg=>∃d,s=.row (nI d)/\Kh t d) (λs=>rB t-sI s) ⟨_,rfl,Zab,λp k P h _=>Zac,λp k j h r=>Zac⟩ ?_;rintro s ⟨D,rfl,O⟩;refine fE (λq:Zg×X'×Int=>∃(n:Nat)(d:ST),q.2.2=n/\n<=t.procs.l.length/\Mv t D q.1 q.2.1 d) (λq=>t.procs.l.length-q.2.2.toNat) ⟨0,D,rfl,zero_le _,rfl,O,le_refl _,Zab⟩ ?_;rintro⟨s,b,i⟩ ⟨n,d,l,Q,c⟩;subst l;unfold eV.bH;rw[b7];constructor;intro h;have u:n<t.procs.l.length:=by grind
 refine(XS a U B u c).mono ?_;rintro w ⟨v,y,S,rfl,G⟩;exact⟨⟨n+1,S,rfl,Zaa,G⟩,by simp;omega⟩;intro _;obtain⟨rfl,z,T,I⟩:=c;rw[bf];show Wp (bg b _ _) _;rw[b7];refine⟨λW=>(bf _).2 ⟨⟨d,rfl,z⟩,?_⟩,λ_=>(bf _).2 ?_⟩;show rB t-sI (.row (nI d))<rB t-sI (.row (nI D));rw[JQ,JQ];have:=I W;have:=z.sum;omega;refine fE (λi:Int=>∃n:Nat,i=n/\n<=t.procs.l.length/\∀p,p<n->∀P,t.procs.l[p]?=some P->d[p]?=some P.events.l.length) (λi:Int=>t.procs.l.length-i.toNat) ⟨0,rfl,zero_le _,λp J=>absurd J Zaa⟩ ?_;rintro i ⟨n,rfl,X,Y⟩;unfold eV.AB;rw[b7];constructor;intro h;have u:n<t.procs.l.length:=by grind
 have C:n<d.length:=by rw[z.len];omega
 have f:=ζd C;rw[FV C,ζb,BW f,ζb,bz u,ζb,b7];refine⟨λ_=>(bf _).2 ((bf _).2 λh=>by cases h),λh=>(bf _).2 ⟨⟨n+1,cr n Zaa,Zaa,λp J P B=>?_⟩,by rw[cr n Zaa];simp;omega⟩⟩;by_cases e:p=n;subst e;rw[ζd u]at B;have:=z.le p _ _ f (ζd u);grind;grind;intro h;have Z:t.procs.l.length<=n:=Zac;refine(bf _).2 ((bf _).2 λ_⟨x,L⟩=>?_);obtain⟨p,k,e,⟨P,B,m⟩,rfl,_⟩:=L.l.at_;have A:=(ζe.1 B).1;exact aaA (z.acc p _ k (Y p Zaa P B) (ζe.1 m).1) L
def tn(out:aX (aX X'))(y:a_):X':=match out[y.proc.toNat]?with
 |some row=>row[y.index.toNat]?.getD false|none=>false
theorem BR{t:Z4}{out:aX (aX X')}{p k:Nat}{row:aX X'}(a:out[p]?=some row)(b:k+1<row.length){z:a_}(B:Vd t z):
 tn (out.set p (row.set (k+1) true)) z=(decide (z=⟨p,k+1⟩)||tn out z):=by
 obtain⟨q,j,e,_,rfl,_⟩:=B.at_;have C:=(ζe.1 a).1;unfold tn;have e1:(⟨(q:Int),(j:Int)+1⟩:a_).proc.toNat=q:=rfl;have e2:(⟨(q:Int),(j:Int)+1⟩:a_).index.toNat=j+1:=by show((j:Int)+1).toNat=j+1;omega
 rw[e1,e2,getElem?_set]
 by_cases u:p=q
 .subst u;rw[if_pos rfl,if_pos C,a];dsimp only;rw[getElem?_set]
  by_cases w:k=j
  .subst w;simp[b]
  rw[if_neg Zaa,show decide ((⟨(p:Int),(j:Int)+1⟩:a_)=⟨p,k+1⟩)=false from by simp;omega,Bool.false_or]
 rw[if_neg u,show decide ((⟨(q:Int),(j:Int)+1⟩:a_)=⟨p,k+1⟩)=false from by simp;omega,Bool.false_or]
theorem Cb{α:Type}{f g:α->X'}:∀{l:aX α},(∀z∈l,f z=true->g z=true)->(∃z∈l,f z=false/\g z=true)->l.countP f<l.countP g
 |[],_,⟨z,b,_⟩=>by simp at b|a::l,h,⟨z,b,B,hg⟩=>by simp only[countP_cons];have D:=List.countP_mono_left (l:=l) (p:=f) (q:=g) λx u=>h x (mem_cons_of_mem _ u);rcases mem_cons.1 b with rfl|b;simp[B,hg];omega;have:=Cb (l:=l) (λx u=>h x (mem_cons_of_mem _ u)) ⟨z,b,B,hg⟩;have c:=h a (mem_cons_self ..);cases w:f a with|true=>simp[c w];omega|false=>simp;split<;>omega
def cnt(t:Z4)(out:aX (aX X')):Nat:=(bL t).countP λz=>tn out z.1
structure PSt(t:Trace)(x:a_)(out:List (List Bool))(rest:List a_):Prop where
 shp:∀(p:Nat)P,t.procs.l[p]?=some P->∃row,out[p]?=some row/\row.length=P.events.l.length+1
 len:out.length=t.procs.l.length
 que:∀y∈rest,Way t y x
 snd:∀y,Vd t y->tn out y=true->Way t y x
 cls:∀z,z=x\/Vd t z/\tn out z=true->∀y,Edge t y z->tn out y=true\/y∈rest
 le:rest.length<=2*cnt t out+2
theorem DN{t:Z4}{y:a_}:tn (iK t) y=false:=by
 unfold tn iK;split;rename_i row h;rw[getElem?_map]at h;cases u:t.procs.l[y.proc.toNat]?with|none=>simp[u]at h|some P=>simp[u]at h;subst h;rw[getElem?_replicate];split<;>rfl
 rfl
theorem Y1{t:Z4}(c:Small t)(m:(bL t).length<1073741824)(g:∀x∈bL t,mQ t.procs.l.length x.1.proc x.2)(J:AD t){x:a_}(i:Vd t x):
 Wp (pT t x) λs=>∃out,s=nested out/\PSt t x out []/\∀y,Vd t y->(tn out y=true↔Way t y x):=by
 unfold pT;rw[if_pos (by
  unfold CQ;simp only[ζh,all_eq_true,decide_eq_true_eq];exact⟨by have:=c.1;omega,λP J=>by have:=(c.2 P J).1;omega⟩),eA]
 refine(DK c g J i).mono λs W=>?_
 refine fE (λq:aX (aX X')×aX a_=>PSt t x q.1 q.2) (λq=>2*((bL t).length-cnt t q.1)+q.2.length) ⟨λp P J=>⟨replicate (P.events.l.length+1) false,by simp[iK,J],Zab⟩,by simp[iK],λy C=>.single ((W.2 y).1 C),λy _ h=>(by rw[DN]at h;cases h),λz a y C=>?_,by have:=W.1;show s.l.length<=2*cnt t (iK t)+2;omega⟩ ?_
 .rcases a with rfl|⟨_,h⟩
  .exact .inr ((W.2 y).2 C)
  rw[DN]at h;cases h
 rintro⟨out,rest⟩ u
 cases rest with
 |nil=>
  show Wp (some _) _;refine(bf _).2 ((bf _).2 ⟨out,rfl,u,λy C=>⟨u.snd y C,λD=>?_⟩⟩)
  have key:∀w,Way t y w->w=x\/Vd t w/\tn out w=true->tn out y=true:=λw D=>by induction D with|single h=>exactλD=>(u.cls _ D _ h).elim id λh=>by cases h|tail ad L ih=>exactλD=>ih (.inr ⟨L.1,(u.cls _ D _ L).elim id λh=>by cases h⟩)
  exact key x D (.inl rfl)
 |cons y rest=>
  have G:=u.que y (mem_cons_self ..);have I:=G.l;obtain⟨p,k,e,X,rfl,O⟩:=I.at_;have⟨P,S,j⟩:=X;have n:=(ζe.1 j).1;have⟨row,b,Y⟩:=u.shp p P S;have B:k+1<row.length:=Zaa
  show Wp (qH _ (out,⟨p,k+1⟩::rest)) _;unfold qH;have e2:((k:Int)+1).toNat=k+1:=Zaa
  dsimp only;rw[if_pos ⟨Zaa,Zaa⟩,show((p:Nat):Int).toNat=p from rfl,e2,b,ζb,ζd B,ζb,b7]
  have T:tn out ⟨p,k+1⟩=row[k+1]:=by unfold tn;rw[show((⟨(p:Int),(k:Int)+1⟩:a_).proc).toNat=p from rfl,b];dsimp only;rw[e2,ζd B];rfl
  constructor
  .intro Z;rw[bf];refine⟨⟨u.shp,u.len,λy C=>u.que y (mem_cons_of_mem _ C),u.snd,λz a y C=>?_,by have:=u.le;simp only[length_cons]at this;show rest.length<=2*cnt t out+2;omega⟩,Nat.add_lt_add_left (Nat.lt_succ_self _) _⟩
   rcases u.cls z a y C with h|h
   .exact .inl h
   rcases mem_cons.1 h with rfl|h
   .exact .inl (by rw[T];exact Z)
   exact .inr h
  intro Z;rw[eA];refine(DK c g J I).mono λmore d=>?_
  have l:=u.le;simp only[length_cons]at l;have o:cnt t out<=(bL t).length:=List.countP_le_length;have v:=d.1;have A:cnt t out<cnt t (out.set p (row.set (k+1) true)):=Cb (λz a h=>by rw[BR b B ⟨_,a⟩,h,Bool.or_true]) ⟨_,O,by rw[T,Z],by rw[BR b B I];simp⟩
  have E:cnt t (out.set p (row.set (k+1) true))<=(bL t).length:=List.countP_le_length;rw[if_pos Zaa,bf]
  refine⟨⟨λq Q f=>?_,by show(out.set _ _).length=_;rw[length_set];exact u.len,λz a=>?_,λz a h=>?_,λz a y C=>?_,by show(rest++more.l).length<=_;rw[ζi];show _<=2*cnt t (out.set p (row.set (k+1) true))+2;omega⟩,?_⟩
  .show ∃r,(out.set p (row.set (k+1) true))[q]?=some r/\_;rw[getElem?_set];split
   next e=>subst e;rw[if_pos (ζe.1 b).1];rw[S]at f;cases f;exact⟨_,rfl,by simp[Y]⟩
   exact u.shp q Q f
  .rcases mem_append.1 a with a|a
   .exact u.que z (mem_cons_of_mem _ a)
   exact .trans (.single ((d.2 z).1 a)) G
  .show Way t z x;have h:tn (out.set p (row.set (k+1) true)) z=true:=h;rw[BR b B a]at h;simp only[or_eq_true,decide_eq_true_eq]at h;rcases h with rfl|h
   .exact G
   exact u.snd z a h
  .show tn (out.set p (row.set (k+1) true)) y=true\/y∈rest++more.l;rw[BR b B C.1];have old:z=x\/Vd t z/\tn out z=true->(decide (y=⟨p,k+1⟩)||tn out y)=true\/y∈rest++more.l:=λa=>by
    rcases u.cls z a y C with h|h
    .exact .inl (by rw[show tn out y=true from h,Bool.or_true])
    rcases mem_cons.1 h with rfl|h
    .exact .inl Zab
    exact .inr (mem_append_left _ h)
   rcases a with a|⟨U,a⟩
   .exact old (.inl a)
   have a:tn (out.set p (row.set (k+1) true)) z=true:=a;rw[BR b B U]at a;simp only[or_eq_true,decide_eq_true_eq]at a;rcases a with rfl|a
   .exact .inr (List.mem_append_right _ ((d.2 y).2 C))
   exact old (.inr ⟨U,a⟩)
  show 2*((bL t).length-cnt t (out.set p (row.set (k+1) true)))+(rest++more.l).length<2*((bL t).length-cnt t out)+(_::rest).length;rw[ζi,length_cons];omega
theorem ab6{t:Z4}(b:Small t)(Y:(bL t).length<1073741824)(f:∀x∈bL t,mQ t.procs.l.length x.1.proc x.2)(G:AD t):Wp (dm.W6 0 t ⟨0,0⟩) λr=>(r.2=0↔¬N1 t):=by
 have v:=b.1;unfold dm.W6;refine fE (λi:Int=>∃n:Nat,i=n/\n<=t.procs.l.length/\∀(p k:Nat)e,p<n->nC t p k e->¬Way t ⟨p,k+1⟩ ⟨p,k+1⟩) (λi:Int=>t.procs.l.length-i.toNat) ⟨0,rfl,zero_le _,λp k e T=>absurd T Zaa⟩ ?_;rintro i ⟨n,rfl,Z,U⟩;unfold dm.N5;rw[b7];constructor;intro h;have w:n<t.procs.l.length:=by simpa[len]using h
 have I:=bz w;have z:=ζd w;have y:=(b.2 _ (getElem_mem w)).1;generalize t.procs.l[n]=P at *;unfold dm.W7;refine fE (λi:Int=>∃m:Nat,i=m/\m<=P.events.l.length/\∀k,k<m->¬Way t ⟨n,k+1⟩ ⟨n,k+1⟩) (λi:Int=>P.events.l.length-i.toNat) ⟨0,rfl,zero_le _,λk a=>absurd a Zaa⟩ ?_;rintro i ⟨m,rfl,A,a⟩;unfold dm.NC;rw[I,ζb,b7];constructor;intro h;have J:m<P.events.l.length:=by simpa[len]using h
 have L:=cr m Zaa;have c:Vd t ⟨n,m+1⟩:=⟨P.events.l[m],dP.2 ⟨n,m,⟨P,z,ζd J⟩,rfl⟩⟩;rw[L,show(((m+1:Nat)):Int)=(m:Int)+1 from Zab,eA];refine(Y1 b Y f G c).mono ?_;rintro s ⟨out,rfl,g,B⟩;have⟨row,d,E⟩:=g.shp n P z;have O:out≠[]:=by rintro rfl;cases d
 have C:m+1<row.length:=Zaa;have j:idx (nested out) (n:Int)=some (.row row):=by unfold nested;rw[if_neg O,gY];show(out.map Sl.row)[n]?=_;rw[getElem?_map,d];rfl
 have l:idx (Sl.row row) ((m:Int)+1)=some row[m+1]:=by rw[show(m:Int)+1=((m+1:Nat):Int)from Zab];exact bz (s:=Sl.row row) C
 rw[j,ζb,l,ζb,b7];have o:row[m+1]=tn out ⟨n,m+1⟩:=by unfold tn;rw[show((⟨(n:Int),(m:Int)+1⟩:a_).proc).toNat=n from rfl,d];dsimp only;rw[show((m:Int)+1).toNat=m+1 from Zaa,ζd C];rfl
 rw[o];refine⟨λD=>(bf _).2 ((bf _).2 ((bf _).2 ⟨λh=>(by cases h),λh=>absurd ⟨_,(B _ c).1 D⟩ h⟩)),λD=>(bf _).2 ⟨⟨m+1,Zab,Zaa,λk F=>?_⟩,by simp;omega⟩⟩;by_cases e:k=m;subst e;exactλL=>by rw[(B _ c).2 L]at D;cases D
 exact a k Zaa;intro h;have S:P.events.l.length<=m:=by simpa[len]using h
 refine(bf _).2 ((bf _).2 ⟨⟨n+1,cr n Zaa,Zaa,λp k e T u=>?_⟩,by rw[cr n Zaa];simp;omega⟩);by_cases e:p=n;subst e;have⟨Q,W,q⟩:=u;rw[z]at W;cases W;have:=(ζe.1 q).1;exact a k Zaa;exact U p k _ Zaa u;intro h;have S:t.procs.l.length<=n:=by simpa[len]using h
 refine(bf _).2 ((bf _).2 ⟨λ_⟨x,X⟩=>?_,λ_=>rfl⟩);obtain⟨p,k,e,u,rfl,_⟩:=X.l.at_;have⟨P,G,_⟩:=id u;exact U p k e (by have:=(ζe.1 G).1;omega) u X
theorem KC{t:Z4}(B:∀x∈bL t,mQ t.procs.l.length x.1.proc x.2):(∀(p k:Nat)e,nC t p k e->yh t (⟨p,k+1⟩,e)=0)↔AD t:=Iff.trans ⟨λh x w=>by have⟨p,k,b,u⟩:=dP.1 w;have⟨a,e⟩:=x;simp only at b u;rw[u];exact h p k e b,λh p k e z=>h _ (dP.2 ⟨p,k,z,rfl⟩)⟩ (Px B)
theorem SM{t:Z4}(d:Small t)(s:(bL t).length<1073741824):Wp (dm t) λr=>(r.2=0↔Ok t):=by
 have E:=d.1;unfold dm;rw[mP,ζb,b7];refine⟨λO=>(bf _).2 ⟨λh=>(by cases h),λh=>?_⟩,λO=>?_⟩;have F:=h.one;have g:=h.few;simp only[or_eq_true,decide_eq_true_eq,len]at O;omega;have g:1<=t.procs.l.length/\t.procs.l.length<=8:=by simp only[or_eq_false_iff,decide_eq_false_iff_not,len]at O;omega
 unfold dm.W1;refine fE (λi:Int=>∃n:Nat,i=n/\n<=t.procs.l.length/\∀p,p<n->ta t p=0) (λi:Int=>t.procs.l.length-i.toNat) ⟨0,rfl,zero_le _,λp G=>absurd G Zaa⟩ ?_;rintro i ⟨n,rfl,H,o⟩;unfold dm.bh;rw[b7];constructor;intro h;have w:n<t.procs.l.length:=by simpa[len]using h
 rw[Ts d w,ζb,b7];refine⟨λa=>(bf _).2 ⟨⟨n+1,cr n Zaa,Zaa,λp G=>?_⟩,by rw[cr n Zaa];simp;omega⟩,λa=>(bf _).2 ((bf _).2 ⟨λh=>?_,λh=>?_⟩)⟩;by_cases e:p=n;subst e;simpa using a;exact o p Zaa;simp only at h;simp[h]at a;simp[h.heads n w]at a;intro h;have K:t.procs.l.length<=n:=by simpa[len]using h
 rw[bf];unfold dm.W2;refine fE (λi:Int=>∃n:Nat,i=n/\n<=t.procs.l.length/\∀(p k:Nat)P e,p<n->t.procs.l[p]?=some P->P.events.l[k]?=some e->pZ t.procs.l.length P p k e=0) (λi:Int=>t.procs.l.length-i.toNat) ⟨0,rfl,zero_le _,λp k P e G=>absurd G Zaa⟩ ?_;rintro i ⟨I,rfl,M,W⟩;unfold dm.bH;rw[b7];constructor;intro h;have w:I<t.procs.l.length:=by simpa[len]using h
 have D:=bz w;have B:=ζd w;have S:=(d.2 _ (getElem_mem w)).1;generalize t.procs.l[I]=P at D B S;unfold dm.W3;refine fE (λi:Int=>∃m:Nat,i=m/\m<=P.events.l.length/\∀(k:Nat)e,k<m->P.events.l[k]?=some e->pZ t.procs.l.length P I k e=0) (λi:Int=>P.events.l.length-i.toNat) ⟨0,rfl,zero_le _,λk e c=>absurd c Zaa⟩ ?_;rintro i ⟨m,rfl,v,c⟩;unfold dm.fh;rw[D,ζb,b7];constructor;intro h;have T:m<P.events.l.length:=by simpa[len]using h
 have C:=ζd T;have f:=cr m Zaa;rw[Uh d B C,ζb,b7];refine⟨λa=>(bf _).2 ⟨⟨m+1,f,Zaa,λk e x u=>?_⟩,by rw[f];simp;omega⟩,λa=>(bf _).2 ((bf _).2 ((bf _).2 ⟨λh=>?_,λh=>?_⟩))⟩;by_cases j:k=m;subst j;rw[C]at u;cases u;simpa using a;exact c k e Zaa u;simp only at h;simp[h]at a;simp[h.f_ I m P _ B C]at a;intro h;have J:P.events.l.length<=m:=by simpa[len]using h
 refine(bf _).2 ((bf _).2 ⟨⟨I+1,cr I Zaa,Zaa,λp k Q e G U u=>?_⟩,by rw[cr I Zaa];simp;omega⟩);by_cases l:p=I;subst l;rw[B]at U;cases U;exact c k e (by have:=(ζe.1 u).1;omega) u;exact W p k Q e Zaa U u;intro h;have J:t.procs.l.length<=I:=by simpa[len]using h
 have W:∀(p k:Nat)P e,t.procs.l[p]?=some P->P.events.l[k]?=some e->pZ t.procs.l.length P p k e=0:=λp k P e L c=>W p k P e (by have:=(ζe.1 L).1;omega) L c;have X:=IS W;rw[bf];unfold dm.W4;refine fE (λi:Int=>∃n:Nat,i=n/\n<=t.procs.l.length/\∀(p k:Nat)e,p<n->nC t p k e->yh t (⟨p,k+1⟩,e)=0) (λi:Int=>t.procs.l.length-i.toNat) ⟨0,rfl,zero_le _,λp k e G=>absurd G Zaa⟩ ?_;rintro i ⟨q,rfl,N,Y⟩;unfold dm.Nx;rw[b7];constructor;intro h;have w:q<t.procs.l.length:=by simpa[len]using h
 have D:=bz w;have B:=ζd w;have S:=(d.2 _ (getElem_mem w)).1;generalize t.procs.l[q]=P at D B S;unfold dm.W5;refine fE (λi:Int=>∃m:Nat,i=m/\m<=P.events.l.length/\∀(k:Nat)e,k<m->P.events.l[k]?=some e->yh t (⟨q,k+1⟩,e)=0) (λi:Int=>P.events.l.length-i.toNat) ⟨0,rfl,zero_le _,λk e c=>absurd c Zaa⟩ ?_;rintro i ⟨m,rfl,v,c⟩;unfold dm.AB;rw[D,ζb,b7];constructor;intro h;have T:m<P.events.l.length:=by simpa[len]using h
 have C:=ζd T;have f:=cr m Zaa;have z:nC t q m P.events.l[m]:=⟨P,B,C⟩;rw[f,show(((m+1:Nat)):Int)=(m:Int)+1 from Zab,RE d z (X (⟨q,m+1⟩,P.events.l[m]) (dP.2 ⟨q,m,z,rfl⟩)),ζb,b7];refine⟨λa=>(bf _).2 ⟨⟨m+1,Zab,Zaa,λk e x u=>?_⟩,by simp;omega⟩,λa=>(bf _).2 ((bf _).2 ((bf _).2 ⟨λh=>?_,λh=>?_⟩))⟩;by_cases j:k=m;subst j;rw[C]at u;cases u;simpa using a;exact c k e Zaa u;simp only at h;simp[h]at a;simp[(KC X).2 h.Am q m _ z]at a;intro h;have J:P.events.l.length<=m:=by simpa[len]using h
 refine(bf _).2 ((bf _).2 ⟨⟨q+1,cr q Zaa,Zaa,λp k e G z=>?_⟩,by rw[cr q Zaa];simp;omega⟩);by_cases l:p=q;subst l;have⟨Q,U,u⟩:=z;rw[B]at U;cases U;exact c k e (by have:=(ζe.1 u).1;omega) u;exact Y p k e Zaa z;intro h;have R:t.procs.l.length<=q:=by simpa[len]using h
 have L:AD t:=(KC X).1 λp k e z=>Y p k e (by have⟨P,L,_⟩:=z;have:=(ζe.1 L).1;omega) z;have Z:¬N1 t↔Ok t:=⟨λh=>⟨g.1,g.2,λp G=>o p Zaa,W,L,h⟩,λh=>h.acyc⟩;rw[bf,eA];refine(P9 d X L).mono λb y=>?_;rw[b7];exact⟨λh=>(bf _).2 ⟨λ_=>Z.1 (y h),λ_=>rfl⟩,λ_=>(ab6 d s X L).mono λr A=>A.trans Z⟩
theorem B_{t:Z4}(a:Small t)(B:(bL t).length<1073741824):∃b,cG t=some b/\sJ t=some b/\(b=true->VT t):=by obtain⟨b,u,c,w⟩:=TJ a B;refine⟨b,u,?_,c⟩;unfold sJ;obtain⟨r,d,z⟩:=SM a B;rw[d,ζb];congr 1;rw[Bool.eq_iff_iff,beq_iff_eq,z];exact⟨w,λh=>(c h).ok⟩
theorem Vs{t:Z4}(d:Small t){c:Zg}(D:c.l.length=t.procs.l.length){step:Int->aY (Fw Int Unit Unit)}
 (Y:∀i,step i=bg (decide (i<(len c))) ((idx c i).bind λG=>(bg (decide (G<0)) (some true) ((idx c i).bind λJ=>(idx t.procs i).bind λU=>some (decide (J>(len U.events)))):aY X').bind λW=>bg W (some (.r ())) (some (.n (wrap .i64 (i+1))))) (some (.x ()))):
 Wp ((bF step 0).bind (Fw.elim (λ_=>some true) (λ_=>some false))) λb=>(b=true↔rM t c.l):=by
 have f:=d.1;refine fE (λs:Int=>∃n:Nat,s=n/\n<=c.l.length/\∀(p:Nat)(a:Int)(P:bR),p<n->c.l[p]?=some a->t.procs.l[p]?=some P->0<=a/\a<=P.events.l.length) (λs:Int=>c.l.length-s.toNat) ⟨0,rfl,zero_le _,λp a P h=>absurd h Zaa⟩ ?_
 rintro s ⟨n,rfl,S,I⟩;rw[Y,b7];constructor
 .intro h;have w:n<c.l.length:=by simpa[len]using h
  have u:n<t.procs.l.length:=Zaa
  have L:=cr n Zaa
  rw[bz w,ζb,ζb,bz u,ζb,mP,ζb,b7];constructor
  .intro z;have z:c.l[n]<0\/c.l[n]>t.procs.l[n].events.l.length:=by simpa[len]using z
   refine(bf _).2 ((bf _).2 ⟨λh=>(by cases h),λO=>?_⟩)
   have:=O.2 n _ _ (ζd w) (ζd u);omega
  intro z;have z:0<=c.l[n]/\c.l[n]<=t.procs.l[n].events.l.length:=by simpa[len]using z
  refine(bf _).2 ⟨⟨n+1,L,Zaa,λp a P T B C=>?_⟩,by rw[L];simp;omega⟩
  by_cases e:p=n
  .subst e;rw[ζd w]at B;cases B;rw[ζd u]at C;cases C;exact z
  exact I p a P Zaa B C
 intro h;have Q:c.l.length<=n:=by simpa[len]using h
 refine(bf _).2 ((bf _).2 ⟨λ_=>⟨D,λp a P B C=>I p a P (by have:=(ζe.1 B).1;omega) B C⟩,λ_=>rfl⟩)
theorem X7{t:Z4}(a:Small t){c:Zg}(B:c.l.length=t.procs.l.length):Wp (nE t c) λb=>(b=true↔rM t c.l):=by unfold nE;rw[show(len c==len t.procs)=true from by simp[len,B],bt];exact Vs a B λi=>rfl
theorem IW{t:Z4}(a:VT t){A:b9 200 bB}(b:fR t (bL t) A){p k:Nat}{e:WF}(B:nC t p k e)(c:e.kind=3):gU t 2 e.message=(ag A e.message).from_:=by have⟨y,d,u,w⟩:=AF a.formed a.ok.Am (dP.2 ⟨p,k,B,rfl⟩:((⟨p,k+1⟩:a_),e)∈bL t) c;have:=b.snd _ d u;simp only[w]at this;exact this.symm
theorem GY(t:Z4)(kind m:Int):gU t kind m=⟨0,0⟩/\(∀x∈bL t,¬(x.2.kind=kind/\x.2.message=m))\/∃z,(gU t kind m,z)∈bL t/\z.kind=kind/\z.message=m:=by cases h:(bL t).find? (mN kind m)with|some x=>have⟨a1,a2,a3,a4⟩:=yf h;exact .inr ⟨x.2,by rw[a4];exact a1,a2,a3⟩|none=>rw[find?_eq_none]at h;have u:∀x∈bL t,¬(x.2.kind=kind/\x.2.message=m):=λx w=>(by have:=h x w;simpa[mN]using this);exact .inl ⟨Pz u,u⟩
theorem Nd{t:Z4}(a:VT t){r s:a_}{z e:WF}(b:(r,z)∈bL t)(D:z.kind=3)(B:(s,e)∈bL t)(G:e.kind=2)(J:e.message=z.message):e.peer=r.proc/\z.peer=s.proc:=by
 have h:=a.ok.Am.has _ b D;have L:0<=z.peer:=by rcases a.formed _ b with h|⟨_,h,_⟩;simp only at h;omega;exact h
 rw[show z.peer=((z.peer.toNat:Nat):Int)from Zaa,A7]at h;have⟨k,y,w,c,C,I⟩:=h;have u:((⟨(z.peer.toNat:Nat),k+1⟩:a_),y)∈bL t:=dP.2 ⟨_,k,w,rfl⟩;have:=a.ok.Am.snd _ u _ B c G (by rw[J];exact C);simp only at this;subst this;cases Bl u B rfl;exact⟨I,by simp only;omega⟩
def nU(t:Z4)(c:Rd)(e:WF):X':=(gU t 3 e.message).index==0||decide ((gU t 3 e.message).index>(c[(gU t 3 e.message).proc.toNat]?).getD 0)
theorem Cq{α:Type}(f g:α->X'):∀l:aX α,l.countP f=l.countP (λx=>f x&&g x)+l.countP (λx=>f x&& !g x)
 |[]=>rfl|x::l=>by simp only[countP_cons,Cq f g l];cases f x<;>cases g x<;>simp<;>omega
theorem wF{α:Type}{f:α->X'}{l:aX α}{n k:Nat}:k∈places f (l.take n)↔k<n/\∃x,l[k]?=some x/\f x=true:=by rw[O2];simp only[getElem?_take];constructor;rintro⟨x,a,u⟩;split at a;exact⟨‹_›,x,a,u⟩;cases a;rintro⟨h,x,a,u⟩;exact⟨x,by rw[if_pos h];exact a,u⟩
theorem X0{t:Z4}(i:VT t){A:b9 200 bB}(hM:fR t (bL t) A){c:Rd}(E:Cons t A c){p q:Nat}{P Q:bR}{a b:Int}(J:t.procs.l[p]?=some P)(D:t.procs.l[q]?=some Q)(N:c[p]?=some a)(s:c[q]?=some b):
 (Q.events.l.take b.toNat).countP (Ao p)=(P.events.l.take a.toNat).countP λe=>en q e&& !nU t c e:=by
 have f:∀{p:Nat}{P:bR}{k:Nat}{e:WF},t.procs.l[p]?=some P->P.events.l[k]?=some e->((⟨p,k+1⟩:a_),e)∈bL t:=λJ g=>dP.2 ⟨_,_,⟨_,J,g⟩,rfl⟩
 have a0:=(E.1.2 p a P N J).1;have b0:=(E.1.2 q b Q s D).1;have r1:∀k,k∈places (Ao p) (Q.events.l.take b.toNat)->∃(z:WF)(j:Nat)(e:WF),Q.events.l[k]?=some z/\z.kind=3/\P.events.l[j]?=some e/\e.kind=2/\e.peer=q/\e.message=z.message/\gU t 2 z.message=⟨p,j+1⟩/\(j:Int)+1<=a/\(k:Int)+1<=b:=λk g=>by have⟨ai,z,d,u⟩:=wF.1 g;have u:z.kind=3/\z.peer=p:=(by simpa[Ao]using u);have R:=f D d;have⟨e,e1,e2,e3⟩:=AF i.formed i.ok.Am R u.1;have⟨l,m⟩:=Nd i R u.1 e1 e2 e3;have⟨p',j,⟨P',Z,n⟩,G⟩:=dP.1 e1;simp only at l G n;rw[G]at m;have ab:p'=p:=(by simp only at m;omega);subst ab;rw[J]at Z;cases Z;have⟨x,C,I⟩:=E.2 q k z b ⟨Q,D,d⟩ s Zaa u.1;rw[<-IW i hM ⟨Q,D,d⟩ u.1,G]at C I;simp only[toNat_natCast]at C I;rw[N]at C;cases C;exact⟨z,j,e,d,u.1,n,e2,l,e3,G,I,Zaa⟩
 have F:∀k,k∈places (λe=>en q e&& !nU t c e) (P.events.l.take a.toNat)->∃(e:WF)(j:Nat)(z:WF),P.events.l[k]?=some e/\e.kind=2/\Q.events.l[j]?=some z/\z.kind=3/\z.peer=p/\z.message=e.message/\gU t 3 e.message=⟨q,j+1⟩/\(j:Int)+1<=b:=λk g=>by have⟨aj,e,d,u⟩:=wF.1 g;simp only[ζh,not_eq_true',nU,or_eq_false_iff,en,beq_iff_eq,beq_eq_false_iff_ne,decide_eq_false_iff_not]at u;have⟨⟨g1,g2⟩,g3,g4⟩:=u;rcases GY t 3 e.message with⟨h,_⟩|⟨z,v,y,z3⟩;rw[h]at g3;exact absurd rfl g3;have⟨l,m⟩:=Nd i v y (f J d) g1 z3.symm;have⟨q',j,⟨Q',V,n⟩,G⟩:=dP.1 v;simp only at G n l m;rw[G]at l g4;have ad:q'=q:=(by simp only at l;omega);subst ad;rw[D]at V;cases V;simp only[toNat_natCast,s,getD_some]at g4;exact⟨e,j,z,d,g1,n,y,m,z3,G,Zaa⟩
 apply Nat.le_antisymm
 .refine H_ (λk=>match Q.events.l[k]?with|some z=>((gU t 2 z.message).index-1).toNat|none=>0) (λk g=>?_) λk H g L K=>?_
  .have⟨z,j,e,d,u,O,o,r,S,T,h8,h9⟩:=r1 k g;rw[d];simp only[T];rw[show((j:Int)+1-1).toNat=j from Zaa]
   refine wF.2 ⟨Zaa,e,O,?_⟩
   have ae:gU t 3 e.message=⟨q,k+1⟩:=by rcases GY t 3 e.message with⟨_,h⟩|⟨z',v,y,z3⟩;exact absurd ⟨u,S.symm⟩ (h _ (f D d));exact i.ok.Am.rcv _ v _ (f D d) y u (by rw[z3,S])
   simp only[nU,ae,en,o,r,toNat_natCast,s,getD_some];simp;omega
  have⟨z,j,e,d,u,O,o,r,S,T,_⟩:=r1 k g;have⟨z',M,e',w,U,B,af,ah,W,X,_⟩:=r1 H L;simp only[d,w,T,X]at K;have Y:j=M:=Zaa
  subst Y;rw[O]at B;cases B;have:=i.ok.Am.rcv _ (f D d) _ (f D w) u U (by rw[<-S,W])
  simp only[a_.mk.injEq]at this;omega
 refine H_ (λk=>match P.events.l[k]?with|some e=>((gU t 3 e.message).index-1).toNat|none=>0) (λk g=>?_) λk H g L K=>?_
 .have⟨e,j,z,d,u,O,o,r,S,T,h8⟩:=F k g;rw[d];simp only[T];rw[show((j:Int)+1-1).toNat=j from Zaa]
  exact wF.2 ⟨Zaa,z,O,by simp[Ao,o,r]⟩
 have⟨e,j,z,d,u,O,o,r,S,T,_⟩:=F k g;have⟨e',M,z',w,U,B,af,ah,W,X,_⟩:=F H L;simp only[d,w,T,X]at K;have Y:j=M:=Zaa
 subst Y;rw[O]at B;cases B;have:=i.ok.Am.snd _ (f J d) _ (f J w) u U (by rw[<-S,W])
 simp only[a_.mk.injEq]at this;omega
theorem HS{t:Z4}(d:VT t){A:b9 200 bB}(f:fR t (bL t) A){c:Rd}(g:Cons t A c){p q:Nat}{P Q:bR}{a b:Int}(B:t.procs.l[p]?=some P)(D:t.procs.l[q]?=some Q)(G:c[p]?=some a)(J:c[q]?=some b):
 under t c p q=((P.events.l.take a.toNat).countP λe=>en q e&&nU t c e:Nat):=by
 unfold under;rw[B,D,G,J];dsimp only;rw[X0 d f g B D G J,Cq (en q) (nU t c)];omega
theorem dU{σ ε ρ γ:Type}{step:σ->aY (Fw σ ε ρ)}{B:ε->aY γ}{fr:ρ->aY γ}{P:γ->Prop}(n:Nat)(I:Nat->σ->Prop){s:σ}(c:I 0 s)
 (h:∀i s,i<n->I i s->Wp (step s) λw=>match w with|.n D=>I (i+1) D|.x e=>Wp (B e) P|.r b=>Wp (fr b) P)
 (G:∀s,I n s->Wp (step s) λw=>match w with|.n _=>False|.x e=>Wp (B e) P|.r b=>Wp (fr b) P):Wp ((bF step s).bind (Fw.elim B fr)) P:=by
 have key:∀m i s,i+m=n->I i s->Wp ((bF step s).bind (Fw.elim B fr)) P:=by
  intro m
  induction m with
  |zero=>intro i s d z;have⟨w,u,a⟩:=G s Zac;rw[eP,u];cases w with|n D=>grind|x e=>exact a|r b=>exact a
  |succ m C=>intro i s d z;have⟨w,u,a⟩:=h i s Zaa z;rw[eP,u];cases w with|n D=>grind|x e=>exact a|r b=>exact a
 exact key n 0 s (Nat.zero_add n) c
def bump(c:Rd)(p:Nat)(d:Int):Rd:=c.set p ((c[p]?).getD 0+d)
theorem vP:∀{c:Rd}{p:Nat}{a b:Int},c[p]?=some a->(c.set p b).sum=c.sum-a+b
 |[],_,_,_,h=>Zad|x::c,0,a,b,h=>Zac|x::c,p+1,a,b,h=>by have:=vP (b:=b) (by simpa using h);grind
theorem sM:∀{c:Rd},(∀(p:Nat)a,c[p]?=some a->0<=a)->0<=c.sum
 |[],_=>Zab|x::c,h=>by have b:=h 0 x rfl;have u:=sM (c:=c) λp a w=>h (p+1) a Zac;grind
theorem J_:∀{c:Rd},(∀(p:Nat)a,c[p]?=some a->0<=a)->c.sum=0->∀(p:Nat)a,c[p]?=some a->a=0
 |[],_,_,p,a,B=>Zad|x::c,h,D,p,a,B=>by have d:=h 0 x rfl;have b:∀(p:Nat)a,c[p]?=some a->0<=a:=λp a B=>h (p+1) a Zac;have u:=sM b;simp at D;cases p with|zero=>grind|succ p=>exact J_ b Zaa p a Zac
theorem NB:∀{c:Rd}{l:ST},c.length=l.length->(∀(i:Nat)a b,c[i]?=some a->l[i]?=some b->a<=(b:Nat))->c.sum<=(l.sum:Nat)
 |[],[],_,_=>Zab|x::c,y::l,B,h=>by have d:=h 0 x y rfl rfl;have u:=NB (c:=c) (l:=l) Zac λi a b w z=>h (i+1) a b Zac Zac;grind
section
variable{t:Z4}{A:b9 200 bB}{c:Rd}
theorem rM.pos(h:rM t c)(p:Nat)(a:Int)(B:c[p]?=some a):0<=a:=(h.2 p a _ B (ζd (by have:=(ζe.1 B).1;rw[<-h.1];simp_all))).1
theorem rM.at_(h:rM t c){p:Nat}(hp:p<t.procs.l.length):∃a,c[p]?=some a:=⟨_,ζd (by rw[h.1];omega)⟩
theorem rM.sum(h:rM t c):0<=c.sum/\c.sum<=(rB t:Nat):=
 ⟨sM h.pos,NB (by simp[h.1]) λi a b z u=>by
  cases w:t.procs.l[i]?with
  |none=>grind|some P=>simp[w]at u;rw[<-u];exact(h.2 i a P z w).2⟩
theorem rM.set(h:rM t c){p:Nat}{b:Int}{P:bR}(B:t.procs.l[p]?=some P)(d:0<=b)(e:b<=P.events.l.length):rM t (c.set p b):=by refine⟨by simp[h.1],λq a Q u w=>?_⟩;rw[getElem?_set]at u;split at u;grind;exact h.2 q a Q u w
def TE(t:Z4)(A:b9 200 bB)(c:Rd)(p:Nat):Prop:=∃P e a,t.procs.l[p]?=some P/\c[p]?=some a/\P.events.l[a.toNat]?=some e/\(e.kind=3->∃b,c[(ag A e.message).from_.proc.toNat]?=some b/\(ag A e.message).from_.index<=b)
theorem nC.one{p k:Nat}{e f:WF}(h:nC t p k e)(g:nC t p k f):e=f:=by have⟨P,a1,a2⟩:=h;have⟨Q,u,w⟩:=g;grind
theorem oO.le(h:oO t A c){p:Nat}{a b:Int}(D:c[p]?=some a)(J:a<=b)(U:∀(k:Nat)e,nC t p k e->a<=k->(k:Int)<b->e.kind=3->∃B,(c.set p b)[(ag A e.message).from_.proc.toNat]?=some B/\(ag A e.message).from_.index<=B):oO t A (c.set p b):=by
 have I:=(ζe.1 D).1;have up:∀(q:Nat)x,c[q]?=some x->∃y,(c.set p b)[q]?=some y/\x<=y:=λq x u=>by rw[getElem?_set];grind
 intro q k e x w u d G;rw[getElem?_set]at u;have old:∀x,c[q]?=some x->k<x->∃B,(c.set p b)[(ag A e.message).from_.proc.toNat]?=some B/\(ag A e.message).from_.index<=B:=λx u d=>by have⟨y,L,O⟩:=h q k e x w u d G;have⟨z,Q,S⟩:=up _ y L;exact⟨z,Q,Zaa⟩
 split at u;rename_i T;subst T;simp[I]at u;subst u;by_cases C:k<a;exact old a D C;exact U k e w Zaa d G;grind
theorem Bc(a:VT t)(b:fR t (bL t) A){p k:Nat}{e:WF}(B:nC t p k e)(D:e.kind=3):∃q j:Nat,(ag A e.message).from_=⟨q,j+1⟩/\q≠p/\Ld t ⟨q,j+1⟩ ⟨p,k+1⟩/\∃y,nC t q j y:=by have⟨q,j,y,u,z,C,y3,y4,y5⟩:=ER a b B D;have w:(⟨p,k+1⟩,e)∈bL t:=dP.2 ⟨p,k,B,rfl⟩;refine⟨q,j,y5,?_,⟨y,e,dP.2 ⟨q,j,u,rfl⟩,w,z,D,C⟩,y,u⟩;rcases a.formed _ w with h|⟨_,_,_,h,_⟩;grind;grind
theorem Cons.up(g:VT t)(i:fR t (bL t) A)(d:Cons t A c){p:Nat}{a:Int}{P:bR}(B:t.procs.l[p]?=some P)(D:c[p]?=some a)(U:a<P.events.l.length):TE t A c p↔Cons t A (c.set p (a+1)):=by have l:=d.1.pos p a D;have W:=(ζe.1 D).1;constructor;rintro⟨Q,e,x,G,I,L,w⟩;rw[B]at G;cases G;rw[D]at I;cases I;refine⟨d.1.set B Zaa Zaa,d.2.le D Zaa λk f z O S X=>?_⟩;have C:k=a.toNat:=Zaa;subst C;cases z.one ⟨P,B,L⟩;grind;intro h;have u:a.toNat<P.events.l.length:=Zaa;refine⟨P,P.events.l[a.toNat],a,B,D,ζd u,λw=>?_⟩;have⟨b,J,T⟩:=h.2 p a.toNat _ (a+1) ⟨P,B,ζd u⟩ Zad Zaa w;rw[getElem?_set]at J;split at J;have⟨q,j,m,n,_⟩:=Bc g i ⟨P,B,ζd u⟩ w;grind;grind
noncomputable def LO (t:Trace) (x:a_):Nat:=by
 classical
 exact(bL t).countP λz=>decide (Way t z.1 x)
theorem NP (hV:VT t) {x y:a_} (h:Way t x y):LO t x<LO t y:=by
 classical
 refine Cb (λz _ u=>?_) ?_
 .have u:Way t z.1 x:=by grind
  simpa using u.trans h
 obtain⟨e,w⟩:=h.l;exact⟨(x,e),w,by simpa using λk=>hV.ok.acyc ⟨x,k⟩,by grind⟩
theorem Yv (x:a_):LO t x<=(bL t).length:=by
 classical
 unfold LO;grind
theorem Vd.of{p k:Nat}{e:WF}(h:nC t p k e):Vd t ⟨p,k+1⟩:=⟨e,dP.2 ⟨p,k,h,rfl⟩⟩
theorem LL{p:Nat}{P:bR}(B:t.procs.l[p]?=some P):∀(d k:Nat),k+d+1<P.events.l.length->Way t ⟨p,k+1⟩ ⟨p,((k+d+1:Nat):Int)+1⟩
 |0,k,h=>.single ⟨Vd.of ⟨P,B,ζd Zaa⟩,Vd.of ⟨P,B,ζd h⟩,.inl Zab⟩|d+1,k,h=>(LL B d k Zaa).tail ⟨Vd.of ⟨P,B,ζd (show k+d+1<_ by omega)⟩,Vd.of ⟨P,B,ζd h⟩,.inl (by simp;omega)⟩
theorem Z9{q k:Nat}{b:Int}{Q:bR}{x:a_}(B:t.procs.l[q]?=some Q)(h:Way t x ⟨q,k+1⟩)(a:(k:Int)<b)(D:b<=Q.events.l.length):Way t x ⟨q,b⟩:=by by_cases e:b=k+1;grind;have:=LL B (b.toNat-k-2) k Zaa;rw[show((k+(b.toNat-k-2)+1:Nat)+1)=b from Zaa]at this;exact h.trans this
theorem Cons.Nn(f:VT t)(g:fR t (bL t) A)(d:Cons t A c){p:Nat}{a:Int}(D:c[p]?=some a)(m:0<a):Cons t A (c.set p (a-1))\/∃(q:Nat)(b:Int),c[q]?=some b/\0<b/\Way t ⟨p,a⟩ ⟨q,b⟩:=by
 have Y:=(ζe.1 D).1;have L:=ζd (show p<t.procs.l.length by rw[<-d.1.1];omega);have n:=d.1.2 p a _ D L;refine byContradiction λB=>B (.inl ⟨d.1.set L Zaa Zaa,λq k e x u I o O=>?_⟩);obtain⟨z,w,Z⟩:∃z,c[q]?=some z/\x<=z:=by rw[getElem?_set]at I;split at I;(next e2=>subst e2;simp[Y]at I;exact⟨a,D,Zaa⟩);grind
 have⟨y,G,C⟩:=d.2 q k e z u w Zaa O;have⟨r,j,h,s,i,_⟩:=Bc f g u O;rw[h]at G C⊢;simp only[toNat_natCast]at G C⊢;by_cases e2:p=r;subst e2;rw[D]at G;cases G;refine⟨a-1,Zad,?_⟩;refine byContradiction λv=>B (.inr ⟨q,z,w,Zaa,?_⟩);have:a=j+1:=Zaa;subst this;have⟨Q,S,_⟩:=u;have J:=d.1.2 q z Q w S;have⟨T,U,W,X,l⟩:=i;exact Z9 S (.single ⟨⟨T,W⟩,⟨U,X⟩,.inr ⟨T,U,W,X,l⟩⟩) Zaa J.2;simp_all
theorem Cons.abj(d:VT t)(f:fR t (bL t) A)(g:Cons t A c):∀(n p:Nat)(a:Int),c[p]?=some a->0<a->(bL t).length-LO t ⟨p,a⟩<=n->∃(q:Nat)(b:Int),c[q]?=some b/\0<b/\Cons t A (c.set q (b-1)):=by
 intro n
 induction n with
 |zero=>intro p a u e B;rcases g.Nn d f u e with h|⟨q,b,_,_,w⟩;grind;have:=NP d w;have:=Yv (t:=t) ⟨q,b⟩;omega
 |succ n C=>intro p a u e B;rcases g.Nn d f u e with h|⟨q,b,D,z,w⟩;grind;have:=NP d w;exact C q b D z Zaa
theorem Cons.down(e:VT t)(f:fR t (bL t) A)(d:Cons t A c)(B:0<c.sum):∃(q:Nat)(b:Int),c[q]?=some b/\0<b/\Cons t A (c.set q (b-1)):=by
 obtain⟨p,a,u,g⟩:∃(p:Nat)(a:Int),c[p]?=some a/\0<a:=by refine byContradiction λw=>?_;have C:∀a∈c,a=0:=λa u=>(by have⟨p,z⟩:=List.mem_iff_getElem?.1 u;have:=d.1.pos p a z;grind);have:c.sum=0:=(by clear d B w;induction c with|nil=>rfl|cons x c D=>simp_all);omega
 exact d.abj e f _ p a u g (le_refl _)
theorem Cons.Ji(a:VT t)(e:fR t (bL t) A):∀(d:Nat){c:Rd}{k:Nat},Cons t A c->c.sum=((k+d:Nat):Int)->∃c',Cons t A c'/\c'.sum=(k:Int)
 |0,c,k,hC,D=>⟨c,hC,Zac⟩|d+1,c,k,hC,D=>by have⟨q,b,G,J,B⟩:=hC.down a e Zaa;exact Cons.Ji a e d B (by rw[vP G];omega)
end
theorem fA{α:Type}{s:Sl α}{n:Nat}(h:n<s.l.length):decide ((n:Int)<len s)=true:=by simp[len];omega
theorem gw{α:Type}{s:Sl α}:decide ((s.l.length:Int)<len s)=false:=by simp[len]
theorem Dw{α:Type}{s x:Sl α}(h:s.l.length+x.l.length<=2147483648):∃r,pJ s x=some r/\r.l=s.l++x.l:=by unfold pJ;by_cases e:x.l=[];rw[if_pos e];exact⟨s,rfl,by rw[e,List.append_nil]⟩;rw[if_neg e,if_pos h];exact⟨_,rfl,rfl⟩
theorem oK{α:Type}{s:Sl α}{x:α}(h:s.l.length<2147483648):∃r,fu s x=some r/\r.l=s.l++[x]:=by unfold fu;rw[if_pos Zaa];exact⟨_,rfl,rfl⟩
theorem yP{α:Type}{s:Sl α}{p:Nat}(h:p<s.l.length):Sl.lW s (p:Int)=some p:=by unfold Sl.lW;rw[if_pos ⟨Zaa,by simpa using h⟩];rfl
theorem put_eq{α:Type}{s:Sl α}{p:Nat}{x:α}(h:p<s.l.length):∃r,Sl.put s p x=some r/\r.l=s.l.set p x:=by unfold Sl.put;rw[if_pos h];exact⟨_,rfl,by cases s<;>first|rfl|(simp[Sl.l]at h)⟩
section
variable{t:Z4}{A:b9 200 bB}
def ClN(t:Z4)(A:b9 200 bB)(c:Rd)(n:Nat):Prop:=∀(p k:Nat)(e:WF)(a:Int),p<n->nC t p k e->c[p]?=some a->(k:Int)<a->e.kind=3->∃b,c[(ag A e.message).from_.proc.toNat]?=some b/\(ag A e.message).from_.index<=b
theorem aa1(i:Small t)(d:VT t)(l:fR t (bL t) A){c:Zg}(Y:rM t c.l):Wp (dZ t c) λb=>(b=true↔oO t A c.l):=by
 have F:=Y.1;have H:=d.few;unfold dZ dZ.W1;refine dU c.l.length (λn s=>s=(n:Int)/\ClN t A c.l n) ⟨rfl,λp k e a h=>absurd h Zaa⟩ ?_ ?_;rintro n _ B ⟨rfl,T⟩;unfold dZ.bh;rw[fA B,bt];have z:n<t.procs.l.length:=by omega
 have K:=(i.2 _ (getElem_mem z)).1;have C:=ζd z;have D:=ζd B;have⟨r1,r2⟩:=Y.2 n _ _ D C;have J:=bz B;generalize c.l[n]=a at *;generalize t.procs.l[n]=P at *;unfold dZ.W2;refine dU a.toNat (λm s=>s=(m:Int)/\∀(k:Nat)(e:WF),k<m->nC t n k e->e.kind=3->∃b,c.l[(ag A e.message).from_.proc.toNat]?=some b/\(ag A e.message).from_.index<=b) ⟨rfl,λk e h=>absurd h Zaa⟩ ?_ ?_;rintro m _ M ⟨rfl,U⟩;unfold dZ.bH;have L:m<P.events.l.length:=by omega
 have u:nC t n m P.events.l[m]:=⟨P,C,ζd L⟩;rw[J,ζb,show decide ((m:Int)<a)=true from by simp;omega,bt,gY,C,ζb,bz L,ζb,cr m Zaa];generalize P.events.l[m]=e at *;have more:(e.kind=3->∃b,c.l[(ag A e.message).from_.proc.toNat]?=some b/\(ag A e.message).from_.index<=b)->∀(k:Nat)(e:WF),k<m+1->nC t n k e->e.kind=3->∃b,c.l[(ag A e.message).from_.proc.toNat]?=some b/\(ag A e.message).from_.index<=b:=λh k f o Z w=>by by_cases r:k=m;subst r;cases u.one Z;exact h w;exact U k f Zaa Z w
 rw[b7];refine⟨λw=>?_,λw=>(bf _).2 ⟨rfl,more λk=>by simp[k]at w⟩⟩;have w:e.kind=3:=by simpa using w
 have⟨q,j,g,_,_,y,Q,v,_⟩:=Bc d l u w;have G:q<c.l.length:=by have:=(ζe.1 v).1;omega
 rw[find_eq i,IW d l u w,ζb,g];simp only;rw[bz G,ζb,b7];refine⟨λW=>(bf _).2 ((bf _).2 ((bf _).2 ⟨λh=>(by cases h),λE=>?_⟩)),λX=>(bf _).2 ⟨rfl,more λ_=>?_⟩⟩;have⟨b,O,S⟩:=E n m e a u D Zaa w;rw[g]at O S;simp only[toNat_natCast,ζd G,ζa]at O S;simp only[decide_eq_true_eq]at W;omega;rw[g];exact⟨c.l[q],by simp only[toNat_natCast];exact ζd G,by simp at X⊢;omega⟩;rintro _ ⟨rfl,U⟩;unfold dZ.bH;rw[J,ζb,show decide ((a.toNat:Int)<a)=false from by simp;omega,bA];refine(bf _).2 ((bf _).2 ⟨cr n Zaa,λp k e x hp u I o w=>?_⟩);by_cases e2:p=n;subst e2;rw[D]at I;cases I;exact U k e Zaa u w;exact T p k e x Zaa u I o w;rintro _ ⟨rfl,T⟩;unfold dZ.bh;rw[gw,bA];exact(bf _).2 ((bf _).2 ⟨λ_ p k e a u I=>T p k e a (ζe.1 I).1 u I,λ_=>rfl⟩)
theorem PV(a:Small t)(d:VT t)(e:fR t (bL t) A){c:Zg}(B:c.l.length=t.procs.l.length):Wp (qA t c) λb=>(b=true↔Cons t A c.l):=by unfold qA;rw[eA];refine(X7 a B).mono λb w=>?_;rw[eA,b7];constructor;intro h;have z:=w.1 h;rw[eA];refine(aa1 a d e z).mono λC u=>?_;rw[bf,bf];exact u.trans ⟨λh=>⟨z,h⟩,λh=>h.2⟩;intro h;rw[bf,bf];exact⟨λh=>(by cases h),λf=>absurd (w.2 f.1) (by simp[h])⟩
theorem step_eq{c:Zg}{p:Nat}{a:Int}(B:c.l[p]?=some a)(G:c.l.length<=1073741824)(b:0<=a)(e:a<1073741824):∃d:Zg,tF c p=some d/\d.l=c.l.set p (a+1):=by have w:=(ζe.1 B).1;unfold tF;have⟨r,z,u⟩:=Dw (s:=Sl.row []) (x:=c) (show 0+c.l.length<=_ by omega);have u:r.l=c.l:=u;rw[z,ζb,yP (by rw[u];exact w),ζb];unfold Sl.get;rw[u,B,ζb,ζb,fV _ Zaa Zaa];have⟨d,C,D⟩:=put_eq (s:=r) (p:=p) (x:=a+1) (by rw[u];exact w);rw[C];exact⟨d,rfl,by rw[D,u]⟩
end
def ins(s:Zb):aX Rd:=s.l.map Sl.l
theorem DR{α:Type}(s:Sl α)(i:Nat)(h:i<=s.l.length):∃x,gN s (some (i:Int)) none=some x/\x.l=s.l.drop i:=by unfold gN ez;simp only[getD_some,Option.getD_none];rw[if_pos ⟨Zaa,Zaa,Zaa⟩];exact⟨_,rfl,by cases s<;>simp[Sl.l]⟩
def EZ(t:Z4)(A:b9 200 bB)(c d:Rd):Prop:=∃(p:Nat)(a:Int),c[p]?=some a/\d=c.set p (a+1)/\Cons t A d
section
variable{t:Z4}{A:b9 200 bB}
theorem qZ{s:Zb}{d:Rd}:d∈ins s↔∃x∈s.l,x.l=d:=by unfold ins;exact mem_map
theorem NL{r s:Zb}{x:Zg}(h:r.l=s.l++[x]){d:Rd}:d∈ins r↔d∈ins s\/d=x.l:=by unfold ins;rw[h];simp
theorem WY(f:Small t)(g:VT t)(j:fR t (bL t) A){c:Zg}(i:Cons t A c.l):Wp (kg t c) λr=>r.l.length<=8/\∀d,d∈ins r↔EZ t A c.l d:=by
 have J:=i.1.1;have T:=g.few;unfold kg kg.W1;refine dU c.l.length (λn s=>s.2=(n:Int)/\s.1.l.length<=n/\∀d,d∈ins s.1↔∃(p:Nat)(a:Int),p<n/\c.l[p]?=some a/\d=c.l.set p (a+1)/\Cons t A d) ⟨rfl,le_refl _,λd=>⟨λh=>by simp[ins,Sl.l]at h,λ⟨p,a,h,_⟩=>absurd h Zaa⟩⟩ ?_ ?_;rintro n ⟨out,_⟩ B ⟨h,u,G⟩;simp only at h u G;subst h;have w:n<t.procs.l.length:=by omega
 have U:=(f.2 _ (getElem_mem w)).1;have z:=ζd B;have l:=i.1.2 n _ _ z (ζd w);unfold kg.bh;rw[fA B,bt,bz B,ζb,bz w,ζb,cr n Zaa];generalize c.l[n]=a at *;have keep:¬Cons t A (c.l.set n (a+1))->∀d,d∈ins out↔∃(p:Nat)(a:Int),p<n+1/\c.l[p]?=some a/\d=c.l.set p (a+1)/\Cons t A d:=λL d=>by rw[G];refine⟨λ⟨p,b,h,k⟩=>⟨p,b,Zaa,k⟩,λ⟨p,b,h,k1,k2,k3⟩=>⟨p,b,?_,k1,k2,k3⟩⟩;refine byContradiction λX=>L ?_;have:p=n:=Zaa;subst this;rw[z]at k1;cases k1;rw[<-k2];exact k3
 by_cases C:a<t.procs.l[n].events.l.length;have⟨d,hd,D⟩:=step_eq (c:=c) z Zaa l.1 Zaa;rw[show decide (a<(len t.procs.l[n].events))=true from by simpa[len]using C,bt,hd,ζb,eA,eA];refine(PV f g j (c:=d) (by rw[D,length_set];exact J)).mono λb O=>?_;rw[D]at O;rw[bf,b7];constructor;intro W;have⟨r,Q,I⟩:=oK (s:=out) (x:=d) Zaa;rw[ζb,Q,ζb,bf];refine⟨rfl,by rw[I];simp;omega,λe=>?_⟩;rw[NL I,G,D];constructor;rintro(⟨p,b,h,k⟩|h);exact⟨p,b,Zaa,k⟩;exact⟨n,a,Zaa,z,h,by rw[h];exact O.1 W⟩;rintro⟨p,b,h,k1,k2,k3⟩;by_cases e2:p=n;subst e2;rw[z]at k1;cases k1;exact .inr k2;exact .inl ⟨p,b,Zaa,k1,k2,k3⟩;intro S;exact(bf _).2 ⟨rfl,Nat.le_succ_of_le u,keep λh=>by rw[O.2 h]at S;cases S⟩;rw[show decide (a<(len t.procs.l[n].events))=false from by simpa[len]using C,bA,ζb,bA,bf];refine⟨rfl,Nat.le_succ_of_le u,keep λh=>?_⟩;have:=h.1.2 n (a+1) _ (by simp[getElem?_set,B]) (ζd w);omega;rintro⟨out,_⟩ ⟨h,u,G⟩;simp only at h u G;subst h;unfold kg.bh;rw[gw,bA,bf];refine(bf _).2 ⟨show out.l.length<=8 by omega,λd=>(G d).trans ⟨λ⟨p,a,_,h⟩=>⟨p,a,h⟩,λ⟨p,a,h⟩=>⟨p,a,(ζe.1 h.1).1,h⟩⟩⟩
def BA(t:Z4)(A:b9 200 bB)(k:Nat)(s:Zb):Prop:=∀d,d∈ins s↔Cons t A d/\d.sum=(k:Int)
theorem EZ.iff(g:VT t)(h:fR t (bL t) A){k:Nat}{d:Rd}:(∃c,(Cons t A c/\c.sum=(k:Int))/\EZ t A c d)↔Cons t A d/\d.sum=((k+1:Nat):Int):=by
 constructor;rintro⟨c,⟨f,B⟩,p,a,C,rfl,u⟩;exact⟨u,by rw[vP C];omega⟩;rintro⟨u,B⟩;have⟨q,b,w,D,f⟩:=u.down g h Zaa;have z:=(ζe.1 w).1;refine⟨_,⟨f,by rw[vP w];omega⟩,q,b-1,by simp[z],?_,u⟩;rw[List.set_set,show b-1+1=b from Zaa];refine ext_getElem? λi=>?_;rw[getElem?_set];split;next e=>subst e;simp[z,w];exact(ζe.1 w).2.symm▸rfl
 rfl
theorem Be{s:Zb}{n:Nat}(h:n<s.l.length){d:Rd}:d∈(s.l.take (n+1)).map Sl.l↔d∈(s.l.take n).map Sl.l\/d=s.l[n].l:=by rw[show s.l.take (n+1)=s.l.take n++[s.l[n]]from by rw[take_add_one,ζd h];rfl];simp only[map_append,mem_append,map_cons,map_nil,mem_singleton]
theorem N_:∀n:Nat,(replicate n (0:Int)).sum=0
 |0=>rfl|n+1=>by rw[List.replicate_succ,sum_cons,N_ n];rfl
theorem Oi:Cons t A (replicate t.procs.l.length 0):=by
 have w:∀(p:Nat)a,(replicate t.procs.l.length (0:Int))[p]?=some a->a=0:=λp a h=>by rw[getElem?_replicate]at h;split at h<;>cases h;rfl
 exact⟨⟨Zab,λp a P u _=>by rw[w p a u];omega⟩,λp k e a _ u b=>by rw[w p a u]at b;omega⟩
theorem Pb{z:Zg}(B:z.l=replicate t.procs.l.length 0):BA t A 0 (Sl.row [z]):=by
 intro d;have:d∈ins (Sl.row [z])↔d=replicate t.procs.l.length 0:=by unfold ins;rw[<-B];exact mem_singleton
 rw[this];constructor;rintro rfl;exact⟨Oi,by rw[N_];rfl⟩;rintro⟨a,u⟩;refine ext_getElem? λi=>?_;rw[getElem?_replicate,<-a.1.1];split;next b=>have h:=ζd b;rw[h,J_ a.1.pos (by simpa using u) i _ h]
 exact getElem?_eq_none Zaa
theorem BA.none(a:VT t)(b:fR t (bL t) A){k:Nat}{s:Zb}(h:BA t A k s)(D:s.l.length=0){d:Rd}(B:Cons t A d):d.sum<(k:Int):=by refine byContradiction λu=>?_;have f:=sM B.1.pos;have⟨c,e,w⟩:=Cons.Ji a b (d.sum.toNat-k) (k:=k) B Zaa;have:=(h c).2 ⟨e,w⟩;have⟨x,z,_⟩:=qZ.1 this;have:=List.length_pos_of_mem z;omega
theorem BA.last{s:Zb}(h:BA t A (rB t+1) s):s.l.length=0:=by refine byContradiction λu=>?_;have w:=getElem_mem (show 0<s.l.length by omega);have:=(h s.l[0].l).1 (qZ.2 ⟨_,w,rfl⟩);have:=this.1.1.sum;omega
theorem Ga{α:Type}(s:Sl α):decide ((len s)>0)= !decide (s.l.length=0):=by by_cases h:s.l.length=0;simp[len,h];simp[h,len];omega
end
def gJ:Rd->Rd->Int
 |[],[]=>0|[],_::_=>-1|_::_,[]=>1|x::a,y::b=>if x<y then -1 else if x>y then 1 else gJ a b
theorem zu:∀a,gJ a a=0
 |[]=>rfl|x::a=>by simp[gJ,zu a]
theorem Dp:∀a b c,gJ a b<0->gJ b c<0->gJ a c<0
 |[],[],_,h,_=>by simp[gJ]at h|[],_::_,[],_,h=>by simp[gJ]at h|[],_::_,_::_,_,_=>by simp[gJ]|_::_,[],_,h,_=>by simp[gJ]at h|_::_,_::_,[],_,h=>by simp[gJ]at h|x::a,y::b,z::c,h1,B=>by have D:=Dp a b c;simp only[gJ]at h1 B⊢;split at h1;split at B;rw[if_pos Zaa];omega;split at B;omega;rw[if_pos Zaa];omega;split at h1;omega;split at B;rw[if_pos Zaa];omega;split at B;omega;rw[if_neg Zaa,if_neg Zaa];exact D h1 B
theorem AA:∀a b,¬gJ a b<0->¬gJ b a<0->a=b
 |[],[],_,_=>rfl|[],_::_,h,_=>by simp[gJ]at h|_::_,[],_,h=>by simp[gJ]at h|x::a,y::b,h1,B=>by have D:=AA a b;simp only[gJ]at h1 B;split at h1;omega;split at B;omega;rw[D (by first|assumption|(split at h1<;>first|assumption|omega)) (by first|assumption|(split at B<;>first|assumption|omega)),show x=y from Zaa]
theorem TN(a b c:Rd)(d:¬gJ a b<0)(B:¬gJ b c<0):¬gJ a c<0:=λh=>by by_cases u:gJ b a<0;exact B (Dp b a c u h);rw[AA a b d u]at h;exact B h
theorem TX{α:Type}{s:Sl α}{p:α->α->Ps}{f:α->Rd}(hp:∀x y,x∈s.l->y∈s.l->p x y=some (gJ (f x) (f y)))(U:s.l.length<2147483648):∃r,Bq s p=some r/\r.l.Perm s.l/\r.l.Pairwise λx y=>¬gJ (f y) (f x)<0:=by
 unfold Bq;split;next h=>exact⟨s,rfl,List.Perm.refl _,by rw[h];exact Pairwise.nil⟩
 rename_i x l h;rw[if_pos (by rw[h]at U;simp at U;omega)];simp only;have S:∀i j:_root_.Fin (l.length+1),p (x::l)[i.1] (x::l)[j.1]=some (gJ (f (x::l)[i.1]) (f (x::l)[j.1])):=λi j=>hp _ _ (by rw[h];exact getElem_mem _) (by rw[h];exact getElem_mem _);have C:(rR λi j:_root_.Fin (l.length+1)=>p (x::l)[i.1] (x::l)[j.1])=λi j=>decide (gJ (f (x::l)[i.1]) (f (x::l)[j.1])<0):=by funext i j;unfold rR;show decide ((p _ _).getD 0<0)=_;rw[S];rfl
 have D:Db (λi j:_root_.Fin (l.length+1)=>p (x::l)[i.1] (x::l)[j.1])=true:=by have u:∀i j,rR (λi j:_root_.Fin (l.length+1)=>p (x::l)[i.1] (x::l)[j.1]) i j=decide (gJ (f (x::l)[i.1]) (f (x::l)[j.1])<0):=λi j=>(by rw[C]);refine all_eq_true.2 λi _=>Bool.and_eq_true_iff.2 ⟨by rw[u,zu];rfl,all_eq_true.2 λj _=>Bool.and_eq_true_iff.2 ⟨by show(p _ _).isSome=true;rw[S];rfl,all_eq_true.2 λk _=>Bool.and_eq_true_iff.2 ⟨?_,?_⟩⟩⟩;have:=Dp (f (x::l)[i.1]) (f (x::l)[j.1]) (f (x::l)[k.1]);rw[u,u,u];simp only[or_eq_true,not_eq_true',Bool.and_eq_false_iff,decide_eq_true_eq,decide_eq_false_iff_not];omega;have:=TN (f (x::l)[i.1]) (f (x::l)[j.1]) (f (x::l)[k.1]);rw[u,u,u];simp only[or_eq_true,not_eq_true',decide_eq_true_eq,decide_eq_false_iff_not];omega
 rw[if_pos D];have G:=(sN D).2;have J:=Sort.pdq_sorts _ G (finRange (l.length+1)).toArray 0 (l.length+1) (Lib.bitLen (l.length+1)) true true (zero_le _) Zab (Or.inl rfl);rw[<-E0]at J;generalize tc l.length _=d at J;have⟨⟨z,_,w⟩,B⟩:=J;have z:d.size=l.length+1:=by simpa using z
 have I:∀y:aX α,(s.re y).l=y:=λy=>by cases s<;>first|rfl|(simp[Sl.l]at h)
 refine⟨_,rfl,?_,?_⟩;rw[I,h];have a:d.extract 0 (l.length+1)=d:=Array.ext (by simp[z]) λi a L=>by simp
 rw[a]at w;have L:((finRange (l.length+1)).toArray.extract 0 (l.length+1)).toList=finRange (l.length+1):=by simp[List.take_of_length_le]
 rw[L]at w;refine(w.map _).trans ?_;rw[show(finRange (l.length+1)).map (λi=>(x::l)[i.1])=x::l from ?_];exact List.ext_getElem Zab λi a L=>Zab;rw[I,pairwise_map,List.pairwise_iff_getElem];intro i j b O Q;have:=B i j (zero_le _) Q (by simpa[z]using O);rw[C]at this;simp only[Array.length_toList]at b O;simp only[getElem!_pos d i b,getElem!_pos d j O,decide_eq_false_iff_not]at this;simpa using this
def Ho(c:Rd):Rd:=c.sum::c
def HO(c:Rd):Prop:=c.length<=8/\∀x∈c,0<=x/\x<1073741824
theorem VL{c:Rd}(h:HO c)(i:Nat):0<=(c.take i).sum/\(c.take i).sum<=8589934592:=by
 have key:∀(l:Rd),(∀x∈l,0<=x/\x<1073741824)->0<=l.sum/\l.sum<=1073741824*(l.length:Int):=by intro l;induction l with|nil=>intro _;simp|cons x l u=>intro h;have a:=h x Zab;have w:=u λy z=>h y (mem_cons_of_mem _ z);simp only[sum_cons,length_cons];omega
 have a:=key (c.take i) λx B=>h.2 x (mem_of_mem_take B);have w:(c.take i).length<=8:=by rw[length_take];have:=h.1;omega
 omega
theorem Mh{c:Rd}{i:Nat}(a:i<c.length):(c.take (i+1)).sum=(c.take i).sum+c[i]:=by rw[List.take_succ_eq_append_getElem a,List.sum_append];simp
theorem QF{a b:Rd}{i:Nat}(B:i<a.length)(D:i<b.length):gJ (a.drop i) (b.drop i)=if a[i]<b[i]then -1 else if a[i]>b[i]then 1 else gJ (a.drop (i+1)) (b.drop (i+1)):=by rw[drop_eq_getElem_cons B,drop_eq_getElem_cons D];rfl
def fH(x y:Rd):Prop:=gJ (Ho x) (Ho y)<0
instance(x y:Rd):Decidable (fH x y):=by unfold fH;exact inferInstance
theorem fH.QE(x:Rd):¬fH x x:=by unfold fH;rw[zu];omega
theorem fH.tr{x y z:Rd}(h:fH x y)(k:fH y z):fH x z:=Dp _ _ _ h k
theorem fH.tot{x y:Rd}(h:¬fH x y)(k:¬fH y x):x=y:=by have:=AA _ _ h k;unfold Ho at this;exact(List.cons.inj this).2
theorem fH.sum{x y:Rd}(h:x.sum<y.sum):fH x y:=by unfold fH Ho;simp[gJ,h]
theorem FG:∀{l r:aX Rd},l.Pairwise fH->r.Pairwise fH->(∀x,x∈l↔x∈r)->l=r
 |[],[],_,_,_=>rfl|[],y::r,_,_,h=>by have:=(h y).2 Zab;simp at this|x::l,[],_,_,h=>by have:=(h x).1 Zab;simp at this|x::l,y::r,C,hr,h=>by have e:x=y:=(by rcases mem_cons.1 ((h x).1 Zab)with e|e;exact e;rcases mem_cons.1 ((h y).2 Zab)with k|k;exact k.symm;exact absurd (((pairwise_cons.1 hr).1 x e).tr ((pairwise_cons.1 C).1 y k)) (fH.QE y));subst e;congr 1;have u:=pairwise_cons.1 C;have w:=pairwise_cons.1 hr;refine FG u.2 w.2 λz=>⟨λB=>?_,λB=>?_⟩;rcases mem_cons.1 ((h z).1 (mem_cons_of_mem _ B))with e|e;exact absurd (e▸u.1 z B) (fH.QE x);exact e;rcases mem_cons.1 ((h z).2 (mem_cons_of_mem _ B))with e|e;exact absurd (e▸w.1 z B) (fH.QE x);exact e
theorem Nw{t:Z4}{A:b9 200 bB}(b:Small t)(d:VT t){c:Rd}(a:Cons t A c):HO c:=by
 refine⟨a.1.1▸d.few,λx z=>?_⟩;have⟨p,w,e⟩:=mem_iff_getElem.1 z;have u:p<t.procs.l.length:=by rw[<-a.1.1];exact w
 have:=a.1.2 p x _ (by rw[ζd w,e]) (ζd u);have k:=(b.2 _ (getElem_mem u)).1;omega
theorem fH.Kg{x y:Rd}(h:x.sum=y.sum):fH x y↔gJ x y<0:=by unfold fH Ho;simp only[gJ,if_neg (show¬x.sum<y.sum by omega),if_neg (show¬x.sum>y.sum by omega)]
theorem fH.nodup{L:aX Rd}(h:L.Pairwise fH):L.Nodup:=h.imp λ{x y}(h:fH x y)(e:x=y)=>fH.QE y (by rw[e]at h;exact h)
theorem PK{L:aX Rd}{c:Rd}{j:Nat}(h:L.Pairwise fH)(d:∀(i:Nat)x,i<j->L[i]?=some x->fH x c)(D:∀x,L[j]?=some x->fH c x):
 (L.take j++[c]++L.drop j).Pairwise fH/\∀x,x∈L.take j++[c]++L.drop j↔x∈L\/x=c:=by
 have w:∀x∈L.take j,fH x c:=λx a=>by
  have⟨k,b,e⟩:=mem_iff_getElem.1 a;rw[length_take]at b;rw[List.getElem_take]at e;exact d k x Zaa (by rw[ζd Zaa,e])
 have u:∀x∈L.drop j,fH c x:=λx a=>by
  have⟨k,b,e⟩:=mem_iff_getElem.1 a;rw[List.length_drop]at b;rw[List.getElem_drop]at e;have B:j<L.length:=Zaa
  have k0:=D _ (ζd B)
  by_cases e0:k=0
  .subst e0;simp only[Nat.add_zero]at e;rw[<-e];exact k0
  rw[<-e];exact k0.tr (List.pairwise_iff_getElem.1 h j (j+k) B Zaa Zaa)
 refine⟨pairwise_append.2 ⟨pairwise_append.2 ⟨h.sublist (List.take_sublist _ _),List.pairwise_singleton _ _,λx a y z=>?_⟩,h.sublist (List.drop_sublist _ _),λx a y z=>?_⟩,λx=>?_⟩
 .rw[mem_singleton.1 z];exact w x a
 .rcases mem_append.1 a with a|a
  .exact(w x a).tr (u y z)
  rw[mem_singleton.1 a];exact u y z
 conv=>rhs;rw[<-take_append_drop j L]
 simp only[mem_append,mem_singleton];constructor
 .rintro ((h|h)|h)<;>simp[h]
 rintro((h|h)|h)<;>simp[h]
theorem U7{α:Type}{s:Sl α}{p:α->α->aY X'}{f:α->Rd}(hp:∀x y,x∈s.l->y∈s.l->p x y=some (decide (f x=f y)))(k:s.l.length<2147483648)(Y:s.l.Pairwise λx y=>¬gJ (f y) (f x)<0):
 ∃r,z6 s p=some r/\(r.l.map f).Nodup/\(∀d,d∈r.l.map f↔d∈s.l.map f)/\r.l.length<=s.l.length:=by
 have Q:∀i,i<s.l.length->0<i->∃(a:i<s.l.length)(O:i-1<s.l.length),vw s.l p i=some (decide (f s.l[i]=f s.l[i-1])):=λi h l=>by refine⟨h,Zaa,?_⟩;unfold vw;rw[ζd h,ζd (show i-1<s.l.length by omega)];exact hp _ _ (getElem_mem _) (getElem_mem _)
 unfold z6;rw[if_pos ⟨Zaa,all_eq_true.2 λi b=>by
  by_cases h:i=0
  .subst h;rfl
  have⟨_,_,e⟩:=Q i (mem_range.1 b) Zaa
  rw[e];simp⟩]
 have B:∀y:aX α,(s.l=[]->y=[])->(s.vv y).l=y:=λy z=>by cases s<;>first|rfl|exact(z rfl).symm
 have S:∀i,i∈kept (λi=>(vw s.l p i).getD false) s.l.length↔i<s.l.length/\(i=0\/(vw s.l p i).getD false=false):=λi=>by unfold kept;simp[List.mem_filter]
 have C:=C8 (λi=>(vw s.l p i).getD false) s.l.length
 have T:(kept (λi=>(vw s.l p i).getD false) s.l.length).Pairwise (·<·):=by unfold kept;exact List.pairwise_lt_range.filter _
 generalize kept (λi=>(vw s.l p i).getD false) s.l.length=K at *
 have w:(s.vv (K.filterMap (s.l[·]?))).l=K.filterMap (s.l[·]?):=B _ λh=>by rw[h];simp
 refine⟨_,rfl,?_,λd=>?_,?_⟩
 .rw[w,Nodup,pairwise_map,List.pairwise_filterMap];refine T.imp_of_mem ?_;intro i j b Z m x u y z D;have⟨U,G⟩:=(S j).1 Z;have⟨a,O,e⟩:=Q j U Zaa
  rw[e]at G;have W:¬f s.l[j]=f s.l[j-1]:=by rcases G with h|h;omega;simpa using h
  rw[ζd a]at z;cases z;have I:i<s.l.length:=Zaa
  rw[ζd I]at u;cases u;have J:=List.pairwise_iff_getElem.1 Y;have a1:=J (j-1) j O a Zaa
  refine W (AA _ _ a1 ?_)
  by_cases e2:i=j-1
  .subst e2;rw[<-D,zu];omega
  have a2:=J i (j-1) I O Zaa
  rw[D]at a2;exact a2
 .rw[w];simp only[mem_map,List.mem_filterMap];constructor
  .rintro⟨x,⟨i,_,u⟩,rfl⟩;exact⟨x,mem_of_getElem? u,rfl⟩
  rintro⟨x,u,rfl⟩;have⟨i,b⟩:=List.mem_iff_getElem?.1 u;have key:∀(i:Nat)x,s.l[i]?=some x->∃y,(∃j,j∈K/\s.l[j]?=some y)/\f y=f x:=by intro i;induction i with|zero=>intro x u;exact⟨x,⟨0,(S 0).2 ⟨(ζe.1 u).1,.inl rfl⟩,u⟩,rfl⟩|succ i ih=>intro x u;have L:=(ζe.1 u).1;have⟨a,O,e⟩:=Q (i+1) L Zaa;have X:s.l[i+1]=x:=(ζe.1 u).2;by_cases c:f s.l[i+1]=f s.l[i+1-1];have⟨y,z,g⟩:=ih _ (ζd (show i<s.l.length by omega));exact⟨y,z,by rw[g,<-X];exact c.symm⟩;exact⟨x,⟨i+1,(S _).2 ⟨L,.inr (by rw[e];simpa using c)⟩,u⟩,rfl⟩
  exact key i x b
 rw[w];exact Nat.le_trans (List.length_filterMap_le ..) C
theorem P0{a b:Zg}(J:a.l.length<1073741824):kW a b=some (gJ a.l b.l):=by
 refine Wp.eq ?_;unfold kW fS fS.W1;rw[eA];refine dU a.l.length (λn s=>s=(n:Int)/\n<=b.l.length/\gJ (a.l.drop n) (b.l.drop n)=gJ a.l b.l) ⟨rfl,zero_le _,rfl⟩ ?_ ?_;rintro n _ w ⟨rfl,C,u⟩;unfold fS.bh;rw[fA w,bt,bz w,ζb];have hd:a.l.drop n=a.l[n]::a.l.drop (n+1):=drop_eq_getElem_cons w;by_cases D:n<b.l.length;have G:b.l.drop n=b.l[n]::b.l.drop (n+1):=drop_eq_getElem_cons D;rw[show decide ((n:Int)>=len b)=false from by simp[len];omega,bA,bz D,ζb];rw[hd,G]at u;simp only[gJ]at u;generalize a.l[n]=x at *;generalize b.l[n]=y at *;have z:rH x y=some (if x<y then -1 else if x>y then 1 else 0):=by unfold rH tM;simp only[bne_self_eq_false,ζb,bA,bt];by_cases c:x<y;simp[c,bg];by_cases B:x>y;simp[c,B,bg];simp[c,B,bg]
 rw[z,ζb];by_cases c:x<y;rw[if_pos c]at u⊢;rw[show((-1:Int)==0)=false from rfl,bA,bf];exact(bf _).2 ((bf _).2 u);rw[if_neg c]at u⊢;by_cases B:x>y;rw[if_pos B]at u⊢;rw[show((1:Int)==0)=false from rfl,bA,bf];exact(bf _).2 ((bf _).2 u);rw[if_neg B]at u⊢;rw[show((0:Int)==0)=true from rfl,bt,bf];exact⟨cr n Zaa,D,u⟩;rw[show decide ((n:Int)>=len b)=true from by simp[len];omega,bt,bf];rw[hd,List.drop_eq_nil_of_le (show b.l.length<=n by omega)]at u;exact(bf _).2 ((bf _).2 u);rintro _ ⟨rfl,C,u⟩;unfold fS.bh;rw[gw,bA,bf];rw[List.drop_eq_nil_of_le (le_refl _)]at u;by_cases h:a.l.length<b.l.length;rw[show decide (len a<len b)=true from by simp[len];omega,bt];rw[drop_eq_getElem_cons h]at u;exact(bf _).2 ((bf _).2 u);rw[show decide (len a<len b)=false from by simp[len];omega,bA];rw[List.drop_eq_nil_of_le (show b.l.length<=a.l.length by omega)]at u;exact(bf _).2 ((bf _).2 u)
theorem Ka{a b:Zg}(D:a.l.length<1073741824):fG a b=some (decide (a.l=b.l)):=by
 refine Wp.eq ?_;unfold fG;rw[b7];refine⟨λh=>?_,λh=>(bf _).2 ?_⟩;have h:(a.l.length:Int)=b.l.length:=by simpa[len]using h
 have h:a.l.length=b.l.length:=Zaa;unfold fG.W1;refine dU a.l.length (λn s=>s=(n:Int)/\∀i,i<n->a.l[i]?=b.l[i]?) ⟨rfl,λi h=>absurd h Zaa⟩ ?_ ?_;rintro n _ u ⟨rfl,z⟩;unfold fG.bh;have B:n<b.l.length:=by omega
 rw[show decide ((n:Int)<len a)=true from fA u,bt,bz u,ζb,bz B,ζb,b7];refine⟨λw=>(bf _).2 ⟨cr n Zaa,λi d=>?_⟩,λw=>(bf _).2 ((bf _).2 ?_)⟩;by_cases e:i=n;subst e;rw[ζd u,ζd B];simpa using w;exact z i Zaa;refine(decide_eq_false λe=>?_).symm;have c:a.l[n]?=b.l[n]?:=by rw[e]
 rw[ζd u,ζd B]at c;simp at w c;exact w c;rintro _ ⟨rfl,z⟩;unfold fG.bh;rw[gw,bA,bf];refine(bf _).2 (decide_eq_true (ext_getElem? λi=>?_)).symm;by_cases d:i<a.l.length;exact z i d;rw[getElem?_eq_none Zaa,getElem?_eq_none Zaa];refine(decide_eq_false λe=>?_).symm;simp[len,e]at h
section
variable{t:Z4}{A:b9 200 bB}
def xm(A:b9 200 bB)(e:WF):a_:=if e.kind=3 then(ag A e.message).from_ else⟨0,0⟩
structure WM(t:Trace)(A:b9 200 bB)(n:Nat)(m:cw):Prop where
 lens:m.lengths.l=(t.procs.l.take n).map λP=>(P.events.l.length:Int)
 need:m.need.l.map Sl.l=(t.procs.l.take n).map λP=>P.events.l.map (xm A)
theorem of_wp(d:Small t)(h:cG t=some true)(f:VT t)(g:fR t (bL t) A):Wp (lR t) (WM t A t.procs.l.length):=by
 have Y:=f.few;unfold lR lR.W1;refine dU t.procs.l.length (λn s=>s.1=(n:Int)/\s.2.1=t/\WM t A n s.2.2.2) ⟨rfl,rfl,rfl,rfl⟩ ?_ ?_;rintro n ⟨_,_,Z,I⟩ z ⟨a,B,u⟩;simp only at a B u;subst a;have B:=B.symm;subst B;unfold lR.bh;rw[fA z,bt,bz z,ζb];have O:=ζd z;have H:=(d.2 _ (getElem_mem z)).1;generalize K:t.procs.l[n]=P at *;unfold lR.W2;refine dU P.events.l.length (λk s=>s.2.1=(k:Int)/\s.2.2.1=t/\s.2.2.2.2=I/\s.1.l=(P.events.l.take k).map (xm A)) ⟨rfl,rfl,rfl,rfl⟩ ?_ ?_;rintro k ⟨nd,_,_,T,_⟩ c ⟨Q,C,D,L⟩;simp only at Q C D L;subst Q;have C:=C.symm;have D:=D.symm;subst C D;unfold lR.bH;rw[fA c,bt,bz c,ζb];have U:nC t n k P.events.l[k]:=⟨P,O,ζd c⟩;have G:P.events.l.take (k+1)=P.events.l.take k++[P.events.l[k]]:=by rw[take_add_one,ζd c];rfl
 generalize P.events.l[k]=e at *;have fin:∀id,id=xm A e->Wp (lR.J3 nd t.procs (len t.procs) n P.events (len P.events) k t ⟨Sl.nil,Sl.nil⟩ I P id) λw=>match w with|.n S=>S.2.1=((k+1:Nat):Int)/\S.2.2.1=t/\S.2.2.2.2=I/\S.1.l=(P.events.l.take (k+1)).map (xm A)|.x e=>False|.r b=>False:=λid W=>by unfold lR.J3;have⟨r,i,l⟩:=oK (s:=nd) (x:=id) (by rw[L];simp;omega);rw[i,ζb,bf];exact⟨cr k Zaa,rfl,rfl,by rw[l,L,G,map_append,W];rfl⟩
 rw[b7];constructor;intro u;have u:e.kind=3:=by simpa using u
 have⟨q,j,y,m,o,p,y3,y4,y5⟩:=ER f g U u;have X:=Ip d h g (dP.2 ⟨q,j,m,rfl⟩:((⟨q,j+1⟩:a_),y)∈bL t) o;simp only at X;rw[p]at X;rw[X,ζb];refine(fin _ (by unfold xm;rw[if_pos u,y5])).mono λw J=>?_;cases w with|n s=>exact J|x e=>exact J.elim|r b=>exact J.elim
 intro u;have u:¬e.kind=3:=by simpa using u
 refine(fin _ (by unfold xm;rw[if_neg u])).mono λw J=>?_;cases w with|n s=>exact J|x e=>exact J.elim|r b=>exact J.elim
 rintro⟨nd,_,_,T,_⟩ ⟨Q,C,D,L⟩;simp only at Q C D L;subst Q;have C:=C.symm;have D:=D.symm;subst C D;unfold lR.bH;have M:I.lengths.l.length=n:=by rw[u.lens];simp;omega
 have N:I.need.l.length=n:=by have:=congrArg length u.need;simp at this;omega
 have⟨v,a1,a2⟩:=oK (s:=I.lengths) (x:=len P.events) Zaa;have⟨x2,E,F⟩:=oK (s:=I.need) (x:=nd) Zaa;rw[gw,bA,bf];simp only;rw[a1,ζb,E,ζb,bf];have G:t.procs.l.take (n+1)=t.procs.l.take n++[P]:=by rw[take_add_one,O];rfl
 refine⟨cr n Zaa,rfl,?_,?_⟩;show v.l=_;rw[a2,u.lens,G,map_append];rfl;show x2.l.map Sl.l=_;rw[F,map_append,u.need,G,map_append,map_cons,L,take_length];rfl;rintro⟨_,_,Z,I⟩ ⟨a,B,u⟩;simp only at a B u;subst a;have B:=B.symm;subst B;unfold lR.bh;rw[gw,bA,bf];exact(bf _).2 u
theorem TG(f:VT t)(g:fR t (bL t) A){m:cw}(n:WM t A t.procs.l.length m){c:Zg}(d:Cons t A c.l){p:Nat}(hp:p<t.procs.l.length):
 Wp (qE m c p) λb=>(b=true↔∃a,c.l[p]?=some a/\Cons t A (c.l.set p (a+1))):=by
 have ab:=d.1.1;have u:=ζd hp;have⟨a,w⟩:=d.1.at_ hp;have F:=d.1.2 p a _ w u;generalize t.procs.l[p]=P at *;have D:m.lengths.l[p]?=some (P.events.l.length:Int):=by rw[n.lens,take_length,getElem?_map,u];rfl
 have J:=(ζe.1 w).1;have L:idx c (p:Int)=some a:=by rw[gY];exact w
 unfold qE;rw[L,ζb,gY,D,ζb,b7];constructor
 .intro h;have h:a=P.events.l.length:=by simpa using h
  refine(bf _).2 ⟨λh=>(by cases h),λ⟨b,B,O⟩=>?_⟩
  rw[w]at B;cases B;have:=O.1.2 p (a+1) P (by simp[J]) u
  omega
 intro h;have h:¬a=P.events.l.length:=by simpa using h
 have S:a<P.events.l.length:=Zaa
 have o:=congrArg (λl=>l[p]?) n.need
 simp only[take_length,getElem?_map,u,Option.map_some]at o;have⟨nd,T,U⟩:=ζf.1 o;have z:a.toNat<P.events.l.length:=Zaa
 have H:idx nd a=some (xm A P.events.l[a.toNat]):=by rw[Vv F.1,U,getElem?_map,ζd z];rfl
 rw[gY,T,ζb,ζb,H,ζb];have W:=d.up f g u w S;have G:(∃b,c.l[p]?=some b/\Cons t A (c.l.set p (b+1)))↔TE t A c.l p:=by rw[W];exact⟨λ⟨b,B,k⟩=>by rw[w]at B;cases B;exact k,λk=>⟨a,w,k⟩⟩
 rw[G];have X:nC t p a.toNat P.events.l[a.toNat]:=⟨P,u,ζd z⟩;have Y:TE t A c.l p↔(P.events.l[a.toNat].kind=3->∃b,c.l[(ag A P.events.l[a.toNat].message).from_.proc.toNat]?=some b/\(ag A P.events.l[a.toNat].message).from_.index<=b):=⟨λ⟨Q,e,x,r,v,C,K⟩=>by rw[u]at r;cases r;rw[w]at v;cases v;rw[ζd z]at C;cases C;exact K,λh=>⟨P,_,a,u,w,ζd z,h⟩⟩
 rw[Y];generalize P.events.l[a.toNat]=e at *;unfold xm
 by_cases C:e.kind=3
 .rw[if_pos C];have⟨q,j,M,_,_,y,Q,N,_⟩:=Bc f g X C;have Z:q<c.l.length:=by have:=(ζe.1 N).1;omega
  rw[M];simp only[toNat_natCast];rw[bz Z,ζb,bf];simp only[decide_eq_true_eq];exact⟨λh _=>⟨_,ζd Z,h⟩,λh=>by have⟨b,B,R⟩:=h C;rw[ζd Z]at B;cases B;exact R⟩
 rw[if_neg C];have E:0<c.l.length:=Zaa
 have I:=d.1.pos 0 _ (ζd E);have V:idx c ((⟨0,0⟩:a_).proc)=some c.l[0]:=bz (s:=c) (i:=0) E;rw[V,ζb,bf];exact⟨λ_ h=>absurd h C,λ_=>by simpa using I⟩
end
theorem I9{α:Type}:∀l:aX α,(range l.length).filterMap (l[·]?)=l
 |[]=>rfl|x::l=>by rw[length_cons,List.range_succ_eq_map,List.filterMap_cons,List.filterMap_map];show x::(range l.length).filterMap (λi=>(x::l)[i+1]?)=_;simp only[List.getElem?_cons_succ];rw[I9 l]
theorem XQ{α:Type}{s r:Sl α}{p:α->α->aY X'}(h:z6 s p=some r):r.l.Sublist s.l:=by
 unfold z6 at h;split at h
 .cases h;have key:((kept (λi=>(vw s.l p i).getD false) s.l.length).filterMap (s.l[·]?)).Sublist s.l:=by
   have e:=I9 s.l
   conv=>rhs;rw[<-e]
   exact List.Sublist.filterMap _ (by unfold kept;exact List.filter_sublist)
  generalize(kept (λi=>(vw s.l p i).getD false) s.l.length).filterMap (s.l[·]?)=y at *
  cases s<;>first|exact key|(simp[Sl.vv,Sl.l])
 cases h
theorem yJ{c:Zg}(B:c.l.length<=1073741824)(a:0<c.l.length):∃d,(dY c).bind Sl.whole=some d/\d.l=c.l:=by
 unfold dY;have key:((pJ (Sl.row []:Zg) c).bind λx=>some x).bind Sl.whole=some (.row ([]++c.l)):=by unfold pJ;rw[if_neg (λh=>by rw[h]at a;simp at a),if_pos (show(Sl.row ([]:Rd)).l.length+c.l.length<=2147483648 from show 0+c.l.length<=_ by omega)];rfl
 cases c with|nil=>simp[Sl.l]at a|emp=>simp[Sl.l]at a|part l=>exact⟨_,key,rfl⟩|row l=>exact⟨_,key,rfl⟩
section
variable{t:Z4}{A:b9 200 bB}
theorem VK(K:Small t)(l:VT t)(v:fR t (bL t) A){m:cw}(M:WM t A t.procs.l.length m){k:Nat}{B:Zb}(W:BA t A k B)(V:B.l.length<=5000):
 Wp (eS m B) λr=>BA t A (k+1) r/\(ins r).Nodup/\r.l.length<=40000/\(ins r).Pairwise λx y=>¬gJ y x<0:=by
 have ad:=l.few;unfold eS eS.W1;refine dU B.l.length (λn s=>s.2.1=len B/\s.2.2=(n:Int)/\s.1.l.length<=8*n/\∀d,d∈ins s.1↔∃c∈(B.l.take n).map Sl.l,EZ t A c d) ⟨rfl,rfl,zero_le _,λd=>by simp[ins,Sl.l]⟩ ?_ ?_
 .rintro n ⟨out,_,_⟩ w ⟨e1,e2,g1,g2⟩;simp only at e1 e2 g1 g2;subst e1 e2;have L:=(W B.l[n].l).1 (qZ.2 ⟨_,getElem_mem w,rfl⟩);unfold eS.bh;rw[fA w,bt,bz w,ζb];have O:∀d,d∈(B.l.take (n+1)).map Sl.l↔d∈(B.l.take n).map Sl.l\/d=B.l[n].l:=λd=>Be w
  generalize B.l[n]=c at *;have ae:=L.1.1.1;have aa:=l.ok.one;unfold eS.W2;refine dU c.l.length (λj s=>s.2=(j:Int)/\s.1.l.length<=8*n+j/\∀d,d∈ins s.1↔d∈ins out\/∃(p:Nat)(a:Int),p<j/\c.l[p]?=some a/\d=c.l.set p (a+1)/\Cons t A d) ⟨rfl,g1,λd=>⟨.inl,λh=>h.elim id λ⟨p,a,h,_⟩=>absurd h Zaa⟩⟩ ?_ ?_
  .rintro j ⟨o2,_⟩ T ⟨e,o,i⟩;simp only at e o i;subst e;unfold eS.bH;rw[show decide ((j:Int)<len c)=true from fA T,bt,eA];refine(TG l v M L.1 (p:=j) Zaa).mono λb E=>?_
   have u:=ζd T;have hr:=L.1.1.2 j _ _ u (ζd (show j<t.procs.l.length by omega))
   have af:=(K.2 _ (getElem_mem (show j<t.procs.l.length by omega))).1
   generalize c.l[j]=a at *;have more:∀o3:Zb,(∀d,d∈ins o3↔d∈ins o2\/d=c.l.set j (a+1)/\Cons t A d)->∀d,d∈ins o3↔d∈ins out\/∃(p:Nat)(a:Int),p<j+1/\c.l[p]?=some a/\d=c.l.set p (a+1)/\Cons t A d:=λo3 h d=>by rw[h,i];constructor;rintro((h|⟨p,b,h,k⟩)|⟨h,k⟩);exact .inl h;exact .inr ⟨p,b,Zaa,k⟩;exact .inr ⟨j,a,Zaa,u,h,k⟩;rintro(h|⟨p,b,h,k1,k2,k3⟩);exact .inl (.inl h);by_cases e:p=j;subst e;rw[u]at k1;cases k1;exact .inr ⟨k2,k3⟩;exact .inl (.inr ⟨p,b,Zaa,k1,k2,k3⟩)
   rw[b7];constructor
   .intro ht;have⟨x,C,X⟩:=E.1 ht;rw[u]at C;cases C;have⟨d,hd,z⟩:=yJ (c:=c) Zaa Zaa
    have⟨N,Y,Q⟩:=put_eq (s:=d) (p:=j) (x:=a+1) (by rw[z];exact T)
    have⟨o3,Z,D⟩:=oK (s:=o2) (x:=N) Zaa
    have P:Sl.get d j=some a:=by unfold Sl.get;rw[z];exact u
    rw[hd,ζb,yP (by rw[z];exact T),ζb,P,ζb,ζb,fV _ Zaa Zaa,Y,ζb,Z,ζb,bf]
    refine⟨cr j Zaa,by rw[D];simp;omega,more o3 λe=>?_⟩
    rw[NL D,Q,z];exact⟨λh=>h.elim .inl λh=>.inr ⟨h,by rw[h];exact X⟩,λh=>h.elim .inl λh=>.inr h.1⟩
   intro F;refine(bf _).2 ⟨cr j Zaa,Nat.le_succ_of_le o,more o2 λd=>⟨.inl,λh=>h.elim id λ⟨q,U⟩=>?_⟩⟩
   rw[E.2 ⟨a,u,by rw[<-q];exact U⟩]at F;cases F
  rintro⟨o2,_⟩ ⟨e,o,i⟩;simp only at e o i;subst e;unfold eS.bH;rw[gw,bA,bf];refine(bf _).2 ⟨rfl,cr n Zaa,show o2.l.length<=_ by omega,λd=>?_⟩
  rw[i];constructor
  .rintro (h|⟨p,a,_,h⟩)
   .have⟨c',g,G⟩:=(g2 d).1 h;exact⟨c',(O c').2 (.inl g),G⟩
   exact⟨_,(O _).2 (.inr rfl),p,a,h⟩
  rintro⟨c',g,G⟩;rcases(O c').1 g with h|h
  .exact .inl ((g2 d).2 ⟨c',h,G⟩)
  subst h;have⟨p,a,h⟩:=G;exact .inr ⟨p,a,(ζe.1 h.1).1,h⟩
 rintro⟨out,_,_⟩ ⟨e1,e2,g1,g2⟩;simp only at e1 e2 g1 g2;subst e1 e2;unfold eS.bh;rw[gw,bA,bf];simp only;have I:BA t A (k+1) out:=λd=>by rw[g2,take_length,<-EZ.iff l v (k:=k)];exact⟨λ⟨c,g,G⟩=>⟨c,(W c).1 g,G⟩,λ⟨c,g,G⟩=>⟨c,(W c).2 g,G⟩⟩
 have J:∀s:Zb,(∀d,d∈ins s↔d∈ins out)->∀x∈s.l,x.l.length<1073741824:=λs h x C=>by have:=((I x.l).1 ((h x.l).1 (qZ.2 ⟨x,C,rfl⟩))).1.1.1;omega
 have⟨r1,q,p1,H⟩:=TX (s:=out) (p:=kW) (f:=Sl.l) (λx y C _=>P0 (J out (λ_=>Iff.rfl) x C)) Zaa
 have S:∀d,d∈ins r1↔d∈ins out:=λd=>(p1.map Sl.l).mem_iff
 have ab:r1.l.length=out.l.length:=p1.length_eq;have⟨r2,U,nd,R,l2⟩:=U7 (s:=r1) (p:=mM) (f:=Sl.l) (λx y C _=>by unfold mM;rw[Ka (J r1 S x C)];rfl) Zaa H
 rw[q,ζb,U,ζb,bf];exact⟨λd=>(R d).trans ((S d).trans (I d)),nd,Zaa,by unfold ins;rw[pairwise_map];exact H.sublist (XQ U)⟩
end
theorem IY{c:Zg}(h:HO c.l):iE c=some c.l.sum:=by refine Wp.eq ?_;have u:=h.1;unfold iE iE.W1;refine dU c.l.length (λi(q:Int×Int)=>q.2=(i:Int)/\q.1=(c.l.take i).sum) ⟨rfl,rfl⟩ ?_ ?_;rintro i ⟨m,_⟩ a ⟨e,b⟩;simp only at e b;subst e;subst b;unfold iE.bh;rw[fA a,bt,bz a,ζb,bf];have k:=VL h (i+1);rw[Mh a]at k;grind[Mh,fV];simp_all[iE.bh,bA,bf]
theorem MD{a b:Zg}(B:HO a.l)(D:HO b.l)(G:a.l.length=b.l.length):iR a b=some (decide (fH a.l b.l)):=by
 have w:=B.1;unfold iR;rw[IY B,ζb,IY D,ζb];by_cases e:a.l.sum=b.l.sum;rw[show(a.l.sum==b.l.sum)=true from Zac,bt];refine Wp.eq ?_;unfold iR.W1;refine dU a.l.length (λi(q:Int)=>q=(i:Int)/\gJ (a.l.drop i) (b.l.drop i)=gJ a.l b.l) ⟨rfl,rfl⟩ ?_ ?_;rintro i _ c ⟨rfl,h⟩;have u:i<b.l.length:=by omega
 unfold iR.bh;rw[fA c,bt,bz c,ζb,bz u,ζb];rw[QF c u]at h;by_cases e2:a.l[i]=b.l[i];rw[show(a.l[i]==b.l[i])=true from Zac,bt,bf];rw[if_neg Zaa,if_neg Zaa]at h;grind[cr];rw[show(a.l[i]==b.l[i])=false from Zac,bA,ζb,ζb,bf];refine(bf _).2 ?_;have hd:decide (fH a.l b.l)=decide (gJ a.l b.l<0):=decide_eq_decide.2 (fH.Kg e);grind;rintro _ ⟨rfl,h⟩;unfold iR.bh;rw[gw,bA,bf];refine(bf _).2 ?_;have hd:decide (fH a.l b.l)=decide (gJ a.l b.l<0):=decide_eq_decide.2 (fH.Kg e);rw[hd];rw[drop_of_length_le (le_refl _),drop_of_length_le Zaa]at h;rw[<-h];rfl;rw[show(a.l.sum==b.l.sum)=false from Zac,bA,ζb,ζb];grind[fH,Ho,gJ]
theorem HI{a b:Zg}(B:a.l.length<1073741824):eT a b=some (decide (a.l=b.l)):=by
 refine Wp.eq ?_;unfold eT;rw[b7];refine⟨λh=>?_,λh=>(bf _).2 ?_⟩;have h:(a.l.length:Int)=b.l.length:=by grind
 have h:a.l.length=b.l.length:=Zaa;unfold eT.W1;refine dU a.l.length (λn s=>s=(n:Int)/\∀i,i<n->a.l[i]?=b.l[i]?) ⟨rfl,λi h=>absurd h Zaa⟩ ?_ ?_;rintro n _ u ⟨rfl,w⟩;grind[eT.bh,bz,b7,bf,cr];rintro _ ⟨rfl,w⟩;unfold eT.bh;rw[gw,bA,bf];refine(bf _).2 (decide_eq_true (ext_getElem? λi=>?_)).symm;grind;grind
theorem k_(s:Zb):(ins s).length=s.l.length:=by unfold ins;simp
theorem YV(s:Zb)(i:Nat):(ins s)[i]?=(s.l[i]?).map Sl.l:=by grind[ins]
theorem u_{s:Zb}{i:Nat}(h:i<s.l.length):(ins s)[i]?=some s.l[i].l:=by rw[YV,ζd h];rfl
theorem MT{l:Zb}{c:Zg}(U:∀x∈l.l,HO x.l/\x.l.length=c.l.length)(b:HO c.l)(p:l.l.length<1073741824)(Y:(ins l).Pairwise fH):
 Wp (iN l c) λr=>r.l.length<=l.l.length+1/\(ins r).Pairwise fH/\∀d,d∈ins r↔d∈ins l\/d=c.l:=by
 have T:=b.1;have a:∀n:Nat,n<=l.l.length->(∀(i:Nat)x,i<n->(ins l)[i]?=some x->fH x c.l)->(∀x,(ins l)[n]?=some x->¬fH x c.l)->
  Wp ((bg (decide ((n:Int)<(len l))) ((idx l n).bind λI=>(eT I c).bind λJ=>some J) (some false):aY X').bind λL=>
  bg L (some l) ((gN l none (some (n:Int))).bind λw=>(pJ (Sl.row []:Zb) w).bind λz=>(fu z (c:Zg)).bind λB=>(gN l (some (n:Int)) none).bind λC=>(pJ B C).bind λD=>some D))
  λr=>r.l.length<=l.l.length+1/\(ins r).Pairwise fH/\∀d,d∈ins r↔d∈ins l\/d=c.l:=by
  intro n G X Z;have W:(∀x,(ins l)[n]?=some x->x≠c.l)->Wp ((gN l none (some (n:Int))).bind λw=>(pJ (Sl.row []:Zb) w).bind λz=>(fu z (c:Zg)).bind λB=>(gN l (some (n:Int)) none).bind λC=>(pJ B C).bind λD=>some D) λr=>r.l.length<=l.l.length+1/\(ins r).Pairwise fH/\∀d,d∈ins r↔d∈ins l\/d=c.l:=by intro q;have⟨x4,f,e4⟩:=uO l n G;have t:x4.l.length<=l.l.length:=Zac;have⟨x5,g,e5⟩:=Dw (s:=(Sl.row []:Zb)) (x:=x4) (show 0+x4.l.length<=_ by omega);have e5:x5.l=x4.l:=e5;have⟨x6,j,e6⟩:=oK (s:=x5) (x:=c) Zac;have⟨x7,k,e7⟩:=DR l n G;have⟨x8,T,v⟩:=Dw (s:=x6) (x:=x7) Zac;rw[f,ζb,g,ζb,j,ζb,k,ζb,T,ζb,bf];have e:x8.l=l.l.take n++[c]++l.l.drop n:=Zad;have y:ins x8=(ins l).take n++[c.l]++(ins l).drop n:=(by simp_all[ins]);grind[PK,fH.tot]
  by_cases h:n<l.l.length
  .rw[fA h,bt,bz h,ζb,HI (by have:=(U _ (getElem_mem h)).1.1;omega),ζb,ζb]
   by_cases e:l.l[n].l=c.l
   .rw[decide_eq_true e,bt,bf];refine⟨Zaa,Y,λd=>⟨.inl,λO=>O.elim id λO=>?_⟩⟩
    rw[O,<-e];exact qZ.2 ⟨_,getElem_mem h,rfl⟩
   grind[bA,u_]
  rw[show(n:Int)=(l.l.length:Nat)from Zaa,gw,bA,ζb,bA,<-show(n:Int)=(l.l.length:Nat)from Zaa]
  grind[k_]
 unfold iN iN.W1;refine dU l.l.length (λn s=>s=(n:Int)/\∀(i:Nat)x,i<n->(ins l)[i]?=some x->fH x c.l) ⟨rfl,λi x h=>absurd h Zaa⟩ ?_ ?_
 .rintro n _ u ⟨rfl,Q⟩;have⟨m,o⟩:=U _ (getElem_mem u);unfold iN.bh;rw[fA u,bt,bz u,ζb,MD m b o,ζb,ζb]
  by_cases e:fH l.l[n].l c.l
  .rw[decide_eq_true e,bt,bf]
   grind[cr,u_]
  rw[decide_eq_false e,bA,bf];exact a n Zaa Q λx S=>by rw[u_ u]at S;grind
 rintro _ ⟨rfl,Q⟩;unfold iN.bh;rw[gw,bA,ζb,bA,bf];exact a _ (le_refl _) Q λx S=>by have:=(ζe.1 S).1;rw[k_]at this;omega
section
variable{t:Z4}{A:b9 200 bB}
structure eo(t:Trace)(A:b9 200 bB)(L:List (List Int)):Prop where
 srt:L.Pairwise fH
 mem:∀d,d∈L↔Cons t A d
def Da(t:Z4)(A:b9 200 bB):Prop:=∃L:aX Rd,L.Nodup/\(∀d∈L,Cons t A d)/\5000<L.length
theorem eo.one{L R:aX Rd}(h:eo t A L)(k:eo t A R):L=R:=FG h.srt k.srt λx=>(h.mem x).trans (k.mem x).symm
theorem eo.not{L:aX Rd}(h:eo t A L)(B:L.length<=5000)(k:Da t A):False:=by have⟨R,nd,w,u⟩:=k;have:=Br nd λx z=>(h.mem x).2 (w x z);omega
theorem Jd{k:Nat}{o l:aX Rd}(a:∀d,d∈l↔Cons t A d/\d.sum=(k:Int))(B:l.Pairwise fH)(D:o.Pairwise fH)(G:∀d,d∈o↔Cons t A d/\d.sum<(k:Int)):
 (o++l).Pairwise fH/\∀d,d∈o++l↔Cons t A d/\d.sum<((k+1:Nat):Int):=by
 grind[fH.sum]
theorem SI(E:Small t)(g:VT t)(o:fR t (bL t) A):Wp (eO t) λr=>(r.2=true/\eo t A (ins r.1)/\r.1.l.length<=5000)\/(r.2=false/\r.1=.nil/\Da t A):=by
 have Y:=g.few;unfold eO uT;rw[if_pos ⟨Zad,Zac⟩,ζb];unfold eO.W1;have fin:∀(k:Nat)(u out:Zb),BA t A k u->u.l.length=0->(ins out).Pairwise fH->(∀d,d∈ins out↔Cons t A d/\d.sum<(k:Int))->eo t A (ins out):=λk u out b Q G I=>⟨G,λd=>(I d).trans ⟨λh=>h.1,λh=>⟨h,b.none g o Q h⟩⟩⟩
 refine dU (rB t+1) (λk s=>BA t A k s.1/\(ins s.1).Pairwise fH/\(ins s.2).Pairwise fH/\(∀d,d∈ins s.2↔Cons t A d/\d.sum<(k:Int))/\s.1.l.length<=40000/\s.2.l.length<=5000)
  ⟨Pb (by simp[Sl.l,len]),by simp[ins,Sl.l],by simp[ins,Sl.l],λd=>⟨λh=>by grind[ins,Sl.l],λh=>absurd (sM h.1.1.pos) Zac⟩,by simp[Sl.l],by simp[Sl.l]⟩ ?_ ?_
 rintro k ⟨u,out⟩ N ⟨b,C,w,G,I,J⟩;simp only at b C w G I J;unfold eO.bh;rw[Ga];by_cases Q:u.l.length=0;rw[show(!decide (u.l.length=0))=false from Zad,bA,bf];exact(bf _).2 (.inl ⟨rfl,fin k u out b Q w G,J⟩);rw[show(!decide (u.l.length=0))=true from Zad,bt];have⟨x,Z,P⟩:=Dw (s:=out) (x:=u) Zaa;have S:ins x=ins out++ins u:=by grind[ins]
 have⟨o1,o2⟩:=Jd b C w G;rw[<-S]at o1 o2;rw[Z,ζb,b7];refine⟨λT=>(bf _).2 ((bf _).2 (.inr ⟨rfl,rfl,ins x,fH.nodup o1,λd hd=>((o2 d).1 hd).1,?_⟩)),λT=>?_⟩;rw[k_];grind;have T:x.l.length<=5000:=Zac;have R:u.l.length<=5000:=Zac;have F:∀d,Cons t A d->HO d/\d.length=t.procs.l.length:=λd h=>⟨Nw E g h,h.1.1⟩;unfold eO.W2;refine dU u.l.length (λn s=>s.2=(n:Int)/\s.1.l.length<=8*n/\(ins s.1).Pairwise fH/\∀d,d∈ins s.1↔∃c∈(u.l.take n).map Sl.l,EZ t A c d) ⟨rfl,zero_le _,by simp[ins,Sl.l],λd=>by simp[ins,Sl.l]⟩ ?_ ?_;rintro n ⟨more,_⟩ B ⟨e,g1,i,g2⟩;simp only at e g1 i g2;subst e;unfold eO.bH;have U:=(b u.l[n].l).1 (qZ.2 ⟨_,getElem_mem B,rfl⟩);rw[fA B,bt,bz B,ζb,eA];refine(WY E g o U.1).mono λnx O=>?_;unfold eO.W3;refine dU nx.l.length (λm s=>s.2=(m:Int)/\s.1.l.length<=8*n+m/\(ins s.1).Pairwise fH/\∀d,d∈ins s.1↔d∈ins more\/d∈(nx.l.take m).map Sl.l) ⟨rfl,g1,i,λd=>Zab⟩ ?_ ?_;rintro m ⟨W,_⟩ D ⟨e,q,fs,f⟩;simp only at e q fs f;subst e;unfold eO.fh;rw[fA D,bt,bz D,ζb,eA];have H:=(O.2 nx.l[m].l).1 (qZ.2 ⟨_,getElem_mem D,rfl⟩);have⟨_,_,_,_,X⟩:=H;refine(MT (l:=W) (c:=nx.l[m]) (λy K=>?_) (F _ X).1 Zaa fs).mono λr v=>?_;have V:Cons t A y.l:=by rcases(f y.l).1 (qZ.2 ⟨_,K,rfl⟩)with h|h;have⟨_,_,p,a,_,_,k⟩:=(g2 y.l).1 h;omega;have⟨z,M,e⟩:=mem_map.1 h;have⟨p,a,_,_,k⟩:=(O.2 z.l).1 (qZ.2 ⟨_,mem_of_mem_take M,rfl⟩);rw[<-e];exact k
 grind;refine(bf _).2 ⟨cr m Zaa,Nat.le_trans v.1 Zaa,v.2.1,λd=>?_⟩;rw[v.2.2,f,Be D,or_assoc];rintro⟨W,_⟩ ⟨e,q,fs,f⟩;simp only at e q fs f;subst e;unfold eO.fh;rw[gw,bA,bf];refine(bf _).2 ⟨cr n Zaa,show W.l.length<=_ by omega,fs,λd=>?_⟩;rw[f,take_length];constructor;rintro(h|h);grind;exact⟨_,(Be B).2 (.inr rfl),(O.2 d).1 h⟩;rintro⟨c,j,L⟩;rcases(Be B).1 j with h|h;grind;subst h;exact .inr ((O.2 d).2 L);rintro⟨more,_⟩ ⟨e,g1,i,g2⟩;simp only at e g1 i g2;subst e;unfold eO.bH;rw[gw,bA,bf];refine(bf _).2 ⟨λd=>?_,i,o1,o2,show more.l.length<=_ by omega,T⟩;rw[g2,take_length,<-EZ.iff g o (k:=k)];exact⟨λ⟨c,j,L⟩=>⟨c,(b c).1 j,L⟩,λ⟨c,j,L⟩=>⟨c,(b c).2 j,L⟩⟩;rintro⟨u,out⟩ ⟨b,C,w,G,I,J⟩;simp only at b C w G I J;unfold eO.bh;rw[Ga,show(!decide (u.l.length=0))=false from by simp[b.last],bA,bf];exact(bf _).2 (.inl ⟨rfl,fin _ u out b b.last w G,J⟩)
theorem Vm(a:VT t)(b:Small t):rB t<8589934600:=by
 have key:∀(l:aX bR),(∀p∈l,p.events.l.length<1073741824)->(l.map λP=>P.events.l.length).sum<=1073741824*l.length:=by intro l;induction l with|nil=>grind|cons x l w=>grind
 have c:=key t.procs.l λp u=>(b.2 p u).1;have z:=a.few;grind[rB]
theorem XE{k:Int}{L:aX Rd}(nd:L.Nodup)(B:L.Pairwise λx y=>¬gJ y x<0)(a:∀d∈L,d.sum=k):L.Pairwise fH:=by refine(B.and nd).imp_of_mem λ{x y}u w h=>?_;grind[fH.Kg,AA]
theorem QX(c:Small t)(g:cG t=some true)(b:VT t)(f:fR t (bL t) A):
 Wp (uJ t) λr=>(r.2=0/\eo t A (ins r.1)/\r.1.l.length<=5000)\/(r.2=16/\r.1=.nil/\Da t A):=by
 have S:=b.few;have X:=Vm b c;unfold uJ lz;rw[g,ζb,bt,eA,eA];refine(of_wp c g b f).mono λm T=>?_
 unfold uT;rw[if_pos ⟨Zad,Zac⟩,ζb]
 have fin:∀(k:Nat)(u:Zb)(out:Sl Zb),BA t A k u->u.l.length=0->(out.l.flatMap ins).Pairwise fH->(∀d,d∈out.l.flatMap ins↔Cons t A d/\d.sum<(k:Int))->out.l.length<=5000->(out.l.flatMap ins).length<=5000->
  Wp ((gI out).bind λC=>some (C,(0:Int))) λr=>(r.2=0/\eo t A (ins r.1)/\r.1.l.length<=5000)\/(r.2=16/\r.1=.nil/\Da t A):=λk u out a Q D U Y Z=>by
  have z:(out.l.flatMap Sl.l).map Sl.l=out.l.flatMap ins:=by rw[List.map_flatMap];rfl
  have i:(EI out).l=out.l.flatMap Sl.l:=by unfold EI;split;(next h=>exact(List.length_eq_zero_iff.1 h).symm);rfl
  unfold gI;rw[if_pos ⟨Zaa,Zac⟩,ζb,bf]
  have e:ins (EI out)=out.l.flatMap ins:=by grind[ins]
  refine .inl ⟨rfl,⟨Zac,λd=>by rw[e];exact(U d).trans ⟨λh=>h.1,λh=>⟨h,a.none b f Q h⟩⟩⟩,?_⟩
  grind
 unfold lz.W1;refine dU (rB t+1) (λk s=>BA t A k s.1/\(ins s.1).Pairwise fH/\(s.2.1.l.flatMap ins).Pairwise fH/\(∀d,d∈s.2.1.l.flatMap ins↔Cons t A d/\d.sum<(k:Int))/\s.2.2=((s.2.1.l.flatMap ins).length:Int)/\s.2.1.l.length<=(s.2.1.l.flatMap ins).length/\(s.2.1.l.flatMap ins).length<=5000/\s.1.l.length<=40000)
  ⟨Pb (by simp[Sl.l,len]),by simp[ins,Sl.l],by simp[Sl.l],λd=>⟨λh=>by grind[Sl.l],λh=>absurd (sM h.1.1.pos) Zac⟩,by simp[Sl.l],by simp[Sl.l],by simp[Sl.l],by simp[Sl.l]⟩ ?_ ?_
 .rintro k ⟨u,out,tot⟩ hk ⟨a,B,w,D,I,L,J,O⟩;simp only at a B w D I L J O;have⟨o1,o2⟩:=Jd a B w D;unfold lz.bh;rw[Ga]
  by_cases Q:u.l.length=0
  .rw[show(!decide (u.l.length=0))=false from Zad,bA,bf]
   grind[bf]
  rw[show(!decide (u.l.length=0))=true from Zad,bt,I]
  have W:wrap .i64 (((out.l.flatMap ins).length:Int)+len u)=(((out.l.flatMap ins).length+u.l.length:Nat):Int):=by have e:len u=(u.l.length:Int):=rfl;rw[e,fV _ Zaa Zaa];omega
  rw[W,b7];refine⟨λG=>(bf _).2 ((bf _).2 ?_),λG=>?_⟩
  .show Wp (((gI (Sl.nil:Sl Zb)).bind λC=>some (C,(16:Int)))) _
   have e0:gI (Sl.nil:Sl Zb)=some .nil:=by unfold gI;rfl
   rw[e0,ζb,bf];refine .inr ⟨rfl,rfl,out.l.flatMap ins++ins u,fH.nodup o1,λd hd=>((o2 d).1 hd).1,?_⟩
   have G:=of_decide_eq_true G;rw[ζi,k_];omega
  have G:=of_decide_eq_false G;have⟨o3,g1,g2⟩:=oK (s:=out) (x:=u) Zaa
  rw[g1,ζb,eA];refine(VK c b f T a Zaa).mono λr⟨r1,r2,r3,r4⟩=>?_
  have z:o3.l.flatMap ins=out.l.flatMap ins++ins u:=by rw[g2];simp
  refine(bf _).2 ⟨r1,XE r2 r4 λd hd=>((r1 d).1 hd).2,by rw[z];exact o1,λd=>by rw[z];exact o2 d,by rw[z,ζi,k_],?_,?_,r3⟩
  all_goals grind[k_]
 rintro⟨u,out,tot⟩ ⟨a,B,w,D,I,L,J,O⟩;simp only at a B w D I L J O;unfold lz.bh;rw[Ga,show(!decide (u.l.length=0))=false from by simp[a.last],bA,bf]
 exact(bf _).2 (fin _ u out a a.last w D Zaa J)
theorem Fi(a:Small t)(f:cG t=some true)(c:VT t)(d:fR t (bL t) A):
 (∃L r s,eo t A L/\L.length<=5000/\uJ t=some (r,0)/\eO t=some (s,true)/\ins r=L/\ins s=L)\/
 (uJ t=some (.nil,16)/\eO t=some (.nil,false)):=by
 have⟨⟨r,e⟩,g,h⟩:=QX a f c d;have⟨⟨s,b⟩,z,w⟩:=SI a c d;rcases h with⟨rfl,k1,k2⟩|⟨rfl,rfl,k1⟩
 .rcases w with⟨rfl,u,B⟩|⟨rfl,rfl,u⟩
  .exact .inl ⟨ins r,r,s,k1,by rw[k_];omega,g,z,rfl,u.one k1⟩
  exact(k1.not (by rw[k_];omega) u).elim
 rcases w with⟨rfl,u,B⟩|⟨rfl,rfl,u⟩
 .exact(u.not (by rw[k_];omega) k1).elim
 grind
end
theorem M8{t:Z4}(f:Small t)(g:cG t=some true)(d:VT t){A:b9 200 bB}(j:fR t (bL t) A)(c:Zg):Wp (kn t c) λr=>Code t A c.l r.2:=by
 have D:=d.few;unfold kn;rw[eA];refine(QW f g d j c).mono λr b=>?_;rw[b7];constructor;intro a;have a:r=0:=by simpa using a
 have k:=b.zero.1 a;have B:=k.1.1;unfold kn.W1;refine fE (λs:Sl a_×Int=>∃n:Nat,s.2=n/\n<=c.l.length/\s.1.l.length<=n) (λs=>c.l.length-s.2.toNat) ⟨0,rfl,zero_le _,le_refl _⟩ ?_;rintro⟨o,i⟩ ⟨n,e,G,C⟩;simp only at e C;subst e;unfold kn.bh;rw[b7];constructor;intro h;have w:n<c.l.length:=by simpa[len]using h
 have z:=cr n Zaa;have u:c.l.length-(wrap .i64 ((n:Int)+1)).toNat<c.l.length-((n:Int)).toNat:=by rw[z];simp;omega
 rw[bz w,ζb,b7];constructor;intro _;unfold fu;rw[if_pos (show o.l.length+1<=2147483648 from Zaa),ζb,bf];exact⟨⟨n+1,z,Zaa,by show(o.l++[_]).length<=n+1;rw[ζi,length_singleton];omega⟩,u⟩;intro _;exact(bf _).2 ⟨⟨n+1,z,Zaa,show o.l.length<=n+1 from Zaa⟩,u⟩;intro _;exact(bf _).2 ((bf _).2 (a▸b));intro a;exact(bf _).2 b
end Go.VE
namespace Go.VE
theorem Code.one{t:Z4}{A:b9 200 bB}{c:Rd}{r s:Int}(h:Code t A c r)(g:Code t A c s):r=s:=by rcases h with⟨h,rfl⟩|⟨a,u,rfl⟩|⟨a,u,rfl⟩|⟨a,u,rfl⟩<;>rcases g with⟨g,rfl⟩|⟨g1,g2,rfl⟩|⟨g1,g2,rfl⟩|⟨g1,g2,rfl⟩<;>first|rfl|contradiction|exact absurd ‹rM t c›.1 ‹_›
def LeL(c d:Rd):Prop:=∀(p:Nat)(a b:Int),c[p]?=some a->d[p]?=some b->a<=b
section
variable{t:Z4}{A:b9 200 bB}
theorem Ua(g:Small t)(h:cG t=some true)(i:VT t)(j:fR t (bL t) A){c:Zg}(d:Cons t A c.l){ps:ST}(D:∀r∈ps,r<t.procs.l.length)(G:ps.length<1073741824):
 dw t (Sl.row [c]:Zb) (Sl.row (ps.map λn:Nat=>(n:Int)):Zg)=some 0:=by
 refine Wp.eq ?_;have u:=d.1.1;unfold dw zA;rw[h,ζb,bt,yF (f:=λz=>(lQ z t).getD false) (λz _=>NJ.ok ((bf _).2 trivial)) (by simp[Sl.l]),ζb,ζb,ζb]
 have w:(!((Sl.row [c]:Zb).l.any λz=>(lQ z t).getD false))=true:=by simp[Sl.l,lQ,len,u]<;>exact congrArg Int.ofNat u
 rw[w,bt];unfold dw.W1;refine dU 1 (λn s=>s=(n:Int)) rfl ?_ ?_
 .rintro n _ B rfl;obtain rfl:n=0:=by omega
  unfold dw.bh;rw[show decide (((0:Nat):Int)<len (Sl.row [c]:Zb))=true from rfl,bt,show idx (Sl.row [c]:Zb) ((0:Nat):Int)=some c from rfl,ζb,eA];refine(F9 g u).mono λb C=>?_
  rw[C.2 d.1,bt];exact(bf _).2 rfl
 rintro _ rfl;unfold dw.bh;rw[show decide (((1:Nat):Int)<len (Sl.row [c]:Zb))=false from rfl,bA,bf];have a:∀r:Nat,r<t.procs.l.length->wJ t r=some true:=λr e=>by unfold wJ;rw[show decide ((r:Int)>=0)=true from Zab,bt,fA e];rfl
 show Wp (dw.W2 (Sl.row [c]) (Sl.row (ps.map λn:Nat=>(n:Int))) (len (Sl.row (ps.map λn:Nat=>(n:Int)))) 0 t) _
 unfold dw.W2;refine dU ps.length (λn s=>s=(n:Int)) rfl ?_ ?_
 .rintro n _ B rfl;unfold dw.bH;have I:idx (Sl.row (ps.map λn:Nat=>(n:Int))) (n:Int)=some ((ps[n]:Nat):Int):=by
   rw[bz (show n<(Sl.row (ps.map λn:Nat=>(n:Int))).l.length by simpa[Sl.l]using B)]
   simp[Sl.l]
  rw[show decide ((n:Int)<len (Sl.row (ps.map λn:Nat=>(n:Int))))=true from by simp[len,Sl.l];omega,bt,I,ζb,a _ (D _ (getElem_mem B)),ζb,bt]
  exact(bf _).2 (cr n Zaa)
 rintro _ rfl;unfold dw.bH;rw[show decide (((ps.length:Nat):Int)<len (Sl.row (ps.map λn:Nat=>(n:Int))))=false from by simp[len,Sl.l],bA,bf]
 show Wp (dw.W3 (Sl.row [c]) 1 0 t) _;unfold dw.W3;refine dU 1 (λn s=>s=(n:Int)) rfl ?_ ?_
 .rintro n _ B rfl;obtain rfl:n=0:=by omega
  unfold dw.fh;rw[show decide (((0:Nat):Int)<1)=true from rfl,bt,show idx (Sl.row [c]:Zb) ((0:Nat):Int)=some c from rfl,ζb];unfold xP;rw[eA,eA];refine(Fp g h i j d.1).mono λr e=>?_
  rw[bf,e.2 d.2];exact(bf _).2 rfl
 rintro _ rfl;unfold dw.fh;rw[show decide (((1:Nat):Int)<1)=false from rfl,bA,bf];exact(bf _).2 rfl
theorem Se(a:Small t)(b:cG t=some true)(d:VT t)(e:fR t (bL t) A){c:Zg}(f:Cons t A c.l){p q:Nat}(hp:p<t.procs.l.length)(B:q<t.procs.l.length):
 dw t (Sl.row [c]:Zb) (Sl.row [(p:Int),(q:Int)]:Zg)=some 0:=Ua a b d e f (ps:=[p,q]) (by simp[hp,B]) Zab
theorem VA(b:Small t)(c:cG t=some true)(kind m:Int):jg t kind m=some (match(bL t).find? (mN kind m)with|some x=>(x.1,true)|none=>(⟨0,0⟩,false)):=by
 refine Wp.eq ?_;unfold jg;rw[c,ζb,bt];unfold j_;rw[ζb];unfold jg.E1;rw[vf b,ζb];refine Ay (λk _=>((bL t).take k).find? (mN kind m)=none) Zab ?_ ?_;intro k y _ z u;have w:(bL t).take (k+1)=(bL t).take k++[y]:=by rw[take_add_one,z];rfl
 have B:(y.2.kind==kind&&y.2.message==m)=mN kind m y:=rfl;unfold jg.kV;rw[oM,ζb,B,b7];constructor;intro a;refine(bf _).2 ((bf _).2 ?_);have:(bL t).find? (mN kind m)=some y:=by rw[<-take_append_drop (k+1) (bL t),w,find?_append,find?_append,u];simp[a]
 rw[this];intro a;rw[bf,w,find?_append,u];simp[a];intro _ u;rw[take_length]at u;exact(bf _).2 (by rw[u])
theorem VH(f:Small t)(g:cG t=some true)(h:VT t)(i:fR t (bL t) A){c:Zg}(d:Cons t A c.l){p q:Nat}(hp:p<t.procs.l.length)(J:q<t.procs.l.length):
 Wp (jx t c p q) λr=>r.2=0/\(r.1.l.length:Int)=under t c.l p q:=by
 have I:=ζd hp;have⟨a,L⟩:=d.1.at_ hp;have⟨b,C⟩:=d.1.at_ J;rw[HS h i d I (ζd J) L C];have Y:=(f.2 _ (getElem_mem hp)).1;have⟨a0,a1⟩:=d.1.2 p a _ L I;generalize Z:t.procs.l[p]=P at *;unfold jx;rw[Se f g h i d hp J,ζb,show((0:Int)==0)=true from rfl,bt,gY,I,ζb,show idx c (p:Int)=some a from by rw[gY];exact L,ζb]
 have⟨y,X,D⟩:=uO P.events a.toNat Zaa
 rw[show((a.toNat:Nat):Int)=a from Zaa]at X
 rw[X,ζb,<-D];have H:y.l.length<=P.events.l.length:=by rw[D,length_take];omega
 unfold jx.W1;refine dU y.l.length (λn s=>s.2.1=len y/\s.2.2=(n:Int)/\s.1.l.length=(y.l.take n).countP λe=>en q e&&nU t c.l e) ⟨rfl,rfl,rfl⟩ ?_ ?_
 .rintro n ⟨o,_,_⟩ w ⟨e1,e2,z⟩;simp only at e1 e2 z;subst e1 e2;have O:=List.countP_le_length (p:=λe=>en q e&&nU t c.l e) (l:=y.l.take n)
  rw[length_take]at O;have u:(y.l.take (n+1)).countP (λe=>en q e&&nU t c.l e)=o.l.length+if en q y.l[n]&&nU t c.l y.l[n]then 1 else 0:=by rw[take_add_one,ζd w,List.countP_append,z];show _+List.countP _ [y.l[n]]=_;rw[countP_cons,List.countP_nil];simp
  have Q:=cr n Zaa
  unfold jx.bh;rw[fA w,bt,bz w,ζb];generalize y.l[n]=e at u;have S:(bg (e.kind==2) (some (!(e.peer==(q:Int)))) (some true):aY X')=some (!en q e):=by unfold en;cases e.kind==2<;>cases e.peer==(q:Int)<;>rfl
  rw[S,ζb,b7];refine⟨λB=>(bf _).2 ⟨rfl,Q,by rw[u,show en q e=false from by simpa using B];rfl⟩,λB=>?_⟩
  have B:en q e=true:=by simpa using B
  unfold vW;rw[VA f g,ζb,ζb];have k:(bg (match(bL t).find? (mN 3 e.message)with|some x=>(x.1,true)|none=>((⟨0,0⟩:a_),false)).2 ((idx c (match(bL t).find? (mN 3 e.message)with|some x=>(x.1,true)|none=>((⟨0,0⟩:a_),false)).1.proc).bind λT=>some (decide ((match(bL t).find? (mN 3 e.message)with|some x=>(x.1,true)|none=>((⟨0,0⟩:a_),false)).1.index>T))) (some true):aY X')=some (nU t c.l e):=by unfold nU gU;cases m:(bL t).find? (mN 3 e.message)with|none=>rfl|some x=>have⟨U,j,⟨K,W,_⟩,v⟩:=dP.1 (yf m).1;have G:U<c.l.length:=(by rw[d.1.1];exact(ζe.1 W).1);simp only[v,bt];rw[bz G,ζb,show((U:Nat):Int).toNat=U from rfl,ζd G,show(((j:Int)+1)==0)=false from by simp;omega,Bool.false_or];rfl
  rw[k,ζb,b7];refine⟨λC=>?_,λC=>(bf _).2 ⟨rfl,Q,by rw[u,B,C];rfl⟩⟩
  have⟨r,E,F⟩:=oK (s:=o) (x:=e.message) Zaa
  rw[E,ζb,bf];exact⟨rfl,Q,by rw[F,u,B,C,ζi];rfl⟩
 rintro⟨o,_,_⟩ ⟨e1,e2,z⟩;simp only at e1 e2 z;subst e1 e2;unfold jx.bh;rw[gw,bA,bf];refine(bf _).2 ⟨rfl,?_⟩;rw[take_length]at z;simp only[z]
theorem Cy(a:VT t){p:Nat}{P:bR}(B:t.procs.l[p]?=some P):P.events.l.length<=64:=by have h:=a.ok.heads p (ζe.1 B).1;unfold ta at h;rw[B]at h;simp only at h;split at h;split at h;cases h;split at h;split at h;cases h;omega;rename_i u;exact absurd h u;cases h
theorem XP(a:VT t):rB t<=512:=by
 have key:∀l:aX bR,(∀P∈l,P.events.l.length<=64)->(l.map λP=>P.events.l.length).sum<=64*l.length:=by intro l;induction l with|nil=>intro _;simp|cons P l u=>intro h;have b:=h P (mem_cons_self ..);have C:=u λQ w=>h Q (mem_cons_of_mem _ w);simp only[map_cons,sum_cons,length_cons];omega
 have:=key t.procs.l λP z=>by have⟨p,B⟩:=List.mem_iff_getElem?.1 z;exact Cy a B
 have:=a.few;unfold rB;omega
theorem adj(a:VT t):rB t<1073741824:=by have:=XP a;omega
end
abbrev mD(m:aY Bool)(P:Prop):Prop:=Wp m λb=>(b=true↔P)
theorem mD.eq{m:aY X'}{P:Prop}(h:mD m P):∃b,m=some b/\(b=true↔P):=h
theorem mD.iff{m:aY X'}{P Q:Prop}(h:mD m P)(e:P↔Q):mD m Q:=h.mono λb u=>u.trans e
theorem Dq{b:X'}{P:Prop}(h:b=true↔P):mD (some b) P:=(bf _).2 h
theorem mD.some{m:aY X'}{P:Prop}(h:mD m P):mD (m.bind λx=>Option.some x) P:=by have⟨b,u,h⟩:=h;rw[u];exact Dq h
theorem mD.same{m n:aY X'}{P:Prop}(h:mD m P)(k:mD n P):∃b,m=Option.some b/\n=Option.some b/\(b=true↔P):=by
 obtain⟨b,u,h⟩:=h;obtain⟨d,hd,k⟩:=k;have:b=d:=by rw[Bool.eq_iff_iff,h,k]
 subst this;exact⟨b,u,hd,h⟩
theorem mD.and{m n:aY X'}{P Q:Prop}(h:mD m P)(k:P->mD n Q){f:X'->aY X'}(B:∀b,f b=bg b (n.bind λx=>Option.some x) (Option.some false)):mD (m.bind f) (P/\Q):=by have⟨b,u,h⟩:=h;rw[u,ζb,B];cases b with|true=>exact((k (h.1 rfl)).some).iff ⟨λq=>⟨h.1 rfl,q⟩,λq=>q.2⟩|false=>exact Dq ⟨λe=>(nomatch e),λq=>(h.2 q.1).symm▸rfl⟩
theorem T3{step:Int->aY (Fw Int Unit Unit)}{n:Nat}{P:Nat->Prop}(h:∀i,i<n->(∀j,j<i->P j)->Wp (step (i:Int)) λw=>P i/\w=.n ((i+1:Nat):Int)\/¬P i/\w=.r ())(B:(∀j,j<n->P j)->step (n:Int)=some (.x ())):
 Wp (bF step 0) λw=>(∀i,i<n->P i)/\w=.x ()\/(¬∀i,i<n->P i)/\w=.r ():=by
 have key:∀m k,k+m=n->(∀j,j<k->P j)->Wp (bF step (k:Int)) λw=>(∀i,i<n->P i)/\w=.x ()\/(¬∀i,i<n->P i)/\w=.r ():=by intro m;induction m with|zero=>intro k b u;have:k=n:=Zaa;subst this;rw[eP,B u,ζb];exact(bf _).2 (.inl ⟨u,rfl⟩)|succ m C=>intro k b u;rw[eP,eA];refine(h k Zaa u).mono ?_;rintro w (⟨a,rfl⟩|⟨a,rfl⟩);exact C (k+1) Zaa λj z=>(by rcases Nat.lt_or_eq_of_le (Nat.lt_succ_iff.1 z)with z|rfl;exact u j z;exact a);exact(bf _).2 (.inr ⟨λk2=>a (k2 k Zaa),rfl⟩)
 exact key n 0 Zaa λj z=>absurd z Zaa
theorem Rj{step:Int->aY (Fw Int Unit Unit)}{n:Nat}{P:Nat->Prop}(h:∀i,i<n->(∀j,j<i->P j)->Wp (step (i:Int)) λw=>P i/\w=.n ((i+1:Nat):Int)\/¬P i/\w=.r ())(B:(∀j,j<n->P j)->step (n:Int)=some (.x ())):
 mD ((bF step 0).bind (Fw.elim (λ_=>some true) (λ_=>some false))) (∀i,i<n->P i):=by
 rw[mD,eA];refine(T3 h B).mono ?_;rintro w (⟨a,rfl⟩|⟨a,rfl⟩)
 .exact Dq ⟨λ_=>a,λ_=>rfl⟩
 exact Dq ⟨λe=>(nomatch e),λu=>absurd u a⟩
theorem Sr{b:X'}{P:Prop}{n:Int}{k:Nat}(h:b=true↔¬P)(B:n=((k+1:Nat):Int)):Wp (bg b (some (.r ())) (some (.n n))) λw:Fw Int Unit Unit=>P/\w=.n ((k+1:Nat):Int)\/¬P/\w=.r ():=by cases b with|true=>exact(bf _).2 (.inr ⟨h.1 rfl,rfl⟩)|false=>exact(bf _).2 (.inl ⟨byContradiction λq=>(nomatch h.2 q),by rw[B]⟩)
def dV(a b:Rd):Prop:=a.length=b.length/\∀(p:Nat)(x y:Int),a[p]?=some x->b[p]?=some y->x<=y
theorem aaw{a b:Rd}(B:a.length=b.length):(∀i,i<a.length->∀x y,a[i]?=some x->b[i]?=some y->x<=y)↔dV a b:=⟨λh=>⟨B,λp x y u w=>h p (ζe.1 u).1 x y u w⟩,λh i _ x y u w=>h.2 i x y u w⟩
theorem Y3{a b:Zg}(J:a.l.length<1073741824){step:Int->aY (Fw Int Unit Unit)}
 (G:∀i,step i=bg (decide (i<len a)) ((idx a i).bind λB=>(idx b i).bind λD=>bg (decide (B>D)) (some (.r ())) (some (.n (wrap .i64 (i+1))))) (some (.x ()))):
 mD (bg ((len a)==(len b)) ((bF step 0).bind (Fw.elim (λ_=>some true) (λ_=>some false))) (some false)) (dV a.l b.l):=by
 by_cases u:a.l.length=b.l.length
 .rw[show((len a)==(len b))=true from by simp[len,u],bt]
  refine(Rj (n:=a.l.length) (P:=λi=>∀x y,a.l[i]?=some x->b.l[i]?=some y->x<=y) ?_ ?_).iff (aaw u)
  .intro i hi _;have w:i<b.l.length:=by omega
   rw[G,fA hi,bt,bz hi,ζb,bz w,ζb];refine Sr ?_ (cr i Zaa)
   rw[decide_eq_true_eq];constructor
   .intro h k;have:=k _ _ (ζd hi) (ζd w);omega
   intro h;refine byContradiction λI=>h λx y z C=>?_
   rw[ζd hi]at z;rw[ζd w]at C;cases z;cases C;omega
  intro _;rw[G,gw,bA]
 rw[show((len a)==(len b))=false from by simp[len];omega,bA]
 exact Dq ⟨λe=>(nomatch e),λh=>absurd h.1 u⟩
theorem ac1{a b:Zg}(B:a.l.length<1073741824):mD (qI a b) (dV a.l b.l):=Y3 B λi=>rfl
section
variable{t:Z4}{A:b9 200 bB}
theorem PB(a:Small t)(b:cG t=some true)(d:VT t)(e:fR t (bL t) A)(c:Zg):mD (sY t c) (Cons t A c.l):=by obtain⟨r,f,h⟩:=TW a b d e c;unfold sY;rw[f,ζb];exact Dq (by rw[beq_iff_eq,h];exact Iff.rfl)
def qm(g:Int->Int->Int)(a b c:Rd):Prop:=c.length=a.length/\∀(p:Nat)(x y:Int),a[p]?=some x->b[p]?=some y->c[p]?=some (g x y)
def BU(x y:Int):Int:=if y>x then y else x
def je(x y:Int):Int:=if y<x then y else x
theorem qm.of(g:Int->Int->Int){a b:Rd}(h:a.length=b.length):qm g a b (zipWith g a b):=⟨by simp[h],λp x y u w=>by rw[List.getElem?_zipWith,u,w]⟩
theorem qm.at_{g:Int->Int->Int}{a b c:Rd}(h:qm g a b c)(D:a.length=b.length){p:Nat}{z:Int}(B:c[p]?=some z):∃x y,a[p]?=some x/\b[p]?=some y/\z=g x y:=by
 have u:p<a.length:=by rw[<-h.1];exact(ζe.1 B).1
 refine⟨a[p],b[p]' Zaa,ζd u,ζd Zaa,?_⟩;have:=h.2 p _ _ (ζd u) (ζd (show p<b.length by omega));rw[B]at this;cases this;rfl
theorem vC(x y:Int):(BU x y=x/\y<=x)\/(BU x y=y/\x<=y):=by unfold BU;split<;>omega
theorem we(x y:Int):(je x y=x/\x<=y)\/(je x y=y/\y<=x):=by unfold je;split<;>omega
theorem join_cons{a b c:Rd}(B:Cons t A a)(D:Cons t A b)(h:qm BU a b c):Cons t A c:=by have L:a.length=b.length:=B.1.1.trans D.1.1.symm;refine⟨⟨h.1.trans B.1.1,λp z P C O=>?_⟩,λp k e z Q C f w=>?_⟩;obtain⟨x,y,G,I,rfl⟩:=h.at_ L C;have i:=B.1.2 p x P G O;have U:=D.1.2 p y P I O;rcases vC x y with⟨e,_⟩|⟨e,_⟩<;>rw[e]<;>assumption;obtain⟨x,y,G,I,rfl⟩:=h.at_ L C;rcases vC x y with⟨S,_⟩|⟨S,_⟩<;>rw[S]at f;have⟨u,d,J⟩:=B.2 p k e x Q G f w;have T:=(ζe.1 d).1;have g:=ζd (show(ag A e.message).from_.proc.toNat<b.length by omega);exact⟨_,h.2 _ _ _ d g,by rcases vC u b[(ag A e.message).from_.proc.toNat]with⟨e2,_⟩|⟨e2,_⟩<;>rw[e2]<;>omega⟩;have⟨u,d,J⟩:=D.2 p k e y Q I f w;have T:=(ζe.1 d).1;have g:=ζd (show(ag A e.message).from_.proc.toNat<a.length by omega);exact⟨_,h.2 _ _ _ g d,by rcases vC a[(ag A e.message).from_.proc.toNat] u with⟨e2,_⟩|⟨e2,_⟩<;>rw[e2]<;>omega⟩
theorem Jh{a b c:Rd}(B:Cons t A a)(D:Cons t A b)(h:qm je a b c):Cons t A c:=by
 have Q:a.length=b.length:=B.1.1.trans D.1.1.symm;refine⟨⟨h.1.trans B.1.1,λp z P C S=>?_⟩,λp k e z T C g w=>?_⟩;obtain⟨x,y,G,I,rfl⟩:=h.at_ Q C;have i:=B.1.2 p x P G S;have X:=D.1.2 p y P I S;rcases we x y with⟨e,_⟩|⟨e,_⟩<;>rw[e]<;>assumption;obtain⟨x,y,G,I,rfl⟩:=h.at_ Q C;have J:(k:Int)<x:=by rcases we x y with⟨L,_⟩|⟨L,_⟩<;>omega
 have O:(k:Int)<y:=by rcases we x y with⟨L,_⟩|⟨L,_⟩<;>omega
 have⟨u,d,W⟩:=B.2 p k e x T G J w;have⟨v,f,U⟩:=D.2 p k e y T I O w;exact⟨_,h.2 _ _ _ d f,by rcases we u v with⟨e2,_⟩|⟨e2,_⟩<;>rw[e2]<;>omega⟩
theorem dV.trans{a b c:Rd}(h:dV a b)(k:dV b c):dV a c:=by
 refine⟨h.1.trans k.1,λp x z u w=>?_⟩;have B:p<b.length:=by rw[<-h.1];exact(ζe.1 u).1
 have e:=ζd B;exact Int.le_trans (h.2 p x _ u e) (k.2 p _ z e w)
theorem dV.refl(a:Rd):dV a a:=⟨rfl,λp x y w u=>by rw[w]at u;cases u;exact Int.le_refl _⟩
theorem qm.le_max{a b c:Rd}(h:qm BU a b c)(D:a.length=b.length):dV a c/\dV b c/\∀d,dV a d->dV b d->dV c d:=by refine⟨⟨h.1.symm,λp x z G u=>?_⟩,⟨D.symm.trans h.1.symm,λp y z I u=>?_⟩,λd J O=>⟨h.1.trans J.1,λp z w u L=>?_⟩⟩;obtain⟨Q,y,B,I,rfl⟩:=h.at_ D u;rw[G]at B;cases B;rcases vC x y with⟨e2,_⟩|⟨e2,_⟩<;>rw[e2]<;>omega;obtain⟨x,S,G,C,rfl⟩:=h.at_ D u;rw[I]at C;cases C;rcases vC x y with⟨e2,_⟩|⟨e2,_⟩<;>rw[e2]<;>omega;obtain⟨x,y,G,I,rfl⟩:=h.at_ D u;have e:=J.2 p x w G L;have T:=O.2 p y w I L;rcases vC x y with⟨e2,_⟩|⟨e2,_⟩<;>rw[e2]<;>assumption
theorem qm.le_min{a b c:Rd}(h:qm je a b c)(D:a.length=b.length):dV c a/\dV c b/\∀d,dV d a->dV d b->dV d c:=by refine⟨⟨h.1,λp z x u G=>?_⟩,⟨h.1.trans D,λp z y u I=>?_⟩,λd J O=>⟨J.1.trans h.1.symm,λp w z L u=>?_⟩⟩;obtain⟨Q,y,B,I,rfl⟩:=h.at_ D u;rw[G]at B;cases B;rcases we x y with⟨e2,_⟩|⟨e2,_⟩<;>rw[e2]<;>omega;obtain⟨x,S,G,C,rfl⟩:=h.at_ D u;rw[I]at C;cases C;rcases we x y with⟨e2,_⟩|⟨e2,_⟩<;>rw[e2]<;>omega;obtain⟨x,y,G,I,rfl⟩:=h.at_ D u;have e:=J.2 p w x L G;have T:=O.2 p w y L I;rcases we x y with⟨e2,_⟩|⟨e2,_⟩<;>rw[e2]<;>assumption
theorem qm.one{g:Int->Int->Int}{a b c d:Rd}(h:qm g a b c)(k:qm g a b d)(B:a.length=b.length):c=d:=by refine ext_getElem? λp=>?_;by_cases u:p<a.length;rw[h.2 p _ _ (ζd u) (ζd Zaa),k.2 p _ _ (ζd u) (ζd Zaa)];rw[getElem?_eq_none (by rw[h.1];omega),getElem?_eq_none (by rw[k.1];omega)]
def jq(l:Sl X')(i:Nat):X':=(l.l[i]?).getD false
def trc(L:aX Rd)(l:Sl X')(c:Rd):X':=jq l (L.idxOf c)
theorem G_{l:Sl X'}{i:Nat}(h:i<l.l.length):idx l (i:Int)=some (jq l i):=by rw[gY,ζd h];unfold jq;rw[ζd h];rfl
def RL(L:aX Rd)(l:Sl X')(F:Rd->Rd->X')(i k:Nat):Prop:=∀a b,L[i]?=some a->L[k]?=some b->jq l i=true->jq l k=true->F a b=true
def GU(L:aX Rd)(l:Sl X')(F:Rd->Rd->X')(i k:Nat)(a b:Rd):Prop:=i<k/\L[i]?=some a/\L[k]?=some b/\jq l i=true/\jq l k=true/\F a b=false/\(∀u,i<u->u<k->RL L l F i u)/\∀w u,w<i->w<u->RL L l F w u
theorem acu{c:Rd}:∀{l:aX Zg},c∈l.map Sl.l->place (λd=>decide (c=d.l)) l=((l.map Sl.l).idxOf c:Int):=by
 intro l h;have key:∀l:aX Zg,c∈l.map Sl.l->l.findIdx? (λd=>decide (c=d.l))=some ((l.map Sl.l).idxOf c):=by intro l;induction l with|nil=>intro h;simp at h|cons x l u=>intro h;rw[List.findIdx?_cons,map_cons,List.idxOf_cons];by_cases e:c=x.l;rw[decide_eq_true e,show(x.l==c)=true from by simpa using e.symm];rfl;rw[decide_eq_false e,show(x.l==c)=false from beq_eq_false_iff_ne.2 λk=>e k.symm];rw[map_cons]at h;rw[u ((mem_cons.1 h).resolve_left e)];rfl
 unfold place;rw[key l h]
theorem sA{L:aX Rd}(h:L.Nodup){i:Nat}{c:Rd}(a:L[i]?=some c):L.idxOf c=i:=by have⟨b,e⟩:=ζe.1 a;rw[<-e];exact Nodup.idxOf_getElem h i b
theorem uG{L:aX Rd}{c:Rd}(h:c∈L):L[L.idxOf c]?=some c:=by have a:=List.idxOf_lt_length_of_mem h;rw[ζd a,List.getElem_idxOf]
theorem qm.zip{g:Int->Int->Int}{a b c:Rd}(h:qm g a b c)(B:a.length=b.length):c=zipWith g a b:=by refine h.one ⟨by simp[B],λp x y u w=>?_⟩ B;rw[List.getElem?_zipWith,u,w]
def adH(L:aX Rd)(l:Sl X')(a b:Rd):X':=trc L l (zipWith je a b)
def adG(L:aX Rd)(l:Sl X')(a b:Rd):X':=trc L l (zipWith BU a b)
end
def xN(L:aX Rd)(c:Rd):ST:=(range c.length).filterMap λp=>if bump c p 1∈L then some (L.idxOf (bump c p 1))else none
theorem AM{c:Rd}{p:Nat}{d:Int}:(bump c p d).length=c.length:=by unfold bump;simp
theorem UJ{c:Rd}{p:Nat}(h:p<c.length):(bump c p 1).sum=c.sum+1:=by unfold bump;have a:c[p]?=some c[p]:=ζd h;rw[vP a,a];simp;omega
theorem Hs{L:aX Rd}{c:Rd}{k:Nat}:k∈xN L c↔∃p,p<c.length/\bump c p 1∈L/\k=L.idxOf (bump c p 1):=by
 unfold xN;rw[List.mem_filterMap];constructor;rintro⟨p,u,h⟩;split at h;next w=>cases h;exact⟨p,mem_range.1 u,w,rfl⟩
 cases h;rintro⟨p,u,w,rfl⟩;exact⟨p,mem_range.2 u,by rw[if_pos w]⟩
section
variable{t:Z4}{A:b9 200 bB}{L:aX Rd}
theorem eo.nodup(h:eo t A L):L.Nodup:=fH.nodup h.srt
theorem eo.lt(h:eo t A L){i k:Nat}{c d:Rd}(b:L[i]?=some c)(a:L[k]?=some d)(B:c.sum<d.sum):i<k:=by rcases Nat.lt_trichotomy i k with g|g|g;exact g;subst g;rw[b]at a;cases a;omega;obtain⟨u,rfl⟩:=ζe.1 b;obtain⟨w,rfl⟩:=ζe.1 a;exact absurd ((List.pairwise_iff_getElem.1 h.srt k i w u g).tr (fH.sum B)) (fH.QE _)
theorem SL(h:eo t A L){i k:Nat}{c:Rd}(a:L[i]?=some c)(b:k∈xN L c):i<k/\k<L.length:=by obtain⟨p,w,u,rfl⟩:=Hs.1 b;exact⟨h.lt a (uG u) (by rw[UJ w];omega),List.idxOf_lt_length_of_mem u⟩
theorem eo.len(h:eo t A L){c:Rd}(a:c∈L):c.length=t.procs.l.length:=((h.mem _).1 a).1.1
end
section
variable{L:aX Rd}{f:Nat->X'}
inductive Rc(L:List (List Int))(f:Nat->Bool):Nat->Prop
 |zero:Rc L f 0|step{i k:Nat}{c:List Int}:Rc L f i->f i=false->L[i]?=some c->k∈xN L c->Rc L f k
def aaT(L:aX Rd):Prop:=∀(i k:Nat)c,L[i]?=some c->k∈xN L c->i<k/\k<L.length
open Classical in
end
def ps(L:aX Rd)(c:Rd)(n:Nat):ST:=(range n).filter λp=>decide (bump c p 1∈L)
theorem YB{c:Rd}{p:Nat}{a:Int}(h:c[p]?=some a):bump c p 1=c.set p (a+1):=by unfold bump;rw[h];rfl
section
variable{t:Z4}{A:b9 200 bB}{L:aX Rd}
theorem aaT.of(B:eo t A L):aaT L:=λ_ _ _ h k=>SL B h k
end
end Go.VE
namespace Go.VE
end Go.VE
namespace Go.VE
end Go.VE
namespace Go.VE
section
variable{L:aX Rd}{f:Nat->X'}
inductive QI(L:List (List Int))(f:Nat->Bool):Nat->Prop
 |last:f (L.length-1)=false->QI L f (L.length-1)|step{i k:Nat}{c:List Int}:f i=false->L[i]?=some c->k∈xN L c->QI L f k->QI L f i
theorem QI.no{i:Nat}(h:QI L f i):f i=false:=by cases h<;>assumption
end
section
variable{t:Z4}{A:b9 200 bB}{L:aX Rd}
end
end Go.VE
namespace Go.VE
end Go.VE
namespace Go.VE
theorem U5{κ ν:Type}[DecidableEq κ]{m:Mo κ ν}{k B:κ}{v z:ν}:pE (nK m k v) B z=if B=k then v else pE m B z:=by unfold pE;induction m with|nil=>unfold nK l_;by_cases h:B=k<;>simp[h,l_]|cons a m C=>have⟨a,w⟩:=a;unfold nK;by_cases h:k=a;subst h;rw[if_pos rfl];by_cases u:B=k;simp[l_,u];simp[l_,u];rw[if_neg h];by_cases u:B=a;have:B≠k:=λe=>h (e▸u);simp[l_,u,Ne.symm h];simp only[l_,if_neg u];exact C
theorem HU:∀(l:Rd)(r:U'),(l.foldl (λr n=>r.push (ofNat n.toNat)) r).data.toList=r.data.toList++l.map λn=>ofNat n.toNat
 |[],r=>Zab|a::l,r=>by rw[List.foldl_cons,HU l];show(r.data.push _).toList++_=_;simp
theorem HG(l:Rd):(oq l).data.toList=l.map λn=>ofNat n.toNat:=by unfold oq;rw[HU];rfl
def E9(l:Rd):Prop:=∀x∈l,0<=x/\x<256
theorem aaj{a b:Int}(B:0<=a/\a<256)(D:0<=b/\b<256)(h:ofNat a.toNat=ofNat b.toNat):a=b:=by have:=congrArg UInt8.toNat h;simp[UInt8.toNat_ofNat']at this;omega
theorem Md:∀{a b:Rd},E9 a->E9 b->(a.map λn=>ofNat n.toNat)=(b.map λn=>ofNat n.toNat)->a=b
 |[],[],_,_,_=>rfl|[],_::_,_,_,h=>by simp at h|_::_,[],_,_,h=>by simp at h|x::a,y::b,D,G,h=>by simp only[map_cons,List.cons.injEq]at h;rw[aaj (D x Zab) (G y Zab) h.1,Md (λz B=>D z (mem_cons_of_mem _ B)) (λz B=>G z (mem_cons_of_mem _ B)) h.2]
theorem KV{a b:Rd}(B:E9 a)(D:E9 b)(h:oq a=oq b):a=b:=Md B D (by rw[<-HG,<-HG,h])
section
variable{t:Z4}{A:b9 200 bB}{L:aX Rd}
theorem yI(b:VT t){c:Rd}(a:Cons t A c):E9 c:=λx z=>by
 obtain⟨p,w,rfl⟩:=mem_iff_getElem.1 z;have u:p<t.procs.l.length:=by rw[<-a.1.1];exact w
 have d:=a.1.2 p _ _ (ζd w) (ζd u);have B:=Cy b (ζd u);omega
end
end Go.VE
namespace Go.VE
theorem T7{κ ν:Type}[DecidableEq κ]{m:Mo κ ν}{k B:κ}{v:ν}:vT (nK m k v) B=(decide (B=k)||vT m B):=by unfold vT;induction m with|nil=>grind[nK,l_]|cons a m u=>have⟨a,w⟩:=a;unfold nK;by_cases h:k=a;subst h;rw[if_pos rfl];grind[l_];grind[l_]
theorem AG{c:Zg}(h:E9 c.l)(B:c.l.length<=8):jh c=some (oq c.l):=by
 refine Wp.eq ?_;unfold jh;have a:∃r,wY (len c) (⟨0⟩:U8)=some r/\r.l=[]:=by unfold wY;rw[if_pos ⟨by simp[len],Zac⟩];refine⟨_,rfl,?_⟩;split<;>rfl
 have⟨r,a,u⟩:=a;rw[a,ζb];unfold jh.W1;refine dU c.l.length (λi(q:Sl U8×Int)=>q.2=(i:Int)/\q.1.l.map U8.v=c.l.take i) ⟨rfl,by rw[u];rfl⟩ ?_ ?_;rintro i ⟨o,_⟩ b ⟨e,d⟩;simp only at e d;subst e;have w:o.l.length=i:=by have:=congrArg length d;grind
 unfold jh.bh;rw[fA b,bt,bz b,ζb];have C:=h c.l[i] (getElem_mem b);have⟨z,k1,k2⟩:=oK (s:=o) (x:=(⟨wrap .u8 c.l[i]⟩:U8)) Zaa;rw[k1,ζb,bf];refine⟨cr i Zaa,?_⟩;show z.l.map U8.v=_;grind[wrap,IntKind.bits,signed,List.take_succ_eq_append_getElem];simp_all[jh.bh,bA,bf,Ou]
section
variable{t:Z4}{A:b9 200 bB}{L:aX Rd}
theorem VN(b:VT t){c:Rd}(a:Cons t A c)(p:Nat):E9 (bump c p 1):=λx z=>by
 unfold bump at z;have key:∀y∈c,0<=y/\y<=250:=λy C=>by obtain⟨q,B,rfl⟩:=mem_iff_getElem.1 C;have u:q<t.procs.l.length:=(by rw[<-a.1.1];exact B);have d:=a.1.2 q _ _ (ζd B) (ζd u);have D:=Cy b (ζd u);omega
 rcases List.mem_or_eq_of_mem_set z with h|h;have:=key x h;omega;cases w:c[p]?with|none=>rw[w]at h;have:x=0+1:=h;omega|some y=>rw[w]at h;have h:x=y+1:=h;have:=key y (mem_of_getElem? w);omega
structure A_(L:List (List Int))(m:Mo ByteArray Int):Prop where
 get:∀c∈L,pE m (oq c) 0=(L.idxOf c:Int)
 has:∀d,E9 d->(vT m (oq d)=true↔d∈L)
theorem Tg(f:VT t)(B:eo t A L)(U:L.length<=5000){r:Zb}(g:ins r=L)(tb:Sl X'):
 Wp (kD t r tb) λq=>∃x,q=some x/\x.t=t/\x.l=r/\x.truth=tb/\A_ L (m_ x.index):=by
 have Q:=f.few;have S:r.l.length=L.length:=by rw[<-g,k_]
 unfold kD kD.W1;refine dU r.l.length (λi(q:Int×(Mo ByteArray Int)×b_)=>q.1=(i:Int)/\q.2.2.t=t/\q.2.2.l=r/\q.2.2.truth=tb/\(∀(j:Nat)c,j<i->L[j]?=some c->pE q.2.1 (oq c) 0=(j:Int))/\∀d,E9 d->(vT q.2.1 (oq d)=true↔∃j:Nat,j<i/\L[j]?=some d))
  ⟨rfl,rfl,rfl,rfl,λj c D=>absurd D Zaa,λd _=>⟨λh=>(by cases h),λ⟨j,D,_⟩=>absurd D Zaa⟩⟩ ?_ ?_
 .rintro i ⟨_,m,x⟩ hi ⟨rfl,b,u,w,G,z⟩;simp only at b u w G z;have C:L[i]?=some r.l[i].l:=by rw[<-g];exact u_ hi
  have I:=mem_of_getElem? C;have k:=(B.mem _).1 I;have O:=yI f k;unfold kD.bh;dsimp only;rw[fA hi,bt,bz hi,ζb,AG O (by rw[k.1.1];exact Q),ζb,bf]
  refine⟨cr i Zaa,b,u,w,λj c D a=>?_,λd hd=>?_⟩
  .show pE (nK m (oq r.l[i].l) (i:Int)) (oq c) 0=_;rw[U5]
   by_cases e:j=i
   .grind
   have J:=mem_of_getElem? a;rw[if_neg (λh=>e ?_)]
   .grind
   have:=KV (yI f ((B.mem _).1 J)) O h;subst this;rw[<-sA B.nodup a,sA B.nodup C]
  show vT (nK m (oq r.l[i].l) (i:Int)) (oq d)=true↔_;rw[T7,or_eq_true,decide_eq_true_eq,z d hd];constructor
  .grind[KV]
  grind
 rintro⟨_,m,x⟩ ⟨rfl,b,u,w,G,z⟩;simp only at b u w G z;unfold kD.bh;dsimp only;rw[gw,bA,bf];refine(bf _).2 ⟨_,rfl,b,u,w,⟨λc a=>?_,λd hd=>?_⟩⟩
 .have:=List.idxOf_lt_length_of_mem a;exact G _ c Zaa (uG a)
 show vT m (oq d)=true↔_;rw[z d hd];exact⟨λ⟨j,_,h⟩=>mem_of_getElem? h,λh=>⟨L.idxOf d,by have:=List.idxOf_lt_length_of_mem h;omega,uG h⟩⟩
theorem Yr(g:Small t)(a:VT t)(B:eo t A L){x:b_}(D:ins x.l=L)(U:A_ L (m_ x.index)){i:Nat}{c:Rd}(b:L[i]?=some c):
 Wp (fJ x (i:Int) 1) λo=>o.l=(xN L c).map λk:Nat=>(k:Int):=by
 have m:=a.few;have e:i<x.l.l.length:=by rw[<-k_,D];exact(ζe.1 b).1
 have u:x.l.l[i].l=c:=by have:=u_ e;rw[D,b]at this;exact(Option.some.inj this).symm
 have f:=(B.mem _).1 (mem_of_getElem? b);have S:=f.1.1;have T:=a.ok.one;have O:=Nw g a f;unfold fJ;rw[bz e,ζb];unfold fJ.W1;refine dU x.l.l[i].l.length (λn(q:Zg×Int)=>q.2=(n:Int)/\q.1.l.length<=n/\q.1.l=((range n).filterMap λp=>if bump c p 1∈L then some (L.idxOf (bump c p 1))else none).map λk:Nat=>(k:Int)) ⟨rfl,le_refl _,rfl⟩ ?_ ?_
 .rintro n ⟨o,_⟩ z ⟨rfl,C,G⟩;simp only at C G;rw[u]at z;have W:=ζd z;have X:=O.2 c[n] (getElem_mem z);have⟨d,Y,I⟩:=yJ (c:=x.l.l[i]) (by rw[u];omega) (by rw[u];omega)
  rw[u]at I;unfold fJ.bh;dsimp only;rw[show len x.l.l[i]=((x.l.l[i].l.length:Nat):Int)from rfl,u,decide_eq_true Zaa,bt,bz e,ζb,Y,ζb,yP (by rw[I];exact z),ζb]
  unfold Sl.get;rw[I,W,ζb,ζb,fV _ Zaa Zaa]
  have⟨j,Z,l⟩:=put_eq (s:=d) (p:=n) (x:=c[n]+1) (by rw[I];exact z)
  have w:j.l=bump c n 1:=by rw[l,I,YB W]
  have Q:=VN a f n;rw[Z,ζb,AG (by rw[w];exact Q) (by rw[w,AM];omega),ζb,w]
  by_cases J:bump c n 1∈L
  .have⟨o2,k1,k2⟩:=oK (s:=o) (x:=pE (m_ x.index) (oq (bump c n 1)) 0) Zaa
   rw[(U.has _ Q).2 J,bt,k1,ζb,bf];refine⟨cr n Zaa,by show o2.l.length<=_;rw[k2];simp;omega,?_⟩
   show o2.l=_;rw[k2,G,U.get _ J,List.range_succ,List.filterMap_append,map_append];simp[J]
  rw[show vT (m_ x.index) (oq (bump c n 1))=false from by
   cases h:vT (m_ x.index) (oq (bump c n 1))with
   |false=>rfl|true=>exact absurd ((U.has _ Q).1 h) J,bA,bf]
  refine⟨cr n Zaa,by show o.l.length<=_;omega,?_⟩
  show o.l=_;rw[G,List.range_succ,List.filterMap_append,map_append];simp[J]
 rintro⟨o,_⟩ ⟨rfl,C,G⟩;unfold fJ.bh;dsimp only;rw[gw,bA,bf];refine(bf _).2 ?_;rw[G,u];rfl
theorem EG{c:Rd}{p:Nat}{a:Int}(h:c[p]?=some a)(q:Nat):(bump c p 1)[q]?=if p=q then some (a+1)else c[q]?:=by have u:=(ζe.1 h).1;unfold bump;rw[h,getElem?_set];by_cases e:p=q;subst e;rw[if_pos rfl,if_pos rfl,if_pos u];rfl;rw[if_neg e,if_neg e]
theorem N2(g:VT t)(h:fR t (bL t) A)(D:eo t A L){c e:Rd}(a:Cons t A c)(G:dV c e):∀(n:Nat){d:Rd},Cons t A d->dV d e->d.sum<=(n:Int)->¬dV d c->∃p,p<c.length/\bump c p 1∈L/\dV (bump c p 1) e
 |n,d,J,B,hs,U=>by have W:d.length=c.length:=J.1.1.trans a.1.1.symm;have I:0<d.sum:=(by refine byContradiction λi=>U ?_;have j:=J.1.sum.1;have f:=(Pb (t:=t) (A:=A) (z:=.row (replicate t.procs.l.length 0)) rfl d).2 ⟨J,by simp;omega⟩;have f:d=replicate t.procs.l.length 0:=(by simpa[ins,Sl.l]using f);refine⟨W,λp x y u w=>?_⟩;rw[f,getElem?_replicate]at u;split at u;cases u;exact a.1.pos p y w;cases u);have⟨q,b,C,T,X⟩:=J.down g h I;have S:=(ζe.1 C).1;by_cases Q:dV (d.set q (b-1)) c;have O:=ζd (show q<c.length by omega);have e1:=Q.2 q (b-1) _ (by rw[List.getElem?_set_self S]) O;have e2:∀p x y,p≠q->d[p]?=some x->c[p]?=some y->x<=y:=λp x y Y u w=>Q.2 p x y (by rw[List.getElem?_set_ne (Ne.symm Y)];exact u) w;have e3:b=c[q]+1:=(by refine byContradiction λZ=>U ⟨W,λp x y u w=>?_⟩;by_cases e:p=q;subst e;rw[C]at u;cases u;rw[O]at w;cases w;omega;exact e2 p x y e u w);refine⟨q,Zaa,(D.mem _).2 (join_cons a J ⟨AM,λp x y u w=>?_⟩),⟨by rw[AM];exact G.1,λp x y u w=>?_⟩⟩;rw[EG O];by_cases e:q=p;subst e;rw[if_pos rfl];rw[C]at w;cases w;rw[O]at u;cases u;unfold BU;simp;omega;rw[if_neg e,u];have:=e2 p y x (Ne.symm e) w u;unfold BU;simp;omega;rw[EG O]at u;by_cases e:q=p;subst e;rw[if_pos rfl]at u;cases u;have:=B.2 q b y C w;omega;rw[if_neg e]at u;exact G.2 p x y u w;cases n with|zero=>omega|succ n=>refine N2 g h D a G n X ⟨by rw[length_set];exact B.1,λp x y u w=>?_⟩ (by rw[vP C];omega) Q;by_cases e:q=p;subst e;rw[List.getElem?_set_self S]at u;cases u;have:=B.2 q b y C w;omega;rw[List.getElem?_set_ne e]at u;exact B.2 p x y u w
end
end Go.VE
