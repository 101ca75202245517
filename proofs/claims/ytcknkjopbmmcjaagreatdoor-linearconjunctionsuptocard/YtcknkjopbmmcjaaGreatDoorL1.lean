/-
 The law in plain Lean, and the join.
-/
import Derived.Test.YtcknkjopbmmcjaaGreatDoorK1
import Derived.Test.YtcknkjopbmmcjaaGreatDoorG1
set_option linter.all false
open List(Nodup Pairwise all_eq_true countP_cons drop_eq_getElem_cons drop_of_length_le ext_getElem? finRange find?_append find?_eq_none getElem?_eq_none getElem?_map getElem?_replicate getElem?_set getElem?_take getElem_mem length length_cons length_set length_singleton length_take mapM_cons map_append map_cons map_nil mem_append mem_append_left mem_cons mem_cons_of_mem mem_cons_self mem_iff_getElem mem_map mem_of_getElem? mem_of_mem_take mem_range mem_singleton pairwise_append pairwise_cons pairwise_map range range' replicate sum_cons sum_nil take_add_one take_append_drop take_length zipWith)
open Option(bind_eq_bind getD_some pure_def)
open Go.IntKind(signed wrap)
open Nat(le_refl zero_le)
open Bool(false_eq_true not_eq_true' or_eq_false_iff or_eq_true)
open ByteArray(toList)
open Relation(TransGen)
open Classical(byContradiction)
open Int(toNat toNat_natCast)
open UInt8(ofNat)
namespace Go.VE
theorem Zaf{p:Prop}(h:p:=by kernel_rfl):p:=h
instance:cD Var where
 wt x:=cD.wt x.name+cD.wt x.init_+1
 ok x:=cD.ok x.name/\cD.ok x.init_/\True
instance:cD Assign where
 wt x:=cD.wt x.var+cD.wt x.value+1
 ok x:=cD.ok x.var/\cD.ok x.value/\True
instance:cD WF where
 wt x:=cD.wt x.kind+cD.wt x.peer+cD.wt x.message+cD.wt x.time+cD.wt x.assign+1
 ok x:=cD.ok x.kind/\cD.ok x.peer/\cD.ok x.message/\cD.ok x.time/\cD.ok x.assign/\True
instance:cD bW where
 wt x:=cD.wt x.name+cD.wt x.vars+cD.wt x.events+1
 ok x:=cD.ok x.name/\cD.ok x.vars/\cD.ok x.events/\True
instance:cD Z4 where
 wt x:=cD.wt x.procs+1
 ok x:=cD.ok x.procs/\True
instance:cD bT where
 wt x:=cD.wt x.low+cD.wt x.high+1
 ok x:=cD.ok x.low/\cD.ok x.high/\True
instance:cD bS where
 wt x:=cD.wt x.t+cD.wt x.counts+cD.wt x.values+1
 ok x:=cD.ok x.t/\cD.ok x.counts/\cD.ok x.values/\True
mutual
def Pred.wtR:T'->Nat
 |⟨f0,f1,f2,f3,B,f5⟩=>cD.wt f0+cD.wt f1+cD.wt f2+cD.wt f3+cD.wt B+Pred.U5 f5+1
def Pred.U5:Sl T'->Nat
 |.nil=>1|.emp=>1|.row l=>Pred.Lq l+1|.part l=>Pred.Lq l+1
def Pred.Lq:aZ T'->Nat
 |[]=>0|x::r=>Pred.wtR x+Pred.Lq r
end
mutual
def Pred.okR:T'->Prop
 |⟨f0,f1,f2,f3,B,f5⟩=>cD.ok f0/\cD.ok f1/\cD.ok f2/\cD.ok f3/\cD.ok B/\Pred.okS f5/\True
def Pred.okS:Sl T'->Prop
 |.nil=>True|.emp=>False|.row l=>Pred.VM l|.part l=>Pred.VM l
def Pred.VM:aZ T'->Prop
 |[]=>True|x::r=>Pred.okR x/\Pred.VM r
end
instance:cD T' where
 wt:=Pred.wtR
 ok:=Pred.okR
theorem Pred.GU:∀l:aZ T',Pred.Lq l=(l.map cD.wt).sum
 |[]=>rfl|x::r=>by simp only[Pred.Lq,map_cons,sum_cons,Pred.GU r];rfl
theorem Pred.wtE(s:Sl T'):Pred.U5 s=cD.wt s:=by cases s with|nil=>rfl|emp=>rfl|row l=>show Pred.Lq l+1=(l.map cD.wt).sum+1;rw[Pred.GU]|part l=>show Pred.Lq l+1=(l.map cD.wt).sum+1;rw[Pred.GU]
theorem Pred.G0:∀l:aZ T',(∀x∈l,cD.ok x)->Pred.VM l
 |[],_=>trivial|x::r,h=>⟨h x (mem_cons_self ..),Pred.G0 r λy B=>h y (mem_cons_of_mem _ B)⟩
theorem Pred.okE(s:Sl T')(h:cD.ok s):Pred.okS s:=by cases s with|nil=>trivial|emp=>exact h.2 rfl|row l=>exact Pred.G0 l h.1|part l=>exact Pred.G0 l h.1
end Go.VE
namespace Go.VE.YtcknkjopbmmcjaaGreatDoor
open Go.Proofs Go.Proofs.YtcknkjopbmmcjaaGreatDoor
instance rd9:Reads Tryz.prog 9 U':=Reads.str Tryz.underlying9 Zaf
instance rd3:Reads Tryz.prog 3 Int:=Reads.int Tryz.underlying3 Zaf
instance acf:Reads Tryz.prog 44 Var:=by refine Reads.st Tryz.underlying44 Zaf rfl ?_;intro H enc w base a c u cs l I h;simp only[mapM_cons,List.mapM_nil,pure_def,bind_eq_bind,ζg,ζa]at h;obtain⟨z,e,J,⟨B,f,L,rfl,rfl⟩,rfl⟩:=h;have⟨a0,C,k0,O⟩:=Reads.rd (P:=Tryz.prog) (t:=9) (α:=U') (d:=z.1) (ps:=z.2) e;rw[show Tryz.prog.cellsOf 9=1 from by kernel_rfl]at C;have⟨a1,D,k1,Q⟩:=Reads.rd (P:=Tryz.prog) (t:=3) (α:=Int) (d:=B.1) (ps:=B.2) f;rw[show Tryz.prog.cellsOf 3=1 from by kernel_rfl]at D;refine⟨⟨a0,a1⟩,fU.fin (n:=2) (fU.seg (o:=1) (n:=1) (fU.seg (o:=0) (n:=1) (show fU (snap w) [] (cs.take 0)from by simpa using fU.nil) C) D) I,⟨k0,k1,trivial⟩,λb G=>?_⟩;have S:=O b G;have T:=Q b G;show cD.wt a0+cD.wt a1+1<=_;simp only[map_cons,map_nil,sum_cons,sum_nil];omega
instance acg:Reads Tryz.prog 45 (Sl Var):=Reads.sl (e:=44) Tryz.underlying45 Zaf (by decide)
instance ach:Reads Tryz.prog 47 Assign:=by refine Reads.st Tryz.underlying47 Zaf rfl ?_;intro H enc w base a c u cs l I h;simp only[mapM_cons,List.mapM_nil,pure_def,bind_eq_bind,ζg,ζa]at h;obtain⟨z,e,J,⟨B,f,L,rfl,rfl⟩,rfl⟩:=h;have⟨a0,C,k0,O⟩:=Reads.rd (P:=Tryz.prog) (t:=3) (α:=Int) (d:=z.1) (ps:=z.2) e;rw[show Tryz.prog.cellsOf 3=1 from by kernel_rfl]at C;have⟨a1,D,k1,Q⟩:=Reads.rd (P:=Tryz.prog) (t:=3) (α:=Int) (d:=B.1) (ps:=B.2) f;rw[show Tryz.prog.cellsOf 3=1 from by kernel_rfl]at D;refine⟨⟨a0,a1⟩,fU.fin (n:=2) (fU.seg (o:=1) (n:=1) (fU.seg (o:=0) (n:=1) (show fU (snap w) [] (cs.take 0)from by simpa using fU.nil) C) D) I,⟨k0,k1,trivial⟩,λb G=>?_⟩;have S:=O b G;have T:=Q b G;show cD.wt a0+cD.wt a1+1<=_;simp only[map_cons,map_nil,sum_cons,sum_nil];omega
instance acj:Reads Tryz.prog 48 (Sl Assign):=Reads.sl (e:=47) Tryz.underlying48 Zaf (by decide)
instance ab7:Reads Tryz.prog 50 WF:=by refine Reads.st Tryz.underlying50 Zaf rfl ?_;intro H enc w base a c z cs l Q h;simp only[mapM_cons,List.mapM_nil,pure_def,bind_eq_bind,ζg,ζa]at h;obtain⟨B,e,S,⟨C,f,T,⟨x2,U,W,⟨D,X,Y,⟨x4,Z,p,rfl,rfl⟩,rfl⟩,rfl⟩,rfl⟩,rfl⟩:=h;have⟨a0,G,k0,g⟩:=Reads.rd (P:=Tryz.prog) (t:=3) (α:=Int) (d:=B.1) (ps:=B.2) e;rw[show Tryz.prog.cellsOf 3=1 from by kernel_rfl]at G;have⟨a1,I,k1,i⟩:=Reads.rd (P:=Tryz.prog) (t:=3) (α:=Int) (d:=C.1) (ps:=C.2) f;rw[show Tryz.prog.cellsOf 3=1 from by kernel_rfl]at I;have⟨a2,J,k2,j⟩:=Reads.rd (P:=Tryz.prog) (t:=3) (α:=Int) (d:=x2.1) (ps:=x2.2) U;rw[show Tryz.prog.cellsOf 3=1 from by kernel_rfl]at J;have⟨a3,L,k3,k⟩:=Reads.rd (P:=Tryz.prog) (t:=3) (α:=Int) (d:=D.1) (ps:=D.2) X;rw[show Tryz.prog.cellsOf 3=1 from by kernel_rfl]at L;have⟨a4,O,k4,m⟩:=Reads.rd (P:=Tryz.prog) (t:=48) (α:=(Sl Assign)) (d:=x4.1) (ps:=x4.2) Z;rw[show Tryz.prog.cellsOf 48=1 from by kernel_rfl]at O;refine⟨⟨a0,a1,a2,a3,a4⟩,fU.fin (n:=5) (fU.seg (o:=4) (n:=1) (fU.seg (o:=3) (n:=1) (fU.seg (o:=2) (n:=1) (fU.seg (o:=1) (n:=1) (fU.seg (o:=0) (n:=1) (show fU (snap w) [] (cs.take 0)from by simpa using fU.nil) G) I) J) L) O) Q,⟨k0,k1,k2,k3,k4,trivial⟩,λb u=>?_⟩;have q:=g b u;have r:=i b u;have s:=j b u;have v:=k b u;have x:=m b u;show cD.wt a0+cD.wt a1+cD.wt a2+cD.wt a3+cD.wt a4+1<=_;simp only[map_cons,map_nil,sum_cons,sum_nil];omega
instance acd:Reads Tryz.prog 51 (Sl WF):=Reads.sl (e:=50) Tryz.underlying51 Zaf (by decide)
instance ab9:Reads Tryz.prog 53 bW:=by refine Reads.st Tryz.underlying53 Zaf rfl ?_;intro H enc w base a c z cs l J h;simp only[mapM_cons,List.mapM_nil,pure_def,bind_eq_bind,ζg,ζa]at h;obtain⟨B,e,L,⟨C,f,O,⟨x2,Q,S,rfl,rfl⟩,rfl⟩,rfl⟩:=h;have⟨a0,D,k0,T⟩:=Reads.rd (P:=Tryz.prog) (t:=9) (α:=U') (d:=B.1) (ps:=B.2) e;rw[show Tryz.prog.cellsOf 9=1 from by kernel_rfl]at D;have⟨a1,G,k1,U⟩:=Reads.rd (P:=Tryz.prog) (t:=45) (α:=(Sl Var)) (d:=C.1) (ps:=C.2) f;rw[show Tryz.prog.cellsOf 45=1 from by kernel_rfl]at G;have⟨a2,I,k2,W⟩:=Reads.rd (P:=Tryz.prog) (t:=51) (α:=(Sl WF)) (d:=x2.1) (ps:=x2.2) Q;rw[show Tryz.prog.cellsOf 51=1 from by kernel_rfl]at I;refine⟨⟨a0,a1,a2⟩,fU.fin (n:=3) (fU.seg (o:=2) (n:=1) (fU.seg (o:=1) (n:=1) (fU.seg (o:=0) (n:=1) (show fU (snap w) [] (cs.take 0)from by simpa using fU.nil) D) G) I) J,⟨k0,k1,k2,trivial⟩,λb u=>?_⟩;have X:=T b u;have Y:=U b u;have Z:=W b u;show cD.wt a0+cD.wt a1+cD.wt a2+1<=_;simp only[map_cons,map_nil,sum_cons,sum_nil];omega
instance ab_:Reads Tryz.prog 22 (Sl bW):=Reads.sl (e:=53) Tryz.underlying22 Zaf (by decide)
instance ab8:Reads Tryz.prog 24 Z4:=by refine Reads.st Tryz.underlying24 Zaf rfl ?_;intro H enc w base a c u cs l C h;simp only[mapM_cons,List.mapM_nil,pure_def,bind_eq_bind,ζg,ζa]at h;obtain⟨z,e,D,rfl,rfl⟩:=h;have⟨a0,B,k0,G⟩:=Reads.rd (P:=Tryz.prog) (t:=22) (α:=(Sl bW)) (d:=z.1) (ps:=z.2) e;rw[show Tryz.prog.cellsOf 22=1 from by kernel_rfl]at B;refine⟨⟨a0⟩,fU.fin (n:=1) (fU.seg (o:=0) (n:=1) (show fU (snap w) [] (cs.take 0)from by simpa using fU.nil) B) C,⟨k0,trivial⟩,λb I=>?_⟩;have J:=G b I;show cD.wt a0+1<=_;simp only[map_cons,map_nil,sum_cons,sum_nil];omega
theorem Za:∀B,tO Tryz.prog 29 Pred B:=by
 intro B;induction B using Nat.strongRecOn with|ind B S=>
 cases B with|zero=>intro H enc w base a c cs d ps h;simp[DataW.trod]at h|succ B=>
 refine tO.st Tryz.underlying29 Zaf ?_;intro H enc w base a c cs l T h;simp only[mapM_cons,List.mapM_nil,pure_def,bind_eq_bind,ζg,ζa]at h;obtain⟨C,f,U,⟨D,i,W,⟨x2,X,Y,⟨G,Z,x,⟨x4,j,y,⟨x5,k,A,rfl,rfl⟩,rfl⟩,rfl⟩,rfl⟩,rfl⟩,rfl⟩:=h;have⟨a0,I,k0,m⟩:=Reads.rd (P:=Tryz.prog) (t:=3) (α:=Int) (d:=C.1) (ps:=C.2) f;rw[show Tryz.prog.cellsOf 3=1 from by kernel_rfl]at I;have⟨a1,J,k1,p⟩:=Reads.rd (P:=Tryz.prog) (t:=3) (α:=Int) (d:=D.1) (ps:=D.2) i;rw[show Tryz.prog.cellsOf 3=1 from by kernel_rfl]at J;have⟨a2,L,k2,q⟩:=Reads.rd (P:=Tryz.prog) (t:=3) (α:=Int) (d:=x2.1) (ps:=x2.2) X;rw[show Tryz.prog.cellsOf 3=1 from by kernel_rfl]at L;have⟨a3,O,k3,r⟩:=Reads.rd (P:=Tryz.prog) (t:=3) (α:=Int) (d:=G.1) (ps:=G.2) Z;rw[show Tryz.prog.cellsOf 3=1 from by kernel_rfl]at O;have⟨a4,Q,k4,s⟩:=Reads.rd (P:=Tryz.prog) (t:=9) (α:=U') (d:=x4.1) (ps:=x4.2) j;rw[show Tryz.prog.cellsOf 9=1 from by kernel_rfl]at Q;have⟨a5,z,k5,v⟩:=tO.slF (t:=25) (e:=29) (α:=T') Tryz.underlying25 Zaf (by decide) (λg E=>S g Zaa) (show _=some (x5.1,x5.2)from k);rw[show Tryz.prog.cellsOf 25=1 from by kernel_rfl]at z;rw[wP rfl,<-Pred.lX]at z;refine⟨⟨a0,a1,a2,a3,a4,a5⟩,fU.fin (n:=6) (fU.seg (o:=5) (n:=1) (fU.seg (o:=4) (n:=1) (fU.seg (o:=3) (n:=1) (fU.seg (o:=2) (n:=1) (fU.seg (o:=1) (n:=1) (fU.seg (o:=0) (n:=1) (show fU (snap w) [] (cs.take 0)from by simpa using fU.nil) I) J) L) O) Q) z) T,⟨k0,k1,k2,k3,k4,Pred.okE _ k5,trivial⟩,λb u=>?_⟩;have F:=m b u;have K:=p b u;have M:=q b u;have N:=r b u;have R:=s b u;have V:=v b u;show cD.wt a0+cD.wt a1+cD.wt a2+cD.wt a3+cD.wt a4+Pred.U5 a5+1<=_;rw[Pred.wtE];simp only[map_cons,map_nil,sum_cons,sum_nil];omega
instance ace:Reads Tryz.prog 29 T':=Reads.of Tryz.underlying29 Zaf rfl Za
instance aci:Reads Tryz.prog 25 (Sl T'):=Reads.sl (e:=29) Tryz.underlying25 Zaf (by decide)
end Go.VE.YtcknkjopbmmcjaaGreatDoor
namespace Go.VE
end Go.VE
namespace Go.VE
abbrev NG{α:Type}(m:a_ α):Prop:=Wp m λ_=>True
theorem NG.get{α:Type}{m:a_ α}(h:NG m):∃a,m=some a:=let⟨a,e,_⟩:=h;⟨a,e⟩
theorem NG.ok{m:a_ X'}(h:NG m):m=some (m.getD false):=by have⟨a,e,_⟩:=h;rw[e];rfl
def Small(t:Z4):Prop:=t.procs.l.length<1073741824/\∀p∈t.procs.l,p.events.l.length<1073741824/\p.vars.l.length<1073741824/\p.name.size<1073741824/\(∀v∈p.vars.l,v.name.size<1073741824)/\∀e∈p.events.l,e.assign.l.length<1073741824
section
theorem PC{s:Sl WF}{p:WF->a_ X'}{f:WF->X'}(hp:∀x∈s.l,p x=some (f x))(B:s.l.length<1073741824):gM s p=some (place f s.l):=wK hp Zaa (λi=>rfl)
theorem RK{s:Sl bW}{p:bW->a_ X'}{f:bW->X'}(hp:∀x∈s.l,p x=some (f x))(B:s.l.length<1073741824):gZ s p=some (place f s.l):=wK hp Zaa (λi=>rfl)
theorem AQ{s:Sl Var}{p:Var->a_ X'}{f:Var->X'}(hp:∀x∈s.l,p x=some (f x))(B:s.l.length<1073741824):fN s p=some (place f s.l):=wK hp Zaa (λi=>rfl)
theorem MH{s:Sl Assign}{p:Assign->a_ X'}{f:Assign->X'}(hp:∀x∈s.l,p x=some (f x))(B:s.l.length<1073741824):gz s p=some (place f s.l):=wK hp Zaa (λi=>rfl)
theorem wV{s:Sl WF}{p:WF->a_ X'}{f:WF->X'}(hp:∀x∈s.l,p x=some (f x))(B:s.l.length<1073741824):gN s p=some (s.l.any f):=by unfold gN;rw[PC hp B,ζb,wv]
theorem KP{s:Sl bW}{p:bW->a_ X'}{f:bW->X'}(hp:∀x∈s.l,p x=some (f x))(B:s.l.length<1073741824):jh s p=some (s.l.any f):=by unfold jh;rw[RK hp B,ζb,wv]
theorem DB{s:Sl Var}{p:Var->a_ X'}{f:Var->X'}(hp:∀x∈s.l,p x=some (f x))(B:s.l.length<1073741824):iw s p=some (s.l.any f):=by unfold iw;rw[AQ hp B,ζb,wv]
theorem Hf{s:Sl Assign}{p:Assign->a_ X'}{f:Assign->X'}(hp:∀x∈s.l,p x=some (f x))(B:s.l.length<1073741824):iF s p=some (s.l.any f):=by unfold iF;rw[MH hp B,ζb,wv]
theorem qE(x lo hi:Int):o6 x lo hi=some (decide (lo<=x)&&decide (x<=hi)):=by unfold o6;rw[ov];rfl
theorem Pg{s:U'}{i:Nat}(h:i<s.size):∃x,mD s (i:Int)=some x:=by unfold mD;rw[if_pos Zaa];exact⟨_,by rw[show(s[(i:Int).toNat]?)=some s[i]from by simp[h]];rfl⟩
def mH(n:Nat)(p:Int)(e:WF):Prop:=e.kind=1\/((e.kind=2\/e.kind=3)/\0<=e.peer/\e.peer<n/\e.peer≠p/\0<=e.message/\e.message<=199)
end
def mV(t:Z4)(p k:Nat)(e:WF):Prop:=∃P,t.procs.l[p]?=some P/\P.events.l[k]?=some e
theorem v_{p:Int}{x:bf×WF}:∀{es:aZ WF}{j:Int},x∈jD p j es↔∃k:Nat,es[k]?=some x.2/\x.1=⟨p,j+k+1⟩
 |[],j=>by simp[jD]|e::es,j=>by simp[jD,v_];constructor;rintro(rfl|⟨k,a,B⟩);exact⟨0,rfl,Zab⟩;exact⟨k+1,Zac,Zac⟩;grind
theorem wX{x:bf×WF}:∀{ps:aZ bW}{i:Int},x∈gG i ps↔∃(a k:Nat)(P:bW),ps[a]?=some P/\P.events.l[k]?=some x.2/\x.1=⟨i+a,k+1⟩
 |[],i=>by simp[gG]|p::ps,i=>by simp only[gG,mem_append,v_,wX];constructor;rintro(⟨k,b,B⟩|⟨a,k,P,b,B,D⟩);exact⟨0,k,p,rfl,b,Zac⟩;exact⟨a+1,k,P,Zad,B,Zac⟩;grind
abbrev bQ(t:Trace):aZ (bf×Event):=gG 0 t.procs.l
theorem eo{t:Z4}{x:bf×WF}:x∈bQ t↔∃p k:Nat,mV t p k x.2/\x.1=⟨p,k+1⟩:=by rw[wX];constructor;rintro⟨a,k,P,b,u,w⟩;exact⟨a,k,⟨P,b,u⟩,Zac⟩;rintro⟨a,k,⟨P,b,u⟩,w⟩;grind
theorem A8{t:Z4}{x y:bf×WF}(B:x∈bQ t)(D:y∈bQ t)(h:x.1=y.1):x=y:=by have⟨p,k,⟨P,a,b⟩,e1⟩:=eo.1 B;have⟨q,j,⟨Q,u,w⟩,e2⟩:=eo.1 D;grind
theorem uM{t:Z4}(a:Small t):jU t=some (bQ t):=by unfold jU;rw[if_pos];simp[qm];exact⟨by have:=a.1;omega,λp u=>by have:=(a.2 p u).1;omega⟩
def uJ(t:Z4)(p m a:Int):X':=match t.procs.l[p.toNat]?with
 |some P=>P.events.l.any λe=>e.kind==2&&e.message==m&&e.peer==a|none=>false
theorem Tl{t:Z4}(b:Small t){p:Int}(c:0<=p)(g:p<t.procs.l.length)(m a:Int):vU t p m a=some (uJ t p m a):=by unfold vU;have u:p.toNat<t.procs.l.length:=Zaa;have d:=getElem_mem u;rw[SS c,ζd u,ζb,wV (f:=λe=>e.kind==2&&e.message==m&&e.peer==a) (λe _=>by unfold sK;simp[ov]) (b.2 _ d).1,ζb];unfold uJ;grind
theorem AY{t:Z4}{p:Nat}{m a:Int}:uJ t p m a=true↔∃k e,mV t p k e/\e.kind=2/\e.message=m/\e.peer=a:=by unfold uJ mV;rw[show(p:Int).toNat=p from rfl];cases b:t.procs.l[p]?with|none=>simp|some P=>simp;constructor;rintro⟨e,u,h⟩;have⟨k,c⟩:=List.getElem?_of_mem u;grind;grind
def ag(A:cz 200 bG)(m:Int):bG:=(A.at m).getD default
theorem Oq(A:cz 200 bG){m:Int}(a:0<=m)(b:m<=199):A.at m=some (ag A m):=by
 have:m.toNat<A.l.length:=by rw[A.len];omega
 unfold ag cz.at;grind
theorem sU(A:cz 200 bG){m m':Int}(x:bG)(a:0<=m)(b:m<=199)(B:0<=m'):ag (A.set m x) m'=if m'=m then x else ag A m':=by
 have:m.toNat<A.l.length:=by rw[A.len];omega
 unfold ag cz.at cz.set;grind
theorem QL{m:Int}(a:0<=m)(b:m<=199):ag (cz.QV 200 (⟨⟨0,0⟩,⟨0,0⟩⟩:bG)) m=⟨⟨0,0⟩,⟨0,0⟩⟩:=by unfold ag cz.at cz.QV;grind
structure fR(t:Trace)(its:List (bf×Event))(A:cz 200 bG):Prop where
 snd:∀x∈its,x.2.kind=2->(ag A x.2.message).from_=x.1
 rcv:∀x∈its,x.2.kind=3->(ag A x.2.message).to_=x.1/\uJ t x.2.peer x.2.message x.1.proc=true
 fr:∀m,0<=m->m<=199->(ag A m).from_.index=0\/∃e,((ag A m).from_,e)∈its/\e.kind=2/\e.message=m
 to:∀m,0<=m->m<=199->(ag A m).to_.index=0\/∃e,((ag A m).to_,e)∈its/\e.kind=3/\e.message=m
def O8(a b:bf×WF):Prop:=a.1.proc<b.1.proc\/a.1.proc=b.1.proc/\a.1.index<b.1.index
theorem Rh{p:Int}:∀{es:aZ WF}{j:Int},(jD p j es).Pairwise O8
 |[],_=>Pairwise.nil|e::es,j=>by simp only[jD,pairwise_cons];refine⟨λb B=>?_,Rh⟩;have⟨k,_,D⟩:=v_.1 B;refine .inr ⟨by rw[D],?_⟩;grind
theorem JA:∀{ps:aZ bW}{i:Int},(gG i ps).Pairwise O8
 |[],_=>Pairwise.nil|P::ps,i=>by simp only[gG,pairwise_append];refine⟨Rh,JA,λa B b D=>.inl ?_⟩;have⟨k,_,G⟩:=v_.1 B;have⟨c,j,P,_,_,u⟩:=wX.1 D;grind
theorem KO{t:Z4}{k:Nat}{x y:bf×WF}(B:(bQ t)[k]?=some x)(D:y∈(bQ t).take k):y.1≠x.1:=by
 have⟨a,u⟩:=ζe.1 B;have w:((bQ t).take k++(bQ t).drop k).Pairwise O8:=by rw[take_append_drop];exact JA
 have:=(pairwise_append.1 w).2.2 y D x (by rw[drop_eq_getElem_cons a,u];grind);unfold O8 at this;grind
structure Aj(t:Trace):Prop where
 snd:∀x∈bQ t,∀y∈bQ t,x.2.kind=2->y.2.kind=2->x.2.message=y.2.message->x.1=y.1
 rcv:∀x∈bQ t,∀y∈bQ t,x.2.kind=3->y.2.kind=3->x.2.message=y.2.message->x.1=y.1
 has:∀x∈bQ t,x.2.kind=3->uJ t x.2.peer x.2.message x.1.proc=true
theorem fR.B6{t:Z4}{A:cz 200 bG}(h:fR t (bQ t) A):Aj t:=⟨λx w y z k2 u B=>by rw[<-h.snd x w k2,<-h.snd y z u,B],λx w y z k2 u B=>by rw[<-(h.rcv x w k2).1,<-(h.rcv y z u).1,B],λx w k=>(h.rcv x w k).2⟩
theorem FZ{t:Z4}(l:Small t)(i:∀x∈bQ t,mH t.procs.l.length x.1.proc x.2):Wp (fD t) λr=>(r.2.2=0->∃A,r.1=some A/\fR t (bQ t) A)/\(Aj t->r.2.2=0):=by
 unfold fD kf;rw[ζb];unfold fD.E1;rw[uM l,ζb];refine Al (λk A=>fR t ((bQ t).take k) A) ⟨Zab,Zab,λm c b=>.inl (by rw[QL c b]),λm c b=>.inl (by rw[QL c b])⟩ ?_ ?_;intro k x A f B;have G:=mem_of_getElem? f;have S:(bQ t).take (k+1)=(bQ t).take k++[x]:=by rw[take_add_one,f];rfl
 have⟨p,j,F,H⟩:=eo.1 G;have n:=i x G;unfold fD.kN;rw[cq];constructor;intro d;have L:x.2.kind=2:=by grind
 have u:0<=x.2.message/\x.2.message<=199:=by rcases n with h|⟨_,_,_,_,h⟩;omega;simp_all
 rw[Oq A u.1 u.2,ζb,cq];refine⟨λo=>(bg _).2 ((bg _).2 ⟨λh=>(by cases h),λX=>?_⟩),λc=>?_⟩;rcases B.fr _ u.1 u.2 with Y|⟨e,O,T,U⟩;grind;exact absurd (X.snd _ (mem_of_mem_take O) x G T L U) (KO f O);rw[ζb,bg,S];have W:∀y∈(bQ t).take k,y.2.kind=2->y.2.message≠x.2.message:=λy a w O=>by have:=B.snd y a w;rw[O]at this;have⟨p',q,_,Q⟩:=eo.1 (mem_of_mem_take a);grind
 have Z:∀y∈(bQ t).take k,y.2.kind=2\/y.2.kind=3->0<=y.2.message:=λy a w=>by rcases i y (mem_of_mem_take a)with h|⟨_,_,_,_,h,_⟩;omega;simp_all
 refine⟨λy a w=>?_,λy a z=>?_,λm C I=>?_,λm C I=>?_⟩;rcases mem_append.1 a with a|a;rw[sU A _ u.1 u.2 (Z y a (.inl w)),if_neg (W y a w)];exact B.snd y a w;simp at a;subst a;rw[sU A _ u.1 u.2 u.1,if_pos rfl];rcases mem_append.1 a with a|a;rw[sU A _ u.1 u.2 (Z y a (.inr z))];have:=B.rcv y a z;grind;grind;rw[sU A _ u.1 u.2 C];split;next e=>exact .inr ⟨x.2,Zab,L,e.symm⟩
 exact(B.fr m C I).imp (λh=>h) λ⟨e,b,D⟩=>⟨e,mem_append_left _ b,D⟩;rw[sU A _ u.1 u.2 C];have:=(B.to m C I).imp (λh=>h) λ⟨e,b,D⟩=>(⟨e,mem_append_left [x] b,D⟩:∃e,((ag A m).to_,e)∈(bQ t).take k++[x]/\e.kind=3/\e.message=m);split;next e=>subst e;omega
 omega;intro d;have L:=by simpa using d
 rw[cq];constructor;intro d;have J:=by simpa using d
 have u:0<=x.2.message/\x.2.message<=199/\0<=x.2.peer/\x.2.peer<t.procs.l.length:=by rcases n with h|⟨_,b,D,_,v,E⟩;omega;exact⟨v,E,b,D⟩
 rw[Oq A u.1 u.2.1,ζb,cq];refine⟨λo=>(bg _).2 ((bg _).2 ⟨λh=>(by cases h),λX=>?_⟩),λc=>?_⟩;rcases B.to _ u.1 u.2.1 with Y|⟨e,O,T,U⟩;simp[Y]at o;exact absurd (X.rcv _ (mem_of_mem_take O) x G T J U) (KO f O);have c:¬(ag A x.2.message).to_.index>0:=by simpa using c
 rw[Tl l u.2.2.1 u.2.2.2,ζb,cq];refine⟨λg=>?_,λg=>(bg _).2 ((bg _).2 ⟨λh=>(by cases h),λX=>by rw[X.has x G J]at g;cases g⟩)⟩;rw[ζb,bg,S];have W:∀y∈(bQ t).take k,y.2.kind=3->y.2.message≠x.2.message:=λy a w O=>by have:=(B.rcv y a w).1;rw[O]at this;rw[this]at c;have⟨p',q,_,Q⟩:=eo.1 (mem_of_mem_take a);rw[Q]at c;exact c (by show(q:Int)+1>0;omega)
 have Z:∀y∈(bQ t).take k,y.2.kind=2\/y.2.kind=3->0<=y.2.message:=λy a w=>by rcases i y (mem_of_mem_take a)with h|⟨_,_,_,_,h,_⟩;omega;exact h
 refine⟨λy a w=>?_,λy a z=>?_,λm C I=>?_,λm C I=>?_⟩;rcases mem_append.1 a with a|a;rw[sU A _ u.1 u.2.1 (Z y a (.inl w))];have:=B.snd y a w;split;next e=>rw[e]at this;exact this
 exact this;simp at a;subst a;omega;rcases mem_append.1 a with a|a;rw[sU A _ u.1 u.2.1 (Z y a (.inr z)),if_neg (W y a z)];exact B.rcv y a z;simp at a;subst a;rw[sU A _ u.1 u.2.1 u.1,if_pos rfl];exact⟨rfl,g⟩;rw[sU A _ u.1 u.2.1 C];have:=(B.fr m C I).imp (λh=>h) λ⟨e,b,D⟩=>(⟨e,mem_append_left [x] b,D⟩:∃e,((ag A m).from_,e)∈(bQ t).take k++[x]/\e.kind=2/\e.message=m);split;next e=>subst e;exact this
 exact this;rw[sU A _ u.1 u.2.1 C];split;next e=>exact .inr ⟨x.2,Zab,J,e.symm⟩
 exact(B.to m C I).imp (λh=>h) λ⟨e,b,D⟩=>⟨e,mem_append_left _ b,D⟩;intro d;have J:=by simpa using d
 rw[bg,S];refine⟨λy a w=>?_,λy a z=>?_,λm C I=>?_,λm C I=>?_⟩;rcases mem_append.1 a with a|a;exact B.snd y a w;simp at a;subst a;exact absurd w L;rcases mem_append.1 a with a|a;exact B.rcv y a z;simp at a;subst a;exact absurd z J;exact(B.fr m C I).imp (λh=>h) λ⟨e,b,D⟩=>⟨e,mem_append_left _ b,D⟩;exact(B.to m C I).imp (λh=>h) λ⟨e,b,D⟩=>⟨e,mem_append_left _ b,D⟩;intro A s;rw[take_length]at s;exact(bg _).2 ⟨λ_=>⟨A,rfl,s⟩,λ_=>rfl⟩
def jH(f:Nat->X')(k n:Nat):X':=(range' k (n-k)).any f
theorem Il{f:Nat->X'}{k n:Nat}(h:k<n):jH f k n=(f k||jH f (k+1) n):=by unfold jH;rw[show n-k=(n-(k+1))+1 from Zaa,List.range'_succ];rfl
theorem TX{f:Nat->X'}{k n:Nat}(h:n<=k):jH f k n=false:=by unfold jH;rw[show n-k=0 from Zaa];rfl
theorem Uf{f:Nat->X'}{k n:Nat}:jH f k n=true↔∃i,k<=i/\i<n/\f i=true:=by unfold jH;rw[List.any_eq_true];constructor;rintro⟨i,hi,u⟩;rw[List.mem_range'_1]at hi;exact⟨i,hi.1,Zaa,u⟩;rintro⟨i,a,w,u⟩;exact⟨i,by rw[List.mem_range'_1];omega,u⟩
theorem Hg{step:Int->a_ (Fw Int Unit Unit)}{n:Nat}(f:Nat->X')(D:n<9223372036854775807)(a:∀i:Nat,i<n->step i=some (if f i then .r ()else .n (wrap .i64 ((i:Int)+1))))(B:step (n:Int)=some (.x ())):
 ∀m k:Nat,k+m=n->bY step (k:Int)=some (if jH f k n then .r ()else .x ()):=by
 intro m
 induction m with
 |zero=>
  intro k b;have:k=n:=Zaa
  subst this;rw[fG,B,TX (le_refl _)];rfl
 |succ m u=>
  intro k b;rw[fG,a k Zaa,Il Zaa]
  cases w:f k with
  |true=>rfl|false=>
   simp only[false_eq_true,if_false,ζb,Bool.false_or];rw[cH k Zaa]
   exact u (k+1) Zaa
def oS(g:Nat->Int)(k n:Nat):Int:=match(range' k (n-k)).find? λi=> !(g i==0)with
 |some i=>g i|none=>0
theorem HC{g:Nat->Int}{k n:Nat}(h:k<n):oS g k n=if g k=0 then oS g (k+1) n else g k:=by unfold oS;rw[show n-k=(n-(k+1))+1 from Zaa,List.range'_succ,List.find?_cons];by_cases a:g k=0;simp[a];rw[if_neg a,show(!(g k==0))=true from by simp[a]]
theorem JK{g:Nat->Int}{k n:Nat}(h:n<=k):oS g k n=0:=by unfold oS;rw[show n-k=0 from Zaa];rfl
theorem Qb{g:Nat->Int}{n:Nat}:∀{m k:Nat},k+m=n->(oS g k n=0↔∀i,k<=i->i<n->g i=0):=by intro m;induction m with|zero=>intro k c;rw[JK Zaa];exact⟨λ_ i b u=>Zaa,λ_=>rfl⟩|succ m w=>intro k c;rw[HC Zaa];split;rename_i a;rw[w (show k+1+m=n by omega)];constructor;intro h i b u;by_cases e:i=k;subst e;exact a;exact h i Zaa u;intro h i b u;exact h i Zaa u;rename_i a;exact⟨λh=>absurd h a,λh=>absurd (h k (le_refl _) Zaa) a⟩
theorem Wf{step:Int->a_ (Fw Int Unit Int)}{n:Nat}(g:Nat->Int)(D:n<9223372036854775807)(b:∀i:Nat,i<n->step i=some (if g i=0 then .n (wrap .i64 ((i:Int)+1))else .r (g i)))(B:step (n:Int)=some (.x ())):
 ∀m k:Nat,k+m=n->bY step (k:Int)=some (if oS g k n=0 then .x ()else .r (oS g k n)):=by
 intro m
 induction m with
 |zero=>
  intro k c;have:k=n:=Zaa
  subst this;rw[fG,B,JK (le_refl _)];rfl
 |succ m u=>
  intro k c;rw[fG,b k Zaa,HC Zaa]
  by_cases a:g k=0
  .simp only[a,if_true,ζb];rw[cH k Zaa]
   exact u (k+1) Zaa
  simp only[a,if_false,ζb]
theorem A3{step:Int->a_ (Fw Int Unit Int)}{n:Nat}(g:Nat->Int)(B:n<9223372036854775807)(a:∀i:Nat,i<n->step i=some (if g i=0 then .n (wrap .i64 ((i:Int)+1))else .r (g i)))(D:step (n:Int)=some (.x ())):bY step 0=some (if oS g 0 n=0 then .x ()else .r (oS g 0 n)):=Wf g B a D n 0 Zaa
theorem Eo{step:Int->a_ (Fw Int Unit Unit)}{n:Nat}(f:Nat->X')(B:n<9223372036854775807)(a:∀i:Nat,i<n->step i=some (if f i then .r ()else .n (wrap .i64 ((i:Int)+1))))(D:step (n:Int)=some (.x ())):bY step 0=some (if jH f 0 n then .r ()else .x ()):=Hg f B a D n 0 Zaa
def zI(c:Int):X':=decide (c>=65)&&decide (c<=90)||decide (c>=97)&&decide (c<=122)
def DT(c:Int):X':=decide (c>=48)&&decide (c<=57)
theorem EM(c:Int):rU c=some (zI c):=by unfold rU zI;simp only[ov,mW,ζb];rw[Bool.or_comm]
theorem Gl(c:Int):qy c=some (zI c):=by unfold qy zI;simp only[ov,mW,ζb]
theorem Qp(c:Int):we c=some (DT c):=by unfold we DT;simp only[ov,ζb]
theorem RG(c:Int):u_ c=some (DT c):=by unfold u_ DT;simp only[ov,ζb]
def zb(s:U')(i:Nat):Int:=(mD s (i:Int)).getD 0
theorem Fs{s:U'}{i:Nat}(h:i<s.size):mD s (i:Int)=some (zb s i):=by have⟨x,u⟩:=Pg h;unfold zb;rw[u];rfl
def uY(s:U')(i:Nat):X':= !zI (zb s i)&& !DT (zb s i)&& !(zb s i==95)
def mZ(s:U'):X':=decide (1<=s.size)&&decide (s.size<=16)&&zI (zb s 0)&& !jH (uY s) 0 s.size
theorem Ou{s:U'}{i:Nat}(h:i<s.size):h_.br s (s.size:Int) i=some (if uY s i then .r ()else .n (wrap .i64 ((i:Int)+1))):=by unfold h_.br uY;rw[show decide ((i:Int)<(s.size:Int))=true from by simpa using h,bD,Fs h];simp only[ζb,EM,Qp];cases zI (zb s i)<;>cases DT (zb s i)<;>cases(zb s i==95)<;>rfl
theorem Oh{s:U'}{i:Nat}(h:i<s.size):iM.br s i=some (if uY s i then .r ()else .n (wrap .i64 ((i:Int)+1))):=by unfold iM.br uY;rw[show decide ((i:Int)<((ByteArray.size s:Nat):Int))=true from by simpa using h,bD,Fs h];simp only[ζb,Gl,RG];cases zI (zb s i)<;>cases DT (zb s i)<;>cases(zb s i==95)<;>rfl
theorem toList_empty{s:U'}:(toList s==toList ByteArray.empty)=decide (s.size=0):=by
 rw[Bool.eq_iff_iff,beq_iff_eq,decide_eq_true_eq];constructor;intro h;have a:(toList s).length=s.size:=by rw[Go.ByteArray.toList_eq];simp
 rw[<-a,h];rw[Go.ByteArray.toList_eq];rfl;intro h;have:s=ByteArray.empty:=by apply ByteArray.ext;exact Array.eq_empty_of_size_eq_zero h
 rw[this]
theorem II{s:U'}(B:s.size<1073741824):h_ s=some (mZ s):=by
 unfold h_;rw[toList_empty];simp only[mW,ζb];by_cases b:s.size=0;simp[b,mZ,bl];by_cases u:s.size<=16;have a:(decide (s.size=0)||decide (((ByteArray.size s:Nat):Int)>16))=false:=by simp[b];omega
 rw[a,bu,show(0:Int)=((0:Nat):Int)from rfl,Fs (show 0<s.size by omega)];simp only[ζb,EM];cases w:zI (zb s 0)with|false=>simp[mZ,w,bl]|true=>simp only[Bool.not_true,bu];unfold h_.W1;rw[Hg (n:=s.size) (uY s) Zaa (λi hi=>Ou hi) (by unfold h_.br;simp[bl]) s.size 0 Zaa];have:mZ s= !jH (uY s) 0 s.size:=(by simp[mZ,w,u];omega);rw[this];cases jH (uY s) 0 s.size<;>rfl
 have a:(decide (s.size=0)||decide (((ByteArray.size s:Nat):Int)>16))=true:=by simp;omega
 rw[a,bD];simp[mZ,u,bl]
theorem Jv{s:U'}(B:s.size<1073741824):iM s=some (mZ s):=by
 unfold iM;simp only[mW,ζb];by_cases c:s.size=0;simp[c,mZ,bl];by_cases u:s.size<=16;have a:(decide (((ByteArray.size s:Nat):Int)<1)||decide (((ByteArray.size s:Nat):Int)>16))=false:=by simp;omega
 rw[a,bu,show(0:Int)=((0:Nat):Int)from rfl,Fs (show 0<s.size by omega)];simp only[ζb,Gl];cases w:zI (zb s 0)with|false=>simp[mZ,w,bl]|true=>simp only[Bool.not_true,bu];unfold iM.W1;rw[show(1:Int)=((1:Nat):Int)from rfl,Hg (n:=s.size) (uY s) Zaa (λi hi=>Oh hi) (by unfold iM.br;simp[bl]) (s.size-1) 1 Zaa];have z:uY s 0=false:=(by simp[uY,w]);have:mZ s= !jH (uY s) 1 s.size:=(by have b:=Il (f:=uY s) (show 0<s.size by omega);rw[z]at b;simp[mZ,w,u,b];omega);rw[this];cases jH (uY s) 1 s.size<;>rfl
 have a:(decide (((ByteArray.size s:Nat):Int)<1)||decide (((ByteArray.size s:Nat):Int)>16))=true:=by simp;omega
 rw[a,bD];simp[mZ,u,bl]
def fO{α:Type}(l:aZ α)(f:α->X')(i:Nat):X':=match l[i]?with|some y=>f y|none=>false
theorem BR{α:Type}{l:aZ α}{f:α->X'}{i:Nat}(h:i<l.length):fO l f i=f l[i]:=by unfold fO;rw[ζd h]
theorem Ek{α:Type}{l:aZ α}{f:α->X'}{p:Nat}:(l.take p).any f=jH (fO l f) 0 p:=by
 rw[Bool.eq_iff_iff,List.any_eq_true,Uf];constructor;rintro⟨x,w,u⟩;have⟨i,hi⟩:=List.getElem?_of_mem w;have z:=(ζe.1 hi).1;rw[length_take]at z;rw[getElem?_take,if_pos Zaa]at hi;exact⟨i,zero_le _,Zaa,by unfold fO;rw[hi];exact u⟩;rintro⟨i,_,hi,u⟩;unfold fO at u;split at u;next y B=>exact⟨y,mem_of_getElem? (i:=i) (by rw[getElem?_take,if_pos hi];exact B),u⟩
 cases u
def tW(a b:U'):X':=toList a==toList b
def YT:X'->X'->X'->Int
 |true,false,true=>0|true,false,false=>2|_,_,_=>13
def wF(P:bW)(i:Nat):Int:=match P.vars.l[i]?with
 |some v=>YT (mZ v.name) (jH (fO P.vars.l λw=>tW w.name v.name) 0 i) (decide (v.init_>=-1073741824)&&decide (v.init_<=1073741824))|none=>0
def sB(t:Z4)(p:Nat):Int:=match t.procs.l[p]?with
 |some P=>if mZ P.name&& !jH (fO t.procs.l λy=>tW y.name P.name) 0 p then
  (if P.vars.l.length>8 then 5 else if oS (wF P) 0 P.vars.l.length=0 then(if P.events.l.length>64 then 5 else 0)else oS (wF P) 0 P.vars.l.length)else 13
 |none=>0
theorem IG{P:bW}{i:Nat}(h:i<P.vars.l.length):wF P i=YT (mZ P.vars.l[i].name) (jH (fO P.vars.l λw=>tW w.name P.vars.l[i].name) 0 i) (decide (P.vars.l[i].init_>=-1073741824)&&decide (P.vars.l[i].init_<=1073741824)):=by unfold wF;rw[ζd h]
theorem HH(n:Int):rP n=some (decide (n>=-1073741824)&&decide (n<=1073741824)):=by unfold rP;rw[ov];rfl
theorem SN{t:Z4}(a:Small t){p:Nat}(hp:p<t.procs.l.length):fC t p=some (sB t p):=by
 have b:=a.2 _ (getElem_mem hp);have e:=a.1;unfold fC sB;rw[bJ hp,ζb,ζd hp];generalize U:t.procs.l[p]=P at *;have⟨S,W,O,u,_⟩:=b;rw[II O,ζb];have⟨x,X,D⟩:=uf t.procs p Zaa;have G:jh x (λz=>kO z P)=some (jH (fO t.procs.l λy=>tW y.name P.name) 0 p):=by rw[KP (p:=λz=>kO z P) (f:=λy=>tW y.name P.name) (λy _=>rfl) (by rw[D,length_take];omega),D,Ek]
 rw[X,ζb,G,ζb];dsimp only;cases Z:mZ P.name with|false=>simp[bl]|true=>rw[bD,ζb,Bool.true_and];cases hd:jH (fO t.procs.l λy=>tW y.name P.name) 0 p with|true=>simp[bl]|false=>rw[bu];simp only[Bool.not_false,if_true];by_cases T:P.vars.l.length>8;rw[show decide (len P.vars>8)=true from by simp[len];omega,bD,if_pos T];rw[show decide (len P.vars>8)=false from by simp[len];omega,bu,if_neg T];unfold fC.W1;rw[A3 (n:=P.vars.l.length) (wF P) Zaa (λi hi=>?_) (by unfold fC.br;simp[bl,len])];by_cases L:oS (wF P) 0 P.vars.l.length=0;rw[if_pos L,if_pos L];show bl (decide (len P.events>64)) (some 5) (some 0)=_;rw[vw];simp only[len,decide_eq_true_eq];by_cases I:P.events.l.length>64;rw[if_pos I,if_pos Zaa];rw[if_neg I,if_neg Zaa];rw[if_neg L,if_neg L];rfl;unfold fC.br;rw[IG hi,show decide ((i:Int)<len P.vars)=true from by simp[len];exact hi,bD,bJ hi,ζb];have c:=u _ (getElem_mem hi);have⟨y,Y,J⟩:=uf P.vars i Zaa;have Q:iw y (λz=>kI z P.vars.l[i])=some (jH (fO P.vars.l λw=>tW w.name P.vars.l[i].name) 0 i):=(by rw[DB (p:=λz=>kI z P.vars.l[i]) (f:=λw=>tW w.name P.vars.l[i].name) (λw _=>rfl) (by rw[J,length_take];omega),J,Ek]);rw[II c,ζb,Y,ζb,Q,ζb,qE];have d:(decide (-1073741824<=P.vars.l[i].init_)&&decide (P.vars.l[i].init_<=1073741824))=(decide (P.vars.l[i].init_>=-1073741824)&&decide (P.vars.l[i].init_<=1073741824)):=rfl;rw[d];generalize mZ P.vars.l[i].name=A;generalize jH (fO P.vars.l λw=>tW w.name P.vars.l[i].name) 0 i=B;generalize(decide (P.vars.l[i].init_>=-1073741824)&&decide (P.vars.l[i].init_<=1073741824))=C;cases A<;>cases B<;>cases C<;>rfl
theorem UG{t:Z4}(a:Small t){p:Nat}(hp:p<t.procs.l.length):eW t p=some (sB t p):=by have b:=a.2 _ (getElem_mem hp);have c:=a.1;unfold eW sB;rw[bJ hp,ζb,ζd hp];generalize Q:t.procs.l[p]=P at *;have⟨L,S,J,u,_⟩:=b;rw[Jv J,ζb];dsimp only;cases W:mZ P.name with|false=>simp[bl]|true=>rw[bD,Bool.true_and];unfold eW.W1;rw[Eo (n:=p) (fO t.procs.l λy=>tW y.name P.name) Zaa (λi hi=>?_) (by unfold eW.br;simp[bl])];(cases hd:jH (fO t.procs.l λy=>tW y.name P.name) 0 p with|true=>rfl|false=>simp only[Bool.not_false,if_true];show bl (decide (len P.vars>8)) (some 5) (eW.W2 0 P)=_;by_cases O:P.vars.l.length>8;rw[show decide (len P.vars>8)=true from by simp[len];omega,bD,if_pos O];rw[show decide (len P.vars>8)=false from by simp[len];omega,bu,if_neg O];unfold eW.W2;rw[A3 (n:=P.vars.l.length) (wF P) Zaa (λi hi=>?_) (by unfold eW.bV;simp[bl,len])];by_cases I:oS (wF P) 0 P.vars.l.length=0;rw[if_pos I,if_pos I];show bl (decide (len P.events>64)) (some 5) (some 0)=_;rw[vw];simp only[len,decide_eq_true_eq];by_cases z:P.events.l.length>64;rw[if_pos z,if_pos Zaa];rw[if_neg z,if_neg Zaa];rw[if_neg I,if_neg I];rfl;unfold eW.bV;rw[IG hi,show decide ((i:Int)<len P.vars)=true from by simp[len];exact hi,bD,bJ hi,ζb];(rw[Jv (u _ (getElem_mem hi)),ζb];have T:eW.W3 i 0 P=if jH (fO P.vars.l λw=>tW w.name P.vars.l[i].name) 0 i then some (.r 13)else(if decide (P.vars.l[i].init_>=-1073741824)&&decide (P.vars.l[i].init_<=1073741824)then some (.n (wrap .i64 ((i:Int)+1)))else some (.r 2)):=by unfold eW.W3;rw[Eo (n:=i) (fO P.vars.l λw=>tW w.name P.vars.l[i].name) Zaa (λj U=>?_) (by unfold eW.fA;simp[bl])];(cases jH (fO P.vars.l λw=>tW w.name P.vars.l[i].name) 0 i with|true=>rfl|false=>show(idx P.vars (i:Int)).bind _=_;rw[bJ hi,ζb,HH,ζb];cases(decide (P.vars.l[i].init_>=-1073741824)&&decide (P.vars.l[i].init_<=1073741824))<;>rfl);unfold eW.fA;have D:j<P.vars.l.length:=Zaa;rw[show decide ((j:Int)<(i:Int))=true from by simpa using U,bD,bJ D,ζb,bJ hi,ζb,BR D,vw];rfl);rw[T];generalize mZ P.vars.l[i].name=A;generalize jH (fO P.vars.l λw=>tW w.name P.vars.l[i].name) 0 i=B;generalize(decide (P.vars.l[i].init_>=-1073741824)&&decide (P.vars.l[i].init_<=1073741824))=C;cases A<;>cases B<;>cases C<;>rfl);unfold eW.br;have G:i<t.procs.l.length:=Zaa;rw[show decide ((i:Int)<(p:Int))=true from by simpa using hi,bD,bJ G,ζb,BR G,vw];rfl
def Lm(n:Nat)(p:Int)(e:WF):X':=if e.kind==1 then e.peer==0&&e.message==0 else(e.kind==2||e.kind==3)&&(decide (0<=e.peer)&&decide (e.peer<n))&& !(e.peer==p)&&(decide (0<=e.message)&&decide (e.message<=199))
theorem RD{t:Z4}(a:Small t)(p:Int)(e:WF):jk t p e=some (Lm t.procs.l.length p e):=by
 have c:=a.1;have w:wrap .i64 (len t.procs-1)=len t.procs-1:=eF _ (by simp[len];omega) (by simp[len];omega);have u:∀b:X',jk.J1 p b t e=some (b&&(decide (0<=e.peer)&&decide (e.peer<t.procs.l.length))&& !(e.peer==p)&&(decide (0<=e.message)&&decide (e.message<=199))):=by intro b;unfold jk.J1;simp only[qE,w,ζb];have:decide (e.peer<=len t.procs-1)=decide (e.peer<t.procs.l.length):=(by congr 1;apply propext;simp[len];omega);rw[this];generalize(decide (0<=e.peer)&&decide (e.peer<(t.procs.l.length:Int)))=A;generalize(e.peer==p)=B;generalize(decide (0<=e.message)&&decide (e.message<=199))=C;cases b<;>cases A<;>cases B<;>cases C<;>rfl
 unfold jk Lm;rw[u,u];cases c:e.kind==1 with|true=>rw[bD];cases e.peer==0<;>cases e.message==0<;>rfl|false=>rw[bu];simp only[false_eq_true,if_false];cases z:e.kind==2<;>simp[bl]
def Gt(P:bW)(k:Nat)(e:WF):X':=match k with|0=>false|j+1=>fO P.events.l (λx=>decide (e.time<x.time)) j
def v7(P:bW)(k:Nat)(e:WF):X':=decide (e.time<0)||decide (e.time>1099511627776)||Gt P k e
def Sp:X'->X'->X'->Int
 |true,true,false=>0|true,true,true=>8|_,_,_=>2
def pN(P:bW)(e:WF)(i:Nat):Int:=match e.assign.l[i]?with
 |some a=>Sp (decide (0<=a.var)&&decide (a.var<P.vars.l.length)) (decide (a.value>=-1073741824)&&decide (a.value<=1073741824)) (jH (fO e.assign.l λb=>b.var==a.var) 0 i)|none=>0
theorem HK{P:bW}{e:WF}{i:Nat}(h:i<e.assign.l.length):pN P e i=Sp (decide (0<=e.assign.l[i].var)&&decide (e.assign.l[i].var<P.vars.l.length)) (decide (e.assign.l[i].value>=-1073741824)&&decide (e.assign.l[i].value<=1073741824)) (jH (fO e.assign.l λb=>b.var==e.assign.l[i].var) 0 i):=by unfold pN;rw[ζd h]
def qh(n:Nat)(P:bW)(p k:Nat)(e:WF):Int:=if Lm n p e then(if v7 P k e then 11 else if e.assign.l.length>8 then 5 else oS (pN P e) 0 e.assign.l.length)else 3
theorem Pc{P:bW}{e:WF}(c:P.vars.l.length<1073741824)(U:e.assign.l.length<1073741824):dZ.W2 e.assign (len e.assign) 0 e P=some (oS (pN P e) 0 e.assign.l.length):=by
 have I:wrap .i64 (len P.vars-1)=len P.vars-1:=eF _ (by simp[len];omega) (by simp[len];omega);unfold dZ.W2;rw[A3 (n:=e.assign.l.length) (pN P e) Zaa (λi hi=>?_) (by unfold dZ.bV;simp[bl,len])];by_cases D:oS (pN P e) 0 e.assign.l.length=0;rw[if_pos D,D];rfl;rw[if_neg D];rfl;unfold dZ.bV;have⟨y,J,u⟩:=uf e.assign i Zaa;have G:iF y (λz=>lW z e.assign.l[i])=some (jH (fO e.assign.l λb=>b.var==e.assign.l[i].var) 0 i):=by rw[Hf (p:=λz=>lW z e.assign.l[i]) (f:=λb=>b.var==e.assign.l[i].var) (λw _=>rfl) (by rw[u,length_take];omega),u,Ek]
 rw[HK hi,show decide ((i:Int)<len e.assign)=true from by simp[len];exact hi,bD,bJ hi,ζb,qE,qE,I,J,ζb,ζb,ζb,G,ζb];have a:(decide (0<=e.assign.l[i].var)&&decide (e.assign.l[i].var<=len P.vars-1))=(decide (0<=e.assign.l[i].var)&&decide (e.assign.l[i].var<P.vars.l.length)):=by congr 2;apply propext;simp[len];omega
 have L:(decide (-1073741824<=e.assign.l[i].value)&&decide (e.assign.l[i].value<=1073741824))=(decide (e.assign.l[i].value>=-1073741824)&&decide (e.assign.l[i].value<=1073741824)):=rfl;rw[a,L];generalize(decide (0<=e.assign.l[i].var)&&decide (e.assign.l[i].var<(P.vars.l.length:Int)))=A;generalize(decide (e.assign.l[i].value>=-1073741824)&&decide (e.assign.l[i].value<=1073741824))=B;generalize jH (fO e.assign.l λb=>b.var==e.assign.l[i].var) 0 i=C;cases A<;>cases B<;>cases C<;>rfl
theorem Qq{t:Z4}(a:Small t){p k:Nat}{P:bW}{e:WF}(b:t.procs.l[p]?=some P)(J:P.events.l[k]?=some e):dZ t ⟨p,k+1⟩ e=some (qh t.procs.l.length P p k e):=by
 have⟨L,w⟩:=ζe.1 b;have⟨c,z⟩:=ζe.1 J;have⟨D,B,_,_,C⟩:=a.2 P (w▸getElem_mem L);have O:=C e (z▸getElem_mem c);have G:∀last:Int,((decide (0<=e.time)&&decide (e.time<=1099511627776))&& !decide (e.time<last))=(!v7 P k e)->
  dZ.J1 last t ⟨p,k+1⟩ e P=some (qh t.procs.l.length P p k e):=by
  intro last Q;unfold dZ.J1 qh;rw[RD a,ζb,qE,ζb,Pc B O];dsimp only
  cases Lm t.procs.l.length p e with
  |false=>rfl|true=>
   rw[bD,if_pos rfl];have:(bl (decide (0<=e.time)&&decide (e.time<=1099511627776)) (some (decide (e.time<last))) (some true):a_ X')=some (v7 P k e):=by
    have S:(!((decide (0<=e.time)&&decide (e.time<=1099511627776))&& !decide (e.time<last)))=v7 P k e:=by rw[Q,Bool.not_not]
    rw[<-S];cases(decide (0<=e.time)&&decide (e.time<=1099511627776))<;>cases decide (e.time<last)<;>rfl
   rw[this,ζb]
   cases v7 P k e with
   |true=>rfl|false=>
    rw[bu];simp only[false_eq_true,if_false]
    by_cases I:e.assign.l.length>8
    .rw[show decide (len e.assign>8)=true from by simp[len];omega,bD,if_pos I]
    rw[show decide (len e.assign>8)=false from by simp[len];omega,bu,if_neg I]
 unfold dZ;dsimp only;rw[show idx t.procs (p:Int)=some P from by rw[iI];exact b,ζb];cases k with|zero=>rw[show decide (((0:Nat):Int)+1>1)=false from by decide,bu];refine G 0 ?_;simp only[v7,Gt,Bool.or_false];rw[Bool.eq_iff_iff];simp only[ζh,not_eq_true',decide_eq_true_eq,decide_eq_false_iff_not,or_eq_false_iff];omega|succ j=>rw[show decide ((((j+1:Nat)):Int)+1>1)=true from by simp;omega,bD];have u:j<P.events.l.length:=Zaa;have T:wrap .i64 ((((j+1:Nat)):Int)+1-2)=((j:Nat):Int):=(by rw[eF _ Zaa Zaa];omega);rw[T,bJ u,ζb];refine G _ ?_;simp only[v7,Gt,BR u];rw[Bool.eq_iff_iff];simp only[ζh,not_eq_true',decide_eq_true_eq,decide_eq_false_iff_not,or_eq_false_iff];omega
theorem OQ{t:Z4}{p:Nat}{P:bW}{e:WF}(a:t.procs.l[p]?=some P)(G:e.assign.l.length<1073741824):eV.W2 p 0 t e=some (oS (pN P e) 0 e.assign.l.length):=by
 unfold eV.W2;rw[A3 (n:=e.assign.l.length) (pN P e) Zaa (λi hi=>?_) (by unfold eV.bV;simp[bl,len])];by_cases w:oS (pN P e) 0 e.assign.l.length=0;rw[if_pos w,w];rfl;rw[if_neg w];rfl;unfold eV.bV;have z:eV.W3 p i 0 t e e.assign.l[i]=if jH (fO e.assign.l λb=>b.var==e.assign.l[i].var) 0 i then some (.r 8)else some (.n (wrap .i64 ((i:Int)+1))):=by unfold eV.W3;rw[Eo (n:=i) (fO e.assign.l λb=>b.var==e.assign.l[i].var) Zaa (λj D=>?_) (by unfold eV.fA;simp[bl])];cases jH (fO e.assign.l λb=>b.var==e.assign.l[i].var) 0 i<;>rfl;unfold eV.fA;have u:j<e.assign.l.length:=Zaa;rw[show decide ((j:Int)<(i:Int))=true from by simpa using D,bD,bJ u,ζb,BR u,vw]
 rw[HK hi,show decide ((i:Int)<len e.assign)=true from by simp[len];exact hi,bD,bJ hi,ζb,z,HH,ζb,show idx t.procs (p:Int)=some P from by rw[iI];exact a,ζb];have c:(bl (decide (e.assign.l[i].var<0)) (some true) (some (decide (e.assign.l[i].var>=len P.vars))):a_ X')=some (!(decide (0<=e.assign.l[i].var)&&decide (e.assign.l[i].var<P.vars.l.length))):=by rw[mW];congr 1;rw[Bool.eq_iff_iff];simp only[or_eq_true,not_eq_true',decide_eq_true_eq,Bool.and_eq_false_iff,decide_eq_false_iff_not,len];omega
 rw[c,ζb];generalize(decide (0<=e.assign.l[i].var)&&decide (e.assign.l[i].var<(P.vars.l.length:Int)))=A;generalize(decide (e.assign.l[i].value>=-1073741824)&&decide (e.assign.l[i].value<=1073741824))=B;generalize jH (fO e.assign.l λb=>b.var==e.assign.l[i].var) 0 i=C;cases A<;>cases B<;>cases C<;>rfl
theorem UD{t:Z4}(c:Small t){p k:Nat}{P:bW}{e:WF}(a:t.procs.l[p]?=some P)(U:P.events.l[k]?=some e):eV t p k=some (qh t.procs.l.length P p k e):=by
 have⟨Q,w⟩:=ζe.1 a;have⟨d,z⟩:=ζe.1 U;have⟨L,S,_,_,I⟩:=c.2 P (w▸getElem_mem Q);have T:=I e (z▸getElem_mem d);have W:eV.J1 p k t e=some (if v7 P k e then 11 else if e.assign.l.length>8 then 5 else oS (pN P e) 0 e.assign.l.length):=by unfold eV.J1;rw[mW,ζb,OQ a T,show idx t.procs (p:Int)=some P from by rw[iI];exact a,ζb];have b:(bl (decide ((k:Int)>0)) ((idx P.events (wrap .i64 ((k:Int)-1))).bind λJ=>some (decide (e.time<J.time))) (some false):a_ X')=some (Gt P k e):=(by cases k with|zero=>rfl|succ j=>have u:j<P.events.l.length:=Zaa;rw[show decide ((((j+1:Nat)):Int)>0)=true from by simp only[decide_eq_true_eq];omega,bD,show wrap .i64 ((((j+1:Nat)):Int)-1)=((j:Nat):Int)from by rw[eF _ Zaa Zaa];omega,bJ u,ζb];simp only[Gt,BR u]);rw[b,ζb,mW,ζb];show bl (v7 P k e) _ _=_;cases v7 P k e with|true=>rfl|false=>rw[bu];simp only[false_eq_true,if_false];by_cases O:e.assign.l.length>8;rw[show decide (len e.assign>8)=true from by simp[len];omega,bD,if_pos O];rw[show decide (len e.assign>8)=false from by simp[len];omega,bu,if_neg O]
 unfold eV qh;rw[show idx t.procs (p:Int)=some P from by rw[iI];exact a,ζb,show idx P.events (k:Int)=some e from by rw[iI];exact U,ζb,W];unfold Lm;cases b:e.kind==1 with|true=>rw[bD];simp only[if_true];cases e.peer==0<;>cases e.message==0<;>rfl|false=>rw[bu];simp only[false_eq_true,if_false];have X:(bl (e.kind==2) (some false) (some (!(e.kind==3))):a_ X')=some (!(e.kind==2||e.kind==3)):=(by cases e.kind==2<;>rfl);rw[X,ζb,mW,ζb,mW,ζb,mW,ζb,mW,ζb,mW,ζb];have Y:(((((!(e.kind==2||e.kind==3))||decide (e.peer<0))||decide (e.peer>=len t.procs))||(e.peer==p))||decide (e.message<0)||decide (e.message>199))= !((e.kind==2||e.kind==3)&&(decide (0<=e.peer)&&decide (e.peer<t.procs.l.length))&& !(e.peer==p)&&(decide (0<=e.message)&&decide (e.message<=199))):=(by generalize(e.kind==2||e.kind==3)=A;have a1:decide (e.peer<0)= !decide (0<=e.peer):=(by rw[Bool.eq_iff_iff];simp);have a2:decide (e.peer>=len t.procs)= !decide (e.peer<t.procs.l.length):=(by rw[Bool.eq_iff_iff];simp[len]);have a3:decide (e.message<0)= !decide (0<=e.message):=(by rw[Bool.eq_iff_iff];simp);have a4:decide (e.message>199)= !decide (e.message<=199):=(by rw[Bool.eq_iff_iff];simp);rw[a1,a2,a3,a4];generalize decide (0<=e.peer)=B;generalize decide (e.peer<(t.procs.l.length:Int))=C;generalize(e.peer==(p:Int))=D;generalize decide (0<=e.message)=F;generalize decide (e.message<=199)=G;cases A<;>cases B<;>cases C<;>cases D<;>cases F<;>cases G<;>rfl);rw[Y];generalize((e.kind==2||e.kind==3)&&(decide (0<=e.peer)&&decide (e.peer<(t.procs.l.length:Int)))&& !(e.peer==(p:Int))&&(decide (0<=e.message)&&decide (e.message<=199)))=Z;cases Z<;>rfl
theorem Pf{n:Nat}{p:Int}{e:WF}(h:Lm n p e=true):mH n p e:=by
 unfold Lm at h;split at h;next a=>left;simpa using a
 right;simp only[ζh,or_eq_true,beq_iff_eq,decide_eq_true_eq,not_eq_true',beq_eq_false_iff_ne,ne_eq]at h;have⟨⟨⟨a,u⟩,z⟩,w⟩:=h;exact⟨a,u.1,u.2,z,w.1,w.2⟩
theorem Lt{n:Nat}{P:bW}{p k:Nat}{e:WF}(h:qh n P p k e=0):mH n p e:=by
 unfold qh at h;split at h;next a=>exact Pf a
 cases h
theorem AS{α:Type}[DecidableEq α]:∀{l r:aZ α},l.Nodup->(∀x∈l,x∈r)->l.length<=r.length
 |[],_,_,_=>zero_le _|x::l,r,D,G=>by have B:=List.nodup_cons.1 D;have:=AS (r:=r.erase x) B.2 λy u=>(List.mem_erase_of_ne Zac).2 (G y (mem_cons_of_mem _ u));grind
section
variable{κ:Type}[DecidableEq κ]
theorem Gn{ν:Type}{k:κ}:∀{m:Mo κ ν},k∉m.map (·.1)->kn k m=none
 |[],_=>rfl|(a,v)::r,h=>by simp only[map_cons,mem_cons,not_or]at h;unfold kn;rw[if_neg h.1];exact Gn h.2
theorem H7{ν:Type}{k:κ}:∀{m:Mo κ ν},k∈m.map (·.1)->∃v,kn k m=some v/\(k,v)∈m
 |[],h=>Zad|(a,v)::r,h=>by unfold kn;by_cases e:k=a;grind;obtain⟨w,b,B⟩:=H7 (by simpa[e]using h);grind
theorem tQ{ν:Type}{k:κ}{v:ν}:∀{m:Mo κ ν},k∉m.map (·.1)->nu m k v=m++[(k,v)]
 |[],_=>rfl|(a,w)::r,h=>by simp only[map_cons,mem_cons,not_or]at h;show(if k=a then _ else _)=_;rw[if_neg h.1,tQ h.2];rfl
end
def Vd(t:Z4)(y:bf):Prop:=∃e,(y,e)∈bQ t
theorem Vd.at_{t:Z4}{y:bf}(h:Vd t y):∃(p k:Nat)(e:WF),mV t p k e/\y=⟨p,k+1⟩/\(y,e)∈bQ t:=by have⟨e,u⟩:=h;have⟨p,k,a,w⟩:=eo.1 u;grind
def Jz(t:Z4)(y z:bf):Prop:=∃e f,(y,e)∈bQ t/\(z,f)∈bQ t/\e.kind=2/\f.kind=3/\e.message=f.message
def Edge(t:Z4)(y z:bf):Prop:=Vd t y/\Vd t z/\(z=⟨y.proc,y.index+1⟩\/Jz t y z)
abbrev Way(t:Trace):bf->bf->Prop:=TransGen (Edge t)
def Nw(t:Z4):Prop:=∃x,Way t x x
theorem Way.l{t:Z4}{x y:bf}(h:Way t x y):Vd t x:=by induction h with|single h=>exact h.1|tail _ _ u=>omega
theorem Way.r{t:Z4}{x y:bf}(h:Way t x y):Vd t y:=by cases h with|single h=>exact h.2.1|tail _ h=>exact h.2.1
theorem SI{t:Z4}(l:Small t)(Y:∀x∈bQ t,mH t.procs.l.length x.1.proc x.2){A:cz 200 bG}(W:fR t (bQ t) A){y:bf}(J:Vd t y):
 Wp (jX t A y) λs=>s.l.length<=2/\∀z,z∈s.l↔Edge t y z:=by
 have⟨p,k,e,L,C,u⟩:=J.at_;have⟨P,a,g⟩:=L;have O:P∈t.procs.l:=mem_of_getElem? a;have b:=(l.2 P O).1;have X:k<P.events.l.length:=(ζe.1 g).1;have D:y.proc=p:=by rw[C]
 have S:y.index=k+1:=by rw[C]
 have j:∀s:Sl bf,s.l.length<=1->(∀z,z∈s.l↔Vd t z/\z=⟨y.proc,y.index+1⟩)->Wp (jX.J1 A s P.events y) λs=>s.l.length<=2/\∀z,z∈s.l↔Edge t y z:=by intro s n w;have no:¬(∃z,Jz t y z)->s.l.length<=2/\∀z,z∈s.l↔Edge t y z:=λZ=>⟨Zaa,λz=>(w z).trans ⟨λh=>⟨J,h.1,.inl h.2⟩,λh=>⟨h.2.1,h.2.2.elim id λh=>(Z ⟨z,h⟩).elim⟩⟩⟩;unfold jX.J1;have T:wrap .i64 (y.index-1)=((k:Nat):Int):=(by rw[S,eF _ Zaa Zaa];omega);rw[T,iI,g,ζb,eM,cq];constructor;intro B;have B:e.kind=2:=(by grind);have I:0<=e.message/\e.message<=199:=(by rcases Y _ u with h|⟨_,_,_,_,h⟩;grind;omega);have c:∀z,Jz t y z->(ag A e.message).to_=z:=λz⟨U,f,a1,a2,a3,a4,a5⟩=>(by cases A8 a1 u rfl;rw[a5];exact(W.rcv _ a2 a4).1);rw[Oq A I.1 I.2,ζb,bg,cq];refine⟨λh=>?_,λh=>(bg _).2 (no λ⟨z,w⟩=>?_)⟩;have h:(ag A e.message).to_.index>0:=(by grind);rw[ζb];unfold gm;rw[if_pos Zaa,ζb,bg];refine⟨by show(s.l++[(ag A e.message).to_]).length<=2;grind,λz=>?_⟩;have G:Jz t y (ag A e.message).to_:=(by rcases W.to e.message I.1 I.2 with o|⟨U,b,d,m⟩;omega;exact⟨e,U,u,b,B,d,m.symm⟩);show z∈s.l++[(ag A e.message).to_]↔_;rw[mem_append,mem_singleton,w];constructor;rintro(h|rfl);exact⟨J,h.1,.inl h.2⟩;exact⟨J,let⟨_,f,_,a2,_⟩:=G;⟨f,a2⟩,.inr G⟩;rintro⟨_,b,d|d⟩;grind;grind;rw[c z w]at h;have⟨_,f,_,a2,_⟩:=w;have⟨q,i,_,hi⟩:=eo.1 a2;grind;intro B;rw[bg,cq];refine⟨λh=>(by cases h),λ_=>(bg _).2 (no λ⟨z,U,f,a1,_,a3,_⟩=>?_)⟩;cases A8 a1 u rfl;grind
 unfold jX;rw[D,iI,a,ζb,cq];rw[D]at j;constructor
 .intro h;have h:y.index<len P.events:=by grind
  have B:k+1<P.events.l.length:=Zac
  refine j _ (by simp[Sl.l]) λz=>?_
  have T:wrap .i64 (y.index+1)=y.index+1:=eF _ Zaa Zaa
  simp only[Sl.l,mem_singleton,T];refine⟨λw=>⟨⟨P.events.l[k+1],eo.2 ⟨p,k+1,⟨P,a,ζd B⟩,?_⟩⟩,w⟩,λw=>w.2⟩
  grind
 intro h;have h:¬y.index<len P.events:=Zac
 refine j _ (by simp[Sl.l]) λz=>⟨λw=>by simp[Sl.l]at w,λ⟨w,r⟩=>?_⟩
 have⟨q,i,f,⟨Q,v,hi⟩,E,_⟩:=w.at_
 grind
structure Ly(t:Trace)(x:bf)(rest:Sl bf)(m:Mo bf Bool)(U:bf->Prop):Prop where
 rst:∀y∈rest.l,y=x\/Way t x y
 keys:(m.map (·.1)).Nodup
 seen:∀y∈m,Way t x y.1/\y.1≠x/\y.2=true
 le:rest.l.length<=m.length+1
 done:∀y,y=x\/y∈m.map (·.1)->y∈rest.l\/U y\/∀z,Edge t y z->z∈m.map (·.1)
theorem Ly.count{t:Z4}{x:bf}{rest:Sl bf}{m:Mo bf X'}{U:bf->Prop}(h:Ly t x rest m U):m.length<=(bQ t).length:=by
 have:=AS (r:=(bQ t).map (·.1)) h.keys λx u=>by obtain⟨y,w,rfl⟩:=mem_map.1 u;have⟨e,z⟩:=(h.seen y w).1.r;grind
 grind
theorem Qy{t:Z4}(E:Small t)(hN:(bQ t).length<1073741824)(hF:∀x∈bQ t,mH t.procs.l.length x.1.proc x.2){A:cz 200 bG}(hA:fR t (bQ t) A):Wp (jo t A) λr=>(r.2=true↔Nw t):=by
 unfold jo kf;rw[ζb];unfold jo.E1;rw[uM E,ζb];refine Al (λk _=>∀x∈(bQ t).take k,¬Way t x.1 x.1) Zab ?_ λ_ h=>(bg _).2 ⟨λh=>(by cases h),λ⟨x,g⟩=>?_⟩
 .intro i x _ g ar;have ah:x∈bQ t:=mem_of_getElem? g;refine Wp.mono (P:=λw=>match w with|.n s=>¬Way t x.1 x.1|.x e=>False|.r e=>Nw t) ?_ λw j=>by cases w with|n s=>intro y d;rw[take_add_one,g]at d;grind|x e=>grind|r b=>exact(bg _).2 ⟨λ_=>j,λ_=>rfl⟩
  refine gb (λq:Sl bf×Mo bf X'=>Ly t x.1 q.1 q.2 λ_=>False) (λq=>2*((bQ t).length-q.2.length)+q.1.l.length) ⟨λy d=>.inl (by simpa[Sl.l]using d),Zab,Zab,by simp[Sl.l],λy d=>.inl ?_⟩ ?_;simpa[Sl.l]using d;rintro⟨rest,m⟩ L;unfold jo.bV;rw[cq];refine⟨λh=>?_,λh=>(bg _).2 ((bg _).2 λj=>?_)⟩
  .have G:0<rest.l.length:=by grind
   have hc:=L.count;have av:=L.le;have j:wrap .i64 ((len rest)-1)=(rest.l.length-1:Nat):=by rw[eF _ Zac Zac];grind
   have I:rest.l.length-1<rest.l.length:=Zaa;rw[j];have h1:Sl.jc rest (rest.l.length-1:Nat)=some (rest.l.length-1):=by unfold Sl.jc;grind
   have h2:Sl.get rest (rest.l.length-1)=some rest.l[rest.l.length-1]:=by unfold Sl.get;grind
   obtain⟨cut,h3,h4⟩:∃x,qx rest none (some ((rest.l.length-1:Nat):Int))=some x/\x.l=rest.l.take (rest.l.length-1):=by cases rest with|nil=>simp[Sl.l]at G|emp=>simp[Sl.l]at G|row l=>simp only[Sl.l]at G⊢;unfold qx eD;simp_all|part l=>simp[Sl.l]at G⊢;unfold qx eD;simp_all
   rw[h1,ζb,h2,ζb,h3,ζb,eM];generalize ai:rest.l[rest.l.length-1]=y;have aj:y∈rest.l:=ai▸getElem_mem I;have O:∀z,z∈rest.l->z∈cut.l\/z=y:=λz c=>by have:rest.l.take (rest.l.length-1)++rest.l.drop (rest.l.length-1)=rest.l:=take_append_drop ..;rw[<-this]at c;rcases mem_append.1 c with c|c;grind;rw[drop_eq_getElem_cons I,drop_of_length_le Zaa]at c;grind
   have F:=L.rst _ aj;have ak:=F.elim (λe=>⟨x.2,e▸ah⟩) Way.r;refine(SI E hF hA ak).mono λs H=>?_;refine gb (λq:Sl bf×Int×Mo bf X'=>∃n:Nat,q.2.1=n/\n<=s.l.length/\Ly t x.1 q.1 q.2.2 (λu=>u=y)/\(∀z∈s.l.take n,z∈q.2.2.map (·.1))/\2*((bQ t).length-q.2.2.length)+q.1.l.length<2*((bQ t).length-m.length)+rest.l.length) (λq=>s.l.length-q.2.1.toNat)
    ⟨0,rfl,zero_le _,⟨λz c=>L.rst z Zac,L.keys,L.seen,Zac,λu f=>?_⟩,Zab,Zac⟩ ?_
   .rcases L.done u f with h|h|h;exact(O u h).imp_right .inl;exact h.elim;exact .inr (.inr h)
   rintro⟨C,i2,W⟩ ⟨n,rfl,hn,B,J,o⟩;simp only at B o J;unfold jo.fA;rw[cq];constructor
   .intro h;have X:n<s.l.length:=(by simpa[len]using h);have K:=(H.2 s.l[n]).1 (getElem_mem X);have Q:Way t x.1 s.l[n]:=F.elim (λe=>.single (e▸K)) λh=>.tail h K;rw[bJ X,ζb,cq];refine⟨λZ=>(bg _).2 ((bg _).2 ((bg _).2 ⟨x.1,?_⟩)),λS=>?_⟩;have:s.l[n]=x.1:=(by unfold M9 at Z;revert Z;cases s.l[n];cases x.1;intro Z;simpa using Z);rw[this]at Q;exact Q;have S:s.l[n]≠x.1:=λe=>(by rw[e]at S;simp[M9]at S);have T:=cH n Zaa;have M:s.l.take (n+1)=s.l.take n++[s.l[n]]:=(by rw[take_add_one,ζd X];rfl);rw[cq];refine⟨λp=>(bg _).2 ⟨⟨n+1,T,Zaa,B,λz c=>?_,o⟩,by show _-(wrap .i64 ((n:Int)+1)).toNat<_;rw[T];simp;omega⟩,λY=>?_⟩;rw[M]at c;rcases mem_append.1 c with c|c;exact J z c;simp[mem_singleton]at c;subst c;apply byContradiction;intro hk;unfold pe at p;rw[Gn hk]at p;cases p;have aw:=B.count;have au:=B.le;unfold gm;rw[if_pos (show C.l.length+1<=2147483648 from Zaa),ζb,bg];have D:s.l[n]∉W.map (·.1):=λal=>(by have⟨v,hv,am⟩:=H7 al;have:=(B.seen _ am).2.2;simp only at this;subst this;unfold pe at Y;rw[hv]at Y;cases Y);have U:∀z,z∈(nu W s.l[n] true).map (·.1)↔z∈W.map (·.1)\/z=s.l[n]:=λz=>(by rw[tQ D,map_append,mem_append];simp);have N:Ly t x.1 (.row (C.l++[s.l[n]])) (nu W s.l[n] true) (λu=>u=y):=(by refine⟨λy d=>?_,?_,λy d=>?_,?_,λu f=>?_⟩;simp[Sl.l,mem_singleton]at d;rcases d with d|rfl;exact B.rst y d;exact .inr Q;rw[tQ D,map_append,List.nodup_append];refine⟨B.keys,Zab,λa ha b R=>?_⟩;simp[mem_singleton]at R;subst R;exactλe=>D (e▸ha);rw[tQ D]at d;rcases mem_append.1 d with d|d;exact B.seen y d;simp[mem_singleton]at d;subst d;exact⟨Q,S,rfl⟩;rw[tQ D];show(C.l++[s.l[n]]).length<=_;rw[ζi,ζi,length_singleton,length_singleton];omega;simp only[Sl.l,mem_append,mem_singleton];have V:u=x.1\/u∈W.map (·.1)->(u∈C.l\/u=s.l[n])\/u=y\/∀z,Edge t u z->z∈(nu W s.l[n] true).map (·.1):=λf=>(by rcases B.done u f with h|h|h;exact .inl (.inl h);exact .inr (.inl h);exact .inr (.inr λz c=>(U z).2 (.inl (h z c))));rcases f with f|f;exact V (.inl f);rcases(U u).1 f with f|f;exact V (.inr f);exact .inl (.inr f));have an:=N.count;refine⟨⟨n+1,T,Zaa,N,λz c=>?_,?_⟩,by show _-(wrap .i64 ((n)+1)).toNat<_;rw[T];simp;omega⟩;rw[M]at c;rcases mem_append.1 c with c|c;exact(U z).2 (.inl (J z c));exact(U z).2 (.inr (by simpa using c));rw[tQ D,ζi,length_singleton]at an;show 2*((bQ t).length-(nu W s.l[n] true).length)+(C.l++[s.l[n]]).length<_;rw[tQ D,ζi,ζi,length_singleton,length_singleton];omega
   intro h;have ao:s.l.length<=n:=by simpa[len]using h
   rw[List.take_of_length_le ao]at J;refine(bg _).2 ((bg _).2 ⟨⟨B.rst,B.keys,B.seen,B.le,λu f=>?_⟩,o⟩);rcases B.done u f with h|h|h;exact .inl h;subst h;exact .inr (.inr λz c=>J z ((H.2 z).2 c));exact .inr (.inr h)
  have ap:rest.l=[]:=by have:¬len rest>0:=(by simpa using h);simp[len]at this;exact this
  have hd:∀y,y=x.1\/y∈m.map (·.1)->∀z,Edge t y z->z∈m.map (·.1):=λy d=>by rcases L.done y d with h|h|h;simp only[ap]at h;cases h;exact h.elim;exact h
  have key:∀z,Way t x.1 z->z∈m.map (·.1):=λz c=>by induction c with|single h=>exact hd _ (.inl rfl) _ h|tail _ h ih=>exact hd _ (.inr ih) _ h
  have⟨y,d,aq⟩:=mem_map.1 (key _ j);exact(L.seen y d).2.1 aq
 have⟨e,Z⟩:=g.l;rw[take_length]at h;exact absurd g (h _ Z)
structure Ok(t:Trace):Prop where
 one:1<=t.procs.l.length
 few:t.procs.l.length<=8
 heads:∀p,p<t.procs.l.length->sB t p=0
 gj:∀(p k:Nat)P e,t.procs.l[p]?=some P->P.events.l[k]?=some e->qh t.procs.l.length P p k e=0
 B6:Aj t
 acyc:¬Nw t
theorem IX{t:Z4}(h:∀(p k:Nat)P e,t.procs.l[p]?=some P->P.events.l[k]?=some e->qh t.procs.l.length P p k e=0):∀x∈bQ t,mH t.procs.l.length x.1.proc x.2:=λx w=>by have⟨p,k,⟨P,a,z⟩,u⟩:=eo.1 w;rw[u];exact Lt (h p k P _ a z)
structure VT(t:Trace):Prop where
 formed:∀x∈bQ t,mH t.procs.l.length x.1.proc x.2
 msgs:∃A i,fD t=some (some A,i,0)/\fR t (bQ t) A
 few:t.procs.l.length<=8
 ok:Ok t
theorem Sf{t:Z4}(b:Small t)(U:(bQ t).length<1073741824):Wp (iL t) λr=>(r.2=0->VT t)/\(Ok t->r.2=0):=by
 unfold iL;rw[qE,ζb,cq];refine⟨λC=>?_,λC=>(bg _).2 ⟨λh=>Zaa,λh=>?_⟩⟩;rotate_left;have q:=h.one;have B:=h.few;grind;have B:1<=t.procs.l.length/\t.procs.l.length<=8:=by grind
 unfold iL.W1;refine gb (λi:Int=>∃n:Nat,i=n/\n<=t.procs.l.length/\∀p,p<n->sB t p=0) (λi:Int=>t.procs.l.length-i.toNat) ⟨0,rfl,zero_le _,λp D=>absurd D Zaa⟩ ?_;rintro i ⟨n,rfl,s,T⟩;unfold iL.br;rw[cq];constructor;intro h;have u:n<t.procs.l.length:=by grind
 rw[SN b u,ζb,cq];refine⟨λa=>(bg _).2 ⟨⟨n+1,cH n Zaa,Zaa,λp D=>?_⟩,by rw[cH n Zaa];simp;omega⟩,λa=>(bg _).2 ((bg _).2 ⟨λh=>?_,λh=>?_⟩)⟩;grind;grind;simp[h.heads n u]at a;intro h;have W:t.procs.l.length<=n:=Zac;rw[bg];unfold kf;rw[ζb];unfold iL.E2;rw[uM b,ζb];refine Al (λi _=>∀(p k:Nat)P e,t.procs.l[p]?=some P->P.events.l[k]?=some e->(⟨p,k+1⟩,e)∈(bQ t).take i->qh t.procs.l.length P p k e=0) Zab ?_ ?_;intro i x _ Q w;have G:=mem_of_getElem? Q;have⟨p,j,⟨P,d,z⟩,I⟩:=eo.1 G;unfold iL.Nv;rw[I,Qq b d z,ζb,cq];refine⟨λa=>(bg _).2 λp' v y E X Y Z=>?_,λa=>(bg _).2 ((bg _).2 ⟨λh=>?_,λh=>?_⟩)⟩;rw[take_add_one,Q]at Z;grind;grind;simp[h.gj p j P _ d z]at a;intro _ w;have w:∀(p k:Nat)P e,t.procs.l[p]?=some P->P.events.l[k]?=some e->qh t.procs.l.length P p k e=0:=λp k P e d z=>w p k P e d z (by rw[take_length];exact eo.2 ⟨p,k,⟨P,d,z⟩,rfl⟩);have J:=IX w;have⟨r,l,m,L⟩:=FZ b J;rw[l,ζb,cq];refine⟨λa=>?_,λa=>(bg _).2 ⟨λh=>?_,λh=>L h.B6⟩⟩;have a:=by simpa using a
 have⟨A,o,f⟩:=m a;rw[o,ζb];have⟨c,g,O⟩:=Qy b U J f;rw[g,ζb,cq];refine⟨λS=>(bg _).2 ⟨λh=>Zaa,λh=>absurd (O.1 S) h.acyc⟩,λS=>(bg _).2 ⟨λ_=>?_,λ_=>rfl⟩⟩;exact⟨J,⟨A,r.2.1,Zac,f⟩,B.2,B.1,B.2,λp D=>T p Zaa,w,f.B6,λg=>Zac⟩;simp_all
theorem Lw{t:Z4}(a:Small t)(B:(bQ t).length<1073741824):Wp (cI t) λb=>(b=true->VT t)/\(Ok t->b=true):=by unfold cI;rw[eM];exact(Sf a B).mono λr c=>(bg _).2 ⟨λh=>c.1 Zac,λh=>Zac⟩
def gP(q:Int)(e:WF):X':=e.kind==2&&e.peer==q
def Af(p:Int)(e:WF):X':=e.kind==3&&e.peer==p
def under(t:Z4)(c:R')(p q:Nat):Int:=match t.procs.l[p]?,t.procs.l[q]?,c[p]?,c[q]?with
 |some P,some Q,some a,some b=>((P.events.l.take a.toNat).countP (gP q):Int)-((Q.events.l.take b.toNat).countP (Af p):Int)|_,_,_,_=>0
theorem IV{t:Z4}(f:Small t)(g:cI t=some true){A:cz 200 bG}(c:fR t (bQ t) A){x:bf×WF}(B:x∈bQ t)(d:x.2.kind=2):rJ t x.2.message=some (x.1,true):=by
 refine Wp.eq ?_;unfold rJ i_;rw[g,ζb,bD];unfold kf;rw[ζb];unfold i_.E1;rw[uM f,ζb,eM];refine Al (λk _=>∀y∈(bQ t).take k,¬(y.2.kind=2/\y.2.message=x.2.message)) Zab ?_ ?_;intro k y _ C u;have w:y∈bQ t:=mem_of_getElem? C;unfold i_.kN;rw[ov,ζb,cq];constructor;intro a;have a:y.2.kind=2/\y.2.message=x.2.message:=by simpa using a
 refine(bg _).2 ((bg _).2 ((bg _).2 ?_));have e:=c.snd y w a.1;have D:=c.snd x B d;rw[a.2,D]at e;rw[e];intro a;have a:¬(y.2.kind=2/\y.2.message=x.2.message):=by intro h;rw[h.1,h.2]at a;simp at a
 rw[bg];intro z b;rw[take_add_one,C]at b;rcases mem_append.1 b with b|b;exact u z b;simp at b;subst b;exact a;intro _ u;rw[take_length]at u;exact absurd ⟨d,rfl⟩ (u x B)
def sN(t:Z4)(c:R'):Prop:=c.length=t.procs.l.length/\∀(p:Nat)(a:Int)(P:bW),c[p]?=some a->t.procs.l[p]?=some P->0<=a/\a<=P.events.l.length
def pW(t:Z4)(A:cz 200 bG)(c:R'):Prop:=∀(p k:Nat)(e:WF)(a:Int),mV t p k e->c[p]?=some a->(k:Int)<a->e.kind=3->∃b,c[(ag A e.message).from_.proc.toNat]?=some b/\(ag A e.message).from_.index<=b
theorem Eh{t:Z4}(c:VT t){A:cz 200 bG}(a:fR t (bQ t) A){p k:Nat}{e:WF}(J:mV t p k e)(d:e.kind=3):
 ∃(q j:Nat)(y:WF),mV t q j y/\y.kind=2/\y.message=e.message/\y.peer=p/\e.peer=q/\(ag A e.message).from_=⟨q,j+1⟩:=by
 have u:((⟨p,k+1⟩:bf),e)∈bQ t:=eo.2 ⟨p,k,J,rfl⟩;have z:=(a.rcv _ u d).2;have C:=c.formed _ u;simp only at z C;have B:0<=e.peer:=by rcases C with h|⟨_,h,_⟩;omega;exact h
 obtain⟨q,D⟩:∃q:Nat,e.peer=q:=⟨e.peer.toNat,Zaa⟩
 rw[D]at z;have⟨j,y,w,b,G,I⟩:=AY.1 z;have:=a.snd (⟨q,j+1⟩,y) (eo.2 ⟨q,j,w,rfl⟩) b;simp only at this;rw[G]at this;exact⟨q,j,y,w,b,G,I,D,this⟩
def abw(t:Z4)(A:cz 200 bG)(c:R')(s u:bf):Prop:=∃(p k:Nat)(e:WF)(a:Int)(q j:Nat)(y:WF)(b:Int),mV t p k e/\c[p]?=some a/\(k:Int)<a/\e.kind=3/\(ag A e.message).from_=s/\s=⟨q,j+1⟩/\mV t q j y/\c[q]?=some b/\b<(j:Int)+1/\u=⟨p,k+1⟩
theorem Wa{t:Z4}(v:Small t)(P:cI t=some true)(E:VT t){A:cz 200 bG}(F:fR t (bQ t) A){c:Zg}(H:sN t c.l):Wp (iQ t c) λr=>(r.2.2=false->pW t A c.l)/\(r.2.2=true->abw t A c.l r.1 r.2.1):=by
 have ah:=E.few;unfold iQ iQ.W1;refine gb (λs:Int=>∃n:Nat,s=n/\n<=c.l.length/\∀(p k:Nat)(e:WF)(a:Int),p<n->mV t p k e->c.l[p]?=some a->(k:Int)<a->e.kind=3->∃b,c.l[(ag A e.message).from_.proc.toNat]?=some b/\(ag A e.message).from_.index<=b) (λs:Int=>c.l.length-s.toNat) ⟨0,rfl,zero_le _,λp k e a h=>absurd h Zaa⟩ ?_;rintro s ⟨n,rfl,hn,K⟩;have ai:=H.1;unfold iQ.br;rw[cq];constructor;intro h;have C:n<c.l.length:=by simpa[len]using h
 have B:n<t.procs.l.length:=Zaa;have hP:=(v.2 _ (getElem_mem B)).1;have⟨r1,r2⟩:=H.2 n _ _ (ζd C) (ζd B);rw[bJ C,ζb,bJ B,ζb];have⟨y,M,T⟩:=uf t.procs.l[n].events c.l[n].toNat Zaa;rw[show((c.l[n].toNat:Nat):Int)=c.l[n]from Zaa]at M;rw[M,ζb];unfold iQ.W2;refine gb (λs:Int=>∃m:Nat,s=m/\m<=y.l.length/\∀(k:Nat)(e:WF),k<m->mV t n k e->e.kind=3->∃b,c.l[(ag A e.message).from_.proc.toNat]?=some b/\(ag A e.message).from_.index<=b) (λs:Int=>y.l.length-s.toNat) ⟨0,rfl,zero_le _,λk e h=>absurd h Zaa⟩ ?_;rintro s ⟨m,rfl,hm,i⟩;have af:y.l.length=c.l[n].toNat:=by rw[T,length_take];omega
 unfold iQ.bV;rw[cq];constructor;intro h;have I:m<y.l.length:=by simpa[len]using h
 have D:=cH m Zaa;have U:y.l.length-(wrap .i64 ((m:Int)+1)).toNat<y.l.length-((m:Int)).toNat:=by rw[D];simp;omega
 have R:y.l[m]?=t.procs.l[n].events.l[m]?:=by rw[T,getElem?_take,if_pos (show m<c.l[n].toNat from Zaa)]
 have u:mV t n m y.l[m]:=⟨_,ζd B,by rw[<-R];exact ζd I⟩;rw[bJ I,ζb];generalize y.l[m]=e at u;rw[cq];constructor;intro d;have d:e.kind=3:=by simpa using d
 have⟨q,j,z,l,V,z2,z3,z4,z5⟩:=Eh E F u d;have J:=IV v P F (x:=(⟨q,j+1⟩,z)) (eo.2 ⟨q,j,l,rfl⟩) V;simp only at J;rw[z2]at J;have ab:=l;have⟨Q,hQ,_⟩:=l;have L:q<c.l.length:=by have:=(ζe.1 hQ).1;omega
 rw[J,ζb];simp only;rw[bJ L,ζb,cq];constructor;intro W;have W:(j:Int)+1>c.l[q]:=by simpa using W
 exact(bg _).2 ((bg _).2 ((bg _).2 ⟨λh=>(by cases h),λ_=>⟨n,m,e,c.l[n],q,j,z,c.l[q],u,ζd C,Zaa,d,z5,rfl,ab,ζd L,Zaa,by simp[D]⟩⟩));intro X;have X:¬((j:Int)+1>c.l[q]):=by simpa using X
 refine(bg _).2 ⟨⟨m+1,D,Zaa,λk Y ad w G=>?_⟩,U⟩;by_cases o:k=m;subst o;have:Y=e:=by have⟨P1,a1,a2⟩:=u;have⟨P2,Z,f⟩:=w;rw[a1]at Z;cases Z;rw[a2]at f;cases f;rfl
 subst this;rw[z5];exact⟨c.l[q],by simp only[toNat_natCast];exact ζd L,by simp only;omega⟩;exact i k Y Zaa w G;intro d;have d:¬e.kind=3:=by simpa using d
 refine(bg _).2 ⟨⟨m+1,D,Zaa,λk Y ad w G=>?_⟩,U⟩;by_cases o:k=m;subst o;have:Y=e:=by have⟨P1,a1,a2⟩:=u;have⟨P2,Z,f⟩:=w;rw[a1]at Z;cases Z;rw[a2]at f;cases f;rfl
 subst this;exact absurd G d;exact i k Y Zaa w G;intro h;have ae:y.l.length<=m:=by simpa[len]using h
 have N:=cH n Zaa;refine(bg _).2 ((bg _).2 ⟨⟨n+1,N,Zaa,λp k e a hp u S O g=>?_⟩,by show _-(wrap .i64 ((n:Int)+1)).toNat<_;rw[N];simp;omega⟩);by_cases ep:p=n;subst ep;rw[ζd C]at S;cases S;exact i k e Zaa u g;exact K p k e a Zaa u S O g;intro h;have ae:c.l.length<=n:=by simpa[len]using h
 refine(bg _).2 ((bg _).2 ⟨λ_ p k e a u S O g=>K p k e a (by have:=(ζe.1 S).1;omega) u S O g,λh=>(by cases h)⟩)
theorem EV{t:Z4}(f:Small t)(g:cI t=some true)(i:VT t){A:cz 200 bG}(l:fR t (bQ t) A){c:Zg}(B:sN t c.l):Wp (iQ t c) λr=>(r.2.2=false↔pW t A c.l):=by refine(Wa f g i l B).mono λr d=>⟨d.1,λm=>?_⟩;cases h:r.2.2 with|false=>rfl|true=>obtain⟨p,k,e,a,q,j,y,b,n,u,w,z,C,D,_,G,I,-⟩:=d.2 h;have⟨J,g1,g2⟩:=m p k e a n u w z;rw[C,D]at g1 g2;simp only[toNat_natCast]at g1 g2;rw[G]at g1;cases g1;omega
theorem yJ{s:Zb}{p:Zg->a_ X'}{f:Zg->X'}(hp:∀x∈s.l,p x=some (f x))(B:s.l.length<1073741824):jq s p=some (s.l.any f):=by have h:ij s p=some (place f s.l):=wK hp Zaa (λi=>rfl);unfold jq;rw[h,ζb,wv]
theorem ER{t:Z4}(f:Small t){c:Zg}(D:c.l.length=t.procs.l.length):Wp (kS t c) λb=>(b=true↔sN t c.l):=by
 have g:=f.1;unfold kS kS.W1;refine gb (λs:Int=>∃n:Nat,s=n/\n<=c.l.length/\∀(p:Nat)(a:Int)(P:bW),p<n->c.l[p]?=some a->t.procs.l[p]?=some P->0<=a/\a<=P.events.l.length) (λs:Int=>c.l.length-s.toNat) ⟨0,rfl,zero_le _,λp a P h=>absurd h Zaa⟩ ?_;rintro s ⟨n,rfl,L,C⟩;unfold kS.br;rw[cq];constructor;intro h;have w:n<c.l.length:=by simpa[len]using h
 have u:n<t.procs.l.length:=Zaa;have G:=cH n Zaa;rw[bJ w,ζb,bJ u,ζb,mW,ζb,cq];constructor;intro z;have z:c.l[n]<0\/c.l[n]>t.procs.l[n].events.l.length:=by simpa[len]using z
 refine(bg _).2 ((bg _).2 ⟨λh=>(by cases h),λI=>?_⟩);have:=I.2 n _ _ (ζd w) (ζd u);omega;intro z;have z:0<=c.l[n]/\c.l[n]<=t.procs.l[n].events.l.length:=by simpa[len]using z
 refine(bg _).2 ⟨⟨n+1,G,Zaa,λp a P O B d=>?_⟩,by rw[G];simp;omega⟩;by_cases e:p=n;subst e;rw[ζd w]at B;cases B;rw[ζd u]at d;cases d;exact z;exact C p a P Zaa B d;intro h;have J:c.l.length<=n:=by simpa[len]using h
 refine(bg _).2 ((bg _).2 ⟨λ_=>⟨D,λp a P B d=>C p a P (by have:=(ζe.1 B).1;omega) B d⟩,λ_=>rfl⟩)
def Code(t:Z4)(A:cz 200 bG)(c:R')(r:Int):Prop:=c.length≠t.procs.l.length/\r=1\/c.length=t.procs.l.length/\¬sN t c/\r=2\/sN t c/\¬pW t A c/\r=18\/sN t c/\pW t A c/\r=0
theorem YW{t:Z4}(a:Small t)(d:cI t=some true)(i:VT t){A:cz 200 bG}(j:fR t (bQ t) A)(c:Zg):
 Wp (dM t (Sl.row [c]:Zb) (Sl.nil:Zg)) λr=>Code t A c.l r:=by
 unfold dM zm;rw[d,ζb,bD,yJ (f:=λz=>(lB z t).getD false) (λz _=>NG.ok ((bg _).2 trivial)) (by simp[Sl.l]),ζb,ζb,ζb]
 have w:(!((Sl.row [c]:Zb).l.any λz=>(lB z t).getD false))=(len c==len t.procs):=by simp[Sl.l,lB]
 rw[w,cq];constructor
 .intro h;have B:c.l.length=t.procs.l.length:=by
   have:(c.l.length:Int)=t.procs.l.length:=by simpa[len]using h
   omega
  unfold dM.W1;refine gb (λs:Int=>s=0\/s=1/\sN t c.l) (λs:Int=>1-s.toNat) (.inl rfl) ?_
  intro s D;unfold dM.br;rcases D with rfl|⟨rfl,G⟩
  .rw[show decide ((0:Int)<len (Sl.row [c]:Zb))=true from rfl,bD,show idx (Sl.row [c]:Zb) 0=some c from rfl,ζb,eM];refine(ER a B).mono λb u=>?_
   rw[cq];exact⟨λI=>(bg _).2 ⟨.inr ⟨rfl,u.1 I⟩,by decide⟩,λC=>(bg _).2 ((bg _).2 (.inr (.inl ⟨B,λh=>(by rw[u.2 h]at C;cases C),rfl⟩)))⟩
  rw[show decide ((1:Int)<len (Sl.row [c]:Zb))=false from rfl,bu,bg];show Wp (dM.W2 (Sl.row [c]) Sl.nil 0 0 t) _;unfold dM.W2;refine gb (λs:Int=>s=0) (λ_=>0) rfl ?_
  rintro s rfl;unfold dM.bV;rw[show decide ((0:Int)<0)=false from rfl,bu,bg];show Wp (dM.W3 (Sl.row [c]) 1 0 t) _;unfold dM.W3;refine gb (λs:Int=>s=0\/s=1/\pW t A c.l) (λs:Int=>1-s.toNat) (.inl rfl) ?_
  intro s D;unfold dM.fA;rcases D with rfl|⟨rfl,k⟩
  .rw[show decide ((0:Int)<1)=true from rfl,bD,show idx (Sl.row [c]:Zb) 0=some c from rfl,ζb];unfold xB;rw[eM,eM];refine(EV a d i j G).mono λr g=>?_
   rw[bg,cq];exact⟨λu=>(bg _).2 ⟨.inr ⟨rfl,g.1 (by simpa using u)⟩,by decide⟩,λu=>(bg _).2 ((bg _).2 (.inr (.inr (.inl ⟨G,λh=>(by have:=g.2 h;simp[this]at u),rfl⟩))))⟩
  rw[show decide ((1:Int)<1)=false from rfl,bu,bg];exact(bg _).2 (.inr (.inr (.inr ⟨G,k,rfl⟩)))
 intro h;exact(bg _).2 (.inl ⟨λe=>(by simp[len,e]at h),rfl⟩)
theorem Code.zero{t:Z4}{A:cz 200 bG}{c:R'}{r:Int}(h:Code t A c r):r=0↔sN t c/\pW t A c:=by rcases h with⟨h,rfl⟩|⟨_,h,rfl⟩|⟨_,h,rfl⟩|⟨a,w,rfl⟩;exact⟨λh=>(by cases h),λu=>absurd u.1.1 h⟩;exact⟨λh=>(by cases h),λu=>absurd u.1 h⟩;exact⟨λh=>(by cases h),λu=>absurd u.2 h⟩;exact⟨λ_=>⟨a,w⟩,λ_=>rfl⟩
def Cons(t:Z4)(A:cz 200 bG)(c:R'):Prop:=sN t c/\pW t A c
def places{α:Type}(f:α->X')(l:aZ α):ST:=(range l.length).filter λk=>match l[k]?with|some x=>f x|none=>false
theorem On{α:Type}{f:α->X'}{l:aZ α}{k:Nat}:k∈places f l↔∃x,l[k]?=some x/\f x=true:=by unfold places;rw[List.mem_filter,mem_range];constructor;rintro⟨a,u⟩;rw[ζd a]at u;exact⟨_,ζd a,u⟩;rintro⟨x,a,u⟩;exact⟨(ζe.1 a).1,by rw[a];exact u⟩
theorem JN{α:Type}(f:α->X')(l:aZ α):(places f l).Nodup:=List.nodup_range.sublist (List.filter_sublist ..)
theorem Gp{α:Type}(f:α->X'):∀l:aZ α,(places f l).length=l.countP f:=by intro l;unfold places;rw[<-List.countP_eq_length_filter];induction l with|nil=>rfl|cons x l u=>rw[length_cons,List.range_succ_eq_map,countP_cons,List.countP_map,countP_cons];simp only[List.getElem?_cons_zero];rw[<-u];congr 1
theorem HA{α β:Type}{f:α->X'}{g:β->X'}{l:aZ α}{m:aZ β}(φ:Nat->Nat)(h:∀k∈places f l,φ k∈places g m)(hi:∀k B,k∈places f l->B∈places f l->φ k=φ B->k=B):l.countP f<=m.countP g:=by
 rw[<-Gp,<-Gp];have w:((places f l).map φ).Nodup:=by unfold Nodup;rw[pairwise_map];exact Pairwise.imp_of_mem (λ{a b}z C u D=>u (hi a b z C D)) (JN f l)
 have:=AS (r:=places g m) w λx G=>by obtain⟨k,c,rfl⟩:=mem_map.1 G;exact h k c
 simpa using this
end Go.VE
namespace Go.VE
def mE(kind m:Int)(x:bf×WF):X':=x.2.kind==kind&&x.2.message==m
def iy(t:Z4)(kind m:Int):bf:=match(bQ t).find? (mE kind m)with
 |some x=>x.1|none=>⟨0,0⟩
theorem N6{t:Z4}{kind m:Int}{p:Nat}{P:bW}(B:p<9223372036854775806)(a:t.procs.l[p]?=some P)(D:P.events.l.length<1073741824):∀(q i:Nat),i+q=P.events.l.length->
 bY (λq:Int=>eB.bV kind m p t ⟨0,0⟩ q) (i:Int)=some (match(jD p i (P.events.l.drop i)).find? (mE kind m)with|some x=>.r x.1|none=>.x ()):=by
 have u:idx t.procs (p:Int)=some P:=by rw[iI];exact a
 intro q
 induction q with
 |zero=>
  intro i hi;rw[fG];unfold eB.bV;rw[u,ζb,show decide ((i:Int)<len P.events)=false from by simp[len];omega,bu,drop_of_length_le Zaa]
  rfl
 |succ q z=>
  intro i hi;have w:i<P.events.l.length:=Zaa
  rw[fG];have C:eB.bV kind m p t ⟨0,0⟩ i=some (if mE kind m (⟨p,(i:Int)+1⟩,P.events.l[i])then .r ⟨p,(i:Int)+1⟩else .n ((i+1:Nat):Int)):=by unfold eB.bV;rw[u,ζb,show decide ((i:Int)<len P.events)=true from by simp[len];omega,bD,ζb,bJ w,ζb,ov,ζb,cH i Zaa,vw];rfl
  rw[C,ζb,drop_eq_getElem_cons w];simp only[jD,List.find?_cons]
  cases G:mE kind m (⟨p,(i:Int)+1⟩,P.events.l[i])with
  |true=>rfl|false=>simp only[false_eq_true,if_false];exact z (i+1) Zaa
theorem OJ{t:Z4}(a:Small t){kind m:Int}:∀(q p:Nat),p+q=t.procs.l.length->
 bY (λq:Int=>eB.br kind m t ⟨0,0⟩ q) (p:Int)=some (match(gG p (t.procs.l.drop p)).find? (mE kind m)with|some x=>.r x.1|none=>.x ()):=by
 have b:=a.1;intro q
 induction q with
 |zero=>
  intro p w;rw[fG];unfold eB.br;rw[show decide ((p:Int)<len t.procs)=false from by simp[len];omega,bu,drop_of_length_le Zaa]
  rfl
 |succ q z=>
  intro p w;have u:p<t.procs.l.length:=Zaa
  have B:bY (λq:Int=>eB.bV kind m p t ⟨0,0⟩ q) 0=some (match(jD p 0 t.procs.l[p].events.l).find? (mE kind m)with|some x=>.r x.1|none=>.x ()):=N6 (t:=t) (kind:=kind) (m:=m) Zaa (ζd u) (a.2 _ (getElem_mem u)).1 (t.procs.l[p].events.l.length) 0 Zaa
  rw[fG];unfold eB.br;rw[show decide ((p:Int)<len t.procs)=true from by simp[len];omega,bD]
  unfold eB.W2;rw[B,drop_eq_getElem_cons u];simp only[gG,find?_append]
  cases C:(jD p 0 t.procs.l[p].events.l).find? (mE kind m)with
  |some x=>rfl|none=>
   simp only[ζb,Fw.elim,Option.none_or];rw[cH p Zaa]
   exact z (p+1) Zaa
theorem find_eq{t:Z4}(a:Small t)(kind m:Int):eB t kind m=some (iy t kind m):=by unfold eB eB.W1;have u:bY (λq:Int=>eB.br kind m t ⟨0,0⟩ q) 0=some (match(bQ t).find? (mE kind m)with|some x=>.r x.1|none=>.x ()):=OJ a (kind:=kind) (m:=m) t.procs.l.length 0 Zaa;rw[u];unfold iy;cases(bQ t).find? (mE kind m)<;>rfl
theorem xI{t:Z4}{kind m:Int}{x:bf×WF}(h:(bQ t).find? (mE kind m)=some x):x∈bQ t/\x.2.kind=kind/\x.2.message=m/\iy t kind m=x.1:=by have a:=List.find?_some h;simp only[mE,ζh,beq_iff_eq]at a;exact⟨List.mem_of_find?_eq_some h,a.1,a.2,by unfold iy;rw[h]⟩
theorem Kq{t:Z4}{kind m:Int}{x:bf×WF}(B:x∈bQ t)(a:x.2.kind=kind)(D:x.2.message=m):∃y,(bQ t).find? (mE kind m)=some y:=by cases u:(bQ t).find? (mE kind m)with|some y=>exact⟨y,rfl⟩|none=>rw[find?_eq_none]at u;exact absurd (u x B) (by simp[mE,a,D])
theorem PK{t:Z4}{kind m:Int}(h:∀x∈bQ t,¬(x.2.kind=kind/\x.2.message=m)):iy t kind m=⟨0,0⟩:=by
 unfold iy;have:(bQ t).find? (mE kind m)=none:=by rw[find?_eq_none];intro x u;simp only[mE,ζh,beq_iff_eq];exact h x u
 rw[this]
theorem Ve{t:Z4}{p k:Nat}{e:WF}(h:mV t p k e)(b:k<9223372036854775807):wo t ⟨p,k+1⟩=some e:=by have⟨P,a,u⟩:=h;unfold wo;dsimp only;rw[show idx t.procs (p:Int)=some P from by rw[iI];exact a,ζb,show wrap .i64 ((k:Int)+1-1)=(k:Int)from by rw[eF _ Zaa Zaa];omega,show idx P.events (k:Int)=some e from by rw[iI];exact u];rfl
def xH(t:Z4)(x:bf×WF):Int:=if x.2.kind=1 then 0 else if iy t x.2.kind x.2.message=x.1 then(if x.2.kind=3 then(if uJ t x.2.peer x.2.message x.1.proc then 0 else 7)else 0)else 8
theorem P0{t:Z4}(b:Small t){p k:Nat}{e:WF}(h:mV t p k e)(U:mH t.procs.l.length p e):jw t ⟨p,k+1⟩=some (xH t (⟨p,k+1⟩,e)):=by
 have d:k<1073741824:=by have⟨P,c,W⟩:=h;have:=(b.2 P (mem_of_getElem? c)).1;have:=(ζe.1 W).1;omega
 unfold jw xH;rw[Ve h Zaa,ζb];dsimp only;by_cases a:e.kind=1;rw[show(e.kind==1)=true from by simp[a],bD,if_pos a];rw[show(e.kind==1)=false from by simp[a],bu,if_neg a,find_eq b,ζb];have D:M9 (iy t e.kind e.message) ⟨p,(k:Int)+1⟩=decide (iy t e.kind e.message=⟨p,(k:Int)+1⟩):=by unfold M9;rw[Bool.eq_iff_iff];cases iy t e.kind e.message;simp
 rw[D];by_cases w:iy t e.kind e.message=⟨p,(k:Int)+1⟩;rw[if_pos w,show decide (iy t e.kind e.message=⟨p,(k:Int)+1⟩)=true from by simpa using w,bD];by_cases B:e.kind=3;rw[if_pos B,show(e.kind==3)=true from by simp[B],bD];have G:0<=e.peer/\e.peer<t.procs.l.length:=by rcases U with h|⟨_,a,w,_⟩;exact absurd h a;exact⟨a,w⟩
 have O:e.peer.toNat<t.procs.l.length:=Zaa;have S:=ζd O;have X:=(b.2 _ (getElem_mem O)).1;generalize Y:t.procs.l[e.peer.toNat]=Q at *;have I:idx t.procs e.peer=some Q:=by rw[SS G.1];exact S
 have J:uJ t e.peer e.message p=Q.events.l.any λs=>s.kind==2&&s.message==e.message&&s.peer==p:=by unfold uJ;rw[S]
 unfold jw.W1;refine Wp.eq (gb (λz:X'×Int=>∃m:Nat,z.2=m/\m<=Q.events.l.length/\z.1=(Q.events.l.take m).any λs=>s.kind==2&&s.message==e.message&&s.peer==p) (λz=>Q.events.l.length-z.2.toNat) ⟨0,rfl,zero_le _,rfl⟩ ?_);rintro⟨s,i⟩ ⟨m,hi,Z,C⟩;simp only at hi C;subst hi;unfold jw.br;dsimp only;rw[I,ζb,cq];constructor;intro L;have u:m<Q.events.l.length:=by simpa[len]using L
 have T:=cH m Zaa;rw[ζb,bJ u,ζb,ov,ζb,ov,ζb,mW,ζb,bg];refine⟨⟨m+1,T,Zaa,?_⟩,by show _-(wrap .i64 ((m:Int)+1)).toNat<_;rw[T];simp;omega⟩;show(s||_)=_;rw[take_add_one,ζd u,List.any_append,C];simp;intro L;have u:Q.events.l.length<=m:=by simpa[len]using L
 rw[List.take_of_length_le u]at C;refine(bg _).2 ?_;rw[J,<-C];cases s;exact(bg _).2 rfl;exact(bg _).2 rfl;rw[if_neg B,show(e.kind==3)=false from by simp[B],bu];rw[if_neg w,show decide (iy t e.kind e.message=⟨p,(k:Int)+1⟩)=false from by simpa using w,bu]
theorem Pp{t:Z4}(J:∀x∈bQ t,mH t.procs.l.length x.1.proc x.2):(∀x∈bQ t,xH t x=0)↔Aj t:=by
 constructor;intro h;have key:∀x∈bQ t,x.2.kind≠1->iy t x.2.kind x.2.message=x.1:=λx u a=>by have:=h x u;unfold xH at this;rw[if_neg a]at this;split at this;assumption;cases this
 refine⟨λx u y w z B C=>?_,λx u y w z B C=>?_,λx u z=>?_⟩;rw[<-key x u Zaa,<-key y w Zaa,z,B,C];rw[<-key x u Zaa,<-key y w Zaa,z,B,C];have:=h x u;unfold xH at this;rw[if_neg Zaa,if_pos (key x u Zaa),if_pos z]at this;split at this;assumption;cases this;intro h x u;unfold xH;by_cases k1:x.2.kind=1;rw[if_pos k1];rw[if_neg k1];have⟨y,w⟩:=Kq u rfl rfl;have⟨D,G,y3,y4⟩:=xI w;have a:x.2.kind=2\/x.2.kind=3:=by rcases J x u with h|⟨h,_⟩;exact absurd h k1;exact h
 have I:iy t x.2.kind x.2.message=x.1:=by rw[y4];rcases a with a|a;exact h.snd y D x u (by rw[G,a]) a y3;exact h.rcv y D x u (by rw[G,a]) a y3
 rw[if_pos I];by_cases k3:x.2.kind=3;rw[if_pos k3,if_pos (h.has x u k3)];rw[if_neg k3]
theorem zT{t:Z4}(D:∀x∈bQ t,mH t.procs.l.length x.1.proc x.2)(a:Aj t){z:bf}{f:WF}(B:(z,f)∈bQ t)(b:f.kind=3):∃e,(iy t 2 f.message,e)∈bQ t/\e.kind=2/\e.message=f.message:=by
 have h:=a.has _ B b;have G:0<=f.peer:=by rcases D _ B with h|⟨_,h,_⟩;grind;simp_all
 rw[show f.peer=(f.peer.toNat:Nat)from Zaa,AY]at h;have⟨k,e,u,c,w,_⟩:=h;have⟨y,C⟩:=Kq (eo.2 ⟨_,k,u,rfl⟩:(⟨(f.peer.toNat:Nat),k+1⟩,e)∈bQ t) c w;have⟨I,J,y3,y4⟩:=xI C;grind
theorem Jz.find{t:Z4}(D:∀x∈bQ t,mH t.procs.l.length x.1.proc x.2)(a:Aj t){y z:bf}{f:WF}(h:Jz t y z)(B:(z,f)∈bQ t):f.kind=3/\iy t 2 f.message=y:=by have⟨e,G,b,w,C,u,I⟩:=h;cases A8 w B rfl;have⟨J,a1,a2,a3⟩:=zT D a B u;exact⟨u,a.snd _ a1 _ b a2 C Zad⟩
theorem DK{t:Z4}(c:Small t)(G:∀x∈bQ t,mH t.procs.l.length x.1.proc x.2)(a:Aj t){z:bf}(D:Vd t z):
 Wp (ez t z) λs=>s.l.length<=2/\∀y,y∈s.l↔Edge t y z:=by
 obtain⟨p,k,f,w,rfl,u⟩:=D.at_;have g:k<1073741824:=by have⟨P,a,I⟩:=w;have:=(c.2 P (mem_of_getElem? a)).1;grind
 have j:∀s:Sl bf,s.l.length<=1->(∀y,y∈s.l↔Vd t y/\(⟨p,k+1⟩:bf)=⟨y.proc,y.index+1⟩)->Wp (ez.J1 s t ⟨p,k+1⟩) λs=>s.l.length<=2/\∀y,y∈s.l↔Edge t y ⟨p,k+1⟩:=by intro s O B;unfold ez.J1;rw[Ve w Zaa,ζb,cq];constructor;intro C;have C:f.kind=3:=(by grind);rw[find_eq c,ζb];unfold gm;rw[if_pos Zaa,ζb,bg];refine⟨by show(s.l++[_]).length<=2;grind,λy=>?_⟩;show y∈s.l++[iy t 2 f.message]↔_;rw[mem_append,mem_singleton,B];have⟨e,a1,a2,a3⟩:=zT G a u C;constructor;rintro(h|rfl);exact⟨h.1,D,.inl h.2⟩;exact⟨⟨e,a1⟩,D,.inr ⟨e,f,a1,u,a2,C,a3⟩⟩;rintro⟨d,_,b|b⟩;grind;exact .inr (b.find G a u).2.symm;intro C;refine(bg _).2 ⟨Zaa,λy=>(B y).trans ⟨λh=>⟨h.1,D,.inl h.2⟩,λ⟨d,_,b⟩=>⟨d,b.elim id λb=>?_⟩⟩⟩;have:=(b.find G a u).1;grind
 unfold ez;rw[cq];constructor
 .intro h;have h:k+1>1:=by grind
  refine j _ (by simp[Sl.l]) λy=>?_
  have L:wrap .i64 (k+1-1)=k:=by rw[eF _ Zaa Zaa];omega
  simp only[Sl.l,mem_singleton,L,bf.mk.injEq];constructor
  .rintro rfl;have⟨P,a,I⟩:=w;have:=(ζe.1 I).1;exact⟨⟨P.events.l[k-1],eo.2 ⟨p,k-1,⟨P,a,ζd Zaa⟩,by simp;omega⟩⟩,rfl,rfl⟩
  simp_all
 intro h;refine j _ (by simp[Sl.l]) λy=>⟨λJ=>by simp[Sl.l]at J,λ⟨J,I⟩=>?_⟩
 obtain⟨q,i,f,_,rfl,_⟩:=J.at_
 grind
theorem Zi{α:Type}{r:α->α->Prop}{x:α}(h:Acc r x):¬TransGen r x x:=by induction h with|intro x _ u=>intro h;cases h with|single h=>exact u x h (.single h)|tail h1 w=>exact u _ w (TransGen.trans (.single w) h1)
theorem NI:∀{d:ST}{i k:Nat},d[i]?=some k->(d.set i (k+1)).sum=d.sum+1
 |[],_,_,h=>Zad|x::d,0,k,h=>Zac|x::d,i+1,k,h=>by have:=NI (d:=d) (i:=i) (k:=k) Zac;grind
theorem RI:∀{d l:ST},d.length=l.length->(∀(i a b:Nat),d[i]?=some a->l[i]?=some b->a<=b)->d.sum<=l.sum
 |[],_,_,_=>Zab|x::d,[],h,_=>Zad|x::d,y::l,h,B=>by have c:=B 0 x y rfl rfl;have u:=RI (d:=d) (l:=l) Zac λi a b w z=>B (i+1) a b Zac Zac;simp;omega
def nI(d:ST):R':=d.map Int.ofNat
def sI(s:Zg):Nat:=(s.l.map toNat).sum
theorem Jg(d:ST):sI (.row (nI d))=d.sum:=by unfold sI nI;rw[show(Sl.row (d.map Int.ofNat)).l=d.map Int.ofNat from rfl,List.map_map,show(toNat ∘ Int.ofNat)=id from rfl,List.map_id]
theorem P8(d:ST):(nI d).length=d.length:=by simp[nI]
structure Kh(t:Trace)(d:List Nat):Prop where
 len:d.length=t.procs.l.length
 le:∀(p k:Nat)P,d[p]?=some k->t.procs.l[p]?=some P->k<=P.events.l.length
 acc:∀(p k j:Nat),d[p]?=some k->j<k->Acc (Edge t) ⟨p,j+1⟩
def tM(t:Z4):Nat:=(t.procs.l.map λP=>P.events.l.length).sum
theorem Kh.sum{t:Z4}{d:ST}(h:Kh t d):d.sum<=tM t:=RI (by simp[h.len]) λi a b w u=>by cases c:t.procs.l[i]?with|none=>grind|some P=>simp[c]at u;rw[<-u];exact h.le i a P w c
theorem ES{d:ST}{p:Nat}(h:p<d.length):Sl.jc (.row (nI d)) (p:Int)=some p:=by unfold Sl.jc;rw[if_pos ⟨Zaa,by simpa[Sl.l,P8]using h⟩];rfl
theorem BJ{d:ST}{p k:Nat}(h:d[p]?=some k):Sl.get (.row (nI d)) p=some (k:Int):=by unfold Sl.get nI;rw[show(Sl.row (d.map Int.ofNat)).l=d.map Int.ofNat from rfl,getElem?_map,h];rfl
def Mv(t:Z4)(B:ST)(s:Zg)(b:X')(d:ST):Prop:=s=.row (nI d)/\Kh t d/\B.sum<=d.sum/\(b=true->B.sum<d.sum)
def KQ(t:Z4)(B:ST)(p:Nat)(w:Fw (Zg×X'×Int) (Zg×X') Empty):Prop:=∃u z C,w=.n (u,z,((p+1:Nat):Int))/\Mv t B u z C
theorem V6{t:Z4}(c:Small t)(m:∀x∈bQ t,mH t.procs.l.length x.1.proc x.2)(n:Aj t){D o:ST}{s:Zg}{b:X'}{p:Nat}(hp:p<t.procs.l.length)(v:Mv t D s b o):
 Wp (fh.W3 s b p t) (KQ t D p):=by
 have Y:=bJ hp;have hn:=c.1;have af:=(c.2 _ (getElem_mem hp)).1;have C:=ζd hp;generalize t.procs.l[p]=P at *;refine gb (λq:Zg×X'=>∃d,Mv t D q.1 q.2 d) (λq=>tM t-sI q.1) ⟨o,v⟩ ?_
 rintro⟨s,b⟩ ⟨d,rfl,u,hd,A⟩;have w:p<d.length:=by rw[u.len];omega
 have a:=ζd w;generalize d[p]=k at a;have ah:=u.le p k P a C;have stop:∀{W:Empty->Prop},Wp (some (Fw.x (Sl.row (nI d),b))) (VB (λq:Zg×X'=>∃d,Mv t D q.1 q.2 d) (λq=>tM t-sI q.1) (λe=>Wp (some (Fw.n (e.1,e.2,wrap .i64 (p+1)))) (KQ t D p)) W (Sl.row (nI d),b)):=by refine(bg _).2 ((bg _).2 ⟨_,_,d,?_,rfl,u,hd,A⟩);rw[cH p Zaa]
 unfold fh.fA;rw[ES w,ζb,BJ a,ζb,Y,ζb,cq];refine⟨λh=>?_,λ_=>stop⟩
 have G:k<P.events.l.length:=Zac
 have Z:mV t p k P.events.l[k]:=⟨P,C,ζd G⟩;have z:(⟨p,k+1⟩,P.events.l[k])∈bQ t:=eo.2 ⟨p,k,Z,rfl⟩;have go:(P.events.l[k].kind=3->∀q j:Nat,iy t 2 P.events.l[k].message=⟨q,j+1⟩->∃X,d[q]?=some X/\j<X)->∀{r:Zg×X'->Prop}{W:Empty->Prop},Wp (fh.J4 (.row (nI d)) p t) (VB (λq:Zg×X'=>∃d,Mv t D q.1 q.2 d) (λq=>tM t-sI q.1) r W (Sl.row (nI d),b)):=by intro E r W;unfold fh.J4;rw[ES w,ζb,BJ a,ζb,ζb];unfold Sl.put;rw[if_pos (by simpa[Sl.l,P8]using w),ζb,bg];have I:(nI d).set p (wrap .i64 ((k:Int)+1))=nI (d.set p (k+1)):=(by rw[cH k Zaa];unfold nI;simp_all);have J:=NI a;have L:Kh t (d.set p (k+1)):=(by refine⟨by simp[u.len],λq i Q hi g=>?_,λq i j hi F=>?_⟩;rw[getElem?_set]at hi;split at hi;grind;exact u.le q i Q hi g;rw[getElem?_set]at hi;split at hi;rename_i e;subst e;cases hi;by_cases H:j<k;exact u.acc p k j a H;have:j=k:=Zaa;subst this;refine Acc.intro _ λy K=>?_;obtain⟨O,_,l|l⟩:=K;obtain⟨q,i,f,_,rfl,_⟩:=O.at_;simp[bf.mk.injEq]at l;have e1:q=p:=(by omega);subst e1;exact u.acc q j i a Zaa;have⟨B,M⟩:=l.find m n z;obtain⟨q,i,f,_,rfl,_⟩:=O.at_;have⟨X,N,R⟩:=E B q i M;exact u.acc q X i N R;exact u.acc q i j hi F);have ai:=L.sum;refine⟨⟨_,Zac,L,Zac,λ_=>Zac⟩,?_⟩;show tM t-sI (.row ((nI d).set p (wrap .i64 ((k:Int)+1))))<tM t-sI (.row (nI d));rw[I,Jg,Jg,J];grind
 dsimp only;rw[ζb,ζb,BJ a,ζb,bJ G,ζb,cq];refine⟨λB=>?_,λB=>go λh=>by simp[h]at B⟩
 have B:P.events.l[k].kind=3:=by simpa using B
 have⟨e,a1,a2,a3⟩:=zT m n z B;have⟨q,j,S,T⟩:=eo.1 a1;simp only at T;have U:q<d.length:=by have⟨Q,g,_⟩:=S;rw[u.len];exact(ζe.1 g).1
 have V:=ζd U;rw[find_eq c,ζb,T,ES U,ζb,BJ V,ζb,cq];refine⟨λ_=>stop,λh=>go λ_ q' j' hh=>?_⟩
 grind
theorem OI{t:Z4}(c:Small t)(U:∀x∈bQ t,mH t.procs.l.length x.1.proc x.2)(a:Aj t):Wp (fh t) λb=>b=true->¬Nw t:=by
 have m:=c.1;unfold fh o_;rw[if_pos Zac,ζb];have l:(Sl.row (replicate (len t.procs).toNat 0))=.row (nI (replicate t.procs.l.length 0)):=by simp[nI]
 rw[l];refine gb (λs:Zg=>∃d,s=.row (nI d)/\Kh t d) (λs=>tM t-sI s) ⟨_,rfl,Zab,λp k P h _=>Zac,λp k j h o=>Zac⟩ ?_;rintro s ⟨C,rfl,L⟩;refine gb (λq:Zg×X'×Int=>∃(n:Nat)(d:ST),q.2.2=n/\n<=t.procs.l.length/\Mv t C q.1 q.2.1 d) (λq=>t.procs.l.length-q.2.2.toNat) ⟨0,C,rfl,zero_le _,rfl,L,le_refl _,Zab⟩ ?_;rintro⟨s,b,i⟩ ⟨n,d,hi,O,f⟩;subst hi;unfold fh.bV;rw[cq];constructor;intro h;have u:n<t.procs.l.length:=by grind
 refine(V6 c U a u f).mono ?_;rintro w ⟨r,v,Q,rfl,D⟩;exact⟨⟨n+1,Q,rfl,Zaa,D⟩,by simp;omega⟩;intro _;obtain⟨rfl,z,S,G⟩:=f;rw[bg];show Wp (bl b _ _) _;rw[cq];refine⟨λT=>(bg _).2 ⟨⟨d,rfl,z⟩,?_⟩,λ_=>(bg _).2 ?_⟩;show tM t-sI (.row (nI d))<tM t-sI (.row (nI C));rw[Jg,Jg];have:=G T;have:=z.sum;omega;refine gb (λi:Int=>∃n:Nat,i=n/\n<=t.procs.l.length/\∀p,p<n->∀P,t.procs.l[p]?=some P->d[p]?=some P.events.l.length) (λi:Int=>t.procs.l.length-i.toNat) ⟨0,rfl,zero_le _,λp I=>absurd I Zaa⟩ ?_;rintro i ⟨n,rfl,W,X⟩;unfold fh.z7;rw[cq];constructor;intro h;have u:n<t.procs.l.length:=by grind
 have B:n<d.length:=by rw[z.len];omega
 have g:=ζd B;rw[ES B,ζb,BJ g,ζb,bJ u,ζb,cq];refine⟨λ_=>(bg _).2 ((bg _).2 λh=>by cases h),λh=>(bg _).2 ⟨⟨n+1,cH n Zaa,Zaa,λp I P a=>?_⟩,by rw[cH n Zaa];simp;omega⟩⟩;by_cases e:p=n;subst e;rw[ζd u]at a;have:=z.le p _ _ g (ζd u);grind;grind;intro h;have Y:t.procs.l.length<=n:=Zac;refine(bg _).2 ((bg _).2 λ_⟨x,J⟩=>?_);obtain⟨p,k,e,⟨P,a,Z⟩,rfl,_⟩:=J.l.at_;have y:=(ζe.1 a).1;exact Zi (z.acc p _ k (X p Zaa P a) (ζe.1 Z).1) J
def sP(out:aZ (aZ X'))(y:bf):X':=match out[y.proc.toNat]?with
 |some row=>row[y.index.toNat]?.getD false|none=>false
theorem CC{t:Z4}{out:aZ (aZ X')}{p k:Nat}{row:aZ X'}(a:out[p]?=some row)(b:k+1<row.length){z:bf}(B:Vd t z):
 sP (out.set p (row.set (k+1) true)) z=(decide (z=⟨p,k+1⟩)||sP out z):=by
 obtain⟨q,j,e,_,rfl,_⟩:=B.at_;have C:=(ζe.1 a).1;unfold sP;have e1:(⟨(q:Int),(j:Int)+1⟩:bf).proc.toNat=q:=rfl;have e2:(⟨(q:Int),(j:Int)+1⟩:bf).index.toNat=j+1:=by show((j:Int)+1).toNat=j+1;omega
 rw[e1,e2,getElem?_set]
 by_cases u:p=q
 .subst u;rw[if_pos rfl,if_pos C,a];dsimp only;rw[getElem?_set]
  by_cases w:k=j
  .subst w;simp[b]
  rw[if_neg Zaa,show decide ((⟨(p:Int),(j:Int)+1⟩:bf)=⟨p,k+1⟩)=false from by simp;omega,Bool.false_or]
 rw[if_neg u,show decide ((⟨(q:Int),(j:Int)+1⟩:bf)=⟨p,k+1⟩)=false from by simp;omega,Bool.false_or]
theorem BU{α:Type}{f g:α->X'}:∀{l:aZ α},(∀z∈l,f z=true->g z=true)->(∃z∈l,f z=false/\g z=true)->l.countP f<l.countP g
 |[],_,⟨z,b,_⟩=>by simp at b|a::l,h,⟨z,b,B,hg⟩=>by simp only[countP_cons];have D:=List.countP_mono_left (l:=l) (p:=f) (q:=g) λx u=>h x (mem_cons_of_mem _ u);rcases mem_cons.1 b with rfl|b;simp[B,hg];omega;have:=BU (l:=l) (λx u=>h x (mem_cons_of_mem _ u)) ⟨z,b,B,hg⟩;have c:=h a (mem_cons_self ..);cases w:f a with|true=>simp[c w];omega|false=>simp;split<;>omega
def cnt(t:Z4)(out:aZ (aZ X')):Nat:=(bQ t).countP λz=>sP out z.1
structure PSt(t:Trace)(x:bf)(out:List (List Bool))(rest:List bf):Prop where
 shp:∀(p:Nat)P,t.procs.l[p]?=some P->∃row,out[p]?=some row/\row.length=P.events.l.length+1
 len:out.length=t.procs.l.length
 que:∀y∈rest,Way t y x
 snd:∀y,Vd t y->sP out y=true->Way t y x
 cls:∀z,z=x\/Vd t z/\sP out z=true->∀y,Edge t y z->sP out y=true\/y∈rest
 le:rest.length<=2*cnt t out+2
theorem Dz{t:Z4}{y:bf}:sP (iB t) y=false:=by
 unfold sP iB;split;rename_i row h;rw[getElem?_map]at h;cases a:t.procs.l[y.proc.toNat]?with|none=>simp[a]at h|some P=>simp[a]at h;subst h;rw[getElem?_replicate];split<;>rfl
 rfl
theorem Wg{t:Z4}(d:Small t)(n:(bQ t).length<1073741824)(i:∀x∈bQ t,mH t.procs.l.length x.1.proc x.2)(c:Aj t){x:bf}(j:Vd t x):
 Wp (o8 t x) λs=>∃out,s=nested out/\PSt t x out []/\∀y,Vd t y->(sP out y=true↔Way t y x):=by
 unfold o8;rw[if_pos (by
  unfold Cr;simp only[ζh,all_eq_true,decide_eq_true_eq];exact⟨by have:=d.1;omega,λP c=>by have:=(d.2 P c).1;omega⟩),eM]
 refine(DK d i c j).mono λs W=>?_
 refine gb (λq:aZ (aZ X')×aZ bf=>PSt t x q.1 q.2) (λq=>2*((bQ t).length-cnt t q.1)+q.2.length) ⟨λp P c=>⟨replicate (P.events.l.length+1) false,by simp[iB,c],Zab⟩,by simp[iB],λy C=>.single ((W.2 y).1 C),λy _ h=>(by rw[Dz]at h;cases h),λz a y C=>?_,by have:=W.1;show s.l.length<=2*cnt t (iB t)+2;omega⟩ ?_
 .rcases a with rfl|⟨_,h⟩
  .exact .inr ((W.2 y).2 C)
  rw[Dz]at h;cases h
 rintro⟨out,rest⟩ u
 cases rest with
 |nil=>
  show Wp (some _) _;refine(bg _).2 ((bg _).2 ⟨out,rfl,u,λy C=>⟨u.snd y C,λD=>?_⟩⟩)
  have key:∀w,Way t y w->w=x\/Vd t w/\sP out w=true->sP out y=true:=λw D=>by induction D with|single h=>exactλD=>(u.cls _ D _ h).elim id λh=>by cases h|tail ad J ih=>exactλD=>ih (.inr ⟨J.1,(u.cls _ D _ J).elim id λh=>by cases h⟩)
  exact key x D (.inl rfl)
 |cons y rest=>
  have G:=u.que y (mem_cons_self ..);have I:=G.l;obtain⟨p,k,e,X,rfl,L⟩:=I.at_;have⟨P,O,l⟩:=X;have o:=(ζe.1 l).1;have⟨row,b,Y⟩:=u.shp p P O;have B:k+1<row.length:=Zaa
  show Wp (qn _ (out,⟨p,k+1⟩::rest)) _;unfold qn;have e2:((k:Int)+1).toNat=k+1:=Zaa
  dsimp only;rw[if_pos ⟨Zaa,Zaa⟩,show((p:Nat):Int).toNat=p from rfl,e2,b,ζb,ζd B,ζb,cq]
  have S:sP out ⟨p,k+1⟩=row[k+1]:=by unfold sP;rw[show((⟨(p:Int),(k:Int)+1⟩:bf).proc).toNat=p from rfl,b];dsimp only;rw[e2,ζd B];rfl
  constructor
  .intro Z;rw[bg];refine⟨⟨u.shp,u.len,λy C=>u.que y (mem_cons_of_mem _ C),u.snd,λz a y C=>?_,by have:=u.le;simp only[length_cons]at this;show rest.length<=2*cnt t out+2;omega⟩,Nat.add_lt_add_left (Nat.lt_succ_self _) _⟩
   rcases u.cls z a y C with h|h
   .exact .inl h
   rcases mem_cons.1 h with rfl|h
   .exact .inl (by rw[S];exact Z)
   exact .inr h
  intro Z;rw[eM];refine(DK d i c I).mono λmore f=>?_
  have m:=u.le;simp only[length_cons]at m;have v:cnt t out<=(bQ t).length:=List.countP_le_length;have A:=f.1;have E:cnt t out<cnt t (out.set p (row.set (k+1) true)):=BU (λz a h=>by rw[CC b B ⟨_,a⟩,h,Bool.or_true]) ⟨_,L,by rw[S,Z],by rw[CC b B I];simp⟩
  have F:cnt t (out.set p (row.set (k+1) true))<=(bQ t).length:=List.countP_le_length;rw[if_pos Zaa,bg]
  refine⟨⟨λq Q g=>?_,by show(out.set _ _).length=_;rw[length_set];exact u.len,λz a=>?_,λz a h=>?_,λz a y C=>?_,by show(rest++more.l).length<=_;rw[ζi];show _<=2*cnt t (out.set p (row.set (k+1) true))+2;omega⟩,?_⟩
  .show ∃r,(out.set p (row.set (k+1) true))[q]?=some r/\_;rw[getElem?_set];split
   next e=>subst e;rw[if_pos (ζe.1 b).1];rw[O]at g;cases g;exact⟨_,rfl,by simp[Y]⟩
   exact u.shp q Q g
  .rcases mem_append.1 a with a|a
   .exact u.que z (mem_cons_of_mem _ a)
   exact .trans (.single ((f.2 z).1 a)) G
  .show Way t z x;have h:sP (out.set p (row.set (k+1) true)) z=true:=h;rw[CC b B a]at h;simp only[or_eq_true,decide_eq_true_eq]at h;rcases h with rfl|h
   .exact G
   exact u.snd z a h
  .show sP (out.set p (row.set (k+1) true)) y=true\/y∈rest++more.l;rw[CC b B C.1];have T:z=x\/Vd t z/\sP out z=true->(decide (y=⟨p,k+1⟩)||sP out y)=true\/y∈rest++more.l:=λa=>by
    rcases u.cls z a y C with h|h
    .exact .inl (by rw[show sP out y=true from h,Bool.or_true])
    rcases mem_cons.1 h with rfl|h
    .exact .inl Zab
    exact .inr (mem_append_left _ h)
   rcases a with a|⟨U,a⟩
   .exact T (.inl a)
   have a:sP (out.set p (row.set (k+1) true)) z=true:=a;rw[CC b B U]at a;simp only[or_eq_true,decide_eq_true_eq]at a;rcases a with rfl|a
   .exact .inr (List.mem_append_right _ ((f.2 y).2 C))
   exact T (.inr ⟨U,a⟩)
  show 2*((bQ t).length-cnt t (out.set p (row.set (k+1) true)))+(rest++more.l).length<2*((bQ t).length-cnt t out)+(_::rest).length;rw[ζi,length_cons];omega
theorem aaL{t:Z4}(b:Small t)(Y:(bQ t).length<1073741824)(g:∀x∈bQ t,mH t.procs.l.length x.1.proc x.2)(c:Aj t):Wp (dx.W6 0 t ⟨0,0⟩) λr=>(r.2=0↔¬Nw t):=by
 have y:=b.1;unfold dx.W6;refine gb (λi:Int=>∃n:Nat,i=n/\n<=t.procs.l.length/\∀(p k:Nat)e,p<n->mV t p k e->¬Way t ⟨p,k+1⟩ ⟨p,k+1⟩) (λi:Int=>t.procs.l.length-i.toNat) ⟨0,rfl,zero_le _,λp k e S=>absurd S Zaa⟩ ?_;rintro i ⟨n,rfl,X,T⟩;unfold dx.NC;rw[cq];constructor;intro h;have w:n<t.procs.l.length:=by simpa[len]using h
 have G:=bJ w;have z:=ζd w;have Z:=(b.2 _ (getElem_mem w)).1;generalize t.procs.l[n]=P at *;unfold dx.W7;refine gb (λi:Int=>∃m:Nat,i=m/\m<=P.events.l.length/\∀k,k<m->¬Way t ⟨n,k+1⟩ ⟨n,k+1⟩) (λi:Int=>P.events.l.length-i.toNat) ⟨0,rfl,zero_le _,λk a=>absurd a Zaa⟩ ?_;rintro i ⟨m,rfl,A,a⟩;unfold dx.NU;rw[G,ζb,cq];constructor;intro h;have I:m<P.events.l.length:=by simpa[len]using h
 have J:=cH m Zaa;have d:Vd t ⟨n,m+1⟩:=⟨P.events.l[m],eo.2 ⟨n,m,⟨P,z,ζd I⟩,rfl⟩⟩;rw[J,show(((m+1:Nat)):Int)=(m:Int)+1 from Zab,eM];refine(Wg b Y g c d).mono ?_;rintro s ⟨out,rfl,j,B⟩;have⟨row,f,E⟩:=j.shp n P z;have L:out≠[]:=by rintro rfl;cases f
 have C:m+1<row.length:=Zaa;have l:idx (nested out) (n:Int)=some (.row row):=by unfold nested;rw[if_neg L,iI];show(out.map Sl.row)[n]?=_;rw[getElem?_map,f];rfl
 have o:idx (Sl.row row) ((m:Int)+1)=some row[m+1]:=by rw[show(m:Int)+1=((m+1:Nat):Int)from Zab];exact bJ (s:=Sl.row row) C
 rw[l,ζb,o,ζb,cq];have q:row[m+1]=sP out ⟨n,m+1⟩:=by unfold sP;rw[show((⟨(n:Int),(m:Int)+1⟩:bf).proc).toNat=n from rfl,f];dsimp only;rw[show((m:Int)+1).toNat=m+1 from Zaa,ζd C];rfl
 rw[q];refine⟨λD=>(bg _).2 ((bg _).2 ((bg _).2 ⟨λh=>(by cases h),λh=>absurd ⟨_,(B _ d).1 D⟩ h⟩)),λD=>(bg _).2 ⟨⟨m+1,Zab,Zaa,λk F=>?_⟩,by simp;omega⟩⟩;by_cases e:k=m;subst e;exactλJ=>by rw[(B _ d).2 J]at D;cases D
 exact a k Zaa;intro h;have O:P.events.l.length<=m:=by simpa[len]using h
 refine(bg _).2 ((bg _).2 ⟨⟨n+1,cH n Zaa,Zaa,λp k e S u=>?_⟩,by rw[cH n Zaa];simp;omega⟩);by_cases e:p=n;subst e;have⟨Q,U,v⟩:=u;rw[z]at U;cases U;have:=(ζe.1 v).1;exact a k Zaa;exact T p k _ Zaa u;intro h;have O:t.procs.l.length<=n:=by simpa[len]using h
 refine(bg _).2 ((bg _).2 ⟨λ_⟨x,W⟩=>?_,λ_=>rfl⟩);obtain⟨p,k,e,u,rfl,_⟩:=W.l.at_;have⟨P,c,_⟩:=id u;exact T p k e (by have:=(ζe.1 c).1;omega) u W
theorem LL{t:Z4}(B:∀x∈bQ t,mH t.procs.l.length x.1.proc x.2):(∀(p k:Nat)e,mV t p k e->xH t (⟨p,k+1⟩,e)=0)↔Aj t:=Iff.trans ⟨λh x w=>by have⟨p,k,b,u⟩:=eo.1 w;have⟨a,e⟩:=x;simp only at b u;rw[u];exact h p k e b,λh p k e z=>h _ (eo.2 ⟨p,k,z,rfl⟩)⟩ (Pp B)
theorem QZ{t:Z4}(d:Small t)(s:(bQ t).length<1073741824):Wp (dx t) λr=>(r.2=0↔Ok t):=by
 have E:=d.1;unfold dx;rw[mW,ζb,cq];refine⟨λL=>(bg _).2 ⟨λh=>(by cases h),λh=>?_⟩,λL=>?_⟩;have F:=h.one;have g:=h.few;simp only[or_eq_true,decide_eq_true_eq,len]at L;omega;have g:1<=t.procs.l.length/\t.procs.l.length<=8:=by simp only[or_eq_false_iff,decide_eq_false_iff_not,len]at L;omega
 unfold dx.W1;refine gb (λi:Int=>∃n:Nat,i=n/\n<=t.procs.l.length/\∀p,p<n->sB t p=0) (λi:Int=>t.procs.l.length-i.toNat) ⟨0,rfl,zero_le _,λp G=>absurd G Zaa⟩ ?_;rintro i ⟨n,rfl,H,o⟩;unfold dx.br;rw[cq];constructor;intro h;have w:n<t.procs.l.length:=by simpa[len]using h
 rw[UG d w,ζb,cq];refine⟨λa=>(bg _).2 ⟨⟨n+1,cH n Zaa,Zaa,λp G=>?_⟩,by rw[cH n Zaa];simp;omega⟩,λa=>(bg _).2 ((bg _).2 ⟨λh=>?_,λh=>?_⟩)⟩;by_cases e:p=n;subst e;simpa using a;exact o p Zaa;simp only at h;simp[h]at a;simp[h.heads n w]at a;intro h;have K:t.procs.l.length<=n:=by simpa[len]using h
 rw[bg];unfold dx.W2;refine gb (λi:Int=>∃n:Nat,i=n/\n<=t.procs.l.length/\∀(p k:Nat)P e,p<n->t.procs.l[p]?=some P->P.events.l[k]?=some e->qh t.procs.l.length P p k e=0) (λi:Int=>t.procs.l.length-i.toNat) ⟨0,rfl,zero_le _,λp k P e G=>absurd G Zaa⟩ ?_;rintro i ⟨I,rfl,M,U⟩;unfold dx.bV;rw[cq];constructor;intro h;have w:I<t.procs.l.length:=by simpa[len]using h
 have D:=bJ w;have B:=ζd w;have O:=(d.2 _ (getElem_mem w)).1;generalize t.procs.l[I]=P at D B O;unfold dx.W3;refine gb (λi:Int=>∃m:Nat,i=m/\m<=P.events.l.length/\∀(k:Nat)e,k<m->P.events.l[k]?=some e->qh t.procs.l.length P I k e=0) (λi:Int=>P.events.l.length-i.toNat) ⟨0,rfl,zero_le _,λk e c=>absurd c Zaa⟩ ?_;rintro i ⟨m,rfl,v,c⟩;unfold dx.fA;rw[D,ζb,cq];constructor;intro h;have S:m<P.events.l.length:=by simpa[len]using h
 have C:=ζd S;have Z:=cH m Zaa;rw[UD d B C,ζb,cq];refine⟨λa=>(bg _).2 ⟨⟨m+1,Z,Zaa,λk e x u=>?_⟩,by rw[Z];simp;omega⟩,λa=>(bg _).2 ((bg _).2 ((bg _).2 ⟨λh=>?_,λh=>?_⟩))⟩;by_cases j:k=m;subst j;rw[C]at u;cases u;simpa using a;exact c k e Zaa u;simp only at h;simp[h]at a;simp[h.gj I m P _ B C]at a;intro h;have J:P.events.l.length<=m:=by simpa[len]using h
 refine(bg _).2 ((bg _).2 ⟨⟨I+1,cH I Zaa,Zaa,λp k Q e G T u=>?_⟩,by rw[cH I Zaa];simp;omega⟩);by_cases l:p=I;subst l;rw[B]at T;cases T;exact c k e (by have:=(ζe.1 u).1;omega) u;exact U p k Q e Zaa T u;intro h;have J:t.procs.l.length<=I:=by simpa[len]using h
 have U:∀(p k:Nat)P e,t.procs.l[p]?=some P->P.events.l[k]?=some e->qh t.procs.l.length P p k e=0:=λp k P e f c=>U p k P e (by have:=(ζe.1 f).1;omega) f c;have W:=IX U;rw[bg];unfold dx.W4;refine gb (λi:Int=>∃n:Nat,i=n/\n<=t.procs.l.length/\∀(p k:Nat)e,p<n->mV t p k e->xH t (⟨p,k+1⟩,e)=0) (λi:Int=>t.procs.l.length-i.toNat) ⟨0,rfl,zero_le _,λp k e G=>absurd G Zaa⟩ ?_;rintro i ⟨q,rfl,N,X⟩;unfold dx.MU;rw[cq];constructor;intro h;have w:q<t.procs.l.length:=by simpa[len]using h
 have D:=bJ w;have B:=ζd w;have O:=(d.2 _ (getElem_mem w)).1;generalize t.procs.l[q]=P at D B O;unfold dx.W5;refine gb (λi:Int=>∃m:Nat,i=m/\m<=P.events.l.length/\∀(k:Nat)e,k<m->P.events.l[k]?=some e->xH t (⟨q,k+1⟩,e)=0) (λi:Int=>P.events.l.length-i.toNat) ⟨0,rfl,zero_le _,λk e c=>absurd c Zaa⟩ ?_;rintro i ⟨m,rfl,v,c⟩;unfold dx.z7;rw[D,ζb,cq];constructor;intro h;have S:m<P.events.l.length:=by simpa[len]using h
 have C:=ζd S;have Z:=cH m Zaa;have z:mV t q m P.events.l[m]:=⟨P,B,C⟩;rw[Z,show(((m+1:Nat)):Int)=(m:Int)+1 from Zab,P0 d z (W (⟨q,m+1⟩,P.events.l[m]) (eo.2 ⟨q,m,z,rfl⟩)),ζb,cq];refine⟨λa=>(bg _).2 ⟨⟨m+1,Zab,Zaa,λk e x u=>?_⟩,by simp;omega⟩,λa=>(bg _).2 ((bg _).2 ((bg _).2 ⟨λh=>?_,λh=>?_⟩))⟩;by_cases j:k=m;subst j;rw[C]at u;cases u;simpa using a;exact c k e Zaa u;simp only at h;simp[h]at a;simp[(LL W).2 h.B6 q m _ z]at a;intro h;have J:P.events.l.length<=m:=by simpa[len]using h
 refine(bg _).2 ((bg _).2 ⟨⟨q+1,cH q Zaa,Zaa,λp k e G z=>?_⟩,by rw[cH q Zaa];simp;omega⟩);by_cases l:p=q;subst l;have⟨Q,T,u⟩:=z;rw[B]at T;cases T;exact c k e (by have:=(ζe.1 u).1;omega) u;exact X p k e Zaa z;intro h;have R:t.procs.l.length<=q:=by simpa[len]using h
 have f:Aj t:=(LL W).1 λp k e z=>X p k e (by have⟨P,f,_⟩:=z;have:=(ζe.1 f).1;omega) z;have Y:¬Nw t↔Ok t:=⟨λh=>⟨g.1,g.2,λp G=>o p Zaa,U,f,h⟩,λh=>h.acyc⟩;rw[bg,eM];refine(OI d W f).mono λb y=>?_;rw[cq];exact⟨λh=>(bg _).2 ⟨λ_=>Y.1 (y h),λ_=>rfl⟩,λ_=>(aaL d s W f).mono λr A=>A.trans Y⟩
theorem BV{t:Z4}(a:Small t)(B:(bQ t).length<1073741824):∃b,cI t=some b/\ru t=some b/\(b=true->VT t):=by obtain⟨b,u,c,w⟩:=Lw a B;refine⟨b,u,?_,c⟩;unfold ru;obtain⟨r,d,z⟩:=QZ a B;rw[d,ζb];congr 1;rw[Bool.eq_iff_iff,beq_iff_eq,z];exact⟨w,λh=>(c h).ok⟩
theorem Td{t:Z4}(f:Small t){c:Zg}(D:c.l.length=t.procs.l.length){step:Int->a_ (Fw Int Unit Unit)}
 (Y:∀i,step i=bl (decide (i<(len c))) ((idx c i).bind λG=>(bl (decide (G<0)) (some true) ((idx c i).bind λJ=>(idx t.procs i).bind λU=>some (decide (J>(len U.events)))):a_ X').bind λW=>bl W (some (.r ())) (some (.n (wrap .i64 (i+1))))) (some (.x ()))):
 Wp ((bY step 0).bind (Fw.elim (λ_=>some true) (λ_=>some false))) λb=>(b=true↔sN t c.l):=by
 have g:=f.1;refine gb (λs:Int=>∃n:Nat,s=n/\n<=c.l.length/\∀(p:Nat)(a:Int)(P:bW),p<n->c.l[p]?=some a->t.procs.l[p]?=some P->0<=a/\a<=P.events.l.length) (λs:Int=>c.l.length-s.toNat) ⟨0,rfl,zero_le _,λp a P h=>absurd h Zaa⟩ ?_
 rintro s ⟨n,rfl,Q,C⟩;rw[Y,cq];constructor
 .intro h;have w:n<c.l.length:=by simpa[len]using h
  have u:n<t.procs.l.length:=Zaa
  have I:=cH n Zaa
  rw[bJ w,ζb,ζb,bJ u,ζb,mW,ζb,cq];constructor
  .intro z;have z:c.l[n]<0\/c.l[n]>t.procs.l[n].events.l.length:=by simpa[len]using z
   refine(bg _).2 ((bg _).2 ⟨λh=>(by cases h),λL=>?_⟩)
   have:=L.2 n _ _ (ζd w) (ζd u);omega
  intro z;have z:0<=c.l[n]/\c.l[n]<=t.procs.l[n].events.l.length:=by simpa[len]using z
  refine(bg _).2 ⟨⟨n+1,I,Zaa,λp a P S B d=>?_⟩,by rw[I];simp;omega⟩
  by_cases e:p=n
  .subst e;rw[ζd w]at B;cases B;rw[ζd u]at d;cases d;exact z
  exact C p a P Zaa B d
 intro h;have O:c.l.length<=n:=by simpa[len]using h
 refine(bg _).2 ((bg _).2 ⟨λ_=>⟨D,λp a P B d=>C p a P (by have:=(ζe.1 B).1;omega) B d⟩,λ_=>rfl⟩)
theorem Wi{t:Z4}(a:Small t){c:Zg}(B:c.l.length=t.procs.l.length):Wp (oB t c) λb=>(b=true↔sN t c.l):=by unfold oB;rw[show(len c==len t.procs)=true from by simp[len,B],bD];exact Td a B λi=>rfl
theorem Ho{t:Z4}(a:VT t){A:cz 200 bG}(b:fR t (bQ t) A){p k:Nat}{e:WF}(B:mV t p k e)(c:e.kind=3):iy t 2 e.message=(ag A e.message).from_:=by have⟨y,d,u,w⟩:=zT a.formed a.ok.B6 (eo.2 ⟨p,k,B,rfl⟩:((⟨p,k+1⟩:bf),e)∈bQ t) c;have:=b.snd _ d u;simp only[w]at this;exact this.symm
theorem MM(t:Z4)(kind m:Int):iy t kind m=⟨0,0⟩/\(∀x∈bQ t,¬(x.2.kind=kind/\x.2.message=m))\/∃z,(iy t kind m,z)∈bQ t/\z.kind=kind/\z.message=m:=by cases h:(bQ t).find? (mE kind m)with|some x=>have⟨a1,a2,a3,a4⟩:=xI h;exact .inr ⟨x.2,by rw[a4];exact a1,a2,a3⟩|none=>rw[find?_eq_none]at h;have u:∀x∈bQ t,¬(x.2.kind=kind/\x.2.message=m):=λx w=>(by have:=h x w;simpa[mE]using this);exact .inl ⟨PK u,u⟩
theorem Ns{t:Z4}(a:VT t){r s:bf}{z e:WF}(b:(r,z)∈bQ t)(D:z.kind=3)(B:(s,e)∈bQ t)(G:e.kind=2)(J:e.message=z.message):e.peer=r.proc/\z.peer=s.proc:=by
 have h:=a.ok.B6.has _ b D;have L:0<=z.peer:=by rcases a.formed _ b with h|⟨_,h,_⟩;simp only at h;omega;exact h
 rw[show z.peer=((z.peer.toNat:Nat):Int)from Zaa,AY]at h;have⟨k,y,w,c,C,I⟩:=h;have u:((⟨(z.peer.toNat:Nat),k+1⟩:bf),y)∈bQ t:=eo.2 ⟨_,k,w,rfl⟩;have:=a.ok.B6.snd _ u _ B c G (by rw[J];exact C);simp only at this;subst this;cases A8 u B rfl;exact⟨I,by simp only;omega⟩
def sF(t:Z4)(c:R')(e:WF):X':=(iy t 3 e.message).index==0||decide ((iy t 3 e.message).index>(c[(iy t 3 e.message).proc.toNat]?).getD 0)
theorem B8{α:Type}(f g:α->X'):∀l:aZ α,l.countP f=l.countP (λx=>f x&&g x)+l.countP (λx=>f x&& !g x)
 |[]=>rfl|x::l=>by simp only[countP_cons,B8 f g l];cases f x<;>cases g x<;>simp<;>omega
theorem vZ{α:Type}{f:α->X'}{l:aZ α}{n k:Nat}:k∈places f (l.take n)↔k<n/\∃x,l[k]?=some x/\f x=true:=by rw[On];simp only[getElem?_take];constructor;rintro⟨x,a,u⟩;split at a;exact⟨‹_›,x,a,u⟩;cases a;rintro⟨h,x,a,u⟩;exact⟨x,by rw[if_pos h];exact a,u⟩
theorem V8{t:Z4}(i:VT t){A:cz 200 bG}(hM:fR t (bQ t) A){c:R'}(E:Cons t A c){p q:Nat}{P Q:bW}{a b:Int}(l:t.procs.l[p]?=some P)(D:t.procs.l[q]?=some Q)(N:c[p]?=some a)(s:c[q]?=some b):
 (Q.events.l.take b.toNat).countP (Af p)=(P.events.l.take a.toNat).countP λe=>gP q e&& !sF t c e:=by
 have f:∀{p:Nat}{P:bW}{k:Nat}{e:WF},t.procs.l[p]?=some P->P.events.l[k]?=some e->((⟨p,k+1⟩:bf),e)∈bQ t:=λl g=>eo.2 ⟨_,_,⟨_,l,g⟩,rfl⟩
 have a0:=(E.1.2 p a P N l).1;have b0:=(E.1.2 q b Q s D).1;have r1:∀k,k∈places (Af p) (Q.events.l.take b.toNat)->∃(z:WF)(j:Nat)(e:WF),Q.events.l[k]?=some z/\z.kind=3/\P.events.l[j]?=some e/\e.kind=2/\e.peer=q/\e.message=z.message/\iy t 2 z.message=⟨p,j+1⟩/\(j:Int)+1<=a/\(k:Int)+1<=b:=λk g=>by have⟨ai,z,d,u⟩:=vZ.1 g;have u:z.kind=3/\z.peer=p:=(by simpa[Af]using u);have R:=f D d;have⟨e,e1,e2,e3⟩:=zT i.formed i.ok.B6 R u.1;have⟨m,n⟩:=Ns i R u.1 e1 e2 e3;have⟨p',j,⟨P',Y,Z⟩,G⟩:=eo.1 e1;simp only at m G Z;rw[G]at n;have ab:p'=p:=(by simp only at n;omega);subst ab;rw[l]at Y;cases Y;have⟨x,C,I⟩:=E.2 q k z b ⟨Q,D,d⟩ s Zaa u.1;rw[<-Ho i hM ⟨Q,D,d⟩ u.1,G]at C I;simp only[toNat_natCast]at C I;rw[N]at C;cases C;exact⟨z,j,e,d,u.1,Z,e2,m,e3,G,I,Zaa⟩
 have F:∀k,k∈places (λe=>gP q e&& !sF t c e) (P.events.l.take a.toNat)->∃(e:WF)(j:Nat)(z:WF),P.events.l[k]?=some e/\e.kind=2/\Q.events.l[j]?=some z/\z.kind=3/\z.peer=p/\z.message=e.message/\iy t 3 e.message=⟨q,j+1⟩/\(j:Int)+1<=b:=λk g=>by have⟨aj,e,d,u⟩:=vZ.1 g;simp only[ζh,not_eq_true',sF,or_eq_false_iff,gP,beq_iff_eq,beq_eq_false_iff_ne,decide_eq_false_iff_not]at u;have⟨⟨g1,g2⟩,g3,g4⟩:=u;rcases MM t 3 e.message with⟨h,_⟩|⟨z,v,y,z3⟩;rw[h]at g3;exact absurd rfl g3;have⟨m,n⟩:=Ns i v y (f l d) g1 z3.symm;have⟨q',j,⟨Q',V,Z⟩,G⟩:=eo.1 v;simp only at G Z m n;rw[G]at m g4;have ad:q'=q:=(by simp only at m;omega);subst ad;rw[D]at V;cases V;simp only[toNat_natCast,s,getD_some]at g4;exact⟨e,j,z,d,g1,Z,y,n,z3,G,Zaa⟩
 apply Nat.le_antisymm
 .refine HA (λk=>match Q.events.l[k]?with|some z=>((iy t 2 z.message).index-1).toNat|none=>0) (λk g=>?_) λk H g J K=>?_
  .have⟨z,j,e,d,u,L,o,r,O,S,h8,h9⟩:=r1 k g;rw[d];simp only[S];rw[show((j:Int)+1-1).toNat=j from Zaa]
   refine vZ.2 ⟨Zaa,e,L,?_⟩
   have ae:iy t 3 e.message=⟨q,k+1⟩:=by rcases MM t 3 e.message with⟨_,h⟩|⟨z',v,y,z3⟩;exact absurd ⟨u,O.symm⟩ (h _ (f D d));exact i.ok.B6.rcv _ v _ (f D d) y u (by rw[z3,O])
   simp only[sF,ae,gP,o,r,toNat_natCast,s,getD_some];simp;omega
  have⟨z,j,e,d,u,L,o,r,O,S,_⟩:=r1 k g;have⟨z',M,e',w,T,B,af,ah,U,W,_⟩:=r1 H J;simp only[d,w,S,W]at K;have X:j=M:=Zaa
  subst X;rw[L]at B;cases B;have:=i.ok.B6.rcv _ (f D d) _ (f D w) u T (by rw[<-O,U])
  simp only[bf.mk.injEq]at this;omega
 refine HA (λk=>match P.events.l[k]?with|some e=>((iy t 3 e.message).index-1).toNat|none=>0) (λk g=>?_) λk H g J K=>?_
 .have⟨e,j,z,d,u,L,o,r,O,S,h8⟩:=F k g;rw[d];simp only[S];rw[show((j:Int)+1-1).toNat=j from Zaa]
  exact vZ.2 ⟨Zaa,z,L,by simp[Af,o,r]⟩
 have⟨e,j,z,d,u,L,o,r,O,S,_⟩:=F k g;have⟨e',M,z',w,T,B,af,ah,U,W,_⟩:=F H J;simp only[d,w,S,W]at K;have X:j=M:=Zaa
 subst X;rw[L]at B;cases B;have:=i.ok.B6.snd _ (f l d) _ (f l w) u T (by rw[<-O,U])
 simp only[bf.mk.injEq]at this;omega
theorem Hv{t:Z4}(f:VT t){A:cz 200 bG}(g:fR t (bQ t) A){c:R'}(h:Cons t A c){p q:Nat}{P Q:bW}{a b:Int}(d:t.procs.l[p]?=some P)(B:t.procs.l[q]?=some Q)(D:c[p]?=some a)(G:c[q]?=some b):
 under t c p q=((P.events.l.take a.toNat).countP λe=>gP q e&&sF t c e:Nat):=by
 unfold under;rw[d,B,D,G];dsimp only;rw[V8 f g h d B D G,B8 (gP q) (sF t c)];omega
theorem eS{σ ε ρ γ:Type}{step:σ->a_ (Fw σ ε ρ)}{B:ε->a_ γ}{fr:ρ->a_ γ}{P:γ->Prop}(n:Nat)(I:Nat->σ->Prop){s:σ}(c:I 0 s)
 (h:∀i s,i<n->I i s->Wp (step s) λw=>match w with|.n D=>I (i+1) D|.x e=>Wp (B e) P|.r b=>Wp (fr b) P)
 (G:∀s,I n s->Wp (step s) λw=>match w with|.n _=>False|.x e=>Wp (B e) P|.r b=>Wp (fr b) P):Wp ((bY step s).bind (Fw.elim B fr)) P:=by
 have key:∀m i s,i+m=n->I i s->Wp ((bY step s).bind (Fw.elim B fr)) P:=by
  intro m
  induction m with
  |zero=>intro i s hi z;have⟨w,u,a⟩:=G s Zac;rw[fG,u];cases w with|n D=>grind|x e=>exact a|r b=>exact a
  |succ m C=>intro i s hi z;have⟨w,u,a⟩:=h i s Zaa z;rw[fG,u];cases w with|n D=>grind|x e=>exact a|r b=>exact a
 exact key n 0 s (Nat.zero_add n) c
def bump(c:R')(p:Nat)(d:Int):R':=c.set p ((c[p]?).getD 0+d)
theorem tL:∀{c:R'}{p:Nat}{a b:Int},c[p]?=some a->(c.set p b).sum=c.sum-a+b
 |[],_,_,_,h=>Zad|x::c,0,a,b,h=>Zac|x::c,p+1,a,b,h=>by have:=tL (b:=b) (by simpa using h);grind
theorem sH:∀{c:R'},(∀(p:Nat)a,c[p]?=some a->0<=a)->0<=c.sum
 |[],_=>Zab|x::c,h=>by have b:=h 0 x rfl;have u:=sH (c:=c) λp a w=>h (p+1) a Zac;grind
theorem LX:∀{c:R'},(∀(p:Nat)a,c[p]?=some a->0<=a)->c.sum=0->∀(p:Nat)a,c[p]?=some a->a=0
 |[],_,_,p,a,B=>Zad|x::c,h,D,p,a,B=>by have d:=h 0 x rfl;have b:∀(p:Nat)a,c[p]?=some a->0<=a:=λp a B=>h (p+1) a Zac;have u:=sH b;simp at D;cases p with|zero=>grind|succ p=>exact LX b Zaa p a Zac
theorem Nt:∀{c:R'}{l:ST},c.length=l.length->(∀(i:Nat)a b,c[i]?=some a->l[i]?=some b->a<=(b:Nat))->c.sum<=(l.sum:Nat)
 |[],[],_,_=>Zab|x::c,y::l,B,h=>by have d:=h 0 x y rfl rfl;have u:=Nt (c:=c) (l:=l) Zac λi a b w z=>h (i+1) a b Zac Zac;grind
section
variable{t:Z4}{A:cz 200 bG}{c:R'}
theorem sN.pos(h:sN t c)(p:Nat)(a:Int)(B:c[p]?=some a):0<=a:=(h.2 p a _ B (ζd (by have:=(ζe.1 B).1;rw[<-h.1];simp_all))).1
theorem sN.at_(h:sN t c){p:Nat}(hp:p<t.procs.l.length):∃a,c[p]?=some a:=⟨_,ζd (by rw[h.1];omega)⟩
theorem sN.sum(h:sN t c):0<=c.sum/\c.sum<=(tM t:Nat):=
 ⟨sH h.pos,Nt (by simp[h.1]) λi a b w u=>by
  cases d:t.procs.l[i]?with
  |none=>grind|some P=>simp[d]at u;rw[<-u];exact(h.2 i a P w d).2⟩
theorem sN.set(h:sN t c){p:Nat}{b:Int}{P:bW}(d:t.procs.l[p]?=some P)(e:0<=b)(f:b<=P.events.l.length):sN t (c.set p b):=by refine⟨by simp[h.1],λq a Q u w=>?_⟩;rw[getElem?_set]at u;split at u;grind;exact h.2 q a Q u w
def SP(t:Z4)(A:cz 200 bG)(c:R')(p:Nat):Prop:=∃P e a,t.procs.l[p]?=some P/\c[p]?=some a/\P.events.l[a.toNat]?=some e/\(e.kind=3->∃b,c[(ag A e.message).from_.proc.toNat]?=some b/\(ag A e.message).from_.index<=b)
theorem mV.one{p k:Nat}{e f:WF}(h:mV t p k e)(g:mV t p k f):e=f:=by have⟨P,a1,a2⟩:=h;have⟨Q,u,w⟩:=g;grind
theorem pW.le(h:pW t A c){p:Nat}{a b:Int}(G:c[p]?=some a)(J:a<=b)(U:∀(k:Nat)e,mV t p k e->a<=k->(k:Int)<b->e.kind=3->∃B,(c.set p b)[(ag A e.message).from_.proc.toNat]?=some B/\(ag A e.message).from_.index<=B):pW t A (c.set p b):=by
 have L:=(ζe.1 G).1;have up:∀(q:Nat)x,c[q]?=some x->∃y,(c.set p b)[q]?=some y/\x<=y:=λq x u=>by rw[getElem?_set];grind
 intro q k e x w u d I;rw[getElem?_set]at u;have C:∀x,c[q]?=some x->k<x->∃B,(c.set p b)[(ag A e.message).from_.proc.toNat]?=some B/\(ag A e.message).from_.index<=B:=λx u d=>by have⟨y,O,Q⟩:=h q k e x w u d I;have⟨z,S,T⟩:=up _ y O;exact⟨z,S,Zaa⟩
 split at u;rename_i W;subst W;simp[L]at u;subst u;by_cases D:k<a;exact C a G D;exact U k e w Zaa d I;grind
theorem A_(a:VT t)(b:fR t (bQ t) A){p k:Nat}{e:WF}(B:mV t p k e)(D:e.kind=3):∃q j:Nat,(ag A e.message).from_=⟨q,j+1⟩/\q≠p/\Jz t ⟨q,j+1⟩ ⟨p,k+1⟩/\∃y,mV t q j y:=by have⟨q,j,y,u,z,C,y3,y4,y5⟩:=Eh a b B D;have w:(⟨p,k+1⟩,e)∈bQ t:=eo.2 ⟨p,k,B,rfl⟩;refine⟨q,j,y5,?_,⟨y,e,eo.2 ⟨q,j,u,rfl⟩,w,z,D,C⟩,y,u⟩;rcases a.formed _ w with h|⟨_,_,_,h,_⟩;grind;grind
theorem Cons.up(i:VT t)(l:fR t (bQ t) A)(g:Cons t A c){p:Nat}{a:Int}{P:bW}(d:t.procs.l[p]?=some P)(B:c[p]?=some a)(U:a<P.events.l.length):SP t A c p↔Cons t A (c.set p (a+1)):=by have m:=g.1.pos p a B;have T:=(ζe.1 B).1;constructor;rintro⟨Q,e,x,D,G,J,w⟩;rw[d]at D;cases D;rw[B]at G;cases G;refine⟨g.1.set d Zaa Zaa,g.2.le B Zaa λk f z L O W=>?_⟩;have C:k=a.toNat:=Zaa;subst C;cases z.one ⟨P,d,J⟩;grind;intro h;have u:a.toNat<P.events.l.length:=Zaa;refine⟨P,P.events.l[a.toNat],a,d,B,ζd u,λw=>?_⟩;have⟨b,I,S⟩:=h.2 p a.toNat _ (a+1) ⟨P,d,ζd u⟩ Zad Zaa w;rw[getElem?_set]at I;split at I;have⟨q,j,n,o,_⟩:=A_ i l ⟨P,d,ζd u⟩ w;grind;grind
noncomputable def LQ (t:Trace) (x:bf):Nat:=by
 classical
 exact(bQ t).countP λz=>decide (Way t z.1 x)
theorem NJ (hV:VT t) {x y:bf} (h:Way t x y):LQ t x<LQ t y:=by
 classical
 refine BU (λz _ u=>?_) ?_
 .have u:Way t z.1 x:=by grind
  simpa using u.trans h
 obtain⟨e,w⟩:=h.l;exact⟨(x,e),w,by simpa using λk=>hV.ok.acyc ⟨x,k⟩,by grind⟩
theorem XB (x:bf):LQ t x<=(bQ t).length:=by
 classical
 unfold LQ;grind
theorem Vd.of{p k:Nat}{e:WF}(h:mV t p k e):Vd t ⟨p,k+1⟩:=⟨e,eo.2 ⟨p,k,h,rfl⟩⟩
theorem JR{p:Nat}{P:bW}(a:t.procs.l[p]?=some P):∀(d k:Nat),k+d+1<P.events.l.length->Way t ⟨p,k+1⟩ ⟨p,((k+d+1:Nat):Int)+1⟩
 |0,k,h=>.single ⟨Vd.of ⟨P,a,ζd Zaa⟩,Vd.of ⟨P,a,ζd h⟩,.inl Zab⟩|d+1,k,h=>(JR a d k Zaa).tail ⟨Vd.of ⟨P,a,ζd (show k+d+1<_ by omega)⟩,Vd.of ⟨P,a,ζd h⟩,.inl (by simp;omega)⟩
theorem YL{q k:Nat}{b:Int}{Q:bW}{x:bf}(B:t.procs.l[q]?=some Q)(h:Way t x ⟨q,k+1⟩)(a:(k:Int)<b)(D:b<=Q.events.l.length):Way t x ⟨q,b⟩:=by by_cases e:b=k+1;grind;have:=JR B (b.toNat-k-2) k Zaa;rw[show((k+(b.toNat-k-2)+1:Nat)+1)=b from Zaa]at this;exact h.trans this
theorem Cons.M0(g:VT t)(h:fR t (bQ t) A)(d:Cons t A c){p:Nat}{a:Int}(D:c[p]?=some a)(m:0<a):Cons t A (c.set p (a-1))\/∃(q:Nat)(b:Int),c[q]?=some b/\0<b/\Way t ⟨p,a⟩ ⟨q,b⟩:=by
 have X:=(ζe.1 D).1;have f:=ζd (show p<t.procs.l.length by rw[<-d.1.1];omega);have n:=d.1.2 p a _ D f;refine byContradiction λB=>B (.inl ⟨d.1.set f Zaa Zaa,λq k e x u I o L=>?_⟩);obtain⟨z,w,Y⟩:∃z,c[q]?=some z/\x<=z:=by rw[getElem?_set]at I;split at I;(next e2=>subst e2;simp[X]at I;exact⟨a,D,Zaa⟩);grind
 have⟨y,G,C⟩:=d.2 q k e z u w Zaa L;have⟨r,j,i,s,l,_⟩:=A_ g h u L;rw[i]at G C⊢;simp only[toNat_natCast]at G C⊢;by_cases e2:p=r;subst e2;rw[D]at G;cases G;refine⟨a-1,Zad,?_⟩;refine byContradiction λv=>B (.inr ⟨q,z,w,Zaa,?_⟩);have:a=j+1:=Zaa;subst this;have⟨Q,O,_⟩:=u;have J:=d.1.2 q z Q w O;have⟨S,T,U,W,Z⟩:=l;exact YL O (.single ⟨⟨S,U⟩,⟨T,W⟩,.inr ⟨S,T,U,W,Z⟩⟩) Zaa J.2;simp_all
theorem Cons.aaS(d:VT t)(f:fR t (bQ t) A)(g:Cons t A c):∀(n p:Nat)(a:Int),c[p]?=some a->0<a->(bQ t).length-LQ t ⟨p,a⟩<=n->∃(q:Nat)(b:Int),c[q]?=some b/\0<b/\Cons t A (c.set q (b-1)):=by
 intro n
 induction n with
 |zero=>intro p a u e B;rcases g.M0 d f u e with h|⟨q,b,_,_,w⟩;grind;have:=NJ d w;have:=XB (t:=t) ⟨q,b⟩;omega
 |succ n C=>intro p a u e B;rcases g.M0 d f u e with h|⟨q,b,D,z,w⟩;grind;have:=NJ d w;exact C q b D z Zaa
theorem Cons.down(e:VT t)(f:fR t (bQ t) A)(d:Cons t A c)(B:0<c.sum):∃(q:Nat)(b:Int),c[q]?=some b/\0<b/\Cons t A (c.set q (b-1)):=by
 obtain⟨p,a,u,g⟩:∃(p:Nat)(a:Int),c[p]?=some a/\0<a:=by refine byContradiction λw=>?_;have C:∀a∈c,a=0:=λa u=>(by have⟨p,z⟩:=List.mem_iff_getElem?.1 u;have:=d.1.pos p a z;grind);have:c.sum=0:=(by clear d B w;induction c with|nil=>rfl|cons x c D=>simp_all);omega
 exact d.aaS e f _ p a u g (le_refl _)
theorem Cons.IF(a:VT t)(e:fR t (bQ t) A):∀(d:Nat){c:R'}{k:Nat},Cons t A c->c.sum=((k+d:Nat):Int)->∃c',Cons t A c'/\c'.sum=(k:Int)
 |0,c,k,hC,D=>⟨c,hC,Zac⟩|d+1,c,k,hC,D=>by have⟨q,b,G,J,B⟩:=hC.down a e Zaa;exact Cons.IF a e d B (by rw[tL G];omega)
end
theorem jL{α:Type}{s:Sl α}{n:Nat}(h:n<s.l.length):decide ((n:Int)<len s)=true:=by simp[len];omega
theorem ji{α:Type}{s:Sl α}:decide ((s.l.length:Int)<len s)=false:=by simp[len]
theorem CL{α:Type}{s x:Sl α}(h:s.l.length+x.l.length<=2147483648):∃r,oV s x=some r/\r.l=s.l++x.l:=by unfold oV;by_cases e:x.l=[];rw[if_pos e];exact⟨s,rfl,by rw[e,List.append_nil]⟩;rw[if_neg e,if_pos h];exact⟨_,rfl,rfl⟩
theorem nM{α:Type}{s:Sl α}{x:α}(h:s.l.length<2147483648):∃r,gm s x=some r/\r.l=s.l++[x]:=by unfold gm;rw[if_pos Zaa];exact⟨_,rfl,rfl⟩
theorem oF{α:Type}{s:Sl α}{p:Nat}(h:p<s.l.length):Sl.jc s (p:Int)=some p:=by unfold Sl.jc;rw[if_pos ⟨Zaa,by simpa using h⟩];rfl
theorem put_eq{α:Type}{s:Sl α}{p:Nat}{x:α}(h:p<s.l.length):∃r,Sl.put s p x=some r/\r.l=s.l.set p x:=by unfold Sl.put;rw[if_pos h];exact⟨_,rfl,by cases s<;>first|rfl|(simp[Sl.l]at h)⟩
section
variable{t:Z4}{A:cz 200 bG}
def ClN(t:Z4)(A:cz 200 bG)(c:R')(n:Nat):Prop:=∀(p k:Nat)(e:WF)(a:Int),p<n->mV t p k e->c[p]?=some a->(k:Int)<a->e.kind=3->∃b,c[(ag A e.message).from_.proc.toNat]?=some b/\(ag A e.message).from_.index<=b
theorem YM(i:Small t)(d:VT t)(l:fR t (bQ t) A){c:Zg}(Y:sN t c.l):Wp (eA t c) λb=>(b=true↔pW t A c.l):=by
 have F:=Y.1;have H:=d.few;unfold eA eA.W1;refine eS c.l.length (λn s=>s=(n:Int)/\ClN t A c.l n) ⟨rfl,λp k e a h=>absurd h Zaa⟩ ?_ ?_;rintro n _ B ⟨rfl,T⟩;unfold eA.br;rw[jL B,bD];have z:n<t.procs.l.length:=by omega
 have K:=(i.2 _ (getElem_mem z)).1;have C:=ζd z;have D:=ζd B;have⟨r1,r2⟩:=Y.2 n _ _ D C;have J:=bJ B;generalize c.l[n]=a at *;generalize t.procs.l[n]=P at *;unfold eA.W2;refine eS a.toNat (λm s=>s=(m:Int)/\∀(k:Nat)(e:WF),k<m->mV t n k e->e.kind=3->∃b,c.l[(ag A e.message).from_.proc.toNat]?=some b/\(ag A e.message).from_.index<=b) ⟨rfl,λk e h=>absurd h Zaa⟩ ?_ ?_;rintro m _ M ⟨rfl,U⟩;unfold eA.bV;have L:m<P.events.l.length:=by omega
 have u:mV t n m P.events.l[m]:=⟨P,C,ζd L⟩;rw[J,ζb,show decide ((m:Int)<a)=true from by simp;omega,bD,iI,C,ζb,bJ L,ζb,cH m Zaa];generalize P.events.l[m]=e at *;have more:(e.kind=3->∃b,c.l[(ag A e.message).from_.proc.toNat]?=some b/\(ag A e.message).from_.index<=b)->∀(k:Nat)(e:WF),k<m+1->mV t n k e->e.kind=3->∃b,c.l[(ag A e.message).from_.proc.toNat]?=some b/\(ag A e.message).from_.index<=b:=λh k f o Z w=>by by_cases r:k=m;subst r;cases u.one Z;exact h w;exact U k f Zaa Z w
 rw[cq];refine⟨λw=>?_,λw=>(bg _).2 ⟨rfl,more λk=>by simp[k]at w⟩⟩;have w:e.kind=3:=by simpa using w
 have⟨q,j,g,_,_,y,Q,v,_⟩:=A_ d l u w;have G:q<c.l.length:=by have:=(ζe.1 v).1;omega
 rw[find_eq i,Ho d l u w,ζb,g];simp only;rw[bJ G,ζb,cq];refine⟨λW=>(bg _).2 ((bg _).2 ((bg _).2 ⟨λh=>(by cases h),λE=>?_⟩)),λX=>(bg _).2 ⟨rfl,more λ_=>?_⟩⟩;have⟨b,O,S⟩:=E n m e a u D Zaa w;rw[g]at O S;simp only[toNat_natCast,ζd G,ζa]at O S;simp only[decide_eq_true_eq]at W;omega;rw[g];exact⟨c.l[q],by simp only[toNat_natCast];exact ζd G,by simp at X⊢;omega⟩;rintro _ ⟨rfl,U⟩;unfold eA.bV;rw[J,ζb,show decide ((a.toNat:Int)<a)=false from by simp;omega,bu];refine(bg _).2 ((bg _).2 ⟨cH n Zaa,λp k e x hp u I o w=>?_⟩);by_cases e2:p=n;subst e2;rw[D]at I;cases I;exact U k e Zaa u w;exact T p k e x Zaa u I o w;rintro _ ⟨rfl,T⟩;unfold eA.br;rw[ji,bu];exact(bg _).2 ((bg _).2 ⟨λ_ p k e a u I=>T p k e a (ζe.1 I).1 u I,λ_=>rfl⟩)
theorem aaI(a:Small t)(d:VT t)(e:fR t (bQ t) A){c:Zg}(B:c.l.length=t.procs.l.length):Wp (zc t c) λb=>(b=true↔Cons t A c.l):=by unfold zc;rw[eM];refine(Wi a B).mono λb w=>?_;rw[eM,cq];constructor;intro h;have z:=w.1 h;rw[eM];refine(YM a d e z).mono λC u=>?_;rw[bg,bg];exact u.trans ⟨λh=>⟨z,h⟩,λh=>h.2⟩;intro h;rw[bg,bg];exact⟨λh=>(by cases h),λf=>absurd (w.2 f.1) (by simp[h])⟩
theorem step_eq{c:Zg}{p:Nat}{a:Int}(B:c.l[p]?=some a)(G:c.l.length<=1073741824)(b:0<=a)(e:a<1073741824):∃d:Zg,s_ c p=some d/\d.l=c.l.set p (a+1):=by have w:=(ζe.1 B).1;unfold s_;have⟨r,z,u⟩:=CL (s:=Sl.row []) (x:=c) (show 0+c.l.length<=_ by omega);have u:r.l=c.l:=u;rw[z,ζb,oF (by rw[u];exact w),ζb];unfold Sl.get;rw[u,B,ζb,ζb,eF _ Zaa Zaa];have⟨d,C,D⟩:=put_eq (s:=r) (p:=p) (x:=a+1) (by rw[u];exact w);rw[C];exact⟨d,rfl,by rw[D,u]⟩
end
def ins(s:Zb):aZ R':=s.l.map Sl.l
theorem zy{α:Type}(s:Sl α)(i:Nat)(h:i<=s.l.length):∃x,gu s (some (i:Int)) none=some x/\x.l=s.l.drop i:=by unfold gu eD;simp only[getD_some,Option.getD_none];rw[if_pos ⟨Zaa,Zaa,Zaa⟩];exact⟨_,rfl,by cases s<;>simp[Sl.l]⟩
def DS(t:Z4)(A:cz 200 bG)(c d:R'):Prop:=∃(p:Nat)(a:Int),c[p]?=some a/\d=c.set p (a+1)/\Cons t A d
section
variable{t:Z4}{A:cz 200 bG}
theorem qM{s:Zb}{d:R'}:d∈ins s↔∃x∈s.l,x.l=d:=by unfold ins;exact mem_map
theorem Nb{r s:Zb}{x:Zg}(h:r.l=s.l++[x]){d:R'}:d∈ins r↔d∈ins s\/d=x.l:=by unfold ins;rw[h];simp
theorem Wu(f:Small t)(g:VT t)(j:fR t (bQ t) A){c:Zg}(i:Cons t A c.l):Wp (jV t c) λr=>r.l.length<=8/\∀d,d∈ins r↔DS t A c.l d:=by
 have J:=i.1.1;have T:=g.few;unfold jV jV.W1;refine eS c.l.length (λn s=>s.2=(n:Int)/\s.1.l.length<=n/\∀d,d∈ins s.1↔∃(p:Nat)(a:Int),p<n/\c.l[p]?=some a/\d=c.l.set p (a+1)/\Cons t A d) ⟨rfl,le_refl _,λd=>⟨λh=>by simp[ins,Sl.l]at h,λ⟨p,a,h,_⟩=>absurd h Zaa⟩⟩ ?_ ?_;rintro n ⟨out,_⟩ B ⟨h,u,G⟩;simp only at h u G;subst h;have w:n<t.procs.l.length:=by omega
 have U:=(f.2 _ (getElem_mem w)).1;have z:=ζd B;have l:=i.1.2 n _ _ z (ζd w);unfold jV.br;rw[jL B,bD,bJ B,ζb,bJ w,ζb,cH n Zaa];generalize c.l[n]=a at *;have keep:¬Cons t A (c.l.set n (a+1))->∀d,d∈ins out↔∃(p:Nat)(a:Int),p<n+1/\c.l[p]?=some a/\d=c.l.set p (a+1)/\Cons t A d:=λL d=>by rw[G];refine⟨λ⟨p,b,h,k⟩=>⟨p,b,Zaa,k⟩,λ⟨p,b,h,k1,k2,k3⟩=>⟨p,b,?_,k1,k2,k3⟩⟩;refine byContradiction λX=>L ?_;have:p=n:=Zaa;subst this;rw[z]at k1;cases k1;rw[<-k2];exact k3
 by_cases C:a<t.procs.l[n].events.l.length;have⟨d,hd,D⟩:=step_eq (c:=c) z Zaa l.1 Zaa;rw[show decide (a<(len t.procs.l[n].events))=true from by simpa[len]using C,bD,hd,ζb,eM,eM];refine(aaI f g j (c:=d) (by rw[D,length_set];exact J)).mono λb O=>?_;rw[D]at O;rw[bg,cq];constructor;intro W;have⟨r,Q,I⟩:=nM (s:=out) (x:=d) Zaa;rw[ζb,Q,ζb,bg];refine⟨rfl,by rw[I];simp;omega,λe=>?_⟩;rw[Nb I,G,D];constructor;rintro(⟨p,b,h,k⟩|h);exact⟨p,b,Zaa,k⟩;exact⟨n,a,Zaa,z,h,by rw[h];exact O.1 W⟩;rintro⟨p,b,h,k1,k2,k3⟩;by_cases e2:p=n;subst e2;rw[z]at k1;cases k1;exact .inr k2;exact .inl ⟨p,b,Zaa,k1,k2,k3⟩;intro S;exact(bg _).2 ⟨rfl,Nat.le_succ_of_le u,keep λh=>by rw[O.2 h]at S;cases S⟩;rw[show decide (a<(len t.procs.l[n].events))=false from by simpa[len]using C,bu,ζb,bu,bg];refine⟨rfl,Nat.le_succ_of_le u,keep λh=>?_⟩;have:=h.1.2 n (a+1) _ (by simp[getElem?_set,B]) (ζd w);omega;rintro⟨out,_⟩ ⟨h,u,G⟩;simp only at h u G;subst h;unfold jV.br;rw[ji,bu,bg];refine(bg _).2 ⟨show out.l.length<=8 by omega,λd=>(G d).trans ⟨λ⟨p,a,_,h⟩=>⟨p,a,h⟩,λ⟨p,a,h⟩=>⟨p,a,(ζe.1 h.1).1,h⟩⟩⟩
def Bk(t:Z4)(A:cz 200 bG)(k:Nat)(s:Zb):Prop:=∀d,d∈ins s↔Cons t A d/\d.sum=(k:Int)
theorem DS.iff(g:VT t)(h:fR t (bQ t) A){k:Nat}{d:R'}:(∃c,(Cons t A c/\c.sum=(k:Int))/\DS t A c d)↔Cons t A d/\d.sum=((k+1:Nat):Int):=by
 constructor;rintro⟨c,⟨f,B⟩,p,a,C,rfl,u⟩;exact⟨u,by rw[tL C];omega⟩;rintro⟨u,B⟩;have⟨q,b,w,D,f⟩:=u.down g h Zaa;have z:=(ζe.1 w).1;refine⟨_,⟨f,by rw[tL w];omega⟩,q,b-1,by simp[z],?_,u⟩;rw[List.set_set,show b-1+1=b from Zaa];refine ext_getElem? λi=>?_;rw[getElem?_set];split;next e=>subst e;simp[z,w];exact(ζe.1 w).2.symm▸rfl
 rfl
theorem yz{s:Zb}{n:Nat}(h:n<s.l.length){d:R'}:d∈(s.l.take (n+1)).map Sl.l↔d∈(s.l.take n).map Sl.l\/d=s.l[n].l:=by rw[show s.l.take (n+1)=s.l.take n++[s.l[n]]from by rw[take_add_one,ζd h];rfl];simp only[map_append,mem_append,map_cons,map_nil,mem_singleton]
theorem MW:∀n:Nat,(replicate n (0:Int)).sum=0
 |0=>rfl|n+1=>by rw[List.replicate_succ,sum_cons,MW n];rfl
theorem OM:Cons t A (replicate t.procs.l.length 0):=by
 have w:∀(p:Nat)a,(replicate t.procs.l.length (0:Int))[p]?=some a->a=0:=λp a h=>by rw[getElem?_replicate]at h;split at h<;>cases h;rfl
 exact⟨⟨Zab,λp a P u _=>by rw[w p a u];omega⟩,λp k e a _ u b=>by rw[w p a u]at b;omega⟩
theorem NX{z:Zg}(B:z.l=replicate t.procs.l.length 0):Bk t A 0 (Sl.row [z]):=by
 intro d;have:d∈ins (Sl.row [z])↔d=replicate t.procs.l.length 0:=by unfold ins;rw[<-B];exact mem_singleton
 rw[this];constructor;rintro rfl;exact⟨OM,by rw[MW];rfl⟩;rintro⟨a,u⟩;refine ext_getElem? λi=>?_;rw[getElem?_replicate,<-a.1.1];split;next hi=>have h:=ζd hi;rw[h,LX a.1.pos (by simpa using u) i _ h]
 exact getElem?_eq_none Zaa
theorem Bk.none(a:VT t)(b:fR t (bQ t) A){k:Nat}{s:Zb}(h:Bk t A k s)(D:s.l.length=0){d:R'}(B:Cons t A d):d.sum<(k:Int):=by refine byContradiction λu=>?_;have f:=sH B.1.pos;have⟨c,e,w⟩:=Cons.IF a b (d.sum.toNat-k) (k:=k) B Zaa;have:=(h c).2 ⟨e,w⟩;have⟨x,z,_⟩:=qM.1 this;have:=List.length_pos_of_mem z;omega
theorem Bk.last{s:Zb}(h:Bk t A (tM t+1) s):s.l.length=0:=by refine byContradiction λu=>?_;have w:=getElem_mem (show 0<s.l.length by omega);have:=(h s.l[0].l).1 (qM.2 ⟨_,w,rfl⟩);have:=this.1.1.sum;omega
theorem F_{α:Type}(s:Sl α):decide ((len s)>0)= !decide (s.l.length=0):=by by_cases h:s.l.length=0;simp[len,h];simp[h,len];omega
end
def gp:R'->R'->Int
 |[],[]=>0|[],_::_=>-1|_::_,[]=>1|x::a,y::b=>if x<y then -1 else if x>y then 1 else gp a b
theorem yU:∀a,gp a a=0
 |[]=>rfl|x::a=>by simp[gp,yU a]
theorem Di:∀a b c,gp a b<0->gp b c<0->gp a c<0
 |[],[],_,h,_=>by simp[gp]at h|[],_::_,[],_,h=>by simp[gp]at h|[],_::_,_::_,_,_=>by simp[gp]|_::_,[],_,h,_=>by simp[gp]at h|_::_,_::_,[],_,h=>by simp[gp]at h|x::a,y::b,z::c,h1,B=>by have D:=Di a b c;simp only[gp]at h1 B⊢;split at h1;split at B;rw[if_pos Zaa];omega;split at B;omega;rw[if_pos Zaa];omega;split at h1;omega;split at B;rw[if_pos Zaa];omega;split at B;omega;rw[if_neg Zaa,if_neg Zaa];exact D h1 B
theorem Ae:∀a b,¬gp a b<0->¬gp b a<0->a=b
 |[],[],_,_=>rfl|[],_::_,h,_=>by simp[gp]at h|_::_,[],_,h=>by simp[gp]at h|x::a,y::b,h1,B=>by have D:=Ae a b;simp only[gp]at h1 B;split at h1;omega;split at B;omega;rw[D (by first|assumption|(split at h1<;>first|assumption|omega)) (by first|assumption|(split at B<;>first|assumption|omega)),show x=y from Zaa]
theorem Sd(a b c:R')(d:¬gp a b<0)(B:¬gp b c<0):¬gp a c<0:=λh=>by by_cases u:gp b a<0;exact B (Di b a c u h);rw[Ae a b d u]at h;exact B h
theorem UF{α:Type}{s:Sl α}{p:α->α->Pi}{f:α->R'}(hp:∀x y,x∈s.l->y∈s.l->p x y=some (gp (f x) (f y)))(U:s.l.length<2147483648):∃r,A9 s p=some r/\r.l.Perm s.l/\r.l.Pairwise λx y=>¬gp (f y) (f x)<0:=by
 unfold A9;split;next h=>exact⟨s,rfl,List.Perm.refl _,by rw[h];exact Pairwise.nil⟩
 rename_i x l h;rw[if_pos (by rw[h]at U;simp at U;omega)];simp only;have S:∀i j:_root_.Fin (l.length+1),p (x::l)[i.1] (x::l)[j.1]=some (gp (f (x::l)[i.1]) (f (x::l)[j.1])):=λi j=>hp _ _ (by rw[h];exact getElem_mem _) (by rw[h];exact getElem_mem _);have C:(qY λi j:_root_.Fin (l.length+1)=>p (x::l)[i.1] (x::l)[j.1])=λi j=>decide (gp (f (x::l)[i.1]) (f (x::l)[j.1])<0):=by funext i j;unfold qY;show decide ((p _ _).getD 0<0)=_;rw[S];rfl
 have D:De (λi j:_root_.Fin (l.length+1)=>p (x::l)[i.1] (x::l)[j.1])=true:=by have u:∀i j,qY (λi j:_root_.Fin (l.length+1)=>p (x::l)[i.1] (x::l)[j.1]) i j=decide (gp (f (x::l)[i.1]) (f (x::l)[j.1])<0):=λi j=>(by rw[C]);refine all_eq_true.2 λi _=>Bool.and_eq_true_iff.2 ⟨by rw[u,yU];rfl,all_eq_true.2 λj _=>Bool.and_eq_true_iff.2 ⟨by show(p _ _).isSome=true;rw[S];rfl,all_eq_true.2 λk _=>Bool.and_eq_true_iff.2 ⟨?_,?_⟩⟩⟩;have:=Di (f (x::l)[i.1]) (f (x::l)[j.1]) (f (x::l)[k.1]);rw[u,u,u];simp only[or_eq_true,not_eq_true',Bool.and_eq_false_iff,decide_eq_true_eq,decide_eq_false_iff_not];omega;have:=Sd (f (x::l)[i.1]) (f (x::l)[j.1]) (f (x::l)[k.1]);rw[u,u,u];simp only[or_eq_true,not_eq_true',decide_eq_true_eq,decide_eq_false_iff_not];omega
 rw[if_pos D];have G:=(rW D).2;have J:=Sort.pdq_sorts _ G (finRange (l.length+1)).toArray 0 (l.length+1) (Lib.bitLen (l.length+1)) true true (zero_le _) Zab (Or.inl rfl);rw[<-Ey]at J;generalize sJ l.length _=d at J;have⟨⟨z,_,w⟩,B⟩:=J;have z:d.size=l.length+1:=by simpa using z
 have I:∀y:aZ α,(s.re y).l=y:=λy=>by cases s<;>first|rfl|(simp[Sl.l]at h)
 refine⟨_,rfl,?_,?_⟩;rw[I,h];have a:d.extract 0 (l.length+1)=d:=Array.ext (by simp[z]) λi a L=>by simp
 rw[a]at w;have L:((finRange (l.length+1)).toArray.extract 0 (l.length+1)).toList=finRange (l.length+1):=by simp[List.take_of_length_le]
 rw[L]at w;refine(w.map _).trans ?_;rw[show(finRange (l.length+1)).map (λi=>(x::l)[i.1])=x::l from ?_];exact List.ext_getElem Zab λi a L=>Zab;rw[I,pairwise_map,List.pairwise_iff_getElem];intro i j hi O Q;have:=B i j (zero_le _) Q (by simpa[z]using O);rw[C]at this;simp only[Array.length_toList]at hi O;simp only[getElem!_pos d i hi,getElem!_pos d j O,decide_eq_false_iff_not]at this;simpa using this
def Hl(c:R'):R':=c.sum::c
def Is(c:R'):Prop:=c.length<=8/\∀x∈c,0<=x/\x<1073741824
theorem Uk{c:R'}(h:Is c)(i:Nat):0<=(c.take i).sum/\(c.take i).sum<=8589934592:=by
 have key:∀(l:R'),(∀x∈l,0<=x/\x<1073741824)->0<=l.sum/\l.sum<=1073741824*(l.length:Int):=by intro l;induction l with|nil=>intro _;simp|cons x l u=>intro h;have a:=h x Zab;have w:=u λy z=>h y (mem_cons_of_mem _ z);simp only[sum_cons,length_cons];omega
 have a:=key (c.take i) λx B=>h.2 x (mem_of_mem_take B);have w:(c.take i).length<=8:=by rw[length_take];have:=h.1;omega
 omega
theorem JS{c:R'}{i:Nat}(hi:i<c.length):(c.take (i+1)).sum=(c.take i).sum+c[i]:=by rw[List.take_succ_eq_append_getElem hi,List.sum_append];simp
theorem Q4{a b:R'}{i:Nat}(B:i<a.length)(D:i<b.length):gp (a.drop i) (b.drop i)=if a[i]<b[i]then -1 else if a[i]>b[i]then 1 else gp (a.drop (i+1)) (b.drop (i+1)):=by rw[drop_eq_getElem_cons B,drop_eq_getElem_cons D];rfl
def fF(x y:R'):Prop:=gp (Hl x) (Hl y)<0
instance(x y:R'):Decidable (fF x y):=by unfold fF;exact inferInstance
theorem fF.P9(x:R'):¬fF x x:=by unfold fF;rw[yU];omega
theorem fF.tr{x y z:R'}(h:fF x y)(k:fF y z):fF x z:=Di _ _ _ h k
theorem fF.tot{x y:R'}(h:¬fF x y)(k:¬fF y x):x=y:=by have:=Ae _ _ h k;unfold Hl at this;exact(List.cons.inj this).2
theorem fF.sum{x y:R'}(h:x.sum<y.sum):fF x y:=by unfold fF Hl;simp[gp,h]
theorem EJ:∀{l r:aZ R'},l.Pairwise fF->r.Pairwise fF->(∀x,x∈l↔x∈r)->l=r
 |[],[],_,_,_=>rfl|[],y::r,_,_,h=>by have:=(h y).2 Zab;simp at this|x::l,[],_,_,h=>by have:=(h x).1 Zab;simp at this|x::l,y::r,C,hr,h=>by have e:x=y:=(by rcases mem_cons.1 ((h x).1 Zab)with e|e;exact e;rcases mem_cons.1 ((h y).2 Zab)with k|k;exact k.symm;exact absurd (((pairwise_cons.1 hr).1 x e).tr ((pairwise_cons.1 C).1 y k)) (fF.P9 y));subst e;congr 1;have u:=pairwise_cons.1 C;have w:=pairwise_cons.1 hr;refine EJ u.2 w.2 λz=>⟨λB=>?_,λB=>?_⟩;rcases mem_cons.1 ((h z).1 (mem_cons_of_mem _ B))with e|e;exact absurd (e▸u.1 z B) (fF.P9 x);exact e;rcases mem_cons.1 ((h z).2 (mem_cons_of_mem _ B))with e|e;exact absurd (e▸w.1 z B) (fF.P9 x);exact e
theorem GR{t:Z4}{A:cz 200 bG}(b:Small t)(d:VT t){c:R'}(a:Cons t A c):Is c:=by
 refine⟨a.1.1▸d.few,λx z=>?_⟩;have⟨p,w,e⟩:=mem_iff_getElem.1 z;have u:p<t.procs.l.length:=by rw[<-a.1.1];exact w
 have:=a.1.2 p x _ (by rw[ζd w,e]) (ζd u);have k:=(b.2 _ (getElem_mem u)).1;omega
theorem fF.Lv{x y:R'}(h:x.sum=y.sum):fF x y↔gp x y<0:=by unfold fF Hl;simp only[gp,if_neg (show¬x.sum<y.sum by omega),if_neg (show¬x.sum>y.sum by omega)]
theorem fF.nodup{L:aZ R'}(h:L.Pairwise fF):L.Nodup:=h.imp λ{x y}(h:fF x y)(e:x=y)=>fF.P9 y (by rw[e]at h;exact h)
theorem PA{L:aZ R'}{c:R'}{j:Nat}(h:L.Pairwise fF)(d:∀(i:Nat)x,i<j->L[i]?=some x->fF x c)(D:∀x,L[j]?=some x->fF c x):
 (L.take j++[c]++L.drop j).Pairwise fF/\∀x,x∈L.take j++[c]++L.drop j↔x∈L\/x=c:=by
 have w:∀x∈L.take j,fF x c:=λx a=>by
  have⟨k,b,e⟩:=mem_iff_getElem.1 a;rw[length_take]at b;rw[List.getElem_take]at e;exact d k x Zaa (by rw[ζd Zaa,e])
 have u:∀x∈L.drop j,fF c x:=λx a=>by
  have⟨k,b,e⟩:=mem_iff_getElem.1 a;rw[List.length_drop]at b;rw[List.getElem_drop]at e;have B:j<L.length:=Zaa
  have k0:=D _ (ζd B)
  by_cases e0:k=0
  .subst e0;simp only[Nat.add_zero]at e;rw[<-e];exact k0
  rw[<-e];exact k0.tr (List.pairwise_iff_getElem.1 h j (j+k) B Zaa Zaa)
 refine⟨pairwise_append.2 ⟨pairwise_append.2 ⟨h.sublist (List.take_sublist _ _),List.pairwise_singleton _ _,λx a y z=>?_⟩,h.sublist (List.drop_sublist _ _),λx a y z=>?_⟩,λx=>?_⟩
 .rw[mem_singleton.1 z];exact w x a
 .rcases mem_append.1 a with a|a
  .exact(w x a).tr (u y z)
  rw[mem_singleton.1 a];exact u y z
 conv=>rhs;rw[<-take_append_drop j L]
 simp only[mem_append,mem_singleton];constructor
 .rintro ((h|h)|h)<;>simp[h]
 rintro((h|h)|h)<;>simp[h]
theorem T3{α:Type}{s:Sl α}{p:α->α->a_ X'}{f:α->R'}(hp:∀x y,x∈s.l->y∈s.l->p x y=some (decide (f x=f y)))(g:s.l.length<2147483648)(Y:s.l.Pairwise λx y=>¬gp (f y) (f x)<0):
 ∃r,zO s p=some r/\(r.l.map f).Nodup/\(∀d,d∈r.l.map f↔d∈s.l.map f)/\r.l.length<=s.l.length:=by
 have Q:∀i,i<s.l.length->0<i->∃(a:i<s.l.length)(O:i-1<s.l.length),vf s.l p i=some (decide (f s.l[i]=f s.l[i-1])):=λi h k=>by refine⟨h,Zaa,?_⟩;unfold vf;rw[ζd h,ζd (show i-1<s.l.length by omega)];exact hp _ _ (getElem_mem _) (getElem_mem _)
 unfold zO;rw[if_pos ⟨Zaa,all_eq_true.2 λi hi=>by
  by_cases h:i=0
  .subst h;rfl
  have⟨_,_,e⟩:=Q i (mem_range.1 hi) Zaa
  rw[e];simp⟩]
 have B:∀y:aZ α,(s.l=[]->y=[])->(s.u6 y).l=y:=λy z=>by cases s<;>first|rfl|exact(z rfl).symm
 have S:∀i,i∈kept (λi=>(vf s.l p i).getD false) s.l.length↔i<s.l.length/\(i=0\/(vf s.l p i).getD false=false):=λi=>by unfold kept;simp[List.mem_filter]
 have C:=C0 (λi=>(vf s.l p i).getD false) s.l.length
 have T:(kept (λi=>(vf s.l p i).getD false) s.l.length).Pairwise (·<·):=by unfold kept;exact List.pairwise_lt_range.filter _
 generalize kept (λi=>(vf s.l p i).getD false) s.l.length=K at *
 have w:(s.u6 (K.filterMap (s.l[·]?))).l=K.filterMap (s.l[·]?):=B _ λh=>by rw[h];simp
 refine⟨_,rfl,?_,λd=>?_,?_⟩
 .rw[w,Nodup,pairwise_map,List.pairwise_filterMap];refine T.imp_of_mem ?_;intro i j hi Z l x u y z D;have⟨U,G⟩:=(S j).1 Z;have⟨a,O,e⟩:=Q j U Zaa
  rw[e]at G;have W:¬f s.l[j]=f s.l[j-1]:=by rcases G with h|h;omega;simpa using h
  rw[ζd a]at z;cases z;have I:i<s.l.length:=Zaa
  rw[ζd I]at u;cases u;have J:=List.pairwise_iff_getElem.1 Y;have a1:=J (j-1) j O a Zaa
  refine W (Ae _ _ a1 ?_)
  by_cases e2:i=j-1
  .subst e2;rw[<-D,yU];omega
  have a2:=J i (j-1) I O Zaa
  rw[D]at a2;exact a2
 .rw[w];simp only[mem_map,List.mem_filterMap];constructor
  .rintro⟨x,⟨i,_,u⟩,rfl⟩;exact⟨x,mem_of_getElem? u,rfl⟩
  rintro⟨x,u,rfl⟩;have⟨i,hi⟩:=List.mem_iff_getElem?.1 u;have key:∀(i:Nat)x,s.l[i]?=some x->∃y,(∃j,j∈K/\s.l[j]?=some y)/\f y=f x:=by intro i;induction i with|zero=>intro x u;exact⟨x,⟨0,(S 0).2 ⟨(ζe.1 u).1,.inl rfl⟩,u⟩,rfl⟩|succ i ih=>intro x u;have L:=(ζe.1 u).1;have⟨a,O,e⟩:=Q (i+1) L Zaa;have X:s.l[i+1]=x:=(ζe.1 u).2;by_cases b:f s.l[i+1]=f s.l[i+1-1];have⟨y,z,c⟩:=ih _ (ζd (show i<s.l.length by omega));exact⟨y,z,by rw[c,<-X];exact b.symm⟩;exact⟨x,⟨i+1,(S _).2 ⟨L,.inr (by rw[e];simpa using b)⟩,u⟩,rfl⟩
  exact key i x hi
 rw[w];exact Nat.le_trans (List.length_filterMap_le ..) C
theorem N8{a b:Zg}(J:a.l.length<1073741824):kM a b=some (gp a.l b.l):=by
 refine Wp.eq ?_;unfold kM fQ fQ.W1;rw[eM];refine eS a.l.length (λn s=>s=(n:Int)/\n<=b.l.length/\gp (a.l.drop n) (b.l.drop n)=gp a.l b.l) ⟨rfl,zero_le _,rfl⟩ ?_ ?_;rintro n _ w ⟨rfl,C,u⟩;unfold fQ.br;rw[jL w,bD,bJ w,ζb];have hd:a.l.drop n=a.l[n]::a.l.drop (n+1):=drop_eq_getElem_cons w;by_cases D:n<b.l.length;have G:b.l.drop n=b.l[n]::b.l.drop (n+1):=drop_eq_getElem_cons D;rw[show decide ((n:Int)>=len b)=false from by simp[len];omega,bu,bJ D,ζb];rw[hd,G]at u;simp only[gp]at u;generalize a.l[n]=x at *;generalize b.l[n]=y at *;have z:q9 x y=some (if x<y then -1 else if x>y then 1 else 0):=by unfold q9 tD;simp only[bne_self_eq_false,ζb,bu,bD];by_cases c:x<y;simp[c,bl];by_cases B:x>y;simp[c,B,bl];simp[c,B,bl]
 rw[z,ζb];by_cases c:x<y;rw[if_pos c]at u⊢;rw[show((-1:Int)==0)=false from rfl,bu,bg];exact(bg _).2 ((bg _).2 u);rw[if_neg c]at u⊢;by_cases B:x>y;rw[if_pos B]at u⊢;rw[show((1:Int)==0)=false from rfl,bu,bg];exact(bg _).2 ((bg _).2 u);rw[if_neg B]at u⊢;rw[show((0:Int)==0)=true from rfl,bD,bg];exact⟨cH n Zaa,D,u⟩;rw[show decide ((n:Int)>=len b)=true from by simp[len];omega,bD,bg];rw[hd,List.drop_eq_nil_of_le (show b.l.length<=n by omega)]at u;exact(bg _).2 ((bg _).2 u);rintro _ ⟨rfl,C,u⟩;unfold fQ.br;rw[ji,bu,bg];rw[List.drop_eq_nil_of_le (le_refl _)]at u;by_cases h:a.l.length<b.l.length;rw[show decide (len a<len b)=true from by simp[len];omega,bD];rw[drop_eq_getElem_cons h]at u;exact(bg _).2 ((bg _).2 u);rw[show decide (len a<len b)=false from by simp[len];omega,bu];rw[List.drop_eq_nil_of_le (show b.l.length<=a.l.length by omega)]at u;exact(bg _).2 ((bg _).2 u)
theorem Ul{a b:Zg}(D:a.l.length<1073741824):f_ a b=some (decide (a.l=b.l)):=by
 refine Wp.eq ?_;unfold f_;rw[cq];refine⟨λh=>?_,λh=>(bg _).2 ?_⟩;have h:(a.l.length:Int)=b.l.length:=by simpa[len]using h
 have h:a.l.length=b.l.length:=Zaa;unfold f_.W1;refine eS a.l.length (λn s=>s=(n:Int)/\∀i,i<n->a.l[i]?=b.l[i]?) ⟨rfl,λi h=>absurd h Zaa⟩ ?_ ?_;rintro n _ u ⟨rfl,z⟩;unfold f_.br;have B:n<b.l.length:=by omega
 rw[show decide ((n:Int)<len a)=true from jL u,bD,bJ u,ζb,bJ B,ζb,cq];refine⟨λw=>(bg _).2 ⟨cH n Zaa,λi hi=>?_⟩,λw=>(bg _).2 ((bg _).2 ?_)⟩;by_cases e:i=n;subst e;rw[ζd u,ζd B];simpa using w;exact z i Zaa;refine(decide_eq_false λe=>?_).symm;have c:a.l[n]?=b.l[n]?:=by rw[e]
 rw[ζd u,ζd B]at c;simp at w c;exact w c;rintro _ ⟨rfl,z⟩;unfold f_.br;rw[ji,bu,bg];refine(bg _).2 (decide_eq_true (ext_getElem? λi=>?_)).symm;by_cases hi:i<a.l.length;exact z i hi;rw[getElem?_eq_none Zaa,getElem?_eq_none Zaa];refine(decide_eq_false λe=>?_).symm;simp[len,e]at h
section
variable{t:Z4}{A:cz 200 bG}
def wA(A:cz 200 bG)(e:WF):bf:=if e.kind=3 then(ag A e.message).from_ else⟨0,0⟩
structure Va(t:Trace)(A:cz 200 bG)(n:Nat)(m:cE):Prop where
 lens:m.lengths.l=(t.procs.l.take n).map λP=>(P.events.l.length:Int)
 need:m.need.l.map Sl.l=(t.procs.l.take n).map λP=>P.events.l.map (wA A)
theorem of_wp(d:Small t)(h:cI t=some true)(f:VT t)(g:fR t (bQ t) A):Wp (lJ t) (Va t A t.procs.l.length):=by
 have Y:=f.few;unfold lJ lJ.W1;refine eS t.procs.l.length (λn s=>s.1=(n:Int)/\s.2.1=t/\Va t A n s.2.2.2) ⟨rfl,rfl,rfl,rfl⟩ ?_ ?_;rintro n ⟨_,_,Z,I⟩ z ⟨a,B,u⟩;simp only at a B u;subst a;have B:=B.symm;subst B;unfold lJ.br;rw[jL z,bD,bJ z,ζb];have O:=ζd z;have H:=(d.2 _ (getElem_mem z)).1;generalize K:t.procs.l[n]=P at *;unfold lJ.W2;refine eS P.events.l.length (λk s=>s.2.1=(k:Int)/\s.2.2.1=t/\s.2.2.2.2=I/\s.1.l=(P.events.l.take k).map (wA A)) ⟨rfl,rfl,rfl,rfl⟩ ?_ ?_;rintro k ⟨nd,_,_,T,_⟩ c ⟨Q,C,D,L⟩;simp only at Q C D L;subst Q;have C:=C.symm;have D:=D.symm;subst C D;unfold lJ.bV;rw[jL c,bD,bJ c,ζb];have U:mV t n k P.events.l[k]:=⟨P,O,ζd c⟩;have G:P.events.l.take (k+1)=P.events.l.take k++[P.events.l[k]]:=by rw[take_add_one,ζd c];rfl
 generalize P.events.l[k]=e at *;have fin:∀id,id=wA A e->Wp (lJ.J3 nd t.procs (len t.procs) n P.events (len P.events) k t ⟨Sl.nil,Sl.nil⟩ I P id) λw=>match w with|.n S=>S.2.1=((k+1:Nat):Int)/\S.2.2.1=t/\S.2.2.2.2=I/\S.1.l=(P.events.l.take (k+1)).map (wA A)|.x e=>False|.r b=>False:=λid W=>by unfold lJ.J3;have⟨r,i,l⟩:=nM (s:=nd) (x:=id) (by rw[L];simp;omega);rw[i,ζb,bg];exact⟨cH k Zaa,rfl,rfl,by rw[l,L,G,map_append,W];rfl⟩
 rw[cq];constructor;intro u;have u:e.kind=3:=by simpa using u
 have⟨q,j,y,m,o,p,y3,y4,y5⟩:=Eh f g U u;have X:=IV d h g (eo.2 ⟨q,j,m,rfl⟩:((⟨q,j+1⟩:bf),y)∈bQ t) o;simp only at X;rw[p]at X;rw[X,ζb];refine(fin _ (by unfold wA;rw[if_pos u,y5])).mono λw J=>?_;cases w with|n s=>exact J|x e=>exact J.elim|r b=>exact J.elim
 intro u;have u:¬e.kind=3:=by simpa using u
 refine(fin _ (by unfold wA;rw[if_neg u])).mono λw J=>?_;cases w with|n s=>exact J|x e=>exact J.elim|r b=>exact J.elim
 rintro⟨nd,_,_,T,_⟩ ⟨Q,C,D,L⟩;simp only at Q C D L;subst Q;have C:=C.symm;have D:=D.symm;subst C D;unfold lJ.bV;have M:I.lengths.l.length=n:=by rw[u.lens];simp;omega
 have N:I.need.l.length=n:=by have:=congrArg length u.need;simp at this;omega
 have⟨v,a1,a2⟩:=nM (s:=I.lengths) (x:=len P.events) Zaa;have⟨x2,E,F⟩:=nM (s:=I.need) (x:=nd) Zaa;rw[ji,bu,bg];simp only;rw[a1,ζb,E,ζb,bg];have G:t.procs.l.take (n+1)=t.procs.l.take n++[P]:=by rw[take_add_one,O];rfl
 refine⟨cH n Zaa,rfl,?_,?_⟩;show v.l=_;rw[a2,u.lens,G,map_append];rfl;show x2.l.map Sl.l=_;rw[F,map_append,u.need,G,map_append,map_cons,L,take_length];rfl;rintro⟨_,_,Z,I⟩ ⟨a,B,u⟩;simp only at a B u;subst a;have B:=B.symm;subst B;unfold lJ.br;rw[ji,bu,bg];exact(bg _).2 u
theorem UC(f:VT t)(g:fR t (bQ t) A){m:cE}(n:Va t A t.procs.l.length m){c:Zg}(d:Cons t A c.l){p:Nat}(hp:p<t.procs.l.length):
 Wp (qt m c p) λb=>(b=true↔∃a,c.l[p]?=some a/\Cons t A (c.l.set p (a+1))):=by
 have V:=d.1.1;have u:=ζd hp;have⟨a,w⟩:=d.1.at_ hp;have F:=d.1.2 p a _ w u;generalize t.procs.l[p]=P at *;have D:m.lengths.l[p]?=some (P.events.l.length:Int):=by rw[n.lens,take_length,getElem?_map,u];rfl
 have J:=(ζe.1 w).1;have L:idx c (p:Int)=some a:=by rw[iI];exact w
 unfold qt;rw[L,ζb,iI,D,ζb,cq];constructor
 .intro h;have h:a=P.events.l.length:=by simpa using h
  refine(bg _).2 ⟨λh=>(by cases h),λ⟨b,B,O⟩=>?_⟩
  rw[w]at B;cases B;have:=O.1.2 p (a+1) P (by simp[J]) u
  omega
 intro h;have h:¬a=P.events.l.length:=by simpa using h
 have S:a<P.events.l.length:=Zaa
 have o:=congrArg (λl=>l[p]?) n.need
 simp only[take_length,getElem?_map,u,Option.map_some]at o;have⟨nd,T,U⟩:=ζf.1 o;have z:a.toNat<P.events.l.length:=Zaa
 have H:idx nd a=some (wA A P.events.l[a.toNat]):=by rw[SS F.1,U,getElem?_map,ζd z];rfl
 rw[iI,T,ζb,ζb,H,ζb];have W:=d.up f g u w S;have G:(∃b,c.l[p]?=some b/\Cons t A (c.l.set p (b+1)))↔SP t A c.l p:=by rw[W];exact⟨λ⟨b,B,k⟩=>by rw[w]at B;cases B;exact k,λk=>⟨a,w,k⟩⟩
 rw[G];have X:mV t p a.toNat P.events.l[a.toNat]:=⟨P,u,ζd z⟩;have Y:SP t A c.l p↔(P.events.l[a.toNat].kind=3->∃b,c.l[(ag A P.events.l[a.toNat].message).from_.proc.toNat]?=some b/\(ag A P.events.l[a.toNat].message).from_.index<=b):=⟨λ⟨Q,e,x,r,v,C,K⟩=>by rw[u]at r;cases r;rw[w]at v;cases v;rw[ζd z]at C;cases C;exact K,λh=>⟨P,_,a,u,w,ζd z,h⟩⟩
 rw[Y];generalize P.events.l[a.toNat]=e at *;unfold wA
 by_cases C:e.kind=3
 .rw[if_pos C];have⟨q,j,M,_,_,y,Q,N,_⟩:=A_ f g X C;have Z:q<c.l.length:=by have:=(ζe.1 N).1;omega
  rw[M];simp only[toNat_natCast];rw[bJ Z,ζb,bg];simp only[decide_eq_true_eq];exact⟨λh _=>⟨_,ζd Z,h⟩,λh=>by have⟨b,B,R⟩:=h C;rw[ζd Z]at B;cases B;exact R⟩
 rw[if_neg C];have E:0<c.l.length:=Zaa
 have I:=d.1.pos 0 _ (ζd E);have hi:idx c ((⟨0,0⟩:bf).proc)=some c.l[0]:=bJ (s:=c) (i:=0) E;rw[hi,ζb,bg];exact⟨λ_ h=>absurd h C,λ_=>by simpa using I⟩
end
theorem HS{α:Type}:∀l:aZ α,(range l.length).filterMap (l[·]?)=l
 |[]=>rfl|x::l=>by rw[length_cons,List.range_succ_eq_map,List.filterMap_cons,List.filterMap_map];show x::(range l.length).filterMap (λi=>(x::l)[i+1]?)=_;simp only[List.getElem?_cons_succ];rw[HS l]
theorem Ww{α:Type}{s r:Sl α}{p:α->α->a_ X'}(h:zO s p=some r):r.l.Sublist s.l:=by
 unfold zO at h;split at h
 .cases h;have key:((kept (λi=>(vf s.l p i).getD false) s.l.length).filterMap (s.l[·]?)).Sublist s.l:=by
   have e:=HS s.l
   conv=>rhs;rw[<-e]
   exact List.Sublist.filterMap _ (by unfold kept;exact List.filter_sublist)
  generalize(kept (λi=>(vf s.l p i).getD false) s.l.length).filterMap (s.l[·]?)=y at *
  cases s<;>first|exact key|(simp[Sl.u6,Sl.l])
 cases h
theorem tU{c:Zg}(B:c.l.length<=1073741824)(a:0<c.l.length):∃d,(ey c).bind Sl.whole=some d/\d.l=c.l:=by
 unfold ey;have key:((oV (Sl.row []:Zg) c).bind λx=>some x).bind Sl.whole=some (.row ([]++c.l)):=by unfold oV;rw[if_neg (λh=>by rw[h]at a;simp at a),if_pos (show(Sl.row ([]:R')).l.length+c.l.length<=2147483648 from show 0+c.l.length<=_ by omega)];rfl
 cases c with|nil=>simp[Sl.l]at a|emp=>simp[Sl.l]at a|part l=>exact⟨_,key,rfl⟩|row l=>exact⟨_,key,rfl⟩
section
variable{t:Z4}{A:cz 200 bG}
theorem Uh(K:Small t)(l:VT t)(v:fR t (bQ t) A){m:cE}(M:Va t A t.procs.l.length m){k:Nat}{B:Zb}(W:Bk t A k B)(V:B.l.length<=5000):
 Wp (eY m B) λr=>Bk t A (k+1) r/\(ins r).Nodup/\r.l.length<=40000/\(ins r).Pairwise λx y=>¬gp y x<0:=by
 have ad:=l.few;unfold eY eY.W1;refine eS B.l.length (λn s=>s.2.1=len B/\s.2.2=(n:Int)/\s.1.l.length<=8*n/\∀d,d∈ins s.1↔∃c∈(B.l.take n).map Sl.l,DS t A c d) ⟨rfl,rfl,zero_le _,λd=>by simp[ins,Sl.l]⟩ ?_ ?_
 .rintro n ⟨out,_,_⟩ w ⟨e1,e2,g1,g2⟩;simp only at e1 e2 g1 g2;subst e1 e2;have L:=(W B.l[n].l).1 (qM.2 ⟨_,getElem_mem w,rfl⟩);unfold eY.br;rw[jL w,bD,bJ w,ζb];have O:∀d,d∈(B.l.take (n+1)).map Sl.l↔d∈(B.l.take n).map Sl.l\/d=B.l[n].l:=λd=>yz w
  generalize B.l[n]=c at *;have ae:=L.1.1.1;have aa:=l.ok.one;unfold eY.W2;refine eS c.l.length (λj s=>s.2=(j:Int)/\s.1.l.length<=8*n+j/\∀d,d∈ins s.1↔d∈ins out\/∃(p:Nat)(a:Int),p<j/\c.l[p]?=some a/\d=c.l.set p (a+1)/\Cons t A d) ⟨rfl,g1,λd=>⟨.inl,λh=>h.elim id λ⟨p,a,h,_⟩=>absurd h Zaa⟩⟩ ?_ ?_
  .rintro j ⟨o2,_⟩ T ⟨e,o,i⟩;simp only at e o i;subst e;unfold eY.bV;rw[show decide ((j:Int)<len c)=true from jL T,bD,eM];refine(UC l v M L.1 (p:=j) Zaa).mono λb E=>?_
   have u:=ζd T;have hr:=L.1.1.2 j _ _ u (ζd (show j<t.procs.l.length by omega))
   have af:=(K.2 _ (getElem_mem (show j<t.procs.l.length by omega))).1
   generalize c.l[j]=a at *;have more:∀o3:Zb,(∀d,d∈ins o3↔d∈ins o2\/d=c.l.set j (a+1)/\Cons t A d)->∀d,d∈ins o3↔d∈ins out\/∃(p:Nat)(a:Int),p<j+1/\c.l[p]?=some a/\d=c.l.set p (a+1)/\Cons t A d:=λo3 h d=>by rw[h,i];constructor;rintro((h|⟨p,b,h,k⟩)|⟨h,k⟩);exact .inl h;exact .inr ⟨p,b,Zaa,k⟩;exact .inr ⟨j,a,Zaa,u,h,k⟩;rintro(h|⟨p,b,h,k1,k2,k3⟩);exact .inl (.inl h);by_cases e:p=j;subst e;rw[u]at k1;cases k1;exact .inr ⟨k2,k3⟩;exact .inl (.inr ⟨p,b,Zaa,k1,k2,k3⟩)
   rw[cq];constructor
   .intro ht;have⟨x,C,X⟩:=E.1 ht;rw[u]at C;cases C;have⟨d,hd,z⟩:=tU (c:=c) Zaa Zaa
    have⟨N,Y,Q⟩:=put_eq (s:=d) (p:=j) (x:=a+1) (by rw[z];exact T)
    have⟨o3,Z,D⟩:=nM (s:=o2) (x:=N) Zaa
    have P:Sl.get d j=some a:=by unfold Sl.get;rw[z];exact u
    rw[hd,ζb,oF (by rw[z];exact T),ζb,P,ζb,ζb,eF _ Zaa Zaa,Y,ζb,Z,ζb,bg]
    refine⟨cH j Zaa,by rw[D];simp;omega,more o3 λe=>?_⟩
    rw[Nb D,Q,z];exact⟨λh=>h.elim .inl λh=>.inr ⟨h,by rw[h];exact X⟩,λh=>h.elim .inl λh=>.inr h.1⟩
   intro F;refine(bg _).2 ⟨cH j Zaa,Nat.le_succ_of_le o,more o2 λd=>⟨.inl,λh=>h.elim id λ⟨q,U⟩=>?_⟩⟩
   rw[E.2 ⟨a,u,by rw[<-q];exact U⟩]at F;cases F
  rintro⟨o2,_⟩ ⟨e,o,i⟩;simp only at e o i;subst e;unfold eY.bV;rw[ji,bu,bg];refine(bg _).2 ⟨rfl,cH n Zaa,show o2.l.length<=_ by omega,λd=>?_⟩
  rw[i];constructor
  .rintro (h|⟨p,a,_,h⟩)
   .have⟨c',g,G⟩:=(g2 d).1 h;exact⟨c',(O c').2 (.inl g),G⟩
   exact⟨_,(O _).2 (.inr rfl),p,a,h⟩
  rintro⟨c',g,G⟩;rcases(O c').1 g with h|h
  .exact .inl ((g2 d).2 ⟨c',h,G⟩)
  subst h;have⟨p,a,h⟩:=G;exact .inr ⟨p,a,(ζe.1 h.1).1,h⟩
 rintro⟨out,_,_⟩ ⟨e1,e2,g1,g2⟩;simp only at e1 e2 g1 g2;subst e1 e2;unfold eY.br;rw[ji,bu,bg];simp only;have I:Bk t A (k+1) out:=λd=>by rw[g2,take_length,<-DS.iff l v (k:=k)];exact⟨λ⟨c,g,G⟩=>⟨c,(W c).1 g,G⟩,λ⟨c,g,G⟩=>⟨c,(W c).2 g,G⟩⟩
 have J:∀s:Zb,(∀d,d∈ins s↔d∈ins out)->∀x∈s.l,x.l.length<1073741824:=λs h x C=>by have:=((I x.l).1 ((h x.l).1 (qM.2 ⟨x,C,rfl⟩))).1.1.1;omega
 have⟨r1,q,p1,H⟩:=UF (s:=out) (p:=kM) (f:=Sl.l) (λx y C _=>N8 (J out (λ_=>Iff.rfl) x C)) Zaa
 have S:∀d,d∈ins r1↔d∈ins out:=λd=>(p1.map Sl.l).mem_iff
 have ab:r1.l.length=out.l.length:=p1.length_eq;have⟨r2,U,nd,R,l2⟩:=T3 (s:=r1) (p:=mC) (f:=Sl.l) (λx y C _=>by unfold mC;rw[Ul (J r1 S x C)];rfl) Zaa H
 rw[q,ζb,U,ζb,bg];exact⟨λd=>(R d).trans ((S d).trans (I d)),nd,Zaa,by unfold ins;rw[pairwise_map];exact H.sublist (Ww U)⟩
end
theorem Iw{c:Zg}(h:Is c.l):ir c=some c.l.sum:=by refine Wp.eq ?_;have u:=h.1;unfold ir ir.W1;refine eS c.l.length (λi(q:Int×Int)=>q.2=(i:Int)/\q.1=(c.l.take i).sum) ⟨rfl,rfl⟩ ?_ ?_;rintro i ⟨m,_⟩ hi ⟨e,a⟩;simp only at e a;subst e;subst a;unfold ir.br;rw[jL hi,bD,bJ hi,ζb,bg];have k:=Uk h (i+1);rw[JS hi]at k;exact⟨cH i Zaa,by rw[JS hi];exact eF _ Zaa Zaa⟩;rintro⟨m,_⟩ ⟨e,a⟩;simp only at e a;subst e;subst a;unfold ir.br;rw[ji,bu,bg];exact(bg _).2 Zac
theorem Me{a b:Zg}(B:Is a.l)(D:Is b.l)(G:a.l.length=b.l.length):iH a b=some (decide (fF a.l b.l)):=by
 have w:=B.1;unfold iH;rw[Iw B,ζb,Iw D,ζb];by_cases e:a.l.sum=b.l.sum;rw[show(a.l.sum==b.l.sum)=true from Zac,bD];refine Wp.eq ?_;unfold iH.W1;refine eS a.l.length (λi(q:Int)=>q=(i:Int)/\gp (a.l.drop i) (b.l.drop i)=gp a.l b.l) ⟨rfl,rfl⟩ ?_ ?_;rintro i _ hi ⟨rfl,h⟩;have u:i<b.l.length:=by omega
 unfold iH.br;rw[jL hi,bD,bJ hi,ζb,bJ u,ζb];rw[Q4 hi u]at h;by_cases e2:a.l[i]=b.l[i];rw[show(a.l[i]==b.l[i])=true from Zac,bD,bg];rw[if_neg Zaa,if_neg Zaa]at h;exact⟨cH i Zaa,h⟩;rw[show(a.l[i]==b.l[i])=false from Zac,bu,ζb,ζb,bg];refine(bg _).2 ?_;have hd:decide (fF a.l b.l)=decide (gp a.l b.l<0):=decide_eq_decide.2 (fF.Lv e);grind;rintro _ ⟨rfl,h⟩;unfold iH.br;rw[ji,bu,bg];refine(bg _).2 ?_;have hd:decide (fF a.l b.l)=decide (gp a.l b.l<0):=decide_eq_decide.2 (fF.Lv e);rw[hd];rw[drop_of_length_le (le_refl _),drop_of_length_le Zaa]at h;rw[<-h];rfl;rw[show(a.l.sum==b.l.sum)=false from Zac,bu,ζb,ζb];congr 1;refine decide_eq_decide.2 ?_;unfold fF Hl;by_cases k:a.l.sum<b.l.sum;simp[gp,k];simp[gp,k,show a.l.sum>b.l.sum by omega]
theorem Rn{a b:Zg}(D:a.l.length<1073741824):fV a b=some (decide (a.l=b.l)):=by
 refine Wp.eq ?_;unfold fV;rw[cq];refine⟨λh=>?_,λh=>(bg _).2 ?_⟩;have h:(a.l.length:Int)=b.l.length:=by grind
 have h:a.l.length=b.l.length:=Zaa;unfold fV.W1;refine eS a.l.length (λn s=>s=(n:Int)/\∀i,i<n->a.l[i]?=b.l[i]?) ⟨rfl,λi h=>absurd h Zaa⟩ ?_ ?_;rintro n _ u ⟨rfl,w⟩;unfold fV.br;have z:n<b.l.length:=by omega
 rw[jL u,bD,bJ u,ζb,bJ z,ζb,cq];refine⟨λB=>(bg _).2 ⟨cH n Zaa,λi hi=>?_⟩,λB=>(bg _).2 ((bg _).2 ?_)⟩;grind;grind;rintro _ ⟨rfl,w⟩;unfold fV.br;rw[ji,bu,bg];refine(bg _).2 (decide_eq_true (ext_getElem? λi=>?_)).symm;grind;grind
theorem jT(s:Zb):(ins s).length=s.l.length:=by unfold ins;simp
theorem XQ(s:Zb)(i:Nat):(ins s)[i]?=(s.l[i]?).map Sl.l:=by unfold ins;grind
theorem u7{s:Zb}{i:Nat}(h:i<s.l.length):(ins s)[i]?=some s.l[i].l:=by rw[XQ,ζd h];rfl
theorem Mn{l:Zb}{c:Zg}(Y:∀x∈l.l,Is x.l/\x.l.length=c.l.length)(b:Is c.l)(v:l.l.length<1073741824)(f:(ins l).Pairwise fF):
 Wp (iD l c) λr=>r.l.length<=l.l.length+1/\(ins r).Pairwise fF/\∀d,d∈ins r↔d∈ins l\/d=c.l:=by
 have Z:=b.1;have a:∀n:Nat,n<=l.l.length->(∀(i:Nat)x,i<n->(ins l)[i]?=some x->fF x c.l)->(∀x,(ins l)[n]?=some x->¬fF x c.l)->
  Wp ((bl (decide ((n:Int)<(len l))) ((idx l n).bind λO=>(fV O c).bind λQ=>some Q) (some false):a_ X').bind λS=>
  bl S (some l) ((gu l none (some (n:Int))).bind λB=>(oV (Sl.row []:Zb) B).bind λC=>(gm C (c:Zg)).bind λD=>(gu l (some (n:Int)) none).bind λG=>(oV D G).bind λI=>some I))
  λr=>r.l.length<=l.l.length+1/\(ins r).Pairwise fF/\∀d,d∈ins r↔d∈ins l\/d=c.l:=by
  intro n J T U;have z:(∀x,(ins l)[n]?=some x->x≠c.l)->Wp ((gu l none (some (n:Int))).bind λB=>(oV (Sl.row []:Zb) B).bind λC=>(gm C (c:Zg)).bind λD=>(gu l (some (n:Int)) none).bind λG=>(oV D G).bind λI=>some I) λr=>r.l.length<=l.l.length+1/\(ins r).Pairwise fF/\∀d,d∈ins r↔d∈ins l\/d=c.l:=by intro W;have⟨x4,g,e4⟩:=uf l n J;have y:x4.l.length<=l.l.length:=Zac;have⟨x5,j,e5⟩:=CL (s:=(Sl.row []:Zb)) (x:=x4) (show 0+x4.l.length<=_ by omega);have e5:x5.l=x4.l:=e5;have⟨x6,m,e6⟩:=nM (s:=x5) (x:=c) Zac;have⟨x7,o,e7⟩:=zy l n J;have⟨x8,Z,A⟩:=CL (s:=x6) (x:=x7) Zac;rw[g,ζb,j,ζb,m,ζb,o,ζb,Z,ζb,bg];have e:x8.l=l.l.take n++[c]++l.l.drop n:=Zad;have p:ins x8=(ins l).take n++[c.l]++(ins l).drop n:=(by unfold ins;simp_all);have⟨E,F⟩:=PA f T λx u=>(by by_cases k:fF c.l x;omega;exact absurd (fF.tot k (U x u)).symm (W x u));exact⟨by rw[e];simp;omega,by rw[p];omega,λd=>Zad⟩
  by_cases h:n<l.l.length
  .rw[jL h,bD,bJ h,ζb,Rn (by have:=(Y _ (getElem_mem h)).1.1;omega),ζb,ζb]
   by_cases e:l.l[n].l=c.l
   .rw[decide_eq_true e,bD,bg];refine⟨Zaa,f,λd=>⟨.inl,λX=>X.elim id λX=>?_⟩⟩
    rw[X,<-e];exact qM.2 ⟨_,getElem_mem h,rfl⟩
   rw[decide_eq_false e,bu];exact z λx u=>by rw[u7 h]at u;cases u;exact e
  rw[show(n:Int)=(l.l.length:Nat)from Zaa,ji,bu,ζb,bu,<-show(n:Int)=(l.l.length:Nat)from Zaa]
  exact z λx u=>by have:=(ζe.1 u).1;rw[jT]at this;omega
 unfold iD iD.W1;refine eS l.l.length (λn s=>s=(n:Int)/\∀(i:Nat)x,i<n->(ins l)[i]?=some x->fF x c.l) ⟨rfl,λi x h=>absurd h Zaa⟩ ?_ ?_
 .rintro n _ w ⟨rfl,L⟩;have⟨q,t⟩:=Y _ (getElem_mem w);unfold iD.br;rw[jL w,bD,bJ w,ζb,Me q b t,ζb,ζb]
  by_cases e:fF l.l[n].l c.l
  .rw[decide_eq_true e,bD,bg];refine⟨cH n Zaa,λi x hi u=>?_⟩
   by_cases e2:i=n
   .subst e2;rw[u7 w]at u;cases u;exact e
   exact L i x Zaa u
  rw[decide_eq_false e,bu,bg];exact a n Zaa L λx u=>by rw[u7 w]at u;cases u;exact e
 rintro _ ⟨rfl,L⟩;unfold iD.br;rw[ji,bu,ζb,bu,bg];exact a _ (le_refl _) L λx u=>by have:=(ζe.1 u).1;rw[jT]at this;omega
section
variable{t:Z4}{A:cz 200 bG}
structure ec(t:Trace)(A:cz 200 bG)(L:List (List Int)):Prop where
 srt:L.Pairwise fF
 mem:∀d,d∈L↔Cons t A d
def C6(t:Z4)(A:cz 200 bG):Prop:=∃L:aZ R',L.Nodup/\(∀d∈L,Cons t A d)/\5000<L.length
theorem ec.one{L R:aZ R'}(h:ec t A L)(k:ec t A R):L=R:=EJ h.srt k.srt λx=>(h.mem x).trans (k.mem x).symm
theorem ec.not{L:aZ R'}(h:ec t A L)(B:L.length<=5000)(k:C6 t A):False:=by have⟨R,nd,w,u⟩:=k;have:=AS nd λx z=>(h.mem x).2 (w x z);omega
theorem IN{k:Nat}{o l:aZ R'}(c:∀d,d∈l↔Cons t A d/\d.sum=(k:Int))(B:l.Pairwise fF)(D:o.Pairwise fF)(G:∀d,d∈o↔Cons t A d/\d.sum<(k:Int)):
 (o++l).Pairwise fF/\∀d,d∈o++l↔Cons t A d/\d.sum<((k+1:Nat):Int):=by
 refine⟨pairwise_append.2 ⟨D,B,λa u b w=>fF.sum Zac⟩,λd=>?_⟩
 grind
theorem QK(E:Small t)(i:VT t)(o:fR t (bQ t) A):Wp (fm t) λr=>(r.2=true/\ec t A (ins r.1)/\r.1.l.length<=5000)\/(r.2=false/\r.1=.nil/\C6 t A):=by
 have Y:=i.few;unfold fm o_;rw[if_pos ⟨Zad,Zac⟩,ζb];unfold fm.W1;have fin:∀(k:Nat)(u out:Zb),Bk t A k u->u.l.length=0->(ins out).Pairwise fF->(∀d,d∈ins out↔Cons t A d/\d.sum<(k:Int))->ec t A (ins out):=λk u out b Q G J=>⟨G,λd=>(J d).trans ⟨λh=>h.1,λh=>⟨h,b.none i o Q h⟩⟩⟩
 refine eS (tM t+1) (λk s=>Bk t A k s.1/\(ins s.1).Pairwise fF/\(ins s.2).Pairwise fF/\(∀d,d∈ins s.2↔Cons t A d/\d.sum<(k:Int))/\s.1.l.length<=40000/\s.2.l.length<=5000)
  ⟨NX (by simp[Sl.l,len]),by simp[ins,Sl.l],by simp[ins,Sl.l],λd=>⟨λh=>by simp[ins,Sl.l]at h,λh=>absurd (sH h.1.1.pos) Zac⟩,by simp[Sl.l],by simp[Sl.l]⟩ ?_ ?_
 rintro k ⟨u,out⟩ N ⟨b,C,w,G,J,L⟩;simp only at b C w G J L;unfold fm.br;rw[F_];by_cases Q:u.l.length=0;rw[show(!decide (u.l.length=0))=false from Zad,bu,bg];exact(bg _).2 (.inl ⟨rfl,fin k u out b Q w G,L⟩);rw[show(!decide (u.l.length=0))=true from Zad,bD];have⟨x,Z,P⟩:=CL (s:=out) (x:=u) Zaa;have S:ins x=ins out++ins u:=by unfold ins;grind
 have⟨o1,o2⟩:=IN b C w G;rw[<-S]at o1 o2;rw[Z,ζb,cq];refine⟨λT=>(bg _).2 ((bg _).2 (.inr ⟨rfl,rfl,ins x,fF.nodup o1,λd hd=>((o2 d).1 hd).1,?_⟩)),λT=>?_⟩;rw[jT];grind;have T:x.l.length<=5000:=Zac;have R:u.l.length<=5000:=Zac;have F:∀d,Cons t A d->Is d/\d.length=t.procs.l.length:=λd h=>⟨GR E i h,h.1.1⟩;unfold fm.W2;refine eS u.l.length (λn s=>s.2=(n:Int)/\s.1.l.length<=8*n/\(ins s.1).Pairwise fF/\∀d,d∈ins s.1↔∃c∈(u.l.take n).map Sl.l,DS t A c d) ⟨rfl,zero_le _,by simp[ins,Sl.l],λd=>by simp[ins,Sl.l]⟩ ?_ ?_;rintro n ⟨more,_⟩ B ⟨e,g1,j,g2⟩;simp only at e g1 j g2;subst e;unfold fm.bV;have U:=(b u.l[n].l).1 (qM.2 ⟨_,getElem_mem B,rfl⟩);rw[jL B,bD,bJ B,ζb,eM];refine(Wu E i o U.1).mono λnx O=>?_;unfold fm.W3;refine eS nx.l.length (λm s=>s.2=(m:Int)/\s.1.l.length<=8*n+m/\(ins s.1).Pairwise fF/\∀d,d∈ins s.1↔d∈ins more\/d∈(nx.l.take m).map Sl.l) ⟨rfl,g1,j,λd=>Zab⟩ ?_ ?_;rintro m ⟨W,_⟩ D ⟨e,q,fs,g⟩;simp only at e q fs g;subst e;unfold fm.fA;rw[jL D,bD,bJ D,ζb,eM];have H:=(O.2 nx.l[m].l).1 (qM.2 ⟨_,getElem_mem D,rfl⟩);have⟨_,_,_,_,X⟩:=H;refine(Mn (l:=W) (c:=nx.l[m]) (λy K=>?_) (F _ X).1 Zaa fs).mono λr v=>?_;have V:Cons t A y.l:=by rcases(g y.l).1 (qM.2 ⟨_,K,rfl⟩)with h|h;have⟨_,_,p,a,_,_,k⟩:=(g2 y.l).1 h;omega;have⟨z,M,e⟩:=mem_map.1 h;have⟨p,a,_,_,k⟩:=(O.2 z.l).1 (qM.2 ⟨_,mem_of_mem_take M,rfl⟩);rw[<-e];exact k
 grind;refine(bg _).2 ⟨cH m Zaa,Nat.le_trans v.1 Zaa,v.2.1,λd=>?_⟩;rw[v.2.2,g,yz D,or_assoc];rintro⟨W,_⟩ ⟨e,q,fs,g⟩;simp only at e q fs g;subst e;unfold fm.fA;rw[ji,bu,bg];refine(bg _).2 ⟨cH n Zaa,show W.l.length<=_ by omega,fs,λd=>?_⟩;rw[g,take_length];constructor;rintro(h|h);have⟨c,f,I⟩:=(g2 d).1 h;exact⟨c,(yz B).2 (.inl f),I⟩;exact⟨_,(yz B).2 (.inr rfl),(O.2 d).1 h⟩;rintro⟨c,f,I⟩;rcases(yz B).1 f with h|h;exact .inl ((g2 d).2 ⟨c,h,I⟩);subst h;exact .inr ((O.2 d).2 I);rintro⟨more,_⟩ ⟨e,g1,j,g2⟩;simp only at e g1 j g2;subst e;unfold fm.bV;rw[ji,bu,bg];refine(bg _).2 ⟨λd=>?_,j,o1,o2,show more.l.length<=_ by omega,T⟩;rw[g2,take_length,<-DS.iff i o (k:=k)];exact⟨λ⟨c,f,I⟩=>⟨c,(b c).1 f,I⟩,λ⟨c,f,I⟩=>⟨c,(b c).2 f,I⟩⟩;rintro⟨u,out⟩ ⟨b,C,w,G,J,L⟩;simp only at b C w G J L;unfold fm.br;rw[F_,show(!decide (u.l.length=0))=false from by simp[b.last],bu,bg];exact(bg _).2 (.inl ⟨rfl,fin _ u out b b.last w G,L⟩)
theorem TZ(a:VT t)(b:Small t):tM t<8589934600:=by
 have key:∀(l:aZ bW),(∀p∈l,p.events.l.length<1073741824)->(l.map λP=>P.events.l.length).sum<=1073741824*l.length:=by intro l;induction l with|nil=>grind|cons x l w=>grind
 have c:=key t.procs.l λp u=>(b.2 p u).1;have z:=a.few;unfold tM;omega
theorem W_{k:Int}{L:aZ R'}(nd:L.Nodup)(B:L.Pairwise λx y=>¬gp y x<0)(a:∀d∈L,d.sum=k):L.Pairwise fF:=by refine(B.and nd).imp_of_mem λ{x y}u w h=>?_;have e:x.sum=y.sum:=Zac;rw[fF.Lv e];by_cases q:gp x y<0;omega;exact absurd (Ae _ _ q h.1) h.2
theorem Rg(c:Small t)(g:cI t=some true)(b:VT t)(f:fR t (bQ t) A):
 Wp (uk t) λr=>(r.2=0/\ec t A (ins r.1)/\r.1.l.length<=5000)\/(r.2=16/\r.1=.nil/\C6 t A):=by
 have S:=b.few;have X:=TZ b c;unfold uk kT;rw[g,ζb,bD,eM,eM];refine(of_wp c g b f).mono λm T=>?_
 unfold o_;rw[if_pos ⟨Zad,Zac⟩,ζb]
 have fin:∀(k:Nat)(u:Zb)(out:Sl Zb),Bk t A k u->u.l.length=0->(out.l.flatMap ins).Pairwise fF->(∀d,d∈out.l.flatMap ins↔Cons t A d/\d.sum<(k:Int))->out.l.length<=5000->(out.l.flatMap ins).length<=5000->
  Wp ((gI out).bind λC=>some (C,(0:Int))) λr=>(r.2=0/\ec t A (ins r.1)/\r.1.l.length<=5000)\/(r.2=16/\r.1=.nil/\C6 t A):=λk u out a L D U Y Z=>by
  have w:(out.l.flatMap Sl.l).map Sl.l=out.l.flatMap ins:=by rw[List.map_flatMap];rfl
  have i:(DW out).l=out.l.flatMap Sl.l:=by unfold DW;split;(next h=>exact(List.length_eq_zero_iff.1 h).symm);rfl
  unfold gI;rw[if_pos ⟨Zaa,Zac⟩,ζb,bg]
  have e:ins (DW out)=out.l.flatMap ins:=by unfold ins at w⊢;grind
  refine .inl ⟨rfl,⟨Zac,λd=>by rw[e];exact(U d).trans ⟨λh=>h.1,λh=>⟨h,a.none b f L h⟩⟩⟩,?_⟩
  grind
 unfold kT.W1;refine eS (tM t+1) (λk s=>Bk t A k s.1/\(ins s.1).Pairwise fF/\(s.2.1.l.flatMap ins).Pairwise fF/\(∀d,d∈s.2.1.l.flatMap ins↔Cons t A d/\d.sum<(k:Int))/\s.2.2=((s.2.1.l.flatMap ins).length:Int)/\s.2.1.l.length<=(s.2.1.l.flatMap ins).length/\(s.2.1.l.flatMap ins).length<=5000/\s.1.l.length<=40000)
  ⟨NX (by simp[Sl.l,len]),by simp[ins,Sl.l],by simp[Sl.l],λd=>⟨λh=>by simp[Sl.l]at h,λh=>absurd (sH h.1.1.pos) Zac⟩,by simp[Sl.l],by simp[Sl.l],by simp[Sl.l],by simp[Sl.l]⟩ ?_ ?_
 .rintro k ⟨u,out,tot⟩ hk ⟨a,B,z,D,J,O,G,Q⟩;simp only at a B z D J O G Q;have⟨o1,o2⟩:=IN a B z D;unfold kT.br;rw[F_]
  by_cases L:u.l.length=0
  .rw[show(!decide (u.l.length=0))=false from Zad,bu,bg]
   exact(bg _).2 (fin k u out a L z D Zaa G)
  rw[show(!decide (u.l.length=0))=true from Zad,bD,J]
  have W:wrap .i64 (((out.l.flatMap ins).length:Int)+len u)=(((out.l.flatMap ins).length+u.l.length:Nat):Int):=by have e:len u=(u.l.length:Int):=rfl;rw[e,eF _ Zaa Zaa];omega
  rw[W,cq];refine⟨λI=>(bg _).2 ((bg _).2 ?_),λI=>?_⟩
  .show Wp (((gI (Sl.nil:Sl Zb)).bind λC=>some (C,(16:Int)))) _
   have e0:gI (Sl.nil:Sl Zb)=some .nil:=by unfold gI;rfl
   rw[e0,ζb,bg];refine .inr ⟨rfl,rfl,out.l.flatMap ins++ins u,fF.nodup o1,λd hd=>((o2 d).1 hd).1,?_⟩
   have I:=of_decide_eq_true I;rw[ζi,jT];omega
  have I:=of_decide_eq_false I;have⟨o3,g1,g2⟩:=nM (s:=out) (x:=u) Zaa
  rw[g1,ζb,eM];refine(Uh c b f T a Zaa).mono λr⟨r1,r2,r3,r4⟩=>?_
  have w:o3.l.flatMap ins=out.l.flatMap ins++ins u:=by rw[g2];simp
  refine(bg _).2 ⟨r1,W_ r2 r4 λd hd=>((r1 d).1 hd).2,by rw[w];exact o1,λd=>by rw[w];exact o2 d,by rw[w,ζi,jT],?_,?_,r3⟩
  .show o3.l.length<=_;rw[w,ζi,jT,g2,ζi,length_singleton];omega
  rw[w,ζi,jT];omega
 rintro⟨u,out,tot⟩ ⟨a,B,z,D,J,O,G,Q⟩;simp only at a B z D J O G Q;unfold kT.br;rw[F_,show(!decide (u.l.length=0))=false from by simp[a.last],bu,bg]
 exact(bg _).2 (fin _ u out a a.last z D Zaa G)
theorem F9(a:Small t)(f:cI t=some true)(c:VT t)(d:fR t (bQ t) A):
 (∃L r s,ec t A L/\L.length<=5000/\uk t=some (r,0)/\fm t=some (s,true)/\ins r=L/\ins s=L)\/
 (uk t=some (.nil,16)/\fm t=some (.nil,false)):=by
 have⟨⟨r,e⟩,g,h⟩:=Rg a f c d;have⟨⟨s,b⟩,z,w⟩:=QK a c d;rcases h with⟨rfl,k1,k2⟩|⟨rfl,rfl,k1⟩
 .rcases w with⟨rfl,u,B⟩|⟨rfl,rfl,u⟩
  .exact .inl ⟨ins r,r,s,k1,by rw[jT];omega,g,z,rfl,u.one k1⟩
  exact(k1.not (by rw[jT];omega) u).elim
 rcases w with⟨rfl,u,B⟩|⟨rfl,rfl,u⟩
 .exact(u.not (by rw[jT];omega) k1).elim
 grind
end
theorem L_{t:Z4}(e:Small t)(f:cI t=some true)(d:VT t){A:cz 200 bG}(g:fR t (bQ t) A)(c:Zg):Wp (j_ t c) λr=>Code t A c.l r.2:=by
 have D:=d.few;unfold j_;rw[eM];refine(YW e f d g c).mono λr b=>?_;rw[cq];constructor;intro a;have a:r=0:=by simpa using a
 have j:=b.zero.1 a;have B:=j.1.1;unfold j_.W1;refine gb (λs:Sl bf×Int=>∃n:Nat,s.2=n/\n<=c.l.length/\s.1.l.length<=n) (λs=>c.l.length-s.2.toNat) ⟨0,rfl,zero_le _,le_refl _⟩ ?_;rintro⟨o,i⟩ ⟨n,hi,G,C⟩;simp only at hi C;subst hi;unfold j_.br;rw[cq];constructor;intro h;have w:n<c.l.length:=by simpa[len]using h
 have z:=cH n Zaa;have u:c.l.length-(wrap .i64 ((n:Int)+1)).toNat<c.l.length-((n:Int)).toNat:=by rw[z];simp;omega
 rw[bJ w,ζb,cq];constructor;intro _;unfold gm;rw[if_pos (show o.l.length+1<=2147483648 from Zaa),ζb,bg];exact⟨⟨n+1,z,Zaa,by show(o.l++[_]).length<=n+1;rw[ζi,length_singleton];omega⟩,u⟩;intro _;exact(bg _).2 ⟨⟨n+1,z,Zaa,show o.l.length<=n+1 from Zaa⟩,u⟩;intro _;exact(bg _).2 ((bg _).2 (a▸b));intro a;exact(bg _).2 b
end Go.VE
namespace Go.VE
theorem Code.one{t:Z4}{A:cz 200 bG}{c:R'}{r s:Int}(h:Code t A c r)(g:Code t A c s):r=s:=by rcases h with⟨h,rfl⟩|⟨a,u,rfl⟩|⟨a,u,rfl⟩|⟨a,u,rfl⟩<;>rcases g with⟨g,rfl⟩|⟨g1,g2,rfl⟩|⟨g1,g2,rfl⟩|⟨g1,g2,rfl⟩<;>first|rfl|contradiction|exact absurd ‹sN t c›.1 ‹_›
section
variable{t:Z4}{A:cz 200 bG}
theorem QN(g:Small t)(h:cI t=some true)(i:VT t)(j:fR t (bQ t) A){c:Zg}(d:Cons t A c.l){p q:Nat}(hp:p<t.procs.l.length)(D:q<t.procs.l.length):
 dM t (Sl.row [c]:Zb) (Sl.row [(p:Int),(q:Int)]:Zg)=some 0:=by
 refine Wp.eq ?_;have u:=d.1.1;unfold dM zm;rw[h,ζb,bD,yJ (f:=λz=>(lB z t).getD false) (λz _=>NG.ok ((bg _).2 trivial)) (by simp[Sl.l]),ζb,ζb,ζb]
 have w:(!((Sl.row [c]:Zb).l.any λz=>(lB z t).getD false))=true:=by simp[Sl.l,lB,len,u]<;>exact congrArg Int.ofNat u
 rw[w,bD];unfold dM.W1;refine eS 1 (λn s=>s=(n:Int)) rfl ?_ ?_
 .rintro n _ B rfl;obtain rfl:n=0:=by omega
  unfold dM.br;rw[show decide (((0:Nat):Int)<len (Sl.row [c]:Zb))=true from rfl,bD,show idx (Sl.row [c]:Zb) ((0:Nat):Int)=some c from rfl,ζb,eM];refine(ER g u).mono λb C=>?_
  rw[C.2 d.1,bD];exact(bg _).2 rfl
 rintro _ rfl;unfold dM.br;rw[show decide (((1:Nat):Int)<len (Sl.row [c]:Zb))=false from rfl,bu,bg];have a:∀r:Nat,r<t.procs.l.length->vP t r=some true:=λr e=>by unfold vP;rw[show decide ((r:Int)>=0)=true from Zab,bD,jL e];rfl
 show Wp (dM.W2 (Sl.row [c]) (Sl.row [(p:Int),(q:Int)]) 2 0 t) _;unfold dM.W2;refine eS 2 (λn s=>s=(n:Int)) rfl ?_ ?_
 .rintro n _ B rfl;unfold dM.bV;rw[show decide ((n:Int)<2)=true from by simp;omega,bD]
  have G:∃r:Nat,idx (Sl.row [(p:Int),(q:Int)]) (n:Int)=some (r:Int)/\r<t.procs.l.length:=by rcases(show n=0\/n=1 by omega)with rfl|rfl;exact⟨p,rfl,hp⟩;exact⟨q,rfl,D⟩
  have⟨r,k,I⟩:=G;rw[k,ζb,a r I,ζb,bD];exact(bg _).2 (cH n Zaa)
 rintro _ rfl;unfold dM.bV;rw[show decide (((2:Nat):Int)<2)=false from rfl,bu,bg];show Wp (dM.W3 (Sl.row [c]) 1 0 t) _;unfold dM.W3;refine eS 1 (λn s=>s=(n:Int)) rfl ?_ ?_
 .rintro n _ B rfl;obtain rfl:n=0:=by omega
  unfold dM.fA;rw[show decide (((0:Nat):Int)<1)=true from rfl,bD,show idx (Sl.row [c]:Zb) ((0:Nat):Int)=some c from rfl,ζb];unfold xB;rw[eM,eM];refine(EV g h i j d.1).mono λr e=>?_
  rw[bg,e.2 d.2];exact(bg _).2 rfl
 rintro _ rfl;unfold dM.fA;rw[show decide (((1:Nat):Int)<1)=false from rfl,bu,bg];exact(bg _).2 rfl
theorem SZ(b:Small t)(c:cI t=some true)(kind m:Int):i_ t kind m=some (match(bQ t).find? (mE kind m)with|some x=>(x.1,true)|none=>(⟨0,0⟩,false)):=by
 refine Wp.eq ?_;unfold i_;rw[c,ζb,bD];unfold kf;rw[ζb];unfold i_.E1;rw[uM b,ζb];refine Al (λk _=>((bQ t).take k).find? (mE kind m)=none) Zab ?_ ?_;intro k y _ z u;have w:(bQ t).take (k+1)=(bQ t).take k++[y]:=by rw[take_add_one,z];rfl
 have B:(y.2.kind==kind&&y.2.message==m)=mE kind m y:=rfl;unfold i_.kN;rw[ov,ζb,B,cq];constructor;intro a;refine(bg _).2 ((bg _).2 ?_);have:(bQ t).find? (mE kind m)=some y:=by rw[<-take_append_drop (k+1) (bQ t),w,find?_append,find?_append,u];simp[a]
 rw[this];intro a;rw[bg,w,find?_append,u];simp[a];intro _ u;rw[take_length]at u;exact(bg _).2 (by rw[u])
theorem Tg(f:Small t)(h:cI t=some true)(i:VT t)(k:fR t (bQ t) A){c:Zg}(d:Cons t A c.l){p q:Nat}(hp:p<t.procs.l.length)(J:q<t.procs.l.length):
 Wp (jt t c p q) λr=>r.2=0/\(r.1.l.length:Int)=under t c.l p q:=by
 have g:=ζd hp;have⟨a,I⟩:=d.1.at_ hp;have⟨b,C⟩:=d.1.at_ J;rw[Hv i k d g (ζd J) I C];have X:=(f.2 _ (getElem_mem hp)).1;have⟨a0,a1⟩:=d.1.2 p a _ I g;generalize Y:t.procs.l[p]=P at *;unfold jt;rw[QN f h i k d hp J,ζb,show((0:Int)==0)=true from rfl,bD,iI,g,ζb,show idx c (p:Int)=some a from by rw[iI];exact I,ζb]
 have⟨y,W,D⟩:=uf P.events a.toNat Zaa
 rw[show((a.toNat:Nat):Int)=a from Zaa]at W
 rw[W,ζb,<-D];have Z:y.l.length<=P.events.l.length:=by rw[D,length_take];omega
 unfold jt.W1;refine eS y.l.length (λn s=>s.2.1=len y/\s.2.2=(n:Int)/\s.1.l.length=(y.l.take n).countP λe=>gP q e&&sF t c.l e) ⟨rfl,rfl,rfl⟩ ?_ ?_
 .rintro n ⟨o,_,_⟩ w ⟨e1,e2,z⟩;simp only at e1 e2 z;subst e1 e2;have L:=List.countP_le_length (p:=λe=>gP q e&&sF t c.l e) (l:=y.l.take n)
  rw[length_take]at L;have u:(y.l.take (n+1)).countP (λe=>gP q e&&sF t c.l e)=o.l.length+if gP q y.l[n]&&sF t c.l y.l[n]then 1 else 0:=by rw[take_add_one,ζd w,List.countP_append,z];show _+List.countP _ [y.l[n]]=_;rw[countP_cons,List.countP_nil];simp
  have O:=cH n Zaa
  unfold jt.br;rw[jL w,bD,bJ w,ζb];generalize y.l[n]=e at u;have Q:(bl (e.kind==2) (some (!(e.peer==(q:Int)))) (some true):a_ X')=some (!gP q e):=by unfold gP;cases e.kind==2<;>cases e.peer==(q:Int)<;>rfl
  rw[Q,ζb,cq];refine⟨λB=>(bg _).2 ⟨rfl,O,by rw[u,show gP q e=false from by simpa using B];rfl⟩,λB=>?_⟩
  have B:gP q e=true:=by simpa using B
  unfold vr;rw[SZ f h,ζb,ζb];have m:(bl (match(bQ t).find? (mE 3 e.message)with|some x=>(x.1,true)|none=>((⟨0,0⟩:bf),false)).2 ((idx c (match(bQ t).find? (mE 3 e.message)with|some x=>(x.1,true)|none=>((⟨0,0⟩:bf),false)).1.proc).bind λS=>some (decide ((match(bQ t).find? (mE 3 e.message)with|some x=>(x.1,true)|none=>((⟨0,0⟩:bf),false)).1.index>S))) (some true):a_ X')=some (sF t c.l e):=by unfold sF iy;cases v:(bQ t).find? (mE 3 e.message)with|none=>rfl|some x=>have⟨T,j,⟨K,U,_⟩,E⟩:=eo.1 (xI v).1;have G:T<c.l.length:=(by rw[d.1.1];exact(ζe.1 U).1);simp only[E,bD];rw[bJ G,ζb,show((T:Nat):Int).toNat=T from rfl,ζd G,show(((j:Int)+1)==0)=false from by simp;omega,Bool.false_or];rfl
  rw[m,ζb,cq];refine⟨λC=>?_,λC=>(bg _).2 ⟨rfl,O,by rw[u,B,C];rfl⟩⟩
  have⟨r,F,H⟩:=nM (s:=o) (x:=e.message) Zaa
  rw[F,ζb,bg];exact⟨rfl,O,by rw[H,u,B,C,ζi];rfl⟩
 rintro⟨o,_,_⟩ ⟨e1,e2,z⟩;simp only at e1 e2 z;subst e1 e2;unfold jt.br;rw[ji,bu,bg];refine(bg _).2 ⟨rfl,?_⟩;rw[take_length]at z;simp only[z]
theorem Bx(b:VT t){p:Nat}{P:bW}(a:t.procs.l[p]?=some P):P.events.l.length<=64:=by have h:=b.ok.heads p (ζe.1 a).1;unfold sB at h;rw[a]at h;simp only at h;split at h;split at h;cases h;split at h;split at h;cases h;omega;rename_i u;exact absurd h u;cases h
end
abbrev pG(m:a_ Bool)(P:Prop):Prop:=Wp m λb=>(b=true↔P)
theorem pG.eq{m:a_ X'}{P:Prop}(h:pG m P):∃b,m=some b/\(b=true↔P):=h
theorem pG.iff{m:a_ X'}{P Q:Prop}(h:pG m P)(e:P↔Q):pG m Q:=h.mono λb u=>u.trans e
theorem Vb{b:X'}{P:Prop}(h:b=true↔P):pG (some b) P:=(bg _).2 h
theorem pG.some{m:a_ X'}{P:Prop}(h:pG m P):pG (m.bind λx=>Option.some x) P:=by have⟨b,u,h⟩:=h;rw[u];exact Vb h
theorem pG.same{m n:a_ X'}{P:Prop}(h:pG m P)(k:pG n P):∃b,m=Option.some b/\n=Option.some b/\(b=true↔P):=by
 obtain⟨b,u,h⟩:=h;obtain⟨d,hd,k⟩:=k;have:b=d:=by rw[Bool.eq_iff_iff,h,k]
 subst this;exact⟨b,u,hd,h⟩
theorem pG.and{m n:a_ X'}{P Q:Prop}(h:pG m P)(k:P->pG n Q){f:X'->a_ X'}(B:∀b,f b=bl b (n.bind λx=>Option.some x) (Option.some false)):pG (m.bind f) (P/\Q):=by have⟨b,u,h⟩:=h;rw[u,ζb,B];cases b with|true=>exact((k (h.1 rfl)).some).iff ⟨λq=>⟨h.1 rfl,q⟩,λq=>q.2⟩|false=>exact Vb ⟨λe=>(nomatch e),λq=>(h.2 q.1).symm▸rfl⟩
def dP(a b:R'):Prop:=a.length=b.length/\∀(p:Nat)(x y:Int),a[p]?=some x->b[p]?=some y->x<=y
section
variable{t:Z4}{A:cz 200 bG}
def lU(g:Int->Int->Int)(a b c:R'):Prop:=c.length=a.length/\∀(p:Nat)(x y:Int),a[p]?=some x->b[p]?=some y->c[p]?=some (g x y)
def mT(x y:Int):Int:=if y>x then y else x
def oq(x y:Int):Int:=if y<x then y else x
theorem lU.of(g:Int->Int->Int){a b:R'}(h:a.length=b.length):lU g a b (zipWith g a b):=⟨by simp[h],λp x y u w=>by rw[List.getElem?_zipWith,u,w]⟩
theorem lU.at_{g:Int->Int->Int}{a b c:R'}(h:lU g a b c)(D:a.length=b.length){p:Nat}{z:Int}(B:c[p]?=some z):∃x y,a[p]?=some x/\b[p]?=some y/\z=g x y:=by
 have u:p<a.length:=by rw[<-h.1];exact(ζe.1 B).1
 refine⟨a[p],b[p]' Zaa,ζd u,ζd Zaa,?_⟩;have:=h.2 p _ _ (ζd u) (ζd (show p<b.length by omega));rw[B]at this;cases this;rfl
theorem uy(x y:Int):(mT x y=x/\y<=x)\/(mT x y=y/\x<=y):=by unfold mT;split<;>omega
theorem uD(x y:Int):(oq x y=x/\x<=y)\/(oq x y=y/\y<=x):=by unfold oq;split<;>omega
theorem join_cons{a b c:R'}(B:Cons t A a)(D:Cons t A b)(h:lU mT a b c):Cons t A c:=by have L:a.length=b.length:=B.1.1.trans D.1.1.symm;refine⟨⟨h.1.trans B.1.1,λp z P C i=>?_⟩,λp k e z O C f w=>?_⟩;obtain⟨x,y,G,I,rfl⟩:=h.at_ L C;have j:=B.1.2 p x P G i;have T:=D.1.2 p y P I i;rcases uy x y with⟨e,_⟩|⟨e,_⟩<;>rw[e]<;>assumption;obtain⟨x,y,G,I,rfl⟩:=h.at_ L C;rcases uy x y with⟨Q,_⟩|⟨Q,_⟩<;>rw[Q]at f;have⟨u,d,J⟩:=B.2 p k e x O G f w;have S:=(ζe.1 d).1;have g:=ζd (show(ag A e.message).from_.proc.toNat<b.length by omega);exact⟨_,h.2 _ _ _ d g,by rcases uy u b[(ag A e.message).from_.proc.toNat]with⟨e2,_⟩|⟨e2,_⟩<;>rw[e2]<;>omega⟩;have⟨u,d,J⟩:=D.2 p k e y O I f w;have S:=(ζe.1 d).1;have g:=ζd (show(ag A e.message).from_.proc.toNat<a.length by omega);exact⟨_,h.2 _ _ _ g d,by rcases uy a[(ag A e.message).from_.proc.toNat] u with⟨e2,_⟩|⟨e2,_⟩<;>rw[e2]<;>omega⟩
theorem yW{a b c:R'}(B:Cons t A a)(D:Cons t A b)(h:lU oq a b c):Cons t A c:=by
 have Q:a.length=b.length:=B.1.1.trans D.1.1.symm;refine⟨⟨h.1.trans B.1.1,λp z P C d=>?_⟩,λp k e z S C i w=>?_⟩;obtain⟨x,y,G,I,rfl⟩:=h.at_ Q C;have j:=B.1.2 p x P G d;have W:=D.1.2 p y P I d;rcases uD x y with⟨e,_⟩|⟨e,_⟩<;>rw[e]<;>assumption;obtain⟨x,y,G,I,rfl⟩:=h.at_ Q C;have J:(k:Int)<x:=by rcases uD x y with⟨L,_⟩|⟨L,_⟩<;>omega
 have O:(k:Int)<y:=by rcases uD x y with⟨L,_⟩|⟨L,_⟩<;>omega
 have⟨u,f,U⟩:=B.2 p k e x S G J w;have⟨v,g,T⟩:=D.2 p k e y S I O w;exact⟨_,h.2 _ _ _ f g,by rcases uD u v with⟨e2,_⟩|⟨e2,_⟩<;>rw[e2]<;>omega⟩
theorem dP.trans{a b c:R'}(h:dP a b)(k:dP b c):dP a c:=by
 refine⟨h.1.trans k.1,λp x z u w=>?_⟩;have B:p<b.length:=by rw[<-h.1];exact(ζe.1 u).1
 have e:=ζd B;exact Int.le_trans (h.2 p x _ u e) (k.2 p _ z e w)
theorem dP.refl(a:R'):dP a a:=⟨rfl,λp x y w u=>by rw[w]at u;cases u;exact Int.le_refl _⟩
theorem lU.le_max{a b c:R'}(h:lU mT a b c)(D:a.length=b.length):dP a c/\dP b c/\∀d,dP a d->dP b d->dP c d:=by refine⟨⟨h.1.symm,λp x z G u=>?_⟩,⟨D.symm.trans h.1.symm,λp y z I u=>?_⟩,λd J O=>⟨h.1.trans J.1,λp z w u L=>?_⟩⟩;obtain⟨Q,y,B,I,rfl⟩:=h.at_ D u;rw[G]at B;cases B;rcases uy x y with⟨e2,_⟩|⟨e2,_⟩<;>rw[e2]<;>omega;obtain⟨x,S,G,C,rfl⟩:=h.at_ D u;rw[I]at C;cases C;rcases uy x y with⟨e2,_⟩|⟨e2,_⟩<;>rw[e2]<;>omega;obtain⟨x,y,G,I,rfl⟩:=h.at_ D u;have e:=J.2 p x w G L;have T:=O.2 p y w I L;rcases uy x y with⟨e2,_⟩|⟨e2,_⟩<;>rw[e2]<;>assumption
theorem lU.le_min{a b c:R'}(h:lU oq a b c)(D:a.length=b.length):dP c a/\dP c b/\∀d,dP d a->dP d b->dP d c:=by refine⟨⟨h.1,λp z x u G=>?_⟩,⟨h.1.trans D,λp z y u I=>?_⟩,λd J O=>⟨J.1.trans h.1.symm,λp w z L u=>?_⟩⟩;obtain⟨Q,y,B,I,rfl⟩:=h.at_ D u;rw[G]at B;cases B;rcases uD x y with⟨e2,_⟩|⟨e2,_⟩<;>rw[e2]<;>omega;obtain⟨x,S,G,C,rfl⟩:=h.at_ D u;rw[I]at C;cases C;rcases uD x y with⟨e2,_⟩|⟨e2,_⟩<;>rw[e2]<;>omega;obtain⟨x,y,G,I,rfl⟩:=h.at_ D u;have e:=J.2 p w x L G;have T:=O.2 p w y L I;rcases uD x y with⟨e2,_⟩|⟨e2,_⟩<;>rw[e2]<;>assumption
theorem lU.one{g:Int->Int->Int}{a b c d:R'}(h:lU g a b c)(k:lU g a b d)(B:a.length=b.length):c=d:=by refine ext_getElem? λp=>?_;by_cases u:p<a.length;rw[h.2 p _ _ (ζd u) (ζd Zaa),k.2 p _ _ (ζd u) (ζd Zaa)];rw[getElem?_eq_none (by rw[h.1];omega),getElem?_eq_none (by rw[k.1];omega)]
def gR(l:Sl X')(i:Nat):X':=(l.l[i]?).getD false
theorem CT{l:Sl X'}{i:Nat}(h:i<l.l.length):idx l (i:Int)=some (gR l i):=by rw[iI,ζd h];unfold gR;rw[ζd h];rfl
theorem qe{L:aZ R'}(h:L.Nodup){i:Nat}{c:R'}(a:L[i]?=some c):L.idxOf c=i:=by have⟨hi,e⟩:=ζe.1 a;rw[<-e];exact Nodup.idxOf_getElem h i hi
theorem oA{L:aZ R'}{c:R'}(h:c∈L):L[L.idxOf c]?=some c:=by have hi:=List.idxOf_lt_length_of_mem h;rw[ζd hi,List.getElem_idxOf]
theorem lU.zip{g:Int->Int->Int}{a b c:R'}(h:lU g a b c)(B:a.length=b.length):c=zipWith g a b:=by refine h.one ⟨by simp[B],λp x y u w=>?_⟩ B;rw[List.getElem?_zipWith,u,w]
end
def xh(L:aZ R')(c:R'):ST:=(range c.length).filterMap λp=>if bump c p 1∈L then some (L.idxOf (bump c p 1))else none
theorem vB{c:R'}{p:Nat}{d:Int}:(bump c p d).length=c.length:=by unfold bump;simp
theorem T5{c:R'}{p:Nat}(h:p<c.length):(bump c p 1).sum=c.sum+1:=by unfold bump;have a:c[p]?=some c[p]:=ζd h;rw[tL a,a];simp;omega
theorem Ap{L:aZ R'}{c:R'}{k:Nat}:k∈xh L c↔∃p,p<c.length/\bump c p 1∈L/\k=L.idxOf (bump c p 1):=by
 unfold xh;rw[List.mem_filterMap];constructor;rintro⟨p,u,h⟩;split at h;next w=>cases h;exact⟨p,mem_range.1 u,w,rfl⟩
 cases h;rintro⟨p,u,w,rfl⟩;exact⟨p,mem_range.2 u,by rw[if_pos w]⟩
section
variable{t:Z4}{A:cz 200 bG}{L:aZ R'}
theorem ec.nodup(h:ec t A L):L.Nodup:=fF.nodup h.srt
theorem ec.lt(h:ec t A L){i k:Nat}{c d:R'}(hi:L[i]?=some c)(a:L[k]?=some d)(B:c.sum<d.sum):i<k:=by rcases Nat.lt_trichotomy i k with g|g|g;exact g;subst g;rw[hi]at a;cases a;omega;obtain⟨u,rfl⟩:=ζe.1 hi;obtain⟨w,rfl⟩:=ζe.1 a;exact absurd ((List.pairwise_iff_getElem.1 h.srt k i w u g).tr (fF.sum B)) (fF.P9 _)
theorem EN(h:ec t A L){i k:Nat}{c:R'}(hi:L[i]?=some c)(a:k∈xh L c):i<k/\k<L.length:=by obtain⟨p,w,u,rfl⟩:=Ap.1 a;exact⟨h.lt hi (oA u) (by rw[T5 w];omega),List.idxOf_lt_length_of_mem u⟩
theorem ec.len(h:ec t A L){c:R'}(a:c∈L):c.length=t.procs.l.length:=((h.mem _).1 a).1.1
end
section
variable{L:aZ R'}{f:Nat->X'}
inductive Rc(L:List (List Int))(f:Nat->Bool):Nat->Prop
 |zero:Rc L f 0|step{i k:Nat}{c:List Int}:Rc L f i->f i=false->L[i]?=some c->k∈xh L c->Rc L f k
def Zs(L:aZ R'):Prop:=∀(i k:Nat)c,L[i]?=some c->k∈xh L c->i<k/\k<L.length
open Classical in
end
def ps(L:aZ R')(c:R')(n:Nat):ST:=(range n).filter λp=>decide (bump c p 1∈L)
theorem XL{c:R'}{p:Nat}{a:Int}(h:c[p]?=some a):bump c p 1=c.set p (a+1):=by unfold bump;rw[h];rfl
section
variable{t:Z4}{A:cz 200 bG}{L:aZ R'}
theorem Zs.of(B:ec t A L):Zs L:=λ_ _ _ h k=>EN B h k
end
end Go.VE
namespace Go.VE
end Go.VE
namespace Go.VE
end Go.VE
namespace Go.VE
section
variable{L:aZ R'}{f:Nat->X'}
inductive RR(L:List (List Int))(f:Nat->Bool):Nat->Prop
 |last:f (L.length-1)=false->RR L f (L.length-1)|step{i k:Nat}{c:List Int}:f i=false->L[i]?=some c->k∈xh L c->RR L f k->RR L f i
theorem RR.no{i:Nat}(h:RR L f i):f i=false:=by cases h<;>assumption
end
section
variable{t:Z4}{A:cz 200 bG}{L:aZ R'}
end
end Go.VE
namespace Go.VE
section
variable{t:Z4}{A:cz 200 bG}
end
theorem R_{κ ν:Type}[DecidableEq κ]{m:Mo κ ν}{k B:κ}{v z:ν}:pe (nu m k v) B z=if B=k then v else pe m B z:=by unfold pe;induction m with|nil=>unfold nu kn;by_cases h:B=k<;>simp[h,kn]|cons a m C=>have⟨a,w⟩:=a;unfold nu;by_cases h:k=a;subst h;rw[if_pos rfl];by_cases u:B=k;simp[kn,u];simp[kn,u];rw[if_neg h];by_cases u:B=a;have:B≠k:=λe=>h (e▸u);simp[kn,u,Ne.symm h];simp only[kn,if_neg u];exact C
theorem HP:∀(l:R')(r:U'),(l.foldl (λr n=>r.push (ofNat n.toNat)) r).data.toList=r.data.toList++l.map λn=>ofNat n.toNat
 |[],r=>Zab|a::l,r=>by rw[List.foldl_cons,HP l];show(r.data.push _).toList++_=_;simp
theorem HO(l:R'):(mc l).data.toList=l.map λn=>ofNat n.toNat:=by unfold mc;rw[HP];rfl
def DG(l:R'):Prop:=∀x∈l,0<=x/\x<256
theorem ZJ{a b:Int}(B:0<=a/\a<256)(D:0<=b/\b<256)(h:ofNat a.toNat=ofNat b.toNat):a=b:=by have:=congrArg UInt8.toNat h;simp[UInt8.toNat_ofNat']at this;omega
theorem K0:∀{a b:R'},DG a->DG b->(a.map λn=>ofNat n.toNat)=(b.map λn=>ofNat n.toNat)->a=b
 |[],[],_,_,_=>rfl|[],_::_,_,_,h=>by simp at h|_::_,[],_,_,h=>by simp at h|x::a,y::b,D,G,h=>by simp only[map_cons,List.cons.injEq]at h;rw[ZJ (D x Zab) (G y Zab) h.1,K0 (λz B=>D z (mem_cons_of_mem _ B)) (λz B=>G z (mem_cons_of_mem _ B)) h.2]
theorem LP{a b:R'}(B:DG a)(D:DG b)(h:mc a=mc b):a=b:=K0 B D (by rw[<-HO,<-HO,h])
section
variable{t:Z4}{A:cz 200 bG}{L:aZ R'}
theorem AV(b:VT t){c:R'}(a:Cons t A c):DG c:=λx z=>by
 obtain⟨p,w,rfl⟩:=mem_iff_getElem.1 z;have u:p<t.procs.l.length:=by rw[<-a.1.1];exact w
 have d:=a.1.2 p _ _ (ζd w) (ζd u);have B:=Bx b (ζd u);omega
end
theorem SR{κ ν:Type}[DecidableEq κ]{m:Mo κ ν}{k B:κ}{v:ν}:tH (nu m k v) B=(decide (B=k)||tH m B):=by unfold tH;induction m with|nil=>unfold nu kn;by_cases h:B=k<;>simp[h,kn]|cons a m z=>have⟨a,w⟩:=a;unfold nu;by_cases h:k=a;subst h;rw[if_pos rfl];by_cases u:B=k;simp[kn,u];simp[kn,u];rw[if_neg h];by_cases u:B=a;have:B≠k:=λe=>h (e▸u);simp[kn,u,Ne.symm h];simp only[kn,if_neg u];exact z
theorem GV{c:Zg}(h:DG c.l)(D:c.l.length<=8):ga c=some (mc c.l):=by
 refine Wp.eq ?_;unfold ga;have b:∃r,s7 (len c) (⟨0⟩:U8)=some r/\r.l=[]:=by unfold s7;rw[if_pos ⟨by simp[len],by simp[len];omega⟩];refine⟨_,rfl,?_⟩;split<;>rfl
 have⟨r,b,u⟩:=b;rw[b,ζb];unfold ga.W1;refine eS c.l.length (λi(q:Sl U8×Int)=>q.2=(i:Int)/\q.1.l.map U8.v=c.l.take i) ⟨rfl,by rw[u];rfl⟩ ?_ ?_;rintro i ⟨o,_⟩ hi ⟨e,a⟩;simp only at e a;subst e;have w:o.l.length=i:=by have:=congrArg length a;simp at this;omega
 unfold ga.br;rw[jL hi,bD,bJ hi,ζb];have C:=h c.l[i] (getElem_mem hi);have⟨z,k1,k2⟩:=nM (s:=o) (x:=(⟨wrap .u8 c.l[i]⟩:U8)) Zaa;rw[k1,ζb,bg];refine⟨cH i Zaa,?_⟩;show z.l.map U8.v=_;have B:wrap .u8 c.l[i]=c.l[i]:=by simp[wrap,IntKind.bits,signed];omega
 rw[k2,map_append,a,List.take_succ_eq_append_getElem hi,List.map_singleton,B];rintro⟨o,_⟩ ⟨e,a⟩;simp only at e a;subst e;unfold ga.br;rw[ji,bu,bg];refine(bg _).2 ?_;unfold LD;rw[a,take_length]
section
variable{t:Z4}{A:cz 200 bG}{L:aZ R'}
theorem Ss(b:VT t){c:R'}(a:Cons t A c)(p:Nat):DG (bump c p 1):=λx z=>by
 unfold bump at z;have key:∀y∈c,0<=y/\y<=250:=λy C=>by obtain⟨q,B,rfl⟩:=mem_iff_getElem.1 C;have u:q<t.procs.l.length:=(by rw[<-a.1.1];exact B);have d:=a.1.2 q _ _ (ζd B) (ζd u);have D:=Bx b (ζd u);omega
 rcases List.mem_or_eq_of_mem_set z with h|h;have:=key x h;omega;cases w:c[p]?with|none=>rw[w]at h;have:x=0+1:=h;omega|some y=>rw[w]at h;have h:x=y+1:=h;have:=key y (mem_of_getElem? w);omega
structure ze(L:List (List Int))(m:Mo ByteArray Int):Prop where
 get:∀c∈L,pe m (mc c) 0=(L.idxOf c:Int)
 has:∀d,DG d->(tH m (mc d)=true↔d∈L)
theorem Lo(f:VT t)(B:ec t A L)(U:L.length<=5000){r:Zb}(g:ins r=L)(tb:Sl X'):
 Wp (kg t r tb) λq=>∃x,q=some x/\x.t=t/\x.l=r/\x.truth=tb/\ze L (lT x.index):=by
 have Q:=f.few;have S:r.l.length=L.length:=by rw[<-g,jT]
 unfold kg kg.W1;refine eS r.l.length (λi(q:Int×(Mo ByteArray Int)×ck)=>q.1=(i:Int)/\q.2.2.t=t/\q.2.2.l=r/\q.2.2.truth=tb/\(∀(j:Nat)c,j<i->L[j]?=some c->pe q.2.1 (mc c) 0=(j:Int))/\∀d,DG d->(tH q.2.1 (mc d)=true↔∃j:Nat,j<i/\L[j]?=some d))
  ⟨rfl,rfl,rfl,rfl,λj c w=>absurd w Zaa,λd _=>⟨λh=>(by cases h),λ⟨j,w,_⟩=>absurd w Zaa⟩⟩ ?_ ?_
 .rintro i ⟨_,m,x⟩ hi ⟨rfl,b,z,C,D,G⟩;simp only at b z C D G;have u:L[i]?=some r.l[i].l:=by rw[<-g];exact u7 hi
  have I:=mem_of_getElem? u;have k:=(B.mem _).1 I;have J:=AV f k;unfold kg.br;dsimp only;rw[jL hi,bD,bJ hi,ζb,GV J (by rw[k.1.1];exact Q),ζb,bg]
  refine⟨cH i Zaa,b,z,C,λj c w a=>?_,λd hd=>?_⟩
  .show pe (nu m (mc r.l[i].l) (i:Int)) (mc c) 0=_;rw[R_]
   by_cases e:j=i
   .subst e;rw[u]at a;cases a;rw[if_pos rfl]
   have O:=mem_of_getElem? a;rw[if_neg (λh=>e ?_)]
   .exact D j c Zaa a
   have:=LP (AV f ((B.mem _).1 O)) J h;subst this;rw[<-qe B.nodup a,qe B.nodup u]
  show tH (nu m (mc r.l[i].l) (i:Int)) (mc d)=true↔_;rw[SR,or_eq_true,decide_eq_true_eq,G d hd];constructor
  .rintro (h|⟨j,w,h⟩)
   .have:=LP hd J h;subst this;exact⟨i,Zaa,u⟩
   exact⟨j,Zaa,h⟩
  rintro⟨j,w,h⟩
  by_cases e:j=i
  .subst e;rw[u]at h;cases h;exact .inl rfl
  exact .inr ⟨j,Zaa,h⟩
 rintro⟨_,m,x⟩ ⟨rfl,b,z,C,D,G⟩;simp only at b z C D G;unfold kg.br;dsimp only;rw[ji,bu,bg];refine(bg _).2 ⟨_,rfl,b,z,C,⟨λc a=>?_,λd hd=>?_⟩⟩
 .have:=List.idxOf_lt_length_of_mem a;exact D _ c Zaa (oA a)
 show tH m (mc d)=true↔_;rw[G d hd];exact⟨λ⟨j,_,h⟩=>mem_of_getElem? h,λh=>⟨L.idxOf d,by have:=List.idxOf_lt_length_of_mem h;omega,oA h⟩⟩
theorem Wv(f:Small t)(a:VT t)(B:ec t A L){x:ck}(D:ins x.l=L)(U:ze L (lT x.index)){i:Nat}{c:R'}(b:L[i]?=some c):
 Wp (dJ x (i:Int) 1) λo=>o.l=(xh L c).map λk:Nat=>(k:Int):=by
 have l:=a.few;have hi:i<x.l.l.length:=by rw[<-jT,D];exact(ζe.1 b).1
 have u:x.l.l[i].l=c:=by have:=u7 hi;rw[D,b]at this;exact(Option.some.inj this).symm
 have e:=(B.mem _).1 (mem_of_getElem? b);have S:=e.1.1;have T:=a.ok.one;have O:=GR f a e;unfold dJ;rw[bJ hi,ζb];unfold dJ.W1;refine eS x.l.l[i].l.length (λn(q:Zg×Int)=>q.2=(n:Int)/\q.1.l.length<=n/\q.1.l=((range n).filterMap λp=>if bump c p 1∈L then some (L.idxOf (bump c p 1))else none).map λk:Nat=>(k:Int)) ⟨rfl,le_refl _,rfl⟩ ?_ ?_
 .rintro n ⟨o,_⟩ z ⟨rfl,C,G⟩;simp only at C G;rw[u]at z;have W:=ζd z;have X:=O.2 c[n] (getElem_mem z);have⟨d,Y,I⟩:=tU (c:=x.l.l[i]) (by rw[u];omega) (by rw[u];omega)
  rw[u]at I;unfold dJ.br;dsimp only;rw[show len x.l.l[i]=((x.l.l[i].l.length:Nat):Int)from rfl,u,decide_eq_true Zaa,bD,bJ hi,ζb,Y,ζb,oF (by rw[I];exact z),ζb]
  unfold Sl.get;rw[I,W,ζb,ζb,eF _ Zaa Zaa]
  have⟨g,Z,j⟩:=put_eq (s:=d) (p:=n) (x:=c[n]+1) (by rw[I];exact z)
  have w:g.l=bump c n 1:=by rw[j,I,XL W]
  have Q:=Ss a e n;rw[Z,ζb,GV (by rw[w];exact Q) (by rw[w,vB];omega),ζb,w]
  by_cases J:bump c n 1∈L
  .have⟨o2,k1,k2⟩:=nM (s:=o) (x:=pe (lT x.index) (mc (bump c n 1)) 0) Zaa
   rw[(U.has _ Q).2 J,bD,k1,ζb,bg];refine⟨cH n Zaa,by show o2.l.length<=_;rw[k2];simp;omega,?_⟩
   show o2.l=_;rw[k2,G,U.get _ J,List.range_succ,List.filterMap_append,map_append];simp[J]
  rw[show tH (lT x.index) (mc (bump c n 1))=false from by
   cases h:tH (lT x.index) (mc (bump c n 1))with
   |false=>rfl|true=>exact absurd ((U.has _ Q).1 h) J,bu,bg]
  refine⟨cH n Zaa,by show o.l.length<=_;omega,?_⟩
  show o.l=_;rw[G,List.range_succ,List.filterMap_append,map_append];simp[J]
 rintro⟨o,_⟩ ⟨rfl,C,G⟩;unfold dJ.br;dsimp only;rw[ji,bu,bg];refine(bg _).2 ?_;rw[G,u];rfl
theorem yD{c:R'}{p:Nat}{a:Int}(h:c[p]?=some a)(q:Nat):(bump c p 1)[q]?=if p=q then some (a+1)else c[q]?:=by have u:=(ζe.1 h).1;unfold bump;rw[h,getElem?_set];by_cases e:p=q;subst e;rw[if_pos rfl,if_pos rfl,if_pos u];rfl;rw[if_neg e,if_neg e]
theorem CS(g:VT t)(h:fR t (bQ t) A)(D:ec t A L){c e:R'}(a:Cons t A c)(G:dP c e):∀(n:Nat){d:R'},Cons t A d->dP d e->d.sum<=(n:Int)->¬dP d c->∃p,p<c.length/\bump c p 1∈L/\dP (bump c p 1) e
 |n,d,J,B,hs,U=>by have W:d.length=c.length:=J.1.1.trans a.1.1.symm;have I:0<d.sum:=(by refine byContradiction λi=>U ?_;have j:=J.1.sum.1;have f:=(NX (t:=t) (A:=A) (z:=.row (replicate t.procs.l.length 0)) rfl d).2 ⟨J,by simp;omega⟩;have f:d=replicate t.procs.l.length 0:=(by simpa[ins,Sl.l]using f);refine⟨W,λp x y u w=>?_⟩;rw[f,getElem?_replicate]at u;split at u;cases u;exact a.1.pos p y w;cases u);have⟨q,b,C,T,X⟩:=J.down g h I;have S:=(ζe.1 C).1;by_cases Q:dP (d.set q (b-1)) c;have O:=ζd (show q<c.length by omega);have e1:=Q.2 q (b-1) _ (by rw[List.getElem?_set_self S]) O;have e2:∀p x y,p≠q->d[p]?=some x->c[p]?=some y->x<=y:=λp x y Y u w=>Q.2 p x y (by rw[List.getElem?_set_ne (Ne.symm Y)];exact u) w;have e3:b=c[q]+1:=(by refine byContradiction λZ=>U ⟨W,λp x y u w=>?_⟩;by_cases e:p=q;subst e;rw[C]at u;cases u;rw[O]at w;cases w;omega;exact e2 p x y e u w);refine⟨q,Zaa,(D.mem _).2 (join_cons a J ⟨vB,λp x y u w=>?_⟩),⟨by rw[vB];exact G.1,λp x y u w=>?_⟩⟩;rw[yD O];by_cases e:q=p;subst e;rw[if_pos rfl];rw[C]at w;cases w;rw[O]at u;cases u;unfold mT;simp;omega;rw[if_neg e,u];have:=e2 p y x (Ne.symm e) w u;unfold mT;simp;omega;rw[yD O]at u;by_cases e:q=p;subst e;rw[if_pos rfl]at u;cases u;have:=B.2 q b y C w;omega;rw[if_neg e]at u;exact G.2 p x y u w;cases n with|zero=>omega|succ n=>refine CS g h D a G n X ⟨by rw[length_set];exact B.1,λp x y u w=>?_⟩ (by rw[tL C];omega) Q;by_cases e:q=p;subst e;rw[List.getElem?_set_self S]at u;cases u;have:=B.2 q b y C w;omega;rw[List.getElem?_set_ne e]at u;exact B.2 p x y u w
end
end Go.VE
