/- The plain law. -/
import Derived.Test.YtjlclfccbcbibaaGreatDoorK1
import Derived.Test.YtjlclfccbcbibaaGreatDoorG1
set_option linter.all false
open List(Nodup Pairwise all_cons all_eq_true any_eq_true countP_cons drop_eq_getElem_cons drop_eq_nil_of_le ext_getElem ext_getElem? finRange find?_append find?_eq_none getElem?_eq_none getElem?_map getElem?_set getElem?_take getElem_mem length_cons length_singleton length_take mapM_cons map_append map_cons map_nil mem_append mem_append_left mem_cons mem_cons_of_mem mem_iff_getElem? mem_map mem_of_getElem? mem_of_mem_take mem_range mem_singleton pairwise_cons pairwise_map range range' range_succ replicate sum_cons sum_nil take_add_one take_length zipWith)
open Option(bind_eq_bind getD_some map_some pure_def)
open Go.IntKind(signed wrap)
open Nat(le_refl zero_le)
open Bool(false_eq_true not_eq_true' or_eq_true)
open ByteArray(toList)
open Classical(byContradiction)
open Int(toNat_natCast)
open UInt8(ofNat)
namespace Go.VE
theorem Zaf{p:Prop}(h:p:=by kernel_rfl):p:=h
instance:cm Var where
 wt x:=cm.wt x.name+cm.wt x.init_+1
 ok x:=cm.ok x.name/\cm.ok x.init_/\True
instance:cm Assign where
 wt x:=cm.wt x.var+cm.wt x.value+1
 ok x:=cm.ok x.var/\cm.ok x.value/\True
instance:cm W5 where
 wt x:=cm.wt x.kind+cm.wt x.peer+cm.wt x.message+cm.wt x.time+cm.wt x.assign+1
 ok x:=cm.ok x.kind/\cm.ok x.peer/\cm.ok x.message/\cm.ok x.time/\cm.ok x.assign/\True
instance:cm bP where
 wt x:=cm.wt x.name+cm.wt x.vars+cm.wt x.events+1
 ok x:=cm.ok x.name/\cm.ok x.vars/\cm.ok x.events/\True
instance:cm Z4 where
 wt x:=cm.wt x.procs+1
 ok x:=cm.ok x.procs/\True
instance:cm bJ where
 wt x:=cm.wt x.low+cm.wt x.high+1
 ok x:=cm.ok x.low/\cm.ok x.high/\True
instance:cm bp where
 wt x:=cm.wt x.t+cm.wt x.l+cm.wt x.next+1
 ok x:=cm.ok x.t/\cm.ok x.l/\cm.ok x.next/\True
instance:cm bA where
 wt x:=cm.wt x.t+cm.wt x.counts+cm.wt x.values+1
 ok x:=cm.ok x.t/\cm.ok x.counts/\cm.ok x.values/\True
mutual
def Pred.Zt:UV->Nat
 |⟨f0,f1,B,D,G,f5⟩=>cm.wt f0+cm.wt f1+cm.wt B+cm.wt D+cm.wt G+Pred.TT f5+1
def Pred.TT:Sl UV->Nat
 |.nil=>1|.emp=>1|.row l=>Pred.Jc l+1|.part l=>Pred.Jc l+1
def Pred.Jc:aX UV->Nat
 |[]=>0|x::r=>Pred.Zt x+Pred.Jc r
end
mutual
def Pred.ZM:UV->Prop
 |⟨f0,f1,B,D,G,f5⟩=>cm.ok f0/\cm.ok f1/\cm.ok B/\cm.ok D/\cm.ok G/\Pred.ZI f5/\True
def Pred.ZI:Sl UV->Prop
 |.nil=>True|.emp=>False|.row l=>Pred.TR l|.part l=>Pred.TR l
def Pred.TR:aX UV->Prop
 |[]=>True|x::r=>Pred.ZM x/\Pred.TR r
end
instance:cm UV where
 wt:=Pred.Zt
 ok:=Pred.ZM
theorem Pred.FP:∀l:aX UV,Pred.Jc l=(l.map cm.wt).sum
 |[]=>rfl|x::r=>by simp only[Pred.Jc,map_cons,sum_cons,Pred.FP r];rfl
theorem Pred.ZN(s:Sl UV):Pred.TT s=cm.wt s:=by cases s with|nil=>rfl|emp=>rfl|row l=>show Pred.Jc l+1=(l.map cm.wt).sum+1;rw[Pred.FP]|part l=>show Pred.Jc l+1=(l.map cm.wt).sum+1;rw[Pred.FP]
theorem Pred.Gj:∀l:aX UV,(∀x∈l,cm.ok x)->Pred.TR l
 |[],_=>trivial|x::r,h=>⟨h x (List.mem_cons_self ..),Pred.Gj r λy B=>h y (mem_cons_of_mem _ B)⟩
theorem Pred.okE(s:Sl UV)(h:cm.ok s):Pred.ZI s:=by cases s with|nil=>trivial|emp=>exact h.2 rfl|row l=>exact Pred.Gj l h.1|part l=>exact Pred.Gj l h.1
end Go.VE
namespace Go.VE.YtjlclfccbcbibaaGreatDoor
open Go.Proofs Go.Proofs.YtjlclfccbcbibaaGreatDoor
instance rd9:Reads Tryz.prog 9 V':=Reads.str Tryz.underlying9 Zaf
instance rd3:Reads Tryz.prog 3 Int:=Reads.int Tryz.underlying3 Zaf
instance aaL:Reads Tryz.prog 156 Var:=by refine Reads.st Tryz.underlying156 Zaf rfl ?_;intro H enc w base a c u cs l I h;simp only[mapM_cons,List.mapM_nil,pure_def,bind_eq_bind,ζg,ζa]at h;obtain⟨z,J,L,⟨B,e,O,rfl,rfl⟩,rfl⟩:=h;have⟨a0,C,k0,Q⟩:=Reads.rd (P:=Tryz.prog) (t:=9) (α:=V') (d:=z.1) (ps:=z.2) J;rw[show Tryz.prog.cellsOf 9=1 from by kernel_rfl]at C;have⟨a1,D,k1,S⟩:=Reads.rd (P:=Tryz.prog) (t:=3) (α:=Int) (d:=B.1) (ps:=B.2) e;rw[show Tryz.prog.cellsOf 3=1 from by kernel_rfl]at D;refine⟨⟨a0,a1⟩,fm.fin (n:=2) (fm.seg (o:=1) (n:=1) (fm.seg (o:=0) (n:=1) (show fm (snap w) [] (cs.take 0)from by simpa using fm.nil) C) D) I,⟨k0,k1,trivial⟩,λb G=>?_⟩;have T:=Q b G;have U:=S b G;show cm.wt a0+cm.wt a1+1<=_;simp only[map_cons,map_nil,sum_cons,sum_nil];omega
instance aaU:Reads Tryz.prog 44 (Sl Var):=Reads.sl (e:=156) Tryz.underlying44 Zaf (by decide)
instance aaM:Reads Tryz.prog 162 Assign:=by refine Reads.st Tryz.underlying162 Zaf rfl ?_;intro H enc w base a c u cs l I h;simp only[mapM_cons,List.mapM_nil,pure_def,bind_eq_bind,ζg,ζa]at h;obtain⟨z,J,L,⟨B,e,O,rfl,rfl⟩,rfl⟩:=h;have⟨a0,C,k0,Q⟩:=Reads.rd (P:=Tryz.prog) (t:=3) (α:=Int) (d:=z.1) (ps:=z.2) J;rw[show Tryz.prog.cellsOf 3=1 from by kernel_rfl]at C;have⟨a1,D,k1,S⟩:=Reads.rd (P:=Tryz.prog) (t:=3) (α:=Int) (d:=B.1) (ps:=B.2) e;rw[show Tryz.prog.cellsOf 3=1 from by kernel_rfl]at D;refine⟨⟨a0,a1⟩,fm.fin (n:=2) (fm.seg (o:=1) (n:=1) (fm.seg (o:=0) (n:=1) (show fm (snap w) [] (cs.take 0)from by simpa using fm.nil) C) D) I,⟨k0,k1,trivial⟩,λb G=>?_⟩;have T:=Q b G;have U:=S b G;show cm.wt a0+cm.wt a1+1<=_;simp only[map_cons,map_nil,sum_cons,sum_nil];omega
instance aaW:Reads Tryz.prog 50 (Sl Assign):=Reads.sl (e:=162) Tryz.underlying50 Zaf (by decide)
instance aaP:Reads Tryz.prog 52 W5:=by refine Reads.st Tryz.underlying52 Zaf rfl ?_;intro H enc w base a c z cs l U h;simp only[mapM_cons,List.mapM_nil,pure_def,bind_eq_bind,ζg,ζa]at h;obtain⟨B,W,X,⟨C,e,Y,⟨x2,Z,q,⟨D,f,r,⟨G,g,s,rfl,rfl⟩,rfl⟩,rfl⟩,rfl⟩,rfl⟩:=h;have⟨a0,I,k0,i⟩:=Reads.rd (P:=Tryz.prog) (t:=3) (α:=Int) (d:=B.1) (ps:=B.2) W;rw[show Tryz.prog.cellsOf 3=1 from by kernel_rfl]at I;have⟨a1,J,k1,j⟩:=Reads.rd (P:=Tryz.prog) (t:=3) (α:=Int) (d:=C.1) (ps:=C.2) e;rw[show Tryz.prog.cellsOf 3=1 from by kernel_rfl]at J;have⟨a2,L,k2,k⟩:=Reads.rd (P:=Tryz.prog) (t:=3) (α:=Int) (d:=x2.1) (ps:=x2.2) Z;rw[show Tryz.prog.cellsOf 3=1 from by kernel_rfl]at L;have⟨O,Q,k3,m⟩:=Reads.rd (P:=Tryz.prog) (t:=3) (α:=Int) (d:=D.1) (ps:=D.2) f;rw[show Tryz.prog.cellsOf 3=1 from by kernel_rfl]at Q;have⟨S,T,k4,p⟩:=Reads.rd (P:=Tryz.prog) (t:=50) (α:=(Sl Assign)) (d:=G.1) (ps:=G.2) g;rw[show Tryz.prog.cellsOf 50=1 from by kernel_rfl]at T;refine⟨⟨a0,a1,a2,O,S⟩,fm.fin (n:=5) (fm.seg (o:=4) (n:=1) (fm.seg (o:=3) (n:=1) (fm.seg (o:=2) (n:=1) (fm.seg (o:=1) (n:=1) (fm.seg (o:=0) (n:=1) (show fm (snap w) [] (cs.take 0)from by simpa using fm.nil) I) J) L) Q) T) U,⟨k0,k1,k2,k3,k4,trivial⟩,λb u=>?_⟩;have v:=i b u;have x:=j b u;have y:=k b u;have A:=m b u;have E:=p b u;show cm.wt a0+cm.wt a1+cm.wt a2+cm.wt O+cm.wt S+1<=_;simp only[map_cons,map_nil,sum_cons,sum_nil];omega
instance aaV:Reads Tryz.prog 45 (Sl W5):=Reads.sl (e:=52) Tryz.underlying45 Zaf (by decide)
instance aaQ:Reads Tryz.prog 47 bP:=by refine Reads.st Tryz.underlying47 Zaf rfl ?_;intro H enc w base a c z cs l J h;simp only[mapM_cons,List.mapM_nil,pure_def,bind_eq_bind,ζg,ζa]at h;obtain⟨B,L,O,⟨C,e,Q,⟨x2,S,T,rfl,rfl⟩,rfl⟩,rfl⟩:=h;have⟨a0,D,k0,U⟩:=Reads.rd (P:=Tryz.prog) (t:=9) (α:=V') (d:=B.1) (ps:=B.2) L;rw[show Tryz.prog.cellsOf 9=1 from by kernel_rfl]at D;have⟨a1,G,k1,W⟩:=Reads.rd (P:=Tryz.prog) (t:=44) (α:=(Sl Var)) (d:=C.1) (ps:=C.2) e;rw[show Tryz.prog.cellsOf 44=1 from by kernel_rfl]at G;have⟨a2,I,k2,X⟩:=Reads.rd (P:=Tryz.prog) (t:=45) (α:=(Sl W5)) (d:=x2.1) (ps:=x2.2) S;rw[show Tryz.prog.cellsOf 45=1 from by kernel_rfl]at I;refine⟨⟨a0,a1,a2⟩,fm.fin (n:=3) (fm.seg (o:=2) (n:=1) (fm.seg (o:=1) (n:=1) (fm.seg (o:=0) (n:=1) (show fm (snap w) [] (cs.take 0)from by simpa using fm.nil) D) G) I) J,⟨k0,k1,k2,trivial⟩,λb u=>?_⟩;have Y:=U b u;have Z:=W b u;have f:=X b u;show cm.wt a0+cm.wt a1+cm.wt a2+1<=_;simp only[map_cons,map_nil,sum_cons,sum_nil];omega
instance aaT:Reads Tryz.prog 22 (Sl bP):=Reads.sl (e:=47) Tryz.underlying22 Zaf (by decide)
instance aaR:Reads Tryz.prog 24 Z4:=by refine Reads.st Tryz.underlying24 Zaf rfl ?_;intro H enc w base a c u cs l C h;simp only[mapM_cons,List.mapM_nil,pure_def,bind_eq_bind,ζg,ζa]at h;obtain⟨z,D,G,rfl,rfl⟩:=h;have⟨a0,B,k0,I⟩:=Reads.rd (P:=Tryz.prog) (t:=22) (α:=(Sl bP)) (d:=z.1) (ps:=z.2) D;rw[show Tryz.prog.cellsOf 22=1 from by kernel_rfl]at B;refine⟨⟨a0⟩,fm.fin (n:=1) (fm.seg (o:=0) (n:=1) (show fm (snap w) [] (cs.take 0)from by simpa using fm.nil) B) C,⟨k0,trivial⟩,λb J=>?_⟩;have L:=I b J;show cm.wt a0+1<=_;simp only[map_cons,map_nil,sum_cons,sum_nil];omega
instance rd5:Reads Tryz.prog 5 U8:=Reads.u8 Tryz.underlying5 Zaf
theorem Xk:∀B,s8 Tryz.prog 27 Pred B:=by
 intro B;induction B using Nat.strongRecOn with|ind B X=>
 cases B with|zero=>intro H enc w base a c cs d ps h;simp[DataW.trod]at h|succ B=>
 refine s8.st Tryz.underlying27 Zaf ?_;intro H enc w base a c cs l Y h;simp only[mapM_cons,List.mapM_nil,pure_def,bind_eq_bind,ζg,ζa]at h;obtain⟨C,Z,y,⟨D,f,A,⟨x2,i,E,⟨G,j,F,⟨I,k,K,⟨x5,m,M,rfl,rfl⟩,rfl⟩,rfl⟩,rfl⟩,rfl⟩,rfl⟩:=h;have⟨a0,J,k0,p⟩:=Reads.rd (P:=Tryz.prog) (t:=3) (α:=Int) (d:=C.1) (ps:=C.2) Z;rw[show Tryz.prog.cellsOf 3=1 from by kernel_rfl]at J;have⟨a1,L,k1,q⟩:=Reads.rd (P:=Tryz.prog) (t:=3) (α:=Int) (d:=D.1) (ps:=D.2) f;rw[show Tryz.prog.cellsOf 3=1 from by kernel_rfl]at L;have⟨a2,O,k2,r⟩:=Reads.rd (P:=Tryz.prog) (t:=3) (α:=Int) (d:=x2.1) (ps:=x2.2) i;rw[show Tryz.prog.cellsOf 3=1 from by kernel_rfl]at O;have⟨Q,S,k3,s⟩:=Reads.rd (P:=Tryz.prog) (t:=3) (α:=Int) (d:=G.1) (ps:=G.2) j;rw[show Tryz.prog.cellsOf 3=1 from by kernel_rfl]at S;have⟨T,U,k4,v⟩:=Reads.rd (P:=Tryz.prog) (t:=9) (α:=V') (d:=I.1) (ps:=I.2) k;rw[show Tryz.prog.cellsOf 9=1 from by kernel_rfl]at U;have⟨W,z,k5,x⟩:=s8.Zx (t:=25) (e:=27) (α:=UV) Tryz.underlying25 Zaf (by decide) (λg N=>X g Zaa) (show _=some (x5.1,x5.2)from m);rw[show Tryz.prog.cellsOf 25=1 from by kernel_rfl]at z;rw[wz rfl,<-Pred.lE]at z;refine⟨⟨a0,a1,a2,Q,T,W⟩,fm.fin (n:=6) (fm.seg (o:=5) (n:=1) (fm.seg (o:=4) (n:=1) (fm.seg (o:=3) (n:=1) (fm.seg (o:=2) (n:=1) (fm.seg (o:=1) (n:=1) (fm.seg (o:=0) (n:=1) (show fm (snap w) [] (cs.take 0)from by simpa using fm.nil) J) L) O) S) U) z) Y,⟨k0,k1,k2,k3,k4,Pred.okE _ k5,trivial⟩,λb u=>?_⟩;have R:=p b u;have V:=q b u;have w2:=r b u;have w3:=s b u;have w4:=v b u;have w5:=x b u;show cm.wt a0+cm.wt a1+cm.wt a2+cm.wt Q+cm.wt T+Pred.TT W+1<=_;rw[Pred.ZN];simp only[map_cons,map_nil,sum_cons,sum_nil];omega
instance aaS:Reads Tryz.prog 27 UV:=Reads.of Tryz.underlying27 Zaf rfl Xk
end Go.VE.YtjlclfccbcbibaaGreatDoor
namespace Go.VE
end Go.VE
namespace Go.VE
abbrev LS{α:Type}(m:aY α):Prop:=Wp m λ_=>True
theorem LS.get{α:Type}{m:aY α}(h:LS m):∃a,m=some a:=let⟨a,e,_⟩:=h;⟨a,e⟩
theorem LS.ok{m:aY X'}(h:LS m):m=some (m.getD false):=by have⟨a,e,_⟩:=h;rw[e];rfl
def Small(t:Z4):Prop:=t.procs.l.length<1073741824/\∀p∈t.procs.l,p.events.l.length<1073741824/\p.vars.l.length<1073741824/\p.name.size<1073741824/\(∀v∈p.vars.l,v.name.size<1073741824)/\∀e∈p.events.l,e.assign.l.length<1073741824
section
theorem EU{s:Sl W5}{p:W5->aY X'}{f:W5->X'}(hp:∀x∈s.l,p x=some (f x))(B:s.l.length<1073741824):fh s p=some (place f s.l):=qG hp Zaa (λi=>rfl)
theorem OS{s:Sl bP}{p:bP->aY X'}{f:bP->X'}(hp:∀x∈s.l,p x=some (f x))(B:s.l.length<1073741824):gO s p=some (place f s.l):=qG hp Zaa (λi=>rfl)
theorem zZ{s:Sl Var}{p:Var->aY X'}{f:Var->X'}(hp:∀x∈s.l,p x=some (f x))(B:s.l.length<1073741824):fc s p=some (place f s.l):=qG hp Zaa (λi=>rfl)
theorem KY{s:Sl Assign}{p:Assign->aY X'}{f:Assign->X'}(hp:∀x∈s.l,p x=some (f x))(B:s.l.length<1073741824):fL s p=some (place f s.l):=qG hp Zaa (λi=>rfl)
theorem AJ{s:Sl W5}{p:W5->aY X'}{f:W5->X'}(hp:∀x∈s.l,p x=some (f x))(B:s.l.length<1073741824):iD s p=some (s.l.any f):=by unfold iD;rw[EU hp B,ζb,tC]
theorem BG{s:Sl bP}{p:bP->aY X'}{f:bP->X'}(hp:∀x∈s.l,p x=some (f x))(B:s.l.length<1073741824):gL s p=some (s.l.any f):=by unfold gL;rw[OS hp B,ζb,tC]
theorem CJ{s:Sl Var}{p:Var->aY X'}{f:Var->X'}(hp:∀x∈s.l,p x=some (f x))(B:s.l.length<1073741824):gV s p=some (s.l.any f):=by unfold gV;rw[zZ hp B,ζb,tC]
theorem Gl{s:Sl Assign}{p:Assign->aY X'}{f:Assign->X'}(hp:∀x∈s.l,p x=some (f x))(B:s.l.length<1073741824):gZ s p=some (s.l.any f):=by unfold gZ;rw[KY hp B,ζb,tC]
theorem pY(x lo hi:Int):nY x lo hi=some (decide (lo<=x)&&decide (x<=hi)):=by unfold nY;rw[tj];rfl
theorem Oa{s:V'}{i:Nat}(h:i<s.size):∃x,oU s (i:Int)=some x:=by unfold oU;rw[if_pos Zaa];exact⟨_,by rw[show(s[(i:Int).toNat]?)=some s[i]from by simp[h]];rfl⟩
def wk(n:Nat)(p:Int)(e:W5):Prop:=e.kind=1\/((e.kind=2\/e.kind=3)/\0<=e.peer/\e.peer<n/\e.peer≠p/\0<=e.message/\e.message<=199)
end
def pO(t:Z4)(p k:Nat)(e:W5):Prop:=∃P,t.procs.l[p]?=some P/\P.events.l[k]?=some e
theorem vH{p:Int}{x:a_×W5}:∀{es:aX W5}{j:Int},x∈lu p j es↔∃k:Nat,es[k]?=some x.2/\x.1=⟨p,j+k+1⟩
 |[],j=>by simp[lu]|e::es,j=>by simp[lu,vH];constructor;rintro(rfl|⟨k,a,B⟩);exact⟨0,rfl,Zab⟩;exact⟨k+1,Zac,Zac⟩;grind
theorem wJ{x:a_×W5}:∀{ps:aX bP}{i:Int},x∈gT i ps↔∃(a k:Nat)(P:bP),ps[a]?=some P/\P.events.l[k]?=some x.2/\x.1=⟨i+a,k+1⟩
 |[],i=>by simp[gT]|p::ps,i=>by simp only[gT,mem_append,vH,wJ];constructor;rintro(⟨k,b,B⟩|⟨a,k,P,b,B,D⟩);exact⟨0,k,p,rfl,b,Zac⟩;exact⟨a+1,k,P,Zad,B,Zac⟩;grind
abbrev bO(t:Trace):aX (a_×Event):=gT 0 t.procs.l
theorem eE{t:Z4}{x:a_×W5}:x∈bO t↔∃p k:Nat,pO t p k x.2/\x.1=⟨p,k+1⟩:=by rw[wJ];constructor;rintro⟨a,k,P,b,u,w⟩;exact⟨a,k,⟨P,b,u⟩,Zac⟩;rintro⟨a,k,⟨P,b,u⟩,w⟩;grind
theorem Dt{t:Z4}{x y:a_×W5}(B:x∈bO t)(D:y∈bO t)(h:x.1=y.1):x=y:=by have⟨p,k,⟨P,u,a⟩,e1⟩:=eE.1 B;have⟨q,j,⟨Q,w,z⟩,e2⟩:=eE.1 D;grind
theorem uc{t:Z4}(a:Small t):jA t=some (bO t):=by unfold jA;rw[if_pos];simp[pn];exact⟨by have:=a.1;omega,λp u=>by have:=(a.2 p u).1;omega⟩
def zg(t:Z4)(p m a:Int):X':=match t.procs.l[p.toNat]?with
 |some P=>P.events.l.any λe=>e.kind==2&&e.message==m&&e.peer==a|none=>false
theorem Sd{t:Z4}(b:Small t){p:Int}(B:0<=p)(c:p<t.procs.l.length)(m a:Int):vo t p m a=some (zg t p m a):=by unfold vo;have u:p.toNat<t.procs.l.length:=Zaa;have w:=getElem_mem u;rw[Th B,ζd u,ζb,AJ (f:=λe=>e.kind==2&&e.message==m&&e.peer==a) (λe _=>by unfold rL;simp[tj]) (b.2 _ w).1,ζb];unfold zg;grind
theorem Ak{t:Z4}{p:Nat}{m a:Int}:zg t p m a=true↔∃k e,pO t p k e/\e.kind=2/\e.message=m/\e.peer=a:=by unfold zg pO;rw[show(p:Int).toNat=p from rfl];cases w:t.procs.l[p]?with|none=>simp|some P=>simp;constructor;rintro⟨e,u,h⟩;have⟨k,b⟩:=List.getElem?_of_mem u;grind;grind
def ag(A:bU 200 bq)(m:Int):bq:=(A.at m).getD default
theorem NF(A:bU 200 bq){m:Int}(B:0<=m)(a:m<=199):A.at m=some (ag A m):=by
 have:m.toNat<A.l.length:=by rw[A.len];omega
 unfold ag bU.at;grind
theorem r_(A:bU 200 bq){m m':Int}(x:bq)(B:0<=m)(a:m<=199)(D:0<=m'):ag (A.set m x) m'=if m'=m then x else ag A m':=by
 have:m.toNat<A.l.length:=by rw[A.len];omega
 unfold ag bU.at bU.set;grind
theorem PT{m:Int}(B:0<=m)(a:m<=199):ag (bU.QG 200 (⟨⟨0,0⟩,⟨0,0⟩⟩:bq)) m=⟨⟨0,0⟩,⟨0,0⟩⟩:=by unfold ag bU.at bU.QG;grind
structure eB(t:Trace)(its:List (a_×Event))(A:bU 200 bq):Prop where
 snd:∀x∈its,x.2.kind=2->(ag A x.2.message).from_=x.1
 rcv:∀x∈its,x.2.kind=3->(ag A x.2.message).to_=x.1/\zg t x.2.peer x.2.message x.1.proc=true
 fr:∀m,0<=m->m<=199->(ag A m).from_.index=0\/∃e,((ag A m).from_,e)∈its/\e.kind=2/\e.message=m
 to:∀m,0<=m->m<=199->(ag A m).to_.index=0\/∃e,((ag A m).to_,e)∈its/\e.kind=3/\e.message=m
def OA(a b:a_×W5):Prop:=a.1.proc<b.1.proc\/a.1.proc=b.1.proc/\a.1.index<b.1.index
theorem QL{p:Int}:∀{es:aX W5}{j:Int},(lu p j es).Pairwise OA
 |[],_=>Pairwise.nil|e::es,j=>by simp only[lu,pairwise_cons];refine⟨λb B=>?_,QL⟩;have⟨k,_,D⟩:=vH.1 B;refine .inr ⟨by rw[D],?_⟩;grind
theorem Kr:∀{ps:aX bP}{i:Int},(gT i ps).Pairwise OA
 |[],_=>Pairwise.nil|P::ps,i=>by simp only[gT,List.pairwise_append];refine⟨QL,Kr,λa B b D=>.inl ?_⟩;have⟨k,_,G⟩:=vH.1 B;have⟨c,j,P,_,_,u⟩:=wJ.1 D;grind
theorem Jv{t:Z4}{k:Nat}{x y:a_×W5}(B:(bO t)[k]?=some x)(D:y∈(bO t).take k):y.1≠x.1:=by
 have⟨a,u⟩:=ζe.1 B;have w:((bO t).take k++(bO t).drop k).Pairwise OA:=by rw[List.take_append_drop];exact Kr
 have:=(List.pairwise_append.1 w).2.2 y D x (by rw[drop_eq_getElem_cons a,u];grind);unfold OA at this;grind
structure Ue(t:Trace):Prop where
 snd:∀x∈bO t,∀y∈bO t,x.2.kind=2->y.2.kind=2->x.2.message=y.2.message->x.1=y.1
 rcv:∀x∈bO t,∀y∈bO t,x.2.kind=3->y.2.kind=3->x.2.message=y.2.message->x.1=y.1
 has:∀x∈bO t,x.2.kind=3->zg t x.2.peer x.2.message x.1.proc=true
theorem eB.CK{t:Z4}{A:bU 200 bq}(h:eB t (bO t) A):Ue t:=⟨λx w y z k2 u B=>by rw[<-h.snd x w k2,<-h.snd y z u,B],λx w y z k2 u B=>by rw[<-(h.rcv x w k2).1,<-(h.rcv y z u).1,B],λx w k=>(h.rcv x w k).2⟩
theorem DO{t:Z4}(i:Small t)(g:∀x∈bO t,wk t.procs.l.length x.1.proc x.2):Wp (eO t) λr=>(r.2.2=0->∃A,r.1=some A/\eB t (bO t) A)/\(Ue t->r.2.2=0):=by
 unfold eO jy;rw[ζb];unfold eO.E1;rw[uc i,ζb];refine zc (λk A=>eB t ((bO t).take k) A) ⟨Zab,Zab,λm L b=>.inl (by rw[PT L b]),λm L b=>.inl (by rw[PT L b])⟩ ?_ ?_;intro k x A d B;have G:=mem_of_getElem? d;have T:(bO t).take (k+1)=(bO t).take k++[x]:=by rw[take_add_one,d];rfl
 have⟨p,j,E,F⟩:=eE.1 G;have l:=g x G;unfold eO.jZ;rw[dO];constructor;intro c;have O:x.2.kind=2:=by grind
 have u:0<=x.2.message/\x.2.message<=199:=by rcases l with h|⟨_,_,_,_,h⟩;omega;simp_all
 rw[NF A u.1 u.2,ζb,dO];refine⟨λn=>(bf _).2 ((bf _).2 ⟨λh=>(by cases h),λX=>?_⟩),λL=>?_⟩;rcases B.fr _ u.1 u.2 with Y|⟨e,Q,U,W⟩;grind;exact absurd (X.snd _ (mem_of_mem_take Q) x G U O W) (Jv d Q);rw[ζb,bf,T];have old:∀y∈(bO t).take k,y.2.kind=2->y.2.message≠x.2.message:=λy a w Q=>by have:=B.snd y a w;rw[Q]at this;have⟨p',o,_,S⟩:=eE.1 (mem_of_mem_take a);grind
 have Z:∀y∈(bO t).take k,y.2.kind=2\/y.2.kind=3->0<=y.2.message:=λy a w=>by rcases g y (mem_of_mem_take a)with h|⟨_,_,_,_,h,_⟩;omega;simp_all
 refine⟨λy a w=>?_,λy a z=>?_,λm C I=>?_,λm C I=>?_⟩;rcases mem_append.1 a with a|a;rw[r_ A _ u.1 u.2 (Z y a (.inl w)),if_neg (old y a w)];exact B.snd y a w;simp at a;subst a;rw[r_ A _ u.1 u.2 u.1,if_pos rfl];rcases mem_append.1 a with a|a;rw[r_ A _ u.1 u.2 (Z y a (.inr z))];have:=B.rcv y a z;grind;grind;rw[r_ A _ u.1 u.2 C];split;next e=>exact .inr ⟨x.2,Zab,O,e.symm⟩
 exact(B.fr m C I).imp (λh=>h) λ⟨e,b,D⟩=>⟨e,mem_append_left _ b,D⟩;rw[r_ A _ u.1 u.2 C];have:=(B.to m C I).imp (λh=>h) λ⟨e,b,D⟩=>(⟨e,mem_append_left [x] b,D⟩:∃e,((ag A m).to_,e)∈(bO t).take k++[x]/\e.kind=3/\e.message=m);split;next e=>subst e;omega
 omega;intro c;have O:=by simpa using c
 rw[dO];constructor;intro c;have J:=by simpa using c
 have u:0<=x.2.message/\x.2.message<=199/\0<=x.2.peer/\x.2.peer<t.procs.l.length:=by rcases l with h|⟨_,b,D,_,s,v⟩;omega;exact⟨s,v,b,D⟩
 rw[NF A u.1 u.2.1,ζb,dO];refine⟨λn=>(bf _).2 ((bf _).2 ⟨λh=>(by cases h),λX=>?_⟩),λL=>?_⟩;rcases B.to _ u.1 u.2.1 with Y|⟨e,Q,U,W⟩;simp[Y]at n;exact absurd (X.rcv _ (mem_of_mem_take Q) x G U J W) (Jv d Q);have L:¬(ag A x.2.message).to_.index>0:=by simpa using L
 rw[Sd i u.2.2.1 u.2.2.2,ζb,dO];refine⟨λf=>?_,λf=>(bf _).2 ((bf _).2 ⟨λh=>(by cases h),λX=>by rw[X.has x G J]at f;cases f⟩)⟩;rw[ζb,bf,T];have old:∀y∈(bO t).take k,y.2.kind=3->y.2.message≠x.2.message:=λy a w Q=>by have:=(B.rcv y a w).1;rw[Q]at this;rw[this]at L;have⟨p',o,_,S⟩:=eE.1 (mem_of_mem_take a);rw[S]at L;exact L (by show(o:Int)+1>0;omega)
 have Z:∀y∈(bO t).take k,y.2.kind=2\/y.2.kind=3->0<=y.2.message:=λy a w=>by rcases g y (mem_of_mem_take a)with h|⟨_,_,_,_,h,_⟩;omega;exact h
 refine⟨λy a w=>?_,λy a z=>?_,λm C I=>?_,λm C I=>?_⟩;rcases mem_append.1 a with a|a;rw[r_ A _ u.1 u.2.1 (Z y a (.inl w))];have:=B.snd y a w;split;next e=>rw[e]at this;exact this
 exact this;simp at a;subst a;omega;rcases mem_append.1 a with a|a;rw[r_ A _ u.1 u.2.1 (Z y a (.inr z)),if_neg (old y a z)];exact B.rcv y a z;simp at a;subst a;rw[r_ A _ u.1 u.2.1 u.1,if_pos rfl];exact⟨rfl,f⟩;rw[r_ A _ u.1 u.2.1 C];have:=(B.fr m C I).imp (λh=>h) λ⟨e,b,D⟩=>(⟨e,mem_append_left [x] b,D⟩:∃e,((ag A m).from_,e)∈(bO t).take k++[x]/\e.kind=2/\e.message=m);split;next e=>subst e;exact this
 exact this;rw[r_ A _ u.1 u.2.1 C];split;next e=>exact .inr ⟨x.2,Zab,J,e.symm⟩
 exact(B.to m C I).imp (λh=>h) λ⟨e,b,D⟩=>⟨e,mem_append_left _ b,D⟩;intro c;have J:=by simpa using c
 rw[bf,T];refine⟨λy a w=>?_,λy a z=>?_,λm C I=>?_,λm C I=>?_⟩;rcases mem_append.1 a with a|a;exact B.snd y a w;simp at a;subst a;exact absurd w O;rcases mem_append.1 a with a|a;exact B.rcv y a z;simp at a;subst a;exact absurd z J;exact(B.fr m C I).imp (λh=>h) λ⟨e,b,D⟩=>⟨e,mem_append_left _ b,D⟩;exact(B.to m C I).imp (λh=>h) λ⟨e,b,D⟩=>⟨e,mem_append_left _ b,D⟩;intro A q;rw[take_length]at q;exact(bf _).2 ⟨λ_=>⟨A,rfl,q⟩,λ_=>rfl⟩
def mq(f:Nat->X')(k n:Nat):X':=(range' k (n-k)).any f
theorem Qq{f:Nat->X'}{k n:Nat}(h:k<n):mq f k n=(f k||mq f (k+1) n):=by unfold mq;rw[show n-k=(n-(k+1))+1 from Zaa,List.range'_succ];rfl
theorem Tp{f:Nat->X'}{k n:Nat}(h:n<=k):mq f k n=false:=by unfold mq;rw[show n-k=0 from Zaa];rfl
theorem Ki{f:Nat->X'}{k n:Nat}:mq f k n=true↔∃i,k<=i/\i<n/\f i=true:=by unfold mq;rw[any_eq_true];constructor;rintro⟨i,hi,u⟩;rw[List.mem_range'_1]at hi;exact⟨i,hi.1,Zaa,u⟩;rintro⟨i,a,w,u⟩;exact⟨i,by rw[List.mem_range'_1];omega,u⟩
theorem VY{step:Int->aY (Fw Int Unit Unit)}{n:Nat}(f:Nat->X')(D:n<9223372036854775807)(a:∀i:Nat,i<n->step i=some (if f i then .r ()else .n (wrap .i64 ((i:Int)+1))))(B:step (n:Int)=some (.x ())):
 ∀m k:Nat,k+m=n->cD step (k:Int)=some (if mq f k n then .r ()else .x ()):=by
 intro m
 induction m with
 |zero=>
  intro k b;have:k=n:=Zaa
  subst this;rw[gu,B,Tp (le_refl _)];rfl
 |succ m u=>
  intro k b;rw[gu,a k Zaa,Qq Zaa]
  cases w:f k with
  |true=>rfl|false=>
   simp only[false_eq_true,if_false,ζb,Bool.false_or];rw[dZ k Zaa]
   exact u (k+1) Zaa
def qb(g:Nat->Int)(k n:Nat):Int:=match(range' k (n-k)).find? λi=> !(g i==0)with
 |some i=>g i|none=>0
theorem GC{g:Nat->Int}{k n:Nat}(h:k<n):qb g k n=if g k=0 then qb g (k+1) n else g k:=by unfold qb;rw[show n-k=(n-(k+1))+1 from Zaa,List.range'_succ,List.find?_cons];by_cases u:g k=0;simp[u];rw[if_neg u,show(!(g k==0))=true from by simp[u]]
theorem IN{g:Nat->Int}{k n:Nat}(h:n<=k):qb g k n=0:=by unfold qb;rw[show n-k=0 from Zaa];rfl
theorem GR{g:Nat->Int}{n:Nat}:∀{m k:Nat},k+m=n->(qb g k n=0↔∀i,k<=i->i<n->g i=0):=by intro m;induction m with|zero=>intro k b;rw[IN Zaa];exact⟨λ_ i a u=>Zaa,λ_=>rfl⟩|succ m z=>intro k b;rw[GC Zaa];split;rename_i w;rw[z (show k+1+m=n by omega)];constructor;intro h i a u;by_cases e:i=k;subst e;exact w;exact h i Zaa u;intro h i a u;exact h i Zaa u;rename_i w;exact⟨λh=>absurd h w,λh=>absurd (h k (le_refl _) Zaa) w⟩
theorem VX{step:Int->aY (Fw Int Unit Int)}{n:Nat}(g:Nat->Int)(D:n<9223372036854775807)(a:∀i:Nat,i<n->step i=some (if g i=0 then .n (wrap .i64 ((i:Int)+1))else .r (g i)))(B:step (n:Int)=some (.x ())):
 ∀m k:Nat,k+m=n->cD step (k:Int)=some (if qb g k n=0 then .x ()else .r (qb g k n)):=by
 intro m
 induction m with
 |zero=>
  intro k b;have:k=n:=Zaa
  subst this;rw[gu,B,IN (le_refl _)];rfl
 |succ m w=>
  intro k b;rw[gu,a k Zaa,GC Zaa]
  by_cases u:g k=0
  .simp only[u,if_true,ζb];rw[dZ k Zaa]
   exact w (k+1) Zaa
  simp only[u,if_false,ζb]
theorem KH{step:Int->aY (Fw Int Unit Int)}{n:Nat}(g:Nat->Int)(B:n<9223372036854775807)(a:∀i:Nat,i<n->step i=some (if g i=0 then .n (wrap .i64 ((i:Int)+1))else .r (g i)))(D:step (n:Int)=some (.x ())):cD step 0=some (if qb g 0 n=0 then .x ()else .r (qb g 0 n)):=VX g B a D n 0 Zaa
def F8(c:Int):X':=decide (c>=65)&&decide (c<=90)||decide (c>=97)&&decide (c<=122)
def MZ(c:Int):X':=decide (c>=48)&&decide (c<=57)
theorem E9(c:Int):qN c=some (F8 c):=by unfold qN F8;simp only[tj,I_,ζb];rw[Bool.or_comm]
theorem PE(c:Int):vJ c=some (MZ c):=by unfold vJ MZ;simp only[tj,ζb]
def CY(s:V')(i:Nat):Int:=(oU s (i:Int)).getD 0
theorem QA{s:V'}{i:Nat}(h:i<s.size):oU s (i:Int)=some (CY s i):=by have⟨x,u⟩:=Oa h;unfold CY;rw[u];rfl
def FU(s:V')(i:Nat):X':= !F8 (CY s i)&& !MZ (CY s i)&& !(CY s i==95)
def tU(s:V'):X':=decide (1<=s.size)&&decide (s.size<=16)&&F8 (CY s 0)&& !mq (FU s) 0 s.size
theorem Oq{s:V'}{i:Nat}(h:i<s.size):gF.bz s (s.size:Int) i=some (if FU s i then .r ()else .n (wrap .i64 ((i:Int)+1))):=by unfold gF.bz FU;rw[show decide ((i:Int)<(s.size:Int))=true from by simpa using h,br,QA h];simp only[ζb,E9,PE];cases F8 (CY s i)<;>cases MZ (CY s i)<;>cases(CY s i==95)<;>rfl
theorem toList_empty{s:V'}:(toList s==toList ByteArray.empty)=decide (s.size=0):=by
 rw[Bool.eq_iff_iff,beq_iff_eq,decide_eq_true_eq];constructor;intro h;have a:(toList s).length=s.size:=by rw[Go.ByteArray.toList_eq];simp
 rw[<-a,h];rw[Go.ByteArray.toList_eq];rfl;intro h;have:s=ByteArray.empty:=by apply ByteArray.ext;exact Array.eq_empty_of_size_eq_zero h
 rw[this]
theorem He{s:V'}(B:s.size<1073741824):gF s=some (tU s):=by
 unfold gF;rw[toList_empty];simp only[I_,ζb];by_cases w:s.size=0;simp[w,tU,bl];by_cases u:s.size<=16;have a:(decide (s.size=0)||decide (((ByteArray.size s:Nat):Int)>16))=false:=by simp[w];omega
 rw[a,bu,show(0:Int)=((0:Nat):Int)from rfl,QA (show 0<s.size by omega)];simp only[ζb,E9];cases z:F8 (CY s 0)with|false=>simp[tU,z,bl]|true=>simp only[Bool.not_true,bu];unfold gF.W1;rw[VY (n:=s.size) (FU s) Zaa (λi hi=>Oq hi) (by unfold gF.bz;simp[bl]) s.size 0 Zaa];have:tU s= !mq (FU s) 0 s.size:=(by simp[tU,z,u];omega);rw[this];cases mq (FU s) 0 s.size<;>rfl
 have a:(decide (s.size=0)||decide (((ByteArray.size s:Nat):Int)>16))=true:=by simp;omega
 rw[a,br];simp[tU,u,bl]
def fO{α:Type}(l:aX α)(f:α->X')(i:Nat):X':=match l[i]?with|some y=>f y|none=>false
theorem XL{α:Type}{l:aX α}{f:α->X'}{i:Nat}(h:i<l.length):fO l f i=f l[i]:=by unfold fO;rw[ζd h]
theorem DF{α:Type}{l:aX α}{f:α->X'}{p:Nat}:(l.take p).any f=mq (fO l f) 0 p:=by
 rw[Bool.eq_iff_iff,any_eq_true,Ki];constructor;rintro⟨x,w,u⟩;have⟨i,hi⟩:=List.getElem?_of_mem w;have z:=(ζe.1 hi).1;rw[length_take]at z;rw[getElem?_take,if_pos Zaa]at hi;exact⟨i,zero_le _,Zaa,by unfold fO;rw[hi];exact u⟩;rintro⟨i,_,hi,u⟩;unfold fO at u;split at u;next y B=>exact⟨y,mem_of_getElem? (i:=i) (by rw[getElem?_take,if_pos hi];exact B),u⟩
 cases u
def Ao(a b:V'):X':=toList a==toList b
def XS:X'->X'->X'->Int
 |true,false,true=>0|true,false,false=>2|_,_,_=>13
def zL(P:bP)(i:Nat):Int:=match P.vars.l[i]?with
 |some v=>XS (tU v.name) (mq (fO P.vars.l λw=>Ao w.name v.name) 0 i) (decide (v.init_>=-1073741824)&&decide (v.init_<=1073741824))|none=>0
def xu(t:Z4)(p:Nat):Int:=match t.procs.l[p]?with
 |some P=>if tU P.name&& !mq (fO t.procs.l λy=>Ao y.name P.name) 0 p then
  (if P.vars.l.length>8 then 5 else if qb (zL P) 0 P.vars.l.length=0 then(if P.events.l.length>64 then 5 else 0)else qb (zL P) 0 P.vars.l.length)else 13
 |none=>0
theorem OK{P:bP}{i:Nat}(h:i<P.vars.l.length):zL P i=XS (tU P.vars.l[i].name) (mq (fO P.vars.l λw=>Ao w.name P.vars.l[i].name) 0 i) (decide (P.vars.l[i].init_>=-1073741824)&&decide (P.vars.l[i].init_<=1073741824)):=by unfold zL;rw[ζd h]
theorem SZ{t:Z4}(a:Small t){p:Nat}(hp:p<t.procs.l.length):eR t p=some (xu t p):=by
 have U:=a.2 _ (getElem_mem hp);have d:=a.1;unfold eR xu;rw[bL hp,ζb,ζd hp];generalize W:t.procs.l[p]=P at *;have⟨S,X,O,u,_⟩:=U;rw[He O,ζb];have⟨x,Y,D⟩:=vK t.procs p Zaa;have G:gL x (λz=>jT z P)=some (mq (fO t.procs.l λy=>Ao y.name P.name) 0 p):=by rw[BG (p:=λz=>jT z P) (f:=λy=>Ao y.name P.name) (λy _=>rfl) (by rw[D,length_take];omega),D,DF]
 rw[Y,ζb,G,ζb];dsimp only;cases e:tU P.name with|false=>simp[bl]|true=>rw[br,ζb,Bool.true_and];cases hd:mq (fO t.procs.l λy=>Ao y.name P.name) 0 p with|true=>simp[bl]|false=>rw[bu];simp only[Bool.not_false,if_true];by_cases T:P.vars.l.length>8;rw[show decide (len P.vars>8)=true from by simp[len];omega,br,if_pos T];rw[show decide (len P.vars>8)=false from by simp[len];omega,bu,if_neg T];unfold eR.W1;rw[KH (n:=P.vars.l.length) (zL P) Zaa (λi hi=>?_) (by unfold eR.bz;simp[bl,len])];by_cases L:qb (zL P) 0 P.vars.l.length=0;rw[if_pos L,if_pos L];show bl (decide (len P.events>64)) (some 5) (some 0)=_;rw[Q8];simp only[len,decide_eq_true_eq];by_cases I:P.events.l.length>64;rw[if_pos I,if_pos Zaa];rw[if_neg I,if_neg Zaa];rw[if_neg L,if_neg L];rfl;unfold eR.bz;rw[OK hi,show decide ((i:Int)<len P.vars)=true from by simp[len];exact hi,br,bL hi,ζb];have b:=u _ (getElem_mem hi);have⟨y,Z,J⟩:=vK P.vars i Zaa;have Q:gV y (λz=>jU z P.vars.l[i])=some (mq (fO P.vars.l λw=>Ao w.name P.vars.l[i].name) 0 i):=(by rw[CJ (p:=λz=>jU z P.vars.l[i]) (f:=λw=>Ao w.name P.vars.l[i].name) (λw _=>rfl) (by rw[J,length_take];omega),J,DF]);rw[He b,ζb,Z,ζb,Q,ζb,pY];have c:(decide (-1073741824<=P.vars.l[i].init_)&&decide (P.vars.l[i].init_<=1073741824))=(decide (P.vars.l[i].init_>=-1073741824)&&decide (P.vars.l[i].init_<=1073741824)):=rfl;rw[c];generalize tU P.vars.l[i].name=A;generalize mq (fO P.vars.l λw=>Ao w.name P.vars.l[i].name) 0 i=B;generalize(decide (P.vars.l[i].init_>=-1073741824)&&decide (P.vars.l[i].init_<=1073741824))=C;cases A<;>cases B<;>cases C<;>rfl
def Mq(n:Nat)(p:Int)(e:W5):X':=if e.kind==1 then e.peer==0&&e.message==0 else(e.kind==2||e.kind==3)&&(decide (0<=e.peer)&&decide (e.peer<n))&& !(e.peer==p)&&(decide (0<=e.message)&&decide (e.message<=199))
theorem O6{t:Z4}(a:Small t)(p:Int)(e:W5):iW t p e=some (Mq t.procs.l.length p e):=by
 have c:=a.1;have w:wrap .i64 (len t.procs-1)=len t.procs-1:=gb _ (by simp[len];omega) (by simp[len];omega);have u:∀b:X',iW.J1 p b t e=some (b&&(decide (0<=e.peer)&&decide (e.peer<t.procs.l.length))&& !(e.peer==p)&&(decide (0<=e.message)&&decide (e.message<=199))):=by intro b;unfold iW.J1;simp only[pY,w,ζb];have:decide (e.peer<=len t.procs-1)=decide (e.peer<t.procs.l.length):=(by congr 1;apply propext;simp[len];omega);rw[this];generalize(decide (0<=e.peer)&&decide (e.peer<(t.procs.l.length:Int)))=A;generalize(e.peer==p)=B;generalize(decide (0<=e.message)&&decide (e.message<=199))=C;cases b<;>cases A<;>cases B<;>cases C<;>rfl
 unfold iW Mq;rw[u,u];cases c:e.kind==1 with|true=>rw[br];cases e.peer==0<;>cases e.message==0<;>rfl|false=>rw[bu];simp only[false_eq_true,if_false];cases z:e.kind==2<;>simp[bl]
def Nk(P:bP)(k:Nat)(e:W5):X':=match k with|0=>false|j+1=>fO P.events.l (λx=>decide (e.time<x.time)) j
def Ah(P:bP)(k:Nat)(e:W5):X':=decide (e.time<0)||decide (e.time>1099511627776)||Nk P k e
def MP:X'->X'->X'->Int
 |true,true,false=>0|true,true,true=>8|_,_,_=>2
def pS(P:bP)(e:W5)(i:Nat):Int:=match e.assign.l[i]?with
 |some a=>MP (decide (0<=a.var)&&decide (a.var<P.vars.l.length)) (decide (a.value>=-1073741824)&&decide (a.value<=1073741824)) (mq (fO e.assign.l λb=>b.var==a.var) 0 i)|none=>0
theorem QM{P:bP}{e:W5}{i:Nat}(h:i<e.assign.l.length):pS P e i=MP (decide (0<=e.assign.l[i].var)&&decide (e.assign.l[i].var<P.vars.l.length)) (decide (e.assign.l[i].value>=-1073741824)&&decide (e.assign.l[i].value<=1073741824)) (mq (fO e.assign.l λb=>b.var==e.assign.l[i].var) 0 i):=by unfold pS;rw[ζd h]
def uj(n:Nat)(P:bP)(p k:Nat)(e:W5):Int:=if Mq n p e then(if Ah P k e then 11 else if e.assign.l.length>8 then 5 else qb (pS P e) 0 e.assign.l.length)else 3
theorem Nd{P:bP}{e:W5}(c:P.vars.l.length<1073741824)(T:e.assign.l.length<1073741824):dQ.W2 e.assign (len e.assign) 0 e P=some (qb (pS P e) 0 e.assign.l.length):=by
 have I:wrap .i64 (len P.vars-1)=len P.vars-1:=gb _ (by simp[len];omega) (by simp[len];omega);unfold dQ.W2;rw[KH (n:=e.assign.l.length) (pS P e) Zaa (λi hi=>?_) (by unfold dQ.cI;simp[bl,len])];by_cases D:qb (pS P e) 0 e.assign.l.length=0;rw[if_pos D,D];rfl;rw[if_neg D];rfl;unfold dQ.cI;have⟨y,J,u⟩:=vK e.assign i Zaa;have G:gZ y (λz=>kZ z e.assign.l[i])=some (mq (fO e.assign.l λb=>b.var==e.assign.l[i].var) 0 i):=by rw[Gl (p:=λz=>kZ z e.assign.l[i]) (f:=λb=>b.var==e.assign.l[i].var) (λw _=>rfl) (by rw[u,length_take];omega),u,DF]
 rw[QM hi,show decide ((i:Int)<len e.assign)=true from by simp[len];exact hi,br,bL hi,ζb,pY,pY,I,J,ζb,ζb,ζb,G,ζb];have a:(decide (0<=e.assign.l[i].var)&&decide (e.assign.l[i].var<=len P.vars-1))=(decide (0<=e.assign.l[i].var)&&decide (e.assign.l[i].var<P.vars.l.length)):=by congr 2;apply propext;simp[len];omega
 have L:(decide (-1073741824<=e.assign.l[i].value)&&decide (e.assign.l[i].value<=1073741824))=(decide (e.assign.l[i].value>=-1073741824)&&decide (e.assign.l[i].value<=1073741824)):=rfl;rw[a,L];generalize(decide (0<=e.assign.l[i].var)&&decide (e.assign.l[i].var<(P.vars.l.length:Int)))=A;generalize(decide (e.assign.l[i].value>=-1073741824)&&decide (e.assign.l[i].value<=1073741824))=B;generalize mq (fO e.assign.l λb=>b.var==e.assign.l[i].var) 0 i=C;cases A<;>cases B<;>cases C<;>rfl
theorem Pt{t:Z4}(a:Small t){p k:Nat}{P:bP}{e:W5}(D:t.procs.l[p]?=some P)(T:P.events.l[k]?=some e):dQ t ⟨p,k+1⟩ e=some (uj t.procs.l.length P p k e):=by
 have⟨L,w⟩:=ζe.1 D;have⟨b,z⟩:=ζe.1 T;have⟨G,B,_,_,C⟩:=a.2 P (w▸getElem_mem L);have O:=C e (z▸getElem_mem b);have I:∀last:Int,((decide (0<=e.time)&&decide (e.time<=1099511627776))&& !decide (e.time<last))=(!Ah P k e)->
  dQ.J1 last t ⟨p,k+1⟩ e P=some (uj t.procs.l.length P p k e):=by
  intro last Q;unfold dQ.J1 uj;rw[O6 a,ζb,pY,ζb,Nd B O];dsimp only
  cases Mq t.procs.l.length p e with
  |false=>rfl|true=>
   rw[br,if_pos rfl];have:(bl (decide (0<=e.time)&&decide (e.time<=1099511627776)) (some (decide (e.time<last))) (some true):aY X')=some (Ah P k e):=by
    have S:(!((decide (0<=e.time)&&decide (e.time<=1099511627776))&& !decide (e.time<last)))=Ah P k e:=by rw[Q,Bool.not_not]
    rw[<-S];cases(decide (0<=e.time)&&decide (e.time<=1099511627776))<;>cases decide (e.time<last)<;>rfl
   rw[this,ζb]
   cases Ah P k e with
   |true=>rfl|false=>
    rw[bu];simp only[false_eq_true,if_false]
    by_cases J:e.assign.l.length>8
    .rw[show decide (len e.assign>8)=true from by simp[len];omega,br,if_pos J]
    rw[show decide (len e.assign>8)=false from by simp[len];omega,bu,if_neg J]
 unfold dQ;dsimp only;rw[show idx t.procs (p:Int)=some P from by rw[jN];exact D,ζb];cases k with|zero=>rw[show decide (((0:Nat):Int)+1>1)=false from by decide,bu];refine I 0 ?_;simp only[Ah,Nk,Bool.or_false];rw[Bool.eq_iff_iff];simp only[ζh,not_eq_true',decide_eq_true_eq,decide_eq_false_iff_not,Bool.or_eq_false_iff];omega|succ j=>rw[show decide ((((j+1:Nat)):Int)+1>1)=true from by simp;omega,br];have u:j<P.events.l.length:=Zaa;have U:wrap .i64 ((((j+1:Nat)):Int)+1-2)=((j:Nat):Int):=(by rw[gb _ Zaa Zaa];omega);rw[U,bL u,ζb];refine I _ ?_;simp only[Ah,Nk,XL u];rw[Bool.eq_iff_iff];simp only[ζh,not_eq_true',decide_eq_true_eq,decide_eq_false_iff_not,Bool.or_eq_false_iff];omega
theorem MK{n:Nat}{p:Int}{e:W5}(h:Mq n p e=true):wk n p e:=by
 unfold Mq at h;split at h;next a=>left;simpa using a
 right;simp only[ζh,or_eq_true,beq_iff_eq,decide_eq_true_eq,not_eq_true',beq_eq_false_iff_ne,ne_eq]at h;have⟨⟨⟨a,u⟩,z⟩,w⟩:=h;exact⟨a,u.1,u.2,z,w.1,w.2⟩
theorem Ix{n:Nat}{P:bP}{p k:Nat}{e:W5}(h:uj n P p k e=0):wk n p e:=by
 unfold uj at h;split at h;next a=>exact MK a
 cases h
theorem Af{α:Type}[DecidableEq α]:∀{l r:aX α},l.Nodup->(∀x∈l,x∈r)->l.length<=r.length
 |[],_,_,_=>zero_le _|x::l,r,D,G=>by have B:=List.nodup_cons.1 D;have:=Af (r:=r.erase x) B.2 λy u=>(List.mem_erase_of_ne Zac).2 (G y (mem_cons_of_mem _ u));grind
section
variable{κ:Type}[DecidableEq κ]
theorem DN{ν:Type}{k:κ}:∀{m:Mo κ ν},k∉m.map (·.1)->om k m=none
 |[],_=>rfl|(a,v)::r,h=>by simp only[map_cons,mem_cons,not_or]at h;unfold om;rw[if_neg h.1];exact DN h.2
theorem HL{ν:Type}{k:κ}:∀{m:Mo κ ν},k∈m.map (·.1)->∃v,om k m=some v/\(k,v)∈m
 |[],h=>Zad|(a,v)::r,h=>by unfold om;by_cases e:k=a;grind;obtain⟨w,b,B⟩:=HL (by simpa[e]using h);grind
theorem sY{ν:Type}{k:κ}{v:ν}:∀{m:Mo κ ν},k∉m.map (·.1)->oK m k v=m++[(k,v)]
 |[],_=>rfl|(a,w)::r,h=>by simp only[map_cons,mem_cons,not_or]at h;show(if k=a then _ else _)=_;rw[if_neg h.1,sY h.2];rfl
end
def Vd(t:Z4)(y:a_):Prop:=∃e,(y,e)∈bO t
theorem Vd.at_{t:Z4}{y:a_}(h:Vd t y):∃(p k:Nat)(e:W5),pO t p k e/\y=⟨p,k+1⟩/\(y,e)∈bO t:=by have⟨e,u⟩:=h;grind[eE]
def P0(t:Z4)(y z:a_):Prop:=∃e f,(y,e)∈bO t/\(z,f)∈bO t/\e.kind=2/\f.kind=3/\e.message=f.message
def Edge(t:Z4)(y z:a_):Prop:=Vd t y/\Vd t z/\(z=⟨y.proc,y.index+1⟩\/P0 t y z)
abbrev Way(t:Trace):a_->a_->Prop:=Relation.TransGen (Edge t)
def XY(t:Z4):Prop:=∃x,Way t x x
theorem Way.l{t:Z4}{x y:a_}(h:Way t x y):Vd t x:=by induction h with|single h=>exact h.1|tail _ _ u=>omega
theorem Way.r{t:Z4}{x y:a_}(h:Way t x y):Vd t y:=by cases h with|single h=>exact h.2.1|tail _ h=>exact h.2.1
theorem SS{t:Z4}(g:Small t)(l:∀x∈bO t,wk t.procs.l.length x.1.proc x.2){A:bU 200 bq}(Y:eB t (bO t) A){y:a_}(J:Vd t y):
 Wp (jD t A y) λs=>s.l.length<=2/\∀z,z∈s.l↔Edge t y z:=by
 have⟨p,k,e,L,C,u⟩:=J.at_;have⟨P,O,d⟩:=L;have S:P∈t.procs.l:=mem_of_getElem? O;have a:=(g.2 P S).1;have X:k<P.events.l.length:=(ζe.1 d).1;have D:y.proc=p:=by rw[C]
 have T:y.index=k+1:=by rw[C]
 have j:∀s:Sl a_,s.l.length<=1->(∀z,z∈s.l↔Vd t z/\z=⟨y.proc,y.index+1⟩)->Wp (jD.J1 A s P.events y) λs=>s.l.length<=2/\∀z,z∈s.l↔Edge t y z:=by
  intro s n w;have no:¬(∃z,P0 t y z)->s.l.length<=2/\∀z,z∈s.l↔Edge t y z:=λZ=>⟨Zaa,λz=>(w z).trans ⟨λh=>⟨J,h.1,.inl h.2⟩,λh=>⟨h.2.1,h.2.2.elim id λh=>(Z ⟨z,h⟩).elim⟩⟩⟩;unfold jD.J1;have U:wrap .i64 (y.index-1)=((k:Nat):Int):=by rw[T,gb _ Zaa Zaa];omega
  rw[U,jN,d,ζb,fA,dO];constructor
  .intro B;have B:e.kind=2:=by grind
   have I:0<=e.message/\e.message<=199:=by rcases l _ u with h|⟨_,_,_,_,h⟩;all_goals grind
   have b:∀z,P0 t y z->(ag A e.message).to_=z:=λz⟨W,f,a1,a2,a3,a4,a5⟩=>by cases Dt a1 u rfl;rw[a5];exact(Y.rcv _ a2 a4).1
   rw[NF A I.1 I.2,ζb,bf,dO];refine⟨λh=>?_,λh=>(bf _).2 (no λ⟨z,w⟩=>?_)⟩
   .have h:(ag A e.message).to_.index>0:=(by grind);rw[ζb];unfold fW;rw[if_pos Zaa,ζb,bf];refine⟨by show(s.l++[(ag A e.message).to_]).length<=2;grind,λz=>?_⟩;have G:P0 t y (ag A e.message).to_:=(by rcases Y.to e.message I.1 I.2 with o|⟨W,a,c,m⟩;omega;exact⟨e,W,u,a,B,c,m.symm⟩);show z∈s.l++[(ag A e.message).to_]↔_;rw[mem_append,mem_singleton,w];constructor;rintro(h|rfl);exact⟨J,h.1,.inl h.2⟩;exact⟨J,let⟨_,f,_,a2,_⟩:=G;⟨f,a2⟩,.inr G⟩;rintro⟨_,a,c|c⟩;all_goals grind
   rw[b z w]at h;have⟨_,f,_,a2,_⟩:=w;grind[eE]
  intro B;rw[bf,dO];refine⟨λh=>(by cases h),λ_=>(bf _).2 (no λ⟨z,W,f,a1,_,a3,_⟩=>?_)⟩;cases Dt a1 u rfl;grind
 unfold jD;rw[D,jN,O,ζb,dO];rw[D]at j;constructor
 .intro h;have h:y.index<len P.events:=by grind
  have B:k+1<P.events.l.length:=Zac
  refine j _ (by simp[Sl.l]) λz=>?_
  have U:wrap .i64 (y.index+1)=y.index+1:=gb _ Zaa Zaa
  simp only[Sl.l,mem_singleton,U];refine⟨λw=>⟨⟨P.events.l[k+1],eE.2 ⟨p,k+1,⟨P,O,ζd B⟩,?_⟩⟩,w⟩,λw=>w.2⟩
  grind
 intro h;have h:¬y.index<len P.events:=Zac
 refine j _ (by simp[Sl.l]) λz=>⟨λw=>by grind[Sl.l],λ⟨w,r⟩=>?_⟩
 have⟨q,i,f,⟨Q,v,hi⟩,E,_⟩:=w.at_
 grind
structure IT(t:Trace)(x:a_)(rest:Sl a_)(m:Mo a_ Bool)(U:a_->Prop):Prop where
 rst:∀y∈rest.l,y=x\/Way t x y
 keys:(m.map (·.1)).Nodup
 seen:∀y∈m,Way t x y.1/\y.1≠x/\y.2=true
 le:rest.l.length<=m.length+1
 done:∀y,y=x\/y∈m.map (·.1)->y∈rest.l\/U y\/∀z,Edge t y z->z∈m.map (·.1)
theorem IT.count{t:Z4}{x:a_}{rest:Sl a_}{m:Mo a_ X'}{U:a_->Prop}(h:IT t x rest m U):m.length<=(bO t).length:=by
 have:=Af (r:=(bO t).map (·.1)) h.keys λx u=>by obtain⟨y,w,rfl⟩:=mem_map.1 u;have⟨e,z⟩:=(h.seen y w).1.r;grind
 grind
theorem Qg{t:Z4}(E:Small t)(hN:(bO t).length<1073741824)(V:∀x∈bO t,wk t.procs.l.length x.1.proc x.2){A:bU 200 bq}(hA:eB t (bO t) A):Wp (iO t A) λr=>(r.2=true↔XY t):=by
 unfold iO jy;rw[ζb];unfold iO.E1;rw[uc E,ζb];refine zc (λk _=>∀x∈(bO t).take k,¬Way t x.1 x.1) Zab ?_ λ_ h=>(bf _).2 ⟨λh=>(by cases h),λ⟨x,g⟩=>?_⟩
 .intro i x _ g aq;have af:x∈bO t:=mem_of_getElem? g;refine Wp.mono (P:=λw=>match w with|.n s=>¬Way t x.1 x.1|.x e=>False|.r e=>XY t) ?_ λw j=>by cases w with|n s=>intro y d;rw[take_add_one,g]at d;grind|x e=>grind|r b=>exact(bf _).2 ⟨λ_=>j,λ_=>rfl⟩
  refine lW (λq:Sl a_×Mo a_ X'=>IT t x.1 q.1 q.2 λ_=>False) (λq=>2*((bO t).length-q.2.length)+q.1.l.length) ⟨λy d=>.inl (by simpa[Sl.l]using d),Zab,Zab,by simp[Sl.l],λy d=>.inl ?_⟩ ?_;simpa[Sl.l]using d;rintro⟨rest,m⟩ L;unfold iO.cI;rw[dO];refine⟨λh=>?_,λh=>(bf _).2 ((bf _).2 λj=>?_)⟩
  .have G:0<rest.l.length:=by grind
   have hc:=L.count;have au:=L.le;have j:wrap .i64 ((len rest)-1)=(rest.l.length-1:Nat):=by rw[gb _ Zac Zac];grind
   have I:rest.l.length-1<rest.l.length:=Zaa;rw[j];have h1:Sl.lS rest (rest.l.length-1:Nat)=some (rest.l.length-1):=by unfold Sl.lS;grind
   have h2:Sl.get rest (rest.l.length-1)=some rest.l[rest.l.length-1]:=by unfold Sl.get;grind
   obtain⟨cut,h3,h4⟩:∃x,pN rest none (some ((rest.l.length-1:Nat):Int))=some x/\x.l=rest.l.take (rest.l.length-1):=by cases rest with|nil=>simp[Sl.l]at G|emp=>simp[Sl.l]at G|row l=>simp only[Sl.l]at G⊢;unfold pN ec;simp_all|part l=>simp[Sl.l]at G⊢;unfold pN ec;simp_all
   rw[h1,ζb,h2,ζb,h3,ζb,fA];generalize ah:rest.l[rest.l.length-1]=y;have ai:y∈rest.l:=ah▸getElem_mem I;have O:∀z,z∈rest.l->z∈cut.l\/z=y:=λz c=>by have:rest.l.take (rest.l.length-1)++rest.l.drop (rest.l.length-1)=rest.l:=List.take_append_drop ..;rw[<-this]at c;rcases mem_append.1 c with c|c;grind;rw[drop_eq_getElem_cons I,List.drop_of_length_le Zaa]at c;grind
   have F:=L.rst _ ai;have aj:=F.elim (λe=>⟨x.2,e▸af⟩) Way.r;refine(SS E V hA aj).mono λs H=>?_;refine lW (λq:Sl a_×Int×Mo a_ X'=>∃n:Nat,q.2.1=n/\n<=s.l.length/\IT t x.1 q.1 q.2.2 (λu=>u=y)/\(∀z∈s.l.take n,z∈q.2.2.map (·.1))/\2*((bO t).length-q.2.2.length)+q.1.l.length<2*((bO t).length-m.length)+rest.l.length) (λq=>s.l.length-q.2.1.toNat)
    ⟨0,rfl,zero_le _,⟨λz c=>L.rst z Zac,L.keys,L.seen,Zac,λu f=>?_⟩,Zab,Zac⟩ ?_
   .rcases L.done u f with h|h|h;exact(O u h).imp_right .inl;exact h.elim;exact .inr (.inr h)
   rintro⟨C,i2,W⟩ ⟨n,rfl,hn,B,J,o⟩;simp only at B o J;unfold iO.kQ;rw[dO];constructor
   .intro h;have X:n<s.l.length:=(by simpa[len]using h);have K:=(H.2 s.l[n]).1 (getElem_mem X);have Q:Way t x.1 s.l[n]:=F.elim (λe=>.single (e▸K)) λh=>.tail h K;rw[bL X,ζb,dO];refine⟨λZ=>(bf _).2 ((bf _).2 ((bf _).2 ⟨x.1,?_⟩)),λS=>?_⟩;have:s.l[n]=x.1:=(by unfold XA at Z;revert Z;cases s.l[n];cases x.1;intro Z;simpa using Z);rw[this]at Q;exact Q;have S:s.l[n]≠x.1:=λe=>(by rw[e]at S;simp[XA]at S);have T:=dZ n Zaa;have M:s.l.take (n+1)=s.l.take n++[s.l[n]]:=(by rw[take_add_one,ζd X];rfl);rw[dO];refine⟨λp=>(bf _).2 ⟨⟨n+1,T,Zaa,B,λz c=>?_,o⟩,by show _-(wrap .i64 ((n:Int)+1)).toNat<_;rw[T];simp;omega⟩,λY=>?_⟩;rw[M]at c;rcases mem_append.1 c with c|c;exact J z c;simp[mem_singleton]at c;subst c;apply byContradiction;intro hk;unfold um at p;rw[DN hk]at p;cases p;have av:=B.count;have ar:=B.le;unfold fW;rw[if_pos (show C.l.length+1<=2147483648 from Zaa),ζb,bf];have D:s.l[n]∉W.map (·.1):=λak=>(by have⟨v,hv,al⟩:=HL ak;have:=(B.seen _ al).2.2;simp only at this;subst this;unfold um at Y;rw[hv]at Y;cases Y);have U:∀z,z∈(oK W s.l[n] true).map (·.1)↔z∈W.map (·.1)\/z=s.l[n]:=λz=>(by rw[sY D,map_append,mem_append];simp);have N:IT t x.1 (.row (C.l++[s.l[n]])) (oK W s.l[n] true) (λu=>u=y):=(by refine⟨λy d=>?_,?_,λy d=>?_,?_,λu f=>?_⟩;simp[Sl.l,mem_singleton]at d;rcases d with d|rfl;exact B.rst y d;exact .inr Q;rw[sY D,map_append,List.nodup_append];refine⟨B.keys,Zab,λa ha b R=>?_⟩;simp[mem_singleton]at R;subst R;exactλe=>D (e▸ha);rw[sY D]at d;rcases mem_append.1 d with d|d;exact B.seen y d;simp[mem_singleton]at d;subst d;exact⟨Q,S,rfl⟩;rw[sY D];show(C.l++[s.l[n]]).length<=_;rw[ζi,ζi,length_singleton,length_singleton];omega;simp only[Sl.l,mem_append,mem_singleton];have old:u=x.1\/u∈W.map (·.1)->(u∈C.l\/u=s.l[n])\/u=y\/∀z,Edge t u z->z∈(oK W s.l[n] true).map (·.1):=λf=>(by rcases B.done u f with h|h|h;exact .inl (.inl h);exact .inr (.inl h);exact .inr (.inr λz c=>(U z).2 (.inl (h z c))));rcases f with f|f;exact old (.inl f);rcases(U u).1 f with f|f;exact old (.inr f);exact .inl (.inr f));have am:=N.count;refine⟨⟨n+1,T,Zaa,N,λz c=>?_,?_⟩,by show _-(wrap .i64 ((n)+1)).toNat<_;rw[T];simp;omega⟩;rw[M]at c;rcases mem_append.1 c with c|c;exact(U z).2 (.inl (J z c));exact(U z).2 (.inr (by simpa using c));rw[sY D,ζi,length_singleton]at am;show 2*((bO t).length-(oK W s.l[n] true).length)+(C.l++[s.l[n]]).length<_;rw[sY D,ζi,ζi,length_singleton,length_singleton];omega
   intro h;have an:s.l.length<=n:=by simpa[len]using h
   rw[List.take_of_length_le an]at J;refine(bf _).2 ((bf _).2 ⟨⟨B.rst,B.keys,B.seen,B.le,λu f=>?_⟩,o⟩);rcases B.done u f with h|h|h;exact .inl h;subst h;exact .inr (.inr λz c=>J z ((H.2 z).2 c));exact .inr (.inr h)
  have ao:rest.l=[]:=by have:¬len rest>0:=(by simpa using h);simp[len]at this;exact this
  have hd:∀y,y=x.1\/y∈m.map (·.1)->∀z,Edge t y z->z∈m.map (·.1):=λy d=>by rcases L.done y d with h|h|h;simp only[ao]at h;cases h;exact h.elim;exact h
  have key:∀z,Way t x.1 z->z∈m.map (·.1):=λz c=>by induction c with|single h=>exact hd _ (.inl rfl) _ h|tail _ h ih=>exact hd _ (.inr ih) _ h
  have⟨y,d,ap⟩:=mem_map.1 (key _ j);exact(L.seen y d).2.1 ap
 have⟨e,Z⟩:=g.l;rw[take_length]at h;exact absurd g (h _ Z)
structure Ok(t:Trace):Prop where
 one:1<=t.procs.l.length
 few:t.procs.l.length<=8
 heads:∀p,p<t.procs.l.length->xu t p=0
 fC:∀(p k:Nat)P e,t.procs.l[p]?=some P->P.events.l[k]?=some e->uj t.procs.l.length P p k e=0
 CK:Ue t
 acyc:¬XY t
theorem Pa{t:Z4}(h:∀(p k:Nat)P e,t.procs.l[p]?=some P->P.events.l[k]?=some e->uj t.procs.l.length P p k e=0):∀x∈bO t,wk t.procs.l.length x.1.proc x.2:=λx w=>by have⟨p,k,⟨P,z,B⟩,u⟩:=eE.1 w;rw[u];exact Ix (h p k P _ z B)
structure VT(t:Trace):Prop where
 formed:∀x∈bO t,wk t.procs.l.length x.1.proc x.2
 msgs:∃A i,eO t=some (some A,i,0)/\eB t (bO t) A
 few:t.procs.l.length<=8
 ok:Ok t
theorem S_{t:Z4}(a:Small t)(W:(bO t).length<1073741824):Wp (ij t) λr=>(r.2=0->VT t)/\(Ok t->r.2=0):=by
 unfold ij;rw[pY,ζb,dO];refine⟨λG=>?_,λG=>(bf _).2 ⟨λh=>Zaa,λh=>?_⟩⟩;rotate_left;have o:=h.one;have D:=h.few;grind;have D:1<=t.procs.l.length/\t.procs.l.length<=8:=by grind
 unfold ij.W1;refine lW (λi:Int=>∃n:Nat,i=n/\n<=t.procs.l.length/\∀p,p<n->xu t p=0) (λi:Int=>t.procs.l.length-i.toNat) ⟨0,rfl,zero_le _,λp I=>absurd I Zaa⟩ ?_;rintro i ⟨n,rfl,q,X⟩;unfold ij.bz;rw[dO];constructor;intro h;have w:n<t.procs.l.length:=by grind
 rw[SZ a w,ζb,dO];refine⟨λu=>(bf _).2 ⟨⟨n+1,dZ n Zaa,Zaa,λp I=>?_⟩,by rw[dZ n Zaa];simp;omega⟩,λu=>(bf _).2 ((bf _).2 ⟨λh=>?_,λh=>?_⟩)⟩;grind;grind;simp[h.heads n w]at u;intro h;have Y:t.procs.l.length<=n:=Zac;rw[bf];unfold jy;rw[ζb];unfold ij.E2;rw[uc a,ζb];refine zc (λi _=>∀(p k:Nat)P e,t.procs.l[p]?=some P->P.events.l[k]?=some e->(⟨p,k+1⟩,e)∈(bO t).take i->uj t.procs.l.length P p k e=0) Zab ?_ ?_;intro i x _ T z;have J:=mem_of_getElem? T;have⟨p,j,⟨P,B,C⟩,L⟩:=eE.1 J;unfold ij.L4;rw[L,Pt a B C,ζb,dO];refine⟨λu=>(bf _).2 λp' s v y Z E f=>?_,λu=>(bf _).2 ((bf _).2 ⟨λh=>?_,λh=>?_⟩)⟩;rw[take_add_one,T]at f;grind;grind;simp[h.fC p j P _ B C]at u;intro _ z;have z:∀(p k:Nat)P e,t.procs.l[p]?=some P->P.events.l[k]?=some e->uj t.procs.l.length P p k e=0:=λp k P e B C=>z p k P e B C (by rw[take_length];exact eE.2 ⟨p,k,⟨P,B,C⟩,rfl⟩);have O:=Pa z;have⟨r,g,l,Q⟩:=DO a O;rw[g,ζb,dO];refine⟨λu=>?_,λu=>(bf _).2 ⟨λh=>?_,λh=>Q h.CK⟩⟩;have u:=by simpa using u
 have⟨A,m,b⟩:=l u;rw[m,ζb];have⟨c,d,S⟩:=Qg a W O b;rw[d,ζb,dO];refine⟨λU=>(bf _).2 ⟨λh=>Zaa,λh=>absurd (S.1 U) h.acyc⟩,λU=>(bf _).2 ⟨λ_=>?_,λ_=>rfl⟩⟩;exact⟨O,⟨A,r.2.1,Zac,b⟩,D.2,D.1,D.2,λp I=>X p Zaa,z,b.CK,λd=>Zac⟩;simp_all
theorem Rk{t:Z4}(a:Small t)(B:(bO t).length<1073741824):Wp (b9 t) λb=>(b=true->VT t)/\(Ok t->b=true):=by unfold b9;rw[fA];exact(S_ a B).mono λr c=>(bf _).2 ⟨λh=>c.1 Zac,λh=>Zac⟩
def gp(q:Int)(e:W5):X':=e.kind==2&&e.peer==q
def zq(p:Int)(e:W5):X':=e.kind==3&&e.peer==p
def under(t:Z4)(c:SW)(p q:Nat):Int:=match t.procs.l[p]?,t.procs.l[q]?,c[p]?,c[q]?with
 |some P,some Q,some a,some b=>((P.events.l.take a.toNat).countP (gp q):Int)-((Q.events.l.take b.toNat).countP (zq p):Int)|_,_,_,_=>0
theorem AX{t:Z4}(f:Small t)(g:b9 t=some true){A:bU 200 bq}(c:eB t (bO t) A){x:a_×W5}(B:x∈bO t)(d:x.2.kind=2):oJ t x.2.message=some (x.1,true):=by
 refine Wp.eq ?_;unfold oJ iE;rw[g,ζb,br];unfold jy;rw[ζb];unfold iE.E1;rw[uc f,ζb,fA];refine zc (λk _=>∀y∈(bO t).take k,¬(y.2.kind=2/\y.2.message=x.2.message)) Zab ?_ ?_;intro k y _ C u;have w:y∈bO t:=mem_of_getElem? C;unfold iE.jZ;rw[tj,ζb,dO];constructor;intro a;have a:y.2.kind=2/\y.2.message=x.2.message:=by simpa using a
 refine(bf _).2 ((bf _).2 ((bf _).2 ?_));have e:=c.snd y w a.1;have D:=c.snd x B d;rw[a.2,D]at e;rw[e];intro a;have a:¬(y.2.kind=2/\y.2.message=x.2.message):=by intro h;rw[h.1,h.2]at a;simp at a
 rw[bf];intro z b;rw[take_add_one,C]at b;rcases mem_append.1 b with b|b;exact u z b;simp at b;subst b;exact a;intro _ u;rw[take_length]at u;exact absurd ⟨d,rfl⟩ (u x B)
def tO(t:Z4)(c:SW):Prop:=c.length=t.procs.l.length/\∀(p:Nat)(a:Int)(P:bP),c[p]?=some a->t.procs.l[p]?=some P->0<=a/\a<=P.events.l.length
def oE(t:Z4)(A:bU 200 bq)(c:SW):Prop:=∀(p k:Nat)(e:W5)(a:Int),pO t p k e->c[p]?=some a->(k:Int)<a->e.kind=3->∃b,c[(ag A e.message).from_.proc.toNat]?=some b/\(ag A e.message).from_.index<=b
theorem vc{t:Z4}(c:VT t){A:bU 200 bq}(a:eB t (bO t) A){p k:Nat}{e:W5}(J:pO t p k e)(d:e.kind=3):
 ∃(q j:Nat)(y:W5),pO t q j y/\y.kind=2/\y.message=e.message/\y.peer=p/\e.peer=q/\(ag A e.message).from_=⟨q,j+1⟩:=by
 have u:((⟨p,k+1⟩:a_),e)∈bO t:=eE.2 ⟨p,k,J,rfl⟩;have z:=(a.rcv _ u d).2;have C:=c.formed _ u;simp only at z C;have B:0<=e.peer:=by rcases C with h|⟨_,h,_⟩;omega;exact h
 obtain⟨q,D⟩:∃q:Nat,e.peer=q:=⟨e.peer.toNat,Zaa⟩
 rw[D]at z;have⟨j,y,w,b,G,I⟩:=Ak.1 z;have:=a.snd (⟨q,j+1⟩,y) (eE.2 ⟨q,j,w,rfl⟩) b;simp only at this;rw[G]at this;exact⟨q,j,y,w,b,G,I,D,this⟩
def Z3(t:Z4)(A:bU 200 bq)(c:SW)(s u:a_):Prop:=∃(p k:Nat)(e:W5)(a:Int)(q j:Nat)(y:W5)(b:Int),pO t p k e/\c[p]?=some a/\(k:Int)<a/\e.kind=3/\(ag A e.message).from_=s/\s=⟨q,j+1⟩/\pO t q j y/\c[q]?=some b/\b<(j:Int)+1/\u=⟨p,k+1⟩
theorem VC{t:Z4}(v:Small t)(P:b9 t=some true)(E:VT t){A:bU 200 bq}(F:eB t (bO t) A){c:Zg}(H:tO t c.l):Wp (ig t c) λr=>(r.2.2=false->oE t A c.l)/\(r.2.2=true->Z3 t A c.l r.1 r.2.1):=by
 have ah:=E.few;unfold ig ig.W1;refine lW (λs:Int=>∃n:Nat,s=n/\n<=c.l.length/\∀(p k:Nat)(e:W5)(a:Int),p<n->pO t p k e->c.l[p]?=some a->(k:Int)<a->e.kind=3->∃b,c.l[(ag A e.message).from_.proc.toNat]?=some b/\(ag A e.message).from_.index<=b) (λs:Int=>c.l.length-s.toNat) ⟨0,rfl,zero_le _,λp k e a h=>absurd h Zaa⟩ ?_;rintro s ⟨n,rfl,hn,K⟩;have ai:=H.1;unfold ig.bz;rw[dO];constructor;intro h;have C:n<c.l.length:=by simpa[len]using h
 have B:n<t.procs.l.length:=Zaa;have hP:=(v.2 _ (getElem_mem B)).1;have⟨r1,r2⟩:=H.2 n _ _ (ζd C) (ζd B);rw[bL C,ζb,bL B,ζb];have⟨y,M,T⟩:=vK t.procs.l[n].events c.l[n].toNat Zaa;rw[show((c.l[n].toNat:Nat):Int)=c.l[n]from Zaa]at M;rw[M,ζb];unfold ig.W2;refine lW (λs:Int=>∃m:Nat,s=m/\m<=y.l.length/\∀(k:Nat)(e:W5),k<m->pO t n k e->e.kind=3->∃b,c.l[(ag A e.message).from_.proc.toNat]?=some b/\(ag A e.message).from_.index<=b) (λs:Int=>y.l.length-s.toNat) ⟨0,rfl,zero_le _,λk e h=>absurd h Zaa⟩ ?_;rintro s ⟨m,rfl,hm,i⟩;have af:y.l.length=c.l[n].toNat:=by rw[T,length_take];omega
 unfold ig.cI;rw[dO];constructor;intro h;have I:m<y.l.length:=by simpa[len]using h
 have D:=dZ m Zaa;have U:y.l.length-(wrap .i64 ((m:Int)+1)).toNat<y.l.length-((m:Int)).toNat:=by rw[D];simp;omega
 have R:y.l[m]?=t.procs.l[n].events.l[m]?:=by rw[T,getElem?_take,if_pos (show m<c.l[n].toNat from Zaa)]
 have u:pO t n m y.l[m]:=⟨_,ζd B,by rw[<-R];exact ζd I⟩;rw[bL I,ζb];generalize y.l[m]=e at u;rw[dO];constructor;intro d;have d:e.kind=3:=by simpa using d
 have⟨q,j,z,l,V,z2,z3,z4,z5⟩:=vc E F u d;have J:=AX v P F (x:=(⟨q,j+1⟩,z)) (eE.2 ⟨q,j,l,rfl⟩) V;simp only at J;rw[z2]at J;have ab:=l;have⟨Q,hQ,_⟩:=l;have L:q<c.l.length:=by have:=(ζe.1 hQ).1;omega
 rw[J,ζb];simp only;rw[bL L,ζb,dO];constructor;intro W;have W:(j:Int)+1>c.l[q]:=by simpa using W
 exact(bf _).2 ((bf _).2 ((bf _).2 ⟨λh=>(by cases h),λ_=>⟨n,m,e,c.l[n],q,j,z,c.l[q],u,ζd C,Zaa,d,z5,rfl,ab,ζd L,Zaa,by simp[D]⟩⟩));intro X;have X:¬((j:Int)+1>c.l[q]):=by simpa using X
 refine(bf _).2 ⟨⟨m+1,D,Zaa,λk Y ad w G=>?_⟩,U⟩;by_cases o:k=m;subst o;have:Y=e:=by have⟨P1,a1,a2⟩:=u;have⟨P2,Z,f⟩:=w;rw[a1]at Z;cases Z;rw[a2]at f;cases f;rfl
 subst this;rw[z5];exact⟨c.l[q],by simp only[toNat_natCast];exact ζd L,by simp only;omega⟩;exact i k Y Zaa w G;intro d;have d:¬e.kind=3:=by simpa using d
 refine(bf _).2 ⟨⟨m+1,D,Zaa,λk Y ad w G=>?_⟩,U⟩;by_cases o:k=m;subst o;have:Y=e:=by have⟨P1,a1,a2⟩:=u;have⟨P2,Z,f⟩:=w;rw[a1]at Z;cases Z;rw[a2]at f;cases f;rfl
 subst this;exact absurd G d;exact i k Y Zaa w G;intro h;have ae:y.l.length<=m:=by simpa[len]using h
 have N:=dZ n Zaa;refine(bf _).2 ((bf _).2 ⟨⟨n+1,N,Zaa,λp k e a hp u S O g=>?_⟩,by show _-(wrap .i64 ((n:Int)+1)).toNat<_;rw[N];simp;omega⟩);by_cases ep:p=n;subst ep;rw[ζd C]at S;cases S;exact i k e Zaa u g;exact K p k e a Zaa u S O g;intro h;have ae:c.l.length<=n:=by simpa[len]using h
 refine(bf _).2 ((bf _).2 ⟨λ_ p k e a u S O g=>K p k e a (by have:=(ζe.1 S).1;omega) u S O g,λh=>(by cases h)⟩)
theorem ED{t:Z4}(f:Small t)(g:b9 t=some true)(i:VT t){A:bU 200 bq}(l:eB t (bO t) A){c:Zg}(B:tO t c.l):Wp (ig t c) λr=>(r.2.2=false↔oE t A c.l):=by refine(VC f g i l B).mono λr d=>⟨d.1,λm=>?_⟩;cases h:r.2.2 with|false=>rfl|true=>obtain⟨p,k,e,a,q,j,y,b,n,u,w,z,C,D,_,G,I,-⟩:=d.2 h;have⟨J,g1,g2⟩:=m p k e a n u w z;rw[C,D]at g1 g2;simp only[toNat_natCast]at g1 g2;rw[G]at g1;cases g1;omega
theorem xN{s:Zb}{p:Zg->aY X'}{f:Zg->X'}(hp:∀x∈s.l,p x=some (f x))(B:s.l.length<1073741824):iT s p=some (s.l.any f):=by have h:eU s p=some (place f s.l):=qG hp Zaa (λi=>rfl);unfold iT;rw[h,ζb,tC]
theorem Fj{t:Z4}(d:Small t){c:Zg}(D:c.l.length=t.procs.l.length):Wp (kn t c) λb=>(b=true↔tO t c.l):=by
 have f:=d.1;unfold kn kn.W1;refine lW (λs:Int=>∃n:Nat,s=n/\n<=c.l.length/\∀(p:Nat)(a:Int)(P:bP),p<n->c.l[p]?=some a->t.procs.l[p]?=some P->0<=a/\a<=P.events.l.length) (λs:Int=>c.l.length-s.toNat) ⟨0,rfl,zero_le _,λp a P h=>absurd h Zaa⟩ ?_;rintro s ⟨n,rfl,O,G⟩;unfold kn.bz;rw[dO];constructor;intro h;have w:n<c.l.length:=by simpa[len]using h
 have u:n<t.procs.l.length:=Zaa;have I:=dZ n Zaa;rw[bL w,ζb,bL u,ζb,I_,ζb,dO];constructor;intro z;have z:c.l[n]<0\/c.l[n]>t.procs.l[n].events.l.length:=by simpa[len]using z
 refine(bf _).2 ((bf _).2 ⟨λh=>(by cases h),λJ=>?_⟩);have:=J.2 n _ _ (ζd w) (ζd u);omega;intro z;have z:0<=c.l[n]/\c.l[n]<=t.procs.l[n].events.l.length:=by simpa[len]using z
 refine(bf _).2 ⟨⟨n+1,I,Zaa,λp a P Q B C=>?_⟩,by rw[I];simp;omega⟩;by_cases e:p=n;subst e;rw[ζd w]at B;cases B;rw[ζd u]at C;cases C;exact z;exact G p a P Zaa B C;intro h;have L:c.l.length<=n:=by simpa[len]using h
 refine(bf _).2 ((bf _).2 ⟨λ_=>⟨D,λp a P B C=>G p a P (by have:=(ζe.1 B).1;omega) B C⟩,λ_=>rfl⟩)
def Code(t:Z4)(A:bU 200 bq)(c:SW)(r:Int):Prop:=c.length≠t.procs.l.length/\r=1\/c.length=t.procs.l.length/\¬tO t c/\r=2\/tO t c/\¬oE t A c/\r=18\/tO t c/\oE t A c/\r=0
theorem Qh{t:Z4}(a:Small t)(d:b9 t=some true)(i:VT t){A:bU 200 bq}(j:eB t (bO t) A)(c:Zg):
 Wp (c8 t (Sl.row [c]:Zb) (Sl.nil:Zg)) λr=>Code t A c.l r:=by
 unfold c8 yb;rw[d,ζb,br,xN (f:=λz=>(kM z t).getD false) (λz _=>LS.ok ((bf _).2 trivial)) (by simp[Sl.l]),ζb,ζb,ζb]
 have w:(!((Sl.row [c]:Zb).l.any λz=>(kM z t).getD false))=(len c==len t.procs):=by simp[Sl.l,kM]
 rw[w,dO];constructor
 .intro h;have B:c.l.length=t.procs.l.length:=by
   have:(c.l.length:Int)=t.procs.l.length:=by simpa[len]using h
   omega
  unfold c8.W1;refine lW (λs:Int=>s=0\/s=1/\tO t c.l) (λs:Int=>1-s.toNat) (.inl rfl) ?_
  intro s D;unfold c8.bz;rcases D with rfl|⟨rfl,G⟩
  .rw[show decide ((0:Int)<len (Sl.row [c]:Zb))=true from rfl,br,show idx (Sl.row [c]:Zb) 0=some c from rfl,ζb,fA];refine(Fj a B).mono λb u=>?_
   rw[dO];exact⟨λI=>(bf _).2 ⟨.inr ⟨rfl,u.1 I⟩,by decide⟩,λC=>(bf _).2 ((bf _).2 (.inr (.inl ⟨B,λh=>(by rw[u.2 h]at C;cases C),rfl⟩)))⟩
  rw[show decide ((1:Int)<len (Sl.row [c]:Zb))=false from rfl,bu,bf];show Wp (c8.W2 (Sl.row [c]) Sl.nil 0 0 t) _;unfold c8.W2;refine lW (λs:Int=>s=0) (λ_=>0) rfl ?_
  rintro s rfl;unfold c8.cI;rw[show decide ((0:Int)<0)=false from rfl,bu,bf];show Wp (c8.W3 (Sl.row [c]) 1 0 t) _;unfold c8.W3;refine lW (λs:Int=>s=0\/s=1/\oE t A c.l) (λs:Int=>1-s.toNat) (.inl rfl) ?_
  intro s D;unfold c8.kQ;rcases D with rfl|⟨rfl,k⟩
  .rw[show decide ((0:Int)<1)=true from rfl,br,show idx (Sl.row [c]:Zb) 0=some c from rfl,ζb];unfold xd;rw[fA,fA];refine(ED a d i j G).mono λr g=>?_
   rw[bf,dO];exact⟨λu=>(bf _).2 ⟨.inr ⟨rfl,g.1 (by simpa using u)⟩,by decide⟩,λu=>(bf _).2 ((bf _).2 (.inr (.inr (.inl ⟨G,λh=>(by have:=g.2 h;simp[this]at u),rfl⟩))))⟩
  rw[show decide ((1:Int)<1)=false from rfl,bu,bf];exact(bf _).2 (.inr (.inr (.inr ⟨G,k,rfl⟩)))
 intro h;exact(bf _).2 (.inl ⟨λe=>(by simp[len,e]at h),rfl⟩)
theorem Code.zero{t:Z4}{A:bU 200 bq}{c:SW}{r:Int}(h:Code t A c r):r=0↔tO t c/\oE t A c:=by rcases h with⟨h,rfl⟩|⟨_,h,rfl⟩|⟨_,h,rfl⟩|⟨a,w,rfl⟩;exact⟨λh=>(by cases h),λu=>absurd u.1.1 h⟩;exact⟨λh=>(by cases h),λu=>absurd u.1 h⟩;exact⟨λh=>(by cases h),λu=>absurd u.2 h⟩;exact⟨λ_=>⟨a,w⟩,λ_=>rfl⟩
theorem RG{t:Z4}(a:Small t)(b:b9 t=some true)(d:VT t){A:bU 200 bq}(e:eB t (bO t) A)(c:Zg):Wp (c8 t (Sl.row [c]:Zb) (Sl.nil:Zg)) λr=>(r=0↔tO t c.l/\oE t A c.l):=(Qh a b d e c).mono λ_ h=>h.zero
def Cons(t:Z4)(A:bU 200 bq)(c:SW):Prop:=tO t c/\oE t A c
def places{α:Type}(f:α->X')(l:aX α):So:=(range l.length).filter λk=>match l[k]?with|some x=>f x|none=>false
theorem Oe{α:Type}{f:α->X'}{l:aX α}{k:Nat}:k∈places f l↔∃x,l[k]?=some x/\f x=true:=by unfold places;rw[List.mem_filter,mem_range];constructor;rintro⟨a,u⟩;rw[ζd a]at u;exact⟨_,ζd a,u⟩;rintro⟨x,a,u⟩;exact⟨(ζe.1 a).1,by rw[a];exact u⟩
theorem Jz{α:Type}(f:α->X')(l:aX α):(places f l).Nodup:=List.nodup_range.sublist (List.filter_sublist ..)
theorem EW{α:Type}(f:α->X'):∀l:aX α,(places f l).length=l.countP f:=by intro l;unfold places;rw[<-List.countP_eq_length_filter];induction l with|nil=>rfl|cons x l u=>rw[length_cons,List.range_succ_eq_map,countP_cons,List.countP_map,countP_cons];simp only[List.getElem?_cons_zero];rw[<-u];congr 1
theorem GJ{α β:Type}{f:α->X'}{g:β->X'}{l:aX α}{m:aX β}(φ:Nat->Nat)(h:∀k∈places f l,φ k∈places g m)(hi:∀k B,k∈places f l->B∈places f l->φ k=φ B->k=B):l.countP f<=m.countP g:=by
 rw[<-EW,<-EW];have w:((places f l).map φ).Nodup:=by unfold Nodup;rw[pairwise_map];exact Pairwise.imp_of_mem (λ{a b}z C u D=>u (hi a b z C D)) (Jz f l)
 have:=Af (r:=places g m) w λx G=>by obtain⟨k,c,rfl⟩:=mem_map.1 G;exact h k c
 simpa using this
end Go.VE
namespace Go.VE
def qe(kind m:Int)(x:a_×W5):X':=x.2.kind==kind&&x.2.message==m
def nS(t:Z4)(kind m:Int):a_:=match(bO t).find? (qe kind m)with
 |some x=>x.1|none=>⟨0,0⟩
theorem AG{t:Z4}{kind m:Int}{x:a_×W5}(h:(bO t).find? (qe kind m)=some x):x∈bO t/\x.2.kind=kind/\x.2.message=m/\nS t kind m=x.1:=by have a:=List.find?_some h;simp only[qe,ζh,beq_iff_eq]at a;exact⟨List.mem_of_find?_eq_some h,a.1,a.2,by unfold nS;rw[h]⟩
theorem SL{t:Z4}{kind m:Int}{x:a_×W5}(B:x∈bO t)(a:x.2.kind=kind)(D:x.2.message=m):∃y,(bO t).find? (qe kind m)=some y:=by cases u:(bO t).find? (qe kind m)with|some y=>exact⟨y,rfl⟩|none=>rw[find?_eq_none]at u;exact absurd (u x B) (by simp[qe,a,D])
theorem Nx{t:Z4}{kind m:Int}(h:∀x∈bO t,¬(x.2.kind=kind/\x.2.message=m)):nS t kind m=⟨0,0⟩:=by
 unfold nS;have:(bO t).find? (qe kind m)=none:=by rw[find?_eq_none];intro x u;simp only[qe,ζh,beq_iff_eq];exact h x u
 rw[this]
theorem LD{t:Z4}(D:∀x∈bO t,wk t.procs.l.length x.1.proc x.2)(G:Ue t){z:a_}{f:W5}(B:(z,f)∈bO t)(a:f.kind=3):∃e,(nS t 2 f.message,e)∈bO t/\e.kind=2/\e.message=f.message:=by
 have h:=G.has _ B a;have I:0<=f.peer:=by rcases D _ B with h|⟨_,h,_⟩;grind;omega
 rw[show f.peer=(f.peer.toNat:Nat)from Zaa,Ak]at h;have⟨k,e,u,b,w,_⟩:=h;have⟨y,C⟩:=SL (eE.2 ⟨_,k,u,rfl⟩:(⟨(f.peer.toNat:Nat),k+1⟩,e)∈bO t) b w;have⟨J,L,y3,y4⟩:=AG C;grind
theorem Qb:∀{d l:So},d.length=l.length->(∀(i a b:Nat),d[i]?=some a->l[i]?=some b->a<=b)->d.sum<=l.sum
 |[],_,_,_=>Zab|x::d,[],h,_=>Zad|x::d,y::l,h,B=>by have c:=B 0 x y rfl rfl;have u:=Qb (d:=d) (l:=l) Zac λi a b w z=>B (i+1) a b Zac Zac;simp;omega
structure Kh(t:Trace)(d:List Nat):Prop where
 len:d.length=t.procs.l.length
 le:∀(p k:Nat)P,d[p]?=some k->t.procs.l[p]?=some P->k<=P.events.l.length
 acc:∀(p k j:Nat),d[p]?=some k->j<k->Acc (Edge t) ⟨p,j+1⟩
def FZ(t:Z4):Nat:=(t.procs.l.map λP=>P.events.l.length).sum
theorem Kh.sum{t:Z4}{d:So}(h:Kh t d):d.sum<=FZ t:=Qb (by simp[h.len]) λi a b z u=>by cases w:t.procs.l[i]?with|none=>grind|some P=>simp[w]at u;rw[<-u];exact h.le i a P z w
theorem G8{α:Type}{f g:α->X'}:∀{l:aX α},(∀z∈l,f z=true->g z=true)->(∃z∈l,f z=false/\g z=true)->l.countP f<l.countP g
 |[],_,⟨z,b,_⟩=>by simp at b|a::l,h,⟨z,b,B,hg⟩=>by simp only[countP_cons];have D:=List.countP_mono_left (l:=l) (p:=f) (q:=g) λx u=>h x (mem_cons_of_mem _ u);rcases mem_cons.1 b with rfl|b;simp[B,hg];omega;have:=G8 (l:=l) (λx u=>h x (mem_cons_of_mem _ u)) ⟨z,b,B,hg⟩;have c:=h a (List.mem_cons_self ..);cases w:f a with|true=>simp[c w];omega|false=>simp;split<;>omega
end Go.VE
namespace Go.VE
theorem OM{t:Z4}(a:VT t){A:bU 200 bq}(b:eB t (bO t) A){p k:Nat}{e:W5}(B:pO t p k e)(c:e.kind=3):nS t 2 e.message=(ag A e.message).from_:=by have⟨y,d,u,w⟩:=LD a.formed a.ok.CK (eE.2 ⟨p,k,B,rfl⟩:((⟨p,k+1⟩:a_),e)∈bO t) c;have:=b.snd _ d u;simp only[w]at this;exact this.symm
theorem LQ(t:Z4)(kind m:Int):nS t kind m=⟨0,0⟩/\(∀x∈bO t,¬(x.2.kind=kind/\x.2.message=m))\/∃z,(nS t kind m,z)∈bO t/\z.kind=kind/\z.message=m:=by cases h:(bO t).find? (qe kind m)with|some x=>have⟨a1,a2,w,B⟩:=AG h;exact .inr ⟨x.2,by rw[B];exact a1,a2,w⟩|none=>rw[find?_eq_none]at h;have u:∀x∈bO t,¬(x.2.kind=kind/\x.2.message=m):=λx C=>(by have:=h x C;simpa[qe]using this);exact .inl ⟨Nx u,u⟩
theorem Mn{t:Z4}(a:VT t){r s:a_}{z e:W5}(b:(r,z)∈bO t)(D:z.kind=3)(B:(s,e)∈bO t)(G:e.kind=2)(J:e.message=z.message):e.peer=r.proc/\z.peer=s.proc:=by
 have h:=a.ok.CK.has _ b D;have L:0<=z.peer:=by rcases a.formed _ b with h|⟨_,h,_⟩;simp only at h;omega;exact h
 rw[show z.peer=((z.peer.toNat:Nat):Int)from Zaa,Ak]at h;have⟨k,y,w,c,C,I⟩:=h;have u:((⟨(z.peer.toNat:Nat),k+1⟩:a_),y)∈bO t:=eE.2 ⟨_,k,w,rfl⟩;have:=a.ok.CK.snd _ u _ B c G (by rw[J];exact C);simp only at this;subst this;cases Dt u B rfl;exact⟨I,by simp only;omega⟩
def q_(t:Z4)(c:SW)(e:W5):X':=(nS t 3 e.message).index==0||decide ((nS t 3 e.message).index>(c[(nS t 3 e.message).proc.toNat]?).getD 0)
theorem AV{α:Type}(f g:α->X'):∀l:aX α,l.countP f=l.countP (λx=>f x&&g x)+l.countP (λx=>f x&& !g x)
 |[]=>rfl|x::l=>by simp only[countP_cons,AV f g l];cases f x<;>cases g x<;>simp<;>omega
theorem vu{α:Type}{f:α->X'}{l:aX α}{n k:Nat}:k∈places f (l.take n)↔k<n/\∃x,l[k]?=some x/\f x=true:=by rw[Oe];simp only[getElem?_take];constructor;rintro⟨x,a,u⟩;split at a;exact⟨‹_›,x,a,u⟩;cases a;rintro⟨h,x,a,u⟩;exact⟨x,by rw[if_pos h];exact a,u⟩
theorem Vg{t:Z4}(i:VT t){A:bU 200 bq}(hM:eB t (bO t) A){c:SW}(y:Cons t A c){p q:Nat}{P Q:bP}{a b:Int}(J:t.procs.l[p]?=some P)(D:t.procs.l[q]?=some Q)(M:c[p]?=some a)(r:c[q]?=some b):
 (Q.events.l.take b.toNat).countP (zq p)=(P.events.l.take a.toNat).countP λe=>gp q e&& !q_ t c e:=by
 have f:∀{p:Nat}{P:bP}{k:Nat}{e:W5},t.procs.l[p]?=some P->P.events.l[k]?=some e->((⟨p,k+1⟩:a_),e)∈bO t:=λJ g=>eE.2 ⟨_,_,⟨_,J,g⟩,rfl⟩
 have a0:=(y.1.2 p a P M J).1;have b0:=(y.1.2 q b Q r D).1;have r1:∀k,k∈places (zq p) (Q.events.l.take b.toNat)->∃(z:W5)(j:Nat)(e:W5),Q.events.l[k]?=some z/\z.kind=3/\P.events.l[j]?=some e/\e.kind=2/\e.peer=q/\e.message=z.message/\nS t 2 z.message=⟨p,j+1⟩/\(j:Int)+1<=a/\(k:Int)+1<=b:=λk g=>by have⟨aj,z,d,u⟩:=vu.1 g;have u:z.kind=3/\z.peer=p:=(by simpa[zq]using u);have N:=f D d;have⟨e,e1,e2,e3⟩:=LD i.formed i.ok.CK N u.1;have⟨l,Z⟩:=Mn i N u.1 e1 e2 e3;have⟨p',j,⟨P',R,m⟩,G⟩:=eE.1 e1;simp only at l G m;rw[G]at Z;have ad:p'=p:=(by simp only at Z;omega);subst ad;rw[J]at R;cases R;have⟨x,C,I⟩:=y.2 q k z b ⟨Q,D,d⟩ r Zaa u.1;rw[<-OM i hM ⟨Q,D,d⟩ u.1,G]at C I;simp only[toNat_natCast]at C I;rw[M]at C;cases C;exact⟨z,j,e,d,u.1,m,e2,l,e3,G,I,Zaa⟩
 have E:∀k,k∈places (λe=>gp q e&& !q_ t c e) (P.events.l.take a.toNat)->∃(e:W5)(j:Nat)(z:W5),P.events.l[k]?=some e/\e.kind=2/\Q.events.l[j]?=some z/\z.kind=3/\z.peer=p/\z.message=e.message/\nS t 3 e.message=⟨q,j+1⟩/\(j:Int)+1<=b:=λk g=>by have⟨ak,e,d,u⟩:=vu.1 g;simp only[ζh,not_eq_true',q_,Bool.or_eq_false_iff,gp,beq_iff_eq,beq_eq_false_iff_ne,decide_eq_false_iff_not]at u;have⟨⟨g1,g2⟩,g3,g4⟩:=u;rcases LQ t 3 e.message with⟨h,_⟩|⟨z,s,v,z3⟩;rw[h]at g3;exact absurd rfl g3;have⟨l,Z⟩:=Mn i s v (f J d) g1 z3.symm;have⟨q',j,⟨Q',V,m⟩,G⟩:=eE.1 s;simp only at G m l Z;rw[G]at l g4;have ae:q'=q:=(by simp only at l;omega);subst ae;rw[D]at V;cases V;simp only[toNat_natCast,r,getD_some]at g4;exact⟨e,j,z,d,g1,m,v,Z,z3,G,Zaa⟩
 apply Nat.le_antisymm
 .refine GJ (λk=>match Q.events.l[k]?with|some z=>((nS t 2 z.message).index-1).toNat|none=>0) (λk g=>?_) λk F g L H=>?_
  .have⟨z,j,e,d,u,O,n,o,S,T,h8,h9⟩:=r1 k g;rw[d];simp only[T];rw[show((j:Int)+1-1).toNat=j from Zaa]
   refine vu.2 ⟨Zaa,e,O,?_⟩
   have af:nS t 3 e.message=⟨q,k+1⟩:=by rcases LQ t 3 e.message with⟨_,h⟩|⟨z',s,v,z3⟩;exact absurd ⟨u,S.symm⟩ (h _ (f D d));exact i.ok.CK.rcv _ s _ (f D d) v u (by rw[z3,S])
   simp only[q_,af,gp,n,o,toNat_natCast,r,getD_some];simp;omega
  have⟨z,j,e,d,u,O,n,o,S,T,_⟩:=r1 k g;have⟨z',K,e',w,U,B,ah,ai,W,X,_⟩:=r1 F L;simp only[d,w,T,X]at H;have Y:j=K:=Zaa
  subst Y;rw[O]at B;cases B;have:=i.ok.CK.rcv _ (f D d) _ (f D w) u U (by rw[<-S,W])
  simp only[a_.mk.injEq]at this;omega
 refine GJ (λk=>match P.events.l[k]?with|some e=>((nS t 3 e.message).index-1).toNat|none=>0) (λk g=>?_) λk F g L H=>?_
 .have⟨e,j,z,d,u,O,n,o,S,T,h8⟩:=E k g;rw[d];simp only[T];rw[show((j:Int)+1-1).toNat=j from Zaa]
  exact vu.2 ⟨Zaa,z,O,by simp[zq,n,o]⟩
 have⟨e,j,z,d,u,O,n,o,S,T,_⟩:=E k g;have⟨e',K,z',w,U,B,ah,ai,W,X,_⟩:=E F L;simp only[d,w,T,X]at H;have Y:j=K:=Zaa
 subst Y;rw[O]at B;cases B;have:=i.ok.CK.snd _ (f J d) _ (f J w) u U (by rw[<-S,W])
 simp only[a_.mk.injEq]at this;omega
theorem Gt{t:Z4}(d:VT t){A:bU 200 bq}(f:eB t (bO t) A){c:SW}(g:Cons t A c){p q:Nat}{P Q:bP}{a b:Int}(B:t.procs.l[p]?=some P)(D:t.procs.l[q]?=some Q)(G:c[p]?=some a)(J:c[q]?=some b):
 under t c p q=((P.events.l.take a.toNat).countP λe=>gp q e&&q_ t c e:Nat):=by
 unfold under;rw[B,D,G,J];dsimp only;rw[Vg d f g B D G J,AV (gp q) (q_ t c)];omega
theorem gY{σ ε ρ γ:Type}{step:σ->aY (Fw σ ε ρ)}{B:ε->aY γ}{fr:ρ->aY γ}{P:γ->Prop}(n:Nat)(I:Nat->σ->Prop){s:σ}(G:I 0 s)
 (h:∀i s,i<n->I i s->Wp (step s) λw=>match w with|.n D=>I (i+1) D|.x e=>Wp (B e) P|.r b=>Wp (fr b) P)
 (J:∀s,I n s->Wp (step s) λw=>match w with|.n _=>False|.x e=>Wp (B e) P|.r b=>Wp (fr b) P):Wp ((cD step s).bind (Fw.elim B fr)) P:=by
 have key:∀m i s,i+m=n->I i s->Wp ((cD step s).bind (Fw.elim B fr)) P:=by
  intro m
  induction m with
  |zero=>intro i s hi z;have⟨w,u,a⟩:=J s Zac;rw[gu,u];cases w with|n D=>grind|x e=>exact a|r b=>exact a
  |succ m C=>intro i s hi z;have⟨w,u,a⟩:=h i s Zaa z;rw[gu,u];cases w with|n D=>grind|x e=>exact a|r b=>exact a
 exact key n 0 s (Nat.zero_add n) G
def bump(c:SW)(p:Nat)(d:Int):SW:=c.set p ((c[p]?).getD 0+d)
theorem sQ:∀{c:SW}{p:Nat}{a b:Int},c[p]?=some a->(c.set p b).sum=c.sum-a+b
 |[],_,_,_,h=>Zad|x::c,0,a,b,h=>Zac|x::c,p+1,a,b,h=>by have:=sQ (b:=b) (by simpa using h);grind
theorem ue:∀{c:SW},(∀(p:Nat)a,c[p]?=some a->0<=a)->0<=c.sum
 |[],_=>Zab|x::c,h=>by have b:=h 0 x rfl;have u:=ue (c:=c) λp a w=>h (p+1) a Zac;grind
theorem JO:∀{c:SW},(∀(p:Nat)a,c[p]?=some a->0<=a)->c.sum=0->∀(p:Nat)a,c[p]?=some a->a=0
 |[],_,_,p,a,B=>Zad|x::c,h,D,p,a,B=>by have d:=h 0 x rfl;have b:∀(p:Nat)a,c[p]?=some a->0<=a:=λp a B=>h (p+1) a Zac;have u:=ue b;simp at D;cases p with|zero=>grind|succ p=>exact JO b Zaa p a Zac
theorem L3:∀{c:SW}{l:So},c.length=l.length->(∀(i:Nat)a b,c[i]?=some a->l[i]?=some b->a<=(b:Nat))->c.sum<=(l.sum:Nat)
 |[],[],_,_=>Zab|x::c,y::l,B,h=>by have d:=h 0 x y rfl rfl;have u:=L3 (c:=c) (l:=l) Zac λi a b w z=>h (i+1) a b Zac Zac;grind
section
variable{t:Z4}{A:bU 200 bq}{c:SW}
theorem tO.pos(h:tO t c)(p:Nat)(a:Int)(B:c[p]?=some a):0<=a:=(h.2 p a _ B (ζd (by have:=(ζe.1 B).1;rw[<-h.1];simp_all))).1
theorem tO.at_(h:tO t c){p:Nat}(hp:p<t.procs.l.length):∃a,c[p]?=some a:=⟨_,ζd (by rw[h.1];omega)⟩
theorem tO.sum(h:tO t c):0<=c.sum/\c.sum<=(FZ t:Nat):=
 ⟨ue h.pos,L3 (by simp[h.1]) λi a b z u=>by
  cases w:t.procs.l[i]?with
  |none=>grind|some P=>simp[w]at u;rw[<-u];exact(h.2 i a P z w).2⟩
theorem tO.set(h:tO t c){p:Nat}{b:Int}{P:bP}(B:t.procs.l[p]?=some P)(D:0<=b)(d:b<=P.events.l.length):tO t (c.set p b):=by refine⟨by simp[h.1],λq a Q u w=>?_⟩;rw[getElem?_set]at u;split at u;grind;exact h.2 q a Q u w
def Fv(t:Z4)(A:bU 200 bq)(c:SW)(p:Nat):Prop:=∃P e a,t.procs.l[p]?=some P/\c[p]?=some a/\P.events.l[a.toNat]?=some e/\(e.kind=3->∃b,c[(ag A e.message).from_.proc.toNat]?=some b/\(ag A e.message).from_.index<=b)
theorem pO.one{p k:Nat}{e f:W5}(h:pO t p k e)(g:pO t p k f):e=f:=by have⟨P,a1,a2⟩:=h;have⟨Q,u,w⟩:=g;grind
theorem oE.le(h:oE t A c){p:Nat}{a b:Int}(D:c[p]?=some a)(J:a<=b)(T:∀(k:Nat)e,pO t p k e->a<=k->(k:Int)<b->e.kind=3->∃B,(c.set p b)[(ag A e.message).from_.proc.toNat]?=some B/\(ag A e.message).from_.index<=B):oE t A (c.set p b):=by
 have I:=(ζe.1 D).1;have up:∀(q:Nat)x,c[q]?=some x->∃y,(c.set p b)[q]?=some y/\x<=y:=λq x u=>by rw[getElem?_set];grind
 intro q k e x w u d G;rw[getElem?_set]at u;have old:∀x,c[q]?=some x->k<x->∃B,(c.set p b)[(ag A e.message).from_.proc.toNat]?=some B/\(ag A e.message).from_.index<=B:=λx u d=>by have⟨y,L,O⟩:=h q k e x w u d G;have⟨z,Q,S⟩:=up _ y L;exact⟨z,Q,Zaa⟩
 split at u;rename_i U;subst U;simp[I]at u;subst u;by_cases C:k<a;exact old a D C;exact T k e w Zaa d G;grind
theorem z8(a:VT t)(b:eB t (bO t) A){p k:Nat}{e:W5}(B:pO t p k e)(D:e.kind=3):∃q j:Nat,(ag A e.message).from_=⟨q,j+1⟩/\q≠p/\P0 t ⟨q,j+1⟩ ⟨p,k+1⟩/\∃y,pO t q j y:=by have⟨q,j,y,u,z,C,y3,y4,y5⟩:=vc a b B D;have w:(⟨p,k+1⟩,e)∈bO t:=eE.2 ⟨p,k,B,rfl⟩;refine⟨q,j,y5,?_,⟨y,e,eE.2 ⟨q,j,u,rfl⟩,w,z,D,C⟩,y,u⟩;rcases a.formed _ w with h|⟨_,_,_,h,_⟩;grind;grind
theorem Cons.up(g:VT t)(i:eB t (bO t) A)(d:Cons t A c){p:Nat}{a:Int}{P:bP}(B:t.procs.l[p]?=some P)(D:c[p]?=some a)(U:a<P.events.l.length):Fv t A c p↔Cons t A (c.set p (a+1)):=by have W:=d.1.pos p a D;have X:=(ζe.1 D).1;constructor;rintro⟨Q,e,x,G,I,L,w⟩;rw[B]at G;cases G;rw[D]at I;cases I;refine⟨d.1.set B Zaa Zaa,d.2.le D Zaa λk f z O S Y=>?_⟩;have C:k=a.toNat:=Zaa;subst C;cases z.one ⟨P,B,L⟩;grind;intro h;have u:a.toNat<P.events.l.length:=Zaa;refine⟨P,P.events.l[a.toNat],a,B,D,ζd u,λw=>?_⟩;have⟨b,J,T⟩:=h.2 p a.toNat _ (a+1) ⟨P,B,ζd u⟩ Zad Zaa w;rw[getElem?_set]at J;split at J;have⟨q,j,l,Z,_⟩:=z8 g i ⟨P,B,ζd u⟩ w;grind;grind
noncomputable def J_ (t:Trace) (x:a_):Nat:=by
 classical
 exact(bO t).countP λz=>decide (Way t z.1 x)
theorem MA (hV:VT t) {x y:a_} (h:Way t x y):J_ t x<J_ t y:=by
 classical
 refine G8 (λz _ u=>?_) ?_
 .have u:Way t z.1 x:=by grind
  simpa using u.trans h
 obtain⟨e,w⟩:=h.l;exact⟨(x,e),w,by simpa using λk=>hV.ok.acyc ⟨x,k⟩,by grind⟩
theorem Uy (x:a_):J_ t x<=(bO t).length:=by
 classical
 unfold J_;grind
theorem Vd.of{p k:Nat}{e:W5}(h:pO t p k e):Vd t ⟨p,k+1⟩:=⟨e,eE.2 ⟨p,k,h,rfl⟩⟩
theorem Jo{p:Nat}{P:bP}(B:t.procs.l[p]?=some P):∀(d k:Nat),k+d+1<P.events.l.length->Way t ⟨p,k+1⟩ ⟨p,((k+d+1:Nat):Int)+1⟩
 |0,k,h=>.single ⟨Vd.of ⟨P,B,ζd Zaa⟩,Vd.of ⟨P,B,ζd h⟩,.inl Zab⟩|d+1,k,h=>(Jo B d k Zaa).tail ⟨Vd.of ⟨P,B,ζd (show k+d+1<_ by omega)⟩,Vd.of ⟨P,B,ζd h⟩,.inl (by simp;omega)⟩
theorem Xm{q k:Nat}{b:Int}{Q:bP}{x:a_}(B:t.procs.l[q]?=some Q)(h:Way t x ⟨q,k+1⟩)(a:(k:Int)<b)(D:b<=Q.events.l.length):Way t x ⟨q,b⟩:=by by_cases e:b=k+1;grind;have:=Jo B (b.toNat-k-2) k Zaa;rw[show((k+(b.toNat-k-2)+1:Nat)+1)=b from Zaa]at this;exact h.trans this
theorem Cons.Mp(f:VT t)(g:eB t (bO t) A)(d:Cons t A c){p:Nat}{a:Int}(D:c[p]?=some a)(m:0<a):Cons t A (c.set p (a-1))\/∃(q:Nat)(b:Int),c[q]?=some b/\0<b/\Way t ⟨p,a⟩ ⟨q,b⟩:=by
 have Y:=(ζe.1 D).1;have L:=ζd (show p<t.procs.l.length by rw[<-d.1.1];omega);have n:=d.1.2 p a _ D L;refine byContradiction λB=>B (.inl ⟨d.1.set L Zaa Zaa,λq k e x u I o O=>?_⟩);obtain⟨z,w,Z⟩:∃z,c[q]?=some z/\x<=z:=by rw[getElem?_set]at I;split at I;(next e2=>subst e2;simp[Y]at I;exact⟨a,D,Zaa⟩);grind
 have⟨y,G,C⟩:=d.2 q k e z u w Zaa O;have⟨r,j,h,s,i,_⟩:=z8 f g u O;rw[h]at G C⊢;simp only[toNat_natCast]at G C⊢;by_cases e2:p=r;subst e2;rw[D]at G;cases G;refine⟨a-1,Zad,?_⟩;refine byContradiction λv=>B (.inr ⟨q,z,w,Zaa,?_⟩);have:a=j+1:=Zaa;subst this;have⟨Q,S,_⟩:=u;have J:=d.1.2 q z Q w S;have⟨T,U,W,X,l⟩:=i;exact Xm S (.single ⟨⟨T,W⟩,⟨U,X⟩,.inr ⟨T,U,W,X,l⟩⟩) Zaa J.2;simp_all
theorem Cons.YD(d:VT t)(e:eB t (bO t) A)(f:Cons t A c):∀(n p:Nat)(a:Int),c[p]?=some a->0<a->(bO t).length-J_ t ⟨p,a⟩<=n->∃(q:Nat)(b:Int),c[q]?=some b/\0<b/\Cons t A (c.set q (b-1)):=by
 intro n
 induction n with
 |zero=>intro p a u w C;rcases f.Mp d e u w with h|⟨q,b,_,_,z⟩;grind;have:=MA d z;have:=Uy (t:=t) ⟨q,b⟩;omega
 |succ n D=>intro p a u w C;rcases f.Mp d e u w with h|⟨q,b,G,B,z⟩;grind;have:=MA d z;exact D q b G B Zaa
theorem Cons.down(e:VT t)(f:eB t (bO t) A)(d:Cons t A c)(B:0<c.sum):∃(q:Nat)(b:Int),c[q]?=some b/\0<b/\Cons t A (c.set q (b-1)):=by
 obtain⟨p,a,u,z⟩:∃(p:Nat)(a:Int),c[p]?=some a/\0<a:=by refine byContradiction λw=>?_;have D:∀a∈c,a=0:=λa u=>(by have⟨p,C⟩:=mem_iff_getElem?.1 u;have:=d.1.pos p a C;grind);have:c.sum=0:=(by clear d B w;induction c with|nil=>rfl|cons x c G=>simp_all);omega
 exact d.YD e f _ p a u z (le_refl _)
theorem Cons.Gu(a:VT t)(e:eB t (bO t) A):∀(d:Nat){c:SW}{k:Nat},Cons t A c->c.sum=((k+d:Nat):Int)->∃c',Cons t A c'/\c'.sum=(k:Int)
 |0,c,k,hC,D=>⟨c,hC,Zac⟩|d+1,c,k,hC,D=>by have⟨q,b,G,J,B⟩:=hC.down a e Zaa;exact Cons.Gu a e d B (by rw[sQ G];omega)
end
theorem kX{α:Type}{s:Sl α}{n:Nat}(h:n<s.l.length):decide ((n:Int)<len s)=true:=by simp[len];omega
theorem mc{α:Type}{s:Sl α}:decide ((s.l.length:Int)<len s)=false:=by simp[len]
theorem lT{α:Type}{s:Sl α}{x:α}(h:s.l.length<2147483648):∃r,fW s x=some r/\r.l=s.l++[x]:=by unfold fW;rw[if_pos Zaa];exact⟨_,rfl,rfl⟩
theorem oD{α:Type}{s:Sl α}{p:Nat}(h:p<s.l.length):Sl.lS s (p:Int)=some p:=by unfold Sl.lS;rw[if_pos ⟨Zaa,by simpa using h⟩];rfl
theorem put_eq{α:Type}{s:Sl α}{p:Nat}{x:α}(h:p<s.l.length):∃r,Sl.put s p x=some r/\r.l=s.l.set p x:=by unfold Sl.put;rw[if_pos h];exact⟨_,rfl,by cases s<;>first|rfl|(simp[Sl.l]at h)⟩
section
variable{t:Z4}{A:bU 200 bq}
end
def ins(s:Zb):aX SW:=s.l.map Sl.l
theorem Ls{α:Type}(s:Sl α)(i:Nat)(h:i<=s.l.length):∃x,iP s (some (i:Int)) none=some x/\x.l=s.l.drop i:=by unfold iP ec;simp only[getD_some,Option.getD_none];rw[if_pos ⟨Zaa,Zaa,Zaa⟩];exact⟨_,rfl,by cases s<;>simp[Sl.l]⟩
def NT(t:Z4)(A:bU 200 bq)(c d:SW):Prop:=∃(p:Nat)(a:Int),c[p]?=some a/\d=c.set p (a+1)/\Cons t A d
section
variable{t:Z4}{A:bU 200 bq}
theorem tA{s:Zb}{d:SW}:d∈ins s↔∃x∈s.l,x.l=d:=by unfold ins;exact mem_map
theorem VN{r s:Zb}{x:Zg}(h:r.l=s.l++[x]){d:SW}:d∈ins r↔d∈ins s\/d=x.l:=by unfold ins;rw[h];simp
def CF(t:Z4)(A:bU 200 bq)(k:Nat)(s:Zb):Prop:=∀d,d∈ins s↔Cons t A d/\d.sum=(k:Int)
theorem NT.iff(g:VT t)(h:eB t (bO t) A){k:Nat}{d:SW}:(∃c,(Cons t A c/\c.sum=(k:Int))/\NT t A c d)↔Cons t A d/\d.sum=((k+1:Nat):Int):=by
 constructor;rintro⟨c,⟨f,B⟩,p,a,C,rfl,u⟩;exact⟨u,by rw[sQ C];omega⟩;rintro⟨u,B⟩;have⟨q,b,w,D,f⟩:=u.down g h Zaa;have z:=(ζe.1 w).1;refine⟨_,⟨f,by rw[sQ w];omega⟩,q,b-1,by simp[z],?_,u⟩;rw[List.set_set,show b-1+1=b from Zaa];refine ext_getElem? λi=>?_;rw[getElem?_set];split;next e=>subst e;simp[z,w];exact(ζe.1 w).2.symm▸rfl
 rfl
theorem Sq{s:Zb}{n:Nat}(h:n<s.l.length){d:SW}:d∈(s.l.take (n+1)).map Sl.l↔d∈(s.l.take n).map Sl.l\/d=s.l[n].l:=by rw[show s.l.take (n+1)=s.l.take n++[s.l[n]]from by rw[take_add_one,ζd h];rfl];simp only[map_append,mem_append,map_cons,map_nil,mem_singleton]
theorem LV:∀n:Nat,(replicate n (0:Int)).sum=0
 |0=>rfl|n+1=>by rw[List.replicate_succ,sum_cons,LV n];rfl
theorem Ey:Cons t A (replicate t.procs.l.length 0):=by
 have w:∀(p:Nat)a,(replicate t.procs.l.length (0:Int))[p]?=some a->a=0:=λp a h=>by rw[List.getElem?_replicate]at h;split at h<;>cases h;rfl
 exact⟨⟨Zab,λp a P u _=>by rw[w p a u];omega⟩,λp k e a _ u b=>by rw[w p a u]at b;omega⟩
theorem NS{z:Zg}(B:z.l=replicate t.procs.l.length 0):CF t A 0 (Sl.row [z]):=by
 intro d;have:d∈ins (Sl.row [z])↔d=replicate t.procs.l.length 0:=by unfold ins;rw[<-B];exact mem_singleton
 rw[this];constructor;rintro rfl;exact⟨Ey,by rw[LV];rfl⟩;rintro⟨a,u⟩;refine ext_getElem? λi=>?_;rw[List.getElem?_replicate,<-a.1.1];split;next hi=>have h:=ζd hi;rw[h,JO a.1.pos (by simpa using u) i _ h]
 exact getElem?_eq_none Zaa
theorem CF.none(a:VT t)(b:eB t (bO t) A){k:Nat}{s:Zb}(h:CF t A k s)(D:s.l.length=0){d:SW}(B:Cons t A d):d.sum<(k:Int):=by refine byContradiction λu=>?_;have C:=ue B.1.pos;have⟨c,e,w⟩:=Cons.Gu a b (d.sum.toNat-k) (k:=k) B Zaa;have:=(h c).2 ⟨e,w⟩;have⟨x,z,_⟩:=tA.1 this;have:=List.length_pos_of_mem z;omega
theorem CF.last{s:Zb}(h:CF t A (FZ t+1) s):s.l.length=0:=by refine byContradiction λu=>?_;have w:=getElem_mem (show 0<s.l.length by omega);have:=(h s.l[0].l).1 (tA.2 ⟨_,w,rfl⟩);have:=this.1.1.sum;omega
theorem Qk{α:Type}(s:Sl α):decide ((len s)>0)= !decide (s.l.length=0):=by by_cases h:s.l.length=0;simp[len,h];simp[h,len];omega
end
def iy:SW->SW->Int
 |[],[]=>0|[],_::_=>-1|_::_,[]=>1|x::a,y::b=>if x<y then -1 else if x>y then 1 else iy a b
theorem yx:∀a,iy a a=0
 |[]=>rfl|x::a=>by simp[iy,yx a]
theorem B1:∀a b c,iy a b<0->iy b c<0->iy a c<0
 |[],[],_,h,_=>by simp[iy]at h|[],_::_,[],_,h=>by simp[iy]at h|[],_::_,_::_,_,_=>by simp[iy]|_::_,[],_,h,_=>by simp[iy]at h|_::_,_::_,[],_,h=>by simp[iy]at h|x::a,y::b,z::c,h1,B=>by have D:=B1 a b c;simp only[iy]at h1 B⊢;split at h1;split at B;rw[if_pos Zaa];omega;split at B;omega;rw[if_pos Zaa];omega;split at h1;omega;split at B;rw[if_pos Zaa];omega;split at B;omega;rw[if_neg Zaa,if_neg Zaa];exact D h1 B
theorem zn:∀a b,¬iy a b<0->¬iy b a<0->a=b
 |[],[],_,_=>rfl|[],_::_,h,_=>by simp[iy]at h|_::_,[],_,h=>by simp[iy]at h|x::a,y::b,h1,B=>by have D:=zn a b;simp only[iy]at h1 B;split at h1;omega;split at B;omega;rw[D (by first|assumption|(split at h1<;>first|assumption|omega)) (by first|assumption|(split at B<;>first|assumption|omega)),show x=y from Zaa]
theorem Sg(a b c:SW)(d:¬iy a b<0)(B:¬iy b c<0):¬iy a c<0:=λh=>by by_cases u:iy b a<0;exact B (B1 b a c u h);rw[zn a b d u]at h;exact B h
theorem SD{α:Type}{s:Sl α}{p:α->α->Pi}{f:α->SW}(hp:∀x y,x∈s.l->y∈s.l->p x y=some (iy (f x) (f y)))(T:s.l.length<2147483648):∃r,zT s p=some r/\r.l.Perm s.l/\r.l.Pairwise λx y=>¬iy (f y) (f x)<0:=by
 unfold zT;split;next h=>exact⟨s,rfl,List.Perm.refl _,by rw[h];exact Pairwise.nil⟩
 rename_i x l h;rw[if_pos (by rw[h]at T;simp at T;omega)];simp only;have S:∀i j:_root_.Fin (l.length+1),p (x::l)[i.1] (x::l)[j.1]=some (iy (f (x::l)[i.1]) (f (x::l)[j.1])):=λi j=>hp _ _ (by rw[h];exact getElem_mem _) (by rw[h];exact getElem_mem _);have C:(qj λi j:_root_.Fin (l.length+1)=>p (x::l)[i.1] (x::l)[j.1])=λi j=>decide (iy (f (x::l)[i.1]) (f (x::l)[j.1])<0):=by funext i j;unfold qj;show decide ((p _ _).getD 0<0)=_;rw[S];rfl
 have D:B8 (λi j:_root_.Fin (l.length+1)=>p (x::l)[i.1] (x::l)[j.1])=true:=by have u:∀i j,qj (λi j:_root_.Fin (l.length+1)=>p (x::l)[i.1] (x::l)[j.1]) i j=decide (iy (f (x::l)[i.1]) (f (x::l)[j.1])<0):=λi j=>(by rw[C]);refine all_eq_true.2 λi _=>Bool.and_eq_true_iff.2 ⟨by rw[u,yx];rfl,all_eq_true.2 λj _=>Bool.and_eq_true_iff.2 ⟨by show(p _ _).isSome=true;rw[S];rfl,all_eq_true.2 λk _=>Bool.and_eq_true_iff.2 ⟨?_,?_⟩⟩⟩;have:=B1 (f (x::l)[i.1]) (f (x::l)[j.1]) (f (x::l)[k.1]);rw[u,u,u];simp only[or_eq_true,not_eq_true',Bool.and_eq_false_iff,decide_eq_true_eq,decide_eq_false_iff_not];omega;have:=Sg (f (x::l)[i.1]) (f (x::l)[j.1]) (f (x::l)[k.1]);rw[u,u,u];simp only[or_eq_true,not_eq_true',decide_eq_true_eq,decide_eq_false_iff_not];omega
 rw[if_pos D];have G:=(rq D).2;have J:=Sort.pdq_sorts _ G (finRange (l.length+1)).toArray 0 (l.length+1) (Lib.bitLen (l.length+1)) true true (zero_le _) Zab (Or.inl rfl);rw[<-Dz]at J;generalize rN l.length _=d at J;have⟨⟨z,_,w⟩,B⟩:=J;have z:d.size=l.length+1:=by simpa using z
 have I:∀y:aX α,(s.re y).l=y:=λy=>by cases s<;>first|rfl|(simp[Sl.l]at h)
 refine⟨_,rfl,?_,?_⟩;rw[I,h];have a:d.extract 0 (l.length+1)=d:=Array.ext (by simp[z]) λi a L=>by simp
 rw[a]at w;have L:((finRange (l.length+1)).toArray.extract 0 (l.length+1)).toList=finRange (l.length+1):=by simp[List.take_of_length_le]
 rw[L]at w;refine(w.map _).trans ?_;rw[show(finRange (l.length+1)).map (λi=>(x::l)[i.1])=x::l from ?_];exact ext_getElem Zab λi a L=>Zab;rw[I,pairwise_map,List.pairwise_iff_getElem];intro i j hi O Q;have:=B i j (zero_le _) Q (by simpa[z]using O);rw[C]at this;simp only[Array.length_toList]at hi O;simp only[getElem!_pos d i hi,getElem!_pos d j O,decide_eq_false_iff_not]at this;simpa using this
def JN(c:SW):SW:=c.sum::c
def SmI(c:SW):Prop:=c.length<=8/\∀x∈c,0<=x/\x<1073741824
def iQ(x y:SW):Prop:=iy (JN x) (JN y)<0
instance(x y:SW):Decidable (iQ x y):=by unfold iQ;exact inferInstance
theorem iQ.GK(x:SW):¬iQ x x:=by unfold iQ;rw[yx];omega
theorem iQ.tr{x y z:SW}(h:iQ x y)(k:iQ y z):iQ x z:=B1 _ _ _ h k
theorem iQ.tot{x y:SW}(h:¬iQ x y)(k:¬iQ y x):x=y:=by have:=zn _ _ h k;unfold JN at this;exact(List.cons.inj this).2
theorem iQ.sum{x y:SW}(h:x.sum<y.sum):iQ x y:=by unfold iQ JN;simp[iy,h]
theorem EI:∀{l r:aX SW},l.Pairwise iQ->r.Pairwise iQ->(∀x,x∈l↔x∈r)->l=r
 |[],[],_,_,_=>rfl|[],y::r,_,_,h=>by have:=(h y).2 Zab;simp at this|x::l,[],_,_,h=>by have:=(h x).1 Zab;simp at this|x::l,y::r,C,hr,h=>by have e:x=y:=(by rcases mem_cons.1 ((h x).1 Zab)with e|e;exact e;rcases mem_cons.1 ((h y).2 Zab)with k|k;exact k.symm;exact absurd (((pairwise_cons.1 hr).1 x e).tr ((pairwise_cons.1 C).1 y k)) (iQ.GK y));subst e;congr 1;have u:=pairwise_cons.1 C;have w:=pairwise_cons.1 hr;refine EI u.2 w.2 λz=>⟨λB=>?_,λB=>?_⟩;rcases mem_cons.1 ((h z).1 (mem_cons_of_mem _ B))with e|e;exact absurd (e▸u.1 z B) (iQ.GK x);exact e;rcases mem_cons.1 ((h z).2 (mem_cons_of_mem _ B))with e|e;exact absurd (e▸w.1 z B) (iQ.GK x);exact e
theorem LF{t:Z4}{A:bU 200 bq}(b:Small t)(d:VT t){c:SW}(a:Cons t A c):SmI c:=by
 refine⟨a.1.1▸d.few,λx z=>?_⟩;have⟨p,w,e⟩:=List.mem_iff_getElem.1 z;have u:p<t.procs.l.length:=by rw[<-a.1.1];exact w
 have:=a.1.2 p x _ (by rw[ζd w,e]) (ζd u);have k:=(b.2 _ (getElem_mem u)).1;omega
theorem iQ.Xu{x y:SW}(h:x.sum=y.sum):iQ x y↔iy x y<0:=by unfold iQ JN;simp only[iy,if_neg (show¬x.sum<y.sum by omega),if_neg (show¬x.sum>y.sum by omega)]
theorem iQ.nodup{L:aX SW}(h:L.Pairwise iQ):L.Nodup:=h.imp λ{x y}(h:iQ x y)(e:x=y)=>iQ.GK y (by rw[e]at h;exact h)
theorem SF{α:Type}{s:Sl α}{p:α->α->aY X'}{f:α->SW}(hp:∀x y,x∈s.l->y∈s.l->p x y=some (decide (f x=f y)))(g:s.l.length<2147483648)(Y:s.l.Pairwise λx y=>¬iy (f y) (f x)<0):
 ∃r,y8 s p=some r/\(r.l.map f).Nodup/\(∀d,d∈r.l.map f↔d∈s.l.map f)/\r.l.length<=s.l.length:=by
 have Q:∀i,i<s.l.length->0<i->∃(a:i<s.l.length)(O:i-1<s.l.length),uE s.l p i=some (decide (f s.l[i]=f s.l[i-1])):=λi h k=>by refine⟨h,Zaa,?_⟩;unfold uE;rw[ζd h,ζd (show i-1<s.l.length by omega)];exact hp _ _ (getElem_mem _) (getElem_mem _)
 unfold y8;rw[if_pos ⟨Zaa,all_eq_true.2 λi hi=>by
  by_cases h:i=0
  .subst h;rfl
  have⟨_,_,e⟩:=Q i (mem_range.1 hi) Zaa
  rw[e];simp⟩]
 have B:∀y:aX α,(s.l=[]->y=[])->(s.uA y).l=y:=λy z=>by cases s<;>first|rfl|exact(z rfl).symm
 have S:∀i,i∈kept (λi=>(uE s.l p i).getD false) s.l.length↔i<s.l.length/\(i=0\/(uE s.l p i).getD false=false):=λi=>by unfold kept;simp[List.mem_filter]
 have C:=B4 (λi=>(uE s.l p i).getD false) s.l.length
 have T:(kept (λi=>(uE s.l p i).getD false) s.l.length).Pairwise (·<·):=by unfold kept;exact List.pairwise_lt_range.filter _
 generalize kept (λi=>(uE s.l p i).getD false) s.l.length=K at *
 have w:(s.uA (K.filterMap (s.l[·]?))).l=K.filterMap (s.l[·]?):=B _ λh=>by rw[h];simp
 refine⟨_,rfl,?_,λd=>?_,?_⟩
 .rw[w,Nodup,pairwise_map,List.pairwise_filterMap];refine T.imp_of_mem ?_;intro i j hi Z l x u y z D;have⟨U,G⟩:=(S j).1 Z;have⟨a,O,e⟩:=Q j U Zaa
  rw[e]at G;have W:¬f s.l[j]=f s.l[j-1]:=by rcases G with h|h;omega;simpa using h
  rw[ζd a]at z;cases z;have I:i<s.l.length:=Zaa
  rw[ζd I]at u;cases u;have J:=List.pairwise_iff_getElem.1 Y;have a1:=J (j-1) j O a Zaa
  refine W (zn _ _ a1 ?_)
  by_cases e2:i=j-1
  .subst e2;rw[<-D,yx];omega
  have a2:=J i (j-1) I O Zaa
  rw[D]at a2;exact a2
 .rw[w];simp only[mem_map,List.mem_filterMap];constructor
  .rintro⟨x,⟨i,_,u⟩,rfl⟩;exact⟨x,mem_of_getElem? u,rfl⟩
  rintro⟨x,u,rfl⟩;have⟨i,hi⟩:=mem_iff_getElem?.1 u;have key:∀(i:Nat)x,s.l[i]?=some x->∃y,(∃j,j∈K/\s.l[j]?=some y)/\f y=f x:=by intro i;induction i with|zero=>intro x u;exact⟨x,⟨0,(S 0).2 ⟨(ζe.1 u).1,.inl rfl⟩,u⟩,rfl⟩|succ i ih=>intro x u;have L:=(ζe.1 u).1;have⟨a,O,e⟩:=Q (i+1) L Zaa;have X:s.l[i+1]=x:=(ζe.1 u).2;by_cases b:f s.l[i+1]=f s.l[i+1-1];have⟨y,z,c⟩:=ih _ (ζd (show i<s.l.length by omega));exact⟨y,z,by rw[c,<-X];exact b.symm⟩;exact⟨x,⟨i+1,(S _).2 ⟨L,.inr (by rw[e];simpa using b)⟩,u⟩,rfl⟩
  exact key i x hi
 rw[w];exact Nat.le_trans (List.length_filterMap_le ..) C
theorem Nb{a b:Zg}(J:a.l.length<1073741824):j7 a b=some (iy a.l b.l):=by
 refine Wp.eq ?_;unfold j7 fe fe.W1;rw[fA];refine gY a.l.length (λn s=>s=(n:Int)/\n<=b.l.length/\iy (a.l.drop n) (b.l.drop n)=iy a.l b.l) ⟨rfl,zero_le _,rfl⟩ ?_ ?_;rintro n _ w ⟨rfl,C,u⟩;unfold fe.bz;rw[kX w,br,bL w,ζb];have hd:a.l.drop n=a.l[n]::a.l.drop (n+1):=drop_eq_getElem_cons w;by_cases D:n<b.l.length;have G:b.l.drop n=b.l[n]::b.l.drop (n+1):=drop_eq_getElem_cons D;rw[show decide ((n:Int)>=len b)=false from by simp[len];omega,bu,bL D,ζb];rw[hd,G]at u;simp only[iy]at u;generalize a.l[n]=x at *;generalize b.l[n]=y at *;have z:qm x y=some (if x<y then -1 else if x>y then 1 else 0):=by unfold qm sB;simp only[bne_self_eq_false,ζb,bu,br];by_cases c:x<y;simp[c,bl];by_cases B:x>y;simp[c,B,bl];simp[c,B,bl]
 rw[z,ζb];by_cases c:x<y;rw[if_pos c]at u⊢;rw[show((-1:Int)==0)=false from rfl,bu,bf];exact(bf _).2 ((bf _).2 u);rw[if_neg c]at u⊢;by_cases B:x>y;rw[if_pos B]at u⊢;rw[show((1:Int)==0)=false from rfl,bu,bf];exact(bf _).2 ((bf _).2 u);rw[if_neg B]at u⊢;rw[show((0:Int)==0)=true from rfl,br,bf];exact⟨dZ n Zaa,D,u⟩;rw[show decide ((n:Int)>=len b)=true from by simp[len];omega,br,bf];rw[hd,drop_eq_nil_of_le (show b.l.length<=n by omega)]at u;exact(bf _).2 ((bf _).2 u);rintro _ ⟨rfl,C,u⟩;unfold fe.bz;rw[mc,bu,bf];rw[drop_eq_nil_of_le (le_refl _)]at u;by_cases h:a.l.length<b.l.length;rw[show decide (len a<len b)=true from by simp[len];omega,br];rw[drop_eq_getElem_cons h]at u;exact(bf _).2 ((bf _).2 u);rw[show decide (len a<len b)=false from by simp[len];omega,bu];rw[drop_eq_nil_of_le (show b.l.length<=a.l.length by omega)]at u;exact(bf _).2 ((bf _).2 u)
theorem xI{a b:Zg}(D:a.l.length<1073741824):dX a b=some (decide (a.l=b.l)):=by
 refine Wp.eq ?_;unfold dX;rw[dO];refine⟨λh=>?_,λh=>(bf _).2 ?_⟩;have h:(a.l.length:Int)=b.l.length:=by simpa[len]using h
 have h:a.l.length=b.l.length:=Zaa;unfold dX.W1;refine gY a.l.length (λn s=>s=(n:Int)/\∀i,i<n->a.l[i]?=b.l[i]?) ⟨rfl,λi h=>absurd h Zaa⟩ ?_ ?_;rintro n _ u ⟨rfl,z⟩;unfold dX.bz;have B:n<b.l.length:=by omega
 rw[show decide ((n:Int)<len a)=true from kX u,br,bL u,ζb,bL B,ζb,dO];refine⟨λw=>(bf _).2 ⟨dZ n Zaa,λi hi=>?_⟩,λw=>(bf _).2 ((bf _).2 ?_)⟩;by_cases e:i=n;subst e;rw[ζd u,ζd B];simpa using w;exact z i Zaa;refine(decide_eq_false λe=>?_).symm;have c:a.l[n]?=b.l[n]?:=by rw[e]
 rw[ζd u,ζd B]at c;simp at w c;exact w c;rintro _ ⟨rfl,z⟩;unfold dX.bz;rw[mc,bu,bf];refine(bf _).2 (decide_eq_true (ext_getElem? λi=>?_)).symm;by_cases hi:i<a.l.length;exact z i hi;rw[getElem?_eq_none Zaa,getElem?_eq_none Zaa];refine(decide_eq_false λe=>?_).symm;simp[len,e]at h
section
variable{t:Z4}{A:bU 200 bq}
def wu(A:bU 200 bq)(e:W5):a_:=if e.kind=3 then(ag A e.message).from_ else⟨0,0⟩
structure Ur(t:Trace)(A:bU 200 bq)(n:Nat)(m:cu):Prop where
 lens:m.lengths.l=(t.procs.l.take n).map λP=>(P.events.l.length:Int)
 need:m.need.l.map Sl.l=(t.procs.l.take n).map λP=>P.events.l.map (wu A)
theorem of_wp(d:Small t)(h:b9 t=some true)(f:VT t)(g:eB t (bO t) A):Wp (kO t) (Ur t A t.procs.l.length):=by
 have Y:=f.few;unfold kO kO.W1;refine gY t.procs.l.length (λn s=>s.1=(n:Int)/\s.2.1=t/\Ur t A n s.2.2.2) ⟨rfl,rfl,rfl,rfl⟩ ?_ ?_;rintro n ⟨_,_,Z,I⟩ z ⟨a,B,u⟩;simp only at a B u;subst a;have B:=B.symm;subst B;unfold kO.bz;rw[kX z,br,bL z,ζb];have O:=ζd z;have H:=(d.2 _ (getElem_mem z)).1;generalize K:t.procs.l[n]=P at *;unfold kO.W2;refine gY P.events.l.length (λk s=>s.2.1=(k:Int)/\s.2.2.1=t/\s.2.2.2.2=I/\s.1.l=(P.events.l.take k).map (wu A)) ⟨rfl,rfl,rfl,rfl⟩ ?_ ?_;rintro k ⟨nd,_,_,T,_⟩ c ⟨Q,C,D,L⟩;simp only at Q C D L;subst Q;have C:=C.symm;have D:=D.symm;subst C D;unfold kO.cI;rw[kX c,br,bL c,ζb];have U:pO t n k P.events.l[k]:=⟨P,O,ζd c⟩;have G:P.events.l.take (k+1)=P.events.l.take k++[P.events.l[k]]:=by rw[take_add_one,ζd c];rfl
 generalize P.events.l[k]=e at *;have fin:∀id,id=wu A e->Wp (kO.J3 nd t.procs (len t.procs) n P.events (len P.events) k t ⟨Sl.nil,Sl.nil⟩ I P id) λw=>match w with|.n S=>S.2.1=((k+1:Nat):Int)/\S.2.2.1=t/\S.2.2.2.2=I/\S.1.l=(P.events.l.take (k+1)).map (wu A)|.x e=>False|.r b=>False:=λid W=>by unfold kO.J3;have⟨r,i,l⟩:=lT (s:=nd) (x:=id) (by rw[L];simp;omega);rw[i,ζb,bf];exact⟨dZ k Zaa,rfl,rfl,by rw[l,L,G,map_append,W];rfl⟩
 rw[dO];constructor;intro u;have u:e.kind=3:=by simpa using u
 have⟨q,j,y,m,o,p,y3,y4,y5⟩:=vc f g U u;have X:=AX d h g (eE.2 ⟨q,j,m,rfl⟩:((⟨q,j+1⟩:a_),y)∈bO t) o;simp only at X;rw[p]at X;rw[X,ζb];refine(fin _ (by unfold wu;rw[if_pos u,y5])).mono λw J=>?_;cases w with|n s=>exact J|x e=>exact J.elim|r b=>exact J.elim
 intro u;have u:¬e.kind=3:=by simpa using u
 refine(fin _ (by unfold wu;rw[if_neg u])).mono λw J=>?_;cases w with|n s=>exact J|x e=>exact J.elim|r b=>exact J.elim
 rintro⟨nd,_,_,T,_⟩ ⟨Q,C,D,L⟩;simp only at Q C D L;subst Q;have C:=C.symm;have D:=D.symm;subst C D;unfold kO.cI;have M:I.lengths.l.length=n:=by rw[u.lens];simp;omega
 have N:I.need.l.length=n:=by have:=congrArg List.length u.need;simp at this;omega
 have⟨v,a1,a2⟩:=lT (s:=I.lengths) (x:=len P.events) Zaa;have⟨x2,E,F⟩:=lT (s:=I.need) (x:=nd) Zaa;rw[mc,bu,bf];simp only;rw[a1,ζb,E,ζb,bf];have G:t.procs.l.take (n+1)=t.procs.l.take n++[P]:=by rw[take_add_one,O];rfl
 refine⟨dZ n Zaa,rfl,?_,?_⟩;show v.l=_;rw[a2,u.lens,G,map_append];rfl;show x2.l.map Sl.l=_;rw[F,map_append,u.need,G,map_append,map_cons,L,take_length];rfl;rintro⟨_,_,Z,I⟩ ⟨a,B,u⟩;simp only at a B u;subst a;have B:=B.symm;subst B;unfold kO.bz;rw[mc,bu,bf];exact(bf _).2 u
theorem Tv(f:VT t)(g:eB t (bO t) A){m:cu}(n:Ur t A t.procs.l.length m){c:Zg}(d:Cons t A c.l){p:Nat}(hp:p<t.procs.l.length):
 Wp (pg m c p) λb=>(b=true↔∃a,c.l[p]?=some a/\Cons t A (c.l.set p (a+1))):=by
 have V:=d.1.1;have u:=ζd hp;have⟨a,w⟩:=d.1.at_ hp;have F:=d.1.2 p a _ w u;generalize t.procs.l[p]=P at *;have D:m.lengths.l[p]?=some (P.events.l.length:Int):=by rw[n.lens,take_length,getElem?_map,u];rfl
 have J:=(ζe.1 w).1;have L:idx c (p:Int)=some a:=by rw[jN];exact w
 unfold pg;rw[L,ζb,jN,D,ζb,dO];constructor
 .intro h;have h:a=P.events.l.length:=by simpa using h
  refine(bf _).2 ⟨λh=>(by cases h),λ⟨b,B,O⟩=>?_⟩
  rw[w]at B;cases B;have:=O.1.2 p (a+1) P (by simp[J]) u
  omega
 intro h;have h:¬a=P.events.l.length:=by simpa using h
 have S:a<P.events.l.length:=Zaa
 have o:=congrArg (λl=>l[p]?) n.need
 simp only[take_length,getElem?_map,u,map_some]at o;have⟨nd,T,U⟩:=ζf.1 o;have z:a.toNat<P.events.l.length:=Zaa
 have H:idx nd a=some (wu A P.events.l[a.toNat]):=by rw[Th F.1,U,getElem?_map,ζd z];rfl
 rw[jN,T,ζb,ζb,H,ζb];have W:=d.up f g u w S;have G:(∃b,c.l[p]?=some b/\Cons t A (c.l.set p (b+1)))↔Fv t A c.l p:=by rw[W];exact⟨λ⟨b,B,k⟩=>by rw[w]at B;cases B;exact k,λk=>⟨a,w,k⟩⟩
 rw[G];have X:pO t p a.toNat P.events.l[a.toNat]:=⟨P,u,ζd z⟩;have Y:Fv t A c.l p↔(P.events.l[a.toNat].kind=3->∃b,c.l[(ag A P.events.l[a.toNat].message).from_.proc.toNat]?=some b/\(ag A P.events.l[a.toNat].message).from_.index<=b):=⟨λ⟨Q,e,x,r,v,C,K⟩=>by rw[u]at r;cases r;rw[w]at v;cases v;rw[ζd z]at C;cases C;exact K,λh=>⟨P,_,a,u,w,ζd z,h⟩⟩
 rw[Y];generalize P.events.l[a.toNat]=e at *;unfold wu
 by_cases C:e.kind=3
 .rw[if_pos C];have⟨q,j,M,_,_,y,Q,N,_⟩:=z8 f g X C;have Z:q<c.l.length:=by have:=(ζe.1 N).1;omega
  rw[M];simp only[toNat_natCast];rw[bL Z,ζb,bf];simp only[decide_eq_true_eq];exact⟨λh _=>⟨_,ζd Z,h⟩,λh=>by have⟨b,B,R⟩:=h C;rw[ζd Z]at B;cases B;exact R⟩
 rw[if_neg C];have E:0<c.l.length:=Zaa
 have I:=d.1.pos 0 _ (ζd E);have hi:idx c ((⟨0,0⟩:a_).proc)=some c.l[0]:=bL (s:=c) (i:=0) E;rw[hi,ζb,bf];exact⟨λ_ h=>absurd h C,λ_=>by simpa using I⟩
end
theorem Hj{α:Type}:∀l:aX α,(range l.length).filterMap (l[·]?)=l
 |[]=>rfl|x::l=>by rw[length_cons,List.range_succ_eq_map,List.filterMap_cons,List.filterMap_map];show x::(range l.length).filterMap (λi=>(x::l)[i+1]?)=_;simp only[List.getElem?_cons_succ];rw[Hj l]
theorem U7{α:Type}{s r:Sl α}{p:α->α->aY X'}(h:y8 s p=some r):r.l.Sublist s.l:=by
 unfold y8 at h;split at h
 .cases h;have key:((kept (λi=>(uE s.l p i).getD false) s.l.length).filterMap (s.l[·]?)).Sublist s.l:=by
   have e:=Hj s.l
   conv=>rhs;rw[<-e]
   exact List.Sublist.filterMap _ (by unfold kept;exact List.filter_sublist)
  generalize(kept (λi=>(uE s.l p i).getD false) s.l.length).filterMap (s.l[·]?)=y at *
  cases s<;>first|exact key|(simp[Sl.uA,Sl.l])
 cases h
theorem Ai{c:Zg}(D:c.l.length<=1073741824)(B:0<c.l.length):∃d,(dI c).bind Sl.whole=some d/\d.l=c.l:=by
 unfold dI;have key:((xO (Sl.row []:Zg) c).bind λx=>some x).bind Sl.whole=some (.row ([]++c.l)):=by unfold xO;rw[if_neg (λh=>by rw[h]at B;simp at B),if_pos (show(Sl.row ([]:SW)).l.length+c.l.length<=2147483648 from show 0+c.l.length<=_ by omega)];rfl
 cases c with|nil=>simp[Sl.l]at B|emp=>simp[Sl.l]at B|part l=>exact⟨_,key,rfl⟩|row l=>exact⟨_,key,rfl⟩
section
variable{t:Z4}{A:bU 200 bq}
theorem RE(H:Small t)(i:VT t)(q:eB t (bO t) A){m:cu}(K:Ur t A t.procs.l.length m){k:Nat}{B:Zb}(Y:CF t A k B)(V:B.l.length<=5000):
 Wp (eC m B) λr=>CF t A (k+1) r/\(ins r).Nodup/\r.l.length<=40000/\(ins r).Pairwise λx y=>¬iy y x<0:=by
 have ae:=i.few;unfold eC eC.W1;refine gY B.l.length (λn s=>s.2.1=len B/\s.2.2=(n:Int)/\s.1.l.length<=8*n/\∀d,d∈ins s.1↔∃c∈(B.l.take n).map Sl.l,NT t A c d) ⟨rfl,rfl,zero_le _,λd=>by simp[ins,Sl.l]⟩ ?_ ?_
 .rintro n ⟨out,_,_⟩ w ⟨e1,e2,g1,g2⟩;simp only at e1 e2 g1 g2;subst e1 e2;have L:=(Y B.l[n].l).1 (tA.2 ⟨_,getElem_mem w,rfl⟩);unfold eC.bz;rw[kX w,br,bL w,ζb];have O:∀d,d∈(B.l.take (n+1)).map Sl.l↔d∈(B.l.take n).map Sl.l\/d=B.l[n].l:=λd=>Sq w
  generalize B.l[n]=c at *;have af:=L.1.1.1;have ab:=i.ok.one;unfold eC.W2;refine gY c.l.length (λj s=>s.2=(j:Int)/\s.1.l.length<=8*n+j/\∀d,d∈ins s.1↔d∈ins out\/∃(p:Nat)(a:Int),p<j/\c.l[p]?=some a/\d=c.l.set p (a+1)/\Cons t A d) ⟨rfl,g1,λd=>⟨.inl,λh=>h.elim id λ⟨p,a,h,_⟩=>absurd h Zaa⟩⟩ ?_ ?_
  .rintro j ⟨o2,_⟩ U ⟨e,l,Q⟩;simp only at e l Q;subst e;unfold eC.cI;rw[show decide ((j:Int)<len c)=true from kX U,br,fA];refine(Tv i q K L.1 (p:=j) Zaa).mono λb v=>?_
   have u:=ζd U;have hr:=L.1.1.2 j _ _ u (ζd (show j<t.procs.l.length by omega))
   have ah:=(H.2 _ (getElem_mem (show j<t.procs.l.length by omega))).1
   generalize c.l[j]=a at *;have more:∀o3:Zb,(∀d,d∈ins o3↔d∈ins o2\/d=c.l.set j (a+1)/\Cons t A d)->∀d,d∈ins o3↔d∈ins out\/∃(p:Nat)(a:Int),p<j+1/\c.l[p]?=some a/\d=c.l.set p (a+1)/\Cons t A d:=λo3 h d=>by rw[h,Q];constructor;rintro((h|⟨p,b,h,k⟩)|⟨h,k⟩);exact .inl h;exact .inr ⟨p,b,Zaa,k⟩;exact .inr ⟨j,a,Zaa,u,h,k⟩;rintro(h|⟨p,b,h,k1,k2,k3⟩);exact .inl (.inl h);by_cases e:p=j;subst e;rw[u]at k1;cases k1;exact .inr ⟨k2,k3⟩;exact .inl (.inr ⟨p,b,Zaa,k1,k2,k3⟩)
   rw[dO];constructor
   .intro ht;have⟨x,C,X⟩:=v.1 ht;rw[u]at C;cases C;have⟨d,hd,z⟩:=Ai (c:=c) Zaa Zaa
    have⟨M,Z,S⟩:=put_eq (s:=d) (p:=j) (x:=a+1) (by rw[z];exact U)
    have⟨o3,N,D⟩:=lT (s:=o2) (x:=M) Zaa
    have P:Sl.get d j=some a:=by unfold Sl.get;rw[z];exact u
    rw[hd,ζb,oD (by rw[z];exact U),ζb,P,ζb,ζb,gb _ Zaa Zaa,Z,ζb,N,ζb,bf]
    refine⟨dZ j Zaa,by rw[D];simp;omega,more o3 λe=>?_⟩
    rw[VN D,S,z];exact⟨λh=>h.elim .inl λh=>.inr ⟨h,by rw[h];exact X⟩,λh=>h.elim .inl λh=>.inr h.1⟩
   intro E;refine(bf _).2 ⟨dZ j Zaa,Nat.le_succ_of_le l,more o2 λd=>⟨.inl,λh=>h.elim id λ⟨o,W⟩=>?_⟩⟩
   rw[v.2 ⟨a,u,by rw[<-o];exact W⟩]at E;cases E
  rintro⟨o2,_⟩ ⟨e,l,Q⟩;simp only at e l Q;subst e;unfold eC.cI;rw[mc,bu,bf];refine(bf _).2 ⟨rfl,dZ n Zaa,show o2.l.length<=_ by omega,λd=>?_⟩
  rw[Q];constructor
  .rintro (h|⟨p,a,_,h⟩)
   .have⟨c',g,G⟩:=(g2 d).1 h;exact⟨c',(O c').2 (.inl g),G⟩
   exact⟨_,(O _).2 (.inr rfl),p,a,h⟩
  rintro⟨c',g,G⟩;rcases(O c').1 g with h|h
  .exact .inl ((g2 d).2 ⟨c',h,G⟩)
  subst h;have⟨p,a,h⟩:=G;exact .inr ⟨p,a,(ζe.1 h.1).1,h⟩
 rintro⟨out,_,_⟩ ⟨e1,e2,g1,g2⟩;simp only at e1 e2 g1 g2;subst e1 e2;unfold eC.bz;rw[mc,bu,bf];simp only;have I:CF t A (k+1) out:=λd=>by rw[g2,take_length,<-NT.iff i q (k:=k)];exact⟨λ⟨c,g,G⟩=>⟨c,(Y c).1 g,G⟩,λ⟨c,g,G⟩=>⟨c,(Y c).2 g,G⟩⟩
 have J:∀s:Zb,(∀d,d∈ins s↔d∈ins out)->∀x∈s.l,x.l.length<1073741824:=λs h x C=>by have:=((I x.l).1 ((h x.l).1 (tA.2 ⟨x,C,rfl⟩))).1.1.1;omega
 have⟨r1,o,p1,F⟩:=SD (s:=out) (p:=j7) (f:=Sl.l) (λx y C _=>Nb (J out (λ_=>Iff.rfl) x C)) Zaa
 have T:∀d,d∈ins r1↔d∈ins out:=λd=>(p1.map Sl.l).mem_iff
 have ad:r1.l.length=out.l.length:=p1.length_eq;have⟨r2,W,nd,R,l2⟩:=SF (s:=r1) (p:=lJ) (f:=Sl.l) (λx y C _=>by unfold lJ;rw[xI (J r1 T x C)];rfl) Zaa F
 rw[o,ζb,W,ζb,bf];exact⟨λd=>(R d).trans ((T d).trans (I d)),nd,Zaa,by unfold ins;rw[pairwise_map];exact F.sublist (U7 W)⟩
end
theorem lp(s:Zb):(ins s).length=s.l.length:=by unfold ins;simp
theorem V3(s:Zb)(i:Nat):(ins s)[i]?=(s.l[i]?).map Sl.l:=by grind[ins]
theorem vX{s:Zb}{i:Nat}(h:i<s.l.length):(ins s)[i]?=some s.l[i].l:=by rw[V3,ζd h];rfl
section
variable{t:Z4}{A:bU 200 bq}
structure dA(t:Trace)(A:bU 200 bq)(L:List (List Int)):Prop where
 srt:L.Pairwise iQ
 mem:∀d,d∈L↔Cons t A d
def Gd(t:Z4)(A:bU 200 bq):Prop:=∃L:aX SW,L.Nodup/\(∀d∈L,Cons t A d)/\5000<L.length
theorem dA.one{L R:aX SW}(h:dA t A L)(k:dA t A R):L=R:=EI h.srt k.srt λx=>(h.mem x).trans (k.mem x).symm
theorem dA.not{L:aX SW}(h:dA t A L)(B:L.length<=5000)(k:Gd t A):False:=by have⟨R,nd,w,u⟩:=k;have:=Af nd λx z=>(h.mem x).2 (w x z);omega
theorem Qm{k:Nat}{o l:aX SW}(a:∀d,d∈l↔Cons t A d/\d.sum=(k:Int))(B:l.Pairwise iQ)(D:o.Pairwise iQ)(G:∀d,d∈o↔Cons t A d/\d.sum<(k:Int)):
 (o++l).Pairwise iQ/\∀d,d∈o++l↔Cons t A d/\d.sum<((k+1:Nat):Int):=by
 grind[iQ.sum]
theorem Se(a:VT t)(b:Small t):FZ t<8589934600:=by
 have key:∀(l:aX bP),(∀p∈l,p.events.l.length<1073741824)->(l.map λP=>P.events.l.length).sum<=1073741824*l.length:=by intro l;induction l with|nil=>grind|cons x l w=>grind
 have c:=key t.procs.l λp u=>(b.2 p u).1;have z:=a.few;grind[FZ]
theorem VQ{k:Int}{L:aX SW}(nd:L.Nodup)(B:L.Pairwise λx y=>¬iy y x<0)(a:∀d∈L,d.sum=k):L.Pairwise iQ:=by refine(B.and nd).imp_of_mem λ{x y}u w h=>?_;grind[iQ.Xu,zn]
theorem Pr(c:Small t)(g:b9 t=some true)(b:VT t)(f:eB t (bO t) A):
 Wp (nX t) λr=>(r.2=0/\dA t A (ins r.1)/\r.1.l.length<=5000)\/(r.2=16/\r.1=.nil/\Gd t A):=by
 have S:=b.few;have X:=Se b c;unfold nX ko;rw[g,ζb,br,fA,fA];refine(of_wp c g b f).mono λm T=>?_
 unfold qD;rw[if_pos ⟨Zad,Zac⟩,ζb]
 have fin:∀(k:Nat)(u:Zb)(out:Sl Zb),CF t A k u->u.l.length=0->(out.l.flatMap ins).Pairwise iQ->(∀d,d∈out.l.flatMap ins↔Cons t A d/\d.sum<(k:Int))->out.l.length<=5000->(out.l.flatMap ins).length<=5000->
  Wp ((fT out).bind λC=>some (C,(0:Int))) λr=>(r.2=0/\dA t A (ins r.1)/\r.1.l.length<=5000)\/(r.2=16/\r.1=.nil/\Gd t A):=λk u out a Q D U Y Z=>by
  have z:(out.l.flatMap Sl.l).map Sl.l=out.l.flatMap ins:=by rw[List.map_flatMap];rfl
  have i:(DH out).l=out.l.flatMap Sl.l:=by unfold DH;split;(next h=>exact(List.length_eq_zero_iff.1 h).symm);rfl
  unfold fT;rw[if_pos ⟨Zaa,Zac⟩,ζb,bf]
  have e:ins (DH out)=out.l.flatMap ins:=by grind[ins]
  refine .inl ⟨rfl,⟨Zac,λd=>by rw[e];exact(U d).trans ⟨λh=>h.1,λh=>⟨h,a.none b f Q h⟩⟩⟩,?_⟩
  grind
 unfold ko.W1;refine gY (FZ t+1) (λk s=>CF t A k s.1/\(ins s.1).Pairwise iQ/\(s.2.1.l.flatMap ins).Pairwise iQ/\(∀d,d∈s.2.1.l.flatMap ins↔Cons t A d/\d.sum<(k:Int))/\s.2.2=((s.2.1.l.flatMap ins).length:Int)/\s.2.1.l.length<=(s.2.1.l.flatMap ins).length/\(s.2.1.l.flatMap ins).length<=5000/\s.1.l.length<=40000)
  ⟨NS (by simp[Sl.l,len]),by simp[ins,Sl.l],by simp[Sl.l],λd=>⟨λh=>by grind[Sl.l],λh=>absurd (ue h.1.1.pos) Zac⟩,by simp[Sl.l],by simp[Sl.l],by simp[Sl.l],by simp[Sl.l]⟩ ?_ ?_
 .rintro k ⟨u,out,tot⟩ hk ⟨a,B,w,D,I,L,J,O⟩;simp only at a B w D I L J O;have⟨o1,o2⟩:=Qm a B w D;unfold ko.bz;rw[Qk]
  by_cases Q:u.l.length=0
  .rw[show(!decide (u.l.length=0))=false from Zad,bu,bf]
   grind[bf]
  rw[show(!decide (u.l.length=0))=true from Zad,br,I]
  have W:wrap .i64 (((out.l.flatMap ins).length:Int)+len u)=(((out.l.flatMap ins).length+u.l.length:Nat):Int):=by have e:len u=(u.l.length:Int):=rfl;rw[e,gb _ Zaa Zaa];omega
  rw[W,dO];refine⟨λG=>(bf _).2 ((bf _).2 ?_),λG=>?_⟩
  .show Wp (((fT (Sl.nil:Sl Zb)).bind λC=>some (C,(16:Int)))) _
   have e0:fT (Sl.nil:Sl Zb)=some .nil:=by unfold fT;rfl
   rw[e0,ζb,bf];refine .inr ⟨rfl,rfl,out.l.flatMap ins++ins u,iQ.nodup o1,λd hd=>((o2 d).1 hd).1,?_⟩
   have G:=of_decide_eq_true G;rw[ζi,lp];omega
  have G:=of_decide_eq_false G;have⟨o3,g1,g2⟩:=lT (s:=out) (x:=u) Zaa
  rw[g1,ζb,fA];refine(RE c b f T a Zaa).mono λr⟨r1,r2,r3,r4⟩=>?_
  have z:o3.l.flatMap ins=out.l.flatMap ins++ins u:=by rw[g2];simp
  refine(bf _).2 ⟨r1,VQ r2 r4 λd hd=>((r1 d).1 hd).2,by rw[z];exact o1,λd=>by rw[z];exact o2 d,by rw[z,ζi,lp],?_,?_,r3⟩
  all_goals grind[lp]
 rintro⟨u,out,tot⟩ ⟨a,B,w,D,I,L,J,O⟩;simp only at a B w D I L J O;unfold ko.bz;rw[Qk,show(!decide (u.l.length=0))=false from by simp[a.last],bu,bf]
 exact(bf _).2 (fin _ u out a a.last w D Zaa J)
end
theorem yM{t:Z4}(d:Small t)(e:b9 t=some true)(b:VT t){A:bU 200 bq}(f:eB t (bO t) A)(c:Zg):Wp (iM t c) λr=>Code t A c.l r.2:=by
 have G:=b.few;unfold iM;rw[fA];refine(Qh d e b f c).mono λr a=>?_;rw[dO];constructor;intro u;have u:r=0:=by simpa using u
 have g:=a.zero.1 u;have C:=g.1.1;unfold iM.W1;refine lW (λs:Sl a_×Int=>∃n:Nat,s.2=n/\n<=c.l.length/\s.1.l.length<=n) (λs=>c.l.length-s.2.toNat) ⟨0,rfl,zero_le _,le_refl _⟩ ?_;rintro⟨o,i⟩ ⟨n,hi,I,D⟩;simp only at hi D;subst hi;unfold iM.bz;rw[dO];constructor;intro h;have z:n<c.l.length:=by simpa[len]using h
 have B:=dZ n Zaa;have w:c.l.length-(wrap .i64 ((n:Int)+1)).toNat<c.l.length-((n:Int)).toNat:=by rw[B];simp;omega
 rw[bL z,ζb,dO];constructor;intro _;unfold fW;rw[if_pos (show o.l.length+1<=2147483648 from Zaa),ζb,bf];exact⟨⟨n+1,B,Zaa,by show(o.l++[_]).length<=n+1;rw[ζi,length_singleton];omega⟩,w⟩;intro _;exact(bf _).2 ⟨⟨n+1,B,Zaa,show o.l.length<=n+1 from Zaa⟩,w⟩;intro _;exact(bf _).2 ((bf _).2 (u▸a));intro u;exact(bf _).2 a
end Go.VE
namespace Go.VE
theorem Code.one{t:Z4}{A:bU 200 bq}{c:SW}{r s:Int}(h:Code t A c r)(g:Code t A c s):r=s:=by rcases h with⟨h,rfl⟩|⟨a,u,rfl⟩|⟨a,u,rfl⟩|⟨a,u,rfl⟩<;>rcases g with⟨g,rfl⟩|⟨g1,g2,rfl⟩|⟨g1,g2,rfl⟩|⟨g1,g2,rfl⟩<;>first|rfl|contradiction|exact absurd ‹tO t c›.1 ‹_›
section
variable{t:Z4}{A:bU 200 bq}
theorem Ja(g:Small t)(h:b9 t=some true)(i:VT t)(j:eB t (bO t) A){c:Zg}(d:Cons t A c.l){ps:So}(D:∀r∈ps,r<t.procs.l.length)(G:ps.length<1073741824):
 c8 t (Sl.row [c]:Zb) (Sl.row (ps.map λn:Nat=>(n:Int)):Zg)=some 0:=by
 refine Wp.eq ?_;have u:=d.1.1;unfold c8 yb;rw[h,ζb,br,xN (f:=λz=>(kM z t).getD false) (λz _=>LS.ok ((bf _).2 trivial)) (by simp[Sl.l]),ζb,ζb,ζb]
 have w:(!((Sl.row [c]:Zb).l.any λz=>(kM z t).getD false))=true:=by simp[Sl.l,kM,len,u]<;>exact congrArg Int.ofNat u
 rw[w,br];unfold c8.W1;refine gY 1 (λn s=>s=(n:Int)) rfl ?_ ?_
 .rintro n _ B rfl;obtain rfl:n=0:=by omega
  unfold c8.bz;rw[show decide (((0:Nat):Int)<len (Sl.row [c]:Zb))=true from rfl,br,show idx (Sl.row [c]:Zb) ((0:Nat):Int)=some c from rfl,ζb,fA];refine(Fj g u).mono λb C=>?_
  rw[C.2 d.1,br];exact(bf _).2 rfl
 rintro _ rfl;unfold c8.bz;rw[show decide (((1:Nat):Int)<len (Sl.row [c]:Zb))=false from rfl,bu,bf];have a:∀r:Nat,r<t.procs.l.length->vz t r=some true:=λr e=>by unfold vz;rw[show decide ((r:Int)>=0)=true from Zab,br,kX e];rfl
 show Wp (c8.W2 (Sl.row [c]) (Sl.row (ps.map λn:Nat=>(n:Int))) (len (Sl.row (ps.map λn:Nat=>(n:Int)))) 0 t) _
 unfold c8.W2;refine gY ps.length (λn s=>s=(n:Int)) rfl ?_ ?_
 .rintro n _ B rfl;unfold c8.cI;have I:idx (Sl.row (ps.map λn:Nat=>(n:Int))) (n:Int)=some ((ps[n]:Nat):Int):=by
   rw[bL (show n<(Sl.row (ps.map λn:Nat=>(n:Int))).l.length by simpa[Sl.l]using B)]
   simp[Sl.l]
  rw[show decide ((n:Int)<len (Sl.row (ps.map λn:Nat=>(n:Int))))=true from by simp[len,Sl.l];omega,br,I,ζb,a _ (D _ (getElem_mem B)),ζb,br]
  exact(bf _).2 (dZ n Zaa)
 rintro _ rfl;unfold c8.cI;rw[show decide (((ps.length:Nat):Int)<len (Sl.row (ps.map λn:Nat=>(n:Int))))=false from by simp[len,Sl.l],bu,bf]
 show Wp (c8.W3 (Sl.row [c]) 1 0 t) _;unfold c8.W3;refine gY 1 (λn s=>s=(n:Int)) rfl ?_ ?_
 .rintro n _ B rfl;obtain rfl:n=0:=by omega
  unfold c8.kQ;rw[show decide (((0:Nat):Int)<1)=true from rfl,br,show idx (Sl.row [c]:Zb) ((0:Nat):Int)=some c from rfl,ζb];unfold xd;rw[fA,fA];refine(ED g h i j d.1).mono λr e=>?_
  rw[bf,e.2 d.2];exact(bf _).2 rfl
 rintro _ rfl;unfold c8.kQ;rw[show decide (((1:Nat):Int)<1)=false from rfl,bu,bf];exact(bf _).2 rfl
theorem Pu(a:Small t)(b:b9 t=some true)(d:VT t)(e:eB t (bO t) A){c:Zg}(f:Cons t A c.l){p q:Nat}(hp:p<t.procs.l.length)(B:q<t.procs.l.length):
 c8 t (Sl.row [c]:Zb) (Sl.row [(p:Int),(q:Int)]:Zg)=some 0:=Ja a b d e f (ps:=[p,q]) (by simp[hp,B]) Zab
theorem Sv(b:Small t)(c:b9 t=some true)(kind m:Int):iE t kind m=some (match(bO t).find? (qe kind m)with|some x=>(x.1,true)|none=>(⟨0,0⟩,false)):=by
 refine Wp.eq ?_;unfold iE;rw[c,ζb,br];unfold jy;rw[ζb];unfold iE.E1;rw[uc b,ζb];refine zc (λk _=>((bO t).take k).find? (qe kind m)=none) Zab ?_ ?_;intro k y _ z u;have w:(bO t).take (k+1)=(bO t).take k++[y]:=by rw[take_add_one,z];rfl
 have B:(y.2.kind==kind&&y.2.message==m)=qe kind m y:=rfl;unfold iE.jZ;rw[tj,ζb,B,dO];constructor;intro a;refine(bf _).2 ((bf _).2 ?_);have:(bO t).find? (qe kind m)=some y:=by rw[<-List.take_append_drop (k+1) (bO t),w,find?_append,find?_append,u];simp[a]
 rw[this];intro a;rw[bf,w,find?_append,u];simp[a];intro _ u;rw[take_length]at u;exact(bf _).2 (by rw[u])
theorem DJ(f:Small t)(g:b9 t=some true)(h:VT t)(i:eB t (bO t) A){c:Zg}(d:Cons t A c.l){p q:Nat}(hp:p<t.procs.l.length)(J:q<t.procs.l.length):
 Wp (iN t c p q) λr=>r.2=0/\(r.1.l.length:Int)=under t c.l p q:=by
 have I:=ζd hp;have⟨a,L⟩:=d.1.at_ hp;have⟨b,C⟩:=d.1.at_ J;rw[Gt h i d I (ζd J) L C];have Y:=(f.2 _ (getElem_mem hp)).1;have⟨a0,a1⟩:=d.1.2 p a _ L I;generalize Z:t.procs.l[p]=P at *;unfold iN;rw[Pu f g h i d hp J,ζb,show((0:Int)==0)=true from rfl,br,jN,I,ζb,show idx c (p:Int)=some a from by rw[jN];exact L,ζb]
 have⟨y,X,D⟩:=vK P.events a.toNat Zaa
 rw[show((a.toNat:Nat):Int)=a from Zaa]at X
 rw[X,ζb,<-D];have H:y.l.length<=P.events.l.length:=by rw[D,length_take];omega
 unfold iN.W1;refine gY y.l.length (λn s=>s.2.1=len y/\s.2.2=(n:Int)/\s.1.l.length=(y.l.take n).countP λe=>gp q e&&q_ t c.l e) ⟨rfl,rfl,rfl⟩ ?_ ?_
 .rintro n ⟨o,_,_⟩ w ⟨e1,e2,z⟩;simp only at e1 e2 z;subst e1 e2;have O:=List.countP_le_length (p:=λe=>gp q e&&q_ t c.l e) (l:=y.l.take n)
  rw[length_take]at O;have u:(y.l.take (n+1)).countP (λe=>gp q e&&q_ t c.l e)=o.l.length+if gp q y.l[n]&&q_ t c.l y.l[n]then 1 else 0:=by rw[take_add_one,ζd w,List.countP_append,z];show _+List.countP _ [y.l[n]]=_;rw[countP_cons,List.countP_nil];simp
  have Q:=dZ n Zaa
  unfold iN.bz;rw[kX w,br,bL w,ζb];generalize y.l[n]=e at u;have S:(bl (e.kind==2) (some (!(e.peer==(q:Int)))) (some true):aY X')=some (!gp q e):=by unfold gp;cases e.kind==2<;>cases e.peer==(q:Int)<;>rfl
  rw[S,ζb,dO];refine⟨λB=>(bf _).2 ⟨rfl,Q,by rw[u,show gp q e=false from by simpa using B];rfl⟩,λB=>?_⟩
  have B:gp q e=true:=by simpa using B
  unfold uP;rw[Sv f g,ζb,ζb];have k:(bl (match(bO t).find? (qe 3 e.message)with|some x=>(x.1,true)|none=>((⟨0,0⟩:a_),false)).2 ((idx c (match(bO t).find? (qe 3 e.message)with|some x=>(x.1,true)|none=>((⟨0,0⟩:a_),false)).1.proc).bind λT=>some (decide ((match(bO t).find? (qe 3 e.message)with|some x=>(x.1,true)|none=>((⟨0,0⟩:a_),false)).1.index>T))) (some true):aY X')=some (q_ t c.l e):=by unfold q_ nS;cases m:(bO t).find? (qe 3 e.message)with|none=>rfl|some x=>have⟨U,j,⟨K,W,_⟩,v⟩:=eE.1 (AG m).1;have G:U<c.l.length:=(by rw[d.1.1];exact(ζe.1 W).1);simp only[v,br];rw[bL G,ζb,show((U:Nat):Int).toNat=U from rfl,ζd G,show(((j:Int)+1)==0)=false from by simp;omega,Bool.false_or];rfl
  rw[k,ζb,dO];refine⟨λC=>?_,λC=>(bf _).2 ⟨rfl,Q,by rw[u,B,C];rfl⟩⟩
  have⟨r,E,F⟩:=lT (s:=o) (x:=e.message) Zaa
  rw[E,ζb,bf];exact⟨rfl,Q,by rw[F,u,B,C,ζi];rfl⟩
 rintro⟨o,_,_⟩ ⟨e1,e2,z⟩;simp only at e1 e2 z;subst e1 e2;unfold iN.bz;rw[mc,bu,bf];refine(bf _).2 ⟨rfl,?_⟩;rw[take_length]at z;simp only[z]
theorem P6(a:VT t){p:Nat}{P:bP}(B:t.procs.l[p]?=some P):P.events.l.length<=64:=by have h:=a.ok.heads p (ζe.1 B).1;unfold xu at h;rw[B]at h;simp only at h;split at h;split at h;cases h;split at h;split at h;cases h;omega;rename_i u;exact absurd h u;cases h
theorem Va{x:Int}{n:Nat}(B:0<=x)(D:0<n):yJ x (n:Int)=some (((x.toNat % n:Nat)):Int):=by unfold yJ;rw[if_neg Zaa,Int.tmod_eq_emod_of_nonneg B];congr 1;rw[Int.natCast_emod,Int.toNat_of_nonneg B]
end
abbrev nj(m:aY Bool)(P:Prop):Prop:=Wp m λb=>(b=true↔P)
theorem nj.eq{m:aY X'}{P:Prop}(h:nj m P):∃b,m=some b/\(b=true↔P):=h
theorem nj.iff{m:aY X'}{P Q:Prop}(h:nj m P)(e:P↔Q):nj m Q:=h.mono λb u=>u.trans e
theorem NO{b:X'}{P:Prop}(h:b=true↔P):nj (some b) P:=(bf _).2 h
theorem nj.some{m:aY X'}{P:Prop}(h:nj m P):nj (m.bind λx=>Option.some x) P:=by have⟨b,u,h⟩:=h;rw[u];exact NO h
theorem nj.same{m n:aY X'}{P:Prop}(h:nj m P)(k:nj n P):∃b,m=Option.some b/\n=Option.some b/\(b=true↔P):=by
 obtain⟨b,u,h⟩:=h;obtain⟨d,hd,k⟩:=k;have:b=d:=by rw[Bool.eq_iff_iff,h,k]
 subst this;exact⟨b,u,hd,h⟩
theorem nj.and{m n:aY X'}{P Q:Prop}(h:nj m P)(k:P->nj n Q){f:X'->aY X'}(B:∀b,f b=bl b (n.bind λx=>Option.some x) (Option.some false)):nj (m.bind f) (P/\Q):=by have⟨b,u,h⟩:=h;rw[u,ζb,B];cases b with|true=>exact((k (h.1 rfl)).some).iff ⟨λq=>⟨h.1 rfl,q⟩,λq=>q.2⟩|false=>exact NO ⟨λe=>(nomatch e),λq=>(h.2 q.1).symm▸rfl⟩
def lg(a b:SW):Prop:=a.length=b.length/\∀(p:Nat)(x y:Int),a[p]?=some x->b[p]?=some y->x<=y
section
variable{t:Z4}{A:bU 200 bq}
theorem Yz(a:Small t)(b:b9 t=some true)(d:VT t)(e:eB t (bO t) A)(c:Zg):nj (rM t c) (Cons t A c.l):=by obtain⟨r,f,h⟩:=RG a b d e c;unfold rM;rw[f,ζb];exact NO (by rw[beq_iff_eq,h];exact Iff.rfl)
def sR(g:Int->Int->Int)(a b c:SW):Prop:=c.length=a.length/\∀(p:Nat)(x y:Int),a[p]?=some x->b[p]?=some y->c[p]?=some (g x y)
def Av(x y:Int):Int:=if y>x then y else x
def KA(x y:Int):Int:=if y<x then y else x
theorem sR.of(g:Int->Int->Int){a b:SW}(h:a.length=b.length):sR g a b (zipWith g a b):=⟨by simp[h],λp x y u w=>by rw[List.getElem?_zipWith,u,w]⟩
theorem sR.at_{g:Int->Int->Int}{a b c:SW}(h:sR g a b c)(D:a.length=b.length){p:Nat}{z:Int}(B:c[p]?=some z):∃x y,a[p]?=some x/\b[p]?=some y/\z=g x y:=by
 have u:p<a.length:=by rw[<-h.1];exact(ζe.1 B).1
 refine⟨a[p],b[p]' Zaa,ζd u,ζd Zaa,?_⟩;have:=h.2 p _ _ (ζd u) (ζd (show p<b.length by omega));rw[B]at this;cases this;rfl
theorem uX(x y:Int):(Av x y=x/\y<=x)\/(Av x y=y/\x<=y):=by unfold Av;split<;>omega
theorem uQ(x y:Int):(KA x y=x/\x<=y)\/(KA x y=y/\y<=x):=by unfold KA;split<;>omega
theorem join_cons{a b c:SW}(B:Cons t A a)(D:Cons t A b)(h:sR Av a b c):Cons t A c:=by have L:a.length=b.length:=B.1.1.trans D.1.1.symm;refine⟨⟨h.1.trans B.1.1,λp z P C O=>?_⟩,λp k e z Q C f w=>?_⟩;obtain⟨x,y,G,I,rfl⟩:=h.at_ L C;have i:=B.1.2 p x P G O;have U:=D.1.2 p y P I O;rcases uX x y with⟨e,_⟩|⟨e,_⟩<;>rw[e]<;>assumption;obtain⟨x,y,G,I,rfl⟩:=h.at_ L C;rcases uX x y with⟨S,_⟩|⟨S,_⟩<;>rw[S]at f;have⟨u,d,J⟩:=B.2 p k e x Q G f w;have T:=(ζe.1 d).1;have g:=ζd (show(ag A e.message).from_.proc.toNat<b.length by omega);exact⟨_,h.2 _ _ _ d g,by rcases uX u b[(ag A e.message).from_.proc.toNat]with⟨e2,_⟩|⟨e2,_⟩<;>rw[e2]<;>omega⟩;have⟨u,d,J⟩:=D.2 p k e y Q I f w;have T:=(ζe.1 d).1;have g:=ζd (show(ag A e.message).from_.proc.toNat<a.length by omega);exact⟨_,h.2 _ _ _ g d,by rcases uX a[(ag A e.message).from_.proc.toNat] u with⟨e2,_⟩|⟨e2,_⟩<;>rw[e2]<;>omega⟩
theorem Zw{a b c:SW}(B:Cons t A a)(D:Cons t A b)(h:sR KA a b c):Cons t A c:=by
 have Q:a.length=b.length:=B.1.1.trans D.1.1.symm;refine⟨⟨h.1.trans B.1.1,λp z P C S=>?_⟩,λp k e z T C g w=>?_⟩;obtain⟨x,y,G,I,rfl⟩:=h.at_ Q C;have i:=B.1.2 p x P G S;have X:=D.1.2 p y P I S;rcases uQ x y with⟨e,_⟩|⟨e,_⟩<;>rw[e]<;>assumption;obtain⟨x,y,G,I,rfl⟩:=h.at_ Q C;have J:(k:Int)<x:=by rcases uQ x y with⟨L,_⟩|⟨L,_⟩<;>omega
 have O:(k:Int)<y:=by rcases uQ x y with⟨L,_⟩|⟨L,_⟩<;>omega
 have⟨u,d,W⟩:=B.2 p k e x T G J w;have⟨v,f,U⟩:=D.2 p k e y T I O w;exact⟨_,h.2 _ _ _ d f,by rcases uQ u v with⟨e2,_⟩|⟨e2,_⟩<;>rw[e2]<;>omega⟩
theorem lg.trans{a b c:SW}(h:lg a b)(k:lg b c):lg a c:=by
 refine⟨h.1.trans k.1,λp x z u w=>?_⟩;have B:p<b.length:=by rw[<-h.1];exact(ζe.1 u).1
 have e:=ζd B;exact Int.le_trans (h.2 p x _ u e) (k.2 p _ z e w)
theorem lg.refl(a:SW):lg a a:=⟨rfl,λp x y w u=>by rw[w]at u;cases u;exact Int.le_refl _⟩
theorem sR.le_max{a b c:SW}(h:sR Av a b c)(D:a.length=b.length):lg a c/\lg b c/\∀d,lg a d->lg b d->lg c d:=by refine⟨⟨h.1.symm,λp x z G u=>?_⟩,⟨D.symm.trans h.1.symm,λp y z I u=>?_⟩,λd J O=>⟨h.1.trans J.1,λp z w u L=>?_⟩⟩;obtain⟨Q,y,B,I,rfl⟩:=h.at_ D u;rw[G]at B;cases B;rcases uX x y with⟨e2,_⟩|⟨e2,_⟩<;>rw[e2]<;>omega;obtain⟨x,S,G,C,rfl⟩:=h.at_ D u;rw[I]at C;cases C;rcases uX x y with⟨e2,_⟩|⟨e2,_⟩<;>rw[e2]<;>omega;obtain⟨x,y,G,I,rfl⟩:=h.at_ D u;have e:=J.2 p x w G L;have T:=O.2 p y w I L;rcases uX x y with⟨e2,_⟩|⟨e2,_⟩<;>rw[e2]<;>assumption
theorem sR.le_min{a b c:SW}(h:sR KA a b c)(D:a.length=b.length):lg c a/\lg c b/\∀d,lg d a->lg d b->lg d c:=by refine⟨⟨h.1,λp z x u G=>?_⟩,⟨h.1.trans D,λp z y u I=>?_⟩,λd J O=>⟨J.1.trans h.1.symm,λp w z L u=>?_⟩⟩;obtain⟨Q,y,B,I,rfl⟩:=h.at_ D u;rw[G]at B;cases B;rcases uQ x y with⟨e2,_⟩|⟨e2,_⟩<;>rw[e2]<;>omega;obtain⟨x,S,G,C,rfl⟩:=h.at_ D u;rw[I]at C;cases C;rcases uQ x y with⟨e2,_⟩|⟨e2,_⟩<;>rw[e2]<;>omega;obtain⟨x,y,G,I,rfl⟩:=h.at_ D u;have e:=J.2 p w x L G;have T:=O.2 p w y L I;rcases uQ x y with⟨e2,_⟩|⟨e2,_⟩<;>rw[e2]<;>assumption
theorem sR.one{g:Int->Int->Int}{a b c d:SW}(h:sR g a b c)(k:sR g a b d)(B:a.length=b.length):c=d:=by refine ext_getElem? λp=>?_;by_cases u:p<a.length;rw[h.2 p _ _ (ζd u) (ζd Zaa),k.2 p _ _ (ζd u) (ζd Zaa)];rw[getElem?_eq_none (by rw[h.1];omega),getElem?_eq_none (by rw[k.1];omega)]
def bQ(l:Sl X')(i:Nat):X':=(l.l[i]?).getD false
theorem pZ{l:Sl X'}{i:Nat}(h:i<l.l.length):idx l (i:Int)=some (bQ l i):=by rw[jN,ζd h];unfold bQ;rw[ζd h];rfl
def Kq(L:aX SW)(l:Sl X')(F:SW->SW->X')(i k:Nat):Prop:=∀a b,L[i]?=some a->L[k]?=some b->bQ l i=true->bQ l k=true->F a b=true
def zI(L:aX SW)(l:Sl X')(F:SW->SW->X')(i k:Nat)(a b:SW):Prop:=i<k/\L[i]?=some a/\L[k]?=some b/\bQ l i=true/\bQ l k=true/\F a b=false/\(∀u,i<u->u<k->Kq L l F i u)/\∀w u,w<i->w<u->Kq L l F w u
theorem PF{s:Zb}{p:Zg->aY X'}{f:Zg->X'}(hp:∀x∈s.l,p x=some (f x))(B:s.l.length<1073741824):eU s p=some (place f s.l):=qG hp Zaa (λi=>rfl)
theorem Qy{c:SW}:∀{l:aX Zg},c∈l.map Sl.l->place (λd=>decide (c=d.l)) l=((l.map Sl.l).idxOf c:Int):=by
 intro l h;have key:∀l:aX Zg,c∈l.map Sl.l->l.findIdx? (λd=>decide (c=d.l))=some ((l.map Sl.l).idxOf c):=by intro l;induction l with|nil=>intro h;simp at h|cons x l u=>intro h;rw[List.findIdx?_cons,map_cons,List.idxOf_cons];by_cases e:c=x.l;rw[decide_eq_true e,show(x.l==c)=true from by simpa using e.symm];rfl;rw[decide_eq_false e,show(x.l==c)=false from beq_eq_false_iff_ne.2 λk=>e k.symm];rw[map_cons]at h;rw[u ((mem_cons.1 h).resolve_left e)];rfl
 unfold place;rw[key l h]
theorem Rp(j:Small t)(h:b9 t=some true)(i:VT t)(k:eB t (bO t) A){L:aX SW}{r:Zb}(B:dA t A L)(D:L.length<=5000)(l:nX t=some (r,0))(a:ins r=L){c:Zg}(g:Cons t A c.l):
 yu t c=some ((L.idxOf c.l:Int),0):=by
 have I:=i.few;have C:=g.1.1;have⟨b,G,w⟩:=nj.eq (Yz j h i k c);have e:b=true:=w.2 g;subst e;have z:tY t (Sl.row [c]:Zb)=some 0:=by
  unfold tY;rw[h,ζb,br,xN (f:=λd=>decide (d.l≠c.l)) (λx u=>by
   have u:x=c:=by simpa[Sl.l]using u
   subst u;unfold qn;rw[G];simp) (by simp[Sl.l])]
  simp[Sl.l,bl]
 unfold yu;rw[z,ζb,show((0:Int)==0)=true from rfl,br,l,ζb];simp only;rw[show((0:Int)==0)=true from rfl,br];rw[PF (f:=λd=>decide (c.l=d.l)) (λx u=>by
  unfold uv;rw[xI Zaa];rfl) (by rw[<-lp,a];omega)]
 rw[Qy (by rw[show r.l.map Sl.l=L from a];exact(B.mem _).2 g),show r.l.map Sl.l=L from a];rfl
theorem Bc{L:aX SW}(h:L.Nodup){i:Nat}{c:SW}(a:L[i]?=some c):L.idxOf c=i:=by have⟨hi,e⟩:=ζe.1 a;rw[<-e];exact Nodup.idxOf_getElem h i hi
theorem FO{L:aX SW}{c:SW}(h:c∈L):L[L.idxOf c]?=some c:=by have hi:=List.idxOf_lt_length_of_mem h;rw[ζd hi,List.getElem_idxOf]
theorem sR.zip{g:Int->Int->Int}{a b c:SW}(h:sR g a b c)(B:a.length=b.length):c=zipWith g a b:=by refine h.one ⟨by simp[B],λp x y u w=>?_⟩ B;rw[List.getElem?_zipWith,u,w]
end
def DW(L:aX SW)(c:SW):So:=(range c.length).filterMap λp=>if bump c p 1∈L then some (L.idxOf (bump c p 1))else none
theorem xS{c:SW}{p:Nat}{d:Int}:(bump c p d).length=c.length:=by unfold bump;simp
theorem RN{c:SW}{p:Nat}(h:p<c.length):(bump c p 1).sum=c.sum+1:=by unfold bump;have a:c[p]?=some c[p]:=ζd h;rw[sQ a,a];simp;omega
theorem FT{L:aX SW}{c:SW}{k:Nat}:k∈DW L c↔∃p,p<c.length/\bump c p 1∈L/\k=L.idxOf (bump c p 1):=by
 unfold DW;rw[List.mem_filterMap];constructor;rintro⟨p,u,h⟩;split at h;next w=>cases h;exact⟨p,mem_range.1 u,w,rfl⟩
 cases h;rintro⟨p,u,w,rfl⟩;exact⟨p,mem_range.2 u,by rw[if_pos w]⟩
section
variable{t:Z4}{A:bU 200 bq}{L:aX SW}
theorem dA.nodup(h:dA t A L):L.Nodup:=iQ.nodup h.srt
theorem dA.lt(h:dA t A L){i k:Nat}{c d:SW}(hi:L[i]?=some c)(a:L[k]?=some d)(B:c.sum<d.sum):i<k:=by rcases Nat.lt_trichotomy i k with g|g|g;exact g;subst g;rw[hi]at a;cases a;omega;obtain⟨u,rfl⟩:=ζe.1 hi;obtain⟨w,rfl⟩:=ζe.1 a;exact absurd ((List.pairwise_iff_getElem.1 h.srt k i w u g).tr (iQ.sum B)) (iQ.GK _)
theorem Pk(h:dA t A L){i k:Nat}{c:SW}(hi:L[i]?=some c)(a:k∈DW L c):i<k/\k<L.length:=by obtain⟨p,w,u,rfl⟩:=FT.1 a;exact⟨h.lt hi (FO u) (by rw[RN w];omega),List.idxOf_lt_length_of_mem u⟩
theorem dA.len(h:dA t A L){c:SW}(a:c∈L):c.length=t.procs.l.length:=((h.mem _).1 a).1.1
end
section
variable{L:aX SW}{f:Nat->X'}
inductive Rc(L:List (List Int))(f:Nat->Bool):Nat->Prop
 |zero:Rc L f 0|step{i k:Nat}{c:List Int}:Rc L f i->f i=false->L[i]?=some c->k∈DW L c->Rc L f k
def Xo(L:aX SW):Prop:=∀(i k:Nat)c,L[i]?=some c->k∈DW L c->i<k/\k<L.length
open Classical in
noncomputable def outs(L:aX SW)(f:Nat->X'):Nat->aX SW
 |0=>[]|n+1=>outs L f n++if Rc L f n/\f n=true then L[n]?.toList else[]
theorem aai{n:Nat}(h:¬(Rc L f n/\f n=true)):outs L f (n+1)=outs L f n:=by show _++_=_;rw[if_neg h,List.append_nil]
theorem Z5{n:Nat}{c:SW}(h:Rc L f n)(B:f n=true)(a:L[n]?=some c):outs L f (n+1)=outs L f n++[c]:=by show _++_=_;rw[if_pos ⟨h,B⟩,a];rfl
end
def ps(L:aX SW)(c:SW)(n:Nat):So:=(range n).filter λp=>decide (bump c p 1∈L)
theorem Cw{c:SW}{p:Nat}{a:Int}(h:c[p]?=some a):bump c p 1=c.set p (a+1):=by unfold bump;rw[h];rfl
section
variable{t:Z4}{A:bU 200 bq}{L:aX SW}
theorem Xo.of(B:dA t A L):Xo L:=λ_ _ _ h k=>Pk B h k
end
end Go.VE
namespace Go.VE
theorem Jx{t:Z4}(b:VT t){A:bU 200 bq}(c:eB t (bO t) A):Cons t A (t.procs.l.map λP=>(P.events.l.length:Int)):=by refine⟨⟨Zab,λp a P u z=>?_⟩,λp k e a w u d B=>?_⟩;rw[getElem?_map,z]at u;cases u;constructor<;>simp;have⟨q,j,y,C,_,_,_,_,D⟩:=vc b c w B;have⟨Q,G,I⟩:=C;have J:=(ζe.1 I).1;rw[D];refine⟨(Q.events.l.length:Int),?_,by simp only;omega⟩;simp only[toNat_natCast,getElem?_map,G,map_some]
section
variable{L:aX SW}{f:Nat->X'}
inductive ET(L:List (List Int))(f:Nat->Bool):Nat->Prop
 |last:f (L.length-1)=false->ET L f (L.length-1)|step{i k:Nat}{c:List Int}:f i=false->L[i]?=some c->k∈DW L c->ET L f k->ET L f i
theorem ET.no{i:Nat}(h:ET L f i):f i=false:=by cases h<;>assumption
theorem aam:ET L f 0↔Rc L f (L.length-1)/\f (L.length-1)=false:=by
 have a:∀i,ET L f i->Rc L f i->Rc L f (L.length-1)/\f (L.length-1)=false:=λi h=>by induction h with|last h=>exactλk=>⟨k,h⟩|step h1 u w _ z=>exactλk=>z (.step k h1 u w)
 have b:∀i,Rc L f i->ET L f i->ET L f 0:=λi h=>by induction h with|zero=>exact id|step _ h1 u w z=>exactλk=>z (.step h1 u w k)
 exact⟨λh=>a 0 h .zero,λh=>b _ h.1 (.last h.2)⟩
end
section
variable{t:Z4}{A:bU 200 bq}{L:aX SW}
end
end Go.VE
namespace Go.VE
end Go.VE
namespace Go.VE
theorem Sf{κ ν:Type}[DecidableEq κ]{m:Mo κ ν}{k B:κ}{v z:ν}:um (oK m k v) B z=if B=k then v else um m B z:=by unfold um;induction m with|nil=>unfold oK om;by_cases h:B=k<;>simp[h,om]|cons a m C=>have⟨a,w⟩:=a;unfold oK;by_cases h:k=a;subst h;rw[if_pos rfl];by_cases u:B=k;simp[om,u];simp[om,u];rw[if_neg h];by_cases u:B=a;have:B≠k:=λe=>h (e▸u);simp[om,u,Ne.symm h];simp only[om,if_neg u];exact C
theorem G7:∀(l:SW)(r:V'),(l.foldl (λr n=>r.push (ofNat n.toNat)) r).data.toList=r.data.toList++l.map λn=>ofNat n.toNat
 |[],r=>Zab|a::l,r=>by rw[List.foldl_cons,G7 l];show(r.data.push _).toList++_=_;simp
theorem GF(l:SW):(rT l).data.toList=l.map λn=>ofNat n.toNat:=by unfold rT;rw[G7];rfl
def Ml(l:SW):Prop:=∀x∈l,0<=x/\x<256
theorem X8{a b:Int}(B:0<=a/\a<256)(D:0<=b/\b<256)(h:ofNat a.toNat=ofNat b.toNat):a=b:=by have:=congrArg UInt8.toNat h;simp[UInt8.toNat_ofNat']at this;omega
theorem Iy:∀{a b:SW},Ml a->Ml b->(a.map λn=>ofNat n.toNat)=(b.map λn=>ofNat n.toNat)->a=b
 |[],[],_,_,_=>rfl|[],_::_,_,_,h=>by simp at h|_::_,[],_,_,h=>by simp at h|x::a,y::b,D,G,h=>by simp only[map_cons,List.cons.injEq]at h;rw[X8 (D x Zab) (G y Zab) h.1,Iy (λz B=>D z (mem_cons_of_mem _ B)) (λz B=>G z (mem_cons_of_mem _ B)) h.2]
theorem Tk{a b:SW}(B:Ml a)(D:Ml b)(h:rT a=rT b):a=b:=Iy B D (by rw[<-GF,<-GF,h])
section
variable{t:Z4}{A:bU 200 bq}{L:aX SW}
theorem DB(b:VT t){c:SW}(a:Cons t A c):Ml c:=λx z=>by
 obtain⟨p,w,rfl⟩:=List.mem_iff_getElem.1 z;have u:p<t.procs.l.length:=by rw[<-a.1.1];exact w
 have d:=a.1.2 p _ _ (ζd w) (ζd u);have B:=P6 b (ζd u);omega
def rP(A:bU 200 bq)(e:W5):a_:=if e.kind=3 then(ag A e.message).from_ else⟨0,0⟩
structure E6(t:Trace)(A:bU 200 bq)(x:cV):Prop where
 len:x.needs.l.length=t.procs.l.length
 row:∀(p:Nat)(P:bP)(s:Sl a_),t.procs.l[p]?=some P->x.needs.l[p]?=some s->s.l=P.events.l.map (rP A)
theorem M8(c:Small t)(d:VT t)(a:eB t (bO t) A){p k:Nat}{e:W5}(B:pO t p k e)(J:e.kind=3):∃b,xh t e=some ((ag A e.message).from_,b):=by
 have⟨q,j,y,I,L,O,y3,y4,y5⟩:=vc d a B J;have⟨Q,u,D⟩:=I;have S:=(ζe.1 u).1;have w:=(c.2 _ (mem_of_getElem? u)).1;unfold xh;rw[y4,jN,u,ζb];rw[EU (f:=λz=>z.kind==2&&z.message==e.message) (λz _=>by unfold sM;rw[tj];rfl) w,ζb];have C:place (λz:W5=>z.kind==2&&z.message==e.message) Q.events.l=(j:Int):=by unfold place;rw[CS (i:=j) (x:=y) (λi hi z T=>?_) D (by simp[L,O])];refine Bool.eq_false_iff.2 λh=>?_;simp only[ζh,beq_iff_eq]at h;have G:=a.snd _ (eE.2 ⟨q,i,⟨Q,u,T⟩,rfl⟩:((⟨q,i+1⟩:a_),z)∈bO t) h.1;simp only[h.2,y5]at G;have:=congrArg a_.index G;simp at this;omega
 rw[C,dZ j (by have:=(ζe.1 D).1;omega),y5];exact⟨_,rfl⟩
theorem UO(d:Small t)(e:VT t)(f:eB t (bO t) A):Wp (iS t) λq=>∃x,q=some x/\E6 t A x:=by
 have Y:=e.few;unfold iS iS.W1;refine gY t.procs.l.length (λp(q:Int×Z4×cV)=>q.1=(p:Int)/\t=q.2.1/\q.2.2.needs.l.length=p/\∀(r:Nat)(P:bP)(s:Sl a_),t.procs.l[r]?=some P->q.2.2.needs.l[r]?=some s->s.l=P.events.l.map (rP A)) ⟨rfl,rfl,rfl,λr P s _ h=>by simp[Sl.l]at h⟩ ?_ ?_;rintro p ⟨_,_,x⟩ D ⟨e1,e2,a,C⟩;simp only at e1 e2 a C;subst e1;subst e2;unfold iS.bz;rw[kX D,br,bL D,ζb];have G:=ζd D;have I:=(d.2 _ (getElem_mem D)).1;generalize t.procs.l[p]=P at G I;unfold iS.W2;refine gY P.events.l.length (λk(q:Sl a_×Int×Z4×cV)=>q.2.1=(k:Int)/\t=q.2.2.1/\x=q.2.2.2/\q.1.l=(P.events.l.take k).map (rP A)) ⟨rfl,rfl,rfl,rfl⟩ ?_ ?_;rintro k ⟨l,_,_,_⟩ c ⟨e1,e2,e3,g⟩;simp only at e1 e2 e3 g;subst e1;subst e2;subst e3;have L:pO t p k P.events.l[k]:=⟨P,G,ζd c⟩;have W:l.l.length=k:=by rw[g];simp;omega
 have J:∀n:a_,n=rP A P.events.l[k]->Wp (iS.J3 l t.procs (len t.procs) (p:Int) P.events (len P.events) (k:Int) t n x) λw=>match w with
  |.n u=>u.2.1=((k+1:Nat):Int)/\t=u.2.2.1/\x=u.2.2.2/\u.1.l=(P.events.l.take (k+1)).map (rP A)|.x _=>False|.r _=>False:=λn O=>by
  unfold iS.J3;have⟨o,k1,k2⟩:=lT (s:=l) (x:=n) Zaa
  rw[k1,ζb,bf];refine⟨dZ k Zaa,rfl,rfl,?_⟩
  show o.l=_;rw[k2,g,O,List.take_succ_eq_append_getElem c,map_append,List.map_singleton]
 have J2:∀n:a_,n=rP A P.events.l[k]->Wp (iS.J3 l t.procs (len t.procs) (p:Int) P.events (len P.events) (k:Int) t n x) λw=>∃u,w=.n u/\u.2.1=((k+1:Nat):Int)/\t=u.2.2.1/\x=u.2.2.2/\u.1.l=(P.events.l.take (k+1)).map (rP A):=λn O=>(J n O).mono λw S=>by cases w with|n u=>exact⟨u,rfl,S⟩|x _=>exact S.elim|r _=>exact S.elim
 unfold iS.cI;rw[kX c,br,bL c,ζb,dO];constructor;intro z;have z:P.events.l[k].kind=3:=by simpa using z
 have⟨b,X⟩:=M8 d e f L z;rw[X,ζb];refine(J2 _ (by unfold rP;rw[if_pos z])).mono ?_;rintro _ ⟨u,rfl,h⟩;exact h;intro z;have z:¬P.events.l[k].kind=3:=by simpa using z
 refine(J2 _ (by unfold rP;rw[if_neg z])).mono ?_;rintro _ ⟨u,rfl,h⟩;exact h;rintro⟨l,_,_,_⟩ ⟨e1,e2,e3,g⟩;simp only at e1 e2 e3 g;subst e1;subst e2;subst e3;unfold iS.cI;rw[mc,bu,bf];have⟨o,k1,k2⟩:=lT (s:=x.needs) (x:=l) Zaa;show Wp ((fW x.needs l).bind _) _;rw[k1,ζb,bf];refine⟨dZ p Zaa,rfl,by show o.l.length=_;rw[k2];simp[a],λr Q s T B=>?_⟩;replace B:o.l[r]?=some s:=B;rw[k2]at B;by_cases i:r<p;rw[List.getElem?_append_left Zaa]at B;exact C r Q s T B;have U:r=p:=by have:=(ζe.1 B).1;simp at this;omega
 subst U;rw[List.getElem?_append_right Zaa,a,Nat.sub_self]at B;cases B;rw[G]at T;cases T;rw[g,take_length];rintro⟨_,_,x⟩ ⟨e1,e2,a,C⟩;simp only at e1 e2 a C;subst e1;subst e2;unfold iS.bz;rw[mc,bu,bf];exact(bf _).2 ⟨x,rfl,a,C⟩
theorem X4(E:Small t)(f:VT t)(g:eB t (bO t) A)(B:dA t A L){x:cV}(G:E6 t A x){c:Zg}(d:Cons t A c.l){p:Nat}(hp:p<c.l.length):sC x c (p:Int)=some (decide (bump c.l p 1∈L)):=by
 have F:=d.1.1;have I:p<t.procs.l.length:=Zaa;have J:p<x.needs.l.length:=by rw[G.len];exact I
 have D:=ζd I;have O:=ζd hp;have l:=d.1.2 p _ _ O D;have Y:=G.row p _ _ D (ζd J);have S:idx x.needs (p:Int)=some x.needs.l[p]:=bL J;have Z:idx c (p:Int)=some c.l[p]:=bL hp;refine Wp.eq ?_;unfold sC;rw[show decide ((p:Int)<0)=false from decide_eq_false Zaa,bu,show decide ((p:Int)>=(len c))=false from decide_eq_false (by simp[len];omega),ζb,bu,Z,ζb,S,ζb,ζb,Cw O];generalize x.needs.l[p]=s at Y S;generalize c.l[p]=a at *;generalize t.procs.l[p]=P at *;have m:s.l.length=P.events.l.length:=by rw[Y];simp
 rw[dO];constructor;intro u;have u:(a:Int)>=s.l.length:=by simpa[len]using u
 rw[bf];refine(decide_eq_false λh=>?_).symm;have h:=((B.mem _).1 h).1.2 p (a+1) P (by rw[List.getElem?_set_self hp]) D;omega;intro u;have u:¬(a:Int)>=s.l.length:=by simpa[len]using u
 have w:a.toNat<P.events.l.length:=Zaa;have n:pO t p a.toNat P.events.l[a.toNat]:=⟨P,D,ζd w⟩;have T:=Cons.up f g d D O Zaa;have C:=B.mem (c.l.set p (a+1));have U:Fv t A c.l p↔(P.events.l[a.toNat].kind=3->∃b,c.l[(ag A P.events.l[a.toNat].message).from_.proc.toNat]?=some b/\(ag A P.events.l[a.toNat].message).from_.index<=b):=by constructor;rintro⟨Q,e,x,X,G,i,z⟩;rw[D]at X;cases X;rw[O]at G;cases G;rw[ζd w]at i;cases i;exact z;intro z;exact⟨P,_,a,D,O,ζd w,z⟩
 rw[ζb,ζb,Th l.1,Y,getElem?_map,ζd w];generalize P.events.l[a.toNat]=e at *;show Wp ((bl ((rP A e).index==0) (some true) ((idx c (rP A e).proc).bind λo=>some (decide ((rP A e).index<=o))):aY X').bind λr=>some r) _;unfold rP;by_cases z:e.kind=3;rw[if_pos z];have⟨q,j,k,_,_,y,Q,X,_⟩:=z8 f g n z;have W:q<c.l.length:=by have:=(ζe.1 X).1;omega
 rw[k];simp only;rw[show(((j:Int)+1)==0)=false from by simp;omega,bu,bL W,ζb,ζb,bf];refine decide_eq_decide.2 ?_;rw[C,<-T,U,k];simp only[toNat_natCast,ζd W];constructor;intro h _;exact⟨_,rfl,h⟩;intro h;have⟨b,v,h⟩:=h z;cases v;exact h;rw[if_neg z];simp only;rw[show((0:Int)==0)=true from rfl,br,ζb,bf];refine(decide_eq_true ?_).symm;rw[C,<-T,U];exactλh=>absurd h z
theorem UX(a:Small t)(b:VT t){c:Zg}(e:Cons t A c.l){p:Nat}(hp:p<c.l.length):∃d:Zg,zS c (p:Int)=some d/\d.l=bump c.l p 1:=by have u:=LF a b e;have I:=u.1;have z:=ζd hp;have B:=u.2 c.l[p] (getElem_mem hp);unfold zS;have⟨r,C,w⟩:=Ai (c:=c) Zaa Zaa;rw[C,ζb,oD (by rw[w];exact hp),ζb];unfold Sl.get;rw[w,z,ζb,ζb,gb _ Zaa Zaa];have⟨d,D,G⟩:=put_eq (s:=r) (p:=p) (x:=c.l[p]+1) (by rw[w];exact hp);rw[D];exact⟨d,rfl,by rw[G,w,Cw z]⟩
end
end Go.VE
namespace Go.VE
section
variable{t:Z4}{A:bU 200 bq}{L:aX SW}
theorem Dq{c:SW}{p:Nat}{a:Int}(h:c[p]?=some a)(q:Nat):(bump c p 1)[q]?=if p=q then some (a+1)else c[q]?:=by have u:=(ζe.1 h).1;unfold bump;rw[h,getElem?_set];by_cases e:p=q;subst e;rw[if_pos rfl,if_pos rfl,if_pos u];rfl;rw[if_neg e,if_neg e]
theorem Vl(g:VT t)(h:eB t (bO t) A)(D:dA t A L){c e:SW}(a:Cons t A c)(G:lg c e):∀(n:Nat){d:SW},Cons t A d->lg d e->d.sum<=(n:Int)->¬lg d c->∃p,p<c.length/\bump c p 1∈L/\lg (bump c p 1) e
 |n,d,J,B,hs,T=>by have U:d.length=c.length:=J.1.1.trans a.1.1.symm;have I:0<d.sum:=(by refine byContradiction λi=>T ?_;have j:=J.1.sum.1;have f:=(NS (t:=t) (A:=A) (z:=.row (replicate t.procs.l.length 0)) rfl d).2 ⟨J,by simp;omega⟩;have f:d=replicate t.procs.l.length 0:=(by simpa[ins,Sl.l]using f);refine⟨U,λp x y u w=>?_⟩;rw[f,List.getElem?_replicate]at u;split at u;cases u;exact a.1.pos p y w;cases u);have⟨q,b,C,W,X⟩:=J.down g h I;have S:=(ζe.1 C).1;by_cases Q:lg (d.set q (b-1)) c;have O:=ζd (show q<c.length by omega);have e1:=Q.2 q (b-1) _ (by rw[List.getElem?_set_self S]) O;have e2:∀p x y,p≠q->d[p]?=some x->c[p]?=some y->x<=y:=λp x y Y u w=>Q.2 p x y (by rw[List.getElem?_set_ne (Ne.symm Y)];exact u) w;have e3:b=c[q]+1:=(by refine byContradiction λZ=>T ⟨U,λp x y u w=>?_⟩;by_cases e:p=q;subst e;rw[C]at u;cases u;rw[O]at w;cases w;omega;exact e2 p x y e u w);refine⟨q,Zaa,(D.mem _).2 (join_cons a J ⟨xS,λp x y u w=>?_⟩),⟨by rw[xS];exact G.1,λp x y u w=>?_⟩⟩;rw[Dq O];by_cases e:q=p;subst e;rw[if_pos rfl];rw[C]at w;cases w;rw[O]at u;cases u;unfold Av;simp;omega;rw[if_neg e,u];have:=e2 p y x (Ne.symm e) w u;unfold Av;simp;omega;rw[Dq O]at u;by_cases e:q=p;subst e;rw[if_pos rfl]at u;cases u;have:=B.2 q b y C w;omega;rw[if_neg e]at u;exact G.2 p x y u w;cases n with|zero=>omega|succ n=>refine Vl g h D a G n X ⟨by rw[List.length_set];exact B.1,λp x y u w=>?_⟩ (by rw[sQ C];omega) Q;by_cases e:q=p;subst e;rw[List.getElem?_set_self S]at u;cases u;have:=B.2 q b y C w;omega;rw[List.getElem?_set_ne e]at u;exact B.2 p x y u w
end
theorem X2{α:Type}{n:Nat}(z:α)(h:n<=2147483648):qD (n:Int) z=some (.row (replicate n z)):=by unfold qD;rw[if_pos Zaa];simp
theorem L5{c:Zg}(h:Ml c.l)(B:c.l.length<=8):g_ c=some (rT c.l):=by
 refine Wp.eq ?_;unfold g_;rw[show len c=((c.l.length:Nat):Int)from rfl,X2 _ Zaa,ζb];unfold g_.W1;refine gY c.l.length (λi(q:Sl U8×Int)=>q.2=(i:Int)/\q.1.l.length=c.l.length/\(q.1.l.map U8.v).take i=c.l.take i) ⟨rfl,by simp[Sl.l],Zab⟩ ?_ ?_;rintro i ⟨o,_⟩ hi ⟨e,u,a⟩;simp only at e u a;subst e;have C:=h c.l[i] (getElem_mem hi);have z:wrap .u8 c.l[i]=c.l[i]:=by simp[wrap,IntKind.bits,signed];omega
 have⟨w,k1,k2⟩:=put_eq (s:=o) (p:=i) (x:=(⟨wrap .u8 c.l[i]⟩:U8)) Zaa;unfold g_.bz;rw[show decide ((i:Int)<((c.l.length:Nat):Int))=true from by simpa using hi,br,bL hi,ζb,oD (by omega:i<o.l.length),ζb,k1,ζb,bf];refine⟨dZ i Zaa,by show w.l.length=_;rw[k2];simp[u],?_⟩;show(w.l.map U8.v).take (i+1)=_;rw[k2,z,List.take_succ_eq_append_getElem hi,List.take_succ_eq_append_getElem (by simp[u];exact hi),<-a];simp[List.take_set_of_le];rintro⟨o,_⟩ ⟨e,u,a⟩;simp only at e u a;subst e;unfold g_.bz;rw[show decide (((c.l.length:Nat):Int)<((c.l.length:Nat):Int))=false from Zab,bu,bf];refine(bf _).2 ?_;unfold NM;rw[take_length,List.take_of_length_le (by simp[u])]at a;rw[a]
section
variable{t:Z4}{A:bU 200 bq}{L:aX SW}
theorem MY(f:Small t)(g:b9 t=some true)(i:VT t)(a:eB t (bO t) A){c:Zg}(l:Cons t A c.l){p k:Nat}{P:bP}(B:t.procs.l[p]?=some P)(D:c.l[p]?=some (k:Int))(d:k<P.events.l.length):
 ∃b,vD t c (p:Int)=some b/\(b=true↔Fv t A c.l p):=by
 have C:=ζd d;unfold vD;rw[jN,B,ζb,jN,D,ζb,bL d,ζb];generalize P.events.l[k]=e at C⊢;have G:Fv t A c.l p↔(e.kind=3->∃b,c.l[(ag A e.message).from_.proc.toNat]?=some b/\(ag A e.message).from_.index<=b):=by constructor;rintro⟨Q,X,x,z,L,u,w⟩;rw[B]at z;cases z;rw[D]at L;cases L;simp only[toNat_natCast]at u;rw[C]at u;cases u;exact w;intro h;exact⟨P,e,k,B,D,by simpa using C,h⟩
 rw[G]
 by_cases w:e.kind=3
 .have⟨q,j,y,⟨Q,z,U⟩,W,O,y3,y4,y5⟩:=vc i a ⟨P,B,C⟩ w;have S:=AX f g a (x:=(⟨q,j+1⟩,y)) (eE.2 ⟨q,j,⟨Q,z,U⟩,rfl⟩) W;simp only at S;have I:q<c.l.length:=by rw[l.1.1];exact(ζe.1 z).1
  rw[show(e.kind==3)=true from by rw[w];rfl,br,<-O,S,ζb,bL I,ζb]
  refine⟨_,rfl,?_⟩;rw[O,y5];simp only[toNat_natCast,decide_eq_true_eq];exact⟨λh _=>⟨_,ζd I,h⟩,λh=>by
   have⟨b,T,J⟩:=h w;rw[ζd I]at T;cases T;exact J⟩
 rw[show(e.kind==3)=false from beq_eq_false_iff_ne.2 w,bu];exact⟨true,rfl,λ_ h=>absurd h w,λ_=>rfl⟩
theorem Xj(f:Small t)(i:b9 t=some true)(a:VT t)(g:eB t (bO t) A){c:Zg}(e:Cons t A c.l){p:Nat}(hp:p<c.l.length):
 ∃q,vq t c (p:Int)=some q/\((q.2=0/\q.1.l=bump c.l p 1/\Cons t A (bump c.l p 1))\/(q.2≠0/\¬Cons t A (bump c.l p 1))):=by
 have W:=a.few;have I:=a.ok.one;have L:=e.1.1;have u:p<t.procs.l.length:=Zaa
 have B:=ζd u;have z:=ζd hp;have O:=(LF f a e).2 c.l[p] (getElem_mem hp);have⟨X,n⟩:=e.1.2 p _ _ z B;have G:=Cw z;unfold vq;rw[show c8 t (Sl.row [c]) (Sl.row [(p:Int)])=some 0 from Ja f i a g e (ps:=[p]) (by simpa using u) Zab,ζb,show((0:Int)==0)=true from rfl,br,bL hp,ζb,bL u,ζb]
 by_cases C:c.l[p]=len t.procs.l[p].events
 .rw[C,show(len t.procs.l[p].events==len t.procs.l[p].events)=true from Zab,br]
  refine⟨_,rfl,.inr ⟨Zab,λh=>?_⟩⟩
  have:=(h.1.2 p (c.l[p]+1) _ (by rw[G];simp[hp]) B).2
  simp only[len]at C;omega
 rw[show(c.l[p]==len t.procs.l[p].events)=false from beq_eq_false_iff_ne.2 C,bu];simp only[len]at C;have j:c.l[p]=((c.l[p].toNat:Nat):Int):=Zaa
 have⟨b,Q,J⟩:=MY f i a g e B (k:=c.l[p].toNat) (by rw[<-j];exact z) Zaa
 have w:=Cons.up a g e B z Zaa
 rw[Q,ζb];rw[<-G]at w
 cases b with
 |false=>rw[bu];exact⟨_,rfl,.inr ⟨Zab,λh=>by have:=J.2 (w.2 h);cases this⟩⟩|true=>
  have⟨d,S,D⟩:=Ai (c:=c) Zaa Zaa
  have⟨l,T,U⟩:=put_eq (s:=d) (p:=p) (x:=wrap .i64 (c.l[p]+1)) (by rw[D];exact hp)
  have m:Sl.get d p=some c.l[p]:=by unfold Sl.get;rw[D];exact z
  rw[br,S,ζb,oD (by rw[D];exact hp),ζb,m,ζb,ζb,T,ζb]
  exact⟨_,rfl,.inl ⟨rfl,by show l.l=_;rw[U,D,gb _ Zaa Zaa,G],w.1 (J.1 rfl)⟩⟩
def gU(L:aX SW)(i:Nat):So:=DW L ((L[i]?).getD [])
structure Ck(L:List (List Int))(x:bp):Prop where
 l:ins x.l=L
 n:x.next.l.length=L.length
 nx:∀i,i<L.length->∃o,x.next.l[i]?=some o/\o.l=(gU L i).map λk:Nat=>(k:Int)
theorem Wo(l:Small t)(v:b9 t=some true)(b:VT t)(y:eB t (bO t) A)(B:dA t A L)(R:L.length<=5000){r:Zb}(E:o7 t=some (r,0))(f:ins r=L):
 Wp (dD t) λq=>∃x,q=(some x,0)/\x.t=t/\Ck L x:=by
 have F:=b.few;have T:r.l.length=L.length:=by rw[<-f,lp]
 have I:∀i(h:i<r.l.length),L[i]?=some r.l[i].l:=λi h=>by rw[<-f];exact vX h
 unfold dD;rw[E,ζb];simp only;rw[show((0:Int)==0)=true from rfl,br];unfold dD.W1;refine gY r.l.length (λi(q:Int×Mo ByteArray Int)=>q.1=(i:Int)/\∀(j:Nat)c,j<i->L[j]?=some c->um q.2 (rT c) 0=(j:Int)) ⟨rfl,λj c J=>absurd J Zaa⟩ ?_ ?_
 .rintro i ⟨_,m⟩ hi ⟨rfl,O⟩;simp only at O;have w:=I i hi;have d:=(B.mem _).1 (mem_of_getElem? w);have g:=DB b d;unfold dD.bz;dsimp only;rw[kX hi,br,bL hi,ζb,L5 g (by rw[d.1.1];exact F),ζb,bf]
  refine⟨dZ i Zaa,λj c J a=>?_⟩
  show um (oK m (rT r.l[i].l) (i:Int)) (rT c) 0=_;rw[Sf]
  by_cases e:j=i
  .subst e;rw[w]at a;cases a;rw[if_pos rfl]
  have U:=mem_of_getElem? a;rw[if_neg (λh=>e ?_)]
  .exact O j c Zaa a
  have:=Tk (DB b ((B.mem _).1 U)) g h;subst this;rw[<-Bc B.nodup a,Bc B.nodup w]
 rintro⟨_,m⟩ ⟨rfl,O⟩;simp only at O;have H:∀c∈L,um m (rT c) 0=(L.idxOf c:Int):=λc a=>by have:=List.idxOf_lt_length_of_mem a;exact O _ c Zaa (FO a)
 unfold dD.bz;dsimp only;rw[mc,bu,bf];show Wp (dD.W2 r (len r) 0 t m ⟨t,r,.nil⟩) _;unfold dD.W2;refine gY r.l.length (λi(q:Int×Mo ByteArray Int×bp)=>q.1=(i:Int)/\q.2.1=m/\q.2.2.t=t/\q.2.2.l=r/\q.2.2.next.l.length=i/\∀j,j<i->∃o,q.2.2.next.l[j]?=some o/\o.l=(gU L j).map λk:Nat=>(k:Int)) ⟨rfl,rfl,rfl,rfl,rfl,λj J=>absurd J Zaa⟩ ?_ ?_
 .rintro i ⟨_,m,x⟩ hi ⟨rfl,rfl,D,x2,C,G⟩;simp only at D x2 C G;have w:=I i hi;have d:=(B.mem _).1 (mem_of_getElem? w);have V:=d.1.1;have W:gU L i=DW L r.l[i].l:=by unfold gU;rw[w];rfl
  unfold dD.cI;dsimp only;rw[kX hi,br,bL hi,ζb];unfold dD.W3;refine gY r.l[i].l.length (λn(q:Zg×Int×bp)=>q.2.1=(n:Int)/\q.2.2=x/\q.1.l.length<=n/\q.1.l=((range n).filterMap λp=>if bump r.l[i].l p 1∈L then some (L.idxOf (bump r.l[i].l p 1))else none).map λk:Nat=>(k:Int)) ⟨rfl,rfl,le_refl _,rfl⟩ ?_ ?_
  .rintro n ⟨o,_,x⟩ hn ⟨rfl,rfl,o1,o2⟩;simp only at o1 o2;have⟨q,K,M⟩:=Xj l v b y d hn;unfold dD.kQ;dsimp only;rw[kX hn,br,K,ζb];rcases M with⟨k1,k2,k3⟩|⟨k1,k2⟩
   .have z:=(B.mem _).2 k3;have X:(bump r.l[i].l n 1).length<=8:=by rw[xS];omega
    have⟨Q,Y,S⟩:=lT (s:=o) (x:=um m (rT (bump r.l[i].l n 1)) 0) Zaa
    rw[k1,show((0:Int)==0)=true from rfl,br,L5 (by rw[k2];exact DB b k3) (by rw[k2];exact X),ζb,k2,Y,ζb,bf]
    refine⟨dZ n Zaa,rfl,by show Q.l.length<=_;rw[S];simp;omega,?_⟩
    show Q.l=_;rw[S,o2,H _ z,range_succ,List.filterMap_append,map_append];simp[z]
   have Z:bump r.l[i].l n 1∉L:=λh=>k2 ((B.mem _).1 h)
   rw[show(q.2==0)=false from beq_eq_false_iff_ne.2 k1,bu,bf];refine⟨dZ n Zaa,rfl,by show o.l.length<=_;omega,?_⟩
   show o.l=_;rw[o2,range_succ,List.filterMap_append,map_append];simp[Z]
  rintro⟨o,_,x⟩ ⟨rfl,rfl,o1,o2⟩;simp only at o1 o2 D x2 C G;have⟨Q,Y,S⟩:=lT (s:=x.next) (x:=o) Zaa
  unfold dD.kQ;dsimp only;rw[mc,bu,bf];show Wp ((fW x.next o).bind _) _;rw[Y,ζb,bf];refine⟨dZ i Zaa,rfl,D,x2,by show Q.l.length=_;rw[S];simp[C],λj J=>?_⟩
  show∃u,Q.l[j]?=some u/\_;rw[S]
  by_cases e:j=i
  .subst e;exact⟨o,by rw[List.getElem?_append_right Zaa,C];simp,by rw[o2,W];rfl⟩
  have⟨u,N,P⟩:=G j Zaa
  exact⟨u,by rw[List.getElem?_append_left Zaa];exact N,P⟩
 rintro⟨_,m,x⟩ ⟨rfl,rfl,D,x2,C,G⟩;simp only at D x2 C G;unfold dD.cI;dsimp only;rw[mc,bu,bf];exact(bf _).2 ⟨x,rfl,D,by rw[x2];exact f,by rw[C,T],λi hi=>G i Zaa⟩
theorem Bo(B:dA t A L){i k:Nat}(hi:i<L.length)(a:k∈gU L i):i<k/\k<L.length:=by unfold gU at a;rw[ζd hi]at a;exact Pk B (ζd hi) a
theorem LG(a:VT t)(B:dA t A L){i:Nat}(hi:i<L.length):(gU L i).length<=8:=by have b:=(B.mem _).1 (getElem_mem hi);have:=a.few;unfold gU DW;rw[ζd hi];refine Nat.le_trans (List.length_filterMap_le ..) ?_;simp[b.1.1];omega
def Bk(L:aX SW)(g:Nat->aX X'->X')(o:Sl X'):Prop:=o.l.length=L.length/\∀i,i<L.length->bQ o i=g i ((gU L i).map (bQ o))
theorem Bk.ind(B:dA t A L){g1 g2:Nat->aX X'->X'}{a b:Sl X'}(D:Bk L g1 a)(G:Bk L g2 b){R:X'->X'->Prop}
 (h:∀i,i<L.length->(∀k∈gU L i,R (bQ a k) (bQ b k))->R (g1 i ((gU L i).map (bQ a))) (g2 i ((gU L i).map (bQ b)))):∀i,i<L.length->R (bQ a i) (bQ b i):=by
 have key:∀n i,i<L.length->L.length<=i+n->R (bQ a i) (bQ b i):=by intro n;induction n with|zero=>intro i c u;omega|succ n w=>intro i c u;rw[D.2 i c,G.2 i c];refine h i c λk d=>?_;have:=Bo B c d;exact w k this.2 Zaa
 exactλi hi=>key L.length i hi Zaa
theorem LP{a b:Sl X'}(B:a.l.length=b.l.length)(h:∀i,i<a.l.length->bQ a i=bQ b i):a.l=b.l:=by refine ext_getElem B λi c u=>?_;have:=h i c;unfold bQ at this;rw[ζd c,ζd u]at this;exact this
theorem Bw{α:Type}{s r:Sl α}{p:Nat}{x:α}(h:s.whole=some s)(e:Sl.put s p x=some r):r.whole=some r:=by unfold Sl.put at e;split at e<;>cases e;cases s<;>first|rfl|cases h
theorem UP(d:VT t)(B:dA t A L)(h:L.length<=5000){x:bp}(Y:Ck L x){p:Int×Sl X'->aY X'}{g:Nat->aX X'->X'}(hp:∀(i:Nat)(nx:Sl X'),i<L.length->nx.l.length<=8->p ((i:Int),nx)=some (g i nx.l)):
 Wp (dG x p) λo=>Bk L g o/\o.whole=some o:=by
 have Q:len x.l=((L.length:Nat):Int):=by simp only[len];rw[<-lp,Y.l]
 unfold dG;rw[Q,X2 _ Zaa,ζb,gb _ Zaa Zaa]
 unfold dG.W1;refine lW (λq:Sl X'×Int=>∃k:Nat,k<=L.length/\q.2=(k:Int)-1/\q.1.l.length=L.length/\q.1.whole=some q.1/\∀i,k<=i->i<L.length->bQ q.1 i=g i ((gU L i).map (bQ q.1))) (λq=>(q.2+1).toNat)
  ⟨L.length,le_refl _,rfl,by simp[Sl.l],rfl,λi b D=>Zaa⟩ ?_
 rintro⟨o,_⟩ ⟨k,c,rfl,o1,S,o2⟩;simp only at o1 S o2;unfold dG.bz;dsimp only
 cases k with
 |zero=>
  rw[show decide ((((0:Nat):Int)-1)>=0)=false from by decide,bu,bf]
  exact(bf _).2 ⟨⟨o1,λi hi=>o2 i (zero_le _) hi⟩,S⟩
 |succ i=>
  have hi:i<L.length:=Zaa
  have⟨u,Z,X⟩:=Y.nx i hi;have f:=LG d B hi;have T:u.l.length=(gU L i).length:=by rw[X,List.length_map]
  rw[show(((i+1:Nat):Int)-1)=(i:Int)from Zaa,show decide ((i:Int)>=0)=true from Zab,br,jN,Z,ζb]
  unfold dG.W2;refine gY u.l.length (λm(q:Sl X'×Int)=>q.2=(m:Int)/\q.1.l=((gU L i).take m).map (bQ o)) ⟨rfl,by simp[Sl.l]⟩ ?_ ?_
  .rintro m ⟨w,_⟩ hm ⟨rfl,z⟩;simp only at z;have C:m<(gU L i).length:=by omega
   have l:=Bo B hi (getElem_mem C);have U:idx u (m:Int)=some (((gU L i)[m]:Nat):Int):=by rw[jN,X];simp[C]
   have W:Sl.get o (gU L i)[m]=some (bQ o (gU L i)[m]):=by unfold Sl.get bQ;rw[ζd Zaa];rfl
   have⟨w',J,O⟩:=lT (s:=w) (x:=bQ o (gU L i)[m]) (by rw[z];simp;omega)
   unfold dG.cI;dsimp only;rw[kX hm,br,U,ζb,oD (by omega:(gU L i)[m]<o.l.length),ζb,W,ζb,J,ζb,bf]
   refine⟨dZ m Zaa,?_⟩
   show w'.l=_;rw[O,z,List.take_succ_eq_append_getElem C,map_append];rfl
  rintro⟨w,_⟩ ⟨rfl,z⟩;simp only at z;rw[T,take_length]at z;unfold dG.cI;dsimp only;rw[mc,bu,bf];have⟨G,J,O⟩:=put_eq (s:=o) (p:=i) (x:=g i w.l) Zaa
  show Wp ((p ((i:Int),w)).bind _) _;rw[hp i w hi (by rw[z];simpa using f),ζb,oD (by omega:i<o.l.length),ζb,J,ζb,bf]
  have I:∀k,bQ G k=if k=i then g i w.l else bQ o k:=λk=>by unfold bQ;rw[O,getElem?_set];by_cases e:k=i;subst e;rw[if_pos rfl,if_pos rfl,if_pos Zaa];rfl;rw[if_neg (Ne.symm e),if_neg e]
  have a:∀j,i<=j->j<L.length->(gU L j).map (bQ G)=(gU L j).map (bQ o):=λj b D=>List.map_congr_left λk c=>by have:=Bo B D c;rw[I,if_neg Zaa]
  refine⟨⟨i,Zaa,by show wrap .i64 ((i:Int)-1)=_;exact gb _ Zaa Zaa,by show G.l.length=_;rw[O];simp[o1],Bw S J,λj b D=>?_⟩,?_⟩
  .show bQ G j=g j ((gU L j).map (bQ G));rw[a j b D,I]
   by_cases e:j=i
   .subst e;rw[if_pos rfl,z]
   rw[if_neg e];exact o2 j Zaa D
  show((wrap .i64 ((i:Int)-1):Int)+1).toNat<((i:Int)+1).toNat;rw[gb _ Zaa Zaa];omega
theorem HE{s:Sl X'}{v:X'}(B:s.l.length<1073741824):jc s v=some (s.l.any λb=>v==b):=by
 have key:Wp (jc s v) λb=>b=s.l.any λb=>v==b:=by unfold jc fG fG.W1;rw[fA];refine gY s.l.length (λi(q:Int)=>q=(i:Int)/\∀(j:Nat)b,j<i->s.l[j]?=some b->(v==b)=false) ⟨rfl,λj b h=>absurd h Zaa⟩ ?_ ?_;rintro i _ hi ⟨rfl,a⟩;unfold fG.bz;rw[kX hi,br,bL hi,ζb];(cases w:(v==s.l[i])with|true=>rw[br,bf];refine(bf _).2 ((bf _).2 ?_);rw[show decide ((i:Int)>=0)=true from Zab];exact(any_eq_true.2 ⟨_,getElem_mem hi,w⟩).symm|false=>rw[bu,bf];refine⟨dZ i Zaa,λj b z u=>?_⟩;by_cases e:j=i;subst e;rw[ζd hi]at u;cases u;exact w;exact a j b Zaa u);rintro _ ⟨rfl,a⟩;unfold fG.bz;rw[mc,bu,bf];refine(bf _).2 ((bf _).2 ?_);rw[show decide ((-1:Int)>=0)=false from by decide];refine(List.any_eq_false.2 λb w=>?_).symm;have⟨j,z⟩:=mem_iff_getElem?.1 w;rw[a j b (ζe.1 z).1 z];simp
 obtain⟨b,a,rfl⟩:=key;exact a
theorem LY{s:Sl X'}(B:s.l.length<=8):pU s=some (s.l.any id):=by unfold pU;rw[HE Zaa];simp only[ζb];congr 2;funext b;cases b<;>rfl
theorem all_eq{s:Sl X'}(B:s.l.length<=8):qT s=some (!s.l.isEmpty&&s.l.all id):=by unfold qT;rw[HE Zaa,show decide (len s>0)= !s.l.isEmpty from by cases h:s.l<;>simp[len,h]];cases s.l.isEmpty with|true=>rfl|false=>rw[Bool.not_false,br];simp only[ζb,Bool.true_and];congr 1;rw[Bool.eq_iff_iff];simp
def gS(kind:Int)(l:Sl X')(i:Nat)(nx:aX X'):X':=if kind=18 then bQ l i||nx.any id else if kind=19 then bQ l i||(!nx.isEmpty&&nx.all id)else if kind=20 then bQ l i&&(nx.isEmpty||nx.any id)else bQ l i&&nx.all id
theorem Rx{kind:Int}{l:Sl X'}{i:Nat}{nx:Sl X'}(hi:i<l.l.length)(B:nx.l.length<=8):gI (i:Int) nx kind l=some (gS kind l i nx.l):=by
 have z:(len nx==0)=nx.l.isEmpty:=by cases h:nx.l<;>simp[len,h];omega
 unfold gI gS;by_cases a:kind=18;rw[show(kind==18)=true from by simp[a],br,if_pos a,pZ hi,ζb,LY B];cases bQ l i<;>rfl;rw[show(kind==18)=false from beq_eq_false_iff_ne.2 a,bu,if_neg a];by_cases u:kind=19;rw[show(kind==19)=true from by simp[u],br,if_pos u,pZ hi,ζb,all_eq B];cases bQ l i<;>rfl;rw[show(kind==19)=false from beq_eq_false_iff_ne.2 u,bu,if_neg u];by_cases w:kind=20;rw[show(kind==20)=true from by simp[w],br,if_pos w,pZ hi,ζb,LY B,z];cases bQ l i<;>cases nx.l.isEmpty<;>rfl;rw[show(kind==20)=false from beq_eq_false_iff_ne.2 w,bu,if_neg w,pZ hi,ζb,all_eq B,z];cases h:nx.l<;>cases bQ l i<;>rfl
end
section
variable{t:Z4}{A:bU 200 bq}
theorem zI.one{L:aX SW}{l:Sl X'}{F:SW->SW->X'}{i k D B:Nat}{a b a' G:SW}(h:zI L l F i k a b)(g:zI L l F D B a' G):a=a'/\b=G:=by
 have⟨c,u,w,z,C,I,J,O⟩:=h;have⟨g1,g2,g3,g4,g5,g6,g7,Q⟩:=g;have S:¬i<D:=λe=>by have:=Q i k e c a b u w z C;rw[I]at this;cases this
 have T:¬D<i:=λe=>by have:=O D B e g1 a' G g2 g3 g4 g5;rw[g6]at this;cases this
 have e:i=D:=Zaa;subst e;have U:¬k<B:=λe=>by have:=g7 k c e a b u w z C;rw[I]at this;cases this
 have W:¬B<k:=λe=>by have:=J B g1 e a' G g2 g3 g4 g5;rw[g6]at this;cases this
 have e:k=B:=Zaa;subst e;rw[u]at g2;rw[w]at g3;cases g2;cases g3;exact⟨rfl,rfl⟩
theorem zI.no{L:aX SW}{l:Sl X'}{F:SW->SW->X'}{i k:Nat}{a b:SW}(h:zI L l F i k a b)(g:∀i k,i<k->Kq L l F i k):False:=by have⟨c,u,w,z,B,C,_⟩:=h;have:=g i k c a b u w z B;rw[C]at this;cases this
end
section
variable{t:Z4}{A:bU 200 bq}{L:aX SW}
theorem YA(a:Small t):∃b,jJ t=some b:=by
 suffices h:Wp (jJ t) λ_=>True by obtain⟨b,u,-⟩:=h;exact⟨b,u⟩
 have c:=a.1;have d:∀P∈t.procs.l,nv P=some (decide (len P.events>40)||decide (len P.vars>20)||P.events.l.any λx=>decide (len x.assign>20)):=λP w=>by unfold nv;rw[AJ (p:=λz=>pq z) (f:=λx=>decide (len x.assign>20)) (λx _=>rfl) (a.2 _ w).1];cases decide (len P.events>40)<;>cases decide (len P.vars>20)<;>rfl
 unfold jJ jJ.W1;refine gY t.procs.l.length (λi(q:Int×Int)=>q.2=(i:Int)) rfl ?_ ?_;rintro i ⟨n,_⟩ hi e;simp only at e;subst e;unfold jJ.bz;dsimp only;rw[kX hi,br,bL hi,ζb,bf];exact dZ i Zaa;rintro⟨n,_⟩ e;simp only at e;subst e;unfold jJ.bz;dsimp only;rw[mc,bu,bf];show Wp _ _;rw[BG (p:=λz=>nv z) d c];cases decide (n>30)<;>cases(n==36)<;>cases decide (len t.procs>10)<;>exact(bf _).2 trivial
theorem Bk.one(B:dA t A L){g:Nat->aX X'->X'}{a b:Sl X'}(D:Bk L g a)(G:Bk L g b):a.l=b.l:=LP (by rw[D.1,G.1]) λi hi=>D.ind B G (R:=λu v=>u=v) (λi _ h=>by rw[List.map_congr_left h]) i (by rw[<-D.1];exact hi)
def ZH(x y:aY (Sl X'×Int)):Prop:=∃a b e,x=some (a,e)/\y=some (b,e)/\a.l.length<=5000/\a.l=b.l
theorem ZH.nil(e:Int):ZH (some (.nil,e)) (some (.nil,e)):=⟨_,_,_,rfl,rfl,zero_le _,rfl⟩
end
theorem lg.same{a b:SW}(h:lg a b)(k:lg b a):a=b:=by refine ext_getElem h.1 λj c u=>?_;have:=h.2 j _ _ (ζd c) (ζd u);have:=k.2 j _ _ (ζd u) (ζd c);omega
def Uv(L:aX SW)(f:Nat->X')(d:SW):Prop:=d∈L/\f (L.idxOf d)=true
section
variable{t:Z4}{A:bU 200 bq}{L:aX SW}{tb:Sl X'}
def Low(t:Z4)(A:bU 200 bq)(L:aX SW)(f:Nat->X')(c:SW)(o:Zg):Prop:=(o=.nil/\∀d,Uv L f d->¬lg c d)\/(Cons t A o.l/\lg c o.l/\(∀d,Uv L f d->lg c d->lg o.l d)/\(∃d,Uv L f d/\lg c d)/\∀e,(∀d,Uv L f d->lg c d->lg e d)->lg e o.l)
theorem aak{c:SW}{p:Nat}(h:p<c.length):lg c (bump c p 1):=⟨xS.symm,λq x y w u=>by
 rw[Dq (ζd h)]at u
 grind⟩
end
section
variable{α σ:Type}
def yP(p:α->σ->aY (X'×σ)):aX α->σ->aY (X'×σ)
 |[],x=>some (false,x)|a::r,x=>(p a x).bind λy=>if y.1 then some (true,y.2)else yP p r y.2
theorem LU{s:Sl α}{p:α->σ->aY (X'×σ)}{x:σ}(B:s.l.length<1073741824):Bx s p x=yP p s.l x:=by
 have key:∀(c:aX α)(j:Nat)(x:σ),s.l.drop j=c->((cD (Ek s p) ((j:Int),x)).bind (Fw.elim (λe=>some ((-1:Int),e)) λe=>some e)).bind (λy:Int×σ=>some (decide (y.1>=0),y.2))=yP p c x:=by intro c;induction c with|nil=>intro j x hd;have d:decide ((j:Int)<len s)=false:=(by have:s.l.length<=j:=(by simpa using hd);simp[len];omega);rw[gu];simp only[Ek,d,bl,false_eq_true,if_false,ζb,Fw.elim,yP];rfl|cons a c u=>intro j x hd;have d:j<s.l.length:=(by apply byContradiction;intro C;rw[drop_eq_nil_of_le Zaa]at hd;cases hd);have w:=drop_eq_getElem_cons d;rw[w]at hd;simp only[List.cons.injEq]at hd;rw[gu];simp only[Ek,kX d,bl,if_true,bL d,ζb,hd.1,yP];cases p a x with|none=>rfl|some y=>have⟨b,z⟩:=y;simp only[ζb];cases b with|true=>simp[Fw.elim]|false=>simp only[false_eq_true,if_false,ζb,dZ j Zaa];exact u (j+1) z hd.2
 exact key s.l 0 x rfl
def FN(p:α->aY X'):aX α->aY X'
 |[]=>some false|a::r=>(p a).bind λb=>if b then some true else FN p r
theorem GA(p:α->aY X'):∀l:aX α,yP (λx(u:Unit)=>(p x).map λb=>(b,u)) l ()=(FN p l).map λb=>(b,())
 |[]=>rfl|a::r=>by simp only[yP,FN];cases p a with|none=>rfl|some b=>cases b<;>simp[GA p r]
theorem v_{s:Sl α}(p:α->aY X')(B:s.l.length<1073741824):Bx s (λx(u:Unit)=>(p x).map λb=>(b,u)) ()=(FN p s.l).map λb=>(b,()):=by rw[LU B,GA]
theorem uS{p:α->aY X'}{f:α->X'}:∀{l:aX α},(∀x∈l,p x=some (f x))->FN p l=some (l.any f)
 |[],_=>rfl|a::r,h=>by simp only[FN,h a Zab,ζb,List.any_cons,uS (λx B=>h x (mem_cons_of_mem _ B))];cases f a<;>rfl
theorem fJ{δ:Type}{b:(α->aY δ)->α->aY δ}{n:Nat}(h:0<n)(z:α):dU b n z=b (dU b (n-1)) z:=by cases n with|zero=>omega|succ n=>rfl
end
def NB(l:SW)(az:aX Assign):SW:=az.foldl (λl a=>l.set a.var.toNat a.value) l
def jX(P:bP):Nat->SW
 |0=>P.vars.l.map Var.init_|k+1=>match P.events.l[k]?with
  |some e=>NB (jX P k) e.assign.l|none=>jX P k
theorem Jt:∀(az:aX Assign)(l:SW),(NB l az).length=l.length
 |[],l=>rfl|a::r,l=>by show(NB (l.set a.var.toNat a.value) r).length=_;rw[Jt r];simp
theorem rA(P:bP):∀k,(jX P k).length=P.vars.l.length
 |0=>by simp[jX]|k+1=>by unfold jX;split;rw[Jt,rA P k];exact rA P k
def Nr{α:Type}(s:Sl α):Prop:=s=.nil\/∃l,s=.row l
theorem Js:∀(vs:aX Var)(s:Zg),Nr s->s.l.length+vs.length<1073741824->∃B,w8 vs s=some B/\Nr B/\B.l=s.l++vs.map Var.init_
 |[],s,h,_=>⟨s,rfl,h,Zab⟩|v::r,s,h,D=>by simp only[length_cons]at D;have a:fW s v.init_=some (.row (s.l++[v.init_])):=(by unfold fW;rw[if_pos Zaa]);have⟨B,g1,g2,g3⟩:=Js r (.row (s.l++[v.init_])) (.inr ⟨_,rfl⟩) (by show(s.l++[v.init_]).length+r.length<1073741824;simp;omega);refine⟨B,?_,g2,by rw[g3];show(s.l++[v.init_])++r.map Var.init_=_;simp⟩;simp only[w8,a,ζb,g1]
theorem Km:∀(az:aX Assign)(s:Zg),Nr s->(∀a∈az,0<=a.var/\a.var<s.l.length)->∃B,w9 az s=some B/\Nr B/\B.l=NB s.l az
 |[],s,h,_=>⟨s,rfl,h,rfl⟩|a::r,s,h,D=>by have⟨G,c⟩:=D a Zab;have d:Sl.lS s a.var=some a.var.toNat:=(by unfold Sl.lS;rw[if_pos ⟨G,Zaa⟩]);rcases h with rfl|⟨l,rfl⟩;simp[Sl.l]at c;omega;have u:Sl.put (.row l) a.var.toNat a.value=some (.row (l.set a.var.toNat a.value)):=(by unfold Sl.put;rw[if_pos (by simp[Sl.l]at c⊢;omega)]);have⟨B,g1,g2,g3⟩:=Km r (.row (l.set a.var.toNat a.value)) (.inr ⟨_,rfl⟩) (λb w=>by have:=D b (mem_cons_of_mem _ w);simpa[Sl.l]using this);refine⟨B,?_,g2,g3⟩;simp only[w9,d,u,ζb,g1]
theorem Ma{s:Zg}(h:Nr s)(B:s.l.length<1073741824):∃c,MU s=some c/\c.l=s.l:=by rcases h with rfl|⟨l,rfl⟩;exact⟨.nil,rfl,rfl⟩;unfold MU IB.dI xO;simp only[Sl.isNil,ζb,bl,false_eq_true,if_false];by_cases u:(Sl.row l).l=[];rw[if_pos u];exact⟨.row [],rfl,u.symm⟩;rw[if_neg u,if_pos (by simp[Sl.l]at B⊢;omega)];exact⟨_,rfl,by simp[Sl.l]⟩
def vF(P:bP):Prop:=∀e∈P.events.l,∀a∈e.assign.l,0<=a.var/\a.var<P.vars.l.length
theorem KR{P:bP}(B:vF P)(f:P.vars.l.length<1073741824):∀(b:aX W5)(k:Nat)(s:Zg),P.events.l.drop k=b->Nr s->s.l=jX P k->
 ∃r,wQ (k:Int) b s=some r/\r.length=b.length/\∀(i:Nat)x,r[i]?=some x->x.1=((k+i+1:Nat):Int)/\x.2.l=jX P (k+i+1)
 |[],k,s,_,_,_=>⟨[],rfl,rfl,Zab⟩|e::b,k,s,hd,D,G=>by have d:k<P.events.l.length:=(by apply byContradiction;intro D;rw[drop_eq_nil_of_le Zaa]at hd;cases hd);have C:=drop_eq_getElem_cons d;rw[C]at hd;simp only[List.cons.injEq]at hd;have I:e∈P.events.l:=hd.1▸getElem_mem d;have w:s.l.length=P.vars.l.length:=(by rw[G,rA]);have⟨n,g1,g2,g3⟩:=Km e.assign.l s D (λa J=>by rw[w];exact B e I a J);have u:jX P (k+1)=n.l:=(by rw[g3,G];unfold jX;rw[ζd d,hd.1];cases k<;>rfl);have⟨c,g4,g5⟩:=Ma g2 (by rw[<-u,rA];exact f);have⟨r,L,O,Q⟩:=KR B f b (k+1) n hd.2 g2 u.symm;refine⟨((k:Int)+1,c)::r,?_,by simp[O],λi x z=>?_⟩;simp only[wQ,g1,g4,ζb];rw[show(k:Int)+1=((k+1:Nat):Int)from rfl,L];rfl;cases i with|zero=>simp only[List.getElem?_cons_zero,ζa]at z;subst z;exact⟨rfl,by rw[g5,<-u]⟩|succ i=>rw[List.getElem?_cons_succ]at z;have⟨S,T⟩:=Q i x z;exact⟨by rw[S];congr 1;omega,by rw[T];congr 1;omega⟩
theorem GB{P:bP}(B:vF P)(a:P.vars.l.length<1073741824)(T:P.events.l.length<1073741824)(D:∀e∈P.events.l,e.assign.l.length<1073741824):
 ∃r,jx P=some r/\r.length=P.events.l.length+1/\∀(i:Nat)x,r[i]?=some x->x.1=(i:Int)/\x.2.l=jX P i:=by
 have⟨s,g1,g2,g3⟩:=Js P.vars.l .nil (.inl rfl) (by simpa[Sl.l]using a)
 have w:s.l=jX P 0:=by rw[g3];simp[Sl.l,jX]
 have⟨c,g4,g5⟩:=Ma g2 (by rw[w,rA];exact a)
 have⟨r,z,C,G⟩:=KR B a P.events.l 0 s rfl g2 w;refine⟨(0,c)::r,?_,by simp[C],λi x u=>?_⟩
 .unfold jx;have b:(pn P.vars.l.length&&(pn P.events.l.length&&P.events.l.all λe=>pn e.assign.l.length))=true:=by
   simp only[ζh,all_eq_true,pn,decide_eq_true_eq];exact⟨Zaa,Zaa,λe h=>by have:=D e h;omega⟩
  rw[if_pos b,g1,ζb,g4,ζb];rw[show((0:Nat):Int)=0 from rfl]at z;rw[z];rfl
 cases i with
 |zero=>simp only[List.getElem?_cons_zero,ζa]at u;subst u;exact⟨rfl,by rw[g5,w]⟩|succ i=>rw[List.getElem?_cons_succ]at u;have⟨I,J⟩:=G i x u;exact⟨by rw[I];congr 1;omega,by rw[J];congr 1;omega⟩
theorem Sn{P:bP}(D:vF P)(b:P.vars.l.length<1073741824)(G:P.events.l.length<1073741824)(J:∀e∈P.events.l,e.assign.l.length<1073741824){k:Nat}(d:k<=P.events.l.length):
 ∃x,fP P (k:Int)=some x/\x.l=jX P k:=by
 have⟨r,c,O,C⟩:=GB D b G J;have key:∀(a:aX (Int×Zg))(i:Nat)(q:Zg),r.drop i=a->i<=k->∃x,(kY (λ(x:Int×(Zg))(q:Zg)=>fP.jZ P k x q) a q).bind (Fw.rO (λq=>some Sl.nil) (λe=>Empty.elim e) (λe=>some e))=some x/\x.l=jX P k:=by intro a;induction a with|nil=>intro i q hd hi;have:r.length<=i:=(by simpa using hd);omega|cons y a I=>intro i q hd hi;have u:i<r.length:=Zaa;have e2:=drop_eq_getElem_cons u;rw[e2]at hd;simp only[List.cons.injEq]at hd;have⟨B,L⟩:=C i y (by rw[ζd u,hd.1]);by_cases w:i=k;subst w;refine⟨y.2,?_,L⟩;simp only[kY,fP.jZ,B,beq_self_eq_true,bl,if_true,ζb,Fw.rO];have z:(y.1==(k:Int))=false:=(by rw[B];simp;omega);have⟨x,g1,g2⟩:=I (i+1) .nil hd.2 Zaa;refine⟨x,?_,g2⟩;simp only[kY,fP.jZ,z,bl,false_eq_true,if_false,ζb];exact g1
 have⟨x,g1,g2⟩:=key r 0 .nil rfl (zero_le _);refine⟨x,?_,g2⟩;unfold fP nT fP.E1;simp only[ζb,c];exact g1
mutual
def Pred.sz:UV->Nat
 |⟨_,_,_,_,_,l⟩=>1+Pred.Xn l
def Pred.Xn:Sl UV->Nat
 |.nil=>0|.emp=>0|.row l=>Pred.ze l|.part l=>Pred.ze l
def Pred.ze:aX UV->Nat
 |[]=>0|x::r=>Pred.sz x+Pred.ze r
end
mutual
def Pred.dp:UV->Nat
 |⟨_,_,_,_,_,l⟩=>1+Pred.WY l
def Pred.WY:Sl UV->Nat
 |.nil=>0|.emp=>0|.row l=>Pred.AZ l|.part l=>Pred.AZ l
def Pred.AZ:aX UV->Nat
 |[]=>0|x::r=>max (Pred.dp x) (Pred.AZ r)
end
mutual
def Pred.hG(f:UV->X'):UV->X'
 |⟨a,b,c,d,e,l⟩=>f ⟨a,b,c,d,e,l⟩&&Pred.NL f l
def Pred.NL(f:UV->X'):Sl UV->X'
 |.nil=>true|.emp=>true|.row l=>Pred.Gi f l|.part l=>Pred.Gi f l
def Pred.Gi(f:UV->X'):aX UV->X'
 |[]=>true|x::r=>Pred.hG f x&&Pred.Gi f r
end
theorem Pred.Yu(s:Sl UV):Pred.Xn s=Pred.ze s.l:=by cases s<;>simp[Pred.Xn,Pred.ze,Sl.l]
theorem Pred.Y6(s:Sl UV):Pred.WY s=Pred.AZ s.l:=by cases s<;>simp[Pred.WY,Pred.AZ,Sl.l]
theorem Pred.KJ(f:UV->X'):∀l:aX UV,Pred.Gi f l=l.all (Pred.hG f)
 |[]=>by simp[Pred.Gi]|x::r=>by simp only[Pred.Gi,all_cons,Pred.KJ f r]
theorem Pred.Yd(f:UV->X')(s:Sl UV):Pred.NL f s=s.l.all (Pred.hG f):=by cases s<;>simp[Pred.NL,Pred.KJ,Sl.l]
theorem Pred.Im(p:UV):p.sz=1+Pred.ze p.l.l:=by cases p;simp only[Pred.sz,Pred.Yu]
theorem Pred.Ik(p:UV):p.dp=1+Pred.AZ p.l.l:=by cases p;simp only[Pred.dp,Pred.Y6]
theorem Pred.lX(f:UV->X')(p:UV):p.hG f=(f p&&p.l.l.all (Pred.hG f)):=by cases p;simp only[Pred.hG,Pred.Yd]
theorem Pred.Md:∀{l:aX UV}{q:UV},q∈l->q.dp<=Pred.AZ l
 |x::r,q,h=>by simp only[Pred.AZ];rcases mem_cons.1 h with rfl|h;omega;have:=Pred.Md h;omega
theorem Pred.Cl:∀{l:aX UV}{q:UV},q∈l->q.sz<=Pred.ze l
 |x::r,q,h=>by simp only[Pred.ze];rcases mem_cons.1 h with rfl|h;omega;have:=Pred.Cl h;omega
theorem Pred.kz{p q:UV}(h:q∈p.l.l):q.dp<p.dp:=by rw[p.Ik];have:=Pred.Md h;omega
theorem Pred.sn(p:UV):0<p.dp:=by rw[p.Ik];omega
theorem Pred.ind{M:UV->Prop}(h:∀p,(∀q∈p.l.l,M q)->M p)(p:UV):M p:=by
 have key:∀n p,p.dp<=n->M p:=by intro n;induction n with|zero=>intro p u;have:=p.sn;omega|succ n w=>intro p u;exact h p λq z=>w q (by have:=Pred.kz z;omega)
 exact key _ p (le_refl _)
abbrev Pred.Sm(p:Pred):Prop:=p.hG (λq=>decide (q.l.l.length<1073741824))=true
theorem Pred.Sm.len{p:UV}(h:p.Sm):p.l.l.length<1073741824:=by unfold Pred.Sm at h;rw[p.lX]at h;simp only[ζh,decide_eq_true_eq]at h;exact h.1
theorem Pred.Sm.si{p q:UV}(h:p.Sm)(B:q∈p.l.l):q.Sm:=by unfold Pred.Sm at h;rw[p.lX]at h;simp only[ζh,all_eq_true]at h;exact h.2 q B
theorem L8{f:UV->aY X'}{g:UV->X'}(p:UV)(B:p.Sm):p.hG (λq=>f q==some (g q))=true->∀n,p.dp<=n->dU (λr(z:UV)=>jm z f r) n p=some (p.hG g):=by induction p using Pred.ind with|h p C=>intro u n D;rw[p.lX]at u;simp only[ζh,all_eq_true,beq_iff_eq]at u;have hd:=p.Ik;rw[fJ Zaa];show jm p f _=_;unfold jm;rw[u.1,ζb,p.lX];cases g p with|false=>rfl|true=>rw[br,v_ _ B.len,uS (f:=λq=> !q.hG g) (λq w=>by have:=C q w (B.si w) (u.2 q w) (n-1) (by have:=Pred.kz w;omega);show(dU (λr(z:UV)=>jm z f r) (n-1) q).bind _=_;rw[this];rfl)];simp only[map_some,ζb,Bool.true_and];congr 1;rw[Bool.eq_iff_iff];simp
abbrev PL(p:Pred):Bool:=toList p.name==toList ByteArray.empty
abbrev Up(p:Pred)(c:Int):Bool:=(len p.l==c)&&(!decide (p.n<0)&&(!decide (p.n>1125899906842624)&&((p.n==0||p.kind==1)&&(p.kind==2||(p.kind==3||(p.kind==4||(p.proc==0&&(p.peer==0&&PL p))))))))
theorem UM:∀k:_root_.Fin 22,1<=k.1->(bU.at wY ((k.1:Nat):Int)).isSome=true:=by decide
theorem Hi{k:Int}(a:1<=k)(B:k<22):∃c,bU.at wY k=some c:=by have g:=UM ⟨k.toNat,Zaa⟩ Zac;grind[Option.isSome_iff_exists]
theorem Mi{p:UV}{c:Int}(f:1<=p.kind)(B:p.kind<22)(d:bU.at wY p.kind=some c):kV p=some (Up p c):=by
 unfold kV vi Up PL;rw[decide_eq_false (show¬p.kind<1 by omega),bu,ζb,decide_eq_false (show¬p.kind>=22 by omega),bu,d,ζb,ζb];generalize(len p.l==c)=e;generalize decide (p.n<0)=a;generalize decide (p.n>1125899906842624)=b;generalize(p.n==0)=z;generalize(p.kind==1)=k1;generalize(p.kind==2)=k2;generalize(p.kind==3)=k3;generalize(p.kind==4)=k4;generalize(p.proc==0)=d1;generalize(p.peer==0)=d2;generalize(toList p.name==toList ByteArray.empty)=d3
 cases e with
 |false=>rfl|true=>cases a with
  |true=>rfl|false=>cases b with
   |true=>rfl|false=>cases z<;>cases k1<;>first|rfl|(cases k2<;>cases k3<;>cases k4<;>cases d1<;>cases d2<;>cases d3<;>rfl)
theorem KB{p:UV}(h:p.kind<1\/22<=p.kind):kV p=some false:=by grind[kV,bl]
def fB(p:UV):X':=(kV p).getD false
theorem U_(p:UV):kV p=some (fB p):=by unfold fB;by_cases h:p.kind<1\/22<=p.kind;all_goals grind[KB,Hi,Mi]
theorem rD{p:UV}(h:fB p=true):1<=p.kind/\p.kind<22/\bU.at wY p.kind=some (len p.l):=by grind[fB,KB,Hi,Mi]
def j_(p:UV):X':=decide (p.sz<=200)&&(decide (p.dp<=20)&&p.hG fB)
abbrev vG(p:Pred)(d l:Nat):Bool:=decide (p.sz<=l)&&(decide (p.dp+d<=21)&&p.hG fB)
abbrev zd(k:aX Pred)(d l:Nat):Bool:=decide (Pred.ze k<=l)&&(decide (Pred.AZ k+d<=21)&&k.all (Pred.hG fB))
theorem VW(p:UV)(J:p.Sm):∀(n d l:Nat),1<=n->22<=n+d->d<=21->1<=d->l<=200->
 ∃B:Int,dU (λr(z:UV×Int×Int)=>eM z.1 z.2.1 z.2.2 r) n (p,(d:Int),(l:Int))=some (vG p d l,B)/\(vG p d l=true->B=((l-p.sz:Nat):Int)):=by
 induction p using Pred.ind with
 |h p C=>
  intro n d l Z O hd jE b;have Q:=p.Im;have S:=p.Ik;rw[fJ Zaa]
  have C:=λq D=>C q D (J.si D) (n-1)
  show∃B,eM p (d:Int) (l:Int) (dU (λr(z:UV×Int×Int)=>eM z.1 z.2.1 z.2.2 r) (n-1))=_/\_
  generalize dU (λr(z:UV×Int×Int)=>eM z.1 z.2.1 z.2.2 r) (n-1)=R at C⊢
  unfold eM;rw[gb _ Zaa Zaa,U_]
  by_cases T:l=0
  .subst T;have w:vG p d 0=false:=by
    grind
   rw[w];exact⟨_,rfl,λh=>by cases h⟩
  rw[decide_eq_false (show¬((l:Int)-1<0)by omega),bu,ζb]
  by_cases c:20<d
  .have w:vG p d l=false:=by
    grind
   rw[w,decide_eq_true (show(d:Int)>20 by omega)]
   exact⟨_,rfl,λh=>by cases h⟩
  rw[decide_eq_false (show¬((d:Int)>20)by omega),bu,ζb]
  have e:=p.lX fB
  cases f:fB p with
  |false=>
   have w:vG p d l=false:=Zac
   rw[w];exact⟨_,rfl,λh=>by cases h⟩
  |true=>
   rw[ζb,show(!true)=false from rfl,bu,LU J.len];have key:∀(k:aX UV),(∀q∈k,q∈p.l.l)->∀m:Nat,m<=200->∃m':Int,yP (λx s=>iI x (d:Int) s R) k (m:Int)=some (!zd k (d+1) m,m')/\(zd k (d+1) m=true->m'=((m-Pred.ze k:Nat):Int)):=by intro k;induction k with|nil=>simp_all[yP,Pred.ze,Pred.AZ]|cons q k G=>intro a m U;have⟨B,g1,g2⟩:=C q (a q Zab) (d+1) m Zaa Zaa Zaa Zaa U;have e1:iI q (d:Int) (m:Int) R=some (!vG q (d+1) m,B):=(by grind[iI,dZ]);simp only[yP,e1,ζb];have u:zd (q::k) (d+1) m=(vG q (d+1) m&&zd k (d+1) (m-q.sz)):=(by rw[Bool.eq_iff_iff];simp only[zd,vG,Pred.ze,Pred.AZ,ζh,all_cons];constructor;rintro⟨a1,a2,W,X⟩;have a1:=of_decide_eq_true a1;have a2:=of_decide_eq_true a2;exact⟨⟨decide_eq_true Zaa,decide_eq_true Zaa,W⟩,decide_eq_true Zaa,decide_eq_true Zaa,X⟩;grind);cases w:vG q (d+1) m with|false=>rw[u,w];grind|true=>have⟨m',I,L⟩:=G (λx Y=>a x (mem_cons_of_mem _ Y)) (m-q.sz) Zaa;rw[u,w,Bool.true_and,g2 w];refine⟨m',Zac,λh=>?_⟩;rw[L h];have:q.sz<=m:=(by have:=w;grind);grind[Pred.ze]
   have⟨m',I,L⟩:=key p.l.l (λq D=>D) (l-1) Zaa
   rw[show((l:Int)-1)=((l-1:Nat):Int)from Zaa,I,ζb]
   have w:vG p d l=zd p.l.l (d+1) (l-1):=by rw[Bool.eq_iff_iff];grind
   refine⟨m',by rw[w];simp,λh=>?_⟩
   grind
theorem rm{p:UV}(B:p.Sm):lY p=some (j_ p):=by obtain⟨u,h,-⟩:=VW p B 100000 1 200 Zaa Zaa Zaa Zaa Zaa;unfold lY qB;rw[show dU (λr(z:UV×Int×Int)=>eM z.1 z.2.1 z.2.2 r) 100000 (p,(1:Int),(200:Int))=_ from h];simp only[ζb];congr 1;rw[Bool.eq_iff_iff];simp_all[j_]
section
variable{t:Z4}
abbrev zH(t:Trace)(p:Int):Bool:=decide (p>=0)&&decide (p<len t.procs)
def MW(t:Z4)(p:Int)(name:V'):X':=match idx t.procs p with
 |some P=>P.vars.l.any λv=>toList v.name==toList name|none=>false
def qK(t:Z4)(q:UV):X':=if q.kind==2 then zH t q.proc&&(q.peer==0&&MW t q.proc q.name)else if q.kind==3 then zH t q.proc&&(q.peer==0&&PL q)else if q.kind==4 then zH t q.proc&&(zH t q.peer&&(!(q.proc==q.peer)&&PL q))else true
theorem MC(p:Int):kA t p=some (zH t p):=by unfold kA zH;cases decide (p>=0)<;>rfl
theorem qC{p:Int}(h:zH t p=true):∃n:Nat,p=n/\n<t.procs.l.length:=by simp only[zH,ζh]at h;have a:=of_decide_eq_true h.1;have u:=of_decide_eq_true h.2;exact⟨p.toNat,Zaa,Zac⟩
theorem Ra(a:Small t){p:Int}(h:zH t p=true)(name:V'):rB t p name=some (MW t p name):=by obtain⟨n,rfl,u⟩:=qC h;unfold rB MW;rw[bL u,ζb,CJ (p:=λz=>ov z name) (f:=λv=>toList v.name==toList name) (λv _=>rfl) (a.2 _ (getElem_mem u)).2.1];rfl
theorem VL(a:Small t)(q:UV):kI q t=some (qK t q):=by
 unfold kI qK PL;rw[MC,MC]
 cases q.kind==2 with
 |true=>rw[br,if_pos rfl,ζb];cases h:zH t q.proc with|false=>rfl|true=>rw[Ra a h];cases q.peer==0<;>rfl
 |false=>rw[bu,if_neg Zab];cases q.kind==3 with|true=>rw[br,if_pos rfl];cases zH t q.proc<;>cases q.peer==0<;>cases(toList q.name==toList ByteArray.empty)<;>rfl|false=>rw[bu,if_neg Zab];cases q.kind==4 with|true=>rw[br,if_pos rfl];cases zH t q.proc<;>cases zH t q.peer<;>cases(q.proc==q.peer)<;>cases(toList q.name==toList ByteArray.empty)<;>rfl|false=>rfl
theorem JE{f:UV->aY X'}{g:UV->X'}(h:∀q,f q=some (g q)){p:UV}(B:p.Sm)(hd:p.dp<=100000):ny p f=some (p.hG g):=by refine L8 p B ?_ _ hd;induction p using Pred.ind with|h p w=>rw[p.lX,ζh,all_eq_true];exact⟨by rw[h];simp,λq u=>w q u (B.si u) (by have:=Pred.kz u;omega)⟩
theorem uz(a:Small t){p:UV}(B:p.Sm)(hd:p.dp<=100000):oq t p=some (p.hG (qK t)):=by unfold oq;rw[JE (g:=qK t) (λq=>VL a q) B hd];rfl
abbrev mb(k:Int):Int:=if k<=8 then 1 else 2
abbrev EM(k:Int):Int:=if k<=12 then 1 else 2
def yX(q:UV):X':=q.l.l.all λk=>mb k.kind==EM q.kind
theorem tD(k:Int):lV k=some (mb k):=by unfold lV mb;by_cases h:k<=8;rw[decide_eq_true h,if_pos h];rfl;rw[decide_eq_false h,if_neg h];rfl
theorem VK(k:Int):sF k=some (EM k):=by unfold sF EM;by_cases h:k<=12;rw[decide_eq_true h,if_pos h];rfl;rw[decide_eq_false h,if_neg h];rfl
theorem UD{q:UV}(B:q.l.l.length<1073741824):jk q=some (yX q):=by unfold jk yX;rw[v_ _ B,uS (f:=λk=> !(mb k.kind==EM q.kind)) (λk _=>by unfold mz;rw[tD,VK];rfl)];simp only[map_some,ζb];congr 1;rw[Bool.eq_iff_iff];simp
theorem vO{p:UV}(B:p.Sm)(hd:p.dp<=100000):oG p=some (p.hG yX):=by
 unfold oG;have:p.hG (λq=>(λz=>jk z) q==some (yX q))=true:=by clear hd;induction p using Pred.ind with|h p w=>rw[p.lX,ζh,all_eq_true];exact⟨by show(jk p==some (yX p))=true;rw[UD B.len];simp,λq u=>w q u (B.si u)⟩
 unfold ny;rw[L8 p B this _ hd];rfl
def od(q:UV):X':=decide (q.kind>=18)&&decide (q.kind<=21)
theorem qA{p:UV}(B:p.Sm):kT p=some (j_ p&& !p.hG λq=> !od q):=by unfold kT;rw[rm B,ζb];cases u:j_ p with|false=>rfl|true=>have hd:p.dp<=20:=(by simp only[j_,ζh]at u;exact of_decide_eq_true u.2.1);rw[br,JE (g:=λq=> !od q) (λq=>by unfold mC rW od;cases decide (q.kind>=18)<;>rfl) B Zaa];rfl
end
theorem vF.of{t:Z4}(B:Ok t){p:Nat}{P:bP}(D:t.procs.l[p]?=some P):vF P:=by
 intro e C a G;have⟨k,b⟩:=mem_iff_getElem?.1 C;have⟨i,hi⟩:=mem_iff_getElem?.1 G;have h:=B.fC p k P e D b;unfold uj at h;have w:i<e.assign.l.length:=by apply byContradiction;intro J;rw[getElem?_eq_none Zaa]at hi;cases hi
 have I:qb (pS P e) 0 e.assign.l.length=0:=by split at h;split at h;cases h;split at h;cases h;exact h;cases h
 have u:=(GR (g:=pS P e) (n:=e.assign.l.length) (m:=e.assign.l.length) (k:=0) Zaa).1 I i (zero_le _) w;unfold pS at u;rw[hi]at u;dsimp only at u;by_cases z:(decide (0<=a.var)&&decide (a.var<P.vars.l.length))=true;simpa using z;rw[Bool.not_eq_true]at z;rw[z]at u;simp only[MP]at u;cases u
theorem Ut{t:Z4}{A:bU 200 bq}(b:Small t)(f:b9 t=some true)(e:VT t)(g:eB t (bO t) A){c:Zg}(d:Cons t A c.l):
 Wp (gP t c) λr=>r.2=0/\r.1.l.length=t.procs.l.length/\∀(p:Nat)(P:bP)(a:Int),t.procs.l[p]?=some P->c.l[p]?=some a->∃x,r.1.l[p]?=some x/\x.l=jX P a.toNat:=by
 have I:=d.1.1;unfold gP;rw[fA];refine(yM b f e g c).mono λr i=>?_
 rw[i.zero.2 d,show((0:Int)==0)=true from rfl,br];unfold gP.W1;refine gY c.l.length (λn s=>s.2=(n:Int)/\s.1.l.length=n/\∀(p:Nat)(P:bP)(a:Int),p<n->t.procs.l[p]?=some P->c.l[p]?=some a->∃x,s.1.l[p]?=some x/\x.l=jX P a.toNat) ⟨rfl,rfl,λp P a h=>absurd h Zaa⟩ ?_ ?_
 .rintro n ⟨o,_⟩ u ⟨e1,e2,e3⟩;simp only at e1 e2 e3;subst e1;have J:n<t.procs.l.length:=by omega
  have w:=b.2 _ (getElem_mem J);have D:=ζd J;have C:=ζd u;have⟨a0,a1⟩:=d.1.2 n _ _ C D;have T:=vF.of e.ok D;have⟨x,S,L⟩:=Sn T w.2.1 w.1 w.2.2.2.2 (k:=c.l[n].toNat) Zaa
  rw[show((c.l[n].toNat:Nat):Int)=c.l[n]from Zaa]at S
  have j:=b.1;unfold gP.bz;rw[kX u,br,bL u,ζb,bL J,ζb,S,ζb];have G:fW o (x:Zg)=some (.row (o.l++[x])):=by unfold fW;rw[if_pos Zaa]
  rw[G,ζb,bf,dZ n Zaa]
  refine⟨rfl,by simp[Sl.l];exact e2,λp P a h z B=>?_⟩
  show∃y,(o.l++[x])[p]?=some y/\_
  by_cases O:p=n
  .subst O;rw[D]at z;rw[C]at B;cases z;cases B;exact⟨x,by rw[List.getElem?_append_right Zaa];simp[e2],L⟩
  have⟨y,U,Q⟩:=e3 p P a Zaa z B
  exact⟨y,by rw[List.getElem?_append_left Zaa];exact U,Q⟩
 rintro⟨o,_⟩ ⟨e1,e2,e3⟩;simp only at e1 e2 e3;subst e1;unfold gP.bz;rw[show decide ((c.l.length:Int)<len c)=false from mc,bu,bf];refine(bf _).2 ⟨rfl,by rw[e2,I],λp P a D C=>e3 p P a ?_ D C⟩
 apply byContradiction;intro W;rw[getElem?_eq_none Zaa]at C;cases C
section
variable{P:UV}{t:Z4}
end
def rE(l:SW)(m:Int):Prop:=m∈l/\∀x∈l,m<=x
def isMax(l:SW)(m:Int):Prop:=m∈l/\∀x∈l,x<=m
theorem rE.one{l:SW}{a b:Int}(h:rE l a)(g:rE l b):a=b:=by have:=h.2 b g.1;have:=g.2 a h.1;omega
theorem isMax.one{l:SW}{a b:Int}(h:isMax l a)(g:isMax l b):a=b:=by have:=h.2 b g.1;have:=g.2 a h.1;omega
theorem rE.snoc{l:SW}{a x:Int}(h:rE l a):rE (l++[x]) (if x<a then x else a):=by have⟨b,w⟩:=h;split;refine⟨Zab,λy u=>?_⟩;grind;refine⟨mem_append_left _ b,λy u=>?_⟩;grind
theorem isMax.snoc{l:SW}{a x:Int}(h:isMax l a):isMax (l++[x]) (if x>a then x else a):=by have⟨b,w⟩:=h;split;refine⟨Zab,λy u=>?_⟩;grind;refine⟨mem_append_left _ b,λy u=>?_⟩;grind
theorem PG{s:Zg}(h:0<s.l.length)(B:s.l.length<1073741824):Wp (eT s) λm=>rE s.l m:=by
 unfold eT eT.J1 eT.W2;rw[decide_eq_false (show¬len s<1 by grind),bu,show idx s 0=some s.l[0]from bL (i:=0) h,ζb];refine gY (s.l.length-1) (λn q=>q.2=((n+1:Nat):Int)/\rE (s.l.take (n+1)) q.1) ⟨rfl,?_⟩ ?_ ?_;rw[take_add_one,ζd h];exact⟨Zab,λx z=>Zac⟩;rintro n ⟨m,_⟩ C ⟨rfl,w⟩;have u:n+1<s.l.length:=by omega
 unfold eT.cI;rw[kX u,br,bL u,ζb,bf,dZ _ Zaa];refine⟨rfl,?_⟩;rw[take_add_one,ζd u];exact w.snoc;rintro⟨m,_⟩ ⟨rfl,w⟩;unfold eT.cI;rw[show s.l.length-1+1=s.l.length from Zaa,mc,bu,bf];rw[show s.l.length-1+1=s.l.length from Zaa,take_length]at w;exact(bf _).2 w
theorem QF{s:Zg}(h:0<s.l.length)(B:s.l.length<1073741824):Wp (eV s) λm=>isMax s.l m:=by
 unfold eV eV.J1 eV.W2;rw[decide_eq_false (show¬len s<1 by grind),bu,show idx s 0=some s.l[0]from bL (i:=0) h,ζb];refine gY (s.l.length-1) (λn q=>q.2=((n+1:Nat):Int)/\isMax (s.l.take (n+1)) q.1) ⟨rfl,?_⟩ ?_ ?_;rw[take_add_one,ζd h];exact⟨Zab,λx z=>Zac⟩;rintro n ⟨m,_⟩ C ⟨rfl,w⟩;have u:n+1<s.l.length:=by omega
 unfold eV.cI;rw[kX u,br,bL u,ζb,bf,dZ _ Zaa];refine⟨rfl,?_⟩;rw[take_add_one,ζd u];exact w.snoc;rintro⟨m,_⟩ ⟨rfl,w⟩;unfold eV.cI;rw[show s.l.length-1+1=s.l.length from Zaa,mc,bu,bf];rw[show s.l.length-1+1=s.l.length from Zaa,take_length]at w;exact(bf _).2 w
theorem My{s:Zg}{a b:Int}(h:0<s.l.length)(B:s.l.length<1073741824)(D:rE s.l a)(G:isMax s.l b):l8 s=some ⟨a,b⟩:=by have⟨m,c,u⟩:=PG h B;have⟨n,g1,g2⟩:=QF h B;unfold l8;rw[c,ζb,g1,ζb,u.one D,g2.one G]
theorem Uu(n:Int):l8 (Sl.row [n]:Zg)=some ⟨n,n⟩:=My (by simp[Sl.l]) (by simp[Sl.l]) ⟨by simp[Sl.l],λx u=>by simp[Sl.l]at u;omega⟩ ⟨by simp[Sl.l],λx u=>by simp[Sl.l]at u;omega⟩
theorem TX(a b c d:Int):l8 (Sl.row [a,b,c,d]:Zg)=some ⟨if(if d<c then d else c)<(if b<a then b else a)then(if d<c then d else c)else(if b<a then b else a),if(if d>c then d else c)>(if b>a then b else a)then(if d>c then d else c)else(if b>a then b else a)⟩:=by refine My (by simp[Sl.l]) (by simp[Sl.l]) ⟨?_,λx u=>?_⟩ ⟨?_,λx u=>?_⟩;show _∈[a,b,c,d];grind;have u:x∈[a,b,c,d]:=u;grind;show _∈[a,b,c,d];grind;have u:x∈[a,b,c,d]:=u;grind
def TF(az:aX Assign):Prop:=∀(i j:Nat)a b,i<j->az[i]?=some a->az[j]?=some b->a.var≠b.var
theorem TF.tail{a:Assign}{r:aX Assign}(h:TF (a::r)):TF r:=λi j x y u w z=>h (i+1) (j+1) x y Zaa Zac Zac
def ug(P:bP)(v k:Nat):Int:=((jX P k)[v]?).getD 0
structure Zr(P:bP):Prop where
 ok:vF P
 dst:∀e∈P.events.l,TF e.assign.l
theorem AW{P:bP}{v:Nat}(k:Nat)(a:v<P.vars.l.length):(jX P k)[v]?=some (ug P v k):=by unfold ug;rw[ζd (by rw[rA];omega)];rfl
theorem Zr.of{t:Z4}(D:Ok t){p:Nat}{P:bP}(G:t.procs.l[p]?=some P):Zr P:=by
 refine⟨vF.of D G,λe I i j a b w J C z=>?_⟩;have⟨k,c⟩:=mem_iff_getElem?.1 I;have h:=D.fC p k P e G c;unfold uj at h;have B:j<e.assign.l.length:=(ζe.1 C).1;have L:qb (pS P e) 0 e.assign.l.length=0:=by grind
 have u:=(GR (g:=pS P e) (n:=e.assign.l.length) (m:=e.assign.l.length) (k:=0) Zaa).1 L j (zero_le _) B;unfold pS at u;rw[C]at u;dsimp only at u;have O:mq (fO e.assign.l λx=>x.var==b.var) 0 j=true:=by rw[Ki];exact⟨i,zero_le _,w,by simp[fO,J,z]⟩
 rw[O]at u;revert u;cases(decide (0<=b.var)&&decide (b.var<P.vars.l.length))<;>cases(decide (b.value>=-1073741824)&&decide (b.value<=1073741824))<;>simp[MP]
abbrev BZ(P:bP)(v n:Nat):aX Int:=(range (n+1)).map (ug P v)
theorem Qn{P:bP}{v n k:Nat}(h:k<=n):ug P v k∈BZ P v n:=mem_map.2 ⟨k,mem_range.2 Zaa,rfl⟩
theorem rE.old{l:SW}{a x:Int}(h:rE l a)(B:x∈l):rE (l++[x]) a:=
 ⟨mem_append_left _ h.1,λy b=>by
  rcases mem_append.1 b with b|b
  .exact h.2 y b
  simp at b;subst b;exact h.2 _ B⟩
theorem isMax.old{l:SW}{a x:Int}(h:isMax l a)(B:x∈l):isMax (l++[x]) a:=
 ⟨mem_append_left _ h.1,λy b=>by
  rcases mem_append.1 b with b|b
  .exact h.2 y b
  simp at b;subst b;exact h.2 _ B⟩
section
variable{P:bP}{v:Nat}
theorem OY(D:vF P)(b:P.vars.l.length<1073741824)(T:P.events.l.length<1073741823)(G:∀e∈P.events.l,e.assign.l.length<1073741824)(B:v<P.vars.l.length):
 Wp (fS P v) λs=>s.l=BZ P v P.events.l.length:=by
 have⟨r,c,C,I⟩:=GB D b Zaa G
 have key:∀(a:aX (Int×Zg))(i:Nat)(q:Zg),r.drop i=a->i<=r.length->q.l=(range i).map (ug P v)->∃s,(kY (λ(x:Int×(Zg))(q:Zg)=>fS.jZ P v x q) a q).bind (Fw.rO (λq=>some q) (λe=>Empty.elim e) (λe=>Empty.elim e))=some s/\s.l=(range r.length).map (ug P v):=by intro a;induction a with|nil=>intro i q hd hi z;have:r.length<=i:=(by simpa using hd);exact⟨q,rfl,by rw[z,show i=r.length from Zaa]⟩|cons y a J=>intro i q hd _ z;have u:i<r.length:=(by apply byContradiction;intro S;rw[drop_eq_nil_of_le Zaa]at hd;cases hd);have e2:=drop_eq_getElem_cons u;rw[e2]at hd;simp only[List.cons.injEq]at hd;have⟨U,L⟩:=I i y (by rw[ζd u,hd.1]);have O:idx y.2 (v:Int)=some (ug P v i):=(by rw[jN,L];exact AW i B);have Q:q.l.length=i:=(by rw[z];simp);have w:fW q (ug P v i)=some (.row (q.l++[ug P v i])):=(by unfold fW;rw[if_pos Zaa]);have⟨s,g1,g2⟩:=J (i+1) (.row (q.l++[ug P v i])) hd.2 Zaa (by show q.l++[ug P v i]=_;rw[z,range_succ,map_append];rfl);refine⟨s,?_,g2⟩;simp only[kY,fS.jZ,O,w,ζb];exact g1
 have⟨s,g1,g2⟩:=key r 0 .nil rfl (zero_le _) rfl;refine⟨s,?_,by show s.l=_;rw[g2,C]⟩
 unfold fS nT fS.E1;simp only[ζb,c];exact g1
theorem C1{α:Type}{f:α->X'}{l:aX α}{k:Nat}{x:α}(b:l[k]?=some x)(B:f x=true)(D:∀(j:Nat)(y:α),j<k->l[j]?=some y->f y=false):place f l=k:=by unfold place;have a:=(ζe.1 b);have⟨a,u⟩:=a;rw[show l.findIdx? f=some k from by rw[List.findIdx?_eq_some_iff_getElem];exact⟨a,by rw[u];exact B,λj w=>by rw[D j _ w (ζd Zaa)];simp⟩]
theorem HC{t:Z4}(d:Small t)(e:b9 t=some true)(J:Ok t){n:Nat}(D:t.procs.l[n]?=some P){name:V'}{x:Var}(c:P.vars.l[v]?=some x)(T:(toList x.name==toList name)=true)
 (U:∀(j:Nat)(w:Var),j<v->P.vars.l[j]?=some w->(toList w.name==toList name)=false):
 Wp (q9 t n name) λr=>r.2.2=0/\rE (BZ P v P.events.l.length) r.1/\isMax (BZ P v P.events.l.length) r.2.1:=by
 have O:n<t.procs.l.length:=(ζe.1 D).1;have Q:=mem_of_getElem? D;have u:=d.2 P Q;have C:v<P.vars.l.length:=(ζe.1 c).1;have I:P.events.l.length<=64:=by have:=J.heads n O;unfold xu at this;rw[D]at this;dsimp only at this;split at this;split at this;cases this;split at this;split at this;cases this;omega;rename_i G;exact absurd this G;cases this
 have⟨s,g1,g2⟩:=OY (vF.of J D) u.2.1 Zaa u.2.2.2.2 C
 have g:s.l.length=P.events.l.length+1:=by rw[g2];simp[BZ]
 have⟨a,a1,a2⟩:=PG (s:=s) Zaa Zaa
 have⟨b,S,L⟩:=QF (s:=s) Zaa Zaa
 have B:sI t n name=some ((v:Int),0):=by unfold sI;rw[e,ζb,br,decide_eq_false (show¬(n:Int)<0 by omega),bu,ζb,decide_eq_false (show¬(n:Int)>=len t.procs by simp only[len];omega),bu,jN,D,ζb];unfold uJ;rw[zZ (p:=λz=>ou z name) (f:=λw=>toList w.name==toList name) (λ_ _=>rfl) u.2.1,C1 c T U,ζb,ζb,decide_eq_false (show¬((v:Nat):Int)<0 by omega)];rfl
 unfold q9;rw[B,ζb];simp only;rw[show((0:Int)==0)=true from rfl,br,jN,D,ζb,g1,ζb,a1,ζb,S,ζb,bf];rw[g2]at a2 L;exact⟨rfl,a2,L⟩
def gA(o:Pi)(b a:Int):Int×Int:=match o with
 |none=>(b,a)|some x=>(if x<b then x else b,if x>a then x else a)
end
end Go.VE
