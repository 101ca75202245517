/-
 The law in plain Lean, and the join.
-/
import Derived.Test.YtknifbdijcocpaaGreatDoorK1
import Derived.Test.YtknifbdijcocpaaGreatDoorG1
set_option linter.all false
open List(Nodup Pairwise all_eq_true countP_cons drop_eq_getElem_cons drop_of_length_le ext_getElem? finRange find?_append find?_eq_none getElem?_eq_none getElem?_map getElem?_replicate getElem?_set getElem?_take getElem_mem length length_cons length_set length_singleton length_take mapM_cons map_append map_cons map_nil mem_append mem_append_left mem_cons mem_cons_of_mem mem_cons_self mem_iff_getElem mem_map mem_of_getElem? mem_of_mem_take mem_range mem_singleton pairwise_append pairwise_cons pairwise_map range range' replicate sum_cons sum_nil take_add_one take_append_drop take_length zipWith)
open Option(bind_eq_bind getD_some pure_def)
open Go.IntKind(signed wrap)
open Nat(le_refl zero_le)
open Bool(false_eq_true not_eq_true' or_eq_false_iff or_eq_true)
open ByteArray(toList)
open Relation(TransGen)
open Classical(byContradiction)
open Int(toNat toNat_natCast)
open UInt8(ofNat)
namespace Go.VE
theorem Zae{p:Prop}(h:p:=by kernel_rfl):p:=h
instance:cr Var where
 wt x:=cr.wt x.name+cr.wt x.init_+1
 ok x:=cr.ok x.name/\cr.ok x.init_/\True
instance:cr Assign where
 wt x:=cr.wt x.var+cr.wt x.value+1
 ok x:=cr.ok x.var/\cr.ok x.value/\True
instance:cr Event where
 wt x:=cr.wt x.kind+cr.wt x.peer+cr.wt x.message+cr.wt x.time+cr.wt x.assign+1
 ok x:=cr.ok x.kind/\cr.ok x.peer/\cr.ok x.message/\cr.ok x.time/\cr.ok x.assign/\True
instance:cr bU where
 wt x:=cr.wt x.name+cr.wt x.vars+cr.wt x.events+1
 ok x:=cr.ok x.name/\cr.ok x.vars/\cr.ok x.events/\True
instance:cr Trace where
 wt x:=cr.wt x.procs+1
 ok x:=cr.ok x.procs/\True
instance:cr bR where
 wt x:=cr.wt x.low+cr.wt x.high+1
 ok x:=cr.ok x.low/\cr.ok x.high/\True
instance:cr ck where
 wt x:=cr.wt x.t+cr.wt x.counts+cr.wt x.values+1
 ok x:=cr.ok x.t/\cr.ok x.counts/\cr.ok x.values/\True
mutual
def Pred.wtR:Pred->Nat
 |⟨f0,f1,f2,f3,B,f5⟩=>cr.wt f0+cr.wt f1+cr.wt f2+cr.wt f3+cr.wt B+Pred.Uw f5+1
def Pred.Uw:Sl Pred->Nat
 |.nil=>1|.emp=>1|.row l=>Pred.Ki l+1|.part l=>Pred.Ki l+1
def Pred.Ki:L' Pred->Nat
 |[]=>0|x::r=>Pred.wtR x+Pred.Ki r
end
mutual
def Pred.ZX:Pred->Prop
 |⟨f0,f1,f2,f3,B,f5⟩=>cr.ok f0/\cr.ok f1/\cr.ok f2/\cr.ok f3/\cr.ok B/\Pred.ZR f5/\True
def Pred.ZR:Sl Pred->Prop
 |.nil=>True|.emp=>False|.row l=>Pred.Ua l|.part l=>Pred.Ua l
def Pred.Ua:L' Pred->Prop
 |[]=>True|x::r=>Pred.ZX x/\Pred.Ua r
end
instance:cr Pred where
 wt:=Pred.wtR
 ok:=Pred.ZX
theorem Pred.F_:∀l:L' Pred,Pred.Ki l=(l.map cr.wt).sum
 |[]=>rfl|x::r=>by simp only[Pred.Ki,map_cons,sum_cons,Pred.F_ r];rfl
theorem Pred.Z_(s:Sl Pred):Pred.Uw s=cr.wt s:=by cases s with|nil=>rfl|emp=>rfl|row l=>show Pred.Ki l+1=(l.map cr.wt).sum+1;rw[Pred.F_]|part l=>show Pred.Ki l+1=(l.map cr.wt).sum+1;rw[Pred.F_]
theorem Pred.FX:∀l:L' Pred,(∀x∈l,cr.ok x)->Pred.Ua l
 |[],_=>trivial|x::r,h=>⟨h x (mem_cons_self ..),Pred.FX r λy B=>h y (mem_cons_of_mem _ B)⟩
theorem Pred.okE(s:Sl Pred)(h:cr.ok s):Pred.ZR s:=by cases s with|nil=>trivial|emp=>exact h.2 rfl|row l=>exact Pred.FX l h.1|part l=>exact Pred.FX l h.1
end Go.VE
namespace Go.VE.YtknifbdijcocpaaGreatDoor
open Go.Proofs Go.Proofs.YtknifbdijcocpaaGreatDoor
instance rd9:Reads Tryz.prog 9 ByteArray:=Reads.str Tryz.underlying9 Zae
instance rd3:Reads Tryz.prog 3 Int:=Reads.int Tryz.underlying3 Zae
instance abb:Reads Tryz.prog 40 Var:=by refine Reads.st Tryz.underlying40 Zae rfl ?_;intro H enc w base a c u cs l I h;simp only[mapM_cons,List.mapM_nil,pure_def,bind_eq_bind,ζg,ζa]at h;obtain⟨z,e,J,⟨B,f,L,rfl,rfl⟩,rfl⟩:=h;obtain⟨a0,C,k0,O⟩:=Reads.rd (P:=Tryz.prog) (t:=9) (α:=ByteArray) (d:=z.1) (ps:=z.2) e;rw[show Tryz.prog.cellsOf 9=1 from by kernel_rfl]at C;obtain⟨a1,D,k1,Q⟩:=Reads.rd (P:=Tryz.prog) (t:=3) (α:=Int) (d:=B.1) (ps:=B.2) f;rw[show Tryz.prog.cellsOf 3=1 from by kernel_rfl]at D;refine⟨⟨a0,a1⟩,fD.fin (n:=2) (fD.seg (o:=1) (n:=1) (fD.seg (o:=0) (n:=1) (show fD (snap w) [] (cs.take 0)from by simpa using fD.nil) C) D) I,⟨k0,k1,trivial⟩,λb G=>?_⟩;have S:=O b G;have T:=Q b G;show cr.wt a0+cr.wt a1+1<=_;simp only[map_cons,map_nil,sum_cons,sum_nil];omega
instance aa_:Reads Tryz.prog 41 (Sl Var):=Reads.sl (e:=40) Tryz.underlying41 Zae (by decide)
instance abg:Reads Tryz.prog 43 Assign:=by refine Reads.st Tryz.underlying43 Zae rfl ?_;intro H enc w base a c u cs l I h;simp only[mapM_cons,List.mapM_nil,pure_def,bind_eq_bind,ζg,ζa]at h;obtain⟨z,e,J,⟨B,f,L,rfl,rfl⟩,rfl⟩:=h;obtain⟨a0,C,k0,O⟩:=Reads.rd (P:=Tryz.prog) (t:=3) (α:=Int) (d:=z.1) (ps:=z.2) e;rw[show Tryz.prog.cellsOf 3=1 from by kernel_rfl]at C;obtain⟨a1,D,k1,Q⟩:=Reads.rd (P:=Tryz.prog) (t:=3) (α:=Int) (d:=B.1) (ps:=B.2) f;rw[show Tryz.prog.cellsOf 3=1 from by kernel_rfl]at D;refine⟨⟨a0,a1⟩,fD.fin (n:=2) (fD.seg (o:=1) (n:=1) (fD.seg (o:=0) (n:=1) (show fD (snap w) [] (cs.take 0)from by simpa using fD.nil) C) D) I,⟨k0,k1,trivial⟩,λb G=>?_⟩;have S:=O b G;have T:=Q b G;show cr.wt a0+cr.wt a1+1<=_;simp only[map_cons,map_nil,sum_cons,sum_nil];omega
instance aba:Reads Tryz.prog 44 (Sl Assign):=Reads.sl (e:=43) Tryz.underlying44 Zae (by decide)
instance aa9:Reads Tryz.prog 46 Event:=by refine Reads.st Tryz.underlying46 Zae rfl ?_;intro H enc w base a c z cs l Q h;simp only[mapM_cons,List.mapM_nil,pure_def,bind_eq_bind,ζg,ζa]at h;obtain⟨B,e,S,⟨C,f,T,⟨x2,U,W,⟨D,X,Y,⟨x4,Z,p,rfl,rfl⟩,rfl⟩,rfl⟩,rfl⟩,rfl⟩:=h;obtain⟨a0,G,k0,g⟩:=Reads.rd (P:=Tryz.prog) (t:=3) (α:=Int) (d:=B.1) (ps:=B.2) e;rw[show Tryz.prog.cellsOf 3=1 from by kernel_rfl]at G;obtain⟨a1,I,k1,i⟩:=Reads.rd (P:=Tryz.prog) (t:=3) (α:=Int) (d:=C.1) (ps:=C.2) f;rw[show Tryz.prog.cellsOf 3=1 from by kernel_rfl]at I;obtain⟨a2,J,k2,j⟩:=Reads.rd (P:=Tryz.prog) (t:=3) (α:=Int) (d:=x2.1) (ps:=x2.2) U;rw[show Tryz.prog.cellsOf 3=1 from by kernel_rfl]at J;obtain⟨a3,L,k3,k⟩:=Reads.rd (P:=Tryz.prog) (t:=3) (α:=Int) (d:=D.1) (ps:=D.2) X;rw[show Tryz.prog.cellsOf 3=1 from by kernel_rfl]at L;obtain⟨a4,O,k4,m⟩:=Reads.rd (P:=Tryz.prog) (t:=44) (α:=(Sl Assign)) (d:=x4.1) (ps:=x4.2) Z;rw[show Tryz.prog.cellsOf 44=1 from by kernel_rfl]at O;refine⟨⟨a0,a1,a2,a3,a4⟩,fD.fin (n:=5) (fD.seg (o:=4) (n:=1) (fD.seg (o:=3) (n:=1) (fD.seg (o:=2) (n:=1) (fD.seg (o:=1) (n:=1) (fD.seg (o:=0) (n:=1) (show fD (snap w) [] (cs.take 0)from by simpa using fD.nil) G) I) J) L) O) Q,⟨k0,k1,k2,k3,k4,trivial⟩,λb u=>?_⟩;have q:=g b u;have r:=i b u;have s:=j b u;have v:=k b u;have x:=m b u;show cr.wt a0+cr.wt a1+cr.wt a2+cr.wt a3+cr.wt a4+1<=_;simp only[map_cons,map_nil,sum_cons,sum_nil];omega
instance aa8:Reads Tryz.prog 47 (Sl Event):=Reads.sl (e:=46) Tryz.underlying47 Zae (by decide)
instance abd:Reads Tryz.prog 49 bU:=by refine Reads.st Tryz.underlying49 Zae rfl ?_;intro H enc w base a c z cs l J h;simp only[mapM_cons,List.mapM_nil,pure_def,bind_eq_bind,ζg,ζa]at h;obtain⟨B,e,L,⟨C,f,O,⟨x2,Q,S,rfl,rfl⟩,rfl⟩,rfl⟩:=h;obtain⟨a0,D,k0,T⟩:=Reads.rd (P:=Tryz.prog) (t:=9) (α:=ByteArray) (d:=B.1) (ps:=B.2) e;rw[show Tryz.prog.cellsOf 9=1 from by kernel_rfl]at D;obtain⟨a1,G,k1,U⟩:=Reads.rd (P:=Tryz.prog) (t:=41) (α:=(Sl Var)) (d:=C.1) (ps:=C.2) f;rw[show Tryz.prog.cellsOf 41=1 from by kernel_rfl]at G;obtain⟨a2,I,k2,W⟩:=Reads.rd (P:=Tryz.prog) (t:=47) (α:=(Sl Event)) (d:=x2.1) (ps:=x2.2) Q;rw[show Tryz.prog.cellsOf 47=1 from by kernel_rfl]at I;refine⟨⟨a0,a1,a2⟩,fD.fin (n:=3) (fD.seg (o:=2) (n:=1) (fD.seg (o:=1) (n:=1) (fD.seg (o:=0) (n:=1) (show fD (snap w) [] (cs.take 0)from by simpa using fD.nil) D) G) I) J,⟨k0,k1,k2,trivial⟩,λb u=>?_⟩;have X:=T b u;have Y:=U b u;have Z:=W b u;show cr.wt a0+cr.wt a1+cr.wt a2+1<=_;simp only[map_cons,map_nil,sum_cons,sum_nil];omega
instance abe:Reads Tryz.prog 22 (Sl bU):=Reads.sl (e:=49) Tryz.underlying22 Zae (by decide)
instance abf:Reads Tryz.prog 24 Trace:=by refine Reads.st Tryz.underlying24 Zae rfl ?_;intro H enc w base a c u cs l C h;simp only[mapM_cons,List.mapM_nil,pure_def,bind_eq_bind,ζg,ζa]at h;obtain⟨z,e,D,rfl,rfl⟩:=h;obtain⟨a0,B,k0,G⟩:=Reads.rd (P:=Tryz.prog) (t:=22) (α:=(Sl bU)) (d:=z.1) (ps:=z.2) e;rw[show Tryz.prog.cellsOf 22=1 from by kernel_rfl]at B;refine⟨⟨a0⟩,fD.fin (n:=1) (fD.seg (o:=0) (n:=1) (show fD (snap w) [] (cs.take 0)from by simpa using fD.nil) B) C,⟨k0,trivial⟩,λb I=>?_⟩;have J:=G b I;show cr.wt a0+1<=_;simp only[map_cons,map_nil,sum_cons,sum_nil];omega
theorem Yd:∀B,sZ Tryz.prog 27 Pred B:=by
 intro B;induction B using Nat.strongRecOn with|ind B S=>
 cases B with|zero=>intro H enc w base a c cs d ps h;simp[DataW.trod]at h|succ B=>
 refine sZ.st Tryz.underlying27 Zae ?_;intro H enc w base a c cs l T h;simp only[mapM_cons,List.mapM_nil,pure_def,bind_eq_bind,ζg,ζa]at h;obtain⟨C,f,U,⟨D,i,W,⟨x2,X,Y,⟨G,Z,x,⟨x4,j,y,⟨x5,k,A,rfl,rfl⟩,rfl⟩,rfl⟩,rfl⟩,rfl⟩,rfl⟩:=h;obtain⟨a0,I,k0,m⟩:=Reads.rd (P:=Tryz.prog) (t:=3) (α:=Int) (d:=C.1) (ps:=C.2) f;rw[show Tryz.prog.cellsOf 3=1 from by kernel_rfl]at I;obtain⟨a1,J,k1,p⟩:=Reads.rd (P:=Tryz.prog) (t:=3) (α:=Int) (d:=D.1) (ps:=D.2) i;rw[show Tryz.prog.cellsOf 3=1 from by kernel_rfl]at J;obtain⟨a2,L,k2,q⟩:=Reads.rd (P:=Tryz.prog) (t:=3) (α:=Int) (d:=x2.1) (ps:=x2.2) X;rw[show Tryz.prog.cellsOf 3=1 from by kernel_rfl]at L;obtain⟨a3,O,k3,r⟩:=Reads.rd (P:=Tryz.prog) (t:=3) (α:=Int) (d:=G.1) (ps:=G.2) Z;rw[show Tryz.prog.cellsOf 3=1 from by kernel_rfl]at O;obtain⟨a4,Q,k4,s⟩:=Reads.rd (P:=Tryz.prog) (t:=9) (α:=ByteArray) (d:=x4.1) (ps:=x4.2) j;rw[show Tryz.prog.cellsOf 9=1 from by kernel_rfl]at Q;obtain⟨a5,z,k5,v⟩:=sZ.Z8 (t:=25) (e:=27) (α:=Pred) Tryz.underlying25 Zae (by decide) (λg E=>S g Zaa) (show _=some (x5.1,x5.2)from k);rw[show Tryz.prog.cellsOf 25=1 from by kernel_rfl]at z;rw[vS rfl,<-Pred.mq]at z;refine⟨⟨a0,a1,a2,a3,a4,a5⟩,fD.fin (n:=6) (fD.seg (o:=5) (n:=1) (fD.seg (o:=4) (n:=1) (fD.seg (o:=3) (n:=1) (fD.seg (o:=2) (n:=1) (fD.seg (o:=1) (n:=1) (fD.seg (o:=0) (n:=1) (show fD (snap w) [] (cs.take 0)from by simpa using fD.nil) I) J) L) O) Q) z) T,⟨k0,k1,k2,k3,k4,Pred.okE _ k5,trivial⟩,λb u=>?_⟩;have F:=m b u;have K:=p b u;have M:=q b u;have N:=r b u;have R:=s b u;have V:=v b u;show cr.wt a0+cr.wt a1+cr.wt a2+cr.wt a3+cr.wt a4+Pred.Uw a5+1<=_;rw[Pred.Z_];simp only[map_cons,map_nil,sum_cons,sum_nil];omega
instance abh:Reads Tryz.prog 27 Pred:=Reads.of Tryz.underlying27 Zae rfl Yd
instance abc:Reads Tryz.prog 28 (Sl Int):=Reads.sl (e:=3) Tryz.underlying28 Zae (by decide)
end Go.VE.YtknifbdijcocpaaGreatDoor
namespace Go.VE
end Go.VE
namespace Go.VE
abbrev MB{α:Type}(m:Lk α):Prop:=Wp m λ_=>True
theorem MB.get{α:Type}{m:Lk α}(h:MB m):∃a,m=some a:=let⟨a,e,_⟩:=h;⟨a,e⟩
theorem MB.ok{m:Lk Bool}(h:MB m):m=some (m.getD false):=by obtain⟨a,e,_⟩:=h;rw[e];rfl
def Small(t:Trace):Prop:=t.procs.l.length<1073741824/\∀p∈t.procs.l,p.events.l.length<1073741824/\p.vars.l.length<1073741824/\p.name.size<1073741824/\(∀v∈p.vars.l,v.name.size<1073741824)/\∀e∈p.events.l,e.assign.l.length<1073741824
section
theorem N3{s:Sl Event}{p:Event->Lk Bool}{f:Event->Bool}(hp:∀x∈s.l,p x=some (f x))(B:s.l.length<1073741824):gq s p=some (place f s.l):=vE hp Zaa (λi=>rfl)
theorem PZ{s:Sl bU}{p:bU->Lk Bool}{f:bU->Bool}(hp:∀x∈s.l,p x=some (f x))(B:s.l.length<1073741824):gM s p=some (place f s.l):=vE hp Zaa (λi=>rfl)
theorem Dj{s:Sl Var}{p:Var->Lk Bool}{f:Var->Bool}(hp:∀x∈s.l,p x=some (f x))(B:s.l.length<1073741824):fA s p=some (place f s.l):=vE hp Zaa (λi=>rfl)
theorem KV{s:Sl Assign}{p:Assign->Lk Bool}{f:Assign->Bool}(hp:∀x∈s.l,p x=some (f x))(B:s.l.length<1073741824):fQ s p=some (place f s.l):=vE hp Zaa (λi=>rfl)
theorem we{s:Sl Event}{p:Event->Lk Bool}{f:Event->Bool}(hp:∀x∈s.l,p x=some (f x))(B:s.l.length<1073741824):gw s p=some (s.l.any f):=by unfold gw;rw[N3 hp B,ζb,vO]
theorem I9{s:Sl bU}{p:bU->Lk Bool}{f:bU->Bool}(hp:∀x∈s.l,p x=some (f x))(B:s.l.length<1073741824):iW s p=some (s.l.any f):=by unfold iW;rw[PZ hp B,ζb,vO]
theorem CQ{s:Sl Var}{p:Var->Lk Bool}{f:Var->Bool}(hp:∀x∈s.l,p x=some (f x))(B:s.l.length<1073741824):gU s p=some (s.l.any f):=by unfold gU;rw[Dj hp B,ζb,vO]
theorem Fs{s:Sl Assign}{p:Assign->Lk Bool}{f:Assign->Bool}(hp:∀x∈s.l,p x=some (f x))(B:s.l.length<1073741824):hG s p=some (s.l.any f):=by unfold hG;rw[KV hp B,ζb,vO]
theorem qc(x lo hi:Int):ov x lo hi=some (decide (lo<=x)&&decide (x<=hi)):=by unfold ov;rw[nL];rfl
theorem Nx{s:ByteArray}{i:Nat}(h:i<s.size):∃x,lR s (i:Int)=some x:=by unfold lR;rw[if_pos Zaa];exact⟨_,by rw[show(s[(i:Int).toNat]?)=some s[i]from by simp[h]];rfl⟩
def lN(n:Nat)(p:Int)(e:Event):Prop:=e.kind=1\/((e.kind=2\/e.kind=3)/\0<=e.peer/\e.peer<n/\e.peer≠p/\0<=e.message/\e.message<=199)
end
def mj(t:Trace)(p k:Nat)(e:Event):Prop:=∃P,t.procs.l[p]?=some P/\P.events.l[k]?=some e
theorem vn{p:Int}{x:aZ×Event}:∀{es:L' Event}{j:Int},x∈i_ p j es↔∃k:Nat,es[k]?=some x.2/\x.1=⟨p,j+k+1⟩
 |[],j=>by simp[i_]|e::es,j=>by simp[i_,vn];constructor;rintro(rfl|⟨k,a,B⟩);exact⟨0,rfl,Zab⟩;exact⟨k+1,Zac,Zac⟩;grind
theorem v_{x:aZ×Event}:∀{ps:L' bU}{i:Int},x∈gb i ps↔∃(a k:Nat)(P:bU),ps[a]?=some P/\P.events.l[k]?=some x.2/\x.1=⟨i+a,k+1⟩
 |[],i=>by simp[gb]|p::ps,i=>by simp only[gb,mem_append,vn,v_];constructor;rintro(⟨k,b,B⟩|⟨a,k,P,b,B,D⟩);exact⟨0,k,p,rfl,b,Zac⟩;exact⟨a+1,k,P,by simp_all,B,Zac⟩;grind
abbrev bO(t:Trace):L' (aZ×Event):=gb 0 t.procs.l
theorem dQ{t:Trace}{x:aZ×Event}:x∈bO t↔∃p k:Nat,mj t p k x.2/\x.1=⟨p,k+1⟩:=by rw[v_];constructor;rintro⟨a,k,P,b,u,w⟩;exact⟨a,k,⟨P,b,u⟩,Zac⟩;rintro⟨a,k,⟨P,b,u⟩,w⟩;grind
theorem zM{t:Trace}{x y:aZ×Event}(B:x∈bO t)(D:y∈bO t)(h:x.1=y.1):x=y:=by obtain⟨p,k,⟨P,u,a⟩,e1⟩:=dQ.1 B;obtain⟨q,j,⟨Q,w,z⟩,e2⟩:=dQ.1 D;grind
theorem tY{t:Trace}(a:Small t):jy t=some (bO t):=by unfold jy;rw[if_pos];simp[pK];exact⟨by have:=a.1;omega,λp u=>by have:=(a.2 p u).1;omega⟩
def tO(t:Trace)(p m a:Int):Bool:=match t.procs.l[p.toNat]?with
 |some P=>P.events.l.any λe=>e.kind==2&&e.message==m&&e.peer==a|none=>false
theorem TP{t:Trace}(b:Small t){p:Int}(c:0<=p)(d:p<t.procs.l.length)(m a:Int):vh t p m a=some (tO t p m a):=by unfold vh;have u:p.toNat<t.procs.l.length:=Zaa;have w:=getElem_mem u;rw[S3 c,ζd u,ζb,we (f:=λe=>e.kind==2&&e.message==m&&e.peer==a) (λe _=>by unfold rM;simp[nL]) (b.2 _ w).1,ζb];unfold tO;grind
theorem An{t:Trace}{p:Nat}{m a:Int}:tO t p m a=true↔∃k e,mj t p k e/\e.kind=2/\e.message=m/\e.peer=a:=by unfold tO mj;rw[show(p:Int).toNat=p from rfl];cases w:t.procs.l[p]?with|none=>simp|some P=>simp;constructor;rintro⟨e,u,h⟩;obtain⟨k,b⟩:=List.getElem?_of_mem u;grind;grind
def ag(A:cq 200 bD)(m:Int):bD:=(A.at m).getD default
theorem Od(A:cq 200 bD){m:Int}(a:0<=m)(b:m<=199):A.at m=some (ag A m):=by
 have:m.toNat<A.l.length:=by rw[A.len];omega
 unfold ag cq.at;grind
theorem rZ(A:cq 200 bD){m m':Int}(x:bD)(a:0<=m)(b:m<=199)(B:0<=m'):ag (A.set m x) m'=if m'=m then x else ag A m':=by
 have:m.toNat<A.l.length:=by rw[A.len];omega
 unfold ag cq.at cq.set;grind
theorem QO{m:Int}(a:0<=m)(b:m<=199):ag (cq.Qg 200 (⟨⟨0,0⟩,⟨0,0⟩⟩:bD)) m=⟨⟨0,0⟩,⟨0,0⟩⟩:=by unfold ag cq.at cq.Qg;grind
structure fR(t:Trace)(its:List (aZ×Event))(A:cq 200 bD):Prop where
 snd:∀x∈its,x.2.kind=2->(ag A x.2.message).from_=x.1
 rcv:∀x∈its,x.2.kind=3->(ag A x.2.message).to_=x.1/\tO t x.2.peer x.2.message x.1.proc=true
 fr:∀m,0<=m->m<=199->(ag A m).from_.index=0\/∃e,((ag A m).from_,e)∈its/\e.kind=2/\e.message=m
 to:∀m,0<=m->m<=199->(ag A m).to_.index=0\/∃e,((ag A m).to_,e)∈its/\e.kind=3/\e.message=m
def NN(a b:aZ×Event):Prop:=a.1.proc<b.1.proc\/a.1.proc=b.1.proc/\a.1.index<b.1.index
theorem Pe{p:Int}:∀{es:L' Event}{j:Int},(i_ p j es).Pairwise NN
 |[],_=>Pairwise.nil|e::es,j=>by simp only[i_,pairwise_cons];refine⟨λb B=>?_,Pe⟩;obtain⟨k,_,D⟩:=vn.1 B;refine .inr ⟨by rw[D],?_⟩;grind
theorem J9:∀{ps:L' bU}{i:Int},(gb i ps).Pairwise NN
 |[],_=>Pairwise.nil|P::ps,i=>by simp only[gb,pairwise_append];refine⟨Pe,J9,λa B b D=>.inl ?_⟩;obtain⟨k,_,G⟩:=vn.1 B;obtain⟨c,j,P,_,_,u⟩:=v_.1 D;grind
theorem JJ{t:Trace}{k:Nat}{x y:aZ×Event}(B:(bO t)[k]?=some x)(D:y∈(bO t).take k):y.1≠x.1:=by
 obtain⟨a,u⟩:=ζe.1 B;have w:((bO t).take k++(bO t).drop k).Pairwise NN:=by rw[take_append_drop];exact J9
 have:=(pairwise_append.1 w).2.2 y D x (by rw[drop_eq_getElem_cons a,u];grind);unfold NN at this;grind
structure zG(t:Trace):Prop where
 snd:∀x∈bO t,∀y∈bO t,x.2.kind=2->y.2.kind=2->x.2.message=y.2.message->x.1=y.1
 rcv:∀x∈bO t,∀y∈bO t,x.2.kind=3->y.2.kind=3->x.2.message=y.2.message->x.1=y.1
 has:∀x∈bO t,x.2.kind=3->tO t x.2.peer x.2.message x.1.proc=true
theorem fR.BM{t:Trace}{A:cq 200 bD}(h:fR t (bO t) A):zG t:=⟨λx w y z k2 u B=>by rw[<-h.snd x w k2,<-h.snd y z u,B],λx w y z k2 u B=>by rw[<-(h.rcv x w k2).1,<-(h.rcv y z u).1,B],λx w k=>(h.rcv x w k).2⟩
theorem EL{t:Trace}(l:Small t)(i:∀x∈bO t,lN t.procs.l.length x.1.proc x.2):Wp (eW t) λr=>(r.2.2=0->∃A,r.1=some A/\fR t (bO t) A)/\(zG t->r.2.2=0):=by
 unfold eW jD;rw[ζb];unfold eW.E1;rw[tY l,ζb];refine zm (λk A=>fR t ((bO t).take k) A) ⟨Zab,Zab,λm c b=>.inl (by rw[QO c b]),λm c b=>.inl (by rw[QO c b])⟩ ?_ ?_;intro k x A f B;have G:=mem_of_getElem? f;have S:(bO t).take (k+1)=(bO t).take k++[x]:=by rw[take_add_one,f];rfl
 obtain⟨p,j,F,H⟩:=dQ.1 G;have n:=i x G;unfold eW.jZ;rw[b_];constructor;intro d;have L:x.2.kind=2:=by grind
 have u:0<=x.2.message/\x.2.message<=199:=by rcases n with h|⟨_,_,_,_,h⟩;omega;simp_all
 rw[Od A u.1 u.2,ζb,b_];refine⟨λo=>(bf _).2 ((bf _).2 ⟨λh=>(by cases h),λX=>?_⟩),λc=>?_⟩;rcases B.fr _ u.1 u.2 with Y|⟨e,O,T,U⟩;grind;exact absurd (X.snd _ (mem_of_mem_take O) x G T L U) (JJ f O);rw[ζb,bf,S];have W:∀y∈(bO t).take k,y.2.kind=2->y.2.message≠x.2.message:=λy a w O=>by have:=B.snd y a w;rw[O]at this;obtain⟨p',q,_,Q⟩:=dQ.1 (mem_of_mem_take a);grind
 have Z:∀y∈(bO t).take k,y.2.kind=2\/y.2.kind=3->0<=y.2.message:=λy a w=>by rcases i y (mem_of_mem_take a)with h|⟨_,_,_,_,h,_⟩;omega;simp_all
 refine⟨λy a w=>?_,λy a z=>?_,λm C I=>?_,λm C I=>?_⟩;rcases mem_append.1 a with a|a;rw[rZ A _ u.1 u.2 (Z y a (.inl w)),if_neg (W y a w)];exact B.snd y a w;simp at a;subst a;rw[rZ A _ u.1 u.2 u.1,if_pos rfl];rcases mem_append.1 a with a|a;rw[rZ A _ u.1 u.2 (Z y a (.inr z))];have:=B.rcv y a z;grind;grind;rw[rZ A _ u.1 u.2 C];split;next e=>exact .inr ⟨x.2,Zab,L,e.symm⟩
 exact(B.fr m C I).imp (λh=>h) λ⟨e,b,D⟩=>⟨e,mem_append_left _ b,D⟩;rw[rZ A _ u.1 u.2 C];have:=(B.to m C I).imp (λh=>h) λ⟨e,b,D⟩=>(⟨e,mem_append_left [x] b,D⟩:∃e,((ag A m).to_,e)∈(bO t).take k++[x]/\e.kind=3/\e.message=m);split;next e=>subst e;omega
 omega;intro d;have L:=by simpa using d
 rw[b_];constructor;intro d;have J:=by simpa using d
 have u:0<=x.2.message/\x.2.message<=199/\0<=x.2.peer/\x.2.peer<t.procs.l.length:=by rcases n with h|⟨_,b,D,_,v,E⟩;omega;exact⟨v,E,b,D⟩
 rw[Od A u.1 u.2.1,ζb,b_];refine⟨λo=>(bf _).2 ((bf _).2 ⟨λh=>(by cases h),λX=>?_⟩),λc=>?_⟩;rcases B.to _ u.1 u.2.1 with Y|⟨e,O,T,U⟩;simp[Y]at o;exact absurd (X.rcv _ (mem_of_mem_take O) x G T J U) (JJ f O);have c:¬(ag A x.2.message).to_.index>0:=by simpa using c
 rw[TP l u.2.2.1 u.2.2.2,ζb,b_];refine⟨λg=>?_,λg=>(bf _).2 ((bf _).2 ⟨λh=>(by cases h),λX=>by rw[X.has x G J]at g;cases g⟩)⟩;rw[ζb,bf,S];have W:∀y∈(bO t).take k,y.2.kind=3->y.2.message≠x.2.message:=λy a w O=>by have:=(B.rcv y a w).1;rw[O]at this;rw[this]at c;obtain⟨p',q,_,Q⟩:=dQ.1 (mem_of_mem_take a);rw[Q]at c;exact c (by show(q:Int)+1>0;omega)
 have Z:∀y∈(bO t).take k,y.2.kind=2\/y.2.kind=3->0<=y.2.message:=λy a w=>by rcases i y (mem_of_mem_take a)with h|⟨_,_,_,_,h,_⟩;omega;exact h
 refine⟨λy a w=>?_,λy a z=>?_,λm C I=>?_,λm C I=>?_⟩;rcases mem_append.1 a with a|a;rw[rZ A _ u.1 u.2.1 (Z y a (.inl w))];have:=B.snd y a w;split;next e=>rw[e]at this;exact this
 exact this;simp at a;subst a;omega;rcases mem_append.1 a with a|a;rw[rZ A _ u.1 u.2.1 (Z y a (.inr z)),if_neg (W y a z)];exact B.rcv y a z;simp at a;subst a;rw[rZ A _ u.1 u.2.1 u.1,if_pos rfl];exact⟨rfl,g⟩;rw[rZ A _ u.1 u.2.1 C];have:=(B.fr m C I).imp (λh=>h) λ⟨e,b,D⟩=>(⟨e,mem_append_left [x] b,D⟩:∃e,((ag A m).from_,e)∈(bO t).take k++[x]/\e.kind=2/\e.message=m);split;next e=>subst e;exact this
 exact this;rw[rZ A _ u.1 u.2.1 C];split;next e=>exact .inr ⟨x.2,Zab,J,e.symm⟩
 exact(B.to m C I).imp (λh=>h) λ⟨e,b,D⟩=>⟨e,mem_append_left _ b,D⟩;intro d;have J:=by simpa using d
 rw[bf,S];refine⟨λy a w=>?_,λy a z=>?_,λm C I=>?_,λm C I=>?_⟩;rcases mem_append.1 a with a|a;exact B.snd y a w;simp at a;subst a;exact absurd w L;rcases mem_append.1 a with a|a;exact B.rcv y a z;simp at a;subst a;exact absurd z J;exact(B.fr m C I).imp (λh=>h) λ⟨e,b,D⟩=>⟨e,mem_append_left _ b,D⟩;exact(B.to m C I).imp (λh=>h) λ⟨e,b,D⟩=>⟨e,mem_append_left _ b,D⟩;intro A s;rw[take_length]at s;exact(bf _).2 ⟨λ_=>⟨A,rfl,s⟩,λ_=>rfl⟩
def ji(f:Nat->Bool)(k n:Nat):Bool:=(range' k (n-k)).any f
theorem GA{f:Nat->Bool}{k n:Nat}(h:k<n):ji f k n=(f k||ji f (k+1) n):=by unfold ji;rw[show n-k=(n-(k+1))+1 from Zaa,List.range'_succ];rfl
theorem Rx{f:Nat->Bool}{k n:Nat}(h:n<=k):ji f k n=false:=by unfold ji;rw[show n-k=0 from Zaa];rfl
theorem RA{f:Nat->Bool}{k n:Nat}:ji f k n=true↔∃i,k<=i/\i<n/\f i=true:=by unfold ji;rw[List.any_eq_true];constructor;rintro⟨i,hi,u⟩;rw[List.mem_range'_1]at hi;exact⟨i,hi.1,Zaa,u⟩;rintro⟨i,a,w,u⟩;exact⟨i,by rw[List.mem_range'_1];omega,u⟩
theorem FM{step:Int->Lk (Fw Int Unit Unit)}{n:Nat}(f:Nat->Bool)(D:n<9223372036854775807)(a:∀i:Nat,i<n->step i=some (if f i then .r ()else .n (wrap .i64 ((i:Int)+1))))(B:step (n:Int)=some (.x ())):
 ∀m k:Nat,k+m=n->bT step (k:Int)=some (if ji f k n then .r ()else .x ()):=by
 intro m
 induction m with
 |zero=>
  intro k b;have:k=n:=Zaa
  subst this;rw[eB,B,Rx (le_refl _)];rfl
 |succ m u=>
  intro k b;rw[eB,a k Zaa,GA Zaa]
  cases w:f k with
  |true=>rfl|false=>
   simp only[false_eq_true,if_false,ζb,Bool.false_or];rw[cR k Zaa]
   exact u (k+1) Zaa
def og(g:Nat->Int)(k n:Nat):Int:=match(range' k (n-k)).find? λi=> !(g i==0)with
 |some i=>g i|none=>0
theorem Hi{g:Nat->Int}{k n:Nat}(h:k<n):og g k n=if g k=0 then og g (k+1) n else g k:=by unfold og;rw[show n-k=(n-(k+1))+1 from Zaa,List.range'_succ,List.find?_cons];by_cases a:g k=0;simp[a];rw[if_neg a,show(!(g k==0))=true from by simp[a]]
theorem KA{g:Nat->Int}{k n:Nat}(h:n<=k):og g k n=0:=by unfold og;rw[show n-k=0 from Zaa];rfl
theorem Pp{g:Nat->Int}{n:Nat}:∀{m k:Nat},k+m=n->(og g k n=0↔∀i,k<=i->i<n->g i=0):=by intro m;induction m with|zero=>intro k c;rw[KA Zaa];exact⟨λ_ i b u=>Zaa,λ_=>rfl⟩|succ m w=>intro k c;rw[Hi Zaa];split;rename_i a;rw[w (show k+1+m=n by omega)];constructor;intro h i b u;by_cases e:i=k;subst e;exact a;exact h i Zaa u;intro h i b u;exact h i Zaa u;rename_i a;exact⟨λh=>absurd h a,λh=>absurd (h k (le_refl _) Zaa) a⟩
theorem Wt{step:Int->Lk (Fw Int Unit Int)}{n:Nat}(g:Nat->Int)(D:n<9223372036854775807)(b:∀i:Nat,i<n->step i=some (if g i=0 then .n (wrap .i64 ((i:Int)+1))else .r (g i)))(B:step (n:Int)=some (.x ())):
 ∀m k:Nat,k+m=n->bT step (k:Int)=some (if og g k n=0 then .x ()else .r (og g k n)):=by
 intro m
 induction m with
 |zero=>
  intro k c;have:k=n:=Zaa
  subst this;rw[eB,B,KA (le_refl _)];rfl
 |succ m u=>
  intro k c;rw[eB,b k Zaa,Hi Zaa]
  by_cases a:g k=0
  .simp only[a,if_true,ζb];rw[cR k Zaa]
   exact u (k+1) Zaa
  simp only[a,if_false,ζb]
theorem z8{step:Int->Lk (Fw Int Unit Int)}{n:Nat}(g:Nat->Int)(B:n<9223372036854775807)(a:∀i:Nat,i<n->step i=some (if g i=0 then .n (wrap .i64 ((i:Int)+1))else .r (g i)))(D:step (n:Int)=some (.x ())):bT step 0=some (if og g 0 n=0 then .x ()else .r (og g 0 n)):=Wt g B a D n 0 Zaa
theorem Dd{step:Int->Lk (Fw Int Unit Unit)}{n:Nat}(f:Nat->Bool)(B:n<9223372036854775807)(a:∀i:Nat,i<n->step i=some (if f i then .r ()else .n (wrap .i64 ((i:Int)+1))))(D:step (n:Int)=some (.x ())):bT step 0=some (if ji f 0 n then .r ()else .x ()):=FM f B a D n 0 Zaa
def yP(c:Int):Bool:=decide (c>=65)&&decide (c<=90)||decide (c>=97)&&decide (c<=122)
def DC(c:Int):Bool:=decide (c>=48)&&decide (c<=57)
theorem Et(c:Int):qW c=some (yP c):=by unfold qW yP;simp only[nL,mm,ζb];rw[Bool.or_comm]
theorem E_(c:Int):pS c=some (yP c):=by unfold pS yP;simp only[nL,mm,ζb]
theorem O8(c:Int):u6 c=some (DC c):=by unfold u6 DC;simp only[nL,ζb]
theorem QX(c:Int):tQ c=some (DC c):=by unfold tQ DC;simp only[nL,ζb]
def xX(s:ByteArray)(i:Nat):Int:=(lR s (i:Int)).getD 0
theorem Ec{s:ByteArray}{i:Nat}(h:i<s.size):lR s (i:Int)=some (xX s i):=by obtain⟨x,u⟩:=Nx h;unfold xX;rw[u];rfl
def tP(s:ByteArray)(i:Nat):Bool:= !yP (xX s i)&& !DC (xX s i)&& !(xX s i==95)
def mD(s:ByteArray):Bool:=decide (1<=s.size)&&decide (s.size<=16)&&yP (xX s 0)&& !ji (tP s) 0 s.size
theorem Ot{s:ByteArray}{i:Nat}(h:i<s.size):gL.bp s (s.size:Int) i=some (if tP s i then .r ()else .n (wrap .i64 ((i:Int)+1))):=by unfold gL.bp tP;rw[show decide ((i:Int)<(s.size:Int))=true from by simpa using h,bF,Ec h];simp only[ζb,Et,O8];cases yP (xX s i)<;>cases DC (xX s i)<;>cases(xX s i==95)<;>rfl
theorem Og{s:ByteArray}{i:Nat}(h:i<s.size):iu.bp s i=some (if tP s i then .r ()else .n (wrap .i64 ((i:Int)+1))):=by unfold iu.bp tP;rw[show decide ((i:Int)<((ByteArray.size s:Nat):Int))=true from by simpa using h,bF,Ec h];simp only[ζb,E_,QX];cases yP (xX s i)<;>cases DC (xX s i)<;>cases(xX s i==95)<;>rfl
theorem toList_empty{s:ByteArray}:(toList s==toList ByteArray.empty)=decide (s.size=0):=by
 rw[Bool.eq_iff_iff,beq_iff_eq,decide_eq_true_eq];constructor;intro h;have a:(toList s).length=s.size:=by rw[Go.ByteArray.toList_eq];simp
 rw[<-a,h];rw[Go.ByteArray.toList_eq];rfl;intro h;have:s=ByteArray.empty:=by apply ByteArray.ext;exact Array.eq_empty_of_size_eq_zero h
 rw[this]
theorem Hw{s:ByteArray}(B:s.size<1073741824):gL s=some (mD s):=by
 unfold gL;rw[toList_empty];simp only[mm,ζb];by_cases b:s.size=0;simp[b,mD,bg];by_cases u:s.size<=16;have a:(decide (s.size=0)||decide (((ByteArray.size s:Nat):Int)>16))=false:=by simp[b];omega
 rw[a,bE,show(0:Int)=((0:Nat):Int)from rfl,Ec (show 0<s.size by omega)];simp only[ζb,Et];cases w:yP (xX s 0)with|false=>simp[mD,w,bg]|true=>
  simp only[Bool.not_true,bE];unfold gL.W1;rw[FM (n:=s.size) (tP s) Zaa (λi hi=>Ot hi) (by unfold gL.bp;simp[bg]) s.size 0 Zaa];have:mD s= !ji (tP s) 0 s.size:=by simp[mD,w,u];omega
  rw[this];cases ji (tP s) 0 s.size<;>rfl
 have a:(decide (s.size=0)||decide (((ByteArray.size s:Nat):Int)>16))=true:=by simp;omega
 rw[a,bF];simp[mD,u,bg]
theorem JV{s:ByteArray}(B:s.size<1073741824):iu s=some (mD s):=by
 unfold iu;simp only[mm,ζb];by_cases c:s.size=0;simp[c,mD,bg];by_cases u:s.size<=16;have a:(decide (((ByteArray.size s:Nat):Int)<1)||decide (((ByteArray.size s:Nat):Int)>16))=false:=by simp;omega
 rw[a,bE,show(0:Int)=((0:Nat):Int)from rfl,Ec (show 0<s.size by omega)];simp only[ζb,E_];cases w:yP (xX s 0)with|false=>simp[mD,w,bg]|true=>
  simp only[Bool.not_true,bE];unfold iu.W1;rw[show(1:Int)=((1:Nat):Int)from rfl,FM (n:=s.size) (tP s) Zaa (λi hi=>Og hi) (by unfold iu.bp;simp[bg]) (s.size-1) 1 Zaa];have z:tP s 0=false:=by simp[tP,w]
  have:mD s= !ji (tP s) 1 s.size:=by have b:=GA (f:=tP s) (show 0<s.size by omega);rw[z]at b;simp[mD,w,u,b];omega
  rw[this];cases ji (tP s) 1 s.size<;>rfl
 have a:(decide (((ByteArray.size s:Nat):Int)<1)||decide (((ByteArray.size s:Nat):Int)>16))=true:=by simp;omega
 rw[a,bF];simp[mD,u,bg]
def fO{α:Type}(l:L' α)(f:α->Bool)(i:Nat):Bool:=match l[i]?with|some y=>f y|none=>false
theorem A8{α:Type}{l:L' α}{f:α->Bool}{i:Nat}(h:i<l.length):fO l f i=f l[i]:=by unfold fO;rw[ζd h]
theorem DG{α:Type}{l:L' α}{f:α->Bool}{p:Nat}:(l.take p).any f=ji (fO l f) 0 p:=by
 rw[Bool.eq_iff_iff,List.any_eq_true,RA];constructor;rintro⟨x,w,u⟩;obtain⟨i,hi⟩:=List.getElem?_of_mem w;have z:=(ζe.1 hi).1;rw[length_take]at z;rw[getElem?_take,if_pos Zaa]at hi;exact⟨i,zero_le _,Zaa,by unfold fO;rw[hi];exact u⟩;rintro⟨i,_,hi,u⟩;unfold fO at u;split at u;next y B=>exact⟨y,mem_of_getElem? (i:=i) (by rw[getElem?_take,if_pos hi];exact B),u⟩
 cases u
def s8(a b:ByteArray):Bool:=toList a==toList b
def Xt:Bool->Bool->Bool->Int
 |true,false,true=>0|true,false,false=>2|_,_,_=>13
def vH(P:bU)(i:Nat):Int:=match P.vars.l[i]?with
 |some v=>Xt (mD v.name) (ji (fO P.vars.l λw=>s8 w.name v.name) 0 i) (decide (v.init_>=-1073741824)&&decide (v.init_<=1073741824))|none=>0
def rz(t:Trace)(p:Nat):Int:=match t.procs.l[p]?with
 |some P=>if mD P.name&& !ji (fO t.procs.l λy=>s8 y.name P.name) 0 p then
  (if P.vars.l.length>8 then 5 else if og (vH P) 0 P.vars.l.length=0 then(if P.events.l.length>64 then 5 else 0)else og (vH P) 0 P.vars.l.length)else 13
 |none=>0
theorem HC{P:bU}{i:Nat}(h:i<P.vars.l.length):vH P i=Xt (mD P.vars.l[i].name) (ji (fO P.vars.l λw=>s8 w.name P.vars.l[i].name) 0 i) (decide (P.vars.l[i].init_>=-1073741824)&&decide (P.vars.l[i].init_<=1073741824)):=by unfold vH;rw[ζd h]
theorem G0(n:Int):qE n=some (decide (n>=-1073741824)&&decide (n<=1073741824)):=by unfold qE;rw[nL];rfl
theorem Se{t:Trace}(a:Small t){p:Nat}(hp:p<t.procs.l.length):eV t p=some (rz t p):=by
 have U:=a.2 _ (getElem_mem hp);have d:=a.1;unfold eV rz;rw[bG hp,ζb,ζd hp];generalize W:t.procs.l[p]=P at *;obtain⟨S,X,O,u,_⟩:=U;rw[Hw O,ζb];obtain⟨x,Y,D⟩:=tD t.procs p Zaa;have G:iW x (λz=>j9 z P)=some (ji (fO t.procs.l λy=>s8 y.name P.name) 0 p):=by rw[I9 (p:=λz=>j9 z P) (f:=λy=>s8 y.name P.name) (λy _=>rfl) (by rw[D,length_take];omega),D,DG]
 rw[Y,ζb,G,ζb];dsimp only;cases e:mD P.name with|false=>simp[bg]|true=>
  rw[bF,ζb,Bool.true_and];cases hd:ji (fO t.procs.l λy=>s8 y.name P.name) 0 p with|true=>simp[bg]|false=>
   rw[bE];simp only[Bool.not_false,if_true];by_cases T:P.vars.l.length>8;rw[show decide (len P.vars>8)=true from by simp[len];omega,bF,if_pos T];rw[show decide (len P.vars>8)=false from by simp[len];omega,bE,if_neg T];unfold eV.W1;rw[z8 (n:=P.vars.l.length) (vH P) Zaa (λi hi=>?_) (by unfold eV.bp;simp[bg,len])];by_cases L:og (vH P) 0 P.vars.l.length=0;rw[if_pos L,if_pos L];show bg (decide (len P.events>64)) (some 5) (some 0)=_;rw[uy];simp only[len,decide_eq_true_eq];by_cases I:P.events.l.length>64;rw[if_pos I,if_pos Zaa];rw[if_neg I,if_neg Zaa];rw[if_neg L,if_neg L];rfl;unfold eV.bp;rw[HC hi,show decide ((i:Int)<len P.vars)=true from by simp[len];exact hi,bF,bG hi,ζb];have b:=u _ (getElem_mem hi);obtain⟨y,Z,J⟩:=tD P.vars i Zaa;have Q:gU y (λz=>j7 z P.vars.l[i])=some (ji (fO P.vars.l λw=>s8 w.name P.vars.l[i].name) 0 i):=by rw[CQ (p:=λz=>j7 z P.vars.l[i]) (f:=λw=>s8 w.name P.vars.l[i].name) (λw _=>rfl) (by rw[J,length_take];omega),J,DG]
   rw[Hw b,ζb,Z,ζb,Q,ζb,qc];have c:(decide (-1073741824<=P.vars.l[i].init_)&&decide (P.vars.l[i].init_<=1073741824))=(decide (P.vars.l[i].init_>=-1073741824)&&decide (P.vars.l[i].init_<=1073741824)):=rfl;rw[c];generalize mD P.vars.l[i].name=A;generalize ji (fO P.vars.l λw=>s8 w.name P.vars.l[i].name) 0 i=B;generalize(decide (P.vars.l[i].init_>=-1073741824)&&decide (P.vars.l[i].init_<=1073741824))=C;cases A<;>cases B<;>cases C<;>rfl
theorem Ro{t:Trace}(a:Small t){p:Nat}(hp:p<t.procs.l.length):eu t p=some (rz t p):=by
 have Q:=a.2 _ (getElem_mem hp);have b:=a.1;unfold eu rz;rw[bG hp,ζb,ζd hp];generalize S:t.procs.l[p]=P at *;obtain⟨L,T,J,u,_⟩:=Q;rw[JV J,ζb];dsimp only;cases X:mD P.name with|false=>simp[bg]|true=>
  rw[bF,Bool.true_and];unfold eu.W1;rw[Dd (n:=p) (fO t.procs.l λy=>s8 y.name P.name) Zaa (λi hi=>?_) (by unfold eu.bp;simp[bg])];cases hd:ji (fO t.procs.l λy=>s8 y.name P.name) 0 p with|true=>rfl|false=>
   simp only[Bool.not_false,if_true];show bg (decide (len P.vars>8)) (some 5) (eu.W2 0 P)=_;by_cases O:P.vars.l.length>8;rw[show decide (len P.vars>8)=true from by simp[len];omega,bF,if_pos O];rw[show decide (len P.vars>8)=false from by simp[len];omega,bE,if_neg O];unfold eu.W2;rw[z8 (n:=P.vars.l.length) (vH P) Zaa (λi hi=>?_) (by unfold eu.bV;simp[bg,len])];by_cases I:og (vH P) 0 P.vars.l.length=0;rw[if_pos I,if_pos I];show bg (decide (len P.events>64)) (some 5) (some 0)=_;rw[uy];simp only[len,decide_eq_true_eq];by_cases z:P.events.l.length>64;rw[if_pos z,if_pos Zaa];rw[if_neg z,if_neg Zaa];rw[if_neg I,if_neg I];rfl;unfold eu.bV;rw[HC hi,show decide ((i:Int)<len P.vars)=true from by simp[len];exact hi,bF,bG hi,ζb];rw[JV (u _ (getElem_mem hi)),ζb];have U:eu.W3 i 0 P=if ji (fO P.vars.l λw=>s8 w.name P.vars.l[i].name) 0 i then some (.r 13)else(if decide (P.vars.l[i].init_>=-1073741824)&&decide (P.vars.l[i].init_<=1073741824)then some (.n (wrap .i64 ((i:Int)+1)))else some (.r 2)):=by
    unfold eu.W3;rw[Dd (n:=i) (fO P.vars.l λw=>s8 w.name P.vars.l[i].name) Zaa (λj W=>?_) (by unfold eu.eU;simp[bg])];cases ji (fO P.vars.l λw=>s8 w.name P.vars.l[i].name) 0 i with|true=>rfl|false=>show(idx P.vars (i:Int)).bind _=_;rw[bG hi,ζb,G0,ζb];cases(decide (P.vars.l[i].init_>=-1073741824)&&decide (P.vars.l[i].init_<=1073741824))<;>rfl
    unfold eu.eU;have D:j<P.vars.l.length:=Zaa;rw[show decide ((j:Int)<(i:Int))=true from by simpa using W,bF,bG D,ζb,bG hi,ζb,A8 D,uy];rfl
   rw[U];generalize mD P.vars.l[i].name=A;generalize ji (fO P.vars.l λw=>s8 w.name P.vars.l[i].name) 0 i=B;generalize(decide (P.vars.l[i].init_>=-1073741824)&&decide (P.vars.l[i].init_<=1073741824))=C;cases A<;>cases B<;>cases C<;>rfl
  unfold eu.bp;have G:i<t.procs.l.length:=Zaa;rw[show decide ((i:Int)<(p:Int))=true from by simpa using hi,bF,bG G,ζb,A8 G,uy];rfl
def KC(n:Nat)(p:Int)(e:Event):Bool:=if e.kind==1 then e.peer==0&&e.message==0 else(e.kind==2||e.kind==3)&&(decide (0<=e.peer)&&decide (e.peer<n))&& !(e.peer==p)&&(decide (0<=e.message)&&decide (e.message<=199))
theorem PU{t:Trace}(a:Small t)(p:Int)(e:Event):iO t p e=some (KC t.procs.l.length p e):=by
 have c:=a.1;have w:wrap .i64 (len t.procs-1)=len t.procs-1:=eF _ (by simp[len];omega) (by simp[len];omega);have u:∀b:Bool,iO.J1 p b t e=some (b&&(decide (0<=e.peer)&&decide (e.peer<t.procs.l.length))&& !(e.peer==p)&&(decide (0<=e.message)&&decide (e.message<=199))):=by
  intro b;unfold iO.J1;simp only[qc,w,ζb];have:decide (e.peer<=len t.procs-1)=decide (e.peer<t.procs.l.length):=by congr 1;apply propext;simp[len];omega
  rw[this];generalize(decide (0<=e.peer)&&decide (e.peer<(t.procs.l.length:Int)))=A;generalize(e.peer==p)=B;generalize(decide (0<=e.message)&&decide (e.message<=199))=C;cases b<;>cases A<;>cases B<;>cases C<;>rfl
 unfold iO KC;rw[u,u];cases c:e.kind==1 with|true=>rw[bF];cases e.peer==0<;>cases e.message==0<;>rfl|false=>rw[bE];simp only[false_eq_true,if_false];cases z:e.kind==2<;>simp[bg]
def Es(P:bU)(k:Nat)(e:Event):Bool:=match k with|0=>false|j+1=>fO P.events.l (λx=>decide (e.time<x.time)) j
def u_(P:bU)(k:Nat)(e:Event):Bool:=decide (e.time<0)||decide (e.time>1099511627776)||Es P k e
def R1:Bool->Bool->Bool->Int
 |true,true,false=>0|true,true,true=>8|_,_,_=>2
def oL(P:bU)(e:Event)(i:Nat):Int:=match e.assign.l[i]?with
 |some a=>R1 (decide (0<=a.var)&&decide (a.var<P.vars.l.length)) (decide (a.value>=-1073741824)&&decide (a.value<=1073741824)) (ji (fO e.assign.l λb=>b.var==a.var) 0 i)|none=>0
theorem GV{P:bU}{e:Event}{i:Nat}(h:i<e.assign.l.length):oL P e i=R1 (decide (0<=e.assign.l[i].var)&&decide (e.assign.l[i].var<P.vars.l.length)) (decide (e.assign.l[i].value>=-1073741824)&&decide (e.assign.l[i].value<=1073741824)) (ji (fO e.assign.l λb=>b.var==e.assign.l[i].var) 0 i):=by unfold oL;rw[ζd h]
def pE(n:Nat)(P:bU)(p k:Nat)(e:Event):Int:=if KC n p e then(if u_ P k e then 11 else if e.assign.l.length>8 then 5 else og (oL P e) 0 e.assign.l.length)else 3
theorem Nf{P:bU}{e:Event}(c:P.vars.l.length<1073741824)(U:e.assign.l.length<1073741824):dO.W2 e.assign (len e.assign) 0 e P=some (og (oL P e) 0 e.assign.l.length):=by
 have I:wrap .i64 (len P.vars-1)=len P.vars-1:=eF _ (by simp[len];omega) (by simp[len];omega);unfold dO.W2;rw[z8 (n:=e.assign.l.length) (oL P e) Zaa (λi hi=>?_) (by unfold dO.bV;simp[bg,len])];by_cases D:og (oL P e) 0 e.assign.l.length=0;rw[if_pos D,D];rfl;rw[if_neg D];rfl;unfold dO.bV;obtain⟨y,J,u⟩:=tD e.assign i Zaa;have G:hG y (λz=>kX z e.assign.l[i])=some (ji (fO e.assign.l λb=>b.var==e.assign.l[i].var) 0 i):=by rw[Fs (p:=λz=>kX z e.assign.l[i]) (f:=λb=>b.var==e.assign.l[i].var) (λw _=>rfl) (by rw[u,length_take];omega),u,DG]
 rw[GV hi,show decide ((i:Int)<len e.assign)=true from by simp[len];exact hi,bF,bG hi,ζb,qc,qc,I,J,ζb,ζb,ζb,G,ζb];have a:(decide (0<=e.assign.l[i].var)&&decide (e.assign.l[i].var<=len P.vars-1))=(decide (0<=e.assign.l[i].var)&&decide (e.assign.l[i].var<P.vars.l.length)):=by congr 2;apply propext;simp[len];omega
 have L:(decide (-1073741824<=e.assign.l[i].value)&&decide (e.assign.l[i].value<=1073741824))=(decide (e.assign.l[i].value>=-1073741824)&&decide (e.assign.l[i].value<=1073741824)):=rfl;rw[a,L];generalize(decide (0<=e.assign.l[i].var)&&decide (e.assign.l[i].var<(P.vars.l.length:Int)))=A;generalize(decide (e.assign.l[i].value>=-1073741824)&&decide (e.assign.l[i].value<=1073741824))=B;generalize ji (fO e.assign.l λb=>b.var==e.assign.l[i].var) 0 i=C;cases A<;>cases B<;>cases C<;>rfl
theorem QI{t:Trace}(a:Small t){p k:Nat}{P:bU}{e:Event}(D:t.procs.l[p]?=some P)(U:P.events.l[k]?=some e):dO t ⟨p,k+1⟩ e=some (pE t.procs.l.length P p k e):=by
 obtain⟨L,w⟩:=ζe.1 D;obtain⟨b,z⟩:=ζe.1 U;obtain⟨G,B,_,_,C⟩:=a.2 P (w▸getElem_mem L);have O:=C e (z▸getElem_mem b);have I:∀last:Int,((decide (0<=e.time)&&decide (e.time<=1099511627776))&& !decide (e.time<last))=(!u_ P k e)->
  dO.J1 last t ⟨p,k+1⟩ e P=some (pE t.procs.l.length P p k e):=by
  intro last Q;unfold dO.J1 pE;rw[PU a,ζb,qc,ζb,Nf B O];dsimp only
  cases KC t.procs.l.length p e with
  |false=>rfl|true=>
   rw[bF,if_pos rfl];have:(bg (decide (0<=e.time)&&decide (e.time<=1099511627776)) (some (decide (e.time<last))) (some true):Lk Bool)=some (u_ P k e):=by
    have S:(!((decide (0<=e.time)&&decide (e.time<=1099511627776))&& !decide (e.time<last)))=u_ P k e:=by rw[Q,Bool.not_not]
    rw[<-S];cases(decide (0<=e.time)&&decide (e.time<=1099511627776))<;>cases decide (e.time<last)<;>rfl
   rw[this,ζb]
   cases u_ P k e with
   |true=>rfl|false=>
    rw[bE];simp only[false_eq_true,if_false]
    by_cases J:e.assign.l.length>8
    .rw[show decide (len e.assign>8)=true from by simp[len];omega,bF,if_pos J]
    rw[show decide (len e.assign>8)=false from by simp[len];omega,bE,if_neg J]
 unfold dO;dsimp only;rw[show idx t.procs (p:Int)=some P from by rw[kJ];exact D,ζb];cases k with|zero=>rw[show decide (((0:Nat):Int)+1>1)=false from by decide,bE];refine I 0 ?_;simp only[u_,Es,Bool.or_false];rw[Bool.eq_iff_iff];simp only[ζh,not_eq_true',decide_eq_true_eq,decide_eq_false_iff_not,or_eq_false_iff];omega|succ j=>
  rw[show decide ((((j+1:Nat)):Int)+1>1)=true from by simp;omega,bF];have u:j<P.events.l.length:=Zaa;have T:wrap .i64 ((((j+1:Nat)):Int)+1-2)=((j:Nat):Int):=by rw[eF _ Zaa Zaa];omega
  rw[T,bG u,ζb];refine I _ ?_;simp only[u_,Es,A8 u];rw[Bool.eq_iff_iff];simp only[ζh,not_eq_true',decide_eq_true_eq,decide_eq_false_iff_not,or_eq_false_iff];omega
theorem MQ{t:Trace}{p:Nat}{P:bU}{e:Event}(D:t.procs.l[p]?=some P)(J:e.assign.l.length<1073741824):ez.W2 p 0 t e=some (og (oL P e) 0 e.assign.l.length):=by
 unfold ez.W2;rw[z8 (n:=e.assign.l.length) (oL P e) Zaa (λi hi=>?_) (by unfold ez.bV;simp[bg,len])];by_cases w:og (oL P e) 0 e.assign.l.length=0;rw[if_pos w,w];rfl;rw[if_neg w];rfl;unfold ez.bV;have z:ez.W3 p i 0 t e e.assign.l[i]=if ji (fO e.assign.l λb=>b.var==e.assign.l[i].var) 0 i then some (.r 8)else some (.n (wrap .i64 ((i:Int)+1))):=by unfold ez.W3;rw[Dd (n:=i) (fO e.assign.l λb=>b.var==e.assign.l[i].var) Zaa (λj G=>?_) (by unfold ez.eU;simp[bg])];cases ji (fO e.assign.l λb=>b.var==e.assign.l[i].var) 0 i<;>rfl;unfold ez.eU;have u:j<e.assign.l.length:=Zaa;rw[show decide ((j:Int)<(i:Int))=true from by simpa using G,bF,bG u,ζb,A8 u,uy]
 rw[GV hi,show decide ((i:Int)<len e.assign)=true from by simp[len];exact hi,bF,bG hi,ζb,z,G0,ζb,show idx t.procs (p:Int)=some P from by rw[kJ];exact D,ζb];have a:(bg (decide (e.assign.l[i].var<0)) (some true) (some (decide (e.assign.l[i].var>=len P.vars))):Lk Bool)=some (!(decide (0<=e.assign.l[i].var)&&decide (e.assign.l[i].var<P.vars.l.length))):=by rw[mm];congr 1;rw[Bool.eq_iff_iff];simp only[or_eq_true,not_eq_true',decide_eq_true_eq,Bool.and_eq_false_iff,decide_eq_false_iff_not,len];omega
 rw[a,ζb];generalize(decide (0<=e.assign.l[i].var)&&decide (e.assign.l[i].var<(P.vars.l.length:Int)))=A;generalize(decide (e.assign.l[i].value>=-1073741824)&&decide (e.assign.l[i].value<=1073741824))=B;generalize ji (fO e.assign.l λb=>b.var==e.assign.l[i].var) 0 i=C;cases A<;>cases B<;>cases C<;>rfl
theorem RW{t:Trace}(b:Small t){p k:Nat}{P:bU}{e:Event}(J:t.procs.l[p]?=some P)(U:P.events.l[k]?=some e):ez t p k=some (pE t.procs.l.length P p k e):=by
 obtain⟨S,w⟩:=ζe.1 J;obtain⟨c,z⟩:=ζe.1 U;obtain⟨O,T,_,_,I⟩:=b.2 P (w▸getElem_mem S);have W:=I e (z▸getElem_mem c);have X:ez.J1 p k t e=some (if u_ P k e then 11 else if e.assign.l.length>8 then 5 else og (oL P e) 0 e.assign.l.length):=by
  unfold ez.J1;rw[mm,ζb,MQ J W,show idx t.procs (p:Int)=some P from by rw[kJ];exact J,ζb];have a:(bg (decide ((k:Int)>0)) ((idx P.events (wrap .i64 ((k:Int)-1))).bind λL=>some (decide (e.time<L.time))) (some false):Lk Bool)=some (Es P k e):=by cases k with|zero=>rfl|succ j=>have u:j<P.events.l.length:=Zaa;rw[show decide ((((j+1:Nat)):Int)>0)=true from by simp only[decide_eq_true_eq];omega,bF,show wrap .i64 ((((j+1:Nat)):Int)-1)=((j:Nat):Int)from by rw[eF _ Zaa Zaa];omega,bG u,ζb];simp only[Es,A8 u]
  rw[a,ζb,mm,ζb];show bg (u_ P k e) _ _=_;cases u_ P k e with|true=>rfl|false=>rw[bE];simp only[false_eq_true,if_false];by_cases Q:e.assign.l.length>8;rw[show decide (len e.assign>8)=true from by simp[len];omega,bF,if_pos Q];rw[show decide (len e.assign>8)=false from by simp[len];omega,bE,if_neg Q]
 unfold ez pE;rw[show idx t.procs (p:Int)=some P from by rw[kJ];exact J,ζb,show idx P.events (k:Int)=some e from by rw[kJ];exact U,ζb,X];unfold KC;cases a:e.kind==1 with|true=>rw[bF];simp only[if_true];cases e.peer==0<;>cases e.message==0<;>rfl|false=>
  rw[bE];simp only[false_eq_true,if_false];have Y:(bg (e.kind==2) (some false) (some (!(e.kind==3))):Lk Bool)=some (!(e.kind==2||e.kind==3)):=by cases e.kind==2<;>rfl
  rw[Y,ζb,mm,ζb,mm,ζb,mm,ζb,mm,ζb,mm,ζb];have d:(((((!(e.kind==2||e.kind==3))||decide (e.peer<0))||decide (e.peer>=len t.procs))||(e.peer==p))||decide (e.message<0)||decide (e.message>199))= !((e.kind==2||e.kind==3)&&(decide (0<=e.peer)&&decide (e.peer<t.procs.l.length))&& !(e.peer==p)&&(decide (0<=e.message)&&decide (e.message<=199))):=by
   generalize(e.kind==2||e.kind==3)=A;have a1:decide (e.peer<0)= !decide (0<=e.peer):=by rw[Bool.eq_iff_iff];simp
   have a2:decide (e.peer>=len t.procs)= !decide (e.peer<t.procs.l.length):=by rw[Bool.eq_iff_iff];simp[len]
   have a3:decide (e.message<0)= !decide (0<=e.message):=by rw[Bool.eq_iff_iff];simp
   have a4:decide (e.message>199)= !decide (e.message<=199):=by rw[Bool.eq_iff_iff];simp
   rw[a1,a2,a3,a4];generalize decide (0<=e.peer)=B;generalize decide (e.peer<(t.procs.l.length:Int))=C;generalize(e.peer==(p:Int))=D;generalize decide (0<=e.message)=F;generalize decide (e.message<=199)=G;cases A<;>cases B<;>cases C<;>cases D<;>cases F<;>cases G<;>rfl
  rw[d];generalize((e.kind==2||e.kind==3)&&(decide (0<=e.peer)&&decide (e.peer<(t.procs.l.length:Int)))&& !(e.peer==(p:Int))&&(decide (0<=e.message)&&decide (e.message<=199)))=Z;cases Z<;>rfl
theorem Oh{n:Nat}{p:Int}{e:Event}(h:KC n p e=true):lN n p e:=by
 unfold KC at h;split at h;next a=>left;simpa using a
 right;simp only[ζh,or_eq_true,beq_iff_eq,decide_eq_true_eq,not_eq_true',beq_eq_false_iff_ne,ne_eq]at h;obtain⟨⟨⟨a,u⟩,z⟩,w⟩:=h;exact⟨a,u.1,u.2,z,w.1,w.2⟩
theorem IT{n:Nat}{P:bU}{p k:Nat}{e:Event}(h:pE n P p k e=0):lN n p e:=by
 unfold pE at h;split at h;next a=>exact Oh a
 cases h
theorem Ab{α:Type}[DecidableEq α]:∀{l r:L' α},l.Nodup->(∀x∈l,x∈r)->l.length<=r.length
 |[],_,_,_=>zero_le _|x::l,r,D,G=>by have B:=List.nodup_cons.1 D;have:=Ab (r:=r.erase x) B.2 λy u=>(List.mem_erase_of_ne Zac).2 (G y (mem_cons_of_mem _ u));grind
section
variable{κ:Type}[DecidableEq κ]
theorem D5{ν:Type}{k:κ}:∀{m:Mo κ ν},k∉m.map (·.1)->jM k m=none
 |[],_=>rfl|(a,v)::r,h=>by simp only[map_cons,mem_cons,not_or]at h;unfold jM;rw[if_neg h.1];exact D5 h.2
theorem GL{ν:Type}{k:κ}:∀{m:Mo κ ν},k∈m.map (·.1)->∃v,jM k m=some v/\(k,v)∈m
 |[],h=>by simp_all|(a,v)::r,h=>by unfold jM;by_cases e:k=a;grind;obtain⟨w,b,B⟩:=GL (by simpa[e]using h);grind
theorem sW{ν:Type}{k:κ}{v:ν}:∀{m:Mo κ ν},k∉m.map (·.1)->mJ m k v=m++[(k,v)]
 |[],_=>rfl|(a,w)::r,h=>by simp only[map_cons,mem_cons,not_or]at h;show(if k=a then _ else _)=_;rw[if_neg h.1,sW h.2];rfl
end
def Vd(t:Trace)(y:aZ):Prop:=∃e,(y,e)∈bO t
theorem Vd.at_{t:Trace}{y:aZ}(h:Vd t y):∃(p k:Nat)(e:Event),mj t p k e/\y=⟨p,k+1⟩/\(y,e)∈bO t:=by obtain⟨e,u⟩:=h;obtain⟨p,k,a,w⟩:=dQ.1 u;grind
def IX(t:Trace)(y z:aZ):Prop:=∃e f,(y,e)∈bO t/\(z,f)∈bO t/\e.kind=2/\f.kind=3/\e.message=f.message
def Edge(t:Trace)(y z:aZ):Prop:=Vd t y/\Vd t z/\(z=⟨y.proc,y.index+1⟩\/IX t y z)
abbrev Way(t:Trace):aZ->aZ->Prop:=TransGen (Edge t)
def L0(t:Trace):Prop:=∃x,Way t x x
theorem Way.l{t:Trace}{x y:aZ}(h:Way t x y):Vd t x:=by induction h with|single h=>exact h.1|tail _ _ u=>omega
theorem Way.r{t:Trace}{x y:aZ}(h:Way t x y):Vd t y:=by cases h with|single h=>exact h.2.1|tail _ h=>exact h.2.1
theorem Rj{t:Trace}(g:Small t)(l:∀x∈bO t,lN t.procs.l.length x.1.proc x.2){A:cq 200 bD}(Y:fR t (bO t) A){y:aZ}(U:Vd t y):
 Wp (jx t A y) λs=>s.l.length<=2/\∀z,z∈s.l↔Edge t y z:=by
 obtain⟨p,k,e,S,D,u⟩:=U.at_;obtain⟨P,L,d⟩:=S;have T:P∈t.procs.l:=mem_of_getElem? L;have a:=(g.2 P T).1;have r:k<P.events.l.length:=(ζe.1 d).1;have G:y.proc=p:=by rw[D]
 have C:y.index=k+1:=by rw[D]
 have j:∀s:Sl aZ,s.l.length<=1->(∀z,z∈s.l↔Vd t z/\z=⟨y.proc,y.index+1⟩)->Wp (jx.J1 A s P.events y) λs=>s.l.length<=2/\∀z,z∈s.l↔Edge t y z:=by
  intro s v w;have no:¬(∃z,IX t y z)->s.l.length<=2/\∀z,z∈s.l↔Edge t y z:=λm=>⟨Zaa,λz=>(w z).trans ⟨λh=>⟨U,h.1,.inl h.2⟩,λh=>⟨h.2.1,h.2.2.elim id λh=>(m ⟨z,h⟩).elim⟩⟩⟩;unfold jx.J1;have W:wrap .i64 (y.index-1)=((k:Nat):Int):=by rw[C,eF _ Zaa Zaa];omega
  rw[W,kJ,d,ζb,ec,b_];constructor;intro B;have B:e.kind=2:=by grind
  have O:0<=e.message/\e.message<=199:=by rcases l _ u with h|⟨_,_,_,_,h⟩;grind;simp_all
  have b:∀z,IX t y z->(ag A e.message).to_=z:=λz⟨X,f,a1,a2,a3,a4,a5⟩=>by cases zM a1 u rfl;rw[a5];exact(Y.rcv _ a2 a4).1
  rw[Od A O.1 O.2,ζb,bf,b_];refine⟨λh=>?_,λh=>(bf _).2 (no λ⟨z,w⟩=>?_)⟩;have h:(ag A e.message).to_.index>0:=by grind
  rw[ζb];unfold ga;rw[if_pos Zaa,ζb,bf];refine⟨by show(s.l++[(ag A e.message).to_]).length<=2;grind,λz=>?_⟩;have I:IX t y (ag A e.message).to_:=by rcases Y.to e.message O.1 O.2 with E|⟨X,a,c,n⟩;omega;exact⟨e,X,u,a,B,c,n.symm⟩
  show z∈s.l++[(ag A e.message).to_]↔_;rw[mem_append,mem_singleton,w];constructor;rintro(h|rfl);exact⟨U,h.1,.inl h.2⟩;exact⟨U,let⟨_,f,_,a2,_⟩:=I;⟨f,a2⟩,.inr I⟩;rintro⟨_,a,c|c⟩;grind;grind;rw[b z w]at h;obtain⟨_,f,_,a2,_⟩:=w;obtain⟨q,i,_,hi⟩:=dQ.1 a2;simp only at hi;rw[hi]at h;simp at h;intro B;rw[bf,b_];refine⟨λh=>(by cases h),λ_=>(bf _).2 (no λ⟨z,X,f,a1,_,a3,_⟩=>?_)⟩;cases zM a1 u rfl;grind
 unfold jx;rw[G,kJ,L,ζb,b_];rw[G]at j;constructor
 .intro h;have h:y.index<len P.events:=by simpa using h
  have B:k+1<P.events.l.length:=by rw[C]at h;simp[len]at h;omega
  refine j _ (by simp[Sl.l]) λz=>?_
  have W:wrap .i64 (y.index+1)=y.index+1:=eF _ Zaa Zaa
  simp only[Sl.l,mem_singleton,W];refine⟨λw=>⟨⟨P.events.l[k+1],dQ.2 ⟨p,k+1,⟨P,L,ζd B⟩,?_⟩⟩,w⟩,λw=>w.2⟩
  rw[w,C];simp
 intro h;have h:¬y.index<len P.events:=by simpa using h
 refine j _ (by simp[Sl.l]) λz=>⟨λw=>by simp[Sl.l]at w,λ⟨w,o⟩=>?_⟩
 obtain⟨q,i,f,⟨Q,Z,hi⟩,J,_⟩:=w.at_;rw[o,C]at J;simp[aZ.mk.injEq]at J;have:q=p:=Zaa
 subst this;rw[L]at Z;cases Z;have:=(ζe.1 hi).1;simp[len]at h;omega
structure KH(t:Trace)(x:aZ)(rest:Sl aZ)(m:Mo aZ Bool)(U:aZ->Prop):Prop where
 rst:∀y∈rest.l,y=x\/Way t x y
 keys:(m.map (·.1)).Nodup
 seen:∀y∈m,Way t x y.1/\y.1≠x/\y.2=true
 le:rest.l.length<=m.length+1
 done:∀y,y=x\/y∈m.map (·.1)->y∈rest.l\/U y\/∀z,Edge t y z->z∈m.map (·.1)
theorem KH.count{t:Trace}{x:aZ}{rest:Sl aZ}{m:Mo aZ Bool}{U:aZ->Prop}(h:KH t x rest m U):m.length<=(bO t).length:=by
 have:=Ab (r:=(bO t).map (·.1)) h.keys λx u=>by obtain⟨y,w,rfl⟩:=mem_map.1 u;obtain⟨e,z⟩:=(h.seen y w).1.r;grind
 grind
theorem QG{t:Trace}(E:Small t)(hN:(bO t).length<1073741824)(hF:∀x∈bO t,lN t.procs.l.length x.1.proc x.2){A:cq 200 bD}(hA:fR t (bO t) A):Wp (iP t A) λr=>(r.2=true↔L0 t):=by
 unfold iP jD;rw[ζb];unfold iP.E1;rw[tY E,ζb];refine zm (λk _=>∀x∈(bO t).take k,¬Way t x.1 x.1) Zab ?_ λ_ h=>(bf _).2 ⟨λh=>(by cases h),λ⟨x,g⟩=>?_⟩
 .intro i x _ g ar;have ah:x∈bO t:=mem_of_getElem? g;refine Wp.mono (P:=λw=>match w with|.n s=>¬Way t x.1 x.1|.x e=>False|.r e=>L0 t) ?_ λw j=>by cases w with|n s=>intro y d;rw[take_add_one,g]at d;grind|x e=>grind|r b=>exact(bf _).2 ⟨λ_=>j,λ_=>rfl⟩
  refine fK (λq:Sl aZ×Mo aZ Bool=>KH t x.1 q.1 q.2 λ_=>False) (λq=>2*((bO t).length-q.2.length)+q.1.l.length) ⟨λy d=>.inl (by simpa[Sl.l]using d),Zab,Zab,by simp[Sl.l],λy d=>.inl ?_⟩ ?_;simpa[Sl.l]using d;rintro⟨rest,m⟩ L;unfold iP.bV;rw[b_];refine⟨λh=>?_,λh=>(bf _).2 ((bf _).2 λj=>?_)⟩
  .have G:0<rest.l.length:=by grind
   have hc:=L.count;have av:=L.le;have j:wrap .i64 ((len rest)-1)=(rest.l.length-1:Nat):=by rw[eF _ Zac Zac];grind
   have I:rest.l.length-1<rest.l.length:=Zaa;rw[j];have h1:Sl.kS rest (rest.l.length-1:Nat)=some (rest.l.length-1):=by unfold Sl.kS;grind
   have h2:Sl.get rest (rest.l.length-1)=some rest.l[rest.l.length-1]:=by unfold Sl.get;grind
   obtain⟨cut,h3,h4⟩:∃x,pO rest none (some ((rest.l.length-1:Nat):Int))=some x/\x.l=rest.l.take (rest.l.length-1):=by cases rest with|nil=>simp[Sl.l]at G|emp=>simp[Sl.l]at G|row l=>simp only[Sl.l]at G⊢;unfold pO dX;simp_all|part l=>simp[Sl.l]at G⊢;unfold pO dX;simp_all
   rw[h1,ζb,h2,ζb,h3,ζb,ec];generalize ai:rest.l[rest.l.length-1]=y;have aj:y∈rest.l:=ai▸getElem_mem I;have O:∀z,z∈rest.l->z∈cut.l\/z=y:=λz c=>by have:rest.l.take (rest.l.length-1)++rest.l.drop (rest.l.length-1)=rest.l:=take_append_drop ..;rw[<-this]at c;rcases mem_append.1 c with c|c;grind;rw[drop_eq_getElem_cons I,drop_of_length_le Zaa]at c;grind
   have F:=L.rst _ aj;have ak:=F.elim (λe=>⟨x.2,e▸ah⟩) Way.r;refine(Rj E hF hA ak).mono λs H=>?_;refine fK (λq:Sl aZ×Int×Mo aZ Bool=>∃n:Nat,q.2.1=n/\n<=s.l.length/\KH t x.1 q.1 q.2.2 (λu=>u=y)/\(∀z∈s.l.take n,z∈q.2.2.map (·.1))/\2*((bO t).length-q.2.2.length)+q.1.l.length<2*((bO t).length-m.length)+rest.l.length) (λq=>s.l.length-q.2.1.toNat)
    ⟨0,rfl,zero_le _,⟨λz c=>L.rst z Zac,L.keys,L.seen,Zac,λu f=>?_⟩,Zab,Zac⟩ ?_
   .rcases L.done u f with h|h|h;exact(O u h).imp_right .inl;exact h.elim;exact .inr (.inr h)
   rintro⟨C,i2,W⟩ ⟨n,rfl,hn,B,J,o⟩;simp only at B o J;unfold iP.eU;rw[b_];constructor
   .intro h;have X:n<s.l.length:=by simpa[len]using h
    have K:=(H.2 s.l[n]).1 (getElem_mem X);have Q:Way t x.1 s.l[n]:=F.elim (λe=>.single (e▸K)) λh=>.tail h K;rw[bG X,ζb,b_];refine⟨λZ=>(bf _).2 ((bf _).2 ((bf _).2 ⟨x.1,?_⟩)),λS=>?_⟩;have:s.l[n]=x.1:=by unfold LG at Z;revert Z;cases s.l[n];cases x.1;intro Z;simpa using Z
    rw[this]at Q;exact Q;have S:s.l[n]≠x.1:=λe=>by rw[e]at S;simp[LG]at S
    have T:=cR n Zaa;have M:s.l.take (n+1)=s.l.take n++[s.l[n]]:=by rw[take_add_one,ζd X];rfl
    rw[b_];refine⟨λp=>(bf _).2 ⟨⟨n+1,T,Zaa,B,λz c=>?_,o⟩,by show _-(wrap .i64 ((n:Int)+1)).toNat<_;rw[T];simp;omega⟩,λY=>?_⟩;rw[M]at c;rcases mem_append.1 c with c|c;exact J z c;simp[mem_singleton]at c;subst c;apply byContradiction;intro hk;unfold ow at p;rw[D5 hk]at p;cases p;have aw:=B.count;have au:=B.le;unfold ga;rw[if_pos (show C.l.length+1<=2147483648 from Zaa),ζb,bf];have D:s.l[n]∉W.map (·.1):=λal=>by obtain⟨v,hv,am⟩:=GL al;have:=(B.seen _ am).2.2;simp only at this;subst this;unfold ow at Y;rw[hv]at Y;cases Y
    have U:∀z,z∈(mJ W s.l[n] true).map (·.1)↔z∈W.map (·.1)\/z=s.l[n]:=λz=>by rw[sW D,map_append,mem_append];simp
    have N:KH t x.1 (.row (C.l++[s.l[n]])) (mJ W s.l[n] true) (λu=>u=y):=by
     refine⟨λy d=>?_,?_,λy d=>?_,?_,λu f=>?_⟩;simp[Sl.l,mem_singleton]at d;rcases d with d|rfl;exact B.rst y d;exact .inr Q;rw[sW D,map_append,List.nodup_append];refine⟨B.keys,Zab,λa ha b R=>?_⟩;simp[mem_singleton]at R;subst R;exactλe=>D (e▸ha);rw[sW D]at d;rcases mem_append.1 d with d|d;exact B.seen y d;simp[mem_singleton]at d;subst d;exact⟨Q,S,rfl⟩;rw[sW D];show(C.l++[s.l[n]]).length<=_;rw[ζi,ζi,length_singleton,length_singleton];omega;simp only[Sl.l,mem_append,mem_singleton];have V:u=x.1\/u∈W.map (·.1)->(u∈C.l\/u=s.l[n])\/u=y\/∀z,Edge t u z->z∈(mJ W s.l[n] true).map (·.1):=λf=>by rcases B.done u f with h|h|h;exact .inl (.inl h);exact .inr (.inl h);exact .inr (.inr λz c=>(U z).2 (.inl (h z c)))
     rcases f with f|f;exact V (.inl f);rcases(U u).1 f with f|f;exact V (.inr f);exact .inl (.inr f)
    have an:=N.count;refine⟨⟨n+1,T,Zaa,N,λz c=>?_,?_⟩,by show _-(wrap .i64 ((n)+1)).toNat<_;rw[T];simp;omega⟩;rw[M]at c;rcases mem_append.1 c with c|c;exact(U z).2 (.inl (J z c));exact(U z).2 (.inr (by simpa using c));rw[sW D,ζi,length_singleton]at an;show 2*((bO t).length-(mJ W s.l[n] true).length)+(C.l++[s.l[n]]).length<_;rw[sW D,ζi,ζi,length_singleton,length_singleton];omega
   intro h;have ao:s.l.length<=n:=by simpa[len]using h
   rw[List.take_of_length_le ao]at J;refine(bf _).2 ((bf _).2 ⟨⟨B.rst,B.keys,B.seen,B.le,λu f=>?_⟩,o⟩);rcases B.done u f with h|h|h;exact .inl h;subst h;exact .inr (.inr λz c=>J z ((H.2 z).2 c));exact .inr (.inr h)
  have ap:rest.l=[]:=by
   have:¬len rest>0:=by simpa using h
   simp[len]at this;exact this
  have hd:∀y,y=x.1\/y∈m.map (·.1)->∀z,Edge t y z->z∈m.map (·.1):=λy d=>by rcases L.done y d with h|h|h;simp only[ap]at h;cases h;exact h.elim;exact h
  have key:∀z,Way t x.1 z->z∈m.map (·.1):=λz c=>by induction c with|single h=>exact hd _ (.inl rfl) _ h|tail _ h ih=>exact hd _ (.inr ih) _ h
  obtain⟨y,d,aq⟩:=mem_map.1 (key _ j);exact(L.seen y d).2.1 aq
 obtain⟨e,Z⟩:=g.l;rw[take_length]at h;exact absurd g (h _ Z)
structure Ok(t:Trace):Prop where
 one:1<=t.procs.l.length
 few:t.procs.l.length<=8
 heads:∀p,p<t.procs.l.length->rz t p=0
 fI:∀(p k:Nat)P e,t.procs.l[p]?=some P->P.events.l[k]?=some e->pE t.procs.l.length P p k e=0
 BM:zG t
 acyc:¬L0 t
theorem GQ{t:Trace}(h:∀(p k:Nat)P e,t.procs.l[p]?=some P->P.events.l[k]?=some e->pE t.procs.l.length P p k e=0):∀x∈bO t,lN t.procs.l.length x.1.proc x.2:=λx w=>by obtain⟨p,k,⟨P,z,B⟩,u⟩:=dQ.1 w;rw[u];exact IT (h p k P _ z B)
structure VT(t:Trace):Prop where
 formed:∀x∈bO t,lN t.procs.l.length x.1.proc x.2
 msgs:∃A i,eW t=some (some A,i,0)/\fR t (bO t) A
 few:t.procs.l.length<=8
 ok:Ok t
theorem TG{t:Trace}(b:Small t)(W:(bO t).length<1073741824):Wp (ir t) λr=>(r.2=0->VT t)/\(Ok t->r.2=0):=by
 unfold ir;rw[qc,ζb,b_];refine⟨λI=>?_,λI=>(bf _).2 ⟨λh=>Zaa,λh=>?_⟩⟩;rotate_left;have o:=h.one;have D:=h.few;grind;have D:1<=t.procs.l.length/\t.procs.l.length<=8:=by grind
 unfold ir.W1;refine fK (λi:Int=>∃n:Nat,i=n/\n<=t.procs.l.length/\∀p,p<n->rz t p=0) (λi:Int=>t.procs.l.length-i.toNat) ⟨0,rfl,zero_le _,λp J=>absurd J Zaa⟩ ?_;rintro i ⟨n,rfl,q,X⟩;unfold ir.bp;rw[b_];constructor;intro h;have u:n<t.procs.l.length:=by grind
 rw[Se b u,ζb,b_];refine⟨λa=>(bf _).2 ⟨⟨n+1,cR n Zaa,Zaa,λp J=>?_⟩,by rw[cR n Zaa];simp;omega⟩,λa=>(bf _).2 ((bf _).2 ⟨λh=>?_,λh=>?_⟩)⟩;grind;grind;simp[h.heads n u]at a;intro h;have Y:t.procs.l.length<=n:=Zac;rw[bf];unfold jD;rw[ζb];unfold ir.E2;rw[tY b,ζb];refine zm (λi _=>∀(p k:Nat)P e,t.procs.l[p]?=some P->P.events.l[k]?=some e->(⟨p,k+1⟩,e)∈(bO t).take i->pE t.procs.l.length P p k e=0) Zab ?_ ?_;intro i x _ U w;have L:=mem_of_getElem? U;obtain⟨p,j,⟨P,z,B⟩,O⟩:=dQ.1 L;unfold ir.ME;rw[O,QI b z B,ζb,b_];refine⟨λa=>(bf _).2 λp' s v y Z E l=>?_,λa=>(bf _).2 ((bf _).2 ⟨λh=>?_,λh=>?_⟩)⟩;rw[take_add_one,U]at l;grind;grind;simp[h.fI p j P _ z B]at a;intro _ w;have w:∀(p k:Nat)P e,t.procs.l[p]?=some P->P.events.l[k]?=some e->pE t.procs.l.length P p k e=0:=λp k P e z B=>w p k P e z B (by rw[take_length];exact dQ.2 ⟨p,k,⟨P,z,B⟩,rfl⟩);have Q:=GQ w;obtain⟨r,g,m,S⟩:=EL b Q;rw[g,ζb,b_];refine⟨λa=>?_,λa=>(bf _).2 ⟨λh=>?_,λh=>S h.BM⟩⟩;have a:=by simpa using a
 obtain⟨A,T,d⟩:=m a;rw[T,ζb];obtain⟨c,f,C⟩:=QG b W Q d;rw[f,ζb,b_];refine⟨λG=>(bf _).2 ⟨λh=>(by cases h),λh=>absurd (C.1 G) h.acyc⟩,λG=>(bf _).2 ⟨λ_=>?_,λ_=>rfl⟩⟩;exact⟨Q,⟨A,r.2.1,by rw[g];obtain⟨r1,r2,r3⟩:=r;simp only at T a;rw[T,a],d⟩,D.2,D.1,D.2,λp J=>X p Zaa,w,d.BM,λf=>by rw[C.2 f]at G;cases G⟩;simp_all
theorem JS{t:Trace}(a:Small t)(B:(bO t).length<1073741824):Wp (cQ t) λb=>(b=true->VT t)/\(Ok t->b=true):=by unfold cQ;rw[ec];exact(TG a B).mono λr c=>(bf _).2 ⟨λh=>c.1 Zac,λh=>Zac⟩
def gy(q:Int)(e:Event):Bool:=e.kind==2&&e.peer==q
def zi(p:Int)(e:Event):Bool:=e.kind==3&&e.peer==p
def under(t:Trace)(c:L' Int)(p q:Nat):Int:=match t.procs.l[p]?,t.procs.l[q]?,c[p]?,c[q]?with
 |some P,some Q,some a,some b=>((P.events.l.take a.toNat).countP (gy q):Int)-((Q.events.l.take b.toNat).countP (zi p):Int)|_,_,_,_=>0
theorem HA{t:Trace}(f:Small t)(g:cQ t=some true){A:cq 200 bD}(c:fR t (bO t) A){x:aZ×Event}(B:x∈bO t)(d:x.2.kind=2):qH t x.2.message=some (x.1,true):=by
 refine Wp.eq ?_;unfold qH iH;rw[g,ζb,bF];unfold jD;rw[ζb];unfold iH.E1;rw[tY f,ζb,ec];refine zm (λk _=>∀y∈(bO t).take k,¬(y.2.kind=2/\y.2.message=x.2.message)) Zab ?_ ?_;intro k y _ C u;have w:y∈bO t:=mem_of_getElem? C;unfold iH.jZ;rw[nL,ζb,b_];constructor;intro a;have a:y.2.kind=2/\y.2.message=x.2.message:=by simpa using a
 refine(bf _).2 ((bf _).2 ((bf _).2 ?_));have e:=c.snd y w a.1;have D:=c.snd x B d;rw[a.2,D]at e;rw[e];intro a;have a:¬(y.2.kind=2/\y.2.message=x.2.message):=by intro h;rw[h.1,h.2]at a;simp at a
 rw[bf];intro z b;rw[take_add_one,C]at b;rcases mem_append.1 b with b|b;exact u z b;simp at b;subst b;exact a;intro _ u;rw[take_length]at u;exact absurd ⟨d,rfl⟩ (u x B)
def qB(t:Trace)(c:L' Int):Prop:=c.length=t.procs.l.length/\∀(p:Nat)(a:Int)(P:bU),c[p]?=some a->t.procs.l[p]?=some P->0<=a/\a<=P.events.l.length
def nJ(t:Trace)(A:cq 200 bD)(c:L' Int):Prop:=∀(p k:Nat)(e:Event)(a:Int),mj t p k e->c[p]?=some a->(k:Int)<a->e.kind=3->∃b,c[(ag A e.message).from_.proc.toNat]?=some b/\(ag A e.message).from_.index<=b
theorem Dg{t:Trace}(c:VT t){A:cq 200 bD}(a:fR t (bO t) A){p k:Nat}{e:Event}(J:mj t p k e)(d:e.kind=3):
 ∃(q j:Nat)(y:Event),mj t q j y/\y.kind=2/\y.message=e.message/\y.peer=p/\e.peer=q/\(ag A e.message).from_=⟨q,j+1⟩:=by
 have u:((⟨p,k+1⟩:aZ),e)∈bO t:=dQ.2 ⟨p,k,J,rfl⟩;have z:=(a.rcv _ u d).2;have C:=c.formed _ u;simp only at z C;have B:0<=e.peer:=by rcases C with h|⟨_,h,_⟩;omega;exact h
 obtain⟨q,D⟩:∃q:Nat,e.peer=q:=⟨e.peer.toNat,Zaa⟩
 rw[D]at z;obtain⟨j,y,w,b,G,I⟩:=An.1 z;have:=a.snd (⟨q,j+1⟩,y) (dQ.2 ⟨q,j,w,rfl⟩) b;simp only at this;rw[G]at this;exact⟨q,j,y,w,b,G,I,D,this⟩
def aaC(t:Trace)(A:cq 200 bD)(c:L' Int)(s:aZ):Prop:=∃(p k:Nat)(e:Event)(a:Int)(q j:Nat)(y:Event)(b:Int),mj t p k e/\c[p]?=some a/\(k:Int)<a/\e.kind=3/\(ag A e.message).from_=s/\s=⟨q,j+1⟩/\mj t q j y/\c[q]?=some b/\b<(j:Int)+1
theorem VI{t:Trace}(v:Small t)(P:cQ t=some true)(E:VT t){A:cq 200 bD}(F:fR t (bO t) A){c:Sl Int}(H:qB t c.l):Wp (iq t c) λr=>(r.2.2=false->nJ t A c.l)/\(r.2.2=true->aaC t A c.l r.1):=by
 have ah:=E.few;unfold iq iq.W1;refine fK (λs:Int=>∃n:Nat,s=n/\n<=c.l.length/\∀(p k:Nat)(e:Event)(a:Int),p<n->mj t p k e->c.l[p]?=some a->(k:Int)<a->e.kind=3->∃b,c.l[(ag A e.message).from_.proc.toNat]?=some b/\(ag A e.message).from_.index<=b) (λs:Int=>c.l.length-s.toNat) ⟨0,rfl,zero_le _,λp k e a h=>absurd h Zaa⟩ ?_;rintro s ⟨n,rfl,hn,K⟩;have ai:=H.1;unfold iq.bp;rw[b_];constructor;intro h;have C:n<c.l.length:=by simpa[len]using h
 have B:n<t.procs.l.length:=Zaa;have hP:=(v.2 _ (getElem_mem B)).1;obtain⟨r1,r2⟩:=H.2 n _ _ (ζd C) (ζd B);rw[bG C,ζb,bG B,ζb];obtain⟨y,M,T⟩:=tD t.procs.l[n].events c.l[n].toNat Zaa;rw[show((c.l[n].toNat:Nat):Int)=c.l[n]from Zaa]at M;rw[M,ζb];unfold iq.W2;refine fK (λs:Int=>∃m:Nat,s=m/\m<=y.l.length/\∀(k:Nat)(e:Event),k<m->mj t n k e->e.kind=3->∃b,c.l[(ag A e.message).from_.proc.toNat]?=some b/\(ag A e.message).from_.index<=b) (λs:Int=>y.l.length-s.toNat) ⟨0,rfl,zero_le _,λk e h=>absurd h Zaa⟩ ?_;rintro s ⟨m,rfl,hm,i⟩;have af:y.l.length=c.l[n].toNat:=by rw[T,length_take];omega
 unfold iq.bV;rw[b_];constructor;intro h;have G:m<y.l.length:=by simpa[len]using h
 have I:=cR m Zaa;have U:y.l.length-(wrap .i64 ((m:Int)+1)).toNat<y.l.length-((m:Int)).toNat:=by rw[I];simp;omega
 have R:y.l[m]?=t.procs.l[n].events.l[m]?:=by rw[T,getElem?_take,if_pos (show m<c.l[n].toNat from Zaa)]
 have u:mj t n m y.l[m]:=⟨_,ζd B,by rw[<-R];exact ζd G⟩;rw[bG G,ζb];generalize y.l[m]=e at u;rw[b_];constructor;intro d;have d:e.kind=3:=by simpa using d
 obtain⟨q,j,z,l,V,z2,z3,z4,z5⟩:=Dg E F u d;have J:=HA v P F (x:=(⟨q,j+1⟩,z)) (dQ.2 ⟨q,j,l,rfl⟩) V;simp only at J;rw[z2]at J;have ab:=l;obtain⟨Q,hQ,_⟩:=l;have L:q<c.l.length:=by have:=(ζe.1 hQ).1;omega
 rw[J,ζb];simp only;rw[bG L,ζb,b_];constructor;intro W;have W:(j:Int)+1>c.l[q]:=by simpa using W
 exact(bf _).2 ((bf _).2 ((bf _).2 ⟨λh=>(by cases h),λ_=>⟨n,m,e,c.l[n],q,j,z,c.l[q],u,ζd C,Zaa,d,z5,rfl,ab,ζd L,Zaa⟩⟩));intro X;have X:¬((j:Int)+1>c.l[q]):=by simpa using X
 refine(bf _).2 ⟨⟨m+1,I,Zaa,λk Y ad w D=>?_⟩,U⟩;by_cases o:k=m;subst o;have:Y=e:=by obtain⟨P1,a1,a2⟩:=u;obtain⟨P2,Z,f⟩:=w;rw[a1]at Z;cases Z;rw[a2]at f;cases f;rfl
 subst this;rw[z5];exact⟨c.l[q],by simp only[toNat_natCast];exact ζd L,by simp only;omega⟩;exact i k Y Zaa w D;intro d;have d:¬e.kind=3:=by simpa using d
 refine(bf _).2 ⟨⟨m+1,I,Zaa,λk Y ad w D=>?_⟩,U⟩;by_cases o:k=m;subst o;have:Y=e:=by obtain⟨P1,a1,a2⟩:=u;obtain⟨P2,Z,f⟩:=w;rw[a1]at Z;cases Z;rw[a2]at f;cases f;rfl
 subst this;exact absurd D d;exact i k Y Zaa w D;intro h;have ae:y.l.length<=m:=by simpa[len]using h
 have N:=cR n Zaa;refine(bf _).2 ((bf _).2 ⟨⟨n+1,N,Zaa,λp k e a hp u S O g=>?_⟩,by show _-(wrap .i64 ((n:Int)+1)).toNat<_;rw[N];simp;omega⟩);by_cases ep:p=n;subst ep;rw[ζd C]at S;cases S;exact i k e Zaa u g;exact K p k e a Zaa u S O g;intro h;have ae:c.l.length<=n:=by simpa[len]using h
 refine(bf _).2 ((bf _).2 ⟨λ_ p k e a u S O g=>K p k e a (by have:=(ζe.1 S).1;omega) u S O g,λh=>(by cases h)⟩)
theorem EX{t:Trace}(f:Small t)(g:cQ t=some true)(i:VT t){A:cq 200 bD}(l:fR t (bO t) A){c:Sl Int}(B:qB t c.l):Wp (iq t c) λr=>(r.2.2=false↔nJ t A c.l):=by refine(VI f g i l B).mono λr d=>⟨d.1,λm=>?_⟩;cases h:r.2.2 with|false=>rfl|true=>obtain⟨p,k,e,a,q,j,y,b,n,u,w,z,C,D,_,G,I⟩:=d.2 h;obtain⟨J,g1,g2⟩:=m p k e a n u w z;rw[C,D]at g1 g2;simp only[toNat_natCast]at g1 g2;rw[G]at g1;cases g1;omega
theorem xH{s:Sl (Sl Int)}{p:Sl Int->Lk Bool}{f:Sl Int->Bool}(hp:∀x∈s.l,p x=some (f x))(B:s.l.length<1073741824):iT s p=some (s.l.any f):=by have h:gI s p=some (place f s.l):=vE hp Zaa (λi=>rfl);unfold iT;rw[h,ζb,vO]
theorem DZ{t:Trace}(d:Small t){c:Sl Int}(D:c.l.length=t.procs.l.length):Wp (kn t c) λb=>(b=true↔qB t c.l):=by
 have f:=d.1;unfold kn kn.W1;refine fK (λs:Int=>∃n:Nat,s=n/\n<=c.l.length/\∀(p:Nat)(a:Int)(P:bU),p<n->c.l[p]?=some a->t.procs.l[p]?=some P->0<=a/\a<=P.events.l.length) (λs:Int=>c.l.length-s.toNat) ⟨0,rfl,zero_le _,λp a P h=>absurd h Zaa⟩ ?_;rintro s ⟨n,rfl,O,G⟩;unfold kn.bp;rw[b_];constructor;intro h;have w:n<c.l.length:=by simpa[len]using h
 have u:n<t.procs.l.length:=Zaa;have I:=cR n Zaa;rw[bG w,ζb,bG u,ζb,mm,ζb,b_];constructor;intro z;have z:c.l[n]<0\/c.l[n]>t.procs.l[n].events.l.length:=by simpa[len]using z
 refine(bf _).2 ((bf _).2 ⟨λh=>(by cases h),λJ=>?_⟩);have:=J.2 n _ _ (ζd w) (ζd u);omega;intro z;have z:0<=c.l[n]/\c.l[n]<=t.procs.l[n].events.l.length:=by simpa[len]using z
 refine(bf _).2 ⟨⟨n+1,I,Zaa,λp a P Q B C=>?_⟩,by rw[I];simp;omega⟩;by_cases e:p=n;subst e;rw[ζd w]at B;cases B;rw[ζd u]at C;cases C;exact z;exact G p a P Zaa B C;intro h;have L:c.l.length<=n:=by simpa[len]using h
 refine(bf _).2 ((bf _).2 ⟨λ_=>⟨D,λp a P B C=>G p a P (by have:=(ζe.1 B).1;omega) B C⟩,λ_=>rfl⟩)
def Code(t:Trace)(A:cq 200 bD)(c:L' Int)(r:Int):Prop:=c.length≠t.procs.l.length/\r=1\/c.length=t.procs.l.length/\¬qB t c/\r=2\/qB t c/\¬nJ t A c/\r=18\/qB t c/\nJ t A c/\r=0
theorem PA{t:Trace}(a:Small t)(d:cQ t=some true)(i:VT t){A:cq 200 bD}(j:fR t (bO t) A)(c:Sl Int):
 Wp (dx t (Sl.row [c]:Sl (Sl Int)) (Sl.nil:Sl Int)) λr=>Code t A c.l r:=by
 unfold dx yA;rw[d,ζb,bF,xH (f:=λz=>(kD z t).getD false) (λz _=>MB.ok ((bf _).2 trivial)) (by simp[Sl.l]),ζb,ζb,ζb]
 have w:(!((Sl.row [c]:Sl (Sl Int)).l.any λz=>(kD z t).getD false))=(len c==len t.procs):=by simp[Sl.l,kD]
 rw[w,b_];constructor
 .intro h;have B:c.l.length=t.procs.l.length:=by
   have:(c.l.length:Int)=t.procs.l.length:=by simpa[len]using h
   omega
  unfold dx.W1;refine fK (λs:Int=>s=0\/s=1/\qB t c.l) (λs:Int=>1-s.toNat) (.inl rfl) ?_
  intro s D;unfold dx.bp;rcases D with rfl|⟨rfl,G⟩
  .rw[show decide ((0:Int)<len (Sl.row [c]:Sl (Sl Int)))=true from rfl,bF,show idx (Sl.row [c]:Sl (Sl Int)) 0=some c from rfl,ζb,ec];refine(DZ a B).mono λb u=>?_
   rw[b_];exact⟨λI=>(bf _).2 ⟨.inr ⟨rfl,u.1 I⟩,by decide⟩,λC=>(bf _).2 ((bf _).2 (.inr (.inl ⟨B,λh=>(by rw[u.2 h]at C;cases C),rfl⟩)))⟩
  rw[show decide ((1:Int)<len (Sl.row [c]:Sl (Sl Int)))=false from rfl,bE,bf];show Wp (dx.W2 (Sl.row [c]) Sl.nil 0 0 t) _;unfold dx.W2;refine fK (λs:Int=>s=0) (λ_=>0) rfl ?_
  rintro s rfl;unfold dx.bV;rw[show decide ((0:Int)<0)=false from rfl,bE,bf];show Wp (dx.W3 (Sl.row [c]) 1 0 t) _;unfold dx.W3;refine fK (λs:Int=>s=0\/s=1/\nJ t A c.l) (λs:Int=>1-s.toNat) (.inl rfl) ?_
  intro s D;unfold dx.eU;rcases D with rfl|⟨rfl,k⟩
  .rw[show decide ((0:Int)<1)=true from rfl,bF,show idx (Sl.row [c]:Sl (Sl Int)) 0=some c from rfl,ζb];unfold wD;rw[ec,ec];refine(EX a d i j G).mono λr g=>?_
   rw[bf,b_];exact⟨λu=>(bf _).2 ⟨.inr ⟨rfl,g.1 (by simpa using u)⟩,by decide⟩,λu=>(bf _).2 ((bf _).2 (.inr (.inr (.inl ⟨G,λh=>(by have:=g.2 h;simp[this]at u),rfl⟩))))⟩
  rw[show decide ((1:Int)<1)=false from rfl,bE,bf];exact(bf _).2 (.inr (.inr (.inr ⟨G,k,rfl⟩)))
 intro h;exact(bf _).2 (.inl ⟨λe=>(by simp[len,e]at h),rfl⟩)
theorem Code.zero{t:Trace}{A:cq 200 bD}{c:L' Int}{r:Int}(h:Code t A c r):r=0↔qB t c/\nJ t A c:=by rcases h with⟨h,rfl⟩|⟨_,h,rfl⟩|⟨_,h,rfl⟩|⟨a,w,rfl⟩;exact⟨λh=>(by cases h),λu=>absurd u.1.1 h⟩;exact⟨λh=>(by cases h),λu=>absurd u.1 h⟩;exact⟨λh=>(by cases h),λu=>absurd u.2 h⟩;exact⟨λ_=>⟨a,w⟩,λ_=>rfl⟩
theorem SI{t:Trace}(a:Small t)(b:cQ t=some true)(d:VT t){A:cq 200 bD}(e:fR t (bO t) A)(c:Sl Int):Wp (dx t (Sl.row [c]:Sl (Sl Int)) (Sl.nil:Sl Int)) λr=>(r=0↔qB t c.l/\nJ t A c.l):=(PA a b d e c).mono λ_ h=>h.zero
def Cons(t:Trace)(A:cq 200 bD)(c:L' Int):Prop:=qB t c/\nJ t A c
def places{α:Type}(f:α->Bool)(l:L' α):L' Nat:=(range l.length).filter λk=>match l[k]?with|some x=>f x|none=>false
theorem NH{α:Type}{f:α->Bool}{l:L' α}{k:Nat}:k∈places f l↔∃x,l[k]?=some x/\f x=true:=by unfold places;rw[List.mem_filter,mem_range];constructor;rintro⟨a,u⟩;rw[ζd a]at u;exact⟨_,ζd a,u⟩;rintro⟨x,a,u⟩;exact⟨(ζe.1 a).1,by rw[a];exact u⟩
theorem IZ{α:Type}(f:α->Bool)(l:L' α):(places f l).Nodup:=List.nodup_range.sublist (List.filter_sublist ..)
theorem En{α:Type}(f:α->Bool):∀l:L' α,(places f l).length=l.countP f:=by intro l;unfold places;rw[<-List.countP_eq_length_filter];induction l with|nil=>rfl|cons x l u=>rw[length_cons,List.range_succ_eq_map,countP_cons,List.countP_map,countP_cons];simp only[List.getElem?_cons_zero];rw[<-u];congr 1
theorem Gt{α β:Type}{f:α->Bool}{g:β->Bool}{l:L' α}{m:L' β}(φ:Nat->Nat)(h:∀k∈places f l,φ k∈places g m)(hi:∀k B,k∈places f l->B∈places f l->φ k=φ B->k=B):l.countP f<=m.countP g:=by
 rw[<-En,<-En];have w:((places f l).map φ).Nodup:=by unfold Nodup;rw[pairwise_map];exact Pairwise.imp_of_mem (λ{a b}z C u D=>u (hi a b z C D)) (IZ f l)
 have:=Ab (r:=places g m) w λx G=>by obtain⟨k,c,rfl⟩:=mem_map.1 G;exact h k c
 simpa using this
end Go.VE
namespace Go.VE
def lK(kind m:Int)(x:aZ×Event):Bool:=x.2.kind==kind&&x.2.message==m
def gX(t:Trace)(kind m:Int):aZ:=match(bO t).find? (lK kind m)with
 |some x=>x.1|none=>⟨0,0⟩
theorem Ow{t:Trace}{kind m:Int}{p:Nat}{P:bU}(B:p<9223372036854775806)(D:t.procs.l[p]?=some P)(G:P.events.l.length<1073741824):∀(q i:Nat),i+q=P.events.l.length->
 bT (λq:Int=>dV.bV kind m p t ⟨0,0⟩ q) (i:Int)=some (match(i_ p i (P.events.l.drop i)).find? (lK kind m)with|some x=>.r x.1|none=>.x ()):=by
 have u:idx t.procs (p:Int)=some P:=by rw[kJ];exact D
 intro q
 induction q with
 |zero=>
  intro i hi;rw[eB];unfold dV.bV;rw[u,ζb,show decide ((i:Int)<len P.events)=false from by simp[len];omega,bE,drop_of_length_le Zaa]
  rfl
 |succ q z=>
  intro i hi;have w:i<P.events.l.length:=Zaa
  rw[eB];have C:dV.bV kind m p t ⟨0,0⟩ i=some (if lK kind m (⟨p,(i:Int)+1⟩,P.events.l[i])then .r ⟨p,(i:Int)+1⟩else .n ((i+1:Nat):Int)):=by unfold dV.bV;rw[u,ζb,show decide ((i:Int)<len P.events)=true from by simp[len];omega,bF,ζb,bG w,ζb,nL,ζb,cR i Zaa,uy];rfl
  rw[C,ζb,drop_eq_getElem_cons w];simp only[i_,List.find?_cons]
  cases I:lK kind m (⟨p,(i:Int)+1⟩,P.events.l[i])with
  |true=>rfl|false=>simp only[false_eq_true,if_false];exact z (i+1) Zaa
theorem MO{t:Trace}(a:Small t){kind m:Int}:∀(q p:Nat),p+q=t.procs.l.length->
 bT (λq:Int=>dV.bp kind m t ⟨0,0⟩ q) (p:Int)=some (match(gb p (t.procs.l.drop p)).find? (lK kind m)with|some x=>.r x.1|none=>.x ()):=by
 have b:=a.1;intro q
 induction q with
 |zero=>
  intro p w;rw[eB];unfold dV.bp;rw[show decide ((p:Int)<len t.procs)=false from by simp[len];omega,bE,drop_of_length_le Zaa]
  rfl
 |succ q z=>
  intro p w;have u:p<t.procs.l.length:=Zaa
  have B:bT (λq:Int=>dV.bV kind m p t ⟨0,0⟩ q) 0=some (match(i_ p 0 t.procs.l[p].events.l).find? (lK kind m)with|some x=>.r x.1|none=>.x ()):=Ow (t:=t) (kind:=kind) (m:=m) Zaa (ζd u) (a.2 _ (getElem_mem u)).1 (t.procs.l[p].events.l.length) 0 Zaa
  rw[eB];unfold dV.bp;rw[show decide ((p:Int)<len t.procs)=true from by simp[len];omega,bF]
  unfold dV.W2;rw[B,drop_eq_getElem_cons u];simp only[gb,find?_append]
  cases C:(i_ p 0 t.procs.l[p].events.l).find? (lK kind m)with
  |some x=>rfl|none=>
   simp only[ζb,Fw.elim,Option.none_or];rw[cR p Zaa]
   exact z (p+1) Zaa
theorem find_eq{t:Trace}(a:Small t)(kind m:Int):dV t kind m=some (gX t kind m):=by unfold dV dV.W1;have u:bT (λq:Int=>dV.bp kind m t ⟨0,0⟩ q) 0=some (match(bO t).find? (lK kind m)with|some x=>.r x.1|none=>.x ()):=MO a (kind:=kind) (m:=m) t.procs.l.length 0 Zaa;rw[u];unfold gX;cases(bO t).find? (lK kind m)<;>rfl
theorem wH{t:Trace}{kind m:Int}{x:aZ×Event}(h:(bO t).find? (lK kind m)=some x):x∈bO t/\x.2.kind=kind/\x.2.message=m/\gX t kind m=x.1:=by have a:=List.find?_some h;simp only[lK,ζh,beq_iff_eq]at a;exact⟨List.mem_of_find?_eq_some h,a.1,a.2,by unfold gX;rw[h]⟩
theorem JH{t:Trace}{kind m:Int}{x:aZ×Event}(B:x∈bO t)(a:x.2.kind=kind)(D:x.2.message=m):∃y,(bO t).find? (lK kind m)=some y:=by cases u:(bO t).find? (lK kind m)with|some y=>exact⟨y,rfl⟩|none=>rw[find?_eq_none]at u;exact absurd (u x B) (by simp[lK,a,D])
theorem Ox{t:Trace}{kind m:Int}(h:∀x∈bO t,¬(x.2.kind=kind/\x.2.message=m)):gX t kind m=⟨0,0⟩:=by
 unfold gX;have:(bO t).find? (lK kind m)=none:=by rw[find?_eq_none];intro x u;simp only[lK,ζh,beq_iff_eq];exact h x u
 rw[this]
theorem Ud{t:Trace}{p k:Nat}{e:Event}(h:mj t p k e)(a:k<9223372036854775807):vu t ⟨p,k+1⟩=some e:=by obtain⟨P,u,w⟩:=h;unfold vu;dsimp only;rw[show idx t.procs (p:Int)=some P from by rw[kJ];exact u,ζb,show wrap .i64 ((k:Int)+1-1)=(k:Int)from by rw[eF _ Zaa Zaa];omega,show idx P.events (k:Int)=some e from by rw[kJ];exact w];rfl
def wP(t:Trace)(x:aZ×Event):Int:=if x.2.kind=1 then 0 else if gX t x.2.kind x.2.message=x.1 then(if x.2.kind=3 then(if tO t x.2.peer x.2.message x.1.proc then 0 else 7)else 0)else 8
theorem PW{t:Trace}(b:Small t){p k:Nat}{e:Event}(h:mj t p k e)(U:lN t.procs.l.length p e):iX t ⟨p,k+1⟩=some (wP t (⟨p,k+1⟩,e)):=by
 have c:k<1073741824:=by obtain⟨P,W,X⟩:=h;have:=(b.2 P (mem_of_getElem? W)).1;have:=(ζe.1 X).1;omega
 unfold iX wP;rw[Ud h Zaa,ζb];dsimp only;by_cases a:e.kind=1;rw[show(e.kind==1)=true from by simp[a],bF,if_pos a];rw[show(e.kind==1)=false from by simp[a],bE,if_neg a,find_eq b,ζb];have D:LG (gX t e.kind e.message) ⟨p,(k:Int)+1⟩=decide (gX t e.kind e.message=⟨p,(k:Int)+1⟩):=by unfold LG;rw[Bool.eq_iff_iff];cases gX t e.kind e.message;simp
 rw[D];by_cases w:gX t e.kind e.message=⟨p,(k:Int)+1⟩;rw[if_pos w,show decide (gX t e.kind e.message=⟨p,(k:Int)+1⟩)=true from by simpa using w,bF];by_cases B:e.kind=3;rw[if_pos B,show(e.kind==3)=true from by simp[B],bF];have G:0<=e.peer/\e.peer<t.procs.l.length:=by rcases U with h|⟨_,a,w,_⟩;exact absurd h a;exact⟨a,w⟩
 have O:e.peer.toNat<t.procs.l.length:=Zaa;have S:=ζd O;have Y:=(b.2 _ (getElem_mem O)).1;generalize Z:t.procs.l[e.peer.toNat]=Q at *;have I:idx t.procs e.peer=some Q:=by rw[S3 G.1];exact S
 have J:tO t e.peer e.message p=Q.events.l.any λs=>s.kind==2&&s.message==e.message&&s.peer==p:=by unfold tO;rw[S]
 unfold iX.W1;refine Wp.eq (fK (λz:Bool×Int=>∃m:Nat,z.2=m/\m<=Q.events.l.length/\z.1=(Q.events.l.take m).any λs=>s.kind==2&&s.message==e.message&&s.peer==p) (λz=>Q.events.l.length-z.2.toNat) ⟨0,rfl,zero_le _,rfl⟩ ?_);rintro⟨s,i⟩ ⟨m,hi,d,C⟩;simp only at hi C;subst hi;unfold iX.bp;dsimp only;rw[I,ζb,b_];constructor;intro L;have u:m<Q.events.l.length:=by simpa[len]using L
 have T:=cR m Zaa;rw[ζb,bG u,ζb,nL,ζb,nL,ζb,mm,ζb,bf];refine⟨⟨m+1,T,Zaa,?_⟩,by show _-(wrap .i64 ((m:Int)+1)).toNat<_;rw[T];simp;omega⟩;show(s||_)=_;rw[take_add_one,ζd u,List.any_append,C];simp;intro L;have u:Q.events.l.length<=m:=by simpa[len]using L
 rw[List.take_of_length_le u]at C;refine(bf _).2 ?_;rw[J,<-C];cases s;exact(bf _).2 rfl;exact(bf _).2 rfl;rw[if_neg B,show(e.kind==3)=false from by simp[B],bE];rw[if_neg w,show decide (gX t e.kind e.message=⟨p,(k:Int)+1⟩)=false from by simpa using w,bE]
theorem MW{t:Trace}(J:∀x∈bO t,lN t.procs.l.length x.1.proc x.2):(∀x∈bO t,wP t x=0)↔zG t:=by
 constructor;intro h;have key:∀x∈bO t,x.2.kind≠1->gX t x.2.kind x.2.message=x.1:=λx u a=>by have:=h x u;unfold wP at this;rw[if_neg a]at this;split at this;assumption;cases this
 refine⟨λx u y w z B C=>?_,λx u y w z B C=>?_,λx u z=>?_⟩;rw[<-key x u Zaa,<-key y w Zaa,z,B,C];rw[<-key x u Zaa,<-key y w Zaa,z,B,C];have:=h x u;unfold wP at this;rw[if_neg Zaa,if_pos (key x u Zaa),if_pos z]at this;split at this;assumption;cases this;intro h x u;unfold wP;by_cases k1:x.2.kind=1;rw[if_pos k1];rw[if_neg k1];obtain⟨y,w⟩:=JH u rfl rfl;obtain⟨D,G,y3,y4⟩:=wH w;have a:x.2.kind=2\/x.2.kind=3:=by rcases J x u with h|⟨h,_⟩;exact absurd h k1;exact h
 have I:gX t x.2.kind x.2.message=x.1:=by rw[y4];rcases a with a|a;exact h.snd y D x u (by rw[G,a]) a y3;exact h.rcv y D x u (by rw[G,a]) a y3
 rw[if_pos I];by_cases k3:x.2.kind=3;rw[if_pos k3,if_pos (h.has x u k3)];rw[if_neg k3]
theorem y_{t:Trace}(D:∀x∈bO t,lN t.procs.l.length x.1.proc x.2)(G:zG t){z:aZ}{f:Event}(B:(z,f)∈bO t)(a:f.kind=3):∃e,(gX t 2 f.message,e)∈bO t/\e.kind=2/\e.message=f.message:=by
 have h:=G.has _ B a;have I:0<=f.peer:=by rcases D _ B with h|⟨_,h,_⟩;grind;simp_all
 rw[show f.peer=(f.peer.toNat:Nat)from Zaa,An]at h;obtain⟨k,e,u,b,w,_⟩:=h;obtain⟨y,C⟩:=JH (dQ.2 ⟨_,k,u,rfl⟩:(⟨(f.peer.toNat:Nat),k+1⟩,e)∈bO t) b w;obtain⟨J,L,y3,y4⟩:=wH C;grind
theorem IX.find{t:Trace}(G:∀x∈bO t,lN t.procs.l.length x.1.proc x.2)(B:zG t){y z:aZ}{f:Event}(h:IX t y z)(D:(z,f)∈bO t):f.kind=3/\gX t 2 f.message=y:=by obtain⟨e,I,a,w,C,u,J⟩:=h;cases zM w D rfl;obtain⟨L,a1,a2,a3⟩:=y_ G B D u;exact⟨u,B.snd _ a1 _ a a2 C (by simp_all)⟩
theorem CE{t:Trace}(b:Small t)(J:∀x∈bO t,lN t.procs.l.length x.1.proc x.2)(B:zG t){z:aZ}(D:Vd t z):
 Wp (dS t z) λs=>s.l.length<=2/\∀y,y∈s.l↔Edge t y z:=by
 obtain⟨p,k,f,w,rfl,u⟩:=D.at_;have d:k<1073741824:=by obtain⟨P,B,I⟩:=w;have:=(b.2 P (mem_of_getElem? B)).1;grind
 have j:∀s:Sl aZ,s.l.length<=1->(∀y,y∈s.l↔Vd t y/\(⟨p,k+1⟩:aZ)=⟨y.proc,y.index+1⟩)->Wp (dS.J1 s t ⟨p,k+1⟩) λs=>s.l.length<=2/\∀y,y∈s.l↔Edge t y ⟨p,k+1⟩:=by
  intro s Q C;unfold dS.J1;rw[Ud w Zaa,ζb,b_];constructor;intro G;have G:f.kind=3:=by grind
  rw[find_eq b,ζb];unfold ga;rw[if_pos Zaa,ζb,bf];refine⟨by show(s.l++[_]).length<=2;grind,λy=>?_⟩;show y∈s.l++[gX t 2 f.message]↔_;rw[mem_append,mem_singleton,C];obtain⟨e,a1,a2,a3⟩:=y_ J B u G;constructor;rintro(h|rfl);exact⟨h.1,D,.inl h.2⟩;exact⟨⟨e,a1⟩,D,.inr ⟨e,f,a1,u,a2,G,a3⟩⟩;rintro⟨c,_,a|a⟩;grind;exact .inr (a.find J B u).2.symm;intro G;refine(bf _).2 ⟨Zaa,λy=>(C y).trans ⟨λh=>⟨h.1,D,.inl h.2⟩,λ⟨c,_,a⟩=>⟨c,a.elim id λa=>?_⟩⟩⟩;have:=(a.find J B u).1;grind
 unfold dS;rw[b_];constructor
 .intro h;have h:k+1>1:=by grind
  refine j _ (by simp[Sl.l]) λy=>?_
  have O:wrap .i64 (k+1-1)=k:=by rw[eF _ Zaa Zaa];omega
  simp only[Sl.l,mem_singleton,O,aZ.mk.injEq];constructor
  .rintro rfl;obtain⟨P,B,I⟩:=w;have:=(ζe.1 I).1;exact⟨⟨P.events.l[k-1],dQ.2 ⟨p,k-1,⟨P,B,ζd Zaa⟩,by simp;omega⟩⟩,rfl,rfl⟩
  simp_all
 intro h;refine j _ (by simp[Sl.l]) λy=>⟨λL=>by simp[Sl.l]at L,λ⟨L,I⟩=>?_⟩
 obtain⟨q,i,f,_,rfl,_⟩:=L.at_
 grind
theorem Yy{α:Type}{r:α->α->Prop}{x:α}(h:Acc r x):¬TransGen r x x:=by induction h with|intro x _ u=>intro h;cases h with|single h=>exact u x h (.single h)|tail h1 w=>exact u _ w (TransGen.trans (.single w) h1)
theorem Mq:∀{d:L' Nat}{i k:Nat},d[i]?=some k->(d.set i (k+1)).sum=d.sum+1
 |[],_,_,h=>by simp_all|x::d,0,k,h=>Zac|x::d,i+1,k,h=>by have:=Mq (d:=d) (i:=i) (k:=k) Zac;grind
theorem Pt:∀{d l:L' Nat},d.length=l.length->(∀(i a b:Nat),d[i]?=some a->l[i]?=some b->a<=b)->d.sum<=l.sum
 |[],_,_,_=>Zab|x::d,[],h,_=>by simp_all|x::d,y::l,h,B=>by have c:=B 0 x y rfl rfl;have u:=Pt (d:=d) (l:=l) Zac λi a b w z=>B (i+1) a b Zac Zac;simp;omega
def nI(d:L' Nat):L' Int:=d.map Int.ofNat
def sI(s:Sl Int):Nat:=(s.l.map toNat).sum
theorem Ih(d:L' Nat):sI (.row (nI d))=d.sum:=by unfold sI nI;rw[show(Sl.row (d.map Int.ofNat)).l=d.map Int.ofNat from rfl,List.map_map,show(toNat ∘ Int.ofNat)=id from rfl,List.map_id]
theorem QY(d:L' Nat):(nI d).length=d.length:=by simp[nI]
structure Kh(t:Trace)(d:List Nat):Prop where
 len:d.length=t.procs.l.length
 le:∀(p k:Nat)P,d[p]?=some k->t.procs.l[p]?=some P->k<=P.events.l.length
 acc:∀(p k j:Nat),d[p]?=some k->j<k->Acc (Edge t) ⟨p,j+1⟩
def sU(t:Trace):Nat:=(t.procs.l.map λP=>P.events.l.length).sum
theorem Kh.sum{t:Trace}{d:L' Nat}(h:Kh t d):d.sum<=sU t:=Pt (by simp[h.len]) λi a b z u=>by cases w:t.procs.l[i]?with|none=>grind|some P=>simp[w]at u;rw[<-u];exact h.le i a P z w
theorem EH{d:L' Nat}{p:Nat}(h:p<d.length):Sl.kS (.row (nI d)) (p:Int)=some p:=by unfold Sl.kS;rw[if_pos ⟨Zaa,by simpa[Sl.l,QY]using h⟩];rfl
theorem BY{d:L' Nat}{p k:Nat}(h:d[p]?=some k):Sl.get (.row (nI d)) p=some (k:Int):=by unfold Sl.get nI;rw[show(Sl.row (d.map Int.ofNat)).l=d.map Int.ofNat from rfl,getElem?_map,h];rfl
def Mv(t:Trace)(B:L' Nat)(s:Sl Int)(b:Bool)(d:L' Nat):Prop:=s=.row (nI d)/\Kh t d/\B.sum<=d.sum/\(b=true->B.sum<d.sum)
def KQ(t:Trace)(B:L' Nat)(p:Nat)(w:Fw (Sl Int×Bool×Int) (Sl Int×Bool) Empty):Prop:=∃u z C,w=.n (u,z,((p+1:Nat):Int))/\Mv t B u z C
theorem V5{t:Trace}(c:Small t)(m:∀x∈bO t,lN t.procs.l.length x.1.proc x.2)(n:zG t){D o:L' Nat}{s:Sl Int}{b:Bool}{p:Nat}(hp:p<t.procs.l.length)(v:Mv t D s b o):
 Wp (eH.W3 s b p t) (KQ t D p):=by
 have Y:=bG hp;have hn:=c.1;have af:=(c.2 _ (getElem_mem hp)).1;have C:=ζd hp;generalize t.procs.l[p]=P at *;refine fK (λq:Sl Int×Bool=>∃d,Mv t D q.1 q.2 d) (λq=>sU t-sI q.1) ⟨o,v⟩ ?_
 rintro⟨s,b⟩ ⟨d,rfl,u,hd,A⟩;have w:p<d.length:=by rw[u.len];omega
 have a:=ζd w;generalize d[p]=k at a;have ah:=u.le p k P a C;have stop:∀{W:Empty->Prop},Wp (some (Fw.x (Sl.row (nI d),b))) (Uj (λq:Sl Int×Bool=>∃d,Mv t D q.1 q.2 d) (λq=>sU t-sI q.1) (λe=>Wp (some (Fw.n (e.1,e.2,wrap .i64 (p+1)))) (KQ t D p)) W (Sl.row (nI d),b)):=by refine(bf _).2 ((bf _).2 ⟨_,_,d,?_,rfl,u,hd,A⟩);rw[cR p Zaa]
 unfold eH.eU;rw[EH w,ζb,BY a,ζb,Y,ζb,b_];refine⟨λh=>?_,λ_=>stop⟩
 have G:k<P.events.l.length:=Zac
 have Z:mj t p k P.events.l[k]:=⟨P,C,ζd G⟩;have z:(⟨p,k+1⟩,P.events.l[k])∈bO t:=dQ.2 ⟨p,k,Z,rfl⟩;have go:(P.events.l[k].kind=3->∀q j:Nat,gX t 2 P.events.l[k].message=⟨q,j+1⟩->∃X,d[q]?=some X/\j<X)->∀{r:Sl Int×Bool->Prop}{W:Empty->Prop},Wp (eH.J4 (.row (nI d)) p t) (Uj (λq:Sl Int×Bool=>∃d,Mv t D q.1 q.2 d) (λq=>sU t-sI q.1) r W (Sl.row (nI d),b)):=by
  intro E r W;unfold eH.J4;rw[EH w,ζb,BY a,ζb,ζb];unfold Sl.put;rw[if_pos (by simpa[Sl.l,QY]using w),ζb,bf];have I:(nI d).set p (wrap .i64 ((k:Int)+1))=nI (d.set p (k+1)):=by rw[cR k Zaa];unfold nI;simp_all
  have J:=Mq a;have L:Kh t (d.set p (k+1)):=by
   refine⟨by simp[u.len],λq i Q hi g=>?_,λq i j hi F=>?_⟩;rw[getElem?_set]at hi;split at hi;grind;exact u.le q i Q hi g;rw[getElem?_set]at hi;split at hi;rename_i e;subst e;cases hi;by_cases H:j<k;exact u.acc p k j a H;have:j=k:=Zaa;subst this;refine Acc.intro _ λy K=>?_;obtain⟨O,_,l|l⟩:=K;obtain⟨q,i,f,_,rfl,_⟩:=O.at_;simp[aZ.mk.injEq]at l;have e1:q=p:=by omega
   subst e1;exact u.acc q j i a Zaa;obtain⟨B,M⟩:=l.find m n z;obtain⟨q,i,f,_,rfl,_⟩:=O.at_;obtain⟨X,N,R⟩:=E B q i M;exact u.acc q X i N R;exact u.acc q i j hi F
  have ai:=L.sum;refine⟨⟨_,Zac,L,Zac,λ_=>Zac⟩,?_⟩;show sU t-sI (.row ((nI d).set p (wrap .i64 ((k:Int)+1))))<sU t-sI (.row (nI d));rw[I,Ih,Ih,J];grind
 dsimp only;rw[ζb,ζb,BY a,ζb,bG G,ζb,b_];refine⟨λB=>?_,λB=>go λh=>by simp[h]at B⟩
 have B:P.events.l[k].kind=3:=by simpa using B
 obtain⟨e,a1,a2,a3⟩:=y_ m n z B;obtain⟨q,j,S,T⟩:=dQ.1 a1;simp only at T;have U:q<d.length:=by obtain⟨Q,g,_⟩:=S;rw[u.len];exact(ζe.1 g).1
 have V:=ζd U;rw[find_eq c,ζb,T,EH U,ζb,BY V,ζb,b_];refine⟨λ_=>stop,λh=>go λ_ q' j' hh=>?_⟩
 grind
theorem MP{t:Trace}(a:Small t)(U:∀x∈bO t,lN t.procs.l.length x.1.proc x.2)(B:zG t):Wp (eH t) λb=>b=true->¬L0 t:=by
 have m:=a.1;unfold eH tV;rw[if_pos Zac,ζb];have g:(Sl.row (replicate (len t.procs).toNat 0))=.row (nI (replicate t.procs.l.length 0)):=by simp[nI]
 rw[g];refine fK (λs:Sl Int=>∃d,s=.row (nI d)/\Kh t d) (λs=>sU t-sI s) ⟨_,rfl,Zab,λp k P h _=>Zac,λp k j h o=>Zac⟩ ?_;rintro s ⟨D,rfl,O⟩;refine fK (λq:Sl Int×Bool×Int=>∃(n:Nat)(d:L' Nat),q.2.2=n/\n<=t.procs.l.length/\Mv t D q.1 q.2.1 d) (λq=>t.procs.l.length-q.2.2.toNat) ⟨0,D,rfl,zero_le _,rfl,O,le_refl _,Zab⟩ ?_;rintro⟨s,b,i⟩ ⟨n,d,hi,Q,c⟩;subst hi;unfold eH.bV;rw[b_];constructor;intro h;have u:n<t.procs.l.length:=by grind
 refine(V5 a U B u c).mono ?_;rintro w ⟨r,v,S,rfl,G⟩;exact⟨⟨n+1,S,rfl,Zaa,G⟩,by simp;omega⟩;intro _;obtain⟨rfl,z,T,I⟩:=c;rw[bf];show Wp (bg b _ _) _;rw[b_];refine⟨λW=>(bf _).2 ⟨⟨d,rfl,z⟩,?_⟩,λ_=>(bf _).2 ?_⟩;show sU t-sI (.row (nI d))<sU t-sI (.row (nI D));rw[Ih,Ih];have:=I W;have:=z.sum;omega;refine fK (λi:Int=>∃n:Nat,i=n/\n<=t.procs.l.length/\∀p,p<n->∀P,t.procs.l[p]?=some P->d[p]?=some P.events.l.length) (λi:Int=>t.procs.l.length-i.toNat) ⟨0,rfl,zero_le _,λp J=>absurd J Zaa⟩ ?_;rintro i ⟨n,rfl,X,Y⟩;unfold eH.zj;rw[b_];constructor;intro h;have u:n<t.procs.l.length:=by grind
 have C:n<d.length:=by rw[z.len];omega
 have f:=ζd C;rw[EH C,ζb,BY f,ζb,bG u,ζb,b_];refine⟨λ_=>(bf _).2 ((bf _).2 λh=>by cases h),λh=>(bf _).2 ⟨⟨n+1,cR n Zaa,Zaa,λp J P B=>?_⟩,by rw[cR n Zaa];simp;omega⟩⟩;by_cases e:p=n;subst e;rw[ζd u]at B;have:=z.le p _ _ f (ζd u);grind;grind;intro h;have Z:t.procs.l.length<=n:=Zac;refine(bf _).2 ((bf _).2 λ_⟨x,L⟩=>?_);obtain⟨p,k,e,⟨P,B,l⟩,rfl,_⟩:=L.l.at_;have y:=(ζe.1 B).1;exact Yy (z.acc p _ k (Y p Zaa P B) (ζe.1 l).1) L
def rS(out:L' (L' Bool))(y:aZ):Bool:=match out[y.proc.toNat]?with
 |some row=>row[y.index.toNat]?.getD false|none=>false
theorem Bu{t:Trace}{out:L' (L' Bool)}{p k:Nat}{row:L' Bool}(a:out[p]?=some row)(b:k+1<row.length){z:aZ}(B:Vd t z):
 rS (out.set p (row.set (k+1) true)) z=(decide (z=⟨p,k+1⟩)||rS out z):=by
 obtain⟨q,j,e,_,rfl,_⟩:=B.at_;have C:=(ζe.1 a).1;unfold rS;have e1:(⟨(q:Int),(j:Int)+1⟩:aZ).proc.toNat=q:=rfl;have e2:(⟨(q:Int),(j:Int)+1⟩:aZ).index.toNat=j+1:=by show((j:Int)+1).toNat=j+1;omega
 rw[e1,e2,getElem?_set]
 by_cases u:p=q
 .subst u;rw[if_pos rfl,if_pos C,a];dsimp only;rw[getElem?_set]
  by_cases w:k=j
  .subst w;simp[b]
  rw[if_neg Zaa,show decide ((⟨(p:Int),(j:Int)+1⟩:aZ)=⟨p,k+1⟩)=false from by simp;omega,Bool.false_or]
 rw[if_neg u,show decide ((⟨(q:Int),(j:Int)+1⟩:aZ)=⟨p,k+1⟩)=false from by simp;omega,Bool.false_or]
theorem Br{α:Type}{f g:α->Bool}:∀{l:L' α},(∀z∈l,f z=true->g z=true)->(∃z∈l,f z=false/\g z=true)->l.countP f<l.countP g
 |[],_,⟨z,b,_⟩=>by simp at b|a::l,h,⟨z,b,B,hg⟩=>by simp only[countP_cons];have D:=List.countP_mono_left (l:=l) (p:=f) (q:=g) λx u=>h x (mem_cons_of_mem _ u);rcases mem_cons.1 b with rfl|b;simp[B,hg];omega;have:=Br (l:=l) (λx u=>h x (mem_cons_of_mem _ u)) ⟨z,b,B,hg⟩;have c:=h a (mem_cons_self ..);cases w:f a with|true=>simp[c w];omega|false=>simp;split<;>omega
def cnt(t:Trace)(out:L' (L' Bool)):Nat:=(bO t).countP λz=>rS out z.1
structure Z7(t:Trace)(x:aZ)(out:List (List Bool))(rest:List aZ):Prop where
 shp:∀(p:Nat)P,t.procs.l[p]?=some P->∃row,out[p]?=some row/\row.length=P.events.l.length+1
 len:out.length=t.procs.l.length
 que:∀y∈rest,Way t y x
 snd:∀y,Vd t y->rS out y=true->Way t y x
 cls:∀z,z=x\/Vd t z/\rS out z=true->∀y,Edge t y z->rS out y=true\/y∈rest
 le:rest.length<=2*cnt t out+2
theorem CU{t:Trace}{y:aZ}:rS (gW t) y=false:=by
 unfold rS gW;split;rename_i row h;rw[getElem?_map]at h;cases u:t.procs.l[y.proc.toNat]?with|none=>simp[u]at h|some P=>simp[u]at h;subst h;rw[getElem?_replicate];split<;>rfl
 rfl
theorem Wu{t:Trace}(c:Small t)(n:(bO t).length<1073741824)(i:∀x∈bO t,lN t.procs.l.length x.1.proc x.2)(J:zG t){x:aZ}(j:Vd t x):
 Wp (oq t x) λs=>∃out,s=nested out/\Z7 t x out []/\∀y,Vd t y->(rS out y=true↔Way t y x):=by
 unfold oq;rw[if_pos (by
  unfold BC;simp only[ζh,all_eq_true,decide_eq_true_eq];exact⟨by have:=c.1;omega,λP J=>by have:=(c.2 P J).1;omega⟩),ec]
 refine(CE c i J j).mono λs X=>?_
 refine fK (λq:L' (L' Bool)×L' aZ=>Z7 t x q.1 q.2) (λq=>2*((bO t).length-cnt t q.1)+q.2.length) ⟨λp P J=>⟨replicate (P.events.l.length+1) false,by simp[gW,J],Zab⟩,by simp[gW],λy C=>.single ((X.2 y).1 C),λy _ h=>(by rw[CU]at h;cases h),λz a y C=>?_,by have:=X.1;show s.l.length<=2*cnt t (gW t)+2;omega⟩ ?_
 .rcases a with rfl|⟨_,h⟩
  .exact .inr ((X.2 y).2 C)
  rw[CU]at h;cases h
 rintro⟨out,rest⟩ u
 cases rest with
 |nil=>
  show Wp (some _) _;refine(bf _).2 ((bf _).2 ⟨out,rfl,u,λy C=>⟨u.snd y C,λD=>?_⟩⟩)
  have key:∀w,Way t y w->w=x\/Vd t w/\rS out w=true->rS out y=true:=λw D=>by induction D with|single h=>exactλD=>(u.cls _ D _ h).elim id λh=>by cases h|tail ad L ih=>exactλD=>ih (.inr ⟨L.1,(u.cls _ D _ L).elim id λh=>by cases h⟩)
  exact key x D (.inl rfl)
 |cons y rest=>
  have G:=u.que y (mem_cons_self ..);have I:=G.l;obtain⟨p,k,e,Y,rfl,O⟩:=I.at_;obtain⟨P,S,l⟩:=Y;have o:=(ζe.1 l).1;obtain⟨row,b,Z⟩:=u.shp p P S;have B:k+1<row.length:=Zaa
  show Wp (pL _ (out,⟨p,k+1⟩::rest)) _;unfold pL;have e2:((k:Int)+1).toNat=k+1:=Zaa
  dsimp only;rw[if_pos ⟨Zaa,Zaa⟩,show((p:Nat):Int).toNat=p from rfl,e2,b,ζb,ζd B,ζb,b_]
  have T:rS out ⟨p,k+1⟩=row[k+1]:=by unfold rS;rw[show((⟨(p:Int),(k:Int)+1⟩:aZ).proc).toNat=p from rfl,b];dsimp only;rw[e2,ζd B];rfl
  constructor
  .intro d;rw[bf];refine⟨⟨u.shp,u.len,λy C=>u.que y (mem_cons_of_mem _ C),u.snd,λz a y C=>?_,by have:=u.le;simp only[length_cons]at this;show rest.length<=2*cnt t out+2;omega⟩,Nat.add_lt_add_left (Nat.lt_succ_self _) _⟩
   rcases u.cls z a y C with h|h
   .exact .inl h
   rcases mem_cons.1 h with rfl|h
   .exact .inl (by rw[T];exact d)
   exact .inr h
  intro d;rw[ec];refine(CE c i J I).mono λmore f=>?_
  have m:=u.le;simp only[length_cons]at m;have v:cnt t out<=(bO t).length:=List.countP_le_length;have A:=f.1;have E:cnt t out<cnt t (out.set p (row.set (k+1) true)):=Br (λz a h=>by rw[Bu b B ⟨_,a⟩,h,Bool.or_true]) ⟨_,O,by rw[T,d],by rw[Bu b B I];simp⟩
  have F:cnt t (out.set p (row.set (k+1) true))<=(bO t).length:=List.countP_le_length;rw[if_pos Zaa,bf]
  refine⟨⟨λq Q g=>?_,by show(out.set _ _).length=_;rw[length_set];exact u.len,λz a=>?_,λz a h=>?_,λz a y C=>?_,by show(rest++more.l).length<=_;rw[ζi];show _<=2*cnt t (out.set p (row.set (k+1) true))+2;omega⟩,?_⟩
  .show ∃r,(out.set p (row.set (k+1) true))[q]?=some r/\_;rw[getElem?_set];split
   next e=>subst e;rw[if_pos (ζe.1 b).1];rw[S]at g;cases g;exact⟨_,rfl,by simp[Z]⟩
   exact u.shp q Q g
  .rcases mem_append.1 a with a|a
   .exact u.que z (mem_cons_of_mem _ a)
   exact .trans (.single ((f.2 z).1 a)) G
  .show Way t z x;have h:rS (out.set p (row.set (k+1) true)) z=true:=h;rw[Bu b B a]at h;simp only[or_eq_true,decide_eq_true_eq]at h;rcases h with rfl|h
   .exact G
   exact u.snd z a h
  .show rS (out.set p (row.set (k+1) true)) y=true\/y∈rest++more.l;rw[Bu b B C.1];have U:z=x\/Vd t z/\rS out z=true->(decide (y=⟨p,k+1⟩)||rS out y)=true\/y∈rest++more.l:=λa=>by
    rcases u.cls z a y C with h|h
    .exact .inl (by rw[show rS out y=true from h,Bool.or_true])
    rcases mem_cons.1 h with rfl|h
    .exact .inl Zab
    exact .inr (mem_append_left _ h)
   rcases a with a|⟨W,a⟩
   .exact U (.inl a)
   have a:rS (out.set p (row.set (k+1) true)) z=true:=a;rw[Bu b B W]at a;simp only[or_eq_true,decide_eq_true_eq]at a;rcases a with rfl|a
   .exact .inr (List.mem_append_right _ ((f.2 y).2 C))
   exact U (.inr ⟨W,a⟩)
  show 2*((bO t).length-cnt t (out.set p (row.set (k+1) true)))+(rest++more.l).length<2*((bO t).length-cnt t out)+(_::rest).length;rw[ζi,length_cons];omega
theorem Y2{t:Trace}(b:Small t)(Y:(bO t).length<1073741824)(f:∀x∈bO t,lN t.procs.l.length x.1.proc x.2)(G:zG t):Wp (dh.W6 0 t ⟨0,0⟩) λr=>(r.2=0↔¬L0 t):=by
 have v:=b.1;unfold dh.W6;refine fK (λi:Int=>∃n:Nat,i=n/\n<=t.procs.l.length/\∀(p k:Nat)e,p<n->mj t p k e->¬Way t ⟨p,k+1⟩ ⟨p,k+1⟩) (λi:Int=>t.procs.l.length-i.toNat) ⟨0,rfl,zero_le _,λp k e T=>absurd T Zaa⟩ ?_;rintro i ⟨n,rfl,Z,U⟩;unfold dh.Mp;rw[b_];constructor;intro h;have w:n<t.procs.l.length:=by simpa[len]using h
 have I:=bG w;have z:=ζd w;have y:=(b.2 _ (getElem_mem w)).1;generalize t.procs.l[n]=P at *;unfold dh.W7;refine fK (λi:Int=>∃m:Nat,i=m/\m<=P.events.l.length/\∀k,k<m->¬Way t ⟨n,k+1⟩ ⟨n,k+1⟩) (λi:Int=>P.events.l.length-i.toNat) ⟨0,rfl,zero_le _,λk a=>absurd a Zaa⟩ ?_;rintro i ⟨m,rfl,A,a⟩;unfold dh.Mm;rw[I,ζb,b_];constructor;intro h;have J:m<P.events.l.length:=by simpa[len]using h
 have L:=cR m Zaa;have c:Vd t ⟨n,m+1⟩:=⟨P.events.l[m],dQ.2 ⟨n,m,⟨P,z,ζd J⟩,rfl⟩⟩;rw[L,show(((m+1:Nat)):Int)=(m:Int)+1 from Zab,ec];refine(Wu b Y f G c).mono ?_;rintro s ⟨out,rfl,g,B⟩;obtain⟨row,d,E⟩:=g.shp n P z;have O:out≠[]:=by rintro rfl;cases d
 have C:m+1<row.length:=Zaa;have j:idx (nested out) (n:Int)=some (.row row):=by unfold nested;rw[if_neg O,kJ];show(out.map Sl.row)[n]?=_;rw[getElem?_map,d];rfl
 have l:idx (Sl.row row) ((m:Int)+1)=some row[m+1]:=by rw[show(m:Int)+1=((m+1:Nat):Int)from Zab];exact bG (s:=Sl.row row) C
 rw[j,ζb,l,ζb,b_];have o:row[m+1]=rS out ⟨n,m+1⟩:=by unfold rS;rw[show((⟨(n:Int),(m:Int)+1⟩:aZ).proc).toNat=n from rfl,d];dsimp only;rw[show((m:Int)+1).toNat=m+1 from Zaa,ζd C];rfl
 rw[o];refine⟨λD=>(bf _).2 ((bf _).2 ((bf _).2 ⟨λh=>(by cases h),λh=>absurd ⟨_,(B _ c).1 D⟩ h⟩)),λD=>(bf _).2 ⟨⟨m+1,Zab,Zaa,λk F=>?_⟩,by simp;omega⟩⟩;by_cases e:k=m;subst e;exactλL=>by rw[(B _ c).2 L]at D;cases D
 exact a k Zaa;intro h;have S:P.events.l.length<=m:=by simpa[len]using h
 refine(bf _).2 ((bf _).2 ⟨⟨n+1,cR n Zaa,Zaa,λp k e T u=>?_⟩,by rw[cR n Zaa];simp;omega⟩);by_cases e:p=n;subst e;obtain⟨Q,W,q⟩:=u;rw[z]at W;cases W;have:=(ζe.1 q).1;exact a k Zaa;exact U p k _ Zaa u;intro h;have S:t.procs.l.length<=n:=by simpa[len]using h
 refine(bf _).2 ((bf _).2 ⟨λ_⟨x,X⟩=>?_,λ_=>rfl⟩);obtain⟨p,k,e,u,rfl,_⟩:=X.l.at_;obtain⟨P,G,_⟩:=id u;exact U p k e (by have:=(ζe.1 G).1;omega) u X
theorem Kj{t:Trace}(B:∀x∈bO t,lN t.procs.l.length x.1.proc x.2):(∀(p k:Nat)e,mj t p k e->wP t (⟨p,k+1⟩,e)=0)↔zG t:=Iff.trans ⟨λh x w=>by obtain⟨p,k,b,u⟩:=dQ.1 w;obtain⟨a,e⟩:=x;simp only at b u;rw[u];exact h p k e b,λh p k e z=>h _ (dQ.2 ⟨p,k,z,rfl⟩)⟩ (MW B)
theorem P8{t:Trace}(d:Small t)(s:(bO t).length<1073741824):Wp (dh t) λr=>(r.2=0↔Ok t):=by
 have E:=d.1;unfold dh;rw[mm,ζb,b_];refine⟨λO=>(bf _).2 ⟨λh=>(by cases h),λh=>?_⟩,λO=>?_⟩;have F:=h.one;have g:=h.few;simp only[or_eq_true,decide_eq_true_eq,len]at O;omega;have g:1<=t.procs.l.length/\t.procs.l.length<=8:=by simp only[or_eq_false_iff,decide_eq_false_iff_not,len]at O;omega
 unfold dh.W1;refine fK (λi:Int=>∃n:Nat,i=n/\n<=t.procs.l.length/\∀p,p<n->rz t p=0) (λi:Int=>t.procs.l.length-i.toNat) ⟨0,rfl,zero_le _,λp G=>absurd G Zaa⟩ ?_;rintro i ⟨n,rfl,H,o⟩;unfold dh.bp;rw[b_];constructor;intro h;have w:n<t.procs.l.length:=by simpa[len]using h
 rw[Ro d w,ζb,b_];refine⟨λa=>(bf _).2 ⟨⟨n+1,cR n Zaa,Zaa,λp G=>?_⟩,by rw[cR n Zaa];simp;omega⟩,λa=>(bf _).2 ((bf _).2 ⟨λh=>?_,λh=>?_⟩)⟩;by_cases e:p=n;subst e;simpa using a;exact o p Zaa;simp only at h;simp[h]at a;simp[h.heads n w]at a;intro h;have K:t.procs.l.length<=n:=by simpa[len]using h
 rw[bf];unfold dh.W2;refine fK (λi:Int=>∃n:Nat,i=n/\n<=t.procs.l.length/\∀(p k:Nat)P e,p<n->t.procs.l[p]?=some P->P.events.l[k]?=some e->pE t.procs.l.length P p k e=0) (λi:Int=>t.procs.l.length-i.toNat) ⟨0,rfl,zero_le _,λp k P e G=>absurd G Zaa⟩ ?_;rintro i ⟨I,rfl,M,W⟩;unfold dh.bV;rw[b_];constructor;intro h;have w:I<t.procs.l.length:=by simpa[len]using h
 have D:=bG w;have B:=ζd w;have S:=(d.2 _ (getElem_mem w)).1;generalize t.procs.l[I]=P at D B S;unfold dh.W3;refine fK (λi:Int=>∃m:Nat,i=m/\m<=P.events.l.length/\∀(k:Nat)e,k<m->P.events.l[k]?=some e->pE t.procs.l.length P I k e=0) (λi:Int=>P.events.l.length-i.toNat) ⟨0,rfl,zero_le _,λk e c=>absurd c Zaa⟩ ?_;rintro i ⟨m,rfl,v,c⟩;unfold dh.eU;rw[D,ζb,b_];constructor;intro h;have T:m<P.events.l.length:=by simpa[len]using h
 have C:=ζd T;have f:=cR m Zaa;rw[RW d B C,ζb,b_];refine⟨λa=>(bf _).2 ⟨⟨m+1,f,Zaa,λk e x u=>?_⟩,by rw[f];simp;omega⟩,λa=>(bf _).2 ((bf _).2 ((bf _).2 ⟨λh=>?_,λh=>?_⟩))⟩;by_cases j:k=m;subst j;rw[C]at u;cases u;simpa using a;exact c k e Zaa u;simp only at h;simp[h]at a;simp[h.fI I m P _ B C]at a;intro h;have J:P.events.l.length<=m:=by simpa[len]using h
 refine(bf _).2 ((bf _).2 ⟨⟨I+1,cR I Zaa,Zaa,λp k Q e G U u=>?_⟩,by rw[cR I Zaa];simp;omega⟩);by_cases l:p=I;subst l;rw[B]at U;cases U;exact c k e (by have:=(ζe.1 u).1;omega) u;exact W p k Q e Zaa U u;intro h;have J:t.procs.l.length<=I:=by simpa[len]using h
 have W:∀(p k:Nat)P e,t.procs.l[p]?=some P->P.events.l[k]?=some e->pE t.procs.l.length P p k e=0:=λp k P e L c=>W p k P e (by have:=(ζe.1 L).1;omega) L c;have X:=GQ W;rw[bf];unfold dh.W4;refine fK (λi:Int=>∃n:Nat,i=n/\n<=t.procs.l.length/\∀(p k:Nat)e,p<n->mj t p k e->wP t (⟨p,k+1⟩,e)=0) (λi:Int=>t.procs.l.length-i.toNat) ⟨0,rfl,zero_le _,λp k e G=>absurd G Zaa⟩ ?_;rintro i ⟨q,rfl,N,Y⟩;unfold dh.L8;rw[b_];constructor;intro h;have w:q<t.procs.l.length:=by simpa[len]using h
 have D:=bG w;have B:=ζd w;have S:=(d.2 _ (getElem_mem w)).1;generalize t.procs.l[q]=P at D B S;unfold dh.W5;refine fK (λi:Int=>∃m:Nat,i=m/\m<=P.events.l.length/\∀(k:Nat)e,k<m->P.events.l[k]?=some e->wP t (⟨q,k+1⟩,e)=0) (λi:Int=>P.events.l.length-i.toNat) ⟨0,rfl,zero_le _,λk e c=>absurd c Zaa⟩ ?_;rintro i ⟨m,rfl,v,c⟩;unfold dh.zj;rw[D,ζb,b_];constructor;intro h;have T:m<P.events.l.length:=by simpa[len]using h
 have C:=ζd T;have f:=cR m Zaa;have z:mj t q m P.events.l[m]:=⟨P,B,C⟩;rw[f,show(((m+1:Nat)):Int)=(m:Int)+1 from Zab,PW d z (X (⟨q,m+1⟩,P.events.l[m]) (dQ.2 ⟨q,m,z,rfl⟩)),ζb,b_];refine⟨λa=>(bf _).2 ⟨⟨m+1,Zab,Zaa,λk e x u=>?_⟩,by simp;omega⟩,λa=>(bf _).2 ((bf _).2 ((bf _).2 ⟨λh=>?_,λh=>?_⟩))⟩;by_cases j:k=m;subst j;rw[C]at u;cases u;simpa using a;exact c k e Zaa u;simp only at h;simp[h]at a;simp[(Kj X).2 h.BM q m _ z]at a;intro h;have J:P.events.l.length<=m:=by simpa[len]using h
 refine(bf _).2 ((bf _).2 ⟨⟨q+1,cR q Zaa,Zaa,λp k e G z=>?_⟩,by rw[cR q Zaa];simp;omega⟩);by_cases l:p=q;subst l;obtain⟨Q,U,u⟩:=z;rw[B]at U;cases U;exact c k e (by have:=(ζe.1 u).1;omega) u;exact Y p k e Zaa z;intro h;have R:t.procs.l.length<=q:=by simpa[len]using h
 have L:zG t:=(Kj X).1 λp k e z=>Y p k e (by obtain⟨P,L,_⟩:=z;have:=(ζe.1 L).1;omega) z;have Z:¬L0 t↔Ok t:=⟨λh=>⟨g.1,g.2,λp G=>o p Zaa,W,L,h⟩,λh=>h.acyc⟩;rw[bf,ec];refine(MP d X L).mono λb y=>?_;rw[b_];exact⟨λh=>(bf _).2 ⟨λ_=>Z.1 (y h),λ_=>rfl⟩,λ_=>(Y2 d s X L).mono λr A=>A.trans Z⟩
theorem A3{t:Trace}(a:Small t)(B:(bO t).length<1073741824):∃b,cQ t=some b/\qG t=some b/\(b=true->VT t):=by obtain⟨b,u,c,w⟩:=JS a B;refine⟨b,u,?_,c⟩;unfold qG;obtain⟨r,d,z⟩:=P8 a B;rw[d,ζb];congr 1;rw[Bool.eq_iff_iff,beq_iff_eq,z];exact⟨w,λh=>(c h).ok⟩
theorem RU{t:Trace}(d:Small t){c:Sl Int}(D:c.l.length=t.procs.l.length){step:Int->Lk (Fw Int Unit Unit)}
 (Y:∀i,step i=bg (decide (i<(len c))) ((idx c i).bind λG=>(bg (decide (G<0)) (some true) ((idx c i).bind λJ=>(idx t.procs i).bind λU=>some (decide (J>(len U.events)))):Lk Bool).bind λW=>bg W (some (.r ())) (some (.n (wrap .i64 (i+1))))) (some (.x ()))):
 Wp ((bT step 0).bind (Fw.elim (λ_=>some true) (λ_=>some false))) λb=>(b=true↔qB t c.l):=by
 have f:=d.1;refine fK (λs:Int=>∃n:Nat,s=n/\n<=c.l.length/\∀(p:Nat)(a:Int)(P:bU),p<n->c.l[p]?=some a->t.procs.l[p]?=some P->0<=a/\a<=P.events.l.length) (λs:Int=>c.l.length-s.toNat) ⟨0,rfl,zero_le _,λp a P h=>absurd h Zaa⟩ ?_
 rintro s ⟨n,rfl,S,I⟩;rw[Y,b_];constructor
 .intro h;have w:n<c.l.length:=by simpa[len]using h
  have u:n<t.procs.l.length:=Zaa
  have L:=cR n Zaa
  rw[bG w,ζb,ζb,bG u,ζb,mm,ζb,b_];constructor
  .intro z;have z:c.l[n]<0\/c.l[n]>t.procs.l[n].events.l.length:=by simpa[len]using z
   refine(bf _).2 ((bf _).2 ⟨λh=>(by cases h),λO=>?_⟩)
   have:=O.2 n _ _ (ζd w) (ζd u);omega
  intro z;have z:0<=c.l[n]/\c.l[n]<=t.procs.l[n].events.l.length:=by simpa[len]using z
  refine(bf _).2 ⟨⟨n+1,L,Zaa,λp a P T B C=>?_⟩,by rw[L];simp;omega⟩
  by_cases e:p=n
  .subst e;rw[ζd w]at B;cases B;rw[ζd u]at C;cases C;exact z
  exact I p a P Zaa B C
 intro h;have Q:c.l.length<=n:=by simpa[len]using h
 refine(bf _).2 ((bf _).2 ⟨λ_=>⟨D,λp a P B C=>I p a P (by have:=(ζe.1 B).1;omega) B C⟩,λ_=>rfl⟩)
theorem WA{t:Trace}(a:Small t){c:Sl Int}(B:c.l.length=t.procs.l.length):Wp (mG t c) λb=>(b=true↔qB t c.l):=by unfold mG;rw[show(len c==len t.procs)=true from by simp[len,B],bF];exact RU a B λi=>rfl
theorem Gq{t:Trace}(a:VT t){A:cq 200 bD}(b:fR t (bO t) A){p k:Nat}{e:Event}(B:mj t p k e)(c:e.kind=3):gX t 2 e.message=(ag A e.message).from_:=by obtain⟨y,d,u,w⟩:=y_ a.formed a.ok.BM (dQ.2 ⟨p,k,B,rfl⟩:((⟨p,k+1⟩:aZ),e)∈bO t) c;have:=b.snd _ d u;simp only[w]at this;exact this.symm
theorem Lz(t:Trace)(kind m:Int):gX t kind m=⟨0,0⟩/\(∀x∈bO t,¬(x.2.kind=kind/\x.2.message=m))\/∃z,(gX t kind m,z)∈bO t/\z.kind=kind/\z.message=m:=by
 cases h:(bO t).find? (lK kind m)with|some x=>obtain⟨a1,a2,a3,a4⟩:=wH h;exact .inr ⟨x.2,by rw[a4];exact a1,a2,a3⟩|none=>
  rw[find?_eq_none]at h;have u:∀x∈bO t,¬(x.2.kind=kind/\x.2.message=m):=λx w=>by have:=h x w;simpa[lK]using this
  exact .inl ⟨Ox u,u⟩
theorem MA{t:Trace}(a:VT t){r s:aZ}{z e:Event}(b:(r,z)∈bO t)(D:z.kind=3)(B:(s,e)∈bO t)(G:e.kind=2)(J:e.message=z.message):e.peer=r.proc/\z.peer=s.proc:=by
 have h:=a.ok.BM.has _ b D;have L:0<=z.peer:=by rcases a.formed _ b with h|⟨_,h,_⟩;simp only at h;omega;exact h
 rw[show z.peer=((z.peer.toNat:Nat):Int)from Zaa,An]at h;obtain⟨k,y,w,c,C,I⟩:=h;have u:((⟨(z.peer.toNat:Nat),k+1⟩:aZ),y)∈bO t:=dQ.2 ⟨_,k,w,rfl⟩;have:=a.ok.BM.snd _ u _ B c G (by rw[J];exact C);simp only at this;subst this;cases zM u B rfl;exact⟨I,by simp only;omega⟩
def rq(t:Trace)(c:L' Int)(e:Event):Bool:=(gX t 3 e.message).index==0||decide ((gX t 3 e.message).index>(c[(gX t 3 e.message).proc.toNat]?).getD 0)
theorem AQ{α:Type}(f g:α->Bool):∀l:L' α,l.countP f=l.countP (λx=>f x&&g x)+l.countP (λx=>f x&& !g x)
 |[]=>rfl|x::l=>by simp only[countP_cons,AQ f g l];cases f x<;>cases g x<;>simp<;>omega
theorem u7{α:Type}{f:α->Bool}{l:L' α}{n k:Nat}:k∈places f (l.take n)↔k<n/\∃x,l[k]?=some x/\f x=true:=by rw[NH];simp only[getElem?_take];constructor;rintro⟨x,a,u⟩;split at a;exact⟨‹_›,x,a,u⟩;cases a;rintro⟨h,x,a,u⟩;exact⟨x,by rw[if_pos h];exact a,u⟩
theorem Wk{t:Trace}(i:VT t){A:cq 200 bD}(hM:fR t (bO t) A){c:L' Int}(E:Cons t A c){p q:Nat}{P Q:bU}{a b:Int}(J:t.procs.l[p]?=some P)(D:t.procs.l[q]?=some Q)(N:c[p]?=some a)(s:c[q]?=some b):
 (Q.events.l.take b.toNat).countP (zi p)=(P.events.l.take a.toNat).countP λe=>gy q e&& !rq t c e:=by
 have f:∀{p:Nat}{P:bU}{k:Nat}{e:Event},t.procs.l[p]?=some P->P.events.l[k]?=some e->((⟨p,k+1⟩:aZ),e)∈bO t:=λJ g=>dQ.2 ⟨_,_,⟨_,J,g⟩,rfl⟩
 have a0:=(E.1.2 p a P N J).1;have b0:=(E.1.2 q b Q s D).1;have r1:∀k,k∈places (zi p) (Q.events.l.take b.toNat)->∃(z:Event)(j:Nat)(e:Event),Q.events.l[k]?=some z/\z.kind=3/\P.events.l[j]?=some e/\e.kind=2/\e.peer=q/\e.message=z.message/\gX t 2 z.message=⟨p,j+1⟩/\(j:Int)+1<=a/\(k:Int)+1<=b:=λk g=>by
  obtain⟨ai,z,d,u⟩:=u7.1 g;have u:z.kind=3/\z.peer=p:=by simpa[zi]using u
  have R:=f D d;obtain⟨e,e1,e2,e3⟩:=y_ i.formed i.ok.BM R u.1;obtain⟨l,m⟩:=MA i R u.1 e1 e2 e3;obtain⟨p',j,⟨P',Z,n⟩,G⟩:=dQ.1 e1;simp only at l G n;rw[G]at m;have ab:p'=p:=by simp only at m;omega
  subst ab;rw[J]at Z;cases Z;obtain⟨x,C,I⟩:=E.2 q k z b ⟨Q,D,d⟩ s Zaa u.1;rw[<-Gq i hM ⟨Q,D,d⟩ u.1,G]at C I;simp only[toNat_natCast]at C I;rw[N]at C;cases C;exact⟨z,j,e,d,u.1,n,e2,l,e3,G,I,Zaa⟩
 have F:∀k,k∈places (λe=>gy q e&& !rq t c e) (P.events.l.take a.toNat)->∃(e:Event)(j:Nat)(z:Event),P.events.l[k]?=some e/\e.kind=2/\Q.events.l[j]?=some z/\z.kind=3/\z.peer=p/\z.message=e.message/\gX t 3 e.message=⟨q,j+1⟩/\(j:Int)+1<=b:=λk g=>by
  obtain⟨aj,e,d,u⟩:=u7.1 g;simp only[ζh,not_eq_true',rq,or_eq_false_iff,gy,beq_iff_eq,beq_eq_false_iff_ne,decide_eq_false_iff_not]at u;obtain⟨⟨g1,g2⟩,g3,g4⟩:=u;rcases Lz t 3 e.message with⟨h,_⟩|⟨z,v,y,z3⟩;rw[h]at g3;exact absurd rfl g3;obtain⟨l,m⟩:=MA i v y (f J d) g1 z3.symm;obtain⟨q',j,⟨Q',V,n⟩,G⟩:=dQ.1 v;simp only at G n l m;rw[G]at l g4;have ad:q'=q:=by simp only at l;omega
  subst ad;rw[D]at V;cases V;simp only[toNat_natCast,s,getD_some]at g4;exact⟨e,j,z,d,g1,n,y,m,z3,G,Zaa⟩
 apply Nat.le_antisymm
 .refine Gt (λk=>match Q.events.l[k]?with|some z=>((gX t 2 z.message).index-1).toNat|none=>0) (λk g=>?_) λk H g L K=>?_
  .obtain⟨z,j,e,d,u,O,o,r,S,T,h8,h9⟩:=r1 k g;rw[d];simp only[T];rw[show((j:Int)+1-1).toNat=j from Zaa]
   refine u7.2 ⟨Zaa,e,O,?_⟩
   have ae:gX t 3 e.message=⟨q,k+1⟩:=by rcases Lz t 3 e.message with⟨_,h⟩|⟨z',v,y,z3⟩;exact absurd ⟨u,S.symm⟩ (h _ (f D d));exact i.ok.BM.rcv _ v _ (f D d) y u (by rw[z3,S])
   simp only[rq,ae,gy,o,r,toNat_natCast,s,getD_some];simp;omega
  obtain⟨z,j,e,d,u,O,o,r,S,T,_⟩:=r1 k g;obtain⟨z',M,e',w,U,B,af,ah,W,X,_⟩:=r1 H L;simp only[d,w,T,X]at K;have Y:j=M:=Zaa
  subst Y;rw[O]at B;cases B;have:=i.ok.BM.rcv _ (f D d) _ (f D w) u U (by rw[<-S,W])
  simp only[aZ.mk.injEq]at this;omega
 refine Gt (λk=>match P.events.l[k]?with|some e=>((gX t 3 e.message).index-1).toNat|none=>0) (λk g=>?_) λk H g L K=>?_
 .obtain⟨e,j,z,d,u,O,o,r,S,T,h8⟩:=F k g;rw[d];simp only[T];rw[show((j:Int)+1-1).toNat=j from Zaa]
  exact u7.2 ⟨Zaa,z,O,by simp[zi,o,r]⟩
 obtain⟨e,j,z,d,u,O,o,r,S,T,_⟩:=F k g;obtain⟨e',M,z',w,U,B,af,ah,W,X,_⟩:=F H L;simp only[d,w,T,X]at K;have Y:j=M:=Zaa
 subst Y;rw[O]at B;cases B;have:=i.ok.BM.snd _ (f J d) _ (f J w) u U (by rw[<-S,W])
 simp only[aZ.mk.injEq]at this;omega
theorem GM{t:Trace}(d:VT t){A:cq 200 bD}(f:fR t (bO t) A){c:L' Int}(g:Cons t A c){p q:Nat}{P Q:bU}{a b:Int}(B:t.procs.l[p]?=some P)(D:t.procs.l[q]?=some Q)(G:c[p]?=some a)(J:c[q]?=some b):
 under t c p q=((P.events.l.take a.toNat).countP λe=>gy q e&&rq t c e:Nat):=by
 unfold under;rw[B,D,G,J];dsimp only;rw[Wk d f g B D G J,AQ (gy q) (rq t c)];omega
theorem fH{σ ε ρ γ:Type}{step:σ->Lk (Fw σ ε ρ)}{B:ε->Lk γ}{fr:ρ->Lk γ}{P:γ->Prop}(n:Nat)(I:Nat->σ->Prop){s:σ}(c:I 0 s)
 (h:∀i s,i<n->I i s->Wp (step s) λw=>match w with|.n D=>I (i+1) D|.x e=>Wp (B e) P|.r b=>Wp (fr b) P)
 (G:∀s,I n s->Wp (step s) λw=>match w with|.n _=>False|.x e=>Wp (B e) P|.r b=>Wp (fr b) P):Wp ((bT step s).bind (Fw.elim B fr)) P:=by
 have key:∀m i s,i+m=n->I i s->Wp ((bT step s).bind (Fw.elim B fr)) P:=by
  intro m
  induction m with
  |zero=>intro i s hi z;obtain⟨w,u,a⟩:=G s Zac;rw[eB,u];cases w with|n D=>grind|x e=>exact a|r b=>exact a
  |succ m C=>intro i s hi z;obtain⟨w,u,a⟩:=h i s Zaa z;rw[eB,u];cases w with|n D=>grind|x e=>exact a|r b=>exact a
 exact key n 0 s (Nat.zero_add n) c
def bump(c:L' Int)(p:Nat)(d:Int):L' Int:=c.set p ((c[p]?).getD 0+d)
theorem uS:∀{c:L' Int}{p:Nat}{a b:Int},c[p]?=some a->(c.set p b).sum=c.sum-a+b
 |[],_,_,_,h=>by simp_all|x::c,0,a,b,h=>Zac|x::c,p+1,a,b,h=>by have:=uS (b:=b) (by simpa using h);grind
theorem rK:∀{c:L' Int},(∀(p:Nat)a,c[p]?=some a->0<=a)->0<=c.sum
 |[],_=>Zab|x::c,h=>by have b:=h 0 x rfl;have u:=rK (c:=c) λp a w=>h (p+1) a Zac;grind
theorem I7:∀{c:L' Int},(∀(p:Nat)a,c[p]?=some a->0<=a)->c.sum=0->∀(p:Nat)a,c[p]?=some a->a=0
 |[],_,_,p,a,B=>by simp_all|x::c,h,D,p,a,B=>by have d:=h 0 x rfl;have b:∀(p:Nat)a,c[p]?=some a->0<=a:=λp a B=>h (p+1) a Zac;have u:=rK b;simp at D;cases p with|zero=>grind|succ p=>exact I7 b Zaa p a Zac
theorem LM:∀{c:L' Int}{l:L' Nat},c.length=l.length->(∀(i:Nat)a b,c[i]?=some a->l[i]?=some b->a<=(b:Nat))->c.sum<=(l.sum:Nat)
 |[],[],_,_=>Zab|x::c,y::l,B,h=>by have d:=h 0 x y rfl rfl;have u:=LM (c:=c) (l:=l) Zac λi a b w z=>h (i+1) a b Zac Zac;grind
section
variable{t:Trace}{A:cq 200 bD}{c:L' Int}
theorem qB.pos(h:qB t c)(p:Nat)(a:Int)(B:c[p]?=some a):0<=a:=(h.2 p a _ B (ζd (by have:=(ζe.1 B).1;rw[<-h.1];simp_all))).1
theorem qB.at_(h:qB t c){p:Nat}(hp:p<t.procs.l.length):∃a,c[p]?=some a:=⟨_,ζd (by rw[h.1];omega)⟩
theorem qB.sum(h:qB t c):0<=c.sum/\c.sum<=(sU t:Nat):=
 ⟨rK h.pos,LM (by simp[h.1]) λi a b z u=>by
  cases w:t.procs.l[i]?with
  |none=>grind|some P=>simp[w]at u;rw[<-u];exact(h.2 i a P z w).2⟩
theorem qB.set(h:qB t c){p:Nat}{b:Int}{P:bU}(B:t.procs.l[p]?=some P)(d:0<=b)(e:b<=P.events.l.length):qB t (c.set p b):=by refine⟨by simp[h.1],λq a Q u w=>?_⟩;rw[getElem?_set]at u;split at u;grind;exact h.2 q a Q u w
def TI(t:Trace)(A:cq 200 bD)(c:L' Int)(p:Nat):Prop:=∃P e a,t.procs.l[p]?=some P/\c[p]?=some a/\P.events.l[a.toNat]?=some e/\(e.kind=3->∃b,c[(ag A e.message).from_.proc.toNat]?=some b/\(ag A e.message).from_.index<=b)
theorem mj.one{p k:Nat}{e f:Event}(h:mj t p k e)(g:mj t p k f):e=f:=by obtain⟨P,a1,a2⟩:=h;obtain⟨Q,u,w⟩:=g;grind
theorem nJ.le(h:nJ t A c){p:Nat}{a b:Int}(G:c[p]?=some a)(J:a<=b)(U:∀(k:Nat)e,mj t p k e->a<=k->(k:Int)<b->e.kind=3->∃B,(c.set p b)[(ag A e.message).from_.proc.toNat]?=some B/\(ag A e.message).from_.index<=B):nJ t A (c.set p b):=by
 have L:=(ζe.1 G).1;have up:∀(q:Nat)x,c[q]?=some x->∃y,(c.set p b)[q]?=some y/\x<=y:=λq x u=>by rw[getElem?_set];grind
 intro q k e x w u d I;rw[getElem?_set]at u;have C:∀x,c[q]?=some x->k<x->∃B,(c.set p b)[(ag A e.message).from_.proc.toNat]?=some B/\(ag A e.message).from_.index<=B:=λx u d=>by obtain⟨y,O,Q⟩:=h q k e x w u d I;obtain⟨z,S,T⟩:=up _ y O;exact⟨z,S,Zaa⟩
 split at u;rename_i W;subst W;simp[L]at u;subst u;by_cases D:k<a;exact C a G D;exact U k e w Zaa d I;grind
theorem z6(a:VT t)(b:fR t (bO t) A){p k:Nat}{e:Event}(B:mj t p k e)(D:e.kind=3):∃q j:Nat,(ag A e.message).from_=⟨q,j+1⟩/\q≠p/\IX t ⟨q,j+1⟩ ⟨p,k+1⟩/\∃y,mj t q j y:=by obtain⟨q,j,y,u,z,C,y3,y4,y5⟩:=Dg a b B D;have w:(⟨p,k+1⟩,e)∈bO t:=dQ.2 ⟨p,k,B,rfl⟩;refine⟨q,j,y5,?_,⟨y,e,dQ.2 ⟨q,j,u,rfl⟩,w,z,D,C⟩,y,u⟩;rcases a.formed _ w with h|⟨_,_,_,h,_⟩;grind;grind
theorem Cons.up(g:VT t)(i:fR t (bO t) A)(d:Cons t A c){p:Nat}{a:Int}{P:bU}(B:t.procs.l[p]?=some P)(D:c[p]?=some a)(U:a<P.events.l.length):TI t A c p↔Cons t A (c.set p (a+1)):=by have l:=d.1.pos p a D;have W:=(ζe.1 D).1;constructor;rintro⟨Q,e,x,G,I,L,w⟩;rw[B]at G;cases G;rw[D]at I;cases I;refine⟨d.1.set B Zaa Zaa,d.2.le D Zaa λk f z O S X=>?_⟩;have C:k=a.toNat:=Zaa;subst C;cases z.one ⟨P,B,L⟩;grind;intro h;have u:a.toNat<P.events.l.length:=Zaa;refine⟨P,P.events.l[a.toNat],a,B,D,ζd u,λw=>?_⟩;obtain⟨b,J,T⟩:=h.2 p a.toNat _ (a+1) ⟨P,B,ζd u⟩ (by simp_all) Zaa w;rw[getElem?_set]at J;split at J;obtain⟨q,j,m,n,_⟩:=z6 g i ⟨P,B,ζd u⟩ w;grind;grind
noncomputable def IL (t:Trace) (x:aZ):Nat:=by
 classical
 exact(bO t).countP λz=>decide (Way t z.1 x)
theorem My (hV:VT t) {x y:aZ} (h:Way t x y):IL t x<IL t y:=by
 classical
 refine Br (λz _ u=>?_) ?_
 .have u:Way t z.1 x:=by grind
  simpa using u.trans h
 obtain⟨e,w⟩:=h.l;exact⟨(x,e),w,by simpa using λk=>hV.ok.acyc ⟨x,k⟩,by grind⟩
theorem VV (x:aZ):IL t x<=(bO t).length:=by
 classical
 unfold IL;grind
theorem Vd.of{p k:Nat}{e:Event}(h:mj t p k e):Vd t ⟨p,k+1⟩:=⟨e,dQ.2 ⟨p,k,h,rfl⟩⟩
theorem JW{p:Nat}{P:bU}(B:t.procs.l[p]?=some P):∀(d k:Nat),k+d+1<P.events.l.length->Way t ⟨p,k+1⟩ ⟨p,((k+d+1:Nat):Int)+1⟩
 |0,k,h=>.single ⟨Vd.of ⟨P,B,ζd Zaa⟩,Vd.of ⟨P,B,ζd h⟩,.inl Zab⟩|d+1,k,h=>(JW B d k Zaa).tail ⟨Vd.of ⟨P,B,ζd (show k+d+1<_ by omega)⟩,Vd.of ⟨P,B,ζd h⟩,.inl (by simp;omega)⟩
theorem Yi{q k:Nat}{b:Int}{Q:bU}{x:aZ}(B:t.procs.l[q]?=some Q)(h:Way t x ⟨q,k+1⟩)(a:(k:Int)<b)(D:b<=Q.events.l.length):Way t x ⟨q,b⟩:=by by_cases e:b=k+1;grind;have:=JW B (b.toNat-k-2) k Zaa;rw[show((k+(b.toNat-k-2)+1:Nat)+1)=b from Zaa]at this;exact h.trans this
theorem Cons.Mf(f:VT t)(g:fR t (bO t) A)(d:Cons t A c){p:Nat}{a:Int}(D:c[p]?=some a)(m:0<a):Cons t A (c.set p (a-1))\/∃(q:Nat)(b:Int),c[q]?=some b/\0<b/\Way t ⟨p,a⟩ ⟨q,b⟩:=by
 have Y:=(ζe.1 D).1;have L:=ζd (show p<t.procs.l.length by rw[<-d.1.1];omega);have n:=d.1.2 p a _ D L;refine byContradiction λB=>B (.inl ⟨d.1.set L Zaa Zaa,λq k e x u I o O=>?_⟩);obtain⟨z,w,Z⟩:∃z,c[q]?=some z/\x<=z:=by
  rw[getElem?_set]at I;split at I;next e2=>subst e2;simp[Y]at I;exact⟨a,D,Zaa⟩
  grind
 obtain⟨y,G,C⟩:=d.2 q k e z u w Zaa O;obtain⟨r,j,h,s,i,_⟩:=z6 f g u O;rw[h]at G C⊢;simp only[toNat_natCast]at G C⊢;by_cases e2:p=r;subst e2;rw[D]at G;cases G;refine⟨a-1,by simp_all,?_⟩;refine byContradiction λv=>B (.inr ⟨q,z,w,Zaa,?_⟩);have:a=j+1:=Zaa;subst this;obtain⟨Q,S,_⟩:=u;have J:=d.1.2 q z Q w S;obtain⟨T,U,W,X,l⟩:=i;exact Yi S (.single ⟨⟨T,W⟩,⟨U,X⟩,.inr ⟨T,U,W,X,l⟩⟩) Zaa J.2;simp_all
theorem Cons.YX(d:VT t)(f:fR t (bO t) A)(g:Cons t A c):∀(n p:Nat)(a:Int),c[p]?=some a->0<a->(bO t).length-IL t ⟨p,a⟩<=n->∃(q:Nat)(b:Int),c[q]?=some b/\0<b/\Cons t A (c.set q (b-1)):=by
 intro n
 induction n with
 |zero=>intro p a u e B;rcases g.Mf d f u e with h|⟨q,b,_,_,w⟩;grind;have:=My d w;have:=VV (t:=t) ⟨q,b⟩;omega
 |succ n C=>intro p a u e B;rcases g.Mf d f u e with h|⟨q,b,D,z,w⟩;grind;have:=My d w;exact C q b D z Zaa
theorem Cons.down(e:VT t)(f:fR t (bO t) A)(d:Cons t A c)(B:0<c.sum):∃(q:Nat)(b:Int),c[q]?=some b/\0<b/\Cons t A (c.set q (b-1)):=by
 obtain⟨p,a,u,g⟩:∃(p:Nat)(a:Int),c[p]?=some a/\0<a:=by
  refine byContradiction λw=>?_;have C:∀a∈c,a=0:=λa u=>by obtain⟨p,z⟩:=List.mem_iff_getElem?.1 u;have:=d.1.pos p a z;grind
  have:c.sum=0:=by clear d B w;induction c with|nil=>rfl|cons x c D=>simp_all
  omega
 exact d.YX e f _ p a u g (le_refl _)
theorem Cons.Hu(a:VT t)(e:fR t (bO t) A):∀(d:Nat){c:L' Int}{k:Nat},Cons t A c->c.sum=((k+d:Nat):Int)->∃c',Cons t A c'/\c'.sum=(k:Int)
 |0,c,k,hC,D=>⟨c,hC,Zac⟩|d+1,c,k,hC,D=>by obtain⟨q,b,G,J,B⟩:=hC.down a e Zaa;exact Cons.Hu a e d B (by rw[uS G];omega)
end
theorem jP{α:Type}{s:Sl α}{n:Nat}(h:n<s.l.length):decide ((n:Int)<len s)=true:=by simp[len];omega
theorem jQ{α:Type}{s:Sl α}:decide ((s.l.length:Int)<len s)=false:=by simp[len]
theorem Cn{α:Type}{s x:Sl α}(h:s.l.length+x.l.length<=2147483648):∃r,oc s x=some r/\r.l=s.l++x.l:=by unfold oc;by_cases e:x.l=[];rw[if_pos e];exact⟨s,rfl,by rw[e,List.append_nil]⟩;rw[if_neg e,if_pos h];exact⟨_,rfl,rfl⟩
theorem nH{α:Type}{s:Sl α}{x:α}(h:s.l.length<2147483648):∃r,ga s x=some r/\r.l=s.l++[x]:=by unfold ga;rw[if_pos Zaa];exact⟨_,rfl,rfl⟩
theorem xz{α:Type}{s:Sl α}{p:Nat}(h:p<s.l.length):Sl.kS s (p:Int)=some p:=by unfold Sl.kS;rw[if_pos ⟨Zaa,by simpa using h⟩];rfl
theorem put_eq{α:Type}{s:Sl α}{p:Nat}{x:α}(h:p<s.l.length):∃r,Sl.put s p x=some r/\r.l=s.l.set p x:=by unfold Sl.put;rw[if_pos h];exact⟨_,rfl,by cases s<;>first|rfl|(simp[Sl.l]at h)⟩
section
variable{t:Trace}{A:cq 200 bD}
def ClN(t:Trace)(A:cq 200 bD)(c:L' Int)(n:Nat):Prop:=∀(p k:Nat)(e:Event)(a:Int),p<n->mj t p k e->c[p]?=some a->(k:Int)<a->e.kind=3->∃b,c[(ag A e.message).from_.proc.toNat]?=some b/\(ag A e.message).from_.index<=b
theorem X8(i:Small t)(d:VT t)(l:fR t (bO t) A){c:Sl Int}(Y:qB t c.l):Wp (dU t c) λb=>(b=true↔nJ t A c.l):=by
 have F:=Y.1;have H:=d.few;unfold dU dU.W1;refine fH c.l.length (λn s=>s=(n:Int)/\ClN t A c.l n) ⟨rfl,λp k e a h=>absurd h Zaa⟩ ?_ ?_;rintro n _ B ⟨rfl,T⟩;unfold dU.bp;rw[jP B,bF];have z:n<t.procs.l.length:=by omega
 have K:=(i.2 _ (getElem_mem z)).1;have C:=ζd z;have D:=ζd B;obtain⟨r1,r2⟩:=Y.2 n _ _ D C;have J:=bG B;generalize c.l[n]=a at *;generalize t.procs.l[n]=P at *;unfold dU.W2;refine fH a.toNat (λm s=>s=(m:Int)/\∀(k:Nat)(e:Event),k<m->mj t n k e->e.kind=3->∃b,c.l[(ag A e.message).from_.proc.toNat]?=some b/\(ag A e.message).from_.index<=b) ⟨rfl,λk e h=>absurd h Zaa⟩ ?_ ?_;rintro m _ M ⟨rfl,U⟩;unfold dU.bV;have L:m<P.events.l.length:=by omega
 have u:mj t n m P.events.l[m]:=⟨P,C,ζd L⟩;rw[J,ζb,show decide ((m:Int)<a)=true from by simp;omega,bF,kJ,C,ζb,bG L,ζb,cR m Zaa];generalize P.events.l[m]=e at *;have more:(e.kind=3->∃b,c.l[(ag A e.message).from_.proc.toNat]?=some b/\(ag A e.message).from_.index<=b)->∀(k:Nat)(e:Event),k<m+1->mj t n k e->e.kind=3->∃b,c.l[(ag A e.message).from_.proc.toNat]?=some b/\(ag A e.message).from_.index<=b:=λh k f o Z w=>by by_cases r:k=m;subst r;cases u.one Z;exact h w;exact U k f Zaa Z w
 rw[b_];refine⟨λw=>?_,λw=>(bf _).2 ⟨rfl,more λk=>by simp[k]at w⟩⟩;have w:e.kind=3:=by simpa using w
 obtain⟨q,j,g,_,_,y,Q,v,_⟩:=z6 d l u w;have G:q<c.l.length:=by have:=(ζe.1 v).1;omega
 rw[find_eq i,Gq d l u w,ζb,g];simp only;rw[bG G,ζb,b_];refine⟨λW=>(bf _).2 ((bf _).2 ((bf _).2 ⟨λh=>(by cases h),λE=>?_⟩)),λX=>(bf _).2 ⟨rfl,more λ_=>?_⟩⟩;obtain⟨b,O,S⟩:=E n m e a u D Zaa w;rw[g]at O S;simp only[toNat_natCast,ζd G,ζa]at O S;simp only[decide_eq_true_eq]at W;omega;rw[g];exact⟨c.l[q],by simp only[toNat_natCast];exact ζd G,by simp at X⊢;omega⟩;rintro _ ⟨rfl,U⟩;unfold dU.bV;rw[J,ζb,show decide ((a.toNat:Int)<a)=false from by simp;omega,bE];refine(bf _).2 ((bf _).2 ⟨cR n Zaa,λp k e x hp u I o w=>?_⟩);by_cases e2:p=n;subst e2;rw[D]at I;cases I;exact U k e Zaa u w;exact T p k e x Zaa u I o w;rintro _ ⟨rfl,T⟩;unfold dU.bp;rw[jQ,bE];exact(bf _).2 ((bf _).2 ⟨λ_ p k e a u I=>T p k e a (ζe.1 I).1 u I,λ_=>rfl⟩)
theorem Ub(a:Small t)(d:VT t)(e:fR t (bO t) A){c:Sl Int}(B:c.l.length=t.procs.l.length):Wp (pq t c) λb=>(b=true↔Cons t A c.l):=by unfold pq;rw[ec];refine(WA a B).mono λb w=>?_;rw[ec,b_];constructor;intro h;have z:=w.1 h;rw[ec];refine(X8 a d e z).mono λC u=>?_;rw[bf,bf];exact u.trans ⟨λh=>⟨z,h⟩,λh=>h.2⟩;intro h;rw[bf,bf];exact⟨λh=>(by cases h),λf=>absurd (w.2 f.1) (by simp[h])⟩
theorem step_eq{c:Sl Int}{p:Nat}{a:Int}(B:c.l[p]?=some a)(G:c.l.length<=1073741824)(b:0<=a)(e:a<1073741824):∃d:Sl Int,si c p=some d/\d.l=c.l.set p (a+1):=by have w:=(ζe.1 B).1;unfold si;obtain⟨r,z,u⟩:=Cn (s:=Sl.row []) (x:=c) (show 0+c.l.length<=_ by omega);have u:r.l=c.l:=u;rw[z,ζb,xz (by rw[u];exact w),ζb];unfold Sl.get;rw[u,B,ζb,ζb,eF _ Zaa Zaa];obtain⟨d,C,D⟩:=put_eq (s:=r) (p:=p) (x:=a+1) (by rw[u];exact w);rw[C];exact⟨d,rfl,by rw[D,u]⟩
end
def ins(s:Sl (Sl Int)):L' (L' Int):=s.l.map Sl.l
theorem C3{α:Type}(s:Sl α)(i:Nat)(h:i<=s.l.length):∃x,gj s (some (i:Int)) none=some x/\x.l=s.l.drop i:=by unfold gj dX;simp only[getD_some,Option.getD_none];rw[if_pos ⟨Zaa,Zaa,Zaa⟩];exact⟨_,rfl,by cases s<;>simp[Sl.l]⟩
def Dh(t:Trace)(A:cq 200 bD)(c d:L' Int):Prop:=∃(p:Nat)(a:Int),c[p]?=some a/\d=c.set p (a+1)/\Cons t A d
section
variable{t:Trace}{A:cq 200 bD}
theorem pY{s:Sl (Sl Int)}{d:L' Int}:d∈ins s↔∃x∈s.l,x.l=d:=by unfold ins;exact mem_map
theorem LP{r s:Sl (Sl Int)}{x:Sl Int}(h:r.l=s.l++[x]){d:L' Int}:d∈ins r↔d∈ins s\/d=x.l:=by unfold ins;rw[h];simp
theorem V0(f:Small t)(g:VT t)(j:fR t (bO t) A){c:Sl Int}(i:Cons t A c.l):Wp (jt t c) λr=>r.l.length<=8/\∀d,d∈ins r↔Dh t A c.l d:=by
 have J:=i.1.1;have T:=g.few;unfold jt jt.W1;refine fH c.l.length (λn s=>s.2=(n:Int)/\s.1.l.length<=n/\∀d,d∈ins s.1↔∃(p:Nat)(a:Int),p<n/\c.l[p]?=some a/\d=c.l.set p (a+1)/\Cons t A d) ⟨rfl,le_refl _,λd=>⟨λh=>by simp[ins,Sl.l]at h,λ⟨p,a,h,_⟩=>absurd h Zaa⟩⟩ ?_ ?_;rintro n ⟨out,_⟩ B ⟨h,u,G⟩;simp only at h u G;subst h;have w:n<t.procs.l.length:=by omega
 have U:=(f.2 _ (getElem_mem w)).1;have z:=ζd B;have l:=i.1.2 n _ _ z (ζd w);unfold jt.bp;rw[jP B,bF,bG B,ζb,bG w,ζb,cR n Zaa];generalize c.l[n]=a at *;have keep:¬Cons t A (c.l.set n (a+1))->∀d,d∈ins out↔∃(p:Nat)(a:Int),p<n+1/\c.l[p]?=some a/\d=c.l.set p (a+1)/\Cons t A d:=λL d=>by rw[G];refine⟨λ⟨p,b,h,k⟩=>⟨p,b,Zaa,k⟩,λ⟨p,b,h,k1,k2,k3⟩=>⟨p,b,?_,k1,k2,k3⟩⟩;refine byContradiction λX=>L ?_;have:p=n:=Zaa;subst this;rw[z]at k1;cases k1;rw[<-k2];exact k3
 by_cases C:a<t.procs.l[n].events.l.length;obtain⟨d,hd,D⟩:=step_eq (c:=c) z Zaa l.1 Zaa;rw[show decide (a<(len t.procs.l[n].events))=true from by simpa[len]using C,bF,hd,ζb,ec,ec];refine(Ub f g j (c:=d) (by rw[D,length_set];exact J)).mono λb O=>?_;rw[D]at O;rw[bf,b_];constructor;intro W;obtain⟨r,Q,I⟩:=nH (s:=out) (x:=d) Zaa;rw[ζb,Q,ζb,bf];refine⟨rfl,by rw[I];simp;omega,λe=>?_⟩;rw[LP I,G,D];constructor;rintro(⟨p,b,h,k⟩|h);exact⟨p,b,Zaa,k⟩;exact⟨n,a,Zaa,z,h,by rw[h];exact O.1 W⟩;rintro⟨p,b,h,k1,k2,k3⟩;by_cases e2:p=n;subst e2;rw[z]at k1;cases k1;exact .inr k2;exact .inl ⟨p,b,Zaa,k1,k2,k3⟩;intro S;exact(bf _).2 ⟨rfl,Nat.le_succ_of_le u,keep λh=>by rw[O.2 h]at S;cases S⟩;rw[show decide (a<(len t.procs.l[n].events))=false from by simpa[len]using C,bE,ζb,bE,bf];refine⟨rfl,Nat.le_succ_of_le u,keep λh=>?_⟩;have:=h.1.2 n (a+1) _ (by simp[getElem?_set,B]) (ζd w);omega;rintro⟨out,_⟩ ⟨h,u,G⟩;simp only at h u G;subst h;unfold jt.bp;rw[jQ,bE,bf];refine(bf _).2 ⟨show out.l.length<=8 by omega,λd=>(G d).trans ⟨λ⟨p,a,_,h⟩=>⟨p,a,h⟩,λ⟨p,a,h⟩=>⟨p,a,(ζe.1 h.1).1,h⟩⟩⟩
def AB(t:Trace)(A:cq 200 bD)(k:Nat)(s:Sl (Sl Int)):Prop:=∀d,d∈ins s↔Cons t A d/\d.sum=(k:Int)
theorem Dh.iff(g:VT t)(h:fR t (bO t) A){k:Nat}{d:L' Int}:(∃c,(Cons t A c/\c.sum=(k:Int))/\Dh t A c d)↔Cons t A d/\d.sum=((k+1:Nat):Int):=by
 constructor;rintro⟨c,⟨f,B⟩,p,a,C,rfl,u⟩;exact⟨u,by rw[uS C];omega⟩;rintro⟨u,B⟩;obtain⟨q,b,w,D,f⟩:=u.down g h Zaa;have z:=(ζe.1 w).1;refine⟨_,⟨f,by rw[uS w];omega⟩,q,b-1,by simp[z],?_,u⟩;rw[List.set_set,show b-1+1=b from Zaa];refine ext_getElem? λi=>?_;rw[getElem?_set];split;next e=>subst e;simp[z,w];exact(ζe.1 w).2.symm▸rfl
 rfl
theorem xF{s:Sl (Sl Int)}{n:Nat}(h:n<s.l.length){d:L' Int}:d∈(s.l.take (n+1)).map Sl.l↔d∈(s.l.take n).map Sl.l\/d=s.l[n].l:=by rw[show s.l.take (n+1)=s.l.take n++[s.l[n]]from by rw[take_add_one,ζd h];rfl];simp only[map_append,mem_append,map_cons,map_nil,mem_singleton]
theorem Mb:∀n:Nat,(replicate n (0:Int)).sum=0
 |0=>rfl|n+1=>by rw[List.replicate_succ,sum_cons,Mb n];rfl
theorem N1:Cons t A (replicate t.procs.l.length 0):=by
 have w:∀(p:Nat)a,(replicate t.procs.l.length (0:Int))[p]?=some a->a=0:=λp a h=>by rw[getElem?_replicate]at h;split at h<;>cases h;rfl
 exact⟨⟨Zab,λp a P u _=>by rw[w p a u];omega⟩,λp k e a _ u b=>by rw[w p a u]at b;omega⟩
theorem SO{z:Sl Int}(B:z.l=replicate t.procs.l.length 0):AB t A 0 (Sl.row [z]):=by
 intro d;have:d∈ins (Sl.row [z])↔d=replicate t.procs.l.length 0:=by unfold ins;rw[<-B];exact mem_singleton
 rw[this];constructor;rintro rfl;exact⟨N1,by rw[Mb];rfl⟩;rintro⟨a,u⟩;refine ext_getElem? λi=>?_;rw[getElem?_replicate,<-a.1.1];split;next hi=>have h:=ζd hi;rw[h,I7 a.1.pos (by simpa using u) i _ h]
 exact getElem?_eq_none Zaa
theorem AB.none(a:VT t)(b:fR t (bO t) A){k:Nat}{s:Sl (Sl Int)}(h:AB t A k s)(D:s.l.length=0){d:L' Int}(B:Cons t A d):d.sum<(k:Int):=by refine byContradiction λu=>?_;have f:=rK B.1.pos;obtain⟨c,e,w⟩:=Cons.Hu a b (d.sum.toNat-k) (k:=k) B Zaa;have:=(h c).2 ⟨e,w⟩;obtain⟨x,z,_⟩:=pY.1 this;have:=List.length_pos_of_mem z;omega
theorem AB.last{s:Sl (Sl Int)}(h:AB t A (sU t+1) s):s.l.length=0:=by refine byContradiction λu=>?_;have w:=getElem_mem (show 0<s.l.length by omega);have:=(h s.l[0].l).1 (pY.2 ⟨_,w,rfl⟩);have:=this.1.1.sum;omega
theorem DW{α:Type}(s:Sl α):decide ((len s)>0)= !decide (s.l.length=0):=by by_cases h:s.l.length=0;simp[len,h];simp[h,len];omega
end
def fL:L' Int->L' Int->Int
 |[],[]=>0|[],_::_=>-1|_::_,[]=>1|x::a,y::b=>if x<y then -1 else if x>y then 1 else fL a b
theorem xY:∀a,fL a a=0
 |[]=>rfl|x::a=>by simp[fL,xY a]
theorem Ca:∀a b c,fL a b<0->fL b c<0->fL a c<0
 |[],[],_,h,_=>by simp[fL]at h|[],_::_,[],_,h=>by simp[fL]at h|[],_::_,_::_,_,_=>by simp[fL]|_::_,[],_,h,_=>by simp[fL]at h|_::_,_::_,[],_,h=>by simp[fL]at h|x::a,y::b,z::c,h1,B=>by have D:=Ca a b c;simp only[fL]at h1 B⊢;split at h1;split at B;rw[if_pos Zaa];omega;split at B;omega;rw[if_pos Zaa];omega;split at h1;omega;split at B;rw[if_pos Zaa];omega;split at B;omega;rw[if_neg Zaa,if_neg Zaa];exact D h1 B
theorem zD:∀a b,¬fL a b<0->¬fL b a<0->a=b
 |[],[],_,_=>rfl|[],_::_,h,_=>by simp[fL]at h|_::_,[],_,h=>by simp[fL]at h|x::a,y::b,h1,B=>by have D:=zD a b;simp only[fL]at h1 B;split at h1;omega;split at B;omega;rw[D (by first|assumption|(split at h1<;>first|assumption|omega)) (by first|assumption|(split at B<;>first|assumption|omega)),show x=y from Zaa]
theorem R_(a b c:L' Int)(d:¬fL a b<0)(B:¬fL b c<0):¬fL a c<0:=λh=>by by_cases u:fL b a<0;exact B (Ca b a c u h);rw[zD a b d u]at h;exact B h
theorem Tz{α:Type}{s:Sl α}{p:α->α->Lk Int}{f:α->L' Int}(hp:∀x y,x∈s.l->y∈s.l->p x y=some (fL (f x) (f y)))(U:s.l.length<2147483648):∃r,zP s p=some r/\r.l.Perm s.l/\r.l.Pairwise λx y=>¬fL (f y) (f x)<0:=by
 unfold zP;split;next h=>exact⟨s,rfl,List.Perm.refl _,by rw[h];exact Pairwise.nil⟩
 rename_i x l h;rw[if_pos (by rw[h]at U;simp at U;omega)];simp only;have S:∀i j:_root_.Fin (l.length+1),p (x::l)[i.1] (x::l)[j.1]=some (fL (f (x::l)[i.1]) (f (x::l)[j.1])):=λi j=>hp _ _ (by rw[h];exact getElem_mem _) (by rw[h];exact getElem_mem _);have C:(qz λi j:_root_.Fin (l.length+1)=>p (x::l)[i.1] (x::l)[j.1])=λi j=>decide (fL (f (x::l)[i.1]) (f (x::l)[j.1])<0):=by funext i j;unfold qz;show decide ((p _ _).getD 0<0)=_;rw[S];rfl
 have D:B4 (λi j:_root_.Fin (l.length+1)=>p (x::l)[i.1] (x::l)[j.1])=true:=by
  have u:∀i j,qz (λi j:_root_.Fin (l.length+1)=>p (x::l)[i.1] (x::l)[j.1]) i j=decide (fL (f (x::l)[i.1]) (f (x::l)[j.1])<0):=λi j=>by rw[C]
  refine all_eq_true.2 λi _=>Bool.and_eq_true_iff.2 ⟨by rw[u,xY];rfl,all_eq_true.2 λj _=>Bool.and_eq_true_iff.2 ⟨by show(p _ _).isSome=true;rw[S];rfl,all_eq_true.2 λk _=>Bool.and_eq_true_iff.2 ⟨?_,?_⟩⟩⟩;have:=Ca (f (x::l)[i.1]) (f (x::l)[j.1]) (f (x::l)[k.1]);rw[u,u,u];simp only[or_eq_true,not_eq_true',Bool.and_eq_false_iff,decide_eq_true_eq,decide_eq_false_iff_not];omega;have:=R_ (f (x::l)[i.1]) (f (x::l)[j.1]) (f (x::l)[k.1]);rw[u,u,u];simp only[or_eq_true,not_eq_true',decide_eq_true_eq,decide_eq_false_iff_not];omega
 rw[if_pos D];have G:=(rD D).2;have J:=Sort.pdq_sorts _ G (finRange (l.length+1)).toArray 0 (l.length+1) (Lib.bitLen (l.length+1)) true true (zero_le _) Zab (Or.inl rfl);rw[<-DH]at J;generalize rB l.length _=d at J;obtain⟨⟨z,_,w⟩,B⟩:=J;have z:d.size=l.length+1:=by simpa using z
 have I:∀y:L' α,(s.re y).l=y:=λy=>by cases s<;>first|rfl|(simp[Sl.l]at h)
 refine⟨_,rfl,?_,?_⟩;rw[I,h];have a:d.extract 0 (l.length+1)=d:=Array.ext (by simp[z]) λi a L=>by simp
 rw[a]at w;have L:((finRange (l.length+1)).toArray.extract 0 (l.length+1)).toList=finRange (l.length+1):=by simp[List.take_of_length_le]
 rw[L]at w;refine(w.map _).trans ?_;rw[show(finRange (l.length+1)).map (λi=>(x::l)[i.1])=x::l from ?_];exact List.ext_getElem Zab λi a L=>Zab;rw[I,pairwise_map,List.pairwise_iff_getElem];intro i j hi O Q;have:=B i j (zero_le _) Q (by simpa[z]using O);rw[C]at this;simp only[Array.length_toList]at hi O;simp only[getElem!_pos d i hi,getElem!_pos d j O,decide_eq_false_iff_not]at this;simpa using this
def Gc(c:L' Int):L' Int:=c.sum::c
def G5(c:L' Int):Prop:=c.length<=8/\∀x∈c,0<=x/\x<1073741824
theorem SA{c:L' Int}(h:G5 c)(i:Nat):0<=(c.take i).sum/\(c.take i).sum<=8589934592:=by
 have key:∀(l:L' Int),(∀x∈l,0<=x/\x<1073741824)->0<=l.sum/\l.sum<=1073741824*(l.length:Int):=by intro l;induction l with|nil=>intro _;simp|cons x l u=>intro h;have a:=h x Zab;have w:=u λy z=>h y (mem_cons_of_mem _ z);simp only[sum_cons,length_cons];omega
 have a:=key (c.take i) λx B=>h.2 x (mem_of_mem_take B);have w:(c.take i).length<=8:=by rw[length_take];have:=h.1;omega
 omega
theorem JC{c:L' Int}{i:Nat}(hi:i<c.length):(c.take (i+1)).sum=(c.take i).sum+c[i]:=by rw[List.take_succ_eq_append_getElem hi,List.sum_append];simp
theorem O4{a b:L' Int}{i:Nat}(B:i<a.length)(D:i<b.length):fL (a.drop i) (b.drop i)=if a[i]<b[i]then -1 else if a[i]>b[i]then 1 else fL (a.drop (i+1)) (b.drop (i+1)):=by rw[drop_eq_getElem_cons B,drop_eq_getElem_cons D];rfl
def eY(x y:L' Int):Prop:=fL (Gc x) (Gc y)<0
instance(x y:L' Int):Decidable (eY x y):=by unfold eY;exact inferInstance
theorem eY.Qe(x:L' Int):¬eY x x:=by unfold eY;rw[xY];omega
theorem eY.tr{x y z:L' Int}(h:eY x y)(k:eY y z):eY x z:=Ca _ _ _ h k
theorem eY.tot{x y:L' Int}(h:¬eY x y)(k:¬eY y x):x=y:=by have:=zD _ _ h k;unfold Gc at this;exact(List.cons.inj this).2
theorem eY.sum{x y:L' Int}(h:x.sum<y.sum):eY x y:=by unfold eY Gc;simp[fL,h]
theorem EG:∀{l r:L' (L' Int)},l.Pairwise eY->r.Pairwise eY->(∀x,x∈l↔x∈r)->l=r
 |[],[],_,_,_=>rfl|[],y::r,_,_,h=>by have:=(h y).2 Zab;simp at this|x::l,[],_,_,h=>by have:=(h x).1 Zab;simp at this|x::l,y::r,C,hr,h=>by
  have e:x=y:=by rcases mem_cons.1 ((h x).1 Zab)with e|e;exact e;rcases mem_cons.1 ((h y).2 Zab)with k|k;exact k.symm;exact absurd (((pairwise_cons.1 hr).1 x e).tr ((pairwise_cons.1 C).1 y k)) (eY.Qe y)
  subst e;congr 1;have u:=pairwise_cons.1 C;have w:=pairwise_cons.1 hr;refine EG u.2 w.2 λz=>⟨λB=>?_,λB=>?_⟩;rcases mem_cons.1 ((h z).1 (mem_cons_of_mem _ B))with e|e;exact absurd (e▸u.1 z B) (eY.Qe x);exact e;rcases mem_cons.1 ((h z).2 (mem_cons_of_mem _ B))with e|e;exact absurd (e▸w.1 z B) (eY.Qe x);exact e
theorem LB{t:Trace}{A:cq 200 bD}(b:Small t)(d:VT t){c:L' Int}(a:Cons t A c):G5 c:=by
 refine⟨a.1.1▸d.few,λx z=>?_⟩;obtain⟨p,w,e⟩:=mem_iff_getElem.1 z;have u:p<t.procs.l.length:=by rw[<-a.1.1];exact w
 have:=a.1.2 p x _ (by rw[ζd w,e]) (ζd u);have k:=(b.2 _ (getElem_mem u)).1;omega
theorem eY.I6{x y:L' Int}(h:x.sum=y.sum):eY x y↔fL x y<0:=by unfold eY Gc;simp only[fL,if_neg (show¬x.sum<y.sum by omega),if_neg (show¬x.sum>y.sum by omega)]
theorem eY.nodup{L:L' (L' Int)}(h:L.Pairwise eY):L.Nodup:=h.imp λ{x y}(h:eY x y)(e:x=y)=>eY.Qe y (by rw[e]at h;exact h)
theorem N8{L:L' (L' Int)}{c:L' Int}{j:Nat}(h:L.Pairwise eY)(d:∀(i:Nat)x,i<j->L[i]?=some x->eY x c)(D:∀x,L[j]?=some x->eY c x):
 (L.take j++[c]++L.drop j).Pairwise eY/\∀x,x∈L.take j++[c]++L.drop j↔x∈L\/x=c:=by
 have w:∀x∈L.take j,eY x c:=λx a=>by
  obtain⟨k,b,e⟩:=mem_iff_getElem.1 a;rw[length_take]at b;rw[List.getElem_take]at e;exact d k x Zaa (by rw[ζd Zaa,e])
 have u:∀x∈L.drop j,eY c x:=λx a=>by
  obtain⟨k,b,e⟩:=mem_iff_getElem.1 a;rw[List.length_drop]at b;rw[List.getElem_drop]at e;have B:j<L.length:=Zaa
  have k0:=D _ (ζd B)
  by_cases e0:k=0
  .subst e0;simp only[Nat.add_zero]at e;rw[<-e];exact k0
  rw[<-e];exact k0.tr (List.pairwise_iff_getElem.1 h j (j+k) B Zaa Zaa)
 refine⟨pairwise_append.2 ⟨pairwise_append.2 ⟨h.sublist (List.take_sublist _ _),List.pairwise_singleton _ _,λx a y z=>?_⟩,h.sublist (List.drop_sublist _ _),λx a y z=>?_⟩,λx=>?_⟩
 .rw[mem_singleton.1 z];exact w x a
 .rcases mem_append.1 a with a|a
  .exact(w x a).tr (u y z)
  rw[mem_singleton.1 a];exact u y z
 conv=>rhs;rw[<-take_append_drop j L]
 simp only[mem_append,mem_singleton];constructor
 .rintro ((h|h)|h)<;>simp[h]
 rintro((h|h)|h)<;>simp[h]
theorem TO{α:Type}{s:Sl α}{p:α->α->Lk Bool}{f:α->L' Int}(hp:∀x y,x∈s.l->y∈s.l->p x y=some (decide (f x=f y)))(g:s.l.length<2147483648)(Y:s.l.Pairwise λx y=>¬fL (f y) (f x)<0):
 ∃r,yK s p=some r/\(r.l.map f).Nodup/\(∀d,d∈r.l.map f↔d∈s.l.map f)/\r.l.length<=s.l.length:=by
 have Q:∀i,i<s.l.length->0<i->∃(a:i<s.l.length)(O:i-1<s.l.length),uk s.l p i=some (decide (f s.l[i]=f s.l[i-1])):=λi h k=>by refine⟨h,Zaa,?_⟩;unfold uk;rw[ζd h,ζd (show i-1<s.l.length by omega)];exact hp _ _ (getElem_mem _) (getElem_mem _)
 unfold yK;rw[if_pos ⟨Zaa,all_eq_true.2 λi hi=>by
  by_cases h:i=0
  .subst h;rfl
  obtain⟨_,_,e⟩:=Q i (mem_range.1 hi) Zaa
  rw[e];simp⟩]
 have B:∀y:L' α,(s.l=[]->y=[])->(s.ue y).l=y:=λy z=>by cases s<;>first|rfl|exact(z rfl).symm
 have S:∀i,i∈kept (λi=>(uk s.l p i).getD false) s.l.length↔i<s.l.length/\(i=0\/(uk s.l p i).getD false=false):=λi=>by unfold kept;simp[List.mem_filter]
 have C:=Cr (λi=>(uk s.l p i).getD false) s.l.length
 have T:(kept (λi=>(uk s.l p i).getD false) s.l.length).Pairwise (·<·):=by unfold kept;exact List.pairwise_lt_range.filter _
 generalize kept (λi=>(uk s.l p i).getD false) s.l.length=K at *
 have w:(s.ue (K.filterMap (s.l[·]?))).l=K.filterMap (s.l[·]?):=B _ λh=>by rw[h];simp
 refine⟨_,rfl,?_,λd=>?_,?_⟩
 .rw[w,Nodup,pairwise_map,List.pairwise_filterMap];refine T.imp_of_mem ?_;intro i j hi Z l x u y z D;obtain⟨U,G⟩:=(S j).1 Z;obtain⟨a,O,e⟩:=Q j U Zaa
  rw[e]at G;have W:¬f s.l[j]=f s.l[j-1]:=by rcases G with h|h;omega;simpa using h
  rw[ζd a]at z;cases z;have I:i<s.l.length:=Zaa
  rw[ζd I]at u;cases u;have J:=List.pairwise_iff_getElem.1 Y;have a1:=J (j-1) j O a Zaa
  refine W (zD _ _ a1 ?_)
  by_cases e2:i=j-1
  .subst e2;rw[<-D,xY];omega
  have a2:=J i (j-1) I O Zaa
  rw[D]at a2;exact a2
 .rw[w];simp only[mem_map,List.mem_filterMap];constructor
  .rintro⟨x,⟨i,_,u⟩,rfl⟩;exact⟨x,mem_of_getElem? u,rfl⟩
  rintro⟨x,u,rfl⟩;obtain⟨i,hi⟩:=List.mem_iff_getElem?.1 u;have key:∀(i:Nat)x,s.l[i]?=some x->∃y,(∃j,j∈K/\s.l[j]?=some y)/\f y=f x:=by intro i;induction i with|zero=>intro x u;exact⟨x,⟨0,(S 0).2 ⟨(ζe.1 u).1,.inl rfl⟩,u⟩,rfl⟩|succ i ih=>intro x u;have L:=(ζe.1 u).1;obtain⟨a,O,e⟩:=Q (i+1) L Zaa;have X:s.l[i+1]=x:=(ζe.1 u).2;by_cases b:f s.l[i+1]=f s.l[i+1-1];obtain⟨y,z,c⟩:=ih _ (ζd (show i<s.l.length by omega));exact⟨y,z,by rw[c,<-X];exact b.symm⟩;exact⟨x,⟨i+1,(S _).2 ⟨L,.inr (by rw[e];simpa using b)⟩,u⟩,rfl⟩
  exact key i x hi
 rw[w];exact Nat.le_trans (List.length_filterMap_le ..) C
theorem Nz{a b:Sl Int}(J:a.l.length<1073741824):jX a b=some (fL a.l b.l):=by
 refine Wp.eq ?_;unfold jX fC fC.W1;rw[ec];refine fH a.l.length (λn s=>s=(n:Int)/\n<=b.l.length/\fL (a.l.drop n) (b.l.drop n)=fL a.l b.l) ⟨rfl,zero_le _,rfl⟩ ?_ ?_;rintro n _ w ⟨rfl,C,u⟩;unfold fC.bp;rw[jP w,bF,bG w,ζb];have hd:a.l.drop n=a.l[n]::a.l.drop (n+1):=drop_eq_getElem_cons w;by_cases D:n<b.l.length;have G:b.l.drop n=b.l[n]::b.l.drop (n+1):=drop_eq_getElem_cons D;rw[show decide ((n:Int)>=len b)=false from by simp[len];omega,bE,bG D,ζb];rw[hd,G]at u;simp only[fL]at u;generalize a.l[n]=x at *;generalize b.l[n]=y at *;have z:qo x y=some (if x<y then -1 else if x>y then 1 else 0):=by unfold qo sH;simp only[bne_self_eq_false,ζb,bE,bF];by_cases c:x<y;simp[c,bg];by_cases B:x>y;simp[c,B,bg];simp[c,B,bg]
 rw[z,ζb];by_cases c:x<y;rw[if_pos c]at u⊢;rw[show((-1:Int)==0)=false from rfl,bE,bf];exact(bf _).2 ((bf _).2 u);rw[if_neg c]at u⊢;by_cases B:x>y;rw[if_pos B]at u⊢;rw[show((1:Int)==0)=false from rfl,bE,bf];exact(bf _).2 ((bf _).2 u);rw[if_neg B]at u⊢;rw[show((0:Int)==0)=true from rfl,bF,bf];exact⟨cR n Zaa,D,u⟩;rw[show decide ((n:Int)>=len b)=true from by simp[len];omega,bF,bf];rw[hd,List.drop_eq_nil_of_le (show b.l.length<=n by omega)]at u;exact(bf _).2 ((bf _).2 u);rintro _ ⟨rfl,C,u⟩;unfold fC.bp;rw[jQ,bE,bf];rw[List.drop_eq_nil_of_le (le_refl _)]at u;by_cases h:a.l.length<b.l.length;rw[show decide (len a<len b)=true from by simp[len];omega,bF];rw[drop_eq_getElem_cons h]at u;exact(bf _).2 ((bf _).2 u);rw[show decide (len a<len b)=false from by simp[len];omega,bE];rw[List.drop_eq_nil_of_le (show b.l.length<=a.l.length by omega)]at u;exact(bf _).2 ((bf _).2 u)
theorem Js{a b:Sl Int}(D:a.l.length<1073741824):e9 a b=some (decide (a.l=b.l)):=by
 refine Wp.eq ?_;unfold e9;rw[b_];refine⟨λh=>?_,λh=>(bf _).2 ?_⟩;have h:(a.l.length:Int)=b.l.length:=by simpa[len]using h
 have h:a.l.length=b.l.length:=Zaa;unfold e9.W1;refine fH a.l.length (λn s=>s=(n:Int)/\∀i,i<n->a.l[i]?=b.l[i]?) ⟨rfl,λi h=>absurd h Zaa⟩ ?_ ?_;rintro n _ u ⟨rfl,z⟩;unfold e9.bp;have B:n<b.l.length:=by omega
 rw[show decide ((n:Int)<len a)=true from jP u,bF,bG u,ζb,bG B,ζb,b_];refine⟨λw=>(bf _).2 ⟨cR n Zaa,λi hi=>?_⟩,λw=>(bf _).2 ((bf _).2 ?_)⟩;by_cases e:i=n;subst e;rw[ζd u,ζd B];simpa using w;exact z i Zaa;refine(decide_eq_false λe=>?_).symm;have c:a.l[n]?=b.l[n]?:=by rw[e]
 rw[ζd u,ζd B]at c;simp at w c;exact w c;rintro _ ⟨rfl,z⟩;unfold e9.bp;rw[jQ,bE,bf];refine(bf _).2 (decide_eq_true (ext_getElem? λi=>?_)).symm;by_cases hi:i<a.l.length;exact z i hi;rw[getElem?_eq_none Zaa,getElem?_eq_none Zaa];refine(decide_eq_false λe=>?_).symm;simp[len,e]at h
section
variable{t:Trace}{A:cq 200 bD}
def vP(A:cq 200 bD)(e:Event):aZ:=if e.kind=3 then(ag A e.message).from_ else⟨0,0⟩
structure UD(t:Trace)(A:cq 200 bD)(n:Nat)(m:ct):Prop where
 lens:m.lengths.l=(t.procs.l.take n).map λP=>(P.events.l.length:Int)
 need:m.need.l.map Sl.l=(t.procs.l.take n).map λP=>P.events.l.map (vP A)
theorem of_wp(d:Small t)(h:cQ t=some true)(f:VT t)(g:fR t (bO t) A):Wp (kO t) (UD t A t.procs.l.length):=by
 have Y:=f.few;unfold kO kO.W1;refine fH t.procs.l.length (λn s=>s.1=(n:Int)/\s.2.1=t/\UD t A n s.2.2.2) ⟨rfl,rfl,rfl,rfl⟩ ?_ ?_;rintro n ⟨_,_,Z,I⟩ z ⟨a,B,u⟩;simp only at a B u;subst a;have B:=B.symm;subst B;unfold kO.bp;rw[jP z,bF,bG z,ζb];have O:=ζd z;have H:=(d.2 _ (getElem_mem z)).1;generalize K:t.procs.l[n]=P at *;unfold kO.W2;refine fH P.events.l.length (λk s=>s.2.1=(k:Int)/\s.2.2.1=t/\s.2.2.2.2=I/\s.1.l=(P.events.l.take k).map (vP A)) ⟨rfl,rfl,rfl,rfl⟩ ?_ ?_;rintro k ⟨nd,_,_,T,_⟩ c ⟨Q,C,D,L⟩;simp only at Q C D L;subst Q;have C:=C.symm;have D:=D.symm;subst C D;unfold kO.bV;rw[jP c,bF,bG c,ζb];have U:mj t n k P.events.l[k]:=⟨P,O,ζd c⟩;have G:P.events.l.take (k+1)=P.events.l.take k++[P.events.l[k]]:=by rw[take_add_one,ζd c];rfl
 generalize P.events.l[k]=e at *;have fin:∀id,id=vP A e->Wp (kO.J3 nd t.procs (len t.procs) n P.events (len P.events) k t ⟨Sl.nil,Sl.nil⟩ I P id) λw=>match w with|.n S=>S.2.1=((k+1:Nat):Int)/\S.2.2.1=t/\S.2.2.2.2=I/\S.1.l=(P.events.l.take (k+1)).map (vP A)|.x e=>False|.r b=>False:=λid W=>by unfold kO.J3;obtain⟨r,i,l⟩:=nH (s:=nd) (x:=id) (by rw[L];simp;omega);rw[i,ζb,bf];exact⟨cR k Zaa,rfl,rfl,by rw[l,L,G,map_append,W];rfl⟩
 rw[b_];constructor;intro u;have u:e.kind=3:=by simpa using u
 obtain⟨q,j,y,m,o,p,y3,y4,y5⟩:=Dg f g U u;have X:=HA d h g (dQ.2 ⟨q,j,m,rfl⟩:((⟨q,j+1⟩:aZ),y)∈bO t) o;simp only at X;rw[p]at X;rw[X,ζb];refine(fin _ (by unfold vP;rw[if_pos u,y5])).mono λw J=>?_;cases w with|n s=>exact J|x e=>exact J.elim|r b=>exact J.elim
 intro u;have u:¬e.kind=3:=by simpa using u
 refine(fin _ (by unfold vP;rw[if_neg u])).mono λw J=>?_;cases w with|n s=>exact J|x e=>exact J.elim|r b=>exact J.elim
 rintro⟨nd,_,_,T,_⟩ ⟨Q,C,D,L⟩;simp only at Q C D L;subst Q;have C:=C.symm;have D:=D.symm;subst C D;unfold kO.bV;have M:I.lengths.l.length=n:=by rw[u.lens];simp;omega
 have N:I.need.l.length=n:=by have:=congrArg length u.need;simp at this;omega
 obtain⟨v,a1,a2⟩:=nH (s:=I.lengths) (x:=len P.events) Zaa;obtain⟨x2,E,F⟩:=nH (s:=I.need) (x:=nd) Zaa;rw[jQ,bE,bf];simp only;rw[a1,ζb,E,ζb,bf];have G:t.procs.l.take (n+1)=t.procs.l.take n++[P]:=by rw[take_add_one,O];rfl
 refine⟨cR n Zaa,rfl,?_,?_⟩;show v.l=_;rw[a2,u.lens,G,map_append];rfl;show x2.l.map Sl.l=_;rw[F,map_append,u.need,G,map_append,map_cons,L,take_length];rfl;rintro⟨_,_,Z,I⟩ ⟨a,B,u⟩;simp only at a B u;subst a;have B:=B.symm;subst B;unfold kO.bp;rw[jQ,bE,bf];exact(bf _).2 u
theorem Tg(f:VT t)(g:fR t (bO t) A){m:ct}(n:UD t A t.procs.l.length m){c:Sl Int}(d:Cons t A c.l){p:Nat}(hp:p<t.procs.l.length):
 Wp (pI m c p) λb=>(b=true↔∃a,c.l[p]?=some a/\Cons t A (c.l.set p (a+1))):=by
 have V:=d.1.1;have u:=ζd hp;obtain⟨a,w⟩:=d.1.at_ hp;have F:=d.1.2 p a _ w u;generalize t.procs.l[p]=P at *;have D:m.lengths.l[p]?=some (P.events.l.length:Int):=by rw[n.lens,take_length,getElem?_map,u];rfl
 have J:=(ζe.1 w).1;have L:idx c (p:Int)=some a:=by rw[kJ];exact w
 unfold pI;rw[L,ζb,kJ,D,ζb,b_];constructor
 .intro h;have h:a=P.events.l.length:=by simpa using h
  refine(bf _).2 ⟨λh=>(by cases h),λ⟨b,B,O⟩=>?_⟩
  rw[w]at B;cases B;have:=O.1.2 p (a+1) P (by simp[J]) u
  omega
 intro h;have h:¬a=P.events.l.length:=by simpa using h
 have S:a<P.events.l.length:=Zaa
 have o:=congrArg (λl=>l[p]?) n.need
 simp only[take_length,getElem?_map,u,Option.map_some]at o;obtain⟨nd,T,U⟩:=ζf.1 o;have z:a.toNat<P.events.l.length:=Zaa
 have H:idx nd a=some (vP A P.events.l[a.toNat]):=by rw[S3 F.1,U,getElem?_map,ζd z];rfl
 rw[kJ,T,ζb,ζb,H,ζb];have W:=d.up f g u w S;have G:(∃b,c.l[p]?=some b/\Cons t A (c.l.set p (b+1)))↔TI t A c.l p:=by rw[W];exact⟨λ⟨b,B,k⟩=>by rw[w]at B;cases B;exact k,λk=>⟨a,w,k⟩⟩
 rw[G];have X:mj t p a.toNat P.events.l[a.toNat]:=⟨P,u,ζd z⟩;have Y:TI t A c.l p↔(P.events.l[a.toNat].kind=3->∃b,c.l[(ag A P.events.l[a.toNat].message).from_.proc.toNat]?=some b/\(ag A P.events.l[a.toNat].message).from_.index<=b):=⟨λ⟨Q,e,x,r,v,C,K⟩=>by rw[u]at r;cases r;rw[w]at v;cases v;rw[ζd z]at C;cases C;exact K,λh=>⟨P,_,a,u,w,ζd z,h⟩⟩
 rw[Y];generalize P.events.l[a.toNat]=e at *;unfold vP
 by_cases C:e.kind=3
 .rw[if_pos C];obtain⟨q,j,M,_,_,y,Q,N,_⟩:=z6 f g X C;have Z:q<c.l.length:=by have:=(ζe.1 N).1;omega
  rw[M];simp only[toNat_natCast];rw[bG Z,ζb,bf];simp only[decide_eq_true_eq];exact⟨λh _=>⟨_,ζd Z,h⟩,λh=>by obtain⟨b,B,R⟩:=h C;rw[ζd Z]at B;cases B;exact R⟩
 rw[if_neg C];have E:0<c.l.length:=Zaa
 have I:=d.1.pos 0 _ (ζd E);have hi:idx c ((⟨0,0⟩:aZ).proc)=some c.l[0]:=bG (s:=c) (i:=0) E;rw[hi,ζb,bf];exact⟨λ_ h=>absurd h C,λ_=>by simpa using I⟩
end
theorem Gz{α:Type}:∀l:L' α,(range l.length).filterMap (l[·]?)=l
 |[]=>rfl|x::l=>by rw[length_cons,List.range_succ_eq_map,List.filterMap_cons,List.filterMap_map];show x::(range l.length).filterMap (λi=>(x::l)[i+1]?)=_;simp only[List.getElem?_cons_succ];rw[Gz l]
theorem VK{α:Type}{s r:Sl α}{p:α->α->Lk Bool}(h:yK s p=some r):r.l.Sublist s.l:=by
 unfold yK at h;split at h
 .cases h;have key:((kept (λi=>(uk s.l p i).getD false) s.l.length).filterMap (s.l[·]?)).Sublist s.l:=by
   have e:=Gz s.l
   conv=>rhs;rw[<-e]
   exact List.Sublist.filterMap _ (by unfold kept;exact List.filter_sublist)
  generalize(kept (λi=>(uk s.l p i).getD false) s.l.length).filterMap (s.l[·]?)=y at *
  cases s<;>first|exact key|(simp[Sl.ue,Sl.l])
 cases h
theorem zY{c:Sl Int}(B:c.l.length<=1073741824)(a:0<c.l.length):∃d,(dR c).bind Sl.whole=some d/\d.l=c.l:=by
 unfold dR;have key:((oc (Sl.row []:Sl Int) c).bind λx=>some x).bind Sl.whole=some (.row ([]++c.l)):=by unfold oc;rw[if_neg (λh=>by rw[h]at a;simp at a),if_pos (show(Sl.row ([]:L' Int)).l.length+c.l.length<=2147483648 from show 0+c.l.length<=_ by omega)];rfl
 cases c with|nil=>simp[Sl.l]at a|emp=>simp[Sl.l]at a|part l=>exact⟨_,key,rfl⟩|row l=>exact⟨_,key,rfl⟩
section
variable{t:Trace}{A:cq 200 bD}
theorem Sf(K:Small t)(l:VT t)(v:fR t (bO t) A){m:ct}(M:UD t A t.procs.l.length m){k:Nat}{B:Sl (Sl Int)}(W:AB t A k B)(V:B.l.length<=5000):
 Wp (eE m B) λr=>AB t A (k+1) r/\(ins r).Nodup/\r.l.length<=40000/\(ins r).Pairwise λx y=>¬fL y x<0:=by
 have ad:=l.few;unfold eE eE.W1;refine fH B.l.length (λn s=>s.2.1=len B/\s.2.2=(n:Int)/\s.1.l.length<=8*n/\∀d,d∈ins s.1↔∃c∈(B.l.take n).map Sl.l,Dh t A c d) ⟨rfl,rfl,zero_le _,λd=>by simp[ins,Sl.l]⟩ ?_ ?_
 .rintro n ⟨out,_,_⟩ w ⟨e1,e2,g1,g2⟩;simp only at e1 e2 g1 g2;subst e1 e2;have L:=(W B.l[n].l).1 (pY.2 ⟨_,getElem_mem w,rfl⟩);unfold eE.bp;rw[jP w,bF,bG w,ζb];have O:∀d,d∈(B.l.take (n+1)).map Sl.l↔d∈(B.l.take n).map Sl.l\/d=B.l[n].l:=λd=>xF w
  generalize B.l[n]=c at *;have ae:=L.1.1.1;have aa:=l.ok.one;unfold eE.W2;refine fH c.l.length (λj s=>s.2=(j:Int)/\s.1.l.length<=8*n+j/\∀d,d∈ins s.1↔d∈ins out\/∃(p:Nat)(a:Int),p<j/\c.l[p]?=some a/\d=c.l.set p (a+1)/\Cons t A d) ⟨rfl,g1,λd=>⟨.inl,λh=>h.elim id λ⟨p,a,h,_⟩=>absurd h Zaa⟩⟩ ?_ ?_
  .rintro j ⟨o2,_⟩ T ⟨e,o,i⟩;simp only at e o i;subst e;unfold eE.bV;rw[show decide ((j:Int)<len c)=true from jP T,bF,ec];refine(Tg l v M L.1 (p:=j) Zaa).mono λb E=>?_
   have u:=ζd T;have hr:=L.1.1.2 j _ _ u (ζd (show j<t.procs.l.length by omega))
   have af:=(K.2 _ (getElem_mem (show j<t.procs.l.length by omega))).1
   generalize c.l[j]=a at *;have more:∀o3:Sl (Sl Int),(∀d,d∈ins o3↔d∈ins o2\/d=c.l.set j (a+1)/\Cons t A d)->∀d,d∈ins o3↔d∈ins out\/∃(p:Nat)(a:Int),p<j+1/\c.l[p]?=some a/\d=c.l.set p (a+1)/\Cons t A d:=λo3 h d=>by rw[h,i];constructor;rintro((h|⟨p,b,h,k⟩)|⟨h,k⟩);exact .inl h;exact .inr ⟨p,b,Zaa,k⟩;exact .inr ⟨j,a,Zaa,u,h,k⟩;rintro(h|⟨p,b,h,k1,k2,k3⟩);exact .inl (.inl h);by_cases e:p=j;subst e;rw[u]at k1;cases k1;exact .inr ⟨k2,k3⟩;exact .inl (.inr ⟨p,b,Zaa,k1,k2,k3⟩)
   rw[b_];constructor
   .intro ht;obtain⟨x,C,X⟩:=E.1 ht;rw[u]at C;cases C;obtain⟨d,hd,z⟩:=zY (c:=c) Zaa Zaa
    obtain⟨N,Y,Q⟩:=put_eq (s:=d) (p:=j) (x:=a+1) (by rw[z];exact T)
    obtain⟨o3,Z,D⟩:=nH (s:=o2) (x:=N) Zaa
    have P:Sl.get d j=some a:=by unfold Sl.get;rw[z];exact u
    rw[hd,ζb,xz (by rw[z];exact T),ζb,P,ζb,ζb,eF _ Zaa Zaa,Y,ζb,Z,ζb,bf]
    refine⟨cR j Zaa,by rw[D];simp;omega,more o3 λe=>?_⟩
    rw[LP D,Q,z];exact⟨λh=>h.elim .inl λh=>.inr ⟨h,by rw[h];exact X⟩,λh=>h.elim .inl λh=>.inr h.1⟩
   intro F;refine(bf _).2 ⟨cR j Zaa,Nat.le_succ_of_le o,more o2 λd=>⟨.inl,λh=>h.elim id λ⟨q,U⟩=>?_⟩⟩
   rw[E.2 ⟨a,u,by rw[<-q];exact U⟩]at F;cases F
  rintro⟨o2,_⟩ ⟨e,o,i⟩;simp only at e o i;subst e;unfold eE.bV;rw[jQ,bE,bf];refine(bf _).2 ⟨rfl,cR n Zaa,show o2.l.length<=_ by omega,λd=>?_⟩
  rw[i];constructor
  .rintro (h|⟨p,a,_,h⟩)
   .obtain⟨c',g,G⟩:=(g2 d).1 h;exact⟨c',(O c').2 (.inl g),G⟩
   exact⟨_,(O _).2 (.inr rfl),p,a,h⟩
  rintro⟨c',g,G⟩;rcases(O c').1 g with h|h
  .exact .inl ((g2 d).2 ⟨c',h,G⟩)
  subst h;obtain⟨p,a,h⟩:=G;exact .inr ⟨p,a,(ζe.1 h.1).1,h⟩
 rintro⟨out,_,_⟩ ⟨e1,e2,g1,g2⟩;simp only at e1 e2 g1 g2;subst e1 e2;unfold eE.bp;rw[jQ,bE,bf];simp only;have I:AB t A (k+1) out:=λd=>by rw[g2,take_length,<-Dh.iff l v (k:=k)];exact⟨λ⟨c,g,G⟩=>⟨c,(W c).1 g,G⟩,λ⟨c,g,G⟩=>⟨c,(W c).2 g,G⟩⟩
 have J:∀s:Sl (Sl Int),(∀d,d∈ins s↔d∈ins out)->∀x∈s.l,x.l.length<1073741824:=λs h x C=>by have:=((I x.l).1 ((h x.l).1 (pY.2 ⟨x,C,rfl⟩))).1.1.1;omega
 obtain⟨r1,q,p1,H⟩:=Tz (s:=out) (p:=jX) (f:=Sl.l) (λx y C _=>Nz (J out (λ_=>Iff.rfl) x C)) Zaa
 have S:∀d,d∈ins r1↔d∈ins out:=λd=>(p1.map Sl.l).mem_iff
 have ab:r1.l.length=out.l.length:=p1.length_eq;obtain⟨r2,U,nd,R,l2⟩:=TO (s:=r1) (p:=lP) (f:=Sl.l) (λx y C _=>by unfold lP;rw[Js (J r1 S x C)];rfl) Zaa H
 rw[q,ζb,U,ζb,bf];exact⟨λd=>(R d).trans ((S d).trans (I d)),nd,Zaa,by unfold ins;rw[pairwise_map];exact H.sublist (VK U)⟩
end
theorem Gu{c:Sl Int}(h:G5 c.l):gN c=some c.l.sum:=by refine Wp.eq ?_;have u:=h.1;unfold gN gN.W1;refine fH c.l.length (λi(q:Int×Int)=>q.2=(i:Int)/\q.1=(c.l.take i).sum) ⟨rfl,rfl⟩ ?_ ?_;rintro i ⟨m,_⟩ hi ⟨e,a⟩;simp only at e a;subst e;subst a;unfold gN.bp;rw[jP hi,bF,bG hi,ζb,bf];have k:=SA h (i+1);rw[JC hi]at k;exact⟨cR i Zaa,by rw[JC hi];exact eF _ Zaa Zaa⟩;rintro⟨m,_⟩ ⟨e,a⟩;simp only at e a;subst e;subst a;unfold gN.bp;rw[jQ,bE,bf];exact(bf _).2 (by rw[take_length])
theorem Lx{a b:Sl Int}(B:G5 a.l)(D:G5 b.l)(G:a.l.length=b.l.length):hU a b=some (decide (eY a.l b.l)):=by
 have w:=B.1;unfold hU;rw[Gu B,ζb,Gu D,ζb];by_cases e:a.l.sum=b.l.sum;rw[show(a.l.sum==b.l.sum)=true from by simpa using e,bF];refine Wp.eq ?_;unfold hU.W1;refine fH a.l.length (λi(q:Int)=>q=(i:Int)/\fL (a.l.drop i) (b.l.drop i)=fL a.l b.l) ⟨rfl,rfl⟩ ?_ ?_;rintro i _ hi ⟨rfl,h⟩;have u:i<b.l.length:=by omega
 unfold hU.bp;rw[jP hi,bF,bG hi,ζb,bG u,ζb];rw[O4 hi u]at h;by_cases e2:a.l[i]=b.l[i];rw[show(a.l[i]==b.l[i])=true from by simpa using e2,bF,bf];rw[if_neg Zaa,if_neg Zaa]at h;exact⟨cR i Zaa,h⟩;rw[show(a.l[i]==b.l[i])=false from by simpa using e2,bE,ζb,ζb,bf];refine(bf _).2 ?_;have hd:decide (eY a.l b.l)=decide (fL a.l b.l<0):=decide_eq_decide.2 (eY.I6 e);rw[hd];by_cases k:a.l[i]<b.l[i];rw[if_pos k]at h;rw[<-h];simp[k];rw[if_neg k,if_pos Zaa]at h;rw[<-h];simp[k];rintro _ ⟨rfl,h⟩;unfold hU.bp;rw[jQ,bE,bf];refine(bf _).2 ?_;have hd:decide (eY a.l b.l)=decide (fL a.l b.l<0):=decide_eq_decide.2 (eY.I6 e);rw[hd];rw[drop_of_length_le (le_refl _),drop_of_length_le Zaa]at h;rw[<-h];rfl;rw[show(a.l.sum==b.l.sum)=false from by simpa using e,bE,ζb,ζb];congr 1;refine decide_eq_decide.2 ?_;unfold eY Gc;by_cases k:a.l.sum<b.l.sum;simp[fL,k];simp[fL,k,show a.l.sum>b.l.sum by omega]
theorem QC{a b:Sl Int}(D:a.l.length<1073741824):fF a b=some (decide (a.l=b.l)):=by
 refine Wp.eq ?_;unfold fF;rw[b_];refine⟨λh=>?_,λh=>(bf _).2 ?_⟩;have h:(a.l.length:Int)=b.l.length:=by simpa[len]using h
 have h:a.l.length=b.l.length:=Zaa;unfold fF.W1;refine fH a.l.length (λn s=>s=(n:Int)/\∀i,i<n->a.l[i]?=b.l[i]?) ⟨rfl,λi h=>absurd h Zaa⟩ ?_ ?_;rintro n _ u ⟨rfl,z⟩;unfold fF.bp;have B:n<b.l.length:=by omega
 rw[jP u,bF,bG u,ζb,bG B,ζb,b_];refine⟨λw=>(bf _).2 ⟨cR n Zaa,λi hi=>?_⟩,λw=>(bf _).2 ((bf _).2 ?_)⟩;by_cases e:i=n;subst e;rw[ζd u,ζd B];simpa using w;exact z i Zaa;refine(decide_eq_false λe=>?_).symm;have c:a.l[n]?=b.l[n]?:=by rw[e]
 rw[ζd u,ζd B]at c;simp at w c;exact w c;rintro _ ⟨rfl,z⟩;unfold fF.bp;rw[jQ,bE,bf];refine(bf _).2 (decide_eq_true (ext_getElem? λi=>?_)).symm;by_cases hi:i<a.l.length;exact z i hi;rw[getElem?_eq_none Zaa,getElem?_eq_none Zaa];refine(decide_eq_false λe=>?_).symm;simp[len,e]at h
theorem lX(s:Sl (Sl Int)):(ins s).length=s.l.length:=by unfold ins;simp
theorem Vi(s:Sl (Sl Int))(i:Nat):(ins s)[i]?=(s.l[i]?).map Sl.l:=by unfold ins;rw[getElem?_map]
theorem zH{s:Sl (Sl Int)}{i:Nat}(h:i<s.l.length):(ins s)[i]?=some s.l[i].l:=by rw[Vi,ζd h];rfl
theorem K0{l:Sl (Sl Int)}{c:Sl Int}(Y:∀x∈l.l,G5 x.l/\x.l.length=c.l.length)(b:G5 c.l)(E:l.l.length<1073741824)(f:(ins l).Pairwise eY):
 Wp (ij l c) λr=>r.l.length<=l.l.length+1/\(ins r).Pairwise eY/\∀d,d∈ins r↔d∈ins l\/d=c.l:=by
 have Z:=b.1;have a:∀n:Nat,n<=l.l.length->(∀(i:Nat)x,i<n->(ins l)[i]?=some x->eY x c.l)->(∀x,(ins l)[n]?=some x->¬eY x c.l)->
  Wp ((bg (decide ((n:Int)<(len l))) ((idx l n).bind λO=>(fF O c).bind λQ=>some Q) (some false):Lk Bool).bind λS=>
  bg S (some l) ((gj l none (some (n:Int))).bind λB=>(oc (Sl.row []:Sl (Sl Int)) B).bind λC=>(ga C (c:Sl Int)).bind λD=>(gj l (some (n:Int)) none).bind λG=>(oc D G).bind λI=>some I))
  λr=>r.l.length<=l.l.length+1/\(ins r).Pairwise eY/\∀d,d∈ins r↔d∈ins l\/d=c.l:=by
  intro n J T U;have z:(∀x,(ins l)[n]?=some x->x≠c.l)->Wp ((gj l none (some (n:Int))).bind λB=>(oc (Sl.row []:Sl (Sl Int)) B).bind λC=>(ga C (c:Sl Int)).bind λD=>(gj l (some (n:Int)) none).bind λG=>(oc D G).bind λI=>some I) λr=>r.l.length<=l.l.length+1/\(ins r).Pairwise eY/\∀d,d∈ins r↔d∈ins l\/d=c.l:=by intro W;obtain⟨x4,j,e4⟩:=tD l n J;have F:x4.l.length<=l.l.length:=(by rw[e4,length_take];omega);obtain⟨x5,m,e5⟩:=Cn (s:=(Sl.row []:Sl (Sl Int))) (x:=x4) (show 0+x4.l.length<=_ by omega);have e5:x5.l=x4.l:=e5;obtain⟨x6,o,e6⟩:=nH (s:=x5) (x:=c) (by rw[e5];omega);obtain⟨x7,p,e7⟩:=C3 l n J;obtain⟨x8,Z,q⟩:=Cn (s:=x6) (x:=x7) (by rw[e6,e7,e5,ζi,List.length_drop,length_singleton];omega);rw[j,ζb,m,ζb,o,ζb,p,ζb,Z,ζb,bf];have e:x8.l=l.l.take n++[c]++l.l.drop n:=(by rw[q,e6,e7,e5,e4]);have g:ins x8=(ins l).take n++[c.l]++(ins l).drop n:=(by unfold ins;rw[e];simp[List.map_take,List.map_drop]);obtain⟨t,v⟩:=N8 f T λx u=>(by by_cases k:eY c.l x;exact k;exact absurd (eY.tot k (U x u)).symm (W x u));exact⟨by rw[e];simp;omega,by rw[g];exact t,λd=>by rw[g];exact v d⟩
  by_cases h:n<l.l.length
  .rw[jP h,bF,bG h,ζb,QC (by have:=(Y _ (getElem_mem h)).1.1;omega),ζb,ζb]
   by_cases e:l.l[n].l=c.l
   .rw[decide_eq_true e,bF,bf];refine⟨Zaa,f,λd=>⟨.inl,λX=>X.elim id λX=>?_⟩⟩
    rw[X,<-e];exact pY.2 ⟨_,getElem_mem h,rfl⟩
   rw[decide_eq_false e,bE];exact z λx u=>by rw[zH h]at u;cases u;exact e
  rw[show(n:Int)=(l.l.length:Nat)from Zaa,jQ,bE,ζb,bE,<-show(n:Int)=(l.l.length:Nat)from Zaa]
  exact z λx u=>by have:=(ζe.1 u).1;rw[lX]at this;omega
 unfold ij ij.W1;refine fH l.l.length (λn s=>s=(n:Int)/\∀(i:Nat)x,i<n->(ins l)[i]?=some x->eY x c.l) ⟨rfl,λi x h=>absurd h Zaa⟩ ?_ ?_
 .rintro n _ w ⟨rfl,L⟩;obtain⟨y,A⟩:=Y _ (getElem_mem w);unfold ij.bp;rw[jP w,bF,bG w,ζb,Lx y b A,ζb,ζb]
  by_cases e:eY l.l[n].l c.l
  .rw[decide_eq_true e,bF,bf];refine⟨cR n Zaa,λi x hi u=>?_⟩
   by_cases e2:i=n
   .subst e2;rw[zH w]at u;cases u;exact e
   exact L i x Zaa u
  rw[decide_eq_false e,bE,bf];exact a n Zaa L λx u=>by rw[zH w]at u;cases u;exact e
 rintro _ ⟨rfl,L⟩;unfold ij.bp;rw[jQ,bE,ζb,bE,bf];exact a _ (le_refl _) L λx u=>by have:=(ζe.1 u).1;rw[lX]at this;omega
section
variable{t:Trace}{A:cq 200 bD}
structure fJ(t:Trace)(A:cq 200 bD)(L:List (List Int)):Prop where
 srt:L.Pairwise eY
 mem:∀d,d∈L↔Cons t A d
def Ch(t:Trace)(A:cq 200 bD):Prop:=∃L:L' (L' Int),L.Nodup/\(∀d∈L,Cons t A d)/\5000<L.length
theorem fJ.one{L R:L' (L' Int)}(h:fJ t A L)(k:fJ t A R):L=R:=EG h.srt k.srt λx=>(h.mem x).trans (k.mem x).symm
theorem fJ.not{L:L' (L' Int)}(h:fJ t A L)(B:L.length<=5000)(k:Ch t A):False:=by obtain⟨R,nd,w,u⟩:=k;have:=Ab nd λx z=>(h.mem x).2 (w x z);omega
theorem G7{k:Nat}{o l:L' (L' Int)}(c:∀d,d∈l↔Cons t A d/\d.sum=(k:Int))(D:l.Pairwise eY)(G:o.Pairwise eY)(B:∀d,d∈o↔Cons t A d/\d.sum<(k:Int)):
 (o++l).Pairwise eY/\∀d,d∈o++l↔Cons t A d/\d.sum<((k+1:Nat):Int):=by
 refine⟨pairwise_append.2 ⟨G,D,λa w b z=>eY.sum (by have:=((B a).1 w).2;have:=((c b).1 z).2;omega)⟩,λd=>?_⟩
 rw[mem_append,B,c];constructor
 .rintro (⟨h,k1⟩|⟨h,k1⟩)
  .exact⟨h,Zaa⟩
  exact⟨h,Zaa⟩
 rintro⟨h,k1⟩
 by_cases u:d.sum<(k:Int)
 .exact .inl ⟨h,u⟩
 exact .inr ⟨h,Zaa⟩
theorem Qz(F:Small t)(i:VT t)(q:fR t (bO t) A):Wp (eT t) λr=>(r.2=true/\fJ t A (ins r.1)/\r.1.l.length<=5000)\/(r.2=false/\r.1=.nil/\Ch t A):=by
 have P:=i.few;unfold eT tV;rw[if_pos ⟨by simp[len],by simp[len];omega⟩,ζb];unfold eT.W1;have fin:∀(k:Nat)(u out:Sl (Sl Int)),AB t A k u->u.l.length=0->(ins out).Pairwise eY->(∀d,d∈ins out↔Cons t A d/\d.sum<(k:Int))->fJ t A (ins out):=λk u out b L G O=>⟨G,λd=>(O d).trans ⟨λh=>h.1,λh=>⟨h,b.none i q L h⟩⟩⟩
 refine fH (sU t+1) (λk s=>AB t A k s.1/\(ins s.1).Pairwise eY/\(ins s.2).Pairwise eY/\(∀d,d∈ins s.2↔Cons t A d/\d.sum<(k:Int))/\s.1.l.length<=40000/\s.2.l.length<=5000)
  ⟨SO (by simp[Sl.l,len]),by simp[ins,Sl.l],by simp[ins,Sl.l],λd=>⟨λh=>by simp[ins,Sl.l]at h,λh=>absurd (rK h.1.1.pos) (by have:=h.2;simp at this;omega)⟩,by simp[Sl.l],by simp[Sl.l]⟩ ?_ ?_
 rintro k ⟨u,out⟩ R ⟨b,C,w,G,O,Q⟩;simp only at b C w G O Q;unfold eT.bp;rw[DW];by_cases L:u.l.length=0;rw[show(!decide (u.l.length=0))=false from by simp[L],bE,bf];exact(bf _).2 (.inl ⟨rfl,fin k u out b L w G,Q⟩);rw[show(!decide (u.l.length=0))=true from by simp[L],bF];obtain⟨x,H,S⟩:=Cn (s:=out) (x:=u) Zaa;have X:ins x=ins out++ins u:=by unfold ins;rw[S];simp
 obtain⟨o1,o2⟩:=G7 b C w G;rw[<-X]at o1 o2;rw[H,ζb,b_];refine⟨λJ=>(bf _).2 ((bf _).2 (.inr ⟨rfl,rfl,ins x,eY.nodup o1,λd hd=>((o2 d).1 hd).1,?_⟩)),λJ=>?_⟩;rw[lX];simp[len]at J;omega;have J:x.l.length<=5000:=by simp[len]at J;omega
 have V:u.l.length<=5000:=by rw[S,ζi]at J;omega
 have o:∀d,Cons t A d->G5 d/\d.length=t.procs.l.length:=λd h=>⟨LB F i h,h.1.1⟩;unfold eT.W2;refine fH u.l.length (λn s=>s.2=(n:Int)/\s.1.l.length<=8*n/\(ins s.1).Pairwise eY/\∀d,d∈ins s.1↔∃c∈(u.l.take n).map Sl.l,Dh t A c d) ⟨rfl,zero_le _,by simp[ins,Sl.l],λd=>by simp[ins,Sl.l]⟩ ?_ ?_;rintro n ⟨more,_⟩ B ⟨e,g1,j,g2⟩;simp only at e g1 j g2;subst e;unfold eT.bV;have Y:=(b u.l[n].l).1 (pY.2 ⟨_,getElem_mem B,rfl⟩);rw[jP B,bF,bG B,ζb,ec];refine(V0 F i q Y.1).mono λnx W=>?_;unfold eT.W3;refine fH nx.l.length (λm s=>s.2=(m:Int)/\s.1.l.length<=8*n+m/\(ins s.1).Pairwise eY/\∀d,d∈ins s.1↔d∈ins more\/d∈(nx.l.take m).map Sl.l) ⟨rfl,g1,j,λd=>Zab⟩ ?_ ?_;rintro m ⟨Z,_⟩ D ⟨e,v,fs,g⟩;simp only at e v fs g;subst e;unfold eT.eU;rw[jP D,bF,bG D,ζb,ec];have K:=(W.2 nx.l[m].l).1 (pY.2 ⟨_,getElem_mem D,rfl⟩);obtain⟨_,_,_,_,T⟩:=K;refine(K0 (l:=Z) (c:=nx.l[m]) (λy M=>?_) (o _ T).1 Zaa fs).mono λr E=>?_;have U:Cons t A y.l:=by rcases(g y.l).1 (pY.2 ⟨_,M,rfl⟩)with h|h;obtain⟨_,_,p,a,_,_,k⟩:=(g2 y.l).1 h;exact k;obtain⟨z,N,e⟩:=mem_map.1 h;obtain⟨p,a,_,_,k⟩:=(W.2 z.l).1 (pY.2 ⟨_,mem_of_mem_take N,rfl⟩);rw[<-e];exact k
 exact⟨(o _ U).1,(o _ U).2.trans (o _ T).2.symm⟩;refine(bf _).2 ⟨cR m Zaa,Nat.le_trans E.1 Zaa,E.2.1,λd=>?_⟩;rw[E.2.2,g,xF D,or_assoc];rintro⟨Z,_⟩ ⟨e,v,fs,g⟩;simp only at e v fs g;subst e;unfold eT.eU;rw[jQ,bE,bf];refine(bf _).2 ⟨cR n Zaa,show Z.l.length<=_ by omega,fs,λd=>?_⟩;rw[g,take_length];constructor;rintro(h|h);obtain⟨c,f,I⟩:=(g2 d).1 h;exact⟨c,(xF B).2 (.inl f),I⟩;exact⟨_,(xF B).2 (.inr rfl),(W.2 d).1 h⟩;rintro⟨c,f,I⟩;rcases(xF B).1 f with h|h;exact .inl ((g2 d).2 ⟨c,h,I⟩);subst h;exact .inr ((W.2 d).2 I);rintro⟨more,_⟩ ⟨e,g1,j,g2⟩;simp only at e g1 j g2;subst e;unfold eT.bV;rw[jQ,bE,bf];refine(bf _).2 ⟨λd=>?_,j,o1,o2,show more.l.length<=_ by omega,J⟩;rw[g2,take_length,<-Dh.iff i q (k:=k)];exact⟨λ⟨c,f,I⟩=>⟨c,(b c).1 f,I⟩,λ⟨c,f,I⟩=>⟨c,(b c).2 f,I⟩⟩;rintro⟨u,out⟩ ⟨b,C,w,G,O,Q⟩;simp only at b C w G O Q;unfold eT.bp;rw[DW,show(!decide (u.l.length=0))=false from by simp[b.last],bE,bf];exact(bf _).2 (.inl ⟨rfl,fin _ u out b b.last w G,Q⟩)
theorem Tu(a:VT t)(b:Small t):sU t<8589934600:=by
 have key:∀(l:L' bU),(∀p∈l,p.events.l.length<1073741824)->(l.map λP=>P.events.l.length).sum<=1073741824*l.length:=by intro l;induction l with|nil=>intro _;simp|cons x l u=>intro h;have c:=h x Zab;have w:=u λy z=>h y (mem_cons_of_mem _ z);simp only[map_cons,sum_cons,length_cons];omega
 have c:=key t.procs.l λp B=>(b.2 p B).1;have w:=a.few;unfold sU;omega
theorem Wy{k:Int}{L:L' (L' Int)}(nd:L.Nodup)(B:L.Pairwise λx y=>¬fL y x<0)(a:∀d∈L,d.sum=k):L.Pairwise eY:=by
 refine(B.and nd).imp_of_mem λ{x y}u w h=>?_;have e:x.sum=y.sum:=by rw[a x u,a y w]
 rw[eY.I6 e];by_cases q:fL x y<0;exact q;exact absurd (zD _ _ q h.1) h.2
theorem QA(c:Small t)(i:cQ t=some true)(b:VT t)(g:fR t (bO t) A):
 Wp (th t) λr=>(r.2=0/\fJ t A (ins r.1)/\r.1.l.length<=5000)\/(r.2=16/\r.1=.nil/\Ch t A):=by
 have S:=b.few;have Y:=Tu b c;unfold th ki;rw[i,ζb,bF,ec,ec];refine(of_wp c i b g).mono λm T=>?_
 unfold tV;rw[if_pos ⟨by simp[len],by simp[len];omega⟩,ζb]
 have fin:∀(k:Nat)(u:Sl (Sl Int))(out:Sl (Sl (Sl Int))),AB t A k u->u.l.length=0->(out.l.flatMap ins).Pairwise eY->(∀d,d∈out.l.flatMap ins↔Cons t A d/\d.sum<(k:Int))->out.l.length<=5000->(out.l.flatMap ins).length<=5000->
  Wp ((f_ out).bind λD=>some (D,(0:Int))) λr=>(r.2=0/\fJ t A (ins r.1)/\r.1.l.length<=5000)\/(r.2=16/\r.1=.nil/\Ch t A):=λk u out a G C U Z W=>by
  have w:(out.l.flatMap Sl.l).map Sl.l=out.l.flatMap ins:=by rw[List.map_flatMap];rfl
  have j:(Bx out).l=out.l.flatMap Sl.l:=by
   unfold Bx;split;next h=>exact(List.length_eq_zero_iff.1 h).symm
   rfl
  unfold f_;rw[if_pos ⟨Zaa,by rw[<-List.length_map (f:=Sl.l),w];omega⟩,ζb,bf]
  have e:ins (Bx out)=out.l.flatMap ins:=by unfold ins at w⊢;rw[j];exact w
  refine .inl ⟨rfl,⟨by rw[e];exact C,λd=>by rw[e];exact(U d).trans ⟨λh=>h.1,λh=>⟨h,a.none b g G h⟩⟩⟩,?_⟩
  show(Bx out).l.length<=5000;rw[j,<-List.length_map (f:=Sl.l),w];exact W
 unfold ki.W1;refine fH (sU t+1) (λk s=>AB t A k s.1/\(ins s.1).Pairwise eY/\(s.2.1.l.flatMap ins).Pairwise eY/\(∀d,d∈s.2.1.l.flatMap ins↔Cons t A d/\d.sum<(k:Int))/\s.2.2=((s.2.1.l.flatMap ins).length:Int)/\s.2.1.l.length<=(s.2.1.l.flatMap ins).length/\(s.2.1.l.flatMap ins).length<=5000/\s.1.l.length<=40000)
  ⟨SO (by simp[Sl.l,len]),by simp[ins,Sl.l],by simp[Sl.l],λd=>⟨λh=>by simp[Sl.l]at h,λh=>absurd (rK h.1.1.pos) (by have:=h.2;simp at this;omega)⟩,by simp[Sl.l],by simp[Sl.l],by simp[Sl.l],by simp[Sl.l]⟩ ?_ ?_
 .rintro k ⟨u,out,tot⟩ hk ⟨a,B,z,C,L,O,I,Q⟩;simp only at a B z C L O I Q;obtain⟨o1,o2⟩:=G7 a B z C;unfold ki.bp;rw[DW]
  by_cases G:u.l.length=0
  .rw[show(!decide (u.l.length=0))=false from by simp[G],bE,bf]
   exact(bf _).2 (fin k u out a G z C Zaa I)
  rw[show(!decide (u.l.length=0))=true from by simp[G],bF,L]
  have X:wrap .i64 (((out.l.flatMap ins).length:Int)+len u)=(((out.l.flatMap ins).length+u.l.length:Nat):Int):=by have e:len u=(u.l.length:Int):=rfl;rw[e,eF _ Zaa Zaa];omega
  rw[X,b_];refine⟨λJ=>(bf _).2 ((bf _).2 ?_),λJ=>?_⟩
  .show Wp (((f_ (Sl.nil:Sl (Sl (Sl Int)))).bind λD=>some (D,(16:Int)))) _
   have e0:f_ (Sl.nil:Sl (Sl (Sl Int)))=some .nil:=by unfold f_;rfl
   rw[e0,ζb,bf];refine .inr ⟨rfl,rfl,out.l.flatMap ins++ins u,eY.nodup o1,λd hd=>((o2 d).1 hd).1,?_⟩
   have J:=of_decide_eq_true J;rw[ζi,lX];omega
  have J:=of_decide_eq_false J;obtain⟨o3,g1,g2⟩:=nH (s:=out) (x:=u) Zaa
  rw[g1,ζb,ec];refine(Sf c b g T a Zaa).mono λr⟨r1,r2,r3,r4⟩=>?_
  have w:o3.l.flatMap ins=out.l.flatMap ins++ins u:=by rw[g2];simp
  refine(bf _).2 ⟨r1,Wy r2 r4 λd hd=>((r1 d).1 hd).2,by rw[w];exact o1,λd=>by rw[w];exact o2 d,by rw[w,ζi,lX],?_,?_,r3⟩
  .show o3.l.length<=_;rw[w,ζi,lX,g2,ζi,length_singleton];omega
  rw[w,ζi,lX];omega
 rintro⟨u,out,tot⟩ ⟨a,B,z,C,L,O,I,Q⟩;simp only at a B z C L O I Q;unfold ki.bp;rw[DW,show(!decide (u.l.length=0))=false from by simp[a.last],bE,bf]
 exact(bf _).2 (fin _ u out a a.last z C Zaa I)
theorem Em(a:Small t)(g:cQ t=some true)(c:VT t)(d:fR t (bO t) A):
 (∃L r s,fJ t A L/\L.length<=5000/\th t=some (r,0)/\eT t=some (s,true)/\ins r=L/\ins s=L)\/
 (th t=some (.nil,16)/\eT t=some (.nil,false)):=by
 obtain⟨⟨r,e⟩,f,h⟩:=QA a g c d;obtain⟨⟨s,b⟩,w,z⟩:=Qz a c d;rcases h with⟨rfl,k1,k2⟩|⟨rfl,rfl,k1⟩
 .rcases z with⟨rfl,u,B⟩|⟨rfl,rfl,u⟩
  .exact .inl ⟨ins r,r,s,k1,by rw[lX];exact k2,f,w,rfl,u.one k1⟩
  exact(k1.not (by rw[lX];exact k2) u).elim
 rcases z with⟨rfl,u,B⟩|⟨rfl,rfl,u⟩
 .exact(u.not (by rw[lX];exact B) k1).elim
 exact .inr ⟨f,w⟩
end
theorem La{t:Trace}(e:Small t)(f:cQ t=some true)(d:VT t){A:cq 200 bD}(g:fR t (bO t) A)(c:Sl Int):Wp (jE t c) λr=>Code t A c.l r.2:=by
 have D:=d.few;unfold jE;rw[ec];refine(PA e f d g c).mono λr b=>?_;rw[b_];constructor;intro a;have a:r=0:=by simpa using a
 have j:=b.zero.1 a;have B:=j.1.1;unfold jE.W1;refine fK (λs:Sl aZ×Int=>∃n:Nat,s.2=n/\n<=c.l.length/\s.1.l.length<=n) (λs=>c.l.length-s.2.toNat) ⟨0,rfl,zero_le _,le_refl _⟩ ?_;rintro⟨o,i⟩ ⟨n,hi,G,C⟩;simp only at hi C;subst hi;unfold jE.bp;rw[b_];constructor;intro h;have w:n<c.l.length:=by simpa[len]using h
 have z:=cR n Zaa;have u:c.l.length-(wrap .i64 ((n:Int)+1)).toNat<c.l.length-((n:Int)).toNat:=by rw[z];simp;omega
 rw[bG w,ζb,b_];constructor;intro _;unfold ga;rw[if_pos (show o.l.length+1<=2147483648 from Zaa),ζb,bf];exact⟨⟨n+1,z,Zaa,by show(o.l++[_]).length<=n+1;rw[ζi,length_singleton];omega⟩,u⟩;intro _;exact(bf _).2 ⟨⟨n+1,z,Zaa,show o.l.length<=n+1 from Zaa⟩,u⟩;intro _;exact(bf _).2 ((bf _).2 (a▸b));intro a;exact(bf _).2 b
end Go.VE
namespace Go.VE
theorem Code.one{t:Trace}{A:cq 200 bD}{c:L' Int}{r s:Int}(h:Code t A c r)(g:Code t A c s):r=s:=by rcases h with⟨h,rfl⟩|⟨a,u,rfl⟩|⟨a,u,rfl⟩|⟨a,u,rfl⟩<;>rcases g with⟨g,rfl⟩|⟨g1,g2,rfl⟩|⟨g1,g2,rfl⟩|⟨g1,g2,rfl⟩<;>first|rfl|contradiction|exact absurd ‹qB t c›.1 ‹_›
section
variable{t:Trace}{A:cq 200 bD}
end
section
variable{t:Trace}{A:cq 200 bD}
end
section
variable{t:Trace}{A:cq 200 bD}
theorem QM(g:Small t)(h:cQ t=some true)(i:VT t)(j:fR t (bO t) A){c:Sl Int}(d:Cons t A c.l){p q:Nat}(hp:p<t.procs.l.length)(D:q<t.procs.l.length):
 dx t (Sl.row [c]:Sl (Sl Int)) (Sl.row [(p:Int),(q:Int)]:Sl Int)=some 0:=by
 refine Wp.eq ?_;have u:=d.1.1;unfold dx yA;rw[h,ζb,bF,xH (f:=λz=>(kD z t).getD false) (λz _=>MB.ok ((bf _).2 trivial)) (by simp[Sl.l]),ζb,ζb,ζb]
 have w:(!((Sl.row [c]:Sl (Sl Int)).l.any λz=>(kD z t).getD false))=true:=by simp[Sl.l,kD,len,u]<;>exact congrArg Int.ofNat u
 rw[w,bF];unfold dx.W1;refine fH 1 (λn s=>s=(n:Int)) rfl ?_ ?_
 .rintro n _ B rfl;obtain rfl:n=0:=by omega
  unfold dx.bp;rw[show decide (((0:Nat):Int)<len (Sl.row [c]:Sl (Sl Int)))=true from rfl,bF,show idx (Sl.row [c]:Sl (Sl Int)) ((0:Nat):Int)=some c from rfl,ζb,ec];refine(DZ g u).mono λb C=>?_
  rw[C.2 d.1,bF];exact(bf _).2 rfl
 rintro _ rfl;unfold dx.bp;rw[show decide (((1:Nat):Int)<len (Sl.row [c]:Sl (Sl Int)))=false from rfl,bE,bf];have a:∀r:Nat,r<t.procs.l.length->vo t r=some true:=λr e=>by unfold vo;rw[show decide ((r:Int)>=0)=true from Zab,bF,jP e];rfl
 show Wp (dx.W2 (Sl.row [c]) (Sl.row [(p:Int),(q:Int)]) 2 0 t) _;unfold dx.W2;refine fH 2 (λn s=>s=(n:Int)) rfl ?_ ?_
 .rintro n _ B rfl;unfold dx.bV;rw[show decide ((n:Int)<2)=true from by simp;omega,bF]
  have G:∃r:Nat,idx (Sl.row [(p:Int),(q:Int)]) (n:Int)=some (r:Int)/\r<t.procs.l.length:=by rcases(show n=0\/n=1 by omega)with rfl|rfl;exact⟨p,rfl,hp⟩;exact⟨q,rfl,D⟩
  obtain⟨r,k,I⟩:=G;rw[k,ζb,a r I,ζb,bF];exact(bf _).2 (cR n Zaa)
 rintro _ rfl;unfold dx.bV;rw[show decide (((2:Nat):Int)<2)=false from rfl,bE,bf];show Wp (dx.W3 (Sl.row [c]) 1 0 t) _;unfold dx.W3;refine fH 1 (λn s=>s=(n:Int)) rfl ?_ ?_
 .rintro n _ B rfl;obtain rfl:n=0:=by omega
  unfold dx.eU;rw[show decide (((0:Nat):Int)<1)=true from rfl,bF,show idx (Sl.row [c]:Sl (Sl Int)) ((0:Nat):Int)=some c from rfl,ζb];unfold wD;rw[ec,ec];refine(EX g h i j d.1).mono λr e=>?_
  rw[bf,e.2 d.2];exact(bf _).2 rfl
 rintro _ rfl;unfold dx.eU;rw[show decide (((1:Nat):Int)<1)=false from rfl,bE,bf];exact(bf _).2 rfl
theorem Sk(b:Small t)(c:cQ t=some true)(kind m:Int):iH t kind m=some (match(bO t).find? (lK kind m)with|some x=>(x.1,true)|none=>(⟨0,0⟩,false)):=by
 refine Wp.eq ?_;unfold iH;rw[c,ζb,bF];unfold jD;rw[ζb];unfold iH.E1;rw[tY b,ζb];refine zm (λk _=>((bO t).take k).find? (lK kind m)=none) Zab ?_ ?_;intro k y _ z u;have w:(bO t).take (k+1)=(bO t).take k++[y]:=by rw[take_add_one,z];rfl
 have B:(y.2.kind==kind&&y.2.message==m)=lK kind m y:=rfl;unfold iH.jZ;rw[nL,ζb,B,b_];constructor;intro a;refine(bf _).2 ((bf _).2 ?_);have:(bO t).find? (lK kind m)=some y:=by rw[<-take_append_drop (k+1) (bO t),w,find?_append,find?_append,u];simp[a]
 rw[this];intro a;rw[bf,w,find?_append,u];simp[a];intro _ u;rw[take_length]at u;exact(bf _).2 (by rw[u])
theorem Si(f:Small t)(g:cQ t=some true)(h:VT t)(i:fR t (bO t) A){c:Sl Int}(d:Cons t A c.l){p q:Nat}(hp:p<t.procs.l.length)(J:q<t.procs.l.length):
 Wp (iV t c p q) λr=>r.2=0/\(r.1.l.length:Int)=under t c.l p q:=by
 have I:=ζd hp;obtain⟨a,L⟩:=d.1.at_ hp;obtain⟨b,C⟩:=d.1.at_ J;rw[GM h i d I (ζd J) L C];have Y:=(f.2 _ (getElem_mem hp)).1;obtain⟨a0,a1⟩:=d.1.2 p a _ L I;generalize Z:t.procs.l[p]=P at *;unfold iV;rw[QM f g h i d hp J,ζb,show((0:Int)==0)=true from rfl,bF,kJ,I,ζb,show idx c (p:Int)=some a from by rw[kJ];exact L,ζb]
 obtain⟨y,X,D⟩:=tD P.events a.toNat Zaa
 rw[show((a.toNat:Nat):Int)=a from Zaa]at X
 rw[X,ζb,<-D];have H:y.l.length<=P.events.l.length:=by rw[D,length_take];omega
 unfold iV.W1;refine fH y.l.length (λn s=>s.2.1=len y/\s.2.2=(n:Int)/\s.1.l.length=(y.l.take n).countP λe=>gy q e&&rq t c.l e) ⟨rfl,rfl,rfl⟩ ?_ ?_
 .rintro n ⟨o,_,_⟩ w ⟨e1,e2,z⟩;simp only at e1 e2 z;subst e1 e2;have O:=List.countP_le_length (p:=λe=>gy q e&&rq t c.l e) (l:=y.l.take n)
  rw[length_take]at O;have u:(y.l.take (n+1)).countP (λe=>gy q e&&rq t c.l e)=o.l.length+if gy q y.l[n]&&rq t c.l y.l[n]then 1 else 0:=by rw[take_add_one,ζd w,List.countP_append,z];show _+List.countP _ [y.l[n]]=_;rw[countP_cons,List.countP_nil];simp
  have Q:=cR n Zaa
  unfold iV.bp;rw[jP w,bF,bG w,ζb];generalize y.l[n]=e at u;have S:(bg (e.kind==2) (some (!(e.peer==(q:Int)))) (some true):Lk Bool)=some (!gy q e):=by unfold gy;cases e.kind==2<;>cases e.peer==(q:Int)<;>rfl
  rw[S,ζb,b_];refine⟨λB=>(bf _).2 ⟨rfl,Q,by rw[u,show gy q e=false from by simpa using B];rfl⟩,λB=>?_⟩
  have B:gy q e=true:=by simpa using B
  unfold uX;rw[Sk f g,ζb,ζb];have k:(bg (match(bO t).find? (lK 3 e.message)with|some x=>(x.1,true)|none=>((⟨0,0⟩:aZ),false)).2 ((idx c (match(bO t).find? (lK 3 e.message)with|some x=>(x.1,true)|none=>((⟨0,0⟩:aZ),false)).1.proc).bind λT=>some (decide ((match(bO t).find? (lK 3 e.message)with|some x=>(x.1,true)|none=>((⟨0,0⟩:aZ),false)).1.index>T))) (some true):Lk Bool)=some (rq t c.l e):=by
   unfold rq gX;cases m:(bO t).find? (lK 3 e.message)with|none=>rfl|some x=>
    obtain⟨U,j,⟨K,W,_⟩,v⟩:=dQ.1 (wH m).1;have G:U<c.l.length:=by rw[d.1.1];exact(ζe.1 W).1
    simp only[v,bF];rw[bG G,ζb,show((U:Nat):Int).toNat=U from rfl,ζd G,show(((j:Int)+1)==0)=false from by simp;omega,Bool.false_or];rfl
  rw[k,ζb,b_];refine⟨λC=>?_,λC=>(bf _).2 ⟨rfl,Q,by rw[u,B,C];rfl⟩⟩
  obtain⟨r,E,F⟩:=nH (s:=o) (x:=e.message) Zaa
  rw[E,ζb,bf];exact⟨rfl,Q,by rw[F,u,B,C,ζi];rfl⟩
 rintro⟨o,_,_⟩ ⟨e1,e2,z⟩;simp only at e1 e2 z;subst e1 e2;unfold iV.bp;rw[jQ,bE,bf];refine(bf _).2 ⟨rfl,?_⟩;rw[take_length]at z;simp only[z]
end
section
variable{t:Trace}{A:cq 200 bD}
theorem Gi(a:VT t){p:Nat}{P:bU}(B:t.procs.l[p]?=some P):P.events.l.length<=64:=by have h:=a.ok.heads p (ζe.1 B).1;unfold rz at h;rw[B]at h;simp only at h;split at h;split at h;cases h;split at h;split at h;cases h;omega;rename_i u;exact absurd h u;cases h
end
abbrev lF(m:Lk Bool)(P:Prop):Prop:=Wp m λb=>(b=true↔P)
theorem lF.eq{m:Lk Bool}{P:Prop}(h:lF m P):∃b,m=some b/\(b=true↔P):=h
theorem lF.iff{m:Lk Bool}{P Q:Prop}(h:lF m P)(e:P↔Q):lF m Q:=h.mono λb u=>u.trans e
theorem Cc{b:Bool}{P:Prop}(h:b=true↔P):lF (some b) P:=(bf _).2 h
theorem lF.some{m:Lk Bool}{P:Prop}(h:lF m P):lF (m.bind λx=>Option.some x) P:=by obtain⟨b,u,h⟩:=h;rw[u];exact Cc h
theorem lF.same{m n:Lk Bool}{P:Prop}(h:lF m P)(k:lF n P):∃b,m=Option.some b/\n=Option.some b/\(b=true↔P):=by
 obtain⟨b,u,h⟩:=h;obtain⟨d,hd,k⟩:=k;have:b=d:=by rw[Bool.eq_iff_iff,h,k]
 subst this;exact⟨b,u,hd,h⟩
theorem lF.and{m n:Lk Bool}{P Q:Prop}(h:lF m P)(k:P->lF n Q){f:Bool->Lk Bool}(B:∀b,f b=bg b (n.bind λx=>Option.some x) (Option.some false)):lF (m.bind f) (P/\Q):=by obtain⟨b,u,h⟩:=h;rw[u,ζb,B];cases b with|true=>exact((k (h.1 rfl)).some).iff ⟨λq=>⟨h.1 rfl,q⟩,λq=>q.2⟩|false=>exact Cc ⟨λe=>(nomatch e),λq=>(h.2 q.1).symm▸rfl⟩
theorem Td{step:Int->Lk (Fw Int Unit Unit)}{n:Nat}{P:Nat->Prop}(h:∀i,i<n->(∀j,j<i->P j)->Wp (step (i:Int)) λw=>P i/\w=.n ((i+1:Nat):Int)\/¬P i/\w=.r ())(B:(∀j,j<n->P j)->step (n:Int)=some (.x ())):
 Wp (bT step 0) λw=>(∀i,i<n->P i)/\w=.x ()\/(¬∀i,i<n->P i)/\w=.r ():=by
 have key:∀m k,k+m=n->(∀j,j<k->P j)->Wp (bT step (k:Int)) λw=>(∀i,i<n->P i)/\w=.x ()\/(¬∀i,i<n->P i)/\w=.r ():=by
  intro m;induction m with|zero=>intro k b u;have:k=n:=Zaa;subst this;rw[eB,B u,ζb];exact(bf _).2 (.inl ⟨u,rfl⟩)|succ m C=>
   intro k b u;rw[eB,ec];refine(h k Zaa u).mono ?_;rintro w (⟨a,rfl⟩|⟨a,rfl⟩);exact C (k+1) Zaa λj z=>by rcases Nat.lt_or_eq_of_le (Nat.lt_succ_iff.1 z)with z|rfl;exact u j z;exact a
   exact(bf _).2 (.inr ⟨λk2=>a (k2 k Zaa),rfl⟩)
 exact key n 0 Zaa λj z=>absurd z Zaa
theorem QW{step:Int->Lk (Fw Int Unit Unit)}{n:Nat}{P:Nat->Prop}(h:∀i,i<n->(∀j,j<i->P j)->Wp (step (i:Int)) λw=>P i/\w=.n ((i+1:Nat):Int)\/¬P i/\w=.r ())(B:(∀j,j<n->P j)->step (n:Int)=some (.x ())):
 lF ((bT step 0).bind (Fw.elim (λ_=>some true) (λ_=>some false))) (∀i,i<n->P i):=by
 rw[lF,ec];refine(Td h B).mono ?_;rintro w (⟨a,rfl⟩|⟨a,rfl⟩)
 .exact Cc ⟨λ_=>a,λ_=>rfl⟩
 exact Cc ⟨λe=>(nomatch e),λu=>absurd u a⟩
theorem Qb{b:Bool}{P:Prop}{n:Int}{k:Nat}(h:b=true↔¬P)(B:n=((k+1:Nat):Int)):Wp (bg b (some (.r ())) (some (.n n))) λw:Fw Int Unit Unit=>P/\w=.n ((k+1:Nat):Int)\/¬P/\w=.r ():=by cases b with|true=>exact(bf _).2 (.inr ⟨h.1 rfl,rfl⟩)|false=>exact(bf _).2 (.inl ⟨byContradiction λq=>(nomatch h.2 q),by rw[B]⟩)
def ig(a b:L' Int):Prop:=a.length=b.length/\∀(p:Nat)(x y:Int),a[p]?=some x->b[p]?=some y->x<=y
theorem Yf{a b:L' Int}(B:a.length=b.length):(∀i,i<a.length->∀x y,a[i]?=some x->b[i]?=some y->x<=y)↔ig a b:=⟨λh=>⟨B,λp x y u w=>h p (ζe.1 u).1 x y u w⟩,λh i _ x y u w=>h.2 i x y u w⟩
theorem VS{a b:Sl Int}(J:a.l.length<1073741824){step:Int->Lk (Fw Int Unit Unit)}
 (G:∀i,step i=bg (decide (i<len a)) ((idx a i).bind λB=>(idx b i).bind λD=>bg (decide (B>D)) (some (.r ())) (some (.n (wrap .i64 (i+1))))) (some (.x ()))):
 lF (bg ((len a)==(len b)) ((bT step 0).bind (Fw.elim (λ_=>some true) (λ_=>some false))) (some false)) (ig a.l b.l):=by
 by_cases u:a.l.length=b.l.length
 .rw[show((len a)==(len b))=true from by simp[len,u],bF]
  refine(QW (n:=a.l.length) (P:=λi=>∀x y,a.l[i]?=some x->b.l[i]?=some y->x<=y) ?_ ?_).iff (Yf u)
  .intro i hi _;have w:i<b.l.length:=by omega
   rw[G,jP hi,bF,bG hi,ζb,bG w,ζb];refine Qb ?_ (cR i Zaa)
   rw[decide_eq_true_eq];constructor
   .intro h k;have:=k _ _ (ζd hi) (ζd w);omega
   intro h;refine byContradiction λI=>h λx y z C=>?_
   rw[ζd hi]at z;rw[ζd w]at C;cases z;cases C;omega
  intro _;rw[G,jQ,bE]
 rw[show((len a)==(len b))=false from by simp[len];omega,bE]
 exact Cc ⟨λe=>(nomatch e),λh=>absurd h.1 u⟩
theorem Re{a b:Sl Int}(B:a.l.length<1073741824):lF (rm a b) (ig a.l b.l):=VS B λi=>rfl
section
variable{t:Trace}{A:cq 200 bD}
theorem YP(a:Small t)(b:cQ t=some true)(d:VT t)(e:fR t (bO t) A)(c:Sl Int):lF (rE t c) (Cons t A c.l):=by obtain⟨r,f,h⟩:=SI a b d e c;unfold rE;rw[f,ζb];exact Cc (by rw[beq_iff_eq,h];exact Iff.rfl)
end
section
variable{t:Trace}{A:cq 200 bD}
def qh(g:Int->Int->Int)(a b c:L' Int):Prop:=c.length=a.length/\∀(p:Nat)(x y:Int),a[p]?=some x->b[p]?=some y->c[p]?=some (g x y)
def xG(x y:Int):Int:=if y>x then y else x
def uD(x y:Int):Int:=if y<x then y else x
theorem qh.of(g:Int->Int->Int){a b:L' Int}(h:a.length=b.length):qh g a b (zipWith g a b):=⟨by simp[h],λp x y u w=>by rw[List.getElem?_zipWith,u,w]⟩
theorem qh.at_{g:Int->Int->Int}{a b c:L' Int}(h:qh g a b c)(D:a.length=b.length){p:Nat}{z:Int}(B:c[p]?=some z):∃x y,a[p]?=some x/\b[p]?=some y/\z=g x y:=by
 have u:p<a.length:=by rw[<-h.1];exact(ζe.1 B).1
 refine⟨a[p],b[p]' Zaa,ζd u,ζd Zaa,?_⟩;have:=h.2 p _ _ (ζd u) (ζd (show p<b.length by omega));rw[B]at this;cases this;rfl
theorem uJ(x y:Int):(xG x y=x/\y<=x)\/(xG x y=y/\x<=y):=by unfold xG;split<;>omega
theorem uo(x y:Int):(uD x y=x/\x<=y)\/(uD x y=y/\y<=x):=by unfold uD;split<;>omega
theorem join_cons{a b c:L' Int}(B:Cons t A a)(D:Cons t A b)(h:qh xG a b c):Cons t A c:=by have L:a.length=b.length:=B.1.1.trans D.1.1.symm;refine⟨⟨h.1.trans B.1.1,λp z P C O=>?_⟩,λp k e z Q C f w=>?_⟩;obtain⟨x,y,G,I,rfl⟩:=h.at_ L C;have i:=B.1.2 p x P G O;have U:=D.1.2 p y P I O;rcases uJ x y with⟨e,_⟩|⟨e,_⟩<;>rw[e]<;>assumption;obtain⟨x,y,G,I,rfl⟩:=h.at_ L C;rcases uJ x y with⟨S,_⟩|⟨S,_⟩<;>rw[S]at f;obtain⟨u,d,J⟩:=B.2 p k e x Q G f w;have T:=(ζe.1 d).1;have g:=ζd (show(ag A e.message).from_.proc.toNat<b.length by omega);exact⟨_,h.2 _ _ _ d g,by rcases uJ u b[(ag A e.message).from_.proc.toNat]with⟨e2,_⟩|⟨e2,_⟩<;>rw[e2]<;>omega⟩;obtain⟨u,d,J⟩:=D.2 p k e y Q I f w;have T:=(ζe.1 d).1;have g:=ζd (show(ag A e.message).from_.proc.toNat<a.length by omega);exact⟨_,h.2 _ _ _ g d,by rcases uJ a[(ag A e.message).from_.proc.toNat] u with⟨e2,_⟩|⟨e2,_⟩<;>rw[e2]<;>omega⟩
theorem QD{a b c:L' Int}(B:Cons t A a)(D:Cons t A b)(h:qh uD a b c):Cons t A c:=by
 have Q:a.length=b.length:=B.1.1.trans D.1.1.symm;refine⟨⟨h.1.trans B.1.1,λp z P C S=>?_⟩,λp k e z T C g w=>?_⟩;obtain⟨x,y,G,I,rfl⟩:=h.at_ Q C;have i:=B.1.2 p x P G S;have X:=D.1.2 p y P I S;rcases uo x y with⟨e,_⟩|⟨e,_⟩<;>rw[e]<;>assumption;obtain⟨x,y,G,I,rfl⟩:=h.at_ Q C;have J:(k:Int)<x:=by rcases uo x y with⟨L,_⟩|⟨L,_⟩<;>omega
 have O:(k:Int)<y:=by rcases uo x y with⟨L,_⟩|⟨L,_⟩<;>omega
 obtain⟨u,d,W⟩:=B.2 p k e x T G J w;obtain⟨v,f,U⟩:=D.2 p k e y T I O w;exact⟨_,h.2 _ _ _ d f,by rcases uo u v with⟨e2,_⟩|⟨e2,_⟩<;>rw[e2]<;>omega⟩
theorem ig.trans{a b c:L' Int}(h:ig a b)(k:ig b c):ig a c:=by
 refine⟨h.1.trans k.1,λp x z u w=>?_⟩;have B:p<b.length:=by rw[<-h.1];exact(ζe.1 u).1
 have e:=ζd B;exact Int.le_trans (h.2 p x _ u e) (k.2 p _ z e w)
theorem ig.refl(a:L' Int):ig a a:=⟨rfl,λp x y w u=>by rw[w]at u;cases u;exact Int.le_refl _⟩
theorem qh.le_max{a b c:L' Int}(h:qh xG a b c)(D:a.length=b.length):ig a c/\ig b c/\∀d,ig a d->ig b d->ig c d:=by refine⟨⟨h.1.symm,λp x z G u=>?_⟩,⟨D.symm.trans h.1.symm,λp y z I u=>?_⟩,λd J O=>⟨h.1.trans J.1,λp z w u L=>?_⟩⟩;obtain⟨Q,y,B,I,rfl⟩:=h.at_ D u;rw[G]at B;cases B;rcases uJ x y with⟨e2,_⟩|⟨e2,_⟩<;>rw[e2]<;>omega;obtain⟨x,S,G,C,rfl⟩:=h.at_ D u;rw[I]at C;cases C;rcases uJ x y with⟨e2,_⟩|⟨e2,_⟩<;>rw[e2]<;>omega;obtain⟨x,y,G,I,rfl⟩:=h.at_ D u;have e:=J.2 p x w G L;have T:=O.2 p y w I L;rcases uJ x y with⟨e2,_⟩|⟨e2,_⟩<;>rw[e2]<;>assumption
theorem qh.le_min{a b c:L' Int}(h:qh uD a b c)(D:a.length=b.length):ig c a/\ig c b/\∀d,ig d a->ig d b->ig d c:=by refine⟨⟨h.1,λp z x u G=>?_⟩,⟨h.1.trans D,λp z y u I=>?_⟩,λd J O=>⟨J.1.trans h.1.symm,λp w z L u=>?_⟩⟩;obtain⟨Q,y,B,I,rfl⟩:=h.at_ D u;rw[G]at B;cases B;rcases uo x y with⟨e2,_⟩|⟨e2,_⟩<;>rw[e2]<;>omega;obtain⟨x,S,G,C,rfl⟩:=h.at_ D u;rw[I]at C;cases C;rcases uo x y with⟨e2,_⟩|⟨e2,_⟩<;>rw[e2]<;>omega;obtain⟨x,y,G,I,rfl⟩:=h.at_ D u;have e:=J.2 p w x L G;have T:=O.2 p w y L I;rcases uo x y with⟨e2,_⟩|⟨e2,_⟩<;>rw[e2]<;>assumption
end
section
variable{t:Trace}{A:cq 200 bD}
theorem qh.one{g:Int->Int->Int}{a b c d:L' Int}(h:qh g a b c)(k:qh g a b d)(B:a.length=b.length):c=d:=by refine ext_getElem? λp=>?_;by_cases u:p<a.length;rw[h.2 p _ _ (ζd u) (ζd Zaa),k.2 p _ _ (ζd u) (ζd Zaa)];rw[getElem?_eq_none (by rw[h.1];omega),getElem?_eq_none (by rw[k.1];omega)]
def vv(l:Sl Bool)(i:Nat):Bool:=(l.l[i]?).getD false
theorem LU{l:Sl Bool}{i:Nat}(h:i<l.l.length):idx l (i:Int)=some (vv l i):=by rw[kJ,ζd h];unfold vv;rw[ζd h];rfl
end
section
variable{t:Trace}{A:cq 200 bD}
end
section
variable{t:Trace}{A:cq 200 bD}
theorem BG{L:L' (L' Int)}(h:L.Nodup){i:Nat}{c:L' Int}(a:L[i]?=some c):L.idxOf c=i:=by obtain⟨hi,e⟩:=ζe.1 a;rw[<-e];exact Nodup.idxOf_getElem h i hi
theorem wY{L:L' (L' Int)}{c:L' Int}(h:c∈L):L[L.idxOf c]?=some c:=by have hi:=List.idxOf_lt_length_of_mem h;rw[ζd hi,List.getElem_idxOf]
theorem qh.zip{g:Int->Int->Int}{a b c:L' Int}(h:qh g a b c)(B:a.length=b.length):c=zipWith g a b:=by refine h.one ⟨by simp[B],λp x y u w=>?_⟩ B;rw[List.getElem?_zipWith,u,w]
end
def wq(L:L' (L' Int))(c:L' Int):L' Nat:=(range c.length).filterMap λp=>if bump c p 1∈L then some (L.idxOf (bump c p 1))else none
theorem Ai{c:L' Int}{p:Nat}{d:Int}:(bump c p d).length=c.length:=by unfold bump;simp
theorem Rp{c:L' Int}{p:Nat}(h:p<c.length):(bump c p 1).sum=c.sum+1:=by unfold bump;have a:c[p]?=some c[p]:=ζd h;rw[uS a,a];simp;omega
theorem FC{L:L' (L' Int)}{c:L' Int}{k:Nat}:k∈wq L c↔∃p,p<c.length/\bump c p 1∈L/\k=L.idxOf (bump c p 1):=by
 unfold wq;rw[List.mem_filterMap];constructor;rintro⟨p,u,h⟩;split at h;next w=>cases h;exact⟨p,mem_range.1 u,w,rfl⟩
 cases h;rintro⟨p,u,w,rfl⟩;exact⟨p,mem_range.2 u,by rw[if_pos w]⟩
section
variable{t:Trace}{A:cq 200 bD}{L:L' (L' Int)}
theorem fJ.nodup(h:fJ t A L):L.Nodup:=eY.nodup h.srt
theorem fJ.lt(h:fJ t A L){i k:Nat}{c d:L' Int}(hi:L[i]?=some c)(a:L[k]?=some d)(B:c.sum<d.sum):i<k:=by rcases Nat.lt_trichotomy i k with g|g|g;exact g;subst g;rw[hi]at a;cases a;omega;obtain⟨u,rfl⟩:=ζe.1 hi;obtain⟨w,rfl⟩:=ζe.1 a;exact absurd ((List.pairwise_iff_getElem.1 h.srt k i w u g).tr (eY.sum B)) (eY.Qe _)
theorem Pq(h:fJ t A L){i k:Nat}{c:L' Int}(hi:L[i]?=some c)(a:k∈wq L c):i<k/\k<L.length:=by obtain⟨p,w,u,rfl⟩:=FC.1 a;exact⟨h.lt hi (wY u) (by rw[Rp w];omega),List.idxOf_lt_length_of_mem u⟩
theorem fJ.len(h:fJ t A L){c:L' Int}(a:c∈L):c.length=t.procs.l.length:=((h.mem _).1 a).1.1
end
section
variable{t:Trace}{A:cq 200 bD}{L:L' (L' Int)}
end
section
variable{L:L' (L' Int)}{f:Nat->Bool}
inductive Rc(L:List (List Int))(f:Nat->Bool):Nat->Prop
 |zero:Rc L f 0|step{i k:Nat}{c:List Int}:Rc L f i->f i=false->L[i]?=some c->k∈wq L c->Rc L f k
def Yz(L:L' (L' Int)):Prop:=∀(i k:Nat)c,L[i]?=some c->k∈wq L c->i<k/\k<L.length
open Classical in
end
def ps(L:L' (L' Int))(c:L' Int)(n:Nat):L' Nat:=(range n).filter λp=>decide (bump c p 1∈L)
theorem VF{c:L' Int}{p:Nat}{a:Int}(h:c[p]?=some a):bump c p 1=c.set p (a+1):=by unfold bump;rw[h];rfl
section
variable{t:Trace}{A:cq 200 bD}{L:L' (L' Int)}
theorem Yz.of(B:fJ t A L):Yz L:=λ_ _ _ h k=>Pq B h k
end
end Go.VE
namespace Go.VE
end Go.VE
namespace Go.VE
end Go.VE
namespace Go.VE
section
variable{L:L' (L' Int)}{f:Nat->Bool}
inductive OP(L:List (List Int))(f:Nat->Bool):Nat->Prop
 |last:f (L.length-1)=false->OP L f (L.length-1)|step{i k:Nat}{c:List Int}:f i=false->L[i]?=some c->k∈wq L c->OP L f k->OP L f i
theorem OP.no{i:Nat}(h:OP L f i):f i=false:=by cases h<;>assumption
end
section
variable{t:Trace}{A:cq 200 bD}{L:L' (L' Int)}
end
end Go.VE
namespace Go.VE
section
variable{t:Trace}{A:cq 200 bD}
end
theorem S6{κ ν:Type}[DecidableEq κ]{m:Mo κ ν}{k B:κ}{v z:ν}:ow (mJ m k v) B z=if B=k then v else ow m B z:=by unfold ow;induction m with|nil=>unfold mJ jM;by_cases h:B=k<;>simp[h,jM]|cons a m C=>obtain⟨a,w⟩:=a;unfold mJ;by_cases h:k=a;subst h;rw[if_pos rfl];by_cases u:B=k;simp[jM,u];simp[jM,u];rw[if_neg h];by_cases u:B=a;have:B≠k:=λe=>h (e▸u);simp[jM,u,Ne.symm h];simp only[jM,if_neg u];exact C
theorem Hp:∀(l:L' Int)(r:ByteArray),(l.foldl (λr n=>r.push (ofNat n.toNat)) r).data.toList=r.data.toList++l.map λn=>ofNat n.toNat
 |[],r=>Zab|a::l,r=>by rw[List.foldl_cons,Hp l];show(r.data.push _).toList++_=_;simp
theorem GJ(l:L' Int):(nj l).data.toList=l.map λn=>ofNat n.toNat:=by unfold nj;rw[Hp];rfl
def EW(l:L' Int):Prop:=∀x∈l,0<=x/\x<256
theorem Yt{a b:Int}(B:0<=a/\a<256)(D:0<=b/\b<256)(h:ofNat a.toNat=ofNat b.toNat):a=b:=by have:=congrArg UInt8.toNat h;simp[UInt8.toNat_ofNat']at this;omega
theorem JA:∀{a b:L' Int},EW a->EW b->(a.map λn=>ofNat n.toNat)=(b.map λn=>ofNat n.toNat)->a=b
 |[],[],_,_,_=>rfl|[],_::_,_,_,h=>by simp at h|_::_,[],_,_,h=>by simp at h|x::a,y::b,D,G,h=>by simp only[map_cons,List.cons.injEq]at h;rw[Yt (D x Zab) (G y Zab) h.1,JA (λz B=>D z (mem_cons_of_mem _ B)) (λz B=>G z (mem_cons_of_mem _ B)) h.2]
theorem Kw{a b:L' Int}(B:EW a)(D:EW b)(h:nj a=nj b):a=b:=JA B D (by rw[<-GJ,<-GJ,h])
section
variable{t:Trace}{A:cq 200 bD}{L:L' (L' Int)}
theorem Av(b:VT t){c:L' Int}(a:Cons t A c):EW c:=λx z=>by
 obtain⟨p,w,rfl⟩:=mem_iff_getElem.1 z;have u:p<t.procs.l.length:=by rw[<-a.1.1];exact w
 have d:=a.1.2 p _ _ (ζd w) (ζd u);have B:=Gi b (ζd u);omega
end
theorem RZ{κ ν:Type}[DecidableEq κ]{m:Mo κ ν}{k B:κ}{v:ν}:uv (mJ m k v) B=(decide (B=k)||uv m B):=by unfold uv;induction m with|nil=>unfold mJ jM;by_cases h:B=k<;>simp[h,jM]|cons a m z=>obtain⟨a,w⟩:=a;unfold mJ;by_cases h:k=a;subst h;rw[if_pos rfl];by_cases u:B=k;simp[jM,u];simp[jM,u];rw[if_neg h];by_cases u:B=a;have:B≠k:=λe=>h (e▸u);simp[jM,u,Ne.symm h];simp only[jM,if_neg u];exact z
theorem Cd{c:Sl Int}(h:EW c.l)(D:c.l.length<=8):iC c=some (nj c.l):=by
 refine Wp.eq ?_;unfold iC;have b:∃r,vK (len c) (⟨0⟩:U8)=some r/\r.l=[]:=by unfold vK;rw[if_pos ⟨by simp[len],by simp[len];omega⟩];refine⟨_,rfl,?_⟩;split<;>rfl
 obtain⟨r,b,u⟩:=b;rw[b,ζb];unfold iC.W1;refine fH c.l.length (λi(q:Sl U8×Int)=>q.2=(i:Int)/\q.1.l.map U8.v=c.l.take i) ⟨rfl,by rw[u];rfl⟩ ?_ ?_;rintro i ⟨o,_⟩ hi ⟨e,a⟩;simp only at e a;subst e;have w:o.l.length=i:=by have:=congrArg length a;simp at this;omega
 unfold iC.bp;rw[jP hi,bF,bG hi,ζb];have C:=h c.l[i] (getElem_mem hi);obtain⟨z,k1,k2⟩:=nH (s:=o) (x:=(⟨wrap .u8 c.l[i]⟩:U8)) Zaa;rw[k1,ζb,bf];refine⟨cR i Zaa,?_⟩;show z.l.map U8.v=_;have B:wrap .u8 c.l[i]=c.l[i]:=by simp[wrap,IntKind.bits,signed];omega
 rw[k2,map_append,a,List.take_succ_eq_append_getElem hi,List.map_singleton,B];rintro⟨o,_⟩ ⟨e,a⟩;simp only at e a;subst e;unfold iC.bp;rw[jQ,bE,bf];refine(bf _).2 ?_;unfold Np;rw[a,take_length]
section
variable{t:Trace}{A:cq 200 bD}{L:L' (L' Int)}
theorem Ra(b:VT t){c:L' Int}(a:Cons t A c)(p:Nat):EW (bump c p 1):=λx z=>by
 unfold bump at z;have key:∀y∈c,0<=y/\y<=250:=λy C=>by
  obtain⟨q,B,rfl⟩:=mem_iff_getElem.1 C;have u:q<t.procs.l.length:=by rw[<-a.1.1];exact B
  have d:=a.1.2 q _ _ (ζd B) (ζd u);have D:=Gi b (ζd u);omega
 rcases List.mem_or_eq_of_mem_set z with h|h;have:=key x h;omega;cases w:c[p]?with|none=>rw[w]at h;have:x=0+1:=h;omega|some y=>rw[w]at h;have h:x=y+1:=h;have:=key y (mem_of_getElem? w);omega
structure Fh(L:List (List Int))(m:Mo ByteArray Int):Prop where
 get:∀c∈L,ow m (nj c) 0=(L.idxOf c:Int)
 has:∀d,EW d->(uv m (nj d)=true↔d∈L)
theorem SK(f:VT t)(B:fJ t A L)(U:L.length<=5000){r:Sl (Sl Int)}(g:ins r=L)(tb:Sl Bool):
 Wp (jG t r tb) λq=>∃x,q=some x/\x.t=t/\x.l=r/\x.truth=tb/\Fh L (m_ x.index):=by
 have Q:=f.few;have S:r.l.length=L.length:=by rw[<-g,lX]
 unfold jG jG.W1;refine fH r.l.length (λi(q:Int×(Mo ByteArray Int)×cz)=>q.1=(i:Int)/\q.2.2.t=t/\q.2.2.l=r/\q.2.2.truth=tb/\(∀(j:Nat)c,j<i->L[j]?=some c->ow q.2.1 (nj c) 0=(j:Int))/\∀d,EW d->(uv q.2.1 (nj d)=true↔∃j:Nat,j<i/\L[j]?=some d))
  ⟨rfl,rfl,rfl,rfl,λj c w=>absurd w Zaa,λd _=>⟨λh=>(by cases h),λ⟨j,w,_⟩=>absurd w Zaa⟩⟩ ?_ ?_
 .rintro i ⟨_,m,x⟩ hi ⟨rfl,b,z,C,D,G⟩;simp only at b z C D G;have u:L[i]?=some r.l[i].l:=by rw[<-g];exact zH hi
  have I:=mem_of_getElem? u;have k:=(B.mem _).1 I;have J:=Av f k;unfold jG.bp;dsimp only;rw[jP hi,bF,bG hi,ζb,Cd J (by rw[k.1.1];exact Q),ζb,bf]
  refine⟨cR i Zaa,b,z,C,λj c w a=>?_,λd hd=>?_⟩
  .show ow (mJ m (nj r.l[i].l) (i:Int)) (nj c) 0=_;rw[S6]
   by_cases e:j=i
   .subst e;rw[u]at a;cases a;rw[if_pos rfl]
   have O:=mem_of_getElem? a;rw[if_neg (λh=>e ?_)]
   .exact D j c Zaa a
   have:=Kw (Av f ((B.mem _).1 O)) J h;subst this;rw[<-BG B.nodup a,BG B.nodup u]
  show uv (mJ m (nj r.l[i].l) (i:Int)) (nj d)=true↔_;rw[RZ,or_eq_true,decide_eq_true_eq,G d hd];constructor
  .rintro (h|⟨j,w,h⟩)
   .have:=Kw hd J h;subst this;exact⟨i,Zaa,u⟩
   exact⟨j,Zaa,h⟩
  rintro⟨j,w,h⟩
  by_cases e:j=i
  .subst e;rw[u]at h;cases h;exact .inl rfl
  exact .inr ⟨j,Zaa,h⟩
 rintro⟨_,m,x⟩ ⟨rfl,b,z,C,D,G⟩;simp only at b z C D G;unfold jG.bp;dsimp only;rw[jQ,bE,bf];refine(bf _).2 ⟨_,rfl,b,z,C,⟨λc a=>?_,λd hd=>?_⟩⟩
 .have:=List.idxOf_lt_length_of_mem a;exact D _ c Zaa (wY a)
 show uv m (nj d)=true↔_;rw[G d hd];exact⟨λ⟨j,_,h⟩=>mem_of_getElem? h,λh=>⟨L.idxOf d,by have:=List.idxOf_lt_length_of_mem h;omega,wY h⟩⟩
theorem Vt(f:Small t)(a:VT t)(B:fJ t A L){x:cz}(D:ins x.l=L)(U:Fh L (m_ x.index)){i:Nat}{c:L' Int}(b:L[i]?=some c):
 Wp (fh x (i:Int) 1) λo=>o.l=(wq L c).map λk:Nat=>(k:Int):=by
 have l:=a.few;have hi:i<x.l.l.length:=by rw[<-lX,D];exact(ζe.1 b).1
 have u:x.l.l[i].l=c:=by have:=zH hi;rw[D,b]at this;exact(Option.some.inj this).symm
 have e:=(B.mem _).1 (mem_of_getElem? b);have S:=e.1.1;have T:=a.ok.one;have O:=LB f a e;unfold fh;rw[bG hi,ζb];unfold fh.W1;refine fH x.l.l[i].l.length (λn(q:Sl Int×Int)=>q.2=(n:Int)/\q.1.l.length<=n/\q.1.l=((range n).filterMap λp=>if bump c p 1∈L then some (L.idxOf (bump c p 1))else none).map λk:Nat=>(k:Int)) ⟨rfl,le_refl _,rfl⟩ ?_ ?_
 .rintro n ⟨o,_⟩ z ⟨rfl,C,G⟩;simp only at C G;rw[u]at z;have W:=ζd z;have X:=O.2 c[n] (getElem_mem z);obtain⟨d,Y,I⟩:=zY (c:=x.l.l[i]) (by rw[u];omega) (by rw[u];omega)
  rw[u]at I;unfold fh.bp;dsimp only;rw[show len x.l.l[i]=((x.l.l[i].l.length:Nat):Int)from rfl,u,decide_eq_true Zaa,bF,bG hi,ζb,Y,ζb,xz (by rw[I];exact z),ζb]
  unfold Sl.get;rw[I,W,ζb,ζb,eF _ Zaa Zaa]
  obtain⟨g,Z,j⟩:=put_eq (s:=d) (p:=n) (x:=c[n]+1) (by rw[I];exact z)
  have w:g.l=bump c n 1:=by rw[j,I,VF W]
  have Q:=Ra a e n;rw[Z,ζb,Cd (by rw[w];exact Q) (by rw[w,Ai];omega),ζb,w]
  by_cases J:bump c n 1∈L
  .obtain⟨o2,k1,k2⟩:=nH (s:=o) (x:=ow (m_ x.index) (nj (bump c n 1)) 0) Zaa
   rw[(U.has _ Q).2 J,bF,k1,ζb,bf];refine⟨cR n Zaa,by show o2.l.length<=_;rw[k2];simp;omega,?_⟩
   show o2.l=_;rw[k2,G,U.get _ J,List.range_succ,List.filterMap_append,map_append];simp[J]
  rw[show uv (m_ x.index) (nj (bump c n 1))=false from by
   cases h:uv (m_ x.index) (nj (bump c n 1))with
   |false=>rfl|true=>exact absurd ((U.has _ Q).1 h) J,bE,bf]
  refine⟨cR n Zaa,by show o.l.length<=_;omega,?_⟩
  show o.l=_;rw[G,List.range_succ,List.filterMap_append,map_append];simp[J]
 rintro⟨o,_⟩ ⟨rfl,C,G⟩;unfold fh.bp;dsimp only;rw[jQ,bE,bf];refine(bf _).2 ?_;rw[G,u];rfl
theorem DE{c:L' Int}{p:Nat}{a:Int}(h:c[p]?=some a)(q:Nat):(bump c p 1)[q]?=if p=q then some (a+1)else c[q]?:=by have u:=(ζe.1 h).1;unfold bump;rw[h,getElem?_set];by_cases e:p=q;subst e;rw[if_pos rfl,if_pos rfl,if_pos u];rfl;rw[if_neg e,if_neg e]
theorem L4(g:VT t)(h:fR t (bO t) A)(D:fJ t A L){c e:L' Int}(a:Cons t A c)(G:ig c e):∀(n:Nat){d:L' Int},Cons t A d->ig d e->d.sum<=(n:Int)->¬ig d c->∃p,p<c.length/\bump c p 1∈L/\ig (bump c p 1) e
 |n,d,J,B,hs,U=>by
  have W:d.length=c.length:=J.1.1.trans a.1.1.symm;have I:0<d.sum:=by
   refine byContradiction λi=>U ?_;have j:=J.1.sum.1;have f:=(SO (t:=t) (A:=A) (z:=.row (replicate t.procs.l.length 0)) rfl d).2 ⟨J,by simp;omega⟩;have f:d=replicate t.procs.l.length 0:=by simpa[ins,Sl.l]using f
   refine⟨W,λp x y u w=>?_⟩;rw[f,getElem?_replicate]at u;split at u;cases u;exact a.1.pos p y w;cases u
  obtain⟨q,b,C,T,X⟩:=J.down g h I;have S:=(ζe.1 C).1;by_cases Q:ig (d.set q (b-1)) c;have O:=ζd (show q<c.length by omega);have e1:=Q.2 q (b-1) _ (by rw[List.getElem?_set_self S]) O;have e2:∀p x y,p≠q->d[p]?=some x->c[p]?=some y->x<=y:=λp x y Y u w=>Q.2 p x y (by rw[List.getElem?_set_ne (Ne.symm Y)];exact u) w;have e3:b=c[q]+1:=by refine byContradiction λZ=>U ⟨W,λp x y u w=>?_⟩;by_cases e:p=q;subst e;rw[C]at u;cases u;rw[O]at w;cases w;omega;exact e2 p x y e u w
  refine⟨q,Zaa,(D.mem _).2 (join_cons a J ⟨Ai,λp x y u w=>?_⟩),⟨by rw[Ai];exact G.1,λp x y u w=>?_⟩⟩;rw[DE O];by_cases e:q=p;subst e;rw[if_pos rfl];rw[C]at w;cases w;rw[O]at u;cases u;unfold xG;simp;omega;rw[if_neg e,u];have:=e2 p y x (Ne.symm e) w u;unfold xG;simp;omega;rw[DE O]at u;by_cases e:q=p;subst e;rw[if_pos rfl]at u;cases u;have:=B.2 q b y C w;omega;rw[if_neg e]at u;exact G.2 p x y u w;cases n with|zero=>omega|succ n=>refine L4 g h D a G n X ⟨by rw[length_set];exact B.1,λp x y u w=>?_⟩ (by rw[uS C];omega) Q;by_cases e:q=p;subst e;rw[List.getElem?_set_self S]at u;cases u;have:=B.2 q b y C w;omega;rw[List.getElem?_set_ne e]at u;exact B.2 p x y u w
end
end Go.VE
