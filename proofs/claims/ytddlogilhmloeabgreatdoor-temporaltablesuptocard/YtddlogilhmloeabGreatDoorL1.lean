/- The plain law. -/
import Derived.Test.YtddlogilhmloeabGreatDoorK1
import Derived.Test.YtddlogilhmloeabGreatDoorG1
set_option linter.all false
open Option renaming some→M,some→_k,none→J,none→_q,bind→H,bind→_o
open Bool renaming true→U,true→_n,false→O,false→_p
open Decidable renaming decide→_s
open List renaming length→W,length→_m
open Go.IntKind renaming i64→N,i64→_r
open List renaming countP_cons→H!,drop_eq_getElem_cons→U?,drop_of_length_le→D!,ext_getElem?→Y!,finRange→V!,find?_append→d8,find?_eq_none→L!,getElem?_eq_none→F!,getElem?_map→j!,getElem?_replicate→t!,getElem?_set→D?,getElem?_take→J?,getElem_mem→t?,length_cons→W?,length_set→z6,length_singleton→Y?,length_take→l!,mapM_cons→c9,map_append→w!,map_cons→K?,map_nil→X!,mem_append→J!,mem_append_left→d!,mem_cons→n',mem_cons_of_mem→B?,mem_cons_self→K!,mem_of_getElem?→s?,mem_of_mem_take→O?,mem_singleton→g!,pairwise_map→d9,range→C!,range'→D',sum_cons→E!,sum_nil→l5,take_add_one→P?,take_append_drop→e!,take_length→I?,take_of_length_le→a!,zipWith→I0
open Option renaming bind_eq_bind→M!,getD_some→G!,pure_def→b8
open Go.IntKind renaming wrap→w?
open Nat renaming le_refl→x?,zero_le→N?
open Bool renaming false_eq_true→v?,not_eq_true'→Z?,or_eq_false_iff→h!,or_eq_true→p!
open ByteArray renaming toList→C?
open Classical renaming byContradiction→R?
open Int renaming toNat_natCast→n!
open UInt8 renaming ofNat→E'
open List(Nodup Pairwise all_eq_true map_map mem_iff_getElem mem_map mem_range pairwise_append pairwise_cons replicate)
open Option(getD_none)
open Nat(le)
open Nat(le)
open Nat(le)
open Nat(le)
open Relation(TransGen)
open Nat(le)
open Int(toNat)
open Nat(le)
namespace Go.VE
theorem r?{p:Prop}(h:p:=by kernel_rfl):p:=h
instance:cA Var where
 wt x:=cA.wt x.name+cA.wt x.init_+1
 ok x:=cA.ok x.name/\cA.ok x.init_/\True
instance:cA Assign where
 wt x:=cA.wt x.var+cA.wt x.value+1
 ok x:=cA.ok x.var/\cA.ok x.value/\True
instance:cA WF where
 wt x:=cA.wt x.kind+cA.wt x.k?+cA.wt x.d?+cA.wt x.time+cA.wt x.assign+1
 ok x:=cA.ok x.kind/\cA.ok x.k?/\cA.ok x.d?/\cA.ok x.time/\cA.ok x.assign/\True
instance:cA bT where
 wt x:=cA.wt x.name+cA.wt x.h?+cA.wt x.c?+1
 ok x:=cA.ok x.name/\cA.ok x.h?/\cA.ok x.c?/\True
instance:cA Z4 where
 wt x:=cA.wt x.b?+1
 ok x:=cA.ok x.b?/\True
instance:cA bQ where
 wt x:=cA.wt x.low+cA.wt x.high+1
 ok x:=cA.ok x.low/\cA.ok x.high/\True
instance:cA bF where
 wt x:=cA.wt x.t+cA.wt x.l+cA.wt x.next+1
 ok x:=cA.ok x.t/\cA.ok x.l/\cA.ok x.next/\True
instance:cA bY where
 wt x:=cA.wt x.t+cA.wt x.counts+cA.wt x.values+1
 ok x:=cA.ok x.t/\cA.ok x.counts/\cA.ok x.values/\True
mutual
def Pred.wtR:T'->Nat
 |⟨f0,f1,B,D,G,f5⟩=>cA.wt f0+cA.wt f1+cA.wt B+cA.wt D+cA.wt G+Pred.WI f5+1
def Pred.WI:Sl T'->Nat
 |.nil=>1|.emp=>1|.row l=>Pred.Mc l+1|.part l=>Pred.Mc l+1
def Pred.Mc:aY T'->Nat
 |[]=>0|x::r=>Pred.wtR x+Pred.Mc r
end
mutual
def Pred.okR:T'->Prop
 |⟨f0,f1,B,D,G,f5⟩=>cA.ok f0/\cA.ok f1/\cA.ok B/\cA.ok D/\cA.ok G/\Pred.okS f5/\True
def Pred.okS:Sl T'->Prop
 |.nil=>True|.emp=>False|.row l=>Pred.Xq l|.part l=>Pred.Xq l
def Pred.Xq:aY T'->Prop
 |[]=>True|x::r=>Pred.okR x/\Pred.Xq r
end
instance:cA T' where
 wt:=Pred.wtR
 ok:=Pred.okR
theorem Pred.H8:∀l:aY T',Pred.Mc l=(l.map cA.wt).sum
 |[]=>rfl|x::r=>by simp only[Pred.Mc,K?,E!,Pred.H8 r];rfl
theorem Pred.wtE(s:Sl T'):Pred.WI s=cA.wt s:=by cases s with|nil=>rfl|emp=>rfl|row l=>show Pred.Mc l+1=(l.map cA.wt).sum+1;rw[Pred.H8]|part l=>show Pred.Mc l+1=(l.map cA.wt).sum+1;rw[Pred.H8]
theorem Pred.HE:∀l:aY T',(∀x∈l,cA.ok x)->Pred.Xq l
 |[],_=>trivial|x::r,h=>⟨h x (K! ..),Pred.HE r λy B=>h y (B? _ B)⟩
theorem Pred.okE(s:Sl T')(h:cA.ok s):Pred.okS s:=by cases s with|nil=>trivial|emp=>exact h.2 rfl|row l=>exact Pred.HE l h.1|part l=>exact Pred.HE l h.1
end Go.VE
namespace Go.VE.YtddlogilhmloeabGreatDoor
open Go.Proofs Go.Proofs.YtddlogilhmloeabGreatDoor
instance rd9:Reads Tryz.prog 9 U':=Reads.str Tryz.underlying9 r?
instance rd3:Reads Tryz.prog 3 Int:=Reads.int Tryz.underlying3 r?
instance aew:Reads Tryz.prog 170 Var:=by refine Reads.st Tryz.underlying170 r? Y ?_;intro m enc w j? a c u cs l I h;simp only[c9,List.mapM_nil,b8,M!,ζg,ζa]at h;obtain⟨z,g,L,⟨B,e,j,rfl,rfl⟩,rfl⟩:=h;have⟨a0,C,k0,Q⟩:=Reads.rd (P:=Tryz.prog) (t:=9) (α:=U') (d:=z.1) (ps:=z.2) g;rw[show Tryz.prog.cellsOf 9=1 from by kernel_rfl]at C;have⟨a1,D,k1,S⟩:=Reads.rd (P:=Tryz.prog) (t:=3) (α:=Int) (d:=B.1) (ps:=B.2) e;rw[show Tryz.prog.cellsOf 3=1 from by kernel_rfl]at D;refine⟨⟨a0,a1⟩,gy.fin (n:=2) (gy.seg (o:=1) (n:=1) (gy.seg (o:=0) (n:=1) (show gy (snap w) [] (cs.take 0)from by simpa using gy.nil) C) D) I,⟨k0,k1,trivial⟩,λb G=>?_⟩;have T:=Q b G;have i:=S b G;show cA.wt a0+cA.wt a1+1<=_;simp only[K?,X!,E!,l5];omega
instance aeG:Reads Tryz.prog 51 (Sl Var):=Reads.sl (e:=170) Tryz.underlying51 r? (by decide)
instance aey:Reads Tryz.prog 189 Assign:=by refine Reads.st Tryz.underlying189 r? Y ?_;intro m enc w j? a c u cs l I h;simp only[c9,List.mapM_nil,b8,M!,ζg,ζa]at h;obtain⟨z,g,L,⟨B,e,j,rfl,rfl⟩,rfl⟩:=h;have⟨a0,C,k0,Q⟩:=Reads.rd (P:=Tryz.prog) (t:=3) (α:=Int) (d:=z.1) (ps:=z.2) g;rw[show Tryz.prog.cellsOf 3=1 from by kernel_rfl]at C;have⟨a1,D,k1,S⟩:=Reads.rd (P:=Tryz.prog) (t:=3) (α:=Int) (d:=B.1) (ps:=B.2) e;rw[show Tryz.prog.cellsOf 3=1 from by kernel_rfl]at D;refine⟨⟨a0,a1⟩,gy.fin (n:=2) (gy.seg (o:=1) (n:=1) (gy.seg (o:=0) (n:=1) (show gy (snap w) [] (cs.take 0)from by simpa using gy.nil) C) D) I,⟨k0,k1,trivial⟩,λb G=>?_⟩;have T:=Q b G;have i:=S b G;show cA.wt a0+cA.wt a1+1<=_;simp only[K?,X!,E!,l5];omega
instance aeF:Reads Tryz.prog 57 (Sl Assign):=Reads.sl (e:=189) Tryz.underlying57 r? (by decide)
instance aeD:Reads Tryz.prog 59 WF:=by refine Reads.st Tryz.underlying59 r? _l ?_;intro H enc w j? a c z cs l a__ h;simp only[c9,List.mapM_nil,b8,M!,ζg,ζa]at h;obtain⟨B,W,X,⟨C,e,Y,⟨x2,Z,q,⟨D,f,r,⟨G,g,s,rfl,rfl⟩,rfl⟩,rfl⟩,rfl⟩,rfl⟩:=h;have⟨a0,I,k0,i⟩:=Reads.rd (P:=Tryz.prog) (t:=3) (α:=Int) (d:=B.1) (ps:=B.2) W;rw[show Tryz.prog.cellsOf 3=1 from by kernel_rfl]at I;have⟨a1,F,k1,j⟩:=Reads.rd (P:=Tryz.prog) (t:=3) (α:=Int) (d:=C.1) (ps:=C.2) e;rw[show Tryz.prog.cellsOf 3=1 from by kernel_rfl]at F;have⟨a2,L,k2,k⟩:=Reads.rd (P:=Tryz.prog) (t:=3) (α:=Int) (d:=x2.1) (ps:=x2.2) Z;rw[show Tryz.prog.cellsOf 3=1 from by kernel_rfl]at L;have⟨b__,Q,k3,m⟩:=Reads.rd (P:=Tryz.prog) (t:=3) (α:=Int) (d:=D.1) (ps:=D.2) f;rw[show Tryz.prog.cellsOf 3=1 from by kernel_rfl]at Q;have⟨S,T,k4,p⟩:=Reads.rd (P:=Tryz.prog) (t:=57) (α:=(Sl Assign)) (d:=G.1) (ps:=G.2) g;rw[show Tryz.prog.cellsOf 57=1 from by kernel_rfl]at T;refine⟨⟨a0,a1,a2,b__,S⟩,gy.fin (n:=5) (gy.seg (o:=4) (n:=1) (gy.seg (o:=3) (n:=1) (gy.seg (o:=2) (n:=1) (gy.seg (o:=1) (n:=1) (gy.seg (o:=0) (n:=1) (show gy (snap w) [] (cs.take 0)from by simpa using gy.nil) I) F) L) Q) T) a__,⟨k0,k1,k2,k3,k4,trivial⟩,λb u=>?_⟩;have v:=i b u;have x:=j b u;have y:=k b u;have A:=m b u;have E:=p b u;show cA.wt a0+cA.wt a1+cA.wt a2+cA.wt b__+cA.wt S+1<=_;simp only[K?,X!,E!,l5];omega
instance aeA:Reads Tryz.prog 52 (Sl WF):=Reads.sl (e:=59) Tryz.underlying52 r? (by decide)
instance aeB:Reads Tryz.prog 54 bT:=by refine Reads.st Tryz.underlying54 r? Y ?_;intro y enc w j? a c z cs l g h;simp only[c9,List.mapM_nil,b8,M!,ζg,ζa]at h;obtain⟨B,L,j,⟨C,e,Q,⟨x2,S,T,rfl,rfl⟩,rfl⟩,rfl⟩:=h;have⟨a0,D,k0,i⟩:=Reads.rd (P:=Tryz.prog) (t:=9) (α:=U') (d:=B.1) (ps:=B.2) L;rw[show Tryz.prog.cellsOf 9=1 from by kernel_rfl]at D;have⟨a1,G,k1,q⟩:=Reads.rd (P:=Tryz.prog) (t:=51) (α:=(Sl Var)) (d:=C.1) (ps:=C.2) e;rw[show Tryz.prog.cellsOf 51=1 from by kernel_rfl]at G;have⟨a2,I,k2,X⟩:=Reads.rd (P:=Tryz.prog) (t:=52) (α:=(Sl WF)) (d:=x2.1) (ps:=x2.2) S;rw[show Tryz.prog.cellsOf 52=1 from by kernel_rfl]at I;refine⟨⟨a0,a1,a2⟩,gy.fin (n:=3) (gy.seg (o:=2) (n:=1) (gy.seg (o:=1) (n:=1) (gy.seg (o:=0) (n:=1) (show gy (snap w) [] (cs.take 0)from by simpa using gy.nil) D) G) I) g,⟨k0,k1,k2,trivial⟩,λb u=>?_⟩;have m:=i b u;have Z:=q b u;have f:=X b u;show cA.wt a0+cA.wt a1+cA.wt a2+1<=_;simp only[K?,X!,E!,l5];omega
instance aeE:Reads Tryz.prog 22 (Sl bT):=Reads.sl (e:=54) Tryz.underlying22 r? (by decide)
instance aez:Reads Tryz.prog 24 Z4:=by refine Reads.st Tryz.underlying24 r? Y ?_;intro i enc w j? a c u cs l C h;simp only[c9,List.mapM_nil,b8,M!,ζg,ζa]at h;obtain⟨z,D,G,rfl,rfl⟩:=h;have⟨a0,B,k0,I⟩:=Reads.rd (P:=Tryz.prog) (t:=22) (α:=(Sl bT)) (d:=z.1) (ps:=z.2) D;rw[show Tryz.prog.cellsOf 22=1 from by kernel_rfl]at B;refine⟨⟨a0⟩,gy.fin (n:=1) (gy.seg (o:=0) (n:=1) (show gy (snap w) [] (cs.take 0)from by simpa using gy.nil) B) C,⟨k0,trivial⟩,λb g=>?_⟩;have L:=I b g;show cA.wt a0+1<=_;simp only[K?,X!,E!,l5];omega
instance aeC:Reads Tryz.prog 25 Zg:=Reads.sl (e:=3) Tryz.underlying25 r? (by decide)
theorem abj:∀B,uG Tryz.prog 28 Pred B:=by
 intro B;induction B using Nat.strongRecOn with|ind B X=>
 cases B with|zero=>intro H enc w j? a c cs d ps h;simp[DataW.trod]at h|succ B=>
 refine uG.st Tryz.underlying28 r? ?_;intro H enc w j? a c cs l Y h;simp only[c9,List.mapM_nil,b8,M!,ζg,ζa]at h;obtain⟨C,Z,y,⟨D,f,A,⟨x2,i,E,⟨G,j,F,⟨I,k,K,⟨x5,m,a__,rfl,rfl⟩,rfl⟩,rfl⟩,rfl⟩,rfl⟩,rfl⟩:=h;have⟨a0,b__,k0,p⟩:=Reads.rd (P:=Tryz.prog) (t:=3) (α:=Int) (d:=C.1) (ps:=C.2) Z;rw[show Tryz.prog.cellsOf 3=1 from by kernel_rfl]at b__;have⟨a1,L,k1,q⟩:=Reads.rd (P:=Tryz.prog) (t:=3) (α:=Int) (d:=D.1) (ps:=D.2) f;rw[show Tryz.prog.cellsOf 3=1 from by kernel_rfl]at L;have⟨a2,d__,k2,r⟩:=Reads.rd (P:=Tryz.prog) (t:=3) (α:=Int) (d:=x2.1) (ps:=x2.2) i;rw[show Tryz.prog.cellsOf 3=1 from by kernel_rfl]at d__;have⟨Q,S,k3,s⟩:=Reads.rd (P:=Tryz.prog) (t:=3) (α:=Int) (d:=G.1) (ps:=G.2) j;rw[show Tryz.prog.cellsOf 3=1 from by kernel_rfl]at S;have⟨T,c__,k4,v⟩:=Reads.rd (P:=Tryz.prog) (t:=9) (α:=U') (d:=I.1) (ps:=I.2) k;rw[show Tryz.prog.cellsOf 9=1 from by kernel_rfl]at c__;have⟨W,z,k5,x⟩:=uG.slF (t:=26) (e:=28) (α:=T') Tryz.underlying26 r? (by decide) (λg e__=>X g a?) (show _=M (x5.1,x5.2)from m);rw[show Tryz.prog.cellsOf 26=1 from by kernel_rfl]at z;rw[xO _l,<-Pred.eT]at z;refine⟨⟨a0,a1,a2,Q,T,W⟩,gy.fin (n:=6) (gy.seg (o:=5) (n:=1) (gy.seg (o:=4) (n:=1) (gy.seg (o:=3) (n:=1) (gy.seg (o:=2) (n:=1) (gy.seg (o:=1) (n:=1) (gy.seg (o:=0) (n:=1) (show gy (snap w) [] (cs.take 0)from by simpa using gy.nil) b__) L) d__) S) c__) z) Y,⟨k0,k1,k2,k3,k4,Pred.okE _ k5,trivial⟩,λb u=>?_⟩;have R:=p b u;have V:=q b u;have w2:=r b u;have w3:=s b u;have w4:=v b u;have w5:=x b u;show cA.wt a0+cA.wt a1+cA.wt a2+cA.wt Q+cA.wt T+Pred.WI W+1<=_;rw[Pred.wtE];simp only[K?,X!,E!,l5];omega
instance aeH:Reads Tryz.prog 28 T':=Reads.of Tryz.underlying28 r? Y abj
end Go.VE.YtddlogilhmloeabGreatDoor
namespace Go.VE
end Go.VE
namespace Go.VE
abbrev N7{α:Type}(m:aX α):Prop:=Wp m λ_=>True
theorem N7.get{α:Type}{m:aX α}(h:N7 m):∃a,m=M a:=let⟨a,e,_⟩:=h;⟨a,e⟩
theorem N7.ok{m:aX X'}(h:N7 m):m=M (m.getD O):=by have⟨a,e,_⟩:=h;rw[e];rfl
def Small(t:Z4):Prop:=W t.b?.l<1073741824/\∀p∈t.b?.l,W p.c?.l<1073741824/\W p.h?.l<1073741824/\p.name.size<1073741824/\(∀v∈p.h?.l,v.name.size<1073741824)/\∀e∈p.c?.l,W e.assign.l<1073741824
section
theorem QB{s:Sl WF}{p:WF->aX X'}{f:WF->X'}(hp:∀x∈s.l,p x=M (f x))(B:W s.l<1073741824):iu s p=M (place f s.l):=s7 hp a? (λi=>rfl)
theorem Tq{s:Sl bT}{p:bT->aX X'}{f:bT->X'}(hp:∀x∈s.l,p x=M (f x))(B:W s.l<1073741824):iR s p=M (place f s.l):=s7 hp a? (λi=>rfl)
theorem Bn{s:Sl Var}{p:Var->aX X'}{f:Var->X'}(hp:∀x∈s.l,p x=M (f x))(B:W s.l<1073741824):gq s p=M (place f s.l):=s7 hp a? (λi=>rfl)
theorem NA{s:Sl Assign}{p:Assign->aX X'}{f:Assign->X'}(hp:∀x∈s.l,p x=M (f x))(B:W s.l<1073741824):gQ s p=M (place f s.l):=s7 hp a? (λi=>rfl)
theorem B6{s:Sl WF}{p:WF->aX X'}{f:WF->X'}(hp:∀x∈s.l,p x=M (f x))(B:W s.l<1073741824):jy s p=M (s.l.any f):=by unfold jy;rw[QB hp B,ζb,xQ]
theorem CM{s:Sl bT}{p:bT->aX X'}{f:bT->X'}(hp:∀x∈s.l,p x=M (f x))(B:W s.l<1073741824):iS s p=M (s.l.any f):=by unfold iS;rw[Tq hp B,ζb,xQ]
theorem Ep{s:Sl Var}{p:Var->aX X'}{f:Var->X'}(hp:∀x∈s.l,p x=M (f x))(B:W s.l<1073741824):i_ s p=M (s.l.any f):=by unfold i_;rw[Bn hp B,ζb,xQ]
theorem H6{s:Sl Assign}{p:Assign->aX X'}{f:Assign->X'}(hp:∀x∈s.l,p x=M (f x))(B:W s.l<1073741824):je s p=M (s.l.any f):=by unfold je;rw[NA hp B,ζb,xQ]
theorem rT(x lo hi:Int):qd x lo hi=M (_s (lo<=x)&&_s (x<=hi)):=by unfold qd;rw[pG];rfl
theorem PI{s:U'}{i:Nat}(h:i<s.size):∃x,nF s (i:Int)=M x:=by unfold nF;rw[L' a?];exact⟨_,by rw[show(s[(i:Int).toNat]?)=M s[i]from by simp[h]];rfl⟩
def nq(n:Nat)(p:Int)(e:WF):Prop:=e.kind=1\/((e.kind=2\/e.kind=3)/\0<=e.k?/\e.k?<n/\e.k?≠p/\0<=e.d?/\e.d?<=199)
end
def mP(t:Z4)(p k:Nat)(e:WF):Prop:=∃P,t.b?.l[p]?=M P/\P.c?.l[k]?=M e
theorem w8{p:Int}{x:bf×WF}:∀{es:aY WF}{j:Int},x∈ki p j es↔∃k:Nat,es[k]?=M x.2/\x.1=⟨p,j+k+1⟩
 |[],j=>by simp[ki]|e::es,j=>by simp[ki,w8];constructor;rintro(rfl|⟨k,a,B⟩);exact⟨0,Y,f?⟩;exact⟨k+1,g?,g?⟩;grind
theorem ym{x:bf×WF}:∀{ps:aY bT}{i:Int},x∈hD i ps↔∃(a k:Nat)(P:bT),ps[a]?=M P/\P.c?.l[k]?=M x.2/\x.1=⟨i+a,k+1⟩
 |[],i=>by simp[hD]|p::ps,i=>by simp only[hD,J!,w8,ym];constructor;rintro(⟨k,b,B⟩|⟨a,k,P,b,B,D⟩);exact⟨0,k,p,Y,b,g?⟩;exact⟨a+1,k,P,o?,B,g?⟩;grind
abbrev bO(t:Trace):aY (bf×Event):=hD 0 t.b?.l
theorem dY{t:Z4}{x:bf×WF}:x∈bO t↔∃p k:Nat,mP t p k x.2/\x.1=⟨p,k+1⟩:=by rw[ym];constructor;rintro⟨a,k,P,b,u,w⟩;exact⟨a,k,⟨P,b,u⟩,g?⟩;rintro⟨a,k,⟨P,b,u⟩,w⟩;grind
theorem BG{t:Z4}{x y:bf×WF}(B:x∈bO t)(D:y∈bO t)(h:x.1=y.1):x=y:=by have⟨p,k,⟨P,u,a⟩,e1⟩:=dY.1 B;have⟨q,j,⟨Q,w,z⟩,e2⟩:=dY.1 D;grind
theorem vI{t:Z4}(a:Small t):kN t=M (bO t):=by unfold kN;rw[L'];simp[rz];exact⟨by have:=a.1;omega,λp u=>by have:=(a.2 p u).1;omega⟩
def vE(t:Z4)(p m a:Int):X':=match t.b?.l[p.toNat]?with
 |some P=>P.c?.l.any λe=>e.kind==2&&e.d?==m&&e.k?==a|none=>O
theorem VJ{t:Z4}(b:Small t){p:Int}(B:0<=p)(c:p<W t.b?.l)(m a:Int):xu t p m a=M (vE t p m a):=by unfold xu;have u:p.toNat<W t.b?.l:=a?;have w:=t? u;rw[VG B,ζd u,ζb,B6 (f:=λe=>e.kind==2&&e.d?==m&&e.k?==a) (λe _=>by unfold ta;simp[pG]) (b.2 _ w).1,ζb];unfold vE;grind
theorem BD{t:Z4}{p:Nat}{m a:Int}:vE t p m a=U↔∃k e,mP t p k e/\e.kind=2/\e.d?=m/\e.k?=a:=by unfold vE mP;rw[show(p:Int).toNat=p from Y];cases w:t.b?.l[p]?with|none=>simp|some P=>simp;constructor;rintro⟨e,u,h⟩;have⟨k,b⟩:=List.getElem?_of_mem u;grind;grind
def ag(A:cn 200 bC)(m:Int):bC:=(A.at m).getD default
theorem Rh(A:cn 200 bC){m:Int}(B:0<=m)(a:m<=199):A.at m=M (ag A m):=by
 have:m.toNat<W A.l:=by rw[A.len];omega
 unfold ag cn.at;grind
theorem tU(A:cn 200 bC){m m':Int}(x:bC)(B:0<=m)(a:m<=199)(D:0<=m'):ag (A.set m x) m'=if m'=m then x else ag A m':=by
 have:m.toNat<W A.l:=by rw[A.len];omega
 unfold ag cn.at cn.set;grind
theorem TX{m:Int}(B:0<=m)(a:m<=199):ag (cn.RZ 200 (⟨⟨0,0⟩,⟨0,0⟩⟩:bC)) m=⟨⟨0,0⟩,⟨0,0⟩⟩:=by unfold ag cn.at cn.RZ;grind
structure fm(t:Trace)(its:List (bf×Event))(A:cn 200 bC):Prop where
 snd:∀x∈its,x.2.kind=2->(ag A x.2.d?).from_=x.1
 rcv:∀x∈its,x.2.kind=3->(ag A x.2.d?).to_=x.1/\vE t x.2.k? x.2.d? x.1.proc=true
 fr:∀m,0<=m->m<=199->(ag A m).from_.index=0\/∃e,((ag A m).from_,e)∈its/\e.kind=2/\e.d?=m
 to:∀m,0<=m->m<=199->(ag A m).to_.index=0\/∃e,((ag A m).to_,e)∈its/\e.kind=3/\e.d?=m
def QV(a b:bf×WF):Prop:=a.1.proc<b.1.proc\/a.1.proc=b.1.proc/\a.1.index<b.1.index
theorem RM{p:Int}:∀{es:aY WF}{j:Int},(ki p j es).Pairwise QV
 |[],_=>Pairwise.nil|e::es,j=>by simp only[ki,pairwise_cons];refine⟨λb B=>?_,RM⟩;have⟨k,_,D⟩:=w8.1 B;refine .inr ⟨by rw[D],?_⟩;grind
theorem La:∀{ps:aY bT}{i:Int},(hD i ps).Pairwise QV
 |[],_=>Pairwise.nil|P::ps,i=>by simp only[hD,pairwise_append];refine⟨RM,La,λa B b D=>.inl ?_⟩;have⟨k,_,G⟩:=w8.1 B;have⟨c,j,P,_,_,u⟩:=ym.1 D;grind
theorem Ld{t:Z4}{k:Nat}{x y:bf×WF}(B:(bO t)[k]?=M x)(D:y∈(bO t).take k):y.1≠x.1:=by
 have⟨a,u⟩:=ζe.1 B;have w:((bO t).take k++(bO t).drop k).Pairwise QV:=by rw[e!];exact La
 have:=(pairwise_append.1 w).2.2 y D x (by rw[U? a,u];grind);unfold QV at this;grind
structure AY(t:Trace):Prop where
 snd:∀x∈bO t,∀y∈bO t,x.2.kind=2->y.2.kind=2->x.2.d?=y.2.d?->x.1=y.1
 rcv:∀x∈bO t,∀y∈bO t,x.2.kind=3->y.2.kind=3->x.2.d?=y.2.d?->x.1=y.1
 has:∀x∈bO t,x.2.kind=3->vE t x.2.k? x.2.d? x.1.proc=true
theorem fm.Ci{t:Z4}{A:cn 200 bC}(h:fm t (bO t) A):AY t:=⟨λx w y z k2 u B=>by rw[<-h.snd x w k2,<-h.snd y z u,B],λx w y z k2 u B=>by rw[<-(h.rcv x w k2).1,<-(h.rcv y z u).1,B],λx w k=>(h.rcv x w k).2⟩
theorem He {t:Trace} (hS:Small t) (hF:∀x∈bO t,nq t.b?.l.length x.1.proc x.2):Wp (fL t) λr=>(r.2.2=0->∃A,r.1=some A/\fm t (bO t) A)/\(AY t->r.2.2=0):=by
 unfold fL kR;rw[ζb];unfold fL.E1;rw[vI hS,ζb];refine AU (λk A=>fm t ((bO t).take k) A) ⟨by simp,by simp,λm L h1=>.inl (by rw[TX L h1]),λm L h1=>.inl (by rw[TX L h1])⟩ ?_ ?_
 .intro k x A hx B;have G  := List.mem_of_getElem? hx;have T:(bO t).take (k+1)=(bO t).take k++[x]:=by rw[List.take_add_one,hx];rfl
  obtain⟨p,j,aa,ab⟩:=dY.1 G;have hf:=hF x G;unfold fL.lM;rw[cm];constructor
  .intro hk;have i:x.2.kind=2:=by grind
   have u:0<=x.2.d?/\x.2.d?<=199:=by
    rcases hf with h|⟨_,_,_,_,h⟩
    .omega
    simp_all
   rw[Rh A u.1 u.2,ζb,cm];refine⟨λhg=>(a_ _).2 ((a_ _).2 ⟨λh=>(by cases h),λX=>?_⟩),λL=>?_⟩
   .rcases B.fr _ u.1 u.2 with Y|⟨e,Q,g,W⟩
    .grind
    exact _e (X.snd _ (List.mem_of_mem_take Q) x G g i W) (Ld hx Q)
   rw[ζb,a_,T];have old:∀y∈(bO t).take k,y.2.kind=2->y.2.d?≠x.2.d?:=λy hy w Q=>by
    have:=B.snd y hy w;rw[Q]at this;obtain⟨p',j',_,S⟩:=dY.1 (List.mem_of_mem_take hy)
    grind
   have Z:∀y∈(bO t).take k,y.2.kind=2\/y.2.kind=3->0<=y.2.d?:=λy hy w=>by
    rcases hF y (List.mem_of_mem_take hy)with h|⟨_,_,_,_,h,_⟩
    .omega
    simp_all
   refine⟨λy hy w=>?_,λy hy z=>?_,λm C I=>?_,λm C I=>?_⟩
   .rcases List.mem_append.1 hy with hy|hy
    .rw[tU A _ u.1 u.2 (Z y hy (.inl w)),M' (old y hy w)];exact B.snd y hy w
    simp at hy;subst hy;rw[tU A _ u.1 u.2 u.1,L' rfl]
   .rcases List.mem_append.1 hy with hy|hy
    .rw[tU A _ u.1 u.2 (Z y hy (.inr z))];have:=B.rcv y hy z
     grind
    grind
   .rw[tU A _ u.1 u.2 C];split
    next e=>exact .inr ⟨x.2,by simp,i,e.symm⟩
    exact(B.fr m C I).imp (λh=>h) λ⟨e,h1,D⟩=>⟨e,List.mem_append_left _ h1,D⟩
   rw[tU A _ u.1 u.2 C];have:=(B.to m C I).imp (λh=>h) λ⟨e,h1,D⟩=>(⟨e,List.mem_append_left [x] h1,D⟩:∃e,((ag A m).to_,e)∈(bO t).take k++[x]/\e.kind=3/\e.d?=m)
   split
   next e=>subst e;omega
   omega
  intro hk;have i  := by simpa using hk
  rw[cm];constructor
  .intro hk;have d  := by simpa using hk
   have u:0<=x.2.d?/\x.2.d?<=199/\0<=x.2.k?/\x.2.k?<t.b?.l.length:=by
    rcases hf with h|⟨_,h1,D,_,h3,h4⟩
    .omega
    exact⟨h3,h4,h1,D⟩
   rw[Rh A u.1 u.2.1,ζb,cm];refine⟨λhg=>(a_ _).2 ((a_ _).2 ⟨λh=>(by cases h),λX=>?_⟩),λL=>?_⟩
   .rcases B.to _ u.1 u.2.1 with Y|⟨e,Q,g,W⟩
    .simp[Y]at hg
    exact _e (X.rcv _ (List.mem_of_mem_take Q) x G g d W) (Ld hx Q)
   have L:¬(ag A x.2.d?).to_.index>0:=by simpa using L
   rw[VJ hS u.2.2.1 u.2.2.2,ζb,cm];refine⟨λhs=>?_,λhs=>(a_ _).2 ((a_ _).2 ⟨λh=>(by cases h),λX=>by rw[X.has x G d]at hs;cases hs⟩)⟩
   rw[ζb,a_,T];have old:∀y∈(bO t).take k,y.2.kind=3->y.2.d?≠x.2.d?:=λy hy w Q=>by
    have:=(B.rcv y hy w).1;rw[Q]at this;rw[this]at L;obtain⟨p',j',_,S⟩:=dY.1 (List.mem_of_mem_take hy);rw[S]at L;exact L (by show (j':Int)+1>0;omega)
   have Z:∀y∈(bO t).take k,y.2.kind=2\/y.2.kind=3->0<=y.2.d?:=λy hy w=>by
    rcases hF y (List.mem_of_mem_take hy)with h|⟨_,_,_,_,h,_⟩
    .omega
    exact h
   refine⟨λy hy w=>?_,λy hy z=>?_,λm C I=>?_,λm C I=>?_⟩
   .rcases List.mem_append.1 hy with hy|hy
    .rw[tU A _ u.1 u.2.1 (Z y hy (.inl w))];have:=B.snd y hy w;split
     next e=>rw[e]at this;exact this
     exact this
    simp at hy;subst hy;omega
   .rcases List.mem_append.1 hy with hy|hy
    .rw[tU A _ u.1 u.2.1 (Z y hy (.inr z)),M' (old y hy z)];exact B.rcv y hy z
    simp at hy;subst hy;rw[tU A _ u.1 u.2.1 u.1,L' rfl];exact⟨rfl,hs⟩
   .rw[tU A _ u.1 u.2.1 C];have:=(B.fr m C I).imp (λh=>h) λ⟨e,h1,D⟩=>(⟨e,List.mem_append_left [x] h1,D⟩:∃e,((ag A m).from_,e)∈(bO t).take k++[x]/\e.kind=2/\e.d?=m)
    split
    next e=>subst e;exact this
    exact this
   rw[tU A _ u.1 u.2.1 C];split
   next e=>exact .inr ⟨x.2,by simp,d,e.symm⟩
   exact(B.to m C I).imp (λh=>h) λ⟨e,h1,D⟩=>⟨e,List.mem_append_left _ h1,D⟩
  intro hk;have d  := by simpa using hk
  rw[a_,T];refine⟨λy hy w=>?_,λy hy z=>?_,λm C I=>?_,λm C I=>?_⟩
  .rcases List.mem_append.1 hy with hy|hy
   .exact B.snd y hy w
   simp at hy;subst hy;exact _e w i
  .rcases List.mem_append.1 hy with hy|hy
   .exact B.rcv y hy z
   simp at hy;subst hy;exact _e z d
  .exact(B.fr m C I).imp (λh=>h) λ⟨e,h1,D⟩=>⟨e,List.mem_append_left _ h1,D⟩
  exact(B.to m C I).imp (λh=>h) λ⟨e,h1,D⟩=>⟨e,List.mem_append_left _ h1,D⟩
 intro A hA;rw[List.take_length]at hA;exact(a_ _).2 ⟨λ_=>⟨A,rfl,hA⟩,λ_=>rfl⟩
def j7(f:Nat->X')(k n:Nat):X':=(D' k (n-k)).any f
theorem IP{f:Nat->X'}{k n:Nat}(h:k<n):j7 f k n=(f k||j7 f (k+1) n):=by unfold j7;rw[show n-k=(n-(k+1))+1 from a?,List.range'_succ];rfl
theorem Um{f:Nat->X'}{k n:Nat}(h:n<=k):j7 f k n=O:=by unfold j7;rw[show n-k=0 from a?];rfl
theorem MZ{f:Nat->X'}{k n:Nat}:j7 f k n=U↔∃i,k<=i/\i<n/\f i=U:=by unfold j7;rw[List.any_eq_true];constructor;rintro⟨i,hi,u⟩;rw[List.mem_range'_1]at hi;exact⟨i,hi.1,a?,u⟩;rintro⟨i,a,w,u⟩;exact⟨i,by rw[List.mem_range'_1];omega,u⟩
theorem HW{step:Int->aX (Fw Int Unit Unit)}{n:Nat}(f:Nat->X')(D:n<9223372036854775807)(a:∀i:Nat,i<n->step i=M (if f i then .r ()else .n (w? N ((i:Int)+1))))(B:step (n:Int)=M (.x ())):
 ∀m k:Nat,k+m=n->bL step (k:Int)=M (if j7 f k n then .r ()else .x ()):=by
 intro m
 induction m with
 |zero=>
  intro k b;have:k=n:=a?
  subst this;rw[fP,B,Um (x? _)];rfl
 |succ m u=>
  intro k b;rw[fP,a k a?,IP a?]
  cases w:f k with
  |true=>rfl|false=>
   simp only[v?,_a,ζb,Bool.false_or];rw[cq k a?]
   exact u (k+1) a?
def o8(g:Nat->Int)(k n:Nat):Int:=match(D' k (n-k)).find? λi=> !(g i==0)with
 |some i=>g i|none=>0
theorem IW{g:Nat->Int}{k n:Nat}(h:k<n):o8 g k n=if g k=0 then o8 g (k+1) n else g k:=by unfold o8;rw[show n-k=(n-(k+1))+1 from a?,List.range'_succ,List.find?_cons];by_cases u:g k=0;simp[u];rw[M' u,show(!(g k==0))=U from by simp[u]]
theorem MI{g:Nat->Int}{k n:Nat}(h:n<=k):o8 g k n=0:=by unfold o8;rw[show n-k=0 from a?];rfl
theorem Ja{g:Nat->Int}{n:Nat}:∀{m k:Nat},k+m=n->(o8 g k n=0↔∀i,k<=i->i<n->g i=0):=by intro m;induction m with|zero=>intro k b;rw[MI a?];exact⟨λ_ i a u=>a?,λ_=>rfl⟩|succ m z=>intro k b;rw[IW a?];split;rename_i w;rw[z (show k+1+m=n by omega)];constructor;intro h i a u;by_cases e:i=k;subst e;exact w;exact h i a? u;intro h i a u;exact h i a? u;rename_i w;exact⟨λh=>_e h w,λh=>_e (h k (x? _) a?) w⟩
theorem ZV{step:Int->aX (Fw Int Unit Int)}{n:Nat}(g:Nat->Int)(D:n<9223372036854775807)(a:∀i:Nat,i<n->step i=M (if g i=0 then .n (w? N ((i:Int)+1))else .r (g i)))(B:step (n:Int)=M (.x ())):
 ∀m k:Nat,k+m=n->bL step (k:Int)=M (if o8 g k n=0 then .x ()else .r (o8 g k n)):=by
 intro m
 induction m with
 |zero=>
  intro k b;have:k=n:=a?
  subst this;rw[fP,B,MI (x? _)];rfl
 |succ m w=>
  intro k b;rw[fP,a k a?,IW a?]
  by_cases u:g k=0
  .simp only[u,N',ζb];rw[cq k a?]
   exact w (k+1) a?
  simp only[u,_a,ζb]
theorem B0{step:Int->aX (Fw Int Unit Int)}{n:Nat}(g:Nat->Int)(B:n<9223372036854775807)(a:∀i:Nat,i<n->step i=M (if g i=0 then .n (w? N ((i:Int)+1))else .r (g i)))(D:step (n:Int)=M (.x ())):bL step 0=M (if o8 g 0 n=0 then .x ()else .r (o8 g 0 n)):=ZV g B a D n 0 a?
theorem EU{step:Int->aX (Fw Int Unit Unit)}{n:Nat}(f:Nat->X')(B:n<9223372036854775807)(a:∀i:Nat,i<n->step i=M (if f i then .r ()else .n (w? N ((i:Int)+1))))(D:step (n:Int)=M (.x ())):bL step 0=M (if j7 f 0 n then .r ()else .x ()):=HW f B a D n 0 a?
def Aw(c:Int):X':=_s (c>=65)&&_s (c<=90)||decide (c>=97)&&_s (c<=122)
def EG(c:Int):X':=_s (c>=48)&&_s (c<=57)
theorem Hv(c:Int):sL c=M (Aw c):=by unfold sL Aw;simp only[pG,nj,ζb];rw[Bool.or_comm]
theorem Hy(c:Int):rJ c=M (Aw c):=by unfold rJ Aw;simp only[pG,nj,ζb]
theorem SA(c:Int):xy c=M (EG c):=by unfold xy EG;simp only[pG,ζb]
theorem TE(c:Int):vQ c=M (EG c):=by unfold vQ EG;simp only[pG,ζb]
def Ai(s:U')(i:Nat):Int:=(nF s (i:Int)).getD 0
theorem FN{s:U'}{i:Nat}(h:i<s.size):nF s (i:Int)=M (Ai s i):=by have⟨x,u⟩:=PI h;unfold Ai;rw[u];rfl
def vo(s:U')(i:Nat):X':= !Aw (Ai s i)&& !EG (Ai s i)&& !(Ai s i==95)
def n9(s:U'):X':=_s (1<=s.size)&&_s (s.size<=16)&&Aw (Ai s 0)&& !j7 (vo s) 0 s.size
theorem PT{s:U'}{i:Nat}(h:i<s.size):iM.bl s (s.size:Int) i=M (if vo s i then .r ()else .n (w? N ((i:Int)+1))):=by unfold iM.bl vo;rw[show _s ((i:Int)<(s.size:Int))=U from by simpa using h,bq,FN h];simp only[ζb,Hv,SA];cases Aw (Ai s i)<;>cases EG (Ai s i)<;>cases(Ai s i==95)<;>rfl
theorem Pf{s:U'}{i:Nat}(h:i<s.size):jm.bl s i=M (if vo s i then .r ()else .n (w? N ((i:Int)+1))):=by unfold jm.bl vo;rw[show _s ((i:Int)<((ByteArray.size s:Nat):Int))=U from by simpa using h,bq,FN h];simp only[ζb,Hy,TE];cases Aw (Ai s i)<;>cases EG (Ai s i)<;>cases(Ai s i==95)<;>rfl
theorem toList_empty{s:U'}:(C? s==C? ByteArray.empty)=_s (s.size=0):=by
 rw[Bool.eq_iff_iff,_j,_g];constructor;intro h;have a:W (C? s)=s.size:=by rw[Go.ByteArray.toList_eq];simp
 rw[<-a,h];rw[Go.ByteArray.toList_eq];rfl;intro h;have:s=ByteArray.empty:=by apply ByteArray.ext;exact Array.eq_empty_of_size_eq_zero h
 rw[this]
theorem J6{s:U'}(B:s.size<1073741824):iM s=M (n9 s):=by
 unfold iM;rw[toList_empty];simp only[nj,ζb];by_cases w:s.size=0;simp[w,n9,bh];by_cases u:s.size<=16;have a:(_s (s.size=0)||decide (((ByteArray.size s:Nat):Int)>16))=O:=by simp[w];omega
 rw[a,br,show(0:Int)=((0:Nat):Int)from Y,FN (show 0<s.size by omega)];simp only[ζb,Hv];cases z:Aw (Ai s 0)with|false=>simp[n9,z,bh]|true=>simp only[Bool.not_true,br];unfold iM.W1;rw[HW (n:=s.size) (vo s) a? (λi hi=>PT hi) (by unfold iM.bl;simp[bh]) s.size 0 a?];have:n9 s= !j7 (vo s) 0 s.size:=(by simp[n9,z,u];omega);rw[this];cases j7 (vo s) 0 s.size<;>rfl
 have a:(_s (s.size=0)||decide (((ByteArray.size s:Nat):Int)>16))=U:=by simp;omega
 rw[a,bq];simp[n9,u,bh]
theorem L7{s:U'}(D:s.size<1073741824):jm s=M (n9 s):=by
 unfold jm;simp only[nj,ζb];by_cases B:s.size=0;simp[B,n9,bh];by_cases u:s.size<=16;have a:(_s (((ByteArray.size s:Nat):Int)<1)||decide (((ByteArray.size s:Nat):Int)>16))=O:=by simp;omega
 rw[a,br,show(0:Int)=((0:Nat):Int)from Y,FN (show 0<s.size by omega)];simp only[ζb,Hy];cases w:Aw (Ai s 0)with|false=>simp[n9,w,bh]|true=>simp only[Bool.not_true,br];unfold jm.W1;rw[show(1:Int)=((1:Nat):Int)from Y,HW (n:=s.size) (vo s) a? (λi hi=>Pf hi) (by unfold jm.bl;simp[bh]) (s.size-1) 1 a?];have z:vo s 0=O:=(by simp[vo,w]);have:n9 s= !j7 (vo s) 1 s.size:=(by have b:=IP (f:=vo s) (show 0<s.size by omega);rw[z]at b;simp[n9,w,u,b];omega);rw[this];cases j7 (vo s) 1 s.size<;>rfl
 have a:(_s (((ByteArray.size s:Nat):Int)<1)||decide (((ByteArray.size s:Nat):Int)>16))=U:=by simp;omega
 rw[a,bq];simp[n9,u,bh]
def fO{α:Type}(l:aY α)(f:α->X')(i:Nat):X':=match l[i]?with|some y=>f y|none=>O
theorem Dq{α:Type}{l:aY α}{f:α->X'}{i:Nat}(h:i<W l):fO l f i=f l[i]:=by unfold fO;rw[ζd h]
theorem FF{α:Type}{l:aY α}{f:α->X'}{p:Nat}:(l.take p).any f=j7 (fO l f) 0 p:=by
 rw[Bool.eq_iff_iff,List.any_eq_true,MZ];constructor;rintro⟨x,w,u⟩;have⟨i,hi⟩:=List.getElem?_of_mem w;have z:=(ζe.1 hi).1;rw[l!]at z;rw[J?,L' a?]at hi;exact⟨i,N? _,a?,by unfold fO;rw[hi];exact u⟩;rintro⟨i,_,hi,u⟩;unfold fO at u;split at u;next y B=>exact⟨y,s? (i:=i) (by rw[J?,L' hi];exact B),u⟩
 cases u
def uM(a b:U'):X':=C? a==C? b
def abm:X'->X'->X'->Int
 |true,O,U=>0|true,O,O=>2|_,_,_=>13
def xE(P:bT)(i:Nat):Int:=match P.h?.l[i]?with
 |some v=>abm (n9 v.name) (j7 (fO P.h?.l λw=>uM w.name v.name) 0 i) (_s (v.init_>=-1073741824)&&_s (v.init_<=1073741824))|none=>0
def tc(t:Z4)(p:Nat):Int:=match t.b?.l[p]?with
 |some P=>if n9 P.name&& !j7 (fO t.b?.l λy=>uM y.name P.name) 0 p then
  (if W P.h?.l>8 then 5 else if o8 (xE P) 0 (W P.h?.l)=0 then(if W P.c?.l>64 then 5 else 0)else o8 (xE P) 0 (W P.h?.l))else 13
 |none=>0
theorem Jh{P:bT}{i:Nat}(h:i<W P.h?.l):xE P i=abm (n9 P.h?.l[i].name) (j7 (fO P.h?.l λw=>uM w.name P.h?.l[i].name) 0 i) (_s (P.h?.l[i].init_>=-1073741824)&&_s (P.h?.l[i].init_<=1073741824)):=by unfold xE;rw[ζd h]
theorem Jx(n:Int):sO n=M (_s (n>=-1073741824)&&_s (n<=1073741824)):=by unfold sO;rw[pG];rfl
theorem WC{t:Z4}(a:Small t){p:Nat}(hp:p<W t.b?.l):fK t p=M (tc t p):=by
 have h:=a.2 _ (t? hp);have d:=a.1;unfold fK tc;rw[bA hp,ζb,ζd hp];generalize o:t.b?.l[p]=P at *;have⟨S,X,j,u,_⟩:=h;rw[J6 j,ζb];have⟨x,m,D⟩:=uU t.b? p a?;have G:iS x (λz=>lF z P)=M (j7 (fO t.b?.l λy=>uM y.name P.name) 0 p):=by rw[CM (p:=λz=>lF z P) (f:=λy=>uM y.name P.name) (λy _=>rfl) (by rw[D,l!];omega),D,FF]
 rw[m,ζb,G,ζb];dsimp only;cases e:n9 P.name with|false=>simp[bh]|true=>rw[bq,ζb,Bool.true_and];cases hd:j7 (fO t.b?.l λy=>uM y.name P.name) 0 p with|true=>simp[bh]|false=>rw[br];simp only[Bool.not_false,N'];by_cases T:W P.h?.l>8;rw[show _s (len P.h?>8)=U from by simp[len];omega,bq,L' T];rw[show _s (len P.h?>8)=O from by simp[len];omega,br,M' T];unfold fK.W1;rw[B0 (n:=W P.h?.l) (xE P) a? (λi hi=>?_) (by unfold fK.bl;simp[bh,len])];by_cases L:o8 (xE P) 0 (W P.h?.l)=0;rw[L' L,L' L];show bh (_s (len P.c?>64)) (M 5) (M 0)=_;rw[wq];simp only[len,_g];by_cases I:W P.c?.l>64;rw[L' I,L' a?];rw[M' I,M' a?];rw[M' L,M' L];rfl;unfold fK.bl;rw[Jh hi,show _s ((i:Int)<len P.h?)=U from by simp[len];exact hi,bq,bA hi,ζb];have b:=u _ (t? hi);have⟨y,Z,g⟩:=uU P.h? i a?;have Q:i_ y (λz=>lK z P.h?.l[i])=M (j7 (fO P.h?.l λw=>uM w.name P.h?.l[i].name) 0 i):=(by rw[Ep (p:=λz=>lK z P.h?.l[i]) (f:=λw=>uM w.name P.h?.l[i].name) (λw _=>rfl) (by rw[g,l!];omega),g,FF]);rw[J6 b,ζb,Z,ζb,Q,ζb,rT];have c:(_s (-1073741824<=P.h?.l[i].init_)&&_s (P.h?.l[i].init_<=1073741824))=(_s (P.h?.l[i].init_>=-1073741824)&&_s (P.h?.l[i].init_<=1073741824)):=rfl;rw[c];generalize n9 P.h?.l[i].name=A;generalize j7 (fO P.h?.l λw=>uM w.name P.h?.l[i].name) 0 i=B;generalize(_s (P.h?.l[i].init_>=-1073741824)&&_s (P.h?.l[i].init_<=1073741824))=C;cases A<;>cases B<;>cases C<;>rfl
theorem Uk{t:Z4}(a:Small t){p:Nat}(hp:p<W t.b?.l):eX t p=M (tc t p):=by have Q:=a.2 _ (t? hp);have b:=a.1;unfold eX tc;rw[bA hp,ζb,ζd hp];generalize S:t.b?.l[p]=P at *;have⟨L,T,d,u,_⟩:=Q;rw[L7 d,ζb];dsimp only;cases X:n9 P.name with|false=>simp[bh]|true=>rw[bq,Bool.true_and];unfold eX.W1;rw[EU (n:=p) (fO t.b?.l λy=>uM y.name P.name) a? (λi hi=>?_) (by unfold eX.bl;simp[bh])];(cases hd:j7 (fO t.b?.l λy=>uM y.name P.name) 0 p with|true=>rfl|false=>simp only[Bool.not_false,N'];show bh (_s (len P.h?>8)) (M 5) (eX.W2 0 P)=_;by_cases h:W P.h?.l>8;rw[show _s (len P.h?>8)=U from by simp[len];omega,bq,L' h];rw[show _s (len P.h?>8)=O from by simp[len];omega,br,M' h];unfold eX.W2;rw[B0 (n:=W P.h?.l) (xE P) a? (λi hi=>?_) (by unfold eX.bK;simp[bh,len])];by_cases I:o8 (xE P) 0 (W P.h?.l)=0;rw[L' I,L' I];show bh (_s (len P.c?>64)) (M 5) (M 0)=_;rw[wq];simp only[len,_g];by_cases z:W P.c?.l>64;rw[L' z,L' a?];rw[M' z,M' a?];rw[M' I,M' I];rfl;unfold eX.bK;rw[Jh hi,show _s ((i:Int)<len P.h?)=U from by simp[len];exact hi,bq,bA hi,ζb];(rw[L7 (u _ (t? hi)),ζb];have g:eX.W3 i 0 P=if j7 (fO P.h?.l λw=>uM w.name P.h?.l[i].name) 0 i then M (.r 13)else(if _s (P.h?.l[i].init_>=-1073741824)&&_s (P.h?.l[i].init_<=1073741824)then M (.n (w? N ((i:Int)+1)))else M (.r 2)):=by unfold eX.W3;rw[EU (n:=i) (fO P.h?.l λw=>uM w.name P.h?.l[i].name) a? (λj m=>?_) (by unfold eX.dQ;simp[bh])];(cases j7 (fO P.h?.l λw=>uM w.name P.h?.l[i].name) 0 i with|true=>rfl|false=>show(idx P.h? (i:Int)).bind _=_;rw[bA hi,ζb,Jx,ζb];cases(_s (P.h?.l[i].init_>=-1073741824)&&_s (P.h?.l[i].init_<=1073741824))<;>rfl);unfold eX.dQ;have D:j<W P.h?.l:=a?;rw[show _s ((j:Int)<(i:Int))=U from by simpa using m,bq,bA D,ζb,bA hi,ζb,Dq D,wq];rfl);rw[g];generalize n9 P.h?.l[i].name=A;generalize j7 (fO P.h?.l λw=>uM w.name P.h?.l[i].name) 0 i=B;generalize(_s (P.h?.l[i].init_>=-1073741824)&&_s (P.h?.l[i].init_<=1073741824))=C;cases A<;>cases B<;>cases C<;>rfl);unfold eX.bl;have G:i<W t.b?.l:=a?;rw[show _s ((i:Int)<(p:Int))=U from by simpa using hi,bq,bA G,ζb,Dq G,wq];rfl
def Ma(n:Nat)(p:Int)(e:WF):X':=if e.kind==1 then e.k?==0&&e.d?==0 else(e.kind==2||e.kind==3)&&(_s (0<=e.k?)&&_s (e.k?<n))&& !(e.k?==p)&&(_s (0<=e.d?)&&_s (e.d?<=199))
theorem Tv{t:Z4}(a:Small t)(p:Int)(e:WF):jO t p e=M (Ma (W t.b?.l) p e):=by
 have c:=a.1;have w:w? N (len t.b?-1)=len t.b?-1:=dV _ (by simp[len];omega) (by simp[len];omega);have u:∀b:X',jO.J1 p b t e=M (b&&(_s (0<=e.k?)&&_s (e.k?<W t.b?.l))&& !(e.k?==p)&&(_s (0<=e.d?)&&_s (e.d?<=199))):=by intro b;unfold jO.J1;simp only[rT,w,ζb];have:_s (e.k?<=len t.b?-1)=_s (e.k?<W t.b?.l):=(by congr 1;apply propext;simp[len];omega);rw[this];generalize(_s (0<=e.k?)&&_s (e.k?<(W t.b?.l:Int)))=A;generalize(e.k?==p)=B;generalize(_s (0<=e.d?)&&_s (e.d?<=199))=C;cases b<;>cases A<;>cases B<;>cases C<;>rfl
 unfold jO Ma;rw[u,u];cases c:e.kind==1 with|true=>rw[bq];cases e.k?==0<;>cases e.d?==0<;>rfl|false=>rw[br];simp only[v?,_a];cases z:e.kind==2<;>simp[bh]
def FM(P:bT)(k:Nat)(e:WF):X':=match k with|0=>O|j+1=>fO P.c?.l (λx=>_s (e.time<x.time)) j
def xh(P:bT)(k:Nat)(e:WF):X':=_s (e.time<0)||decide (e.time>1099511627776)||FM P k e
def QJ:X'->X'->X'->Int
 |true,U,O=>0|true,U,U=>8|_,_,_=>2
def nT(P:bT)(e:WF)(i:Nat):Int:=match e.assign.l[i]?with
 |some a=>QJ (_s (0<=a.var)&&_s (a.var<W P.h?.l)) (_s (a.value>=-1073741824)&&_s (a.value<=1073741824)) (j7 (fO e.assign.l λb=>b.var==a.var) 0 i)|none=>0
theorem Jy{P:bT}{e:WF}{i:Nat}(h:i<W e.assign.l):nT P e i=QJ (_s (0<=e.assign.l[i].var)&&_s (e.assign.l[i].var<W P.h?.l)) (_s (e.assign.l[i].value>=-1073741824)&&_s (e.assign.l[i].value<=1073741824)) (j7 (fO e.assign.l λb=>b.var==e.assign.l[i].var) 0 i):=by unfold nT;rw[ζd h]
def qu(n:Nat)(P:bT)(p k:Nat)(e:WF):Int:=if Ma n p e then(if xh P k e then 11 else if W e.assign.l>8 then 5 else o8 (nT P e) 0 (W e.assign.l))else 3
theorem Pq{P:bT}{e:WF}(c:W P.h?.l<1073741824)(T:W e.assign.l<1073741824):eu.W2 e.assign (len e.assign) 0 e P=M (o8 (nT P e) 0 (W e.assign.l)):=by
 have I:w? N (len P.h?-1)=len P.h?-1:=dV _ (by simp[len];omega) (by simp[len];omega);unfold eu.W2;rw[B0 (n:=W e.assign.l) (nT P e) a? (λi hi=>?_) (by unfold eu.bK;simp[bh,len])];by_cases D:o8 (nT P e) 0 (W e.assign.l)=0;rw[L' D,D];rfl;rw[M' D];rfl;unfold eu.bK;have⟨y,d,u⟩:=uU e.assign i a?;have G:je y (λz=>mQ z e.assign.l[i])=M (j7 (fO e.assign.l λb=>b.var==e.assign.l[i].var) 0 i):=by rw[H6 (p:=λz=>mQ z e.assign.l[i]) (f:=λb=>b.var==e.assign.l[i].var) (λw _=>rfl) (by rw[u,l!];omega),u,FF]
 rw[Jy hi,show _s ((i:Int)<len e.assign)=U from by simp[len];exact hi,bq,bA hi,ζb,rT,rT,I,d,ζb,ζb,ζb,G,ζb];have a:(_s (0<=e.assign.l[i].var)&&_s (e.assign.l[i].var<=len P.h?-1))=(_s (0<=e.assign.l[i].var)&&_s (e.assign.l[i].var<W P.h?.l)):=by congr 2;apply propext;simp[len];omega
 have L:(_s (-1073741824<=e.assign.l[i].value)&&_s (e.assign.l[i].value<=1073741824))=(_s (e.assign.l[i].value>=-1073741824)&&_s (e.assign.l[i].value<=1073741824)):=rfl;rw[a,L];generalize(_s (0<=e.assign.l[i].var)&&_s (e.assign.l[i].var<(W P.h?.l:Int)))=A;generalize(_s (e.assign.l[i].value>=-1073741824)&&_s (e.assign.l[i].value<=1073741824))=B;generalize j7 (fO e.assign.l λb=>b.var==e.assign.l[i].var) 0 i=C;cases A<;>cases B<;>cases C<;>rfl
theorem Sx{t:Z4}(a:Small t){p k:Nat}{P:bT}{e:WF}(D:t.b?.l[p]?=M P)(T:P.c?.l[k]?=M e):eu t ⟨p,k+1⟩ e=M (qu (W t.b?.l) P p k e):=by
 have⟨L,w⟩:=ζe.1 D;have⟨b,z⟩:=ζe.1 T;have⟨G,B,_,_,C⟩:=a.2 P (w▸t? L);have h:=C e (z▸t? b);have I:∀last:Int,((_s (0<=e.time)&&_s (e.time<=1099511627776))&& !_s (e.time<last))=(!xh P k e)->
  eu.J1 last t ⟨p,k+1⟩ e P=M (qu (W t.b?.l) P p k e):=by
  intro last Q;unfold eu.J1 qu;rw[Tv a,ζb,rT,ζb,Pq B h];dsimp only
  cases Ma (W t.b?.l) p e with
  |false=>rfl|true=>
   rw[bq,L' Y];have:(bh (_s (0<=e.time)&&_s (e.time<=1099511627776)) (M (_s (e.time<last))) (M U):aX X')=M (xh P k e):=by
    have S:(!((_s (0<=e.time)&&_s (e.time<=1099511627776))&& !_s (e.time<last)))=xh P k e:=by rw[Q,Bool.not_not]
    rw[<-S];cases(_s (0<=e.time)&&_s (e.time<=1099511627776))<;>cases _s (e.time<last)<;>rfl
   rw[this,ζb]
   cases xh P k e with
   |true=>rfl|false=>
    rw[br];simp only[v?,_a]
    by_cases d:W e.assign.l>8
    .rw[show _s (len e.assign>8)=U from by simp[len];omega,bq,L' d]
    rw[show _s (len e.assign>8)=O from by simp[len];omega,br,M' d]
 unfold eu;dsimp only;rw[show idx t.b? (p:Int)=M P from by rw[gp];exact D,ζb];cases k with|zero=>rw[show _s (((0:Nat):Int)+1>1)=O from by decide,br];refine I 0 ?_;simp only[xh,FM,Bool.or_false];rw[Bool.eq_iff_iff];simp only[ζh,Z?,_g,_h,h!];omega|succ j=>rw[show _s ((((j+1:Nat)):Int)+1>1)=U from by simp;omega,bq];have u:j<W P.c?.l:=a?;have g:w? N ((((j+1:Nat)):Int)+1-2)=((j:Nat):Int):=(by rw[dV _ a? a?];omega);rw[g,bA u,ζb];refine I _ ?_;simp only[xh,FM,Dq u];rw[Bool.eq_iff_iff];simp only[ζh,Z?,_g,_h,h!];omega
theorem Rj{t:Z4}{p:Nat}{P:bT}{e:WF}(D:t.b?.l[p]?=M P)(d:W e.assign.l<1073741824):eY.W2 p 0 t e=M (o8 (nT P e) 0 (W e.assign.l)):=by
 unfold eY.W2;rw[B0 (n:=W e.assign.l) (nT P e) a? (λi hi=>?_) (by unfold eY.bK;simp[bh,len])];by_cases w:o8 (nT P e) 0 (W e.assign.l)=0;rw[L' w,w];rfl;rw[M' w];rfl;unfold eY.bK;have z:eY.W3 p i 0 t e e.assign.l[i]=if j7 (fO e.assign.l λb=>b.var==e.assign.l[i].var) 0 i then M (.r 8)else M (.n (w? N ((i:Int)+1))):=by unfold eY.W3;rw[EU (n:=i) (fO e.assign.l λb=>b.var==e.assign.l[i].var) a? (λj G=>?_) (by unfold eY.dQ;simp[bh])];cases j7 (fO e.assign.l λb=>b.var==e.assign.l[i].var) 0 i<;>rfl;unfold eY.dQ;have u:j<W e.assign.l:=a?;rw[show _s ((j:Int)<(i:Int))=U from by simpa using G,bq,bA u,ζb,Dq u,wq]
 rw[Jy hi,show _s ((i:Int)<len e.assign)=U from by simp[len];exact hi,bq,bA hi,ζb,z,Jx,ζb,show idx t.b? (p:Int)=M P from by rw[gp];exact D,ζb];have a:(bh (_s (e.assign.l[i].var<0)) (M U) (M (_s (e.assign.l[i].var>=len P.h?))):aX X')=M (!(_s (0<=e.assign.l[i].var)&&_s (e.assign.l[i].var<W P.h?.l))):=by rw[nj];congr 1;rw[Bool.eq_iff_iff];simp only[p!,Z?,_g,Bool.and_eq_false_iff,_h,len];omega
 rw[a,ζb];generalize(_s (0<=e.assign.l[i].var)&&_s (e.assign.l[i].var<(W P.h?.l:Int)))=A;generalize(_s (e.assign.l[i].value>=-1073741824)&&_s (e.assign.l[i].value<=1073741824))=B;generalize j7 (fO e.assign.l λb=>b.var==e.assign.l[i].var) 0 i=C;cases A<;>cases B<;>cases C<;>rfl
theorem Wi{t:Z4}(b:Small t){p k:Nat}{P:bT}{e:WF}(g:t.b?.l[p]?=M P)(T:P.c?.l[k]?=M e):eY t p k=M (qu (W t.b?.l) P p k e):=by
 have⟨S,w⟩:=ζe.1 g;have⟨c,z⟩:=ζe.1 T;have⟨i,h,_,_,I⟩:=b.2 P (w▸t? S);have m:=I e (z▸t? c);have X:eY.J1 p k t e=M (if xh P k e then 11 else if W e.assign.l>8 then 5 else o8 (nT P e) 0 (W e.assign.l)):=by unfold eY.J1;rw[nj,ζb,Rj g m,show idx t.b? (p:Int)=M P from by rw[gp];exact g,ζb];have a:(bh (_s ((k:Int)>0)) (H (idx P.c? (w? N ((k:Int)-1))) λL=>M (_s (e.time<L.time))) (M O):aX X')=M (FM P k e):=(by cases k with|zero=>rfl|succ j=>have u:j<W P.c?.l:=a?;rw[show _s ((((j+1:Nat)):Int)>0)=U from by simp only[_g];omega,bq,show w? N ((((j+1:Nat)):Int)-1)=((j:Nat):Int)from by rw[dV _ a? a?];omega,bA u,ζb];simp only[FM,Dq u]);rw[a,ζb,nj,ζb];show bh (xh P k e) _ _=_;cases xh P k e with|true=>rfl|false=>rw[br];simp only[v?,_a];by_cases Q:W e.assign.l>8;rw[show _s (len e.assign>8)=U from by simp[len];omega,bq,L' Q];rw[show _s (len e.assign>8)=O from by simp[len];omega,br,M' Q]
 unfold eY qu;rw[show idx t.b? (p:Int)=M P from by rw[gp];exact g,ζb,show idx P.c? (k:Int)=M e from by rw[gp];exact T,ζb,X];unfold Ma;cases a:e.kind==1 with|true=>rw[bq];simp only[N'];cases e.k?==0<;>cases e.d?==0<;>rfl|false=>rw[br];simp only[v?,_a];have o:(bh (e.kind==2) (M O) (M (!(e.kind==3))):aX X')=M (!(e.kind==2||e.kind==3)):=(by cases e.kind==2<;>rfl);rw[o,ζb,nj,ζb,nj,ζb,nj,ζb,nj,ζb,nj,ζb];have d:(((((!(e.kind==2||e.kind==3))||decide (e.k?<0))||decide (e.k?>=len t.b?))||(e.k?==p))||decide (e.d?<0)||decide (e.d?>199))= !((e.kind==2||e.kind==3)&&(_s (0<=e.k?)&&_s (e.k?<W t.b?.l))&& !(e.k?==p)&&(_s (0<=e.d?)&&_s (e.d?<=199))):=(by generalize(e.kind==2||e.kind==3)=A;have a1:_s (e.k?<0)= !_s (0<=e.k?):=(by rw[Bool.eq_iff_iff];simp);have a2:_s (e.k?>=len t.b?)= !_s (e.k?<W t.b?.l):=(by rw[Bool.eq_iff_iff];simp[len]);have a3:_s (e.d?<0)= !_s (0<=e.d?):=(by rw[Bool.eq_iff_iff];simp);have a4:_s (e.d?>199)= !_s (e.d?<=199):=(by rw[Bool.eq_iff_iff];simp);rw[a1,a2,a3,a4];generalize _s (0<=e.k?)=B;generalize _s (e.k?<(W t.b?.l:Int))=C;generalize(e.k?==(p:Int))=D;generalize _s (0<=e.d?)=F;generalize _s (e.d?<=199)=G;cases A<;>cases B<;>cases C<;>cases D<;>cases F<;>cases G<;>rfl);rw[d];generalize((e.kind==2||e.kind==3)&&(_s (0<=e.k?)&&_s (e.k?<(W t.b?.l:Int)))&& !(e.k?==(p:Int))&&(_s (0<=e.d?)&&_s (e.d?<=199)))=Z;cases Z<;>rfl
theorem Pm{n:Nat}{p:Int}{e:WF}(h:Ma n p e=U):nq n p e:=by
 unfold Ma at h;split at h;next a=>left;simpa using a
 right;simp only[ζh,p!,_j,_g,Z?,_i,ne_eq]at h;have⟨⟨⟨a,u⟩,z⟩,w⟩:=h;exact⟨a,u.1,u.2,z,w.1,w.2⟩
theorem LK{n:Nat}{P:bT}{p k:Nat}{e:WF}(h:qu n P p k e=0):nq n p e:=by
 unfold qu at h;split at h;next a=>exact Pm a
 cases h
theorem BY{α:Type}[DecidableEq α]:∀{l r:aY α},l.Nodup->(∀x∈l,x∈r)->W l<=W r
 |[],_,_,_=>N? _|x::l,r,D,G=>by have B:=List.nodup_cons.1 D;have:=BY (r:=r.erase x) B.2 λy u=>(List.mem_erase_of_ne g?).2 (G y (B? _ u));grind
section
variable{κ:Type}[DecidableEq κ]
theorem Hj{ν:Type}{k:κ}:∀{m:Mo κ ν},k∉m.map (·.1)->qq k m=J
 |[],_=>rfl|(a,v)::r,h=>by simp only[K?,n',not_or]at h;unfold qq;rw[M' h.1];exact Hj h.2
theorem JF{ν:Type}{k:κ}:∀{m:Mo κ ν},k∈m.map (·.1)->∃v,qq k m=M v/\(k,v)∈m
 |[],h=>o?|(a,v)::r,h=>by unfold qq;by_cases e:k=a;grind;obtain⟨w,b,B⟩:=JF (by simpa[e]using h);grind
theorem uH{ν:Type}{k:κ}{v:ν}:∀{m:Mo κ ν},k∉m.map (·.1)->qy m k v=m++[(k,v)]
 |[],_=>rfl|(a,w)::r,h=>by simp only[K?,n',not_or]at h;show(if k=a then _ else _)=_;rw[M' h.1,uH h.2];rfl
end
def Vd(t:Z4)(y:bf):Prop:=∃e,(y,e)∈bO t
theorem Vd.at_{t:Z4}{y:bf}(h:Vd t y):∃(p k:Nat)(e:WF),mP t p k e/\y=⟨p,k+1⟩/\(y,e)∈bO t:=by have⟨e,u⟩:=h;grind[dY]
def Md(t:Z4)(y z:bf):Prop:=∃e f,(y,e)∈bO t/\(z,f)∈bO t/\e.kind=2/\f.kind=3/\e.d?=f.d?
def Edge(t:Z4)(y z:bf):Prop:=Vd t y/\Vd t z/\(z=⟨y.proc,y.index+1⟩\/Md t y z)
abbrev Way(t:Trace):bf->bf->Prop:=TransGen (Edge t)
def Ol(t:Z4):Prop:=∃x,Way t x x
theorem Way.l{t:Z4}{x y:bf}(h:Way t x y):Vd t x:=by induction h with|single h=>exact h.1|tail _ _ u=>omega
theorem Way.r{t:Z4}{x y:bf}(h:Way t x y):Vd t y:=by cases h with|single h=>exact h.2.1|tail _ h=>exact h.2.1
theorem VH{t:Z4}(g:Small t)(l:∀x∈bO t,nq (_m t.b?.l) x.1.proc x.2){A:cn 200 bC}(Y:fm t (bO t) A){y:bf}(F:Vd t y):
 Wp (kS t A y) λs=>_m s.l<=2/\∀z,z∈s.l↔Edge t y z:=by
 have⟨p,k,e,L,C,u⟩:=F.at_;have⟨P,b__,d⟩:=L;have S:P∈t.b?.l:=s? b__;have a:=(g.2 P S).1;have X:k<_m P.c?.l:=(ζe.1 d).1;have D:y.proc=p:=by rw[C]
 have T:y.index=k+1:=by rw[C]
 have j:∀s:Sl bf,_m s.l<=1->(∀z,z∈s.l↔Vd t z/\z=⟨y.proc,y.index+1⟩)->Wp (kS.J1 A s P.c? y) λs=>_m s.l<=2/\∀z,z∈s.l↔Edge t y z:=by
  intro s n w;have no:¬(∃z,Md t y z)->_m s.l<=2/\∀z,z∈s.l↔Edge t y z:=λZ=>⟨a?,λz=>(w z).trans ⟨λh=>⟨F,h.1,.inl h.2⟩,λh=>⟨h.2.1,h.2.2.elim id λh=>(Z ⟨z,h⟩).elim⟩⟩⟩;unfold kS.J1;have a__:w? N (y.index-1)=((k:Nat):Int):=by rw[T,dV _ a? a?];omega
  rw[a__,gp,d,ζb,eS,cm];constructor
  .intro B;have B:e.kind=2:=by grind
   have I:0<=e.d?/\e.d?<=199:=by rcases l _ u with h|⟨_,_,_,_,h⟩;all_goals grind
   have b:∀z,Md t y z->(ag A e.d?).to_=z:=λz⟨W,f,a1,a2,a3,a4,a5⟩=>by cases BG a1 u _l;rw[a5];exact(Y.rcv _ a2 a4).1
   rw[Rh A I.1 I.2,ζb,a_,cm];refine⟨λh=>?_,λh=>(a_ _).2 (no λ⟨z,w⟩=>?_)⟩
   .have h:(ag A e.d?).to_.index>0:=(by grind);rw[ζb];unfold eH;rw[L' a?,ζb,a_];refine⟨by show(s.l++[(ag A e.d?).to_]).length<=2;grind,λz=>?_⟩;have G:Md t y (ag A e.d?).to_:=(by rcases Y.to e.d? I.1 I.2 with o|⟨W,a,c,m⟩;omega;exact⟨e,W,u,a,B,c,m.symm⟩);show z∈s.l++[(ag A e.d?).to_]↔_;rw[J!,g!,w];constructor;rintro(h|rfl);exact⟨F,h.1,.inl h.2⟩;exact⟨F,let⟨_,f,_,a2,_⟩:=G;⟨f,a2⟩,.inr G⟩;rintro⟨_,a,c|c⟩;all_goals grind
   rw[b z w]at h;have⟨_,f,_,a2,_⟩:=w;grind[dY]
  intro B;rw[a_,cm];refine⟨λh=>(by cases h),λ_=>(a_ _).2 (no λ⟨z,W,f,a1,_,a3,_⟩=>?_)⟩;cases BG a1 u _l;grind
 unfold kS;rw[D,gp,b__,ζb,cm];rw[D]at j;constructor
 .intro h;have h:y.index<len P.c?:=by grind
  have B:k+1<_m P.c?.l:=g?
  refine j _ (by simp[Sl.l]) λz=>?_
  have a__:w? N (y.index+1)=y.index+1:=dV _ a? a?
  simp only[Sl.l,g!,a__];refine⟨λw=>⟨⟨P.c?.l[k+1],dY.2 ⟨p,k+1,⟨P,b__,ζd B⟩,?_⟩⟩,w⟩,λw=>w.2⟩
  grind
 intro h;have h:¬y.index<len P.c?:=g?
 refine j _ (by simp[Sl.l]) λz=>⟨λw=>by grind[Sl.l],λ⟨w,r⟩=>?_⟩
 have⟨q,i,f,⟨Q,v,hi⟩,E,_⟩:=w.at_
 grind
structure Lv(t:Trace)(x:bf)(i?:Sl bf)(m:Mo bf Bool)(U:bf->Prop):Prop where
 rst:∀y∈i?.l,y=x\/Way t x y
 keys:(m.map (·.1)).Nodup
 seen:∀y∈m,Way t x y.1/\y.1≠x/\y.2=true
 le:i?.l.length<=m.length+1
 done:∀y,y=x\/y∈m.map (·.1)->y∈i?.l\/U y\/∀z,Edge t y z->z∈m.map (·.1)
theorem Lv.count{t:Z4}{x:bf}{i?:Sl bf}{m:Mo bf X'}{d:bf->Prop}(h:Lv t x i? m d):W m<=W (bO t):=by
 have:=BY (r:=(bO t).map (·.1)) h.keys λx u=>by obtain⟨y,w,rfl⟩:=mem_map.1 u;have⟨e,z⟩:=(h.seen y w).1.r;grind
 grind
theorem SK {t:Trace} (hS:Small t) (hN:(bO t).length<1073741824) (hF:∀x∈bO t,nq t.b?.l.length x.1.proc x.2) {A:cn 200 bC} (hA:fm t (bO t) A):Wp (jL t A) λr=>(r.2=true↔Ol t):=by
 unfold jL kR;rw[ζb];unfold jL.E1;rw[vI hS,ζb];refine AU (λk _=>∀x∈(bO t).take k,¬Way t x.1 x.1) f? ?_ λ_ h=>(a_ _).2 ⟨λh=>(by cases h),λ⟨x,hx⟩=>?_⟩
 .intro i x _ hx aq;have af:x∈bO t:=List.mem_of_getElem? hx;refine Wp.mono (P:=λw=>match w with|.n s=>¬Way t x.1 x.1|.x e=>False|.r e=>Ol t) ?_ λw hw=>by
   cases w with
   | n s=>
    intro y hy;rw[List.take_add_one,hx]at hy
    grind
   | x e=>grind
   | r b=>exact(a_ _).2 ⟨λ_=>hw,λ_=>rfl⟩
  refine eC (λq:Sl bf×Mo bf Bool=>Lv t x.1 q.1 q.2 λ_=>False) (λq=>2*((bO t).length-q.2.length)+q.1.l.length) ⟨λy hy=>.inl (by simpa [Sl.l]using hy),by simp,by simp,by simp[Sl.l],λy hy=>.inl ?_⟩ ?_
  .simpa [Sl.l]using hy
  rintro⟨i?,m⟩ L;unfold jL.bK;rw[cm];refine⟨λh=>?_,λh=>(a_ _).2 ((a_ _).2 λhw=>?_)⟩
  .have G:0<i?.l.length:=by
    grind
   have hc:=L.count;have au:=L.le;have hw:IntKind.wrap .i64 ((len i?)-1)=(i?.l.length-1:Nat):=by
    rw[dV _ g? g?];grind
   have I:i?.l.length-1<i?.l.length:=by omega
   rw[hw];have h1:Sl.iE i? (i?.l.length-1:Nat)=some (i?.l.length-1):=by
    unfold Sl.iE;grind
   have h2:Sl.get i? (i?.l.length-1)=some i?.l[i?.l.length-1]:=by unfold Sl.get;grind
   obtain⟨cut,h3,h4⟩:∃x,nW i? none (some ((i?.l.length-1:Nat):Int))=some x/\x.l=i?.l.take (i?.l.length-1):=by
    cases i? with
    | nil=>simp[Sl.l]at G
    | emp=>simp[Sl.l]at G
    | row l=>
     simp only[Sl.l]at G ⊢;unfold nW eD;simp_all
    | part l=>
     simp[Sl.l]at G ⊢;unfold nW eD;simp_all
   rw[h1,ζb,h2,ζb,h3,ζb,eS];generalize ah:i?.l[i?.l.length-1]=y;have ai:y∈i?.l:=ah▸List.getElem_mem I;have j:∀z,z∈i?.l->z∈cut.l\/z=y:=λz hz=>by
    have:i?.l.take (i?.l.length-1)++i?.l.drop (i?.l.length-1)=i?.l:=List.take_append_drop ..;rw[<-this]at hz;rcases List.mem_append.1 hz with hz|hz
    .grind
    rw[List.drop_eq_getElem_cons I,List.drop_of_length_le a?]at hz
    grind
   have aa  := L.rst _ ai;have aj  := aa.elim (λe=>⟨x.2,e▸af⟩) Way.r
   refine(VH hS hF hA aj).mono λs hs=>?_
   refine eC (λq:Sl bf×Int×Mo bf Bool=>∃n:Nat,q.2.1=n/\n<=s.l.length/\Lv t x.1 q.1 q.2.2 (λu=>u=y)/\(∀z∈s.l.take n,z∈q.2.2.map (·.1))/\2*((bO t).length-q.2.2.length)+q.1.l.length<2*((bO t).length-m.length)+i?.l.length) (λq=>s.l.length-q.2.1.toNat)
    ⟨0,rfl,Nat.zero_le _,⟨λz hz=>L.rst z g?,L.keys,L.seen,by grind,λu hu=>?_⟩,by simp,by grind⟩ ?_
   .rcases L.done u hu with h|h|h
    .exact(j u h).imp_right .inl
    .exact h.elim
    exact .inr (.inr h)
   rintro⟨C,i2,W⟩ ⟨n,rfl,hn,B,d,hμ⟩;simp only at B hμ d;unfold jL.dQ;rw[cm];constructor
   .intro h;have X:n<s.l.length:=by simpa [len]using h
    have ab:=(hs.2 s.l[n]).1 (List.getElem_mem X);have Q:Way t x.1 s.l[n]:=aa.elim (λe=>.single (e▸ab)) λh=>.tail h ab
    rw[bA X,ζb,cm];refine⟨λZ=>(a_ _).2 ((a_ _).2 ((a_ _).2 ⟨x.1,?_⟩)),λS=>?_⟩
    .have:s.l[n]=x.1:=by
      unfold O2 at Z
      revert Z;cases s.l[n];cases x.1;intro Z;simpa using Z
     rw[this]at Q;exact Q
    have S:s.l[n]≠x.1:=λe=>by rw[e]at S;simp[O2]at S
    have T:=cq n a?
    have ad:s.l.take (n+1)=s.l.take n++[s.l[n]]:=by rw[List.take_add_one,ζd X];rfl
    rw[cm];refine⟨λhg=>(a_ _).2 ⟨⟨n+1,T,by omega,B,λz hz=>?_,hμ⟩,by show _-(IntKind.wrap .i64 ((n:Int)+1)).toNat<_;rw[T];simp;omega⟩,λY=>?_⟩
    .rw[ad]at hz;rcases List.mem_append.1 hz with hz|hz
     .exact d z hz
     simp[List.mem_singleton]at hz;subst hz;apply Classical.byContradiction;intro hk;unfold vL at hg;rw[Hj hk]at hg;cases hg
    have av:=B.count;have ar:=B.le;unfold eH;rw[L' (show C.l.length+1<=2147483648 from by omega),ζb,a_]
    have D:s.l[n]∉W.map (·.1):=λak=>by
     obtain⟨v,hv,al⟩:=JF ak;have:=(B.seen _ al).2.2;simp only at this;subst this;unfold vL at Y;rw[hv]at Y;cases Y
    have g:∀z,z∈(qy W s.l[n] true).map (·.1)↔z∈W.map (·.1)\/z=s.l[n]:=λz=>by
     rw[uH D,List.map_append,List.mem_append];simp
    have ae:Lv t x.1 (.row (C.l++[s.l[n]])) (qy W s.l[n] true) (λu=>u=y):=by
     refine⟨λy hy=>?_,?_,λy hy=>?_,?_,λu hu=>?_⟩
     .simp[Sl.l,List.mem_singleton]at hy;rcases hy with hy|rfl
      .exact B.rst y hy
      exact .inr Q
     .rw[uH D,List.map_append,List.nodup_append];refine⟨B.keys,by simp,λa ha b hb=>?_⟩
      simp[List.mem_singleton]at hb;subst hb;exact λe=>D (e▸ha)
     .rw[uH D]at hy;rcases List.mem_append.1 hy with hy|hy
      .exact B.seen y hy
      simp[List.mem_singleton]at hy;subst hy;exact⟨Q,S,rfl⟩
     .rw[uH D];show (C.l++[s.l[n]]).length<=_;rw[ζi,ζi,List.length_singleton,List.length_singleton];omega
     simp only[Sl.l,List.mem_append,List.mem_singleton];have old:u=x.1\/u∈W.map (·.1)->(u∈C.l\/u=s.l[n])\/u=y\/∀z,Edge t u z->z∈(qy W s.l[n] true).map (·.1):=λhu=>by
      rcases B.done u hu with h|h|h
      .exact .inl (.inl h)
      .exact .inr (.inl h)
      exact .inr (.inr λz hz=>(g z).2 (.inl (h z hz)))
     rcases hu with hu|hu
     .exact old (.inl hu)
     rcases (g u).1 hu with hu|hu
     .exact old (.inr hu)
     exact .inl (.inr hu)
    have am:=ae.count;refine⟨⟨n+1,T,by omega,ae,λz hz=>?_,?_⟩,by show _-(IntKind.wrap .i64 ((n)+1)).toNat<_;rw[T];simp;omega⟩
    .rw[ad]at hz;rcases List.mem_append.1 hz with hz|hz
     .exact(g z).2 (.inl (d z hz))
     exact(g z).2 (.inr (by simpa using hz))
    rw[uH D,ζi,List.length_singleton]at am;show 2*((bO t).length-(qy W s.l[n] true).length)+(C.l++[s.l[n]]).length<_;rw[uH D,ζi,ζi,List.length_singleton,List.length_singleton];omega
   intro h;have an:s.l.length<=n:=by simpa [len]using h
   rw[List.take_of_length_le an]at d;refine(a_ _).2 ((a_ _).2 ⟨⟨B.rst,B.keys,B.seen,B.le,λu hu=>?_⟩,hμ⟩)
   rcases B.done u hu with h|h|h
   .exact .inl h
   .subst h;exact .inr (.inr λz hz=>d z ((hs.2 z).2 hz))
   exact .inr (.inr h)
  have ao:i?.l=[]:=by
   have:¬len i?>0:=by simpa using h
   simp[len]at this;exact this
  have hd:∀y,y=x.1\/y∈m.map (·.1)->∀z,Edge t y z->z∈m.map (·.1):=λy hy=>by
   rcases L.done y hy with h|h|h
   .simp only[ao]at h;cases h
   .exact h.elim
   exact h
  have key:∀z,Way t x.1 z->z∈m.map (·.1):=λz hz=>by
   induction hz with
   | single h=>exact hd _ (.inl rfl) _ h
   | tail _ h ih=>exact hd _ (.inr ih) _ h
  obtain⟨y,hy,ap⟩:=List.mem_map.1 (key _ hw);exact(L.seen y hy).2.1 ap
 obtain⟨e,Z⟩:=hx.l;rw[List.take_length]at h;exact _e hx (h _ Z)
structure Ok(t:Trace):Prop where
 one:1<=t.b?.l.length
 few:t.b?.l.length<=8
 heads:∀p,p<t.b?.l.length->tc t p=0
 gz:∀(p k:Nat)P e,t.b?.l[p]?=some P->P.c?.l[k]?=some e->qu t.b?.l.length P p k e=0
 Ci:AY t
 acyc:¬Ol t
theorem JG{t:Z4}(h:∀(p k:Nat)P e,t.b?.l[p]?=M P->P.c?.l[k]?=M e->qu (W t.b?.l) P p k e=0):∀x∈bO t,nq (W t.b?.l) x.1.proc x.2:=λx w=>by have⟨p,k,⟨P,z,B⟩,u⟩:=dY.1 w;rw[u];exact LK (h p k P _ z B)
structure VT(t:Trace):Prop where
 formed:∀x∈bO t,nq t.b?.l.length x.1.proc x.2
 msgs:∃A i,fL t=some (some A,i,0)/\fm t (bO t) A
 few:t.b?.l.length<=8
 ok:Ok t
theorem UR{t:Z4}(a:Small t)(W:_m (bO t)<1073741824):Wp (jr t) λr=>(r.2=0->VT t)/\(Ok t->r.2=0):=by
 unfold jr;rw[rT,ζb,cm];refine⟨λG=>?_,λG=>(a_ _).2 ⟨λh=>a?,λh=>?_⟩⟩;rotate_left;have o:=h.one;have D:=h.few;grind;have D:1<=_m t.b?.l/\_m t.b?.l<=8:=by grind
 unfold jr.W1;refine eC (λi:Int=>∃n:Nat,i=n/\n<=_m t.b?.l/\∀p,p<n->tc t p=0) (λi:Int=>_m t.b?.l-i.toNat) ⟨0,_l,N? _,λp I=>_e I a?⟩ ?_;rintro i ⟨n,rfl,q,X⟩;unfold jr.bl;rw[cm];constructor;intro h;have w:n<_m t.b?.l:=by grind
 rw[WC a w,ζb,cm];refine⟨λu=>(a_ _).2 ⟨⟨n+1,cq n a?,a?,λp I=>?_⟩,by rw[cq n a?];simp;omega⟩,λu=>(a_ _).2 ((a_ _).2 ⟨λh=>?_,λh=>?_⟩)⟩;grind;grind;simp[h.heads n w]at u;intro h;have Y:_m t.b?.l<=n:=g?;rw[a_];unfold kR;rw[ζb];unfold jr.E2;rw[vI a,ζb];refine AU (λi _=>∀(p k:Nat)P e,t.b?.l[p]?=M P->P.c?.l[k]?=M e->(⟨p,k+1⟩,e)∈(bO t).take i->qu (_m t.b?.l) P p k e=0) f? ?_ ?_;intro i x _ T z;have F:=s? T;have⟨p,j,⟨P,B,C⟩,L⟩:=dY.1 F;unfold jr.OI;rw[L,Sx a B C,ζb,cm];refine⟨λu=>(a_ _).2 λp' s v y Z E f=>?_,λu=>(a_ _).2 ((a_ _).2 ⟨λh=>?_,λh=>?_⟩)⟩;rw[P?,T]at f;grind;grind;simp[h.gz p j P _ B C]at u;intro _ z;have z:∀(p k:Nat)P e,t.b?.l[p]?=M P->P.c?.l[k]?=M e->qu (_m t.b?.l) P p k e=0:=λp k P e B C=>z p k P e B C (by rw[I?];exact dY.2 ⟨p,k,⟨P,B,C⟩,_l⟩);have b__:=JG z;have⟨r,g,l,Q⟩:=He a b__;rw[g,ζb,cm];refine⟨λu=>?_,λu=>(a_ _).2 ⟨λh=>?_,λh=>Q h.Ci⟩⟩;have u:=by simpa using u
 have⟨A,m,b⟩:=l u;rw[m,ζb];have⟨c,d,S⟩:=SK a W b__ b;rw[d,ζb,cm];refine⟨λa__=>(a_ _).2 ⟨λh=>a?,λh=>_e (S.1 a__) h.acyc⟩,λa__=>(a_ _).2 ⟨λ_=>?_,λ_=>rfl⟩⟩;exact⟨b__,⟨A,r.2.1,g?,b⟩,D.2,D.1,D.2,λp I=>X p a?,z,b.Ci,λd=>g?⟩;simp_all
theorem Va{t:Z4}(a:Small t)(B:W (bO t)<1073741824):Wp (cu t) λb=>(b=U->VT t)/\(Ok t->b=U):=by unfold cu;rw[eS];exact(UR a B).mono λr c=>(a_ _).2 ⟨λh=>c.1 g?,λh=>g?⟩
def ec(q:Int)(e:WF):X':=e.kind==2&&e.k?==q
def A4(p:Int)(e:WF):X':=e.kind==3&&e.k?==p
def under(t:Z4)(c:Rd)(p q:Nat):Int:=match t.b?.l[p]?,t.b?.l[q]?,c[p]?,c[q]?with
 |some P,M Q,M a,M b=>((P.c?.l.take a.toNat).countP (ec q):Int)-((Q.c?.l.take b.toNat).countP (A4 p):Int)|_,_,_,_=>0
theorem CB {t:Trace} (hS:Small t) (hv:cu t=some true) {A:cn 200 bC} (hM:fm t (bO t) A) {x:bf×Event} (B:x∈bO t) (hk:x.2.kind=2):qG t x.2.d?=some (x.1,true):=by
 refine Wp.eq ?_;unfold qG jB;rw[hv,ζb,bq];unfold kR;rw[ζb];unfold jB.E1;rw[vI hS,ζb,eS];refine AU (λk _=>∀y∈(bO t).take k,¬(y.2.kind=2/\y.2.d?=x.2.d?)) f? ?_ ?_
 .intro k y _ C u;have w:y∈bO t:=List.mem_of_getElem? C;unfold jB.lM;rw[pG,ζb,cm];constructor
  .intro hc;have hc:y.2.kind=2/\y.2.d?=x.2.d?:=by simpa using hc
   refine(a_ _).2 ((a_ _).2 ((a_ _).2 ?_));have h1:=hM.snd y w hc.1;have D:=hM.snd x B hk;rw[hc.2,D]at h1;rw[h1]
  intro hc;have hc:¬(y.2.kind=2/\y.2.d?=x.2.d?):=by
   intro h;rw[h.1,h.2]at hc;simp at hc
  rw[a_];intro z hz;rw[List.take_add_one,C]at hz;rcases List.mem_append.1 hz with hz|hz
  .exact u z hz
  simp at hz;subst hz;exact hc
 intro _ u;rw[List.take_length]at u;exact _e ⟨hk,rfl⟩ (u x B)
def qm(t:Z4)(c:Rd):Prop:=W c=W t.b?.l/\∀(p:Nat)(a:Int)(P:bT),c[p]?=M a->t.b?.l[p]?=M P->0<=a/\a<=W P.c?.l
def nK(t:Z4)(A:cn 200 bC)(c:Rd):Prop:=∀(p k:Nat)(e:WF)(a:Int),mP t p k e->c[p]?=M a->(k:Int)<a->e.kind=3->∃b,c[(ag A e.d?).from_.proc.toNat]?=M b/\(ag A e.d?).from_.index<=b
theorem zz{t:Z4}(c:VT t){A:cn 200 bC}(a:fm t (bO t) A){p k:Nat}{e:WF}(g:mP t p k e)(d:e.kind=3):
 ∃(q j:Nat)(y:WF),mP t q j y/\y.kind=2/\y.d?=e.d?/\y.k?=p/\e.k?=q/\(ag A e.d?).from_=⟨q,j+1⟩:=by
 have u:((⟨p,k+1⟩:bf),e)∈bO t:=dY.2 ⟨p,k,g,Y⟩;have z:=(a.rcv _ u d).2;have C:=c.formed _ u;simp only at z C;have B:0<=e.k?:=by rcases C with h|⟨_,h,_⟩;omega;exact h
 obtain⟨q,D⟩:∃q:Nat,e.k?=q:=⟨e.k?.toNat,a?⟩
 rw[D]at z;have⟨j,y,w,b,G,I⟩:=BD.1 z;have:=a.snd (⟨q,j+1⟩,y) (dY.2 ⟨q,j,w,Y⟩) b;simp only at this;rw[G]at this;exact⟨q,j,y,w,b,G,I,D,this⟩
def adP(t:Z4)(A:cn 200 bC)(c:Rd)(s u:bf):Prop:=∃(p k:Nat)(e:WF)(a:Int)(q j:Nat)(y:WF)(b:Int),mP t p k e/\c[p]?=M a/\(k:Int)<a/\e.kind=3/\(ag A e.d?).from_=s/\s=⟨q,j+1⟩/\mP t q j y/\c[q]?=M b/\b<(j:Int)+1/\u=⟨p,k+1⟩
theorem XS{t:Z4}(v:Small t)(P:cu t=M U)(E:VT t){A:cn 200 bC}(F:fm t (bO t) A){c:Zg}(H:qm t c.l):Wp (jo t c) λr=>(r.2.2=O->nK t A c.l)/\(r.2.2=U->adP t A c.l r.1 r.2.1):=by
 have ah:=E.few;unfold jo jo.W1;refine eC (λs:Int=>∃n:Nat,s=n/\n<=_m c.l/\∀(p k:Nat)(e:WF)(a:Int),p<n->mP t p k e->c.l[p]?=M a->(k:Int)<a->e.kind=3->∃b,c.l[(ag A e.d?).from_.proc.toNat]?=M b/\(ag A e.d?).from_.index<=b) (λs:Int=>_m c.l-s.toNat) ⟨0,_l,N? _,λp k e a h=>_e h a?⟩ ?_;rintro s ⟨n,rfl,hn,K⟩;have ai:=H.1;unfold jo.bl;rw[cm];constructor;intro h;have C:n<_m c.l:=by simpa[len]using h
 have B:n<_m t.b?.l:=a?;have hP:=(v.2 _ (t? B)).1;have⟨r1,r2⟩:=H.2 n _ _ (ζd C) (ζd B);rw[bA C,ζb,bA B,ζb];have⟨y,a__,T⟩:=uU t.b?.l[n].c? c.l[n].toNat a?;rw[show((c.l[n].toNat:Nat):Int)=c.l[n]from a?]at a__;rw[a__,ζb];unfold jo.W2;refine eC (λs:Int=>∃m:Nat,s=m/\m<=_m y.l/\∀(k:Nat)(e:WF),k<m->mP t n k e->e.kind=3->∃b,c.l[(ag A e.d?).from_.proc.toNat]?=M b/\(ag A e.d?).from_.index<=b) (λs:Int=>_m y.l-s.toNat) ⟨0,_l,N? _,λk e h=>_e h a?⟩ ?_;rintro s ⟨m,rfl,hm,i⟩;have af:_m y.l=c.l[n].toNat:=by rw[T,l!];omega
 unfold jo.bK;rw[cm];constructor;intro h;have I:m<_m y.l:=by simpa[len]using h
 have D:=cq m a?;have c__:_m y.l-(w? N ((m:Int)+1)).toNat<_m y.l-((m:Int)).toNat:=by rw[D];simp;omega
 have R:y.l[m]?=t.b?.l[n].c?.l[m]?:=by rw[T,J?,L' (show m<c.l[n].toNat from a?)]
 have u:mP t n m y.l[m]:=⟨_,ζd B,by rw[<-R];exact ζd I⟩;rw[bA I,ζb];generalize y.l[m]=e at u;rw[cm];constructor;intro d;have d:e.kind=3:=by simpa using d
 have⟨q,j,z,l,V,z2,z3,z4,z5⟩:=zz E F u d;have b__:=CB v P F (x:=(⟨q,j+1⟩,z)) (dY.2 ⟨q,j,l,_l⟩) V;simp only at b__;rw[z2]at b__;have ab:=l;have⟨Q,hQ,_⟩:=l;have L:q<_m c.l:=by have:=(ζe.1 hQ).1;omega
 rw[b__,ζb];simp only;rw[bA L,ζb,cm];constructor;intro W;have W:(j:Int)+1>c.l[q]:=by simpa using W
 exact(a_ _).2 ((a_ _).2 ((a_ _).2 ⟨λh=>(by cases h),λ_=>⟨n,m,e,c.l[n],q,j,z,c.l[q],u,ζd C,a?,d,z5,_l,ab,ζd L,a?,by simp[D]⟩⟩));intro X;have X:¬((j:Int)+1>c.l[q]):=by simpa using X
 refine(a_ _).2 ⟨⟨m+1,D,a?,λk Y ad w G=>?_⟩,c__⟩;by_cases o:k=m;subst o;have:Y=e:=by have⟨P1,a1,a2⟩:=u;have⟨P2,Z,f⟩:=w;rw[a1]at Z;cases Z;rw[a2]at f;cases f;rfl
 subst this;rw[z5];exact⟨c.l[q],by simp only[n!];exact ζd L,by simp only;omega⟩;exact i k Y a? w G;intro d;have d:¬e.kind=3:=by simpa using d
 refine(a_ _).2 ⟨⟨m+1,D,a?,λk Y ad w G=>?_⟩,c__⟩;by_cases o:k=m;subst o;have:Y=e:=by have⟨P1,a1,a2⟩:=u;have⟨P2,Z,f⟩:=w;rw[a1]at Z;cases Z;rw[a2]at f;cases f;rfl
 subst this;exact _e G d;exact i k Y a? w G;intro h;have ae:_m y.l<=m:=by simpa[len]using h
 have e__:=cq n a?;refine(a_ _).2 ((a_ _).2 ⟨⟨n+1,e__,a?,λp k e a hp u S d__ g=>?_⟩,by show _-(w? N ((n:Int)+1)).toNat<_;rw[e__];simp;omega⟩);by_cases ep:p=n;subst ep;rw[ζd C]at S;cases S;exact i k e a? u g;exact K p k e a a? u S d__ g;intro h;have ae:_m c.l<=n:=by simpa[len]using h
 refine(a_ _).2 ((a_ _).2 ⟨λ_ p k e a u S d__ g=>K p k e a (by have:=(ζe.1 S).1;omega) u S d__ g,λh=>(by cases h)⟩)
theorem GP{t:Z4}(f:Small t)(g:cu t=M U)(i:VT t){A:cn 200 bC}(l:fm t (bO t) A){c:Zg}(B:qm t c.l):Wp (jo t c) λr=>(r.2.2=O↔nK t A c.l):=by refine(XS f g i l B).mono λr d=>⟨d.1,λm=>?_⟩;cases h:r.2.2 with|false=>rfl|true=>obtain⟨p,k,e,a,q,j,y,b,n,u,w,z,C,D,_,G,I,-⟩:=d.2 h;have⟨o,g1,g2⟩:=m p k e a n u w z;rw[C,D]at g1 g2;simp only[n!]at g1 g2;rw[G]at g1;cases g1;omega
theorem zg{s:Zb}{p:Zg->aX X'}{f:Zg->X'}(hp:∀x∈s.l,p x=M (f x))(B:W s.l<1073741824):jT s p=M (s.l.any f):=by have h:fQ s p=M (place f s.l):=s7 hp a? (λi=>rfl);unfold jT;rw[h,ζb,xQ]
theorem GR{t:Z4}(d:Small t){c:Zg}(D:W c.l=W t.b?.l):Wp (lT t c) λb=>(b=U↔qm t c.l):=by
 have f:=d.1;unfold lT lT.W1;refine eC (λs:Int=>∃n:Nat,s=n/\n<=W c.l/\∀(p:Nat)(a:Int)(P:bT),p<n->c.l[p]?=M a->t.b?.l[p]?=M P->0<=a/\a<=W P.c?.l) (λs:Int=>W c.l-s.toNat) ⟨0,Y,N? _,λp a P h=>_e h a?⟩ ?_;rintro s ⟨n,rfl,i,G⟩;unfold lT.bl;rw[cm];constructor;intro h;have w:n<W c.l:=by simpa[len]using h
 have u:n<W t.b?.l:=a?;have I:=cq n a?;rw[bA w,ζb,bA u,ζb,nj,ζb,cm];constructor;intro z;have z:c.l[n]<0\/c.l[n]>t.b?.l[n].c?.l.length:=by simpa[len]using z
 refine(a_ _).2 ((a_ _).2 ⟨λh=>(by cases h),λg=>?_⟩);have:=g.2 n _ _ (ζd w) (ζd u);omega;intro z;have z:0<=c.l[n]/\c.l[n]<=t.b?.l[n].c?.l.length:=by simpa[len]using z
 refine(a_ _).2 ⟨⟨n+1,I,a?,λp a P Q B C=>?_⟩,by rw[I];simp;omega⟩;by_cases e:p=n;subst e;rw[ζd w]at B;cases B;rw[ζd u]at C;cases C;exact z;exact G p a P a? B C;intro h;have L:W c.l<=n:=by simpa[len]using h
 refine(a_ _).2 ((a_ _).2 ⟨λ_=>⟨D,λp a P B C=>G p a P (by have:=(ζe.1 B).1;omega) B C⟩,λ_=>rfl⟩)
def Code(t:Z4)(A:cn 200 bC)(c:Rd)(r:Int):Prop:=W c≠W t.b?.l/\r=1\/W c=W t.b?.l/\¬qm t c/\r=2\/qm t c/\¬nK t A c/\r=18\/qm t c/\nK t A c/\r=0
theorem TQ{t:Z4}(a:Small t)(d:cu t=M U)(i:VT t){A:cn 200 bC}(j:fm t (bO t) A)(c:Zg):
 Wp (dn t (Sl.row [c]:Zb) (Sl.nil:Zg)) λr=>Code t A c.l r:=by
 unfold dn zL;rw[d,ζb,bq,zg (f:=λz=>(l_ z t).getD O) (λz _=>N7.ok ((a_ _).2 trivial)) (by simp[Sl.l]),ζb,ζb,ζb]
 have w:(!((Sl.row [c]:Zb).l.any λz=>(l_ z t).getD O))=(len c==len t.b?):=by simp[Sl.l,l_]
 rw[w,cm];constructor
 .intro h;have B:W c.l=W t.b?.l:=by
   have:(W c.l:Int)=W t.b?.l:=by simpa[len]using h
   omega
  unfold dn.W1;refine eC (λs:Int=>s=0\/s=1/\qm t c.l) (λs:Int=>1-s.toNat) (.inl Y) ?_
  intro s D;unfold dn.bl;rcases D with rfl|⟨rfl,G⟩
  .rw[show _s ((0:Int)<len (Sl.row [c]:Zb))=U from Y,bq,show idx (Sl.row [c]:Zb) 0=M c from Y,ζb,eS];refine(GR a B).mono λb u=>?_
   rw[cm];exact⟨λI=>(a_ _).2 ⟨.inr ⟨Y,u.1 I⟩,by decide⟩,λC=>(a_ _).2 ((a_ _).2 (.inr (.inl ⟨B,λh=>(by rw[u.2 h]at C;cases C),Y⟩)))⟩
  rw[show _s ((1:Int)<len (Sl.row [c]:Zb))=O from Y,br,a_];show Wp (dn.W2 (Sl.row [c]) Sl.nil 0 0 t) _;unfold dn.W2;refine eC (λs:Int=>s=0) (λ_=>0) Y ?_
  rintro s rfl;unfold dn.bK;rw[show _s ((0:Int)<0)=O from Y,br,a_];show Wp (dn.W3 (Sl.row [c]) 1 0 t) _;unfold dn.W3;refine eC (λs:Int=>s=0\/s=1/\nK t A c.l) (λs:Int=>1-s.toNat) (.inl Y) ?_
  intro s D;unfold dn.dQ;rcases D with rfl|⟨rfl,k⟩
  .rw[show _s ((0:Int)<1)=U from Y,bq,show idx (Sl.row [c]:Zb) 0=M c from Y,ζb];unfold yE;rw[eS,eS];refine(GP a d i j G).mono λr g=>?_
   rw[a_,cm];exact⟨λu=>(a_ _).2 ⟨.inr ⟨Y,g.1 (by simpa using u)⟩,by decide⟩,λu=>(a_ _).2 ((a_ _).2 (.inr (.inr (.inl ⟨G,λh=>(by have:=g.2 h;simp[this]at u),Y⟩))))⟩
  rw[show _s ((1:Int)<1)=O from Y,br,a_];exact(a_ _).2 (.inr (.inr (.inr ⟨G,k,Y⟩)))
 intro h;exact(a_ _).2 (.inl ⟨λe=>(by simp[len,e]at h),Y⟩)
theorem Code.zero{t:Z4}{A:cn 200 bC}{c:Rd}{r:Int}(h:Code t A c r):r=0↔qm t c/\nK t A c:=by rcases h with⟨h,rfl⟩|⟨_,h,rfl⟩|⟨_,h,rfl⟩|⟨a,w,rfl⟩;exact⟨λh=>(by cases h),λu=>_e u.1.1 h⟩;exact⟨λh=>(by cases h),λu=>_e u.1 h⟩;exact⟨λh=>(by cases h),λu=>_e u.2 h⟩;exact⟨λ_=>⟨a,w⟩,λ_=>rfl⟩
theorem Vn{t:Z4}(a:Small t)(b:cu t=M U)(d:VT t){A:cn 200 bC}(e:fm t (bO t) A)(c:Zg):Wp (dn t (Sl.row [c]:Zb) (Sl.nil:Zg)) λr=>(r=0↔qm t c.l/\nK t A c.l):=(TQ a b d e c).mono λ_ h=>h.zero
def Cons(t:Z4)(A:cn 200 bC)(c:Rd):Prop:=qm t c/\nK t A c
def places{α:Type}(f:α->X')(l:aY α):ST:=(C! (W l)).filter λk=>match l[k]?with|some x=>f x|none=>O
theorem QM{α:Type}{f:α->X'}{l:aY α}{k:Nat}:k∈places f l↔∃x,l[k]?=M x/\f x=U:=by unfold places;rw[List.mem_filter,mem_range];constructor;rintro⟨a,u⟩;rw[ζd a]at u;exact⟨_,ζd a,u⟩;rintro⟨x,a,u⟩;exact⟨(ζe.1 a).1,by rw[a];exact u⟩
theorem Lp{α:Type}(f:α->X')(l:aY α):(places f l).Nodup:=List.nodup_range.sublist (List.filter_sublist ..)
theorem GV{α:Type}(f:α->X'):∀l:aY α,W (places f l)=l.countP f:=by intro l;unfold places;rw[<-List.countP_eq_length_filter];induction l with|nil=>rfl|cons x l u=>rw[W?,List.range_succ_eq_map,H!,List.countP_map,H!];simp only[List.getElem?_cons_zero];rw[<-u];congr 1
theorem Ji{α β:Type}{f:α->X'}{g:β->X'}{l:aY α}{m:aY β}(φ:Nat->Nat)(h:∀k∈places f l,φ k∈places g m)(hi:∀k B,k∈places f l->B∈places f l->φ k=φ B->k=B):l.countP f<=m.countP g:=by
 rw[<-GV,<-GV];have w:((places f l).map φ).Nodup:=by unfold Nodup;rw[d9];exact Pairwise.imp_of_mem (λ{a b}z C u D=>u (hi a b z C D)) (Lp f l)
 have:=BY (r:=places g m) w λx G=>by obtain⟨k,c,rfl⟩:=mem_map.1 G;exact h k c
 simpa using this
end Go.VE
namespace Go.VE
def nu(kind m:Int)(x:bf×WF):X':=x.2.kind==kind&&x.2.d?==m
def iC(t:Z4)(kind m:Int):bf:=match(bO t).find? (nu kind m)with
 |some x=>x.1|none=>⟨0,0⟩
theorem QX{t:Z4}{kind m:Int}{p:Nat}{P:bT}(B:p<9223372036854775806)(D:t.b?.l[p]?=M P)(G:W P.c?.l<1073741824):∀(q i:Nat),i+q=W P.c?.l->
 bL (λq:Int=>eo.bK kind m p t ⟨0,0⟩ q) (i:Int)=M (match(ki p i (P.c?.l.drop i)).find? (nu kind m)with|some x=>.r x.1|none=>.x ()):=by
 have u:idx t.b? (p:Int)=M P:=by rw[gp];exact D
 intro q
 induction q with
 |zero=>
  intro i hi;rw[fP];unfold eo.bK;rw[u,ζb,show _s ((i:Int)<len P.c?)=O from by simp[len];omega,br,D! a?]
  rfl
 |succ q z=>
  intro i hi;have w:i<W P.c?.l:=a?
  rw[fP];have C:eo.bK kind m p t ⟨0,0⟩ i=M (if nu kind m (⟨p,(i:Int)+1⟩,P.c?.l[i])then .r ⟨p,(i:Int)+1⟩else .n ((i+1:Nat):Int)):=by unfold eo.bK;rw[u,ζb,show _s ((i:Int)<len P.c?)=U from by simp[len];omega,bq,ζb,bA w,ζb,pG,ζb,cq i a?,wq];rfl
  rw[C,ζb,U? w];simp only[ki,List.find?_cons]
  cases I:nu kind m (⟨p,(i:Int)+1⟩,P.c?.l[i])with
  |true=>rfl|false=>simp only[v?,_a];exact z (i+1) a?
theorem Qh{t:Z4}(a:Small t){kind m:Int}:∀(q p:Nat),p+q=W t.b?.l->
 bL (λq:Int=>eo.bl kind m t ⟨0,0⟩ q) (p:Int)=M (match(hD p (t.b?.l.drop p)).find? (nu kind m)with|some x=>.r x.1|none=>.x ()):=by
 have b:=a.1;intro q
 induction q with
 |zero=>
  intro p w;rw[fP];unfold eo.bl;rw[show _s ((p:Int)<len t.b?)=O from by simp[len];omega,br,D! a?]
  rfl
 |succ q z=>
  intro p w;have u:p<W t.b?.l:=a?
  have B:bL (λq:Int=>eo.bK kind m p t ⟨0,0⟩ q) 0=M (match(ki p 0 t.b?.l[p].c?.l).find? (nu kind m)with|some x=>.r x.1|none=>.x ()):=QX (t:=t) (kind:=kind) (m:=m) a? (ζd u) (a.2 _ (t? u)).1 (t.b?.l[p].c?.l.length) 0 a?
  rw[fP];unfold eo.bl;rw[show _s ((p:Int)<len t.b?)=U from by simp[len];omega,bq]
  unfold eo.W2;rw[B,U? u];simp only[hD,d8]
  cases C:(ki p 0 t.b?.l[p].c?.l).find? (nu kind m)with
  |some x=>rfl|none=>
   simp only[ζb,Fw.elim,Option.none_or];rw[cq p a?]
   exact z (p+1) a?
theorem find_eq{t:Z4}(a:Small t)(kind m:Int):eo t kind m=M (iC t kind m):=by unfold eo eo.W1;have u:bL (λq:Int=>eo.bl kind m t ⟨0,0⟩ q) 0=M (match(bO t).find? (nu kind m)with|some x=>.r x.1|none=>.x ()):=Qh a (kind:=kind) (m:=m) (W t.b?.l) 0 a?;rw[u];unfold iC;cases(bO t).find? (nu kind m)<;>rfl
theorem yO{t:Z4}{kind m:Int}{x:bf×WF}(h:(bO t).find? (nu kind m)=M x):x∈bO t/\x.2.kind=kind/\x.2.d?=m/\iC t kind m=x.1:=by have a:=List.find?_some h;simp only[nu,ζh,_j]at a;exact⟨List.mem_of_find?_eq_some h,a.1,a.2,by unfold iC;rw[h]⟩
theorem Lf{t:Z4}{kind m:Int}{x:bf×WF}(B:x∈bO t)(a:x.2.kind=kind)(D:x.2.d?=m):∃y,(bO t).find? (nu kind m)=M y:=by cases u:(bO t).find? (nu kind m)with|some y=>exact⟨y,rfl⟩|none=>rw[L!]at u;exact _e (u x B) (by simp[nu,a,D])
theorem Pr{t:Z4}{kind m:Int}(h:∀x∈bO t,¬(x.2.kind=kind/\x.2.d?=m)):iC t kind m=⟨0,0⟩:=by
 unfold iC;have:(bO t).find? (nu kind m)=J:=by rw[L!];intro x u;simp only[nu,ζh,_j];exact h x u
 rw[this]
theorem Xz{t:Z4}{p k:Nat}{e:WF}(h:mP t p k e)(a:k<9223372036854775807):xX t ⟨p,k+1⟩=M e:=by have⟨P,u,w⟩:=h;unfold xX;dsimp only;rw[show idx t.b? (p:Int)=M P from by rw[gp];exact u,ζb,show w? N ((k:Int)+1-1)=(k:Int)from by rw[dV _ a? a?];omega,show idx P.c? (k:Int)=M e from by rw[gp];exact w];rfl
def yP(t:Z4)(x:bf×WF):Int:=if x.2.kind=1 then 0 else if iC t x.2.kind x.2.d?=x.1 then(if x.2.kind=3 then(if vE t x.2.k? x.2.d? x.1.proc then 0 else 7)else 0)else 8
theorem SH{t:Z4}(b:Small t){p k:Nat}{e:WF}(h:mP t p k e)(j:nq (W t.b?.l) p e):jY t ⟨p,k+1⟩=M (yP t (⟨p,k+1⟩,e)):=by
 have c:k<1073741824:=by have⟨P,q,X⟩:=h;have:=(b.2 P (s? q)).1;have:=(ζe.1 X).1;omega
 unfold jY yP;rw[Xz h a?,ζb];dsimp only;by_cases a:e.kind=1;rw[show(e.kind==1)=U from by simp[a],bq,L' a];rw[show(e.kind==1)=O from by simp[a],br,M' a,find_eq b,ζb];have D:O2 (iC t e.kind e.d?) ⟨p,(k:Int)+1⟩=_s (iC t e.kind e.d?=⟨p,(k:Int)+1⟩):=by unfold O2;rw[Bool.eq_iff_iff];cases iC t e.kind e.d?;simp
 rw[D];by_cases w:iC t e.kind e.d?=⟨p,(k:Int)+1⟩;rw[L' w,show _s (iC t e.kind e.d?=⟨p,(k:Int)+1⟩)=U from by simpa using w,bq];by_cases B:e.kind=3;rw[L' B,show(e.kind==3)=U from by simp[B],bq];have G:0<=e.k?/\e.k?<W t.b?.l:=by rcases j with h|⟨_,a,w,_⟩;exact _e h a;exact⟨a,w⟩
 have o:e.k?.toNat<W t.b?.l:=a?;have S:=ζd o;have y:=(b.2 _ (t? o)).1;generalize Z:t.b?.l[e.k?.toNat]=Q at *;have I:idx t.b? e.k?=M Q:=by rw[VG G.1];exact S
 have g:vE t e.k? e.d? p=Q.c?.l.any λs=>s.kind==2&&s.d?==e.d?&&s.k?==p:=by unfold vE;rw[S]
 unfold jY.W1;refine Wp.eq (eC (λz:X'×Int=>∃m:Nat,z.2=m/\m<=W Q.c?.l/\z.1=(Q.c?.l.take m).any λs=>s.kind==2&&s.d?==e.d?&&s.k?==p) (λz=>W Q.c?.l-z.2.toNat) ⟨0,Y,N? _,Y⟩ ?_);rintro⟨s,i⟩ ⟨m,hi,d,C⟩;simp only at hi C;subst hi;unfold jY.bl;dsimp only;rw[I,ζb,cm];constructor;intro L;have u:m<W Q.c?.l:=by simpa[len]using L
 have T:=cq m a?;rw[ζb,bA u,ζb,pG,ζb,pG,ζb,nj,ζb,a_];refine⟨⟨m+1,T,a?,?_⟩,by show _-(w? N ((m:Int)+1)).toNat<_;rw[T];simp;omega⟩;show(s||_)=_;rw[P?,ζd u,List.any_append,C];simp;intro L;have u:W Q.c?.l<=m:=by simpa[len]using L
 rw[a! u]at C;refine(a_ _).2 ?_;rw[g,<-C];cases s;exact(a_ _).2 rfl;exact(a_ _).2 rfl;rw[M' B,show(e.kind==3)=O from by simp[B],br];rw[M' w,show _s (iC t e.kind e.d?=⟨p,(k:Int)+1⟩)=O from by simpa using w,br]
theorem PR{t:Z4}(d:∀x∈bO t,nq (W t.b?.l) x.1.proc x.2):(∀x∈bO t,yP t x=0)↔AY t:=by
 constructor;intro h;have key:∀x∈bO t,x.2.kind≠1->iC t x.2.kind x.2.d?=x.1:=λx u a=>by have:=h x u;unfold yP at this;rw[M' a]at this;split at this;assumption;cases this
 refine⟨λx u y w z B C=>?_,λx u y w z B C=>?_,λx u z=>?_⟩;rw[<-key x u a?,<-key y w a?,z,B,C];rw[<-key x u a?,<-key y w a?,z,B,C];have:=h x u;unfold yP at this;rw[M' a?,L' (key x u a?),L' z]at this;split at this;assumption;cases this;intro h x u;unfold yP;by_cases k1:x.2.kind=1;rw[L' k1];rw[M' k1];have⟨y,w⟩:=Lf u Y Y;have⟨D,G,y3,y4⟩:=yO w;have a:x.2.kind=2\/x.2.kind=3:=by rcases d x u with h|⟨h,_⟩;exact _e h k1;exact h
 have I:iC t x.2.kind x.2.d?=x.1:=by rw[y4];rcases a with a|a;exact h.snd y D x u (by rw[G,a]) a y3;exact h.rcv y D x u (by rw[G,a]) a y3
 rw[L' I];by_cases k3:x.2.kind=3;rw[L' k3,L' (h.has x u k3)];rw[M' k3]
theorem Bb{t:Z4}(D:∀x∈bO t,nq (W t.b?.l) x.1.proc x.2)(G:AY t){z:bf}{f:WF}(B:(z,f)∈bO t)(a:f.kind=3):∃e,(iC t 2 f.d?,e)∈bO t/\e.kind=2/\e.d?=f.d?:=by
 have h:=G.has _ B a;have I:0<=f.k?:=by rcases D _ B with h|⟨_,h,_⟩;grind;omega
 rw[show f.k?=(f.k?.toNat:Nat)from a?,BD]at h;have⟨k,e,u,b,w,_⟩:=h;have⟨y,C⟩:=Lf (dY.2 ⟨_,k,u,Y⟩:(⟨(f.k?.toNat:Nat),k+1⟩,e)∈bO t) b w;have⟨d,L,y3,y4⟩:=yO C;grind
theorem Md.find{t:Z4}(G:∀x∈bO t,nq (W t.b?.l) x.1.proc x.2)(B:AY t){y z:bf}{f:WF}(h:Md t y z)(D:(z,f)∈bO t):f.kind=3/\iC t 2 f.d?=y:=by have⟨e,I,a,w,C,u,d⟩:=h;cases BG w D Y;have⟨L,a1,a2,g⟩:=Bb G B D u;exact⟨u,B.snd _ a1 _ a a2 C o?⟩
theorem Ek{t:Z4}(b:Small t)(g:∀x∈bO t,nq (W t.b?.l) x.1.proc x.2)(B:AY t){z:bf}(D:Vd t z):
 Wp (dW t z) λs=>W s.l<=2/\∀y,y∈s.l↔Edge t y z:=by
 obtain⟨p,k,f,w,rfl,u⟩:=D.at_;have d:k<1073741824:=by have⟨P,B,I⟩:=w;have:=(b.2 P (s? B)).1;grind
 have j:∀s:Sl bf,W s.l<=1->(∀y,y∈s.l↔Vd t y/\(⟨p,k+1⟩:bf)=⟨y.proc,y.index+1⟩)->Wp (dW.J1 s t ⟨p,k+1⟩) λs=>W s.l<=2/\∀y,y∈s.l↔Edge t y ⟨p,k+1⟩:=by intro s S C;unfold dW.J1;rw[Xz w a?,ζb,cm];constructor;intro G;have G:f.kind=3:=(by grind);rw[find_eq b,ζb];unfold eH;rw[L' a?,ζb,a_];refine⟨by show(s.l++[_]).length<=2;grind,λy=>?_⟩;show y∈s.l++[iC t 2 f.d?]↔_;rw[J!,g!,C];have⟨e,a1,a2,m⟩:=Bb g B u G;constructor;rintro(h|rfl);exact⟨h.1,D,.inl h.2⟩;exact⟨⟨e,a1⟩,D,.inr ⟨e,f,a1,u,a2,G,m⟩⟩;rintro⟨c,_,a|a⟩;grind;exact .inr (a.find g B u).2.symm;intro G;refine(a_ _).2 ⟨a?,λy=>(C y).trans ⟨λh=>⟨h.1,D,.inl h.2⟩,λ⟨c,_,a⟩=>⟨c,a.elim id λa=>?_⟩⟩⟩;have:=(a.find g B u).1;grind
 unfold dW;rw[cm];constructor
 .intro h;have h:k+1>1:=by grind
  refine j _ (by simp[Sl.l]) λy=>?_
  have Q:w? N (k+1-1)=k:=by rw[dV _ a? a?];omega
  simp only[Sl.l,g!,Q,bf.mk.injEq];constructor
  .rintro rfl;have⟨P,B,I⟩:=w;have:=(ζe.1 I).1;exact⟨⟨P.c?.l[k-1],dY.2 ⟨p,k-1,⟨P,B,ζd a?⟩,by simp;omega⟩⟩,Y,Y⟩
  simp_all
 intro h;refine j _ (by simp[Sl.l]) λy=>⟨λL=>by simp[Sl.l]at L,λ⟨L,I⟩=>?_⟩
 obtain⟨q,i,f,_,rfl,_⟩:=L.at_
 grind
theorem aa9{α:Type}{r:α->α->Prop}{x:α}(h:Acc r x):¬TransGen r x x:=by induction h with|intro x _ u=>intro h;cases h with|single h=>exact u x h (.single h)|tail h1 w=>exact u _ w (TransGen.trans (.single w) h1)
theorem OG:∀{d:ST}{i k:Nat},d[i]?=M k->(d.set i (k+1)).sum=d.sum+1
 |[],_,_,h=>o?|x::d,0,k,h=>g?|x::d,i+1,k,h=>by have:=OG (d:=d) (i:=i) (k:=k) g?;grind
theorem RQ:∀{d l:ST},W d=W l->(∀(i a b:Nat),d[i]?=M a->l[i]?=M b->a<=b)->d.sum<=l.sum
 |[],_,_,_=>f?|x::d,[],h,_=>o?|x::d,y::l,h,B=>by have c:=B 0 x y Y Y;have u:=RQ (d:=d) (l:=l) g? λi a b w z=>B (i+1) a b g? g?;simp;omega
def nI(d:ST):Rd:=d.map Int.ofNat
def sI(s:Zg):Nat:=(s.l.map toNat).sum
theorem Kz(d:ST):sI (.row (nI d))=d.sum:=by unfold sI nI;rw[show(Sl.row (d.map Int.ofNat)).l=d.map Int.ofNat from Y,map_map,show(toNat ∘ Int.ofNat)=id from Y,List.map_id]
theorem RK(d:ST):W (nI d)=W d:=by simp[nI]
structure Kh(t:Trace)(d:List Nat):Prop where
 len:d.length=t.b?.l.length
 le:∀(p k:Nat)P,d[p]?=some k->t.b?.l[p]?=some P->k<=P.c?.l.length
 acc:∀(p k j:Nat),d[p]?=some k->j<k->Acc (Edge t) ⟨p,j+1⟩
def uP(t:Z4):Nat:=(t.b?.l.map λP=>W P.c?.l).sum
theorem Kh.sum{t:Z4}{d:ST}(h:Kh t d):d.sum<=uP t:=RQ (by simp[h.len]) λi a b z u=>by cases w:t.b?.l[i]?with|none=>grind|some P=>simp[w]at u;rw[<-u];exact h.le i a P z w
theorem GF{d:ST}{p:Nat}(h:p<W d):Sl.iE (.row (nI d)) (p:Int)=M p:=by unfold Sl.iE;rw[L' ⟨a?,by simpa[Sl.l,RK]using h⟩];rfl
theorem CC{d:ST}{p k:Nat}(h:d[p]?=M k):Sl.get (.row (nI d)) p=M (k:Int):=by unfold Sl.get nI;rw[show(Sl.row (d.map Int.ofNat)).l=d.map Int.ofNat from Y,j!,h];rfl
def Mv(t:Z4)(B:ST)(s:Zg)(b:X')(d:ST):Prop:=s=.row (nI d)/\Kh t d/\B.sum<=d.sum/\(b=U->B.sum<d.sum)
def KQ(t:Z4)(B:ST)(p:Nat)(w:Fw (Zg×X'×Int) (Zg×X') Empty):Prop:=∃u z C,w=.n (u,z,((p+1:Nat):Int))/\Mv t B u z C
theorem XZ{t:Z4}(c:Small t)(l:∀x∈bO t,nq (_m t.b?.l) x.1.proc x.2)(m:AY t){B n:ST}{s:Zg}{b:X'}{p:Nat}(hp:p<_m t.b?.l)(v:Mv t B s b n):
 Wp (fu.W3 s b p t) (KQ t B p):=by
 have Y:=bA hp;have hn:=c.1;have af:=(c.2 _ (t? hp)).1;have C:=ζd hp;generalize t.b?.l[p]=P at *;refine eC (λq:Zg×X'=>∃d,Mv t B q.1 q.2 d) (λq=>uP t-sI q.1) ⟨n,v⟩ ?_
 rintro⟨s,b⟩ ⟨d,rfl,u,hd,A⟩;have w:p<_m d:=by rw[u.len];omega
 have a:=ζd w;generalize d[p]=k at a;have ah:=u.le p k P a C;have stop:∀{W:Empty->Prop},Wp (M (Fw.x (Sl.row (nI d),b))) (Xd (λq:Zg×X'=>∃d,Mv t B q.1 q.2 d) (λq=>uP t-sI q.1) (λe=>Wp (M (Fw.n (e.1,e.2,w? N (p+1)))) (KQ t B p)) W (Sl.row (nI d),b)):=by refine(a_ _).2 ((a_ _).2 ⟨_,_,d,?_,_l,u,hd,A⟩);rw[cq p a?]
 unfold fu.dQ;rw[GF w,ζb,CC a,ζb,Y,ζb,cm];refine⟨λh=>?_,λ_=>stop⟩
 have D:k<_m P.c?.l:=g?
 have Z:mP t p k P.c?.l[k]:=⟨P,C,ζd D⟩;have z:(⟨p,k+1⟩,P.c?.l[k])∈bO t:=dY.2 ⟨p,k,Z,_l⟩;have go:(P.c?.l[k].kind=3->∀q j:Nat,iC t 2 P.c?.l[k].d?=⟨q,j+1⟩->∃X,d[q]?=M X/\j<X)->∀{o:Zg×X'->Prop}{W:Empty->Prop},Wp (fu.J4 (.row (nI d)) p t) (Xd (λq:Zg×X'=>∃d,Mv t B q.1 q.2 d) (λq=>uP t-sI q.1) o W (Sl.row (nI d),b)):=by intro E o W;unfold fu.J4;rw[GF w,ζb,CC a,ζb,ζb];unfold Sl.put;rw[L' (by simpa[Sl.l,RK]using w),ζb,a_];have G:(nI d).set p (w? N ((k:Int)+1))=nI (d.set p (k+1)):=(by rw[cq k a?];unfold nI;simp_all);have I:=OG a;have b__:Kh t (d.set p (k+1)):=(by refine⟨by simp[u.len],λq i Q hi r=>?_,λq i j hi F=>?_⟩;rw[D?]at hi;split at hi;grind;exact u.le q i Q hi r;rw[D?]at hi;split at hi;rename_i e;subst e;cases hi;by_cases H:j<k;exact u.acc p k j a H;have:j=k:=a?;subst this;refine Acc.intro _ λy K=>?_;obtain⟨L,_,g|g⟩:=K;obtain⟨q,i,f,_,rfl,_⟩:=L.at_;simp[bf.mk.injEq]at g;have e1:q=p:=(by omega);subst e1;exact u.acc q j i a a?;have⟨d__,a__⟩:=g.find l m z;obtain⟨q,i,f,_,rfl,_⟩:=L.at_;have⟨X,e__,R⟩:=E d__ q i a__;exact u.acc q X i e__ R;exact u.acc q i j hi F);have ai:=b__.sum;refine⟨⟨_,g?,b__,g?,λ_=>g?⟩,?_⟩;show uP t-sI (.row ((nI d).set p (w? N ((k:Int)+1))))<uP t-sI (.row (nI d));rw[G,Kz,Kz,I];grind
 dsimp only;rw[ζb,ζb,CC a,ζb,bA D,ζb,cm];refine⟨λd__=>?_,λd__=>go λh=>g?⟩
 have d__:P.c?.l[k].kind=3:=g?
 have⟨e,a1,a2,a3⟩:=Bb l m z d__;have⟨q,j,S,T⟩:=dY.1 a1;simp only at T;have c__:q<_m d:=by have⟨Q,r,_⟩:=S;rw[u.len];grind
 have V:=ζd c__;rw[find_eq c,ζb,T,GF c__,ζb,CC V,ζb,cm];refine⟨λ_=>stop,λh=>go λ_ q' j' hh=>?_⟩
 grind
theorem PS{t:Z4}(a:Small t)(T:∀x∈bO t,nq (_m t.b?.l) x.1.proc x.2)(B:AY t):Wp (fu t) λb=>b=U->¬Ol t:=by
 have l:=a.1;unfold fu jQ;rw[L' g?,ζb];have b__:(Sl.row (replicate (len t.b?).toNat 0))=.row (nI (replicate (_m t.b?.l) 0)):=by simp[nI]
 rw[b__];refine eC (λs:Zg=>∃d,s=.row (nI d)/\Kh t d) (λs=>uP t-sI s) ⟨_,_l,f?,λp k P h _=>g?,λp k j h m=>g?⟩ ?_;rintro s ⟨D,rfl,Q⟩;refine eC (λq:Zg×X'×Int=>∃(n:Nat)(d:ST),q.2.2=n/\n<=_m t.b?.l/\Mv t D q.1 q.2.1 d) (λq=>_m t.b?.l-q.2.2.toNat) ⟨0,D,_l,N? _,_l,Q,x? _,f?⟩ ?_;rintro⟨s,b,i⟩ ⟨n,d,hi,S,c⟩;subst hi;unfold fu.bK;rw[cm];constructor;intro h;have u:n<_m t.b?.l:=by grind
 refine(XZ a T B u c).mono ?_;rintro w ⟨o,r,a__,rfl,G⟩;exact⟨⟨n+1,a__,_l,a?,G⟩,by simp;omega⟩;intro _;obtain⟨rfl,z,W,I⟩:=c;rw[a_];show Wp (bh b _ _) _;rw[cm];refine⟨λX=>(a_ _).2 ⟨⟨d,_l,z⟩,?_⟩,λ_=>(a_ _).2 ?_⟩;show uP t-sI (.row (nI d))<uP t-sI (.row (nI D));rw[Kz,Kz];have:=I X;have:=z.sum;omega;refine eC (λi:Int=>∃n:Nat,i=n/\n<=_m t.b?.l/\∀p,p<n->∀P,t.b?.l[p]?=M P->d[p]?=M (_m P.c?.l)) (λi:Int=>_m t.b?.l-i.toNat) ⟨0,_l,N? _,λp F=>_e F a?⟩ ?_;rintro i ⟨n,rfl,Y,Z⟩;unfold fu.AK;rw[cm];constructor;intro h;have u:n<_m t.b?.l:=by grind
 have C:n<_m d:=by rw[z.len];omega
 have f:=ζd C;rw[GF C,ζb,CC f,ζb,bA u,ζb,cm];refine⟨λ_=>(a_ _).2 ((a_ _).2 λh=>by cases h),λh=>(a_ _).2 ⟨⟨n+1,cq n a?,a?,λp F P B=>?_⟩,by rw[cq n a?];simp;omega⟩⟩;by_cases e:p=n;subst e;rw[ζd u]at B;have:=z.le p _ _ f (ζd u);grind;grind;intro h;have v:_m t.b?.l<=n:=g?;refine(a_ _).2 ((a_ _).2 λ_⟨x,L⟩=>?_);obtain⟨p,k,e,⟨P,B,g⟩,rfl,_⟩:=L.l.at_;have y:=(ζe.1 B).1;exact aa9 (z.acc p _ k (Z p a? P B) (ζe.1 g).1) L
def tL(out:aY (aY X'))(y:bf):X':=match out[y.proc.toNat]?with
 |some row=>row[y.index.toNat]?.getD O|none=>O
theorem Cx{t:Z4}{out:aY (aY X')}{p k:Nat}{row:aY X'}(a:out[p]?=M row)(b:k+1<W row){z:bf}(B:Vd t z):
 tL (out.set p (row.set (k+1) U)) z=(_s (z=⟨p,k+1⟩)||tL out z):=by
 obtain⟨q,j,e,_,rfl,_⟩:=B.at_;have C:=(ζe.1 a).1;unfold tL;have e1:(⟨(q:Int),(j:Int)+1⟩:bf).proc.toNat=q:=rfl;have e2:(⟨(q:Int),(j:Int)+1⟩:bf).index.toNat=j+1:=by show((j:Int)+1).toNat=j+1;omega
 rw[e1,e2,D?]
 by_cases u:p=q
 .subst u;rw[L' Y,L' C,a];dsimp only;rw[D?]
  by_cases w:k=j
  .subst w;simp[b]
  rw[M' a?,show _s ((⟨(p:Int),(j:Int)+1⟩:bf)=⟨p,k+1⟩)=O from by simp;omega,Bool.false_or]
 rw[M' u,show _s ((⟨(q:Int),(j:Int)+1⟩:bf)=⟨p,k+1⟩)=O from by simp;omega,Bool.false_or]
theorem Dm {α:Type} {f g:α->Bool}:∀{l:aY α},(∀z∈l,f z=true->g z=true)->(∃z∈l,f z=false/\g z=true)->l.countP f<l.countP g
 | [],_,⟨z,hz,_⟩=>by simp at hz
 | a::l,h,⟨z,hz,B,hg⟩=>by
  simp only[List.countP_cons];have D:=List.countP_mono_left (l:=l) (p:=f) (q:=g) λx u=>h x (List.mem_cons_of_mem _ u)
  rcases List.mem_cons.1 hz with rfl|hz
  .simp[B,hg];omega
  have:=Dm (l:=l) (λx u=>h x (List.mem_cons_of_mem _ u)) ⟨z,hz,B,hg⟩
  have h1:=h a (List.mem_cons_self ..)
  cases w:f a with
  | true=>simp[h1 w];omega
  | false=>simp;split <;> omega
def cnt(t:Z4)(out:aY (aY X')):Nat:=(bO t).countP λz=>tL out z.1
structure PSt(t:Trace)(x:bf)(out:List (List Bool))(i?:List bf):Prop where
 xT:∀(p:Nat)P,t.b?.l[p]?=some P->∃row,out[p]?=some row/\row.length=P.c?.l.length+1
 len:out.length=t.b?.l.length
 que:∀y∈i?,Way t y x
 snd:∀y,Vd t y->tL out y=true->Way t y x
 cls:∀z,z=x\/Vd t z/\tL out z=true->∀y,Edge t y z->tL out y=true\/y∈i?
 le:i?.length<=2*cnt t out+2
def nested(out:aY (aY X')):Sl (Sl X'):=if out=[]then .nil else .row (out.map .row)
def oK(t:Z4):aY (aY X'):=t.b?.l.map λP=>replicate (W P.c?.l+1) O
theorem FA(out:aY (aY X')):(nested out).l=out.map .row:=by
 unfold nested;split;next h=>rw[h];rfl
 rfl
def KG(s:Sl (Sl X')):aY (aY X'):=s.l.map Sl.l
theorem Xc(out:aY (aY X')):KG (nested out)=out:=by unfold KG;rw[FA,map_map];exact List.map_id' _
theorem Gk{out:aY (aY X')}{p:Nat}{row:aY X'}(h:out[p]?=M row):H (idx (nested out) (p:Int)) Sl.whole=M (.row row):=by rw[gp,FA,j!,h];rfl
theorem Gm{out:aY (aY X')}{p:Nat}{row B:aY X'}(h:out[p]?=M row):pT (nested out) (p:Int) (.row B)=nested (out.set p B):=by
 have u:out≠[]:=by rintro rfl;cases h
 unfold nested;rw[M' u,M' (by simpa using u)];simp[pT,List.map_set]
theorem P4{out:aY (aY X')}{r:aY X'}(h:W out<2147483648):eH (nested out) (.row r)=M (nested (out++[r])):=by unfold eH;rw[FA,L' (by simp;omega)];simp[nested]
theorem adZ{α:Type}{s:Sl α}{y:α}{r:aY α}(h:s.l=y::r):∃c,nW s (M 1) J=M c/\c.l=r:=by
 have u:∀l:aY α,l=y::r->eD (W l) (M 1) J=M (1,W l):=λl w=>by unfold eD;simp only[G!,getD_none];rw[L' (by subst w;simp;omega)];rfl
 cases s with|nil=>cases h|emp=>cases h|row l=>exact⟨_,by simp only[nW,u l h];rfl,by show(l.take (W l)).drop 1=r;rw[I?,show l=y::r from h];rfl⟩|part l=>exact⟨_,by simp only[nW,u l h];rfl,by show(l.take (W l)).drop 1=r;rw[I?,show l=y::r from h];rfl⟩
theorem Ii{t:Z4}{y:bf}{s:Sl bf}(h:dW t y=M s):s.whole=M s:=by
 have B:∀o z,Sl.whole o=M o->dW.J1 o t y=M z->z.whole=M z:=λo z D u=>by unfold dW.J1 at u;have⟨e,_,u⟩:=ζg.1 u;cases C:e.kind==3 with|true=>rw[C]at u;have⟨f,_,u⟩:=ζg.1 u;have⟨q,w,u⟩:=ζg.1 u;cases u;unfold eH at w;split at w<;>cases w;rfl|false=>rw[C]at u;cases u;exact D
 unfold dW at h;cases a:_s (y.index>1)with|true=>rw[a]at h;exact B _ s Y h|false=>rw[a]at h;exact B _ s Y h
theorem Jq{t:Z4}{y:bf}{P:Sl bf->Prop}(h:Wp (dW t y) P):Wp (H (dW t y) Sl.whole) P:=by have⟨s,a,u⟩:=h;exact⟨s,by rw[a];exact Ii a,u⟩
theorem VL{α:Type}{s:Sl α}{p:Nat}(h:p<W s.l):Sl.iE s (p:Int)=M p:=by unfold Sl.iE;rw[L' ⟨a?,by simpa using h⟩];rfl
theorem Em{t:Z4}{y:bf}:tL (oK t) y=O:=by
 unfold tL oK;split;rename_i row h;rw[j!]at h;cases u:t.b?.l[y.proc.toNat]?with|none=>simp[u]at h|some P=>simp[u]at h;subst h;rw[t!];split<;>rfl
 rfl
theorem XQ {t:Trace} (hS:Small t) (hN:(bO t).length<1073741824) (hF:∀x∈bO t,nq t.b?.l.length x.1.proc x.2) (hP:AY t) {x:bf} (hx:Vd t x) :
 Wp (ir t x) λs=>∃out,s=nested out/\PSt t x out []/\∀y,Vd t y->(tL out y=true↔Way t y x):=by
 have hn:=hS.1;have am:(oK t).length=t.b?.l.length:=by simp[oK]
 unfold ir ir.W1;refine eC (λq:Sl (Sl Bool)×Int=>∃n:Nat,q.2=(n:Int)/\n<=t.b?.l.length/\q.1=nested ((oK t).take n)) (λq=>t.b?.l.length-q.2.toNat) ⟨0,rfl,Nat.zero_le _,rfl⟩ ?_
 rintro⟨_,_⟩ ⟨n,rfl,an,rfl⟩;unfold ir.bl;dsimp only;rw[cm];refine⟨λh=>?_,λh=>?_⟩
 .have C:n<t.b?.l.length:=by simpa [len]using h
  have ao:=(hS.2 _ (List.getElem_mem C)).1;have hi:(oK t)[n]' a?=List.replicate (t.b?.l[n].c?.l.length+1) false:=by simp[oK]
  rw[bA C,ζb,show IntKind.wrap .i64 (len t.b?.l[n].c?+1)=((t.b?.l[n].c?.l.length+1:Nat):Int)from cq _ a?,show jQ (((t.b?.l[n].c?.l.length+1:Nat)):Int) false=some (.row (List.replicate (t.b?.l[n].c?.l.length+1) false))from by unfold jQ;rw[L' a?];simp,ζb]
  show Wp (((some _:aX (Sl Bool)).bind _)) _;rw[ζb,P4 (by simp;omega),ζb,a_]
  refine⟨⟨n+1,cq n a?,C,?_⟩,?_⟩
  .rw[List.take_succ_eq_append_getElem a?,hi]
  show t.b?.l.length-(IntKind.wrap .i64 ((n:Int)+1)).toNat<t.b?.l.length-((n:Int)).toNat;rw[cq n a?];omega
 have g:t.b?.l.length<=n:=by simpa [len]using h
 rw[a_,List.take_of_length_le a?]
 show Wp _ _;rw[eS];refine(Jq (Ek hS hF hP hx)).mono λs hs=>?_
 unfold ir.W2;refine eC (λq:Sl (Sl Bool)×Sl bf=>∃out,q.1=nested out/\PSt t x out q.2.l) (λq=>2*((bO t).length-cnt t (KG q.1))+q.2.l.length) ⟨oK t,rfl,λp P hP=>⟨List.replicate (P.c?.l.length+1) false,by simp[oK,hP],by simp⟩,by simp[oK],λy I=>.single ((hs.2 y).1 I),λy _ h=>(by rw[Em]at h;cases h),λz hz y I=>?_,by have:=hs.1;show s.l.length<=2*cnt t (oK t)+2;omega⟩ ?_
 .rcases hz with rfl|⟨_,h⟩
  .exact .inr ((hs.2 y).2 I)
  rw[Em]at h;cases h
 rintro⟨_,todo⟩ ⟨out,rfl,u⟩;simp only at u;unfold ir.bK
 cases D:todo.l with
 | nil=>
  rw[D]at u;rw[show decide (len todo>0)=false from by simp[len,D],br,a_]
  refine(a_ _).2 ⟨out,rfl,u,λy I=>⟨u.snd y I,λi=>?_⟩⟩
  have key:∀w,Way t y w->w=x\/Vd t w/\tL out w=true->tL out y=true:=λw i=>by
   induction i with
   | single h=>exact λi=>(u.cls _ i _ h).elim id λh=>by cases h
   | tail ap W ih=>exact λi=>ih (.inr ⟨W.1,(u.cls _ i _ W).elim id λh=>by cases h⟩)
  exact key x i (.inl rfl)
 | cons y i?=>
  rw[D]at u;have S:=u.que y (List.mem_cons_self ..);have T:=S.l;obtain⟨p,k,e,ad,rfl,X⟩:=T.at_;obtain⟨P,Y,hk⟩:=ad;have aq:=(ζe.1 hk).1;obtain⟨row,hr,ae⟩:=u.xT p P Y;have B:k+1<row.length:=by omega
  have e2:((k:Int)+1)=((k+1:Nat):Int):=by omega
  obtain⟨c,af,d⟩:=adZ D;have Z:out.set p row=out:=by
   obtain⟨hp,ah⟩:=ζe.1 hr;rw[<-ah];exact List.set_getElem_self hp
  rw[show decide (len todo>0)=true from by simp[len,D],bq,show Sl.iE todo 0=some 0 from by unfold Sl.iE;rw[L' (by simp[D])];rfl,ζb,show Sl.get todo 0=some ⟨(p:Int),(k:Int)+1⟩from by unfold Sl.get;rw[D];rfl,ζb,af,ζb]
  dsimp only;rw[Gk hr,ζb,e2,show Sl.iE (.row row) ((k+1:Nat):Int)=some (k+1)from VL B,ζb,show Sl.get (.row row) (k+1)=some row[k+1]from ζd B,ζb,show Sl.whole (.row row)=some (.row row)from rfl,ζb,Gm hr,Z,cm];have aa:tL out ⟨p,k+1⟩=row[k+1]:=by
   unfold tL;rw[show ((⟨(p:Int),(k:Int)+1⟩:bf).proc).toNat=p from rfl,hr];dsimp only;rw[show ((k:Int)+1).toNat=k+1 from by omega,ζd B];rfl
  constructor
  .intro hb;rw[a_];refine⟨⟨out,rfl,u.xT,u.len,λy I=>u.que y (List.mem_cons_of_mem _ (d▸I)),u.snd,λz hz y I=>?_,by have:=u.le;simp only[List.length_cons]at this;rw[d];omega⟩,?_⟩
   .rw[d];rcases u.cls z hz y I with h|h
    .exact .inl h
    rcases List.mem_cons.1 h with rfl|h
    .exact .inl (by rw[aa];exact hb)
    exact .inr h
   show 2*((bO t).length-cnt t (KG (nested out)))+c.l.length<2*((bO t).length-cnt t (KG (nested out)))+todo.l.length;rw[d,D,List.length_cons];omega
  intro hb;obtain⟨L,ai,aj⟩:∃r,Sl.put (.row row) (k+1) true=some (.row r)/\r=row.set (k+1) true:=⟨_,by unfold Sl.put;rw[L' (show k+1<(Sl.row row).l.length from B)],rfl⟩
  rw[Gk hr,ζb,show Sl.iE (.row row) ((k+1:Nat):Int)=some (k+1)from VL B,ζb,ai,ζb,show Sl.whole (.row L)=some (.row L)from rfl,ζb,Gm hr,aj,eS,<-e2];refine(Jq (Ek hS hF hP T)).mono λmore hm=>?_
  have ak:=u.le;simp only[List.length_cons]at ak;have ar:cnt t out<=(bO t).length:=List.countP_le_length;have au:=hm.1;have C:cnt t out<cnt t (out.set p (row.set (k+1) true)):=Dm (λz hz h=>by rw[Cx hr B ⟨_,hz⟩,h,Bool.or_true]) ⟨_,X,by rw[aa,hb],by rw[Cx hr B T];simp⟩
  have al:cnt t (out.set p (row.set (k+1) true))<=(bO t).length:=List.countP_le_length;unfold ir.W3;refine eC (λq:Sl bf×Int=>∃n:Nat,q.2=(n:Int)/\n<=more.l.length/\q.1.l=i?++more.l.take n) (λq=>more.l.length-q.2.toNat) ⟨0,rfl,Nat.zero_le _,by simp[d]⟩ ?_
  rintro⟨td,_⟩ ⟨n,rfl,hn,G⟩;simp only at G;unfold ir.dQ;rw[cm];refine⟨λh=>?_,λh=>?_⟩
  .have C:n<more.l.length:=by simpa [len]using h
   obtain⟨av,w1,w2⟩:∃r,eH td more.l[n]=some r/\r.l=td.l++[more.l[n]]:=⟨_,by unfold eH;rw[L' (by rw[G];simp;omega)],rfl⟩
   rw[VL C,ζb,show Sl.get more n=some more.l[n]from ζd C,ζb,w1,ζb,a_];exact⟨⟨n+1,cq n a?,C,by rw[w2,G,List.take_succ_eq_append_getElem C,List.append_assoc]⟩,by rw[cq n a?];simp;omega⟩
  have g:more.l.length<=n:=by simpa [len]using h
  rw[List.take_of_length_le g]at G;rw[a_];refine(a_ _).2 ⟨⟨_,rfl,λq Q hQ=>?_,by show (out.set _ _).length=_;rw[List.length_set];exact u.len,λz hz=>?_,λz hz h=>?_,λz hz y I=>?_,by rw[G,ζi];show _<=2*cnt t (out.set p (row.set (k+1) true))+2;omega⟩,?_⟩
  .show ∃r,(out.set p (row.set (k+1) true))[q]? = some r/\_;rw[List.getElem?_set];split
   next e=>subst e;rw[L' (ζe.1 hr).1];rw[Y]at hQ;cases hQ;exact⟨_,rfl,by simp[ae]⟩
   exact u.xT q Q hQ
  .rw[G]at hz;rcases List.mem_append.1 hz with hz|hz
   .exact u.que z (List.mem_cons_of_mem _ hz)
   exact .trans (.single ((hm.2 z).1 hz)) S
  .show Way t z x;have h:tL (out.set p (row.set (k+1) true)) z=true:=h;rw[Cx hr B hz]at h;simp only[Bool.or_eq_true,_g]at h;rcases h with rfl|h
   .exact S
   exact u.snd z hz h
  .rw[G];show tL (out.set p (row.set (k+1) true)) y=true\/y∈i?++more.l;rw[Cx hr B I.1];have old:z=x\/Vd t z/\tL out z=true->(decide (y=⟨p,k+1⟩)||tL out y)=true\/y∈i?++more.l:=λhz=>by
    rcases u.cls z hz y I with h|h
    .exact .inl (by rw[show tL out y=true from h,Bool.or_true])
    rcases List.mem_cons.1 h with rfl|h
    .exact .inl f?
    exact .inr (List.mem_append_left _ h)
   rcases hz with hz|⟨ab,hz⟩
   .exact old (.inl hz)
   have hz:tL (out.set p (row.set (k+1) true)) z=true:=hz;rw[Cx hr B ab]at hz;simp only[Bool.or_eq_true,_g]at hz;rcases hz with rfl|hz
   .exact .inr (List.mem_append_right _ ((hm.2 y).2 I))
   exact old (.inr ⟨ab,hz⟩)
  show 2*((bO t).length-cnt t (KG (nested (out.set p (row.set (k+1) true)))))+td.l.length<2*((bO t).length-cnt t (KG (nested out)))+todo.l.length;rw[Xc,Xc,G,D,ζi,List.length_cons];omega
theorem ac8{t:Z4}(b:Small t)(Y:_m (bO t)<1073741824)(f:∀x∈bO t,nq (_m t.b?.l) x.1.proc x.2)(G:AY t):Wp (dF.W6 0 t ⟨0,0⟩) λr=>(r.2=0↔¬Ol t):=by
 have v:=b.1;unfold dF.W6;refine eC (λi:Int=>∃n:Nat,i=n/\n<=_m t.b?.l/\∀(p k:Nat)e,p<n->mP t p k e->¬Way t ⟨p,k+1⟩ ⟨p,k+1⟩) (λi:Int=>_m t.b?.l-i.toNat) ⟨0,_l,N? _,λp k e T=>_e T a?⟩ ?_;rintro i ⟨n,rfl,Z,b__⟩;unfold dF.N4;rw[cm];constructor;intro h;have w:n<_m t.b?.l:=by simpa[len]using h
 have I:=bA w;have z:=ζd w;have y:=(b.2 _ (t? w)).1;generalize t.b?.l[n]=P at *;unfold dF.W7;refine eC (λi:Int=>∃m:Nat,i=m/\m<=_m P.c?.l/\∀k,k<m->¬Way t ⟨n,k+1⟩ ⟨n,k+1⟩) (λi:Int=>_m P.c?.l-i.toNat) ⟨0,_l,N? _,λk a=>_e a a?⟩ ?_;rintro i ⟨m,rfl,A,a⟩;unfold dF.Oa;rw[I,ζb,cm];constructor;intro h;have a__:m<_m P.c?.l:=by simpa[len]using h
 have L:=cq m a?;have c:Vd t ⟨n,m+1⟩:=⟨P.c?.l[m],dY.2 ⟨n,m,⟨P,z,ζd a__⟩,_l⟩⟩;rw[L,show(((m+1:Nat)):Int)=(m:Int)+1 from f?,eS];refine(XQ b Y f G c).mono ?_;rintro s ⟨out,rfl,g,B⟩;have⟨row,d,E⟩:=g.xT n P z;have c__:out≠[]:=by rintro rfl;cases d
 have C:m+1<_m row:=a?;have j:idx (nested out) (n:Int)=M (.row row):=by unfold nested;rw[M' c__,gp];show(out.map Sl.row)[n]?=_;rw[j!,d];rfl
 have l:idx (Sl.row row) ((m:Int)+1)=M row[m+1]:=by rw[show(m:Int)+1=((m+1:Nat):Int)from f?];exact bA (s:=Sl.row row) C
 rw[j,ζb,l,ζb,cm];have o:row[m+1]=tL out ⟨n,m+1⟩:=by unfold tL;rw[show((⟨(n:Int),(m:Int)+1⟩:bf).proc).toNat=n from _l,d];dsimp only;rw[show((m:Int)+1).toNat=m+1 from a?,ζd C];rfl
 rw[o];refine⟨λD=>(a_ _).2 ((a_ _).2 ((a_ _).2 ⟨λh=>(by cases h),λh=>_e ⟨_,(B _ c).1 D⟩ h⟩)),λD=>(a_ _).2 ⟨⟨m+1,f?,a?,λk F=>?_⟩,by simp;omega⟩⟩;by_cases e:k=m;subst e;exactλL=>by rw[(B _ c).2 L]at D;cases D
 exact a k a?;intro h;have S:_m P.c?.l<=m:=by simpa[len]using h
 refine(a_ _).2 ((a_ _).2 ⟨⟨n+1,cq n a?,a?,λp k e T u=>?_⟩,by rw[cq n a?];simp;omega⟩);by_cases e:p=n;subst e;have⟨Q,W,q⟩:=u;rw[z]at W;cases W;have:=(ζe.1 q).1;exact a k a?;exact b__ p k _ a? u;intro h;have S:_m t.b?.l<=n:=by simpa[len]using h
 refine(a_ _).2 ((a_ _).2 ⟨λ_⟨x,X⟩=>?_,λ_=>rfl⟩);obtain⟨p,k,e,u,rfl,_⟩:=X.l.at_;have⟨P,G,_⟩:=id u;exact b__ p k e (by have:=(ζe.1 G).1;omega) u X
theorem K0{t:Z4}(B:∀x∈bO t,nq (W t.b?.l) x.1.proc x.2):(∀(p k:Nat)e,mP t p k e->yP t (⟨p,k+1⟩,e)=0)↔AY t:=Iff.trans ⟨λh x w=>by have⟨p,k,b,u⟩:=dY.1 w;have⟨a,e⟩:=x;simp only at b u;rw[u];exact h p k e b,λh p k e z=>h _ (dY.2 ⟨p,k,z,Y⟩)⟩ (PR B)
theorem TM{t:Z4}(c:Small t)(s:_m (bO t)<1073741824):Wp (dF t) λr=>(r.2=0↔Ok t):=by
 have E:=c.1;unfold dF;rw[nj,ζb,cm];refine⟨λS=>(a_ _).2 ⟨λh=>(by cases h),λh=>?_⟩,λS=>?_⟩;have F:=h.one;have f:=h.few;simp only[p!,_g,len]at S;omega;have f:1<=_m t.b?.l/\_m t.b?.l<=8:=by simp only[h!,_h,len]at S;omega
 unfold dF.W1;refine eC (λi:Int=>∃n:Nat,i=n/\n<=_m t.b?.l/\∀p,p<n->tc t p=0) (λi:Int=>_m t.b?.l-i.toNat) ⟨0,_l,N? _,λp I=>_e I a?⟩ ?_;rintro i ⟨n,rfl,H,l⟩;unfold dF.bl;rw[cm];constructor;intro h;have w:n<_m t.b?.l:=by simpa[len]using h
 rw[Uk c w,ζb,cm];refine⟨λC=>(a_ _).2 ⟨⟨n+1,cq n a?,a?,λp I=>?_⟩,by rw[cq n a?];simp;omega⟩,λC=>(a_ _).2 ((a_ _).2 ⟨λh=>?_,λh=>?_⟩)⟩;by_cases e:p=n;subst e;simpa using C;exact l p a?;simp only at h;simp[h]at C;simp[h.heads n w]at C;intro h;have K:_m t.b?.l<=n:=by simpa[len]using h
 rw[a_];unfold dF.W2;refine eC (λi:Int=>∃n:Nat,i=n/\n<=_m t.b?.l/\∀(p k:Nat)P e,p<n->t.b?.l[p]?=M P->P.c?.l[k]?=M e->qu (_m t.b?.l) P p k e=0) (λi:Int=>_m t.b?.l-i.toNat) ⟨0,_l,N? _,λp k P e I=>_e I a?⟩ ?_;rintro i ⟨b__,rfl,a__,X⟩;unfold dF.bK;rw[cm];constructor;intro h;have w:b__<_m t.b?.l:=by simpa[len]using h
 have G:=bA w;have B:=ζd w;have T:=(c.2 _ (t? w)).1;generalize t.b?.l[b__]=P at G B T;unfold dF.W3;refine eC (λi:Int=>∃m:Nat,i=m/\m<=_m P.c?.l/\∀(k:Nat)e,k<m->P.c?.l[k]?=M e->qu (_m t.b?.l) P b__ k e=0) (λi:Int=>_m P.c?.l-i.toNat) ⟨0,_l,N? _,λk e a=>_e a a?⟩ ?_;rintro i ⟨m,rfl,v,a⟩;unfold dF.dQ;rw[G,ζb,cm];constructor;intro h;have c__:m<_m P.c?.l:=by simpa[len]using h
 have D:=ζd c__;have d:=cq m a?;rw[Wi c B D,ζb,cm];refine⟨λC=>(a_ _).2 ⟨⟨m+1,d,a?,λk e x u=>?_⟩,by rw[d];simp;omega⟩,λC=>(a_ _).2 ((a_ _).2 ((a_ _).2 ⟨λh=>?_,λh=>?_⟩))⟩;by_cases g:k=m;subst g;rw[D]at u;cases u;simpa using C;exact a k e a? u;simp only at h;simp[h]at C;simp[h.gz b__ m P _ B D]at C;intro h;have L:_m P.c?.l<=m:=by simpa[len]using h
 refine(a_ _).2 ((a_ _).2 ⟨⟨b__+1,cq b__ a?,a?,λp k Q e I W u=>?_⟩,by rw[cq b__ a?];simp;omega⟩);by_cases j:p=b__;subst j;rw[B]at W;cases W;exact a k e (by have:=(ζe.1 u).1;omega) u;exact X p k Q e a? W u;intro h;have L:_m t.b?.l<=b__:=by simpa[len]using h
 have X:∀(p k:Nat)P e,t.b?.l[p]?=M P->P.c?.l[k]?=M e->qu (_m t.b?.l) P p k e=0:=λp k P e d__ a=>X p k P e (by have:=(ζe.1 d__).1;omega) d__ a;have Y:=JG X;rw[a_];unfold dF.W4;refine eC (λi:Int=>∃n:Nat,i=n/\n<=_m t.b?.l/\∀(p k:Nat)e,p<n->mP t p k e->yP t (⟨p,k+1⟩,e)=0) (λi:Int=>_m t.b?.l-i.toNat) ⟨0,_l,N? _,λp k e I=>_e I a?⟩ ?_;rintro i ⟨q,rfl,e__,Z⟩;unfold dF.yZ;rw[cm];constructor;intro h;have w:q<_m t.b?.l:=by simpa[len]using h
 have G:=bA w;have B:=ζd w;have T:=(c.2 _ (t? w)).1;generalize t.b?.l[q]=P at G B T;unfold dF.W5;refine eC (λi:Int=>∃m:Nat,i=m/\m<=_m P.c?.l/\∀(k:Nat)e,k<m->P.c?.l[k]?=M e->yP t (⟨q,k+1⟩,e)=0) (λi:Int=>_m P.c?.l-i.toNat) ⟨0,_l,N? _,λk e a=>_e a a?⟩ ?_;rintro i ⟨m,rfl,v,a⟩;unfold dF.AK;rw[G,ζb,cm];constructor;intro h;have c__:m<_m P.c?.l:=by simpa[len]using h
 have D:=ζd c__;have d:=cq m a?;have z:mP t q m P.c?.l[m]:=⟨P,B,D⟩;rw[d,show(((m+1:Nat)):Int)=(m:Int)+1 from f?,SH c z (Y (⟨q,m+1⟩,P.c?.l[m]) (dY.2 ⟨q,m,z,_l⟩)),ζb,cm];refine⟨λC=>(a_ _).2 ⟨⟨m+1,f?,a?,λk e x u=>?_⟩,by simp;omega⟩,λC=>(a_ _).2 ((a_ _).2 ((a_ _).2 ⟨λh=>?_,λh=>?_⟩))⟩;by_cases g:k=m;subst g;rw[D]at u;cases u;simpa using C;exact a k e a? u;simp only at h;simp[h]at C;simp[(K0 Y).2 h.Ci q m _ z]at C;intro h;have L:_m P.c?.l<=m:=by simpa[len]using h
 refine(a_ _).2 ((a_ _).2 ⟨⟨q+1,cq q a?,a?,λp k e I z=>?_⟩,by rw[cq q a?];simp;omega⟩);by_cases j:p=q;subst j;have⟨Q,W,u⟩:=z;rw[B]at W;cases W;exact a k e (by have:=(ζe.1 u).1;omega) u;exact Z p k e a? z;intro h;have R:_m t.b?.l<=q:=by simpa[len]using h
 have d__:AY t:=(K0 Y).1 λp k e z=>Z p k e (by have⟨P,d__,_⟩:=z;have:=(ζe.1 d__).1;omega) z;have o:¬Ol t↔Ok t:=⟨λh=>⟨f.1,f.2,λp I=>l p a?,X,d__,h⟩,λh=>h.acyc⟩;rw[a_,eS];refine(PS c Y d__).mono λb y=>?_;rw[cm];exact⟨λh=>(a_ _).2 ⟨λ_=>o.1 (y h),λ_=>rfl⟩,λ_=>(ac8 c s Y d__).mono λr A=>A.trans o⟩
theorem CV{t:Z4}(a:Small t)(B:(bO t).length<1073741824):∃b,cu t=M b/\mo t=M b/\(b=U->VT t):=by obtain⟨b,u,c,w⟩:=Va a B;refine⟨b,u,?_,c⟩;unfold mo;obtain⟨r,d,z⟩:=TM a B;rw[d,ζb];congr 1;rw[Bool.eq_iff_iff,_j,z];exact⟨w,λh=>(c h).ok⟩
theorem EL{t:Z4}(d:Small t){c:Zg}(D:W c.l=W t.b?.l){step:Int->aX (Fw Int Unit Unit)}
 (o:∀i,step i=bh (_s (i<(len c))) (H (idx c i) λG=>(bh (_s (G<0)) (M U) (H (idx c i) λg=>H (idx t.b? i) λT=>M (_s (g>(len T.c?)))):aX X').bind λj=>bh j (M (.r ())) (M (.n (w? N (i+1))))) (M (.x ()))):
 Wp (H (bL step 0) (Fw.elim (λ_=>M U) (λ_=>M O))) λb=>(b=U↔qm t c.l):=by
 have f:=d.1;refine eC (λs:Int=>∃n:Nat,s=n/\n<=W c.l/\∀(p:Nat)(a:Int)(P:bT),p<n->c.l[p]?=M a->t.b?.l[p]?=M P->0<=a/\a<=W P.c?.l) (λs:Int=>W c.l-s.toNat) ⟨0,Y,N? _,λp a P h=>_e h a?⟩ ?_
 rintro s ⟨n,rfl,S,I⟩;rw[o,cm];constructor
 .intro h;have w:n<W c.l:=by simpa[len]using h
  have u:n<W t.b?.l:=a?
  have L:=cq n a?
  rw[bA w,ζb,ζb,bA u,ζb,nj,ζb,cm];constructor
  .intro z;have z:c.l[n]<0\/c.l[n]>t.b?.l[n].c?.l.length:=by simpa[len]using z
   refine(a_ _).2 ((a_ _).2 ⟨λh=>(by cases h),λm=>?_⟩)
   have:=m.2 n _ _ (ζd w) (ζd u);omega
  intro z;have z:0<=c.l[n]/\c.l[n]<=t.b?.l[n].c?.l.length:=by simpa[len]using z
  refine(a_ _).2 ⟨⟨n+1,L,a?,λp a P X B C=>?_⟩,by rw[L];simp;omega⟩
  by_cases e:p=n
  .subst e;rw[ζd w]at B;cases B;rw[ζd u]at C;cases C;exact z
  exact I p a P a? B C
 intro h;have Q:W c.l<=n:=by simpa[len]using h
 refine(a_ _).2 ((a_ _).2 ⟨λ_=>⟨D,λp a P B C=>I p a P (by have:=(ζe.1 B).1;omega) B C⟩,λ_=>rfl⟩)
theorem YB{t:Z4}(a:Small t){c:Zg}(B:W c.l=W t.b?.l):Wp (pP t c) λb=>(b=U↔qm t c.l):=by unfold pP;rw[show(len c==len t.b?)=U from by simp[len,B],bq];exact EL a B λi=>rfl
theorem Cu{t:Z4}(a:VT t){A:cn 200 bC}(b:fm t (bO t) A){p k:Nat}{e:WF}(B:mP t p k e)(c:e.kind=3):iC t 2 e.d?=(ag A e.d?).from_:=by have⟨y,d,u,w⟩:=Bb a.formed a.ok.Ci (dY.2 ⟨p,k,B,Y⟩:((⟨p,k+1⟩:bf),e)∈bO t) c;have:=b.snd _ d u;simp only[w]at this;exact this.symm
theorem Ig(t:Z4)(kind m:Int):iC t kind m=⟨0,0⟩/\(∀x∈bO t,¬(x.2.kind=kind/\x.2.d?=m))\/∃z,(iC t kind m,z)∈bO t/\z.kind=kind/\z.d?=m:=by cases h:(bO t).find? (nu kind m)with|some x=>have⟨a1,a2,w,B⟩:=yO h;exact .inr ⟨x.2,by rw[B];exact a1,a2,w⟩|none=>rw[L!]at h;have u:∀x∈bO t,¬(x.2.kind=kind/\x.2.d?=m):=λx C=>(by have:=h x C;simpa[nu]using this);exact .inl ⟨Pr u,u⟩
theorem OE{t:Z4}(a:VT t){r s:bf}{z e:WF}(b:(r,z)∈bO t)(D:z.kind=3)(B:(s,e)∈bO t)(G:e.kind=2)(d:e.d?=z.d?):e.k?=r.proc/\z.k?=s.proc:=by
 have h:=a.ok.Ci.has _ b D;have L:0<=z.k?:=by rcases a.formed _ b with h|⟨_,h,_⟩;simp only at h;omega;exact h
 rw[show z.k?=((z.k?.toNat:Nat):Int)from a?,BD]at h;have⟨k,y,w,c,C,I⟩:=h;have u:((⟨(z.k?.toNat:Nat),k+1⟩:bf),y)∈bO t:=dY.2 ⟨_,k,w,Y⟩;have:=a.ok.Ci.snd _ u _ B c G (by rw[d];exact C);simp only at this;subst this;cases BG u B Y;exact⟨I,by simp only;omega⟩
def nN(t:Z4)(c:Rd)(e:WF):X':=(iC t 3 e.d?).index==0||decide ((iC t 3 e.d?).index>(c[(iC t 3 e.d?).proc.toNat]?).getD 0)
theorem C9{α:Type}(f g:α->X'):∀l:aY α,l.countP f=l.countP (λx=>f x&&g x)+l.countP (λx=>f x&& !g x)
 |[]=>rfl|x::l=>by simp only[H!,C9 f g l];cases f x<;>cases g x<;>simp<;>omega
theorem wU{α:Type}{f:α->X'}{l:aY α}{n k:Nat}:k∈places f (l.take n)↔k<n/\∃x,l[k]?=M x/\f x=U:=by rw[QM];simp only[J?];constructor;rintro⟨x,a,u⟩;split at a;exact⟨‹_›,x,a,u⟩;cases a;rintro⟨h,x,a,u⟩;exact⟨x,by rw[L' h];exact a,u⟩
theorem Zi{t:Z4}(i:VT t){A:cn 200 bC}(hM:fm t (bO t) A){c:Rd}(y:Cons t A c){p q:Nat}{P Q:bT}{a b:Int}(a__:t.b?.l[p]?=_k P)(D:t.b?.l[q]?=_k Q)(M:c[p]?=_k a)(r:c[q]?=_k b):
 (Q.c?.l.take b.toNat).countP (A4 p)=(P.c?.l.take a.toNat).countP λe=>ec q e&& !nN t c e:=by
 have f:∀{p:Nat}{P:bT}{k:Nat}{e:WF},t.b?.l[p]?=_k P->P.c?.l[k]?=_k e->((⟨p,k+1⟩:bf),e)∈bO t:=λa__ g=>dY.2 ⟨_,_,⟨_,a__,g⟩,_l⟩
 have a0:=(y.1.2 p a P M a__).1;have b0:=(y.1.2 q b Q r D).1;have r1:∀k,k∈places (A4 p) (Q.c?.l.take b.toNat)->∃(z:WF)(j:Nat)(e:WF),Q.c?.l[k]?=_k z/\z.kind=3/\P.c?.l[j]?=_k e/\e.kind=2/\e.k?=q/\e.d?=z.d?/\iC t 2 z.d?=⟨p,j+1⟩/\(j:Int)+1<=a/\(k:Int)+1<=b:=λk g=>by have⟨aj,z,d,u⟩:=wU.1 g;have u:z.kind=3/\z.k?=p:=(by simpa[A4]using u);have d__:=f D d;have⟨e,e1,e2,e3⟩:=Bb i.formed i.ok.Ci d__ u.1;have⟨l,Z⟩:=OE i d__ u.1 e1 e2 e3;have⟨p',j,⟨P',R,m⟩,G⟩:=dY.1 e1;simp only at l G m;rw[G]at Z;have ad:p'=p:=(by simp only at Z;omega);subst ad;rw[a__]at R;cases R;have⟨x,C,I⟩:=y.2 q k z b ⟨Q,D,d⟩ r a? u.1;rw[<-Cu i hM ⟨Q,D,d⟩ u.1,G]at C I;simp only[n!]at C I;rw[M]at C;cases C;exact⟨z,j,e,d,u.1,m,e2,l,e3,G,I,a?⟩
 have E:∀k,k∈places (λe=>ec q e&& !nN t c e) (P.c?.l.take a.toNat)->∃(e:WF)(j:Nat)(z:WF),P.c?.l[k]?=_k e/\e.kind=2/\Q.c?.l[j]?=_k z/\z.kind=3/\z.k?=p/\z.d?=e.d?/\iC t 3 e.d?=⟨q,j+1⟩/\(j:Int)+1<=b:=λk g=>by have⟨ak,e,d,u⟩:=wU.1 g;simp only[ζh,Z?,nN,h!,ec,_j,_i,_h]at u;have⟨⟨g1,g2⟩,g3,g4⟩:=u;rcases Ig t 3 e.d? with⟨h,_⟩|⟨z,s,v,z3⟩;rw[h]at g3;exact _e _l g3;have⟨l,Z⟩:=OE i s v (f a__ d) g1 z3.symm;have⟨q',j,⟨Q',V,m⟩,G⟩:=dY.1 s;simp only at G m l Z;rw[G]at l g4;have ae:q'=q:=(by simp only at l;omega);subst ae;rw[D]at V;cases V;simp only[n!,r,G!]at g4;exact⟨e,j,z,d,g1,m,v,Z,z3,G,a?⟩
 apply Nat.le_antisymm
 .refine Ji (λk=>match Q.c?.l[k]?with|some z=>((iC t 2 z.d?).index-1).toNat|none=>0) (λk g=>?_) λk F g L H=>?_
  .have⟨z,j,e,d,u,c__,n,o,S,T,h8,h9⟩:=r1 k g;rw[d];simp only[T];rw[show((j:Int)+1-1).toNat=j from a?]
   refine wU.2 ⟨a?,e,c__,?_⟩
   have af:iC t 3 e.d?=⟨q,k+1⟩:=by rcases Ig t 3 e.d? with⟨_,h⟩|⟨z',s,v,z3⟩;exact _e ⟨u,S.symm⟩ (h _ (f D d));exact i.ok.Ci.rcv _ s _ (f D d) v u (by rw[z3,S])
   simp only[nN,af,ec,n,o,n!,r,G!];simp;omega
  have⟨z,j,e,d,u,c__,n,o,S,T,_⟩:=r1 k g;have⟨z',K,e',w,b__,B,ah,ai,W,X,_⟩:=r1 F L;simp only[d,w,T,X]at H;have Y:j=K:=a?
  subst Y;rw[c__]at B;cases B;have:=i.ok.Ci.rcv _ (f D d) _ (f D w) u b__ (by rw[<-S,W])
  simp only[bf.mk.injEq]at this;omega
 refine Ji (λk=>match P.c?.l[k]?with|some e=>((iC t 3 e.d?).index-1).toNat|none=>0) (λk g=>?_) λk F g L H=>?_
 .have⟨e,j,z,d,u,c__,n,o,S,T,h8⟩:=E k g;rw[d];simp only[T];rw[show((j:Int)+1-1).toNat=j from a?]
  exact wU.2 ⟨a?,z,c__,by simp[A4,n,o]⟩
 have⟨e,j,z,d,u,c__,n,o,S,T,_⟩:=E k g;have⟨e',K,z',w,b__,B,ah,ai,W,X,_⟩:=E F L;simp only[d,w,T,X]at H;have Y:j=K:=a?
 subst Y;rw[c__]at B;cases B;have:=i.ok.Ci.snd _ (f a__ d) _ (f a__ w) u b__ (by rw[<-S,W])
 simp only[bf.mk.injEq]at this;omega
theorem Cn{t:Z4}(d:VT t){A:cn 200 bC}(f:fm t (bO t) A){c:Rd}(g:Cons t A c){p q:Nat}{P Q:bT}{a b:Int}(B:t.b?.l[p]?=M P)(D:t.b?.l[q]?=M Q)(G:c[p]?=M a)(h:c[q]?=M b):
 under t c p q=((P.c?.l.take a.toNat).countP λe=>ec q e&&nN t c e:Nat):=by
 unfold under;rw[B,D,G,h];dsimp only;rw[Zi d f g B D G h,C9 (ec q) (nN t c)];omega
theorem eB{σ ε ρ γ:Type}{step:σ->aX (Fw σ ε ρ)}{B:ε->aX γ}{fr:ρ->aX γ}{P:γ->Prop}(n:Nat)(I:Nat->σ->Prop){s:σ}(G:I 0 s)
 (h:∀i s,i<n->I i s->Wp (step s) λw=>match w with|.n D=>I (i+1) D|.x e=>Wp (B e) P|.r b=>Wp (fr b) P)
 (d:∀s,I n s->Wp (step s) λw=>match w with|.n _=>False|.x e=>Wp (B e) P|.r b=>Wp (fr b) P):Wp (H (bL step s) (Fw.elim B fr)) P:=by
 have key:∀m i s,i+m=n->I i s->Wp (H (bL step s) (Fw.elim B fr)) P:=by
  intro m
  induction m with
  |zero=>intro i s hi z;have⟨w,u,a⟩:=d s g?;rw[fP,u];cases w with|n D=>grind|x e=>exact a|r b=>exact a
  |succ m C=>intro i s hi z;have⟨w,u,a⟩:=h i s a? z;rw[fP,u];cases w with|n D=>grind|x e=>exact a|r b=>exact a
 exact key n 0 s (Nat.zero_add n) G
def bump(c:Rd)(p:Nat)(d:Int):Rd:=c.set p ((c[p]?).getD 0+d)
theorem wz:∀{c:Rd}{p:Nat}{a b:Int},c[p]?=M a->(c.set p b).sum=c.sum-a+b
 |[],_,_,_,h=>o?|x::c,0,a,b,h=>g?|x::c,p+1,a,b,h=>by have:=wz (b:=b) (by simpa using h);grind
theorem s_:∀{c:Rd},(∀(p:Nat)a,c[p]?=M a->0<=a)->0<=c.sum
 |[],_=>f?|x::c,h=>by have b:=h 0 x Y;have u:=s_ (c:=c) λp a w=>h (p+1) a g?;grind
theorem K8:∀{c:Rd},(∀(p:Nat)a,c[p]?=M a->0<=a)->c.sum=0->∀(p:Nat)a,c[p]?=M a->a=0
 |[],_,_,p,a,B=>o?|x::c,h,D,p,a,B=>by have d:=h 0 x Y;have b:∀(p:Nat)a,c[p]?=M a->0<=a:=λp a B=>h (p+1) a g?;have u:=s_ b;simp at D;cases p with|zero=>grind|succ p=>exact K8 b a? p a g?
theorem Of:∀{c:Rd}{l:ST},W c=W l->(∀(i:Nat)a b,c[i]?=M a->l[i]?=M b->a<=(b:Nat))->c.sum<=(l.sum:Nat)
 |[],[],_,_=>f?|x::c,y::l,B,h=>by have d:=h 0 x y Y Y;have u:=Of (c:=c) (l:=l) g? λi a b w z=>h (i+1) a b g? g?;grind
section
variable{t:Z4}{A:cn 200 bC}{c:Rd}
theorem qm.pos(h:qm t c)(p:Nat)(a:Int)(B:c[p]?=M a):0<=a:=(h.2 p a _ B (ζd (by have:=(ζe.1 B).1;rw[<-h.1];simp_all))).1
theorem qm.at_(h:qm t c){p:Nat}(hp:p<W t.b?.l):∃a,c[p]?=M a:=⟨_,ζd (by rw[h.1];omega)⟩
theorem qm.sum(h:qm t c):0<=c.sum/\c.sum<=(uP t:Nat):=
 ⟨s_ h.pos,Of (by simp[h.1]) λi a b z u=>by
  cases w:t.b?.l[i]?with
  |none=>grind|some P=>simp[w]at u;rw[<-u];exact(h.2 i a P z w).2⟩
theorem qm.set(h:qm t c){p:Nat}{b:Int}{P:bT}(B:t.b?.l[p]?=M P)(D:0<=b)(d:b<=W P.c?.l):qm t (c.set p b):=by refine⟨by simp[h.1],λq a Q u w=>?_⟩;rw[D?]at u;split at u;grind;exact h.2 q a Q u w
def MC(t:Z4)(A:cn 200 bC)(c:Rd)(p:Nat):Prop:=∃P e a,t.b?.l[p]?=M P/\c[p]?=M a/\P.c?.l[a.toNat]?=M e/\(e.kind=3->∃b,c[(ag A e.d?).from_.proc.toNat]?=M b/\(ag A e.d?).from_.index<=b)
theorem mP.one{p k:Nat}{e f:WF}(h:mP t p k e)(g:mP t p k f):e=f:=by have⟨P,a1,a2⟩:=h;have⟨Q,u,w⟩:=g;grind
theorem nK.le(h:nK t A c){p:Nat}{a b:Int}(D:c[p]?=M a)(g:a<=b)(T:∀(k:Nat)e,mP t p k e->a<=k->(k:Int)<b->e.kind=3->∃B,(c.set p b)[(ag A e.d?).from_.proc.toNat]?=M B/\(ag A e.d?).from_.index<=B):nK t A (c.set p b):=by
 have I:=(ζe.1 D).1;have up:∀(q:Nat)x,c[q]?=M x->∃y,(c.set p b)[q]?=M y/\x<=y:=λq x u=>by rw[D?];grind
 intro q k e x w u d G;rw[D?]at u;have old:∀x,c[q]?=M x->k<x->∃B,(c.set p b)[(ag A e.d?).from_.proc.toNat]?=M B/\(ag A e.d?).from_.index<=B:=λx u d=>by have⟨y,L,j⟩:=h q k e x w u d G;have⟨z,Q,S⟩:=up _ y L;exact⟨z,Q,a?⟩
 split at u;rename_i i;subst i;simp[I]at u;subst u;by_cases C:k<a;exact old a D C;exact T k e w a? d G;grind
theorem BI(a:VT t)(b:fm t (bO t) A){p k:Nat}{e:WF}(B:mP t p k e)(D:e.kind=3):∃q j:Nat,(ag A e.d?).from_=⟨q,j+1⟩/\q≠p/\Md t ⟨q,j+1⟩ ⟨p,k+1⟩/\∃y,mP t q j y:=by have⟨q,j,y,u,z,C,y3,y4,y5⟩:=zz a b B D;have w:(⟨p,k+1⟩,e)∈bO t:=dY.2 ⟨p,k,B,Y⟩;refine⟨q,j,y5,?_,⟨y,e,dY.2 ⟨q,j,u,Y⟩,w,z,D,C⟩,y,u⟩;rcases a.formed _ w with h|⟨_,_,_,h,_⟩;grind;grind
theorem Cons.up(g:VT t)(i:fm t (bO t) A)(d:Cons t A c){p:Nat}{a:Int}{P:bT}(B:t.b?.l[p]?=M P)(D:c[p]?=M a)(o:a<W P.c?.l):MC t A c p↔Cons t A (c.set p (a+1)):=by have F:=d.1.pos p a D;have X:=(ζe.1 D).1;constructor;rintro⟨Q,e,x,G,I,L,w⟩;rw[B]at G;cases G;rw[D]at I;cases I;refine⟨d.1.set B a? a?,d.2.le D a? λk f z y S Y=>?_⟩;have C:k=a.toNat:=a?;subst C;cases z.one ⟨P,B,L⟩;grind;intro h;have u:a.toNat<W P.c?.l:=a?;refine⟨P,P.c?.l[a.toNat],a,B,D,ζd u,λw=>?_⟩;have⟨b,m,T⟩:=h.2 p a.toNat _ (a+1) ⟨P,B,ζd u⟩ o? a? w;rw[D?]at m;split at m;have⟨q,j,l,Z,_⟩:=BI g i ⟨P,B,ζd u⟩ w;grind;grind
noncomputable def K2 (t:Trace) (x:bf):Nat:=by
 classical
 exact(bO t).countP λz=>decide (Way t z.1 x)
theorem Ox (hV:VT t) {x y:bf} (h:Way t x y):K2 t x<K2 t y:=by
 classical
 refine Dm (λz _ u=>?_) ?_
 .have u:Way t z.1 x:=by grind
  simpa using u.trans h
 obtain⟨e,w⟩:=h.l;exact⟨(x,e),w,by simpa using λk=>hV.ok.acyc ⟨x,k⟩,by grind⟩
theorem Y3 (x:bf):K2 t x<=(bO t).length:=by
 classical
 unfold K2;grind
theorem Vd.of{p k:Nat}{e:WF}(h:mP t p k e):Vd t ⟨p,k+1⟩:=⟨e,dY.2 ⟨p,k,h,Y⟩⟩
theorem M8{p:Nat}{P:bT}(B:t.b?.l[p]?=M P):∀(d k:Nat),k+d+1<W P.c?.l->Way t ⟨p,k+1⟩ ⟨p,((k+d+1:Nat):Int)+1⟩
 |0,k,h=>.single ⟨Vd.of ⟨P,B,ζd a?⟩,Vd.of ⟨P,B,ζd h⟩,.inl f?⟩|d+1,k,h=>(M8 B d k a?).tail ⟨Vd.of ⟨P,B,ζd (show k+d+1<_ by omega)⟩,Vd.of ⟨P,B,ζd h⟩,.inl (by simp;omega)⟩
theorem abU{q k:Nat}{b:Int}{Q:bT}{x:bf}(B:t.b?.l[q]?=M Q)(h:Way t x ⟨q,k+1⟩)(a:(k:Int)<b)(D:b<=W Q.c?.l):Way t x ⟨q,b⟩:=by by_cases e:b=k+1;grind;have:=M8 B (b.toNat-k-2) k a?;rw[show((k+(b.toNat-k-2)+1:Nat)+1)=b from a?]at this;exact h.trans this
theorem Cons.Oc(f:VT t)(g:fm t (bO t) A)(d:Cons t A c){p:Nat}{a:Int}(D:c[p]?=M a)(m:0<a):Cons t A (c.set p (a-1))\/∃(q:Nat)(b:Int),c[q]?=M b/\0<b/\Way t ⟨p,a⟩ ⟨q,b⟩:=by
 have Y:=(ζe.1 D).1;have L:=ζd (show p<_m t.b?.l by rw[<-d.1.1];omega);have n:=d.1.2 p a _ D L;refine R? λB=>B (.inl ⟨d.1.set L a? a?,λq k e x u I o a__=>?_⟩);obtain⟨z,w,Z⟩:∃z,c[q]?=M z/\x<=z:=by rw[D?]at I;split at I;(next e2=>subst e2;simp[Y]at I;exact⟨a,D,a?⟩);grind
 have⟨y,G,C⟩:=d.2 q k e z u w a? a__;have⟨r,j,h,s,i,_⟩:=BI f g u a__;rw[h]at G C⊢;simp only[n!]at G C⊢;by_cases e2:p=r;subst e2;rw[D]at G;cases G;refine⟨a-1,o?,?_⟩;refine R? λv=>B (.inr ⟨q,z,w,a?,?_⟩);have:a=j+1:=a?;subst this;have⟨Q,S,_⟩:=u;have F:=d.1.2 q z Q w S;have⟨T,P,W,X,l⟩:=i;exact abU S (.single ⟨⟨T,W⟩,⟨P,X⟩,.inr ⟨T,P,W,X,l⟩⟩) a? F.2;simp_all
theorem Cons.acz(d:VT t)(e:fm t (bO t) A)(f:Cons t A c):∀(n p:Nat)(a:Int),c[p]?=M a->0<a->W (bO t)-K2 t ⟨p,a⟩<=n->∃(q:Nat)(b:Int),c[q]?=M b/\0<b/\Cons t A (c.set q (b-1)):=by
 intro n
 induction n with
 |zero=>intro p a u w C;rcases f.Oc d e u w with h|⟨q,b,_,_,z⟩;grind;have:=Ox d z;have:=Y3 (t:=t) ⟨q,b⟩;omega
 |succ n D=>intro p a u w C;rcases f.Oc d e u w with h|⟨q,b,G,B,z⟩;grind;have:=Ox d z;exact D q b G B a?
theorem Cons.down(e:VT t)(f:fm t (bO t) A)(d:Cons t A c)(B:0<c.sum):∃(q:Nat)(b:Int),c[q]?=M b/\0<b/\Cons t A (c.set q (b-1)):=by
 obtain⟨p,a,u,z⟩:∃(p:Nat)(a:Int),c[p]?=M a/\0<a:=by refine R? λw=>?_;have D:∀a∈c,a=0:=λa u=>(by have⟨p,C⟩:=List.mem_iff_getElem?.1 u;have:=d.1.pos p a C;grind);have:c.sum=0:=(by clear d B w;induction c with|nil=>rfl|cons x c G=>simp_all);omega
 exact d.acz e f _ p a u z (x? _)
theorem Cons.JK(a:VT t)(e:fm t (bO t) A):∀(d:Nat){c:Rd}{k:Nat},Cons t A c->c.sum=((k+d:Nat):Int)->∃c',Cons t A c'/\c'.sum=(k:Int)
 |0,c,k,hC,D=>⟨c,hC,g?⟩|d+1,c,k,hC,D=>by have⟨q,b,G,g,B⟩:=hC.down a e a?;exact Cons.JK a e d B (by rw[wz G];omega)
end
theorem fN{α:Type}{s:Sl α}{n:Nat}(h:n<W s.l):_s ((n:Int)<len s)=U:=by simp[len];omega
theorem gA{α:Type}{s:Sl α}:_s ((W s.l:Int)<len s)=O:=by simp[len]
theorem DP{α:Type}{s x:Sl α}(h:W s.l+W x.l<=2147483648):∃r,qh s x=M r/\r.l=s.l++x.l:=by unfold qh;by_cases e:x.l=[];rw[L' e];exact⟨s,Y,by rw[e,List.append_nil]⟩;rw[M' e,L' h];exact⟨_,Y,Y⟩
theorem oE{α:Type}{s:Sl α}{x:α}(h:W s.l<2147483648):∃r,eH s x=M r/\r.l=s.l++[x]:=by unfold eH;rw[L' a?];exact⟨_,Y,Y⟩
theorem nX{α:Type}{s:Sl α}{p:Nat}(h:p<W s.l):Sl.iE s (p:Int)=M p:=by unfold Sl.iE;rw[L' ⟨a?,by simpa using h⟩];rfl
theorem put_eq{α:Type}{s:Sl α}{p:Nat}{x:α}(h:p<W s.l):∃r,Sl.put s p x=M r/\r.l=s.l.set p x:=by unfold Sl.put;rw[L' h];exact⟨_,Y,by cases s<;>first|rfl|(simp[Sl.l]at h)⟩
section
variable{t:Z4}{A:cn 200 bC}
def ClN(t:Z4)(A:cn 200 bC)(c:Rd)(n:Nat):Prop:=∀(p k:Nat)(e:WF)(a:Int),p<n->mP t p k e->c[p]?=M a->(k:Int)<a->e.kind=3->∃b,c[(ag A e.d?).from_.proc.toNat]?=M b/\(ag A e.d?).from_.index<=b
theorem aay(i:Small t)(d:VT t)(l:fm t (bO t) A){c:Zg}(Y:qm t c.l):Wp (eF t c) λb=>(b=U↔nK t A c.l):=by
 have F:=Y.1;have H:=d.few;unfold eF eF.W1;refine eB (_m c.l) (λn s=>s=(n:Int)/\ClN t A c.l n) ⟨_l,λp k e a h=>_e h a?⟩ ?_ ?_;rintro n _ B ⟨rfl,T⟩;unfold eF.bl;rw[fN B,bq];have z:n<_m t.b?.l:=by omega
 have K:=(i.2 _ (t? z)).1;have C:=ζd z;have D:=ζd B;have⟨r1,r2⟩:=Y.2 n _ _ D C;have b__:=bA B;generalize c.l[n]=a at *;generalize t.b?.l[n]=P at *;unfold eF.W2;refine eB a.toNat (λm s=>s=(m:Int)/\∀(k:Nat)(e:WF),k<m->mP t n k e->e.kind=3->∃b,c.l[(ag A e.d?).from_.proc.toNat]?=M b/\(ag A e.d?).from_.index<=b) ⟨_l,λk e h=>_e h a?⟩ ?_ ?_;rintro m _ a__ ⟨rfl,c__⟩;unfold eF.bK;have L:m<_m P.c?.l:=by omega
 have u:mP t n m P.c?.l[m]:=⟨P,C,ζd L⟩;rw[b__,ζb,show _s ((m:Int)<a)=U from by simp;omega,bq,gp,C,ζb,bA L,ζb,cq m a?];generalize P.c?.l[m]=e at *;have more:(e.kind=3->∃b,c.l[(ag A e.d?).from_.proc.toNat]?=M b/\(ag A e.d?).from_.index<=b)->∀(k:Nat)(e:WF),k<m+1->mP t n k e->e.kind=3->∃b,c.l[(ag A e.d?).from_.proc.toNat]?=M b/\(ag A e.d?).from_.index<=b:=λh k f o Z w=>by by_cases r:k=m;subst r;cases u.one Z;exact h w;exact c__ k f a? Z w
 rw[cm];refine⟨λw=>?_,λw=>(a_ _).2 ⟨_l,more λk=>by simp[k]at w⟩⟩;have w:e.kind=3:=by simpa using w
 have⟨q,j,g,_,_,y,Q,v,_⟩:=BI d l u w;have G:q<_m c.l:=by have:=(ζe.1 v).1;omega
 rw[find_eq i,Cu d l u w,ζb,g];simp only;rw[bA G,ζb,cm];refine⟨λW=>(a_ _).2 ((a_ _).2 ((a_ _).2 ⟨λh=>(by cases h),λE=>?_⟩)),λX=>(a_ _).2 ⟨_l,more λ_=>?_⟩⟩;have⟨b,d__,S⟩:=E n m e a u D a? w;rw[g]at d__ S;simp only[n!,ζd G,ζa]at d__ S;simp only[_g]at W;omega;rw[g];exact⟨c.l[q],by simp only[n!];exact ζd G,by simp at X⊢;omega⟩;rintro _ ⟨rfl,c__⟩;unfold eF.bK;rw[b__,ζb,show _s ((a.toNat:Int)<a)=O from by simp;omega,br];refine(a_ _).2 ((a_ _).2 ⟨cq n a?,λp k e x hp u I o w=>?_⟩);by_cases e2:p=n;subst e2;rw[D]at I;cases I;exact c__ k e a? u w;exact T p k e x a? u I o w;rintro _ ⟨rfl,T⟩;unfold eF.bl;rw[gA,br];exact(a_ _).2 ((a_ _).2 ⟨λ_ p k e a u I=>T p k e a (ζe.1 I).1 u I,λ_=>rfl⟩)
theorem acn(a:Small t)(d:VT t)(e:fm t (bO t) A){c:Zg}(B:W c.l=W t.b?.l):Wp (zP t c) λb=>(b=U↔Cons t A c.l):=by unfold zP;rw[eS];refine(YB a B).mono λb w=>?_;rw[eS,cm];constructor;intro h;have z:=w.1 h;rw[eS];refine(aay a d e z).mono λC u=>?_;rw[a_,a_];exact u.trans ⟨λh=>⟨z,h⟩,λh=>h.2⟩;intro h;rw[a_,a_];exact⟨λh=>(by cases h),λf=>_e (w.2 f.1) (by simp[h])⟩
theorem step_eq{c:Zg}{p:Nat}{a:Int}(B:c.l[p]?=M a)(G:W c.l<=1073741824)(g:0<=a)(b:a<1073741824):∃d:Zg,t_ c p=M d/\d.l=c.l.set p (a+1):=by have w:=(ζe.1 B).1;unfold t_;have⟨r,z,u⟩:=DP (s:=Sl.row []) (x:=c) (show 0+W c.l<=_ by omega);have u:r.l=c.l:=u;rw[z,ζb,nX (by rw[u];exact w),ζb];unfold Sl.get;rw[u,B,ζb,ζb,dV _ a? a?];have⟨d,C,D⟩:=put_eq (s:=r) (p:=p) (x:=a+1) (by rw[u];exact w);rw[C];exact⟨d,Y,by rw[D,u]⟩
end
def ins(s:Zb):aY Rd:=s.l.map Sl.l
theorem NF{α:Type}(s:Sl α)(i:Nat)(h:i<=W s.l):∃x,iK s (M (i:Int)) J=M x/\x.l=s.l.drop i:=by unfold iK eD;simp only[G!,getD_none];rw[L' ⟨a?,a?,a?⟩];exact⟨_,Y,by cases s<;>simp[Sl.l]⟩
def FE(t:Z4)(A:cn 200 bC)(c d:Rd):Prop:=∃(p:Nat)(a:Int),c[p]?=M a/\d=c.set p (a+1)/\Cons t A d
section
variable{t:Z4}{A:cn 200 bC}
theorem mF{s:Zb}{d:Rd}:d∈ins s↔∃x∈s.l,x.l=d:=by unfold ins;exact mem_map
theorem OR{r s:Zb}{x:Zg}(h:r.l=s.l++[x]){d:Rd}:d∈ins r↔d∈ins s\/d=x.l:=by unfold ins;rw[h];simp
theorem OM(f:Small t)(g:VT t)(j:fm t (bO t) A){c:Zg}(i:Cons t A c.l):Wp (jk t c) λr=>W r.l<=8/\∀d,d∈ins r↔FE t A c.l d:=by
 have m:=i.1.1;have T:=g.few;unfold jk jk.W1;refine eB (W c.l) (λn s=>s.2=(n:Int)/\s.1.l.length<=n/\∀d,d∈ins s.1↔∃(p:Nat)(a:Int),p<n/\c.l[p]?=M a/\d=c.l.set p (a+1)/\Cons t A d) ⟨Y,x? _,λd=>⟨λh=>by simp[ins,Sl.l]at h,λ⟨p,a,h,_⟩=>_e h a?⟩⟩ ?_ ?_;rintro n ⟨out,_⟩ B ⟨h,u,G⟩;simp only at h u G;subst h;have w:n<W t.b?.l:=by omega
 have o:=(f.2 _ (t? w)).1;have z:=ζd B;have l:=i.1.2 n _ _ z (ζd w);unfold jk.bl;rw[fN B,bq,bA B,ζb,bA w,ζb,cq n a?];generalize c.l[n]=a at *;have keep:¬Cons t A (c.l.set n (a+1))->∀d,d∈ins out↔∃(p:Nat)(a:Int),p<n+1/\c.l[p]?=M a/\d=c.l.set p (a+1)/\Cons t A d:=λL d=>by rw[G];refine⟨λ⟨p,b,h,k⟩=>⟨p,b,a?,k⟩,λ⟨p,b,h,k1,k2,k3⟩=>⟨p,b,?_,k1,k2,k3⟩⟩;refine R? λX=>L ?_;have:p=n:=a?;subst this;rw[z]at k1;cases k1;rw[<-k2];exact k3
 by_cases C:a<t.b?.l[n].c?.l.length;have⟨d,hd,D⟩:=step_eq (c:=c) z a? l.1 a?;rw[show _s (a<(len t.b?.l[n].c?))=U from by simpa[len]using C,bq,hd,ζb,eS,eS];refine(acn f g j (c:=d) (by rw[D,z6];exact m)).mono λb q=>?_;rw[D]at q;rw[a_,cm];constructor;intro y;have⟨r,Q,I⟩:=oE (s:=out) (x:=d) a?;rw[ζb,Q,ζb,a_];refine⟨Y,by rw[I];simp;omega,λe=>?_⟩;rw[OR I,G,D];constructor;rintro(⟨p,b,h,k⟩|h);exact⟨p,b,a?,k⟩;exact⟨n,a,a?,z,h,by rw[h];exact q.1 y⟩;rintro⟨p,b,h,k1,k2,k3⟩;by_cases e2:p=n;subst e2;rw[z]at k1;cases k1;exact .inr k2;exact .inl ⟨p,b,a?,k1,k2,k3⟩;intro S;exact(a_ _).2 ⟨Y,Nat.le_succ_of_le u,keep λh=>by rw[q.2 h]at S;cases S⟩;rw[show _s (a<(len t.b?.l[n].c?))=O from by simpa[len]using C,br,ζb,br,a_];refine⟨Y,Nat.le_succ_of_le u,keep λh=>?_⟩;have:=h.1.2 n (a+1) _ (by simp[D?,B]) (ζd w);omega;rintro⟨out,_⟩ ⟨h,u,G⟩;simp only at h u G;subst h;unfold jk.bl;rw[gA,br,a_];refine(a_ _).2 ⟨show W out.l<=8 by omega,λd=>(G d).trans ⟨λ⟨p,a,_,h⟩=>⟨p,a,h⟩,λ⟨p,a,h⟩=>⟨p,a,(ζe.1 h.1).1,h⟩⟩⟩
def B7(t:Z4)(A:cn 200 bC)(k:Nat)(s:Zb):Prop:=∀d,d∈ins s↔Cons t A d/\d.sum=(k:Int)
theorem FE.iff(g:VT t)(h:fm t (bO t) A){k:Nat}{d:Rd}:(∃c,(Cons t A c/\c.sum=(k:Int))/\FE t A c d)↔Cons t A d/\d.sum=((k+1:Nat):Int):=by
 constructor;rintro⟨c,⟨f,B⟩,p,a,C,rfl,u⟩;exact⟨u,by rw[wz C];omega⟩;rintro⟨u,B⟩;have⟨q,b,w,D,f⟩:=u.down g h a?;have z:=(ζe.1 w).1;refine⟨_,⟨f,by rw[wz w];omega⟩,q,b-1,by simp[z],?_,u⟩;rw[List.set_set,show b-1+1=b from a?];refine Y! λi=>?_;rw[D?];split;next e=>subst e;simp[z,w];exact(ζe.1 w).2.symm▸rfl
 rfl
theorem BH{s:Zb}{n:Nat}(h:n<W s.l){d:Rd}:d∈(s.l.take (n+1)).map Sl.l↔d∈(s.l.take n).map Sl.l\/d=s.l[n].l:=by rw[show s.l.take (n+1)=s.l.take n++[s.l[n]]from by rw[P?,ζd h];rfl];simp only[w!,J!,K?,X!,g!]
theorem N_:∀n:Nat,(replicate n (0:Int)).sum=0
 |0=>rfl|n+1=>by rw[List.replicate_succ,E!,N_ n];rfl
theorem G6:Cons t A (replicate (W t.b?.l) 0):=by
 have w:∀(p:Nat)a,(replicate (W t.b?.l) (0:Int))[p]?=M a->a=0:=λp a h=>by rw[t!]at h;split at h<;>cases h;rfl
 exact⟨⟨f?,λp a P u _=>by rw[w p a u];omega⟩,λp k e a _ u b=>by rw[w p a u]at b;omega⟩
theorem Qk{z:Zg}(B:z.l=replicate (W t.b?.l) 0):B7 t A 0 (Sl.row [z]):=by
 intro d;have:d∈ins (Sl.row [z])↔d=replicate (W t.b?.l) 0:=by unfold ins;rw[<-B];exact g!
 rw[this];constructor;rintro rfl;exact⟨G6,by rw[N_];rfl⟩;rintro⟨a,u⟩;refine Y! λi=>?_;rw[t!,<-a.1.1];split;next hi=>have h:=ζd hi;rw[h,K8 a.1.pos (by simpa using u) i _ h]
 exact F! a?
theorem B7.none(a:VT t)(b:fm t (bO t) A){k:Nat}{s:Zb}(h:B7 t A k s)(D:W s.l=0){d:Rd}(B:Cons t A d):d.sum<(k:Int):=by refine R? λu=>?_;have C:=s_ B.1.pos;have⟨c,e,w⟩:=Cons.JK a b (d.sum.toNat-k) (k:=k) B a?;have:=(h c).2 ⟨e,w⟩;have⟨x,z,_⟩:=mF.1 this;have:=List.length_pos_of_mem z;omega
theorem B7.last{s:Zb}(h:B7 t A (uP t+1) s):W s.l=0:=by refine R? λu=>?_;have w:=t? (show 0<W s.l by omega);have:=(h s.l[0].l).1 (mF.2 ⟨_,w,Y⟩);have:=this.1.1.sum;omega
theorem GS{α:Type}(s:Sl α):_s ((len s)>0)= !_s (W s.l=0):=by by_cases h:W s.l=0;simp[len,h];simp[h,len];omega
end
def hG:Rd->Rd->Int
 |[],[]=>0|[],_::_=>-1|_::_,[]=>1|x::a,y::b=>if x<y then -1 else if x>y then 1 else hG a b
theorem Ab:∀a,hG a a=0
 |[]=>rfl|x::a=>by simp[hG,Ab a]
theorem DU:∀a b c,hG a b<0->hG b c<0->hG a c<0
 |[],[],_,h,_=>by simp[hG]at h|[],_::_,[],_,h=>by simp[hG]at h|[],_::_,_::_,_,_=>by simp[hG]|_::_,[],_,h,_=>by simp[hG]at h|_::_,_::_,[],_,h=>by simp[hG]at h|x::a,y::b,z::c,h1,B=>by have D:=DU a b c;simp only[hG]at h1 B⊢;split at h1;split at B;rw[L' a?];omega;split at B;omega;rw[L' a?];omega;split at h1;omega;split at B;rw[L' a?];omega;split at B;omega;rw[M' a?,M' a?];exact D h1 B
theorem AR:∀a b,¬hG a b<0->¬hG b a<0->a=b
 |[],[],_,_=>rfl|[],_::_,h,_=>by simp[hG]at h|_::_,[],_,h=>by simp[hG]at h|x::a,y::b,h1,B=>by have D:=AR a b;simp only[hG]at h1 B;split at h1;omega;split at B;omega;rw[D (by first|assumption|(split at h1<;>first|assumption|omega)) (by first|assumption|(split at B<;>first|assumption|omega)),show x=y from a?]
theorem V8(a b c:Rd)(d:¬hG a b<0)(B:¬hG b c<0):¬hG a c<0:=λh=>by by_cases u:hG b a<0;exact B (DU b a c u h);rw[AR a b d u]at h;exact B h
theorem Ur{α:Type}{s:Sl α}{p:α->α->Ps}{f:α->Rd}(hp:∀x y,x∈s.l->y∈s.l->p x y=M (hG (f x) (f y)))(T:W s.l<2147483648):∃r,Bs s p=M r/\r.l.Perm s.l/\r.l.Pairwise λx y=>¬hG (f y) (f x)<0:=by
 unfold Bs;split;next h=>exact⟨s,Y,List.Perm.refl _,by rw[h];exact Pairwise.nil⟩
 rename_i x l h;rw[L' (by rw[h]at T;simp at T;omega)];simp only;have S:∀i j:_root_.Fin (W l+1),p (x::l)[i.1] (x::l)[j.1]=M (hG (f (x::l)[i.1]) (f (x::l)[j.1])):=λi j=>hp _ _ (by rw[h];exact t? _) (by rw[h];exact t? _);have C:(sy λi j:_root_.Fin (W l+1)=>p (x::l)[i.1] (x::l)[j.1])=λi j=>_s (hG (f (x::l)[i.1]) (f (x::l)[j.1])<0):=by funext i j;unfold sy;show _s ((p _ _).getD 0<0)=_;rw[S];rfl
 have D:DH (λi j:_root_.Fin (W l+1)=>p (x::l)[i.1] (x::l)[j.1])=U:=by have u:∀i j,sy (λi j:_root_.Fin (W l+1)=>p (x::l)[i.1] (x::l)[j.1]) i j=_s (hG (f (x::l)[i.1]) (f (x::l)[j.1])<0):=λi j=>(by rw[C]);refine all_eq_true.2 λi _=>Bool.and_eq_true_iff.2 ⟨by rw[u,Ab];rfl,all_eq_true.2 λj _=>Bool.and_eq_true_iff.2 ⟨by show(p _ _).isSome=U;rw[S];rfl,all_eq_true.2 λk _=>Bool.and_eq_true_iff.2 ⟨?_,?_⟩⟩⟩;have:=DU (f (x::l)[i.1]) (f (x::l)[j.1]) (f (x::l)[k.1]);rw[u,u,u];simp only[p!,Z?,Bool.and_eq_false_iff,_g,_h];omega;have:=V8 (f (x::l)[i.1]) (f (x::l)[j.1]) (f (x::l)[k.1]);rw[u,u,u];simp only[p!,Z?,_g,_h];omega
 rw[L' D];have G:=(tf D).2;have g:=Sort.pdq_sorts _ G (V! (W l+1)).toArray 0 (W l+1) (Lib.bitLen (W l+1)) U U (N? _) f? (Or.inl Y);rw[<-FD]at g;generalize tj (W l) _=d at g;have⟨⟨z,_,w⟩,B⟩:=g;have z:d.size=W l+1:=by simpa using z
 have I:∀y:aY α,(s.re y).l=y:=λy=>by cases s<;>first|rfl|(simp[Sl.l]at h)
 refine⟨_,Y,?_,?_⟩;rw[I,h];have a:d.extract 0 (W l+1)=d:=Array.ext (by simp[z]) λi a L=>by simp
 rw[a]at w;have L:((V! (W l+1)).toArray.extract 0 (W l+1)).toList=V! (W l+1):=by simp[a!]
 rw[L]at w;refine(w.map _).trans ?_;rw[show(V! (W l+1)).map (λi=>(x::l)[i.1])=x::l from ?_];exact List.ext_getElem f? λi a L=>f?;rw[I,d9,List.pairwise_iff_getElem];intro i j hi m Q;have:=B i j (N? _) Q (by simpa[z]using m);rw[C]at this;simp only[Array.length_toList]at hi m;simp only[getElem!_pos d i hi,getElem!_pos d j m,_h]at this;simpa using this
def Iu(c:Rd):Rd:=c.sum::c
def IX(c:Rd):Prop:=W c<=8/\∀x∈c,0<=x/\x<1073741824
theorem Vg{c:Rd}(h:IX c)(i:Nat):0<=(c.take i).sum/\(c.take i).sum<=8589934592:=by
 have key:∀(l:Rd),(∀x∈l,0<=x/\x<1073741824)->0<=l.sum/\l.sum<=1073741824*(W l:Int):=by intro l;induction l with|nil=>intro _;simp|cons x l u=>intro h;have a:=h x f?;have w:=u λy z=>h y (B? _ z);simp only[E!,W?];omega
 have a:=key (c.take i) λx B=>h.2 x (O? B);have w:W (c.take i)<=8:=by rw[l!];have:=h.1;omega
 omega
theorem M_{c:Rd}{i:Nat}(hi:i<W c):(c.take (i+1)).sum=(c.take i).sum+c[i]:=by rw[List.take_succ_eq_append_getElem hi,List.sum_append];simp
theorem S4{a b:Rd}{i:Nat}(B:i<W a)(D:i<W b):hG (a.drop i) (b.drop i)=if a[i]<b[i]then -1 else if a[i]>b[i]then 1 else hG (a.drop (i+1)) (b.drop (i+1)):=by rw[U? B,U? D];rfl
def fD(x y:Rd):Prop:=hG (Iu x) (Iu y)<0
instance(x y:Rd):Decidable (fD x y):=by unfold fD;exact inferInstance
theorem fD.LS(x:Rd):¬fD x x:=by unfold fD;rw[Ab];omega
theorem fD.tr{x y z:Rd}(h:fD x y)(k:fD y z):fD x z:=DU _ _ _ h k
theorem fD.tot{x y:Rd}(h:¬fD x y)(k:¬fD y x):x=y:=by have:=AR _ _ h k;unfold Iu at this;exact(List.cons.inj this).2
theorem fD.sum{x y:Rd}(h:x.sum<y.sum):fD x y:=by unfold fD Iu;simp[hG,h]
theorem Gz:∀{l r:aY (aY Int)},l.Pairwise fD->r.Pairwise fD->(∀x,x∈l↔x∈r)->l=r
 | [],[],_,_,_=>rfl
 | [],y::r,_,_,h=>by have:=(h y).2 f?;simp at this
 | x::l,[],_,_,h=>by have:=(h x).1 f?;simp at this
 | x::l,y::r,C,hr,h=>by
  have e:x=y:=by
   rcases List.mem_cons.1 ((h x).1 f?)with e|e
   .exact e
   rcases List.mem_cons.1 ((h y).2 f?)with k|k
   .exact k.symm
   exact _e (((List.pairwise_cons.1 hr).1 x e).tr ((List.pairwise_cons.1 C).1 y k)) (fD.LS y)
  subst e
  congr 1
  have u:=List.pairwise_cons.1 C;have w:=List.pairwise_cons.1 hr;refine Gz u.2 w.2 λz=>⟨λB=>?_,λB=>?_⟩
  .rcases List.mem_cons.1 ((h z).1 (List.mem_cons_of_mem _ B))with e|e
   .exact _e (e▸u.1 z B) (fD.LS x)
   exact e
  rcases List.mem_cons.1 ((h z).2 (List.mem_cons_of_mem _ B))with e|e
  .exact _e (e▸w.1 z B) (fD.LS x)
  exact e
theorem N3{t:Z4}{A:cn 200 bC}(b:Small t)(d:VT t){c:Rd}(a:Cons t A c):IX c:=by
 refine⟨a.1.1▸d.few,λx z=>?_⟩;have⟨p,w,e⟩:=mem_iff_getElem.1 z;have u:p<W t.b?.l:=by rw[<-a.1.1];exact w
 have:=a.1.2 p x _ (by rw[ζd w,e]) (ζd u);have k:=(b.2 _ (t? u)).1;omega
theorem fD.Lo{x y:Rd}(h:x.sum=y.sum):fD x y↔hG x y<0:=by unfold fD Iu;simp only[hG,M' (show¬x.sum<y.sum by omega),M' (show¬x.sum>y.sum by omega)]
theorem fD.nodup{L:aY Rd}(h:L.Pairwise fD):L.Nodup:=h.imp λ{x y}(h:fD x y)(e:x=y)=>fD.LS y (by rw[e]at h;exact h)
theorem Qs {L:aY (aY Int)} {c:aY Int} {j:Nat} (h:L.Pairwise fD) (h1:∀(i:Nat) x,i<j->L[i]? = some x->fD x c) (D:∀x,L[j]? = some x->fD c x) :
 (L.take j++[c]++L.drop j).Pairwise fD/\∀x,x∈L.take j++[c]++L.drop j↔x∈L\/x=c:=by
 have w:∀x∈L.take j,fD x c:=λx hx=>by
  obtain⟨k,hk,e⟩:=List.mem_iff_getElem.1 hx;rw[List.length_take]at hk;rw[List.getElem_take]at e;exact h1 k x a? (by rw[ζd a?,e])
 have u:∀x∈L.drop j,fD c x:=λx hx=>by
  obtain⟨k,hk,e⟩:=List.mem_iff_getElem.1 hx;rw[List.length_drop]at hk;rw[List.getElem_drop]at e;have B:j<L.length:=by omega
  have k0:=D _ (ζd B)
  by_cases e0:k=0
  .subst e0;simp only[Nat.add_zero]at e;rw[<-e];exact k0
  rw[<-e];exact k0.tr (List.pairwise_iff_getElem.1 h j (j+k) B a? a?)
 refine⟨List.pairwise_append.2 ⟨List.pairwise_append.2 ⟨h.sublist (List.take_sublist _ _),List.pairwise_singleton _ _,λx hx y z=>?_⟩,h.sublist (List.drop_sublist _ _),λx hx y z=>?_⟩,λx=>?_⟩
 .rw[List.mem_singleton.1 z];exact w x hx
 .rcases List.mem_append.1 hx with hx|hx
  .exact(w x hx).tr (u y z)
  rw[List.mem_singleton.1 hx];exact u y z
 conv=>rhs;rw[<-List.take_append_drop j L]
 simp only[List.mem_append,List.mem_singleton];constructor
 .rintro ((h|h)|h) <;> simp[h]
 rintro ((h|h)|h) <;> simp[h]
theorem Ue{α:Type}{s:Sl α}{p:α->α->aX X'}{f:α->Rd}(hp:∀x y,x∈s.l->y∈s.l->p x y=M (_s (f x=f y)))(g:W s.l<2147483648)(P:s.l.Pairwise λx y=>¬hG (f y) (f x)<0):
 ∃r,AF s p=M r/\(r.l.map f).Nodup/\(∀d,d∈r.l.map f↔d∈s.l.map f)/\W r.l<=W s.l:=by
 have Q:∀i,i<W s.l->0<i->∃(a:i<W s.l)(q:i-1<W s.l),vX s.l p i=M (_s (f s.l[i]=f s.l[i-1])):=λi h k=>by refine⟨h,a?,?_⟩;unfold vX;rw[ζd h,ζd (show i-1<W s.l by omega)];exact hp _ _ (t? _) (t? _)
 unfold AF;rw[L' ⟨a?,all_eq_true.2 λi hi=>by
  by_cases h:i=0
  .subst h;rfl
  have⟨_,_,e⟩:=Q i (mem_range.1 hi) a?
  rw[e];simp⟩]
 have B:∀y:aY α,(s.l=[]->y=[])->(s.vM y).l=y:=λy z=>by cases s<;>first|rfl|exact(z Y).symm
 have S:∀i,i∈kept (λi=>(vX s.l p i).getD O) (W s.l)↔i<W s.l/\(i=0\/(vX s.l p i).getD O=O):=λi=>by unfold kept;simp[List.mem_filter]
 have C:=DW (λi=>(vX s.l p i).getD O) (W s.l)
 have T:(kept (λi=>(vX s.l p i).getD O) (W s.l)).Pairwise (·<·):=by unfold kept;exact List.pairwise_lt_range.filter _
 generalize kept (λi=>(vX s.l p i).getD O) (W s.l)=K at *
 have w:(s.vM (K.filterMap (s.l[·]?))).l=K.filterMap (s.l[·]?):=B _ λh=>by rw[h];simp
 refine⟨_,Y,?_,λd=>?_,?_⟩
 .rw[w,Nodup,d9,List.pairwise_filterMap];refine T.imp_of_mem ?_;intro i j hi Z l x u y z D;have⟨o,G⟩:=(S j).1 Z;have⟨a,q,e⟩:=Q j o a?
  rw[e]at G;have F:¬f s.l[j]=f s.l[j-1]:=by rcases G with h|h;omega;simpa using h
  rw[ζd a]at z;cases z;have I:i<W s.l:=a?
  rw[ζd I]at u;cases u;have m:=List.pairwise_iff_getElem.1 P;have a1:=m (j-1) j q a a?
  refine F (AR _ _ a1 ?_)
  by_cases e2:i=j-1
  .subst e2;rw[<-D,Ab];omega
  have a2:=m i (j-1) I q a?
  rw[D]at a2;exact a2
 .rw[w];simp only[mem_map,List.mem_filterMap];constructor
  .rintro⟨x,⟨i,_,u⟩,rfl⟩;exact⟨x,s? u,Y⟩
  rintro⟨x,u,rfl⟩;have⟨i,hi⟩:=List.mem_iff_getElem?.1 u;have key:∀(i:Nat)x,s.l[i]?=M x->∃y,(∃j,j∈K/\s.l[j]?=M y)/\f y=f x:=by intro i;induction i with|zero=>intro x u;exact⟨x,⟨0,(S 0).2 ⟨(ζe.1 u).1,.inl rfl⟩,u⟩,rfl⟩|succ i ih=>intro x u;have L:=(ζe.1 u).1;have⟨a,q,e⟩:=Q (i+1) L a?;have X:s.l[i+1]=x:=(ζe.1 u).2;by_cases b:f s.l[i+1]=f s.l[i+1-1];have⟨y,z,c⟩:=ih _ (ζd (show i<W s.l by omega));exact⟨y,z,by rw[c,<-X];exact b.symm⟩;exact⟨x,⟨i+1,(S _).2 ⟨L,.inr (by rw[e];simpa using b)⟩,u⟩,Y⟩
  exact key i x hi
 rw[w];exact Nat.le_trans (List.length_filterMap_le ..) C
theorem P8{a b:Zg}(d:W a.l<1073741824):lG a b=M (hG a.l b.l):=by
 refine Wp.eq ?_;unfold lG gu gu.W1;rw[eS];refine eB (W a.l) (λn s=>s=(n:Int)/\n<=W b.l/\hG (a.l.drop n) (b.l.drop n)=hG a.l b.l) ⟨Y,N? _,Y⟩ ?_ ?_;rintro n _ w ⟨rfl,C,u⟩;unfold gu.bl;rw[fN w,bq,bA w,ζb];have hd:a.l.drop n=a.l[n]::a.l.drop (n+1):=U? w;by_cases D:n<W b.l;have G:b.l.drop n=b.l[n]::b.l.drop (n+1):=U? D;rw[show _s ((n:Int)>=len b)=O from by simp[len];omega,br,bA D,ζb];rw[hd,G]at u;simp only[hG]at u;generalize a.l[n]=x at *;generalize b.l[n]=y at *;have z:sE x y=M (if x<y then -1 else if x>y then 1 else 0):=by unfold sE uo;simp only[bne_self_eq_false,ζb,br,bq];by_cases c:x<y;simp[c,bh];by_cases B:x>y;simp[c,B,bh];simp[c,B,bh]
 rw[z,ζb];by_cases c:x<y;rw[L' c]at u⊢;rw[show((-1:Int)==0)=O from Y,br,a_];exact(a_ _).2 ((a_ _).2 u);rw[M' c]at u⊢;by_cases B:x>y;rw[L' B]at u⊢;rw[show((1:Int)==0)=O from Y,br,a_];exact(a_ _).2 ((a_ _).2 u);rw[M' B]at u⊢;rw[show((0:Int)==0)=U from Y,bq,a_];exact⟨cq n a?,D,u⟩;rw[show _s ((n:Int)>=len b)=U from by simp[len];omega,bq,a_];rw[hd,List.drop_eq_nil_of_le (show W b.l<=n by omega)]at u;exact(a_ _).2 ((a_ _).2 u);rintro _ ⟨rfl,C,u⟩;unfold gu.bl;rw[gA,br,a_];rw[List.drop_eq_nil_of_le (x? _)]at u;by_cases h:W a.l<W b.l;rw[show _s (len a<len b)=U from by simp[len];omega,bq];rw[U? h]at u;exact(a_ _).2 ((a_ _).2 u);rw[show _s (len a<len b)=O from by simp[len];omega,br];rw[List.drop_eq_nil_of_le (show W b.l<=W a.l by omega)]at u;exact(a_ _).2 ((a_ _).2 u)
theorem LZ{a b:Zg}(D:W a.l<1073741824):fW a b=M (_s (a.l=b.l)):=by
 refine Wp.eq ?_;unfold fW;rw[cm];refine⟨λh=>?_,λh=>(a_ _).2 ?_⟩;have h:(W a.l:Int)=W b.l:=by simpa[len]using h
 have h:W a.l=W b.l:=a?;unfold fW.W1;refine eB (W a.l) (λn s=>s=(n:Int)/\∀i,i<n->a.l[i]?=b.l[i]?) ⟨Y,λi h=>_e h a?⟩ ?_ ?_;rintro n _ u ⟨rfl,z⟩;unfold fW.bl;have B:n<W b.l:=by omega
 rw[show _s ((n:Int)<len a)=U from fN u,bq,bA u,ζb,bA B,ζb,cm];refine⟨λw=>(a_ _).2 ⟨cq n a?,λi hi=>?_⟩,λw=>(a_ _).2 ((a_ _).2 ?_)⟩;by_cases e:i=n;subst e;rw[ζd u,ζd B];simpa using w;exact z i a?;refine(_b λe=>?_).symm;have c:a.l[n]?=b.l[n]?:=by rw[e]
 rw[ζd u,ζd B]at c;simp at w c;exact w c;rintro _ ⟨rfl,z⟩;unfold fW.bl;rw[gA,br,a_];refine(a_ _).2 (_c (Y! λi=>?_)).symm;by_cases hi:i<W a.l;exact z i hi;rw[F! a?,F! a?];refine(_b λe=>?_).symm;simp[len,e]at h
section
variable{t:Z4}{A:cn 200 bC}
def xM(A:cn 200 bC)(e:WF):bf:=if e.kind=3 then(ag A e.d?).from_ else⟨0,0⟩
structure Xy(t:Trace)(A:cn 200 bC)(n:Nat)(m:cG):Prop where
 lens:m.lengths.l=(t.b?.l.take n).map λP=>(P.c?.l.length:Int)
 need:m.need.l.map Sl.l=(t.b?.l.take n).map λP=>P.c?.l.map (xM A)
theorem of_wp(d:Small t)(h:cu t=M U)(f:VT t)(g:fm t (bO t) A):Wp (mE t) (Xy t A t.b?.l.length):=by
 have Y:=f.few;unfold mE mE.W1;refine eB t.b?.l.length (λn s=>s.1=(n:Int)/\s.2.1=t/\Xy t A n s.2.2.2) ⟨rfl,rfl,rfl,rfl⟩ ?_ ?_;rintro n ⟨_,_,Z,I⟩ z ⟨a,B,u⟩;simp only at a B u;subst a;have B:=B.symm;subst B;unfold mE.bl;rw[fN z,bq,bA z,ζb];have d__:=ζd z;have H:=(d.2 _ (t? z)).1;generalize K:t.b?.l[n]=P at *;unfold mE.W2;refine eB P.c?.l.length (λk s=>s.2.1=(k:Int)/\s.2.2.1=t/\s.2.2.2.2=I/\s.1.l=(P.c?.l.take k).map (xM A)) ⟨rfl,rfl,rfl,rfl⟩ ?_ ?_;rintro k ⟨nd,_,_,T,_⟩ c ⟨Q,C,D,L⟩;simp only at Q C D L;subst Q;have C:=C.symm;have D:=D.symm;subst C D;unfold mE.bK;rw[fN c,bq,bA c,ζb];have c__:mP t n k P.c?.l[k]:=⟨P,d__,ζd c⟩;have G:P.c?.l.take (k+1)=P.c?.l.take k++[P.c?.l[k]]:=by rw[P?,ζd c];rfl
 generalize P.c?.l[k]=e at *;have fin:∀id,id=xM A e->Wp (mE.J3 nd t.b? (len t.b?) n P.c? (len P.c?) k t ⟨Sl.nil,Sl.nil⟩ I P id) λw=>match w with|.n S=>S.2.1=((k+1:Nat):Int)/\S.2.2.1=t/\S.2.2.2.2=I/\S.1.l=(P.c?.l.take (k+1)).map (xM A)|.x e=>False|.r b=>False:=λid W=>by unfold mE.J3;have⟨r,i,l⟩:=oE (s:=nd) (x:=id) (by rw[L];simp;omega);rw[i,ζb,a_];exact⟨cq k a?,rfl,rfl,by rw[l,L,G,w!,W];rfl⟩
 rw[cm];constructor;intro u;have u:e.kind=3:=by simpa using u
 have⟨q,j,y,m,o,p,y3,y4,y5⟩:=zz f g c__ u;have X:=CB d h g (dY.2 ⟨q,j,m,rfl⟩:((⟨q,j+1⟩:bf),y)∈bO t) o;simp only at X;rw[p]at X;rw[X,ζb];refine(fin _ (by unfold xM;rw[L' u,y5])).mono λw b__=>?_;cases w with|n s=>exact b__|x e=>exact b__.elim|r b=>exact b__.elim
 intro u;have u:¬e.kind=3:=by simpa using u
 refine(fin _ (by unfold xM;rw[M' u])).mono λw b__=>?_;cases w with|n s=>exact b__|x e=>exact b__.elim|r b=>exact b__.elim
 rintro⟨nd,_,_,T,_⟩ ⟨Q,C,D,L⟩;simp only at Q C D L;subst Q;have C:=C.symm;have D:=D.symm;subst C D;unfold mE.bK;have a__:I.lengths.l.length=n:=by rw[u.lens];simp;omega
 have e__:I.need.l.length=n:=by have:=_f List.length u.need;simp at this;omega
 have⟨v,a1,a2⟩:=oE (s:=I.lengths) (x:=len P.c?) a?;have⟨x2,E,F⟩:=oE (s:=I.need) (x:=nd) a?;rw[gA,br,a_];simp only;rw[a1,ζb,E,ζb,a_];have G:t.b?.l.take (n+1)=t.b?.l.take n++[P]:=by rw[P?,d__];rfl
 refine⟨cq n a?,rfl,?_,?_⟩;show v.l=_;rw[a2,u.lens,G,w!];rfl;show x2.l.map Sl.l=_;rw[F,w!,u.need,G,w!,K?,L,I?];rfl;rintro⟨_,_,Z,I⟩ ⟨a,B,u⟩;simp only at a B u;subst a;have B:=B.symm;subst B;unfold mE.bl;rw[gA,br,a_];exact(a_ _).2 u
theorem Wm(f:VT t)(g:fm t (bO t) A){m:cG}(n:Xy t A (_m t.b?.l) m){c:Zg}(d:Cons t A c.l){p:Nat}(hp:p<_m t.b?.l):
 Wp (rD m c p) λb=>(b=U↔∃a,c.l[p]?=M a/\Cons t A (c.l.set p (a+1))):=by
 have V:=d.1.1;have u:=ζd hp;have⟨a,w⟩:=d.1.at_ hp;have F:=d.1.2 p a _ w u;generalize t.b?.l[p]=P at *;have D:m.lengths.l[p]?=M (_m P.c?.l:Int):=by rw[n.lens,I?,j!,u];rfl
 have b__:=(ζe.1 w).1;have L:idx c (p:Int)=M a:=by rw[gp];exact w
 unfold rD;rw[L,ζb,gp,D,ζb,cm];constructor
 .intro h;have h:a=_m P.c?.l:=by simpa using h
  refine(a_ _).2 ⟨λh=>(by cases h),λ⟨b,B,d__⟩=>?_⟩
  rw[w]at B;cases B;have:=d__.1.2 p (a+1) P (by simp[b__]) u
  omega
 intro h;have h:¬a=_m P.c?.l:=by simpa using h
 have S:a<_m P.c?.l:=a?
 have o:=_f (λl=>l[p]?) n.need
 simp only[I?,j!,u,Option.map_some]at o;have⟨nd,T,c__⟩:=ζf.1 o;have z:a.toNat<_m P.c?.l:=a?
 have H:idx nd a=M (xM A P.c?.l[a.toNat]):=by rw[VG F.1,c__,j!,ζd z];rfl
 rw[gp,T,ζb,ζb,H,ζb];have W:=d.up f g u w S;have G:(∃b,c.l[p]?=M b/\Cons t A (c.l.set p (b+1)))↔MC t A c.l p:=by rw[W];exact⟨λ⟨b,B,k⟩=>by rw[w]at B;cases B;exact k,λk=>⟨a,w,k⟩⟩
 rw[G];have X:mP t p a.toNat P.c?.l[a.toNat]:=⟨P,u,ζd z⟩;have Y:MC t A c.l p↔(P.c?.l[a.toNat].kind=3->∃b,c.l[(ag A P.c?.l[a.toNat].d?).from_.proc.toNat]?=M b/\(ag A P.c?.l[a.toNat].d?).from_.index<=b):=⟨λ⟨Q,e,x,r,v,C,K⟩=>by rw[u]at r;cases r;rw[w]at v;cases v;rw[ζd z]at C;cases C;exact K,λh=>⟨P,_,a,u,w,ζd z,h⟩⟩
 rw[Y];generalize P.c?.l[a.toNat]=e at *;unfold xM
 by_cases C:e.kind=3
 .rw[L' C];have⟨q,j,a__,_,_,y,Q,e__,_⟩:=BI f g X C;have Z:q<_m c.l:=by have:=(ζe.1 e__).1;omega
  rw[a__];simp only[n!];rw[bA Z,ζb,a_];simp only[_g];exact⟨λh _=>⟨_,ζd Z,h⟩,λh=>by have⟨b,B,R⟩:=h C;rw[ζd Z]at B;cases B;exact R⟩
 rw[M' C];have E:0<_m c.l:=a?
 have I:=d.1.pos 0 _ (ζd E);have hi:idx c ((⟨0,0⟩:bf).proc)=M c.l[0]:=bA (s:=c) (i:=0) E;rw[hi,ζb,a_];exact⟨λ_ h=>_e h C,λ_=>by simpa using I⟩
end
theorem JN{α:Type}:∀l:aY α,(C! (W l)).filterMap (l[·]?)=l
 |[]=>rfl|x::l=>by rw[W?,List.range_succ_eq_map,List.filterMap_cons,List.filterMap_map];show x::(C! (W l)).filterMap (λi=>(x::l)[i+1]?)=_;simp only[List.getElem?_cons_succ];rw[JN l]
theorem ZA{α:Type}{s r:Sl α}{p:α->α->aX X'}(h:AF s p=M r):r.l.Sublist s.l:=by
 unfold AF at h;split at h
 .cases h;have key:((kept (λi=>(vX s.l p i).getD O) (W s.l)).filterMap (s.l[·]?)).Sublist s.l:=by
   have e:=JN s.l
   conv=>rhs;rw[<-e]
   exact List.Sublist.filterMap _ (by unfold kept;exact List.filter_sublist)
  generalize(kept (λi=>(vX s.l p i).getD O) (W s.l)).filterMap (s.l[·]?)=y at *
  cases s<;>first|exact key|(simp[Sl.vM,Sl.l])
 cases h
theorem KH{c:Zg}(D:W c.l<=1073741824)(B:0<W c.l):∃d,H (fq c) Sl.whole=M d/\d.l=c.l:=by
 unfold fq;have key:(H (qh (Sl.row []:Zg) c) λx=>M x).bind Sl.whole=M (.row ([]++c.l)):=by unfold qh;rw[M' (λh=>by rw[h]at B;simp at B),L' (show(Sl.row ([]:Rd)).l.length+W c.l<=2147483648 from show 0+W c.l<=_ by omega)];rfl
 cases c with|nil=>simp[Sl.l]at B|emp=>simp[Sl.l]at B|part l=>exact⟨_,key,rfl⟩|row l=>exact⟨_,key,Y⟩
section
variable{t:Z4}{A:cn 200 bC}
theorem Vb(H:Small t)(i:VT t)(q:fm t (bO t) A){m:cG}(K:Xy t A (_m t.b?.l) m){k:Nat}{B:Zb}(Y:B7 t A k B)(V:_m B.l<=5000):
 Wp (fe m B) λr=>B7 t A (k+1) r/\(ins r).Nodup/\_m r.l<=40000/\(ins r).Pairwise λx y=>¬hG y x<0:=by
 have ae:=i.few;unfold fe fe.W1;refine eB (_m B.l) (λn s=>s.2.1=len B/\s.2.2=(n:Int)/\s.1.l.length<=8*n/\∀d,d∈ins s.1↔∃c∈(B.l.take n).map Sl.l,FE t A c d) ⟨_l,_l,N? _,λd=>by simp[ins,Sl.l]⟩ ?_ ?_
 .rintro n ⟨out,_,_⟩ w ⟨e1,e2,g1,g2⟩;simp only at e1 e2 g1 g2;subst e1 e2;have L:=(Y B.l[n].l).1 (mF.2 ⟨_,t? w,_l⟩);unfold fe.bl;rw[fN w,bq,bA w,ζb];have d__:∀d,d∈(B.l.take (n+1)).map Sl.l↔d∈(B.l.take n).map Sl.l\/d=B.l[n].l:=λd=>BH w
  generalize B.l[n]=c at *;have af:=L.1.1.1;have ab:=i.ok.one;unfold fe.W2;refine eB (_m c.l) (λj s=>s.2=(j:Int)/\s.1.l.length<=8*n+j/\∀d,d∈ins s.1↔d∈ins out\/∃(p:Nat)(a:Int),p<j/\c.l[p]?=M a/\d=c.l.set p (a+1)/\Cons t A d) ⟨_l,g1,λd=>⟨.inl,λh=>h.elim id λ⟨p,a,h,_⟩=>_e h a?⟩⟩ ?_ ?_
  .rintro j ⟨o2,_⟩ c__ ⟨e,l,Q⟩;simp only at e l Q;subst e;unfold fe.bK;rw[show _s ((j:Int)<len c)=U from fN c__,bq,eS];refine(Wm i q K L.1 (p:=j) a?).mono λb v=>?_
   have u:=ζd c__;have hr:=L.1.1.2 j _ _ u (ζd (show j<_m t.b?.l by omega))
   have ah:=(H.2 _ (t? (show j<_m t.b?.l by omega))).1
   generalize c.l[j]=a at *;have more:∀o3:Zb,(∀d,d∈ins o3↔d∈ins o2\/d=c.l.set j (a+1)/\Cons t A d)->∀d,d∈ins o3↔d∈ins out\/∃(p:Nat)(a:Int),p<j+1/\c.l[p]?=M a/\d=c.l.set p (a+1)/\Cons t A d:=λo3 h d=>by rw[h,Q];constructor;rintro((h|⟨p,b,h,k⟩)|⟨h,k⟩);exact .inl h;exact .inr ⟨p,b,a?,k⟩;exact .inr ⟨j,a,a?,u,h,k⟩;rintro(h|⟨p,b,h,k1,k2,k3⟩);exact .inl (.inl h);by_cases e:p=j;subst e;rw[u]at k1;cases k1;exact .inr ⟨k2,k3⟩;exact .inl (.inr ⟨p,b,a?,k1,k2,k3⟩)
   rw[cm];constructor
   .intro ht;have⟨x,C,X⟩:=v.1 ht;rw[u]at C;cases C;have⟨d,hd,z⟩:=KH (c:=c) a? a?
    have⟨a__,Z,S⟩:=put_eq (s:=d) (p:=j) (x:=a+1) (by rw[z];exact c__)
    have⟨o3,e__,D⟩:=oE (s:=o2) (x:=a__) a?
    have P:Sl.get d j=M a:=by unfold Sl.get;rw[z];exact u
    rw[hd,ζb,nX (by rw[z];exact c__),ζb,P,ζb,ζb,dV _ a? a?,Z,ζb,e__,ζb,a_]
    refine⟨cq j a?,by rw[D];simp;omega,more o3 λe=>?_⟩
    rw[OR D,S,z];exact⟨λh=>h.elim .inl λh=>.inr ⟨h,by rw[h];exact X⟩,λh=>h.elim .inl λh=>.inr h.1⟩
   intro E;refine(a_ _).2 ⟨cq j a?,Nat.le_succ_of_le l,more o2 λd=>⟨.inl,λh=>h.elim id λ⟨o,W⟩=>?_⟩⟩
   rw[v.2 ⟨a,u,by rw[<-o];exact W⟩]at E;cases E
  rintro⟨o2,_⟩ ⟨e,l,Q⟩;simp only at e l Q;subst e;unfold fe.bK;rw[gA,br,a_];refine(a_ _).2 ⟨_l,cq n a?,show _m o2.l<=_ by omega,λd=>?_⟩
  rw[Q];constructor
  .rintro (h|⟨p,a,_,h⟩)
   .have⟨c',g,G⟩:=(g2 d).1 h;exact⟨c',(d__ c').2 (.inl g),G⟩
   exact⟨_,(d__ _).2 (.inr _l),p,a,h⟩
  rintro⟨c',g,G⟩;rcases(d__ c').1 g with h|h
  .exact .inl ((g2 d).2 ⟨c',h,G⟩)
  subst h;have⟨p,a,h⟩:=G;exact .inr ⟨p,a,(ζe.1 h.1).1,h⟩
 rintro⟨out,_,_⟩ ⟨e1,e2,g1,g2⟩;simp only at e1 e2 g1 g2;subst e1 e2;unfold fe.bl;rw[gA,br,a_];simp only;have I:B7 t A (k+1) out:=λd=>by rw[g2,I?,<-FE.iff i q (k:=k)];exact⟨λ⟨c,g,G⟩=>⟨c,(Y c).1 g,G⟩,λ⟨c,g,G⟩=>⟨c,(Y c).2 g,G⟩⟩
 have b__:∀s:Zb,(∀d,d∈ins s↔d∈ins out)->∀x∈s.l,_m x.l<1073741824:=λs h x C=>by have:=((I x.l).1 ((h x.l).1 (mF.2 ⟨x,C,_l⟩))).1.1.1;omega
 have⟨r1,o,p1,F⟩:=Ur (s:=out) (p:=lG) (f:=Sl.l) (λx y C _=>P8 (b__ out (λ_=>Iff.rfl) x C)) a?
 have T:∀d,d∈ins r1↔d∈ins out:=λd=>(p1.map Sl.l).mem_iff
 have ad:_m r1.l=_m out.l:=p1.length_eq;have⟨r2,W,nd,R,l2⟩:=Ue (s:=r1) (p:=nh) (f:=Sl.l) (λx y C _=>by unfold nh;rw[LZ (b__ r1 T x C)];rfl) a? F
 rw[o,ζb,W,ζb,a_];exact⟨λd=>(R d).trans ((T d).trans (I d)),nd,a?,by unfold ins;rw[d9];exact F.sublist (ZA W)⟩
end
theorem Jv{c:Zg}(h:IX c.l):iW c=M c.l.sum:=by refine Wp.eq ?_;have u:=h.1;unfold iW iW.W1;refine eB (W c.l) (λi(q:Int×Int)=>q.2=(i:Int)/\q.1=(c.l.take i).sum) ⟨Y,Y⟩ ?_ ?_;rintro i ⟨m,_⟩ hi ⟨e,a⟩;simp only at e a;subst e;subst a;unfold iW.bl;rw[fN hi,bq,bA hi,ζb,a_];have k:=Vg h (i+1);rw[M_ hi]at k;grind[M_,dV];simp_all[iW.bl,br,a_]
theorem NJ{a b:Zg}(B:IX a.l)(D:IX b.l)(G:W a.l=W b.l):jf a b=M (_s (fD a.l b.l)):=by
 have w:=B.1;unfold jf;rw[Jv B,ζb,Jv D,ζb];by_cases e:a.l.sum=b.l.sum;rw[show(a.l.sum==b.l.sum)=U from g?,bq];refine Wp.eq ?_;unfold jf.W1;refine eB (W a.l) (λi(q:Int)=>q=(i:Int)/\hG (a.l.drop i) (b.l.drop i)=hG a.l b.l) ⟨Y,Y⟩ ?_ ?_;rintro i _ hi ⟨rfl,h⟩;have u:i<W b.l:=by omega
 unfold jf.bl;rw[fN hi,bq,bA hi,ζb,bA u,ζb];rw[S4 hi u]at h;by_cases e2:a.l[i]=b.l[i];rw[show(a.l[i]==b.l[i])=U from g?,bq,a_];rw[M' a?,M' a?]at h;grind[cq];rw[show(a.l[i]==b.l[i])=O from g?,br,ζb,ζb,a_];refine(a_ _).2 ?_;have hd:_s (fD a.l b.l)=_s (hG a.l b.l<0):=decide_eq_decide.2 (fD.Lo e);grind;rintro _ ⟨rfl,h⟩;unfold jf.bl;rw[gA,br,a_];refine(a_ _).2 ?_;have hd:_s (fD a.l b.l)=_s (hG a.l b.l<0):=decide_eq_decide.2 (fD.Lo e);rw[hd];rw[D! (x? _),D! a?]at h;rw[<-h];rfl;rw[show(a.l.sum==b.l.sum)=O from g?,br,ζb,ζb];grind[fD,Iu,hG]
theorem JY{a b:Zg}(B:W a.l<1073741824):fc a b=M (_s (a.l=b.l)):=by
 refine Wp.eq ?_;unfold fc;rw[cm];refine⟨λh=>?_,λh=>(a_ _).2 ?_⟩;have h:(W a.l:Int)=W b.l:=by grind
 have h:W a.l=W b.l:=a?;unfold fc.W1;refine eB (W a.l) (λn s=>s=(n:Int)/\∀i,i<n->a.l[i]?=b.l[i]?) ⟨Y,λi h=>_e h a?⟩ ?_ ?_;rintro n _ u ⟨rfl,w⟩;grind[fc.bl,bA,cm,a_,cq];rintro _ ⟨rfl,w⟩;unfold fc.bl;rw[gA,br,a_];refine(a_ _).2 (_c (Y! λi=>?_)).symm;grind;grind
theorem j9(s:Zb):W (ins s)=W s.l:=by unfold ins;simp
theorem Yn(s:Zb)(i:Nat):(ins s)[i]?=(s.l[i]?).map Sl.l:=by grind[ins]
theorem zo{s:Zb}{i:Nat}(h:i<W s.l):(ins s)[i]?=M s.l[i].l:=by rw[Yn,ζd h];rfl
theorem NT{l:Zb}{c:Zg}(a__:∀x∈l.l,IX x.l/\_m x.l=_m c.l)(b:IX c.l)(t:_m l.l<1073741824)(f:(ins l).Pairwise fD):
 Wp (jg l c) λr=>_m r.l<=_m l.l+1/\(ins r).Pairwise fD/\∀d,d∈ins r↔d∈ins l\/d=c.l:=by
 have W:=b.1;have a:∀n:Nat,n<=_m l.l->(∀(i:Nat)x,i<n->(ins l)[i]?=M x->fD x c.l)->(∀x,(ins l)[n]?=M x->¬fD x c.l)->
  Wp ((bh (_s ((n:Int)<(len l))) (H (idx l n) λP=>H (fc P c) λL=>M L) (M O):aX X').bind λb__=>
  bh b__ (M l) (H (iK l J (M (n:Int))) λw=>H (qh (Sl.row []:Zb) w) λz=>H (eH z (c:Zg)) λB=>H (iK l (M (n:Int)) J) λC=>H (qh B C) λD=>M D))
  λr=>_m r.l<=_m l.l+1/\(ins r).Pairwise fD/\∀d,d∈ins r↔d∈ins l\/d=c.l:=by
  intro n G Z v;have X:(∀x,(ins l)[n]?=M x->x≠c.l)->Wp (H (iK l J (M (n:Int))) λw=>H (qh (Sl.row []:Zb) w) λz=>H (eH z (c:Zg)) λB=>H (iK l (M (n:Int)) J) λC=>H (qh B C) λD=>M D) λr=>_m r.l<=_m l.l+1/\(ins r).Pairwise fD/\∀d,d∈ins r↔d∈ins l\/d=c.l:=by intro y;have⟨I,g,e4⟩:=uU l n G;have A:_m I.l<=_m l.l:=g?;have⟨x5,j,e5⟩:=DP (s:=(Sl.row []:Zb)) (x:=I) (show 0+_m I.l<=_ by omega);have e5:x5.l=I.l:=e5;have⟨k,m,e6⟩:=oE (s:=x5) (x:=c) g?;have⟨x7,o,e7⟩:=NF l n G;have⟨Y,W,E⟩:=DP (s:=k) (x:=x7) g?;rw[g,ζb,j,ζb,m,ζb,o,ζb,W,ζb,a_];have e:Y.l=l.l.take n++[c]++l.l.drop n:=o?;have F:ins Y=(ins l).take n++[c.l]++(ins l).drop n:=(by simp_all[ins]);grind[Qs,fD.tot]
  by_cases h:n<(_m l.l)
  .rw[fN h,bq,bA h,ζb,JY (by have:=(a__ _ (t? h)).1.1;omega),ζb,ζb]
   by_cases e:l.l[n].l=c.l
   .rw[_c e,bq,a_];refine⟨a?,f,λd=>⟨.inl,λQ=>Q.elim id λQ=>?_⟩⟩
    rw[Q,<-e];exact mF.2 ⟨_,t? h,_l⟩
   grind[br,zo]
  rw[show(n:Int)=(_m l.l:Nat)from a?,gA,br,ζb,br,<-show(n:Int)=(_m l.l:Nat)from a?]
  grind[j9]
 unfold jg jg.W1;refine eB (_m l.l) (λn s=>s=(n:Int)/\∀(i:Nat)x,i<n->(ins l)[i]?=M x->fD x c.l) ⟨_l,λi x h=>_e h a?⟩ ?_ ?_
 .rintro n _ u ⟨rfl,S⟩;have⟨p,q⟩:=a__ _ (t? u);unfold jg.bl;rw[fN u,bq,bA u,ζb,NJ p b q,ζb,ζb]
  by_cases e:fD l.l[n].l c.l
  .rw[_c e,bq,a_]
   grind[cq,zo]
  rw[_b e,br,a_];exact a n a? S λx T=>by rw[zo u]at T;grind
 rintro _ ⟨rfl,S⟩;unfold jg.bl;rw[gA,br,ζb,br,a_];exact a _ (x? _) S λx T=>by have:=(ζe.1 T).1;rw[j9]at this;omega
section
variable{t:Z4}{A:cn 200 bC}
structure eG(t:Trace)(A:cn 200 bC)(L:List (List Int)):Prop where
 srt:L.Pairwise fD
 mem:∀d,d∈L↔Cons t A d
def D6(t:Z4)(A:cn 200 bC):Prop:=∃L:aY Rd,L.Nodup/\(∀d∈L,Cons t A d)/\5000<W L
theorem eG.one{L R:aY Rd}(h:eG t A L)(k:eG t A R):L=R:=Gz h.srt k.srt λx=>(h.mem x).trans (k.mem x).symm
theorem eG.not{L:aY Rd}(h:eG t A L)(B:W L<=5000)(k:D6 t A):False:=by have⟨R,nd,w,u⟩:=k;have:=BY nd λx z=>(h.mem x).2 (w x z);omega
theorem J7{k:Nat}{o l:aY Rd}(a:∀d,d∈l↔Cons t A d/\d.sum=(k:Int))(B:l.Pairwise fD)(D:o.Pairwise fD)(G:∀d,d∈o↔Cons t A d/\d.sum<(k:Int)):
 (o++l).Pairwise fD/\∀d,d∈o++l↔Cons t A d/\d.sum<((k+1:Nat):Int):=by
 grind[fD.sum]
theorem Tc(v:Small t)(f:VT t)(j:fm t (bO t) A):Wp (fH t) λr=>(r.2=U/\eG t A (ins r.1)/\r.1.l.length<=5000)\/(r.2=O/\r.1=.nil/\D6 t A):=by
 have Z:=f.few;unfold fH jQ;rw[L' ⟨o?,g?⟩,ζb];unfold fH.W1;have fin:∀(k:Nat)(u out:Zb),B7 t A k u->_m u.l=0->(ins out).Pairwise fD->(∀d,d∈ins out↔Cons t A d/\d.sum<(k:Int))->eG t A (ins out):=λk u out b S G b__=>⟨G,λd=>(b__ d).trans ⟨λh=>h.1,λh=>⟨h,b.none f j S h⟩⟩⟩
 refine eB (uP t+1) (λk s=>B7 t A k s.1/\(ins s.1).Pairwise fD/\(ins s.2).Pairwise fD/\(∀d,d∈ins s.2↔Cons t A d/\d.sum<(k:Int))/\s.1.l.length<=40000/\s.2.l.length<=5000)
  ⟨Qk (by simp[Sl.l,len]),by simp[ins,Sl.l],by simp[ins,Sl.l],λd=>⟨λh=>by grind[ins,Sl.l],λh=>_e (s_ h.1.1.pos) g?⟩,by simp[Sl.l],by simp[Sl.l]⟩ ?_ ?_
 rintro k ⟨u,out⟩ e__ ⟨b,C,w,G,b__,L⟩;simp only at b C w G b__ L;unfold fH.bl;rw[GS];by_cases S:_m u.l=0;rw[show(!_s (_m u.l=0))=O from o?,br,a_];exact(a_ _).2 (.inl ⟨_l,fin k u out b S w G,L⟩);rw[show(!_s (_m u.l=0))=U from o?,bq];have⟨x,E,P⟩:=DP (s:=out) (x:=u) a?;have T:ins x=ins out++ins u:=by grind[ins]
 have⟨o1,o2⟩:=J7 b C w G;rw[<-T]at o1 o2;rw[E,ζb,cm];refine⟨λc__=>(a_ _).2 ((a_ _).2 (.inr ⟨_l,_l,ins x,fD.nodup o1,λd hd=>((o2 d).1 hd).1,?_⟩)),λc__=>?_⟩;rw[j9];grind;have c__:_m x.l<=5000:=g?;have R:_m u.l<=5000:=g?;have F:∀d,Cons t A d->IX d/\_m d=_m t.b?.l:=λd h=>⟨N3 v f h,h.1.1⟩;unfold fH.W2;refine eB (_m u.l) (λn s=>s.2=(n:Int)/\s.1.l.length<=8*n/\(ins s.1).Pairwise fD/\∀d,d∈ins s.1↔∃c∈(u.l.take n).map Sl.l,FE t A c d) ⟨_l,N? _,by simp[ins,Sl.l],λd=>by simp[ins,Sl.l]⟩ ?_ ?_;rintro n ⟨more,_⟩ B ⟨e,g1,g,g2⟩;simp only at e g1 g g2;subst e;unfold fH.bK;have W:=(b u.l[n].l).1 (mF.2 ⟨_,t? B,_l⟩);rw[fN B,bq,bA B,ζb,eS];refine(OM v f j W.1).mono λnx Q=>?_;unfold fH.W3;refine eB (_m nx.l) (λm s=>s.2=(m:Int)/\s.1.l.length<=8*n+m/\(ins s.1).Pairwise fD/\∀d,d∈ins s.1↔d∈ins more\/d∈(nx.l.take m).map Sl.l) ⟨_l,g1,g,λd=>f?⟩ ?_ ?_;rintro m ⟨X,_⟩ D ⟨e,o,fs,I⟩;simp only at e o fs I;subst e;unfold fH.dQ;rw[fN D,bq,bA D,ζb,eS];have H:=(Q.2 nx.l[m].l).1 (mF.2 ⟨_,t? D,_l⟩);have⟨_,_,_,_,Y⟩:=H;refine(NT (l:=X) (c:=nx.l[m]) (λy K=>?_) (F _ Y).1 a? fs).mono λr q=>?_;have V:Cons t A y.l:=by rcases(I y.l).1 (mF.2 ⟨_,K,rfl⟩)with h|h;have⟨_,_,p,a,_,_,k⟩:=(g2 y.l).1 h;omega;have⟨z,a__,e⟩:=mem_map.1 h;have⟨p,a,_,_,k⟩:=(Q.2 z.l).1 (mF.2 ⟨_,O? a__,_l⟩);rw[<-e];exact k
 grind;refine(a_ _).2 ⟨cq m a?,Nat.le_trans q.1 a?,q.2.1,λd=>?_⟩;rw[q.2.2,I,BH D,or_assoc];rintro⟨X,_⟩ ⟨e,o,fs,I⟩;simp only at e o fs I;subst e;unfold fH.dQ;rw[gA,br,a_];refine(a_ _).2 ⟨cq n a?,show _m X.l<=_ by omega,fs,λd=>?_⟩;rw[I,I?];constructor;rintro(h|h);grind;exact⟨_,(BH B).2 (.inr _l),(Q.2 d).1 h⟩;rintro⟨c,i,d__⟩;rcases(BH B).1 i with h|h;grind;subst h;exact .inr ((Q.2 d).2 d__);rintro⟨more,_⟩ ⟨e,g1,g,g2⟩;simp only at e g1 g g2;subst e;unfold fH.bK;rw[gA,br,a_];refine(a_ _).2 ⟨λd=>?_,g,o1,o2,show _m more.l<=_ by omega,c__⟩;rw[g2,I?,<-FE.iff f j (k:=k)];exact⟨λ⟨c,i,d__⟩=>⟨c,(b c).1 i,d__⟩,λ⟨c,i,d__⟩=>⟨c,(b c).2 i,d__⟩⟩;rintro⟨u,out⟩ ⟨b,C,w,G,b__,L⟩;simp only at b C w G b__ L;unfold fH.bl;rw[GS,show(!_s (_m u.l=0))=O from by simp[b.last],br,a_];exact(a_ _).2 (.inl ⟨_l,fin _ u out b b.last w G,L⟩)
theorem Vr(a:VT t)(b:Small t):uP t<8589934600:=by
 have key:∀(l:aY bT),(∀p∈l,W p.c?.l<1073741824)->(l.map λP=>W P.c?.l).sum<=1073741824*W l:=by intro l;induction l with|nil=>grind|cons x l w=>grind
 have c:=key t.b?.l λp u=>(b.2 p u).1;have z:=a.few;grind[uP]
theorem ZK{k:Int}{L:aY Rd}(nd:L.Nodup)(B:L.Pairwise λx y=>¬hG y x<0)(a:∀d∈L,d.sum=k):L.Pairwise fD:=by refine(B.and nd).imp_of_mem λ{x y}u w h=>?_;grind[fD.Lo,AR]
theorem TH(c:Small t)(g:cu t=M U)(b:VT t)(f:fm t (bO t) A):
 Wp (oq t) λr=>(r.2=0/\eG t A (ins r.1)/\r.1.l.length<=5000)\/(r.2=16/\r.1=.nil/\D6 t A):=by
 have S:=b.few;have X:=Vr b c;unfold oq lS;rw[g,ζb,bq,eS,eS];refine(of_wp c g b f).mono λm T=>?_
 unfold jQ;rw[L' ⟨o?,g?⟩,ζb]
 have fin:∀(k:Nat)(u:Zb)(out:Sl Zb),B7 t A k u->W u.l=0->(out.l.flatMap ins).Pairwise fD->(∀d,d∈out.l.flatMap ins↔Cons t A d/\d.sum<(k:Int))->W out.l<=5000->W (out.l.flatMap ins)<=5000->
  Wp (H (hU out) λC=>M (C,(0:Int))) λr=>(r.2=0/\eG t A (ins r.1)/\r.1.l.length<=5000)\/(r.2=16/\r.1=.nil/\D6 t A):=λk u out a Q D o F Z=>by
  have z:(out.l.flatMap Sl.l).map Sl.l=out.l.flatMap ins:=by rw[List.map_flatMap];rfl
  have i:(EJ out).l=out.l.flatMap Sl.l:=by unfold EJ;split;(next h=>exact(List.length_eq_zero_iff.1 h).symm);rfl
  unfold hU;rw[L' ⟨a?,g?⟩,ζb,a_]
  have e:ins (EJ out)=out.l.flatMap ins:=by grind[ins]
  refine .inl ⟨Y,⟨g?,λd=>by rw[e];exact(o d).trans ⟨λh=>h.1,λh=>⟨h,a.none b f Q h⟩⟩⟩,?_⟩
  grind
 unfold lS.W1;refine eB (uP t+1) (λk s=>B7 t A k s.1/\(ins s.1).Pairwise fD/\(s.2.1.l.flatMap ins).Pairwise fD/\(∀d,d∈s.2.1.l.flatMap ins↔Cons t A d/\d.sum<(k:Int))/\s.2.2=(W (s.2.1.l.flatMap ins):Int)/\s.2.1.l.length<=W (s.2.1.l.flatMap ins)/\W (s.2.1.l.flatMap ins)<=5000/\s.1.l.length<=40000)
  ⟨Qk (by simp[Sl.l,len]),by simp[ins,Sl.l],by simp[Sl.l],λd=>⟨λh=>by grind[Sl.l],λh=>_e (s_ h.1.1.pos) g?⟩,by simp[Sl.l],by simp[Sl.l],by simp[Sl.l],by simp[Sl.l]⟩ ?_ ?_
 .rintro k ⟨u,out,tot⟩ hk ⟨a,B,w,D,I,L,j,q⟩;simp only at a B w D I L j q;have⟨o1,o2⟩:=J7 a B w D;unfold lS.bl;rw[GS]
  by_cases Q:W u.l=0
  .rw[show(!_s (W u.l=0))=O from o?,br,a_]
   grind[a_]
  rw[show(!_s (W u.l=0))=U from o?,bq,I]
  have y:w? N ((W (out.l.flatMap ins):Int)+len u)=((W (out.l.flatMap ins)+W u.l:Nat):Int):=by have e:len u=(W u.l:Int):=rfl;rw[e,dV _ a? a?];omega
  rw[y,cm];refine⟨λG=>(a_ _).2 ((a_ _).2 ?_),λG=>?_⟩
  .show Wp ((H (hU (Sl.nil:Sl Zb)) λC=>M (C,(16:Int)))) _
   have e0:hU (Sl.nil:Sl Zb)=M .nil:=by unfold hU;rfl
   rw[e0,ζb,a_];refine .inr ⟨Y,Y,out.l.flatMap ins++ins u,fD.nodup o1,λd hd=>((o2 d).1 hd).1,?_⟩
   have G:=_d G;rw[ζi,j9];omega
  have G:=of_decide_eq_false G;have⟨o3,g1,g2⟩:=oE (s:=out) (x:=u) a?
  rw[g1,ζb,eS];refine(Vb c b f T a a?).mono λr⟨r1,r2,r3,r4⟩=>?_
  have z:o3.l.flatMap ins=out.l.flatMap ins++ins u:=by rw[g2];simp
  refine(a_ _).2 ⟨r1,ZK r2 r4 λd hd=>((r1 d).1 hd).2,by rw[z];exact o1,λd=>by rw[z];exact o2 d,by rw[z,ζi,j9],?_,?_,r3⟩
  all_goals grind[j9]
 rintro⟨u,out,tot⟩ ⟨a,B,w,D,I,L,j,q⟩;simp only at a B w D I L j q;unfold lS.bl;rw[GS,show(!_s (W u.l=0))=O from by simp[a.last],br,a_]
 exact(a_ _).2 (fin _ u out a a.last w D a? j)
theorem Qv(a:Small t)(f:cu t=M U)(c:VT t)(d:fm t (bO t) A):
 (∃L r s,eG t A L/\W L<=5000/\oq t=M (r,0)/\fH t=M (s,U)/\ins r=L/\ins s=L)\/
 (oq t=M (.nil,16)/\fH t=M (.nil,O)):=by
 have⟨⟨r,e⟩,g,h⟩:=TH a f c d;have⟨⟨s,b⟩,z,w⟩:=Tc a c d;rcases h with⟨rfl,k1,k2⟩|⟨rfl,rfl,k1⟩
 .rcases w with⟨rfl,u,B⟩|⟨rfl,rfl,u⟩
  .exact .inl ⟨ins r,r,s,k1,by rw[j9];omega,g,z,Y,u.one k1⟩
  exact(k1.not (by rw[j9];omega) u).elim
 rcases w with⟨rfl,u,B⟩|⟨rfl,rfl,u⟩
 .exact(u.not (by rw[j9];omega) k1).elim
 grind
end
theorem AI{t:Z4}(d:Small t)(e:cu t=M U)(b:VT t){A:cn 200 bC}(f:fm t (bO t) A)(c:Zg):Wp (jK t c) λr=>Code t A c.l r.2:=by
 have G:=b.few;unfold jK;rw[eS];refine(TQ d e b f c).mono λr a=>?_;rw[cm];constructor;intro u;have u:r=0:=by simpa using u
 have g:=a.zero.1 u;have C:=g.1.1;unfold jK.W1;refine eC (λs:Sl bf×Int=>∃n:Nat,s.2=n/\n<=W c.l/\s.1.l.length<=n) (λs=>W c.l-s.2.toNat) ⟨0,Y,N? _,x? _⟩ ?_;rintro⟨o,i⟩ ⟨n,hi,I,D⟩;simp only at hi D;subst hi;unfold jK.bl;rw[cm];constructor;intro h;have z:n<W c.l:=by simpa[len]using h
 have B:=cq n a?;have w:W c.l-(w? N ((n:Int)+1)).toNat<W c.l-((n:Int)).toNat:=by rw[B];simp;omega
 rw[bA z,ζb,cm];constructor;intro _;unfold eH;rw[L' (show W o.l+1<=2147483648 from a?),ζb,a_];exact⟨⟨n+1,B,a?,by show(o.l++[_]).length<=n+1;rw[ζi,Y?];omega⟩,w⟩;intro _;exact(a_ _).2 ⟨⟨n+1,B,a?,show W o.l<=n+1 from a?⟩,w⟩;intro _;exact(a_ _).2 ((a_ _).2 (u▸a));intro u;exact(a_ _).2 a
end Go.VE
namespace Go.VE
theorem Py{t:Z4}(o:Small t)(g:VT t){A:cn 200 bC}(r:fm t (bO t) A){c:Zg}(v:qm t c.l):Wp (iH t c) λb=>(b=U↔nK t A c.l):=by
 have ai:=g.few;have aj:=v.1;unfold iH iH.W1;refine eC (λs:Int=>∃n:Nat,s=n/\n<=_m c.l/\∀(p k:Nat)(e:WF)(a:Int),p<n->mP t p k e->c.l[p]?=M a->(k:Int)<a->e.kind=3->∃b,c.l[(ag A e.d?).from_.proc.toNat]?=M b/\(ag A e.d?).from_.index<=b) (λs:Int=>_m c.l-s.toNat) ⟨0,_l,N? _,λp k e a h=>_e h a?⟩ ?_;rintro s ⟨n,rfl,hn,x⟩;unfold iH.bl;rw[cm];constructor;intro h;have c__:n<_m c.l:=by simpa[len]using h
 have I:n<_m t.b?.l:=a?;have ak:=(o.2 _ (t? I)).1;have B:=ζd I;have b__:=ζd c__;have⟨r1,r2⟩:=v.2 n _ _ b__ B;have K:=bA c__;generalize c.l[n]=a at *;generalize al:t.b?.l[n]=P at *;unfold iH.W2;refine eC (λs:Int=>∃m:Nat,s=m/\(m:Int)<=a/\∀(k:Nat)(e:WF),k<m->mP t n k e->e.kind=3->∃b,c.l[(ag A e.d?).from_.proc.toNat]?=M b/\(ag A e.d?).from_.index<=b) (λs:Int=>a.toNat-s.toNat) ⟨0,_l,by simpa using r1,λk e h=>_e h a?⟩ ?_;rintro s ⟨m,rfl,hm,i⟩;unfold iH.bK;rw[K,ζb,cm];constructor;intro h;have a__:(m:Int)<a:=by simpa using h
 have L:m<_m P.c?.l:=a?;have d__:=cq m a?;have W:a.toNat-(w? N ((m:Int)+1)).toNat<a.toNat-((m:Int)).toNat:=by rw[d__];simp;omega
 have u:mP t n m P.c?.l[m]:=⟨P,B,ζd L⟩;have X:idx t.b? (n:Int)=M P:=by rw[gp];exact B
 have same:∀k e,mP t n k e->k=m->e=P.c?.l[m]:=λk e⟨Q,f,y⟩d=>by subst d;rw[B]at f;cases f;rw[ζd L]at y;cases y;rfl
 unfold AE;rw[X,ζb,bA L,ζb,eS,cm];constructor;intro d;have d:P.c?.l[m].kind=3:=by simpa using d
 have⟨q,j,z,e__,z1,z2,z3,z4,z5⟩:=zz g r u d;have⟨Q,f,_⟩:=e__;have S:q<_m c.l:=by have:=(ζe.1 f).1;omega
 rw[find_eq o,Cu g r u d,ζb,z5];simp only;rw[bA S,ζb,a_,cm];constructor;intro Y;have Y:(j:Int)+1<=c.l[q]:=by simpa using Y
 refine(a_ _).2 ⟨⟨m+1,d__,a?,λk Z R w C=>?_⟩,W⟩;by_cases l:k=m;cases same k Z w l;rw[z5];exact⟨c.l[q],by simp only[n!];exact ζd S,by simp only;omega⟩;exact i k Z a? w C;intro E;have E:¬((j:Int)+1<=c.l[q]):=by simpa using E
 refine(a_ _).2 ((a_ _).2 ((a_ _).2 ⟨λh=>(by cases h),λV=>?_⟩));have⟨b,D,F⟩:=V n m _ a u b__ a__ d;rw[z5]at D F;simp only[n!]at D F;rw[ζd S]at D;cases D;omega;intro d;rw[a_,bq];refine(a_ _).2 ⟨⟨m+1,d__,a?,λk Z R w C=>?_⟩,W⟩;by_cases l:k=m;cases same k Z w l;simp[C]at d;exact i k Z a? w C;intro h;have ah:¬(m:Int)<a:=by simpa using h
 refine(a_ _).2 ((a_ _).2 ⟨⟨n+1,cq n a?,a?,λp k e a' hp u T d G=>?_⟩,by rw[cq n a?];simp;omega⟩);by_cases ep:p=n;subst ep;rw[b__]at T;cases T;exact i k e a? u G;exact x p k e a' a? u T d G;intro h;have ah:_m c.l<=n:=by simpa[len]using h
 refine(a_ _).2 ((a_ _).2 ⟨λ_ p k e a u H d G=>x p k e a (by have:=(ζe.1 H).1;omega) u H d G,λ_=>rfl⟩)
theorem LJ{t:Z4}(a:Small t)(d:mo t=M U)(e:VT t){A:cn 200 bC}(f:fm t (bO t) A){c:Zg}(B:qm t c.l):Wp (mA t c) λb=>(b=U↔nK t A c.l):=by have g:Wp (jR t c) λb=>(b=U↔qm t c.l):=EL a B.1 λi=>rfl;have⟨b,C,w⟩:=g;rw[w.2 B]at C;have⟨D,z,u⟩:=Py a e f B;unfold mA Ay;rw[d,ζb,bq,ζb,show(len c==len t.b?)=U from by simp[len,B.1],ζb,bq,C,ζb,ζb,bq,z,ζb,ζb,a_];exact u
theorem Code.one{t:Z4}{A:cn 200 bC}{c:Rd}{r s:Int}(h:Code t A c r)(g:Code t A c s):r=s:=by rcases h with⟨h,rfl⟩|⟨a,u,rfl⟩|⟨a,u,rfl⟩|⟨a,u,rfl⟩<;>rcases g with⟨g,rfl⟩|⟨g1,g2,rfl⟩|⟨g1,g2,rfl⟩|⟨g1,g2,rfl⟩<;>first|rfl|contradiction|exact _e ‹qm t c›.1 ‹_›
section
variable{t:Z4}{A:cn 200 bC}
theorem LP(g:Small t)(h:cu t=M U)(i:VT t)(j:fm t (bO t) A){c:Zg}(d:Cons t A c.l){ps:ST}(D:∀r∈ps,r<W t.b?.l)(G:W ps<1073741824):
 dn t (Sl.row [c]:Zb) (Sl.row (ps.map λn:Nat=>(n:Int)):Zg)=M 0:=by
 refine Wp.eq ?_;have u:=d.1.1;unfold dn zL;rw[h,ζb,bq,zg (f:=λz=>(l_ z t).getD O) (λz _=>N7.ok ((a_ _).2 trivial)) (by simp[Sl.l]),ζb,ζb,ζb]
 have w:(!((Sl.row [c]:Zb).l.any λz=>(l_ z t).getD O))=U:=by simp[Sl.l,l_,len,u]<;>exact _f Int.ofNat u
 rw[w,bq];unfold dn.W1;refine eB 1 (λn s=>s=(n:Int)) Y ?_ ?_
 .rintro n _ B rfl;obtain rfl:n=0:=by omega
  unfold dn.bl;rw[show _s (((0:Nat):Int)<len (Sl.row [c]:Zb))=U from Y,bq,show idx (Sl.row [c]:Zb) ((0:Nat):Int)=M c from Y,ζb,eS];refine(GR g u).mono λb C=>?_
  rw[C.2 d.1,bq];exact(a_ _).2 rfl
 rintro _ rfl;unfold dn.bl;rw[show _s (((1:Nat):Int)<len (Sl.row [c]:Zb))=O from Y,br,a_];have a:∀r:Nat,r<W t.b?.l->xk t r=M U:=λr e=>by unfold xk;rw[show _s ((r:Int)>=0)=U from f?,bq,fN e];rfl
 show Wp (dn.W2 (Sl.row [c]) (Sl.row (ps.map λn:Nat=>(n:Int))) (len (Sl.row (ps.map λn:Nat=>(n:Int)))) 0 t) _
 unfold dn.W2;refine eB (W ps) (λn s=>s=(n:Int)) Y ?_ ?_
 .rintro n _ B rfl;unfold dn.bK;have I:idx (Sl.row (ps.map λn:Nat=>(n:Int))) (n:Int)=M ((ps[n]:Nat):Int):=by
   rw[bA (show n<W (Sl.row (ps.map λn:Nat=>(n:Int))).l by simpa[Sl.l]using B)]
   simp[Sl.l]
  rw[show _s ((n:Int)<len (Sl.row (ps.map λn:Nat=>(n:Int))))=U from by simp[len,Sl.l];omega,bq,I,ζb,a _ (D _ (t? B)),ζb,bq]
  exact(a_ _).2 (cq n a?)
 rintro _ rfl;unfold dn.bK;rw[show _s (((W ps:Nat):Int)<len (Sl.row (ps.map λn:Nat=>(n:Int))))=O from by simp[len,Sl.l],br,a_]
 show Wp (dn.W3 (Sl.row [c]) 1 0 t) _;unfold dn.W3;refine eB 1 (λn s=>s=(n:Int)) Y ?_ ?_
 .rintro n _ B rfl;obtain rfl:n=0:=by omega
  unfold dn.dQ;rw[show _s (((0:Nat):Int)<1)=U from Y,bq,show idx (Sl.row [c]:Zb) ((0:Nat):Int)=M c from Y,ζb];unfold yE;rw[eS,eS];refine(GP g h i j d.1).mono λr e=>?_
  rw[a_,e.2 d.2];exact(a_ _).2 rfl
 rintro _ rfl;unfold dn.dQ;rw[show _s (((1:Nat):Int)<1)=O from Y,br,a_];exact(a_ _).2 rfl
theorem RY(a:Small t)(b:cu t=M U)(d:VT t)(e:fm t (bO t) A){c:Zg}(f:Cons t A c.l){p q:Nat}(hp:p<W t.b?.l)(B:q<W t.b?.l):
 dn t (Sl.row [c]:Zb) (Sl.row [(p:Int),(q:Int)]:Zg)=M 0:=LP a b d e f (ps:=[p,q]) (by simp[hp,B]) f?
theorem Vc(b:Small t)(c:cu t=M U)(kind m:Int):jB t kind m=M (match(bO t).find? (nu kind m)with|some x=>(x.1,U)|none=>(⟨0,0⟩,O)):=by
 refine Wp.eq ?_;unfold jB;rw[c,ζb,bq];unfold kR;rw[ζb];unfold jB.E1;rw[vI b,ζb];refine AU (λk _=>((bO t).take k).find? (nu kind m)=J) f? ?_ ?_;intro k y _ z u;have w:(bO t).take (k+1)=(bO t).take k++[y]:=by rw[P?,z];rfl
 have B:(y.2.kind==kind&&y.2.d?==m)=nu kind m y:=rfl;unfold jB.lM;rw[pG,ζb,B,cm];constructor;intro a;refine(a_ _).2 ((a_ _).2 ?_);have:(bO t).find? (nu kind m)=M y:=by rw[<-e! (k+1) (bO t),w,d8,d8,u];simp[a]
 rw[this];intro a;rw[a_,w,d8,u];simp[a];intro _ u;rw[I?]at u;exact(a_ _).2 (by rw[u])
theorem K5(f:Small t)(g:cu t=M U)(h:VT t)(i:fm t (bO t) A){c:Zg}(d:Cons t A c.l){p q:Nat}(hp:p<_m t.b?.l)(a__:q<_m t.b?.l):
 Wp (jM t c p q) λr=>r.2=0/\(r.1.l.length:Int)=under t c.l p q:=by
 have I:=ζd hp;have⟨a,L⟩:=d.1.at_ hp;have⟨b,C⟩:=d.1.at_ a__;rw[Cn h i d I (ζd a__) L C];have Y:=(f.2 _ (t? hp)).1;have⟨a0,a1⟩:=d.1.2 p a _ L I;generalize Z:t.b?.l[p]=P at *;unfold jM;rw[RY f g h i d hp a__,ζb,show((0:Int)==0)=U from _l,bq,gp,I,ζb,show idx c (p:Int)=M a from by rw[gp];exact L,ζb]
 have⟨y,X,D⟩:=uU P.c? a.toNat a?
 rw[show((a.toNat:Nat):Int)=a from a?]at X
 rw[X,ζb,<-D];have H:_m y.l<=_m P.c?.l:=by rw[D,l!];omega
 unfold jM.W1;refine eB (_m y.l) (λn s=>s.2.1=len y/\s.2.2=(n:Int)/\s.1.l.length=(y.l.take n).countP λe=>ec q e&&nN t c.l e) ⟨_l,_l,_l⟩ ?_ ?_
 .rintro n ⟨o,_,_⟩ w ⟨e1,e2,z⟩;simp only at e1 e2 z;subst e1 e2;have c__:=List.countP_le_length (p:=λe=>ec q e&&nN t c.l e) (l:=y.l.take n)
  rw[l!]at c__;have u:(y.l.take (n+1)).countP (λe=>ec q e&&nN t c.l e)=_m o.l+if ec q y.l[n]&&nN t c.l y.l[n]then 1 else 0:=by rw[P?,ζd w,List.countP_append,z];show _+List.countP _ [y.l[n]]=_;rw[H!,List.countP_nil];simp
  have Q:=cq n a?
  unfold jM.bl;rw[fN w,bq,bA w,ζb];generalize y.l[n]=e at u;have S:(bh (e.kind==2) (M (!(e.k?==(q:Int)))) (M U):aX X')=M (!ec q e):=by unfold ec;cases e.kind==2<;>cases e.k?==(q:Int)<;>rfl
  rw[S,ζb,cm];refine⟨λB=>(a_ _).2 ⟨_l,Q,by rw[u,show ec q e=O from by simpa using B];rfl⟩,λB=>?_⟩
  have B:ec q e=U:=by simpa using B
  unfold wB;rw[Vc f g,ζb,ζb];have k:(bh (match(bO t).find? (nu 3 e.d?)with|some x=>(x.1,U)|none=>((⟨0,0⟩:bf),O)).2 (_o (idx c (match(bO t).find? (nu 3 e.d?)with|some x=>(x.1,U)|none=>((⟨0,0⟩:bf),O)).1.proc) λT=>M (_s ((match(bO t).find? (nu 3 e.d?)with|some x=>(x.1,U)|none=>((⟨0,0⟩:bf),O)).1.index>T))) (M U):aX X')=M (nN t c.l e):=by unfold nN iC;cases m:(bO t).find? (nu 3 e.d?)with|none=>rfl|some x=>have⟨b__,j,⟨K,W,_⟩,v⟩:=dY.1 (yO m).1;have G:b__<_m c.l:=(by rw[d.1.1];exact(ζe.1 W).1);simp only[v,bq];rw[bA G,ζb,show((b__:Nat):Int).toNat=b__ from _l,ζd G,show(((j:Int)+1)==0)=O from by simp;omega,Bool.false_or];rfl
  rw[k,ζb,cm];refine⟨λC=>?_,λC=>(a_ _).2 ⟨_l,Q,by rw[u,B,C];rfl⟩⟩
  have⟨r,E,F⟩:=oE (s:=o) (x:=e.d?) a?
  rw[E,ζb,a_];exact⟨_l,Q,by rw[F,u,B,C,ζi];rfl⟩
 rintro⟨o,_,_⟩ ⟨e1,e2,z⟩;simp only at e1 e2 z;subst e1 e2;unfold jM.bl;rw[gA,br,a_];refine(a_ _).2 ⟨_l,?_⟩;rw[I?]at z;simp only[z]
theorem SM(a:VT t){p:Nat}{P:bT}(B:t.b?.l[p]?=M P):W P.c?.l<=64:=by have h:=a.ok.heads p (ζe.1 B).1;unfold tc at h;rw[B]at h;simp only at h;split at h;split at h;cases h;split at h;split at h;cases h;omega;rename_i u;exact _e h u;cases h
end
abbrev oU(m:aX Bool)(P:Prop):Prop:=Wp m λb=>(b=U↔P)
theorem oU.eq{m:aX X'}{P:Prop}(h:oU m P):∃b,m=M b/\(b=U↔P):=h
theorem oU.iff{m:aX X'}{P Q:Prop}(h:oU m P)(e:P↔Q):oU m Q:=h.mono λb u=>u.trans e
theorem Ra{b:X'}{P:Prop}(h:b=U↔P):oU (M b) P:=(a_ _).2 h
theorem oU.some{m:aX X'}{P:Prop}(h:oU m P):oU (m.bind λx=>Option.some x) P:=by have⟨b,u,h⟩:=h;rw[u];exact Ra h
theorem oU.same{m n:aX X'}{P:Prop}(h:oU m P)(k:oU n P):∃b,m=Option.some b/\n=Option.some b/\(b=U↔P):=by
 obtain⟨b,u,h⟩:=h;obtain⟨d,hd,k⟩:=k;have:b=d:=by rw[Bool.eq_iff_iff,h,k]
 subst this;exact⟨b,u,hd,h⟩
theorem oU.and{m n:aX X'}{P Q:Prop}(h:oU m P)(k:P->oU n Q){f:X'->aX X'}(B:∀b,f b=bh b (n.bind λx=>Option.some x) (Option.some O)):oU (m.bind f) (P/\Q):=by have⟨b,u,h⟩:=h;rw[u,ζb,B];cases b with|true=>exact((k (h.1 rfl)).some).iff ⟨λq=>⟨h.1 rfl,q⟩,λq=>q.2⟩|false=>exact Ra ⟨λe=>(nomatch e),λq=>(h.2 q.1).symm▸rfl⟩
def tW(a b:Rd):Prop:=W a=W b/\∀(p:Nat)(x y:Int),a[p]?=M x->b[p]?=M y->x<=y
section
variable{t:Z4}{A:cn 200 bC}
theorem ac9(a:Small t)(b:cu t=M U)(d:VT t)(e:fm t (bO t) A)(c:Zg):oU (tI t c) (Cons t A c.l):=by obtain⟨r,f,h⟩:=Vn a b d e c;unfold tI;rw[f,ζb];exact Ra (by rw[_j,h];exact Iff.rfl)
def uE(g:Int->Int->Int)(a b c:Rd):Prop:=W c=W a/\∀(p:Nat)(x y:Int),a[p]?=M x->b[p]?=M y->c[p]?=M (g x y)
def CO(x y:Int):Int:=if y>x then y else x
def Iw(x y:Int):Int:=if y<x then y else x
theorem uE.of(g:Int->Int->Int){a b:Rd}(h:W a=W b):uE g a b (I0 g a b):=⟨by simp[h],λp x y u w=>by rw[List.getElem?_zipWith,u,w]⟩
theorem uE.at_{g:Int->Int->Int}{a b c:Rd}(h:uE g a b c)(D:W a=W b){p:Nat}{z:Int}(B:c[p]?=M z):∃x y,a[p]?=M x/\b[p]?=M y/\z=g x y:=by
 have u:p<W a:=by rw[<-h.1];exact(ζe.1 B).1
 refine⟨a[p],b[p]' a?,ζd u,ζd a?,?_⟩;have:=h.2 p _ _ (ζd u) (ζd (show p<W b by omega));rw[B]at this;cases this;rfl
theorem wm(x y:Int):(CO x y=x/\y<=x)\/(CO x y=y/\x<=y):=by unfold CO;split<;>omega
theorem wQ(x y:Int):(Iw x y=x/\x<=y)\/(Iw x y=y/\y<=x):=by unfold Iw;split<;>omega
theorem join_cons{a b c:Rd}(B:Cons t A a)(D:Cons t A b)(h:uE CO a b c):Cons t A c:=by have L:W a=W b:=B.1.1.trans D.1.1.symm;refine⟨⟨h.1.trans B.1.1,λp z P C o=>?_⟩,λp k e z Q C f w=>?_⟩;obtain⟨x,y,G,I,rfl⟩:=h.at_ L C;have i:=B.1.2 p x P G o;have m:=D.1.2 p y P I o;rcases wm x y with⟨e,_⟩|⟨e,_⟩<;>rw[e]<;>assumption;obtain⟨x,y,G,I,rfl⟩:=h.at_ L C;rcases wm x y with⟨S,_⟩|⟨S,_⟩<;>rw[S]at f;have⟨u,d,j⟩:=B.2 p k e x Q G f w;have T:=(ζe.1 d).1;have g:=ζd (show(ag A e.d?).from_.proc.toNat<W b by omega);exact⟨_,h.2 _ _ _ d g,by rcases wm u b[(ag A e.d?).from_.proc.toNat]with⟨e2,_⟩|⟨e2,_⟩<;>rw[e2]<;>omega⟩;have⟨u,d,j⟩:=D.2 p k e y Q I f w;have T:=(ζe.1 d).1;have g:=ζd (show(ag A e.d?).from_.proc.toNat<W a by omega);exact⟨_,h.2 _ _ _ g d,by rcases wm a[(ag A e.d?).from_.proc.toNat] u with⟨e2,_⟩|⟨e2,_⟩<;>rw[e2]<;>omega⟩
theorem adt{a b c:Rd}(B:Cons t A a)(D:Cons t A b)(h:uE Iw a b c):Cons t A c:=by
 have Q:W a=W b:=B.1.1.trans D.1.1.symm;refine⟨⟨h.1.trans B.1.1,λp z P C S=>?_⟩,λp k e z T C g w=>?_⟩;obtain⟨x,y,G,I,rfl⟩:=h.at_ Q C;have i:=B.1.2 p x P G S;have X:=D.1.2 p y P I S;rcases wQ x y with⟨e,_⟩|⟨e,_⟩<;>rw[e]<;>assumption;obtain⟨x,y,G,I,rfl⟩:=h.at_ Q C;have j:(k:Int)<x:=by rcases wQ x y with⟨L,_⟩|⟨L,_⟩<;>omega
 have o:(k:Int)<y:=by rcases wQ x y with⟨L,_⟩|⟨L,_⟩<;>omega
 have⟨u,d,q⟩:=B.2 p k e x T G j w;have⟨v,f,m⟩:=D.2 p k e y T I o w;exact⟨_,h.2 _ _ _ d f,by rcases wQ u v with⟨e2,_⟩|⟨e2,_⟩<;>rw[e2]<;>omega⟩
theorem tW.trans{a b c:Rd}(h:tW a b)(k:tW b c):tW a c:=by
 refine⟨h.1.trans k.1,λp x z u w=>?_⟩;have B:p<W b:=by rw[<-h.1];exact(ζe.1 u).1
 have e:=ζd B;exact Int.le_trans (h.2 p x _ u e) (k.2 p _ z e w)
theorem tW.refl(a:Rd):tW a a:=⟨Y,λp x y w u=>by rw[w]at u;cases u;exact Int.le_refl _⟩
theorem uE.le_max{a b c:Rd}(h:uE CO a b c)(D:W a=W b):tW a c/\tW b c/\∀d,tW a d->tW b d->tW c d:=by refine⟨⟨h.1.symm,λp x z G u=>?_⟩,⟨D.symm.trans h.1.symm,λp y z I u=>?_⟩,λd g i=>⟨h.1.trans g.1,λp z w u L=>?_⟩⟩;obtain⟨Q,y,B,I,rfl⟩:=h.at_ D u;rw[G]at B;cases B;rcases wm x y with⟨e2,_⟩|⟨e2,_⟩<;>rw[e2]<;>omega;obtain⟨x,S,G,C,rfl⟩:=h.at_ D u;rw[I]at C;cases C;rcases wm x y with⟨e2,_⟩|⟨e2,_⟩<;>rw[e2]<;>omega;obtain⟨x,y,G,I,rfl⟩:=h.at_ D u;have e:=g.2 p x w G L;have T:=i.2 p y w I L;rcases wm x y with⟨e2,_⟩|⟨e2,_⟩<;>rw[e2]<;>assumption
theorem uE.le_min{a b c:Rd}(h:uE Iw a b c)(D:W a=W b):tW c a/\tW c b/\∀d,tW d a->tW d b->tW d c:=by refine⟨⟨h.1,λp z x u G=>?_⟩,⟨h.1.trans D,λp z y u I=>?_⟩,λd g i=>⟨g.1.trans h.1.symm,λp w z L u=>?_⟩⟩;obtain⟨Q,y,B,I,rfl⟩:=h.at_ D u;rw[G]at B;cases B;rcases wQ x y with⟨e2,_⟩|⟨e2,_⟩<;>rw[e2]<;>omega;obtain⟨x,S,G,C,rfl⟩:=h.at_ D u;rw[I]at C;cases C;rcases wQ x y with⟨e2,_⟩|⟨e2,_⟩<;>rw[e2]<;>omega;obtain⟨x,y,G,I,rfl⟩:=h.at_ D u;have e:=g.2 p w x L G;have T:=i.2 p w y L I;rcases wQ x y with⟨e2,_⟩|⟨e2,_⟩<;>rw[e2]<;>assumption
theorem uE.one{g:Int->Int->Int}{a b c d:Rd}(h:uE g a b c)(k:uE g a b d)(B:W a=W b):c=d:=by refine Y! λp=>?_;by_cases u:p<W a;rw[h.2 p _ _ (ζd u) (ζd a?),k.2 p _ _ (ζd u) (ζd a?)];rw[F! (by rw[h.1];omega),F! (by rw[k.1];omega)]
def bX(l:Sl X')(i:Nat):X':=(l.l[i]?).getD O
def trc(L:aY Rd)(l:Sl X')(c:Rd):X':=bX l (L.idxOf c)
theorem mU{l:Sl X'}{i:Nat}(h:i<W l.l):idx l (i:Int)=M (bX l i):=by rw[gp,ζd h];unfold bX;rw[ζd h];rfl
def RN(L:aY Rd)(l:Sl X')(F:Rd->Rd->X')(i k:Nat):Prop:=∀a b,L[i]?=M a->L[k]?=M b->bX l i=U->bX l k=U->F a b=U
def ad8(L:aY Rd)(l:Sl X')(F:Rd->Rd->X')(i k:Nat)(a b:Rd):Prop:=i<k/\L[i]?=M a/\L[k]?=M b/\bX l i=U/\bX l k=U/\F a b=O/\(∀u,i<u->u<k->RN L l F i u)/\∀w u,w<i->w<u->RN L l F w u
theorem TG{s:Zb}{p:Zg->aX X'}{f:Zg->X'}(hp:∀x∈s.l,p x=M (f x))(B:W s.l<1073741824):fQ s p=M (place f s.l):=s7 hp a? (λi=>rfl)
theorem C8 {c:aY Int}:∀{l:aY (Sl Int)},c∈l.map Sl.l->place (λd=>decide (c=d.l)) l=((l.map Sl.l).idxOf c:Int):=by
 intro l h;have key:∀l:aY (Sl Int),c∈l.map Sl.l->l.findIdx? (λd=>decide (c=d.l))=some ((l.map Sl.l).idxOf c):=by
  intro l
  induction l with
  | nil=>intro h;simp at h
  | cons x l u=>
   intro h;rw[List.findIdx?_cons,List.map_cons,List.idxOf_cons]
   by_cases e:c=x.l
   .rw[_c e,show (x.l==c)=true from by simpa using e.symm];rfl
   rw[_b e,show (x.l==c)=false from beq_eq_false_iff_ne.2 λk=>e k.symm]
   rw[List.map_cons]at h;rw[u ((List.mem_cons.1 h).resolve_left e)];rfl
 unfold place;rw[key l h]
theorem UN(j:Small t)(h:cu t=M U)(i:VT t)(k:fm t (bO t) A){L:aY Rd}{r:Zb}(B:eG t A L)(D:W L<=5000)(l:oq t=M (r,0))(a:ins r=L){c:Zg}(g:Cons t A c.l):
 zM t c=M ((L.idxOf c.l:Int),0):=by
 have I:=i.few;have C:=g.1.1;have⟨b,G,w⟩:=oU.eq (ac9 j h i k c);have e:b=U:=w.2 g;subst e;have z:vt t (Sl.row [c]:Zb)=M 0:=by
  unfold vt;rw[h,ζb,bq,zg (f:=λd=>_s (d.l≠c.l)) (λx u=>by
   have u:x=c:=by simpa[Sl.l]using u
   subst u;unfold sD;rw[G];simp) (by simp[Sl.l])]
  simp[Sl.l,bh]
 unfold zM;rw[z,ζb,show((0:Int)==0)=U from Y,bq,l,ζb];simp only;rw[show((0:Int)==0)=U from Y,bq];rw[TG (f:=λd=>_s (c.l=d.l)) (λx u=>by
  unfold vv;rw[LZ a?];rfl) (by rw[<-j9,a];omega)]
 rw[C8 (by rw[show r.l.map Sl.l=L from a];exact(B.mem _).2 g),show r.l.map Sl.l=L from a];rfl
theorem JX{L:aY Rd}(h:L.Nodup){i:Nat}{c:Rd}(a:L[i]?=M c):L.idxOf c=i:=by have⟨hi,e⟩:=ζe.1 a;rw[<-e];exact Nodup.idxOf_getElem h i hi
theorem Oo{L:aY Rd}{c:Rd}(h:c∈L):L[L.idxOf c]?=M c:=by have hi:=List.idxOf_lt_length_of_mem h;rw[ζd hi,List.getElem_idxOf]
theorem uE.zip{g:Int->Int->Int}{a b c:Rd}(h:uE g a b c)(B:W a=W b):c=I0 g a b:=by refine h.one ⟨by simp[B],λp x y u w=>?_⟩ B;rw[List.getElem?_zipWith,u,w]
def aeu(L:aY Rd)(l:Sl X')(a b:Rd):X':=trc L l (I0 Iw a b)
def aex(L:aY Rd)(l:Sl X')(a b:Rd):X':=trc L l (I0 CO a b)
end
def Er(L:aY Rd)(c:Rd):ST:=(C! (W c)).filterMap λp=>if bump c p 1∈L then M (L.idxOf (bump c p 1))else J
theorem ES{c:Rd}{p:Nat}{d:Int}:W (bump c p d)=W c:=by unfold bump;simp
theorem Ve{c:Rd}{p:Nat}(h:p<W c):(bump c p 1).sum=c.sum+1:=by unfold bump;have a:c[p]?=M c[p]:=ζd h;rw[wz a,a];simp;omega
theorem N9{L:aY Rd}{c:Rd}{k:Nat}:k∈Er L c↔∃p,p<W c/\bump c p 1∈L/\k=L.idxOf (bump c p 1):=by
 unfold Er;rw[List.mem_filterMap];constructor;rintro⟨p,u,h⟩;split at h;next w=>cases h;exact⟨p,mem_range.1 u,w,Y⟩
 cases h;rintro⟨p,u,w,rfl⟩;exact⟨p,mem_range.2 u,by rw[L' w]⟩
section
variable{t:Z4}{A:cn 200 bC}{L:aY Rd}
theorem eG.nodup(h:eG t A L):L.Nodup:=fD.nodup h.srt
theorem eG.lt(h:eG t A L){i k:Nat}{c d:Rd}(hi:L[i]?=M c)(a:L[k]?=M d)(B:c.sum<d.sum):i<k:=by rcases Nat.lt_trichotomy i k with g|g|g;exact g;subst g;rw[hi]at a;cases a;omega;obtain⟨u,rfl⟩:=ζe.1 hi;obtain⟨w,rfl⟩:=ζe.1 a;exact _e ((List.pairwise_iff_getElem.1 h.srt k i w u g).tr (fD.sum B)) (fD.LS _)
theorem TU(h:eG t A L){i k:Nat}{c:Rd}(hi:L[i]?=M c)(a:k∈Er L c):i<k/\k<W L:=by obtain⟨p,w,u,rfl⟩:=N9.1 a;exact⟨h.lt hi (Oo u) (by rw[Ve w];omega),List.idxOf_lt_length_of_mem u⟩
theorem eG.len(h:eG t A L){c:Rd}(a:c∈L):W c=W t.b?.l:=((h.mem _).1 a).1.1
end
section
variable{L:aY Rd}{f:Nat->X'}
inductive Rc(L:List (List Int))(f:Nat->Bool):Nat->Prop
 |zero:Rc L f 0|step{i k:Nat}{c:List Int}:Rc L f i->f i=false->L[i]?=some c->k∈Er L c->Rc L f k
def aaw(L:aY Rd):Prop:=∀(i k:Nat)c,L[i]?=M c->k∈Er L c->i<k/\k<W L
open Classical in
end
def ps(L:aY Rd)(c:Rd)(n:Nat):ST:=(C! n).filter λp=>_s (bump c p 1∈L)
theorem HO{c:Rd}{p:Nat}{a:Int}(h:c[p]?=M a):bump c p 1=c.set p (a+1):=by unfold bump;rw[h];rfl
section
variable{t:Z4}{A:cn 200 bC}{L:aY Rd}
theorem aaw.of(B:eG t A L):aaw L:=λ_ _ _ h k=>TU B h k
end
end Go.VE
namespace Go.VE
theorem Q9{t:Z4}(A:cn 200 bC):Cons t A (replicate (W t.b?.l) (0:Int)):=by refine⟨⟨f?,λp a P u z=>?_⟩,λp k e a w u b B=>?_⟩;rw[t!]at u;split at u;cases u;constructor<;>omega;cases u;rw[t!]at u;split at u;cases u;omega;cases u
section
variable{L:aY Rd}{f:Nat->X'}
inductive SJ(L:List (List Int))(f:Nat->Bool):Nat->Prop
 |last:f (L.length-1)=false->SJ L f (L.length-1)|step{i k:Nat}{c:List Int}:f i=false->L[i]?=some c->k∈Er L c->SJ L f k->SJ L f i
theorem SJ.no{i:Nat}(h:SJ L f i):f i=O:=by cases h<;>assumption
end
section
variable{t:Z4}{A:cn 200 bC}{L:aY Rd}
end
end Go.VE
namespace Go.VE
end Go.VE
namespace Go.VE
theorem V_{κ ν:Type}[DecidableEq κ]{m:Mo κ ν}{k B:κ}{v z:ν}:vL (qy m k v) B z=if B=k then v else vL m B z:=by unfold vL;induction m with|nil=>unfold qy qq;by_cases h:B=k<;>simp[h,qq]|cons a m C=>have⟨a,w⟩:=a;unfold qy;by_cases h:k=a;subst h;rw[L' Y];by_cases u:B=k;simp[qq,u];simp[qq,u];rw[M' h];by_cases u:B=a;have:B≠k:=λe=>h (e▸u);simp[qq,u,Ne.symm h];simp only[qq,M' u];exact C
theorem Jc:∀(l:Rd)(r:U'),(l.foldl (λr n=>r.push (E' n.toNat)) r).data.toList=r.data.toList++l.map λn=>E' n.toNat
 |[],r=>f?|a::l,r=>by rw[List.foldl_cons,Jc l];show(r.data.push _).toList++_=_;simp
theorem II(l:Rd):(tP l).data.toList=l.map λn=>E' n.toNat:=by unfold tP;rw[Jc];rfl
def Oy(l:Rd):Prop:=∀x∈l,0<=x/\x<256
theorem abt{a b:Int}(B:0<=a/\a<256)(D:0<=b/\b<256)(h:E' a.toNat=E' b.toNat):a=b:=by have:=_f UInt8.toNat h;simp[UInt8.toNat_ofNat']at this;omega
theorem Lr:∀{a b:Rd},Oy a->Oy b->(a.map λn=>E' n.toNat)=(b.map λn=>E' n.toNat)->a=b
 |[],[],_,_,_=>rfl|[],_::_,_,_,h=>by simp at h|_::_,[],_,_,h=>by simp at h|x::a,y::b,D,G,h=>by simp only[K?,List.cons.injEq]at h;rw[abt (D x f?) (G y f?) h.1,Lr (λz B=>D z (B? _ B)) (λz B=>G z (B? _ B)) h.2]
theorem Uy{a b:Rd}(B:Oy a)(D:Oy b)(h:tP a=tP b):a=b:=Lr B D (by rw[<-II,<-II,h])
section
variable{t:Z4}{A:cn 200 bC}{L:aY Rd}
theorem EE(b:VT t){c:Rd}(a:Cons t A c):Oy c:=λx z=>by
 obtain⟨p,w,rfl⟩:=mem_iff_getElem.1 z;have u:p<W t.b?.l:=by rw[<-a.1.1];exact w
 have d:=a.1.2 p _ _ (ζd w) (ζd u);have B:=SM b (ζd u);omega
end
end Go.VE
namespace Go.VE
section
variable{t:Z4}{A:cn 200 bC}{L:aY Rd}
theorem LC{c:Rd}{p:Nat}{a:Int}(h:c[p]?=M a)(q:Nat):(bump c p 1)[q]?=if p=q then M (a+1)else c[q]?:=by have u:=(ζe.1 h).1;unfold bump;rw[h,D?];by_cases e:p=q;subst e;rw[L' Y,L' Y,L' u];rfl;rw[M' e,M' e]
theorem Y1(g:VT t)(h:fm t (bO t) A)(D:eG t A L){c e:Rd}(a:Cons t A c)(G:tW c e):∀(n:Nat){d:Rd},Cons t A d->tW d e->d.sum<=(n:Int)->¬tW d c->∃p,p<W c/\bump c p 1∈L/\tW (bump c p 1) e
 |n,d,m,B,hs,T=>by have o:W d=W c:=m.1.1.trans a.1.1.symm;have I:0<d.sum:=(by refine R? λi=>T ?_;have j:=m.1.sum.1;have f:=(Qk (t:=t) (A:=A) (z:=.row (replicate (W t.b?.l) 0)) _l d).2 ⟨m,by simp;omega⟩;have f:d=replicate (W t.b?.l) 0:=(by simpa[ins,Sl.l]using f);refine⟨o,λp x y u w=>?_⟩;rw[f,t!]at u;split at u;cases u;exact a.1.pos p y w;cases u);have⟨q,b,C,P,X⟩:=m.down g h I;have S:=(ζe.1 C).1;by_cases Q:tW (d.set q (b-1)) c;have F:=ζd (show q<W c by omega);have e1:=Q.2 q (b-1) _ (by rw[List.getElem?_set_self S]) F;have e2:∀p x y,p≠q->d[p]?=M x->c[p]?=M y->x<=y:=λp x y Y u w=>Q.2 p x y (by rw[List.getElem?_set_ne (Ne.symm Y)];exact u) w;have e3:b=c[q]+1:=(by refine R? λZ=>T ⟨o,λp x y u w=>?_⟩;by_cases e:p=q;subst e;rw[C]at u;cases u;rw[F]at w;cases w;omega;exact e2 p x y e u w);refine⟨q,a?,(D.mem _).2 (join_cons a m ⟨ES,λp x y u w=>?_⟩),⟨by rw[ES];exact G.1,λp x y u w=>?_⟩⟩;rw[LC F];by_cases e:q=p;subst e;rw[L' _l];rw[C]at w;cases w;rw[F]at u;cases u;unfold CO;simp;omega;rw[M' e,u];have:=e2 p y x (Ne.symm e) w u;unfold CO;simp;omega;rw[LC F]at u;by_cases e:q=p;subst e;rw[L' _l]at u;cases u;have:=B.2 q b y C w;omega;rw[M' e]at u;exact G.2 p x y u w;cases n with|zero=>omega|succ n=>refine Y1 g h D a G n X ⟨by rw[z6];exact B.1,λp x y u w=>?_⟩ (by rw[wz C];omega) Q;by_cases e:q=p;subst e;rw[List.getElem?_set_self S]at u;cases u;have:=B.2 q b y C w;omega;rw[List.getElem?_set_ne e]at u;exact B.2 p x y u w
end
theorem El{α:Type}{n:Nat}(z:α)(h:n<=2147483648):jQ (n:Int) z=M (.row (replicate n z)):=by unfold jQ;rw[L' a?];simp
end Go.VE
