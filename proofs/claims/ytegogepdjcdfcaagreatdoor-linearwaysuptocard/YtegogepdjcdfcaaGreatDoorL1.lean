/- The plain law. -/
import Derived.Test.YtegogepdjcdfcaaGreatDoorK1
import Derived.Test.YtegogepdjcdfcaaGreatDoorG1
set_option linter.all false
open Option renaming some→M,some→_j,none→J,none→_p,bind→H,bind→_n
open Bool renaming true→U,true→_m,false→O,false→_o
open Decidable renaming decide→_r
open List renaming length→W,length→_l
open Go.IntKind renaming i64→N,i64→_q
open List renaming countP_cons→I!,drop_eq_getElem_cons→V?,drop_of_length_le→E!,ext_getElem?→X!,finRange→V!,find?_append→f4,find?_eq_none→K!,getElem?_eq_none→G!,getElem?_map→k!,getElem?_set→C?,getElem?_take→D?,getElem_mem→t?,length_cons→U?,length_singleton→Y?,length_take→n!,mapM_cons→d8,map_append→v!,map_cons→J?,map_nil→b8,mem_append→M!,mem_append_left→e!,mem_cons→n8,mem_cons_of_mem→B?,mem_cons_self→F!,mem_of_getElem?→s?,mem_of_mem_take→Q?,mem_singleton→h!,pairwise_map→f8,range→w!,range'→G',sum_cons→z!,sum_nil→m7,take_add_one→P?,take_append_drop→g!,take_length→M?,take_of_length_le→a!,zipWith→u!
open Option renaming bind_eq_bind→L!,getD_some→H!,pure_def→c9
open Go.IntKind renaming wrap→w?
open Nat renaming le_refl→y?,zero_le→R?
open Bool renaming false_eq_true→v?,not_eq_true'→Z?,or_eq_false_iff→i!,or_eq_true→q!
open ByteArray renaming toList→E?
open Classical renaming byContradiction→I?
open Int renaming toNat_natCast→t!
open UInt8 renaming ofNat→H3
open List(Nodup Pairwise all_eq_true map_map mem_iff_getElem mem_map mem_range pairwise_append pairwise_cons replicate)
open Option(getD_none)
open Nat(le)
open Nat(le)
open Nat(le)
open Nat(le)
open Relation(TransGen)
open Nat(le)
open Int(toNat)
open Nat(le)
namespace Go.VE
theorem r?{p:Prop}(h:p:=by kernel_rfl):p:=h
instance:cz Var where
 wt x:=cz.wt x.name+cz.wt x.init_+1
 ok x:=cz.ok x.name/\cz.ok x.init_/\True
instance:cz Assign where
 wt x:=cz.wt x.var+cz.wt x.value+1
 ok x:=cz.ok x.var/\cz.ok x.value/\True
instance:cz WF where
 wt x:=cz.wt x.kind+cz.wt x.k?+cz.wt x.d?+cz.wt x.time+cz.wt x.assign+1
 ok x:=cz.ok x.kind/\cz.ok x.k?/\cz.ok x.d?/\cz.ok x.time/\cz.ok x.assign/\True
instance:cz bS where
 wt x:=cz.wt x.name+cz.wt x.g?+cz.wt x.b?+1
 ok x:=cz.ok x.name/\cz.ok x.g?/\cz.ok x.b?/\True
instance:cz Z4 where
 wt x:=cz.wt x.a?+1
 ok x:=cz.ok x.a?/\True
instance:cz bX where
 wt x:=cz.wt x.low+cz.wt x.high+1
 ok x:=cz.ok x.low/\cz.ok x.high/\True
instance:cz cr where
 wt x:=cz.wt x.t+cz.wt x.counts+cz.wt x.values+1
 ok x:=cz.ok x.t/\cz.ok x.counts/\cz.ok x.values/\True
mutual
def Pred.wtR:T'->Nat
 |⟨f0,f1,B,D,G,f5⟩=>cz.wt f0+cz.wt f1+cz.wt B+cz.wt D+cz.wt G+Pred.Xo f5+1
def Pred.Xo:Sl T'->Nat
 |.nil=>1|.emp=>1|.row l=>Pred.Mb l+1|.part l=>Pred.Mb l+1
def Pred.Mb:aX T'->Nat
 |[]=>0|x::r=>Pred.wtR x+Pred.Mb r
end
mutual
def Pred.okR:T'->Prop
 |⟨f0,f1,B,D,G,f5⟩=>cz.ok f0/\cz.ok f1/\cz.ok B/\cz.ok D/\cz.ok G/\Pred.okS f5/\True
def Pred.okS:Sl T'->Prop
 |.nil=>True|.emp=>False|.row l=>Pred.Xj l|.part l=>Pred.Xj l
def Pred.Xj:aX T'->Prop
 |[]=>True|x::r=>Pred.okR x/\Pred.Xj r
end
instance:cz T' where
 wt:=Pred.wtR
 ok:=Pred.okR
theorem Pred.Ic:∀l:aX T',Pred.Mb l=(l.map cz.wt).sum
 |[]=>rfl|x::r=>by simp only[Pred.Mb,J?,z!,Pred.Ic r];rfl
theorem Pred.wtE(s:Sl T'):Pred.Xo s=cz.wt s:=by cases s with|nil=>rfl|emp=>rfl|row l=>show Pred.Mb l+1=(l.map cz.wt).sum+1;rw[Pred.Ic]|part l=>show Pred.Mb l+1=(l.map cz.wt).sum+1;rw[Pred.Ic]
theorem Pred.HF:∀l:aX T',(∀x∈l,cz.ok x)->Pred.Xj l
 |[],_=>trivial|x::r,h=>⟨h x (F! ..),Pred.HF r λy B=>h y (B? _ B)⟩
theorem Pred.okE(s:Sl T')(h:cz.ok s):Pred.okS s:=by cases s with|nil=>trivial|emp=>exact h.2 rfl|row l=>exact Pred.HF l h.1|part l=>exact Pred.HF l h.1
end Go.VE
namespace Go.VE.YtegogepdjcdfcaaGreatDoor
open Go.Proofs Go.Proofs.YtegogepdjcdfcaaGreatDoor
instance rd9:Reads Tryz.prog 9 U':=Reads.str Tryz.underlying9 r?
instance rd3:Reads Tryz.prog 3 Int:=Reads.int Tryz.underlying3 r?
instance afi:Reads Tryz.prog 46 Var:=by refine Reads.st Tryz.underlying46 r? Y ?_;intro m enc w j? a c u cs l I h;simp only[d8,List.mapM_nil,c9,L!,ζg,ζa]at h;obtain⟨z,g,L,⟨B,e,j,rfl,rfl⟩,rfl⟩:=h;have⟨a0,C,k0,Q⟩:=Reads.rd (P:=Tryz.prog) (t:=9) (α:=U') (d:=z.1) (ps:=z.2) g;rw[show Tryz.prog.cellsOf 9=1 from by kernel_rfl]at C;have⟨a1,D,k1,S⟩:=Reads.rd (P:=Tryz.prog) (t:=3) (α:=Int) (d:=B.1) (ps:=B.2) e;rw[show Tryz.prog.cellsOf 3=1 from by kernel_rfl]at D;refine⟨⟨a0,a1⟩,fV.fin (n:=2) (fV.seg (o:=1) (n:=1) (fV.seg (o:=0) (n:=1) (show fV (snap w) [] (cs.take 0)from by simpa using fV.nil) C) D) I,⟨k0,k1,trivial⟩,λb G=>?_⟩;have T:=Q b G;have i:=S b G;show cz.wt a0+cz.wt a1+1<=_;simp only[J?,b8,z!,m7];omega
instance aff:Reads Tryz.prog 47 (Sl Var):=Reads.sl (e:=46) Tryz.underlying47 r? (by decide)
instance afe:Reads Tryz.prog 49 Assign:=by refine Reads.st Tryz.underlying49 r? Y ?_;intro m enc w j? a c u cs l I h;simp only[d8,List.mapM_nil,c9,L!,ζg,ζa]at h;obtain⟨z,g,L,⟨B,e,j,rfl,rfl⟩,rfl⟩:=h;have⟨a0,C,k0,Q⟩:=Reads.rd (P:=Tryz.prog) (t:=3) (α:=Int) (d:=z.1) (ps:=z.2) g;rw[show Tryz.prog.cellsOf 3=1 from by kernel_rfl]at C;have⟨a1,D,k1,S⟩:=Reads.rd (P:=Tryz.prog) (t:=3) (α:=Int) (d:=B.1) (ps:=B.2) e;rw[show Tryz.prog.cellsOf 3=1 from by kernel_rfl]at D;refine⟨⟨a0,a1⟩,fV.fin (n:=2) (fV.seg (o:=1) (n:=1) (fV.seg (o:=0) (n:=1) (show fV (snap w) [] (cs.take 0)from by simpa using fV.nil) C) D) I,⟨k0,k1,trivial⟩,λb G=>?_⟩;have T:=Q b G;have i:=S b G;show cz.wt a0+cz.wt a1+1<=_;simp only[J?,b8,z!,m7];omega
instance afk:Reads Tryz.prog 50 (Sl Assign):=Reads.sl (e:=49) Tryz.underlying50 r? (by decide)
instance afb:Reads Tryz.prog 52 WF:=by refine Reads.st Tryz.underlying52 r? _k ?_;intro H enc w j? a c z cs l S h;simp only[d8,List.mapM_nil,c9,L!,ζg,ζa]at h;obtain⟨B,T,a__,⟨C,e,W,⟨x2,X,Y,⟨D,Z,p,⟨G,f,q,rfl,rfl⟩,rfl⟩,rfl⟩,rfl⟩,rfl⟩:=h;have⟨a0,I,k0,g⟩:=Reads.rd (P:=Tryz.prog) (t:=3) (α:=Int) (d:=B.1) (ps:=B.2) T;rw[show Tryz.prog.cellsOf 3=1 from by kernel_rfl]at I;have⟨a1,F,k1,i⟩:=Reads.rd (P:=Tryz.prog) (t:=3) (α:=Int) (d:=C.1) (ps:=C.2) e;rw[show Tryz.prog.cellsOf 3=1 from by kernel_rfl]at F;have⟨a2,L,k2,j⟩:=Reads.rd (P:=Tryz.prog) (t:=3) (α:=Int) (d:=x2.1) (ps:=x2.2) X;rw[show Tryz.prog.cellsOf 3=1 from by kernel_rfl]at L;have⟨a3,b__,k3,k⟩:=Reads.rd (P:=Tryz.prog) (t:=3) (α:=Int) (d:=D.1) (ps:=D.2) Z;rw[show Tryz.prog.cellsOf 3=1 from by kernel_rfl]at b__;have⟨a4,Q,k4,m⟩:=Reads.rd (P:=Tryz.prog) (t:=50) (α:=(Sl Assign)) (d:=G.1) (ps:=G.2) f;rw[show Tryz.prog.cellsOf 50=1 from by kernel_rfl]at Q;refine⟨⟨a0,a1,a2,a3,a4⟩,fV.fin (n:=5) (fV.seg (o:=4) (n:=1) (fV.seg (o:=3) (n:=1) (fV.seg (o:=2) (n:=1) (fV.seg (o:=1) (n:=1) (fV.seg (o:=0) (n:=1) (show fV (snap w) [] (cs.take 0)from by simpa using fV.nil) I) F) L) b__) Q) S,⟨k0,k1,k2,k3,k4,trivial⟩,λb u=>?_⟩;have r:=g b u;have s:=i b u;have v:=j b u;have x:=k b u;have y:=m b u;show cz.wt a0+cz.wt a1+cz.wt a2+cz.wt a3+cz.wt a4+1<=_;simp only[J?,b8,z!,m7];omega
instance afj:Reads Tryz.prog 53 (Sl WF):=Reads.sl (e:=52) Tryz.underlying53 r? (by decide)
instance afd:Reads Tryz.prog 55 bS:=by refine Reads.st Tryz.underlying55 r? Y ?_;intro y enc w j? a c z cs l g h;simp only[d8,List.mapM_nil,c9,L!,ζg,ζa]at h;obtain⟨B,L,j,⟨C,e,Q,⟨x2,S,T,rfl,rfl⟩,rfl⟩,rfl⟩:=h;have⟨a0,D,k0,i⟩:=Reads.rd (P:=Tryz.prog) (t:=9) (α:=U') (d:=B.1) (ps:=B.2) L;rw[show Tryz.prog.cellsOf 9=1 from by kernel_rfl]at D;have⟨a1,G,k1,q⟩:=Reads.rd (P:=Tryz.prog) (t:=47) (α:=(Sl Var)) (d:=C.1) (ps:=C.2) e;rw[show Tryz.prog.cellsOf 47=1 from by kernel_rfl]at G;have⟨a2,I,k2,X⟩:=Reads.rd (P:=Tryz.prog) (t:=53) (α:=(Sl WF)) (d:=x2.1) (ps:=x2.2) S;rw[show Tryz.prog.cellsOf 53=1 from by kernel_rfl]at I;refine⟨⟨a0,a1,a2⟩,fV.fin (n:=3) (fV.seg (o:=2) (n:=1) (fV.seg (o:=1) (n:=1) (fV.seg (o:=0) (n:=1) (show fV (snap w) [] (cs.take 0)from by simpa using fV.nil) D) G) I) g,⟨k0,k1,k2,trivial⟩,λb u=>?_⟩;have m:=i b u;have Z:=q b u;have f:=X b u;show cz.wt a0+cz.wt a1+cz.wt a2+1<=_;simp only[J?,b8,z!,m7];omega
instance afg:Reads Tryz.prog 22 (Sl bS):=Reads.sl (e:=55) Tryz.underlying22 r? (by decide)
instance afl:Reads Tryz.prog 24 Z4:=by refine Reads.st Tryz.underlying24 r? Y ?_;intro i enc w j? a c u cs l C h;simp only[d8,List.mapM_nil,c9,L!,ζg,ζa]at h;obtain⟨z,D,G,rfl,rfl⟩:=h;have⟨a0,B,k0,I⟩:=Reads.rd (P:=Tryz.prog) (t:=22) (α:=(Sl bS)) (d:=z.1) (ps:=z.2) D;rw[show Tryz.prog.cellsOf 22=1 from by kernel_rfl]at B;refine⟨⟨a0⟩,fV.fin (n:=1) (fV.seg (o:=0) (n:=1) (show fV (snap w) [] (cs.take 0)from by simpa using fV.nil) B) C,⟨k0,trivial⟩,λb g=>?_⟩;have L:=I b g;show cz.wt a0+1<=_;simp only[J?,b8,z!,m7];omega
theorem abg:∀B,uC Tryz.prog 27 Pred B:=by
 intro B;induction B using Nat.strongRecOn with|ind B T=>
 cases B with|zero=>intro H enc w j? a c cs d ps h;simp[DataW.trod]at h|succ B=>
 refine uC.st Tryz.underlying27 r? ?_;intro H enc w j? a c cs l c__ h;simp only[d8,List.mapM_nil,c9,L!,ζg,ζa]at h;obtain⟨C,W,X,⟨D,f,Y,⟨x2,Z,x,⟨G,i,y,⟨I,j,A,⟨x5,k,E,rfl,rfl⟩,rfl⟩,rfl⟩,rfl⟩,rfl⟩,rfl⟩:=h;have⟨a0,b__,k0,m⟩:=Reads.rd (P:=Tryz.prog) (t:=3) (α:=Int) (d:=C.1) (ps:=C.2) W;rw[show Tryz.prog.cellsOf 3=1 from by kernel_rfl]at b__;have⟨a1,L,k1,p⟩:=Reads.rd (P:=Tryz.prog) (t:=3) (α:=Int) (d:=D.1) (ps:=D.2) f;rw[show Tryz.prog.cellsOf 3=1 from by kernel_rfl]at L;have⟨a2,d__,k2,q⟩:=Reads.rd (P:=Tryz.prog) (t:=3) (α:=Int) (d:=x2.1) (ps:=x2.2) Z;rw[show Tryz.prog.cellsOf 3=1 from by kernel_rfl]at d__;have⟨a3,Q,k3,r⟩:=Reads.rd (P:=Tryz.prog) (t:=3) (α:=Int) (d:=G.1) (ps:=G.2) i;rw[show Tryz.prog.cellsOf 3=1 from by kernel_rfl]at Q;have⟨a4,S,k4,s⟩:=Reads.rd (P:=Tryz.prog) (t:=9) (α:=U') (d:=I.1) (ps:=I.2) j;rw[show Tryz.prog.cellsOf 9=1 from by kernel_rfl]at S;have⟨a5,z,k5,v⟩:=uC.slF (t:=25) (e:=27) (α:=T') Tryz.underlying25 r? (by decide) (λg F=>T g c?) (show _=M (x5.1,x5.2)from k);rw[show Tryz.prog.cellsOf 25=1 from by kernel_rfl]at z;rw[xP _k,<-Pred.eW]at z;refine⟨⟨a0,a1,a2,a3,a4,a5⟩,fV.fin (n:=6) (fV.seg (o:=5) (n:=1) (fV.seg (o:=4) (n:=1) (fV.seg (o:=3) (n:=1) (fV.seg (o:=2) (n:=1) (fV.seg (o:=1) (n:=1) (fV.seg (o:=0) (n:=1) (show fV (snap w) [] (cs.take 0)from by simpa using fV.nil) b__) L) d__) Q) S) z) c__,⟨k0,k1,k2,k3,k4,Pred.okE _ k5,trivial⟩,λb u=>?_⟩;have K:=m b u;have a__:=p b u;have e__:=q b u;have R:=r b u;have V:=s b u;have w5:=v b u;show cz.wt a0+cz.wt a1+cz.wt a2+cz.wt a3+cz.wt a4+Pred.Xo a5+1<=_;rw[Pred.wtE];simp only[J?,b8,z!,m7];omega
instance afm:Reads Tryz.prog 27 T':=Reads.of Tryz.underlying27 r? Y abg
instance rd4:Reads Tryz.prog 4 X':=Reads.bool Tryz.underlying4 r?
instance afh:Reads Tryz.prog 28 (Sl X'):=Reads.sl (e:=4) Tryz.underlying28 r? (by decide)
instance afc:Reads Tryz.prog 29 Zg:=Reads.sl (e:=3) Tryz.underlying29 r? (by decide)
end Go.VE.YtegogepdjcdfcaaGreatDoor
namespace Go.VE
end Go.VE
namespace Go.VE
abbrev Md{α:Type}(m:aY α):Prop:=Wp m λ_=>True
theorem Md.get{α:Type}{m:aY α}(h:Md m):∃a,m=M a:=let⟨a,e,_⟩:=h;⟨a,e⟩
theorem Md.ok{m:aY X'}(h:Md m):m=M (m.getD O):=by have⟨a,e,_⟩:=h;rw[e];rfl
def Small(t:Z4):Prop:=W t.a?.l<1073741824/\∀p∈t.a?.l,W p.b?.l<1073741824/\W p.g?.l<1073741824/\p.name.size<1073741824/\(∀v∈p.g?.l,v.name.size<1073741824)/\∀e∈p.b?.l,W e.assign.l<1073741824
section
theorem Q7{s:Sl WF}{p:WF->aY X'}{f:WF->X'}(hp:∀x∈s.l,p x=M (f x))(B:W s.l<1073741824):gV s p=M (place f s.l):=uV hp c? (λi=>rfl)
theorem Sa{s:Sl bS}{p:bS->aY X'}{f:bS->X'}(hp:∀x∈s.l,p x=M (f x))(B:W s.l<1073741824):iG s p=M (place f s.l):=uV hp c? (λi=>rfl)
theorem EU{s:Sl Var}{p:Var->aY X'}{f:Var->X'}(hp:∀x∈s.l,p x=M (f x))(B:W s.l<1073741824):fR s p=M (place f s.l):=uV hp c? (λi=>rfl)
theorem NF{s:Sl Assign}{p:Assign->aY X'}{f:Assign->X'}(hp:∀x∈s.l,p x=M (f x))(B:W s.l<1073741824):gC s p=M (place f s.l):=uV hp c? (λi=>rfl)
theorem yj{s:Sl WF}{p:WF->aY X'}{f:WF->X'}(hp:∀x∈s.l,p x=M (f x))(B:W s.l<1073741824):hG s p=M (s.l.any f):=by unfold hG;rw[Q7 hp B,ζb,uZ]
theorem MH{s:Sl bS}{p:bS->aY X'}{f:bS->X'}(hp:∀x∈s.l,p x=M (f x))(B:W s.l<1073741824):jJ s p=M (s.l.any f):=by unfold jJ;rw[Sa hp B,ζb,uZ]
theorem Ej{s:Sl Var}{p:Var->aY X'}{f:Var->X'}(hp:∀x∈s.l,p x=M (f x))(B:W s.l<1073741824):iR s p=M (s.l.any f):=by unfold iR;rw[EU hp B,ζb,uZ]
theorem HT{s:Sl Assign}{p:Assign->aY X'}{f:Assign->X'}(hp:∀x∈s.l,p x=M (f x))(B:W s.l<1073741824):iZ s p=M (s.l.any f):=by unfold iZ;rw[NF hp B,ζb,uZ]
theorem rJ(x a b:Int):pT x a b=M (_r (a<=x)&&_r (x<=b)):=by unfold pT;rw[oZ];rfl
theorem Pk{s:U'}{i:Nat}(h:i<s.size):∃x,mK s (i:Int)=M x:=by unfold mK;rw[L' c?];exact⟨_,by rw[show(s[(i:Int).toNat]?)=M s[i]from by simp[h]];rfl⟩
def mL(n:Nat)(p:Int)(e:WF):Prop:=e.kind=1\/((e.kind=2\/e.kind=3)/\0<=e.k?/\e.k?<n/\e.k?≠p/\0<=e.d?/\e.d?<=199)
end
def mz(t:Z4)(p k:Nat)(e:WF):Prop:=∃P,t.a?.l[p]?=M P/\P.b?.l[k]?=M e
theorem xw{p:Int}{x:bf×WF}:∀{es:aX WF}{j:Int},x∈jU p j es↔∃k:Nat,es[k]?=M x.2/\x.1=⟨p,j+k+1⟩
 |[],j=>by simp[jU]|e::es,j=>by simp[jU,xw];constructor;rintro(rfl|⟨k,a,B⟩);exact⟨0,Y,f?⟩;exact⟨k+1,h?,h?⟩;grind
theorem yp{x:bf×WF}:∀{ps:aX bS}{i:Int},x∈gQ i ps↔∃(a k:Nat)(P:bS),ps[a]?=M P/\P.b?.l[k]?=M x.2/\x.1=⟨i+a,k+1⟩
 |[],i=>by simp[gQ]|p::ps,i=>by simp only[gQ,M!,xw,yp];constructor;rintro(⟨k,b,B⟩|⟨a,k,P,b,B,D⟩);exact⟨0,k,p,Y,b,h?⟩;exact⟨a+1,k,P,p?,B,h?⟩;grind
abbrev bJ(t:Trace):aX (bf×Event):=gQ 0 t.a?.l
theorem dU{t:Z4}{x:bf×WF}:x∈bJ t↔∃p k:Nat,mz t p k x.2/\x.1=⟨p,k+1⟩:=by rw[yp];constructor;rintro⟨a,k,P,b,u,w⟩;exact⟨a,k,⟨P,b,u⟩,h?⟩;rintro⟨a,k,⟨P,b,u⟩,w⟩;grind
theorem By{t:Z4}{x y:bf×WF}(B:x∈bJ t)(D:y∈bJ t)(h:x.1=y.1):x=y:=by have⟨p,k,⟨P,u,a⟩,e1⟩:=dU.1 B;have⟨q,j,⟨Q,w,z⟩,e2⟩:=dU.1 D;grind
theorem vj{t:Z4}(a:Small t):kN t=M (bJ t):=by unfold kN;rw[L'];simp[q_];exact⟨by have:=a.1;omega,λp u=>by have:=(a.2 p u).1;omega⟩
def vq(t:Z4)(p m a:Int):X':=match t.a?.l[p.toNat]?with
 |some P=>P.b?.l.any λe=>e.kind==2&&e.d?==m&&e.k?==a|none=>O
theorem UP{t:Z4}(b:Small t){p:Int}(B:0<=p)(c:p<W t.a?.l)(m a:Int):xe t p m a=M (vq t p m a):=by unfold xe;have u:p.toNat<W t.a?.l:=c?;have w:=t? u;rw[VX B,ζd u,ζb,yj (f:=λe=>e.kind==2&&e.d?==m&&e.k?==a) (λe _=>by unfold tf;simp[oZ]) (b.2 _ w).1,ζb];unfold vq;grind
theorem BF{t:Z4}{p:Nat}{m a:Int}:vq t p m a=U↔∃k e,mz t p k e/\e.kind=2/\e.d?=m/\e.k?=a:=by unfold vq mz;rw[show(p:Int).toNat=p from Y];cases w:t.a?.l[p]?with|none=>simp|some P=>simp;constructor;rintro⟨e,u,h⟩;have⟨k,b⟩:=List.getElem?_of_mem u;grind;grind
def ag(A:b_ 200 bu)(m:Int):bu:=(A.at m).getD default
theorem QV(A:b_ 200 bu){m:Int}(B:0<=m)(a:m<=199):A.at m=M (ag A m):=by
 have:m.toNat<W A.l:=by rw[A.len];omega
 unfold ag b_.at;grind
theorem tP(A:b_ 200 bu){m m':Int}(x:bu)(B:0<=m)(a:m<=199)(D:0<=m'):ag (A.set m x) m'=if m'=m then x else ag A m':=by
 have:m.toNat<W A.l:=by rw[A.len];omega
 unfold ag b_.at b_.set;grind
theorem TL{m:Int}(B:0<=m)(a:m<=199):ag (b_.R6 200 (⟨⟨0,0⟩,⟨0,0⟩⟩:bu)) m=⟨⟨0,0⟩,⟨0,0⟩⟩:=by unfold ag b_.at b_.R6;grind
structure eG(t:Trace)(its:List (bf×Event))(A:b_ 200 bu):Prop where
 snd:∀x∈its,x.2.kind=2->(ag A x.2.d?).from_=x.1
 rcv:∀x∈its,x.2.kind=3->(ag A x.2.d?).to_=x.1/\vq t x.2.k? x.2.d? x.1.proc=true
 fr:∀m,0<=m->m<=199->(ag A m).from_.index=0\/∃e,((ag A m).from_,e)∈its/\e.kind=2/\e.d?=m
 to:∀m,0<=m->m<=199->(ag A m).to_.index=0\/∃e,((ag A m).to_,e)∈its/\e.kind=3/\e.d?=m
def PN(a b:bf×WF):Prop:=a.1.proc<b.1.proc\/a.1.proc=b.1.proc/\a.1.index<b.1.index
theorem Tz{p:Int}:∀{es:aX WF}{j:Int},(jU p j es).Pairwise PN
 |[],_=>Pairwise.nil|e::es,j=>by simp only[jU,pairwise_cons];refine⟨λb B=>?_,Tz⟩;have⟨k,_,D⟩:=xw.1 B;refine .inr ⟨by rw[D],?_⟩;grind
theorem KW:∀{ps:aX bS}{i:Int},(gQ i ps).Pairwise PN
 |[],_=>Pairwise.nil|P::ps,i=>by simp only[gQ,pairwise_append];refine⟨Tz,KW,λa B b D=>.inl ?_⟩;have⟨k,_,G⟩:=xw.1 B;have⟨c,j,P,_,_,u⟩:=yp.1 D;grind
theorem Lp{t:Z4}{k:Nat}{x y:bf×WF}(B:(bJ t)[k]?=M x)(D:y∈(bJ t).take k):y.1≠x.1:=by
 have⟨a,u⟩:=ζe.1 B;have w:((bJ t).take k++(bJ t).drop k).Pairwise PN:=by rw[g!];exact KW
 have:=(pairwise_append.1 w).2.2 y D x (by rw[V? a,u];grind);unfold PN at this;grind
structure AL(t:Trace):Prop where
 snd:∀x∈bJ t,∀y∈bJ t,x.2.kind=2->y.2.kind=2->x.2.d?=y.2.d?->x.1=y.1
 rcv:∀x∈bJ t,∀y∈bJ t,x.2.kind=3->y.2.kind=3->x.2.d?=y.2.d?->x.1=y.1
 has:∀x∈bJ t,x.2.kind=3->vq t x.2.k? x.2.d? x.1.proc=true
theorem eG.A9{t:Z4}{A:b_ 200 bu}(h:eG t (bJ t) A):AL t:=⟨λx w y z k2 u B=>by rw[<-h.snd x w k2,<-h.snd y z u,B],λx w y z k2 u B=>by rw[<-(h.rcv x w k2).1,<-(h.rcv y z u).1,B],λx w k=>(h.rcv x w k).2⟩
theorem GG {t:Trace} (hS:Small t) (hF:∀x∈bJ t,mL t.a?.l.length x.1.proc x.2):Wp (fq t) λr=>(r.2.2=0->∃A,r.1=some A/\eG t (bJ t) A)/\(AL t->r.2.2=0):=by
 unfold fq kK;rw[ζb];unfold fq.E1;rw[vj hS,ζb];refine Bc (λk A=>eG t ((bJ t).take k) A) ⟨by simp,by simp,λm L h1=>.inl (by rw[TL L h1]),λm L h1=>.inl (by rw[TL L h1])⟩ ?_ ?_
 .intro k x A hx B;have G  := List.mem_of_getElem? hx;have T:(bJ t).take (k+1)=(bJ t).take k++[x]:=by rw[List.take_add_one,hx];rfl
  obtain⟨p,j,aa,ab⟩:=dU.1 G;have hf:=hF x G;unfold fq.lq;rw[b9];constructor
  .intro hk;have i:x.2.kind=2:=by grind
   have u:0<=x.2.d?/\x.2.d?<=199:=by
    rcases hf with h|⟨_,_,_,_,h⟩
    .omega
    simp_all
   rw[QV A u.1 u.2,ζb,b9];refine⟨λhg=>(a_ _).2 ((a_ _).2 ⟨λh=>(by cases h),λX=>?_⟩),λL=>?_⟩
   .rcases B.fr _ u.1 u.2 with Y|⟨e,Q,g,W⟩
    .grind
    exact _e (X.snd _ (List.mem_of_mem_take Q) x G g i W) (Lp hx Q)
   rw[ζb,a_,T];have old:∀y∈(bJ t).take k,y.2.kind=2->y.2.d?≠x.2.d?:=λy hy w Q=>by
    have:=B.snd y hy w;rw[Q]at this;obtain⟨p',j',_,S⟩:=dU.1 (List.mem_of_mem_take hy)
    grind
   have Z:∀y∈(bJ t).take k,y.2.kind=2\/y.2.kind=3->0<=y.2.d?:=λy hy w=>by
    rcases hF y (List.mem_of_mem_take hy)with h|⟨_,_,_,_,h,_⟩
    .omega
    simp_all
   refine⟨λy hy w=>?_,λy hy z=>?_,λm C I=>?_,λm C I=>?_⟩
   .rcases List.mem_append.1 hy with hy|hy
    .rw[tP A _ u.1 u.2 (Z y hy (.inl w)),M' (old y hy w)];exact B.snd y hy w
    simp at hy;subst hy;rw[tP A _ u.1 u.2 u.1,L' rfl]
   .rcases List.mem_append.1 hy with hy|hy
    .rw[tP A _ u.1 u.2 (Z y hy (.inr z))];have:=B.rcv y hy z
     grind
    grind
   .rw[tP A _ u.1 u.2 C];split
    next e=>exact .inr ⟨x.2,by simp,i,e.symm⟩
    exact(B.fr m C I).imp (λh=>h) λ⟨e,h1,D⟩=>⟨e,List.mem_append_left _ h1,D⟩
   rw[tP A _ u.1 u.2 C];have:=(B.to m C I).imp (λh=>h) λ⟨e,h1,D⟩=>(⟨e,List.mem_append_left [x] h1,D⟩:∃e,((ag A m).to_,e)∈(bJ t).take k++[x]/\e.kind=3/\e.d?=m)
   split
   next e=>subst e;omega
   omega
  intro hk;have i  := by simpa using hk
  rw[b9];constructor
  .intro hk;have d  := by simpa using hk
   have u:0<=x.2.d?/\x.2.d?<=199/\0<=x.2.k?/\x.2.k?<t.a?.l.length:=by
    rcases hf with h|⟨_,h1,D,_,h3,h4⟩
    .omega
    exact⟨h3,h4,h1,D⟩
   rw[QV A u.1 u.2.1,ζb,b9];refine⟨λhg=>(a_ _).2 ((a_ _).2 ⟨λh=>(by cases h),λX=>?_⟩),λL=>?_⟩
   .rcases B.to _ u.1 u.2.1 with Y|⟨e,Q,g,W⟩
    .simp[Y]at hg
    exact _e (X.rcv _ (List.mem_of_mem_take Q) x G g d W) (Lp hx Q)
   have L:¬(ag A x.2.d?).to_.index>0:=by simpa using L
   rw[UP hS u.2.2.1 u.2.2.2,ζb,b9];refine⟨λhs=>?_,λhs=>(a_ _).2 ((a_ _).2 ⟨λh=>(by cases h),λX=>by rw[X.has x G d]at hs;cases hs⟩)⟩
   rw[ζb,a_,T];have old:∀y∈(bJ t).take k,y.2.kind=3->y.2.d?≠x.2.d?:=λy hy w Q=>by
    have:=(B.rcv y hy w).1;rw[Q]at this;rw[this]at L;obtain⟨p',j',_,S⟩:=dU.1 (List.mem_of_mem_take hy);rw[S]at L;exact L (by show (j':Int)+1>0;omega)
   have Z:∀y∈(bJ t).take k,y.2.kind=2\/y.2.kind=3->0<=y.2.d?:=λy hy w=>by
    rcases hF y (List.mem_of_mem_take hy)with h|⟨_,_,_,_,h,_⟩
    .omega
    exact h
   refine⟨λy hy w=>?_,λy hy z=>?_,λm C I=>?_,λm C I=>?_⟩
   .rcases List.mem_append.1 hy with hy|hy
    .rw[tP A _ u.1 u.2.1 (Z y hy (.inl w))];have:=B.snd y hy w;split
     next e=>rw[e]at this;exact this
     exact this
    simp at hy;subst hy;omega
   .rcases List.mem_append.1 hy with hy|hy
    .rw[tP A _ u.1 u.2.1 (Z y hy (.inr z)),M' (old y hy z)];exact B.rcv y hy z
    simp at hy;subst hy;rw[tP A _ u.1 u.2.1 u.1,L' rfl];exact⟨rfl,hs⟩
   .rw[tP A _ u.1 u.2.1 C];have:=(B.fr m C I).imp (λh=>h) λ⟨e,h1,D⟩=>(⟨e,List.mem_append_left [x] h1,D⟩:∃e,((ag A m).from_,e)∈(bJ t).take k++[x]/\e.kind=2/\e.d?=m)
    split
    next e=>subst e;exact this
    exact this
   rw[tP A _ u.1 u.2.1 C];split
   next e=>exact .inr ⟨x.2,by simp,d,e.symm⟩
   exact(B.to m C I).imp (λh=>h) λ⟨e,h1,D⟩=>⟨e,List.mem_append_left _ h1,D⟩
  intro hk;have d  := by simpa using hk
  rw[a_,T];refine⟨λy hy w=>?_,λy hy z=>?_,λm C I=>?_,λm C I=>?_⟩
  .rcases List.mem_append.1 hy with hy|hy
   .exact B.snd y hy w
   simp at hy;subst hy;exact _e w i
  .rcases List.mem_append.1 hy with hy|hy
   .exact B.rcv y hy z
   simp at hy;subst hy;exact _e z d
  .exact(B.fr m C I).imp (λh=>h) λ⟨e,h1,D⟩=>⟨e,List.mem_append_left _ h1,D⟩
  exact(B.to m C I).imp (λh=>h) λ⟨e,h1,D⟩=>⟨e,List.mem_append_left _ h1,D⟩
 intro A hA;rw[List.take_length]at hA;exact(a_ _).2 ⟨λ_=>⟨A,rfl,hA⟩,λ_=>rfl⟩
def jT(f:Nat->X')(k n:Nat):X':=(G' k (n-k)).any f
theorem IF{f:Nat->X'}{k n:Nat}(h:k<n):jT f k n=(f k||jT f (k+1) n):=by unfold jT;rw[show n-k=(n-(k+1))+1 from c?,List.range'_succ];rfl
theorem VL{f:Nat->X'}{k n:Nat}(h:n<=k):jT f k n=O:=by unfold jT;rw[show n-k=0 from c?];rfl
theorem KP{f:Nat->X'}{k n:Nat}:jT f k n=U↔∃i,k<=i/\i<n/\f i=U:=by unfold jT;rw[List.any_eq_true];constructor;rintro⟨i,a,u⟩;rw[List.mem_range'_1]at a;exact⟨i,a.1,c?,u⟩;rintro⟨i,b,w,u⟩;exact⟨i,by rw[List.mem_range'_1];omega,u⟩
theorem Hv{step:Int->aY (Fw Int Unit Unit)}{n:Nat}(f:Nat->X')(D:n<9223372036854775807)(a:∀i:Nat,i<n->step i=M (if f i then .r ()else .n (w? N ((i:Int)+1))))(B:step (n:Int)=M (.x ())):
 ∀m k:Nat,k+m=n->bG step (k:Int)=M (if jT f k n then .r ()else .x ()):=by
 intro m
 induction m with
 |zero=>
  intro k b;have:k=n:=c?
  subst this;rw[eF,B,VL (y? _)];rfl
 |succ m u=>
  intro k b;rw[eF,a k c?,IF c?]
  cases w:f k with
  |true=>rfl|false=>
   simp only[v?,_a,ζb,Bool.false_or];rw[cm k c?]
   exact u (k+1) c?
def oQ(g:Nat->Int)(k n:Nat):Int:=match(G' k (n-k)).find? λi=> !(g i==0)with
 |some i=>g i|none=>0
theorem Iy{g:Nat->Int}{k n:Nat}(h:k<n):oQ g k n=if g k=0 then oQ g (k+1) n else g k:=by unfold oQ;rw[show n-k=(n-(k+1))+1 from c?,List.range'_succ,List.find?_cons];by_cases u:g k=0;simp[u];rw[M' u,show(!(g k==0))=U from by simp[u]]
theorem LH{g:Nat->Int}{k n:Nat}(h:n<=k):oQ g k n=0:=by unfold oQ;rw[show n-k=0 from c?];rfl
theorem Ji{g:Nat->Int}{n:Nat}:∀{m k:Nat},k+m=n->(oQ g k n=0↔∀i,k<=i->i<n->g i=0):=by intro m;induction m with|zero=>intro k b;rw[LH c?];exact⟨λ_ i a u=>c?,λ_=>rfl⟩|succ m z=>intro k b;rw[Iy c?];split;rename_i w;rw[z (show k+1+m=n by omega)];constructor;intro h i a u;by_cases e:i=k;subst e;exact w;exact h i c? u;intro h i a u;exact h i c? u;rename_i w;exact⟨λh=>_e h w,λh=>_e (h k (y? _) c?) w⟩
theorem YD{step:Int->aY (Fw Int Unit Int)}{n:Nat}(g:Nat->Int)(D:n<9223372036854775807)(a:∀i:Nat,i<n->step i=M (if g i=0 then .n (w? N ((i:Int)+1))else .r (g i)))(B:step (n:Int)=M (.x ())):
 ∀m k:Nat,k+m=n->bG step (k:Int)=M (if oQ g k n=0 then .x ()else .r (oQ g k n)):=by
 intro m
 induction m with
 |zero=>
  intro k b;have:k=n:=c?
  subst this;rw[eF,B,LH (y? _)];rfl
 |succ m w=>
  intro k b;rw[eF,a k c?,Iy c?]
  by_cases u:g k=0
  .simp only[u,N',ζb];rw[cm k c?]
   exact w (k+1) c?
  simp only[u,_a,ζb]
theorem Bj{step:Int->aY (Fw Int Unit Int)}{n:Nat}(g:Nat->Int)(B:n<9223372036854775807)(a:∀i:Nat,i<n->step i=M (if g i=0 then .n (w? N ((i:Int)+1))else .r (g i)))(D:step (n:Int)=M (.x ())):bG step 0=M (if oQ g 0 n=0 then .x ()else .r (oQ g 0 n)):=YD g B a D n 0 c?
theorem Fv{step:Int->aY (Fw Int Unit Unit)}{n:Nat}(f:Nat->X')(B:n<9223372036854775807)(a:∀i:Nat,i<n->step i=M (if f i then .r ()else .n (w? N ((i:Int)+1))))(D:step (n:Int)=M (.x ())):bG step 0=M (if jT f 0 n then .r ()else .x ()):=Hv f B a D n 0 c?
def AD(c:Int):X':=_r (c>=65)&&_r (c<=90)||decide (c>=97)&&_r (c<=122)
def ES(c:Int):X':=_r (c>=48)&&_r (c<=57)
theorem FU(c:Int):sW c=M (AD c):=by unfold sW AD;simp only[oZ,mP,ζb];rw[Bool.or_comm]
theorem Ga(c:Int):ru c=M (AD c):=by unfold ru AD;simp only[oZ,mP,ζb]
theorem SD(c:Int):wY c=M (ES c):=by unfold wY ES;simp only[oZ,ζb]
theorem SC(c:Int):vt c=M (ES c):=by unfold vt ES;simp only[oZ,ζb]
def zV(s:U')(i:Nat):Int:=(mK s (i:Int)).getD 0
theorem GB{s:U'}{i:Nat}(h:i<s.size):mK s (i:Int)=M (zV s i):=by have⟨x,u⟩:=Pk h;unfold zV;rw[u];rfl
def vi(s:U')(i:Nat):X':= !AD (zV s i)&& !ES (zV s i)&& !(zV s i==95)
def nS(s:U'):X':=_r (1<=s.size)&&_r (s.size<=16)&&AD (zV s 0)&& !jT (vi s) 0 s.size
theorem Q2{s:U'}{i:Nat}(h:i<s.size):iB.bh s (s.size:Int) i=M (if vi s i then .r ()else .n (w? N ((i:Int)+1))):=by unfold iB.bh vi;rw[show _r ((i:Int)<(s.size:Int))=U from by simpa using h,bq,GB h];simp only[ζb,FU,SD];cases AD (zV s i)<;>cases ES (zV s i)<;>cases(zV s i==95)<;>rfl
theorem QA{s:U'}{i:Nat}(h:i<s.size):ja.bh s i=M (if vi s i then .r ()else .n (w? N ((i:Int)+1))):=by unfold ja.bh vi;rw[show _r ((i:Int)<((ByteArray.size s:Nat):Int))=U from by simpa using h,bq,GB h];simp only[ζb,Ga,SC];cases AD (zV s i)<;>cases ES (zV s i)<;>cases(zV s i==95)<;>rfl
theorem toList_empty{s:U'}:(E? s==E? ByteArray.empty)=_r (s.size=0):=by
 rw[Bool.eq_iff_iff,_i,_g];constructor;intro h;have a:W (E? s)=s.size:=by rw[Go.ByteArray.toList_eq];simp
 rw[<-a,h];rw[Go.ByteArray.toList_eq];rfl;intro h;have:s=ByteArray.empty:=by apply ByteArray.ext;exact Array.eq_empty_of_size_eq_zero h
 rw[this]
theorem Jm{s:U'}(B:s.size<1073741824):iB s=M (nS s):=by
 unfold iB;rw[toList_empty];simp only[mP,ζb];by_cases w:s.size=0;simp[w,nS,bg];by_cases u:s.size<=16;have a:(_r (s.size=0)||decide (((ByteArray.size s:Nat):Int)>16))=O:=by simp[w];omega
 rw[a,bz,show(0:Int)=((0:Nat):Int)from Y,GB (show 0<s.size by omega)];simp only[ζb,FU];cases z:AD (zV s 0)with|false=>simp[nS,z,bg]|true=>simp only[Bool.not_true,bz];unfold iB.W1;rw[Hv (n:=s.size) (vi s) c? (λi b=>Q2 b) (by unfold iB.bh;simp[bg]) s.size 0 c?];have:nS s= !jT (vi s) 0 s.size:=(by simp[nS,z,u];omega);rw[this];cases jT (vi s) 0 s.size<;>rfl
 have a:(_r (s.size=0)||decide (((ByteArray.size s:Nat):Int)>16))=U:=by simp;omega
 rw[a,bq];simp[nS,u,bg]
theorem LR{s:U'}(D:s.size<1073741824):ja s=M (nS s):=by
 unfold ja;simp only[mP,ζb];by_cases B:s.size=0;simp[B,nS,bg];by_cases u:s.size<=16;have a:(_r (((ByteArray.size s:Nat):Int)<1)||decide (((ByteArray.size s:Nat):Int)>16))=O:=by simp;omega
 rw[a,bz,show(0:Int)=((0:Nat):Int)from Y,GB (show 0<s.size by omega)];simp only[ζb,Ga];cases w:AD (zV s 0)with|false=>simp[nS,w,bg]|true=>simp only[Bool.not_true,bz];unfold ja.W1;rw[show(1:Int)=((1:Nat):Int)from Y,Hv (n:=s.size) (vi s) c? (λi c=>QA c) (by unfold ja.bh;simp[bg]) (s.size-1) 1 c?];have z:vi s 0=O:=(by simp[vi,w]);have:nS s= !jT (vi s) 1 s.size:=(by have b:=IF (f:=vi s) (show 0<s.size by omega);rw[z]at b;simp[nS,w,u,b];omega);rw[this];cases jT (vi s) 1 s.size<;>rfl
 have a:(_r (((ByteArray.size s:Nat):Int)<1)||decide (((ByteArray.size s:Nat):Int)>16))=U:=by simp;omega
 rw[a,bq];simp[nS,u,bg]
def fO{α:Type}(l:aX α)(f:α->X')(i:Nat):X':=match l[i]?with|some y=>f y|none=>O
theorem CW{α:Type}{l:aX α}{f:α->X'}{i:Nat}(h:i<W l):fO l f i=f l[i]:=by unfold fO;rw[ζd h]
theorem E0{α:Type}{l:aX α}{f:α->X'}{p:Nat}:(l.take p).any f=jT (fO l f) 0 p:=by
 rw[Bool.eq_iff_iff,List.any_eq_true,KP];constructor;rintro⟨x,w,u⟩;have⟨i,a⟩:=List.getElem?_of_mem w;have z:=(ζe.1 a).1;rw[n!]at z;rw[D?,L' c?]at a;exact⟨i,R? _,c?,by unfold fO;rw[a];exact u⟩;rintro⟨i,_,a,u⟩;unfold fO at u;split at u;next y B=>exact⟨y,s? (i:=i) (by rw[D?,L' a];exact B),u⟩
 cases u
def uG(a b:U'):X':=E? a==E? b
def abP:X'->X'->X'->Int
 |true,O,U=>0|true,O,O=>2|_,_,_=>13
def xG(P:bS)(i:Nat):Int:=match P.g?.l[i]?with
 |some v=>abP (nS v.name) (jT (fO P.g?.l λw=>uG w.name v.name) 0 i) (_r (v.init_>=-1073741824)&&_r (v.init_<=1073741824))|none=>0
def tI(t:Z4)(p:Nat):Int:=match t.a?.l[p]?with
 |some P=>if nS P.name&& !jT (fO t.a?.l λy=>uG y.name P.name) 0 p then
  (if W P.g?.l>8 then 5 else if oQ (xG P) 0 (W P.g?.l)=0 then(if W P.b?.l>64 then 5 else 0)else oQ (xG P) 0 (W P.g?.l))else 13
 |none=>0
theorem Jl{P:bS}{i:Nat}(h:i<W P.g?.l):xG P i=abP (nS P.g?.l[i].name) (jT (fO P.g?.l λw=>uG w.name P.g?.l[i].name) 0 i) (_r (P.g?.l[i].init_>=-1073741824)&&_r (P.g?.l[i].init_<=1073741824)):=by unfold xG;rw[ζd h]
theorem IM(n:Int):sO n=M (_r (n>=-1073741824)&&_r (n<=1073741824)):=by unfold sO;rw[oZ];rfl
theorem Wi{t:Z4}(b:Small t){p:Nat}(hp:p<W t.a?.l):fu t p=M (tI t p):=by
 have j:=b.2 _ (t? hp);have e:=b.1;unfold fu tI;rw[bA hp,ζb,ζd hp];generalize q:t.a?.l[p]=P at *;have⟨S,X,m,u,_⟩:=j;rw[Jm m,ζb];have⟨x,o,D⟩:=u_ t.a? p c?;have G:jJ x (λz=>lu z P)=M (jT (fO t.a?.l λy=>uG y.name P.name) 0 p):=by rw[MH (p:=λz=>lu z P) (f:=λy=>uG y.name P.name) (λy _=>rfl) (by rw[D,n!];omega),D,E0]
 rw[o,ζb,G,ζb];dsimp only;cases g:nS P.name with|false=>simp[bg]|true=>rw[bq,ζb,Bool.true_and];cases hd:jT (fO t.a?.l λy=>uG y.name P.name) 0 p with|true=>simp[bg]|false=>rw[bz];simp only[Bool.not_false,N'];by_cases T:W P.g?.l>8;rw[show _r (len P.g?>8)=U from by simp[len];omega,bq,L' T];rw[show _r (len P.g?>8)=O from by simp[len];omega,bz,M' T];unfold fu.W1;rw[Bj (n:=W P.g?.l) (xG P) c? (λi a=>?_) (by unfold fu.bh;simp[bg,len])];by_cases L:oQ (xG P) 0 (W P.g?.l)=0;rw[L' L,L' L];show bg (_r (len P.b?>64)) (M 5) (M 0)=_;rw[we];simp only[len,_g];by_cases I:W P.b?.l>64;rw[L' I,L' c?];rw[M' I,M' c?];rw[M' L,M' L];rfl;unfold fu.bh;rw[Jl a,show _r ((i:Int)<len P.g?)=U from by simp[len];exact a,bq,bA a,ζb];have c:=u _ (t? a);have⟨y,Z,h⟩:=u_ P.g? i c?;have Q:iR y (λz=>lC z P.g?.l[i])=M (jT (fO P.g?.l λw=>uG w.name P.g?.l[i].name) 0 i):=(by rw[Ej (p:=λz=>lC z P.g?.l[i]) (f:=λw=>uG w.name P.g?.l[i].name) (λw _=>rfl) (by rw[h,n!];omega),h,E0]);rw[Jm c,ζb,Z,ζb,Q,ζb,rJ];have d:(_r (-1073741824<=P.g?.l[i].init_)&&_r (P.g?.l[i].init_<=1073741824))=(_r (P.g?.l[i].init_>=-1073741824)&&_r (P.g?.l[i].init_<=1073741824)):=rfl;rw[d];generalize nS P.g?.l[i].name=A;generalize jT (fO P.g?.l λw=>uG w.name P.g?.l[i].name) 0 i=B;generalize(_r (P.g?.l[i].init_>=-1073741824)&&_r (P.g?.l[i].init_<=1073741824))=C;cases A<;>cases B<;>cases C<;>rfl
theorem V_{t:Z4}(b:Small t){p:Nat}(hp:p<W t.a?.l):eO t p=M (tI t p):=by have Q:=b.2 _ (t? hp);have c:=b.1;unfold eO tI;rw[bA hp,ζb,ζd hp];generalize S:t.a?.l[p]=P at *;have⟨L,T,d,u,_⟩:=Q;rw[LR d,ζb];dsimp only;cases X:nS P.name with|false=>simp[bg]|true=>rw[bq,Bool.true_and];unfold eO.W1;rw[Fv (n:=p) (fO t.a?.l λy=>uG y.name P.name) c? (λi a=>?_) (by unfold eO.bh;simp[bg])];(cases hd:jT (fO t.a?.l λy=>uG y.name P.name) 0 p with|true=>rfl|false=>simp only[Bool.not_false,N'];show bg (_r (len P.g?>8)) (M 5) (eO.W2 0 P)=_;by_cases h:W P.g?.l>8;rw[show _r (len P.g?>8)=U from by simp[len];omega,bq,L' h];rw[show _r (len P.g?>8)=O from by simp[len];omega,bz,M' h];unfold eO.W2;rw[Bj (n:=W P.g?.l) (xG P) c? (λi a=>?_) (by unfold eO.bF;simp[bg,len])];by_cases I:oQ (xG P) 0 (W P.g?.l)=0;rw[L' I,L' I];show bg (_r (len P.b?>64)) (M 5) (M 0)=_;rw[we];simp only[len,_g];by_cases z:W P.b?.l>64;rw[L' z,L' c?];rw[M' z,M' c?];rw[M' I,M' I];rfl;unfold eO.bF;rw[Jl a,show _r ((i:Int)<len P.g?)=U from by simp[len];exact a,bq,bA a,ζb];(rw[LR (u _ (t? a)),ζb];have g:eO.W3 i 0 P=if jT (fO P.g?.l λw=>uG w.name P.g?.l[i].name) 0 i then M (.r 13)else(if _r (P.g?.l[i].init_>=-1073741824)&&_r (P.g?.l[i].init_<=1073741824)then M (.n (w? N ((i:Int)+1)))else M (.r 2)):=by unfold eO.W3;rw[Fv (n:=i) (fO P.g?.l λw=>uG w.name P.g?.l[i].name) c? (λj m=>?_) (by unfold eO.eH;simp[bg])];(cases jT (fO P.g?.l λw=>uG w.name P.g?.l[i].name) 0 i with|true=>rfl|false=>show(idx P.g? (i:Int)).bind _=_;rw[bA a,ζb,IM,ζb];cases(_r (P.g?.l[i].init_>=-1073741824)&&_r (P.g?.l[i].init_<=1073741824))<;>rfl);unfold eO.eH;have D:j<W P.g?.l:=c?;rw[show _r ((j:Int)<(i:Int))=U from by simpa using m,bq,bA D,ζb,bA a,ζb,CW D,we];rfl);rw[g];generalize nS P.g?.l[i].name=A;generalize jT (fO P.g?.l λw=>uG w.name P.g?.l[i].name) 0 i=B;generalize(_r (P.g?.l[i].init_>=-1073741824)&&_r (P.g?.l[i].init_<=1073741824))=C;cases A<;>cases B<;>cases C<;>rfl);unfold eO.bh;have G:i<W t.a?.l:=c?;rw[show _r ((i:Int)<(p:Int))=U from by simpa using a,bq,bA G,ζb,CW G,we];rfl
def LZ(n:Nat)(p:Int)(e:WF):X':=if e.kind==1 then e.k?==0&&e.d?==0 else(e.kind==2||e.kind==3)&&(_r (0<=e.k?)&&_r (e.k?<n))&& !(e.k?==p)&&(_r (0<=e.d?)&&_r (e.d?<=199))
theorem SX{t:Z4}(a:Small t)(p:Int)(e:WF):jE t p e=M (LZ (W t.a?.l) p e):=by
 have c:=a.1;have w:w? N (len t.a?-1)=len t.a?-1:=fJ _ (by simp[len];omega) (by simp[len];omega);have u:∀b:X',jE.J1 p b t e=M (b&&(_r (0<=e.k?)&&_r (e.k?<W t.a?.l))&& !(e.k?==p)&&(_r (0<=e.d?)&&_r (e.d?<=199))):=by intro b;unfold jE.J1;simp only[rJ,w,ζb];have:_r (e.k?<=len t.a?-1)=_r (e.k?<W t.a?.l):=(by congr 1;apply propext;simp[len];omega);rw[this];generalize(_r (0<=e.k?)&&_r (e.k?<(W t.a?.l:Int)))=A;generalize(e.k?==p)=B;generalize(_r (0<=e.d?)&&_r (e.d?<=199))=C;cases b<;>cases A<;>cases B<;>cases C<;>rfl
 unfold jE LZ;rw[u,u];cases c:e.kind==1 with|true=>rw[bq];cases e.k?==0<;>cases e.d?==0<;>rfl|false=>rw[bz];simp only[v?,_a];cases z:e.kind==2<;>simp[bg]
def G6(P:bS)(k:Nat)(e:WF):X':=match k with|0=>O|j+1=>fO P.b?.l (λx=>_r (e.time<x.time)) j
def xz(P:bS)(k:Nat)(e:WF):X':=_r (e.time<0)||decide (e.time>1099511627776)||G6 P k e
def Qp:X'->X'->X'->Int
 |true,U,O=>0|true,U,U=>8|_,_,_=>2
def nJ(P:bS)(e:WF)(i:Nat):Int:=match e.assign.l[i]?with
 |some a=>Qp (_r (0<=a.var)&&_r (a.var<W P.g?.l)) (_r (a.value>=-1073741824)&&_r (a.value<=1073741824)) (jT (fO e.assign.l λb=>b.var==a.var) 0 i)|none=>0
theorem IZ{P:bS}{e:WF}{i:Nat}(h:i<W e.assign.l):nJ P e i=Qp (_r (0<=e.assign.l[i].var)&&_r (e.assign.l[i].var<W P.g?.l)) (_r (e.assign.l[i].value>=-1073741824)&&_r (e.assign.l[i].value<=1073741824)) (jT (fO e.assign.l λb=>b.var==e.assign.l[i].var) 0 i):=by unfold nJ;rw[ζd h]
def qg(n:Nat)(P:bS)(p k:Nat)(e:WF):Int:=if LZ n p e then(if xz P k e then 11 else if W e.assign.l>8 then 5 else oQ (nJ P e) 0 (W e.assign.l))else 3
theorem Rm{P:bS}{e:WF}(d:W P.g?.l<1073741824)(T:W e.assign.l<1073741824):dV.W2 e.assign (len e.assign) 0 e P=M (oQ (nJ P e) 0 (W e.assign.l)):=by
 have I:w? N (len P.g?-1)=len P.g?-1:=fJ _ (by simp[len];omega) (by simp[len];omega);unfold dV.W2;rw[Bj (n:=W e.assign.l) (nJ P e) c? (λi a=>?_) (by unfold dV.bF;simp[bg,len])];by_cases D:oQ (nJ P e) 0 (W e.assign.l)=0;rw[L' D,D];rfl;rw[M' D];rfl;unfold dV.bF;have⟨y,g,u⟩:=u_ e.assign i c?;have G:iZ y (λz=>mq z e.assign.l[i])=M (jT (fO e.assign.l λb=>b.var==e.assign.l[i].var) 0 i):=by rw[HT (p:=λz=>mq z e.assign.l[i]) (f:=λb=>b.var==e.assign.l[i].var) (λw _=>rfl) (by rw[u,n!];omega),u,E0]
 rw[IZ a,show _r ((i:Int)<len e.assign)=U from by simp[len];exact a,bq,bA a,ζb,rJ,rJ,I,g,ζb,ζb,ζb,G,ζb];have c:(_r (0<=e.assign.l[i].var)&&_r (e.assign.l[i].var<=len P.g?-1))=(_r (0<=e.assign.l[i].var)&&_r (e.assign.l[i].var<W P.g?.l)):=by congr 2;apply propext;simp[len];omega
 have L:(_r (-1073741824<=e.assign.l[i].value)&&_r (e.assign.l[i].value<=1073741824))=(_r (e.assign.l[i].value>=-1073741824)&&_r (e.assign.l[i].value<=1073741824)):=rfl;rw[c,L];generalize(_r (0<=e.assign.l[i].var)&&_r (e.assign.l[i].var<(W P.g?.l:Int)))=A;generalize(_r (e.assign.l[i].value>=-1073741824)&&_r (e.assign.l[i].value<=1073741824))=B;generalize jT (fO e.assign.l λb=>b.var==e.assign.l[i].var) 0 i=C;cases A<;>cases B<;>cases C<;>rfl
theorem Tl{t:Z4}(a:Small t){p k:Nat}{P:bS}{e:WF}(D:t.a?.l[p]?=M P)(T:P.b?.l[k]?=M e):dV t ⟨p,k+1⟩ e=M (qg (W t.a?.l) P p k e):=by
 have⟨L,w⟩:=ζe.1 D;have⟨b,z⟩:=ζe.1 T;have⟨G,B,_,_,C⟩:=a.2 P (w▸t? L);have h:=C e (z▸t? b);have I:∀last:Int,((_r (0<=e.time)&&_r (e.time<=1099511627776))&& !_r (e.time<last))=(!xz P k e)->
  dV.J1 last t ⟨p,k+1⟩ e P=M (qg (W t.a?.l) P p k e):=by
  intro last Q;unfold dV.J1 qg;rw[SX a,ζb,rJ,ζb,Rm B h];dsimp only
  cases LZ (W t.a?.l) p e with
  |false=>rfl|true=>
   rw[bq,L' Y];have:(bg (_r (0<=e.time)&&_r (e.time<=1099511627776)) (M (_r (e.time<last))) (M U):aY X')=M (xz P k e):=by
    have S:(!((_r (0<=e.time)&&_r (e.time<=1099511627776))&& !_r (e.time<last)))=xz P k e:=by rw[Q,Bool.not_not]
    rw[<-S];cases(_r (0<=e.time)&&_r (e.time<=1099511627776))<;>cases _r (e.time<last)<;>rfl
   rw[this,ζb]
   cases xz P k e with
   |true=>rfl|false=>
    rw[bz];simp only[v?,_a]
    by_cases d:W e.assign.l>8
    .rw[show _r (len e.assign>8)=U from by simp[len];omega,bq,L' d]
    rw[show _r (len e.assign>8)=O from by simp[len];omega,bz,M' d]
 unfold dV;dsimp only;rw[show idx t.a? (p:Int)=M P from by rw[gm];exact D,ζb];cases k with|zero=>rw[show _r (((0:Nat):Int)+1>1)=O from by decide,bz];refine I 0 ?_;simp only[xz,G6,Bool.or_false];rw[Bool.eq_iff_iff];simp only[ζh,Z?,_g,_h,i!];omega|succ j=>rw[show _r ((((j+1:Nat)):Int)+1>1)=U from by simp;omega,bq];have u:j<W P.b?.l:=c?;have g:w? N ((((j+1:Nat)):Int)+1-2)=((j:Nat):Int):=(by rw[fJ _ c? c?];omega);rw[g,bA u,ζb];refine I _ ?_;simp only[xz,G6,CW u];rw[Bool.eq_iff_iff];simp only[ζh,Z?,_g,_h,i!];omega
theorem Q3{t:Z4}{p:Nat}{P:bS}{e:WF}(D:t.a?.l[p]?=M P)(d:W e.assign.l<1073741824):eS.W2 p 0 t e=M (oQ (nJ P e) 0 (W e.assign.l)):=by
 unfold eS.W2;rw[Bj (n:=W e.assign.l) (nJ P e) c? (λi a=>?_) (by unfold eS.bF;simp[bg,len])];by_cases w:oQ (nJ P e) 0 (W e.assign.l)=0;rw[L' w,w];rfl;rw[M' w];rfl;unfold eS.bF;have z:eS.W3 p i 0 t e e.assign.l[i]=if jT (fO e.assign.l λb=>b.var==e.assign.l[i].var) 0 i then M (.r 8)else M (.n (w? N ((i:Int)+1))):=by unfold eS.W3;rw[Fv (n:=i) (fO e.assign.l λb=>b.var==e.assign.l[i].var) c? (λj G=>?_) (by unfold eS.eH;simp[bg])];cases jT (fO e.assign.l λb=>b.var==e.assign.l[i].var) 0 i<;>rfl;unfold eS.eH;have u:j<W e.assign.l:=c?;rw[show _r ((j:Int)<(i:Int))=U from by simpa using G,bq,bA u,ζb,CW u,we]
 rw[IZ a,show _r ((i:Int)<len e.assign)=U from by simp[len];exact a,bq,bA a,ζb,z,IM,ζb,show idx t.a? (p:Int)=M P from by rw[gm];exact D,ζb];have c:(bg (_r (e.assign.l[i].var<0)) (M U) (M (_r (e.assign.l[i].var>=len P.g?))):aY X')=M (!(_r (0<=e.assign.l[i].var)&&_r (e.assign.l[i].var<W P.g?.l))):=by rw[mP];congr 1;rw[Bool.eq_iff_iff];simp only[q!,Z?,_g,Bool.and_eq_false_iff,_h,len];omega
 rw[c,ζb];generalize(_r (0<=e.assign.l[i].var)&&_r (e.assign.l[i].var<(W P.g?.l:Int)))=A;generalize(_r (e.assign.l[i].value>=-1073741824)&&_r (e.assign.l[i].value<=1073741824))=B;generalize jT (fO e.assign.l λb=>b.var==e.assign.l[i].var) 0 i=C;cases A<;>cases B<;>cases C<;>rfl
theorem Ww{t:Z4}(b:Small t){p k:Nat}{P:bS}{e:WF}(g:t.a?.l[p]?=M P)(T:P.b?.l[k]?=M e):eS t p k=M (qg (W t.a?.l) P p k e):=by
 have⟨S,w⟩:=ζe.1 g;have⟨c,z⟩:=ζe.1 T;have⟨i,h,_,_,I⟩:=b.2 P (w▸t? S);have m:=I e (z▸t? c);have X:eS.J1 p k t e=M (if xz P k e then 11 else if W e.assign.l>8 then 5 else oQ (nJ P e) 0 (W e.assign.l)):=by unfold eS.J1;rw[mP,ζb,Q3 g m,show idx t.a? (p:Int)=M P from by rw[gm];exact g,ζb];have a:(bg (_r ((k:Int)>0)) (H (idx P.b? (w? N ((k:Int)-1))) λL=>M (_r (e.time<L.time))) (M O):aY X')=M (G6 P k e):=(by cases k with|zero=>rfl|succ j=>have u:j<W P.b?.l:=c?;rw[show _r ((((j+1:Nat)):Int)>0)=U from by simp only[_g];omega,bq,show w? N ((((j+1:Nat)):Int)-1)=((j:Nat):Int)from by rw[fJ _ c? c?];omega,bA u,ζb];simp only[G6,CW u]);rw[a,ζb,mP,ζb];show bg (xz P k e) _ _=_;cases xz P k e with|true=>rfl|false=>rw[bz];simp only[v?,_a];by_cases Q:W e.assign.l>8;rw[show _r (len e.assign>8)=U from by simp[len];omega,bq,L' Q];rw[show _r (len e.assign>8)=O from by simp[len];omega,bz,M' Q]
 unfold eS qg;rw[show idx t.a? (p:Int)=M P from by rw[gm];exact g,ζb,show idx P.b? (k:Int)=M e from by rw[gm];exact T,ζb,X];unfold LZ;cases a:e.kind==1 with|true=>rw[bq];simp only[N'];cases e.k?==0<;>cases e.d?==0<;>rfl|false=>rw[bz];simp only[v?,_a];have o:(bg (e.kind==2) (M O) (M (!(e.kind==3))):aY X')=M (!(e.kind==2||e.kind==3)):=(by cases e.kind==2<;>rfl);rw[o,ζb,mP,ζb,mP,ζb,mP,ζb,mP,ζb,mP,ζb];have d:(((((!(e.kind==2||e.kind==3))||decide (e.k?<0))||decide (e.k?>=len t.a?))||(e.k?==p))||decide (e.d?<0)||decide (e.d?>199))= !((e.kind==2||e.kind==3)&&(_r (0<=e.k?)&&_r (e.k?<W t.a?.l))&& !(e.k?==p)&&(_r (0<=e.d?)&&_r (e.d?<=199))):=(by generalize(e.kind==2||e.kind==3)=A;have a1:_r (e.k?<0)= !_r (0<=e.k?):=(by rw[Bool.eq_iff_iff];simp);have a2:_r (e.k?>=len t.a?)= !_r (e.k?<W t.a?.l):=(by rw[Bool.eq_iff_iff];simp[len]);have a3:_r (e.d?<0)= !_r (0<=e.d?):=(by rw[Bool.eq_iff_iff];simp);have a4:_r (e.d?>199)= !_r (e.d?<=199):=(by rw[Bool.eq_iff_iff];simp);rw[a1,a2,a3,a4];generalize _r (0<=e.k?)=B;generalize _r (e.k?<(W t.a?.l:Int))=C;generalize(e.k?==(p:Int))=D;generalize _r (0<=e.d?)=F;generalize _r (e.d?<=199)=G;cases A<;>cases B<;>cases C<;>cases D<;>cases F<;>cases G<;>rfl);rw[d];generalize((e.kind==2||e.kind==3)&&(_r (0<=e.k?)&&_r (e.k?<(W t.a?.l:Int)))&& !(e.k?==(p:Int))&&(_r (0<=e.d?)&&_r (e.d?<=199)))=Z;cases Z<;>rfl
theorem Re{n:Nat}{p:Int}{e:WF}(h:LZ n p e=U):mL n p e:=by
 unfold LZ at h;split at h;next a=>left;simpa using a
 right;simp only[ζh,q!,_i,_g,Z?,beq_eq_false_iff_ne,ne_eq]at h;have⟨⟨⟨a,u⟩,z⟩,w⟩:=h;exact⟨a,u.1,u.2,z,w.1,w.2⟩
theorem KN{n:Nat}{P:bS}{p k:Nat}{e:WF}(h:qg n P p k e=0):mL n p e:=by
 unfold qg at h;split at h;next a=>exact Re a
 cases h
theorem Bm{α:Type}[DecidableEq α]:∀{l r:aX α},l.Nodup->(∀x∈l,x∈r)->W l<=W r
 |[],_,_,_=>R? _|x::l,r,D,G=>by have B:=List.nodup_cons.1 D;have:=Bm (r:=r.erase x) B.2 λy u=>(List.mem_erase_of_ne h?).2 (G y (B? _ u));grind
section
variable{κ:Type}[DecidableEq κ]
theorem FH{ν:Type}{k:κ}:∀{m:Mo κ ν},k∉m.map (·.1)->mj k m=J
 |[],_=>rfl|(a,v)::r,h=>by simp only[J?,n8,not_or]at h;unfold mj;rw[M' h.1];exact FH h.2
theorem Iw{ν:Type}{k:κ}:∀{m:Mo κ ν},k∈m.map (·.1)->∃v,mj k m=M v/\(k,v)∈m
 |[],h=>p?|(a,v)::r,h=>by unfold mj;by_cases e:k=a;grind;obtain⟨w,b,B⟩:=Iw (by simpa[e]using h);grind
theorem uJ{ν:Type}{k:κ}{v:ν}:∀{m:Mo κ ν},k∉m.map (·.1)->nO m k v=m++[(k,v)]
 |[],_=>rfl|(a,w)::r,h=>by simp only[J?,n8,not_or]at h;show(if k=a then _ else _)=_;rw[M' h.1,uJ h.2];rfl
end
def Vd(t:Z4)(y:bf):Prop:=∃e,(y,e)∈bJ t
theorem Vd.at_{t:Z4}{y:bf}(h:Vd t y):∃(p k:Nat)(e:WF),mz t p k e/\y=⟨p,k+1⟩/\(y,e)∈bJ t:=by have⟨e,u⟩:=h;grind[dU]
def MS(t:Z4)(y z:bf):Prop:=∃e f,(y,e)∈bJ t/\(z,f)∈bJ t/\e.kind=2/\f.kind=3/\e.d?=f.d?
def Edge(t:Z4)(y z:bf):Prop:=Vd t y/\Vd t z/\(z=⟨y.proc,y.index+1⟩\/MS t y z)
abbrev Way(t:Trace):bf->bf->Prop:=TransGen (Edge t)
def OZ(t:Z4):Prop:=∃x,Way t x x
theorem Way.l{t:Z4}{x y:bf}(h:Way t x y):Vd t x:=by induction h with|single h=>exact h.1|tail _ _ u=>omega
theorem Way.r{t:Z4}{x y:bf}(h:Way t x y):Vd t y:=by cases h with|single h=>exact h.2.1|tail _ h=>exact h.2.1
theorem VP{t:Z4}(g:Small t)(l:∀x∈bJ t,mL (_l t.a?.l) x.1.proc x.2){A:b_ 200 bu}(Y:eG t (bJ t) A){y:bf}(a__:Vd t y):
 Wp (kD t A y) λs=>_l s.l<=2/\∀z,z∈s.l↔Edge t y z:=by
 have⟨p,k,e,L,C,u⟩:=a__.at_;have⟨P,c__,d⟩:=L;have S:P∈t.a?.l:=s? c__;have a:=(g.2 P S).1;have X:k<_l P.b?.l:=(ζe.1 d).1;have D:y.proc=p:=by rw[C]
 have T:y.index=k+1:=by rw[C]
 have j:∀s:Sl bf,_l s.l<=1->(∀z,z∈s.l↔Vd t z/\z=⟨y.proc,y.index+1⟩)->Wp (kD.J1 A s P.b? y) λs=>_l s.l<=2/\∀z,z∈s.l↔Edge t y z:=by
  intro s n w;have no:¬(∃z,MS t y z)->_l s.l<=2/\∀z,z∈s.l↔Edge t y z:=λZ=>⟨c?,λz=>(w z).trans ⟨λh=>⟨a__,h.1,.inl h.2⟩,λh=>⟨h.2.1,h.2.2.elim id λh=>(Z ⟨z,h⟩).elim⟩⟩⟩;unfold kD.J1;have b__:w? N (y.index-1)=((k:Nat):Int):=by rw[T,fJ _ c? c?];omega
  rw[b__,gm,d,ζb,dZ,b9];constructor
  .intro B;have B:e.kind=2:=by grind
   have I:0<=e.d?/\e.d?<=199:=by rcases l _ u with h|⟨_,_,_,_,h⟩;all_goals grind
   have b:∀z,MS t y z->(ag A e.d?).to_=z:=λz⟨W,f,a1,a2,a3,a4,a5⟩=>by cases By a1 u _k;rw[a5];exact(Y.rcv _ a2 a4).1
   rw[QV A I.1 I.2,ζb,a_,b9];refine⟨λh=>?_,λh=>(a_ _).2 (no λ⟨z,w⟩=>?_)⟩
   .have h:(ag A e.d?).to_.index>0:=(by grind);rw[ζb];unfold d_;rw[L' c?,ζb,a_];refine⟨by show(s.l++[(ag A e.d?).to_]).length<=2;grind,λz=>?_⟩;have G:MS t y (ag A e.d?).to_:=(by rcases Y.to e.d? I.1 I.2 with o|⟨W,a,c,m⟩;omega;exact⟨e,W,u,a,B,c,m.symm⟩);show z∈s.l++[(ag A e.d?).to_]↔_;rw[M!,h!,w];constructor;rintro(h|rfl);exact⟨a__,h.1,.inl h.2⟩;exact⟨a__,let⟨_,f,_,a2,_⟩:=G;⟨f,a2⟩,.inr G⟩;rintro⟨_,a,c|c⟩;all_goals grind
   rw[b z w]at h;have⟨_,f,_,a2,_⟩:=w;grind[dU]
  intro B;rw[a_,b9];refine⟨λh=>(by cases h),λ_=>(a_ _).2 (no λ⟨z,W,f,a1,_,a3,_⟩=>?_)⟩;cases By a1 u _k;grind
 unfold kD;rw[D,gm,c__,ζb,b9];rw[D]at j;constructor
 .intro h;have h:y.index<len P.b?:=by grind
  have B:k+1<_l P.b?.l:=h?
  refine j _ (by simp[Sl.l]) λz=>?_
  have b__:w? N (y.index+1)=y.index+1:=fJ _ c? c?
  simp only[Sl.l,h!,b__];refine⟨λw=>⟨⟨P.b?.l[k+1],dU.2 ⟨p,k+1,⟨P,c__,ζd B⟩,?_⟩⟩,w⟩,λw=>w.2⟩
  grind
 intro h;have h:¬y.index<len P.b?:=h?
 refine j _ (by simp[Sl.l]) λz=>⟨λw=>by grind[Sl.l],λ⟨w,r⟩=>?_⟩
 have⟨q,i,f,⟨Q,v,E⟩,F,_⟩:=w.at_
 grind
structure K_(t:Trace)(x:bf)(i?:Sl bf)(m:Mo bf Bool)(U:bf->Prop):Prop where
 rst:∀y∈i?.l,y=x\/Way t x y
 keys:(m.map (·.1)).Nodup
 seen:∀y∈m,Way t x y.1/\y.1≠x/\y.2=true
 le:i?.l.length<=m.length+1
 done:∀y,y=x\/y∈m.map (·.1)->y∈i?.l\/U y\/∀z,Edge t y z->z∈m.map (·.1)
theorem K_.count{t:Z4}{x:bf}{i?:Sl bf}{m:Mo bf X'}{d:bf->Prop}(h:K_ t x i? m d):W m<=W (bJ t):=by
 have:=Bm (r:=(bJ t).map (·.1)) h.keys λx u=>by obtain⟨y,w,rfl⟩:=mem_map.1 u;have⟨e,z⟩:=(h.seen y w).1.r;grind
 grind
theorem TE {t:Trace} (hS:Small t) (hN:(bJ t).length<1073741824) (hF:∀x∈bJ t,mL t.a?.l.length x.1.proc x.2) {A:b_ 200 bu} (hA:eG t (bJ t) A):Wp (jD t A) λr=>(r.2=true↔OZ t):=by
 unfold jD kK;rw[ζb];unfold jD.E1;rw[vj hS,ζb];refine Bc (λk _=>∀x∈(bJ t).take k,¬Way t x.1 x.1) f? ?_ λ_ h=>(a_ _).2 ⟨λh=>(by cases h),λ⟨x,hx⟩=>?_⟩
 .intro i x _ hx aq;have af:x∈bJ t:=List.mem_of_getElem? hx;refine Wp.mono (P:=λw=>match w with|.n s=>¬Way t x.1 x.1|.x e=>False|.r e=>OZ t) ?_ λw hw=>by
   cases w with
   | n s=>
    intro y hy;rw[List.take_add_one,hx]at hy
    grind
   | x e=>grind
   | r b=>exact(a_ _).2 ⟨λ_=>hw,λ_=>rfl⟩
  refine ey (λq:Sl bf×Mo bf Bool=>K_ t x.1 q.1 q.2 λ_=>False) (λq=>2*((bJ t).length-q.2.length)+q.1.l.length) ⟨λy hy=>.inl (by simpa [Sl.l]using hy),by simp,by simp,by simp[Sl.l],λy hy=>.inl ?_⟩ ?_
  .simpa [Sl.l]using hy
  rintro⟨i?,m⟩ L;unfold jD.bF;rw[b9];refine⟨λh=>?_,λh=>(a_ _).2 ((a_ _).2 λhw=>?_)⟩
  .have G:0<i?.l.length:=by
    grind
   have hc:=L.count;have au:=L.le;have hw:IntKind.wrap .i64 ((len i?)-1)=(i?.l.length-1:Nat):=by
    rw[fJ _ h? h?];grind
   have I:i?.l.length-1<i?.l.length:=by omega
   rw[hw];have h1:Sl.iA i? (i?.l.length-1:Nat)=some (i?.l.length-1):=by
    unfold Sl.iA;grind
   have h2:Sl.get i? (i?.l.length-1)=some i?.l[i?.l.length-1]:=by unfold Sl.get;grind
   obtain⟨cut,h3,h4⟩:∃x,nH i? none (some ((i?.l.length-1:Nat):Int))=some x/\x.l=i?.l.take (i?.l.length-1):=by
    cases i? with
    | nil=>simp[Sl.l]at G
    | emp=>simp[Sl.l]at G
    | row l=>
     simp only[Sl.l]at G ⊢;unfold nH ec;simp_all
    | part l=>
     simp[Sl.l]at G ⊢;unfold nH ec;simp_all
   rw[h1,ζb,h2,ζb,h3,ζb,dZ];generalize ah:i?.l[i?.l.length-1]=y;have ai:y∈i?.l:=ah▸List.getElem_mem I;have j:∀z,z∈i?.l->z∈cut.l\/z=y:=λz hz=>by
    have:i?.l.take (i?.l.length-1)++i?.l.drop (i?.l.length-1)=i?.l:=List.take_append_drop ..;rw[<-this]at hz;rcases List.mem_append.1 hz with hz|hz
    .grind
    rw[List.drop_eq_getElem_cons I,List.drop_of_length_le c?]at hz
    grind
   have aa  := L.rst _ ai;have aj  := aa.elim (λe=>⟨x.2,e▸af⟩) Way.r
   refine(VP hS hF hA aj).mono λs hs=>?_
   refine ey (λq:Sl bf×Int×Mo bf Bool=>∃n:Nat,q.2.1=n/\n<=s.l.length/\K_ t x.1 q.1 q.2.2 (λu=>u=y)/\(∀z∈s.l.take n,z∈q.2.2.map (·.1))/\2*((bJ t).length-q.2.2.length)+q.1.l.length<2*((bJ t).length-m.length)+i?.l.length) (λq=>s.l.length-q.2.1.toNat)
    ⟨0,rfl,Nat.zero_le _,⟨λz hz=>L.rst z h?,L.keys,L.seen,by grind,λu hu=>?_⟩,by simp,by grind⟩ ?_
   .rcases L.done u hu with h|h|h
    .exact(j u h).imp_right .inl
    .exact h.elim
    exact .inr (.inr h)
   rintro⟨C,i2,W⟩ ⟨n,rfl,hn,B,d,hμ⟩;simp only at B hμ d;unfold jD.eH;rw[b9];constructor
   .intro h;have X:n<s.l.length:=by simpa [len]using h
    have ab:=(hs.2 s.l[n]).1 (List.getElem_mem X);have Q:Way t x.1 s.l[n]:=aa.elim (λe=>.single (e▸ab)) λh=>.tail h ab
    rw[bA X,ζb,b9];refine⟨λZ=>(a_ _).2 ((a_ _).2 ((a_ _).2 ⟨x.1,?_⟩)),λS=>?_⟩
    .have:s.l[n]=x.1:=by
      unfold OD at Z
      revert Z;cases s.l[n];cases x.1;intro Z;simpa using Z
     rw[this]at Q;exact Q
    have S:s.l[n]≠x.1:=λe=>by rw[e]at S;simp[OD]at S
    have T:=cm n c?
    have ad:s.l.take (n+1)=s.l.take n++[s.l[n]]:=by rw[List.take_add_one,ζd X];rfl
    rw[b9];refine⟨λhg=>(a_ _).2 ⟨⟨n+1,T,by omega,B,λz hz=>?_,hμ⟩,by show _-(IntKind.wrap .i64 ((n:Int)+1)).toNat<_;rw[T];simp;omega⟩,λY=>?_⟩
    .rw[ad]at hz;rcases List.mem_append.1 hz with hz|hz
     .exact d z hz
     simp[List.mem_singleton]at hz;subst hz;apply Classical.byContradiction;intro hk;unfold pW at hg;rw[FH hk]at hg;cases hg
    have av:=B.count;have ar:=B.le;unfold d_;rw[L' (show C.l.length+1<=2147483648 from by omega),ζb,a_]
    have D:s.l[n]∉W.map (·.1):=λak=>by
     obtain⟨v,hv,al⟩:=Iw ak;have:=(B.seen _ al).2.2;simp only at this;subst this;unfold pW at Y;rw[hv]at Y;cases Y
    have g:∀z,z∈(nO W s.l[n] true).map (·.1)↔z∈W.map (·.1)\/z=s.l[n]:=λz=>by
     rw[uJ D,List.map_append,List.mem_append];simp
    have ae:K_ t x.1 (.row (C.l++[s.l[n]])) (nO W s.l[n] true) (λu=>u=y):=by
     refine⟨λy hy=>?_,?_,λy hy=>?_,?_,λu hu=>?_⟩
     .simp[Sl.l,List.mem_singleton]at hy;rcases hy with hy|rfl
      .exact B.rst y hy
      exact .inr Q
     .rw[uJ D,List.map_append,List.nodup_append];refine⟨B.keys,by simp,λa ha b hb=>?_⟩
      simp[List.mem_singleton]at hb;subst hb;exact λe=>D (e▸ha)
     .rw[uJ D]at hy;rcases List.mem_append.1 hy with hy|hy
      .exact B.seen y hy
      simp[List.mem_singleton]at hy;subst hy;exact⟨Q,S,rfl⟩
     .rw[uJ D];show (C.l++[s.l[n]]).length<=_;rw[ζi,ζi,List.length_singleton,List.length_singleton];omega
     simp only[Sl.l,List.mem_append,List.mem_singleton];have old:u=x.1\/u∈W.map (·.1)->(u∈C.l\/u=s.l[n])\/u=y\/∀z,Edge t u z->z∈(nO W s.l[n] true).map (·.1):=λhu=>by
      rcases B.done u hu with h|h|h
      .exact .inl (.inl h)
      .exact .inr (.inl h)
      exact .inr (.inr λz hz=>(g z).2 (.inl (h z hz)))
     rcases hu with hu|hu
     .exact old (.inl hu)
     rcases (g u).1 hu with hu|hu
     .exact old (.inr hu)
     exact .inl (.inr hu)
    have am:=ae.count;refine⟨⟨n+1,T,by omega,ae,λz hz=>?_,?_⟩,by show _-(IntKind.wrap .i64 ((n)+1)).toNat<_;rw[T];simp;omega⟩
    .rw[ad]at hz;rcases List.mem_append.1 hz with hz|hz
     .exact(g z).2 (.inl (d z hz))
     exact(g z).2 (.inr (by simpa using hz))
    rw[uJ D,ζi,List.length_singleton]at am;show 2*((bJ t).length-(nO W s.l[n] true).length)+(C.l++[s.l[n]]).length<_;rw[uJ D,ζi,ζi,List.length_singleton,List.length_singleton];omega
   intro h;have an:s.l.length<=n:=by simpa [len]using h
   rw[List.take_of_length_le an]at d;refine(a_ _).2 ((a_ _).2 ⟨⟨B.rst,B.keys,B.seen,B.le,λu hu=>?_⟩,hμ⟩)
   rcases B.done u hu with h|h|h
   .exact .inl h
   .subst h;exact .inr (.inr λz hz=>d z ((hs.2 z).2 hz))
   exact .inr (.inr h)
  have ao:i?.l=[]:=by
   have:¬len i?>0:=by simpa using h
   simp[len]at this;exact this
  have hd:∀y,y=x.1\/y∈m.map (·.1)->∀z,Edge t y z->z∈m.map (·.1):=λy hy=>by
   rcases L.done y hy with h|h|h
   .simp only[ao]at h;cases h
   .exact h.elim
   exact h
  have key:∀z,Way t x.1 z->z∈m.map (·.1):=λz hz=>by
   induction hz with
   | single h=>exact hd _ (.inl rfl) _ h
   | tail _ h ih=>exact hd _ (.inr ih) _ h
  obtain⟨y,hy,ap⟩:=List.mem_map.1 (key _ hw);exact(L.seen y hy).2.1 ap
 obtain⟨e,Z⟩:=hx.l;rw[List.take_length]at h;exact _e hx (h _ Z)
structure Ok(t:Trace):Prop where
 one:1<=t.a?.l.length
 few:t.a?.l.length<=8
 heads:∀p,p<t.a?.l.length->tI t p=0
 f_:∀(p k:Nat)P e,t.a?.l[p]?=some P->P.b?.l[k]?=some e->qg t.a?.l.length P p k e=0
 A9:AL t
 acyc:¬OZ t
theorem I7{t:Z4}(h:∀(p k:Nat)P e,t.a?.l[p]?=M P->P.b?.l[k]?=M e->qg (W t.a?.l) P p k e=0):∀x∈bJ t,mL (W t.a?.l) x.1.proc x.2:=λx w=>by have⟨p,k,⟨P,z,B⟩,u⟩:=dU.1 w;rw[u];exact KN (h p k P _ z B)
structure VT(t:Trace):Prop where
 formed:∀x∈bJ t,mL t.a?.l.length x.1.proc x.2
 msgs:∃A i,fq t=some (some A,i,0)/\eG t (bJ t) A
 few:t.a?.l.length<=8
 ok:Ok t
theorem Ut{t:Z4}(a:Small t)(W:_l (bJ t)<1073741824):Wp (jb t) λr=>(r.2=0->VT t)/\(Ok t->r.2=0):=by
 unfold jb;rw[rJ,ζb,b9];refine⟨λG=>?_,λG=>(a_ _).2 ⟨λh=>c?,λh=>?_⟩⟩;rotate_left;have o:=h.one;have D:=h.few;grind;have D:1<=_l t.a?.l/\_l t.a?.l<=8:=by grind
 unfold jb.W1;refine ey (λi:Int=>∃n:Nat,i=n/\n<=_l t.a?.l/\∀p,p<n->tI t p=0) (λi:Int=>_l t.a?.l-i.toNat) ⟨0,_k,R? _,λp I=>_e I c?⟩ ?_;rintro i ⟨n,rfl,q,X⟩;unfold jb.bh;rw[b9];constructor;intro h;have w:n<_l t.a?.l:=by grind
 rw[Wi a w,ζb,b9];refine⟨λu=>(a_ _).2 ⟨⟨n+1,cm n c?,c?,λp I=>?_⟩,by rw[cm n c?];simp;omega⟩,λu=>(a_ _).2 ((a_ _).2 ⟨λh=>?_,λh=>?_⟩)⟩;grind;grind;simp[h.heads n w]at u;intro h;have Y:_l t.a?.l<=n:=h?;rw[a_];unfold kK;rw[ζb];unfold jb.E2;rw[vj a,ζb];refine Bc (λi _=>∀(p k:Nat)P e,t.a?.l[p]?=M P->P.b?.l[k]?=M e->(⟨p,k+1⟩,e)∈(bJ t).take i->qg (_l t.a?.l) P p k e=0) f? ?_ ?_;intro i x _ T z;have F:=s? T;have⟨p,j,⟨P,B,C⟩,L⟩:=dU.1 F;unfold jb.OB;rw[L,Tl a B C,ζb,b9];refine⟨λu=>(a_ _).2 λp' s v y Z E f=>?_,λu=>(a_ _).2 ((a_ _).2 ⟨λh=>?_,λh=>?_⟩)⟩;rw[P?,T]at f;grind;grind;simp[h.f_ p j P _ B C]at u;intro _ z;have z:∀(p k:Nat)P e,t.a?.l[p]?=M P->P.b?.l[k]?=M e->qg (_l t.a?.l) P p k e=0:=λp k P e B C=>z p k P e B C (by rw[M?];exact dU.2 ⟨p,k,⟨P,B,C⟩,_k⟩);have b__:=I7 z;have⟨r,g,l,Q⟩:=GG a b__;rw[g,ζb,b9];refine⟨λu=>?_,λu=>(a_ _).2 ⟨λh=>?_,λh=>Q h.A9⟩⟩;have u:=by simpa using u
 have⟨A,m,b⟩:=l u;rw[m,ζb];have⟨c,d,S⟩:=TE a W b__ b;rw[d,ζb,b9];refine⟨λa__=>(a_ _).2 ⟨λh=>c?,λh=>_e (S.1 a__) h.acyc⟩,λa__=>(a_ _).2 ⟨λ_=>?_,λ_=>rfl⟩⟩;exact⟨b__,⟨A,r.2.1,h?,b⟩,D.2,D.1,D.2,λp I=>X p c?,z,b.A9,λd=>h?⟩;simp_all
theorem Ve{t:Z4}(a:Small t)(B:W (bJ t)<1073741824):Wp (cw t) λb=>(b=U->VT t)/\(Ok t->b=U):=by unfold cw;rw[dZ];exact(Ut a B).mono λr c=>(a_ _).2 ⟨λh=>c.1 h?,λh=>h?⟩
def eo(q:Int)(e:WF):X':=e.kind==2&&e.k?==q
def Bh(p:Int)(e:WF):X':=e.kind==3&&e.k?==p
def under(t:Z4)(c:SW)(p q:Nat):Int:=match t.a?.l[p]?,t.a?.l[q]?,c[p]?,c[q]?with
 |some P,M Q,M a,M b=>((P.b?.l.take a.toNat).countP (eo q):Int)-((Q.b?.l.take b.toNat).countP (Bh p):Int)|_,_,_,_=>0
theorem Je {t:Trace} (hS:Small t) (hv:cw t=some true) {A:b_ 200 bu} (hM:eG t (bJ t) A) {x:bf×Event} (B:x∈bJ t) (hk:x.2.kind=2):sH t x.2.d?=some (x.1,true):=by
 refine Wp.eq ?_;unfold sH js;rw[hv,ζb,bq];unfold kK;rw[ζb];unfold js.E1;rw[vj hS,ζb,dZ];refine Bc (λk _=>∀y∈(bJ t).take k,¬(y.2.kind=2/\y.2.d?=x.2.d?)) f? ?_ ?_
 .intro k y _ C u;have w:y∈bJ t:=List.mem_of_getElem? C;unfold js.lq;rw[oZ,ζb,b9];constructor
  .intro hc;have hc:y.2.kind=2/\y.2.d?=x.2.d?:=by simpa using hc
   refine(a_ _).2 ((a_ _).2 ((a_ _).2 ?_));have h1:=hM.snd y w hc.1;have D:=hM.snd x B hk;rw[hc.2,D]at h1;rw[h1]
  intro hc;have hc:¬(y.2.kind=2/\y.2.d?=x.2.d?):=by
   intro h;rw[h.1,h.2]at hc;simp at hc
  rw[a_];intro z hz;rw[List.take_add_one,C]at hz;rcases List.mem_append.1 hz with hz|hz
  .exact u z hz
  simp at hz;subst hz;exact hc
 intro _ u;rw[List.take_length]at u;exact _e ⟨hk,rfl⟩ (u x B)
def mY(t:Z4)(c:SW):Prop:=W c=W t.a?.l/\∀(p:Nat)(a:Int)(P:bS),c[p]?=M a->t.a?.l[p]?=M P->0<=a/\a<=W P.b?.l
def oW(t:Z4)(A:b_ 200 bu)(c:SW):Prop:=∀(p k:Nat)(e:WF)(a:Int),mz t p k e->c[p]?=M a->(k:Int)<a->e.kind=3->∃b,c[(ag A e.d?).from_.proc.toNat]?=M b/\(ag A e.d?).from_.index<=b
theorem zJ{t:Z4}(c:VT t){A:b_ 200 bu}(a:eG t (bJ t) A){p k:Nat}{e:WF}(g:mz t p k e)(d:e.kind=3):
 ∃(q j:Nat)(y:WF),mz t q j y/\y.kind=2/\y.d?=e.d?/\y.k?=p/\e.k?=q/\(ag A e.d?).from_=⟨q,j+1⟩:=by
 have u:((⟨p,k+1⟩:bf),e)∈bJ t:=dU.2 ⟨p,k,g,Y⟩;have z:=(a.rcv _ u d).2;have C:=c.formed _ u;simp only at z C;have B:0<=e.k?:=by rcases C with h|⟨_,h,_⟩;omega;exact h
 obtain⟨q,D⟩:∃q:Nat,e.k?=q:=⟨e.k?.toNat,c?⟩
 rw[D]at z;have⟨j,y,w,b,G,I⟩:=BF.1 z;have:=a.snd (⟨q,j+1⟩,y) (dU.2 ⟨q,j,w,Y⟩) b;simp only at this;rw[G]at this;exact⟨q,j,y,w,b,G,I,D,this⟩
def aeE(t:Z4)(A:b_ 200 bu)(c:SW)(s u:bf):Prop:=∃(p k:Nat)(e:WF)(a:Int)(q j:Nat)(y:WF)(b:Int),mz t p k e/\c[p]?=M a/\(k:Int)<a/\e.kind=3/\(ag A e.d?).from_=s/\s=⟨q,j+1⟩/\mz t q j y/\c[q]?=M b/\b<(j:Int)+1/\u=⟨p,k+1⟩
theorem Oa{t:Z4}(v:Small t)(P:cw t=M U)(E:VT t){A:b_ 200 bu}(F:eG t (bJ t) A){c:Zg}(H:mY t c.l):Wp (iL t c) λr=>(r.2.2=O->oW t A c.l)/\(r.2.2=U->aeE t A c.l r.1 r.2.1):=by
 have ah:=E.few;unfold iL iL.W1;refine ey (λs:Int=>∃n:Nat,s=n/\n<=_l c.l/\∀(p k:Nat)(e:WF)(a:Int),p<n->mz t p k e->c.l[p]?=M a->(k:Int)<a->e.kind=3->∃b,c.l[(ag A e.d?).from_.proc.toNat]?=M b/\(ag A e.d?).from_.index<=b) (λs:Int=>_l c.l-s.toNat) ⟨0,_k,R? _,λp k e a h=>_e h c?⟩ ?_;rintro s ⟨n,rfl,hn,K⟩;have ai:=H.1;unfold iL.bh;rw[b9];constructor;intro h;have C:n<_l c.l:=by simpa[len]using h
 have B:n<_l t.a?.l:=c?;have hP:=(v.2 _ (t? B)).1;have⟨r1,r2⟩:=H.2 n _ _ (ζd C) (ζd B);rw[bA C,ζb,bA B,ζb];have⟨y,a__,T⟩:=u_ t.a?.l[n].b? c.l[n].toNat c?;rw[show((c.l[n].toNat:Nat):Int)=c.l[n]from c?]at a__;rw[a__,ζb];unfold iL.W2;refine ey (λs:Int=>∃m:Nat,s=m/\m<=_l y.l/\∀(k:Nat)(e:WF),k<m->mz t n k e->e.kind=3->∃b,c.l[(ag A e.d?).from_.proc.toNat]?=M b/\(ag A e.d?).from_.index<=b) (λs:Int=>_l y.l-s.toNat) ⟨0,_k,R? _,λk e h=>_e h c?⟩ ?_;rintro s ⟨m,rfl,hm,i⟩;have af:_l y.l=c.l[n].toNat:=by rw[T,n!];omega
 unfold iL.bF;rw[b9];constructor;intro h;have I:m<_l y.l:=by simpa[len]using h
 have D:=cm m c?;have c__:_l y.l-(w? N ((m:Int)+1)).toNat<_l y.l-((m:Int)).toNat:=by rw[D];simp;omega
 have R:y.l[m]?=t.a?.l[n].b?.l[m]?:=by rw[T,D?,L' (show m<c.l[n].toNat from c?)]
 have u:mz t n m y.l[m]:=⟨_,ζd B,by rw[<-R];exact ζd I⟩;rw[bA I,ζb];generalize y.l[m]=e at u;rw[b9];constructor;intro d;have d:e.kind=3:=by simpa using d
 have⟨q,j,z,l,V,z2,z3,z4,z5⟩:=zJ E F u d;have b__:=Je v P F (x:=(⟨q,j+1⟩,z)) (dU.2 ⟨q,j,l,_k⟩) V;simp only at b__;rw[z2]at b__;have ab:=l;have⟨Q,hQ,_⟩:=l;have L:q<_l c.l:=by have:=(ζe.1 hQ).1;omega
 rw[b__,ζb];simp only;rw[bA L,ζb,b9];constructor;intro W;have W:(j:Int)+1>c.l[q]:=by simpa using W
 exact(a_ _).2 ((a_ _).2 ((a_ _).2 ⟨λh=>(by cases h),λ_=>⟨n,m,e,c.l[n],q,j,z,c.l[q],u,ζd C,c?,d,z5,_k,ab,ζd L,c?,by simp[D]⟩⟩));intro X;have X:¬((j:Int)+1>c.l[q]):=by simpa using X
 refine(a_ _).2 ⟨⟨m+1,D,c?,λk Y ad w G=>?_⟩,c__⟩;by_cases o:k=m;subst o;have:Y=e:=by have⟨P1,a1,a2⟩:=u;have⟨P2,Z,f⟩:=w;rw[a1]at Z;cases Z;rw[a2]at f;cases f;rfl
 subst this;rw[z5];exact⟨c.l[q],by simp only[t!];exact ζd L,by simp only;omega⟩;exact i k Y c? w G;intro d;have d:¬e.kind=3:=by simpa using d
 refine(a_ _).2 ⟨⟨m+1,D,c?,λk Y ad w G=>?_⟩,c__⟩;by_cases o:k=m;subst o;have:Y=e:=by have⟨P1,a1,a2⟩:=u;have⟨P2,Z,f⟩:=w;rw[a1]at Z;cases Z;rw[a2]at f;cases f;rfl
 subst this;exact _e G d;exact i k Y c? w G;intro h;have ae:_l y.l<=m:=by simpa[len]using h
 have e__:=cm n c?;refine(a_ _).2 ((a_ _).2 ⟨⟨n+1,e__,c?,λp k e a hp u S d__ g=>?_⟩,by show _-(w? N ((n:Int)+1)).toNat<_;rw[e__];simp;omega⟩);by_cases ep:p=n;subst ep;rw[ζd C]at S;cases S;exact i k e c? u g;exact K p k e a c? u S d__ g;intro h;have ae:_l c.l<=n:=by simpa[len]using h
 refine(a_ _).2 ((a_ _).2 ⟨λ_ p k e a u S d__ g=>K p k e a (by have:=(ζe.1 S).1;omega) u S d__ g,λh=>(by cases h)⟩)
theorem Hj{t:Z4}(f:Small t)(g:cw t=M U)(i:VT t){A:b_ 200 bu}(l:eG t (bJ t) A){c:Zg}(B:mY t c.l):Wp (iL t c) λr=>(r.2.2=O↔oW t A c.l):=by refine(Oa f g i l B).mono λr d=>⟨d.1,λm=>?_⟩;cases h:r.2.2 with|false=>rfl|true=>obtain⟨p,k,e,a,q,j,y,b,n,u,w,z,C,D,_,G,I,-⟩:=d.2 h;have⟨o,g1,g2⟩:=m p k e a n u w z;rw[C,D]at g1 g2;simp only[t!]at g1 g2;rw[G]at g1;cases g1;omega
theorem vO{s:Zb}{p:Zg->aY X'}{f:Zg->X'}(hp:∀x∈s.l,p x=M (f x))(B:W s.l<1073741824):jL s p=M (s.l.any f):=by have h:iu s p=M (place f s.l):=uV hp c? (λi=>rfl);unfold jL;rw[h,ζb,uZ]
theorem BO{t:Z4}(d:Small t){c:Zg}(D:W c.l=W t.a?.l):Wp (kI t c) λb=>(b=U↔mY t c.l):=by
 have f:=d.1;unfold kI kI.W1;refine ey (λs:Int=>∃n:Nat,s=n/\n<=W c.l/\∀(p:Nat)(a:Int)(P:bS),p<n->c.l[p]?=M a->t.a?.l[p]?=M P->0<=a/\a<=W P.b?.l) (λs:Int=>W c.l-s.toNat) ⟨0,Y,R? _,λp a P h=>_e h c?⟩ ?_;rintro s ⟨n,rfl,i,G⟩;unfold kI.bh;rw[b9];constructor;intro h;have w:n<W c.l:=by simpa[len]using h
 have u:n<W t.a?.l:=c?;have I:=cm n c?;rw[bA w,ζb,bA u,ζb,mP,ζb,b9];constructor;intro z;have z:c.l[n]<0\/c.l[n]>t.a?.l[n].b?.l.length:=by simpa[len]using z
 refine(a_ _).2 ((a_ _).2 ⟨λh=>(by cases h),λg=>?_⟩);have:=g.2 n _ _ (ζd w) (ζd u);omega;intro z;have z:0<=c.l[n]/\c.l[n]<=t.a?.l[n].b?.l.length:=by simpa[len]using z
 refine(a_ _).2 ⟨⟨n+1,I,c?,λp a P Q B C=>?_⟩,by rw[I];simp;omega⟩;by_cases e:p=n;subst e;rw[ζd w]at B;cases B;rw[ζd u]at C;cases C;exact z;exact G p a P c? B C;intro h;have L:W c.l<=n:=by simpa[len]using h
 refine(a_ _).2 ((a_ _).2 ⟨λ_=>⟨D,λp a P B C=>G p a P (by have:=(ζe.1 B).1;omega) B C⟩,λ_=>rfl⟩)
def Code(t:Z4)(A:b_ 200 bu)(c:SW)(r:Int):Prop:=W c≠W t.a?.l/\r=1\/W c=W t.a?.l/\¬mY t c/\r=2\/mY t c/\¬oW t A c/\r=18\/mY t c/\oW t A c/\r=0
theorem TZ{t:Z4}(a:Small t)(d:cw t=M U)(i:VT t){A:b_ 200 bu}(j:eG t (bJ t) A)(c:Zg):
 Wp (dw t (Sl.row [c]:Zb) (Sl.nil:Zg)) λr=>Code t A c.l r:=by
 unfold dw uW;rw[d,ζb,bq,vO (f:=λz=>(iV z t).getD O) (λz _=>Md.ok ((a_ _).2 trivial)) (by simp[Sl.l]),ζb,ζb,ζb]
 have w:(!((Sl.row [c]:Zb).l.any λz=>(iV z t).getD O))=(len c==len t.a?):=by simp[Sl.l,iV]
 rw[w,b9];constructor
 .intro h;have B:W c.l=W t.a?.l:=by
   have:(W c.l:Int)=W t.a?.l:=by simpa[len]using h
   omega
  unfold dw.W1;refine ey (λs:Int=>s=0\/s=1/\mY t c.l) (λs:Int=>1-s.toNat) (.inl Y) ?_
  intro s D;unfold dw.bh;rcases D with rfl|⟨rfl,G⟩
  .rw[show _r ((0:Int)<len (Sl.row [c]:Zb))=U from Y,bq,show idx (Sl.row [c]:Zb) 0=M c from Y,ζb,dZ];refine(BO a B).mono λb u=>?_
   rw[b9];exact⟨λI=>(a_ _).2 ⟨.inr ⟨Y,u.1 I⟩,by decide⟩,λC=>(a_ _).2 ((a_ _).2 (.inr (.inl ⟨B,λh=>(by rw[u.2 h]at C;cases C),Y⟩)))⟩
  rw[show _r ((1:Int)<len (Sl.row [c]:Zb))=O from Y,bz,a_];show Wp (dw.W2 (Sl.row [c]) Sl.nil 0 0 t) _;unfold dw.W2;refine ey (λs:Int=>s=0) (λ_=>0) Y ?_
  rintro s rfl;unfold dw.bF;rw[show _r ((0:Int)<0)=O from Y,bz,a_];show Wp (dw.W3 (Sl.row [c]) 1 0 t) _;unfold dw.W3;refine ey (λs:Int=>s=0\/s=1/\oW t A c.l) (λs:Int=>1-s.toNat) (.inl Y) ?_
  intro s D;unfold dw.eH;rcases D with rfl|⟨rfl,k⟩
  .rw[show _r ((0:Int)<1)=U from Y,bq,show idx (Sl.row [c]:Zb) 0=M c from Y,ζb];unfold yU;rw[dZ,dZ];refine(Hj a d i j G).mono λr g=>?_
   rw[a_,b9];exact⟨λu=>(a_ _).2 ⟨.inr ⟨Y,g.1 (by simpa using u)⟩,by decide⟩,λu=>(a_ _).2 ((a_ _).2 (.inr (.inr (.inl ⟨G,λh=>(by have:=g.2 h;simp[this]at u),Y⟩))))⟩
  rw[show _r ((1:Int)<1)=O from Y,bz,a_];exact(a_ _).2 (.inr (.inr (.inr ⟨G,k,Y⟩)))
 intro h;exact(a_ _).2 (.inl ⟨λe=>(by simp[len,e]at h),Y⟩)
theorem Code.zero{t:Z4}{A:b_ 200 bu}{c:SW}{r:Int}(h:Code t A c r):r=0↔mY t c/\oW t A c:=by rcases h with⟨h,rfl⟩|⟨_,h,rfl⟩|⟨_,h,rfl⟩|⟨a,w,rfl⟩;exact⟨λh=>(by cases h),λu=>_e u.1.1 h⟩;exact⟨λh=>(by cases h),λu=>_e u.1 h⟩;exact⟨λh=>(by cases h),λu=>_e u.2 h⟩;exact⟨λ_=>⟨a,w⟩,λ_=>rfl⟩
theorem VO{t:Z4}(a:Small t)(b:cw t=M U)(d:VT t){A:b_ 200 bu}(e:eG t (bJ t) A)(c:Zg):Wp (dw t (Sl.row [c]:Zb) (Sl.nil:Zg)) λr=>(r=0↔mY t c.l/\oW t A c.l):=(TZ a b d e c).mono λ_ h=>h.zero
def Cons(t:Z4)(A:b_ 200 bu)(c:SW):Prop:=mY t c/\oW t A c
def places{α:Type}(f:α->X')(l:aX α):ST:=(w! (W l)).filter λk=>match l[k]?with|some x=>f x|none=>O
theorem Qr{α:Type}{f:α->X'}{l:aX α}{k:Nat}:k∈places f l↔∃x,l[k]?=M x/\f x=U:=by unfold places;rw[List.mem_filter,mem_range];constructor;rintro⟨a,u⟩;rw[ζd a]at u;exact⟨_,ζd a,u⟩;rintro⟨x,a,u⟩;exact⟨(ζe.1 a).1,by rw[a];exact u⟩
theorem MP{α:Type}(f:α->X')(l:aX α):(places f l).Nodup:=List.nodup_range.sublist (List.filter_sublist ..)
theorem FE{α:Type}(f:α->X'):∀l:aX α,W (places f l)=l.countP f:=by intro l;unfold places;rw[<-List.countP_eq_length_filter];induction l with|nil=>rfl|cons x l u=>rw[U?,List.range_succ_eq_map,I!,List.countP_map,I!];simp only[List.getElem?_cons_zero];rw[<-u];congr 1
theorem Jn{α β:Type}{f:α->X'}{g:β->X'}{l:aX α}{m:aX β}(φ:Nat->Nat)(h:∀k∈places f l,φ k∈places g m)(c:∀k B,k∈places f l->B∈places f l->φ k=φ B->k=B):l.countP f<=m.countP g:=by
 rw[<-FE,<-FE];have w:((places f l).map φ).Nodup:=by unfold Nodup;rw[f8];exact Pairwise.imp_of_mem (λ{a b}z C u D=>u (c a b z C D)) (MP f l)
 have:=Bm (r:=places g m) w λx G=>by obtain⟨k,d,rfl⟩:=mem_map.1 G;exact h k d
 simpa using this
end Go.VE
namespace Go.VE
def mW(kind m:Int)(x:bf×WF):X':=x.2.kind==kind&&x.2.d?==m
def g_(t:Z4)(kind m:Int):bf:=match(bJ t).find? (mW kind m)with
 |some x=>x.1|none=>⟨0,0⟩
theorem Qk{t:Z4}{kind m:Int}{p:Nat}{P:bS}(B:p<9223372036854775806)(D:t.a?.l[p]?=M P)(G:W P.b?.l<1073741824):∀(q i:Nat),i+q=W P.b?.l->
 bG (λq:Int=>dJ.bF kind m p t ⟨0,0⟩ q) (i:Int)=M (match(jU p i (P.b?.l.drop i)).find? (mW kind m)with|some x=>.r x.1|none=>.x ()):=by
 have u:idx t.a? (p:Int)=M P:=by rw[gm];exact D
 intro q
 induction q with
 |zero=>
  intro i a;rw[eF];unfold dJ.bF;rw[u,ζb,show _r ((i:Int)<len P.b?)=O from by simp[len];omega,bz,E! c?]
  rfl
 |succ q z=>
  intro i a;have w:i<W P.b?.l:=c?
  rw[eF];have C:dJ.bF kind m p t ⟨0,0⟩ i=M (if mW kind m (⟨p,(i:Int)+1⟩,P.b?.l[i])then .r ⟨p,(i:Int)+1⟩else .n ((i+1:Nat):Int)):=by unfold dJ.bF;rw[u,ζb,show _r ((i:Int)<len P.b?)=U from by simp[len];omega,bq,ζb,bA w,ζb,oZ,ζb,cm i c?,we];rfl
  rw[C,ζb,V? w];simp only[jU,List.find?_cons]
  cases I:mW kind m (⟨p,(i:Int)+1⟩,P.b?.l[i])with
  |true=>rfl|false=>simp only[v?,_a];exact z (i+1) c?
theorem Ro{t:Z4}(a:Small t){kind m:Int}:∀(q p:Nat),p+q=W t.a?.l->
 bG (λq:Int=>dJ.bh kind m t ⟨0,0⟩ q) (p:Int)=M (match(gQ p (t.a?.l.drop p)).find? (mW kind m)with|some x=>.r x.1|none=>.x ()):=by
 have b:=a.1;intro q
 induction q with
 |zero=>
  intro p w;rw[eF];unfold dJ.bh;rw[show _r ((p:Int)<len t.a?)=O from by simp[len];omega,bz,E! c?]
  rfl
 |succ q z=>
  intro p w;have u:p<W t.a?.l:=c?
  have B:bG (λq:Int=>dJ.bF kind m p t ⟨0,0⟩ q) 0=M (match(jU p 0 t.a?.l[p].b?.l).find? (mW kind m)with|some x=>.r x.1|none=>.x ()):=Qk (t:=t) (kind:=kind) (m:=m) c? (ζd u) (a.2 _ (t? u)).1 (t.a?.l[p].b?.l.length) 0 c?
  rw[eF];unfold dJ.bh;rw[show _r ((p:Int)<len t.a?)=U from by simp[len];omega,bq]
  unfold dJ.W2;rw[B,V? u];simp only[gQ,f4]
  cases C:(jU p 0 t.a?.l[p].b?.l).find? (mW kind m)with
  |some x=>rfl|none=>
   simp only[ζb,Fw.elim,Option.none_or];rw[cm p c?]
   exact z (p+1) c?
theorem find_eq{t:Z4}(a:Small t)(kind m:Int):dJ t kind m=M (g_ t kind m):=by unfold dJ dJ.W1;have u:bG (λq:Int=>dJ.bh kind m t ⟨0,0⟩ q) 0=M (match(bJ t).find? (mW kind m)with|some x=>.r x.1|none=>.x ()):=Ro a (kind:=kind) (m:=m) (W t.a?.l) 0 c?;rw[u];unfold g_;cases(bJ t).find? (mW kind m)<;>rfl
theorem yO{t:Z4}{kind m:Int}{x:bf×WF}(h:(bJ t).find? (mW kind m)=M x):x∈bJ t/\x.2.kind=kind/\x.2.d?=m/\g_ t kind m=x.1:=by have a:=List.find?_some h;simp only[mW,ζh,_i]at a;exact⟨List.mem_of_find?_eq_some h,a.1,a.2,by unfold g_;rw[h]⟩
theorem Ms{t:Z4}{kind m:Int}{x:bf×WF}(B:x∈bJ t)(a:x.2.kind=kind)(D:x.2.d?=m):∃y,(bJ t).find? (mW kind m)=M y:=by cases u:(bJ t).find? (mW kind m)with|some y=>exact⟨y,rfl⟩|none=>rw[K!]at u;exact _e (u x B) (by simp[mW,a,D])
theorem Qd{t:Z4}{kind m:Int}(h:∀x∈bJ t,¬(x.2.kind=kind/\x.2.d?=m)):g_ t kind m=⟨0,0⟩:=by
 unfold g_;have:(bJ t).find? (mW kind m)=J:=by rw[K!];intro x u;simp only[mW,ζh,_i];exact h x u
 rw[this]
theorem XN{t:Z4}{p k:Nat}{e:WF}(h:mz t p k e)(a:k<9223372036854775807):xD t ⟨p,k+1⟩=M e:=by have⟨P,u,w⟩:=h;unfold xD;dsimp only;rw[show idx t.a? (p:Int)=M P from by rw[gm];exact u,ζb,show w? N ((k:Int)+1-1)=(k:Int)from by rw[fJ _ c? c?];omega,show idx P.b? (k:Int)=M e from by rw[gm];exact w];rfl
def yN(t:Z4)(x:bf×WF):Int:=if x.2.kind=1 then 0 else if g_ t x.2.kind x.2.d?=x.1 then(if x.2.kind=3 then(if vq t x.2.k? x.2.d? x.1.proc then 0 else 7)else 0)else 8
theorem RM{t:Z4}(b:Small t){p k:Nat}{e:WF}(h:mz t p k e)(j:mL (W t.a?.l) p e):jN t ⟨p,k+1⟩=M (yN t (⟨p,k+1⟩,e)):=by
 have d:k<1073741824:=by have⟨P,q,X⟩:=h;have:=(b.2 P (s? q)).1;have:=(ζe.1 X).1;omega
 unfold jN yN;rw[XN h c?,ζb];dsimp only;by_cases a:e.kind=1;rw[show(e.kind==1)=U from by simp[a],bq,L' a];rw[show(e.kind==1)=O from by simp[a],bz,M' a,find_eq b,ζb];have D:OD (g_ t e.kind e.d?) ⟨p,(k:Int)+1⟩=_r (g_ t e.kind e.d?=⟨p,(k:Int)+1⟩):=by unfold OD;rw[Bool.eq_iff_iff];cases g_ t e.kind e.d?;simp
 rw[D];by_cases w:g_ t e.kind e.d?=⟨p,(k:Int)+1⟩;rw[L' w,show _r (g_ t e.kind e.d?=⟨p,(k:Int)+1⟩)=U from by simpa using w,bq];by_cases B:e.kind=3;rw[L' B,show(e.kind==3)=U from by simp[B],bq];have G:0<=e.k?/\e.k?<W t.a?.l:=by rcases j with h|⟨_,a,w,_⟩;exact _e h a;exact⟨a,w⟩
 have o:e.k?.toNat<W t.a?.l:=c?;have S:=ζd o;have y:=(b.2 _ (t? o)).1;generalize Z:t.a?.l[e.k?.toNat]=Q at *;have I:idx t.a? e.k?=M Q:=by rw[VX G.1];exact S
 have g:vq t e.k? e.d? p=Q.b?.l.any λs=>s.kind==2&&s.d?==e.d?&&s.k?==p:=by unfold vq;rw[S]
 unfold jN.W1;refine Wp.eq (ey (λz:X'×Int=>∃m:Nat,z.2=m/\m<=W Q.b?.l/\z.1=(Q.b?.l.take m).any λs=>s.kind==2&&s.d?==e.d?&&s.k?==p) (λz=>W Q.b?.l-z.2.toNat) ⟨0,Y,R? _,Y⟩ ?_);rintro⟨s,i⟩ ⟨m,c,f,C⟩;simp only at c C;subst c;unfold jN.bh;dsimp only;rw[I,ζb,b9];constructor;intro L;have u:m<W Q.b?.l:=by simpa[len]using L
 have T:=cm m c?;rw[ζb,bA u,ζb,oZ,ζb,oZ,ζb,mP,ζb,a_];refine⟨⟨m+1,T,c?,?_⟩,by show _-(w? N ((m:Int)+1)).toNat<_;rw[T];simp;omega⟩;show(s||_)=_;rw[P?,ζd u,List.any_append,C];simp;intro L;have u:W Q.b?.l<=m:=by simpa[len]using L
 rw[a! u]at C;refine(a_ _).2 ?_;rw[g,<-C];cases s;exact(a_ _).2 rfl;exact(a_ _).2 rfl;rw[M' B,show(e.kind==3)=O from by simp[B],bz];rw[M' w,show _r (g_ t e.kind e.d?=⟨p,(k:Int)+1⟩)=O from by simpa using w,bz]
theorem PZ{t:Z4}(d:∀x∈bJ t,mL (W t.a?.l) x.1.proc x.2):(∀x∈bJ t,yN t x=0)↔AL t:=by
 constructor;intro h;have key:∀x∈bJ t,x.2.kind≠1->g_ t x.2.kind x.2.d?=x.1:=λx u a=>by have:=h x u;unfold yN at this;rw[M' a]at this;split at this;assumption;cases this
 refine⟨λx u y w z B C=>?_,λx u y w z B C=>?_,λx u z=>?_⟩;rw[<-key x u c?,<-key y w c?,z,B,C];rw[<-key x u c?,<-key y w c?,z,B,C];have:=h x u;unfold yN at this;rw[M' c?,L' (key x u c?),L' z]at this;split at this;assumption;cases this;intro h x u;unfold yN;by_cases k1:x.2.kind=1;rw[L' k1];rw[M' k1];have⟨y,w⟩:=Ms u Y Y;have⟨D,G,y3,y4⟩:=yO w;have a:x.2.kind=2\/x.2.kind=3:=by rcases d x u with h|⟨h,_⟩;exact _e h k1;exact h
 have I:g_ t x.2.kind x.2.d?=x.1:=by rw[y4];rcases a with a|a;exact h.snd y D x u (by rw[G,a]) a y3;exact h.rcv y D x u (by rw[G,a]) a y3
 rw[L' I];by_cases k3:x.2.kind=3;rw[L' k3,L' (h.has x u k3)];rw[M' k3]
theorem AX{t:Z4}(D:∀x∈bJ t,mL (W t.a?.l) x.1.proc x.2)(G:AL t){z:bf}{f:WF}(B:(z,f)∈bJ t)(a:f.kind=3):∃e,(g_ t 2 f.d?,e)∈bJ t/\e.kind=2/\e.d?=f.d?:=by
 have h:=G.has _ B a;have I:0<=f.k?:=by rcases D _ B with h|⟨_,h,_⟩;grind;omega
 rw[show f.k?=(f.k?.toNat:Nat)from c?,BF]at h;have⟨k,e,u,b,w,_⟩:=h;have⟨y,C⟩:=Ms (dU.2 ⟨_,k,u,Y⟩:(⟨(f.k?.toNat:Nat),k+1⟩,e)∈bJ t) b w;have⟨d,L,y3,y4⟩:=yO C;grind
theorem MS.find{t:Z4}(G:∀x∈bJ t,mL (W t.a?.l) x.1.proc x.2)(B:AL t){y z:bf}{f:WF}(h:MS t y z)(D:(z,f)∈bJ t):f.kind=3/\g_ t 2 f.d?=y:=by have⟨e,I,a,w,C,u,d⟩:=h;cases By w D Y;have⟨L,a1,a2,a3⟩:=AX G B D u;exact⟨u,B.snd _ a1 _ a a2 C p?⟩
theorem ED{t:Z4}(b:Small t)(g:∀x∈bJ t,mL (W t.a?.l) x.1.proc x.2)(B:AL t){z:bf}(D:Vd t z):
 Wp (dL t z) λs=>W s.l<=2/\∀y,y∈s.l↔Edge t y z:=by
 obtain⟨p,k,f,w,rfl,u⟩:=D.at_;have d:k<1073741824:=by have⟨P,B,I⟩:=w;have:=(b.2 P (s? B)).1;grind
 have j:∀s:Sl bf,W s.l<=1->(∀y,y∈s.l↔Vd t y/\(⟨p,k+1⟩:bf)=⟨y.proc,y.index+1⟩)->Wp (dL.J1 s t ⟨p,k+1⟩) λs=>W s.l<=2/\∀y,y∈s.l↔Edge t y ⟨p,k+1⟩:=by intro s Q C;unfold dL.J1;rw[XN w c?,ζb,b9];constructor;intro G;have G:f.kind=3:=(by grind);rw[find_eq b,ζb];unfold d_;rw[L' c?,ζb,a_];refine⟨by show(s.l++[_]).length<=2;grind,λy=>?_⟩;show y∈s.l++[g_ t 2 f.d?]↔_;rw[M!,h!,C];have⟨e,a1,a2,a3⟩:=AX g B u G;constructor;rintro(h|rfl);exact⟨h.1,D,.inl h.2⟩;exact⟨⟨e,a1⟩,D,.inr ⟨e,f,a1,u,a2,G,a3⟩⟩;rintro⟨c,_,a|a⟩;grind;exact .inr (a.find g B u).2.symm;intro G;refine(a_ _).2 ⟨c?,λy=>(C y).trans ⟨λh=>⟨h.1,D,.inl h.2⟩,λ⟨c,_,a⟩=>⟨c,a.elim id λa=>?_⟩⟩⟩;have:=(a.find g B u).1;grind
 unfold dL;rw[b9];constructor
 .intro h;have h:k+1>1:=by grind
  refine j _ (by simp[Sl.l]) λy=>?_
  have m:w? N (k+1-1)=k:=by rw[fJ _ c? c?];omega
  simp only[Sl.l,h!,m,bf.mk.injEq];constructor
  .rintro rfl;have⟨P,B,I⟩:=w;have:=(ζe.1 I).1;exact⟨⟨P.b?.l[k-1],dU.2 ⟨p,k-1,⟨P,B,ζd c?⟩,by simp;omega⟩⟩,Y,Y⟩
  simp_all
 intro h;refine j _ (by simp[Sl.l]) λy=>⟨λL=>by simp[Sl.l]at L,λ⟨L,I⟩=>?_⟩
 obtain⟨q,i,f,_,rfl,_⟩:=L.at_
 grind
theorem abZ{α:Type}{r:α->α->Prop}{x:α}(h:Acc r x):¬TransGen r x x:=by induction h with|intro x _ u=>intro h;cases h with|single h=>exact u x h (.single h)|tail h1 w=>exact u _ w (TransGen.trans (.single w) h1)
theorem OM:∀{d:ST}{i k:Nat},d[i]?=M k->(d.set i (k+1)).sum=d.sum+1
 |[],_,_,h=>p?|x::d,0,k,h=>h?|x::d,i+1,k,h=>by have:=OM (d:=d) (i:=i) (k:=k) h?;grind
theorem RG:∀{d l:ST},W d=W l->(∀(i a b:Nat),d[i]?=M a->l[i]?=M b->a<=b)->d.sum<=l.sum
 |[],_,_,_=>f?|x::d,[],h,_=>p?|x::d,y::l,h,B=>by have c:=B 0 x y Y Y;have u:=RG (d:=d) (l:=l) h? λi a b w z=>B (i+1) a b h? h?;simp;omega
def nI(d:ST):SW:=d.map Int.ofNat
def sI(s:Zg):Nat:=(s.l.map toNat).sum
theorem Kk(d:ST):sI (.row (nI d))=d.sum:=by unfold sI nI;rw[show(Sl.row (d.map Int.ofNat)).l=d.map Int.ofNat from Y,map_map,show(toNat ∘ Int.ofNat)=id from Y,List.map_id]
theorem Te(d:ST):W (nI d)=W d:=by simp[nI]
structure Kh(t:Trace)(d:List Nat):Prop where
 len:d.length=t.a?.l.length
 le:∀(p k:Nat)P,d[p]?=some k->t.a?.l[p]?=some P->k<=P.b?.l.length
 acc:∀(p k j:Nat),d[p]?=some k->j<k->Acc (Edge t) ⟨p,j+1⟩
def oP(t:Z4):Nat:=(t.a?.l.map λP=>W P.b?.l).sum
theorem Kh.sum{t:Z4}{d:ST}(h:Kh t d):d.sum<=oP t:=RG (by simp[h.len]) λi a b z u=>by cases w:t.a?.l[i]?with|none=>grind|some P=>simp[w]at u;rw[<-u];exact h.le i a P z w
theorem GR{d:ST}{p:Nat}(h:p<W d):Sl.iA (.row (nI d)) (p:Int)=M p:=by unfold Sl.iA;rw[L' ⟨c?,by simpa[Sl.l,Te]using h⟩];rfl
theorem Ci{d:ST}{p k:Nat}(h:d[p]?=M k):Sl.get (.row (nI d)) p=M (k:Int):=by unfold Sl.get nI;rw[show(Sl.row (d.map Int.ofNat)).l=d.map Int.ofNat from Y,k!,h];rfl
def Mv(t:Z4)(B:ST)(s:Zg)(b:X')(d:ST):Prop:=s=.row (nI d)/\Kh t d/\B.sum<=d.sum/\(b=U->B.sum<d.sum)
def KQ(t:Z4)(B:ST)(p:Nat)(w:Fw (Zg×X'×Int) (Zg×X') Empty):Prop:=∃u z C,w=.n (u,z,((p+1:Nat):Int))/\Mv t B u z C
theorem aac{t:Z4}(g:Small t)(m:∀x∈bJ t,mL (_l t.a?.l) x.1.proc x.2)(n:AL t){B o:ST}{s:Zg}{b:X'}{p:Nat}(hp:p<_l t.a?.l)(A:Mv t B s b o):
 Wp (eV.W3 s b p t) (KQ t B p):=by
 have Y:=bA hp;have hn:=g.1;have af:=(g.2 _ (t? hp)).1;have C:=ζd hp;generalize t.a?.l[p]=P at *;refine ey (λq:Zg×X'=>∃d,Mv t B q.1 q.2 d) (λq=>oP t-sI q.1) ⟨o,A⟩ ?_
 rintro⟨s,b⟩ ⟨d,rfl,u,hd,E⟩;have w:p<_l d:=by rw[u.len];omega
 have a:=ζd w;generalize d[p]=k at a;have ah:=u.le p k P a C;have stop:∀{W:Empty->Prop},Wp (M (Fw.x (Sl.row (nI d),b))) (Xa (λq:Zg×X'=>∃d,Mv t B q.1 q.2 d) (λq=>oP t-sI q.1) (λe=>Wp (M (Fw.n (e.1,e.2,w? N (p+1)))) (KQ t B p)) W (Sl.row (nI d),b)):=by refine(a_ _).2 ((a_ _).2 ⟨_,_,d,?_,_k,u,hd,E⟩);rw[cm p c?]
 unfold eV.eH;rw[GR w,ζb,Ci a,ζb,Y,ζb,b9];refine⟨λh=>?_,λ_=>stop⟩
 have D:k<_l P.b?.l:=h?
 have Z:mz t p k P.b?.l[k]:=⟨P,C,ζd D⟩;have z:(⟨p,k+1⟩,P.b?.l[k])∈bJ t:=dU.2 ⟨p,k,Z,_k⟩;have go:(P.b?.l[k].kind=3->∀q j:Nat,g_ t 2 P.b?.l[k].d?=⟨q,j+1⟩->∃X,d[q]?=M X/\j<X)->∀{r:Zg×X'->Prop}{W:Empty->Prop},Wp (eV.J4 (.row (nI d)) p t) (Xa (λq:Zg×X'=>∃d,Mv t B q.1 q.2 d) (λq=>oP t-sI q.1) r W (Sl.row (nI d),b)):=by intro F r W;unfold eV.J4;rw[GR w,ζb,Ci a,ζb,ζb];unfold Sl.put;rw[L' (by simpa[Sl.l,Te]using w),ζb,a_];have G:(nI d).set p (w? N ((k:Int)+1))=nI (d.set p (k+1)):=(by rw[cm k c?];unfold nI;simp_all);have I:=OM a;have b__:Kh t (d.set p (k+1)):=(by refine⟨by simp[u.len],λq i Q c v=>?_,λq i j c H=>?_⟩;rw[C?]at c;split at c;grind;exact u.le q i Q c v;rw[C?]at c;split at c;rename_i e;subst e;cases c;by_cases K:j<k;exact u.acc p k j a K;have:j=k:=c?;subst this;refine Acc.intro _ λy a__=>?_;obtain⟨L,_,l|l⟩:=a__;obtain⟨q,i,f,_,rfl,_⟩:=L.at_;simp[bf.mk.injEq]at l;have e1:q=p:=(by omega);subst e1;exact u.acc q j i a c?;have⟨d__,e__⟩:=l.find m n z;obtain⟨q,i,f,_,rfl,_⟩:=L.at_;have⟨X,R,V⟩:=F d__ q i e__;exact u.acc q X i R V;exact u.acc q i j c H);have ai:=b__.sum;refine⟨⟨_,h?,b__,h?,λ_=>h?⟩,?_⟩;show oP t-sI (.row ((nI d).set p (w? N ((k:Int)+1))))<oP t-sI (.row (nI d));rw[G,Kk,Kk,I];grind
 dsimp only;rw[ζb,ζb,Ci a,ζb,bA D,ζb,b9];refine⟨λd__=>?_,λd__=>go λh=>h?⟩
 have d__:P.b?.l[k].kind=3:=h?
 have⟨e,a1,a2,a3⟩:=AX m n z d__;have⟨q,j,S,T⟩:=dU.1 a1;simp only at T;have c__:q<_l d:=by have⟨Q,v,_⟩:=S;rw[u.len];grind
 have ae:=ζd c__;rw[find_eq g,ζb,T,GR c__,ζb,Ci ae,ζb,b9];refine⟨λ_=>stop,λh=>go λ_ q' j' hh=>?_⟩
 grind
theorem Rp{t:Z4}(a:Small t)(T:∀x∈bJ t,mL (_l t.a?.l) x.1.proc x.2)(B:AL t):Wp (eV t) λb=>b=U->¬OZ t:=by
 have m:=a.1;unfold eV nv;rw[L' h?,ζb];have b__:(Sl.row (replicate (len t.a?).toNat 0))=.row (nI (replicate (_l t.a?.l) 0)):=by simp[nI]
 rw[b__];refine ey (λs:Zg=>∃d,s=.row (nI d)/\Kh t d) (λs=>oP t-sI s) ⟨_,_k,f?,λp k P h _=>h?,λp k j h o=>h?⟩ ?_;rintro s ⟨D,rfl,Q⟩;refine ey (λq:Zg×X'×Int=>∃(n:Nat)(d:ST),q.2.2=n/\n<=_l t.a?.l/\Mv t D q.1 q.2.1 d) (λq=>_l t.a?.l-q.2.2.toNat) ⟨0,D,_k,R? _,_k,Q,y? _,f?⟩ ?_;rintro⟨s,b,i⟩ ⟨n,d,g,S,c⟩;subst g;unfold eV.bF;rw[b9];constructor;intro h;have u:n<_l t.a?.l:=by grind
 refine(aac a T B u c).mono ?_;rintro w ⟨r,v,a__,rfl,G⟩;exact⟨⟨n+1,a__,_k,c?,G⟩,by simp;omega⟩;intro _;obtain⟨rfl,z,W,I⟩:=c;rw[a_];show Wp (bg b _ _) _;rw[b9];refine⟨λX=>(a_ _).2 ⟨⟨d,_k,z⟩,?_⟩,λ_=>(a_ _).2 ?_⟩;show oP t-sI (.row (nI d))<oP t-sI (.row (nI D));rw[Kk,Kk];have:=I X;have:=z.sum;omega;refine ey (λi:Int=>∃n:Nat,i=n/\n<=_l t.a?.l/\∀p,p<n->∀P,t.a?.l[p]?=M P->d[p]?=M (_l P.b?.l)) (λi:Int=>_l t.a?.l-i.toNat) ⟨0,_k,R? _,λp F=>_e F c?⟩ ?_;rintro i ⟨n,rfl,Y,Z⟩;unfold eV.A7;rw[b9];constructor;intro h;have u:n<_l t.a?.l:=by grind
 have C:n<_l d:=by rw[z.len];omega
 have f:=ζd C;rw[GR C,ζb,Ci f,ζb,bA u,ζb,b9];refine⟨λ_=>(a_ _).2 ((a_ _).2 λh=>by cases h),λh=>(a_ _).2 ⟨⟨n+1,cm n c?,c?,λp F P B=>?_⟩,by rw[cm n c?];simp;omega⟩⟩;by_cases e:p=n;subst e;rw[ζd u]at B;have:=z.le p _ _ f (ζd u);grind;grind;intro h;have y:_l t.a?.l<=n:=h?;refine(a_ _).2 ((a_ _).2 λ_⟨x,L⟩=>?_);obtain⟨p,k,e,⟨P,B,l⟩,rfl,_⟩:=L.l.at_;have A:=(ζe.1 B).1;exact abZ (z.acc p _ k (Z p c? P B) (ζe.1 l).1) L
def tK(out:aX (aX X'))(y:bf):X':=match out[y.proc.toNat]?with
 |some row=>row[y.index.toNat]?.getD O|none=>O
theorem CB{t:Z4}{out:aX (aX X')}{p k:Nat}{row:aX X'}(a:out[p]?=M row)(b:k+1<W row){z:bf}(B:Vd t z):
 tK (out.set p (row.set (k+1) U)) z=(_r (z=⟨p,k+1⟩)||tK out z):=by
 obtain⟨q,j,e,_,rfl,_⟩:=B.at_;have C:=(ζe.1 a).1;unfold tK;have e1:(⟨(q:Int),(j:Int)+1⟩:bf).proc.toNat=q:=rfl;have e2:(⟨(q:Int),(j:Int)+1⟩:bf).index.toNat=j+1:=by show((j:Int)+1).toNat=j+1;omega
 rw[e1,e2,C?]
 by_cases u:p=q
 .subst u;rw[L' Y,L' C,a];dsimp only;rw[C?]
  by_cases w:k=j
  .subst w;simp[b]
  rw[M' c?,show _r ((⟨(p:Int),(j:Int)+1⟩:bf)=⟨p,k+1⟩)=O from by simp;omega,Bool.false_or]
 rw[M' u,show _r ((⟨(q:Int),(j:Int)+1⟩:bf)=⟨p,k+1⟩)=O from by simp;omega,Bool.false_or]
theorem C1 {α:Type} {f g:α->Bool}:∀{l:aX α},(∀z∈l,f z=true->g z=true)->(∃z∈l,f z=false/\g z=true)->l.countP f<l.countP g
 | [],_,⟨z,hz,_⟩=>by simp at hz
 | a::l,h,⟨z,hz,B,hg⟩=>by
  simp only[List.countP_cons];have D:=List.countP_mono_left (l:=l) (p:=f) (q:=g) λx u=>h x (List.mem_cons_of_mem _ u)
  rcases List.mem_cons.1 hz with rfl|hz
  .simp[B,hg];omega
  have:=C1 (l:=l) (λx u=>h x (List.mem_cons_of_mem _ u)) ⟨z,hz,B,hg⟩
  have h1:=h a (List.mem_cons_self ..)
  cases w:f a with
  | true=>simp[h1 w];omega
  | false=>simp;split <;> omega
def cnt(t:Z4)(out:aX (aX X')):Nat:=(bJ t).countP λz=>tK out z.1
structure PSt(t:Trace)(x:bf)(out:List (List Bool))(i?:List bf):Prop where
 xL:∀(p:Nat)P,t.a?.l[p]?=some P->∃row,out[p]?=some row/\row.length=P.b?.l.length+1
 len:out.length=t.a?.l.length
 que:∀y∈i?,Way t y x
 snd:∀y,Vd t y->tK out y=true->Way t y x
 cls:∀z,z=x\/Vd t z/\tK out z=true->∀y,Edge t y z->tK out y=true\/y∈i?
 le:i?.length<=2*cnt t out+2
def nested(out:aX (aX X')):Sl (Sl X'):=if out=[]then .nil else .row (out.map .row)
def oG(t:Z4):aX (aX X'):=t.a?.l.map λP=>replicate (W P.b?.l+1) O
theorem E6(out:aX (aX X')):(nested out).l=out.map .row:=by
 unfold nested;split;next h=>rw[h];rfl
 rfl
def LO(s:Sl (Sl X')):aX (aX X'):=s.l.map Sl.l
theorem X4(out:aX (aX X')):LO (nested out)=out:=by unfold LO;rw[E6,map_map];exact List.map_id' _
theorem Gi{out:aX (aX X')}{p:Nat}{row:aX X'}(h:out[p]?=M row):H (idx (nested out) (p:Int)) Sl.whole=M (.row row):=by rw[gm,E6,k!,h];rfl
theorem GH{out:aX (aX X')}{p:Nat}{row B:aX X'}(h:out[p]?=M row):qW (nested out) (p:Int) (.row B)=nested (out.set p B):=by
 have u:out≠[]:=by rintro rfl;cases h
 unfold nested;rw[M' u,M' (by simpa using u)];simp[qW,List.map_set]
theorem Qq{out:aX (aX X')}{r:aX X'}(h:W out<2147483648):d_ (nested out) (.row r)=M (nested (out++[r])):=by unfold d_;rw[E6,L' (by simp;omega)];simp[nested]
theorem aeo{α:Type}{s:Sl α}{y:α}{r:aX α}(h:s.l=y::r):∃c,nH s (M 1) J=M c/\c.l=r:=by
 have u:∀l:aX α,l=y::r->ec (W l) (M 1) J=M (1,W l):=λl w=>by unfold ec;simp only[H!,getD_none];rw[L' (by subst w;simp;omega)];rfl
 cases s with|nil=>cases h|emp=>cases h|row l=>exact⟨_,by simp only[nH,u l h];rfl,by show(l.take (W l)).drop 1=r;rw[M?,show l=y::r from h];rfl⟩|part l=>exact⟨_,by simp only[nH,u l h];rfl,by show(l.take (W l)).drop 1=r;rw[M?,show l=y::r from h];rfl⟩
theorem Hw{t:Z4}{y:bf}{s:Sl bf}(h:dL t y=M s):s.whole=M s:=by
 have B:∀o z,Sl.whole o=M o->dL.J1 o t y=M z->z.whole=M z:=λo z D u=>by unfold dL.J1 at u;have⟨e,_,u⟩:=ζg.1 u;cases C:e.kind==3 with|true=>rw[C]at u;have⟨f,_,u⟩:=ζg.1 u;have⟨q,w,u⟩:=ζg.1 u;cases u;unfold d_ at w;split at w<;>cases w;rfl|false=>rw[C]at u;cases u;exact D
 unfold dL at h;cases a:_r (y.index>1)with|true=>rw[a]at h;exact B _ s Y h|false=>rw[a]at h;exact B _ s Y h
theorem JK{t:Z4}{y:bf}{P:Sl bf->Prop}(h:Wp (dL t y) P):Wp (H (dL t y) Sl.whole) P:=by have⟨s,a,u⟩:=h;exact⟨s,by rw[a];exact Hw a,u⟩
theorem V7{α:Type}{s:Sl α}{p:Nat}(h:p<W s.l):Sl.iA s (p:Int)=M p:=by unfold Sl.iA;rw[L' ⟨c?,by simpa using h⟩];rfl
theorem Eb{t:Z4}{y:bf}:tK (oG t) y=O:=by
 unfold tK oG;split;rename_i row h;rw[k!]at h;cases u:t.a?.l[y.proc.toNat]?with|none=>simp[u]at h|some P=>simp[u]at h;subst h;rw[List.getElem?_replicate];split<;>rfl
 rfl
theorem YB {t:Trace} (hS:Small t) (hN:(bJ t).length<1073741824) (hF:∀x∈bJ t,mL t.a?.l.length x.1.proc x.2) (hP:AL t) {x:bf} (hx:Vd t x) :
 Wp (gW t x) λs=>∃out,s=nested out/\PSt t x out []/\∀y,Vd t y->(tK out y=true↔Way t y x):=by
 have hn:=hS.1;have am:(oG t).length=t.a?.l.length:=by simp[oG]
 unfold gW gW.W1;refine ey (λq:Sl (Sl Bool)×Int=>∃n:Nat,q.2=(n:Int)/\n<=t.a?.l.length/\q.1=nested ((oG t).take n)) (λq=>t.a?.l.length-q.2.toNat) ⟨0,rfl,Nat.zero_le _,rfl⟩ ?_
 rintro⟨_,_⟩ ⟨n,rfl,an,rfl⟩;unfold gW.bh;dsimp only;rw[b9];refine⟨λh=>?_,λh=>?_⟩
 .have C:n<t.a?.l.length:=by simpa [len]using h
  have ao:=(hS.2 _ (List.getElem_mem C)).1;have hi:(oG t)[n]' c?=List.replicate (t.a?.l[n].b?.l.length+1) false:=by simp[oG]
  rw[bA C,ζb,show IntKind.wrap .i64 (len t.a?.l[n].b?+1)=((t.a?.l[n].b?.l.length+1:Nat):Int)from cm _ c?,show nv (((t.a?.l[n].b?.l.length+1:Nat)):Int) false=some (.row (List.replicate (t.a?.l[n].b?.l.length+1) false))from by unfold nv;rw[L' c?];simp,ζb]
  show Wp (((some _:aY (Sl Bool)).bind _)) _;rw[ζb,Qq (by simp;omega),ζb,a_]
  refine⟨⟨n+1,cm n c?,C,?_⟩,?_⟩
  .rw[List.take_succ_eq_append_getElem c?,hi]
  show t.a?.l.length-(IntKind.wrap .i64 ((n:Int)+1)).toNat<t.a?.l.length-((n:Int)).toNat;rw[cm n c?];omega
 have g:t.a?.l.length<=n:=by simpa [len]using h
 rw[a_,List.take_of_length_le c?]
 show Wp _ _;rw[dZ];refine(JK (ED hS hF hP hx)).mono λs hs=>?_
 unfold gW.W2;refine ey (λq:Sl (Sl Bool)×Sl bf=>∃out,q.1=nested out/\PSt t x out q.2.l) (λq=>2*((bJ t).length-cnt t (LO q.1))+q.2.l.length) ⟨oG t,rfl,λp P hP=>⟨List.replicate (P.b?.l.length+1) false,by simp[oG,hP],by simp⟩,by simp[oG],λy I=>.single ((hs.2 y).1 I),λy _ h=>(by rw[Eb]at h;cases h),λz hz y I=>?_,by have:=hs.1;show s.l.length<=2*cnt t (oG t)+2;omega⟩ ?_
 .rcases hz with rfl|⟨_,h⟩
  .exact .inr ((hs.2 y).2 I)
  rw[Eb]at h;cases h
 rintro⟨_,todo⟩ ⟨out,rfl,u⟩;simp only at u;unfold gW.bF
 cases D:todo.l with
 | nil=>
  rw[D]at u;rw[show decide (len todo>0)=false from by simp[len,D],bz,a_]
  refine(a_ _).2 ⟨out,rfl,u,λy I=>⟨u.snd y I,λi=>?_⟩⟩
  have key:∀w,Way t y w->w=x\/Vd t w/\tK out w=true->tK out y=true:=λw i=>by
   induction i with
   | single h=>exact λi=>(u.cls _ i _ h).elim id λh=>by cases h
   | tail ap W ih=>exact λi=>ih (.inr ⟨W.1,(u.cls _ i _ W).elim id λh=>by cases h⟩)
  exact key x i (.inl rfl)
 | cons y i?=>
  rw[D]at u;have S:=u.que y (List.mem_cons_self ..);have T:=S.l;obtain⟨p,k,e,ad,rfl,X⟩:=T.at_;obtain⟨P,Y,hk⟩:=ad;have aq:=(ζe.1 hk).1;obtain⟨row,hr,ae⟩:=u.xL p P Y;have B:k+1<row.length:=by omega
  have e2:((k:Int)+1)=((k+1:Nat):Int):=by omega
  obtain⟨c,af,d⟩:=aeo D;have Z:out.set p row=out:=by
   obtain⟨hp,ah⟩:=ζe.1 hr;rw[<-ah];exact List.set_getElem_self hp
  rw[show decide (len todo>0)=true from by simp[len,D],bq,show Sl.iA todo 0=some 0 from by unfold Sl.iA;rw[L' (by simp[D])];rfl,ζb,show Sl.get todo 0=some ⟨(p:Int),(k:Int)+1⟩from by unfold Sl.get;rw[D];rfl,ζb,af,ζb]
  dsimp only;rw[Gi hr,ζb,e2,show Sl.iA (.row row) ((k+1:Nat):Int)=some (k+1)from V7 B,ζb,show Sl.get (.row row) (k+1)=some row[k+1]from ζd B,ζb,show Sl.whole (.row row)=some (.row row)from rfl,ζb,GH hr,Z,b9];have aa:tK out ⟨p,k+1⟩=row[k+1]:=by
   unfold tK;rw[show ((⟨(p:Int),(k:Int)+1⟩:bf).proc).toNat=p from rfl,hr];dsimp only;rw[show ((k:Int)+1).toNat=k+1 from by omega,ζd B];rfl
  constructor
  .intro hb;rw[a_];refine⟨⟨out,rfl,u.xL,u.len,λy I=>u.que y (List.mem_cons_of_mem _ (d▸I)),u.snd,λz hz y I=>?_,by have:=u.le;simp only[List.length_cons]at this;rw[d];omega⟩,?_⟩
   .rw[d];rcases u.cls z hz y I with h|h
    .exact .inl h
    rcases List.mem_cons.1 h with rfl|h
    .exact .inl (by rw[aa];exact hb)
    exact .inr h
   show 2*((bJ t).length-cnt t (LO (nested out)))+c.l.length<2*((bJ t).length-cnt t (LO (nested out)))+todo.l.length;rw[d,D,List.length_cons];omega
  intro hb;obtain⟨L,ai,aj⟩:∃r,Sl.put (.row row) (k+1) true=some (.row r)/\r=row.set (k+1) true:=⟨_,by unfold Sl.put;rw[L' (show k+1<(Sl.row row).l.length from B)],rfl⟩
  rw[Gi hr,ζb,show Sl.iA (.row row) ((k+1:Nat):Int)=some (k+1)from V7 B,ζb,ai,ζb,show Sl.whole (.row L)=some (.row L)from rfl,ζb,GH hr,aj,dZ,<-e2];refine(JK (ED hS hF hP T)).mono λmore hm=>?_
  have ak:=u.le;simp only[List.length_cons]at ak;have ar:cnt t out<=(bJ t).length:=List.countP_le_length;have au:=hm.1;have C:cnt t out<cnt t (out.set p (row.set (k+1) true)):=C1 (λz hz h=>by rw[CB hr B ⟨_,hz⟩,h,Bool.or_true]) ⟨_,X,by rw[aa,hb],by rw[CB hr B T];simp⟩
  have al:cnt t (out.set p (row.set (k+1) true))<=(bJ t).length:=List.countP_le_length;unfold gW.W3;refine ey (λq:Sl bf×Int=>∃n:Nat,q.2=(n:Int)/\n<=more.l.length/\q.1.l=i?++more.l.take n) (λq=>more.l.length-q.2.toNat) ⟨0,rfl,Nat.zero_le _,by simp[d]⟩ ?_
  rintro⟨td,_⟩ ⟨n,rfl,hn,G⟩;simp only at G;unfold gW.eH;rw[b9];refine⟨λh=>?_,λh=>?_⟩
  .have C:n<more.l.length:=by simpa [len]using h
   obtain⟨av,w1,w2⟩:∃r,d_ td more.l[n]=some r/\r.l=td.l++[more.l[n]]:=⟨_,by unfold d_;rw[L' (by rw[G];simp;omega)],rfl⟩
   rw[V7 C,ζb,show Sl.get more n=some more.l[n]from ζd C,ζb,w1,ζb,a_];exact⟨⟨n+1,cm n c?,C,by rw[w2,G,List.take_succ_eq_append_getElem C,List.append_assoc]⟩,by rw[cm n c?];simp;omega⟩
  have g:more.l.length<=n:=by simpa [len]using h
  rw[List.take_of_length_le g]at G;rw[a_];refine(a_ _).2 ⟨⟨_,rfl,λq Q hQ=>?_,by show (out.set _ _).length=_;rw[List.length_set];exact u.len,λz hz=>?_,λz hz h=>?_,λz hz y I=>?_,by rw[G,ζi];show _<=2*cnt t (out.set p (row.set (k+1) true))+2;omega⟩,?_⟩
  .show ∃r,(out.set p (row.set (k+1) true))[q]? = some r/\_;rw[List.getElem?_set];split
   next e=>subst e;rw[L' (ζe.1 hr).1];rw[Y]at hQ;cases hQ;exact⟨_,rfl,by simp[ae]⟩
   exact u.xL q Q hQ
  .rw[G]at hz;rcases List.mem_append.1 hz with hz|hz
   .exact u.que z (List.mem_cons_of_mem _ hz)
   exact .trans (.single ((hm.2 z).1 hz)) S
  .show Way t z x;have h:tK (out.set p (row.set (k+1) true)) z=true:=h;rw[CB hr B hz]at h;simp only[Bool.or_eq_true,_g]at h;rcases h with rfl|h
   .exact S
   exact u.snd z hz h
  .rw[G];show tK (out.set p (row.set (k+1) true)) y=true\/y∈i?++more.l;rw[CB hr B I.1];have old:z=x\/Vd t z/\tK out z=true->(decide (y=⟨p,k+1⟩)||tK out y)=true\/y∈i?++more.l:=λhz=>by
    rcases u.cls z hz y I with h|h
    .exact .inl (by rw[show tK out y=true from h,Bool.or_true])
    rcases List.mem_cons.1 h with rfl|h
    .exact .inl f?
    exact .inr (List.mem_append_left _ h)
   rcases hz with hz|⟨ab,hz⟩
   .exact old (.inl hz)
   have hz:tK (out.set p (row.set (k+1) true)) z=true:=hz;rw[CB hr B ab]at hz;simp only[Bool.or_eq_true,_g]at hz;rcases hz with rfl|hz
   .exact .inr (List.mem_append_right _ ((hm.2 y).2 I))
   exact old (.inr ⟨ab,hz⟩)
  show 2*((bJ t).length-cnt t (LO (nested (out.set p (row.set (k+1) true)))))+td.l.length<2*((bJ t).length-cnt t (LO (nested out)))+todo.l.length;rw[X4,X4,G,D,ζi,List.length_cons];omega
theorem adO{t:Z4}(b:Small t)(Y:_l (bJ t)<1073741824)(f:∀x∈bJ t,mL (_l t.a?.l) x.1.proc x.2)(G:AL t):Wp (dn.W6 0 t ⟨0,0⟩) λr=>(r.2=0↔¬OZ t):=by
 have v:=b.1;unfold dn.W6;refine ey (λi:Int=>∃n:Nat,i=n/\n<=_l t.a?.l/\∀(p k:Nat)e,p<n->mz t p k e->¬Way t ⟨p,k+1⟩ ⟨p,k+1⟩) (λi:Int=>_l t.a?.l-i.toNat) ⟨0,_k,R? _,λp k e T=>_e T c?⟩ ?_;rintro i ⟨n,rfl,Z,b__⟩;unfold dn.O4;rw[b9];constructor;intro h;have w:n<_l t.a?.l:=by simpa[len]using h
 have I:=bA w;have z:=ζd w;have y:=(b.2 _ (t? w)).1;generalize t.a?.l[n]=P at *;unfold dn.W7;refine ey (λi:Int=>∃m:Nat,i=m/\m<=_l P.b?.l/\∀k,k<m->¬Way t ⟨n,k+1⟩ ⟨n,k+1⟩) (λi:Int=>_l P.b?.l-i.toNat) ⟨0,_k,R? _,λk a=>_e a c?⟩ ?_;rintro i ⟨m,rfl,A,a⟩;unfold dn.OH;rw[I,ζb,b9];constructor;intro h;have a__:m<_l P.b?.l:=by simpa[len]using h
 have L:=cm m c?;have c:Vd t ⟨n,m+1⟩:=⟨P.b?.l[m],dU.2 ⟨n,m,⟨P,z,ζd a__⟩,_k⟩⟩;rw[L,show(((m+1:Nat)):Int)=(m:Int)+1 from f?,dZ];refine(YB b Y f G c).mono ?_;rintro s ⟨out,rfl,g,B⟩;have⟨row,d,E⟩:=g.xL n P z;have c__:out≠[]:=by rintro rfl;cases d
 have C:m+1<_l row:=c?;have j:idx (nested out) (n:Int)=M (.row row):=by unfold nested;rw[M' c__,gm];show(out.map Sl.row)[n]?=_;rw[k!,d];rfl
 have l:idx (Sl.row row) ((m:Int)+1)=M row[m+1]:=by rw[show(m:Int)+1=((m+1:Nat):Int)from f?];exact bA (s:=Sl.row row) C
 rw[j,ζb,l,ζb,b9];have o:row[m+1]=tK out ⟨n,m+1⟩:=by unfold tK;rw[show((⟨(n:Int),(m:Int)+1⟩:bf).proc).toNat=n from _k,d];dsimp only;rw[show((m:Int)+1).toNat=m+1 from c?,ζd C];rfl
 rw[o];refine⟨λD=>(a_ _).2 ((a_ _).2 ((a_ _).2 ⟨λh=>(by cases h),λh=>_e ⟨_,(B _ c).1 D⟩ h⟩)),λD=>(a_ _).2 ⟨⟨m+1,f?,c?,λk F=>?_⟩,by simp;omega⟩⟩;by_cases e:k=m;subst e;exactλL=>by rw[(B _ c).2 L]at D;cases D
 exact a k c?;intro h;have S:_l P.b?.l<=m:=by simpa[len]using h
 refine(a_ _).2 ((a_ _).2 ⟨⟨n+1,cm n c?,c?,λp k e T u=>?_⟩,by rw[cm n c?];simp;omega⟩);by_cases e:p=n;subst e;have⟨Q,W,q⟩:=u;rw[z]at W;cases W;have:=(ζe.1 q).1;exact a k c?;exact b__ p k _ c? u;intro h;have S:_l t.a?.l<=n:=by simpa[len]using h
 refine(a_ _).2 ((a_ _).2 ⟨λ_⟨x,X⟩=>?_,λ_=>rfl⟩);obtain⟨p,k,e,u,rfl,_⟩:=X.l.at_;have⟨P,G,_⟩:=id u;exact b__ p k e (by have:=(ζe.1 G).1;omega) u X
theorem M0{t:Z4}(B:∀x∈bJ t,mL (W t.a?.l) x.1.proc x.2):(∀(p k:Nat)e,mz t p k e->yN t (⟨p,k+1⟩,e)=0)↔AL t:=Iff.trans ⟨λh x w=>by have⟨p,k,b,u⟩:=dU.1 w;have⟨a,e⟩:=x;simp only at b u;rw[u];exact h p k e b,λh p k e z=>h _ (dU.2 ⟨p,k,z,Y⟩)⟩ (PZ B)
theorem Sp{t:Z4}(c:Small t)(s:_l (bJ t)<1073741824):Wp (dn t) λr=>(r.2=0↔Ok t):=by
 have E:=c.1;unfold dn;rw[mP,ζb,b9];refine⟨λS=>(a_ _).2 ⟨λh=>(by cases h),λh=>?_⟩,λS=>?_⟩;have F:=h.one;have f:=h.few;simp only[q!,_g,len]at S;omega;have f:1<=_l t.a?.l/\_l t.a?.l<=8:=by simp only[i!,_h,len]at S;omega
 unfold dn.W1;refine ey (λi:Int=>∃n:Nat,i=n/\n<=_l t.a?.l/\∀p,p<n->tI t p=0) (λi:Int=>_l t.a?.l-i.toNat) ⟨0,_k,R? _,λp I=>_e I c?⟩ ?_;rintro i ⟨n,rfl,H,l⟩;unfold dn.bh;rw[b9];constructor;intro h;have w:n<_l t.a?.l:=by simpa[len]using h
 rw[V_ c w,ζb,b9];refine⟨λC=>(a_ _).2 ⟨⟨n+1,cm n c?,c?,λp I=>?_⟩,by rw[cm n c?];simp;omega⟩,λC=>(a_ _).2 ((a_ _).2 ⟨λh=>?_,λh=>?_⟩)⟩;by_cases e:p=n;subst e;simpa using C;exact l p c?;simp only at h;simp[h]at C;simp[h.heads n w]at C;intro h;have K:_l t.a?.l<=n:=by simpa[len]using h
 rw[a_];unfold dn.W2;refine ey (λi:Int=>∃n:Nat,i=n/\n<=_l t.a?.l/\∀(p k:Nat)P e,p<n->t.a?.l[p]?=M P->P.b?.l[k]?=M e->qg (_l t.a?.l) P p k e=0) (λi:Int=>_l t.a?.l-i.toNat) ⟨0,_k,R? _,λp k P e I=>_e I c?⟩ ?_;rintro i ⟨b__,rfl,a__,X⟩;unfold dn.bF;rw[b9];constructor;intro h;have w:b__<_l t.a?.l:=by simpa[len]using h
 have G:=bA w;have B:=ζd w;have T:=(c.2 _ (t? w)).1;generalize t.a?.l[b__]=P at G B T;unfold dn.W3;refine ey (λi:Int=>∃m:Nat,i=m/\m<=_l P.b?.l/\∀(k:Nat)e,k<m->P.b?.l[k]?=M e->qg (_l t.a?.l) P b__ k e=0) (λi:Int=>_l P.b?.l-i.toNat) ⟨0,_k,R? _,λk e a=>_e a c?⟩ ?_;rintro i ⟨m,rfl,v,a⟩;unfold dn.eH;rw[G,ζb,b9];constructor;intro h;have c__:m<_l P.b?.l:=by simpa[len]using h
 have D:=ζd c__;have d:=cm m c?;rw[Ww c B D,ζb,b9];refine⟨λC=>(a_ _).2 ⟨⟨m+1,d,c?,λk e x u=>?_⟩,by rw[d];simp;omega⟩,λC=>(a_ _).2 ((a_ _).2 ((a_ _).2 ⟨λh=>?_,λh=>?_⟩))⟩;by_cases g:k=m;subst g;rw[D]at u;cases u;simpa using C;exact a k e c? u;simp only at h;simp[h]at C;simp[h.f_ b__ m P _ B D]at C;intro h;have L:_l P.b?.l<=m:=by simpa[len]using h
 refine(a_ _).2 ((a_ _).2 ⟨⟨b__+1,cm b__ c?,c?,λp k Q e I W u=>?_⟩,by rw[cm b__ c?];simp;omega⟩);by_cases j:p=b__;subst j;rw[B]at W;cases W;exact a k e (by have:=(ζe.1 u).1;omega) u;exact X p k Q e c? W u;intro h;have L:_l t.a?.l<=b__:=by simpa[len]using h
 have X:∀(p k:Nat)P e,t.a?.l[p]?=M P->P.b?.l[k]?=M e->qg (_l t.a?.l) P p k e=0:=λp k P e d__ a=>X p k P e (by have:=(ζe.1 d__).1;omega) d__ a;have Y:=I7 X;rw[a_];unfold dn.W4;refine ey (λi:Int=>∃n:Nat,i=n/\n<=_l t.a?.l/\∀(p k:Nat)e,p<n->mz t p k e->yN t (⟨p,k+1⟩,e)=0) (λi:Int=>_l t.a?.l-i.toNat) ⟨0,_k,R? _,λp k e I=>_e I c?⟩ ?_;rintro i ⟨q,rfl,e__,Z⟩;unfold dn.Od;rw[b9];constructor;intro h;have w:q<_l t.a?.l:=by simpa[len]using h
 have G:=bA w;have B:=ζd w;have T:=(c.2 _ (t? w)).1;generalize t.a?.l[q]=P at G B T;unfold dn.W5;refine ey (λi:Int=>∃m:Nat,i=m/\m<=_l P.b?.l/\∀(k:Nat)e,k<m->P.b?.l[k]?=M e->yN t (⟨q,k+1⟩,e)=0) (λi:Int=>_l P.b?.l-i.toNat) ⟨0,_k,R? _,λk e a=>_e a c?⟩ ?_;rintro i ⟨m,rfl,v,a⟩;unfold dn.A7;rw[G,ζb,b9];constructor;intro h;have c__:m<_l P.b?.l:=by simpa[len]using h
 have D:=ζd c__;have d:=cm m c?;have z:mz t q m P.b?.l[m]:=⟨P,B,D⟩;rw[d,show(((m+1:Nat)):Int)=(m:Int)+1 from f?,RM c z (Y (⟨q,m+1⟩,P.b?.l[m]) (dU.2 ⟨q,m,z,_k⟩)),ζb,b9];refine⟨λC=>(a_ _).2 ⟨⟨m+1,f?,c?,λk e x u=>?_⟩,by simp;omega⟩,λC=>(a_ _).2 ((a_ _).2 ((a_ _).2 ⟨λh=>?_,λh=>?_⟩))⟩;by_cases g:k=m;subst g;rw[D]at u;cases u;simpa using C;exact a k e c? u;simp only at h;simp[h]at C;simp[(M0 Y).2 h.A9 q m _ z]at C;intro h;have L:_l P.b?.l<=m:=by simpa[len]using h
 refine(a_ _).2 ((a_ _).2 ⟨⟨q+1,cm q c?,c?,λp k e I z=>?_⟩,by rw[cm q c?];simp;omega⟩);by_cases j:p=q;subst j;have⟨Q,W,u⟩:=z;rw[B]at W;cases W;exact a k e (by have:=(ζe.1 u).1;omega) u;exact Z p k e c? z;intro h;have R:_l t.a?.l<=q:=by simpa[len]using h
 have d__:AL t:=(M0 Y).1 λp k e z=>Z p k e (by have⟨P,d__,_⟩:=z;have:=(ζe.1 d__).1;omega) z;have o:¬OZ t↔Ok t:=⟨λh=>⟨f.1,f.2,λp I=>l p c?,X,d__,h⟩,λh=>h.acyc⟩;rw[a_,dZ];refine(Rp c Y d__).mono λb y=>?_;rw[b9];exact⟨λh=>(a_ _).2 ⟨λ_=>o.1 (y h),λ_=>rfl⟩,λ_=>(adO c s Y d__).mono λr A=>A.trans o⟩
theorem Am{t:Z4}(a:Small t)(B:(bJ t).length<1073741824):∃b,cw t=M b/\qt t=M b/\(b=U->VT t):=by obtain⟨b,u,c,w⟩:=Ve a B;refine⟨b,u,?_,c⟩;unfold qt;obtain⟨r,d,z⟩:=Sp a B;rw[d,ζb];congr 1;rw[Bool.eq_iff_iff,_i,z];exact⟨w,λh=>(c h).ok⟩
theorem UR{t:Z4}(d:Small t){c:Zg}(D:W c.l=W t.a?.l){step:Int->aY (Fw Int Unit Unit)}
 (o:∀i,step i=bg (_r (i<(len c))) (H (idx c i) λG=>(bg (_r (G<0)) (M U) (H (idx c i) λg=>H (idx t.a? i) λT=>M (_r (g>(len T.b?)))):aY X').bind λj=>bg j (M (.r ())) (M (.n (w? N (i+1))))) (M (.x ()))):
 Wp (H (bG step 0) (Fw.elim (λ_=>M U) (λ_=>M O))) λb=>(b=U↔mY t c.l):=by
 have f:=d.1;refine ey (λs:Int=>∃n:Nat,s=n/\n<=W c.l/\∀(p:Nat)(a:Int)(P:bS),p<n->c.l[p]?=M a->t.a?.l[p]?=M P->0<=a/\a<=W P.b?.l) (λs:Int=>W c.l-s.toNat) ⟨0,Y,R? _,λp a P h=>_e h c?⟩ ?_
 rintro s ⟨n,rfl,S,I⟩;rw[o,b9];constructor
 .intro h;have w:n<W c.l:=by simpa[len]using h
  have u:n<W t.a?.l:=c?
  have L:=cm n c?
  rw[bA w,ζb,ζb,bA u,ζb,mP,ζb,b9];constructor
  .intro z;have z:c.l[n]<0\/c.l[n]>t.a?.l[n].b?.l.length:=by simpa[len]using z
   refine(a_ _).2 ((a_ _).2 ⟨λh=>(by cases h),λm=>?_⟩)
   have:=m.2 n _ _ (ζd w) (ζd u);omega
  intro z;have z:0<=c.l[n]/\c.l[n]<=t.a?.l[n].b?.l.length:=by simpa[len]using z
  refine(a_ _).2 ⟨⟨n+1,L,c?,λp a P X B C=>?_⟩,by rw[L];simp;omega⟩
  by_cases e:p=n
  .subst e;rw[ζd w]at B;cases B;rw[ζd u]at C;cases C;exact z
  exact I p a P c? B C
 intro h;have Q:W c.l<=n:=by simpa[len]using h
 refine(a_ _).2 ((a_ _).2 ⟨λ_=>⟨D,λp a P B C=>I p a P (by have:=(ζe.1 B).1;omega) B C⟩,λ_=>rfl⟩)
theorem YT{t:Z4}(a:Small t){c:Zg}(B:W c.l=W t.a?.l):Wp (nZ t c) λb=>(b=U↔mY t c.l):=by unfold nZ;rw[show(len c==len t.a?)=U from by simp[len,B],bq];exact UR a B λi=>rfl
theorem Aj{t:Z4}(a:VT t){A:b_ 200 bu}(b:eG t (bJ t) A){p k:Nat}{e:WF}(B:mz t p k e)(c:e.kind=3):g_ t 2 e.d?=(ag A e.d?).from_:=by have⟨y,d,u,w⟩:=AX a.formed a.ok.A9 (dU.2 ⟨p,k,B,Y⟩:((⟨p,k+1⟩:bf),e)∈bJ t) c;have:=b.snd _ d u;simp only[w]at this;exact this.symm
theorem Hr(t:Z4)(kind m:Int):g_ t kind m=⟨0,0⟩/\(∀x∈bJ t,¬(x.2.kind=kind/\x.2.d?=m))\/∃z,(g_ t kind m,z)∈bJ t/\z.kind=kind/\z.d?=m:=by cases h:(bJ t).find? (mW kind m)with|some x=>have⟨a1,a2,a3,a4⟩:=yO h;exact .inr ⟨x.2,by rw[a4];exact a1,a2,a3⟩|none=>rw[K!]at h;have u:∀x∈bJ t,¬(x.2.kind=kind/\x.2.d?=m):=λx w=>(by have:=h x w;simpa[mW]using this);exact .inl ⟨Qd u,u⟩
theorem OU{t:Z4}(a:VT t){r s:bf}{z e:WF}(b:(r,z)∈bJ t)(D:z.kind=3)(B:(s,e)∈bJ t)(G:e.kind=2)(d:e.d?=z.d?):e.k?=r.proc/\z.k?=s.proc:=by
 have h:=a.ok.A9.has _ b D;have L:0<=z.k?:=by rcases a.formed _ b with h|⟨_,h,_⟩;simp only at h;omega;exact h
 rw[show z.k?=((z.k?.toNat:Nat):Int)from c?,BF]at h;have⟨k,y,w,c,C,I⟩:=h;have u:((⟨(z.k?.toNat:Nat),k+1⟩:bf),y)∈bJ t:=dU.2 ⟨_,k,w,Y⟩;have:=a.ok.A9.snd _ u _ B c G (by rw[d];exact C);simp only at this;subst this;cases By u B Y;exact⟨I,by simp only;omega⟩
def n5(t:Z4)(c:SW)(e:WF):X':=(g_ t 3 e.d?).index==0||decide ((g_ t 3 e.d?).index>(c[(g_ t 3 e.d?).proc.toNat]?).getD 0)
theorem Cy{α:Type}(f g:α->X'):∀l:aX α,l.countP f=l.countP (λx=>f x&&g x)+l.countP (λx=>f x&& !g x)
 |[]=>rfl|x::l=>by simp only[I!,Cy f g l];cases f x<;>cases g x<;>simp<;>omega
theorem xy{α:Type}{f:α->X'}{l:aX α}{n k:Nat}:k∈places f (l.take n)↔k<n/\∃x,l[k]?=M x/\f x=U:=by rw[Qr];simp only[D?];constructor;rintro⟨x,a,u⟩;split at a;exact⟨‹_›,x,a,u⟩;cases a;rintro⟨h,x,a,u⟩;exact⟨x,by rw[L' h];exact a,u⟩
theorem Yw{t:Z4}(i:VT t){A:b_ 200 bu}(hM:eG t (bJ t) A){c:SW}(y:Cons t A c){p q:Nat}{P Q:bS}{a b:Int}(a__:t.a?.l[p]?=_j P)(D:t.a?.l[q]?=_j Q)(M:c[p]?=_j a)(r:c[q]?=_j b):
 (Q.b?.l.take b.toNat).countP (Bh p)=(P.b?.l.take a.toNat).countP λe=>eo q e&& !n5 t c e:=by
 have f:∀{p:Nat}{P:bS}{k:Nat}{e:WF},t.a?.l[p]?=_j P->P.b?.l[k]?=_j e->((⟨p,k+1⟩:bf),e)∈bJ t:=λa__ g=>dU.2 ⟨_,_,⟨_,a__,g⟩,_k⟩
 have a0:=(y.1.2 p a P M a__).1;have b0:=(y.1.2 q b Q r D).1;have r1:∀k,k∈places (Bh p) (Q.b?.l.take b.toNat)->∃(z:WF)(j:Nat)(e:WF),Q.b?.l[k]?=_j z/\z.kind=3/\P.b?.l[j]?=_j e/\e.kind=2/\e.k?=q/\e.d?=z.d?/\g_ t 2 z.d?=⟨p,j+1⟩/\(j:Int)+1<=a/\(k:Int)+1<=b:=λk g=>by have⟨aj,z,d,u⟩:=xy.1 g;have u:z.kind=3/\z.k?=p:=(by simpa[Bh]using u);have d__:=f D d;have⟨e,e1,e2,e3⟩:=AX i.formed i.ok.A9 d__ u.1;have⟨l,Z⟩:=OU i d__ u.1 e1 e2 e3;have⟨p',j,⟨P',R,m⟩,G⟩:=dU.1 e1;simp only at l G m;rw[G]at Z;have ad:p'=p:=(by simp only at Z;omega);subst ad;rw[a__]at R;cases R;have⟨x,C,I⟩:=y.2 q k z b ⟨Q,D,d⟩ r c? u.1;rw[<-Aj i hM ⟨Q,D,d⟩ u.1,G]at C I;simp only[t!]at C I;rw[M]at C;cases C;exact⟨z,j,e,d,u.1,m,e2,l,e3,G,I,c?⟩
 have E:∀k,k∈places (λe=>eo q e&& !n5 t c e) (P.b?.l.take a.toNat)->∃(e:WF)(j:Nat)(z:WF),P.b?.l[k]?=_j e/\e.kind=2/\Q.b?.l[j]?=_j z/\z.kind=3/\z.k?=p/\z.d?=e.d?/\g_ t 3 e.d?=⟨q,j+1⟩/\(j:Int)+1<=b:=λk g=>by have⟨ak,e,d,u⟩:=xy.1 g;simp only[ζh,Z?,n5,i!,eo,_i,beq_eq_false_iff_ne,_h]at u;have⟨⟨g1,g2⟩,g3,g4⟩:=u;rcases Hr t 3 e.d? with⟨h,_⟩|⟨z,s,v,z3⟩;rw[h]at g3;exact _e _k g3;have⟨l,Z⟩:=OU i s v (f a__ d) g1 z3.symm;have⟨q',j,⟨Q',V,m⟩,G⟩:=dU.1 s;simp only at G m l Z;rw[G]at l g4;have ae:q'=q:=(by simp only at l;omega);subst ae;rw[D]at V;cases V;simp only[t!,r,H!]at g4;exact⟨e,j,z,d,g1,m,v,Z,z3,G,c?⟩
 apply Nat.le_antisymm
 .refine Jn (λk=>match Q.b?.l[k]?with|some z=>((g_ t 2 z.d?).index-1).toNat|none=>0) (λk g=>?_) λk F g L H=>?_
  .have⟨z,j,e,d,u,c__,n,o,S,T,h8,h9⟩:=r1 k g;rw[d];simp only[T];rw[show((j:Int)+1-1).toNat=j from c?]
   refine xy.2 ⟨c?,e,c__,?_⟩
   have af:g_ t 3 e.d?=⟨q,k+1⟩:=by rcases Hr t 3 e.d? with⟨_,h⟩|⟨z',s,v,z3⟩;exact _e ⟨u,S.symm⟩ (h _ (f D d));exact i.ok.A9.rcv _ s _ (f D d) v u (by rw[z3,S])
   simp only[n5,af,eo,n,o,t!,r,H!];simp;omega
  have⟨z,j,e,d,u,c__,n,o,S,T,_⟩:=r1 k g;have⟨z',K,e',w,b__,B,ah,ai,W,X,_⟩:=r1 F L;simp only[d,w,T,X]at H;have Y:j=K:=c?
  subst Y;rw[c__]at B;cases B;have:=i.ok.A9.rcv _ (f D d) _ (f D w) u b__ (by rw[<-S,W])
  simp only[bf.mk.injEq]at this;omega
 refine Jn (λk=>match P.b?.l[k]?with|some e=>((g_ t 3 e.d?).index-1).toNat|none=>0) (λk g=>?_) λk F g L H=>?_
 .have⟨e,j,z,d,u,c__,n,o,S,T,h8⟩:=E k g;rw[d];simp only[T];rw[show((j:Int)+1-1).toNat=j from c?]
  exact xy.2 ⟨c?,z,c__,by simp[Bh,n,o]⟩
 have⟨e,j,z,d,u,c__,n,o,S,T,_⟩:=E k g;have⟨e',K,z',w,b__,B,ah,ai,W,X,_⟩:=E F L;simp only[d,w,T,X]at H;have Y:j=K:=c?
 subst Y;rw[c__]at B;cases B;have:=i.ok.A9.snd _ (f a__ d) _ (f a__ w) u b__ (by rw[<-S,W])
 simp only[bf.mk.injEq]at this;omega
theorem Ij{t:Z4}(d:VT t){A:b_ 200 bu}(f:eG t (bJ t) A){c:SW}(g:Cons t A c){p q:Nat}{P Q:bS}{a b:Int}(B:t.a?.l[p]?=M P)(D:t.a?.l[q]?=M Q)(G:c[p]?=M a)(h:c[q]?=M b):
 under t c p q=((P.b?.l.take a.toNat).countP λe=>eo q e&&n5 t c e:Nat):=by
 unfold under;rw[B,D,G,h];dsimp only;rw[Yw d f g B D G h,Cy (eo q) (n5 t c)];omega
theorem dS{σ ε ρ γ:Type}{step:σ->aY (Fw σ ε ρ)}{fx:ε->aY γ}{fr:ρ->aY γ}{P:γ->Prop}(n:Nat)(I:Nat->σ->Prop){s:σ}(D:I 0 s)
 (h:∀i s,i<n->I i s->Wp (step s) λw=>match w with|.n B=>I (i+1) B|.x e=>Wp (fx e) P|.r b=>Wp (fr b) P)
 (G:∀s,I n s->Wp (step s) λw=>match w with|.n _=>False|.x e=>Wp (fx e) P|.r b=>Wp (fr b) P):Wp (H (bG step s) (Fw.elim fx fr)) P:=by
 have key:∀m i s,i+m=n->I i s->Wp (H (bG step s) (Fw.elim fx fr)) P:=by
  intro m
  induction m with
  |zero=>intro i s c z;have⟨w,u,a⟩:=G s h?;rw[eF,u];cases w with|n B=>grind|x e=>exact a|r b=>exact a
  |succ m C=>intro i s c z;have⟨w,u,a⟩:=h i s c? z;rw[eF,u];cases w with|n B=>grind|x e=>exact a|r b=>exact a
 exact key n 0 s (Nat.zero_add n) D
def bump(c:SW)(p:Nat)(d:Int):SW:=c.set p ((c[p]?).getD 0+d)
theorem qa:∀{c:SW}{p:Nat}{a b:Int},c[p]?=M a->(c.set p b).sum=c.sum-a+b
 |[],_,_,_,h=>p?|x::c,0,a,b,h=>h?|x::c,p+1,a,b,h=>by have:=qa (b:=b) (by simpa using h);grind
theorem tj:∀{c:SW},(∀(p:Nat)a,c[p]?=M a->0<=a)->0<=c.sum
 |[],_=>f?|x::c,h=>by have b:=h 0 x Y;have u:=tj (c:=c) λp a w=>h (p+1) a h?;grind
theorem Ml:∀{c:SW},(∀(p:Nat)a,c[p]?=M a->0<=a)->c.sum=0->∀(p:Nat)a,c[p]?=M a->a=0
 |[],_,_,p,a,B=>p?|x::c,h,D,p,a,B=>by have d:=h 0 x Y;have b:∀(p:Nat)a,c[p]?=M a->0<=a:=λp a B=>h (p+1) a h?;have u:=tj b;simp at D;cases p with|zero=>grind|succ p=>exact Ml b c? p a h?
theorem N_:∀{c:SW}{l:ST},W c=W l->(∀(i:Nat)a b,c[i]?=M a->l[i]?=M b->a<=(b:Nat))->c.sum<=(l.sum:Nat)
 |[],[],_,_=>f?|x::c,y::l,B,h=>by have d:=h 0 x y Y Y;have u:=N_ (c:=c) (l:=l) h? λi a b w z=>h (i+1) a b h? h?;grind
section
variable{t:Z4}{A:b_ 200 bu}{c:SW}
theorem mY.pos(h:mY t c)(p:Nat)(a:Int)(B:c[p]?=M a):0<=a:=(h.2 p a _ B (ζd (by have:=(ζe.1 B).1;rw[<-h.1];simp_all))).1
theorem mY.at_(h:mY t c){p:Nat}(hp:p<W t.a?.l):∃a,c[p]?=M a:=⟨_,ζd (by rw[h.1];omega)⟩
theorem mY.sum(h:mY t c):0<=c.sum/\c.sum<=(oP t:Nat):=
 ⟨tj h.pos,N_ (by simp[h.1]) λi a b z u=>by
  cases w:t.a?.l[i]?with
  |none=>grind|some P=>simp[w]at u;rw[<-u];exact(h.2 i a P z w).2⟩
theorem mY.set(h:mY t c){p:Nat}{b:Int}{P:bS}(B:t.a?.l[p]?=M P)(D:0<=b)(d:b<=W P.b?.l):mY t (c.set p b):=by refine⟨by simp[h.1],λq a Q u w=>?_⟩;rw[C?]at u;split at u;grind;exact h.2 q a Q u w
def Uu(t:Z4)(A:b_ 200 bu)(c:SW)(p:Nat):Prop:=∃P e a,t.a?.l[p]?=M P/\c[p]?=M a/\P.b?.l[a.toNat]?=M e/\(e.kind=3->∃b,c[(ag A e.d?).from_.proc.toNat]?=M b/\(ag A e.d?).from_.index<=b)
theorem mz.one{p k:Nat}{e f:WF}(h:mz t p k e)(g:mz t p k f):e=f:=by have⟨P,a1,a2⟩:=h;have⟨Q,u,w⟩:=g;grind
theorem oW.le(h:oW t A c){p:Nat}{a b:Int}(D:c[p]?=M a)(g:a<=b)(T:∀(k:Nat)e,mz t p k e->a<=k->(k:Int)<b->e.kind=3->∃B,(c.set p b)[(ag A e.d?).from_.proc.toNat]?=M B/\(ag A e.d?).from_.index<=B):oW t A (c.set p b):=by
 have I:=(ζe.1 D).1;have up:∀(q:Nat)x,c[q]?=M x->∃y,(c.set p b)[q]?=M y/\x<=y:=λq x u=>by rw[C?];grind
 intro q k e x w u d G;rw[C?]at u;have old:∀x,c[q]?=M x->k<x->∃B,(c.set p b)[(ag A e.d?).from_.proc.toNat]?=M B/\(ag A e.d?).from_.index<=B:=λx u d=>by have⟨y,L,j⟩:=h q k e x w u d G;have⟨z,Q,S⟩:=up _ y L;exact⟨z,Q,c?⟩
 split at u;rename_i i;subst i;simp[I]at u;subst u;by_cases C:k<a;exact old a D C;exact T k e w c? d G;grind
theorem BI(a:VT t)(b:eG t (bJ t) A){p k:Nat}{e:WF}(B:mz t p k e)(D:e.kind=3):∃q j:Nat,(ag A e.d?).from_=⟨q,j+1⟩/\q≠p/\MS t ⟨q,j+1⟩ ⟨p,k+1⟩/\∃y,mz t q j y:=by have⟨q,j,y,u,z,C,y3,y4,y5⟩:=zJ a b B D;have w:(⟨p,k+1⟩,e)∈bJ t:=dU.2 ⟨p,k,B,Y⟩;refine⟨q,j,y5,?_,⟨y,e,dU.2 ⟨q,j,u,Y⟩,w,z,D,C⟩,y,u⟩;rcases a.formed _ w with h|⟨_,_,_,h,_⟩;grind;grind
theorem Cons.up(g:VT t)(i:eG t (bJ t) A)(d:Cons t A c){p:Nat}{a:Int}{P:bS}(B:t.a?.l[p]?=M P)(D:c[p]?=M a)(o:a<W P.b?.l):Uu t A c p↔Cons t A (c.set p (a+1)):=by have F:=d.1.pos p a D;have X:=(ζe.1 D).1;constructor;rintro⟨Q,e,x,G,I,L,w⟩;rw[B]at G;cases G;rw[D]at I;cases I;refine⟨d.1.set B c? c?,d.2.le D c? λk f z y S Y=>?_⟩;have C:k=a.toNat:=c?;subst C;cases z.one ⟨P,B,L⟩;grind;intro h;have u:a.toNat<W P.b?.l:=c?;refine⟨P,P.b?.l[a.toNat],a,B,D,ζd u,λw=>?_⟩;have⟨b,m,T⟩:=h.2 p a.toNat _ (a+1) ⟨P,B,ζd u⟩ p? c? w;rw[C?]at m;split at m;have⟨q,j,l,Z,_⟩:=BI g i ⟨P,B,ζd u⟩ w;grind;grind
noncomputable def MQ (t:Trace) (x:bf):Nat:=by
 classical
 exact(bJ t).countP λz=>decide (Way t z.1 x)
theorem OQ (hV:VT t) {x y:bf} (h:Way t x y):MQ t x<MQ t y:=by
 classical
 refine C1 (λz _ u=>?_) ?_
 .have u:Way t z.1 x:=by grind
  simpa using u.trans h
 obtain⟨e,w⟩:=h.l;exact⟨(x,e),w,by simpa using λk=>hV.ok.acyc ⟨x,k⟩,by grind⟩
theorem YV (x:bf):MQ t x<=(bJ t).length:=by
 classical
 unfold MQ;grind
theorem Vd.of{p k:Nat}{e:WF}(h:mz t p k e):Vd t ⟨p,k+1⟩:=⟨e,dU.2 ⟨p,k,h,Y⟩⟩
theorem Mc{p:Nat}{P:bS}(B:t.a?.l[p]?=M P):∀(d k:Nat),k+d+1<W P.b?.l->Way t ⟨p,k+1⟩ ⟨p,((k+d+1:Nat):Int)+1⟩
 |0,k,h=>.single ⟨Vd.of ⟨P,B,ζd c?⟩,Vd.of ⟨P,B,ζd h⟩,.inl f?⟩|d+1,k,h=>(Mc B d k c?).tail ⟨Vd.of ⟨P,B,ζd (show k+d+1<_ by omega)⟩,Vd.of ⟨P,B,ζd h⟩,.inl (by simp;omega)⟩
theorem ack{q k:Nat}{b:Int}{Q:bS}{x:bf}(B:t.a?.l[q]?=M Q)(h:Way t x ⟨q,k+1⟩)(a:(k:Int)<b)(D:b<=W Q.b?.l):Way t x ⟨q,b⟩:=by by_cases e:b=k+1;grind;have:=Mc B (b.toNat-k-2) k c?;rw[show((k+(b.toNat-k-2)+1:Nat)+1)=b from c?]at this;exact h.trans this
theorem Cons.OV(f:VT t)(g:eG t (bJ t) A)(d:Cons t A c){p:Nat}{a:Int}(D:c[p]?=M a)(m:0<a):Cons t A (c.set p (a-1))\/∃(q:Nat)(b:Int),c[q]?=M b/\0<b/\Way t ⟨p,a⟩ ⟨q,b⟩:=by
 have Y:=(ζe.1 D).1;have L:=ζd (show p<_l t.a?.l by rw[<-d.1.1];omega);have n:=d.1.2 p a _ D L;refine I? λB=>B (.inl ⟨d.1.set L c? c?,λq k e x u I o a__=>?_⟩);obtain⟨z,w,Z⟩:∃z,c[q]?=M z/\x<=z:=by rw[C?]at I;split at I;(next e2=>subst e2;simp[Y]at I;exact⟨a,D,c?⟩);grind
 have⟨y,G,C⟩:=d.2 q k e z u w c? a__;have⟨r,j,h,s,i,_⟩:=BI f g u a__;rw[h]at G C⊢;simp only[t!]at G C⊢;by_cases e2:p=r;subst e2;rw[D]at G;cases G;refine⟨a-1,p?,?_⟩;refine I? λv=>B (.inr ⟨q,z,w,c?,?_⟩);have:a=j+1:=c?;subst this;have⟨Q,S,_⟩:=u;have F:=d.1.2 q z Q w S;have⟨T,P,W,X,l⟩:=i;exact ack S (.single ⟨⟨T,W⟩,⟨P,X⟩,.inr ⟨T,P,W,X,l⟩⟩) c? F.2;simp_all
theorem Cons.ac5(d:VT t)(e:eG t (bJ t) A)(f:Cons t A c):∀(n p:Nat)(a:Int),c[p]?=M a->0<a->W (bJ t)-MQ t ⟨p,a⟩<=n->∃(q:Nat)(b:Int),c[q]?=M b/\0<b/\Cons t A (c.set q (b-1)):=by
 intro n
 induction n with
 |zero=>intro p a u w C;rcases f.OV d e u w with h|⟨q,b,_,_,z⟩;grind;have:=OQ d z;have:=YV (t:=t) ⟨q,b⟩;omega
 |succ n D=>intro p a u w C;rcases f.OV d e u w with h|⟨q,b,G,B,z⟩;grind;have:=OQ d z;exact D q b G B c?
theorem Cons.down(e:VT t)(f:eG t (bJ t) A)(d:Cons t A c)(B:0<c.sum):∃(q:Nat)(b:Int),c[q]?=M b/\0<b/\Cons t A (c.set q (b-1)):=by
 obtain⟨p,a,u,z⟩:∃(p:Nat)(a:Int),c[p]?=M a/\0<a:=by refine I? λw=>?_;have D:∀a∈c,a=0:=λa u=>(by have⟨p,C⟩:=List.mem_iff_getElem?.1 u;have:=d.1.pos p a C;grind);have:c.sum=0:=(by clear d B w;induction c with|nil=>rfl|cons x c G=>simp_all);omega
 exact d.ac5 e f _ p a u z (y? _)
theorem Cons.JR(a:VT t)(e:eG t (bJ t) A):∀(d:Nat){c:SW}{k:Nat},Cons t A c->c.sum=((k+d:Nat):Int)->∃c',Cons t A c'/\c'.sum=(k:Int)
 |0,c,k,hC,D=>⟨c,hC,h?⟩|d+1,c,k,hC,D=>by have⟨q,b,G,g,B⟩:=hC.down a e c?;exact Cons.JR a e d B (by rw[qa G];omega)
end
theorem fM{α:Type}{s:Sl α}{n:Nat}(h:n<W s.l):_r ((n:Int)<len s)=U:=by simp[len];omega
theorem gp{α:Type}{s:Sl α}:_r ((W s.l:Int)<len s)=O:=by simp[len]
theorem zg{α:Type}{s x:Sl α}(h:W s.l+W x.l<=2147483648):∃r,oC s x=M r/\r.l=s.l++x.l:=by unfold oC;by_cases e:x.l=[];rw[L' e];exact⟨s,Y,by rw[e,List.append_nil]⟩;rw[M' e,L' h];exact⟨_,Y,Y⟩
theorem ni{α:Type}{s:Sl α}{x:α}(h:W s.l<2147483648):∃r,d_ s x=M r/\r.l=s.l++[x]:=by unfold d_;rw[L' c?];exact⟨_,Y,Y⟩
theorem rA{α:Type}{s:Sl α}{p:Nat}(h:p<W s.l):Sl.iA s (p:Int)=M p:=by unfold Sl.iA;rw[L' ⟨c?,by simpa using h⟩];rfl
theorem put_eq{α:Type}{s:Sl α}{p:Nat}{x:α}(h:p<W s.l):∃r,Sl.put s p x=M r/\r.l=s.l.set p x:=by unfold Sl.put;rw[L' h];exact⟨_,Y,by cases s<;>first|rfl|(simp[Sl.l]at h)⟩
section
variable{t:Z4}{A:b_ 200 bu}
def ClN(t:Z4)(A:b_ 200 bu)(c:SW)(n:Nat):Prop:=∀(p k:Nat)(e:WF)(a:Int),p<n->mz t p k e->c[p]?=M a->(k:Int)<a->e.kind=3->∃b,c[(ag A e.d?).from_.proc.toNat]?=M b/\(ag A e.d?).from_.index<=b
theorem acg(i:Small t)(d:VT t)(l:eG t (bJ t) A){c:Zg}(Y:mY t c.l):Wp (en t c) λb=>(b=U↔oW t A c.l):=by
 have F:=Y.1;have H:=d.few;unfold en en.W1;refine dS (_l c.l) (λn s=>s=(n:Int)/\ClN t A c.l n) ⟨_k,λp k e a h=>_e h c?⟩ ?_ ?_;rintro n _ B ⟨rfl,T⟩;unfold en.bh;rw[fM B,bq];have z:n<_l t.a?.l:=by omega
 have K:=(i.2 _ (t? z)).1;have C:=ζd z;have D:=ζd B;have⟨r1,r2⟩:=Y.2 n _ _ D C;have b__:=bA B;generalize c.l[n]=a at *;generalize t.a?.l[n]=P at *;unfold en.W2;refine dS a.toNat (λm s=>s=(m:Int)/\∀(k:Nat)(e:WF),k<m->mz t n k e->e.kind=3->∃b,c.l[(ag A e.d?).from_.proc.toNat]?=M b/\(ag A e.d?).from_.index<=b) ⟨_k,λk e h=>_e h c?⟩ ?_ ?_;rintro m _ a__ ⟨rfl,c__⟩;unfold en.bF;have L:m<_l P.b?.l:=by omega
 have u:mz t n m P.b?.l[m]:=⟨P,C,ζd L⟩;rw[b__,ζb,show _r ((m:Int)<a)=U from by simp;omega,bq,gm,C,ζb,bA L,ζb,cm m c?];generalize P.b?.l[m]=e at *;have more:(e.kind=3->∃b,c.l[(ag A e.d?).from_.proc.toNat]?=M b/\(ag A e.d?).from_.index<=b)->∀(k:Nat)(e:WF),k<m+1->mz t n k e->e.kind=3->∃b,c.l[(ag A e.d?).from_.proc.toNat]?=M b/\(ag A e.d?).from_.index<=b:=λh k f o Z w=>by by_cases r:k=m;subst r;cases u.one Z;exact h w;exact c__ k f c? Z w
 rw[b9];refine⟨λw=>?_,λw=>(a_ _).2 ⟨_k,more λk=>by simp[k]at w⟩⟩;have w:e.kind=3:=by simpa using w
 have⟨q,j,g,_,_,y,Q,v,_⟩:=BI d l u w;have G:q<_l c.l:=by have:=(ζe.1 v).1;omega
 rw[find_eq i,Aj d l u w,ζb,g];simp only;rw[bA G,ζb,b9];refine⟨λW=>(a_ _).2 ((a_ _).2 ((a_ _).2 ⟨λh=>(by cases h),λE=>?_⟩)),λX=>(a_ _).2 ⟨_k,more λ_=>?_⟩⟩;have⟨b,d__,S⟩:=E n m e a u D c? w;rw[g]at d__ S;simp only[t!,ζd G,ζa]at d__ S;simp only[_g]at W;omega;rw[g];exact⟨c.l[q],by simp only[t!];exact ζd G,by simp at X⊢;omega⟩;rintro _ ⟨rfl,c__⟩;unfold en.bF;rw[b__,ζb,show _r ((a.toNat:Int)<a)=O from by simp;omega,bz];refine(a_ _).2 ((a_ _).2 ⟨cm n c?,λp k e x hp u I o w=>?_⟩);by_cases e2:p=n;subst e2;rw[D]at I;cases I;exact c__ k e c? u w;exact T p k e x c? u I o w;rintro _ ⟨rfl,T⟩;unfold en.bh;rw[gp,bz];exact(a_ _).2 ((a_ _).2 ⟨λ_ p k e a u I=>T p k e a (ζe.1 I).1 u I,λ_=>rfl⟩)
theorem Qs(a:Small t)(d:VT t)(e:eG t (bJ t) A){c:Zg}(B:W c.l=W t.a?.l):Wp (pO t c) λb=>(b=U↔Cons t A c.l):=by unfold pO;rw[dZ];refine(YT a B).mono λb w=>?_;rw[dZ,b9];constructor;intro h;have z:=w.1 h;rw[dZ];refine(acg a d e z).mono λC u=>?_;rw[a_,a_];exact u.trans ⟨λh=>⟨z,h⟩,λh=>h.2⟩;intro h;rw[a_,a_];exact⟨λh=>(by cases h),λf=>_e (w.2 f.1) (by simp[h])⟩
theorem step_eq{c:Zg}{p:Nat}{a:Int}(B:c.l[p]?=M a)(G:W c.l<=1073741824)(g:0<=a)(b:a<1073741824):∃d:Zg,tQ c p=M d/\d.l=c.l.set p (a+1):=by have w:=(ζe.1 B).1;unfold tQ;have⟨r,z,u⟩:=zg (s:=Sl.row []) (x:=c) (show 0+W c.l<=_ by omega);have u:r.l=c.l:=u;rw[z,ζb,rA (by rw[u];exact w),ζb];unfold Sl.get;rw[u,B,ζb,ζb,fJ _ c? c?];have⟨d,C,D⟩:=put_eq (s:=r) (p:=p) (x:=a+1) (by rw[u];exact w);rw[C];exact⟨d,Y,by rw[D,u]⟩
end
def ins(s:Zb):aX SW:=s.l.map Sl.l
theorem Ee{α:Type}(s:Sl α)(i:Nat)(h:i<=W s.l):∃x,gN s (M (i:Int)) J=M x/\x.l=s.l.drop i:=by unfold gN ec;simp only[H!,getD_none];rw[L' ⟨c?,c?,c?⟩];exact⟨_,Y,by cases s<;>simp[Sl.l]⟩
def EE(t:Z4)(A:b_ 200 bu)(c d:SW):Prop:=∃(p:Nat)(a:Int),c[p]?=M a/\d=c.set p (a+1)/\Cons t A d
section
variable{t:Z4}{A:b_ 200 bu}
theorem oV{s:Zb}{d:SW}:d∈ins s↔∃x∈s.l,x.l=d:=by unfold ins;exact mem_map
theorem Oz{r s:Zb}{x:Zg}(h:r.l=s.l++[x]){d:SW}:d∈ins r↔d∈ins s\/d=x.l:=by unfold ins;rw[h];simp
theorem ZS(f:Small t)(g:VT t)(j:eG t (bJ t) A){c:Zg}(i:Cons t A c.l):Wp (kL t c) λr=>W r.l<=8/\∀d,d∈ins r↔EE t A c.l d:=by
 have m:=i.1.1;have T:=g.few;unfold kL kL.W1;refine dS (W c.l) (λn s=>s.2=(n:Int)/\s.1.l.length<=n/\∀d,d∈ins s.1↔∃(p:Nat)(a:Int),p<n/\c.l[p]?=M a/\d=c.l.set p (a+1)/\Cons t A d) ⟨Y,y? _,λd=>⟨λh=>by simp[ins,Sl.l]at h,λ⟨p,a,h,_⟩=>_e h c?⟩⟩ ?_ ?_;rintro n ⟨out,_⟩ B ⟨h,u,G⟩;simp only at h u G;subst h;have w:n<W t.a?.l:=by omega
 have o:=(f.2 _ (t? w)).1;have z:=ζd B;have l:=i.1.2 n _ _ z (ζd w);unfold kL.bh;rw[fM B,bq,bA B,ζb,bA w,ζb,cm n c?];generalize c.l[n]=a at *;have keep:¬Cons t A (c.l.set n (a+1))->∀d,d∈ins out↔∃(p:Nat)(a:Int),p<n+1/\c.l[p]?=M a/\d=c.l.set p (a+1)/\Cons t A d:=λL d=>by rw[G];refine⟨λ⟨p,b,h,k⟩=>⟨p,b,c?,k⟩,λ⟨p,b,h,k1,k2,k3⟩=>⟨p,b,?_,k1,k2,k3⟩⟩;refine I? λX=>L ?_;have:p=n:=c?;subst this;rw[z]at k1;cases k1;rw[<-k2];exact k3
 by_cases C:a<t.a?.l[n].b?.l.length;have⟨d,hd,D⟩:=step_eq (c:=c) z c? l.1 c?;rw[show _r (a<(len t.a?.l[n].b?))=U from by simpa[len]using C,bq,hd,ζb,dZ,dZ];refine(Qs f g j (c:=d) (by rw[D,List.length_set];exact m)).mono λb q=>?_;rw[D]at q;rw[a_,b9];constructor;intro y;have⟨r,Q,I⟩:=ni (s:=out) (x:=d) c?;rw[ζb,Q,ζb,a_];refine⟨Y,by rw[I];simp;omega,λe=>?_⟩;rw[Oz I,G,D];constructor;rintro(⟨p,b,h,k⟩|h);exact⟨p,b,c?,k⟩;exact⟨n,a,c?,z,h,by rw[h];exact q.1 y⟩;rintro⟨p,b,h,k1,k2,k3⟩;by_cases e2:p=n;subst e2;rw[z]at k1;cases k1;exact .inr k2;exact .inl ⟨p,b,c?,k1,k2,k3⟩;intro S;exact(a_ _).2 ⟨Y,Nat.le_succ_of_le u,keep λh=>by rw[q.2 h]at S;cases S⟩;rw[show _r (a<(len t.a?.l[n].b?))=O from by simpa[len]using C,bz,ζb,bz,a_];refine⟨Y,Nat.le_succ_of_le u,keep λh=>?_⟩;have:=h.1.2 n (a+1) _ (by simp[C?,B]) (ζd w);omega;rintro⟨out,_⟩ ⟨h,u,G⟩;simp only at h u G;subst h;unfold kL.bh;rw[gp,bz,a_];refine(a_ _).2 ⟨show W out.l<=8 by omega,λd=>(G d).trans ⟨λ⟨p,a,_,h⟩=>⟨p,a,h⟩,λ⟨p,a,h⟩=>⟨p,a,(ζe.1 h.1).1,h⟩⟩⟩
def B_(t:Z4)(A:b_ 200 bu)(k:Nat)(s:Zb):Prop:=∀d,d∈ins s↔Cons t A d/\d.sum=(k:Int)
theorem EE.iff(g:VT t)(h:eG t (bJ t) A){k:Nat}{d:SW}:(∃c,(Cons t A c/\c.sum=(k:Int))/\EE t A c d)↔Cons t A d/\d.sum=((k+1:Nat):Int):=by
 constructor;rintro⟨c,⟨f,B⟩,p,a,C,rfl,u⟩;exact⟨u,by rw[qa C];omega⟩;rintro⟨u,B⟩;have⟨q,b,w,D,f⟩:=u.down g h c?;have z:=(ζe.1 w).1;refine⟨_,⟨f,by rw[qa w];omega⟩,q,b-1,by simp[z],?_,u⟩;rw[List.set_set,show b-1+1=b from c?];refine X! λi=>?_;rw[C?];split;next e=>subst e;simp[z,w];exact(ζe.1 w).2.symm▸rfl
 rfl
theorem Bn{s:Zb}{n:Nat}(h:n<W s.l){d:SW}:d∈(s.l.take (n+1)).map Sl.l↔d∈(s.l.take n).map Sl.l\/d=s.l[n].l:=by rw[show s.l.take (n+1)=s.l.take n++[s.l[n]]from by rw[P?,ζd h];rfl];simp only[v!,M!,J?,b8,h!]
theorem OO:∀n:Nat,(replicate n (0:Int)).sum=0
 |0=>rfl|n+1=>by rw[List.replicate_succ,z!,OO n];rfl
theorem QO:Cons t A (replicate (W t.a?.l) 0):=by
 have w:∀(p:Nat)a,(replicate (W t.a?.l) (0:Int))[p]?=M a->a=0:=λp a h=>by rw[List.getElem?_replicate]at h;split at h<;>cases h;rfl
 exact⟨⟨f?,λp a P u _=>by rw[w p a u];omega⟩,λp k e a _ u b=>by rw[w p a u]at b;omega⟩
theorem Qx{z:Zg}(B:z.l=replicate (W t.a?.l) 0):B_ t A 0 (Sl.row [z]):=by
 intro d;have:d∈ins (Sl.row [z])↔d=replicate (W t.a?.l) 0:=by unfold ins;rw[<-B];exact h!
 rw[this];constructor;rintro rfl;exact⟨QO,by rw[OO];rfl⟩;rintro⟨a,u⟩;refine X! λi=>?_;rw[List.getElem?_replicate,<-a.1.1];split;next b=>have h:=ζd b;rw[h,Ml a.1.pos (by simpa using u) i _ h]
 exact G! c?
theorem B_.none(a:VT t)(b:eG t (bJ t) A){k:Nat}{s:Zb}(h:B_ t A k s)(D:W s.l=0){d:SW}(B:Cons t A d):d.sum<(k:Int):=by refine I? λu=>?_;have C:=tj B.1.pos;have⟨c,e,w⟩:=Cons.JR a b (d.sum.toNat-k) (k:=k) B c?;have:=(h c).2 ⟨e,w⟩;have⟨x,z,_⟩:=oV.1 this;have:=List.length_pos_of_mem z;omega
theorem B_.last{s:Zb}(h:B_ t A (oP t+1) s):W s.l=0:=by refine I? λu=>?_;have w:=t? (show 0<W s.l by omega);have:=(h s.l[0].l).1 (oV.2 ⟨_,w,Y⟩);have:=this.1.1.sum;omega
theorem Gm{α:Type}(s:Sl α):_r ((len s)>0)= !_r (W s.l=0):=by by_cases h:W s.l=0;simp[len,h];simp[h,len];omega
end
def gL:SW->SW->Int
 |[],[]=>0|[],_::_=>-1|_::_,[]=>1|x::a,y::b=>if x<y then -1 else if x>y then 1 else gL a b
theorem zZ:∀a,gL a a=0
 |[]=>rfl|x::a=>by simp[gL,zZ a]
theorem Dv:∀a b c,gL a b<0->gL b c<0->gL a c<0
 |[],[],_,h,_=>by simp[gL]at h|[],_::_,[],_,h=>by simp[gL]at h|[],_::_,_::_,_,_=>by simp[gL]|_::_,[],_,h,_=>by simp[gL]at h|_::_,_::_,[],_,h=>by simp[gL]at h|x::a,y::b,z::c,h1,B=>by have D:=Dv a b c;simp only[gL]at h1 B⊢;split at h1;split at B;rw[L' c?];omega;split at B;omega;rw[L' c?];omega;split at h1;omega;split at B;rw[L' c?];omega;split at B;omega;rw[M' c?,M' c?];exact D h1 B
theorem AP:∀a b,¬gL a b<0->¬gL b a<0->a=b
 |[],[],_,_=>rfl|[],_::_,h,_=>by simp[gL]at h|_::_,[],_,h=>by simp[gL]at h|x::a,y::b,h1,B=>by have D:=AP a b;simp only[gL]at h1 B;split at h1;omega;split at B;omega;rw[D (by first|assumption|(split at h1<;>first|assumption|omega)) (by first|assumption|(split at B<;>first|assumption|omega)),show x=y from c?]
theorem U4(a b c:SW)(d:¬gL a b<0)(B:¬gL b c<0):¬gL a c<0:=λh=>by by_cases u:gL b a<0;exact B (Dv b a c u h);rw[AP a b d u]at h;exact B h
theorem WJ{α:Type}{s:Sl α}{p:α->α->PH}{f:α->SW}(hp:∀x y,x∈s.l->y∈s.l->p x y=M (gL (f x) (f y)))(T:W s.l<2147483648):∃r,BQ s p=M r/\r.l.Perm s.l/\r.l.Pairwise λx y=>¬gL (f y) (f x)<0:=by
 unfold BQ;split;next h=>exact⟨s,Y,List.Perm.refl _,by rw[h];exact Pairwise.nil⟩
 rename_i x l h;rw[L' (by rw[h]at T;simp at T;omega)];simp only;have S:∀i j:_root_.Fin (W l+1),p (x::l)[i.1] (x::l)[j.1]=M (gL (f (x::l)[i.1]) (f (x::l)[j.1])):=λi j=>hp _ _ (by rw[h];exact t? _) (by rw[h];exact t? _);have C:(sw λi j:_root_.Fin (W l+1)=>p (x::l)[i.1] (x::l)[j.1])=λi j=>_r (gL (f (x::l)[i.1]) (f (x::l)[j.1])<0):=by funext i j;unfold sw;show _r ((p _ _).getD 0<0)=_;rw[S];rfl
 have D:DL (λi j:_root_.Fin (W l+1)=>p (x::l)[i.1] (x::l)[j.1])=U:=by have u:∀i j,sw (λi j:_root_.Fin (W l+1)=>p (x::l)[i.1] (x::l)[j.1]) i j=_r (gL (f (x::l)[i.1]) (f (x::l)[j.1])<0):=λi j=>(by rw[C]);refine all_eq_true.2 λi _=>Bool.and_eq_true_iff.2 ⟨by rw[u,zZ];rfl,all_eq_true.2 λj _=>Bool.and_eq_true_iff.2 ⟨by show(p _ _).isSome=U;rw[S];rfl,all_eq_true.2 λk _=>Bool.and_eq_true_iff.2 ⟨?_,?_⟩⟩⟩;have:=Dv (f (x::l)[i.1]) (f (x::l)[j.1]) (f (x::l)[k.1]);rw[u,u,u];simp only[q!,Z?,Bool.and_eq_false_iff,_g,_h];omega;have:=U4 (f (x::l)[i.1]) (f (x::l)[j.1]) (f (x::l)[k.1]);rw[u,u,u];simp only[q!,Z?,_g,_h];omega
 rw[L' D];have G:=(s7 D).2;have g:=Sort.pdq_sorts _ G (V! (W l+1)).toArray 0 (W l+1) (Lib.bitLen (W l+1)) U U (R? _) f? (Or.inl Y);rw[<-EZ]at g;generalize tD (W l) _=d at g;have⟨⟨z,_,w⟩,B⟩:=g;have z:d.size=W l+1:=by simpa using z
 have I:∀y:aX α,(s.re y).l=y:=λy=>by cases s<;>first|rfl|(simp[Sl.l]at h)
 refine⟨_,Y,?_,?_⟩;rw[I,h];have a:d.extract 0 (W l+1)=d:=Array.ext (by simp[z]) λi a L=>by simp
 rw[a]at w;have L:((V! (W l+1)).toArray.extract 0 (W l+1)).toList=V! (W l+1):=by simp[a!]
 rw[L]at w;refine(w.map _).trans ?_;rw[show(V! (W l+1)).map (λi=>(x::l)[i.1])=x::l from ?_];exact List.ext_getElem f? λi a L=>f?;rw[I,f8,List.pairwise_iff_getElem];intro i j b m Q;have:=B i j (R? _) Q (by simpa[z]using m);rw[C]at this;simp only[Array.length_toList]at b m;simp only[getElem!_pos d i b,getElem!_pos d j m,_h]at this;simpa using this
def Ia(c:SW):SW:=c.sum::c
def Im(c:SW):Prop:=W c<=8/\∀x∈c,0<=x/\x<1073741824
theorem W0{c:SW}(h:Im c)(i:Nat):0<=(c.take i).sum/\(c.take i).sum<=8589934592:=by
 have key:∀(l:SW),(∀x∈l,0<=x/\x<1073741824)->0<=l.sum/\l.sum<=1073741824*(W l:Int):=by intro l;induction l with|nil=>intro _;simp|cons x l u=>intro h;have a:=h x f?;have w:=u λy z=>h y (B? _ z);simp only[z!,U?];omega
 have a:=key (c.take i) λx B=>h.2 x (Q? B);have w:W (c.take i)<=8:=by rw[n!];have:=h.1;omega
 omega
theorem L6{c:SW}{i:Nat}(a:i<W c):(c.take (i+1)).sum=(c.take i).sum+c[i]:=by rw[List.take_succ_eq_append_getElem a,List.sum_append];simp
theorem SZ{a b:SW}{i:Nat}(B:i<W a)(D:i<W b):gL (a.drop i) (b.drop i)=if a[i]<b[i]then -1 else if a[i]>b[i]then 1 else gL (a.drop (i+1)) (b.drop (i+1)):=by rw[V? B,V? D];rfl
def fH(x y:SW):Prop:=gL (Ia x) (Ia y)<0
instance(x y:SW):Decidable (fH x y):=by unfold fH;exact inferInstance
theorem fH.Tf(x:SW):¬fH x x:=by unfold fH;rw[zZ];omega
theorem fH.tr{x y z:SW}(h:fH x y)(k:fH y z):fH x z:=Dv _ _ _ h k
theorem fH.tot{x y:SW}(h:¬fH x y)(k:¬fH y x):x=y:=by have:=AP _ _ h k;unfold Ia at this;exact(List.cons.inj this).2
theorem fH.sum{x y:SW}(h:x.sum<y.sum):fH x y:=by unfold fH Ia;simp[gL,h]
theorem F9:∀{l r:aX (aX Int)},l.Pairwise fH->r.Pairwise fH->(∀x,x∈l↔x∈r)->l=r
 | [],[],_,_,_=>rfl
 | [],y::r,_,_,h=>by have:=(h y).2 f?;simp at this
 | x::l,[],_,_,h=>by have:=(h x).1 f?;simp at this
 | x::l,y::r,C,hr,h=>by
  have e:x=y:=by
   rcases List.mem_cons.1 ((h x).1 f?)with e|e
   .exact e
   rcases List.mem_cons.1 ((h y).2 f?)with k|k
   .exact k.symm
   exact _e (((List.pairwise_cons.1 hr).1 x e).tr ((List.pairwise_cons.1 C).1 y k)) (fH.Tf y)
  subst e
  congr 1
  have u:=List.pairwise_cons.1 C;have w:=List.pairwise_cons.1 hr;refine F9 u.2 w.2 λz=>⟨λB=>?_,λB=>?_⟩
  .rcases List.mem_cons.1 ((h z).1 (List.mem_cons_of_mem _ B))with e|e
   .exact _e (e▸u.1 z B) (fH.Tf x)
   exact e
  rcases List.mem_cons.1 ((h z).2 (List.mem_cons_of_mem _ B))with e|e
  .exact _e (e▸w.1 z B) (fH.Tf x)
  exact e
theorem Du{t:Z4}{A:b_ 200 bu}(b:Small t)(d:VT t){c:SW}(a:Cons t A c):Im c:=by
 refine⟨a.1.1▸d.few,λx z=>?_⟩;have⟨p,w,e⟩:=mem_iff_getElem.1 z;have u:p<W t.a?.l:=by rw[<-a.1.1];exact w
 have:=a.1.2 p x _ (by rw[ζd w,e]) (ζd u);have k:=(b.2 _ (t? u)).1;omega
theorem fH.KU{x y:SW}(h:x.sum=y.sum):fH x y↔gL x y<0:=by unfold fH Ia;simp only[gL,M' (show¬x.sum<y.sum by omega),M' (show¬x.sum>y.sum by omega)]
theorem fH.nodup{L:aX SW}(h:L.Pairwise fH):L.Nodup:=h.imp λ{x y}(h:fH x y)(e:x=y)=>fH.Tf y (by rw[e]at h;exact h)
theorem Pz {L:aX (aX Int)} {c:aX Int} {j:Nat} (h:L.Pairwise fH) (h1:∀(i:Nat) x,i<j->L[i]? = some x->fH x c) (D:∀x,L[j]? = some x->fH c x) :
 (L.take j++[c]++L.drop j).Pairwise fH/\∀x,x∈L.take j++[c]++L.drop j↔x∈L\/x=c:=by
 have w:∀x∈L.take j,fH x c:=λx hx=>by
  obtain⟨k,hk,e⟩:=List.mem_iff_getElem.1 hx;rw[List.length_take]at hk;rw[List.getElem_take]at e;exact h1 k x c? (by rw[ζd c?,e])
 have u:∀x∈L.drop j,fH c x:=λx hx=>by
  obtain⟨k,hk,e⟩:=List.mem_iff_getElem.1 hx;rw[List.length_drop]at hk;rw[List.getElem_drop]at e;have B:j<L.length:=by omega
  have k0:=D _ (ζd B)
  by_cases e0:k=0
  .subst e0;simp only[Nat.add_zero]at e;rw[<-e];exact k0
  rw[<-e];exact k0.tr (List.pairwise_iff_getElem.1 h j (j+k) B c? c?)
 refine⟨List.pairwise_append.2 ⟨List.pairwise_append.2 ⟨h.sublist (List.take_sublist _ _),List.pairwise_singleton _ _,λx hx y z=>?_⟩,h.sublist (List.drop_sublist _ _),λx hx y z=>?_⟩,λx=>?_⟩
 .rw[List.mem_singleton.1 z];exact w x hx
 .rcases List.mem_append.1 hx with hx|hx
  .exact(w x hx).tr (u y z)
  rw[List.mem_singleton.1 hx];exact u y z
 conv=>rhs;rw[<-List.take_append_drop j L]
 simp only[List.mem_append,List.mem_singleton];constructor
 .rintro ((h|h)|h) <;> simp[h]
 rintro ((h|h)|h) <;> simp[h]
theorem Wz{α:Type}{s:Sl α}{p:α->α->aY X'}{f:α->SW}(hp:∀x y,x∈s.l->y∈s.l->p x y=M (_r (f x=f y)))(k:W s.l<2147483648)(Y:s.l.Pairwise λx y=>¬gL (f y) (f x)<0):
 ∃r,Av s p=M r/\(r.l.map f).Nodup/\(∀d,d∈r.l.map f↔d∈s.l.map f)/\W r.l<=W s.l:=by
 have Q:∀i,i<W s.l->0<i->∃(a:i<W s.l)(F:i-1<W s.l),vV s.l p i=M (_r (f s.l[i]=f s.l[i-1])):=λi h l=>by refine⟨h,c?,?_⟩;unfold vV;rw[ζd h,ζd (show i-1<W s.l by omega)];exact hp _ _ (t? _) (t? _)
 unfold Av;rw[L' ⟨c?,all_eq_true.2 λi b=>by
  by_cases h:i=0
  .subst h;rfl
  have⟨_,_,e⟩:=Q i (mem_range.1 b) c?
  rw[e];simp⟩]
 have B:∀y:aX α,(s.l=[]->y=[])->(s.vQ y).l=y:=λy z=>by cases s<;>first|rfl|exact(z _k).symm
 have S:∀i,i∈kept (λi=>(vV s.l p i).getD O) (W s.l)↔i<W s.l/\(i=0\/(vV s.l p i).getD O=O):=λi=>by unfold kept;simp[List.mem_filter]
 have C:=DT (λi=>(vV s.l p i).getD O) (W s.l)
 have T:(kept (λi=>(vV s.l p i).getD O) (W s.l)).Pairwise (·<·):=by unfold kept;exact List.pairwise_lt_range.filter _
 generalize kept (λi=>(vV s.l p i).getD O) (W s.l)=K at *
 have w:(s.vQ (K.filterMap (s.l[·]?))).l=K.filterMap (s.l[·]?):=B _ λh=>by rw[h];simp
 refine⟨_,_k,?_,λd=>?_,?_⟩
 .rw[w,Nodup,f8,List.pairwise_filterMap];refine T.imp_of_mem ?_;intro i j b Z m x u y z D;have⟨q,G⟩:=(S j).1 Z;have⟨a,F,e⟩:=Q j q c?
  rw[e]at G;have P:¬f s.l[j]=f s.l[j-1]:=by rcases G with h|h;omega;simpa using h
  rw[ζd a]at z;cases z;have I:i<W s.l:=c?
  rw[ζd I]at u;cases u;have o:=List.pairwise_iff_getElem.1 Y;have a1:=o (j-1) j F a c?
  refine P (AP _ _ a1 ?_)
  by_cases e2:i=j-1
  .subst e2;rw[<-D,zZ];omega
  have a2:=o i (j-1) I F c?
  rw[D]at a2;exact a2
 .rw[w];simp only[mem_map,List.mem_filterMap];constructor
  .rintro⟨x,⟨i,_,u⟩,rfl⟩;exact⟨x,s? u,_k⟩
  rintro⟨x,u,rfl⟩;have⟨i,b⟩:=List.mem_iff_getElem?.1 u;have key:∀(i:Nat)x,s.l[i]?=M x->∃y,(∃j,j∈K/\s.l[j]?=M y)/\f y=f x:=by intro i;induction i with|zero=>intro x u;exact⟨x,⟨0,(S 0).2 ⟨(ζe.1 u).1,.inl rfl⟩,u⟩,rfl⟩|succ i ih=>intro x u;have L:=(ζe.1 u).1;have⟨a,F,e⟩:=Q (i+1) L c?;have X:s.l[i+1]=x:=(ζe.1 u).2;by_cases c:f s.l[i+1]=f s.l[i+1-1];have⟨y,z,g⟩:=ih _ (ζd (show i<W s.l by omega));exact⟨y,z,by rw[g,<-X];exact c.symm⟩;exact⟨x,⟨i+1,(S _).2 ⟨L,.inr (by rw[e];simpa using c)⟩,u⟩,_k⟩
  exact key i x b
 rw[w];exact Nat.le_trans (List.length_filterMap_le ..) C
theorem Qf{a b:Zg}(d:W a.l<1073741824):lE a b=M (gL a.l b.l):=by
 refine Wp.eq ?_;unfold lE fT fT.W1;rw[dZ];refine dS (W a.l) (λn s=>s=(n:Int)/\n<=W b.l/\gL (a.l.drop n) (b.l.drop n)=gL a.l b.l) ⟨Y,R? _,Y⟩ ?_ ?_;rintro n _ w ⟨rfl,C,u⟩;unfold fT.bh;rw[fM w,bq,bA w,ζb];have hd:a.l.drop n=a.l[n]::a.l.drop (n+1):=V? w;by_cases D:n<W b.l;have G:b.l.drop n=b.l[n]::b.l.drop (n+1):=V? D;rw[show _r ((n:Int)>=len b)=O from by simp[len];omega,bz,bA D,ζb];rw[hd,G]at u;simp only[gL]at u;generalize a.l[n]=x at *;generalize b.l[n]=y at *;have z:sj x y=M (if x<y then -1 else if x>y then 1 else 0):=by unfold sj ug;simp only[bne_self_eq_false,ζb,bz,bq];by_cases c:x<y;simp[c,bg];by_cases B:x>y;simp[c,B,bg];simp[c,B,bg]
 rw[z,ζb];by_cases c:x<y;rw[L' c]at u⊢;rw[show((-1:Int)==0)=O from Y,bz,a_];exact(a_ _).2 ((a_ _).2 u);rw[M' c]at u⊢;by_cases B:x>y;rw[L' B]at u⊢;rw[show((1:Int)==0)=O from Y,bz,a_];exact(a_ _).2 ((a_ _).2 u);rw[M' B]at u⊢;rw[show((0:Int)==0)=U from Y,bq,a_];exact⟨cm n c?,D,u⟩;rw[show _r ((n:Int)>=len b)=U from by simp[len];omega,bq,a_];rw[hd,List.drop_eq_nil_of_le (show W b.l<=n by omega)]at u;exact(a_ _).2 ((a_ _).2 u);rintro _ ⟨rfl,C,u⟩;unfold fT.bh;rw[gp,bz,a_];rw[List.drop_eq_nil_of_le (y? _)]at u;by_cases h:W a.l<W b.l;rw[show _r (len a<len b)=U from by simp[len];omega,bq];rw[V? h]at u;exact(a_ _).2 ((a_ _).2 u);rw[show _r (len a<len b)=O from by simp[len];omega,bz];rw[List.drop_eq_nil_of_le (show W b.l<=W a.l by omega)]at u;exact(a_ _).2 ((a_ _).2 u)
theorem K8{a b:Zg}(D:W a.l<1073741824):fF a b=M (_r (a.l=b.l)):=by
 refine Wp.eq ?_;unfold fF;rw[b9];refine⟨λh=>?_,λh=>(a_ _).2 ?_⟩;have h:(W a.l:Int)=W b.l:=by simpa[len]using h
 have h:W a.l=W b.l:=c?;unfold fF.W1;refine dS (W a.l) (λn s=>s=(n:Int)/\∀i,i<n->a.l[i]?=b.l[i]?) ⟨Y,λi h=>_e h c?⟩ ?_ ?_;rintro n _ u ⟨rfl,z⟩;unfold fF.bh;have B:n<W b.l:=by omega
 rw[show _r ((n:Int)<len a)=U from fM u,bq,bA u,ζb,bA B,ζb,b9];refine⟨λw=>(a_ _).2 ⟨cm n c?,λi d=>?_⟩,λw=>(a_ _).2 ((a_ _).2 ?_)⟩;by_cases e:i=n;subst e;rw[ζd u,ζd B];simpa using w;exact z i c?;refine(_b λe=>?_).symm;have c:a.l[n]?=b.l[n]?:=by rw[e]
 rw[ζd u,ζd B]at c;simp at w c;exact w c;rintro _ ⟨rfl,z⟩;unfold fF.bh;rw[gp,bz,a_];refine(a_ _).2 (_c (X! λi=>?_)).symm;by_cases d:i<W a.l;exact z i d;rw[G! c?,G! c?];refine(_b λe=>?_).symm;simp[len,e]at h
section
variable{t:Z4}{A:b_ 200 bu}
def xZ(A:b_ 200 bu)(e:WF):bf:=if e.kind=3 then(ag A e.d?).from_ else⟨0,0⟩
structure Xk(t:Trace)(A:b_ 200 bu)(n:Nat)(m:cD):Prop where
 lens:m.lengths.l=(t.a?.l.take n).map λP=>(P.b?.l.length:Int)
 need:m.need.l.map Sl.l=(t.a?.l.take n).map λP=>P.b?.l.map (xZ A)
theorem of_wp(d:Small t)(h:cw t=M U)(f:VT t)(g:eG t (bJ t) A):Wp (mb t) (Xk t A t.a?.l.length):=by
 have Y:=f.few;unfold mb mb.W1;refine dS t.a?.l.length (λn s=>s.1=(n:Int)/\s.2.1=t/\Xk t A n s.2.2.2) ⟨rfl,rfl,rfl,rfl⟩ ?_ ?_;rintro n ⟨_,_,Z,I⟩ z ⟨a,B,u⟩;simp only at a B u;subst a;have B:=B.symm;subst B;unfold mb.bh;rw[fM z,bq,bA z,ζb];have d__:=ζd z;have H:=(d.2 _ (t? z)).1;generalize K:t.a?.l[n]=P at *;unfold mb.W2;refine dS P.b?.l.length (λk s=>s.2.1=(k:Int)/\s.2.2.1=t/\s.2.2.2.2=I/\s.1.l=(P.b?.l.take k).map (xZ A)) ⟨rfl,rfl,rfl,rfl⟩ ?_ ?_;rintro k ⟨nd,_,_,T,_⟩ c ⟨Q,C,D,L⟩;simp only at Q C D L;subst Q;have C:=C.symm;have D:=D.symm;subst C D;unfold mb.bF;rw[fM c,bq,bA c,ζb];have c__:mz t n k P.b?.l[k]:=⟨P,d__,ζd c⟩;have G:P.b?.l.take (k+1)=P.b?.l.take k++[P.b?.l[k]]:=by rw[P?,ζd c];rfl
 generalize P.b?.l[k]=e at *;have fin:∀id,id=xZ A e->Wp (mb.J3 nd t.a? (len t.a?) n P.b? (len P.b?) k t ⟨Sl.nil,Sl.nil⟩ I P id) λw=>match w with|.n S=>S.2.1=((k+1:Nat):Int)/\S.2.2.1=t/\S.2.2.2.2=I/\S.1.l=(P.b?.l.take (k+1)).map (xZ A)|.x e=>False|.r b=>False:=λid W=>by unfold mb.J3;have⟨r,i,l⟩:=ni (s:=nd) (x:=id) (by rw[L];simp;omega);rw[i,ζb,a_];exact⟨cm k c?,rfl,rfl,by rw[l,L,G,v!,W];rfl⟩
 rw[b9];constructor;intro u;have u:e.kind=3:=by simpa using u
 have⟨q,j,y,m,o,p,y3,y4,y5⟩:=zJ f g c__ u;have X:=Je d h g (dU.2 ⟨q,j,m,rfl⟩:((⟨q,j+1⟩:bf),y)∈bJ t) o;simp only at X;rw[p]at X;rw[X,ζb];refine(fin _ (by unfold xZ;rw[L' u,y5])).mono λw b__=>?_;cases w with|n s=>exact b__|x e=>exact b__.elim|r b=>exact b__.elim
 intro u;have u:¬e.kind=3:=by simpa using u
 refine(fin _ (by unfold xZ;rw[M' u])).mono λw b__=>?_;cases w with|n s=>exact b__|x e=>exact b__.elim|r b=>exact b__.elim
 rintro⟨nd,_,_,T,_⟩ ⟨Q,C,D,L⟩;simp only at Q C D L;subst Q;have C:=C.symm;have D:=D.symm;subst C D;unfold mb.bF;have a__:I.lengths.l.length=n:=by rw[u.lens];simp;omega
 have e__:I.need.l.length=n:=by have:=_f List.length u.need;simp at this;omega
 have⟨v,a1,a2⟩:=ni (s:=I.lengths) (x:=len P.b?) c?;have⟨x2,E,F⟩:=ni (s:=I.need) (x:=nd) c?;rw[gp,bz,a_];simp only;rw[a1,ζb,E,ζb,a_];have G:t.a?.l.take (n+1)=t.a?.l.take n++[P]:=by rw[P?,d__];rfl
 refine⟨cm n c?,rfl,?_,?_⟩;show v.l=_;rw[a2,u.lens,G,v!];rfl;show x2.l.map Sl.l=_;rw[F,v!,u.need,G,v!,J?,L,M?];rfl;rintro⟨_,_,Z,I⟩ ⟨a,B,u⟩;simp only at a B u;subst a;have B:=B.symm;subst B;unfold mb.bh;rw[gp,bz,a_];exact(a_ _).2 u
theorem Wr(f:VT t)(g:eG t (bJ t) A){m:cD}(n:Xk t A (_l t.a?.l) m){c:Zg}(d:Cons t A c.l){p:Nat}(hp:p<_l t.a?.l):
 Wp (qX m c p) λb=>(b=U↔∃a,c.l[p]?=M a/\Cons t A (c.l.set p (a+1))):=by
 have ab:=d.1.1;have u:=ζd hp;have⟨a,w⟩:=d.1.at_ hp;have F:=d.1.2 p a _ w u;generalize t.a?.l[p]=P at *;have D:m.lengths.l[p]?=M (_l P.b?.l:Int):=by rw[n.lens,M?,k!,u];rfl
 have b__:=(ζe.1 w).1;have L:idx c (p:Int)=M a:=by rw[gm];exact w
 unfold qX;rw[L,ζb,gm,D,ζb,b9];constructor
 .intro h;have h:a=_l P.b?.l:=by simpa using h
  refine(a_ _).2 ⟨λh=>(by cases h),λ⟨b,B,d__⟩=>?_⟩
  rw[w]at B;cases B;have:=d__.1.2 p (a+1) P (by simp[b__]) u
  omega
 intro h;have h:¬a=_l P.b?.l:=by simpa using h
 have S:a<_l P.b?.l:=c?
 have o:=_f (λl=>l[p]?) n.need
 simp only[M?,k!,u,Option.map_some]at o;have⟨nd,T,c__⟩:=ζf.1 o;have z:a.toNat<_l P.b?.l:=c?
 have H:idx nd a=M (xZ A P.b?.l[a.toNat]):=by rw[VX F.1,c__,k!,ζd z];rfl
 rw[gm,T,ζb,ζb,H,ζb];have W:=d.up f g u w S;have G:(∃b,c.l[p]?=M b/\Cons t A (c.l.set p (b+1)))↔Uu t A c.l p:=by rw[W];exact⟨λ⟨b,B,k⟩=>by rw[w]at B;cases B;exact k,λk=>⟨a,w,k⟩⟩
 rw[G];have X:mz t p a.toNat P.b?.l[a.toNat]:=⟨P,u,ζd z⟩;have Y:Uu t A c.l p↔(P.b?.l[a.toNat].kind=3->∃b,c.l[(ag A P.b?.l[a.toNat].d?).from_.proc.toNat]?=M b/\(ag A P.b?.l[a.toNat].d?).from_.index<=b):=⟨λ⟨Q,e,x,r,v,C,K⟩=>by rw[u]at r;cases r;rw[w]at v;cases v;rw[ζd z]at C;cases C;exact K,λh=>⟨P,_,a,u,w,ζd z,h⟩⟩
 rw[Y];generalize P.b?.l[a.toNat]=e at *;unfold xZ
 by_cases C:e.kind=3
 .rw[L' C];have⟨q,j,a__,_,_,y,Q,e__,_⟩:=BI f g X C;have Z:q<_l c.l:=by have:=(ζe.1 e__).1;omega
  rw[a__];simp only[t!];rw[bA Z,ζb,a_];simp only[_g];exact⟨λh _=>⟨_,ζd Z,h⟩,λh=>by have⟨b,B,R⟩:=h C;rw[ζd Z]at B;cases B;exact R⟩
 rw[M' C];have E:0<_l c.l:=c?
 have I:=d.1.pos 0 _ (ζd E);have V:idx c ((⟨0,0⟩:bf).proc)=M c.l[0]:=bA (s:=c) (i:=0) E;rw[V,ζb,a_];exact⟨λ_ h=>_e h C,λ_=>by simpa using I⟩
end
theorem Ja{α:Type}:∀l:aX α,(w! (W l)).filterMap (l[·]?)=l
 |[]=>rfl|x::l=>by rw[U?,List.range_succ_eq_map,List.filterMap_cons,List.filterMap_map];show x::(w! (W l)).filterMap (λi=>(x::l)[i+1]?)=_;simp only[List.getElem?_cons_succ];rw[Ja l]
theorem aaf{α:Type}{s r:Sl α}{p:α->α->aY X'}(h:Av s p=M r):r.l.Sublist s.l:=by
 unfold Av at h;split at h
 .cases h;have key:((kept (λi=>(vV s.l p i).getD O) (W s.l)).filterMap (s.l[·]?)).Sublist s.l:=by
   have e:=Ja s.l
   conv=>rhs;rw[<-e]
   exact List.Sublist.filterMap _ (by unfold kept;exact List.filter_sublist)
  generalize(kept (λi=>(vV s.l p i).getD O) (W s.l)).filterMap (s.l[·]?)=y at *
  cases s<;>first|exact key|(simp[Sl.vQ,Sl.l])
 cases h
theorem sY{c:Zg}(D:W c.l<=1073741824)(B:0<W c.l):∃d,H (dx c) Sl.whole=M d/\d.l=c.l:=by
 unfold dx;have key:(H (oC (Sl.row []:Zg) c) λx=>M x).bind Sl.whole=M (.row ([]++c.l)):=by unfold oC;rw[M' (λh=>by rw[h]at B;simp at B),L' (show(Sl.row ([]:SW)).l.length+W c.l<=2147483648 from show 0+W c.l<=_ by omega)];rfl
 cases c with|nil=>simp[Sl.l]at B|emp=>simp[Sl.l]at B|part l=>exact⟨_,key,rfl⟩|row l=>exact⟨_,key,Y⟩
section
variable{t:Z4}{A:b_ 200 bu}
theorem Uo(H:Small t)(i:VT t)(q:eG t (bJ t) A){m:cD}(K:Xk t A (_l t.a?.l) m){k:Nat}{B:Zb}(Y:B_ t A k B)(V:_l B.l<=5000):
 Wp (eT m B) λr=>B_ t A (k+1) r/\(ins r).Nodup/\_l r.l<=40000/\(ins r).Pairwise λx y=>¬gL y x<0:=by
 have ae:=i.few;unfold eT eT.W1;refine dS (_l B.l) (λn s=>s.2.1=len B/\s.2.2=(n:Int)/\s.1.l.length<=8*n/\∀d,d∈ins s.1↔∃c∈(B.l.take n).map Sl.l,EE t A c d) ⟨_k,_k,R? _,λd=>by simp[ins,Sl.l]⟩ ?_ ?_
 .rintro n ⟨out,_,_⟩ w ⟨e1,e2,g1,g2⟩;simp only at e1 e2 g1 g2;subst e1 e2;have L:=(Y B.l[n].l).1 (oV.2 ⟨_,t? w,_k⟩);unfold eT.bh;rw[fM w,bq,bA w,ζb];have d__:∀d,d∈(B.l.take (n+1)).map Sl.l↔d∈(B.l.take n).map Sl.l\/d=B.l[n].l:=λd=>Bn w
  generalize B.l[n]=c at *;have af:=L.1.1.1;have ab:=i.ok.one;unfold eT.W2;refine dS (_l c.l) (λj s=>s.2=(j:Int)/\s.1.l.length<=8*n+j/\∀d,d∈ins s.1↔d∈ins out\/∃(p:Nat)(a:Int),p<j/\c.l[p]?=M a/\d=c.l.set p (a+1)/\Cons t A d) ⟨_k,g1,λd=>⟨.inl,λh=>h.elim id λ⟨p,a,h,_⟩=>_e h c?⟩⟩ ?_ ?_
  .rintro j ⟨o2,_⟩ c__ ⟨e,l,Q⟩;simp only at e l Q;subst e;unfold eT.bF;rw[show _r ((j:Int)<len c)=U from fM c__,bq,dZ];refine(Wr i q K L.1 (p:=j) c?).mono λb v=>?_
   have u:=ζd c__;have hr:=L.1.1.2 j _ _ u (ζd (show j<_l t.a?.l by omega))
   have ah:=(H.2 _ (t? (show j<_l t.a?.l by omega))).1
   generalize c.l[j]=a at *;have more:∀o3:Zb,(∀d,d∈ins o3↔d∈ins o2\/d=c.l.set j (a+1)/\Cons t A d)->∀d,d∈ins o3↔d∈ins out\/∃(p:Nat)(a:Int),p<j+1/\c.l[p]?=M a/\d=c.l.set p (a+1)/\Cons t A d:=λo3 h d=>by rw[h,Q];constructor;rintro((h|⟨p,b,h,k⟩)|⟨h,k⟩);exact .inl h;exact .inr ⟨p,b,c?,k⟩;exact .inr ⟨j,a,c?,u,h,k⟩;rintro(h|⟨p,b,h,k1,k2,k3⟩);exact .inl (.inl h);by_cases e:p=j;subst e;rw[u]at k1;cases k1;exact .inr ⟨k2,k3⟩;exact .inl (.inr ⟨p,b,c?,k1,k2,k3⟩)
   rw[b9];constructor
   .intro ht;have⟨x,C,X⟩:=v.1 ht;rw[u]at C;cases C;have⟨d,hd,z⟩:=sY (c:=c) c? c?
    have⟨a__,Z,S⟩:=put_eq (s:=d) (p:=j) (x:=a+1) (by rw[z];exact c__)
    have⟨o3,e__,D⟩:=ni (s:=o2) (x:=a__) c?
    have P:Sl.get d j=M a:=by unfold Sl.get;rw[z];exact u
    rw[hd,ζb,rA (by rw[z];exact c__),ζb,P,ζb,ζb,fJ _ c? c?,Z,ζb,e__,ζb,a_]
    refine⟨cm j c?,by rw[D];simp;omega,more o3 λe=>?_⟩
    rw[Oz D,S,z];exact⟨λh=>h.elim .inl λh=>.inr ⟨h,by rw[h];exact X⟩,λh=>h.elim .inl λh=>.inr h.1⟩
   intro E;refine(a_ _).2 ⟨cm j c?,Nat.le_succ_of_le l,more o2 λd=>⟨.inl,λh=>h.elim id λ⟨o,W⟩=>?_⟩⟩
   rw[v.2 ⟨a,u,by rw[<-o];exact W⟩]at E;cases E
  rintro⟨o2,_⟩ ⟨e,l,Q⟩;simp only at e l Q;subst e;unfold eT.bF;rw[gp,bz,a_];refine(a_ _).2 ⟨_k,cm n c?,show _l o2.l<=_ by omega,λd=>?_⟩
  rw[Q];constructor
  .rintro (h|⟨p,a,_,h⟩)
   .have⟨c',g,G⟩:=(g2 d).1 h;exact⟨c',(d__ c').2 (.inl g),G⟩
   exact⟨_,(d__ _).2 (.inr _k),p,a,h⟩
  rintro⟨c',g,G⟩;rcases(d__ c').1 g with h|h
  .exact .inl ((g2 d).2 ⟨c',h,G⟩)
  subst h;have⟨p,a,h⟩:=G;exact .inr ⟨p,a,(ζe.1 h.1).1,h⟩
 rintro⟨out,_,_⟩ ⟨e1,e2,g1,g2⟩;simp only at e1 e2 g1 g2;subst e1 e2;unfold eT.bh;rw[gp,bz,a_];simp only;have I:B_ t A (k+1) out:=λd=>by rw[g2,M?,<-EE.iff i q (k:=k)];exact⟨λ⟨c,g,G⟩=>⟨c,(Y c).1 g,G⟩,λ⟨c,g,G⟩=>⟨c,(Y c).2 g,G⟩⟩
 have b__:∀s:Zb,(∀d,d∈ins s↔d∈ins out)->∀x∈s.l,_l x.l<1073741824:=λs h x C=>by have:=((I x.l).1 ((h x.l).1 (oV.2 ⟨x,C,_k⟩))).1.1.1;omega
 have⟨r1,o,p1,F⟩:=WJ (s:=out) (p:=lE) (f:=Sl.l) (λx y C _=>Qf (b__ out (λ_=>Iff.rfl) x C)) c?
 have T:∀d,d∈ins r1↔d∈ins out:=λd=>(p1.map Sl.l).mem_iff
 have ad:_l r1.l=_l out.l:=p1.length_eq;have⟨r2,W,nd,R,l2⟩:=Wz (s:=r1) (p:=mU) (f:=Sl.l) (λx y C _=>by unfold mU;rw[K8 (b__ r1 T x C)];rfl) c? F
 rw[o,ζb,W,ζb,a_];exact⟨λd=>(R d).trans ((T d).trans (I d)),nd,c?,by unfold ins;rw[f8];exact F.sublist (aaf W)⟩
end
theorem Jd{c:Zg}(h:Im c.l):iO c=M c.l.sum:=by refine Wp.eq ?_;have u:=h.1;unfold iO iO.W1;refine dS (W c.l) (λi(q:Int×Int)=>q.2=(i:Int)/\q.1=(c.l.take i).sum) ⟨Y,Y⟩ ?_ ?_;rintro i ⟨m,_⟩ a ⟨e,b⟩;simp only at e b;subst e;subst b;unfold iO.bh;rw[fM a,bq,bA a,ζb,a_];have k:=W0 h (i+1);rw[L6 a]at k;grind[L6,fJ];simp_all[iO.bh,bz,a_]
theorem Ns{a b:Zg}(B:Im a.l)(D:Im b.l)(G:W a.l=W b.l):iX a b=M (_r (fH a.l b.l)):=by
 have w:=B.1;unfold iX;rw[Jd B,ζb,Jd D,ζb];by_cases e:a.l.sum=b.l.sum;rw[show(a.l.sum==b.l.sum)=U from h?,bq];refine Wp.eq ?_;unfold iX.W1;refine dS (W a.l) (λi(q:Int)=>q=(i:Int)/\gL (a.l.drop i) (b.l.drop i)=gL a.l b.l) ⟨Y,Y⟩ ?_ ?_;rintro i _ c ⟨rfl,h⟩;have u:i<W b.l:=by omega
 unfold iX.bh;rw[fM c,bq,bA c,ζb,bA u,ζb];rw[SZ c u]at h;by_cases e2:a.l[i]=b.l[i];rw[show(a.l[i]==b.l[i])=U from h?,bq,a_];rw[M' c?,M' c?]at h;grind[cm];rw[show(a.l[i]==b.l[i])=O from h?,bz,ζb,ζb,a_];refine(a_ _).2 ?_;have hd:_r (fH a.l b.l)=_r (gL a.l b.l<0):=decide_eq_decide.2 (fH.KU e);grind;rintro _ ⟨rfl,h⟩;unfold iX.bh;rw[gp,bz,a_];refine(a_ _).2 ?_;have hd:_r (fH a.l b.l)=_r (gL a.l b.l<0):=decide_eq_decide.2 (fH.KU e);rw[hd];rw[E! (y? _),E! c?]at h;rw[<-h];rfl;rw[show(a.l.sum==b.l.sum)=O from h?,bz,ζb,ζb];grind[fH,Ia,gL]
theorem CO{a b:Zg}(B:W a.l<1073741824):eD a b=M (_r (a.l=b.l)):=by
 refine Wp.eq ?_;unfold eD;rw[b9];refine⟨λh=>?_,λh=>(a_ _).2 ?_⟩;have h:(W a.l:Int)=W b.l:=by grind
 have h:W a.l=W b.l:=c?;unfold eD.W1;refine dS (W a.l) (λn s=>s=(n:Int)/\∀i,i<n->a.l[i]?=b.l[i]?) ⟨Y,λi h=>_e h c?⟩ ?_ ?_;rintro n _ u ⟨rfl,w⟩;grind[eD.bh,bA,b9,a_,cm];rintro _ ⟨rfl,w⟩;unfold eD.bh;rw[gp,bz,a_];refine(a_ _).2 (_c (X! λi=>?_)).symm;grind;grind
theorem iQ(s:Zb):W (ins s)=W s.l:=by unfold ins;simp
theorem Yg(s:Zb)(i:Nat):(ins s)[i]?=(s.l[i]?).map Sl.l:=by grind[ins]
theorem rB{s:Zb}{i:Nat}(h:i<W s.l):(ins s)[i]?=M s.l[i].l:=by rw[Yg,ζd h];rfl
theorem NJ{l:Zb}{c:Zg}(a__:∀x∈l.l,Im x.l/\_l x.l=_l c.l)(b:Im c.l)(t:_l l.l<1073741824)(f:(ins l).Pairwise fH):
 Wp (iW l c) λr=>_l r.l<=_l l.l+1/\(ins r).Pairwise fH/\∀d,d∈ins r↔d∈ins l\/d=c.l:=by
 have W:=b.1;have a:∀n:Nat,n<=_l l.l->(∀(i:Nat)x,i<n->(ins l)[i]?=M x->fH x c.l)->(∀x,(ins l)[n]?=M x->¬fH x c.l)->
  Wp ((bg (_r ((n:Int)<(len l))) (H (idx l n) λP=>H (eD P c) λL=>M L) (M O):aY X').bind λb__=>
  bg b__ (M l) (H (gN l J (M (n:Int))) λw=>H (oC (Sl.row []:Zb) w) λz=>H (d_ z (c:Zg)) λB=>H (gN l (M (n:Int)) J) λC=>H (oC B C) λD=>M D))
  λr=>_l r.l<=_l l.l+1/\(ins r).Pairwise fH/\∀d,d∈ins r↔d∈ins l\/d=c.l:=by
  intro n G Z v;have X:(∀x,(ins l)[n]?=M x->x≠c.l)->Wp (H (gN l J (M (n:Int))) λw=>H (oC (Sl.row []:Zb) w) λz=>H (d_ z (c:Zg)) λB=>H (gN l (M (n:Int)) J) λC=>H (oC B C) λD=>M D) λr=>_l r.l<=_l l.l+1/\(ins r).Pairwise fH/\∀d,d∈ins r↔d∈ins l\/d=c.l:=by intro y;have⟨I,g,e4⟩:=u_ l n G;have A:_l I.l<=_l l.l:=h?;have⟨x5,j,e5⟩:=zg (s:=(Sl.row []:Zb)) (x:=I) (show 0+_l I.l<=_ by omega);have e5:x5.l=I.l:=e5;have⟨k,m,e6⟩:=ni (s:=x5) (x:=c) h?;have⟨x7,o,e7⟩:=Ee l n G;have⟨Y,W,E⟩:=zg (s:=k) (x:=x7) h?;rw[g,ζb,j,ζb,m,ζb,o,ζb,W,ζb,a_];have e:Y.l=l.l.take n++[c]++l.l.drop n:=p?;have F:ins Y=(ins l).take n++[c.l]++(ins l).drop n:=(by simp_all[ins]);grind[Pz,fH.tot]
  by_cases h:n<(_l l.l)
  .rw[fM h,bq,bA h,ζb,CO (by have:=(a__ _ (t? h)).1.1;omega),ζb,ζb]
   by_cases e:l.l[n].l=c.l
   .rw[_c e,bq,a_];refine⟨c?,f,λd=>⟨.inl,λQ=>Q.elim id λQ=>?_⟩⟩
    rw[Q,<-e];exact oV.2 ⟨_,t? h,_k⟩
   grind[bz,rB]
  rw[show(n:Int)=(_l l.l:Nat)from c?,gp,bz,ζb,bz,<-show(n:Int)=(_l l.l:Nat)from c?]
  grind[iQ]
 unfold iW iW.W1;refine dS (_l l.l) (λn s=>s=(n:Int)/\∀(i:Nat)x,i<n->(ins l)[i]?=M x->fH x c.l) ⟨_k,λi x h=>_e h c?⟩ ?_ ?_
 .rintro n _ u ⟨rfl,S⟩;have⟨p,q⟩:=a__ _ (t? u);unfold iW.bh;rw[fM u,bq,bA u,ζb,Ns p b q,ζb,ζb]
  by_cases e:fH l.l[n].l c.l
  .rw[_c e,bq,a_]
   grind[cm,rB]
  rw[_b e,bz,a_];exact a n c? S λx T=>by rw[rB u]at T;grind
 rintro _ ⟨rfl,S⟩;unfold iW.bh;rw[gp,bz,ζb,bz,a_];exact a _ (y? _) S λx T=>by have:=(ζe.1 T).1;rw[iQ]at this;omega
section
variable{t:Z4}{A:b_ 200 bu}
structure dP(t:Trace)(A:b_ 200 bu)(L:List (List Int)):Prop where
 srt:L.Pairwise fH
 mem:∀d,d∈L↔Cons t A d
def DJ(t:Z4)(A:b_ 200 bu):Prop:=∃L:aX SW,L.Nodup/\(∀d∈L,Cons t A d)/\5000<W L
theorem dP.one{L R:aX SW}(h:dP t A L)(k:dP t A R):L=R:=F9 h.srt k.srt λx=>(h.mem x).trans (k.mem x).symm
theorem dP.not{L:aX SW}(h:dP t A L)(B:W L<=5000)(k:DJ t A):False:=by have⟨R,nd,w,u⟩:=k;have:=Bm nd λx z=>(h.mem x).2 (w x z);omega
theorem I5{k:Nat}{o l:aX SW}(a:∀d,d∈l↔Cons t A d/\d.sum=(k:Int))(B:l.Pairwise fH)(D:o.Pairwise fH)(G:∀d,d∈o↔Cons t A d/\d.sum<(k:Int)):
 (o++l).Pairwise fH/\∀d,d∈o++l↔Cons t A d/\d.sum<((k+1:Nat):Int):=by
 grind[fH.sum]
theorem TN(v:Small t)(f:VT t)(j:eG t (bJ t) A):Wp (eC t) λr=>(r.2=U/\dP t A (ins r.1)/\r.1.l.length<=5000)\/(r.2=O/\r.1=.nil/\DJ t A):=by
 have Z:=f.few;unfold eC nv;rw[L' ⟨p?,h?⟩,ζb];unfold eC.W1;have fin:∀(k:Nat)(u out:Zb),B_ t A k u->_l u.l=0->(ins out).Pairwise fH->(∀d,d∈ins out↔Cons t A d/\d.sum<(k:Int))->dP t A (ins out):=λk u out b S G b__=>⟨G,λd=>(b__ d).trans ⟨λh=>h.1,λh=>⟨h,b.none f j S h⟩⟩⟩
 refine dS (oP t+1) (λk s=>B_ t A k s.1/\(ins s.1).Pairwise fH/\(ins s.2).Pairwise fH/\(∀d,d∈ins s.2↔Cons t A d/\d.sum<(k:Int))/\s.1.l.length<=40000/\s.2.l.length<=5000)
  ⟨Qx (by simp[Sl.l,len]),by simp[ins,Sl.l],by simp[ins,Sl.l],λd=>⟨λh=>by grind[ins,Sl.l],λh=>_e (tj h.1.1.pos) h?⟩,by simp[Sl.l],by simp[Sl.l]⟩ ?_ ?_
 rintro k ⟨u,out⟩ e__ ⟨b,C,w,G,b__,L⟩;simp only at b C w G b__ L;unfold eC.bh;rw[Gm];by_cases S:_l u.l=0;rw[show(!_r (_l u.l=0))=O from p?,bz,a_];exact(a_ _).2 (.inl ⟨_k,fin k u out b S w G,L⟩);rw[show(!_r (_l u.l=0))=U from p?,bq];have⟨x,E,P⟩:=zg (s:=out) (x:=u) c?;have T:ins x=ins out++ins u:=by grind[ins]
 have⟨o1,o2⟩:=I5 b C w G;rw[<-T]at o1 o2;rw[E,ζb,b9];refine⟨λc__=>(a_ _).2 ((a_ _).2 (.inr ⟨_k,_k,ins x,fH.nodup o1,λd hd=>((o2 d).1 hd).1,?_⟩)),λc__=>?_⟩;rw[iQ];grind;have c__:_l x.l<=5000:=h?;have R:_l u.l<=5000:=h?;have F:∀d,Cons t A d->Im d/\_l d=_l t.a?.l:=λd h=>⟨Du v f h,h.1.1⟩;unfold eC.W2;refine dS (_l u.l) (λn s=>s.2=(n:Int)/\s.1.l.length<=8*n/\(ins s.1).Pairwise fH/\∀d,d∈ins s.1↔∃c∈(u.l.take n).map Sl.l,EE t A c d) ⟨_k,R? _,by simp[ins,Sl.l],λd=>by simp[ins,Sl.l]⟩ ?_ ?_;rintro n ⟨more,_⟩ B ⟨e,g1,g,g2⟩;simp only at e g1 g g2;subst e;unfold eC.bF;have W:=(b u.l[n].l).1 (oV.2 ⟨_,t? B,_k⟩);rw[fM B,bq,bA B,ζb,dZ];refine(ZS v f j W.1).mono λnx Q=>?_;unfold eC.W3;refine dS (_l nx.l) (λm s=>s.2=(m:Int)/\s.1.l.length<=8*n+m/\(ins s.1).Pairwise fH/\∀d,d∈ins s.1↔d∈ins more\/d∈(nx.l.take m).map Sl.l) ⟨_k,g1,g,λd=>f?⟩ ?_ ?_;rintro m ⟨X,_⟩ D ⟨e,o,fs,I⟩;simp only at e o fs I;subst e;unfold eC.eH;rw[fM D,bq,bA D,ζb,dZ];have H:=(Q.2 nx.l[m].l).1 (oV.2 ⟨_,t? D,_k⟩);have⟨_,_,_,_,Y⟩:=H;refine(NJ (l:=X) (c:=nx.l[m]) (λy K=>?_) (F _ Y).1 c? fs).mono λr q=>?_;have V:Cons t A y.l:=by rcases(I y.l).1 (oV.2 ⟨_,K,rfl⟩)with h|h;have⟨_,_,p,a,_,_,k⟩:=(g2 y.l).1 h;omega;have⟨z,a__,e⟩:=mem_map.1 h;have⟨p,a,_,_,k⟩:=(Q.2 z.l).1 (oV.2 ⟨_,Q? a__,_k⟩);rw[<-e];exact k
 grind;refine(a_ _).2 ⟨cm m c?,Nat.le_trans q.1 c?,q.2.1,λd=>?_⟩;rw[q.2.2,I,Bn D,or_assoc];rintro⟨X,_⟩ ⟨e,o,fs,I⟩;simp only at e o fs I;subst e;unfold eC.eH;rw[gp,bz,a_];refine(a_ _).2 ⟨cm n c?,show _l X.l<=_ by omega,fs,λd=>?_⟩;rw[I,M?];constructor;rintro(h|h);grind;exact⟨_,(Bn B).2 (.inr _k),(Q.2 d).1 h⟩;rintro⟨c,i,d__⟩;rcases(Bn B).1 i with h|h;grind;subst h;exact .inr ((Q.2 d).2 d__);rintro⟨more,_⟩ ⟨e,g1,g,g2⟩;simp only at e g1 g g2;subst e;unfold eC.bF;rw[gp,bz,a_];refine(a_ _).2 ⟨λd=>?_,g,o1,o2,show _l more.l<=_ by omega,c__⟩;rw[g2,M?,<-EE.iff f j (k:=k)];exact⟨λ⟨c,i,d__⟩=>⟨c,(b c).1 i,d__⟩,λ⟨c,i,d__⟩=>⟨c,(b c).2 i,d__⟩⟩;rintro⟨u,out⟩ ⟨b,C,w,G,b__,L⟩;simp only at b C w G b__ L;unfold eC.bh;rw[Gm,show(!_r (_l u.l=0))=O from by simp[b.last],bz,a_];exact(a_ _).2 (.inl ⟨_k,fin _ u out b b.last w G,L⟩)
theorem UG(a:VT t)(b:Small t):oP t<8589934600:=by
 have key:∀(l:aX bS),(∀p∈l,W p.b?.l<1073741824)->(l.map λP=>W P.b?.l).sum<=1073741824*W l:=by intro l;induction l with|nil=>grind|cons x l w=>grind
 have c:=key t.a?.l λp u=>(b.2 p u).1;have z:=a.few;grind[oP]
theorem Yl{k:Int}{L:aX SW}(nd:L.Nodup)(B:L.Pairwise λx y=>¬gL y x<0)(a:∀d∈L,d.sum=k):L.Pairwise fH:=by refine(B.and nd).imp_of_mem λ{x y}u w h=>?_;grind[fH.KU,AP]
theorem R4(c:Small t)(g:cw t=M U)(b:VT t)(f:eG t (bJ t) A):
 Wp (sU t) λr=>(r.2=0/\dP t A (ins r.1)/\r.1.l.length<=5000)\/(r.2=16/\r.1=.nil/\DJ t A):=by
 have S:=b.few;have X:=UG b c;unfold sU lP;rw[g,ζb,bq,dZ,dZ];refine(of_wp c g b f).mono λm T=>?_
 unfold nv;rw[L' ⟨p?,h?⟩,ζb]
 have fin:∀(k:Nat)(u:Zb)(out:Sl Zb),B_ t A k u->W u.l=0->(out.l.flatMap ins).Pairwise fH->(∀d,d∈out.l.flatMap ins↔Cons t A d/\d.sum<(k:Int))->W out.l<=5000->W (out.l.flatMap ins)<=5000->
  Wp (H (gT out) λC=>M (C,(0:Int))) λr=>(r.2=0/\dP t A (ins r.1)/\r.1.l.length<=5000)\/(r.2=16/\r.1=.nil/\DJ t A):=λk u out a Q D o F Z=>by
  have z:(out.l.flatMap Sl.l).map Sl.l=out.l.flatMap ins:=by rw[List.map_flatMap];rfl
  have i:(EF out).l=out.l.flatMap Sl.l:=by unfold EF;split;(next h=>exact(List.length_eq_zero_iff.1 h).symm);rfl
  unfold gT;rw[L' ⟨c?,h?⟩,ζb,a_]
  have e:ins (EF out)=out.l.flatMap ins:=by grind[ins]
  refine .inl ⟨Y,⟨h?,λd=>by rw[e];exact(o d).trans ⟨λh=>h.1,λh=>⟨h,a.none b f Q h⟩⟩⟩,?_⟩
  grind
 unfold lP.W1;refine dS (oP t+1) (λk s=>B_ t A k s.1/\(ins s.1).Pairwise fH/\(s.2.1.l.flatMap ins).Pairwise fH/\(∀d,d∈s.2.1.l.flatMap ins↔Cons t A d/\d.sum<(k:Int))/\s.2.2=(W (s.2.1.l.flatMap ins):Int)/\s.2.1.l.length<=W (s.2.1.l.flatMap ins)/\W (s.2.1.l.flatMap ins)<=5000/\s.1.l.length<=40000)
  ⟨Qx (by simp[Sl.l,len]),by simp[ins,Sl.l],by simp[Sl.l],λd=>⟨λh=>by grind[Sl.l],λh=>_e (tj h.1.1.pos) h?⟩,by simp[Sl.l],by simp[Sl.l],by simp[Sl.l],by simp[Sl.l]⟩ ?_ ?_
 .rintro k ⟨u,out,tot⟩ hk ⟨a,B,w,D,I,L,j,q⟩;simp only at a B w D I L j q;have⟨o1,o2⟩:=I5 a B w D;unfold lP.bh;rw[Gm]
  by_cases Q:W u.l=0
  .rw[show(!_r (W u.l=0))=O from p?,bz,a_]
   grind[a_]
  rw[show(!_r (W u.l=0))=U from p?,bq,I]
  have y:w? N ((W (out.l.flatMap ins):Int)+len u)=((W (out.l.flatMap ins)+W u.l:Nat):Int):=by have e:len u=(W u.l:Int):=rfl;rw[e,fJ _ c? c?];omega
  rw[y,b9];refine⟨λG=>(a_ _).2 ((a_ _).2 ?_),λG=>?_⟩
  .show Wp ((H (gT (Sl.nil:Sl Zb)) λC=>M (C,(16:Int)))) _
   have e0:gT (Sl.nil:Sl Zb)=M .nil:=by unfold gT;rfl
   rw[e0,ζb,a_];refine .inr ⟨Y,Y,out.l.flatMap ins++ins u,fH.nodup o1,λd hd=>((o2 d).1 hd).1,?_⟩
   have G:=_d G;rw[ζi,iQ];omega
  have G:=of_decide_eq_false G;have⟨o3,g1,g2⟩:=ni (s:=out) (x:=u) c?
  rw[g1,ζb,dZ];refine(Uo c b f T a c?).mono λr⟨r1,r2,r3,r4⟩=>?_
  have z:o3.l.flatMap ins=out.l.flatMap ins++ins u:=by rw[g2];simp
  refine(a_ _).2 ⟨r1,Yl r2 r4 λd hd=>((r1 d).1 hd).2,by rw[z];exact o1,λd=>by rw[z];exact o2 d,by rw[z,ζi,iQ],?_,?_,r3⟩
  all_goals grind[iQ]
 rintro⟨u,out,tot⟩ ⟨a,B,w,D,I,L,j,q⟩;simp only at a B w D I L j q;unfold lP.bh;rw[Gm,show(!_r (W u.l=0))=O from by simp[a.last],bz,a_]
 exact(a_ _).2 (fin _ u out a a.last w D c? j)
theorem BE(a:Small t)(f:cw t=M U)(c:VT t)(d:eG t (bJ t) A):
 (∃L r s,dP t A L/\W L<=5000/\sU t=M (r,0)/\eC t=M (s,U)/\ins r=L/\ins s=L)\/
 (sU t=M (.nil,16)/\eC t=M (.nil,O)):=by
 have⟨⟨r,e⟩,g,h⟩:=R4 a f c d;have⟨⟨s,b⟩,z,w⟩:=TN a c d;rcases h with⟨rfl,k1,k2⟩|⟨rfl,rfl,k1⟩
 .rcases w with⟨rfl,u,B⟩|⟨rfl,rfl,u⟩
  .exact .inl ⟨ins r,r,s,k1,by rw[iQ];omega,g,z,Y,u.one k1⟩
  exact(k1.not (by rw[iQ];omega) u).elim
 rcases w with⟨rfl,u,B⟩|⟨rfl,rfl,u⟩
 .exact(u.not (by rw[iQ];omega) k1).elim
 grind
end
theorem ND{t:Z4}(e:Small t)(f:cw t=M U)(b:VT t){A:b_ 200 bu}(g:eG t (bJ t) A)(c:Zg):Wp (kA t c) λr=>Code t A c.l r.2:=by
 have G:=b.few;unfold kA;rw[dZ];refine(TZ e f b g c).mono λr a=>?_;rw[b9];constructor;intro u;have u:r=0:=by simpa using u
 have j:=a.zero.1 u;have C:=j.1.1;unfold kA.W1;refine ey (λs:Sl bf×Int=>∃n:Nat,s.2=n/\n<=W c.l/\s.1.l.length<=n) (λs=>W c.l-s.2.toNat) ⟨0,Y,R? _,y? _⟩ ?_;rintro⟨o,i⟩ ⟨n,d,I,D⟩;simp only at d D;subst d;unfold kA.bh;rw[b9];constructor;intro h;have z:n<W c.l:=by simpa[len]using h
 have B:=cm n c?;have w:W c.l-(w? N ((n:Int)+1)).toNat<W c.l-((n:Int)).toNat:=by rw[B];simp;omega
 rw[bA z,ζb,b9];constructor;intro _;unfold d_;rw[L' (show W o.l+1<=2147483648 from c?),ζb,a_];exact⟨⟨n+1,B,c?,by show(o.l++[_]).length<=n+1;rw[ζi,Y?];omega⟩,w⟩;intro _;exact(a_ _).2 ⟨⟨n+1,B,c?,show W o.l<=n+1 from c?⟩,w⟩;intro _;exact(a_ _).2 ((a_ _).2 (u▸a));intro u;exact(a_ _).2 a
end Go.VE
namespace Go.VE
theorem Code.one{t:Z4}{A:b_ 200 bu}{c:SW}{r s:Int}(h:Code t A c r)(g:Code t A c s):r=s:=by rcases h with⟨h,rfl⟩|⟨a,u,rfl⟩|⟨a,u,rfl⟩|⟨a,u,rfl⟩<;>rcases g with⟨g,rfl⟩|⟨g1,g2,rfl⟩|⟨g1,g2,rfl⟩|⟨g1,g2,rfl⟩<;>first|rfl|contradiction|exact _e ‹mY t c›.1 ‹_›
def yC(c d:SW):Prop:=∀(p:Nat)(a b:Int),c[p]?=M a->d[p]?=M b->a<=b
theorem UB{α:Type}{m:aY (Sl α)}{d:Sl α}(h:m.bind Sl.whole=M d):d.whole=M d:=by cases m with|none=>cases h|some s=>cases s<;>first|(cases h;rfl)|cases h
theorem WA{α:Type}{s:Sl α}(h:s.whole=M s)(l:aX α):(s.re l).whole=M (s.re l):=by cases s<;>first|rfl|cases h
section
variable{t:Z4}{A:b_ 200 bu}
theorem Z7(l:Small t)(m:cw t=M U)(g:VT t)(E:eG t (bJ t) A){c:Zg}(Y:mY t c.l):
 Wp (kH t c (λs(z:bf×bf)=>s.setAt z.1.proc z.1.index)) λr=>r.2=0/\Cons t A r.1.l/\yC c.l r.1.l/\(∀d,Cons t A d->yC c.l d->yC r.1.l d)/\r.1.whole=M r.1:=by
 have P:=g.few;have R:=g.ok.one;have D:=Y.1;unfold kH uW;rw[m,ζb,bq,vO (f:=λz=>(iV z t).getD O) (λz _=>Md.ok ((a_ _).2 trivial)) (by simp[Sl.l]),ζb,ζb,ζb]
 have G:(!((Sl.row [c]:Zb).l.any λz=>(iV z t).getD O))=U:=by simp[Sl.l,iV,len,D]<;>exact _f Int.ofNat D
 rw[G,bq,dZ];refine(BO l D).mono λb S=>?_
 rw[S.2 Y,bq];have⟨V,n,Z⟩:=sY (c:=c) c? c?
 rw[n,ζb];unfold kH.W1;refine ey (λs:Zg=>mY t s.l/\yC c.l s.l/\(∀d,Cons t A d->yC c.l d->yC s.l d)/\s.whole=M s) (λs:Zg=>((oP t:Int)-s.l.sum).toNat) ⟨by rw[Z];exact Y,λp a b F S=>by rw[Z,F]at S;cases S;exact Int.le_refl _,λd _ h=>by rw[Z];exact h,UB n⟩ ?_
 rintro s ⟨i1,i2,i3,i4⟩;unfold kH.bh;rw[dZ];refine(Oa l m g E i1).mono λr o=>?_
 rw[b9];constructor
 .intro ht;obtain⟨p,k,e,a,q,j,y,b,g1,g2,g3,g4,g5,g6,g7,T,g9,-⟩:=o.2 ht;have B:=(ζe.1 T).1;have I:Sl.setAt s r.1.proc r.1.index=M (s.re (s.l.set q ((j:Int)+1))):=by
   unfold Sl.setAt;rw[g6,L' ⟨f?,by simpa using B⟩];rfl
  have C:(s.re (s.l.set q ((j:Int)+1))).l=s.l.set q ((j:Int)+1):=by cases s<;>first|rfl|(simp[Sl.l]at B)
  simp only;rw[I,ζb,a_];have⟨Q,H,K⟩:=g7;have ad:=(ζe.1 K).1;have b__:=i1.set H (b:=(j:Int)+1) c? c?
  refine⟨⟨by rw[C];exact b__,?_,?_,WA i4 _⟩,?_⟩
  .rw[C];intro p' c__ i u w;rw[C?]at w;split at w
   next e2=>subst e2;simp[B]at w;have:=i2 q c__ b u T;omega
   exact i2 p' c__ i u w
  .rw[C];intro d W L p' c__ i u w;rw[C?]at u;split at u
   .rename_i e2;subst e2;simp[B]at u;have⟨x,v⟩:=W.1.at_ (show p<_l t.a?.l by have:=(ζe.1 g2).1;rw[<-i1.1];exact this)
    have:=i3 d W L p a x g2 v;have⟨z,X,d__⟩:=W.2 p k e x g1 v c? g4
    rw[g5,g6]at X d__;simp only[t!]at X d__;rw[w]at X;cases X;omega
   exact i3 d W L p' c__ i u w
  show((oP t:Int)-(s.re (s.l.set q ((j:Int)+1))).l.sum).toNat<((oP t:Int)-s.l.sum).toNat;have a__:=b__.sum;rw[qa T]at a__;rw[C,qa T];omega
 intro e__;exact(a_ _).2 ((a_ _).2 ⟨_k,⟨i1,o.1 e__⟩,i2,i3,i4⟩)
theorem Tq(a:Small t)(b:cw t=M U)(e:VT t)(f:eG t (bJ t) A){c:Zg}(B:mY t c.l):
 Wp (ve t c) λr=>r.2=0/\Cons t A r.1.l/\yC c.l r.1.l/\(∀d,Cons t A d->yC c.l d->yC r.1.l d)/\r.1.whole=M r.1:=by
 have⟨r,h,u⟩:=Z7 a b e f B;refine⟨r,?_,u⟩;unfold ve;rw[h]
 first|rfl|(simp[u.2.2.2.2,aaZ];done)
theorem Vf(a:Small t)(b:cw t=M U)(e:VT t)(f:eG t (bJ t) A){c:Zg}(B:mY t c.l):Wp (ve t c) λr=>r.2=0/\Cons t A r.1.l/\yC c.l r.1.l/\∀d,Cons t A d->yC c.l d->yC r.1.l d:=(Tq a b e f B).mono λ_ h=>⟨h.1,h.2.1,h.2.2.1,h.2.2.2.1⟩
theorem Ws(g:Small t)(h:cw t=M U)(i:VT t)(j:eG t (bJ t) A){c:Zg}(d:Cons t A c.l){ps:ST}(D:∀r∈ps,r<W t.a?.l)(G:W ps<1073741824):
 dw t (Sl.row [c]:Zb) (Sl.row (ps.map λn:Nat=>(n:Int)):Zg)=M 0:=by
 refine Wp.eq ?_;have u:=d.1.1;unfold dw uW;rw[h,ζb,bq,vO (f:=λz=>(iV z t).getD O) (λz _=>Md.ok ((a_ _).2 trivial)) (by simp[Sl.l]),ζb,ζb,ζb]
 have w:(!((Sl.row [c]:Zb).l.any λz=>(iV z t).getD O))=U:=by simp[Sl.l,iV,len,u]<;>exact _f Int.ofNat u
 rw[w,bq];unfold dw.W1;refine dS 1 (λn s=>s=(n:Int)) Y ?_ ?_
 .rintro n _ B rfl;obtain rfl:n=0:=by omega
  unfold dw.bh;rw[show _r (((0:Nat):Int)<len (Sl.row [c]:Zb))=U from Y,bq,show idx (Sl.row [c]:Zb) ((0:Nat):Int)=M c from Y,ζb,dZ];refine(BO g u).mono λb C=>?_
  rw[C.2 d.1,bq];exact(a_ _).2 rfl
 rintro _ rfl;unfold dw.bh;rw[show _r (((1:Nat):Int)<len (Sl.row [c]:Zb))=O from Y,bz,a_];have a:∀r:Nat,r<W t.a?.l->wT t r=M U:=λr e=>by unfold wT;rw[show _r ((r:Int)>=0)=U from f?,bq,fM e];rfl
 show Wp (dw.W2 (Sl.row [c]) (Sl.row (ps.map λn:Nat=>(n:Int))) (len (Sl.row (ps.map λn:Nat=>(n:Int)))) 0 t) _
 unfold dw.W2;refine dS (W ps) (λn s=>s=(n:Int)) Y ?_ ?_
 .rintro n _ B rfl;unfold dw.bF;have I:idx (Sl.row (ps.map λn:Nat=>(n:Int))) (n:Int)=M ((ps[n]:Nat):Int):=by
   rw[bA (show n<W (Sl.row (ps.map λn:Nat=>(n:Int))).l by simpa[Sl.l]using B)]
   simp[Sl.l]
  rw[show _r ((n:Int)<len (Sl.row (ps.map λn:Nat=>(n:Int))))=U from by simp[len,Sl.l];omega,bq,I,ζb,a _ (D _ (t? B)),ζb,bq]
  exact(a_ _).2 (cm n c?)
 rintro _ rfl;unfold dw.bF;rw[show _r (((W ps:Nat):Int)<len (Sl.row (ps.map λn:Nat=>(n:Int))))=O from by simp[len,Sl.l],bz,a_]
 show Wp (dw.W3 (Sl.row [c]) 1 0 t) _;unfold dw.W3;refine dS 1 (λn s=>s=(n:Int)) Y ?_ ?_
 .rintro n _ B rfl;obtain rfl:n=0:=by omega
  unfold dw.eH;rw[show _r (((0:Nat):Int)<1)=U from Y,bq,show idx (Sl.row [c]:Zb) ((0:Nat):Int)=M c from Y,ζb];unfold yU;rw[dZ,dZ];refine(Hj g h i j d.1).mono λr e=>?_
  rw[a_,e.2 d.2];exact(a_ _).2 rfl
 rintro _ rfl;unfold dw.eH;rw[show _r (((1:Nat):Int)<1)=O from Y,bz,a_];exact(a_ _).2 rfl
theorem Tc(a:Small t)(b:cw t=M U)(d:VT t)(e:eG t (bJ t) A){c:Zg}(f:Cons t A c.l){p q:Nat}(hp:p<W t.a?.l)(B:q<W t.a?.l):
 dw t (Sl.row [c]:Zb) (Sl.row [(p:Int),(q:Int)]:Zg)=M 0:=Ws a b d e f (ps:=[p,q]) (by simp[hp,B]) f?
theorem WC(b:Small t)(c:cw t=M U)(kind m:Int):js t kind m=M (match(bJ t).find? (mW kind m)with|some x=>(x.1,U)|none=>(⟨0,0⟩,O)):=by
 refine Wp.eq ?_;unfold js;rw[c,ζb,bq];unfold kK;rw[ζb];unfold js.E1;rw[vj b,ζb];refine Bc (λk _=>((bJ t).take k).find? (mW kind m)=J) f? ?_ ?_;intro k y _ z u;have w:(bJ t).take (k+1)=(bJ t).take k++[y]:=by rw[P?,z];rfl
 have B:(y.2.kind==kind&&y.2.d?==m)=mW kind m y:=rfl;unfold js.lq;rw[oZ,ζb,B,b9];constructor;intro a;refine(a_ _).2 ((a_ _).2 ?_);have:(bJ t).find? (mW kind m)=M y:=by rw[<-g! (k+1) (bJ t),w,f4,f4,u];simp[a]
 rw[this];intro a;rw[a_,w,f4,u];simp[a];intro _ u;rw[M?]at u;exact(a_ _).2 (by rw[u])
theorem UD(f:Small t)(g:cw t=M U)(h:VT t)(i:eG t (bJ t) A){c:Zg}(d:Cons t A c.l){p q:Nat}(hp:p<_l t.a?.l)(a__:q<_l t.a?.l):
 Wp (jK t c p q) λr=>r.2=0/\(r.1.l.length:Int)=under t c.l p q:=by
 have I:=ζd hp;have⟨a,L⟩:=d.1.at_ hp;have⟨b,C⟩:=d.1.at_ a__;rw[Ij h i d I (ζd a__) L C];have Y:=(f.2 _ (t? hp)).1;have⟨a0,a1⟩:=d.1.2 p a _ L I;generalize Z:t.a?.l[p]=P at *;unfold jK;rw[Tc f g h i d hp a__,ζb,show((0:Int)==0)=U from _k,bq,gm,I,ζb,show idx c (p:Int)=M a from by rw[gm];exact L,ζb]
 have⟨y,X,D⟩:=u_ P.b? a.toNat c?
 rw[show((a.toNat:Nat):Int)=a from c?]at X
 rw[X,ζb,<-D];have H:_l y.l<=_l P.b?.l:=by rw[D,n!];omega
 unfold jK.W1;refine dS (_l y.l) (λn s=>s.2.1=len y/\s.2.2=(n:Int)/\s.1.l.length=(y.l.take n).countP λe=>eo q e&&n5 t c.l e) ⟨_k,_k,_k⟩ ?_ ?_
 .rintro n ⟨o,_,_⟩ w ⟨e1,e2,z⟩;simp only at e1 e2 z;subst e1 e2;have c__:=List.countP_le_length (p:=λe=>eo q e&&n5 t c.l e) (l:=y.l.take n)
  rw[n!]at c__;have u:(y.l.take (n+1)).countP (λe=>eo q e&&n5 t c.l e)=_l o.l+if eo q y.l[n]&&n5 t c.l y.l[n]then 1 else 0:=by rw[P?,ζd w,List.countP_append,z];show _+List.countP _ [y.l[n]]=_;rw[I!,List.countP_nil];simp
  have Q:=cm n c?
  unfold jK.bh;rw[fM w,bq,bA w,ζb];generalize y.l[n]=e at u;have S:(bg (e.kind==2) (M (!(e.k?==(q:Int)))) (M U):aY X')=M (!eo q e):=by unfold eo;cases e.kind==2<;>cases e.k?==(q:Int)<;>rfl
  rw[S,ζb,b9];refine⟨λB=>(a_ _).2 ⟨_k,Q,by rw[u,show eo q e=O from by simpa using B];rfl⟩,λB=>?_⟩
  have B:eo q e=U:=by simpa using B
  unfold wN;rw[WC f g,ζb,ζb];have k:(bg (match(bJ t).find? (mW 3 e.d?)with|some x=>(x.1,U)|none=>((⟨0,0⟩:bf),O)).2 (_n (idx c (match(bJ t).find? (mW 3 e.d?)with|some x=>(x.1,U)|none=>((⟨0,0⟩:bf),O)).1.proc) λT=>M (_r ((match(bJ t).find? (mW 3 e.d?)with|some x=>(x.1,U)|none=>((⟨0,0⟩:bf),O)).1.index>T))) (M U):aY X')=M (n5 t c.l e):=by unfold n5 g_;cases m:(bJ t).find? (mW 3 e.d?)with|none=>rfl|some x=>have⟨b__,j,⟨K,W,_⟩,v⟩:=dU.1 (yO m).1;have G:b__<_l c.l:=(by rw[d.1.1];exact(ζe.1 W).1);simp only[v,bq];rw[bA G,ζb,show((b__:Nat):Int).toNat=b__ from _k,ζd G,show(((j:Int)+1)==0)=O from by simp;omega,Bool.false_or];rfl
  rw[k,ζb,b9];refine⟨λC=>?_,λC=>(a_ _).2 ⟨_k,Q,by rw[u,B,C];rfl⟩⟩
  have⟨r,E,F⟩:=ni (s:=o) (x:=e.d?) c?
  rw[E,ζb,a_];exact⟨_k,Q,by rw[F,u,B,C,ζi];rfl⟩
 rintro⟨o,_,_⟩ ⟨e1,e2,z⟩;simp only at e1 e2 z;subst e1 e2;unfold jK.bh;rw[gp,bz,a_];refine(a_ _).2 ⟨_k,?_⟩;rw[M?]at z;simp only[z]
theorem Ap(a:VT t){p:Nat}{P:bS}(B:t.a?.l[p]?=M P):W P.b?.l<=64:=by have h:=a.ok.heads p (ζe.1 B).1;unfold tI at h;rw[B]at h;simp only at h;split at h;split at h;cases h;split at h;split at h;cases h;omega;rename_i u;exact _e h u;cases h
theorem Hp(a:VT t):oP t<=512:=by
 have key:∀l:aX bS,(∀P∈l,W P.b?.l<=64)->(l.map λP=>W P.b?.l).sum<=64*W l:=by intro l;induction l with|nil=>intro _;simp|cons P l u=>intro h;have b:=h P (F! ..);have C:=u λQ w=>h Q (B? _ w);simp only[J?,z!,U?];omega
 have:=key t.a?.l λP z=>by have⟨p,B⟩:=List.mem_iff_getElem?.1 z;exact Ap a B
 have:=a.few;unfold oP;omega
theorem OF(a:VT t):oP t<1073741824:=by have:=Hp a;omega
end
abbrev mE(m:aY Bool)(P:Prop):Prop:=Wp m λb=>(b=U↔P)
theorem mE.eq{m:aY X'}{P:Prop}(h:mE m P):∃b,m=M b/\(b=U↔P):=h
theorem mE.iff{m:aY X'}{P Q:Prop}(h:mE m P)(e:P↔Q):mE m Q:=h.mono λb u=>u.trans e
theorem DY{b:X'}{P:Prop}(h:b=U↔P):mE (M b) P:=(a_ _).2 h
theorem mE.some{m:aY X'}{P:Prop}(h:mE m P):mE (m.bind λx=>Option.some x) P:=by have⟨b,u,h⟩:=h;rw[u];exact DY h
theorem mE.same{m n:aY X'}{P:Prop}(h:mE m P)(k:mE n P):∃b,m=Option.some b/\n=Option.some b/\(b=U↔P):=by
 obtain⟨b,u,h⟩:=h;obtain⟨d,hd,k⟩:=k;have:b=d:=by rw[Bool.eq_iff_iff,h,k]
 subst this;exact⟨b,u,hd,h⟩
theorem mE.and{m n:aY X'}{P Q:Prop}(h:mE m P)(k:P->mE n Q){f:X'->aY X'}(B:∀b,f b=bg b (n.bind λx=>Option.some x) (Option.some O)):mE (m.bind f) (P/\Q):=by have⟨b,u,h⟩:=h;rw[u,ζb,B];cases b with|true=>exact((k (h.1 rfl)).some).iff ⟨λq=>⟨h.1 rfl,q⟩,λq=>q.2⟩|false=>exact DY ⟨λe=>(nomatch e),λq=>(h.2 q.1).symm▸rfl⟩
theorem VR{step:Int->aY (Fw Int Unit Unit)}{n:Nat}{P:Nat->Prop}(h:∀i,i<n->(∀j,j<i->P j)->Wp (step (i:Int)) λw=>P i/\w=.n ((i+1:Nat):Int)\/¬P i/\w=.r ())(B:(∀j,j<n->P j)->step (n:Int)=M (.x ())):
 Wp (bG step 0) λw=>(∀i,i<n->P i)/\w=.x ()\/(¬∀i,i<n->P i)/\w=.r ():=by
 have key:∀m k,k+m=n->(∀j,j<k->P j)->Wp (bG step (k:Int)) λw=>(∀i,i<n->P i)/\w=.x ()\/(¬∀i,i<n->P i)/\w=.r ():=by intro m;induction m with|zero=>intro k b u;have:k=n:=c?;subst this;rw[eF,B u,ζb];exact(a_ _).2 (.inl ⟨u,Y⟩)|succ m C=>intro k b u;rw[eF,dZ];refine(h k c? u).mono ?_;rintro w (⟨a,rfl⟩|⟨a,rfl⟩);exact C (k+1) c? λj z=>(by rcases Nat.lt_or_eq_of_le (Nat.lt_succ_iff.1 z)with z|rfl;exact u j z;exact a);exact(a_ _).2 (.inr ⟨λk2=>a (k2 k c?),Y⟩)
 exact key n 0 c? λj z=>_e z c?
theorem Sd{step:Int->aY (Fw Int Unit Unit)}{n:Nat}{P:Nat->Prop}(h:∀i,i<n->(∀j,j<i->P j)->Wp (step (i:Int)) λw=>P i/\w=.n ((i+1:Nat):Int)\/¬P i/\w=.r ())(B:(∀j,j<n->P j)->step (n:Int)=M (.x ())):
 mE (H (bG step 0) (Fw.elim (λ_=>M U) (λ_=>M O))) (∀i,i<n->P i):=by
 rw[mE,dZ];refine(VR h B).mono ?_;rintro w (⟨a,rfl⟩|⟨a,rfl⟩)
 .exact DY ⟨λ_=>a,λ_=>rfl⟩
 exact DY ⟨λe=>(nomatch e),λu=>_e u a⟩
theorem R8{b:X'}{P:Prop}{n:Int}{k:Nat}(h:b=U↔¬P)(B:n=((k+1:Nat):Int)):Wp (bg b (M (.r ())) (M (.n n))) λw:Fw Int Unit Unit=>P/\w=.n ((k+1:Nat):Int)\/¬P/\w=.r ():=by cases b with|true=>exact(a_ _).2 (.inr ⟨h.1 rfl,Y⟩)|false=>exact(a_ _).2 (.inl ⟨I? λq=>(nomatch h.2 q),by rw[B]⟩)
def dc(a b:SW):Prop:=W a=W b/\∀(p:Nat)(x y:Int),a[p]?=M x->b[p]?=M y->x<=y
theorem abV{a b:SW}(B:W a=W b):(∀i,i<W a->∀x y,a[i]?=M x->b[i]?=M y->x<=y)↔dc a b:=⟨λh=>⟨B,λp x y u w=>h p (ζe.1 u).1 x y u w⟩,λh i _ x y u w=>h.2 i x y u w⟩
theorem ZG{a b:Zg}(d:W a.l<1073741824){step:Int->aY (Fw Int Unit Unit)}
 (G:∀i,step i=bg (_r (i<len a)) (H (idx a i) λB=>H (idx b i) λD=>bg (_r (B>D)) (M (.r ())) (M (.n (w? N (i+1))))) (M (.x ()))):
 mE (bg ((len a)==(len b)) (H (bG step 0) (Fw.elim (λ_=>M U) (λ_=>M O))) (M O)) (dc a.l b.l):=by
 by_cases u:W a.l=(W b.l)
 .rw[show((len a)==(len b))=U from by simp[len,u],bq]
  refine(Sd (n:=W a.l) (P:=λi=>∀x y,a.l[i]?=M x->b.l[i]?=M y->x<=y) ?_ ?_).iff (abV u)
  .intro i hi _;have w:i<W b.l:=by omega
   rw[G,fM hi,bq,bA hi,ζb,bA w,ζb];refine R8 ?_ (cm i c?)
   rw[_g];constructor
   .intro h k;have:=k _ _ (ζd hi) (ζd w);omega
   intro h;refine I? λI=>h λx y z C=>?_
   rw[ζd hi]at z;rw[ζd w]at C;cases z;cases C;omega
  intro _;rw[G,gp,bz]
 rw[show((len a)==(len b))=O from by simp[len];omega,bz]
 exact DY ⟨λe=>(nomatch e),λh=>_e h.1 u⟩
theorem abW{a b:Zg}(B:W a.l<1073741824):mE (pG a b) (dc a.l b.l):=ZG B λi=>rfl
section
variable{t:Z4}{A:b_ 200 bu}
theorem Qe(a:Small t)(b:cw t=M U)(d:VT t)(e:eG t (bJ t) A)(c:Zg):mE (tw t c) (Cons t A c.l):=by obtain⟨r,f,h⟩:=VO a b d e c;unfold tw;rw[f,ζb];exact DY (by rw[_i,h];exact Iff.rfl)
def qb(g:Int->Int->Int)(a b c:SW):Prop:=W c=W a/\∀(p:Nat)(x y:Int),a[p]?=M x->b[p]?=M y->c[p]?=M (g x y)
def Db(x y:Int):Int:=if y>x then y else x
def iY(x y:Int):Int:=if y<x then y else x
theorem qb.of(g:Int->Int->Int){a b:SW}(h:W a=W b):qb g a b (u! g a b):=⟨by simp[h],λp x y u w=>by rw[List.getElem?_zipWith,u,w]⟩
theorem qb.at_{g:Int->Int->Int}{a b c:SW}(h:qb g a b c)(D:W a=W b){p:Nat}{z:Int}(B:c[p]?=M z):∃x y,a[p]?=M x/\b[p]?=M y/\z=g x y:=by
 have u:p<W a:=by rw[<-h.1];exact(ζe.1 B).1
 refine⟨a[p],b[p]' c?,ζd u,ζd c?,?_⟩;have:=h.2 p _ _ (ζd u) (ζd (show p<W b by omega));rw[B]at this;cases this;rfl
theorem wv(x y:Int):(Db x y=x/\y<=x)\/(Db x y=y/\x<=y):=by unfold Db;split<;>omega
theorem v_(x y:Int):(iY x y=x/\x<=y)\/(iY x y=y/\y<=x):=by unfold iY;split<;>omega
theorem join_cons{a b c:SW}(B:Cons t A a)(D:Cons t A b)(h:qb Db a b c):Cons t A c:=by have L:W a=W b:=B.1.1.trans D.1.1.symm;refine⟨⟨h.1.trans B.1.1,λp z P C o=>?_⟩,λp k e z Q C f w=>?_⟩;obtain⟨x,y,G,I,rfl⟩:=h.at_ L C;have i:=B.1.2 p x P G o;have m:=D.1.2 p y P I o;rcases wv x y with⟨e,_⟩|⟨e,_⟩<;>rw[e]<;>assumption;obtain⟨x,y,G,I,rfl⟩:=h.at_ L C;rcases wv x y with⟨S,_⟩|⟨S,_⟩<;>rw[S]at f;have⟨u,d,j⟩:=B.2 p k e x Q G f w;have T:=(ζe.1 d).1;have g:=ζd (show(ag A e.d?).from_.proc.toNat<W b by omega);exact⟨_,h.2 _ _ _ d g,by rcases wv u b[(ag A e.d?).from_.proc.toNat]with⟨e2,_⟩|⟨e2,_⟩<;>rw[e2]<;>omega⟩;have⟨u,d,j⟩:=D.2 p k e y Q I f w;have T:=(ζe.1 d).1;have g:=ζd (show(ag A e.d?).from_.proc.toNat<W a by omega);exact⟨_,h.2 _ _ _ g d,by rcases wv a[(ag A e.d?).from_.proc.toNat] u with⟨e2,_⟩|⟨e2,_⟩<;>rw[e2]<;>omega⟩
theorem Cq{a b c:SW}(B:Cons t A a)(D:Cons t A b)(h:qb iY a b c):Cons t A c:=by
 have Q:W a=W b:=B.1.1.trans D.1.1.symm;refine⟨⟨h.1.trans B.1.1,λp z P C S=>?_⟩,λp k e z T C g w=>?_⟩;obtain⟨x,y,G,I,rfl⟩:=h.at_ Q C;have i:=B.1.2 p x P G S;have X:=D.1.2 p y P I S;rcases v_ x y with⟨e,_⟩|⟨e,_⟩<;>rw[e]<;>assumption;obtain⟨x,y,G,I,rfl⟩:=h.at_ Q C;have j:(k:Int)<x:=by rcases v_ x y with⟨L,_⟩|⟨L,_⟩<;>omega
 have o:(k:Int)<y:=by rcases v_ x y with⟨L,_⟩|⟨L,_⟩<;>omega
 have⟨u,d,q⟩:=B.2 p k e x T G j w;have⟨v,f,m⟩:=D.2 p k e y T I o w;exact⟨_,h.2 _ _ _ d f,by rcases v_ u v with⟨e2,_⟩|⟨e2,_⟩<;>rw[e2]<;>omega⟩
theorem dc.trans{a b c:SW}(h:dc a b)(k:dc b c):dc a c:=by
 refine⟨h.1.trans k.1,λp x z u w=>?_⟩;have B:p<W b:=by rw[<-h.1];exact(ζe.1 u).1
 have e:=ζd B;exact Int.le_trans (h.2 p x _ u e) (k.2 p _ z e w)
theorem dc.refl(a:SW):dc a a:=⟨Y,λp x y w u=>by rw[w]at u;cases u;exact Int.le_refl _⟩
theorem qb.le_max{a b c:SW}(h:qb Db a b c)(D:W a=W b):dc a c/\dc b c/\∀d,dc a d->dc b d->dc c d:=by refine⟨⟨h.1.symm,λp x z G u=>?_⟩,⟨D.symm.trans h.1.symm,λp y z I u=>?_⟩,λd g i=>⟨h.1.trans g.1,λp z w u L=>?_⟩⟩;obtain⟨Q,y,B,I,rfl⟩:=h.at_ D u;rw[G]at B;cases B;rcases wv x y with⟨e2,_⟩|⟨e2,_⟩<;>rw[e2]<;>omega;obtain⟨x,S,G,C,rfl⟩:=h.at_ D u;rw[I]at C;cases C;rcases wv x y with⟨e2,_⟩|⟨e2,_⟩<;>rw[e2]<;>omega;obtain⟨x,y,G,I,rfl⟩:=h.at_ D u;have e:=g.2 p x w G L;have T:=i.2 p y w I L;rcases wv x y with⟨e2,_⟩|⟨e2,_⟩<;>rw[e2]<;>assumption
theorem qb.le_min{a b c:SW}(h:qb iY a b c)(D:W a=W b):dc c a/\dc c b/\∀d,dc d a->dc d b->dc d c:=by refine⟨⟨h.1,λp z x u G=>?_⟩,⟨h.1.trans D,λp z y u I=>?_⟩,λd g i=>⟨g.1.trans h.1.symm,λp w z L u=>?_⟩⟩;obtain⟨Q,y,B,I,rfl⟩:=h.at_ D u;rw[G]at B;cases B;rcases v_ x y with⟨e2,_⟩|⟨e2,_⟩<;>rw[e2]<;>omega;obtain⟨x,S,G,C,rfl⟩:=h.at_ D u;rw[I]at C;cases C;rcases v_ x y with⟨e2,_⟩|⟨e2,_⟩<;>rw[e2]<;>omega;obtain⟨x,y,G,I,rfl⟩:=h.at_ D u;have e:=g.2 p w x L G;have T:=i.2 p w y L I;rcases v_ x y with⟨e2,_⟩|⟨e2,_⟩<;>rw[e2]<;>assumption
theorem qb.one{g:Int->Int->Int}{a b c d:SW}(h:qb g a b c)(k:qb g a b d)(B:W a=W b):c=d:=by refine X! λp=>?_;by_cases u:p<W a;rw[h.2 p _ _ (ζd u) (ζd c?),k.2 p _ _ (ζd u) (ζd c?)];rw[G! (by rw[h.1];omega),G! (by rw[k.1];omega)]
def jQ(l:Sl X')(i:Nat):X':=(l.l[i]?).getD O
def trc(L:aX SW)(l:Sl X')(c:SW):X':=jQ l (L.idxOf c)
theorem H_{l:Sl X'}{i:Nat}(h:i<W l.l):idx l (i:Int)=M (jQ l i):=by rw[gm,ζd h];unfold jQ;rw[ζd h];rfl
def Td(L:aX SW)(l:Sl X')(F:SW->SW->X')(i k:Nat):Prop:=∀a b,L[i]?=M a->L[k]?=M b->jQ l i=U->jQ l k=U->F a b=U
def aeI(L:aX SW)(l:Sl X')(F:SW->SW->X')(i k:Nat)(a b:SW):Prop:=i<k/\L[i]?=M a/\L[k]?=M b/\jQ l i=U/\jQ l k=U/\F a b=O/\(∀u,i<u->u<k->Td L l F i u)/\∀w u,w<i->w<u->Td L l F w u
theorem adZ {c:aX Int}:∀{l:aX (Sl Int)},c∈l.map Sl.l->place (λd=>decide (c=d.l)) l=((l.map Sl.l).idxOf c:Int):=by
 intro l h;have key:∀l:aX (Sl Int),c∈l.map Sl.l->l.findIdx? (λd=>decide (c=d.l))=some ((l.map Sl.l).idxOf c):=by
  intro l
  induction l with
  | nil=>intro h;simp at h
  | cons x l u=>
   intro h;rw[List.findIdx?_cons,List.map_cons,List.idxOf_cons]
   by_cases e:c=x.l
   .rw[_c e,show (x.l==c)=true from by simpa using e.symm];rfl
   rw[_b e,show (x.l==c)=false from beq_eq_false_iff_ne.2 λk=>e k.symm]
   rw[List.map_cons]at h;rw[u ((List.mem_cons.1 h).resolve_left e)];rfl
 unfold place;rw[key l h]
theorem sN{L:aX SW}(h:L.Nodup){i:Nat}{c:SW}(a:L[i]?=M c):L.idxOf c=i:=by have⟨b,e⟩:=ζe.1 a;rw[<-e];exact Nodup.idxOf_getElem h i b
theorem rM{L:aX SW}{c:SW}(h:c∈L):L[L.idxOf c]?=M c:=by have a:=List.idxOf_lt_length_of_mem h;rw[ζd a,List.getElem_idxOf]
theorem qb.zip{g:Int->Int->Int}{a b c:SW}(h:qb g a b c)(B:W a=W b):c=u! g a b:=by refine h.one ⟨by simp[B],λp x y u w=>?_⟩ B;rw[List.getElem?_zipWith,u,w]
def ae9(L:aX SW)(l:Sl X')(a b:SW):X':=trc L l (u! iY a b)
def ae_(L:aX SW)(l:Sl X')(a b:SW):X':=trc L l (u! Db a b)
end
def yB(L:aX SW)(c:SW):ST:=(w! (W c)).filterMap λp=>if bump c p 1∈L then M (L.idxOf (bump c p 1))else J
theorem uM{c:SW}{p:Nat}{d:Int}:W (bump c p d)=W c:=by unfold bump;simp
theorem Wg{c:SW}{p:Nat}(h:p<W c):(bump c p 1).sum=c.sum+1:=by unfold bump;have a:c[p]?=M c[p]:=ζd h;rw[qa a,a];simp;omega
theorem DB{L:aX SW}{c:SW}{k:Nat}:k∈yB L c↔∃p,p<W c/\bump c p 1∈L/\k=L.idxOf (bump c p 1):=by
 unfold yB;rw[List.mem_filterMap];constructor;rintro⟨p,u,h⟩;split at h;next w=>cases h;exact⟨p,mem_range.1 u,w,Y⟩
 cases h;rintro⟨p,u,w,rfl⟩;exact⟨p,mem_range.2 u,by rw[L' w]⟩
section
variable{t:Z4}{A:b_ 200 bu}{L:aX SW}
theorem dP.nodup(h:dP t A L):L.Nodup:=fH.nodup h.srt
theorem dP.lt(h:dP t A L){i k:Nat}{c d:SW}(b:L[i]?=M c)(a:L[k]?=M d)(B:c.sum<d.sum):i<k:=by rcases Nat.lt_trichotomy i k with g|g|g;exact g;subst g;rw[b]at a;cases a;omega;obtain⟨u,rfl⟩:=ζe.1 b;obtain⟨w,rfl⟩:=ζe.1 a;exact _e ((List.pairwise_iff_getElem.1 h.srt k i w u g).tr (fH.sum B)) (fH.Tf _)
theorem LL(h:dP t A L){i k:Nat}{c:SW}(a:L[i]?=M c)(b:k∈yB L c):i<k/\k<W L:=by obtain⟨p,w,u,rfl⟩:=DB.1 b;exact⟨h.lt a (rM u) (by rw[Wg w];omega),List.idxOf_lt_length_of_mem u⟩
theorem dP.len(h:dP t A L){c:SW}(a:c∈L):W c=W t.a?.l:=((h.mem _).1 a).1.1
end
section
variable{L:aX SW}{f:Nat->X'}
inductive Rc(L:List (List Int))(f:Nat->Bool):Nat->Prop
 |zero:Rc L f 0|step{i k:Nat}{c:List Int}:Rc L f i->f i=false->L[i]?=some c->k∈yB L c->Rc L f k
def ab8(L:aX SW):Prop:=∀(i k:Nat)c,L[i]?=M c->k∈yB L c->i<k/\k<W L
open Classical in
end
theorem SS{a b:Zg}(B:W a.l<1073741824):oc a b=M (_r (a.l=b.l)):=(rfl:oc a b=eD a b).trans (CO B)
def ps(L:aX SW)(c:SW)(n:Nat):ST:=(w! n).filter λp=>_r (bump c p 1∈L)
theorem DM{c:SW}{p:Nat}{a:Int}(h:c[p]?=M a):bump c p 1=c.set p (a+1):=by unfold bump;rw[h];rfl
section
variable{t:Z4}{A:b_ 200 bu}{L:aX SW}
theorem Ya(a:Small t)(b:VT t){c:Zg}(e:Cons t A c.l){p:Nat}(hp:p<W c.l):∃d:Zg,tR c (p:Int)=M d/\d.l=bump c.l p 1:=by have w:=Du a b e;have I:=w.1;have z:=ζd hp;have B:=w.2 c.l[p] (t? hp);unfold tR;have⟨r,C,u⟩:=zg (s:=Sl.row []) (x:=c) (show 0+W c.l<=_ by omega);have u:r.l=c.l:=u;rw[C,ζb,rA (by rw[u];exact hp),ζb];unfold Sl.get;rw[u,z,ζb,ζb,fJ _ c? c?];have⟨d,D,G⟩:=put_eq (s:=r) (p:=p) (x:=c.l[p]+1) (by rw[u];exact hp);rw[D];exact⟨d,Y,by rw[G,u,DM z]⟩
theorem ab8.of(B:dP t A L):ab8 L:=λ_ _ _ h k=>LL B h k
end
end Go.VE
namespace Go.VE
end Go.VE
namespace Go.VE
end Go.VE
namespace Go.VE
section
variable{L:aX SW}{f:Nat->X'}
inductive Sg(L:List (List Int))(f:Nat->Bool):Nat->Prop
 |last:f (L.length-1)=false->Sg L f (L.length-1)|step{i k:Nat}{c:List Int}:f i=false->L[i]?=some c->k∈yB L c->Sg L f k->Sg L f i
theorem Sg.no{i:Nat}(h:Sg L f i):f i=O:=by cases h<;>assumption
end
section
variable{t:Z4}{A:b_ 200 bu}{L:aX SW}
end
end Go.VE
namespace Go.VE
theorem rT{a b:Zb}(h:ins a=ins b)(B:∀x∈ins a,W x<1073741824)(D:W a.l<1073741824):kJ a b=M U:=by
 have w:W b.l=W a.l:=by rw[<-iQ,<-h,iQ]
 unfold kJ;rw[show(len a==len b)=U from by simp[len,w],bq];refine Wp.eq ?_;unfold kJ.W1;refine dS (W a.l) (λi(q:Int)=>q=(i:Int)) Y ?_ ?_;rintro i _ c rfl;have u:i<W b.l:=by omega
 have e:a.l[i].l=b.l[i].l:=by have d:=rB c;rw[h,rB u]at d;exact(Option.some.inj d).symm
 unfold kJ.bh;rw[fM c,bq,bA c,ζb,bA u,ζb,SS (B _ (oV.2 ⟨_,t? c,Y⟩)),ζb,_c e,bq,a_];exact cm i c?;rintro _ rfl;unfold kJ.bh;rw[gp,bz,a_];exact(a_ _).2 rfl
theorem UA{κ ν:Type}[DecidableEq κ]{m:Mo κ ν}{k B:κ}{v z:ν}:pW (nO m k v) B z=if B=k then v else pW m B z:=by unfold pW;induction m with|nil=>unfold nO mj;by_cases h:B=k<;>simp[h,mj]|cons a m C=>have⟨a,w⟩:=a;unfold nO;by_cases h:k=a;subst h;rw[L' Y];by_cases u:B=k;simp[mj,u];simp[mj,u];rw[M' h];by_cases u:B=a;have:B≠k:=λe=>h (e▸u);simp[mj,u,Ne.symm h];simp only[mj,M' u];exact C
theorem IA:∀(l:SW)(r:U'),(l.foldl (λr n=>r.push (H3 n.toNat)) r).data.toList=r.data.toList++l.map λn=>H3 n.toNat
 |[],r=>f?|a::l,r=>by rw[List.foldl_cons,IA l];show(r.data.push _).toList++_=_;simp
theorem I_(l:SW):(oA l).data.toList=l.map λn=>H3 n.toNat:=by unfold oA;rw[IA];rfl
def FL(l:SW):Prop:=∀x∈l,0<=x/\x<256
theorem abv{a b:Int}(B:0<=a/\a<256)(D:0<=b/\b<256)(h:H3 a.toNat=H3 b.toNat):a=b:=by have:=_f UInt8.toNat h;simp[UInt8.toNat_ofNat']at this;omega
theorem KM:∀{a b:SW},FL a->FL b->(a.map λn=>H3 n.toNat)=(b.map λn=>H3 n.toNat)->a=b
 |[],[],_,_,_=>rfl|[],_::_,_,_,h=>by simp at h|_::_,[],_,_,h=>by simp at h|x::a,y::b,D,G,h=>by simp only[J?,List.cons.injEq]at h;rw[abv (D x f?) (G y f?) h.1,KM (λz B=>D z (B? _ B)) (λz B=>G z (B? _ B)) h.2]
theorem Lc{a b:SW}(B:FL a)(D:FL b)(h:oA a=oA b):a=b:=KM B D (by rw[<-I_,<-I_,h])
section
variable{t:Z4}{A:b_ 200 bu}{L:aX SW}
theorem zB(b:VT t){c:SW}(a:Cons t A c):FL c:=λx z=>by
 obtain⟨p,w,rfl⟩:=mem_iff_getElem.1 z;have u:p<W t.a?.l:=by rw[<-a.1.1];exact w
 have d:=a.1.2 p _ _ (ζd w) (ζd u);have B:=Ap b (ζd u);omega
end
end Go.VE
