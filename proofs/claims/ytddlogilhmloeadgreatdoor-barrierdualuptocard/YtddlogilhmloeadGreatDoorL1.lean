/- The plain law. -/
import Derived.Test.YtddlogilhmloeadGreatDoorK1
import Derived.Test.YtddlogilhmloeadGreatDoorG1
set_option linter.all false
open Option renaming some→M,some→_h,none→G,none→_n,bind→H,bind→_l
open Bool renaming true→O,true→_k,false→U,false→_m
open Decidable renaming decide→_p
open List renaming length→W,length→_j
open Go.IntKind renaming i64→Z,i64→_o
open List renaming append_nil→J!,countP_cons→c5,drop_eq_getElem_cons→Y?,drop_of_length_le→K!,ext_getElem?→Z!,finRange→V!,find?_append→e8,find?_eq_none→i8,getElem?_eq_none→j!,getElem?_map→Q?,getElem?_replicate→P!,getElem?_set→D?,getElem?_take→I?,getElem_mem→t?,length_cons→Z?,length_set→z6,length_singleton→X?,length_take→C!,mapM_cons→d7,map_append→o!,map_cons→P?,map_nil→Y!,mem_append→M!,mem_append_left→A!,mem_cons→n8,mem_cons_of_mem→C?,mem_cons_self→Q!,mem_of_getElem?→s?,mem_of_mem_take→K?,mem_singleton→d!,pairwise_map→f4,range→B!,range'→C',replicate→w?,sum_cons→F!,sum_nil→m6,take_add_one→a!,take_append_drop→i!,take_length→H?,take_of_length_le→O?,zipWith→H5
open Option renaming bind_eq_bind→R!,getD_some→O!,map_some→B?,pure_def→d6
open Go.IntKind renaming wrap→y?
open Nat renaming le_refl→z?,zero_le→V?
open Bool renaming false_eq_true→v?,not_eq_true'→e!,or_eq_false_iff→l!,or_eq_true→g!
open ByteArray renaming toList→S?
open Classical renaming byContradiction→L?
open Int renaming toNat_natCast→u!
open List(Nodup Pairwise all_eq_true map_map mem_iff_getElem mem_map mem_range pairwise_append pairwise_cons)
open Option(getD_none)
open Nat(le)
open Nat(le)
open Nat(le)
open Nat(le)
open Relation(TransGen)
open Nat(le)
open Int(ofNat toNat)
namespace Go.VE
theorem r?{p:Prop}(h:p:=by kernel_rfl):p:=h
instance:bY Assign where
 wt x:=bY.wt x.var+bY.wt x.value+1
 ok x:=bY.ok x.var/\bY.ok x.value/\True
instance:bY WF where
 wt x:=bY.wt x.kind+bY.wt x.k?+bY.wt x.d?+bY.wt x.time+bY.wt x.assign+1
 ok x:=bY.ok x.kind/\bY.ok x.k?/\bY.ok x.d?/\bY.ok x.time/\bY.ok x.assign/\True
instance:bY Var where
 wt x:=bY.wt x.name+bY.wt x.init_+1
 ok x:=bY.ok x.name/\bY.ok x.init_/\True
instance:bY bU where
 wt x:=bY.wt x.name+bY.wt x.i?+bY.wt x.b?+1
 ok x:=bY.ok x.name/\bY.ok x.i?/\bY.ok x.b?/\True
instance:bY Z4 where
 wt x:=bY.wt x.a?+1
 ok x:=bY.ok x.a?/\True
instance:bY Span where
 wt x:=bY.wt x.proc+bY.wt x.from_+bY.wt x.to_+1
 ok x:=bY.ok x.proc/\bY.ok x.from_/\bY.ok x.to_/\True
instance:bY Answer where
 wt x:=bY.wt x.mode+bY.wt x.holds+bY.wt x.kind+bY.wt x.cut+bY.wt x.cuts+bY.wt x.run+bY.wt x.spans+bY.wt x.value+1
 ok x:=bY.ok x.mode/\bY.ok x.holds/\bY.ok x.kind/\bY.ok x.cut/\bY.ok x.cuts/\bY.ok x.run/\bY.ok x.spans/\bY.ok x.value/\True
instance:bY bR where
 wt x:=bY.wt x.low+bY.wt x.high+1
 ok x:=bY.ok x.low/\bY.ok x.high/\True
instance:bY bA where
 wt x:=bY.wt x.t+bY.wt x.l+bY.wt x.next+1
 ok x:=bY.ok x.t/\bY.ok x.l/\bY.ok x.next/\True
instance:bY bX where
 wt x:=bY.wt x.t+bY.wt x.counts+bY.wt x.values+1
 ok x:=bY.ok x.t/\bY.ok x.counts/\bY.ok x.values/\True
instance:bY AY where
 wt x:=bY.wt x.x+bY.wt x.y+bY.wt x.signed+bY.wt x.code+1
 ok x:=bY.ok x.x/\bY.ok x.y/\bY.ok x.signed/\bY.ok x.code/\True
mutual
def Pred.wtR:T'->Nat
 |⟨f0,f1,B,D,J,f5⟩=>bY.wt f0+bY.wt f1+bY.wt B+bY.wt D+bY.wt J+Pred.XD f5+1
def Pred.XD:Sl T'->Nat
 |.nil=>1|.emp=>1|.row l=>Pred.KI l+1|.part l=>Pred.KI l+1
def Pred.KI:aX T'->Nat
 |[]=>0|x::r=>Pred.wtR x+Pred.KI r
end
mutual
def Pred.okR:T'->Prop
 |⟨f0,f1,B,D,J,f5⟩=>bY.ok f0/\bY.ok f1/\bY.ok B/\bY.ok D/\bY.ok J/\Pred.okS f5/\True
def Pred.okS:Sl T'->Prop
 |.nil=>True|.emp=>False|.row l=>Pred.Xp l|.part l=>Pred.Xp l
def Pred.Xp:aX T'->Prop
 |[]=>True|x::r=>Pred.okR x/\Pred.Xp r
end
instance:bY T' where
 wt:=Pred.wtR
 ok:=Pred.okR
theorem Pred.HE:∀l:aX T',Pred.KI l=(l.map bY.wt).sum
 |[]=>rfl|x::r=>by simp only[Pred.KI,P?,F!,Pred.HE r];rfl
theorem Pred.wtE(s:Sl T'):Pred.XD s=bY.wt s:=by cases s with|nil=>rfl|emp=>rfl|row l=>show Pred.KI l+1=(l.map bY.wt).sum+1;rw[Pred.HE]|part l=>show Pred.KI l+1=(l.map bY.wt).sum+1;rw[Pred.HE]
theorem Pred.Ih:∀l:aX T',(∀x∈l,bY.ok x)->Pred.Xp l
 |[],_=>trivial|x::r,h=>⟨h x (Q! ..),Pred.Ih r λy B=>h y (C? _ B)⟩
theorem Pred.okE(s:Sl T')(h:bY.ok s):Pred.okS s:=by cases s with|nil=>trivial|emp=>exact h.2 rfl|row l=>exact Pred.Ih l h.1|part l=>exact Pred.Ih l h.1
end Go.VE
namespace Go.VE.YtddlogilhmloeadGreatDoor
open Go.Proofs Go.Proofs.YtddlogilhmloeadGreatDoor
instance rd9:Reads Tryz.prog 9 U':=Reads.str Tryz.underlying9 r?
instance rd3:Reads Tryz.prog 3 Int:=Reads.int Tryz.underlying3 r?
instance aeu:Reads Tryz.prog 59 Var:=by refine Reads.st Tryz.underlying59 r? Y ?_;intro m enc w j? a c u cs l I h;simp only[d7,List.mapM_nil,d6,R!,ζg,ζa]at h;obtain⟨z,J,L,⟨B,e,i,rfl,rfl⟩,rfl⟩:=h;have⟨a0,C,k0,Q⟩:=Reads.rd (P:=Tryz.prog) (t:=9) (α:=U') (d:=z.1) (ps:=z.2) J;rw[show Tryz.prog.cellsOf 9=1 from by kernel_rfl]at C;have⟨a1,D,k1,S⟩:=Reads.rd (P:=Tryz.prog) (t:=3) (α:=Int) (d:=B.1) (ps:=B.2) e;rw[show Tryz.prog.cellsOf 3=1 from by kernel_rfl]at D;refine⟨⟨a0,a1⟩,gb.fin (n:=2) (gb.seg (o:=1) (n:=1) (gb.seg (o:=0) (n:=1) (show gb (snap w) [] (cs.take 0)from by simpa using gb.nil) C) D) I,⟨k0,k1,trivial⟩,λb g=>?_⟩;have T:=Q b g;have j:=S b g;show bY.wt a0+bY.wt a1+1<=_;simp only[P?,Y!,F!,m6];omega
instance aeB:Reads Tryz.prog 48 (Sl Var):=Reads.sl (e:=59) Tryz.underlying48 r? (by decide)
instance aet:Reads Tryz.prog 117 Assign:=by refine Reads.st Tryz.underlying117 r? Y ?_;intro m enc w j? a c u cs l I h;simp only[d7,List.mapM_nil,d6,R!,ζg,ζa]at h;obtain⟨z,J,L,⟨B,e,i,rfl,rfl⟩,rfl⟩:=h;have⟨a0,C,k0,Q⟩:=Reads.rd (P:=Tryz.prog) (t:=3) (α:=Int) (d:=z.1) (ps:=z.2) J;rw[show Tryz.prog.cellsOf 3=1 from by kernel_rfl]at C;have⟨a1,D,k1,S⟩:=Reads.rd (P:=Tryz.prog) (t:=3) (α:=Int) (d:=B.1) (ps:=B.2) e;rw[show Tryz.prog.cellsOf 3=1 from by kernel_rfl]at D;refine⟨⟨a0,a1⟩,gb.fin (n:=2) (gb.seg (o:=1) (n:=1) (gb.seg (o:=0) (n:=1) (show gb (snap w) [] (cs.take 0)from by simpa using gb.nil) C) D) I,⟨k0,k1,trivial⟩,λb g=>?_⟩;have T:=Q b g;have j:=S b g;show bY.wt a0+bY.wt a1+1<=_;simp only[P?,Y!,F!,m6];omega
instance aew:Reads Tryz.prog 44 (Sl Assign):=Reads.sl (e:=117) Tryz.underlying44 r? (by decide)
instance aez:Reads Tryz.prog 46 WF:=by refine Reads.st Tryz.underlying46 r? _i ?_;intro H enc w j? a c z cs l W h;simp only[d7,List.mapM_nil,d6,R!,ζg,ζa]at h;obtain⟨B,X,Y,⟨C,e,c__,⟨x2,f,r,⟨D,g,s,⟨N,i,v,rfl,rfl⟩,rfl⟩,rfl⟩,rfl⟩,rfl⟩:=h;have⟨a0,I,k0,j⟩:=Reads.rd (P:=Tryz.prog) (t:=3) (α:=Int) (d:=B.1) (ps:=B.2) X;rw[show Tryz.prog.cellsOf 3=1 from by kernel_rfl]at I;have⟨a1,J,k1,k⟩:=Reads.rd (P:=Tryz.prog) (t:=3) (α:=Int) (d:=C.1) (ps:=C.2) e;rw[show Tryz.prog.cellsOf 3=1 from by kernel_rfl]at J;have⟨L,a__,k2,m⟩:=Reads.rd (P:=Tryz.prog) (t:=3) (α:=Int) (d:=x2.1) (ps:=x2.2) f;rw[show Tryz.prog.cellsOf 3=1 from by kernel_rfl]at a__;have⟨Q,S,k3,p⟩:=Reads.rd (P:=Tryz.prog) (t:=3) (α:=Int) (d:=D.1) (ps:=D.2) g;rw[show Tryz.prog.cellsOf 3=1 from by kernel_rfl]at S;have⟨T,b__,k4,q⟩:=Reads.rd (P:=Tryz.prog) (t:=44) (α:=(Sl Assign)) (d:=N.1) (ps:=N.2) i;rw[show Tryz.prog.cellsOf 44=1 from by kernel_rfl]at b__;refine⟨⟨a0,a1,L,Q,T⟩,gb.fin (n:=5) (gb.seg (o:=4) (n:=1) (gb.seg (o:=3) (n:=1) (gb.seg (o:=2) (n:=1) (gb.seg (o:=1) (n:=1) (gb.seg (o:=0) (n:=1) (show gb (snap w) [] (cs.take 0)from by simpa using gb.nil) I) J) a__) S) b__) W,⟨k0,k1,k2,k3,k4,trivial⟩,λb u=>?_⟩;have x:=j b u;have y:=k b u;have A:=m b u;have E:=p b u;have F:=q b u;show bY.wt a0+bY.wt a1+bY.wt L+bY.wt Q+bY.wt T+1<=_;simp only[P?,Y!,F!,m6];omega
instance aeA:Reads Tryz.prog 47 (Sl WF):=Reads.sl (e:=46) Tryz.underlying47 r? (by decide)
instance aev:Reads Tryz.prog 50 bU:=by refine Reads.st Tryz.underlying50 r? Y ?_;intro N enc w j? a c z cs l L h;simp only[d7,List.mapM_nil,d6,R!,ζg,ζa]at h;obtain⟨B,j,Q,⟨C,e,S,⟨x2,T,m,rfl,rfl⟩,rfl⟩,rfl⟩:=h;have⟨a0,D,k0,F⟩:=Reads.rd (P:=Tryz.prog) (t:=9) (α:=U') (d:=B.1) (ps:=B.2) j;rw[show Tryz.prog.cellsOf 9=1 from by kernel_rfl]at D;have⟨a1,i,k1,X⟩:=Reads.rd (P:=Tryz.prog) (t:=48) (α:=(Sl Var)) (d:=C.1) (ps:=C.2) e;rw[show Tryz.prog.cellsOf 48=1 from by kernel_rfl]at i;have⟨I,J,k2,y⟩:=Reads.rd (P:=Tryz.prog) (t:=47) (α:=(Sl WF)) (d:=x2.1) (ps:=x2.2) T;rw[show Tryz.prog.cellsOf 47=1 from by kernel_rfl]at J;refine⟨⟨a0,a1,I⟩,gb.fin (n:=3) (gb.seg (o:=2) (n:=1) (gb.seg (o:=1) (n:=1) (gb.seg (o:=0) (n:=1) (show gb (snap w) [] (cs.take 0)from by simpa using gb.nil) D) i) J) L,⟨k0,k1,k2,trivial⟩,λb u=>?_⟩;have q:=F b u;have f:=X b u;have g:=y b u;show bY.wt a0+bY.wt a1+bY.wt I+1<=_;simp only[P?,Y!,F!,m6];omega
instance aex:Reads Tryz.prog 22 (Sl bU):=Reads.sl (e:=50) Tryz.underlying22 r? (by decide)
instance aeC:Reads Tryz.prog 24 Z4:=by refine Reads.st Tryz.underlying24 r? Y ?_;intro i enc w j? a c u cs l C h;simp only[d7,List.mapM_nil,d6,R!,ζg,ζa]at h;obtain⟨z,D,g,rfl,rfl⟩:=h;have⟨a0,B,k0,I⟩:=Reads.rd (P:=Tryz.prog) (t:=22) (α:=(Sl bU)) (d:=z.1) (ps:=z.2) D;rw[show Tryz.prog.cellsOf 22=1 from by kernel_rfl]at B;refine⟨⟨a0⟩,gb.fin (n:=1) (gb.seg (o:=0) (n:=1) (show gb (snap w) [] (cs.take 0)from by simpa using gb.nil) B) C,⟨k0,trivial⟩,λb J=>?_⟩;have L:=I b J;show bY.wt a0+1<=_;simp only[P?,Y!,F!,m6];omega
theorem aay:∀B,uC Tryz.prog 27 Pred B:=by
 intro B;induction B using Nat.strongRecOn with|ind B Y=>
 cases B with|zero=>intro H enc w j? a c cs d ps h;simp[DataW.trod]at h|succ B=>
 refine uC.st Tryz.underlying27 r? ?_;intro H enc w j? a c cs l e__ h;simp only[d7,List.mapM_nil,d6,R!,ζg,ζa]at h;obtain⟨C,f,A,⟨D,i,E,⟨x2,j,F,⟨b__,k,K,⟨I,m,a__,⟨x5,p,N,rfl,rfl⟩,rfl⟩,rfl⟩,rfl⟩,rfl⟩,rfl⟩:=h;have⟨a0,J,k0,q⟩:=Reads.rd (P:=Tryz.prog) (t:=3) (α:=Int) (d:=C.1) (ps:=C.2) f;rw[show Tryz.prog.cellsOf 3=1 from by kernel_rfl]at J;have⟨a1,L,k1,r⟩:=Reads.rd (P:=Tryz.prog) (t:=3) (α:=Int) (d:=D.1) (ps:=D.2) i;rw[show Tryz.prog.cellsOf 3=1 from by kernel_rfl]at L;have⟨c__,Q,k2,s⟩:=Reads.rd (P:=Tryz.prog) (t:=3) (α:=Int) (d:=x2.1) (ps:=x2.2) j;rw[show Tryz.prog.cellsOf 3=1 from by kernel_rfl]at Q;have⟨S,T,k3,v⟩:=Reads.rd (P:=Tryz.prog) (t:=3) (α:=Int) (d:=b__.1) (ps:=b__.2) k;rw[show Tryz.prog.cellsOf 3=1 from by kernel_rfl]at T;have⟨d__,W,k4,x⟩:=Reads.rd (P:=Tryz.prog) (t:=9) (α:=U') (d:=I.1) (ps:=I.2) m;rw[show Tryz.prog.cellsOf 9=1 from by kernel_rfl]at W;have⟨X,z,k5,y⟩:=uC.slF (t:=25) (e:=27) (α:=T') Tryz.underlying25 r? (by decide) (λg R=>Y g c?) (show _=M (x5.1,x5.2)from p);rw[show Tryz.prog.cellsOf 25=1 from by kernel_rfl]at z;rw[x8 _i,<-Pred.mX]at z;refine⟨⟨a0,a1,c__,S,d__,X⟩,gb.fin (n:=6) (gb.seg (o:=5) (n:=1) (gb.seg (o:=4) (n:=1) (gb.seg (o:=3) (n:=1) (gb.seg (o:=2) (n:=1) (gb.seg (o:=1) (n:=1) (gb.seg (o:=0) (n:=1) (show gb (snap w) [] (cs.take 0)from by simpa using gb.nil) J) L) Q) T) W) z) e__,⟨k0,k1,k2,k3,k4,Pred.okE _ k5,trivial⟩,λb u=>?_⟩;have V:=q b u;have w1:=r b u;have w2:=s b u;have w3:=v b u;have w4:=x b u;have w5:=y b u;show bY.wt a0+bY.wt a1+bY.wt c__+bY.wt S+bY.wt d__+Pred.XD X+1<=_;rw[Pred.wtE];simp only[P?,Y!,F!,m6];omega
instance aey:Reads Tryz.prog 27 T':=Reads.of Tryz.underlying27 r? Y aay
end Go.VE.YtddlogilhmloeadGreatDoor
namespace Go.VE
end Go.VE
namespace Go.VE
abbrev G_{α:Type}(m:aY α):Prop:=Wp m λ_=>True
theorem G_.get{α:Type}{m:aY α}(h:G_ m):∃a,m=M a:=let⟨a,e,_⟩:=h;⟨a,e⟩
theorem G_.ok{m:aY X'}(h:G_ m):m=M (m.getD U):=by have⟨a,e,_⟩:=h;rw[e];rfl
def Small(t:Z4):Prop:=W t.a?.l<1073741824/\∀p∈t.a?.l,W p.b?.l<1073741824/\W p.i?.l<1073741824/\p.name.size<1073741824/\(∀v∈p.i?.l,v.name.size<1073741824)/\∀e∈p.b?.l,W e.assign.l<1073741824
section
theorem FV{s:Sl WF}{p:WF->aY X'}{f:WF->X'}(hp:∀x∈s.l,p x=M (f x))(B:W s.l<1073741824):ga s p=M (place f s.l):=xF hp c? (λi=>rfl)
theorem R4{s:Sl bU}{p:bU->aY X'}{f:bU->X'}(hp:∀x∈s.l,p x=M (f x))(B:W s.l<1073741824):ig s p=M (place f s.l):=xF hp c? (λi=>rfl)
theorem B5{s:Sl Var}{p:Var->aY X'}{f:Var->X'}(hp:∀x∈s.l,p x=M (f x))(B:W s.l<1073741824):fV s p=M (place f s.l):=xF hp c? (λi=>rfl)
theorem Ny{s:Sl Assign}{p:Assign->aY X'}{f:Assign->X'}(hp:∀x∈s.l,p x=M (f x))(B:W s.l<1073741824):gw s p=M (place f s.l):=xF hp c? (λi=>rfl)
theorem Cd{s:Sl WF}{p:WF->aY X'}{f:WF->X'}(hp:∀x∈s.l,p x=M (f x))(B:W s.l<1073741824):jc s p=M (s.l.any f):=by unfold jc;rw[FV hp B,ζb,xQ]
theorem LZ{s:Sl bU}{p:bU->aY X'}{f:bU->X'}(hp:∀x∈s.l,p x=M (f x))(B:W s.l<1073741824):jv s p=M (s.l.any f):=by unfold jv;rw[R4 hp B,ζb,xQ]
theorem Ap{s:Sl Var}{p:Var->aY X'}{f:Var->X'}(hp:∀x∈s.l,p x=M (f x))(B:W s.l<1073741824):gu s p=M (s.l.any f):=by unfold gu;rw[B5 hp B,ζb,xQ]
theorem HC{s:Sl Assign}{p:Assign->aY X'}{f:Assign->X'}(hp:∀x∈s.l,p x=M (f x))(B:W s.l<1073741824):iQ s p=M (s.l.any f):=by unfold iQ;rw[Ny hp B,ζb,xQ]
theorem rj(x lo hi:Int):pN x lo hi=M (_p (lo<=x)&&_p (x<=hi)):=by unfold pN;rw[nu];rfl
theorem QM{s:U'}{i:Nat}(h:i<s.size):∃x,mP s (i:Int)=M x:=by unfold mP;rw[J0 c?];exact⟨_,by rw[show(s[(i:Int).toNat]?)=M s[i]from by simp[h]];rfl⟩
def mQ(n:Nat)(p:Int)(e:WF):Prop:=e.kind=1\/((e.kind=2\/e.kind=3)/\0<=e.k?/\e.k?<n/\e.k?≠p/\0<=e.d?/\e.d?<=199)
end
def mJ(t:Z4)(p k:Nat)(e:WF):Prop:=∃P,t.a?.l[p]?=M P/\P.b?.l[k]?=M e
theorem wZ{p:Int}{x:aZ×WF}:∀{es:aX WF}{j:Int},x∈jM p j es↔∃k:Nat,es[k]?=M x.2/\x.1=⟨p,j+k+1⟩
 |[],j=>by simp[jM]|e::es,j=>by simp[jM,wZ];constructor;rintro(rfl|⟨k,a,B⟩);exact⟨0,Y,f?⟩;exact⟨k+1,g?,g?⟩;grind
theorem yg{x:aZ×WF}:∀{ps:aX bU}{i:Int},x∈gO i ps↔∃(a k:Nat)(P:bU),ps[a]?=M P/\P.b?.l[k]?=M x.2/\x.1=⟨i+a,k+1⟩
 |[],i=>by simp[gO]|p::ps,i=>by simp only[gO,M!,wZ,yg];constructor;rintro(⟨k,b,B⟩|⟨a,k,P,b,B,D⟩);exact⟨0,k,p,Y,b,g?⟩;exact⟨a+1,k,P,o?,B,g?⟩;grind
abbrev bJ(t:Trace):aX (aZ×Event):=gO 0 t.a?.l
theorem dV{t:Z4}{x:aZ×WF}:x∈bJ t↔∃p k:Nat,mJ t p k x.2/\x.1=⟨p,k+1⟩:=by rw[yg];constructor;rintro⟨a,k,P,b,u,w⟩;exact⟨a,k,⟨P,b,u⟩,g?⟩;rintro⟨a,k,⟨P,b,u⟩,w⟩;grind
theorem Bz{t:Z4}{x y:aZ×WF}(B:x∈bJ t)(D:y∈bJ t)(h:x.1=y.1):x=y:=by have⟨p,k,⟨P,u,a⟩,e1⟩:=dV.1 B;have⟨q,j,⟨Q,w,z⟩,e2⟩:=dV.1 D;grind
theorem vv{t:Z4}(a:Small t):kF t=M (bJ t):=by unfold kF;rw[J0];simp[qI];exact⟨by have:=a.1;omega,λp u=>by have:=(a.2 p u).1;omega⟩
def vl(t:Z4)(p m a:Int):X':=match t.a?.l[p.toNat]?with
 |some P=>P.b?.l.any λe=>e.kind==2&&e.d?==m&&e.k?==a|none=>U
theorem Uw{t:Z4}(b:Small t){p:Int}(B:0<=p)(c:p<W t.a?.l)(m a:Int):w9 t p m a=M (vl t p m a):=by unfold w9;have u:p.toNat<W t.a?.l:=c?;have w:=t? u;rw[P_ B,ζd u,ζb,Cd (f:=λe=>e.kind==2&&e.d?==m&&e.k?==a) (λe _=>by unfold s_;simp[nu]) (b.2 _ w).1,ζb];unfold vl;grind
theorem BR{t:Z4}{p:Nat}{m a:Int}:vl t p m a=O↔∃k e,mJ t p k e/\e.kind=2/\e.d?=m/\e.k?=a:=by unfold vl mJ;rw[show(p:Int).toNat=p from Y];cases w:t.a?.l[p]?with|none=>simp|some P=>simp;constructor;rintro⟨e,u,h⟩;have⟨k,b⟩:=List.getElem?_of_mem u;grind;grind
def ag(A:bQ 200 bu)(m:Int):bu:=(A.at m).getD default
theorem PL(A:bQ 200 bu){m:Int}(B:0<=m)(a:m<=199):A.at m=M (ag A m):=by
 have:m.toNat<W A.l:=by rw[A.len];omega
 unfold ag bQ.at;grind
theorem tO(A:bQ 200 bu){m m':Int}(x:bu)(B:0<=m)(a:m<=199)(D:0<=m'):ag (A.set m x) m'=if m'=m then x else ag A m':=by
 have:m.toNat<W A.l:=by rw[A.len];omega
 unfold ag bQ.at bQ.set;grind
theorem RD{m:Int}(B:0<=m)(a:m<=199):ag (bQ.Jd 200 (⟨⟨0,0⟩,⟨0,0⟩⟩:bu)) m=⟨⟨0,0⟩,⟨0,0⟩⟩:=by unfold ag bQ.at bQ.Jd;grind
structure eB(t:Trace)(its:List (aZ×Event))(A:bQ 200 bu):Prop where
 snd:∀x∈its,x.2.kind=2->(ag A x.2.d?).from_=x.1
 rcv:∀x∈its,x.2.kind=3->(ag A x.2.d?).to_=x.1/\vl t x.2.k? x.2.d? x.1.proc=true
 fr:∀m,0<=m->m<=199->(ag A m).from_.index=0\/∃e,((ag A m).from_,e)∈its/\e.kind=2/\e.d?=m
 to:∀m,0<=m->m<=199->(ag A m).to_.index=0\/∃e,((ag A m).to_,e)∈its/\e.kind=3/\e.d?=m
def QJ(a b:aZ×WF):Prop:=a.1.proc<b.1.proc\/a.1.proc=b.1.proc/\a.1.index<b.1.index
theorem Sp{p:Int}:∀{es:aX WF}{j:Int},(jM p j es).Pairwise QJ
 |[],_=>Pairwise.nil|e::es,j=>by simp only[jM,pairwise_cons];refine⟨λb B=>?_,Sp⟩;have⟨k,_,D⟩:=wZ.1 B;refine .inr ⟨by rw[D],?_⟩;grind
theorem KN:∀{ps:aX bU}{i:Int},(gO i ps).Pairwise QJ
 |[],_=>Pairwise.nil|P::ps,i=>by simp only[gO,pairwise_append];refine⟨Sp,KN,λa B b D=>.inl ?_⟩;have⟨k,_,J⟩:=wZ.1 B;have⟨c,j,P,_,_,u⟩:=yg.1 D;grind
theorem Me{t:Z4}{k:Nat}{x y:aZ×WF}(B:(bJ t)[k]?=M x)(D:y∈(bJ t).take k):y.1≠x.1:=by
 have⟨a,u⟩:=ζe.1 B;have w:((bJ t).take k++(bJ t).drop k).Pairwise QJ:=by rw[i!];exact KN
 have:=(pairwise_append.1 w).2.2 y D x (by rw[Y? a,u];grind);unfold QJ at this;grind
structure A9(t:Trace):Prop where
 snd:∀x∈bJ t,∀y∈bJ t,x.2.kind=2->y.2.kind=2->x.2.d?=y.2.d?->x.1=y.1
 rcv:∀x∈bJ t,∀y∈bJ t,x.2.kind=3->y.2.kind=3->x.2.d?=y.2.d?->x.1=y.1
 has:∀x∈bJ t,x.2.kind=3->vl t x.2.k? x.2.d? x.1.proc=true
theorem eB.CD{t:Z4}{A:bQ 200 bu}(h:eB t (bJ t) A):A9 t:=⟨λx w y z k2 u B=>by rw[<-h.snd x w k2,<-h.snd y z u,B],λx w y z k2 u B=>by rw[<-(h.rcv x w k2).1,<-(h.rcv y z u).1,B],λx w k=>(h.rcv x w k).2⟩
theorem GX {t:Trace} (hS:Small t) (hF:∀x∈bJ t,mQ t.a?.l.length x.1.proc x.2):Wp (fG t) λr=>(r.2.2=0->∃A,r.1=some A/\eB t (bJ t) A)/\(A9 t->r.2.2=0):=by
 unfold fG ko;rw[ζb];unfold fG.E1;rw[vv hS,ζb];refine A0 (λk A=>eB t ((bJ t).take k) A) ⟨by simp,by simp,λm L h1=>.inl (by rw[RD L h1]),λm L h1=>.inl (by rw[RD L h1])⟩ ?_ ?_
 .intro k x A hx B;have d  := List.mem_of_getElem? hx;have T:(bJ t).take (k+1)=(bJ t).take k++[x]:=by rw[List.take_add_one,hx];rfl
  obtain⟨p,j,aa,ab⟩:=dV.1 d;have hf:=hF x d;unfold fG.k_;rw[cn];constructor
  .intro hk;have g:x.2.kind=2:=by grind
   have u:0<=x.2.d?/\x.2.d?<=199:=by
    rcases hf with h|⟨_,_,_,_,h⟩
    .omega
    simp_all
   rw[PL A u.1 u.2,ζb,cn];refine⟨λhg=>(bf _).2 ((bf _).2 ⟨λh=>(by cases h),λY=>?_⟩),λL=>?_⟩
   .rcases B.fr _ u.1 u.2 with o|⟨e,Q,i,W⟩
    .grind
    exact _c (Y.snd _ (List.mem_of_mem_take Q) x d i g W) (Me hx Q)
   rw[ζb,bf,T];have X:∀y∈(bJ t).take k,y.2.kind=2->y.2.d?≠x.2.d?:=λy hy w Q=>by
    have:=B.snd y hy w;rw[Q]at this;obtain⟨p',j',_,S⟩:=dV.1 (List.mem_of_mem_take hy)
    grind
   have nn:∀y∈(bJ t).take k,y.2.kind=2\/y.2.kind=3->0<=y.2.d?:=λy hy w=>by
    rcases hF y (List.mem_of_mem_take hy)with h|⟨_,_,_,_,h,_⟩
    .omega
    simp_all
   refine⟨λy hy w=>?_,λy hy z=>?_,λm C I=>?_,λm C I=>?_⟩
   .rcases List.mem_append.1 hy with hy|hy
    .rw[tO A _ u.1 u.2 (nn y hy (.inl w)),K' (X y hy w)];exact B.snd y hy w
    simp at hy;subst hy;rw[tO A _ u.1 u.2 u.1,J0 rfl]
   .rcases List.mem_append.1 hy with hy|hy
    .rw[tO A _ u.1 u.2 (nn y hy (.inr z))];have:=B.rcv y hy z
     grind
    grind
   .rw[tO A _ u.1 u.2 C];split
    next e=>exact .inr ⟨x.2,by simp,g,e.symm⟩
    exact(B.fr m C I).imp (λh=>h) λ⟨e,h1,D⟩=>⟨e,List.mem_append_left _ h1,D⟩
   rw[tO A _ u.1 u.2 C];have:=(B.to m C I).imp (λh=>h) λ⟨e,h1,D⟩=>(⟨e,List.mem_append_left [x] h1,D⟩:∃e,((ag A m).to_,e)∈(bJ t).take k++[x]/\e.kind=3/\e.d?=m)
   split
   next e=>subst e;omega
   omega
  intro hk;have g  := by simpa using hk
  rw[cn];constructor
  .intro hk;have J  := by simpa using hk
   have u:0<=x.2.d?/\x.2.d?<=199/\0<=x.2.k?/\x.2.k?<t.a?.l.length:=by
    rcases hf with h|⟨_,h1,D,_,h3,h4⟩
    .omega
    exact⟨h3,h4,h1,D⟩
   rw[PL A u.1 u.2.1,ζb,cn];refine⟨λhg=>(bf _).2 ((bf _).2 ⟨λh=>(by cases h),λY=>?_⟩),λL=>?_⟩
   .rcases B.to _ u.1 u.2.1 with o|⟨e,Q,i,W⟩
    .simp[o]at hg
    exact _c (Y.rcv _ (List.mem_of_mem_take Q) x d i J W) (Me hx Q)
   have L:¬(ag A x.2.d?).to_.index>0:=by simpa using L
   rw[Uw hS u.2.2.1 u.2.2.2,ζb,cn];refine⟨λhs=>?_,λhs=>(bf _).2 ((bf _).2 ⟨λh=>(by cases h),λY=>by rw[Y.has x d J]at hs;cases hs⟩)⟩
   rw[ζb,bf,T];have X:∀y∈(bJ t).take k,y.2.kind=3->y.2.d?≠x.2.d?:=λy hy w Q=>by
    have:=(B.rcv y hy w).1;rw[Q]at this;rw[this]at L;obtain⟨p',j',_,S⟩:=dV.1 (List.mem_of_mem_take hy);rw[S]at L;exact L (by show (j':Int)+1>0;omega)
   have nn:∀y∈(bJ t).take k,y.2.kind=2\/y.2.kind=3->0<=y.2.d?:=λy hy w=>by
    rcases hF y (List.mem_of_mem_take hy)with h|⟨_,_,_,_,h,_⟩
    .omega
    exact h
   refine⟨λy hy w=>?_,λy hy z=>?_,λm C I=>?_,λm C I=>?_⟩
   .rcases List.mem_append.1 hy with hy|hy
    .rw[tO A _ u.1 u.2.1 (nn y hy (.inl w))];have:=B.snd y hy w;split
     next e=>rw[e]at this;exact this
     exact this
    simp at hy;subst hy;omega
   .rcases List.mem_append.1 hy with hy|hy
    .rw[tO A _ u.1 u.2.1 (nn y hy (.inr z)),K' (X y hy z)];exact B.rcv y hy z
    simp at hy;subst hy;rw[tO A _ u.1 u.2.1 u.1,J0 rfl];exact⟨rfl,hs⟩
   .rw[tO A _ u.1 u.2.1 C];have:=(B.fr m C I).imp (λh=>h) λ⟨e,h1,D⟩=>(⟨e,List.mem_append_left [x] h1,D⟩:∃e,((ag A m).from_,e)∈(bJ t).take k++[x]/\e.kind=2/\e.d?=m)
    split
    next e=>subst e;exact this
    exact this
   rw[tO A _ u.1 u.2.1 C];split
   next e=>exact .inr ⟨x.2,by simp,J,e.symm⟩
   exact(B.to m C I).imp (λh=>h) λ⟨e,h1,D⟩=>⟨e,List.mem_append_left _ h1,D⟩
  intro hk;have J  := by simpa using hk
  rw[bf,T];refine⟨λy hy w=>?_,λy hy z=>?_,λm C I=>?_,λm C I=>?_⟩
  .rcases List.mem_append.1 hy with hy|hy
   .exact B.snd y hy w
   simp at hy;subst hy;exact _c w g
  .rcases List.mem_append.1 hy with hy|hy
   .exact B.rcv y hy z
   simp at hy;subst hy;exact _c z J
  .exact(B.fr m C I).imp (λh=>h) λ⟨e,h1,D⟩=>⟨e,List.mem_append_left _ h1,D⟩
  exact(B.to m C I).imp (λh=>h) λ⟨e,h1,D⟩=>⟨e,List.mem_append_left _ h1,D⟩
 intro A hA;rw[List.take_length]at hA;exact(bf _).2 ⟨λ_=>⟨A,rfl,hA⟩,λ_=>rfl⟩
def jW(f:Nat->X')(k n:Nat):X':=(C' k (n-k)).any f
theorem Jl{f:Nat->X'}{k n:Nat}(h:k<n):jW f k n=(f k||jW f (k+1) n):=by unfold jW;rw[show n-k=(n-(k+1))+1 from c?,List.range'_succ];rfl
theorem VH{f:Nat->X'}{k n:Nat}(h:n<=k):jW f k n=U:=by unfold jW;rw[show n-k=0 from c?];rfl
theorem Vi{f:Nat->X'}{k n:Nat}:jW f k n=O↔∃i,k<=i/\i<n/\f i=O:=by unfold jW;rw[List.any_eq_true];constructor;rintro⟨i,hi,u⟩;rw[List.mem_range'_1]at hi;exact⟨i,hi.1,c?,u⟩;rintro⟨i,a,w,u⟩;exact⟨i,by rw[List.mem_range'_1];omega,u⟩
theorem H9{step:Int->aY (Fw Int Unit Unit)}{n:Nat}(f:Nat->X')(D:n<9223372036854775807)(a:∀i:Nat,i<n->step i=M (if f i then .r ()else .n (y? Z ((i:Int)+1))))(B:step (n:Int)=M (.x ())):
 ∀m k:Nat,k+m=n->bM step (k:Int)=M (if jW f k n then .r ()else .x ()):=by
 intro m
 induction m with
 |zero=>
  intro k b;have:k=n:=c?
  subst this;rw[fM,B,VH (z? _)];rfl
 |succ m u=>
  intro k b;rw[fM,a k c?,Jl c?]
  cases w:f k with
  |true=>rfl|false=>
   simp only[v?,M',ζb,Bool.false_or];rw[cD k c?]
   exact u (k+1) c?
def pK(g:Nat->Int)(k n:Nat):Int:=match(C' k (n-k)).find? λi=> !(g i==0)with
 |some i=>g i|none=>0
theorem Iy{g:Nat->Int}{k n:Nat}(h:k<n):pK g k n=if g k=0 then pK g (k+1) n else g k:=by unfold pK;rw[show n-k=(n-(k+1))+1 from c?,List.range'_succ,List.find?_cons];by_cases u:g k=0;simp[u];rw[K' u,show(!(g k==0))=O from by simp[u]]
theorem K1{g:Nat->Int}{k n:Nat}(h:n<=k):pK g k n=0:=by unfold pK;rw[show n-k=0 from c?];rfl
theorem RQ{g:Nat->Int}{n:Nat}:∀{m k:Nat},k+m=n->(pK g k n=0↔∀i,k<=i->i<n->g i=0):=by intro m;induction m with|zero=>intro k b;rw[K1 c?];exact⟨λ_ i a u=>c?,λ_=>rfl⟩|succ m z=>intro k b;rw[Iy c?];split;rename_i w;rw[z (show k+1+m=n by omega)];constructor;intro h i a u;by_cases e:i=k;subst e;exact w;exact h i c? u;intro h i a u;exact h i c? u;rename_i w;exact⟨λh=>_c h w,λh=>_c (h k (z? _) c?) w⟩
theorem Zm{step:Int->aY (Fw Int Unit Int)}{n:Nat}(g:Nat->Int)(D:n<9223372036854775807)(a:∀i:Nat,i<n->step i=M (if g i=0 then .n (y? Z ((i:Int)+1))else .r (g i)))(B:step (n:Int)=M (.x ())):
 ∀m k:Nat,k+m=n->bM step (k:Int)=M (if pK g k n=0 then .x ()else .r (pK g k n)):=by
 intro m
 induction m with
 |zero=>
  intro k b;have:k=n:=c?
  subst this;rw[fM,B,K1 (z? _)];rfl
 |succ m w=>
  intro k b;rw[fM,a k c?,Iy c?]
  by_cases u:g k=0
  .simp only[u,L',ζb];rw[cD k c?]
   exact w (k+1) c?
  simp only[u,M',ζb]
theorem BV{step:Int->aY (Fw Int Unit Int)}{n:Nat}(g:Nat->Int)(B:n<9223372036854775807)(a:∀i:Nat,i<n->step i=M (if g i=0 then .n (y? Z ((i:Int)+1))else .r (g i)))(D:step (n:Int)=M (.x ())):bM step 0=M (if pK g 0 n=0 then .x ()else .r (pK g 0 n)):=Zm g B a D n 0 c?
theorem Fz{step:Int->aY (Fw Int Unit Unit)}{n:Nat}(f:Nat->X')(B:n<9223372036854775807)(a:∀i:Nat,i<n->step i=M (if f i then .r ()else .n (y? Z ((i:Int)+1))))(D:step (n:Int)=M (.x ())):bM step 0=M (if jW f 0 n then .r ()else .x ()):=H9 f B a D n 0 c?
def Aw(c:Int):X':=_p (c>=65)&&_p (c<=90)||decide (c>=97)&&_p (c<=122)
def EH(c:Int):X':=_p (c>=48)&&_p (c<=57)
theorem Hf(c:Int):su c=M (Aw c):=by unfold su Aw;simp only[nu,jU,ζb];rw[Bool.or_comm]
theorem Gl(c:Int):qP c=M (Aw c):=by unfold qP Aw;simp only[nu,jU,ζb]
theorem Tl(c:Int):xz c=M (EH c):=by unfold xz EH;simp only[nu,ζb]
theorem RK(c:Int):vV c=M (EH c):=by unfold vV EH;simp only[nu,ζb]
def z7(s:U')(i:Nat):Int:=(mP s (i:Int)).getD 0
theorem Hi{s:U'}{i:Nat}(h:i<s.size):mP s (i:Int)=M (z7 s i):=by have⟨x,u⟩:=QM h;unfold z7;rw[u];rfl
def vJ(s:U')(i:Nat):X':= !Aw (z7 s i)&& !EH (z7 s i)&& !(z7 s i==95)
def nN(s:U'):X':=_p (1<=s.size)&&_p (s.size<=16)&&Aw (z7 s 0)&& !jW (vJ s) 0 s.size
theorem Q4{s:U'}{i:Nat}(h:i<s.size):iz.bk s (s.size:Int) i=M (if vJ s i then .r ()else .n (y? Z ((i:Int)+1))):=by unfold iz.bk vJ;rw[show _p ((i:Int)<(s.size:Int))=O from by simpa using h,bq,Hi h];simp only[ζb,Hf,Tl];cases Aw (z7 s i)<;>cases EH (z7 s i)<;>cases(z7 s i==95)<;>rfl
theorem Pj{s:U'}{i:Nat}(h:i<s.size):iW.bk s i=M (if vJ s i then .r ()else .n (y? Z ((i:Int)+1))):=by unfold iW.bk vJ;rw[show _p ((i:Int)<((ByteArray.size s:Nat):Int))=O from by simpa using h,bq,Hi h];simp only[ζb,Gl,RK];cases Aw (z7 s i)<;>cases EH (z7 s i)<;>cases(z7 s i==95)<;>rfl
theorem toList_empty{s:U'}:(S? s==S? ByteArray.empty)=_p (s.size=0):=by
 rw[Bool.eq_iff_iff,_g,_e];constructor;intro h;have a:W (S? s)=s.size:=by rw[Go.ByteArray.toList_eq];simp
 rw[<-a,h];rw[Go.ByteArray.toList_eq];rfl;intro h;have:s=ByteArray.empty:=by apply ByteArray.ext;exact Array.eq_empty_of_size_eq_zero h
 rw[this]
theorem IV{s:U'}(B:s.size<1073741824):iz s=M (nN s):=by
 unfold iz;rw[toList_empty];simp only[jU,ζb];by_cases w:s.size=0;simp[w,nN,bg];by_cases u:s.size<=16;have a:(_p (s.size=0)||decide (((ByteArray.size s:Nat):Int)>16))=U:=by simp[w];omega
 rw[a,bt,show(0:Int)=((0:Nat):Int)from Y,Hi (show 0<s.size by omega)];simp only[ζb,Hf];cases z:Aw (z7 s 0)with|false=>simp[nN,z,bg]|true=>simp only[Bool.not_true,bt];unfold iz.W1;rw[H9 (n:=s.size) (vJ s) c? (λi hi=>Q4 hi) (by unfold iz.bk;simp[bg]) s.size 0 c?];have:nN s= !jW (vJ s) 0 s.size:=(by simp[nN,z,u];omega);rw[this];cases jW (vJ s) 0 s.size<;>rfl
 have a:(_p (s.size=0)||decide (((ByteArray.size s:Nat):Int)>16))=O:=by simp;omega
 rw[a,bq];simp[nN,u,bg]
theorem Lg{s:U'}(D:s.size<1073741824):iW s=M (nN s):=by
 unfold iW;simp only[jU,ζb];by_cases B:s.size=0;simp[B,nN,bg];by_cases u:s.size<=16;have a:(_p (((ByteArray.size s:Nat):Int)<1)||decide (((ByteArray.size s:Nat):Int)>16))=U:=by simp;omega
 rw[a,bt,show(0:Int)=((0:Nat):Int)from Y,Hi (show 0<s.size by omega)];simp only[ζb,Gl];cases w:Aw (z7 s 0)with|false=>simp[nN,w,bg]|true=>simp only[Bool.not_true,bt];unfold iW.W1;rw[show(1:Int)=((1:Nat):Int)from Y,H9 (n:=s.size) (vJ s) c? (λi hi=>Pj hi) (by unfold iW.bk;simp[bg]) (s.size-1) 1 c?];have z:vJ s 0=U:=(by simp[vJ,w]);have:nN s= !jW (vJ s) 1 s.size:=(by have b:=Jl (f:=vJ s) (show 0<s.size by omega);rw[z]at b;simp[nN,w,u,b];omega);rw[this];cases jW (vJ s) 1 s.size<;>rfl
 have a:(_p (((ByteArray.size s:Nat):Int)<1)||decide (((ByteArray.size s:Nat):Int)>16))=O:=by simp;omega
 rw[a,bq];simp[nN,u,bg]
def fO{α:Type}(l:aX α)(f:α->X')(i:Nat):X':=match l[i]?with|some y=>f y|none=>U
theorem C7{α:Type}{l:aX α}{f:α->X'}{i:Nat}(h:i<W l):fO l f i=f l[i]:=by unfold fO;rw[ζd h]
theorem EK{α:Type}{l:aX α}{f:α->X'}{p:Nat}:(l.take p).any f=jW (fO l f) 0 p:=by
 rw[Bool.eq_iff_iff,List.any_eq_true,Vi];constructor;rintro⟨x,w,u⟩;have⟨i,hi⟩:=List.getElem?_of_mem w;have z:=(ζe.1 hi).1;rw[C!]at z;rw[I?,J0 c?]at hi;exact⟨i,V? _,c?,by unfold fO;rw[hi];exact u⟩;rintro⟨i,_,hi,u⟩;unfold fO at u;split at u;next y B=>exact⟨y,s? (i:=i) (by rw[I?,J0 hi];exact B),u⟩
 cases u
def uF(a b:U'):X':=S? a==S? b
def abM:X'->X'->X'->Int
 |true,U,O=>0|true,U,U=>2|_,_,_=>13
def xO(P:bU)(i:Nat):Int:=match P.i?.l[i]?with
 |some v=>abM (nN v.name) (jW (fO P.i?.l λw=>uF w.name v.name) 0 i) (_p (v.init_>=-1073741824)&&_p (v.init_<=1073741824))|none=>0
def sP(t:Z4)(p:Nat):Int:=match t.a?.l[p]?with
 |some P=>if nN P.name&& !jW (fO t.a?.l λy=>uF y.name P.name) 0 p then
  (if W P.i?.l>8 then 5 else if pK (xO P) 0 (W P.i?.l)=0 then(if W P.b?.l>64 then 5 else 0)else pK (xO P) 0 (W P.i?.l))else 13
 |none=>0
theorem JB{P:bU}{i:Nat}(h:i<W P.i?.l):xO P i=abM (nN P.i?.l[i].name) (jW (fO P.i?.l λw=>uF w.name P.i?.l[i].name) 0 i) (_p (P.i?.l[i].init_>=-1073741824)&&_p (P.i?.l[i].init_<=1073741824)):=by unfold xO;rw[ζd h]
theorem I6(n:Int):rV n=M (_p (n>=-1073741824)&&_p (n<=1073741824)):=by unfold rV;rw[nu];rfl
theorem Uo{t:Z4}(a:Small t){p:Nat}(hp:p<W t.a?.l):fE t p=M (sP t p):=by
 have j:=a.2 _ (t? hp);have d:=a.1;unfold fE sP;rw[bC hp,ζb,ζd hp];generalize q:t.a?.l[p]=P at *;have⟨S,X,h,u,_⟩:=j;rw[IV h,ζb];have⟨x,o,D⟩:=u_ t.a? p c?;have g:jv x (λz=>kY z P)=M (jW (fO t.a?.l λy=>uF y.name P.name) 0 p):=by rw[LZ (p:=λz=>kY z P) (f:=λy=>uF y.name P.name) (λy _=>rfl) (by rw[D,C!];omega),D,EK]
 rw[o,ζb,g,ζb];dsimp only;cases e:nN P.name with|false=>simp[bg]|true=>rw[bq,ζb,Bool.true_and];cases hd:jW (fO t.a?.l λy=>uF y.name P.name) 0 p with|true=>simp[bg]|false=>rw[bt];simp only[Bool.not_false,L'];by_cases T:W P.i?.l>8;rw[show _p (len P.i?>8)=O from by simp[len];omega,bq,J0 T];rw[show _p (len P.i?>8)=U from by simp[len];omega,bt,K' T];unfold fE.W1;rw[BV (n:=W P.i?.l) (xO P) c? (λi hi=>?_) (by unfold fE.bk;simp[bg,len])];by_cases L:pK (xO P) 0 (W P.i?.l)=0;rw[J0 L,J0 L];show bg (_p (len P.b?>64)) (M 5) (M 0)=_;rw[wM];simp only[len,_e];by_cases I:W P.b?.l>64;rw[J0 I,J0 c?];rw[K' I,K' c?];rw[K' L,K' L];rfl;unfold fE.bk;rw[JB hi,show _p ((i:Int)<len P.i?)=O from by simp[len];exact hi,bq,bC hi,ζb];have b:=u _ (t? hi);have⟨y,m,J⟩:=u_ P.i? i c?;have Q:gu y (λz=>kV z P.i?.l[i])=M (jW (fO P.i?.l λw=>uF w.name P.i?.l[i].name) 0 i):=(by rw[Ap (p:=λz=>kV z P.i?.l[i]) (f:=λw=>uF w.name P.i?.l[i].name) (λw _=>rfl) (by rw[J,C!];omega),J,EK]);rw[IV b,ζb,m,ζb,Q,ζb,rj];have c:(_p (-1073741824<=P.i?.l[i].init_)&&_p (P.i?.l[i].init_<=1073741824))=(_p (P.i?.l[i].init_>=-1073741824)&&_p (P.i?.l[i].init_<=1073741824)):=rfl;rw[c];generalize nN P.i?.l[i].name=A;generalize jW (fO P.i?.l λw=>uF w.name P.i?.l[i].name) 0 i=B;generalize(_p (P.i?.l[i].init_>=-1073741824)&&_p (P.i?.l[i].init_<=1073741824))=C;cases A<;>cases B<;>cases C<;>rfl
theorem V2{t:Z4}(a:Small t){p:Nat}(hp:p<W t.a?.l):eS t p=M (sP t p):=by have Q:=a.2 _ (t? hp);have b:=a.1;unfold eS sP;rw[bC hp,ζb,ζd hp];generalize S:t.a?.l[p]=P at *;have⟨L,T,J,u,_⟩:=Q;rw[Lg J,ζb];dsimp only;cases X:nN P.name with|false=>simp[bg]|true=>rw[bq,Bool.true_and];unfold eS.W1;rw[Fz (n:=p) (fO t.a?.l λy=>uF y.name P.name) c? (λi hi=>?_) (by unfold eS.bk;simp[bg])];(cases hd:jW (fO t.a?.l λy=>uF y.name P.name) 0 p with|true=>rfl|false=>simp only[Bool.not_false,L'];show bg (_p (len P.i?>8)) (M 5) (eS.W2 0 P)=_;by_cases g:W P.i?.l>8;rw[show _p (len P.i?>8)=O from by simp[len];omega,bq,J0 g];rw[show _p (len P.i?>8)=U from by simp[len];omega,bt,K' g];unfold eS.W2;rw[BV (n:=W P.i?.l) (xO P) c? (λi hi=>?_) (by unfold eS.bK;simp[bg,len])];by_cases I:pK (xO P) 0 (W P.i?.l)=0;rw[J0 I,J0 I];show bg (_p (len P.b?>64)) (M 5) (M 0)=_;rw[wM];simp only[len,_e];by_cases z:W P.b?.l>64;rw[J0 z,J0 c?];rw[K' z,K' c?];rw[K' I,K' I];rfl;unfold eS.bK;rw[JB hi,show _p ((i:Int)<len P.i?)=O from by simp[len];exact hi,bq,bC hi,ζb];(rw[Lg (u _ (t? hi)),ζb];have h:eS.W3 i 0 P=if jW (fO P.i?.l λw=>uF w.name P.i?.l[i].name) 0 i then M (.r 13)else(if _p (P.i?.l[i].init_>=-1073741824)&&_p (P.i?.l[i].init_<=1073741824)then M (.n (y? Z ((i:Int)+1)))else M (.r 2)):=by unfold eS.W3;rw[Fz (n:=i) (fO P.i?.l λw=>uF w.name P.i?.l[i].name) c? (λj m=>?_) (by unfold eS.dG;simp[bg])];(cases jW (fO P.i?.l λw=>uF w.name P.i?.l[i].name) 0 i with|true=>rfl|false=>show(idx P.i? (i:Int)).bind _=_;rw[bC hi,ζb,I6,ζb];cases(_p (P.i?.l[i].init_>=-1073741824)&&_p (P.i?.l[i].init_<=1073741824))<;>rfl);unfold eS.dG;have D:j<W P.i?.l:=c?;rw[show _p ((j:Int)<(i:Int))=O from by simpa using m,bq,bC D,ζb,bC hi,ζb,C7 D,wM];rfl);rw[h];generalize nN P.i?.l[i].name=A;generalize jW (fO P.i?.l λw=>uF w.name P.i?.l[i].name) 0 i=B;generalize(_p (P.i?.l[i].init_>=-1073741824)&&_p (P.i?.l[i].init_<=1073741824))=C;cases A<;>cases B<;>cases C<;>rfl);unfold eS.bk;have d:i<W t.a?.l:=c?;rw[show _p ((i:Int)<(p:Int))=O from by simpa using hi,bq,bC d,ζb,C7 d,wM];rfl
def MA(n:Nat)(p:Int)(e:WF):X':=if e.kind==1 then e.k?==0&&e.d?==0 else(e.kind==2||e.kind==3)&&(_p (0<=e.k?)&&_p (e.k?<n))&& !(e.k?==p)&&(_p (0<=e.d?)&&_p (e.d?<=199))
theorem RG{t:Z4}(a:Small t)(p:Int)(e:WF):jH t p e=M (MA (W t.a?.l) p e):=by
 have c:=a.1;have w:y? Z (len t.a?-1)=len t.a?-1:=fH _ (by simp[len];omega) (by simp[len];omega);have u:∀b:X',jH.J1 p b t e=M (b&&(_p (0<=e.k?)&&_p (e.k?<W t.a?.l))&& !(e.k?==p)&&(_p (0<=e.d?)&&_p (e.d?<=199))):=by intro b;unfold jH.J1;simp only[rj,w,ζb];have:_p (e.k?<=len t.a?-1)=_p (e.k?<W t.a?.l):=(by congr 1;apply propext;simp[len];omega);rw[this];generalize(_p (0<=e.k?)&&_p (e.k?<(W t.a?.l:Int)))=A;generalize(e.k?==p)=B;generalize(_p (0<=e.d?)&&_p (e.d?<=199))=C;cases b<;>cases A<;>cases B<;>cases C<;>rfl
 unfold jH MA;rw[u,u];cases c:e.kind==1 with|true=>rw[bq];cases e.k?==0<;>cases e.d?==0<;>rfl|false=>rw[bt];simp only[v?,M'];cases z:e.kind==2<;>simp[bg]
def GW(P:bU)(k:Nat)(e:WF):X':=match k with|0=>U|j+1=>fO P.b?.l (λx=>_p (e.time<x.time)) j
def xA(P:bU)(k:Nat)(e:WF):X':=_p (e.time<0)||decide (e.time>1099511627776)||GW P k e
def UT:X'->X'->X'->Int
 |true,O,U=>0|true,O,O=>8|_,_,_=>2
def qw(P:bU)(e:WF)(i:Nat):Int:=match e.assign.l[i]?with
 |some a=>UT (_p (0<=a.var)&&_p (a.var<W P.i?.l)) (_p (a.value>=-1073741824)&&_p (a.value<=1073741824)) (jW (fO e.assign.l λb=>b.var==a.var) 0 i)|none=>0
theorem JN{P:bU}{e:WF}{i:Nat}(h:i<W e.assign.l):qw P e i=UT (_p (0<=e.assign.l[i].var)&&_p (e.assign.l[i].var<W P.i?.l)) (_p (e.assign.l[i].value>=-1073741824)&&_p (e.assign.l[i].value<=1073741824)) (jW (fO e.assign.l λb=>b.var==e.assign.l[i].var) 0 i):=by unfold qw;rw[ζd h]
def qL(n:Nat)(P:bU)(p k:Nat)(e:WF):Int:=if MA n p e then(if xA P k e then 11 else if W e.assign.l>8 then 5 else pK (qw P e) 0 (W e.assign.l))else 3
theorem Pd{P:bU}{e:WF}(c:W P.i?.l<1073741824)(T:W e.assign.l<1073741824):en.W2 e.assign (len e.assign) 0 e P=M (pK (qw P e) 0 (W e.assign.l)):=by
 have I:y? Z (len P.i?-1)=len P.i?-1:=fH _ (by simp[len];omega) (by simp[len];omega);unfold en.W2;rw[BV (n:=W e.assign.l) (qw P e) c? (λi hi=>?_) (by unfold en.bK;simp[bg,len])];by_cases D:pK (qw P e) 0 (W e.assign.l)=0;rw[J0 D,D];rfl;rw[K' D];rfl;unfold en.bK;have⟨y,J,u⟩:=u_ e.assign i c?;have d:iQ y (λz=>mz z e.assign.l[i])=M (jW (fO e.assign.l λb=>b.var==e.assign.l[i].var) 0 i):=by rw[HC (p:=λz=>mz z e.assign.l[i]) (f:=λb=>b.var==e.assign.l[i].var) (λw _=>rfl) (by rw[u,C!];omega),u,EK]
 rw[JN hi,show _p ((i:Int)<len e.assign)=O from by simp[len];exact hi,bq,bC hi,ζb,rj,rj,I,J,ζb,ζb,ζb,d,ζb];have a:(_p (0<=e.assign.l[i].var)&&_p (e.assign.l[i].var<=len P.i?-1))=(_p (0<=e.assign.l[i].var)&&_p (e.assign.l[i].var<W P.i?.l)):=by congr 2;apply propext;simp[len];omega
 have L:(_p (-1073741824<=e.assign.l[i].value)&&_p (e.assign.l[i].value<=1073741824))=(_p (e.assign.l[i].value>=-1073741824)&&_p (e.assign.l[i].value<=1073741824)):=rfl;rw[a,L];generalize(_p (0<=e.assign.l[i].var)&&_p (e.assign.l[i].var<(W P.i?.l:Int)))=A;generalize(_p (e.assign.l[i].value>=-1073741824)&&_p (e.assign.l[i].value<=1073741824))=B;generalize jW (fO e.assign.l λb=>b.var==e.assign.l[i].var) 0 i=C;cases A<;>cases B<;>cases C<;>rfl
theorem Ss{t:Z4}(a:Small t){p k:Nat}{P:bU}{e:WF}(D:t.a?.l[p]?=M P)(T:P.b?.l[k]?=M e):en t ⟨p,k+1⟩ e=M (qL (W t.a?.l) P p k e):=by
 have⟨L,w⟩:=ζe.1 D;have⟨b,z⟩:=ζe.1 T;have⟨d,B,_,_,C⟩:=a.2 P (w▸t? L);have g:=C e (z▸t? b);have I:∀last:Int,((_p (0<=e.time)&&_p (e.time<=1099511627776))&& !_p (e.time<last))=(!xA P k e)->
  en.J1 last t ⟨p,k+1⟩ e P=M (qL (W t.a?.l) P p k e):=by
  intro last Q;unfold en.J1 qL;rw[RG a,ζb,rj,ζb,Pd B g];dsimp only
  cases MA (W t.a?.l) p e with
  |false=>rfl|true=>
   rw[bq,J0 Y];have:(bg (_p (0<=e.time)&&_p (e.time<=1099511627776)) (M (_p (e.time<last))) (M O):aY X')=M (xA P k e):=by
    have S:(!((_p (0<=e.time)&&_p (e.time<=1099511627776))&& !_p (e.time<last)))=xA P k e:=by rw[Q,Bool.not_not]
    rw[<-S];cases(_p (0<=e.time)&&_p (e.time<=1099511627776))<;>cases _p (e.time<last)<;>rfl
   rw[this,ζb]
   cases xA P k e with
   |true=>rfl|false=>
    rw[bt];simp only[v?,M']
    by_cases J:W e.assign.l>8
    .rw[show _p (len e.assign>8)=O from by simp[len];omega,bq,J0 J]
    rw[show _p (len e.assign>8)=U from by simp[len];omega,bt,K' J]
 unfold en;dsimp only;rw[show idx t.a? (p:Int)=M P from by rw[iJ];exact D,ζb];cases k with|zero=>rw[show _p (((0:Nat):Int)+1>1)=U from by decide,bt];refine I 0 ?_;simp only[xA,GW,Bool.or_false];rw[Bool.eq_iff_iff];simp only[ζh,e!,_e,_f,l!];omega|succ j=>rw[show _p ((((j+1:Nat)):Int)+1>1)=O from by simp;omega,bq];have u:j<W P.b?.l:=c?;have h:y? Z ((((j+1:Nat)):Int)+1-2)=((j:Nat):Int):=(by rw[fH _ c? c?];omega);rw[h,bC u,ζb];refine I _ ?_;simp only[xA,GW,C7 u];rw[Bool.eq_iff_iff];simp only[ζh,e!,_e,_f,l!];omega
theorem Qg{t:Z4}{p:Nat}{P:bU}{e:WF}(D:t.a?.l[p]?=M P)(J:W e.assign.l<1073741824):eT.W2 p 0 t e=M (pK (qw P e) 0 (W e.assign.l)):=by
 unfold eT.W2;rw[BV (n:=W e.assign.l) (qw P e) c? (λi hi=>?_) (by unfold eT.bK;simp[bg,len])];by_cases w:pK (qw P e) 0 (W e.assign.l)=0;rw[J0 w,w];rfl;rw[K' w];rfl;unfold eT.bK;have z:eT.W3 p i 0 t e e.assign.l[i]=if jW (fO e.assign.l λb=>b.var==e.assign.l[i].var) 0 i then M (.r 8)else M (.n (y? Z ((i:Int)+1))):=by unfold eT.W3;rw[Fz (n:=i) (fO e.assign.l λb=>b.var==e.assign.l[i].var) c? (λj d=>?_) (by unfold eT.dG;simp[bg])];cases jW (fO e.assign.l λb=>b.var==e.assign.l[i].var) 0 i<;>rfl;unfold eT.dG;have u:j<W e.assign.l:=c?;rw[show _p ((j:Int)<(i:Int))=O from by simpa using d,bq,bC u,ζb,C7 u,wM]
 rw[JN hi,show _p ((i:Int)<len e.assign)=O from by simp[len];exact hi,bq,bC hi,ζb,z,I6,ζb,show idx t.a? (p:Int)=M P from by rw[iJ];exact D,ζb];have a:(bg (_p (e.assign.l[i].var<0)) (M O) (M (_p (e.assign.l[i].var>=len P.i?))):aY X')=M (!(_p (0<=e.assign.l[i].var)&&_p (e.assign.l[i].var<W P.i?.l))):=by rw[jU];congr 1;rw[Bool.eq_iff_iff];simp only[g!,e!,_e,Bool.and_eq_false_iff,_f,len];omega
 rw[a,ζb];generalize(_p (0<=e.assign.l[i].var)&&_p (e.assign.l[i].var<(W P.i?.l:Int)))=A;generalize(_p (e.assign.l[i].value>=-1073741824)&&_p (e.assign.l[i].value<=1073741824))=B;generalize jW (fO e.assign.l λb=>b.var==e.assign.l[i].var) 0 i=C;cases A<;>cases B<;>cases C<;>rfl
theorem Vz{t:Z4}(b:Small t){p k:Nat}{P:bU}{e:WF}(J:t.a?.l[p]?=M P)(T:P.b?.l[k]?=M e):eT t p k=M (qL (W t.a?.l) P p k e):=by
 have⟨S,w⟩:=ζe.1 J;have⟨c,z⟩:=ζe.1 T;have⟨h,i,_,_,I⟩:=b.2 P (w▸t? S);have o:=I e (z▸t? c);have X:eT.J1 p k t e=M (if xA P k e then 11 else if W e.assign.l>8 then 5 else pK (qw P e) 0 (W e.assign.l)):=by unfold eT.J1;rw[jU,ζb,Qg J o,show idx t.a? (p:Int)=M P from by rw[iJ];exact J,ζb];have a:(bg (_p ((k:Int)>0)) (H (idx P.b? (y? Z ((k:Int)-1))) λL=>M (_p (e.time<L.time))) (M U):aY X')=M (GW P k e):=(by cases k with|zero=>rfl|succ j=>have u:j<W P.b?.l:=c?;rw[show _p ((((j+1:Nat)):Int)>0)=O from by simp only[_e];omega,bq,show y? Z ((((j+1:Nat)):Int)-1)=((j:Nat):Int)from by rw[fH _ c? c?];omega,bC u,ζb];simp only[GW,C7 u]);rw[a,ζb,jU,ζb];show bg (xA P k e) _ _=_;cases xA P k e with|true=>rfl|false=>rw[bt];simp only[v?,M'];by_cases Q:W e.assign.l>8;rw[show _p (len e.assign>8)=O from by simp[len];omega,bq,J0 Q];rw[show _p (len e.assign>8)=U from by simp[len];omega,bt,K' Q]
 unfold eT qL;rw[show idx t.a? (p:Int)=M P from by rw[iJ];exact J,ζb,show idx P.b? (k:Int)=M e from by rw[iJ];exact T,ζb,X];unfold MA;cases a:e.kind==1 with|true=>rw[bq];simp only[L'];cases e.k?==0<;>cases e.d?==0<;>rfl|false=>rw[bt];simp only[v?,M'];have q:(bg (e.kind==2) (M U) (M (!(e.kind==3))):aY X')=M (!(e.kind==2||e.kind==3)):=(by cases e.kind==2<;>rfl);rw[q,ζb,jU,ζb,jU,ζb,jU,ζb,jU,ζb,jU,ζb];have d:(((((!(e.kind==2||e.kind==3))||decide (e.k?<0))||decide (e.k?>=len t.a?))||(e.k?==p))||decide (e.d?<0)||decide (e.d?>199))= !((e.kind==2||e.kind==3)&&(_p (0<=e.k?)&&_p (e.k?<W t.a?.l))&& !(e.k?==p)&&(_p (0<=e.d?)&&_p (e.d?<=199))):=(by generalize(e.kind==2||e.kind==3)=A;have a1:_p (e.k?<0)= !_p (0<=e.k?):=(by rw[Bool.eq_iff_iff];simp);have f:_p (e.k?>=len t.a?)= !_p (e.k?<W t.a?.l):=(by rw[Bool.eq_iff_iff];simp[len]);have a3:_p (e.d?<0)= !_p (0<=e.d?):=(by rw[Bool.eq_iff_iff];simp);have a4:_p (e.d?>199)= !_p (e.d?<=199):=(by rw[Bool.eq_iff_iff];simp);rw[a1,f,a3,a4];generalize _p (0<=e.k?)=B;generalize _p (e.k?<(W t.a?.l:Int))=C;generalize(e.k?==(p:Int))=D;generalize _p (0<=e.d?)=F;generalize _p (e.d?<=199)=g;cases A<;>cases B<;>cases C<;>cases D<;>cases F<;>cases g<;>rfl);rw[d];generalize((e.kind==2||e.kind==3)&&(_p (0<=e.k?)&&_p (e.k?<(W t.a?.l:Int)))&& !(e.k?==(p:Int))&&(_p (0<=e.d?)&&_p (e.d?<=199)))=m;cases m<;>rfl
theorem P8{n:Nat}{p:Int}{e:WF}(h:MA n p e=O):mQ n p e:=by
 unfold MA at h;split at h;next a=>left;simpa using a
 right;simp only[ζh,g!,_g,_e,e!,beq_eq_false_iff_ne,ne_eq]at h;have⟨⟨⟨a,u⟩,z⟩,w⟩:=h;exact⟨a,u.1,u.2,z,w.1,w.2⟩
theorem LF{n:Nat}{P:bU}{p k:Nat}{e:WF}(h:qL n P p k e=0):mQ n p e:=by
 unfold qL at h;split at h;next a=>exact P8 a
 cases h
theorem By{α:Type}[DecidableEq α]:∀{l r:aX α},l.Nodup->(∀x∈l,x∈r)->W l<=W r
 |[],_,_,_=>V? _|x::l,r,D,J=>by have B:=List.nodup_cons.1 D;have:=By (r:=r.erase x) B.2 λy u=>(List.mem_erase_of_ne g?).2 (J y (C? _ u));grind
section
variable{κ:Type}[DecidableEq κ]
theorem BY{ν:Type}{k:κ}:∀{m:Mo κ ν},k∉m.map (·.1)->lW k m=G
 |[],_=>rfl|(a,v)::r,h=>by simp only[P?,n8,not_or]at h;unfold lW;rw[K' h.1];exact BY h.2
theorem C8{ν:Type}{k:κ}:∀{m:Mo κ ν},k∈m.map (·.1)->∃v,lW k m=M v/\(k,v)∈m
 |[],h=>o?|(a,v)::r,h=>by unfold lW;by_cases e:k=a;grind;obtain⟨w,b,B⟩:=C8 (by simpa[e]using h);grind
theorem rO{ν:Type}{k:κ}{v:ν}:∀{m:Mo κ ν},k∉m.map (·.1)->mA m k v=m++[(k,v)]
 |[],_=>rfl|(a,w)::r,h=>by simp only[P?,n8,not_or]at h;show(if k=a then _ else _)=_;rw[K' h.1,rO h.2];rfl
end
def Vd(t:Z4)(y:aZ):Prop:=∃e,(y,e)∈bJ t
theorem Vd.at_{t:Z4}{y:aZ}(h:Vd t y):∃(p k:Nat)(e:WF),mJ t p k e/\y=⟨p,k+1⟩/\(y,e)∈bJ t:=by have⟨e,u⟩:=h;grind[dV]
def MW(t:Z4)(y z:aZ):Prop:=∃e f,(y,e)∈bJ t/\(z,f)∈bJ t/\e.kind=2/\f.kind=3/\e.d?=f.d?
def Edge(t:Z4)(y z:aZ):Prop:=Vd t y/\Vd t z/\(z=⟨y.proc,y.index+1⟩\/MW t y z)
abbrev Way(t:Trace):aZ->aZ->Prop:=TransGen (Edge t)
def NY(t:Z4):Prop:=∃x,Way t x x
theorem Way.l{t:Z4}{x y:aZ}(h:Way t x y):Vd t x:=by induction h with|single h=>exact h.1|tail _ _ u=>omega
theorem Way.r{t:Z4}{x y:aZ}(h:Way t x y):Vd t y:=by cases h with|single h=>exact h.2.1|tail _ h=>exact h.2.1
theorem UC{t:Z4}(g:Small t)(l:∀x∈bJ t,mQ (_j t.a?.l) x.1.proc x.2){A:bQ 200 bu}(Y:eB t (bJ t) A){y:aZ}(J:Vd t y):
 Wp (kC t A y) λs=>_j s.l<=2/\∀z,z∈s.l↔Edge t y z:=by
 have⟨p,k,e,a__,C,u⟩:=J.at_;have⟨P,S,d⟩:=a__;have T:P∈t.a?.l:=s? S;have a:=(g.2 P T).1;have c__:k<_j P.b?.l:=(ζe.1 d).1;have D:y.proc=p:=by rw[C]
 have b__:y.index=k+1:=by rw[C]
 have j:∀s:Sl aZ,_j s.l<=1->(∀z,z∈s.l↔Vd t z/\z=⟨y.proc,y.index+1⟩)->Wp (kC.J1 A s P.b? y) λs=>_j s.l<=2/\∀z,z∈s.l↔Edge t y z:=by
  intro s o w;have no:¬(∃z,MW t y z)->_j s.l<=2/\∀z,z∈s.l↔Edge t y z:=λm=>⟨c?,λz=>(w z).trans ⟨λh=>⟨J,h.1,.inl h.2⟩,λh=>⟨h.2.1,h.2.2.elim id λh=>(m ⟨z,h⟩).elim⟩⟩⟩;unfold kC.J1;have W:y? Z (y.index-1)=((k:Nat):Int):=by rw[b__,fH _ c? c?];omega
  rw[W,iJ,d,ζb,ey,cn];constructor
  .intro B;have B:e.kind=2:=by grind
   have I:0<=e.d?/\e.d?<=199:=by rcases l _ u with h|⟨_,_,_,_,h⟩;all_goals grind
   have b:∀z,MW t y z->(ag A e.d?).to_=z:=λz⟨X,f,a1,L,a3,a4,a5⟩=>by cases Bz a1 u _i;rw[a5];exact(Y.rcv _ L a4).1
   rw[PL A I.1 I.2,ζb,bf,cn];refine⟨λh=>?_,λh=>(bf _).2 (no λ⟨z,w⟩=>?_)⟩
   .have h:(ag A e.d?).to_.index>0:=(by grind);rw[ζb];unfold ec;rw[J0 c?,ζb,bf];refine⟨by show(s.l++[(ag A e.d?).to_]).length<=2;grind,λz=>?_⟩;have N:MW t y (ag A e.d?).to_:=(by rcases Y.to e.d? I.1 I.2 with r|⟨X,a,c,n⟩;omega;exact⟨e,X,u,a,B,c,n.symm⟩);show z∈s.l++[(ag A e.d?).to_]↔_;rw[M!,d!,w];constructor;rintro(h|rfl);exact⟨J,h.1,.inl h.2⟩;exact⟨J,let⟨_,f,_,L,_⟩:=N;⟨f,L⟩,.inr N⟩;rintro⟨_,a,c|c⟩;all_goals grind
   rw[b z w]at h;have⟨_,f,_,L,_⟩:=w;grind[dV]
  intro B;rw[bf,cn];refine⟨λh=>(by cases h),λ_=>(bf _).2 (no λ⟨z,X,f,a1,_,a3,_⟩=>?_)⟩;cases Bz a1 u _i;grind
 unfold kC;rw[D,iJ,S,ζb,cn];rw[D]at j;constructor
 .intro h;have h:y.index<len P.b?:=by grind
  have B:k+1<_j P.b?.l:=g?
  refine j _ (by simp[Sl.l]) λz=>?_
  have W:y? Z (y.index+1)=y.index+1:=fH _ c? c?
  simp only[Sl.l,d!,W];refine⟨λw=>⟨⟨P.b?.l[k+1],dV.2 ⟨p,k+1,⟨P,S,ζd B⟩,?_⟩⟩,w⟩,λw=>w.2⟩
  grind
 intro h;have h:¬y.index<len P.b?:=g?
 refine j _ (by simp[Sl.l]) λz=>⟨λw=>by grind[Sl.l],λ⟨w,v⟩=>?_⟩
 have⟨q,i,f,⟨Q,E,hi⟩,F,_⟩:=w.at_
 grind
structure LQ(t:Trace)(x:aZ)(h?:Sl aZ)(m:Mo aZ Bool)(U:aZ->Prop):Prop where
 rst:∀y∈h?.l,y=x\/Way t x y
 keys:(m.map (·.1)).Nodup
 seen:∀y∈m,Way t x y.1/\y.1≠x/\y.2=true
 le:h?.l.length<=m.length+1
 done:∀y,y=x\/y∈m.map (·.1)->y∈h?.l\/U y\/∀z,Edge t y z->z∈m.map (·.1)
theorem LQ.count{t:Z4}{x:aZ}{h?:Sl aZ}{m:Mo aZ X'}{d:aZ->Prop}(h:LQ t x h? m d):W m<=W (bJ t):=by
 have:=By (r:=(bJ t).map (·.1)) h.keys λx u=>by obtain⟨y,w,rfl⟩:=mem_map.1 u;have⟨e,z⟩:=(h.seen y w).1.r;grind
 grind
theorem Sn {t:Trace} (hS:Small t) (hN:(bJ t).length<1073741824) (hF:∀x∈bJ t,mQ t.a?.l.length x.1.proc x.2) {A:bQ 200 bu} (hA:eB t (bJ t) A):Wp (jF t A) λr=>(r.2=true↔NY t):=by
 unfold jF ko;rw[ζb];unfold jF.E1;rw[vv hS,ζb];refine A0 (λk _=>∀x∈(bJ t).take k,¬Way t x.1 x.1) f? ?_ λ_ h=>(bf _).2 ⟨λh=>(by cases h),λ⟨x,hx⟩=>?_⟩
 .intro i x _ hx ar;have ah:x∈bJ t:=List.mem_of_getElem? hx;refine Wp.mono (P:=λw=>match w with|.n s=>¬Way t x.1 x.1|.x e=>False|.r e=>NY t) ?_ λw hw=>by
   cases w with
   | n s=>
    intro y hy;rw[List.take_add_one,hx]at hy
    grind
   | x e=>grind
   | r b=>exact(bf _).2 ⟨λ_=>hw,λ_=>rfl⟩
  refine fI (λq:Sl aZ×Mo aZ Bool=>LQ t x.1 q.1 q.2 λ_=>False) (λq=>2*((bJ t).length-q.2.length)+q.1.l.length) ⟨λy hy=>.inl (by simpa [Sl.l]using hy),by simp,by simp,by simp[Sl.l],λy hy=>.inl ?_⟩ ?_
  .simpa [Sl.l]using hy
  rintro⟨h?,m⟩ L;unfold jF.bK;rw[cn];refine⟨λh=>?_,λh=>(bf _).2 ((bf _).2 λhw=>?_)⟩
  .have d:0<h?.l.length:=by
    grind
   have hc:=L.count;have av:=L.le;have hw:IntKind.wrap .i64 ((len h?)-1)=(h?.l.length-1:Nat):=by
    rw[fH _ g? g?];grind
   have I:h?.l.length-1<h?.l.length:=by omega
   rw[hw];have h1:Sl.iF h? (h?.l.length-1:Nat)=some (h?.l.length-1):=by
    unfold Sl.iF;grind
   have h2:Sl.get h? (h?.l.length-1)=some h?.l[h?.l.length-1]:=by unfold Sl.get;grind
   obtain⟨cut,h3,h4⟩:∃x,nJ h? none (some ((h?.l.length-1:Nat):Int))=some x/\x.l=h?.l.take (h?.l.length-1):=by
    cases h? with
    | nil=>simp[Sl.l]at d
    | emp=>simp[Sl.l]at d
    | row l=>
     simp only[Sl.l]at d ⊢;unfold nJ eA;simp_all
    | part l=>
     simp[Sl.l]at d ⊢;unfold nJ eA;simp_all
   rw[h1,ζb,h2,ζb,h3,ζb,ey];generalize ai:h?.l[h?.l.length-1]=y;have aj:y∈h?.l:=ai▸List.getElem_mem I;have g:∀z,z∈h?.l->z∈cut.l\/z=y:=λz hz=>by
    have:h?.l.take (h?.l.length-1)++h?.l.drop (h?.l.length-1)=h?.l:=List.take_append_drop ..;rw[<-this]at hz;rcases List.mem_append.1 hz with hz|hz
    .grind
    rw[List.drop_eq_getElem_cons I,List.drop_of_length_le c?]at hz
    grind
   have aa  := L.rst _ aj;have ak  := aa.elim (λe=>⟨x.2,e▸ah⟩) Way.r
   refine(UC hS hF hA ak).mono λs hs=>?_
   refine fI (λq:Sl aZ×Int×Mo aZ Bool=>∃n:Nat,q.2.1=n/\n<=s.l.length/\LQ t x.1 q.1 q.2.2 (λu=>u=y)/\(∀z∈s.l.take n,z∈q.2.2.map (·.1))/\2*((bJ t).length-q.2.2.length)+q.1.l.length<2*((bJ t).length-m.length)+h?.l.length) (λq=>s.l.length-q.2.1.toNat)
    ⟨0,rfl,Nat.zero_le _,⟨λz hz=>L.rst z g?,L.keys,L.seen,by grind,λu hu=>?_⟩,by simp,by grind⟩ ?_
   .rcases L.done u hu with h|h|h
    .exact(g u h).imp_right .inl
    .exact h.elim
    exact .inr (.inr h)
   rintro⟨C,i2,W⟩ ⟨n,rfl,hn,B,J,hμ⟩;simp only at B hμ J;unfold jF.dG;rw[cn];constructor
   .intro h;have X:n<s.l.length:=by simpa [len]using h
    have ab:=(hs.2 s.l[n]).1 (List.getElem_mem X);have Q:Way t x.1 s.l[n]:=aa.elim (λe=>.single (e▸ab)) λh=>.tail h ab
    rw[bC X,ζb,cn];refine⟨λo=>(bf _).2 ((bf _).2 ((bf _).2 ⟨x.1,?_⟩)),λS=>?_⟩
    .have:s.l[n]=x.1:=by
      unfold N_ at o
      revert o;cases s.l[n];cases x.1;intro o;simpa using o
     rw[this]at Q;exact Q
    have S:s.l[n]≠x.1:=λe=>by rw[e]at S;simp[N_]at S
    have T:=cD n c?
    have ad:s.l.take (n+1)=s.l.take n++[s.l[n]]:=by rw[List.take_add_one,ζd X];rfl
    rw[cn];refine⟨λhg=>(bf _).2 ⟨⟨n+1,T,by omega,B,λz hz=>?_,hμ⟩,by show _-(IntKind.wrap .i64 ((n:Int)+1)).toNat<_;rw[T];simp;omega⟩,λY=>?_⟩
    .rw[ad]at hz;rcases List.mem_append.1 hz with hz|hz
     .exact J z hz
     simp[List.mem_singleton]at hz;subst hz;apply Classical.byContradiction;intro hk;unfold iM at hg;rw[BY hk]at hg;cases hg
    have aw:=B.count;have au:=B.le;unfold ec;rw[J0 (show C.l.length+1<=2147483648 from by omega),ζb,bf]
    have D:s.l[n]∉W.map (·.1):=λal=>by
     obtain⟨v,hv,am⟩:=C8 al;have:=(B.seen _ am).2.2;simp only at this;subst this;unfold iM at Y;rw[hv]at Y;cases Y
    have j:∀z,z∈(mA W s.l[n] true).map (·.1)↔z∈W.map (·.1)\/z=s.l[n]:=λz=>by
     rw[rO D,List.map_append,List.mem_append];simp
    have ae:LQ t x.1 (.row (C.l++[s.l[n]])) (mA W s.l[n] true) (λu=>u=y):=by
     refine⟨λy hy=>?_,?_,λy hy=>?_,?_,λu hu=>?_⟩
     .simp[Sl.l,List.mem_singleton]at hy;rcases hy with hy|rfl
      .exact B.rst y hy
      exact .inr Q
     .rw[rO D,List.map_append,List.nodup_append];refine⟨B.keys,by simp,λa ha b hb=>?_⟩
      simp[List.mem_singleton]at hb;subst hb;exact λe=>D (e▸ha)
     .rw[rO D]at hy;rcases List.mem_append.1 hy with hy|hy
      .exact B.seen y hy
      simp[List.mem_singleton]at hy;subst hy;exact⟨Q,S,rfl⟩
     .rw[rO D];show (C.l++[s.l[n]]).length<=_;rw[ζi,ζi,List.length_singleton,List.length_singleton];omega
     simp only[Sl.l,List.mem_append,List.mem_singleton];have af:u=x.1\/u∈W.map (·.1)->(u∈C.l\/u=s.l[n])\/u=y\/∀z,Edge t u z->z∈(mA W s.l[n] true).map (·.1):=λhu=>by
      rcases B.done u hu with h|h|h
      .exact .inl (.inl h)
      .exact .inr (.inl h)
      exact .inr (.inr λz hz=>(j z).2 (.inl (h z hz)))
     rcases hu with hu|hu
     .exact af (.inl hu)
     rcases (j u).1 hu with hu|hu
     .exact af (.inr hu)
     exact .inl (.inr hu)
    have an:=ae.count;refine⟨⟨n+1,T,by omega,ae,λz hz=>?_,?_⟩,by show _-(IntKind.wrap .i64 ((n)+1)).toNat<_;rw[T];simp;omega⟩
    .rw[ad]at hz;rcases List.mem_append.1 hz with hz|hz
     .exact(j z).2 (.inl (J z hz))
     exact(j z).2 (.inr (by simpa using hz))
    rw[rO D,ζi,List.length_singleton]at an;show 2*((bJ t).length-(mA W s.l[n] true).length)+(C.l++[s.l[n]]).length<_;rw[rO D,ζi,ζi,List.length_singleton,List.length_singleton];omega
   intro h;have ao:s.l.length<=n:=by simpa [len]using h
   rw[List.take_of_length_le ao]at J;refine(bf _).2 ((bf _).2 ⟨⟨B.rst,B.keys,B.seen,B.le,λu hu=>?_⟩,hμ⟩)
   rcases B.done u hu with h|h|h
   .exact .inl h
   .subst h;exact .inr (.inr λz hz=>J z ((hs.2 z).2 hz))
   exact .inr (.inr h)
  have ap:h?.l=[]:=by
   have:¬len h?>0:=by simpa using h
   simp[len]at this;exact this
  have hd:∀y,y=x.1\/y∈m.map (·.1)->∀z,Edge t y z->z∈m.map (·.1):=λy hy=>by
   rcases L.done y hy with h|h|h
   .simp only[ap]at h;cases h
   .exact h.elim
   exact h
  have key:∀z,Way t x.1 z->z∈m.map (·.1):=λz hz=>by
   induction hz with
   | single h=>exact hd _ (.inl rfl) _ h
   | tail _ h ih=>exact hd _ (.inr ih) _ h
  obtain⟨y,hy,aq⟩:=List.mem_map.1 (key _ hw);exact(L.seen y hy).2.1 aq
 obtain⟨e,o⟩:=hx.l;rw[List.take_length]at h;exact _c hx (h _ o)
structure Ok(t:Trace):Prop where
 one:1<=t.a?.l.length
 few:t.a?.l.length<=8
 heads:∀p,p<t.a?.l.length->sP t p=0
 gm:∀(p k:Nat)P e,t.a?.l[p]?=some P->P.b?.l[k]?=some e->qL t.a?.l.length P p k e=0
 CD:A9 t
 acyc:¬NY t
theorem IF{t:Z4}(h:∀(p k:Nat)P e,t.a?.l[p]?=M P->P.b?.l[k]?=M e->qL (W t.a?.l) P p k e=0):∀x∈bJ t,mQ (W t.a?.l) x.1.proc x.2:=λx w=>by have⟨p,k,⟨P,z,B⟩,u⟩:=dV.1 w;rw[u];exact LF (h p k P _ z B)
structure VT(t:Trace):Prop where
 formed:∀x∈bJ t,mQ t.a?.l.length x.1.proc x.2
 msgs:∃A i,fG t=some (some A,i,0)/\eB t (bJ t) A
 few:t.a?.l.length<=8
 ok:Ok t
theorem Ut{t:Z4}(a:Small t)(W:_j (bJ t)<1073741824):Wp (iS t) λr=>(r.2=0->VT t)/\(Ok t->r.2=0):=by
 unfold iS;rw[rj,ζb,cn];refine⟨λF=>?_,λF=>(bf _).2 ⟨λh=>c?,λh=>?_⟩⟩;rotate_left;have o:=h.one;have D:=h.few;grind;have D:1<=_j t.a?.l/\_j t.a?.l<=8:=by grind
 unfold iS.W1;refine fI (λi:Int=>∃n:Nat,i=n/\n<=_j t.a?.l/\∀p,p<n->sP t p=0) (λi:Int=>_j t.a?.l-i.toNat) ⟨0,_i,V? _,λp I=>_c I c?⟩ ?_;rintro i ⟨n,rfl,q,X⟩;unfold iS.bk;rw[cn];constructor;intro h;have w:n<_j t.a?.l:=by grind
 rw[Uo a w,ζb,cn];refine⟨λu=>(bf _).2 ⟨⟨n+1,cD n c?,c?,λp I=>?_⟩,by rw[cD n c?];simp;omega⟩,λu=>(bf _).2 ((bf _).2 ⟨λh=>?_,λh=>?_⟩)⟩;grind;grind;simp[h.heads n w]at u;intro h;have Y:_j t.a?.l<=n:=g?;rw[bf];unfold ko;rw[ζb];unfold iS.E2;rw[vv a,ζb];refine A0 (λi _=>∀(p k:Nat)P e,t.a?.l[p]?=M P->P.b?.l[k]?=M e->(⟨p,k+1⟩,e)∈(bJ t).take i->qL (_j t.a?.l) P p k e=0) f? ?_ ?_;intro i x _ T z;have J:=s? T;have⟨p,j,⟨P,B,C⟩,L⟩:=dV.1 J;unfold iS.OT;rw[L,Ss a B C,ζb,cn];refine⟨λu=>(bf _).2 λp' s v y b__ E f=>?_,λu=>(bf _).2 ((bf _).2 ⟨λh=>?_,λh=>?_⟩)⟩;rw[a!,T]at f;grind;grind;simp[h.gm p j P _ B C]at u;intro _ z;have z:∀(p k:Nat)P e,t.a?.l[p]?=M P->P.b?.l[k]?=M e->qL (_j t.a?.l) P p k e=0:=λp k P e B C=>z p k P e B C (by rw[H?];exact dV.2 ⟨p,k,⟨P,B,C⟩,_i⟩);have N:=IF z;have⟨r,g,l,Q⟩:=GX a N;rw[g,ζb,cn];refine⟨λu=>?_,λu=>(bf _).2 ⟨λh=>?_,λh=>Q h.CD⟩⟩;have u:=by simpa using u
 have⟨A,m,b⟩:=l u;rw[m,ζb];have⟨c,d,S⟩:=Sn a W N b;rw[d,ζb,cn];refine⟨λa__=>(bf _).2 ⟨λh=>c?,λh=>_c (S.1 a__) h.acyc⟩,λa__=>(bf _).2 ⟨λ_=>?_,λ_=>rfl⟩⟩;exact⟨N,⟨A,r.2.1,g?,b⟩,D.2,D.1,D.2,λp I=>X p c?,z,b.CD,λd=>g?⟩;simp_all
theorem MS{t:Z4}(a:Small t)(B:W (bJ t)<1073741824):Wp (cm t) λb=>(b=O->VT t)/\(Ok t->b=O):=by unfold cm;rw[ey];exact(Ut a B).mono λr c=>(bf _).2 ⟨λh=>c.1 g?,λh=>g?⟩
def gX(q:Int)(e:WF):X':=e.kind==2&&e.k?==q
def Bp(p:Int)(e:WF):X':=e.kind==3&&e.k?==p
def under(t:Z4)(c:SW)(p q:Nat):Int:=match t.a?.l[p]?,t.a?.l[q]?,c[p]?,c[q]?with
 |some P,M Q,M a,M b=>((P.b?.l.take a.toNat).countP (gX q):Int)-((Q.b?.l.take b.toNat).countP (Bp p):Int)|_,_,_,_=>0
theorem CA {t:Trace} (hS:Small t) (hv:cm t=some true) {A:bQ 200 bu} (hM:eB t (bJ t) A) {x:aZ×Event} (B:x∈bJ t) (hk:x.2.kind=2):qv t x.2.d?=some (x.1,true):=by
 refine Wp.eq ?_;unfold qv je;rw[hv,ζb,bq];unfold ko;rw[ζb];unfold je.E1;rw[vv hS,ζb,ey];refine A0 (λk _=>∀y∈(bJ t).take k,¬(y.2.kind=2/\y.2.d?=x.2.d?)) f? ?_ ?_
 .intro k y _ C u;have w:y∈bJ t:=List.mem_of_getElem? C;unfold je.k_;rw[nu,ζb,cn];constructor
  .intro hc;have hc:y.2.kind=2/\y.2.d?=x.2.d?:=by simpa using hc
   refine(bf _).2 ((bf _).2 ((bf _).2 ?_));have h1:=hM.snd y w hc.1;have D:=hM.snd x B hk;rw[hc.2,D]at h1;rw[h1]
  intro hc;have hc:¬(y.2.kind=2/\y.2.d?=x.2.d?):=by
   intro h;rw[h.1,h.2]at hc;simp at hc
  rw[bf];intro z hz;rw[List.take_add_one,C]at hz;rcases List.mem_append.1 hz with hz|hz
  .exact u z hz
  simp at hz;subst hz;exact hc
 intro _ u;rw[List.take_length]at u;exact _c ⟨hk,rfl⟩ (u x B)
def rP(t:Z4)(c:SW):Prop:=W c=W t.a?.l/\∀(p:Nat)(a:Int)(P:bU),c[p]?=M a->t.a?.l[p]?=M P->0<=a/\a<=W P.b?.l
def oO(t:Z4)(A:bQ 200 bu)(c:SW):Prop:=∀(p k:Nat)(e:WF)(a:Int),mJ t p k e->c[p]?=M a->(k:Int)<a->e.kind=3->∃b,c[(ag A e.d?).from_.proc.toNat]?=M b/\(ag A e.d?).from_.index<=b
theorem wz{t:Z4}(c:VT t){A:bQ 200 bu}(a:eB t (bJ t) A){p k:Nat}{e:WF}(J:mJ t p k e)(d:e.kind=3):
 ∃(q j:Nat)(y:WF),mJ t q j y/\y.kind=2/\y.d?=e.d?/\y.k?=p/\e.k?=q/\(ag A e.d?).from_=⟨q,j+1⟩:=by
 have u:((⟨p,k+1⟩:aZ),e)∈bJ t:=dV.2 ⟨p,k,J,Y⟩;have z:=(a.rcv _ u d).2;have C:=c.formed _ u;simp only at z C;have B:0<=e.k?:=by rcases C with h|⟨_,h,_⟩;omega;exact h
 obtain⟨q,D⟩:∃q:Nat,e.k?=q:=⟨e.k?.toNat,c?⟩
 rw[D]at z;have⟨j,y,w,b,g,I⟩:=BR.1 z;have:=a.snd (⟨q,j+1⟩,y) (dV.2 ⟨q,j,w,Y⟩) b;simp only at this;rw[g]at this;exact⟨q,j,y,w,b,g,I,D,this⟩
def adF(t:Z4)(A:bQ 200 bu)(c:SW)(s u:aZ):Prop:=∃(p k:Nat)(e:WF)(a:Int)(q j:Nat)(y:WF)(b:Int),mJ t p k e/\c[p]?=M a/\(k:Int)<a/\e.kind=3/\(ag A e.d?).from_=s/\s=⟨q,j+1⟩/\mJ t q j y/\c[q]?=M b/\b<(j:Int)+1/\u=⟨p,k+1⟩
theorem X2{t:Z4}(E:Small t)(R:cm t=M O)(F:VT t){A:bQ 200 bu}(H:eB t (bJ t) A){c:Zg}(K:rP t c.l):Wp (iX t c) λr=>(r.2.2=U->oO t A c.l)/\(r.2.2=O->adF t A c.l r.1 r.2.1):=by
 have ah:=F.few;unfold iX iX.W1;refine fI (λs:Int=>∃n:Nat,s=n/\n<=_j c.l/\∀(p k:Nat)(e:WF)(a:Int),p<n->mJ t p k e->c.l[p]?=M a->(k:Int)<a->e.kind=3->∃b,c.l[(ag A e.d?).from_.proc.toNat]?=M b/\(ag A e.d?).from_.index<=b) (λs:Int=>_j c.l-s.toNat) ⟨0,_i,V? _,λp k e a h=>_c h c?⟩ ?_;rintro s ⟨n,rfl,hn,a__⟩;have ai:=K.1;unfold iX.bk;rw[cn];constructor;intro h;have C:n<_j c.l:=by simpa[len]using h
 have B:n<_j t.a?.l:=c?;have hP:=(E.2 _ (t? B)).1;have⟨r1,r2⟩:=K.2 n _ _ (ζd C) (ζd B);rw[bC C,ζb,bC B,ζb];have⟨y,N,T⟩:=u_ t.a?.l[n].b? c.l[n].toNat c?;rw[show((c.l[n].toNat:Nat):Int)=c.l[n]from c?]at N;rw[N,ζb];unfold iX.W2;refine fI (λs:Int=>∃m:Nat,s=m/\m<=_j y.l/\∀(k:Nat)(e:WF),k<m->mJ t n k e->e.kind=3->∃b,c.l[(ag A e.d?).from_.proc.toNat]?=M b/\(ag A e.d?).from_.index<=b) (λs:Int=>_j y.l-s.toNat) ⟨0,_i,V? _,λk e h=>_c h c?⟩ ?_;rintro s ⟨m,rfl,hm,i⟩;have af:_j y.l=c.l[n].toNat:=by rw[T,C!];omega
 unfold iX.bK;rw[cn];constructor;intro h;have I:m<_j y.l:=by simpa[len]using h
 have D:=cD m c?;have d__:_j y.l-(y? Z ((m:Int)+1)).toNat<_j y.l-((m:Int)).toNat:=by rw[D];simp;omega
 have V:y.l[m]?=t.a?.l[n].b?.l[m]?:=by rw[T,I?,J0 (show m<c.l[n].toNat from c?)]
 have u:mJ t n m y.l[m]:=⟨_,ζd B,by rw[<-V];exact ζd I⟩;rw[bC I,ζb];generalize y.l[m]=e at u;rw[cn];constructor;intro d;have d:e.kind=3:=by simpa using d
 have⟨q,j,z,l,z1,z2,z3,z4,z5⟩:=wz F H u d;have J:=CA E R H (x:=(⟨q,j+1⟩,z)) (dV.2 ⟨q,j,l,_i⟩) z1;simp only at J;rw[z2]at J;have ab:=l;have⟨Q,hQ,_⟩:=l;have L:q<_j c.l:=by have:=(ζe.1 hQ).1;omega
 rw[J,ζb];simp only;rw[bC L,ζb,cn];constructor;intro W;have W:(j:Int)+1>c.l[q]:=by simpa using W
 exact(bf _).2 ((bf _).2 ((bf _).2 ⟨λh=>(by cases h),λ_=>⟨n,m,e,c.l[n],q,j,z,c.l[q],u,ζd C,c?,d,z5,_i,ab,ζd L,c?,by simp[D]⟩⟩));intro X;have X:¬((j:Int)+1>c.l[q]):=by simpa using X
 refine(bf _).2 ⟨⟨m+1,D,c?,λk Y ad w b__=>?_⟩,d__⟩;by_cases o:k=m;subst o;have:Y=e:=by have⟨P1,a1,v⟩:=u;have⟨P2,e__,f⟩:=w;rw[a1]at e__;cases e__;rw[v]at f;cases f;rfl
 subst this;rw[z5];exact⟨c.l[q],by simp only[u!];exact ζd L,by simp only;omega⟩;exact i k Y c? w b__;intro d;have d:¬e.kind=3:=by simpa using d
 refine(bf _).2 ⟨⟨m+1,D,c?,λk Y ad w b__=>?_⟩,d__⟩;by_cases o:k=m;subst o;have:Y=e:=by have⟨P1,a1,v⟩:=u;have⟨P2,e__,f⟩:=w;rw[a1]at e__;cases e__;rw[v]at f;cases f;rfl
 subst this;exact _c b__ d;exact i k Y c? w b__;intro h;have ae:_j y.l<=m:=by simpa[len]using h
 have P:=cD n c?;refine(bf _).2 ((bf _).2 ⟨⟨n+1,P,c?,λp k e a hp u S c__ g=>?_⟩,by show _-(y? Z ((n:Int)+1)).toNat<_;rw[P];simp;omega⟩);by_cases ep:p=n;subst ep;rw[ζd C]at S;cases S;exact i k e c? u g;exact a__ p k e a c? u S c__ g;intro h;have ae:_j c.l<=n:=by simpa[len]using h
 refine(bf _).2 ((bf _).2 ⟨λ_ p k e a u S c__ g=>a__ p k e a (by have:=(ζe.1 S).1;omega) u S c__ g,λh=>(by cases h)⟩)
theorem Gm{t:Z4}(f:Small t)(g:cm t=M O)(i:VT t){A:bQ 200 bu}(l:eB t (bJ t) A){c:Zg}(B:rP t c.l):Wp (iX t c) λr=>(r.2.2=U↔oO t A c.l):=by refine(X2 f g i l B).mono λr d=>⟨d.1,λm=>?_⟩;cases h:r.2.2 with|false=>rfl|true=>obtain⟨p,k,e,a,q,j,y,b,n,u,w,z,C,D,_,o,I,-⟩:=d.2 h;have⟨J,g1,g2⟩:=m p k e a n u w z;rw[C,D]at g1 g2;simp only[u!]at g1 g2;rw[o]at g1;cases g1;omega
theorem zi{s:Zb}{p:Zg->aY X'}{f:Zg->X'}(hp:∀x∈s.l,p x=M (f x))(B:W s.l<1073741824):jx s p=M (s.l.any f):=by have h:iC s p=M (place f s.l):=xF hp c? (λi=>rfl);unfold jx;rw[h,ζb,xQ]
theorem Gc{t:Z4}(d:Small t){c:Zg}(D:W c.l=W t.a?.l):Wp (lH t c) λb=>(b=O↔rP t c.l):=by
 have f:=d.1;unfold lH lH.W1;refine fI (λs:Int=>∃n:Nat,s=n/\n<=W c.l/\∀(p:Nat)(a:Int)(P:bU),p<n->c.l[p]?=M a->t.a?.l[p]?=M P->0<=a/\a<=W P.b?.l) (λs:Int=>W c.l-s.toNat) ⟨0,Y,V? _,λp a P h=>_c h c?⟩ ?_;rintro s ⟨n,rfl,i,g⟩;unfold lH.bk;rw[cn];constructor;intro h;have w:n<W c.l:=by simpa[len]using h
 have u:n<W t.a?.l:=c?;have I:=cD n c?;rw[bC w,ζb,bC u,ζb,jU,ζb,cn];constructor;intro z;have z:c.l[n]<0\/c.l[n]>t.a?.l[n].b?.l.length:=by simpa[len]using z
 refine(bf _).2 ((bf _).2 ⟨λh=>(by cases h),λJ=>?_⟩);have:=J.2 n _ _ (ζd w) (ζd u);omega;intro z;have z:0<=c.l[n]/\c.l[n]<=t.a?.l[n].b?.l.length:=by simpa[len]using z
 refine(bf _).2 ⟨⟨n+1,I,c?,λp a P Q B C=>?_⟩,by rw[I];simp;omega⟩;by_cases e:p=n;subst e;rw[ζd w]at B;cases B;rw[ζd u]at C;cases C;exact z;exact g p a P c? B C;intro h;have L:W c.l<=n:=by simpa[len]using h
 refine(bf _).2 ((bf _).2 ⟨λ_=>⟨D,λp a P B C=>g p a P (by have:=(ζe.1 B).1;omega) B C⟩,λ_=>rfl⟩)
def Code(t:Z4)(A:bQ 200 bu)(c:SW)(r:Int):Prop:=W c≠W t.a?.l/\r=1\/W c=W t.a?.l/\¬rP t c/\r=2\/rP t c/\¬oO t A c/\r=18\/rP t c/\oO t A c/\r=0
theorem Sh{t:Z4}(a:Small t)(d:cm t=M O)(i:VT t){A:bQ 200 bu}(j:eB t (bJ t) A)(c:Zg):
 Wp (di t (Sl.row [c]:Zb) (Sl.nil:Zg)) λr=>Code t A c.l r:=by
 unfold di zN;rw[d,ζb,bq,zi (f:=λz=>(lJ z t).getD U) (λz _=>G_.ok ((bf _).2 trivial)) (by simp[Sl.l]),ζb,ζb,ζb]
 have w:(!((Sl.row [c]:Zb).l.any λz=>(lJ z t).getD U))=(len c==len t.a?):=by simp[Sl.l,lJ]
 rw[w,cn];constructor
 .intro h;have B:W c.l=W t.a?.l:=by
   have:(W c.l:Int)=W t.a?.l:=by simpa[len]using h
   omega
  unfold di.W1;refine fI (λs:Int=>s=0\/s=1/\rP t c.l) (λs:Int=>1-s.toNat) (.inl Y) ?_
  intro s D;unfold di.bk;rcases D with rfl|⟨rfl,m⟩
  .rw[show _p ((0:Int)<len (Sl.row [c]:Zb))=O from Y,bq,show idx (Sl.row [c]:Zb) 0=M c from Y,ζb,ey];refine(Gc a B).mono λb u=>?_
   rw[cn];exact⟨λI=>(bf _).2 ⟨.inr ⟨Y,u.1 I⟩,by decide⟩,λC=>(bf _).2 ((bf _).2 (.inr (.inl ⟨B,λh=>(by rw[u.2 h]at C;cases C),Y⟩)))⟩
  rw[show _p ((1:Int)<len (Sl.row [c]:Zb))=U from Y,bt,bf];show Wp (di.W2 (Sl.row [c]) Sl.nil 0 0 t) _;unfold di.W2;refine fI (λs:Int=>s=0) (λ_=>0) Y ?_
  rintro s rfl;unfold di.bK;rw[show _p ((0:Int)<0)=U from Y,bt,bf];show Wp (di.W3 (Sl.row [c]) 1 0 t) _;unfold di.W3;refine fI (λs:Int=>s=0\/s=1/\oO t A c.l) (λs:Int=>1-s.toNat) (.inl Y) ?_
  intro s D;unfold di.dG;rcases D with rfl|⟨rfl,k⟩
  .rw[show _p ((0:Int)<1)=O from Y,bq,show idx (Sl.row [c]:Zb) 0=M c from Y,ζb];unfold yL;rw[ey,ey];refine(Gm a d i j m).mono λr g=>?_
   rw[bf,cn];exact⟨λu=>(bf _).2 ⟨.inr ⟨Y,g.1 (by simpa using u)⟩,by decide⟩,λu=>(bf _).2 ((bf _).2 (.inr (.inr (.inl ⟨m,λh=>(by have:=g.2 h;simp[this]at u),Y⟩))))⟩
  rw[show _p ((1:Int)<1)=U from Y,bt,bf];exact(bf _).2 (.inr (.inr (.inr ⟨m,k,Y⟩)))
 intro h;exact(bf _).2 (.inl ⟨λe=>(by simp[len,e]at h),Y⟩)
theorem Code.zero{t:Z4}{A:bQ 200 bu}{c:SW}{r:Int}(h:Code t A c r):r=0↔rP t c/\oO t A c:=by rcases h with⟨h,rfl⟩|⟨_,h,rfl⟩|⟨_,h,rfl⟩|⟨a,w,rfl⟩;exact⟨λh=>(by cases h),λu=>_c u.1.1 h⟩;exact⟨λh=>(by cases h),λu=>_c u.1 h⟩;exact⟨λh=>(by cases h),λu=>_c u.2 h⟩;exact⟨λ_=>⟨a,w⟩,λ_=>rfl⟩
theorem Wr{t:Z4}(a:Small t)(b:cm t=M O)(d:VT t){A:bQ 200 bu}(e:eB t (bJ t) A)(c:Zg):Wp (di t (Sl.row [c]:Zb) (Sl.nil:Zg)) λr=>(r=0↔rP t c.l/\oO t A c.l):=(Sh a b d e c).mono λ_ h=>h.zero
def Cons(t:Z4)(A:bQ 200 bu)(c:SW):Prop:=rP t c/\oO t A c
def places{α:Type}(f:α->X')(l:aX α):ST:=(B! (W l)).filter λk=>match l[k]?with|some x=>f x|none=>U
theorem Py{α:Type}{f:α->X'}{l:aX α}{k:Nat}:k∈places f l↔∃x,l[k]?=M x/\f x=O:=by unfold places;rw[List.mem_filter,mem_range];constructor;rintro⟨a,u⟩;rw[ζd a]at u;exact⟨_,ζd a,u⟩;rintro⟨x,a,u⟩;exact⟨(ζe.1 a).1,by rw[a];exact u⟩
theorem MK{α:Type}(f:α->X')(l:aX α):(places f l).Nodup:=List.nodup_range.sublist (List.filter_sublist ..)
theorem GF{α:Type}(f:α->X'):∀l:aX α,W (places f l)=l.countP f:=by intro l;unfold places;rw[<-List.countP_eq_length_filter];induction l with|nil=>rfl|cons x l u=>rw[Z?,List.range_succ_eq_map,c5,List.countP_map,c5];simp only[List.getElem?_cons_zero];rw[<-u];congr 1
theorem Jq{α β:Type}{f:α->X'}{g:β->X'}{l:aX α}{m:aX β}(φ:Nat->Nat)(h:∀k∈places f l,φ k∈places g m)(hi:∀k B,k∈places f l->B∈places f l->φ k=φ B->k=B):l.countP f<=m.countP g:=by
 rw[<-GF,<-GF];have w:((places f l).map φ).Nodup:=by unfold Nodup;rw[f4];exact Pairwise.imp_of_mem (λ{a b}z C u D=>u (hi a b z C D)) (MK f l)
 have:=By (r:=places g m) w λx d=>by obtain⟨k,c,rfl⟩:=mem_map.1 d;exact h k c
 simpa using this
end Go.VE
namespace Go.VE
def mT(kind m:Int)(x:aZ×WF):X':=x.2.kind==kind&&x.2.d?==m
def iL(t:Z4)(kind m:Int):aZ:=match(bJ t).find? (mT kind m)with
 |some x=>x.1|none=>⟨0,0⟩
theorem O6{t:Z4}{kind m:Int}{p:Nat}{P:bU}(B:p<9223372036854775806)(D:t.a?.l[p]?=M P)(J:W P.b?.l<1073741824):∀(q i:Nat),i+q=W P.b?.l->
 bM (λq:Int=>eE.bK kind m p t ⟨0,0⟩ q) (i:Int)=M (match(jM p i (P.b?.l.drop i)).find? (mT kind m)with|some x=>.r x.1|none=>.x ()):=by
 have u:idx t.a? (p:Int)=M P:=by rw[iJ];exact D
 intro q
 induction q with
 |zero=>
  intro i hi;rw[fM];unfold eE.bK;rw[u,ζb,show _p ((i:Int)<len P.b?)=U from by simp[len];omega,bt,K! c?]
  rfl
 |succ q z=>
  intro i hi;have w:i<W P.b?.l:=c?
  rw[fM];have C:eE.bK kind m p t ⟨0,0⟩ i=M (if mT kind m (⟨p,(i:Int)+1⟩,P.b?.l[i])then .r ⟨p,(i:Int)+1⟩else .n ((i+1:Nat):Int)):=by unfold eE.bK;rw[u,ζb,show _p ((i:Int)<len P.b?)=O from by simp[len];omega,bq,ζb,bC w,ζb,nu,ζb,cD i c?,wM];rfl
  rw[C,ζb,Y? w];simp only[jM,List.find?_cons]
  cases d:mT kind m (⟨p,(i:Int)+1⟩,P.b?.l[i])with
  |true=>rfl|false=>simp only[v?,M'];exact z (i+1) c?
theorem Qn{t:Z4}(a:Small t){kind m:Int}:∀(q p:Nat),p+q=W t.a?.l->
 bM (λq:Int=>eE.bk kind m t ⟨0,0⟩ q) (p:Int)=M (match(gO p (t.a?.l.drop p)).find? (mT kind m)with|some x=>.r x.1|none=>.x ()):=by
 have b:=a.1;intro q
 induction q with
 |zero=>
  intro p w;rw[fM];unfold eE.bk;rw[show _p ((p:Int)<len t.a?)=U from by simp[len];omega,bt,K! c?]
  rfl
 |succ q z=>
  intro p w;have u:p<W t.a?.l:=c?
  have B:bM (λq:Int=>eE.bK kind m p t ⟨0,0⟩ q) 0=M (match(jM p 0 t.a?.l[p].b?.l).find? (mT kind m)with|some x=>.r x.1|none=>.x ()):=O6 (t:=t) (kind:=kind) (m:=m) c? (ζd u) (a.2 _ (t? u)).1 (t.a?.l[p].b?.l.length) 0 c?
  rw[fM];unfold eE.bk;rw[show _p ((p:Int)<len t.a?)=O from by simp[len];omega,bq]
  unfold eE.W2;rw[B,Y? u];simp only[gO,e8]
  cases C:(jM p 0 t.a?.l[p].b?.l).find? (mT kind m)with
  |some x=>rfl|none=>
   simp only[ζb,Fw.elim,Option.none_or];rw[cD p c?]
   exact z (p+1) c?
theorem find_eq{t:Z4}(a:Small t)(kind m:Int):eE t kind m=M (iL t kind m):=by unfold eE eE.W1;have u:bM (λq:Int=>eE.bk kind m t ⟨0,0⟩ q) 0=M (match(bJ t).find? (mT kind m)with|some x=>.r x.1|none=>.x ()):=Qn a (kind:=kind) (m:=m) (W t.a?.l) 0 c?;rw[u];unfold iL;cases(bJ t).find? (mT kind m)<;>rfl
theorem yR{t:Z4}{kind m:Int}{x:aZ×WF}(h:(bJ t).find? (mT kind m)=M x):x∈bJ t/\x.2.kind=kind/\x.2.d?=m/\iL t kind m=x.1:=by have a:=List.find?_some h;simp only[mT,ζh,_g]at a;exact⟨List.mem_of_find?_eq_some h,a.1,a.2,by unfold iL;rw[h]⟩
theorem Lm{t:Z4}{kind m:Int}{x:aZ×WF}(B:x∈bJ t)(a:x.2.kind=kind)(D:x.2.d?=m):∃y,(bJ t).find? (mT kind m)=M y:=by cases u:(bJ t).find? (mT kind m)with|some y=>exact⟨y,rfl⟩|none=>rw[i8]at u;exact _c (u x B) (by simp[mT,a,D])
theorem Qd{t:Z4}{kind m:Int}(h:∀x∈bJ t,¬(x.2.kind=kind/\x.2.d?=m)):iL t kind m=⟨0,0⟩:=by
 unfold iL;have:(bJ t).find? (mT kind m)=G:=by rw[i8];intro x u;simp only[mT,ζh,_g];exact h x u
 rw[this]
theorem Xh{t:Z4}{p k:Nat}{e:WF}(h:mJ t p k e)(a:k<9223372036854775807):ya t ⟨p,k+1⟩=M e:=by have⟨P,u,w⟩:=h;unfold ya;dsimp only;rw[show idx t.a? (p:Int)=M P from by rw[iJ];exact u,ζb,show y? Z ((k:Int)+1-1)=(k:Int)from by rw[fH _ c? c?];omega,show idx P.b? (k:Int)=M e from by rw[iJ];exact w];rfl
def yQ(t:Z4)(x:aZ×WF):Int:=if x.2.kind=1 then 0 else if iL t x.2.kind x.2.d?=x.1 then(if x.2.kind=3 then(if vl t x.2.k? x.2.d? x.1.proc then 0 else 7)else 0)else 8
theorem Sa{t:Z4}(b:Small t){p k:Nat}{e:WF}(h:mJ t p k e)(o:mQ (W t.a?.l) p e):jI t ⟨p,k+1⟩=M (yQ t (⟨p,k+1⟩,e)):=by
 have c:k<1073741824:=by have⟨P,y,X⟩:=h;have:=(b.2 P (s? y)).1;have:=(ζe.1 X).1;omega
 unfold jI yQ;rw[Xh h c?,ζb];dsimp only;by_cases a:e.kind=1;rw[show(e.kind==1)=O from by simp[a],bq,J0 a];rw[show(e.kind==1)=U from by simp[a],bt,K' a,find_eq b,ζb];have D:N_ (iL t e.kind e.d?) ⟨p,(k:Int)+1⟩=_p (iL t e.kind e.d?=⟨p,(k:Int)+1⟩):=by unfold N_;rw[Bool.eq_iff_iff];cases iL t e.kind e.d?;simp
 rw[D];by_cases w:iL t e.kind e.d?=⟨p,(k:Int)+1⟩;rw[J0 w,show _p (iL t e.kind e.d?=⟨p,(k:Int)+1⟩)=O from by simpa using w,bq];by_cases B:e.kind=3;rw[J0 B,show(e.kind==3)=O from by simp[B],bq];have g:0<=e.k?/\e.k?<W t.a?.l:=by rcases o with h|⟨_,a,w,_⟩;exact _c h a;exact⟨a,w⟩
 have j:e.k?.toNat<W t.a?.l:=c?;have S:=ζd j;have F:=(b.2 _ (t? j)).1;generalize q:t.a?.l[e.k?.toNat]=Q at *;have I:idx t.a? e.k?=M Q:=by rw[P_ g.1];exact S
 have J:vl t e.k? e.d? p=Q.b?.l.any λs=>s.kind==2&&s.d?==e.d?&&s.k?==p:=by unfold vl;rw[S]
 unfold jI.W1;refine Wp.eq (fI (λz:X'×Int=>∃m:Nat,z.2=m/\m<=W Q.b?.l/\z.1=(Q.b?.l.take m).any λs=>s.kind==2&&s.d?==e.d?&&s.k?==p) (λz=>W Q.b?.l-z.2.toNat) ⟨0,Y,V? _,Y⟩ ?_);rintro⟨s,i⟩ ⟨m,hi,d,C⟩;simp only at hi C;subst hi;unfold jI.bk;dsimp only;rw[I,ζb,cn];constructor;intro L;have u:m<W Q.b?.l:=by simpa[len]using L
 have T:=cD m c?;rw[ζb,bC u,ζb,nu,ζb,nu,ζb,jU,ζb,bf];refine⟨⟨m+1,T,c?,?_⟩,by show _-(y? Z ((m:Int)+1)).toNat<_;rw[T];simp;omega⟩;show(s||_)=_;rw[a!,ζd u,List.any_append,C];simp;intro L;have u:W Q.b?.l<=m:=by simpa[len]using L
 rw[O? u]at C;refine(bf _).2 ?_;rw[J,<-C];cases s;exact(bf _).2 rfl;exact(bf _).2 rfl;rw[K' B,show(e.kind==3)=U from by simp[B],bt];rw[K' w,show _p (iL t e.kind e.d?=⟨p,(k:Int)+1⟩)=U from by simpa using w,bt]
theorem PT{t:Z4}(J:∀x∈bJ t,mQ (W t.a?.l) x.1.proc x.2):(∀x∈bJ t,yQ t x=0)↔A9 t:=by
 constructor;intro h;have key:∀x∈bJ t,x.2.kind≠1->iL t x.2.kind x.2.d?=x.1:=λx u a=>by have:=h x u;unfold yQ at this;rw[K' a]at this;split at this;assumption;cases this
 refine⟨λx u y w z B C=>?_,λx u y w z B C=>?_,λx u z=>?_⟩;rw[<-key x u c?,<-key y w c?,z,B,C];rw[<-key x u c?,<-key y w c?,z,B,C];have:=h x u;unfold yQ at this;rw[K' c?,J0 (key x u c?),J0 z]at this;split at this;assumption;cases this;intro h x u;unfold yQ;by_cases k1:x.2.kind=1;rw[J0 k1];rw[K' k1];have⟨y,w⟩:=Lm u Y Y;have⟨D,d,y3,y4⟩:=yR w;have a:x.2.kind=2\/x.2.kind=3:=by rcases J x u with h|⟨h,_⟩;exact _c h k1;exact h
 have I:iL t x.2.kind x.2.d?=x.1:=by rw[y4];rcases a with a|a;exact h.snd y D x u (by rw[d,a]) a y3;exact h.rcv y D x u (by rw[d,a]) a y3
 rw[J0 I];by_cases k3:x.2.kind=3;rw[J0 k3,J0 (h.has x u k3)];rw[K' k3]
theorem A3{t:Z4}(D:∀x∈bJ t,mQ (W t.a?.l) x.1.proc x.2)(J:A9 t){z:aZ}{f:WF}(B:(z,f)∈bJ t)(a:f.kind=3):∃e,(iL t 2 f.d?,e)∈bJ t/\e.kind=2/\e.d?=f.d?:=by
 have h:=J.has _ B a;have d:0<=f.k?:=by rcases D _ B with h|⟨_,h,_⟩;grind;omega
 rw[show f.k?=(f.k?.toNat:Nat)from c?,BR]at h;have⟨k,e,u,b,w,_⟩:=h;have⟨y,C⟩:=Lm (dV.2 ⟨_,k,u,Y⟩:(⟨(f.k?.toNat:Nat),k+1⟩,e)∈bJ t) b w;have⟨I,L,y3,y4⟩:=yR C;grind
theorem MW.find{t:Z4}(J:∀x∈bJ t,mQ (W t.a?.l) x.1.proc x.2)(B:A9 t){y z:aZ}{f:WF}(h:MW t y z)(D:(z,f)∈bJ t):f.kind=3/\iL t 2 f.d?=y:=by have⟨e,I,a,w,C,u,L⟩:=h;cases Bz w D Y;have⟨g,a1,d,Q⟩:=A3 J B D u;exact⟨u,B.snd _ a1 _ a d C o?⟩
theorem Ep{t:Z4}(b:Small t)(J:∀x∈bJ t,mQ (W t.a?.l) x.1.proc x.2)(B:A9 t){z:aZ}(D:Vd t z):
 Wp (dS t z) λs=>W s.l<=2/\∀y,y∈s.l↔Edge t y z:=by
 obtain⟨p,k,f,w,rfl,u⟩:=D.at_;have d:k<1073741824:=by have⟨P,B,I⟩:=w;have:=(b.2 P (s? B)).1;grind
 have j:∀s:Sl aZ,W s.l<=1->(∀y,y∈s.l↔Vd t y/\(⟨p,k+1⟩:aZ)=⟨y.proc,y.index+1⟩)->Wp (dS.J1 s t ⟨p,k+1⟩) λs=>W s.l<=2/\∀y,y∈s.l↔Edge t y ⟨p,k+1⟩:=by intro s T C;unfold dS.J1;rw[Xh w c?,ζb,cn];constructor;intro g;have g:f.kind=3:=(by grind);rw[find_eq b,ζb];unfold ec;rw[J0 c?,ζb,bf];refine⟨by show(s.l++[_]).length<=2;grind,λy=>?_⟩;show y∈s.l++[iL t 2 f.d?]↔_;rw[M!,d!,C];have⟨e,a1,m,Q⟩:=A3 J B u g;constructor;rintro(h|rfl);exact⟨h.1,D,.inl h.2⟩;exact⟨⟨e,a1⟩,D,.inr ⟨e,f,a1,u,m,g,Q⟩⟩;rintro⟨c,_,a|a⟩;grind;exact .inr (a.find J B u).2.symm;intro g;refine(bf _).2 ⟨c?,λy=>(C y).trans ⟨λh=>⟨h.1,D,.inl h.2⟩,λ⟨c,_,a⟩=>⟨c,a.elim id λa=>?_⟩⟩⟩;have:=(a.find J B u).1;grind
 unfold dS;rw[cn];constructor
 .intro h;have h:k+1>1:=by grind
  refine j _ (by simp[Sl.l]) λy=>?_
  have S:y? Z (k+1-1)=k:=by rw[fH _ c? c?];omega
  simp only[Sl.l,d!,S,aZ.mk.injEq];constructor
  .rintro rfl;have⟨P,B,I⟩:=w;have:=(ζe.1 I).1;exact⟨⟨P.b?.l[k-1],dV.2 ⟨p,k-1,⟨P,B,ζd c?⟩,by simp;omega⟩⟩,Y,Y⟩
  simp_all
 intro h;refine j _ (by simp[Sl.l]) λy=>⟨λL=>by simp[Sl.l]at L,λ⟨L,I⟩=>?_⟩
 obtain⟨q,i,f,_,rfl,_⟩:=L.at_
 grind
theorem aaH{α:Type}{r:α->α->Prop}{x:α}(h:Acc r x):¬TransGen r x x:=by induction h with|intro x _ u=>intro h;cases h with|single h=>exact u x h (.single h)|tail h1 w=>exact u _ w (TransGen.trans (.single w) h1)
theorem OX:∀{d:ST}{i k:Nat},d[i]?=M k->(d.set i (k+1)).sum=d.sum+1
 |[],_,_,h=>o?|x::d,0,k,h=>g?|x::d,i+1,k,h=>by have:=OX (d:=d) (i:=i) (k:=k) g?;grind
theorem Sf:∀{d l:ST},W d=W l->(∀(i a b:Nat),d[i]?=M a->l[i]?=M b->a<=b)->d.sum<=l.sum
 |[],_,_,_=>f?|x::d,[],h,_=>o?|x::d,y::l,h,B=>by have c:=B 0 x y Y Y;have u:=Sf (d:=d) (l:=l) g? λi a b w z=>B (i+1) a b g? g?;simp;omega
def nI(d:ST):SW:=d.map ofNat
def sI(s:Zg):Nat:=(s.l.map toNat).sum
theorem Kc(d:ST):sI (.row (nI d))=d.sum:=by unfold sI nI;rw[show(Sl.row (d.map ofNat)).l=d.map ofNat from Y,map_map,show(toNat ∘ ofNat)=id from Y,List.map_id]
theorem Sz(d:ST):W (nI d)=W d:=by simp[nI]
structure Kh(t:Trace)(d:List Nat):Prop where
 len:d.length=t.a?.l.length
 le:∀(p k:Nat)P,d[p]?=some k->t.a?.l[p]?=some P->k<=P.b?.l.length
 acc:∀(p k j:Nat),d[p]?=some k->j<k->Acc (Edge t) ⟨p,j+1⟩
def uJ(t:Z4):Nat:=(t.a?.l.map λP=>W P.b?.l).sum
theorem Kh.sum{t:Z4}{d:ST}(h:Kh t d):d.sum<=uJ t:=Sf (by simp[h.len]) λi a b z u=>by cases w:t.a?.l[i]?with|none=>grind|some P=>simp[w]at u;rw[<-u];exact h.le i a P z w
theorem Gx{d:ST}{p:Nat}(h:p<W d):Sl.iF (.row (nI d)) (p:Int)=M p:=by unfold Sl.iF;rw[J0 ⟨c?,by simpa[Sl.l,Sz]using h⟩];rfl
theorem CS{d:ST}{p k:Nat}(h:d[p]?=M k):Sl.get (.row (nI d)) p=M (k:Int):=by unfold Sl.get nI;rw[show(Sl.row (d.map ofNat)).l=d.map ofNat from Y,Q?,h];rfl
def Mv(t:Z4)(B:ST)(s:Zg)(b:X')(d:ST):Prop:=s=.row (nI d)/\Kh t d/\B.sum<=d.sum/\(b=O->B.sum<d.sum)
def KQ(t:Z4)(B:ST)(p:Nat)(w:Fw (Zg×X'×Int) (Zg×X') Empty):Prop:=∃u z C,w=.n (u,z,((p+1:Nat):Int))/\Mv t B u z C
theorem Yv{t:Z4}(c:Small t)(l:∀x∈bJ t,mQ (_j t.a?.l) x.1.proc x.2)(m:A9 t){B n:ST}{s:Zg}{b:X'}{p:Nat}(hp:p<_j t.a?.l)(v:Mv t B s b n):
 Wp (fc.W3 s b p t) (KQ t B p):=by
 have Y:=bC hp;have hn:=c.1;have af:=(c.2 _ (t? hp)).1;have C:=ζd hp;generalize t.a?.l[p]=P at *;refine fI (λq:Zg×X'=>∃d,Mv t B q.1 q.2 d) (λq=>uJ t-sI q.1) ⟨n,v⟩ ?_
 rintro⟨s,b⟩ ⟨d,rfl,u,hd,A⟩;have w:p<_j d:=by rw[u.len];omega
 have a:=ζd w;generalize d[p]=k at a;have ah:=u.le p k P a C;have stop:∀{W:Empty->Prop},Wp (M (Fw.x (Sl.row (nI d),b))) (Ws (λq:Zg×X'=>∃d,Mv t B q.1 q.2 d) (λq=>uJ t-sI q.1) (λe=>Wp (M (Fw.n (e.1,e.2,y? Z (p+1)))) (KQ t B p)) W (Sl.row (nI d),b)):=by refine(bf _).2 ((bf _).2 ⟨_,_,d,?_,_i,u,hd,A⟩);rw[cD p c?]
 unfold fc.dG;rw[Gx w,ζb,CS a,ζb,Y,ζb,cn];refine⟨λh=>?_,λ_=>stop⟩
 have D:k<_j P.b?.l:=g?
 have e__:mJ t p k P.b?.l[k]:=⟨P,C,ζd D⟩;have z:(⟨p,k+1⟩,P.b?.l[k])∈bJ t:=dV.2 ⟨p,k,e__,_i⟩;have go:(P.b?.l[k].kind=3->∀q j:Nat,iL t 2 P.b?.l[k].d?=⟨q,j+1⟩->∃X,d[q]?=M X/\j<X)->∀{o:Zg×X'->Prop}{W:Empty->Prop},Wp (fc.J4 (.row (nI d)) p t) (Ws (λq:Zg×X'=>∃d,Mv t B q.1 q.2 d) (λq=>uJ t-sI q.1) o W (Sl.row (nI d),b)):=by intro E o W;unfold fc.J4;rw[Gx w,ζb,CS a,ζb,ζb];unfold Sl.put;rw[J0 (by simpa[Sl.l,Sz]using w),ζb,bf];have b__:(nI d).set p (y? Z ((k:Int)+1))=nI (d.set p (k+1)):=(by rw[cD k c?];unfold nI;simp_all);have I:=OX a;have J:Kh t (d.set p (k+1)):=(by refine⟨by simp[u.len],λq i Q hi r=>?_,λq i j hi F=>?_⟩;rw[D?]at hi;split at hi;grind;exact u.le q i Q hi r;rw[D?]at hi;split at hi;rename_i e;subst e;cases hi;by_cases H:j<k;exact u.acc p k j a H;have:j=k:=c?;subst this;refine Acc.intro _ λy K=>?_;obtain⟨L,_,g|g⟩:=K;obtain⟨q,i,f,_,rfl,_⟩:=L.at_;simp[aZ.mk.injEq]at g;have e1:q=p:=(by omega);subst e1;exact u.acc q j i a c?;have⟨c__,a__⟩:=g.find l m z;obtain⟨q,i,f,_,rfl,_⟩:=L.at_;have⟨X,N,R⟩:=E c__ q i a__;exact u.acc q X i N R;exact u.acc q i j hi F);have ai:=J.sum;refine⟨⟨_,g?,J,g?,λ_=>g?⟩,?_⟩;show uJ t-sI (.row ((nI d).set p (y? Z ((k:Int)+1))))<uJ t-sI (.row (nI d));rw[b__,Kc,Kc,I];grind
 dsimp only;rw[ζb,ζb,CS a,ζb,bC D,ζb,cn];refine⟨λc__=>?_,λc__=>go λh=>g?⟩
 have c__:P.b?.l[k].kind=3:=g?
 have⟨e,a1,a2,a3⟩:=A3 l m z c__;have⟨q,j,S,T⟩:=dV.1 a1;simp only at T;have d__:q<_j d:=by have⟨Q,r,_⟩:=S;rw[u.len];grind
 have V:=ζd d__;rw[find_eq c,ζb,T,Gx d__,ζb,CS V,ζb,cn];refine⟨λ_=>stop,λh=>go λ_ q' j' hh=>?_⟩
 grind
theorem O8{t:Z4}(a:Small t)(T:∀x∈bJ t,mQ (_j t.a?.l) x.1.proc x.2)(B:A9 t):Wp (fc t) λb=>b=O->¬NY t:=by
 have l:=a.1;unfold fc nC;rw[J0 g?,ζb];have N:(Sl.row (w? (len t.a?).toNat 0))=.row (nI (w? (_j t.a?.l) 0)):=by simp[nI]
 rw[N];refine fI (λs:Zg=>∃d,s=.row (nI d)/\Kh t d) (λs=>uJ t-sI s) ⟨_,_i,f?,λp k P h _=>g?,λp k j h m=>g?⟩ ?_;rintro s ⟨D,rfl,Q⟩;refine fI (λq:Zg×X'×Int=>∃(n:Nat)(d:ST),q.2.2=n/\n<=_j t.a?.l/\Mv t D q.1 q.2.1 d) (λq=>_j t.a?.l-q.2.2.toNat) ⟨0,D,_i,V? _,_i,Q,z? _,f?⟩ ?_;rintro⟨s,b,i⟩ ⟨n,d,hi,S,c⟩;subst hi;unfold fc.bK;rw[cn];constructor;intro h;have u:n<_j t.a?.l:=by grind
 refine(Yv a T B u c).mono ?_;rintro w ⟨o,r,a__,rfl,F⟩;exact⟨⟨n+1,a__,_i,c?,F⟩,by simp;omega⟩;intro _;obtain⟨rfl,z,W,I⟩:=c;rw[bf];show Wp (bg b _ _) _;rw[cn];refine⟨λX=>(bf _).2 ⟨⟨d,_i,z⟩,?_⟩,λ_=>(bf _).2 ?_⟩;show uJ t-sI (.row (nI d))<uJ t-sI (.row (nI D));rw[Kc,Kc];have:=I X;have:=z.sum;omega;refine fI (λi:Int=>∃n:Nat,i=n/\n<=_j t.a?.l/\∀p,p<n->∀P,t.a?.l[p]?=M P->d[p]?=M (_j P.b?.l)) (λi:Int=>_j t.a?.l-i.toNat) ⟨0,_i,V? _,λp J=>_c J c?⟩ ?_;rintro i ⟨n,rfl,Y,b__⟩;unfold fc.AM;rw[cn];constructor;intro h;have u:n<_j t.a?.l:=by grind
 have C:n<_j d:=by rw[z.len];omega
 have f:=ζd C;rw[Gx C,ζb,CS f,ζb,bC u,ζb,cn];refine⟨λ_=>(bf _).2 ((bf _).2 λh=>by cases h),λh=>(bf _).2 ⟨⟨n+1,cD n c?,c?,λp J P B=>?_⟩,by rw[cD n c?];simp;omega⟩⟩;by_cases e:p=n;subst e;rw[ζd u]at B;have:=z.le p _ _ f (ζd u);grind;grind;intro h;have v:_j t.a?.l<=n:=g?;refine(bf _).2 ((bf _).2 λ_⟨x,L⟩=>?_);obtain⟨p,k,e,⟨P,B,g⟩,rfl,_⟩:=L.l.at_;have y:=(ζe.1 B).1;exact aaH (z.acc p _ k (b__ p c? P B) (ζe.1 g).1) L
def tF(out:aX (aX X'))(y:aZ):X':=match out[y.proc.toNat]?with
 |some row=>row[y.index.toNat]?.getD U|none=>U
theorem Cr{t:Z4}{out:aX (aX X')}{p k:Nat}{row:aX X'}(a:out[p]?=M row)(b:k+1<W row){z:aZ}(B:Vd t z):
 tF (out.set p (row.set (k+1) O)) z=(_p (z=⟨p,k+1⟩)||tF out z):=by
 obtain⟨q,j,e,_,rfl,_⟩:=B.at_;have C:=(ζe.1 a).1;unfold tF;have e1:(⟨(q:Int),(j:Int)+1⟩:aZ).proc.toNat=q:=rfl;have e2:(⟨(q:Int),(j:Int)+1⟩:aZ).index.toNat=j+1:=by show((j:Int)+1).toNat=j+1;omega
 rw[e1,e2,D?]
 by_cases u:p=q
 .subst u;rw[J0 Y,J0 C,a];dsimp only;rw[D?]
  by_cases w:k=j
  .subst w;simp[b]
  rw[K' c?,show _p ((⟨(p:Int),(j:Int)+1⟩:aZ)=⟨p,k+1⟩)=U from by simp;omega,Bool.false_or]
 rw[K' u,show _p ((⟨(q:Int),(j:Int)+1⟩:aZ)=⟨p,k+1⟩)=U from by simp;omega,Bool.false_or]
theorem Db {α:Type} {f g:α->Bool}:∀{l:aX α},(∀z∈l,f z=true->g z=true)->(∃z∈l,f z=false/\g z=true)->l.countP f<l.countP g
 | [],_,⟨z,hz,_⟩=>by simp at hz
 | a::l,h,⟨z,hz,B,hg⟩=>by
  simp only[List.countP_cons];have D:=List.countP_mono_left (l:=l) (p:=f) (q:=g) λx u=>h x (List.mem_cons_of_mem _ u)
  rcases List.mem_cons.1 hz with rfl|hz
  .simp[B,hg];omega
  have:=Db (l:=l) (λx u=>h x (List.mem_cons_of_mem _ u)) ⟨z,hz,B,hg⟩
  have h1:=h a (List.mem_cons_self ..)
  cases w:f a with
  | true=>simp[h1 w];omega
  | false=>simp;split <;> omega
def cnt(t:Z4)(out:aX (aX X')):Nat:=(bJ t).countP λz=>tF out z.1
structure PSt(t:Trace)(x:aZ)(out:List (List Bool))(h?:List aZ):Prop where
 xB:∀(p:Nat)P,t.a?.l[p]?=some P->∃row,out[p]?=some row/\row.length=P.b?.l.length+1
 len:out.length=t.a?.l.length
 que:∀y∈h?,Way t y x
 snd:∀y,Vd t y->tF out y=true->Way t y x
 cls:∀z,z=x\/Vd t z/\tF out z=true->∀y,Edge t y z->tF out y=true\/y∈h?
 le:h?.length<=2*cnt t out+2
def nested(out:aX (aX X')):Sl (Sl X'):=if out=[]then .nil else .row (out.map .row)
def oC(t:Z4):aX (aX X'):=t.a?.l.map λP=>w? (W P.b?.l+1) U
theorem Fb(out:aX (aX X')):(nested out).l=out.map .row:=by
 unfold nested;split;next h=>rw[h];rfl
 rfl
def My(s:Sl (Sl X')):aX (aX X'):=s.l.map Sl.l
theorem Xk(out:aX (aX X')):My (nested out)=out:=by unfold My;rw[Fb,map_map];exact List.map_id' _
theorem FK{out:aX (aX X')}{p:Nat}{row:aX X'}(h:out[p]?=M row):H (idx (nested out) (p:Int)) Sl.whole=M (.row row):=by rw[iJ,Fb,Q?,h];rfl
theorem G0{out:aX (aX X')}{p:Nat}{row B:aX X'}(h:out[p]?=M row):qK (nested out) (p:Int) (.row B)=nested (out.set p B):=by
 have u:out≠[]:=by rintro rfl;cases h
 unfold nested;rw[K' u,K' (by simpa using u)];simp[qK,List.map_set]
theorem O3{out:aX (aX X')}{r:aX X'}(h:W out<2147483648):ec (nested out) (.row r)=M (nested (out++[r])):=by unfold ec;rw[Fb,J0 (by simp;omega)];simp[nested]
theorem adH{α:Type}{s:Sl α}{y:α}{r:aX α}(h:s.l=y::r):∃c,nJ s (M 1) G=M c/\c.l=r:=by
 have u:∀l:aX α,l=y::r->eA (W l) (M 1) G=M (1,W l):=λl w=>by unfold eA;simp only[O!,getD_none];rw[J0 (by subst w;simp;omega)];rfl
 cases s with|nil=>cases h|emp=>cases h|row l=>exact⟨_,by simp only[nJ,u l h];rfl,by show(l.take (W l)).drop 1=r;rw[H?,show l=y::r from h];rfl⟩|part l=>exact⟨_,by simp only[nJ,u l h];rfl,by show(l.take (W l)).drop 1=r;rw[H?,show l=y::r from h];rfl⟩
theorem HP{t:Z4}{y:aZ}{s:Sl aZ}(h:dS t y=M s):s.whole=M s:=by
 have B:∀o z,Sl.whole o=M o->dS.J1 o t y=M z->z.whole=M z:=λo z D u=>by unfold dS.J1 at u;have⟨e,_,u⟩:=ζg.1 u;cases C:e.kind==3 with|true=>rw[C]at u;have⟨f,_,u⟩:=ζg.1 u;have⟨q,w,u⟩:=ζg.1 u;cases u;unfold ec at w;split at w<;>cases w;rfl|false=>rw[C]at u;cases u;exact D
 unfold dS at h;cases a:_p (y.index>1)with|true=>rw[a]at h;exact B _ s Y h|false=>rw[a]at h;exact B _ s Y h
theorem IZ{t:Z4}{y:aZ}{P:Sl aZ->Prop}(h:Wp (dS t y) P):Wp (H (dS t y) Sl.whole) P:=by have⟨s,a,u⟩:=h;exact⟨s,by rw[a];exact HP a,u⟩
theorem Wn{α:Type}{s:Sl α}{p:Nat}(h:p<W s.l):Sl.iF s (p:Int)=M p:=by unfold Sl.iF;rw[J0 ⟨c?,by simpa using h⟩];rfl
theorem Es{t:Z4}{y:aZ}:tF (oC t) y=U:=by
 unfold tF oC;split;rename_i row h;rw[Q?]at h;cases u:t.a?.l[y.proc.toNat]?with|none=>simp[u]at h|some P=>simp[u]at h;subst h;rw[P!];split<;>rfl
 rfl
theorem YS {t:Trace} (hS:Small t) (hN:(bJ t).length<1073741824) (hF:∀x∈bJ t,mQ t.a?.l.length x.1.proc x.2) (hP:A9 t) {x:aZ} (hx:Vd t x) :
 Wp (gU t x) λs=>∃out,s=nested out/\PSt t x out []/\∀y,Vd t y->(tF out y=true↔Way t y x):=by
 have hn:=hS.1;have an:(oC t).length=t.a?.l.length:=by simp[oC]
 unfold gU gU.W1;refine fI (λq:Sl (Sl Bool)×Int=>∃n:Nat,q.2=(n:Int)/\n<=t.a?.l.length/\q.1=nested ((oC t).take n)) (λq=>t.a?.l.length-q.2.toNat) ⟨0,rfl,Nat.zero_le _,rfl⟩ ?_
 rintro⟨_,_⟩ ⟨n,rfl,ao,rfl⟩;unfold gU.bk;dsimp only;rw[cn];refine⟨λh=>?_,λh=>?_⟩
 .have C:n<t.a?.l.length:=by simpa [len]using h
  have ap:=(hS.2 _ (List.getElem_mem C)).1;have hi:(oC t)[n]' c?=List.replicate (t.a?.l[n].b?.l.length+1) false:=by simp[oC]
  rw[bC C,ζb,show IntKind.wrap .i64 (len t.a?.l[n].b?+1)=((t.a?.l[n].b?.l.length+1:Nat):Int)from cD _ c?,show nC (((t.a?.l[n].b?.l.length+1:Nat)):Int) false=some (.row (List.replicate (t.a?.l[n].b?.l.length+1) false))from by unfold nC;rw[J0 c?];simp,ζb]
  show Wp (((some _:aY (Sl Bool)).bind _)) _;rw[ζb,O3 (by simp;omega),ζb,bf]
  refine⟨⟨n+1,cD n c?,C,?_⟩,?_⟩
  .rw[List.take_succ_eq_append_getElem c?,hi]
  show t.a?.l.length-(IntKind.wrap .i64 ((n:Int)+1)).toNat<t.a?.l.length-((n:Int)).toNat;rw[cD n c?];omega
 have i:t.a?.l.length<=n:=by simpa [len]using h
 rw[bf,List.take_of_length_le c?]
 show Wp _ _;rw[ey];refine(IZ (Ep hS hF hP hx)).mono λs hs=>?_
 unfold gU.W2;refine fI (λq:Sl (Sl Bool)×Sl aZ=>∃out,q.1=nested out/\PSt t x out q.2.l) (λq=>2*((bJ t).length-cnt t (My q.1))+q.2.l.length) ⟨oC t,rfl,λp P hP=>⟨List.replicate (P.b?.l.length+1) false,by simp[oC,hP],by simp⟩,by simp[oC],λy I=>.single ((hs.2 y).1 I),λy _ h=>(by rw[Es]at h;cases h),λz hz y I=>?_,by have:=hs.1;show s.l.length<=2*cnt t (oC t)+2;omega⟩ ?_
 .rcases hz with rfl|⟨_,h⟩
  .exact .inr ((hs.2 y).2 I)
  rw[Es]at h;cases h
 rintro⟨_,todo⟩ ⟨out,rfl,u⟩;simp only at u;unfold gU.bK
 cases D:todo.l with
 | nil=>
  rw[D]at u;rw[show decide (len todo>0)=false from by simp[len,D],bt,bf]
  refine(bf _).2 ⟨out,rfl,u,λy I=>⟨u.snd y I,λg=>?_⟩⟩
  have key:∀w,Way t y w->w=x\/Vd t w/\tF out w=true->tF out y=true:=λw g=>by
   induction g with
   | single h=>exact λg=>(u.cls _ g _ h).elim id λh=>by cases h
   | tail aq W ih=>exact λg=>ih (.inr ⟨W.1,(u.cls _ g _ W).elim id λh=>by cases h⟩)
  exact key x g (.inl rfl)
 | cons y h?=>
  rw[D]at u;have S:=u.que y (List.mem_cons_self ..);have T:=S.l;obtain⟨p,k,e,ae,rfl,X⟩:=T.at_;obtain⟨P,Y,hk⟩:=ae;have ar:=(ζe.1 hk).1;obtain⟨row,hr,af⟩:=u.xB p P Y;have B:k+1<row.length:=by omega
  have e2:((k:Int)+1)=((k+1:Nat):Int):=by omega
  obtain⟨c,ah,J⟩:=adH D;have j:out.set p row=out:=by
   obtain⟨hp,ai⟩:=ζe.1 hr;rw[<-ai];exact List.set_getElem_self hp
  rw[show decide (len todo>0)=true from by simp[len,D],bq,show Sl.iF todo 0=some 0 from by unfold Sl.iF;rw[J0 (by simp[D])];rfl,ζb,show Sl.get todo 0=some ⟨(p:Int),(k:Int)+1⟩from by unfold Sl.get;rw[D];rfl,ζb,ah,ζb]
  dsimp only;rw[FK hr,ζb,e2,show Sl.iF (.row row) ((k+1:Nat):Int)=some (k+1)from Wn B,ζb,show Sl.get (.row row) (k+1)=some row[k+1]from ζd B,ζb,show Sl.whole (.row row)=some (.row row)from rfl,ζb,G0 hr,j,cn];have aa:tF out ⟨p,k+1⟩=row[k+1]:=by
   unfold tF;rw[show ((⟨(p:Int),(k:Int)+1⟩:aZ).proc).toNat=p from rfl,hr];dsimp only;rw[show ((k:Int)+1).toNat=k+1 from by omega,ζd B];rfl
  constructor
  .intro hb;rw[bf];refine⟨⟨out,rfl,u.xB,u.len,λy I=>u.que y (List.mem_cons_of_mem _ (J▸I)),u.snd,λz hz y I=>?_,by have:=u.le;simp only[List.length_cons]at this;rw[J];omega⟩,?_⟩
   .rw[J];rcases u.cls z hz y I with h|h
    .exact .inl h
    rcases List.mem_cons.1 h with rfl|h
    .exact .inl (by rw[aa];exact hb)
    exact .inr h
   show 2*((bJ t).length-cnt t (My (nested out)))+c.l.length<2*((bJ t).length-cnt t (My (nested out)))+todo.l.length;rw[J,D,List.length_cons];omega
  intro hb;obtain⟨L,aj,ak⟩:∃r,Sl.put (.row row) (k+1) true=some (.row r)/\r=row.set (k+1) true:=⟨_,by unfold Sl.put;rw[J0 (show k+1<(Sl.row row).l.length from B)],rfl⟩
  rw[FK hr,ζb,show Sl.iF (.row row) ((k+1:Nat):Int)=some (k+1)from Wn B,ζb,aj,ζb,show Sl.whole (.row L)=some (.row L)from rfl,ζb,G0 hr,ak,ey,<-e2];refine(IZ (Ep hS hF hP T)).mono λmore hm=>?_
  have al:=u.le;simp only[List.length_cons]at al;have au:cnt t out<=(bJ t).length:=List.countP_le_length;have av:=hm.1;have C:cnt t out<cnt t (out.set p (row.set (k+1) true)):=Db (λz hz h=>by rw[Cr hr B ⟨_,hz⟩,h,Bool.or_true]) ⟨_,X,by rw[aa,hb],by rw[Cr hr B T];simp⟩
  have am:cnt t (out.set p (row.set (k+1) true))<=(bJ t).length:=List.countP_le_length;unfold gU.W3;refine fI (λq:Sl aZ×Int=>∃n:Nat,q.2=(n:Int)/\n<=more.l.length/\q.1.l=h?++more.l.take n) (λq=>more.l.length-q.2.toNat) ⟨0,rfl,Nat.zero_le _,by simp[J]⟩ ?_
  rintro⟨td,_⟩ ⟨n,rfl,hn,d⟩;simp only at d;unfold gU.dG;rw[cn];refine⟨λh=>?_,λh=>?_⟩
  .have C:n<more.l.length:=by simpa [len]using h
   obtain⟨aw,w1,w2⟩:∃r,ec td more.l[n]=some r/\r.l=td.l++[more.l[n]]:=⟨_,by unfold ec;rw[J0 (by rw[d];simp;omega)],rfl⟩
   rw[Wn C,ζb,show Sl.get more n=some more.l[n]from ζd C,ζb,w1,ζb,bf];exact⟨⟨n+1,cD n c?,C,by rw[w2,d,List.take_succ_eq_append_getElem C,List.append_assoc]⟩,by rw[cD n c?];simp;omega⟩
  have i:more.l.length<=n:=by simpa [len]using h
  rw[List.take_of_length_le i]at d;rw[bf];refine(bf _).2 ⟨⟨_,rfl,λq Q hQ=>?_,by show (out.set _ _).length=_;rw[List.length_set];exact u.len,λz hz=>?_,λz hz h=>?_,λz hz y I=>?_,by rw[d,ζi];show _<=2*cnt t (out.set p (row.set (k+1) true))+2;omega⟩,?_⟩
  .show ∃r,(out.set p (row.set (k+1) true))[q]? = some r/\_;rw[List.getElem?_set];split
   next e=>subst e;rw[J0 (ζe.1 hr).1];rw[Y]at hQ;cases hQ;exact⟨_,rfl,by simp[af]⟩
   exact u.xB q Q hQ
  .rw[d]at hz;rcases List.mem_append.1 hz with hz|hz
   .exact u.que z (List.mem_cons_of_mem _ hz)
   exact .trans (.single ((hm.2 z).1 hz)) S
  .show Way t z x;have h:tF (out.set p (row.set (k+1) true)) z=true:=h;rw[Cr hr B hz]at h;simp only[Bool.or_eq_true,_e]at h;rcases h with rfl|h
   .exact S
   exact u.snd z hz h
  .rw[d];show tF (out.set p (row.set (k+1) true)) y=true\/y∈h?++more.l;rw[Cr hr B I.1];have ab:z=x\/Vd t z/\tF out z=true->(decide (y=⟨p,k+1⟩)||tF out y)=true\/y∈h?++more.l:=λhz=>by
    rcases u.cls z hz y I with h|h
    .exact .inl (by rw[show tF out y=true from h,Bool.or_true])
    rcases List.mem_cons.1 h with rfl|h
    .exact .inl f?
    exact .inr (List.mem_append_left _ h)
   rcases hz with hz|⟨ad,hz⟩
   .exact ab (.inl hz)
   have hz:tF (out.set p (row.set (k+1) true)) z=true:=hz;rw[Cr hr B ad]at hz;simp only[Bool.or_eq_true,_e]at hz;rcases hz with rfl|hz
   .exact .inr (List.mem_append_right _ ((hm.2 y).2 I))
   exact ab (.inr ⟨ad,hz⟩)
  show 2*((bJ t).length-cnt t (My (nested (out.set p (row.set (k+1) true)))))+td.l.length<2*((bJ t).length-cnt t (My (nested out)))+todo.l.length;rw[Xk,Xk,d,D,ζi,List.length_cons];omega
theorem acI{t:Z4}(b:Small t)(Y:_j (bJ t)<1073741824)(f:∀x∈bJ t,mQ (_j t.a?.l) x.1.proc x.2)(J:A9 t):Wp (dD.W6 0 t ⟨0,0⟩) λr=>(r.2=0↔¬NY t):=by
 have v:=b.1;unfold dD.W6;refine fI (λi:Int=>∃n:Nat,i=n/\n<=_j t.a?.l/\∀(p k:Nat)e,p<n->mJ t p k e->¬Way t ⟨p,k+1⟩ ⟨p,k+1⟩) (λi:Int=>_j t.a?.l-i.toNat) ⟨0,_i,V? _,λp k e T=>_c T c?⟩ ?_;rintro i ⟨n,rfl,c__,b__⟩;unfold dD.Ow;rw[cn];constructor;intro h;have w:n<_j t.a?.l:=by simpa[len]using h
 have N:=bC w;have z:=ζd w;have y:=(b.2 _ (t? w)).1;generalize t.a?.l[n]=P at *;unfold dD.W7;refine fI (λi:Int=>∃m:Nat,i=m/\m<=_j P.b?.l/\∀k,k<m->¬Way t ⟨n,k+1⟩ ⟨n,k+1⟩) (λi:Int=>_j P.b?.l-i.toNat) ⟨0,_i,V? _,λk a=>_c a c?⟩ ?_;rintro i ⟨m,rfl,A,a⟩;unfold dD.OW;rw[N,ζb,cn];constructor;intro h;have I:m<_j P.b?.l:=by simpa[len]using h
 have L:=cD m c?;have c:Vd t ⟨n,m+1⟩:=⟨P.b?.l[m],dV.2 ⟨n,m,⟨P,z,ζd I⟩,_i⟩⟩;rw[L,show(((m+1:Nat)):Int)=(m:Int)+1 from f?,ey];refine(YS b Y f J c).mono ?_;rintro s ⟨out,rfl,g,B⟩;have⟨row,d,E⟩:=g.xB n P z;have a__:out≠[]:=by rintro rfl;cases d
 have C:m+1<_j row:=c?;have j:idx (nested out) (n:Int)=M (.row row):=by unfold nested;rw[K' a__,iJ];show(out.map Sl.row)[n]?=_;rw[Q?,d];rfl
 have l:idx (Sl.row row) ((m:Int)+1)=M row[m+1]:=by rw[show(m:Int)+1=((m+1:Nat):Int)from f?];exact bC (s:=Sl.row row) C
 rw[j,ζb,l,ζb,cn];have o:row[m+1]=tF out ⟨n,m+1⟩:=by unfold tF;rw[show((⟨(n:Int),(m:Int)+1⟩:aZ).proc).toNat=n from _i,d];dsimp only;rw[show((m:Int)+1).toNat=m+1 from c?,ζd C];rfl
 rw[o];refine⟨λD=>(bf _).2 ((bf _).2 ((bf _).2 ⟨λh=>(by cases h),λh=>_c ⟨_,(B _ c).1 D⟩ h⟩)),λD=>(bf _).2 ⟨⟨m+1,f?,c?,λk F=>?_⟩,by simp;omega⟩⟩;by_cases e:k=m;subst e;exactλL=>by rw[(B _ c).2 L]at D;cases D
 exact a k c?;intro h;have S:_j P.b?.l<=m:=by simpa[len]using h
 refine(bf _).2 ((bf _).2 ⟨⟨n+1,cD n c?,c?,λp k e T u=>?_⟩,by rw[cD n c?];simp;omega⟩);by_cases e:p=n;subst e;have⟨Q,W,q⟩:=u;rw[z]at W;cases W;have:=(ζe.1 q).1;exact a k c?;exact b__ p k _ c? u;intro h;have S:_j t.a?.l<=n:=by simpa[len]using h
 refine(bf _).2 ((bf _).2 ⟨λ_⟨x,X⟩=>?_,λ_=>rfl⟩);obtain⟨p,k,e,u,rfl,_⟩:=X.l.at_;have⟨P,J,_⟩:=id u;exact b__ p k e (by have:=(ζe.1 J).1;omega) u X
theorem KP{t:Z4}(B:∀x∈bJ t,mQ (W t.a?.l) x.1.proc x.2):(∀(p k:Nat)e,mJ t p k e->yQ t (⟨p,k+1⟩,e)=0)↔A9 t:=Iff.trans ⟨λh x w=>by have⟨p,k,b,u⟩:=dV.1 w;have⟨a,e⟩:=x;simp only at b u;rw[u];exact h p k e b,λh p k e z=>h _ (dV.2 ⟨p,k,z,Y⟩)⟩ (PT B)
theorem Tp{t:Z4}(c:Small t)(s:_j (bJ t)<1073741824):Wp (dD t) λr=>(r.2=0↔Ok t):=by
 have E:=c.1;unfold dD;rw[jU,ζb,cn];refine⟨λS=>(bf _).2 ⟨λh=>(by cases h),λh=>?_⟩,λS=>?_⟩;have F:=h.one;have f:=h.few;simp only[g!,_e,len]at S;omega;have f:1<=_j t.a?.l/\_j t.a?.l<=8:=by simp only[l!,_f,len]at S;omega
 unfold dD.W1;refine fI (λi:Int=>∃n:Nat,i=n/\n<=_j t.a?.l/\∀p,p<n->sP t p=0) (λi:Int=>_j t.a?.l-i.toNat) ⟨0,_i,V? _,λp I=>_c I c?⟩ ?_;rintro i ⟨n,rfl,H,l⟩;unfold dD.bk;rw[cn];constructor;intro h;have w:n<_j t.a?.l:=by simpa[len]using h
 rw[V2 c w,ζb,cn];refine⟨λC=>(bf _).2 ⟨⟨n+1,cD n c?,c?,λp I=>?_⟩,by rw[cD n c?];simp;omega⟩,λC=>(bf _).2 ((bf _).2 ⟨λh=>?_,λh=>?_⟩)⟩;by_cases e:p=n;subst e;simpa using C;exact l p c?;simp only at h;simp[h]at C;simp[h.heads n w]at C;intro h;have K:_j t.a?.l<=n:=by simpa[len]using h
 rw[bf];unfold dD.W2;refine fI (λi:Int=>∃n:Nat,i=n/\n<=_j t.a?.l/\∀(p k:Nat)P e,p<n->t.a?.l[p]?=M P->P.b?.l[k]?=M e->qL (_j t.a?.l) P p k e=0) (λi:Int=>_j t.a?.l-i.toNat) ⟨0,_i,V? _,λp k P e I=>_c I c?⟩ ?_;rintro i ⟨J,rfl,a__,X⟩;unfold dD.bK;rw[cn];constructor;intro h;have w:J<_j t.a?.l:=by simpa[len]using h
 have b__:=bC w;have B:=ζd w;have T:=(c.2 _ (t? w)).1;generalize t.a?.l[J]=P at b__ B T;unfold dD.W3;refine fI (λi:Int=>∃m:Nat,i=m/\m<=_j P.b?.l/\∀(k:Nat)e,k<m->P.b?.l[k]?=M e->qL (_j t.a?.l) P J k e=0) (λi:Int=>_j P.b?.l-i.toNat) ⟨0,_i,V? _,λk e a=>_c a c?⟩ ?_;rintro i ⟨m,rfl,v,a⟩;unfold dD.dG;rw[b__,ζb,cn];constructor;intro h;have d__:m<_j P.b?.l:=by simpa[len]using h
 have D:=ζd d__;have d:=cD m c?;rw[Vz c B D,ζb,cn];refine⟨λC=>(bf _).2 ⟨⟨m+1,d,c?,λk e x u=>?_⟩,by rw[d];simp;omega⟩,λC=>(bf _).2 ((bf _).2 ((bf _).2 ⟨λh=>?_,λh=>?_⟩))⟩;by_cases g:k=m;subst g;rw[D]at u;cases u;simpa using C;exact a k e c? u;simp only at h;simp[h]at C;simp[h.gm J m P _ B D]at C;intro h;have L:_j P.b?.l<=m:=by simpa[len]using h
 refine(bf _).2 ((bf _).2 ⟨⟨J+1,cD J c?,c?,λp k Q e I W u=>?_⟩,by rw[cD J c?];simp;omega⟩);by_cases j:p=J;subst j;rw[B]at W;cases W;exact a k e (by have:=(ζe.1 u).1;omega) u;exact X p k Q e c? W u;intro h;have L:_j t.a?.l<=J:=by simpa[len]using h
 have X:∀(p k:Nat)P e,t.a?.l[p]?=M P->P.b?.l[k]?=M e->qL (_j t.a?.l) P p k e=0:=λp k P e c__ a=>X p k P e (by have:=(ζe.1 c__).1;omega) c__ a;have Y:=IF X;rw[bf];unfold dD.W4;refine fI (λi:Int=>∃n:Nat,i=n/\n<=_j t.a?.l/\∀(p k:Nat)e,p<n->mJ t p k e->yQ t (⟨p,k+1⟩,e)=0) (λi:Int=>_j t.a?.l-i.toNat) ⟨0,_i,V? _,λp k e I=>_c I c?⟩ ?_;rintro i ⟨q,rfl,N,e__⟩;unfold dD.N2;rw[cn];constructor;intro h;have w:q<_j t.a?.l:=by simpa[len]using h
 have b__:=bC w;have B:=ζd w;have T:=(c.2 _ (t? w)).1;generalize t.a?.l[q]=P at b__ B T;unfold dD.W5;refine fI (λi:Int=>∃m:Nat,i=m/\m<=_j P.b?.l/\∀(k:Nat)e,k<m->P.b?.l[k]?=M e->yQ t (⟨q,k+1⟩,e)=0) (λi:Int=>_j P.b?.l-i.toNat) ⟨0,_i,V? _,λk e a=>_c a c?⟩ ?_;rintro i ⟨m,rfl,v,a⟩;unfold dD.AM;rw[b__,ζb,cn];constructor;intro h;have d__:m<_j P.b?.l:=by simpa[len]using h
 have D:=ζd d__;have d:=cD m c?;have z:mJ t q m P.b?.l[m]:=⟨P,B,D⟩;rw[d,show(((m+1:Nat)):Int)=(m:Int)+1 from f?,Sa c z (Y (⟨q,m+1⟩,P.b?.l[m]) (dV.2 ⟨q,m,z,_i⟩)),ζb,cn];refine⟨λC=>(bf _).2 ⟨⟨m+1,f?,c?,λk e x u=>?_⟩,by simp;omega⟩,λC=>(bf _).2 ((bf _).2 ((bf _).2 ⟨λh=>?_,λh=>?_⟩))⟩;by_cases g:k=m;subst g;rw[D]at u;cases u;simpa using C;exact a k e c? u;simp only at h;simp[h]at C;simp[(KP Y).2 h.CD q m _ z]at C;intro h;have L:_j P.b?.l<=m:=by simpa[len]using h
 refine(bf _).2 ((bf _).2 ⟨⟨q+1,cD q c?,c?,λp k e I z=>?_⟩,by rw[cD q c?];simp;omega⟩);by_cases j:p=q;subst j;have⟨Q,W,u⟩:=z;rw[B]at W;cases W;exact a k e (by have:=(ζe.1 u).1;omega) u;exact e__ p k e c? z;intro h;have R:_j t.a?.l<=q:=by simpa[len]using h
 have c__:A9 t:=(KP Y).1 λp k e z=>e__ p k e (by have⟨P,c__,_⟩:=z;have:=(ζe.1 c__).1;omega) z;have o:¬NY t↔Ok t:=⟨λh=>⟨f.1,f.2,λp I=>l p c?,X,c__,h⟩,λh=>h.acyc⟩;rw[bf,ey];refine(O8 c Y c__).mono λb y=>?_;rw[cn];exact⟨λh=>(bf _).2 ⟨λ_=>o.1 (y h),λ_=>rfl⟩,λ_=>(acI c s Y c__).mono λr A=>A.trans o⟩
theorem SM{t:Z4}(a:Small t)(B:(bJ t).length<1073741824):∃b,cm t=M b/\vu t=M b/\(b=O->VT t):=by obtain⟨b,u,c,w⟩:=MS a B;refine⟨b,u,?_,c⟩;unfold vu;obtain⟨r,d,z⟩:=Tp a B;rw[d,ζb];congr 1;rw[Bool.eq_iff_iff,_g,z];exact⟨w,λh=>(c h).ok⟩
theorem Vo{t:Z4}(d:Small t){c:Zg}(D:W c.l=W t.a?.l){step:Int->aY (Fw Int Unit Unit)}
 (q:∀i,step i=bg (_p (i<(len c))) (H (idx c i) λJ=>(bg (_p (J<0)) (M O) (H (idx c i) λT=>H (idx t.a? i) λm=>M (_p (T>(len m.b?)))):aY X').bind λo=>bg o (M (.r ())) (M (.n (y? Z (i+1))))) (M (.x ()))):
 Wp (H (bM step 0) (Fw.elim (λ_=>M O) (λ_=>M U))) λb=>(b=O↔rP t c.l):=by
 have f:=d.1;refine fI (λs:Int=>∃n:Nat,s=n/\n<=W c.l/\∀(p:Nat)(a:Int)(P:bU),p<n->c.l[p]?=M a->t.a?.l[p]?=M P->0<=a/\a<=W P.b?.l) (λs:Int=>W c.l-s.toNat) ⟨0,Y,V? _,λp a P h=>_c h c?⟩ ?_
 rintro s ⟨n,rfl,Q,g⟩;rw[q,cn];constructor
 .intro h;have w:n<W c.l:=by simpa[len]using h
  have u:n<W t.a?.l:=c?
  have I:=cD n c?
  rw[bC w,ζb,ζb,bC u,ζb,jU,ζb,cn];constructor
  .intro z;have z:c.l[n]<0\/c.l[n]>t.a?.l[n].b?.l.length:=by simpa[len]using z
   refine(bf _).2 ((bf _).2 ⟨λh=>(by cases h),λL=>?_⟩)
   have:=L.2 n _ _ (ζd w) (ζd u);omega
  intro z;have z:0<=c.l[n]/\c.l[n]<=t.a?.l[n].b?.l.length:=by simpa[len]using z
  refine(bf _).2 ⟨⟨n+1,I,c?,λp a P S B C=>?_⟩,by rw[I];simp;omega⟩
  by_cases e:p=n
  .subst e;rw[ζd w]at B;cases B;rw[ζd u]at C;cases C;exact z
  exact g p a P c? B C
 intro h;have j:W c.l<=n:=by simpa[len]using h
 refine(bf _).2 ((bf _).2 ⟨λ_=>⟨D,λp a P B C=>g p a P (by have:=(ζe.1 B).1;omega) B C⟩,λ_=>rfl⟩)
theorem YA{t:Z4}(a:Small t){c:Zg}(B:W c.l=W t.a?.l):Wp (pz t c) λb=>(b=O↔rP t c.l):=by unfold pz;rw[show(len c==len t.a?)=O from by simp[len,B],bq];exact Vo a B λi=>rfl
theorem IY{t:Z4}(a:VT t){A:bQ 200 bu}(b:eB t (bJ t) A){p k:Nat}{e:WF}(B:mJ t p k e)(c:e.kind=3):iL t 2 e.d?=(ag A e.d?).from_:=by have⟨y,d,u,w⟩:=A3 a.formed a.ok.CD (dV.2 ⟨p,k,B,Y⟩:((⟨p,k+1⟩:aZ),e)∈bJ t) c;have:=b.snd _ d u;simp only[w]at this;exact this.symm
theorem OM(t:Z4)(kind m:Int):iL t kind m=⟨0,0⟩/\(∀x∈bJ t,¬(x.2.kind=kind/\x.2.d?=m))\/∃z,(iL t kind m,z)∈bJ t/\z.kind=kind/\z.d?=m:=by cases h:(bJ t).find? (mT kind m)with|some x=>have⟨a1,w,B,C⟩:=yR h;exact .inr ⟨x.2,by rw[C];exact a1,w,B⟩|none=>rw[i8]at h;have u:∀x∈bJ t,¬(x.2.kind=kind/\x.2.d?=m):=λx D=>(by have:=h x D;simpa[mT]using this);exact .inl ⟨Qd u,u⟩
theorem N0{t:Z4}(a:VT t){r s:aZ}{z e:WF}(b:(r,z)∈bJ t)(D:z.kind=3)(B:(s,e)∈bJ t)(J:e.kind=2)(T:e.d?=z.d?):e.k?=r.proc/\z.k?=s.proc:=by
 have h:=a.ok.CD.has _ b D;have I:0<=z.k?:=by rcases a.formed _ b with h|⟨_,h,_⟩;simp only at h;omega;exact h
 rw[show z.k?=((z.k?.toNat:Nat):Int)from c?,BR]at h;have⟨k,y,w,c,C,d⟩:=h;have u:((⟨(z.k?.toNat:Nat),k+1⟩:aZ),y)∈bJ t:=dV.2 ⟨_,k,w,Y⟩;have:=a.ok.CD.snd _ u _ B c J (by rw[T];exact C);simp only at this;subst this;cases Bz u B Y;exact⟨d,by simp only;omega⟩
def tv(t:Z4)(c:SW)(e:WF):X':=(iL t 3 e.d?).index==0||decide ((iL t 3 e.d?).index>(c[(iL t 3 e.d?).proc.toNat]?).getD 0)
theorem Cw{α:Type}(f g:α->X'):∀l:aX α,l.countP f=l.countP (λx=>f x&&g x)+l.countP (λx=>f x&& !g x)
 |[]=>rfl|x::l=>by simp only[c5,Cw f g l];cases f x<;>cases g x<;>simp<;>omega
theorem w_{α:Type}{f:α->X'}{l:aX α}{n k:Nat}:k∈places f (l.take n)↔k<n/\∃x,l[k]?=M x/\f x=O:=by rw[Py];simp only[I?];constructor;rintro⟨x,a,u⟩;split at a;exact⟨‹_›,x,a,u⟩;cases a;rintro⟨h,x,a,u⟩;exact⟨x,by rw[J0 h];exact a,u⟩
theorem YR{t:Z4}(i:VT t){A:bQ 200 bu}(hM:eB t (bJ t) A){c:SW}(y:Cons t A c){p q:Nat}{P Q:bU}{a b:Int}(J:t.a?.l[p]?=_h P)(D:t.a?.l[q]?=_h Q)(M:c[p]?=_h a)(r:c[q]?=_h b):
 (Q.b?.l.take b.toNat).countP (Bp p)=(P.b?.l.take a.toNat).countP λe=>gX q e&& !tv t c e:=by
 have f:∀{p:Nat}{P:bU}{k:Nat}{e:WF},t.a?.l[p]?=_h P->P.b?.l[k]?=_h e->((⟨p,k+1⟩:aZ),e)∈bJ t:=λJ g=>dV.2 ⟨_,_,⟨_,J,g⟩,_i⟩
 have a0:=(y.1.2 p a P M J).1;have b0:=(y.1.2 q b Q r D).1;have r1:∀k,k∈places (Bp p) (Q.b?.l.take b.toNat)->∃(z:WF)(j:Nat)(e:WF),Q.b?.l[k]?=_h z/\z.kind=3/\P.b?.l[j]?=_h e/\e.kind=2/\e.k?=q/\e.d?=z.d?/\iL t 2 z.d?=⟨p,j+1⟩/\(j:Int)+1<=a/\(k:Int)+1<=b:=λk g=>by have⟨aj,z,d,u⟩:=w_.1 g;have u:z.kind=3/\z.k?=p:=(by simpa[Bp]using u);have N:=f D d;have⟨e,e1,e2,e3⟩:=A3 i.formed i.ok.CD N u.1;have⟨l,d__⟩:=N0 i N u.1 e1 e2 e3;have⟨p',j,⟨P',R,m⟩,a__⟩:=dV.1 e1;simp only at l a__ m;rw[a__]at d__;have ad:p'=p:=(by simp only at d__;omega);subst ad;rw[J]at R;cases R;have⟨x,C,I⟩:=y.2 q k z b ⟨Q,D,d⟩ r c? u.1;rw[<-IY i hM ⟨Q,D,d⟩ u.1,a__]at C I;simp only[u!]at C I;rw[M]at C;cases C;exact⟨z,j,e,d,u.1,m,e2,l,e3,a__,I,c?⟩
 have E:∀k,k∈places (λe=>gX q e&& !tv t c e) (P.b?.l.take a.toNat)->∃(e:WF)(j:Nat)(z:WF),P.b?.l[k]?=_h e/\e.kind=2/\Q.b?.l[j]?=_h z/\z.kind=3/\z.k?=p/\z.d?=e.d?/\iL t 3 e.d?=⟨q,j+1⟩/\(j:Int)+1<=b:=λk g=>by have⟨ak,e,d,u⟩:=w_.1 g;simp only[ζh,e!,tv,l!,gX,_g,beq_eq_false_iff_ne,_f]at u;have⟨⟨g1,g2⟩,g3,g4⟩:=u;rcases OM t 3 e.d? with⟨h,_⟩|⟨z,s,v,z3⟩;rw[h]at g3;exact _c _i g3;have⟨l,d__⟩:=N0 i s v (f J d) g1 z3.symm;have⟨q',j,⟨Q',V,m⟩,a__⟩:=dV.1 s;simp only at a__ m l d__;rw[a__]at l g4;have ae:q'=q:=(by simp only at l;omega);subst ae;rw[D]at V;cases V;simp only[u!,r,O!]at g4;exact⟨e,j,z,d,g1,m,v,d__,z3,a__,c?⟩
 apply Nat.le_antisymm
 .refine Jq (λk=>match Q.b?.l[k]?with|some z=>((iL t 2 z.d?).index-1).toNat|none=>0) (λk g=>?_) λk F g L H=>?_
  .have⟨z,j,e,d,u,b__,n,o,S,T,h8,h9⟩:=r1 k g;rw[d];simp only[T];rw[show((j:Int)+1-1).toNat=j from c?]
   refine w_.2 ⟨c?,e,b__,?_⟩
   have af:iL t 3 e.d?=⟨q,k+1⟩:=by rcases OM t 3 e.d? with⟨_,h⟩|⟨z',s,v,z3⟩;exact _c ⟨u,S.symm⟩ (h _ (f D d));exact i.ok.CD.rcv _ s _ (f D d) v u (by rw[z3,S])
   simp only[tv,af,gX,n,o,u!,r,O!];simp;omega
  have⟨z,j,e,d,u,b__,n,o,S,T,_⟩:=r1 k g;have⟨z',K,e',w,c__,B,ah,ai,W,X,_⟩:=r1 F L;simp only[d,w,T,X]at H;have Y:j=K:=c?
  subst Y;rw[b__]at B;cases B;have:=i.ok.CD.rcv _ (f D d) _ (f D w) u c__ (by rw[<-S,W])
  simp only[aZ.mk.injEq]at this;omega
 refine Jq (λk=>match P.b?.l[k]?with|some e=>((iL t 3 e.d?).index-1).toNat|none=>0) (λk g=>?_) λk F g L H=>?_
 .have⟨e,j,z,d,u,b__,n,o,S,T,h8⟩:=E k g;rw[d];simp only[T];rw[show((j:Int)+1-1).toNat=j from c?]
  exact w_.2 ⟨c?,z,b__,by simp[Bp,n,o]⟩
 have⟨e,j,z,d,u,b__,n,o,S,T,_⟩:=E k g;have⟨e',K,z',w,c__,B,ah,ai,W,X,_⟩:=E F L;simp only[d,w,T,X]at H;have Y:j=K:=c?
 subst Y;rw[b__]at B;cases B;have:=i.ok.CD.snd _ (f J d) _ (f J w) u c__ (by rw[<-S,W])
 simp only[aZ.mk.injEq]at this;omega
theorem JC{t:Z4}(d:VT t){A:bQ 200 bu}(f:eB t (bJ t) A){c:SW}(g:Cons t A c){p q:Nat}{P Q:bU}{a b:Int}(B:t.a?.l[p]?=M P)(D:t.a?.l[q]?=M Q)(J:c[p]?=M a)(T:c[q]?=M b):
 under t c p q=((P.b?.l.take a.toNat).countP λe=>gX q e&&tv t c e:Nat):=by
 unfold under;rw[B,D,J,T];dsimp only;rw[YR d f g B D J T,Cw (gX q) (tv t c)];omega
theorem eu{σ ε ρ γ:Type}{step:σ->aY (Fw σ ε ρ)}{B:ε->aY γ}{fr:ρ->aY γ}{P:γ->Prop}(n:Nat)(I:Nat->σ->Prop){s:σ}(J:I 0 s)
 (h:∀i s,i<n->I i s->Wp (step s) λw=>match w with|.n D=>I (i+1) D|.x e=>Wp (B e) P|.r b=>Wp (fr b) P)
 (T:∀s,I n s->Wp (step s) λw=>match w with|.n _=>False|.x e=>Wp (B e) P|.r b=>Wp (fr b) P):Wp (H (bM step s) (Fw.elim B fr)) P:=by
 have key:∀m i s,i+m=n->I i s->Wp (H (bM step s) (Fw.elim B fr)) P:=by
  intro m
  induction m with
  |zero=>intro i s hi z;have⟨w,u,a⟩:=T s g?;rw[fM,u];cases w with|n D=>grind|x e=>exact a|r b=>exact a
  |succ m C=>intro i s hi z;have⟨w,u,a⟩:=h i s c? z;rw[fM,u];cases w with|n D=>grind|x e=>exact a|r b=>exact a
 exact key n 0 s (Nat.zero_add n) J
def bump(c:SW)(p:Nat)(d:Int):SW:=c.set p ((c[p]?).getD 0+d)
theorem uL:∀{c:SW}{p:Nat}{a b:Int},c[p]?=M a->(c.set p b).sum=c.sum-a+b
 |[],_,_,_,h=>o?|x::c,0,a,b,h=>g?|x::c,p+1,a,b,h=>by have:=uL (b:=b) (by simpa using h);grind
theorem sR:∀{c:SW},(∀(p:Nat)a,c[p]?=M a->0<=a)->0<=c.sum
 |[],_=>f?|x::c,h=>by have b:=h 0 x Y;have u:=sR (c:=c) λp a w=>h (p+1) a g?;grind
theorem LP:∀{c:SW},(∀(p:Nat)a,c[p]?=M a->0<=a)->c.sum=0->∀(p:Nat)a,c[p]?=M a->a=0
 |[],_,_,p,a,B=>o?|x::c,h,D,p,a,B=>by have d:=h 0 x Y;have b:∀(p:Nat)a,c[p]?=M a->0<=a:=λp a B=>h (p+1) a g?;have u:=sR b;simp at D;cases p with|zero=>grind|succ p=>exact LP b c? p a g?
theorem N5:∀{c:SW}{l:ST},W c=W l->(∀(i:Nat)a b,c[i]?=M a->l[i]?=M b->a<=(b:Nat))->c.sum<=(l.sum:Nat)
 |[],[],_,_=>f?|x::c,y::l,B,h=>by have d:=h 0 x y Y Y;have u:=N5 (c:=c) (l:=l) g? λi a b w z=>h (i+1) a b g? g?;grind
section
variable{t:Z4}{A:bQ 200 bu}{c:SW}
theorem rP.pos(h:rP t c)(p:Nat)(a:Int)(B:c[p]?=M a):0<=a:=(h.2 p a _ B (ζd (by have:=(ζe.1 B).1;rw[<-h.1];simp_all))).1
theorem rP.at_(h:rP t c){p:Nat}(hp:p<W t.a?.l):∃a,c[p]?=M a:=⟨_,ζd (by rw[h.1];omega)⟩
theorem rP.sum(h:rP t c):0<=c.sum/\c.sum<=(uJ t:Nat):=
 ⟨sR h.pos,N5 (by simp[h.1]) λi a b z u=>by
  cases w:t.a?.l[i]?with
  |none=>grind|some P=>simp[w]at u;rw[<-u];exact(h.2 i a P z w).2⟩
theorem rP.set(h:rP t c){p:Nat}{b:Int}{P:bU}(B:t.a?.l[p]?=M P)(D:0<=b)(d:b<=W P.b?.l):rP t (c.set p b):=by refine⟨by simp[h.1],λq a Q u w=>?_⟩;rw[D?]at u;split at u;grind;exact h.2 q a Q u w
def HI(t:Z4)(A:bQ 200 bu)(c:SW)(p:Nat):Prop:=∃P e a,t.a?.l[p]?=M P/\c[p]?=M a/\P.b?.l[a.toNat]?=M e/\(e.kind=3->∃b,c[(ag A e.d?).from_.proc.toNat]?=M b/\(ag A e.d?).from_.index<=b)
theorem mJ.one{p k:Nat}{e f:WF}(h:mJ t p k e)(g:mJ t p k f):e=f:=by have⟨P,a1,u⟩:=h;have⟨Q,w,z⟩:=g;grind
theorem oO.le(h:oO t A c){p:Nat}{a b:Int}(J:c[p]?=M a)(T:a<=b)(j:∀(k:Nat)e,mJ t p k e->a<=k->(k:Int)<b->e.kind=3->∃B,(c.set p b)[(ag A e.d?).from_.proc.toNat]?=M B/\(ag A e.d?).from_.index<=B):oO t A (c.set p b):=by
 have I:=(ζe.1 J).1;have up:∀(q:Nat)x,c[q]?=M x->∃y,(c.set p b)[q]?=M y/\x<=y:=λq x u=>by rw[D?];grind
 intro q k e x w u d g;rw[D?]at u;have C:∀x,c[q]?=M x->k<x->∃B,(c.set p b)[(ag A e.d?).from_.proc.toNat]?=M B/\(ag A e.d?).from_.index<=B:=λx u d=>by have⟨y,L,i⟩:=h q k e x w u d g;have⟨z,Q,S⟩:=up _ y L;exact⟨z,Q,c?⟩
 split at u;rename_i m;subst m;simp[I]at u;subst u;by_cases D:k<a;exact C a J D;exact j k e w c? d g;grind
theorem zF(a:VT t)(b:eB t (bJ t) A){p k:Nat}{e:WF}(B:mJ t p k e)(D:e.kind=3):∃q j:Nat,(ag A e.d?).from_=⟨q,j+1⟩/\q≠p/\MW t ⟨q,j+1⟩ ⟨p,k+1⟩/\∃y,mJ t q j y:=by have⟨q,j,y,u,z,C,y3,y4,y5⟩:=wz a b B D;have w:(⟨p,k+1⟩,e)∈bJ t:=dV.2 ⟨p,k,B,Y⟩;refine⟨q,j,y5,?_,⟨y,e,dV.2 ⟨q,j,u,Y⟩,w,z,D,C⟩,y,u⟩;rcases a.formed _ w with h|⟨_,_,_,h,_⟩;grind;grind
theorem Cons.up(g:VT t)(i:eB t (bJ t) A)(d:Cons t A c){p:Nat}{a:Int}{P:bU}(B:t.a?.l[p]?=M P)(D:c[p]?=M a)(y:a<W P.b?.l):HI t A c p↔Cons t A (c.set p (a+1)):=by have N:=d.1.pos p a D;have X:=(ζe.1 D).1;constructor;rintro⟨Q,e,x,m,I,L,w⟩;rw[B]at m;cases m;rw[D]at I;cases I;refine⟨d.1.set B c? c?,d.2.le D c? λk f z o S Y=>?_⟩;have C:k=a.toNat:=c?;subst C;cases z.one ⟨P,B,L⟩;grind;intro h;have u:a.toNat<W P.b?.l:=c?;refine⟨P,P.b?.l[a.toNat],a,B,D,ζd u,λw=>?_⟩;have⟨b,J,T⟩:=h.2 p a.toNat _ (a+1) ⟨P,B,ζd u⟩ o? c? w;rw[D?]at J;split at J;have⟨q,j,l,F,_⟩:=zF g i ⟨P,B,ζd u⟩ w;grind;grind
noncomputable def KY (t:Trace) (x:aZ):Nat:=by
 classical
 exact(bJ t).countP λz=>decide (Way t z.1 x)
theorem N1 (hV:VT t) {x y:aZ} (h:Way t x y):KY t x<KY t y:=by
 classical
 refine Db (λz _ u=>?_) ?_
 .have u:Way t z.1 x:=by grind
  simpa using u.trans h
 obtain⟨e,w⟩:=h.l;exact⟨(x,e),w,by simpa using λk=>hV.ok.acyc ⟨x,k⟩,by grind⟩
theorem Yf (x:aZ):KY t x<=(bJ t).length:=by
 classical
 unfold KY;grind
theorem Vd.of{p k:Nat}{e:WF}(h:mJ t p k e):Vd t ⟨p,k+1⟩:=⟨e,dV.2 ⟨p,k,h,Y⟩⟩
theorem Mg{p:Nat}{P:bU}(B:t.a?.l[p]?=M P):∀(d k:Nat),k+d+1<W P.b?.l->Way t ⟨p,k+1⟩ ⟨p,((k+d+1:Nat):Int)+1⟩
 |0,k,h=>.single ⟨Vd.of ⟨P,B,ζd c?⟩,Vd.of ⟨P,B,ζd h⟩,.inl f?⟩|d+1,k,h=>(Mg B d k c?).tail ⟨Vd.of ⟨P,B,ζd (show k+d+1<_ by omega)⟩,Vd.of ⟨P,B,ζd h⟩,.inl (by simp;omega)⟩
theorem aaX{q k:Nat}{b:Int}{Q:bU}{x:aZ}(B:t.a?.l[q]?=M Q)(h:Way t x ⟨q,k+1⟩)(a:(k:Int)<b)(D:b<=W Q.b?.l):Way t x ⟨q,b⟩:=by by_cases e:b=k+1;grind;have:=Mg B (b.toNat-k-2) k c?;rw[show((k+(b.toNat-k-2)+1:Nat)+1)=b from c?]at this;exact h.trans this
theorem Cons.N7(f:VT t)(g:eB t (bJ t) A)(d:Cons t A c){p:Nat}{a:Int}(D:c[p]?=M a)(m:0<a):Cons t A (c.set p (a-1))\/∃(q:Nat)(b:Int),c[q]?=M b/\0<b/\Way t ⟨p,a⟩ ⟨q,b⟩:=by
 have Y:=(ζe.1 D).1;have L:=ζd (show p<_j t.a?.l by rw[<-d.1.1];omega);have n:=d.1.2 p a _ D L;refine L? λB=>B (.inl ⟨d.1.set L c? c?,λq k e x u I o N=>?_⟩);obtain⟨z,w,a__⟩:∃z,c[q]?=M z/\x<=z:=by rw[D?]at I;split at I;(next e2=>subst e2;simp[Y]at I;exact⟨a,D,c?⟩);grind
 have⟨y,F,C⟩:=d.2 q k e z u w c? N;have⟨r,j,h,s,i,_⟩:=zF f g u N;rw[h]at F C⊢;simp only[u!]at F C⊢;by_cases e2:p=r;subst e2;rw[D]at F;cases F;refine⟨a-1,o?,?_⟩;refine L? λv=>B (.inr ⟨q,z,w,c?,?_⟩);have:a=j+1:=c?;subst this;have⟨Q,S,_⟩:=u;have J:=d.1.2 q z Q w S;have⟨T,P,W,X,l⟩:=i;exact aaX S (.single ⟨⟨T,W⟩,⟨P,X⟩,.inr ⟨T,P,W,X,l⟩⟩) c? J.2;simp_all
theorem Cons.acU(d:VT t)(e:eB t (bJ t) A)(f:Cons t A c):∀(n p:Nat)(a:Int),c[p]?=M a->0<a->W (bJ t)-KY t ⟨p,a⟩<=n->∃(q:Nat)(b:Int),c[q]?=M b/\0<b/\Cons t A (c.set q (b-1)):=by
 intro n
 induction n with
 |zero=>intro p a u w C;rcases f.N7 d e u w with h|⟨q,b,_,_,z⟩;grind;have:=N1 d z;have:=Yf (t:=t) ⟨q,b⟩;omega
 |succ n D=>intro p a u w C;rcases f.N7 d e u w with h|⟨q,b,g,B,z⟩;grind;have:=N1 d z;exact D q b g B c?
theorem Cons.down(e:VT t)(f:eB t (bJ t) A)(d:Cons t A c)(B:0<c.sum):∃(q:Nat)(b:Int),c[q]?=M b/\0<b/\Cons t A (c.set q (b-1)):=by
 obtain⟨p,a,u,z⟩:∃(p:Nat)(a:Int),c[p]?=M a/\0<a:=by refine L? λw=>?_;have D:∀a∈c,a=0:=λa u=>(by have⟨p,C⟩:=List.mem_iff_getElem?.1 u;have:=d.1.pos p a C;grind);have:c.sum=0:=(by clear d B w;induction c with|nil=>rfl|cons x c g=>simp_all);omega
 exact d.acU e f _ p a u z (z? _)
theorem Cons.JO(a:VT t)(e:eB t (bJ t) A):∀(d:Nat){c:SW}{k:Nat},Cons t A c->c.sum=((k+d:Nat):Int)->∃c',Cons t A c'/\c'.sum=(k:Int)
 |0,c,k,hC,D=>⟨c,hC,g?⟩|d+1,c,k,hC,D=>by have⟨q,b,J,T,B⟩:=hC.down a e c?;exact Cons.JO a e d B (by rw[uL J];omega)
end
theorem gy{α:Type}{s:Sl α}{n:Nat}(h:n<W s.l):_p ((n:Int)<len s)=O:=by simp[len];omega
theorem gY{α:Type}{s:Sl α}:_p ((W s.l:Int)<len s)=U:=by simp[len]
theorem DV{α:Type}{s x:Sl α}(h:W s.l+W x.l<=2147483648):∃r,pT s x=M r/\r.l=s.l++x.l:=by unfold pT;by_cases e:x.l=[];rw[J0 e];exact⟨s,Y,by rw[e,J!]⟩;rw[K' e,J0 h];exact⟨_,Y,Y⟩
theorem jk{α:Type}{s:Sl α}{x:α}(h:W s.l<2147483648):∃r,ec s x=M r/\r.l=s.l++[x]:=by unfold ec;rw[J0 c?];exact⟨_,Y,Y⟩
theorem pE{α:Type}{s:Sl α}{p:Nat}(h:p<W s.l):Sl.iF s (p:Int)=M p:=by unfold Sl.iF;rw[J0 ⟨c?,by simpa using h⟩];rfl
theorem put_eq{α:Type}{s:Sl α}{p:Nat}{x:α}(h:p<W s.l):∃r,Sl.put s p x=M r/\r.l=s.l.set p x:=by unfold Sl.put;rw[J0 h];exact⟨_,Y,by cases s<;>first|rfl|(simp[Sl.l]at h)⟩
section
variable{t:Z4}{A:bQ 200 bu}
def ClN(t:Z4)(A:bQ 200 bu)(c:SW)(n:Nat):Prop:=∀(p k:Nat)(e:WF)(a:Int),p<n->mJ t p k e->c[p]?=M a->(k:Int)<a->e.kind=3->∃b,c[(ag A e.d?).from_.proc.toNat]?=M b/\(ag A e.d?).from_.index<=b
theorem abk(i:Small t)(d:VT t)(l:eB t (bJ t) A){c:Zg}(Y:rP t c.l):Wp (eD t c) λb=>(b=O↔oO t A c.l):=by
 have F:=Y.1;have H:=d.few;unfold eD eD.W1;refine eu (_j c.l) (λn s=>s=(n:Int)/\ClN t A c.l n) ⟨_i,λp k e a h=>_c h c?⟩ ?_ ?_;rintro n _ B ⟨rfl,T⟩;unfold eD.bk;rw[gy B,bq];have z:n<_j t.a?.l:=by omega
 have K:=(i.2 _ (t? z)).1;have C:=ζd z;have D:=ζd B;have⟨r1,r2⟩:=Y.2 n _ _ D C;have J:=bC B;generalize c.l[n]=a at *;generalize t.a?.l[n]=P at *;unfold eD.W2;refine eu a.toNat (λm s=>s=(m:Int)/\∀(k:Nat)(e:WF),k<m->mJ t n k e->e.kind=3->∃b,c.l[(ag A e.d?).from_.proc.toNat]?=M b/\(ag A e.d?).from_.index<=b) ⟨_i,λk e h=>_c h c?⟩ ?_ ?_;rintro m _ N ⟨rfl,c__⟩;unfold eD.bK;have L:m<_j P.b?.l:=by omega
 have u:mJ t n m P.b?.l[m]:=⟨P,C,ζd L⟩;rw[J,ζb,show _p ((m:Int)<a)=O from by simp;omega,bq,iJ,C,ζb,bC L,ζb,cD m c?];generalize P.b?.l[m]=e at *;have more:(e.kind=3->∃b,c.l[(ag A e.d?).from_.proc.toNat]?=M b/\(ag A e.d?).from_.index<=b)->∀(k:Nat)(e:WF),k<m+1->mJ t n k e->e.kind=3->∃b,c.l[(ag A e.d?).from_.proc.toNat]?=M b/\(ag A e.d?).from_.index<=b:=λh k f o d__ w=>by by_cases r:k=m;subst r;cases u.one d__;exact h w;exact c__ k f c? d__ w
 rw[cn];refine⟨λw=>?_,λw=>(bf _).2 ⟨_i,more λk=>by simp[k]at w⟩⟩;have w:e.kind=3:=by simpa using w
 have⟨q,j,g,_,_,y,Q,v,_⟩:=zF d l u w;have a__:q<_j c.l:=by have:=(ζe.1 v).1;omega
 rw[find_eq i,IY d l u w,ζb,g];simp only;rw[bC a__,ζb,cn];refine⟨λW=>(bf _).2 ((bf _).2 ((bf _).2 ⟨λh=>(by cases h),λE=>?_⟩)),λX=>(bf _).2 ⟨_i,more λ_=>?_⟩⟩;have⟨b,b__,S⟩:=E n m e a u D c? w;rw[g]at b__ S;simp only[u!,ζd a__,ζa]at b__ S;simp only[_e]at W;omega;rw[g];exact⟨c.l[q],by simp only[u!];exact ζd a__,by simp at X⊢;omega⟩;rintro _ ⟨rfl,c__⟩;unfold eD.bK;rw[J,ζb,show _p ((a.toNat:Int)<a)=U from by simp;omega,bt];refine(bf _).2 ((bf _).2 ⟨cD n c?,λp k e x hp u I o w=>?_⟩);by_cases e2:p=n;subst e2;rw[D]at I;cases I;exact c__ k e c? u w;exact T p k e x c? u I o w;rintro _ ⟨rfl,T⟩;unfold eD.bk;rw[gY,bt];exact(bf _).2 ((bf _).2 ⟨λ_ p k e a u I=>T p k e a (ζe.1 I).1 u I,λ_=>rfl⟩)
theorem acP(a:Small t)(d:VT t)(e:eB t (bJ t) A){c:Zg}(B:W c.l=W t.a?.l):Wp (z8 t c) λb=>(b=O↔Cons t A c.l):=by unfold z8;rw[ey];refine(YA a B).mono λb w=>?_;rw[ey,cn];constructor;intro h;have z:=w.1 h;rw[ey];refine(abk a d e z).mono λC u=>?_;rw[bf,bf];exact u.trans ⟨λh=>⟨z,h⟩,λh=>h.2⟩;intro h;rw[bf,bf];exact⟨λh=>(by cases h),λf=>_c (w.2 f.1) (by simp[h])⟩
theorem step_eq{c:Zg}{p:Nat}{a:Int}(B:c.l[p]?=M a)(J:W c.l<=1073741824)(T:0<=a)(b:a<1073741824):∃d:Zg,tS c p=M d/\d.l=c.l.set p (a+1):=by have w:=(ζe.1 B).1;unfold tS;have⟨r,z,u⟩:=DV (s:=Sl.row []) (x:=c) (show 0+W c.l<=_ by omega);have u:r.l=c.l:=u;rw[z,ζb,pE (by rw[u];exact w),ζb];unfold Sl.get;rw[u,B,ζb,ζb,fH _ c? c?];have⟨d,C,D⟩:=put_eq (s:=r) (p:=p) (x:=a+1) (by rw[u];exact w);rw[C];exact⟨d,Y,by rw[D,u]⟩
end
def ins(s:Zb):aX SW:=s.l.map Sl.l
theorem ND{α:Type}(s:Sl α)(i:Nat)(h:i<=W s.l):∃x,iw s (M (i:Int)) G=M x/\x.l=s.l.drop i:=by unfold iw eA;simp only[O!,getD_none];rw[J0 ⟨c?,c?,c?⟩];exact⟨_,Y,by cases s<;>simp[Sl.l]⟩
def Fp(t:Z4)(A:bQ 200 bu)(c d:SW):Prop:=∃(p:Nat)(a:Int),c[p]?=M a/\d=c.set p (a+1)/\Cons t A d
section
variable{t:Z4}{A:bQ 200 bu}
theorem oQ{s:Zb}{d:SW}:d∈ins s↔∃x∈s.l,x.l=d:=by unfold ins;exact mem_map
theorem HN{r s:Zb}{x:Zg}(h:r.l=s.l++[x]){d:SW}:d∈ins r↔d∈ins s\/d=x.l:=by unfold ins;rw[h];simp
theorem Zs(f:Small t)(g:VT t)(j:eB t (bJ t) A){c:Zg}(i:Cons t A c.l):Wp (ku t c) λr=>W r.l<=8/\∀d,d∈ins r↔Fp t A c.l d:=by
 have J:=i.1.1;have T:=g.few;unfold ku ku.W1;refine eu (W c.l) (λn s=>s.2=(n:Int)/\s.1.l.length<=n/\∀d,d∈ins s.1↔∃(p:Nat)(a:Int),p<n/\c.l[p]?=M a/\d=c.l.set p (a+1)/\Cons t A d) ⟨Y,z? _,λd=>⟨λh=>by simp[ins,Sl.l]at h,λ⟨p,a,h,_⟩=>_c h c?⟩⟩ ?_ ?_;rintro n ⟨out,_⟩ B ⟨h,u,m⟩;simp only at h u m;subst h;have w:n<W t.a?.l:=by omega
 have q:=(f.2 _ (t? w)).1;have z:=ζd B;have l:=i.1.2 n _ _ z (ζd w);unfold ku.bk;rw[gy B,bq,bC B,ζb,bC w,ζb,cD n c?];generalize c.l[n]=a at *;have keep:¬Cons t A (c.l.set n (a+1))->∀d,d∈ins out↔∃(p:Nat)(a:Int),p<n+1/\c.l[p]?=M a/\d=c.l.set p (a+1)/\Cons t A d:=λL d=>by rw[m];refine⟨λ⟨p,b,h,k⟩=>⟨p,b,c?,k⟩,λ⟨p,b,h,k1,k2,k3⟩=>⟨p,b,?_,k1,k2,k3⟩⟩;refine L? λX=>L ?_;have:p=n:=c?;subst this;rw[z]at k1;cases k1;rw[<-k2];exact k3
 by_cases C:a<t.a?.l[n].b?.l.length;have⟨d,hd,D⟩:=step_eq (c:=c) z c? l.1 c?;rw[show _p (a<(len t.a?.l[n].b?))=O from by simpa[len]using C,bq,hd,ζb,ey,ey];refine(acP f g j (c:=d) (by rw[D,z6];exact J)).mono λb o=>?_;rw[D]at o;rw[bf,cn];constructor;intro y;have⟨r,Q,I⟩:=jk (s:=out) (x:=d) c?;rw[ζb,Q,ζb,bf];refine⟨Y,by rw[I];simp;omega,λe=>?_⟩;rw[HN I,m,D];constructor;rintro(⟨p,b,h,k⟩|h);exact⟨p,b,c?,k⟩;exact⟨n,a,c?,z,h,by rw[h];exact o.1 y⟩;rintro⟨p,b,h,k1,k2,k3⟩;by_cases e2:p=n;subst e2;rw[z]at k1;cases k1;exact .inr k2;exact .inl ⟨p,b,c?,k1,k2,k3⟩;intro S;exact(bf _).2 ⟨Y,Nat.le_succ_of_le u,keep λh=>by rw[o.2 h]at S;cases S⟩;rw[show _p (a<(len t.a?.l[n].b?))=U from by simpa[len]using C,bt,ζb,bt,bf];refine⟨Y,Nat.le_succ_of_le u,keep λh=>?_⟩;have:=h.1.2 n (a+1) _ (by simp[D?,B]) (ζd w);omega;rintro⟨out,_⟩ ⟨h,u,m⟩;simp only at h u m;subst h;unfold ku.bk;rw[gY,bt,bf];refine(bf _).2 ⟨show W out.l<=8 by omega,λd=>(m d).trans ⟨λ⟨p,a,_,h⟩=>⟨p,a,h⟩,λ⟨p,a,h⟩=>⟨p,a,(ζe.1 h.1).1,h⟩⟩⟩
def Cc(t:Z4)(A:bQ 200 bu)(k:Nat)(s:Zb):Prop:=∀d,d∈ins s↔Cons t A d/\d.sum=(k:Int)
theorem Fp.iff(g:VT t)(h:eB t (bJ t) A){k:Nat}{d:SW}:(∃c,(Cons t A c/\c.sum=(k:Int))/\Fp t A c d)↔Cons t A d/\d.sum=((k+1:Nat):Int):=by
 constructor;rintro⟨c,⟨f,B⟩,p,a,C,rfl,u⟩;exact⟨u,by rw[uL C];omega⟩;rintro⟨u,B⟩;have⟨q,b,w,D,f⟩:=u.down g h c?;have z:=(ζe.1 w).1;refine⟨_,⟨f,by rw[uL w];omega⟩,q,b-1,by simp[z],?_,u⟩;rw[List.set_set,show b-1+1=b from c?];refine Z! λi=>?_;rw[D?];split;next e=>subst e;simp[z,w];exact(ζe.1 w).2.symm▸rfl
 rfl
theorem B9{s:Zb}{n:Nat}(h:n<W s.l){d:SW}:d∈(s.l.take (n+1)).map Sl.l↔d∈(s.l.take n).map Sl.l\/d=s.l[n].l:=by rw[show s.l.take (n+1)=s.l.take n++[s.l[n]]from by rw[a!,ζd h];rfl];simp only[o!,M!,P?,Y!,d!]
theorem NW:∀n:Nat,(w? n (0:Int)).sum=0
 |0=>rfl|n+1=>by rw[List.replicate_succ,F!,NW n];rfl
theorem GC:Cons t A (w? (W t.a?.l) 0):=by
 have w:∀(p:Nat)a,(w? (W t.a?.l) (0:Int))[p]?=M a->a=0:=λp a h=>by rw[P!]at h;split at h<;>cases h;rfl
 exact⟨⟨f?,λp a P u _=>by rw[w p a u];omega⟩,λp k e a _ u b=>by rw[w p a u]at b;omega⟩
theorem MV{z:Zg}(B:z.l=w? (W t.a?.l) 0):Cc t A 0 (Sl.row [z]):=by
 intro d;have:d∈ins (Sl.row [z])↔d=w? (W t.a?.l) 0:=by unfold ins;rw[<-B];exact d!
 rw[this];constructor;rintro rfl;exact⟨GC,by rw[NW];rfl⟩;rintro⟨a,u⟩;refine Z! λi=>?_;rw[P!,<-a.1.1];split;next hi=>have h:=ζd hi;rw[h,LP a.1.pos (by simpa using u) i _ h]
 exact j! c?
theorem Cc.none(a:VT t)(b:eB t (bJ t) A){k:Nat}{s:Zb}(h:Cc t A k s)(D:W s.l=0){d:SW}(B:Cons t A d):d.sum<(k:Int):=by refine L? λu=>?_;have C:=sR B.1.pos;have⟨c,e,w⟩:=Cons.JO a b (d.sum.toNat-k) (k:=k) B c?;have:=(h c).2 ⟨e,w⟩;have⟨x,z,_⟩:=oQ.1 this;have:=List.length_pos_of_mem z;omega
theorem Cc.last{s:Zb}(h:Cc t A (uJ t+1) s):W s.l=0:=by refine L? λu=>?_;have w:=t? (show 0<W s.l by omega);have:=(h s.l[0].l).1 (oQ.2 ⟨_,w,Y⟩);have:=this.1.1.sum;omega
theorem Gp{α:Type}(s:Sl α):_p ((len s)>0)= !_p (W s.l=0):=by by_cases h:W s.l=0;simp[len,h];simp[h,len];omega
end
def gH:SW->SW->Int
 |[],[]=>0|[],_::_=>-1|_::_,[]=>1|x::a,y::b=>if x<y then -1 else if x>y then 1 else gH a b
theorem zY:∀a,gH a a=0
 |[]=>rfl|x::a=>by simp[gH,zY a]
theorem DH:∀a b c,gH a b<0->gH b c<0->gH a c<0
 |[],[],_,h,_=>by simp[gH]at h|[],_::_,[],_,h=>by simp[gH]at h|[],_::_,_::_,_,_=>by simp[gH]|_::_,[],_,h,_=>by simp[gH]at h|_::_,_::_,[],_,h=>by simp[gH]at h|x::a,y::b,z::c,h1,B=>by have D:=DH a b c;simp only[gH]at h1 B⊢;split at h1;split at B;rw[J0 c?];omega;split at B;omega;rw[J0 c?];omega;split at h1;omega;split at B;rw[J0 c?];omega;split at B;omega;rw[K' c?,K' c?];exact D h1 B
theorem AN:∀a b,¬gH a b<0->¬gH b a<0->a=b
 |[],[],_,_=>rfl|[],_::_,h,_=>by simp[gH]at h|_::_,[],_,h=>by simp[gH]at h|x::a,y::b,h1,B=>by have D:=AN a b;simp only[gH]at h1 B;split at h1;omega;split at B;omega;rw[D (by first|assumption|(split at h1<;>first|assumption|omega)) (by first|assumption|(split at B<;>first|assumption|omega)),show x=y from c?]
theorem Vp(a b c:SW)(d:¬gH a b<0)(B:¬gH b c<0):¬gH a c<0:=λh=>by by_cases u:gH b a<0;exact B (DH b a c u h);rw[AN a b d u]at h;exact B h
theorem V0{α:Type}{s:Sl α}{p:α->α->Ps}{f:α->SW}(hp:∀x y,x∈s.l->y∈s.l->p x y=M (gH (f x) (f y)))(T:W s.l<2147483648):∃r,BH s p=M r/\r.l.Perm s.l/\r.l.Pairwise λx y=>¬gH (f y) (f x)<0:=by
 unfold BH;split;next h=>exact⟨s,Y,List.Perm.refl _,by rw[h];exact Pairwise.nil⟩
 rename_i x l h;rw[J0 (by rw[h]at T;simp at T;omega)];simp only;have S:∀i j:_root_.Fin (W l+1),p (x::l)[i.1] (x::l)[j.1]=M (gH (f (x::l)[i.1]) (f (x::l)[j.1])):=λi j=>hp _ _ (by rw[h];exact t? _) (by rw[h];exact t? _);have C:(rG λi j:_root_.Fin (W l+1)=>p (x::l)[i.1] (x::l)[j.1])=λi j=>_p (gH (f (x::l)[i.1]) (f (x::l)[j.1])<0):=by funext i j;unfold rG;show _p ((p _ _).getD 0<0)=_;rw[S];rfl
 have D:DB (λi j:_root_.Fin (W l+1)=>p (x::l)[i.1] (x::l)[j.1])=O:=by have u:∀i j,rG (λi j:_root_.Fin (W l+1)=>p (x::l)[i.1] (x::l)[j.1]) i j=_p (gH (f (x::l)[i.1]) (f (x::l)[j.1])<0):=λi j=>(by rw[C]);refine all_eq_true.2 λi _=>Bool.and_eq_true_iff.2 ⟨by rw[u,zY];rfl,all_eq_true.2 λj _=>Bool.and_eq_true_iff.2 ⟨by show(p _ _).isSome=O;rw[S];rfl,all_eq_true.2 λk _=>Bool.and_eq_true_iff.2 ⟨?_,?_⟩⟩⟩;have:=DH (f (x::l)[i.1]) (f (x::l)[j.1]) (f (x::l)[k.1]);rw[u,u,u];simp only[g!,e!,Bool.and_eq_false_iff,_e,_f];omega;have:=Vp (f (x::l)[i.1]) (f (x::l)[j.1]) (f (x::l)[k.1]);rw[u,u,u];simp only[g!,e!,_e,_f];omega
 rw[J0 D];have g:=(s6 D).2;have J:=Sort.pdq_sorts _ g (V! (W l+1)).toArray 0 (W l+1) (Lib.bitLen (W l+1)) O O (V? _) f? (Or.inl Y);rw[<-EL]at J;generalize tu (W l) _=d at J;have⟨⟨z,_,w⟩,B⟩:=J;have z:d.size=W l+1:=by simpa using z
 have I:∀y:aX α,(s.re y).l=y:=λy=>by cases s<;>first|rfl|(simp[Sl.l]at h)
 refine⟨_,Y,?_,?_⟩;rw[I,h];have a:d.extract 0 (W l+1)=d:=Array.ext (by simp[z]) λi a L=>by simp
 rw[a]at w;have L:((V! (W l+1)).toArray.extract 0 (W l+1)).toList=V! (W l+1):=by simp[O?]
 rw[L]at w;refine(w.map _).trans ?_;rw[show(V! (W l+1)).map (λi=>(x::l)[i.1])=x::l from ?_];exact List.ext_getElem f? λi a L=>f?;rw[I,f4,List.pairwise_iff_getElem];intro i j hi m Q;have:=B i j (V? _) Q (by simpa[z]using m);rw[C]at this;simp only[Array.length_toList]at hi m;simp only[getElem!_pos d i hi,getElem!_pos d j m,_f]at this;simpa using this
def Ib(c:SW):SW:=c.sum::c
def JF(c:SW):Prop:=W c<=8/\∀x∈c,0<=x/\x<1073741824
theorem Ve{c:SW}(h:JF c)(i:Nat):0<=(c.take i).sum/\(c.take i).sum<=8589934592:=by
 have key:∀(l:SW),(∀x∈l,0<=x/\x<1073741824)->0<=l.sum/\l.sum<=1073741824*(W l:Int):=by intro l;induction l with|nil=>intro _;simp|cons x l u=>intro h;have a:=h x f?;have w:=u λy z=>h y (C? _ z);simp only[F!,Z?];omega
 have a:=key (c.take i) λx B=>h.2 x (K? B);have w:W (c.take i)<=8:=by rw[C!];have:=h.1;omega
 omega
theorem LH{c:SW}{i:Nat}(hi:i<W c):(c.take (i+1)).sum=(c.take i).sum+c[i]:=by rw[List.take_succ_eq_append_getElem hi,List.sum_append];simp
theorem TB{a b:SW}{i:Nat}(B:i<W a)(D:i<W b):gH (a.drop i) (b.drop i)=if a[i]<b[i]then -1 else if a[i]>b[i]then 1 else gH (a.drop (i+1)) (b.drop (i+1)):=by rw[Y? B,Y? D];rfl
def eW(x y:SW):Prop:=gH (Ib x) (Ib y)<0
instance(x y:SW):Decidable (eW x y):=by unfold eW;exact inferInstance
theorem eW.JJ(x:SW):¬eW x x:=by unfold eW;rw[zY];omega
theorem eW.tr{x y z:SW}(h:eW x y)(k:eW y z):eW x z:=DH _ _ _ h k
theorem eW.tot{x y:SW}(h:¬eW x y)(k:¬eW y x):x=y:=by have:=AN _ _ h k;unfold Ib at this;exact(List.cons.inj this).2
theorem eW.sum{x y:SW}(h:x.sum<y.sum):eW x y:=by unfold eW Ib;simp[gH,h]
theorem FH:∀{l r:aX (aX Int)},l.Pairwise eW->r.Pairwise eW->(∀x,x∈l↔x∈r)->l=r
 | [],[],_,_,_=>rfl
 | [],y::r,_,_,h=>by have:=(h y).2 f?;simp at this
 | x::l,[],_,_,h=>by have:=(h x).1 f?;simp at this
 | x::l,y::r,C,hr,h=>by
  have e:x=y:=by
   rcases List.mem_cons.1 ((h x).1 f?)with e|e
   .exact e
   rcases List.mem_cons.1 ((h y).2 f?)with k|k
   .exact k.symm
   exact _c (((List.pairwise_cons.1 hr).1 x e).tr ((List.pairwise_cons.1 C).1 y k)) (eW.JJ y)
  subst e
  congr 1
  have u:=List.pairwise_cons.1 C;have w:=List.pairwise_cons.1 hr;refine FH u.2 w.2 λz=>⟨λB=>?_,λB=>?_⟩
  .rcases List.mem_cons.1 ((h z).1 (List.mem_cons_of_mem _ B))with e|e
   .exact _c (e▸u.1 z B) (eW.JJ x)
   exact e
  rcases List.mem_cons.1 ((h z).2 (List.mem_cons_of_mem _ B))with e|e
  .exact _c (e▸w.1 z B) (eW.JJ x)
  exact e
theorem DO{t:Z4}{A:bQ 200 bu}(b:Small t)(d:VT t){c:SW}(a:Cons t A c):JF c:=by
 refine⟨a.1.1▸d.few,λx z=>?_⟩;have⟨p,w,e⟩:=mem_iff_getElem.1 z;have u:p<W t.a?.l:=by rw[<-a.1.1];exact w
 have:=a.1.2 p x _ (by rw[ζd w,e]) (ζd u);have k:=(b.2 _ (t? u)).1;omega
theorem eW.MU{x y:SW}(h:x.sum=y.sum):eW x y↔gH x y<0:=by unfold eW Ib;simp only[gH,K' (show¬x.sum<y.sum by omega),K' (show¬x.sum>y.sum by omega)]
theorem eW.nodup{L:aX SW}(h:L.Pairwise eW):L.Nodup:=h.imp λ{x y}(h:eW x y)(e:x=y)=>eW.JJ y (by rw[e]at h;exact h)
theorem PR {L:aX (aX Int)} {c:aX Int} {j:Nat} (h:L.Pairwise eW) (h1:∀(i:Nat) x,i<j->L[i]? = some x->eW x c) (D:∀x,L[j]? = some x->eW c x) :
 (L.take j++[c]++L.drop j).Pairwise eW/\∀x,x∈L.take j++[c]++L.drop j↔x∈L\/x=c:=by
 have w:∀x∈L.take j,eW x c:=λx hx=>by
  obtain⟨k,hk,e⟩:=List.mem_iff_getElem.1 hx;rw[List.length_take]at hk;rw[List.getElem_take]at e;exact h1 k x c? (by rw[ζd c?,e])
 have u:∀x∈L.drop j,eW c x:=λx hx=>by
  obtain⟨k,hk,e⟩:=List.mem_iff_getElem.1 hx;rw[List.length_drop]at hk;rw[List.getElem_drop]at e;have B:j<L.length:=by omega
  have k0:=D _ (ζd B)
  by_cases e0:k=0
  .subst e0;simp only[Nat.add_zero]at e;rw[<-e];exact k0
  rw[<-e];exact k0.tr (List.pairwise_iff_getElem.1 h j (j+k) B c? c?)
 refine⟨List.pairwise_append.2 ⟨List.pairwise_append.2 ⟨h.sublist (List.take_sublist _ _),List.pairwise_singleton _ _,λx hx y z=>?_⟩,h.sublist (List.drop_sublist _ _),λx hx y z=>?_⟩,λx=>?_⟩
 .rw[List.mem_singleton.1 z];exact w x hx
 .rcases List.mem_append.1 hx with hx|hx
  .exact(w x hx).tr (u y z)
  rw[List.mem_singleton.1 hx];exact u y z
 conv=>rhs;rw[<-List.take_append_drop j L]
 simp only[List.mem_append,List.mem_singleton];constructor
 .rintro ((h|h)|h) <;> simp[h]
 rintro ((h|h)|h) <;> simp[h]
theorem Wh{α:Type}{s:Sl α}{p:α->α->aY X'}{f:α->SW}(hp:∀x y,x∈s.l->y∈s.l->p x y=M (_p (f x=f y)))(k:W s.l<2147483648)(c:s.l.Pairwise λx y=>¬gH (f y) (f x)<0):
 ∃r,Ax s p=M r/\(r.l.map f).Nodup/\(∀d,d∈r.l.map f↔d∈s.l.map f)/\W r.l<=W s.l:=by
 have Q:∀i,i<W s.l->0<i->∃(a:i<W s.l)(q:i-1<W s.l),vX s.l p i=M (_p (f s.l[i]=f s.l[i-1])):=λi h l=>by refine⟨h,c?,?_⟩;unfold vX;rw[ζd h,ζd (show i-1<W s.l by omega)];exact hp _ _ (t? _) (t? _)
 unfold Ax;rw[J0 ⟨c?,all_eq_true.2 λi hi=>by
  by_cases h:i=0
  .subst h;rfl
  have⟨_,_,e⟩:=Q i (mem_range.1 hi) c?
  rw[e];simp⟩]
 have B:∀y:aX α,(s.l=[]->y=[])->(s.vN y).l=y:=λy z=>by cases s<;>first|rfl|exact(z _i).symm
 have S:∀i,i∈kept (λi=>(vX s.l p i).getD U) (W s.l)↔i<W s.l/\(i=0\/(vX s.l p i).getD U=U):=λi=>by unfold kept;simp[List.mem_filter]
 have C:=DP (λi=>(vX s.l p i).getD U) (W s.l)
 have T:(kept (λi=>(vX s.l p i).getD U) (W s.l)).Pairwise (·<·):=by unfold kept;exact List.pairwise_lt_range.filter _
 generalize kept (λi=>(vX s.l p i).getD U) (W s.l)=K at *
 have w:(s.vN (K.filterMap (s.l[·]?))).l=K.filterMap (s.l[·]?):=B _ λh=>by rw[h];simp
 refine⟨_,_i,?_,λd=>?_,?_⟩
 .rw[w,Nodup,f4,List.pairwise_filterMap];refine T.imp_of_mem ?_;intro i j hi N m x u y z D;have⟨F,o⟩:=(S j).1 N;have⟨a,q,e⟩:=Q j F c?
  rw[e]at o;have P:¬f s.l[j]=f s.l[j-1]:=by rcases o with h|h;omega;simpa using h
  rw[ζd a]at z;cases z;have I:i<W s.l:=c?
  rw[ζd I]at u;cases u;have J:=List.pairwise_iff_getElem.1 c;have a1:=J (j-1) j q a c?
  refine P (AN _ _ a1 ?_)
  by_cases e2:i=j-1
  .subst e2;rw[<-D,zY];omega
  have Y:=J i (j-1) I q c?
  rw[D]at Y;exact Y
 .rw[w];simp only[mem_map,List.mem_filterMap];constructor
  .rintro⟨x,⟨i,_,u⟩,rfl⟩;exact⟨x,s? u,_i⟩
  rintro⟨x,u,rfl⟩;have⟨i,hi⟩:=List.mem_iff_getElem?.1 u;have key:∀(i:Nat)x,s.l[i]?=M x->∃y,(∃j,j∈K/\s.l[j]?=M y)/\f y=f x:=by intro i;induction i with|zero=>intro x u;exact⟨x,⟨0,(S 0).2 ⟨(ζe.1 u).1,.inl rfl⟩,u⟩,rfl⟩|succ i ih=>intro x u;have L:=(ζe.1 u).1;have⟨a,q,e⟩:=Q (i+1) L c?;have X:s.l[i+1]=x:=(ζe.1 u).2;by_cases b:f s.l[i+1]=f s.l[i+1-1];have⟨y,z,g⟩:=ih _ (ζd (show i<W s.l by omega));exact⟨y,z,by rw[g,<-X];exact b.symm⟩;exact⟨x,⟨i+1,(S _).2 ⟨L,.inr (by rw[e];simpa using b)⟩,u⟩,_i⟩
  exact key i x hi
 rw[w];exact Nat.le_trans (List.length_filterMap_le ..) C
theorem PX{a b:Zg}(J:W a.l<1073741824):lp a b=M (gH a.l b.l):=by
 refine Wp.eq ?_;unfold lp fZ fZ.W1;rw[ey];refine eu (W a.l) (λn s=>s=(n:Int)/\n<=W b.l/\gH (a.l.drop n) (b.l.drop n)=gH a.l b.l) ⟨Y,V? _,Y⟩ ?_ ?_;rintro n _ w ⟨rfl,C,u⟩;unfold fZ.bk;rw[gy w,bq,bC w,ζb];have hd:a.l.drop n=a.l[n]::a.l.drop (n+1):=Y? w;by_cases D:n<W b.l;have d:b.l.drop n=b.l[n]::b.l.drop (n+1):=Y? D;rw[show _p ((n:Int)>=len b)=U from by simp[len];omega,bt,bC D,ζb];rw[hd,d]at u;simp only[gH]at u;generalize a.l[n]=x at *;generalize b.l[n]=y at *;have z:rE x y=M (if x<y then -1 else if x>y then 1 else 0):=by unfold rE ue;simp only[bne_self_eq_false,ζb,bt,bq];by_cases c:x<y;simp[c,bg];by_cases B:x>y;simp[c,B,bg];simp[c,B,bg]
 rw[z,ζb];by_cases c:x<y;rw[J0 c]at u⊢;rw[show((-1:Int)==0)=U from Y,bt,bf];exact(bf _).2 ((bf _).2 u);rw[K' c]at u⊢;by_cases B:x>y;rw[J0 B]at u⊢;rw[show((1:Int)==0)=U from Y,bt,bf];exact(bf _).2 ((bf _).2 u);rw[K' B]at u⊢;rw[show((0:Int)==0)=O from Y,bq,bf];exact⟨cD n c?,D,u⟩;rw[show _p ((n:Int)>=len b)=O from by simp[len];omega,bq,bf];rw[hd,List.drop_eq_nil_of_le (show W b.l<=n by omega)]at u;exact(bf _).2 ((bf _).2 u);rintro _ ⟨rfl,C,u⟩;unfold fZ.bk;rw[gY,bt,bf];rw[List.drop_eq_nil_of_le (z? _)]at u;by_cases h:W a.l<W b.l;rw[show _p (len a<len b)=O from by simp[len];omega,bq];rw[Y? h]at u;exact(bf _).2 ((bf _).2 u);rw[show _p (len a<len b)=U from by simp[len];omega,bt];rw[List.drop_eq_nil_of_le (show W b.l<=W a.l by omega)]at u;exact(bf _).2 ((bf _).2 u)
theorem Lo{a b:Zg}(D:W a.l<1073741824):fN a b=M (_p (a.l=b.l)):=by
 refine Wp.eq ?_;unfold fN;rw[cn];refine⟨λh=>?_,λh=>(bf _).2 ?_⟩;have h:(W a.l:Int)=W b.l:=by simpa[len]using h
 have h:W a.l=W b.l:=c?;unfold fN.W1;refine eu (W a.l) (λn s=>s=(n:Int)/\∀i,i<n->a.l[i]?=b.l[i]?) ⟨Y,λi h=>_c h c?⟩ ?_ ?_;rintro n _ u ⟨rfl,z⟩;unfold fN.bk;have B:n<W b.l:=by omega
 rw[show _p ((n:Int)<len a)=O from gy u,bq,bC u,ζb,bC B,ζb,cn];refine⟨λw=>(bf _).2 ⟨cD n c?,λi hi=>?_⟩,λw=>(bf _).2 ((bf _).2 ?_)⟩;by_cases e:i=n;subst e;rw[ζd u,ζd B];simpa using w;exact z i c?;refine(N' λe=>?_).symm;have c:a.l[n]?=b.l[n]?:=by rw[e]
 rw[ζd u,ζd B]at c;simp at w c;exact w c;rintro _ ⟨rfl,z⟩;unfold fN.bk;rw[gY,bt,bf];refine(bf _).2 (_a (Z! λi=>?_)).symm;by_cases hi:i<W a.l;exact z i hi;rw[j! c?,j! c?];refine(N' λe=>?_).symm;simp[len,e]at h
section
variable{t:Z4}{A:bQ 200 bu}
def xL(A:bQ 200 bu)(e:WF):aZ:=if e.kind=3 then(ag A e.d?).from_ else⟨0,0⟩
structure Xj(t:Trace)(A:bQ 200 bu)(n:Nat)(m:cF):Prop where
 lens:m.lengths.l=(t.a?.l.take n).map λP=>(P.b?.l.length:Int)
 need:m.need.l.map Sl.l=(t.a?.l.take n).map λP=>P.b?.l.map (xL A)
theorem of_wp(d:Small t)(h:cm t=M O)(f:VT t)(g:eB t (bJ t) A):Wp (l9 t) (Xj t A t.a?.l.length):=by
 have Y:=f.few;unfold l9 l9.W1;refine eu t.a?.l.length (λn s=>s.1=(n:Int)/\s.2.1=t/\Xj t A n s.2.2.2) ⟨rfl,rfl,rfl,rfl⟩ ?_ ?_;rintro n ⟨_,_,e__,I⟩ z ⟨a,B,u⟩;simp only at a B u;subst a;have B:=B.symm;subst B;unfold l9.bk;rw[gy z,bq,bC z,ζb];have c__:=ζd z;have K:=(d.2 _ (t? z)).1;generalize a__:t.a?.l[n]=P at *;unfold l9.W2;refine eu P.b?.l.length (λk s=>s.2.1=(k:Int)/\s.2.2.1=t/\s.2.2.2.2=I/\s.1.l=(P.b?.l.take k).map (xL A)) ⟨rfl,rfl,rfl,rfl⟩ ?_ ?_;rintro k ⟨nd,_,_,T,_⟩ c ⟨Q,C,D,L⟩;simp only at Q C D L;subst Q;have C:=C.symm;have D:=D.symm;subst C D;unfold l9.bK;rw[gy c,bq,bC c,ζb];have d__:mJ t n k P.b?.l[k]:=⟨P,c__,ζd c⟩;have b__:P.b?.l.take (k+1)=P.b?.l.take k++[P.b?.l[k]]:=by rw[a!,ζd c];rfl
 generalize P.b?.l[k]=e at *;have fin:∀id,id=xL A e->Wp (l9.J3 nd t.a? (len t.a?) n P.b? (len P.b?) k t ⟨Sl.nil,Sl.nil⟩ I P id) λw=>match w with|.n S=>S.2.1=((k+1:Nat):Int)/\S.2.2.1=t/\S.2.2.2.2=I/\S.1.l=(P.b?.l.take (k+1)).map (xL A)|.x e=>False|.r b=>False:=λid W=>by unfold l9.J3;have⟨r,i,l⟩:=jk (s:=nd) (x:=id) (by rw[L];simp;omega);rw[i,ζb,bf];exact⟨cD k c?,rfl,rfl,by rw[l,L,b__,o!,W];rfl⟩
 rw[cn];constructor;intro u;have u:e.kind=3:=by simpa using u
 have⟨q,j,y,m,o,p,y3,y4,y5⟩:=wz f g d__ u;have X:=CA d h g (dV.2 ⟨q,j,m,rfl⟩:((⟨q,j+1⟩:aZ),y)∈bJ t) o;simp only at X;rw[p]at X;rw[X,ζb];refine(fin _ (by unfold xL;rw[J0 u,y5])).mono λw J=>?_;cases w with|n s=>exact J|x e=>exact J.elim|r b=>exact J.elim
 intro u;have u:¬e.kind=3:=by simpa using u
 refine(fin _ (by unfold xL;rw[K' u])).mono λw J=>?_;cases w with|n s=>exact J|x e=>exact J.elim|r b=>exact J.elim
 rintro⟨nd,_,_,T,_⟩ ⟨Q,C,D,L⟩;simp only at Q C D L;subst Q;have C:=C.symm;have D:=D.symm;subst C D;unfold l9.bK;have N:I.lengths.l.length=n:=by rw[u.lens];simp;omega
 have R:I.need.l.length=n:=by have:=_d List.length u.need;simp at this;omega
 have⟨v,a1,E⟩:=jk (s:=I.lengths) (x:=len P.b?) c?;have⟨x2,F,H⟩:=jk (s:=I.need) (x:=nd) c?;rw[gY,bt,bf];simp only;rw[a1,ζb,F,ζb,bf];have b__:t.a?.l.take (n+1)=t.a?.l.take n++[P]:=by rw[a!,c__];rfl
 refine⟨cD n c?,rfl,?_,?_⟩;show v.l=_;rw[E,u.lens,b__,o!];rfl;show x2.l.map Sl.l=_;rw[H,o!,u.need,b__,o!,P?,L,H?];rfl;rintro⟨_,_,e__,I⟩ ⟨a,B,u⟩;simp only at a B u;subst a;have B:=B.symm;subst B;unfold l9.bk;rw[gY,bt,bf];exact(bf _).2 u
theorem U6(f:VT t)(g:eB t (bJ t) A){m:cF}(n:Xj t A (_j t.a?.l) m){c:Zg}(d:Cons t A c.l){p:Nat}(hp:p<_j t.a?.l):
 Wp (qG m c p) λb=>(b=O↔∃a,c.l[p]?=M a/\Cons t A (c.l.set p (a+1))):=by
 have V:=d.1.1;have u:=ζd hp;have⟨a,w⟩:=d.1.at_ hp;have F:=d.1.2 p a _ w u;generalize t.a?.l[p]=P at *;have D:m.lengths.l[p]?=M (_j P.b?.l:Int):=by rw[n.lens,H?,Q?,u];rfl
 have J:=(ζe.1 w).1;have L:idx c (p:Int)=M a:=by rw[iJ];exact w
 unfold qG;rw[L,ζb,iJ,D,ζb,cn];constructor
 .intro h;have h:a=_j P.b?.l:=by simpa using h
  refine(bf _).2 ⟨λh=>(by cases h),λ⟨b,B,c__⟩=>?_⟩
  rw[w]at B;cases B;have:=c__.1.2 p (a+1) P (by simp[J]) u
  omega
 intro h;have h:¬a=_j P.b?.l:=by simpa using h
 have S:a<_j P.b?.l:=c?
 have o:=_d (λl=>l[p]?) n.need
 simp only[H?,Q?,u,B?]at o;have⟨nd,T,d__⟩:=ζf.1 o;have z:a.toNat<_j P.b?.l:=c?
 have H:idx nd a=M (xL A P.b?.l[a.toNat]):=by rw[P_ F.1,d__,Q?,ζd z];rfl
 rw[iJ,T,ζb,ζb,H,ζb];have W:=d.up f g u w S;have b__:(∃b,c.l[p]?=M b/\Cons t A (c.l.set p (b+1)))↔HI t A c.l p:=by rw[W];exact⟨λ⟨b,B,k⟩=>by rw[w]at B;cases B;exact k,λk=>⟨a,w,k⟩⟩
 rw[b__];have X:mJ t p a.toNat P.b?.l[a.toNat]:=⟨P,u,ζd z⟩;have Y:HI t A c.l p↔(P.b?.l[a.toNat].kind=3->∃b,c.l[(ag A P.b?.l[a.toNat].d?).from_.proc.toNat]?=M b/\(ag A P.b?.l[a.toNat].d?).from_.index<=b):=⟨λ⟨Q,e,x,r,v,C,K⟩=>by rw[u]at r;cases r;rw[w]at v;cases v;rw[ζd z]at C;cases C;exact K,λh=>⟨P,_,a,u,w,ζd z,h⟩⟩
 rw[Y];generalize P.b?.l[a.toNat]=e at *;unfold xL
 by_cases C:e.kind=3
 .rw[J0 C];have⟨q,j,a__,_,_,y,Q,N,_⟩:=zF f g X C;have e__:q<_j c.l:=by have:=(ζe.1 N).1;omega
  rw[a__];simp only[u!];rw[bC e__,ζb,bf];simp only[_e];exact⟨λh _=>⟨_,ζd e__,h⟩,λh=>by have⟨b,B,R⟩:=h C;rw[ζd e__]at B;cases B;exact R⟩
 rw[K' C];have E:0<_j c.l:=c?
 have I:=d.1.pos 0 _ (ζd E);have hi:idx c ((⟨0,0⟩:aZ).proc)=M c.l[0]:=bC (s:=c) (i:=0) E;rw[hi,ζb,bf];exact⟨λ_ h=>_c h C,λ_=>by simpa using I⟩
end
theorem Jp{α:Type}:∀l:aX α,(B! (W l)).filterMap (l[·]?)=l
 |[]=>rfl|x::l=>by rw[Z?,List.range_succ_eq_map,List.filterMap_cons,List.filterMap_map];show x::(B! (W l)).filterMap (λi=>(x::l)[i+1]?)=_;simp only[List.getElem?_cons_succ];rw[Jp l]
theorem Yb{α:Type}{s r:Sl α}{p:α->α->aY X'}(h:Ax s p=M r):r.l.Sublist s.l:=by
 unfold Ax at h;split at h
 .cases h;have key:((kept (λi=>(vX s.l p i).getD U) (W s.l)).filterMap (s.l[·]?)).Sublist s.l:=by
   have e:=Jp s.l
   conv=>rhs;rw[<-e]
   exact List.Sublist.filterMap _ (by unfold kept;exact List.filter_sublist)
  generalize(kept (λi=>(vX s.l p i).getD U) (W s.l)).filterMap (s.l[·]?)=y at *
  cases s<;>first|exact key|(simp[Sl.vN,Sl.l])
 cases h
theorem BG{c:Zg}(D:W c.l<=1073741824)(B:0<W c.l):∃d,H (eC c) Sl.whole=M d/\d.l=c.l:=by
 unfold eC;have key:(H (pT (Sl.row []:Zg) c) λx=>M x).bind Sl.whole=M (.row ([]++c.l)):=by unfold pT;rw[K' (λh=>by rw[h]at B;simp at B),J0 (show(Sl.row ([]:SW)).l.length+W c.l<=2147483648 from show 0+W c.l<=_ by omega)];rfl
 cases c with|nil=>simp[Sl.l]at B|emp=>simp[Sl.l]at B|part l=>exact⟨_,key,rfl⟩|row l=>exact⟨_,key,Y⟩
section
variable{t:Z4}{A:bQ 200 bu}
theorem VR(H:Small t)(i:VT t)(q:eB t (bJ t) A){m:cF}(K:Xj t A (_j t.a?.l) m){k:Nat}{B:Zb}(Y:Cc t A k B)(V:_j B.l<=5000):
 Wp (eV m B) λr=>Cc t A (k+1) r/\(ins r).Nodup/\_j r.l<=40000/\(ins r).Pairwise λx y=>¬gH y x<0:=by
 have ae:=i.few;unfold eV eV.W1;refine eu (_j B.l) (λn s=>s.2.1=len B/\s.2.2=(n:Int)/\s.1.l.length<=8*n/\∀d,d∈ins s.1↔∃c∈(B.l.take n).map Sl.l,Fp t A c d) ⟨_i,_i,V? _,λd=>by simp[ins,Sl.l]⟩ ?_ ?_
 .rintro n ⟨out,_,_⟩ w ⟨e1,e2,g1,g2⟩;simp only at e1 e2 g1 g2;subst e1 e2;have L:=(Y B.l[n].l).1 (oQ.2 ⟨_,t? w,_i⟩);unfold eV.bk;rw[gy w,bq,bC w,ζb];have c__:∀d,d∈(B.l.take (n+1)).map Sl.l↔d∈(B.l.take n).map Sl.l\/d=B.l[n].l:=λd=>B9 w
  generalize B.l[n]=c at *;have af:=L.1.1.1;have ab:=i.ok.one;unfold eV.W2;refine eu (_j c.l) (λj s=>s.2=(j:Int)/\s.1.l.length<=8*n+j/\∀d,d∈ins s.1↔d∈ins out\/∃(p:Nat)(a:Int),p<j/\c.l[p]?=M a/\d=c.l.set p (a+1)/\Cons t A d) ⟨_i,g1,λd=>⟨.inl,λh=>h.elim id λ⟨p,a,h,_⟩=>_c h c?⟩⟩ ?_ ?_
  .rintro j ⟨o2,_⟩ d__ ⟨e,l,Q⟩;simp only at e l Q;subst e;unfold eV.bK;rw[show _p ((j:Int)<len c)=O from gy d__,bq,ey];refine(U6 i q K L.1 (p:=j) c?).mono λb v=>?_
   have u:=ζd d__;have hr:=L.1.1.2 j _ _ u (ζd (show j<_j t.a?.l by omega))
   have ah:=(H.2 _ (t? (show j<_j t.a?.l by omega))).1
   generalize c.l[j]=a at *;have more:∀o3:Zb,(∀d,d∈ins o3↔d∈ins o2\/d=c.l.set j (a+1)/\Cons t A d)->∀d,d∈ins o3↔d∈ins out\/∃(p:Nat)(a:Int),p<j+1/\c.l[p]?=M a/\d=c.l.set p (a+1)/\Cons t A d:=λo3 h d=>by rw[h,Q];constructor;rintro((h|⟨p,b,h,k⟩)|⟨h,k⟩);exact .inl h;exact .inr ⟨p,b,c?,k⟩;exact .inr ⟨j,a,c?,u,h,k⟩;rintro(h|⟨p,b,h,k1,k2,k3⟩);exact .inl (.inl h);by_cases e:p=j;subst e;rw[u]at k1;cases k1;exact .inr ⟨k2,k3⟩;exact .inl (.inr ⟨p,b,c?,k1,k2,k3⟩)
   rw[cn];constructor
   .intro ht;have⟨x,C,X⟩:=v.1 ht;rw[u]at C;cases C;have⟨d,hd,z⟩:=BG (c:=c) c? c?
    have⟨a__,e__,S⟩:=put_eq (s:=d) (p:=j) (x:=a+1) (by rw[z];exact d__)
    have⟨o3,N,D⟩:=jk (s:=o2) (x:=a__) c?
    have P:Sl.get d j=M a:=by unfold Sl.get;rw[z];exact u
    rw[hd,ζb,pE (by rw[z];exact d__),ζb,P,ζb,ζb,fH _ c? c?,e__,ζb,N,ζb,bf]
    refine⟨cD j c?,by rw[D];simp;omega,more o3 λe=>?_⟩
    rw[HN D,S,z];exact⟨λh=>h.elim .inl λh=>.inr ⟨h,by rw[h];exact X⟩,λh=>h.elim .inl λh=>.inr h.1⟩
   intro E;refine(bf _).2 ⟨cD j c?,Nat.le_succ_of_le l,more o2 λd=>⟨.inl,λh=>h.elim id λ⟨o,W⟩=>?_⟩⟩
   rw[v.2 ⟨a,u,by rw[<-o];exact W⟩]at E;cases E
  rintro⟨o2,_⟩ ⟨e,l,Q⟩;simp only at e l Q;subst e;unfold eV.bK;rw[gY,bt,bf];refine(bf _).2 ⟨_i,cD n c?,show _j o2.l<=_ by omega,λd=>?_⟩
  rw[Q];constructor
  .rintro (h|⟨p,a,_,h⟩)
   .have⟨c',g,b__⟩:=(g2 d).1 h;exact⟨c',(c__ c').2 (.inl g),b__⟩
   exact⟨_,(c__ _).2 (.inr _i),p,a,h⟩
  rintro⟨c',g,b__⟩;rcases(c__ c').1 g with h|h
  .exact .inl ((g2 d).2 ⟨c',h,b__⟩)
  subst h;have⟨p,a,h⟩:=b__;exact .inr ⟨p,a,(ζe.1 h.1).1,h⟩
 rintro⟨out,_,_⟩ ⟨e1,e2,g1,g2⟩;simp only at e1 e2 g1 g2;subst e1 e2;unfold eV.bk;rw[gY,bt,bf];simp only;have I:Cc t A (k+1) out:=λd=>by rw[g2,H?,<-Fp.iff i q (k:=k)];exact⟨λ⟨c,g,b__⟩=>⟨c,(Y c).1 g,b__⟩,λ⟨c,g,b__⟩=>⟨c,(Y c).2 g,b__⟩⟩
 have J:∀s:Zb,(∀d,d∈ins s↔d∈ins out)->∀x∈s.l,_j x.l<1073741824:=λs h x C=>by have:=((I x.l).1 ((h x.l).1 (oQ.2 ⟨x,C,_i⟩))).1.1.1;omega
 have⟨r1,o,p1,F⟩:=V0 (s:=out) (p:=lp) (f:=Sl.l) (λx y C _=>PX (J out (λ_=>Iff.rfl) x C)) c?
 have T:∀d,d∈ins r1↔d∈ins out:=λd=>(p1.map Sl.l).mem_iff
 have ad:_j r1.l=_j out.l:=p1.length_eq;have⟨r2,W,nd,R,l2⟩:=Wh (s:=r1) (p:=mZ) (f:=Sl.l) (λx y C _=>by unfold mZ;rw[Lo (J r1 T x C)];rfl) c? F
 rw[o,ζb,W,ζb,bf];exact⟨λd=>(R d).trans ((T d).trans (I d)),nd,c?,by unfold ins;rw[f4];exact F.sublist (Yb W)⟩
end
theorem Jw{c:Zg}(h:JF c.l):iH c=M c.l.sum:=by refine Wp.eq ?_;have u:=h.1;unfold iH iH.W1;refine eu (W c.l) (λi(q:Int×Int)=>q.2=(i:Int)/\q.1=(c.l.take i).sum) ⟨Y,Y⟩ ?_ ?_;rintro i ⟨m,_⟩ hi ⟨e,a⟩;simp only at e a;subst e;subst a;unfold iH.bk;rw[gy hi,bq,bC hi,ζb,bf];have k:=Ve h (i+1);rw[LH hi]at k;grind[LH,fH];simp_all[iH.bk,bt,bf]
theorem Nt{a b:Zg}(B:JF a.l)(D:JF b.l)(J:W a.l=W b.l):iO a b=M (_p (eW a.l b.l)):=by
 have w:=B.1;unfold iO;rw[Jw B,ζb,Jw D,ζb];by_cases e:a.l.sum=b.l.sum;rw[show(a.l.sum==b.l.sum)=O from g?,bq];refine Wp.eq ?_;unfold iO.W1;refine eu (W a.l) (λi(q:Int)=>q=(i:Int)/\gH (a.l.drop i) (b.l.drop i)=gH a.l b.l) ⟨Y,Y⟩ ?_ ?_;rintro i _ hi ⟨rfl,h⟩;have u:i<W b.l:=by omega
 unfold iO.bk;rw[gy hi,bq,bC hi,ζb,bC u,ζb];rw[TB hi u]at h;by_cases e2:a.l[i]=b.l[i];rw[show(a.l[i]==b.l[i])=O from g?,bq,bf];rw[K' c?,K' c?]at h;grind[cD];rw[show(a.l[i]==b.l[i])=U from g?,bt,ζb,ζb,bf];refine(bf _).2 ?_;have hd:_p (eW a.l b.l)=_p (gH a.l b.l<0):=decide_eq_decide.2 (eW.MU e);grind;rintro _ ⟨rfl,h⟩;unfold iO.bk;rw[gY,bt,bf];refine(bf _).2 ?_;have hd:_p (eW a.l b.l)=_p (gH a.l b.l<0):=decide_eq_decide.2 (eW.MU e);rw[hd];rw[K! (z? _),K! c?]at h;rw[<-h];rfl;rw[show(a.l.sum==b.l.sum)=U from g?,bt,ζb,ζb];grind[eW,Ib,gH]
theorem Cm{a b:Zg}(B:W a.l<1073741824):eX a b=M (_p (a.l=b.l)):=by
 refine Wp.eq ?_;unfold eX;rw[cn];refine⟨λh=>?_,λh=>(bf _).2 ?_⟩;have h:(W a.l:Int)=W b.l:=by grind
 have h:W a.l=W b.l:=c?;unfold eX.W1;refine eu (W a.l) (λn s=>s=(n:Int)/\∀i,i<n->a.l[i]?=b.l[i]?) ⟨Y,λi h=>_c h c?⟩ ?_ ?_;rintro n _ u ⟨rfl,w⟩;grind[eX.bk,bC,cn,bf,cD];rintro _ ⟨rfl,w⟩;unfold eX.bk;rw[gY,bt,bf];refine(bf _).2 (_a (Z! λi=>?_)).symm;grind;grind
theorem iT(s:Zb):W (ins s)=W s.l:=by unfold ins;simp
theorem Yy(s:Zb)(i:Nat):(ins s)[i]?=(s.l[i]?).map Sl.l:=by grind[ins]
theorem sj{s:Zb}{i:Nat}(h:i<W s.l):(ins s)[i]?=M s.l[i].l:=by rw[Yy,ζd h];rfl
theorem Nj{l:Zb}{c:Zg}(a__:∀x∈l.l,JF x.l/\_j x.l=_j c.l)(b:JF c.l)(t:_j l.l<1073741824)(f:(ins l).Pairwise eW):
 Wp (iP l c) λr=>_j r.l<=_j l.l+1/\(ins r).Pairwise eW/\∀d,d∈ins r↔d∈ins l\/d=c.l:=by
 have W:=b.1;have a:∀n:Nat,n<=_j l.l->(∀(i:Nat)x,i<n->(ins l)[i]?=M x->eW x c.l)->(∀x,(ins l)[n]?=M x->¬eW x c.l)->
  Wp ((bg (_p ((n:Int)<(len l))) (H (idx l n) λJ=>H (eX J c) λL=>M L) (M U):aY X').bind λP=>
  bg P (M l) (H (iw l G (M (n:Int))) λw=>H (pT (Sl.row []:Zb) w) λz=>H (ec z (c:Zg)) λB=>H (iw l (M (n:Int)) G) λC=>H (pT B C) λD=>M D))
  λr=>_j r.l<=_j l.l+1/\(ins r).Pairwise eW/\∀d,d∈ins r↔d∈ins l\/d=c.l:=by
  intro n N b__ v;have X:(∀x,(ins l)[n]?=M x->x≠c.l)->Wp (H (iw l G (M (n:Int))) λw=>H (pT (Sl.row []:Zb) w) λz=>H (ec z (c:Zg)) λB=>H (iw l (M (n:Int)) G) λC=>H (pT B C) λD=>M D) λr=>_j r.l<=_j l.l+1/\(ins r).Pairwise eW/\∀d,d∈ins r↔d∈ins l\/d=c.l:=by intro y;have⟨I,g,e4⟩:=u_ l n N;have A:_j I.l<=_j l.l:=g?;have⟨x5,j,e5⟩:=DV (s:=(Sl.row []:Zb)) (x:=I) (show 0+_j I.l<=_ by omega);have e5:x5.l=I.l:=e5;have⟨k,m,e6⟩:=jk (s:=x5) (x:=c) g?;have⟨x7,o,e7⟩:=ND l n N;have⟨Y,W,E⟩:=DV (s:=k) (x:=x7) g?;rw[g,ζb,j,ζb,m,ζb,o,ζb,W,ζb,bf];have e:Y.l=l.l.take n++[c]++l.l.drop n:=o?;have F:ins Y=(ins l).take n++[c.l]++(ins l).drop n:=(by simp_all[ins]);grind[PR,eW.tot]
  by_cases h:n<(_j l.l)
  .rw[gy h,bq,bC h,ζb,Cm (by have:=(a__ _ (t? h)).1.1;omega),ζb,ζb]
   by_cases e:l.l[n].l=c.l
   .rw[_a e,bq,bf];refine⟨c?,f,λd=>⟨.inl,λQ=>Q.elim id λQ=>?_⟩⟩
    rw[Q,<-e];exact oQ.2 ⟨_,t? h,_i⟩
   grind[bt,sj]
  rw[show(n:Int)=(_j l.l:Nat)from c?,gY,bt,ζb,bt,<-show(n:Int)=(_j l.l:Nat)from c?]
  grind[iT]
 unfold iP iP.W1;refine eu (_j l.l) (λn s=>s=(n:Int)/\∀(i:Nat)x,i<n->(ins l)[i]?=M x->eW x c.l) ⟨_i,λi x h=>_c h c?⟩ ?_ ?_
 .rintro n _ u ⟨rfl,S⟩;have⟨p,q⟩:=a__ _ (t? u);unfold iP.bk;rw[gy u,bq,bC u,ζb,Nt p b q,ζb,ζb]
  by_cases e:eW l.l[n].l c.l
  .rw[_a e,bq,bf]
   grind[cD,sj]
  rw[N' e,bt,bf];exact a n c? S λx T=>by rw[sj u]at T;grind
 rintro _ ⟨rfl,S⟩;unfold iP.bk;rw[gY,bt,ζb,bt,bf];exact a _ (z? _) S λx T=>by have:=(ζe.1 T).1;rw[iT]at this;omega
section
variable{t:Z4}{A:bQ 200 bu}
structure dh(t:Trace)(A:bQ 200 bu)(L:List (List Int)):Prop where
 srt:L.Pairwise eW
 mem:∀d,d∈L↔Cons t A d
def DE(t:Z4)(A:bQ 200 bu):Prop:=∃L:aX SW,L.Nodup/\(∀d∈L,Cons t A d)/\5000<W L
theorem dh.one{L R:aX SW}(h:dh t A L)(k:dh t A R):L=R:=FH h.srt k.srt λx=>(h.mem x).trans (k.mem x).symm
theorem dh.not{L:aX SW}(h:dh t A L)(B:W L<=5000)(k:DE t A):False:=by have⟨R,nd,w,u⟩:=k;have:=By nd λx z=>(h.mem x).2 (w x z);omega
theorem IK{k:Nat}{o l:aX SW}(a:∀d,d∈l↔Cons t A d/\d.sum=(k:Int))(B:l.Pairwise eW)(D:o.Pairwise eW)(J:∀d,d∈o↔Cons t A d/\d.sum<(k:Int)):
 (o++l).Pairwise eW/\∀d,d∈o++l↔Cons t A d/\d.sum<((k+1:Nat):Int):=by
 grind[eW.sum]
theorem TA(v:Small t)(f:VT t)(j:eB t (bJ t) A):Wp (fm t) λr=>(r.2=O/\dh t A (ins r.1)/\r.1.l.length<=5000)\/(r.2=U/\r.1=.nil/\DE t A):=by
 have e__:=f.few;unfold fm nC;rw[J0 ⟨o?,g?⟩,ζb];unfold fm.W1;have fin:∀(k:Nat)(u out:Zb),Cc t A k u->_j u.l=0->(ins out).Pairwise eW->(∀d,d∈ins out↔Cons t A d/\d.sum<(k:Int))->dh t A (ins out):=λk u out b S b__ J=>⟨b__,λd=>(J d).trans ⟨λh=>h.1,λh=>⟨h,b.none f j S h⟩⟩⟩
 refine eu (uJ t+1) (λk s=>Cc t A k s.1/\(ins s.1).Pairwise eW/\(ins s.2).Pairwise eW/\(∀d,d∈ins s.2↔Cons t A d/\d.sum<(k:Int))/\s.1.l.length<=40000/\s.2.l.length<=5000)
  ⟨MV (by simp[Sl.l,len]),by simp[ins,Sl.l],by simp[ins,Sl.l],λd=>⟨λh=>by grind[ins,Sl.l],λh=>_c (sR h.1.1.pos) g?⟩,by simp[Sl.l],by simp[Sl.l]⟩ ?_ ?_
 rintro k ⟨u,out⟩ N ⟨b,C,w,b__,J,L⟩;simp only at b C w b__ J L;unfold fm.bk;rw[Gp];by_cases S:_j u.l=0;rw[show(!_p (_j u.l=0))=U from o?,bt,bf];exact(bf _).2 (.inl ⟨_i,fin k u out b S w b__,L⟩);rw[show(!_p (_j u.l=0))=O from o?,bq];have⟨x,E,P⟩:=DV (s:=out) (x:=u) c?;have T:ins x=ins out++ins u:=by grind[ins]
 have⟨o1,o2⟩:=IK b C w b__;rw[<-T]at o1 o2;rw[E,ζb,cn];refine⟨λd__=>(bf _).2 ((bf _).2 (.inr ⟨_i,_i,ins x,eW.nodup o1,λd hd=>((o2 d).1 hd).1,?_⟩)),λd__=>?_⟩;rw[iT];grind;have d__:_j x.l<=5000:=g?;have R:_j u.l<=5000:=g?;have F:∀d,Cons t A d->JF d/\_j d=_j t.a?.l:=λd h=>⟨DO v f h,h.1.1⟩;unfold fm.W2;refine eu (_j u.l) (λn s=>s.2=(n:Int)/\s.1.l.length<=8*n/\(ins s.1).Pairwise eW/\∀d,d∈ins s.1↔∃c∈(u.l.take n).map Sl.l,Fp t A c d) ⟨_i,V? _,by simp[ins,Sl.l],λd=>by simp[ins,Sl.l]⟩ ?_ ?_;rintro n ⟨more,_⟩ B ⟨e,g1,g,g2⟩;simp only at e g1 g g2;subst e;unfold fm.bK;have W:=(b u.l[n].l).1 (oQ.2 ⟨_,t? B,_i⟩);rw[gy B,bq,bC B,ζb,ey];refine(Zs v f j W.1).mono λnx Q=>?_;unfold fm.W3;refine eu (_j nx.l) (λm s=>s.2=(m:Int)/\s.1.l.length<=8*n+m/\(ins s.1).Pairwise eW/\∀d,d∈ins s.1↔d∈ins more\/d∈(nx.l.take m).map Sl.l) ⟨_i,g1,g,λd=>f?⟩ ?_ ?_;rintro m ⟨X,_⟩ D ⟨e,o,fs,I⟩;simp only at e o fs I;subst e;unfold fm.dG;rw[gy D,bq,bC D,ζb,ey];have H:=(Q.2 nx.l[m].l).1 (oQ.2 ⟨_,t? D,_i⟩);have⟨_,_,_,_,Y⟩:=H;refine(Nj (l:=X) (c:=nx.l[m]) (λy K=>?_) (F _ Y).1 c? fs).mono λr q=>?_;have V:Cons t A y.l:=by rcases(I y.l).1 (oQ.2 ⟨_,K,rfl⟩)with h|h;have⟨_,_,p,a,_,_,k⟩:=(g2 y.l).1 h;omega;have⟨z,a__,e⟩:=mem_map.1 h;have⟨p,a,_,_,k⟩:=(Q.2 z.l).1 (oQ.2 ⟨_,K? a__,_i⟩);rw[<-e];exact k
 grind;refine(bf _).2 ⟨cD m c?,Nat.le_trans q.1 c?,q.2.1,λd=>?_⟩;rw[q.2.2,I,B9 D,or_assoc];rintro⟨X,_⟩ ⟨e,o,fs,I⟩;simp only at e o fs I;subst e;unfold fm.dG;rw[gY,bt,bf];refine(bf _).2 ⟨cD n c?,show _j X.l<=_ by omega,fs,λd=>?_⟩;rw[I,H?];constructor;rintro(h|h);grind;exact⟨_,(B9 B).2 (.inr _i),(Q.2 d).1 h⟩;rintro⟨c,i,c__⟩;rcases(B9 B).1 i with h|h;grind;subst h;exact .inr ((Q.2 d).2 c__);rintro⟨more,_⟩ ⟨e,g1,g,g2⟩;simp only at e g1 g g2;subst e;unfold fm.bK;rw[gY,bt,bf];refine(bf _).2 ⟨λd=>?_,g,o1,o2,show _j more.l<=_ by omega,d__⟩;rw[g2,H?,<-Fp.iff f j (k:=k)];exact⟨λ⟨c,i,c__⟩=>⟨c,(b c).1 i,c__⟩,λ⟨c,i,c__⟩=>⟨c,(b c).2 i,c__⟩⟩;rintro⟨u,out⟩ ⟨b,C,w,b__,J,L⟩;simp only at b C w b__ J L;unfold fm.bk;rw[Gp,show(!_p (_j u.l=0))=U from by simp[b.last],bt,bf];exact(bf _).2 (.inl ⟨_i,fin _ u out b b.last w b__,L⟩)
theorem Ux(a:VT t)(b:Small t):uJ t<8589934600:=by
 have key:∀(l:aX bU),(∀p∈l,W p.b?.l<1073741824)->(l.map λP=>W P.b?.l).sum<=1073741824*W l:=by intro l;induction l with|nil=>grind|cons x l w=>grind
 have c:=key t.a?.l λp u=>(b.2 p u).1;have z:=a.few;grind[uJ]
theorem XR{k:Int}{L:aX SW}(nd:L.Nodup)(B:L.Pairwise λx y=>¬gH y x<0)(a:∀d∈L,d.sum=k):L.Pairwise eW:=by refine(B.and nd).imp_of_mem λ{x y}u w h=>?_;grind[eW.MU,AN]
theorem IQ(c:Small t)(g:cm t=M O)(b:VT t)(f:eB t (bJ t) A):
 Wp (mo t) λr=>(r.2=0/\dh t A (ins r.1)/\r.1.l.length<=5000)\/(r.2=16/\r.1=.nil/\DE t A):=by
 have S:=b.few;have X:=Ux b c;unfold mo lE;rw[g,ζb,bq,ey,ey];refine(of_wp c g b f).mono λm T=>?_
 unfold nC;rw[J0 ⟨o?,g?⟩,ζb]
 have fin:∀(k:Nat)(u:Zb)(out:Sl Zb),Cc t A k u->W u.l=0->(out.l.flatMap ins).Pairwise eW->(∀d,d∈out.l.flatMap ins↔Cons t A d/\d.sum<(k:Int))->W out.l<=5000->W (out.l.flatMap ins)<=5000->
  Wp (H (gM out) λC=>M (C,(0:Int))) λr=>(r.2=0/\dh t A (ins r.1)/\r.1.l.length<=5000)\/(r.2=16/\r.1=.nil/\DE t A):=λk u out a Q D q N y=>by
  have z:(out.l.flatMap Sl.l).map Sl.l=out.l.flatMap ins:=by rw[List.map_flatMap];rfl
  have i:(E_ out).l=out.l.flatMap Sl.l:=by unfold E_;split;(next h=>exact(List.length_eq_zero_iff.1 h).symm);rfl
  unfold gM;rw[J0 ⟨c?,g?⟩,ζb,bf]
  have e:ins (E_ out)=out.l.flatMap ins:=by grind[ins]
  refine .inl ⟨Y,⟨g?,λd=>by rw[e];exact(q d).trans ⟨λh=>h.1,λh=>⟨h,a.none b f Q h⟩⟩⟩,?_⟩
  grind
 unfold lE.W1;refine eu (uJ t+1) (λk s=>Cc t A k s.1/\(ins s.1).Pairwise eW/\(s.2.1.l.flatMap ins).Pairwise eW/\(∀d,d∈s.2.1.l.flatMap ins↔Cons t A d/\d.sum<(k:Int))/\s.2.2=(W (s.2.1.l.flatMap ins):Int)/\s.2.1.l.length<=W (s.2.1.l.flatMap ins)/\W (s.2.1.l.flatMap ins)<=5000/\s.1.l.length<=40000)
  ⟨MV (by simp[Sl.l,len]),by simp[ins,Sl.l],by simp[Sl.l],λd=>⟨λh=>by grind[Sl.l],λh=>_c (sR h.1.1.pos) g?⟩,by simp[Sl.l],by simp[Sl.l],by simp[Sl.l],by simp[Sl.l]⟩ ?_ ?_
 .rintro k ⟨u,out,tot⟩ hk ⟨a,B,w,D,I,L,J,o⟩;simp only at a B w D I L J o;have⟨o1,o2⟩:=IK a B w D;unfold lE.bk;rw[Gp]
  by_cases Q:W u.l=0
  .rw[show(!_p (W u.l=0))=U from o?,bt,bf]
   grind[bf]
  rw[show(!_p (W u.l=0))=O from o?,bq,I]
  have F:y? Z ((W (out.l.flatMap ins):Int)+len u)=((W (out.l.flatMap ins)+W u.l:Nat):Int):=by have e:len u=(W u.l:Int):=rfl;rw[e,fH _ c? c?];omega
  rw[F,cn];refine⟨λj=>(bf _).2 ((bf _).2 ?_),λj=>?_⟩
  .show Wp ((H (gM (Sl.nil:Sl Zb)) λC=>M (C,(16:Int)))) _
   have e0:gM (Sl.nil:Sl Zb)=M .nil:=by unfold gM;rfl
   rw[e0,ζb,bf];refine .inr ⟨Y,Y,out.l.flatMap ins++ins u,eW.nodup o1,λd hd=>((o2 d).1 hd).1,?_⟩
   have j:=_b j;rw[ζi,iT];omega
  have j:=of_decide_eq_false j;have⟨o3,g1,g2⟩:=jk (s:=out) (x:=u) c?
  rw[g1,ζb,ey];refine(VR c b f T a c?).mono λr⟨r1,r2,r3,r4⟩=>?_
  have z:o3.l.flatMap ins=out.l.flatMap ins++ins u:=by rw[g2];simp
  refine(bf _).2 ⟨r1,XR r2 r4 λd hd=>((r1 d).1 hd).2,by rw[z];exact o1,λd=>by rw[z];exact o2 d,by rw[z,ζi,iT],?_,?_,r3⟩
  all_goals grind[iT]
 rintro⟨u,out,tot⟩ ⟨a,B,w,D,I,L,J,o⟩;simp only at a B w D I L J o;unfold lE.bk;rw[Gp,show(!_p (W u.l=0))=U from by simp[a.last],bt,bf]
 exact(bf _).2 (fin _ u out a a.last w D c? J)
theorem Px(a:Small t)(f:cm t=M O)(c:VT t)(d:eB t (bJ t) A):
 (∃L r s,dh t A L/\W L<=5000/\mo t=M (r,0)/\fm t=M (s,O)/\ins r=L/\ins s=L)\/
 (mo t=M (.nil,16)/\fm t=M (.nil,U)):=by
 have⟨⟨r,e⟩,g,h⟩:=IQ a f c d;have⟨⟨s,b⟩,z,w⟩:=TA a c d;rcases h with⟨rfl,k1,k2⟩|⟨rfl,rfl,k1⟩
 .rcases w with⟨rfl,u,B⟩|⟨rfl,rfl,u⟩
  .exact .inl ⟨ins r,r,s,k1,by rw[iT];omega,g,z,Y,u.one k1⟩
  exact(k1.not (by rw[iT];omega) u).elim
 rcases w with⟨rfl,u,B⟩|⟨rfl,rfl,u⟩
 .exact(u.not (by rw[iT];omega) k1).elim
 grind
end
theorem M9{t:Z4}(d:Small t)(e:cm t=M O)(b:VT t){A:bQ 200 bu}(f:eB t (bJ t) A)(c:Zg):Wp (kz t c) λr=>Code t A c.l r.2:=by
 have j:=b.few;unfold kz;rw[ey];refine(Sh d e b f c).mono λr a=>?_;rw[cn];constructor;intro u;have u:r=0:=by simpa using u
 have g:=a.zero.1 u;have C:=g.1.1;unfold kz.W1;refine fI (λs:Sl aZ×Int=>∃n:Nat,s.2=n/\n<=W c.l/\s.1.l.length<=n) (λs=>W c.l-s.2.toNat) ⟨0,Y,V? _,z? _⟩ ?_;rintro⟨o,i⟩ ⟨n,hi,I,D⟩;simp only at hi D;subst hi;unfold kz.bk;rw[cn];constructor;intro h;have z:n<W c.l:=by simpa[len]using h
 have B:=cD n c?;have w:W c.l-(y? Z ((n:Int)+1)).toNat<W c.l-((n:Int)).toNat:=by rw[B];simp;omega
 rw[bC z,ζb,cn];constructor;intro _;unfold ec;rw[J0 (show W o.l+1<=2147483648 from c?),ζb,bf];exact⟨⟨n+1,B,c?,by show(o.l++[_]).length<=n+1;rw[ζi,X?];omega⟩,w⟩;intro _;exact(bf _).2 ⟨⟨n+1,B,c?,show W o.l<=n+1 from c?⟩,w⟩;intro _;exact(bf _).2 ((bf _).2 (u▸a));intro u;exact(bf _).2 a
end Go.VE
namespace Go.VE
theorem Code.one{t:Z4}{A:bQ 200 bu}{c:SW}{r s:Int}(h:Code t A c r)(g:Code t A c s):r=s:=by rcases h with⟨h,rfl⟩|⟨a,u,rfl⟩|⟨a,u,rfl⟩|⟨a,u,rfl⟩<;>rcases g with⟨g,rfl⟩|⟨g1,g2,rfl⟩|⟨g1,g2,rfl⟩|⟨g1,g2,rfl⟩<;>first|rfl|contradiction|exact _c ‹rP t c›.1 ‹_›
section
variable{t:Z4}{A:bQ 200 bu}
theorem L7(g:Small t)(h:cm t=M O)(i:VT t)(j:eB t (bJ t) A){c:Zg}(d:Cons t A c.l){ps:ST}(D:∀r∈ps,r<W t.a?.l)(J:W ps<1073741824):
 di t (Sl.row [c]:Zb) (Sl.row (ps.map λn:Nat=>(n:Int)):Zg)=M 0:=by
 refine Wp.eq ?_;have u:=d.1.1;unfold di zN;rw[h,ζb,bq,zi (f:=λz=>(lJ z t).getD U) (λz _=>G_.ok ((bf _).2 trivial)) (by simp[Sl.l]),ζb,ζb,ζb]
 have w:(!((Sl.row [c]:Zb).l.any λz=>(lJ z t).getD U))=O:=by simp[Sl.l,lJ,len,u]<;>exact _d ofNat u
 rw[w,bq];unfold di.W1;refine eu 1 (λn s=>s=(n:Int)) Y ?_ ?_
 .rintro n _ B rfl;obtain rfl:n=0:=by omega
  unfold di.bk;rw[show _p (((0:Nat):Int)<len (Sl.row [c]:Zb))=O from Y,bq,show idx (Sl.row [c]:Zb) ((0:Nat):Int)=M c from Y,ζb,ey];refine(Gc g u).mono λb C=>?_
  rw[C.2 d.1,bq];exact(bf _).2 rfl
 rintro _ rfl;unfold di.bk;rw[show _p (((1:Nat):Int)<len (Sl.row [c]:Zb))=U from Y,bt,bf];have a:∀r:Nat,r<W t.a?.l->xw t r=M O:=λr e=>by unfold xw;rw[show _p ((r:Int)>=0)=O from f?,bq,gy e];rfl
 show Wp (di.W2 (Sl.row [c]) (Sl.row (ps.map λn:Nat=>(n:Int))) (len (Sl.row (ps.map λn:Nat=>(n:Int)))) 0 t) _
 unfold di.W2;refine eu (W ps) (λn s=>s=(n:Int)) Y ?_ ?_
 .rintro n _ B rfl;unfold di.bK;have m:idx (Sl.row (ps.map λn:Nat=>(n:Int))) (n:Int)=M ((ps[n]:Nat):Int):=by
   rw[bC (show n<W (Sl.row (ps.map λn:Nat=>(n:Int))).l by simpa[Sl.l]using B)]
   simp[Sl.l]
  rw[show _p ((n:Int)<len (Sl.row (ps.map λn:Nat=>(n:Int))))=O from by simp[len,Sl.l];omega,bq,m,ζb,a _ (D _ (t? B)),ζb,bq]
  exact(bf _).2 (cD n c?)
 rintro _ rfl;unfold di.bK;rw[show _p (((W ps:Nat):Int)<len (Sl.row (ps.map λn:Nat=>(n:Int))))=U from by simp[len,Sl.l],bt,bf]
 show Wp (di.W3 (Sl.row [c]) 1 0 t) _;unfold di.W3;refine eu 1 (λn s=>s=(n:Int)) Y ?_ ?_
 .rintro n _ B rfl;obtain rfl:n=0:=by omega
  unfold di.dG;rw[show _p (((0:Nat):Int)<1)=O from Y,bq,show idx (Sl.row [c]:Zb) ((0:Nat):Int)=M c from Y,ζb];unfold yL;rw[ey,ey];refine(Gm g h i j d.1).mono λr e=>?_
  rw[bf,e.2 d.2];exact(bf _).2 rfl
 rintro _ rfl;unfold di.dG;rw[show _p (((1:Nat):Int)<1)=U from Y,bt,bf];exact(bf _).2 rfl
theorem Rm(a:Small t)(b:cm t=M O)(d:VT t)(e:eB t (bJ t) A){c:Zg}(f:Cons t A c.l){p q:Nat}(hp:p<W t.a?.l)(B:q<W t.a?.l):
 di t (Sl.row [c]:Zb) (Sl.row [(p:Int),(q:Int)]:Zg)=M 0:=L7 a b d e f (ps:=[p,q]) (by simp[hp,B]) f?
theorem Wl(b:Small t)(c:cm t=M O)(kind m:Int):je t kind m=M (match(bJ t).find? (mT kind m)with|some x=>(x.1,O)|none=>(⟨0,0⟩,U)):=by
 refine Wp.eq ?_;unfold je;rw[c,ζb,bq];unfold ko;rw[ζb];unfold je.E1;rw[vv b,ζb];refine A0 (λk _=>((bJ t).take k).find? (mT kind m)=G) f? ?_ ?_;intro k y _ z u;have w:(bJ t).take (k+1)=(bJ t).take k++[y]:=by rw[a!,z];rfl
 have B:(y.2.kind==kind&&y.2.d?==m)=mT kind m y:=rfl;unfold je.k_;rw[nu,ζb,B,cn];constructor;intro a;refine(bf _).2 ((bf _).2 ?_);have:(bJ t).find? (mT kind m)=M y:=by rw[<-i! (k+1) (bJ t),w,e8,e8,u];simp[a]
 rw[this];intro a;rw[bf,w,e8,u];simp[a];intro _ u;rw[H?]at u;exact(bf _).2 (by rw[u])
theorem E8(f:Small t)(g:cm t=M O)(h:VT t)(i:eB t (bJ t) A){c:Zg}(d:Cons t A c.l){p q:Nat}(hp:p<_j t.a?.l)(J:q<_j t.a?.l):
 Wp (jr t c p q) λr=>r.2=0/\(r.1.l.length:Int)=under t c.l p q:=by
 have I:=ζd hp;have⟨a,L⟩:=d.1.at_ hp;have⟨b,C⟩:=d.1.at_ J;rw[JC h i d I (ζd J) L C];have Y:=(f.2 _ (t? hp)).1;have⟨a0,a1⟩:=d.1.2 p a _ L I;generalize c__:t.a?.l[p]=P at *;unfold jr;rw[Rm f g h i d hp J,ζb,show((0:Int)==0)=O from _i,bq,iJ,I,ζb,show idx c (p:Int)=M a from by rw[iJ];exact L,ζb]
 have⟨y,X,D⟩:=u_ P.b? a.toNat c?
 rw[show((a.toNat:Nat):Int)=a from c?]at X
 rw[X,ζb,<-D];have H:_j y.l<=_j P.b?.l:=by rw[D,C!];omega
 unfold jr.W1;refine eu (_j y.l) (λn s=>s.2.1=len y/\s.2.2=(n:Int)/\s.1.l.length=(y.l.take n).countP λe=>gX q e&&tv t c.l e) ⟨_i,_i,_i⟩ ?_ ?_
 .rintro n ⟨o,_,_⟩ w ⟨e1,e2,z⟩;simp only at e1 e2 z;subst e1 e2;have a__:=List.countP_le_length (p:=λe=>gX q e&&tv t c.l e) (l:=y.l.take n)
  rw[C!]at a__;have u:(y.l.take (n+1)).countP (λe=>gX q e&&tv t c.l e)=_j o.l+if gX q y.l[n]&&tv t c.l y.l[n]then 1 else 0:=by rw[a!,ζd w,List.countP_append,z];show _+List.countP _ [y.l[n]]=_;rw[c5,List.countP_nil];simp
  have Q:=cD n c?
  unfold jr.bk;rw[gy w,bq,bC w,ζb];generalize y.l[n]=e at u;have S:(bg (e.kind==2) (M (!(e.k?==(q:Int)))) (M O):aY X')=M (!gX q e):=by unfold gX;cases e.kind==2<;>cases e.k?==(q:Int)<;>rfl
  rw[S,ζb,cn];refine⟨λB=>(bf _).2 ⟨_i,Q,by rw[u,show gX q e=U from by simpa using B];rfl⟩,λB=>?_⟩
  have B:gX q e=O:=by simpa using B
  unfold wL;rw[Wl f g,ζb,ζb];have k:(bg (match(bJ t).find? (mT 3 e.d?)with|some x=>(x.1,O)|none=>((⟨0,0⟩:aZ),U)).2 (_l (idx c (match(bJ t).find? (mT 3 e.d?)with|some x=>(x.1,O)|none=>((⟨0,0⟩:aZ),U)).1.proc) λT=>M (_p ((match(bJ t).find? (mT 3 e.d?)with|some x=>(x.1,O)|none=>((⟨0,0⟩:aZ),U)).1.index>T))) (M O):aY X')=M (tv t c.l e):=by unfold tv iL;cases m:(bJ t).find? (mT 3 e.d?)with|none=>rfl|some x=>have⟨b__,j,⟨K,W,_⟩,v⟩:=dV.1 (yR m).1;have N:b__<_j c.l:=(by rw[d.1.1];exact(ζe.1 W).1);simp only[v,bq];rw[bC N,ζb,show((b__:Nat):Int).toNat=b__ from _i,ζd N,show(((j:Int)+1)==0)=U from by simp;omega,Bool.false_or];rfl
  rw[k,ζb,cn];refine⟨λC=>?_,λC=>(bf _).2 ⟨_i,Q,by rw[u,B,C];rfl⟩⟩
  have⟨r,E,F⟩:=jk (s:=o) (x:=e.d?) c?
  rw[E,ζb,bf];exact⟨_i,Q,by rw[F,u,B,C,ζi];rfl⟩
 rintro⟨o,_,_⟩ ⟨e1,e2,z⟩;simp only at e1 e2 z;subst e1 e2;unfold jr.bk;rw[gY,bt,bf];refine(bf _).2 ⟨_i,?_⟩;rw[H?]at z;simp only[z]
theorem Tu(a:VT t){p:Nat}{P:bU}(B:t.a?.l[p]?=M P):W P.b?.l<=64:=by have h:=a.ok.heads p (ζe.1 B).1;unfold sP at h;rw[B]at h;simp only at h;split at h;split at h;cases h;split at h;split at h;cases h;omega;rename_i u;exact _c h u;cases h
end
abbrev oH(m:aY Bool)(P:Prop):Prop:=Wp m λb=>(b=O↔P)
theorem oH.eq{m:aY X'}{P:Prop}(h:oH m P):∃b,m=M b/\(b=O↔P):=h
theorem oH.iff{m:aY X'}{P Q:Prop}(h:oH m P)(e:P↔Q):oH m Q:=h.mono λb u=>u.trans e
theorem Pk{b:X'}{P:Prop}(h:b=O↔P):oH (M b) P:=(bf _).2 h
theorem oH.some{m:aY X'}{P:Prop}(h:oH m P):oH (m.bind λx=>Option.some x) P:=by have⟨b,u,h⟩:=h;rw[u];exact Pk h
theorem oH.same{m n:aY X'}{P:Prop}(h:oH m P)(k:oH n P):∃b,m=Option.some b/\n=Option.some b/\(b=O↔P):=by
 obtain⟨b,u,h⟩:=h;obtain⟨d,hd,k⟩:=k;have:b=d:=by rw[Bool.eq_iff_iff,h,k]
 subst this;exact⟨b,u,hd,h⟩
theorem oH.and{m n:aY X'}{P Q:Prop}(h:oH m P)(k:P->oH n Q){f:X'->aY X'}(B:∀b,f b=bg b (n.bind λx=>Option.some x) (Option.some U)):oH (m.bind f) (P/\Q):=by have⟨b,u,h⟩:=h;rw[u,ζb,B];cases b with|true=>exact((k (h.1 rfl)).some).iff ⟨λq=>⟨h.1 rfl,q⟩,λq=>q.2⟩|false=>exact Pk ⟨λe=>(nomatch e),λq=>(h.2 q.1).symm▸rfl⟩
def nZ(a b:SW):Prop:=W a=W b/\∀(p:Nat)(x y:Int),a[p]?=M x->b[p]?=M y->x<=y
section
variable{t:Z4}{A:bQ 200 bu}
theorem ace(a:Small t)(b:cm t=M O)(d:VT t)(e:eB t (bJ t) A)(c:Zg):oH (tn t c) (Cons t A c.l):=by obtain⟨r,f,h⟩:=Wr a b d e c;unfold tn;rw[f,ζb];exact Pk (by rw[_g,h];exact Iff.rfl)
def uI(g:Int->Int->Int)(a b c:SW):Prop:=W c=W a/\∀(p:Nat)(x y:Int),a[p]?=M x->b[p]?=M y->c[p]?=M (g x y)
def Ao(x y:Int):Int:=if y>x then y else x
def H8(x y:Int):Int:=if y<x then y else x
theorem uI.of(g:Int->Int->Int){a b:SW}(h:W a=W b):uI g a b (H5 g a b):=⟨by simp[h],λp x y u w=>by rw[List.getElem?_zipWith,u,w]⟩
theorem uI.at_{g:Int->Int->Int}{a b c:SW}(h:uI g a b c)(D:W a=W b){p:Nat}{z:Int}(B:c[p]?=M z):∃x y,a[p]?=M x/\b[p]?=M y/\z=g x y:=by
 have u:p<W a:=by rw[<-h.1];exact(ζe.1 B).1
 refine⟨a[p],b[p]' c?,ζd u,ζd c?,?_⟩;have:=h.2 p _ _ (ζd u) (ζd (show p<W b by omega));rw[B]at this;cases this;rfl
theorem wm(x y:Int):(Ao x y=x/\y<=x)\/(Ao x y=y/\x<=y):=by unfold Ao;split<;>omega
theorem wB(x y:Int):(H8 x y=x/\x<=y)\/(H8 x y=y/\y<=x):=by unfold H8;split<;>omega
theorem join_cons{a b c:SW}(B:Cons t A a)(D:Cons t A b)(h:uI Ao a b c):Cons t A c:=by have L:W a=W b:=B.1.1.trans D.1.1.symm;refine⟨⟨h.1.trans B.1.1,λp z P C m=>?_⟩,λp k e z Q C f w=>?_⟩;obtain⟨x,y,j,I,rfl⟩:=h.at_ L C;have i:=B.1.2 p x P j m;have o:=D.1.2 p y P I m;rcases wm x y with⟨e,_⟩|⟨e,_⟩<;>rw[e]<;>assumption;obtain⟨x,y,j,I,rfl⟩:=h.at_ L C;rcases wm x y with⟨S,_⟩|⟨S,_⟩<;>rw[S]at f;have⟨u,d,J⟩:=B.2 p k e x Q j f w;have T:=(ζe.1 d).1;have g:=ζd (show(ag A e.d?).from_.proc.toNat<W b by omega);exact⟨_,h.2 _ _ _ d g,by rcases wm u b[(ag A e.d?).from_.proc.toNat]with⟨e2,_⟩|⟨e2,_⟩<;>rw[e2]<;>omega⟩;have⟨u,d,J⟩:=D.2 p k e y Q I f w;have T:=(ζe.1 d).1;have g:=ζd (show(ag A e.d?).from_.proc.toNat<W a by omega);exact⟨_,h.2 _ _ _ g d,by rcases wm a[(ag A e.d?).from_.proc.toNat] u with⟨e2,_⟩|⟨e2,_⟩<;>rw[e2]<;>omega⟩
theorem adr{a b c:SW}(B:Cons t A a)(D:Cons t A b)(h:uI H8 a b c):Cons t A c:=by
 have Q:W a=W b:=B.1.1.trans D.1.1.symm;refine⟨⟨h.1.trans B.1.1,λp z P C S=>?_⟩,λp k e z T C g w=>?_⟩;obtain⟨x,y,j,I,rfl⟩:=h.at_ Q C;have i:=B.1.2 p x P j S;have X:=D.1.2 p y P I S;rcases wB x y with⟨e,_⟩|⟨e,_⟩<;>rw[e]<;>assumption;obtain⟨x,y,j,I,rfl⟩:=h.at_ Q C;have J:(k:Int)<x:=by rcases wB x y with⟨L,_⟩|⟨L,_⟩<;>omega
 have m:(k:Int)<y:=by rcases wB x y with⟨L,_⟩|⟨L,_⟩<;>omega
 have⟨u,d,q⟩:=B.2 p k e x T j J w;have⟨v,f,o⟩:=D.2 p k e y T I m w;exact⟨_,h.2 _ _ _ d f,by rcases wB u v with⟨e2,_⟩|⟨e2,_⟩<;>rw[e2]<;>omega⟩
theorem nZ.trans{a b c:SW}(h:nZ a b)(k:nZ b c):nZ a c:=by
 refine⟨h.1.trans k.1,λp x z u w=>?_⟩;have B:p<W b:=by rw[<-h.1];exact(ζe.1 u).1
 have e:=ζd B;exact Int.le_trans (h.2 p x _ u e) (k.2 p _ z e w)
theorem nZ.refl(a:SW):nZ a a:=⟨Y,λp x y w u=>by rw[w]at u;cases u;exact Int.le_refl _⟩
theorem uI.le_max{a b c:SW}(h:uI Ao a b c)(D:W a=W b):nZ a c/\nZ b c/\∀d,nZ a d->nZ b d->nZ c d:=by refine⟨⟨h.1.symm,λp x z g u=>?_⟩,⟨D.symm.trans h.1.symm,λp y z I u=>?_⟩,λd J i=>⟨h.1.trans J.1,λp z w u L=>?_⟩⟩;obtain⟨Q,y,B,I,rfl⟩:=h.at_ D u;rw[g]at B;cases B;rcases wm x y with⟨e2,_⟩|⟨e2,_⟩<;>rw[e2]<;>omega;obtain⟨x,S,g,C,rfl⟩:=h.at_ D u;rw[I]at C;cases C;rcases wm x y with⟨e2,_⟩|⟨e2,_⟩<;>rw[e2]<;>omega;obtain⟨x,y,g,I,rfl⟩:=h.at_ D u;have e:=J.2 p x w g L;have T:=i.2 p y w I L;rcases wm x y with⟨e2,_⟩|⟨e2,_⟩<;>rw[e2]<;>assumption
theorem uI.le_min{a b c:SW}(h:uI H8 a b c)(D:W a=W b):nZ c a/\nZ c b/\∀d,nZ d a->nZ d b->nZ d c:=by refine⟨⟨h.1,λp z x u g=>?_⟩,⟨h.1.trans D,λp z y u I=>?_⟩,λd J i=>⟨J.1.trans h.1.symm,λp w z L u=>?_⟩⟩;obtain⟨Q,y,B,I,rfl⟩:=h.at_ D u;rw[g]at B;cases B;rcases wB x y with⟨e2,_⟩|⟨e2,_⟩<;>rw[e2]<;>omega;obtain⟨x,S,g,C,rfl⟩:=h.at_ D u;rw[I]at C;cases C;rcases wB x y with⟨e2,_⟩|⟨e2,_⟩<;>rw[e2]<;>omega;obtain⟨x,y,g,I,rfl⟩:=h.at_ D u;have e:=J.2 p w x L g;have T:=i.2 p w y L I;rcases wB x y with⟨e2,_⟩|⟨e2,_⟩<;>rw[e2]<;>assumption
theorem uI.one{g:Int->Int->Int}{a b c d:SW}(h:uI g a b c)(k:uI g a b d)(B:W a=W b):c=d:=by refine Z! λp=>?_;by_cases u:p<W a;rw[h.2 p _ _ (ζd u) (ζd c?),k.2 p _ _ (ζd u) (ζd c?)];rw[j! (by rw[h.1];omega),j! (by rw[k.1];omega)]
def b9(l:Sl X')(i:Nat):X':=(l.l[i]?).getD U
def trc(L:aX SW)(l:Sl X')(c:SW):X':=b9 l (L.idxOf c)
theorem sY{l:Sl X'}{i:Nat}(h:i<W l.l):idx l (i:Int)=M (b9 l i):=by rw[iJ,ζd h];unfold b9;rw[ζd h];rfl
def Sx(L:aX SW)(l:Sl X')(F:SW->SW->X')(i k:Nat):Prop:=∀a b,L[i]?=M a->L[k]?=M b->b9 l i=O->b9 l k=O->F a b=O
def ad0(L:aX SW)(l:Sl X')(F:SW->SW->X')(i k:Nat)(a b:SW):Prop:=i<k/\L[i]?=M a/\L[k]?=M b/\b9 l i=O/\b9 l k=O/\F a b=U/\(∀u,i<u->u<k->Sx L l F i u)/\∀w u,w<i->w<u->Sx L l F w u
theorem oT{L:aX SW}(h:L.Nodup){i:Nat}{c:SW}(a:L[i]?=M c):L.idxOf c=i:=by have⟨hi,e⟩:=ζe.1 a;rw[<-e];exact Nodup.idxOf_getElem h i hi
theorem s7{L:aX SW}{c:SW}(h:c∈L):L[L.idxOf c]?=M c:=by have hi:=List.idxOf_lt_length_of_mem h;rw[ζd hi,List.getElem_idxOf]
theorem uI.zip{g:Int->Int->Int}{a b c:SW}(h:uI g a b c)(B:W a=W b):c=H5 g a b:=by refine h.one ⟨by simp[B],λp x y u w=>?_⟩ B;rw[List.getElem?_zipWith,u,w]
def aeo(L:aX SW)(l:Sl X')(a b:SW):X':=trc L l (H5 H8 a b)
def aes(L:aX SW)(l:Sl X')(a b:SW):X':=trc L l (H5 Ao a b)
end
def rD(L:aX SW)(c:SW):ST:=(B! (W c)).filterMap λp=>if bump c p 1∈L then M (L.idxOf (bump c p 1))else G
theorem zk{c:SW}{p:Nat}{d:Int}:W (bump c p d)=W c:=by unfold bump;simp
theorem LO{c:SW}{p:Nat}(h:p<W c):(bump c p 1).sum=c.sum+1:=by unfold bump;have a:c[p]?=M c[p]:=ζd h;rw[uL a,a];simp;omega
theorem wK{L:aX SW}{c:SW}{k:Nat}:k∈rD L c↔∃p,p<W c/\bump c p 1∈L/\k=L.idxOf (bump c p 1):=by
 unfold rD;rw[List.mem_filterMap];constructor;rintro⟨p,u,h⟩;split at h;next w=>cases h;exact⟨p,mem_range.1 u,w,Y⟩
 cases h;rintro⟨p,u,w,rfl⟩;exact⟨p,mem_range.2 u,by rw[J0 w]⟩
section
variable{t:Z4}{A:bQ 200 bu}{L:aX SW}
theorem dh.nodup(h:dh t A L):L.Nodup:=eW.nodup h.srt
theorem dh.lt(h:dh t A L){i k:Nat}{c d:SW}(hi:L[i]?=M c)(a:L[k]?=M d)(B:c.sum<d.sum):i<k:=by rcases Nat.lt_trichotomy i k with g|g|g;exact g;subst g;rw[hi]at a;cases a;omega;obtain⟨u,rfl⟩:=ζe.1 hi;obtain⟨w,rfl⟩:=ζe.1 a;exact _c ((List.pairwise_iff_getElem.1 h.srt k i w u g).tr (eW.sum B)) (eW.JJ _)
theorem K3(h:dh t A L){i k:Nat}{c:SW}(hi:L[i]?=M c)(a:k∈rD L c):i<k/\k<W L:=by obtain⟨p,w,u,rfl⟩:=wK.1 a;exact⟨h.lt hi (s7 u) (by rw[LO w];omega),List.idxOf_lt_length_of_mem u⟩
theorem dh.len(h:dh t A L){c:SW}(a:c∈L):W c=W t.a?.l:=((h.mem _).1 a).1.1
end
theorem Lx{a b:SW}(h:W a=W b)(B:W a<=8)(e:pS 8 (.row a)=pS 8 (.row b)):a=b:=by have e2:p9 8 a=p9 8 b:=_d bQ.l e;unfold p9 at e2;rw[O? B,O? c?]at e2;exact(List.append_inj e2 h).1
theorem YH(s:Zg):pS 8 s=pS 8 (.row s.l):=rfl
def zw(L:aX SW)(n:Nat):Mo (bQ 8 Int) Int:=(L.take n).map λc=>(pS 8 (.row c),(L.idxOf c:Int))
theorem Ij{L:aX SW}{n m:Nat}(B:∀c∈L,W c=n)(D:n<=8){c:SW}(a:W c=n):pS 8 (.row c)∈(zw L m).map (·.1)↔c∈L.take m:=by unfold zw;rw[map_map,mem_map];constructor;rintro⟨d,hd,e⟩;have:=Lx (by rw[B d (K? hd),a]) (by rw[B d (K? hd)];exact D) e;rwa [<-this];intro h;exact⟨c,h,Y⟩
theorem V1{L:aX SW}{n m:Nat}(B:∀c∈L,W c=n)(D:n<=8){c:SW}(a:W c=n):lW (pS 8 (.row c)) (zw L m)=if c∈L.take m then M (L.idxOf c:Int)else G:=by by_cases h:c∈L.take m;rw[J0 h];have⟨v,b,u⟩:=C8 ((Ij B D a).2 h);rw[b];unfold zw at u;have⟨d,hd,e⟩:=mem_map.1 u;have:=Lx (by rw[B d (K? hd),a]) (by rw[B d (K? hd)];exact D) (Prod.mk.inj e).1;rw[<-(Prod.mk.inj e).2,this];rw[K' h,BY (λk=>h ((Ij B D a).1 k))]
theorem Zc{L:aX SW}{n m:Nat}(B:∀c∈L,W c=n)(J:n<=8)(D:L.Nodup){c:SW}(T:L[m]?=M c):mA (zw L m) (pS 8 (.row c)) (m:Int)=zw L (m+1):=by obtain⟨u,rfl⟩:=ζe.1 T;have a:=B _ (t? u);rw[rO (λk=>?_)];unfold zw;rw[List.take_succ_eq_append_getElem u,o!,List.map_singleton,Nodup.idxOf_getElem D];have b:=(Ij B J a).1 k;have⟨j,w,e⟩:=mem_iff_getElem.1 b;rw[C!]at w;rw[List.getElem_take]at e;have:=(List.getElem_inj D).1 e;omega
section
variable{t:Z4}{A:bQ 200 bu}{L:aX SW}
def ixs(l:ST):SW:=l.map λ(k:Nat)=>(k:Int)
structure LB(L:List (List Int))(x:bL):Prop where
 list:ins x.list=L
 len:x.next.l.length=L.length
 next:∀(i:Nat)(c:List Int)(s:Sl Int),L[i]?=some c->x.next.l[i]?=some s->s.l=ixs (rD L c)
 index:x.index=⟨some (zw L L.length)⟩
theorem Wd(K:Small t)(n:VT t)(B:dh t A L)(ai:_j L<=5000){r:Zb}(M:mo t=_h (r,0))(g:ins r=L):Wp (dQ t) λq=>∃x,q=(_h x,0)/\LB L x:=by
 have v:=n.few;have T:_j r.l=_j L:=by rw[<-iT,g]
 have k:∀c∈L,_j c=_j t.a?.l:=λc h=>B.len h;have c__:∀{i:Nat}(hi:i<_j r.l),L[i]?=_h r.l[i].l:=λhi=>by rw[<-g];exact sj hi
 unfold dQ mh;rw[M,ζb,ζb];simp only;rw[show((0:Int)==0)=O from _i,bq];unfold dQ.W1;refine eu (_j r.l) (λi(q:Int×Mo (bQ 8 Int) Int×bL)=>q.1=(i:Int)/\q.2.1=zw L i/\q.2.2.list=r/\q.2.2.next=.nil) ⟨_i,_i,_i,_i⟩ ?_ ?_;rintro i ⟨m,l,x⟩ hi ⟨e,d,a__,I⟩;simp only at e d a__ I;subst e;subst d;subst a__;unfold dQ.bk oR;rw[gy hi,bq,bC hi,ζb,ζb,bf];refine⟨cD i c?,?_,_i,_i⟩;show mA _ (pS 8 (x.list.l[i])) _=_;rw[YH];exact Zc k v B.nodup (c__ hi);rintro⟨m,l,x⟩ ⟨e,d,a__,I⟩;simp only at e d a__ I;subst e;subst d;subst a__;unfold dQ.bk;rw[gY,bt,bf];show Wp (dQ.W2 _ _ _ _ _) _;unfold dQ.W2;have J:zw L (_j x.list.l)=zw L (_j L):=by rw[T]
 rw[J];refine eu (_j x.list.l) (λi(q:Int×Mo (bQ 8 Int) Int×bL)=>q.1=(i:Int)/\q.2.1=zw L (_j L)/\q.2.2.list=x.list/\q.2.2.next.l.length=i/\∀(j:Nat)(c:SW)(s:Zg),j<i->L[j]?=_h c->q.2.2.next.l[j]?=_h s->s.l=ixs (rD L c))
  ⟨_i,_i,_i,_i,λj c s h=>_c h c?⟩ ?_ ?_
 rintro i ⟨m,l,y⟩ hi ⟨e,d,a__,I,W⟩;simp only at e d a__ I W;subst e;subst d;unfold dQ.bK;rw[gy hi,bq,bC hi,ζb];have b__:=c__ hi;generalize aj:x.list.l[i]=cs at b__;have E:=s? b__;have N:=k _ E;unfold dQ.W3;refine eu (_j cs.l) (λp(q:Zg×Int×bL)=>q.2.1=(p:Int)/\q.1.l=ixs ((B! p).filterMap λp=>if bump cs.l p 1∈L then _h (L.idxOf (bump cs.l p 1))else G)/\q.1.l.length<=p/\q.2.2.list=x.list/\q.2.2.next=y.next)
  ⟨_i,_i,z? _,a__,_i⟩ ?_ ?_
 rintro p ⟨u,m,z⟩ Q ⟨e,g1,g2,g3,g4⟩;simp only at e g1 g2 g3 g4;subst e;unfold dQ.dG oR;rw[show len cs=(_j cs.l:Int)from _i,gy (s:=cs) Q,bq,ζb];have ak:p<_j (p9 8 cs.l):=by unfold p9;simp;omega
 have R:(pS 8 cs).l[p]?=_h cs.l[p]:=by show(p9 8 cs.l)[p]?=_;unfold p9;rw[O? c?,List.getElem?_append_left Q,ζd Q]
 have X:bQ.at (pS 8 cs) (p:Int)=_h cs.l[p]:=by unfold bQ.at;rw[J0 c?];simpa using R
 have F:=(B.mem _).1 E;obtain⟨P,V⟩:∃P,t.a?.l[p]?=_h P:=⟨_,ζd c?⟩;have al:=F.1.2 p cs.l[p] P (ζd Q) V;have ae:=DO K n F;have am:=ae.2 cs.l[p] (t? Q);rw[X,ζb,ζb,fH _ c? c?];have Y:bQ.set (pS 8 cs) (p:Int) (cs.l[p]+1)=pS 8 (.row (bump cs.l p 1)):=by have:∀(a b:bQ 8 Int),a.l=b.l->a=b:=λa b h=>(by cases a;cases b;cases h;rfl);apply this;show(p9 8 cs.l).set _ _=p9 8 (bump cs.l p 1);unfold p9 bump;rw[O? c?,O? (by simp;omega)];rw[List.set_append_left _ _ (by simpa using Q)];simp[Q]
 rw[Y];have af:_j (bump cs.l p 1)=_j t.a?.l:=by rw[zk];exact N
 have w:=V1 (m:=_j L) k v af;rw[H?]at w;have C:(B! (p+1)).filterMap (λp=>if bump cs.l p 1∈L then _h (L.idxOf (bump cs.l p 1))else G)=(B! p).filterMap (λp=>if bump cs.l p 1∈L then _h (L.idxOf (bump cs.l p 1))else G)++(if bump cs.l p 1∈L then[L.idxOf (bump cs.l p 1)]else[]):=by rw[List.range_succ,List.filterMap_append];congr 1;by_cases f:bump cs.l p 1∈L<;>simp[f]
 by_cases f:bump cs.l p 1∈L;rw[J0 f]at w C;rw[show AF (zw L (_j L)) (pS 8 (.row (bump cs.l p 1)))=O from by unfold AF;rw[w];rfl,bq];have⟨o,k1,k2⟩:=jk (s:=u) (x:=iM (zw L (_j L)) (pS 8 (.row (bump cs.l p 1))) 0) c?;rw[k1,ζb,bf];refine⟨cD p c?,?_,?_,g3,g4⟩;show o.l=_;rw[k2,C,g1];unfold ixs iM;rw[w];simp;show _j o.l<=_;rw[k2,ζi,X?];omega;rw[K' f]at w C;rw[show AF (zw L (_j L)) (pS 8 (.row (bump cs.l p 1)))=U from by unfold AF;rw[w];rfl,bt,bf];exact⟨cD p c?,by show u.l=_;rw[C,J!];exact g1,by show _j u.l<=_;omega,g3,g4⟩;rintro⟨u,m,z⟩ ⟨e,g1,g2,g3,g4⟩;simp only at e g1 g2 g3 g4;subst e;unfold dQ.dG;rw[show len cs=(_j cs.l:Int)from _i,gY (s:=cs),bt,bf];have⟨o,k1,k2⟩:=jk (s:=z.next) (x:=u) (by rw[g4,I];omega);show Wp (_l (ec z.next u) _) _;rw[k1,ζb,bf];refine⟨cD i c?,_i,g3,?_,λj c s hj S D=>?_⟩;show _j o.l=_;rw[k2,g4,ζi,I];rfl;replace D:o.l[j]?=_h s:=D;rw[k2,g4]at D;by_cases ah:j<i;rw[List.getElem?_append_left c?]at D;exact W j c s ah S D;have:j=i:=c?;subst this;rw[List.getElem?_append_right c?,I,Nat.sub_self]at D;cases D;rw[b__]at S;cases S;exact g1;rintro⟨m,l,y⟩ ⟨e,d,d__,H,W⟩;simp only at e d d__ H W;subst e;subst d;unfold dQ.bK;rw[gY,bt,bf];refine(bf _).2 ⟨_,_i,by show ins y.list=L;rw[d__];exact g,by show _j y.next.l=_;rw[H,T],λi c s hi D=>W i c s ?_ hi D,_i⟩;have:=(ζe.1 hi).1;omega
end
section
variable{L:aX SW}{f:Nat->X'}
inductive Rc(L:List (List Int))(f:Nat->Bool):Nat->Prop
 |zero:Rc L f 0|step{i k:Nat}{c:List Int}:Rc L f i->f i=false->L[i]?=some c->k∈rD L c->Rc L f k
def AG(L:aX SW):Prop:=∀(i k:Nat)c,L[i]?=M c->k∈rD L c->i<k/\k<W L
def Oe(L:aX SW)(f:Nat->X')(i k:Nat):Prop:=k=0\/∃j c,j<i/\Rc L f j/\f j=U/\L[j]?=M c/\k∈rD L c
theorem Zv(b:AG L){i k:Nat}(h:k<=i):Oe L f i k↔Rc L f k:=by constructor;rintro(rfl|⟨j,c,_,a,z,u,w⟩);exact .zero;exact .step a z u w;intro d;cases d with|zero=>exact .inl Y|step a z u w=>exact .inr ⟨_,_,by have:=(b _ _ _ u w).1;omega,a,z,u,w⟩
theorem zD{i k:Nat}{c:SW}(hi:L[i]?=M c):Oe L f (i+1) k↔Oe L f i k\/(Rc L f i/\f i=U/\k∈rD L c):=by constructor;rintro(h|⟨j,d,B,a,w,u,z⟩);exact .inl (.inl h);by_cases e:j=i;subst e;rw[hi]at u;cases u;exact .inr ⟨a,w,z⟩;exact .inl (.inr ⟨j,d,c?,a,w,u,z⟩);rintro((h|⟨j,d,B,a⟩)|⟨a,w,u⟩);exact .inl h;exact .inr ⟨j,d,c?,a⟩;exact .inr ⟨i,c,c?,a,w,hi,u⟩
theorem V7{k:Nat}:Oe L f 0 k↔k=0:=⟨λh=>h.elim id λ⟨_,_,h,_⟩=>_c h c?,.inl⟩
open Classical in
noncomputable def outs(L:aX SW)(f:Nat->X'):Nat->aX SW
 |0=>[]|n+1=>outs L f n++if Rc L f n/\f n=O then L[n]?.toList else[]
theorem NR{n:Nat}(h:¬(Rc L f n/\f n=O)):outs L f (n+1)=outs L f n:=by show _++_=_;rw[K' h,J!]
theorem T3{n:Nat}{c:SW}(h:Rc L f n)(B:f n=O)(a:L[n]?=M c):outs L f (n+1)=outs L f n++[c]:=by show _++_=_;rw[J0 ⟨h,B⟩,a];rfl
theorem Zt{r:Sl X'}{k:Nat}(h:k<W r.l):Sl.get r k=M (b9 r k):=by unfold Sl.get b9;rw[ζd h];rfl
theorem Og{r s:Sl X'}{k:Nat}(h:k<W r.l)(B:s.l=r.l.set k O)(j:Nat):b9 s j=O↔b9 r j=O\/j=k:=by unfold b9;rw[B,D?];by_cases e:k=j;subst e;rw[J0 Y,J0 h];simp;rw[K' e];simp[Ne.symm e]
theorem YT{n:Nat}(h:n<=2147483648):nC (n:Int) (U:X')=M (.row (w? n U)):=by unfold nC;rw[J0 ⟨c?,c?⟩];rfl
theorem ZK{n k:Nat}:b9 (.row (w? n U)) k=U:=by unfold b9;show((w? n U)[k]?).getD U=U;rw[P!];split<;>rfl
theorem SL{n:Nat}(D:0<n)(h:n<=2147483648){β:Type}{k:Sl X'->aY β}{P:β->Prop}(a:∀r:Sl X',W r.l=n->(∀j,b9 r j=O↔j=0)->Wp (k r) P):
 Wp (H (nC (n:Int) (U:X')) λB=>H (Sl.iF B 0) λJ=>H (Sl.put B J (O:X')) k) P:=by
 rw[YT h,ζb];have u:W (Sl.row (w? n U)).l=n:=by simp[Sl.l]
 rw[show(0:Int)=((0:Nat):Int)from Y,pE (by rw[u];exact D),ζb]
 have⟨r,b,w⟩:=put_eq (s:=Sl.row (w? n U)) (p:=0) (x:=O) (by rw[u];exact D)
 rw[b,ζb];refine a r (by rw[w,z6,u]) λj=>?_
 rw[Og (by rw[u];exact D) w,ZK];simp
theorem XI{l:ST}{m:Nat}(h:m<W l):(ixs l)[m]?=M (l[m]:Int):=by unfold ixs;rw[Q?,ζd h];rfl
theorem X_{l:ST}:W (ixs l)=W l:=by unfold ixs;simp
end
theorem RA{a b:Zg}(B:W a.l<1073741824):nY a b=M (_p (a.l=b.l)):=(rfl:nY a b=eX a b).trans (Cm B)
theorem SZ{a b:Zg}(B:W a.l<1073741824):n5 a b=M (_p (a.l=b.l)):=(rfl:n5 a b=eX a b).trans (Cm B)
def ps(L:aX SW)(c:SW)(n:Nat):ST:=(B! n).filter λp=>_p (bump c p 1∈L)
theorem YO(L:aX SW)(c:SW)(n:Nat):ps L c (n+1)=ps L c n++if bump c n 1∈L then[n]else[]:=by unfold ps;rw[List.range_succ,List.filter_append];congr 1;by_cases h:bump c n 1∈L<;>simp[h]
theorem aa6(L:aX SW)(c:SW):rD L c=(ps L c (W c)).map λp=>L.idxOf (bump c p 1):=by unfold rD ps;induction B! (W c) with|nil=>rfl|cons a l u=>by_cases h:bump c a 1∈L<;>simp[h,u]
theorem aaJ{L:aX SW}{c:SW}{n p:Nat}:p∈ps L c n↔p<n/\bump c p 1∈L:=by unfold ps;simp
theorem Be{c:SW}{p:Nat}{a:Int}(h:c[p]?=M a):bump c p 1=c.set p (a+1):=by unfold bump;rw[h];rfl
section
variable{t:Z4}{A:bQ 200 bu}{L:aX SW}
theorem AG.of(B:dh t A L):AG L:=λ_ _ _ h k=>K3 B h k
end
end Go.VE
namespace Go.VE
theorem LN{t:Z4}(b:VT t){A:bQ 200 bu}(c:eB t (bJ t) A):Cons t A (t.a?.l.map λP=>(W P.b?.l:Int)):=by refine⟨⟨f?,λp a P u z=>?_⟩,λp k e a w u d B=>?_⟩;rw[Q?,z]at u;cases u;constructor<;>simp;have⟨q,j,y,C,_,_,_,_,D⟩:=wz b c w B;have⟨Q,g,I⟩:=C;have J:=(ζe.1 I).1;rw[D];refine⟨(W Q.b?.l:Int),?_,by simp only;omega⟩;simp only[u!,Q?,g,B?]
section
variable{L:aX SW}{f:Nat->X'}
inductive pV(L:List (List Int))(f:Nat->Bool):Nat->Prop
 |last:f (L.length-1)=false->pV L f (L.length-1)|step{i k:Nat}{c:List Int}:f i=false->L[i]?=some c->k∈rD L c->pV L f k->pV L f i
theorem pV.no{i:Nat}(h:pV L f i):f i=U:=by cases h<;>assumption
theorem Oi:pV L f 0↔Rc L f (W L-1)/\f (W L-1)=U:=by
 have a:∀i,pV L f i->Rc L f i->Rc L f (W L-1)/\f (W L-1)=U:=λi h=>by induction h with|last h=>exactλk=>⟨k,h⟩|step h1 u w _ z=>exactλk=>z (.step k h1 u w)
 have b:∀i,Rc L f i->pV L f i->pV L f 0:=λi h=>by induction h with|zero=>exact id|step _ h1 u w z=>exactλk=>z (.step h1 u w k)
 exact⟨λh=>a 0 h .zero,λh=>b _ h.1 (.last h.2)⟩
theorem Fk(b:AG L){i:Nat}{c:SW}(hi:L[i]?=M c):pV L f i↔f i=U/\(i=W L-1\/∃k∈rD L c,pV L f k):=by
 constructor;intro h;refine⟨h.no,?_⟩;cases h with|last _=>exact .inl Y|step _ u w z=>rw[hi]at u;cases u;exact .inr ⟨_,w,z⟩
 rintro⟨a,u|⟨k,u,w⟩⟩;subst u;exact .last a;exact .step a hi u w
end
section
variable{t:Z4}{A:bQ 200 bu}{L:aX SW}
end
theorem SU{t:Z4}(a:Small t)(m:Int):∃b,lX t m=M b:=by refine G_.get ?_;unfold lX lX.W1;refine eu (W t.a?.l) (λi q=>q.2=(i:Int)) Y ?_ ?_;rintro n ⟨c,_⟩ u e;simp only at e;subst e;have d:=a.1;unfold lX.bk;rw[gy u,bq,bC u,ζb,jU,ζb,jU,ζb];rw[Cd (f:=λz=>(uo z).getD U) (λz _=>G_.ok ((bf _).2 trivial)) (a.2 _ (t? u)).1];rw[Ap (f:=λz=>(tZ z).getD U) (λz _=>G_.ok ((bf _).2 trivial)) (a.2 _ (t? u)).2.1];simp only[ζb,jU];rw[cn];exact⟨λ_=>(bf _).2 ((bf _).2 trivial),λ_=>(bf _).2 (cD n c?)⟩;rintro⟨c,_⟩ e;simp only at e;subst e;unfold lX.bk;rw[gY,bt,bf];exact(bf _).2 trivial
theorem qF{a b:Zb}(h:ins a=ins b)(B:∀x∈ins a,W x<1073741824)(D:W a.l<1073741824):jJ a b=M O:=by
 have w:W b.l=W a.l:=by rw[<-iT,<-h,iT]
 unfold jJ;rw[show(len a==len b)=O from by simp[len,w],bq];refine Wp.eq ?_;unfold jJ.W1;refine eu (W a.l) (λi(q:Int)=>q=(i:Int)) Y ?_ ?_;rintro i _ hi rfl;have u:i<W b.l:=by omega
 have e:a.l[i].l=b.l[i].l:=by have c:=sj hi;rw[h,sj u]at c;exact(Option.some.inj c).symm
 unfold jJ.bk;rw[gy hi,bq,bC hi,ζb,bC u,ζb,SZ (B _ (oQ.2 ⟨_,t? hi,Y⟩)),ζb,_a e,bq,bf];exact cD i c?;rintro _ rfl;unfold jJ.bk;rw[gY,bt,bf];exact(bf _).2 rfl
end Go.VE
