/-
 LinearForbids says true for all arguments that together are of bulk at most 1048576, and they read behind the call as they read before: for every such argument, without a condition.
-/
import Derived.Test.YtgnmmpchdcccbaaGreatDoorRows
import Derived.Test.YtgnmmpchdcccbaaGreatDoorCards
import Derived.Test.YtgnmmpchdcccbaaGreatDoorTie
import Derived.Deep.DeepHandedRow
import Derived.Test.YtgnmmpchdcccbaaGreatDoorK1
import Derived.Test.YtgnmmpchdcccbaaGreatDoorL1
set_option linter.all false
open List(all_cons all_eq_true any_eq_true countP countP_append countP_cons countP_nil find?_eq_none getElem?_eq_none getElem?_of_mem getElem?_set getElem_mem length_cons length_set length_take map_append map_cons mem_append_left mem_cons mem_cons_of_mem mem_iff_getElem? mem_of_getElem? range range_succ replicate sum_cons take_add_one take_length zipWith)
open Classical(byContradiction)
open Empty(elim)
open Nat(le_add_left le_refl zero_le)
open ByteArray(toList)
open Go.IntKind(wrap)
namespace Go.VE
theorem Zag{p:Prop}(h:p:=by kernel_rfl):p:=h
theorem xy{α:Type}{s:Sl α}(h:0<s.l.length):Sl.isNil s=some false:=by cases s with|nil=>exact absurd h (Nat.lt_irrefl 0)|emp=>exact absurd h (Nat.lt_irrefl 0)|row l=>rfl|part l=>rfl
theorem YJ(x y:Int):qb (Sl.row [x,y])=some (je x y):=by
 have h:Wp (dA (Sl.row [x,y])) λm=>m=if y<x then y else x:=by unfold dA;rw[show decide (len (Sl.row [x,y])<1)=false from rfl,bA];unfold dA.J1;rw[show idx (Sl.row [x,y]) 0=some x from rfl,ζb];unfold dA.W2;refine dU 1 (λi(q:Int×Int)=>(i=0/\q=(x,1))\/(i=1/\q=(if y<x then y else x,2))) (.inl ⟨rfl,rfl⟩) ?_ ?_;rintro i ⟨m,k⟩ b (⟨rfl,e⟩|⟨rfl,e⟩);cases e;unfold dA.bH;dsimp only;rw[show decide ((1:Int)<len (Sl.row [x,y]))=true from rfl,bt,show idx (Sl.row [x,y]) 1=some y from rfl,ζb,bf];exact .inr ⟨rfl,rfl⟩;omega;rintro⟨m,k⟩ (⟨h,_⟩|⟨_,e⟩);omega;cases e;unfold dA.bH;dsimp only;rw[show decide ((2:Int)<len (Sl.row [x,y]))=false from rfl,bA,bf];exact(bf _).2 rfl
 unfold qb;have⟨m,a,u⟩:=h;rw[a,u];unfold je;grind
theorem Xu{a b:Zg}(D:a.l.length=b.l.length)(g:0<a.l.length)(U:a.l.length<=8):Wp (iG (Sl.row [a,b]) (λz=>qb z)) λo=>o.l=zipWith je a.l b.l:=by
 have G:=qm.of je D;unfold iG;have⟨d,l,u⟩:=yJ (c:=a) Zaa g;obtain⟨v,I,L⟩:∃v,gN (Sl.row [a,b]) (some 1) none=some v/\v.l=[b]:=DR (Sl.row [a,b]) 1 (Nat.le_succ 1);rw[show idx (Sl.row [a,b]) 0=some a from rfl,ζb,l,ζb,I,ζb];unfold iG.W1;have f:len v=1:=Zac;have m:idx v 0=some b:=by unfold idx;grind
 refine dU 1 (λi(q:Zg×Int)=>(i=0/\q=(d,0))\/(i=1/\q.1.l=zipWith je a.l b.l/\q.2=1)) (.inl ⟨rfl,rfl⟩) ?_ ?_;rintro i ⟨o,k⟩ J (⟨rfl,e⟩|⟨rfl,-,-⟩);cases e;unfold iG.bh;dsimp only;rw[f,show decide ((0:Int)<1)=true from rfl,bt,m,ζb];unfold iG.W2;refine dU d.l.length (λn(q:Zg×Int)=>q.2=(n:Int)/\q.1.l.length=a.l.length/\∀j:Nat,q.1.l[j]?=if j<n then(zipWith je a.l b.l)[j]?else a.l[j]?) ⟨rfl,by rw[u],λj=>Zac⟩ ?_ ?_;rintro n ⟨o,_⟩ O ⟨rfl,g1,g2⟩;simp only at g1 g2;have w:n<a.l.length:=by grind
 have B:n<b.l.length:=Zaa;unfold iG.bH;dsimp only;rw[show decide ((n:Int)<len d)=true from Zac,bt,yP Zaa,ζb];unfold Sl.get;rw[g2 n,if_neg Zaa,ζd w,ζb,bz B,ζb,YJ,ζb,ζb];have⟨o2,k1,k2⟩:=put_eq (s:=o) (p:=n) (x:=je a.l[n] b.l[n]) Zaa;rw[k1,ζb,bf];refine⟨cr n Zaa,by show o2.l.length=_;simp_all,λj=>?_⟩;show o2.l[j]?=_;grind;rintro⟨o,_⟩ ⟨rfl,g1,g2⟩;simp only at g1 g2;unfold iG.bH;dsimp only;rw[gw,bA,bf];refine(bf _).2 (.inr ⟨rfl,List.ext_getElem? λj=>?_,rfl⟩);rw[g2 j];by_cases C:j<d.l.length;rw[if_pos C];rw[if_neg C,getElem?_eq_none (by rw[<-u];omega),getElem?_eq_none (by rw[G.1,<-u];omega)];omega;rintro⟨o,k⟩ (⟨h,_⟩|⟨_,e,e2⟩);cases h;simp only at e e2;subst e2;unfold iG.bh;dsimp only;rw[f,show decide ((1:Int)<1)=false from rfl,bA,bf];exact(bf _).2 e
theorem dV.same{a b:Rd}(h:dV a b)(k:dV b a):a=b:=by refine List.ext_getElem h.1 λj c u=>?_;have:=h.2 j _ _ (ζd c) (ζd u);have:=k.2 j _ _ (ζd u) (ζd c);omega
def kz(L:aX Rd)(f:Nat->X')(d:Rd):Prop:=d∈L/\f (L.idxOf d)=true
section
variable{t:Z4}{A:b9 200 bB}{L:aX Rd}{tb:Sl X'}{x:b_}
def ZK(t:Z4)(A:b9 200 bB)(L:aX Rd)(f:Nat->X')(c:Rd)(o:Zg):Prop:=(o=.nil/\∀d,kz L f d->¬dV c d)\/(Cons t A o.l/\dV c o.l/\(∀d,kz L f d->dV c d->dV o.l d)/\(∃d,kz L f d/\dV c d)/\∀e,(∀d,kz L f d->dV c d->dV e d)->dV e o.l)
theorem De{c:Rd}{p:Nat}(h:p<c.length):dV c (bump c p 1):=⟨AM.symm,λq x y w u=>by
 rw[EG (ζd h)]at u
 grind⟩
theorem HZ(hS:Small t)(r:VT t)(hM:fR t (bL t) A)(B:eo t A L)(h5:L.length<=5000)(E:ins x.l=L)(av:x.truth=tb)(hx:A_ L (m_ x.index))(aH:tb.l.length=L.length):
 Wp (dM x) λout=>out.l.length=L.length/\∀(i:Nat)c,L[i]?=some c->∃o,out.l[i]?=some o/\ZK t A L (jq tb) c o:=by
 have R:=r.few;have aG:=r.ok.one;have aw:x.l.l.length=L.length:=by rw[<-E,k_]
 unfold dM;have ax:len x.l=(L.length:Int):=by simp only[len,aw]
 rw[ax,show uT (L.length:Int) (Sl.nil:Zg)=some (.row (replicate L.length Sl.nil))from by unfold uT;rw[if_pos ⟨Zaa,Zaa⟩];rfl,ζb,fV _ Zaa Zaa]
 unfold dM.W1;refine dU L.length (λm(q:Zb×Int)=>q.2=(L.length:Int)-1-(m:Int)/\q.1.l.length=L.length/\(∀(j:Nat)c,L.length-m<=j->L[j]?=some c->∃o,q.1.l[j]?=some o/\ZK t A L (jq tb) c o)/\∀j:Nat,j<L.length-m->q.1.l[j]?=some .nil)
  ⟨Zab,by simp[Sl.l],λj c Q b=>absurd (ζe.1 b).1 Zaa,λj Q=>by
   show(replicate L.length (Sl.nil:Zg))[j]?=_;rw[List.getElem?_replicate,if_pos Zaa]⟩ ?_ ?_
 .rintro m ⟨out,_⟩ hm ⟨rfl,g1,g2,g3⟩;simp only at g1 g2 g3;obtain⟨i,hi⟩:∃i:Nat,i+m+1=L.length:=⟨L.length-1-m,Zaa⟩
  have W:i<L.length:=Zaa
  have J:=ζd W;have F:=(B.mem _).1 (getElem_mem W);unfold dM.bh;dsimp only;rw[show(L.length:Int)-1-(m:Int)=(i:Int)from Zaa,decide_eq_true (show(i:Int)>=0 by omega),bt,av,G_ Zaa,ζb,show(i:Int)-1=(L.length:Int)-1-((m+1:Nat):Int)from Zaa]
  cases H:jq tb i with
  |true=>
   have V:i<x.l.l.length:=Zaa
   have X:x.l.l[i].l=L[i]:=by have:=u_ V;rw[E,J]at this;exact(Option.some.inj this).symm
   have⟨o2,k1,k2⟩:=put_eq (s:=out) (p:=i) (x:=x.l.l[i]) Zaa
   rw[bt,bz V,ζb,yP Zaa,ζb,k1,ζb,bf]
   refine⟨fV _ Zaa Zaa,by show o2.l.length=_;rw[k2,length_set];exact g1,λj c Q b=>?_,λj Q=>?_⟩
   .show ∃o,o2.l[j]?=some o/\_;rw[k2,getElem?_set]
    by_cases e:i=j
    .subst e;rw[J]at b;cases b;exact⟨_,by rw[if_pos rfl,if_pos Zaa],.inr ⟨by rw[X];exact F,by rw[X];exact dV.refl _,λd _ hd=>by rw[X];exact hd,⟨_,⟨getElem_mem W,by rw[sA B.nodup J];exact H⟩,dV.refl _⟩,λe g=>by rw[X];exact g _ ⟨getElem_mem W,by rw[sA B.nodup J];exact H⟩ (dV.refl _)⟩⟩
    rw[if_neg e];exact g2 j c Zaa b
   show o2.l[j]?=_;rw[k2,getElem?_set,if_neg Zaa];exact g3 j Zaa
  |false=>
   rw[bA,eA];refine(Yr hS r B E hx J).mono λl ai=>?_
   have aj:l.l.length=(xN L L[i]).length:=by rw[ai,List.length_map]
   have aI:l.l.length<=8:=by rw[aj];have:=List.length_filterMap_le (λp=>if bump L[i] p 1∈L then some (L.idxOf (bump L[i] p 1))else none) (range L[i].length);rw[List.length_range]at this;exact Nat.le_trans this (by rw[F.1.1];exact R)
   unfold dM.W2;refine dU l.l.length (λn(q:Zb×Int)=>q.2=(n:Int)/\q.1.l.length=L.length/\(∀j:Nat,j≠i->q.1.l[j]?=out.l[j]?)/\∃a,q.1.l[i]?=some a/\
    ((a=.nil/\∀(m' k:Nat)z,m'<n->(xN L L[i])[m']?=some k->L[k]?=some z->∀d,kz L (jq tb) d->¬dV z d)\/
     (Cons t A a.l/\dV L[i] a.l/\(∀(m' k:Nat)z,m'<n->(xN L L[i])[m']?=some k->L[k]?=some z->∀d,kz L (jq tb) d->dV z d->dV a.l d)/\(∃d,kz L (jq tb) d/\dV L[i] d)/\∀e,(∀d,kz L (jq tb) d->dV L[i] d->dV e d)->dV e a.l)))
    ⟨rfl,g1,λ_ _=>rfl,.nil,g3 i Zaa,.inl ⟨rfl,λm' k z h=>absurd h Zaa⟩⟩ ?_ ?_
   .rintro n ⟨o,_⟩ hn ⟨rfl,e1,e2,a,e3,e4⟩;simp only at e1 e2 e3;have ak:n<(xN L L[i]).length:=by omega
    have Y:=ζd ak;have K:=getElem_mem ak;generalize hk:(xN L L[i])[n]=k at Y K;have⟨p,hp,Z,ay⟩:=Hs.1 K;have v:L[k]?=some (bump L[i] p 1):=by rw[ay];exact uG Z
    have aJ:i<k:=(SL B J K).1;have aK:=(ζe.1 v).1;have⟨ok,aA,al⟩:=g2 k _ Zaa v
    have am:idx l (n:Int)=some (k:Int):=by rw[gY,ai,List.getElem?_map,Y];rfl
    have S:o.l[k]?=some ok:=by rw[e2 k Zaa];exact aA
    unfold dM.bH;dsimp only;rw[fA hn,bt,am,ζb,yP Zaa,ζb]
    unfold Sl.get;rw[S,ζb];rcases al with⟨rfl,an⟩|⟨y,u,aB,⟨de,aC,aD⟩,ao⟩
    .rw[show Sl.isNil (Sl.nil:Zg)=some true from rfl,ζb,bt,bf];refine⟨cr n Zaa,e1,e2,a,e3,?_⟩
     have O:∀(m' I:Nat)z,m'<n+1->¬m'<n->(xN L L[i])[m']?=some I->L[I]?=some z->z=bump L[i] p 1:=λm' I z f G C D=>by obtain rfl:m'=n:=Zaa;rw[Y]at C;cases C;rw[v]at D;exact(Option.some.inj D).symm
     rcases e4 with⟨T,U⟩|⟨T,U,b⟩
     .refine .inl ⟨T,λm' I z f C D d hd=>?_⟩
      by_cases G:m'<n
      .exact U m' I z G C D d hd
      rw[O m' I z f G C D];exact an d hd
     refine .inr ⟨T,U,λm' I z f C D d hd u=>?_,b.2⟩
     by_cases G:m'<n
     .exact b.1 m' I z G C D d hd u
     rw[O m' I z f G C D]at u;exact absurd u (an d hd)
    have ap:0<ok.l.length:=by rw[y.1.1];omega
    have aq:=(De hp).trans u;have O:∀(m' I:Nat)z,m'<n+1->¬m'<n->(xN L L[i])[m']?=some I->L[I]?=some z->∀d,kz L (jq tb) d->dV z d->dV ok.l d:=λm' I z f G C D d hd u=>by obtain rfl:m'=n:=Zaa;rw[Y]at C;cases C;rw[v]at D;cases D;exact aB d hd u
    rw[xy ap,ζb,bA,yP Zaa,ζb,e3,ζb]
    rcases e4 with⟨rfl,U⟩|⟨T,U,b⟩
    .have⟨o2,k1,k2⟩:=put_eq (s:=o) (p:=i) (x:=ok) Zaa
     rw[show Sl.isNil (Sl.nil:Zg)=some true from rfl,ζb,bt,ζb,S,ζb,ζb,k1,ζb,bf];refine⟨cr n Zaa,by show o2.l.length=_;rw[k2,length_set];exact e1,λj Q=>by show o2.l[j]?=_;rw[k2,getElem?_set,if_neg (Ne.symm Q)];exact e2 j Q,ok,by show o2.l[i]?=_;rw[k2,List.getElem?_set_self Zaa],.inr ⟨y,aq,λm' I z f C D d hd u=>?_,⟨de,aC,(De hp).trans aD⟩,λe g=>ao e λd hd u=>g d hd ((De hp).trans u)⟩⟩
     by_cases G:m'<n
     .exact absurd u (U m' I z G C D d hd)
     exact O m' I z f G C D d hd u
    have M:a.l.length=ok.l.length:=T.1.1.trans y.1.1.symm;have N:=qm.of je M;have⟨w1,w2,P⟩:=N.le_min M;rw[xy (show 0<a.l.length by omega),ζb,bA,ζb,e3,ζb,ζb,S,ζb,eA]
    refine(Xu M Zaa (by rw[T.1.1];exact R)).mono λw hw=>?_
    have⟨o2,k1,k2⟩:=put_eq (s:=o) (p:=i) (x:=w) Zaa
    rw[ζb,k1,ζb,bf];rw[<-hw]at N w1 w2 P;refine⟨cr n Zaa,by show o2.l.length=_;rw[k2,length_set];exact e1,λj Q=>by show o2.l[j]?=_;rw[k2,getElem?_set,if_neg (Ne.symm Q)];exact e2 j Q,w,by show o2.l[i]?=_;rw[k2,List.getElem?_set_self Zaa],.inr ⟨Jh T y N,P _ U aq,λm' I z f C D d hd u=>?_,b.2.1,λe g=>P _ (b.2.2 e g) (ao e λd hd u=>g d hd ((De hp).trans u))⟩⟩
    by_cases G:m'<n
    .exact w1.trans (b.1 m' I z G C D d hd u)
    exact w2.trans (O m' I z f G C D d hd u)
   rintro⟨o,_⟩ ⟨rfl,e1,e2,a,e3,e4⟩;simp only at e1 e2 e3;unfold dM.bH;dsimp only;rw[gw,bA,bf];have ar:∀d,kz L (jq tb) d->dV L[i] d->∃(m' k:Nat)(z:Rd),m'<l.l.length/\(xN L L[i])[m']?=some k/\L[k]?=some z/\dV z d:=λd hd u=>by have hD:=(B.mem _).1 hd.1;have aE:¬dV d L[i]:=λh=>(by have:d=L[i]:=dV.same h u;have G:=hd.2;rw[this,sA B.nodup J,H]at G;cases G);have⟨p,hp,Z,aF⟩:=N2 r hM B F u d.sum.toNat hD (dV.refl d) Zaa aE;have hm:L.idxOf (bump L[i] p 1)∈xN L L[i]:=Hs.2 ⟨p,hp,Z,rfl⟩;have⟨m',au⟩:=getElem?_of_mem hm;exact⟨m',_,_,by rw[aj];exact(ζe.1 au).1,au,uG Z,aF⟩
   refine(bf _).2 ⟨(fV ((i:Int)-1) Zaa Zaa).trans Zaa,e1,λj c Q b=>?_,λj Q=>by show o.l[j]?=_;rw[e2 j Zaa];exact g3 j Zaa⟩
   show∃o',o.l[j]?=some o'/\_
   by_cases e:j=i
   .subst e;rw[J]at b;cases b;refine⟨a,e3,?_⟩;rcases e4 with⟨T,U⟩|⟨T,U,b⟩
    .exact .inl ⟨T,λd hd u=>by
      have⟨m',k,z,f,G,C,D⟩:=ar d hd u;exact U m' k z f G C d hd D⟩
    exact .inr ⟨T,U,λd hd u=>by
     have⟨m',k,z,f,G,C,D⟩:=ar d hd u;exact b.1 m' k z f G C d hd D,b.2⟩
   rw[e2 j e];exact g2 j c Zaa b
 rintro⟨out,_⟩ ⟨rfl,g1,g2,-⟩;unfold dM.bh;dsimp only;rw[decide_eq_false Zaa,bA,bf]
 exact(bf _).2 ⟨g1,λi c b=>g2 i c Zaa b⟩
end
end Go.VE
namespace Go.VE
section
variable{α σ:Type}
def xJ(p:α->σ->aY (X'×σ)):aX α->σ->aY (X'×σ)
 |[],x=>some (false,x)|a::r,x=>(p a x).bind λy=>if y.1 then some (true,y.2)else xJ p r y.2
theorem Hg{s:Sl α}{p:α->σ->aY (X'×σ)}{x:σ}(B:s.l.length<1073741824):A8 s p x=xJ p s.l x:=by
 have key:∀(c:aX α)(j:Nat)(x:σ),s.l.drop j=c->((bF (GM s p) ((j:Int),x)).bind (Fw.elim (λe=>some ((-1:Int),e)) λe=>some e)).bind (λy:Int×σ=>some (decide (y.1>=0),y.2))=xJ p c x:=by intro c;induction c with|nil=>intro j x hd;have d:decide ((j:Int)<len s)=false:=(by have:s.l.length<=j:=(by simpa using hd);simp[len];omega);rw[eP];simp only[GM,d,bg,Bool.false_eq_true,if_false,ζb,Fw.elim,xJ];rfl|cons a c u=>intro j x hd;have d:j<s.l.length:=(by apply byContradiction;intro C;rw[List.drop_eq_nil_of_le Zaa]at hd;cases hd);have w:=List.drop_eq_getElem_cons d;rw[w]at hd;simp only[List.cons.injEq]at hd;rw[eP];simp only[GM,fA d,bg,if_true,bz d,ζb,hd.1,xJ];cases p a x with|none=>rfl|some y=>have⟨b,z⟩:=y;simp only[ζb];cases b with|true=>simp[Fw.elim]|false=>simp only[Bool.false_eq_true,if_false,ζb,cr j Zaa];exact u (j+1) z hd.2
 exact key s.l 0 x rfl
def Hw(p:α->aY X'):aX α->aY X'
 |[]=>some false|a::r=>(p a).bind λb=>if b then some true else Hw p r
theorem HY(p:α->aY X'):∀l:aX α,xJ (λx(u:Unit)=>(p x).map λb=>(b,u)) l ()=(Hw p l).map λb=>(b,())
 |[]=>rfl|a::r=>by simp only[xJ,Hw];cases p a with|none=>rfl|some b=>cases b<;>simp[HY p r]
theorem CU{s:Sl α}(p:α->aY X')(B:s.l.length<1073741824):A8 s (λx(u:Unit)=>(p x).map λb=>(b,u)) ()=(Hw p s.l).map λb=>(b,()):=by rw[Hg B,HY]
theorem Bb{p:α->aY X'}{f:α->X'}:∀{l:aX α},(∀x∈l,p x=some (f x))->Hw p l=some (l.any f)
 |[],_=>rfl|a::r,h=>by simp only[Hw,h a Zab,ζb,List.any_cons,Bb (λx B=>h x (mem_cons_of_mem _ B))];cases f a<;>rfl
theorem jC{δ:Type}{b:(α->aY δ)->α->aY δ}{n:Nat}(h:0<n)(z:α):dD b n z=b (dD b (n-1)) z:=by cases n with|zero=>omega|succ n=>rfl
end
def Bu(l:Rd)(az:aX Assign):Rd:=az.foldl (λl a=>l.set a.var.toNat a.value) l
def iS(P:bR):Nat->Rd
 |0=>P.vars.l.map Var.init_|k+1=>match P.events.l[k]?with
  |some e=>Bu (iS P k) e.assign.l|none=>iS P k
theorem Mi:∀(az:aX Assign)(l:Rd),(Bu l az).length=l.length
 |[],l=>rfl|a::r,l=>by show(Bu (l.set a.var.toNat a.value) r).length=_;rw[Mi r];simp
theorem qK(P:bR):∀k,(iS P k).length=P.vars.l.length
 |0=>by simp[iS]|k+1=>by unfold iS;split;rw[Mi,qK P k];exact qK P k
def Nr{α:Type}(s:Sl α):Prop:=s=.nil\/∃l,s=.row l
theorem Lt:∀(vs:aX Var)(s:Zg),Nr s->s.l.length+vs.length<1073741824->∃B,ym vs s=some B/\Nr B/\B.l=s.l++vs.map Var.init_
 |[],s,h,_=>⟨s,rfl,h,Zab⟩|v::r,s,h,D=>by simp only[length_cons]at D;have a:fu s v.init_=some (.row (s.l++[v.init_])):=(by unfold fu;rw[if_pos Zaa]);have⟨B,g1,g2,g3⟩:=Lt r (.row (s.l++[v.init_])) (.inr ⟨_,rfl⟩) (by show(s.l++[v.init_]).length+r.length<1073741824;simp;omega);refine⟨B,?_,g2,by rw[g3];show(s.l++[v.init_])++r.map Var.init_=_;simp⟩;simp only[ym,a,ζb,g1]
theorem Kw:∀(az:aX Assign)(s:Zg),Nr s->(∀a∈az,0<=a.var/\a.var<s.l.length)->∃B,yg az s=some B/\Nr B/\B.l=Bu s.l az
 |[],s,h,_=>⟨s,rfl,h,rfl⟩|a::r,s,h,D=>by have⟨d,c⟩:=D a Zab;have e:Sl.lW s a.var=some a.var.toNat:=(by unfold Sl.lW;rw[if_pos ⟨d,Zaa⟩]);rcases h with rfl|⟨l,rfl⟩;simp[Sl.l]at c;omega;have u:Sl.put (.row l) a.var.toNat a.value=some (.row (l.set a.var.toNat a.value)):=(by unfold Sl.put;rw[if_pos (by simp[Sl.l]at c⊢;omega)]);have⟨B,g1,g2,g3⟩:=Kw r (.row (l.set a.var.toNat a.value)) (.inr ⟨_,rfl⟩) (λb w=>by have:=D b (mem_cons_of_mem _ w);simpa[Sl.l]using this);refine⟨B,?_,g2,g3⟩;simp only[yg,e,u,ζb,g1]
theorem Nv{s:Zg}(h:Nr s)(B:s.l.length<1073741824):∃c,Po s=some c/\c.l=s.l:=by rcases h with rfl|⟨l,rfl⟩;exact⟨.nil,rfl,rfl⟩;unfold Po IB.dY pJ;simp only[Sl.isNil,ζb,bg,Bool.false_eq_true,if_false];by_cases a:(Sl.row l).l=[];rw[if_pos a];exact⟨.row [],rfl,a.symm⟩;rw[if_neg a,if_pos (by simp[Sl.l]at B⊢;omega)];exact⟨_,rfl,by simp[Sl.l]⟩
def wD(P:bR):Prop:=∀e∈P.events.l,∀a∈e.assign.l,0<=a.var/\a.var<P.vars.l.length
theorem KF{P:bR}(B:wD P)(f:P.vars.l.length<1073741824):∀(b:aX WF)(k:Nat)(s:Zg),P.events.l.drop k=b->Nr s->s.l=iS P k->
 ∃r,x_ (k:Int) b s=some r/\r.length=b.length/\∀(i:Nat)x,r[i]?=some x->x.1=((k+i+1:Nat):Int)/\x.2.l=iS P (k+i+1)
 |[],k,s,_,_,_=>⟨[],rfl,rfl,Zab⟩|e::b,k,s,hd,D,G=>by have d:k<P.events.l.length:=(by apply byContradiction;intro D;rw[List.drop_eq_nil_of_le Zaa]at hd;cases hd);have C:=List.drop_eq_getElem_cons d;rw[C]at hd;simp only[List.cons.injEq]at hd;have I:e∈P.events.l:=hd.1▸getElem_mem d;have w:s.l.length=P.vars.l.length:=(by rw[G,qK]);have⟨n,g1,g2,g3⟩:=Kw e.assign.l s D (λa J=>by rw[w];exact B e I a J);have u:iS P (k+1)=n.l:=(by rw[g3,G];unfold iS;rw[ζd d,hd.1];cases k<;>rfl);have⟨c,g4,g5⟩:=Nv g2 (by rw[<-u,qK];exact f);have⟨r,L,O,Q⟩:=KF B f b (k+1) n hd.2 g2 u.symm;refine⟨((k:Int)+1,c)::r,?_,by simp[O],λi x z=>?_⟩;simp only[x_,g1,g4,ζb];rw[show(k:Int)+1=((k+1:Nat):Int)from rfl,L];rfl;cases i with|zero=>simp only[List.getElem?_cons_zero,ζa]at z;subst z;exact⟨rfl,by rw[g5,<-u]⟩|succ i=>rw[List.getElem?_cons_succ]at z;have⟨S,T⟩:=Q i x z;exact⟨by rw[S];congr 1;omega,by rw[T];congr 1;omega⟩
theorem Ij{P:bR}(B:wD P)(a:P.vars.l.length<1073741824)(U:P.events.l.length<1073741824)(D:∀e∈P.events.l,e.assign.l.length<1073741824):
 ∃r,kq P=some r/\r.length=P.events.l.length+1/\∀(i:Nat)x,r[i]?=some x->x.1=(i:Int)/\x.2.l=iS P i:=by
 have⟨s,g1,g2,g3⟩:=Lt P.vars.l .nil (.inl rfl) (by simpa[Sl.l]using a)
 have w:s.l=iS P 0:=by rw[g3];simp[Sl.l,iS]
 have⟨c,g4,g5⟩:=Nv g2 (by rw[w,qK];exact a)
 have⟨r,z,C,G⟩:=KF B a P.events.l 0 s rfl g2 w;refine⟨(0,c)::r,?_,by simp[C],λi x u=>?_⟩
 .unfold kq;have b:(qM P.vars.l.length&&(qM P.events.l.length&&P.events.l.all λe=>qM e.assign.l.length))=true:=by
   simp only[ζh,all_eq_true,qM,decide_eq_true_eq];exact⟨Zaa,Zaa,λe h=>by have:=D e h;omega⟩
  rw[if_pos b,g1,ζb,g4,ζb];rw[show((0:Nat):Int)=0 from rfl]at z;rw[z];rfl
 cases i with
 |zero=>simp only[List.getElem?_cons_zero,ζa]at u;subst u;exact⟨rfl,by rw[g5,w]⟩|succ i=>rw[List.getElem?_cons_succ]at u;have⟨I,J⟩:=G i x u;exact⟨by rw[I];congr 1;omega,by rw[J];congr 1;omega⟩
theorem TT{P:bR}(D:wD P)(b:P.vars.l.length<1073741824)(G:P.events.l.length<1073741824)(J:∀e∈P.events.l,e.assign.l.length<1073741824){k:Nat}(f:k<=P.events.l.length):
 ∃x,gA P (k:Int)=some x/\x.l=iS P k:=by
 have⟨r,c,O,C⟩:=Ij D b G J;have key:∀(a:aX (Int×Zg))(i:Nat)(q:Zg),r.drop i=a->i<=k->∃x,(mb (λ(x:Int×(Zg))(q:Zg)=>gA.kV P k x q) a q).bind (Fw.sZ (λq=>some Sl.nil) (λe=>elim e) (λe=>some e))=some x/\x.l=iS P k:=by intro a;induction a with|nil=>intro i q hd d;have:r.length<=i:=(by simpa using hd);omega|cons y a I=>intro i q hd d;have u:i<r.length:=Zaa;have e2:=List.drop_eq_getElem_cons u;rw[e2]at hd;simp only[List.cons.injEq]at hd;have⟨B,L⟩:=C i y (by rw[ζd u,hd.1]);by_cases w:i=k;subst w;refine⟨y.2,?_,L⟩;simp only[mb,gA.kV,B,beq_self_eq_true,bg,if_true,ζb,Fw.sZ];have z:(y.1==(k:Int))=false:=(by rw[B];simp;omega);have⟨x,g1,g2⟩:=I (i+1) .nil hd.2 Zaa;refine⟨x,?_,g2⟩;simp only[mb,gA.kV,z,bg,Bool.false_eq_true,if_false,ζb];exact g1
 have⟨x,g1,g2⟩:=key r 0 .nil rfl (zero_le _);refine⟨x,?_,g2⟩;unfold gA o6 gA.E1;simp only[ζb,c];exact g1
mutual
def Pred.sz:T'->Nat
 |⟨_,_,_,_,_,l⟩=>1+Pred.szS l
def Pred.szS:Sl T'->Nat
 |.nil=>0|.emp=>0|.row l=>Pred.nY l|.part l=>Pred.nY l
def Pred.nY:aX T'->Nat
 |[]=>0|x::r=>Pred.sz x+Pred.nY r
end
mutual
def Pred.dp:T'->Nat
 |⟨_,_,_,_,_,l⟩=>1+Pred.dpS l
def Pred.dpS:Sl T'->Nat
 |.nil=>0|.emp=>0|.row l=>Pred.vk l|.part l=>Pred.vk l
def Pred.vk:aX T'->Nat
 |[]=>0|x::r=>max (Pred.dp x) (Pred.vk r)
end
mutual
def Pred.gQ(f:T'->X'):T'->X'
 |⟨a,b,c,d,e,l⟩=>f ⟨a,b,c,d,e,l⟩&&Pred.Pm f l
def Pred.Pm(f:T'->X'):Sl T'->X'
 |.nil=>true|.emp=>true|.row l=>Pred.He f l|.part l=>Pred.He f l
def Pred.He(f:T'->X'):aX T'->X'
 |[]=>true|x::r=>Pred.gQ f x&&Pred.He f r
end
theorem Pred.abC(s:Sl T'):Pred.szS s=Pred.nY s.l:=by cases s<;>simp[Pred.szS,Pred.nY,Sl.l]
theorem Pred.abH(s:Sl T'):Pred.dpS s=Pred.vk s.l:=by cases s<;>simp[Pred.dpS,Pred.vk,Sl.l]
theorem Pred.KE(f:T'->X'):∀l:aX T',Pred.He f l=l.all (Pred.gQ f)
 |[]=>by simp[Pred.He]|x::r=>by simp only[Pred.He,all_cons,Pred.KE f r]
theorem Pred.aa4(f:T'->X')(s:Sl T'):Pred.Pm f s=s.l.all (Pred.gQ f):=by cases s<;>simp[Pred.Pm,Pred.KE,Sl.l]
theorem Pred.Wg(p:T'):p.sz=1+Pred.nY p.l.l:=by cases p;simp only[Pred.sz,Pred.abC]
theorem Pred.Gw(p:T'):p.dp=1+Pred.vk p.l.l:=by cases p;simp only[Pred.dp,Pred.abH]
theorem Pred.lU(f:T'->X')(p:T'):p.gQ f=(f p&&p.l.l.all (Pred.gQ f)):=by cases p;simp only[Pred.gQ,Pred.aa4]
theorem Pred.NO:∀{l:aX T'}{q:T'},q∈l->q.dp<=Pred.vk l
 |x::r,q,h=>by simp only[Pred.vk];rcases mem_cons.1 h with rfl|h;omega;have:=Pred.NO h;omega
theorem Pred.rV{p q:T'}(h:q∈p.l.l):q.dp<p.dp:=by rw[p.Gw];have:=Pred.NO h;omega
theorem Pred.vc(p:T'):0<p.dp:=by rw[p.Gw];omega
theorem Pred.ind{M:T'->Prop}(h:∀p,(∀q∈p.l.l,M q)->M p)(p:T'):M p:=by
 have key:∀n p,p.dp<=n->M p:=by intro n;induction n with|zero=>intro p u;have:=p.vc;omega|succ n w=>intro p u;exact h p λq z=>w q (by have:=Pred.rV z;omega)
 exact key _ p (le_refl _)
abbrev Pred.Sm(p:Pred):Prop:=p.gQ (λq=>decide (q.l.l.length<1073741824))=true
theorem Pred.Sm.len{p:T'}(h:p.Sm):p.l.l.length<1073741824:=by unfold Pred.Sm at h;rw[p.lU]at h;simp only[ζh,decide_eq_true_eq]at h;exact h.1
theorem Pred.Sm.vz{p q:T'}(h:p.Sm)(B:q∈p.l.l):q.Sm:=by unfold Pred.Sm at h;rw[p.lU]at h;simp only[ζh,all_eq_true]at h;exact h.2 q B
theorem NH{f:T'->aY X'}{g:T'->X'}(p:T')(B:p.Sm):p.gQ (λq=>f q==some (g q))=true->∀n,p.dp<=n->dD (λr(z:T')=>jY z f r) n p=some (p.gQ g):=by induction p using Pred.ind with|h p C=>intro u n D;rw[p.lU]at u;simp only[ζh,all_eq_true,beq_iff_eq]at u;have hd:=p.Gw;rw[jC Zaa];show jY p f _=_;unfold jY;rw[u.1,ζb,p.lU];cases g p with|false=>rfl|true=>rw[bt,CU _ B.len,Bb (f:=λq=> !q.gQ g) (λq w=>by have:=C q w (B.vz w) (u.2 q w) (n-1) (by have:=Pred.rV w;omega);show(dD (λr(z:T')=>jY z f r) (n-1) q).bind _=_;rw[this];rfl)];simp only[Option.map_some,ζb,Bool.true_and];congr 1;rw[Bool.eq_iff_iff];simp
theorem xw{step:Int->aY (Fw Int Unit Unit)}{p:T'}{g:T'->X'}(D:p.l.l.length<1073741824)(h:∀(i:Nat)(a:i<p.l.l.length),step i=some (if g p.l.l[i]then .n ((i+1:Nat):Int)else .r ()))(B:step p.l.l.length=some (.x ())):
 (bF (λq:Int=>step q) 0).bind (Fw.elim (λ_=>some true) (λ_=>some false))=some (p.l.l.all g):=by
 refine Wp.eq ?_;refine dU p.l.l.length (λn s=>s=(n:Int)/\(p.l.l.take n).all g=true) ⟨rfl,rfl⟩ ?_ ?_
 .rintro i _ a ⟨rfl,u⟩;rw[h i a,bf]
  cases b:g p.l.l[i]with
  |true=>refine⟨rfl,?_⟩;rw[take_add_one,ζd a,List.all_append,u];simp[b]|false=>
   refine(bf _).2 ?_
   symm
   rw[List.all_eq_false];exact⟨_,getElem_mem a,by rw[b];simp⟩
 rintro _ ⟨rfl,u⟩;rw[B,bf];rw[take_length]at u;exact(bf _).2 u.symm
abbrev JZ(p:Pred):Bool:=toList p.name==toList ByteArray.empty
abbrev JG(p:Pred)(c:Int):Bool:=(len p.l==c)&&(!decide (p.n<0)&&(!decide (p.n>1125899906842624)&&((p.n==0||p.kind==1)&&(p.kind==2||(p.kind==3||(p.kind==4||(p.proc==0&&(p.peer==0&&JZ p))))))))
theorem Ym:∀k:_root_.Fin 22,1<=k.1->(b9.at wK ((k.1:Nat):Int)).isSome=true:=by decide
theorem Jg{k:Int}(a:1<=k)(B:k<22):∃c,b9.at wK k=some c:=by have g:=Ym ⟨k.toNat,Zaa⟩ Zac;simp only at g;rw[show((k.toNat:Nat):Int)=k from Zaa]at g;exact Option.isSome_iff_exists.1 g
theorem Uz:∀k:_root_.Fin 22,1<=k.1->b9.at wK ((k.1:Nat):Int)=mR ((k.1:Nat):Int)/\(mR ((k.1:Nat):Int)).isSome=true:=by decide
theorem OQ{k:Int}(a:1<=k)(B:k<22):∃c,b9.at wK k=some c/\mR k=some c:=by have⟨g1,g2⟩:=Uz ⟨k.toNat,Zaa⟩ Zac;simp only at g1 g2;rw[show((k.toNat:Nat):Int)=k from Zaa]at g1 g2;have⟨c,b⟩:=Option.isSome_iff_exists.1 g2;grind
theorem QU{k:Int}(h:k<1\/22<=k):mR k=some (-1):=by
 have c:(bg (decide (k>=1)) (some (decide (k<=4))) (some false):aY X')=some false:=by by_cases b:k>=1;rw[decide_eq_true b,bt,decide_eq_false Zaa];rw[decide_eq_false b];rfl
 have d:(bg (decide (k>=18)) (some (decide (k<=21))) (some false):aY X')=some false:=by grind
 have e:(bg (decide (k>=6)) (some (decide (k<=12))) (some false):aY X')=some false:=by grind
 have a:∀m:Int,1<=m->m<22->(k==m)=false:=λm b u=>by simp;omega
 unfold mR;rw[c,d,e,a 13 Zaa Zaa,a 14 Zaa Zaa,a 5 Zaa Zaa,a 15 Zaa Zaa,a 16 Zaa Zaa,a 17 Zaa Zaa];rfl
theorem Ht{p:T'}{c:Int}(f:1<=p.kind)(B:p.kind<22)(d:b9.at wK p.kind=some c):lZ p=some (JG p c):=by
 unfold lZ vJ JG JZ;rw[decide_eq_false (show¬p.kind<1 by omega),bA,ζb,decide_eq_false (show¬p.kind>=22 by omega),bA,d,ζb,ζb];generalize(len p.l==c)=e;generalize decide (p.n<0)=a;generalize decide (p.n>1125899906842624)=b;generalize(p.n==0)=z;generalize(p.kind==1)=k1;generalize(p.kind==2)=k2;generalize(p.kind==3)=k3;generalize(p.kind==4)=k4;generalize(p.proc==0)=d1;generalize(p.peer==0)=d2;generalize(toList p.name==toList ByteArray.empty)=d3
 cases e with
 |false=>rfl|true=>cases a with
  |true=>rfl|false=>cases b with
   |true=>rfl|false=>cases z<;>cases k1<;>first|rfl|(cases k2<;>cases k3<;>cases k4<;>cases d1<;>cases d2<;>cases d3<;>rfl)
theorem EJ{p:T'}(h:p.kind<1\/22<=p.kind):lZ p=some false:=by
 unfold lZ;have:(bg (decide (p.kind<1)) (some true) (some (decide (p.kind>=22))):aY X')=some true:=by by_cases a:p.kind<1;rw[decide_eq_true a];rfl;rw[decide_eq_false a,bA,decide_eq_true Zaa]
 rw[this];rfl
theorem UQ{p:T'}{c:Int}(i:1<=p.kind)(B:p.kind<22)(d:mR p.kind=some c)(r:T'->aY X'):gD p r=bg (JG p c) (fZ.W2 0 p r) (some false):=by
 unfold gD fZ.J1 JG JZ;rw[d,ζb,show(c==len p.l)=(len p.l==c)from Zac];have f:(bg (decide (p.kind<2)) (some true) (some (decide (p.kind>4))):aY X')=some (!(p.kind==2||(p.kind==3||p.kind==4))):=by by_cases g:p.kind<2;rw[decide_eq_true g,bt,show(p.kind==2)=false from by simp;omega,show(p.kind==3)=false from by simp;omega,show(p.kind==4)=false from by simp;omega];rfl;rw[decide_eq_false g,bA];congr 1;rw[Bool.eq_iff_iff];simp;omega
 have u:(p.n==0)=true->decide (p.n<0)=false/\decide (p.n>1125899906842624)=false:=λh=>by grind
 rw[f];generalize(len p.l==c)=e;generalize decide (p.n<0)=a at *;generalize decide (p.n>1125899906842624)=b at *;generalize(p.n==0)=z at *;generalize(p.kind==1)=k1;generalize(p.kind==2)=k2;generalize(p.kind==3)=k3;generalize(p.kind==4)=k4;generalize(p.proc==0)=d1;generalize(p.peer==0)=d2;generalize(toList p.name==toList ByteArray.empty)=d3
 cases e with
 |false=>rfl|true=>cases k1 with
  |true=>cases a with
   |true=>rfl|false=>cases b with
    |true=>rfl|false=>cases z<;>cases k2<;>cases k3<;>cases k4<;>cases d1<;>cases d2<;>cases d3<;>rfl
  |false=>cases z with
   |false=>cases a<;>cases b<;>rfl|true=>obtain⟨rfl,rfl⟩:=u rfl;cases k2<;>cases k3<;>cases k4<;>cases d1<;>cases d2<;>cases d3<;>rfl
def fB(p:T'):X':=(lZ p).getD false
theorem Xj(p:T'):lZ p=some (fB p):=by unfold fB;by_cases h:p.kind<1\/22<=p.kind;rw[EJ h];rfl;have⟨c,a⟩:=Jg (k:=p.kind) Zaa Zaa;rw[Ht Zaa Zaa a];rfl
theorem yx{p:T'}(h:fB p=true):1<=p.kind/\p.kind<22/\b9.at wK p.kind=some (len p.l):=by by_cases g:p.kind<1\/22<=p.kind;unfold fB at h;rw[EJ g]at h;cases h;have⟨c,a⟩:=Jg (k:=p.kind) Zaa Zaa;unfold fB at h;rw[Ht Zaa Zaa a]at h;grind
theorem TM(p:T')(r:T'->aY X'):gD p r=bg (fB p) (fZ.W2 0 p r) (some false):=by unfold fB;by_cases h:p.kind<1\/22<=p.kind;rw[EJ h];unfold gD;rw[QU h,ζb,show((-1:Int)==len p.l)=false from Zad];rfl;have⟨c,a,u⟩:=OQ (k:=p.kind) Zaa Zaa;rw[Ht Zaa Zaa a,UQ Zaa Zaa u];rfl
theorem QK(p:T')(B:p.Sm):∀n,p.dp<=n->dD (λr(z:T')=>gD z r) n p=some (p.gQ fB):=by induction p using Pred.ind with|h p u=>intro n C;have hd:=p.vc;rw[jC Zaa];have u:=λq w=>u q w (B.vz w) (n-1);show gD p (dD (λr(z:T')=>gD z r) (n-1))=_;generalize dD (λr(z:T')=>gD z r) (n-1)=R at u⊢;rw[TM,p.lU];cases fB p with|false=>rfl|true=>rw[bt,Bool.true_and];unfold fZ.W2;refine xw (g:=Pred.gQ fB) B.len (λi a=>?_) ?_;unfold fZ.bH;rw[fA a,bt,bz a,ζb,u _ (getElem_mem a) (by have:=Pred.rV (getElem_mem a);omega),ζb,cr i (by have:=B.len;omega)];cases Pred.gQ fB p.l.l[i]<;>rfl;unfold fZ.bH;rw[gw];rfl
def oF(p:T'):X':=decide (p.sz<=200)&&(decide (p.dp<=20)&&p.gQ fB)
abbrev sP(p:Pred)(d l:Nat):Bool:=decide (p.sz<=l)&&(decide (p.dp+d<=21)&&p.gQ fB)
abbrev w_(k:aX Pred)(d l:Nat):Bool:=decide (Pred.nY k<=l)&&(decide (Pred.vk k+d<=21)&&k.all (Pred.gQ fB))
theorem Xd(p:T')(U:p.Sm):∀(n d l:Nat),1<=n->22<=n+d->d<=21->1<=d->l<=200->
 ∃B:Int,dD (λr(z:T'×Int×Int)=>fc z.1 z.2.1 z.2.2 r) n (p,(d:Int),(l:Int))=some (sP p d l,B)/\(sP p d l=true->B=((l-p.sz:Nat):Int)):=by
 induction p using Pred.ind with
 |h p C=>
  intro n d l e T hd kA f;have G:=p.Wg;have I:=p.Gw;rw[jC Zaa]
  have C:=λq D=>C q D (U.vz D) (n-1)
  show∃B,fc p (d:Int) (l:Int) (dD (λr(z:T'×Int×Int)=>fc z.1 z.2.1 z.2.2 r) (n-1))=_/\_
  generalize dD (λr(z:T'×Int×Int)=>fc z.1 z.2.1 z.2.2 r) (n-1)=R at C⊢
  unfold fc;rw[fV _ Zaa Zaa,Xj]
  by_cases b:l=0
  .subst b;have w:sP p d 0=false:=by
    grind
   rw[w];exact⟨_,rfl,λh=>by cases h⟩
  rw[decide_eq_false (show¬((l:Int)-1<0)by omega),bA,ζb]
  by_cases g:20<d
  .have w:sP p d l=false:=by
    grind
   rw[w,decide_eq_true (show(d:Int)>20 by omega)]
   exact⟨_,rfl,λh=>by cases h⟩
  rw[decide_eq_false (show¬((d:Int)>20)by omega),bA,ζb]
  have W:=p.lU fB
  cases X:fB p with
  |false=>
   have w:sP p d l=false:=Zac
   rw[w];exact⟨_,rfl,λh=>by cases h⟩
  |true=>
   rw[ζb,show(!true)=false from rfl,bA,Hg U.len];have key:∀(k:aX T'),(∀q∈k,q∈p.l.l)->∀m:Nat,m<=200->∃m':Int,xJ (λx s=>jo x (d:Int) s R) k (m:Int)=some (!w_ k (d+1) m,m')/\(w_ k (d+1) m=true->m'=((m-Pred.nY k:Nat):Int)):=by intro k;induction k with|nil=>intro _ m _;exact⟨m,by simp[xJ,w_,Pred.nY,Pred.vk];omega,λ_=>by simp[Pred.nY]⟩|cons q k J=>intro a m Y;have⟨B,g1,g2⟩:=C q (a q Zab) (d+1) m Zaa Zaa Zaa Zaa Y;have e1:jo q (d:Int) (m:Int) R=some (!sP q (d+1) m,B):=(by unfold jo;rw[cr d Zaa,g1];rfl);simp only[xJ,e1,ζb];have u:w_ (q::k) (d+1) m=(sP q (d+1) m&&w_ k (d+1) (m-q.sz)):=(by rw[Bool.eq_iff_iff];simp only[w_,sP,Pred.nY,Pred.vk,ζh,all_cons];constructor;rintro⟨a1,a2,a3,a4⟩;have a1:=of_decide_eq_true a1;have a2:=of_decide_eq_true a2;exact⟨⟨decide_eq_true Zaa,decide_eq_true Zaa,a3⟩,decide_eq_true Zaa,decide_eq_true Zaa,a4⟩;rintro⟨⟨a1,a2,a3⟩,O,Q,Z⟩;have a1:=of_decide_eq_true a1;have a2:=of_decide_eq_true a2;have O:=of_decide_eq_true O;have Q:=of_decide_eq_true Q;exact⟨decide_eq_true Zaa,decide_eq_true Zaa,a3,Z⟩);cases w:sP q (d+1) m with|false=>rw[u,w];exact⟨B,rfl,λh=>by cases h⟩|true=>have⟨m',L,S⟩:=J (λx c=>a x (mem_cons_of_mem _ c)) (m-q.sz) Zaa;rw[u,w,Bool.true_and,g2 w];refine⟨m',by simpa using L,λh=>?_⟩;rw[S h];have:q.sz<=m:=(by have:=w;simp only[sP,ζh]at this;exact of_decide_eq_true this.1);congr 1;show m-q.sz-Pred.nY k=m-(q.sz+Pred.nY k);omega
   have⟨m',L,S⟩:=key p.l.l (λq D=>D) (l-1) Zaa
   rw[show((l:Int)-1)=((l-1:Nat):Int)from Zaa,L,ζb]
   have w:sP p d l=w_ p.l.l (d+1) (l-1):=by rw[Bool.eq_iff_iff];simp only[sP,w_,ζh,W,X,true_and,G,I];constructor;rintro⟨a1,a2,a3⟩;have a1:=of_decide_eq_true a1;have a2:=of_decide_eq_true a2;exact⟨decide_eq_true Zaa,decide_eq_true Zaa,a3⟩;rintro⟨a1,a2,a3⟩;have a1:=of_decide_eq_true a1;have a2:=of_decide_eq_true a2;exact⟨decide_eq_true Zaa,decide_eq_true Zaa,a3⟩
   refine⟨m',by rw[w];simp,λh=>?_⟩
   grind
theorem Bh{p:T'}(B:p.Sm):mV p=some (oF p):=by obtain⟨u,h,-⟩:=Xd p B 100000 1 200 Zaa Zaa Zaa Zaa Zaa;unfold mV sK;rw[show dD (λr(z:T'×Int×Int)=>fc z.1 z.2.1 z.2.2 r) 100000 (p,(1:Int),(200:Int))=_ from h];simp only[ζb];congr 1;rw[Bool.eq_iff_iff];simp only[oF,sP,ζh];grind
theorem VD{l:aX T'}{i:Nat}(h:i<l.length):Pred.nY (l.take (i+1))=Pred.nY (l.take i)+l[i].sz:=by
 have key:∀(l:aX T')(i:Nat)(h:i<l.length),Pred.nY (l.take (i+1))=Pred.nY (l.take i)+l[i].sz:=by intro l;induction l with|nil=>grind|cons x r u=>intro i h;cases i with|zero=>simp[Pred.nY]|succ i=>have:=u i Zac;simp only[List.take_succ_cons,Pred.nY,List.getElem_cons_succ]at this⊢;omega
 grind
theorem Ve{l:aX T'}{i:Nat}(h:i<l.length):Pred.vk (l.take (i+1))=max (Pred.vk (l.take i)) l[i].dp:=by
 have key:∀(l:aX T')(i:Nat)(h:i<l.length),Pred.vk (l.take (i+1))=max (Pred.vk (l.take i)) l[i].dp:=by intro l;induction l with|nil=>grind|cons x r u=>intro i h;cases i with|zero=>simp[Pred.vk]|succ i=>have:=u i Zac;simp only[List.take_succ_cons,Pred.vk,List.getElem_cons_succ]at this⊢;omega
 grind
theorem MR(l:aX T')(i:Nat):Pred.nY (l.take i)<=Pred.nY l:=by
 induction l generalizing i with
 |nil=>simp|cons x r u=>cases i with
  |zero=>simp[Pred.nY]|succ i=>simp only[List.take_succ_cons,Pred.nY];grind
theorem count_eq(p:T')(G:p.Sm):∀(n l:Nat),l+1<=n->l<=200->dD (λr(z:T'×Int)=>iY z.1 z.2 r) n (p,(l:Int))=some ((min p.sz (l+1):Nat):Int):=by
 induction p using Pred.ind with|h p C=>
  intro n l O Q;have J:=p.Wg;rw[jC Zaa];have C:=λq I=>C q I (G.vz I) (n-1);show iY p (l:Int) (dD (λr(z:T'×Int)=>iY z.1 z.2 r) (n-1))=_;generalize dD (λr(z:T'×Int)=>iY z.1 z.2 r) (n-1)=R at C⊢;unfold iY ki.W1;refine Wp.eq ?_;refine fE (λs:Int×Int=>∃i:Nat,s.2=i/\i<=p.l.l.length/\s.1=((min (1+Pred.nY (p.l.l.take i)) (l+1):Nat):Int)) (λs=>p.l.l.length-s.2.toNat) ⟨0,rfl,zero_le _,by simp[Pred.nY]⟩ ?_;rintro⟨c,_⟩ ⟨i,rfl,b,a⟩;simp only at a;subst a;unfold ki.bh;by_cases u:i<p.l.l.length;rw[fA u,bt,ζb];by_cases L:min (1+Pred.nY (p.l.l.take i)) (l+1)<=l;have w:min (1+Pred.nY (p.l.l.take i)) (l+1)=1+Pred.nY (p.l.l.take i):=by omega
  have B:=getElem_mem u;rw[decide_eq_true (show(((min (1+Pred.nY (p.l.l.take i)) (l+1):Nat)):Int)<=(l:Int)by omega),bt,bz u,ζb,w,fV _ Zaa Zaa,
   show(l:Int)-((1+Pred.nY (p.l.l.take i):Nat):Int)=((l-(1+Pred.nY (p.l.l.take i)):Nat):Int)from Zaa,
   C _ B _ Zaa Zaa,ζb,bf,fV _ Zaa Zaa,cr i (by have:=G.len;omega)]
  refine⟨⟨i+1,rfl,Zaa,?_⟩,Zac⟩;simp only;rw[VD u];omega;rw[decide_eq_false (show¬(((min (1+Pred.nY (p.l.l.take i)) (l+1):Nat)):Int)<=(l:Int)by omega),bA,bf];refine(bf _).2 ?_;have:=MR p.l.l i;grind;have D:i=p.l.l.length:=Zaa;subst D;rw[show decide (((p.l.l.length:Nat):Int)<len p.l)=false from gw,bA,ζb,bA,bf];refine(bf _).2 ?_;grind
theorem Tj(p:T')(D:p.Sm):∀(n m:Nat),m+1<=n->m<=200->dD (λr(z:T'×Int)=>iT z.1 z.2 r) n (p,(m:Int))=some ((min p.dp (m+1):Nat):Int):=by induction p using Pred.ind with|h p B=>intro n m I J;have G:=p.Gw;rw[jC Zaa];have B:=λq C=>B q C (D.vz C) (n-1);show iT p (m:Int) (dD (λr(z:T'×Int)=>iT z.1 z.2 r) (n-1))=_;generalize dD (λr(z:T'×Int)=>iT z.1 z.2 r) (n-1)=R at B⊢;unfold iT;by_cases a:m=0;subst a;rw[show(((0:Nat):Int)==0)=true from rfl,bt];grind;rw[show((m:Int)==0)=false from Zad,bA];unfold kF.W1;refine Wp.eq ?_;refine dU p.l.l.length (λi s=>s.2=(i:Int)/\s.1=((min (Pred.vk (p.l.l.take i)) m:Nat):Int)) ⟨rfl,by simp[Pred.vk]⟩ ?_ ?_;rintro i ⟨c,_⟩ u ⟨e1,e2⟩;simp only at e1 e2;subst e1 e2;have w:=getElem_mem u;unfold kF.bh;rw[fA u,bt,bz u,ζb,fV _ Zaa Zaa,show((m:Int)-1)=((m-1:Nat):Int)from Zaa,B _ w _ Zaa Zaa,ζb,bf,cr i (by have:=D.len;omega)];refine⟨rfl,?_⟩;simp only;rw[Ve u];grind;rintro⟨c,_⟩ ⟨e1,e2⟩;simp only at e1 e2;subst e1 e2;unfold kF.bh;rw[gw,bA,bf];refine(bf _).2 ?_;rw[take_length,cr _ Zaa];omega
theorem AZ{p:T'}(B:p.Sm):oS p=some (oF p):=by unfold oS pF ki kF fZ;rw[show dD (λr(z:T'×Int)=>iY z.1 z.2 r) 100000 (p,(200:Int))=_ from count_eq p B 100000 200 Zaa Zaa,ζb,ζb];unfold oF;by_cases a:p.sz<=200;rw[decide_eq_true a,if_neg Zaa,decide_eq_true Zaa,bt,show dD (λr(z:T'×Int)=>iT z.1 z.2 r) 100000 (p,(21:Int))=_ from Tj p B 100000 21 Zaa Zaa,ζb,ζb];by_cases u:p.dp<=20;rw[decide_eq_true u,decide_eq_true Zaa,bt,QK p B 100000 Zaa];rfl;rw[decide_eq_false u,decide_eq_false Zaa];rfl;rw[decide_eq_false a,decide_eq_false Zac];rfl
section
variable{t:Z4}
abbrev uq(t:Trace)(p:Int):Bool:=decide (p>=0)&&decide (p<len t.procs)
def ET(t:Z4)(p:Int)(name:U'):X':=match idx t.procs p with
 |some P=>P.vars.l.any λv=>toList v.name==toList name|none=>false
def qy(t:Z4)(q:T'):X':=if q.kind==2 then uq t q.proc&&(q.peer==0&&ET t q.proc q.name)else if q.kind==3 then uq t q.proc&&(q.peer==0&&JZ q)else if q.kind==4 then uq t q.proc&&(uq t q.peer&&(!(q.proc==q.peer)&&JZ q))else true
theorem NI(p:Int):lK t p=some (uq t p):=by unfold lK uq;cases decide (p>=0)<;>rfl
theorem V9(p:Int):pz t p=some (uq t p):=by unfold pz uq;cases decide (p>=0)<;>rfl
theorem xx{p:Int}(h:uq t p=true):∃n:Nat,p=n/\n<t.procs.l.length:=by simp only[uq,ζh]at h;have a:=of_decide_eq_true h.1;have u:=of_decide_eq_true h.2;exact⟨p.toNat,Zaa,Zac⟩
theorem Tr(a:Small t){p:Int}(h:uq t p=true)(name:U'):s7 t p name=some (ET t p name):=by obtain⟨n,rfl,u⟩:=xx h;unfold s7 ET;rw[bz u,ζb,D6 (p:=λz=>pY z name) (f:=λv=>toList v.name==toList name) (λv _=>rfl) (a.2 _ (getElem_mem u)).2.1];rfl
theorem HA(b:Small t){p:Int}(h:uq t p=true)(name:U'):Wp (jK t p name) λi=>(∃(n k:Nat)(P:bR)(v:Var),p=n/\t.procs.l[n]?=some P/\i=k/\P.vars.l[k]?=some v/\(toList v.name==toList name)=true/\(∀(j:Nat)(w:Var),j<k->P.vars.l[j]?=some w->(toList w.name==toList name)=false)/\ET t p name=true)\/i=-1/\ET t p name=false:=by
 obtain⟨n,rfl,z⟩:=xx h;have C:=ζd z;have D:=(b.2 _ (getElem_mem z)).2.1;unfold jK jK.W1;have u:ET t (n:Int) name=t.procs.l[n].vars.l.any λv=>toList v.name==toList name:=by grind[ET,bz]
 refine dU t.procs.l[n].vars.l.length (λi s=>s=(i:Int)/\∀(j:Nat)(w:Var),j<i->t.procs.l[n].vars.l[j]?=some w->(toList w.name==toList name)=false) ⟨rfl,λj w G=>absurd G Zaa⟩ ?_ ?_;rintro i _ a ⟨rfl,B⟩;unfold jK.bh;rw[bz z,ζb,fA a,bt,ζb,bz a,ζb];cases I:toList t.procs.l[n].vars.l[i].name==toList name with|true=>rw[bt,bf];refine(bf _).2 (.inl ⟨n,i,_,_,rfl,C,rfl,ζd a,I,B,?_⟩);rw[u,any_eq_true];grind|false=>rw[bA,bf,cr i Zaa];grind
 rintro _ ⟨rfl,B⟩;unfold jK.bh;rw[bz z,ζb,gw,bA,bf];refine(bf _).2 (.inr ⟨rfl,?_⟩);rw[u,List.any_eq_false];grind[mem_iff_getElem?]
theorem Yn(a:Small t)(q:T'):lJ q t=some (qy t q):=by
 unfold lJ qy JZ;rw[NI,NI]
 cases q.kind==2 with
 |true=>rw[bt,if_pos rfl,ζb];cases h:uq t q.proc with|false=>rfl|true=>rw[Tr a h];cases q.peer==0<;>rfl
 |false=>rw[bA,if_neg Zab];cases q.kind==3 with|true=>rw[bt,if_pos rfl];cases uq t q.proc<;>cases q.peer==0<;>cases(toList q.name==toList ByteArray.empty)<;>rfl|false=>rw[bA,if_neg Zab];cases q.kind==4 with|true=>rw[bt,if_pos rfl];cases uq t q.proc<;>cases uq t q.peer<;>cases(q.proc==q.peer)<;>cases(toList q.name==toList ByteArray.empty)<;>rfl|false=>rfl
theorem Y2(c:Small t)(q:T')(r:Z4×T'->aY X'):gm t q r=bg (qy t q) (gL.W1 0 t q r) (some false):=by
 unfold gm qy JZ;rw[V9,V9];have a:(q.kind==2)=true->(q.kind==3)=false/\(q.kind==4)=false:=λh=>by have:q.kind=2:=(by simpa using h);rw[this];exact⟨rfl,rfl⟩
 have u:(q.kind==3)=true->(q.kind==4)=false:=λh=>by have:q.kind=3:=(by simpa using h);rw[this];rfl
 cases z:q.kind==2 with
 |true=>have⟨w,B⟩:=a z;rw[bt,if_pos rfl,ζb,w,B];cases h:uq t q.proc with|false=>rfl|true=>rw[bt,ζb];cases q.peer==0 with|false=>rfl|true=>have⟨i,d,e⟩:=HA c h q.name;rw[show(!true)=false from rfl,bA,d,ζb];rcases e with⟨n,k,P,v,-,-,rfl,-,-,-,b⟩|⟨rfl,b⟩;rw[b,decide_eq_false (show¬((k:Nat):Int)<0 by omega)];rfl;rw[b];rfl
 |false=>rw[bA,if_neg Zab,ζb,bA];cases w:q.kind==3 with|true=>rw[bt,if_pos rfl,u w];cases uq t q.proc<;>cases q.peer==0<;>cases(toList q.name==toList ByteArray.empty)<;>rfl|false=>rw[bA,if_neg Zab,ζb,bA];cases q.kind==4 with|true=>rw[bt,if_pos rfl];cases uq t q.proc<;>cases uq t q.peer<;>cases(q.proc==q.peer)<;>cases(toList q.name==toList ByteArray.empty)<;>rfl|false=>rfl
theorem JS{f:T'->aY X'}{g:T'->X'}(h:∀q,f q=some (g q)){p:T'}(B:p.Sm)(hd:p.dp<=100000):oP p f=some (p.gQ g):=by refine NH p B ?_ _ hd;induction p using Pred.ind with|h p w=>rw[p.lU,ζh,all_eq_true];exact⟨by rw[h];simp,λq u=>w q u (B.vz u) (by have:=Pred.rV u;omega)⟩
theorem Kc(a:Small t){p:T'}(B:p.Sm)(hd:p.dp<=100000):qa t p=some (p.gQ (qy t)):=by unfold qa;rw[JS (g:=qy t) (λq=>Yn a q) B hd];rfl
theorem K7(b:Small t)(p:T')(B:p.Sm):∀n,p.dp<=n->dD (λr(z:Z4×T')=>gm z.1 z.2 r) n (t,p)=some (p.gQ (qy t)):=by induction p using Pred.ind with|h p u=>intro n C;have hd:=p.vc;rw[jC Zaa];have u:=λq w=>u q w (B.vz w) (n-1);show gm t p (dD (λr(z:Z4×T')=>gm z.1 z.2 r) (n-1))=_;generalize dD (λr(z:Z4×T')=>gm z.1 z.2 r) (n-1)=R at u⊢;rw[Y2 b,p.lU];cases qy t p with|false=>rfl|true=>rw[bt,Bool.true_and];unfold gL.W1;refine xw (g:=Pred.gQ (qy t)) B.len (λi a=>?_) ?_;unfold gL.bh;rw[fA a,bt,bz a,ζb,u _ (getElem_mem a) (by have:=Pred.rV (getElem_mem a);omega),ζb,cr i (by have:=B.len;omega)];cases Pred.gQ (qy t) p.l.l[i]<;>rfl;unfold gL.bh;rw[gw];rfl
abbrev rE(k:Int):Int:=if k<=8 then 1 else 2
abbrev yb(k:Int):Int:=if k<=12 then 1 else 2
def rY(q:T'):X':=q.l.l.all λk=>rE k.kind==yb q.kind
theorem CH(k:Int):mU k=some (rE k):=by unfold mU rE;by_cases h:k<=8;rw[decide_eq_true h,if_pos h];rfl;rw[decide_eq_false h,if_neg h];rfl
theorem ES(q:T'):qW q=some (rE q.kind):=by unfold qW rE;by_cases h:q.kind<=8;rw[decide_eq_true h,if_pos h];rfl;rw[decide_eq_false h,if_neg h];rfl
theorem XX(k:Int):tQ k=some (yb k):=by unfold tQ yb;by_cases h:k<=12;rw[decide_eq_true h,if_pos h];rfl;rw[decide_eq_false h,if_neg h];rfl
theorem Xk{q:T'}(B:q.l.l.length<1073741824):jX q=some (rY q):=by unfold jX rY;rw[CU _ B,Bb (f:=λk=> !(rE k.kind==yb q.kind)) (λk _=>by unfold nM;rw[CH,XX];rfl)];simp only[Option.map_some,ζb];congr 1;rw[Bool.eq_iff_iff];simp
theorem HW{p:T'}(B:p.Sm)(hd:p.dp<=100000):ql p=some (p.gQ rY):=by
 unfold ql;have:p.gQ (λq=>(λz=>jX z) q==some (rY q))=true:=by clear hd;induction p using Pred.ind with|h p w=>rw[p.lU,ζh,all_eq_true];exact⟨by show(jX p==some (rY p))=true;rw[Xk B.len];simp,λq u=>w q u (B.vz u)⟩
 unfold oP;rw[NH p B this _ hd];rfl
theorem Ib(p:T')(G:p.Sm):p.gQ fB=true->∀n,p.dp<=n->dD (λr(z:T')=>jN z r) n p=some (p.gQ rY):=by induction p using Pred.ind with|h p D=>intro I n O;have hd:=p.vc;rw[p.lU,ζh,all_eq_true]at I;rw[jC Zaa];have D:=λq J=>D q J (G.vz J) (I.2 q J) (n-1);show jN p (dD (λr(z:T')=>jN z r) (n-1))=_;generalize dD (λr(z:T')=>jN z r) (n-1)=R at D⊢;(unfold jN gE.W1;have u:p.l.l≠[]->yb p.kind=if p.kind>=15 then 2 else 1:=λB=>by have⟨k1,k2,k3⟩:=yx I.1;by_cases h:p.kind=13\/p.kind=14;have c:b9.at wK p.kind=some 0:=(by rcases h with h|h<;>(rw[h];rfl));rw[c]at k3;have:p.l.l.length=0:=(by simpa[len]using(Option.some.inj k3).symm);exact absurd (List.length_eq_zero_iff.1 this) B;unfold yb;split<;>split<;>omega);have C:p.gQ rY=p.l.l.all λk=>(rE k.kind==yb p.kind)&&Pred.gQ rY k:=(by rw[p.lU];unfold rY;rw[Bool.eq_iff_iff];simp only[ζh,all_eq_true];exact⟨λh k a=>⟨h.1 k a,h.2 k a⟩,λh=>⟨λk a=>(h k a).1,λk a=>(h k a).2⟩⟩);rw[C];refine xw (g:=λk=>(rE k.kind==yb p.kind)&&Pred.gQ rY k) G.len (λi b=>?_) ?_;have B:p.l.l≠[]:=λh=>(by rw[h]at b;simp at b);have L:∀w:Int,gE.J2 (i:Int) w p R=some (if(rE p.l.l[i].kind==w)&&Pred.gQ rY p.l.l[i]then .n ((i+1:Nat):Int)else .r ()):=λw=>(by unfold gE.J2;rw[bz b,ζb,ES,ζb,ζb,D _ (getElem_mem b) (by have:=Pred.rV (getElem_mem b);omega),cr i (by have:=G.len;omega)];cases(rE p.l.l[i].kind==w)<;>cases Pred.gQ rY p.l.l[i]<;>rfl);unfold gE.bh;rw[fA b,bt,L,L,u B];by_cases h:p.kind>=15;rw[decide_eq_true h,if_pos h];rfl;rw[decide_eq_false h,if_neg h];rfl;unfold gE.bh;rw[gw];rfl
def vo(q:T'):X':=decide (q.kind>=18)&&decide (q.kind<=21)
theorem L6{p:T'}(B:p.Sm):p8 p=some (oF p&& !p.gQ λq=> !vo q):=by unfold p8;rw[Bh B,ζb];cases u:oF p with|false=>rfl|true=>have hd:p.dp<=20:=(by simp only[oF,ζh]at u;exact of_decide_eq_true u.2.1);rw[bt,JS (g:=λq=> !vo q) (λq=>by unfold nV tu vo;cases decide (q.kind>=18)<;>rfl) B Zaa];rfl
theorem K6(p:T')(B:p.Sm):∀n,p.dp<=n->dD (λr(z:T')=>ig z r) n p=some (!p.gQ λq=> !vo q):=by induction p using Pred.ind with|h p u=>intro n G;have hd:=p.vc;rw[jC Zaa];have u:=λq C=>u q C (B.vz C) (n-1);show ig p (dD (λr(z:T')=>ig z r) (n-1))=_;generalize dD (λr(z:T')=>ig z r) (n-1)=R at u⊢;unfold ig;rw[show(bg (decide (p.kind>=18)) (some (decide (p.kind<=21))) (some false):aY X')=some (vo p)from by unfold vo;cases decide (p.kind>=18)<;>rfl,ζb,p.lU];cases vo p with|true=>rfl|false=>rw[bA];unfold fT.W1;have key:(bF (λq:Int=>fT.bh p q R) 0).bind (Fw.elim (λ_=>some true) (λ_=>some false))=some (p.l.l.all (Pred.gQ λq=> !vo q)):=(by refine xw (g:=Pred.gQ λq=> !vo q) B.len (λi a=>?_) ?_;unfold fT.bh;rw[fA a,bt,bz a,ζb,u _ (getElem_mem a) (by have:=Pred.rV (getElem_mem a);omega),ζb,cr i (by have:=B.len;omega)];cases Pred.gQ (λq=> !vo q) p.l.l[i]<;>rfl;unfold fT.bh;rw[gw];rfl);cases D:bF (λq:Int=>fT.bh p q R) 0 with|none=>rw[D]at key;cases key|some w=>rw[D]at key;cases w with|n s=>exact elim s|x e=>simp only[ζb,Fw.elim,ζa]at key⊢;rw[<-key];rfl|r e=>simp only[ζb,Fw.elim,ζa]at key⊢;rw[<-key];rfl
theorem Kz{p:T'}(B:p.Sm):rL p=some (oF p&& !p.gQ λq=> !vo q):=by unfold rL fT;rw[AZ B,ζb];cases u:oF p with|false=>rfl|true=>have hd:p.dp<=20:=(by simp only[oF,ζh]at u;exact of_decide_eq_true u.2.1);rw[bt,K6 p B 100000 Zaa];rfl
end
theorem wD.of{t:Z4}(B:Ok t){p:Nat}{P:bR}(D:t.procs.l[p]?=some P):wD P:=by
 intro e C a G;have⟨k,c⟩:=mem_iff_getElem?.1 C;have⟨i,b⟩:=mem_iff_getElem?.1 G;have h:=B.f_ p k P e D c;unfold pZ at h;have w:i<e.assign.l.length:=by apply byContradiction;intro J;rw[getElem?_eq_none Zaa]at b;cases b
 have I:oJ (nv P e) 0 e.assign.l.length=0:=by split at h;split at h;cases h;split at h;cases h;exact h;cases h
 have u:=(IP (g:=nv P e) (n:=e.assign.l.length) (m:=e.assign.l.length) (k:=0) Zaa).1 I i (zero_le _) w;unfold nv at u;rw[b]at u;dsimp only at u;by_cases z:(decide (0<=a.var)&&decide (a.var<P.vars.l.length))=true;simpa using z;rw[Bool.not_eq_true]at z;rw[z]at u;simp only[PX]at u;cases u
theorem ab_{t:Z4}{A:b9 200 bB}(b:Small t)(f:cG t=some true)(e:VT t)(g:fR t (bL t) A){c:Zg}(d:Cons t A c.l):
 Wp (jH t c) λr=>r.2=0/\r.1.l.length=t.procs.l.length/\∀(p:Nat)(P:bR)(a:Int),t.procs.l[p]?=some P->c.l[p]?=some a->∃x,r.1.l[p]?=some x/\x.l=iS P a.toNat:=by
 have I:=d.1.1;unfold jH;rw[eA];refine(M8 b f e g c).mono λr i=>?_
 rw[i.zero.2 d,show((0:Int)==0)=true from rfl,bt];unfold jH.W1;refine dU c.l.length (λn s=>s.2=(n:Int)/\s.1.l.length=n/\∀(p:Nat)(P:bR)(a:Int),p<n->t.procs.l[p]?=some P->c.l[p]?=some a->∃x,s.1.l[p]?=some x/\x.l=iS P a.toNat) ⟨rfl,rfl,λp P a h=>absurd h Zaa⟩ ?_ ?_
 .rintro n ⟨o,_⟩ u ⟨e1,e2,e3⟩;simp only at e1 e2 e3;subst e1;have J:n<t.procs.l.length:=by omega
  have w:=b.2 _ (getElem_mem J);have D:=ζd J;have C:=ζd u;have⟨a0,a1⟩:=d.1.2 n _ _ C D;have T:=wD.of e.ok D;have⟨x,S,L⟩:=TT T w.2.1 w.1 w.2.2.2.2 (k:=c.l[n].toNat) Zaa
  rw[show((c.l[n].toNat:Nat):Int)=c.l[n]from Zaa]at S
  have j:=b.1;unfold jH.bh;rw[fA u,bt,bz u,ζb,bz J,ζb,S,ζb];have G:fu o (x:Zg)=some (.row (o.l++[x])):=by unfold fu;rw[if_pos Zaa]
  rw[G,ζb,bf,cr n Zaa]
  refine⟨rfl,by simp[Sl.l];exact e2,λp P a h z B=>?_⟩
  show∃y,(o.l++[x])[p]?=some y/\_
  by_cases O:p=n
  .subst O;rw[D]at z;rw[C]at B;cases z;cases B;exact⟨x,by rw[List.getElem?_append_right Zaa];simp[e2],L⟩
  have⟨y,U,Q⟩:=e3 p P a Zaa z B
  exact⟨y,by rw[List.getElem?_append_left Zaa];exact U,Q⟩
 rintro⟨o,_⟩ ⟨e1,e2,e3⟩;simp only at e1 e2 e3;subst e1;unfold jH.bh;rw[show decide ((c.l.length:Int)<len c)=false from gw,bA,bf];refine(bf _).2 ⟨rfl,by rw[e2,I],λp P a D C=>e3 p P a ?_ D C⟩
 apply byContradiction;intro W;rw[getElem?_eq_none Zaa]at C;cases C
section
variable{P:T'}{t:Z4}
end
def qF(l:Rd)(m:Int):Prop:=m∈l/\∀x∈l,m<=x
def isMax(l:Rd)(m:Int):Prop:=m∈l/\∀x∈l,x<=m
theorem qF.one{l:Rd}{a b:Int}(h:qF l a)(g:qF l b):a=b:=by have:=h.2 b g.1;have:=g.2 a h.1;omega
theorem isMax.one{l:Rd}{a b:Int}(h:isMax l a)(g:isMax l b):a=b:=by have:=h.2 b g.1;have:=g.2 a h.1;omega
theorem qF.snoc{l:Rd}{a x:Int}(h:qF l a):qF (l++[x]) (if x<a then x else a):=by have⟨b,w⟩:=h;split;refine⟨Zab,λy u=>?_⟩;grind;refine⟨mem_append_left _ b,λy u=>?_⟩;grind
theorem isMax.snoc{l:Rd}{a x:Int}(h:isMax l a):isMax (l++[x]) (if x>a then x else a):=by have⟨b,w⟩:=h;split;refine⟨Zab,λy u=>?_⟩;grind;refine⟨mem_append_left _ b,λy u=>?_⟩;grind
theorem Q1{s:Zg}(h:0<s.l.length)(B:s.l.length<1073741824):Wp (dA s) λm=>qF s.l m:=by
 unfold dA dA.J1 dA.W2;rw[decide_eq_false (show¬len s<1 by grind),bA,show idx s 0=some s.l[0]from bz (i:=0) h,ζb];refine dU (s.l.length-1) (λn q=>q.2=((n+1:Nat):Int)/\qF (s.l.take (n+1)) q.1) ⟨rfl,?_⟩ ?_ ?_;rw[take_add_one,ζd h];exact⟨Zab,λx z=>Zac⟩;rintro n ⟨m,_⟩ C ⟨rfl,w⟩;have u:n+1<s.l.length:=by omega
 unfold dA.bH;rw[fA u,bt,bz u,ζb,bf,cr _ Zaa];refine⟨rfl,?_⟩;rw[take_add_one,ζd u];exact w.snoc;rintro⟨m,_⟩ ⟨rfl,w⟩;unfold dA.bH;rw[show s.l.length-1+1=s.l.length from Zaa,gw,bA,bf];rw[show s.l.length-1+1=s.l.length from Zaa,take_length]at w;exact(bf _).2 w
theorem QV{s:Zg}(h:0<s.l.length)(B:s.l.length<1073741824):Wp (fD s) λm=>isMax s.l m:=by
 unfold fD fD.J1 fD.W2;rw[decide_eq_false (show¬len s<1 by grind),bA,show idx s 0=some s.l[0]from bz (i:=0) h,ζb];refine dU (s.l.length-1) (λn q=>q.2=((n+1:Nat):Int)/\isMax (s.l.take (n+1)) q.1) ⟨rfl,?_⟩ ?_ ?_;rw[take_add_one,ζd h];exact⟨Zab,λx z=>Zac⟩;rintro n ⟨m,_⟩ C ⟨rfl,w⟩;have u:n+1<s.l.length:=by omega
 unfold fD.bH;rw[fA u,bt,bz u,ζb,bf,cr _ Zaa];refine⟨rfl,?_⟩;rw[take_add_one,ζd u];exact w.snoc;rintro⟨m,_⟩ ⟨rfl,w⟩;unfold fD.bH;rw[show s.l.length-1+1=s.l.length from Zaa,gw,bA,bf];rw[show s.l.length-1+1=s.l.length from Zaa,take_length]at w;exact(bf _).2 w
theorem Np{s:Zg}{a b:Int}(h:0<s.l.length)(B:s.l.length<1073741824)(D:qF s.l a)(G:isMax s.l b):nq s=some ⟨a,b⟩:=by have⟨m,c,u⟩:=Q1 h B;have⟨n,g1,g2⟩:=QV h B;unfold nq;rw[c,ζb,g1,ζb,u.one D,g2.one G]
theorem acf(n:Int):nq (Sl.row [n]:Zg)=some ⟨n,n⟩:=Np (by simp[Sl.l]) (by simp[Sl.l]) ⟨by simp[Sl.l],λx u=>by simp[Sl.l]at u;omega⟩ ⟨by simp[Sl.l],λx u=>by simp[Sl.l]at u;omega⟩
theorem aby(a b c d:Int):nq (Sl.row [a,b,c,d]:Zg)=some ⟨if(if d<c then d else c)<(if b<a then b else a)then(if d<c then d else c)else(if b<a then b else a),if(if d>c then d else c)>(if b>a then b else a)then(if d>c then d else c)else(if b>a then b else a)⟩:=by refine Np (by simp[Sl.l]) (by simp[Sl.l]) ⟨?_,λx u=>?_⟩ ⟨?_,λx u=>?_⟩;show _∈[a,b,c,d];grind;have u:x∈[a,b,c,d]:=u;grind;show _∈[a,b,c,d];grind;have u:x∈[a,b,c,d]:=u;grind
theorem OJ(a b:Int):kT a b=cU a b:=by unfold kT cU cU.J1 vg;by_cases z:a=0;subst z;rw[show(0:Int)*b=0 from Zaa];rfl;have u:(a==0)=false:=Zac;by_cases B:b=0;subst B;rw[u,show a*(0:Int)=0 from Zaa];rfl;have w:(b==0)=false:=Zac;rw[u,w];rfl
def nF(az:aX Assign)(v:Int):Ps:=(az.find? λa=>a.var==v).map Assign.value
def GB(az:aX Assign):Prop:=∀(i j:Nat)a b,i<j->az[i]?=some a->az[j]?=some b->a.var≠b.var
theorem GB.tail{a:Assign}{r:aX Assign}(h:GB (a::r)):GB r:=λi j x y u w z=>h (i+1) (j+1) x y Zaa Zac Zac
theorem GB.head{a:Assign}{r:aX Assign}(h:GB (a::r)):∀b∈r,a.var≠b.var:=λb u=>by have⟨j,w⟩:=mem_iff_getElem?.1 u;exact h 0 (j+1) a b Zaa Zab Zac
theorem L8:∀(az:aX Assign)(l:Rd)(k:Nat),GB az->(∀a∈az,0<=a.var)->k<l.length->(Bu l az)[k]?=some ((nF az k).getD (l[k]?.getD 0))
 |[],l,k,_,_,hk=>by simp[Bu,nF,ζd hk]|a::r,l,k,hd,h0,hk=>by show(Bu (l.set a.var.toNat a.value) r)[k]?=_;have B:=h0 a Zab;rw[L8 r _ k hd.tail (λb u=>h0 b (mem_cons_of_mem _ u)) Zac];congr 1;by_cases w:a.var=(k:Int);have c:nF r k=none:=(by unfold nF;rw[Option.map_eq_none_iff,find?_eq_none];intro b u;have:=hd.head b u;simp;omega);rw[c];unfold nF;grind;have c:nF (a::r) k=nF r k:=(by unfold nF;grind);grind
def nP(P:bR)(v k:Nat):Int:=((iS P k)[v]?).getD 0
structure R_(P:bR):Prop where
 ok:wD P
 dst:∀e∈P.events.l,GB e.assign.l
theorem ID{P:bR}{v:Nat}(k:Nat)(a:v<P.vars.l.length):(iS P k)[v]?=some (nP P v k):=by unfold nP;rw[ζd (by rw[qK];omega)];rfl
theorem HH{P:bR}(B:R_ P){v k:Nat}(c:v<P.vars.l.length){e:WF}(D:P.events.l[k]?=some e):nP P v (k+1)=(nF e.assign.l v).getD (nP P v k):=by
 have u:=mem_of_getElem? D;have b:iS P (k+1)=Bu (iS P k) e.assign.l:=by show(match P.events.l[k]?with|some e=>Bu (iS P k) e.assign.l|none=>iS P k)=_;rw[D]
 unfold nP;rw[b,L8 _ _ _ (B.dst e u) (λa w=>(B.ok e u a w).1) (by rw[qK];omega)];rfl
theorem R_.of{t:Z4}(D:Ok t){p:Nat}{P:bR}(G:t.procs.l[p]?=some P):R_ P:=by
 refine⟨wD.of D G,λe I i j a b w J C z=>?_⟩;have⟨k,c⟩:=mem_iff_getElem?.1 I;have h:=D.f_ p k P e G c;unfold pZ at h;have B:j<e.assign.l.length:=(ζe.1 C).1;have L:oJ (nv P e) 0 e.assign.l.length=0:=by grind
 have u:=(IP (g:=nv P e) (n:=e.assign.l.length) (m:=e.assign.l.length) (k:=0) Zaa).1 L j (zero_le _) B;unfold nv at u;rw[C]at u;dsimp only at u;have O:jQ (fO e.assign.l λx=>x.var==b.var) 0 j=true:=by rw[Kl];exact⟨i,zero_le _,w,by simp[fO,J,z]⟩
 rw[O]at u;revert u;cases(decide (0<=b.var)&&decide (b.var<P.vars.l.length))<;>cases(decide (b.value>=-1073741824)&&decide (b.value<=1073741824))<;>simp[PX]
abbrev rI(P:bR)(v n:Nat):aX Int:=(range (n+1)).map (nP P v)
theorem Qg(P:bR)(v n:Nat):rI P v (n+1)=rI P v n++[nP P v (n+1)]:=by unfold rI;rw[range_succ,map_append];rfl
theorem H6{P:bR}{v n k:Nat}(h:k<=n):nP P v k∈rI P v n:=List.mem_map.2 ⟨k,List.mem_range.2 Zaa,rfl⟩
theorem qF.old{l:Rd}{a x:Int}(h:qF l a)(B:x∈l):qF (l++[x]) a:=
 ⟨mem_append_left _ h.1,λy b=>by
  rcases List.mem_append.1 b with b|b
  .exact h.2 y b
  simp at b;subst b;exact h.2 _ B⟩
theorem isMax.old{l:Rd}{a x:Int}(h:isMax l a)(B:x∈l):isMax (l++[x]) a:=
 ⟨mem_append_left _ h.1,λy b=>by
  rcases List.mem_append.1 b with b|b
  .exact h.2 y b
  simp at b;subst b;exact h.2 _ B⟩
section
variable{P:bR}{v:Nat}
theorem QH(D:wD P)(b:P.vars.l.length<1073741824)(U:P.events.l.length<1073741823)(G:∀e∈P.events.l,e.assign.l.length<1073741824)(B:v<P.vars.l.length):
 Wp (gF P v) λs=>s.l=rI P v P.events.l.length:=by
 have⟨r,c,C,I⟩:=Ij D b Zaa G
 have key:∀(a:aX (Int×Zg))(i:Nat)(q:Zg),r.drop i=a->i<=r.length->q.l=(range i).map (nP P v)->∃s,(mb (λ(x:Int×(Zg))(q:Zg)=>gF.kV P v x q) a q).bind (Fw.sZ (λq=>some q) (λe=>elim e) (λe=>elim e))=some s/\s.l=(range r.length).map (nP P v):=by intro a;induction a with|nil=>intro i q hd d z;have:r.length<=i:=(by simpa using hd);exact⟨q,rfl,by rw[z,show i=r.length from Zaa]⟩|cons y a J=>intro i q hd _ z;have u:i<r.length:=(by apply byContradiction;intro S;rw[List.drop_eq_nil_of_le Zaa]at hd;cases hd);have e2:=List.drop_eq_getElem_cons u;rw[e2]at hd;simp only[List.cons.injEq]at hd;have⟨T,L⟩:=I i y (by rw[ζd u,hd.1]);have O:idx y.2 (v:Int)=some (nP P v i):=(by rw[gY,L];exact ID i B);have Q:q.l.length=i:=(by rw[z];simp);have w:fu q (nP P v i)=some (.row (q.l++[nP P v i])):=(by unfold fu;rw[if_pos Zaa]);have⟨s,g1,g2⟩:=J (i+1) (.row (q.l++[nP P v i])) hd.2 Zaa (by show q.l++[nP P v i]=_;rw[z,range_succ,map_append];rfl);refine⟨s,?_,g2⟩;simp only[mb,gF.kV,O,w,ζb];exact g1
 have⟨s,g1,g2⟩:=key r 0 .nil rfl (zero_le _) rfl;refine⟨s,?_,by show s.l=_;rw[g2,C]⟩
 unfold gF o6 gF.E1;simp only[ζb,c];exact g1
theorem LB{α:Type}{f:α->X'}{l:aX α}{k:Nat}{x:α}(b:l[k]?=some x)(B:f x=true)(D:∀(j:Nat)(y:α),j<k->l[j]?=some y->f y=false):place f l=k:=by unfold place;have a:=(ζe.1 b);have⟨a,u⟩:=a;rw[show l.findIdx? f=some k from by rw[List.findIdx?_eq_some_iff_getElem];exact⟨a,by rw[u];exact B,λj w=>by rw[D j _ w (ζd Zaa)];simp⟩]
theorem SH{t:Z4}(d:Small t)(e:cG t=some true)(J:Ok t){n:Nat}(D:t.procs.l[n]?=some P){name:U'}{x:Var}(c:P.vars.l[v]?=some x)(U:(toList x.name==toList name)=true)
 (W:∀(j:Nat)(w:Var),j<v->P.vars.l[j]?=some w->(toList w.name==toList name)=false):
 Wp (sQ t n name) λr=>r.2.2=0/\qF (rI P v P.events.l.length) r.1/\isMax (rI P v P.events.l.length) r.2.1:=by
 have O:n<t.procs.l.length:=(ζe.1 D).1;have Q:=mem_of_getElem? D;have u:=d.2 P Q;have C:v<P.vars.l.length:=(ζe.1 c).1;have I:P.events.l.length<=64:=by have:=J.heads n O;unfold ta at this;rw[D]at this;dsimp only at this;split at this;split at this;cases this;split at this;split at this;cases this;omega;rename_i G;exact absurd this G;cases this
 have⟨s,g1,g2⟩:=QH (wD.of J D) u.2.1 Zaa u.2.2.2.2 C
 have g:s.l.length=P.events.l.length+1:=by rw[g2];simp[rI]
 have⟨a,a1,a2⟩:=Q1 (s:=s) Zaa Zaa
 have⟨b,S,L⟩:=QV (s:=s) Zaa Zaa
 have B:tV t n name=some ((v:Int),0):=by unfold tV;rw[e,ζb,bt,decide_eq_false (show¬(n:Int)<0 by omega),bA,ζb,decide_eq_false (show¬(n:Int)>=len t.procs by simp only[len];omega),bA,gY,D,ζb];unfold vD;rw[En (p:=λz=>p_ z name) (f:=λw=>toList w.name==toList name) (λ_ _=>rfl) u.2.1,LB c U W,ζb,ζb,decide_eq_false (show¬((v:Nat):Int)<0 by omega)];rfl
 unfold sQ;rw[B,ζb];simp only;rw[show((0:Int)==0)=true from rfl,bt,gY,D,ζb,g1,ζb,a1,ζb,S,ζb,bf];rw[g2]at a2 L;exact⟨rfl,a2,L⟩
def gX(o:Ps)(b a:Int):Int×Int:=match o with
 |none=>(b,a)|some x=>(if x<b then x else b,if x>a then x else a)
theorem Jl{az:aX Assign}(hd:GB az){j:Nat}(B:j<az.length):nF (az.take (j+1)) v=if az[j].var=(v:Int)then some az[j].value else nF (az.take j) v:=by
 unfold nF;rw[take_add_one,ζd B];show((az.take j++[az[j]]).find? _).map _=_;rw[List.find?_append];by_cases h:az[j].var=(v:Int);rw[if_pos h];have:(az.take j).find? (λa=>a.var==(v:Int))=none:=by rw[find?_eq_none];intro b w;have⟨i,c⟩:=mem_iff_getElem?.1 w;have u:i<j:=(by have:=(ζe.1 c).1;rw[length_take]at this;omega);rw[List.getElem?_take_of_lt u]at c;have:=hd i j b az[j] u c (ζd B);simp;omega
 rw[this,List.find?_cons_of_pos (by simpa using h)];rfl;rw[if_neg h,List.find?_cons_of_neg (by simpa using h)];simp
theorem Ro{az:aX Assign}(hd:GB az){j:Nat}(B:j<az.length)(h:az[j].var=(v:Int)):nF (az.take j) v=none:=by
 unfold nF;rw[Option.map_eq_none_iff,find?_eq_none];intro b w;have⟨i,a⟩:=mem_iff_getElem?.1 w;have u:i<j:=by have:=(ζe.1 a).1;rw[length_take]at this;omega
 rw[List.getElem?_take_of_lt u]at a;have:=hd i j b az[j] u a (ζd B);simp;omega
theorem Sp{t:Z4}(f:Small t)(U:Ok t){n:Nat}(J:t.procs.l[n]?=some P)(B:v<P.vars.l.length):
 Wp (ga t n v) λr=>qF (rI P v P.events.l.length) r.1/\isMax (rI P v P.events.l.length) r.2:=by
 have T:=mem_of_getElem? J;have L:=f.2 P T;have Q:=R_.of U J;have C:idx t.procs (n:Int)=some P:=by rw[gY];exact J
 unfold ga;rw[C,ζb,bz B,ζb];unfold ga.W1;have d:rI P v 0=[P.vars.l[v].init_]:=by simp[rI,nP,iS,ζd B]
 refine dU P.events.l.length (λi s=>s.2.2=(i:Int)/\qF (rI P v i) s.1/\isMax (rI P v i) s.2.1) ⟨rfl,by rw[d];exact⟨Zab,λx C=>by simp at C;show P.vars.l[v].init_<=x;omega⟩,by rw[d];exact⟨Zab,λx C=>by simp at C;show x<=P.vars.l[v].init_;omega⟩⟩ ?_ ?_
 .rintro i ⟨c,b,_⟩ hi ⟨rfl,w,z⟩;simp only at w z;have D:=getElem_mem hi;have hd:=Q.dst _ D;have W:=L.2.2.2.2 _ D;have u:=HH Q B (ζd hi);unfold ga.bh;rw[C,ζb,fA hi,bt,ζb,bz hi,ζb];generalize P.events.l[i]=e at *;unfold ga.W2;refine dU e.assign.l.length (λj s=>s.2.2=(j:Int)/\(s.1,s.2.1)=gX (nF (e.assign.l.take j) v) c b) ⟨rfl,by simp[nF,gX]⟩ ?_ ?_
  .rintro j ⟨g,O,_⟩ G ⟨rfl,a⟩;unfold ga.bH;rw[fA G,bt,bz G,ζb]
   by_cases I:e.assign.l[j].var=(v:Int)
   .rw[show(e.assign.l[j].var==(v:Int))=true from by simpa using I,bt,ζb,ζb,bf,cr j Zaa]
    rw[Ro hd G I]at a;simp only[gX,ζc]at a;obtain⟨rfl,rfl⟩:=a;refine⟨rfl,?_⟩;rw[Jl hd G,if_pos I];rfl
   rw[show(e.assign.l[j].var==(v:Int))=false from by simpa using I,bA,bf,cr j Zaa]
   refine⟨rfl,?_⟩;rw[Jl hd G,if_neg I];exact a
  rintro⟨g,O,_⟩ ⟨rfl,a⟩;unfold ga.bH;rw[gw,bA,bf];simp only;rw[bf,cr i Zaa]
  rw[take_length]at a;refine⟨rfl,?_⟩;simp only;rw[Qg]
  cases S:nF e.assign.l v with
  |none=>rw[S]at a u;simp only[gX,ζc]at a;obtain⟨rfl,rfl⟩:=a;rw[show nP P v (i+1)=nP P v i from u];exact⟨w.old (H6 (le_refl _)),z.old (H6 (le_refl _))⟩|some x=>rw[S]at a u;simp only[gX,ζc]at a;obtain⟨rfl,rfl⟩:=a;rw[show nP P v (i+1)=x from u];exact⟨w.snoc,z.snoc⟩
 rintro⟨c,b,_⟩ ⟨rfl,w,z⟩;unfold ga.bh;rw[C,ζb,gw,bA,bf];exact(bf _).2 ⟨w,z⟩
end
section
variable{t:Z4}{A:b9 200 bB}
theorem M6(a:Small t){p:Nat}{P:bR}(D:t.procs.l[p]?=some P)(q:Nat):fL t p q=some ((P.events.l.countP (en q):Nat):Int):=by
 have G:P∈t.procs.l:=mem_of_getElem? D;have I:=(a.2 P G).1;refine Wp.eq ?_;unfold fL;rw[gY,D,ζb];unfold fL.W1;refine dU P.events.l.length (λn s=>s.2=(n:Int)/\s.1=(((P.events.l.take n).countP (en q):Nat):Int)) ⟨rfl,rfl⟩ ?_ ?_;rintro n ⟨o,_⟩ w ⟨e1,e2⟩;simp only at e1 e2;subst e1 e2;have z:=List.countP_le_length (p:=en q) (l:=P.events.l.take n);rw[length_take]at z;have u:(P.events.l.take (n+1)).countP (en q)=(P.events.l.take n).countP (en q)+if en q P.events.l[n]then 1 else 0:=by rw[take_add_one,ζd w,countP_append];show _+countP _ [P.events.l[n]]=_;rw[countP_cons,countP_nil];simp
 unfold fL.bh;rw[fA w,bt,bz w,ζb];generalize P.events.l[n]=e at u;have B:(bg (e.kind==2) (some (e.peer==(q:Int))) (some false):aY X')=some (en q e):=by unfold en;cases e.kind==2<;>cases e.peer==(q:Int)<;>rfl
 rw[B,ζb,cr n Zaa];cases C:en q e with|true=>rw[C]at u;rw[bt,bf,cr _ Zaa];exact⟨rfl,by simp only[u];rfl⟩|false=>rw[C]at u;rw[bA,bf];exact⟨rfl,by simp only[u];rfl⟩
 rintro⟨o,_⟩ ⟨e1,e2⟩;simp only at e1 e2;subst e1 e2;unfold fL.bh;rw[gw,bA,bf];exact(bf _).2 (by rw[take_length])
theorem Qb{α:Type}{f:α->X'}{l:aX α}{n:Nat}(h:n<l.length):(l.take (n+1)).countP f=(l.take n).countP f+if f l[n]then 1 else 0:=by rw[take_add_one,ζd h,countP_append];show _+countP _ [l[n]]=_;rw[countP_cons,countP_nil];simp
end
section
variable{t:Z4}
theorem Xf(a:Small t){p:Nat}{P:bR}(D:t.procs.l[p]?=some P)(q:Int):jF t p q=some ((P.events.l.countP (en q):Nat):Int):=by
 have I:P∈t.procs.l:=mem_of_getElem? D;have J:=(a.2 P I).1;have C:idx t.procs (p:Int)=some P:=by rw[gY];exact D
 refine Wp.eq ?_;unfold jF jF.W1;refine dU P.events.l.length (λn s=>s.2=(n:Int)/\s.1=(((P.events.l.take n).countP (en q):Nat):Int)) ⟨rfl,rfl⟩ ?_ ?_;rintro n ⟨o,_⟩ w ⟨e1,e2⟩;simp only at e1 e2;subst e1 e2;have z:=List.countP_le_length (p:=en q) (l:=P.events.l.take n);rw[length_take]at z;have u:=Qb (f:=en q) w;unfold jF.bh;rw[C,ζb,fA w,bt,ζb,bz w,ζb];generalize P.events.l[n]=e at u;have B:(bg (e.kind==2) (some (e.peer==q)) (some false):aY X')=some (en q e):=by unfold en;cases e.kind==2<;>cases e.peer==q<;>rfl
 rw[B,ζb,cr n Zaa];cases G:en q e with|true=>rw[G]at u;rw[bt,bf,cr _ Zaa];exact⟨rfl,by simp only[u];rfl⟩|false=>rw[G]at u;rw[bA,bf];exact⟨rfl,by simp only[u];rfl⟩
 rintro⟨o,_⟩ ⟨e1,e2⟩;simp only at e1 e2;subst e1 e2;unfold jF.bh;rw[C,ζb,gw,bA,bf];exact(bf _).2 (by rw[take_length])
def Bz(b a:Int):X':=decide (b>=-1125899906842624)&&decide (a<=1125899906842624)
structure Ix(low high:Int):Prop where
 le:low<=high
 lo:-1125899906842624<=low
 hi:high<=1125899906842624
theorem Fh(b a:Int)(r:Z4×T'->aY (Int×Int×X')):bU.J3 b a r=some (b,a,Bz b a):=by unfold bU.J3 Bz;cases decide (b>=-1125899906842624)<;>rfl
theorem Lp(b a:Int):jR ⟨b,a⟩=some (!Bz b a):=by
 unfold jR Bz;have c:decide (b< -1125899906842624)= !decide (b>=-1125899906842624):=by rw[Bool.eq_iff_iff];simp
 have u:decide (a>1125899906842624)= !decide (a<=1125899906842624):=by rw[Bool.eq_iff_iff];simp
 simp only;rw[c,u];cases decide (b>=-1125899906842624)<;>cases decide (a<=1125899906842624)<;>rfl
theorem Ix.of{b a:Int}(h:b<=a)(g:Bz b a=true):Ix b a:=by simp only[Bz,ζh]at g;have:=of_decide_eq_true g.1;have:=of_decide_eq_true g.2;exact⟨h,Zaa,Zaa⟩
theorem A5(a b c d:Int)(p:T')(r:Z4×T'->aY (Int×Int×X')):bU.J2 a b c d true true t p r=(bg (p.kind==1) (bU.J3 p.n p.n r) (bg (p.kind==2) ((jK t p.proc p.name).bind λg=>(ga t p.proc g).bind λf=>bU.J3 f.1 f.2 r) (bg (p.kind==3) ((idx t.procs p.proc).bind λh=>bU.J3 0 (len h.events) r) (bg (p.kind==4) ((jF t p.proc p.peer).bind λi=>bU.J3 0 i r) (bg (p.kind==5) (bU.J3 (wrap .i64 (0-b)) (wrap .i64 (0-a)) r) (bg (p.kind==6) (bU.J3 (wrap .i64 (a+c)) (wrap .i64 (b+d)) r) (bg (p.kind==7) (bU.J3 (wrap .i64 (a-d)) (wrap .i64 (b-c)) r) ((cU a c).bind λB=>(cU a d).bind λD=>(cU b c).bind λG=>(cU b d).bind λJ=>(cU a c).bind λU=>(cU a d).bind λW=>(cU b c).bind λY=>(cU b d).bind λe=>bU.J3 (if(if J<G then J else G)<(if D<B then D else B)then(if J<G then J else G)else(if D<B then D else B)) (if(if e>Y then e else Y)>(if W>U then W else U)then(if e>Y then e else Y)else(if W>U then W else U)) r))))))):aY (Int×Int×X')):=rfl
theorem VY{a b c d:Int}{ok B:X'}(h:(ok&&B)=false)(p:T')(r:Z4×T'->aY (Int×Int×X')):bU.J2 a b c d ok B t p r=some (0,0,false):=by unfold bU.J2;cases ok<;>cases B<;>first|rfl|cases h
theorem zH{a b:Int}(B:-1125899906842624<=a/\a<=1125899906842624)(D:-1125899906842624<=b/\b<=1125899906842624):∃x,cU a b=some x:=by
 unfold cU cU.J1;by_cases c:a=0;subst c;exact⟨_,rfl⟩;rw[show(a==0)=false from by simpa using c,bA,ζb];by_cases d:b=0;subst d;exact⟨_,rfl⟩;rw[show(b==0)=false from by simpa using d,show(!false)=true from rfl,bt,fV (0-b) Zaa Zaa];have:∀k m:Int,m≠0->∃x,A9 .i64 k m=some x:=λk m u=>by unfold A9;rw[if_neg u];exact⟨_,rfl⟩
 have⟨x,w⟩:=this 1125899906842624 (if 0-b>b then 0-b else b) (by split<;>omega);rw[w,ζb];cases decide ((if wrap .i64 (0-a)>a then wrap .i64 (0-a)else a)>x)<;>cases(decide (a<0)==decide (b<0))<;>exact⟨_,rfl⟩
theorem SU(g:Small t)(j:cG t=some true)(G:Ok t){q:T'}(U:fB q=true)(d:qy t q=true)(x:q.kind<=4):
 ∃f c,nh t q=some ⟨f,c⟩/\f<=c/\∀r,bU.J2 0 0 0 0 true true t q r=bU.J3 f c r:=by
 obtain⟨k1,-,-⟩:=yx U;rcases(show q.kind=1\/q.kind=2\/q.kind=3\/q.kind=4 by omega)with h|h|h|h
 .refine⟨q.n,q.n,?_,Int.le_refl _,λr=>?_⟩
  .unfold nh;rw[show(q.kind==1)=true from by simpa using h,bt,acf];rfl
  rw[A5,show(q.kind==1)=true from by simpa using h,bt]
 .unfold qy at d;rw[if_pos (by simpa using h)]at d
  simp only[ζh]at d;obtain⟨O,-,w⟩:=d;have⟨i,l,o⟩:=HA g (p:=q.proc) (by simp only[ζh];exact O) q.name
  rcases o with⟨n,k,P,v,u,z,rfl,B,s,Q,-⟩|⟨-,C⟩
  .have⟨⟨f,c,e⟩,g1,g2,g3,g4⟩:=SH g j G z (name:=q.name) B s Q;simp only at g2 g3 g4;subst g2;have⟨⟨a,b⟩,S,I,J⟩:=Sp g G z (v:=k) (ζe.1 B).1;simp only at I J;obtain rfl:=g3.one I;obtain rfl:=g4.one J;refine⟨f,c,?_,g4.2 _ g3.1,λr=>?_⟩
   .unfold nh;rw[h,show((2:Int)==1)=false from rfl,bA,show((2:Int)==3)=false from rfl,bA,show((2:Int)==4)=false from rfl,bA,u,g1];rfl
   rw[A5,h,show((2:Int)==1)=false from rfl,bA,show((2:Int)==2)=true from rfl,bt,l,ζb,u,S,ζb]
  rw[C]at w;cases w
 .unfold qy at d;rw[if_neg (by simp[h]),if_pos (by simpa using h)]at d
  simp only[ζh]at d;have⟨n,u,D⟩:=xx (t:=t) (p:=q.proc) (by simp only[ζh];exact d.1)
  refine⟨0,len t.procs.l[n].events,?_,by simp only[len];omega,λr=>?_⟩
  .unfold nh;rw[h,show((3:Int)==1)=false from rfl,bA,show((3:Int)==3)=true from rfl,bt,u,bz D];rfl
  rw[A5,h,show((3:Int)==1)=false from rfl,bA,show((3:Int)==2)=false from rfl,bA,show((3:Int)==3)=true from rfl,bt,u,bz D];rfl
 unfold qy at d;rw[if_neg (by simp[h]),if_neg (by simp[h]),if_pos (by simpa using h)]at d
 simp only[ζh]at d;have⟨n,u,D⟩:=xx (t:=t) (p:=q.proc) (by simp only[ζh];exact d.1)
 have⟨m,L,T⟩:=xx (t:=t) (p:=q.peer) (by simp only[ζh];exact d.2.1)
 have z:=ζd D;refine⟨0,((t.procs.l[n].events.l.countP (en m):Nat):Int),?_,Zaa,λr=>?_⟩
 .unfold nh;rw[h,show((4:Int)==1)=false from rfl,bA,show((4:Int)==3)=false from rfl,bA,show((4:Int)==4)=true from rfl,bt,u,L,M6 g z];rfl
 rw[A5,h,show((4:Int)==1)=false from rfl,bA,show((4:Int)==2)=false from rfl,bA,show((4:Int)==3)=false from rfl,bA,show((4:Int)==4)=true from rfl,bt,u,L,Xf g z];rfl
theorem WH(v:bV)(l h:Int)(r:Z4×T'->aY (bV×X')):dH.J2 v ⟨l,h⟩ r=some (⟨l,h⟩,Bz l h):=by unfold dH.J2;rw[Lp,ζb,Bool.not_not]
theorem SS{ok B:X'}(h:(ok&&B)=false)(p:T')(v a b:bV)(r:Z4×T'->aY (bV×X')):dH.J1 ok B p v a b r=some (⟨0,0⟩,false):=by unfold dH.J1;cases ok<;>cases B<;>first|rfl|cases h
theorem IV{p:T'}(i:5<=p.kind/\p.kind<=8){a b c d:Int}(g:Ix a b)(J:Ix c d)(v:bV)(r:Z4×T'->aY (bV×X'))(B:Z4×T'->aY (Int×Int×X')):
 ∃f e,dH.J1 true true p v ⟨a,b⟩ ⟨c,d⟩ r=some (⟨f,e⟩,Bz f e)/\bU.J2 a b c d true true t p B=some (f,e,Bz f e)/\f<=e:=by
 have⟨a1,a2,a3⟩:=g;have⟨O,Q,S⟩:=J;rw[A5];unfold dH.J1;rw[bt,ζb,show(!true)=false from rfl,bA];rcases(show p.kind=5\/p.kind=6\/p.kind=7\/p.kind=8 by omega)with h|h|h|h<;>rw[h]
 .refine⟨-b,-a,?_,?_,Zaa⟩
  .rw[show((5:Int)==5)=true from rfl,bt,WH];simp only;rw[fV (0-b) Zaa Zaa,fV (0-a) Zaa Zaa,show(0:Int)-b=-b from Zaa,show(0:Int)-a=-a from Zaa]
  show bU.J3 _ _ B=_;rw[Fh,fV (0-b) Zaa Zaa,fV (0-a) Zaa Zaa,show(0:Int)-b=-b from Zaa,show(0:Int)-a=-a from Zaa]
 .refine⟨a+c,b+d,?_,?_,Zaa⟩
  .rw[show((6:Int)==5)=false from rfl,bA,show((6:Int)==6)=true from rfl,bt,WH];simp only;rw[fV (a+c) Zaa Zaa,fV (b+d) Zaa Zaa]
  show bU.J3 _ _ B=_;rw[Fh,fV (a+c) Zaa Zaa,fV (b+d) Zaa Zaa]
 .refine⟨a-d,b-c,?_,?_,Zaa⟩
  .rw[show((7:Int)==5)=false from rfl,bA,show((7:Int)==6)=false from rfl,bA,show((7:Int)==7)=true from rfl,bt,WH];simp only;rw[fV (a-d) Zaa Zaa,fV (b-c) Zaa Zaa]
  show bU.J3 _ _ B=_;rw[Fh,fV (a-d) Zaa Zaa,fV (b-c) Zaa Zaa]
 have⟨w,u⟩:=zH (a:=a) (b:=c) ⟨Zaa,Zaa⟩ ⟨Zaa,Zaa⟩
 have⟨x,C⟩:=zH (a:=a) (b:=d) ⟨Zaa,Zaa⟩ ⟨Zaa,Zaa⟩
 have⟨y,D⟩:=zH (a:=b) (b:=c) ⟨Zaa,Zaa⟩ ⟨Zaa,Zaa⟩
 have⟨z,G⟩:=zH (a:=b) (b:=d) ⟨Zaa,Zaa⟩ ⟨Zaa,Zaa⟩
 refine⟨if(if z<y then z else y)<(if x<w then x else w)then(if z<y then z else y)else(if x<w then x else w),if(if z>y then z else y)>(if x>w then x else w)then(if z>y then z else y)else(if x>w then x else w),?_,?_,?_⟩
 .rw[show((8:Int)==5)=false from rfl,bA,show((8:Int)==6)=false from rfl,bA,show((8:Int)==7)=false from rfl,bA];simp only[OJ];rw[u,C,D,G];simp only[ζb];rw[aby,ζb,WH]
 .show (cU a c).bind _=_;rw[u,C,D,G];simp only[ζb];rw[Fh]
 have L:(if z<y then z else y)<=(if z>y then z else y):=by split<;>split<;>omega
 have I:(if x<w then x else w)<=(if x>w then x else w):=by split<;>split<;>omega
 split<;>split<;>omega
theorem Pred.parts{p:T'}(B:fB p=true){c:Int}(a:b9.at wK p.kind=some c):(p.l.l.length:Int)=c:=by obtain⟨-,-,h⟩:=yx B;grind
structure yL(t:Trace)(p:Pred):Prop where
 sm:p.Sm
 f:p.gQ fB=true
 r:p.gQ (qy t)=true
 y:p.gQ rY=true
theorem yL.vz{p q:T'}(h:yL t p)(B:q∈p.l.l):yL t q:=by have⟨a,u,w,z⟩:=h;rw[p.lU,ζh,all_eq_true]at u w z;exact⟨a.vz B,u.2 q B,w.2 q B,z.2 q B⟩
theorem yL.here{p:T'}(h:yL t p):fB p=true/\qy t p=true/\rY p=true:=by have⟨a,u,w,z⟩:=h;rw[p.lU,ζh]at u w z;grind
theorem yL.int{p q:T'}(h:yL t p)(a:p.kind<=12)(B:q∈p.l.l):q.kind<=8:=by have:=h.here.2.2;unfold rY at this;grind
theorem M0(m:Small t)(o:cG t=some true)(Y:Ok t)(p:T'):yL t p->p.kind<=8->∀n,p.dp<=n->
 ∃f e ok i,dD (λr(z:Z4×T')=>hG z.1 z.2 r) n (t,p)=some (i,ok)/\dD (λr(z:Z4×T')=>h_ z.1 z.2 r) n (t,p)=some (f,e,ok)/\(ok=true->i=⟨f,e⟩/\Ix f e):=by
 induction p using Pred.ind with
 |h p u=>
  intro k A n E;have hd:=p.vc;have⟨w,s,F⟩:=k.here;obtain⟨k1,-,-⟩:=yx w;rw[jC Zaa,jC Zaa]
  have u:=λq C=>u q C (k.vz C) (k.int Zaa C) (n-1) (by have:=Pred.rV C;omega)
  show∃f e ok i,hG t p (dD (λr(z:Z4×T')=>hG z.1 z.2 r) (n-1))=some (i,ok)/\h_ t p (dD (λr(z:Z4×T')=>h_ z.1 z.2 r) (n-1))=some (f,e,ok)/\_
  generalize dD (λr(z:Z4×T')=>hG z.1 z.2 r) (n-1)=R at u⊢
  generalize dD (λr(z:Z4×T')=>h_ z.1 z.2 r) (n-1)=U at u⊢
  unfold hG h_ bU.J1
  by_cases X:p.kind<=4
  .have Z:p.l.l.length=0:=by
    have:=Pred.parts w (c:=0) (by rcases(show p.kind=1\/p.kind=2\/p.kind=3\/p.kind=4 by omega)with h|h|h|h<;>(rw[h];rfl))
    omega
   have⟨f,e,g1,g2,g3⟩:=SU m o Y w s X;refine⟨f,e,Bz f e,⟨f,e⟩,?_,?_,λh=>⟨rfl,Ix.of g2 h⟩⟩
   .rw[show(len p.l==0)=true from Zac,bt,g1,ζb,Lp,ζb,Bool.not_not]
   rw[decide_eq_false (show¬len p.l>0 by grind),bA,decide_eq_false (show¬len p.l>1 by grind),bA,g3,Fh]
  by_cases W:p.kind=5
  .have aa:p.l.l.length=1:=by
    have:=Pred.parts w (c:=1) (by rw[W];rfl)
    omega
   have g:0<p.l.l.length:=Zaa
   have⟨a,b,ok,i,g1,g2,g3⟩:=u _ (getElem_mem g);have I:idx p.l 0=some p.l.l[0]:=bz (i:=0) g;rw[show(len p.l==0)=false from Zac,bA,I,ζb,g1,ζb,show(len p.l==2)=false from Zac,bA,
    decide_eq_true (show len p.l>0 by grind),bt,ζb,g2,ζb,decide_eq_false (show¬len p.l>1 by grind),bA]
   simp only
   cases ok with
   |false=>
    rw[SS rfl,VY rfl]
    grind
   |true=>
    obtain⟨rfl,D⟩:=g3 rfl;have⟨f,e,J,L,O⟩:=IV (t:=t) (p:=p) ⟨Zaa,Zaa⟩ D D ⟨0,0⟩ R U
    refine⟨f,e,Bz f e,⟨f,e⟩,J,?_,λh=>⟨rfl,Ix.of O h⟩⟩
    rw[<-L,A5,A5,W];rfl
  have Q:p.l.l.length=2:=by have:=Pred.parts w (c:=2) (by rcases(show p.kind=6\/p.kind=7\/p.kind=8 by omega)with h|h|h<;>(rw[h];rfl));omega
  have g:0<p.l.l.length:=Zaa
  have l:1<p.l.l.length:=Zaa
  have⟨a,b,ok,i,g1,g2,g3⟩:=u _ (getElem_mem g);have⟨c,d,B,j,v,x,y⟩:=u _ (getElem_mem l);have I:idx p.l 0=some p.l.l[0]:=bz (i:=0) g;have S:idx p.l 1=some p.l.l[1]:=bz (i:=1) l;rw[show(len p.l==0)=false from Zac,bA,I,ζb,g1,ζb,show(len p.l==2)=true from Zac,bt,S,ζb,v,ζb,
   decide_eq_true (show len p.l>0 by grind),bt,ζb,g2,ζb,decide_eq_true (show len p.l>1 by simp[len,Q]),bt,ζb,x,ζb]
  simp only
  cases G:ok&&B with
  |false=>rw[SS G,VY G];exact⟨0,0,false,_,rfl,rfl,λh=>by cases h⟩|true=>
   simp only[ζh]at G;obtain⟨rfl,rfl⟩:=G;obtain⟨rfl,D⟩:=g3 rfl;obtain⟨rfl,T⟩:=y rfl;have⟨f,e,J,L,O⟩:=IV (t:=t) (p:=p) ⟨Zaa,Zaa⟩ D T ⟨0,0⟩ R U
   exact⟨f,e,Bz f e,⟨f,e⟩,J,L,λh=>⟨rfl,Ix.of O h⟩⟩
theorem PM(e:Small t)(j:cG t=some true)(B:Ok t)(p:T'):yL t p->p.dp<=20->∀n,p.dp<=n->
 ∃b,dD (λr(z:Z4×T')=>iL z.1 z.2 r) n (t,p)=some b/\dD (λr(z:Z4×T')=>kJ z.1 z.2 r) n (t,p)=some b:=by
 induction p using Pred.ind with
 |h p w=>
  intro a hd n G;have C:=p.vc;rw[jC Zaa,jC Zaa]
  have w:=λq u=>w q u (a.vz u) (by have:=Pred.rV u;omega) (n-1) (by have:=Pred.rV u;omega)
  show∃b,iL t p (dD (λr(z:Z4×T')=>iL z.1 z.2 r) (n-1))=some b/\kJ t p (dD (λr(z:Z4×T')=>kJ z.1 z.2 r) (n-1))=some b
  generalize dD (λr(z:Z4×T')=>iL z.1 z.2 r) (n-1)=R at w⊢
  generalize dD (λr(z:Z4×T')=>kJ z.1 z.2 r) (n-1)=D at w⊢
  unfold iL kJ;rw[CH,ES,ζb,ζb]
  by_cases k:p.kind<=8
  .rw[show(rE p.kind==1)=true from Zac,bt,bt]
   obtain⟨l,d,ok,i,g1,g2,-⟩:=M0 e j B p a k 100000 Zaa
   refine⟨ok,?_,?_⟩
   .show (dH t p).bind _=_;rw[show dH t p=_ from g1];rfl
   show(bU t p).bind _=_;rw[show bU t p=_ from g2];rfl
  rw[show(rE p.kind==1)=false from Zac,bA,bA]
  let g:T'->X':=λq=>(R (t,q)).getD false
  have m:∀q∈p.l.l,R (t,q)=some (g q)/\D (t,q)=some (g q):=λq u=>by grind
  refine⟨p.l.l.all g,?_,?_⟩
  .rw[CU _ a.sm.len,Bb (f:=λq=> !g q) (λq u=>by
    unfold pU;grind)]
   grind
  unfold lu.W1;refine xw (g:=g) a.sm.len (λi c=>?_) ?_
  .unfold lu.bh;rw[fA c,bt,bz c,ζb,(m _ (getElem_mem c)).2,ζb,cr i (by have:=a.sm.len;omega)]
   cases g p.l.l[i]<;>rfl
  unfold lu.bh;rw[gw];rfl
theorem OE(a:Small t)(D:(bL t).length<1073741824){p:T'}(B:p.Sm):
 ∃e,tf t p=some e/\vt t p=some e/\(e=0->cG t=some true/\VT t/\oF p=true/\yL t p):=by
 have⟨C,c,w,z⟩:=B_ a D;unfold tf vt;rw[c,w,ζb,ζb]
 cases C with
 |false=>exact⟨1,rfl,rfl,λh=>Zaa⟩|true=>
  have d:=z rfl;rw[bt,bt,Bh B,AZ B,ζb,ζb]
  cases G:oF p with
  |false=>exact⟨1,rfl,rfl,λh=>Zaa⟩|true=>
   have u:=G;simp only[oF,ζh]at u;have hd:=of_decide_eq_true u.2.1;unfold gL gE lu wk;rw[show(!true)=false from rfl,bA,ζb,bA,Kc a B Zaa,K7 a p B 100000 Zaa,ζb,ζb]
   cases g:p.gQ (qy t)with
   |false=>exact⟨13,rfl,rfl,λh=>Zaa⟩|true=>
    rw[bt,bt,HW B Zaa,Ib p B u.2.2 100000 Zaa,ζb,ζb]
    cases I:p.gQ rY with
    |false=>exact⟨14,rfl,rfl,λh=>Zaa⟩|true=>
     have f:yL t p:=⟨B,u.2.2,g,I⟩;have⟨b,g1,g2⟩:=PM a c d.ok p f hd 100000 Zaa
     rw[bt,bt,g1,g2,ζb]
     cases b with
     |false=>exact⟨9,rfl,rfl,λh=>Zaa⟩|true=>exact⟨0,rfl,rfl,λ_=>⟨rfl,d,rfl,f⟩⟩
end
theorem MP{t:Z4}(b:Small t){c:Zg}(W:rM t c.l){p:Nat}{P:bR}{a:Int}(J:t.procs.l[p]?=some P)(Y:c.l[p]?=some a)(q:Nat):
 Wp (iF t c p q) λs=>s.l.length=(P.events.l.take a.toNat).countP λe=>en q e&&nU t c.l e:=by
 have Z:=(b.2 P (mem_of_getElem? J)).1;have⟨a0,a1⟩:=W.2 p a P Y J;unfold iF iF.W1;refine fE (λs:Zg×Int=>∃n:Nat,s.2=n/\(n:Int)<=a/\s.1.l.length=(P.events.l.take n).countP λe=>en q e&&nU t c.l e) (λs=>a.toNat-s.2.toNat) ⟨0,rfl,by simpa using a0,rfl⟩ ?_
 rintro⟨o,i⟩ ⟨n,d,k,I⟩;simp only at d I;subst d;unfold iF.bh;rw[show idx c (p:Int)=some a from by rw[gY];exact Y,ζb,b7]
 constructor
 .intro h;have m:(n:Int)<a:=by simpa using h
  have C:n<P.events.l.length:=Zaa
  have G:=cr n Zaa
  have B:a.toNat-(wrap .i64 ((n:Int)+1)).toNat<a.toNat-((n:Int)).toNat:=by rw[G];simp;omega
  have L:=List.countP_le_length (p:=λe=>en q e&&nU t c.l e) (l:=P.events.l.take n)
  rw[length_take]at L;have u:(P.events.l.take (n+1)).countP (λe=>en q e&&nU t c.l e)=o.l.length+if en q P.events.l[n]&&nU t c.l P.events.l[n]then 1 else 0:=by rw[take_add_one,ζd C,countP_append,I];show _+countP _ [P.events.l[n]]=_;rw[countP_cons,countP_nil];simp
  rw[show idx t.procs (p:Int)=some P from by rw[gY];exact J,ζb,bz C,ζb]
  generalize P.events.l[n]=e at u;have O:(bg (e.kind==2) (some (!(e.peer==(q:Int)))) (some true):aY X')=some (!en q e):=by unfold en;cases e.kind==2<;>cases e.peer==(q:Int)<;>rfl
  rw[O,ζb,b7];constructor
  .intro w;have w:en q e=false:=by simpa using w
   rw[bf];exact⟨⟨n+1,G,Zaa,by rw[u,w];rfl⟩,B⟩
  intro w;have w:en q e=true:=by simpa using w
  rw[find_eq b,ζb];have f:(bg ((gU t 3 e.message).index==0) (some true) ((idx c (gU t 3 e.message).proc).bind λQ=>some (decide ((gU t 3 e.message).index>Q))):aY X')=some (nU t c.l e):=by unfold nU;rcases GY t 3 e.message with⟨h,_⟩|⟨z,g,_⟩;rw[h];rfl;have⟨S,j,⟨r,T,_⟩,X⟩:=dP.1 g;simp only at X;have D:S<c.l.length:=(by rw[W.1];exact(ζe.1 T).1);rw[X];dsimp only;rw[bz D,ζb,show((S:Nat):Int).toNat=S from rfl,ζd D,mP];rfl
  rw[f,ζb,b7];constructor
  .intro U;unfold fu;rw[if_pos (show o.l.length+1<=2147483648 from Zaa),ζb,bf]
   exact⟨⟨n+1,G,Zaa,by show(o.l++[_]).length=_;rw[u,w,U,ζi];rfl⟩,B⟩
  intro U;rw[bf];exact⟨⟨n+1,G,Zaa,by rw[u,w,U];rfl⟩,B⟩
 intro h;have v:¬(n:Int)<a:=by simpa using h
 refine(bf _).2 ((bf _).2 ?_);rw[show a.toNat=n from Zaa];exact I
section
variable{t:Z4}{A:b9 200 bB}{P:bR}{v:Nat}
theorem R8(a:Small t){n:Nat}(D:t.procs.l[n]?=some P){name:U'}{x:Var}(b:P.vars.l[v]?=some x)(G:(toList x.name==toList name)=true)
 (J:∀(j:Nat)(w:Var),j<v->P.vars.l[j]?=some w->(toList w.name==toList name)=false):kr t n name=some (v:Int):=by
 have z:=(ζe.1 b);have⟨z,C⟩:=z;have I:=(a.2 P (mem_of_getElem? D)).2.1;refine Wp.eq ?_;unfold kr;rw[gY,D,ζb];unfold kr.W1;refine fE (λi:Int=>∃n:Nat,i=n/\n<=v) (λi=>v-i.toNat) ⟨0,rfl,zero_le _⟩ ?_
 rintro _ ⟨i,rfl,c⟩;have u:i<P.vars.l.length:=Zaa
 unfold kr.bh;rw[fA u,bt,bz u,ζb]
 by_cases B:i=v
 .subst B;rw[C,G,bt,bf];exact(bf _).2 rfl
 rw[J i _ Zaa (ζd u),bA,bf,cr i Zaa]
 exact⟨⟨i+1,rfl,Zaa⟩,Zac⟩
theorem W9{e:WF}(B:e.assign.l.length<1073741824)(n:Nat)(i:Int):gM.W2 (n:Int) (v:Int) i e.assign 0 t=some (match nF e.assign.l v with|some x=>.r x|none=>.n (wrap .i64 (i-1))):=by
 refine Wp.eq ?_;unfold gM.W2;refine dU e.assign.l.length (λj s=>s=(j:Int)/\nF (e.assign.l.take j) v=none) ⟨rfl,by simp[nF]⟩ ?_ ?_;rintro j _ w ⟨rfl,z⟩;unfold gM.bH;rw[fA w,bt,bz w,ζb];have u:e.assign.l=e.assign.l.take j++e.assign.l[j]::e.assign.l.drop (j+1):=by rw[List.getElem_cons_drop,List.take_append_drop]
 unfold nF at z;rw[Option.map_eq_none_iff]at z;by_cases C:e.assign.l[j].var=(v:Int);rw[show(e.assign.l[j].var==(v:Int))=true from Zac,bt,ζb,bf];refine(bf _).2 ?_;grind[nF];rw[show(e.assign.l[j].var==(v:Int))=false from Zac,bA,bf,cr j Zaa];refine⟨rfl,?_⟩;grind[nF];simp_all[gM.bH,bA,bf]
theorem QG(b:Small t)(U:Ok t){n:Nat}(D:t.procs.l[n]?=some P)(B:v<P.vars.l.length){a:Nat}(W:a<=P.events.l.length):gM t n v (a:Int)=some (nP P v a):=by
 have C:=b.2 P (mem_of_getElem? D);have L:=R_.of U D;have I:idx t.procs (n:Int)=some P:=by rw[gY];exact D
 refine Wp.eq ?_;unfold gM gM.W1;rw[fV _ Zaa Zaa];refine fE (λi:Int=>∃k:Nat,i=(k:Int)-1/\k<=a/\nP P v k=nP P v a) (λi=>(i+1).toNat) ⟨a,rfl,le_refl _,rfl⟩ ?_;rintro _ ⟨k,rfl,d,w⟩;unfold gM.bh;by_cases c:k=0;subst c;rw[decide_eq_false Zaa,bA,bf];rw[I,ζb,bz B,ζb];refine(bf _).2 ?_;rw[<-w];grind[nP,iS];have z:k-1<P.events.l.length:=Zaa;have G:=getElem_mem z;have u:=HH L B (ζd z);rw[show k-1+1=k from Zaa]at u;rw[decide_eq_true Zaa,bt,I,ζb,show(k:Int)-1=((k-1:Nat):Int)from Zaa,bz z,ζb,W9 (C.2.2.2.2 _ G)];cases J:nF P.events.l[k-1].assign.l v with|some x=>rw[J]at u;rw[bf];refine(bf _).2 ?_;rw[<-w,u];rfl|none=>rw[J]at u;rw[bf,fV _ Zaa Zaa];exact⟨⟨k-1,rfl,Zaa,by rw[<-w,u];rfl⟩,Zac⟩
structure AtC(t:Trace)(A:b9 200 bB)(c:Sl Int)(l:Sl (Sl Int)):Prop where
 hS:Small t
 hv:cG t=some true
 hV:VT t
 hM:fR t (bL t) A
 hC:Cons t A c.l
 vals:∀(p:Nat)(P:bR)(a:Int),t.procs.l[p]?=some P->c.l[p]?=some a->∃x,l.l[p]?=some x/\x.l=iS P a.toNat
end
section
variable{t:Z4}
theorem Tm{p:T'}(B:oF p=true)(a:yL t p):tT p=some (rE p.kind,0):=by have u:=a.sm;have hd:=B;simp only[oF,ζh,decide_eq_true_eq]at hd;unfold tT;rw[Bh u,B,ζb,bt,HW u Zaa,a.y,ζb,bt,CH];rfl
theorem Ul{p:T'}(B:oF p=true)(a:yL t p):wL p=some (rE p.kind,0):=by have u:=a.sm;have hd:=B;simp only[oF,ζh,decide_eq_true_eq]at hd;unfold wL gE;rw[AZ u,B,ζb,bt,Ib p u a.f 100000 Zaa,a.y,ζb,bt,ES];rfl
end
section
variable{t:Z4}{A:b9 200 bB}
end
end Go.VE
namespace Go.VE
end Go.VE
namespace Go.VE
section
variable{t:Z4}
end
end Go.VE
namespace Go.VE
section
variable{t:Z4}
end
section
variable{t:Z4}{A:b9 200 bB}
end
section
variable{t:Z4}{A:b9 200 bB}{L:aX Rd}{tb:Sl X'}{x:b_}
theorem Ik(d:VT t)(B:eo t A L)(D:x.truth=tb)(J:A_ L (m_ x.index))(G:tb.l.length=L.length){out:Zb}(U:out.l.length<=5000)
 (W:∀z∈out.l,z=.nil\/Cons t A z.l):oH x out=some (!out.l.any λz=> !z.l.isEmpty&& !jq tb (L.idxOf z.l)):=by
 have w:=d.ok.one;unfold oH;rw[yF (p:=λz=>kB z (some x)) (f:=λz=> !z.l.isEmpty&& !jq tb (L.idxOf z.l)) (λz I=>?_) Zaa]
 .rfl
 unfold kB;rcases W z I with rfl|c
 .rfl
 have u:0<z.l.length:=by rw[c.1.1];omega
 have C:=(B.mem _).2 c;rw[xy u,ζb,bA,ζb,ζb,AG (yI d c) (by rw[c.1.1];exact d.few),ζb,J.get _ C,D,
  G_ (by rw[G];exact List.idxOf_lt_length_of_mem C),ζb,ζb]
 rw[show z.l.isEmpty=false from by cases h:z.l with
  |nil=>rw[h]at u;exact absurd u (by decide)|cons a b=>rfl]
 rfl
def Ans(t:Z4)(A:b9 200 bB)(L:aX Rd)(f:Nat->X')(a:X')(c:Rd)(q:Zg×Int):Prop:=(a=false/\q=(.nil,15))\/(a=true/\((q=(.nil,7)/\∀d,kz L f d->¬dV c d)\/∃w,q=(w,0)/\kz L f w.l/\dV c w.l/\∀d,kz L f d->dV c d->dV w.l d))
theorem TQ(e:Small t)(m:cG t=some true)(a:VT t)(f:fR t (bL t) A)(B:eo t A L)(n:L.length<=5000)(J:ins x.l=L)(U:x.t=t)(D:x.truth=tb)(W:A_ L (m_ x.index))(G:tb.l.length=L.length):
 ∃p,∀c:Zg,Cons t A c.l->∃q,hU x c=some q/\Ans t A L (jq tb) p c.l q:=by
 have H:=a.ok.one;have⟨out,r,K,g⟩:=HZ e a f B n J D W G;have s:∀z∈out.l,z=.nil\/Cons t A z.l:=λz v=>by have⟨i,j⟩:=getElem?_of_mem v;have M:=(ζe.1 j).1;have⟨o,g1,g2⟩:=g i _ (ζd (show i<L.length by omega));rw[j]at g1;cases g1;rcases g2 with⟨h,_⟩|⟨h,_⟩;exact .inl h;exact .inr h
 have O:=Ik a B D W G (out:=out) Zaa s
 refine⟨!out.l.any λz=> !z.l.isEmpty&& !jq tb (L.idxOf z.l),λc b=>?_⟩
 have k:=(B.mem _).2 b;have⟨cb,Q,I⟩:=(PB e m a f c).eq;have S:cb=true:=I.2 b;subst S;have⟨o,g1,g2⟩:=g _ _ (uG k);have T:idx out (L.idxOf c.l:Int)=some o:=by rw[gY];exact g1
 unfold hU;rw[U,Q,ζb,bt,r,ζb,AG (yI a b) (by rw[b.1.1];exact a.few),ζb,W.get _ k]
 unfold mc;rw[O,ζb]
 cases l: !out.l.any λz=> !z.l.isEmpty&& !jq tb (L.idxOf z.l)with
 |false=>exact⟨_,rfl,.inl ⟨rfl,rfl⟩⟩|true=>
  rw[bt,T,ζb];rcases g2 with⟨rfl,X⟩|⟨C,Y,Z,-⟩
  .exact⟨_,rfl,.inr ⟨rfl,.inl ⟨rfl,X⟩⟩⟩
  have u:0<o.l.length:=by rw[C.1.1];omega
  have⟨w,k1,k2⟩:=yJ (c:=o) (by rw[C.1.1];have:=a.few;omega) u
  have y:=(B.mem _).2 C;have E:jq tb (L.idxOf o.l)=true:=by simp only[Bool.not_eq_true',List.any_eq_false,ζh,Bool.not_eq_true,not_and,Bool.not_eq_false']at l;have:=l o (mem_of_getElem? g1);cases F:jq tb (L.idxOf o.l)with|true=>rfl|false=>rw[F]at this;cases d:o.l.isEmpty with|false=>rw[d]at this;simp at this|true=>rw[List.isEmpty_iff]at d;rw[d]at u;exact absurd u (by decide)
  rw[xy u,ζb,bA,ζb,k1];exact⟨_,rfl,.inr ⟨rfl,.inr ⟨w,rfl,by rw[k2];exact⟨y,E⟩,by rw[k2];exact Y,by rw[k2];exact Z⟩⟩⟩
end
theorem Nt{b c:X'}:bg b (some true) (some c)=some (b||c):=by cases b<;>rfl
section
variable{t:Z4}
theorem Xv(c:Small t)(G:(bL t).length<1073741824):∃b,fK t=some b:=by
 suffices h:Wp (fK t) λ_=>True by obtain⟨b,I,-⟩:=h;exact⟨b,I⟩
 have j:=c.1;obtain⟨v,-,w,B⟩:=B_ c G;obtain⟨J,C,u,-⟩:=B_ c G;have D:v=J:=by rw[w]at u;exact Option.some.inj u
 subst D;have ok:∀b:X',Wp (some b) λ_=>True:=λb=>(bf _).2 trivial;unfold fK;rw[b7];refine⟨λ_=>ok _,λ_=>?_⟩;unfold fK.W1;refine dU t.procs.l.length (λi(q:Int×Int)=>q.2=(i:Int)) rfl ?_ ?_;rintro i ⟨n,_⟩ a e;simp only at e;subst e;unfold fK.bh;dsimp only;rw[fA a,bt,bz a,ζb,xA (p:=λz=>rJ z) (f:=λx=>decide (len x.assign>12)) (λx _=>rfl) (c.2 _ (getElem_mem a)).1,ζb,Nt,ζb,b7];exact⟨λ_=>(bf _).2 (ok _),λ_=>(bf _).2 (cr i Zaa)⟩;rintro⟨n,_⟩ e;simp only at e;subst e;unfold fK.bh;dsimp only;rw[gw,bA,bf];show Wp (bg _ _ _) _;rw[b7];refine⟨λ_=>ok _,λ_=>?_⟩;rw[w,ζb];cases v with|false=>exact ok _|true=>rw[bt,b7];refine⟨λ_=>?_,λ_=>?_⟩;unfold fK.W2;refine dU t.procs.l.length (λi(q:Int×Int)=>q.2=(i:Int)) rfl ?_ ?_;rintro i ⟨n,_⟩ a e;simp only at e;subst e;unfold fK.bH;dsimp only;rw[fA a,bt,bz a,ζb,xA (p:=λz=>rO z) (f:=λx=>x.kind==3) (λx _=>rfl) (c.2 _ (getElem_mem a)).1,ζb,b7];exact⟨λ_=>(bf _).2 (ok _),λ_=>(bf _).2 (cr i Zaa)⟩;rintro⟨n,_⟩ e;simp only at e;subst e;unfold fK.bH;dsimp only;rw[gw,bA,bf];exact ok _;have d:=B rfl;obtain⟨A,-,-,g⟩:=d.msgs;rcases Fi c C d g with⟨L,r,s,-,-,-,h,-⟩|⟨-,h⟩;rw[h,ζb];exact ok _;rw[h,ζb];exact ok _
theorem LR:∀(n:Nat)(p:T'),p.Sm->∀l d:Int,0<=l->l<=300->0<=d->d<=61->62<=(n:Int)+d->
 ∃b m,dD (λr(z:T'×Int×Int)=>kI z.1 z.2.1 z.2.2 r) n (p,l,d)=some (b,m)/\-1<=m/\m<=l/\(b=true->0<=m)
 |0,p,B,l,d,h1,J,U,W,D=>absurd D Zaa|n+1,p,B,l,d,h1,J,U,W,D=>by have G:=LR n;rw[jC (Nat.succ_pos n)];show∃b m,kI p l d (dD (λr(z:T'×Int×Int)=>kI z.1 z.2.1 z.2.2 r) n)=some (b,m)/\_;generalize dD (λr(z:T'×Int×Int)=>kI z.1 z.2.1 z.2.2 r) n=R at G⊢;unfold kI;rw[fV _ Zaa Zaa];by_cases c:0<=l-1;rw[decide_eq_true (show l-1>=0 from c),bt,ζb];by_cases C:d<=60;rw[decide_eq_true C,bt];(cases I:decide (((ByteArray.size p.name:Nat):Int)<=100)with|false=>exact⟨false,l-1,rfl,Zaa,Zaa,λh=>by cases h⟩|true=>rw[ζb,bt,Hg (by have:=B.len;omega)];have key:∀(u:aX T'),(∀k∈u,k.Sm)->∀s:Int,0<=s->s<=299->∃b m,xJ (λx s=>lg x d s R) u s=some (b,m)/\-1<=m/\m<=s/\(b=false->0<=m):=(by intro u;induction u with|nil=>intro _ s g1 g2;exact⟨false,s,rfl,Zaa,Zaa,λ_=>g1⟩|cons k r w=>intro a s g1 g2;have⟨b,m,e1,e2,e3,e4⟩:=G k (a k (List.mem_cons_self ..)) s (d+1) g1 Zaa Zaa Zaa Zaa;have e:lg k d s R=some (!b,m):=(by unfold lg;rw[fV _ Zaa Zaa,e1];rfl);show∃b m,((lg k d s R).bind λy=>if y.1 then some (true,y.2)else xJ (λx s=>lg x d s R) r y.2)=some (b,m)/\_;rw[e,ζb];cases b with|false=>exact⟨true,m,rfl,e2,e3,λh=>by cases h⟩|true=>have⟨L,m',k1,k2,k3,k4⟩:=w (λx O=>a x (mem_cons_of_mem _ O)) m (e4 rfl) Zaa;refine⟨L,m',?_,k2,Zaa,k4⟩;exact k1);have⟨b,m,e1,e2,e3,e4⟩:=key p.l.l (λk a=>B.vz a) (l-1) c Zaa;rw[e1,ζb,ζb];exact⟨!b,m,rfl,e2,Zaa,λh=>e4 (by cases b;rfl;cases h)⟩);rw[decide_eq_false C,bA];exact⟨false,l-1,rfl,Zaa,Zaa,λh=>by cases h⟩;rw[decide_eq_false (show¬l-1>=0 from c),bA];exact⟨false,l-1,rfl,Zaa,Zaa,λh=>by cases h⟩
theorem abA(a:Small t)(D:(bL t).length<1073741824){p:T'}(B:p.Sm):∃b,ye t p=some b:=by have⟨s,d⟩:=Xv a D;unfold ye;rw[d,ζb];cases s with|false=>exact⟨_,rfl⟩|true=>obtain⟨b,m,e,-⟩:=LR 100000 p B 300 0 Zaa Zaa Zaa Zaa Zaa;have u:Ab p 300 0=some (b,m):=e;have w:=count_eq p B 100000 200 Zaa Zaa;have z:ki p 200=_:=w;have c:∃k,pF p=some k:=⟨_,by unfold pF;rw[z];rfl⟩;have⟨k,c⟩:=c;rw[bt,u,ζb,ζb];cases b with|false=>exact⟨_,rfl⟩|true=>simp only;rw[bt,c,ζb,ζb,Nt];exact⟨_,rfl⟩
theorem ZQ{A:b9 200 bB}(a:Small t)(d:VT t)(e:fR t (bL t) A)(c:Zg):∃b,qA t c=some b/\(b=true->Cons t A c.l):=by by_cases u:c.l.length=t.procs.l.length;have⟨b,w,h⟩:=PV a d e u;exact⟨b,w,h.1⟩;refine⟨false,?_,λh=>by cases h⟩;unfold qA nE;rw[show(len c==len t.procs)=false from by simp[len];omega];rfl
end
section
variable{t:Z4}{A:b9 200 bB}{L:aX Rd}{tb:Sl X'}{x:b_}
end
section
variable{t:Z4}
variable{A:b9 200 bB}{L:aX Rd}{tb:Sl X'}{x:b_}
theorem QT(a:VT t):Cons t A (replicate t.procs.l.length 0):=((Pb (t:=t) (A:=A) (z:=.row (replicate t.procs.l.length 0)) rfl _).1 (by simp[ins,Sl.l])).1
end
theorem NN:∀{a b:Rd},dV a b->a.sum<=b.sum/\(a.sum=b.sum->a=b)
 |[],[],_=>⟨Int.le_refl _,λ_=>rfl⟩|[],_::_,h=>nomatch h.1
 |_::_,[],h=>nomatch h.1
 |x::a,y::b,h=>by have e:=h.2 0 x y rfl rfl;have⟨f,w⟩:=NN (a:=a) (b:=b) ⟨by simpa using h.1,λp u v c d=>h.2 (p+1) u v c d⟩;grind
theorem RZ{α:Type}(P:α->Prop)(g:α->Nat):∀(n:Nat)(a:α),P a->g a<=n->∃m,P m/\∀b,P b->g m<=g b
 |0,a,h,B=>⟨a,h,λb _=>Zaa⟩|n+1,a,h,B=>by by_cases e:∃b,P b/\g b<g a;have⟨b,D,G⟩:=e;exact RZ P g n b D Zaa;grind
section
variable{t:Z4}{A:b9 200 bB}{L:aX Rd}{tb:Sl X'}{x:b_}
def Ic(L:aX Rd)(f:Nat->X')(g:Int->Int->Int):Prop:=∀a b,kz L f a->kz L f b->kz L f (zipWith g a b)
theorem YN(a:VT t)(D:eo t A L)(G:x.truth=tb)(Y:A_ L (m_ x.index))(J:tb.l.length=L.length){out:Zb}(B:out.l.length<=5000)
 (U:∀z∈out.l,z=.nil\/Cons t A z.l){i:Nat}{o:Zg}(b:out.l[i]?=some o):
 ∃q,mc x out (i:Int)=some q/\(q.2=15↔∃z∈out.l,Cons t A z.l/\jq tb (L.idxOf z.l)=false):=by
 have S:=a.ok.one;have I:=Ik a D G Y J (out:=out) B U;have O:idx out (i:Int)=some o:=by rw[gY];exact b
 have X:∀z:Zg,Cons t A z.l->z.l.isEmpty=false:=λz d=>by cases T:z.l.isEmpty with|false=>rfl|true=>have:=d.1.1;rw[List.isEmpty_iff]at T;rw[T]at this;grind
 unfold mc;rw[I,ζb]
 cases Z:out.l.any λz=> !z.l.isEmpty&& !jq tb (L.idxOf z.l)with
 |true=>
  have⟨z,W,u⟩:=any_eq_true.1 Z;rw[ζh,Bool.not_eq_true',Bool.not_eq_true']at u;refine⟨_,rfl,λ_=>⟨z,W,?_,u.2⟩,λ_=>rfl⟩
  rcases U z W with rfl|h
  all_goals grind[Sl.l]
 |false=>
  have Q:¬∃z∈out.l,Cons t A z.l/\jq tb (L.idxOf z.l)=false:=by grind
  rw[show(!false)=true from rfl,bt,O,ζb];rcases U o (mem_of_getElem? b)with rfl|C
  .exact⟨_,rfl,λh=>absurd h Zab,λh=>absurd h Q⟩
  have B:0<o.l.length:=by rw[C.1.1];omega
  have⟨w,k1,k2⟩:=yJ (c:=o) (by rw[C.1.1];have:=a.few;omega) B
  rw[xy B,ζb,bA,ζb,k1];simp_all
theorem YK{f:Nat->X'}{d:Rd}(h:d∈L)(B:f (L.idxOf d)=false):¬kz L f d:=λk=>by rw[k.2]at B;cases B
theorem Yh(l:VT t)(B:eo t A L){out:Zb}(q:out.l.length=L.length)
 (h:∀(i:Nat)c,L[i]?=some c->∃o,out.l[i]?=some o/\ZK t A L (jq tb) c o):
 (∃z∈out.l,Cons t A z.l/\jq tb (L.idxOf z.l)=false)↔¬Ic L (jq tb) je:=by
 have r:=l.ok.one;have u:∀{a b},kz L (jq tb) a->kz L (jq tb) b->a.length=b.length:=λD G=>((B.mem _).1 D.1).1.1.trans ((B.mem _).1 G.1).1.1.symm
 constructor
 .rintro⟨z,I,f,hf⟩ hM;have⟨i,j⟩:=getElem?_of_mem I;have s:=(ζe.1 j).1;have⟨o,g1,g2⟩:=h i _ (ζd (show i<L.length by omega))
  rw[j]at g1;cases g1;rcases g2 with⟨e,-⟩|⟨-,J,w,⟨d,hd,T⟩,U⟩
  .rw[e]at f;have:=f.1.1;rw[show(Sl.nil:Zg).l=[]from rfl,List.length_nil]at this;omega
  have⟨m,⟨C,O⟩,Q⟩:=RZ (λd=>kz L (jq tb) d/\dV L[i] d) (λd=>d.sum.toNat) d.sum.toNat d ⟨hd,T⟩ (le_refl _)
  have W:dV m z.l:=U m λe X Y=>by have I:=qm.of je (u C X);have⟨Z,S,g⟩:=I.le_min (u C X);have k:=hM m e C X;have:=Q _ ⟨k,g _ O Y⟩;have⟨v,n⟩:=NN Z;have p1:=((B.mem _).1 k.1).1.sum.1;rw[n Zaa]at S;exact S
  have:=dV.same W (w m C O);exact YK ((B.mem _).2 f) hf (this▸C)
 intro p;refine byContradiction λx=>p λa b D G=>?_
 have I:=qm.of je (u D G);have⟨Z,S,g⟩:=I.le_min (u D G);have f:=Jh ((B.mem _).1 D.1) ((B.mem _).1 G.1) I;have C:=(B.mem _).2 f;have⟨o,g1,g2⟩:=h _ _ (uG C);rcases g2 with⟨-,e⟩|⟨y,J,w,-⟩
 .grind
 have:=dV.same J (g _ (w a D Z) (w b G S));refine⟨C,?_⟩
 grind
theorem K2{g:Int->Int->Int}(c:∀x y,g x y=g y x):∀a b:Rd,zipWith g a b=zipWith g b a
 |[],b=>by cases b<;>rfl|a::u,[]=>rfl|a::u,b::v=>by simp only[zipWith,c a b,K2 c u v]
theorem TO{g:Int->Int->Int}(b:∀x,g x x=x):∀a:Rd,zipWith g a a=a
 |[]=>rfl|a::u=>Zad
theorem Q5{g:Int->Int->Int}(e:∀x y,g x y=g y x)(G:∀x,g x x=x){f:Nat->X'}{o:Zb}(B:∀y∈o.l,kz L f y.l)(D:∀d,kz L f d->∃y∈o.l,y.l=d):
 (∀(i j:Nat)a b,j<i->o.l[i]?=some a->o.l[j]?=some b->kz L f (zipWith g a.l b.l))↔Ic L f g:=by
 constructor
 .intro h a b u w;obtain⟨y,I,rfl⟩:=D a u;obtain⟨z,J,rfl⟩:=D b w
  grind[getElem?_of_mem,TO,K2]
 intro h i j a b _ c C;exact h _ _ (B a (mem_of_getElem? c)) (B b (mem_of_getElem? C))
theorem RG(x y:Int):je x y=je y x:=by unfold je;split<;>split<;>omega
def DP(L:aX Rd)(f:Nat->X')(g:Int->Int->Int)(l:aX Zg)(n m:Nat):Prop:=∀(i j:Nat)a b,j<i->(i<n\/i=n/\j<m)->l[i]?=some a->l[j]?=some b->kz L f (zipWith g a.l b.l)
theorem DP.step{f:Nat->X'}{g:Int->Int->Int}{l:aX Zg}{n m:Nat}{a b:Zg}(D:l[n]?=some a)(G:l[m]?=some b)(B:m<n):
 DP L f g l n (m+1)↔DP L f g l n m/\kz L f (zipWith g a.l b.l):=by
 constructor
 .intro h;exact⟨λi j x y c u=>h i j x y c Zaa,h n m a b B Zaa D G⟩
 rintro⟨h,k⟩ i j x y c u w z
 by_cases e:i=n/\j=m
 .grind
 exact h i j x y c Zaa w z
theorem DP.next{f:Nat->X'}{g:Int->Int->Int}{l:aX Zg}{n:Nat}:DP L f g l n n↔DP L f g l (n+1) 0:=⟨λh i j x y a u=>h i j x y a Zaa,λh i j x y a u=>h i j x y a Zaa⟩
end
section
variable{t:Z4}{A:b9 200 bB}
theorem Q0{c c':Zg}{l:Zb}(D:c'.l=c.l)(h:AtC t A c l)(q:T'):yL t q->q.kind<=8->∀n,q.dp<=n->
 ∃x,dD (λr(z:cq×T')=>eY z.1 z.2 r) n (⟨t,c,l⟩,q)=some x/\dD (λr(z:Z4×(Zg)×T')=>jM z.1 z.2.1 z.2.2 r) n (t,c',q)=some x:=by
 induction q using Pred.ind with
 |h q S=>
  intro K d n hn;have hd:=q.vc;obtain⟨E,hv,M,N,v,L⟩:=h;obtain⟨T,e,hy⟩:=K.here;obtain⟨k1,-,-⟩:=yx T;have S:=λq H=>S q H (K.vz H) (K.int Zaa H) (n-1) (by have:=Pred.rV H;omega)
  rw[jC Zaa,jC Zaa]
  show∃x,eY ⟨t,c,l⟩ q (dD (λr(z:cq×T')=>eY z.1 z.2 r) (n-1))=some x/\jM t c' q (dD (λr(z:Z4×(Zg)×T')=>jM z.1 z.2.1 z.2.2 r) (n-1))=some x
  generalize dD (λr(z:cq×T')=>eY z.1 z.2 r) (n-1)=R at S⊢
  generalize dD (λr(z:Z4×(Zg)×T')=>jM z.1 z.2.1 z.2.2 r) (n-1)=R' at S⊢
  unfold eY jM;rcases(show q.kind=1\/q.kind=2\/q.kind=3\/q.kind=4\/5<=q.kind by omega)with d|d|d|d|d
  .rw[d];exact⟨q.n,rfl,rfl⟩
  .unfold qy at e;rw[if_pos (by simpa using d)]at e
   simp only[ζh]at e;obtain⟨hp,-,U⟩:=e;obtain⟨i,hi,ab⟩:=HA E (p:=q.proc) (by simp only[ζh];exact hp) q.name
   rcases ab with⟨m,k,P,y,J,C,rfl,O,V,h2,-⟩|⟨-,W⟩
   .have X:=(ζe.1 O).1;have B:=(ζe.1 C).1;obtain⟨a,G⟩:=v.1.at_ B;obtain⟨a0,a1⟩:=v.1.2 m a P G C;obtain⟨x,hx,ad⟩:=L m P a C G;refine⟨nP P k a.toNat,?_,?_⟩
    .rw[d,show((2:Int)==1)=false from rfl,bA,show((2:Int)==2)=true from rfl,bt];unfold pR;simp only;rw[J,gY,C,ζb,En (p:=λz=>lq z q) (f:=λw=>toList w.name==toList q.name) (λ_ _=>rfl) (E.2 P (mem_of_getElem? C)).2.1,LB O V h2,ζb,gY,hx,ζb,gY,ad,ID _ X]
     rfl
    rw[d,show((2:Int)==1)=false from rfl,bA,show((2:Int)==2)=true from rfl,bt,J,R8 E C O V h2,ζb,gY,D,G,ζb];have:=QG E M.ok C X (a:=a.toNat) Zaa
    rw[show((a.toNat:Nat):Int)=a from Zaa]at this
    rw[this];rfl
   rw[W]at U;cases U
  .unfold qy at e;rw[if_neg (by simp[d]),if_pos (by simpa using d)]at e
   simp only[ζh]at e;obtain⟨m,J,B⟩:=xx (t:=t) (p:=q.proc) (by simp only[ζh];exact e.1)
   obtain⟨a,G⟩:=v.1.at_ B;refine⟨a,?_,?_⟩
   .rw[d,show((3:Int)==1)=false from rfl,bA,show((3:Int)==2)=false from rfl,bA,show((3:Int)==3)=true from rfl,bt];simp only;rw[J,gY,G];rfl
   rw[d,show((3:Int)==1)=false from rfl,bA,show((3:Int)==2)=false from rfl,bA,show((3:Int)==3)=true from rfl,bt,J,gY,D,G];rfl
  .unfold qy at e;rw[if_neg (by simp[d]),if_neg (by simp[d]),if_pos (by simpa using d)]at e
   simp only[ζh]at e;obtain⟨m,J,B⟩:=xx (t:=t) (p:=q.proc) (by simp only[ζh];exact e.1)
   obtain⟨o,ho,Q⟩:=xx (t:=t) (p:=q.peer) (by simp only[ζh];exact e.2.1)
   obtain⟨a,G⟩:=v.1.at_ B;obtain⟨b,hb⟩:=v.1.at_ Q;have C:=ζd B;have hQ:=ζd Q;obtain⟨⟨u,e2⟩,hu,ae,Y⟩:=VH E hv M N v B Q;simp only at ae Y;obtain⟨s,hs,F⟩:=MP (c:=c') E (by rw[D];exact v.1) C (by rw[D];exact G) o
   rw[D]at F;refine⟨len u,?_,?_⟩
   .rw[d,show((4:Int)==1)=false from rfl,bA,show((4:Int)==2)=false from rfl,bA,show((4:Int)==3)=false from rfl,bA,show((4:Int)==4)=true from rfl,bt];unfold qu;simp only;rw[J,ho,hu];rfl
   rw[d,show((4:Int)==1)=false from rfl,bA,show((4:Int)==2)=false from rfl,bA,show((4:Int)==3)=false from rfl,bA,show((4:Int)==4)=true from rfl,bt,J,ho,hs,ζb];show some ((s.l.length:Nat):Int)=some ((u.l.length:Nat):Int);rw[F,Y,HS M N v C hQ G hb]
  have I:∀j:Int,j<5->(q.kind==j)=false:=λj hj=>by simp;omega
  rw[I 1 Zaa,I 2 Zaa,I 3 Zaa,I 4 Zaa]
  simp only[bA];have hl:0<q.l.l.length:=by rcases(show q.kind=5\/q.kind=6\/q.kind=7\/q.kind=8 by omega)with g|g|g|g;have:=Pred.parts T (c:=1) (by rw[g];rfl);omega;have:=Pred.parts T (c:=2) (by rw[g];rfl);omega;have:=Pred.parts T (c:=2) (by rw[g];rfl);omega;have:=Pred.parts T (c:=2) (by rw[g];rfl);omega
  obtain⟨x,x1,x2⟩:=S _ (getElem_mem hl);have Z:idx q.l 0=some q.l.l[0]:=bz (i:=0) hl
  by_cases g:q.kind=5
  .rw[g,show((5:Int)==5)=true from rfl,bt,bt,Z,ζb,x1,ζb,ζb,x2,ζb];exact⟨_,rfl,rfl⟩
  have aa:1<q.l.l.length:=by have:=Pred.parts T (c:=2) (by rcases(show q.kind=6\/q.kind=7\/q.kind=8 by omega)with g|g|g<;>(rw[g];rfl));omega
  obtain⟨y,y1,y2⟩:=S _ (getElem_mem aa);have af:idx q.l 1=some q.l.l[1]:=bz (i:=1) aa;rw[Z,af];simp only[ζb,x1,x2,y1,y2];rw[show(q.kind==5)=false from by simpa using g,bA]
  cases q.kind==6<;>cases q.kind==7<;>exact⟨_,rfl,rfl⟩
theorem M3{c c':Zg}{l:Zb}(U:c'.l=c.l)(h:AtC t A c l)(q:T'):yL t q->9<=q.kind->q.dp<=20->q.gQ (λk=> !vo k)=true->∀n,q.dp<=n->
 ∃x,dD (λr(z:cq×T')=>fC z.1 z.2 r) n (⟨t,c,l⟩,q)=some x/\dD (λr(z:Z4×(Zg)×T')=>jP z.1 z.2.1 z.2.2 r) n (t,c',q)=some x:=by
 induction q using Pred.ind with
 |h q G=>
  intro a b W C n d;have hd:=q.vc;have⟨I,e,f⟩:=a.here;obtain⟨k1,k2,-⟩:=yx I;rw[q.lU,ζh,all_eq_true]at C;have X:q.kind<=17:=by have:=C.1;unfold vo at this;by_cases g:q.kind>=18;rw[decide_eq_true g,decide_eq_true (show q.kind<=21 by omega)]at this;cases this;omega
  have B:∀k∈q.l.l,k.kind<=8->∃x,e9 ⟨t,c,l⟩ k=some x/\ko t c' k=some x:=λk b Q=>Q0 U h k (a.vz b) Q 100000 (by have:=Pred.rV b;omega)
  have D:13<=q.kind->∀k∈q.l.l,9<=k.kind:=λg k b=>by have:=a.here.2.2;unfold rY at this;rw[all_eq_true]at this;have:=this k b;unfold yb rE at this;rw[if_neg (show¬q.kind<=12 by omega)]at this;by_cases Y:k.kind<=8;rw[if_pos Y]at this;cases this;omega
  have G:=λg q J=>G q J (a.vz J) (D g q J) (by have:=Pred.rV J;omega) (C.2 q J) (n-1) (by have:=Pred.rV J;omega)
  rw[jC Zaa,jC Zaa]
  show∃x,fC ⟨t,c,l⟩ q (dD (λr(z:cq×T')=>fC z.1 z.2 r) (n-1))=some x/\jP t c' q (dD (λr(z:Z4×(Zg)×T')=>jP z.1 z.2.1 z.2.2 r) (n-1))=some x
  generalize dD (λr(z:cq×T')=>fC z.1 z.2 r) (n-1)=R at G⊢
  generalize dD (λr(z:Z4×(Zg)×T')=>jP z.1 z.2.1 z.2.2 r) (n-1)=R' at G⊢
  unfold fC jP gb.J1
  by_cases L:q.kind<=12
  .have Z:=Pred.parts I (c:=2) (by rcases(show q.kind=9\/q.kind=10\/q.kind=11\/q.kind=12 by omega)with g|g|g|g<;>(rw[g];rfl))
   have u:0<q.l.l.length:=Zaa
   have w:1<q.l.l.length:=Zaa
   have⟨x,O,x2⟩:=B _ (getElem_mem u) (a.int L (getElem_mem u));have⟨y,S,T⟩:=B _ (getElem_mem w) (a.int L (getElem_mem w));rw[show idx q.l 0=some q.l.l[0]from bz (i:=0) u,show idx q.l 1=some q.l.l[1]from bz (i:=1) w];simp only[ζb,O,x2,S,T];rcases(show q.kind=9\/q.kind=10\/q.kind=11\/q.kind=12 by omega)with g|g|g|g<;>rw[g]<;>exact⟨_,rfl,rfl⟩
  by_cases j:q.kind<=14
  .rcases (show q.kind=13\/q.kind=14 by omega)with g|g<;>rw[g]<;>exact⟨_,rfl,rfl⟩
  have u:0<q.l.l.length:=by rcases(show q.kind=15\/q.kind=16\/q.kind=17 by omega)with g|g|g;have:=Pred.parts I (c:=1) (by rw[g];rfl);omega;have:=Pred.parts I (c:=2) (by rw[g];rfl);omega;have:=Pred.parts I (c:=2) (by rw[g];rfl);omega
  have⟨x,O,x2⟩:=G Zaa _ (getElem_mem u)
  rw[show idx q.l 0=some q.l.l[0]from bz (i:=0) u]
  by_cases g:q.kind=15
  .rw[g];simp only[ζb,O,x2];exact⟨_,rfl,rfl⟩
  have w:1<q.l.l.length:=by have:=Pred.parts I (c:=2) (by rcases(show q.kind=16\/q.kind=17 by omega)with g|g<;>(rw[g];rfl));omega
  have⟨y,S,T⟩:=G Zaa _ (getElem_mem w)
  rw[show idx q.l 1=some q.l.l[1]from bz (i:=1) w];simp only[ζb,O,x2,S,T];rcases(show q.kind=16\/q.kind=17 by omega)with g|g<;>rw[g]<;>cases x<;>exact⟨_,rfl,rfl⟩
end
section
variable{t:Z4}
theorem YU{m:aY (Zb×Int)}(U:pq t=m)(d:Small t)(hN:(bL t).length<1073741824){p:T'}(v:p.Sm):
 ∃r tb s ts f,iQ t p=some (r,tb,f)/\iO t p=some (ts,s,f)/\tb.l=ts.l/\(f=0->cG t=some true/\∃(A:b9 200 bB)(_:VT t)(_:fR t (bL t) A)(L:aX Rd),eo t A L/\L.length<=5000/\m=some (r,0)/\ins r=L/\ins s=L/\tb.l.length=L.length):=by
 have a:∀f:Int,f≠0->∃r tb s ts g,some ((Sl.nil:Zb),(Sl.nil:Sl X'),f)=some (r,tb,g)/\some ((Sl.nil:Sl X'),(Sl.nil:Zb),f)=some (ts,s,g)/\tb.l=ts.l/\(g=0->cG t=some true/\∃(A:b9 200 bB)(_:VT t)(_:fR t (bL t) A)(L:aX Rd),eo t A L/\L.length<=5000/\m=some (r,0)/\ins r=L/\ins s=L/\tb.l.length=L.length):=λf h=>⟨_,_,_,_,f,rfl,rfl,rfl,λh'=>absurd h' h⟩
 have⟨e,h1,h2,h3⟩:=OE d hN v;unfold iQ iO zT;rw[h1,h2,ζb,ζb]
 by_cases W:e=0
 .subst W;have⟨j,c,X,y⟩:=h3 rfl;have hd:=X;simp only[oF,ζh,decide_eq_true_eq]at hd;obtain⟨A,-,-,k⟩:=c.msgs;unfold vE;rw[show((0:Int)==0)=true from rfl,bt,bt,Tm X y,Ul X y,ζb,ζb];simp only;rw[show((0:Int)==0)=true from rfl,bt]
  cases hk:rE p.kind==2 with
  |false=>exact a 14 (by decide)|true=>
   rw[show(!true)=false from rfl,ζb,bA,bt,ζb,ζb,show((0:Int)==0)=true from rfl,bt,bt,L6 v,Kz v,X,ζb,ζb]
   cases ht:p.gQ λq=> !vo q with
   |false=>exact a 15 (by decide)|true=>
    rw[show(true&& !true)=false from rfl,bA,bA];have I:rE p.kind=2:=by simpa using hk
    have h9:9<=p.kind:=by unfold rE at I;by_cases h:p.kind<=8;rw[if_pos h]at I;cases I;omega
    rcases Fi d j c k with⟨L,r,s,C,M,E,b,B,J⟩|⟨E,b⟩
    .have G:pq t=some (r,0):=by unfold pq;rw[E];rfl
     have S:r.l.length=s.l.length:=by rw[<-k_ r,B,<-J,k_]
     have ad:r.l.length<=5000:=by rw[<-k_ r,B];exact M
     have O:∀x∈r.l,Cons t A x.l:=λx hx=>(C.mem _).1 (by rw[<-B];exact qZ.2 ⟨x,hx,rfl⟩)
     have h8:=c.few
     let g:Nat->X':=λi=>(qe t (s.l[i]?.getD .nil) p).getD false
     have N:∀(i:Nat)(F:i<r.l.length)(Z:i<s.l.length),∃l,jH t r.l[i]=some (l,0)/\gb ⟨t,r.l[i],l⟩ p=some (g i)/\qe t s.l[i] p=some (g i):=λi F Z=>by have P:=O _ (getElem_mem F);have⟨⟨l,z⟩,a1,a2,a3,a4⟩:=ab_ d j c k P;simp only at a2 a3 a4;subst a2;have aa:s.l[i].l=r.l[i].l:=(by have Y:=u_ F;have Q:=u_ Z;rw[B]at Y;rw[J]at Q;rw[Y]at Q;exact(Option.some.inj Q).symm);have⟨x,H,x2⟩:=M3 aa ⟨d,j,c,k,P,a4⟩ p y h9 Zaa ht 100000 Zaa;have T:g i=x:=(by show(qe t (s.l[i]?.getD .nil) p).getD false=x;rw[ζd Z,Option.getD_some,show qe t s.l[i] p=some x from x2];rfl);exact⟨l,a1,by rw[T];exact H,by rw[T];exact x2⟩
     have p1:Wp (iQ.W1 r (Sl.nil:Sl X') r (len r) 0 t p) λw=>w.1=r/\w.2.1.l=(range r.l.length).map g/\w.2.2=0:=by unfold iQ.W1;refine dU r.l.length (λn s=>s.2=(n:Int)/\s.1.l=(range n).map g) ⟨rfl,rfl⟩ ?_ ?_;rintro n ⟨o,_⟩ u ⟨e1,e2⟩;simp only at e1 e2;subst e1;have ab:o.l.length=n:=(by rw[e2];simp);obtain⟨l,H,x2,-⟩:=N n u Zaa;unfold iQ.bh;rw[fA u,bt,bz u,ζb,H,ζb];simp only;rw[show((0:Int)==0)=true from rfl,bt,x2,ζb];have D:fu o (g n)=some (.row (o.l++[g n])):=(by unfold fu;rw[if_pos Zaa]);rw[D,ζb,bf,cr n Zaa];refine⟨rfl,?_⟩;show o.l++[g n]=_;rw[e2,range_succ,map_append];rfl;rintro⟨o,_⟩ ⟨e1,e2⟩;simp only at e1 e2;subst e1;unfold iQ.bh;rw[gw,bA,bf];exact(bf _).2 ⟨rfl,e2,rfl⟩
     have p2:Wp (iO.W1 s (Sl.nil:Sl X') 0 t p) λw=>w.1.l=(range r.l.length).map g/\w.2.1=s/\w.2.2=0:=by unfold iO.W1;refine dU s.l.length (λn s=>s.2=(n:Int)/\s.1.l=(range n).map g) ⟨rfl,rfl⟩ ?_ ?_;rintro n ⟨o,_⟩ u ⟨e1,e2⟩;simp only at e1 e2;subst e1;have ab:o.l.length=n:=(by rw[e2];simp);obtain⟨l,-,-,x3⟩:=N n Zaa u;unfold iO.bh;rw[fA u,bt,bz u,ζb,x3,ζb];have D:fu o (g n)=some (.row (o.l++[g n])):=(by unfold fu;rw[if_pos Zaa]);rw[D,ζb,bf,cr n Zaa];refine⟨rfl,?_⟩;show o.l++[g n]=_;rw[e2,range_succ,map_append];rfl;rintro⟨o,_⟩ ⟨e1,e2⟩;simp only at e1 e2;subst e1;unfold iO.bh;rw[gw,bA,bf];exact(bf _).2 ⟨by rw[S];exact e2,rfl,rfl⟩
     have⟨⟨r',tb,z⟩,Y,Q,K,R⟩:=p1;simp only at Q K R;subst Q R;have⟨⟨ts,s',z'⟩,u1,V,u3,u4⟩:=p2;simp only at V u3 u4;subst u3 u4;rw[G,b,ζb,ζb];simp only;rw[show((0:Int)==0)=true from rfl,bt,bt,Y,u1];exact⟨_,_,_,_,0,rfl,rfl,by rw[K,V],λ_=>⟨j,A,c,k,L,C,M,U▸G,B,J,by rw[K];simp;rw[<-k_ r',B]⟩⟩
    have G:pq t=some (.nil,16):=by unfold pq;rw[E];rfl
    rw[G,b,ζb,ζb];exact a 16 (by decide)
 rw[show(e==0)=false from by simpa using W,bA,bA,ζb,show(e==0)=false from by simpa using W,bA]
 exact a e W
end
theorem aaN{s:Zb}{c:Zg}(B:s.l.length<1073741824)(a:∀x∈s.l,x.l.length<1073741824):pP s c=some (place (λd:Zg=>decide (c.l=d.l)) s.l):=(uN (p:=λx=>eT x c) (f:=λd:Zg=>decide (c.l=d.l)) (λx u=>by rw[HI (a x u)];congr 1;exact decide_eq_decide.2 eq_comm) Zaa (λi=>rfl):)
section
variable{t:Z4}{A:b9 200 bB}
theorem GU.one{L:aX Rd}{l:Sl X'}{F:Rd->Rd->X'}{i k D B:Nat}{a b a' G:Rd}(h:GU L l F i k a b)(g:GU L l F D B a' G):a=a'/\b=G:=by
 have⟨c,u,w,z,C,I,J,O⟩:=h;have⟨g1,g2,g3,g4,g5,g6,g7,Q⟩:=g;have S:¬i<D:=λe=>by have:=Q i k e c a b u w z C;rw[I]at this;cases this
 have T:¬D<i:=λe=>by have:=O D B e g1 a' G g2 g3 g4 g5;rw[g6]at this;cases this
 have e:i=D:=Zaa;subst e;have U:¬k<B:=λe=>by have:=g7 k c e a b u w z C;rw[I]at this;cases this
 have W:¬B<k:=λe=>by have:=J B g1 e a' G g2 g3 g4 g5;rw[g6]at this;cases this
 have e:k=B:=Zaa;subst e;rw[u]at g2;rw[w]at g3;cases g2;cases g3;exact⟨rfl,rfl⟩
end
section
variable{t:Z4}{A:b9 200 bB}{L:aX Rd}{ts tb:Sl X'}
theorem UE(h:tb.l=ts.l):jq tb=jq ts:=by funext i;unfold jq;rw[h]
theorem NZ{a b:Zg}(D:a.l.length=b.l.length)(B:a.l.length<1073741824):∃r,iU a b=some r/\r.l=zipWith je a.l b.l:=by
 have key:Wp (iU a b) λr=>r.l=zipWith je a.l b.l:=by unfold iU iU.W1;refine dU a.l.length (λi(s:Zg×Int)=>s.2=(i:Int)/\s.1.l=(zipWith je a.l b.l).take i) ⟨rfl,by simp[Sl.l]⟩ ?_ ?_;rintro i ⟨o,_⟩ c ⟨rfl,e⟩;simp only at e;have u:i<(zipWith je a.l b.l).length:=(by simp_all);have⟨o2,k1,k2⟩:=oK (s:=o) (x:=je a.l[i] (b.l[i]' Zaa)) Zac;unfold iU.bh;dsimp only;rw[fA c,bt,bz c,ζb,bz (s:=b) (i:=i) Zaa,ζb];grind[je,bf,cr,take_add_one];rintro⟨o,_⟩ ⟨rfl,e⟩;simp only at e;unfold iU.bh;dsimp only;rw[gw,bA,bf];grind[bf]
 have⟨r,d,w⟩:=key;grind
structure Sat(t:Trace)(A:b9 200 bB)(L:List (List Int))(f:Nat->Bool)(o:Sl (Sl Int)):Prop where
 n:o.l.length<=5000
 i:∀y∈o.l,kz L f y.l
 a:∀d,kz L f d->∃y∈o.l,y.l=d
theorem true_eq(B:eo t A L)(G:L.length<=5000){s:Zb}(b:ins s=L)(D:ts.l.length=L.length):∃o,jG ts s=some o/\Sat t A L (jq ts) o:=by
 have z:s.l.length=L.length:=by rw[<-b,k_]
 have w:∀(i:Nat)(a:i<s.l.length),L[i]?=some s.l[i].l:=λi a=>by have:=u_ a;grind
 have key:Wp (jG ts s) λo=>Sat t A L (jq ts) o:=by unfold jG jG.W1;refine dU ts.l.length (λi(q:Zb×Int)=>q.2=(i:Int)/\q.1.l.length<=i/\(∀y∈q.1.l,kz L (jq ts) y.l)/\∀(j:Nat)(c:Rd),j<i->L[j]?=some c->jq ts j=true->∃y∈q.1.l,y.l=c) ⟨rfl,le_refl _,λy C=>by grind[Sl.l],λj c h=>absurd h Zaa⟩ ?_ ?_;rintro i ⟨o,_⟩ a ⟨rfl,e1,e2,e3⟩;simp only at e1 e2 e3;have u:i<s.l.length:=(by omega);unfold jG.bh;dsimp only;rw[fA a,bt,G_ a,ζb];(cases I:jq ts i with|false=>rw[bA,bf];grind[cr]|true=>have⟨o2,k1,k2⟩:=oK (s:=o) (x:=s.l[i]) Zaa;rw[bt,bz u,ζb,k1,ζb,bf];have J:kz L (jq ts) s.l[i].l:=⟨mem_of_getElem? (w i u),by rw[sA B.nodup (w i u)];omega⟩;grind[cr]);rintro⟨o,_⟩ ⟨rfl,e1,e2,e3⟩;simp only at e1 e2 e3;unfold jG.bh;dsimp only;rw[gw,bA,bf];refine(bf _).2 ⟨Zac,e2,λd hd=>?_⟩;have a:=uG hd.1;have:=(ζe.1 a).1;exact e3 _ d Zaa a hd.2
 exact key
theorem VJ{f:Nat->X'}{o:Zb}(B:eo t A L)(a:VT t)(D:Sat t A L f o)(c:Zg):∃b,vi o c=some b/\(b=true↔kz L f c.l):=by have C:=a.few;have:=D.n;unfold vi;rw[aaN Zaa (λx w=>by rw[((B.mem _).1 (D.i x w).1).1.1];omega),ζb];refine⟨_,rfl,?_⟩;rw[uw,any_eq_true];constructor;rintro⟨y,u,h⟩;rw[of_decide_eq_true h];exact D.i y u;intro h;have⟨y,u,z⟩:=D.a _ h;grind
theorem Mm{f:Nat->X'}(B:eo t A L){a b:Rd}(D:kz L f a)(G:kz L f b):a.length=b.length:=((B.mem _).1 D.1).1.1.trans ((B.mem _).1 G.1).1.1.symm
theorem YC(B:eo t A L)(c:VT t){f:Nat->X'}{o:Zb}(D:Sat t A L f o):∃b,fF o=some b/\(b=true↔Ic L f je):=by
 have W:=c.few;have X:=D.n;rw[<-Q5 RG (λx=>by grind[je]) D.i D.a];have key:Wp (fF o) λb=>(b=true↔∀(i j:Nat)a b,j<i->o.l[i]?=some a->o.l[j]?=some b->kz L f (zipWith je a.l b.l)):=by unfold fF fF.W1;refine dU o.l.length (λn(s:Int)=>s=(n:Int)/\DP L f je o.l n 0) ⟨rfl,λi j x y d Q=>absurd Q Zaa⟩ ?_ ?_;rintro n _ z ⟨rfl,e1⟩;have C:=ζd z;unfold fF.bh;rw[fA z,bt];unfold fF.W2;refine dU n (λm(s:Int)=>s=(m:Int)/\DP L f je o.l n m) ⟨rfl,e1⟩ ?_ ?_;rintro m _ S ⟨rfl,e1⟩;have u:m<o.l.length:=(by omega);have G:=ζd u;have w:=D.i _ (getElem_mem z);have I:=D.i _ (getElem_mem u);have⟨r,r1,r2⟩:=NZ (a:=o.l[n]) (b:=o.l[m]) (Mm B w I) (by rw[((B.mem _).1 w.1).1.1];omega);have⟨b,T,J⟩:=VJ B c D r;unfold fF.bH;rw[decide_eq_true Zaa,bt,bz z,ζb,bz u,ζb,r1,ζb,T,ζb];rw[r2]at J;(cases b with|true=>rw[bt,bf];exact⟨cr m Zaa,(DP.step C G S).2 ⟨e1,J.1 rfl⟩⟩|false=>rw[bA,bf];grind[bf]);rintro _ ⟨rfl,e1⟩;grind[fF.bH,bA,bf,cr,DP.next];rintro _ ⟨rfl,e1⟩;unfold fF.bh;rw[gw,bA,bf];exact(bf _).2 ⟨λ_ i j a b d O U=>e1 i j a b d (.inl (ζe.1 O).1) O U,λ_=>rfl⟩
 exact key
theorem abF(B:eo t A L)(m:VT t){f:Nat->X'}{o:Zb}(J:Sat t A L f o)(p:Ic L f je){c:Zg}(v:Cons t A c.l):
 ∃w b,gP o c=some (w,b)/\(b=false->∀d,kz L f d->¬dV c.l d)/\(b=true->kz L f w.l/\dV c.l w.l/\∀d,kz L f d->dV c.l d->dV w.l d):=by
 have F:=m.few;have H:=J.n;have key:Wp (gP o c) λq=>(q.2=false->∀d,kz L f d->¬dV c.l d)/\(q.2=true->kz L f q.1.l/\dV c.l q.1.l/\∀d,kz L f d->dV c.l d->dV q.1.l d):=by
  unfold gP gP.W1;refine dU o.l.length (λn(s:Zg×X'×Int)=>s.2.2=(n:Int)/\(s.2.1=false->∀(k:Nat)y,k<n->o.l[k]?=some y->¬dV c.l y.l)/\(s.2.1=true->kz L f s.1.l/\dV c.l s.1.l/\∀(k:Nat)y,k<n->o.l[k]?=some y->dV c.l y.l->dV s.1.l y.l))
   ⟨rfl,λ_ k y h=>absurd h Zaa,λh=>by cases h⟩ ?_ ?_
  .rintro n ⟨w,l,_⟩ C ⟨rfl,e1,e2⟩;simp only at e1 e2;have Y:=ζd C;have I:=J.i _ (getElem_mem C);have⟨Z,O,Q⟩:=(ac1 (a:=c) (b:=o.l[n]) (by rw[v.1.1];omega)).eq;unfold gP.bh;dsimp only;rw[fA C,bt,bz C,ζb,O,ζb]
   cases Z with
   |false=>have K:¬dV c.l (o.l[n]).l:=λh=>Zac;rw[bA,bf];grind[cr]|true=>
    have D:=Q.1 rfl;rw[bt];have step:∀u:Zg,kz L f u.l->dV c.l u.l->(∀(k:Nat)y,k<n->o.l[k]?=some y->dV c.l y.l->dV u.l y.l)->Wp (gP.J2 o c u (n:Int)) λs=>match s with
     |.n s=>s.2.2=((n+1:Nat):Int)/\(s.2.1=false->∀(k:Nat)y,k<n+1->o.l[k]?=some y->¬dV c.l y.l)/\(s.2.1=true->kz L f s.1.l/\dV c.l s.1.l/\∀(k:Nat)y,k<n+1->o.l[k]?=some y->dV c.l y.l->dV s.1.l y.l)|.x e=>False|.r e=>False:=λu i S T=>by
     have z:=Mm B i I;have⟨r,r1,r2⟩:=NZ (a:=u) (b:=o.l[n]) z (by rw[((B.mem _).1 i.1).1.1];omega)
     have⟨U,x,W⟩:=(qm.of je z).le_min z;have X:=p _ _ i I;rw[<-r2]at U x W X;unfold gP.J2;rw[bz C,ζb,r1,ζb,bf];refine⟨cr n Zaa,λh=>(by cases h),λ_=>⟨X,W _ S D,λk y j G g=>?_⟩⟩
     by_cases e:k=n
     .grind
     exact U.trans (T k y Zaa G g)
    cases l with|true=>rw[bt];have⟨a1,a2,a3⟩:=e2 rfl;exact(step w a1 a2 a3).mono λs E=>by all_goals grind|false=>rw[bA,ζb];exact(step _ I D λk y j G g=>absurd g (e1 rfl k y j G)).mono λs E=>by all_goals grind
  rintro⟨w,l,_⟩ ⟨rfl,e1,e2⟩;simp only at e1 e2;unfold gP.bh;dsimp only;rw[gw,bA,bf];refine(bf _).2 ⟨λh d hd=>?_,λh=>⟨(e2 h).1,(e2 h).2.1,λd hd g=>?_⟩⟩;obtain⟨y,G,rfl⟩:=J.a d hd;grind[mem_iff_getElem?];obtain⟨y,G,rfl⟩:=J.a d hd;grind[mem_iff_getElem?]
 have⟨⟨w,b⟩,M,N,P⟩:=key
 grind
end
theorem VX:∀{c m:Rd},dV c m->c=m\/∃(i:Nat)(a b:Int),(∀j,j<i->c[j]?=m[j]?)/\c[i]?=some a/\m[i]?=some b/\a<b
 |[],[],_=>.inl rfl|[],_::_,h=>nomatch h.1
 |_::_,[],h=>nomatch h.1
 |x::c,y::m,h=>by
  have k:=h.2 0 x y rfl rfl;by_cases e:x=y;subst e;rcases VX (c:=c) (m:=m) ⟨by simpa using h.1,λp u v d f=>h.2 (p+1) u v d f⟩with rfl|⟨i,a,b,g,z,B,C⟩;exact .inl rfl;exact .inr ⟨i+1,a,b,λj w=>by
   cases j with
   |zero=>rfl|succ j=>exact g j Zaa,z,B,C⟩
  exact .inr ⟨0,x,y,λj w=>absurd w Zaa,rfl,rfl,Zaa⟩
section
variable{t:Z4}{A:b9 200 bB}{L:aX Rd}{tb:Sl X'}{x:b_}
end
def Am:ST->Nat
 |[]=>1|n::l=>(n+1)*Am l
section
variable{t:Z4}{A:b9 200 bB}{L:aX Rd}{tb:Sl X'}{x:b_}
theorem XT{c w:Zg}{m:Rd}(f:c.l.length<1073741824)(B:w.l=m)(D:dV c.l m){i:Nat}{a b:Int}(d:∀j,j<i->c.l[j]?=m[j]?)(J:c.l[i]?=some a)(U:m[i]?=some b)(W:a<b):
 dB.W1 c w (len c) 0=some ((i:Int),0):=by
 have G:=(ζe.1 J).1;have O:=D.1;have key:Wp (dB.W1 c w (len c) 0) λe=>e=((i:Int),0):=by unfold dB.W1;refine dU i (λn(q:Int)=>q=(n:Int)) rfl (λn q L I=>?_) λq I=>?_;subst I;have u:n<c.l.length:=(by omega);have z:n<w.l.length:=(by rw[B];omega);have C:=d n L;rw[<-B,ζd u,ζd z]at C;unfold dB.bh;rw[fA u,bt,bz z,ζb,bz u,ζb,Option.some.inj C,decide_eq_false Zaa,bA,bf];exact cr n Zaa;subst I;unfold dB.bh;rw[fA G,bt,gY,B,U,ζb,gY,J,ζb,decide_eq_true Zaa,bt,bf];exact(bf _).2 rfl
 obtain⟨e,C,rfl⟩:=key;exact C
theorem SC(b:Small t)(f:cG t=some true)(a:VT t)(d:fR t (bL t) A)(B:eo t A L)(g:L.length<=5000)(U:ins x.l=L)(W:x.t=t)(Y:x.truth=tb)(x4:A_ L (m_ x.index))(J:tb.l.length=L.length):
 ∃e,(e=true↔Ic L (jq tb) je)/\(∀c:Zg,Cons t A c.l->∃q,hU x c=some q/\Ans t A L (jq tb) e c.l q)/\∀c:Zg,¬Cons t A c.l->hU x c=some (.nil,18):=by
 have l:=a.few;have X:Cons t A (replicate t.procs.l.length 0):=QT a;have I:0<L.length:=List.length_pos_of_mem ((B.mem _).2 X);have S:=ζd I;have C:=(B.mem _).1 (getElem_mem I);have⟨e,T⟩:=TQ b f a d B g U W Y x4 J;have⟨q,k1,k2⟩:=T (.row L[0]) C;have⟨m,n,p,Z⟩:=HZ b a d B g U Y x4 J;obtain⟨u,r,-⟩:=Z 0 _ S;have s:∀z∈m.l,z=.nil\/Cons t A z.l:=λz v=>by have⟨i,j⟩:=getElem?_of_mem v;have H:=(ζe.1 j).1;have⟨o,g1,g2⟩:=Z i _ (ζd (show i<L.length by omega));rw[j]at g1;cases g1;exact g2.imp (λh=>h.1) λh=>h.1
 have⟨k,p1,p2⟩:=YN a B Y x4 J Zaa s r
 have g3:q.2=15↔¬Ic L (jq tb) je:=by rw[<-Yh a B p Z,<-p2];have⟨cb,O,D⟩:=(PB b f a d (.row L[0])).eq;have Q:cb=true:=D.2 C;subst Q;have y:L.idxOf (Sl.row L[0]).l=0:=sA B.nodup S;unfold hU at k1;rw[W,O,ζb,bt,n,ζb,AG (c:=.row L[0]) (yI a C) (by show L[0].length<=8;rw[C.1.1];exact l),ζb,x4.get (Sl.row L[0]).l ((B.mem _).2 C),y,p1]at k1;have:(k.1,k.2)=q:=Option.some.inj k1;rw[<-this]
 refine⟨e,?_,T,λc E=>?_⟩
 .constructor
  .intro h;refine byContradiction λF=>?_
   have:=g3.2 F;rcases k2 with⟨G,-⟩|⟨-,⟨G,-⟩|⟨w,G,-⟩⟩
   .rw[h]at G;cases G
   .rw[G]at this;simp at this
   rw[G]at this;simp at this
  intro h;rcases k2 with⟨-,G⟩|⟨G,-⟩
  .exact absurd h (g3.1 (by rw[G]))
  exact G
 have⟨cb,O,D⟩:=(PB b f a d c).eq;have Q:cb=false:=by cases cb with|false=>rfl|true=>exact absurd (D.1 rfl) E
 subst Q;unfold hU;rw[W,O,ζb,bA]
theorem VB(f:Small t)(g:cG t=some true)(d:VT t)(i:fR t (bL t) A)(B:eo t A L)(G:L.length<=5000){p:T'}{r:Zb}(j:qg t p=some (tb,0))(J:pq t=some (r,0))(e:ins r=L)(D:tb.l.length=L.length):
 ∃a,(a=true↔Ic L (jq tb) je)/\(∀c:Zg,Cons t A c.l->∃q,mC t p c=some q/\Ans t A L (jq tb) a c.l q)/\∀c:Zg,¬Cons t A c.l->mC t p c=some (.nil,18):=by
 obtain⟨U,C,x,rfl,I,x2,O,x4⟩:=Tg d B G e tb;have u:xk t p=some (some x,0):=by unfold xk;rw[j,ζb];simp only;rw[show((0:Int)==0)=true from rfl,bt,J,ζb];simp only;rw[show((0:Int)==0)=true from rfl,bt,C];rfl
 have w:∀c q,hU x c=some q->mC t p c=some q:=λc q h=>by unfold mC;rw[u,ζb];simp only;rw[show((0:Int)==0)=true from rfl,bt,ζb,h];rfl
 have⟨a,Q,S,T⟩:=SC f g d i B G (by rw[x2];exact e) I O x4 D
 exact⟨a,Q,λc b=>(S c b).imp λq z=>⟨w c q z.1,z.2⟩,λc b=>w c _ (T c b)⟩
theorem XY(a:Small t)(d:VT t)(e:fR t (bL t) A)(c:Zg):∃b,qA t c=some b/\(b=true↔Cons t A c.l):=by by_cases u:c.l.length=t.procs.l.length;exact PV a d e u;have⟨b,f,w⟩:=ZQ a d e c;exact⟨b,f,w,λh=>absurd h.1.1 u⟩
theorem Jf(g:Small t)(F:(bL t).length<1073741824){p:T'}(H:p.Sm)(c:Zg):
 ∃q r,mC t p c=some q/\pQ t p c=some r/\q.1.l=r.1.l/\q.2=r.2/\q.1.l.length<1073741824/\(q.2=0->dV c.l q.1.l/\c.l.length<1073741824):=by
 have⟨r,tb,s,ts,e,K,j,k,k2⟩:=YU rfl g F H;have l:qg t p=some (tb,e):=by unfold qg;rw[K];rfl
 by_cases Q:e=0
 .subst Q;have⟨M,A,a,m,L,u,B,N,P,S,C⟩:=k2 rfl;have aa:=a.few;have⟨cl,n,R,V⟩:=VB g M a m u B l N P C;have⟨o,o1,T⟩:=true_eq (ts:=ts) (s:=s) u B S (by rw[<-k];exact C)
  rw[<-UE k]at T;have⟨v,b2,x⟩:=YC u a T;have⟨y,i1,i2⟩:=XY g a m c;have D:nr t p=some (o,0):=by unfold nr;rw[j,ζb];simp only;rw[show((0:Int)==0)=true from rfl,bt,o1];rfl
  have G:∀d,kz L (jq tb) d->d.length<1073741824:=λd hd=>by rw[((u.mem _).1 hd.1).1.1];omega
  have hR:pQ t p c=(bg y (bg v ((gP o c).bind λI=>bg I.2 (some (I.1,0)) (some (Sl.nil,7))) (some (Sl.nil,15))) (some (Sl.nil,18)):aY (Zg×Int)):=by unfold pQ;rw[D,ζb];simp only;rw[show((0:Int)==0)=true from rfl,bt,i1,ζb,b2,ζb]
  rw[hR]
  cases y with
  |false=>
   have f:¬Cons t A c.l:=λh=>by have:=i2.2 h;cases this
   exact⟨_,_,V c f,bA ..,rfl,rfl,by simp[Sl.l],λh=>absurd h Zab⟩
  |true=>
   have f:=i2.1 rfl;have⟨q,U,E⟩:=R c f;refine⟨q,?_⟩;rw[bt]
   cases v with
   |false=>
    have hn:¬Ic L (jq tb) je:=λh=>by have:=x.2 h;cases this
    rcases E with⟨-,rfl⟩|⟨h,-⟩
    .exact⟨_,U,bA ..,rfl,rfl,by simp[Sl.l],λh=>absurd h Zab⟩
    exact absurd (n.1 h) hn
   |true=>
    have J:=x.1 rfl;have W:=n.2 J;have⟨w,b,f1,f2,i⟩:=abF u a T J (c:=c) f;rw[bt,f1,ζb];rcases E with⟨h,-⟩|⟨-,⟨rfl,X⟩|⟨w',rfl,Y,z,Z⟩⟩
    .rw[W]at h;cases h
    .cases b with
     |true=>exact absurd (i rfl).2.1 (X _ (i rfl).1)|false=>exact⟨_,U,rfl,rfl,rfl,by simp[Sl.l],λh=>absurd h Zab⟩
    cases b with
    |false=>exact absurd z (f2 rfl _ Y)|true=>have⟨t1,t2,t3⟩:=i rfl;exact⟨_,U,rfl,dV.same (Z _ t1 t2) (t3 _ Y z),rfl,G _ Y,λ_=>⟨z,by rw[f.1.1];omega⟩⟩
 have O:(e==0)=false:=beq_eq_false_iff_ne.2 Q;refine⟨(.nil,e),(.nil,e),?_,?_,rfl,rfl,by simp[Sl.l],λh=>absurd h Q⟩
 .unfold mC xk;rw[l,ζb];simp only;rw[O,bA,ζb];simp only;rw[O,bA]
 unfold pQ nr;rw[j,ζb];simp only;rw[O,bA,ζb];simp only;rw[O,bA]
theorem Sn{c w:Zg}(a:c.l.length<1073741824)(h:c.l=w.l):dB.W1 c w (len c) 0=some (0,7):=by
 have key:Wp (dB.W1 c w (len c) 0) λe=>e=(0,7):=by unfold dB.W1;refine dU c.l.length (λn(q:Int)=>q=(n:Int)) rfl (λn q u z=>?_) λq z=>?_;subst z;have B:n<w.l.length:=(by rw[<-h];exact u);have C:w.l[n]=c.l[n]:=(by simp only[h]);unfold dB.bh;rw[fA u,bt,bz B,ζb,bz u,ζb,C,decide_eq_false Zaa,bA,bf];exact cr n Zaa;subst z;unfold dB.bh;rw[gw,bA,bf];exact(bf _).2 rfl
 obtain⟨e,C,rfl⟩:=key;exact C
theorem Pf{c w:Zg}(a:c.l.length<1073741824)(h:c.l=w.l):dF.W1 c w 0=some (0,7):=by
 have key:Wp (dF.W1 c w 0) λe=>e=(0,7):=by unfold dF.W1;refine dU c.l.length (λn(q:Int)=>q=(n:Int)) rfl (λn q u z=>?_) λq z=>?_;subst z;have B:n<w.l.length:=(by rw[<-h];exact u);have C:w.l[n]=c.l[n]:=(by simp only[h]);unfold dF.bh;rw[fA u,bt,bz B,ζb,bz u,ζb,C,decide_eq_false Zaa,bA,bf];exact cr n Zaa;subst z;unfold dF.bh;rw[gw,bA,bf];exact(bf _).2 rfl
 obtain⟨e,C,rfl⟩:=key;exact C
theorem Vt{c w:Zg}{m:Rd}(f:c.l.length<1073741824)(B:w.l=m)(D:dV c.l m){i:Nat}{a b:Int}(d:∀j,j<i->c.l[j]?=m[j]?)(J:c.l[i]?=some a)(U:m[i]?=some b)(W:a<b):
 dF.W1 c w 0=some ((i:Int),0):=by
 have G:=(ζe.1 J).1;have O:=D.1;have key:Wp (dF.W1 c w 0) λe=>e=((i:Int),0):=by unfold dF.W1;refine dU i (λn(q:Int)=>q=(n:Int)) rfl (λn q L I=>?_) λq I=>?_;subst I;have u:n<c.l.length:=(by omega);have z:n<w.l.length:=(by rw[B];omega);have C:=d n L;rw[<-B,ζd u,ζd z]at C;unfold dF.bh;rw[fA u,bt,bz z,ζb,bz u,ζb,Option.some.inj C,decide_eq_false Zaa,bA,bf];exact cr n Zaa;subst I;unfold dF.bh;rw[fA G,bt,gY,B,U,ζb,gY,J,ζb,decide_eq_true Zaa,bt,bf];exact(bf _).2 rfl
 obtain⟨e,C,rfl⟩:=key;exact C
theorem RR(g:Small t)(G:(bL t).length<1073741824){p:T'}(J:p.Sm)(c:Zg):∃q,dB t c p=some q/\dF t c p=some q:=by have⟨q,r,h,I,B,L,Q,O⟩:=Jf g G J c;unfold dB dF;rw[h,ζb,I,ζb,<-L];by_cases z:q.2=0;have⟨u,d⟩:=O z;rw[show(q.2==0)=true from by rw[z];rfl,bt,bt];rcases VX u with e|⟨i,a,b,f,C,D,w⟩;exact⟨_,Sn d e,Pf d (e.trans B)⟩;exact⟨_,XT d rfl u f C D w,Vt d B.symm u f C D w⟩;rw[beq_eq_false_iff_ne.2 z,bA,bA];exact⟨_,rfl,rfl⟩
theorem MQ(a:Small t)(B:(bL t).length<1073741824){p:T'}(D:p.Sm){c:Zg}:nQ t c p=some true:=by
 have⟨w,u⟩:=abA a B D;unfold nQ;rw[show zb=some true from rfl,ζb,bt,u,ζb];cases w with|false=>rfl|true=>
 rw[bt,ζb];cases decide (len c>20)with|true=>rfl|false=>
 rw[bA];obtain⟨q,r,b,z,C,G,I,-⟩:=Jf a B D c;have⟨f,d,e⟩:=RR a B D c;rw[b,ζb,d,ζb,z,ζb,e,ζb,Ka I,decide_eq_true C,ζb,bt,G,show(r.2==r.2)=true from Zab,ζb,bt,show(f.1==f.1)=true from Zab,ζb,bt,show(f.2==f.2)=true from Zab];rfl
end
end Go.VE
namespace Go.VE
theorem CT{α:Type}[cu α]{x:α}:∀{l:aX α},x∈l->cu.wt x<=(l.map cu.wt).sum
 |y::l,h=>by simp only[map_cons,sum_cons];rcases mem_cons.1 h with rfl|h;omega;have:=CT h;omega
theorem yK{α:Type}[cu α](h:∀x:α,1<=cu.wt x):∀(l:aX α),l.length<=(l.map cu.wt).sum
 |[]=>le_refl _|y::l=>by simp only[map_cons,sum_cons,length_cons];have:=yK h l;have:=h y;omega
theorem Dt{α:Type}[cu α](s:Sl α):cu.wt s=(s.l.map cu.wt).sum+1:=rfl
theorem DL(p:Int):∀(es:aX WF)(j:Int),(jL p j es).length=es.length
 |[],_=>rfl|_::es,j=>by simp only[jL,length_cons,DL p es]
theorem LH:∀(ps:aX bR)(i:Int),(gG i ps).length<=(ps.map cu.wt).sum
 |[],_=>le_refl _|p::ps,i=>by simp only[gG,ζi,DL,map_cons,sum_cons];have a:=LH ps (i+1);have u:=yK (α:=WF) (λx=>le_add_left ..) p.events.l;have w:cu.wt p=cu.wt p.name+cu.wt p.vars+cu.wt p.events+1:=rfl;have z:=Dt p.events;omega
theorem TR{t:Z4}(h:cu.wt t<=1048576):Small t/\(bL t).length<1073741824:=by have b:cu.wt t=cu.wt t.procs+1:=rfl;have c:=Dt t.procs;have B:=yK (α:=bR) (λx=>le_add_left ..) t.procs.l;have C:=LH t.procs.l 0;refine⟨⟨Zaa,λp u=>?_⟩,by show(gG 0 t.procs.l).length<_;omega⟩;have D:=CT u;have G:cu.wt p=cu.wt p.name+cu.wt p.vars+cu.wt p.events+1:=rfl;have I:=Dt p.events;have J:=Dt p.vars;have L:=yK (α:=WF) (λx=>le_add_left ..) p.events.l;have O:=yK (α:=Var) (λx=>le_add_left ..) p.vars.l;have w:cu.wt p.name=p.name.size+1:=rfl;refine⟨Zaa,Zaa,Zaa,λv a=>?_,λe z=>?_⟩;have k1:=CT a;have k2:cu.wt v=cu.wt v.name+cu.wt v.init_+1:=rfl;have k3:cu.wt v.name=v.name.size+1:=rfl;omega;have k1:=CT z;have k2:cu.wt e=cu.wt e.kind+cu.wt e.peer+cu.wt e.message+cu.wt e.time+cu.wt e.assign+1:=rfl;have k3:=Dt e.assign;have k4:=yK (α:=Assign) (λx=>le_add_left ..) e.assign.l;omega
theorem abX(p:T'):cu.wt p<=1048576->p.Sm:=by induction p using Pred.ind with|h p w=>intro h;have a:∃m,cu.wt p=m+Pred.Wh p.l+1:=(by cases p;exact⟨_,rfl⟩);have⟨m,a⟩:=a;have b:=Pred.wtE p.l;have z:=Dt p.l;have B:=yK (α:=T') (λx=>by cases x;exact le_add_left ..) p.l.l;unfold Pred.Sm;rw[p.lU,ζh,all_eq_true];refine⟨decide_eq_true Zaa,λq u=>w q u ?_⟩;have:=CT u;omega
end Go.VE
namespace Go.Proofs.YtgnmmpchdcccbaaGreatDoor
open Go.ChangeShapes Go.WideShapes Go.ChangeAt Go.RowKit Go.VE
theorem own:ownKnob Tryz.prog.godebug=none:=by kernel_rfl
theorem kids:Kids Tryz.prog (·<Tryz.prog.types.size):=kids_rows Zag Zag
theorem full:∀t e,t<Tryz.prog.types.size->Tryz.prog.underlying t=some (.slice e)->0<Tryz.prog.cellsOf e:=slices_full_of Tryz.prog Zag
theorem Ax{H:Type}:∀l:aX (DataW H),Rows.uptoBulkAll l=(l.map Rows.uptoBulk).sum
 |[]=>by simp[Rows.uptoBulkAll]|d::r=>by simp[Rows.uptoBulkAll,Ax r]
theorem K3{H:Type}:u6 (H:=H) Rows.uptoBulk where
 lit l:=by cases l<;>simp[Rows.uptoBulk]
 str s:=by simp[Rows.uptoBulk]
 nil:=by simp[Rows.uptoBulk]
 slice es u:=by rw[Rows.uptoBulk,Ax,Ax];omega
 agg ps:=by rw[Rows.uptoBulk,Ax];exact le_refl _
theorem O8:Tryz.prog.globalNamed "antecede/predtype.parts" =some 0:=by kernel_rfl
theorem VI:(Tryz.prog.globals[0]?).map (·.type)=some 196:=by kernel_rfl
theorem table{W:World}(h:laidMetH Tryz.prog Rows.linearForbidsUptoRow.laid W):Lib.TabIs Tryz.prog W "antecede/predtype.parts" .i64 E_:=Lib.tabIs_of_head (rest:=[]) O8 VI Tryz.underlying196 Tryz.underlying3 Zag Zag h
theorem abt{W:World}(h:laidMetH Tryz.prog Rows.linearForbidsUptoRow.laid W):wq (snap W):=λg cs a=>by
 change(if Nat.beq g 0 then some (E_.map (V.int .i64))else none)=some cs at a;split at a;next u=>cases a;have:g=0:=Nat.eq_of_beq_eq_true u;subst this;exact Vq (λi b=>(table h).cell O8 i b) (by decide)
 cases a
set_option maxRecDepth 100000 in
theorem MS(H:Type)(enc:W'×V'->H)(W:World)(base:Nat)(args:Array V')(ds a:aX (DataW H))(before:aX MemPlace)
 (B:∀(j:Nat)t v,Tryz.f3.params[j]?=some t->args[j]?=some v->Value.okWide Tryz.prog W .any base t v)
 (D:DataW.Whole enc Tryz.prog Tryz.f3.params.toList Rows.linearForbidsSpec.vars false W args.toList ds a before)(b:Rows.uptoSmall H (ds++a)=true)(U:laidMetH Tryz.prog Rows.linearForbidsUptoRow.laid W):
 Calls Tryz.prog 3 args W λe G=>∃v,e=.returned v/\Rows.linearForbidsSpec.post enc Tryz.prog Tryz.f3 false true false false W args v G:=by
 have u:=D;obtain⟨p,q,z,c,rfl,S,T⟩:=D;have I:DataW.TrodAll enc Tryz.prog W 0 (λ_=>true) true Tryz.f3.params.toList args.toList ds p:=z
 rw[Tryz.params3]at I B;obtain⟨J,X,Y,Z,R,q0,C,rfl,rfl,d,g⟩:=trodAll_cons I;obtain⟨L,aa,h,ab,p1,q1,rfl,rfl,rfl,i,r1⟩:=trodAll_cons g;obtain⟨O,ad,k,ae,p2,q2,rfl,rfl,rfl,l,r2⟩:=trodAll_cons r1;obtain⟨rfl,rfl,rfl⟩:=trodAll_nil r2;obtain rfl:args=#[J,L,O]:=by cases args;simp_all
 obtain⟨rfl,rfl⟩:=trodVars_none c;have⟨a0,m,k0,n⟩:=Reads.O3 (t:=24) (α:=VE.Trace) B 0 rfl rfl d;have⟨a1,o,k1,s⟩:=Reads.O3 (t:=25) (α:=Zg) B 1 rfl rfl i;have⟨a2,x,k2,y⟩:=Reads.O3 (t:=28) (α:=VE.Pred) B 2 rfl rfl l;have hb:cu.wt a0+cu.wt a1+cu.wt a2<=1048576:=by have c0:=n Rows.uptoBulk K3;have c1:=s Rows.uptoBulk K3;have c2:=y Rows.uptoBulk K3;have Q:Rows.uptoBulkAll ([Y,h,k]++[])<=1048576:=of_decide_eq_true b;rw[Ax]at Q;simp only[List.append_nil,map_cons,List.map_nil,sum_cons,List.sum_nil]at Q;omega
 have⟨A,E⟩:=TR (t:=a0) Zaa
 have F:gV cL 3 [VE.enc a0,VE.enc a1,VE.enc a2]=some [.bool true]:=by have K:(nQ a0 a1 a2).bind (λr:X'=>some [V.bool r])=some [.bool true]:=(by rw[MQ A E (abX a2 Zaa)];rfl);exact(Aa a0 a1 a2).F.h () _ K
 have:=Qh (P:=Tryz.prog) JC DA calls (f:=3) (xs:=[VE.enc a0,VE.enc a1,VE.enc a2]) (by simp[V.cH,V.good,kP]) F (w:=W) (args:=#[J,L,O]) (abt U) (cO.cons m (cO.cons o (cO.cons x .nil)))
 refine this.mono λe G⟨M,N⟩=>?_
 subst M;exact⟨_,rfl,Su kids full (by rw[Tryz.params3];decide) rfl rfl rfl Tryz.underlying4 u N⟩
noncomputable def Cj(os:Os):World:=
 {World.holding Tryz.prog os ⟨#[],#[],[]⟩with heap:=(World.holding Tryz.prog os ⟨#[],#[],[]⟩).heap.modify 0 fun
  |.cells _ t frozen=>.cells (E_.map (Value.int .i64)).toArray t frozen|o=>o}
theorem U_(os:Os):laidMet Tryz.prog Rows.linearForbidsUptoRow.laid ((Cj os).forCall (λ_ _=>0) ⟨#[],#[.agg #[.slice none 0 0],.slice none 0 0,.agg #[.int .i64 0,.int .i64 0,.int .i64 0,.int .i64 0,.string ByteArray.empty,.slice none 0 0]],[]⟩).memory:=laidMet_of_run' 8 Zag Zag
theorem TV(os:Os){H:Type}(enc:W'×V'->H):∃places,DataW.whole enc Tryz.prog ((Cj os).forCall (λ_ _=>0) ⟨#[],#[.agg #[.slice none 0 0],.slice none 0 0,.agg #[.int .i64 0,.int .i64 0,.int .i64 0,.int .i64 0,.string ByteArray.empty,.slice none 0 0]],[]⟩).memory Tryz.f3.params.toList Rows.linearForbidsSpec.vars false (#[.agg #[.slice none 0 0],.slice none 0 0,.agg #[.int .i64 0,.int .i64 0,.int .i64 0,.int .i64 0,.string ByteArray.empty,.slice none 0 0]]:Array V').toList 8=some ([.agg [.nil],.nil,.agg [.lit (.int .i64 0),.lit (.int .i64 0),.lit (.int .i64 0),.lit (.int .i64 0),.lit (.string []),.nil]],[],places):=⟨[],by kernel_rfl⟩
set_option maxRecDepth 100000 in
theorem QC(os:Os)(B:os.Started)(H:Type)(enc:W'×V'->H)(F:Stop.Interp):
 ReturnsInHanded {} Tryz.checked os 3 .any ((Rows.OpenSpec.upto Rows.linearForbidsSpec).preRow enc Tryz.prog Tryz.f3 Rows.linearForbidsUptoRow.domain false Rows.linearForbidsUptoRow.laid) (((Rows.OpenSpec.upto Rows.linearForbidsSpec).at F).post enc Tryz.prog Tryz.f3 false true false false):=by
 have⟨places,z⟩:=TV os enc;refine returnsInHanded_of_row (C:=Tryz.checked) (s:=Rows.OpenSpec.upto Rows.linearForbidsSpec) own B Zag Tryz.func3
  (witness_row_at (enc:=enc) (C:=Tryz.checked) false (Cj os) #[.agg #[.slice none 0 0],.slice none 0 0,.agg #[.int .i64 0,.int .i64 0,.int .i64 0,.int .i64 0,.string ByteArray.empty,.slice none 0 0]] rfl Zag Zag Zag
   (OpenSpec.preRow_of_cond 8 z Zag (λk a=>by cases a;kernel_rfl) Zag (U_ os))) ?_
 intro W base args ds b before w D _ u _ G _ _;exact MS H enc W base args ds b before w D (u _ rfl) G
theorem YA:Rows.LinearForbidsUptoSaid:=
 OpenClaim.holds_of_cond 3 Tryz.f3 rfl rfl rfl rfl rfl rfl rfl ⟨rfl,rfl,rfl,rfl,rfl⟩ rfl rfl rfl rfl rfl Zag Tryz.func3 Zag
  (of_decide_eq_true Zag) (by unfold Func.isWrapper;first|(rw[if_pos (by decide+kernel)];kernel_rfl)|(rw[if_neg (by decide+kernel)];exact⟨rfl,rfl⟩))
  (λos u H enc _ F=>by rw[OpenClaim.pre_eq_preRow];exact QC os u H enc F)
theorem T8(f:Y')(fn:Func)(D:Tryz.pinned.checked.prog.funcNamed "antecede/antecedelaw32.LinearForbids" =some f)(B:Tryz.pinned.checked.prog.funcs[f]?=some fn):
 false=Tryz.pinned.checked.prog.looks []/\∀(j:Nat)t,fn.params[j]?=some t->Tryz.pinned.checked.prog.wantsStandIn t=false:=by
 obtain rfl:f=3:=Option.some.inj ((show Tryz.prog.funcNamed "antecede/antecedelaw32.LinearForbids" =some 3 by kernel_rfl).symm.trans D)|>.symm
 obtain rfl:fn=Tryz.f3:=(Option.some.inj (Tryz.func3.symm.trans B)).symm;refine⟨by kernel_rfl,λj t z=>?_⟩
 rw[Tryz.params3]at z;have C:t∈[24,25,28]:=by simpa using Array.mem_of_getElem? z
 have w:([24,25,28].all λu=> !Tryz.prog.wantsStandIn u)=true:=by kernel_rfl
 exact(show Tryz.prog.wantsStandIn t=false by simpa using all_eq_true.1 w t C)
theorem linearForbidsProved:Rows.LinearForbidsUptoCardSaid:=Claim7.holds_tied_plain_at .later [] _ _ _ _ YA (λ_ h=>by cases h) Zag (λ_ h=>by cases h) linearForbidsUpto_row_tie rfl ⟨rfl,rfl⟩ Zag rfl T8 Zag
#print axioms linearForbidsProved
end Go.Proofs.YtgnmmpchdcccbaaGreatDoor
