/-
 LinearEnds says true for all arguments that together are of bulk at most 1048576, and they read behind the call as they read before: for every such argument, without a condition.
-/
import Derived.Test.YtbglidfgdmhlnaaGreatDoorRows
import Derived.Test.YtbglidfgdmhlnaaGreatDoorCards
import Derived.Test.YtbglidfgdmhlnaaGreatDoorTie
import Derived.Deep.DeepHandedRow
import Derived.Test.YtbglidfgdmhlnaaGreatDoorK1
import Derived.Test.YtbglidfgdmhlnaaGreatDoorL1
set_option linter.all false
open List(all_cons all_eq_true any_eq_true countP countP_append countP_cons countP_nil ext_getElem? find?_eq_none getElem?_eq_none getElem?_map getElem?_of_mem getElem?_set getElem?_set_self getElem_mem length_cons length_set length_take map_append map_cons mem_append_left mem_cons mem_cons_of_mem mem_iff_getElem? mem_map mem_of_getElem? range range_succ replicate sum_cons take_add_one take_length zipWith)
open Classical(byContradiction)
open Empty(elim)
open Nat(le_add_left le_refl zero_le)
open ByteArray(toList)
open Go.IntKind(signed wrap)
namespace Go.VE
theorem Zag{p:Prop}(h:p:=by kernel_rfl):p:=h
theorem sR{α:Type}{s:Sl α}(h:0<s.l.length):Sl.isNil s=some false:=by cases s with|nil=>exact absurd h (Nat.lt_irrefl 0)|emp=>exact absurd h (Nat.lt_irrefl 0)|row l=>rfl|part l=>rfl
theorem XS(x y:Int):qx (Sl.row [x,y])=some (ji x y):=by
 have h:Wp (dB (Sl.row [x,y])) λm=>m=if y<x then y else x:=by unfold dB;rw[show decide (len (Sl.row [x,y])<1)=false from rfl,bz];unfold dB.J1;rw[show idx (Sl.row [x,y]) 0=some x from rfl,ζb];unfold dB.W2;refine dH 1 (λi(q:Int×Int)=>(i=0/\q=(x,1))\/(i=1/\q=(if y<x then y else x,2))) (.inl ⟨rfl,rfl⟩) ?_ ?_;rintro i ⟨m,k⟩ b (⟨rfl,e⟩|⟨rfl,e⟩);cases e;unfold dB.bF;dsimp only;rw[show decide ((1:Int)<len (Sl.row [x,y]))=true from rfl,br,show idx (Sl.row [x,y]) 1=some y from rfl,ζb,a_];exact .inr ⟨rfl,rfl⟩;omega;rintro⟨m,k⟩ (⟨h,_⟩|⟨_,e⟩);omega;cases e;unfold dB.bF;dsimp only;rw[show decide ((2:Int)<len (Sl.row [x,y]))=false from rfl,bz,a_];exact(a_ _).2 rfl
 unfold qx;have⟨m,a,u⟩:=h;rw[a,u];unfold ji;grind
theorem Ya{a b:Zg}(D:a.l.length=b.l.length)(g:0<a.l.length)(U:a.l.length<=8):Wp (ec (Sl.row [a,b]) (λz=>qx z)) λo=>o.l=zipWith ji a.l b.l:=by
 have G:=mB.of ji D;unfold ec;have⟨d,l,u⟩:=um (c:=a) Zaa g;obtain⟨v,I,L⟩:∃v,gB (Sl.row [a,b]) (some 1) none=some v/\v.l=[b]:=Ad (Sl.row [a,b]) 1 (Nat.le_succ 1);rw[show idx (Sl.row [a,b]) 0=some a from rfl,ζb,l,ζb,I,ζb];unfold ec.W1;have f:len v=1:=Zac;have m:idx v 0=some b:=by unfold idx;grind
 refine dH 1 (λi(q:Zg×Int)=>(i=0/\q=(d,0))\/(i=1/\q.1.l=zipWith ji a.l b.l/\q.2=1)) (.inl ⟨rfl,rfl⟩) ?_ ?_;rintro i ⟨o,k⟩ J (⟨rfl,e⟩|⟨rfl,-,-⟩);cases e;unfold ec.bh;dsimp only;rw[f,show decide ((0:Int)<1)=true from rfl,br,m,ζb];unfold ec.W2;refine dH d.l.length (λn(q:Zg×Int)=>q.2=(n:Int)/\q.1.l.length=a.l.length/\∀j:Nat,q.1.l[j]?=if j<n then(zipWith ji a.l b.l)[j]?else a.l[j]?) ⟨rfl,by rw[u],λj=>Zac⟩ ?_ ?_;rintro n ⟨o,_⟩ O ⟨rfl,g1,g2⟩;simp only at g1 g2;have w:n<a.l.length:=by grind
 have B:n<b.l.length:=Zaa;unfold ec.bF;dsimp only;rw[show decide ((n:Int)<len d)=true from Zac,br,qX Zaa,ζb];unfold Sl.get;rw[g2 n,if_neg Zaa,ζd w,ζb,bA B,ζb,XS,ζb,ζb];have⟨o2,k1,k2⟩:=put_eq (s:=o) (p:=n) (x:=ji a.l[n] b.l[n]) Zaa;rw[k1,ζb,a_];refine⟨bZ n Zaa,by show o2.l.length=_;simp_all,λj=>?_⟩;show o2.l[j]?=_;grind;rintro⟨o,_⟩ ⟨rfl,g1,g2⟩;simp only at g1 g2;unfold ec.bF;dsimp only;rw[fW,bz,a_];refine(a_ _).2 (.inr ⟨rfl,ext_getElem? λj=>?_,rfl⟩);rw[g2 j];by_cases C:j<d.l.length;rw[if_pos C];rw[if_neg C,getElem?_eq_none (by rw[<-u];omega),getElem?_eq_none (by rw[G.1,<-u];omega)];omega;rintro⟨o,k⟩ (⟨h,_⟩|⟨_,e,e2⟩);cases h;simp only at e e2;subst e2;unfold ec.bh;dsimp only;rw[f,show decide ((1:Int)<1)=false from rfl,bz,a_];exact(a_ _).2 e
theorem cK.same{a b:Rd}(h:cK a b)(k:cK b a):a=b:=by refine List.ext_getElem h.1 λj c u=>?_;have:=h.2 j _ _ (ζd c) (ζd u);have:=k.2 j _ _ (ζd u) (ζd c);omega
def fG(L:aX Rd)(f:Nat->X')(d:Rd):Prop:=d∈L/\f (L.idxOf d)=true
section
variable{t:Z4}{A:cg 200 bC}{L:aX Rd}{tb:Sl X'}{x:bY}
def Low(t:Z4)(A:cg 200 bC)(L:aX Rd)(f:Nat->X')(c:Rd)(o:Zg):Prop:=(o=.nil/\∀d,fG L f d->¬cK c d)\/(Cons t A o.l/\cK c o.l/\(∀d,fG L f d->cK c d->cK o.l d)/\(∃d,fG L f d/\cK c d)/\∀e,(∀d,fG L f d->cK c d->cK e d)->cK e o.l)
theorem AH{c:Rd}{p:Nat}(h:p<c.length):cK c (bump c p 1):=⟨vP.symm,λq x y w u=>by
 rw[zk (ζd h)]at u
 grind⟩
theorem IS(hS:Small t)(r:VT t)(hM:f_ t (bL t) A)(B:dz t A L)(h5:L.length<=5000)(E:ins x.l=L)(av:x.truth=tb)(hx:zB L (mj x.index))(aH:tb.l.length=L.length):
 Wp (dQ x) λout=>out.l.length=L.length/\∀(i:Nat)c,L[i]?=some c->∃o,out.l[i]?=some o/\Low t A L (fI tb) c o:=by
 have R:=r.few;have aG:=r.ok.one;have aw:x.l.l.length=L.length:=by rw[<-E,iZ]
 unfold dQ;have ax:len x.l=(L.length:Int):=by simp only[len,aw]
 rw[ax,show nR (L.length:Int) (Sl.nil:Zg)=some (.row (replicate L.length Sl.nil))from by unfold nR;rw[if_pos ⟨Zaa,Zaa⟩];rfl,ζb,fJ _ Zaa Zaa]
 unfold dQ.W1;refine dH L.length (λm(q:Zb×Int)=>q.2=(L.length:Int)-1-(m:Int)/\q.1.l.length=L.length/\(∀(j:Nat)c,L.length-m<=j->L[j]?=some c->∃o,q.1.l[j]?=some o/\Low t A L (fI tb) c o)/\∀j:Nat,j<L.length-m->q.1.l[j]?=some .nil)
  ⟨Zab,by simp[Sl.l],λj c Q b=>absurd (ζe.1 b).1 Zaa,λj Q=>by
   show(replicate L.length (Sl.nil:Zg))[j]?=_;rw[List.getElem?_replicate,if_pos Zaa]⟩ ?_ ?_
 .rintro m ⟨out,_⟩ hm ⟨rfl,g1,g2,g3⟩;simp only at g1 g2 g3;obtain⟨i,hi⟩:∃i:Nat,i+m+1=L.length:=⟨L.length-1-m,Zaa⟩
  have W:i<L.length:=Zaa
  have J:=ζd W;have F:=(B.mem _).1 (getElem_mem W);unfold dQ.bh;dsimp only;rw[show(L.length:Int)-1-(m:Int)=(i:Int)from Zaa,decide_eq_true (show(i:Int)>=0 by omega),br,av,DJ Zaa,ζb,show(i:Int)-1=(L.length:Int)-1-((m+1:Nat):Int)from Zaa]
  cases H:fI tb i with
  |true=>
   have V:i<x.l.l.length:=Zaa
   have X:x.l.l[i].l=L[i]:=by have:=sP V;rw[E,J]at this;exact(Option.some.inj this).symm
   have⟨o2,k1,k2⟩:=put_eq (s:=out) (p:=i) (x:=x.l.l[i]) Zaa
   rw[br,bA V,ζb,qX Zaa,ζb,k1,ζb,a_]
   refine⟨fJ _ Zaa Zaa,by show o2.l.length=_;rw[k2,length_set];exact g1,λj c Q b=>?_,λj Q=>?_⟩
   .show ∃o,o2.l[j]?=some o/\_;rw[k2,getElem?_set]
    by_cases e:i=j
    .subst e;rw[J]at b;cases b;exact⟨_,by rw[if_pos rfl,if_pos Zaa],.inr ⟨by rw[X];exact F,by rw[X];exact cK.refl _,λd _ hd=>by rw[X];exact hd,⟨_,⟨getElem_mem W,by rw[pH B.nodup J];exact H⟩,cK.refl _⟩,λe g=>by rw[X];exact g _ ⟨getElem_mem W,by rw[pH B.nodup J];exact H⟩ (cK.refl _)⟩⟩
    rw[if_neg e];exact g2 j c Zaa b
   show o2.l[j]?=_;rw[k2,getElem?_set,if_neg Zaa];exact g3 j Zaa
  |false=>
   rw[bz,en];refine(YI hS r B E hx J).mono λl ai=>?_
   have aj:l.l.length=(xW L L[i]).length:=by rw[ai,List.length_map]
   have aI:l.l.length<=8:=by rw[aj];have:=List.length_filterMap_le (λp=>if bump L[i] p 1∈L then some (L.idxOf (bump L[i] p 1))else none) (range L[i].length);rw[List.length_range]at this;exact Nat.le_trans this (by rw[F.1.1];exact R)
   unfold dQ.W2;refine dH l.l.length (λn(q:Zb×Int)=>q.2=(n:Int)/\q.1.l.length=L.length/\(∀j:Nat,j≠i->q.1.l[j]?=out.l[j]?)/\∃a,q.1.l[i]?=some a/\
    ((a=.nil/\∀(m' k:Nat)z,m'<n->(xW L L[i])[m']?=some k->L[k]?=some z->∀d,fG L (fI tb) d->¬cK z d)\/
     (Cons t A a.l/\cK L[i] a.l/\(∀(m' k:Nat)z,m'<n->(xW L L[i])[m']?=some k->L[k]?=some z->∀d,fG L (fI tb) d->cK z d->cK a.l d)/\(∃d,fG L (fI tb) d/\cK L[i] d)/\∀e,(∀d,fG L (fI tb) d->cK L[i] d->cK e d)->cK e a.l)))
    ⟨rfl,g1,λ_ _=>rfl,.nil,g3 i Zaa,.inl ⟨rfl,λm' k z h=>absurd h Zaa⟩⟩ ?_ ?_
   .rintro n ⟨o,_⟩ hn ⟨rfl,e1,e2,a,e3,e4⟩;simp only at e1 e2 e3;have ak:n<(xW L L[i]).length:=by omega
    have Y:=ζd ak;have K:=getElem_mem ak;generalize hk:(xW L L[i])[n]=k at Y K;have⟨p,hp,Z,ay⟩:=AM.1 K;have v:L[k]?=some (bump L[i] p 1):=by rw[ay];exact oT Z
    have aJ:i<k:=(GN B J K).1;have aK:=(ζe.1 v).1;have⟨ok,aA,al⟩:=g2 k _ Zaa v
    have am:idx l (n:Int)=some (k:Int):=by rw[iO,ai,getElem?_map,Y];rfl
    have S:o.l[k]?=some ok:=by rw[e2 k Zaa];exact aA
    unfold dQ.bF;dsimp only;rw[fM hn,br,am,ζb,qX Zaa,ζb]
    unfold Sl.get;rw[S,ζb];rcases al with⟨rfl,an⟩|⟨y,u,aB,⟨de,aC,aD⟩,ao⟩
    .rw[show Sl.isNil (Sl.nil:Zg)=some true from rfl,ζb,br,a_];refine⟨bZ n Zaa,e1,e2,a,e3,?_⟩
     have O:∀(m' I:Nat)z,m'<n+1->¬m'<n->(xW L L[i])[m']?=some I->L[I]?=some z->z=bump L[i] p 1:=λm' I z f G C D=>by obtain rfl:m'=n:=Zaa;rw[Y]at C;cases C;rw[v]at D;exact(Option.some.inj D).symm
     rcases e4 with⟨T,U⟩|⟨T,U,b⟩
     .refine .inl ⟨T,λm' I z f C D d hd=>?_⟩
      by_cases G:m'<n
      .exact U m' I z G C D d hd
      rw[O m' I z f G C D];exact an d hd
     refine .inr ⟨T,U,λm' I z f C D d hd u=>?_,b.2⟩
     by_cases G:m'<n
     .exact b.1 m' I z G C D d hd u
     rw[O m' I z f G C D]at u;exact absurd u (an d hd)
    have ap:0<ok.l.length:=by rw[y.1.1];omega
    have aq:=(AH hp).trans u;have O:∀(m' I:Nat)z,m'<n+1->¬m'<n->(xW L L[i])[m']?=some I->L[I]?=some z->∀d,fG L (fI tb) d->cK z d->cK ok.l d:=λm' I z f G C D d hd u=>by obtain rfl:m'=n:=Zaa;rw[Y]at C;cases C;rw[v]at D;cases D;exact aB d hd u
    rw[sR ap,ζb,bz,qX Zaa,ζb,e3,ζb]
    rcases e4 with⟨rfl,U⟩|⟨T,U,b⟩
    .have⟨o2,k1,k2⟩:=put_eq (s:=o) (p:=i) (x:=ok) Zaa
     rw[show Sl.isNil (Sl.nil:Zg)=some true from rfl,ζb,br,ζb,S,ζb,ζb,k1,ζb,a_];refine⟨bZ n Zaa,by show o2.l.length=_;rw[k2,length_set];exact e1,λj Q=>by show o2.l[j]?=_;rw[k2,getElem?_set,if_neg (Ne.symm Q)];exact e2 j Q,ok,by show o2.l[i]?=_;rw[k2,getElem?_set_self Zaa],.inr ⟨y,aq,λm' I z f C D d hd u=>?_,⟨de,aC,(AH hp).trans aD⟩,λe g=>ao e λd hd u=>g d hd ((AH hp).trans u)⟩⟩
     by_cases G:m'<n
     .exact absurd u (U m' I z G C D d hd)
     exact O m' I z f G C D d hd u
    have M:a.l.length=ok.l.length:=T.1.1.trans y.1.1.symm;have N:=mB.of ji M;have⟨w1,w2,P⟩:=N.le_min M;rw[sR (show 0<a.l.length by omega),ζb,bz,ζb,e3,ζb,ζb,S,ζb,en]
    refine(Ya M Zaa (by rw[T.1.1];exact R)).mono λw hw=>?_
    have⟨o2,k1,k2⟩:=put_eq (s:=o) (p:=i) (x:=w) Zaa
    rw[ζb,k1,ζb,a_];rw[<-hw]at N w1 w2 P;refine⟨bZ n Zaa,by show o2.l.length=_;rw[k2,length_set];exact e1,λj Q=>by show o2.l[j]?=_;rw[k2,getElem?_set,if_neg (Ne.symm Q)];exact e2 j Q,w,by show o2.l[i]?=_;rw[k2,getElem?_set_self Zaa],.inr ⟨CG T y N,P _ U aq,λm' I z f C D d hd u=>?_,b.2.1,λe g=>P _ (b.2.2 e g) (ao e λd hd u=>g d hd ((AH hp).trans u))⟩⟩
    by_cases G:m'<n
    .exact w1.trans (b.1 m' I z G C D d hd u)
    exact w2.trans (O m' I z f G C D d hd u)
   rintro⟨o,_⟩ ⟨rfl,e1,e2,a,e3,e4⟩;simp only at e1 e2 e3;unfold dQ.bF;dsimp only;rw[fW,bz,a_];have ar:∀d,fG L (fI tb) d->cK L[i] d->∃(m' k:Nat)(z:Rd),m'<l.l.length/\(xW L L[i])[m']?=some k/\L[k]?=some z/\cK z d:=λd hd u=>by have hD:=(B.mem _).1 hd.1;have aE:¬cK d L[i]:=λh=>(by have:d=L[i]:=cK.same h u;have G:=hd.2;rw[this,pH B.nodup J,H]at G;cases G);have⟨p,hp,Z,aF⟩:=Dq r hM B F u d.sum.toNat hD (cK.refl d) Zaa aE;have hm:L.idxOf (bump L[i] p 1)∈xW L L[i]:=AM.2 ⟨p,hp,Z,rfl⟩;have⟨m',au⟩:=getElem?_of_mem hm;exact⟨m',_,_,by rw[aj];exact(ζe.1 au).1,au,oT Z,aF⟩
   refine(a_ _).2 ⟨(fJ ((i:Int)-1) Zaa Zaa).trans Zaa,e1,λj c Q b=>?_,λj Q=>by show o.l[j]?=_;rw[e2 j Zaa];exact g3 j Zaa⟩
   show∃o',o.l[j]?=some o'/\_
   by_cases e:j=i
   .subst e;rw[J]at b;cases b;refine⟨a,e3,?_⟩;rcases e4 with⟨T,U⟩|⟨T,U,b⟩
    .exact .inl ⟨T,λd hd u=>by
      have⟨m',k,z,f,G,C,D⟩:=ar d hd u;exact U m' k z f G C d hd D⟩
    exact .inr ⟨T,U,λd hd u=>by
     have⟨m',k,z,f,G,C,D⟩:=ar d hd u;exact b.1 m' k z f G C d hd D,b.2⟩
   rw[e2 j e];exact g2 j c Zaa b
 rintro⟨out,_⟩ ⟨rfl,g1,g2,-⟩;unfold dQ.bh;dsimp only;rw[decide_eq_false Zaa,bz,a_]
 exact(a_ _).2 ⟨g1,λi c b=>g2 i c Zaa b⟩
end
end Go.VE
namespace Go.VE
section
variable{α σ:Type}
def xJ(p:α->σ->aY (X'×σ)):aX α->σ->aY (X'×σ)
 |[],x=>some (false,x)|a::r,x=>(p a x).bind λy=>if y.1 then some (true,y.2)else xJ p r y.2
theorem Hy{s:Sl α}{p:α->σ->aY (X'×σ)}{x:σ}(B:s.l.length<1073741824):Br s p x=xJ p s.l x:=by
 have key:∀(c:aX α)(j:Nat)(x:σ),s.l.drop j=c->((bG (FH s p) ((j:Int),x)).bind (Fw.elim (λe=>some ((-1:Int),e)) λe=>some e)).bind (λy:Int×σ=>some (decide (y.1>=0),y.2))=xJ p c x:=by intro c;induction c with|nil=>intro j x hd;have d:decide ((j:Int)<len s)=false:=(by have:s.l.length<=j:=(by simpa using hd);simp[len];omega);rw[eU];simp only[FH,d,bg,Bool.false_eq_true,if_false,ζb,Fw.elim,xJ];rfl|cons a c u=>intro j x hd;have d:j<s.l.length:=(by apply byContradiction;intro C;rw[List.drop_eq_nil_of_le Zaa]at hd;cases hd);have w:=List.drop_eq_getElem_cons d;rw[w]at hd;simp only[List.cons.injEq]at hd;rw[eU];simp only[FH,fM d,bg,if_true,bA d,ζb,hd.1,xJ];cases p a x with|none=>rfl|some y=>have⟨b,z⟩:=y;simp only[ζb];cases b with|true=>simp[Fw.elim]|false=>simp only[Bool.false_eq_true,if_false,ζb,bZ j Zaa];exact u (j+1) z hd.2
 exact key s.l 0 x rfl
def HS(p:α->aY X'):aX α->aY X'
 |[]=>some false|a::r=>(p a).bind λb=>if b then some true else HS p r
theorem Jo(p:α->aY X'):∀l:aX α,xJ (λx(u:Unit)=>(p x).map λb=>(b,u)) l ()=(HS p l).map λb=>(b,())
 |[]=>rfl|a::r=>by simp only[xJ,HS];cases p a with|none=>rfl|some b=>cases b<;>simp[Jo p r]
theorem B1{s:Sl α}(p:α->aY X')(B:s.l.length<1073741824):Br s (λx(u:Unit)=>(p x).map λb=>(b,u)) ()=(HS p s.l).map λb=>(b,()):=by rw[Hy B,Jo]
theorem AZ{p:α->aY X'}{f:α->X'}:∀{l:aX α},(∀x∈l,p x=some (f x))->HS p l=some (l.any f)
 |[],_=>rfl|a::r,h=>by simp only[HS,h a Zab,ζb,List.any_cons,AZ (λx B=>h x (mem_cons_of_mem _ B))];cases f a<;>rfl
theorem jB{δ:Type}{b:(α->aY δ)->α->aY δ}{n:Nat}(h:0<n)(z:α):dI b n z=b (dI b (n-1)) z:=by cases n with|zero=>omega|succ n=>rfl
end
def By(l:Rd)(az:aX Assign):Rd:=az.foldl (λl a=>l.set a.var.toNat a.value) l
def iU(P:bS):Nat->Rd
 |0=>P.vars.l.map Var.init_|k+1=>match P.events.l[k]?with
  |some e=>By (iU P k) e.assign.l|none=>iU P k
theorem LU:∀(az:aX Assign)(l:Rd),(By l az).length=l.length
 |[],l=>rfl|a::r,l=>by show(By (l.set a.var.toNat a.value) r).length=_;rw[LU r];simp
theorem qS(P:bS):∀k,(iU P k).length=P.vars.l.length
 |0=>by simp[iU]|k+1=>by unfold iU;split;rw[LU,qS P k];exact qS P k
def Nr{α:Type}(s:Sl α):Prop:=s=.nil\/∃l,s=.row l
theorem K0:∀(vs:aX Var)(s:Zg),Nr s->s.l.length+vs.length<1073741824->∃B,ya vs s=some B/\Nr B/\B.l=s.l++vs.map Var.init_
 |[],s,h,_=>⟨s,rfl,h,Zab⟩|v::r,s,h,D=>by simp only[length_cons]at D;have a:fF s v.init_=some (.row (s.l++[v.init_])):=(by unfold fF;rw[if_pos Zaa]);have⟨B,g1,g2,g3⟩:=K0 r (.row (s.l++[v.init_])) (.inr ⟨_,rfl⟩) (by show(s.l++[v.init_]).length+r.length<1073741824;simp;omega);refine⟨B,?_,g2,by rw[g3];show(s.l++[v.init_])++r.map Var.init_=_;simp⟩;simp only[ya,a,ζb,g1]
theorem KF:∀(az:aX Assign)(s:Zg),Nr s->(∀a∈az,0<=a.var/\a.var<s.l.length)->∃B,yh az s=some B/\Nr B/\B.l=By s.l az
 |[],s,h,_=>⟨s,rfl,h,rfl⟩|a::r,s,h,D=>by have⟨d,c⟩:=D a Zab;have e:Sl.jP s a.var=some a.var.toNat:=(by unfold Sl.jP;rw[if_pos ⟨d,Zaa⟩]);rcases h with rfl|⟨l,rfl⟩;simp[Sl.l]at c;omega;have u:Sl.put (.row l) a.var.toNat a.value=some (.row (l.set a.var.toNat a.value)):=(by unfold Sl.put;rw[if_pos (by simp[Sl.l]at c⊢;omega)]);have⟨B,g1,g2,g3⟩:=KF r (.row (l.set a.var.toNat a.value)) (.inr ⟨_,rfl⟩) (λb w=>by have:=D b (mem_cons_of_mem _ w);simpa[Sl.l]using this);refine⟨B,?_,g2,g3⟩;simp only[yh,e,u,ζb,g1]
theorem Oz{s:Zg}(h:Nr s)(B:s.l.length<1073741824):∃c,Pt s=some c/\c.l=s.l:=by rcases h with rfl|⟨l,rfl⟩;exact⟨.nil,rfl,rfl⟩;unfold Pt IB.eu pO;simp only[Sl.isNil,ζb,bg,Bool.false_eq_true,if_false];by_cases a:(Sl.row l).l=[];rw[if_pos a];exact⟨.row [],rfl,a.symm⟩;rw[if_neg a,if_pos (by simp[Sl.l]at B⊢;omega)];exact⟨_,rfl,by simp[Sl.l]⟩
def wL(P:bS):Prop:=∀e∈P.events.l,∀a∈e.assign.l,0<=a.var/\a.var<P.vars.l.length
theorem Ky{P:bS}(B:wL P)(f:P.vars.l.length<1073741824):∀(b:aX WF)(k:Nat)(s:Zg),P.events.l.drop k=b->Nr s->s.l=iU P k->
 ∃r,yd (k:Int) b s=some r/\r.length=b.length/\∀(i:Nat)x,r[i]?=some x->x.1=((k+i+1:Nat):Int)/\x.2.l=iU P (k+i+1)
 |[],k,s,_,_,_=>⟨[],rfl,rfl,Zab⟩|e::b,k,s,hd,D,G=>by have d:k<P.events.l.length:=(by apply byContradiction;intro D;rw[List.drop_eq_nil_of_le Zaa]at hd;cases hd);have C:=List.drop_eq_getElem_cons d;rw[C]at hd;simp only[List.cons.injEq]at hd;have I:e∈P.events.l:=hd.1▸getElem_mem d;have w:s.l.length=P.vars.l.length:=(by rw[G,qS]);have⟨n,g1,g2,g3⟩:=KF e.assign.l s D (λa J=>by rw[w];exact B e I a J);have u:iU P (k+1)=n.l:=(by rw[g3,G];unfold iU;rw[ζd d,hd.1];cases k<;>rfl);have⟨c,g4,g5⟩:=Oz g2 (by rw[<-u,qS];exact f);have⟨r,L,O,Q⟩:=Ky B f b (k+1) n hd.2 g2 u.symm;refine⟨((k:Int)+1,c)::r,?_,by simp[O],λi x z=>?_⟩;simp only[yd,g1,g4,ζb];rw[show(k:Int)+1=((k+1:Nat):Int)from rfl,L];rfl;cases i with|zero=>simp only[List.getElem?_cons_zero,ζa]at z;subst z;exact⟨rfl,by rw[g5,<-u]⟩|succ i=>rw[List.getElem?_cons_succ]at z;have⟨S,T⟩:=Q i x z;exact⟨by rw[S];congr 1;omega,by rw[T];congr 1;omega⟩
theorem I7{P:bS}(B:wL P)(a:P.vars.l.length<1073741824)(U:P.events.l.length<1073741824)(D:∀e∈P.events.l,e.assign.l.length<1073741824):
 ∃r,kA P=some r/\r.length=P.events.l.length+1/\∀(i:Nat)x,r[i]?=some x->x.1=(i:Int)/\x.2.l=iU P i:=by
 have⟨s,g1,g2,g3⟩:=K0 P.vars.l .nil (.inl rfl) (by simpa[Sl.l]using a)
 have w:s.l=iU P 0:=by rw[g3];simp[Sl.l,iU]
 have⟨c,g4,g5⟩:=Oz g2 (by rw[w,qS];exact a)
 have⟨r,z,C,G⟩:=Ky B a P.events.l 0 s rfl g2 w;refine⟨(0,c)::r,?_,by simp[C],λi x u=>?_⟩
 .unfold kA;have b:(qV P.vars.l.length&&(qV P.events.l.length&&P.events.l.all λe=>qV e.assign.l.length))=true:=by
   simp only[ζh,all_eq_true,qV,decide_eq_true_eq];exact⟨Zaa,Zaa,λe h=>by have:=D e h;omega⟩
  rw[if_pos b,g1,ζb,g4,ζb];rw[show((0:Nat):Int)=0 from rfl]at z;rw[z];rfl
 cases i with
 |zero=>simp only[List.getElem?_cons_zero,ζa]at u;subst u;exact⟨rfl,by rw[g5,w]⟩|succ i=>rw[List.getElem?_cons_succ]at u;have⟨I,J⟩:=G i x u;exact⟨by rw[I];congr 1;omega,by rw[J];congr 1;omega⟩
theorem Vr{P:bS}(D:wL P)(b:P.vars.l.length<1073741824)(G:P.events.l.length<1073741824)(J:∀e∈P.events.l,e.assign.l.length<1073741824){k:Nat}(f:k<=P.events.l.length):
 ∃x,gH P (k:Int)=some x/\x.l=iU P k:=by
 have⟨r,c,O,C⟩:=I7 D b G J;have key:∀(a:aX (Int×Zg))(i:Nat)(q:Zg),r.drop i=a->i<=k->∃x,(mm (λ(x:Int×(Zg))(q:Zg)=>gH.lF P k x q) a q).bind (Fw.tj (λq=>some Sl.nil) (λe=>elim e) (λe=>some e))=some x/\x.l=iU P k:=by intro a;induction a with|nil=>intro i q hd d;have:r.length<=i:=(by simpa using hd);omega|cons y a I=>intro i q hd d;have u:i<r.length:=Zaa;have e2:=List.drop_eq_getElem_cons u;rw[e2]at hd;simp only[List.cons.injEq]at hd;have⟨B,L⟩:=C i y (by rw[ζd u,hd.1]);by_cases w:i=k;subst w;refine⟨y.2,?_,L⟩;simp only[mm,gH.lF,B,beq_self_eq_true,bg,if_true,ζb,Fw.tj];have z:(y.1==(k:Int))=false:=(by rw[B];simp;omega);have⟨x,g1,g2⟩:=I (i+1) .nil hd.2 Zaa;refine⟨x,?_,g2⟩;simp only[mm,gH.lF,z,bg,Bool.false_eq_true,if_false,ζb];exact g1
 have⟨x,g1,g2⟩:=key r 0 .nil rfl (zero_le _);refine⟨x,?_,g2⟩;unfold gH pJ gH.E1;simp only[ζb,c];exact g1
mutual
def Pred.sz:T'->Nat
 |⟨_,_,_,_,_,l⟩=>1+Pred.szS l
def Pred.szS:Sl T'->Nat
 |.nil=>0|.emp=>0|.row l=>Pred.oh l|.part l=>Pred.oh l
def Pred.oh:aX T'->Nat
 |[]=>0|x::r=>Pred.sz x+Pred.oh r
end
mutual
def Pred.dp:T'->Nat
 |⟨_,_,_,_,_,l⟩=>1+Pred.dpS l
def Pred.dpS:Sl T'->Nat
 |.nil=>0|.emp=>0|.row l=>Pred.vi l|.part l=>Pred.vi l
def Pred.vi:aX T'->Nat
 |[]=>0|x::r=>max (Pred.dp x) (Pred.vi r)
end
mutual
def Pred.gV(f:T'->X'):T'->X'
 |⟨a,b,c,d,e,l⟩=>f ⟨a,b,c,d,e,l⟩&&Pred.Pa f l
def Pred.Pa(f:T'->X'):Sl T'->X'
 |.nil=>true|.emp=>true|.row l=>Pred.HP f l|.part l=>Pred.HP f l
def Pred.HP(f:T'->X'):aX T'->X'
 |[]=>true|x::r=>Pred.gV f x&&Pred.HP f r
end
theorem Pred.acy(s:Sl T'):Pred.szS s=Pred.oh s.l:=by cases s<;>simp[Pred.szS,Pred.oh,Sl.l]
theorem Pred.abU(s:Sl T'):Pred.dpS s=Pred.vi s.l:=by cases s<;>simp[Pred.dpS,Pred.vi,Sl.l]
theorem Pred.Mr(f:T'->X'):∀l:aX T',Pred.HP f l=l.all (Pred.gV f)
 |[]=>by simp[Pred.HP]|x::r=>by simp only[Pred.HP,all_cons,Pred.Mr f r]
theorem Pred.ZW(f:T'->X')(s:Sl T'):Pred.Pa f s=s.l.all (Pred.gV f):=by cases s<;>simp[Pred.Pa,Pred.Mr,Sl.l]
theorem Pred.WA(p:T'):p.sz=1+Pred.oh p.l.l:=by cases p;simp only[Pred.sz,Pred.acy]
theorem Pred.G5(p:T'):p.dp=1+Pred.vi p.l.l:=by cases p;simp only[Pred.dp,Pred.abU]
theorem Pred.mb(f:T'->X')(p:T'):p.gV f=(f p&&p.l.l.all (Pred.gV f)):=by cases p;simp only[Pred.gV,Pred.ZW]
theorem Pred.Oo:∀{l:aX T'}{q:T'},q∈l->q.dp<=Pred.vi l
 |x::r,q,h=>by simp only[Pred.vi];rcases mem_cons.1 h with rfl|h;omega;have:=Pred.Oo h;omega
theorem Pred.r_{p q:T'}(h:q∈p.l.l):q.dp<p.dp:=by rw[p.G5];have:=Pred.Oo h;omega
theorem Pred.vf(p:T'):0<p.dp:=by rw[p.G5];omega
theorem Pred.ind{M:T'->Prop}(h:∀p,(∀q∈p.l.l,M q)->M p)(p:T'):M p:=by
 have key:∀n p,p.dp<=n->M p:=by intro n;induction n with|zero=>intro p u;have:=p.vf;omega|succ n w=>intro p u;exact h p λq z=>w q (by have:=Pred.r_ z;omega)
 exact key _ p (le_refl _)
abbrev Pred.Sm(p:Pred):Prop:=p.gV (λq=>decide (q.l.l.length<1073741824))=true
theorem Pred.Sm.len{p:T'}(h:p.Sm):p.l.l.length<1073741824:=by unfold Pred.Sm at h;rw[p.mb]at h;simp only[ζh,decide_eq_true_eq]at h;exact h.1
theorem Pred.Sm.vK{p q:T'}(h:p.Sm)(B:q∈p.l.l):q.Sm:=by unfold Pred.Sm at h;rw[p.mb]at h;simp only[ζh,all_eq_true]at h;exact h.2 q B
theorem OE{f:T'->aY X'}{g:T'->X'}(p:T')(B:p.Sm):p.gV (λq=>f q==some (g q))=true->∀n,p.dp<=n->dI (λr(z:T')=>kq z f r) n p=some (p.gV g):=by induction p using Pred.ind with|h p C=>intro u n D;rw[p.mb]at u;simp only[ζh,all_eq_true,beq_iff_eq]at u;have hd:=p.G5;rw[jB Zaa];show kq p f _=_;unfold kq;rw[u.1,ζb,p.mb];cases g p with|false=>rfl|true=>rw[br,B1 _ B.len,AZ (f:=λq=> !q.gV g) (λq w=>by have:=C q w (B.vK w) (u.2 q w) (n-1) (by have:=Pred.r_ w;omega);show(dI (λr(z:T')=>kq z f r) (n-1) q).bind _=_;rw[this];rfl)];simp only[Option.map_some,ζb,Bool.true_and];congr 1;rw[Bool.eq_iff_iff];simp
theorem xC{step:Int->aY (Fw Int Unit Unit)}{p:T'}{g:T'->X'}(D:p.l.l.length<1073741824)(h:∀(i:Nat)(a:i<p.l.l.length),step i=some (if g p.l.l[i]then .n ((i+1:Nat):Int)else .r ()))(B:step p.l.l.length=some (.x ())):
 (bG (λq:Int=>step q) 0).bind (Fw.elim (λ_=>some true) (λ_=>some false))=some (p.l.l.all g):=by
 refine Wp.eq ?_;refine dH p.l.l.length (λn s=>s=(n:Int)/\(p.l.l.take n).all g=true) ⟨rfl,rfl⟩ ?_ ?_
 .rintro i _ a ⟨rfl,u⟩;rw[h i a,a_]
  cases b:g p.l.l[i]with
  |true=>refine⟨rfl,?_⟩;rw[take_add_one,ζd a,List.all_append,u];simp[b]|false=>
   refine(a_ _).2 ?_
   symm
   rw[List.all_eq_false];exact⟨_,getElem_mem a,by rw[b];simp⟩
 rintro _ ⟨rfl,u⟩;rw[B,a_];rw[take_length]at u;exact(a_ _).2 u.symm
abbrev L0(p:Pred):Bool:=toList p.name==toList ByteArray.empty
abbrev J8(p:Pred)(c:Int):Bool:=(len p.l==c)&&(!decide (p.n<0)&&(!decide (p.n>1125899906842624)&&((p.n==0||p.kind==1)&&(p.kind==2||(p.kind==3||(p.kind==4||(p.proc==0&&(p.peer==0&&L0 p))))))))
theorem YK:∀k:_root_.Fin 22,1<=k.1->(cg.at wK ((k.1:Nat):Int)).isSome=true:=by decide
theorem IY{k:Int}(a:1<=k)(B:k<22):∃c,cg.at wK k=some c:=by have g:=YK ⟨k.toNat,Zaa⟩ Zac;simp only at g;rw[show((k.toNat:Nat):Int)=k from Zaa]at g;exact Option.isSome_iff_exists.1 g
theorem Ve:∀k:_root_.Fin 22,1<=k.1->cg.at wK ((k.1:Nat):Int)=mN ((k.1:Nat):Int)/\(mN ((k.1:Nat):Int)).isSome=true:=by decide
theorem Pu{k:Int}(a:1<=k)(B:k<22):∃c,cg.at wK k=some c/\mN k=some c:=by have⟨g1,g2⟩:=Ve ⟨k.toNat,Zaa⟩ Zac;simp only at g1 g2;rw[show((k.toNat:Nat):Int)=k from Zaa]at g1 g2;have⟨c,b⟩:=Option.isSome_iff_exists.1 g2;grind
theorem Q1{k:Int}(h:k<1\/22<=k):mN k=some (-1):=by
 have c:(bg (decide (k>=1)) (some (decide (k<=4))) (some false):aY X')=some false:=by by_cases b:k>=1;rw[decide_eq_true b,br,decide_eq_false Zaa];rw[decide_eq_false b];rfl
 have d:(bg (decide (k>=18)) (some (decide (k<=21))) (some false):aY X')=some false:=by grind
 have u:(bg (decide (k>=6)) (some (decide (k<=12))) (some false):aY X')=some false:=by grind
 have a:∀m:Int,1<=m->m<22->(k==m)=false:=λm b w=>by simp;omega
 unfold mN;rw[c,d,u,a 13 Zaa Zaa,a 14 Zaa Zaa,a 5 Zaa Zaa,a 15 Zaa Zaa,a 16 Zaa Zaa,a 17 Zaa Zaa];rfl
theorem Ho{p:T'}{c:Int}(f:1<=p.kind)(B:p.kind<22)(d:cg.at wK p.kind=some c):me p=some (J8 p c):=by
 unfold me wE J8 L0;rw[decide_eq_false (show¬p.kind<1 by omega),bz,ζb,decide_eq_false (show¬p.kind>=22 by omega),bz,d,ζb,ζb];generalize(len p.l==c)=e;generalize decide (p.n<0)=a;generalize decide (p.n>1125899906842624)=b;generalize(p.n==0)=z;generalize(p.kind==1)=k1;generalize(p.kind==2)=k2;generalize(p.kind==3)=k3;generalize(p.kind==4)=k4;generalize(p.proc==0)=d1;generalize(p.peer==0)=d2;generalize(toList p.name==toList ByteArray.empty)=u
 cases e with
 |false=>rfl|true=>cases a with
  |true=>rfl|false=>cases b with
   |true=>rfl|false=>cases z<;>cases k1<;>first|rfl|(cases k2<;>cases k3<;>cases k4<;>cases d1<;>cases d2<;>cases u<;>rfl)
theorem EN{p:T'}(h:p.kind<1\/22<=p.kind):me p=some false:=by
 unfold me;have:(bg (decide (p.kind<1)) (some true) (some (decide (p.kind>=22))):aY X')=some true:=by by_cases a:p.kind<1;rw[decide_eq_true a];rfl;rw[decide_eq_false a,bz,decide_eq_true Zaa]
 rw[this];rfl
theorem TV{p:T'}{c:Int}(i:1<=p.kind)(B:p.kind<22)(d:mN p.kind=some c)(r:T'->aY X'):gI p r=bg (J8 p c) (gq.W2 0 p r) (some false):=by
 unfold gI gq.J1 J8 L0;rw[d,ζb,show(c==len p.l)=(len p.l==c)from Zac];have f:(bg (decide (p.kind<2)) (some true) (some (decide (p.kind>4))):aY X')=some (!(p.kind==2||(p.kind==3||p.kind==4))):=by by_cases g:p.kind<2;rw[decide_eq_true g,br,show(p.kind==2)=false from by simp;omega,show(p.kind==3)=false from by simp;omega,show(p.kind==4)=false from by simp;omega];rfl;rw[decide_eq_false g,bz];congr 1;rw[Bool.eq_iff_iff];simp;omega
 have w:(p.n==0)=true->decide (p.n<0)=false/\decide (p.n>1125899906842624)=false:=λh=>by grind
 rw[f];generalize(len p.l==c)=e;generalize decide (p.n<0)=a at *;generalize decide (p.n>1125899906842624)=b at *;generalize(p.n==0)=z at *;generalize(p.kind==1)=k1;generalize(p.kind==2)=k2;generalize(p.kind==3)=k3;generalize(p.kind==4)=k4;generalize(p.proc==0)=d1;generalize(p.peer==0)=d2;generalize(toList p.name==toList ByteArray.empty)=u
 cases e with
 |false=>rfl|true=>cases k1 with
  |true=>cases a with
   |true=>rfl|false=>cases b with
    |true=>rfl|false=>cases z<;>cases k2<;>cases k3<;>cases k4<;>cases d1<;>cases d2<;>cases u<;>rfl
  |false=>cases z with
   |false=>cases a<;>cases b<;>rfl|true=>obtain⟨rfl,rfl⟩:=w rfl;cases k2<;>cases k3<;>cases k4<;>cases d1<;>cases d2<;>cases u<;>rfl
def fB(p:T'):X':=(me p).getD false
theorem Yz(p:T'):me p=some (fB p):=by unfold fB;by_cases h:p.kind<1\/22<=p.kind;rw[EN h];rfl;have⟨c,a⟩:=IY (k:=p.kind) Zaa Zaa;rw[Ho Zaa Zaa a];rfl
theorem yN{p:T'}(h:fB p=true):1<=p.kind/\p.kind<22/\cg.at wK p.kind=some (len p.l):=by by_cases g:p.kind<1\/22<=p.kind;unfold fB at h;rw[EN g]at h;cases h;have⟨c,a⟩:=IY (k:=p.kind) Zaa Zaa;unfold fB at h;rw[Ho Zaa Zaa a]at h;grind
theorem VZ(p:T')(r:T'->aY X'):gI p r=bg (fB p) (gq.W2 0 p r) (some false):=by unfold fB;by_cases h:p.kind<1\/22<=p.kind;rw[EN h];unfold gI;rw[Q1 h,ζb,show((-1:Int)==len p.l)=false from Zad];rfl;have⟨c,a,u⟩:=Pu (k:=p.kind) Zaa Zaa;rw[Ho Zaa Zaa a,TV Zaa Zaa u];rfl
theorem S6(p:T')(B:p.Sm):∀n,p.dp<=n->dI (λr(z:T')=>gI z r) n p=some (p.gV fB):=by induction p using Pred.ind with|h p u=>intro n C;have hd:=p.vf;rw[jB Zaa];have u:=λq w=>u q w (B.vK w) (n-1);show gI p (dI (λr(z:T')=>gI z r) (n-1))=_;generalize dI (λr(z:T')=>gI z r) (n-1)=R at u⊢;rw[VZ,p.mb];cases fB p with|false=>rfl|true=>rw[br,Bool.true_and];unfold gq.W2;refine xC (g:=Pred.gV fB) B.len (λi a=>?_) ?_;unfold gq.bF;rw[fM a,br,bA a,ζb,u _ (getElem_mem a) (by have:=Pred.r_ (getElem_mem a);omega),ζb,bZ i (by have:=B.len;omega)];cases Pred.gV fB p.l.l[i]<;>rfl;unfold gq.bF;rw[fW];rfl
def oO(p:T'):X':=decide (p.sz<=200)&&(decide (p.dp<=20)&&p.gV fB)
abbrev s6(p:Pred)(d l:Nat):Bool:=decide (p.sz<=l)&&(decide (p.dp+d<=21)&&p.gV fB)
abbrev xd(k:aX Pred)(d l:Nat):Bool:=decide (Pred.oh k<=l)&&(decide (Pred.vi k+d<=21)&&k.all (Pred.gV fB))
theorem Xq(p:T')(U:p.Sm):∀(n d l:Nat),1<=n->22<=n+d->d<=21->1<=d->l<=200->
 ∃B:Int,dI (λr(z:T'×Int×Int)=>fA z.1 z.2.1 z.2.2 r) n (p,(d:Int),(l:Int))=some (s6 p d l,B)/\(s6 p d l=true->B=((l-p.sz:Nat):Int)):=by
 induction p using Pred.ind with
 |h p C=>
  intro n d l e T hd kO f;have G:=p.WA;have I:=p.G5;rw[jB Zaa]
  have C:=λq D=>C q D (U.vK D) (n-1)
  show∃B,fA p (d:Int) (l:Int) (dI (λr(z:T'×Int×Int)=>fA z.1 z.2.1 z.2.2 r) (n-1))=_/\_
  generalize dI (λr(z:T'×Int×Int)=>fA z.1 z.2.1 z.2.2 r) (n-1)=R at C⊢
  unfold fA;rw[fJ _ Zaa Zaa,Yz]
  by_cases b:l=0
  .subst b;have w:s6 p d 0=false:=by
    grind
   rw[w];exact⟨_,rfl,λh=>by cases h⟩
  rw[decide_eq_false (show¬((l:Int)-1<0)by omega),bz,ζb]
  by_cases g:20<d
  .have w:s6 p d l=false:=by
    grind
   rw[w,decide_eq_true (show(d:Int)>20 by omega)]
   exact⟨_,rfl,λh=>by cases h⟩
  rw[decide_eq_false (show¬((d:Int)>20)by omega),bz,ζb]
  have W:=p.mb fB
  cases X:fB p with
  |false=>
   have w:s6 p d l=false:=Zac
   rw[w];exact⟨_,rfl,λh=>by cases h⟩
  |true=>
   rw[ζb,show(!true)=false from rfl,bz,Hy U.len];have key:∀(k:aX T'),(∀q∈k,q∈p.l.l)->∀m:Nat,m<=200->∃m':Int,xJ (λx s=>jv x (d:Int) s R) k (m:Int)=some (!xd k (d+1) m,m')/\(xd k (d+1) m=true->m'=((m-Pred.oh k:Nat):Int)):=by intro k;induction k with|nil=>intro _ m _;exact⟨m,by simp[xJ,xd,Pred.oh,Pred.vi];omega,λ_=>by simp[Pred.oh]⟩|cons q k J=>intro a m Y;have⟨B,g1,g2⟩:=C q (a q Zab) (d+1) m Zaa Zaa Zaa Zaa Y;have e1:jv q (d:Int) (m:Int) R=some (!s6 q (d+1) m,B):=(by unfold jv;rw[bZ d Zaa,g1];rfl);simp only[xJ,e1,ζb];have u:xd (q::k) (d+1) m=(s6 q (d+1) m&&xd k (d+1) (m-q.sz)):=(by rw[Bool.eq_iff_iff];simp only[xd,s6,Pred.oh,Pred.vi,ζh,all_cons];constructor;rintro⟨a1,a2,a3,a4⟩;have a1:=of_decide_eq_true a1;have a2:=of_decide_eq_true a2;exact⟨⟨decide_eq_true Zaa,decide_eq_true Zaa,a3⟩,decide_eq_true Zaa,decide_eq_true Zaa,a4⟩;rintro⟨⟨a1,a2,a3⟩,O,Q,Z⟩;have a1:=of_decide_eq_true a1;have a2:=of_decide_eq_true a2;have O:=of_decide_eq_true O;have Q:=of_decide_eq_true Q;exact⟨decide_eq_true Zaa,decide_eq_true Zaa,a3,Z⟩);cases w:s6 q (d+1) m with|false=>rw[u,w];exact⟨B,rfl,λh=>by cases h⟩|true=>have⟨m',L,S⟩:=J (λx c=>a x (mem_cons_of_mem _ c)) (m-q.sz) Zaa;rw[u,w,Bool.true_and,g2 w];refine⟨m',by simpa using L,λh=>?_⟩;rw[S h];have:q.sz<=m:=(by have:=w;simp only[s6,ζh]at this;exact of_decide_eq_true this.1);congr 1;show m-q.sz-Pred.oh k=m-(q.sz+Pred.oh k);omega
   have⟨m',L,S⟩:=key p.l.l (λq D=>D) (l-1) Zaa
   rw[show((l:Int)-1)=((l-1:Nat):Int)from Zaa,L,ζb]
   have w:s6 p d l=xd p.l.l (d+1) (l-1):=by rw[Bool.eq_iff_iff];simp only[s6,xd,ζh,W,X,true_and,G,I];constructor;rintro⟨a1,a2,a3⟩;have a1:=of_decide_eq_true a1;have a2:=of_decide_eq_true a2;exact⟨decide_eq_true Zaa,decide_eq_true Zaa,a3⟩;rintro⟨a1,a2,a3⟩;have a1:=of_decide_eq_true a1;have a2:=of_decide_eq_true a2;exact⟨decide_eq_true Zaa,decide_eq_true Zaa,a3⟩
   refine⟨m',by rw[w];simp,λh=>?_⟩
   grind
theorem Bo{p:T'}(B:p.Sm):nj p=some (oO p):=by obtain⟨u,h,-⟩:=Xq p B 100000 1 200 Zaa Zaa Zaa Zaa Zaa;unfold nj sW;rw[show dI (λr(z:T'×Int×Int)=>fA z.1 z.2.1 z.2.2 r) 100000 (p,(1:Int),(200:Int))=_ from h];simp only[ζb];congr 1;rw[Bool.eq_iff_iff];simp only[oO,s6,ζh];grind
theorem UZ{l:aX T'}{i:Nat}(h:i<l.length):Pred.oh (l.take (i+1))=Pred.oh (l.take i)+l[i].sz:=by
 have key:∀(l:aX T')(i:Nat)(h:i<l.length),Pred.oh (l.take (i+1))=Pred.oh (l.take i)+l[i].sz:=by intro l;induction l with|nil=>grind|cons x r u=>intro i h;cases i with|zero=>simp[Pred.oh]|succ i=>have:=u i Zac;simp only[List.take_succ_cons,Pred.oh,List.getElem_cons_succ]at this⊢;omega
 grind
theorem Uz{l:aX T'}{i:Nat}(h:i<l.length):Pred.vi (l.take (i+1))=max (Pred.vi (l.take i)) l[i].dp:=by
 have key:∀(l:aX T')(i:Nat)(h:i<l.length),Pred.vi (l.take (i+1))=max (Pred.vi (l.take i)) l[i].dp:=by intro l;induction l with|nil=>grind|cons x r u=>intro i h;cases i with|zero=>simp[Pred.vi]|succ i=>have:=u i Zac;simp only[List.take_succ_cons,Pred.vi,List.getElem_cons_succ]at this⊢;omega
 grind
theorem Ng(l:aX T')(i:Nat):Pred.oh (l.take i)<=Pred.oh l:=by
 induction l generalizing i with
 |nil=>simp|cons x r u=>cases i with
  |zero=>simp[Pred.oh]|succ i=>simp only[List.take_succ_cons,Pred.oh];grind
theorem count_eq(p:T')(G:p.Sm):∀(n l:Nat),l+1<=n->l<=200->dI (λr(z:T'×Int)=>iX z.1 z.2 r) n (p,(l:Int))=some ((min p.sz (l+1):Nat):Int):=by
 induction p using Pred.ind with|h p C=>
  intro n l O Q;have J:=p.WA;rw[jB Zaa];have C:=λq I=>C q I (G.vK I) (n-1);show iX p (l:Int) (dI (λr(z:T'×Int)=>iX z.1 z.2 r) (n-1))=_;generalize dI (λr(z:T'×Int)=>iX z.1 z.2 r) (n-1)=R at C⊢;unfold iX kC.W1;refine Wp.eq ?_;refine fH (λs:Int×Int=>∃i:Nat,s.2=i/\i<=p.l.l.length/\s.1=((min (1+Pred.oh (p.l.l.take i)) (l+1):Nat):Int)) (λs=>p.l.l.length-s.2.toNat) ⟨0,rfl,zero_le _,by simp[Pred.oh]⟩ ?_;rintro⟨c,_⟩ ⟨i,rfl,b,a⟩;simp only at a;subst a;unfold kC.bh;by_cases u:i<p.l.l.length;rw[fM u,br,ζb];by_cases L:min (1+Pred.oh (p.l.l.take i)) (l+1)<=l;have w:min (1+Pred.oh (p.l.l.take i)) (l+1)=1+Pred.oh (p.l.l.take i):=by omega
  have B:=getElem_mem u;rw[decide_eq_true (show(((min (1+Pred.oh (p.l.l.take i)) (l+1):Nat)):Int)<=(l:Int)by omega),br,bA u,ζb,w,fJ _ Zaa Zaa,
   show(l:Int)-((1+Pred.oh (p.l.l.take i):Nat):Int)=((l-(1+Pred.oh (p.l.l.take i)):Nat):Int)from Zaa,
   C _ B _ Zaa Zaa,ζb,a_,fJ _ Zaa Zaa,bZ i (by have:=G.len;omega)]
  refine⟨⟨i+1,rfl,Zaa,?_⟩,Zac⟩;simp only;rw[UZ u];omega;rw[decide_eq_false (show¬(((min (1+Pred.oh (p.l.l.take i)) (l+1):Nat)):Int)<=(l:Int)by omega),bz,a_];refine(a_ _).2 ?_;have:=Ng p.l.l i;grind;have D:i=p.l.l.length:=Zaa;subst D;rw[show decide (((p.l.l.length:Nat):Int)<len p.l)=false from fW,bz,ζb,bz,a_];refine(a_ _).2 ?_;grind
theorem V0(p:T')(D:p.Sm):∀(n m:Nat),m+1<=n->m<=200->dI (λr(z:T'×Int)=>iW z.1 z.2 r) n (p,(m:Int))=some ((min p.dp (m+1):Nat):Int):=by induction p using Pred.ind with|h p B=>intro n m I J;have G:=p.G5;rw[jB Zaa];have B:=λq C=>B q C (D.vK C) (n-1);show iW p (m:Int) (dI (λr(z:T'×Int)=>iW z.1 z.2 r) (n-1))=_;generalize dI (λr(z:T'×Int)=>iW z.1 z.2 r) (n-1)=R at B⊢;unfold iW;by_cases a:m=0;subst a;rw[show(((0:Nat):Int)==0)=true from rfl,br];grind;rw[show((m:Int)==0)=false from Zad,bz];unfold kz.W1;refine Wp.eq ?_;refine dH p.l.l.length (λi s=>s.2=(i:Int)/\s.1=((min (Pred.vi (p.l.l.take i)) m:Nat):Int)) ⟨rfl,by simp[Pred.vi]⟩ ?_ ?_;rintro i ⟨c,_⟩ u ⟨e1,e2⟩;simp only at e1 e2;subst e1 e2;have w:=getElem_mem u;unfold kz.bh;rw[fM u,br,bA u,ζb,fJ _ Zaa Zaa,show((m:Int)-1)=((m-1:Nat):Int)from Zaa,B _ w _ Zaa Zaa,ζb,a_,bZ i (by have:=D.len;omega)];refine⟨rfl,?_⟩;simp only;rw[Uz u];grind;rintro⟨c,_⟩ ⟨e1,e2⟩;simp only at e1 e2;subst e1 e2;unfold kz.bh;rw[fW,bz,a_];refine(a_ _).2 ?_;rw[take_length,bZ _ Zaa];omega
theorem BG{p:T'}(B:p.Sm):oW p=some (oO p):=by unfold oW pW kC kz gq;rw[show dI (λr(z:T'×Int)=>iX z.1 z.2 r) 100000 (p,(200:Int))=_ from count_eq p B 100000 200 Zaa Zaa,ζb,ζb];unfold oO;by_cases a:p.sz<=200;rw[decide_eq_true a,if_neg Zaa,decide_eq_true Zaa,br,show dI (λr(z:T'×Int)=>iW z.1 z.2 r) 100000 (p,(21:Int))=_ from V0 p B 100000 21 Zaa Zaa,ζb,ζb];by_cases u:p.dp<=20;rw[decide_eq_true u,decide_eq_true Zaa,br,S6 p B 100000 Zaa];rfl;rw[decide_eq_false u,decide_eq_false Zaa];rfl;rw[decide_eq_false a,decide_eq_false Zac];rfl
section
variable{t:Z4}
abbrev uJ(t:Trace)(p:Int):Bool:=decide (p>=0)&&decide (p<len t.procs)
def EB(t:Z4)(p:Int)(name:U'):X':=match idx t.procs p with
 |some P=>P.vars.l.any λv=>toList v.name==toList name|none=>false
def qz(t:Z4)(q:T'):X':=if q.kind==2 then uJ t q.proc&&(q.peer==0&&EB t q.proc q.name)else if q.kind==3 then uJ t q.proc&&(q.peer==0&&L0 q)else if q.kind==4 then uJ t q.proc&&(uJ t q.peer&&(!(q.proc==q.peer)&&L0 q))else true
theorem N5(p:Int):lR t p=some (uJ t p):=by unfold lR uJ;cases decide (p>=0)<;>rfl
theorem Wk(p:Int):pL t p=some (uJ t p):=by unfold pL uJ;cases decide (p>=0)<;>rfl
theorem xw{p:Int}(h:uJ t p=true):∃n:Nat,p=n/\n<t.procs.l.length:=by simp only[uJ,ζh]at h;have a:=of_decide_eq_true h.1;have u:=of_decide_eq_true h.2;exact⟨p.toNat,Zaa,Zac⟩
theorem Uj(a:Small t){p:Int}(h:uJ t p=true)(name:U'):s8 t p name=some (EB t p name):=by obtain⟨n,rfl,u⟩:=xw h;unfold s8 EB;rw[bA u,ζb,D5 (p:=λz=>qb z name) (f:=λv=>toList v.name==toList name) (λv _=>rfl) (a.2 _ (getElem_mem u)).2.1];rfl
theorem Hi(b:Small t){p:Int}(h:uJ t p=true)(name:U'):Wp (jX t p name) λi=>(∃(n k:Nat)(P:bS)(v:Var),p=n/\t.procs.l[n]?=some P/\i=k/\P.vars.l[k]?=some v/\(toList v.name==toList name)=true/\(∀(j:Nat)(w:Var),j<k->P.vars.l[j]?=some w->(toList w.name==toList name)=false)/\EB t p name=true)\/i=-1/\EB t p name=false:=by
 obtain⟨n,rfl,z⟩:=xw h;have C:=ζd z;have D:=(b.2 _ (getElem_mem z)).2.1;unfold jX jX.W1;have u:EB t (n:Int) name=t.procs.l[n].vars.l.any λv=>toList v.name==toList name:=by grind[EB,bA]
 refine dH t.procs.l[n].vars.l.length (λi s=>s=(i:Int)/\∀(j:Nat)(w:Var),j<i->t.procs.l[n].vars.l[j]?=some w->(toList w.name==toList name)=false) ⟨rfl,λj w G=>absurd G Zaa⟩ ?_ ?_;rintro i _ a ⟨rfl,B⟩;unfold jX.bh;rw[bA z,ζb,fM a,br,ζb,bA a,ζb];cases I:toList t.procs.l[n].vars.l[i].name==toList name with|true=>rw[br,a_];refine(a_ _).2 (.inl ⟨n,i,_,_,rfl,C,rfl,ζd a,I,B,?_⟩);rw[u,any_eq_true];grind|false=>rw[bz,a_,bZ i Zaa];grind
 rintro _ ⟨rfl,B⟩;unfold jX.bh;rw[bA z,ζb,fW,bz,a_];refine(a_ _).2 (.inr ⟨rfl,?_⟩);rw[u,List.any_eq_false];grind[mem_iff_getElem?]
theorem YC(a:Small t)(q:T'):lP q t=some (qz t q):=by
 unfold lP qz L0;rw[N5,N5]
 cases q.kind==2 with
 |true=>rw[br,if_pos rfl,ζb];cases h:uJ t q.proc with|false=>rfl|true=>rw[Uj a h];cases q.peer==0<;>rfl
 |false=>rw[bz,if_neg Zab];cases q.kind==3 with|true=>rw[br,if_pos rfl];cases uJ t q.proc<;>cases q.peer==0<;>cases(toList q.name==toList ByteArray.empty)<;>rfl|false=>rw[bz,if_neg Zab];cases q.kind==4 with|true=>rw[br,if_pos rfl];cases uJ t q.proc<;>cases uJ t q.peer<;>cases(q.proc==q.peer)<;>cases(toList q.name==toList ByteArray.empty)<;>rfl|false=>rfl
theorem Yw(c:Small t)(q:T')(r:Z4×T'->aY X'):gy t q r=bg (qz t q) (gL.W1 0 t q r) (some false):=by
 unfold gy qz L0;rw[Wk,Wk];have a:(q.kind==2)=true->(q.kind==3)=false/\(q.kind==4)=false:=λh=>by have:q.kind=2:=(by simpa using h);rw[this];exact⟨rfl,rfl⟩
 have u:(q.kind==3)=true->(q.kind==4)=false:=λh=>by have:q.kind=3:=(by simpa using h);rw[this];rfl
 cases z:q.kind==2 with
 |true=>have⟨w,B⟩:=a z;rw[br,if_pos rfl,ζb,w,B];cases h:uJ t q.proc with|false=>rfl|true=>rw[br,ζb];cases q.peer==0 with|false=>rfl|true=>have⟨i,d,e⟩:=Hi c h q.name;rw[show(!true)=false from rfl,bz,d,ζb];rcases e with⟨n,k,P,v,-,-,rfl,-,-,-,b⟩|⟨rfl,b⟩;rw[b,decide_eq_false (show¬((k:Nat):Int)<0 by omega)];rfl;rw[b];rfl
 |false=>rw[bz,if_neg Zab,ζb,bz];cases w:q.kind==3 with|true=>rw[br,if_pos rfl,u w];cases uJ t q.proc<;>cases q.peer==0<;>cases(toList q.name==toList ByteArray.empty)<;>rfl|false=>rw[bz,if_neg Zab,ζb,bz];cases q.kind==4 with|true=>rw[br,if_pos rfl];cases uJ t q.proc<;>cases uJ t q.peer<;>cases(q.proc==q.peer)<;>cases(toList q.name==toList ByteArray.empty)<;>rfl|false=>rfl
theorem KA{f:T'->aY X'}{g:T'->X'}(h:∀q,f q=some (g q)){p:T'}(B:p.Sm)(hd:p.dp<=100000):o4 p f=some (p.gV g):=by refine OE p B ?_ _ hd;induction p using Pred.ind with|h p w=>rw[p.mb,ζh,all_eq_true];exact⟨by rw[h];simp,λq u=>w q u (B.vK u) (by have:=Pred.r_ u;omega)⟩
theorem Mz(a:Small t){p:T'}(B:p.Sm)(hd:p.dp<=100000):p_ t p=some (p.gV (qz t)):=by unfold p_;rw[KA (g:=qz t) (λq=>YC a q) B hd];rfl
theorem LX(b:Small t)(p:T')(B:p.Sm):∀n,p.dp<=n->dI (λr(z:Z4×T')=>gy z.1 z.2 r) n (t,p)=some (p.gV (qz t)):=by induction p using Pred.ind with|h p u=>intro n C;have hd:=p.vf;rw[jB Zaa];have u:=λq w=>u q w (B.vK w) (n-1);show gy t p (dI (λr(z:Z4×T')=>gy z.1 z.2 r) (n-1))=_;generalize dI (λr(z:Z4×T')=>gy z.1 z.2 r) (n-1)=R at u⊢;rw[Yw b,p.mb];cases qz t p with|false=>rfl|true=>rw[br,Bool.true_and];unfold gL.W1;refine xC (g:=Pred.gV (qz t)) B.len (λi a=>?_) ?_;unfold gL.bh;rw[fM a,br,bA a,ζb,u _ (getElem_mem a) (by have:=Pred.r_ (getElem_mem a);omega),ζb,bZ i (by have:=B.len;omega)];cases Pred.gV (qz t) p.l.l[i]<;>rfl;unfold gL.bh;rw[fW];rfl
abbrev rL(k:Int):Int:=if k<=8 then 1 else 2
abbrev ye(k:Int):Int:=if k<=12 then 1 else 2
def sJ(q:T'):X':=q.l.l.all λk=>rL k.kind==ye q.kind
theorem B5(k:Int):m_ k=some (rL k):=by unfold m_ rL;by_cases h:k<=8;rw[decide_eq_true h,if_pos h];rfl;rw[decide_eq_false h,if_neg h];rfl
theorem E3(q:T'):rJ q=some (rL q.kind):=by unfold rJ rL;by_cases h:q.kind<=8;rw[decide_eq_true h,if_pos h];rfl;rw[decide_eq_false h,if_neg h];rfl
theorem YZ(k:Int):t_ k=some (ye k):=by unfold t_ ye;by_cases h:k<=12;rw[decide_eq_true h,if_pos h];rfl;rw[decide_eq_false h,if_neg h];rfl
theorem X0{q:T'}(B:q.l.l.length<1073741824):j8 q=some (sJ q):=by unfold j8 sJ;rw[B1 _ B,AZ (f:=λk=> !(rL k.kind==ye q.kind)) (λk _=>by unfold nX;rw[B5,YZ];rfl)];simp only[Option.map_some,ζb];congr 1;rw[Bool.eq_iff_iff];simp
theorem I6{p:T'}(B:p.Sm)(hd:p.dp<=100000):qE p=some (p.gV sJ):=by
 unfold qE;have:p.gV (λq=>(λz=>j8 z) q==some (sJ q))=true:=by clear hd;induction p using Pred.ind with|h p w=>rw[p.mb,ζh,all_eq_true];exact⟨by show(j8 p==some (sJ p))=true;rw[X0 B.len];simp,λq u=>w q u (B.vK u)⟩
 unfold o4;rw[OE p B this _ hd];rfl
theorem Ji(p:T')(G:p.Sm):p.gV fB=true->∀n,p.dp<=n->dI (λr(z:T')=>jS z r) n p=some (p.gV sJ):=by induction p using Pred.ind with|h p D=>intro I n O;have hd:=p.vf;rw[p.mb,ζh,all_eq_true]at I;rw[jB Zaa];have D:=λq J=>D q J (G.vK J) (I.2 q J) (n-1);show jS p (dI (λr(z:T')=>jS z r) (n-1))=_;generalize dI (λr(z:T')=>jS z r) (n-1)=R at D⊢;(unfold jS gP.W1;have u:p.l.l≠[]->ye p.kind=if p.kind>=15 then 2 else 1:=λB=>by have⟨k1,k2,k3⟩:=yN I.1;by_cases h:p.kind=13\/p.kind=14;have c:cg.at wK p.kind=some 0:=(by rcases h with h|h<;>(rw[h];rfl));rw[c]at k3;have:p.l.l.length=0:=(by simpa[len]using(Option.some.inj k3).symm);exact absurd (List.length_eq_zero_iff.1 this) B;unfold ye;split<;>split<;>omega);have C:p.gV sJ=p.l.l.all λk=>(rL k.kind==ye p.kind)&&Pred.gV sJ k:=(by rw[p.mb];unfold sJ;rw[Bool.eq_iff_iff];simp only[ζh,all_eq_true];exact⟨λh k a=>⟨h.1 k a,h.2 k a⟩,λh=>⟨λk a=>(h k a).1,λk a=>(h k a).2⟩⟩);rw[C];refine xC (g:=λk=>(rL k.kind==ye p.kind)&&Pred.gV sJ k) G.len (λi b=>?_) ?_;have B:p.l.l≠[]:=λh=>(by rw[h]at b;simp at b);have L:∀w:Int,gP.J2 (i:Int) w p R=some (if(rL p.l.l[i].kind==w)&&Pred.gV sJ p.l.l[i]then .n ((i+1:Nat):Int)else .r ()):=λw=>(by unfold gP.J2;rw[bA b,ζb,E3,ζb,ζb,D _ (getElem_mem b) (by have:=Pred.r_ (getElem_mem b);omega),bZ i (by have:=G.len;omega)];cases(rL p.l.l[i].kind==w)<;>cases Pred.gV sJ p.l.l[i]<;>rfl);unfold gP.bh;rw[fM b,br,L,L,u B];by_cases h:p.kind>=15;rw[decide_eq_true h,if_pos h];rfl;rw[decide_eq_false h,if_neg h];rfl;unfold gP.bh;rw[fW];rfl
def vw(q:T'):X':=decide (q.kind>=18)&&decide (q.kind<=21)
theorem L6{p:T'}(B:p.Sm):qf p=some (oO p&& !p.gV λq=> !vw q):=by unfold qf;rw[Bo B,ζb];cases u:oO p with|false=>rfl|true=>have hd:p.dp<=20:=(by simp only[oO,ζh]at u;exact of_decide_eq_true u.2.1);rw[br,KA (g:=λq=> !vw q) (λq=>by unfold nU tI vw;cases decide (q.kind>=18)<;>rfl) B Zaa];rfl
theorem Ma(p:T')(B:p.Sm):∀n,p.dp<=n->dI (λr(z:T')=>iq z r) n p=some (!p.gV λq=> !vw q):=by induction p using Pred.ind with|h p u=>intro n G;have hd:=p.vf;rw[jB Zaa];have u:=λq C=>u q C (B.vK C) (n-1);show iq p (dI (λr(z:T')=>iq z r) (n-1))=_;generalize dI (λr(z:T')=>iq z r) (n-1)=R at u⊢;unfold iq;rw[show(bg (decide (p.kind>=18)) (some (decide (p.kind<=21))) (some false):aY X')=some (vw p)from by unfold vw;cases decide (p.kind>=18)<;>rfl,ζb,p.mb];cases vw p with|true=>rfl|false=>rw[bz];unfold ga.W1;have key:(bG (λq:Int=>ga.bh p q R) 0).bind (Fw.elim (λ_=>some true) (λ_=>some false))=some (p.l.l.all (Pred.gV λq=> !vw q)):=(by refine xC (g:=Pred.gV λq=> !vw q) B.len (λi a=>?_) ?_;unfold ga.bh;rw[fM a,br,bA a,ζb,u _ (getElem_mem a) (by have:=Pred.r_ (getElem_mem a);omega),ζb,bZ i (by have:=B.len;omega)];cases Pred.gV (λq=> !vw q) p.l.l[i]<;>rfl;unfold ga.bh;rw[fW];rfl);cases D:bG (λq:Int=>ga.bh p q R) 0 with|none=>rw[D]at key;cases key|some w=>rw[D]at key;cases w with|n s=>exact elim s|x e=>simp only[ζb,Fw.elim,ζa]at key⊢;rw[<-key];rfl|r e=>simp only[ζb,Fw.elim,ζa]at key⊢;rw[<-key];rfl
theorem Kz{p:T'}(B:p.Sm):si p=some (oO p&& !p.gV λq=> !vw q):=by unfold si ga;rw[BG B,ζb];cases u:oO p with|false=>rfl|true=>have hd:p.dp<=20:=(by simp only[oO,ζh]at u;exact of_decide_eq_true u.2.1);rw[br,Ma p B 100000 Zaa];rfl
end
theorem wL.of{t:Z4}(B:Ok t){p:Nat}{P:bS}(D:t.procs.l[p]?=some P):wL P:=by
 intro e C a G;have⟨k,c⟩:=mem_iff_getElem?.1 C;have⟨i,b⟩:=mem_iff_getElem?.1 G;have h:=B.gm p k P e D c;unfold qh at h;have w:i<e.assign.l.length:=by apply byContradiction;intro J;rw[getElem?_eq_none Zaa]at b;cases b
 have I:oP (nH P e) 0 e.assign.l.length=0:=by split at h;split at h;cases h;split at h;cases h;exact h;cases h
 have u:=(Jy (g:=nH P e) (n:=e.assign.l.length) (m:=e.assign.l.length) (k:=0) Zaa).1 I i (zero_le _) w;unfold nH at u;rw[b]at u;dsimp only at u;by_cases z:(decide (0<=a.var)&&decide (a.var<P.vars.l.length))=true;simpa using z;rw[Bool.not_eq_true]at z;rw[z]at u;simp only[Pc]at u;cases u
theorem ab6{t:Z4}{A:cg 200 bC}(b:Small t)(f:cZ t=some true)(e:VT t)(g:f_ t (bL t) A){c:Zg}(d:Cons t A c.l):
 Wp (jL t c) λr=>r.2=0/\r.1.l.length=t.procs.l.length/\∀(p:Nat)(P:bS)(a:Int),t.procs.l[p]?=some P->c.l[p]?=some a->∃x,r.1.l[p]?=some x/\x.l=iU P a.toNat:=by
 have I:=d.1.1;unfold jL;rw[en];refine(M0 b f e g c).mono λr i=>?_
 rw[i.zero.2 d,show((0:Int)==0)=true from rfl,br];unfold jL.W1;refine dH c.l.length (λn s=>s.2=(n:Int)/\s.1.l.length=n/\∀(p:Nat)(P:bS)(a:Int),p<n->t.procs.l[p]?=some P->c.l[p]?=some a->∃x,s.1.l[p]?=some x/\x.l=iU P a.toNat) ⟨rfl,rfl,λp P a h=>absurd h Zaa⟩ ?_ ?_
 .rintro n ⟨o,_⟩ u ⟨e1,e2,e3⟩;simp only at e1 e2 e3;subst e1;have J:n<t.procs.l.length:=by omega
  have w:=b.2 _ (getElem_mem J);have D:=ζd J;have C:=ζd u;have⟨a0,a1⟩:=d.1.2 n _ _ C D;have T:=wL.of e.ok D;have⟨x,S,L⟩:=Vr T w.2.1 w.1 w.2.2.2.2 (k:=c.l[n].toNat) Zaa
  rw[show((c.l[n].toNat:Nat):Int)=c.l[n]from Zaa]at S
  have j:=b.1;unfold jL.bh;rw[fM u,br,bA u,ζb,bA J,ζb,S,ζb];have G:fF o (x:Zg)=some (.row (o.l++[x])):=by unfold fF;rw[if_pos Zaa]
  rw[G,ζb,a_,bZ n Zaa]
  refine⟨rfl,by simp[Sl.l];exact e2,λp P a h z B=>?_⟩
  show∃y,(o.l++[x])[p]?=some y/\_
  by_cases O:p=n
  .subst O;rw[D]at z;rw[C]at B;cases z;cases B;exact⟨x,by rw[List.getElem?_append_right Zaa];simp[e2],L⟩
  have⟨y,U,Q⟩:=e3 p P a Zaa z B
  exact⟨y,by rw[List.getElem?_append_left Zaa];exact U,Q⟩
 rintro⟨o,_⟩ ⟨e1,e2,e3⟩;simp only at e1 e2 e3;subst e1;unfold jL.bh;rw[show decide ((c.l.length:Int)<len c)=false from fW,bz,a_];refine(a_ _).2 ⟨rfl,by rw[e2,I],λp P a D C=>e3 p P a ?_ D C⟩
 apply byContradiction;intro W;rw[getElem?_eq_none Zaa]at C;cases C
section
variable{P:T'}{t:Z4}
end
def qM(l:Rd)(m:Int):Prop:=m∈l/\∀x∈l,m<=x
def isMax(l:Rd)(m:Int):Prop:=m∈l/\∀x∈l,x<=m
theorem qM.one{l:Rd}{a b:Int}(h:qM l a)(g:qM l b):a=b:=by have:=h.2 b g.1;have:=g.2 a h.1;omega
theorem isMax.one{l:Rd}{a b:Int}(h:isMax l a)(g:isMax l b):a=b:=by have:=h.2 b g.1;have:=g.2 a h.1;omega
theorem qM.snoc{l:Rd}{a x:Int}(h:qM l a):qM (l++[x]) (if x<a then x else a):=by have⟨b,w⟩:=h;split;refine⟨Zab,λy u=>?_⟩;grind;refine⟨mem_append_left _ b,λy u=>?_⟩;grind
theorem isMax.snoc{l:Rd}{a x:Int}(h:isMax l a):isMax (l++[x]) (if x>a then x else a):=by have⟨b,w⟩:=h;split;refine⟨Zab,λy u=>?_⟩;grind;refine⟨mem_append_left _ b,λy u=>?_⟩;grind
theorem Sz{s:Zg}(h:0<s.l.length)(B:s.l.length<1073741824):Wp (dB s) λm=>qM s.l m:=by
 unfold dB dB.J1 dB.W2;rw[decide_eq_false (show¬len s<1 by grind),bz,show idx s 0=some s.l[0]from bA (i:=0) h,ζb];refine dH (s.l.length-1) (λn q=>q.2=((n+1:Nat):Int)/\qM (s.l.take (n+1)) q.1) ⟨rfl,?_⟩ ?_ ?_;rw[take_add_one,ζd h];exact⟨Zab,λx z=>Zac⟩;rintro n ⟨m,_⟩ C ⟨rfl,w⟩;have u:n+1<s.l.length:=by omega
 unfold dB.bF;rw[fM u,br,bA u,ζb,a_,bZ _ Zaa];refine⟨rfl,?_⟩;rw[take_add_one,ζd u];exact w.snoc;rintro⟨m,_⟩ ⟨rfl,w⟩;unfold dB.bF;rw[show s.l.length-1+1=s.l.length from Zaa,fW,bz,a_];rw[show s.l.length-1+1=s.l.length from Zaa,take_length]at w;exact(a_ _).2 w
theorem Rt{s:Zg}(h:0<s.l.length)(B:s.l.length<1073741824):Wp (dD s) λm=>isMax s.l m:=by
 unfold dD dD.J1 dD.W2;rw[decide_eq_false (show¬len s<1 by grind),bz,show idx s 0=some s.l[0]from bA (i:=0) h,ζb];refine dH (s.l.length-1) (λn q=>q.2=((n+1:Nat):Int)/\isMax (s.l.take (n+1)) q.1) ⟨rfl,?_⟩ ?_ ?_;rw[take_add_one,ζd h];exact⟨Zab,λx z=>Zac⟩;rintro n ⟨m,_⟩ C ⟨rfl,w⟩;have u:n+1<s.l.length:=by omega
 unfold dD.bF;rw[fM u,br,bA u,ζb,a_,bZ _ Zaa];refine⟨rfl,?_⟩;rw[take_add_one,ζd u];exact w.snoc;rintro⟨m,_⟩ ⟨rfl,w⟩;unfold dD.bF;rw[show s.l.length-1+1=s.l.length from Zaa,fW,bz,a_];rw[show s.l.length-1+1=s.l.length from Zaa,take_length]at w;exact(a_ _).2 w
theorem Oy{s:Zg}{a b:Int}(h:0<s.l.length)(B:s.l.length<1073741824)(D:qM s.l a)(G:isMax s.l b):nF s=some ⟨a,b⟩:=by have⟨m,c,u⟩:=Sz h B;have⟨n,g1,g2⟩:=Rt h B;unfold nF;rw[c,ζb,g1,ζb,u.one D,g2.one G]
theorem abS(n:Int):nF (Sl.row [n]:Zg)=some ⟨n,n⟩:=Oy (by simp[Sl.l]) (by simp[Sl.l]) ⟨by simp[Sl.l],λx u=>by simp[Sl.l]at u;omega⟩ ⟨by simp[Sl.l],λx u=>by simp[Sl.l]at u;omega⟩
theorem ace(a b c d:Int):nF (Sl.row [a,b,c,d]:Zg)=some ⟨if(if d<c then d else c)<(if b<a then b else a)then(if d<c then d else c)else(if b<a then b else a),if(if d>c then d else c)>(if b>a then b else a)then(if d>c then d else c)else(if b>a then b else a)⟩:=by refine Oy (by simp[Sl.l]) (by simp[Sl.l]) ⟨?_,λx u=>?_⟩ ⟨?_,λx u=>?_⟩;show _∈[a,b,c,d];grind;have u:x∈[a,b,c,d]:=u;grind;show _∈[a,b,c,d];grind;have u:x∈[a,b,c,d]:=u;grind
theorem Pw(a b:Int):kY a b=cR a b:=by unfold kY cR cR.J1 vu;by_cases z:a=0;subst z;rw[show(0:Int)*b=0 from Zaa];rfl;have u:(a==0)=false:=Zac;by_cases B:b=0;subst B;rw[u,show a*(0:Int)=0 from Zaa];rfl;have w:(b==0)=false:=Zac;rw[u,w];rfl
def nM(az:aX Assign)(v:Int):Ps:=(az.find? λa=>a.var==v).map Assign.value
def Gn(az:aX Assign):Prop:=∀(i j:Nat)a b,i<j->az[i]?=some a->az[j]?=some b->a.var≠b.var
theorem Gn.tail{a:Assign}{r:aX Assign}(h:Gn (a::r)):Gn r:=λi j x y u w z=>h (i+1) (j+1) x y Zaa Zac Zac
theorem Gn.head{a:Assign}{r:aX Assign}(h:Gn (a::r)):∀b∈r,a.var≠b.var:=λb u=>by have⟨j,w⟩:=mem_iff_getElem?.1 u;exact h 0 (j+1) a b Zaa Zab Zac
theorem Lv:∀(az:aX Assign)(l:Rd)(k:Nat),Gn az->(∀a∈az,0<=a.var)->k<l.length->(By l az)[k]?=some ((nM az k).getD (l[k]?.getD 0))
 |[],l,k,_,_,hk=>by simp[By,nM,ζd hk]|a::r,l,k,hd,h0,hk=>by show(By (l.set a.var.toNat a.value) r)[k]?=_;have B:=h0 a Zab;rw[Lv r _ k hd.tail (λb u=>h0 b (mem_cons_of_mem _ u)) Zac];congr 1;by_cases w:a.var=(k:Int);have c:nM r k=none:=(by unfold nM;rw[Option.map_eq_none_iff,find?_eq_none];intro b u;have:=hd.head b u;simp;omega);rw[c];unfold nM;grind;have c:nM (a::r) k=nM r k:=(by unfold nM;grind);grind
def nV(P:bS)(v k:Nat):Int:=((iU P k)[v]?).getD 0
structure SP(P:bS):Prop where
 ok:wL P
 dst:∀e∈P.events.l,Gn e.assign.l
theorem It{P:bS}{v:Nat}(k:Nat)(a:v<P.vars.l.length):(iU P k)[v]?=some (nV P v k):=by unfold nV;rw[ζd (by rw[qS];omega)];rfl
theorem IF{P:bS}(B:SP P){v k:Nat}(c:v<P.vars.l.length){e:WF}(D:P.events.l[k]?=some e):nV P v (k+1)=(nM e.assign.l v).getD (nV P v k):=by
 have u:=mem_of_getElem? D;have b:iU P (k+1)=By (iU P k) e.assign.l:=by show(match P.events.l[k]?with|some e=>By (iU P k) e.assign.l|none=>iU P k)=_;rw[D]
 unfold nV;rw[b,Lv _ _ _ (B.dst e u) (λa w=>(B.ok e u a w).1) (by rw[qS];omega)];rfl
theorem SP.of{t:Z4}(D:Ok t){p:Nat}{P:bS}(G:t.procs.l[p]?=some P):SP P:=by
 refine⟨wL.of D G,λe I i j a b w J C z=>?_⟩;have⟨k,c⟩:=mem_iff_getElem?.1 I;have h:=D.gm p k P e G c;unfold qh at h;have B:j<e.assign.l.length:=(ζe.1 C).1;have L:oP (nH P e) 0 e.assign.l.length=0:=by grind
 have u:=(Jy (g:=nH P e) (n:=e.assign.l.length) (m:=e.assign.l.length) (k:=0) Zaa).1 L j (zero_le _) B;unfold nH at u;rw[C]at u;dsimp only at u;have O:jQ (fO e.assign.l λx=>x.var==b.var) 0 j=true:=by rw[KH];exact⟨i,zero_le _,w,by simp[fO,J,z]⟩
 rw[O]at u;revert u;cases(decide (0<=b.var)&&decide (b.var<P.vars.l.length))<;>cases(decide (b.value>=-1073741824)&&decide (b.value<=1073741824))<;>simp[Pc]
abbrev rW(P:bS)(v n:Nat):aX Int:=(range (n+1)).map (nV P v)
theorem Pr(P:bS)(v n:Nat):rW P v (n+1)=rW P v n++[nV P v (n+1)]:=by unfold rW;rw[range_succ,map_append];rfl
theorem JD{P:bS}{v n k:Nat}(h:k<=n):nV P v k∈rW P v n:=mem_map.2 ⟨k,List.mem_range.2 Zaa,rfl⟩
theorem qM.old{l:Rd}{a x:Int}(h:qM l a)(B:x∈l):qM (l++[x]) a:=
 ⟨mem_append_left _ h.1,λy b=>by
  rcases List.mem_append.1 b with b|b
  .exact h.2 y b
  simp at b;subst b;exact h.2 _ B⟩
theorem isMax.old{l:Rd}{a x:Int}(h:isMax l a)(B:x∈l):isMax (l++[x]) a:=
 ⟨mem_append_left _ h.1,λy b=>by
  rcases List.mem_append.1 b with b|b
  .exact h.2 y b
  simp at b;subst b;exact h.2 _ B⟩
section
variable{P:bS}{v:Nat}
theorem R1(D:wL P)(b:P.vars.l.length<1073741824)(U:P.events.l.length<1073741823)(G:∀e∈P.events.l,e.assign.l.length<1073741824)(B:v<P.vars.l.length):
 Wp (gQ P v) λs=>s.l=rW P v P.events.l.length:=by
 have⟨r,c,C,I⟩:=I7 D b Zaa G
 have key:∀(a:aX (Int×Zg))(i:Nat)(q:Zg),r.drop i=a->i<=r.length->q.l=(range i).map (nV P v)->∃s,(mm (λ(x:Int×(Zg))(q:Zg)=>gQ.lF P v x q) a q).bind (Fw.tj (λq=>some q) (λe=>elim e) (λe=>elim e))=some s/\s.l=(range r.length).map (nV P v):=by intro a;induction a with|nil=>intro i q hd d z;have:r.length<=i:=(by simpa using hd);exact⟨q,rfl,by rw[z,show i=r.length from Zaa]⟩|cons y a J=>intro i q hd _ z;have u:i<r.length:=(by apply byContradiction;intro S;rw[List.drop_eq_nil_of_le Zaa]at hd;cases hd);have e2:=List.drop_eq_getElem_cons u;rw[e2]at hd;simp only[List.cons.injEq]at hd;have⟨T,L⟩:=I i y (by rw[ζd u,hd.1]);have O:idx y.2 (v:Int)=some (nV P v i):=(by rw[iO,L];exact It i B);have Q:q.l.length=i:=(by rw[z];simp);have w:fF q (nV P v i)=some (.row (q.l++[nV P v i])):=(by unfold fF;rw[if_pos Zaa]);have⟨s,g1,g2⟩:=J (i+1) (.row (q.l++[nV P v i])) hd.2 Zaa (by show q.l++[nV P v i]=_;rw[z,range_succ,map_append];rfl);refine⟨s,?_,g2⟩;simp only[mm,gQ.lF,O,w,ζb];exact g1
 have⟨s,g1,g2⟩:=key r 0 .nil rfl (zero_le _) rfl;refine⟨s,?_,by show s.l=_;rw[g2,C]⟩
 unfold gQ pJ gQ.E1;simp only[ζb,c];exact g1
theorem Mc{α:Type}{f:α->X'}{l:aX α}{k:Nat}{x:α}(b:l[k]?=some x)(B:f x=true)(D:∀(j:Nat)(y:α),j<k->l[j]?=some y->f y=false):place f l=k:=by unfold place;have a:=(ζe.1 b);have⟨a,u⟩:=a;rw[show l.findIdx? f=some k from by rw[List.findIdx?_eq_some_iff_getElem];exact⟨a,by rw[u];exact B,λj w=>by rw[D j _ w (ζd Zaa)];simp⟩]
theorem RH{t:Z4}(d:Small t)(e:cZ t=some true)(J:Ok t){n:Nat}(D:t.procs.l[n]?=some P){name:U'}{x:Var}(c:P.vars.l[v]?=some x)(U:(toList x.name==toList name)=true)
 (W:∀(j:Nat)(w:Var),j<v->P.vars.l[j]?=some w->(toList w.name==toList name)=false):
 Wp (tq t n name) λr=>r.2.2=0/\qM (rW P v P.events.l.length) r.1/\isMax (rW P v P.events.l.length) r.2.1:=by
 have O:n<t.procs.l.length:=(ζe.1 D).1;have Q:=mem_of_getElem? D;have u:=d.2 P Q;have C:v<P.vars.l.length:=(ζe.1 c).1;have I:P.events.l.length<=64:=by have:=J.heads n O;unfold s7 at this;rw[D]at this;dsimp only at this;split at this;split at this;cases this;split at this;split at this;cases this;omega;rename_i G;exact absurd this G;cases this
 have⟨s,g1,g2⟩:=R1 (wL.of J D) u.2.1 Zaa u.2.2.2.2 C
 have g:s.l.length=P.events.l.length+1:=by rw[g2];simp[rW]
 have⟨a,a1,a2⟩:=Sz (s:=s) Zaa Zaa
 have⟨b,S,L⟩:=Rt (s:=s) Zaa Zaa
 have B:ue t n name=some ((v:Int),0):=by unfold ue;rw[e,ζb,br,decide_eq_false (show¬(n:Int)<0 by omega),bz,ζb,decide_eq_false (show¬(n:Int)>=len t.procs by simp only[len];omega),bz,iO,D,ζb];unfold vN;rw[Fh (p:=λz=>qg z name) (f:=λw=>toList w.name==toList name) (λ_ _=>rfl) u.2.1,Mc c U W,ζb,ζb,decide_eq_false (show¬((v:Nat):Int)<0 by omega)];rfl
 unfold tq;rw[B,ζb];simp only;rw[show((0:Int)==0)=true from rfl,br,iO,D,ζb,g1,ζb,a1,ζb,S,ζb,a_];rw[g2]at a2 L;exact⟨rfl,a2,L⟩
def hG(o:Ps)(b a:Int):Int×Int:=match o with
 |none=>(b,a)|some x=>(if x<b then x else b,if x>a then x else a)
theorem Ip{az:aX Assign}(hd:Gn az){j:Nat}(B:j<az.length):nM (az.take (j+1)) v=if az[j].var=(v:Int)then some az[j].value else nM (az.take j) v:=by
 unfold nM;rw[take_add_one,ζd B];show((az.take j++[az[j]]).find? _).map _=_;rw[List.find?_append];by_cases h:az[j].var=(v:Int);rw[if_pos h];have:(az.take j).find? (λa=>a.var==(v:Int))=none:=by rw[find?_eq_none];intro b w;have⟨i,c⟩:=mem_iff_getElem?.1 w;have u:i<j:=(by have:=(ζe.1 c).1;rw[length_take]at this;omega);rw[List.getElem?_take_of_lt u]at c;have:=hd i j b az[j] u c (ζd B);simp;omega
 rw[this,List.find?_cons_of_pos (by simpa using h)];rfl;rw[if_neg h,List.find?_cons_of_neg (by simpa using h)];simp
theorem RE{az:aX Assign}(hd:Gn az){j:Nat}(B:j<az.length)(h:az[j].var=(v:Int)):nM (az.take j) v=none:=by
 unfold nM;rw[Option.map_eq_none_iff,find?_eq_none];intro b w;have⟨i,a⟩:=mem_iff_getElem?.1 w;have u:i<j:=by have:=(ζe.1 a).1;rw[length_take]at this;omega
 rw[List.getElem?_take_of_lt u]at a;have:=hd i j b az[j] u a (ζd B);simp;omega
theorem Sj{t:Z4}(f:Small t)(U:Ok t){n:Nat}(J:t.procs.l[n]?=some P)(B:v<P.vars.l.length):
 Wp (gp t n v) λr=>qM (rW P v P.events.l.length) r.1/\isMax (rW P v P.events.l.length) r.2:=by
 have T:=mem_of_getElem? J;have L:=f.2 P T;have Q:=SP.of U J;have C:idx t.procs (n:Int)=some P:=by rw[iO];exact J
 unfold gp;rw[C,ζb,bA B,ζb];unfold gp.W1;have d:rW P v 0=[P.vars.l[v].init_]:=by simp[rW,nV,iU,ζd B]
 refine dH P.events.l.length (λi s=>s.2.2=(i:Int)/\qM (rW P v i) s.1/\isMax (rW P v i) s.2.1) ⟨rfl,by rw[d];exact⟨Zab,λx C=>by simp at C;show P.vars.l[v].init_<=x;omega⟩,by rw[d];exact⟨Zab,λx C=>by simp at C;show x<=P.vars.l[v].init_;omega⟩⟩ ?_ ?_
 .rintro i ⟨c,b,_⟩ hi ⟨rfl,w,z⟩;simp only at w z;have D:=getElem_mem hi;have hd:=Q.dst _ D;have W:=L.2.2.2.2 _ D;have u:=IF Q B (ζd hi);unfold gp.bh;rw[C,ζb,fM hi,br,ζb,bA hi,ζb];generalize P.events.l[i]=e at *;unfold gp.W2;refine dH e.assign.l.length (λj s=>s.2.2=(j:Int)/\(s.1,s.2.1)=hG (nM (e.assign.l.take j) v) c b) ⟨rfl,by simp[nM,hG]⟩ ?_ ?_
  .rintro j ⟨g,O,_⟩ G ⟨rfl,a⟩;unfold gp.bF;rw[fM G,br,bA G,ζb]
   by_cases I:e.assign.l[j].var=(v:Int)
   .rw[show(e.assign.l[j].var==(v:Int))=true from by simpa using I,br,ζb,ζb,a_,bZ j Zaa]
    rw[RE hd G I]at a;simp only[hG,ζc]at a;obtain⟨rfl,rfl⟩:=a;refine⟨rfl,?_⟩;rw[Ip hd G,if_pos I];rfl
   rw[show(e.assign.l[j].var==(v:Int))=false from by simpa using I,bz,a_,bZ j Zaa]
   refine⟨rfl,?_⟩;rw[Ip hd G,if_neg I];exact a
  rintro⟨g,O,_⟩ ⟨rfl,a⟩;unfold gp.bF;rw[fW,bz,a_];simp only;rw[a_,bZ i Zaa]
  rw[take_length]at a;refine⟨rfl,?_⟩;simp only;rw[Pr]
  cases S:nM e.assign.l v with
  |none=>rw[S]at a u;simp only[hG,ζc]at a;obtain⟨rfl,rfl⟩:=a;rw[show nV P v (i+1)=nV P v i from u];exact⟨w.old (JD (le_refl _)),z.old (JD (le_refl _))⟩|some x=>rw[S]at a u;simp only[hG,ζc]at a;obtain⟨rfl,rfl⟩:=a;rw[show nV P v (i+1)=x from u];exact⟨w.snoc,z.snoc⟩
 rintro⟨c,b,_⟩ ⟨rfl,w,z⟩;unfold gp.bh;rw[C,ζb,fW,bz,a_];exact(a_ _).2 ⟨w,z⟩
end
section
variable{t:Z4}{A:cg 200 bC}
theorem Nb(a:Small t){p:Nat}{P:bS}(D:t.procs.l[p]?=some P)(q:Nat):fR t p q=some ((P.events.l.countP (eA q):Nat):Int):=by
 have G:P∈t.procs.l:=mem_of_getElem? D;have I:=(a.2 P G).1;refine Wp.eq ?_;unfold fR;rw[iO,D,ζb];unfold fR.W1;refine dH P.events.l.length (λn s=>s.2=(n:Int)/\s.1=(((P.events.l.take n).countP (eA q):Nat):Int)) ⟨rfl,rfl⟩ ?_ ?_;rintro n ⟨o,_⟩ w ⟨e1,e2⟩;simp only at e1 e2;subst e1 e2;have z:=List.countP_le_length (p:=eA q) (l:=P.events.l.take n);rw[length_take]at z;have u:(P.events.l.take (n+1)).countP (eA q)=(P.events.l.take n).countP (eA q)+if eA q P.events.l[n]then 1 else 0:=by rw[take_add_one,ζd w,countP_append];show _+countP _ [P.events.l[n]]=_;rw[countP_cons,countP_nil];simp
 unfold fR.bh;rw[fM w,br,bA w,ζb];generalize P.events.l[n]=e at u;have B:(bg (e.kind==2) (some (e.peer==(q:Int))) (some false):aY X')=some (eA q e):=by unfold eA;cases e.kind==2<;>cases e.peer==(q:Int)<;>rfl
 rw[B,ζb,bZ n Zaa];cases C:eA q e with|true=>rw[C]at u;rw[br,a_,bZ _ Zaa];exact⟨rfl,by simp only[u];rfl⟩|false=>rw[C]at u;rw[bz,a_];exact⟨rfl,by simp only[u];rfl⟩
 rintro⟨o,_⟩ ⟨e1,e2⟩;simp only at e1 e2;subst e1 e2;unfold fR.bh;rw[fW,bz,a_];exact(a_ _).2 (by rw[take_length])
theorem ON{α:Type}{f:α->X'}{l:aX α}{n:Nat}(h:n<l.length):(l.take (n+1)).countP f=(l.take n).countP f+if f l[n]then 1 else 0:=by rw[take_add_one,ζd h,countP_append];show _+countP _ [l[n]]=_;rw[countP_cons,countP_nil];simp
end
section
variable{t:Z4}
theorem Za(a:Small t){p:Nat}{P:bS}(D:t.procs.l[p]?=some P)(q:Int):jK t p q=some ((P.events.l.countP (eA q):Nat):Int):=by
 have I:P∈t.procs.l:=mem_of_getElem? D;have J:=(a.2 P I).1;have C:idx t.procs (p:Int)=some P:=by rw[iO];exact D
 refine Wp.eq ?_;unfold jK jK.W1;refine dH P.events.l.length (λn s=>s.2=(n:Int)/\s.1=(((P.events.l.take n).countP (eA q):Nat):Int)) ⟨rfl,rfl⟩ ?_ ?_;rintro n ⟨o,_⟩ w ⟨e1,e2⟩;simp only at e1 e2;subst e1 e2;have z:=List.countP_le_length (p:=eA q) (l:=P.events.l.take n);rw[length_take]at z;have u:=ON (f:=eA q) w;unfold jK.bh;rw[C,ζb,fM w,br,ζb,bA w,ζb];generalize P.events.l[n]=e at u;have B:(bg (e.kind==2) (some (e.peer==q)) (some false):aY X')=some (eA q e):=by unfold eA;cases e.kind==2<;>cases e.peer==q<;>rfl
 rw[B,ζb,bZ n Zaa];cases G:eA q e with|true=>rw[G]at u;rw[br,a_,bZ _ Zaa];exact⟨rfl,by simp only[u];rfl⟩|false=>rw[G]at u;rw[bz,a_];exact⟨rfl,by simp only[u];rfl⟩
 rintro⟨o,_⟩ ⟨e1,e2⟩;simp only at e1 e2;subst e1 e2;unfold jK.bh;rw[C,ζb,fW,bz,a_];exact(a_ _).2 (by rw[take_length])
def BL(b a:Int):X':=decide (b>=-1125899906842624)&&decide (a<=1125899906842624)
structure Ju(low high:Int):Prop where
 le:low<=high
 lo:-1125899906842624<=low
 hi:high<=1125899906842624
theorem GG(b a:Int)(r:Z4×T'->aY (Int×Int×X')):bU.J3 b a r=some (b,a,BL b a):=by unfold bU.J3 BL;cases decide (b>=-1125899906842624)<;>rfl
theorem Lf(b a:Int):jZ ⟨b,a⟩=some (!BL b a):=by
 unfold jZ BL;have c:decide (b< -1125899906842624)= !decide (b>=-1125899906842624):=by rw[Bool.eq_iff_iff];simp
 have u:decide (a>1125899906842624)= !decide (a<=1125899906842624):=by rw[Bool.eq_iff_iff];simp
 simp only;rw[c,u];cases decide (b>=-1125899906842624)<;>cases decide (a<=1125899906842624)<;>rfl
theorem Ju.of{b a:Int}(h:b<=a)(g:BL b a=true):Ju b a:=by simp only[BL,ζh]at g;have:=of_decide_eq_true g.1;have:=of_decide_eq_true g.2;exact⟨h,Zaa,Zaa⟩
theorem Bq(a b c d:Int)(p:T')(r:Z4×T'->aY (Int×Int×X')):bU.J2 a b c d true true t p r=(bg (p.kind==1) (bU.J3 p.n p.n r) (bg (p.kind==2) ((jX t p.proc p.name).bind λg=>(gp t p.proc g).bind λf=>bU.J3 f.1 f.2 r) (bg (p.kind==3) ((idx t.procs p.proc).bind λh=>bU.J3 0 (len h.events) r) (bg (p.kind==4) ((jK t p.proc p.peer).bind λi=>bU.J3 0 i r) (bg (p.kind==5) (bU.J3 (wrap .i64 (0-b)) (wrap .i64 (0-a)) r) (bg (p.kind==6) (bU.J3 (wrap .i64 (a+c)) (wrap .i64 (b+d)) r) (bg (p.kind==7) (bU.J3 (wrap .i64 (a-d)) (wrap .i64 (b-c)) r) ((cR a c).bind λB=>(cR a d).bind λD=>(cR b c).bind λG=>(cR b d).bind λJ=>(cR a c).bind λU=>(cR a d).bind λW=>(cR b c).bind λY=>(cR b d).bind λe=>bU.J3 (if(if J<G then J else G)<(if D<B then D else B)then(if J<G then J else G)else(if D<B then D else B)) (if(if e>Y then e else Y)>(if W>U then W else U)then(if e>Y then e else Y)else(if W>U then W else U)) r))))))):aY (Int×Int×X')):=rfl
theorem WY{a b c d:Int}{ok B:X'}(h:(ok&&B)=false)(p:T')(r:Z4×T'->aY (Int×Int×X')):bU.J2 a b c d ok B t p r=some (0,0,false):=by unfold bU.J2;cases ok<;>cases B<;>first|rfl|cases h
theorem zZ{a b:Int}(B:-1125899906842624<=a/\a<=1125899906842624)(D:-1125899906842624<=b/\b<=1125899906842624):∃x,cR a b=some x:=by
 unfold cR cR.J1;by_cases c:a=0;subst c;exact⟨_,rfl⟩;rw[show(a==0)=false from by simpa using c,bz,ζb];by_cases d:b=0;subst d;exact⟨_,rfl⟩;rw[show(b==0)=false from by simpa using d,show(!false)=true from rfl,br,fJ (0-b) Zaa Zaa];have:∀k m:Int,m≠0->∃x,BC .i64 k m=some x:=λk m u=>by unfold BC;rw[if_neg u];exact⟨_,rfl⟩
 have⟨x,w⟩:=this 1125899906842624 (if 0-b>b then 0-b else b) (by split<;>omega);rw[w,ζb];cases decide ((if wrap .i64 (0-a)>a then wrap .i64 (0-a)else a)>x)<;>cases(decide (a<0)==decide (b<0))<;>exact⟨_,rfl⟩
theorem RK(g:Small t)(j:cZ t=some true)(G:Ok t){q:T'}(U:fB q=true)(d:qz t q=true)(x:q.kind<=4):
 ∃f c,nD t q=some ⟨f,c⟩/\f<=c/\∀r,bU.J2 0 0 0 0 true true t q r=bU.J3 f c r:=by
 obtain⟨k1,-,-⟩:=yN U;rcases(show q.kind=1\/q.kind=2\/q.kind=3\/q.kind=4 by omega)with h|h|h|h
 .refine⟨q.n,q.n,?_,Int.le_refl _,λr=>?_⟩
  .unfold nD;rw[show(q.kind==1)=true from by simpa using h,br,abS];rfl
  rw[Bq,show(q.kind==1)=true from by simpa using h,br]
 .unfold qz at d;rw[if_pos (by simpa using h)]at d
  simp only[ζh]at d;obtain⟨O,-,w⟩:=d;have⟨i,l,o⟩:=Hi g (p:=q.proc) (by simp only[ζh];exact O) q.name
  rcases o with⟨n,k,P,v,u,z,rfl,B,s,Q,-⟩|⟨-,C⟩
  .have⟨⟨f,c,e⟩,g1,g2,g3,g4⟩:=RH g j G z (name:=q.name) B s Q;simp only at g2 g3 g4;subst g2;have⟨⟨a,b⟩,S,I,J⟩:=Sj g G z (v:=k) (ζe.1 B).1;simp only at I J;obtain rfl:=g3.one I;obtain rfl:=g4.one J;refine⟨f,c,?_,g4.2 _ g3.1,λr=>?_⟩
   .unfold nD;rw[h,show((2:Int)==1)=false from rfl,bz,show((2:Int)==3)=false from rfl,bz,show((2:Int)==4)=false from rfl,bz,u,g1];rfl
   rw[Bq,h,show((2:Int)==1)=false from rfl,bz,show((2:Int)==2)=true from rfl,br,l,ζb,u,S,ζb]
  rw[C]at w;cases w
 .unfold qz at d;rw[if_neg (by simp[h]),if_pos (by simpa using h)]at d
  simp only[ζh]at d;have⟨n,u,D⟩:=xw (t:=t) (p:=q.proc) (by simp only[ζh];exact d.1)
  refine⟨0,len t.procs.l[n].events,?_,by simp only[len];omega,λr=>?_⟩
  .unfold nD;rw[h,show((3:Int)==1)=false from rfl,bz,show((3:Int)==3)=true from rfl,br,u,bA D];rfl
  rw[Bq,h,show((3:Int)==1)=false from rfl,bz,show((3:Int)==2)=false from rfl,bz,show((3:Int)==3)=true from rfl,br,u,bA D];rfl
 unfold qz at d;rw[if_neg (by simp[h]),if_neg (by simp[h]),if_pos (by simpa using h)]at d
 simp only[ζh]at d;have⟨n,u,D⟩:=xw (t:=t) (p:=q.proc) (by simp only[ζh];exact d.1)
 have⟨m,L,T⟩:=xw (t:=t) (p:=q.peer) (by simp only[ζh];exact d.2.1)
 have z:=ζd D;refine⟨0,((t.procs.l[n].events.l.countP (eA m):Nat):Int),?_,Zaa,λr=>?_⟩
 .unfold nD;rw[h,show((4:Int)==1)=false from rfl,bz,show((4:Int)==3)=false from rfl,bz,show((4:Int)==4)=true from rfl,br,u,L,Nb g z];rfl
 rw[Bq,h,show((4:Int)==1)=false from rfl,bz,show((4:Int)==2)=false from rfl,bz,show((4:Int)==3)=false from rfl,bz,show((4:Int)==4)=true from rfl,br,u,L,Za g z];rfl
theorem WL(v:bV)(l h:Int)(r:Z4×T'->aY (bV×X')):dL.J2 v ⟨l,h⟩ r=some (⟨l,h⟩,BL l h):=by unfold dL.J2;rw[Lf,ζb,Bool.not_not]
theorem Rs{ok B:X'}(h:(ok&&B)=false)(p:T')(v a b:bV)(r:Z4×T'->aY (bV×X')):dL.J1 ok B p v a b r=some (⟨0,0⟩,false):=by unfold dL.J1;cases ok<;>cases B<;>first|rfl|cases h
theorem II{p:T'}(i:5<=p.kind/\p.kind<=8){a b c d:Int}(g:Ju a b)(J:Ju c d)(v:bV)(r:Z4×T'->aY (bV×X'))(B:Z4×T'->aY (Int×Int×X')):
 ∃f e,dL.J1 true true p v ⟨a,b⟩ ⟨c,d⟩ r=some (⟨f,e⟩,BL f e)/\bU.J2 a b c d true true t p B=some (f,e,BL f e)/\f<=e:=by
 have⟨a1,a2,a3⟩:=g;have⟨O,Q,S⟩:=J;rw[Bq];unfold dL.J1;rw[br,ζb,show(!true)=false from rfl,bz];rcases(show p.kind=5\/p.kind=6\/p.kind=7\/p.kind=8 by omega)with h|h|h|h<;>rw[h]
 .refine⟨-b,-a,?_,?_,Zaa⟩
  .rw[show((5:Int)==5)=true from rfl,br,WL];simp only;rw[fJ (0-b) Zaa Zaa,fJ (0-a) Zaa Zaa,show(0:Int)-b=-b from Zaa,show(0:Int)-a=-a from Zaa]
  show bU.J3 _ _ B=_;rw[GG,fJ (0-b) Zaa Zaa,fJ (0-a) Zaa Zaa,show(0:Int)-b=-b from Zaa,show(0:Int)-a=-a from Zaa]
 .refine⟨a+c,b+d,?_,?_,Zaa⟩
  .rw[show((6:Int)==5)=false from rfl,bz,show((6:Int)==6)=true from rfl,br,WL];simp only;rw[fJ (a+c) Zaa Zaa,fJ (b+d) Zaa Zaa]
  show bU.J3 _ _ B=_;rw[GG,fJ (a+c) Zaa Zaa,fJ (b+d) Zaa Zaa]
 .refine⟨a-d,b-c,?_,?_,Zaa⟩
  .rw[show((7:Int)==5)=false from rfl,bz,show((7:Int)==6)=false from rfl,bz,show((7:Int)==7)=true from rfl,br,WL];simp only;rw[fJ (a-d) Zaa Zaa,fJ (b-c) Zaa Zaa]
  show bU.J3 _ _ B=_;rw[GG,fJ (a-d) Zaa Zaa,fJ (b-c) Zaa Zaa]
 have⟨w,u⟩:=zZ (a:=a) (b:=c) ⟨Zaa,Zaa⟩ ⟨Zaa,Zaa⟩
 have⟨x,C⟩:=zZ (a:=a) (b:=d) ⟨Zaa,Zaa⟩ ⟨Zaa,Zaa⟩
 have⟨y,D⟩:=zZ (a:=b) (b:=c) ⟨Zaa,Zaa⟩ ⟨Zaa,Zaa⟩
 have⟨z,G⟩:=zZ (a:=b) (b:=d) ⟨Zaa,Zaa⟩ ⟨Zaa,Zaa⟩
 refine⟨if(if z<y then z else y)<(if x<w then x else w)then(if z<y then z else y)else(if x<w then x else w),if(if z>y then z else y)>(if x>w then x else w)then(if z>y then z else y)else(if x>w then x else w),?_,?_,?_⟩
 .rw[show((8:Int)==5)=false from rfl,bz,show((8:Int)==6)=false from rfl,bz,show((8:Int)==7)=false from rfl,bz];simp only[Pw];rw[u,C,D,G];simp only[ζb];rw[ace,ζb,WL]
 .show (cR a c).bind _=_;rw[u,C,D,G];simp only[ζb];rw[GG]
 have L:(if z<y then z else y)<=(if z>y then z else y):=by split<;>split<;>omega
 have I:(if x<w then x else w)<=(if x>w then x else w):=by split<;>split<;>omega
 split<;>split<;>omega
theorem Pred.parts{p:T'}(B:fB p=true){c:Int}(a:cg.at wK p.kind=some c):(p.l.l.length:Int)=c:=by obtain⟨-,-,h⟩:=yN B;grind
structure za(t:Trace)(p:Pred):Prop where
 sm:p.Sm
 f:p.gV fB=true
 r:p.gV (qz t)=true
 y:p.gV sJ=true
theorem za.vK{p q:T'}(h:za t p)(B:q∈p.l.l):za t q:=by have⟨a,u,w,z⟩:=h;rw[p.mb,ζh,all_eq_true]at u w z;exact⟨a.vK B,u.2 q B,w.2 q B,z.2 q B⟩
theorem za.here{p:T'}(h:za t p):fB p=true/\qz t p=true/\sJ p=true:=by have⟨a,u,w,z⟩:=h;rw[p.mb,ζh]at u w z;grind
theorem za.int{p q:T'}(h:za t p)(a:p.kind<=12)(B:q∈p.l.l):q.kind<=8:=by have:=h.here.2.2;unfold sJ at this;grind
theorem MP(m:Small t)(o:cZ t=some true)(Y:Ok t)(p:T'):za t p->p.kind<=8->∀n,p.dp<=n->
 ∃f e ok i,dI (λr(z:Z4×T')=>ig z.1 z.2 r) n (t,p)=some (i,ok)/\dI (λr(z:Z4×T')=>ij z.1 z.2 r) n (t,p)=some (f,e,ok)/\(ok=true->i=⟨f,e⟩/\Ju f e):=by
 induction p using Pred.ind with
 |h p u=>
  intro k A n E;have hd:=p.vf;have⟨w,s,F⟩:=k.here;obtain⟨k1,-,-⟩:=yN w;rw[jB Zaa,jB Zaa]
  have u:=λq C=>u q C (k.vK C) (k.int Zaa C) (n-1) (by have:=Pred.r_ C;omega)
  show∃f e ok i,ig t p (dI (λr(z:Z4×T')=>ig z.1 z.2 r) (n-1))=some (i,ok)/\ij t p (dI (λr(z:Z4×T')=>ij z.1 z.2 r) (n-1))=some (f,e,ok)/\_
  generalize dI (λr(z:Z4×T')=>ig z.1 z.2 r) (n-1)=R at u⊢
  generalize dI (λr(z:Z4×T')=>ij z.1 z.2 r) (n-1)=U at u⊢
  unfold ig ij bU.J1
  by_cases X:p.kind<=4
  .have Z:p.l.l.length=0:=by
    have:=Pred.parts w (c:=0) (by rcases(show p.kind=1\/p.kind=2\/p.kind=3\/p.kind=4 by omega)with h|h|h|h<;>(rw[h];rfl))
    omega
   have⟨f,e,g1,g2,g3⟩:=RK m o Y w s X;refine⟨f,e,BL f e,⟨f,e⟩,?_,?_,λh=>⟨rfl,Ju.of g2 h⟩⟩
   .rw[show(len p.l==0)=true from Zac,br,g1,ζb,Lf,ζb,Bool.not_not]
   rw[decide_eq_false (show¬len p.l>0 by grind),bz,decide_eq_false (show¬len p.l>1 by grind),bz,g3,GG]
  by_cases W:p.kind=5
  .have aa:p.l.l.length=1:=by
    have:=Pred.parts w (c:=1) (by rw[W];rfl)
    omega
   have g:0<p.l.l.length:=Zaa
   have⟨a,b,ok,i,g1,g2,g3⟩:=u _ (getElem_mem g);have I:idx p.l 0=some p.l.l[0]:=bA (i:=0) g;rw[show(len p.l==0)=false from Zac,bz,I,ζb,g1,ζb,show(len p.l==2)=false from Zac,bz,
    decide_eq_true (show len p.l>0 by grind),br,ζb,g2,ζb,decide_eq_false (show¬len p.l>1 by grind),bz]
   simp only
   cases ok with
   |false=>
    rw[Rs rfl,WY rfl]
    grind
   |true=>
    obtain⟨rfl,D⟩:=g3 rfl;have⟨f,e,J,L,O⟩:=II (t:=t) (p:=p) ⟨Zaa,Zaa⟩ D D ⟨0,0⟩ R U
    refine⟨f,e,BL f e,⟨f,e⟩,J,?_,λh=>⟨rfl,Ju.of O h⟩⟩
    rw[<-L,Bq,Bq,W];rfl
  have Q:p.l.l.length=2:=by have:=Pred.parts w (c:=2) (by rcases(show p.kind=6\/p.kind=7\/p.kind=8 by omega)with h|h|h<;>(rw[h];rfl));omega
  have g:0<p.l.l.length:=Zaa
  have l:1<p.l.l.length:=Zaa
  have⟨a,b,ok,i,g1,g2,g3⟩:=u _ (getElem_mem g);have⟨c,d,B,j,v,x,y⟩:=u _ (getElem_mem l);have I:idx p.l 0=some p.l.l[0]:=bA (i:=0) g;have S:idx p.l 1=some p.l.l[1]:=bA (i:=1) l;rw[show(len p.l==0)=false from Zac,bz,I,ζb,g1,ζb,show(len p.l==2)=true from Zac,br,S,ζb,v,ζb,
   decide_eq_true (show len p.l>0 by grind),br,ζb,g2,ζb,decide_eq_true (show len p.l>1 by simp[len,Q]),br,ζb,x,ζb]
  simp only
  cases G:ok&&B with
  |false=>rw[Rs G,WY G];exact⟨0,0,false,_,rfl,rfl,λh=>by cases h⟩|true=>
   simp only[ζh]at G;obtain⟨rfl,rfl⟩:=G;obtain⟨rfl,D⟩:=g3 rfl;obtain⟨rfl,T⟩:=y rfl;have⟨f,e,J,L,O⟩:=II (t:=t) (p:=p) ⟨Zaa,Zaa⟩ D T ⟨0,0⟩ R U
   exact⟨f,e,BL f e,⟨f,e⟩,J,L,λh=>⟨rfl,Ju.of O h⟩⟩
theorem Pd(e:Small t)(j:cZ t=some true)(B:Ok t)(p:T'):za t p->p.dp<=20->∀n,p.dp<=n->
 ∃b,dI (λr(z:Z4×T')=>iN z.1 z.2 r) n (t,p)=some b/\dI (λr(z:Z4×T')=>kU z.1 z.2 r) n (t,p)=some b:=by
 induction p using Pred.ind with
 |h p w=>
  intro a hd n G;have C:=p.vf;rw[jB Zaa,jB Zaa]
  have w:=λq u=>w q u (a.vK u) (by have:=Pred.r_ u;omega) (n-1) (by have:=Pred.r_ u;omega)
  show∃b,iN t p (dI (λr(z:Z4×T')=>iN z.1 z.2 r) (n-1))=some b/\kU t p (dI (λr(z:Z4×T')=>kU z.1 z.2 r) (n-1))=some b
  generalize dI (λr(z:Z4×T')=>iN z.1 z.2 r) (n-1)=R at w⊢
  generalize dI (λr(z:Z4×T')=>kU z.1 z.2 r) (n-1)=D at w⊢
  unfold iN kU;rw[B5,E3,ζb,ζb]
  by_cases k:p.kind<=8
  .rw[show(rL p.kind==1)=true from Zac,br,br]
   obtain⟨l,d,ok,i,g1,g2,-⟩:=MP e j B p a k 100000 Zaa
   refine⟨ok,?_,?_⟩
   .show (dL t p).bind _=_;rw[show dL t p=_ from g1];rfl
   show(bU t p).bind _=_;rw[show bU t p=_ from g2];rfl
  rw[show(rL p.kind==1)=false from Zac,bz,bz]
  let g:T'->X':=λq=>(R (t,q)).getD false
  have m:∀q∈p.l.l,R (t,q)=some (g q)/\D (t,q)=some (g q):=λq u=>by grind
  refine⟨p.l.l.all g,?_,?_⟩
  .rw[B1 _ a.sm.len,AZ (f:=λq=> !g q) (λq u=>by
    unfold qd;grind)]
   grind
  unfold lJ.W1;refine xC (g:=g) a.sm.len (λi c=>?_) ?_
  .unfold lJ.bh;rw[fM c,br,bA c,ζb,(m _ (getElem_mem c)).2,ζb,bZ i (by have:=a.sm.len;omega)]
   cases g p.l.l[i]<;>rfl
  unfold lJ.bh;rw[fW];rfl
theorem O8(a:Small t)(D:(bL t).length<1073741824){p:T'}(B:p.Sm):
 ∃e,tw t p=some e/\vt t p=some e/\(e=0->cZ t=some true/\VT t/\oO p=true/\za t p):=by
 have⟨C,c,w,z⟩:=B4 a D;unfold tw vt;rw[c,w,ζb,ζb]
 cases C with
 |false=>exact⟨1,rfl,rfl,λh=>Zaa⟩|true=>
  have d:=z rfl;rw[br,br,Bo B,BG B,ζb,ζb]
  cases G:oO p with
  |false=>exact⟨1,rfl,rfl,λh=>Zaa⟩|true=>
   have u:=G;simp only[oO,ζh]at u;have hd:=of_decide_eq_true u.2.1;unfold gL gP lJ wo;rw[show(!true)=false from rfl,bz,ζb,bz,Mz a B Zaa,LX a p B 100000 Zaa,ζb,ζb]
   cases g:p.gV (qz t)with
   |false=>exact⟨13,rfl,rfl,λh=>Zaa⟩|true=>
    rw[br,br,I6 B Zaa,Ji p B u.2.2 100000 Zaa,ζb,ζb]
    cases I:p.gV sJ with
    |false=>exact⟨14,rfl,rfl,λh=>Zaa⟩|true=>
     have f:za t p:=⟨B,u.2.2,g,I⟩;have⟨b,g1,g2⟩:=Pd a c d.ok p f hd 100000 Zaa
     rw[br,br,g1,g2,ζb]
     cases b with
     |false=>exact⟨9,rfl,rfl,λh=>Zaa⟩|true=>exact⟨0,rfl,rfl,λ_=>⟨rfl,d,rfl,f⟩⟩
end
theorem M4{t:Z4}(b:Small t){c:Zg}(W:sO t c.l){p:Nat}{P:bS}{a:Int}(J:t.procs.l[p]?=some P)(Y:c.l[p]?=some a)(q:Nat):
 Wp (iH t c p q) λs=>s.l.length=(P.events.l.take a.toNat).countP λe=>eA q e&&nN t c.l e:=by
 have Z:=(b.2 P (mem_of_getElem? J)).1;have⟨a0,a1⟩:=W.2 p a P Y J;unfold iH iH.W1;refine fH (λs:Zg×Int=>∃n:Nat,s.2=n/\(n:Int)<=a/\s.1.l.length=(P.events.l.take n).countP λe=>eA q e&&nN t c.l e) (λs=>a.toNat-s.2.toNat) ⟨0,rfl,by simpa using a0,rfl⟩ ?_
 rintro⟨o,i⟩ ⟨n,d,k,I⟩;simp only at d I;subst d;unfold iH.bh;rw[show idx c (p:Int)=some a from by rw[iO];exact Y,ζb,b_]
 constructor
 .intro h;have m:(n:Int)<a:=by simpa using h
  have C:n<P.events.l.length:=Zaa
  have G:=bZ n Zaa
  have B:a.toNat-(wrap .i64 ((n:Int)+1)).toNat<a.toNat-((n:Int)).toNat:=by rw[G];simp;omega
  have L:=List.countP_le_length (p:=λe=>eA q e&&nN t c.l e) (l:=P.events.l.take n)
  rw[length_take]at L;have u:(P.events.l.take (n+1)).countP (λe=>eA q e&&nN t c.l e)=o.l.length+if eA q P.events.l[n]&&nN t c.l P.events.l[n]then 1 else 0:=by rw[take_add_one,ζd C,countP_append,I];show _+countP _ [P.events.l[n]]=_;rw[countP_cons,countP_nil];simp
  rw[show idx t.procs (p:Int)=some P from by rw[iO];exact J,ζb,bA C,ζb]
  generalize P.events.l[n]=e at u;have O:(bg (e.kind==2) (some (!(e.peer==(q:Int)))) (some true):aY X')=some (!eA q e):=by unfold eA;cases e.kind==2<;>cases e.peer==(q:Int)<;>rfl
  rw[O,ζb,b_];constructor
  .intro w;have w:eA q e=false:=by simpa using w
   rw[a_];exact⟨⟨n+1,G,Zaa,by rw[u,w];rfl⟩,B⟩
  intro w;have w:eA q e=true:=by simpa using w
  rw[find_eq b,ζb];have f:(bg ((gY t 3 e.message).index==0) (some true) ((idx c (gY t 3 e.message).proc).bind λQ=>some (decide ((gY t 3 e.message).index>Q))):aY X')=some (nN t c.l e):=by unfold nN;rcases Hx t 3 e.message with⟨h,_⟩|⟨z,g,_⟩;rw[h];rfl;have⟨S,j,⟨r,T,_⟩,X⟩:=dV.1 g;simp only at X;have D:S<c.l.length:=(by rw[W.1];exact(ζe.1 T).1);rw[X];dsimp only;rw[bA D,ζb,show((S:Nat):Int).toNat=S from rfl,ζd D,mW];rfl
  rw[f,ζb,b_];constructor
  .intro U;unfold fF;rw[if_pos (show o.l.length+1<=2147483648 from Zaa),ζb,a_]
   exact⟨⟨n+1,G,Zaa,by show(o.l++[_]).length=_;rw[u,w,U,ζi];rfl⟩,B⟩
  intro U;rw[a_];exact⟨⟨n+1,G,Zaa,by rw[u,w,U];rfl⟩,B⟩
 intro h;have v:¬(n:Int)<a:=by simpa using h
 refine(a_ _).2 ((a_ _).2 ?_);rw[show a.toNat=n from Zaa];exact I
section
variable{t:Z4}{A:cg 200 bC}{P:bS}{v:Nat}
theorem SI(a:Small t){n:Nat}(D:t.procs.l[n]?=some P){name:U'}{x:Var}(b:P.vars.l[v]?=some x)(G:(toList x.name==toList name)=true)
 (J:∀(j:Nat)(w:Var),j<v->P.vars.l[j]?=some w->(toList w.name==toList name)=false):kH t n name=some (v:Int):=by
 have z:=(ζe.1 b);have⟨z,C⟩:=z;have I:=(a.2 P (mem_of_getElem? D)).2.1;refine Wp.eq ?_;unfold kH;rw[iO,D,ζb];unfold kH.W1;refine fH (λi:Int=>∃n:Nat,i=n/\n<=v) (λi=>v-i.toNat) ⟨0,rfl,zero_le _⟩ ?_
 rintro _ ⟨i,rfl,c⟩;have u:i<P.vars.l.length:=Zaa
 unfold kH.bh;rw[fM u,br,bA u,ζb]
 by_cases B:i=v
 .subst B;rw[C,G,br,a_];exact(a_ _).2 rfl
 rw[J i _ Zaa (ζd u),bz,a_,bZ i Zaa]
 exact⟨⟨i+1,rfl,Zaa⟩,Zac⟩
theorem Xe{e:WF}(B:e.assign.l.length<1073741824)(n:Nat)(i:Int):gT.W2 (n:Int) (v:Int) i e.assign 0 t=some (match nM e.assign.l v with|some x=>.r x|none=>.n (wrap .i64 (i-1))):=by
 refine Wp.eq ?_;unfold gT.W2;refine dH e.assign.l.length (λj s=>s=(j:Int)/\nM (e.assign.l.take j) v=none) ⟨rfl,by simp[nM]⟩ ?_ ?_;rintro j _ w ⟨rfl,z⟩;unfold gT.bF;rw[fM w,br,bA w,ζb];have u:e.assign.l=e.assign.l.take j++e.assign.l[j]::e.assign.l.drop (j+1):=by rw[List.getElem_cons_drop,List.take_append_drop]
 unfold nM at z;rw[Option.map_eq_none_iff]at z;by_cases C:e.assign.l[j].var=(v:Int);rw[show(e.assign.l[j].var==(v:Int))=true from Zac,br,ζb,a_];refine(a_ _).2 ?_;grind[nM];rw[show(e.assign.l[j].var==(v:Int))=false from Zac,bz,a_,bZ j Zaa];refine⟨rfl,?_⟩;grind[nM];simp_all[gT.bF,bz,a_]
theorem Q2(b:Small t)(U:Ok t){n:Nat}(D:t.procs.l[n]?=some P)(B:v<P.vars.l.length){a:Nat}(W:a<=P.events.l.length):gT t n v (a:Int)=some (nV P v a):=by
 have C:=b.2 P (mem_of_getElem? D);have L:=SP.of U D;have I:idx t.procs (n:Int)=some P:=by rw[iO];exact D
 refine Wp.eq ?_;unfold gT gT.W1;rw[fJ _ Zaa Zaa];refine fH (λi:Int=>∃k:Nat,i=(k:Int)-1/\k<=a/\nV P v k=nV P v a) (λi=>(i+1).toNat) ⟨a,rfl,le_refl _,rfl⟩ ?_;rintro _ ⟨k,rfl,d,w⟩;unfold gT.bh;by_cases c:k=0;subst c;rw[decide_eq_false Zaa,bz,a_];rw[I,ζb,bA B,ζb];refine(a_ _).2 ?_;rw[<-w];grind[nV,iU];have z:k-1<P.events.l.length:=Zaa;have G:=getElem_mem z;have u:=IF L B (ζd z);rw[show k-1+1=k from Zaa]at u;rw[decide_eq_true Zaa,br,I,ζb,show(k:Int)-1=((k-1:Nat):Int)from Zaa,bA z,ζb,Xe (C.2.2.2.2 _ G)];cases J:nM P.events.l[k-1].assign.l v with|some x=>rw[J]at u;rw[a_];refine(a_ _).2 ?_;rw[<-w,u];rfl|none=>rw[J]at u;rw[a_,fJ _ Zaa Zaa];exact⟨⟨k-1,rfl,Zaa,by rw[<-w,u];rfl⟩,Zac⟩
structure AtC(t:Trace)(A:cg 200 bC)(c:Sl Int)(l:Sl (Sl Int)):Prop where
 hS:Small t
 hv:cZ t=some true
 hV:VT t
 hM:f_ t (bL t) A
 hC:Cons t A c.l
 vals:∀(p:Nat)(P:bS)(a:Int),t.procs.l[p]?=some P->c.l[p]?=some a->∃x,l.l[p]?=some x/\x.l=iU P a.toNat
end
section
variable{t:Z4}
theorem U_{p:T'}(B:oO p=true)(a:za t p):uc p=some (rL p.kind,0):=by have u:=a.sm;have hd:=B;simp only[oO,ζh,decide_eq_true_eq]at hd;unfold uc;rw[Bo u,B,ζb,br,I6 u Zaa,a.y,ζb,br,B5];rfl
theorem Um{p:T'}(B:oO p=true)(a:za t p):wO p=some (rL p.kind,0):=by have u:=a.sm;have hd:=B;simp only[oO,ζh,decide_eq_true_eq]at hd;unfold wO gP;rw[BG u,B,ζb,br,Ji p u a.f 100000 Zaa,a.y,ζb,br,E3];rfl
end
section
variable{t:Z4}{A:cg 200 bC}
end
end Go.VE
namespace Go.VE
end Go.VE
namespace Go.VE
section
variable{t:Z4}
end
end Go.VE
namespace Go.VE
section
variable{t:Z4}
end
section
variable{t:Z4}{A:cg 200 bC}
end
section
variable{t:Z4}{A:cg 200 bC}{L:aX Rd}{tb:Sl X'}{x:bY}
theorem Ii(d:VT t)(B:dz t A L)(D:x.truth=tb)(J:zB L (mj x.index))(G:tb.l.length=L.length){out:Zb}(U:out.l.length<=5000)
 (W:∀z∈out.l,z=.nil\/Cons t A z.l):oM x out=some (!out.l.any λz=> !z.l.isEmpty&& !fI tb (L.idxOf z.l)):=by
 have w:=d.ok.one;unfold oM;rw[yQ (p:=λz=>kL z (some x)) (f:=λz=> !z.l.isEmpty&& !fI tb (L.idxOf z.l)) (λz I=>?_) Zaa]
 .rfl
 unfold kL;rcases W z I with rfl|c
 .rfl
 have u:0<z.l.length:=by rw[c.1.1];omega
 have C:=(B.mem _).2 c;rw[sR u,ζb,bz,ζb,ζb,HU (Bh d c) (by rw[c.1.1];exact d.few),ζb,J.get _ C,D,
  DJ (by rw[G];exact List.idxOf_lt_length_of_mem C),ζb,ζb]
 rw[show z.l.isEmpty=false from by cases h:z.l with
  |nil=>rw[h]at u;exact absurd u (by decide)|cons a b=>rfl]
 rfl
end
theorem NF{a b:Zg}(D:a.l.length=b.l.length)(B:a.l.length<1073741824):∃r,jO a b=some r/\r.l=zipWith jk a.l b.l:=by
 unfold jO jO.W1;refine dH a.l.length (λi(q:Zg×Int)=>q.2=(i:Int)/\q.1.l=(zipWith jk a.l b.l).take i) ⟨rfl,rfl⟩ ?_ ?_;rintro i ⟨o,_⟩ d ⟨e,c⟩;simp only at e c;subst e;have u:i<b.l.length:=by omega
 have w:i<(zipWith jk a.l b.l).length:=by rw[List.length_zipWith];omega
 have z:o.l.length=i:=by rw[c,length_take];omega
 unfold jO.bh;have⟨C,k1,k2⟩:=mC (s:=o) (x:=if b.l[i]>a.l[i]then b.l[i]else a.l[i]) Zaa;rw[fM d,br,bA d,ζb,bA u,ζb,k1,ζb,a_];refine⟨bZ i Zaa,?_⟩;show C.l=_;rw[k2,c,List.take_succ_eq_append_getElem w,List.getElem_zipWith];rfl;rintro⟨o,_⟩ ⟨e,c⟩;simp only at e c;subst e;unfold jO.bh;rw[fW,bz,a_];refine(a_ _).2 ?_;rw[c,List.take_of_length_le (by rw[List.length_zipWith];omega)]
theorem OC{b c:X'}:bg b (some true) (some c)=some (b||c):=by cases b<;>rfl
section
variable{t:Z4}
theorem YM(c:Small t)(G:(bL t).length<1073741824):∃b,fQ t=some b:=by
 suffices h:Wp (fQ t) λ_=>True by obtain⟨b,I,-⟩:=h;exact⟨b,I⟩
 have j:=c.1;obtain⟨v,-,w,B⟩:=B4 c G;obtain⟨J,C,u,-⟩:=B4 c G;have D:v=J:=by rw[w]at u;exact Option.some.inj u
 subst D;have ok:∀b:X',Wp (some b) λ_=>True:=λb=>(a_ _).2 trivial;unfold fQ;rw[b_];refine⟨λ_=>ok _,λ_=>?_⟩;unfold fQ.W1;refine dH t.procs.l.length (λi(q:Int×Int)=>q.2=(i:Int)) rfl ?_ ?_;rintro i ⟨n,_⟩ a e;simp only at e;subst e;unfold fQ.bh;dsimp only;rw[fM a,br,bA a,ζb,xI (p:=λz=>rV z) (f:=λx=>decide (len x.assign>12)) (λx _=>rfl) (c.2 _ (getElem_mem a)).1,ζb,OC,ζb,b_];exact⟨λ_=>(a_ _).2 (ok _),λ_=>(a_ _).2 (bZ i Zaa)⟩;rintro⟨n,_⟩ e;simp only at e;subst e;unfold fQ.bh;dsimp only;rw[fW,bz,a_];show Wp (bg _ _ _) _;rw[b_];refine⟨λ_=>ok _,λ_=>?_⟩;rw[w,ζb];cases v with|false=>exact ok _|true=>rw[br,b_];refine⟨λ_=>?_,λ_=>?_⟩;unfold fQ.W2;refine dH t.procs.l.length (λi(q:Int×Int)=>q.2=(i:Int)) rfl ?_ ?_;rintro i ⟨n,_⟩ a e;simp only at e;subst e;unfold fQ.bF;dsimp only;rw[fM a,br,bA a,ζb,xI (p:=λz=>sj z) (f:=λx=>x.kind==3) (λx _=>rfl) (c.2 _ (getElem_mem a)).1,ζb,b_];exact⟨λ_=>(a_ _).2 (ok _),λ_=>(a_ _).2 (bZ i Zaa)⟩;rintro⟨n,_⟩ e;simp only at e;subst e;unfold fQ.bF;dsimp only;rw[fW,bz,a_];exact ok _;have d:=B rfl;obtain⟨A,-,-,g⟩:=d.msgs;rcases FA c C d g with⟨L,r,s,-,-,-,h,-⟩|⟨-,h⟩;rw[h,ζb];exact ok _;rw[h,ζb];exact ok _
theorem LD:∀(n:Nat)(p:T'),p.Sm->∀l d:Int,0<=l->l<=300->0<=d->d<=61->62<=(n:Int)+d->
 ∃b m,dI (λr(z:T'×Int×Int)=>kQ z.1 z.2.1 z.2.2 r) n (p,l,d)=some (b,m)/\-1<=m/\m<=l/\(b=true->0<=m)
 |0,p,B,l,d,h1,J,U,W,D=>absurd D Zaa|n+1,p,B,l,d,h1,J,U,W,D=>by have G:=LD n;rw[jB (Nat.succ_pos n)];show∃b m,kQ p l d (dI (λr(z:T'×Int×Int)=>kQ z.1 z.2.1 z.2.2 r) n)=some (b,m)/\_;generalize dI (λr(z:T'×Int×Int)=>kQ z.1 z.2.1 z.2.2 r) n=R at G⊢;unfold kQ;rw[fJ _ Zaa Zaa];by_cases c:0<=l-1;rw[decide_eq_true (show l-1>=0 from c),br,ζb];by_cases C:d<=60;rw[decide_eq_true C,br];(cases I:decide (((ByteArray.size p.name:Nat):Int)<=100)with|false=>exact⟨false,l-1,rfl,Zaa,Zaa,λh=>by cases h⟩|true=>rw[ζb,br,Hy (by have:=B.len;omega)];have key:∀(u:aX T'),(∀k∈u,k.Sm)->∀s:Int,0<=s->s<=299->∃b m,xJ (λx s=>lC x d s R) u s=some (b,m)/\-1<=m/\m<=s/\(b=false->0<=m):=(by intro u;induction u with|nil=>intro _ s g1 g2;exact⟨false,s,rfl,Zaa,Zaa,λ_=>g1⟩|cons k r w=>intro a s g1 g2;have⟨b,m,e1,e2,e3,e4⟩:=G k (a k (List.mem_cons_self ..)) s (d+1) g1 Zaa Zaa Zaa Zaa;have e:lC k d s R=some (!b,m):=(by unfold lC;rw[fJ _ Zaa Zaa,e1];rfl);show∃b m,((lC k d s R).bind λy=>if y.1 then some (true,y.2)else xJ (λx s=>lC x d s R) r y.2)=some (b,m)/\_;rw[e,ζb];cases b with|false=>exact⟨true,m,rfl,e2,e3,λh=>by cases h⟩|true=>have⟨L,m',k1,k2,k3,k4⟩:=w (λx O=>a x (mem_cons_of_mem _ O)) m (e4 rfl) Zaa;refine⟨L,m',?_,k2,Zaa,k4⟩;exact k1);have⟨b,m,e1,e2,e3,e4⟩:=key p.l.l (λk a=>B.vK a) (l-1) c Zaa;rw[e1,ζb,ζb];exact⟨!b,m,rfl,e2,Zaa,λh=>e4 (by cases b;rfl;cases h)⟩);rw[decide_eq_false C,bz];exact⟨false,l-1,rfl,Zaa,Zaa,λh=>by cases h⟩;rw[decide_eq_false (show¬l-1>=0 from c),bz];exact⟨false,l-1,rfl,Zaa,Zaa,λh=>by cases h⟩
theorem acz(a:Small t)(D:(bL t).length<1073741824){p:T'}(B:p.Sm):∃b,yg t p=some b:=by have⟨s,d⟩:=YM a D;unfold yg;rw[d,ζb];cases s with|false=>exact⟨_,rfl⟩|true=>obtain⟨b,m,e,-⟩:=LD 100000 p B 300 0 Zaa Zaa Zaa Zaa Zaa;have u:Ao p 300 0=some (b,m):=e;have w:=count_eq p B 100000 200 Zaa Zaa;have z:kC p 200=_:=w;have c:∃k,pW p=some k:=⟨_,by unfold pW;rw[z];rfl⟩;have⟨k,c⟩:=c;rw[br,u,ζb,ζb];cases b with|false=>exact⟨_,rfl⟩|true=>simp only;rw[br,c,ζb,ζb,OC];exact⟨_,rfl⟩
end
theorem Xh(x y:Int):rz (Sl.row [x,y])=some (jk x y):=by
 have h:Wp (dD (Sl.row [x,y])) λm=>m=if y>x then y else x:=by unfold dD;rw[show decide (len (Sl.row [x,y])<1)=false from rfl,bz];unfold dD.J1;rw[show idx (Sl.row [x,y]) 0=some x from rfl,ζb];unfold dD.W2;refine dH 1 (λi(q:Int×Int)=>(i=0/\q=(x,1))\/(i=1/\q=(if y>x then y else x,2))) (.inl ⟨rfl,rfl⟩) ?_ ?_;rintro i ⟨m,k⟩ b (⟨rfl,e⟩|⟨rfl,e⟩);cases e;unfold dD.bF;dsimp only;rw[show decide ((1:Int)<len (Sl.row [x,y]))=true from rfl,br,show idx (Sl.row [x,y]) 1=some y from rfl,ζb,a_];exact .inr ⟨rfl,rfl⟩;omega;rintro⟨m,k⟩ (⟨h,_⟩|⟨_,e⟩);cases h;cases e;unfold dD.bF;dsimp only;rw[show decide ((2:Int)<len (Sl.row [x,y]))=false from rfl,bz,a_];exact(a_ _).2 rfl
 unfold rz;have⟨m,a,u⟩:=h;rw[a,u];grind[jk]
theorem UY{a b:Zg}(D:a.l.length=b.l.length)(g:0<a.l.length)(J:a.l.length<=8):Wp (ec (Sl.row [a,b]) (λz=>rz z)) λo=>o.l=zipWith jk a.l b.l:=by
 have L:=mB.of jk D;unfold ec;have⟨d,l,u⟩:=um (c:=a) Zaa g;obtain⟨v,C,O⟩:∃v,gB (Sl.row [a,b]) (some 1) none=some v/\v.l=[b]:=Ad (Sl.row [a,b]) 1 (Nat.le_succ 1);rw[show idx (Sl.row [a,b]) 0=some a from rfl,ζb,l,ζb,C,ζb];unfold ec.W1;have f:len v=1:=Zac;have m:idx v 0=some b:=by grind[idx]
 refine dH 1 (λi(q:Zg×Int)=>(i=0/\q=(d,0))\/(i=1/\q.1.l=zipWith jk a.l b.l/\q.2=1)) (.inl ⟨rfl,rfl⟩) ?_ ?_;rintro i ⟨o,k⟩ G (⟨rfl,e⟩|⟨rfl,-,-⟩);cases e;unfold ec.bh;dsimp only;rw[f,show decide ((0:Int)<1)=true from rfl,br,m,ζb];unfold ec.W2;refine dH d.l.length (λn(q:Zg×Int)=>q.2=(n:Int)/\q.1.l.length=a.l.length/\∀j:Nat,q.1.l[j]?=if j<n then(zipWith jk a.l b.l)[j]?else a.l[j]?) ⟨rfl,by rw[u],λj=>by rw[if_neg Zaa,u]⟩ ?_ ?_;rintro n ⟨o,_⟩ I ⟨rfl,g1,g2⟩;simp only at g1 g2;have w:n<a.l.length:=by rw[<-u];exact I
 have B:n<b.l.length:=Zaa;unfold ec.bF;dsimp only;rw[show decide ((n:Int)<len d)=true from Zac,br,qX Zaa,ζb];unfold Sl.get;rw[g2 n,if_neg Zaa,ζd w,ζb,bA B,ζb,Xh,ζb,ζb];have⟨o2,k1,k2⟩:=put_eq (s:=o) (p:=n) (x:=jk a.l[n] b.l[n]) Zaa;rw[k1,ζb,a_];refine⟨bZ n Zaa,Zac,λj=>?_⟩;grind;rintro⟨o,_⟩ ⟨rfl,g1,g2⟩;simp only at g1 g2;unfold ec.bF;dsimp only;rw[fW,bz,a_];refine(a_ _).2 (.inr ⟨rfl,ext_getElem? λj=>?_,rfl⟩);rw[g2 j];grind;omega;rintro⟨o,k⟩ (⟨h,_⟩|⟨_,e,e2⟩);cases h;simp only at e e2;subst e2;unfold ec.bh;dsimp only;rw[f,show decide ((1:Int)<1)=false from rfl,bz,a_];grind[a_]
theorem TU{c:Zg}(B:c.l.length<=8):gu c=some (mA (c.l.map (wrap .u8))):=by
 refine Wp.eq ?_;unfold gu;have a:∃r,tJ (len c) (⟨0⟩:U8)=some r/\r.l=[]:=by unfold tJ;rw[if_pos ⟨by simp[len],Zac⟩];refine⟨_,rfl,?_⟩;split<;>rfl
 have⟨r,a,u⟩:=a;rw[a,ζb];unfold gu.W1;refine dH c.l.length (λi(q:Sl U8×Int)=>q.2=(i:Int)/\q.1.l.map U8.v=(c.l.map (wrap .u8)).take i) ⟨rfl,by rw[u];rfl⟩ ?_ ?_;rintro i ⟨o,_⟩ b ⟨e,d⟩;simp only at e d;subst e;have w:o.l.length=i:=by have:=congrArg List.length d;grind
 unfold gu.bh;rw[fM b,br,bA b,ζb];have⟨z,k1,k2⟩:=mC (s:=o) (x:=(⟨wrap .u8 c.l[i]⟩:U8)) Zaa;rw[k1,ζb,a_];refine⟨bZ i Zaa,?_⟩;simp_all[List.take_succ_eq_append_getElem];simp_all[gu.bh,bz,a_,L8,List.take_of_length_le]
section
variable{t:Z4}{A:cg 200 bC}{L:aX Rd}{tb:Sl X'}{x:bY}
def As(L:aX Rd)(c:Rd):ST:=(range c.length).filterMap λp=>if bump c p (-1)∈L then some (L.idxOf (bump c p (-1)))else none
theorem Ds{L:aX Rd}{c:Rd}{k:Nat}:k∈As L c↔∃p,p<c.length/\bump c p (-1)∈L/\k=L.idxOf (bump c p (-1)):=by unfold As;rw[List.mem_filterMap];grind
theorem Sg(h:dz t A L){i k:Nat}{c:Rd}(a:L[i]?=some c)(b:k∈As L c):k<i:=by obtain⟨p,u,w,rfl⟩:=Ds.1 b;refine h.lt (oT w) a ?_;have d:c[p]?=some c[p]:=ζd u;grind[bump,uD]
theorem uE{c:Rd}{p:Nat}{a:Int}(h:c[p]?=some a)(q:Nat):(bump c p (-1))[q]?=if p=q then some (a+-1)else c[q]?:=by have u:=(ζe.1 h).1;unfold bump;rw[h,getElem?_set];grind
theorem Q9{c:Rd}{p:Nat}(h:p<c.length):bump (bump c p 1) p (-1)=c:=by have a:=ζd h;have u:=zk a p;rw[if_pos rfl]at u;refine ext_getElem? λq=>?_;rw[uE u,zk a];grind
theorem A4{c:Rd}{p:Nat}(h:p<c.length):cK (bump c p (-1)) c:=⟨vP,λq x y u w=>by
 rw[uE (ζd h)]at u
 grind⟩
theorem CB(b:VT t)(f:f_ t (bL t) A)(B:dz t A L){c:Rd}(a:Cons t A c):∀(n:Nat){d:Rd},Cons t A d->cK d c->d≠c->L.length<=L.idxOf d+n->∃p,p<c.length/\bump c p (-1)∈L/\cK d (bump c p (-1))
 |0,d,G,D,J,W=>absurd (List.idxOf_lt_length_of_mem ((B.mem _).2 G)) Zaa|n+1,d,G,D,J,W=>by have U:=(B.mem _).2 G;have⟨p,u,w,C⟩:=Dq b f B G D c.sum.toNat a (cK.refl c) Zaa (λh=>J (cK.same D h));have z:d.length=c.length:=G.1.1.trans a.1.1.symm;by_cases e:bump d p 1=c;grind[Q9,cK.refl];have I:=(GN B (oT U) (AM.2 ⟨p,u,w,rfl⟩)).1;have⟨q,k1,k2,k3⟩:=CB b f B a n ((B.mem _).1 w) C e Zaa;exact⟨q,k1,k2,(AH u).trans k3⟩
theorem Vy(v:Small t)(b:VT t)(B:dz t A L){x:bY}(J:ins x.l=L)(Y:zB L (mj x.index)){i:Nat}{c:Rd}(f:L[i]?=some c):
 Wp (dG x (i:Int) (-1)) λo=>o.l=(As L c).map λk:Nat=>(k:Int):=by
 have P:=b.few;have g:i<x.l.l.length:=by rw[<-iZ,J];exact(ζe.1 f).1
 have u:x.l.l[i].l=c:=by have:=sP g;rw[J,f]at this;exact(Option.some.inj this).symm
 have j:=(B.mem _).1 (mem_of_getElem? f);have R:=j.1.1;have V:=b.ok.one;have af:=HC v b j;have O:=Bh b j;unfold dG;rw[bA g,ζb];unfold dG.W1;refine dH x.l.l[i].l.length (λn(q:Zg×Int)=>q.2=(n:Int)/\q.1.l.length<=n/\q.1.l=((range n).filterMap λp=>if bump c p (-1)∈L then some (L.idxOf (bump c p (-1)))else none).map λk:Nat=>(k:Int)) ⟨rfl,le_refl _,rfl⟩ ?_ ?_
 .rintro n ⟨o,_⟩ C ⟨rfl,Q,S⟩;simp only at Q S;rw[u]at C;have D:=ζd C;have hb:=O c[n] (getElem_mem C);have⟨d,Z,T⟩:=um (c:=x.l.l[i]) (by rw[u];omega) (by rw[u];omega)
  rw[u]at T;unfold dG.bh;dsimp only;rw[show len x.l.l[i]=((x.l.l[i].l.length:Nat):Int)from rfl,u,decide_eq_true Zaa,br,bA g,ζb,Z,ζb,qX (by rw[T];exact C),ζb]
  unfold Sl.get;rw[T,D,ζb,ζb,fJ _ Zaa Zaa]
  have⟨E,F,H⟩:=put_eq (s:=d) (p:=n) (x:=c[n]+-1) (by rw[T];exact C)
  have U:E.l=bump c n (-1):=by rw[H,T];unfold bump;rw[D];rfl
  have W:(bump c n (-1)).map (wrap .u8)=if c[n]=0 then c.set n 255 else bump c n (-1):=by refine ext_getElem? λq=>?_;rw[getElem?_map,uE D];have m:∀z:Int,0<=z->z<256->wrap .u8 z=z:=λz l Z=>(by simp[wrap,IntKind.bits,signed];omega);by_cases e:n=q;subst e;rw[if_pos rfl];by_cases a:c[n]=0;rw[if_pos a,getElem?_set_self C,a];rfl;rw[if_neg a,uE D,if_pos rfl];show some _=some _;rw[m _ Zaa Zaa];rw[if_neg e];have K:(c[q]?).map (wrap .u8)=c[q]?:=(by cases M:c[q]?with|none=>rfl|some z=>have:=O z (mem_of_getElem? M);show some _=some _;rw[m z this.1 this.2]);rw[K];by_cases a:c[n]=0;rw[if_pos a,List.getElem?_set_ne e];rw[if_neg a,uE D,if_neg e]
  have r:En ((bump c n (-1)).map (wrap .u8)):=λz N=>by obtain⟨y,-,rfl⟩:=mem_map.1 N;simp[wrap,IntKind.bits,signed];omega
  have w:(bump c n (-1)).map (wrap .u8)∈L↔bump c n (-1)∈L:=by rw[W];by_cases a:c[n]=0;rw[if_pos a];refine⟨λh=>?_,λh=>?_⟩;have G:=(B.mem _).1 h;have X:n<t.procs.l.length:=(by omega);have l:=G.1.2 n _ _ (getElem?_set_self C) (ζd X);have Z:=Df b (ζd X);omega;have G:=(B.mem _).1 h;have l:=G.1.pos n (c[n]+-1) (by rw[uE D,if_pos rfl]);omega;rw[if_neg a]
  rw[F,ζb,TU (by rw[U,vP];omega),ζb,U]
  by_cases I:bump c n (-1)∈L
  .have ab:(bump c n (-1)).map (wrap .u8)=bump c n (-1):=by
    rw[W,if_neg];intro a;have l:=((B.mem _).1 I).1.pos n (c[n]+-1) (by rw[uE D,if_pos rfl])
    omega
   have⟨o2,k1,k2⟩:=mC (s:=o) (x:=pM (mj x.index) (mA (bump c n (-1))) 0) Zaa
   rw[(Y.has _ r).2 (w.2 I),br,ab,k1,ζb,a_];refine⟨bZ n Zaa,by show o2.l.length<=_;rw[k2];simp;omega,?_⟩
   show o2.l=_;rw[k2,S,Y.get _ I,range_succ,List.filterMap_append,map_append];simp[I]
  rw[show uF (mj x.index) (mA ((bump c n (-1)).map (wrap .u8)))=false from by
   cases h:uF (mj x.index) (mA ((bump c n (-1)).map (wrap .u8)))with
   |false=>rfl|true=>exact absurd (w.1 ((Y.has _ r).1 h)) I,bz,a_]
  refine⟨bZ n Zaa,by show o.l.length<=_;omega,?_⟩
  show o.l=_;rw[S,range_succ,List.filterMap_append,map_append];simp[I]
 rintro⟨o,_⟩ ⟨rfl,Q,S⟩;unfold dG.bh;dsimp only;rw[fW,bz,a_];refine(a_ _).2 ?_;rw[S,u];rfl
def Hig(t:Z4)(A:cg 200 bC)(L:aX Rd)(f:Nat->X')(c:Rd)(o:Zg):Prop:=(o=.nil/\∀d,fG L f d->¬cK d c)\/(Cons t A o.l/\cK o.l c/\(∀d,fG L f d->cK d c->cK d o.l)/\(∃d,fG L f d/\cK d c)/\∀e,(∀d,fG L f d->cK d c->cK d e)->cK o.l e)
theorem Gk(hS:Small t)(r:VT t)(hM:f_ t (bL t) A)(B:dz t A L)(h5:L.length<=5000)(K:ins x.l=L)(aw:x.truth=tb)(hx:zB L (mj x.index))(aI:tb.l.length=L.length):
 Wp (dK x) λout=>out.l.length=L.length/\∀(i:Nat)c,L[i]?=some c->∃o,out.l[i]?=some o/\Hig t A L (fI tb) c o:=by
 have M:=r.few;have aH:=r.ok.one;have aJ:x.l.l.length=L.length:=by rw[<-K,iZ]
 unfold dK;have ax:len x.l=(L.length:Int):=Zac
 rw[ax,show nR (L.length:Int) (Sl.nil:Zg)=some (.row (replicate L.length Sl.nil))from by unfold nR;grind,ζb]
 unfold dK.W1;refine dH L.length (λm(q:Zb×Int)=>q.2=(m:Int)/\q.1.l.length=L.length/\(∀(j:Nat)c,j<m->L[j]?=some c->∃o,q.1.l[j]?=some o/\Hig t A L (fI tb) c o)/\∀j:Nat,m<=j->j<L.length->q.1.l[j]?=some .nil)
  ⟨rfl,by simp[Sl.l],λj c Q=>absurd Q Zaa,λj _ Q=>by
   show(replicate L.length (Sl.nil:Zg))[j]?=_
   grind⟩ ?_ ?_
 .rintro i ⟨out,_⟩ S ⟨rfl,g1,g2,g3⟩;simp only at g1 g2 g3;have O:=ζd S;have N:=(B.mem _).1 (getElem_mem S);unfold dK.bh;dsimp only;rw[decide_eq_true (show(i:Int)<(L.length:Int)by omega),br,aw,DJ Zaa,ζb]
  cases hf:fI tb i with
  |true=>
   have P:i<x.l.l.length:=Zaa
   have R:x.l.l[i].l=L[i]:=by have:=sP P;grind
   have⟨o2,k1,k2⟩:=put_eq (s:=out) (p:=i) (x:=x.l.l[i]) Zaa
   rw[br,bA P,ζb,qX Zaa,ζb,k1,ζb,a_]
   refine⟨bZ i Zaa,Zac,λj c Q b=>?_,λj Q V=>?_⟩
   .show ∃o,o2.l[j]?=some o/\_;rw[k2,getElem?_set]
    by_cases e:i=j
    .subst e;rw[O]at b;cases b;exact⟨_,by rw[if_pos rfl,if_pos Zaa],.inr ⟨Zac,by rw[R];exact cK.refl _,λd _ hd=>Zac,⟨_,⟨getElem_mem S,by rw[pH B.nodup O];omega⟩,cK.refl _⟩,λe g=>by rw[R];exact g _ ⟨getElem_mem S,by rw[pH B.nodup O];omega⟩ (cK.refl _)⟩⟩
    grind
   grind
  |false=>
   rw[bz,en];refine(Vy hS r B K hx O).mono λl aj=>?_
   have ak:l.l.length=(As L L[i]).length:=by rw[aj,List.length_map]
   have aK:l.l.length<=8:=by rw[ak];have:=List.length_filterMap_le (λp=>if bump L[i] p (-1)∈L then some (L.idxOf (bump L[i] p (-1)))else none) (range L[i].length);rw[List.length_range]at this;exact Nat.le_trans this (by rw[N.1.1];exact M)
   unfold dK.W2;refine dH l.l.length (λn(q:Zb×Int)=>q.2=(n:Int)/\q.1.l.length=L.length/\(∀j:Nat,j≠i->q.1.l[j]?=out.l[j]?)/\∃a,q.1.l[i]?=some a/\
    ((a=.nil/\∀(m' k:Nat)z,m'<n->(As L L[i])[m']?=some k->L[k]?=some z->∀d,fG L (fI tb) d->¬cK d z)\/
     (Cons t A a.l/\cK a.l L[i]/\(∀(m' k:Nat)z,m'<n->(As L L[i])[m']?=some k->L[k]?=some z->∀d,fG L (fI tb) d->cK d z->cK d a.l)/\(∃d,fG L (fI tb) d/\cK d L[i])/\∀e,(∀d,fG L (fI tb) d->cK d L[i]->cK d e)->cK a.l e)))
    ⟨rfl,g1,λ_ _=>rfl,.nil,g3 i (le_refl _) S,.inl ⟨rfl,λm' k z h=>absurd h Zaa⟩⟩ ?_ ?_
   .rintro n ⟨o,_⟩ hn ⟨rfl,e1,e2,a,e3,e4⟩;simp only at e1 e2 e3;have al:n<(As L L[i]).length:=by omega
    have X:=ζd al;have y:=getElem_mem al;generalize hk:(As L L[i])[n]=k at X y;have⟨p,hp,Y,ay⟩:=Ds.1 y;have Z:L[k]?=some (bump L[i] p (-1)):=by rw[ay];exact oT Y
    have aA:k<i:=Sg B O y;have aL:=(ζe.1 Z).1;have⟨ok,aB,am⟩:=g2 k _ aA Z;have an:idx l (n:Int)=some (k:Int):=by rw[iO,aj,getElem?_map,X];rfl
    have T:o.l[k]?=some ok:=by rw[e2 k Zaa];exact aB
    unfold dK.bF;dsimp only;rw[fM hn,br,an,ζb,qX Zaa,ζb]
    unfold Sl.get;rw[T,ζb];rcases am with⟨rfl,ao⟩|⟨v,u,aC,⟨de,aD,aE⟩,ap⟩
    .rw[show Sl.isNil (Sl.nil:Zg)=some true from rfl,ζb,br,a_];refine⟨bZ n Zaa,e1,e2,a,e3,?_⟩
     have J:∀(m' I:Nat)z,m'<n+1->¬m'<n->(As L L[i])[m']?=some I->L[I]?=some z->z=bump L[i] p (-1):=λm' I z f G C D=>by obtain rfl:m'=n:=Zaa;rw[X]at C;cases C;rw[Z]at D;exact(Option.some.inj D).symm
     rcases e4 with⟨U,W⟩|⟨U,W,b⟩
     .refine .inl ⟨U,λm' I z f C D d hd=>?_⟩
      by_cases G:m'<n
      .exact W m' I z G C D d hd
      rw[J m' I z f G C D];exact ao d hd
     refine .inr ⟨U,W,λm' I z f C D d hd u=>?_,b.2⟩
     by_cases G:m'<n
     .exact b.1 m' I z G C D d hd u
     rw[J m' I z f G C D]at u;exact absurd u (ao d hd)
    have aq:0<ok.l.length:=by rw[v.1.1];omega
    have ar:=u.trans (A4 hp);have J:∀(m' I:Nat)z,m'<n+1->¬m'<n->(As L L[i])[m']?=some I->L[I]?=some z->∀d,fG L (fI tb) d->cK d z->cK d ok.l:=λm' I z f G C D d hd u=>by obtain rfl:m'=n:=Zaa;rw[X]at C;cases C;rw[Z]at D;cases D;exact aC d hd u
    rw[sR aq,ζb,bz,qX Zaa,ζb,e3,ζb]
    rcases e4 with⟨rfl,W⟩|⟨U,W,b⟩
    .have⟨o2,k1,k2⟩:=put_eq (s:=o) (p:=i) (x:=ok) Zaa
     rw[show Sl.isNil (Sl.nil:Zg)=some true from rfl,ζb,br,ζb,T,ζb,ζb,k1,ζb,a_];refine⟨bZ n Zaa,by show o2.l.length=_;rw[k2,length_set];exact e1,λj Q=>by show o2.l[j]?=_;rw[k2,getElem?_set,if_neg (Ne.symm Q)];exact e2 j Q,ok,by show o2.l[i]?=_;rw[k2,getElem?_set_self Zaa],.inr ⟨v,ar,λm' I z f C D d hd u=>?_,⟨de,aD,aE.trans (A4 hp)⟩,λe g=>ap e λd hd u=>g d hd (u.trans (A4 hp))⟩⟩
     by_cases G:m'<n
     .exact absurd u (W m' I z G C D d hd)
     exact J m' I z f G C D d hd u
    have E:a.l.length=ok.l.length:=U.1.1.trans v.1.1.symm;have F:=mB.of jk E;have⟨w1,w2,H⟩:=F.le_max E;rw[sR (show 0<a.l.length by omega),ζb,bz,ζb,e3,ζb,ζb,T,ζb,en]
    refine(UY E Zaa (by rw[U.1.1];exact M)).mono λw hw=>?_
    have⟨o2,k1,k2⟩:=put_eq (s:=o) (p:=i) (x:=w) Zaa
    rw[ζb,k1,ζb,a_];rw[<-hw]at F w1 w2 H;refine⟨bZ n Zaa,by show o2.l.length=_;rw[k2,length_set];exact e1,λj Q=>by show o2.l[j]?=_;rw[k2,getElem?_set,if_neg (Ne.symm Q)];exact e2 j Q,w,by show o2.l[i]?=_;rw[k2,getElem?_set_self Zaa],.inr ⟨join_cons U v F,H _ W ar,λm' I z f C D d hd u=>?_,b.2.1,λe g=>H _ (b.2.2 e g) (ap e λd hd u=>g d hd (u.trans (A4 hp)))⟩⟩
    by_cases G:m'<n
    .exact(b.1 m' I z G C D d hd u).trans w1
    exact(J m' I z f G C D d hd u).trans w2
   rintro⟨o,_⟩ ⟨rfl,e1,e2,a,e3,e4⟩;simp only at e1 e2 e3;unfold dK.bF;dsimp only;rw[fW,bz,a_];have au:∀d,fG L (fI tb) d->cK d L[i]->∃(m' k:Nat)(z:Rd),m'<l.l.length/\(As L L[i])[m']?=some k/\L[k]?=some z/\cK d z:=λd hd u=>by have hD:=(B.mem _).1 hd.1;have aF:d≠L[i]:=λh=>(by have G:=hd.2;rw[h,pH B.nodup O,hf]at G;cases G);have⟨p,hp,Y,aG⟩:=CB r hM B N L.length hD u aF Zaa;have hm:L.idxOf (bump L[i] p (-1))∈As L L[i]:=Ds.2 ⟨p,hp,Y,rfl⟩;have⟨m',av⟩:=getElem?_of_mem hm;exact⟨m',_,_,by rw[ak];exact(ζe.1 av).1,av,oT Y,aG⟩
   refine(a_ _).2 ⟨bZ i Zaa,e1,λj c Q b=>?_,λj Q V=>by show o.l[j]?=_;rw[e2 j Zaa];exact g3 j Zaa V⟩
   show∃o',o.l[j]?=some o'/\_
   by_cases e:j=i
   .subst e;rw[O]at b;cases b;refine⟨a,e3,?_⟩;rcases e4 with⟨U,W⟩|⟨U,W,b⟩
    .exact .inl ⟨U,λd hd u=>by
      have⟨m',k,z,f,G,C,D⟩:=au d hd u;exact W m' k z f G C d hd D⟩
    exact .inr ⟨U,W,λd hd u=>by
     have⟨m',k,z,f,G,C,D⟩:=au d hd u;exact b.1 m' k z f G C d hd D,b.2⟩
   rw[e2 j e];exact g2 j c Zaa b
 rintro⟨out,_⟩ ⟨rfl,g1,g2,-⟩;unfold dK.bh;dsimp only;rw[decide_eq_false Zaa,bz,a_]
 exact(a_ _).2 ⟨g1,λi c b=>g2 i c (ζe.1 b).1 b⟩
end
section
variable{t:Z4}
variable{A:cg 200 bC}{L:aX Rd}{tb:Sl X'}{x:bY}
theorem C2(a:VT t):Cons t A (replicate t.procs.l.length 0):=((O9 (t:=t) (A:=A) (z:=.row (replicate t.procs.l.length 0)) rfl _).1 (by simp[ins,Sl.l])).1
theorem Dd(f:VT t)(g:f_ t (bL t) A)(B:dz t A L){c d:Rd}(b:L[0]?=some c)(D:Cons t A d):cK c d:=by have a:=(B.mem _).1 (mem_of_getElem? b);have u:c.length=d.length:=a.1.1.trans D.1.1.symm;have w:=mB.of ji u;obtain⟨C,z,-⟩:=w.le_min u;have G:=CG a D w;by_cases e:zipWith ji c d=c;rw[e]at z;exact z;obtain⟨p,I,J,-⟩:=CB f g B a L.length G C e Zaa;exact absurd (Sg B b (Ds.2 ⟨p,I,J,rfl⟩)) Zaa
theorem Ck(f:VT t)(g:f_ t (bL t) A)(B:dz t A L){i:Nat}{c d:Rd}(h:i+1=L.length)(b:L[i]?=some c)(D:Cons t A d):cK d c:=by have a:=(B.mem _).1 (mem_of_getElem? b);have u:c.length=d.length:=a.1.1.trans D.1.1.symm;have w:=mB.of jk u;obtain⟨z,C,-⟩:=w.le_max u;have G:=join_cons a D w;by_cases e:cK (zipWith jk c d) c;exact C.trans e;obtain⟨p,I,J,-⟩:=Dq f g B a z (zipWith jk c d).sum.toNat G (cK.refl _) Zaa e;have:=GN B b (AM.2 ⟨p,I,J,rfl⟩);omega
theorem NJ(a:VT t)(D:dz t A L)(G:x.truth=tb)(e:zB L (mj x.index))(J:tb.l.length=L.length){out:Zb}(B:out.l.length<=5000)
 (U:∀z∈out.l,z=.nil\/(Cons t A z.l/\∃d,fG L (fI tb) d)){i:Nat}{o:Zg}(b:out.l[i]?=some o):
 ∃q,jl x out (i:Int)=some q/\((q=(.nil,15)/\∃d,fG L (fI tb) d)\/(q=(.nil,7)/\o=.nil)\/∃w,q=(w,0)/\w.l=o.l/\fG L (fI tb) o.l):=by
 have Y:=a.ok.one;have C:=Ii a D G e J (out:=out) B (λz I=>(U z I).imp id λh=>h.1)
 have O:idx out (i:Int)=some o:=by rw[iO];exact b
 unfold jl;rw[C,ζb]
 cases Q:out.l.any λz=> !z.l.isEmpty&& !fI tb (L.idxOf z.l)with
 |true=>
  have⟨z,I,S⟩:=any_eq_true.1 Q;refine⟨_,rfl,.inl ⟨rfl,?_⟩⟩;rcases U z I with rfl|h
  .simp[Sl.l]at S
  exact h.2
 |false=>
  rw[show(!false)=true from rfl,br,O,ζb];rcases U o (mem_of_getElem? b)with rfl|⟨u,-⟩
  .exact⟨_,rfl,.inr (.inl ⟨rfl,rfl⟩)⟩
  have B:0<o.l.length:=by rw[u.1.1];omega
  have⟨w,k1,k2⟩:=um (c:=o) (by rw[u.1.1];have:=a.few;omega) B
  have T:=(D.mem _).2 u;have W:fI tb (L.idxOf o.l)=true:=by simp only[List.any_eq_false,ζh,Bool.not_eq_true,not_and,Bool.not_eq_false']at Q;have:=Q o (mem_of_getElem? b);cases Z:fI tb (L.idxOf o.l)with|true=>rfl|false=>rw[Z]at this;cases X:o.l.isEmpty with|false=>rw[X]at this;simp at this|true=>rw[List.isEmpty_iff]at X;rw[X]at B;exact absurd B (by decide)
  rw[sR B,ζb,bz,ζb,k1];exact⟨_,rfl,.inr (.inr ⟨w,rfl,k2,T,W⟩)⟩
def Ext(L:aX Rd)(f:Nat->X')(R:Rd->Rd->Prop)(q:Zg×Int):Prop:=(q=(.nil,15)/\∃d,fG L f d)\/(q=(.nil,7)/\∀d,¬fG L f d)\/∃w,q=(w,0)/\fG L f w.l/\∀d,fG L f d->R w.l d
theorem Vz(l:Small t)(c:VT t)(e:f_ t (bL t) A)(B:dz t A L)(j:L.length<=5000){p:T'}{r:Zb}(y:oA t p=some (tb,0))(E:oa t=some (r,0))(m:ins r=L)(D:tb.l.length=L.length):
 ∃W Y,mR t p=some W/\ko t p=some Y/\Ext L (fI tb) cK W/\Ext L (fI tb) (λa b=>cK b a) Y:=by
 obtain⟨V,F,x,rfl,x1,x2,X,x4⟩:=Ld c B j m tb;have S:pn t p=some (some x,0):=by unfold pn;rw[y,ζb];simp only;rw[show((0:Int)==0)=true from rfl,br,E,ζb];simp only;rw[show((0:Int)==0)=true from rfl,br,F];rfl
 have T:0<L.length:=List.length_pos_of_mem ((B.mem _).2 (C2 (A:=A) c));have I:ins x.l=L:=by rw[x2];exact m
 have Z:x.l.l.length=L.length:=by rw[<-I,iZ]
 have⟨o1,a1,a2,a3⟩:=IS l c e B j I X x4 D;have⟨o2,H,b2,n⟩:=Gk l c e B j I X x4 D;have C:=ζd T;have G:=ζd (show L.length-1<L.length by omega)
 have⟨u,K,q⟩:=a3 0 _ C;have⟨v,M,s⟩:=n _ _ G;have N:∀z∈o1.l,z=.nil\/(Cons t A z.l/\∃d,fG L (fI tb) d):=λz k=>by have⟨i,f⟩:=getElem?_of_mem k;have P:=(ζe.1 f).1;have⟨o,g1,g2⟩:=a3 i _ (ζd (show i<L.length by omega));rw[f]at g1;cases g1;rcases g2 with⟨h,_⟩|⟨h,-,-,⟨d,hd,-⟩,-⟩;exact .inl h;exact .inr ⟨h,d,hd⟩
 have R:∀z∈o2.l,z=.nil\/(Cons t A z.l/\∃d,fG L (fI tb) d):=λz k=>by have⟨i,f⟩:=getElem?_of_mem k;have P:=(ζe.1 f).1;have⟨o,g1,g2⟩:=n i _ (ζd (show i<L.length by omega));rw[f]at g1;cases g1;rcases g2 with⟨h,_⟩|⟨h,-,-,⟨d,hd,-⟩,-⟩;exact .inl h;exact .inr ⟨h,d,hd⟩
 have⟨W,p1,p2⟩:=NJ c B X x4 D Zaa N K
 have⟨Y,r1,r2⟩:=NJ c B X x4 D Zaa R M
 refine⟨W,Y,?_,?_,?_,?_⟩
 .unfold mR;rw[S,ζb];simp only;rw[show((0:Int)==0)=true from rfl,br,ζb,a1,ζb,show(0:Int)=((0:Nat):Int)from rfl,p1];rfl
 .unfold ko;rw[S,ζb];simp only;rw[show((0:Int)==0)=true from rfl,br,ζb,H,ζb,show len x.l=(L.length:Int)from by simp only[len,Z],fJ _ Zaa Zaa,show(L.length:Int)-1=((L.length-1:Nat):Int)from Zaa,r1];rfl
 .rcases p2 with⟨h,hd⟩|⟨h,rfl⟩|⟨w,h,U,J⟩
  .exact .inl ⟨h,hd⟩
  .rcases q with⟨-,O⟩|⟨g,-⟩
   .exact .inr (.inl ⟨h,λd hd=>O d hd (Dd c e B C ((B.mem _).1 hd.1))⟩)
   have:=g.1.1;have:=c.ok.one;simp[Sl.l]at *;omega
  rcases q with⟨rfl,O⟩|⟨g,-,Q,-⟩
  .exact absurd (Dd c e B C ((B.mem _).1 J.1)) (O _ J)
  exact .inr (.inr ⟨w,h,by rw[U];exact J,λd hd=>by rw[U];exact Q d hd (Dd c e B C ((B.mem _).1 hd.1))⟩)
 rcases r2 with⟨h,hd⟩|⟨h,rfl⟩|⟨w,h,U,J⟩
 .exact .inl ⟨h,hd⟩
 .rcases s with⟨-,O⟩|⟨g,-⟩
  .exact .inr (.inl ⟨h,λd hd=>O d hd (Ck c e B Zaa G ((B.mem _).1 hd.1))⟩)
  have:=g.1.1;have:=c.ok.one;simp[Sl.l]at *;omega
 rcases s with⟨rfl,O⟩|⟨g,-,Q,-⟩
 .exact absurd (Ck c e B Zaa G ((B.mem _).1 J.1)) (O _ J)
 exact .inr (.inr ⟨w,h,by rw[U];exact J,λd hd=>by rw[U];exact Q d hd (Ck c e B Zaa G ((B.mem _).1 hd.1))⟩)
end
theorem DC:∀{a b:Rd},cK a b->a.sum<=b.sum/\(a.sum=b.sum->a=b)
 |[],[],_=>⟨Int.le_refl _,λ_=>rfl⟩|[],_::_,h=>nomatch h.1
 |_::_,[],h=>nomatch h.1
 |x::a,y::b,h=>by have e:=h.2 0 x y rfl rfl;have⟨f,w⟩:=DC (a:=a) (b:=b) ⟨by simpa using h.1,λp u v c d=>h.2 (p+1) u v c d⟩;grind
theorem LR{α:Type}(P:α->Prop)(g:α->Nat):∀(n:Nat)(a:α),P a->g a<=n->∃m,P m/\∀b,P b->g m<=g b
 |0,a,h,B=>⟨a,h,λb _=>Zaa⟩|n+1,a,h,B=>by by_cases e:∃b,P b/\g b<g a;have⟨b,D,G⟩:=e;exact LR P g n b D Zaa;grind
section
variable{t:Z4}{A:cg 200 bC}{L:aX Rd}{tb:Sl X'}{x:bY}
def CF(L:aX Rd)(f:Nat->X')(g:Int->Int->Int):Prop:=∀a b,fG L f a->fG L f b->fG L f (zipWith g a b)
theorem OD(a:VT t)(D:dz t A L)(G:x.truth=tb)(Y:zB L (mj x.index))(J:tb.l.length=L.length){out:Zb}(B:out.l.length<=5000)
 (U:∀z∈out.l,z=.nil\/Cons t A z.l){i:Nat}{o:Zg}(b:out.l[i]?=some o):
 ∃q,jl x out (i:Int)=some q/\(q.2=15↔∃z∈out.l,Cons t A z.l/\fI tb (L.idxOf z.l)=false):=by
 have S:=a.ok.one;have I:=Ii a D G Y J (out:=out) B U;have O:idx out (i:Int)=some o:=by rw[iO];exact b
 have X:∀z:Zg,Cons t A z.l->z.l.isEmpty=false:=λz d=>by cases T:z.l.isEmpty with|false=>rfl|true=>have:=d.1.1;rw[List.isEmpty_iff]at T;rw[T]at this;grind
 unfold jl;rw[I,ζb]
 cases Z:out.l.any λz=> !z.l.isEmpty&& !fI tb (L.idxOf z.l)with
 |true=>
  have⟨z,W,u⟩:=any_eq_true.1 Z;rw[ζh,Bool.not_eq_true',Bool.not_eq_true']at u;refine⟨_,rfl,λ_=>⟨z,W,?_,u.2⟩,λ_=>rfl⟩
  rcases U z W with rfl|h
  all_goals grind[Sl.l]
 |false=>
  have Q:¬∃z∈out.l,Cons t A z.l/\fI tb (L.idxOf z.l)=false:=by grind
  rw[show(!false)=true from rfl,br,O,ζb];rcases U o (mem_of_getElem? b)with rfl|C
  .exact⟨_,rfl,λh=>absurd h Zab,λh=>absurd h Q⟩
  have B:0<o.l.length:=by rw[C.1.1];omega
  have⟨w,k1,k2⟩:=um (c:=o) (by rw[C.1.1];have:=a.few;omega) B
  rw[sR B,ζb,bz,ζb,k1];simp_all
theorem NC{f:Nat->X'}{d:Rd}(h:d∈L)(B:f (L.idxOf d)=false):¬fG L f d:=λk=>by rw[k.2]at B;cases B
theorem X2(l:VT t)(B:dz t A L){out:Zb}(q:out.l.length=L.length)
 (h:∀(i:Nat)c,L[i]?=some c->∃o,out.l[i]?=some o/\Low t A L (fI tb) c o):
 (∃z∈out.l,Cons t A z.l/\fI tb (L.idxOf z.l)=false)↔¬CF L (fI tb) ji:=by
 have r:=l.ok.one;have u:∀{a b},fG L (fI tb) a->fG L (fI tb) b->a.length=b.length:=λD G=>((B.mem _).1 D.1).1.1.trans ((B.mem _).1 G.1).1.1.symm
 constructor
 .rintro⟨z,I,f,hf⟩ hM;have⟨i,j⟩:=getElem?_of_mem I;have s:=(ζe.1 j).1;have⟨o,g1,g2⟩:=h i _ (ζd (show i<L.length by omega))
  rw[j]at g1;cases g1;rcases g2 with⟨e,-⟩|⟨-,J,w,⟨d,hd,T⟩,U⟩
  .rw[e]at f;have:=f.1.1;rw[show(Sl.nil:Zg).l=[]from rfl,List.length_nil]at this;omega
  have⟨m,⟨C,O⟩,Q⟩:=LR (λd=>fG L (fI tb) d/\cK L[i] d) (λd=>d.sum.toNat) d.sum.toNat d ⟨hd,T⟩ (le_refl _)
  have W:cK m z.l:=U m λe X Y=>by have I:=mB.of ji (u C X);have⟨Z,S,g⟩:=I.le_min (u C X);have k:=hM m e C X;have:=Q _ ⟨k,g _ O Y⟩;have⟨v,n⟩:=DC Z;have p1:=((B.mem _).1 k.1).1.sum.1;rw[n Zaa]at S;exact S
  have:=cK.same W (w m C O);exact NC ((B.mem _).2 f) hf (this▸C)
 intro p;refine byContradiction λx=>p λa b D G=>?_
 have I:=mB.of ji (u D G);have⟨Z,S,g⟩:=I.le_min (u D G);have f:=CG ((B.mem _).1 D.1) ((B.mem _).1 G.1) I;have C:=(B.mem _).2 f;have⟨o,g1,g2⟩:=h _ _ (oT C);rcases g2 with⟨-,e⟩|⟨y,J,w,-⟩
 .grind
 have:=cK.same J (g _ (w a D Z) (w b G S));refine⟨C,?_⟩
 grind
theorem YX(p:VT t)(B:dz t A L){out:Zb}(v:out.l.length=L.length)
 (h:∀(i:Nat)c,L[i]?=some c->∃o,out.l[i]?=some o/\Hig t A L (fI tb) c o):
 (∃z∈out.l,Cons t A z.l/\fI tb (L.idxOf z.l)=false)↔¬CF L (fI tb) jk:=by
 have x:=p.ok.one;have u:∀{a b},fG L (fI tb) a->fG L (fI tb) b->a.length=b.length:=λG I=>((B.mem _).1 G.1).1.1.trans ((B.mem _).1 I.1).1.1.symm
 constructor
 .rintro⟨z,J,f,hf⟩ hM;have⟨i,k⟩:=getElem?_of_mem J;have y:=(ζe.1 k).1;have⟨o,g1,g2⟩:=h i _ (ζd (show i<L.length by omega))
  rw[k]at g1;cases g1;rcases g2 with⟨e,-⟩|⟨-,O,w,⟨d,hd,U⟩,W⟩
  .rw[e]at f;have:=f.1.1;rw[show(Sl.nil:Zg).l=[]from rfl,List.length_nil]at this;omega
  have Q:∀d,fG L (fI tb) d->cK d L[i]->d.sum<=L[i].sum:=λd _ q=>(DC q).1
  have⟨m,⟨C,D⟩,S⟩:=LR (λd=>fG L (fI tb) d/\cK d L[i]) (λd=>(L[i].sum-d.sum).toNat) _ d ⟨hd,U⟩ (le_refl _)
  have X:cK z.l m:=W m λe Y Z=>by have J:=mB.of jk (u C Y);have⟨g,T,j⟩:=J.le_max (u C Y);have l:=hM m e C Y;have n:=j _ D Z;have:=S _ ⟨l,n⟩;have⟨E,r⟩:=DC g;have p1:=Q _ l n;have p2:=Q _ C D;rw[<-r Zaa]at T;exact T
  have:=cK.same (w m C D) X;exact NC ((B.mem _).2 f) hf (this▸C)
 intro s;refine byContradiction λF=>s λa b G I=>?_
 have J:=mB.of jk (u G I);have⟨g,T,j⟩:=J.le_max (u G I);have f:=join_cons ((B.mem _).1 G.1) ((B.mem _).1 I.1) J;have C:=(B.mem _).2 f;have⟨o,g1,g2⟩:=h _ _ (oT C);rcases g2 with⟨-,e⟩|⟨H,O,w,-⟩
 .grind
 have:=cK.same O (j _ (w a G g) (w b I T));refine⟨C,?_⟩
 grind
theorem T3(c:Small t)(a:VT t)(d:f_ t (bL t) A)(B:dz t A L)(U:L.length<=5000){p:T'}{r:Zb}(k:oA t p=some (tb,0))(l:oa t=some (r,0))(e:ins r=L)(D:tb.l.length=L.length):
 ∃G J,mR t p=some G/\ko t p=some J/\(G.2=15↔¬CF L (fI tb) ji)/\(J.2=15↔¬CF L (fI tb) jk):=by
 obtain⟨m,n,x,rfl,q,x2,I,x4⟩:=Ld a B U e tb;have O:pn t p=some (some x,0):=by simp_all[pn,br]
 have C:0<L.length:=List.length_pos_of_mem ((B.mem _).2 (C2 (A:=A) a));have w:ins x.l=L:=by rw[x2];exact e
 have W:x.l.l.length=L.length:=by rw[<-w,iZ]
 have⟨o1,a1,a2,a3⟩:=IS c a d B U w I x4 D;have⟨o2,X,Y,Q⟩:=Gk c a d B U w I x4 D;obtain⟨u,Z,-⟩:=a3 0 _ (ζd C);obtain⟨v,f,-⟩:=Q _ _ (ζd (show L.length-1<L.length by omega))
 have g:∀z∈o1.l,z=.nil\/Cons t A z.l:=λz S=>by have⟨i,b⟩:=getElem?_of_mem S;have T:=(ζe.1 b).1;have⟨o,g1,g2⟩:=a3 i _ (ζd (show i<L.length by omega));rw[b]at g1;cases g1;exact g2.imp (λh=>h.1) λh=>h.1
 have j:∀z∈o2.l,z=.nil\/Cons t A z.l:=λz S=>by have⟨i,b⟩:=getElem?_of_mem S;have T:=(ζe.1 b).1;have⟨o,g1,g2⟩:=Q i _ (ζd (show i<L.length by omega));rw[b]at g1;cases g1;exact g2.imp (λh=>h.1) λh=>h.1
 have⟨G,p1,p2⟩:=OD a B I x4 D Zaa g Z
 have⟨J,r1,r2⟩:=OD a B I x4 D Zaa j f
 refine⟨G,J,?_,?_,p2.trans (X2 a B a2 a3),r2.trans (YX a B Y Q)⟩
 .simp_all[mR,br]
 unfold ko;rw[O,ζb];simp only;rw[show((0:Int)==0)=true from rfl,br,ζb,X,ζb,show len x.l=(L.length:Int)from Zac,fJ _ Zaa Zaa,show(L.length:Int)-1=((L.length-1:Nat):Int)from Zaa,r1];rfl
theorem Kl{g:Int->Int->Int}(c:∀x y,g x y=g y x):∀a b:Rd,zipWith g a b=zipWith g b a
 |[],b=>by cases b<;>rfl|a::u,[]=>rfl|a::u,b::v=>by simp only[zipWith,c a b,Kl c u v]
theorem U5{g:Int->Int->Int}(b:∀x,g x x=x):∀a:Rd,zipWith g a a=a
 |[]=>rfl|a::u=>Zad
theorem Je{g:Int->Int->Int}(e:∀x y,g x y=g y x)(G:∀x,g x x=x){f:Nat->X'}{o:Zb}(B:∀y∈o.l,fG L f y.l)(D:∀d,fG L f d->∃y∈o.l,y.l=d):
 (∀(i j:Nat)a b,j<i->o.l[i]?=some a->o.l[j]?=some b->fG L f (zipWith g a.l b.l))↔CF L f g:=by
 constructor
 .intro h a b u w;obtain⟨y,I,rfl⟩:=D a u;obtain⟨z,J,rfl⟩:=D b w
  grind[getElem?_of_mem,U5,Kl]
 intro h i j a b _ c C;exact h _ _ (B a (mem_of_getElem? c)) (B b (mem_of_getElem? C))
theorem QV(x y:Int):ji x y=ji y x:=by unfold ji;split<;>split<;>omega
theorem R6(x y:Int):jk x y=jk y x:=by unfold jk;split<;>split<;>omega
def zX(L:aX Rd)(f:Nat->X')(g:Int->Int->Int)(l:aX Zg)(n m:Nat):Prop:=∀(i j:Nat)a b,j<i->(i<n\/i=n/\j<m)->l[i]?=some a->l[j]?=some b->fG L f (zipWith g a.l b.l)
theorem zX.step{f:Nat->X'}{g:Int->Int->Int}{l:aX Zg}{n m:Nat}{a b:Zg}(D:l[n]?=some a)(G:l[m]?=some b)(B:m<n):
 zX L f g l n (m+1)↔zX L f g l n m/\fG L f (zipWith g a.l b.l):=by
 constructor
 .intro h;exact⟨λi j x y c u=>h i j x y c Zaa,h n m a b B Zaa D G⟩
 rintro⟨h,k⟩ i j x y c u w z
 by_cases e:i=n/\j=m
 .grind
 exact h i j x y c Zaa w z
theorem zX.next{f:Nat->X'}{g:Int->Int->Int}{l:aX Zg}{n:Nat}:zX L f g l n n↔zX L f g l (n+1) 0:=⟨λh i j x y a u=>h i j x y a Zaa,λh i j x y a u=>h i j x y a Zaa⟩
end
section
variable{t:Z4}{A:cg 200 bC}
theorem Ri{c c':Zg}{l:Zb}(D:c'.l=c.l)(h:AtC t A c l)(q:T'):za t q->q.kind<=8->∀n,q.dp<=n->
 ∃x,dI (λr(z:cr×T')=>fh z.1 z.2 r) n (⟨t,c,l⟩,q)=some x/\dI (λr(z:Z4×(Zg)×T')=>jU z.1 z.2.1 z.2.2 r) n (t,c',q)=some x:=by
 induction q using Pred.ind with
 |h q S=>
  intro K d n hn;have hd:=q.vf;obtain⟨E,hv,M,N,v,L⟩:=h;obtain⟨T,e,hy⟩:=K.here;obtain⟨k1,-,-⟩:=yN T;have S:=λq H=>S q H (K.vK H) (K.int Zaa H) (n-1) (by have:=Pred.r_ H;omega)
  rw[jB Zaa,jB Zaa]
  show∃x,fh ⟨t,c,l⟩ q (dI (λr(z:cr×T')=>fh z.1 z.2 r) (n-1))=some x/\jU t c' q (dI (λr(z:Z4×(Zg)×T')=>jU z.1 z.2.1 z.2.2 r) (n-1))=some x
  generalize dI (λr(z:cr×T')=>fh z.1 z.2 r) (n-1)=R at S⊢
  generalize dI (λr(z:Z4×(Zg)×T')=>jU z.1 z.2.1 z.2.2 r) (n-1)=R' at S⊢
  unfold fh jU;rcases(show q.kind=1\/q.kind=2\/q.kind=3\/q.kind=4\/5<=q.kind by omega)with d|d|d|d|d
  .rw[d];exact⟨q.n,rfl,rfl⟩
  .unfold qz at e;rw[if_pos (by simpa using d)]at e
   simp only[ζh]at e;obtain⟨hp,-,U⟩:=e;obtain⟨i,hi,ab⟩:=Hi E (p:=q.proc) (by simp only[ζh];exact hp) q.name
   rcases ab with⟨m,k,P,y,J,C,rfl,O,V,h2,-⟩|⟨-,W⟩
   .have X:=(ζe.1 O).1;have B:=(ζe.1 C).1;obtain⟨a,G⟩:=v.1.at_ B;obtain⟨a0,a1⟩:=v.1.2 m a P G C;obtain⟨x,hx,ad⟩:=L m P a C G;refine⟨nV P k a.toNat,?_,?_⟩
    .rw[d,show((2:Int)==1)=false from rfl,bz,show((2:Int)==2)=true from rfl,br];unfold pR;simp only;rw[J,iO,C,ζb,Fh (p:=λz=>lG z q) (f:=λw=>toList w.name==toList q.name) (λ_ _=>rfl) (E.2 P (mem_of_getElem? C)).2.1,Mc O V h2,ζb,iO,hx,ζb,iO,ad,It _ X]
     rfl
    rw[d,show((2:Int)==1)=false from rfl,bz,show((2:Int)==2)=true from rfl,br,J,SI E C O V h2,ζb,iO,D,G,ζb];have:=Q2 E M.ok C X (a:=a.toNat) Zaa
    rw[show((a.toNat:Nat):Int)=a from Zaa]at this
    rw[this];rfl
   rw[W]at U;cases U
  .unfold qz at e;rw[if_neg (by simp[d]),if_pos (by simpa using d)]at e
   simp only[ζh]at e;obtain⟨m,J,B⟩:=xw (t:=t) (p:=q.proc) (by simp only[ζh];exact e.1)
   obtain⟨a,G⟩:=v.1.at_ B;refine⟨a,?_,?_⟩
   .rw[d,show((3:Int)==1)=false from rfl,bz,show((3:Int)==2)=false from rfl,bz,show((3:Int)==3)=true from rfl,br];simp only;rw[J,iO,G];rfl
   rw[d,show((3:Int)==1)=false from rfl,bz,show((3:Int)==2)=false from rfl,bz,show((3:Int)==3)=true from rfl,br,J,iO,D,G];rfl
  .unfold qz at e;rw[if_neg (by simp[d]),if_neg (by simp[d]),if_pos (by simpa using d)]at e
   simp only[ζh]at e;obtain⟨m,J,B⟩:=xw (t:=t) (p:=q.proc) (by simp only[ζh];exact e.1)
   obtain⟨o,ho,Q⟩:=xw (t:=t) (p:=q.peer) (by simp only[ζh];exact e.2.1)
   obtain⟨a,G⟩:=v.1.at_ B;obtain⟨b,hb⟩:=v.1.at_ Q;have C:=ζd B;have hQ:=ζd Q;obtain⟨⟨u,e2⟩,hu,ae,Y⟩:=TX E hv M N v B Q;simp only at ae Y;obtain⟨s,hs,F⟩:=M4 (c:=c') E (by rw[D];exact v.1) C (by rw[D];exact G) o
   rw[D]at F;refine⟨len u,?_,?_⟩
   .rw[d,show((4:Int)==1)=false from rfl,bz,show((4:Int)==2)=false from rfl,bz,show((4:Int)==3)=false from rfl,bz,show((4:Int)==4)=true from rfl,br];unfold qC;simp only;rw[J,ho,hu];rfl
   rw[d,show((4:Int)==1)=false from rfl,bz,show((4:Int)==2)=false from rfl,bz,show((4:Int)==3)=false from rfl,bz,show((4:Int)==4)=true from rfl,br,J,ho,hs,ζb];show some ((s.l.length:Nat):Int)=some ((u.l.length:Nat):Int);rw[F,Y,JB M N v C hQ G hb]
  have I:∀j:Int,j<5->(q.kind==j)=false:=λj hj=>by simp;omega
  rw[I 1 Zaa,I 2 Zaa,I 3 Zaa,I 4 Zaa]
  simp only[bz];have hl:0<q.l.l.length:=by rcases(show q.kind=5\/q.kind=6\/q.kind=7\/q.kind=8 by omega)with g|g|g|g;have:=Pred.parts T (c:=1) (by rw[g];rfl);omega;have:=Pred.parts T (c:=2) (by rw[g];rfl);omega;have:=Pred.parts T (c:=2) (by rw[g];rfl);omega;have:=Pred.parts T (c:=2) (by rw[g];rfl);omega
  obtain⟨x,x1,x2⟩:=S _ (getElem_mem hl);have Z:idx q.l 0=some q.l.l[0]:=bA (i:=0) hl
  by_cases g:q.kind=5
  .rw[g,show((5:Int)==5)=true from rfl,br,br,Z,ζb,x1,ζb,ζb,x2,ζb];exact⟨_,rfl,rfl⟩
  have aa:1<q.l.l.length:=by have:=Pred.parts T (c:=2) (by rcases(show q.kind=6\/q.kind=7\/q.kind=8 by omega)with g|g|g<;>(rw[g];rfl));omega
  obtain⟨y,y1,y2⟩:=S _ (getElem_mem aa);have af:idx q.l 1=some q.l.l[1]:=bA (i:=1) aa;rw[Z,af];simp only[ζb,x1,x2,y1,y2];rw[show(q.kind==5)=false from by simpa using g,bz]
  cases q.kind==6<;>cases q.kind==7<;>exact⟨_,rfl,rfl⟩
theorem MX{c c':Zg}{l:Zb}(U:c'.l=c.l)(h:AtC t A c l)(q:T'):za t q->9<=q.kind->q.dp<=20->q.gV (λk=> !vw k)=true->∀n,q.dp<=n->
 ∃x,dI (λr(z:cr×T')=>fK z.1 z.2 r) n (⟨t,c,l⟩,q)=some x/\dI (λr(z:Z4×(Zg)×T')=>jV z.1 z.2.1 z.2.2 r) n (t,c',q)=some x:=by
 induction q using Pred.ind with
 |h q G=>
  intro a b W C n d;have hd:=q.vf;have⟨I,e,f⟩:=a.here;obtain⟨k1,k2,-⟩:=yN I;rw[q.mb,ζh,all_eq_true]at C;have X:q.kind<=17:=by have:=C.1;unfold vw at this;by_cases g:q.kind>=18;rw[decide_eq_true g,decide_eq_true (show q.kind<=21 by omega)]at this;cases this;omega
  have B:∀k∈q.l.l,k.kind<=8->∃x,fq ⟨t,c,l⟩ k=some x/\kK t c' k=some x:=λk b Q=>Ri U h k (a.vK b) Q 100000 (by have:=Pred.r_ b;omega)
  have D:13<=q.kind->∀k∈q.l.l,9<=k.kind:=λg k b=>by have:=a.here.2.2;unfold sJ at this;rw[all_eq_true]at this;have:=this k b;unfold ye rL at this;rw[if_neg (show¬q.kind<=12 by omega)]at this;by_cases Y:k.kind<=8;rw[if_pos Y]at this;cases this;omega
  have G:=λg q J=>G q J (a.vK J) (D g q J) (by have:=Pred.r_ J;omega) (C.2 q J) (n-1) (by have:=Pred.r_ J;omega)
  rw[jB Zaa,jB Zaa]
  show∃x,fK ⟨t,c,l⟩ q (dI (λr(z:cr×T')=>fK z.1 z.2 r) (n-1))=some x/\jV t c' q (dI (λr(z:Z4×(Zg)×T')=>jV z.1 z.2.1 z.2.2 r) (n-1))=some x
  generalize dI (λr(z:cr×T')=>fK z.1 z.2 r) (n-1)=R at G⊢
  generalize dI (λr(z:Z4×(Zg)×T')=>jV z.1 z.2.1 z.2.2 r) (n-1)=R' at G⊢
  unfold fK jV gw.J1
  by_cases L:q.kind<=12
  .have Z:=Pred.parts I (c:=2) (by rcases(show q.kind=9\/q.kind=10\/q.kind=11\/q.kind=12 by omega)with g|g|g|g<;>(rw[g];rfl))
   have u:0<q.l.l.length:=Zaa
   have w:1<q.l.l.length:=Zaa
   have⟨x,O,x2⟩:=B _ (getElem_mem u) (a.int L (getElem_mem u));have⟨y,S,T⟩:=B _ (getElem_mem w) (a.int L (getElem_mem w));rw[show idx q.l 0=some q.l.l[0]from bA (i:=0) u,show idx q.l 1=some q.l.l[1]from bA (i:=1) w];simp only[ζb,O,x2,S,T];rcases(show q.kind=9\/q.kind=10\/q.kind=11\/q.kind=12 by omega)with g|g|g|g<;>rw[g]<;>exact⟨_,rfl,rfl⟩
  by_cases j:q.kind<=14
  .rcases (show q.kind=13\/q.kind=14 by omega)with g|g<;>rw[g]<;>exact⟨_,rfl,rfl⟩
  have u:0<q.l.l.length:=by rcases(show q.kind=15\/q.kind=16\/q.kind=17 by omega)with g|g|g;have:=Pred.parts I (c:=1) (by rw[g];rfl);omega;have:=Pred.parts I (c:=2) (by rw[g];rfl);omega;have:=Pred.parts I (c:=2) (by rw[g];rfl);omega
  have⟨x,O,x2⟩:=G Zaa _ (getElem_mem u)
  rw[show idx q.l 0=some q.l.l[0]from bA (i:=0) u]
  by_cases g:q.kind=15
  .rw[g];simp only[ζb,O,x2];exact⟨_,rfl,rfl⟩
  have w:1<q.l.l.length:=by have:=Pred.parts I (c:=2) (by rcases(show q.kind=16\/q.kind=17 by omega)with g|g<;>(rw[g];rfl));omega
  have⟨y,S,T⟩:=G Zaa _ (getElem_mem w)
  rw[show idx q.l 1=some q.l.l[1]from bA (i:=1) w];simp only[ζb,O,x2,S,T];rcases(show q.kind=16\/q.kind=17 by omega)with g|g<;>rw[g]<;>cases x<;>exact⟨_,rfl,rfl⟩
end
section
variable{t:Z4}
theorem YR{m:aY (Zb×Int)}(U:oa t=m)(d:Small t)(hN:(bL t).length<1073741824){p:T'}(v:p.Sm):
 ∃r tb s ts f,iR t p=some (r,tb,f)/\iV t p=some (ts,s,f)/\tb.l=ts.l/\(f=0->cZ t=some true/\∃(A:cg 200 bC)(_:VT t)(_:f_ t (bL t) A)(L:aX Rd),dz t A L/\L.length<=5000/\m=some (r,0)/\ins r=L/\ins s=L/\tb.l.length=L.length):=by
 have a:∀f:Int,f≠0->∃r tb s ts g,some ((Sl.nil:Zb),(Sl.nil:Sl X'),f)=some (r,tb,g)/\some ((Sl.nil:Sl X'),(Sl.nil:Zb),f)=some (ts,s,g)/\tb.l=ts.l/\(g=0->cZ t=some true/\∃(A:cg 200 bC)(_:VT t)(_:f_ t (bL t) A)(L:aX Rd),dz t A L/\L.length<=5000/\m=some (r,0)/\ins r=L/\ins s=L/\tb.l.length=L.length):=λf h=>⟨_,_,_,_,f,rfl,rfl,rfl,λh'=>absurd h' h⟩
 have⟨e,h1,h2,h3⟩:=O8 d hN v;unfold iR iV z7;rw[h1,h2,ζb,ζb]
 by_cases W:e=0
 .subst W;have⟨j,c,X,y⟩:=h3 rfl;have hd:=X;simp only[oO,ζh,decide_eq_true_eq]at hd;obtain⟨A,-,-,k⟩:=c.msgs;unfold we;rw[show((0:Int)==0)=true from rfl,br,br,U_ X y,Um X y,ζb,ζb];simp only;rw[show((0:Int)==0)=true from rfl,br]
  cases hk:rL p.kind==2 with
  |false=>exact a 14 (by decide)|true=>
   rw[show(!true)=false from rfl,ζb,bz,br,ζb,ζb,show((0:Int)==0)=true from rfl,br,br,L6 v,Kz v,X,ζb,ζb]
   cases ht:p.gV λq=> !vw q with
   |false=>exact a 15 (by decide)|true=>
    rw[show(true&& !true)=false from rfl,bz,bz];have I:rL p.kind=2:=by simpa using hk
    have h9:9<=p.kind:=by unfold rL at I;by_cases h:p.kind<=8;rw[if_pos h]at I;cases I;omega
    rcases FA d j c k with⟨L,r,s,C,M,E,b,B,J⟩|⟨E,b⟩
    .have G:oa t=some (r,0):=by unfold oa;rw[E];rfl
     have S:r.l.length=s.l.length:=by rw[<-iZ r,B,<-J,iZ]
     have ad:r.l.length<=5000:=by rw[<-iZ r,B];exact M
     have O:∀x∈r.l,Cons t A x.l:=λx hx=>(C.mem _).1 (by rw[<-B];exact rD.2 ⟨x,hx,rfl⟩)
     have h8:=c.few
     let g:Nat->X':=λi=>(qo t (s.l[i]?.getD .nil) p).getD false
     have N:∀(i:Nat)(F:i<r.l.length)(Z:i<s.l.length),∃l,jL t r.l[i]=some (l,0)/\gw ⟨t,r.l[i],l⟩ p=some (g i)/\qo t s.l[i] p=some (g i):=λi F Z=>by have P:=O _ (getElem_mem F);have⟨⟨l,z⟩,a1,a2,a3,a4⟩:=ab6 d j c k P;simp only at a2 a3 a4;subst a2;have aa:s.l[i].l=r.l[i].l:=(by have Y:=sP F;have Q:=sP Z;rw[B]at Y;rw[J]at Q;rw[Y]at Q;exact(Option.some.inj Q).symm);have⟨x,H,x2⟩:=MX aa ⟨d,j,c,k,P,a4⟩ p y h9 Zaa ht 100000 Zaa;have T:g i=x:=(by show(qo t (s.l[i]?.getD .nil) p).getD false=x;rw[ζd Z,Option.getD_some,show qo t s.l[i] p=some x from x2];rfl);exact⟨l,a1,by rw[T];exact H,by rw[T];exact x2⟩
     have p1:Wp (iR.W1 r (Sl.nil:Sl X') r (len r) 0 t p) λw=>w.1=r/\w.2.1.l=(range r.l.length).map g/\w.2.2=0:=by unfold iR.W1;refine dH r.l.length (λn s=>s.2=(n:Int)/\s.1.l=(range n).map g) ⟨rfl,rfl⟩ ?_ ?_;rintro n ⟨o,_⟩ u ⟨e1,e2⟩;simp only at e1 e2;subst e1;have ab:o.l.length=n:=(by rw[e2];simp);obtain⟨l,H,x2,-⟩:=N n u Zaa;unfold iR.bh;rw[fM u,br,bA u,ζb,H,ζb];simp only;rw[show((0:Int)==0)=true from rfl,br,x2,ζb];have D:fF o (g n)=some (.row (o.l++[g n])):=(by unfold fF;rw[if_pos Zaa]);rw[D,ζb,a_,bZ n Zaa];refine⟨rfl,?_⟩;show o.l++[g n]=_;rw[e2,range_succ,map_append];rfl;rintro⟨o,_⟩ ⟨e1,e2⟩;simp only at e1 e2;subst e1;unfold iR.bh;rw[fW,bz,a_];exact(a_ _).2 ⟨rfl,e2,rfl⟩
     have p2:Wp (iV.W1 s (Sl.nil:Sl X') 0 t p) λw=>w.1.l=(range r.l.length).map g/\w.2.1=s/\w.2.2=0:=by unfold iV.W1;refine dH s.l.length (λn s=>s.2=(n:Int)/\s.1.l=(range n).map g) ⟨rfl,rfl⟩ ?_ ?_;rintro n ⟨o,_⟩ u ⟨e1,e2⟩;simp only at e1 e2;subst e1;have ab:o.l.length=n:=(by rw[e2];simp);obtain⟨l,-,-,x3⟩:=N n Zaa u;unfold iV.bh;rw[fM u,br,bA u,ζb,x3,ζb];have D:fF o (g n)=some (.row (o.l++[g n])):=(by unfold fF;rw[if_pos Zaa]);rw[D,ζb,a_,bZ n Zaa];refine⟨rfl,?_⟩;show o.l++[g n]=_;rw[e2,range_succ,map_append];rfl;rintro⟨o,_⟩ ⟨e1,e2⟩;simp only at e1 e2;subst e1;unfold iV.bh;rw[fW,bz,a_];exact(a_ _).2 ⟨by rw[S];exact e2,rfl,rfl⟩
     have⟨⟨r',tb,z⟩,Y,Q,K,R⟩:=p1;simp only at Q K R;subst Q R;have⟨⟨ts,s',z'⟩,u1,V,u3,u4⟩:=p2;simp only at V u3 u4;subst u3 u4;rw[G,b,ζb,ζb];simp only;rw[show((0:Int)==0)=true from rfl,br,br,Y,u1];exact⟨_,_,_,_,0,rfl,rfl,by rw[K,V],λ_=>⟨j,A,c,k,L,C,M,U▸G,B,J,by rw[K];simp;rw[<-iZ r',B]⟩⟩
    have G:oa t=some (.nil,16):=by unfold oa;rw[E];rfl
    rw[G,b,ζb,ζb];exact a 16 (by decide)
 rw[show(e==0)=false from by simpa using W,bz,bz,ζb,show(e==0)=false from by simpa using W,bz]
 exact a e W
end
theorem Z5{s:Zb}{c:Zg}(B:s.l.length<1073741824)(a:∀x∈s.l,x.l.length<1073741824):pZ s c=some (place (λd:Zg=>decide (c.l=d.l)) s.l):=(uI (p:=λx=>eY x c) (f:=λd:Zg=>decide (c.l=d.l)) (λx u=>by rw[Jq (a x u)];congr 1;exact decide_eq_decide.2 eq_comm) Zaa (λi=>rfl):)
section
variable{t:Z4}{A:cg 200 bC}
theorem HE.one{L:aX Rd}{l:Sl X'}{F:Rd->Rd->X'}{i k D B:Nat}{a b a' G:Rd}(h:HE L l F i k a b)(g:HE L l F D B a' G):a=a'/\b=G:=by
 have⟨c,u,w,z,C,I,J,O⟩:=h;have⟨g1,g2,g3,g4,g5,g6,g7,Q⟩:=g;have S:¬i<D:=λe=>by have:=Q i k e c a b u w z C;rw[I]at this;cases this
 have T:¬D<i:=λe=>by have:=O D B e g1 a' G g2 g3 g4 g5;rw[g6]at this;cases this
 have e:i=D:=Zaa;subst e;have U:¬k<B:=λe=>by have:=g7 k c e a b u w z C;rw[I]at this;cases this
 have W:¬B<k:=λe=>by have:=J B g1 e a' G g2 g3 g4 g5;rw[g6]at this;cases this
 have e:k=B:=Zaa;subst e;rw[u]at g2;rw[w]at g3;cases g2;cases g3;exact⟨rfl,rfl⟩
end
section
variable{t:Z4}{A:cg 200 bC}{L:aX Rd}{ts tb:Sl X'}
theorem T5(h:tb.l=ts.l):fI tb=fI ts:=by funext i;unfold fI;rw[h]
theorem Oi{a b:Zg}(D:a.l.length=b.l.length)(B:a.l.length<1073741824):∃r,ja a b=some r/\r.l=zipWith ji a.l b.l:=by
 have key:Wp (ja a b) λr=>r.l=zipWith ji a.l b.l:=by unfold ja ja.W1;refine dH a.l.length (λi(s:Zg×Int)=>s.2=(i:Int)/\s.1.l=(zipWith ji a.l b.l).take i) ⟨rfl,by simp[Sl.l]⟩ ?_ ?_;rintro i ⟨o,_⟩ c ⟨rfl,e⟩;simp only at e;have u:i<(zipWith ji a.l b.l).length:=(by simp_all);have⟨o2,k1,k2⟩:=mC (s:=o) (x:=ji a.l[i] (b.l[i]' Zaa)) Zac;unfold ja.bh;dsimp only;rw[fM c,br,bA c,ζb,bA (s:=b) (i:=i) Zaa,ζb];grind[ji,a_,bZ,take_add_one];rintro⟨o,_⟩ ⟨rfl,e⟩;simp only at e;unfold ja.bh;dsimp only;rw[fW,bz,a_];grind[a_]
 have⟨r,d,w⟩:=key;grind
structure Sat(t:Trace)(A:cg 200 bC)(L:List (List Int))(f:Nat->Bool)(o:Sl (Sl Int)):Prop where
 n:o.l.length<=5000
 i:∀y∈o.l,fG L f y.l
 a:∀d,fG L f d->∃y∈o.l,y.l=d
theorem true_eq(B:dz t A L)(G:L.length<=5000){s:Zb}(b:ins s=L)(D:ts.l.length=L.length):∃o,jN ts s=some o/\Sat t A L (fI ts) o:=by
 have z:s.l.length=L.length:=by rw[<-b,iZ]
 have w:∀(i:Nat)(a:i<s.l.length),L[i]?=some s.l[i].l:=λi a=>by have:=sP a;grind
 have key:Wp (jN ts s) λo=>Sat t A L (fI ts) o:=by unfold jN jN.W1;refine dH ts.l.length (λi(q:Zb×Int)=>q.2=(i:Int)/\q.1.l.length<=i/\(∀y∈q.1.l,fG L (fI ts) y.l)/\∀(j:Nat)(c:Rd),j<i->L[j]?=some c->fI ts j=true->∃y∈q.1.l,y.l=c) ⟨rfl,le_refl _,λy C=>by grind[Sl.l],λj c h=>absurd h Zaa⟩ ?_ ?_;rintro i ⟨o,_⟩ a ⟨rfl,e1,e2,e3⟩;simp only at e1 e2 e3;have u:i<s.l.length:=(by omega);unfold jN.bh;dsimp only;rw[fM a,br,DJ a,ζb];(cases I:fI ts i with|false=>rw[bz,a_];grind[bZ]|true=>have⟨o2,k1,k2⟩:=mC (s:=o) (x:=s.l[i]) Zaa;rw[br,bA u,ζb,k1,ζb,a_];have J:fG L (fI ts) s.l[i].l:=⟨mem_of_getElem? (w i u),by rw[pH B.nodup (w i u)];omega⟩;grind[bZ]);rintro⟨o,_⟩ ⟨rfl,e1,e2,e3⟩;simp only at e1 e2 e3;unfold jN.bh;dsimp only;rw[fW,bz,a_];refine(a_ _).2 ⟨Zac,e2,λd hd=>?_⟩;have a:=oT hd.1;have:=(ζe.1 a).1;exact e3 _ d Zaa a hd.2
 exact key
theorem L7{f:Nat->X'}{o:Zb}(B:dz t A L)(a:VT t)(D:Sat t A L f o)(c:Zg):∃b,sD o c=some b/\(b=true↔fG L f c.l):=by have C:=a.few;have:=D.n;unfold sD;rw[Z5 Zaa (λx w=>by rw[((B.mem _).1 (D.i x w).1).1.1];omega),ζb];refine⟨_,rfl,?_⟩;rw[uO,any_eq_true];constructor;rintro⟨y,u,h⟩;rw[of_decide_eq_true h];exact D.i y u;intro h;have⟨y,u,z⟩:=D.a _ h;grind
theorem BI{f:Nat->X'}(B:dz t A L){a b:Rd}(D:fG L f a)(G:fG L f b):a.length=b.length:=((B.mem _).1 D.1).1.1.trans ((B.mem _).1 G.1).1.1.symm
theorem YH(B:dz t A L)(c:VT t){f:Nat->X'}{o:Zb}(D:Sat t A L f o):∃b,fL o=some b/\(b=true↔CF L f ji):=by
 have W:=c.few;have X:=D.n;rw[<-Je QV (λx=>by grind[ji]) D.i D.a];have key:Wp (fL o) λb=>(b=true↔∀(i j:Nat)a b,j<i->o.l[i]?=some a->o.l[j]?=some b->fG L f (zipWith ji a.l b.l)):=by unfold fL fL.W1;refine dH o.l.length (λn(s:Int)=>s=(n:Int)/\zX L f ji o.l n 0) ⟨rfl,λi j x y d Q=>absurd Q Zaa⟩ ?_ ?_;rintro n _ z ⟨rfl,e1⟩;have C:=ζd z;unfold fL.bh;rw[fM z,br];unfold fL.W2;refine dH n (λm(s:Int)=>s=(m:Int)/\zX L f ji o.l n m) ⟨rfl,e1⟩ ?_ ?_;rintro m _ S ⟨rfl,e1⟩;have u:m<o.l.length:=(by omega);have G:=ζd u;have w:=D.i _ (getElem_mem z);have I:=D.i _ (getElem_mem u);have⟨r,r1,r2⟩:=Oi (a:=o.l[n]) (b:=o.l[m]) (BI B w I) (by rw[((B.mem _).1 w.1).1.1];omega);have⟨b,T,J⟩:=L7 B c D r;unfold fL.bF;rw[decide_eq_true Zaa,br,bA z,ζb,bA u,ζb,r1,ζb,T,ζb];rw[r2]at J;(cases b with|true=>rw[br,a_];exact⟨bZ m Zaa,(zX.step C G S).2 ⟨e1,J.1 rfl⟩⟩|false=>rw[bz,a_];grind[a_]);rintro _ ⟨rfl,e1⟩;grind[fL.bF,bz,a_,bZ,zX.next];rintro _ ⟨rfl,e1⟩;unfold fL.bh;rw[fW,bz,a_];exact(a_ _).2 ⟨λ_ i j a b d O U=>e1 i j a b d (.inl (ζe.1 O).1) O U,λ_=>rfl⟩
 exact key
theorem ab2(B:dz t A L)(c:VT t){f:Nat->X'}{o:Zb}(D:Sat t A L f o):∃b,dS o=some b/\(b=true↔CF L f jk):=by
 have W:=c.few;have X:=D.n;rw[<-Je R6 (λx=>by grind[jk]) D.i D.a];have key:Wp (dS o) λb=>(b=true↔∀(i j:Nat)a b,j<i->o.l[i]?=some a->o.l[j]?=some b->fG L f (zipWith jk a.l b.l)):=by unfold dS dS.W1;refine dH o.l.length (λn(s:Int)=>s=(n:Int)/\zX L f jk o.l n 0) ⟨rfl,λi j x y d Q=>absurd Q Zaa⟩ ?_ ?_;rintro n _ z ⟨rfl,e1⟩;have C:=ζd z;unfold dS.bh;rw[fM z,br];unfold dS.W2;refine dH n (λm(s:Int)=>s=(m:Int)/\zX L f jk o.l n m) ⟨rfl,e1⟩ ?_ ?_;rintro m _ S ⟨rfl,e1⟩;have u:m<o.l.length:=(by omega);have G:=ζd u;have w:=D.i _ (getElem_mem z);have I:=D.i _ (getElem_mem u);have⟨r,r1,r2⟩:=NF (a:=o.l[n]) (b:=o.l[m]) (BI B w I) (by rw[((B.mem _).1 w.1).1.1];omega);have⟨b,T,J⟩:=L7 B c D r;unfold dS.bF;rw[decide_eq_true Zaa,br,bA z,ζb,bA u,ζb,r1,ζb,T,ζb];rw[r2]at J;(cases b with|true=>rw[br,a_];exact⟨bZ m Zaa,(zX.step C G S).2 ⟨e1,J.1 rfl⟩⟩|false=>rw[bz,a_];grind[a_]);rintro _ ⟨rfl,e1⟩;grind[dS.bF,bz,a_,bZ,zX.next];rintro _ ⟨rfl,e1⟩;unfold dS.bh;rw[fW,bz,a_];exact(a_ _).2 ⟨λ_ i j a b d O U=>e1 i j a b d (.inl (ζe.1 O).1) O U,λ_=>rfl⟩
 exact key
theorem acA(B:dz t A L)(m:VT t){f:Nat->X'}{o:Zb}(J:Sat t A L f o)(p:CF L f ji){c:Zg}(v:Cons t A c.l):
 ∃w b,iI o c=some (w,b)/\(b=false->∀d,fG L f d->¬cK c.l d)/\(b=true->fG L f w.l/\cK c.l w.l/\∀d,fG L f d->cK c.l d->cK w.l d):=by
 have F:=m.few;have H:=J.n;have key:Wp (iI o c) λq=>(q.2=false->∀d,fG L f d->¬cK c.l d)/\(q.2=true->fG L f q.1.l/\cK c.l q.1.l/\∀d,fG L f d->cK c.l d->cK q.1.l d):=by
  unfold iI iI.W1;refine dH o.l.length (λn(s:Zg×X'×Int)=>s.2.2=(n:Int)/\(s.2.1=false->∀(k:Nat)y,k<n->o.l[k]?=some y->¬cK c.l y.l)/\(s.2.1=true->fG L f s.1.l/\cK c.l s.1.l/\∀(k:Nat)y,k<n->o.l[k]?=some y->cK c.l y.l->cK s.1.l y.l))
   ⟨rfl,λ_ k y h=>absurd h Zaa,λh=>by cases h⟩ ?_ ?_
  .rintro n ⟨w,l,_⟩ C ⟨rfl,e1,e2⟩;simp only at e1 e2;have Y:=ζd C;have I:=J.i _ (getElem_mem C);have⟨Z,O,Q⟩:=(adj (a:=c) (b:=o.l[n]) (by rw[v.1.1];omega)).eq;unfold iI.bh;dsimp only;rw[fM C,br,bA C,ζb,O,ζb]
   cases Z with
   |false=>have K:¬cK c.l (o.l[n]).l:=λh=>Zac;rw[bz,a_];grind[bZ]|true=>
    have D:=Q.1 rfl;rw[br];have step:∀u:Zg,fG L f u.l->cK c.l u.l->(∀(k:Nat)y,k<n->o.l[k]?=some y->cK c.l y.l->cK u.l y.l)->Wp (iI.J2 o c u (n:Int)) λs=>match s with
     |.n s=>s.2.2=((n+1:Nat):Int)/\(s.2.1=false->∀(k:Nat)y,k<n+1->o.l[k]?=some y->¬cK c.l y.l)/\(s.2.1=true->fG L f s.1.l/\cK c.l s.1.l/\∀(k:Nat)y,k<n+1->o.l[k]?=some y->cK c.l y.l->cK s.1.l y.l)|.x e=>False|.r e=>False:=λu i S T=>by
     have z:=BI B i I;have⟨r,r1,r2⟩:=Oi (a:=u) (b:=o.l[n]) z (by rw[((B.mem _).1 i.1).1.1];omega)
     have⟨U,x,W⟩:=(mB.of ji z).le_min z;have X:=p _ _ i I;rw[<-r2]at U x W X;unfold iI.J2;rw[bA C,ζb,r1,ζb,a_];refine⟨bZ n Zaa,λh=>(by cases h),λ_=>⟨X,W _ S D,λk y j G g=>?_⟩⟩
     by_cases e:k=n
     .grind
     exact U.trans (T k y Zaa G g)
    cases l with|true=>rw[br];have⟨a1,a2,a3⟩:=e2 rfl;exact(step w a1 a2 a3).mono λs E=>by all_goals grind|false=>rw[bz,ζb];exact(step _ I D λk y j G g=>absurd g (e1 rfl k y j G)).mono λs E=>by all_goals grind
  rintro⟨w,l,_⟩ ⟨rfl,e1,e2⟩;simp only at e1 e2;unfold iI.bh;dsimp only;rw[fW,bz,a_];refine(a_ _).2 ⟨λh d hd=>?_,λh=>⟨(e2 h).1,(e2 h).2.1,λd hd g=>?_⟩⟩;obtain⟨y,G,rfl⟩:=J.a d hd;grind[mem_iff_getElem?];obtain⟨y,G,rfl⟩:=J.a d hd;grind[mem_iff_getElem?]
 have⟨⟨w,b⟩,M,N,P⟩:=key
 grind
theorem aaQ(B:dz t A L)(c:VT t){f:Nat->X'}{o:Zb}(D:Sat t A L f o)(g:CF L f jk)(i:0<o.l.length):
 ∃w,eM.W1 o o.l[0] 0=some (w,0)/\fG L f w.l/\∀d,fG L f d->cK d w.l:=by
 have S:=c.few;have T:=D.n;have key:Wp (eM.W1 o o.l[0] 0) λq=>q.2=0/\fG L f q.1.l/\∀d,fG L f d->cK d q.1.l:=by unfold eM.W1;refine dH o.l.length (λn(s:Zg×Int)=>s.2=(n:Int)/\fG L f s.1.l/\∀(k:Nat)y,k<n->o.l[k]?=some y->cK y.l s.1.l) ⟨rfl,D.i _ (getElem_mem i),λk y h=>absurd h Zaa⟩ ?_ ?_;rintro n ⟨w,_⟩ z ⟨rfl,e1,e2⟩;simp only at e1 e2;have O:=ζd z;have C:=D.i _ (getElem_mem z);have u:=BI B e1 C;have⟨r,r1,r2⟩:=NF (a:=w) (b:=o.l[n]) u (by rw[((B.mem _).1 e1.1).1.1];omega);obtain⟨G,Q,-⟩:=(mB.of jk u).le_max u;have I:=g _ _ e1 C;rw[<-r2]at G Q I;unfold eM.bh;dsimp only;rw[fM z,br,bA z,ζb,r1,ζb,a_];refine⟨bZ n Zaa,I,λk y j J=>?_⟩;by_cases e:k=n;grind;exact(e2 k y Zaa J).trans G;rintro⟨w,_⟩ ⟨rfl,e1,e2⟩;simp only at e1 e2;unfold eM.bh;dsimp only;rw[fW,bz,a_];refine(a_ _).2 ⟨rfl,e1,λd hd=>?_⟩;obtain⟨y,J,rfl⟩:=D.a d hd;grind[mem_iff_getElem?]
 obtain⟨⟨w,e⟩,l,rfl,U,W⟩:=key
 grind
theorem RW(g:Small t)(hN:(bL t).length<1073741824){p:T'}(hs:p.Sm):
 ∃D G r1 r2,mR t p=some D/\ko t p=some G/\qH t p=some r1/\eM t p=some r2/\D.1.l=r1.1.l/\D.2=r1.2/\G.1.l=r2.1.l/\G.2=r2.2/\D.1.l.length<1073741824/\G.1.l.length<1073741824:=by
 have aa:=g.1;have⟨r,tb,s,ts,e,h1,h2,h3,k2⟩:=YR rfl g hN hs;have T:nR (len t.procs) (0:Int)=some (.row (replicate t.procs.l.length 0)):=by grind[nR]
 have F:oA t p=some (tb,e):=by grind[oA]
 by_cases H:e=0
 .subst H;have⟨hv,A,f,k,L,u,O,K,M,Y,U⟩:=k2 rfl;have ab:=f.few;have⟨D,G,g1,g2,g3,g4⟩:=Vz g f k u O F K M U;have⟨ad,ae,m1,N,P,R⟩:=T3 g f k u O F K M U;rw[g1]at m1;cases m1;rw[g2]at N;cases N;have⟨o,o1,Q⟩:=true_eq (ts:=ts) (s:=s) u O Y Zac
  rw[<-T5 h3]at Q;have⟨b1,b2,V⟩:=YH u f Q;have⟨c1,c2,c3⟩:=ab2 u f Q;have hz:Cons t A (replicate t.procs.l.length 0):=C2 f;have⟨ib,i1,i2⟩:=WQ g f k (c:=.row (replicate t.procs.l.length 0)) (by simp[Sl.l])
  have Z:ib=true:=i2.2 hz;subst Z;have z:j_ t p=some (o,0):=by simp_all[j_,br]
  have W:∀d,fG L (fI tb) d->cK (replicate t.procs.l.length 0) d:=λd hd=>by have hD:=(u.mem _).1 hd.1;refine⟨by rw[hD.1.1];simp,λj a b l hb=>?_⟩;rw[List.getElem?_replicate]at l;split at l;cases l;exact hD.1.pos j b hb;simp_all
  have J:∀d,fG L (fI tb) d->d.length<1073741824:=λd hd=>by rw[((u.mem _).1 hd.1).1.1];omega
  have hA:∃r1,qH t p=some r1/\D.1.l=r1.1.l/\D.2=r1.2/\D.1.l.length<1073741824:=by unfold qH wW;rw[T,ζb,z,ζb];simp only;rw[show((0:Int)==0)=true from rfl,br,i1,ζb,br,b2,ζb];cases b1 with|false=>have m:¬CF L (fI tb) ji:=λh=>(by have:=V.2 h;cases this);have n:D=(.nil,15):=(by have:=P.2 m;rcases g3 with⟨h,-⟩|⟨h,-⟩|⟨w,h,-⟩<;>rw[h]at this⊢ <;>first|rfl|omega);rw[bz,n];simp_all[Sl.l]|true=>have B:=V.1 rfl;have C:D.2≠15:=λh=>P.1 h B;have⟨w,b,q,v,x⟩:=acA u f Q B (c:=.row (replicate t.procs.l.length 0)) hz;rw[br,q,ζb];rcases g3 with⟨h,-⟩|⟨h,X⟩|⟨w',h,I,S⟩;rw[h]at C;grind;(cases b with|true=>grind|false=>rw[h];exact⟨_,rfl,rfl,rfl,by simp[Sl.l]⟩);cases b with|false=>exact absurd (W _ I) (v rfl _ I)|true=>have⟨t1,t2,t3⟩:=x rfl;rw[h];exact⟨_,rfl,cK.same (S _ t1) (t3 _ I (W _ I)),rfl,J _ I⟩
  have hB:∃r2,eM t p=some r2/\G.1.l=r2.1.l/\G.2=r2.2/\G.1.l.length<1073741824:=by
   unfold eM;rw[z,ζb];simp only;rw[show((0:Int)==0)=true from rfl,br,c2,ζb];cases c1 with|false=>have m:¬CF L (fI tb) jk:=λh=>(by have:=c3.2 h;cases this);have n:G=(.nil,15):=(by have:=R.2 m;rcases g4 with⟨h,-⟩|⟨h,-⟩|⟨w,h,-⟩<;>rw[h]at this⊢ <;>first|rfl|simp at this);rw[bz,n];simp_all[Sl.l]|true=>
    have B:=c3.1 rfl;have C:G.2≠15:=λh=>R.1 h B;rw[br];by_cases af:o.l.length=0
    .rw[show(len o==0)=true from Zac,br];have X:∀d,¬fG L (fI tb) d:=λd hd=>(by obtain⟨y,hy,-⟩:=Q.a d hd;grind);rcases g4 with⟨h,-⟩|⟨h,-⟩|⟨w',h,I,-⟩;all_goals simp_all[Sl.l]
    have E:0<o.l.length:=Zaa;have hex:=Q.i _ (getElem_mem E);have⟨w,q,v,x⟩:=aaQ u f Q B E;rw[show(len o==0)=false from beq_eq_false_iff_ne.2 Zac,bz,show idx o 0=some o.l[0]from bA (i:=0) E,ζb,q];rcases g4 with⟨h,-⟩|⟨h,X⟩|⟨w',h,I,S⟩;rw[h]at C;grind;grind;rw[h];exact⟨_,rfl,cK.same (x _ I) (S _ v),rfl,J _ I⟩
  grind
 have hb:(e==0)=false:=beq_eq_false_iff_ne.2 H;have ah:pn t p=some (none,e):=by grind[pn,bz]
 have z:j_ t p=some (.nil,e):=by grind[j_,bz]
 refine⟨(.nil,e),(.nil,e),(.nil,e),(.nil,e),?_,?_,?_,?_,rfl,rfl,rfl,rfl,by simp[Sl.l],by simp[Sl.l]⟩
 .grind[mR,bz]
 .grind[ko,bz]
 .unfold qH wW;rw[T,ζb,z,ζb]
  grind[bz]
 grind[eM,bz]
theorem UB(a:Small t)(B:(bL t).length<1073741824){p:T'}(D:p.Sm):qc t p=some true:=by
 have⟨w,u⟩:=acz a B D;unfold qc;rw[show zg=some true from rfl,ζb,br,u,ζb];cases w with|false=>rfl|true=>
 grind[RW,br,LS]
end
end Go.VE
namespace Go.VE
theorem B7{α:Type}[cw α]{x:α}:∀{l:aX α},x∈l->cw.wt x<=(l.map cw.wt).sum
 |y::l,h=>by simp only[map_cons,sum_cons];rcases mem_cons.1 h with rfl|h;omega;have:=B7 h;omega
theorem yT{α:Type}[cw α](h:∀x:α,1<=cw.wt x):∀(l:aX α),l.length<=(l.map cw.wt).sum
 |[]=>le_refl _|y::l=>by simp only[map_cons,sum_cons,length_cons];have:=yT h l;have:=h y;omega
theorem Dx{α:Type}[cw α](s:Sl α):cw.wt s=(s.l.map cw.wt).sum+1:=rfl
theorem Ec(p:Int):∀(es:aX WF)(j:Int),(jR p j es).length=es.length
 |[],_=>rfl|_::es,j=>by simp only[jR,length_cons,Ec p es]
theorem Lx:∀(ps:aX bS)(i:Int),(gO i ps).length<=(ps.map cw.wt).sum
 |[],_=>le_refl _|p::ps,i=>by simp only[gO,ζi,Ec,map_cons,sum_cons];have a:=Lx ps (i+1);have u:=yT (α:=WF) (λx=>le_add_left ..) p.events.l;have w:cw.wt p=cw.wt p.name+cw.wt p.vars+cw.wt p.events+1:=rfl;have z:=Dx p.events;omega
theorem Vp{t:Z4}(h:cw.wt t<=1048576):Small t/\(bL t).length<1073741824:=by have b:cw.wt t=cw.wt t.procs+1:=rfl;have c:=Dx t.procs;have B:=yT (α:=bS) (λx=>le_add_left ..) t.procs.l;have C:=Lx t.procs.l 0;refine⟨⟨Zaa,λp u=>?_⟩,by show(gO 0 t.procs.l).length<_;omega⟩;have D:=B7 u;have G:cw.wt p=cw.wt p.name+cw.wt p.vars+cw.wt p.events+1:=rfl;have I:=Dx p.events;have J:=Dx p.vars;have L:=yT (α:=WF) (λx=>le_add_left ..) p.events.l;have O:=yT (α:=Var) (λx=>le_add_left ..) p.vars.l;have w:cw.wt p.name=p.name.size+1:=rfl;refine⟨Zaa,Zaa,Zaa,λv a=>?_,λe z=>?_⟩;have k1:=B7 a;have k2:cw.wt v=cw.wt v.name+cw.wt v.init_+1:=rfl;have k3:cw.wt v.name=v.name.size+1:=rfl;omega;have k1:=B7 z;have k2:cw.wt e=cw.wt e.kind+cw.wt e.peer+cw.wt e.message+cw.wt e.time+cw.wt e.assign+1:=rfl;have k3:=Dx e.assign;have k4:=yT (α:=Assign) (λx=>le_add_left ..) e.assign.l;omega
theorem ab7(p:T'):cw.wt p<=1048576->p.Sm:=by induction p using Pred.ind with|h p w=>intro h;have a:∃m,cw.wt p=m+Pred.WN p.l+1:=(by cases p;exact⟨_,rfl⟩);have⟨m,a⟩:=a;have b:=Pred.wtE p.l;have z:=Dx p.l;have B:=yT (α:=T') (λx=>by cases x;exact le_add_left ..) p.l.l;unfold Pred.Sm;rw[p.mb,ζh,all_eq_true];refine⟨decide_eq_true Zaa,λq u=>w q u ?_⟩;have:=B7 u;omega
end Go.VE
namespace Go.Proofs.YtbglidfgdmhlnaaGreatDoor
open Go.ChangeShapes Go.WideShapes Go.ChangeAt Go.RowKit Go.VE
theorem own:ownKnob Tryz.prog.godebug=none:=by kernel_rfl
theorem kids:Kids Tryz.prog (·<Tryz.prog.types.size):=kids_rows Zag Zag
theorem full:∀t e,t<Tryz.prog.types.size->Tryz.prog.underlying t=some (.slice e)->0<Tryz.prog.cellsOf e:=slices_full_of Tryz.prog Zag
theorem Aq{H:Type}:∀l:aX (DataW H),Rows.uptoBulkAll l=(l.map Rows.uptoBulk).sum
 |[]=>by simp[Rows.uptoBulkAll]|d::r=>by simp[Rows.uptoBulkAll,Aq r]
theorem Rp{H:Type}:vc (H:=H) Rows.uptoBulk where
 lit l:=by cases l<;>simp[Rows.uptoBulk]
 str s:=by simp[Rows.uptoBulk]
 nil:=by simp[Rows.uptoBulk]
 slice es u:=by rw[Rows.uptoBulk,Aq,Aq];omega
 agg ps:=by rw[Rows.uptoBulk,Aq];exact le_refl _
theorem O5:Tryz.prog.globalNamed "antecede/predtype.parts" =some 0:=by kernel_rfl
theorem Uq:(Tryz.prog.globals[0]?).map (·.type)=some 196:=by kernel_rfl
theorem table{W:World}(h:laidMetH Tryz.prog Rows.linearEndsUptoRow.laid W):Lib.TabIs Tryz.prog W "antecede/predtype.parts" .i64 Gv:=Lib.tabIs_of_head (rest:=[]) O5 Uq Tryz.underlying196 Tryz.underlying3 Zag Zag h
theorem ab9{W:World}(h:laidMetH Tryz.prog Rows.linearEndsUptoRow.laid W):wI (snap W):=λg cs a=>by
 change(if Nat.beq g 0 then some (Gv.map (V.int .i64))else none)=some cs at a;split at a;next u=>cases a;have:g=0:=Nat.eq_of_beq_eq_true u;subst this;exact Uw (λi b=>(table h).cell O5 i b) (by decide)
 cases a
set_option maxRecDepth 100000 in
theorem Nh(H:Type)(enc:W'×V'->H)(W:World)(base:Nat)(args:Array V')(ds a:aX (DataW H))(before:aX MemPlace)
 (B:∀(j:Nat)t v,Tryz.f3.params[j]?=some t->args[j]?=some v->Value.okWide Tryz.prog W .any base t v)
 (D:DataW.Whole enc Tryz.prog Tryz.f3.params.toList Rows.linearEndsSpec.vars false W args.toList ds a before)(b:Rows.uptoSmall H (ds++a)=true)(U:laidMetH Tryz.prog Rows.linearEndsUptoRow.laid W):
 Calls Tryz.prog 3 args W λe G=>∃v,e=.returned v/\Rows.linearEndsSpec.post enc Tryz.prog Tryz.f3 false true false false W args v G:=by
 have u:=D;obtain⟨p,q,z,c,rfl,Q,S⟩:=D;have I:DataW.TrodAll enc Tryz.prog W 0 (λ_=>true) true Tryz.f3.params.toList args.toList ds p:=z
 rw[Tryz.params3]at I B;obtain⟨J,T,X,Y,E,F,C,rfl,rfl,d,Z⟩:=trodAll_cons I;obtain⟨L,K,g,M,p1,N,rfl,rfl,rfl,h,r1⟩:=trodAll_cons Z;obtain⟨rfl,rfl,rfl⟩:=trodAll_nil r1;obtain rfl:args=#[J,L]:=by cases args;simp_all
 obtain⟨rfl,rfl⟩:=trodVars_none c;have⟨a0,i,k0,k⟩:=Reads.V7 (t:=24) (α:=VE.Trace) B 0 rfl rfl d;have⟨a1,l,k1,m⟩:=Reads.V7 (t:=27) (α:=VE.Pred) B 1 rfl rfl h;have R:cw.wt a0+cw.wt a1<=1048576:=by have c0:=k Rows.uptoBulk Rp;have c1:=m Rows.uptoBulk Rp;have O:Rows.uptoBulkAll ([X,g]++[])<=1048576:=of_decide_eq_true b;rw[Aq]at O;simp only[List.append_nil,map_cons,List.map_nil,sum_cons,List.sum_nil]at O;omega
 have⟨n,o⟩:=Vp (t:=a0) Zaa
 have s:gZ cL 3 [VE.enc a0,VE.enc a1]=some [.bool true]:=by have x:(qc a0 a1).bind (λr:X'=>some [V.bool r])=some [.bool true]:=(by rw[UB n o (ab7 a1 Zaa)];rfl);exact(BR a0 a1).F.h () _ x
 have:=Pq (P:=Tryz.prog) Ke DV calls (f:=3) (xs:=[VE.enc a0,VE.enc a1]) (by simp[V.cG,V.good,k_]) s (w:=W) (args:=#[J,L]) (ab9 U) (cU.cons i (cU.cons l .nil))
 refine this.mono λe G⟨y,A⟩=>?_
 subst y;exact⟨_,rfl,Rz kids full (by rw[Tryz.params3];decide) rfl rfl rfl Tryz.underlying4 u A⟩
noncomputable def Dk(os:Os):World:=
 {World.holding Tryz.prog os ⟨#[],#[],[]⟩with heap:=(World.holding Tryz.prog os ⟨#[],#[],[]⟩).heap.modify 0 fun
  |.cells _ t frozen=>.cells (Gv.map (Value.int .i64)).toArray t frozen|o=>o}
theorem Tu(os:Os):laidMet Tryz.prog Rows.linearEndsUptoRow.laid ((Dk os).forCall (λ_ _=>0) ⟨#[],#[.agg #[.slice none 0 0],.agg #[.int .i64 0,.int .i64 0,.int .i64 0,.int .i64 0,.string ByteArray.empty,.slice none 0 0]],[]⟩).memory:=laidMet_of_run' 8 Zag Zag
theorem Vc(os:Os){H:Type}(enc:W'×V'->H):∃places,DataW.whole enc Tryz.prog ((Dk os).forCall (λ_ _=>0) ⟨#[],#[.agg #[.slice none 0 0],.agg #[.int .i64 0,.int .i64 0,.int .i64 0,.int .i64 0,.string ByteArray.empty,.slice none 0 0]],[]⟩).memory Tryz.f3.params.toList Rows.linearEndsSpec.vars false (#[.agg #[.slice none 0 0],.agg #[.int .i64 0,.int .i64 0,.int .i64 0,.int .i64 0,.string ByteArray.empty,.slice none 0 0]]:Array V').toList 8=some ([.agg [.nil],.agg [.lit (.int .i64 0),.lit (.int .i64 0),.lit (.int .i64 0),.lit (.int .i64 0),.lit (.string []),.nil]],[],places):=⟨[],by kernel_rfl⟩
set_option maxRecDepth 100000 in
theorem Ry(os:Os)(B:os.Started)(H:Type)(enc:W'×V'->H)(F:Stop.Interp):
 ReturnsInHanded {} Tryz.checked os 3 .any ((Rows.OpenSpec.upto Rows.linearEndsSpec).preRow enc Tryz.prog Tryz.f3 Rows.linearEndsUptoRow.domain false Rows.linearEndsUptoRow.laid) (((Rows.OpenSpec.upto Rows.linearEndsSpec).at F).post enc Tryz.prog Tryz.f3 false true false false):=by
 have⟨places,z⟩:=Vc os enc;refine returnsInHanded_of_row (C:=Tryz.checked) (s:=Rows.OpenSpec.upto Rows.linearEndsSpec) own B Zag Tryz.func3
  (witness_row_at (enc:=enc) (C:=Tryz.checked) false (Dk os) #[.agg #[.slice none 0 0],.agg #[.int .i64 0,.int .i64 0,.int .i64 0,.int .i64 0,.string ByteArray.empty,.slice none 0 0]] rfl Zag Zag Zag
   (OpenSpec.preRow_of_cond 8 z Zag (λk a=>by cases a;kernel_rfl) Zag (Tu os))) ?_
 intro W base args ds b before w D _ u _ G _ _;exact Nh H enc W base args ds b before w D (u _ rfl) G
theorem Yd:Rows.LinearEndsUptoSaid:=
 OpenClaim.holds_of_cond 3 Tryz.f3 rfl rfl rfl rfl rfl rfl rfl ⟨rfl,rfl,rfl,rfl,rfl⟩ rfl rfl rfl rfl rfl Zag Tryz.func3 Zag
  (of_decide_eq_true Zag) (by unfold Func.isWrapper;first|(rw[if_pos (by decide+kernel)];kernel_rfl)|(rw[if_neg (by decide+kernel)];exact⟨rfl,rfl⟩))
  (λos u H enc _ F=>by rw[OpenClaim.pre_eq_preRow];exact Ry os u H enc F)
theorem Vf(f:Y')(fn:Func)(D:Tryz.pinned.checked.prog.funcNamed "antecede/antecedelaw32.LinearEnds" =some f)(B:Tryz.pinned.checked.prog.funcs[f]?=some fn):
 false=Tryz.pinned.checked.prog.looks []/\∀(j:Nat)t,fn.params[j]?=some t->Tryz.pinned.checked.prog.wantsStandIn t=false:=by
 obtain rfl:f=3:=Option.some.inj ((show Tryz.prog.funcNamed "antecede/antecedelaw32.LinearEnds" =some 3 by kernel_rfl).symm.trans D)|>.symm
 obtain rfl:fn=Tryz.f3:=(Option.some.inj (Tryz.func3.symm.trans B)).symm;refine⟨by kernel_rfl,λj t z=>?_⟩
 rw[Tryz.params3]at z;have C:t∈[24,27]:=by simpa using Array.mem_of_getElem? z
 have w:([24,27].all λu=> !Tryz.prog.wantsStandIn u)=true:=by kernel_rfl
 exact(show Tryz.prog.wantsStandIn t=false by simpa using all_eq_true.1 w t C)
theorem linearEndsProved:Rows.LinearEndsUptoCardSaid:=Claim7.holds_tied_plain_at .later [] _ _ _ _ Yd (λ_ h=>by cases h) Zag (λ_ h=>by cases h) linearEndsUpto_row_tie rfl ⟨rfl,rfl⟩ Zag rfl Vf Zag
#print axioms linearEndsProved
end Go.Proofs.YtbglidfgdmhlnaaGreatDoor
