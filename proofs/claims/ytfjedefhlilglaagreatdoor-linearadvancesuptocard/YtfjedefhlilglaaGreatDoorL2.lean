/-
 LinearAdvances says true for all arguments that together are of bulk at most 1048576, and they read behind the call as they read before: for every such argument, without a condition.
-/
import Derived.Test.YtfjedefhlilglaaGreatDoorRows
import Derived.Test.YtfjedefhlilglaaGreatDoorCards
import Derived.Test.YtfjedefhlilglaaGreatDoorTie
import Derived.Deep.DeepHandedRow
import Derived.Test.YtfjedefhlilglaaGreatDoorK1
import Derived.Test.YtfjedefhlilglaaGreatDoorL1
set_option linter.all false
open List(all_cons all_eq_true any_cons getElem?_eq_none getElem?_set getElem_mem length_cons length_set length_take map_cons mem_append mem_cons mem_cons_of_mem mem_map mem_of_getElem? mem_range not_mem_nil range replicate sum_append sum_cons sum_nil take_add_one take_length zipWith)
open Bool(false_eq_true not_not)
open Classical(byContradiction)
open Nat(le_add_left le_refl zero_le)
open ByteArray(toList)
open Int(mul_comm zero_sub)
open Go.IntKind(wrap)
namespace Go.VE
theorem Zag{p:Prop}(h:p:=by kernel_rfl):p:=h
theorem yR{α:Type}{s:Sl α}(h:0<s.l.length):Sl.isNil s=some false:=by cases s with|nil=>exact absurd h (Nat.lt_irrefl 0)|emp=>exact absurd h (Nat.lt_irrefl 0)|row l=>rfl|part l=>rfl
theorem Wx(x y:Int):pE (Sl.row [x,y])=some (tg x y):=by
 have h:Wp (dG (Sl.row [x,y])) λm=>m=if y<x then y else x:=by unfold dG;rw[show decide (len (Sl.row [x,y])<1)=false from rfl,bE];unfold dG.J1;rw[show idx (Sl.row [x,y]) 0=some x from rfl,ζb];unfold dG.W2;refine fD 1 (λi(q:Int×Int)=>(i=0/\q=(x,1))\/(i=1/\q=(if y<x then y else x,2))) (.inl ⟨rfl,rfl⟩) ?_ ?_;rintro i ⟨m,k⟩ hi (⟨rfl,e⟩|⟨rfl,e⟩);cases e;unfold dG.bT;dsimp only;rw[show decide ((1:Int)<len (Sl.row [x,y]))=true from rfl,bH,show idx (Sl.row [x,y]) 1=some y from rfl,ζb,bg];exact .inr ⟨rfl,rfl⟩;omega;rintro⟨m,k⟩ (⟨h,_⟩|⟨_,e⟩);omega;cases e;unfold dG.bT;dsimp only;rw[show decide ((2:Int)<len (Sl.row [x,y]))=false from rfl,bE,bg];exact(bg _).2 rfl
 unfold pE;have⟨m,a,u⟩:=h;rw[a,u];unfold tg;grind
theorem WX{a b:Zg}(D:a.l.length=b.l.length)(g:0<a.l.length)(U:a.l.length<=8):Wp (gX (Sl.row [a,b]) (λz=>pE z)) λo=>o.l=zipWith tg a.l b.l:=by
 have G:=qz.of tg D;unfold gX;have⟨d,l,u⟩:=tA (c:=a) Zaa g;obtain⟨v,I,L⟩:∃v,fZ (Sl.row [a,b]) (some 1) none=some v/\v.l=[b]:=Da (Sl.row [a,b]) 1 (Nat.le_succ 1);rw[show idx (Sl.row [a,b]) 0=some a from rfl,ζb,l,ζb,I,ζb];unfold gX.W1;have f:len v=1:=Zac;have hi:idx v 0=some b:=by unfold idx;grind
 refine fD 1 (λi(q:Zg×Int)=>(i=0/\q=(d,0))\/(i=1/\q.1.l=zipWith tg a.l b.l/\q.2=1)) (.inl ⟨rfl,rfl⟩) ?_ ?_;rintro i ⟨o,k⟩ J (⟨rfl,e⟩|⟨rfl,-,-⟩);cases e;unfold gX.br;dsimp only;rw[f,show decide ((0:Int)<1)=true from rfl,bH,hi,ζb];unfold gX.W2;refine fD d.l.length (λn(q:Zg×Int)=>q.2=(n:Int)/\q.1.l.length=a.l.length/\∀j:Nat,q.1.l[j]?=if j<n then(zipWith tg a.l b.l)[j]?else a.l[j]?) ⟨rfl,by rw[u],λj=>Zac⟩ ?_ ?_;rintro n ⟨o,_⟩ O ⟨rfl,g1,g2⟩;simp only at g1 g2;have w:n<a.l.length:=by grind
 have B:n<b.l.length:=Zaa;unfold gX.bT;dsimp only;rw[show decide ((n:Int)<len d)=true from Zac,bH,wB Zaa,ζb];unfold Sl.get;rw[g2 n,if_neg Zaa,ζd w,ζb,bJ B,ζb,Wx,ζb,ζb];have⟨o2,k1,k2⟩:=put_eq (s:=o) (p:=n) (x:=tg a.l[n] b.l[n]) Zaa;rw[k1,ζb,bg];refine⟨cM n Zaa,by show o2.l.length=_;simp_all,λj=>?_⟩;show o2.l[j]?=_;grind;rintro⟨o,_⟩ ⟨rfl,g1,g2⟩;simp only at g1 g2;unfold gX.bT;dsimp only;rw[jm,bE,bg];refine(bg _).2 (.inr ⟨rfl,List.ext_getElem? λj=>?_,rfl⟩);rw[g2 j];by_cases C:j<d.l.length;rw[if_pos C];rw[if_neg C,getElem?_eq_none (by rw[<-u];omega),getElem?_eq_none (by rw[G.1,<-u];omega)];omega;rintro⟨o,k⟩ (⟨h,_⟩|⟨_,e,e2⟩);cases h;simp only at e e2;subst e2;unfold gX.br;dsimp only;rw[f,show decide ((1:Int)<1)=false from rfl,bE,bg];exact(bg _).2 e
theorem eC.same{a b:ST}(h:eC a b)(k:eC b a):a=b:=by refine List.ext_getElem h.1 λj c u=>?_;have:=h.2 j _ _ (ζd c) (ζd u);have:=k.2 j _ _ (ζd u) (ζd c);omega
def zG(L:aZ ST)(f:Nat->X')(d:ST):Prop:=d∈L/\f (L.idxOf d)=true
section
variable{t:Z4}{A:cq 200 bD}{L:aZ ST}{tb:Sl X'}{x:b_}
def Low(t:Z4)(A:cq 200 bD)(L:aZ ST)(f:Nat->X')(c:ST)(o:Zg):Prop:=(o=.nil/\∀d,zG L f d->¬eC c d)\/(Cons t A o.l/\eC c o.l/\(∀d,zG L f d->eC c d->eC o.l d)/\(∃d,zG L f d/\eC c d)/\∀e,(∀d,zG L f d->eC c d->eC e d)->eC e o.l)
theorem z8{c:ST}{p:Nat}(h:p<c.length):eC c (bump c p 1):=⟨u5.symm,λq x y w u=>by
 rw[tc (ζd h)]at u
 grind⟩
theorem Hx(hS:Small t)(r:VT t)(hM:fN t (bR t) A)(B:fC t A L)(h5:L.length<=5000)(E:ins x.l=L)(av:x.truth=tb)(hx:EB L (nF x.index))(aH:tb.l.length=L.length):
 Wp (dH x) λout=>out.l.length=L.length/\∀(i:Nat)c,L[i]?=some c->∃o,out.l[i]?=some o/\Low t A L (uL tb) c o:=by
 have R:=r.few;have aG:=r.ok.one;have aw:x.l.l.length=L.length:=by rw[<-E,lE]
 unfold dH;have ax:len x.l=(L.length:Int):=by simp only[len,aw]
 rw[ax,show oL (L.length:Int) (Sl.nil:Zg)=some (.row (replicate L.length Sl.nil))from by unfold oL;rw[if_pos ⟨Zaa,Zaa⟩];rfl,ζb,eB _ Zaa Zaa]
 unfold dH.W1;refine fD L.length (λm(q:Zb×Int)=>q.2=(L.length:Int)-1-(m:Int)/\q.1.l.length=L.length/\(∀(j:Nat)c,L.length-m<=j->L[j]?=some c->∃o,q.1.l[j]?=some o/\Low t A L (uL tb) c o)/\∀j:Nat,j<L.length-m->q.1.l[j]?=some .nil)
  ⟨Zab,by simp[Sl.l],λj c Q b=>absurd (ζe.1 b).1 Zaa,λj Q=>by
   show(replicate L.length (Sl.nil:Zg))[j]?=_;rw[List.getElem?_replicate,if_pos Zaa]⟩ ?_ ?_
 .rintro m ⟨out,_⟩ hm ⟨rfl,g1,g2,g3⟩;simp only at g1 g2 g3;obtain⟨i,hi⟩:∃i:Nat,i+m+1=L.length:=⟨L.length-1-m,Zaa⟩
  have W:i<L.length:=Zaa
  have J:=ζd W;have F:=(B.mem _).1 (getElem_mem W);unfold dH.br;dsimp only;rw[show(L.length:Int)-1-(m:Int)=(i:Int)from Zaa,decide_eq_true (show(i:Int)>=0 by omega),bH,av,Ml Zaa,ζb,show(i:Int)-1=(L.length:Int)-1-((m+1:Nat):Int)from Zaa]
  cases H:uL tb i with
  |true=>
   have V:i<x.l.l.length:=Zaa
   have X:x.l.l[i].l=L[i]:=by have:=xN V;rw[E,J]at this;exact(Option.some.inj this).symm
   have⟨o2,k1,k2⟩:=put_eq (s:=out) (p:=i) (x:=x.l.l[i]) Zaa
   rw[bH,bJ V,ζb,wB Zaa,ζb,k1,ζb,bg]
   refine⟨eB _ Zaa Zaa,by show o2.l.length=_;rw[k2,length_set];exact g1,λj c Q b=>?_,λj Q=>?_⟩
   .show ∃o,o2.l[j]?=some o/\_;rw[k2,getElem?_set]
    by_cases e:i=j
    .subst e;rw[J]at b;cases b;exact⟨_,by rw[if_pos rfl,if_pos Zaa],.inr ⟨by rw[X];exact F,by rw[X];exact eC.refl _,λd _ hd=>by rw[X];exact hd,⟨_,⟨getElem_mem W,by rw[tM B.nodup J];exact H⟩,eC.refl _⟩,λe g=>by rw[X];exact g _ ⟨getElem_mem W,by rw[tM B.nodup J];exact H⟩ (eC.refl _)⟩⟩
    rw[if_neg e];exact g2 j c Zaa b
   show o2.l[j]?=_;rw[k2,getElem?_set,if_neg Zaa];exact g3 j Zaa
  |false=>
   rw[bE,dX];refine(VZ hS r B E hx J).mono λl ai=>?_
   have aj:l.l.length=(wS L L[i]).length:=by rw[ai,List.length_map]
   have aI:l.l.length<=8:=by rw[aj];have:=List.length_filterMap_le (λp=>if bump L[i] p 1∈L then some (L.idxOf (bump L[i] p 1))else none) (range L[i].length);rw[List.length_range]at this;exact Nat.le_trans this (by rw[F.1.1];exact R)
   unfold dH.W2;refine fD l.l.length (λn(q:Zb×Int)=>q.2=(n:Int)/\q.1.l.length=L.length/\(∀j:Nat,j≠i->q.1.l[j]?=out.l[j]?)/\∃a,q.1.l[i]?=some a/\
    ((a=.nil/\∀(m' k:Nat)z,m'<n->(wS L L[i])[m']?=some k->L[k]?=some z->∀d,zG L (uL tb) d->¬eC z d)\/
     (Cons t A a.l/\eC L[i] a.l/\(∀(m' k:Nat)z,m'<n->(wS L L[i])[m']?=some k->L[k]?=some z->∀d,zG L (uL tb) d->eC z d->eC a.l d)/\(∃d,zG L (uL tb) d/\eC L[i] d)/\∀e,(∀d,zG L (uL tb) d->eC L[i] d->eC e d)->eC e a.l)))
    ⟨rfl,g1,λ_ _=>rfl,.nil,g3 i Zaa,.inl ⟨rfl,λm' k z h=>absurd h Zaa⟩⟩ ?_ ?_
   .rintro n ⟨o,_⟩ hn ⟨rfl,e1,e2,a,e3,e4⟩;simp only at e1 e2 e3;have ak:n<(wS L L[i]).length:=by omega
    have Y:=ζd ak;have K:=getElem_mem ak;generalize hk:(wS L L[i])[n]=k at Y K;have⟨p,hp,Z,ay⟩:=CL.1 K;have v:L[k]?=some (bump L[i] p 1):=by rw[ay];exact tD Z
    have aJ:i<k:=(Jj B J K).1;have aK:=(ζe.1 v).1;have⟨ok,aA,al⟩:=g2 k _ Zaa v
    have am:idx l (n:Int)=some (k:Int):=by rw[jd,ai,List.getElem?_map,Y];rfl
    have S:o.l[k]?=some ok:=by rw[e2 k Zaa];exact aA
    unfold dH.bT;dsimp only;rw[iL hn,bH,am,ζb,wB Zaa,ζb]
    unfold Sl.get;rw[S,ζb];rcases al with⟨rfl,an⟩|⟨y,u,aB,⟨de,aC,aD⟩,ao⟩
    .rw[show Sl.isNil (Sl.nil:Zg)=some true from rfl,ζb,bH,bg];refine⟨cM n Zaa,e1,e2,a,e3,?_⟩
     have O:∀(m' I:Nat)z,m'<n+1->¬m'<n->(wS L L[i])[m']?=some I->L[I]?=some z->z=bump L[i] p 1:=λm' I z f G C D=>by obtain rfl:m'=n:=Zaa;rw[Y]at C;cases C;rw[v]at D;exact(Option.some.inj D).symm
     rcases e4 with⟨T,U⟩|⟨T,U,b⟩
     .refine .inl ⟨T,λm' I z f C D d hd=>?_⟩
      by_cases G:m'<n
      .exact U m' I z G C D d hd
      rw[O m' I z f G C D];exact an d hd
     refine .inr ⟨T,U,λm' I z f C D d hd u=>?_,b.2⟩
     by_cases G:m'<n
     .exact b.1 m' I z G C D d hd u
     rw[O m' I z f G C D]at u;exact absurd u (an d hd)
    have ap:0<ok.l.length:=by rw[y.1.1];omega
    have aq:=(z8 hp).trans u;have O:∀(m' I:Nat)z,m'<n+1->¬m'<n->(wS L L[i])[m']?=some I->L[I]?=some z->∀d,zG L (uL tb) d->eC z d->eC ok.l d:=λm' I z f G C D d hd u=>by obtain rfl:m'=n:=Zaa;rw[Y]at C;cases C;rw[v]at D;cases D;exact aB d hd u
    rw[yR ap,ζb,bE,wB Zaa,ζb,e3,ζb]
    rcases e4 with⟨rfl,U⟩|⟨T,U,b⟩
    .have⟨o2,k1,k2⟩:=put_eq (s:=o) (p:=i) (x:=ok) Zaa
     rw[show Sl.isNil (Sl.nil:Zg)=some true from rfl,ζb,bH,ζb,S,ζb,ζb,k1,ζb,bg];refine⟨cM n Zaa,by show o2.l.length=_;rw[k2,length_set];exact e1,λj Q=>by show o2.l[j]?=_;rw[k2,getElem?_set,if_neg (Ne.symm Q)];exact e2 j Q,ok,by show o2.l[i]?=_;rw[k2,List.getElem?_set_self Zaa],.inr ⟨y,aq,λm' I z f C D d hd u=>?_,⟨de,aC,(z8 hp).trans aD⟩,λe g=>ao e λd hd u=>g d hd ((z8 hp).trans u)⟩⟩
     by_cases G:m'<n
     .exact absurd u (U m' I z G C D d hd)
     exact O m' I z f G C D d hd u
    have M:a.l.length=ok.l.length:=T.1.1.trans y.1.1.symm;have N:=qz.of tg M;have⟨w1,w2,P⟩:=N.le_min M;rw[yR (show 0<a.l.length by omega),ζb,bE,ζb,e3,ζb,ζb,S,ζb,dX]
    refine(WX M Zaa (by rw[T.1.1];exact R)).mono λw hw=>?_
    have⟨o2,k1,k2⟩:=put_eq (s:=o) (p:=i) (x:=w) Zaa
    rw[ζb,k1,ζb,bg];rw[<-hw]at N w1 w2 P;refine⟨cM n Zaa,by show o2.l.length=_;rw[k2,length_set];exact e1,λj Q=>by show o2.l[j]?=_;rw[k2,getElem?_set,if_neg (Ne.symm Q)];exact e2 j Q,w,by show o2.l[i]?=_;rw[k2,List.getElem?_set_self Zaa],.inr ⟨HC T y N,P _ U aq,λm' I z f C D d hd u=>?_,b.2.1,λe g=>P _ (b.2.2 e g) (ao e λd hd u=>g d hd ((z8 hp).trans u))⟩⟩
    by_cases G:m'<n
    .exact w1.trans (b.1 m' I z G C D d hd u)
    exact w2.trans (O m' I z f G C D d hd u)
   rintro⟨o,_⟩ ⟨rfl,e1,e2,a,e3,e4⟩;simp only at e1 e2 e3;unfold dH.bT;dsimp only;rw[jm,bE,bg];have ar:∀d,zG L (uL tb) d->eC L[i] d->∃(m' k:Nat)(z:ST),m'<l.l.length/\(wS L L[i])[m']?=some k/\L[k]?=some z/\eC z d:=λd hd u=>by have hD:=(B.mem _).1 hd.1;have aE:¬eC d L[i]:=λh=>(by have:d=L[i]:=eC.same h u;have G:=hd.2;rw[this,tM B.nodup J,H]at G;cases G);have⟨p,hp,Z,aF⟩:=FP r hM B F u d.sum.toNat hD (eC.refl d) Zaa aE;have hm:L.idxOf (bump L[i] p 1)∈wS L L[i]:=CL.2 ⟨p,hp,Z,rfl⟩;have⟨m',au⟩:=List.getElem?_of_mem hm;exact⟨m',_,_,by rw[aj];exact(ζe.1 au).1,au,tD Z,aF⟩
   refine(bg _).2 ⟨(eB ((i:Int)-1) Zaa Zaa).trans Zaa,e1,λj c Q b=>?_,λj Q=>by show o.l[j]?=_;rw[e2 j Zaa];exact g3 j Zaa⟩
   show∃o',o.l[j]?=some o'/\_
   by_cases e:j=i
   .subst e;rw[J]at b;cases b;refine⟨a,e3,?_⟩;rcases e4 with⟨T,U⟩|⟨T,U,b⟩
    .exact .inl ⟨T,λd hd u=>by
      have⟨m',k,z,f,G,C,D⟩:=ar d hd u;exact U m' k z f G C d hd D⟩
    exact .inr ⟨T,U,λd hd u=>by
     have⟨m',k,z,f,G,C,D⟩:=ar d hd u;exact b.1 m' k z f G C d hd D,b.2⟩
   rw[e2 j e];exact g2 j c Zaa b
 rintro⟨out,_⟩ ⟨rfl,g1,g2,-⟩;unfold dH.br;dsimp only;rw[decide_eq_false Zaa,bE,bg]
 exact(bg _).2 ⟨g1,λi c b=>g2 i c Zaa b⟩
end
end Go.VE
namespace Go.VE
section
variable{α σ:Type}
def wO(p:α->σ->a_ (X'×σ)):aZ α->σ->a_ (X'×σ)
 |[],x=>some (false,x)|a::r,x=>(p a x).bind λy=>if y.1 then some (true,y.2)else wO p r y.2
theorem GA{s:Sl α}{p:α->σ->a_ (X'×σ)}{x:σ}(B:s.l.length<1073741824):AS s p x=wO p s.l x:=by
 have key:∀(c:aZ α)(j:Nat)(x:σ),s.l.drop j=c->((bS (Eg s p) ((j:Int),x)).bind (Fw.elim (λe=>some ((-1:Int),e)) λe=>some e)).bind (λy:Int×σ=>some (decide (y.1>=0),y.2))=wO p c x:=by intro c;induction c with|nil=>intro j x hd;have d:decide ((j:Int)<len s)=false:=(by have:s.l.length<=j:=(by simpa using hd);simp[len];omega);rw[eD];simp only[Eg,d,bl,false_eq_true,if_false,ζb,Fw.elim,wO];rfl|cons a c u=>intro j x hd;have d:j<s.l.length:=(by apply byContradiction;intro C;rw[List.drop_eq_nil_of_le Zaa]at hd;cases hd);have w:=List.drop_eq_getElem_cons d;rw[w]at hd;simp only[List.cons.injEq]at hd;rw[eD];simp only[Eg,iL d,bl,if_true,bJ d,ζb,hd.1,wO];cases p a x with|none=>rfl|some y=>have⟨b,z⟩:=y;simp only[ζb];cases b with|true=>simp[Fw.elim]|false=>simp only[false_eq_true,if_false,ζb,cM j Zaa];exact u (j+1) z hd.2
 exact key s.l 0 x rfl
def Gu(p:α->a_ X'):aZ α->a_ X'
 |[]=>some false|a::r=>(p a).bind λb=>if b then some true else Gu p r
theorem GR(p:α->a_ X'):∀l:aZ α,wO (λx(u:Unit)=>(p x).map λb=>(b,u)) l ()=(Gu p l).map λb=>(b,())
 |[]=>rfl|a::r=>by simp only[wO,Gu];cases p a with|none=>rfl|some b=>cases b<;>simp[GR p r]
theorem Bp{s:Sl α}(p:α->a_ X')(B:s.l.length<1073741824):AS s (λx(u:Unit)=>(p x).map λb=>(b,u)) ()=(Gu p s.l).map λb=>(b,()):=by rw[GA B,GR]
theorem Am{p:α->a_ X'}{f:α->X'}:∀{l:aZ α},(∀x∈l,p x=some (f x))->Gu p l=some (l.any f)
 |[],_=>rfl|a::r,h=>by simp only[Gu,h a Zab,ζb,any_cons,Am (λx B=>h x (mem_cons_of_mem _ B))];cases f a<;>rfl
theorem lG{δ:Type}{b:(α->a_ δ)->α->a_ δ}{n:Nat}(h:0<n)(z:α):iw b n z=b (iw b (n-1)) z:=by cases n with|zero=>omega|succ n=>rfl
end
def NL(l:ST)(az:aZ Assign):ST:=az.foldl (λl a=>l.set a.var.toNat a.value) l
def kR(P:bX):Nat->ST
 |0=>P.vars.l.map Var.init_|k+1=>match P.events.l[k]?with
  |some e=>NL (kR P k) e.assign.l|none=>kR P k
theorem Kn:∀(az:aZ Assign)(l:ST),(NL l az).length=l.length
 |[],l=>rfl|a::r,l=>by show(NL (l.set a.var.toNat a.value) r).length=_;rw[Kn r];simp
theorem rM(P:bX):∀k,(kR P k).length=P.vars.l.length
 |0=>by simp[kR]|k+1=>by unfold kR;split;rw[Kn,rM P k];exact rM P k
def Nr{α:Type}(s:Sl α):Prop:=s=.nil\/∃l,s=.row l
theorem K_:∀(vs:aZ Var)(s:Zg),Nr s->s.l.length+vs.length<1073741824->∃B,wU vs s=some B/\Nr B/\B.l=s.l++vs.map Var.init_
 |[],s,h,_=>⟨s,rfl,h,Zab⟩|v::r,s,h,D=>by simp only[length_cons]at D;have a:gw s v.init_=some (.row (s.l++[v.init_])):=(by unfold gw;rw[if_pos Zaa]);have⟨B,g1,g2,g3⟩:=K_ r (.row (s.l++[v.init_])) (.inr ⟨_,rfl⟩) (by show(s.l++[v.init_]).length+r.length<1073741824;simp;omega);refine⟨B,?_,g2,by rw[g3];show(s.l++[v.init_])++r.map Var.init_=_;simp⟩;simp only[wU,a,ζb,g1]
theorem Jd:∀(az:aZ Assign)(s:Zg),Nr s->(∀a∈az,0<=a.var/\a.var<s.l.length)->∃B,wZ az s=some B/\Nr B/\B.l=NL s.l az
 |[],s,h,_=>⟨s,rfl,h,rfl⟩|a::r,s,h,D=>by have⟨d,c⟩:=D a Zab;have e:Sl.jR s a.var=some a.var.toNat:=(by unfold Sl.jR;rw[if_pos ⟨d,Zaa⟩]);rcases h with rfl|⟨l,rfl⟩;simp[Sl.l]at c;omega;have u:Sl.put (.row l) a.var.toNat a.value=some (.row (l.set a.var.toNat a.value)):=(by unfold Sl.put;rw[if_pos (by simp[Sl.l]at c⊢;omega)]);have⟨B,g1,g2,g3⟩:=Jd r (.row (l.set a.var.toNat a.value)) (.inr ⟨_,rfl⟩) (λb w=>by have:=D b (mem_cons_of_mem _ w);simpa[Sl.l]using this);refine⟨B,?_,g2,g3⟩;simp only[wZ,e,u,ζb,g1]
theorem MI{s:Zg}(h:Nr s)(B:s.l.length<1073741824):∃c,NY s=some c/\c.l=s.l:=by rcases h with rfl|⟨l,rfl⟩;exact⟨.nil,rfl,rfl⟩;unfold NY IB.dc oH;simp only[Sl.isNil,ζb,bl,false_eq_true,if_false];by_cases a:(Sl.row l).l=[];rw[if_pos a];exact⟨.row [],rfl,a.symm⟩;rw[if_neg a,if_pos (by simp[Sl.l]at B⊢;omega)];exact⟨_,rfl,by simp[Sl.l]⟩
def yY(P:bX):Prop:=∀e∈P.events.l,∀a∈e.assign.l,0<=a.var/\a.var<P.vars.l.length
theorem Ki{P:bX}(B:yY P)(f:P.vars.l.length<1073741824):∀(b:aZ WF)(k:Nat)(s:Zg),P.events.l.drop k=b->Nr s->s.l=kR P k->
 ∃r,wW (k:Int) b s=some r/\r.length=b.length/\∀(i:Nat)x,r[i]?=some x->x.1=((k+i+1:Nat):Int)/\x.2.l=kR P (k+i+1)
 |[],k,s,_,_,_=>⟨[],rfl,rfl,Zab⟩|e::b,k,s,hd,D,G=>by have d:k<P.events.l.length:=(by apply byContradiction;intro D;rw[List.drop_eq_nil_of_le Zaa]at hd;cases hd);have C:=List.drop_eq_getElem_cons d;rw[C]at hd;simp only[List.cons.injEq]at hd;have I:e∈P.events.l:=hd.1▸getElem_mem d;have w:s.l.length=P.vars.l.length:=(by rw[G,rM]);have⟨n,g1,g2,g3⟩:=Jd e.assign.l s D (λa J=>by rw[w];exact B e I a J);have u:kR P (k+1)=n.l:=(by rw[g3,G];unfold kR;rw[ζd d,hd.1];cases k<;>rfl);have⟨c,g4,g5⟩:=MI g2 (by rw[<-u,rM];exact f);have⟨r,L,O,Q⟩:=Ki B f b (k+1) n hd.2 g2 u.symm;refine⟨((k:Int)+1,c)::r,?_,by simp[O],λi x z=>?_⟩;simp only[wW,g1,g4,ζb];rw[show(k:Int)+1=((k+1:Nat):Int)from rfl,L];rfl;cases i with|zero=>simp only[List.getElem?_cons_zero,ζa]at z;subst z;exact⟨rfl,by rw[g5,<-u]⟩|succ i=>rw[List.getElem?_cons_succ]at z;have⟨S,T⟩:=Q i x z;exact⟨by rw[S];congr 1;omega,by rw[T];congr 1;omega⟩
theorem Hz{P:bX}(B:yY P)(a:P.vars.l.length<1073741824)(U:P.events.l.length<1073741824)(D:∀e∈P.events.l,e.assign.l.length<1073741824):
 ∃r,jN P=some r/\r.length=P.events.l.length+1/\∀(i:Nat)x,r[i]?=some x->x.1=(i:Int)/\x.2.l=kR P i:=by
 have⟨s,g1,g2,g3⟩:=K_ P.vars.l .nil (.inl rfl) (by simpa[Sl.l]using a)
 have w:s.l=kR P 0:=by rw[g3];simp[Sl.l,kR]
 have⟨c,g4,g5⟩:=MI g2 (by rw[w,rM];exact a)
 have⟨r,z,C,G⟩:=Ki B a P.events.l 0 s rfl g2 w;refine⟨(0,c)::r,?_,by simp[C],λi x u=>?_⟩
 .unfold jN;have b:(pU P.vars.l.length&&(pU P.events.l.length&&P.events.l.all λe=>pU e.assign.l.length))=true:=by
   simp only[ζh,all_eq_true,pU,decide_eq_true_eq];exact⟨Zaa,Zaa,λe h=>by have:=D e h;omega⟩
  rw[if_pos b,g1,ζb,g4,ζb];rw[show((0:Nat):Int)=0 from rfl]at z;rw[z];rfl
 cases i with
 |zero=>simp only[List.getElem?_cons_zero,ζa]at u;subst u;exact⟨rfl,by rw[g5,w]⟩|succ i=>rw[List.getElem?_cons_succ]at u;have⟨I,J⟩:=G i x u;exact⟨by rw[I];congr 1;omega,by rw[J];congr 1;omega⟩
theorem SG{P:bX}(D:yY P)(b:P.vars.l.length<1073741824)(G:P.events.l.length<1073741824)(J:∀e∈P.events.l,e.assign.l.length<1073741824){k:Nat}(d:k<=P.events.l.length):
 ∃x,gq P (k:Int)=some x/\x.l=kR P k:=by
 have⟨r,c,O,C⟩:=Hz D b G J;have key:∀(a:aZ (Int×Zg))(i:Nat)(q:Zg),r.drop i=a->i<=k->∃x,(lq (λ(x:Int×(Zg))(q:Zg)=>gq.kr P k x q) a q).bind (Fw.rV (λq=>some Sl.nil) (λe=>Empty.elim e) (λe=>some e))=some x/\x.l=kR P k:=by intro a;induction a with|nil=>intro i q hd hi;have:r.length<=i:=(by simpa using hd);omega|cons y a I=>intro i q hd hi;have u:i<r.length:=Zaa;have e2:=List.drop_eq_getElem_cons u;rw[e2]at hd;simp only[List.cons.injEq]at hd;have⟨B,L⟩:=C i y (by rw[ζd u,hd.1]);by_cases w:i=k;subst w;refine⟨y.2,?_,L⟩;simp only[lq,gq.kr,B,beq_self_eq_true,bl,if_true,ζb,Fw.rV];have z:(y.1==(k:Int))=false:=(by rw[B];simp;omega);have⟨x,g1,g2⟩:=I (i+1) .nil hd.2 Zaa;refine⟨x,?_,g2⟩;simp only[lq,gq.kr,z,bl,false_eq_true,if_false,ζb];exact g1
 have⟨x,g1,g2⟩:=key r 0 .nil rfl (zero_le _);refine⟨x,?_,g2⟩;unfold gq og gq.E1;simp only[ζb,c];exact g1
mutual
def Pred.sz:Pred->Nat
 |⟨_,_,_,_,_,l⟩=>1+Pred.YP l
def Pred.YP:Sl Pred->Nat
 |.nil=>0|.emp=>0|.row l=>Pred.mS l|.part l=>Pred.mS l
def Pred.mS:aZ Pred->Nat
 |[]=>0|x::r=>Pred.sz x+Pred.mS r
end
mutual
def Pred.dp:Pred->Nat
 |⟨_,_,_,_,_,l⟩=>1+Pred.Ym l
def Pred.Ym:Sl Pred->Nat
 |.nil=>0|.emp=>0|.row l=>Pred.BI l|.part l=>Pred.BI l
def Pred.BI:aZ Pred->Nat
 |[]=>0|x::r=>max (Pred.dp x) (Pred.BI r)
end
mutual
def Pred.lJ(f:Pred->X'):Pred->X'
 |⟨a,b,c,d,e,l⟩=>f ⟨a,b,c,d,e,l⟩&&Pred.N8 f l
def Pred.N8(f:Pred->X'):Sl Pred->X'
 |.nil=>true|.emp=>true|.row l=>Pred.FZ f l|.part l=>Pred.FZ f l
def Pred.FZ(f:Pred->X'):aZ Pred->X'
 |[]=>true|x::r=>Pred.lJ f x&&Pred.FZ f r
end
theorem Pred.ZP(s:Sl Pred):Pred.YP s=Pred.mS s.l:=by cases s<;>simp[Pred.YP,Pred.mS,Sl.l]
theorem Pred.aaA(s:Sl Pred):Pred.Ym s=Pred.BI s.l:=by cases s<;>simp[Pred.Ym,Pred.BI,Sl.l]
theorem Pred.JF(f:Pred->X'):∀l:aZ Pred,Pred.FZ f l=l.all (Pred.lJ f)
 |[]=>by simp[Pred.FZ]|x::r=>by simp only[Pred.FZ,all_cons,Pred.JF f r]
theorem Pred.YK(f:Pred->X')(s:Sl Pred):Pred.N8 f s=s.l.all (Pred.lJ f):=by cases s<;>simp[Pred.N8,Pred.JF,Sl.l]
theorem Pred.Va(p:Pred):p.sz=1+Pred.mS p.l.l:=by cases p;simp only[Pred.sz,Pred.ZP]
theorem Pred.IQ(p:Pred):p.dp=1+Pred.BI p.l.l:=by cases p;simp only[Pred.dp,Pred.aaA]
theorem Pred.o7(f:Pred->X')(p:Pred):p.lJ f=(f p&&p.l.l.all (Pred.lJ f)):=by cases p;simp only[Pred.lJ,Pred.YK]
theorem Pred.Mf:∀{l:aZ Pred}{q:Pred},q∈l->q.dp<=Pred.BI l
 |x::r,q,h=>by simp only[Pred.BI];rcases mem_cons.1 h with rfl|h;omega;have:=Pred.Mf h;omega
theorem Pred.rZ{p q:Pred}(h:q∈p.l.l):q.dp<p.dp:=by rw[p.IQ];have:=Pred.Mf h;omega
theorem Pred.zH(p:Pred):0<p.dp:=by rw[p.IQ];omega
theorem Pred.ind{M:Pred->Prop}(h:∀p,(∀q∈p.l.l,M q)->M p)(p:Pred):M p:=by
 have key:∀n p,p.dp<=n->M p:=by intro n;induction n with|zero=>intro p u;have:=p.zH;omega|succ n w=>intro p u;exact h p λq z=>w q (by have:=Pred.rZ z;omega)
 exact key _ p (le_refl _)
abbrev Pred.Sm(p:Pred):Prop:=p.lJ (λq=>decide (q.l.l.length<1073741824))=true
theorem Pred.Sm.len{p:Pred}(h:p.Sm):p.l.l.length<1073741824:=by unfold Pred.Sm at h;rw[p.o7]at h;simp only[ζh,decide_eq_true_eq]at h;exact h.1
theorem Pred.Sm.zV{p q:Pred}(h:p.Sm)(B:q∈p.l.l):q.Sm:=by unfold Pred.Sm at h;rw[p.o7]at h;simp only[ζh,all_eq_true]at h;exact h.2 q B
theorem MP{f:Pred->a_ X'}{g:Pred->X'}(p:Pred)(B:p.Sm):p.lJ (λq=>f q==some (g q))=true->∀n,p.dp<=n->iw (λr(z:Pred)=>jA z f r) n p=some (p.lJ g):=by induction p using Pred.ind with|h p C=>intro u n D;rw[p.o7]at u;simp only[ζh,all_eq_true,beq_iff_eq]at u;have hd:=p.IQ;rw[lG Zaa];show jA p f _=_;unfold jA;rw[u.1,ζb,p.o7];cases g p with|false=>rfl|true=>rw[bH,Bp _ B.len,Am (f:=λq=> !q.lJ g) (λq w=>by have:=C q w (B.zV w) (u.2 q w) (n-1) (by have:=Pred.rZ w;omega);show(iw (λr(z:Pred)=>jA z f r) (n-1) q).bind _=_;rw[this];rfl)];simp only[Option.map_some,ζb,Bool.true_and];congr 1;rw[Bool.eq_iff_iff];simp
abbrev PI(p:Pred):Bool:=toList p.name==toList ByteArray.empty
abbrev Od(p:Pred)(c:Int):Bool:=(len p.l==c)&&(!decide (p.n<0)&&(!decide (p.n>1125899906842624)&&((p.n==0||p.kind==1)&&(p.kind==2||(p.kind==3||(p.kind==4||(p.proc==0&&(p.peer==0&&PI p))))))))
theorem V1:∀k:_root_.Fin 22,1<=k.1->(cq.at AW ((k.1:Nat):Int)).isSome=true:=by decide
theorem HQ{k:Int}(a:1<=k)(B:k<22):∃c,cq.at AW k=some c:=by have g:=V1 ⟨k.toNat,Zaa⟩ (by show 1<=k.toNat;omega);simp only at g;rw[show((k.toNat:Nat):Int)=k from Zaa]at g;exact Option.isSome_iff_exists.1 g
theorem MQ{p:Pred}{c:Int}(f:1<=p.kind)(B:p.kind<22)(d:cq.at AW p.kind=some c):kX p=some (Od p c):=by
 unfold kX uX Od PI;rw[decide_eq_false (show¬p.kind<1 by omega),bE,ζb,decide_eq_false (show¬p.kind>=22 by omega),bE,d,ζb,ζb];generalize(len p.l==c)=e;generalize decide (p.n<0)=a;generalize decide (p.n>1125899906842624)=b;generalize(p.n==0)=z;generalize(p.kind==1)=k1;generalize(p.kind==2)=k2;generalize(p.kind==3)=k3;generalize(p.kind==4)=k4;generalize(p.proc==0)=d1;generalize(p.peer==0)=d2;generalize(toList p.name==toList ByteArray.empty)=d3
 cases e with
 |false=>rfl|true=>cases a with
  |true=>rfl|false=>cases b with
   |true=>rfl|false=>cases z<;>cases k1<;>first|rfl|(cases k2<;>cases k3<;>cases k4<;>cases d1<;>cases d2<;>cases d3<;>rfl)
theorem Lf{p:Pred}(h:p.kind<1\/22<=p.kind):kX p=some false:=by
 unfold kX;have:(bl (decide (p.kind<1)) (some true) (some (decide (p.kind>=22))):a_ X')=some true:=by by_cases a:p.kind<1;rw[decide_eq_true a];rfl;rw[decide_eq_false a,bE,decide_eq_true Zaa]
 rw[this];rfl
def fB(p:Pred):X':=(kX p).getD false
theorem WH(p:Pred):kX p=some (fB p):=by unfold fB;by_cases h:p.kind<1\/22<=p.kind;rw[Lf h];rfl;have⟨c,a⟩:=HQ (k:=p.kind) Zaa Zaa;rw[MQ Zaa Zaa a];rfl
theorem xy{p:Pred}(h:fB p=true):1<=p.kind/\p.kind<22/\cq.at AW p.kind=some (len p.l):=by by_cases g:p.kind<1\/22<=p.kind;unfold fB at h;rw[Lf g]at h;cases h;have⟨c,a⟩:=HQ (k:=p.kind) Zaa Zaa;unfold fB at h;rw[MQ Zaa Zaa a]at h;simp only[Od,Option.getD_some,ζh,beq_iff_eq]at h;exact⟨Zaa,Zaa,by rw[a,h.1]⟩
def uI(p:Pred):X':=decide (p.sz<=200)&&(decide (p.dp<=20)&&p.lJ fB)
abbrev oQ(p:Pred)(d l:Nat):Bool:=decide (p.sz<=l)&&(decide (p.dp+d<=21)&&p.lJ fB)
abbrev wq(k:aZ Pred)(d l:Nat):Bool:=decide (Pred.mS k<=l)&&(decide (Pred.BI k+d<=21)&&k.all (Pred.lJ fB))
theorem VM(p:Pred)(U:p.Sm):∀(n d l:Nat),1<=n->22<=n+d->d<=21->1<=d->l<=200->
 ∃B:Int,iw (λr(z:Pred×Int×Int)=>fc z.1 z.2.1 z.2.2 r) n (p,(d:Int),(l:Int))=some (oQ p d l,B)/\(oQ p d l=true->B=((l-p.sz:Nat):Int)):=by
 induction p using Pred.ind with
 |h p D=>
  intro n d l e X hd jL f;have C:=p.Va;have I:=p.IQ;rw[lG Zaa]
  have D:=λq G=>D q G (U.zV G) (n-1)
  show∃B,fc p (d:Int) (l:Int) (iw (λr(z:Pred×Int×Int)=>fc z.1 z.2.1 z.2.2 r) (n-1))=_/\_
  generalize iw (λr(z:Pred×Int×Int)=>fc z.1 z.2.1 z.2.2 r) (n-1)=R at D⊢
  unfold fc;rw[eB _ Zaa Zaa,WH]
  by_cases b:l=0
  .subst b;have w:oQ p d 0=false:=by
    have:¬(p.sz<=0):=Zaa
    simp only[oQ,decide_eq_false this,Bool.false_and]
   rw[w];exact⟨_,rfl,λh=>by cases h⟩
  rw[decide_eq_false (show¬((l:Int)-1<0)by omega),bE,ζb]
  by_cases g:20<d
  .have w:oQ p d l=false:=by
    have:¬(p.dp+d<=21):=by have:=p.zH;omega
    simp only[oQ,decide_eq_false this,Bool.false_and,Bool.and_false]
   rw[w,decide_eq_true (show(d:Int)>20 by omega)]
   exact⟨_,rfl,λh=>by cases h⟩
  rw[decide_eq_false (show¬((d:Int)>20)by omega),bE,ζb]
  have Q:=p.o7 fB
  cases S:fB p with
  |false=>
   have w:oQ p d l=false:=by simp[oQ,Q,S]
   rw[w];exact⟨_,rfl,λh=>by cases h⟩
  |true=>
   rw[ζb,show(!true)=false from rfl,bE,GA U.len];have key:∀(k:aZ Pred),(∀q∈k,q∈p.l.l)->∀m:Nat,m<=200->∃m':Int,wO (λx s=>iS x (d:Int) s R) k (m:Int)=some (!wq k (d+1) m,m')/\(wq k (d+1) m=true->m'=((m-Pred.mS k:Nat):Int)):=by intro k;induction k with|nil=>intro _ m _;exact⟨m,by simp[wO,wq,Pred.mS,Pred.BI];omega,λ_=>by simp[Pred.mS]⟩|cons q k J=>intro a m Y;have⟨B,g1,g2⟩:=D q (a q Zab) (d+1) m Zaa Zaa Zaa Zaa Y;have e1:iS q (d:Int) (m:Int) R=some (!oQ q (d+1) m,B):=(by unfold iS;rw[cM d Zaa,g1];rfl);simp only[wO,e1,ζb];have u:wq (q::k) (d+1) m=(oQ q (d+1) m&&wq k (d+1) (m-q.sz)):=(by rw[Bool.eq_iff_iff];simp only[wq,oQ,Pred.mS,Pred.BI,ζh,all_cons];constructor;rintro⟨a1,a2,a3,a4⟩;have a1:=of_decide_eq_true a1;have a2:=of_decide_eq_true a2;exact⟨⟨decide_eq_true Zaa,decide_eq_true Zaa,a3⟩,decide_eq_true Zaa,decide_eq_true Zaa,a4⟩;rintro⟨⟨a1,a2,a3⟩,T,W,Z⟩;have a1:=of_decide_eq_true a1;have a2:=of_decide_eq_true a2;have T:=of_decide_eq_true T;have W:=of_decide_eq_true W;exact⟨decide_eq_true Zaa,decide_eq_true Zaa,a3,Z⟩);cases w:oQ q (d+1) m with|false=>rw[u,w];exact⟨B,rfl,λh=>by cases h⟩|true=>have⟨m',L,O⟩:=J (λx c=>a x (mem_cons_of_mem _ c)) (m-q.sz) Zaa;rw[u,w,Bool.true_and,g2 w];refine⟨m',by simpa using L,λh=>?_⟩;rw[O h];have:q.sz<=m:=(by have:=w;simp only[oQ,ζh]at this;exact of_decide_eq_true this.1);congr 1;show m-q.sz-Pred.mS k=m-(q.sz+Pred.mS k);omega
   have⟨m',L,O⟩:=key p.l.l (λq G=>G) (l-1) Zaa
   rw[show((l:Int)-1)=((l-1:Nat):Int)from Zaa,L,ζb]
   have w:oQ p d l=wq p.l.l (d+1) (l-1):=by rw[Bool.eq_iff_iff];simp only[oQ,wq,ζh,Q,S,true_and,C,I];constructor;rintro⟨a1,a2,a3⟩;have a1:=of_decide_eq_true a1;have a2:=of_decide_eq_true a2;exact⟨decide_eq_true Zaa,decide_eq_true Zaa,a3⟩;rintro⟨a1,a2,a3⟩;have a1:=of_decide_eq_true a1;have a2:=of_decide_eq_true a2;exact⟨decide_eq_true Zaa,decide_eq_true Zaa,a3⟩
   refine⟨m',by rw[w];simp,λh=>?_⟩
   rw[O (by rw[<-w];exact h),C]
   congr 1
   omega
theorem Az{p:Pred}(B:p.Sm):mh p=some (uI p):=by obtain⟨u,h,-⟩:=VM p B 100000 1 200 Zaa Zaa Zaa Zaa Zaa;unfold mh qU;rw[show iw (λr(z:Pred×Int×Int)=>fc z.1 z.2.1 z.2.2 r) 100000 (p,(1:Int),(200:Int))=_ from h];simp only[ζb];congr 1;rw[Bool.eq_iff_iff];simp only[uI,oQ,ζh];constructor;rintro⟨a1,a2,a3⟩;have a2:=of_decide_eq_true a2;exact⟨a1,decide_eq_true Zaa,a3⟩;rintro⟨a1,a2,a3⟩;have a2:=of_decide_eq_true a2;exact⟨a1,decide_eq_true Zaa,a3⟩
theorem R9{l:aZ Pred}{i:Nat}(h:i<l.length):Pred.mS (l.take (i+1))=Pred.mS (l.take i)+l[i].sz:=by
 have key:∀(l:aZ Pred)(i:Nat)(h:i<l.length),Pred.mS (l.take (i+1))=Pred.mS (l.take i)+l[i].sz:=by intro l;induction l with|nil=>intro i h;simp at h|cons x r u=>intro i h;cases i with|zero=>simp[Pred.mS]|succ i=>have:=u i (by simpa using h);simp only[List.take_succ_cons,Pred.mS,List.getElem_cons_succ]at this⊢;omega
 exact key l i h
theorem LO(l:aZ Pred)(i:Nat):Pred.mS (l.take i)<=Pred.mS l:=by
 induction l generalizing i with
 |nil=>simp|cons x r u=>cases i with
  |zero=>simp[Pred.mS]|succ i=>simp only[List.take_succ_cons,Pred.mS];have:=u i;omega
theorem count_eq(p:Pred)(G:p.Sm):∀(n l:Nat),l+1<=n->l<=200->iw (λr(z:Pred×Int)=>jk z.1 z.2 r) n (p,(l:Int))=some ((min p.sz (l+1):Nat):Int):=by
 induction p using Pred.ind with|h p C=>
  intro n l O Q;have J:=p.Va;rw[lG Zaa];have C:=λq I=>C q I (G.zV I) (n-1);show jk p (l:Int) (iw (λr(z:Pred×Int)=>jk z.1 z.2 r) (n-1))=_;generalize iw (λr(z:Pred×Int)=>jk z.1 z.2 r) (n-1)=R at C⊢;unfold jk kM.W1;refine Wp.eq ?_;refine fJ (λs:Int×Int=>∃i:Nat,s.2=i/\i<=p.l.l.length/\s.1=((min (1+Pred.mS (p.l.l.take i)) (l+1):Nat):Int)) (λs=>p.l.l.length-s.2.toNat) ⟨0,rfl,zero_le _,by simp[Pred.mS]⟩ ?_;rintro⟨c,_⟩ ⟨i,rfl,hi,a⟩;simp only at a;subst a;unfold kM.br;by_cases u:i<p.l.l.length;rw[iL u,bH,ζb];by_cases L:min (1+Pred.mS (p.l.l.take i)) (l+1)<=l;have w:min (1+Pred.mS (p.l.l.take i)) (l+1)=1+Pred.mS (p.l.l.take i):=by omega
  have B:=getElem_mem u;rw[decide_eq_true (show(((min (1+Pred.mS (p.l.l.take i)) (l+1):Nat)):Int)<=(l:Int)by omega),bH,bJ u,ζb,w,eB _ Zaa Zaa,
   show(l:Int)-((1+Pred.mS (p.l.l.take i):Nat):Int)=((l-(1+Pred.mS (p.l.l.take i)):Nat):Int)from Zaa,
   C _ B _ Zaa Zaa,ζb,bg,eB _ Zaa Zaa,cM i (by have:=G.len;omega)]
  refine⟨⟨i+1,rfl,Zaa,?_⟩,by simp only;omega⟩;simp only;rw[R9 u];omega;rw[decide_eq_false (show¬(((min (1+Pred.mS (p.l.l.take i)) (l+1):Nat)):Int)<=(l:Int)by omega),bE,bg];refine(bg _).2 ?_;have:=LO p.l.l i;congr 1;omega;have D:i=p.l.l.length:=Zaa;subst D;rw[show decide (((p.l.l.length:Nat):Int)<len p.l)=false from jm,bE,ζb,bE,bg];refine(bg _).2 ?_;rw[take_length];congr 1;omega
section
variable{t:Z4}
abbrev zY(t:Trace)(p:Int):Bool:=decide (p>=0)&&decide (p<len t.procs)
def Nt(t:Z4)(p:Int)(name:U'):X':=match idx t.procs p with
 |some P=>P.vars.l.any λv=>toList v.name==toList name|none=>false
def s7(t:Z4)(q:Pred):X':=if q.kind==2 then zY t q.proc&&(q.peer==0&&Nt t q.proc q.name)else if q.kind==3 then zY t q.proc&&(q.peer==0&&PI q)else if q.kind==4 then zY t q.proc&&(zY t q.peer&&(!(q.proc==q.peer)&&PI q))else true
theorem Mx(p:Int):kQ t p=some (zY t p):=by unfold kQ zY;cases decide (p>=0)<;>rfl
theorem vZ{p:Int}(h:zY t p=true):∃n:Nat,p=n/\n<t.procs.l.length:=by simp only[zY,ζh]at h;have a:=of_decide_eq_true h.1;have u:=of_decide_eq_true h.2;exact⟨p.toNat,Zaa,by simp only[len]at u;omega⟩
theorem Ud(a:Small t){p:Int}(h:zY t p=true)(name:U'):rT t p name=some (Nt t p name):=by obtain⟨n,rfl,u⟩:=vZ h;unfold rT Nt;rw[bJ u,ζb,Dk (p:=λz=>oP z name) (f:=λv=>toList v.name==toList name) (λv _=>rfl) (a.2 _ (getElem_mem u)).2.1];rfl
theorem Vu(a:Small t)(q:Pred):kK q t=some (s7 t q):=by
 unfold kK s7 PI;rw[Mx,Mx]
 cases q.kind==2 with
 |true=>rw[bH,if_pos rfl,ζb];cases h:zY t q.proc with|false=>rfl|true=>rw[Ud a h];cases q.peer==0<;>rfl
 |false=>rw[bE,if_neg Zab];cases q.kind==3 with|true=>rw[bH,if_pos rfl];cases zY t q.proc<;>cases q.peer==0<;>cases(toList q.name==toList ByteArray.empty)<;>rfl|false=>rw[bE,if_neg Zab];cases q.kind==4 with|true=>rw[bH,if_pos rfl];cases zY t q.proc<;>cases zY t q.peer<;>cases(q.proc==q.peer)<;>cases(toList q.name==toList ByteArray.empty)<;>rfl|false=>rfl
theorem KP{f:Pred->a_ X'}{g:Pred->X'}(h:∀q,f q=some (g q)){p:Pred}(B:p.Sm)(hd:p.dp<=100000):nP p f=some (p.lJ g):=by refine MP p B ?_ _ hd;induction p using Pred.ind with|h p w=>rw[p.o7,ζh,all_eq_true];exact⟨by rw[h];simp,λq u=>w q u (B.zV u) (by have:=Pred.rZ u;omega)⟩
theorem KD(a:Small t){p:Pred}(B:p.Sm)(hd:p.dp<=100000):oO t p=some (p.lJ (s7 t)):=by unfold oO;rw[KP (g:=s7 t) (λq=>Vu a q) B hd];rfl
abbrev tj(k:Int):Int:=if k<=8 then 1 else 2
abbrev Cr(k:Int):Int:=if k<=12 then 1 else 2
def yZ(q:Pred):X':=q.l.l.all λk=>tj k.kind==Cr q.kind
theorem Bf(k:Int):me k=some (tj k):=by unfold me tj;by_cases h:k<=8;rw[decide_eq_true h,if_pos h];rfl;rw[decide_eq_false h,if_neg h];rfl
theorem Xp(k:Int):sO k=some (Cr k):=by unfold sO Cr;by_cases h:k<=12;rw[decide_eq_true h,if_pos h];rfl;rw[decide_eq_false h,if_neg h];rfl
theorem VW{q:Pred}(B:q.l.l.length<1073741824):jt q=some (yZ q):=by unfold jt yZ;rw[Bp _ B,Am (f:=λk=> !(tj k.kind==Cr q.kind)) (λk _=>by unfold mR;rw[Bf,Xp];rfl)];simp only[Option.map_some,ζb];congr 1;rw[Bool.eq_iff_iff];simp
theorem Io{p:Pred}(B:p.Sm)(hd:p.dp<=100000):pz p=some (p.lJ yZ):=by
 unfold pz;have:p.lJ (λq=>(λz=>jt z) q==some (yZ q))=true:=by clear hd;induction p using Pred.ind with|h p w=>rw[p.o7,ζh,all_eq_true];exact⟨by show(jt p==some (yZ p))=true;rw[VW B.len];simp,λq u=>w q u (B.zV u)⟩
 unfold nP;rw[MP p B this _ hd];rfl
def B9(q:Pred):X':=decide (q.kind>=18)&&decide (q.kind<=21)
theorem KO{p:Pred}(B:p.Sm):oU p=some (uI p&& !p.lJ λq=> !B9 q):=by unfold oU;rw[Az B,ζb];cases u:uI p with|false=>rfl|true=>have hd:p.dp<=20:=(by simp only[uI,ζh]at u;exact of_decide_eq_true u.2.1);rw[bH,KP (g:=λq=> !B9 q) (λq=>by unfold mM sx B9;cases decide (q.kind>=18)<;>rfl) B Zaa];rfl
end
theorem yY.of{t:Z4}(B:Ok t){p:Nat}{P:bX}(D:t.procs.l[p]?=some P):yY P:=by
 intro e C a G;have⟨k,b⟩:=List.mem_iff_getElem?.1 C;have⟨i,hi⟩:=List.mem_iff_getElem?.1 G;have h:=B.fU p k P e D b;unfold pV at h;have w:i<e.assign.l.length:=by apply byContradiction;intro J;rw[getElem?_eq_none Zaa]at hi;cases hi
 have I:oD (pJ P e) 0 e.assign.l.length=0:=by split at h;split at h;cases h;split at h;cases h;exact h;cases h
 have u:=(Rg (g:=pJ P e) (n:=e.assign.l.length) (m:=e.assign.l.length) (k:=0) Zaa).1 I i (zero_le _) w;unfold pJ at u;rw[hi]at u;dsimp only at u;by_cases z:(decide (0<=a.var)&&decide (a.var<P.vars.l.length))=true;simpa using z;rw[Bool.not_eq_true]at z;rw[z]at u;simp only[RY]at u;cases u
theorem ZF{t:Z4}{A:cq 200 bD}(b:Small t)(f:cH t=some true)(e:VT t)(g:fN t (bR t) A){c:Zg}(d:Cons t A c.l):
 Wp (jh t c) λr=>r.2=0/\r.1.l.length=t.procs.l.length/\∀(p:Nat)(P:bX)(a:Int),t.procs.l[p]?=some P->c.l[p]?=some a->∃x,r.1.l[p]?=some x/\x.l=kR P a.toNat:=by
 have I:=d.1.1;unfold jh;rw[dX];refine(LF b f e g c).mono λr i=>?_
 rw[i.zero.2 d,show((0:Int)==0)=true from rfl,bH];unfold jh.W1;refine fD c.l.length (λn s=>s.2=(n:Int)/\s.1.l.length=n/\∀(p:Nat)(P:bX)(a:Int),p<n->t.procs.l[p]?=some P->c.l[p]?=some a->∃x,s.1.l[p]?=some x/\x.l=kR P a.toNat) ⟨rfl,rfl,λp P a h=>absurd h Zaa⟩ ?_ ?_
 .rintro n ⟨o,_⟩ u ⟨e1,e2,e3⟩;simp only at e1 e2 e3;subst e1;have J:n<t.procs.l.length:=by omega
  have w:=b.2 _ (getElem_mem J);have D:=ζd J;have C:=ζd u;have⟨a0,a1⟩:=d.1.2 n _ _ C D;have T:=yY.of e.ok D;have⟨x,S,L⟩:=SG T w.2.1 w.1 w.2.2.2.2 (k:=c.l[n].toNat) Zaa
  rw[show((c.l[n].toNat:Nat):Int)=c.l[n]from Zaa]at S
  have j:=b.1;unfold jh.br;rw[iL u,bH,bJ u,ζb,bJ J,ζb,S,ζb];have G:gw o (x:Zg)=some (.row (o.l++[x])):=by unfold gw;rw[if_pos Zaa]
  rw[G,ζb,bg,cM n Zaa]
  refine⟨rfl,by simp[Sl.l];exact e2,λp P a h z B=>?_⟩
  show∃y,(o.l++[x])[p]?=some y/\_
  by_cases O:p=n
  .subst O;rw[D]at z;rw[C]at B;cases z;cases B;exact⟨x,by rw[List.getElem?_append_right Zaa];simp[e2],L⟩
  have⟨y,U,Q⟩:=e3 p P a Zaa z B
  exact⟨y,by rw[List.getElem?_append_left Zaa];exact U,Q⟩
 rintro⟨o,_⟩ ⟨e1,e2,e3⟩;simp only at e1 e2 e3;subst e1;unfold jh.br;rw[show decide ((c.l.length:Int)<len c)=false from jm,bE,bg];refine(bg _).2 ⟨rfl,by rw[e2,I],λp P a D C=>e3 p P a ?_ D C⟩
 apply byContradiction;intro W;rw[getElem?_eq_none Zaa]at C;cases C
section
variable{P:Pred}{t:Z4}
end
def vE(l:ST)(m:Int):Prop:=m∈l/\∀x∈l,m<=x
def isMax(l:ST)(m:Int):Prop:=m∈l/\∀x∈l,x<=m
theorem vE.one{l:ST}{a b:Int}(h:vE l a)(g:vE l b):a=b:=by have:=h.2 b g.1;have:=g.2 a h.1;omega
theorem isMax.one{l:ST}{a b:Int}(h:isMax l a)(g:isMax l b):a=b:=by have:=h.2 b g.1;have:=g.2 a h.1;omega
theorem vE.snoc{l:ST}{a x:Int}(h:vE l a):vE (l++[x]) (if x<a then x else a):=by have⟨c,u⟩:=h;split;refine⟨Zab,λy b=>?_⟩;rcases mem_append.1 b with b|b;have:=u y b;omega;simp at b;omega;refine⟨List.mem_append_left _ c,λy b=>?_⟩;rcases mem_append.1 b with b|b;exact u y b;simp at b;omega
theorem isMax.snoc{l:ST}{a x:Int}(h:isMax l a):isMax (l++[x]) (if x>a then x else a):=by have⟨c,u⟩:=h;split;refine⟨Zab,λy b=>?_⟩;rcases mem_append.1 b with b|b;have:=u y b;omega;simp at b;omega;refine⟨List.mem_append_left _ c,λy b=>?_⟩;rcases mem_append.1 b with b|b;exact u y b;simp at b;omega
theorem QJ{s:Zg}(h:0<s.l.length)(B:s.l.length<1073741824):Wp (dG s) λm=>vE s.l m:=by
 unfold dG dG.J1 dG.W2;rw[decide_eq_false (show¬len s<1 by simp only[len];omega),bE,show idx s 0=some s.l[0]from bJ (i:=0) h,ζb];refine fD (s.l.length-1) (λn q=>q.2=((n+1:Nat):Int)/\vE (s.l.take (n+1)) q.1) ⟨rfl,?_⟩ ?_ ?_;rw[take_add_one,ζd h];exact⟨Zab,λx z=>by simp at z;omega⟩;rintro n ⟨m,_⟩ C ⟨rfl,w⟩;have u:n+1<s.l.length:=by omega
 unfold dG.bT;rw[iL u,bH,bJ u,ζb,bg,cM _ Zaa];refine⟨rfl,?_⟩;rw[take_add_one,ζd u];exact w.snoc;rintro⟨m,_⟩ ⟨rfl,w⟩;unfold dG.bT;rw[show s.l.length-1+1=s.l.length from Zaa,jm,bE,bg];rw[show s.l.length-1+1=s.l.length from Zaa,take_length]at w;exact(bg _).2 w
theorem P5{s:Zg}(h:0<s.l.length)(B:s.l.length<1073741824):Wp (fq s) λm=>isMax s.l m:=by
 unfold fq fq.J1 fq.W2;rw[decide_eq_false (show¬len s<1 by simp only[len];omega),bE,show idx s 0=some s.l[0]from bJ (i:=0) h,ζb];refine fD (s.l.length-1) (λn q=>q.2=((n+1:Nat):Int)/\isMax (s.l.take (n+1)) q.1) ⟨rfl,?_⟩ ?_ ?_;rw[take_add_one,ζd h];exact⟨Zab,λx z=>by simp at z;omega⟩;rintro n ⟨m,_⟩ C ⟨rfl,w⟩;have u:n+1<s.l.length:=by omega
 unfold fq.bT;rw[iL u,bH,bJ u,ζb,bg,cM _ Zaa];refine⟨rfl,?_⟩;rw[take_add_one,ζd u];exact w.snoc;rintro⟨m,_⟩ ⟨rfl,w⟩;unfold fq.bT;rw[show s.l.length-1+1=s.l.length from Zaa,jm,bE,bg];rw[show s.l.length-1+1=s.l.length from Zaa,take_length]at w;exact(bg _).2 w
theorem ML{s:Zg}{a b:Int}(h:0<s.l.length)(B:s.l.length<1073741824)(D:vE s.l a)(G:isMax s.l b):mq s=some ⟨a,b⟩:=by have⟨m,c,u⟩:=QJ h B;have⟨n,g1,g2⟩:=P5 h B;unfold mq;rw[c,ζb,g1,ζb,u.one D,g2.one G]
theorem UB(n:Int):mq (Sl.row [n]:Zg)=some ⟨n,n⟩:=ML (by simp[Sl.l]) (by simp[Sl.l]) ⟨by simp[Sl.l],λx u=>by simp[Sl.l]at u;omega⟩ ⟨by simp[Sl.l],λx u=>by simp[Sl.l]at u;omega⟩
theorem Uu(a b c d:Int):mq (Sl.row [a,b,c,d]:Zg)=some ⟨if(if d<c then d else c)<(if b<a then b else a)then(if d<c then d else c)else(if b<a then b else a),if(if d>c then d else c)>(if b>a then b else a)then(if d>c then d else c)else(if b>a then b else a)⟩:=by
 refine ML (by simp[Sl.l]) (by simp[Sl.l]) ⟨?_,λx u=>?_⟩ ⟨?_,λx u=>?_⟩
 .show _∈[a,b,c,d];simp only[mem_cons,not_mem_nil,or_false];split<;>split<;>(try split)<;>omega
 .have u:x∈[a,b,c,d]:=u;simp only[mem_cons,not_mem_nil,or_false]at u;split<;>split<;>(try split)<;>omega
 .show _∈[a,b,c,d];simp only[mem_cons,not_mem_nil,or_false];split<;>split<;>(try split)<;>omega
 have u:x∈[a,b,c,d]:=u;simp only[mem_cons,not_mem_nil,or_false]at u;split<;>split<;>(try split)<;>omega
def Dst(az:aZ Assign):Prop:=∀(i j:Nat)a b,i<j->az[i]?=some a->az[j]?=some b->a.var≠b.var
def uY(P:bX)(v k:Nat):Int:=((kR P k)[v]?).getD 0
theorem GZ{P:bX}{v:Nat}(k:Nat)(a:v<P.vars.l.length):(kR P k)[v]?=some (uY P v k):=by unfold uY;rw[ζd (by rw[rM];exact a)];rfl
abbrev CV(P:bX)(v n:Nat):aZ Int:=(range (n+1)).map (uY P v)
theorem Rh{P:bX}{v n k:Nat}(h:k<=n):uY P v k∈CV P v n:=mem_map.2 ⟨k,mem_range.2 Zaa,rfl⟩
section
variable{P:bX}{v:Nat}
theorem P6(D:yY P)(b:P.vars.l.length<1073741824)(U:P.events.l.length<1073741823)(G:∀e∈P.events.l,e.assign.l.length<1073741824)(B:v<P.vars.l.length):
 Wp (gx P v) λs=>s.l=CV P v P.events.l.length:=by
 have⟨r,c,C,I⟩:=Hz D b Zaa G
 have key:∀(a:aZ (Int×Zg))(i:Nat)(q:Zg),r.drop i=a->i<=r.length->q.l=(range i).map (uY P v)->∃s,(lq (λ(x:Int×(Zg))(q:Zg)=>gx.kr P v x q) a q).bind (Fw.rV (λq=>some q) (λe=>Empty.elim e) (λe=>Empty.elim e))=some s/\s.l=(range r.length).map (uY P v):=by intro a;induction a with|nil=>intro i q hd hi z;have:r.length<=i:=(by simpa using hd);exact⟨q,rfl,by rw[z,show i=r.length from Zaa]⟩|cons y a J=>intro i q hd _ z;have u:i<r.length:=(by apply byContradiction;intro S;rw[List.drop_eq_nil_of_le Zaa]at hd;cases hd);have e2:=List.drop_eq_getElem_cons u;rw[e2]at hd;simp only[List.cons.injEq]at hd;have⟨T,L⟩:=I i y (by rw[ζd u,hd.1]);have O:idx y.2 (v:Int)=some (uY P v i):=(by rw[jd,L];exact GZ i B);have Q:q.l.length=i:=(by rw[z];simp);have w:gw q (uY P v i)=some (.row (q.l++[uY P v i])):=(by unfold gw;rw[if_pos Zaa]);have⟨s,g1,g2⟩:=J (i+1) (.row (q.l++[uY P v i])) hd.2 Zaa (by show q.l++[uY P v i]=_;rw[z,List.range_succ,List.map_append];rfl);refine⟨s,?_,g2⟩;simp only[lq,gx.kr,O,w,ζb];exact g1
 have⟨s,g1,g2⟩:=key r 0 .nil rfl (zero_le _) rfl;refine⟨s,?_,by show s.l=_;rw[g2,C]⟩
 unfold gx og gx.E1;simp only[ζb,c];exact g1
theorem Ky{α:Type}{f:α->X'}{l:aZ α}{k:Nat}{x:α}(b:l[k]?=some x)(B:f x=true)(D:∀(j:Nat)(y:α),j<k->l[j]?=some y->f y=false):place f l=k:=by unfold place;have a:=(ζe.1 b);have⟨a,u⟩:=a;rw[show l.findIdx? f=some k from by rw[List.findIdx?_eq_some_iff_getElem];exact⟨a,by rw[u];exact B,λj w=>by rw[D j _ w (ζd Zaa)];simp⟩]
theorem G_{t:Z4}(d:Small t)(e:cH t=some true)(J:Ok t){n:Nat}(D:t.procs.l[n]?=some P){name:U'}{x:Var}(c:P.vars.l[v]?=some x)(U:(toList x.name==toList name)=true)
 (W:∀(j:Nat)(w:Var),j<v->P.vars.l[j]?=some w->(toList w.name==toList name)=false):
 Wp (rR t n name) λr=>r.2.2=0/\vE (CV P v P.events.l.length) r.1/\isMax (CV P v P.events.l.length) r.2.1:=by
 have O:n<t.procs.l.length:=(ζe.1 D).1;have Q:=mem_of_getElem? D;have u:=d.2 P Q;have C:v<P.vars.l.length:=(ζe.1 c).1;have I:P.events.l.length<=64:=by have:=J.heads n O;unfold rH at this;rw[D]at this;dsimp only at this;split at this;split at this;cases this;split at this;split at this;cases this;omega;rename_i G;exact absurd this G;cases this
 have⟨s,g1,g2⟩:=P6 (yY.of J D) u.2.1 Zaa u.2.2.2.2 C
 have g:s.l.length=P.events.l.length+1:=by rw[g2];simp[CV]
 have⟨a,a1,a2⟩:=QJ (s:=s) Zaa Zaa
 have⟨b,S,L⟩:=P5 (s:=s) Zaa Zaa
 have B:sU t n name=some ((v:Int),0):=by unfold sU;rw[e,ζb,bH,decide_eq_false (show¬(n:Int)<0 by omega),bE,ζb,decide_eq_false (show¬(n:Int)>=len t.procs by simp only[len];omega),bE,jd,D,ζb];unfold uO;rw[Dv (p:=λz=>oV z name) (f:=λw=>toList w.name==toList name) (λ_ _=>rfl) u.2.1,Ky c U W,ζb,ζb,decide_eq_false (show¬((v:Nat):Int)<0 by omega)];rfl
 unfold rR;rw[B,ζb];simp only;rw[show((0:Int)==0)=true from rfl,bH,jd,D,ζb,g1,ζb,a1,ζb,S,ζb,bg];rw[g2]at a2 L;exact⟨rfl,a2,L⟩
def ir(o:QQ)(b a:Int):Int×Int:=match o with
 |none=>(b,a)|some x=>(if x<b then x else b,if x>a then x else a)
end
section
variable{t:Z4}{A:cq 200 bD}
theorem Dj(a:Small t){p:Nat}{P:bX}(D:t.procs.l[p]?=some P)(q:Nat):fH t p q=some ((P.events.l.countP (gF q):Nat):Int):=by
 have G:P∈t.procs.l:=mem_of_getElem? D;have I:=(a.2 P G).1;refine Wp.eq ?_;unfold fH;rw[jd,D,ζb];unfold fH.W1;refine fD P.events.l.length (λn s=>s.2=(n:Int)/\s.1=(((P.events.l.take n).countP (gF q):Nat):Int)) ⟨rfl,rfl⟩ ?_ ?_;rintro n ⟨o,_⟩ w ⟨e1,e2⟩;simp only at e1 e2;subst e1 e2;have z:=List.countP_le_length (p:=gF q) (l:=P.events.l.take n);rw[length_take]at z;have u:(P.events.l.take (n+1)).countP (gF q)=(P.events.l.take n).countP (gF q)+if gF q P.events.l[n]then 1 else 0:=by rw[take_add_one,ζd w,List.countP_append];show _+List.countP _ [P.events.l[n]]=_;rw[List.countP_cons,List.countP_nil];simp
 unfold fH.br;rw[iL w,bH,bJ w,ζb];generalize P.events.l[n]=e at u;have B:(bl (e.kind==2) (some (e.peer==(q:Int))) (some false):a_ X')=some (gF q e):=by unfold gF;cases e.kind==2<;>cases e.peer==(q:Int)<;>rfl
 rw[B,ζb,cM n Zaa];cases C:gF q e with|true=>rw[C]at u;rw[bH,bg,cM _ Zaa];exact⟨rfl,by simp only[u];rfl⟩|false=>rw[C]at u;rw[bE,bg];exact⟨rfl,by simp only[u];rfl⟩
 rintro⟨o,_⟩ ⟨e1,e2⟩;simp only at e1 e2;subst e1 e2;unfold fH.br;rw[jm,bE,bg];exact(bg _).2 (by rw[take_length])
end
section
variable{t:Z4}
def zC(b a:Int):X':=decide (b>=-1125899906842624)&&decide (a<=1125899906842624)
structure uw(low high:Int):Prop where
 le:low<=high
 lo:-1125899906842624<=low
 hi:high<=1125899906842624
theorem DL(b a:Int):jq ⟨b,a⟩=some (!zC b a):=by
 unfold jq zC;have c:decide (b< -1125899906842624)= !decide (b>=-1125899906842624):=by rw[Bool.eq_iff_iff];simp
 have u:decide (a>1125899906842624)= !decide (a<=1125899906842624):=by rw[Bool.eq_iff_iff];simp
 simp only;rw[c,u];cases decide (b>=-1125899906842624)<;>cases decide (a<=1125899906842624)<;>rfl
theorem uw.of{b a:Int}(h:b<=a)(g:zC b a=true):uw b a:=by simp only[zC,ζh]at g;have:=of_decide_eq_true g.1;have:=of_decide_eq_true g.2;exact⟨h,Zaa,Zaa⟩
end
section
variable{t:Z4}
theorem GV(v:bU)(l h:Int)(r:Z4×Pred->a_ (bU×X')):c6.J2 v ⟨l,h⟩ r=some (⟨l,h⟩,zC l h):=by unfold c6.J2;rw[DL,ζb,not_not]
theorem EY{ok B:X'}(h:(ok&&B)=false)(p:Pred)(v a b:bU)(r:Z4×Pred->a_ (bU×X')):c6.J1 ok B p v a b r=some (⟨0,0⟩,false):=by unfold c6.J1;cases ok<;>cases B<;>first|rfl|cases h
theorem TA{k:Int}(h:(tj k==1)=true):k<=8:=by unfold tj at h;by_cases g:k<=8;exact g;rw[if_neg g]at h;cases h
theorem Pred.parts{p:Pred}(B:fB p=true){c:Int}(a:cq.at AW p.kind=some c):(p.l.l.length:Int)=c:=by obtain⟨-,-,h⟩:=xy B;rw[a]at h;exact(Option.some.inj h).symm
structure wR(t:Trace)(p:Pred):Prop where
 sm:p.Sm
 f:p.lJ fB=true
 r:p.lJ (s7 t)=true
 y:p.lJ yZ=true
theorem wR.zV{p q:Pred}(h:wR t p)(B:q∈p.l.l):wR t q:=by have⟨a,u,w,z⟩:=h;rw[p.o7,ζh,all_eq_true]at u w z;exact⟨a.zV B,u.2 q B,w.2 q B,z.2 q B⟩
theorem wR.here{p:Pred}(h:wR t p):fB p=true/\s7 t p=true/\yZ p=true:=by have⟨a,u,w,z⟩:=h;rw[p.o7,ζh]at u w z;exact⟨u.1,w.1,z.1⟩
theorem wR.int{p q:Pred}(h:wR t p)(a:p.kind<=12)(B:q∈p.l.l):q.kind<=8:=by have:=h.here.2.2;unfold yZ at this;rw[all_eq_true]at this;have:=this q B;unfold Cr at this;rw[if_pos a]at this;exact TA this
end
end Go.VE
namespace Go.VE
end Go.VE
namespace Go.VE
section
variable{t:Z4}{A:cq 200 bD}{P:bX}{v:Nat}
structure Ux(t:Trace)(A:cq 200 bD)(c:Sl Int)(l:Sl (Sl Int)):Prop where
 hS:Small t
 hv:cH t=some true
 hV:VT t
 hM:fN t (bR t) A
 hC:Cons t A c.l
 vals:∀(p:Nat)(P:bX)(a:Int),t.procs.l[p]?=some P->c.l[p]?=some a->∃x,l.l[p]?=some x/\x.l=kR P a.toNat
end
end Go.VE
namespace Go.VE
section
variable{t:Z4}
theorem Sh{p:Pred}(B:uI p=true)(a:wR t p):sP p=some (tj p.kind,0):=by have u:=a.sm;have hd:=B;simp only[uI,ζh,decide_eq_true_eq]at hd;unfold sP;rw[Az u,B,ζb,bH,Io u Zaa,a.y,ζb,bH,Bf];rfl
end
theorem Gl{a b x:Int}(c:a<=x)(B:x<=b)(y:Int){lo hi:Int}(D:lo<=a*y/\a*y<=hi)(G:lo<=b*y/\b*y<=hi):lo<=x*y/\x*y<=hi:=by by_cases h:0<=y;have p1:=Int.mul_le_mul_of_nonneg_right c h;have p2:=Int.mul_le_mul_of_nonneg_right B h;omega;have p1:=Int.mul_le_mul_of_nonpos_right c (show y<=0 by omega);have p2:=Int.mul_le_mul_of_nonpos_right B (show y<=0 by omega);omega
theorem Wc{a b c d x y lo hi:Int}(f:a<=x)(W:x<=b)(B:c<=y)(D:y<=d)(e:lo<=a*c/\a*c<=hi)(G:lo<=a*d/\a*d<=hi)(J:lo<=b*c/\b*c<=hi)(U:lo<=b*d/\b*d<=hi):lo<=x*y/\x*y<=hi:=by refine Gl f W y ?_ ?_;rw[mul_comm a y];rw[mul_comm a c]at e;rw[mul_comm a d]at G;exact Gl B D a e G;rw[mul_comm b y];rw[mul_comm b c]at J;rw[mul_comm b d]at U;exact Gl B D b J U
theorem Y3{a b m:Int}(h:(if 0-a>a then 0-a else a)*(if 0-b>b then 0-b else b)<=m):-m<=a*b/\a*b<=m:=by
 have c:∀u w:Int,0<=u->0<=w->0<=u*w:=λu w=>Int.mul_nonneg;have e1:(0-a)*b=-(a*b):=by rw[zero_sub,Int.neg_mul]
 have e2:a*(0-b)=-(a*b):=by rw[zero_sub,Int.mul_neg]
 have e3:(0-a)*(0-b)=a*b:=by rw[zero_sub,zero_sub,Int.neg_mul_neg]
 by_cases z:0-a>a<;>by_cases B:0-b>b;rw[if_pos z,if_pos B]at h;have:=c (0-a) (0-b) Zaa Zaa;omega;rw[if_pos z,if_neg B]at h;have:=c (0-a) b Zaa Zaa;omega;rw[if_neg z,if_pos B]at h;have:=c a (0-b) Zaa Zaa;omega;rw[if_neg z,if_neg B]at h;have:=c a b Zaa Zaa;omega
def HE(k x y:Int):Int:=if k=5 then wrap .i64 (0-x)else if k=6 then wrap .i64 (x+y)else if k=7 then wrap .i64 (x-y)else wrap .i64 (x*y)
section
variable{t:Z4}{A:cq 200 bD}
end
section
variable{t:Z4}
end
section
variable{t:Z4}
end
theorem JW{α:Type}{f:α->X'}:∀{l:aZ α},l.any f=true->∃(k:Nat)(x:α),l[k]?=some x/\f x=true/\∀(j:Nat)(y:α),j<k->l[j]?=some y->f y=false
 |[],h=>by simp at h|a::r,h=>by by_cases B:f a=true;exact⟨0,a,rfl,B,λj y D=>absurd D Zaa⟩;rw[any_cons,Bool.or_eq_true]at h;have⟨k,x,b,G,J⟩:=JW (h.resolve_left B);refine⟨k+1,x,by simpa using b,G,λj y D u=>?_⟩;cases j with|zero=>simp at u;subst u;simpa using B|succ j=>exact J j y Zaa (by simpa using u)
section
variable{t:Z4}
theorem Qr(d:Small t){q:Pred}(b:q.kind=2)(a:s7 t q=true):∃(n k:Nat)(P:bX)(v:Var),q.proc=n/\t.procs.l[n]?=some P/\P.vars.l[k]?=some v/\(toList v.name==toList q.name)=true/\∀(j:Nat)(w:Var),j<k->P.vars.l[j]?=some w->(toList w.name==toList q.name)=false:=by unfold s7 at a;rw[if_pos (by simpa using b)]at a;simp only[ζh]at a;obtain⟨C,-,u⟩:=a;have⟨n,z,B⟩:=vZ (t:=t) (p:=q.proc) (by simp only[ζh];exact C);unfold Nt at u;rw[z,bJ B]at u;have⟨k,v,c,D,G⟩:=JW u;exact⟨n,k,_,v,z,ζd B,c,D,G⟩
theorem Rt(d:Small t)(f:cH t=some true)(D:Ok t){q:Pred}(G:fB q=true)(b:s7 t q=true)(i:q.kind<=4):∃c a,gJ t q=some ⟨c,a⟩/\c<=a:=by obtain⟨k1,-,-⟩:=xy G;rcases(show q.kind=1\/q.kind=2\/q.kind=3\/q.kind=4 by omega)with h|h|h|h;refine⟨q.n,q.n,?_,Int.le_refl _⟩;unfold gJ;rw[show(q.kind==1)=true from by simpa using h,bH,UB];rfl;have⟨n,k,P,v,u,w,z,g,C⟩:=Qr d h b;have⟨⟨c,a,e⟩,g1,g2,g3,g4⟩:=G_ d f D w (name:=q.name) z g C;simp only at g2 g3 g4;subst g2;refine⟨c,a,?_,g4.2 _ g3.1⟩;unfold gJ;rw[h,show((2:Int)==1)=false from rfl,bE,show((2:Int)==3)=false from rfl,bE,show((2:Int)==4)=false from rfl,bE,u,g1];rfl;unfold s7 at b;rw[if_neg (by simp[h]),if_pos (by simpa using h)]at b;simp only[ζh]at b;have⟨n,u,B⟩:=vZ (t:=t) (p:=q.proc) (by simp only[ζh];exact b.1);refine⟨0,len t.procs.l[n].events,?_,by simp only[len];omega⟩;unfold gJ;rw[h,show((3:Int)==1)=false from rfl,bE,show((3:Int)==3)=true from rfl,bH,u,bJ B];rfl;unfold s7 at b;rw[if_neg (by simp[h]),if_neg (by simp[h]),if_pos (by simpa using h)]at b;simp only[ζh]at b;have⟨n,u,B⟩:=vZ (t:=t) (p:=q.proc) (by simp only[ζh];exact b.1);have⟨m,I,J⟩:=vZ (t:=t) (p:=q.peer) (by simp only[ζh];exact b.2.1);have w:=ζd B;refine⟨0,((t.procs.l[n].events.l.countP (gF m):Nat):Int),?_,Zaa⟩;unfold gJ;rw[h,show((4:Int)==1)=false from rfl,bE,show((4:Int)==3)=false from rfl,bE,show((4:Int)==4)=true from rfl,bH,u,I,Dj d w];rfl
theorem oa{a b:Int}(B:-1125899906842624<=a/\a<=1125899906842624)(D:-1125899906842624<=b/\b<=1125899906842624):∃x,ij a b=some x:=by
 unfold ij qR;by_cases c:a=0;subst c;exact⟨_,rfl⟩;rw[show(a==0)=false from by simpa using c,bE,ζb];by_cases d:b=0;subst d;exact⟨_,rfl⟩;rw[show(b==0)=false from by simpa using d,bE,ζb,ζb,eB (0-b) Zaa Zaa];have:∀k m:Int,m≠0->∃x,AB .i64 k m=some x:=λk m u=>by unfold AB;rw[if_neg u];exact⟨_,rfl⟩
 have⟨x,w⟩:=this 1125899906842624 (if 0-b>b then 0-b else b) (by split<;>omega);rw[w,ζb];cases decide ((if wrap .i64 (0-a)>a then wrap .i64 (0-a)else a)>x)<;>cases(decide (a<0)==decide (b<0))<;>exact⟨_,rfl⟩
theorem HL{p:Pred}(i:5<=p.kind/\p.kind<=8){a b c d:Int}(g:uw a b)(B:uw c d)(v:bU)(r:Z4×Pred->a_ (bU×X')):
 ∃f e,c6.J1 true true p v ⟨a,b⟩ ⟨c,d⟩ r=some (⟨f,e⟩,zC f e)/\f<=e:=by
 have⟨a1,a2,a3⟩:=g;have⟨L,O,Q⟩:=B;unfold c6.J1;rw[bH,ζb,show(!true)=false from rfl,bE];rcases(show p.kind=5\/p.kind=6\/p.kind=7\/p.kind=8 by omega)with h|h|h|h<;>rw[h]
 .refine⟨-b,-a,?_,Zaa⟩
  rw[show((5:Int)==5)=true from rfl,bH,GV];simp only;rw[eB (0-b) Zaa Zaa,eB (0-a) Zaa Zaa,show(0:Int)-b=-b from Zaa,show(0:Int)-a=-a from Zaa]
 .refine⟨a+c,b+d,?_,Zaa⟩
  rw[show((6:Int)==5)=false from rfl,bE,show((6:Int)==6)=true from rfl,bH,GV];simp only;rw[eB (a+c) Zaa Zaa,eB (b+d) Zaa Zaa]
 .refine⟨a-d,b-c,?_,Zaa⟩
  rw[show((7:Int)==5)=false from rfl,bE,show((7:Int)==6)=false from rfl,bE,show((7:Int)==7)=true from rfl,bH,GV];simp only;rw[eB (a-d) Zaa Zaa,eB (b-c) Zaa Zaa]
 have⟨w,C⟩:=oa (a:=a) (b:=c) ⟨Zaa,Zaa⟩ ⟨Zaa,Zaa⟩
 have⟨x,D⟩:=oa (a:=a) (b:=d) ⟨Zaa,Zaa⟩ ⟨Zaa,Zaa⟩
 have⟨y,G⟩:=oa (a:=b) (b:=c) ⟨Zaa,Zaa⟩ ⟨Zaa,Zaa⟩
 have⟨z,I⟩:=oa (a:=b) (b:=d) ⟨Zaa,Zaa⟩ ⟨Zaa,Zaa⟩
 refine⟨if(if z<y then z else y)<(if x<w then x else w)then(if z<y then z else y)else(if x<w then x else w),if(if z>y then z else y)>(if x>w then x else w)then(if z>y then z else y)else(if x>w then x else w),?_,?_⟩
 .rw[show((8:Int)==5)=false from rfl,bE,show((8:Int)==6)=false from rfl,bE,show((8:Int)==7)=false from rfl,bE];simp only;rw[C,D,G,I];simp only[ζb];rw[Uu,ζb,GV]
 have J:(if z<y then z else y)<=(if z>y then z else y):=by split<;>split<;>omega
 have u:(if x<w then x else w)<=(if x>w then x else w):=by split<;>split<;>omega
 split<;>split<;>omega
theorem Wy(g:Small t)(k:cH t=some true)(U:Ok t)(p:Pred):wR t p->p.kind<=8->∀n,p.dp<=n->
 ∃i ok,iw (λr(z:Z4×Pred)=>dy z.1 z.2 r) n (t,p)=some (i,ok)/\(ok=true->uw i.low i.high):=by
 induction p using Pred.ind with
 |h p u=>
  intro e m n Z;have hd:=p.zH;have⟨w,l,o⟩:=e.here;obtain⟨k1,-,-⟩:=xy w;rw[lG Zaa]
  have u:=λq G=>u q G (e.zV G) (e.int Zaa G) (n-1) (by have:=Pred.rZ G;omega)
  show∃i ok,dy t p (iw (λr(z:Z4×Pred)=>dy z.1 z.2 r) (n-1))=some (i,ok)/\_
  generalize iw (λr(z:Z4×Pred)=>dy z.1 z.2 r) (n-1)=R at u⊢
  unfold dy
  by_cases T:p.kind<=4
  .have I:p.l.l.length=0:=by
    have:=Pred.parts w (c:=0) (by rcases(show p.kind=1\/p.kind=2\/p.kind=3\/p.kind=4 by omega)with h|h|h|h<;>(rw[h];rfl))
    omega
   have⟨b,a,g1,g2⟩:=Rt g k U w l T;refine⟨⟨b,a⟩,zC b a,?_,λh=>uw.of g2 h⟩
   rw[show(len p.l==0)=true from by simp[len,I],bH,g1,ζb,DL,ζb,not_not]
  by_cases W:p.kind=5
  .have B:p.l.l.length=1:=by
    have:=Pred.parts w (c:=1) (by rw[W];rfl)
    omega
   have d:0<p.l.l.length:=Zaa
   have⟨i,ok,g1,g3⟩:=u _ (getElem_mem d);have J:idx p.l 0=some p.l.l[0]:=bJ (i:=0) d;rw[show(len p.l==0)=false from by simp[len,B],bE,J,ζb,g1,ζb,show(len p.l==2)=false from by simp[len,B],bE]
   simp only
   cases ok with
   |false=>rw[EY rfl];exact⟨_,false,rfl,λh=>by cases h⟩|true=>
    have⟨b,a,L,O⟩:=HL (p:=p) ⟨Zaa,Zaa⟩ (g3 rfl) (g3 rfl) ⟨0,0⟩ R
    exact⟨_,_,L,λh=>uw.of O h⟩
  have C:p.l.l.length=2:=by have:=Pred.parts w (c:=2) (by rcases(show p.kind=6\/p.kind=7\/p.kind=8 by omega)with h|h|h<;>(rw[h];rfl));omega
  have d:0<p.l.l.length:=Zaa
  have f:1<p.l.l.length:=Zaa
  have⟨i,ok,g1,g3⟩:=u _ (getElem_mem d);have⟨j,D,X,Y⟩:=u _ (getElem_mem f);have J:idx p.l 0=some p.l.l[0]:=bJ (i:=0) d;have Q:idx p.l 1=some p.l.l[1]:=bJ (i:=1) f;rw[show(len p.l==0)=false from by simp[len,C],bE,J,ζb,g1,ζb,show(len p.l==2)=true from by simp[len,C],bH,Q,ζb,X,ζb]
  simp only
  cases S:ok&&D with
  |false=>rw[EY S];exact⟨_,false,rfl,λh=>by cases h⟩|true=>
   simp only[ζh]at S;obtain⟨rfl,rfl⟩:=S;have⟨b,a,L,O⟩:=HL (p:=p) ⟨Zaa,Zaa⟩ (g3 rfl) (Y rfl) ⟨0,0⟩ R
   exact⟨_,_,L,λh=>uw.of O h⟩
theorem Za(d:Small t)(e:cH t=some true)(B:Ok t)(p:Pred):wR t p->p.dp<=20->∀n,p.dp<=n->∃b,iw (λr(z:Z4×Pred)=>ig z.1 z.2 r) n (t,p)=some b:=by induction p using Pred.ind with|h p w=>intro a hd n D;have C:=p.zH;rw[lG Zaa];have w:=λq u=>w q u (a.zV u) (by have:=Pred.rZ u;omega) (n-1) (by have:=Pred.rZ u;omega);show∃b,ig t p (iw (λr(z:Z4×Pred)=>ig z.1 z.2 r) (n-1))=some b;generalize iw (λr(z:Z4×Pred)=>ig z.1 z.2 r) (n-1)=R at w⊢;unfold ig;rw[Bf,ζb];by_cases c:p.kind<=8;rw[show(tj p.kind==1)=true from by simp[tj,c],bH];obtain⟨i,ok,g1,-⟩:=Wy d e B p a c 100000 Zaa;exact⟨ok,by rw[show c6 t p=_ from g1];rfl⟩;rw[show(tj p.kind==1)=false from by simp[tj,c],bE];let g:Pred->X':=λq=>(R (t,q)).getD false;have j:∀q∈p.l.l,R (t,q)=some (g q):=λq u=>(by have⟨b,k⟩:=w q u;show _=some ((R (t,q)).getD false);rw[k];rfl);rw[Bp _ a.sm.len,Am (f:=λq=> !g q) (λq u=>by unfold oW;rw[j q u];rfl)];exact⟨_,rfl⟩
theorem YW(a:Small t)(D:(bR t).length<1073741824){p:Pred}(B:p.Sm):
 ∃e,rQ t p=some e/\(e=0->cH t=some true/\VT t/\uI p=true/\wR t p):=by
 obtain⟨z,c,w,-⟩:=Ln a D;unfold rQ;rw[c,ζb]
 cases z with
 |false=>exact⟨1,rfl,λh=>by cases h⟩|true=>
  have d:=w rfl;rw[bH,Az B,ζb]
  cases C:uI p with
  |false=>exact⟨1,rfl,λh=>by cases h⟩|true=>
   have u:=C;simp only[uI,ζh]at u;have hd:=of_decide_eq_true u.2.1;unfold vf;rw[show(!true)=false from rfl,ζb,bE,KD a B Zaa,ζb]
   cases g:p.lJ (s7 t)with
   |false=>exact⟨13,rfl,λh=>by cases h⟩|true=>
    rw[bH,Io B Zaa,ζb]
    cases G:p.lJ yZ with
    |false=>exact⟨14,rfl,λh=>by cases h⟩|true=>
     have f:wR t p:=⟨B,u.2.2,g,G⟩;have⟨b,g1⟩:=Za a c d.ok p f hd 100000 Zaa
     rw[bH,g1,ζb]
     cases b with
     |false=>exact⟨9,rfl,λh=>by cases h⟩|true=>exact⟨0,rfl,λ_=>⟨rfl,d,rfl,f⟩⟩
end
theorem yO{a b x:Int}(B:-1125899906842624<=a/\a<=1125899906842624)(D:-1125899906842624<=b/\b<=1125899906842624)(h:ij a b=some x)(G:-1125899906842624<=x/\x<=1125899906842624):a*b=x:=by
 unfold ij qR at h;by_cases c:a=0;subst c;rw[show(0:Int)*b=0 from Zaa];exact Option.some.inj h;rw[show(a==0)=false from by simpa using c,bE,ζb]at h;by_cases d:b=0;subst d;rw[show a*(0:Int)=0 from Zaa];exact Option.some.inj h;rw[show(b==0)=false from by simpa using d,bE,ζb,ζb,eB (0-b) Zaa Zaa,eB (0-a) Zaa Zaa]at h;have u:0<(if 0-b>b then 0-b else b):=by split<;>omega
 unfold AB at h;rw[if_neg Zaa,ζb,Int.tdiv_eq_ediv_of_nonneg Zaa]at h;have hd:(1125899906842624:Int) / (if 0-b>b then 0-b else b)<=1125899906842624:=Int.ediv_le_self _ Zaa;have w:0<=(1125899906842624:Int) / (if 0-b>b then 0-b else b):=Int.ediv_nonneg Zaa Zaa;rw[eB ((1125899906842624:Int) / (if 0-b>b then 0-b else b)) Zaa Zaa]at h;by_cases e:(if 0-a>a then 0-a else a)>(1125899906842624:Int) / (if 0-b>b then 0-b else b);rw[decide_eq_true e,bH,eB (0-1125899906842625) Zaa Zaa]at h;exfalso;revert h;cases(decide (a<0)==decide (b<0))<;>intro h;have:=Option.some.inj h;omega;have:=Option.some.inj h;omega;rw[decide_eq_false e,bE]at h;have z:=Y3 (Int.mul_le_of_le_ediv u (show(if 0-a>a then 0-a else a)<=(1125899906842624:Int) / (if 0-b>b then 0-b else b)from Zaa));rw[eB (a*b) Zaa Zaa]at h;exact Option.some.inj h
def M9(k x y:Int):Int:=if k=5 then 0-x else if k=6 then x+y else if k=7 then x-y else x*y
theorem JZ{p:Pred}(i:5<=p.kind/\p.kind<=8){a b c d x y:Int}(g:uw a b)(U:uw c d)(D:a<=x/\x<=b)(G:c<=y/\y<=d)(v:bU)(r:Z4×Pred->a_ (bU×X')):
 ∃f e,c6.J1 true true p v ⟨a,b⟩ ⟨c,d⟩ r=some (⟨f,e⟩,zC f e)/\f<=e/\(zC f e=true->f<=M9 p.kind x y/\M9 p.kind x y<=e):=by
 have⟨a1,a2,a3⟩:=g;have⟨Z,j,k⟩:=U;unfold c6.J1;rw[bH,ζb,show(!true)=false from rfl,bE];rcases(show p.kind=5\/p.kind=6\/p.kind=7\/p.kind=8 by omega)with h|h|h|h<;>rw[h]
 .refine⟨-b,-a,?_,Zaa,λ_=>?_⟩
  .rw[show((5:Int)==5)=true from rfl,bH,GV];simp only;rw[eB (0-b) Zaa Zaa,eB (0-a) Zaa Zaa,show(0:Int)-b=-b from Zaa,show(0:Int)-a=-a from Zaa]
  show -b<=(0-x)/\(0-x)<=-a;omega
 .refine⟨a+c,b+d,?_,Zaa,λ_=>?_⟩
  .rw[show((6:Int)==5)=false from rfl,bE,show((6:Int)==6)=true from rfl,bH,GV];simp only;rw[eB (a+c) Zaa Zaa,eB (b+d) Zaa Zaa]
  show a+c<=(x+y)/\(x+y)<=b+d;omega
 .refine⟨a-d,b-c,?_,Zaa,λ_=>?_⟩
  .rw[show((7:Int)==5)=false from rfl,bE,show((7:Int)==6)=false from rfl,bE,show((7:Int)==7)=true from rfl,bH,GV];simp only;rw[eB (a-d) Zaa Zaa,eB (b-c) Zaa Zaa]
  show a-d<=(x-y)/\(x-y)<=b-c;omega
 have⟨w,I⟩:=oa (a:=a) (b:=c) ⟨Zaa,Zaa⟩ ⟨Zaa,Zaa⟩
 have⟨z,J⟩:=oa (a:=a) (b:=d) ⟨Zaa,Zaa⟩ ⟨Zaa,Zaa⟩
 have⟨m,O⟩:=oa (a:=b) (b:=c) ⟨Zaa,Zaa⟩ ⟨Zaa,Zaa⟩
 have⟨n,Q⟩:=oa (a:=b) (b:=d) ⟨Zaa,Zaa⟩ ⟨Zaa,Zaa⟩
 refine⟨if(if n<m then n else m)<(if z<w then z else w)then(if n<m then n else m)else(if z<w then z else w),if(if n>m then n else m)>(if z>w then z else w)then(if n>m then n else m)else(if z>w then z else w),?_,?_,λB=>?_⟩
 .rw[show((8:Int)==5)=false from rfl,bE,show((8:Int)==6)=false from rfl,bE,show((8:Int)==7)=false from rfl,bE];simp only;rw[I,J,O,Q];simp only[ζb];rw[Uu,ζb,GV]
 .have T:(if n<m then n else m)<=(if n>m then n else m):=by split<;>split<;>omega
  have S:(if z<w then z else w)<=(if z>w then z else w):=by split<;>split<;>omega
  split<;>split<;>omega
 generalize W:(if(if n<m then n else m)<(if z<w then z else w)then(if n<m then n else m)else(if z<w then z else w))=L at B⊢;generalize X:(if(if n>m then n else m)>(if z>w then z else w)then(if n>m then n else m)else(if z>w then z else w))=H at B⊢;simp only[zC,ζh]at B;have o1:=of_decide_eq_true B.1;have o2:=of_decide_eq_true B.2;have l:L<=n/\L<=m/\L<=z/\L<=w:=by rw[<-W];have g1:(if n<m then n else m)<=n/\(if n<m then n else m)<=m:=(by split<;>omega);have g2:(if z<w then z else w)<=z/\(if z<w then z else w)<=w:=(by split<;>omega);generalize(if n<m then n else m)=u at g1;generalize(if z<w then z else w)=Y at g2;split<;>omega
 have o:n<=H/\m<=H/\z<=H/\w<=H:=by rw[<-X];have g1:n<=(if n>m then n else m)/\m<=(if n>m then n else m):=(by split<;>omega);have g2:z<=(if z>w then z else w)/\w<=(if z>w then z else w):=(by split<;>omega);generalize(if n>m then n else m)=u at g1;generalize(if z>w then z else w)=Y at g2;split<;>omega
 have t1:=yO ⟨Zaa,Zaa⟩ ⟨Zaa,Zaa⟩ I Zaa
 have t2:=yO ⟨Zaa,Zaa⟩ ⟨Zaa,Zaa⟩ J Zaa
 have t3:=yO ⟨Zaa,Zaa⟩ ⟨Zaa,Zaa⟩ O Zaa
 have t4:=yO ⟨Zaa,Zaa⟩ ⟨Zaa,Zaa⟩ Q Zaa
 have C:=Wc (lo:=L) (hi:=H) D.1 D.2 G.1 G.2 Zaa Zaa Zaa Zaa
 exact C
section
variable{t:Z4}{A:cq 200 bD}
theorem W_{c:Zg}{l:Zb}(h:Ux t A c l){q:Pred}(E:fB q=true)(g:s7 t q=true)(M:q.kind<=4):
 ∃i d x,gJ t q=some ⟨i,d⟩/\(∀R,cN ⟨t,c,l⟩ q R=some x)/\i<=x/\x<=d:=by
 have⟨o,s,r,y,j,I⟩:=h;obtain⟨k1,-,-⟩:=xy E;rcases(show q.kind=1\/q.kind=2\/q.kind=3\/q.kind=4 by omega)with h|h|h|h
 .refine⟨q.n,q.n,q.n,?_,λR=>?_,Int.le_refl _,Int.le_refl _⟩
  .unfold gJ;rw[show(q.kind==1)=true from by simpa using h,bH,UB];rfl
  unfold cN;rw[h];rfl
 .have⟨n,k,P,v,D,C,J,h1,W⟩:=Qr o h g;have⟨⟨i,d,e⟩,g1,g2,g3,g4⟩:=G_ o s r.ok C (name:=q.name) J h1 W;simp only at g2 g3 g4;subst g2;have S:=(ζe.1 J).1;have B:=(ζe.1 C).1;have⟨a,L⟩:=j.1.at_ B;have⟨a0,a1⟩:=j.1.2 n a P L C;have⟨x,Z,T⟩:=I n P a C L;have G:uY P k a.toNat∈CV P k P.events.l.length:=Rh Zaa
  refine⟨i,d,uY P k a.toNat,?_,λR=>?_,g3.2 _ G,g4.2 _ G⟩
  .unfold gJ;rw[h,show((2:Int)==1)=false from rfl,bE,show((2:Int)==3)=false from rfl,bE,show((2:Int)==4)=false from rfl,bE,D,g1];rfl
  unfold cN;rw[h,show((2:Int)==1)=false from rfl,bE,show((2:Int)==2)=true from rfl,bH];unfold oA;simp only;rw[D,jd,C,ζb,Dv (p:=λz=>kA z q) (f:=λw=>toList w.name==toList q.name) (λ_ _=>rfl) (o.2 P (mem_of_getElem? C)).2.1,Ky J h1 W,ζb,jd,Z,ζb,jd,T,GZ _ S]
  rfl
 .unfold s7 at g;rw[if_neg (by simp[h]),if_pos (by simpa using h)]at g
  simp only[ζh]at g;have⟨n,D,O⟩:=vZ (t:=t) (p:=q.proc) (by simp only[ζh];exact g.1)
  have⟨a,L⟩:=j.1.at_ O;have⟨a0,a1⟩:=j.1.2 n a _ L (ζd O);refine⟨0,len t.procs.l[n].events,a,?_,λR=>?_,Zaa,by simp only[len];omega⟩
  .unfold gJ;rw[h,show((3:Int)==1)=false from rfl,bE,show((3:Int)==3)=true from rfl,bH,D,bJ O];rfl
  unfold cN;rw[h,show((3:Int)==1)=false from rfl,bE,show((3:Int)==2)=false from rfl,bE,show((3:Int)==3)=true from rfl,bH];simp only;rw[D,jd,L];rfl
 unfold s7 at g;rw[if_neg (by simp[h]),if_neg (by simp[h]),if_pos (by simpa using h)]at g
 simp only[ζh]at g;have⟨n,D,O⟩:=vZ (t:=t) (p:=q.proc) (by simp only[ζh];exact g.1)
 have⟨m,X,B⟩:=vZ (t:=t) (p:=q.peer) (by simp only[ζh];exact g.2.1)
 have C:=ζd O;have F:=ζd B;have⟨a,L⟩:=j.1.at_ O;have⟨b,H⟩:=j.1.at_ B;have⟨⟨u,e2⟩,K,U,Q⟩:=Up o s r y j O B;simp only at U Q;rw[Hg r y j C F L H]at Q;have N:((t.procs.l[n].events.l.take a.toNat).countP λe=>gF m e&&rU t c.l e)<=t.procs.l[n].events.l.countP (gF m):=by refine Nat.le_trans (List.countP_mono_left λe _ Y=>?_) (List.Sublist.countP_le (List.take_sublist a.toNat _));simp only[ζh]at Y;exact Y.1
 refine⟨0,((t.procs.l[n].events.l.countP (gF m):Nat):Int),len u,?_,λR=>?_,by simp only[len];omega,by simp only[len];omega⟩
 .unfold gJ;rw[h,show((4:Int)==1)=false from rfl,bE,show((4:Int)==3)=false from rfl,bE,show((4:Int)==4)=true from rfl,bH,D,X,Dj o C];rfl
 unfold cN;rw[h,show((4:Int)==1)=false from rfl,bE,show((4:Int)==2)=false from rfl,bE,show((4:Int)==3)=false from rfl,bE,show((4:Int)==4)=true from rfl,bH];unfold o6;simp only;rw[D,X,K];rfl
noncomputable abbrev Gt(n:Nat)(v:cr)(q:Pred):QQ:=iw (λr(z:cr×Pred)=>cN z.1 z.2 r) n (v,q)
noncomputable abbrev Gb(n:Nat)(t:Z4)(q:Pred):a_ (bU×X'):=iw (λr(z:Z4×Pred)=>dy z.1 z.2 r) n (t,q)
def Z7(t:Z4)(c:Zg)(l:Zb)(q:Pred)(i:bU)(ok:X')(x:Int):Prop:=(∀n,q.dp<=n->Gb n t q=some (i,ok)/\Gt n ⟨t,c,l⟩ q=some x)/\(ok=true->∃b a,i=⟨b,a⟩/\uw b a/\b<=x/\x<=a)
theorem uw.HE{a b c d x y k f e:Int}(g:uw a b)(D:uw c d)(G:a<=x/\x<=b)(J:c<=y/\y<=d)(B:zC f e=true)(h:f<=M9 k x y/\M9 k x y<=e):HE k x y=M9 k x y:=by simp only[zC,ζh]at B;have o1:=of_decide_eq_true B.1;have o2:=of_decide_eq_true B.2;have⟨a1,a2,a3⟩:=g;have⟨u,w,z⟩:=D;unfold VE.HE M9 at *;split;exact eB _ Zaa Zaa;split;exact eB _ Zaa Zaa;split;exact eB _ Zaa Zaa;rw[if_neg (by assumption),if_neg (by assumption),if_neg (by assumption)]at h;exact eB _ Zaa Zaa
theorem YU{c:Zg}{l:Zb}(h:Ux t A c l)(q:Pred):wR t q->q.kind<=8->∃i ok x,Z7 t c l q i ok x:=by induction q using Pred.ind with|h q O=>intro o hk;have hd:=q.zH;have⟨Q,N,hy⟩:=o.here;obtain⟨k1,-,-⟩:=xy Q;have O:=λq Z=>O q Z (o.zV Z) (o.int Zaa Z);by_cases P:q.kind<=4;have V:q.l.l.length=0:=(by have:=Pred.parts Q (c:=0) (by rcases(show q.kind=1\/q.kind=2\/q.kind=3\/q.kind=4 by omega)with h|h|h|h<;>(rw[h];rfl));omega);have⟨k,f,x,g1,g2,g3,g5⟩:=W_ h Q N P;refine⟨⟨k,f⟩,zC k f,x,λn w=>⟨?_,?_⟩,λab=>⟨k,f,rfl,uw.of Zaa ab,g3,g5⟩⟩;unfold Gb;rw[lG Zaa];show dy t q _=_;unfold dy;rw[show(len q.l==0)=true from by simp[len,V],bH,g1,ζb,DL,ζb,not_not];unfold Gt;rw[lG Zaa];exact g2 _;have u:∀j:Int,j<5->(q.kind==j)=false:=λj hj=>(by simp;omega);by_cases F:q.kind=5;have S:q.l.l.length=1:=(by have:=Pred.parts Q (c:=1) (by rw[F];rfl);omega);have m:0<q.l.l.length:=Zaa;have⟨i,ok,x,g,g3⟩:=O _ (getElem_mem m);have ad:=Pred.rZ (getElem_mem m);have T:idx q.l 0=some q.l.l[0]:=bJ (i:=0) m;have D:∀n,q.dp<=n->Gb n t q=c6.J1 ok true q ⟨0,0⟩ i i (λ_=>none):=λn w=>(by have e:=(g (n-1) Zaa).1;unfold Gb at e⊢;rw[lG Zaa];show dy t q _=_;generalize iw (λr(z:Z4×Pred)=>dy z.1 z.2 r) (n-1)=R at e⊢;unfold dy;rw[show(len q.l==0)=false from by simp[len,S],bE,T,ζb,e,ζb,show(len q.l==2)=false from by simp[len,S],bE];rfl);have B:∀n,q.dp<=n->Gt n ⟨t,c,l⟩ q=some (HE q.kind x x):=λn w=>(by have e:=(g (n-1) Zaa).2;unfold Gt at e⊢;rw[lG Zaa];show cN ⟨t,c,l⟩ q _=_;generalize iw (λr(z:cr×Pred)=>cN z.1 z.2 r) (n-1)=R at e⊢;unfold cN;rw[u 1 Zaa,u 2 Zaa,u 3 Zaa,u 4 Zaa,bE,bE,bE,bE,F,show((5:Int)==5)=true from rfl,bH,T,ζb,e];rfl);(cases ok with|false=>rw[EY rfl]at D;exact⟨_,false,_,λn w=>⟨D n w,B n w⟩,λh=>by cases h⟩|true=>obtain⟨a,b,rfl,G,I,x2⟩:=g3 rfl;have⟨k,f,s,v,U⟩:=JZ (p:=q) ⟨Zaa,Zaa⟩ G G ⟨I,x2⟩ ⟨I,x2⟩ ⟨0,0⟩ (λ_=>none);refine⟨_,_,_,λn w=>⟨(D n w).trans s,B n w⟩,λh=>⟨k,f,rfl,uw.of v h,?_⟩⟩;rw[uw.HE G G ⟨I,x2⟩ ⟨I,x2⟩ h (U h)];exact U h);have W:q.l.l.length=2:=(by have:=Pred.parts Q (c:=2) (by rcases(show q.kind=6\/q.kind=7\/q.kind=8 by omega)with h|h|h<;>(rw[h];rfl));omega);have m:0<q.l.l.length:=Zaa;have E:1<q.l.l.length:=Zaa;have⟨i,ok,x,g,g3⟩:=O _ (getElem_mem m);have⟨j,C,y,H,q3⟩:=O _ (getElem_mem E);have ad:=Pred.rZ (getElem_mem m);have ae:=Pred.rZ (getElem_mem E);have T:idx q.l 0=some q.l.l[0]:=bJ (i:=0) m;have X:idx q.l 1=some q.l.l[1]:=bJ (i:=1) E;have D:∀n,q.dp<=n->Gb n t q=c6.J1 ok C q ⟨0,0⟩ i j (λ_=>none):=λn w=>(by have e:=(g (n-1) Zaa).1;have J:=(H (n-1) Zaa).1;unfold Gb at e J⊢;rw[lG Zaa];show dy t q _=_;generalize iw (λr(z:Z4×Pred)=>dy z.1 z.2 r) (n-1)=R at e J⊢;unfold dy;rw[show(len q.l==0)=false from by simp[len,W],bE,T,X];simp only[ζb];simp only[e,J,ζb];rw[show(len q.l==2)=true from by simp[len,W]];rfl);have B:∀n,q.dp<=n->Gt n ⟨t,c,l⟩ q=some (HE q.kind x y):=λn w=>(by have e:=(g (n-1) Zaa).2;have J:=(H (n-1) Zaa).2;unfold Gt at e J⊢;rw[lG Zaa];show cN ⟨t,c,l⟩ q _=_;generalize iw (λr(z:cr×Pred)=>cN z.1 z.2 r) (n-1)=R at e J⊢;unfold cN;rw[u 1 Zaa,u 2 Zaa,u 3 Zaa,u 4 Zaa,bE,bE,bE,bE,T,X];simp only[ζb];simp only[e,J,ζb];unfold VE.HE;rcases(show q.kind=6\/q.kind=7\/q.kind=8 by omega)with h|h|h<;>rw[h]<;>rfl);cases L:ok&&C with|false=>simp only[EY L]at D;exact⟨_,false,_,λn w=>⟨D n w,B n w⟩,λh=>by cases h⟩|true=>simp only[ζh]at L;obtain⟨rfl,rfl⟩:=L;obtain⟨a,b,rfl,G,I,x2⟩:=g3 rfl;obtain⟨c',d,rfl,Y,K,M⟩:=q3 rfl;have⟨k,f,s,v,U⟩:=JZ (p:=q) ⟨Zaa,Zaa⟩ G Y ⟨I,x2⟩ ⟨K,M⟩ ⟨0,0⟩ (λ_=>none);refine⟨_,_,_,λn w=>⟨(D n w).trans s,B n w⟩,λh=>⟨k,f,rfl,uw.of v h,?_⟩⟩;rw[uw.HE G Y ⟨I,x2⟩ ⟨K,M⟩ h (U h)];exact U h
noncomputable abbrev Of(n:Nat)(v:cr)(q:Pred):a_ X':=iw (λr(z:cr×Pred)=>dS z.1 z.2 r) n (v,q)
theorem wR.bool{q:Pred}(a:wR t q)(g:13<=q.kind){k:Pred}(b:k∈q.l.l):9<=k.kind:=by have:=a.here.2.2;unfold yZ at this;rw[all_eq_true]at this;have:=this k b;unfold Cr tj at this;rw[if_neg (show¬q.kind<=12 by omega)]at this;by_cases u:k.kind<=8;rw[if_pos u]at this;cases this;omega
theorem Yg{q:Pred}(k2:q.kind<=21)(h:q.lJ (λk=> !B9 k)=true):q.kind<=17/\∀k∈q.l.l,k.lJ (λk=> !B9 k)=true:=by rw[q.o7,ζh,all_eq_true]at h;refine⟨?_,h.2⟩;have:=h.1;unfold B9 at this;by_cases g:q.kind>=18;rw[decide_eq_true g,decide_eq_true k2]at this;cases this;omega
theorem SJ{c:Zg}{l:Zb}(h:Ux t A c l)(q:Pred):wR t q->9<=q.kind->q.dp<=20->q.lJ (λk=> !B9 k)=true->∃x,∀n,q.dp<=n->Of n ⟨t,c,l⟩ q=some x:=by induction q using Pred.ind with|h q O=>intro a d W G;have hd:=q.zH;have⟨I,j,m⟩:=a.here;obtain⟨k1,k2,-⟩:=xy I;have⟨X,G⟩:=Yg Zaa G;have O:=λg q J=>O q J (a.zV J) (a.bool g J) (by have:=Pred.rZ J;omega) (G q J);have B:∀n,q.dp<=n->Of n ⟨t,c,l⟩ q=dS ⟨t,c,l⟩ q (λz=>Of (n-1) z.1 z.2):=λn C=>(by unfold Of;rw[lG Zaa]);by_cases S:q.kind<=12;have Z:=Pred.parts I (c:=2) (by rcases(show q.kind=9\/q.kind=10\/q.kind=11\/q.kind=12 by omega)with g|g|g|g<;>(rw[g];rfl));have u:0<q.l.l.length:=Zaa;have w:1<q.l.l.length:=Zaa;have D:∀k∈q.l.l,∃x,e_ ⟨t,c,l⟩ k=some x:=λk d=>(by obtain⟨i,ok,x,g,-⟩:=YU h k (a.zV d) (a.int S d);exact⟨x,(g 100000 (by have:=Pred.rZ d;omega)).2⟩);have⟨x,Q⟩:=D _ (getElem_mem u);have⟨y,T⟩:=D _ (getElem_mem w);have key:∀R,∃b,dS ⟨t,c,l⟩ q R=some b/\∀e,dS ⟨t,c,l⟩ q e=some b:=λR=>(by unfold dS;rw[show idx q.l 0=some q.l.l[0]from bJ (i:=0) u,show idx q.l 1=some q.l.l[1]from bJ (i:=1) w];simp only[ζb,Q,T];rcases(show q.kind=9\/q.kind=10\/q.kind=11\/q.kind=12 by omega)with g|g|g|g<;>rw[g]<;>exact⟨_,rfl,λ_=>rfl⟩);obtain⟨b,-,f⟩:=key (λ_=>none);exact⟨b,λn C=>by rw[B n C,f]⟩;by_cases o:q.kind<=14;refine⟨q.kind==13,λn C=>?_⟩;rw[B n C];unfold dS eP.J1;rcases(show q.kind=13\/q.kind=14 by omega)with g|g<;>rw[g]<;>rfl;have u:0<q.l.l.length:=(by rcases(show q.kind=15\/q.kind=16\/q.kind=17 by omega)with g|g|g;have:=Pred.parts I (c:=1) (by rw[g];rfl);omega;have:=Pred.parts I (c:=2) (by rw[g];rfl);omega;have:=Pred.parts I (c:=2) (by rw[g];rfl);omega);have⟨x,Q⟩:=O Zaa _ (getElem_mem u);have p:=Pred.rZ (getElem_mem u);have L:idx q.l 0=some q.l.l[0]:=bJ (i:=0) u;by_cases g:q.kind=15;refine⟨!x,λn C=>?_⟩;rw[B n C];unfold dS eP.J1;rw[L,g];simp only[ζb,Q (n-1) Zaa];rfl;have w:1<q.l.l.length:=(by have:=Pred.parts I (c:=2) (by rcases(show q.kind=16\/q.kind=17 by omega)with g|g<;>(rw[g];rfl));omega);have⟨y,T⟩:=O Zaa _ (getElem_mem w);have Y:=Pred.rZ (getElem_mem w);have U:idx q.l 1=some q.l.l[1]:=bJ (i:=1) w;refine⟨if q.kind=16 then x&&y else x||y,λn C=>?_⟩;rw[B n C];unfold dS eP.J1;rw[L,U];simp only[ζb,Q (n-1) Zaa,T (n-1) Zaa];rcases(show q.kind=16\/q.kind=17 by omega)with g|g<;>rw[g]<;>cases x<;>rfl
end
section
variable{t:Z4}{A:cq 200 bD}{L:aZ ST}{tb:Sl X'}{x:b_}
theorem Qt(d:VT t)(B:fC t A L)(D:x.truth=tb)(J:EB L (nF x.index))(G:tb.l.length=L.length){out:Zb}(U:out.l.length<=5000)
 (W:∀z∈out.l,z=.nil\/Cons t A z.l):nK x out=some (!out.l.any λz=> !z.l.isEmpty&& !uL tb (L.idxOf z.l)):=by
 have w:=d.ok.one;unfold nK;rw[uu (p:=λz=>jO z (some x)) (f:=λz=> !z.l.isEmpty&& !uL tb (L.idxOf z.l)) (λz I=>?_) Zaa]
 .rfl
 unfold jO;rcases W z I with rfl|c
 .rfl
 have u:0<z.l.length:=by rw[c.1.1];omega
 have C:=(B.mem _).2 c;rw[yR u,ζb,bE,ζb,ζb,zS (yh d c) (by rw[c.1.1];exact d.few),ζb,J.get _ C,D,
  Ml (by rw[G];exact List.idxOf_lt_length_of_mem C),ζb,ζb]
 rw[show z.l.isEmpty=false from by cases h:z.l with
  |nil=>rw[h]at u;exact absurd u (by decide)|cons a b=>rfl]
 rfl
def Ans(t:Z4)(A:cq 200 bD)(L:aZ ST)(f:Nat->X')(a:X')(c:ST)(q:Zg×Int):Prop:=(a=false/\q=(.nil,15))\/(a=true/\((q=(.nil,7)/\∀d,zG L f d->¬eC c d)\/∃w,q=(w,0)/\zG L f w.l/\eC c w.l/\∀d,zG L f d->eC c d->eC w.l d))
theorem Tz(e:Small t)(l:cH t=some true)(a:VT t)(f:fN t (bR t) A)(B:fC t A L)(m:L.length<=5000)(J:ins x.l=L)(U:x.t=t)(D:x.truth=tb)(W:EB L (nF x.index))(G:tb.l.length=L.length):
 ∃n,∀c:Zg,Cons t A c.l->∃q,gI x c=some q/\Ans t A L (uL tb) n c.l q:=by
 have F:=a.ok.one;have⟨out,p,H,g⟩:=Hx e a f B m J D W G;have r:∀z∈out.l,z=.nil\/Cons t A z.l:=λz s=>by have⟨i,hi⟩:=List.getElem?_of_mem s;have K:=(ζe.1 hi).1;have⟨o,g1,g2⟩:=g i _ (ζd (show i<L.length by omega));rw[hi]at g1;cases g1;rcases g2 with⟨h,_⟩|⟨h,_⟩;exact .inl h;exact .inr h
 have O:=Qt a B D W G (out:=out) Zaa r
 refine⟨!out.l.any λz=> !z.l.isEmpty&& !uL tb (L.idxOf z.l),λc b=>?_⟩
 have j:=(B.mem _).2 b;have⟨cb,Q,I⟩:=(U3 e l a f c).eq;have S:cb=true:=I.2 b;subst S;have⟨o,g1,g2⟩:=g _ _ (tD j);have T:idx out (L.idxOf c.l:Int)=some o:=by rw[jd];exact g1
 unfold gI;rw[U,Q,ζb,bH,p,ζb,zS (yh a b) (by rw[b.1.1];exact a.few),ζb,W.get _ j]
 unfold nH;rw[O,ζb]
 cases k: !out.l.any λz=> !z.l.isEmpty&& !uL tb (L.idxOf z.l)with
 |false=>exact⟨_,rfl,.inl ⟨rfl,rfl⟩⟩|true=>
  rw[bH,T,ζb];rcases g2 with⟨rfl,X⟩|⟨C,Y,Z,-⟩
  .exact⟨_,rfl,.inr ⟨rfl,.inl ⟨rfl,X⟩⟩⟩
  have u:0<o.l.length:=by rw[C.1.1];omega
  have⟨w,k1,k2⟩:=tA (c:=o) (by rw[C.1.1];have:=a.few;omega) u
  have v:=(B.mem _).2 C;have y:uL tb (L.idxOf o.l)=true:=by simp only[Bool.not_eq_true',List.any_eq_false,ζh,Bool.not_eq_true,not_and,Bool.not_eq_false']at k;have:=k o (mem_of_getElem? g1);cases E:uL tb (L.idxOf o.l)with|true=>rfl|false=>rw[E]at this;cases d:o.l.isEmpty with|false=>rw[d]at this;simp at this|true=>rw[List.isEmpty_iff]at d;rw[d]at u;exact absurd u (by decide)
  rw[yR u,ζb,bE,ζb,k1];exact⟨_,rfl,.inr ⟨rfl,.inr ⟨w,rfl,by rw[k2];exact⟨v,y⟩,by rw[k2];exact Y,by rw[k2];exact Z⟩⟩⟩
end
theorem F_{b c:X'}:bl b (some true) (some c)=some (b||c):=by cases b<;>rfl
section
variable{t:Z4}
theorem Xh(a:Small t)(G:(bR t).length<1073741824):∃b,dx t=some b:=by
 suffices h:Wp (dx t) λ_=>True by obtain⟨b,I,-⟩:=h;exact⟨b,I⟩
 have g:=a.1;obtain⟨v,-,w,B⟩:=Cb a G;obtain⟨J,C,u,-⟩:=Cb a G;have D:v=J:=by rw[w]at u;exact Option.some.inj u
 subst D;have ok:∀b:X',Wp (some b) λ_=>True:=λb=>(bg _).2 trivial;unfold dx;rw[b9];refine⟨λ_=>ok _,λ_=>?_⟩;unfold dx.W1;refine fD t.procs.l.length (λi(q:Int×Int)=>q.2=(i:Int)) rfl ?_ ?_;rintro i ⟨n,_⟩ hi e;simp only at e;subst e;unfold dx.br;dsimp only;rw[iL hi,bH,bJ hi,ζb,qg (p:=λz=>nU z) (f:=λx=>decide (len x.assign>12)) (λx _=>rfl) (a.2 _ (getElem_mem hi)).1,ζb,F_,ζb,b9];exact⟨λ_=>(bg _).2 (ok _),λ_=>(bg _).2 (cM i Zaa)⟩;rintro⟨n,_⟩ e;simp only at e;subst e;unfold dx.br;dsimp only;rw[jm,bE,bg];show Wp (bl _ _ _) _;rw[b9];refine⟨λ_=>ok _,λ_=>?_⟩;rw[w,ζb];cases v with|false=>exact ok _|true=>rw[bH,b9];refine⟨λ_=>?_,λ_=>?_⟩;unfold dx.W2;refine fD t.procs.l.length (λi(q:Int×Int)=>q.2=(i:Int)) rfl ?_ ?_;rintro i ⟨n,_⟩ hi e;simp only at e;subst e;unfold dx.bT;dsimp only;rw[iL hi,bH,bJ hi,ζb,qg (p:=λz=>od z) (f:=λx=>x.kind==3) (λx _=>rfl) (a.2 _ (getElem_mem hi)).1,ζb,b9];exact⟨λ_=>(bg _).2 (ok _),λ_=>(bg _).2 (cM i Zaa)⟩;rintro⟨n,_⟩ e;simp only at e;subst e;unfold dx.bT;dsimp only;rw[jm,bE,bg];exact ok _;have c:=B rfl;obtain⟨A,-,-,d⟩:=c.msgs;rcases AD a C c d with⟨L,r,s,-,-,-,h,-⟩|⟨-,h⟩;rw[h,ζb];exact ok _;rw[h,ζb];exact ok _
theorem KY:∀(n:Nat)(p:Pred),p.Sm->∀l d:Int,0<=l->l<=300->0<=d->d<=61->62<=(n:Int)+d->
 ∃b m,iw (λr(z:Pred×Int×Int)=>jX z.1 z.2.1 z.2.2 r) n (p,l,d)=some (b,m)/\-1<=m/\m<=l/\(b=true->0<=m)
 |0,p,B,l,d,h1,J,U,W,D=>absurd D Zaa|n+1,p,B,l,d,h1,J,U,W,D=>by have G:=KY n;rw[lG (Nat.succ_pos n)];show∃b m,jX p l d (iw (λr(z:Pred×Int×Int)=>jX z.1 z.2.1 z.2.2 r) n)=some (b,m)/\_;generalize iw (λr(z:Pred×Int×Int)=>jX z.1 z.2.1 z.2.2 r) n=R at G⊢;unfold jX;rw[eB _ Zaa Zaa];by_cases c:0<=l-1;rw[decide_eq_true (show l-1>=0 from c),bH,ζb];by_cases C:d<=60;rw[decide_eq_true C,bH];(cases I:decide (((ByteArray.size p.name:Nat):Int)<=100)with|false=>exact⟨false,l-1,rfl,Zaa,Zaa,λh=>by cases h⟩|true=>rw[ζb,bH,GA (by have:=B.len;omega)];have key:∀(u:aZ Pred),(∀k∈u,k.Sm)->∀s:Int,0<=s->s<=299->∃b m,wO (λx s=>ku x d s R) u s=some (b,m)/\-1<=m/\m<=s/\(b=false->0<=m):=(by intro u;induction u with|nil=>intro _ s g1 g2;exact⟨false,s,rfl,Zaa,Zaa,λ_=>g1⟩|cons k r w=>intro a s g1 g2;have⟨b,m,e1,e2,e3,e4⟩:=G k (a k (List.mem_cons_self ..)) s (d+1) g1 Zaa Zaa Zaa Zaa;have e:ku k d s R=some (!b,m):=(by unfold ku;rw[eB _ Zaa Zaa,e1];rfl);show∃b m,((ku k d s R).bind λy=>if y.1 then some (true,y.2)else wO (λx s=>ku x d s R) r y.2)=some (b,m)/\_;rw[e,ζb];cases b with|false=>exact⟨true,m,rfl,e2,e3,λh=>by cases h⟩|true=>have⟨L,m',k1,k2,k3,k4⟩:=w (λx O=>a x (mem_cons_of_mem _ O)) m (e4 rfl) Zaa;refine⟨L,m',?_,k2,Zaa,k4⟩;exact k1);have⟨b,m,e1,e2,e3,e4⟩:=key p.l.l (λk a=>B.zV a) (l-1) c Zaa;rw[e1,ζb,ζb];exact⟨!b,m,rfl,e2,Zaa,λh=>e4 (by cases b;rfl;cases h)⟩);rw[decide_eq_false C,bE];exact⟨false,l-1,rfl,Zaa,Zaa,λh=>by cases h⟩;rw[decide_eq_false (show¬l-1>=0 from c),bE];exact⟨false,l-1,rfl,Zaa,Zaa,λh=>by cases h⟩
theorem aah(a:Small t)(D:(bR t).length<1073741824){p:Pred}(B:p.Sm):∃b,rX t p=some b:=by have⟨s,d⟩:=Xh a D;unfold rX;rw[d,ζb];cases s with|false=>exact⟨_,rfl⟩|true=>obtain⟨b,m,e,-⟩:=KY 100000 p B 300 0 Zaa Zaa Zaa Zaa Zaa;have u:zb p 300 0=some (b,m):=e;have w:=count_eq p B 100000 200 Zaa Zaa;have z:kM p 200=_:=w;have c:∃k,sF p=some k:=⟨_,by unfold sF;rw[z];rfl⟩;have⟨k,c⟩:=c;rw[bH,u,ζb,ζb];cases b with|false=>exact⟨_,rfl⟩|true=>simp only;rw[bH,c,ζb,ζb,F_];exact⟨_,rfl⟩
end
section
variable{t:Z4}{A:cq 200 bD}{L:aZ ST}{tb:Sl X'}{x:b_}
def Yh(L:aZ ST)(c:ST):S':=(range c.length).filterMap λp=>if bump c p (-1)∈L then some (L.idxOf (bump c p (-1)))else none
theorem M5{L:aZ ST}{c:ST}{k:Nat}:k∈Yh L c↔∃p,p<c.length/\bump c p (-1)∈L/\k=L.idxOf (bump c p (-1)):=by
 unfold Yh;rw[List.mem_filterMap];constructor;rintro⟨p,u,h⟩;split at h;next w=>cases h;exact⟨p,mem_range.1 u,w,rfl⟩
 cases h;rintro⟨p,u,w,rfl⟩;exact⟨p,mem_range.2 u,by rw[if_pos w]⟩
theorem YC(h:fC t A L){i k:Nat}{c:ST}(hi:L[i]?=some c)(b:k∈Yh L c):k<i:=by obtain⟨p,u,w,rfl⟩:=M5.1 b;refine h.lt (tD w) hi ?_;have a:c[p]?=some c[p]:=ζd u;unfold bump;rw[p_ a,a];show c.sum-c[p]+(c[p]+-1)<c.sum;omega
theorem S4{c:ST}{p:Nat}{a:Int}(h:c[p]?=some a)(q:Nat):(bump c p (-1))[q]?=if p=q then some (a+-1)else c[q]?:=by have u:=(ζe.1 h).1;unfold bump;rw[h,getElem?_set];by_cases e:p=q;subst e;rw[if_pos rfl,if_pos rfl,if_pos u];rfl;rw[if_neg e,if_neg e]
theorem G9{c:ST}{p:Nat}(h:p<c.length):bump (bump c p 1) p (-1)=c:=by have a:=ζd h;have u:=tc a p;rw[if_pos rfl]at u;refine List.ext_getElem? λq=>?_;rw[S4 u,tc a];by_cases e:p=q;subst e;rw[if_pos rfl,a];congr 1;omega;rw[if_neg e,if_neg e]
theorem H7(b:VT t)(f:fN t (bR t) A)(B:fC t A L){c:ST}(a:Cons t A c):∀(n:Nat){d:ST},Cons t A d->eC d c->d≠c->L.length<=L.idxOf d+n->∃p,p<c.length/\bump c p (-1)∈L/\eC d (bump c p (-1))
 |0,d,G,D,J,W=>absurd (List.idxOf_lt_length_of_mem ((B.mem _).2 G)) Zaa|n+1,d,G,D,J,W=>by have U:=(B.mem _).2 G;have⟨p,u,w,C⟩:=FP b f B G D c.sum.toNat a (eC.refl c) Zaa (λh=>J (eC.same D h));have z:d.length=c.length:=G.1.1.trans a.1.1.symm;by_cases e:bump d p 1=c;refine⟨p,Zaa,?_,?_⟩;rw[<-e,G9 u];exact U;rw[<-e,G9 u];exact eC.refl _;have I:=(Jj B (tD U) (CL.2 ⟨p,u,w,rfl⟩)).1;have⟨q,k1,k2,k3⟩:=H7 b f B a n ((B.mem _).1 w) C e Zaa;exact⟨q,k1,k2,(z8 u).trans k3⟩
end
section
variable{t:Z4}{A:cq 200 bD}{L:aZ ST}{tb:Sl X'}{x:b_}
end
section
variable{t:Z4}
theorem Uh(f:Small t)(E:(bR t).length<1073741824){p:Pred}(U:p.Sm):
 ∃r tb e,iB t p=some (r,tb,e)/\(e=0->cH t=some true/\∃(A:cq 200 bD)(_:VT t)(_:fN t (bR t) A)(L:aZ ST),fC t A L/\L.length<=5000/\pP t=some (r,0)/\ins r=L/\tb.l.length=L.length):=by
 have⟨e,j,G⟩:=YW f E U;unfold iB;rw[j,ζb]
 by_cases I:e=0
 .subst I;have⟨g,a,J,m⟩:=G rfl;obtain⟨A,-,-,i⟩:=a.msgs;have hd:=J;simp only[uI,ζh,decide_eq_true_eq]at hd;unfold vr;rw[show((0:Int)==0)=true from rfl,bH,Sh J m,ζb];simp only;rw[show((0:Int)==0)=true from rfl,bH,ζb]
  cases d:tj p.kind==2 with
  |false=>exact⟨_,_,14,rfl,λh=>by cases h⟩|true=>
   have d:tj p.kind=2:=by simpa using d
   have F:9<=p.kind:=by unfold tj at d;by_cases h:p.kind<=8;rw[if_pos h]at d;cases d;omega
   rw[show(!true)=false from rfl,bE,ζb,show((0:Int)==0)=true from rfl,bH,KO U,J,ζb]
   cases H:p.lJ λq=> !B9 q with
   |false=>exact⟨_,_,15,rfl,λh=>by cases h⟩|true=>
    rw[show(true&& !true)=false from rfl,bE];rcases AD f g a i with⟨L,r,s,u,O,B,-,k,-⟩|⟨B,-⟩
    .have Q:pP t=some (r,0):=by unfold pP;rw[B];rfl
     rw[Q,ζb];simp only;rw[show((0:Int)==0)=true from rfl,bH];have C:∀c∈r.l,∃l b,jh t c=some (l,0)/\eP ⟨t,c,l⟩ p=some b:=λc S=>by have v:Cons t A c.l:=(u.mem _).1 (by rw[<-k];exact qo.2 ⟨c,S,rfl⟩);have⟨⟨l,z⟩,j,W,G,X⟩:=ZF f g a i v;simp only at W G X;subst W;have⟨b,K⟩:=SJ (⟨f,g,a,i,v,X⟩:Ux t A c l) p m F Zaa H;exact⟨l,b,j,K 100000 Zaa⟩
     have T:r.l.length=L.length:=by rw[<-k,lE]
     have p1:Wp (iB.W1 r (Sl.nil:Sl X') r (len r) 0 t p) λw=>w.1=r/\w.2.1.l.length=r.l.length/\w.2.2=0:=by unfold iB.W1;refine fD r.l.length (λn s=>s.2=(n:Int)/\s.1.l.length=n) ⟨rfl,rfl⟩ ?_ ?_;rintro n ⟨o,_⟩ D ⟨e1,e2⟩;simp only at e1 e2;subst e1;have⟨l,b,M,x2⟩:=C _ (getElem_mem D);have⟨o2,k1,k2⟩:=nM (s:=o) (x:=b) Zaa;unfold iB.br;rw[iL D,bH,bJ D,ζb,M,ζb];simp only;rw[show((0:Int)==0)=true from rfl,bH,x2,ζb,k1,ζb,bg,cM n Zaa];exact⟨rfl,by show o2.l.length=_;rw[k2];simp[e2]⟩;rintro⟨o,_⟩ ⟨e1,e2⟩;simp only at e1 e2;subst e1;unfold iB.br;rw[jm,bE,bg];exact(bg _).2 ⟨rfl,e2,rfl⟩
     have⟨⟨w,tb,e⟩,N,Y,Z,y⟩:=p1;simp only at Y Z y;subst Y y;exact⟨_,tb,0,N,λ_=>⟨g,A,a,i,L,u,O,rfl,k,by rw[Z,T]⟩⟩
    have Q:pP t=some (.nil,16):=by unfold pP;rw[B];rfl
    rw[Q];exact⟨_,_,16,rfl,λh=>by cases h⟩
 rw[show(e==0)=false from by simpa using I,bE]
 exact⟨_,_,e,rfl,λh=>absurd h I⟩
variable{A:cq 200 bD}{L:aZ ST}{tb:Sl X'}{x:b_}
theorem Py(a:VT t):Cons t A (replicate t.procs.l.length 0):=((Oz (t:=t) (A:=A) (z:=.row (replicate t.procs.l.length 0)) rfl _).1 (by simp[ins,Sl.l])).1
theorem GY(f:VT t)(g:fN t (bR t) A)(B:fC t A L){c d:ST}(b:L[0]?=some c)(D:Cons t A d):eC c d:=by have a:=(B.mem _).1 (mem_of_getElem? b);have u:c.length=d.length:=a.1.1.trans D.1.1.symm;have w:=qz.of tg u;obtain⟨C,z,-⟩:=w.le_min u;have G:=HC a D w;by_cases e:zipWith tg c d=c;rw[e]at z;exact z;obtain⟨p,I,J,-⟩:=H7 f g B a L.length G C e Zaa;exact absurd (YC B b (M5.2 ⟨p,I,J,rfl⟩)) Zaa
end
theorem US:∀{c m:ST},eC c m->c=m\/∃(i:Nat)(a b:Int),(∀j,j<i->c[j]?=m[j]?)/\c[i]?=some a/\m[i]?=some b/\a<b
 |[],[],_=>.inl rfl|[],_::_,h=>nomatch h.1
 |_::_,[],h=>nomatch h.1
 |x::c,y::m,h=>by
  have k:=h.2 0 x y rfl rfl;by_cases e:x=y;subst e;rcases US (c:=c) (m:=m) ⟨by simpa using h.1,λp u v d f=>h.2 (p+1) u v d f⟩with rfl|⟨i,a,b,g,z,B,C⟩;exact .inl rfl;exact .inr ⟨i+1,a,b,λj w=>by
   cases j with
   |zero=>rfl|succ j=>exact g j Zaa,z,B,C⟩
  exact .inr ⟨0,x,y,λj w=>absurd w Zaa,rfl,rfl,Zaa⟩
theorem I6:∀{c:ST}{i:Nat}{a:Int},c[i]?=some a->(c.set i (a+1)).sum=c.sum+1
 |x::c,0,a,h=>by simp at h;subst h;simp;omega|x::c,i+1,a,h=>by have:=I6 (c:=c) (i:=i) (a:=a) (by simpa using h);simp only[List.set_cons_succ,sum_cons,this];omega
theorem CC:∀{a b:ST},eC a b->a.sum<=b.sum
 |[],[],_=>Int.le_refl _|[],_::_,h=>nomatch h.1
 |_::_,[],h=>nomatch h.1
 |x::a,y::b,h=>by have e:=h.2 0 x y rfl rfl;have f:=CC (a:=a) (b:=b) ⟨by simpa using h.1,λp u v c d=>h.2 (p+1) u v c d⟩;simp only[sum_cons];omega
section
variable{t:Z4}{A:cq 200 bD}{L:aZ ST}{tb:Sl X'}{x:b_}
def Cl(t:Z4)(A:cq 200 bD)(b r:ST):Prop:=Cons t A r/\C8 b r/\∀d,Cons t A d->C8 b d->C8 r d
theorem Cl.uniq{b r s:ST}(h:Cl t A b r)(k:Cl t A b s):r=s:=eC.same ⟨h.1.1.1.trans k.1.1.1.symm,h.2.2 s k.1 k.2.1⟩ ⟨k.1.1.1.trans h.1.1.1.symm,k.2.2 r h.1 h.2.1⟩
def Ur(t:Z4)(A:cq 200 bD)(m c c':ST):Prop:=∃(i:Nat)(a b:Int),(∀j,j<i->c[j]?=m[j]?)/\c[i]?=some a/\m[i]?=some b/\a<b/\Cl t A (bump c i 1) c'
theorem WO{c m:ST}(h:eC c m){i:Nat}{a b:Int}(B:c[i]?=some a)(D:m[i]?=some b)(G:a<b):C8 (bump c i 1) m:=λq x y u w=>by
 rw[tc B]at u;split at u;next e=>subst e;cases u;rw[D]at w;cases w;omega
 exact h.2 q x y u w
theorem Ur.up{m c c':ST}(B:Cons t A m)(h:eC c m)(k:Ur t A m c c'):Cons t A c'/\eC c' m/\c.sum+1<=c'.sum:=by obtain⟨i,a,b,-,u,z,w,d,e,C⟩:=k;refine⟨d,⟨d.1.1.trans B.1.1.symm,C m B (WO h u z w)⟩,?_⟩;have D:(bump c i 1).length=c'.length:=u5.trans (h.1.trans (B.1.1.trans d.1.1.symm));have:=CC (⟨D,e⟩:eC (bump c i 1) c');rw[GF u,I6 u]at this;exact this
def Chn(t:Z4)(A:cq 200 bD)(m z:ST)(l:aZ Zg):Prop:=(∀(k:Nat)y,l[k]?=some y->Cons t A y.l/\eC y.l m/\(k:Int)<=y.l.sum)/\(∀(k:Nat)y u,l[k]?=some y->l[k+1]?=some u->Ur t A m y.l u.l)/\∃y,l[0]?=some y/\y.l=z
theorem M3(j:Small t)(l:cH t=some true)(g:VT t)(n:fN t (bR t) A){c:Zg}{m:ST}(f:Cons t A c.l)(J:Cons t A m)(h:eC c.l m){i:Nat}{a b:Int}(B:c.l[i]?=some a)(U:m[i]?=some b)(W:a<b):
 ∃D x2 r,(dc c).bind Sl.whole=some D/\Sl.jR D (i:Int)=some i/\Sl.get D i=some a/\Sl.put D i (wrap .i64 (a+1):Int)=some x2/\tS t x2=some (r,0)/\Cl t A (bump c.l i 1) r.l:=by
 have T:=g.few;have G:=g.ok.one;have hi:=(ζe.1 B).1;have I:i<t.procs.l.length:=by rw[<-f.1.1];exact hi
 have⟨d,L,u⟩:=tA (c:=c) (by rw[f.1.1];omega) (by rw[f.1.1];omega)
 have O:=(GJ j g f).2 a (mem_of_getElem? B);have⟨k,Q,z⟩:=put_eq (s:=d) (p:=i) (x:=wrap .i64 (a+1)) (by rw[u];exact hi)
 rw[eB _ Zaa Zaa,u,<-GF B]at z
 have S:pQ t k.l:=by rw[z];refine⟨u5.trans f.1.1,λp y P w C=>?_⟩;rw[tc B]at w;split at w;(next e=>subst e;cases w;have:=J.1.2 i b P U C;have:=f.1.2 i a P B C;omega);exact f.1.2 p y P w C
 obtain⟨⟨r,e⟩,r1,rfl,r2,r3,r4⟩:=SU j l g n S;simp only at r2 r3 r4;rw[z]at r3 r4;exact⟨d,k,r,L,wB (by rw[u];exact hi),by unfold Sl.get;rw[u];exact B,Q,r1,r2,r3,r4⟩
theorem WK(R:Small t)(V:cH t=some true)(f:VT t)(hM:fN t (bR t) A)(ad:x.t=t){m:ST}(o:Cons t A m)
 (hF:∀c:Zg,Cons t A c.l->eC c.l m->∃w,gI x c=some (w,0)/\w.l=m){U:Zg}(W:Cons t A U.l)(J:eC U.l m):
 Wp (dN.W1 x U (Sl.row [U]:Zb) t) λw=>w.2=0/\0<w.1.l.length/\Chn t A m U.l w.1.l/\∃y,w.1.l[w.1.l.length-1]?=some y/\y.l=m:=by
 have ab:=f.ok.one;have ae:=Gz f;have af:=o.1.sum;unfold dN.W1;refine fJ (λq:Zg×Zb=>Cons t A q.1.l/\eC q.1.l m/\0<q.2.l.length/\Chn t A m U.l q.2.l/\q.2.l[q.2.l.length-1]?=some q.1) (λq=>(m.sum-q.1.l.sum).toNat)
  ⟨W,J,by simp[Sl.l],⟨λk y d=>?_,λk y p d O=>?_,U,rfl,rfl⟩,rfl⟩ ?_
 .cases k with
  |zero=>simp[Sl.l]at d;subst d;exact⟨W,J,W.1.sum.1⟩|succ k=>simp[Sl.l]at d
 .simp[Sl.l]at O
 rintro⟨c,out⟩ ⟨g,z,E,C,u⟩;simp only at g z E u;have⟨w,hw,Q⟩:=hF c g z;have ah:c.l.length=m.length:=z.1;have ai:c.l.length<1073741824:=by rw[g.1.1];have:=f.few;omega
 unfold dN.br;dsimp only;rw[hw,ζb];simp only;rw[show((0:Int)==0)=true from rfl,bH];unfold dN.W2;have K:∀i:Nat,(∀j,j<i->c.l[j]?=m[j]?)->(i=c.l.length\/∃a b:Int,c.l[i]?=some a/\m[i]?=some b/\a<b)->bS (λq:Int=>dN.bT x c out w t q) 0=some (.x (i:Int)):=λi l M=>by
  have aj:i<=c.l.length:=by rcases M with h|⟨a,b,h,-⟩;omega;have:=(ζe.1 h).1;omega
  have:=fD (step:=λq:Int=>dN.bT x c out w t q) (fx:=λe=>some e) (fr:=λe:Empty=>(none:QQ)) (P:=λe=>e=(i:Int)) i (λn(q:Int)=>q=(n:Int)) (s:=0) rfl (λn q hn F=>by
   subst F;have B:n<c.l.length:=Zaa
   have T:n<w.l.length:=by rw[Q];omega
   have D:=l n hn;rw[<-Q,ζd B,ζd T]at D;unfold dN.bT;rw[iL B,bH,bJ T,ζb,bJ B,ζb,ζb,Option.some.inj D,show(w.l[n]==w.l[n])=true from Zab,bH,bg]
   exact cM n Zaa) (λq F=>by
   subst F;unfold dN.bT;rcases M with rfl|⟨a,b,S,X,G⟩
   .rw[jm,bE,ζb,bE,bg];exact(bg _).2 rfl
   have B:=(ζe.1 S).1;rw[iL B,bH,jd,Q,X,ζb,jd,S,ζb,ζb,show(b==a)=false from by simp;omega,bE,bg]
   exact(bg _).2 rfl)
  obtain⟨e,D,rfl⟩:=this;cases L:bS (λq:Int=>dN.bT x c out w t q) 0 with|none=>rw[L]at D;cases D|some v=>rw[L]at D;cases v with|n s=>exact s.elim|x e=>simp[Fw.elim]at D;subst D;rfl|r e=>exact e.elim
 rcases US z with D|⟨i,a,b,l,S,X,G⟩
 .rw[K c.l.length (λj _=>by rw[D]) (.inl rfl),ζb]
  show Wp (bl _ _ _) _;rw[show((c.l.length:Int)==len c)=true from by simp[len],bH,bg]
  exact(bg _).2 ⟨rfl,E,C,c,u,D⟩
 have B:=(ζe.1 S).1;rw[K i l (.inr ⟨a,b,S,X,G⟩),ζb];show Wp (bl _ _ _) _;have⟨x1,x2,r,e1,e2,e3,e4,e5,e6⟩:=M3 R V f hM g o z S X G;have Y:Ur t A m c.l r.l:=⟨i,a,b,l,S,X,G,e6⟩;have⟨N,H,u3⟩:=Y.up o z;have ak:=(C.1 _ _ u).2.2;have al:=CC z;have⟨o2,k1,k2⟩:=nM (s:=out) (x:=r) Zaa
 rw[show((i:Int)==len c)=false from by simp[len];omega,bE,e1,ζb,e2,ζb,e3,ζb,ζb,e4,ζb,e5,ζb]
 simp only;rw[show((0:Int)==0)=true from rfl,bH,k1,ζb,bg];have I:∀(k:Nat)y,o2.l[k]?=some y->(k<out.l.length/\out.l[k]?=some y)\/(k=out.l.length/\y=r):=λk y d=>by rw[k2]at d;have:=(ζe.1 d).1;rw[ζi,List.length_singleton]at this;by_cases e:k<out.l.length;rw[List.getElem?_append_left e]at d;exact .inl ⟨e,d⟩;have:k=out.l.length:=Zaa;subst this;simp at d;exact .inr ⟨rfl,d.symm⟩
 have us:=CC H;refine⟨⟨N,H,by show 0<o2.l.length;rw[k2];simp,⟨λk y d=>?_,λk y p d O=>?_,?_⟩,?_⟩,?_⟩
 .rcases I k y d with⟨-,h⟩|⟨rfl,rfl⟩
  .exact C.1 k y h
  exact⟨N,H,Zaa⟩
 .rcases I (k+1) p O with⟨h0,h⟩|⟨h0,rfl⟩
  .rcases I k y d with⟨-,Z⟩|⟨Z,-⟩
   .exact C.2.1 k y p Z h
   omega
  rcases I k y d with⟨-,Z⟩|⟨Z,-⟩
  .rw[show out.l.length-1=k from Zaa,Z]at u
   cases u;exact Y
  omega
 .have⟨y,hy,aa⟩:=C.2.2;exact⟨y,by show o2.l[0]?=_;rw[k2,List.getElem?_append_left E];exact hy,aa⟩
 .show o2.l[o2.l.length-1]?=some r;rw[k2];simp
 show(m.sum-r.l.sum).toNat<(m.sum-c.l.sum).toNat;omega
end
def oM:S'->Nat
 |[]=>1|n::l=>(n+1)*oM l
def RA:S'->ST->Prop
 |[],[]=>True|n::ns,x::c=>0<=x/\x<=n/\RA ns c|_,_=>False
theorem D4(n:Nat):∀l,oM (l++[n])=oM l*(n+1)
 |[]=>by simp[oM]|m::l=>by simp only[List.cons_append,oM,D4 n l,Nat.mul_assoc]
theorem Eo{α:Type}(f:α->X'):∀l:aZ α,l.length=(l.filter f).length+(l.filter λx=> !f x).length
 |[]=>rfl|x::l=>by have:=Eo f l;cases h:f x<;>simp[h]<;>omega
theorem Rf:∀l:S',(∀n∈l,n<=64)->oM l<=65 ^ l.length
 |[],_=>le_refl _|n::l,h=>by have:=Rf l λm u=>h m (mem_cons_of_mem _ u);have a:=h n (List.mem_cons_self ..);rw[oM,length_cons,Nat.pow_succ,Nat.mul_comm];exact Nat.mul_le_mul this Zaa
theorem M4:∀(b:S')(L:aZ ST),(∀c,RA b c->c∈L)->oM b<=L.length
 |[],L,h=>List.length_pos_of_mem (h [] trivial)|n::b,L,h=>by have B:∀(k:Int)(L:aZ ST),(∀c,RA b c->(k::c)∈L)->oM b<=L.length:=λk L h=>(by have:=M4 b (L.map List.tail) λc a=>mem_map.2 ⟨k::c,h c a,rfl⟩;rwa [List.length_map]at this);have key:∀(m:Nat)(L:aZ ST),(∀(k:Nat)c,k<=m->RA b c->((k:Int)::c)∈L)->(m+1)*oM b<=L.length:=(by intro m;induction m with|zero=>intro L h;have:=B ((0:Nat):Int) L λc a=>h 0 c (le_refl _) a;omega|succ m u=>intro L h;have e:=B ((m+1:Nat):Int) (L.filter λc=>c.head?==some ((m+1:Nat):Int)) λc a=>List.mem_filter.2 ⟨h _ c (le_refl _) a,Zab⟩;have w:=u (L.filter λc=> !(c.head?==some ((m+1:Nat):Int))) λk c d a=>List.mem_filter.2 ⟨h k c Zaa a,by simp;omega⟩;have z:=Eo (λc:ST=>c.head?==some ((m+1:Nat):Int)) L;rw[Nat.succ_mul];omega);exact key n L λk c d a=>h _ ⟨Zaa,Zaa,a⟩
theorem Qs:∀{b:S'}{c:ST},RA b c->c.length=b.length/\∀(p:Nat)(a:Int)(n:Nat),c[p]?=some a->b[p]?=some n->0<=a/\a<=n
 |[],[],_=>⟨rfl,λp a n h=>by simp at h⟩|[],_::_,h=>h.elim|_::_,[],h=>h.elim|n::b,x::c,h=>by have⟨d,B⟩:=Qs h.2.2;refine⟨by simp[d],λp a m u w=>?_⟩;cases p with|zero=>simp at u w;subst u w;exact⟨h.1,h.2.1⟩|succ p=>exact B p a m (by simpa using u) (by simpa using w)
section
variable{t:Z4}{A:cq 200 bD}{L:aZ ST}{tb:Sl X'}{x:b_}
def q9(t:Z4):S':=t.procs.l.map λP=>P.events.l.length
def Yu(t:Z4):Prop:=∀P∈t.procs.l,∀e∈P.events.l,e.kind≠3
theorem WN(B:fC t A L)(h:Yu t):oM (q9 t)<=L.length:=M4 _ _ λc b=>(B.mem _).2<|by have⟨d,z⟩:=Qs b;refine⟨⟨by rw[d];simp[q9],λp a P C u=>z p a _ C (by simp[q9,u])⟩,λp k e a w _ _ f=>?_⟩;have⟨P,u,w⟩:=w;exact absurd f (h P (mem_of_getElem? u) e (mem_of_getElem? w))
theorem Xm(c:Small t)(U:(bR t).length<1073741824)(g:cH t=some true)(d:VT t):
 Wp (dx t) λb=>b=true->mz t<=24\/(Yu t/\5000<oM (q9 t)):=by
 have m:=c.1;obtain⟨v,B,G,-⟩:=Cb c U;rw[g]at B;cases B;have no:Wp (some false) λb=>b=true->mz t<=24\/(Yu t/\5000<oM (q9 t)):=(bg _).2 λh=>by cases h
 have w:(q9 t).length=t.procs.l.length:=by simp[q9]
 have X:=d.few;have C:∀n∈q9 t,n<=64:=λn I=>by obtain⟨P,a,rfl⟩:=mem_map.1 I;have⟨p,J⟩:=List.mem_iff_getElem?.1 a;exact yD d J
 have tk:∀{i:Nat}(hi:i<t.procs.l.length),(q9 t).take (i+1)=(q9 t).take i++[t.procs.l[i].events.l.length]:=λ{i}hi=>by rw[take_add_one,show(q9 t)[i]?=some t.procs.l[i].events.l.length from by simp[q9,hi]];rfl
 have j:∀i,((q9 t).take i).sum<=mz t:=λi=>by have:=sum_append (l₁:=(q9 t).take i) (l₂:=(q9 t).drop i);rw[List.take_append_drop]at this;show _<=(q9 t).sum;omega
 have Y:=Gz d;unfold dx;rw[b9];refine⟨λ_=>no,λ_=>?_⟩
 unfold dx.W1;refine fD t.procs.l.length (λi(q:Int×Int)=>q.2=(i:Int)/\q.1=(((q9 t).take i).sum:Nat)) ⟨rfl,Zab⟩ ?_ ?_
 .rintro i ⟨n,_⟩ hi ⟨rfl,e2⟩;simp only at e2;subst e2;unfold dx.br;dsimp only;rw[iL hi,bH,bJ hi,ζb,qg (p:=λz=>nU z) (f:=λx=>decide (len x.assign>12)) (λx _=>rfl) (c.2 _ (getElem_mem hi)).1,ζb,F_,ζb,b9]
  refine⟨λ_=>(bg _).2 no,λ_=>(bg _).2 ⟨cM i Zaa,?_⟩⟩
  have Q:=j (i+1);rw[tk hi,sum_append]at Q;simp only[sum_cons,sum_nil]at Q;rw[tk hi,sum_append];simp only[sum_cons,sum_nil,len];rw[eB _ Zaa Zaa];omega
 rintro⟨n,_⟩ ⟨rfl,e2⟩;simp only at e2;subst e2;rw[show t.procs.l.length=(q9 t).length from w.symm,take_length];unfold dx.br;dsimp only;rw[w,jm,bE,bg];show Wp (bl _ _ _) _;rw[b9];refine⟨λ_=>no,λ_=>?_⟩
 rw[G,ζb,bH,b9];refine⟨λ_=>?_,λu=>?_⟩
 .unfold dx.W2;refine fD t.procs.l.length (λi(q:Int×Int)=>q.2=(i:Int)/\q.1=(oM ((q9 t).take i):Nat)/\∀P∈t.procs.l.take i,∀e∈P.events.l,e.kind≠3) ⟨rfl,by simp[oM],λP h=>by simp at h⟩ ?_ ?_
  .rintro i ⟨n,_⟩ hi ⟨rfl,e2,e3⟩;simp only at e2;subst e2;unfold dx.bT;dsimp only;rw[iL hi,bH,bJ hi,ζb,qg (p:=λz=>od z) (f:=λx=>x.kind==3) (λx _=>rfl) (c.2 _ (getElem_mem hi)).1,ζb,b9]
   refine⟨λ_=>(bg _).2 no,λD=>(bg _).2 ⟨cM i Zaa,?_,λP a e S=>?_⟩⟩
   .have T:t.procs.l[i].events.l.length<=64:=C _ (mem_map.2 ⟨_,getElem_mem hi,rfl⟩);have J:=Rf ((q9 t).take (i+1)) λn I=>C n (List.mem_of_mem_take I)
    have O:65 ^ ((q9 t).take (i+1)).length<=65 ^ 8:=Nat.pow_le_pow_right Zaa (by rw[length_take];omega)
    have W:(65:Nat) ^ 8=318644812890625:=by decide
    rw[tk hi,D4]at J;rw[tk hi]at O;show wrap .i64 ((oM ((q9 t).take i):Nat)*(wrap .i64 ((t.procs.l[i].events.l.length:Nat)+1)))=_;rw[cM _ Zaa,tk hi,D4,<-Int.natCast_mul,eB _ Zaa Zaa]
   rw[take_add_one,ζd hi]at a;rcases mem_append.1 a with a|a
   .exact e3 P a e S
   simp at a;subst a;intro k;have:=List.any_eq_false.1 D e S;simp[k]at this
  rintro⟨n,_⟩ ⟨rfl,e2,e3⟩;simp only at e2;subst e2;unfold dx.bT;dsimp only;rw[jm,bE,bg];refine(bg _).2 λh=>.inr ⟨?_,?_⟩
  .rw[take_length]at e3;exact e3
  rw[<-w,take_length]at h;have:=of_decide_eq_true h;omega
 have u:mz t<=24:=by have:=of_decide_eq_false u;show(q9 t).sum<=24;omega
 obtain⟨A,-,-,l⟩:=d.msgs;rcases AD c g d l with⟨L,r,s,-,-,-,h,-⟩|⟨-,h⟩
 .rw[h,ζb];exact(bg _).2 λ_=>.inl u
 rw[h,ζb];exact(bg _).2 λ_=>.inl u
theorem Wn{c w:Zg}{m:ST}(f:c.l.length<1073741824)(B:w.l=m)(D:eC c.l m){i:Nat}{a b:Int}(d:∀j,j<i->c.l[j]?=m[j]?)(J:c.l[i]?=some a)(U:m[i]?=some b)(W:a<b):
 eX.W1 c w (len c) 0=some ((i:Int),0):=by
 have G:=(ζe.1 J).1;have O:=D.1;have key:Wp (eX.W1 c w (len c) 0) λe=>e=((i:Int),0):=by unfold eX.W1;refine fD i (λn(q:Int)=>q=(n:Int)) rfl (λn q L I=>?_) λq I=>?_;subst I;have u:n<c.l.length:=(by omega);have z:n<w.l.length:=(by rw[B];omega);have C:=d n L;rw[<-B,ζd u,ζd z]at C;unfold eX.br;rw[iL u,bH,bJ z,ζb,bJ u,ζb,Option.some.inj C,decide_eq_false Zaa,bE,bg];exact cM n Zaa;subst I;unfold eX.br;rw[iL G,bH,jd,B,U,ζb,jd,J,ζb,decide_eq_true Zaa,bH,bg];exact(bg _).2 rfl
 obtain⟨e,C,rfl⟩:=key;exact C
theorem Ja{c d:Zg}{out:Zb}{e:Int}(h:gI x c=some (d,e))(B:e≠0):dN.W1 x c out t=some (.nil,e):=by unfold dN.W1;rw[eD];unfold dN.br;dsimp only;rw[h,ζb];simp only;rw[show(e==0)=false from by simpa using B,bE];rfl
theorem Ru{p:Pred}(h:rX t p=some true):dx t=some true:=by unfold rX at h;cases u:dx t with|none=>rw[u]at h;cases h|some b=>cases b with|true=>rfl|false=>rw[u,ζb,bE,ζb]at h;simp only at h;rw[bE,ζb]at h;cases h
theorem VK(f:Small t)(H:(bR t).length<1073741824){p:Pred}(k:p.Sm):dR t p=some true:=by
 have⟨fw,ae⟩:=aah f H k;have⟨r,tb,e,K,h2⟩:=Uh f H k;unfold dR;rw[show yg=some true from rfl,ζb,bH,ae,ζb];cases fw with|false=>rfl|true=>
 rw[bH];have aH:∀e:Int,e≠0->dN t p=some (.nil,e)->((dN t p).bind λaf=>bl (af.2==0) none (some (len af.1==0)))=some true:=λe l h=>by rw[h,ζb];simp only;rw[show(e==0)=false from by simpa using l,bE];rfl
 have hT:rE t p=some (tb,e):=by unfold rE;rw[K];rfl
 by_cases l:e=0;subst l;have⟨m,A,d,j,L,u,M,hL,hr,ah⟩:=h2 rfl;have aI:=d.ok.one;have h8:=d.few;have aJ:=Gz d;obtain⟨ox,ho,x,rfl,N,x2,x3,x4⟩:=SM d u M hr tb;have Z:rm t p=some (some x,0):=by unfold rm;rw[hT,ζb];simp only;rw[show((0:Int)==0)=true from rfl,bH,hL,ζb];simp only;rw[show((0:Int)==0)=true from rfl,bH,ho];rfl
 have ai:Cons t A (replicate t.procs.l.length 0):=Py d;have X:0<L.length:=List.length_pos_of_mem ((u.mem _).2 ai);have Q:ins x.l=L:=by rw[x2];exact hr
 have aK:x.l.l.length=L.length:=by rw[<-Q,lE]
 have S:=ζd X;have G:=(u.mem _).1 (getElem_mem X);have aa:L[0]=replicate t.procs.l.length 0:=eC.same (GY d j u S ai) ⟨by rw[G.1.1];simp,λq a b Y T=>by
  rw[List.getElem?_replicate]at Y;split at Y
  .cases Y;exact G.1.pos q b T
  cases Y⟩
 have P:x.l.l[0].l=L[0]:=by have:=xN (s:=x.l) (i:=0) Zaa;rw[Q,S]at this;exact(Option.some.inj this).symm
 have⟨z,z1,o⟩:=tA (c:=x.l.l[0]) (by rw[P,G.1.1];omega) (by rw[P,G.1.1];omega);rw[P]at o;have B:Cons t A z.l:=by rw[o];exact G
 have C:dN t p=dN.W1 x z (Sl.row [z]:Zb) t:=by unfold dN;rw[Z,ζb];simp only;rw[show((0:Int)==0)=true from rfl,bH,ζb,show(0:Int)=((0:Nat):Int)from rfl,bJ (show 0<x.l.l.length by omega),ζb,z1,ζb]
 have⟨cl,aj⟩:=Tz f m d j u M Q N x3 x4 ah;have⟨q,y,q2⟩:=aj z B;rcases q2 with⟨-,rfl⟩|⟨ak,⟨rfl,-⟩|⟨w,rfl,R,aq,ar⟩⟩;rw[C,Ja y (by decide)];rfl;rw[C,Ja y (by decide)];rfl;have U:=(u.mem _).1 R.1;have hF:∀c:Zg,Cons t A c.l->eC c.l w.l->∃w',gI x c=some (w',0)/\w'.l=w.l:=λc g D=>by have⟨q',k1,k2⟩:=aj c g;rcases k2 with⟨h,-⟩|⟨-,⟨-,I⟩|⟨w',rfl,al,aL,au⟩⟩;rw[ak]at h;cases h;exact absurd D (I _ R);refine⟨w',k1,eC.same (au _ R D) (ar _ al ?_)⟩;rw[o];exact GY d j u S ((u.mem _).1 al.1)
 obtain⟨⟨out,e⟩,o1,rfl,o2,o3,yl,V,o5⟩:=WK f m d j N U hF B aq;simp only at o2 o3 V;have W:um t p=some (w,0):=by obtain⟨lo,l1,-⟩:=Hx f d j u M Q x3 x4 ah;have⟨cb,av,am⟩:=(U3 f m d j z).eq;have aw:cb=true:=am.2 B;subst aw;have ax:L.idxOf z.l=0:=(by rw[o];exact tM u.nodup S);unfold gI at y;rw[N,av,ζb,bH,l1,ζb,zS (yh d B) (by rw[B.1.1];exact h8),ζb,x4.get _ ((u.mem _).2 B),ax]at y;unfold um;rw[Z,ζb];simp only;rw[show((0:Int)==0)=true from rfl,bH,ζb,l1,ζb];exact y
 have ay:=(o3.1 _ _ V).2.2;have aM:=U.1.sum;have aN:mz t<=24:=by have⟨b,T,aA⟩:=Xm f H m d;rw[Ru ae]at T;cases T;rcases aA rfl with h|⟨E,hp⟩;exact h;have:=WN u E;omega
 rw[o5]at ay;have⟨F,y1,y2⟩:=o3.2.2;have aO:out.l[0]=F:=by rw[ζd o2]at y1;exact Option.some.inj y1
 have J:∀c:Zg,Cons t A c.l->c.l.length<1073741824:=λc g=>by rw[g.1.1];omega
 have⟨v,v1,v2⟩:=qW out (out.l.length-1) Zaa;have O:len out=(out.l.length:Int):=rfl;have aB:wrap .i64 (len out-1)=((out.l.length-1:Nat):Int):=by have K:len out-1=((out.l.length-1:Nat):Int):=(by rw[O];omega);rw[K];exact eB _ Zaa Zaa
 rw[C,o1,ζb];simp only;rw[show((0:Int)==0)=true from rfl,bH,W,ζb];simp only;rw[show((0:Int)==0)=true from rfl,bH,ζb,show(len out==0)=false from beq_eq_false_iff_ne.2 (by rw[O];omega),bE,ζb,show decide (len out>30)=false from decide_eq_false (by rw[O];omega),bE,
  show idx out 0=some F from by rw[show(0:Int)=((0:Nat):Int)from rfl,jd];exact y1,ζb,show oL (len t.procs) (0:Int)=some (.row (replicate t.procs.l.length 0))from by
   unfold oL;rw[if_pos ⟨by simp only[len];omega,by simp only[len];omega⟩];simp[len],ζb,AH (J F (by rw[y2];exact B)),ζb,
  show decide (F.l=(Sl.row (replicate t.procs.l.length (0:Int))).l)=true from decide_eq_true (by rw[y2,o,aa];rfl),ζb,show(!true)=false from rfl,bE,aB,
  jd,V,ζb,AH (J yl (by rw[o5];exact U)),ζb,decide_eq_true o5,ζb,show(!true)=false from rfl,bE,v1,ζb]
 have aP:v.l.length=out.l.length-1:=by rw[v2,length_take];omega
 have p1:Wp (dR.W1 out w v (len v) 0 t p) λb=>b=true:=by
  unfold dR.W1;refine fD v.l.length (λn(s:Int)=>s=(n:Int)) rfl (λn s E k=>?_) λs k=>?_;subst k;have I:n<out.l.length:=by omega
  have an:n+1<out.l.length:=Zaa;have aC:v.l[n]=out.l[n]:=by have:v.l[n]?=out.l[n]?:=(by rw[v2,List.getElem?_take,if_pos Zaa]);rw[ζd E,ζd I]at this;exact Option.some.inj this
  obtain⟨g,D,-⟩:=o3.1 n _ (ζd I);have⟨i,a,b,d1,Y,T,ao,ap⟩:=o3.2.1 n _ _ (ζd I) (ζd an);have aQ:=(ζe.1 Y).1;have⟨w',k1,k2⟩:=hF _ g D;have aD:eX t out.l[n] p=some ((i:Int),0):=by unfold eX y_;rw[Z,ζb];simp only;rw[show((0:Int)==0)=true from rfl,bH,ζb,k1,ζb,ζb];simp only;rw[show((0:Int)==0)=true from rfl,bH,Wn (J _ g) k2 D d1 Y T ao]
  have⟨lb,aE,aF⟩:=(abi (a:=out.l[n]) (b:=w) (J _ g)).eq;have aG:lb=true:=aF.2 D;subst aG;have⟨u1,u2,rr,e1,e2,e3,e4,e5,e6⟩:=M3 f m d j g U D Y T ao;unfold dR.br;rw[iL E,bH,bJ E,ζb,aC,aD,ζb];simp only;rw[show((0:Int)==0)=true from rfl,bH,ζb,decide_eq_false (show¬(i:Int)<0 by omega),bE,ζb,decide_eq_false (show¬(i:Int)>=len out.l[n]by simp only[len];omega),bE,aE,ζb,ζb,show(!true)=false from rfl,bE,
   e1,ζb,e2,ζb,e3,ζb,ζb,e4,ζb,e5,ζb]
  simp only;rw[show((0:Int)==0)=true from rfl,bH,cM n Zaa,bJ an,ζb,AH (J _ e6.1),ζb,decide_eq_true (e6.uniq ap),ζb,show(!true)=false from rfl,bE,bg];subst k;unfold dR.br;rw[jm,bE,bg];exact(bg _).2 rfl
 obtain⟨b,T,rfl⟩:=p1;exact T;have hP:dN t p=some (.nil,e):=by unfold dN rm;rw[hT,ζb];simp only;rw[show(e==0)=false from by simpa using l,bE,ζb];simp only;rw[show(e==0)=false from by simpa using l,bE]
 rw[hP,ζb];simp only;rw[show(e==0)=false from by simpa using l,bE];rfl
end
end Go.VE
namespace Go.VE
theorem BJ{α:Type}[cA α]{x:α}:∀{l:aZ α},x∈l->cA.wt x<=(l.map cA.wt).sum
 |y::l,h=>by simp only[map_cons,sum_cons];rcases mem_cons.1 h with rfl|h;omega;have:=BJ h;omega
theorem xT{α:Type}[cA α](h:∀x:α,1<=cA.wt x):∀(l:aZ α),l.length<=(l.map cA.wt).sum
 |[]=>le_refl _|y::l=>by simp only[map_cons,sum_cons,length_cons];have:=xT h l;have:=h y;omega
theorem CD{α:Type}[cA α](s:Sl α):cA.wt s=(s.l.map cA.wt).sum+1:=rfl
theorem C4(p:Int):∀(es:aZ WF)(j:Int),(ji p j es).length=es.length
 |[],_=>rfl|_::es,j=>by simp only[ji,length_cons,C4 p es]
theorem KZ:∀(ps:aZ bX)(i:Int),(gA i ps).length<=(ps.map cA.wt).sum
 |[],_=>le_refl _|p::ps,i=>by simp only[gA,ζi,C4,map_cons,sum_cons];have a:=KZ ps (i+1);have u:=xT (α:=WF) (λx=>le_add_left ..) p.events.l;have w:cA.wt p=cA.wt p.name+cA.wt p.vars+cA.wt p.events+1:=rfl;have z:=CD p.events;omega
theorem To{t:Z4}(h:cA.wt t<=1048576):Small t/\(bR t).length<1073741824:=by have b:cA.wt t=cA.wt t.procs+1:=rfl;have c:=CD t.procs;have B:=xT (α:=bX) (λx=>le_add_left ..) t.procs.l;have C:=KZ t.procs.l 0;refine⟨⟨Zaa,λp u=>?_⟩,by show(gA 0 t.procs.l).length<_;omega⟩;have D:=BJ u;have G:cA.wt p=cA.wt p.name+cA.wt p.vars+cA.wt p.events+1:=rfl;have I:=CD p.events;have J:=CD p.vars;have L:=xT (α:=WF) (λx=>le_add_left ..) p.events.l;have O:=xT (α:=Var) (λx=>le_add_left ..) p.vars.l;have w:cA.wt p.name=p.name.size+1:=rfl;refine⟨Zaa,Zaa,Zaa,λv a=>?_,λe z=>?_⟩;have k1:=BJ a;have k2:cA.wt v=cA.wt v.name+cA.wt v.init_+1:=rfl;have k3:cA.wt v.name=v.name.size+1:=rfl;omega;have k1:=BJ z;have k2:cA.wt e=cA.wt e.kind+cA.wt e.peer+cA.wt e.message+cA.wt e.time+cA.wt e.assign+1:=rfl;have k3:=CD e.assign;have k4:=xT (α:=Assign) (λx=>le_add_left ..) e.assign.l;omega
theorem ZZ(p:Pred):cA.wt p<=1048576->p.Sm:=by induction p using Pred.ind with|h p w=>intro h;have a:∃m,cA.wt p=m+Pred.UG p.l+1:=(by cases p;exact⟨_,rfl⟩);have⟨m,a⟩:=a;have b:=Pred.wtE p.l;have z:=CD p.l;have B:=xT (α:=Pred) (λx=>by cases x;exact le_add_left ..) p.l.l;unfold Pred.Sm;rw[p.o7,ζh,all_eq_true];refine⟨decide_eq_true Zaa,λq u=>w q u ?_⟩;have:=BJ u;omega
end Go.VE
namespace Go.Proofs.YtfjedefhlilglaaGreatDoor
open Go.ChangeShapes Go.WideShapes Go.ChangeAt Go.RowKit Go.VE
theorem own:ownKnob Tryz.prog.godebug=none:=by kernel_rfl
theorem kids:Kids Tryz.prog (·<Tryz.prog.types.size):=kids_rows Zag Zag
theorem full:∀t e,t<Tryz.prog.types.size->Tryz.prog.underlying t=some (.slice e)->0<Tryz.prog.cellsOf e:=slices_full_of Tryz.prog Zag
theorem zN{H:Type}:∀l:aZ (DataW H),Rows.uptoBulkAll l=(l.map Rows.uptoBulk).sum
 |[]=>by simp[Rows.uptoBulkAll]|d::r=>by simp[Rows.uptoBulkAll,zN r]
theorem Rw{H:Type}:uG (H:=H) Rows.uptoBulk where
 lit l:=by cases l<;>simp[Rows.uptoBulk]
 str s:=by simp[Rows.uptoBulk]
 nil:=by simp[Rows.uptoBulk]
 slice es u:=by rw[Rows.uptoBulk,zN,zN];omega
 agg ps:=by rw[Rows.uptoBulk,zN];exact le_refl _
theorem Oo:Tryz.prog.globalNamed "antecede/predtype.parts" =some 0:=by kernel_rfl
theorem Tg:(Tryz.prog.globals[0]?).map (·.type)=some 226:=by kernel_rfl
theorem table{W:World}(h:laidMetH Tryz.prog Rows.linearAdvancesUptoRow.laid W):Lib.TabIs Tryz.prog W "antecede/predtype.parts" .i64 Fz:=Lib.tabIs_of_head (rest:=[]) Oo Tg Tryz.underlying226 Tryz.underlying3 Zag Zag h
theorem ZC{W:World}(h:laidMetH Tryz.prog Rows.linearAdvancesUptoRow.laid W):vH (snap W):=λg cs a=>by
 change(if Nat.beq g 0 then some (Fz.map (V.int .i64))else none)=some cs at a;split at a;next u=>cases a;have:g=0:=Nat.eq_of_beq_eq_true u;subst this;exact TL (λi hi=>(table h).cell Oo i hi) (by decide)
 cases a
set_option maxRecDepth 100000 in
theorem LZ(H:Type)(enc:W'×V'->H)(W:World)(base:Nat)(args:Array V')(ds a:aZ (DataW H))(before:aZ MemPlace)
 (B:∀(j:Nat)t v,Tryz.f4.params[j]?=some t->args[j]?=some v->Value.okWide Tryz.prog W .any base t v)
 (D:DataW.Whole enc Tryz.prog Tryz.f4.params.toList Rows.linearAdvancesSpec.vars false W args.toList ds a before)(b:Rows.uptoSmall H (ds++a)=true)(U:laidMetH Tryz.prog Rows.linearAdvancesUptoRow.laid W):
 Calls Tryz.prog 4 args W λe G=>∃v,e=.returned v/\Rows.linearAdvancesSpec.post enc Tryz.prog Tryz.f4 false true false false W args v G:=by
 have u:=D;obtain⟨p,q,z,c,rfl,Q,S⟩:=D;have I:DataW.TrodAll enc Tryz.prog W 0 (λ_=>true) true Tryz.f4.params.toList args.toList ds p:=z
 rw[Tryz.params4]at I B;obtain⟨J,T,X,Y,E,F,C,rfl,rfl,d,Z⟩:=trodAll_cons I;obtain⟨L,K,g,M,p1,N,rfl,rfl,rfl,h,r1⟩:=trodAll_cons Z;obtain⟨rfl,rfl,rfl⟩:=trodAll_nil r1;obtain rfl:args=#[J,L]:=by cases args;simp_all
 obtain⟨rfl,rfl⟩:=trodVars_none c;have⟨a0,i,k0,k⟩:=Reads.Vg (t:=24) (α:=VE.Trace) B 0 rfl rfl d;have⟨a1,l,k1,m⟩:=Reads.Vg (t:=28) (α:=VE.Pred) B 1 rfl rfl h;have R:cA.wt a0+cA.wt a1<=1048576:=by have c0:=k Rows.uptoBulk Rw;have c1:=m Rows.uptoBulk Rw;have O:Rows.uptoBulkAll ([X,g]++[])<=1048576:=of_decide_eq_true b;rw[zN]at O;simp only[List.append_nil,map_cons,List.map_nil,sum_cons,sum_nil]at O;omega
 have⟨n,o⟩:=To (t:=a0) Zaa
 have s:jW cL 4 [VE.enc a0,VE.enc a1]=some [.bool true]:=by have x:(dR a0 a1).bind (λr:X'=>some [V.bool r])=some [.bool true]:=(by rw[VK n o (ZZ a1 Zaa)];rfl);exact(yo a0 a1).F.h () _ x
 have:=Nv (P:=Tryz.prog) IU Cu calls (f:=4) (xs:=[VE.enc a0,VE.enc a1]) (by simp[V.cI,V.good,j8]) s (w:=W) (args:=#[J,L]) (ZC U) (cU.cons i (cU.cons l .nil))
 refine this.mono λe G⟨y,A⟩=>?_
 subst y;exact⟨_,rfl,Qh kids full (by rw[Tryz.params4];decide) rfl rfl rfl Tryz.underlying4 u A⟩
noncomputable def BW(os:Os):World:=
 {World.holding Tryz.prog os ⟨#[],#[],[]⟩with heap:=(World.holding Tryz.prog os ⟨#[],#[],[]⟩).heap.modify 0 fun
  |.cells _ t frozen=>.cells (Fz.map (Value.int .i64)).toArray t frozen|o=>o}
theorem Ty(os:Os):laidMet Tryz.prog Rows.linearAdvancesUptoRow.laid ((BW os).forCall (λ_ _=>0) ⟨#[],#[.agg #[.slice none 0 0],.agg #[.int .i64 0,.int .i64 0,.int .i64 0,.int .i64 0,.string ByteArray.empty,.slice none 0 0]],[]⟩).memory:=laidMet_of_run' 8 Zag Zag
theorem Ui(os:Os){H:Type}(enc:W'×V'->H):∃places,DataW.whole enc Tryz.prog ((BW os).forCall (λ_ _=>0) ⟨#[],#[.agg #[.slice none 0 0],.agg #[.int .i64 0,.int .i64 0,.int .i64 0,.int .i64 0,.string ByteArray.empty,.slice none 0 0]],[]⟩).memory Tryz.f4.params.toList Rows.linearAdvancesSpec.vars false (#[.agg #[.slice none 0 0],.agg #[.int .i64 0,.int .i64 0,.int .i64 0,.int .i64 0,.string ByteArray.empty,.slice none 0 0]]:Array V').toList 8=some ([.agg [.nil],.agg [.lit (.int .i64 0),.lit (.int .i64 0),.lit (.int .i64 0),.lit (.int .i64 0),.lit (.string []),.nil]],[],places):=⟨[],by kernel_rfl⟩
set_option maxRecDepth 100000 in
theorem QM(os:Os)(B:os.Started)(H:Type)(enc:W'×V'->H)(F:Stop.Interp):
 ReturnsInHanded {} Tryz.checked os 4 .any ((Rows.OpenSpec.upto Rows.linearAdvancesSpec).preRow enc Tryz.prog Tryz.f4 Rows.linearAdvancesUptoRow.domain false Rows.linearAdvancesUptoRow.laid) (((Rows.OpenSpec.upto Rows.linearAdvancesSpec).at F).post enc Tryz.prog Tryz.f4 false true false false):=by
 have⟨places,z⟩:=Ui os enc;refine returnsInHanded_of_row (C:=Tryz.checked) (s:=Rows.OpenSpec.upto Rows.linearAdvancesSpec) own B Zag Tryz.func4
  (witness_row_at (enc:=enc) (C:=Tryz.checked) false (BW os) #[.agg #[.slice none 0 0],.agg #[.int .i64 0,.int .i64 0,.int .i64 0,.int .i64 0,.string ByteArray.empty,.slice none 0 0]] rfl Zag Zag Zag
   (OpenSpec.preRow_of_cond 8 z Zag (λk a=>by cases a;kernel_rfl) Zag (Ty os))) ?_
 intro W base args ds b before w D _ u _ G _ _;exact LZ H enc W base args ds b before w D (u _ rfl) G
theorem WI:Rows.LinearAdvancesUptoSaid:=
 OpenClaim.holds_of_cond 4 Tryz.f4 rfl rfl rfl rfl rfl rfl rfl ⟨rfl,rfl,rfl,rfl,rfl⟩ rfl rfl rfl rfl rfl Zag Tryz.func4 Zag
  (of_decide_eq_true Zag) (by unfold Func.isWrapper;first|(rw[if_pos (by decide+kernel)];kernel_rfl)|(rw[if_neg (by decide+kernel)];exact⟨rfl,rfl⟩))
  (λos u H enc _ F=>by rw[OpenClaim.pre_eq_preRow];exact QM os u H enc F)
theorem RU(f:Y')(fn:Func)(D:Tryz.pinned.checked.prog.funcNamed "antecede/antecedelaw32.LinearAdvances" =some f)(B:Tryz.pinned.checked.prog.funcs[f]?=some fn):
 false=Tryz.pinned.checked.prog.looks []/\∀(j:Nat)t,fn.params[j]?=some t->Tryz.pinned.checked.prog.wantsStandIn t=false:=by
 obtain rfl:f=4:=Option.some.inj ((show Tryz.prog.funcNamed "antecede/antecedelaw32.LinearAdvances" =some 4 by kernel_rfl).symm.trans D)|>.symm
 obtain rfl:fn=Tryz.f4:=(Option.some.inj (Tryz.func4.symm.trans B)).symm;refine⟨by kernel_rfl,λj t z=>?_⟩
 rw[Tryz.params4]at z;have C:t∈[24,28]:=by simpa using Array.mem_of_getElem? z
 have w:([24,28].all λu=> !Tryz.prog.wantsStandIn u)=true:=by kernel_rfl
 exact(show Tryz.prog.wantsStandIn t=false by simpa using all_eq_true.1 w t C)
theorem linearAdvancesProved:Rows.LinearAdvancesUptoCardSaid:=Claim7.holds_tied_plain_at .later [] _ _ _ _ WI (λ_ h=>by cases h) Zag (λ_ h=>by cases h) linearAdvancesUpto_row_tie rfl ⟨rfl,rfl⟩ Zag rfl RU Zag
#print axioms linearAdvancesProved
end Go.Proofs.YtfjedefhlilglaaGreatDoor
