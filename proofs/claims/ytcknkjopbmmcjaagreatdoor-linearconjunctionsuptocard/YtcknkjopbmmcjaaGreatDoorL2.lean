/-
 LinearConjunctions says true for all arguments that together are of bulk at most 1048576, and they read behind the call as they read before: for every such argument, without a condition.
-/
import Derived.Test.YtcknkjopbmmcjaaGreatDoorRows
import Derived.Test.YtcknkjopbmmcjaaGreatDoorCards
import Derived.Test.YtcknkjopbmmcjaaGreatDoorTie
import Derived.Deep.DeepHandedRow
import Derived.Test.YtcknkjopbmmcjaaGreatDoorK1
import Derived.Test.YtcknkjopbmmcjaaGreatDoorL1
set_option linter.all false
noncomputable section
open List(all_cons all_eq_true all_nil any_cons ext_getElem? getElem?_eq_none getElem?_map getElem?_of_mem getElem?_set getElem?_set_self getElem_mem length_cons length_nil length_set map_append map_cons mem_append mem_cons mem_cons_of_mem mem_map mem_of_getElem? mem_range not_mem_nil range range_succ replicate sum_cons take_add_one take_length zipWith)
open Nat(le_add_left le_refl le_trans zero_le)
open Bool(and_eq_true_iff false_eq_true not_not)
open Classical(byContradiction)
open ByteArray(toList)
open Int(mul_comm zero_sub)
open Go.IntKind(signed wrap)
namespace Go.VE
theorem Zag{p:Prop}(h:p:=by kernel_rfl):p:=h
theorem rE{α:Type}{s:Sl α}(h:0<s.l.length):Sl.isNil s=some false:=by cases s with|nil=>exact absurd h (Nat.lt_irrefl 0)|emp=>exact absurd h (Nat.lt_irrefl 0)|row l=>rfl|part l=>rfl
theorem Wy(x y:Int):pM (Sl.row [x,y])=some (oq x y):=by
 have h:Wp (dH (Sl.row [x,y])) λm=>m=if y<x then y else x:=by unfold dH;rw[show decide (len (Sl.row [x,y])<1)=false from rfl,bu];unfold dH.J1;rw[show idx (Sl.row [x,y]) 0=some x from rfl,ζb];unfold dH.W2;refine eS 1 (λi(q:Int×Int)=>(i=0/\q=(x,1))\/(i=1/\q=(if y<x then y else x,2))) (.inl ⟨rfl,rfl⟩) ?_ ?_;rintro i ⟨m,k⟩ hi (⟨rfl,e⟩|⟨rfl,e⟩);cases e;unfold dH.bV;dsimp only;rw[show decide ((1:Int)<len (Sl.row [x,y]))=true from rfl,bD,show idx (Sl.row [x,y]) 1=some y from rfl,ζb,bg];exact .inr ⟨rfl,rfl⟩;omega;rintro⟨m,k⟩ (⟨h,_⟩|⟨_,e⟩);omega;cases e;unfold dH.bV;dsimp only;rw[show decide ((2:Int)<len (Sl.row [x,y]))=false from rfl,bu,bg];exact(bg _).2 rfl
 unfold pM;have⟨m,a,u⟩:=h;rw[a,u];unfold oq;grind
theorem Xg{a b:Zg}(D:a.l.length=b.l.length)(g:0<a.l.length)(U:a.l.length<=8):Wp (en (Sl.row [a,b]) (λz=>pM z)) λo=>o.l=zipWith oq a.l b.l:=by
 have G:=lU.of oq D;unfold en;have⟨d,l,u⟩:=tU (c:=a) Zaa g;obtain⟨v,I,L⟩:∃v,gu (Sl.row [a,b]) (some 1) none=some v/\v.l=[b]:=zy (Sl.row [a,b]) 1 (Nat.le_succ 1);rw[show idx (Sl.row [a,b]) 0=some a from rfl,ζb,l,ζb,I,ζb];unfold en.W1;have f:len v=1:=Zac;have hi:idx v 0=some b:=by unfold idx;grind
 refine eS 1 (λi(q:Zg×Int)=>(i=0/\q=(d,0))\/(i=1/\q.1.l=zipWith oq a.l b.l/\q.2=1)) (.inl ⟨rfl,rfl⟩) ?_ ?_;rintro i ⟨o,k⟩ J (⟨rfl,e⟩|⟨rfl,-,-⟩);cases e;unfold en.br;dsimp only;rw[f,show decide ((0:Int)<1)=true from rfl,bD,hi,ζb];unfold en.W2;refine eS d.l.length (λn(q:Zg×Int)=>q.2=(n:Int)/\q.1.l.length=a.l.length/\∀j:Nat,q.1.l[j]?=if j<n then(zipWith oq a.l b.l)[j]?else a.l[j]?) ⟨rfl,by rw[u],λj=>Zac⟩ ?_ ?_;rintro n ⟨o,_⟩ O ⟨rfl,g1,g2⟩;simp only at g1 g2;have w:n<a.l.length:=by grind
 have B:n<b.l.length:=Zaa;unfold en.bV;dsimp only;rw[show decide ((n:Int)<len d)=true from Zac,bD,oF Zaa,ζb];unfold Sl.get;rw[g2 n,if_neg Zaa,ζd w,ζb,bJ B,ζb,Wy,ζb,ζb];have⟨o2,k1,k2⟩:=put_eq (s:=o) (p:=n) (x:=oq a.l[n] b.l[n]) Zaa;rw[k1,ζb,bg];refine⟨cH n Zaa,by show o2.l.length=_;simp_all,λj=>?_⟩;show o2.l[j]?=_;grind;rintro⟨o,_⟩ ⟨rfl,g1,g2⟩;simp only at g1 g2;unfold en.bV;dsimp only;rw[ji,bu,bg];refine(bg _).2 (.inr ⟨rfl,ext_getElem? λj=>?_,rfl⟩);rw[g2 j];by_cases C:j<d.l.length;rw[if_pos C];rw[if_neg C,getElem?_eq_none (by rw[<-u];omega),getElem?_eq_none (by rw[G.1,<-u];omega)];omega;rintro⟨o,k⟩ (⟨h,_⟩|⟨_,e,e2⟩);cases h;simp only at e e2;subst e2;unfold en.br;dsimp only;rw[f,show decide ((1:Int)<1)=false from rfl,bu,bg];exact(bg _).2 e
theorem dP.same{a b:R'}(h:dP a b)(k:dP b a):a=b:=by refine List.ext_getElem h.1 λj c u=>?_;have:=h.2 j _ _ (ζd c) (ζd u);have:=k.2 j _ _ (ζd u) (ζd c);omega
def kR(L:aZ R')(f:Nat->X')(d:R'):Prop:=d∈L/\f (L.idxOf d)=true
section
variable{t:Z4}{A:cz 200 bG}{L:aZ R'}{tb:Sl X'}{x:ck}
def Zr(t:Z4)(A:cz 200 bG)(L:aZ R')(f:Nat->X')(c:R')(o:Zg):Prop:=(o=.nil/\∀d,kR L f d->¬dP c d)\/(Cons t A o.l/\dP c o.l/\(∀d,kR L f d->dP c d->dP o.l d)/\(∃d,kR L f d/\dP c d)/\∀e,(∀d,kR L f d->dP c d->dP e d)->dP e o.l)
theorem zS{c:R'}{p:Nat}(h:p<c.length):dP c (bump c p 1):=⟨vB.symm,λq x y w u=>by
 rw[yD (ζd h)]at u
 grind⟩
theorem Ii(hS:Small t)(r:VT t)(hM:fR t (bQ t) A)(B:ec t A L)(h5:L.length<=5000)(E:ins x.l=L)(av:x.truth=tb)(hx:ze L (lT x.index))(aH:tb.l.length=L.length):
 Wp (dS x) λout=>out.l.length=L.length/\∀(i:Nat)c,L[i]?=some c->∃o,out.l[i]?=some o/\Zr t A L (gR tb) c o:=by
 have R:=r.few;have aG:=r.ok.one;have aw:x.l.l.length=L.length:=by rw[<-E,jT]
 unfold dS;have ax:len x.l=(L.length:Int):=by simp only[len,aw]
 rw[ax,show o_ (L.length:Int) (Sl.nil:Zg)=some (.row (replicate L.length Sl.nil))from by unfold o_;rw[if_pos ⟨Zaa,Zaa⟩];rfl,ζb,eF _ Zaa Zaa]
 unfold dS.W1;refine eS L.length (λm(q:Zb×Int)=>q.2=(L.length:Int)-1-(m:Int)/\q.1.l.length=L.length/\(∀(j:Nat)c,L.length-m<=j->L[j]?=some c->∃o,q.1.l[j]?=some o/\Zr t A L (gR tb) c o)/\∀j:Nat,j<L.length-m->q.1.l[j]?=some .nil)
  ⟨Zab,by simp[Sl.l],λj c Q b=>absurd (ζe.1 b).1 Zaa,λj Q=>by
   show(replicate L.length (Sl.nil:Zg))[j]?=_;rw[List.getElem?_replicate,if_pos Zaa]⟩ ?_ ?_
 .rintro m ⟨out,_⟩ hm ⟨rfl,g1,g2,g3⟩;simp only at g1 g2 g3;obtain⟨i,hi⟩:∃i:Nat,i+m+1=L.length:=⟨L.length-1-m,Zaa⟩
  have W:i<L.length:=Zaa
  have J:=ζd W;have F:=(B.mem _).1 (getElem_mem W);unfold dS.br;dsimp only;rw[show(L.length:Int)-1-(m:Int)=(i:Int)from Zaa,decide_eq_true (show(i:Int)>=0 by omega),bD,av,CT Zaa,ζb,show(i:Int)-1=(L.length:Int)-1-((m+1:Nat):Int)from Zaa]
  cases H:gR tb i with
  |true=>
   have V:i<x.l.l.length:=Zaa
   have X:x.l.l[i].l=L[i]:=by have:=u7 V;rw[E,J]at this;exact(Option.some.inj this).symm
   have⟨o2,k1,k2⟩:=put_eq (s:=out) (p:=i) (x:=x.l.l[i]) Zaa
   rw[bD,bJ V,ζb,oF Zaa,ζb,k1,ζb,bg]
   refine⟨eF _ Zaa Zaa,by show o2.l.length=_;rw[k2,length_set];exact g1,λj c Q b=>?_,λj Q=>?_⟩
   .show ∃o,o2.l[j]?=some o/\_;rw[k2,getElem?_set]
    by_cases e:i=j
    .subst e;rw[J]at b;cases b;exact⟨_,by rw[if_pos rfl,if_pos Zaa],.inr ⟨by rw[X];exact F,by rw[X];exact dP.refl _,λd _ hd=>by rw[X];exact hd,⟨_,⟨getElem_mem W,by rw[qe B.nodup J];exact H⟩,dP.refl _⟩,λe g=>by rw[X];exact g _ ⟨getElem_mem W,by rw[qe B.nodup J];exact H⟩ (dP.refl _)⟩⟩
    rw[if_neg e];exact g2 j c Zaa b
   show o2.l[j]?=_;rw[k2,getElem?_set,if_neg Zaa];exact g3 j Zaa
  |false=>
   rw[bu,eM];refine(Wv hS r B E hx J).mono λl ai=>?_
   have aj:l.l.length=(xh L L[i]).length:=by rw[ai,List.length_map]
   have aI:l.l.length<=8:=by rw[aj];have:=List.length_filterMap_le (λp=>if bump L[i] p 1∈L then some (L.idxOf (bump L[i] p 1))else none) (range L[i].length);rw[List.length_range]at this;exact le_trans this (by rw[F.1.1];exact R)
   unfold dS.W2;refine eS l.l.length (λn(q:Zb×Int)=>q.2=(n:Int)/\q.1.l.length=L.length/\(∀j:Nat,j≠i->q.1.l[j]?=out.l[j]?)/\∃a,q.1.l[i]?=some a/\
    ((a=.nil/\∀(m' k:Nat)z,m'<n->(xh L L[i])[m']?=some k->L[k]?=some z->∀d,kR L (gR tb) d->¬dP z d)\/
     (Cons t A a.l/\dP L[i] a.l/\(∀(m' k:Nat)z,m'<n->(xh L L[i])[m']?=some k->L[k]?=some z->∀d,kR L (gR tb) d->dP z d->dP a.l d)/\(∃d,kR L (gR tb) d/\dP L[i] d)/\∀e,(∀d,kR L (gR tb) d->dP L[i] d->dP e d)->dP e a.l)))
    ⟨rfl,g1,λ_ _=>rfl,.nil,g3 i Zaa,.inl ⟨rfl,λm' k z h=>absurd h Zaa⟩⟩ ?_ ?_
   .rintro n ⟨o,_⟩ hn ⟨rfl,e1,e2,a,e3,e4⟩;simp only at e1 e2 e3;have ak:n<(xh L L[i]).length:=by omega
    have Y:=ζd ak;have K:=getElem_mem ak;generalize hk:(xh L L[i])[n]=k at Y K;have⟨p,hp,Z,ay⟩:=Ap.1 K;have v:L[k]?=some (bump L[i] p 1):=by rw[ay];exact oA Z
    have aJ:i<k:=(EN B J K).1;have aK:=(ζe.1 v).1;have⟨ok,aA,al⟩:=g2 k _ Zaa v
    have am:idx l (n:Int)=some (k:Int):=by rw[iI,ai,getElem?_map,Y];rfl
    have S:o.l[k]?=some ok:=by rw[e2 k Zaa];exact aA
    unfold dS.bV;dsimp only;rw[jL hn,bD,am,ζb,oF Zaa,ζb]
    unfold Sl.get;rw[S,ζb];rcases al with⟨rfl,an⟩|⟨y,u,aB,⟨de,aC,aD⟩,ao⟩
    .rw[show Sl.isNil (Sl.nil:Zg)=some true from rfl,ζb,bD,bg];refine⟨cH n Zaa,e1,e2,a,e3,?_⟩
     have O:∀(m' I:Nat)z,m'<n+1->¬m'<n->(xh L L[i])[m']?=some I->L[I]?=some z->z=bump L[i] p 1:=λm' I z f G C D=>by obtain rfl:m'=n:=Zaa;rw[Y]at C;cases C;rw[v]at D;exact(Option.some.inj D).symm
     rcases e4 with⟨T,U⟩|⟨T,U,b⟩
     .refine .inl ⟨T,λm' I z f C D d hd=>?_⟩
      by_cases G:m'<n
      .exact U m' I z G C D d hd
      rw[O m' I z f G C D];exact an d hd
     refine .inr ⟨T,U,λm' I z f C D d hd u=>?_,b.2⟩
     by_cases G:m'<n
     .exact b.1 m' I z G C D d hd u
     rw[O m' I z f G C D]at u;exact absurd u (an d hd)
    have ap:0<ok.l.length:=by rw[y.1.1];omega
    have aq:=(zS hp).trans u;have O:∀(m' I:Nat)z,m'<n+1->¬m'<n->(xh L L[i])[m']?=some I->L[I]?=some z->∀d,kR L (gR tb) d->dP z d->dP ok.l d:=λm' I z f G C D d hd u=>by obtain rfl:m'=n:=Zaa;rw[Y]at C;cases C;rw[v]at D;cases D;exact aB d hd u
    rw[rE ap,ζb,bu,oF Zaa,ζb,e3,ζb]
    rcases e4 with⟨rfl,U⟩|⟨T,U,b⟩
    .have⟨o2,k1,k2⟩:=put_eq (s:=o) (p:=i) (x:=ok) Zaa
     rw[show Sl.isNil (Sl.nil:Zg)=some true from rfl,ζb,bD,ζb,S,ζb,ζb,k1,ζb,bg];refine⟨cH n Zaa,by show o2.l.length=_;rw[k2,length_set];exact e1,λj Q=>by show o2.l[j]?=_;rw[k2,getElem?_set,if_neg (Ne.symm Q)];exact e2 j Q,ok,by show o2.l[i]?=_;rw[k2,getElem?_set_self Zaa],.inr ⟨y,aq,λm' I z f C D d hd u=>?_,⟨de,aC,(zS hp).trans aD⟩,λe g=>ao e λd hd u=>g d hd ((zS hp).trans u)⟩⟩
     by_cases G:m'<n
     .exact absurd u (U m' I z G C D d hd)
     exact O m' I z f G C D d hd u
    have M:a.l.length=ok.l.length:=T.1.1.trans y.1.1.symm;have N:=lU.of oq M;have⟨w1,w2,P⟩:=N.le_min M;rw[rE (show 0<a.l.length by omega),ζb,bu,ζb,e3,ζb,ζb,S,ζb,eM]
    refine(Xg M Zaa (by rw[T.1.1];exact R)).mono λw hw=>?_
    have⟨o2,k1,k2⟩:=put_eq (s:=o) (p:=i) (x:=w) Zaa
    rw[ζb,k1,ζb,bg];rw[<-hw]at N w1 w2 P;refine⟨cH n Zaa,by show o2.l.length=_;rw[k2,length_set];exact e1,λj Q=>by show o2.l[j]?=_;rw[k2,getElem?_set,if_neg (Ne.symm Q)];exact e2 j Q,w,by show o2.l[i]?=_;rw[k2,getElem?_set_self Zaa],.inr ⟨yW T y N,P _ U aq,λm' I z f C D d hd u=>?_,b.2.1,λe g=>P _ (b.2.2 e g) (ao e λd hd u=>g d hd ((zS hp).trans u))⟩⟩
    by_cases G:m'<n
    .exact w1.trans (b.1 m' I z G C D d hd u)
    exact w2.trans (O m' I z f G C D d hd u)
   rintro⟨o,_⟩ ⟨rfl,e1,e2,a,e3,e4⟩;simp only at e1 e2 e3;unfold dS.bV;dsimp only;rw[ji,bu,bg];have ar:∀d,kR L (gR tb) d->dP L[i] d->∃(m' k:Nat)(z:R'),m'<l.l.length/\(xh L L[i])[m']?=some k/\L[k]?=some z/\dP z d:=λd hd u=>by have hD:=(B.mem _).1 hd.1;have aE:¬dP d L[i]:=λh=>(by have:d=L[i]:=dP.same h u;have G:=hd.2;rw[this,qe B.nodup J,H]at G;cases G);have⟨p,hp,Z,aF⟩:=CS r hM B F u d.sum.toNat hD (dP.refl d) Zaa aE;have hm:L.idxOf (bump L[i] p 1)∈xh L L[i]:=Ap.2 ⟨p,hp,Z,rfl⟩;have⟨m',au⟩:=getElem?_of_mem hm;exact⟨m',_,_,by rw[aj];exact(ζe.1 au).1,au,oA Z,aF⟩
   refine(bg _).2 ⟨(eF ((i:Int)-1) Zaa Zaa).trans Zaa,e1,λj c Q b=>?_,λj Q=>by show o.l[j]?=_;rw[e2 j Zaa];exact g3 j Zaa⟩
   show∃o',o.l[j]?=some o'/\_
   by_cases e:j=i
   .subst e;rw[J]at b;cases b;refine⟨a,e3,?_⟩;rcases e4 with⟨T,U⟩|⟨T,U,b⟩
    .exact .inl ⟨T,λd hd u=>by
      have⟨m',k,z,f,G,C,D⟩:=ar d hd u;exact U m' k z f G C d hd D⟩
    exact .inr ⟨T,U,λd hd u=>by
     have⟨m',k,z,f,G,C,D⟩:=ar d hd u;exact b.1 m' k z f G C d hd D,b.2⟩
   rw[e2 j e];exact g2 j c Zaa b
 rintro⟨out,_⟩ ⟨rfl,g1,g2,-⟩;unfold dS.br;dsimp only;rw[decide_eq_false Zaa,bu,bg]
 exact(bg _).2 ⟨g1,λi c b=>g2 i c Zaa b⟩
end
end Go.VE
namespace Go.VE
section
variable{α σ:Type}
def w8(p:α->σ->a_ (X'×σ)):aZ α->σ->a_ (X'×σ)
 |[],x=>some (false,x)|a::r,x=>(p a x).bind λy=>if y.1 then some (true,y.2)else w8 p r y.2
theorem GS{s:Sl α}{p:α->σ->a_ (X'×σ)}{x:σ}(B:s.l.length<1073741824):zw s p x=w8 p s.l x:=by
 have key:∀(c:aZ α)(j:Nat)(x:σ),s.l.drop j=c->((bY (Gf s p) ((j:Int),x)).bind (Fw.elim (λe=>some ((-1:Int),e)) λe=>some e)).bind (λy:Int×σ=>some (decide (y.1>=0),y.2))=w8 p c x:=by intro c;induction c with|nil=>intro j x hd;have d:decide ((j:Int)<len s)=false:=(by have:s.l.length<=j:=(by simpa using hd);simp[len];omega);rw[fG];simp only[Gf,d,bl,false_eq_true,if_false,ζb,Fw.elim,w8];rfl|cons a c u=>intro j x hd;have d:j<s.l.length:=(by apply byContradiction;intro C;rw[List.drop_eq_nil_of_le Zaa]at hd;cases hd);have w:=List.drop_eq_getElem_cons d;rw[w]at hd;simp only[List.cons.injEq]at hd;rw[fG];simp only[Gf,jL d,bl,if_true,bJ d,ζb,hd.1,w8];cases p a x with|none=>rfl|some y=>have⟨b,z⟩:=y;simp only[ζb];cases b with|true=>simp[Fw.elim]|false=>simp only[false_eq_true,if_false,ζb,cH j Zaa];exact u (j+1) z hd.2
 exact key s.l 0 x rfl
def GH(p:α->a_ X'):aZ α->a_ X'
 |[]=>some false|a::r=>(p a).bind λb=>if b then some true else GH p r
theorem Ib(p:α->a_ X'):∀l:aZ α,w8 (λx(u:Unit)=>(p x).map λb=>(b,u)) l ()=(GH p l).map λb=>(b,())
 |[]=>rfl|a::r=>by simp only[w8,GH];cases p a with|none=>rfl|some b=>cases b<;>simp[Ib p r]
theorem t_{s:Sl α}(p:α->a_ X')(B:s.l.length<1073741824):zw s (λx(u:Unit)=>(p x).map λb=>(b,u)) ()=(GH p s.l).map λb=>(b,()):=by rw[GS B,Ib]
theorem tP{p:α->a_ X'}{f:α->X'}:∀{l:aZ α},(∀x∈l,p x=some (f x))->GH p l=some (l.any f)
 |[],_=>rfl|a::r,h=>by simp only[GH,h a Zab,ζb,any_cons,tP (λx B=>h x (mem_cons_of_mem _ B))];cases f a<;>rfl
theorem fZ{δ:Type}{b:(α->a_ δ)->α->a_ δ}{n:Nat}(h:0<n)(z:α):dU b n z=b (dU b (n-1)) z:=by cases n with|zero=>omega|succ n=>rfl
end
def Py(l:R')(az:aZ Assign):R':=az.foldl (λl a=>l.set a.var.toNat a.value) l
def jZ(P:bW):Nat->R'
 |0=>P.vars.l.map Var.init_|k+1=>match P.events.l[k]?with
  |some e=>Py (jZ P k) e.assign.l|none=>jZ P k
theorem KV:∀(az:aZ Assign)(l:R'),(Py l az).length=l.length
 |[],l=>rfl|a::r,l=>by show(Py (l.set a.var.toNat a.value) r).length=_;rw[KV r];simp
theorem sn(P:bW):∀k,(jZ P k).length=P.vars.l.length
 |0=>by simp[jZ]|k+1=>by unfold jZ;split;rw[KV,sn P k];exact sn P k
def Nr{α:Type}(s:Sl α):Prop:=s=.nil\/∃l,s=.row l
theorem JV:∀(vs:aZ Var)(s:Zg),Nr s->s.l.length+vs.length<1073741824->∃B,xx vs s=some B/\Nr B/\B.l=s.l++vs.map Var.init_
 |[],s,h,_=>⟨s,rfl,h,Zab⟩|v::r,s,h,D=>by simp only[length_cons]at D;have a:gm s v.init_=some (.row (s.l++[v.init_])):=(by unfold gm;rw[if_pos Zaa]);have⟨B,g1,g2,g3⟩:=JV r (.row (s.l++[v.init_])) (.inr ⟨_,rfl⟩) (by show(s.l++[v.init_]).length+r.length<1073741824;simp;omega);refine⟨B,?_,g2,by rw[g3];show(s.l++[v.init_])++r.map Var.init_=_;simp⟩;simp only[xx,a,ζb,g1]
theorem Lj:∀(az:aZ Assign)(s:Zg),Nr s->(∀a∈az,0<=a.var/\a.var<s.l.length)->∃B,xA az s=some B/\Nr B/\B.l=Py s.l az
 |[],s,h,_=>⟨s,rfl,h,rfl⟩|a::r,s,h,D=>by have⟨d,c⟩:=D a Zab;have e:Sl.jc s a.var=some a.var.toNat:=(by unfold Sl.jc;rw[if_pos ⟨d,Zaa⟩]);rcases h with rfl|⟨l,rfl⟩;simp[Sl.l]at c;omega;have u:Sl.put (.row l) a.var.toNat a.value=some (.row (l.set a.var.toNat a.value)):=(by unfold Sl.put;rw[if_pos (by simp[Sl.l]at c⊢;omega)]);have⟨B,g1,g2,g3⟩:=Lj r (.row (l.set a.var.toNat a.value)) (.inr ⟨_,rfl⟩) (λb w=>by have:=D b (mem_cons_of_mem _ w);simpa[Sl.l]using this);refine⟨B,?_,g2,g3⟩;simp only[xA,e,u,ζb,g1]
theorem MV{s:Zg}(h:Nr s)(B:s.l.length<1073741824):∃c,OU s=some c/\c.l=s.l:=by rcases h with rfl|⟨l,rfl⟩;exact⟨.nil,rfl,rfl⟩;unfold OU IB.ey oV;simp only[Sl.isNil,ζb,bl,false_eq_true,if_false];by_cases a:(Sl.row l).l=[];rw[if_pos a];exact⟨.row [],rfl,a.symm⟩;rw[if_neg a,if_pos (by simp[Sl.l]at B⊢;omega)];exact⟨_,rfl,by simp[Sl.l]⟩
def xG(P:bW):Prop:=∀e∈P.events.l,∀a∈e.assign.l,0<=a.var/\a.var<P.vars.l.length
theorem K3{P:bW}(B:xG P)(f:P.vars.l.length<1073741824):∀(b:aZ WF)(k:Nat)(s:Zg),P.events.l.drop k=b->Nr s->s.l=jZ P k->
 ∃r,xq (k:Int) b s=some r/\r.length=b.length/\∀(i:Nat)x,r[i]?=some x->x.1=((k+i+1:Nat):Int)/\x.2.l=jZ P (k+i+1)
 |[],k,s,_,_,_=>⟨[],rfl,rfl,Zab⟩|e::b,k,s,hd,D,G=>by have d:k<P.events.l.length:=(by apply byContradiction;intro D;rw[List.drop_eq_nil_of_le Zaa]at hd;cases hd);have C:=List.drop_eq_getElem_cons d;rw[C]at hd;simp only[List.cons.injEq]at hd;have I:e∈P.events.l:=hd.1▸getElem_mem d;have w:s.l.length=P.vars.l.length:=(by rw[G,sn]);have⟨n,g1,g2,g3⟩:=Lj e.assign.l s D (λa J=>by rw[w];exact B e I a J);have u:jZ P (k+1)=n.l:=(by rw[g3,G];unfold jZ;rw[ζd d,hd.1];cases k<;>rfl);have⟨c,g4,g5⟩:=MV g2 (by rw[<-u,sn];exact f);have⟨r,L,O,Q⟩:=K3 B f b (k+1) n hd.2 g2 u.symm;refine⟨((k:Int)+1,c)::r,?_,by simp[O],λi x z=>?_⟩;simp only[xq,g1,g4,ζb];rw[show(k:Int)+1=((k+1:Nat):Int)from rfl,L];rfl;cases i with|zero=>simp only[List.getElem?_cons_zero,ζa]at z;subst z;exact⟨rfl,by rw[g5,<-u]⟩|succ i=>rw[List.getElem?_cons_succ]at z;have⟨S,T⟩:=Q i x z;exact⟨by rw[S];congr 1;omega,by rw[T];congr 1;omega⟩
theorem IS{P:bW}(B:xG P)(a:P.vars.l.length<1073741824)(U:P.events.l.length<1073741824)(D:∀e∈P.events.l,e.assign.l.length<1073741824):
 ∃r,j9 P=some r/\r.length=P.events.l.length+1/\∀(i:Nat)x,r[i]?=some x->x.1=(i:Int)/\x.2.l=jZ P i:=by
 have⟨s,g1,g2,g3⟩:=JV P.vars.l .nil (.inl rfl) (by simpa[Sl.l]using a)
 have w:s.l=jZ P 0:=by rw[g3];simp[Sl.l,jZ]
 have⟨c,g4,g5⟩:=MV g2 (by rw[w,sn];exact a)
 have⟨r,z,C,G⟩:=K3 B a P.events.l 0 s rfl g2 w;refine⟨(0,c)::r,?_,by simp[C],λi x u=>?_⟩
 .unfold j9;have b:(qm P.vars.l.length&&(qm P.events.l.length&&P.events.l.all λe=>qm e.assign.l.length))=true:=by
   simp only[ζh,all_eq_true,qm,decide_eq_true_eq];exact⟨Zaa,Zaa,λe h=>by have:=D e h;omega⟩
  rw[if_pos b,g1,ζb,g4,ζb];rw[show((0:Nat):Int)=0 from rfl]at z;rw[z];rfl
 cases i with
 |zero=>simp only[List.getElem?_cons_zero,ζa]at u;subst u;exact⟨rfl,by rw[g5,w]⟩|succ i=>rw[List.getElem?_cons_succ]at u;have⟨I,J⟩:=G i x u;exact⟨by rw[I];congr 1;omega,by rw[J];congr 1;omega⟩
theorem LB{P:bW}(D:xG P)(b:P.vars.l.length<1073741824)(G:P.events.l.length<1073741824)(J:∀e∈P.events.l,e.assign.l.length<1073741824){k:Nat}(d:k<=P.events.l.length):
 ∃x,fS P (k:Int)=some x/\x.l=jZ P k:=by
 have⟨r,c,O,C⟩:=IS D b G J;have key:∀(a:aZ (Int×Zg))(i:Nat)(q:Zg),r.drop i=a->i<=k->∃x,(lV (λ(x:Int×(Zg))(q:Zg)=>fS.kN P k x q) a q).bind (Fw.si (λq=>some Sl.nil) (λe=>Empty.elim e) (λe=>some e))=some x/\x.l=jZ P k:=by intro a;induction a with|nil=>intro i q hd hi;have:r.length<=i:=(by simpa using hd);omega|cons y a I=>intro i q hd hi;have u:i<r.length:=Zaa;have e2:=List.drop_eq_getElem_cons u;rw[e2]at hd;simp only[List.cons.injEq]at hd;have⟨B,L⟩:=C i y (by rw[ζd u,hd.1]);by_cases w:i=k;subst w;refine⟨y.2,?_,L⟩;simp only[lV,fS.kN,B,beq_self_eq_true,bl,if_true,ζb,Fw.si];have z:(y.1==(k:Int))=false:=(by rw[B];simp;omega);have⟨x,g1,g2⟩:=I (i+1) .nil hd.2 Zaa;refine⟨x,?_,g2⟩;simp only[lV,fS.kN,z,bl,false_eq_true,if_false,ζb];exact g1
 have⟨x,g1,g2⟩:=key r 0 .nil rfl (zero_le _);refine⟨x,?_,g2⟩;unfold fS oI fS.E1;simp only[ζb,c];exact g1
mutual
def Pred.sz:T'->Nat
 |⟨_,_,_,_,_,l⟩=>1+Pred.Zh l
def Pred.Zh:Sl T'->Nat
 |.nil=>0|.emp=>0|.row l=>Pred.nH l|.part l=>Pred.nH l
def Pred.nH:aZ T'->Nat
 |[]=>0|x::r=>Pred.sz x+Pred.nH r
end
mutual
def Pred.dp:T'->Nat
 |⟨_,_,_,_,_,l⟩=>1+Pred.Zq l
def Pred.Zq:Sl T'->Nat
 |.nil=>0|.emp=>0|.row l=>Pred.vc l|.part l=>Pred.vc l
def Pred.vc:aZ T'->Nat
 |[]=>0|x::r=>max (Pred.dp x) (Pred.vc r)
end
mutual
def Pred.gA(f:T'->X'):T'->X'
 |⟨a,b,c,d,e,l⟩=>f ⟨a,b,c,d,e,l⟩&&Pred.Ow f l
def Pred.Ow(f:T'->X'):Sl T'->X'
 |.nil=>true|.emp=>true|.row l=>Pred.G_ f l|.part l=>Pred.G_ f l
def Pred.G_(f:T'->X'):aZ T'->X'
 |[]=>true|x::r=>Pred.gA f x&&Pred.G_ f r
end
theorem Pred.Z_(s:Sl T'):Pred.Zh s=Pred.nH s.l:=by cases s<;>simp[Pred.Zh,Pred.nH,Sl.l]
theorem Pred.aat(s:Sl T'):Pred.Zq s=Pred.vc s.l:=by cases s<;>simp[Pred.Zq,Pred.vc,Sl.l]
theorem Pred.K2(f:T'->X'):∀l:aZ T',Pred.G_ f l=l.all (Pred.gA f)
 |[]=>by simp[Pred.G_]|x::r=>by simp only[Pred.G_,all_cons,Pred.K2 f r]
theorem Pred.Zj(f:T'->X')(s:Sl T'):Pred.Ow f s=s.l.all (Pred.gA f):=by cases s<;>simp[Pred.Ow,Pred.K2,Sl.l]
theorem Pred.Vc(p:T'):p.sz=1+Pred.nH p.l.l:=by cases p;simp only[Pred.sz,Pred.Z_]
theorem Pred.Ge(p:T'):p.dp=1+Pred.vc p.l.l:=by cases p;simp only[Pred.dp,Pred.aat]
theorem Pred.kH(f:T'->X')(p:T'):p.gA f=(f p&&p.l.l.all (Pred.gA f)):=by cases p;simp only[Pred.gA,Pred.Zj]
theorem Pred.M5:∀{l:aZ T'}{q:T'},q∈l->q.dp<=Pred.vc l
 |x::r,q,h=>by simp only[Pred.vc];rcases mem_cons.1 h with rfl|h;omega;have:=Pred.M5 h;omega
theorem Pred.mK{p q:T'}(h:q∈p.l.l):q.dp<p.dp:=by rw[p.Ge];have:=Pred.M5 h;omega
theorem Pred.sW(p:T'):0<p.dp:=by rw[p.Ge];omega
theorem Pred.ind{M:T'->Prop}(h:∀p,(∀q∈p.l.l,M q)->M p)(p:T'):M p:=by
 have key:∀n p,p.dp<=n->M p:=by intro n;induction n with|zero=>intro p u;have:=p.sW;omega|succ n w=>intro p u;exact h p λq z=>w q (by have:=Pred.mK z;omega)
 exact key _ p (le_refl _)
abbrev Pred.Sm(p:Pred):Prop:=p.gA (λq=>decide (q.l.l.length<1073741824))=true
theorem Pred.Sm.len{p:T'}(h:p.Sm):p.l.l.length<1073741824:=by unfold Pred.Sm at h;rw[p.kH]at h;simp only[ζh,decide_eq_true_eq]at h;exact h.1
theorem Pred.Sm.uW{p q:T'}(h:p.Sm)(B:q∈p.l.l):q.Sm:=by unfold Pred.Sm at h;rw[p.kH]at h;simp only[ζh,all_eq_true]at h;exact h.2 q B
theorem MQ{f:T'->a_ X'}{g:T'->X'}(p:T')(B:p.Sm):p.gA (λq=>f q==some (g q))=true->∀n,p.dp<=n->dU (λr(z:T')=>jQ z f r) n p=some (p.gA g):=by induction p using Pred.ind with|h p C=>intro u n D;rw[p.kH]at u;simp only[ζh,all_eq_true,beq_iff_eq]at u;have hd:=p.Ge;rw[fZ Zaa];show jQ p f _=_;unfold jQ;rw[u.1,ζb,p.kH];cases g p with|false=>rfl|true=>rw[bD,t_ _ B.len,tP (f:=λq=> !q.gA g) (λq w=>by have:=C q w (B.uW w) (u.2 q w) (n-1) (by have:=Pred.mK w;omega);show(dU (λr(z:T')=>jQ z f r) (n-1) q).bind _=_;rw[this];rfl)];simp only[Option.map_some,ζb,Bool.true_and];congr 1;rw[Bool.eq_iff_iff];simp
abbrev M7(p:Pred):Bool:=toList p.name==toList ByteArray.empty
abbrev E3(p:Pred)(c:Int):Bool:=(len p.l==c)&&(!decide (p.n<0)&&(!decide (p.n>1125899906842624)&&((p.n==0||p.kind==1)&&(p.kind==2||(p.kind==3||(p.kind==4||(p.proc==0&&(p.peer==0&&M7 p))))))))
theorem WW:∀k:_root_.Fin 22,1<=k.1->(cz.at AG ((k.1:Nat):Int)).isSome=true:=by decide
theorem I4{k:Int}(a:1<=k)(B:k<22):∃c,cz.at AG k=some c:=by have g:=WW ⟨k.toNat,Zaa⟩ (by show 1<=k.toNat;omega);simp only at g;rw[show((k.toNat:Nat):Int)=k from Zaa]at g;exact Option.isSome_iff_exists.1 g
theorem Hj{p:T'}{c:Int}(f:1<=p.kind)(B:p.kind<22)(d:cz.at AG p.kind=some c):lP p=some (E3 p c):=by
 unfold lP vD E3 M7;rw[decide_eq_false (show¬p.kind<1 by omega),bu,ζb,decide_eq_false (show¬p.kind>=22 by omega),bu,d,ζb,ζb];generalize(len p.l==c)=e;generalize decide (p.n<0)=a;generalize decide (p.n>1125899906842624)=b;generalize(p.n==0)=z;generalize(p.kind==1)=k1;generalize(p.kind==2)=k2;generalize(p.kind==3)=k3;generalize(p.kind==4)=k4;generalize(p.proc==0)=d1;generalize(p.peer==0)=d2;generalize(toList p.name==toList ByteArray.empty)=u
 cases e with
 |false=>rfl|true=>cases a with
  |true=>rfl|false=>cases b with
   |true=>rfl|false=>cases z<;>cases k1<;>first|rfl|(cases k2<;>cases k3<;>cases k4<;>cases d1<;>cases d2<;>cases u<;>rfl)
theorem Jy{p:T'}(h:p.kind<1\/22<=p.kind):lP p=some false:=by
 unfold lP;have:(bl (decide (p.kind<1)) (some true) (some (decide (p.kind>=22))):a_ X')=some true:=by by_cases a:p.kind<1;rw[decide_eq_true a];rfl;rw[decide_eq_false a,bu,decide_eq_true Zaa]
 rw[this];rfl
def fB(p:T'):X':=(lP p).getD false
theorem W9(p:T'):lP p=some (fB p):=by unfold fB;by_cases h:p.kind<1\/22<=p.kind;rw[Jy h];rfl;have⟨c,a⟩:=I4 (k:=p.kind) Zaa Zaa;rw[Hj Zaa Zaa a];rfl
theorem sw{p:T'}(h:fB p=true):1<=p.kind/\p.kind<22/\cz.at AG p.kind=some (len p.l):=by by_cases g:p.kind<1\/22<=p.kind;unfold fB at h;rw[Jy g]at h;cases h;have⟨c,a⟩:=I4 (k:=p.kind) Zaa Zaa;unfold fB at h;rw[Hj Zaa Zaa a]at h;simp only[E3,Option.getD_some,ζh,beq_iff_eq]at h;exact⟨Zaa,Zaa,by rw[a,h.1]⟩
def nh(p:T'):X':=decide (p.sz<=200)&&(decide (p.dp<=20)&&p.gA fB)
abbrev pJ(p:Pred)(d l:Nat):Bool:=decide (p.sz<=l)&&(decide (p.dp+d<=21)&&p.gA fB)
abbrev wD(k:aZ Pred)(d l:Nat):Bool:=decide (Pred.nH k<=l)&&(decide (Pred.vc k+d<=21)&&k.all (Pred.gA fB))
theorem Wt(p:T')(U:p.Sm):∀(n d l:Nat),1<=n->22<=n+d->d<=21->1<=d->l<=200->
 ∃B:Int,dU (λr(z:T'×Int×Int)=>fu z.1 z.2.1 z.2.2 r) n (p,(d:Int),(l:Int))=some (pJ p d l,B)/\(pJ p d l=true->B=((l-p.sz:Nat):Int)):=by
 induction p using Pred.ind with
 |h p D=>
  intro n d l e X hd jy f;have C:=p.Vc;have I:=p.Ge;rw[fZ Zaa]
  have D:=λq G=>D q G (U.uW G) (n-1)
  show∃B,fu p (d:Int) (l:Int) (dU (λr(z:T'×Int×Int)=>fu z.1 z.2.1 z.2.2 r) (n-1))=_/\_
  generalize dU (λr(z:T'×Int×Int)=>fu z.1 z.2.1 z.2.2 r) (n-1)=R at D⊢
  unfold fu;rw[eF _ Zaa Zaa,W9]
  by_cases b:l=0
  .subst b;have w:pJ p d 0=false:=by
    have:¬(p.sz<=0):=Zaa
    simp only[pJ,decide_eq_false this,Bool.false_and]
   rw[w];exact⟨_,rfl,λh=>by cases h⟩
  rw[decide_eq_false (show¬((l:Int)-1<0)by omega),bu,ζb]
  by_cases g:20<d
  .have w:pJ p d l=false:=by
    have:¬(p.dp+d<=21):=by have:=p.sW;omega
    simp only[pJ,decide_eq_false this,Bool.false_and,Bool.and_false]
   rw[w,decide_eq_true (show(d:Int)>20 by omega)]
   exact⟨_,rfl,λh=>by cases h⟩
  rw[decide_eq_false (show¬((d:Int)>20)by omega),bu,ζb]
  have Q:=p.kH fB
  cases S:fB p with
  |false=>
   have w:pJ p d l=false:=by simp[pJ,Q,S]
   rw[w];exact⟨_,rfl,λh=>by cases h⟩
  |true=>
   rw[ζb,show(!true)=false from rfl,bu,GS U.len];have key:∀(k:aZ T'),(∀q∈k,q∈p.l.l)->∀m:Nat,m<=200->∃m':Int,w8 (λx s=>jb x (d:Int) s R) k (m:Int)=some (!wD k (d+1) m,m')/\(wD k (d+1) m=true->m'=((m-Pred.nH k:Nat):Int)):=by intro k;induction k with|nil=>intro _ m _;exact⟨m,by simp[w8,wD,Pred.nH,Pred.vc];omega,λ_=>by simp[Pred.nH]⟩|cons q k J=>intro a m Y;have⟨B,g1,g2⟩:=D q (a q Zab) (d+1) m Zaa Zaa Zaa Zaa Y;have e1:jb q (d:Int) (m:Int) R=some (!pJ q (d+1) m,B):=(by unfold jb;rw[cH d Zaa,g1];rfl);simp only[w8,e1,ζb];have u:wD (q::k) (d+1) m=(pJ q (d+1) m&&wD k (d+1) (m-q.sz)):=(by rw[Bool.eq_iff_iff];simp only[wD,pJ,Pred.nH,Pred.vc,ζh,all_cons];constructor;rintro⟨a1,a2,a3,a4⟩;have a1:=of_decide_eq_true a1;have a2:=of_decide_eq_true a2;exact⟨⟨decide_eq_true Zaa,decide_eq_true Zaa,a3⟩,decide_eq_true Zaa,decide_eq_true Zaa,a4⟩;rintro⟨⟨a1,a2,a3⟩,T,W,Z⟩;have a1:=of_decide_eq_true a1;have a2:=of_decide_eq_true a2;have T:=of_decide_eq_true T;have W:=of_decide_eq_true W;exact⟨decide_eq_true Zaa,decide_eq_true Zaa,a3,Z⟩);cases w:pJ q (d+1) m with|false=>rw[u,w];exact⟨B,rfl,λh=>by cases h⟩|true=>have⟨m',L,O⟩:=J (λx c=>a x (mem_cons_of_mem _ c)) (m-q.sz) Zaa;rw[u,w,Bool.true_and,g2 w];refine⟨m',by simpa using L,λh=>?_⟩;rw[O h];have:q.sz<=m:=(by have:=w;simp only[pJ,ζh]at this;exact of_decide_eq_true this.1);congr 1;show m-q.sz-Pred.nH k=m-(q.sz+Pred.nH k);omega
   have⟨m',L,O⟩:=key p.l.l (λq G=>G) (l-1) Zaa
   rw[show((l:Int)-1)=((l-1:Nat):Int)from Zaa,L,ζb]
   have w:pJ p d l=wD p.l.l (d+1) (l-1):=by rw[Bool.eq_iff_iff];simp only[pJ,wD,ζh,Q,S,true_and,C,I];constructor;rintro⟨a1,a2,a3⟩;have a1:=of_decide_eq_true a1;have a2:=of_decide_eq_true a2;exact⟨decide_eq_true Zaa,decide_eq_true Zaa,a3⟩;rintro⟨a1,a2,a3⟩;have a1:=of_decide_eq_true a1;have a2:=of_decide_eq_true a2;exact⟨decide_eq_true Zaa,decide_eq_true Zaa,a3⟩
   refine⟨m',by rw[w];simp,λh=>?_⟩
   rw[O (by rw[<-w];exact h),C]
   congr 1
   omega
theorem u9{p:T'}(B:p.Sm):mN p=some (nh p):=by obtain⟨u,h,-⟩:=Wt p B 100000 1 200 Zaa Zaa Zaa Zaa Zaa;unfold mN rR;rw[show dU (λr(z:T'×Int×Int)=>fu z.1 z.2.1 z.2.2 r) 100000 (p,(1:Int),(200:Int))=_ from h];simp only[ζb];congr 1;rw[Bool.eq_iff_iff];simp only[nh,pJ,ζh];constructor;rintro⟨a1,a2,a3⟩;have a2:=of_decide_eq_true a2;exact⟨a1,decide_eq_true Zaa,a3⟩;rintro⟨a1,a2,a3⟩;have a2:=of_decide_eq_true a2;exact⟨a1,decide_eq_true Zaa,a3⟩
theorem UA{l:aZ T'}{i:Nat}(h:i<l.length):Pred.nH (l.take (i+1))=Pred.nH (l.take i)+l[i].sz:=by
 have key:∀(l:aZ T')(i:Nat)(h:i<l.length),Pred.nH (l.take (i+1))=Pred.nH (l.take i)+l[i].sz:=by intro l;induction l with|nil=>intro i h;simp at h|cons x r u=>intro i h;cases i with|zero=>simp[Pred.nH]|succ i=>have:=u i (by simpa using h);simp only[List.take_succ_cons,Pred.nH,List.getElem_cons_succ]at this⊢;omega
 exact key l i h
theorem Tc{l:aZ T'}{i:Nat}(h:i<l.length):Pred.vc (l.take (i+1))=max (Pred.vc (l.take i)) l[i].dp:=by
 have key:∀(l:aZ T')(i:Nat)(h:i<l.length),Pred.vc (l.take (i+1))=max (Pred.vc (l.take i)) l[i].dp:=by intro l;induction l with|nil=>intro i h;simp at h|cons x r u=>intro i h;cases i with|zero=>simp[Pred.vc]|succ i=>have:=u i (by simpa using h);simp only[List.take_succ_cons,Pred.vc,List.getElem_cons_succ]at this⊢;omega
 exact key l i h
theorem My(l:aZ T')(i:Nat):Pred.nH (l.take i)<=Pred.nH l:=by
 induction l generalizing i with
 |nil=>simp|cons x r u=>cases i with
  |zero=>simp[Pred.nH]|succ i=>simp only[List.take_succ_cons,Pred.nH];have:=u i;omega
theorem count_eq(p:T')(G:p.Sm):∀(n l:Nat),l+1<=n->l<=200->dU (λr(z:T'×Int)=>iO z.1 z.2 r) n (p,(l:Int))=some ((min p.sz (l+1):Nat):Int):=by
 induction p using Pred.ind with|h p C=>
  intro n l O Q;have J:=p.Vc;rw[fZ Zaa];have C:=λq I=>C q I (G.uW I) (n-1);show iO p (l:Int) (dU (λr(z:T'×Int)=>iO z.1 z.2 r) (n-1))=_;generalize dU (λr(z:T'×Int)=>iO z.1 z.2 r) (n-1)=R at C⊢;unfold iO kj.W1;refine Wp.eq ?_;refine gb (λs:Int×Int=>∃i:Nat,s.2=i/\i<=p.l.l.length/\s.1=((min (1+Pred.nH (p.l.l.take i)) (l+1):Nat):Int)) (λs=>p.l.l.length-s.2.toNat) ⟨0,rfl,zero_le _,by simp[Pred.nH]⟩ ?_;rintro⟨c,_⟩ ⟨i,rfl,hi,a⟩;simp only at a;subst a;unfold kj.br;by_cases u:i<p.l.l.length;rw[jL u,bD,ζb];by_cases L:min (1+Pred.nH (p.l.l.take i)) (l+1)<=l;have w:min (1+Pred.nH (p.l.l.take i)) (l+1)=1+Pred.nH (p.l.l.take i):=by omega
  have B:=getElem_mem u;rw[decide_eq_true (show(((min (1+Pred.nH (p.l.l.take i)) (l+1):Nat)):Int)<=(l:Int)by omega),bD,bJ u,ζb,w,eF _ Zaa Zaa,
   show(l:Int)-((1+Pred.nH (p.l.l.take i):Nat):Int)=((l-(1+Pred.nH (p.l.l.take i)):Nat):Int)from Zaa,
   C _ B _ Zaa Zaa,ζb,bg,eF _ Zaa Zaa,cH i (by have:=G.len;omega)]
  refine⟨⟨i+1,rfl,Zaa,?_⟩,by simp only;omega⟩;simp only;rw[UA u];omega;rw[decide_eq_false (show¬(((min (1+Pred.nH (p.l.l.take i)) (l+1):Nat)):Int)<=(l:Int)by omega),bu,bg];refine(bg _).2 ?_;have:=My p.l.l i;congr 1;omega;have D:i=p.l.l.length:=Zaa;subst D;rw[show decide (((p.l.l.length:Nat):Int)<len p.l)=false from ji,bu,ζb,bu,bg];refine(bg _).2 ?_;rw[take_length];congr 1;omega
theorem SL(p:T')(D:p.Sm):∀(n m:Nat),m+1<=n->m<=200->dU (λr(z:T'×Int)=>iN z.1 z.2 r) n (p,(m:Int))=some ((min p.dp (m+1):Nat):Int):=by induction p using Pred.ind with|h p B=>intro n m I J;have G:=p.Ge;rw[fZ Zaa];have B:=λq C=>B q C (D.uW C) (n-1);show iN p (m:Int) (dU (λr(z:T'×Int)=>iN z.1 z.2 r) (n-1))=_;generalize dU (λr(z:T'×Int)=>iN z.1 z.2 r) (n-1)=R at B⊢;unfold iN;by_cases a:m=0;subst a;rw[show(((0:Nat):Int)==0)=true from rfl,bD];congr 1;omega;rw[show((m:Int)==0)=false from by simp;omega,bu];unfold jl.W1;refine Wp.eq ?_;refine eS p.l.l.length (λi s=>s.2=(i:Int)/\s.1=((min (Pred.vc (p.l.l.take i)) m:Nat):Int)) ⟨rfl,by simp[Pred.vc]⟩ ?_ ?_;rintro i ⟨c,_⟩ u ⟨e1,e2⟩;simp only at e1 e2;subst e1 e2;have w:=getElem_mem u;unfold jl.br;rw[jL u,bD,bJ u,ζb,eF _ Zaa Zaa,show((m:Int)-1)=((m-1:Nat):Int)from Zaa,B _ w _ Zaa Zaa,ζb,bg,cH i (by have:=D.len;omega)];refine⟨rfl,?_⟩;simp only;rw[Tc u];split<;>omega;rintro⟨c,_⟩ ⟨e1,e2⟩;simp only at e1 e2;subst e1 e2;unfold jl.br;rw[ji,bu,bg];refine(bg _).2 ?_;rw[take_length,cH _ Zaa];omega
section
variable{t:Z4}
abbrev zX(t:Trace)(p:Int):Bool:=decide (p>=0)&&decide (p<len t.procs)
def Pb(t:Z4)(p:Int)(name:U'):X':=match idx t.procs p with
 |some P=>P.vars.l.any λv=>toList v.name==toList name|none=>false
def tJ(t:Z4)(q:T'):X':=if q.kind==2 then zX t q.proc&&(q.peer==0&&Pb t q.proc q.name)else if q.kind==3 then zX t q.proc&&(q.peer==0&&M7 q)else if q.kind==4 then zX t q.proc&&(zX t q.peer&&(!(q.proc==q.peer)&&M7 q))else true
theorem No(p:Int):k_ t p=some (zX t p):=by unfold k_ zX;cases decide (p>=0)<;>rfl
theorem wI{p:Int}(h:zX t p=true):∃n:Nat,p=n/\n<t.procs.l.length:=by simp only[zX,ζh]at h;have a:=of_decide_eq_true h.1;have u:=of_decide_eq_true h.2;exact⟨p.toNat,Zaa,by simp only[len]at u;omega⟩
theorem S9(a:Small t){p:Int}(h:zX t p=true)(name:U'):sA t p name=some (Pb t p name):=by obtain⟨n,rfl,u⟩:=wI h;unfold sA Pb;rw[bJ u,ζb,DB (p:=λz=>pE z name) (f:=λv=>toList v.name==toList name) (λv _=>rfl) (a.2 _ (getElem_mem u)).2.1];rfl
theorem WO(a:Small t)(q:T'):lE q t=some (tJ t q):=by
 unfold lE tJ M7;rw[No,No]
 cases q.kind==2 with
 |true=>rw[bD,if_pos rfl,ζb];cases h:zX t q.proc with|false=>rfl|true=>rw[S9 a h];cases q.peer==0<;>rfl
 |false=>rw[bu,if_neg Zab];cases q.kind==3 with|true=>rw[bD,if_pos rfl];cases zX t q.proc<;>cases q.peer==0<;>cases(toList q.name==toList ByteArray.empty)<;>rfl|false=>rw[bu,if_neg Zab];cases q.kind==4 with|true=>rw[bD,if_pos rfl];cases zX t q.proc<;>cases zX t q.peer<;>cases(q.proc==q.peer)<;>cases(toList q.name==toList ByteArray.empty)<;>rfl|false=>rfl
theorem KD{f:T'->a_ X'}{g:T'->X'}(h:∀q,f q=some (g q)){p:T'}(B:p.Sm)(hd:p.dp<=100000):ot p f=some (p.gA g):=by refine MQ p B ?_ _ hd;induction p using Pred.ind with|h p w=>rw[p.kH,ζh,all_eq_true];exact⟨by rw[h];simp,λq u=>w q u (B.uW u) (by have:=Pred.mK u;omega)⟩
theorem yd(a:Small t){p:T'}(B:p.Sm)(hd:p.dp<=100000):pF t p=some (p.gA (tJ t)):=by unfold pF;rw[KD (g:=tJ t) (λq=>WO a q) B hd];rfl
abbrev lC(k:Int):Int:=if k<=8 then 1 else 2
abbrev y_(k:Int):Int:=if k<=12 then 1 else 2
def yH(q:T'):X':=q.l.l.all λk=>lC k.kind==y_ q.kind
theorem uC(k:Int):mJ k=some (lC k):=by unfold mJ lC;by_cases h:k<=8;rw[decide_eq_true h,if_pos h];rfl;rw[decide_eq_false h,if_neg h];rfl
theorem W8(k:Int):tj k=some (y_ k):=by unfold tj y_;by_cases h:k<=12;rw[decide_eq_true h,if_pos h];rfl;rw[decide_eq_false h,if_neg h];rfl
theorem Wd{q:T'}(B:q.l.l.length<1073741824):jK q=some (yH q):=by unfold jK yH;rw[t_ _ B,tP (f:=λk=> !(lC k.kind==y_ q.kind)) (λk _=>by unfold nr;rw[uC,W8];rfl)];simp only[Option.map_some,ζb];congr 1;rw[Bool.eq_iff_iff];simp
theorem zl{p:T'}(B:p.Sm)(hd:p.dp<=100000):pR p=some (p.gA yH):=by
 unfold pR;have:p.gA (λq=>(λz=>jK z) q==some (yH q))=true:=by clear hd;induction p using Pred.ind with|h p w=>rw[p.kH,ζh,all_eq_true];exact⟨by show(jK p==some (yH p))=true;rw[Wd B.len];simp,λq u=>w q u (B.uW u)⟩
 unfold ot;rw[MQ p B this _ hd];rfl
def wT(q:T'):X':=decide (q.kind>=18)&&decide (q.kind<=21)
theorem KX{p:T'}(B:p.Sm):pn p=some (nh p&& !p.gA λq=> !wT q):=by unfold pn;rw[u9 B,ζb];cases u:nh p with|false=>rfl|true=>have hd:p.dp<=20:=(by simp only[nh,ζh]at u;exact of_decide_eq_true u.2.1);rw[bD,KD (g:=λq=> !wT q) (λq=>by unfold ni sS wT;cases decide (q.kind>=18)<;>rfl) B Zaa];rfl
end
theorem xG.of{t:Z4}(B:Ok t){p:Nat}{P:bW}(b:t.procs.l[p]?=some P):xG P:=by
 intro e C a D;have⟨k,c⟩:=List.mem_iff_getElem?.1 C;have⟨i,hi⟩:=List.mem_iff_getElem?.1 D;have h:=B.gj p k P e b c;unfold qh at h;have w:i<e.assign.l.length:=by apply byContradiction;intro I;rw[getElem?_eq_none Zaa]at hi;cases hi
 have G:oS (pN P e) 0 e.assign.l.length=0:=by split at h;split at h;cases h;split at h;cases h;exact h;cases h
 have u:=(Qb (g:=pN P e) (n:=e.assign.l.length) (m:=e.assign.l.length) (k:=0) Zaa).1 G i (zero_le _) w;unfold pN at u;rw[hi]at u;dsimp only at u;by_cases z:(decide (0<=a.var)&&decide (a.var<P.vars.l.length))=true;simpa using z;rw[Bool.not_eq_true]at z;rw[z]at u;simp only[Sp]at u;cases u
theorem U0{t:Z4}{A:cz 200 bG}(d:Small t)(g:cI t=some true)(f:VT t)(i:fR t (bQ t) A){c:Zg}(e:Cons t A c.l):
 Wp (gq t c) λr=>r.2=0/\r.1.l.length=t.procs.l.length/\∀(p:Nat)(P:bW)(a:Int),t.procs.l[p]?=some P->c.l[p]?=some a->∃x,r.1.l[p]?=some x/\x.l=jZ P a.toNat:=by
 have G:=e.1.1;unfold gq;rw[eM];refine(L_ d g f i c).mono λr j=>?_
 rw[j.zero.2 e,show((0:Int)==0)=true from rfl,bD];unfold gq.W1;refine eS c.l.length (λn s=>s.2=(n:Int)/\s.1.l.length=n/\∀(p:Nat)(P:bW)(a:Int),p<n->t.procs.l[p]?=some P->c.l[p]?=some a->∃x,s.1.l[p]?=some x/\x.l=jZ P a.toNat) ⟨rfl,rfl,λp P a h=>absurd h Zaa⟩ ?_ ?_
 .rintro n ⟨o,_⟩ u ⟨e1,e2,e3⟩;simp only at e1 e2 e3;subst e1;have I:n<t.procs.l.length:=by omega
  have w:=d.2 _ (getElem_mem I);have b:=ζd I;have C:=ζd u;have⟨a0,a1⟩:=e.1.2 n _ _ C b;have S:=xG.of f.ok b;have⟨x,Q,J⟩:=LB S w.2.1 w.1 w.2.2.2.2 (k:=c.l[n].toNat) Zaa
  rw[show((c.l[n].toNat:Nat):Int)=c.l[n]from Zaa]at Q
  have l:=d.1;unfold gq.br;rw[jL u,bD,bJ u,ζb,bJ I,ζb,Q,ζb];have D:gm o (x:Zg)=some (.row (o.l++[x])):=by unfold gm;rw[if_pos Zaa]
  rw[D,ζb,bg,cH n Zaa]
  refine⟨rfl,by simp[Sl.l];exact e2,λp P a h z B=>?_⟩
  show∃y,(o.l++[x])[p]?=some y/\_
  by_cases L:p=n
  .subst L;rw[b]at z;rw[C]at B;cases z;cases B;exact⟨x,by rw[List.getElem?_append_right Zaa];simp[e2],J⟩
  have⟨y,T,O⟩:=e3 p P a Zaa z B
  exact⟨y,by rw[List.getElem?_append_left Zaa];exact T,O⟩
 rintro⟨o,_⟩ ⟨e1,e2,e3⟩;simp only at e1 e2 e3;subst e1;unfold gq.br;rw[show decide ((c.l.length:Int)<len c)=false from ji,bu,bg];refine(bg _).2 ⟨rfl,by rw[e2,G],λp P a b C=>e3 p P a ?_ b C⟩
 apply byContradiction;intro U;rw[getElem?_eq_none Zaa]at C;cases C
section
variable{P:T'}{t:Z4}
end
def vO(l:R')(m:Int):Prop:=m∈l/\∀x∈l,m<=x
def isMax(l:R')(m:Int):Prop:=m∈l/\∀x∈l,x<=m
theorem vO.one{l:R'}{a b:Int}(h:vO l a)(g:vO l b):a=b:=by have:=h.2 b g.1;have:=g.2 a h.1;omega
theorem isMax.one{l:R'}{a b:Int}(h:isMax l a)(g:isMax l b):a=b:=by have:=h.2 b g.1;have:=g.2 a h.1;omega
theorem vO.snoc{l:R'}{a x:Int}(h:vO l a):vO (l++[x]) (if x<a then x else a):=by have⟨c,u⟩:=h;split;refine⟨Zab,λy b=>?_⟩;rcases mem_append.1 b with b|b;have:=u y b;omega;simp at b;omega;refine⟨List.mem_append_left _ c,λy b=>?_⟩;rcases mem_append.1 b with b|b;exact u y b;simp at b;omega
theorem isMax.snoc{l:R'}{a x:Int}(h:isMax l a):isMax (l++[x]) (if x>a then x else a):=by have⟨c,u⟩:=h;split;refine⟨Zab,λy b=>?_⟩;rcases mem_append.1 b with b|b;have:=u y b;omega;simp at b;omega;refine⟨List.mem_append_left _ c,λy b=>?_⟩;rcases mem_append.1 b with b|b;exact u y b;simp at b;omega
theorem P7{s:Zg}(h:0<s.l.length)(B:s.l.length<1073741824):Wp (dH s) λm=>vO s.l m:=by
 unfold dH dH.J1 dH.W2;rw[decide_eq_false (show¬len s<1 by simp only[len];omega),bu,show idx s 0=some s.l[0]from bJ (i:=0) h,ζb];refine eS (s.l.length-1) (λn q=>q.2=((n+1:Nat):Int)/\vO (s.l.take (n+1)) q.1) ⟨rfl,?_⟩ ?_ ?_;rw[take_add_one,ζd h];exact⟨Zab,λx z=>by simp at z;omega⟩;rintro n ⟨m,_⟩ C ⟨rfl,w⟩;have u:n+1<s.l.length:=by omega
 unfold dH.bV;rw[jL u,bD,bJ u,ζb,bg,cH _ Zaa];refine⟨rfl,?_⟩;rw[take_add_one,ζd u];exact w.snoc;rintro⟨m,_⟩ ⟨rfl,w⟩;unfold dH.bV;rw[show s.l.length-1+1=s.l.length from Zaa,ji,bu,bg];rw[show s.l.length-1+1=s.l.length from Zaa,take_length]at w;exact(bg _).2 w
theorem Q7{s:Zg}(h:0<s.l.length)(B:s.l.length<1073741824):Wp (dI s) λm=>isMax s.l m:=by
 unfold dI dI.J1 dI.W2;rw[decide_eq_false (show¬len s<1 by simp only[len];omega),bu,show idx s 0=some s.l[0]from bJ (i:=0) h,ζb];refine eS (s.l.length-1) (λn q=>q.2=((n+1:Nat):Int)/\isMax (s.l.take (n+1)) q.1) ⟨rfl,?_⟩ ?_ ?_;rw[take_add_one,ζd h];exact⟨Zab,λx z=>by simp at z;omega⟩;rintro n ⟨m,_⟩ C ⟨rfl,w⟩;have u:n+1<s.l.length:=by omega
 unfold dI.bV;rw[jL u,bD,bJ u,ζb,bg,cH _ Zaa];refine⟨rfl,?_⟩;rw[take_add_one,ζd u];exact w.snoc;rintro⟨m,_⟩ ⟨rfl,w⟩;unfold dI.bV;rw[show s.l.length-1+1=s.l.length from Zaa,ji,bu,bg];rw[show s.l.length-1+1=s.l.length from Zaa,take_length]at w;exact(bg _).2 w
theorem MR{s:Zg}{a b:Int}(h:0<s.l.length)(B:s.l.length<1073741824)(D:vO s.l a)(G:isMax s.l b):mQ s=some ⟨a,b⟩:=by have⟨m,c,u⟩:=P7 h B;have⟨n,g1,g2⟩:=Q7 h B;unfold mQ;rw[c,ζb,g1,ζb,u.one D,g2.one G]
theorem UR(n:Int):mQ (Sl.row [n]:Zg)=some ⟨n,n⟩:=MR (by simp[Sl.l]) (by simp[Sl.l]) ⟨by simp[Sl.l],λx u=>by simp[Sl.l]at u;omega⟩ ⟨by simp[Sl.l],λx u=>by simp[Sl.l]at u;omega⟩
theorem VD(a b c d:Int):mQ (Sl.row [a,b,c,d]:Zg)=some ⟨if(if d<c then d else c)<(if b<a then b else a)then(if d<c then d else c)else(if b<a then b else a),if(if d>c then d else c)>(if b>a then b else a)then(if d>c then d else c)else(if b>a then b else a)⟩:=by
 refine MR (by simp[Sl.l]) (by simp[Sl.l]) ⟨?_,λx u=>?_⟩ ⟨?_,λx u=>?_⟩
 .show _∈[a,b,c,d];simp only[mem_cons,not_mem_nil,or_false];split<;>split<;>(try split)<;>omega
 .have u:x∈[a,b,c,d]:=u;simp only[mem_cons,not_mem_nil,or_false]at u;split<;>split<;>(try split)<;>omega
 .show _∈[a,b,c,d];simp only[mem_cons,not_mem_nil,or_false];split<;>split<;>(try split)<;>omega
 have u:x∈[a,b,c,d]:=u;simp only[mem_cons,not_mem_nil,or_false]at u;split<;>split<;>(try split)<;>omega
def Dst(az:aZ Assign):Prop:=∀(i j:Nat)a b,i<j->az[i]?=some a->az[j]?=some b->a.var≠b.var
def tI(P:bW)(v k:Nat):Int:=((jZ P k)[v]?).getD 0
theorem BK{P:bW}{v:Nat}(k:Nat)(a:v<P.vars.l.length):(jZ P k)[v]?=some (tI P v k):=by unfold tI;rw[ζd (by rw[sn];exact a)];rfl
abbrev C7(P:bW)(v n:Nat):aZ Int:=(range (n+1)).map (tI P v)
theorem QY{P:bW}{v n k:Nat}(h:k<=n):tI P v k∈C7 P v n:=mem_map.2 ⟨k,mem_range.2 Zaa,rfl⟩
section
variable{P:bW}{v:Nat}
theorem RL(D:xG P)(b:P.vars.l.length<1073741824)(U:P.events.l.length<1073741823)(G:∀e∈P.events.l,e.assign.l.length<1073741824)(B:v<P.vars.l.length):
 Wp (gH P v) λs=>s.l=C7 P v P.events.l.length:=by
 have⟨r,c,C,I⟩:=IS D b Zaa G
 have key:∀(a:aZ (Int×Zg))(i:Nat)(q:Zg),r.drop i=a->i<=r.length->q.l=(range i).map (tI P v)->∃s,(lV (λ(x:Int×(Zg))(q:Zg)=>gH.kN P v x q) a q).bind (Fw.si (λq=>some q) (λe=>Empty.elim e) (λe=>Empty.elim e))=some s/\s.l=(range r.length).map (tI P v):=by intro a;induction a with|nil=>intro i q hd hi z;have:r.length<=i:=(by simpa using hd);exact⟨q,rfl,by rw[z,show i=r.length from Zaa]⟩|cons y a J=>intro i q hd _ z;have u:i<r.length:=(by apply byContradiction;intro S;rw[List.drop_eq_nil_of_le Zaa]at hd;cases hd);have e2:=List.drop_eq_getElem_cons u;rw[e2]at hd;simp only[List.cons.injEq]at hd;have⟨T,L⟩:=I i y (by rw[ζd u,hd.1]);have O:idx y.2 (v:Int)=some (tI P v i):=(by rw[iI,L];exact BK i B);have Q:q.l.length=i:=(by rw[z];simp);have w:gm q (tI P v i)=some (.row (q.l++[tI P v i])):=(by unfold gm;rw[if_pos Zaa]);have⟨s,g1,g2⟩:=J (i+1) (.row (q.l++[tI P v i])) hd.2 Zaa (by show q.l++[tI P v i]=_;rw[z,range_succ,map_append];rfl);refine⟨s,?_,g2⟩;simp only[lV,gH.kN,O,w,ζb];exact g1
 have⟨s,g1,g2⟩:=key r 0 .nil rfl (zero_le _) rfl;refine⟨s,?_,by show s.l=_;rw[g2,C]⟩
 unfold gH oI gH.E1;simp only[ζb,c];exact g1
theorem Ep{α:Type}{f:α->X'}{l:aZ α}{k:Nat}{x:α}(b:l[k]?=some x)(B:f x=true)(D:∀(j:Nat)(y:α),j<k->l[j]?=some y->f y=false):place f l=k:=by unfold place;have a:=(ζe.1 b);have⟨a,u⟩:=a;rw[show l.findIdx? f=some k from by rw[List.findIdx?_eq_some_iff_getElem];exact⟨a,by rw[u];exact B,λj w=>by rw[D j _ w (ζd Zaa)];simp⟩]
theorem IZ{t:Z4}(e:Small t)(g:cI t=some true)(G:Ok t){n:Nat}(c:t.procs.l[n]?=some P){name:U'}{x:Var}(d:P.vars.l[v]?=some x)(U:(toList x.name==toList name)=true)
 (W:∀(j:Nat)(w:Var),j<v->P.vars.l[j]?=some w->(toList w.name==toList name)=false):
 Wp (rX t n name) λr=>r.2.2=0/\vO (C7 P v P.events.l.length) r.1/\isMax (C7 P v P.events.l.length) r.2.1:=by
 have L:n<t.procs.l.length:=(ζe.1 c).1;have O:=mem_of_getElem? c;have u:=e.2 P O;have C:v<P.vars.l.length:=(ζe.1 d).1;have I:P.events.l.length<=64:=by have:=G.heads n L;unfold sB at this;rw[c]at this;dsimp only at this;split at this;split at this;cases this;split at this;split at this;cases this;omega;rename_i D;exact absurd this D;cases this
 have⟨s,g1,g2⟩:=RL (xG.of G c) u.2.1 Zaa u.2.2.2.2 C
 have h:s.l.length=P.events.l.length+1:=by rw[g2];simp[C7]
 have⟨a,a1,a2⟩:=P7 (s:=s) Zaa Zaa
 have⟨b,Q,J⟩:=Q7 (s:=s) Zaa Zaa
 have B:tB t n name=some ((v:Int),0):=by unfold tB;rw[g,ζb,bD,decide_eq_false (show¬(n:Int)<0 by omega),bu,ζb,decide_eq_false (show¬(n:Int)>=len t.procs by simp only[len];omega),bu,iI,c,ζb];unfold vC;rw[AQ (p:=λz=>pz z name) (f:=λw=>toList w.name==toList name) (λ_ _=>rfl) u.2.1,Ep d U W,ζb,ζb,decide_eq_false (show¬((v:Nat):Int)<0 by omega)];rfl
 unfold rX;rw[B,ζb];simp only;rw[show((0:Int)==0)=true from rfl,bD,iI,c,ζb,g1,ζb,a1,ζb,Q,ζb,bg];rw[g2]at a2 J;exact⟨rfl,a2,J⟩
def iC(o:Pi)(b a:Int):Int×Int:=match o with
 |none=>(b,a)|some x=>(if x<b then x else b,if x>a then x else a)
end
section
variable{t:Z4}{A:cz 200 bG}
theorem DA(b:Small t){p:Nat}{P:bW}(a:t.procs.l[p]?=some P)(q:Nat):fI t p q=some ((P.events.l.countP (gP q):Nat):Int):=by
 have D:P∈t.procs.l:=mem_of_getElem? a;have G:=(b.2 P D).1;refine Wp.eq ?_;unfold fI;rw[iI,a,ζb];unfold fI.W1;refine eS P.events.l.length (λn s=>s.2=(n:Int)/\s.1=(((P.events.l.take n).countP (gP q):Nat):Int)) ⟨rfl,rfl⟩ ?_ ?_;rintro n ⟨o,_⟩ w ⟨e1,e2⟩;simp only at e1 e2;subst e1 e2;have z:=List.countP_le_length (p:=gP q) (l:=P.events.l.take n);rw[List.length_take]at z;have u:(P.events.l.take (n+1)).countP (gP q)=(P.events.l.take n).countP (gP q)+if gP q P.events.l[n]then 1 else 0:=by rw[take_add_one,ζd w,List.countP_append];show _+List.countP _ [P.events.l[n]]=_;rw[List.countP_cons,List.countP_nil];simp
 unfold fI.br;rw[jL w,bD,bJ w,ζb];generalize P.events.l[n]=e at u;have B:(bl (e.kind==2) (some (e.peer==(q:Int))) (some false):a_ X')=some (gP q e):=by unfold gP;cases e.kind==2<;>cases e.peer==(q:Int)<;>rfl
 rw[B,ζb,cH n Zaa];cases C:gP q e with|true=>rw[C]at u;rw[bD,bg,cH _ Zaa];exact⟨rfl,by simp only[u];rfl⟩|false=>rw[C]at u;rw[bu,bg];exact⟨rfl,by simp only[u];rfl⟩
 rintro⟨o,_⟩ ⟨e1,e2⟩;simp only at e1 e2;subst e1 e2;unfold fI.br;rw[ji,bu,bg];exact(bg _).2 (by rw[take_length])
end
section
variable{t:Z4}
def Ak(b a:Int):X':=decide (b>=-1125899906842624)&&decide (a<=1125899906842624)
structure u5(low high:Int):Prop where
 le:low<=high
 lo:-1125899906842624<=low
 hi:high<=1125899906842624
theorem EE(b a:Int):jG ⟨b,a⟩=some (!Ak b a):=by
 unfold jG Ak;have c:decide (b< -1125899906842624)= !decide (b>=-1125899906842624):=by rw[Bool.eq_iff_iff];simp
 have u:decide (a>1125899906842624)= !decide (a<=1125899906842624):=by rw[Bool.eq_iff_iff];simp
 simp only;rw[c,u];cases decide (b>=-1125899906842624)<;>cases decide (a<=1125899906842624)<;>rfl
theorem u5.of{b a:Int}(h:b<=a)(g:Ak b a=true):u5 b a:=by simp only[Ak,ζh]at g;have:=of_decide_eq_true g.1;have:=of_decide_eq_true g.2;exact⟨h,Zaa,Zaa⟩
theorem Ik(v:bT)(l h:Int)(r:Z4×T'->a_ (bT×X')):cZ.J2 v ⟨l,h⟩ r=some (⟨l,h⟩,Ak l h):=by unfold cZ.J2;rw[EE,ζb,not_not]
theorem FO{ok B:X'}(h:(ok&&B)=false)(p:T')(v a b:bT)(r:Z4×T'->a_ (bT×X')):cZ.J1 ok B p v a b r=some (⟨0,0⟩,false):=by unfold cZ.J1;cases ok<;>cases B<;>first|rfl|cases h
theorem Uq{k:Int}(h:(lC k==1)=true):k<=8:=by unfold lC at h;by_cases g:k<=8;exact g;rw[if_neg g]at h;cases h
theorem Pred.parts{p:T'}(B:fB p=true){c:Int}(a:cz.at AG p.kind=some c):(p.l.l.length:Int)=c:=by obtain⟨-,-,h⟩:=sw B;rw[a]at h;exact(Option.some.inj h).symm
structure oJ(t:Trace)(p:Pred):Prop where
 sm:p.Sm
 f:p.gA fB=true
 r:p.gA (tJ t)=true
 y:p.gA yH=true
theorem oJ.uW{p q:T'}(h:oJ t p)(B:q∈p.l.l):oJ t q:=by have⟨a,u,w,z⟩:=h;rw[p.kH,ζh,all_eq_true]at u w z;exact⟨a.uW B,u.2 q B,w.2 q B,z.2 q B⟩
theorem oJ.here{p:T'}(h:oJ t p):fB p=true/\tJ t p=true/\yH p=true:=by have⟨a,u,w,z⟩:=h;rw[p.kH,ζh]at u w z;exact⟨u.1,w.1,z.1⟩
theorem oJ.int{p q:T'}(h:oJ t p)(a:p.kind<=12)(B:q∈p.l.l):q.kind<=8:=by have:=h.here.2.2;unfold yH at this;rw[all_eq_true]at this;have:=this q B;unfold y_ at this;rw[if_pos a]at this;exact Uq this
end
end Go.VE
namespace Go.VE
end Go.VE
namespace Go.VE
section
variable{t:Z4}{A:cz 200 bG}{P:bW}{v:Nat}
structure Li(t:Trace)(A:cz 200 bG)(c:Sl Int)(l:Sl (Sl Int)):Prop where
 hS:Small t
 hv:cI t=some true
 hV:VT t
 hM:fR t (bQ t) A
 hC:Cons t A c.l
 vals:∀(p:Nat)(P:bW)(a:Int),t.procs.l[p]?=some P->c.l[p]?=some a->∃x,l.l[p]?=some x/\x.l=jZ P a.toNat
end
end Go.VE
namespace Go.VE
section
variable{t:Z4}
theorem Ls{p:T'}(B:nh p=true)(a:oJ t p):tv p=some (lC p.kind,0):=by have u:=a.sm;have hd:=B;simp only[nh,ζh,decide_eq_true_eq]at hd;unfold tv;rw[u9 u,B,ζb,bD,zl u Zaa,a.y,ζb,bD,uC];rfl
end
theorem GW{a b x:Int}(c:a<=x)(B:x<=b)(y:Int){lo hi:Int}(D:lo<=a*y/\a*y<=hi)(G:lo<=b*y/\b*y<=hi):lo<=x*y/\x*y<=hi:=by by_cases h:0<=y;have p1:=Int.mul_le_mul_of_nonneg_right c h;have p2:=Int.mul_le_mul_of_nonneg_right B h;omega;have p1:=Int.mul_le_mul_of_nonpos_right c (show y<=0 by omega);have p2:=Int.mul_le_mul_of_nonpos_right B (show y<=0 by omega);omega
theorem Wh{a b c d x y lo hi:Int}(f:a<=x)(W:x<=b)(B:c<=y)(D:y<=d)(e:lo<=a*c/\a*c<=hi)(G:lo<=a*d/\a*d<=hi)(J:lo<=b*c/\b*c<=hi)(U:lo<=b*d/\b*d<=hi):lo<=x*y/\x*y<=hi:=by refine GW f W y ?_ ?_;rw[mul_comm a y];rw[mul_comm a c]at e;rw[mul_comm a d]at G;exact GW B D a e G;rw[mul_comm b y];rw[mul_comm b c]at J;rw[mul_comm b d]at U;exact GW B D b J U
theorem Zv{a b m:Int}(h:(if 0-a>a then 0-a else a)*(if 0-b>b then 0-b else b)<=m):-m<=a*b/\a*b<=m:=by
 have c:∀u w:Int,0<=u->0<=w->0<=u*w:=λu w=>Int.mul_nonneg;have e1:(0-a)*b=-(a*b):=by rw[zero_sub,Int.neg_mul]
 have e2:a*(0-b)=-(a*b):=by rw[zero_sub,Int.mul_neg]
 have e3:(0-a)*(0-b)=a*b:=by rw[zero_sub,zero_sub,Int.neg_mul_neg]
 by_cases z:0-a>a<;>by_cases B:0-b>b;rw[if_pos z,if_pos B]at h;have:=c (0-a) (0-b) Zaa Zaa;omega;rw[if_pos z,if_neg B]at h;have:=c (0-a) b Zaa Zaa;omega;rw[if_neg z,if_pos B]at h;have:=c a (0-b) Zaa Zaa;omega;rw[if_neg z,if_neg B]at h;have:=c a b Zaa Zaa;omega
def Iu(k x y:Int):Int:=if k=5 then wrap .i64 (0-x)else if k=6 then wrap .i64 (x+y)else if k=7 then wrap .i64 (x-y)else wrap .i64 (x*y)
section
variable{t:Z4}{A:cz 200 bG}
end
def qP(P:Int)(q:T'):X':=if q.kind=4\/18<=q.kind then false else if q.kind=2\/q.kind=3 then q.proc==P else true
theorem EC{P:Int}{q:T'}(h:qP P q=true):q.kind≠4/\q.kind<=17/\(q.kind=2\/q.kind=3->q.proc=P):=by unfold qP at h;by_cases u:q.kind=4\/18<=q.kind;rw[if_pos u]at h;cases h;rw[if_neg u]at h;refine⟨Zaa,Zaa,λw=>?_⟩;rw[if_pos w]at h;simpa using h
theorem WX(P:Int)(p:T')(J:p.Sm):p.gA fB=true->∀n,p.dp<=n->dU (λr(z:Int×T')=>iA z.1 z.2 r) n (P,p)=some (p.gA (qP P)):=by induction p using Pred.ind with|h p w=>intro B n I;have hd:=p.sW;rw[p.kH,ζh,all_eq_true]at B;obtain⟨k1,k2,-⟩:=sw B.1;rw[fZ Zaa,p.kH];have w:=λq u=>w q u (J.uW u) (B.2 q u) (n-1) (by have:=Pred.mK u;omega);show iA P p (dU (λr(z:Int×T')=>iA z.1 z.2 r) (n-1))=_;generalize dU (λr(z:Int×T')=>iA z.1 z.2 r) (n-1)=R at w⊢;unfold iA;by_cases D:p.kind=4\/18<=p.kind;rw[show qP P p=false from by unfold qP;rw[if_pos D],Bool.false_and];rcases(show p.kind=4\/p.kind=18\/p.kind=19\/p.kind=20\/p.kind=21 by omega)with h|h|h|h|h<;>rw[h]<;>rfl;rw[show(p.kind==4)=false from by simp;omega,show(p.kind==18)=false from by simp;omega,show(p.kind==19)=false from by simp;omega,show(p.kind==20)=false from by simp;omega,show(p.kind==21)=false from by simp;omega,bu,bu,bu,bu];unfold e_.J1 e_.J2;rw[bu];by_cases C:p.kind=2\/p.kind=3;have G:p.l.l=[]:=List.eq_nil_of_length_eq_zero (by have:=Pred.parts B.1 (c:=0) (by rcases C with h|h<;>(rw[h];rfl));omega);rw[G,all_nil,Bool.and_true,show qP P p=(p.proc==P)from by unfold qP;rw[if_neg D,if_pos C]];rcases C with h|h<;>rw[h]<;>rfl;rw[show(p.kind==2)=false from by simp;omega,show(p.kind==3)=false from by simp;omega,bu,bu,t_ _ J.len,tP (f:=λq=> !(q.gA (qP P))) (λq u=>by unfold pI;rw[w q u];rfl)];simp only[Option.map_some,ζb];congr 1;rw[show qP P p=true from by unfold qP;rw[if_neg D,if_neg C],Bool.true_and,Bool.eq_iff_iff];simp
section
variable{t:Z4}
structure NA(t:Trace)(p k:Nat)(P:bW)(c:Sl Int)(l:Sl (Sl Int)):Prop where
 hS:Small t
 hv:cI t=some true
 hV:VT t
 hP:t.procs.l[p]?=some P
 hk:k<=P.events.l.length
 hc:c.l[p]?=some (k:Int)
 vals:∃x,l.l[p]?=some x/\x.l=jZ P k
end
theorem Kn{α:Type}{f:α->X'}:∀{l:aZ α},l.any f=true->∃(k:Nat)(x:α),l[k]?=some x/\f x=true/\∀(j:Nat)(y:α),j<k->l[j]?=some y->f y=false
 |[],h=>by simp at h|a::r,h=>by by_cases B:f a=true;exact⟨0,a,rfl,B,λj y D=>absurd D Zaa⟩;rw[any_cons,Bool.or_eq_true]at h;have⟨k,x,b,G,J⟩:=Kn (h.resolve_left B);refine⟨k+1,x,by simpa using b,G,λj y D u=>?_⟩;cases j with|zero=>simp at u;subst u;simpa using B|succ j=>exact J j y Zaa (by simpa using u)
theorem QJ(P:Int)(p:T'):p.gA (qP P)=true->p.gA (λq=> !wT q)=true:=by induction p using Pred.ind with|h p w=>intro h;rw[p.kH,ζh,all_eq_true]at h⊢;refine⟨?_,λq u=>w q u (h.2 q u)⟩;have:=(EC h.1).2.1;unfold wT;rw[decide_eq_false Zaa];rfl
section
variable{t:Z4}
theorem LC(d:Small t){q:T'}(b:q.kind=2)(a:tJ t q=true):∃(n k:Nat)(P:bW)(v:Var),q.proc=n/\t.procs.l[n]?=some P/\P.vars.l[k]?=some v/\(toList v.name==toList q.name)=true/\∀(j:Nat)(w:Var),j<k->P.vars.l[j]?=some w->(toList w.name==toList q.name)=false:=by unfold tJ at a;rw[if_pos (by simpa using b)]at a;simp only[ζh]at a;obtain⟨C,-,u⟩:=a;have⟨n,z,B⟩:=wI (t:=t) (p:=q.proc) (by simp only[ζh];exact C);unfold Pb at u;rw[z,bJ B]at u;have⟨k,v,c,D,G⟩:=Kn u;exact⟨n,k,_,v,z,ζd B,c,D,G⟩
theorem Ra(d:Small t)(g:cI t=some true)(B:Ok t){q:T'}(D:fB q=true)(b:tJ t q=true)(j:q.kind<=4):∃c a,gU t q=some ⟨c,a⟩/\c<=a:=by obtain⟨k1,-,-⟩:=sw D;rcases(show q.kind=1\/q.kind=2\/q.kind=3\/q.kind=4 by omega)with h|h|h|h;refine⟨q.n,q.n,?_,Int.le_refl _⟩;unfold gU;rw[show(q.kind==1)=true from by simpa using h,bD,UR];rfl;have⟨n,k,P,v,u,f,w,i,C⟩:=LC d h b;have⟨⟨c,a,e⟩,g1,g2,g3,g4⟩:=IZ d g B f (name:=q.name) w i C;simp only at g2 g3 g4;subst g2;refine⟨c,a,?_,g4.2 _ g3.1⟩;unfold gU;rw[h,show((2:Int)==1)=false from rfl,bu,show((2:Int)==3)=false from rfl,bu,show((2:Int)==4)=false from rfl,bu,u,g1];rfl;unfold tJ at b;rw[if_neg (by simp[h]),if_pos (by simpa using h)]at b;simp only[ζh]at b;have⟨n,u,z⟩:=wI (t:=t) (p:=q.proc) (by simp only[ζh];exact b.1);refine⟨0,len t.procs.l[n].events,?_,by simp only[len];omega⟩;unfold gU;rw[h,show((3:Int)==1)=false from rfl,bu,show((3:Int)==3)=true from rfl,bD,u,bJ z];rfl;unfold tJ at b;rw[if_neg (by simp[h]),if_neg (by simp[h]),if_pos (by simpa using h)]at b;simp only[ζh]at b;have⟨n,u,z⟩:=wI (t:=t) (p:=q.proc) (by simp only[ζh];exact b.1);have⟨m,G,I⟩:=wI (t:=t) (p:=q.peer) (by simp only[ζh];exact b.2.1);have f:=ζd z;refine⟨0,((t.procs.l[n].events.l.countP (gP m):Nat):Int),?_,Zaa⟩;unfold gU;rw[h,show((4:Int)==1)=false from rfl,bu,show((4:Int)==3)=false from rfl,bu,show((4:Int)==4)=true from rfl,bD,u,G,DA d f];rfl
theorem oP{a b:Int}(B:-1125899906842624<=a/\a<=1125899906842624)(D:-1125899906842624<=b/\b<=1125899906842624):∃x,iz a b=some x:=by
 unfold iz rF;by_cases c:a=0;subst c;exact⟨_,rfl⟩;rw[show(a==0)=false from by simpa using c,bu,ζb];by_cases d:b=0;subst d;exact⟨_,rfl⟩;rw[show(b==0)=false from by simpa using d,bu,ζb,ζb,eF (0-b) Zaa Zaa];have:∀k m:Int,m≠0->∃x,AL .i64 k m=some x:=λk m u=>by unfold AL;rw[if_neg u];exact⟨_,rfl⟩
 have⟨x,w⟩:=this 1125899906842624 (if 0-b>b then 0-b else b) (by split<;>omega);rw[w,ζb];cases decide ((if wrap .i64 (0-a)>a then wrap .i64 (0-a)else a)>x)<;>cases(decide (a<0)==decide (b<0))<;>exact⟨_,rfl⟩
theorem HT{p:T'}(i:5<=p.kind/\p.kind<=8){a b c d:Int}(g:u5 a b)(B:u5 c d)(v:bT)(r:Z4×T'->a_ (bT×X')):
 ∃f e,cZ.J1 true true p v ⟨a,b⟩ ⟨c,d⟩ r=some (⟨f,e⟩,Ak f e)/\f<=e:=by
 have⟨a1,a2,a3⟩:=g;have⟨L,O,Q⟩:=B;unfold cZ.J1;rw[bD,ζb,show(!true)=false from rfl,bu];rcases(show p.kind=5\/p.kind=6\/p.kind=7\/p.kind=8 by omega)with h|h|h|h<;>rw[h]
 .refine⟨-b,-a,?_,Zaa⟩
  rw[show((5:Int)==5)=true from rfl,bD,Ik];simp only;rw[eF (0-b) Zaa Zaa,eF (0-a) Zaa Zaa,show(0:Int)-b=-b from Zaa,show(0:Int)-a=-a from Zaa]
 .refine⟨a+c,b+d,?_,Zaa⟩
  rw[show((6:Int)==5)=false from rfl,bu,show((6:Int)==6)=true from rfl,bD,Ik];simp only;rw[eF (a+c) Zaa Zaa,eF (b+d) Zaa Zaa]
 .refine⟨a-d,b-c,?_,Zaa⟩
  rw[show((7:Int)==5)=false from rfl,bu,show((7:Int)==6)=false from rfl,bu,show((7:Int)==7)=true from rfl,bD,Ik];simp only;rw[eF (a-d) Zaa Zaa,eF (b-c) Zaa Zaa]
 have⟨w,C⟩:=oP (a:=a) (b:=c) ⟨Zaa,Zaa⟩ ⟨Zaa,Zaa⟩
 have⟨x,D⟩:=oP (a:=a) (b:=d) ⟨Zaa,Zaa⟩ ⟨Zaa,Zaa⟩
 have⟨y,G⟩:=oP (a:=b) (b:=c) ⟨Zaa,Zaa⟩ ⟨Zaa,Zaa⟩
 have⟨z,I⟩:=oP (a:=b) (b:=d) ⟨Zaa,Zaa⟩ ⟨Zaa,Zaa⟩
 refine⟨if(if z<y then z else y)<(if x<w then x else w)then(if z<y then z else y)else(if x<w then x else w),if(if z>y then z else y)>(if x>w then x else w)then(if z>y then z else y)else(if x>w then x else w),?_,?_⟩
 .rw[show((8:Int)==5)=false from rfl,bu,show((8:Int)==6)=false from rfl,bu,show((8:Int)==7)=false from rfl,bu];simp only;rw[C,D,G,I];simp only[ζb];rw[VD,ζb,Ik]
 have J:(if z<y then z else y)<=(if z>y then z else y):=by split<;>split<;>omega
 have u:(if x<w then x else w)<=(if x>w then x else w):=by split<;>split<;>omega
 split<;>split<;>omega
theorem Nk(g:Small t)(k:cI t=some true)(U:Ok t)(p:T'):oJ t p->p.kind<=8->∀n,p.dp<=n->
 ∃i ok,dU (λr(z:Z4×T')=>dA z.1 z.2 r) n (t,p)=some (i,ok)/\(ok=true->u5 i.low i.high):=by
 induction p using Pred.ind with
 |h p u=>
  intro e m n Z;have hd:=p.sW;have⟨w,l,o⟩:=e.here;obtain⟨k1,-,-⟩:=sw w;rw[fZ Zaa]
  have u:=λq G=>u q G (e.uW G) (e.int Zaa G) (n-1) (by have:=Pred.mK G;omega)
  show∃i ok,dA t p (dU (λr(z:Z4×T')=>dA z.1 z.2 r) (n-1))=some (i,ok)/\_
  generalize dU (λr(z:Z4×T')=>dA z.1 z.2 r) (n-1)=R at u⊢
  unfold dA
  by_cases T:p.kind<=4
  .have I:p.l.l.length=0:=by
    have:=Pred.parts w (c:=0) (by rcases(show p.kind=1\/p.kind=2\/p.kind=3\/p.kind=4 by omega)with h|h|h|h<;>(rw[h];rfl))
    omega
   have⟨b,a,g1,g2⟩:=Ra g k U w l T;refine⟨⟨b,a⟩,Ak b a,?_,λh=>u5.of g2 h⟩
   rw[show(len p.l==0)=true from by simp[len,I],bD,g1,ζb,EE,ζb,not_not]
  by_cases W:p.kind=5
  .have B:p.l.l.length=1:=by
    have:=Pred.parts w (c:=1) (by rw[W];rfl)
    omega
   have d:0<p.l.l.length:=Zaa
   have⟨i,ok,g1,g3⟩:=u _ (getElem_mem d);have J:idx p.l 0=some p.l.l[0]:=bJ (i:=0) d;rw[show(len p.l==0)=false from by simp[len,B],bu,J,ζb,g1,ζb,show(len p.l==2)=false from by simp[len,B],bu]
   simp only
   cases ok with
   |false=>rw[FO rfl];exact⟨_,false,rfl,λh=>by cases h⟩|true=>
    have⟨b,a,L,O⟩:=HT (p:=p) ⟨Zaa,Zaa⟩ (g3 rfl) (g3 rfl) ⟨0,0⟩ R
    exact⟨_,_,L,λh=>u5.of O h⟩
  have C:p.l.l.length=2:=by have:=Pred.parts w (c:=2) (by rcases(show p.kind=6\/p.kind=7\/p.kind=8 by omega)with h|h|h<;>(rw[h];rfl));omega
  have d:0<p.l.l.length:=Zaa
  have f:1<p.l.l.length:=Zaa
  have⟨i,ok,g1,g3⟩:=u _ (getElem_mem d);have⟨j,D,X,Y⟩:=u _ (getElem_mem f);have J:idx p.l 0=some p.l.l[0]:=bJ (i:=0) d;have Q:idx p.l 1=some p.l.l[1]:=bJ (i:=1) f;rw[show(len p.l==0)=false from by simp[len,C],bu,J,ζb,g1,ζb,show(len p.l==2)=true from by simp[len,C],bD,Q,ζb,X,ζb]
  simp only
  cases S:ok&&D with
  |false=>rw[FO S];exact⟨_,false,rfl,λh=>by cases h⟩|true=>
   simp only[ζh]at S;obtain⟨rfl,rfl⟩:=S;have⟨b,a,L,O⟩:=HT (p:=p) ⟨Zaa,Zaa⟩ (g3 rfl) (Y rfl) ⟨0,0⟩ R
   exact⟨_,_,L,λh=>u5.of O h⟩
theorem Yi(d:Small t)(e:cI t=some true)(B:Ok t)(p:T'):oJ t p->p.dp<=20->∀n,p.dp<=n->∃b,dU (λr(z:Z4×T')=>cN z.1 z.2 r) n (t,p)=some b:=by induction p using Pred.ind with|h p w=>intro a hd n D;have C:=p.sW;rw[fZ Zaa];have w:=λq u=>w q u (a.uW u) (by have:=Pred.mK u;omega) (n-1) (by have:=Pred.mK u;omega);show∃b,cN t p (dU (λr(z:Z4×T')=>cN z.1 z.2 r) (n-1))=some b;generalize dU (λr(z:Z4×T')=>cN z.1 z.2 r) (n-1)=R at w⊢;unfold cN;rw[uC,ζb];by_cases c:p.kind<=8;rw[show(lC p.kind==1)=true from by simp[lC,c],bD];obtain⟨i,ok,g1,-⟩:=Nk d e B p a c 100000 Zaa;exact⟨ok,by rw[show cZ t p=_ from g1];rfl⟩;rw[show(lC p.kind==1)=false from by simp[lC,c],bu];let g:T'->X':=λq=>(R (t,q)).getD false;have j:∀q∈p.l.l,R (t,q)=some (g q):=λq u=>(by have⟨b,k⟩:=w q u;show _=some ((R (t,q)).getD false);rw[k];rfl);rw[t_ _ a.sm.len,tP (f:=λq=> !g q) (λq u=>by unfold lK;rw[j q u];rfl)];exact⟨_,rfl⟩
theorem Ys(a:Small t)(D:(bQ t).length<1073741824){p:T'}(B:p.Sm):
 ∃e,jE t p=some e/\(e=0->cI t=some true/\VT t/\nh p=true/\oJ t p):=by
 obtain⟨z,c,w,-⟩:=Lw a D;unfold jE;rw[c,ζb]
 cases z with
 |false=>exact⟨1,rfl,λh=>by cases h⟩|true=>
  have d:=w rfl;rw[bD,u9 B,ζb]
  cases C:nh p with
  |false=>exact⟨1,rfl,λh=>by cases h⟩|true=>
   have u:=C;simp only[nh,ζh]at u;have hd:=of_decide_eq_true u.2.1;unfold p9;rw[show(!true)=false from rfl,ζb,bu,yd a B Zaa,ζb]
   cases g:p.gA (tJ t)with
   |false=>exact⟨13,rfl,λh=>by cases h⟩|true=>
    rw[bD,zl B Zaa,ζb]
    cases G:p.gA yH with
    |false=>exact⟨14,rfl,λh=>by cases h⟩|true=>
     have f:oJ t p:=⟨B,u.2.2,g,G⟩;have⟨b,g1⟩:=Yi a c d.ok p f hd 100000 Zaa
     rw[bD,g1,ζb]
     cases b with
     |false=>exact⟨9,rfl,λh=>by cases h⟩|true=>exact⟨0,rfl,λ_=>⟨rfl,d,rfl,f⟩⟩
theorem WS{p k:Nat}{P:bW}{c:Zg}{l:Zb}{c':Zg}{Y:Zb}(h:NA t p k P c l)(A:NA t p k P c' Y)(q:T'):oJ t q->q.kind<=8->q.gA (qP (p:Int))=true->∀n,q.dp<=n->
 ∃x,dU (λr(z:bS×T')=>b8 z.1 z.2 r) n (⟨t,c,l⟩,q)=some x/\dU (λr(z:bS×T')=>b8 z.1 z.2 r) n (⟨t,c',Y⟩,q)=some x:=by
 induction q using Pred.ind with
 |h q I=>
  intro b a C n hn;have hd:=q.sW;have⟨e,hv,hV,d,ae,X,x,Z,D⟩:=h;obtain⟨-,-,-,-,-,J,x',E,L⟩:=A;have⟨G,F,hy⟩:=b.here;obtain⟨k1,-,-⟩:=sw G;rw[q.kH,ζh,all_eq_true]at C;obtain⟨l4,-,o⟩:=EC C.1;have I:=λq O=>I q O (b.uW O) (b.int Zaa O) (C.2 q O) (n-1) (by have:=Pred.mK O;omega)
  rw[fZ Zaa,fZ Zaa]
  show∃x,b8 ⟨t,c,l⟩ q (dU (λr(z:bS×T')=>b8 z.1 z.2 r) (n-1))=some x/\b8 ⟨t,c',Y⟩ q (dU (λr(z:bS×T')=>b8 z.1 z.2 r) (n-1))=some x
  generalize dU (λr(z:bS×T')=>b8 z.1 z.2 r) (n-1)=R at I⊢
  unfold b8;rcases(show q.kind=1\/q.kind=2\/q.kind=3\/5<=q.kind by omega)with a|a|a|a
  .rw[a];exact⟨q.n,rfl,rfl⟩
  .have Q:=o (.inl a);have⟨m,j,P',y,H,S,T,K,M⟩:=LC e a F;obtain rfl:m=p:=by omega
   rw[d]at S;cases S;have N:=(ζe.1 T).1;have B:∀(c:Zg)(l:Zb)(x:Zg),l.l[m]?=some x->x.l=jZ P k->jY ⟨t,c,l⟩ q=some (tI P j k):=λc l x Z D=>by unfold jY;simp only;rw[H,iI,d,ζb,AQ (p:=λz=>iW z q) (f:=λw=>toList w.name==toList q.name) (λ_ _=>rfl) (e.2 P (mem_of_getElem? d)).2.1,Ep T K M,ζb,iI,Z,ζb,iI,D,BK _ N];rfl
   refine⟨tI P j k,?_,?_⟩<;>rw[a,show((2:Int)==1)=false from rfl,bu,show((2:Int)==2)=true from rfl,bD]
   .rw[B _ _ _ Z D];rfl
   rw[B _ _ _ E L];rfl
  .have Q:=o (.inr a);refine⟨(k:Int),?_,?_⟩<;>rw[a,show((3:Int)==1)=false from rfl,bu,show((3:Int)==2)=false from rfl,bu,show((3:Int)==3)=true from rfl,bD]<;>simp only<;>rw[Q,iI]
   .rw[X];rfl
   rw[J];rfl
  have u:∀j:Int,j<5->(q.kind==j)=false:=λj hj=>by simp;omega
  rw[u 1 Zaa,u 2 Zaa,u 3 Zaa,u 4 Zaa]
  simp only[bu];have s:0<q.l.l.length:=by rcases(show q.kind=5\/q.kind=6\/q.kind=7\/q.kind=8 by omega)with g|g|g|g;have:=Pred.parts G (c:=1) (by rw[g];rfl);omega;have:=Pred.parts G (c:=2) (by rw[g];rfl);omega;have:=Pred.parts G (c:=2) (by rw[g];rfl);omega;have:=Pred.parts G (c:=2) (by rw[g];rfl);omega
  have⟨x,v,x2⟩:=I _ (getElem_mem s);have U:idx q.l 0=some q.l.l[0]:=bJ (i:=0) s
  by_cases g:q.kind=5
  .rw[g,show((5:Int)==5)=true from rfl,bD,bD,U,ζb,v,ζb,ζb,x2,ζb];exact⟨_,rfl,rfl⟩
  have W:1<q.l.l.length:=by have:=Pred.parts G (c:=2) (by rcases(show q.kind=6\/q.kind=7\/q.kind=8 by omega)with g|g|g<;>(rw[g];rfl));omega
  have⟨y,V,y2⟩:=I _ (getElem_mem W);have ad:idx q.l 1=some q.l.l[1]:=bJ (i:=1) W;rw[U,ad];simp only[ζb,v,x2,V,y2];rw[show(q.kind==5)=false from by simpa using g,bu]
  cases q.kind==6<;>cases q.kind==7<;>exact⟨_,rfl,rfl⟩
theorem HI{p k:Nat}{P:bW}{c:Zg}{l:Zb}{c':Zg}{U:Zb}(h:NA t p k P c l)(Y:NA t p k P c' U)(q:T'):oJ t q->9<=q.kind->q.dp<=20->q.gA (qP (p:Int))=true->∀n,q.dp<=n->
 ∃x,dU (λr(z:bS×T')=>cm z.1 z.2 r) n (⟨t,c,l⟩,q)=some x/\dU (λr(z:bS×T')=>cm z.1 z.2 r) n (⟨t,c',U⟩,q)=some x:=by
 induction q using Pred.ind with
 |h q J=>
  intro a b W B n d;have hd:=q.sW;have⟨G,e,f⟩:=a.here;obtain⟨k1,k2,-⟩:=sw G;rw[q.kH,ζh,all_eq_true]at B;have X:q.kind<=17:=(EC B.1).2.1;have C:∀k∈q.l.l,k.kind<=8->∃x,eu ⟨t,c,l⟩ k=some x/\eu ⟨t,c',U⟩ k=some x:=λk b Q=>WS h Y k (a.uW b) Q (B.2 k b) 100000 (by have:=Pred.mK b;omega)
  have D:13<=q.kind->∀k∈q.l.l,9<=k.kind:=λg k b=>by have:=a.here.2.2;unfold yH at this;rw[all_eq_true]at this;have:=this k b;unfold y_ lC at this;rw[if_neg (show¬q.kind<=12 by omega)]at this;by_cases Z:k.kind<=8;rw[if_pos Z]at this;cases this;omega
  have J:=λg q I=>J q I (a.uW I) (D g q I) (by have:=Pred.mK I;omega) (B.2 q I) (n-1) (by have:=Pred.mK I;omega)
  rw[fZ Zaa,fZ Zaa]
  show∃x,cm ⟨t,c,l⟩ q (dU (λr(z:bS×T')=>cm z.1 z.2 r) (n-1))=some x/\cm ⟨t,c',U⟩ q (dU (λr(z:bS×T')=>cm z.1 z.2 r) (n-1))=some x
  generalize dU (λr(z:bS×T')=>cm z.1 z.2 r) (n-1)=R at J⊢
  unfold cm cW.J1
  by_cases L:q.kind<=12
  .have aa:=Pred.parts G (c:=2) (by rcases(show q.kind=9\/q.kind=10\/q.kind=11\/q.kind=12 by omega)with g|g|g|g<;>(rw[g];rfl))
   have u:0<q.l.l.length:=Zaa
   have w:1<q.l.l.length:=Zaa
   have⟨x,O,x2⟩:=C _ (getElem_mem u) (a.int L (getElem_mem u));have⟨y,S,T⟩:=C _ (getElem_mem w) (a.int L (getElem_mem w));rw[show idx q.l 0=some q.l.l[0]from bJ (i:=0) u,show idx q.l 1=some q.l.l[1]from bJ (i:=1) w];simp only[ζb,O,x2,S,T];rcases(show q.kind=9\/q.kind=10\/q.kind=11\/q.kind=12 by omega)with g|g|g|g<;>rw[g]<;>exact⟨_,rfl,rfl⟩
  by_cases j:q.kind<=14
  .rcases (show q.kind=13\/q.kind=14 by omega)with g|g<;>rw[g]<;>exact⟨_,rfl,rfl⟩
  have u:0<q.l.l.length:=by rcases(show q.kind=15\/q.kind=16\/q.kind=17 by omega)with g|g|g;have:=Pred.parts G (c:=1) (by rw[g];rfl);omega;have:=Pred.parts G (c:=2) (by rw[g];rfl);omega;have:=Pred.parts G (c:=2) (by rw[g];rfl);omega
  have⟨x,O,x2⟩:=J Zaa _ (getElem_mem u)
  rw[show idx q.l 0=some q.l.l[0]from bJ (i:=0) u]
  by_cases g:q.kind=15
  .rw[g];simp only[ζb,O,x2];exact⟨_,rfl,rfl⟩
  have w:1<q.l.l.length:=by have:=Pred.parts G (c:=2) (by rcases(show q.kind=16\/q.kind=17 by omega)with g|g<;>(rw[g];rfl));omega
  have⟨y,S,T⟩:=J Zaa _ (getElem_mem w)
  rw[show idx q.l 1=some q.l.l[1]from bJ (i:=1) w];simp only[ζb,O,x2,S,T];rcases(show q.kind=16\/q.kind=17 by omega)with g|g<;>rw[g]<;>cases x<;>exact⟨_,rfl,rfl⟩
end
theorem zq{a b x:Int}(B:-1125899906842624<=a/\a<=1125899906842624)(D:-1125899906842624<=b/\b<=1125899906842624)(h:iz a b=some x)(G:-1125899906842624<=x/\x<=1125899906842624):a*b=x:=by
 unfold iz rF at h;by_cases c:a=0;subst c;rw[show(0:Int)*b=0 from Zaa];exact Option.some.inj h;rw[show(a==0)=false from by simpa using c,bu,ζb]at h;by_cases d:b=0;subst d;rw[show a*(0:Int)=0 from Zaa];exact Option.some.inj h;rw[show(b==0)=false from by simpa using d,bu,ζb,ζb,eF (0-b) Zaa Zaa,eF (0-a) Zaa Zaa]at h;have u:0<(if 0-b>b then 0-b else b):=by split<;>omega
 unfold AL at h;rw[if_neg Zaa,ζb,Int.tdiv_eq_ediv_of_nonneg Zaa]at h;have hd:(1125899906842624:Int) / (if 0-b>b then 0-b else b)<=1125899906842624:=Int.ediv_le_self _ Zaa;have w:0<=(1125899906842624:Int) / (if 0-b>b then 0-b else b):=Int.ediv_nonneg Zaa Zaa;rw[eF ((1125899906842624:Int) / (if 0-b>b then 0-b else b)) Zaa Zaa]at h;by_cases e:(if 0-a>a then 0-a else a)>(1125899906842624:Int) / (if 0-b>b then 0-b else b);rw[decide_eq_true e,bD,eF (0-1125899906842625) Zaa Zaa]at h;exfalso;revert h;cases(decide (a<0)==decide (b<0))<;>intro h;have:=Option.some.inj h;omega;have:=Option.some.inj h;omega;rw[decide_eq_false e,bu]at h;have z:=Zv (Int.mul_le_of_le_ediv u (show(if 0-a>a then 0-a else a)<=(1125899906842624:Int) / (if 0-b>b then 0-b else b)from Zaa));rw[eF (a*b) Zaa Zaa]at h;exact Option.some.inj h
def MT(k x y:Int):Int:=if k=5 then 0-x else if k=6 then x+y else if k=7 then x-y else x*y
theorem JQ{p:T'}(i:5<=p.kind/\p.kind<=8){a b c d x y:Int}(g:u5 a b)(U:u5 c d)(D:a<=x/\x<=b)(G:c<=y/\y<=d)(v:bT)(r:Z4×T'->a_ (bT×X')):
 ∃f e,cZ.J1 true true p v ⟨a,b⟩ ⟨c,d⟩ r=some (⟨f,e⟩,Ak f e)/\f<=e/\(Ak f e=true->f<=MT p.kind x y/\MT p.kind x y<=e):=by
 have⟨a1,a2,a3⟩:=g;have⟨Z,j,k⟩:=U;unfold cZ.J1;rw[bD,ζb,show(!true)=false from rfl,bu];rcases(show p.kind=5\/p.kind=6\/p.kind=7\/p.kind=8 by omega)with h|h|h|h<;>rw[h]
 .refine⟨-b,-a,?_,Zaa,λ_=>?_⟩
  .rw[show((5:Int)==5)=true from rfl,bD,Ik];simp only;rw[eF (0-b) Zaa Zaa,eF (0-a) Zaa Zaa,show(0:Int)-b=-b from Zaa,show(0:Int)-a=-a from Zaa]
  show -b<=(0-x)/\(0-x)<=-a;omega
 .refine⟨a+c,b+d,?_,Zaa,λ_=>?_⟩
  .rw[show((6:Int)==5)=false from rfl,bu,show((6:Int)==6)=true from rfl,bD,Ik];simp only;rw[eF (a+c) Zaa Zaa,eF (b+d) Zaa Zaa]
  show a+c<=(x+y)/\(x+y)<=b+d;omega
 .refine⟨a-d,b-c,?_,Zaa,λ_=>?_⟩
  .rw[show((7:Int)==5)=false from rfl,bu,show((7:Int)==6)=false from rfl,bu,show((7:Int)==7)=true from rfl,bD,Ik];simp only;rw[eF (a-d) Zaa Zaa,eF (b-c) Zaa Zaa]
  show a-d<=(x-y)/\(x-y)<=b-c;omega
 have⟨w,I⟩:=oP (a:=a) (b:=c) ⟨Zaa,Zaa⟩ ⟨Zaa,Zaa⟩
 have⟨z,J⟩:=oP (a:=a) (b:=d) ⟨Zaa,Zaa⟩ ⟨Zaa,Zaa⟩
 have⟨m,O⟩:=oP (a:=b) (b:=c) ⟨Zaa,Zaa⟩ ⟨Zaa,Zaa⟩
 have⟨n,Q⟩:=oP (a:=b) (b:=d) ⟨Zaa,Zaa⟩ ⟨Zaa,Zaa⟩
 refine⟨if(if n<m then n else m)<(if z<w then z else w)then(if n<m then n else m)else(if z<w then z else w),if(if n>m then n else m)>(if z>w then z else w)then(if n>m then n else m)else(if z>w then z else w),?_,?_,λB=>?_⟩
 .rw[show((8:Int)==5)=false from rfl,bu,show((8:Int)==6)=false from rfl,bu,show((8:Int)==7)=false from rfl,bu];simp only;rw[I,J,O,Q];simp only[ζb];rw[VD,ζb,Ik]
 .have T:(if n<m then n else m)<=(if n>m then n else m):=by split<;>split<;>omega
  have S:(if z<w then z else w)<=(if z>w then z else w):=by split<;>split<;>omega
  split<;>split<;>omega
 generalize W:(if(if n<m then n else m)<(if z<w then z else w)then(if n<m then n else m)else(if z<w then z else w))=L at B⊢;generalize X:(if(if n>m then n else m)>(if z>w then z else w)then(if n>m then n else m)else(if z>w then z else w))=H at B⊢;simp only[Ak,ζh]at B;have o1:=of_decide_eq_true B.1;have o2:=of_decide_eq_true B.2;have l:L<=n/\L<=m/\L<=z/\L<=w:=by rw[<-W];have g1:(if n<m then n else m)<=n/\(if n<m then n else m)<=m:=(by split<;>omega);have g2:(if z<w then z else w)<=z/\(if z<w then z else w)<=w:=(by split<;>omega);generalize(if n<m then n else m)=u at g1;generalize(if z<w then z else w)=Y at g2;split<;>omega
 have o:n<=H/\m<=H/\z<=H/\w<=H:=by rw[<-X];have g1:n<=(if n>m then n else m)/\m<=(if n>m then n else m):=(by split<;>omega);have g2:z<=(if z>w then z else w)/\w<=(if z>w then z else w):=(by split<;>omega);generalize(if n>m then n else m)=u at g1;generalize(if z>w then z else w)=Y at g2;split<;>omega
 have t1:=zq ⟨Zaa,Zaa⟩ ⟨Zaa,Zaa⟩ I Zaa
 have t2:=zq ⟨Zaa,Zaa⟩ ⟨Zaa,Zaa⟩ J Zaa
 have t3:=zq ⟨Zaa,Zaa⟩ ⟨Zaa,Zaa⟩ O Zaa
 have t4:=zq ⟨Zaa,Zaa⟩ ⟨Zaa,Zaa⟩ Q Zaa
 have C:=Wh (lo:=L) (hi:=H) D.1 D.2 G.1 G.2 Zaa Zaa Zaa Zaa
 exact C
section
variable{t:Z4}{A:cz 200 bG}
theorem V4{c:Zg}{l:Zb}(h:Li t A c l){q:T'}(Y:fB q=true)(g:tJ t q=true)(M:q.kind<=4):
 ∃i d x,gU t q=some ⟨i,d⟩/\(∀R,b8 ⟨t,c,l⟩ q R=some x)/\i<=x/\x<=d:=by
 have⟨r,y,s,E,o,G⟩:=h;obtain⟨k1,-,-⟩:=sw Y;rcases(show q.kind=1\/q.kind=2\/q.kind=3\/q.kind=4 by omega)with h|h|h|h
 .refine⟨q.n,q.n,q.n,?_,λR=>?_,Int.le_refl _,Int.le_refl _⟩
  .unfold gU;rw[show(q.kind==1)=true from by simpa using h,bD,UR];rfl
  unfold b8;rw[h];rfl
 .have⟨n,k,P,v,C,j,I,h1,U⟩:=LC r h g;have⟨⟨i,d,e⟩,g1,g2,g3,g4⟩:=IZ r y s.ok j (name:=q.name) I h1 U;simp only at g2 g3 g4;subst g2;have Q:=(ζe.1 I).1;have B:=(ζe.1 j).1;have⟨a,J⟩:=o.1.at_ B;have⟨a0,a1⟩:=o.1.2 n a P J j;have⟨x,Z,S⟩:=G n P a j J;have D:tI P k a.toNat∈C7 P k P.events.l.length:=QY Zaa
  refine⟨i,d,tI P k a.toNat,?_,λR=>?_,g3.2 _ D,g4.2 _ D⟩
  .unfold gU;rw[h,show((2:Int)==1)=false from rfl,bu,show((2:Int)==3)=false from rfl,bu,show((2:Int)==4)=false from rfl,bu,C,g1];rfl
  unfold b8;rw[h,show((2:Int)==1)=false from rfl,bu,show((2:Int)==2)=true from rfl,bD];unfold jY;simp only;rw[C,iI,j,ζb,AQ (p:=λz=>iW z q) (f:=λw=>toList w.name==toList q.name) (λ_ _=>rfl) (r.2 P (mem_of_getElem? j)).2.1,Ep I h1 U,ζb,iI,Z,ζb,iI,S,BK _ Q]
  rfl
 .unfold tJ at g;rw[if_neg (by simp[h]),if_pos (by simpa using h)]at g
  simp only[ζh]at g;have⟨n,C,L⟩:=wI (t:=t) (p:=q.proc) (by simp only[ζh];exact g.1)
  have⟨a,J⟩:=o.1.at_ L;have⟨a0,a1⟩:=o.1.2 n a _ J (ζd L);refine⟨0,len t.procs.l[n].events,a,?_,λR=>?_,Zaa,by simp only[len];omega⟩
  .unfold gU;rw[h,show((3:Int)==1)=false from rfl,bu,show((3:Int)==3)=true from rfl,bD,C,bJ L];rfl
  unfold b8;rw[h,show((3:Int)==1)=false from rfl,bu,show((3:Int)==2)=false from rfl,bu,show((3:Int)==3)=true from rfl,bD];simp only;rw[C,iI,J];rfl
 unfold tJ at g;rw[if_neg (by simp[h]),if_neg (by simp[h]),if_pos (by simpa using h)]at g
 simp only[ζh]at g;have⟨n,C,L⟩:=wI (t:=t) (p:=q.proc) (by simp only[ζh];exact g.1)
 have⟨m,W,B⟩:=wI (t:=t) (p:=q.peer) (by simp only[ζh];exact g.2.1)
 have j:=ζd L;have F:=ζd B;have⟨a,J⟩:=o.1.at_ L;have⟨b,H⟩:=o.1.at_ B;have⟨⟨u,e2⟩,K,T,O⟩:=Tg r y s E o L B;simp only at T O;rw[Hv s E o j F J H]at O;have N:((t.procs.l[n].events.l.take a.toNat).countP λe=>gP m e&&sF t c.l e)<=t.procs.l[n].events.l.countP (gP m):=by refine le_trans (List.countP_mono_left λe _ X=>?_) (List.Sublist.countP_le (List.take_sublist a.toNat _));simp only[ζh]at X;exact X.1
 refine⟨0,((t.procs.l[n].events.l.countP (gP m):Nat):Int),len u,?_,λR=>?_,by simp only[len];omega,by simp only[len];omega⟩
 .unfold gU;rw[h,show((4:Int)==1)=false from rfl,bu,show((4:Int)==3)=false from rfl,bu,show((4:Int)==4)=true from rfl,bD,C,W,DA r j];rfl
 unfold b8;rw[h,show((4:Int)==1)=false from rfl,bu,show((4:Int)==2)=false from rfl,bu,show((4:Int)==3)=false from rfl,bu,show((4:Int)==4)=true from rfl,bD];unfold pZ;simp only;rw[C,W,K];rfl
abbrev G5(n:Nat)(v:bS)(q:Pred):a_ Int:=dU (λr(z:bS×Pred)=>b8 z.1 z.2 r) n (v,q)
abbrev G7(n:Nat)(t:Trace)(q:Pred):a_ (bT×Bool):=dU (λr(z:Trace×Pred)=>dA z.1 z.2 r) n (t,q)
def aaO(t:Z4)(c:Zg)(l:Zb)(q:T')(i:bT)(ok:X')(x:Int):Prop:=(∀n,q.dp<=n->G7 n t q=some (i,ok)/\G5 n ⟨t,c,l⟩ q=some x)/\(ok=true->∃b a,i=⟨b,a⟩/\u5 b a/\b<=x/\x<=a)
theorem u5.Iu{a b c d x y k f e:Int}(g:u5 a b)(D:u5 c d)(G:a<=x/\x<=b)(J:c<=y/\y<=d)(B:Ak f e=true)(h:f<=MT k x y/\MT k x y<=e):Iu k x y=MT k x y:=by simp only[Ak,ζh]at B;have o1:=of_decide_eq_true B.1;have o2:=of_decide_eq_true B.2;have⟨a1,a2,a3⟩:=g;have⟨u,w,z⟩:=D;unfold VE.Iu MT at *;split;exact eF _ Zaa Zaa;split;exact eF _ Zaa Zaa;split;exact eF _ Zaa Zaa;rw[if_neg (by assumption),if_neg (by assumption),if_neg (by assumption)]at h;exact eF _ Zaa Zaa
theorem YQ{c:Zg}{l:Zb}(h:Li t A c l)(q:T'):oJ t q->q.kind<=8->∃i ok x,aaO t c l q i ok x:=by induction q using Pred.ind with|h q O=>intro o hk;have hd:=q.sW;have⟨Q,N,hy⟩:=o.here;obtain⟨k1,-,-⟩:=sw Q;have O:=λq Z=>O q Z (o.uW Z) (o.int Zaa Z);by_cases P:q.kind<=4;have V:q.l.l.length=0:=(by have:=Pred.parts Q (c:=0) (by rcases(show q.kind=1\/q.kind=2\/q.kind=3\/q.kind=4 by omega)with h|h|h|h<;>(rw[h];rfl));omega);have⟨k,f,x,g1,g2,g3,g5⟩:=V4 h Q N P;refine⟨⟨k,f⟩,Ak k f,x,λn w=>⟨?_,?_⟩,λab=>⟨k,f,rfl,u5.of Zaa ab,g3,g5⟩⟩;unfold G7;rw[fZ Zaa];show dA t q _=_;unfold dA;rw[show(len q.l==0)=true from by simp[len,V],bD,g1,ζb,EE,ζb,not_not];unfold G5;rw[fZ Zaa];exact g2 _;have u:∀j:Int,j<5->(q.kind==j)=false:=λj hj=>(by simp;omega);by_cases F:q.kind=5;have S:q.l.l.length=1:=(by have:=Pred.parts Q (c:=1) (by rw[F];rfl);omega);have m:0<q.l.l.length:=Zaa;have⟨i,ok,x,g,g3⟩:=O _ (getElem_mem m);have ad:=Pred.mK (getElem_mem m);have T:idx q.l 0=some q.l.l[0]:=bJ (i:=0) m;have D:∀n,q.dp<=n->G7 n t q=cZ.J1 ok true q ⟨0,0⟩ i i (λ_=>none):=λn w=>(by have e:=(g (n-1) Zaa).1;unfold G7 at e⊢;rw[fZ Zaa];show dA t q _=_;generalize dU (λr(z:Z4×T')=>dA z.1 z.2 r) (n-1)=R at e⊢;unfold dA;rw[show(len q.l==0)=false from by simp[len,S],bu,T,ζb,e,ζb,show(len q.l==2)=false from by simp[len,S],bu];rfl);have B:∀n,q.dp<=n->G5 n ⟨t,c,l⟩ q=some (Iu q.kind x x):=λn w=>(by have e:=(g (n-1) Zaa).2;unfold G5 at e⊢;rw[fZ Zaa];show b8 ⟨t,c,l⟩ q _=_;generalize dU (λr(z:bS×T')=>b8 z.1 z.2 r) (n-1)=R at e⊢;unfold b8;rw[u 1 Zaa,u 2 Zaa,u 3 Zaa,u 4 Zaa,bu,bu,bu,bu,F,show((5:Int)==5)=true from rfl,bD,T,ζb,e];rfl);(cases ok with|false=>rw[FO rfl]at D;exact⟨_,false,_,λn w=>⟨D n w,B n w⟩,λh=>by cases h⟩|true=>obtain⟨a,b,rfl,G,I,x2⟩:=g3 rfl;have⟨k,f,s,v,U⟩:=JQ (p:=q) ⟨Zaa,Zaa⟩ G G ⟨I,x2⟩ ⟨I,x2⟩ ⟨0,0⟩ (λ_=>none);refine⟨_,_,_,λn w=>⟨(D n w).trans s,B n w⟩,λh=>⟨k,f,rfl,u5.of v h,?_⟩⟩;rw[u5.Iu G G ⟨I,x2⟩ ⟨I,x2⟩ h (U h)];exact U h);have W:q.l.l.length=2:=(by have:=Pred.parts Q (c:=2) (by rcases(show q.kind=6\/q.kind=7\/q.kind=8 by omega)with h|h|h<;>(rw[h];rfl));omega);have m:0<q.l.l.length:=Zaa;have E:1<q.l.l.length:=Zaa;have⟨i,ok,x,g,g3⟩:=O _ (getElem_mem m);have⟨j,C,y,H,q3⟩:=O _ (getElem_mem E);have ad:=Pred.mK (getElem_mem m);have ae:=Pred.mK (getElem_mem E);have T:idx q.l 0=some q.l.l[0]:=bJ (i:=0) m;have X:idx q.l 1=some q.l.l[1]:=bJ (i:=1) E;have D:∀n,q.dp<=n->G7 n t q=cZ.J1 ok C q ⟨0,0⟩ i j (λ_=>none):=λn w=>(by have e:=(g (n-1) Zaa).1;have J:=(H (n-1) Zaa).1;unfold G7 at e J⊢;rw[fZ Zaa];show dA t q _=_;generalize dU (λr(z:Z4×T')=>dA z.1 z.2 r) (n-1)=R at e J⊢;unfold dA;rw[show(len q.l==0)=false from by simp[len,W],bu,T,X];simp only[ζb];simp only[e,J,ζb];rw[show(len q.l==2)=true from by simp[len,W]];rfl);have B:∀n,q.dp<=n->G5 n ⟨t,c,l⟩ q=some (Iu q.kind x y):=λn w=>(by have e:=(g (n-1) Zaa).2;have J:=(H (n-1) Zaa).2;unfold G5 at e J⊢;rw[fZ Zaa];show b8 ⟨t,c,l⟩ q _=_;generalize dU (λr(z:bS×T')=>b8 z.1 z.2 r) (n-1)=R at e J⊢;unfold b8;rw[u 1 Zaa,u 2 Zaa,u 3 Zaa,u 4 Zaa,bu,bu,bu,bu,T,X];simp only[ζb];simp only[e,J,ζb];unfold VE.Iu;rcases(show q.kind=6\/q.kind=7\/q.kind=8 by omega)with h|h|h<;>rw[h]<;>rfl);cases L:ok&&C with|false=>simp only[FO L]at D;exact⟨_,false,_,λn w=>⟨D n w,B n w⟩,λh=>by cases h⟩|true=>simp only[ζh]at L;obtain⟨rfl,rfl⟩:=L;obtain⟨a,b,rfl,G,I,x2⟩:=g3 rfl;obtain⟨c',d,rfl,Y,K,M⟩:=q3 rfl;have⟨k,f,s,v,U⟩:=JQ (p:=q) ⟨Zaa,Zaa⟩ G Y ⟨I,x2⟩ ⟨K,M⟩ ⟨0,0⟩ (λ_=>none);refine⟨_,_,_,λn w=>⟨(D n w).trans s,B n w⟩,λh=>⟨k,f,rfl,u5.of v h,?_⟩⟩;rw[u5.Iu G Y ⟨I,x2⟩ ⟨K,M⟩ h (U h)];exact U h
abbrev zM(n:Nat)(v:bS)(q:Pred):a_ Bool:=dU (λr(z:bS×Pred)=>cm z.1 z.2 r) n (v,q)
theorem oJ.bool{q:T'}(a:oJ t q)(g:13<=q.kind){k:T'}(b:k∈q.l.l):9<=k.kind:=by have:=a.here.2.2;unfold yH at this;rw[all_eq_true]at this;have:=this k b;unfold y_ lC at this;rw[if_neg (show¬q.kind<=12 by omega)]at this;by_cases u:k.kind<=8;rw[if_pos u]at this;cases this;omega
theorem ZC{q:T'}(k2:q.kind<=21)(h:q.gA (λk=> !wT k)=true):q.kind<=17/\∀k∈q.l.l,k.gA (λk=> !wT k)=true:=by rw[q.kH,ζh,all_eq_true]at h;refine⟨?_,h.2⟩;have:=h.1;unfold wT at this;by_cases g:q.kind>=18;rw[decide_eq_true g,decide_eq_true k2]at this;cases this;omega
theorem Ue{c:Zg}{l:Zb}(h:Li t A c l)(q:T'):oJ t q->9<=q.kind->q.dp<=20->q.gA (λk=> !wT k)=true->∃x,∀n,q.dp<=n->zM n ⟨t,c,l⟩ q=some x:=by induction q using Pred.ind with|h q O=>intro a d W G;have hd:=q.sW;have⟨I,j,m⟩:=a.here;obtain⟨k1,k2,-⟩:=sw I;have⟨X,G⟩:=ZC Zaa G;have O:=λg q J=>O q J (a.uW J) (a.bool g J) (by have:=Pred.mK J;omega) (G q J);have B:∀n,q.dp<=n->zM n ⟨t,c,l⟩ q=cm ⟨t,c,l⟩ q (λz=>zM (n-1) z.1 z.2):=λn C=>(by unfold zM;rw[fZ Zaa]);by_cases S:q.kind<=12;have Z:=Pred.parts I (c:=2) (by rcases(show q.kind=9\/q.kind=10\/q.kind=11\/q.kind=12 by omega)with g|g|g|g<;>(rw[g];rfl));have u:0<q.l.l.length:=Zaa;have w:1<q.l.l.length:=Zaa;have D:∀k∈q.l.l,∃x,eu ⟨t,c,l⟩ k=some x:=λk d=>(by obtain⟨i,ok,x,g,-⟩:=YQ h k (a.uW d) (a.int S d);exact⟨x,(g 100000 (by have:=Pred.mK d;omega)).2⟩);have⟨x,Q⟩:=D _ (getElem_mem u);have⟨y,T⟩:=D _ (getElem_mem w);have key:∀R,∃b,cm ⟨t,c,l⟩ q R=some b/\∀e,cm ⟨t,c,l⟩ q e=some b:=λR=>(by unfold cm;rw[show idx q.l 0=some q.l.l[0]from bJ (i:=0) u,show idx q.l 1=some q.l.l[1]from bJ (i:=1) w];simp only[ζb,Q,T];rcases(show q.kind=9\/q.kind=10\/q.kind=11\/q.kind=12 by omega)with g|g|g|g<;>rw[g]<;>exact⟨_,rfl,λ_=>rfl⟩);obtain⟨b,-,f⟩:=key (λ_=>none);exact⟨b,λn C=>by rw[B n C,f]⟩;by_cases o:q.kind<=14;refine⟨q.kind==13,λn C=>?_⟩;rw[B n C];unfold cm cW.J1;rcases(show q.kind=13\/q.kind=14 by omega)with g|g<;>rw[g]<;>rfl;have u:0<q.l.l.length:=(by rcases(show q.kind=15\/q.kind=16\/q.kind=17 by omega)with g|g|g;have:=Pred.parts I (c:=1) (by rw[g];rfl);omega;have:=Pred.parts I (c:=2) (by rw[g];rfl);omega;have:=Pred.parts I (c:=2) (by rw[g];rfl);omega);have⟨x,Q⟩:=O Zaa _ (getElem_mem u);have p:=Pred.mK (getElem_mem u);have L:idx q.l 0=some q.l.l[0]:=bJ (i:=0) u;by_cases g:q.kind=15;refine⟨!x,λn C=>?_⟩;rw[B n C];unfold cm cW.J1;rw[L,g];simp only[ζb,Q (n-1) Zaa];rfl;have w:1<q.l.l.length:=(by have:=Pred.parts I (c:=2) (by rcases(show q.kind=16\/q.kind=17 by omega)with g|g<;>(rw[g];rfl));omega);have⟨y,T⟩:=O Zaa _ (getElem_mem w);have Y:=Pred.mK (getElem_mem w);have U:idx q.l 1=some q.l.l[1]:=bJ (i:=1) w;refine⟨if q.kind=16 then x&&y else x||y,λn C=>?_⟩;rw[B n C];unfold cm cW.J1;rw[L,U];simp only[ζb,Q (n-1) Zaa,T (n-1) Zaa];rcases(show q.kind=16\/q.kind=17 by omega)with g|g<;>rw[g]<;>cases x<;>rfl
end
section
variable{t:Z4}{A:cz 200 bG}{L:aZ R'}{tb:Sl X'}{x:ck}
theorem IP(d:VT t)(B:ec t A L)(D:x.truth=tb)(J:ze L (lT x.index))(G:tb.l.length=L.length){out:Zb}(U:out.l.length<=5000)
 (W:∀z∈out.l,z=.nil\/Cons t A z.l):od x out=some (!out.l.any λz=> !z.l.isEmpty&& !gR tb (L.idxOf z.l)):=by
 have w:=d.ok.one;unfold od;rw[yJ (p:=λz=>jW z (some x)) (f:=λz=> !z.l.isEmpty&& !gR tb (L.idxOf z.l)) (λz I=>?_) Zaa]
 .rfl
 unfold jW;rcases W z I with rfl|c
 .rfl
 have u:0<z.l.length:=by rw[c.1.1];omega
 have C:=(B.mem _).2 c;rw[rE u,ζb,bu,ζb,ζb,GV (AV d c) (by rw[c.1.1];exact d.few),ζb,J.get _ C,D,
  CT (by rw[G];exact List.idxOf_lt_length_of_mem C),ζb,ζb]
 rw[show z.l.isEmpty=false from by cases h:z.l with
  |nil=>rw[h]at u;exact absurd u (by decide)|cons a b=>rfl]
 rfl
end
theorem Np{b c:X'}:bl b (some true) (some c)=some (b||c):=by cases b<;>rfl
section
variable{t:Z4}
theorem Xc(a:Small t)(G:(bQ t).length<1073741824):∃b,fJ t=some b:=by
 suffices h:Wp (fJ t) λ_=>True by obtain⟨b,I,-⟩:=h;exact⟨b,I⟩
 have g:=a.1;obtain⟨v,-,w,B⟩:=BV a G;obtain⟨J,C,u,-⟩:=BV a G;have D:v=J:=by rw[w]at u;exact Option.some.inj u
 subst D;have ok:∀b:X',Wp (some b) λ_=>True:=λb=>(bg _).2 trivial;unfold fJ;rw[cq];refine⟨λ_=>ok _,λ_=>?_⟩;unfold fJ.W1;refine eS t.procs.l.length (λi(q:Int×Int)=>q.2=(i:Int)) rfl ?_ ?_;rintro i ⟨n,_⟩ hi e;simp only at e;subst e;unfold fJ.br;dsimp only;rw[jL hi,bD,bJ hi,ζb,wV (p:=λz=>rj z) (f:=λx=>decide (len x.assign>12)) (λx _=>rfl) (a.2 _ (getElem_mem hi)).1,ζb,Np,ζb,cq];exact⟨λ_=>(bg _).2 (ok _),λ_=>(bg _).2 (cH i Zaa)⟩;rintro⟨n,_⟩ e;simp only at e;subst e;unfold fJ.br;dsimp only;rw[ji,bu,bg];show Wp (bl _ _ _) _;rw[cq];refine⟨λ_=>ok _,λ_=>?_⟩;rw[w,ζb];cases v with|false=>exact ok _|true=>rw[bD,cq];refine⟨λ_=>?_,λ_=>?_⟩;unfold fJ.W2;refine eS t.procs.l.length (λi(q:Int×Int)=>q.2=(i:Int)) rfl ?_ ?_;rintro i ⟨n,_⟩ hi e;simp only at e;subst e;unfold fJ.bV;dsimp only;rw[jL hi,bD,bJ hi,ζb,wV (p:=λz=>qV z) (f:=λx=>x.kind==3) (λx _=>rfl) (a.2 _ (getElem_mem hi)).1,ζb,cq];exact⟨λ_=>(bg _).2 (ok _),λ_=>(bg _).2 (cH i Zaa)⟩;rintro⟨n,_⟩ e;simp only at e;subst e;unfold fJ.bV;dsimp only;rw[ji,bu,bg];exact ok _;have c:=B rfl;obtain⟨A,-,-,d⟩:=c.msgs;rcases F9 a C c d with⟨L,r,s,-,-,-,h,-⟩|⟨-,h⟩;rw[h,ζb];exact ok _;rw[h,ζb];exact ok _
theorem Es:∀(n:Nat)(p:T'),p.Sm->∀l d:Int,0<=l->l<=300->0<=d->d<=61->62<=(n:Int)+d->
 ∃b m,dU (λr(z:T'×Int×Int)=>kz z.1 z.2.1 z.2.2 r) n (p,l,d)=some (b,m)/\-1<=m/\m<=l/\(b=true->0<=m)
 |0,p,B,l,d,h1,J,U,W,D=>absurd D Zaa|n+1,p,B,l,d,h1,J,U,W,D=>by have G:=Es n;rw[fZ (Nat.succ_pos n)];show∃b m,kz p l d (dU (λr(z:T'×Int×Int)=>kz z.1 z.2.1 z.2.2 r) n)=some (b,m)/\_;generalize dU (λr(z:T'×Int×Int)=>kz z.1 z.2.1 z.2.2 r) n=R at G⊢;unfold kz;rw[eF _ Zaa Zaa];by_cases c:0<=l-1;rw[decide_eq_true (show l-1>=0 from c),bD,ζb];by_cases C:d<=60;rw[decide_eq_true C,bD];(cases I:decide (((ByteArray.size p.name:Nat):Int)<=100)with|false=>exact⟨false,l-1,rfl,Zaa,Zaa,λh=>by cases h⟩|true=>rw[ζb,bD,GS (by have:=B.len;omega)];have key:∀(u:aZ T'),(∀k∈u,k.Sm)->∀s:Int,0<=s->s<=299->∃b m,w8 (λx s=>kP x d s R) u s=some (b,m)/\-1<=m/\m<=s/\(b=false->0<=m):=(by intro u;induction u with|nil=>intro _ s g1 g2;exact⟨false,s,rfl,Zaa,Zaa,λ_=>g1⟩|cons k r w=>intro a s g1 g2;have⟨b,m,e1,e2,e3,e4⟩:=G k (a k (List.mem_cons_self ..)) s (d+1) g1 Zaa Zaa Zaa Zaa;have e:kP k d s R=some (!b,m):=(by unfold kP;rw[eF _ Zaa Zaa,e1];rfl);show∃b m,((kP k d s R).bind λy=>if y.1 then some (true,y.2)else w8 (λx s=>kP x d s R) r y.2)=some (b,m)/\_;rw[e,ζb];cases b with|false=>exact⟨true,m,rfl,e2,e3,λh=>by cases h⟩|true=>have⟨L,m',k1,k2,k3,k4⟩:=w (λx O=>a x (mem_cons_of_mem _ O)) m (e4 rfl) Zaa;refine⟨L,m',?_,k2,Zaa,k4⟩;exact k1);have⟨b,m,e1,e2,e3,e4⟩:=key p.l.l (λk a=>B.uW a) (l-1) c Zaa;rw[e1,ζb,ζb];exact⟨!b,m,rfl,e2,Zaa,λh=>e4 (by cases b;rfl;cases h)⟩);rw[decide_eq_false C,bu];exact⟨false,l-1,rfl,Zaa,Zaa,λh=>by cases h⟩;rw[decide_eq_false (show¬l-1>=0 from c),bu];exact⟨false,l-1,rfl,Zaa,Zaa,λh=>by cases h⟩
theorem aaA(a:Small t)(D:(bQ t).length<1073741824){p:T'}(B:p.Sm):∃b,uO t p=some b:=by have⟨s,d⟩:=Xc a D;unfold uO;rw[d,ζb];cases s with|false=>exact⟨_,rfl⟩|true=>obtain⟨b,m,e,-⟩:=Es 100000 p B 300 0 Zaa Zaa Zaa Zaa Zaa;have u:tc p 300 0=some (b,m):=e;have w:=count_eq p B 100000 200 Zaa Zaa;have z:kj p 200=_:=w;have c:∃k,nF p=some k:=⟨_,by unfold nF;rw[z];rfl⟩;have⟨k,c⟩:=c;rw[bD,u,ζb,ζb];cases b with|false=>exact⟨_,rfl⟩|true=>simp only;rw[bD,c,ζb,ζb,Np];exact⟨_,rfl⟩
end
theorem Wm (x y:Int):qL (Sl.row [x,y])=some (mT x y):=by
 have h:Wp (dI (Sl.row [x,y])) λm=>m=if y>x then y else x:=by
  unfold dI;rw[show decide (len (Sl.row [x,y])<1)=false from rfl,bu];unfold dI.J1;rw[show idx (Sl.row [x,y]) 0=some x from rfl,ζb];unfold dI.W2;refine eS 1 (λi (q:Int×Int)=>(i=0/\q=(x,1))\/(i=1/\q=(if y>x then y else x,2))) (.inl ⟨rfl,rfl⟩) ?_ ?_
  .rintro i ⟨m,k⟩ hi (⟨rfl,e⟩|⟨rfl,e⟩)
   .cases e;unfold dI.bV;dsimp only;rw[show decide ((1:Int)<len (Sl.row [x,y]))=true from rfl,bD,show idx (Sl.row [x,y]) 1=some y from rfl,ζb,bg];exact .inr ⟨rfl,rfl⟩
   omega
  rintro⟨m,k⟩ (⟨h,_⟩|⟨_,e⟩)
  .cases h
  cases e;unfold dI.bV;dsimp only;rw[show decide ((2:Int)<len (Sl.row [x,y]))=false from rfl,bu,bg];exact(bg _).2 rfl
 unfold qL;obtain⟨m,h1,u⟩:=h;rw[h1,u];unfold mT;refine congrArg some ?_
 by_cases h:y>x
 .rw[if_pos h];try split
  all_goals omega
 rw[if_neg h];try split
 all_goals omega
theorem Ts{a b:Zg}(J:a.l.length=b.l.length)(g:0<a.l.length)(U:a.l.length<=8):Wp (en (Sl.row [a,b]) (λz=>qL z)) λo=>o.l=zipWith mT a.l b.l:=by
 have D:=lU.of mT J;unfold en;have⟨d,l,u⟩:=tU (c:=a) Zaa g;obtain⟨v,I,G⟩:∃v,gu (Sl.row [a,b]) (some 1) none=some v/\v.l=[b]:=zy (Sl.row [a,b]) 1 (Nat.le_succ 1);rw[show idx (Sl.row [a,b]) 0=some a from rfl,ζb,l,ζb,I,ζb];unfold en.W1;have f:len v=1:=by simp only[len,G];rfl
 have hi:idx v 0=some b:=by unfold idx;rw[if_pos (by decide),G];rfl
 refine eS 1 (λi(q:Zg×Int)=>(i=0/\q=(d,0))\/(i=1/\q.1.l=zipWith mT a.l b.l/\q.2=1)) (.inl ⟨rfl,rfl⟩) ?_ ?_;rintro i ⟨o,k⟩ L (⟨rfl,e⟩|⟨rfl,-,-⟩);cases e;unfold en.br;dsimp only;rw[f,show decide ((0:Int)<1)=true from rfl,bD,hi,ζb];unfold en.W2;refine eS d.l.length (λn(q:Zg×Int)=>q.2=(n:Int)/\q.1.l.length=a.l.length/\∀j:Nat,q.1.l[j]?=if j<n then(zipWith mT a.l b.l)[j]?else a.l[j]?) ⟨rfl,by rw[u],λj=>by rw[if_neg Zaa,u]⟩ ?_ ?_;rintro n ⟨o,_⟩ O ⟨rfl,g1,g2⟩;simp only at g1 g2;have w:n<a.l.length:=by rw[<-u];exact O
 have B:n<b.l.length:=Zaa;unfold en.bV;dsimp only;rw[show decide ((n:Int)<len d)=true from by simp only[len,decide_eq_true_eq];omega,bD,oF Zaa,ζb];unfold Sl.get;rw[g2 n,if_neg Zaa,ζd w,ζb,bJ B,ζb,Wm,ζb,ζb];have⟨o2,k1,k2⟩:=put_eq (s:=o) (p:=n) (x:=mT a.l[n] b.l[n]) Zaa;rw[k1,ζb,bg];refine⟨cH n Zaa,by show o2.l.length=_;rw[k2,length_set];exact g1,λj=>?_⟩;show o2.l[j]?=_;rw[k2,getElem?_set];by_cases e:n=j;subst e;rw[if_pos rfl,if_pos Zaa,if_pos Zaa,D.2 n _ _ (ζd w) (ζd B)];rw[if_neg e,g2 j];by_cases C:j<n;rw[if_pos C,if_pos Zaa];rw[if_neg C,if_neg Zaa];rintro⟨o,_⟩ ⟨rfl,g1,g2⟩;simp only at g1 g2;unfold en.bV;dsimp only;rw[ji,bu,bg];refine(bg _).2 (.inr ⟨rfl,ext_getElem? λj=>?_,rfl⟩);rw[g2 j];by_cases C:j<d.l.length;rw[if_pos C];rw[if_neg C,getElem?_eq_none (by rw[<-u];omega),getElem?_eq_none (by rw[D.1,<-u];omega)];omega;rintro⟨o,k⟩ (⟨h,_⟩|⟨_,e,e2⟩);cases h;simp only at e e2;subst e2;unfold en.br;dsimp only;rw[f,show decide ((1:Int)<1)=false from rfl,bu,bg];exact(bg _).2 e
theorem TT{c:Zg}(B:c.l.length<=8):ga c=some (mc (c.l.map (wrap .u8))):=by
 refine Wp.eq ?_;unfold ga;have b:∃r,s7 (len c) (⟨0⟩:U8)=some r/\r.l=[]:=by unfold s7;rw[if_pos ⟨by simp[len],by simp[len];omega⟩];refine⟨_,rfl,?_⟩;split<;>rfl
 have⟨r,b,u⟩:=b;rw[b,ζb];unfold ga.W1;refine eS c.l.length (λi(q:Sl U8×Int)=>q.2=(i:Int)/\q.1.l.map U8.v=(c.l.map (wrap .u8)).take i) ⟨rfl,by rw[u];rfl⟩ ?_ ?_;rintro i ⟨o,_⟩ hi ⟨e,a⟩;simp only at e a;subst e;have w:o.l.length=i:=by have:=congrArg List.length a;simp at this;omega
 unfold ga.br;rw[jL hi,bD,bJ hi,ζb];have⟨z,k1,k2⟩:=nM (s:=o) (x:=(⟨wrap .u8 c.l[i]⟩:U8)) Zaa;rw[k1,ζb,bg];refine⟨cH i Zaa,?_⟩;show z.l.map U8.v=_;rw[k2,map_append,a,List.take_succ_eq_append_getElem (by simpa using hi),List.map_singleton,List.getElem_map];rintro⟨o,_⟩ ⟨e,a⟩;simp only at e a;subst e;unfold ga.br;rw[ji,bu,bg];refine(bg _).2 ?_;unfold LD;rw[a,List.take_of_length_le Zab]
section
variable{t:Z4}{A:cz 200 bG}{L:aZ R'}{tb:Sl X'}{x:ck}
def zR(L:aZ R')(c:R'):ST:=(range c.length).filterMap λp=>if bump c p (-1)∈L then some (L.idxOf (bump c p (-1)))else none
theorem CM{L:aZ R'}{c:R'}{k:Nat}:k∈zR L c↔∃p,p<c.length/\bump c p (-1)∈L/\k=L.idxOf (bump c p (-1)):=by
 unfold zR;rw[List.mem_filterMap];constructor;rintro⟨p,u,h⟩;split at h;next w=>cases h;exact⟨p,mem_range.1 u,w,rfl⟩
 cases h;rintro⟨p,u,w,rfl⟩;exact⟨p,mem_range.2 u,by rw[if_pos w]⟩
theorem Rp(h:ec t A L){i k:Nat}{c:R'}(hi:L[i]?=some c)(b:k∈zR L c):k<i:=by obtain⟨p,u,w,rfl⟩:=CM.1 b;refine h.lt (oA w) hi ?_;have a:c[p]?=some c[p]:=ζd u;unfold bump;rw[tL a,a];show c.sum-c[p]+(c[p]+-1)<c.sum;omega
theorem tF{c:R'}{p:Nat}{a:Int}(h:c[p]?=some a)(q:Nat):(bump c p (-1))[q]?=if p=q then some (a+-1)else c[q]?:=by have u:=(ζe.1 h).1;unfold bump;rw[h,getElem?_set];by_cases e:p=q;subst e;rw[if_pos rfl,if_pos rfl,if_pos u];rfl;rw[if_neg e,if_neg e]
theorem Ij{c:R'}{p:Nat}(h:p<c.length):bump (bump c p 1) p (-1)=c:=by have a:=ζd h;have u:=yD a p;rw[if_pos rfl]at u;refine ext_getElem? λq=>?_;rw[tF u,yD a];by_cases e:p=q;subst e;rw[if_pos rfl,a];congr 1;omega;rw[if_neg e,if_neg e]
theorem AB{c:R'}{p:Nat}(h:p<c.length):dP (bump c p (-1)) c:=⟨vB,λq x y u w=>by
 rw[tF (ζd h)]at u
 by_cases e:p=q
 .subst e;rw[if_pos rfl]at u;cases u;rw[ζd h]at w;cases w;omega
 rw[if_neg e,w]at u;cases u;exact Int.le_refl _⟩
theorem Cx(b:VT t)(f:fR t (bQ t) A)(B:ec t A L){c:R'}(a:Cons t A c):∀(n:Nat){d:R'},Cons t A d->dP d c->d≠c->L.length<=L.idxOf d+n->∃p,p<c.length/\bump c p (-1)∈L/\dP d (bump c p (-1))
 |0,d,G,D,J,W=>absurd (List.idxOf_lt_length_of_mem ((B.mem _).2 G)) Zaa|n+1,d,G,D,J,W=>by have U:=(B.mem _).2 G;have⟨p,u,w,C⟩:=CS b f B G D c.sum.toNat a (dP.refl c) Zaa (λh=>J (dP.same D h));have z:d.length=c.length:=G.1.1.trans a.1.1.symm;by_cases e:bump d p 1=c;refine⟨p,Zaa,?_,?_⟩;rw[<-e,Ij u];exact U;rw[<-e,Ij u];exact dP.refl _;have I:=(EN B (oA U) (Ap.2 ⟨p,u,w,rfl⟩)).1;have⟨q,k1,k2,k3⟩:=Cx b f B a n ((B.mem _).1 w) C e Zaa;exact⟨q,k1,k2,(zS u).trans k3⟩
theorem S4(r:Small t)(b:VT t)(B:ec t A L){x:ck}(J:ins x.l=L)(Y:ze L (lT x.index)){i:Nat}{c:R'}(f:L[i]?=some c):
 Wp (dJ x (i:Int) (-1)) λo=>o.l=(zR L c).map λk:Nat=>(k:Int):=by
 have N:=b.few;have hi:i<x.l.l.length:=by rw[<-jT,J];exact(ζe.1 f).1
 have u:x.l.l[i].l=c:=by have:=u7 hi;rw[J,f]at this;exact(Option.some.inj this).symm
 have g:=(B.mem _).1 (mem_of_getElem? f);have P:=g.1.1;have R:=b.ok.one;have V:=GR r b g;have O:=AV b g;unfold dJ;rw[bJ hi,ζb];unfold dJ.W1;refine eS x.l.l[i].l.length (λn(q:Zg×Int)=>q.2=(n:Int)/\q.1.l.length<=n/\q.1.l=((range n).filterMap λp=>if bump c p (-1)∈L then some (L.idxOf (bump c p (-1)))else none).map λk:Nat=>(k:Int)) ⟨rfl,le_refl _,rfl⟩ ?_ ?_
 .rintro n ⟨o,_⟩ C ⟨rfl,Q,S⟩;simp only at Q S;rw[u]at C;have D:=ζd C;have hb:=O c[n] (getElem_mem C);have⟨d,Z,T⟩:=tU (c:=x.l.l[i]) (by rw[u];omega) (by rw[u];omega)
  rw[u]at T;unfold dJ.br;dsimp only;rw[show len x.l.l[i]=((x.l.l[i].l.length:Nat):Int)from rfl,u,decide_eq_true Zaa,bD,bJ hi,ζb,Z,ζb,oF (by rw[T];exact C),ζb]
  unfold Sl.get;rw[T,D,ζb,ζb,eF _ Zaa Zaa]
  have⟨v,E,F⟩:=put_eq (s:=d) (p:=n) (x:=c[n]+-1) (by rw[T];exact C)
  have U:v.l=bump c n (-1):=by rw[F,T];unfold bump;rw[D];rfl
  have W:(bump c n (-1)).map (wrap .u8)=if c[n]=0 then c.set n 255 else bump c n (-1):=by refine ext_getElem? λq=>?_;rw[getElem?_map,tF D];have l:∀z:Int,0<=z->z<256->wrap .u8 z=z:=λz j Z=>(by simp[wrap,IntKind.bits,signed];omega);by_cases e:n=q;subst e;rw[if_pos rfl];by_cases a:c[n]=0;rw[if_pos a,getElem?_set_self C,a];rfl;rw[if_neg a,tF D,if_pos rfl];show some _=some _;rw[l _ Zaa Zaa];rw[if_neg e];have H:(c[q]?).map (wrap .u8)=c[q]?:=(by cases K:c[q]?with|none=>rfl|some z=>have:=O z (mem_of_getElem? K);show some _=some _;rw[l z this.1 this.2]);rw[H];by_cases a:c[n]=0;rw[if_pos a,List.getElem?_set_ne e];rw[if_neg a,tF D,if_neg e]
  have m:DG ((bump c n (-1)).map (wrap .u8)):=λz M=>by obtain⟨y,-,rfl⟩:=mem_map.1 M;simp[wrap,IntKind.bits,signed];omega
  have w:(bump c n (-1)).map (wrap .u8)∈L↔bump c n (-1)∈L:=by rw[W];by_cases a:c[n]=0;rw[if_pos a];refine⟨λh=>?_,λh=>?_⟩;have G:=(B.mem _).1 h;have X:n<t.procs.l.length:=(by omega);have j:=G.1.2 n _ _ (getElem?_set_self C) (ζd X);have Z:=Bx b (ζd X);omega;have G:=(B.mem _).1 h;have j:=G.1.pos n (c[n]+-1) (by rw[tF D,if_pos rfl]);omega;rw[if_neg a]
  rw[E,ζb,TT (by rw[U,vB];omega),ζb,U]
  by_cases I:bump c n (-1)∈L
  .have ab:(bump c n (-1)).map (wrap .u8)=bump c n (-1):=by
    rw[W,if_neg];intro a;have j:=((B.mem _).1 I).1.pos n (c[n]+-1) (by rw[tF D,if_pos rfl])
    omega
   have⟨o2,k1,k2⟩:=nM (s:=o) (x:=pe (lT x.index) (mc (bump c n (-1))) 0) Zaa
   rw[(Y.has _ m).2 (w.2 I),bD,ab,k1,ζb,bg];refine⟨cH n Zaa,by show o2.l.length<=_;rw[k2];simp;omega,?_⟩
   show o2.l=_;rw[k2,S,Y.get _ I,range_succ,List.filterMap_append,map_append];simp[I]
  rw[show tH (lT x.index) (mc ((bump c n (-1)).map (wrap .u8)))=false from by
   cases h:tH (lT x.index) (mc ((bump c n (-1)).map (wrap .u8)))with
   |false=>rfl|true=>exact absurd (w.1 ((Y.has _ m).1 h)) I,bu,bg]
  refine⟨cH n Zaa,by show o.l.length<=_;omega,?_⟩
  show o.l=_;rw[S,range_succ,List.filterMap_append,map_append];simp[I]
 rintro⟨o,_⟩ ⟨rfl,Q,S⟩;unfold dJ.br;dsimp only;rw[ji,bu,bg];refine(bg _).2 ?_;rw[S,u];rfl
def Yq(t:Z4)(A:cz 200 bG)(L:aZ R')(f:Nat->X')(c:R')(o:Zg):Prop:=(o=.nil/\∀d,kR L f d->¬dP d c)\/(Cons t A o.l/\dP o.l c/\(∀d,kR L f d->dP d c->dP d o.l)/\(∃d,kR L f d/\dP d c)/\∀e,(∀d,kR L f d->dP d c->dP d e)->dP o.l e)
theorem EY(hS:Small t)(r:VT t)(hM:fR t (bQ t) A)(B:ec t A L)(h5:L.length<=5000)(E:ins x.l=L)(aw:x.truth=tb)(hx:ze L (lT x.index))(aJ:tb.l.length=L.length):
 Wp (dL x) λout=>out.l.length=L.length/\∀(i:Nat)c,L[i]?=some c->∃o,out.l[i]?=some o/\Yq t A L (gR tb) c o:=by
 have V:=r.few;have aI:=r.ok.one;have ax:x.l.l.length=L.length:=by rw[<-E,jT]
 unfold dL;have ay:len x.l=(L.length:Int):=by simp only[len,ax]
 rw[ay,show o_ (L.length:Int) (Sl.nil:Zg)=some (.row (replicate L.length Sl.nil))from by unfold o_;rw[if_pos ⟨Zaa,Zaa⟩];rfl,ζb]
 unfold dL.W1;refine eS L.length (λm(q:Zb×Int)=>q.2=(m:Int)/\q.1.l.length=L.length/\(∀(j:Nat)c,j<m->L[j]?=some c->∃o,q.1.l[j]?=some o/\Yq t A L (gR tb) c o)/\∀j:Nat,m<=j->j<L.length->q.1.l[j]?=some .nil)
  ⟨rfl,by simp[Sl.l],λj c Q=>absurd Q Zaa,λj _ Q=>by
   show(replicate L.length (Sl.nil:Zg))[j]?=_;rw[List.getElem?_replicate,if_pos Q]⟩ ?_ ?_
 .rintro i ⟨out,_⟩ S ⟨rfl,g1,g2,g3⟩;simp only at g1 g2 g3;have J:=ζd S;have F:=(B.mem _).1 (getElem_mem S);unfold dL.br;dsimp only;rw[decide_eq_true (show(i:Int)<(L.length:Int)by omega),bD,aw,CT Zaa,ζb]
  cases H:gR tb i with
  |true=>
   have ai:i<x.l.l.length:=Zaa
   have X:x.l.l[i].l=L[i]:=by have:=u7 ai;rw[E,J]at this;exact(Option.some.inj this).symm
   have⟨o2,k1,k2⟩:=put_eq (s:=out) (p:=i) (x:=x.l.l[i]) Zaa
   rw[bD,bJ ai,ζb,oF Zaa,ζb,k1,ζb,bg]
   refine⟨cH i Zaa,by show o2.l.length=_;rw[k2,length_set];exact g1,λj c Q b=>?_,λj Q K=>?_⟩
   .show ∃o,o2.l[j]?=some o/\_;rw[k2,getElem?_set]
    by_cases e:i=j
    .subst e;rw[J]at b;cases b;exact⟨_,by rw[if_pos rfl,if_pos Zaa],.inr ⟨by rw[X];exact F,by rw[X];exact dP.refl _,λd _ hd=>by rw[X];exact hd,⟨_,⟨getElem_mem S,by rw[qe B.nodup J];exact H⟩,dP.refl _⟩,λe g=>by rw[X];exact g _ ⟨getElem_mem S,by rw[qe B.nodup J];exact H⟩ (dP.refl _)⟩⟩
    rw[if_neg e];exact g2 j c Zaa b
   show o2.l[j]?=_;rw[k2,getElem?_set,if_neg Zaa];exact g3 j Zaa K
  |false=>
   rw[bu,eM];refine(S4 hS r B E hx J).mono λl aj=>?_
   have ak:l.l.length=(zR L L[i]).length:=by rw[aj,List.length_map]
   have aK:l.l.length<=8:=by rw[ak];have:=List.length_filterMap_le (λp=>if bump L[i] p (-1)∈L then some (L.idxOf (bump L[i] p (-1)))else none) (range L[i].length);rw[List.length_range]at this;exact le_trans this (by rw[F.1.1];exact V)
   unfold dL.W2;refine eS l.l.length (λn(q:Zb×Int)=>q.2=(n:Int)/\q.1.l.length=L.length/\(∀j:Nat,j≠i->q.1.l[j]?=out.l[j]?)/\∃a,q.1.l[i]?=some a/\
    ((a=.nil/\∀(m' k:Nat)z,m'<n->(zR L L[i])[m']?=some k->L[k]?=some z->∀d,kR L (gR tb) d->¬dP d z)\/
     (Cons t A a.l/\dP a.l L[i]/\(∀(m' k:Nat)z,m'<n->(zR L L[i])[m']?=some k->L[k]?=some z->∀d,kR L (gR tb) d->dP d z->dP d a.l)/\(∃d,kR L (gR tb) d/\dP d L[i])/\∀e,(∀d,kR L (gR tb) d->dP d L[i]->dP d e)->dP a.l e)))
    ⟨rfl,g1,λ_ _=>rfl,.nil,g3 i (le_refl _) S,.inl ⟨rfl,λm' k z h=>absurd h Zaa⟩⟩ ?_ ?_
   .rintro n ⟨o,_⟩ hn ⟨rfl,e1,e2,a,e3,e4⟩;simp only at e1 e2 e3;have al:n<(zR L L[i]).length:=by omega
    have Y:=ζd al;have M:=getElem_mem al;generalize hk:(zR L L[i])[n]=k at Y M;have⟨p,hp,Z,aA⟩:=CM.1 M;have v:L[k]?=some (bump L[i] p (-1)):=by rw[aA];exact oA Z
    have aB:k<i:=Rp B J M;have aL:=(ζe.1 v).1;have⟨ok,aC,am⟩:=g2 k _ aB v;have an:idx l (n:Int)=some (k:Int):=by rw[iI,aj,getElem?_map,Y];rfl
    have T:o.l[k]?=some ok:=by rw[e2 k Zaa];exact aC
    unfold dL.bV;dsimp only;rw[jL hn,bD,an,ζb,oF Zaa,ζb]
    unfold Sl.get;rw[T,ζb];rcases am with⟨rfl,ao⟩|⟨y,u,aD,⟨de,aE,aF⟩,ap⟩
    .rw[show Sl.isNil (Sl.nil:Zg)=some true from rfl,ζb,bD,bg];refine⟨cH n Zaa,e1,e2,a,e3,?_⟩
     have O:∀(m' I:Nat)z,m'<n+1->¬m'<n->(zR L L[i])[m']?=some I->L[I]?=some z->z=bump L[i] p (-1):=λm' I z f G C D=>by obtain rfl:m'=n:=Zaa;rw[Y]at C;cases C;rw[v]at D;exact(Option.some.inj D).symm
     rcases e4 with⟨U,W⟩|⟨U,W,b⟩
     .refine .inl ⟨U,λm' I z f C D d hd=>?_⟩
      by_cases G:m'<n
      .exact W m' I z G C D d hd
      rw[O m' I z f G C D];exact ao d hd
     refine .inr ⟨U,W,λm' I z f C D d hd u=>?_,b.2⟩
     by_cases G:m'<n
     .exact b.1 m' I z G C D d hd u
     rw[O m' I z f G C D]at u;exact absurd u (ao d hd)
    have aq:0<ok.l.length:=by rw[y.1.1];omega
    have ar:=u.trans (AB hp);have O:∀(m' I:Nat)z,m'<n+1->¬m'<n->(zR L L[i])[m']?=some I->L[I]?=some z->∀d,kR L (gR tb) d->dP d z->dP d ok.l:=λm' I z f G C D d hd u=>by obtain rfl:m'=n:=Zaa;rw[Y]at C;cases C;rw[v]at D;cases D;exact aD d hd u
    rw[rE aq,ζb,bu,oF Zaa,ζb,e3,ζb]
    rcases e4 with⟨rfl,W⟩|⟨U,W,b⟩
    .have⟨o2,k1,k2⟩:=put_eq (s:=o) (p:=i) (x:=ok) Zaa
     rw[show Sl.isNil (Sl.nil:Zg)=some true from rfl,ζb,bD,ζb,T,ζb,ζb,k1,ζb,bg];refine⟨cH n Zaa,by show o2.l.length=_;rw[k2,length_set];exact e1,λj Q=>by show o2.l[j]?=_;rw[k2,getElem?_set,if_neg (Ne.symm Q)];exact e2 j Q,ok,by show o2.l[i]?=_;rw[k2,getElem?_set_self Zaa],.inr ⟨y,ar,λm' I z f C D d hd u=>?_,⟨de,aE,aF.trans (AB hp)⟩,λe g=>ap e λd hd u=>g d hd (u.trans (AB hp))⟩⟩
     by_cases G:m'<n
     .exact absurd u (W m' I z G C D d hd)
     exact O m' I z f G C D d hd u
    have N:a.l.length=ok.l.length:=U.1.1.trans y.1.1.symm;have P:=lU.of mT N;have⟨w1,w2,R⟩:=P.le_max N;rw[rE (show 0<a.l.length by omega),ζb,bu,ζb,e3,ζb,ζb,T,ζb,eM]
    refine(Ts N Zaa (by rw[U.1.1];exact V)).mono λw hw=>?_
    have⟨o2,k1,k2⟩:=put_eq (s:=o) (p:=i) (x:=w) Zaa
    rw[ζb,k1,ζb,bg];rw[<-hw]at P w1 w2 R;refine⟨cH n Zaa,by show o2.l.length=_;rw[k2,length_set];exact e1,λj Q=>by show o2.l[j]?=_;rw[k2,getElem?_set,if_neg (Ne.symm Q)];exact e2 j Q,w,by show o2.l[i]?=_;rw[k2,getElem?_set_self Zaa],.inr ⟨join_cons U y P,R _ W ar,λm' I z f C D d hd u=>?_,b.2.1,λe g=>R _ (b.2.2 e g) (ap e λd hd u=>g d hd (u.trans (AB hp)))⟩⟩
    by_cases G:m'<n
    .exact(b.1 m' I z G C D d hd u).trans w1
    exact(O m' I z f G C D d hd u).trans w2
   rintro⟨o,_⟩ ⟨rfl,e1,e2,a,e3,e4⟩;simp only at e1 e2 e3;unfold dL.bV;dsimp only;rw[ji,bu,bg];have au:∀d,kR L (gR tb) d->dP d L[i]->∃(m' k:Nat)(z:R'),m'<l.l.length/\(zR L L[i])[m']?=some k/\L[k]?=some z/\dP d z:=λd hd u=>by have hD:=(B.mem _).1 hd.1;have aG:d≠L[i]:=λh=>(by have G:=hd.2;rw[h,qe B.nodup J,H]at G;cases G);have⟨p,hp,Z,aH⟩:=Cx r hM B F L.length hD u aG Zaa;have hm:L.idxOf (bump L[i] p (-1))∈zR L L[i]:=CM.2 ⟨p,hp,Z,rfl⟩;have⟨m',av⟩:=getElem?_of_mem hm;exact⟨m',_,_,by rw[ak];exact(ζe.1 av).1,av,oA Z,aH⟩
   refine(bg _).2 ⟨cH i Zaa,e1,λj c Q b=>?_,λj Q K=>by show o.l[j]?=_;rw[e2 j Zaa];exact g3 j Zaa K⟩
   show∃o',o.l[j]?=some o'/\_
   by_cases e:j=i
   .subst e;rw[J]at b;cases b;refine⟨a,e3,?_⟩;rcases e4 with⟨U,W⟩|⟨U,W,b⟩
    .exact .inl ⟨U,λd hd u=>by
      have⟨m',k,z,f,G,C,D⟩:=au d hd u;exact W m' k z f G C d hd D⟩
    exact .inr ⟨U,W,λd hd u=>by
     have⟨m',k,z,f,G,C,D⟩:=au d hd u;exact b.1 m' k z f G C d hd D,b.2⟩
   rw[e2 j e];exact g2 j c Zaa b
 rintro⟨out,_⟩ ⟨rfl,g1,g2,-⟩;unfold dL.br;dsimp only;rw[decide_eq_false Zaa,bu,bg]
 exact(bg _).2 ⟨g1,λi c b=>g2 i c (ζe.1 b).1 b⟩
end
section
variable{t:Z4}
variable{A:cz 200 bG}{L:aZ R'}{tb:Sl X'}{x:ck}
theorem Hq(a:VT t):Cons t A (replicate t.procs.l.length 0):=((NX (t:=t) (A:=A) (z:=.row (replicate t.procs.l.length 0)) rfl _).1 (by simp[ins,Sl.l])).1
theorem Cp(f:VT t)(g:fR t (bQ t) A)(B:ec t A L){c d:R'}(b:L[0]?=some c)(D:Cons t A d):dP c d:=by have a:=(B.mem _).1 (mem_of_getElem? b);have u:c.length=d.length:=a.1.1.trans D.1.1.symm;have w:=lU.of oq u;obtain⟨C,z,-⟩:=w.le_min u;have G:=yW a D w;by_cases e:zipWith oq c d=c;rw[e]at z;exact z;obtain⟨p,I,J,-⟩:=Cx f g B a L.length G C e Zaa;exact absurd (Rp B b (CM.2 ⟨p,I,J,rfl⟩)) Zaa
theorem Cc(f:VT t)(g:fR t (bQ t) A)(B:ec t A L){i:Nat}{c d:R'}(hi:i+1=L.length)(b:L[i]?=some c)(D:Cons t A d):dP d c:=by have a:=(B.mem _).1 (mem_of_getElem? b);have u:c.length=d.length:=a.1.1.trans D.1.1.symm;have w:=lU.of mT u;obtain⟨z,C,-⟩:=w.le_max u;have G:=join_cons a D w;by_cases e:dP (zipWith mT c d) c;exact C.trans e;obtain⟨p,I,J,-⟩:=CS f g B a z (zipWith mT c d).sum.toNat G (dP.refl _) Zaa e;have:=EN B b (Ap.2 ⟨p,I,J,rfl⟩);omega
theorem Nq(a:VT t)(D:ec t A L)(G:x.truth=tb)(b:ze L (lT x.index))(J:tb.l.length=L.length){out:Zb}(B:out.l.length<=5000)
 (U:∀z∈out.l,z=.nil\/(Cons t A z.l/\∃d,kR L (gR tb) d)){i:Nat}{o:Zg}(hi:out.l[i]?=some o):
 ∃q,iU x out (i:Int)=some q/\((q=(.nil,15)/\∃d,kR L (gR tb) d)\/(q=(.nil,7)/\o=.nil)\/∃w,q=(w,0)/\w.l=o.l/\kR L (gR tb) o.l):=by
 have Y:=a.ok.one;have C:=IP a D G b J (out:=out) B (λz I=>(U z I).imp id λh=>h.1)
 have O:idx out (i:Int)=some o:=by rw[iI];exact hi
 unfold iU;rw[C,ζb]
 cases Q:out.l.any λz=> !z.l.isEmpty&& !gR tb (L.idxOf z.l)with
 |true=>
  have⟨z,I,S⟩:=List.any_eq_true.1 Q;refine⟨_,rfl,.inl ⟨rfl,?_⟩⟩;rcases U z I with rfl|h
  .simp[Sl.l]at S
  exact h.2
 |false=>
  rw[show(!false)=true from rfl,bD,O,ζb];rcases U o (mem_of_getElem? hi)with rfl|⟨u,-⟩
  .exact⟨_,rfl,.inr (.inl ⟨rfl,rfl⟩)⟩
  have B:0<o.l.length:=by rw[u.1.1];omega
  have⟨w,k1,k2⟩:=tU (c:=o) (by rw[u.1.1];have:=a.few;omega) B
  have T:=(D.mem _).2 u;have W:gR tb (L.idxOf o.l)=true:=by simp only[List.any_eq_false,ζh,Bool.not_eq_true,not_and,Bool.not_eq_false']at Q;have:=Q o (mem_of_getElem? hi);cases Z:gR tb (L.idxOf o.l)with|true=>rfl|false=>rw[Z]at this;cases X:o.l.isEmpty with|false=>rw[X]at this;simp at this|true=>rw[List.isEmpty_iff]at X;rw[X]at B;exact absurd B (by decide)
  rw[rE B,ζb,bu,ζb,k1];exact⟨_,rfl,.inr (.inr ⟨w,rfl,k2,T,W⟩)⟩
def Ext(L:aZ R')(f:Nat->X')(R:R'->R'->Prop)(q:Zg×Int):Prop:=(q=(.nil,15)/\∃d,kR L f d)\/(q=(.nil,7)/\∀d,¬kR L f d)\/∃w,q=(w,0)/\kR L f w.l/\∀d,kR L f d->R w.l d
theorem Tr(k:Small t)(c:VT t)(e:fR t (bQ t) A)(B:ec t A L)(g:L.length<=5000){p:T'}{r:Zb}(s:me t p=some (tb,0))(y:nC t=some (r,0))(l:ins r=L)(D:tb.l.length=L.length):
 ∃W Y,lq t p=some W/\iV t p=some Y/\Ext L (gR tb) dP W/\Ext L (gR tb) (λa b=>dP b a) Y:=by
 obtain⟨R,E,x,rfl,V,x2,X,x4⟩:=Lo c B g l tb;have S:oL t p=some (some x,0):=by unfold oL;rw[s,ζb];simp only;rw[show((0:Int)==0)=true from rfl,bD,y,ζb];simp only;rw[show((0:Int)==0)=true from rfl,bD,E];rfl
 have T:0<L.length:=List.length_pos_of_mem ((B.mem _).2 (Hq (A:=A) c));have I:ins x.l=L:=by rw[x2];exact l
 have Z:x.l.l.length=L.length:=by rw[<-I,jT]
 have⟨o1,a1,a2,a3⟩:=Ii k c e B g I X x4 D;have⟨o2,F,b2,m⟩:=EY k c e B g I X x4 D;have C:=ζd T;have G:=ζd (show L.length-1<L.length by omega)
 have⟨u,H,n⟩:=a3 0 _ C;have⟨v,K,q⟩:=m _ _ G;have M:∀z∈o1.l,z=.nil\/(Cons t A z.l/\∃d,kR L (gR tb) d):=λz j=>by have⟨i,hi⟩:=getElem?_of_mem j;have N:=(ζe.1 hi).1;have⟨o,g1,g2⟩:=a3 i _ (ζd (show i<L.length by omega));rw[hi]at g1;cases g1;rcases g2 with⟨h,_⟩|⟨h,-,-,⟨d,hd,-⟩,-⟩;exact .inl h;exact .inr ⟨h,d,hd⟩
 have P:∀z∈o2.l,z=.nil\/(Cons t A z.l/\∃d,kR L (gR tb) d):=λz j=>by have⟨i,hi⟩:=getElem?_of_mem j;have N:=(ζe.1 hi).1;have⟨o,g1,g2⟩:=m i _ (ζd (show i<L.length by omega));rw[hi]at g1;cases g1;rcases g2 with⟨h,_⟩|⟨h,-,-,⟨d,hd,-⟩,-⟩;exact .inl h;exact .inr ⟨h,d,hd⟩
 have⟨W,p1,p2⟩:=Nq c B X x4 D Zaa M H
 have⟨Y,r1,r2⟩:=Nq c B X x4 D Zaa P K
 refine⟨W,Y,?_,?_,?_,?_⟩
 .unfold lq;rw[S,ζb];simp only;rw[show((0:Int)==0)=true from rfl,bD,ζb,a1,ζb,show(0:Int)=((0:Nat):Int)from rfl,p1];rfl
 .unfold iV;rw[S,ζb];simp only;rw[show((0:Int)==0)=true from rfl,bD,ζb,F,ζb,show len x.l=(L.length:Int)from by simp only[len,Z],eF _ Zaa Zaa,show(L.length:Int)-1=((L.length-1:Nat):Int)from Zaa,r1];rfl
 .rcases p2 with⟨h,hd⟩|⟨h,rfl⟩|⟨w,h,U,J⟩
  .exact .inl ⟨h,hd⟩
  .rcases n with⟨-,O⟩|⟨f,-⟩
   .exact .inr (.inl ⟨h,λd hd=>O d hd (Cp c e B C ((B.mem _).1 hd.1))⟩)
   have:=f.1.1;have:=c.ok.one;simp[Sl.l]at *;omega
  rcases n with⟨rfl,O⟩|⟨f,-,Q,-⟩
  .exact absurd (Cp c e B C ((B.mem _).1 J.1)) (O _ J)
  exact .inr (.inr ⟨w,h,by rw[U];exact J,λd hd=>by rw[U];exact Q d hd (Cp c e B C ((B.mem _).1 hd.1))⟩)
 rcases r2 with⟨h,hd⟩|⟨h,rfl⟩|⟨w,h,U,J⟩
 .exact .inl ⟨h,hd⟩
 .rcases q with⟨-,O⟩|⟨f,-⟩
  .exact .inr (.inl ⟨h,λd hd=>O d hd (Cc c e B Zaa G ((B.mem _).1 hd.1))⟩)
  have:=f.1.1;have:=c.ok.one;simp[Sl.l]at *;omega
 rcases q with⟨rfl,O⟩|⟨f,-,Q,-⟩
 .exact absurd (Cc c e B Zaa G ((B.mem _).1 J.1)) (O _ J)
 exact .inr (.inr ⟨w,h,by rw[U];exact J,λd hd=>by rw[U];exact Q d hd (Cc c e B Zaa G ((B.mem _).1 hd.1))⟩)
end
theorem Da:∀{a b:R'},dP a b->a.sum<=b.sum/\(a.sum=b.sum->a=b)
 |[],[],_=>⟨Int.le_refl _,λ_=>rfl⟩|[],_::_,h=>nomatch h.1
 |_::_,[],h=>nomatch h.1
 |x::a,y::b,h=>by have f:=h.2 0 x y rfl rfl;have⟨g,w⟩:=Da (a:=a) (b:=b) ⟨by simpa using h.1,λp u v c d=>h.2 (p+1) u v c d⟩;simp only[sum_cons];refine⟨Zaa,λe=>?_⟩;have:x=y:=Zaa;rw[this,w Zaa]
theorem J8{α:Type}(P:α->Prop)(g:α->Nat):∀(n:Nat)(a:α),P a->g a<=n->∃m,P m/\∀b,P b->g m<=g b
 |0,a,h,D=>⟨a,h,λb _=>Zaa⟩|n+1,a,h,D=>by by_cases e:∃b,P b/\g b<g a;have⟨b,B,G⟩:=e;exact J8 P g n b B Zaa;exact⟨a,h,λb B=>byContradiction λc=>e ⟨b,B,Zaa⟩⟩
section
variable{t:Z4}{A:cz 200 bG}{L:aZ R'}{tb:Sl X'}{x:ck}
def Kd(L:aZ R')(f:Nat->X')(g:Int->Int->Int):Prop:=∀a b,kR L f a->kR L f b->kR L f (zipWith g a b)
theorem MZ(a:VT t)(D:ec t A L)(J:x.truth=tb)(d:ze L (lT x.index))(U:tb.l.length=L.length){out:Zb}(B:out.l.length<=5000)
 (W:∀z∈out.l,z=.nil\/Cons t A z.l){i:Nat}{o:Zg}(hi:out.l[i]?=some o):
 ∃q,iU x out (i:Int)=some q/\(q.2=15↔∃z∈out.l,Cons t A z.l/\gR tb (L.idxOf z.l)=false):=by
 have T:=a.ok.one;have O:=IP a D J d U (out:=out) B W;have Q:idx out (i:Int)=some o:=by rw[iI];exact hi
 have S:∀z:Zg,Cons t A z.l->z.l.isEmpty=false:=λz b=>by cases X:z.l.isEmpty with|false=>rfl|true=>have:=b.1.1;rw[List.isEmpty_iff]at X;rw[X]at this;simp only[length_nil]at this;omega
 unfold iU;rw[O,ζb]
 cases Y:out.l.any λz=> !z.l.isEmpty&& !gR tb (L.idxOf z.l)with
 |true=>
  have⟨z,I,u⟩:=List.any_eq_true.1 Y;rw[ζh,Bool.not_eq_true',Bool.not_eq_true']at u;refine⟨_,rfl,λ_=>⟨z,I,?_,u.2⟩,λ_=>rfl⟩
  rcases W z I with rfl|h
  .exact absurd u.1 (by simp[Sl.l])
  exact h
 |false=>
  have C:¬∃z∈out.l,Cons t A z.l/\gR tb (L.idxOf z.l)=false:=by rintro⟨z,I,b,Z⟩;have:=List.any_eq_false.1 Y z I;rw[S z b,Z]at this;exact this rfl
  rw[show(!false)=true from rfl,bD,Q,ζb];rcases W o (mem_of_getElem? hi)with rfl|G
  .exact⟨_,rfl,λh=>absurd h Zab,λh=>absurd h C⟩
  have B:0<o.l.length:=by rw[G.1.1];omega
  have⟨w,k1,k2⟩:=tU (c:=o) (by rw[G.1.1];have:=a.few;omega) B
  rw[rE B,ζb,bu,ζb,k1];exact⟨_,rfl,λh=>absurd h Zab,λh=>absurd h C⟩
theorem Nz{f:Nat->X'}{d:R'}(h:d∈L)(B:f (L.idxOf d)=false):¬kR L f d:=λk=>by rw[k.2]at B;cases B
theorem Xj(k:VT t)(B:ec t A L){out:Zb}(s:out.l.length=L.length)
 (h:∀(i:Nat)c,L[i]?=some c->∃o,out.l[i]?=some o/\Zr t A L (gR tb) c o):
 (∃z∈out.l,Cons t A z.l/\gR tb (L.idxOf z.l)=false)↔¬Kd L (gR tb) oq:=by
 have v:=k.ok.one;have u:∀{a b},kR L (gR tb) a->kR L (gR tb) b->a.length=b.length:=λD G=>((B.mem _).1 D.1).1.1.trans ((B.mem _).1 G.1).1.1.symm
 constructor
 .rintro⟨z,I,f,U⟩ hM;have⟨i,hi⟩:=getElem?_of_mem I;have x:=(ζe.1 hi).1;have⟨o,g1,g2⟩:=h i _ (ζd (show i<L.length by omega))
  rw[hi]at g1;cases g1;rcases g2 with⟨e,-⟩|⟨-,J,w,⟨d,hd,W⟩,X⟩
  .rw[e]at f;have:=f.1.1;rw[show(Sl.nil:Zg).l=[]from rfl,length_nil]at this;omega
  have⟨m,⟨C,O⟩,Q⟩:=J8 (λd=>kR L (gR tb) d/\dP L[i] d) (λd=>d.sum.toNat) d.sum.toNat d ⟨hd,W⟩ (le_refl _)
  have Y:dP m z.l:=X m λe Z l=>by have I:=lU.of oq (u C Z);have⟨S,T,g⟩:=I.le_min (u C Z);have j:=hM m e C Z;have:=Q _ ⟨j,g _ O l⟩;have⟨y,n⟩:=Da S;have p1:=((B.mem _).1 j.1).1.sum.1;rw[n Zaa]at T;exact T
  have:=dP.same Y (w m C O);exact Nz ((B.mem _).2 f) U (this▸C)
 intro p;refine byContradiction λq=>p λa b D G=>?_
 have I:=lU.of oq (u D G);have⟨S,T,g⟩:=I.le_min (u D G);have f:=yW ((B.mem _).1 D.1) ((B.mem _).1 G.1) I;have C:=(B.mem _).2 f;have⟨o,g1,g2⟩:=h _ _ (oA C);rcases g2 with⟨-,e⟩|⟨r,J,w,-⟩
 .exact absurd S (e a D)
 have:=dP.same J (g _ (w a D S) (w b G T));refine⟨C,?_⟩
 cases U:gR tb (L.idxOf (zipWith oq a b))with
 |true=>rfl|false=>exact absurd ⟨o,mem_of_getElem? g1,r,by rw[<-this];exact U⟩ q
theorem WY(n:VT t)(B:ec t A L){out:Zb}(y:out.l.length=L.length)
 (h:∀(i:Nat)c,L[i]?=some c->∃o,out.l[i]?=some o/\Yq t A L (gR tb) c o):
 (∃z∈out.l,Cons t A z.l/\gR tb (L.idxOf z.l)=false)↔¬Kd L (gR tb) mT:=by
 have E:=n.ok.one;have u:∀{a b},kR L (gR tb) a->kR L (gR tb) b->a.length=b.length:=λD I=>((B.mem _).1 D.1).1.1.trans ((B.mem _).1 I.1).1.1.symm
 constructor
 .rintro⟨z,J,f,W⟩ hM;have⟨i,hi⟩:=getElem?_of_mem J;have F:=(ζe.1 hi).1;have⟨o,g1,g2⟩:=h i _ (ζd (show i<L.length by omega))
  rw[hi]at g1;cases g1;rcases g2 with⟨e,-⟩|⟨-,O,w,⟨d,hd,X⟩,Y⟩
  .rw[e]at f;have:=f.1.1;rw[show(Sl.nil:Zg).l=[]from rfl,length_nil]at this;omega
  have Q:∀d,kR L (gR tb) d->dP d L[i]->d.sum<=L[i].sum:=λd _ p=>(Da p).1
  have⟨m,⟨C,G⟩,S⟩:=J8 (λd=>kR L (gR tb) d/\dP d L[i]) (λd=>(L[i].sum-d.sum).toNat) _ d ⟨hd,X⟩ (le_refl _)
  have Z:dP z.l m:=Y m λe g q=>by have J:=lU.of mT (u C g);have⟨T,U,j⟩:=J.le_max (u C g);have k:=hM m e C g;have l:=j _ G q;have:=S _ ⟨k,l⟩;have⟨H,r⟩:=Da T;have p1:=Q _ k l;have p2:=Q _ C G;rw[<-r Zaa]at U;exact U
  have:=dP.same (w m C G) Z;exact Nz ((B.mem _).2 f) W (this▸C)
 intro s;refine byContradiction λv=>s λa b D I=>?_
 have J:=lU.of mT (u D I);have⟨T,U,j⟩:=J.le_max (u D I);have f:=join_cons ((B.mem _).1 D.1) ((B.mem _).1 I.1) J;have C:=(B.mem _).2 f;have⟨o,g1,g2⟩:=h _ _ (oA C);rcases g2 with⟨-,e⟩|⟨x,O,w,-⟩
 .exact absurd T (e a D)
 have:=dP.same O (j _ (w a D T) (w b I U));refine⟨C,?_⟩
 cases W:gR tb (L.idxOf (zipWith mT a b))with
 |true=>rfl|false=>exact absurd ⟨o,mem_of_getElem? g1,x,by rw[this];exact W⟩ v
theorem Uo(b:Small t)(a:VT t)(c:fR t (bQ t) A)(B:ec t A L)(W:L.length<=5000){p:T'}{r:Zb}(e:me t p=some (tb,0))(Y:nC t=some (r,0))(d:ins r=L)(D:tb.l.length=L.length):
 ∃J U,lq t p=some J/\iV t p=some U/\(J.2=15↔¬Kd L (gR tb) oq)/\(U.2=15↔¬Kd L (gR tb) mT):=by
 obtain⟨m,X,x,rfl,n,x2,I,x4⟩:=Lo a B W d tb;have C:oL t p=some (some x,0):=by unfold oL;rw[e,ζb];simp only;rw[show((0:Int)==0)=true from rfl,bD,Y,ζb];simp only;rw[show((0:Int)==0)=true from rfl,bD,X];rfl
 have G:0<L.length:=List.length_pos_of_mem ((B.mem _).2 (Hq (A:=A) a));have w:ins x.l=L:=by rw[x2];exact d
 have O:x.l.l.length=L.length:=by rw[<-w,jT]
 have⟨o1,a1,a2,a3⟩:=Ii b a c B W w I x4 D;have⟨o2,Z,f,Q⟩:=EY b a c B W w I x4 D;obtain⟨u,g,-⟩:=a3 0 _ (ζd G);obtain⟨v,j,-⟩:=Q _ _ (ζd (show L.length-1<L.length by omega))
 have k:∀z∈o1.l,z=.nil\/Cons t A z.l:=λz S=>by have⟨i,hi⟩:=getElem?_of_mem S;have T:=(ζe.1 hi).1;have⟨o,g1,g2⟩:=a3 i _ (ζd (show i<L.length by omega));rw[hi]at g1;cases g1;exact g2.imp (λh=>h.1) λh=>h.1
 have l:∀z∈o2.l,z=.nil\/Cons t A z.l:=λz S=>by have⟨i,hi⟩:=getElem?_of_mem S;have T:=(ζe.1 hi).1;have⟨o,g1,g2⟩:=Q i _ (ζd (show i<L.length by omega));rw[hi]at g1;cases g1;exact g2.imp (λh=>h.1) λh=>h.1
 have⟨J,p1,p2⟩:=MZ a B I x4 D Zaa k g
 have⟨U,r1,r2⟩:=MZ a B I x4 D Zaa l j
 refine⟨J,U,?_,?_,p2.trans (Xj a B a2 a3),r2.trans (WY a B f Q)⟩
 .unfold lq;rw[C,ζb];simp only;rw[show((0:Int)==0)=true from rfl,bD,ζb,a1,ζb,show(0:Int)=((0:Nat):Int)from rfl,p1];rfl
 unfold iV;rw[C,ζb];simp only;rw[show((0:Int)==0)=true from rfl,bD,ζb,Z,ζb,show len x.l=(L.length:Int)from by simp only[len,O],eF _ Zaa Zaa,show(L.length:Int)-1=((L.length-1:Nat):Int)from Zaa,r1];rfl
end
section
variable{t:Z4}{A:cz 200 bG}
theorem YO{α:Type}{n:Nat}(z:α)(h:n<=2147483648):o_ (n:Int) z=some (.row (replicate n z)):=by unfold o_;rw[if_pos Zaa];simp
theorem MO(b:Small t)(d:cI t=some true)(e:VT t){m k:Nat}{P:bW}(a:t.procs.l[m]?=some P)(f:k<=P.events.l.length):
 ∃c l,NA t m k P c l/\∀q,eO t m k q=cW ⟨t,c,l⟩ q:=by
 have w:=(ζe.1 a).1;have u:=b.2 P (mem_of_getElem? a);have g:=b.1;have⟨x,J,z⟩:=LB (xG.of e.ok a) u.2.1 u.1 u.2.2.2.2 f;have⟨c,B,C⟩:=put_eq (s:=(.row (replicate t.procs.l.length (0:Int)):Zg)) (p:=m) (x:=(k:Int)) (by simpa[Sl.l]using w)
 have⟨l,D,G⟩:=put_eq (s:=(.row (replicate t.procs.l.length (Sl.nil:Zg)):Zb)) (p:=m) (x:=x) (by simpa[Sl.l]using w)
 have I:sM t m k=some (x,0):=by unfold sM;rw[d,ζb,bD,decide_eq_false (show¬(m:Int)<0 by omega),bu,decide_eq_false (show¬(m:Int)>=len t.procs by simp only[len];omega),ζb,bu,decide_eq_false (show¬(k:Int)<0 by omega),ζb,bu,iI,a,ζb,decide_eq_false (show¬(k:Int)>len P.events by simp only[len];omega),ζb,bu,ζb,J];rfl
 refine⟨c,l,⟨b,d,e,a,f,by rw[C];exact getElem?_set_self (by simpa[Sl.l]using w),x,by rw[G];exact getElem?_set_self (by simpa[Sl.l]using w),z⟩,λq=>?_⟩
 unfold eO;rw[show len t.procs=((t.procs.l.length:Nat):Int)from rfl,YO (0:Int) Zaa,YO (Sl.nil:Zg) Zaa,ζb,ζb,oF (by simpa[Sl.l]using w),ζb,B,ζb,I,ζb,oF (by simpa[Sl.l]using w),ζb]
 simp only;rw[D,ζb];cases cW ⟨t,c,l⟩ q<;>rfl
theorem Li.loc{c:Zg}{l:Zb}(h:Li t A c l){m:Nat}{P:bW}{a:Int}(b:t.procs.l[m]?=some P)(B:c.l[m]?=some a):NA t m a.toNat P c l:=by have⟨a0,a1⟩:=h.hC.1.2 m a P B b;exact⟨h.hS,h.hv,h.hV,b,Zaa,by rw[B];congr 1;omega,h.vals m P a b B⟩
theorem ZE{p:T'}(B:nh p=true)(a:oJ t p)(b:lC p.kind=2):nT p 2=some 0:=by unfold nT;rw[Ls B a,b];rfl
theorem Qs(b:Small t)(d:cI t=some true)(e:VT t)(f:fR t (bQ t) A){m:Nat}{P:bW}(g:t.procs.l[m]?=some P){q:T'}(i:oJ t q)(G:9<=q.kind)(hd:q.dp<=20)(J:q.gA (qP (m:Int))=true){c:Zg}(h:Cons t A c.l){a:Int}(U:c.l[m]?=some a):
 ∃l x,gq t c=some (l,0)/\Li t A c l/\cW ⟨t,c,l⟩ q=some x/\eO t m a.toNat q=some x:=by
 have⟨⟨l,z⟩,j,w,I,B⟩:=U0 b d e f h;simp only at w I B;subst w;have C:Li t A c l:=⟨b,d,e,f,h,B⟩;have D:=C.loc g U;have⟨c',Q,u,L⟩:=MO b d e g D.hk;have⟨x,O,x2⟩:=HI D u q i G hd J 100000 Zaa
 exact⟨l,x,j,C,O,by rw[L];exact x2⟩
theorem KN(b:Small t)(G:(bQ t).length<1073741824){p:T'}(D:p.Sm)(B k:Int):
 ∃e,sy t B k p=some e/\(e=0->jE t p=some 0/\cI t=some true/\VT t/\nh p=true/\oJ t p/\lC p.kind=2/\p.gA (qP B)=true/\∃(m j:Nat)(P:bW),B=m/\k=j/\t.procs.l[m]?=some P/\j<=P.events.l.length):=by
 have⟨e,c,C⟩:=Ys b G D;unfold sy;rw[c,ζb]
 by_cases u:e=0
 .subst u;have⟨d,f,w,a⟩:=C rfl;have hd:=w;simp only[nh,ζh,decide_eq_true_eq]at hd;rw[show((0:Int)==0)=true from rfl,bD]
  by_cases r1:B<0
  .rw[decide_eq_true r1];exact⟨2,rfl,λh=>by cases h⟩
  rw[decide_eq_false r1]
  by_cases r2:B>=len t.procs
  .rw[decide_eq_true r2];exact⟨2,rfl,λh=>by cases h⟩
  rw[decide_eq_false r2]
  by_cases r3:k<0
  .rw[decide_eq_true r3];exact⟨2,rfl,λh=>by cases h⟩
  rw[decide_eq_false r3];obtain⟨m,rfl⟩:∃m:Nat,B=m:=⟨B.toNat,Zaa⟩
  have z:m<t.procs.l.length:=by simp only[len]at r2;omega
  rw[bJ z,ζb]
  by_cases r4:k>len t.procs.l[m].events
  .rw[decide_eq_true r4];exact⟨2,rfl,λh=>by cases h⟩
  rw[decide_eq_false r4];simp only[bu,ζb];unfold nT;rw[Ls w a,ζb];simp only;rw[show((0:Int)==0)=true from rfl,bD]
  cases g:lC p.kind==2 with
  |false=>exact⟨14,rfl,λh=>by cases h⟩|true=>
   rw[show(!true)=false from rfl,ζb,bu,ζb,show((0:Int)==0)=true from rfl,bD,
    show e_ (m:Int) p=some (p.gA (qP (m:Int)))from WX m p D a.f 100000 Zaa,ζb]
   cases I:p.gA (qP (m:Int))with
   |false=>exact⟨15,rfl,λh=>by cases h⟩|true=>exact⟨0,rfl,λ_=>⟨trivial,d,f,w,a,by simpa using g,rfl,m,k.toNat,t.procs.l[m],rfl,Zaa,ζd z,by simp only[len]at r4;omega⟩⟩
 rw[show(e==0)=false from by simpa using u,bu]
 exact⟨e,rfl,λh=>absurd h u⟩
theorem VQ(d:Small t)(h:cI t=some true)(i:VT t){m:Nat}{P:bW}(e:t.procs.l[m]?=some P){q:T'}(j:oJ t q)(J:9<=q.kind)(hd:q.dp<=20)(U:q.gA (qP (m:Int))=true):
 ∃o,eN.W1 m (Sl.nil:Sl X') (wrap .i64 ((len P.events)+1)) 0 t q=some (o,0)/\o.l.length=P.events.l.length+1/\∀k:Nat,k<=P.events.l.length->∃x,o.l[k]?=some x/\eO t m k q=some x:=by
 have w:=d.2 P (mem_of_getElem? e)
 let g:Nat->X':=λk=>(eO t m k q).getD false
 have f:∀k:Nat,k<=P.events.l.length->eO t m k q=some (g k):=λk a=>by have⟨c,l,C,I⟩:=MO d h i e a;obtain⟨x,L,-⟩:=HI C C q j J hd U 100000 Zaa;have b:eO t m k q=some x:=(by rw[I];exact L);show eO t m k q=some ((eO t m k q).getD false);rw[b];rfl
 have D:=w.1;have p1:Wp (eN.W1 m (Sl.nil:Sl X') (wrap .i64 ((len P.events)+1)) 0 t q) λr=>r.1.l=(range (P.events.l.length+1)).map g/\r.2=0:=by unfold eN.W1;rw[show len P.events+1=((P.events.l.length+1:Nat):Int)from rfl,eF _ Zaa Zaa];refine eS (P.events.l.length+1) (λn s=>s.2=(n:Int)/\s.1.l=(range n).map g) ⟨rfl,rfl⟩ ?_ ?_;rintro n ⟨o,_⟩ O ⟨e1,e2⟩;simp only at e1 e2;subst e1;have Q:o.l.length=n:=(by rw[e2];simp);unfold eN.br;rw[decide_eq_true Zaa,bD,f n Zaa,ζb];have u:gm o (g n)=some (.row (o.l++[g n])):=(by unfold gm;rw[if_pos Zaa]);rw[u,ζb,bg,cH n Zaa];refine⟨rfl,?_⟩;show o.l++[g n]=_;rw[e2,range_succ,map_append];rfl;rintro⟨o,_⟩ ⟨e1,e2⟩;simp only at e1 e2;subst e1;unfold eN.br;rw[decide_eq_false Zaa,bu,bg];exact(bg _).2 ⟨e2,rfl⟩
 have⟨⟨o,z⟩,b,B,G⟩:=p1;simp only at B G;subst G;refine⟨o,b,by rw[B];simp,λk a=>⟨g k,?_,f k a⟩⟩
 rw[B,getElem?_map,List.getElem?_range Zaa];rfl
end
abbrev vg(a b:Pred):Pred:=⟨16,0,0,0,ByteArray.empty,Sl.row [a,b]⟩
theorem ye(f:T'->X')(a b:T'):(vg a b).gA f=(f (vg a b)&&(a.gA f&&b.gA f)):=by rw[Pred.kH];simp[Sl.l,Bool.and_true]
theorem YP(a b:T'):fB (vg a b)=true:=by unfold fB;rw[Hj (c:=2) (show(1:Int)<=16 by omega) (show(16:Int)<22 by omega) rfl];show E3 (vg a b) 2=true;simp[E3,M7,len,Sl.l]
theorem Tp{t:Z4}{a b:T'}(B:oJ t a)(D:oJ t b)(G:lC a.kind=2)(J:lC b.kind=2):oJ t (vg a b):=by refine⟨?_,?_,?_,?_⟩;show(vg a b).gA _=true;rw[ye];exact and_eq_true_iff.2 ⟨rfl,and_eq_true_iff.2 ⟨B.sm,D.sm⟩⟩;rw[ye];exact and_eq_true_iff.2 ⟨YP a b,and_eq_true_iff.2 ⟨B.f,D.f⟩⟩;rw[ye];exact and_eq_true_iff.2 ⟨rfl,and_eq_true_iff.2 ⟨B.r,D.r⟩⟩;rw[ye];refine and_eq_true_iff.2 ⟨?_,and_eq_true_iff.2 ⟨B.y,D.y⟩⟩;show([a,b].all λk=>lC k.kind==y_ 16)=true;simp only[all_cons,all_nil,G,J];rfl
theorem NH(a b:T'):(vg a b).dp=1+max a.dp b.dp:=by show 1+max a.dp (max b.dp 0)=_;omega
abbrev Bg(t:Trace)(n:Nat)(q:Pred):a_ Bool:=dU (λr(z:Trace×Pred)=>cN z.1 z.2 r) n (t,q)
theorem Xk{t:Z4}(e:Small t)(g:cI t=some true)(B:Ok t)(p:T'):oJ t p->p.dp<=20->∃b,∀n,p.dp<=n->Bg t n p=some b:=by induction p using Pred.ind with|h p C=>intro a hd;have D:=p.sW;by_cases c:p.kind<=8;obtain⟨i,ok,g1,-⟩:=Nk e g B p a c 100000 Zaa;refine⟨ok,λn G=>?_⟩;unfold Bg;rw[fZ Zaa];show cN t p _=_;unfold cN;rw[uC,ζb,show(lC p.kind==1)=true from by simp[lC,c],bD,show cZ t p=_ from g1];rfl;refine⟨!(p.l.l.any λq=> !((Bg t q.dp q).getD false)),λn G=>?_⟩;have d:∀q∈p.l.l,Bg t (n-1) q=some ((Bg t q.dp q).getD false):=λq u=>(by have⟨b,w⟩:=C q u (a.uW u) (by have:=Pred.mK u;omega);rw[w _ (by have:=Pred.mK u;omega),w _ (le_refl _)];rfl);unfold Bg at d⊢;rw[fZ Zaa];show cN t p (dU (λr(z:Z4×T')=>cN z.1 z.2 r) (n-1))=_;generalize dU (λr(z:Z4×T')=>cN z.1 z.2 r) (n-1)=R at d⊢;unfold cN;rw[uC,ζb,show(lC p.kind==1)=false from by simp[lC,c],bu,t_ _ a.sm.len,tP (f:=λq=> !((dU (λr(z:Z4×T')=>cN z.1 z.2 r) q.dp (t,q)).getD false)) (λq u=>by unfold lK;rw[d q u];rfl)];rfl
section
variable{t:Z4}{A:cz 200 bG}{L:aZ R'}{tb:Sl X'}
structure CJ(t:Trace)(A:cz 200 bG)(g:Nat->Int->Bool)(k:Nat)(p:Pred):Prop where
 c:oJ t p
 k2:lC p.kind=2
 tm:p.gA (λq=> !wT q)=true
 sm:∀n,p.dp<=n->Bg t n p=some true
 tr:∀(c:Sl Int)l,Cons t A c.l->gq t c=some (l,0)->∃x,(∀n,p.dp<=n->zM n ⟨t,c,l⟩ p=some x)/\(x=true↔∀(i:Nat)(a:Int),i<k->c.l[i]?=some a->g i a=true)
theorem CJ.step{g:Nat->Int->X'}{k:Nat}{p q:T'}(h:CJ t A g k p)(c:oJ t q)(k2:lC q.kind=2)(m:q.gA (λq=> !wT q)=true)(o:∀n,q.dp<=n->Bg t n q=some true)
 (tr:∀(c:Zg)l,Cons t A c.l->gq t c=some (l,0)->∃x,(∀n,q.dp<=n->zM n ⟨t,c,l⟩ q=some x)/\(x=true↔∀a:Int,c.l[k]?=some a->g k a=true)):CJ t A g (k+1) (vg p q):=by
 refine⟨Tp h.c c h.k2 k2,rfl,?_,λn w=>?_,λd l j B=>?_⟩
 .rw[ye];exact and_eq_true_iff.2 ⟨rfl,and_eq_true_iff.2 ⟨h.tm,m⟩⟩
 .rw[NH]at w;unfold Bg;rw[fZ Zaa]
  have e1:=h.sm (n-1) Zaa
  have e2:=o (n-1) Zaa
  unfold Bg at e1 e2;show cN t (vg p q) (dU (λr(z:Z4×T')=>cN z.1 z.2 r) (n-1))=some true
  generalize dU (λr(z:Z4×T')=>cN z.1 z.2 r) (n-1)=R at e1 e2⊢
  unfold cN;rw[uC,ζb,show(lC (vg p q).kind==1)=false from rfl,bu,t_ _ (by show 2<1073741824;omega),tP (f:=λ_=>false) (λz b=>by
   unfold lK;rcases mem_cons.1 b with rfl|b
   .rw[e1];rfl
   rw[List.mem_singleton.1 b,e2];rfl)]
  rfl
 have⟨x,C,x2⟩:=h.tr d l j B;have⟨y,D,G⟩:=tr d l j B;refine⟨x&&y,λn w=>?_,?_⟩
 .rw[NH]at w;unfold zM;rw[fZ Zaa]
  have e1:=C (n-1) Zaa
  have e2:=D (n-1) Zaa
  unfold zM at e1 e2;show cm ⟨t,d,l⟩ (vg p q) (dU (λr(z:bS×T')=>cm z.1 z.2 r) (n-1))=_
  generalize dU (λr(z:bS×T')=>cm z.1 z.2 r) (n-1)=R at e1 e2⊢
  unfold cm cW.J1;rw[show idx (vg p q).l 0=some p from rfl,show idx (vg p q).l 1=some q from rfl];simp only[ζb,e1,e2];cases x<;>rfl
 rw[ζh,x2,G];constructor
 .rintro⟨h1,I⟩ i a hi u
  by_cases e:i<k
  .exact h1 i a e u
  obtain rfl:i=k:=Zaa
  exact I a u
 intro h;exact⟨λi a hi u=>h i a Zaa u,λa u=>h k a Zaa u⟩
theorem Qc(g:Small t)(Y:(bQ t).length<1073741824)(E:fR t (bQ t) A){p:T'}(D:p.Sm){m:Nat}{o:Sl X'×Int}(h:eN t m p=some o)(F:o.2=0):
 oJ t p/\lC p.kind=2/\p.gA (λq=> !wT q)=true/\(∀n,p.dp<=n->Bg t n p=some true)/\∃f:Int->X',
  ∀(c:Zg)l,Cons t A c.l->gq t c=some (l,0)->∃x,(∀n,p.dp<=n->zM n ⟨t,c,l⟩ p=some x)/\(x=true↔∀a:Int,c.l[m]?=some a->f a=true):=by
 have⟨e,Z,H⟩:=KN g Y D m 0;unfold eN at h;rw[Z,ζb]at h
 by_cases G:e=0
 .subst G;obtain⟨u,k,s,S,d,i,T,m',j,P,M,-,v,-⟩:=H rfl;obtain rfl:m=m':=by omega
  have hd:=S;simp only[nh,ζh,decide_eq_true_eq]at hd;have U:9<=p.kind:=by unfold lC at i;by_cases h:p.kind<=8;rw[if_pos h]at i;cases i;omega
  have w:=QJ _ p T;have⟨b,W⟩:=Xk g k s.ok p d Zaa
  have I:∀n,p.dp<=n->Bg t n p=some true:=by
   unfold jE p9 at u;rw[k,ζb,bD,u9 D,ζb,S,show(!true)=false from rfl,ζb,bu,yd g D Zaa,ζb,d.r,bD,zl D Zaa,ζb,d.y,bD,
    show dU (λr(z:Z4×T')=>cN z.1 z.2 r) 100000 (t,p)=some b from W 100000 Zaa,ζb]at u
   cases b with|true=>exact W|false=>exact absurd (Option.some.inj u) (by decide)
  refine⟨d,i,w,I,λa=>(eO t m a.toNat p).getD false,λc l y J=>?_⟩
  have L:m<c.l.length:=by rw[y.1.1];exact(ζe.1 v).1
  have O:=ζd L;have⟨N,x,g1,K,g2,g3⟩:=Qs g k s E v d U Zaa T y O
  rw[J]at g1;cases g1;have⟨X,B⟩:=Ue K p d U Zaa w
  have Q:X=x:=by have:=B 100000 Zaa;unfold cW at g2;unfold zM at this;rw[this]at g2;exact Option.some.inj g2
  subst Q;refine⟨X,B,?_⟩;constructor
  .intro h a C;rw[O]at C;cases C;show(eO t m _ p).getD false=true;rw[g3];exact h
  intro h;have:(eO t m (c.l[m]).toNat p).getD false=true:=h _ O;rw[g3]at this;exact this
 rw[show(e==0)=false from by simpa using G,bu]at h
 cases h;exact absurd F G
theorem Sz(m:Small t)(hN:(bQ t).length<1073741824)(q:cI t=some true)(y:VT t)(E:fR t (bQ t) A){g:Nat->Int->X'}{k:Nat}{p:T'}(h:CJ t A g k p)(J:nh p=true):
 gY t p=some (.nil,.nil,16)\/∃r tb L,gY t p=some (r,tb,0)/\ec t A L/\L.length<=5000/\nC t=some (r,0)/\ins r=L/\tb.l.length=L.length/\
  ∀d∈L,(gR tb (L.idxOf d)=true↔∀(i:Nat)(a:Int),i<k->d[i]?=some a->g i a=true):=by
 have hd:=J;simp only[nh,ζh,decide_eq_true_eq]at hd;have I:=h.c.sm;have O:jE t p=some 0:=by
  unfold jE p9;rw[q,ζb,bD,u9 I,ζb,J,show(!true)=false from rfl,ζb,bu,yd m I Zaa,ζb,h.c.r,bD,zl I Zaa,ζb,h.c.y,bD,
   show dU (λr(z:Z4×T')=>cN z.1 z.2 r) 100000 (t,p)=some true from h.sm 100000 Zaa,ζb]
  rfl
 unfold gY;rw[O,ζb,show((0:Int)==0)=true from rfl,bD,ZE J h.c h.k2,ζb,show((0:Int)==0)=true from rfl,bD,KX I,J,h.tm,ζb,show(true&& !true)=false from rfl,bu];rcases F9 m q y E with⟨L,r,s,B,Q,C,-,f,-⟩|⟨C,-⟩
 .have S:nC t=some (r,0):=by unfold nC;rw[C];rfl
  rw[S,ζb];simp only;rw[show((0:Int)==0)=true from rfl,bD];have T:r.l.length=L.length:=by rw[<-f,jT]
  have D:∀c∈r.l,∃l b,gq t c=some (l,0)/\cW ⟨t,c,l⟩ p=some b/\(b=true↔∀(i:Nat)(a:Int),i<k->c.l[i]?=some a->g i a=true):=λc U=>by have F:Cons t A c.l:=(B.mem _).1 (by rw[<-f];exact qM.2 ⟨c,U,rfl⟩);have⟨⟨l,z⟩,H,K,h3,h4⟩:=U0 m q y E F;simp only at K h3 h4;subst K;have⟨b,W,X⟩:=h.tr c l F H;exact⟨l,b,H,W 100000 Zaa,X⟩
  have p1:Wp (gY.W1 r (Sl.nil:Sl X') r (len r) 0 t p) λw=>w.1=r/\w.2.1.l.length=r.l.length/\w.2.2=0/\
   ∀(j:Nat)(c:Zg),j<r.l.length->r.l[j]?=some c->∃b,w.2.1.l[j]?=some b/\(b=true↔∀(i:Nat)(a:Int),i<k->c.l[i]?=some a->g i a=true):=by
   unfold gY.W1;refine eS r.l.length (λn s=>s.2=(n:Int)/\s.1.l.length=n/\∀(j:Nat)(c:Zg),j<n->r.l[j]?=some c->∃b,s.1.l[j]?=some b/\(b=true↔∀(i:Nat)(a:Int),i<k->c.l[i]?=some a->g i a=true))
    ⟨rfl,rfl,λj c M=>absurd M Zaa⟩ ?_ ?_
   .rintro n ⟨o,_⟩ u ⟨e1,e2,e3⟩;simp only at e1 e2 e3;subst e1;have⟨l,b,x1,x2,x3⟩:=D _ (getElem_mem u);have⟨o2,k1,k2⟩:=nM (s:=o) (x:=b) Zaa
    unfold gY.br;rw[jL u,bD,bJ u,ζb,x1,ζb];simp only;rw[show((0:Int)==0)=true from rfl,bD,x2,ζb,k1,ζb,bg,cH n Zaa]
    refine⟨rfl,by show o2.l.length=_;rw[k2];simp[e2],λj c M v=>?_⟩
    show∃b,o2.l[j]?=some b/\_;rw[k2]
    by_cases e:j<n
    .rw[List.getElem?_append_left Zaa];exact e3 j c e v
    obtain rfl:j=n:=Zaa
    rw[ζd u]at v;cases v;exact⟨b,by rw[<-e2];simp,x3⟩
   rintro⟨o,_⟩ ⟨e1,e2,e3⟩;simp only at e1 e2 e3;subst e1;unfold gY.br;rw[ji,bu,bg];exact(bg _).2 ⟨rfl,e2,rfl,e3⟩
  have⟨⟨w,tb,e⟩,w1,N,P,R,V⟩:=p1;simp only at N P R V;subst N R;refine .inr ⟨_,tb,L,w1,B,Q,rfl,f,by rw[P,T],λd Y=>?_⟩
  have hi:=oA Y;have aa:=(ζe.1 hi).1;have G:L.idxOf d<w.l.length:=Zaa
  have Z:(w.l[L.idxOf d]).l=d:=by have:=u7 G;rw[f,hi]at this;exact(Option.some.inj this).symm
  have⟨b,b1,b2⟩:=V _ _ G (ζd G);rw[Z]at b2;have W:gR tb (L.idxOf d)=b:=by have:=CT (l:=tb) (i:=L.idxOf d) Zaa;rw[iI,b1]at this;exact(Option.some.inj this).symm
  rw[W];exact b2
 have S:nC t=some (.nil,16):=by unfold nC;rw[C];rfl
 rw[S];exact .inl rfl
theorem LA(B:ec t A L){f:Nat->X'}{g:Nat->Int->X'}{k:Nat}(D:∀d∈L,(f (L.idxOf d)=true↔∀(i:Nat)(a:Int),i<k->d[i]?=some a->g i a=true)){m:Int->Int->Int}(J:∀x y,m x y=x\/m x y=y)
 (c:∀a b,Cons t A a->Cons t A b->Cons t A (zipWith m a b)):Kd L f m:=λa b w C=>by
 have G:a.length=b.length:=((B.mem _).1 w.1).1.1.trans ((B.mem _).1 C.1).1.1.symm;have u:=(B.mem _).2 (c a b ((B.mem _).1 w.1) ((B.mem _).1 C.1));refine⟨u,(D _ u).2 λi z hi I=>?_⟩
 obtain⟨x,y,O,Q,rfl⟩:=(lU.of m G).at_ G I;rcases J x y with e|e
 .rw[e];exact(D _ w.1).1 w.2 i x hi O
 rw[e];exact(D _ C.1).1 C.2 i y hi Q
theorem NW(b:Small t)(B:(bQ t).length<1073741824){p:T'}(D:p.Sm)(m:Int):∃o,eN t m p=some o:=by
 have⟨e,w,z⟩:=KN b B D m 0;unfold eN;rw[w,ζb];by_cases u:e=0;subst u;obtain⟨-,d,f,C,g,a,G,m,j,P,rfl,-,c,-⟩:=z rfl;have hd:=C;simp only[nh,ζh,decide_eq_true_eq]at hd;have I:9<=p.kind:=by unfold lC at a;by_cases h:p.kind<=8;rw[if_pos h]at a;cases a;omega
 obtain⟨o,g1,-,-⟩:=VQ b d f c g I Zaa G;exact⟨_,by rw[show((0:Int)==0)=true from rfl,bD,iI,c,ζb];exact g1⟩;rw[show(e==0)=false from by simpa using u,bu];exact⟨_,rfl⟩
theorem size_le{p:T'}(B:p.Sm):∃s:Int,nF p=some s/\(s<=100->p.sz<=100):=by refine⟨_,by unfold nF kj;rw[show dU (λr(z:T'×Int)=>iO z.1 z.2 r) 100000 (p,(200:Int))=_ from count_eq p B 100000 200 Zaa Zaa];rfl,λh=>?_⟩;split at h<;>omega
theorem TJ{p:T'}(B:p.Sm):∃s:Int,jl p 40=some s/\(s<=20->p.dp<=20):=by refine⟨_,by unfold jl;rw[show dU (λr(z:T'×Int)=>iN z.1 z.2 r) 100000 (p,(40:Int))=_ from SL p B 100000 40 Zaa Zaa],λh=>?_⟩;omega
theorem Sh(e:Small t)(U:(bQ t).length<1073741824){B:Sl T'}(hl:B.l.length<1073741824)(hs:∀q∈B.l,q.Sm):dn t B=some true:=by
 have⟨v,j,ad,ae⟩:=BV e U;unfold dn;rw[show yb=some true from rfl,ζb,bD,ad,ζb];cases v with|false=>rfl|true=>
 rw[bD,ζb];have F:=ae rfl;obtain⟨A,-,-,H⟩:=F.msgs;cases decide (len B>len t.procs)with|true=>rfl|false=>
 rw[bu,ζb];by_cases K:B.l.length=0;rw[show(len B==0)=true from by simp[len,K]];rfl;have K:0<B.l.length:=Zaa;rw[show(len B==0)=false from beq_eq_false_iff_ne.2 (by simp only[len];omega),bu,show idx B 0=some B.l[0]from bJ (i:=0) K,ζb];have ok:Wp (some true) λb=>b=true:=(bg _).2 rfl;have key:Wp (dn.W1 B (len B) 0 t B.l[0]) λb=>b=true:=by
  unfold dn.W1;refine eS B.l.length (λn(s:Int×T')=>s.1=(n:Int)/\(n=0->s.2=B.l[0])/\(0<n->∃g,CJ t A g n s.2)) ⟨rfl,λ_=>rfl,λh=>absurd h Zaa⟩ ?_ ?_;rintro n ⟨_,p⟩ M ⟨rfl,e1,e2⟩;simp only at e1 e2;have I:=hs _ (getElem_mem M);obtain⟨b,m,D,-⟩:=Es 100000 B.l[n] I 100 0 Zaa Zaa Zaa Zaa Zaa;have⟨o,P⟩:=NW e U I (n:Int);unfold dn.br;dsimp only;rw[jL M,bD,bJ M,ζb,show tc B.l[n] 100 0=some (b,m)from D,ζb];simp only;cases b with|false=>rw[bu,bg];exact ok|true=>rw[bD,P,ζb];by_cases h:o.2=0;have⟨R,V,f3,f4,f,f5⟩:=Qc e U H I P h;rw[show(o.2==0)=true from by rw[h];rfl,bD];by_cases hz:n=0;subst hz;rw[show decide (((0:Nat):Int)>0)=false from rfl,bu,bg];refine⟨rfl,λh=>absurd h Zaa,λ_=>⟨λ_ a=>f a,?_⟩⟩;have hp:p=B.l[0]:=e1 rfl;show CJ t A _ 1 p;rw[hp];refine⟨R,V,f3,f4,λc l k j=>?_⟩;have⟨x,Q,x2⟩:=f5 c l k j;exact⟨x,Q,x2.trans ⟨λh i a hi u=>h a (by rw[show i=0 from Zaa]at u;exact u),λh a u=>h 0 a Zaa u⟩⟩;have⟨g,E⟩:=e2 Zaa;rw[show decide ((n:Int)>0)=true from decide_eq_true Zaa,bD,bg];refine⟨cH n Zaa,λh=>absurd h Zaa,λ_=>⟨λi a=>if i=n then f a else g i a,?_⟩⟩;have af:CJ t A (λi a=>if i=n then f a else g i a) n p:=⟨E.c,E.k2,E.tm,E.sm,λc l k j=>by have⟨x,Q,x2⟩:=E.tr c l k j;exact⟨x,Q,x2.trans ⟨λh i a hi u=>by rw[if_neg Zaa];exact h i a hi u,λh i a hi u=>by have:=h i a hi u;rwa [if_neg Zaa]at this⟩⟩⟩;exact af.step R V f3 f4 λc l k j=>(by have⟨x,Q,x2⟩:=f5 c l k j;exact⟨x,Q,x2.trans ⟨λh a u=>by rw[if_pos rfl];exact h a u,λh a u=>by have:=h a u;rwa [if_pos rfl]at this⟩⟩);rw[show(o.2==0)=false from beq_eq_false_iff_ne.2 h,bu,bg];exact ok
  rintro⟨_,p⟩ ⟨rfl,-,e2⟩;simp only at e2;have⟨g,h⟩:=e2 K;unfold dn.br;dsimp only;rw[ji,bu,bg];have⟨fw,ah⟩:=aaA e U h.c.sm;have⟨s,s1,s2⟩:=size_le h.c.sm;have⟨d,d1,d2⟩:=TJ h.c.sm;show Wp ((uO t p).bind _) _;rw[ah,ζb];cases fw with|false=>exact ok|true=>
   rw[bD,s1,ζb,ζb];by_cases S:s>100;rw[decide_eq_true S];exact ok;rw[decide_eq_false S,bu,d1,ζb,ζb];by_cases jy:d>20;rw[decide_eq_true jy];exact ok;rw[decide_eq_false jy,bu];have hf:nh p=true:=by simp only[nh,ζh,decide_eq_true_eq];exact⟨by have:=s2 Zaa;omega,d2 Zaa,h.c.f⟩
   have fin:∀G J:Zg×Int,lq t p=some G->iV t p=some J->G.2=J.2->(G.2=0\/G.2=7\/G.2=16)->Wp ((lq t p).bind λz=>(iV t p).bind λT=>
    (bl (z.2==T.2) ((bl (z.2==0) (some true) (some (z.2==7)):a_ X').bind λW=>(bl W (some true) (some (z.2==16)):a_ X').bind λX=>some X) (some false):a_ X').bind λY=>some Y) λb=>b=true:=λG J h1 h2 h3 h4=>by
    rw[h1,ζb,h2,ζb,h3,show(J.2==J.2)=true from Zab,bD]
    rw[h3]at h4;rcases h4 with h|h|h<;>rw[h]<;>exact ok
   rcases Sz e U j F H h hf with N|⟨r,tb,L,N,C,h5,hL,hr,Z,aa⟩;have ab:oL t p=some (none,16):=by unfold oL me;rw[N];rfl
   exact fin (.nil,16) (.nil,16) (by unfold lq;rw[ab];rfl) (by unfold iV;rw[ab];rfl) rfl (.inr (.inr rfl));have hT:me t p=some (tb,0):=by unfold me;rw[N];rfl
   have⟨G,J,g1,g2,g3,g4⟩:=Tr e F H C h5 hT hL hr Z;have⟨aj,ak,k1,k2,k3,k4⟩:=Uo e F H C h5 hT hL hr Z;rw[g1]at k1;cases k1;rw[g2]at k2;cases k2;have m1:Kd L (gR tb) oq:=LA C aa (λx y=>(uD x y).imp (λh=>h.1) λh=>h.1) λa b u D=>yW u D (lU.of oq (u.1.1.trans D.1.1.symm));have m2:Kd L (gR tb) mT:=LA C aa (λx y=>(uy x y).imp (λh=>h.1) λh=>h.1) λa b u D=>join_cons u D (lU.of mT (u.1.1.trans D.1.1.symm));have n1:G.2≠15:=λh=>k3.1 h m1;have n2:J.2≠15:=λh=>k4.1 h m2;rcases g3 with⟨rfl,-⟩|⟨rfl,O⟩|⟨w,rfl,hw,-⟩;exact absurd rfl n1;rcases g4 with⟨rfl,-⟩|⟨rfl,-⟩|⟨w',-,ai,-⟩;exact absurd rfl n2;exact fin _ _ g1 g2 rfl (.inr (.inl rfl));exact absurd ai (O _);rcases g4 with⟨rfl,-⟩|⟨-,O⟩|⟨w',rfl,-,-⟩;exact absurd rfl n2;exact absurd hw (O _);exact fin _ _ g1 g2 rfl (.inl rfl)
 obtain⟨b,D,rfl⟩:=key;exact D
end
end Go.VE
namespace Go.VE
theorem zW{α:Type}[cD α]{x:α}:∀{l:aZ α},x∈l->cD.wt x<=(l.map cD.wt).sum
 |y::l,h=>by simp only[map_cons,sum_cons];rcases mem_cons.1 h with rfl|h;omega;have:=zW h;omega
theorem wq{α:Type}[cD α](h:∀x:α,1<=cD.wt x):∀(l:aZ α),l.length<=(l.map cD.wt).sum
 |[]=>le_refl _|y::l=>by simp only[map_cons,sum_cons,length_cons];have:=wq h l;have:=h y;omega
theorem A0{α:Type}[cD α](s:Sl α):cD.wt s=(s.l.map cD.wt).sum+1:=rfl
theorem DH(p:Int):∀(es:aZ WF)(j:Int),(jD p j es).length=es.length
 |[],_=>rfl|_::es,j=>by simp only[jD,length_cons,DH p es]
theorem JW:∀(ps:aZ bW)(i:Int),(gG i ps).length<=(ps.map cD.wt).sum
 |[],_=>le_refl _|p::ps,i=>by simp only[gG,ζi,DH,map_cons,sum_cons];have a:=JW ps (i+1);have u:=wq (α:=WF) (λx=>le_add_left ..) p.events.l;have w:cD.wt p=cD.wt p.name+cD.wt p.vars+cD.wt p.events+1:=rfl;have z:=A0 p.events;omega
theorem SJ{t:Z4}(h:cD.wt t<=1048576):Small t/\(bQ t).length<1073741824:=by have b:cD.wt t=cD.wt t.procs+1:=rfl;have c:=A0 t.procs;have B:=wq (α:=bW) (λx=>le_add_left ..) t.procs.l;have C:=JW t.procs.l 0;refine⟨⟨Zaa,λp u=>?_⟩,by show(gG 0 t.procs.l).length<_;omega⟩;have D:=zW u;have G:cD.wt p=cD.wt p.name+cD.wt p.vars+cD.wt p.events+1:=rfl;have I:=A0 p.events;have J:=A0 p.vars;have L:=wq (α:=WF) (λx=>le_add_left ..) p.events.l;have O:=wq (α:=Var) (λx=>le_add_left ..) p.vars.l;have w:cD.wt p.name=p.name.size+1:=rfl;refine⟨Zaa,Zaa,Zaa,λv a=>?_,λe z=>?_⟩;have k1:=zW a;have k2:cD.wt v=cD.wt v.name+cD.wt v.init_+1:=rfl;have k3:cD.wt v.name=v.name.size+1:=rfl;omega;have k1:=zW z;have k2:cD.wt e=cD.wt e.kind+cD.wt e.peer+cD.wt e.message+cD.wt e.time+cD.wt e.assign+1:=rfl;have k3:=A0 e.assign;have k4:=wq (α:=Assign) (λx=>le_add_left ..) e.assign.l;omega
theorem aax(p:T'):cD.wt p<=1048576->p.Sm:=by induction p using Pred.ind with|h p w=>intro h;have a:∃m,cD.wt p=m+Pred.U5 p.l+1:=(by cases p;exact⟨_,rfl⟩);have⟨m,a⟩:=a;have b:=Pred.wtE p.l;have z:=A0 p.l;have B:=wq (α:=T') (λx=>by cases x;exact le_add_left ..) p.l.l;unfold Pred.Sm;rw[p.kH,ζh,all_eq_true];refine⟨decide_eq_true Zaa,λq u=>w q u ?_⟩;have:=zW u;omega
theorem NV(s:Sl T')(h:cD.wt s<=1048576):s.l.length<1073741824/\∀q∈s.l,q.Sm:=by have w:=A0 s;have z:=wq (α:=T') (λx=>by cases x;exact le_add_left ..) s.l;refine⟨Zaa,λq u=>aax q ?_⟩;have:=zW u;omega
end Go.VE
namespace Go.Proofs.YtcknkjopbmmcjaaGreatDoor
open Go.ChangeShapes Go.WideShapes Go.ChangeAt Go.RowKit Go.VE
theorem own:ownKnob Tryz.prog.godebug=none:=by kernel_rfl
theorem kids:Kids Tryz.prog (·<Tryz.prog.types.size):=kids_rows Zag Zag
theorem full:∀t e,t<Tryz.prog.types.size->Tryz.prog.underlying t=some (.slice e)->0<Tryz.prog.cellsOf e:=slices_full_of Tryz.prog Zag
theorem zQ{H:Type}:∀l:aZ (DataW H),Rows.uptoBulkAll l=(l.map Rows.uptoBulk).sum
 |[]=>by simp[Rows.uptoBulkAll]|d::r=>by simp[Rows.uptoBulkAll,zQ r]
theorem P4{H:Type}:uG (H:=H) Rows.uptoBulk where
 lit l:=by cases l<;>simp[Rows.uptoBulk]
 str s:=by simp[Rows.uptoBulk]
 nil:=by simp[Rows.uptoBulk]
 slice es u:=by rw[Rows.uptoBulk,zQ,zQ];omega
 agg ps:=by rw[Rows.uptoBulk,zQ];exact le_refl _
theorem Po:Tryz.prog.globalNamed "antecede/predtype.parts" =some 0:=by kernel_rfl
theorem TU:(Tryz.prog.globals[0]?).map (·.type)=some 165:=by kernel_rfl
theorem table{W:World}(h:laidMetH Tryz.prog Rows.linearConjunctionsUptoRow.laid W):Lib.TabIs Tryz.prog W "antecede/predtype.parts" .i64 FY:=Lib.tabIs_of_head (rest:=[]) Po TU Tryz.underlying165 Tryz.underlying3 Zag Zag h
theorem aaK{W:World}(h:laidMetH Tryz.prog Rows.linearConjunctionsUptoRow.laid W):wh (snap W):=λg cs a=>by
 change(if Nat.beq g 0 then some (FY.map (V.int .i64))else none)=some cs at a;split at a;next u=>cases a;have:g=0:=Nat.eq_of_beq_eq_true u;subst this;exact SX (λi hi=>(table h).cell Po i hi) (by decide)
 cases a
set_option maxRecDepth 100000 in
theorem MJ(H:Type)(enc:W'×V'->H)(W:World)(base:Nat)(args:Array V')(ds a:aZ (DataW H))(before:aZ MemPlace)
 (B:∀(j:Nat)t v,Tryz.f3.params[j]?=some t->args[j]?=some v->Value.okWide Tryz.prog W .any base t v)
 (D:DataW.Whole enc Tryz.prog Tryz.f3.params.toList Rows.linearConjunctionsSpec.vars false W args.toList ds a before)(b:Rows.uptoSmall H (ds++a)=true)(U:laidMetH Tryz.prog Rows.linearConjunctionsUptoRow.laid W):
 Calls Tryz.prog 3 args W λe G=>∃v,e=.returned v/\Rows.linearConjunctionsSpec.post enc Tryz.prog Tryz.f3 false true false false W args v G:=by
 have u:=D;obtain⟨p,q,z,c,rfl,Q,S⟩:=D;have I:DataW.TrodAll enc Tryz.prog W 0 (λ_=>true) true Tryz.f3.params.toList args.toList ds p:=z
 rw[Tryz.params3]at I B;obtain⟨J,T,X,Y,E,F,C,rfl,rfl,d,Z⟩:=trodAll_cons I;obtain⟨L,K,g,M,p1,N,rfl,rfl,rfl,h,r1⟩:=trodAll_cons Z;obtain⟨rfl,rfl,rfl⟩:=trodAll_nil r1;obtain rfl:args=#[J,L]:=by cases args;simp_all
 obtain⟨rfl,rfl⟩:=trodVars_none c;have⟨a0,i,k0,k⟩:=Reads.Vo (t:=24) (α:=VE.Trace) B 0 rfl rfl d;have⟨a1,l,k1,m⟩:=Reads.Vo (t:=25) (α:=Sl T') B 1 rfl rfl h;have R:cD.wt a0+cD.wt a1<=1048576:=by have c0:=k Rows.uptoBulk P4;have c1:=m Rows.uptoBulk P4;have O:Rows.uptoBulkAll ([X,g]++[])<=1048576:=of_decide_eq_true b;rw[zQ]at O;simp only[List.append_nil,map_cons,List.map_nil,sum_cons,List.sum_nil]at O;omega
 have⟨n,o⟩:=SJ (t:=a0) Zaa
 have s:jA cL 3 [VE.enc a0,VE.enc a1]=some [.bool true]:=by have x:(dn a0 a1).bind (λr:X'=>some [V.bool r])=some [.bool true]:=(by rw[Sh n o (NV a1 Zaa).1 (NV a1 Zaa).2];rfl);exact(wM a0 a1).F.h () _ x
 have:=Oc (P:=Tryz.prog) Jt CO calls (f:=3) (xs:=[VE.enc a0,VE.enc a1]) (by simp[V.cM,V.good,kC]) s (w:=W) (args:=#[J,L]) (aaK U) (c6.cons i (c6.cons l .nil))
 refine this.mono λe G⟨y,A⟩=>?_
 subst y;exact⟨_,rfl,QM kids full (by rw[Tryz.params3];decide) rfl rfl rfl Tryz.underlying4 u A⟩
def CA(os:Os):World:=
 {World.holding Tryz.prog os ⟨#[],#[],[]⟩with heap:=(World.holding Tryz.prog os ⟨#[],#[],[]⟩).heap.modify 0 fun
  |.cells _ t frozen=>.cells (FY.map (Value.int .i64)).toArray t frozen|o=>o}
theorem Tq(os:Os):laidMet Tryz.prog Rows.linearConjunctionsUptoRow.laid ((CA os).forCall (λ_ _=>0) ⟨#[],#[.agg #[.slice none 0 0],.slice none 0 0],[]⟩).memory:=laidMet_of_run' 8 Zag Zag
theorem Uu(os:Os){H:Type}(enc:W'×V'->H):∃places,DataW.whole enc Tryz.prog ((CA os).forCall (λ_ _=>0) ⟨#[],#[.agg #[.slice none 0 0],.slice none 0 0],[]⟩).memory Tryz.f3.params.toList Rows.linearConjunctionsSpec.vars false (#[.agg #[.slice none 0 0],.slice none 0 0]:Array V').toList 8=some ([.agg [.nil],.nil],[],places):=⟨[],by kernel_rfl⟩
set_option maxRecDepth 100000 in
theorem QA(os:Os)(B:os.Started)(H:Type)(enc:W'×V'->H)(F:Stop.Interp):
 ReturnsInHanded {} Tryz.checked os 3 .any ((Rows.OpenSpec.upto Rows.linearConjunctionsSpec).preRow enc Tryz.prog Tryz.f3 Rows.linearConjunctionsUptoRow.domain false Rows.linearConjunctionsUptoRow.laid) (((Rows.OpenSpec.upto Rows.linearConjunctionsSpec).at F).post enc Tryz.prog Tryz.f3 false true false false):=by
 have⟨places,z⟩:=Uu os enc;refine returnsInHanded_of_row (C:=Tryz.checked) (s:=Rows.OpenSpec.upto Rows.linearConjunctionsSpec) own B Zag Tryz.func3
  (witness_row_at (enc:=enc) (C:=Tryz.checked) false (CA os) #[.agg #[.slice none 0 0],.slice none 0 0] rfl Zag Zag Zag
   (OpenSpec.preRow_of_cond 8 z Zag (λk a=>by cases a;kernel_rfl) Zag (Tq os))) ?_
 intro W base args ds b before w D _ u _ G _ _;exact MJ H enc W base args ds b before w D (u _ rfl) G
theorem WV:Rows.LinearConjunctionsUptoSaid:=
 OpenClaim.holds_of_cond 3 Tryz.f3 rfl rfl rfl rfl rfl rfl rfl ⟨rfl,rfl,rfl,rfl,rfl⟩ rfl rfl rfl rfl rfl Zag Tryz.func3 Zag
  (of_decide_eq_true Zag) (by unfold Func.isWrapper;first|(rw[if_pos (by decide+kernel)];kernel_rfl)|(rw[if_neg (by decide+kernel)];exact⟨rfl,rfl⟩))
  (λos u H enc _ F=>by rw[OpenClaim.pre_eq_preRow];exact QA os u H enc F)
theorem TH(f:Y')(fn:Func)(D:Tryz.pinned.checked.prog.funcNamed "antecede/antecedelaw32.LinearConjunctions" =some f)(B:Tryz.pinned.checked.prog.funcs[f]?=some fn):
 false=Tryz.pinned.checked.prog.looks []/\∀(j:Nat)t,fn.params[j]?=some t->Tryz.pinned.checked.prog.wantsStandIn t=false:=by
 obtain rfl:f=3:=Option.some.inj ((show Tryz.prog.funcNamed "antecede/antecedelaw32.LinearConjunctions" =some 3 by kernel_rfl).symm.trans D)|>.symm
 obtain rfl:fn=Tryz.f3:=(Option.some.inj (Tryz.func3.symm.trans B)).symm;refine⟨by kernel_rfl,λj t z=>?_⟩
 rw[Tryz.params3]at z;have C:t∈[24,25]:=by simpa using Array.mem_of_getElem? z
 have w:([24,25].all λu=> !Tryz.prog.wantsStandIn u)=true:=by kernel_rfl
 exact(show Tryz.prog.wantsStandIn t=false by simpa using all_eq_true.1 w t C)
theorem linearConjunctionsProved:Rows.LinearConjunctionsUptoCardSaid:=Claim7.holds_tied_plain_at .later [] _ _ _ _ WV (λ_ h=>by cases h) Zag (λ_ h=>by cases h) linearConjunctionsUpto_row_tie rfl ⟨rfl,rfl⟩ Zag rfl TH Zag
#print axioms linearConjunctionsProved
end Go.Proofs.YtcknkjopbmmcjaaGreatDoor
