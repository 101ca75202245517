/-
 LinearClass says true for all arguments that together are of bulk at most 1048576, and they read behind the call as they read before: for every such argument, without a condition.
-/
import Derived.Test.YtfjedefhlilglaaGreatDoorRows
import Derived.Test.YtfjedefhlilglaaGreatDoorCards
import Derived.Test.YtfjedefhlilglaaGreatDoorTie
import Derived.Deep.DeepHandedRow
import Derived.Test.YtfjedefhlilglaaGreatDoorK1
import Derived.Test.YtfjedefhlilglaaGreatDoorL1
set_option linter.all false
open List(all_cons all_eq_true any_cons any_eq_true ext_getElem? getElem?_eq_none getElem?_map getElem?_of_mem getElem?_set getElem?_set_self getElem_mem length_cons length_nil length_set map_append map_cons mem_append mem_cons mem_cons_of_mem mem_map mem_of_getElem? mem_range not_mem_nil range range_succ replicate sum_cons take_add_one take_length zipWith)
open Nat(le_add_left le_refl le_trans zero_le)
open Classical(byContradiction not_not)
open ByteArray(toList)
open Int(mul_comm zero_sub)
open Go.IntKind(signed wrap)
namespace Go.VE
theorem Zag{p:Prop}(h:p:=by kernel_rfl):p:=h
theorem tK{α:Type}{s:Sl α}(h:0<s.l.length):Sl.isNil s=some false:=by cases s with|nil=>exact absurd h (Nat.lt_irrefl 0)|emp=>exact absurd h (Nat.lt_irrefl 0)|row l=>rfl|part l=>rfl
theorem Wy(x y:Int):pn (Sl.row [x,y])=some (kN x y):=by
 have h:Wp (dD (Sl.row [x,y])) λm=>m=if y<x then y else x:=by unfold dD;rw[show decide (len (Sl.row [x,y])<1)=false from rfl,bC];unfold dD.J1;rw[show idx (Sl.row [x,y]) 0=some x from rfl,ζb];unfold dD.W2;refine eu 1 (λi(q:Int×Int)=>(i=0/\q=(x,1))\/(i=1/\q=(if y<x then y else x,2))) (.inl ⟨rfl,rfl⟩) ?_ ?_;rintro i ⟨m,k⟩ hi (⟨rfl,e⟩|⟨rfl,e⟩);cases e;unfold dD.bP;dsimp only;rw[show decide ((1:Int)<len (Sl.row [x,y]))=true from rfl,bE,show idx (Sl.row [x,y]) 1=some y from rfl,ζb,bg];exact .inr ⟨rfl,rfl⟩;omega;rintro⟨m,k⟩ (⟨h,_⟩|⟨_,e⟩);omega;cases e;unfold dD.bP;dsimp only;rw[show decide ((2:Int)<len (Sl.row [x,y]))=false from rfl,bC,bg];exact(bg _).2 rfl
 unfold pn;have⟨m,a,u⟩:=h;rw[a,u];unfold kN;grind
theorem VG{a b:Zg}(D:a.l.length=b.l.length)(g:0<a.l.length)(U:a.l.length<=8):Wp (d_ (Sl.row [a,b]) (λz=>pn z)) λo=>o.l=zipWith kN a.l b.l:=by
 have G:=kW.of kN D;unfold d_;have⟨d,l,u⟩:=u6 (c:=a) Zaa g;obtain⟨v,I,L⟩:∃v,fS (Sl.row [a,b]) (some 1) none=some v/\v.l=[b]:=y_ (Sl.row [a,b]) 1 (Nat.le_succ 1);rw[show idx (Sl.row [a,b]) 0=some a from rfl,ζb,l,ζb,I,ζb];unfold d_.W1;have f:len v=1:=Zac;have hi:idx v 0=some b:=by unfold idx;grind
 refine eu 1 (λi(q:Zg×Int)=>(i=0/\q=(d,0))\/(i=1/\q.1.l=zipWith kN a.l b.l/\q.2=1)) (.inl ⟨rfl,rfl⟩) ?_ ?_;rintro i ⟨o,k⟩ J (⟨rfl,e⟩|⟨rfl,-,-⟩);cases e;unfold d_.br;dsimp only;rw[f,show decide ((0:Int)<1)=true from rfl,bE,hi,ζb];unfold d_.W2;refine eu d.l.length (λn(q:Zg×Int)=>q.2=(n:Int)/\q.1.l.length=a.l.length/\∀j:Nat,q.1.l[j]?=if j<n then(zipWith kN a.l b.l)[j]?else a.l[j]?) ⟨rfl,by rw[u],λj=>Zac⟩ ?_ ?_;rintro n ⟨o,_⟩ O ⟨rfl,g1,g2⟩;simp only at g1 g2;have w:n<a.l.length:=by grind
 have B:n<b.l.length:=Zaa;unfold d_.bP;dsimp only;rw[show decide ((n:Int)<len d)=true from Zac,bE,o8 Zaa,ζb];unfold Sl.get;rw[g2 n,if_neg Zaa,ζd w,ζb,bJ B,ζb,Wy,ζb,ζb];have⟨o2,k1,k2⟩:=put_eq (s:=o) (p:=n) (x:=kN a.l[n] b.l[n]) Zaa;rw[k1,ζb,bg];refine⟨cE n Zaa,by show o2.l.length=_;simp_all,λj=>?_⟩;show o2.l[j]?=_;grind;rintro⟨o,_⟩ ⟨rfl,g1,g2⟩;simp only at g1 g2;unfold d_.bP;dsimp only;rw[iO,bC,bg];refine(bg _).2 (.inr ⟨rfl,ext_getElem? λj=>?_,rfl⟩);rw[g2 j];by_cases C:j<d.l.length;rw[if_pos C];rw[if_neg C,getElem?_eq_none (by rw[<-u];omega),getElem?_eq_none (by rw[G.1,<-u];omega)];omega;rintro⟨o,k⟩ (⟨h,_⟩|⟨_,e,e2⟩);cases h;simp only at e e2;subst e2;unfold d_.br;dsimp only;rw[f,show decide ((1:Int)<1)=false from rfl,bC,bg];exact(bg _).2 e
theorem dU.same{a b:ST}(h:dU a b)(k:dU b a):a=b:=by refine List.ext_getElem h.1 λj c u=>?_;have:=h.2 j _ _ (ζd c) (ζd u);have:=k.2 j _ _ (ζd u) (ζd c);omega
def j9(L:aZ ST)(f:Nat->X')(d:ST):Prop:=d∈L/\f (L.idxOf d)=true
section
variable{t:Z4}{A:cu 200 bF}{L:aZ ST}{tb:Sl X'}{x:b9}
def YD(t:Z4)(A:cu 200 bF)(L:aZ ST)(f:Nat->X')(c:ST)(o:Zg):Prop:=(o=.nil/\∀d,j9 L f d->¬dU c d)\/(Cons t A o.l/\dU c o.l/\(∀d,j9 L f d->dU c d->dU o.l d)/\(∃d,j9 L f d/\dU c d)/\∀e,(∀d,j9 L f d->dU c d->dU e d)->dU e o.l)
theorem zQ{c:ST}{p:Nat}(h:p<c.length):dU c (bump c p 1):=⟨vi.symm,λq x y w u=>by
 rw[xJ (ζd h)]at u
 grind⟩
theorem Qe(hS:Small t)(r:VT t)(hM:fU t (bS t) A)(B:eF t A L)(h5:L.length<=5000)(E:ins x.l=L)(av:x.truth=tb)(hx:AO L (lP x.index))(aH:tb.l.length=L.length):
 Wp (dO x) λout=>out.l.length=L.length/\∀(i:Nat)c,L[i]?=some c->∃o,out.l[i]?=some o/\YD t A L (gD tb) c o:=by
 have R:=r.few;have aG:=r.ok.one;have aw:x.l.l.length=L.length:=by rw[<-E,jG]
 unfold dO;have ax:len x.l=(L.length:Int):=by simp only[len,aw]
 rw[ax,show pe (L.length:Int) (Sl.nil:Zg)=some (.row (replicate L.length Sl.nil))from by unfold pe;rw[if_pos ⟨Zaa,Zaa⟩];rfl,ζb,eH _ Zaa Zaa]
 unfold dO.W1;refine eu L.length (λm(q:Zb×Int)=>q.2=(L.length:Int)-1-(m:Int)/\q.1.l.length=L.length/\(∀(j:Nat)c,L.length-m<=j->L[j]?=some c->∃o,q.1.l[j]?=some o/\YD t A L (gD tb) c o)/\∀j:Nat,j<L.length-m->q.1.l[j]?=some .nil)
  ⟨Zab,by simp[Sl.l],λj c Q b=>absurd (ζe.1 b).1 Zaa,λj Q=>by
   show(replicate L.length (Sl.nil:Zg))[j]?=_;rw[List.getElem?_replicate,if_pos Zaa]⟩ ?_ ?_
 .rintro m ⟨out,_⟩ hm ⟨rfl,g1,g2,g3⟩;simp only at g1 g2 g3;obtain⟨i,hi⟩:∃i:Nat,i+m+1=L.length:=⟨L.length-1-m,Zaa⟩
  have W:i<L.length:=Zaa
  have J:=ζd W;have F:=(B.mem _).1 (getElem_mem W);unfold dO.br;dsimp only;rw[show(L.length:Int)-1-(m:Int)=(i:Int)from Zaa,decide_eq_true (show(i:Int)>=0 by omega),bE,av,Cr Zaa,ζb,show(i:Int)-1=(L.length:Int)-1-((m+1:Nat):Int)from Zaa]
  cases H:gD tb i with
  |true=>
   have V:i<x.l.l.length:=Zaa
   have X:x.l.l[i].l=L[i]:=by have:=uv V;rw[E,J]at this;exact(Option.some.inj this).symm
   have⟨o2,k1,k2⟩:=put_eq (s:=out) (p:=i) (x:=x.l.l[i]) Zaa
   rw[bE,bJ V,ζb,o8 Zaa,ζb,k1,ζb,bg]
   refine⟨eH _ Zaa Zaa,by show o2.l.length=_;rw[k2,length_set];exact g1,λj c Q b=>?_,λj Q=>?_⟩
   .show ∃o,o2.l[j]?=some o/\_;rw[k2,getElem?_set]
    by_cases e:i=j
    .subst e;rw[J]at b;cases b;exact⟨_,by rw[if_pos rfl,if_pos Zaa],.inr ⟨by rw[X];exact F,by rw[X];exact dU.refl _,λd _ hd=>by rw[X];exact hd,⟨_,⟨getElem_mem W,by rw[ot B.nodup J];exact H⟩,dU.refl _⟩,λe g=>by rw[X];exact g _ ⟨getElem_mem W,by rw[ot B.nodup J];exact H⟩ (dU.refl _)⟩⟩
    rw[if_neg e];exact g2 j c Zaa b
   show o2.l[j]?=_;rw[k2,getElem?_set,if_neg Zaa];exact g3 j Zaa
  |false=>
   rw[bC,dY];refine(WO hS r B E hx J).mono λl ai=>?_
   have aj:l.l.length=(wP L L[i]).length:=by rw[ai,List.length_map]
   have aI:l.l.length<=8:=by rw[aj];have:=List.length_filterMap_le (λp=>if bump L[i] p 1∈L then some (L.idxOf (bump L[i] p 1))else none) (range L[i].length);rw[List.length_range]at this;exact le_trans this (by rw[F.1.1];exact R)
   unfold dO.W2;refine eu l.l.length (λn(q:Zb×Int)=>q.2=(n:Int)/\q.1.l.length=L.length/\(∀j:Nat,j≠i->q.1.l[j]?=out.l[j]?)/\∃a,q.1.l[i]?=some a/\
    ((a=.nil/\∀(m' k:Nat)z,m'<n->(wP L L[i])[m']?=some k->L[k]?=some z->∀d,j9 L (gD tb) d->¬dU z d)\/
     (Cons t A a.l/\dU L[i] a.l/\(∀(m' k:Nat)z,m'<n->(wP L L[i])[m']?=some k->L[k]?=some z->∀d,j9 L (gD tb) d->dU z d->dU a.l d)/\(∃d,j9 L (gD tb) d/\dU L[i] d)/\∀e,(∀d,j9 L (gD tb) d->dU L[i] d->dU e d)->dU e a.l)))
    ⟨rfl,g1,λ_ _=>rfl,.nil,g3 i Zaa,.inl ⟨rfl,λm' k z h=>absurd h Zaa⟩⟩ ?_ ?_
   .rintro n ⟨o,_⟩ hn ⟨rfl,e1,e2,a,e3,e4⟩;simp only at e1 e2 e3;have ak:n<(wP L L[i]).length:=by omega
    have Y:=ζd ak;have K:=getElem_mem ak;generalize hk:(wP L L[i])[n]=k at Y K;have⟨p,hp,Z,ay⟩:=CZ.1 K;have v:L[k]?=some (bump L[i] p 1):=by rw[ay];exact nW Z
    have aJ:i<k:=(Kb B J K).1;have aK:=(ζe.1 v).1;have⟨ok,aA,al⟩:=g2 k _ Zaa v
    have am:idx l (n:Int)=some (k:Int):=by rw[kG,ai,getElem?_map,Y];rfl
    have S:o.l[k]?=some ok:=by rw[e2 k Zaa];exact aA
    unfold dO.bP;dsimp only;rw[ja hn,bE,am,ζb,o8 Zaa,ζb]
    unfold Sl.get;rw[S,ζb];rcases al with⟨rfl,an⟩|⟨y,u,aB,⟨de,aC,aD⟩,ao⟩
    .rw[show Sl.isNil (Sl.nil:Zg)=some true from rfl,ζb,bE,bg];refine⟨cE n Zaa,e1,e2,a,e3,?_⟩
     have O:∀(m' I:Nat)z,m'<n+1->¬m'<n->(wP L L[i])[m']?=some I->L[I]?=some z->z=bump L[i] p 1:=λm' I z f G C D=>by obtain rfl:m'=n:=Zaa;rw[Y]at C;cases C;rw[v]at D;exact(Option.some.inj D).symm
     rcases e4 with⟨T,U⟩|⟨T,U,b⟩
     .refine .inl ⟨T,λm' I z f C D d hd=>?_⟩
      by_cases G:m'<n
      .exact U m' I z G C D d hd
      rw[O m' I z f G C D];exact an d hd
     refine .inr ⟨T,U,λm' I z f C D d hd u=>?_,b.2⟩
     by_cases G:m'<n
     .exact b.1 m' I z G C D d hd u
     rw[O m' I z f G C D]at u;exact absurd u (an d hd)
    have ap:0<ok.l.length:=by rw[y.1.1];omega
    have aq:=(zQ hp).trans u;have O:∀(m' I:Nat)z,m'<n+1->¬m'<n->(wP L L[i])[m']?=some I->L[I]?=some z->∀d,j9 L (gD tb) d->dU z d->dU ok.l d:=λm' I z f G C D d hd u=>by obtain rfl:m'=n:=Zaa;rw[Y]at C;cases C;rw[v]at D;cases D;exact aB d hd u
    rw[tK ap,ζb,bC,o8 Zaa,ζb,e3,ζb]
    rcases e4 with⟨rfl,U⟩|⟨T,U,b⟩
    .have⟨o2,k1,k2⟩:=put_eq (s:=o) (p:=i) (x:=ok) Zaa
     rw[show Sl.isNil (Sl.nil:Zg)=some true from rfl,ζb,bE,ζb,S,ζb,ζb,k1,ζb,bg];refine⟨cE n Zaa,by show o2.l.length=_;rw[k2,length_set];exact e1,λj Q=>by show o2.l[j]?=_;rw[k2,getElem?_set,if_neg (Ne.symm Q)];exact e2 j Q,ok,by show o2.l[i]?=_;rw[k2,getElem?_set_self Zaa],.inr ⟨y,aq,λm' I z f C D d hd u=>?_,⟨de,aC,(zQ hp).trans aD⟩,λe g=>ao e λd hd u=>g d hd ((zQ hp).trans u)⟩⟩
     by_cases G:m'<n
     .exact absurd u (U m' I z G C D d hd)
     exact O m' I z f G C D d hd u
    have M:a.l.length=ok.l.length:=T.1.1.trans y.1.1.symm;have N:=kW.of kN M;have⟨w1,w2,P⟩:=N.le_min M;rw[tK (show 0<a.l.length by omega),ζb,bC,ζb,e3,ζb,ζb,S,ζb,dY]
    refine(VG M Zaa (by rw[T.1.1];exact R)).mono λw hw=>?_
    have⟨o2,k1,k2⟩:=put_eq (s:=o) (p:=i) (x:=w) Zaa
    rw[ζb,k1,ζb,bg];rw[<-hw]at N w1 w2 P;refine⟨cE n Zaa,by show o2.l.length=_;rw[k2,length_set];exact e1,λj Q=>by show o2.l[j]?=_;rw[k2,getElem?_set,if_neg (Ne.symm Q)];exact e2 j Q,w,by show o2.l[i]?=_;rw[k2,getElem?_set_self Zaa],.inr ⟨BD T y N,P _ U aq,λm' I z f C D d hd u=>?_,b.2.1,λe g=>P _ (b.2.2 e g) (ao e λd hd u=>g d hd ((zQ hp).trans u))⟩⟩
    by_cases G:m'<n
    .exact w1.trans (b.1 m' I z G C D d hd u)
    exact w2.trans (O m' I z f G C D d hd u)
   rintro⟨o,_⟩ ⟨rfl,e1,e2,a,e3,e4⟩;simp only at e1 e2 e3;unfold dO.bP;dsimp only;rw[iO,bC,bg];have ar:∀d,j9 L (gD tb) d->dU L[i] d->∃(m' k:Nat)(z:ST),m'<l.l.length/\(wP L L[i])[m']?=some k/\L[k]?=some z/\dU z d:=λd hd u=>by have hD:=(B.mem _).1 hd.1;have aE:¬dU d L[i]:=λh=>(by have:d=L[i]:=dU.same h u;have G:=hd.2;rw[this,ot B.nodup J,H]at G;cases G);have⟨p,hp,Z,aF⟩:=Gg r hM B F u d.sum.toNat hD (dU.refl d) Zaa aE;have hm:L.idxOf (bump L[i] p 1)∈wP L L[i]:=CZ.2 ⟨p,hp,Z,rfl⟩;have⟨m',au⟩:=getElem?_of_mem hm;exact⟨m',_,_,by rw[aj];exact(ζe.1 au).1,au,nW Z,aF⟩
   refine(bg _).2 ⟨(eH ((i:Int)-1) Zaa Zaa).trans Zaa,e1,λj c Q b=>?_,λj Q=>by show o.l[j]?=_;rw[e2 j Zaa];exact g3 j Zaa⟩
   show∃o',o.l[j]?=some o'/\_
   by_cases e:j=i
   .subst e;rw[J]at b;cases b;refine⟨a,e3,?_⟩;rcases e4 with⟨T,U⟩|⟨T,U,b⟩
    .exact .inl ⟨T,λd hd u=>by
      have⟨m',k,z,f,G,C,D⟩:=ar d hd u;exact U m' k z f G C d hd D⟩
    exact .inr ⟨T,U,λd hd u=>by
     have⟨m',k,z,f,G,C,D⟩:=ar d hd u;exact b.1 m' k z f G C d hd D,b.2⟩
   rw[e2 j e];exact g2 j c Zaa b
 rintro⟨out,_⟩ ⟨rfl,g1,g2,-⟩;unfold dO.br;dsimp only;rw[decide_eq_false Zaa,bC,bg]
 exact(bg _).2 ⟨g1,λi c b=>g2 i c Zaa b⟩
end
end Go.VE
namespace Go.VE
section
variable{α σ:Type}
def wE(p:α->σ->a_ (X'×σ)):aZ α->σ->a_ (X'×σ)
 |[],x=>some (false,x)|a::r,x=>(p a x).bind λy=>if y.1 then some (true,y.2)else wE p r y.2
theorem Gf{s:Sl α}{p:α->σ->a_ (X'×σ)}{x:σ}(B:s.l.length<1073741824):Aq s p x=wE p s.l x:=by
 have key:∀(c:aZ α)(j:Nat)(x:σ),s.l.drop j=c->((bW (FC s p) ((j:Int),x)).bind (Fw.elim (λe=>some ((-1:Int),e)) λe=>some e)).bind (λy:Int×σ=>some (decide (y.1>=0),y.2))=wE p c x:=by intro c;induction c with|nil=>intro j x hd;have d:decide ((j:Int)<len s)=false:=(by have:s.l.length<=j:=(by simpa using hd);simp[len];omega);rw[fA];simp only[FC,d,bl,Bool.false_eq_true,if_false,ζb,Fw.elim,wE];rfl|cons a c u=>intro j x hd;have d:j<s.l.length:=(by apply byContradiction;intro C;rw[List.drop_eq_nil_of_le Zaa]at hd;cases hd);have w:=List.drop_eq_getElem_cons d;rw[w]at hd;simp only[List.cons.injEq]at hd;rw[fA];simp only[FC,ja d,bl,if_true,bJ d,ζb,hd.1,wE];cases p a x with|none=>rfl|some y=>have⟨b,z⟩:=y;simp only[ζb];cases b with|true=>simp[Fw.elim]|false=>simp only[Bool.false_eq_true,if_false,ζb,cE j Zaa];exact u (j+1) z hd.2
 exact key s.l 0 x rfl
def Ge(p:α->a_ X'):aZ α->a_ X'
 |[]=>some false|a::r=>(p a).bind λb=>if b then some true else Ge p r
theorem HI(p:α->a_ X'):∀l:aZ α,wE (λx(u:Unit)=>(p x).map λb=>(b,u)) l ()=(Ge p l).map λb=>(b,())
 |[]=>rfl|a::r=>by simp only[wE,Ge];cases p a with|none=>rfl|some b=>cases b<;>simp[HI p r]
theorem Cm{s:Sl α}(p:α->a_ X')(B:s.l.length<1073741824):Aq s (λx(u:Unit)=>(p x).map λb=>(b,u)) ()=(Ge p s.l).map λb=>(b,()):=by rw[Gf B,HI]
theorem Aw{p:α->a_ X'}{f:α->X'}:∀{l:aZ α},(∀x∈l,p x=some (f x))->Ge p l=some (l.any f)
 |[],_=>rfl|a::r,h=>by simp only[Ge,h a Zab,ζb,any_cons,Aw (λx B=>h x (mem_cons_of_mem _ B))];cases f a<;>rfl
theorem lT{δ:Type}{b:(α->a_ δ)->α->a_ δ}{n:Nat}(h:0<n)(z:α):iz b n z=b (iz b (n-1)) z:=by cases n with|zero=>omega|succ n=>rfl
end
def O3(l:ST)(az:aZ Assign):ST:=az.foldl (λl a=>l.set a.var.toNat a.value) l
def kX(P:bX):Nat->ST
 |0=>P.vars.l.map Var.init_|k+1=>match P.events.l[k]?with
  |some e=>O3 (kX P k) e.assign.l|none=>kX P k
theorem K9:∀(az:aZ Assign)(l:ST),(O3 l az).length=l.length
 |[],l=>rfl|a::r,l=>by show(O3 (l.set a.var.toNat a.value) r).length=_;rw[K9 r];simp
theorem rJ(P:bX):∀k,(kX P k).length=P.vars.l.length
 |0=>by simp[kX]|k+1=>by unfold kX;split;rw[K9,rJ P k];exact rJ P k
def Nr{α:Type}(s:Sl α):Prop:=s=.nil\/∃l,s=.row l
theorem Ke:∀(vs:aZ Var)(s:Zg),Nr s->s.l.length+vs.length<1073741824->∃B,wT vs s=some B/\Nr B/\B.l=s.l++vs.map Var.init_
 |[],s,h,_=>⟨s,rfl,h,Zab⟩|v::r,s,h,D=>by simp only[length_cons]at D;have a:gC s v.init_=some (.row (s.l++[v.init_])):=(by unfold gC;rw[if_pos Zaa]);have⟨B,g1,g2,g3⟩:=Ke r (.row (s.l++[v.init_])) (.inr ⟨_,rfl⟩) (by show(s.l++[v.init_]).length+r.length<1073741824;simp;omega);refine⟨B,?_,g2,by rw[g3];show(s.l++[v.init_])++r.map Var.init_=_;simp⟩;simp only[wT,a,ζb,g1]
theorem Kx:∀(az:aZ Assign)(s:Zg),Nr s->(∀a∈az,0<=a.var/\a.var<s.l.length)->∃B,wS az s=some B/\Nr B/\B.l=O3 s.l az
 |[],s,h,_=>⟨s,rfl,h,rfl⟩|a::r,s,h,D=>by have⟨d,c⟩:=D a Zab;have e:Sl.jc s a.var=some a.var.toNat:=(by unfold Sl.jc;rw[if_pos ⟨d,Zaa⟩]);rcases h with rfl|⟨l,rfl⟩;simp[Sl.l]at c;omega;have u:Sl.put (.row l) a.var.toNat a.value=some (.row (l.set a.var.toNat a.value)):=(by unfold Sl.put;rw[if_pos (by simp[Sl.l]at c⊢;omega)]);have⟨B,g1,g2,g3⟩:=Kx r (.row (l.set a.var.toNat a.value)) (.inr ⟨_,rfl⟩) (λb w=>by have:=D b (mem_cons_of_mem _ w);simpa[Sl.l]using this);refine⟨B,?_,g2,g3⟩;simp only[wS,e,u,ζb,g1]
theorem M6{s:Zg}(h:Nr s)(B:s.l.length<1073741824):∃c,NT s=some c/\c.l=s.l:=by rcases h with rfl|⟨l,rfl⟩;exact⟨.nil,rfl,rfl⟩;unfold NT IB.ec oI;simp only[Sl.isNil,ζb,bl,Bool.false_eq_true,if_false];by_cases a:(Sl.row l).l=[];rw[if_pos a];exact⟨.row [],rfl,a.symm⟩;rw[if_neg a,if_pos (by simp[Sl.l]at B⊢;omega)];exact⟨_,rfl,by simp[Sl.l]⟩
def yA(P:bX):Prop:=∀e∈P.events.l,∀a∈e.assign.l,0<=a.var/\a.var<P.vars.l.length
theorem Jk{P:bX}(B:yA P)(f:P.vars.l.length<1073741824):∀(b:aZ WF)(k:Nat)(s:Zg),P.events.l.drop k=b->Nr s->s.l=kX P k->
 ∃r,xw (k:Int) b s=some r/\r.length=b.length/\∀(i:Nat)x,r[i]?=some x->x.1=((k+i+1:Nat):Int)/\x.2.l=kX P (k+i+1)
 |[],k,s,_,_,_=>⟨[],rfl,rfl,Zab⟩|e::b,k,s,hd,D,G=>by have d:k<P.events.l.length:=(by apply byContradiction;intro D;rw[List.drop_eq_nil_of_le Zaa]at hd;cases hd);have C:=List.drop_eq_getElem_cons d;rw[C]at hd;simp only[List.cons.injEq]at hd;have I:e∈P.events.l:=hd.1▸getElem_mem d;have w:s.l.length=P.vars.l.length:=(by rw[G,rJ]);have⟨n,g1,g2,g3⟩:=Kx e.assign.l s D (λa J=>by rw[w];exact B e I a J);have u:kX P (k+1)=n.l:=(by rw[g3,G];unfold kX;rw[ζd d,hd.1];cases k<;>rfl);have⟨c,g4,g5⟩:=M6 g2 (by rw[<-u,rJ];exact f);have⟨r,L,O,Q⟩:=Jk B f b (k+1) n hd.2 g2 u.symm;refine⟨((k:Int)+1,c)::r,?_,by simp[O],λi x z=>?_⟩;simp only[xw,g1,g4,ζb];rw[show(k:Int)+1=((k+1:Nat):Int)from rfl,L];rfl;cases i with|zero=>simp only[List.getElem?_cons_zero,ζa]at z;subst z;exact⟨rfl,by rw[g5,<-u]⟩|succ i=>rw[List.getElem?_cons_succ]at z;have⟨S,T⟩:=Q i x z;exact⟨by rw[S];congr 1;omega,by rw[T];congr 1;omega⟩
theorem Hz{P:bX}(B:yA P)(a:P.vars.l.length<1073741824)(U:P.events.l.length<1073741824)(D:∀e∈P.events.l,e.assign.l.length<1073741824):
 ∃r,jM P=some r/\r.length=P.events.l.length+1/\∀(i:Nat)x,r[i]?=some x->x.1=(i:Int)/\x.2.l=kX P i:=by
 have⟨s,g1,g2,g3⟩:=Ke P.vars.l .nil (.inl rfl) (by simpa[Sl.l]using a)
 have w:s.l=kX P 0:=by rw[g3];simp[Sl.l,kX]
 have⟨c,g4,g5⟩:=M6 g2 (by rw[w,rJ];exact a)
 have⟨r,z,C,G⟩:=Jk B a P.events.l 0 s rfl g2 w;refine⟨(0,c)::r,?_,by simp[C],λi x u=>?_⟩
 .unfold jM;have b:(pX P.vars.l.length&&(pX P.events.l.length&&P.events.l.all λe=>pX e.assign.l.length))=true:=by
   simp only[ζh,all_eq_true,pX,decide_eq_true_eq];exact⟨Zaa,Zaa,λe h=>by have:=D e h;omega⟩
  rw[if_pos b,g1,ζb,g4,ζb];rw[show((0:Nat):Int)=0 from rfl]at z;rw[z];rfl
 cases i with
 |zero=>simp only[List.getElem?_cons_zero,ζa]at u;subst u;exact⟨rfl,by rw[g5,w]⟩|succ i=>rw[List.getElem?_cons_succ]at u;have⟨I,J⟩:=G i x u;exact⟨by rw[I];congr 1;omega,by rw[J];congr 1;omega⟩
theorem S0{P:bX}(D:yA P)(b:P.vars.l.length<1073741824)(G:P.events.l.length<1073741824)(J:∀e∈P.events.l,e.assign.l.length<1073741824){k:Nat}(d:k<=P.events.l.length):
 ∃x,gx P (k:Int)=some x/\x.l=kX P k:=by
 have⟨r,c,O,C⟩:=Hz D b G J;have key:∀(a:aZ (Int×Zg))(i:Nat)(q:Zg),r.drop i=a->i<=k->∃x,(lH (λ(x:Int×(Zg))(q:Zg)=>gx.kB P k x q) a q).bind (Fw.rK (λq=>some Sl.nil) (λe=>Empty.elim e) (λe=>some e))=some x/\x.l=kX P k:=by intro a;induction a with|nil=>intro i q hd hi;have:r.length<=i:=(by simpa using hd);omega|cons y a I=>intro i q hd hi;have u:i<r.length:=Zaa;have e2:=List.drop_eq_getElem_cons u;rw[e2]at hd;simp only[List.cons.injEq]at hd;have⟨B,L⟩:=C i y (by rw[ζd u,hd.1]);by_cases w:i=k;subst w;refine⟨y.2,?_,L⟩;simp only[lH,gx.kB,B,beq_self_eq_true,bl,if_true,ζb,Fw.rK];have z:(y.1==(k:Int))=false:=(by rw[B];simp;omega);have⟨x,g1,g2⟩:=I (i+1) .nil hd.2 Zaa;refine⟨x,?_,g2⟩;simp only[lH,gx.kB,z,bl,Bool.false_eq_true,if_false,ζb];exact g1
 have⟨x,g1,g2⟩:=key r 0 .nil rfl (zero_le _);refine⟨x,?_,g2⟩;unfold gx og gx.E1;simp only[ζb,c];exact g1
mutual
def Pred.sz:Pred->Nat
 |⟨_,_,_,_,_,l⟩=>1+Pred.Yq l
def Pred.Yq:Sl Pred->Nat
 |.nil=>0|.emp=>0|.row l=>Pred.m_ l|.part l=>Pred.m_ l
def Pred.m_:aZ Pred->Nat
 |[]=>0|x::r=>Pred.sz x+Pred.m_ r
end
mutual
def Pred.dp:Pred->Nat
 |⟨_,_,_,_,_,l⟩=>1+Pred.Y_ l
def Pred.Y_:Sl Pred->Nat
 |.nil=>0|.emp=>0|.row l=>Pred.Cd l|.part l=>Pred.Cd l
def Pred.Cd:aZ Pred->Nat
 |[]=>0|x::r=>max (Pred.dp x) (Pred.Cd r)
end
mutual
def Pred.lQ(f:Pred->X'):Pred->X'
 |⟨a,b,c,d,e,l⟩=>f ⟨a,b,c,d,e,l⟩&&Pred.O9 f l
def Pred.O9(f:Pred->X'):Sl Pred->X'
 |.nil=>true|.emp=>true|.row l=>Pred.Gv f l|.part l=>Pred.Gv f l
def Pred.Gv(f:Pred->X'):aZ Pred->X'
 |[]=>true|x::r=>Pred.lQ f x&&Pred.Gv f r
end
theorem Pred.ZO(s:Sl Pred):Pred.Yq s=Pred.m_ s.l:=by cases s<;>simp[Pred.Yq,Pred.m_,Sl.l]
theorem Pred.ZE(s:Sl Pred):Pred.Y_ s=Pred.Cd s.l:=by cases s<;>simp[Pred.Y_,Pred.Cd,Sl.l]
theorem Pred.Je(f:Pred->X'):∀l:aZ Pred,Pred.Gv f l=l.all (Pred.lQ f)
 |[]=>by simp[Pred.Gv]|x::r=>by simp only[Pred.Gv,all_cons,Pred.Je f r]
theorem Pred.YB(f:Pred->X')(s:Sl Pred):Pred.O9 f s=s.l.all (Pred.lQ f):=by cases s<;>simp[Pred.O9,Pred.Je,Sl.l]
theorem Pred.UW(p:Pred):p.sz=1+Pred.m_ p.l.l:=by cases p;simp only[Pred.sz,Pred.ZO]
theorem Pred.IP(p:Pred):p.dp=1+Pred.Cd p.l.l:=by cases p;simp only[Pred.dp,Pred.ZE]
theorem Pred.pz(f:Pred->X')(p:Pred):p.lQ f=(f p&&p.l.l.all (Pred.lQ f)):=by cases p;simp only[Pred.lQ,Pred.YB]
theorem Pred.MA:∀{l:aZ Pred}{q:Pred},q∈l->q.dp<=Pred.Cd l
 |x::r,q,h=>by simp only[Pred.Cd];rcases mem_cons.1 h with rfl|h;omega;have:=Pred.MA h;omega
theorem Pred.rT{p q:Pred}(h:q∈p.l.l):q.dp<p.dp:=by rw[p.IP];have:=Pred.MA h;omega
theorem Pred.zA(p:Pred):0<p.dp:=by rw[p.IP];omega
theorem Pred.ind{M:Pred->Prop}(h:∀p,(∀q∈p.l.l,M q)->M p)(p:Pred):M p:=by
 have key:∀n p,p.dp<=n->M p:=by intro n;induction n with|zero=>intro p u;have:=p.zA;omega|succ n w=>intro p u;exact h p λq z=>w q (by have:=Pred.rT z;omega)
 exact key _ p (le_refl _)
abbrev Pred.Sm(p:Pred):Prop:=p.lQ (λq=>decide (q.l.l.length<1073741824))=true
theorem Pred.Sm.len{p:Pred}(h:p.Sm):p.l.l.length<1073741824:=by unfold Pred.Sm at h;rw[p.pz]at h;simp only[ζh,decide_eq_true_eq]at h;exact h.1
theorem Pred.Sm.zM{p q:Pred}(h:p.Sm)(B:q∈p.l.l):q.Sm:=by unfold Pred.Sm at h;rw[p.pz]at h;simp only[ζh,all_eq_true]at h;exact h.2 q B
theorem MD{f:Pred->a_ X'}{g:Pred->X'}(p:Pred)(B:p.Sm):p.lQ (λq=>f q==some (g q))=true->∀n,p.dp<=n->iz (λr(z:Pred)=>jD z f r) n p=some (p.lQ g):=by induction p using Pred.ind with|h p C=>intro u n D;rw[p.pz]at u;simp only[ζh,all_eq_true,beq_iff_eq]at u;have hd:=p.IP;rw[lT Zaa];show jD p f _=_;unfold jD;rw[u.1,ζb,p.pz];cases g p with|false=>rfl|true=>rw[bE,Cm _ B.len,Aw (f:=λq=> !q.lQ g) (λq w=>by have:=C q w (B.zM w) (u.2 q w) (n-1) (by have:=Pred.rT w;omega);show(iz (λr(z:Pred)=>jD z f r) (n-1) q).bind _=_;rw[this];rfl)];simp only[Option.map_some,ζb,Bool.true_and];congr 1;rw[Bool.eq_iff_iff];simp
abbrev QF(p:Pred):Bool:=toList p.name==toList ByteArray.empty
abbrev Pa(p:Pred)(c:Int):Bool:=(len p.l==c)&&(!decide (p.n<0)&&(!decide (p.n>1125899906842624)&&((p.n==0||p.kind==1)&&(p.kind==2||(p.kind==3||(p.kind==4||(p.proc==0&&(p.peer==0&&QF p))))))))
theorem WU:∀k:_root_.Fin 22,1<=k.1->(cu.at AJ ((k.1:Nat):Int)).isSome=true:=by decide
theorem HJ{k:Int}(a:1<=k)(B:k<22):∃c,cu.at AJ k=some c:=by have g:=WU ⟨k.toNat,Zaa⟩ (by show 1<=k.toNat;omega);simp only at g;rw[show((k.toNat:Nat):Int)=k from Zaa]at g;exact Option.isSome_iff_exists.1 g
theorem Mr{p:Pred}{c:Int}(f:1<=p.kind)(B:p.kind<22)(d:cu.at AJ p.kind=some c):lE p=some (Pa p c):=by
 unfold lE uZ Pa QF;rw[decide_eq_false (show¬p.kind<1 by omega),bC,ζb,decide_eq_false (show¬p.kind>=22 by omega),bC,d,ζb,ζb];generalize(len p.l==c)=e;generalize decide (p.n<0)=a;generalize decide (p.n>1125899906842624)=b;generalize(p.n==0)=z;generalize(p.kind==1)=k1;generalize(p.kind==2)=k2;generalize(p.kind==3)=k3;generalize(p.kind==4)=k4;generalize(p.proc==0)=d1;generalize(p.peer==0)=d2;generalize(toList p.name==toList ByteArray.empty)=d3
 cases e with
 |false=>rfl|true=>cases a with
  |true=>rfl|false=>cases b with
   |true=>rfl|false=>cases z<;>cases k1<;>first|rfl|(cases k2<;>cases k3<;>cases k4<;>cases d1<;>cases d2<;>cases d3<;>rfl)
theorem JV{p:Pred}(h:p.kind<1\/22<=p.kind):lE p=some false:=by
 unfold lE;have:(bl (decide (p.kind<1)) (some true) (some (decide (p.kind>=22))):a_ X')=some true:=by by_cases a:p.kind<1;rw[decide_eq_true a];rfl;rw[decide_eq_false a,bC,decide_eq_true Zaa]
 rw[this];rfl
def fB(p:Pred):X':=(lE p).getD false
theorem V_(p:Pred):lE p=some (fB p):=by unfold fB;by_cases h:p.kind<1\/22<=p.kind;rw[JV h];rfl;have⟨c,a⟩:=HJ (k:=p.kind) Zaa Zaa;rw[Mr Zaa Zaa a];rfl
theorem xB{p:Pred}(h:fB p=true):1<=p.kind/\p.kind<22/\cu.at AJ p.kind=some (len p.l):=by by_cases g:p.kind<1\/22<=p.kind;unfold fB at h;rw[JV g]at h;cases h;have⟨c,a⟩:=HJ (k:=p.kind) Zaa Zaa;unfold fB at h;rw[Mr Zaa Zaa a]at h;simp only[Pa,Option.getD_some,ζh,beq_iff_eq]at h;exact⟨Zaa,Zaa,by rw[a,h.1]⟩
def uh(p:Pred):X':=decide (p.sz<=200)&&(decide (p.dp<=20)&&p.lQ fB)
abbrev oU(p:Pred)(d l:Nat):Bool:=decide (p.sz<=l)&&(decide (p.dp+d<=21)&&p.lQ fB)
abbrev wk(k:aZ Pred)(d l:Nat):Bool:=decide (Pred.m_ k<=l)&&(decide (Pred.Cd k+d<=21)&&k.all (Pred.lQ fB))
theorem Vr(p:Pred)(U:p.Sm):∀(n d l:Nat),1<=n->22<=n+d->d<=21->1<=d->l<=200->
 ∃B:Int,iz (λr(z:Pred×Int×Int)=>fh z.1 z.2.1 z.2.2 r) n (p,(d:Int),(l:Int))=some (oU p d l,B)/\(oU p d l=true->B=((l-p.sz:Nat):Int)):=by
 induction p using Pred.ind with
 |h p D=>
  intro n d l e X hd jN f;have C:=p.UW;have I:=p.IP;rw[lT Zaa]
  have D:=λq G=>D q G (U.zM G) (n-1)
  show∃B,fh p (d:Int) (l:Int) (iz (λr(z:Pred×Int×Int)=>fh z.1 z.2.1 z.2.2 r) (n-1))=_/\_
  generalize iz (λr(z:Pred×Int×Int)=>fh z.1 z.2.1 z.2.2 r) (n-1)=R at D⊢
  unfold fh;rw[eH _ Zaa Zaa,V_]
  by_cases b:l=0
  .subst b;have w:oU p d 0=false:=by
    have:¬(p.sz<=0):=Zaa
    simp only[oU,decide_eq_false this,Bool.false_and]
   rw[w];exact⟨_,rfl,λh=>by cases h⟩
  rw[decide_eq_false (show¬((l:Int)-1<0)by omega),bC,ζb]
  by_cases g:20<d
  .have w:oU p d l=false:=by
    have:¬(p.dp+d<=21):=by have:=p.zA;omega
    simp only[oU,decide_eq_false this,Bool.false_and,Bool.and_false]
   rw[w,decide_eq_true (show(d:Int)>20 by omega)]
   exact⟨_,rfl,λh=>by cases h⟩
  rw[decide_eq_false (show¬((d:Int)>20)by omega),bC,ζb]
  have Q:=p.pz fB
  cases S:fB p with
  |false=>
   have w:oU p d l=false:=by simp[oU,Q,S]
   rw[w];exact⟨_,rfl,λh=>by cases h⟩
  |true=>
   rw[ζb,show(!true)=false from rfl,bC,Gf U.len];have key:∀(k:aZ Pred),(∀q∈k,q∈p.l.l)->∀m:Nat,m<=200->∃m':Int,wE (λx s=>iU x (d:Int) s R) k (m:Int)=some (!wk k (d+1) m,m')/\(wk k (d+1) m=true->m'=((m-Pred.m_ k:Nat):Int)):=by intro k;induction k with|nil=>intro _ m _;exact⟨m,by simp[wE,wk,Pred.m_,Pred.Cd];omega,λ_=>by simp[Pred.m_]⟩|cons q k J=>intro a m Y;have⟨B,g1,g2⟩:=D q (a q Zab) (d+1) m Zaa Zaa Zaa Zaa Y;have e1:iU q (d:Int) (m:Int) R=some (!oU q (d+1) m,B):=(by unfold iU;rw[cE d Zaa,g1];rfl);simp only[wE,e1,ζb];have u:wk (q::k) (d+1) m=(oU q (d+1) m&&wk k (d+1) (m-q.sz)):=(by rw[Bool.eq_iff_iff];simp only[wk,oU,Pred.m_,Pred.Cd,ζh,all_cons];constructor;rintro⟨a1,a2,a3,a4⟩;have a1:=of_decide_eq_true a1;have a2:=of_decide_eq_true a2;exact⟨⟨decide_eq_true Zaa,decide_eq_true Zaa,a3⟩,decide_eq_true Zaa,decide_eq_true Zaa,a4⟩;rintro⟨⟨a1,a2,a3⟩,T,W,Z⟩;have a1:=of_decide_eq_true a1;have a2:=of_decide_eq_true a2;have T:=of_decide_eq_true T;have W:=of_decide_eq_true W;exact⟨decide_eq_true Zaa,decide_eq_true Zaa,a3,Z⟩);cases w:oU q (d+1) m with|false=>rw[u,w];exact⟨B,rfl,λh=>by cases h⟩|true=>have⟨m',L,O⟩:=J (λx c=>a x (mem_cons_of_mem _ c)) (m-q.sz) Zaa;rw[u,w,Bool.true_and,g2 w];refine⟨m',by simpa using L,λh=>?_⟩;rw[O h];have:q.sz<=m:=(by have:=w;simp only[oU,ζh]at this;exact of_decide_eq_true this.1);congr 1;show m-q.sz-Pred.m_ k=m-(q.sz+Pred.m_ k);omega
   have⟨m',L,O⟩:=key p.l.l (λq G=>G) (l-1) Zaa
   rw[show((l:Int)-1)=((l-1:Nat):Int)from Zaa,L,ζb]
   have w:oU p d l=wk p.l.l (d+1) (l-1):=by rw[Bool.eq_iff_iff];simp only[oU,wk,ζh,Q,S,true_and,C,I];constructor;rintro⟨a1,a2,a3⟩;have a1:=of_decide_eq_true a1;have a2:=of_decide_eq_true a2;exact⟨decide_eq_true Zaa,decide_eq_true Zaa,a3⟩;rintro⟨a1,a2,a3⟩;have a1:=of_decide_eq_true a1;have a2:=of_decide_eq_true a2;exact⟨decide_eq_true Zaa,decide_eq_true Zaa,a3⟩
   refine⟨m',by rw[w];simp,λh=>?_⟩
   rw[O (by rw[<-w];exact h),C]
   congr 1
   omega
theorem Ar{p:Pred}(B:p.Sm):mz p=some (uh p):=by obtain⟨u,h,-⟩:=Vr p B 100000 1 200 Zaa Zaa Zaa Zaa Zaa;unfold mz qZ;rw[show iz (λr(z:Pred×Int×Int)=>fh z.1 z.2.1 z.2.2 r) 100000 (p,(1:Int),(200:Int))=_ from h];simp only[ζb];congr 1;rw[Bool.eq_iff_iff];simp only[uh,oU,ζh];constructor;rintro⟨a1,a2,a3⟩;have a2:=of_decide_eq_true a2;exact⟨a1,decide_eq_true Zaa,a3⟩;rintro⟨a1,a2,a3⟩;have a2:=of_decide_eq_true a2;exact⟨a1,decide_eq_true Zaa,a3⟩
theorem Sx{l:aZ Pred}{i:Nat}(h:i<l.length):Pred.m_ (l.take (i+1))=Pred.m_ (l.take i)+l[i].sz:=by
 have key:∀(l:aZ Pred)(i:Nat)(h:i<l.length),Pred.m_ (l.take (i+1))=Pred.m_ (l.take i)+l[i].sz:=by intro l;induction l with|nil=>intro i h;simp at h|cons x r u=>intro i h;cases i with|zero=>simp[Pred.m_]|succ i=>have:=u i (by simpa using h);simp only[List.take_succ_cons,Pred.m_,List.getElem_cons_succ]at this⊢;omega
 exact key l i h
theorem LH(l:aZ Pred)(i:Nat):Pred.m_ (l.take i)<=Pred.m_ l:=by
 induction l generalizing i with
 |nil=>simp|cons x r u=>cases i with
  |zero=>simp[Pred.m_]|succ i=>simp only[List.take_succ_cons,Pred.m_];have:=u i;omega
theorem count_eq(p:Pred)(G:p.Sm):∀(n l:Nat),l+1<=n->l<=200->iz (λr(z:Pred×Int)=>jo z.1 z.2 r) n (p,(l:Int))=some ((min p.sz (l+1):Nat):Int):=by
 induction p using Pred.ind with|h p C=>
  intro n l O Q;have J:=p.UW;rw[lT Zaa];have C:=λq I=>C q I (G.zM I) (n-1);show jo p (l:Int) (iz (λr(z:Pred×Int)=>jo z.1 z.2 r) (n-1))=_;generalize iz (λr(z:Pred×Int)=>jo z.1 z.2 r) (n-1)=R at C⊢;unfold jo kO.W1;refine Wp.eq ?_;refine fZ (λs:Int×Int=>∃i:Nat,s.2=i/\i<=p.l.l.length/\s.1=((min (1+Pred.m_ (p.l.l.take i)) (l+1):Nat):Int)) (λs=>p.l.l.length-s.2.toNat) ⟨0,rfl,zero_le _,by simp[Pred.m_]⟩ ?_;rintro⟨c,_⟩ ⟨i,rfl,hi,a⟩;simp only at a;subst a;unfold kO.br;by_cases u:i<p.l.l.length;rw[ja u,bE,ζb];by_cases L:min (1+Pred.m_ (p.l.l.take i)) (l+1)<=l;have w:min (1+Pred.m_ (p.l.l.take i)) (l+1)=1+Pred.m_ (p.l.l.take i):=by omega
  have B:=getElem_mem u;rw[decide_eq_true (show(((min (1+Pred.m_ (p.l.l.take i)) (l+1):Nat)):Int)<=(l:Int)by omega),bE,bJ u,ζb,w,eH _ Zaa Zaa,
   show(l:Int)-((1+Pred.m_ (p.l.l.take i):Nat):Int)=((l-(1+Pred.m_ (p.l.l.take i)):Nat):Int)from Zaa,
   C _ B _ Zaa Zaa,ζb,bg,eH _ Zaa Zaa,cE i (by have:=G.len;omega)]
  refine⟨⟨i+1,rfl,Zaa,?_⟩,by simp only;omega⟩;simp only;rw[Sx u];omega;rw[decide_eq_false (show¬(((min (1+Pred.m_ (p.l.l.take i)) (l+1):Nat)):Int)<=(l:Int)by omega),bC,bg];refine(bg _).2 ?_;have:=LH p.l.l i;congr 1;omega;have D:i=p.l.l.length:=Zaa;subst D;rw[show decide (((p.l.l.length:Nat):Int)<len p.l)=false from iO,bC,ζb,bC,bg];refine(bg _).2 ?_;rw[take_length];congr 1;omega
section
variable{t:Z4}
abbrev zP(t:Trace)(p:Int):Bool:=decide (p>=0)&&decide (p<len t.procs)
def NV(t:Z4)(p:Int)(name:U'):X':=match idx t.procs p with
 |some P=>P.vars.l.any λv=>toList v.name==toList name|none=>false
def s8(t:Z4)(q:Pred):X':=if q.kind==2 then zP t q.proc&&(q.peer==0&&NV t q.proc q.name)else if q.kind==3 then zP t q.proc&&(q.peer==0&&QF q)else if q.kind==4 then zP t q.proc&&(zP t q.peer&&(!(q.proc==q.peer)&&QF q))else true
theorem MT(p:Int):kR t p=some (zP t p):=by unfold kR zP;cases decide (p>=0)<;>rfl
theorem vV{p:Int}(h:zP t p=true):∃n:Nat,p=n/\n<t.procs.l.length:=by simp only[zP,ζh]at h;have a:=of_decide_eq_true h.1;have u:=of_decide_eq_true h.2;exact⟨p.toNat,Zaa,by simp only[len]at u;omega⟩
theorem Ug(a:Small t){p:Int}(h:zP t p=true)(name:U'):rP t p name=some (NV t p name):=by obtain⟨n,rfl,u⟩:=vV h;unfold rP NV;rw[bJ u,ζb,Dg (p:=λz=>oW z name) (f:=λv=>toList v.name==toList name) (λv _=>rfl) (a.2 _ (getElem_mem u)).2.1];rfl
theorem Wa(a:Small t)(q:Pred):kV q t=some (s8 t q):=by
 unfold kV s8 QF;rw[MT,MT]
 cases q.kind==2 with
 |true=>rw[bE,if_pos rfl,ζb];cases h:zP t q.proc with|false=>rfl|true=>rw[Ug a h];cases q.peer==0<;>rfl
 |false=>rw[bC,if_neg Zab];cases q.kind==3 with|true=>rw[bE,if_pos rfl];cases zP t q.proc<;>cases q.peer==0<;>cases(toList q.name==toList ByteArray.empty)<;>rfl|false=>rw[bC,if_neg Zab];cases q.kind==4 with|true=>rw[bE,if_pos rfl];cases zP t q.proc<;>cases zP t q.peer<;>cases(q.proc==q.peer)<;>cases(toList q.name==toList ByteArray.empty)<;>rfl|false=>rfl
theorem Ja{f:Pred->a_ X'}{g:Pred->X'}(h:∀q,f q=some (g q)){p:Pred}(B:p.Sm)(hd:p.dp<=100000):nR p f=some (p.lQ g):=by refine MD p B ?_ _ hd;induction p using Pred.ind with|h p w=>rw[p.pz,ζh,all_eq_true];exact⟨by rw[h];simp,λq u=>w q u (B.zM u) (by have:=Pred.rT u;omega)⟩
theorem Jy(a:Small t){p:Pred}(B:p.Sm)(hd:p.dp<=100000):oZ t p=some (p.lQ (s8 t)):=by unfold oZ;rw[Ja (g:=s8 t) (λq=>Wa a q) B hd];rfl
abbrev tj(k:Int):Int:=if k<=8 then 1 else 2
abbrev Cu(k:Int):Int:=if k<=12 then 1 else 2
def zk(q:Pred):X':=q.l.l.all λk=>tj k.kind==Cu q.kind
theorem Bb(k:Int):mA k=some (tj k):=by unfold mA tj;by_cases h:k<=8;rw[decide_eq_true h,if_pos h];rfl;rw[decide_eq_false h,if_neg h];rfl
theorem Xl(k:Int):sZ k=some (Cu k):=by unfold sZ Cu;by_cases h:k<=12;rw[decide_eq_true h,if_pos h];rfl;rw[decide_eq_false h,if_neg h];rfl
theorem Wd{q:Pred}(B:q.l.l.length<1073741824):jB q=some (zk q):=by unfold jB zk;rw[Cm _ B,Aw (f:=λk=> !(tj k.kind==Cu q.kind)) (λk _=>by unfold mS;rw[Bb,Xl];rfl)];simp only[Option.map_some,ζb];congr 1;rw[Bool.eq_iff_iff];simp
theorem Ie{p:Pred}(B:p.Sm)(hd:p.dp<=100000):pG p=some (p.lQ zk):=by
 unfold pG;have:p.lQ (λq=>(λz=>jB z) q==some (zk q))=true:=by clear hd;induction p using Pred.ind with|h p w=>rw[p.pz,ζh,all_eq_true];exact⟨by show(jB p==some (zk p))=true;rw[Wd B.len];simp,λq u=>w q u (B.zM u)⟩
 unfold nR;rw[MD p B this _ hd];rfl
def Bw(q:Pred):X':=decide (q.kind>=18)&&decide (q.kind<=21)
theorem Ln{p:Pred}(B:p.Sm):o5 p=some (uh p&& !p.lQ λq=> !Bw q):=by unfold o5;rw[Ar B,ζb];cases u:uh p with|false=>rfl|true=>have hd:p.dp<=20:=(by simp only[uh,ζh]at u;exact of_decide_eq_true u.2.1);rw[bE,Ja (g:=λq=> !Bw q) (λq=>by unfold mW sy Bw;cases decide (q.kind>=18)<;>rfl) B Zaa];rfl
end
theorem yA.of{t:Z4}(B:Ok t){p:Nat}{P:bX}(D:t.procs.l[p]?=some P):yA P:=by
 intro e C a G;have⟨k,b⟩:=List.mem_iff_getElem?.1 C;have⟨i,hi⟩:=List.mem_iff_getElem?.1 G;have h:=B.fW p k P e D b;unfold p8 at h;have w:i<e.assign.l.length:=by apply byContradiction;intro J;rw[getElem?_eq_none Zaa]at hi;cases hi
 have I:oL (pQ P e) 0 e.assign.l.length=0:=by split at h;split at h;cases h;split at h;cases h;exact h;cases h
 have u:=(Pn (g:=pQ P e) (n:=e.assign.l.length) (m:=e.assign.l.length) (k:=0) Zaa).1 I i (zero_le _) w;unfold pQ at u;rw[hi]at u;dsimp only at u;by_cases z:(decide (0<=a.var)&&decide (a.var<P.vars.l.length))=true;simpa using z;rw[Bool.not_eq_true]at z;rw[z]at u;simp only[TV]at u;cases u
theorem ZH{t:Z4}{A:cu 200 bF}(b:Small t)(f:cU t=some true)(e:VT t)(g:fU t (bS t) A){c:Zg}(d:Cons t A c.l):
 Wp (jk t c) λr=>r.2=0/\r.1.l.length=t.procs.l.length/\∀(p:Nat)(P:bX)(a:Int),t.procs.l[p]?=some P->c.l[p]?=some a->∃x,r.1.l[p]?=some x/\x.l=kX P a.toNat:=by
 have I:=d.1.1;unfold jk;rw[dY];refine(Lt b f e g c).mono λr i=>?_
 rw[i.zero.2 d,show((0:Int)==0)=true from rfl,bE];unfold jk.W1;refine eu c.l.length (λn s=>s.2=(n:Int)/\s.1.l.length=n/\∀(p:Nat)(P:bX)(a:Int),p<n->t.procs.l[p]?=some P->c.l[p]?=some a->∃x,s.1.l[p]?=some x/\x.l=kX P a.toNat) ⟨rfl,rfl,λp P a h=>absurd h Zaa⟩ ?_ ?_
 .rintro n ⟨o,_⟩ u ⟨e1,e2,e3⟩;simp only at e1 e2 e3;subst e1;have J:n<t.procs.l.length:=by omega
  have w:=b.2 _ (getElem_mem J);have D:=ζd J;have C:=ζd u;have⟨a0,a1⟩:=d.1.2 n _ _ C D;have T:=yA.of e.ok D;have⟨x,S,L⟩:=S0 T w.2.1 w.1 w.2.2.2.2 (k:=c.l[n].toNat) Zaa
  rw[show((c.l[n].toNat:Nat):Int)=c.l[n]from Zaa]at S
  have j:=b.1;unfold jk.br;rw[ja u,bE,bJ u,ζb,bJ J,ζb,S,ζb];have G:gC o (x:Zg)=some (.row (o.l++[x])):=by unfold gC;rw[if_pos Zaa]
  rw[G,ζb,bg,cE n Zaa]
  refine⟨rfl,by simp[Sl.l];exact e2,λp P a h z B=>?_⟩
  show∃y,(o.l++[x])[p]?=some y/\_
  by_cases O:p=n
  .subst O;rw[D]at z;rw[C]at B;cases z;cases B;exact⟨x,by rw[List.getElem?_append_right Zaa];simp[e2],L⟩
  have⟨y,U,Q⟩:=e3 p P a Zaa z B
  exact⟨y,by rw[List.getElem?_append_left Zaa];exact U,Q⟩
 rintro⟨o,_⟩ ⟨e1,e2,e3⟩;simp only at e1 e2 e3;subst e1;unfold jk.br;rw[show decide ((c.l.length:Int)<len c)=false from iO,bC,bg];refine(bg _).2 ⟨rfl,by rw[e2,I],λp P a D C=>e3 p P a ?_ D C⟩
 apply byContradiction;intro W;rw[getElem?_eq_none Zaa]at C;cases C
section
variable{P:Pred}{t:Z4}
end
def vw(l:ST)(m:Int):Prop:=m∈l/\∀x∈l,m<=x
def isMax(l:ST)(m:Int):Prop:=m∈l/\∀x∈l,x<=m
theorem vw.one{l:ST}{a b:Int}(h:vw l a)(g:vw l b):a=b:=by have:=h.2 b g.1;have:=g.2 a h.1;omega
theorem isMax.one{l:ST}{a b:Int}(h:isMax l a)(g:isMax l b):a=b:=by have:=h.2 b g.1;have:=g.2 a h.1;omega
theorem vw.snoc{l:ST}{a x:Int}(h:vw l a):vw (l++[x]) (if x<a then x else a):=by have⟨c,u⟩:=h;split;refine⟨Zab,λy b=>?_⟩;rcases mem_append.1 b with b|b;have:=u y b;omega;simp at b;omega;refine⟨List.mem_append_left _ c,λy b=>?_⟩;rcases mem_append.1 b with b|b;exact u y b;simp at b;omega
theorem isMax.snoc{l:ST}{a x:Int}(h:isMax l a):isMax (l++[x]) (if x>a then x else a):=by have⟨c,u⟩:=h;split;refine⟨Zab,λy b=>?_⟩;rcases mem_append.1 b with b|b;have:=u y b;omega;simp at b;omega;refine⟨List.mem_append_left _ c,λy b=>?_⟩;rcases mem_append.1 b with b|b;exact u y b;simp at b;omega
theorem Qt{s:Zg}(h:0<s.l.length)(B:s.l.length<1073741824):Wp (dD s) λm=>vw s.l m:=by
 unfold dD dD.J1 dD.W2;rw[decide_eq_false (show¬len s<1 by simp only[len];omega),bC,show idx s 0=some s.l[0]from bJ (i:=0) h,ζb];refine eu (s.l.length-1) (λn q=>q.2=((n+1:Nat):Int)/\vw (s.l.take (n+1)) q.1) ⟨rfl,?_⟩ ?_ ?_;rw[take_add_one,ζd h];exact⟨Zab,λx z=>by simp at z;omega⟩;rintro n ⟨m,_⟩ C ⟨rfl,w⟩;have u:n+1<s.l.length:=by omega
 unfold dD.bP;rw[ja u,bE,bJ u,ζb,bg,cE _ Zaa];refine⟨rfl,?_⟩;rw[take_add_one,ζd u];exact w.snoc;rintro⟨m,_⟩ ⟨rfl,w⟩;unfold dD.bP;rw[show s.l.length-1+1=s.l.length from Zaa,iO,bC,bg];rw[show s.l.length-1+1=s.l.length from Zaa,take_length]at w;exact(bg _).2 w
theorem Q4{s:Zg}(h:0<s.l.length)(B:s.l.length<1073741824):Wp (dF s) λm=>isMax s.l m:=by
 unfold dF dF.J1 dF.W2;rw[decide_eq_false (show¬len s<1 by simp only[len];omega),bC,show idx s 0=some s.l[0]from bJ (i:=0) h,ζb];refine eu (s.l.length-1) (λn q=>q.2=((n+1:Nat):Int)/\isMax (s.l.take (n+1)) q.1) ⟨rfl,?_⟩ ?_ ?_;rw[take_add_one,ζd h];exact⟨Zab,λx z=>by simp at z;omega⟩;rintro n ⟨m,_⟩ C ⟨rfl,w⟩;have u:n+1<s.l.length:=by omega
 unfold dF.bP;rw[ja u,bE,bJ u,ζb,bg,cE _ Zaa];refine⟨rfl,?_⟩;rw[take_add_one,ζd u];exact w.snoc;rintro⟨m,_⟩ ⟨rfl,w⟩;unfold dF.bP;rw[show s.l.length-1+1=s.l.length from Zaa,iO,bC,bg];rw[show s.l.length-1+1=s.l.length from Zaa,take_length]at w;exact(bg _).2 w
theorem MM{s:Zg}{a b:Int}(h:0<s.l.length)(B:s.l.length<1073741824)(D:vw s.l a)(G:isMax s.l b):mI s=some ⟨a,b⟩:=by have⟨m,c,u⟩:=Qt h B;have⟨n,g1,g2⟩:=Q4 h B;unfold mI;rw[c,ζb,g1,ζb,u.one D,g2.one G]
theorem Ul(n:Int):mI (Sl.row [n]:Zg)=some ⟨n,n⟩:=MM (by simp[Sl.l]) (by simp[Sl.l]) ⟨by simp[Sl.l],λx u=>by simp[Sl.l]at u;omega⟩ ⟨by simp[Sl.l],λx u=>by simp[Sl.l]at u;omega⟩
theorem Us(a b c d:Int):mI (Sl.row [a,b,c,d]:Zg)=some ⟨if(if d<c then d else c)<(if b<a then b else a)then(if d<c then d else c)else(if b<a then b else a),if(if d>c then d else c)>(if b>a then b else a)then(if d>c then d else c)else(if b>a then b else a)⟩:=by
 refine MM (by simp[Sl.l]) (by simp[Sl.l]) ⟨?_,λx u=>?_⟩ ⟨?_,λx u=>?_⟩
 .show _∈[a,b,c,d];simp only[mem_cons,not_mem_nil,or_false];split<;>split<;>(try split)<;>omega
 .have u:x∈[a,b,c,d]:=u;simp only[mem_cons,not_mem_nil,or_false]at u;split<;>split<;>(try split)<;>omega
 .show _∈[a,b,c,d];simp only[mem_cons,not_mem_nil,or_false];split<;>split<;>(try split)<;>omega
 have u:x∈[a,b,c,d]:=u;simp only[mem_cons,not_mem_nil,or_false]at u;split<;>split<;>(try split)<;>omega
def Dst(az:aZ Assign):Prop:=∀(i j:Nat)a b,i<j->az[i]?=some a->az[j]?=some b->a.var≠b.var
def vr(P:bX)(v k:Nat):Int:=((kX P k)[v]?).getD 0
theorem HZ{P:bX}{v:Nat}(k:Nat)(a:v<P.vars.l.length):(kX P k)[v]?=some (vr P v k):=by unfold vr;rw[ζd (by rw[rJ];exact a)];rfl
abbrev CM(P:bX)(v n:Nat):aZ Int:=(range (n+1)).map (vr P v)
theorem Qu{P:bX}{v n k:Nat}(h:k<=n):vr P v k∈CM P v n:=mem_map.2 ⟨k,mem_range.2 Zaa,rfl⟩
section
variable{P:bX}{v:Nat}
theorem QN(D:yA P)(b:P.vars.l.length<1073741824)(U:P.events.l.length<1073741823)(G:∀e∈P.events.l,e.assign.l.length<1073741824)(B:v<P.vars.l.length):
 Wp (gz P v) λs=>s.l=CM P v P.events.l.length:=by
 have⟨r,c,C,I⟩:=Hz D b Zaa G
 have key:∀(a:aZ (Int×Zg))(i:Nat)(q:Zg),r.drop i=a->i<=r.length->q.l=(range i).map (vr P v)->∃s,(lH (λ(x:Int×(Zg))(q:Zg)=>gz.kB P v x q) a q).bind (Fw.rK (λq=>some q) (λe=>Empty.elim e) (λe=>Empty.elim e))=some s/\s.l=(range r.length).map (vr P v):=by intro a;induction a with|nil=>intro i q hd hi z;have:r.length<=i:=(by simpa using hd);exact⟨q,rfl,by rw[z,show i=r.length from Zaa]⟩|cons y a J=>intro i q hd _ z;have u:i<r.length:=(by apply byContradiction;intro S;rw[List.drop_eq_nil_of_le Zaa]at hd;cases hd);have e2:=List.drop_eq_getElem_cons u;rw[e2]at hd;simp only[List.cons.injEq]at hd;have⟨T,L⟩:=I i y (by rw[ζd u,hd.1]);have O:idx y.2 (v:Int)=some (vr P v i):=(by rw[kG,L];exact HZ i B);have Q:q.l.length=i:=(by rw[z];simp);have w:gC q (vr P v i)=some (.row (q.l++[vr P v i])):=(by unfold gC;rw[if_pos Zaa]);have⟨s,g1,g2⟩:=J (i+1) (.row (q.l++[vr P v i])) hd.2 Zaa (by show q.l++[vr P v i]=_;rw[z,range_succ,map_append];rfl);refine⟨s,?_,g2⟩;simp only[lH,gz.kB,O,w,ζb];exact g1
 have⟨s,g1,g2⟩:=key r 0 .nil rfl (zero_le _) rfl;refine⟨s,?_,by show s.l=_;rw[g2,C]⟩
 unfold gz og gz.E1;simp only[ζb,c];exact g1
theorem K_{α:Type}{f:α->X'}{l:aZ α}{k:Nat}{x:α}(b:l[k]?=some x)(B:f x=true)(D:∀(j:Nat)(y:α),j<k->l[j]?=some y->f y=false):place f l=k:=by unfold place;have a:=(ζe.1 b);have⟨a,u⟩:=a;rw[show l.findIdx? f=some k from by rw[List.findIdx?_eq_some_iff_getElem];exact⟨a,by rw[u];exact B,λj w=>by rw[D j _ w (ζd Zaa)];simp⟩]
theorem HX{t:Z4}(d:Small t)(e:cU t=some true)(J:Ok t){n:Nat}(D:t.procs.l[n]?=some P){name:U'}{x:Var}(c:P.vars.l[v]?=some x)(U:(toList x.name==toList name)=true)
 (W:∀(j:Nat)(w:Var),j<v->P.vars.l[j]?=some w->(toList w.name==toList name)=false):
 Wp (rU t n name) λr=>r.2.2=0/\vw (CM P v P.events.l.length) r.1/\isMax (CM P v P.events.l.length) r.2.1:=by
 have O:n<t.procs.l.length:=(ζe.1 D).1;have Q:=mem_of_getElem? D;have u:=d.2 P Q;have C:v<P.vars.l.length:=(ζe.1 c).1;have I:P.events.l.length<=64:=by have:=J.heads n O;unfold sj at this;rw[D]at this;dsimp only at this;split at this;split at this;cases this;split at this;split at this;cases this;omega;rename_i G;exact absurd this G;cases this
 have⟨s,g1,g2⟩:=QN (yA.of J D) u.2.1 Zaa u.2.2.2.2 C
 have g:s.l.length=P.events.l.length+1:=by rw[g2];simp[CM]
 have⟨a,a1,a2⟩:=Qt (s:=s) Zaa Zaa
 have⟨b,S,L⟩:=Q4 (s:=s) Zaa Zaa
 have B:sR t n name=some ((v:Int),0):=by unfold sR;rw[e,ζb,bE,decide_eq_false (show¬(n:Int)<0 by omega),bC,ζb,decide_eq_false (show¬(n:Int)>=len t.procs by simp only[len];omega),bC,kG,D,ζb];unfold uR;rw[D2 (p:=λz=>o4 z name) (f:=λw=>toList w.name==toList name) (λ_ _=>rfl) u.2.1,K_ c U W,ζb,ζb,decide_eq_false (show¬((v:Nat):Int)<0 by omega)];rfl
 unfold rU;rw[B,ζb];simp only;rw[show((0:Int)==0)=true from rfl,bE,kG,D,ζb,g1,ζb,a1,ζb,S,ζb,bg];rw[g2]at a2 L;exact⟨rfl,a2,L⟩
def iw(o:QQ)(b a:Int):Int×Int:=match o with
 |none=>(b,a)|some x=>(if x<b then x else b,if x>a then x else a)
end
section
variable{t:Z4}{A:cu 200 bF}
theorem Dc(a:Small t){p:Nat}{P:bX}(D:t.procs.l[p]?=some P)(q:Nat):fG t p q=some ((P.events.l.countP (gI q):Nat):Int):=by
 have G:P∈t.procs.l:=mem_of_getElem? D;have I:=(a.2 P G).1;refine Wp.eq ?_;unfold fG;rw[kG,D,ζb];unfold fG.W1;refine eu P.events.l.length (λn s=>s.2=(n:Int)/\s.1=(((P.events.l.take n).countP (gI q):Nat):Int)) ⟨rfl,rfl⟩ ?_ ?_;rintro n ⟨o,_⟩ w ⟨e1,e2⟩;simp only at e1 e2;subst e1 e2;have z:=List.countP_le_length (p:=gI q) (l:=P.events.l.take n);rw[List.length_take]at z;have u:(P.events.l.take (n+1)).countP (gI q)=(P.events.l.take n).countP (gI q)+if gI q P.events.l[n]then 1 else 0:=by rw[take_add_one,ζd w,List.countP_append];show _+List.countP _ [P.events.l[n]]=_;rw[List.countP_cons,List.countP_nil];simp
 unfold fG.br;rw[ja w,bE,bJ w,ζb];generalize P.events.l[n]=e at u;have B:(bl (e.kind==2) (some (e.peer==(q:Int))) (some false):a_ X')=some (gI q e):=by unfold gI;cases e.kind==2<;>cases e.peer==(q:Int)<;>rfl
 rw[B,ζb,cE n Zaa];cases C:gI q e with|true=>rw[C]at u;rw[bE,bg,cE _ Zaa];exact⟨rfl,by simp only[u];rfl⟩|false=>rw[C]at u;rw[bC,bg];exact⟨rfl,by simp only[u];rfl⟩
 rintro⟨o,_⟩ ⟨e1,e2⟩;simp only at e1 e2;subst e1 e2;unfold fG.br;rw[iO,bC,bg];exact(bg _).2 (by rw[take_length])
end
section
variable{t:Z4}
def zX(b a:Int):X':=decide (b>=-1125899906842624)&&decide (a<=1125899906842624)
structure ue(low high:Int):Prop where
 le:low<=high
 lo:-1125899906842624<=low
 hi:high<=1125899906842624
theorem Dv(b a:Int):jr ⟨b,a⟩=some (!zX b a):=by
 unfold jr zX;have c:decide (b< -1125899906842624)= !decide (b>=-1125899906842624):=by rw[Bool.eq_iff_iff];simp
 have u:decide (a>1125899906842624)= !decide (a<=1125899906842624):=by rw[Bool.eq_iff_iff];simp
 simp only;rw[c,u];cases decide (b>=-1125899906842624)<;>cases decide (a<=1125899906842624)<;>rfl
theorem ue.of{b a:Int}(h:b<=a)(g:zX b a=true):ue b a:=by simp only[zX,ζh]at g;have:=of_decide_eq_true g.1;have:=of_decide_eq_true g.2;exact⟨h,Zaa,Zaa⟩
end
section
variable{t:Z4}
theorem HA(v:bT)(l h:Int)(r:Z4×Pred->a_ (bT×X')):c6.J2 v ⟨l,h⟩ r=some (⟨l,h⟩,zX l h):=by unfold c6.J2;rw[Dv,ζb,Bool.not_not]
theorem Eh{ok B:X'}(h:(ok&&B)=false)(p:Pred)(v a b:bT)(r:Z4×Pred->a_ (bT×X')):c6.J1 ok B p v a b r=some (⟨0,0⟩,false):=by unfold c6.J1;cases ok<;>cases B<;>first|rfl|cases h
theorem Sj{k:Int}(h:(tj k==1)=true):k<=8:=by unfold tj at h;by_cases g:k<=8;exact g;rw[if_neg g]at h;cases h
theorem Pred.parts{p:Pred}(B:fB p=true){c:Int}(a:cu.at AJ p.kind=some c):(p.l.l.length:Int)=c:=by obtain⟨-,-,h⟩:=xB B;rw[a]at h;exact(Option.some.inj h).symm
structure wO(t:Trace)(p:Pred):Prop where
 sm:p.Sm
 f:p.lQ fB=true
 r:p.lQ (s8 t)=true
 y:p.lQ zk=true
theorem wO.zM{p q:Pred}(h:wO t p)(B:q∈p.l.l):wO t q:=by have⟨a,u,w,z⟩:=h;rw[p.pz,ζh,all_eq_true]at u w z;exact⟨a.zM B,u.2 q B,w.2 q B,z.2 q B⟩
theorem wO.here{p:Pred}(h:wO t p):fB p=true/\s8 t p=true/\zk p=true:=by have⟨a,u,w,z⟩:=h;rw[p.pz,ζh]at u w z;exact⟨u.1,w.1,z.1⟩
theorem wO.int{p q:Pred}(h:wO t p)(a:p.kind<=12)(B:q∈p.l.l):q.kind<=8:=by have:=h.here.2.2;unfold zk at this;rw[all_eq_true]at this;have:=this q B;unfold Cu at this;rw[if_pos a]at this;exact Sj this
end
end Go.VE
namespace Go.VE
end Go.VE
namespace Go.VE
section
variable{t:Z4}{A:cu 200 bF}{P:bX}{v:Nat}
structure UE(t:Trace)(A:cu 200 bF)(c:Sl Int)(l:Sl (Sl Int)):Prop where
 hS:Small t
 hv:cU t=some true
 hV:VT t
 hM:fU t (bS t) A
 hC:Cons t A c.l
 vals:∀(p:Nat)(P:bX)(a:Int),t.procs.l[p]?=some P->c.l[p]?=some a->∃x,l.l[p]?=some x/\x.l=kX P a.toNat
end
end Go.VE
namespace Go.VE
section
variable{t:Z4}
theorem S8{p:Pred}(B:uh p=true)(a:wO t p):sS p=some (tj p.kind,0):=by have u:=a.sm;have hd:=B;simp only[uh,ζh,decide_eq_true_eq]at hd;unfold sS;rw[Ar u,B,ζb,bE,Ie u Zaa,a.y,ζb,bE,Bb];rfl
end
theorem Gm{a b x:Int}(c:a<=x)(B:x<=b)(y:Int){lo hi:Int}(D:lo<=a*y/\a*y<=hi)(G:lo<=b*y/\b*y<=hi):lo<=x*y/\x*y<=hi:=by by_cases h:0<=y;have p1:=Int.mul_le_mul_of_nonneg_right c h;have p2:=Int.mul_le_mul_of_nonneg_right B h;omega;have p1:=Int.mul_le_mul_of_nonpos_right c (show y<=0 by omega);have p2:=Int.mul_le_mul_of_nonpos_right B (show y<=0 by omega);omega
theorem Vt{a b c d x y lo hi:Int}(f:a<=x)(W:x<=b)(B:c<=y)(D:y<=d)(e:lo<=a*c/\a*c<=hi)(G:lo<=a*d/\a*d<=hi)(J:lo<=b*c/\b*c<=hi)(U:lo<=b*d/\b*d<=hi):lo<=x*y/\x*y<=hi:=by refine Gm f W y ?_ ?_;rw[mul_comm a y];rw[mul_comm a c]at e;rw[mul_comm a d]at G;exact Gm B D a e G;rw[mul_comm b y];rw[mul_comm b c]at J;rw[mul_comm b d]at U;exact Gm B D b J U
theorem YA{a b m:Int}(h:(if 0-a>a then 0-a else a)*(if 0-b>b then 0-b else b)<=m):-m<=a*b/\a*b<=m:=by
 have c:∀u w:Int,0<=u->0<=w->0<=u*w:=λu w=>Int.mul_nonneg;have e1:(0-a)*b=-(a*b):=by rw[zero_sub,Int.neg_mul]
 have e2:a*(0-b)=-(a*b):=by rw[zero_sub,Int.mul_neg]
 have e3:(0-a)*(0-b)=a*b:=by rw[zero_sub,zero_sub,Int.neg_mul_neg]
 by_cases z:0-a>a<;>by_cases B:0-b>b;rw[if_pos z,if_pos B]at h;have:=c (0-a) (0-b) Zaa Zaa;omega;rw[if_pos z,if_neg B]at h;have:=c (0-a) b Zaa Zaa;omega;rw[if_neg z,if_pos B]at h;have:=c a (0-b) Zaa Zaa;omega;rw[if_neg z,if_neg B]at h;have:=c a b Zaa Zaa;omega
def HT(k x y:Int):Int:=if k=5 then wrap .i64 (0-x)else if k=6 then wrap .i64 (x+y)else if k=7 then wrap .i64 (x-y)else wrap .i64 (x*y)
section
variable{t:Z4}{A:cu 200 bF}
end
section
variable{t:Z4}
end
section
variable{t:Z4}
end
theorem JL{α:Type}{f:α->X'}:∀{l:aZ α},l.any f=true->∃(k:Nat)(x:α),l[k]?=some x/\f x=true/\∀(j:Nat)(y:α),j<k->l[j]?=some y->f y=false
 |[],h=>by simp at h|a::r,h=>by by_cases B:f a=true;exact⟨0,a,rfl,B,λj y D=>absurd D Zaa⟩;rw[any_cons,Bool.or_eq_true]at h;have⟨k,x,b,G,J⟩:=JL (h.resolve_left B);refine⟨k+1,x,by simpa using b,G,λj y D u=>?_⟩;cases j with|zero=>simp at u;subst u;simpa using B|succ j=>exact J j y Zaa (by simpa using u)
section
variable{t:Z4}
theorem PA(d:Small t){q:Pred}(b:q.kind=2)(a:s8 t q=true):∃(n k:Nat)(P:bX)(v:Var),q.proc=n/\t.procs.l[n]?=some P/\P.vars.l[k]?=some v/\(toList v.name==toList q.name)=true/\∀(j:Nat)(w:Var),j<k->P.vars.l[j]?=some w->(toList w.name==toList q.name)=false:=by unfold s8 at a;rw[if_pos (by simpa using b)]at a;simp only[ζh]at a;obtain⟨C,-,u⟩:=a;have⟨n,z,B⟩:=vV (t:=t) (p:=q.proc) (by simp only[ζh];exact C);unfold NV at u;rw[z,bJ B]at u;have⟨k,v,c,D,G⟩:=JL u;exact⟨n,k,_,v,z,ζd B,c,D,G⟩
theorem PU(d:Small t)(f:cU t=some true)(D:Ok t){q:Pred}(G:fB q=true)(b:s8 t q=true)(i:q.kind<=4):∃c a,gM t q=some ⟨c,a⟩/\c<=a:=by obtain⟨k1,-,-⟩:=xB G;rcases(show q.kind=1\/q.kind=2\/q.kind=3\/q.kind=4 by omega)with h|h|h|h;refine⟨q.n,q.n,?_,Int.le_refl _⟩;unfold gM;rw[show(q.kind==1)=true from by simpa using h,bE,Ul];rfl;have⟨n,k,P,v,u,w,z,g,C⟩:=PA d h b;have⟨⟨c,a,e⟩,g1,g2,g3,g4⟩:=HX d f D w (name:=q.name) z g C;simp only at g2 g3 g4;subst g2;refine⟨c,a,?_,g4.2 _ g3.1⟩;unfold gM;rw[h,show((2:Int)==1)=false from rfl,bC,show((2:Int)==3)=false from rfl,bC,show((2:Int)==4)=false from rfl,bC,u,g1];rfl;unfold s8 at b;rw[if_neg (by simp[h]),if_pos (by simpa using h)]at b;simp only[ζh]at b;have⟨n,u,B⟩:=vV (t:=t) (p:=q.proc) (by simp only[ζh];exact b.1);refine⟨0,len t.procs.l[n].events,?_,by simp only[len];omega⟩;unfold gM;rw[h,show((3:Int)==1)=false from rfl,bC,show((3:Int)==3)=true from rfl,bE,u,bJ B];rfl;unfold s8 at b;rw[if_neg (by simp[h]),if_neg (by simp[h]),if_pos (by simpa using h)]at b;simp only[ζh]at b;have⟨n,u,B⟩:=vV (t:=t) (p:=q.proc) (by simp only[ζh];exact b.1);have⟨m,I,J⟩:=vV (t:=t) (p:=q.peer) (by simp only[ζh];exact b.2.1);have w:=ζd B;refine⟨0,((t.procs.l[n].events.l.countP (gI m):Nat):Int),?_,Zaa⟩;unfold gM;rw[h,show((4:Int)==1)=false from rfl,bC,show((4:Int)==3)=false from rfl,bC,show((4:Int)==4)=true from rfl,bE,u,I,Dc d w];rfl
theorem nZ{a b:Int}(B:-1125899906842624<=a/\a<=1125899906842624)(D:-1125899906842624<=b/\b<=1125899906842624):∃x,ij a b=some x:=by
 unfold ij qU;by_cases c:a=0;subst c;exact⟨_,rfl⟩;rw[show(a==0)=false from by simpa using c,bC,ζb];by_cases d:b=0;subst d;exact⟨_,rfl⟩;rw[show(b==0)=false from by simpa using d,bC,ζb,ζb,eH (0-b) Zaa Zaa];have:∀k m:Int,m≠0->∃x,AI .i64 k m=some x:=λk m u=>by unfold AI;rw[if_neg u];exact⟨_,rfl⟩
 have⟨x,w⟩:=this 1125899906842624 (if 0-b>b then 0-b else b) (by split<;>omega);rw[w,ζb];cases decide ((if wrap .i64 (0-a)>a then wrap .i64 (0-a)else a)>x)<;>cases(decide (a<0)==decide (b<0))<;>exact⟨_,rfl⟩
theorem Ii{p:Pred}(i:5<=p.kind/\p.kind<=8){a b c d:Int}(g:ue a b)(B:ue c d)(v:bT)(r:Z4×Pred->a_ (bT×X')):
 ∃f e,c6.J1 true true p v ⟨a,b⟩ ⟨c,d⟩ r=some (⟨f,e⟩,zX f e)/\f<=e:=by
 have⟨a1,a2,a3⟩:=g;have⟨L,O,Q⟩:=B;unfold c6.J1;rw[bE,ζb,show(!true)=false from rfl,bC];rcases(show p.kind=5\/p.kind=6\/p.kind=7\/p.kind=8 by omega)with h|h|h|h<;>rw[h]
 .refine⟨-b,-a,?_,Zaa⟩
  rw[show((5:Int)==5)=true from rfl,bE,HA];simp only;rw[eH (0-b) Zaa Zaa,eH (0-a) Zaa Zaa,show(0:Int)-b=-b from Zaa,show(0:Int)-a=-a from Zaa]
 .refine⟨a+c,b+d,?_,Zaa⟩
  rw[show((6:Int)==5)=false from rfl,bC,show((6:Int)==6)=true from rfl,bE,HA];simp only;rw[eH (a+c) Zaa Zaa,eH (b+d) Zaa Zaa]
 .refine⟨a-d,b-c,?_,Zaa⟩
  rw[show((7:Int)==5)=false from rfl,bC,show((7:Int)==6)=false from rfl,bC,show((7:Int)==7)=true from rfl,bE,HA];simp only;rw[eH (a-d) Zaa Zaa,eH (b-c) Zaa Zaa]
 have⟨w,C⟩:=nZ (a:=a) (b:=c) ⟨Zaa,Zaa⟩ ⟨Zaa,Zaa⟩
 have⟨x,D⟩:=nZ (a:=a) (b:=d) ⟨Zaa,Zaa⟩ ⟨Zaa,Zaa⟩
 have⟨y,G⟩:=nZ (a:=b) (b:=c) ⟨Zaa,Zaa⟩ ⟨Zaa,Zaa⟩
 have⟨z,I⟩:=nZ (a:=b) (b:=d) ⟨Zaa,Zaa⟩ ⟨Zaa,Zaa⟩
 refine⟨if(if z<y then z else y)<(if x<w then x else w)then(if z<y then z else y)else(if x<w then x else w),if(if z>y then z else y)>(if x>w then x else w)then(if z>y then z else y)else(if x>w then x else w),?_,?_⟩
 .rw[show((8:Int)==5)=false from rfl,bC,show((8:Int)==6)=false from rfl,bC,show((8:Int)==7)=false from rfl,bC];simp only;rw[C,D,G,I];simp only[ζb];rw[Us,ζb,HA]
 have J:(if z<y then z else y)<=(if z>y then z else y):=by split<;>split<;>omega
 have u:(if x<w then x else w)<=(if x>w then x else w):=by split<;>split<;>omega
 split<;>split<;>omega
theorem Wf(g:Small t)(k:cU t=some true)(U:Ok t)(p:Pred):wO t p->p.kind<=8->∀n,p.dp<=n->
 ∃i ok,iz (λr(z:Z4×Pred)=>dw z.1 z.2 r) n (t,p)=some (i,ok)/\(ok=true->ue i.low i.high):=by
 induction p using Pred.ind with
 |h p u=>
  intro e m n Z;have hd:=p.zA;have⟨w,l,o⟩:=e.here;obtain⟨k1,-,-⟩:=xB w;rw[lT Zaa]
  have u:=λq G=>u q G (e.zM G) (e.int Zaa G) (n-1) (by have:=Pred.rT G;omega)
  show∃i ok,dw t p (iz (λr(z:Z4×Pred)=>dw z.1 z.2 r) (n-1))=some (i,ok)/\_
  generalize iz (λr(z:Z4×Pred)=>dw z.1 z.2 r) (n-1)=R at u⊢
  unfold dw
  by_cases T:p.kind<=4
  .have I:p.l.l.length=0:=by
    have:=Pred.parts w (c:=0) (by rcases(show p.kind=1\/p.kind=2\/p.kind=3\/p.kind=4 by omega)with h|h|h|h<;>(rw[h];rfl))
    omega
   have⟨b,a,g1,g2⟩:=PU g k U w l T;refine⟨⟨b,a⟩,zX b a,?_,λh=>ue.of g2 h⟩
   rw[show(len p.l==0)=true from by simp[len,I],bE,g1,ζb,Dv,ζb,Bool.not_not]
  by_cases W:p.kind=5
  .have B:p.l.l.length=1:=by
    have:=Pred.parts w (c:=1) (by rw[W];rfl)
    omega
   have d:0<p.l.l.length:=Zaa
   have⟨i,ok,g1,g3⟩:=u _ (getElem_mem d);have J:idx p.l 0=some p.l.l[0]:=bJ (i:=0) d;rw[show(len p.l==0)=false from by simp[len,B],bC,J,ζb,g1,ζb,show(len p.l==2)=false from by simp[len,B],bC]
   simp only
   cases ok with
   |false=>rw[Eh rfl];exact⟨_,false,rfl,λh=>by cases h⟩|true=>
    have⟨b,a,L,O⟩:=Ii (p:=p) ⟨Zaa,Zaa⟩ (g3 rfl) (g3 rfl) ⟨0,0⟩ R
    exact⟨_,_,L,λh=>ue.of O h⟩
  have C:p.l.l.length=2:=by have:=Pred.parts w (c:=2) (by rcases(show p.kind=6\/p.kind=7\/p.kind=8 by omega)with h|h|h<;>(rw[h];rfl));omega
  have d:0<p.l.l.length:=Zaa
  have f:1<p.l.l.length:=Zaa
  have⟨i,ok,g1,g3⟩:=u _ (getElem_mem d);have⟨j,D,X,Y⟩:=u _ (getElem_mem f);have J:idx p.l 0=some p.l.l[0]:=bJ (i:=0) d;have Q:idx p.l 1=some p.l.l[1]:=bJ (i:=1) f;rw[show(len p.l==0)=false from by simp[len,C],bC,J,ζb,g1,ζb,show(len p.l==2)=true from by simp[len,C],bE,Q,ζb,X,ζb]
  simp only
  cases S:ok&&D with
  |false=>rw[Eh S];exact⟨_,false,rfl,λh=>by cases h⟩|true=>
   simp only[ζh]at S;obtain⟨rfl,rfl⟩:=S;have⟨b,a,L,O⟩:=Ii (p:=p) ⟨Zaa,Zaa⟩ (g3 rfl) (Y rfl) ⟨0,0⟩ R
   exact⟨_,_,L,λh=>ue.of O h⟩
theorem Yz(d:Small t)(e:cU t=some true)(B:Ok t)(p:Pred):wO t p->p.dp<=20->∀n,p.dp<=n->∃b,iz (λr(z:Z4×Pred)=>iq z.1 z.2 r) n (t,p)=some b:=by induction p using Pred.ind with|h p w=>intro a hd n D;have C:=p.zA;rw[lT Zaa];have w:=λq u=>w q u (a.zM u) (by have:=Pred.rT u;omega) (n-1) (by have:=Pred.rT u;omega);show∃b,iq t p (iz (λr(z:Z4×Pred)=>iq z.1 z.2 r) (n-1))=some b;generalize iz (λr(z:Z4×Pred)=>iq z.1 z.2 r) (n-1)=R at w⊢;unfold iq;rw[Bb,ζb];by_cases c:p.kind<=8;rw[show(tj p.kind==1)=true from by simp[tj,c],bE];obtain⟨i,ok,g1,-⟩:=Wf d e B p a c 100000 Zaa;exact⟨ok,by rw[show c6 t p=_ from g1];rfl⟩;rw[show(tj p.kind==1)=false from by simp[tj,c],bC];let g:Pred->X':=λq=>(R (t,q)).getD false;have j:∀q∈p.l.l,R (t,q)=some (g q):=λq u=>(by have⟨b,k⟩:=w q u;show _=some ((R (t,q)).getD false);rw[k];rfl);rw[Cm _ a.sm.len,Aw (f:=λq=> !g q) (λq u=>by unfold oT;rw[j q u];rfl)];exact⟨_,rfl⟩
theorem XP(a:Small t)(D:(bS t).length<1073741824){p:Pred}(B:p.Sm):
 ∃e,rH t p=some e/\(e=0->cU t=some true/\VT t/\uh p=true/\wO t p):=by
 obtain⟨z,c,w,-⟩:=I8 a D;unfold rH;rw[c,ζb]
 cases z with
 |false=>exact⟨1,rfl,λh=>by cases h⟩|true=>
  have d:=w rfl;rw[bE,Ar B,ζb]
  cases C:uh p with
  |false=>exact⟨1,rfl,λh=>by cases h⟩|true=>
   have u:=C;simp only[uh,ζh]at u;have hd:=of_decide_eq_true u.2.1;unfold vk;rw[show(!true)=false from rfl,ζb,bC,Jy a B Zaa,ζb]
   cases g:p.lQ (s8 t)with
   |false=>exact⟨13,rfl,λh=>by cases h⟩|true=>
    rw[bE,Ie B Zaa,ζb]
    cases G:p.lQ zk with
    |false=>exact⟨14,rfl,λh=>by cases h⟩|true=>
     have f:wO t p:=⟨B,u.2.2,g,G⟩;have⟨b,g1⟩:=Yz a c d.ok p f hd 100000 Zaa
     rw[bE,g1,ζb]
     cases b with
     |false=>exact⟨9,rfl,λh=>by cases h⟩|true=>exact⟨0,rfl,λ_=>⟨rfl,d,rfl,f⟩⟩
end
theorem yu{a b x:Int}(B:-1125899906842624<=a/\a<=1125899906842624)(D:-1125899906842624<=b/\b<=1125899906842624)(h:ij a b=some x)(G:-1125899906842624<=x/\x<=1125899906842624):a*b=x:=by
 unfold ij qU at h;by_cases c:a=0;subst c;rw[show(0:Int)*b=0 from Zaa];exact Option.some.inj h;rw[show(a==0)=false from by simpa using c,bC,ζb]at h;by_cases d:b=0;subst d;rw[show a*(0:Int)=0 from Zaa];exact Option.some.inj h;rw[show(b==0)=false from by simpa using d,bC,ζb,ζb,eH (0-b) Zaa Zaa,eH (0-a) Zaa Zaa]at h;have u:0<(if 0-b>b then 0-b else b):=by split<;>omega
 unfold AI at h;rw[if_neg Zaa,ζb,Int.tdiv_eq_ediv_of_nonneg Zaa]at h;have hd:(1125899906842624:Int) / (if 0-b>b then 0-b else b)<=1125899906842624:=Int.ediv_le_self _ Zaa;have w:0<=(1125899906842624:Int) / (if 0-b>b then 0-b else b):=Int.ediv_nonneg Zaa Zaa;rw[eH ((1125899906842624:Int) / (if 0-b>b then 0-b else b)) Zaa Zaa]at h;by_cases e:(if 0-a>a then 0-a else a)>(1125899906842624:Int) / (if 0-b>b then 0-b else b);rw[decide_eq_true e,bE,eH (0-1125899906842625) Zaa Zaa]at h;exfalso;revert h;cases(decide (a<0)==decide (b<0))<;>intro h;have:=Option.some.inj h;omega;have:=Option.some.inj h;omega;rw[decide_eq_false e,bC]at h;have z:=YA (Int.mul_le_of_le_ediv u (show(if 0-a>a then 0-a else a)<=(1125899906842624:Int) / (if 0-b>b then 0-b else b)from Zaa));rw[eH (a*b) Zaa Zaa]at h;exact Option.some.inj h
def MY(k x y:Int):Int:=if k=5 then 0-x else if k=6 then x+y else if k=7 then x-y else x*y
theorem Jv{p:Pred}(i:5<=p.kind/\p.kind<=8){a b c d x y:Int}(g:ue a b)(U:ue c d)(D:a<=x/\x<=b)(G:c<=y/\y<=d)(v:bT)(r:Z4×Pred->a_ (bT×X')):
 ∃f e,c6.J1 true true p v ⟨a,b⟩ ⟨c,d⟩ r=some (⟨f,e⟩,zX f e)/\f<=e/\(zX f e=true->f<=MY p.kind x y/\MY p.kind x y<=e):=by
 have⟨a1,a2,a3⟩:=g;have⟨Z,j,k⟩:=U;unfold c6.J1;rw[bE,ζb,show(!true)=false from rfl,bC];rcases(show p.kind=5\/p.kind=6\/p.kind=7\/p.kind=8 by omega)with h|h|h|h<;>rw[h]
 .refine⟨-b,-a,?_,Zaa,λ_=>?_⟩
  .rw[show((5:Int)==5)=true from rfl,bE,HA];simp only;rw[eH (0-b) Zaa Zaa,eH (0-a) Zaa Zaa,show(0:Int)-b=-b from Zaa,show(0:Int)-a=-a from Zaa]
  show -b<=(0-x)/\(0-x)<=-a;omega
 .refine⟨a+c,b+d,?_,Zaa,λ_=>?_⟩
  .rw[show((6:Int)==5)=false from rfl,bC,show((6:Int)==6)=true from rfl,bE,HA];simp only;rw[eH (a+c) Zaa Zaa,eH (b+d) Zaa Zaa]
  show a+c<=(x+y)/\(x+y)<=b+d;omega
 .refine⟨a-d,b-c,?_,Zaa,λ_=>?_⟩
  .rw[show((7:Int)==5)=false from rfl,bC,show((7:Int)==6)=false from rfl,bC,show((7:Int)==7)=true from rfl,bE,HA];simp only;rw[eH (a-d) Zaa Zaa,eH (b-c) Zaa Zaa]
  show a-d<=(x-y)/\(x-y)<=b-c;omega
 have⟨w,I⟩:=nZ (a:=a) (b:=c) ⟨Zaa,Zaa⟩ ⟨Zaa,Zaa⟩
 have⟨z,J⟩:=nZ (a:=a) (b:=d) ⟨Zaa,Zaa⟩ ⟨Zaa,Zaa⟩
 have⟨m,O⟩:=nZ (a:=b) (b:=c) ⟨Zaa,Zaa⟩ ⟨Zaa,Zaa⟩
 have⟨n,Q⟩:=nZ (a:=b) (b:=d) ⟨Zaa,Zaa⟩ ⟨Zaa,Zaa⟩
 refine⟨if(if n<m then n else m)<(if z<w then z else w)then(if n<m then n else m)else(if z<w then z else w),if(if n>m then n else m)>(if z>w then z else w)then(if n>m then n else m)else(if z>w then z else w),?_,?_,λB=>?_⟩
 .rw[show((8:Int)==5)=false from rfl,bC,show((8:Int)==6)=false from rfl,bC,show((8:Int)==7)=false from rfl,bC];simp only;rw[I,J,O,Q];simp only[ζb];rw[Us,ζb,HA]
 .have T:(if n<m then n else m)<=(if n>m then n else m):=by split<;>split<;>omega
  have S:(if z<w then z else w)<=(if z>w then z else w):=by split<;>split<;>omega
  split<;>split<;>omega
 generalize W:(if(if n<m then n else m)<(if z<w then z else w)then(if n<m then n else m)else(if z<w then z else w))=L at B⊢;generalize X:(if(if n>m then n else m)>(if z>w then z else w)then(if n>m then n else m)else(if z>w then z else w))=H at B⊢;simp only[zX,ζh]at B;have o1:=of_decide_eq_true B.1;have o2:=of_decide_eq_true B.2;have l:L<=n/\L<=m/\L<=z/\L<=w:=by rw[<-W];have g1:(if n<m then n else m)<=n/\(if n<m then n else m)<=m:=(by split<;>omega);have g2:(if z<w then z else w)<=z/\(if z<w then z else w)<=w:=(by split<;>omega);generalize(if n<m then n else m)=u at g1;generalize(if z<w then z else w)=Y at g2;split<;>omega
 have o:n<=H/\m<=H/\z<=H/\w<=H:=by rw[<-X];have g1:n<=(if n>m then n else m)/\m<=(if n>m then n else m):=(by split<;>omega);have g2:z<=(if z>w then z else w)/\w<=(if z>w then z else w):=(by split<;>omega);generalize(if n>m then n else m)=u at g1;generalize(if z>w then z else w)=Y at g2;split<;>omega
 have t1:=yu ⟨Zaa,Zaa⟩ ⟨Zaa,Zaa⟩ I Zaa
 have t2:=yu ⟨Zaa,Zaa⟩ ⟨Zaa,Zaa⟩ J Zaa
 have t3:=yu ⟨Zaa,Zaa⟩ ⟨Zaa,Zaa⟩ O Zaa
 have t4:=yu ⟨Zaa,Zaa⟩ ⟨Zaa,Zaa⟩ Q Zaa
 have C:=Vt (lo:=L) (hi:=H) D.1 D.2 G.1 G.2 Zaa Zaa Zaa Zaa
 exact C
section
variable{t:Z4}{A:cu 200 bF}
theorem V7{c:Zg}{l:Zb}(h:UE t A c l){q:Pred}(E:fB q=true)(g:s8 t q=true)(M:q.kind<=4):
 ∃i d x,gM t q=some ⟨i,d⟩/\(∀R,cN ⟨t,c,l⟩ q R=some x)/\i<=x/\x<=d:=by
 have⟨o,s,r,y,j,I⟩:=h;obtain⟨k1,-,-⟩:=xB E;rcases(show q.kind=1\/q.kind=2\/q.kind=3\/q.kind=4 by omega)with h|h|h|h
 .refine⟨q.n,q.n,q.n,?_,λR=>?_,Int.le_refl _,Int.le_refl _⟩
  .unfold gM;rw[show(q.kind==1)=true from by simpa using h,bE,Ul];rfl
  unfold cN;rw[h];rfl
 .have⟨n,k,P,v,D,C,J,h1,W⟩:=PA o h g;have⟨⟨i,d,e⟩,g1,g2,g3,g4⟩:=HX o s r.ok C (name:=q.name) J h1 W;simp only at g2 g3 g4;subst g2;have S:=(ζe.1 J).1;have B:=(ζe.1 C).1;have⟨a,L⟩:=j.1.at_ B;have⟨a0,a1⟩:=j.1.2 n a P L C;have⟨x,Z,T⟩:=I n P a C L;have G:vr P k a.toNat∈CM P k P.events.l.length:=Qu Zaa
  refine⟨i,d,vr P k a.toNat,?_,λR=>?_,g3.2 _ G,g4.2 _ G⟩
  .unfold gM;rw[h,show((2:Int)==1)=false from rfl,bC,show((2:Int)==3)=false from rfl,bC,show((2:Int)==4)=false from rfl,bC,D,g1];rfl
  unfold cN;rw[h,show((2:Int)==1)=false from rfl,bC,show((2:Int)==2)=true from rfl,bE];unfold oG;simp only;rw[D,kG,C,ζb,D2 (p:=λz=>kE z q) (f:=λw=>toList w.name==toList q.name) (λ_ _=>rfl) (o.2 P (mem_of_getElem? C)).2.1,K_ J h1 W,ζb,kG,Z,ζb,kG,T,HZ _ S]
  rfl
 .unfold s8 at g;rw[if_neg (by simp[h]),if_pos (by simpa using h)]at g
  simp only[ζh]at g;have⟨n,D,O⟩:=vV (t:=t) (p:=q.proc) (by simp only[ζh];exact g.1)
  have⟨a,L⟩:=j.1.at_ O;have⟨a0,a1⟩:=j.1.2 n a _ L (ζd O);refine⟨0,len t.procs.l[n].events,a,?_,λR=>?_,Zaa,by simp only[len];omega⟩
  .unfold gM;rw[h,show((3:Int)==1)=false from rfl,bC,show((3:Int)==3)=true from rfl,bE,D,bJ O];rfl
  unfold cN;rw[h,show((3:Int)==1)=false from rfl,bC,show((3:Int)==2)=false from rfl,bC,show((3:Int)==3)=true from rfl,bE];simp only;rw[D,kG,L];rfl
 unfold s8 at g;rw[if_neg (by simp[h]),if_neg (by simp[h]),if_pos (by simpa using h)]at g
 simp only[ζh]at g;have⟨n,D,O⟩:=vV (t:=t) (p:=q.proc) (by simp only[ζh];exact g.1)
 have⟨m,X,B⟩:=vV (t:=t) (p:=q.peer) (by simp only[ζh];exact g.2.1)
 have C:=ζd O;have F:=ζd B;have⟨a,L⟩:=j.1.at_ O;have⟨b,H⟩:=j.1.at_ B;have⟨⟨u,e2⟩,K,U,Q⟩:=Uh o s r y j O B;simp only at U Q;rw[GH r y j C F L H]at Q;have N:((t.procs.l[n].events.l.take a.toNat).countP λe=>gI m e&&rS t c.l e)<=t.procs.l[n].events.l.countP (gI m):=by refine le_trans (List.countP_mono_left λe _ Y=>?_) (List.Sublist.countP_le (List.take_sublist a.toNat _));simp only[ζh]at Y;exact Y.1
 refine⟨0,((t.procs.l[n].events.l.countP (gI m):Nat):Int),len u,?_,λR=>?_,by simp only[len];omega,by simp only[len];omega⟩
 .unfold gM;rw[h,show((4:Int)==1)=false from rfl,bC,show((4:Int)==3)=false from rfl,bC,show((4:Int)==4)=true from rfl,bE,D,X,Dc o C];rfl
 unfold cN;rw[h,show((4:Int)==1)=false from rfl,bC,show((4:Int)==2)=false from rfl,bC,show((4:Int)==3)=false from rfl,bC,show((4:Int)==4)=true from rfl,bE];unfold pM;simp only;rw[D,X,K];rfl
noncomputable abbrev FY(n:Nat)(v:cq)(q:Pred):QQ:=iz (λr(z:cq×Pred)=>cN z.1 z.2 r) n (v,q)
noncomputable abbrev Gd(n:Nat)(t:Z4)(q:Pred):a_ (bT×X'):=iz (λr(z:Z4×Pred)=>dw z.1 z.2 r) n (t,q)
def ZJ(t:Z4)(c:Zg)(l:Zb)(q:Pred)(i:bT)(ok:X')(x:Int):Prop:=(∀n,q.dp<=n->Gd n t q=some (i,ok)/\FY n ⟨t,c,l⟩ q=some x)/\(ok=true->∃b a,i=⟨b,a⟩/\ue b a/\b<=x/\x<=a)
theorem ue.HT{a b c d x y k f e:Int}(g:ue a b)(D:ue c d)(G:a<=x/\x<=b)(J:c<=y/\y<=d)(B:zX f e=true)(h:f<=MY k x y/\MY k x y<=e):HT k x y=MY k x y:=by simp only[zX,ζh]at B;have o1:=of_decide_eq_true B.1;have o2:=of_decide_eq_true B.2;have⟨a1,a2,a3⟩:=g;have⟨u,w,z⟩:=D;unfold VE.HT MY at *;split;exact eH _ Zaa Zaa;split;exact eH _ Zaa Zaa;split;exact eH _ Zaa Zaa;rw[if_neg (by assumption),if_neg (by assumption),if_neg (by assumption)]at h;exact eH _ Zaa Zaa
theorem XU{c:Zg}{l:Zb}(h:UE t A c l)(q:Pred):wO t q->q.kind<=8->∃i ok x,ZJ t c l q i ok x:=by induction q using Pred.ind with|h q O=>intro o hk;have hd:=q.zA;have⟨Q,N,hy⟩:=o.here;obtain⟨k1,-,-⟩:=xB Q;have O:=λq Z=>O q Z (o.zM Z) (o.int Zaa Z);by_cases P:q.kind<=4;have V:q.l.l.length=0:=(by have:=Pred.parts Q (c:=0) (by rcases(show q.kind=1\/q.kind=2\/q.kind=3\/q.kind=4 by omega)with h|h|h|h<;>(rw[h];rfl));omega);have⟨k,f,x,g1,g2,g3,g5⟩:=V7 h Q N P;refine⟨⟨k,f⟩,zX k f,x,λn w=>⟨?_,?_⟩,λab=>⟨k,f,rfl,ue.of Zaa ab,g3,g5⟩⟩;unfold Gd;rw[lT Zaa];show dw t q _=_;unfold dw;rw[show(len q.l==0)=true from by simp[len,V],bE,g1,ζb,Dv,ζb,Bool.not_not];unfold FY;rw[lT Zaa];exact g2 _;have u:∀j:Int,j<5->(q.kind==j)=false:=λj hj=>(by simp;omega);by_cases F:q.kind=5;have S:q.l.l.length=1:=(by have:=Pred.parts Q (c:=1) (by rw[F];rfl);omega);have m:0<q.l.l.length:=Zaa;have⟨i,ok,x,g,g3⟩:=O _ (getElem_mem m);have ad:=Pred.rT (getElem_mem m);have T:idx q.l 0=some q.l.l[0]:=bJ (i:=0) m;have D:∀n,q.dp<=n->Gd n t q=c6.J1 ok true q ⟨0,0⟩ i i (λ_=>none):=λn w=>(by have e:=(g (n-1) Zaa).1;unfold Gd at e⊢;rw[lT Zaa];show dw t q _=_;generalize iz (λr(z:Z4×Pred)=>dw z.1 z.2 r) (n-1)=R at e⊢;unfold dw;rw[show(len q.l==0)=false from by simp[len,S],bC,T,ζb,e,ζb,show(len q.l==2)=false from by simp[len,S],bC];rfl);have B:∀n,q.dp<=n->FY n ⟨t,c,l⟩ q=some (HT q.kind x x):=λn w=>(by have e:=(g (n-1) Zaa).2;unfold FY at e⊢;rw[lT Zaa];show cN ⟨t,c,l⟩ q _=_;generalize iz (λr(z:cq×Pred)=>cN z.1 z.2 r) (n-1)=R at e⊢;unfold cN;rw[u 1 Zaa,u 2 Zaa,u 3 Zaa,u 4 Zaa,bC,bC,bC,bC,F,show((5:Int)==5)=true from rfl,bE,T,ζb,e];rfl);(cases ok with|false=>rw[Eh rfl]at D;exact⟨_,false,_,λn w=>⟨D n w,B n w⟩,λh=>by cases h⟩|true=>obtain⟨a,b,rfl,G,I,x2⟩:=g3 rfl;have⟨k,f,s,v,U⟩:=Jv (p:=q) ⟨Zaa,Zaa⟩ G G ⟨I,x2⟩ ⟨I,x2⟩ ⟨0,0⟩ (λ_=>none);refine⟨_,_,_,λn w=>⟨(D n w).trans s,B n w⟩,λh=>⟨k,f,rfl,ue.of v h,?_⟩⟩;rw[ue.HT G G ⟨I,x2⟩ ⟨I,x2⟩ h (U h)];exact U h);have W:q.l.l.length=2:=(by have:=Pred.parts Q (c:=2) (by rcases(show q.kind=6\/q.kind=7\/q.kind=8 by omega)with h|h|h<;>(rw[h];rfl));omega);have m:0<q.l.l.length:=Zaa;have E:1<q.l.l.length:=Zaa;have⟨i,ok,x,g,g3⟩:=O _ (getElem_mem m);have⟨j,C,y,H,q3⟩:=O _ (getElem_mem E);have ad:=Pred.rT (getElem_mem m);have ae:=Pred.rT (getElem_mem E);have T:idx q.l 0=some q.l.l[0]:=bJ (i:=0) m;have X:idx q.l 1=some q.l.l[1]:=bJ (i:=1) E;have D:∀n,q.dp<=n->Gd n t q=c6.J1 ok C q ⟨0,0⟩ i j (λ_=>none):=λn w=>(by have e:=(g (n-1) Zaa).1;have J:=(H (n-1) Zaa).1;unfold Gd at e J⊢;rw[lT Zaa];show dw t q _=_;generalize iz (λr(z:Z4×Pred)=>dw z.1 z.2 r) (n-1)=R at e J⊢;unfold dw;rw[show(len q.l==0)=false from by simp[len,W],bC,T,X];simp only[ζb];simp only[e,J,ζb];rw[show(len q.l==2)=true from by simp[len,W]];rfl);have B:∀n,q.dp<=n->FY n ⟨t,c,l⟩ q=some (HT q.kind x y):=λn w=>(by have e:=(g (n-1) Zaa).2;have J:=(H (n-1) Zaa).2;unfold FY at e J⊢;rw[lT Zaa];show cN ⟨t,c,l⟩ q _=_;generalize iz (λr(z:cq×Pred)=>cN z.1 z.2 r) (n-1)=R at e J⊢;unfold cN;rw[u 1 Zaa,u 2 Zaa,u 3 Zaa,u 4 Zaa,bC,bC,bC,bC,T,X];simp only[ζb];simp only[e,J,ζb];unfold VE.HT;rcases(show q.kind=6\/q.kind=7\/q.kind=8 by omega)with h|h|h<;>rw[h]<;>rfl);cases L:ok&&C with|false=>simp only[Eh L]at D;exact⟨_,false,_,λn w=>⟨D n w,B n w⟩,λh=>by cases h⟩|true=>simp only[ζh]at L;obtain⟨rfl,rfl⟩:=L;obtain⟨a,b,rfl,G,I,x2⟩:=g3 rfl;obtain⟨c',d,rfl,Y,K,M⟩:=q3 rfl;have⟨k,f,s,v,U⟩:=Jv (p:=q) ⟨Zaa,Zaa⟩ G Y ⟨I,x2⟩ ⟨K,M⟩ ⟨0,0⟩ (λ_=>none);refine⟨_,_,_,λn w=>⟨(D n w).trans s,B n w⟩,λh=>⟨k,f,rfl,ue.of v h,?_⟩⟩;rw[ue.HT G Y ⟨I,x2⟩ ⟨K,M⟩ h (U h)];exact U h
noncomputable abbrev Ox(n:Nat)(v:cq)(q:Pred):a_ X':=iz (λr(z:cq×Pred)=>dV z.1 z.2 r) n (v,q)
theorem wO.bool{q:Pred}(a:wO t q)(g:13<=q.kind){k:Pred}(b:k∈q.l.l):9<=k.kind:=by have:=a.here.2.2;unfold zk at this;rw[all_eq_true]at this;have:=this k b;unfold Cu tj at this;rw[if_neg (show¬q.kind<=12 by omega)]at this;by_cases u:k.kind<=8;rw[if_pos u]at this;cases this;omega
theorem YN{q:Pred}(k2:q.kind<=21)(h:q.lQ (λk=> !Bw k)=true):q.kind<=17/\∀k∈q.l.l,k.lQ (λk=> !Bw k)=true:=by rw[q.pz,ζh,all_eq_true]at h;refine⟨?_,h.2⟩;have:=h.1;unfold Bw at this;by_cases g:q.kind>=18;rw[decide_eq_true g,decide_eq_true k2]at this;cases this;omega
theorem Tj{c:Zg}{l:Zb}(h:UE t A c l)(q:Pred):wO t q->9<=q.kind->q.dp<=20->q.lQ (λk=> !Bw k)=true->∃x,∀n,q.dp<=n->Ox n ⟨t,c,l⟩ q=some x:=by induction q using Pred.ind with|h q O=>intro a d W G;have hd:=q.zA;have⟨I,j,m⟩:=a.here;obtain⟨k1,k2,-⟩:=xB I;have⟨X,G⟩:=YN Zaa G;have O:=λg q J=>O q J (a.zM J) (a.bool g J) (by have:=Pred.rT J;omega) (G q J);have B:∀n,q.dp<=n->Ox n ⟨t,c,l⟩ q=dV ⟨t,c,l⟩ q (λz=>Ox (n-1) z.1 z.2):=λn C=>(by unfold Ox;rw[lT Zaa]);by_cases S:q.kind<=12;have Z:=Pred.parts I (c:=2) (by rcases(show q.kind=9\/q.kind=10\/q.kind=11\/q.kind=12 by omega)with g|g|g|g<;>(rw[g];rfl));have u:0<q.l.l.length:=Zaa;have w:1<q.l.l.length:=Zaa;have D:∀k∈q.l.l,∃x,fc ⟨t,c,l⟩ k=some x:=λk d=>(by obtain⟨i,ok,x,g,-⟩:=XU h k (a.zM d) (a.int S d);exact⟨x,(g 100000 (by have:=Pred.rT d;omega)).2⟩);have⟨x,Q⟩:=D _ (getElem_mem u);have⟨y,T⟩:=D _ (getElem_mem w);have key:∀R,∃b,dV ⟨t,c,l⟩ q R=some b/\∀e,dV ⟨t,c,l⟩ q e=some b:=λR=>(by unfold dV;rw[show idx q.l 0=some q.l.l[0]from bJ (i:=0) u,show idx q.l 1=some q.l.l[1]from bJ (i:=1) w];simp only[ζb,Q,T];rcases(show q.kind=9\/q.kind=10\/q.kind=11\/q.kind=12 by omega)with g|g|g|g<;>rw[g]<;>exact⟨_,rfl,λ_=>rfl⟩);obtain⟨b,-,f⟩:=key (λ_=>none);exact⟨b,λn C=>by rw[B n C,f]⟩;by_cases o:q.kind<=14;refine⟨q.kind==13,λn C=>?_⟩;rw[B n C];unfold dV eS.J1;rcases(show q.kind=13\/q.kind=14 by omega)with g|g<;>rw[g]<;>rfl;have u:0<q.l.l.length:=(by rcases(show q.kind=15\/q.kind=16\/q.kind=17 by omega)with g|g|g;have:=Pred.parts I (c:=1) (by rw[g];rfl);omega;have:=Pred.parts I (c:=2) (by rw[g];rfl);omega;have:=Pred.parts I (c:=2) (by rw[g];rfl);omega);have⟨x,Q⟩:=O Zaa _ (getElem_mem u);have p:=Pred.rT (getElem_mem u);have L:idx q.l 0=some q.l.l[0]:=bJ (i:=0) u;by_cases g:q.kind=15;refine⟨!x,λn C=>?_⟩;rw[B n C];unfold dV eS.J1;rw[L,g];simp only[ζb,Q (n-1) Zaa];rfl;have w:1<q.l.l.length:=(by have:=Pred.parts I (c:=2) (by rcases(show q.kind=16\/q.kind=17 by omega)with g|g<;>(rw[g];rfl));omega);have⟨y,T⟩:=O Zaa _ (getElem_mem w);have Y:=Pred.rT (getElem_mem w);have U:idx q.l 1=some q.l.l[1]:=bJ (i:=1) w;refine⟨if q.kind=16 then x&&y else x||y,λn C=>?_⟩;rw[B n C];unfold dV eS.J1;rw[L,U];simp only[ζb,Q (n-1) Zaa,T (n-1) Zaa];rcases(show q.kind=16\/q.kind=17 by omega)with g|g<;>rw[g]<;>cases x<;>rfl
end
section
variable{t:Z4}{A:cu 200 bF}{L:aZ ST}{tb:Sl X'}{x:b9}
theorem Rf(d:VT t)(B:eF t A L)(D:x.truth=tb)(J:AO L (lP x.index))(G:tb.l.length=L.length){out:Zb}(U:out.l.length<=5000)
 (W:∀z∈out.l,z=.nil\/Cons t A z.l):nO x out=some (!out.l.any λz=> !z.l.isEmpty&& !gD tb (L.idxOf z.l)):=by
 have w:=d.ok.one;unfold nO;rw[qY (p:=λz=>jO z (some x)) (f:=λz=> !z.l.isEmpty&& !gD tb (L.idxOf z.l)) (λz I=>?_) Zaa]
 .rfl
 unfold jO;rcases W z I with rfl|c
 .rfl
 have u:0<z.l.length:=by rw[c.1.1];omega
 have C:=(B.mem _).2 c;rw[tK u,ζb,bC,ζb,ζb,Gp (AU d c) (by rw[c.1.1];exact d.few),ζb,J.get _ C,D,
  Cr (by rw[G];exact List.idxOf_lt_length_of_mem C),ζb,ζb]
 rw[show z.l.isEmpty=false from by cases h:z.l with
  |nil=>rw[h]at u;exact absurd u (by decide)|cons a b=>rfl]
 rfl
end
theorem Mm{b c:X'}:bl b (some true) (some c)=some (b||c):=by cases b<;>rfl
section
variable{t:Z4}
theorem WD(a:Small t)(G:(bS t).length<1073741824):∃b,fF t=some b:=by
 suffices h:Wp (fF t) λ_=>True by obtain⟨b,I,-⟩:=h;exact⟨b,I⟩
 have g:=a.1;obtain⟨v,-,w,B⟩:=Ij a G;obtain⟨J,C,u,-⟩:=Ij a G;have D:v=J:=by rw[w]at u;exact Option.some.inj u
 subst D;have ok:∀b:X',Wp (some b) λ_=>True:=λb=>(bg _).2 trivial;unfold fF;rw[ck];refine⟨λ_=>ok _,λ_=>?_⟩;unfold fF.W1;refine eu t.procs.l.length (λi(q:Int×Int)=>q.2=(i:Int)) rfl ?_ ?_;rintro i ⟨n,_⟩ hi e;simp only at e;subst e;unfold fF.br;dsimp only;rw[ja hi,bE,bJ hi,ζb,wD (p:=λz=>qI z) (f:=λx=>decide (len x.assign>12)) (λx _=>rfl) (a.2 _ (getElem_mem hi)).1,ζb,Mm,ζb,ck];exact⟨λ_=>(bg _).2 (ok _),λ_=>(bg _).2 (cE i Zaa)⟩;rintro⟨n,_⟩ e;simp only at e;subst e;unfold fF.br;dsimp only;rw[iO,bC,bg];show Wp (bl _ _ _) _;rw[ck];refine⟨λ_=>ok _,λ_=>?_⟩;rw[w,ζb];cases v with|false=>exact ok _|true=>rw[bE,ck];refine⟨λ_=>?_,λ_=>?_⟩;unfold fF.W2;refine eu t.procs.l.length (λi(q:Int×Int)=>q.2=(i:Int)) rfl ?_ ?_;rintro i ⟨n,_⟩ hi e;simp only at e;subst e;unfold fF.bP;dsimp only;rw[ja hi,bE,bJ hi,ζb,wD (p:=λz=>qF z) (f:=λx=>x.kind==3) (λx _=>rfl) (a.2 _ (getElem_mem hi)).1,ζb,ck];exact⟨λ_=>(bg _).2 (ok _),λ_=>(bg _).2 (cE i Zaa)⟩;rintro⟨n,_⟩ e;simp only at e;subst e;unfold fF.bP;dsimp only;rw[iO,bC,bg];exact ok _;have c:=B rfl;obtain⟨A,-,-,d⟩:=c.msgs;rcases E9 a C c d with⟨L,r,s,-,-,-,h,-⟩|⟨-,h⟩;rw[h,ζb];exact ok _;rw[h,ζb];exact ok _
theorem KM:∀(n:Nat)(p:Pred),p.Sm->∀l d:Int,0<=l->l<=300->0<=d->d<=61->62<=(n:Int)+d->
 ∃b m,iz (λr(z:Pred×Int×Int)=>j7 z.1 z.2.1 z.2.2 r) n (p,l,d)=some (b,m)/\-1<=m/\m<=l/\(b=true->0<=m)
 |0,p,B,l,d,h1,J,U,W,D=>absurd D Zaa|n+1,p,B,l,d,h1,J,U,W,D=>by have G:=KM n;rw[lT (Nat.succ_pos n)];show∃b m,j7 p l d (iz (λr(z:Pred×Int×Int)=>j7 z.1 z.2.1 z.2.2 r) n)=some (b,m)/\_;generalize iz (λr(z:Pred×Int×Int)=>j7 z.1 z.2.1 z.2.2 r) n=R at G⊢;unfold j7;rw[eH _ Zaa Zaa];by_cases c:0<=l-1;rw[decide_eq_true (show l-1>=0 from c),bE,ζb];by_cases C:d<=60;rw[decide_eq_true C,bE];(cases I:decide (((ByteArray.size p.name:Nat):Int)<=100)with|false=>exact⟨false,l-1,rfl,Zaa,Zaa,λh=>by cases h⟩|true=>rw[ζb,bE,Gf (by have:=B.len;omega)];have key:∀(u:aZ Pred),(∀k∈u,k.Sm)->∀s:Int,0<=s->s<=299->∃b m,wE (λx s=>kr x d s R) u s=some (b,m)/\-1<=m/\m<=s/\(b=false->0<=m):=(by intro u;induction u with|nil=>intro _ s g1 g2;exact⟨false,s,rfl,Zaa,Zaa,λ_=>g1⟩|cons k r w=>intro a s g1 g2;have⟨b,m,e1,e2,e3,e4⟩:=G k (a k (List.mem_cons_self ..)) s (d+1) g1 Zaa Zaa Zaa Zaa;have e:kr k d s R=some (!b,m):=(by unfold kr;rw[eH _ Zaa Zaa,e1];rfl);show∃b m,((kr k d s R).bind λy=>if y.1 then some (true,y.2)else wE (λx s=>kr x d s R) r y.2)=some (b,m)/\_;rw[e,ζb];cases b with|false=>exact⟨true,m,rfl,e2,e3,λh=>by cases h⟩|true=>have⟨L,m',k1,k2,k3,k4⟩:=w (λx O=>a x (mem_cons_of_mem _ O)) m (e4 rfl) Zaa;refine⟨L,m',?_,k2,Zaa,k4⟩;exact k1);have⟨b,m,e1,e2,e3,e4⟩:=key p.l.l (λk a=>B.zM a) (l-1) c Zaa;rw[e1,ζb,ζb];exact⟨!b,m,rfl,e2,Zaa,λh=>e4 (by cases b;rfl;cases h)⟩);rw[decide_eq_false C,bC];exact⟨false,l-1,rfl,Zaa,Zaa,λh=>by cases h⟩;rw[decide_eq_false (show¬l-1>=0 from c),bC];exact⟨false,l-1,rfl,Zaa,Zaa,λh=>by cases h⟩
theorem ZU(a:Small t)(D:(bS t).length<1073741824){p:Pred}(B:p.Sm):∃b,xu t p=some b:=by have⟨s,d⟩:=WD a D;unfold xu;rw[d,ζb];cases s with|false=>exact⟨_,rfl⟩|true=>obtain⟨b,m,e,-⟩:=KM 100000 p B 300 0 Zaa Zaa Zaa Zaa Zaa;have u:za p 300 0=some (b,m):=e;have w:=count_eq p B 100000 200 Zaa Zaa;have z:kO p 200=_:=w;have c:∃k,sE p=some k:=⟨_,by unfold sE;rw[z];rfl⟩;have⟨k,c⟩:=c;rw[bE,u,ζb,ζb];cases b with|false=>exact⟨_,rfl⟩|true=>simp only;rw[bE,c,ζb,ζb,Mm];exact⟨_,rfl⟩
end
theorem WT (x y:Int):qm (Sl.row [x,y])=some (kj x y):=by
 have h:Wp (dF (Sl.row [x,y])) λm=>m=if y>x then y else x:=by
  unfold dF;rw[show decide (len (Sl.row [x,y])<1)=false from rfl,bC];unfold dF.J1;rw[show idx (Sl.row [x,y]) 0=some x from rfl,ζb];unfold dF.W2;refine eu 1 (λi (q:Int×Int)=>(i=0/\q=(x,1))\/(i=1/\q=(if y>x then y else x,2))) (.inl ⟨rfl,rfl⟩) ?_ ?_
  .rintro i ⟨m,k⟩ hi (⟨rfl,e⟩|⟨rfl,e⟩)
   .cases e;unfold dF.bP;dsimp only;rw[show decide ((1:Int)<len (Sl.row [x,y]))=true from rfl,bE,show idx (Sl.row [x,y]) 1=some y from rfl,ζb,bg];exact .inr ⟨rfl,rfl⟩
   omega
  rintro⟨m,k⟩ (⟨h,_⟩|⟨_,e⟩)
  .cases h
  cases e;unfold dF.bP;dsimp only;rw[show decide ((2:Int)<len (Sl.row [x,y]))=false from rfl,bC,bg];exact(bg _).2 rfl
 unfold qm;obtain⟨m,h1,u⟩:=h;rw[h1,u];unfold kj;refine congrArg some ?_
 by_cases h:y>x
 .rw[if_pos h];try split
  all_goals omega
 rw[if_neg h];try split
 all_goals omega
theorem SB{a b:Zg}(J:a.l.length=b.l.length)(g:0<a.l.length)(U:a.l.length<=8):Wp (d_ (Sl.row [a,b]) (λz=>qm z)) λo=>o.l=zipWith kj a.l b.l:=by
 have D:=kW.of kj J;unfold d_;have⟨d,l,u⟩:=u6 (c:=a) Zaa g;obtain⟨v,I,G⟩:∃v,fS (Sl.row [a,b]) (some 1) none=some v/\v.l=[b]:=y_ (Sl.row [a,b]) 1 (Nat.le_succ 1);rw[show idx (Sl.row [a,b]) 0=some a from rfl,ζb,l,ζb,I,ζb];unfold d_.W1;have f:len v=1:=by simp only[len,G];rfl
 have hi:idx v 0=some b:=by unfold idx;rw[if_pos (by decide),G];rfl
 refine eu 1 (λi(q:Zg×Int)=>(i=0/\q=(d,0))\/(i=1/\q.1.l=zipWith kj a.l b.l/\q.2=1)) (.inl ⟨rfl,rfl⟩) ?_ ?_;rintro i ⟨o,k⟩ L (⟨rfl,e⟩|⟨rfl,-,-⟩);cases e;unfold d_.br;dsimp only;rw[f,show decide ((0:Int)<1)=true from rfl,bE,hi,ζb];unfold d_.W2;refine eu d.l.length (λn(q:Zg×Int)=>q.2=(n:Int)/\q.1.l.length=a.l.length/\∀j:Nat,q.1.l[j]?=if j<n then(zipWith kj a.l b.l)[j]?else a.l[j]?) ⟨rfl,by rw[u],λj=>by rw[if_neg Zaa,u]⟩ ?_ ?_;rintro n ⟨o,_⟩ O ⟨rfl,g1,g2⟩;simp only at g1 g2;have w:n<a.l.length:=by rw[<-u];exact O
 have B:n<b.l.length:=Zaa;unfold d_.bP;dsimp only;rw[show decide ((n:Int)<len d)=true from by simp only[len,decide_eq_true_eq];omega,bE,o8 Zaa,ζb];unfold Sl.get;rw[g2 n,if_neg Zaa,ζd w,ζb,bJ B,ζb,WT,ζb,ζb];have⟨o2,k1,k2⟩:=put_eq (s:=o) (p:=n) (x:=kj a.l[n] b.l[n]) Zaa;rw[k1,ζb,bg];refine⟨cE n Zaa,by show o2.l.length=_;rw[k2,length_set];exact g1,λj=>?_⟩;show o2.l[j]?=_;rw[k2,getElem?_set];by_cases e:n=j;subst e;rw[if_pos rfl,if_pos Zaa,if_pos Zaa,D.2 n _ _ (ζd w) (ζd B)];rw[if_neg e,g2 j];by_cases C:j<n;rw[if_pos C,if_pos Zaa];rw[if_neg C,if_neg Zaa];rintro⟨o,_⟩ ⟨rfl,g1,g2⟩;simp only at g1 g2;unfold d_.bP;dsimp only;rw[iO,bC,bg];refine(bg _).2 (.inr ⟨rfl,ext_getElem? λj=>?_,rfl⟩);rw[g2 j];by_cases C:j<d.l.length;rw[if_pos C];rw[if_neg C,getElem?_eq_none (by rw[<-u];omega),getElem?_eq_none (by rw[D.1,<-u];omega)];omega;rintro⟨o,k⟩ (⟨h,_⟩|⟨_,e,e2⟩);cases h;simp only at e e2;subst e2;unfold d_.br;dsimp only;rw[f,show decide ((1:Int)<1)=false from rfl,bC,bg];exact(bg _).2 e
theorem TU{c:Zg}(B:c.l.length<=8):fV c=some (lV (c.l.map (wrap .u8))):=by
 refine Wp.eq ?_;unfold fV;have b:∃r,sJ (len c) (⟨0⟩:U8)=some r/\r.l=[]:=by unfold sJ;rw[if_pos ⟨by simp[len],by simp[len];omega⟩];refine⟨_,rfl,?_⟩;split<;>rfl
 have⟨r,b,u⟩:=b;rw[b,ζb];unfold fV.W1;refine eu c.l.length (λi(q:Sl U8×Int)=>q.2=(i:Int)/\q.1.l.map U8.v=(c.l.map (wrap .u8)).take i) ⟨rfl,by rw[u];rfl⟩ ?_ ?_;rintro i ⟨o,_⟩ hi ⟨e,a⟩;simp only at e a;subst e;have w:o.l.length=i:=by have:=congrArg List.length a;simp at this;omega
 unfold fV.br;rw[ja hi,bE,bJ hi,ζb];have⟨z,k1,k2⟩:=mw (s:=o) (x:=(⟨wrap .u8 c.l[i]⟩:U8)) Zaa;rw[k1,ζb,bg];refine⟨cE i Zaa,?_⟩;show z.l.map U8.v=_;rw[k2,map_append,a,List.take_succ_eq_append_getElem (by simpa using hi),List.map_singleton,List.getElem_map];rintro⟨o,_⟩ ⟨e,a⟩;simp only at e a;subst e;unfold fV.br;rw[iO,bC,bg];refine(bg _).2 ?_;unfold K2;rw[a,List.take_of_length_le Zab]
section
variable{t:Z4}{A:cu 200 bF}{L:aZ ST}{tb:Sl X'}{x:b9}
def zF(L:aZ ST)(c:ST):S':=(range c.length).filterMap λp=>if bump c p (-1)∈L then some (L.idxOf (bump c p (-1)))else none
theorem FZ{L:aZ ST}{c:ST}{k:Nat}:k∈zF L c↔∃p,p<c.length/\bump c p (-1)∈L/\k=L.idxOf (bump c p (-1)):=by
 unfold zF;rw[List.mem_filterMap];constructor;rintro⟨p,u,h⟩;split at h;next w=>cases h;exact⟨p,mem_range.1 u,w,rfl⟩
 cases h;rintro⟨p,u,w,rfl⟩;exact⟨p,mem_range.2 u,by rw[if_pos w]⟩
theorem Zc(h:eF t A L){i k:Nat}{c:ST}(hi:L[i]?=some c)(b:k∈zF L c):k<i:=by obtain⟨p,u,w,rfl⟩:=FZ.1 b;refine h.lt (nW w) hi ?_;have a:c[p]?=some c[p]:=ζd u;unfold bump;rw[s_ a,a];show c.sum-c[p]+(c[p]+-1)<c.sum;omega
theorem tc{c:ST}{p:Nat}{a:Int}(h:c[p]?=some a)(q:Nat):(bump c p (-1))[q]?=if p=q then some (a+-1)else c[q]?:=by have u:=(ζe.1 h).1;unfold bump;rw[h,getElem?_set];by_cases e:p=q;subst e;rw[if_pos rfl,if_pos rfl,if_pos u];rfl;rw[if_neg e,if_neg e]
theorem Hw{c:ST}{p:Nat}(h:p<c.length):bump (bump c p 1) p (-1)=c:=by have a:=ζd h;have u:=xJ a p;rw[if_pos rfl]at u;refine ext_getElem? λq=>?_;rw[tc u,xJ a];by_cases e:p=q;subst e;rw[if_pos rfl,a];congr 1;omega;rw[if_neg e,if_neg e]
theorem AX{c:ST}{p:Nat}(h:p<c.length):dU (bump c p (-1)) c:=⟨vi,λq x y u w=>by
 rw[tc (ζd h)]at u
 by_cases e:p=q
 .subst e;rw[if_pos rfl]at u;cases u;rw[ζd h]at w;cases w;omega
 rw[if_neg e,w]at u;cases u;exact Int.le_refl _⟩
theorem GZ(b:VT t)(f:fU t (bS t) A)(B:eF t A L){c:ST}(a:Cons t A c):∀(n:Nat){d:ST},Cons t A d->dU d c->d≠c->L.length<=L.idxOf d+n->∃p,p<c.length/\bump c p (-1)∈L/\dU d (bump c p (-1))
 |0,d,G,D,J,W=>absurd (List.idxOf_lt_length_of_mem ((B.mem _).2 G)) Zaa|n+1,d,G,D,J,W=>by have U:=(B.mem _).2 G;have⟨p,u,w,C⟩:=Gg b f B G D c.sum.toNat a (dU.refl c) Zaa (λh=>J (dU.same D h));have z:d.length=c.length:=G.1.1.trans a.1.1.symm;by_cases e:bump d p 1=c;refine⟨p,Zaa,?_,?_⟩;rw[<-e,Hw u];exact U;rw[<-e,Hw u];exact dU.refl _;have I:=(Kb B (nW U) (CZ.2 ⟨p,u,w,rfl⟩)).1;have⟨q,k1,k2,k3⟩:=GZ b f B a n ((B.mem _).1 w) C e Zaa;exact⟨q,k1,k2,(zQ u).trans k3⟩
theorem T4(r:Small t)(b:VT t)(B:eF t A L){x:b9}(J:ins x.l=L)(Y:AO L (lP x.index)){i:Nat}{c:ST}(f:L[i]?=some c):
 Wp (dG x (i:Int) (-1)) λo=>o.l=(zF L c).map λk:Nat=>(k:Int):=by
 have N:=b.few;have hi:i<x.l.l.length:=by rw[<-jG,J];exact(ζe.1 f).1
 have u:x.l.l[i].l=c:=by have:=uv hi;rw[J,f]at this;exact(Option.some.inj this).symm
 have g:=(B.mem _).1 (mem_of_getElem? f);have P:=g.1.1;have R:=b.ok.one;have V:=FO r b g;have O:=AU b g;unfold dG;rw[bJ hi,ζb];unfold dG.W1;refine eu x.l.l[i].l.length (λn(q:Zg×Int)=>q.2=(n:Int)/\q.1.l.length<=n/\q.1.l=((range n).filterMap λp=>if bump c p (-1)∈L then some (L.idxOf (bump c p (-1)))else none).map λk:Nat=>(k:Int)) ⟨rfl,le_refl _,rfl⟩ ?_ ?_
 .rintro n ⟨o,_⟩ C ⟨rfl,Q,S⟩;simp only at Q S;rw[u]at C;have D:=ζd C;have hb:=O c[n] (getElem_mem C);have⟨d,Z,T⟩:=u6 (c:=x.l.l[i]) (by rw[u];omega) (by rw[u];omega)
  rw[u]at T;unfold dG.br;dsimp only;rw[show len x.l.l[i]=((x.l.l[i].l.length:Nat):Int)from rfl,u,decide_eq_true Zaa,bE,bJ hi,ζb,Z,ζb,o8 (by rw[T];exact C),ζb]
  unfold Sl.get;rw[T,D,ζb,ζb,eH _ Zaa Zaa]
  have⟨v,E,F⟩:=put_eq (s:=d) (p:=n) (x:=c[n]+-1) (by rw[T];exact C)
  have U:v.l=bump c n (-1):=by rw[F,T];unfold bump;rw[D];rfl
  have W:(bump c n (-1)).map (wrap .u8)=if c[n]=0 then c.set n 255 else bump c n (-1):=by refine ext_getElem? λq=>?_;rw[getElem?_map,tc D];have l:∀z:Int,0<=z->z<256->wrap .u8 z=z:=λz j Z=>(by simp[wrap,IntKind.bits,signed];omega);by_cases e:n=q;subst e;rw[if_pos rfl];by_cases a:c[n]=0;rw[if_pos a,getElem?_set_self C,a];rfl;rw[if_neg a,tc D,if_pos rfl];show some _=some _;rw[l _ Zaa Zaa];rw[if_neg e];have H:(c[q]?).map (wrap .u8)=c[q]?:=(by cases K:c[q]?with|none=>rfl|some z=>have:=O z (mem_of_getElem? K);show some _=some _;rw[l z this.1 this.2]);rw[H];by_cases a:c[n]=0;rw[if_pos a,List.getElem?_set_ne e];rw[if_neg a,tc D,if_neg e]
  have m:C9 ((bump c n (-1)).map (wrap .u8)):=λz M=>by obtain⟨y,-,rfl⟩:=mem_map.1 M;simp[wrap,IntKind.bits,signed];omega
  have w:(bump c n (-1)).map (wrap .u8)∈L↔bump c n (-1)∈L:=by rw[W];by_cases a:c[n]=0;rw[if_pos a];refine⟨λh=>?_,λh=>?_⟩;have G:=(B.mem _).1 h;have X:n<t.procs.l.length:=(by omega);have j:=G.1.2 n _ _ (getElem?_set_self C) (ζd X);have Z:=By b (ζd X);omega;have G:=(B.mem _).1 h;have j:=G.1.pos n (c[n]+-1) (by rw[tc D,if_pos rfl]);omega;rw[if_neg a]
  rw[E,ζb,TU (by rw[U,vi];omega),ζb,U]
  by_cases I:bump c n (-1)∈L
  .have ab:(bump c n (-1)).map (wrap .u8)=bump c n (-1):=by
    rw[W,if_neg];intro a;have j:=((B.mem _).1 I).1.pos n (c[n]+-1) (by rw[tc D,if_pos rfl])
    omega
   have⟨o2,k1,k2⟩:=mw (s:=o) (x:=oH (lP x.index) (lV (bump c n (-1))) 0) Zaa
   rw[(Y.has _ m).2 (w.2 I),bE,ab,k1,ζb,bg];refine⟨cE n Zaa,by show o2.l.length<=_;rw[k2];simp;omega,?_⟩
   show o2.l=_;rw[k2,S,Y.get _ I,range_succ,List.filterMap_append,map_append];simp[I]
  rw[show tB (lP x.index) (lV ((bump c n (-1)).map (wrap .u8)))=false from by
   cases h:tB (lP x.index) (lV ((bump c n (-1)).map (wrap .u8)))with
   |false=>rfl|true=>exact absurd (w.1 ((Y.has _ m).1 h)) I,bC,bg]
  refine⟨cE n Zaa,by show o.l.length<=_;omega,?_⟩
  show o.l=_;rw[S,range_succ,List.filterMap_append,map_append];simp[I]
 rintro⟨o,_⟩ ⟨rfl,Q,S⟩;unfold dG.br;dsimp only;rw[iO,bC,bg];refine(bg _).2 ?_;rw[S,u];rfl
end
section
variable{t:Z4}{A:cu 200 bF}{L:aZ ST}{tb:Sl X'}{x:b9}
def YE(t:Z4)(A:cu 200 bF)(L:aZ ST)(f:Nat->X')(c:ST)(o:Zg):Prop:=(o=.nil/\∀d,j9 L f d->¬dU d c)\/(Cons t A o.l/\dU o.l c/\(∀d,j9 L f d->dU d c->dU d o.l)/\(∃d,j9 L f d/\dU d c)/\∀e,(∀d,j9 L f d->dU d c->dU d e)->dU o.l e)
theorem OX(hS:Small t)(r:VT t)(hM:fU t (bS t) A)(B:eF t A L)(h5:L.length<=5000)(E:ins x.l=L)(aw:x.truth=tb)(hx:AO L (lP x.index))(aJ:tb.l.length=L.length):
 Wp (dI x) λout=>out.l.length=L.length/\∀(i:Nat)c,L[i]?=some c->∃o,out.l[i]?=some o/\YE t A L (gD tb) c o:=by
 have V:=r.few;have aI:=r.ok.one;have ax:x.l.l.length=L.length:=by rw[<-E,jG]
 unfold dI;have ay:len x.l=(L.length:Int):=by simp only[len,ax]
 rw[ay,show pe (L.length:Int) (Sl.nil:Zg)=some (.row (replicate L.length Sl.nil))from by unfold pe;rw[if_pos ⟨Zaa,Zaa⟩];rfl,ζb]
 unfold dI.W1;refine eu L.length (λm(q:Zb×Int)=>q.2=(m:Int)/\q.1.l.length=L.length/\(∀(j:Nat)c,j<m->L[j]?=some c->∃o,q.1.l[j]?=some o/\YE t A L (gD tb) c o)/\∀j:Nat,m<=j->j<L.length->q.1.l[j]?=some .nil)
  ⟨rfl,by simp[Sl.l],λj c Q=>absurd Q Zaa,λj _ Q=>by
   show(replicate L.length (Sl.nil:Zg))[j]?=_;rw[List.getElem?_replicate,if_pos Q]⟩ ?_ ?_
 .rintro i ⟨out,_⟩ S ⟨rfl,g1,g2,g3⟩;simp only at g1 g2 g3;have J:=ζd S;have F:=(B.mem _).1 (getElem_mem S);unfold dI.br;dsimp only;rw[decide_eq_true (show(i:Int)<(L.length:Int)by omega),bE,aw,Cr Zaa,ζb]
  cases H:gD tb i with
  |true=>
   have ai:i<x.l.l.length:=Zaa
   have X:x.l.l[i].l=L[i]:=by have:=uv ai;rw[E,J]at this;exact(Option.some.inj this).symm
   have⟨o2,k1,k2⟩:=put_eq (s:=out) (p:=i) (x:=x.l.l[i]) Zaa
   rw[bE,bJ ai,ζb,o8 Zaa,ζb,k1,ζb,bg]
   refine⟨cE i Zaa,by show o2.l.length=_;rw[k2,length_set];exact g1,λj c Q b=>?_,λj Q K=>?_⟩
   .show ∃o,o2.l[j]?=some o/\_;rw[k2,getElem?_set]
    by_cases e:i=j
    .subst e;rw[J]at b;cases b;exact⟨_,by rw[if_pos rfl,if_pos Zaa],.inr ⟨by rw[X];exact F,by rw[X];exact dU.refl _,λd _ hd=>by rw[X];exact hd,⟨_,⟨getElem_mem S,by rw[ot B.nodup J];exact H⟩,dU.refl _⟩,λe g=>by rw[X];exact g _ ⟨getElem_mem S,by rw[ot B.nodup J];exact H⟩ (dU.refl _)⟩⟩
    rw[if_neg e];exact g2 j c Zaa b
   show o2.l[j]?=_;rw[k2,getElem?_set,if_neg Zaa];exact g3 j Zaa K
  |false=>
   rw[bC,dY];refine(T4 hS r B E hx J).mono λl aj=>?_
   have ak:l.l.length=(zF L L[i]).length:=by rw[aj,List.length_map]
   have aK:l.l.length<=8:=by rw[ak];have:=List.length_filterMap_le (λp=>if bump L[i] p (-1)∈L then some (L.idxOf (bump L[i] p (-1)))else none) (range L[i].length);rw[List.length_range]at this;exact le_trans this (by rw[F.1.1];exact V)
   unfold dI.W2;refine eu l.l.length (λn(q:Zb×Int)=>q.2=(n:Int)/\q.1.l.length=L.length/\(∀j:Nat,j≠i->q.1.l[j]?=out.l[j]?)/\∃a,q.1.l[i]?=some a/\
    ((a=.nil/\∀(m' k:Nat)z,m'<n->(zF L L[i])[m']?=some k->L[k]?=some z->∀d,j9 L (gD tb) d->¬dU d z)\/
     (Cons t A a.l/\dU a.l L[i]/\(∀(m' k:Nat)z,m'<n->(zF L L[i])[m']?=some k->L[k]?=some z->∀d,j9 L (gD tb) d->dU d z->dU d a.l)/\(∃d,j9 L (gD tb) d/\dU d L[i])/\∀e,(∀d,j9 L (gD tb) d->dU d L[i]->dU d e)->dU a.l e)))
    ⟨rfl,g1,λ_ _=>rfl,.nil,g3 i (le_refl _) S,.inl ⟨rfl,λm' k z h=>absurd h Zaa⟩⟩ ?_ ?_
   .rintro n ⟨o,_⟩ hn ⟨rfl,e1,e2,a,e3,e4⟩;simp only at e1 e2 e3;have al:n<(zF L L[i]).length:=by omega
    have Y:=ζd al;have M:=getElem_mem al;generalize hk:(zF L L[i])[n]=k at Y M;have⟨p,hp,Z,aA⟩:=FZ.1 M;have v:L[k]?=some (bump L[i] p (-1)):=by rw[aA];exact nW Z
    have aB:k<i:=Zc B J M;have aL:=(ζe.1 v).1;have⟨ok,aC,am⟩:=g2 k _ aB v;have an:idx l (n:Int)=some (k:Int):=by rw[kG,aj,getElem?_map,Y];rfl
    have T:o.l[k]?=some ok:=by rw[e2 k Zaa];exact aC
    unfold dI.bP;dsimp only;rw[ja hn,bE,an,ζb,o8 Zaa,ζb]
    unfold Sl.get;rw[T,ζb];rcases am with⟨rfl,ao⟩|⟨y,u,aD,⟨de,aE,aF⟩,ap⟩
    .rw[show Sl.isNil (Sl.nil:Zg)=some true from rfl,ζb,bE,bg];refine⟨cE n Zaa,e1,e2,a,e3,?_⟩
     have O:∀(m' I:Nat)z,m'<n+1->¬m'<n->(zF L L[i])[m']?=some I->L[I]?=some z->z=bump L[i] p (-1):=λm' I z f G C D=>by obtain rfl:m'=n:=Zaa;rw[Y]at C;cases C;rw[v]at D;exact(Option.some.inj D).symm
     rcases e4 with⟨U,W⟩|⟨U,W,b⟩
     .refine .inl ⟨U,λm' I z f C D d hd=>?_⟩
      by_cases G:m'<n
      .exact W m' I z G C D d hd
      rw[O m' I z f G C D];exact ao d hd
     refine .inr ⟨U,W,λm' I z f C D d hd u=>?_,b.2⟩
     by_cases G:m'<n
     .exact b.1 m' I z G C D d hd u
     rw[O m' I z f G C D]at u;exact absurd u (ao d hd)
    have aq:0<ok.l.length:=by rw[y.1.1];omega
    have ar:=u.trans (AX hp);have O:∀(m' I:Nat)z,m'<n+1->¬m'<n->(zF L L[i])[m']?=some I->L[I]?=some z->∀d,j9 L (gD tb) d->dU d z->dU d ok.l:=λm' I z f G C D d hd u=>by obtain rfl:m'=n:=Zaa;rw[Y]at C;cases C;rw[v]at D;cases D;exact aD d hd u
    rw[tK aq,ζb,bC,o8 Zaa,ζb,e3,ζb]
    rcases e4 with⟨rfl,W⟩|⟨U,W,b⟩
    .have⟨o2,k1,k2⟩:=put_eq (s:=o) (p:=i) (x:=ok) Zaa
     rw[show Sl.isNil (Sl.nil:Zg)=some true from rfl,ζb,bE,ζb,T,ζb,ζb,k1,ζb,bg];refine⟨cE n Zaa,by show o2.l.length=_;rw[k2,length_set];exact e1,λj Q=>by show o2.l[j]?=_;rw[k2,getElem?_set,if_neg (Ne.symm Q)];exact e2 j Q,ok,by show o2.l[i]?=_;rw[k2,getElem?_set_self Zaa],.inr ⟨y,ar,λm' I z f C D d hd u=>?_,⟨de,aE,aF.trans (AX hp)⟩,λe g=>ap e λd hd u=>g d hd (u.trans (AX hp))⟩⟩
     by_cases G:m'<n
     .exact absurd u (W m' I z G C D d hd)
     exact O m' I z f G C D d hd u
    have N:a.l.length=ok.l.length:=U.1.1.trans y.1.1.symm;have P:=kW.of kj N;have⟨w1,w2,R⟩:=P.le_max N;rw[tK (show 0<a.l.length by omega),ζb,bC,ζb,e3,ζb,ζb,T,ζb,dY]
    refine(SB N Zaa (by rw[U.1.1];exact V)).mono λw hw=>?_
    have⟨o2,k1,k2⟩:=put_eq (s:=o) (p:=i) (x:=w) Zaa
    rw[ζb,k1,ζb,bg];rw[<-hw]at P w1 w2 R;refine⟨cE n Zaa,by show o2.l.length=_;rw[k2,length_set];exact e1,λj Q=>by show o2.l[j]?=_;rw[k2,getElem?_set,if_neg (Ne.symm Q)];exact e2 j Q,w,by show o2.l[i]?=_;rw[k2,getElem?_set_self Zaa],.inr ⟨join_cons U y P,R _ W ar,λm' I z f C D d hd u=>?_,b.2.1,λe g=>R _ (b.2.2 e g) (ap e λd hd u=>g d hd (u.trans (AX hp)))⟩⟩
    by_cases G:m'<n
    .exact(b.1 m' I z G C D d hd u).trans w1
    exact(O m' I z f G C D d hd u).trans w2
   rintro⟨o,_⟩ ⟨rfl,e1,e2,a,e3,e4⟩;simp only at e1 e2 e3;unfold dI.bP;dsimp only;rw[iO,bC,bg];have au:∀d,j9 L (gD tb) d->dU d L[i]->∃(m' k:Nat)(z:ST),m'<l.l.length/\(zF L L[i])[m']?=some k/\L[k]?=some z/\dU d z:=λd hd u=>by have hD:=(B.mem _).1 hd.1;have aG:d≠L[i]:=λh=>(by have G:=hd.2;rw[h,ot B.nodup J,H]at G;cases G);have⟨p,hp,Z,aH⟩:=GZ r hM B F L.length hD u aG Zaa;have hm:L.idxOf (bump L[i] p (-1))∈zF L L[i]:=FZ.2 ⟨p,hp,Z,rfl⟩;have⟨m',av⟩:=getElem?_of_mem hm;exact⟨m',_,_,by rw[ak];exact(ζe.1 av).1,av,nW Z,aH⟩
   refine(bg _).2 ⟨cE i Zaa,e1,λj c Q b=>?_,λj Q K=>by show o.l[j]?=_;rw[e2 j Zaa];exact g3 j Zaa K⟩
   show∃o',o.l[j]?=some o'/\_
   by_cases e:j=i
   .subst e;rw[J]at b;cases b;refine⟨a,e3,?_⟩;rcases e4 with⟨U,W⟩|⟨U,W,b⟩
    .exact .inl ⟨U,λd hd u=>by
      have⟨m',k,z,f,G,C,D⟩:=au d hd u;exact W m' k z f G C d hd D⟩
    exact .inr ⟨U,W,λd hd u=>by
     have⟨m',k,z,f,G,C,D⟩:=au d hd u;exact b.1 m' k z f G C d hd D,b.2⟩
   rw[e2 j e];exact g2 j c Zaa b
 rintro⟨out,_⟩ ⟨rfl,g1,g2,-⟩;unfold dI.br;dsimp only;rw[decide_eq_false Zaa,bC,bg]
 exact(bg _).2 ⟨g1,λi c b=>g2 i c (ζe.1 b).1 b⟩
end
section
variable{t:Z4}
theorem SX(f:Small t)(E:(bS t).length<1073741824){p:Pred}(U:p.Sm):
 ∃r tb e,gX t p=some (r,tb,e)/\(e=0->cU t=some true/\∃(A:cu 200 bF)(_:VT t)(_:fU t (bS t) A)(L:aZ ST),eF t A L/\L.length<=5000/\ow t=some (r,0)/\ins r=L/\tb.l.length=L.length):=by
 have⟨e,j,G⟩:=XP f E U;unfold gX;rw[j,ζb]
 by_cases I:e=0
 .subst I;have⟨g,a,J,m⟩:=G rfl;obtain⟨A,-,-,i⟩:=a.msgs;have hd:=J;simp only[uh,ζh,decide_eq_true_eq]at hd;unfold uM;rw[show((0:Int)==0)=true from rfl,bE,S8 J m,ζb];simp only;rw[show((0:Int)==0)=true from rfl,bE,ζb]
  cases d:tj p.kind==2 with
  |false=>exact⟨_,_,14,rfl,λh=>by cases h⟩|true=>
   have d:tj p.kind=2:=by simpa using d
   have F:9<=p.kind:=by unfold tj at d;by_cases h:p.kind<=8;rw[if_pos h]at d;cases d;omega
   rw[show(!true)=false from rfl,bC,ζb,show((0:Int)==0)=true from rfl,bE,Ln U,J,ζb]
   cases H:p.lQ λq=> !Bw q with
   |false=>exact⟨_,_,15,rfl,λh=>by cases h⟩|true=>
    rw[show(true&& !true)=false from rfl,bC];rcases E9 f g a i with⟨L,r,s,u,O,B,-,k,-⟩|⟨B,-⟩
    .have Q:ow t=some (r,0):=by unfold ow;rw[B];rfl
     rw[Q,ζb];simp only;rw[show((0:Int)==0)=true from rfl,bE];have C:∀c∈r.l,∃l b,jk t c=some (l,0)/\eS ⟨t,c,l⟩ p=some b:=λc S=>by have v:Cons t A c.l:=(u.mem _).1 (by rw[<-k];exact qt.2 ⟨c,S,rfl⟩);have⟨⟨l,z⟩,j,W,G,X⟩:=ZH f g a i v;simp only at W G X;subst W;have⟨b,K⟩:=Tj (⟨f,g,a,i,v,X⟩:UE t A c l) p m F Zaa H;exact⟨l,b,j,K 100000 Zaa⟩
     have T:r.l.length=L.length:=by rw[<-k,jG]
     have p1:Wp (gX.W1 r (Sl.nil:Sl X') r (len r) 0 t p) λw=>w.1=r/\w.2.1.l.length=r.l.length/\w.2.2=0:=by unfold gX.W1;refine eu r.l.length (λn s=>s.2=(n:Int)/\s.1.l.length=n) ⟨rfl,rfl⟩ ?_ ?_;rintro n ⟨o,_⟩ D ⟨e1,e2⟩;simp only at e1 e2;subst e1;have⟨l,b,M,x2⟩:=C _ (getElem_mem D);have⟨o2,k1,k2⟩:=mw (s:=o) (x:=b) Zaa;unfold gX.br;rw[ja D,bE,bJ D,ζb,M,ζb];simp only;rw[show((0:Int)==0)=true from rfl,bE,x2,ζb,k1,ζb,bg,cE n Zaa];exact⟨rfl,by show o2.l.length=_;rw[k2];simp[e2]⟩;rintro⟨o,_⟩ ⟨e1,e2⟩;simp only at e1 e2;subst e1;unfold gX.br;rw[iO,bC,bg];exact(bg _).2 ⟨rfl,e2,rfl⟩
     have⟨⟨w,tb,e⟩,N,Y,Z,y⟩:=p1;simp only at Y Z y;subst Y y;exact⟨_,tb,0,N,λ_=>⟨g,A,a,i,L,u,O,rfl,k,by rw[Z,T]⟩⟩
    have Q:ow t=some (.nil,16):=by unfold ow;rw[B];rfl
    rw[Q];exact⟨_,_,16,rfl,λh=>by cases h⟩
 rw[show(e==0)=false from by simpa using I,bC]
 exact⟨_,_,e,rfl,λh=>absurd h I⟩
variable{A:cu 200 bF}{L:aZ ST}{tb:Sl X'}{x:b9}
theorem Vm(D:eF t A L)(W:L.length<=5000){r:Zb}(e:ins r=L)(U:tb.l.length=L.length):
 ∃o,eX.W1 tb (Sl.nil:Zb) r (len r) 0=some (o,0)/\o.l.length<=5000/\(∀y∈o.l,j9 L (gD tb) y.l)/\∀d,j9 L (gD tb) d->∃y∈o.l,y.l=d:=by
 have Q:r.l.length=L.length:=by rw[<-e,jG]
 have p1:Wp (eX.W1 tb (Sl.nil:Zb) r (len r) 0) λw=>w.2=0/\w.1.l.length<=5000/\(∀y∈w.1.l,j9 L (gD tb) y.l)/\∀d,j9 L (gD tb) d->∃y∈w.1.l,y.l=d:=by
  unfold eX.W1;refine eu r.l.length (λn(s:Zb×Int)=>s.2=(n:Int)/\s.1.l.length<=n/\(∀y∈s.1.l,j9 L (gD tb) y.l)/\∀(i:Nat)c,i<n->L[i]?=some c->gD tb i=true->∃y∈s.1.l,y.l=c) ⟨rfl,le_refl _,λy C=>(by cases C),λi c h=>absurd h Zaa⟩ ?_ ?_;rintro n ⟨o,_⟩ B ⟨rfl,e1,e2,e3⟩;simp only at e1 e2 e3;have a:L[n]?=some r.l[n].l:=by rw[<-e];exact uv B
  unfold eX.br;dsimp only;rw[ja B,bE,bJ B,ζb,Cr Zaa,ζb]
  cases J:gD tb n with
  |true=>have⟨o2,k1,k2⟩:=mw (s:=o) (x:=r.l[n]) Zaa;rw[bE,k1,ζb,bg];refine⟨cE n Zaa,by show o2.l.length<=_;rw[k2];simp;omega,λy C=>?_,λi c hi u G=>?_⟩;have C:y∈o2.l:=C;rw[k2,mem_append,List.mem_singleton]at C;rcases C with h|rfl;exact e2 y h;exact⟨mem_of_getElem? a,by rw[ot D.nodup a];exact J⟩;show∃y∈o2.l,_;rw[k2];by_cases h:i=n;subst h;rw[a]at u;cases u;exact⟨_,mem_append.2 (.inr (List.mem_singleton.2 rfl)),rfl⟩;have⟨y,b,I⟩:=e3 i c Zaa u G;exact⟨y,mem_append.2 (.inl b),I⟩
  |false=>rw[bC,bg];refine⟨cE n Zaa,by show o.l.length<=_;omega,e2,λi c hi u G=>?_⟩;by_cases h:i=n;subst h;rw[J]at G;cases G;exact e3 i c Zaa u G
  rintro⟨o,_⟩ ⟨rfl,e1,e2,e3⟩;simp only at e1 e2 e3;unfold eX.br;dsimp only;rw[iO,bC,bg];refine(bg _).2 ⟨rfl,by show o.l.length<=_;omega,e2,λd hd=>?_⟩;have hi:=List.idxOf_lt_length_of_mem hd.1;exact e3 _ d Zaa (nW hd.1) hd.2
 have⟨⟨o,z⟩,b,I,O⟩:=p1;simp only at I O;subst I;exact⟨o,b,O⟩
theorem Qp(a:VT t):Cons t A (replicate t.procs.l.length 0):=((O7 (t:=t) (A:=A) (z:=.row (replicate t.procs.l.length 0)) rfl _).1 (by simp[ins,Sl.l])).1
end
theorem CK:∀{a b:ST},dU a b->a.sum<=b.sum/\(a.sum=b.sum->a=b)
 |[],[],_=>⟨Int.le_refl _,λ_=>rfl⟩|[],_::_,h=>nomatch h.1
 |_::_,[],h=>nomatch h.1
 |x::a,y::b,h=>by have f:=h.2 0 x y rfl rfl;have⟨g,w⟩:=CK (a:=a) (b:=b) ⟨by simpa using h.1,λp u v c d=>h.2 (p+1) u v c d⟩;simp only[sum_cons];refine⟨Zaa,λe=>?_⟩;have:x=y:=Zaa;rw[this,w Zaa]
theorem Lm{α:Type}(P:α->Prop)(g:α->Nat):∀(n:Nat)(a:α),P a->g a<=n->∃m,P m/\∀b,P b->g m<=g b
 |0,a,h,D=>⟨a,h,λb _=>Zaa⟩|n+1,a,h,D=>by by_cases e:∃b,P b/\g b<g a;have⟨b,B,G⟩:=e;exact Lm P g n b B Zaa;exact⟨a,h,λb B=>byContradiction λc=>e ⟨b,B,Zaa⟩⟩
section
variable{t:Z4}{A:cu 200 bF}{L:aZ ST}{tb:Sl X'}{x:b9}
def HB(L:aZ ST)(f:Nat->X')(g:Int->Int->Int):Prop:=∀a b,j9 L f a->j9 L f b->j9 L f (zipWith g a b)
theorem MN(a:VT t)(D:eF t A L)(J:x.truth=tb)(d:AO L (lP x.index))(U:tb.l.length=L.length){out:Zb}(B:out.l.length<=5000)
 (W:∀z∈out.l,z=.nil\/Cons t A z.l){i:Nat}{o:Zg}(hi:out.l[i]?=some o):
 ∃q,lI x out (i:Int)=some q/\(q.2=15↔∃z∈out.l,Cons t A z.l/\gD tb (L.idxOf z.l)=false):=by
 have T:=a.ok.one;have O:=Rf a D J d U (out:=out) B W;have Q:idx out (i:Int)=some o:=by rw[kG];exact hi
 have S:∀z:Zg,Cons t A z.l->z.l.isEmpty=false:=λz b=>by cases X:z.l.isEmpty with|false=>rfl|true=>have:=b.1.1;rw[List.isEmpty_iff]at X;rw[X]at this;simp only[length_nil]at this;omega
 unfold lI;rw[O,ζb]
 cases Y:out.l.any λz=> !z.l.isEmpty&& !gD tb (L.idxOf z.l)with
 |true=>
  have⟨z,I,u⟩:=any_eq_true.1 Y;rw[ζh,Bool.not_eq_true',Bool.not_eq_true']at u;refine⟨_,rfl,λ_=>⟨z,I,?_,u.2⟩,λ_=>rfl⟩
  rcases W z I with rfl|h
  .exact absurd u.1 (by simp[Sl.l])
  exact h
 |false=>
  have C:¬∃z∈out.l,Cons t A z.l/\gD tb (L.idxOf z.l)=false:=by rintro⟨z,I,b,Z⟩;have:=List.any_eq_false.1 Y z I;rw[S z b,Z]at this;exact this rfl
  rw[show(!false)=true from rfl,bE,Q,ζb];rcases W o (mem_of_getElem? hi)with rfl|G
  .exact⟨_,rfl,λh=>absurd h Zab,λh=>absurd h C⟩
  have B:0<o.l.length:=by rw[G.1.1];omega
  have⟨w,k1,k2⟩:=u6 (c:=o) (by rw[G.1.1];have:=a.few;omega) B
  rw[tK B,ζb,bC,ζb,k1];exact⟨_,rfl,λh=>absurd h Zab,λh=>absurd h C⟩
theorem MZ{f:Nat->X'}{d:ST}(h:d∈L)(B:f (L.idxOf d)=false):¬j9 L f d:=λk=>by rw[k.2]at B;cases B
theorem Vz(k:VT t)(B:eF t A L){out:Zb}(s:out.l.length=L.length)
 (h:∀(i:Nat)c,L[i]?=some c->∃o,out.l[i]?=some o/\YD t A L (gD tb) c o):
 (∃z∈out.l,Cons t A z.l/\gD tb (L.idxOf z.l)=false)↔¬HB L (gD tb) kN:=by
 have v:=k.ok.one;have u:∀{a b},j9 L (gD tb) a->j9 L (gD tb) b->a.length=b.length:=λD G=>((B.mem _).1 D.1).1.1.trans ((B.mem _).1 G.1).1.1.symm
 constructor
 .rintro⟨z,I,f,U⟩ hM;have⟨i,hi⟩:=getElem?_of_mem I;have x:=(ζe.1 hi).1;have⟨o,g1,g2⟩:=h i _ (ζd (show i<L.length by omega))
  rw[hi]at g1;cases g1;rcases g2 with⟨e,-⟩|⟨-,J,w,⟨d,hd,W⟩,X⟩
  .rw[e]at f;have:=f.1.1;rw[show(Sl.nil:Zg).l=[]from rfl,length_nil]at this;omega
  have⟨m,⟨C,O⟩,Q⟩:=Lm (λd=>j9 L (gD tb) d/\dU L[i] d) (λd=>d.sum.toNat) d.sum.toNat d ⟨hd,W⟩ (le_refl _)
  have Y:dU m z.l:=X m λe Z l=>by have I:=kW.of kN (u C Z);have⟨S,T,g⟩:=I.le_min (u C Z);have j:=hM m e C Z;have:=Q _ ⟨j,g _ O l⟩;have⟨y,n⟩:=CK S;have p1:=((B.mem _).1 j.1).1.sum.1;rw[n Zaa]at T;exact T
  have:=dU.same Y (w m C O);exact MZ ((B.mem _).2 f) U (this▸C)
 intro p;refine byContradiction λq=>p λa b D G=>?_
 have I:=kW.of kN (u D G);have⟨S,T,g⟩:=I.le_min (u D G);have f:=BD ((B.mem _).1 D.1) ((B.mem _).1 G.1) I;have C:=(B.mem _).2 f;have⟨o,g1,g2⟩:=h _ _ (nW C);rcases g2 with⟨-,e⟩|⟨r,J,w,-⟩
 .exact absurd S (e a D)
 have:=dU.same J (g _ (w a D S) (w b G T));refine⟨C,?_⟩
 cases U:gD tb (L.idxOf (zipWith kN a b))with
 |true=>rfl|false=>exact absurd ⟨o,mem_of_getElem? g1,r,by rw[<-this];exact U⟩ q
theorem Xi(n:VT t)(B:eF t A L){out:Zb}(y:out.l.length=L.length)
 (h:∀(i:Nat)c,L[i]?=some c->∃o,out.l[i]?=some o/\YE t A L (gD tb) c o):
 (∃z∈out.l,Cons t A z.l/\gD tb (L.idxOf z.l)=false)↔¬HB L (gD tb) kj:=by
 have E:=n.ok.one;have u:∀{a b},j9 L (gD tb) a->j9 L (gD tb) b->a.length=b.length:=λD I=>((B.mem _).1 D.1).1.1.trans ((B.mem _).1 I.1).1.1.symm
 constructor
 .rintro⟨z,J,f,W⟩ hM;have⟨i,hi⟩:=getElem?_of_mem J;have F:=(ζe.1 hi).1;have⟨o,g1,g2⟩:=h i _ (ζd (show i<L.length by omega))
  rw[hi]at g1;cases g1;rcases g2 with⟨e,-⟩|⟨-,O,w,⟨d,hd,X⟩,Y⟩
  .rw[e]at f;have:=f.1.1;rw[show(Sl.nil:Zg).l=[]from rfl,length_nil]at this;omega
  have Q:∀d,j9 L (gD tb) d->dU d L[i]->d.sum<=L[i].sum:=λd _ p=>(CK p).1
  have⟨m,⟨C,G⟩,S⟩:=Lm (λd=>j9 L (gD tb) d/\dU d L[i]) (λd=>(L[i].sum-d.sum).toNat) _ d ⟨hd,X⟩ (le_refl _)
  have Z:dU z.l m:=Y m λe g q=>by have J:=kW.of kj (u C g);have⟨T,U,j⟩:=J.le_max (u C g);have k:=hM m e C g;have l:=j _ G q;have:=S _ ⟨k,l⟩;have⟨H,r⟩:=CK T;have p1:=Q _ k l;have p2:=Q _ C G;rw[<-r Zaa]at U;exact U
  have:=dU.same (w m C G) Z;exact MZ ((B.mem _).2 f) W (this▸C)
 intro s;refine byContradiction λv=>s λa b D I=>?_
 have J:=kW.of kj (u D I);have⟨T,U,j⟩:=J.le_max (u D I);have f:=join_cons ((B.mem _).1 D.1) ((B.mem _).1 I.1) J;have C:=(B.mem _).2 f;have⟨o,g1,g2⟩:=h _ _ (nW C);rcases g2 with⟨-,e⟩|⟨x,O,w,-⟩
 .exact absurd T (e a D)
 have:=dU.same O (j _ (w a D T) (w b I U));refine⟨C,?_⟩
 cases W:gD tb (L.idxOf (zipWith kj a b))with
 |true=>rfl|false=>exact absurd ⟨o,mem_of_getElem? g1,x,by rw[this];exact W⟩ v
theorem TW(b:Small t)(a:VT t)(c:fU t (bS t) A)(B:eF t A L)(W:L.length<=5000){p:Pred}{r:Zb}(e:pS t p=some (tb,0))(Y:ow t=some (r,0))(d:ins r=L)(D:tb.l.length=L.length):
 ∃J U,uf t p=some J/\qB t p=some U/\(J.2=15↔¬HB L (gD tb) kN)/\(U.2=15↔¬HB L (gD tb) kj):=by
 obtain⟨m,X,x,rfl,n,x2,I,x4⟩:=Uk a B W d tb;have C:vR t p=some (some x,0):=by unfold vR;rw[e,ζb];simp only;rw[show((0:Int)==0)=true from rfl,bE,Y,ζb];simp only;rw[show((0:Int)==0)=true from rfl,bE,X];rfl
 have G:0<L.length:=List.length_pos_of_mem ((B.mem _).2 (Qp (A:=A) a));have w:ins x.l=L:=by rw[x2];exact d
 have O:x.l.l.length=L.length:=by rw[<-w,jG]
 have⟨o1,a1,a2,a3⟩:=Qe b a c B W w I x4 D;have⟨o2,Z,f,Q⟩:=OX b a c B W w I x4 D;obtain⟨u,g,-⟩:=a3 0 _ (ζd G);obtain⟨v,j,-⟩:=Q _ _ (ζd (show L.length-1<L.length by omega))
 have k:∀z∈o1.l,z=.nil\/Cons t A z.l:=λz S=>by have⟨i,hi⟩:=getElem?_of_mem S;have T:=(ζe.1 hi).1;have⟨o,g1,g2⟩:=a3 i _ (ζd (show i<L.length by omega));rw[hi]at g1;cases g1;exact g2.imp (λh=>h.1) λh=>h.1
 have l:∀z∈o2.l,z=.nil\/Cons t A z.l:=λz S=>by have⟨i,hi⟩:=getElem?_of_mem S;have T:=(ζe.1 hi).1;have⟨o,g1,g2⟩:=Q i _ (ζd (show i<L.length by omega));rw[hi]at g1;cases g1;exact g2.imp (λh=>h.1) λh=>h.1
 have⟨J,p1,p2⟩:=MN a B I x4 D Zaa k g
 have⟨U,r1,r2⟩:=MN a B I x4 D Zaa l j
 refine⟨J,U,?_,?_,p2.trans (Vz a B a2 a3),r2.trans (Xi a B f Q)⟩
 .unfold uf;rw[C,ζb];simp only;rw[show((0:Int)==0)=true from rfl,bE,ζb,a1,ζb,show(0:Int)=((0:Nat):Int)from rfl,p1];rfl
 unfold qB;rw[C,ζb];simp only;rw[show((0:Int)==0)=true from rfl,bE,ζb,Z,ζb,show len x.l=(L.length:Int)from by simp only[len,O],eH _ Zaa Zaa,show(L.length:Int)-1=((L.length-1:Nat):Int)from Zaa,r1];rfl
theorem KE{g:Int->Int->Int}(c:∀x y,g x y=g y x):∀a b:ST,zipWith g a b=zipWith g b a
 |[],b=>by cases b<;>rfl|a::u,[]=>rfl|a::u,b::v=>by simp only[zipWith,c a b,KE c u v]
theorem Lg{g:Int->Int->Int}(b:∀x,g x x=x):∀a:ST,zipWith g a a=a
 |[]=>rfl|a::u=>by simp only[zipWith,b a,Lg b u]
theorem G4{g:Int->Int->Int}{a b c:ST}(B:a.length=b.length)(h:kW g a b c):c=zipWith g a b:=by have k:=kW.of g B;refine List.ext_getElem (h.1.trans k.1.symm) λj d u=>?_;have⟨x,y,w,z,C⟩:=h.at_ B (ζd d);have:=k.2 j x y w z;rw[ζd u]at this;rw[C];exact(Option.some.inj this).symm
theorem Rq{g:Int->Int->Int}(c:∀x y,g x y=g y x)(G:∀x,g x x=x){f:Nat->X'}{o:Zb}(B:∀y∈o.l,j9 L f y.l)(D:∀d,j9 L f d->∃y∈o.l,y.l=d):
 (∀(i j:Nat)a b,j<i->o.l[i]?=some a->o.l[j]?=some b->j9 L f (zipWith g a.l b.l))↔HB L f g:=by
 constructor
 .intro h a b w C;obtain⟨y,I,rfl⟩:=D a w;obtain⟨z,J,rfl⟩:=D b C;have⟨i,hi⟩:=getElem?_of_mem I;have⟨j,u⟩:=getElem?_of_mem J;rcases Nat.lt_trichotomy j i with e|e|e
  .exact h i j y z e hi u
  .subst e;rw[hi]at u;cases u;rw[Lg G];exact w
  rw[KE c];exact h j i z y e u hi
 intro h i j a b _ hi u;exact h _ _ (B a (mem_of_getElem? hi)) (B b (mem_of_getElem? u))
theorem QG(x y:Int):kN x y=kN y x:=by unfold kN;split<;>split<;>omega
theorem Ra(x y:Int):kj x y=kj y x:=by unfold kj;split<;>split<;>omega
def yR(L:aZ ST)(f:Nat->X')(g:Int->Int->Int)(l:aZ Zg)(n m:Nat):Prop:=∀(i j:Nat)a b,j<i->(i<n\/i=n/\j<m)->l[i]?=some a->l[j]?=some b->j9 L f (zipWith g a.l b.l)
theorem yR.step{f:Nat->X'}{g:Int->Int->Int}{l:aZ Zg}{n m:Nat}{a b:Zg}(D:l[n]?=some a)(G:l[m]?=some b)(B:m<n):
 yR L f g l n (m+1)↔yR L f g l n m/\j9 L f (zipWith g a.l b.l):=by
 constructor
 .intro h;exact⟨λi j x y c z=>h i j x y c Zaa,h n m a b B Zaa D G⟩
 rintro⟨h,k⟩ i j x y c z u w
 by_cases e:i=n/\j=m
 .obtain⟨rfl,rfl⟩:=e;rw[D]at u;rw[G]at w;cases u;cases w;exact k
 exact h i j x y c Zaa u w
theorem yR.next{f:Nat->X'}{g:Int->Int->Int}{l:aZ Zg}{n:Nat}:yR L f g l n n↔yR L f g l (n+1) 0:=⟨λh i j x y a u=>h i j x y a Zaa,λh i j x y a u=>h i j x y a Zaa⟩
theorem Ro (hS:Small t) (hN:(bS t).length<1073741824) {p:Pred} (hs:p.Sm):dN t p=some true:=by
 obtain⟨fw,ad⟩:=ZU hS hN hs;obtain⟨r,tb,e,h1,Q⟩:=SX hS hN hs;unfold dN;rw[show xY=some true from rfl,ζb,bE,ad,ζb]
 cases fw with
 | false=>rfl
 | true=>
 rw[bE]
 by_cases he:e=0
 .subst he;obtain⟨hv,A,hV,hM,L,u,h5,hL,hr,S⟩:=Q rfl;have ap:=hV.ok.one;have h8:=hV.few;obtain⟨o,ae,aq,D,T⟩:=Vm u h5 hr S;have hW:eX t p=some (o,0):=by
   unfold eX;rw[h1,ζb];simp only;rw[show ((0:Int)==0)=true from rfl,bE,ae]
  have hT:pS t p=some (tb,0):=by
   unfold pS;rw[h1];rfl
  obtain⟨q1,q2,g1,g2,g3,g4⟩:=TW hS hV hM u h5 hT hL hr S;rw[hW,ζb];simp only;rw[show ((0:Int)==0)=true from rfl,bE,ζb]
  cases decide (len o>120)with
  | true=>rfl
  | false=>
  rw[bC];have U:∀w:Sl Int,Cons t A w.l->∃b,ku w o=some b/\(b=true↔j9 L (gD tb) w.l):=λw hw=>by
   unfold ku;rw[qY (p:=λz=>kM z w) (f:=λz=>decide (w.l=z.l)) (λz _=>by
    show ((eW w z).bind λx=>some x)=_
    rw[Jm (by rw[hw.1.1];omega)];rfl) Zaa,ζb]
   refine⟨_,rfl,λh=>?_,λh=>?_⟩
   .obtain⟨y,W,af⟩:=List.any_eq_true.1 h;rw[of_decide_eq_true af];exact D y W
   obtain⟨y,W,G⟩:=T _ h;exact List.any_eq_true.2 ⟨y,W,decide_eq_true G.symm⟩
  have X:∀(i:Nat) a,o.l[i]? = some a->Cons t A a.l:=λi a h=>(u.mem _).1 (D a (List.mem_of_getElem? h)).1
  have p1:Wp (dN.W1 true true o (len o) 0 t p o) λw=>w=true:=by
   unfold dN.W1;refine eu o.l.length (λn (s:Bool×Bool×Int)=>s.2.2=(n:Int)/\(s.1=true↔yR L (gD tb) kN o.l n 0)/\(s.2.1=true↔yR L (gD tb) kj o.l n 0))
    ⟨rfl,⟨λ_ i j x y h1 Q=>absurd Q Zaa,λ_=>rfl⟩,⟨λ_ i j x y h1 Q=>absurd Q Zaa,λ_=>rfl⟩⟩ ?_ ?_
   .rintro n ⟨ms,js,_⟩ hn ⟨rfl,e1,e2⟩;simp only at e1 e2;obtain⟨v,ah,Y⟩:=qR o n Zaa
    have ai:v.l.length=n:=by rw[Y,List.length_take];omega
    have I:=ζd hn;unfold dN.br;dsimp only;rw[ja hn,bE,bJ hn,ζb,ah,ζb];unfold dN.W2;refine eu v.l.length (λm (s:Bool×Bool×Int)=>s.2.2=(m:Int)/\(s.1=true↔yR L (gD tb) kN o.l n m)/\(s.2.1=true↔yR L (gD tb) kj o.l n m)) ⟨rfl,e1,e2⟩ ?_ ?_
    .rintro m ⟨ms,js,_⟩ hm ⟨rfl,e1,e2⟩;simp only at e1 e2;have J:m<n:=by omega
     have aj:v.l[m]? = some v.l[m]:=ζd hm;have O:o.l[m]? = some v.l[m]:=by rw[<-aj,Y,List.getElem?_take,if_pos J]
     have B:=X n _ I;have C:=X m _ O;have Z:(o.l[n]).l.length=(v.l[m]).l.length:=B.1.1.trans C.1.1.symm;obtain⟨y,W,aa⟩:=VD hS hv hV hM B C;obtain⟨z,hz,ab⟩:=join_eq hS hv hV hM B C;have G:y.l=List.zipWith kN (o.l[n]).l (v.l[m]).l:=G4 Z aa;have ak:z.l=List.zipWith kj (o.l[n]).l (v.l[m]).l:=G4 Z ab;obtain⟨b1,k1,k2⟩:=U y (BD B C aa);obtain⟨b2,k3,k4⟩:=U z (join_cons B C ab);rw[G]at k2;rw[ak]at k4;unfold dN.bP;dsimp only;rw[ja hm,bE,bJ hm,ζb,W,ζb,hz,ζb];simp only;rw[show ((0:Int)==0)=true from rfl,bE,ζb,show (!true)=false from rfl,bC,k1,k3,ζb,ζb];have cb:∀a b:Bool,(bl a (some b) (some false):a_ Bool)=some (a&&b):=λa b=>by cases a <;> rfl
     rw[cb,cb,ζb,ζb,bg,cE m Zaa]
     refine⟨rfl,?_,?_⟩
     .show (ms&&b1)=true↔_;rw[yR.step I O J,ζh,e1,k2]
     show (js&&b2)=true↔_;rw[yR.step I O J,ζh,e2,k4]
    rintro⟨ms,js,_⟩ ⟨rfl,e1,e2⟩;simp only at e1 e2;unfold dN.bP;dsimp only;rw[iO,bC,bg];rw[ai,yR.next]at e1 e2;exact(bg _).2 ⟨by rw[cE n Zaa],e1,e2⟩
   rintro⟨ms,js,_⟩ ⟨rfl,e1,e2⟩;simp only at e1 e2;unfold dN.br;dsimp only;rw[iO,bC,bg];have fin:∀{g:Int->Int->Int},(∀x y,g x y=g y x)->(∀x,g x x=x)->(yR L (gD tb) g o.l o.l.length 0↔HB L (gD tb) g):=λal am=>by
    rw[<-Rq al am D T];exact⟨λh i j a b h1 h3 h4=>h i j a b h1 (.inl (ζe.1 h3).1) h3 h4,λh i j a b h1 _ h3 h4=>h i j a b h1 h3 h4⟩
   rw[fin QG (λx=>by unfold kN;split <;> rfl),<-Classical.not_not (a:=HB L (gD tb) kN),<-g3]at e1
   rw[fin Ra (λx=>by unfold kj;split <;> rfl),<-Classical.not_not (a:=HB L (gD tb) kj),<-g4]at e2
   have bb:∀{b:Bool} {q:Int},(b=true↔¬q=15)->((q==15) == !b)=true:=λ{b q} h=>by
    by_cases hq:q=15
    .have:b=false:=by cases b <;> simp_all
     rw[this,hq];rfl
    rw[h.2 hq,show (q==15)=false from by simpa using hq];rfl
   dsimp only;rw[g1,g2,ζb,ζb,bb e1,bE,bb e2];exact(bg _).2 rfl
  obtain⟨w,an,ao⟩:=p1;rw[an,ao]
 have hW:eX t p=some (.nil,e):=by
  unfold eX;rw[h1,ζb];simp only;rw[show (e==0)=false from by simpa using he,bC]
 rw[hW,ζb];simp only;rw[show (e==0)=false from by simpa using he,bC,ζb,bE,bC,ζb]
 rfl
end
end Go.VE
namespace Go.VE
theorem Ca{α:Type}[cA α]{x:α}:∀{l:aZ α},x∈l->cA.wt x<=(l.map cA.wt).sum
 |y::l,h=>by simp only[map_cons,sum_cons];rcases mem_cons.1 h with rfl|h;omega;have:=Ca h;omega
theorem xI{α:Type}[cA α](h:∀x:α,1<=cA.wt x):∀(l:aZ α),l.length<=(l.map cA.wt).sum
 |[]=>le_refl _|y::l=>by simp only[map_cons,sum_cons,length_cons];have:=xI h l;have:=h y;omega
theorem CI{α:Type}[cA α](s:Sl α):cA.wt s=(s.l.map cA.wt).sum+1:=rfl
theorem Dr(p:Int):∀(es:aZ WF)(j:Int),(jl p j es).length=es.length
 |[],_=>rfl|_::es,j=>by simp only[jl,length_cons,Dr p es]
theorem JQ:∀(ps:aZ bX)(i:Int),(gA i ps).length<=(ps.map cA.wt).sum
 |[],_=>le_refl _|p::ps,i=>by simp only[gA,ζi,Dr,map_cons,sum_cons];have a:=JQ ps (i+1);have u:=xI (α:=WF) (λx=>le_add_left ..) p.events.l;have w:cA.wt p=cA.wt p.name+cA.wt p.vars+cA.wt p.events+1:=rfl;have z:=CI p.events;omega
theorem SO{t:Z4}(h:cA.wt t<=1048576):Small t/\(bS t).length<1073741824:=by have b:cA.wt t=cA.wt t.procs+1:=rfl;have c:=CI t.procs;have B:=xI (α:=bX) (λx=>le_add_left ..) t.procs.l;have C:=JQ t.procs.l 0;refine⟨⟨Zaa,λp u=>?_⟩,by show(gA 0 t.procs.l).length<_;omega⟩;have D:=Ca u;have G:cA.wt p=cA.wt p.name+cA.wt p.vars+cA.wt p.events+1:=rfl;have I:=CI p.events;have J:=CI p.vars;have L:=xI (α:=WF) (λx=>le_add_left ..) p.events.l;have O:=xI (α:=Var) (λx=>le_add_left ..) p.vars.l;have w:cA.wt p.name=p.name.size+1:=rfl;refine⟨Zaa,Zaa,Zaa,λv a=>?_,λe z=>?_⟩;have k1:=Ca a;have k2:cA.wt v=cA.wt v.name+cA.wt v.init_+1:=rfl;have k3:cA.wt v.name=v.name.size+1:=rfl;omega;have k1:=Ca z;have k2:cA.wt e=cA.wt e.kind+cA.wt e.peer+cA.wt e.message+cA.wt e.time+cA.wt e.assign+1:=rfl;have k3:=CI e.assign;have k4:=xI (α:=Assign) (λx=>le_add_left ..) e.assign.l;omega
theorem Zy(p:Pred):cA.wt p<=1048576->p.Sm:=by induction p using Pred.ind with|h p w=>intro h;have a:∃m,cA.wt p=m+Pred.Vf p.l+1:=(by cases p;exact⟨_,rfl⟩);have⟨m,a⟩:=a;have b:=Pred.wtE p.l;have z:=CI p.l;have B:=xI (α:=Pred) (λx=>by cases x;exact le_add_left ..) p.l.l;unfold Pred.Sm;rw[p.pz,ζh,all_eq_true];refine⟨decide_eq_true Zaa,λq u=>w q u ?_⟩;have:=Ca u;omega
end Go.VE
namespace Go.Proofs.YtfjedefhlilglaaGreatDoor
open Go.ChangeShapes Go.WideShapes Go.ChangeAt Go.RowKit Go.VE
theorem own:ownKnob Tryz.prog.godebug=none:=by kernel_rfl
theorem kids:Kids Tryz.prog (·<Tryz.prog.types.size):=kids_rows Zag Zag
theorem full:∀t e,t<Tryz.prog.types.size->Tryz.prog.underlying t=some (.slice e)->0<Tryz.prog.cellsOf e:=slices_full_of Tryz.prog Zag
theorem zD{H:Type}:∀l:aZ (DataW H),Rows.uptoBulkAll l=(l.map Rows.uptoBulk).sum
 |[]=>by simp[Rows.uptoBulkAll]|d::r=>by simp[Rows.uptoBulkAll,zD r]
theorem Po{H:Type}:uo (H:=H) Rows.uptoBulk where
 lit l:=by cases l<;>simp[Rows.uptoBulk]
 str s:=by simp[Rows.uptoBulk]
 nil:=by simp[Rows.uptoBulk]
 slice es u:=by rw[Rows.uptoBulk,zD,zD];omega
 agg ps:=by rw[Rows.uptoBulk,zD];exact le_refl _
theorem NY:Tryz.prog.globalNamed "antecede/predtype.parts" =some 0:=by kernel_rfl
theorem S3:(Tryz.prog.globals[0]?).map (·.type)=some 226:=by kernel_rfl
theorem table{W:World}(h:laidMetH Tryz.prog Rows.linearClassUptoRow.laid W):Lib.TabIs Tryz.prog W "antecede/predtype.parts" .i64 EZ:=Lib.tabIs_of_head (rest:=[]) NY S3 Tryz.underlying226 Tryz.underlying3 Zag Zag h
theorem ZK{W:World}(h:laidMetH Tryz.prog Rows.linearClassUptoRow.laid W):vt (snap W):=λg cs a=>by
 change(if Nat.beq g 0 then some (EZ.map (V.int .i64))else none)=some cs at a;split at a;next u=>cases a;have:g=0:=Nat.eq_of_beq_eq_true u;subst this;exact TQ (λi hi=>(table h).cell NY i hi) (by decide)
 cases a
set_option maxRecDepth 100000 in
theorem LR(H:Type)(enc:W'×V'->H)(W:World)(base:Nat)(args:Array V')(ds a:aZ (DataW H))(before:aZ MemPlace)
 (B:∀(j:Nat)t v,Tryz.f8.params[j]?=some t->args[j]?=some v->Value.okWide Tryz.prog W .any base t v)
 (D:DataW.Whole enc Tryz.prog Tryz.f8.params.toList Rows.linearClassSpec.vars false W args.toList ds a before)(b:Rows.uptoSmall H (ds++a)=true)(U:laidMetH Tryz.prog Rows.linearClassUptoRow.laid W):
 Calls Tryz.prog 8 args W λe G=>∃v,e=.returned v/\Rows.linearClassSpec.post enc Tryz.prog Tryz.f8 false true false false W args v G:=by
 have u:=D;obtain⟨p,q,z,c,rfl,Q,S⟩:=D;have I:DataW.TrodAll enc Tryz.prog W 0 (λ_=>true) true Tryz.f8.params.toList args.toList ds p:=z
 rw[Tryz.params8]at I B;obtain⟨J,T,X,Y,E,F,C,rfl,rfl,d,Z⟩:=trodAll_cons I;obtain⟨L,K,g,M,p1,N,rfl,rfl,rfl,h,r1⟩:=trodAll_cons Z;obtain⟨rfl,rfl,rfl⟩:=trodAll_nil r1;obtain rfl:args=#[J,L]:=by cases args;simp_all
 obtain⟨rfl,rfl⟩:=trodVars_none c;have⟨a0,i,k0,k⟩:=Reads.Uq (t:=24) (α:=VE.Trace) B 0 rfl rfl d;have⟨a1,l,k1,m⟩:=Reads.Uq (t:=28) (α:=VE.Pred) B 1 rfl rfl h;have R:cA.wt a0+cA.wt a1<=1048576:=by have c0:=k Rows.uptoBulk Po;have c1:=m Rows.uptoBulk Po;have O:Rows.uptoBulkAll ([X,g]++[])<=1048576:=of_decide_eq_true b;rw[zD]at O;simp only[List.append_nil,map_cons,List.map_nil,sum_cons,List.sum_nil]at O;omega
 have⟨n,o⟩:=SO (t:=a0) Zaa
 have s:jX cL 8 [VE.enc a0,VE.enc a1]=some [.bool true]:=by have x:(dN a0 a1).bind (λr:X'=>some [V.bool r])=some [.bool true]:=(by rw[Ro n o (Zy a1 Zaa)];rfl);exact(Ay a0 a1).F.h () _ x
 have:=OT (P:=Tryz.prog) IV CW calls (f:=8) (xs:=[VE.enc a0,VE.enc a1]) (by simp[V.cI,V.good,kf]) s (w:=W) (args:=#[J,L]) (ZK U) (cV.cons i (cV.cons l .nil))
 refine this.mono λe G⟨y,A⟩=>?_
 subst y;exact⟨_,rfl,QC kids full (by rw[Tryz.params8];decide) rfl rfl rfl Tryz.underlying4 u A⟩
noncomputable def BM(os:Os):World:=
 {World.holding Tryz.prog os ⟨#[],#[],[]⟩with heap:=(World.holding Tryz.prog os ⟨#[],#[],[]⟩).heap.modify 0 fun
  |.cells _ t frozen=>.cells (EZ.map (Value.int .i64)).toArray t frozen|o=>o}
theorem Tg(os:Os):laidMet Tryz.prog Rows.linearClassUptoRow.laid ((BM os).forCall (λ_ _=>0) ⟨#[],#[.agg #[.slice none 0 0],.agg #[.int .i64 0,.int .i64 0,.int .i64 0,.int .i64 0,.string ByteArray.empty,.slice none 0 0]],[]⟩).memory:=laidMet_of_run' 8 Zag Zag
theorem Tk(os:Os){H:Type}(enc:W'×V'->H):∃places,DataW.whole enc Tryz.prog ((BM os).forCall (λ_ _=>0) ⟨#[],#[.agg #[.slice none 0 0],.agg #[.int .i64 0,.int .i64 0,.int .i64 0,.int .i64 0,.string ByteArray.empty,.slice none 0 0]],[]⟩).memory Tryz.f8.params.toList Rows.linearClassSpec.vars false (#[.agg #[.slice none 0 0],.agg #[.int .i64 0,.int .i64 0,.int .i64 0,.int .i64 0,.string ByteArray.empty,.slice none 0 0]]:Array V').toList 8=some ([.agg [.nil],.agg [.lit (.int .i64 0),.lit (.int .i64 0),.lit (.int .i64 0),.lit (.int .i64 0),.lit (.string []),.nil]],[],places):=⟨[],by kernel_rfl⟩
set_option maxRecDepth 100000 in
theorem Rt(os:Os)(B:os.Started)(H:Type)(enc:W'×V'->H)(F:Stop.Interp):
 ReturnsInHanded {} Tryz.checked os 8 .any ((Rows.OpenSpec.upto Rows.linearClassSpec).preRow enc Tryz.prog Tryz.f8 Rows.linearClassUptoRow.domain false Rows.linearClassUptoRow.laid) (((Rows.OpenSpec.upto Rows.linearClassSpec).at F).post enc Tryz.prog Tryz.f8 false true false false):=by
 have⟨places,z⟩:=Tk os enc;refine returnsInHanded_of_row (C:=Tryz.checked) (s:=Rows.OpenSpec.upto Rows.linearClassSpec) own B Zag Tryz.func8
  (witness_row_at (enc:=enc) (C:=Tryz.checked) false (BM os) #[.agg #[.slice none 0 0],.agg #[.int .i64 0,.int .i64 0,.int .i64 0,.int .i64 0,.string ByteArray.empty,.slice none 0 0]] rfl Zag Zag Zag
   (OpenSpec.preRow_of_cond 8 z Zag (λk a=>by cases a;kernel_rfl) Zag (Tg os))) ?_
 intro W base args ds b before w D _ u _ G _ _;exact LR H enc W base args ds b before w D (u _ rfl) G
theorem VC:Rows.LinearClassUptoSaid:=
 OpenClaim.holds_of_cond 8 Tryz.f8 rfl rfl rfl rfl rfl rfl rfl ⟨rfl,rfl,rfl,rfl,rfl⟩ rfl rfl rfl rfl rfl Zag Tryz.func8 Zag
  (of_decide_eq_true Zag) (by unfold Func.isWrapper;first|(rw[if_pos (by decide+kernel)];kernel_rfl)|(rw[if_neg (by decide+kernel)];exact⟨rfl,rfl⟩))
  (λos u H enc _ F=>by rw[OpenClaim.pre_eq_preRow];exact Rt os u H enc F)
theorem Sc(f:Y')(fn:Func)(D:Tryz.pinned.checked.prog.funcNamed "antecede/antecedelaw32.LinearClass" =some f)(B:Tryz.pinned.checked.prog.funcs[f]?=some fn):
 false=Tryz.pinned.checked.prog.looks []/\∀(j:Nat)t,fn.params[j]?=some t->Tryz.pinned.checked.prog.wantsStandIn t=false:=by
 obtain rfl:f=8:=Option.some.inj ((show Tryz.prog.funcNamed "antecede/antecedelaw32.LinearClass" =some 8 by kernel_rfl).symm.trans D)|>.symm
 obtain rfl:fn=Tryz.f8:=(Option.some.inj (Tryz.func8.symm.trans B)).symm;refine⟨by kernel_rfl,λj t z=>?_⟩
 rw[Tryz.params8]at z;have C:t∈[24,28]:=by simpa using Array.mem_of_getElem? z
 have w:([24,28].all λu=> !Tryz.prog.wantsStandIn u)=true:=by kernel_rfl
 exact(show Tryz.prog.wantsStandIn t=false by simpa using all_eq_true.1 w t C)
theorem linearClassProved:Rows.LinearClassUptoCardSaid:=Claim7.holds_tied_plain_at .later [] _ _ _ _ VC (λ_ h=>by cases h) Zag (λ_ h=>by cases h) linearClassUpto_row_tie rfl ⟨rfl,rfl⟩ Zag rfl Sc Zag
#print axioms linearClassProved
end Go.Proofs.YtfjedefhlilglaaGreatDoor
