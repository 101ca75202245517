/-
 LinearLeast says true for all arguments that together are of bulk at most 1048576, and they read behind the call as they read before: for every such argument, without a condition.
-/
import Derived.Test.YtfjedefhlilglaaGreatDoorRows
import Derived.Test.YtfjedefhlilglaaGreatDoorCards
import Derived.Test.YtfjedefhlilglaaGreatDoorTie
import Derived.Deep.DeepHandedRow
import Derived.Test.YtfjedefhlilglaaGreatDoorK1
import Derived.Test.YtfjedefhlilglaaGreatDoorL1
set_option linter.all false
open List(all_cons all_eq_true any_cons ext_getElem? getElem?_eq_none getElem?_map getElem?_of_mem getElem?_set getElem?_set_self getElem_mem length_cons length_set map_append map_cons mem_append mem_cons mem_cons_of_mem mem_map mem_of_getElem? mem_range not_mem_nil range range_succ replicate sum_cons take_add_one take_length zipWith)
open Nat(le_add_left le_refl le_trans zero_le)
open Bool(false_eq_true not_not)
open Classical(byContradiction)
open ByteArray(toList)
open Int(mul_comm zero_sub)
open Go.IntKind(signed wrap)
namespace Go.VE
theorem Zag{p:Prop}(h:p:=by kernel_rfl):p:=h
theorem tO{α:Type}{s:Sl α}(h:0<s.l.length):Sl.isNil s=some false:=by cases s with|nil=>exact absurd h (Nat.lt_irrefl 0)|emp=>exact absurd h (Nat.lt_irrefl 0)|row l=>rfl|part l=>rfl
theorem VX(x y:Int):pH (Sl.row [x,y])=some (tA x y):=by
 have h:Wp (dD (Sl.row [x,y])) λm=>m=if y<x then y else x:=by unfold dD;rw[show decide (len (Sl.row [x,y])<1)=false from rfl,bE];unfold dD.J1;rw[show idx (Sl.row [x,y]) 0=some x from rfl,ζb];unfold dD.W2;refine eU 1 (λi(q:Int×Int)=>(i=0/\q=(x,1))\/(i=1/\q=(if y<x then y else x,2))) (.inl ⟨rfl,rfl⟩) ?_ ?_;rintro i ⟨m,k⟩ hi (⟨rfl,e⟩|⟨rfl,e⟩);cases e;unfold dD.bU;dsimp only;rw[show decide ((1:Int)<len (Sl.row [x,y]))=true from rfl,bH,show idx (Sl.row [x,y]) 1=some y from rfl,ζb,bg];exact .inr ⟨rfl,rfl⟩;omega;rintro⟨m,k⟩ (⟨h,_⟩|⟨_,e⟩);omega;cases e;unfold dD.bU;dsimp only;rw[show decide ((2:Int)<len (Sl.row [x,y]))=false from rfl,bE,bg];exact(bg _).2 rfl
 unfold pH;have⟨m,a,u⟩:=h;rw[a,u];unfold tA;grind
theorem Ve{a b:Zg}(D:a.l.length=b.l.length)(g:0<a.l.length)(U:a.l.length<=8):Wp (dX (Sl.row [a,b]) (λz=>pH z)) λo=>o.l=zipWith tA a.l b.l:=by
 have G:=oC.of tA D;unfold dX;have⟨d,l,u⟩:=u6 (c:=a) Zaa g;obtain⟨v,I,L⟩:∃v,fZ (Sl.row [a,b]) (some 1) none=some v/\v.l=[b]:=zb (Sl.row [a,b]) 1 (Nat.le_succ 1);rw[show idx (Sl.row [a,b]) 0=some a from rfl,ζb,l,ζb,I,ζb];unfold dX.W1;have f:len v=1:=Zac;have hi:idx v 0=some b:=by unfold idx;grind
 refine eU 1 (λi(q:Zg×Int)=>(i=0/\q=(d,0))\/(i=1/\q.1.l=zipWith tA a.l b.l/\q.2=1)) (.inl ⟨rfl,rfl⟩) ?_ ?_;rintro i ⟨o,k⟩ J (⟨rfl,e⟩|⟨rfl,-,-⟩);cases e;unfold dX.br;dsimp only;rw[f,show decide ((0:Int)<1)=true from rfl,bH,hi,ζb];unfold dX.W2;refine eU d.l.length (λn(q:Zg×Int)=>q.2=(n:Int)/\q.1.l.length=a.l.length/\∀j:Nat,q.1.l[j]?=if j<n then(zipWith tA a.l b.l)[j]?else a.l[j]?) ⟨rfl,by rw[u],λj=>Zac⟩ ?_ ?_;rintro n ⟨o,_⟩ O ⟨rfl,g1,g2⟩;simp only at g1 g2;have w:n<a.l.length:=by grind
 have B:n<b.l.length:=Zaa;unfold dX.bU;dsimp only;rw[show decide ((n:Int)<len d)=true from Zac,bH,qa Zaa,ζb];unfold Sl.get;rw[g2 n,if_neg Zaa,ζd w,ζb,bJ B,ζb,VX,ζb,ζb];have⟨o2,k1,k2⟩:=put_eq (s:=o) (p:=n) (x:=tA a.l[n] b.l[n]) Zaa;rw[k1,ζb,bg];refine⟨cF n Zaa,by show o2.l.length=_;simp_all,λj=>?_⟩;show o2.l[j]?=_;grind;rintro⟨o,_⟩ ⟨rfl,g1,g2⟩;simp only at g1 g2;unfold dX.bU;dsimp only;rw[iY,bE,bg];refine(bg _).2 (.inr ⟨rfl,ext_getElem? λj=>?_,rfl⟩);rw[g2 j];by_cases C:j<d.l.length;rw[if_pos C];rw[if_neg C,getElem?_eq_none (by rw[<-u];omega),getElem?_eq_none (by rw[G.1,<-u];omega)];omega;rintro⟨o,k⟩ (⟨h,_⟩|⟨_,e,e2⟩);cases h;simp only at e e2;subst e2;unfold dX.br;dsimp only;rw[f,show decide ((1:Int)<1)=false from rfl,bE,bg];exact(bg _).2 e
theorem dV.same{a b:ST}(h:dV a b)(k:dV b a):a=b:=by refine List.ext_getElem h.1 λj c u=>?_;have:=h.2 j _ _ (ζd c) (ζd u);have:=k.2 j _ _ (ζd u) (ζd c);omega
def lp(L:aZ ST)(f:Nat->X')(d:ST):Prop:=d∈L/\f (L.idxOf d)=true
section
variable{t:Z4}{A:cu 200 bF}{L:aZ ST}{tb:Sl X'}{x:b9}
def Low(t:Z4)(A:cu 200 bF)(L:aZ ST)(f:Nat->X')(c:ST)(o:Zg):Prop:=(o=.nil/\∀d,lp L f d->¬dV c d)\/(Cons t A o.l/\dV c o.l/\(∀d,lp L f d->dV c d->dV o.l d)/\(∃d,lp L f d/\dV c d)/\∀e,(∀d,lp L f d->dV c d->dV e d)->dV e o.l)
theorem zO{c:ST}{p:Nat}(h:p<c.length):dV c (bump c p 1):=⟨vq.symm,λq x y w u=>by
 rw[xS (ζd h)]at u
 grind⟩
theorem PN(hS:Small t)(r:VT t)(hM:ga t (bR t) A)(B:eE t A L)(h5:L.length<=5000)(E:ins x.l=L)(av:x.truth=tb)(hx:Ap L (lN x.index))(aH:tb.l.length=L.length):
 Wp (dN x) λout=>out.l.length=L.length/\∀(i:Nat)c,L[i]?=some c->∃o,out.l[i]?=some o/\Low t A L (jO tb) c o:=by
 have R:=r.few;have aG:=r.ok.one;have aw:x.l.l.length=L.length:=by rw[<-E,jE]
 unfold dN;have ax:len x.l=(L.length:Int):=by simp only[len,aw]
 rw[ax,show qX (L.length:Int) (Sl.nil:Zg)=some (.row (replicate L.length Sl.nil))from by unfold qX;rw[if_pos ⟨Zaa,Zaa⟩];rfl,ζb,eG _ Zaa Zaa]
 unfold dN.W1;refine eU L.length (λm(q:Zb×Int)=>q.2=(L.length:Int)-1-(m:Int)/\q.1.l.length=L.length/\(∀(j:Nat)c,L.length-m<=j->L[j]?=some c->∃o,q.1.l[j]?=some o/\Low t A L (jO tb) c o)/\∀j:Nat,j<L.length-m->q.1.l[j]?=some .nil)
  ⟨Zab,by simp[Sl.l],λj c Q b=>absurd (ζe.1 b).1 Zaa,λj Q=>by
   show(replicate L.length (Sl.nil:Zg))[j]?=_;rw[List.getElem?_replicate,if_pos Zaa]⟩ ?_ ?_
 .rintro m ⟨out,_⟩ hm ⟨rfl,g1,g2,g3⟩;simp only at g1 g2 g3;obtain⟨i,hi⟩:∃i:Nat,i+m+1=L.length:=⟨L.length-1-m,Zaa⟩
  have W:i<L.length:=Zaa
  have J:=ζd W;have F:=(B.mem _).1 (getElem_mem W);unfold dN.br;dsimp only;rw[show(L.length:Int)-1-(m:Int)=(i:Int)from Zaa,decide_eq_true (show(i:Int)>=0 by omega),bH,av,CF Zaa,ζb,show(i:Int)-1=(L.length:Int)-1-((m+1:Nat):Int)from Zaa]
  cases H:jO tb i with
  |true=>
   have V:i<x.l.l.length:=Zaa
   have X:x.l.l[i].l=L[i]:=by have:=tY V;rw[E,J]at this;exact(Option.some.inj this).symm
   have⟨o2,k1,k2⟩:=put_eq (s:=out) (p:=i) (x:=x.l.l[i]) Zaa
   rw[bH,bJ V,ζb,qa Zaa,ζb,k1,ζb,bg]
   refine⟨eG _ Zaa Zaa,by show o2.l.length=_;rw[k2,length_set];exact g1,λj c Q b=>?_,λj Q=>?_⟩
   .show ∃o,o2.l[j]?=some o/\_;rw[k2,getElem?_set]
    by_cases e:i=j
    .subst e;rw[J]at b;cases b;exact⟨_,by rw[if_pos rfl,if_pos Zaa],.inr ⟨by rw[X];exact F,by rw[X];exact dV.refl _,λd _ hd=>by rw[X];exact hd,⟨_,⟨getElem_mem W,by rw[om B.nodup J];exact H⟩,dV.refl _⟩,λe g=>by rw[X];exact g _ ⟨getElem_mem W,by rw[om B.nodup J];exact H⟩ (dV.refl _)⟩⟩
    rw[if_neg e];exact g2 j c Zaa b
   show o2.l[j]?=_;rw[k2,getElem?_set,if_neg Zaa];exact g3 j Zaa
  |false=>
   rw[bE,d_];refine(Vb hS r B E hx J).mono λl ai=>?_
   have aj:l.l.length=(wM L L[i]).length:=by rw[ai,List.length_map]
   have aI:l.l.length<=8:=by rw[aj];have:=List.length_filterMap_le (λp=>if bump L[i] p 1∈L then some (L.idxOf (bump L[i] p 1))else none) (range L[i].length);rw[List.length_range]at this;exact le_trans this (by rw[F.1.1];exact R)
   unfold dN.W2;refine eU l.l.length (λn(q:Zb×Int)=>q.2=(n:Int)/\q.1.l.length=L.length/\(∀j:Nat,j≠i->q.1.l[j]?=out.l[j]?)/\∃a,q.1.l[i]?=some a/\
    ((a=.nil/\∀(m' k:Nat)z,m'<n->(wM L L[i])[m']?=some k->L[k]?=some z->∀d,lp L (jO tb) d->¬dV z d)\/
     (Cons t A a.l/\dV L[i] a.l/\(∀(m' k:Nat)z,m'<n->(wM L L[i])[m']?=some k->L[k]?=some z->∀d,lp L (jO tb) d->dV z d->dV a.l d)/\(∃d,lp L (jO tb) d/\dV L[i] d)/\∀e,(∀d,lp L (jO tb) d->dV L[i] d->dV e d)->dV e a.l)))
    ⟨rfl,g1,λ_ _=>rfl,.nil,g3 i Zaa,.inl ⟨rfl,λm' k z h=>absurd h Zaa⟩⟩ ?_ ?_
   .rintro n ⟨o,_⟩ hn ⟨rfl,e1,e2,a,e3,e4⟩;simp only at e1 e2 e3;have ak:n<(wM L L[i]).length:=by omega
    have Y:=ζd ak;have K:=getElem_mem ak;generalize hk:(wM L L[i])[n]=k at Y K;have⟨p,hp,Z,ay⟩:=zQ.1 K;have v:L[k]?=some (bump L[i] p 1):=by rw[ay];exact ql Z
    have aJ:i<k:=(Fk B J K).1;have aK:=(ζe.1 v).1;have⟨ok,aA,al⟩:=g2 k _ Zaa v
    have am:idx l (n:Int)=some (k:Int):=by rw[kD,ai,getElem?_map,Y];rfl
    have S:o.l[k]?=some ok:=by rw[e2 k Zaa];exact aA
    unfold dN.bU;dsimp only;rw[jt hn,bH,am,ζb,qa Zaa,ζb]
    unfold Sl.get;rw[S,ζb];rcases al with⟨rfl,an⟩|⟨y,u,aB,⟨de,aC,aD⟩,ao⟩
    .rw[show Sl.isNil (Sl.nil:Zg)=some true from rfl,ζb,bH,bg];refine⟨cF n Zaa,e1,e2,a,e3,?_⟩
     have O:∀(m' I:Nat)z,m'<n+1->¬m'<n->(wM L L[i])[m']?=some I->L[I]?=some z->z=bump L[i] p 1:=λm' I z f G C D=>by obtain rfl:m'=n:=Zaa;rw[Y]at C;cases C;rw[v]at D;exact(Option.some.inj D).symm
     rcases e4 with⟨T,U⟩|⟨T,U,b⟩
     .refine .inl ⟨T,λm' I z f C D d hd=>?_⟩
      by_cases G:m'<n
      .exact U m' I z G C D d hd
      rw[O m' I z f G C D];exact an d hd
     refine .inr ⟨T,U,λm' I z f C D d hd u=>?_,b.2⟩
     by_cases G:m'<n
     .exact b.1 m' I z G C D d hd u
     rw[O m' I z f G C D]at u;exact absurd u (an d hd)
    have ap:0<ok.l.length:=by rw[y.1.1];omega
    have aq:=(zO hp).trans u;have O:∀(m' I:Nat)z,m'<n+1->¬m'<n->(wM L L[i])[m']?=some I->L[I]?=some z->∀d,lp L (jO tb) d->dV z d->dV ok.l d:=λm' I z f G C D d hd u=>by obtain rfl:m'=n:=Zaa;rw[Y]at C;cases C;rw[v]at D;cases D;exact aB d hd u
    rw[tO ap,ζb,bE,qa Zaa,ζb,e3,ζb]
    rcases e4 with⟨rfl,U⟩|⟨T,U,b⟩
    .have⟨o2,k1,k2⟩:=put_eq (s:=o) (p:=i) (x:=ok) Zaa
     rw[show Sl.isNil (Sl.nil:Zg)=some true from rfl,ζb,bH,ζb,S,ζb,ζb,k1,ζb,bg];refine⟨cF n Zaa,by show o2.l.length=_;rw[k2,length_set];exact e1,λj Q=>by show o2.l[j]?=_;rw[k2,getElem?_set,if_neg (Ne.symm Q)];exact e2 j Q,ok,by show o2.l[i]?=_;rw[k2,getElem?_set_self Zaa],.inr ⟨y,aq,λm' I z f C D d hd u=>?_,⟨de,aC,(zO hp).trans aD⟩,λe g=>ao e λd hd u=>g d hd ((zO hp).trans u)⟩⟩
     by_cases G:m'<n
     .exact absurd u (U m' I z G C D d hd)
     exact O m' I z f G C D d hd u
    have M:a.l.length=ok.l.length:=T.1.1.trans y.1.1.symm;have N:=oC.of tA M;have⟨w1,w2,P⟩:=N.le_min M;rw[tO (show 0<a.l.length by omega),ζb,bE,ζb,e3,ζb,ζb,S,ζb,d_]
    refine(Ve M Zaa (by rw[T.1.1];exact R)).mono λw hw=>?_
    have⟨o2,k1,k2⟩:=put_eq (s:=o) (p:=i) (x:=w) Zaa
    rw[ζb,k1,ζb,bg];rw[<-hw]at N w1 w2 P;refine⟨cF n Zaa,by show o2.l.length=_;rw[k2,length_set];exact e1,λj Q=>by show o2.l[j]?=_;rw[k2,getElem?_set,if_neg (Ne.symm Q)];exact e2 j Q,w,by show o2.l[i]?=_;rw[k2,getElem?_set_self Zaa],.inr ⟨Hu T y N,P _ U aq,λm' I z f C D d hd u=>?_,b.2.1,λe g=>P _ (b.2.2 e g) (ao e λd hd u=>g d hd ((zO hp).trans u))⟩⟩
    by_cases G:m'<n
    .exact w1.trans (b.1 m' I z G C D d hd u)
    exact w2.trans (O m' I z f G C D d hd u)
   rintro⟨o,_⟩ ⟨rfl,e1,e2,a,e3,e4⟩;simp only at e1 e2 e3;unfold dN.bU;dsimp only;rw[iY,bE,bg];have ar:∀d,lp L (jO tb) d->dV L[i] d->∃(m' k:Nat)(z:ST),m'<l.l.length/\(wM L L[i])[m']?=some k/\L[k]?=some z/\dV z d:=λd hd u=>by have hD:=(B.mem _).1 hd.1;have aE:¬dV d L[i]:=λh=>(by have:d=L[i]:=dV.same h u;have G:=hd.2;rw[this,om B.nodup J,H]at G;cases G);have⟨p,hp,Z,aF⟩:=Cm r hM B F u d.sum.toNat hD (dV.refl d) Zaa aE;have hm:L.idxOf (bump L[i] p 1)∈wM L L[i]:=zQ.2 ⟨p,hp,Z,rfl⟩;have⟨m',au⟩:=getElem?_of_mem hm;exact⟨m',_,_,by rw[aj];exact(ζe.1 au).1,au,ql Z,aF⟩
   refine(bg _).2 ⟨(eG ((i:Int)-1) Zaa Zaa).trans Zaa,e1,λj c Q b=>?_,λj Q=>by show o.l[j]?=_;rw[e2 j Zaa];exact g3 j Zaa⟩
   show∃o',o.l[j]?=some o'/\_
   by_cases e:j=i
   .subst e;rw[J]at b;cases b;refine⟨a,e3,?_⟩;rcases e4 with⟨T,U⟩|⟨T,U,b⟩
    .exact .inl ⟨T,λd hd u=>by
      have⟨m',k,z,f,G,C,D⟩:=ar d hd u;exact U m' k z f G C d hd D⟩
    exact .inr ⟨T,U,λd hd u=>by
     have⟨m',k,z,f,G,C,D⟩:=ar d hd u;exact b.1 m' k z f G C d hd D,b.2⟩
   rw[e2 j e];exact g2 j c Zaa b
 rintro⟨out,_⟩ ⟨rfl,g1,g2,-⟩;unfold dN.br;dsimp only;rw[decide_eq_false Zaa,bE,bg]
 exact(bg _).2 ⟨g1,λi c b=>g2 i c Zaa b⟩
end
end Go.VE
namespace Go.VE
section
variable{α σ:Type}
def wC(p:α->σ->a_ (X'×σ)):aZ α->σ->a_ (X'×σ)
 |[],x=>some (false,x)|a::r,x=>(p a x).bind λy=>if y.1 then some (true,y.2)else wC p r y.2
theorem Gn{s:Sl α}{p:α->σ->a_ (X'×σ)}{x:σ}(B:s.l.length<1073741824):AS s p x=wC p s.l x:=by
 have key:∀(c:aZ α)(j:Nat)(x:σ),s.l.drop j=c->((bW (ER s p) ((j:Int),x)).bind (Fw.elim (λe=>some ((-1:Int),e)) λe=>some e)).bind (λy:Int×σ=>some (decide (y.1>=0),y.2))=wC p c x:=by intro c;induction c with|nil=>intro j x hd;have d:decide ((j:Int)<len s)=false:=(by have:s.l.length<=j:=(by simpa using hd);simp[len];omega);rw[eP];simp only[ER,d,bl,false_eq_true,if_false,ζb,Fw.elim,wC];rfl|cons a c u=>intro j x hd;have d:j<s.l.length:=(by apply byContradiction;intro C;rw[List.drop_eq_nil_of_le Zaa]at hd;cases hd);have w:=List.drop_eq_getElem_cons d;rw[w]at hd;simp only[List.cons.injEq]at hd;rw[eP];simp only[ER,jt d,bl,if_true,bJ d,ζb,hd.1,wC];cases p a x with|none=>rfl|some y=>have⟨b,z⟩:=y;simp only[ζb];cases b with|true=>simp[Fw.elim]|false=>simp only[false_eq_true,if_false,ζb,cF j Zaa];exact u (j+1) z hd.2
 exact key s.l 0 x rfl
def F_(p:α->a_ X'):aZ α->a_ X'
 |[]=>some false|a::r=>(p a).bind λb=>if b then some true else F_ p r
theorem Ih(p:α->a_ X'):∀l:aZ α,wC (λx(u:Unit)=>(p x).map λb=>(b,u)) l ()=(F_ p l).map λb=>(b,())
 |[]=>rfl|a::r=>by simp only[wC,F_];cases p a with|none=>rfl|some b=>cases b<;>simp[Ih p r]
theorem A3{s:Sl α}(p:α->a_ X')(B:s.l.length<1073741824):AS s (λx(u:Unit)=>(p x).map λb=>(b,u)) ()=(F_ p s.l).map λb=>(b,()):=by rw[Gn B,Ih]
theorem AG{p:α->a_ X'}{f:α->X'}:∀{l:aZ α},(∀x∈l,p x=some (f x))->F_ p l=some (l.any f)
 |[],_=>rfl|a::r,h=>by simp only[F_,h a Zab,ζb,any_cons,AG (λx B=>h x (mem_cons_of_mem _ B))];cases f a<;>rfl
theorem lS{δ:Type}{b:(α->a_ δ)->α->a_ δ}{n:Nat}(h:0<n)(z:α):iw b n z=b (iw b (n-1)) z:=by cases n with|zero=>omega|succ n=>rfl
end
def Oa(l:ST)(az:aZ Assign):ST:=az.foldl (λl a=>l.set a.var.toNat a.value) l
def kN(P:bX):Nat->ST
 |0=>P.vars.l.map Var.init_|k+1=>match P.events.l[k]?with
  |some e=>Oa (kN P k) e.assign.l|none=>kN P k
theorem Jw:∀(az:aZ Assign)(l:ST),(Oa l az).length=l.length
 |[],l=>rfl|a::r,l=>by show(Oa (l.set a.var.toNat a.value) r).length=_;rw[Jw r];simp
theorem rL(P:bX):∀k,(kN P k).length=P.vars.l.length
 |0=>by simp[kN]|k+1=>by unfold kN;split;rw[Jw,rL P k];exact rL P k
def Nr{α:Type}(s:Sl α):Prop:=s=.nil\/∃l,s=.row l
theorem Ja:∀(vs:aZ Var)(s:Zg),Nr s->s.l.length+vs.length<1073741824->∃B,xh vs s=some B/\Nr B/\B.l=s.l++vs.map Var.init_
 |[],s,h,_=>⟨s,rfl,h,Zab⟩|v::r,s,h,D=>by simp only[length_cons]at D;have a:gy s v.init_=some (.row (s.l++[v.init_])):=(by unfold gy;rw[if_pos Zaa]);have⟨B,g1,g2,g3⟩:=Ja r (.row (s.l++[v.init_])) (.inr ⟨_,rfl⟩) (by show(s.l++[v.init_]).length+r.length<1073741824;simp;omega);refine⟨B,?_,g2,by rw[g3];show(s.l++[v.init_])++r.map Var.init_=_;simp⟩;simp only[xh,a,ζb,g1]
theorem Jp:∀(az:aZ Assign)(s:Zg),Nr s->(∀a∈az,0<=a.var/\a.var<s.l.length)->∃B,wN az s=some B/\Nr B/\B.l=Oa s.l az
 |[],s,h,_=>⟨s,rfl,h,rfl⟩|a::r,s,h,D=>by have⟨d,c⟩:=D a Zab;have e:Sl.jg s a.var=some a.var.toNat:=(by unfold Sl.jg;rw[if_pos ⟨d,Zaa⟩]);rcases h with rfl|⟨l,rfl⟩;simp[Sl.l]at c;omega;have u:Sl.put (.row l) a.var.toNat a.value=some (.row (l.set a.var.toNat a.value)):=(by unfold Sl.put;rw[if_pos (by simp[Sl.l]at c⊢;omega)]);have⟨B,g1,g2,g3⟩:=Jp r (.row (l.set a.var.toNat a.value)) (.inr ⟨_,rfl⟩) (λb w=>by have:=D b (mem_cons_of_mem _ w);simpa[Sl.l]using this);refine⟨B,?_,g2,g3⟩;simp only[wN,e,u,ζb,g1]
theorem M6{s:Zg}(h:Nr s)(B:s.l.length<1073741824):∃c,Nj s=some c/\c.l=s.l:=by rcases h with rfl|⟨l,rfl⟩;exact⟨.nil,rfl,rfl⟩;unfold Nj IB.ec oM;simp only[Sl.isNil,ζb,bl,false_eq_true,if_false];by_cases a:(Sl.row l).l=[];rw[if_pos a];exact⟨.row [],rfl,a.symm⟩;rw[if_neg a,if_pos (by simp[Sl.l]at B⊢;omega)];exact⟨_,rfl,by simp[Sl.l]⟩
def yJ(P:bX):Prop:=∀e∈P.events.l,∀a∈e.assign.l,0<=a.var/\a.var<P.vars.l.length
theorem I8{P:bX}(B:yJ P)(f:P.vars.l.length<1073741824):∀(b:aZ WF)(k:Nat)(s:Zg),P.events.l.drop k=b->Nr s->s.l=kN P k->
 ∃r,w_ (k:Int) b s=some r/\r.length=b.length/\∀(i:Nat)x,r[i]?=some x->x.1=((k+i+1:Nat):Int)/\x.2.l=kN P (k+i+1)
 |[],k,s,_,_,_=>⟨[],rfl,rfl,Zab⟩|e::b,k,s,hd,D,G=>by have d:k<P.events.l.length:=(by apply byContradiction;intro D;rw[List.drop_eq_nil_of_le Zaa]at hd;cases hd);have C:=List.drop_eq_getElem_cons d;rw[C]at hd;simp only[List.cons.injEq]at hd;have I:e∈P.events.l:=hd.1▸getElem_mem d;have w:s.l.length=P.vars.l.length:=(by rw[G,rL]);have⟨n,g1,g2,g3⟩:=Jp e.assign.l s D (λa J=>by rw[w];exact B e I a J);have u:kN P (k+1)=n.l:=(by rw[g3,G];unfold kN;rw[ζd d,hd.1];cases k<;>rfl);have⟨c,g4,g5⟩:=M6 g2 (by rw[<-u,rL];exact f);have⟨r,L,O,Q⟩:=I8 B f b (k+1) n hd.2 g2 u.symm;refine⟨((k:Int)+1,c)::r,?_,by simp[O],λi x z=>?_⟩;simp only[w_,g1,g4,ζb];rw[show(k:Int)+1=((k+1:Nat):Int)from rfl,L];rfl;cases i with|zero=>simp only[List.getElem?_cons_zero,ζa]at z;subst z;exact⟨rfl,by rw[g5,<-u]⟩|succ i=>rw[List.getElem?_cons_succ]at z;have⟨S,T⟩:=Q i x z;exact⟨by rw[S];congr 1;omega,by rw[T];congr 1;omega⟩
theorem Hw{P:bX}(B:yJ P)(a:P.vars.l.length<1073741824)(U:P.events.l.length<1073741824)(D:∀e∈P.events.l,e.assign.l.length<1073741824):
 ∃r,jM P=some r/\r.length=P.events.l.length+1/\∀(i:Nat)x,r[i]?=some x->x.1=(i:Int)/\x.2.l=kN P i:=by
 have⟨s,g1,g2,g3⟩:=Ja P.vars.l .nil (.inl rfl) (by simpa[Sl.l]using a)
 have w:s.l=kN P 0:=by rw[g3];simp[Sl.l,kN]
 have⟨c,g4,g5⟩:=M6 g2 (by rw[w,rL];exact a)
 have⟨r,z,C,G⟩:=I8 B a P.events.l 0 s rfl g2 w;refine⟨(0,c)::r,?_,by simp[C],λi x u=>?_⟩
 .unfold jM;have b:(pZ P.vars.l.length&&(pZ P.events.l.length&&P.events.l.all λe=>pZ e.assign.l.length))=true:=by
   simp only[ζh,all_eq_true,pZ,decide_eq_true_eq];exact⟨Zaa,Zaa,λe h=>by have:=D e h;omega⟩
  rw[if_pos b,g1,ζb,g4,ζb];rw[show((0:Nat):Int)=0 from rfl]at z;rw[z];rfl
 cases i with
 |zero=>simp only[List.getElem?_cons_zero,ζa]at u;subst u;exact⟨rfl,by rw[g5,w]⟩|succ i=>rw[List.getElem?_cons_succ]at u;have⟨I,J⟩:=G i x u;exact⟨by rw[I];congr 1;omega,by rw[J];congr 1;omega⟩
theorem TV{P:bX}(D:yJ P)(b:P.vars.l.length<1073741824)(G:P.events.l.length<1073741824)(J:∀e∈P.events.l,e.assign.l.length<1073741824){k:Nat}(d:k<=P.events.l.length):
 ∃x,gu P (k:Int)=some x/\x.l=kN P k:=by
 have⟨r,c,O,C⟩:=Hw D b G J;have key:∀(a:aZ (Int×Zg))(i:Nat)(q:Zg),r.drop i=a->i<=k->∃x,(lE (λ(x:Int×(Zg))(q:Zg)=>gu.kz P k x q) a q).bind (Fw.rI (λq=>some Sl.nil) (λe=>Empty.elim e) (λe=>some e))=some x/\x.l=kN P k:=by intro a;induction a with|nil=>intro i q hd hi;have:r.length<=i:=(by simpa using hd);omega|cons y a I=>intro i q hd hi;have u:i<r.length:=Zaa;have e2:=List.drop_eq_getElem_cons u;rw[e2]at hd;simp only[List.cons.injEq]at hd;have⟨B,L⟩:=C i y (by rw[ζd u,hd.1]);by_cases w:i=k;subst w;refine⟨y.2,?_,L⟩;simp only[lE,gu.kz,B,beq_self_eq_true,bl,if_true,ζb,Fw.rI];have z:(y.1==(k:Int))=false:=(by rw[B];simp;omega);have⟨x,g1,g2⟩:=I (i+1) .nil hd.2 Zaa;refine⟨x,?_,g2⟩;simp only[lE,gu.kz,z,bl,false_eq_true,if_false,ζb];exact g1
 have⟨x,g1,g2⟩:=key r 0 .nil rfl (zero_le _);refine⟨x,?_,g2⟩;unfold gu ov gu.E1;simp only[ζb,c];exact g1
mutual
def Pred.sz:Pred->Nat
 |⟨_,_,_,_,_,l⟩=>1+Pred.Yr l
def Pred.Yr:Sl Pred->Nat
 |.nil=>0|.emp=>0|.row l=>Pred.mX l|.part l=>Pred.mX l
def Pred.mX:aZ Pred->Nat
 |[]=>0|x::r=>Pred.sz x+Pred.mX r
end
mutual
def Pred.dp:Pred->Nat
 |⟨_,_,_,_,_,l⟩=>1+Pred.Yl l
def Pred.Yl:Sl Pred->Nat
 |.nil=>0|.emp=>0|.row l=>Pred.Bk l|.part l=>Pred.Bk l
def Pred.Bk:aZ Pred->Nat
 |[]=>0|x::r=>max (Pred.dp x) (Pred.Bk r)
end
mutual
def Pred.lM(f:Pred->X'):Pred->X'
 |⟨a,b,c,d,e,l⟩=>f ⟨a,b,c,d,e,l⟩&&Pred.Na f l
def Pred.Na(f:Pred->X'):Sl Pred->X'
 |.nil=>true|.emp=>true|.row l=>Pred.Gf f l|.part l=>Pred.Gf f l
def Pred.Gf(f:Pred->X'):aZ Pred->X'
 |[]=>true|x::r=>Pred.lM f x&&Pred.Gf f r
end
theorem Pred.Zl(s:Sl Pred):Pred.Yr s=Pred.mX s.l:=by cases s<;>simp[Pred.Yr,Pred.mX,Sl.l]
theorem Pred.ZH(s:Sl Pred):Pred.Yl s=Pred.Bk s.l:=by cases s<;>simp[Pred.Yl,Pred.Bk,Sl.l]
theorem Pred.Jr(f:Pred->X'):∀l:aZ Pred,Pred.Gf f l=l.all (Pred.lM f)
 |[]=>by simp[Pred.Gf]|x::r=>by simp only[Pred.Gf,all_cons,Pred.Jr f r]
theorem Pred.YK(f:Pred->X')(s:Sl Pred):Pred.Na f s=s.l.all (Pred.lM f):=by cases s<;>simp[Pred.Na,Pred.Jr,Sl.l]
theorem Pred.Ui(p:Pred):p.sz=1+Pred.mX p.l.l:=by cases p;simp only[Pred.sz,Pred.Zl]
theorem Pred.ID(p:Pred):p.dp=1+Pred.Bk p.l.l:=by cases p;simp only[Pred.dp,Pred.ZH]
theorem Pred.pq(f:Pred->X')(p:Pred):p.lM f=(f p&&p.l.l.all (Pred.lM f)):=by cases p;simp only[Pred.lM,Pred.YK]
theorem Pred.MN:∀{l:aZ Pred}{q:Pred},q∈l->q.dp<=Pred.Bk l
 |x::r,q,h=>by simp only[Pred.Bk];rcases mem_cons.1 h with rfl|h;omega;have:=Pred.MN h;omega
theorem Pred.rN{p q:Pred}(h:q∈p.l.l):q.dp<p.dp:=by rw[p.ID];have:=Pred.MN h;omega
theorem Pred.zu(p:Pred):0<p.dp:=by rw[p.ID];omega
theorem Pred.ind{M:Pred->Prop}(h:∀p,(∀q∈p.l.l,M q)->M p)(p:Pred):M p:=by
 have key:∀n p,p.dp<=n->M p:=by intro n;induction n with|zero=>intro p u;have:=p.zu;omega|succ n w=>intro p u;exact h p λq z=>w q (by have:=Pred.rN z;omega)
 exact key _ p (le_refl _)
abbrev Pred.Sm(p:Pred):Prop:=p.lM (λq=>decide (q.l.l.length<1073741824))=true
theorem Pred.Sm.len{p:Pred}(h:p.Sm):p.l.l.length<1073741824:=by unfold Pred.Sm at h;rw[p.pq]at h;simp only[ζh,decide_eq_true_eq]at h;exact h.1
theorem Pred.Sm.zX{p q:Pred}(h:p.Sm)(B:q∈p.l.l):q.Sm:=by unfold Pred.Sm at h;rw[p.pq]at h;simp only[ζh,all_eq_true]at h;exact h.2 q B
theorem Mr{f:Pred->a_ X'}{g:Pred->X'}(p:Pred)(B:p.Sm):p.lM (λq=>f q==some (g q))=true->∀n,p.dp<=n->iw (λr(z:Pred)=>jB z f r) n p=some (p.lM g):=by induction p using Pred.ind with|h p C=>intro u n D;rw[p.pq]at u;simp only[ζh,all_eq_true,beq_iff_eq]at u;have hd:=p.ID;rw[lS Zaa];show jB p f _=_;unfold jB;rw[u.1,ζb,p.pq];cases g p with|false=>rfl|true=>rw[bH,A3 _ B.len,AG (f:=λq=> !q.lM g) (λq w=>by have:=C q w (B.zX w) (u.2 q w) (n-1) (by have:=Pred.rN w;omega);show(iw (λr(z:Pred)=>jB z f r) (n-1) q).bind _=_;rw[this];rfl)];simp only[Option.map_some,ζb,Bool.true_and];congr 1;rw[Bool.eq_iff_iff];simp
abbrev Q7(p:Pred):Bool:=toList p.name==toList ByteArray.empty
abbrev Nc(p:Pred)(c:Int):Bool:=(len p.l==c)&&(!decide (p.n<0)&&(!decide (p.n>1125899906842624)&&((p.n==0||p.kind==1)&&(p.kind==2||(p.kind==3||(p.kind==4||(p.proc==0&&(p.peer==0&&Q7 p))))))))
theorem We:∀k:_root_.Fin 22,1<=k.1->(cu.at Aq ((k.1:Nat):Int)).isSome=true:=by decide
theorem H_{k:Int}(a:1<=k)(B:k<22):∃c,cu.at Aq k=some c:=by have g:=We ⟨k.toNat,Zaa⟩ (by show 1<=k.toNat;omega);simp only at g;rw[show((k.toNat:Nat):Int)=k from Zaa]at g;exact Option.isSome_iff_exists.1 g
theorem ML{p:Pred}{c:Int}(f:1<=p.kind)(B:p.kind<22)(d:cu.at Aq p.kind=some c):lq p=some (Nc p c):=by
 unfold lq uP Nc Q7;rw[decide_eq_false (show¬p.kind<1 by omega),bE,ζb,decide_eq_false (show¬p.kind>=22 by omega),bE,d,ζb,ζb];generalize(len p.l==c)=e;generalize decide (p.n<0)=a;generalize decide (p.n>1125899906842624)=b;generalize(p.n==0)=z;generalize(p.kind==1)=k1;generalize(p.kind==2)=k2;generalize(p.kind==3)=k3;generalize(p.kind==4)=k4;generalize(p.proc==0)=d1;generalize(p.peer==0)=d2;generalize(toList p.name==toList ByteArray.empty)=d3
 cases e with
 |false=>rfl|true=>cases a with
  |true=>rfl|false=>cases b with
   |true=>rfl|false=>cases z<;>cases k1<;>first|rfl|(cases k2<;>cases k3<;>cases k4<;>cases d1<;>cases d2<;>cases d3<;>rfl)
theorem JW{p:Pred}(h:p.kind<1\/22<=p.kind):lq p=some false:=by
 unfold lq;have:(bl (decide (p.kind<1)) (some true) (some (decide (p.kind>=22))):a_ X')=some true:=by by_cases a:p.kind<1;rw[decide_eq_true a];rfl;rw[decide_eq_false a,bE,decide_eq_true Zaa]
 rw[this];rfl
def fB(p:Pred):X':=(lq p).getD false
theorem Wl(p:Pred):lq p=some (fB p):=by unfold fB;by_cases h:p.kind<1\/22<=p.kind;rw[JW h];rfl;have⟨c,a⟩:=H_ (k:=p.kind) Zaa Zaa;rw[ML Zaa Zaa a];rfl
theorem xz{p:Pred}(h:fB p=true):1<=p.kind/\p.kind<22/\cu.at Aq p.kind=some (len p.l):=by by_cases g:p.kind<1\/22<=p.kind;unfold fB at h;rw[JW g]at h;cases h;have⟨c,a⟩:=H_ (k:=p.kind) Zaa Zaa;unfold fB at h;rw[ML Zaa Zaa a]at h;simp only[Nc,Option.getD_some,ζh,beq_iff_eq]at h;exact⟨Zaa,Zaa,by rw[a,h.1]⟩
def uI(p:Pred):X':=decide (p.sz<=200)&&(decide (p.dp<=20)&&p.lM fB)
abbrev oV(p:Pred)(d l:Nat):Bool:=decide (p.sz<=l)&&(decide (p.dp+d<=21)&&p.lM fB)
abbrev wm(k:aZ Pred)(d l:Nat):Bool:=decide (Pred.mX k<=l)&&(decide (Pred.Bk k+d<=21)&&k.all (Pred.lM fB))
theorem Vk(p:Pred)(U:p.Sm):∀(n d l:Nat),1<=n->22<=n+d->d<=21->1<=d->l<=200->
 ∃B:Int,iw (λr(z:Pred×Int×Int)=>e_ z.1 z.2.1 z.2.2 r) n (p,(d:Int),(l:Int))=some (oV p d l,B)/\(oV p d l=true->B=((l-p.sz:Nat):Int)):=by
 induction p using Pred.ind with
 |h p D=>
  intro n d l e X hd jG f;have C:=p.Ui;have I:=p.ID;rw[lS Zaa]
  have D:=λq G=>D q G (U.zX G) (n-1)
  show∃B,e_ p (d:Int) (l:Int) (iw (λr(z:Pred×Int×Int)=>e_ z.1 z.2.1 z.2.2 r) (n-1))=_/\_
  generalize iw (λr(z:Pred×Int×Int)=>e_ z.1 z.2.1 z.2.2 r) (n-1)=R at D⊢
  unfold e_;rw[eG _ Zaa Zaa,Wl]
  by_cases b:l=0
  .subst b;have w:oV p d 0=false:=by
    have:¬(p.sz<=0):=Zaa
    simp only[oV,decide_eq_false this,Bool.false_and]
   rw[w];exact⟨_,rfl,λh=>by cases h⟩
  rw[decide_eq_false (show¬((l:Int)-1<0)by omega),bE,ζb]
  by_cases g:20<d
  .have w:oV p d l=false:=by
    have:¬(p.dp+d<=21):=by have:=p.zu;omega
    simp only[oV,decide_eq_false this,Bool.false_and,Bool.and_false]
   rw[w,decide_eq_true (show(d:Int)>20 by omega)]
   exact⟨_,rfl,λh=>by cases h⟩
  rw[decide_eq_false (show¬((d:Int)>20)by omega),bE,ζb]
  have Q:=p.pq fB
  cases S:fB p with
  |false=>
   have w:oV p d l=false:=by simp[oV,Q,S]
   rw[w];exact⟨_,rfl,λh=>by cases h⟩
  |true=>
   rw[ζb,show(!true)=false from rfl,bE,Gn U.len];have key:∀(k:aZ Pred),(∀q∈k,q∈p.l.l)->∀m:Nat,m<=200->∃m':Int,wC (λx s=>iR x (d:Int) s R) k (m:Int)=some (!wm k (d+1) m,m')/\(wm k (d+1) m=true->m'=((m-Pred.mX k:Nat):Int)):=by intro k;induction k with|nil=>intro _ m _;exact⟨m,by simp[wC,wm,Pred.mX,Pred.Bk];omega,λ_=>by simp[Pred.mX]⟩|cons q k J=>intro a m Y;have⟨B,g1,g2⟩:=D q (a q Zab) (d+1) m Zaa Zaa Zaa Zaa Y;have e1:iR q (d:Int) (m:Int) R=some (!oV q (d+1) m,B):=(by unfold iR;rw[cF d Zaa,g1];rfl);simp only[wC,e1,ζb];have u:wm (q::k) (d+1) m=(oV q (d+1) m&&wm k (d+1) (m-q.sz)):=(by rw[Bool.eq_iff_iff];simp only[wm,oV,Pred.mX,Pred.Bk,ζh,all_cons];constructor;rintro⟨a1,a2,a3,a4⟩;have a1:=of_decide_eq_true a1;have a2:=of_decide_eq_true a2;exact⟨⟨decide_eq_true Zaa,decide_eq_true Zaa,a3⟩,decide_eq_true Zaa,decide_eq_true Zaa,a4⟩;rintro⟨⟨a1,a2,a3⟩,T,W,Z⟩;have a1:=of_decide_eq_true a1;have a2:=of_decide_eq_true a2;have T:=of_decide_eq_true T;have W:=of_decide_eq_true W;exact⟨decide_eq_true Zaa,decide_eq_true Zaa,a3,Z⟩);cases w:oV q (d+1) m with|false=>rw[u,w];exact⟨B,rfl,λh=>by cases h⟩|true=>have⟨m',L,O⟩:=J (λx c=>a x (mem_cons_of_mem _ c)) (m-q.sz) Zaa;rw[u,w,Bool.true_and,g2 w];refine⟨m',by simpa using L,λh=>?_⟩;rw[O h];have:q.sz<=m:=(by have:=w;simp only[oV,ζh]at this;exact of_decide_eq_true this.1);congr 1;show m-q.sz-Pred.mX k=m-(q.sz+Pred.mX k);omega
   have⟨m',L,O⟩:=key p.l.l (λq G=>G) (l-1) Zaa
   rw[show((l:Int)-1)=((l-1:Nat):Int)from Zaa,L,ζb]
   have w:oV p d l=wm p.l.l (d+1) (l-1):=by rw[Bool.eq_iff_iff];simp only[oV,wm,ζh,Q,S,true_and,C,I];constructor;rintro⟨a1,a2,a3⟩;have a1:=of_decide_eq_true a1;have a2:=of_decide_eq_true a2;exact⟨decide_eq_true Zaa,decide_eq_true Zaa,a3⟩;rintro⟨a1,a2,a3⟩;have a1:=of_decide_eq_true a1;have a2:=of_decide_eq_true a2;exact⟨decide_eq_true Zaa,decide_eq_true Zaa,a3⟩
   refine⟨m',by rw[w];simp,λh=>?_⟩
   rw[O (by rw[<-w];exact h),C]
   congr 1
   omega
theorem AF{p:Pred}(B:p.Sm):mo p=some (uI p):=by obtain⟨u,h,-⟩:=Vk p B 100000 1 200 Zaa Zaa Zaa Zaa Zaa;unfold mo qS;rw[show iw (λr(z:Pred×Int×Int)=>e_ z.1 z.2.1 z.2.2 r) 100000 (p,(1:Int),(200:Int))=_ from h];simp only[ζb];congr 1;rw[Bool.eq_iff_iff];simp only[uI,oV,ζh];constructor;rintro⟨a1,a2,a3⟩;have a2:=of_decide_eq_true a2;exact⟨a1,decide_eq_true Zaa,a3⟩;rintro⟨a1,a2,a3⟩;have a2:=of_decide_eq_true a2;exact⟨a1,decide_eq_true Zaa,a3⟩
theorem Ts{l:aZ Pred}{i:Nat}(h:i<l.length):Pred.mX (l.take (i+1))=Pred.mX (l.take i)+l[i].sz:=by
 have key:∀(l:aZ Pred)(i:Nat)(h:i<l.length),Pred.mX (l.take (i+1))=Pred.mX (l.take i)+l[i].sz:=by intro l;induction l with|nil=>intro i h;simp at h|cons x r u=>intro i h;cases i with|zero=>simp[Pred.mX]|succ i=>have:=u i (by simpa using h);simp only[List.take_succ_cons,Pred.mX,List.getElem_cons_succ]at this⊢;omega
 exact key l i h
theorem LM(l:aZ Pred)(i:Nat):Pred.mX (l.take i)<=Pred.mX l:=by
 induction l generalizing i with
 |nil=>simp|cons x r u=>cases i with
  |zero=>simp[Pred.mX]|succ i=>simp only[List.take_succ_cons,Pred.mX];have:=u i;omega
theorem count_eq(p:Pred)(G:p.Sm):∀(n l:Nat),l+1<=n->l<=200->iw (λr(z:Pred×Int)=>jl z.1 z.2 r) n (p,(l:Int))=some ((min p.sz (l+1):Nat):Int):=by
 induction p using Pred.ind with|h p C=>
  intro n l O Q;have J:=p.Ui;rw[lS Zaa];have C:=λq I=>C q I (G.zX I) (n-1);show jl p (l:Int) (iw (λr(z:Pred×Int)=>jl z.1 z.2 r) (n-1))=_;generalize iw (λr(z:Pred×Int)=>jl z.1 z.2 r) (n-1)=R at C⊢;unfold jl kU.W1;refine Wp.eq ?_;refine fT (λs:Int×Int=>∃i:Nat,s.2=i/\i<=p.l.l.length/\s.1=((min (1+Pred.mX (p.l.l.take i)) (l+1):Nat):Int)) (λs=>p.l.l.length-s.2.toNat) ⟨0,rfl,zero_le _,by simp[Pred.mX]⟩ ?_;rintro⟨c,_⟩ ⟨i,rfl,hi,a⟩;simp only at a;subst a;unfold kU.br;by_cases u:i<p.l.l.length;rw[jt u,bH,ζb];by_cases L:min (1+Pred.mX (p.l.l.take i)) (l+1)<=l;have w:min (1+Pred.mX (p.l.l.take i)) (l+1)=1+Pred.mX (p.l.l.take i):=by omega
  have B:=getElem_mem u;rw[decide_eq_true (show(((min (1+Pred.mX (p.l.l.take i)) (l+1):Nat)):Int)<=(l:Int)by omega),bH,bJ u,ζb,w,eG _ Zaa Zaa,
   show(l:Int)-((1+Pred.mX (p.l.l.take i):Nat):Int)=((l-(1+Pred.mX (p.l.l.take i)):Nat):Int)from Zaa,
   C _ B _ Zaa Zaa,ζb,bg,eG _ Zaa Zaa,cF i (by have:=G.len;omega)]
  refine⟨⟨i+1,rfl,Zaa,?_⟩,by simp only;omega⟩;simp only;rw[Ts u];omega;rw[decide_eq_false (show¬(((min (1+Pred.mX (p.l.l.take i)) (l+1):Nat)):Int)<=(l:Int)by omega),bE,bg];refine(bg _).2 ?_;have:=LM p.l.l i;congr 1;omega;have D:i=p.l.l.length:=Zaa;subst D;rw[show decide (((p.l.l.length:Nat):Int)<len p.l)=false from iY,bE,ζb,bE,bg];refine(bg _).2 ?_;rw[take_length];congr 1;omega
section
variable{t:Z4}
abbrev zJ(t:Trace)(p:Int):Bool:=decide (p>=0)&&decide (p<len t.procs)
def N3(t:Z4)(p:Int)(name:U'):X':=match idx t.procs p with
 |some P=>P.vars.l.any λv=>toList v.name==toList name|none=>false
def tc(t:Z4)(q:Pred):X':=if q.kind==2 then zJ t q.proc&&(q.peer==0&&N3 t q.proc q.name)else if q.kind==3 then zJ t q.proc&&(q.peer==0&&Q7 q)else if q.kind==4 then zJ t q.proc&&(zJ t q.peer&&(!(q.proc==q.peer)&&Q7 q))else true
theorem L7(p:Int):kI t p=some (zJ t p):=by unfold kI zJ;cases decide (p>=0)<;>rfl
theorem vO{p:Int}(h:zJ t p=true):∃n:Nat,p=n/\n<t.procs.l.length:=by simp only[zJ,ζh]at h;have a:=of_decide_eq_true h.1;have u:=of_decide_eq_true h.2;exact⟨p.toNat,Zaa,by simp only[len]at u;omega⟩
theorem SK(a:Small t){p:Int}(h:zJ t p=true)(name:U'):rV t p name=some (N3 t p name):=by obtain⟨n,rfl,u⟩:=vO h;unfold rV N3;rw[bJ u,ζb,Di (p:=λz=>o4 z name) (f:=λv=>toList v.name==toList name) (λv _=>rfl) (a.2 _ (getElem_mem u)).2.1];rfl
theorem Wh(a:Small t)(q:Pred):kW q t=some (tc t q):=by
 unfold kW tc Q7;rw[L7,L7]
 cases q.kind==2 with
 |true=>rw[bH,if_pos rfl,ζb];cases h:zJ t q.proc with|false=>rfl|true=>rw[SK a h];cases q.peer==0<;>rfl
 |false=>rw[bE,if_neg Zab];cases q.kind==3 with|true=>rw[bH,if_pos rfl];cases zJ t q.proc<;>cases q.peer==0<;>cases(toList q.name==toList ByteArray.empty)<;>rfl|false=>rw[bE,if_neg Zab];cases q.kind==4 with|true=>rw[bH,if_pos rfl];cases zJ t q.proc<;>cases zJ t q.peer<;>cases(q.proc==q.peer)<;>cases(toList q.name==toList ByteArray.empty)<;>rfl|false=>rfl
theorem J7{f:Pred->a_ X'}{g:Pred->X'}(h:∀q,f q=some (g q)){p:Pred}(B:p.Sm)(hd:p.dp<=100000):nT p f=some (p.lM g):=by refine Mr p B ?_ _ hd;induction p using Pred.ind with|h p w=>rw[p.pq,ζh,all_eq_true];exact⟨by rw[h];simp,λq u=>w q u (B.zX u) (by have:=Pred.rN u;omega)⟩
theorem Jj(a:Small t){p:Pred}(B:p.Sm)(hd:p.dp<=100000):oW t p=some (p.lM (tc t)):=by unfold oW;rw[J7 (g:=tc t) (λq=>Wh a q) B hd];rfl
abbrev th(k:Int):Int:=if k<=8 then 1 else 2
abbrev Cs(k:Int):Int:=if k<=12 then 1 else 2
def yX(q:Pred):X':=q.l.l.all λk=>th k.kind==Cs q.kind
theorem A8(k:Int):mz k=some (th k):=by unfold mz th;by_cases h:k<=8;rw[decide_eq_true h,if_pos h];rfl;rw[decide_eq_false h,if_neg h];rfl
theorem Vu(k:Int):sY k=some (Cs k):=by unfold sY Cs;by_cases h:k<=12;rw[decide_eq_true h,if_pos h];rfl;rw[decide_eq_false h,if_neg h];rfl
theorem Vz{q:Pred}(B:q.l.l.length<1073741824):jw q=some (yX q):=by unfold jw yX;rw[A3 _ B,AG (f:=λk=> !(th k.kind==Cs q.kind)) (λk _=>by unfold mM;rw[A8,Vu];rfl)];simp only[Option.map_some,ζb];congr 1;rw[Bool.eq_iff_iff];simp
theorem HV{p:Pred}(B:p.Sm)(hd:p.dp<=100000):o8 p=some (p.lM yX):=by
 unfold o8;have:p.lM (λq=>(λz=>jw z) q==some (yX q))=true:=by clear hd;induction p using Pred.ind with|h p w=>rw[p.pq,ζh,all_eq_true];exact⟨by show(jw p==some (yX p))=true;rw[Vz B.len];simp,λq u=>w q u (B.zX u)⟩
 unfold nT;rw[Mr p B this _ hd];rfl
def BZ(q:Pred):X':=decide (q.kind>=18)&&decide (q.kind<=21)
theorem KU{p:Pred}(B:p.Sm):oQ p=some (uI p&& !p.lM λq=> !BZ q):=by unfold oQ;rw[AF B,ζb];cases u:uI p with|false=>rfl|true=>have hd:p.dp<=20:=(by simp only[uI,ζh]at u;exact of_decide_eq_true u.2.1);rw[bH,J7 (g:=λq=> !BZ q) (λq=>by unfold mV sx BZ;cases decide (q.kind>=18)<;>rfl) B Zaa];rfl
end
theorem yJ.of{t:Z4}(B:Ok t){p:Nat}{P:bX}(D:t.procs.l[p]?=some P):yJ P:=by
 intro e C a G;have⟨k,b⟩:=List.mem_iff_getElem?.1 C;have⟨i,hi⟩:=List.mem_iff_getElem?.1 G;have h:=B.fU p k P e D b;unfold pV at h;have w:i<e.assign.l.length:=by apply byContradiction;intro J;rw[getElem?_eq_none Zaa]at hi;cases hi
 have I:oE (pO P e) 0 e.assign.l.length=0:=by split at h;split at h;cases h;split at h;cases h;exact h;cases h
 have u:=(Qc (g:=pO P e) (n:=e.assign.l.length) (m:=e.assign.l.length) (k:=0) Zaa).1 I i (zero_le _) w;unfold pO at u;rw[hi]at u;dsimp only at u;by_cases z:(decide (0<=a.var)&&decide (a.var<P.vars.l.length))=true;simpa using z;rw[Bool.not_eq_true]at z;rw[z]at u;simp only[SX]at u;cases u
theorem ZU{t:Z4}{A:cu 200 bF}(b:Small t)(f:dw t=some true)(e:VT t)(g:ga t (bR t) A){c:Zg}(d:Cons t A c.l):
 Wp (jf t c) λr=>r.2=0/\r.1.l.length=t.procs.l.length/\∀(p:Nat)(P:bX)(a:Int),t.procs.l[p]?=some P->c.l[p]?=some a->∃x,r.1.l[p]?=some x/\x.l=kN P a.toNat:=by
 have I:=d.1.1;unfold jf;rw[d_];refine(LA b f e g c).mono λr i=>?_
 rw[i.zero.2 d,show((0:Int)==0)=true from rfl,bH];unfold jf.W1;refine eU c.l.length (λn s=>s.2=(n:Int)/\s.1.l.length=n/\∀(p:Nat)(P:bX)(a:Int),p<n->t.procs.l[p]?=some P->c.l[p]?=some a->∃x,s.1.l[p]?=some x/\x.l=kN P a.toNat) ⟨rfl,rfl,λp P a h=>absurd h Zaa⟩ ?_ ?_
 .rintro n ⟨o,_⟩ u ⟨e1,e2,e3⟩;simp only at e1 e2 e3;subst e1;have J:n<t.procs.l.length:=by omega
  have w:=b.2 _ (getElem_mem J);have D:=ζd J;have C:=ζd u;have⟨a0,a1⟩:=d.1.2 n _ _ C D;have T:=yJ.of e.ok D;have⟨x,S,L⟩:=TV T w.2.1 w.1 w.2.2.2.2 (k:=c.l[n].toNat) Zaa
  rw[show((c.l[n].toNat:Nat):Int)=c.l[n]from Zaa]at S
  have j:=b.1;unfold jf.br;rw[jt u,bH,bJ u,ζb,bJ J,ζb,S,ζb];have G:gy o (x:Zg)=some (.row (o.l++[x])):=by unfold gy;rw[if_pos Zaa]
  rw[G,ζb,bg,cF n Zaa]
  refine⟨rfl,by simp[Sl.l];exact e2,λp P a h z B=>?_⟩
  show∃y,(o.l++[x])[p]?=some y/\_
  by_cases O:p=n
  .subst O;rw[D]at z;rw[C]at B;cases z;cases B;exact⟨x,by rw[List.getElem?_append_right Zaa];simp[e2],L⟩
  have⟨y,U,Q⟩:=e3 p P a Zaa z B
  exact⟨y,by rw[List.getElem?_append_left Zaa];exact U,Q⟩
 rintro⟨o,_⟩ ⟨e1,e2,e3⟩;simp only at e1 e2 e3;subst e1;unfold jf.br;rw[show decide ((c.l.length:Int)<len c)=false from iY,bE,bg];refine(bg _).2 ⟨rfl,by rw[e2,I],λp P a D C=>e3 p P a ?_ D C⟩
 apply byContradiction;intro W;rw[getElem?_eq_none Zaa]at C;cases C
section
variable{P:Pred}{t:Z4}
end
def vt(l:ST)(m:Int):Prop:=m∈l/\∀x∈l,m<=x
def isMax(l:ST)(m:Int):Prop:=m∈l/\∀x∈l,x<=m
theorem vt.one{l:ST}{a b:Int}(h:vt l a)(g:vt l b):a=b:=by have:=h.2 b g.1;have:=g.2 a h.1;omega
theorem isMax.one{l:ST}{a b:Int}(h:isMax l a)(g:isMax l b):a=b:=by have:=h.2 b g.1;have:=g.2 a h.1;omega
theorem vt.snoc{l:ST}{a x:Int}(h:vt l a):vt (l++[x]) (if x<a then x else a):=by have⟨c,u⟩:=h;split;refine⟨Zab,λy b=>?_⟩;rcases mem_append.1 b with b|b;have:=u y b;omega;simp at b;omega;refine⟨List.mem_append_left _ c,λy b=>?_⟩;rcases mem_append.1 b with b|b;exact u y b;simp at b;omega
theorem isMax.snoc{l:ST}{a x:Int}(h:isMax l a):isMax (l++[x]) (if x>a then x else a):=by have⟨c,u⟩:=h;split;refine⟨Zab,λy b=>?_⟩;rcases mem_append.1 b with b|b;have:=u y b;omega;simp at b;omega;refine⟨List.mem_append_left _ c,λy b=>?_⟩;rcases mem_append.1 b with b|b;exact u y b;simp at b;omega
theorem Q2{s:Zg}(h:0<s.l.length)(B:s.l.length<1073741824):Wp (dD s) λm=>vt s.l m:=by
 unfold dD dD.J1 dD.W2;rw[decide_eq_false (show¬len s<1 by simp only[len];omega),bE,show idx s 0=some s.l[0]from bJ (i:=0) h,ζb];refine eU (s.l.length-1) (λn q=>q.2=((n+1:Nat):Int)/\vt (s.l.take (n+1)) q.1) ⟨rfl,?_⟩ ?_ ?_;rw[take_add_one,ζd h];exact⟨Zab,λx z=>by simp at z;omega⟩;rintro n ⟨m,_⟩ C ⟨rfl,w⟩;have u:n+1<s.l.length:=by omega
 unfold dD.bU;rw[jt u,bH,bJ u,ζb,bg,cF _ Zaa];refine⟨rfl,?_⟩;rw[take_add_one,ζd u];exact w.snoc;rintro⟨m,_⟩ ⟨rfl,w⟩;unfold dD.bU;rw[show s.l.length-1+1=s.l.length from Zaa,iY,bE,bg];rw[show s.l.length-1+1=s.l.length from Zaa,take_length]at w;exact(bg _).2 w
theorem Re{s:Zg}(h:0<s.l.length)(B:s.l.length<1073741824):Wp (dB s) λm=>isMax s.l m:=by
 unfold dB dB.J1 dB.W2;rw[decide_eq_false (show¬len s<1 by simp only[len];omega),bE,show idx s 0=some s.l[0]from bJ (i:=0) h,ζb];refine eU (s.l.length-1) (λn q=>q.2=((n+1:Nat):Int)/\isMax (s.l.take (n+1)) q.1) ⟨rfl,?_⟩ ?_ ?_;rw[take_add_one,ζd h];exact⟨Zab,λx z=>by simp at z;omega⟩;rintro n ⟨m,_⟩ C ⟨rfl,w⟩;have u:n+1<s.l.length:=by omega
 unfold dB.bU;rw[jt u,bH,bJ u,ζb,bg,cF _ Zaa];refine⟨rfl,?_⟩;rw[take_add_one,ζd u];exact w.snoc;rintro⟨m,_⟩ ⟨rfl,w⟩;unfold dB.bU;rw[show s.l.length-1+1=s.l.length from Zaa,iY,bE,bg];rw[show s.l.length-1+1=s.l.length from Zaa,take_length]at w;exact(bg _).2 w
theorem Mz{s:Zg}{a b:Int}(h:0<s.l.length)(B:s.l.length<1073741824)(D:vt s.l a)(G:isMax s.l b):mG s=some ⟨a,b⟩:=by have⟨m,c,u⟩:=Q2 h B;have⟨n,g1,g2⟩:=Re h B;unfold mG;rw[c,ζb,g1,ζb,u.one D,g2.one G]
theorem Um(n:Int):mG (Sl.row [n]:Zg)=some ⟨n,n⟩:=Mz (by simp[Sl.l]) (by simp[Sl.l]) ⟨by simp[Sl.l],λx u=>by simp[Sl.l]at u;omega⟩ ⟨by simp[Sl.l],λx u=>by simp[Sl.l]at u;omega⟩
theorem UD(a b c d:Int):mG (Sl.row [a,b,c,d]:Zg)=some ⟨if(if d<c then d else c)<(if b<a then b else a)then(if d<c then d else c)else(if b<a then b else a),if(if d>c then d else c)>(if b>a then b else a)then(if d>c then d else c)else(if b>a then b else a)⟩:=by
 refine Mz (by simp[Sl.l]) (by simp[Sl.l]) ⟨?_,λx u=>?_⟩ ⟨?_,λx u=>?_⟩
 .show _∈[a,b,c,d];simp only[mem_cons,not_mem_nil,or_false];split<;>split<;>(try split)<;>omega
 .have u:x∈[a,b,c,d]:=u;simp only[mem_cons,not_mem_nil,or_false]at u;split<;>split<;>(try split)<;>omega
 .show _∈[a,b,c,d];simp only[mem_cons,not_mem_nil,or_false];split<;>split<;>(try split)<;>omega
 have u:x∈[a,b,c,d]:=u;simp only[mem_cons,not_mem_nil,or_false]at u;split<;>split<;>(try split)<;>omega
def Dst(az:aZ Assign):Prop:=∀(i j:Nat)a b,i<j->az[i]?=some a->az[j]?=some b->a.var≠b.var
def vi(P:bX)(v k:Nat):Int:=((kN P k)[v]?).getD 0
theorem GL{P:bX}{v:Nat}(k:Nat)(a:v<P.vars.l.length):(kN P k)[v]?=some (vi P v k):=by unfold vi;rw[ζd (by rw[rL];exact a)];rfl
abbrev CA(P:bX)(v n:Nat):aZ Int:=(range (n+1)).map (vi P v)
theorem PW{P:bX}{v n k:Nat}(h:k<=n):vi P v k∈CA P v n:=mem_map.2 ⟨k,mem_range.2 Zaa,rfl⟩
section
variable{P:bX}{v:Nat}
theorem Q9(D:yJ P)(b:P.vars.l.length<1073741824)(U:P.events.l.length<1073741823)(G:∀e∈P.events.l,e.assign.l.length<1073741824)(B:v<P.vars.l.length):
 Wp (gz P v) λs=>s.l=CA P v P.events.l.length:=by
 have⟨r,c,C,I⟩:=Hw D b Zaa G
 have key:∀(a:aZ (Int×Zg))(i:Nat)(q:Zg),r.drop i=a->i<=r.length->q.l=(range i).map (vi P v)->∃s,(lE (λ(x:Int×(Zg))(q:Zg)=>gz.kz P v x q) a q).bind (Fw.rI (λq=>some q) (λe=>Empty.elim e) (λe=>Empty.elim e))=some s/\s.l=(range r.length).map (vi P v):=by intro a;induction a with|nil=>intro i q hd hi z;have:r.length<=i:=(by simpa using hd);exact⟨q,rfl,by rw[z,show i=r.length from Zaa]⟩|cons y a J=>intro i q hd _ z;have u:i<r.length:=(by apply byContradiction;intro S;rw[List.drop_eq_nil_of_le Zaa]at hd;cases hd);have e2:=List.drop_eq_getElem_cons u;rw[e2]at hd;simp only[List.cons.injEq]at hd;have⟨T,L⟩:=I i y (by rw[ζd u,hd.1]);have O:idx y.2 (v:Int)=some (vi P v i):=(by rw[kD,L];exact GL i B);have Q:q.l.length=i:=(by rw[z];simp);have w:gy q (vi P v i)=some (.row (q.l++[vi P v i])):=(by unfold gy;rw[if_pos Zaa]);have⟨s,g1,g2⟩:=J (i+1) (.row (q.l++[vi P v i])) hd.2 Zaa (by show q.l++[vi P v i]=_;rw[z,range_succ,map_append];rfl);refine⟨s,?_,g2⟩;simp only[lE,gz.kz,O,w,ζb];exact g1
 have⟨s,g1,g2⟩:=key r 0 .nil rfl (zero_le _) rfl;refine⟨s,?_,by show s.l=_;rw[g2,C]⟩
 unfold gz ov gz.E1;simp only[ζb,c];exact g1
theorem KY{α:Type}{f:α->X'}{l:aZ α}{k:Nat}{x:α}(b:l[k]?=some x)(B:f x=true)(D:∀(j:Nat)(y:α),j<k->l[j]?=some y->f y=false):place f l=k:=by unfold place;have a:=(ζe.1 b);have⟨a,u⟩:=a;rw[show l.findIdx? f=some k from by rw[List.findIdx?_eq_some_iff_getElem];exact⟨a,by rw[u];exact B,λj w=>by rw[D j _ w (ζd Zaa)];simp⟩]
theorem GV{t:Z4}(d:Small t)(e:dw t=some true)(J:Ok t){n:Nat}(D:t.procs.l[n]?=some P){name:U'}{x:Var}(c:P.vars.l[v]?=some x)(U:(toList x.name==toList name)=true)
 (W:∀(j:Nat)(w:Var),j<v->P.vars.l[j]?=some w->(toList w.name==toList name)=false):
 Wp (rP t n name) λr=>r.2.2=0/\vt (CA P v P.events.l.length) r.1/\isMax (CA P v P.events.l.length) r.2.1:=by
 have O:n<t.procs.l.length:=(ζe.1 D).1;have Q:=mem_of_getElem? D;have u:=d.2 P Q;have C:v<P.vars.l.length:=(ζe.1 c).1;have I:P.events.l.length<=64:=by have:=J.heads n O;unfold rS at this;rw[D]at this;dsimp only at this;split at this;split at this;cases this;split at this;split at this;cases this;omega;rename_i G;exact absurd this G;cases this
 have⟨s,g1,g2⟩:=Q9 (yJ.of J D) u.2.1 Zaa u.2.2.2.2 C
 have g:s.l.length=P.events.l.length+1:=by rw[g2];simp[CA]
 have⟨a,a1,a2⟩:=Q2 (s:=s) Zaa Zaa
 have⟨b,S,L⟩:=Re (s:=s) Zaa Zaa
 have B:sX t n name=some ((v:Int),0):=by unfold sX;rw[e,ζb,bH,decide_eq_false (show¬(n:Int)<0 by omega),bE,ζb,decide_eq_false (show¬(n:Int)>=len t.procs by simp only[len];omega),bE,kD,D,ζb];unfold uR;rw[DU (p:=λz=>oZ z name) (f:=λw=>toList w.name==toList name) (λ_ _=>rfl) u.2.1,KY c U W,ζb,ζb,decide_eq_false (show¬((v:Nat):Int)<0 by omega)];rfl
 unfold rP;rw[B,ζb];simp only;rw[show((0:Int)==0)=true from rfl,bH,kD,D,ζb,g1,ζb,a1,ζb,S,ζb,bg];rw[g2]at a2 L;exact⟨rfl,a2,L⟩
def ir(o:QQ)(b a:Int):Int×Int:=match o with
 |none=>(b,a)|some x=>(if x<b then x else b,if x>a then x else a)
end
section
variable{t:Z4}{A:cu 200 bF}
theorem Df(a:Small t){p:Nat}{P:bX}(D:t.procs.l[p]?=some P)(q:Nat):fG t p q=some ((P.events.l.countP (gG q):Nat):Int):=by
 have G:P∈t.procs.l:=mem_of_getElem? D;have I:=(a.2 P G).1;refine Wp.eq ?_;unfold fG;rw[kD,D,ζb];unfold fG.W1;refine eU P.events.l.length (λn s=>s.2=(n:Int)/\s.1=(((P.events.l.take n).countP (gG q):Nat):Int)) ⟨rfl,rfl⟩ ?_ ?_;rintro n ⟨o,_⟩ w ⟨e1,e2⟩;simp only at e1 e2;subst e1 e2;have z:=List.countP_le_length (p:=gG q) (l:=P.events.l.take n);rw[List.length_take]at z;have u:(P.events.l.take (n+1)).countP (gG q)=(P.events.l.take n).countP (gG q)+if gG q P.events.l[n]then 1 else 0:=by rw[take_add_one,ζd w,List.countP_append];show _+List.countP _ [P.events.l[n]]=_;rw[List.countP_cons,List.countP_nil];simp
 unfold fG.br;rw[jt w,bH,bJ w,ζb];generalize P.events.l[n]=e at u;have B:(bl (e.kind==2) (some (e.peer==(q:Int))) (some false):a_ X')=some (gG q e):=by unfold gG;cases e.kind==2<;>cases e.peer==(q:Int)<;>rfl
 rw[B,ζb,cF n Zaa];cases C:gG q e with|true=>rw[C]at u;rw[bH,bg,cF _ Zaa];exact⟨rfl,by simp only[u];rfl⟩|false=>rw[C]at u;rw[bE,bg];exact⟨rfl,by simp only[u];rfl⟩
 rintro⟨o,_⟩ ⟨e1,e2⟩;simp only at e1 e2;subst e1 e2;unfold fG.br;rw[iY,bE,bg];exact(bg _).2 (by rw[take_length])
end
section
variable{t:Z4}
def zY(b a:Int):X':=decide (b>=-1125899906842624)&&decide (a<=1125899906842624)
structure t_(low high:Int):Prop where
 le:low<=high
 lo:-1125899906842624<=low
 hi:high<=1125899906842624
theorem DL(b a:Int):jo ⟨b,a⟩=some (!zY b a):=by
 unfold jo zY;have c:decide (b< -1125899906842624)= !decide (b>=-1125899906842624):=by rw[Bool.eq_iff_iff];simp
 have u:decide (a>1125899906842624)= !decide (a<=1125899906842624):=by rw[Bool.eq_iff_iff];simp
 simp only;rw[c,u];cases decide (b>=-1125899906842624)<;>cases decide (a<=1125899906842624)<;>rfl
theorem t_.of{b a:Int}(h:b<=a)(g:zY b a=true):t_ b a:=by simp only[zY,ζh]at g;have:=of_decide_eq_true g.1;have:=of_decide_eq_true g.2;exact⟨h,Zaa,Zaa⟩
end
section
variable{t:Z4}
theorem G7(v:bT)(l h:Int)(r:Z4×Pred->a_ (bT×X')):cW.J2 v ⟨l,h⟩ r=some (⟨l,h⟩,zY l h):=by unfold cW.J2;rw[DL,ζb,not_not]
theorem EZ{ok B:X'}(h:(ok&&B)=false)(p:Pred)(v a b:bT)(r:Z4×Pred->a_ (bT×X')):cW.J1 ok B p v a b r=some (⟨0,0⟩,false):=by unfold cW.J1;cases ok<;>cases B<;>first|rfl|cases h
theorem Sx{k:Int}(h:(th k==1)=true):k<=8:=by unfold th at h;by_cases g:k<=8;exact g;rw[if_neg g]at h;cases h
theorem Pred.parts{p:Pred}(B:fB p=true){c:Int}(a:cu.at Aq p.kind=some c):(p.l.l.length:Int)=c:=by obtain⟨-,-,h⟩:=xz B;rw[a]at h;exact(Option.some.inj h).symm
structure wL(t:Trace)(p:Pred):Prop where
 sm:p.Sm
 f:p.lM fB=true
 r:p.lM (tc t)=true
 y:p.lM yX=true
theorem wL.zX{p q:Pred}(h:wL t p)(B:q∈p.l.l):wL t q:=by have⟨a,u,w,z⟩:=h;rw[p.pq,ζh,all_eq_true]at u w z;exact⟨a.zX B,u.2 q B,w.2 q B,z.2 q B⟩
theorem wL.here{p:Pred}(h:wL t p):fB p=true/\tc t p=true/\yX p=true:=by have⟨a,u,w,z⟩:=h;rw[p.pq,ζh]at u w z;exact⟨u.1,w.1,z.1⟩
theorem wL.int{p q:Pred}(h:wL t p)(a:p.kind<=12)(B:q∈p.l.l):q.kind<=8:=by have:=h.here.2.2;unfold yX at this;rw[all_eq_true]at this;have:=this q B;unfold Cs at this;rw[if_pos a]at this;exact Sx this
end
end Go.VE
namespace Go.VE
end Go.VE
namespace Go.VE
section
variable{t:Z4}{A:cu 200 bF}{P:bX}{v:Nat}
structure UY(t:Trace)(A:cu 200 bF)(c:Sl Int)(l:Sl (Sl Int)):Prop where
 hS:Small t
 hv:dw t=some true
 hV:VT t
 hM:ga t (bR t) A
 hC:Cons t A c.l
 vals:∀(p:Nat)(P:bX)(a:Int),t.procs.l[p]?=some P->c.l[p]?=some a->∃x,l.l[p]?=some x/\x.l=kN P a.toNat
end
end Go.VE
namespace Go.VE
section
variable{t:Z4}
theorem S0{p:Pred}(B:uI p=true)(a:wL t p):s6 p=some (th p.kind,0):=by have u:=a.sm;have hd:=B;simp only[uI,ζh,decide_eq_true_eq]at hd;unfold s6;rw[AF u,B,ζb,bH,HV u Zaa,a.y,ζb,bH,A8];rfl
end
theorem Gp{a b x:Int}(c:a<=x)(B:x<=b)(y:Int){lo hi:Int}(D:lo<=a*y/\a*y<=hi)(G:lo<=b*y/\b*y<=hi):lo<=x*y/\x*y<=hi:=by by_cases h:0<=y;have p1:=Int.mul_le_mul_of_nonneg_right c h;have p2:=Int.mul_le_mul_of_nonneg_right B h;omega;have p1:=Int.mul_le_mul_of_nonpos_right c (show y<=0 by omega);have p2:=Int.mul_le_mul_of_nonpos_right B (show y<=0 by omega);omega
theorem WO{a b c d x y lo hi:Int}(f:a<=x)(W:x<=b)(B:c<=y)(D:y<=d)(e:lo<=a*c/\a*c<=hi)(G:lo<=a*d/\a*d<=hi)(J:lo<=b*c/\b*c<=hi)(U:lo<=b*d/\b*d<=hi):lo<=x*y/\x*y<=hi:=by refine Gp f W y ?_ ?_;rw[mul_comm a y];rw[mul_comm a c]at e;rw[mul_comm a d]at G;exact Gp B D a e G;rw[mul_comm b y];rw[mul_comm b c]at J;rw[mul_comm b d]at U;exact Gp B D b J U
theorem Yn{a b m:Int}(h:(if 0-a>a then 0-a else a)*(if 0-b>b then 0-b else b)<=m):-m<=a*b/\a*b<=m:=by
 have c:∀u w:Int,0<=u->0<=w->0<=u*w:=λu w=>Int.mul_nonneg;have e1:(0-a)*b=-(a*b):=by rw[zero_sub,Int.neg_mul]
 have e2:a*(0-b)=-(a*b):=by rw[zero_sub,Int.mul_neg]
 have e3:(0-a)*(0-b)=a*b:=by rw[zero_sub,zero_sub,Int.neg_mul_neg]
 by_cases z:0-a>a<;>by_cases B:0-b>b;rw[if_pos z,if_pos B]at h;have:=c (0-a) (0-b) Zaa Zaa;omega;rw[if_pos z,if_neg B]at h;have:=c (0-a) b Zaa Zaa;omega;rw[if_neg z,if_pos B]at h;have:=c a (0-b) Zaa Zaa;omega;rw[if_neg z,if_neg B]at h;have:=c a b Zaa Zaa;omega
def He(k x y:Int):Int:=if k=5 then wrap .i64 (0-x)else if k=6 then wrap .i64 (x+y)else if k=7 then wrap .i64 (x-y)else wrap .i64 (x*y)
section
variable{t:Z4}{A:cu 200 bF}
end
section
variable{t:Z4}
end
section
variable{t:Z4}
end
theorem KA{α:Type}{f:α->X'}:∀{l:aZ α},l.any f=true->∃(k:Nat)(x:α),l[k]?=some x/\f x=true/\∀(j:Nat)(y:α),j<k->l[j]?=some y->f y=false
 |[],h=>by simp at h|a::r,h=>by by_cases B:f a=true;exact⟨0,a,rfl,B,λj y D=>absurd D Zaa⟩;rw[any_cons,Bool.or_eq_true]at h;have⟨k,x,b,G,J⟩:=KA (h.resolve_left B);refine⟨k+1,x,by simpa using b,G,λj y D u=>?_⟩;cases j with|zero=>simp at u;subst u;simpa using B|succ j=>exact J j y Zaa (by simpa using u)
section
variable{t:Z4}
theorem Pe(d:Small t){q:Pred}(b:q.kind=2)(a:tc t q=true):∃(n k:Nat)(P:bX)(v:Var),q.proc=n/\t.procs.l[n]?=some P/\P.vars.l[k]?=some v/\(toList v.name==toList q.name)=true/\∀(j:Nat)(w:Var),j<k->P.vars.l[j]?=some w->(toList w.name==toList q.name)=false:=by unfold tc at a;rw[if_pos (by simpa using b)]at a;simp only[ζh]at a;obtain⟨C,-,u⟩:=a;have⟨n,z,B⟩:=vO (t:=t) (p:=q.proc) (by simp only[ζh];exact C);unfold N3 at u;rw[z,bJ B]at u;have⟨k,v,c,D,G⟩:=KA u;exact⟨n,k,_,v,z,ζd B,c,D,G⟩
theorem Pt(d:Small t)(f:dw t=some true)(D:Ok t){q:Pred}(G:fB q=true)(b:tc t q=true)(i:q.kind<=4):∃c a,gJ t q=some ⟨c,a⟩/\c<=a:=by obtain⟨k1,-,-⟩:=xz G;rcases(show q.kind=1\/q.kind=2\/q.kind=3\/q.kind=4 by omega)with h|h|h|h;refine⟨q.n,q.n,?_,Int.le_refl _⟩;unfold gJ;rw[show(q.kind==1)=true from by simpa using h,bH,Um];rfl;have⟨n,k,P,v,u,w,z,g,C⟩:=Pe d h b;have⟨⟨c,a,e⟩,g1,g2,g3,g4⟩:=GV d f D w (name:=q.name) z g C;simp only at g2 g3 g4;subst g2;refine⟨c,a,?_,g4.2 _ g3.1⟩;unfold gJ;rw[h,show((2:Int)==1)=false from rfl,bE,show((2:Int)==3)=false from rfl,bE,show((2:Int)==4)=false from rfl,bE,u,g1];rfl;unfold tc at b;rw[if_neg (by simp[h]),if_pos (by simpa using h)]at b;simp only[ζh]at b;have⟨n,u,B⟩:=vO (t:=t) (p:=q.proc) (by simp only[ζh];exact b.1);refine⟨0,len t.procs.l[n].events,?_,by simp only[len];omega⟩;unfold gJ;rw[h,show((3:Int)==1)=false from rfl,bE,show((3:Int)==3)=true from rfl,bH,u,bJ B];rfl;unfold tc at b;rw[if_neg (by simp[h]),if_neg (by simp[h]),if_pos (by simpa using h)]at b;simp only[ζh]at b;have⟨n,u,B⟩:=vO (t:=t) (p:=q.proc) (by simp only[ζh];exact b.1);have⟨m,I,J⟩:=vO (t:=t) (p:=q.peer) (by simp only[ζh];exact b.2.1);have w:=ζd B;refine⟨0,((t.procs.l[n].events.l.countP (gG m):Nat):Int),?_,Zaa⟩;unfold gJ;rw[h,show((4:Int)==1)=false from rfl,bE,show((4:Int)==3)=false from rfl,bE,show((4:Int)==4)=true from rfl,bH,u,I,Df d w];rfl
theorem oq{a b:Int}(B:-1125899906842624<=a/\a<=1125899906842624)(D:-1125899906842624<=b/\b<=1125899906842624):∃x,h_ a b=some x:=by
 unfold h_ qT;by_cases c:a=0;subst c;exact⟨_,rfl⟩;rw[show(a==0)=false from by simpa using c,bE,ζb];by_cases d:b=0;subst d;exact⟨_,rfl⟩;rw[show(b==0)=false from by simpa using d,bE,ζb,ζb,eG (0-b) Zaa Zaa];have:∀k m:Int,m≠0->∃x,AN .i64 k m=some x:=λk m u=>by unfold AN;rw[if_neg u];exact⟨_,rfl⟩
 have⟨x,w⟩:=this 1125899906842624 (if 0-b>b then 0-b else b) (by split<;>omega);rw[w,ζb];cases decide ((if wrap .i64 (0-a)>a then wrap .i64 (0-a)else a)>x)<;>cases(decide (a<0)==decide (b<0))<;>exact⟨_,rfl⟩
theorem HY{p:Pred}(i:5<=p.kind/\p.kind<=8){a b c d:Int}(g:t_ a b)(B:t_ c d)(v:bT)(r:Z4×Pred->a_ (bT×X')):
 ∃f e,cW.J1 true true p v ⟨a,b⟩ ⟨c,d⟩ r=some (⟨f,e⟩,zY f e)/\f<=e:=by
 have⟨a1,a2,a3⟩:=g;have⟨L,O,Q⟩:=B;unfold cW.J1;rw[bH,ζb,show(!true)=false from rfl,bE];rcases(show p.kind=5\/p.kind=6\/p.kind=7\/p.kind=8 by omega)with h|h|h|h<;>rw[h]
 .refine⟨-b,-a,?_,Zaa⟩
  rw[show((5:Int)==5)=true from rfl,bH,G7];simp only;rw[eG (0-b) Zaa Zaa,eG (0-a) Zaa Zaa,show(0:Int)-b=-b from Zaa,show(0:Int)-a=-a from Zaa]
 .refine⟨a+c,b+d,?_,Zaa⟩
  rw[show((6:Int)==5)=false from rfl,bE,show((6:Int)==6)=true from rfl,bH,G7];simp only;rw[eG (a+c) Zaa Zaa,eG (b+d) Zaa Zaa]
 .refine⟨a-d,b-c,?_,Zaa⟩
  rw[show((7:Int)==5)=false from rfl,bE,show((7:Int)==6)=false from rfl,bE,show((7:Int)==7)=true from rfl,bH,G7];simp only;rw[eG (a-d) Zaa Zaa,eG (b-c) Zaa Zaa]
 have⟨w,C⟩:=oq (a:=a) (b:=c) ⟨Zaa,Zaa⟩ ⟨Zaa,Zaa⟩
 have⟨x,D⟩:=oq (a:=a) (b:=d) ⟨Zaa,Zaa⟩ ⟨Zaa,Zaa⟩
 have⟨y,G⟩:=oq (a:=b) (b:=c) ⟨Zaa,Zaa⟩ ⟨Zaa,Zaa⟩
 have⟨z,I⟩:=oq (a:=b) (b:=d) ⟨Zaa,Zaa⟩ ⟨Zaa,Zaa⟩
 refine⟨if(if z<y then z else y)<(if x<w then x else w)then(if z<y then z else y)else(if x<w then x else w),if(if z>y then z else y)>(if x>w then x else w)then(if z>y then z else y)else(if x>w then x else w),?_,?_⟩
 .rw[show((8:Int)==5)=false from rfl,bE,show((8:Int)==6)=false from rfl,bE,show((8:Int)==7)=false from rfl,bE];simp only;rw[C,D,G,I];simp only[ζb];rw[UD,ζb,G7]
 have J:(if z<y then z else y)<=(if z>y then z else y):=by split<;>split<;>omega
 have u:(if x<w then x else w)<=(if x>w then x else w):=by split<;>split<;>omega
 split<;>split<;>omega
theorem Vy(g:Small t)(k:dw t=some true)(U:Ok t)(p:Pred):wL t p->p.kind<=8->∀n,p.dp<=n->
 ∃i ok,iw (λr(z:Z4×Pred)=>dm z.1 z.2 r) n (t,p)=some (i,ok)/\(ok=true->t_ i.low i.high):=by
 induction p using Pred.ind with
 |h p u=>
  intro e m n Z;have hd:=p.zu;have⟨w,l,o⟩:=e.here;obtain⟨k1,-,-⟩:=xz w;rw[lS Zaa]
  have u:=λq G=>u q G (e.zX G) (e.int Zaa G) (n-1) (by have:=Pred.rN G;omega)
  show∃i ok,dm t p (iw (λr(z:Z4×Pred)=>dm z.1 z.2 r) (n-1))=some (i,ok)/\_
  generalize iw (λr(z:Z4×Pred)=>dm z.1 z.2 r) (n-1)=R at u⊢
  unfold dm
  by_cases T:p.kind<=4
  .have I:p.l.l.length=0:=by
    have:=Pred.parts w (c:=0) (by rcases(show p.kind=1\/p.kind=2\/p.kind=3\/p.kind=4 by omega)with h|h|h|h<;>(rw[h];rfl))
    omega
   have⟨b,a,g1,g2⟩:=Pt g k U w l T;refine⟨⟨b,a⟩,zY b a,?_,λh=>t_.of g2 h⟩
   rw[show(len p.l==0)=true from by simp[len,I],bH,g1,ζb,DL,ζb,not_not]
  by_cases W:p.kind=5
  .have B:p.l.l.length=1:=by
    have:=Pred.parts w (c:=1) (by rw[W];rfl)
    omega
   have d:0<p.l.l.length:=Zaa
   have⟨i,ok,g1,g3⟩:=u _ (getElem_mem d);have J:idx p.l 0=some p.l.l[0]:=bJ (i:=0) d;rw[show(len p.l==0)=false from by simp[len,B],bE,J,ζb,g1,ζb,show(len p.l==2)=false from by simp[len,B],bE]
   simp only
   cases ok with
   |false=>rw[EZ rfl];exact⟨_,false,rfl,λh=>by cases h⟩|true=>
    have⟨b,a,L,O⟩:=HY (p:=p) ⟨Zaa,Zaa⟩ (g3 rfl) (g3 rfl) ⟨0,0⟩ R
    exact⟨_,_,L,λh=>t_.of O h⟩
  have C:p.l.l.length=2:=by have:=Pred.parts w (c:=2) (by rcases(show p.kind=6\/p.kind=7\/p.kind=8 by omega)with h|h|h<;>(rw[h];rfl));omega
  have d:0<p.l.l.length:=Zaa
  have f:1<p.l.l.length:=Zaa
  have⟨i,ok,g1,g3⟩:=u _ (getElem_mem d);have⟨j,D,X,Y⟩:=u _ (getElem_mem f);have J:idx p.l 0=some p.l.l[0]:=bJ (i:=0) d;have Q:idx p.l 1=some p.l.l[1]:=bJ (i:=1) f;rw[show(len p.l==0)=false from by simp[len,C],bE,J,ζb,g1,ζb,show(len p.l==2)=true from by simp[len,C],bH,Q,ζb,X,ζb]
  simp only
  cases S:ok&&D with
  |false=>rw[EZ S];exact⟨_,false,rfl,λh=>by cases h⟩|true=>
   simp only[ζh]at S;obtain⟨rfl,rfl⟩:=S;have⟨b,a,L,O⟩:=HY (p:=p) ⟨Zaa,Zaa⟩ (g3 rfl) (Y rfl) ⟨0,0⟩ R
   exact⟨_,_,L,λh=>t_.of O h⟩
theorem YY(d:Small t)(e:dw t=some true)(B:Ok t)(p:Pred):wL t p->p.dp<=20->∀n,p.dp<=n->∃b,iw (λr(z:Z4×Pred)=>ij z.1 z.2 r) n (t,p)=some b:=by induction p using Pred.ind with|h p w=>intro a hd n D;have C:=p.zu;rw[lS Zaa];have w:=λq u=>w q u (a.zX u) (by have:=Pred.rN u;omega) (n-1) (by have:=Pred.rN u;omega);show∃b,ij t p (iw (λr(z:Z4×Pred)=>ij z.1 z.2 r) (n-1))=some b;generalize iw (λr(z:Z4×Pred)=>ij z.1 z.2 r) (n-1)=R at w⊢;unfold ij;rw[A8,ζb];by_cases c:p.kind<=8;rw[show(th p.kind==1)=true from by simp[th,c],bH];obtain⟨i,ok,g1,-⟩:=Vy d e B p a c 100000 Zaa;exact⟨ok,by rw[show cW t p=_ from g1];rfl⟩;rw[show(th p.kind==1)=false from by simp[th,c],bE];let g:Pred->X':=λq=>(R (t,q)).getD false;have j:∀q∈p.l.l,R (t,q)=some (g q):=λq u=>(by have⟨b,k⟩:=w q u;show _=some ((R (t,q)).getD false);rw[k];rfl);rw[A3 _ a.sm.len,AG (f:=λq=> !g q) (λq u=>by unfold oP;rw[j q u];rfl)];exact⟨_,rfl⟩
theorem X8(a:Small t)(D:(bR t).length<1073741824){p:Pred}(B:p.Sm):
 ∃e,rF t p=some e/\(e=0->dw t=some true/\VT t/\uI p=true/\wL t p):=by
 obtain⟨z,c,w,-⟩:=Ko a D;unfold rF;rw[c,ζb]
 cases z with
 |false=>exact⟨1,rfl,λh=>by cases h⟩|true=>
  have d:=w rfl;rw[bH,AF B,ζb]
  cases C:uI p with
  |false=>exact⟨1,rfl,λh=>by cases h⟩|true=>
   have u:=C;simp only[uI,ζh]at u;have hd:=of_decide_eq_true u.2.1;unfold vf;rw[show(!true)=false from rfl,ζb,bE,Jj a B Zaa,ζb]
   cases g:p.lM (tc t)with
   |false=>exact⟨13,rfl,λh=>by cases h⟩|true=>
    rw[bH,HV B Zaa,ζb]
    cases G:p.lM yX with
    |false=>exact⟨14,rfl,λh=>by cases h⟩|true=>
     have f:wL t p:=⟨B,u.2.2,g,G⟩;have⟨b,g1⟩:=YY a c d.ok p f hd 100000 Zaa
     rw[bH,g1,ζb]
     cases b with
     |false=>exact⟨9,rfl,λh=>by cases h⟩|true=>exact⟨0,rfl,λ_=>⟨rfl,d,rfl,f⟩⟩
end
theorem yQ{a b x:Int}(B:-1125899906842624<=a/\a<=1125899906842624)(D:-1125899906842624<=b/\b<=1125899906842624)(h:h_ a b=some x)(G:-1125899906842624<=x/\x<=1125899906842624):a*b=x:=by
 unfold h_ qT at h;by_cases c:a=0;subst c;rw[show(0:Int)*b=0 from Zaa];exact Option.some.inj h;rw[show(a==0)=false from by simpa using c,bE,ζb]at h;by_cases d:b=0;subst d;rw[show a*(0:Int)=0 from Zaa];exact Option.some.inj h;rw[show(b==0)=false from by simpa using d,bE,ζb,ζb,eG (0-b) Zaa Zaa,eG (0-a) Zaa Zaa]at h;have u:0<(if 0-b>b then 0-b else b):=by split<;>omega
 unfold AN at h;rw[if_neg Zaa,ζb,Int.tdiv_eq_ediv_of_nonneg Zaa]at h;have hd:(1125899906842624:Int) / (if 0-b>b then 0-b else b)<=1125899906842624:=Int.ediv_le_self _ Zaa;have w:0<=(1125899906842624:Int) / (if 0-b>b then 0-b else b):=Int.ediv_nonneg Zaa Zaa;rw[eG ((1125899906842624:Int) / (if 0-b>b then 0-b else b)) Zaa Zaa]at h;by_cases e:(if 0-a>a then 0-a else a)>(1125899906842624:Int) / (if 0-b>b then 0-b else b);rw[decide_eq_true e,bH,eG (0-1125899906842625) Zaa Zaa]at h;exfalso;revert h;cases(decide (a<0)==decide (b<0))<;>intro h;have:=Option.some.inj h;omega;have:=Option.some.inj h;omega;rw[decide_eq_false e,bE]at h;have z:=Yn (Int.mul_le_of_le_ediv u (show(if 0-a>a then 0-a else a)<=(1125899906842624:Int) / (if 0-b>b then 0-b else b)from Zaa));rw[eG (a*b) Zaa Zaa]at h;exact Option.some.inj h
def MB(k x y:Int):Int:=if k=5 then 0-x else if k=6 then x+y else if k=7 then x-y else x*y
theorem Jz{p:Pred}(i:5<=p.kind/\p.kind<=8){a b c d x y:Int}(g:t_ a b)(U:t_ c d)(D:a<=x/\x<=b)(G:c<=y/\y<=d)(v:bT)(r:Z4×Pred->a_ (bT×X')):
 ∃f e,cW.J1 true true p v ⟨a,b⟩ ⟨c,d⟩ r=some (⟨f,e⟩,zY f e)/\f<=e/\(zY f e=true->f<=MB p.kind x y/\MB p.kind x y<=e):=by
 have⟨a1,a2,a3⟩:=g;have⟨Z,j,k⟩:=U;unfold cW.J1;rw[bH,ζb,show(!true)=false from rfl,bE];rcases(show p.kind=5\/p.kind=6\/p.kind=7\/p.kind=8 by omega)with h|h|h|h<;>rw[h]
 .refine⟨-b,-a,?_,Zaa,λ_=>?_⟩
  .rw[show((5:Int)==5)=true from rfl,bH,G7];simp only;rw[eG (0-b) Zaa Zaa,eG (0-a) Zaa Zaa,show(0:Int)-b=-b from Zaa,show(0:Int)-a=-a from Zaa]
  show -b<=(0-x)/\(0-x)<=-a;omega
 .refine⟨a+c,b+d,?_,Zaa,λ_=>?_⟩
  .rw[show((6:Int)==5)=false from rfl,bE,show((6:Int)==6)=true from rfl,bH,G7];simp only;rw[eG (a+c) Zaa Zaa,eG (b+d) Zaa Zaa]
  show a+c<=(x+y)/\(x+y)<=b+d;omega
 .refine⟨a-d,b-c,?_,Zaa,λ_=>?_⟩
  .rw[show((7:Int)==5)=false from rfl,bE,show((7:Int)==6)=false from rfl,bE,show((7:Int)==7)=true from rfl,bH,G7];simp only;rw[eG (a-d) Zaa Zaa,eG (b-c) Zaa Zaa]
  show a-d<=(x-y)/\(x-y)<=b-c;omega
 have⟨w,I⟩:=oq (a:=a) (b:=c) ⟨Zaa,Zaa⟩ ⟨Zaa,Zaa⟩
 have⟨z,J⟩:=oq (a:=a) (b:=d) ⟨Zaa,Zaa⟩ ⟨Zaa,Zaa⟩
 have⟨m,O⟩:=oq (a:=b) (b:=c) ⟨Zaa,Zaa⟩ ⟨Zaa,Zaa⟩
 have⟨n,Q⟩:=oq (a:=b) (b:=d) ⟨Zaa,Zaa⟩ ⟨Zaa,Zaa⟩
 refine⟨if(if n<m then n else m)<(if z<w then z else w)then(if n<m then n else m)else(if z<w then z else w),if(if n>m then n else m)>(if z>w then z else w)then(if n>m then n else m)else(if z>w then z else w),?_,?_,λB=>?_⟩
 .rw[show((8:Int)==5)=false from rfl,bE,show((8:Int)==6)=false from rfl,bE,show((8:Int)==7)=false from rfl,bE];simp only;rw[I,J,O,Q];simp only[ζb];rw[UD,ζb,G7]
 .have T:(if n<m then n else m)<=(if n>m then n else m):=by split<;>split<;>omega
  have S:(if z<w then z else w)<=(if z>w then z else w):=by split<;>split<;>omega
  split<;>split<;>omega
 generalize W:(if(if n<m then n else m)<(if z<w then z else w)then(if n<m then n else m)else(if z<w then z else w))=L at B⊢;generalize X:(if(if n>m then n else m)>(if z>w then z else w)then(if n>m then n else m)else(if z>w then z else w))=H at B⊢;simp only[zY,ζh]at B;have o1:=of_decide_eq_true B.1;have o2:=of_decide_eq_true B.2;have l:L<=n/\L<=m/\L<=z/\L<=w:=by rw[<-W];have g1:(if n<m then n else m)<=n/\(if n<m then n else m)<=m:=(by split<;>omega);have g2:(if z<w then z else w)<=z/\(if z<w then z else w)<=w:=(by split<;>omega);generalize(if n<m then n else m)=u at g1;generalize(if z<w then z else w)=Y at g2;split<;>omega
 have o:n<=H/\m<=H/\z<=H/\w<=H:=by rw[<-X];have g1:n<=(if n>m then n else m)/\m<=(if n>m then n else m):=(by split<;>omega);have g2:z<=(if z>w then z else w)/\w<=(if z>w then z else w):=(by split<;>omega);generalize(if n>m then n else m)=u at g1;generalize(if z>w then z else w)=Y at g2;split<;>omega
 have t1:=yQ ⟨Zaa,Zaa⟩ ⟨Zaa,Zaa⟩ I Zaa
 have t2:=yQ ⟨Zaa,Zaa⟩ ⟨Zaa,Zaa⟩ J Zaa
 have t3:=yQ ⟨Zaa,Zaa⟩ ⟨Zaa,Zaa⟩ O Zaa
 have t4:=yQ ⟨Zaa,Zaa⟩ ⟨Zaa,Zaa⟩ Q Zaa
 have C:=WO (lo:=L) (hi:=H) D.1 D.2 G.1 G.2 Zaa Zaa Zaa Zaa
 exact C
section
variable{t:Z4}{A:cu 200 bF}
theorem Wx{c:Zg}{l:Zb}(h:UY t A c l){q:Pred}(E:fB q=true)(g:tc t q=true)(M:q.kind<=4):
 ∃i d x,gJ t q=some ⟨i,d⟩/\(∀R,cM ⟨t,c,l⟩ q R=some x)/\i<=x/\x<=d:=by
 have⟨o,s,r,y,j,I⟩:=h;obtain⟨k1,-,-⟩:=xz E;rcases(show q.kind=1\/q.kind=2\/q.kind=3\/q.kind=4 by omega)with h|h|h|h
 .refine⟨q.n,q.n,q.n,?_,λR=>?_,Int.le_refl _,Int.le_refl _⟩
  .unfold gJ;rw[show(q.kind==1)=true from by simpa using h,bH,Um];rfl
  unfold cM;rw[h];rfl
 .have⟨n,k,P,v,D,C,J,h1,W⟩:=Pe o h g;have⟨⟨i,d,e⟩,g1,g2,g3,g4⟩:=GV o s r.ok C (name:=q.name) J h1 W;simp only at g2 g3 g4;subst g2;have S:=(ζe.1 J).1;have B:=(ζe.1 C).1;have⟨a,L⟩:=j.1.at_ B;have⟨a0,a1⟩:=j.1.2 n a P L C;have⟨x,Z,T⟩:=I n P a C L;have G:vi P k a.toNat∈CA P k P.events.l.length:=PW Zaa
  refine⟨i,d,vi P k a.toNat,?_,λR=>?_,g3.2 _ G,g4.2 _ G⟩
  .unfold gJ;rw[h,show((2:Int)==1)=false from rfl,bE,show((2:Int)==3)=false from rfl,bE,show((2:Int)==4)=false from rfl,bE,D,g1];rfl
  unfold cM;rw[h,show((2:Int)==1)=false from rfl,bE,show((2:Int)==2)=true from rfl,bH];unfold oB;simp only;rw[D,kD,C,ζb,DU (p:=λz=>kB z q) (f:=λw=>toList w.name==toList q.name) (λ_ _=>rfl) (o.2 P (mem_of_getElem? C)).2.1,KY J h1 W,ζb,kD,Z,ζb,kD,T,GL _ S]
  rfl
 .unfold tc at g;rw[if_neg (by simp[h]),if_pos (by simpa using h)]at g
  simp only[ζh]at g;have⟨n,D,O⟩:=vO (t:=t) (p:=q.proc) (by simp only[ζh];exact g.1)
  have⟨a,L⟩:=j.1.at_ O;have⟨a0,a1⟩:=j.1.2 n a _ L (ζd O);refine⟨0,len t.procs.l[n].events,a,?_,λR=>?_,Zaa,by simp only[len];omega⟩
  .unfold gJ;rw[h,show((3:Int)==1)=false from rfl,bE,show((3:Int)==3)=true from rfl,bH,D,bJ O];rfl
  unfold cM;rw[h,show((3:Int)==1)=false from rfl,bE,show((3:Int)==2)=false from rfl,bE,show((3:Int)==3)=true from rfl,bH];simp only;rw[D,kD,L];rfl
 unfold tc at g;rw[if_neg (by simp[h]),if_neg (by simp[h]),if_pos (by simpa using h)]at g
 simp only[ζh]at g;have⟨n,D,O⟩:=vO (t:=t) (p:=q.proc) (by simp only[ζh];exact g.1)
 have⟨m,X,B⟩:=vO (t:=t) (p:=q.peer) (by simp only[ζh];exact g.2.1)
 have C:=ζd O;have F:=ζd B;have⟨a,L⟩:=j.1.at_ O;have⟨b,H⟩:=j.1.at_ B;have⟨⟨u,e2⟩,K,U,Q⟩:=T_ o s r y j O B;simp only at U Q;rw[HH r y j C F L H]at Q;have N:((t.procs.l[n].events.l.take a.toNat).countP λe=>gG m e&&rJ t c.l e)<=t.procs.l[n].events.l.countP (gG m):=by refine le_trans (List.countP_mono_left λe _ Y=>?_) (List.Sublist.countP_le (List.take_sublist a.toNat _));simp only[ζh]at Y;exact Y.1
 refine⟨0,((t.procs.l[n].events.l.countP (gG m):Nat):Int),len u,?_,λR=>?_,by simp only[len];omega,by simp only[len];omega⟩
 .unfold gJ;rw[h,show((4:Int)==1)=false from rfl,bE,show((4:Int)==3)=false from rfl,bE,show((4:Int)==4)=true from rfl,bH,D,X,Df o C];rfl
 unfold cM;rw[h,show((4:Int)==1)=false from rfl,bE,show((4:Int)==2)=false from rfl,bE,show((4:Int)==3)=false from rfl,bE,show((4:Int)==4)=true from rfl,bH];unfold o5;simp only;rw[D,X,K];rfl
noncomputable abbrev Gr(n:Nat)(v:cq)(q:Pred):QQ:=iw (λr(z:cq×Pred)=>cM z.1 z.2 r) n (v,q)
noncomputable abbrev Gt(n:Nat)(t:Z4)(q:Pred):a_ (bT×X'):=iw (λr(z:Z4×Pred)=>dm z.1 z.2 r) n (t,q)
def Zx(t:Z4)(c:Zg)(l:Zb)(q:Pred)(i:bT)(ok:X')(x:Int):Prop:=(∀n,q.dp<=n->Gt n t q=some (i,ok)/\Gr n ⟨t,c,l⟩ q=some x)/\(ok=true->∃b a,i=⟨b,a⟩/\t_ b a/\b<=x/\x<=a)
theorem t_.He{a b c d x y k f e:Int}(g:t_ a b)(D:t_ c d)(G:a<=x/\x<=b)(J:c<=y/\y<=d)(B:zY f e=true)(h:f<=MB k x y/\MB k x y<=e):He k x y=MB k x y:=by simp only[zY,ζh]at B;have o1:=of_decide_eq_true B.1;have o2:=of_decide_eq_true B.2;have⟨a1,a2,a3⟩:=g;have⟨u,w,z⟩:=D;unfold VE.He MB at *;split;exact eG _ Zaa Zaa;split;exact eG _ Zaa Zaa;split;exact eG _ Zaa Zaa;rw[if_neg (by assumption),if_neg (by assumption),if_neg (by assumption)]at h;exact eG _ Zaa Zaa
theorem YS{c:Zg}{l:Zb}(h:UY t A c l)(q:Pred):wL t q->q.kind<=8->∃i ok x,Zx t c l q i ok x:=by induction q using Pred.ind with|h q O=>intro o hk;have hd:=q.zu;have⟨Q,N,hy⟩:=o.here;obtain⟨k1,-,-⟩:=xz Q;have O:=λq Z=>O q Z (o.zX Z) (o.int Zaa Z);by_cases P:q.kind<=4;have V:q.l.l.length=0:=(by have:=Pred.parts Q (c:=0) (by rcases(show q.kind=1\/q.kind=2\/q.kind=3\/q.kind=4 by omega)with h|h|h|h<;>(rw[h];rfl));omega);have⟨k,f,x,g1,g2,g3,g5⟩:=Wx h Q N P;refine⟨⟨k,f⟩,zY k f,x,λn w=>⟨?_,?_⟩,λab=>⟨k,f,rfl,t_.of Zaa ab,g3,g5⟩⟩;unfold Gt;rw[lS Zaa];show dm t q _=_;unfold dm;rw[show(len q.l==0)=true from by simp[len,V],bH,g1,ζb,DL,ζb,not_not];unfold Gr;rw[lS Zaa];exact g2 _;have u:∀j:Int,j<5->(q.kind==j)=false:=λj hj=>(by simp;omega);by_cases F:q.kind=5;have S:q.l.l.length=1:=(by have:=Pred.parts Q (c:=1) (by rw[F];rfl);omega);have m:0<q.l.l.length:=Zaa;have⟨i,ok,x,g,g3⟩:=O _ (getElem_mem m);have ad:=Pred.rN (getElem_mem m);have T:idx q.l 0=some q.l.l[0]:=bJ (i:=0) m;have D:∀n,q.dp<=n->Gt n t q=cW.J1 ok true q ⟨0,0⟩ i i (λ_=>none):=λn w=>(by have e:=(g (n-1) Zaa).1;unfold Gt at e⊢;rw[lS Zaa];show dm t q _=_;generalize iw (λr(z:Z4×Pred)=>dm z.1 z.2 r) (n-1)=R at e⊢;unfold dm;rw[show(len q.l==0)=false from by simp[len,S],bE,T,ζb,e,ζb,show(len q.l==2)=false from by simp[len,S],bE];rfl);have B:∀n,q.dp<=n->Gr n ⟨t,c,l⟩ q=some (He q.kind x x):=λn w=>(by have e:=(g (n-1) Zaa).2;unfold Gr at e⊢;rw[lS Zaa];show cM ⟨t,c,l⟩ q _=_;generalize iw (λr(z:cq×Pred)=>cM z.1 z.2 r) (n-1)=R at e⊢;unfold cM;rw[u 1 Zaa,u 2 Zaa,u 3 Zaa,u 4 Zaa,bE,bE,bE,bE,F,show((5:Int)==5)=true from rfl,bH,T,ζb,e];rfl);(cases ok with|false=>rw[EZ rfl]at D;exact⟨_,false,_,λn w=>⟨D n w,B n w⟩,λh=>by cases h⟩|true=>obtain⟨a,b,rfl,G,I,x2⟩:=g3 rfl;have⟨k,f,s,v,U⟩:=Jz (p:=q) ⟨Zaa,Zaa⟩ G G ⟨I,x2⟩ ⟨I,x2⟩ ⟨0,0⟩ (λ_=>none);refine⟨_,_,_,λn w=>⟨(D n w).trans s,B n w⟩,λh=>⟨k,f,rfl,t_.of v h,?_⟩⟩;rw[t_.He G G ⟨I,x2⟩ ⟨I,x2⟩ h (U h)];exact U h);have W:q.l.l.length=2:=(by have:=Pred.parts Q (c:=2) (by rcases(show q.kind=6\/q.kind=7\/q.kind=8 by omega)with h|h|h<;>(rw[h];rfl));omega);have m:0<q.l.l.length:=Zaa;have E:1<q.l.l.length:=Zaa;have⟨i,ok,x,g,g3⟩:=O _ (getElem_mem m);have⟨j,C,y,H,q3⟩:=O _ (getElem_mem E);have ad:=Pred.rN (getElem_mem m);have ae:=Pred.rN (getElem_mem E);have T:idx q.l 0=some q.l.l[0]:=bJ (i:=0) m;have X:idx q.l 1=some q.l.l[1]:=bJ (i:=1) E;have D:∀n,q.dp<=n->Gt n t q=cW.J1 ok C q ⟨0,0⟩ i j (λ_=>none):=λn w=>(by have e:=(g (n-1) Zaa).1;have J:=(H (n-1) Zaa).1;unfold Gt at e J⊢;rw[lS Zaa];show dm t q _=_;generalize iw (λr(z:Z4×Pred)=>dm z.1 z.2 r) (n-1)=R at e J⊢;unfold dm;rw[show(len q.l==0)=false from by simp[len,W],bE,T,X];simp only[ζb];simp only[e,J,ζb];rw[show(len q.l==2)=true from by simp[len,W]];rfl);have B:∀n,q.dp<=n->Gr n ⟨t,c,l⟩ q=some (He q.kind x y):=λn w=>(by have e:=(g (n-1) Zaa).2;have J:=(H (n-1) Zaa).2;unfold Gr at e J⊢;rw[lS Zaa];show cM ⟨t,c,l⟩ q _=_;generalize iw (λr(z:cq×Pred)=>cM z.1 z.2 r) (n-1)=R at e J⊢;unfold cM;rw[u 1 Zaa,u 2 Zaa,u 3 Zaa,u 4 Zaa,bE,bE,bE,bE,T,X];simp only[ζb];simp only[e,J,ζb];unfold VE.He;rcases(show q.kind=6\/q.kind=7\/q.kind=8 by omega)with h|h|h<;>rw[h]<;>rfl);cases L:ok&&C with|false=>simp only[EZ L]at D;exact⟨_,false,_,λn w=>⟨D n w,B n w⟩,λh=>by cases h⟩|true=>simp only[ζh]at L;obtain⟨rfl,rfl⟩:=L;obtain⟨a,b,rfl,G,I,x2⟩:=g3 rfl;obtain⟨c',d,rfl,Y,K,M⟩:=q3 rfl;have⟨k,f,s,v,U⟩:=Jz (p:=q) ⟨Zaa,Zaa⟩ G Y ⟨I,x2⟩ ⟨K,M⟩ ⟨0,0⟩ (λ_=>none);refine⟨_,_,_,λn w=>⟨(D n w).trans s,B n w⟩,λh=>⟨k,f,rfl,t_.of v h,?_⟩⟩;rw[t_.He G Y ⟨I,x2⟩ ⟨K,M⟩ h (U h)];exact U h
noncomputable abbrev OI(n:Nat)(v:cq)(q:Pred):a_ X':=iw (λr(z:cq×Pred)=>dS z.1 z.2 r) n (v,q)
theorem wL.bool{q:Pred}(a:wL t q)(g:13<=q.kind){k:Pred}(b:k∈q.l.l):9<=k.kind:=by have:=a.here.2.2;unfold yX at this;rw[all_eq_true]at this;have:=this k b;unfold Cs th at this;rw[if_neg (show¬q.kind<=12 by omega)]at this;by_cases u:k.kind<=8;rw[if_pos u]at this;cases this;omega
theorem Ym{q:Pred}(k2:q.kind<=21)(h:q.lM (λk=> !BZ k)=true):q.kind<=17/\∀k∈q.l.l,k.lM (λk=> !BZ k)=true:=by rw[q.pq,ζh,all_eq_true]at h;refine⟨?_,h.2⟩;have:=h.1;unfold BZ at this;by_cases g:q.kind>=18;rw[decide_eq_true g,decide_eq_true k2]at this;cases this;omega
theorem RA{c:Zg}{l:Zb}(h:UY t A c l)(q:Pred):wL t q->9<=q.kind->q.dp<=20->q.lM (λk=> !BZ k)=true->∃x,∀n,q.dp<=n->OI n ⟨t,c,l⟩ q=some x:=by induction q using Pred.ind with|h q O=>intro a d W G;have hd:=q.zu;have⟨I,j,m⟩:=a.here;obtain⟨k1,k2,-⟩:=xz I;have⟨X,G⟩:=Ym Zaa G;have O:=λg q J=>O q J (a.zX J) (a.bool g J) (by have:=Pred.rN J;omega) (G q J);have B:∀n,q.dp<=n->OI n ⟨t,c,l⟩ q=dS ⟨t,c,l⟩ q (λz=>OI (n-1) z.1 z.2):=λn C=>(by unfold OI;rw[lS Zaa]);by_cases S:q.kind<=12;have Z:=Pred.parts I (c:=2) (by rcases(show q.kind=9\/q.kind=10\/q.kind=11\/q.kind=12 by omega)with g|g|g|g<;>(rw[g];rfl));have u:0<q.l.l.length:=Zaa;have w:1<q.l.l.length:=Zaa;have D:∀k∈q.l.l,∃x,fe ⟨t,c,l⟩ k=some x:=λk d=>(by obtain⟨i,ok,x,g,-⟩:=YS h k (a.zX d) (a.int S d);exact⟨x,(g 100000 (by have:=Pred.rN d;omega)).2⟩);have⟨x,Q⟩:=D _ (getElem_mem u);have⟨y,T⟩:=D _ (getElem_mem w);have key:∀R,∃b,dS ⟨t,c,l⟩ q R=some b/\∀e,dS ⟨t,c,l⟩ q e=some b:=λR=>(by unfold dS;rw[show idx q.l 0=some q.l.l[0]from bJ (i:=0) u,show idx q.l 1=some q.l.l[1]from bJ (i:=1) w];simp only[ζb,Q,T];rcases(show q.kind=9\/q.kind=10\/q.kind=11\/q.kind=12 by omega)with g|g|g|g<;>rw[g]<;>exact⟨_,rfl,λ_=>rfl⟩);obtain⟨b,-,f⟩:=key (λ_=>none);exact⟨b,λn C=>by rw[B n C,f]⟩;by_cases o:q.kind<=14;refine⟨q.kind==13,λn C=>?_⟩;rw[B n C];unfold dS eR.J1;rcases(show q.kind=13\/q.kind=14 by omega)with g|g<;>rw[g]<;>rfl;have u:0<q.l.l.length:=(by rcases(show q.kind=15\/q.kind=16\/q.kind=17 by omega)with g|g|g;have:=Pred.parts I (c:=1) (by rw[g];rfl);omega;have:=Pred.parts I (c:=2) (by rw[g];rfl);omega;have:=Pred.parts I (c:=2) (by rw[g];rfl);omega);have⟨x,Q⟩:=O Zaa _ (getElem_mem u);have p:=Pred.rN (getElem_mem u);have L:idx q.l 0=some q.l.l[0]:=bJ (i:=0) u;by_cases g:q.kind=15;refine⟨!x,λn C=>?_⟩;rw[B n C];unfold dS eR.J1;rw[L,g];simp only[ζb,Q (n-1) Zaa];rfl;have w:1<q.l.l.length:=(by have:=Pred.parts I (c:=2) (by rcases(show q.kind=16\/q.kind=17 by omega)with g|g<;>(rw[g];rfl));omega);have⟨y,T⟩:=O Zaa _ (getElem_mem w);have Y:=Pred.rN (getElem_mem w);have U:idx q.l 1=some q.l.l[1]:=bJ (i:=1) w;refine⟨if q.kind=16 then x&&y else x||y,λn C=>?_⟩;rw[B n C];unfold dS eR.J1;rw[L,U];simp only[ζb,Q (n-1) Zaa,T (n-1) Zaa];rcases(show q.kind=16\/q.kind=17 by omega)with g|g<;>rw[g]<;>cases x<;>rfl
end
section
variable{t:Z4}{A:cu 200 bF}{L:aZ ST}{tb:Sl X'}{x:b9}
theorem PC(d:VT t)(B:eE t A L)(D:x.truth=tb)(J:Ap L (lN x.index))(G:tb.l.length=L.length){out:Zb}(U:out.l.length<=5000)
 (W:∀z∈out.l,z=.nil\/Cons t A z.l):nM x out=some (!out.l.any λz=> !z.l.isEmpty&& !jO tb (L.idxOf z.l)):=by
 have w:=d.ok.one;unfold nM;rw[pK (p:=λz=>jH z (some x)) (f:=λz=> !z.l.isEmpty&& !jO tb (L.idxOf z.l)) (λz I=>?_) Zaa]
 .rfl
 unfold jH;rcases W z I with rfl|c
 .rfl
 have u:0<z.l.length:=by rw[c.1.1];omega
 have C:=(B.mem _).2 c;rw[tO u,ζb,bE,ζb,ζb,Gx (z6 d c) (by rw[c.1.1];exact d.few),ζb,J.get _ C,D,
  CF (by rw[G];exact List.idxOf_lt_length_of_mem C),ζb,ζb]
 rw[show z.l.isEmpty=false from by cases h:z.l with
  |nil=>rw[h]at u;exact absurd u (by decide)|cons a b=>rfl]
 rfl
end
theorem MJ{b c:X'}:bl b (some true) (some c)=some (b||c):=by cases b<;>rfl
section
variable{t:Z4}
theorem VD(a:Small t)(G:(bR t).length<1073741824):∃b,fF t=some b:=by
 suffices h:Wp (fF t) λ_=>True by obtain⟨b,I,-⟩:=h;exact⟨b,I⟩
 have g:=a.1;obtain⟨v,-,w,B⟩:=GY a G;obtain⟨J,C,u,-⟩:=GY a G;have D:v=J:=by rw[w]at u;exact Option.some.inj u
 subst D;have ok:∀b:X',Wp (some b) λ_=>True:=λb=>(bg _).2 trivial;unfold fF;rw[ck];refine⟨λ_=>ok _,λ_=>?_⟩;unfold fF.W1;refine eU t.procs.l.length (λi(q:Int×Int)=>q.2=(i:Int)) rfl ?_ ?_;rintro i ⟨n,_⟩ hi e;simp only at e;subst e;unfold fF.br;dsimp only;rw[jt hi,bH,bJ hi,ζb,wJ (p:=λz=>qE z) (f:=λx=>decide (len x.assign>12)) (λx _=>rfl) (a.2 _ (getElem_mem hi)).1,ζb,MJ,ζb,ck];exact⟨λ_=>(bg _).2 (ok _),λ_=>(bg _).2 (cF i Zaa)⟩;rintro⟨n,_⟩ e;simp only at e;subst e;unfold fF.br;dsimp only;rw[iY,bE,bg];show Wp (bl _ _ _) _;rw[ck];refine⟨λ_=>ok _,λ_=>?_⟩;rw[w,ζb];cases v with|false=>exact ok _|true=>rw[bH,ck];refine⟨λ_=>?_,λ_=>?_⟩;unfold fF.W2;refine eU t.procs.l.length (λi(q:Int×Int)=>q.2=(i:Int)) rfl ?_ ?_;rintro i ⟨n,_⟩ hi e;simp only at e;subst e;unfold fF.bU;dsimp only;rw[jt hi,bH,bJ hi,ζb,wJ (p:=λz=>qD z) (f:=λx=>x.kind==3) (λx _=>rfl) (a.2 _ (getElem_mem hi)).1,ζb,ck];exact⟨λ_=>(bg _).2 (ok _),λ_=>(bg _).2 (cF i Zaa)⟩;rintro⟨n,_⟩ e;simp only at e;subst e;unfold fF.bU;dsimp only;rw[iY,bE,bg];exact ok _;have c:=B rfl;obtain⟨A,-,-,d⟩:=c.msgs;rcases E6 a C c d with⟨L,r,s,-,-,-,h,-⟩|⟨-,h⟩;rw[h,ζb];exact ok _;rw[h,ζb];exact ok _
theorem JU:∀(n:Nat)(p:Pred),p.Sm->∀l d:Int,0<=l->l<=300->0<=d->d<=61->62<=(n:Int)+d->
 ∃b m,iw (λr(z:Pred×Int×Int)=>jZ z.1 z.2.1 z.2.2 r) n (p,l,d)=some (b,m)/\-1<=m/\m<=l/\(b=true->0<=m)
 |0,p,B,l,d,h1,J,U,W,D=>absurd D Zaa|n+1,p,B,l,d,h1,J,U,W,D=>by have G:=JU n;rw[lS (Nat.succ_pos n)];show∃b m,jZ p l d (iw (λr(z:Pred×Int×Int)=>jZ z.1 z.2.1 z.2.2 r) n)=some (b,m)/\_;generalize iw (λr(z:Pred×Int×Int)=>jZ z.1 z.2.1 z.2.2 r) n=R at G⊢;unfold jZ;rw[eG _ Zaa Zaa];by_cases c:0<=l-1;rw[decide_eq_true (show l-1>=0 from c),bH,ζb];by_cases C:d<=60;rw[decide_eq_true C,bH];(cases I:decide (((ByteArray.size p.name:Nat):Int)<=100)with|false=>exact⟨false,l-1,rfl,Zaa,Zaa,λh=>by cases h⟩|true=>rw[ζb,bH,Gn (by have:=B.len;omega)];have key:∀(u:aZ Pred),(∀k∈u,k.Sm)->∀s:Int,0<=s->s<=299->∃b m,wC (λx s=>ki x d s R) u s=some (b,m)/\-1<=m/\m<=s/\(b=false->0<=m):=(by intro u;induction u with|nil=>intro _ s g1 g2;exact⟨false,s,rfl,Zaa,Zaa,λ_=>g1⟩|cons k r w=>intro a s g1 g2;have⟨b,m,e1,e2,e3,e4⟩:=G k (a k (List.mem_cons_self ..)) s (d+1) g1 Zaa Zaa Zaa Zaa;have e:ki k d s R=some (!b,m):=(by unfold ki;rw[eG _ Zaa Zaa,e1];rfl);show∃b m,((ki k d s R).bind λy=>if y.1 then some (true,y.2)else wC (λx s=>ki x d s R) r y.2)=some (b,m)/\_;rw[e,ζb];cases b with|false=>exact⟨true,m,rfl,e2,e3,λh=>by cases h⟩|true=>have⟨L,m',k1,k2,k3,k4⟩:=w (λx O=>a x (mem_cons_of_mem _ O)) m (e4 rfl) Zaa;refine⟨L,m',?_,k2,Zaa,k4⟩;exact k1);have⟨b,m,e1,e2,e3,e4⟩:=key p.l.l (λk a=>B.zX a) (l-1) c Zaa;rw[e1,ζb,ζb];exact⟨!b,m,rfl,e2,Zaa,λh=>e4 (by cases b;rfl;cases h)⟩);rw[decide_eq_false C,bE];exact⟨false,l-1,rfl,Zaa,Zaa,λh=>by cases h⟩;rw[decide_eq_false (show¬l-1>=0 from c),bE];exact⟨false,l-1,rfl,Zaa,Zaa,λh=>by cases h⟩
theorem ZF(a:Small t)(D:(bR t).length<1073741824){p:Pred}(B:p.Sm):∃b,xo t p=some b:=by have⟨s,d⟩:=VD a D;unfold xo;rw[d,ζb];cases s with|false=>exact⟨_,rfl⟩|true=>obtain⟨b,m,e,-⟩:=JU 100000 p B 300 0 Zaa Zaa Zaa Zaa Zaa;have u:zm p 300 0=some (b,m):=e;have w:=count_eq p B 100000 200 Zaa Zaa;have z:kU p 200=_:=w;have c:∃k,sG p=some k:=⟨_,by unfold sG;rw[z];rfl⟩;have⟨k,c⟩:=c;rw[bH,u,ζb,ζb];cases b with|false=>exact⟨_,rfl⟩|true=>simp only;rw[bH,c,ζb,ζb,MJ];exact⟨_,rfl⟩
end
theorem VY (x y:Int):qx (Sl.row [x,y])=some (qz x y):=by
 have h:Wp (dB (Sl.row [x,y])) λm=>m=if y>x then y else x:=by
  unfold dB;rw[show decide (len (Sl.row [x,y])<1)=false from rfl,bE];unfold dB.J1;rw[show idx (Sl.row [x,y]) 0=some x from rfl,ζb];unfold dB.W2;refine eU 1 (λi (q:Int×Int)=>(i=0/\q=(x,1))\/(i=1/\q=(if y>x then y else x,2))) (.inl ⟨rfl,rfl⟩) ?_ ?_
  .rintro i ⟨m,k⟩ hi (⟨rfl,e⟩|⟨rfl,e⟩)
   .cases e;unfold dB.bU;dsimp only;rw[show decide ((1:Int)<len (Sl.row [x,y]))=true from rfl,bH,show idx (Sl.row [x,y]) 1=some y from rfl,ζb,bg];exact .inr ⟨rfl,rfl⟩
   omega
  rintro⟨m,k⟩ (⟨h,_⟩|⟨_,e⟩)
  .cases h
  cases e;unfold dB.bU;dsimp only;rw[show decide ((2:Int)<len (Sl.row [x,y]))=false from rfl,bE,bg];exact(bg _).2 rfl
 unfold qx;obtain⟨m,h1,u⟩:=h;rw[h1,u];unfold qz;refine congrArg some ?_
 by_cases h:y>x
 .rw[if_pos h];try split
  all_goals omega
 rw[if_neg h];try split
 all_goals omega
theorem RR{a b:Zg}(J:a.l.length=b.l.length)(g:0<a.l.length)(U:a.l.length<=8):Wp (dX (Sl.row [a,b]) (λz=>qx z)) λo=>o.l=zipWith qz a.l b.l:=by
 have D:=oC.of qz J;unfold dX;have⟨d,l,u⟩:=u6 (c:=a) Zaa g;obtain⟨v,I,G⟩:∃v,fZ (Sl.row [a,b]) (some 1) none=some v/\v.l=[b]:=zb (Sl.row [a,b]) 1 (Nat.le_succ 1);rw[show idx (Sl.row [a,b]) 0=some a from rfl,ζb,l,ζb,I,ζb];unfold dX.W1;have f:len v=1:=by simp only[len,G];rfl
 have hi:idx v 0=some b:=by unfold idx;rw[if_pos (by decide),G];rfl
 refine eU 1 (λi(q:Zg×Int)=>(i=0/\q=(d,0))\/(i=1/\q.1.l=zipWith qz a.l b.l/\q.2=1)) (.inl ⟨rfl,rfl⟩) ?_ ?_;rintro i ⟨o,k⟩ L (⟨rfl,e⟩|⟨rfl,-,-⟩);cases e;unfold dX.br;dsimp only;rw[f,show decide ((0:Int)<1)=true from rfl,bH,hi,ζb];unfold dX.W2;refine eU d.l.length (λn(q:Zg×Int)=>q.2=(n:Int)/\q.1.l.length=a.l.length/\∀j:Nat,q.1.l[j]?=if j<n then(zipWith qz a.l b.l)[j]?else a.l[j]?) ⟨rfl,by rw[u],λj=>by rw[if_neg Zaa,u]⟩ ?_ ?_;rintro n ⟨o,_⟩ O ⟨rfl,g1,g2⟩;simp only at g1 g2;have w:n<a.l.length:=by rw[<-u];exact O
 have B:n<b.l.length:=Zaa;unfold dX.bU;dsimp only;rw[show decide ((n:Int)<len d)=true from by simp only[len,decide_eq_true_eq];omega,bH,qa Zaa,ζb];unfold Sl.get;rw[g2 n,if_neg Zaa,ζd w,ζb,bJ B,ζb,VY,ζb,ζb];have⟨o2,k1,k2⟩:=put_eq (s:=o) (p:=n) (x:=qz a.l[n] b.l[n]) Zaa;rw[k1,ζb,bg];refine⟨cF n Zaa,by show o2.l.length=_;rw[k2,length_set];exact g1,λj=>?_⟩;show o2.l[j]?=_;rw[k2,getElem?_set];by_cases e:n=j;subst e;rw[if_pos rfl,if_pos Zaa,if_pos Zaa,D.2 n _ _ (ζd w) (ζd B)];rw[if_neg e,g2 j];by_cases C:j<n;rw[if_pos C,if_pos Zaa];rw[if_neg C,if_neg Zaa];rintro⟨o,_⟩ ⟨rfl,g1,g2⟩;simp only at g1 g2;unfold dX.bU;dsimp only;rw[iY,bE,bg];refine(bg _).2 (.inr ⟨rfl,ext_getElem? λj=>?_,rfl⟩);rw[g2 j];by_cases C:j<d.l.length;rw[if_pos C];rw[if_neg C,getElem?_eq_none (by rw[<-u];omega),getElem?_eq_none (by rw[D.1,<-u];omega)];omega;rintro⟨o,k⟩ (⟨h,_⟩|⟨_,e,e2⟩);cases h;simp only at e e2;subst e2;unfold dX.br;dsimp only;rw[f,show decide ((1:Int)<1)=false from rfl,bE,bg];exact(bg _).2 e
theorem Sn{c:Zg}(B:c.l.length<=8):fS c=some (lJ (c.l.map (wrap .u8))):=by
 refine Wp.eq ?_;unfold fS;have b:∃r,sB (len c) (⟨0⟩:U8)=some r/\r.l=[]:=by unfold sB;rw[if_pos ⟨by simp[len],by simp[len];omega⟩];refine⟨_,rfl,?_⟩;split<;>rfl
 have⟨r,b,u⟩:=b;rw[b,ζb];unfold fS.W1;refine eU c.l.length (λi(q:Sl U8×Int)=>q.2=(i:Int)/\q.1.l.map U8.v=(c.l.map (wrap .u8)).take i) ⟨rfl,by rw[u];rfl⟩ ?_ ?_;rintro i ⟨o,_⟩ hi ⟨e,a⟩;simp only at e a;subst e;have w:o.l.length=i:=by have:=congrArg List.length a;simp at this;omega
 unfold fS.br;rw[jt hi,bH,bJ hi,ζb];have⟨z,k1,k2⟩:=mm (s:=o) (x:=(⟨wrap .u8 c.l[i]⟩:U8)) Zaa;rw[k1,ζb,bg];refine⟨cF i Zaa,?_⟩;show z.l.map U8.v=_;rw[k2,map_append,a,List.take_succ_eq_append_getElem (by simpa using hi),List.map_singleton,List.getElem_map];rintro⟨o,_⟩ ⟨e,a⟩;simp only at e a;subst e;unfold fS.br;rw[iY,bE,bg];refine(bg _).2 ?_;unfold K9;rw[a,List.take_of_length_le Zab]
section
variable{t:Z4}{A:cu 200 bF}{L:aZ ST}{tb:Sl X'}{x:b9}
def zS(L:aZ ST)(c:ST):S':=(range c.length).filterMap λp=>if bump c p (-1)∈L then some (L.idxOf (bump c p (-1)))else none
theorem Ci{L:aZ ST}{c:ST}{k:Nat}:k∈zS L c↔∃p,p<c.length/\bump c p (-1)∈L/\k=L.idxOf (bump c p (-1)):=by
 unfold zS;rw[List.mem_filterMap];constructor;rintro⟨p,u,h⟩;split at h;next w=>cases h;exact⟨p,mem_range.1 u,w,rfl⟩
 cases h;rintro⟨p,u,w,rfl⟩;exact⟨p,mem_range.2 u,by rw[if_pos w]⟩
theorem P_(h:eE t A L){i k:Nat}{c:ST}(hi:L[i]?=some c)(b:k∈zS L c):k<i:=by obtain⟨p,u,w,rfl⟩:=Ci.1 b;refine h.lt (ql w) hi ?_;have a:c[p]?=some c[p]:=ζd u;unfold bump;rw[tj a,a];show c.sum-c[p]+(c[p]+-1)<c.sum;omega
theorem tu{c:ST}{p:Nat}{a:Int}(h:c[p]?=some a)(q:Nat):(bump c p (-1))[q]?=if p=q then some (a+-1)else c[q]?:=by have u:=(ζe.1 h).1;unfold bump;rw[h,getElem?_set];by_cases e:p=q;subst e;rw[if_pos rfl,if_pos rfl,if_pos u];rfl;rw[if_neg e,if_neg e]
theorem Hi{c:ST}{p:Nat}(h:p<c.length):bump (bump c p 1) p (-1)=c:=by have a:=ζd h;have u:=xS a p;rw[if_pos rfl]at u;refine ext_getElem? λq=>?_;rw[tu u,xS a];by_cases e:p=q;subst e;rw[if_pos rfl,a];congr 1;omega;rw[if_neg e,if_neg e]
theorem zZ{c:ST}{p:Nat}(h:p<c.length):dV (bump c p (-1)) c:=⟨vq,λq x y u w=>by
 rw[tu (ζd h)]at u
 by_cases e:p=q
 .subst e;rw[if_pos rfl]at u;cases u;rw[ζd h]at w;cases w;omega
 rw[if_neg e,w]at u;cases u;exact Int.le_refl _⟩
theorem Bc(b:VT t)(f:ga t (bR t) A)(B:eE t A L){c:ST}(a:Cons t A c):∀(n:Nat){d:ST},Cons t A d->dV d c->d≠c->L.length<=L.idxOf d+n->∃p,p<c.length/\bump c p (-1)∈L/\dV d (bump c p (-1))
 |0,d,G,D,J,W=>absurd (List.idxOf_lt_length_of_mem ((B.mem _).2 G)) Zaa|n+1,d,G,D,J,W=>by have U:=(B.mem _).2 G;have⟨p,u,w,C⟩:=Cm b f B G D c.sum.toNat a (dV.refl c) Zaa (λh=>J (dV.same D h));have z:d.length=c.length:=G.1.1.trans a.1.1.symm;by_cases e:bump d p 1=c;refine⟨p,Zaa,?_,?_⟩;rw[<-e,Hi u];exact U;rw[<-e,Hi u];exact dV.refl _;have I:=(Fk B (ql U) (zQ.2 ⟨p,u,w,rfl⟩)).1;have⟨q,k1,k2,k3⟩:=Bc b f B a n ((B.mem _).1 w) C e Zaa;exact⟨q,k1,k2,(zO u).trans k3⟩
theorem T4(r:Small t)(b:VT t)(B:eE t A L){x:b9}(J:ins x.l=L)(Y:Ap L (lN x.index)){i:Nat}{c:ST}(f:L[i]?=some c):
 Wp (dF x (i:Int) (-1)) λo=>o.l=(zS L c).map λk:Nat=>(k:Int):=by
 have N:=b.few;have hi:i<x.l.l.length:=by rw[<-jE,J];exact(ζe.1 f).1
 have u:x.l.l[i].l=c:=by have:=tY hi;rw[J,f]at this;exact(Option.some.inj this).symm
 have g:=(B.mem _).1 (mem_of_getElem? f);have P:=g.1.1;have R:=b.ok.one;have V:=FL r b g;have O:=z6 b g;unfold dF;rw[bJ hi,ζb];unfold dF.W1;refine eU x.l.l[i].l.length (λn(q:Zg×Int)=>q.2=(n:Int)/\q.1.l.length<=n/\q.1.l=((range n).filterMap λp=>if bump c p (-1)∈L then some (L.idxOf (bump c p (-1)))else none).map λk:Nat=>(k:Int)) ⟨rfl,le_refl _,rfl⟩ ?_ ?_
 .rintro n ⟨o,_⟩ C ⟨rfl,Q,S⟩;simp only at Q S;rw[u]at C;have D:=ζd C;have hb:=O c[n] (getElem_mem C);have⟨d,Z,T⟩:=u6 (c:=x.l.l[i]) (by rw[u];omega) (by rw[u];omega)
  rw[u]at T;unfold dF.br;dsimp only;rw[show len x.l.l[i]=((x.l.l[i].l.length:Nat):Int)from rfl,u,decide_eq_true Zaa,bH,bJ hi,ζb,Z,ζb,qa (by rw[T];exact C),ζb]
  unfold Sl.get;rw[T,D,ζb,ζb,eG _ Zaa Zaa]
  have⟨v,E,F⟩:=put_eq (s:=d) (p:=n) (x:=c[n]+-1) (by rw[T];exact C)
  have U:v.l=bump c n (-1):=by rw[F,T];unfold bump;rw[D];rfl
  have W:(bump c n (-1)).map (wrap .u8)=if c[n]=0 then c.set n 255 else bump c n (-1):=by refine ext_getElem? λq=>?_;rw[getElem?_map,tu D];have l:∀z:Int,0<=z->z<256->wrap .u8 z=z:=λz j Z=>(by simp[wrap,IntKind.bits,signed];omega);by_cases e:n=q;subst e;rw[if_pos rfl];by_cases a:c[n]=0;rw[if_pos a,getElem?_set_self C,a];rfl;rw[if_neg a,tu D,if_pos rfl];show some _=some _;rw[l _ Zaa Zaa];rw[if_neg e];have H:(c[q]?).map (wrap .u8)=c[q]?:=(by cases K:c[q]?with|none=>rfl|some z=>have:=O z (mem_of_getElem? K);show some _=some _;rw[l z this.1 this.2]);rw[H];by_cases a:c[n]=0;rw[if_pos a,List.getElem?_set_ne e];rw[if_neg a,tu D,if_neg e]
  have m:C3 ((bump c n (-1)).map (wrap .u8)):=λz M=>by obtain⟨y,-,rfl⟩:=mem_map.1 M;simp[wrap,IntKind.bits,signed];omega
  have w:(bump c n (-1)).map (wrap .u8)∈L↔bump c n (-1)∈L:=by rw[W];by_cases a:c[n]=0;rw[if_pos a];refine⟨λh=>?_,λh=>?_⟩;have G:=(B.mem _).1 h;have X:n<t.procs.l.length:=(by omega);have j:=G.1.2 n _ _ (getElem?_set_self C) (ζd X);have Z:=Bz b (ζd X);omega;have G:=(B.mem _).1 h;have j:=G.1.pos n (c[n]+-1) (by rw[tu D,if_pos rfl]);omega;rw[if_neg a]
  rw[E,ζb,Sn (by rw[U,vq];omega),ζb,U]
  by_cases I:bump c n (-1)∈L
  .have ab:(bump c n (-1)).map (wrap .u8)=bump c n (-1):=by
    rw[W,if_neg];intro a;have j:=((B.mem _).1 I).1.pos n (c[n]+-1) (by rw[tu D,if_pos rfl])
    omega
   have⟨o2,k1,k2⟩:=mm (s:=o) (x:=oJ (lN x.index) (lJ (bump c n (-1))) 0) Zaa
   rw[(Y.has _ m).2 (w.2 I),bH,ab,k1,ζb,bg];refine⟨cF n Zaa,by show o2.l.length<=_;rw[k2];simp;omega,?_⟩
   show o2.l=_;rw[k2,S,Y.get _ I,range_succ,List.filterMap_append,map_append];simp[I]
  rw[show s8 (lN x.index) (lJ ((bump c n (-1)).map (wrap .u8)))=false from by
   cases h:s8 (lN x.index) (lJ ((bump c n (-1)).map (wrap .u8)))with
   |false=>rfl|true=>exact absurd (w.1 ((Y.has _ m).1 h)) I,bE,bg]
  refine⟨cF n Zaa,by show o.l.length<=_;omega,?_⟩
  show o.l=_;rw[S,range_succ,List.filterMap_append,map_append];simp[I]
 rintro⟨o,_⟩ ⟨rfl,Q,S⟩;unfold dF.br;dsimp only;rw[iY,bE,bg];refine(bg _).2 ?_;rw[S,u];rfl
end
section
variable{t:Z4}{A:cu 200 bF}{L:aZ ST}{tb:Sl X'}{x:b9}
def Hig(t:Z4)(A:cu 200 bF)(L:aZ ST)(f:Nat->X')(c:ST)(o:Zg):Prop:=(o=.nil/\∀d,lp L f d->¬dV d c)\/(Cons t A o.l/\dV o.l c/\(∀d,lp L f d->dV d c->dV d o.l)/\(∃d,lp L f d/\dV d c)/\∀e,(∀d,lp L f d->dV d c->dV d e)->dV o.l e)
theorem OX(hS:Small t)(r:VT t)(hM:ga t (bR t) A)(B:eE t A L)(h5:L.length<=5000)(E:ins x.l=L)(aw:x.truth=tb)(hx:Ap L (lN x.index))(aJ:tb.l.length=L.length):
 Wp (dH x) λout=>out.l.length=L.length/\∀(i:Nat)c,L[i]?=some c->∃o,out.l[i]?=some o/\Hig t A L (jO tb) c o:=by
 have V:=r.few;have aI:=r.ok.one;have ax:x.l.l.length=L.length:=by rw[<-E,jE]
 unfold dH;have ay:len x.l=(L.length:Int):=by simp only[len,ax]
 rw[ay,show qX (L.length:Int) (Sl.nil:Zg)=some (.row (replicate L.length Sl.nil))from by unfold qX;rw[if_pos ⟨Zaa,Zaa⟩];rfl,ζb]
 unfold dH.W1;refine eU L.length (λm(q:Zb×Int)=>q.2=(m:Int)/\q.1.l.length=L.length/\(∀(j:Nat)c,j<m->L[j]?=some c->∃o,q.1.l[j]?=some o/\Hig t A L (jO tb) c o)/\∀j:Nat,m<=j->j<L.length->q.1.l[j]?=some .nil)
  ⟨rfl,by simp[Sl.l],λj c Q=>absurd Q Zaa,λj _ Q=>by
   show(replicate L.length (Sl.nil:Zg))[j]?=_;rw[List.getElem?_replicate,if_pos Q]⟩ ?_ ?_
 .rintro i ⟨out,_⟩ S ⟨rfl,g1,g2,g3⟩;simp only at g1 g2 g3;have J:=ζd S;have F:=(B.mem _).1 (getElem_mem S);unfold dH.br;dsimp only;rw[decide_eq_true (show(i:Int)<(L.length:Int)by omega),bH,aw,CF Zaa,ζb]
  cases H:jO tb i with
  |true=>
   have ai:i<x.l.l.length:=Zaa
   have X:x.l.l[i].l=L[i]:=by have:=tY ai;rw[E,J]at this;exact(Option.some.inj this).symm
   have⟨o2,k1,k2⟩:=put_eq (s:=out) (p:=i) (x:=x.l.l[i]) Zaa
   rw[bH,bJ ai,ζb,qa Zaa,ζb,k1,ζb,bg]
   refine⟨cF i Zaa,by show o2.l.length=_;rw[k2,length_set];exact g1,λj c Q b=>?_,λj Q K=>?_⟩
   .show ∃o,o2.l[j]?=some o/\_;rw[k2,getElem?_set]
    by_cases e:i=j
    .subst e;rw[J]at b;cases b;exact⟨_,by rw[if_pos rfl,if_pos Zaa],.inr ⟨by rw[X];exact F,by rw[X];exact dV.refl _,λd _ hd=>by rw[X];exact hd,⟨_,⟨getElem_mem S,by rw[om B.nodup J];exact H⟩,dV.refl _⟩,λe g=>by rw[X];exact g _ ⟨getElem_mem S,by rw[om B.nodup J];exact H⟩ (dV.refl _)⟩⟩
    rw[if_neg e];exact g2 j c Zaa b
   show o2.l[j]?=_;rw[k2,getElem?_set,if_neg Zaa];exact g3 j Zaa K
  |false=>
   rw[bE,d_];refine(T4 hS r B E hx J).mono λl aj=>?_
   have ak:l.l.length=(zS L L[i]).length:=by rw[aj,List.length_map]
   have aK:l.l.length<=8:=by rw[ak];have:=List.length_filterMap_le (λp=>if bump L[i] p (-1)∈L then some (L.idxOf (bump L[i] p (-1)))else none) (range L[i].length);rw[List.length_range]at this;exact le_trans this (by rw[F.1.1];exact V)
   unfold dH.W2;refine eU l.l.length (λn(q:Zb×Int)=>q.2=(n:Int)/\q.1.l.length=L.length/\(∀j:Nat,j≠i->q.1.l[j]?=out.l[j]?)/\∃a,q.1.l[i]?=some a/\
    ((a=.nil/\∀(m' k:Nat)z,m'<n->(zS L L[i])[m']?=some k->L[k]?=some z->∀d,lp L (jO tb) d->¬dV d z)\/
     (Cons t A a.l/\dV a.l L[i]/\(∀(m' k:Nat)z,m'<n->(zS L L[i])[m']?=some k->L[k]?=some z->∀d,lp L (jO tb) d->dV d z->dV d a.l)/\(∃d,lp L (jO tb) d/\dV d L[i])/\∀e,(∀d,lp L (jO tb) d->dV d L[i]->dV d e)->dV a.l e)))
    ⟨rfl,g1,λ_ _=>rfl,.nil,g3 i (le_refl _) S,.inl ⟨rfl,λm' k z h=>absurd h Zaa⟩⟩ ?_ ?_
   .rintro n ⟨o,_⟩ hn ⟨rfl,e1,e2,a,e3,e4⟩;simp only at e1 e2 e3;have al:n<(zS L L[i]).length:=by omega
    have Y:=ζd al;have M:=getElem_mem al;generalize hk:(zS L L[i])[n]=k at Y M;have⟨p,hp,Z,aA⟩:=Ci.1 M;have v:L[k]?=some (bump L[i] p (-1)):=by rw[aA];exact ql Z
    have aB:k<i:=P_ B J M;have aL:=(ζe.1 v).1;have⟨ok,aC,am⟩:=g2 k _ aB v;have an:idx l (n:Int)=some (k:Int):=by rw[kD,aj,getElem?_map,Y];rfl
    have T:o.l[k]?=some ok:=by rw[e2 k Zaa];exact aC
    unfold dH.bU;dsimp only;rw[jt hn,bH,an,ζb,qa Zaa,ζb]
    unfold Sl.get;rw[T,ζb];rcases am with⟨rfl,ao⟩|⟨y,u,aD,⟨de,aE,aF⟩,ap⟩
    .rw[show Sl.isNil (Sl.nil:Zg)=some true from rfl,ζb,bH,bg];refine⟨cF n Zaa,e1,e2,a,e3,?_⟩
     have O:∀(m' I:Nat)z,m'<n+1->¬m'<n->(zS L L[i])[m']?=some I->L[I]?=some z->z=bump L[i] p (-1):=λm' I z f G C D=>by obtain rfl:m'=n:=Zaa;rw[Y]at C;cases C;rw[v]at D;exact(Option.some.inj D).symm
     rcases e4 with⟨U,W⟩|⟨U,W,b⟩
     .refine .inl ⟨U,λm' I z f C D d hd=>?_⟩
      by_cases G:m'<n
      .exact W m' I z G C D d hd
      rw[O m' I z f G C D];exact ao d hd
     refine .inr ⟨U,W,λm' I z f C D d hd u=>?_,b.2⟩
     by_cases G:m'<n
     .exact b.1 m' I z G C D d hd u
     rw[O m' I z f G C D]at u;exact absurd u (ao d hd)
    have aq:0<ok.l.length:=by rw[y.1.1];omega
    have ar:=u.trans (zZ hp);have O:∀(m' I:Nat)z,m'<n+1->¬m'<n->(zS L L[i])[m']?=some I->L[I]?=some z->∀d,lp L (jO tb) d->dV d z->dV d ok.l:=λm' I z f G C D d hd u=>by obtain rfl:m'=n:=Zaa;rw[Y]at C;cases C;rw[v]at D;cases D;exact aD d hd u
    rw[tO aq,ζb,bE,qa Zaa,ζb,e3,ζb]
    rcases e4 with⟨rfl,W⟩|⟨U,W,b⟩
    .have⟨o2,k1,k2⟩:=put_eq (s:=o) (p:=i) (x:=ok) Zaa
     rw[show Sl.isNil (Sl.nil:Zg)=some true from rfl,ζb,bH,ζb,T,ζb,ζb,k1,ζb,bg];refine⟨cF n Zaa,by show o2.l.length=_;rw[k2,length_set];exact e1,λj Q=>by show o2.l[j]?=_;rw[k2,getElem?_set,if_neg (Ne.symm Q)];exact e2 j Q,ok,by show o2.l[i]?=_;rw[k2,getElem?_set_self Zaa],.inr ⟨y,ar,λm' I z f C D d hd u=>?_,⟨de,aE,aF.trans (zZ hp)⟩,λe g=>ap e λd hd u=>g d hd (u.trans (zZ hp))⟩⟩
     by_cases G:m'<n
     .exact absurd u (W m' I z G C D d hd)
     exact O m' I z f G C D d hd u
    have N:a.l.length=ok.l.length:=U.1.1.trans y.1.1.symm;have P:=oC.of qz N;have⟨w1,w2,R⟩:=P.le_max N;rw[tO (show 0<a.l.length by omega),ζb,bE,ζb,e3,ζb,ζb,T,ζb,d_]
    refine(RR N Zaa (by rw[U.1.1];exact V)).mono λw hw=>?_
    have⟨o2,k1,k2⟩:=put_eq (s:=o) (p:=i) (x:=w) Zaa
    rw[ζb,k1,ζb,bg];rw[<-hw]at P w1 w2 R;refine⟨cF n Zaa,by show o2.l.length=_;rw[k2,length_set];exact e1,λj Q=>by show o2.l[j]?=_;rw[k2,getElem?_set,if_neg (Ne.symm Q)];exact e2 j Q,w,by show o2.l[i]?=_;rw[k2,getElem?_set_self Zaa],.inr ⟨join_cons U y P,R _ W ar,λm' I z f C D d hd u=>?_,b.2.1,λe g=>R _ (b.2.2 e g) (ap e λd hd u=>g d hd (u.trans (zZ hp)))⟩⟩
    by_cases G:m'<n
    .exact(b.1 m' I z G C D d hd u).trans w1
    exact(O m' I z f G C D d hd u).trans w2
   rintro⟨o,_⟩ ⟨rfl,e1,e2,a,e3,e4⟩;simp only at e1 e2 e3;unfold dH.bU;dsimp only;rw[iY,bE,bg];have au:∀d,lp L (jO tb) d->dV d L[i]->∃(m' k:Nat)(z:ST),m'<l.l.length/\(zS L L[i])[m']?=some k/\L[k]?=some z/\dV d z:=λd hd u=>by have hD:=(B.mem _).1 hd.1;have aG:d≠L[i]:=λh=>(by have G:=hd.2;rw[h,om B.nodup J,H]at G;cases G);have⟨p,hp,Z,aH⟩:=Bc r hM B F L.length hD u aG Zaa;have hm:L.idxOf (bump L[i] p (-1))∈zS L L[i]:=Ci.2 ⟨p,hp,Z,rfl⟩;have⟨m',av⟩:=getElem?_of_mem hm;exact⟨m',_,_,by rw[ak];exact(ζe.1 av).1,av,ql Z,aH⟩
   refine(bg _).2 ⟨cF i Zaa,e1,λj c Q b=>?_,λj Q K=>by show o.l[j]?=_;rw[e2 j Zaa];exact g3 j Zaa K⟩
   show∃o',o.l[j]?=some o'/\_
   by_cases e:j=i
   .subst e;rw[J]at b;cases b;refine⟨a,e3,?_⟩;rcases e4 with⟨U,W⟩|⟨U,W,b⟩
    .exact .inl ⟨U,λd hd u=>by
      have⟨m',k,z,f,G,C,D⟩:=au d hd u;exact W m' k z f G C d hd D⟩
    exact .inr ⟨U,W,λd hd u=>by
     have⟨m',k,z,f,G,C,D⟩:=au d hd u;exact b.1 m' k z f G C d hd D,b.2⟩
   rw[e2 j e];exact g2 j c Zaa b
 rintro⟨out,_⟩ ⟨rfl,g1,g2,-⟩;unfold dH.br;dsimp only;rw[decide_eq_false Zaa,bE,bg]
 exact(bg _).2 ⟨g1,λi c b=>g2 i c (ζe.1 b).1 b⟩
end
section
variable{t:Z4}
theorem Sz(f:Small t)(E:(bR t).length<1073741824){p:Pred}(U:p.Sm):
 ∃r tb e,gW t p=some (r,tb,e)/\(e=0->dw t=some true/\∃(A:cu 200 bF)(_:VT t)(_:ga t (bR t) A)(L:aZ ST),eE t A L/\L.length<=5000/\ou t=some (r,0)/\ins r=L/\tb.l.length=L.length):=by
 have⟨e,j,G⟩:=X8 f E U;unfold gW;rw[j,ζb]
 by_cases I:e=0
 .subst I;have⟨g,a,J,m⟩:=G rfl;obtain⟨A,-,-,i⟩:=a.msgs;have hd:=J;simp only[uI,ζh,decide_eq_true_eq]at hd;unfold u_;rw[show((0:Int)==0)=true from rfl,bH,S0 J m,ζb];simp only;rw[show((0:Int)==0)=true from rfl,bH,ζb]
  cases d:th p.kind==2 with
  |false=>exact⟨_,_,14,rfl,λh=>by cases h⟩|true=>
   have d:th p.kind=2:=by simpa using d
   have F:9<=p.kind:=by unfold th at d;by_cases h:p.kind<=8;rw[if_pos h]at d;cases d;omega
   rw[show(!true)=false from rfl,bE,ζb,show((0:Int)==0)=true from rfl,bH,KU U,J,ζb]
   cases H:p.lM λq=> !BZ q with
   |false=>exact⟨_,_,15,rfl,λh=>by cases h⟩|true=>
    rw[show(true&& !true)=false from rfl,bE];rcases E6 f g a i with⟨L,r,s,u,O,B,-,k,-⟩|⟨B,-⟩
    .have Q:ou t=some (r,0):=by unfold ou;rw[B];rfl
     rw[Q,ζb];simp only;rw[show((0:Int)==0)=true from rfl,bH];have C:∀c∈r.l,∃l b,jf t c=some (l,0)/\eR ⟨t,c,l⟩ p=some b:=λc S=>by have v:Cons t A c.l:=(u.mem _).1 (by rw[<-k];exact qm.2 ⟨c,S,rfl⟩);have⟨⟨l,z⟩,j,W,G,X⟩:=ZU f g a i v;simp only at W G X;subst W;have⟨b,K⟩:=RA (⟨f,g,a,i,v,X⟩:UY t A c l) p m F Zaa H;exact⟨l,b,j,K 100000 Zaa⟩
     have T:r.l.length=L.length:=by rw[<-k,jE]
     have p1:Wp (gW.W1 r (Sl.nil:Sl X') r (len r) 0 t p) λw=>w.1=r/\w.2.1.l.length=r.l.length/\w.2.2=0:=by unfold gW.W1;refine eU r.l.length (λn s=>s.2=(n:Int)/\s.1.l.length=n) ⟨rfl,rfl⟩ ?_ ?_;rintro n ⟨o,_⟩ D ⟨e1,e2⟩;simp only at e1 e2;subst e1;have⟨l,b,M,x2⟩:=C _ (getElem_mem D);have⟨o2,k1,k2⟩:=mm (s:=o) (x:=b) Zaa;unfold gW.br;rw[jt D,bH,bJ D,ζb,M,ζb];simp only;rw[show((0:Int)==0)=true from rfl,bH,x2,ζb,k1,ζb,bg,cF n Zaa];exact⟨rfl,by show o2.l.length=_;rw[k2];simp[e2]⟩;rintro⟨o,_⟩ ⟨e1,e2⟩;simp only at e1 e2;subst e1;unfold gW.br;rw[iY,bE,bg];exact(bg _).2 ⟨rfl,e2,rfl⟩
     have⟨⟨w,tb,e⟩,N,Y,Z,y⟩:=p1;simp only at Y Z y;subst Y y;exact⟨_,tb,0,N,λ_=>⟨g,A,a,i,L,u,O,rfl,k,by rw[Z,T]⟩⟩
    have Q:ou t=some (.nil,16):=by unfold ou;rw[B];rfl
    rw[Q];exact⟨_,_,16,rfl,λh=>by cases h⟩
 rw[show(e==0)=false from by simpa using I,bE]
 exact⟨_,_,e,rfl,λh=>absurd h I⟩
variable{A:cu 200 bF}{L:aZ ST}{tb:Sl X'}{x:b9}
theorem VA(D:eE t A L)(W:L.length<=5000){r:Zb}(e:ins r=L)(U:tb.l.length=L.length):
 ∃o,eX.W1 tb (Sl.nil:Zb) r (len r) 0=some (o,0)/\o.l.length<=5000/\(∀y∈o.l,lp L (jO tb) y.l)/\∀d,lp L (jO tb) d->∃y∈o.l,y.l=d:=by
 have Q:r.l.length=L.length:=by rw[<-e,jE]
 have p1:Wp (eX.W1 tb (Sl.nil:Zb) r (len r) 0) λw=>w.2=0/\w.1.l.length<=5000/\(∀y∈w.1.l,lp L (jO tb) y.l)/\∀d,lp L (jO tb) d->∃y∈w.1.l,y.l=d:=by
  unfold eX.W1;refine eU r.l.length (λn(s:Zb×Int)=>s.2=(n:Int)/\s.1.l.length<=n/\(∀y∈s.1.l,lp L (jO tb) y.l)/\∀(i:Nat)c,i<n->L[i]?=some c->jO tb i=true->∃y∈s.1.l,y.l=c) ⟨rfl,le_refl _,λy C=>(by cases C),λi c h=>absurd h Zaa⟩ ?_ ?_;rintro n ⟨o,_⟩ B ⟨rfl,e1,e2,e3⟩;simp only at e1 e2 e3;have a:L[n]?=some r.l[n].l:=by rw[<-e];exact tY B
  unfold eX.br;dsimp only;rw[jt B,bH,bJ B,ζb,CF Zaa,ζb]
  cases J:jO tb n with
  |true=>have⟨o2,k1,k2⟩:=mm (s:=o) (x:=r.l[n]) Zaa;rw[bH,k1,ζb,bg];refine⟨cF n Zaa,by show o2.l.length<=_;rw[k2];simp;omega,λy C=>?_,λi c hi u G=>?_⟩;have C:y∈o2.l:=C;rw[k2,mem_append,List.mem_singleton]at C;rcases C with h|rfl;exact e2 y h;exact⟨mem_of_getElem? a,by rw[om D.nodup a];exact J⟩;show∃y∈o2.l,_;rw[k2];by_cases h:i=n;subst h;rw[a]at u;cases u;exact⟨_,mem_append.2 (.inr (List.mem_singleton.2 rfl)),rfl⟩;have⟨y,b,I⟩:=e3 i c Zaa u G;exact⟨y,mem_append.2 (.inl b),I⟩
  |false=>rw[bE,bg];refine⟨cF n Zaa,by show o.l.length<=_;omega,e2,λi c hi u G=>?_⟩;by_cases h:i=n;subst h;rw[J]at G;cases G;exact e3 i c Zaa u G
  rintro⟨o,_⟩ ⟨rfl,e1,e2,e3⟩;simp only at e1 e2 e3;unfold eX.br;dsimp only;rw[iY,bE,bg];refine(bg _).2 ⟨rfl,by show o.l.length<=_;omega,e2,λd hd=>?_⟩;have hi:=List.idxOf_lt_length_of_mem hd.1;exact e3 _ d Zaa (ql hd.1) hd.2
 have⟨⟨o,z⟩,b,I,O⟩:=p1;simp only at I O;subst I;exact⟨o,b,O⟩
theorem QI(a:VT t):Cons t A (replicate t.procs.l.length 0):=((Of (t:=t) (A:=A) (z:=.row (replicate t.procs.l.length 0)) rfl _).1 (by simp[ins,Sl.l])).1
theorem Bw(f:VT t)(g:ga t (bR t) A)(B:eE t A L){c d:ST}(b:L[0]?=some c)(D:Cons t A d):dV c d:=by have a:=(B.mem _).1 (mem_of_getElem? b);have u:c.length=d.length:=a.1.1.trans D.1.1.symm;have w:=oC.of tA u;obtain⟨C,z,-⟩:=w.le_min u;have G:=Hu a D w;by_cases e:zipWith tA c d=c;rw[e]at z;exact z;obtain⟨p,I,J,-⟩:=Bc f g B a L.length G C e Zaa;exact absurd (P_ B b (Ci.2 ⟨p,I,J,rfl⟩)) Zaa
theorem Bm(f:VT t)(g:ga t (bR t) A)(B:eE t A L){i:Nat}{c d:ST}(hi:i+1=L.length)(b:L[i]?=some c)(D:Cons t A d):dV d c:=by have a:=(B.mem _).1 (mem_of_getElem? b);have u:c.length=d.length:=a.1.1.trans D.1.1.symm;have w:=oC.of qz u;obtain⟨z,C,-⟩:=w.le_max u;have G:=join_cons a D w;by_cases e:dV (zipWith qz c d) c;exact C.trans e;obtain⟨p,I,J,-⟩:=Cm f g B a z (zipWith qz c d).sum.toNat G (dV.refl _) Zaa e;have:=Fk B b (zQ.2 ⟨p,I,J,rfl⟩);omega
theorem L_(a:VT t)(D:eE t A L)(G:x.truth=tb)(b:Ap L (lN x.index))(J:tb.l.length=L.length){out:Zb}(B:out.l.length<=5000)
 (U:∀z∈out.l,z=.nil\/(Cons t A z.l/\∃d,lp L (jO tb) d)){i:Nat}{o:Zg}(hi:out.l[i]?=some o):
 ∃q,lG x out (i:Int)=some q/\((q=(.nil,15)/\∃d,lp L (jO tb) d)\/(q=(.nil,7)/\o=.nil)\/∃w,q=(w,0)/\w.l=o.l/\lp L (jO tb) o.l):=by
 have Y:=a.ok.one;have C:=PC a D G b J (out:=out) B (λz I=>(U z I).imp id λh=>h.1)
 have O:idx out (i:Int)=some o:=by rw[kD];exact hi
 unfold lG;rw[C,ζb]
 cases Q:out.l.any λz=> !z.l.isEmpty&& !jO tb (L.idxOf z.l)with
 |true=>
  have⟨z,I,S⟩:=List.any_eq_true.1 Q;refine⟨_,rfl,.inl ⟨rfl,?_⟩⟩;rcases U z I with rfl|h
  .simp[Sl.l]at S
  exact h.2
 |false=>
  rw[show(!false)=true from rfl,bH,O,ζb];rcases U o (mem_of_getElem? hi)with rfl|⟨u,-⟩
  .exact⟨_,rfl,.inr (.inl ⟨rfl,rfl⟩)⟩
  have B:0<o.l.length:=by rw[u.1.1];omega
  have⟨w,k1,k2⟩:=u6 (c:=o) (by rw[u.1.1];have:=a.few;omega) B
  have T:=(D.mem _).2 u;have W:jO tb (L.idxOf o.l)=true:=by simp only[List.any_eq_false,ζh,Bool.not_eq_true,not_and,Bool.not_eq_false']at Q;have:=Q o (mem_of_getElem? hi);cases Z:jO tb (L.idxOf o.l)with|true=>rfl|false=>rw[Z]at this;cases X:o.l.isEmpty with|false=>rw[X]at this;simp at this|true=>rw[List.isEmpty_iff]at X;rw[X]at B;exact absurd B (by decide)
  rw[tO B,ζb,bE,ζb,k1];exact⟨_,rfl,.inr (.inr ⟨w,rfl,k2,T,W⟩)⟩
def Ext(L:aZ ST)(f:Nat->X')(R:ST->ST->Prop)(q:Zg×Int):Prop:=(q=(.nil,15)/\∃d,lp L f d)\/(q=(.nil,7)/\∀d,¬lp L f d)\/∃w,q=(w,0)/\lp L f w.l/\∀d,lp L f d->R w.l d
theorem Sh(k:Small t)(c:VT t)(e:ga t (bR t) A)(B:eE t A L)(g:L.length<=5000){p:Pred}{r:Zb}(s:o_ t p=some (tb,0))(y:ou t=some (r,0))(l:ins r=L)(D:tb.l.length=L.length):
 ∃W Y,uG t p=some W/\qB t p=some Y/\Ext L (jO tb) dV W/\Ext L (jO tb) (λa b=>dV b a) Y:=by
 obtain⟨R,E,x,rfl,V,x2,X,x4⟩:=T0 c B g l tb;have S:vW t p=some (some x,0):=by unfold vW;rw[s,ζb];simp only;rw[show((0:Int)==0)=true from rfl,bH,y,ζb];simp only;rw[show((0:Int)==0)=true from rfl,bH,E];rfl
 have T:0<L.length:=List.length_pos_of_mem ((B.mem _).2 (QI (A:=A) c));have I:ins x.l=L:=by rw[x2];exact l
 have Z:x.l.l.length=L.length:=by rw[<-I,jE]
 have⟨o1,a1,a2,a3⟩:=PN k c e B g I X x4 D;have⟨o2,F,b2,m⟩:=OX k c e B g I X x4 D;have C:=ζd T;have G:=ζd (show L.length-1<L.length by omega)
 have⟨u,H,n⟩:=a3 0 _ C;have⟨v,K,q⟩:=m _ _ G;have M:∀z∈o1.l,z=.nil\/(Cons t A z.l/\∃d,lp L (jO tb) d):=λz j=>by have⟨i,hi⟩:=getElem?_of_mem j;have N:=(ζe.1 hi).1;have⟨o,g1,g2⟩:=a3 i _ (ζd (show i<L.length by omega));rw[hi]at g1;cases g1;rcases g2 with⟨h,_⟩|⟨h,-,-,⟨d,hd,-⟩,-⟩;exact .inl h;exact .inr ⟨h,d,hd⟩
 have P:∀z∈o2.l,z=.nil\/(Cons t A z.l/\∃d,lp L (jO tb) d):=λz j=>by have⟨i,hi⟩:=getElem?_of_mem j;have N:=(ζe.1 hi).1;have⟨o,g1,g2⟩:=m i _ (ζd (show i<L.length by omega));rw[hi]at g1;cases g1;rcases g2 with⟨h,_⟩|⟨h,-,-,⟨d,hd,-⟩,-⟩;exact .inl h;exact .inr ⟨h,d,hd⟩
 have⟨W,p1,p2⟩:=L_ c B X x4 D Zaa M H
 have⟨Y,r1,r2⟩:=L_ c B X x4 D Zaa P K
 refine⟨W,Y,?_,?_,?_,?_⟩
 .unfold uG;rw[S,ζb];simp only;rw[show((0:Int)==0)=true from rfl,bH,ζb,a1,ζb,show(0:Int)=((0:Nat):Int)from rfl,p1];rfl
 .unfold qB;rw[S,ζb];simp only;rw[show((0:Int)==0)=true from rfl,bH,ζb,F,ζb,show len x.l=(L.length:Int)from by simp only[len,Z],eG _ Zaa Zaa,show(L.length:Int)-1=((L.length-1:Nat):Int)from Zaa,r1];rfl
 .rcases p2 with⟨h,hd⟩|⟨h,rfl⟩|⟨w,h,U,J⟩
  .exact .inl ⟨h,hd⟩
  .rcases n with⟨-,O⟩|⟨f,-⟩
   .exact .inr (.inl ⟨h,λd hd=>O d hd (Bw c e B C ((B.mem _).1 hd.1))⟩)
   have:=f.1.1;have:=c.ok.one;simp[Sl.l]at *;omega
  rcases n with⟨rfl,O⟩|⟨f,-,Q,-⟩
  .exact absurd (Bw c e B C ((B.mem _).1 J.1)) (O _ J)
  exact .inr (.inr ⟨w,h,by rw[U];exact J,λd hd=>by rw[U];exact Q d hd (Bw c e B C ((B.mem _).1 hd.1))⟩)
 rcases r2 with⟨h,hd⟩|⟨h,rfl⟩|⟨w,h,U,J⟩
 .exact .inl ⟨h,hd⟩
 .rcases q with⟨-,O⟩|⟨f,-⟩
  .exact .inr (.inl ⟨h,λd hd=>O d hd (Bm c e B Zaa G ((B.mem _).1 hd.1))⟩)
  have:=f.1.1;have:=c.ok.one;simp[Sl.l]at *;omega
 rcases q with⟨rfl,O⟩|⟨f,-,Q,-⟩
 .exact absurd (Bm c e B Zaa G ((B.mem _).1 J.1)) (O _ J)
 exact .inr (.inr ⟨w,h,by rw[U];exact J,λd hd=>by rw[U];exact Q d hd (Bm c e B Zaa G ((B.mem _).1 hd.1))⟩)
theorem QS(g:Small t)(q:(bR t).length<1073741824){p:Pred}(s:p.Sm):nX t p=some true:=by
 have⟨N,T⟩:=ZF g q s;have⟨r,tb,e,i,P⟩:=Sz g q s;unfold nX;rw[show xH=some true from rfl,ζb,bH,T,ζb];cases N with|false=>rfl|true=>
 rw[bH];by_cases U:e=0;subst U;have⟨hv,A,j,R,L,B,v,V,E,O⟩:=P rfl;have aa:=j.ok.one;have h8:=j.few;have⟨o,W,ab,C,Q⟩:=VA B v E O;have X:eX t p=some (o,0):=by unfold eX;rw[i,ζb];simp only;rw[show((0:Int)==0)=true from rfl,bH,W]
 have hT:o_ t p=some (tb,0):=by unfold o_;rw[i];rfl
 have⟨F,H,g1,g2,g3,g4⟩:=Sh g j R B v hT V E O;rw[X,ζb];simp only;rw[show((0:Int)==0)=true from rfl,bH,g1,ζb,g2,ζb];have G:∀w:Zg,lp L (jO tb) w.l->w.l.length<1073741824:=λw u=>by rw[((B.mem _).1 u.1).1.1];omega
 by_cases K:o.l.length=0;have D:∀d,¬lp L (jO tb) d:=λd hd=>by obtain⟨y,Y,-⟩:=Q d hd;exact absurd (List.length_pos_of_mem Y) Zaa
 rw[show(len o==0)=true from by simp[len,K],bH];rcases g3 with⟨-,d,hd⟩|⟨rfl,-⟩|⟨w,-,u,-⟩;exact absurd hd (D d);rcases g4 with⟨-,d,hd⟩|⟨rfl,-⟩|⟨w,-,u,-⟩;exact absurd hd (D d);rfl;exact absurd u (D _);exact absurd u (D _);have h0:0<o.l.length:=Zaa;have c:∃d,lp L (jO tb) d:=⟨(o.l[0]).l,C _ (getElem_mem h0)⟩;rw[show(len o==0)=false from by simpa[len]using K,bE];have M:∀w:Zg,lp L (jO tb) w.l->gT w o=some true:=λw u=>by unfold gT;rw[pK (p:=λz=>kH z w) (f:=λz=>decide (w.l=z.l)) (λz _=>by show((eZ w z).bind λx=>some x)=_;rw[Kl (G w u)];rfl) Zaa,ζb];have⟨y,Y,Z⟩:=Q _ u;rw[List.any_eq_true.2 ⟨y,Y,by rw[Z];exact decide_eq_true rfl⟩]
 have k1:F=(.nil,15)\/∃w,F=(w,0)/\gT w o=some true/\dY o (λz=>kr z w)=some false:=by rcases g3 with⟨h,-⟩|⟨-,k⟩|⟨w,h,u,I⟩;exact .inl h;have⟨d,hd⟩:=c;exact absurd hd (k d);refine .inr ⟨w,h,M w u,?_⟩;rw[pK (p:=λz=>kr z w) (f:=λ_=>false) (λz S=>by have⟨b,l,J⟩:=(YR (a:=w) (b:=z) (G w u)).eq;show((qj w z).bind λx=>some (!x))=_;rw[l,J.2 (I _ (C z S))];rfl) Zaa];simp
 have k2:H=(.nil,15)\/∃w,H=(w,0)/\gT w o=some true/\dY o (λz=>kq z w)=some false:=by rcases g4 with⟨h,-⟩|⟨-,k⟩|⟨w,h,u,I⟩;exact .inl h;have⟨d,hd⟩:=c;exact absurd hd (k d);refine .inr ⟨w,h,M w u,?_⟩;rw[pK (p:=λz=>kq z w) (f:=λ_=>false) (λz S=>by have⟨b,l,J⟩:=(YR (a:=z) (b:=w) (G z (C z S))).eq;show((qj z w).bind λx=>some (!x))=_;rw[l,J.2 (I _ (C z S))];rfl) Zaa];simp
 rcases k1 with rfl|⟨w1,rfl,m1,m2⟩;rcases k2 with rfl|⟨w2,rfl,m,n⟩;rfl;simp only[m,n];rfl;simp only[m1,m2];rcases k2 with rfl|⟨w2,rfl,m,n⟩;rfl;simp only[m,n];rfl;have X:eX t p=some (.nil,e):=by unfold eX;rw[i,ζb];simp only;rw[show(e==0)=false from by simpa using U,bE]
 rw[X,ζb];simp only;rw[show(e==0)=false from by simpa using U,bE];rfl
end
end Go.VE
namespace Go.VE
theorem B9{α:Type}[cA α]{x:α}:∀{l:aZ α},x∈l->cA.wt x<=(l.map cA.wt).sum
 |y::l,h=>by simp only[map_cons,sum_cons];rcases mem_cons.1 h with rfl|h;omega;have:=B9 h;omega
theorem xZ{α:Type}[cA α](h:∀x:α,1<=cA.wt x):∀(l:aZ α),l.length<=(l.map cA.wt).sum
 |[]=>le_refl _|y::l=>by simp only[map_cons,sum_cons,length_cons];have:=xZ h l;have:=h y;omega
theorem Cu{α:Type}[cA α](s:Sl α):cA.wt s=(s.l.map cA.wt).sum+1:=rfl
theorem C2(p:Int):∀(es:aZ WF)(j:Int),(jk p j es).length=es.length
 |[],_=>rfl|_::es,j=>by simp only[jk,length_cons,C2 p es]
theorem KX:∀(ps:aZ bX)(i:Int),(gx i ps).length<=(ps.map cA.wt).sum
 |[],_=>le_refl _|p::ps,i=>by simp only[gx,ζi,C2,map_cons,sum_cons];have a:=KX ps (i+1);have u:=xZ (α:=WF) (λx=>le_add_left ..) p.events.l;have w:cA.wt p=cA.wt p.name+cA.wt p.vars+cA.wt p.events+1:=rfl;have z:=Cu p.events;omega
theorem RX{t:Z4}(h:cA.wt t<=1048576):Small t/\(bR t).length<1073741824:=by have b:cA.wt t=cA.wt t.procs+1:=rfl;have c:=Cu t.procs;have B:=xZ (α:=bX) (λx=>le_add_left ..) t.procs.l;have C:=KX t.procs.l 0;refine⟨⟨Zaa,λp u=>?_⟩,by show(gx 0 t.procs.l).length<_;omega⟩;have D:=B9 u;have G:cA.wt p=cA.wt p.name+cA.wt p.vars+cA.wt p.events+1:=rfl;have I:=Cu p.events;have J:=Cu p.vars;have L:=xZ (α:=WF) (λx=>le_add_left ..) p.events.l;have O:=xZ (α:=Var) (λx=>le_add_left ..) p.vars.l;have w:cA.wt p.name=p.name.size+1:=rfl;refine⟨Zaa,Zaa,Zaa,λv a=>?_,λe z=>?_⟩;have k1:=B9 a;have k2:cA.wt v=cA.wt v.name+cA.wt v.init_+1:=rfl;have k3:cA.wt v.name=v.name.size+1:=rfl;omega;have k1:=B9 z;have k2:cA.wt e=cA.wt e.kind+cA.wt e.peer+cA.wt e.message+cA.wt e.time+cA.wt e.assign+1:=rfl;have k3:=Cu e.assign;have k4:=xZ (α:=Assign) (λx=>le_add_left ..) e.assign.l;omega
theorem ZN(p:Pred):cA.wt p<=1048576->p.Sm:=by induction p using Pred.ind with|h p w=>intro h;have a:∃m,cA.wt p=m+Pred.UW p.l+1:=(by cases p;exact⟨_,rfl⟩);have⟨m,a⟩:=a;have b:=Pred.wtE p.l;have z:=Cu p.l;have B:=xZ (α:=Pred) (λx=>by cases x;exact le_add_left ..) p.l.l;unfold Pred.Sm;rw[p.pq,ζh,all_eq_true];refine⟨decide_eq_true Zaa,λq u=>w q u ?_⟩;have:=B9 u;omega
end Go.VE
namespace Go.Proofs.YtfjedefhlilglaaGreatDoor
open Go.ChangeShapes Go.WideShapes Go.ChangeAt Go.RowKit Go.VE
theorem own:ownKnob Tryz.prog.godebug=none:=by kernel_rfl
theorem kids:Kids Tryz.prog (·<Tryz.prog.types.size):=kids_rows Zag Zag
theorem full:∀t e,t<Tryz.prog.types.size->Tryz.prog.underlying t=some (.slice e)->0<Tryz.prog.cellsOf e:=slices_full_of Tryz.prog Zag
theorem zM{H:Type}:∀l:aZ (DataW H),Rows.uptoBulkAll l=(l.map Rows.uptoBulk).sum
 |[]=>by simp[Rows.uptoBulkAll]|d::r=>by simp[Rows.uptoBulkAll,zM r]
theorem Rg{H:Type}:uC (H:=H) Rows.uptoBulk where
 lit l:=by cases l<;>simp[Rows.uptoBulk]
 str s:=by simp[Rows.uptoBulk]
 nil:=by simp[Rows.uptoBulk]
 slice es u:=by rw[Rows.uptoBulk,zM,zM];omega
 agg ps:=by rw[Rows.uptoBulk,zM];exact le_refl _
theorem Ns:Tryz.prog.globalNamed "antecede/predtype.parts" =some 0:=by kernel_rfl
theorem SS:(Tryz.prog.globals[0]?).map (·.type)=some 226:=by kernel_rfl
theorem table{W:World}(h:laidMetH Tryz.prog Rows.linearLeastUptoRow.laid W):Lib.TabIs Tryz.prog W "antecede/predtype.parts" .i64 Fv:=Lib.tabIs_of_head (rest:=[]) Ns SS Tryz.underlying226 Tryz.underlying3 Zag Zag h
theorem Zm{W:World}(h:laidMetH Tryz.prog Rows.linearLeastUptoRow.laid W):vv (snap W):=λg cs a=>by
 change(if Nat.beq g 0 then some (Fv.map (V.int .i64))else none)=some cs at a;split at a;next u=>cases a;have:g=0:=Nat.eq_of_beq_eq_true u;subst this;exact Sr (λi hi=>(table h).cell Ns i hi) (by decide)
 cases a
set_option maxRecDepth 100000 in
theorem Lw(H:Type)(enc:W'×V'->H)(W:World)(base:Nat)(args:Array V')(ds a:aZ (DataW H))(before:aZ MemPlace)
 (B:∀(j:Nat)t v,Tryz.f7.params[j]?=some t->args[j]?=some v->Value.okWide Tryz.prog W .any base t v)
 (D:DataW.Whole enc Tryz.prog Tryz.f7.params.toList Rows.linearLeastSpec.vars false W args.toList ds a before)(b:Rows.uptoSmall H (ds++a)=true)(U:laidMetH Tryz.prog Rows.linearLeastUptoRow.laid W):
 Calls Tryz.prog 7 args W λe G=>∃v,e=.returned v/\Rows.linearLeastSpec.post enc Tryz.prog Tryz.f7 false true false false W args v G:=by
 have u:=D;obtain⟨p,q,z,c,rfl,Q,S⟩:=D;have I:DataW.TrodAll enc Tryz.prog W 0 (λ_=>true) true Tryz.f7.params.toList args.toList ds p:=z
 rw[Tryz.params7]at I B;obtain⟨J,T,X,Y,E,F,C,rfl,rfl,d,Z⟩:=trodAll_cons I;obtain⟨L,K,g,M,p1,N,rfl,rfl,rfl,h,r1⟩:=trodAll_cons Z;obtain⟨rfl,rfl,rfl⟩:=trodAll_nil r1;obtain rfl:args=#[J,L]:=by cases args;simp_all
 obtain⟨rfl,rfl⟩:=trodVars_none c;have⟨a0,i,k0,k⟩:=Reads.Ur (t:=24) (α:=VE.Trace) B 0 rfl rfl d;have⟨a1,l,k1,m⟩:=Reads.Ur (t:=28) (α:=VE.Pred) B 1 rfl rfl h;have R:cA.wt a0+cA.wt a1<=1048576:=by have c0:=k Rows.uptoBulk Rg;have c1:=m Rows.uptoBulk Rg;have O:Rows.uptoBulkAll ([X,g]++[])<=1048576:=of_decide_eq_true b;rw[zM]at O;simp only[List.append_nil,map_cons,List.map_nil,sum_cons,List.sum_nil]at O;omega
 have⟨n,o⟩:=RX (t:=a0) Zaa
 have s:jT cL 7 [VE.enc a0,VE.enc a1]=some [.bool true]:=by have x:(nX a0 a1).bind (λr:X'=>some [V.bool r])=some [.bool true]:=(by rw[QS n o (ZN a1 Zaa)];rfl);exact(Ad a0 a1).F.h () _ x
 have:=OD (P:=Tryz.prog) IA CJ calls (f:=7) (xs:=[VE.enc a0,VE.enc a1]) (by simp[V.cH,V.good,j8]) s (w:=W) (args:=#[J,L]) (Zm U) (cT.cons i (cT.cons l .nil))
 refine this.mono λe G⟨y,A⟩=>?_
 subst y;exact⟨_,rfl,P9 kids full (by rw[Tryz.params7];decide) rfl rfl rfl Tryz.underlying4 u A⟩
noncomputable def Bj(os:Os):World:=
 {World.holding Tryz.prog os ⟨#[],#[],[]⟩with heap:=(World.holding Tryz.prog os ⟨#[],#[],[]⟩).heap.modify 0 fun
  |.cells _ t frozen=>.cells (Fv.map (Value.int .i64)).toArray t frozen|o=>o}
theorem SY(os:Os):laidMet Tryz.prog Rows.linearLeastUptoRow.laid ((Bj os).forCall (λ_ _=>0) ⟨#[],#[.agg #[.slice none 0 0],.agg #[.int .i64 0,.int .i64 0,.int .i64 0,.int .i64 0,.string ByteArray.empty,.slice none 0 0]],[]⟩).memory:=laidMet_of_run' 8 Zag Zag
theorem TI(os:Os){H:Type}(enc:W'×V'->H):∃places,DataW.whole enc Tryz.prog ((Bj os).forCall (λ_ _=>0) ⟨#[],#[.agg #[.slice none 0 0],.agg #[.int .i64 0,.int .i64 0,.int .i64 0,.int .i64 0,.string ByteArray.empty,.slice none 0 0]],[]⟩).memory Tryz.f7.params.toList Rows.linearLeastSpec.vars false (#[.agg #[.slice none 0 0],.agg #[.int .i64 0,.int .i64 0,.int .i64 0,.int .i64 0,.string ByteArray.empty,.slice none 0 0]]:Array V').toList 8=some ([.agg [.nil],.agg [.lit (.int .i64 0),.lit (.int .i64 0),.lit (.int .i64 0),.lit (.int .i64 0),.lit (.string []),.nil]],[],places):=⟨[],by kernel_rfl⟩
set_option maxRecDepth 100000 in
theorem QX(os:Os)(B:os.Started)(H:Type)(enc:W'×V'->H)(F:Stop.Interp):
 ReturnsInHanded {} Tryz.checked os 7 .any ((Rows.OpenSpec.upto Rows.linearLeastSpec).preRow enc Tryz.prog Tryz.f7 Rows.linearLeastUptoRow.domain false Rows.linearLeastUptoRow.laid) (((Rows.OpenSpec.upto Rows.linearLeastSpec).at F).post enc Tryz.prog Tryz.f7 false true false false):=by
 have⟨places,z⟩:=TI os enc;refine returnsInHanded_of_row (C:=Tryz.checked) (s:=Rows.OpenSpec.upto Rows.linearLeastSpec) own B Zag Tryz.func7
  (witness_row_at (enc:=enc) (C:=Tryz.checked) false (Bj os) #[.agg #[.slice none 0 0],.agg #[.int .i64 0,.int .i64 0,.int .i64 0,.int .i64 0,.string ByteArray.empty,.slice none 0 0]] rfl Zag Zag Zag
   (OpenSpec.preRow_of_cond 8 z Zag (λk a=>by cases a;kernel_rfl) Zag (SY os))) ?_
 intro W base args ds b before w D _ u _ G _ _;exact Lw H enc W base args ds b before w D (u _ rfl) G
theorem Vn:Rows.LinearLeastUptoSaid:=
 OpenClaim.holds_of_cond 7 Tryz.f7 rfl rfl rfl rfl rfl rfl rfl ⟨rfl,rfl,rfl,rfl,rfl⟩ rfl rfl rfl rfl rfl Zag Tryz.func7 Zag
  (of_decide_eq_true Zag) (by unfold Func.isWrapper;first|(rw[if_pos (by decide+kernel)];kernel_rfl)|(rw[if_neg (by decide+kernel)];exact⟨rfl,rfl⟩))
  (λos u H enc _ F=>by rw[OpenClaim.pre_eq_preRow];exact QX os u H enc F)
theorem Tl(f:Y')(fn:Func)(D:Tryz.pinned.checked.prog.funcNamed "antecede/antecedelaw32.LinearLeast" =some f)(B:Tryz.pinned.checked.prog.funcs[f]?=some fn):
 false=Tryz.pinned.checked.prog.looks []/\∀(j:Nat)t,fn.params[j]?=some t->Tryz.pinned.checked.prog.wantsStandIn t=false:=by
 obtain rfl:f=7:=Option.some.inj ((show Tryz.prog.funcNamed "antecede/antecedelaw32.LinearLeast" =some 7 by kernel_rfl).symm.trans D)|>.symm
 obtain rfl:fn=Tryz.f7:=(Option.some.inj (Tryz.func7.symm.trans B)).symm;refine⟨by kernel_rfl,λj t z=>?_⟩
 rw[Tryz.params7]at z;have C:t∈[24,28]:=by simpa using Array.mem_of_getElem? z
 have w:([24,28].all λu=> !Tryz.prog.wantsStandIn u)=true:=by kernel_rfl
 exact(show Tryz.prog.wantsStandIn t=false by simpa using all_eq_true.1 w t C)
theorem linearLeastProved:Rows.LinearLeastUptoCardSaid:=Claim7.holds_tied_plain_at .later [] _ _ _ _ Vn (λ_ h=>by cases h) Zag (λ_ h=>by cases h) linearLeastUpto_row_tie rfl ⟨rfl,rfl⟩ Zag rfl Tl Zag
#print axioms linearLeastProved
end Go.Proofs.YtfjedefhlilglaaGreatDoor
