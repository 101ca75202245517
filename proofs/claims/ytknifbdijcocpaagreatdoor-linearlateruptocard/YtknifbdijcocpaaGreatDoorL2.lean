/-
 LinearLater says true for all arguments that together are of bulk at most 1048576, and they read behind the call as they read before: for every such argument, without a condition.
-/
import Derived.Test.YtknifbdijcocpaaGreatDoorRows
import Derived.Test.YtknifbdijcocpaaGreatDoorCards
import Derived.Test.YtknifbdijcocpaaGreatDoorTie
import Derived.Deep.DeepHandedRow
import Derived.Test.YtknifbdijcocpaaGreatDoorK1
import Derived.Test.YtknifbdijcocpaaGreatDoorL1
set_option linter.all false
open List(all_cons all_eq_true any_cons getElem?_eq_none getElem?_set getElem_mem length_cons length_set map_cons mem_append mem_cons mem_cons_of_mem mem_of_getElem? not_mem_nil range sum_cons take_add_one take_length zipWith)
open Int(le_refl mul_comm zero_sub)
open Bool(false_eq_true not_not)
open Classical(byContradiction)
open Nat(le_add_left zero_le)
open ByteArray(toList)
open Go.IntKind(wrap)
namespace Go.VE
theorem Zaf{p:Prop}(h:p:=by kernel_rfl):p:=h
theorem yC{α:Type}{s:Sl α}(h:0<s.l.length):Sl.isNil s=some false:=by cases s with|nil=>exact absurd h (Nat.lt_irrefl 0)|emp=>exact absurd h (Nat.lt_irrefl 0)|row l=>rfl|part l=>rfl
theorem Wx(x y:Int):oS (Sl.row [x,y])=some (uD x y):=by
 have h:Wp (dz (Sl.row [x,y])) λm=>m=if y<x then y else x:=by unfold dz;rw[show decide (len (Sl.row [x,y])<1)=false from rfl,bE];unfold dz.J1;rw[show idx (Sl.row [x,y]) 0=some x from rfl,ζb];unfold dz.W2;refine fH 1 (λi(q:Int×Int)=>(i=0/\q=(x,1))\/(i=1/\q=(if y<x then y else x,2))) (.inl ⟨rfl,rfl⟩) ?_ ?_;rintro i ⟨m,k⟩ hi (⟨rfl,e⟩|⟨rfl,e⟩);cases e;unfold dz.bV;dsimp only;rw[show decide ((1:Int)<len (Sl.row [x,y]))=true from rfl,bF,show idx (Sl.row [x,y]) 1=some y from rfl,ζb,bf];exact .inr ⟨rfl,rfl⟩;omega;rintro⟨m,k⟩ (⟨h,_⟩|⟨_,e⟩);cases h;cases e;unfold dz.bV;dsimp only;rw[show decide ((2:Int)<len (Sl.row [x,y]))=false from rfl,bE,bf];exact(bf _).2 rfl
 unfold oS;obtain⟨m,a,u⟩:=h;rw[a,u];unfold uD;refine congrArg some ?_;by_cases h:y<x
 .rw[if_pos h];try split
  all_goals omega
 rw[if_neg h];try split
 all_goals omega
theorem WE{a b:Sl Int}(J:a.l.length=b.l.length)(g:0<a.l.length)(U:a.l.length<=8):Wp (gQ (Sl.row [a,b]) (λz=>oS z)) λo=>o.l=zipWith uD a.l b.l:=by
 have D:=qh.of uD J;unfold gQ;obtain⟨d,l,u⟩:=zY (c:=a) Zaa g;obtain⟨v,I,G⟩:∃v,gj (Sl.row [a,b]) (some 1) none=some v/\v.l=[b]:=C3 (Sl.row [a,b]) 1 (Nat.le_succ 1);rw[show idx (Sl.row [a,b]) 0=some a from rfl,ζb,l,ζb,I,ζb];unfold gQ.W1;have f:len v=1:=by simp only[len,G];rfl
 have hi:idx v 0=some b:=by unfold idx;rw[if_pos (by decide),G];rfl
 refine fH 1 (λi(q:Sl Int×Int)=>(i=0/\q=(d,0))\/(i=1/\q.1.l=zipWith uD a.l b.l/\q.2=1)) (.inl ⟨rfl,rfl⟩) ?_ ?_;rintro i ⟨o,k⟩ L (⟨rfl,e⟩|⟨rfl,-,-⟩);cases e;unfold gQ.bp;dsimp only;rw[f,show decide ((0:Int)<1)=true from rfl,bF,hi,ζb];unfold gQ.W2;refine fH d.l.length (λn(q:Sl Int×Int)=>q.2=(n:Int)/\q.1.l.length=a.l.length/\∀j:Nat,q.1.l[j]?=if j<n then(zipWith uD a.l b.l)[j]?else a.l[j]?) ⟨rfl,by rw[u],λj=>by rw[if_neg Zaa,u]⟩ ?_ ?_;rintro n ⟨o,_⟩ O ⟨rfl,g1,g2⟩;simp only at g1 g2;have w:n<a.l.length:=by rw[<-u];exact O
 have B:n<b.l.length:=Zaa;unfold gQ.bV;dsimp only;rw[show decide ((n:Int)<len d)=true from by simp only[len,decide_eq_true_eq];omega,bF,xz Zaa,ζb];unfold Sl.get;rw[g2 n,if_neg Zaa,ζd w,ζb,bG B,ζb,Wx,ζb,ζb];obtain⟨o2,k1,k2⟩:=put_eq (s:=o) (p:=n) (x:=uD a.l[n] b.l[n]) Zaa;rw[k1,ζb,bf];refine⟨cR n Zaa,by show o2.l.length=_;rw[k2,length_set];exact g1,λj=>?_⟩;show o2.l[j]?=_;rw[k2,getElem?_set];by_cases e:n=j;subst e;rw[if_pos rfl,if_pos Zaa,if_pos Zaa,D.2 n _ _ (ζd w) (ζd B)];rw[if_neg e,g2 j];by_cases C:j<n;rw[if_pos C,if_pos Zaa];rw[if_neg C,if_neg Zaa];rintro⟨o,_⟩ ⟨rfl,g1,g2⟩;simp only at g1 g2;unfold gQ.bV;dsimp only;rw[jQ,bE,bf];refine(bf _).2 (.inr ⟨rfl,List.ext_getElem? λj=>?_,rfl⟩);rw[g2 j];by_cases C:j<d.l.length;rw[if_pos C];rw[if_neg C,getElem?_eq_none (by rw[<-u];omega),getElem?_eq_none (by rw[D.1,<-u];omega)];omega;rintro⟨o,k⟩ (⟨h,_⟩|⟨_,e,e2⟩);cases h;simp only at e e2;subst e2;unfold gQ.bp;dsimp only;rw[f,show decide ((1:Int)<1)=false from rfl,bE,bf];exact(bf _).2 e
theorem ig.same{a b:L' Int}(h:ig a b)(k:ig b a):a=b:=by refine List.ext_getElem h.1 λj c u=>?_;have:=h.2 j _ _ (ζd c) (ζd u);have:=k.2 j _ _ (ζd u) (ζd c);omega
def DV(L:L' (L' Int))(f:Nat->Bool)(d:L' Int):Prop:=d∈L/\f (L.idxOf d)=true
section
variable{t:Trace}{A:cq 200 bD}{L:L' (L' Int)}{tb:Sl Bool}{x:cz}
def Low(t:Trace)(A:cq 200 bD)(L:L' (L' Int))(f:Nat->Bool)(c:L' Int)(o:Sl Int):Prop:=(o=.nil/\∀d,DV L f d->¬ig c d)\/(Cons t A o.l/\ig c o.l/\∀d,DV L f d->ig c d->ig o.l d)
theorem VA{c:L' Int}{p:Nat}(h:p<c.length):ig c (bump c p 1):=⟨Ai.symm,λq x y w u=>by
 rw[DE (ζd h)]at u
 by_cases e:p=q
 .subst e;rw[if_pos rfl]at u;cases u;rw[ζd h]at w;cases w;omega
 rw[if_neg e,w]at u;cases u;exact le_refl _⟩
theorem Pb(hS:Small t)(l:VT t)(hM:fR t (bO t) A)(D:fJ t A L)(h5:L.length<=5000)(r:ins x.l=L)(au:x.truth=tb)(hx:Fh L (m_ x.index))(aE:tb.l.length=L.length):
 Wp (dI x) λout=>out.l.length=L.length/\∀(i:Nat)c,L[i]?=some c->∃o,out.l[i]?=some o/\Low t A L (vv tb) c o:=by
 have K:=l.few;have aD:=l.ok.one;have av:x.l.l.length=L.length:=by rw[<-r,lX]
 unfold dI;have aw:len x.l=(L.length:Int):=by simp only[len,av]
 rw[aw,show tV (L.length:Int) (Sl.nil:Sl Int)=some (.row (List.replicate L.length Sl.nil))from by unfold tV;rw[if_pos ⟨Zaa,Zaa⟩];rfl,ζb,eF _ Zaa Zaa]
 unfold dI.W1;refine fH L.length (λm(q:Sl (Sl Int)×Int)=>q.2=(L.length:Int)-1-(m:Int)/\q.1.l.length=L.length/\(∀(j:Nat)c,L.length-m<=j->L[j]?=some c->∃o,q.1.l[j]?=some o/\Low t A L (vv tb) c o)/\∀j:Nat,j<L.length-m->q.1.l[j]?=some .nil)
  ⟨Zab,by simp[Sl.l],λj c Q b=>absurd (ζe.1 b).1 Zaa,λj Q=>by
   show(List.replicate L.length (Sl.nil:Sl Int))[j]?=_;rw[List.getElem?_replicate,if_pos Zaa]⟩ ?_ ?_
 .rintro m ⟨out,_⟩ hm ⟨rfl,g1,g2,g3⟩;simp only at g1 g2 g3;obtain⟨i,hi⟩:∃i:Nat,i+m+1=L.length:=⟨L.length-1-m,Zaa⟩
  have M:i<L.length:=Zaa
  have O:=ζd M;have v:=(D.mem _).1 (getElem_mem M);unfold dI.bp;dsimp only;rw[show(L.length:Int)-1-(m:Int)=(i:Int)from Zaa,decide_eq_true (show(i:Int)>=0 by omega),bF,au,LU Zaa,ζb,show(i:Int)-1=(L.length:Int)-1-((m+1:Nat):Int)from Zaa]
  cases hf:vv tb i with
  |true=>
   have N:i<x.l.l.length:=Zaa
   have y:x.l.l[i].l=L[i]:=by have:=zH N;rw[r,O]at this;exact(Option.some.inj this).symm
   obtain⟨o2,k1,k2⟩:=put_eq (s:=out) (p:=i) (x:=x.l.l[i]) Zaa
   rw[bF,bG N,ζb,xz Zaa,ζb,k1,ζb,bf]
   refine⟨eF _ Zaa Zaa,by show o2.l.length=_;rw[k2,length_set];exact g1,λj c Q b=>?_,λj Q=>?_⟩
   .show ∃o,o2.l[j]?=some o/\_;rw[k2,getElem?_set]
    by_cases e:i=j
    .subst e;rw[O]at b;cases b;exact⟨_,by rw[if_pos rfl,if_pos Zaa],.inr ⟨by rw[y];exact v,by rw[y];exact ig.refl _,λd _ hd=>by rw[y];exact hd⟩⟩
    rw[if_neg e];exact g2 j c Zaa b
   show o2.l[j]?=_;rw[k2,getElem?_set,if_neg Zaa];exact g3 j Zaa
  |false=>
   rw[bE,ec];refine(Vt hS l D r hx O).mono λg P=>?_
   have R:g.l.length=(wq L L[i]).length:=by rw[P,List.length_map]
   have aF:g.l.length<=8:=by rw[R];have:=List.length_filterMap_le (λp=>if bump L[i] p 1∈L then some (L.idxOf (bump L[i] p 1))else none) (range L[i].length);rw[List.length_range]at this;exact Nat.le_trans this (by rw[v.1.1];exact K)
   unfold dI.W2;refine fH g.l.length (λn(q:Sl (Sl Int)×Int)=>q.2=(n:Int)/\q.1.l.length=L.length/\(∀j:Nat,j≠i->q.1.l[j]?=out.l[j]?)/\∃a,q.1.l[i]?=some a/\
    ((a=.nil/\∀(m' k:Nat)z,m'<n->(wq L L[i])[m']?=some k->L[k]?=some z->∀d,DV L (vv tb) d->¬ig z d)\/
     (Cons t A a.l/\ig L[i] a.l/\∀(m' k:Nat)z,m'<n->(wq L L[i])[m']?=some k->L[k]?=some z->∀d,DV L (vv tb) d->ig z d->ig a.l d)))
    ⟨rfl,g1,λ_ _=>rfl,.nil,g3 i Zaa,.inl ⟨rfl,λm' k z h=>absurd h Zaa⟩⟩ ?_ ?_
   .rintro n ⟨o,_⟩ hn ⟨rfl,e1,e2,a,e3,e4⟩;simp only at e1 e2 e3;have V:n<(wq L L[i]).length:=by omega
    have W:=ζd V;have E:=getElem_mem V;generalize hk:(wq L L[i])[n]=k at W E;obtain⟨p,hp,X,ax⟩:=FC.1 E;have Y:L[k]?=some (bump L[i] p 1):=by rw[ax];exact wY X
    have aG:i<k:=(Pq D O E).1;have aH:=(ζe.1 Y).1;obtain⟨ok,ay,al⟩:=g2 k _ Zaa Y
    have am:idx g (n:Int)=some (k:Int):=by rw[kJ,P,List.getElem?_map,W];rfl
    have S:o.l[k]?=some ok:=by rw[e2 k Zaa];exact ay
    unfold dI.bV;dsimp only;rw[jP hn,bF,am,ζb,xz Zaa,ζb]
    unfold Sl.get;rw[S,ζb];rcases al with⟨rfl,an⟩|⟨Z,u,aA⟩
    .rw[show Sl.isNil (Sl.nil:Sl Int)=some true from rfl,ζb,bF,bf];refine⟨cR n Zaa,e1,e2,a,e3,?_⟩
     have J:∀(m' I:Nat)z,m'<n+1->¬m'<n->(wq L L[i])[m']?=some I->L[I]?=some z->z=bump L[i] p 1:=λm' I z f G B C=>by obtain rfl:m'=n:=Zaa;rw[W]at B;cases B;rw[Y]at C;exact(Option.some.inj C).symm
     rcases e4 with⟨T,U⟩|⟨T,U,b⟩
     .refine .inl ⟨T,λm' I z f B C d hd=>?_⟩
      by_cases G:m'<n
      .exact U m' I z G B C d hd
      rw[J m' I z f G B C];exact an d hd
     refine .inr ⟨T,U,λm' I z f B C d hd u=>?_⟩
     by_cases G:m'<n
     .exact b m' I z G B C d hd u
     rw[J m' I z f G B C]at u;exact absurd u (an d hd)
    have ao:0<ok.l.length:=by rw[Z.1.1];omega
    have ap:=(VA hp).trans u;have J:∀(m' I:Nat)z,m'<n+1->¬m'<n->(wq L L[i])[m']?=some I->L[I]?=some z->∀d,DV L (vv tb) d->ig z d->ig ok.l d:=λm' I z f G B C d hd u=>by obtain rfl:m'=n:=Zaa;rw[W]at B;cases B;rw[Y]at C;cases C;exact aA d hd u
    rw[yC ao,ζb,bE,xz Zaa,ζb,e3,ζb]
    rcases e4 with⟨rfl,U⟩|⟨T,U,b⟩
    .obtain⟨o2,k1,k2⟩:=put_eq (s:=o) (p:=i) (x:=ok) Zaa
     rw[show Sl.isNil (Sl.nil:Sl Int)=some true from rfl,ζb,bF,ζb,S,ζb,ζb,k1,ζb,bf];refine⟨cR n Zaa,by show o2.l.length=_;rw[k2,length_set];exact e1,λj Q=>by show o2.l[j]?=_;rw[k2,getElem?_set,if_neg (Ne.symm Q)];exact e2 j Q,ok,by show o2.l[i]?=_;rw[k2,List.getElem?_set_self Zaa],.inr ⟨Z,ap,λm' I z f B C d hd u=>?_⟩⟩
     by_cases G:m'<n
     .exact absurd u (U m' I z G B C d hd)
     exact J m' I z f G B C d hd u
    have F:a.l.length=ok.l.length:=T.1.1.trans Z.1.1.symm;have H:=qh.of uD F;obtain⟨w1,w2,w3⟩:=H.le_min F;rw[yC (show 0<a.l.length by omega),ζb,bE,ζb,e3,ζb,ζb,S,ζb,ec]
    refine(WE F Zaa (by rw[T.1.1];exact K)).mono λw hw=>?_
    obtain⟨o2,k1,k2⟩:=put_eq (s:=o) (p:=i) (x:=w) Zaa
    rw[ζb,k1,ζb,bf];rw[<-hw]at H w1 w2 w3;refine⟨cR n Zaa,by show o2.l.length=_;rw[k2,length_set];exact e1,λj Q=>by show o2.l[j]?=_;rw[k2,getElem?_set,if_neg (Ne.symm Q)];exact e2 j Q,w,by show o2.l[i]?=_;rw[k2,List.getElem?_set_self Zaa],.inr ⟨QD T Z H,w3 _ U ap,λm' I z f B C d hd u=>?_⟩⟩
    by_cases G:m'<n
    .exact w1.trans (b m' I z G B C d hd u)
    exact w2.trans (J m' I z f G B C d hd u)
   rintro⟨o,_⟩ ⟨rfl,e1,e2,a,e3,e4⟩;simp only at e1 e2 e3;unfold dI.bV;dsimp only;rw[jQ,bE,bf];have aq:∀d,DV L (vv tb) d->ig L[i] d->∃(m' k:Nat)(z:L' Int),m'<g.l.length/\(wq L L[i])[m']?=some k/\L[k]?=some z/\ig z d:=λd hd u=>by have hD:=(D.mem _).1 hd.1;have aB:¬ig d L[i]:=λh=>(by have:d=L[i]:=ig.same h u;have G:=hd.2;rw[this,BG D.nodup O,hf]at G;cases G);obtain⟨p,hp,X,aC⟩:=L4 l hM D v u d.sum.toNat hD (ig.refl d) Zaa aB;have hm:L.idxOf (bump L[i] p 1)∈wq L L[i]:=FC.2 ⟨p,hp,X,rfl⟩;obtain⟨m',ar⟩:=List.getElem?_of_mem hm;exact⟨m',_,_,by rw[R];exact(ζe.1 ar).1,ar,wY X,aC⟩
   refine(bf _).2 ⟨(eF ((i:Int)-1) Zaa Zaa).trans Zaa,e1,λj c Q b=>?_,λj Q=>by show o.l[j]?=_;rw[e2 j Zaa];exact g3 j Zaa⟩
   show∃o',o.l[j]?=some o'/\_
   by_cases e:j=i
   .subst e;rw[O]at b;cases b;refine⟨a,e3,?_⟩;rcases e4 with⟨T,U⟩|⟨T,U,b⟩
    .exact .inl ⟨T,λd hd u=>by
      obtain⟨m',k,z,f,G,B,C⟩:=aq d hd u;exact U m' k z f G B d hd C⟩
    exact .inr ⟨T,U,λd hd u=>by
     obtain⟨m',k,z,f,G,B,C⟩:=aq d hd u;exact b m' k z f G B d hd C⟩
   rw[e2 j e];exact g2 j c Zaa b
 rintro⟨out,_⟩ ⟨rfl,g1,g2,-⟩;unfold dI.bp;dsimp only;rw[decide_eq_false Zaa,bE,bf]
 exact(bf _).2 ⟨g1,λi c b=>g2 i c Zaa b⟩
end
end Go.VE
namespace Go.VE
section
variable{α σ:Type}
def wm(p:α->σ->Lk (Bool×σ)):L' α->σ->Lk (Bool×σ)
 |[],x=>some (false,x)|a::r,x=>(p a x).bind λy=>if y.1 then some (true,y.2)else wm p r y.2
theorem FQ{s:Sl α}{p:α->σ->Lk (Bool×σ)}{x:σ}(B:s.l.length<1073741824):zK s p x=wm p s.l x:=by
 have key:∀(c:L' α)(j:Nat)(x:σ),s.l.drop j=c->((bT (DR s p) ((j:Int),x)).bind (Fw.elim (λe=>some ((-1:Int),e)) λe=>some e)).bind (λy:Int×σ=>some (decide (y.1>=0),y.2))=wm p c x:=by
  intro c
  induction c with
  |nil=>
   intro j x hd;have d:decide ((j:Int)<len s)=false:=by
    have:s.l.length<=j:=by simpa using hd
    simp[len];omega
   rw[eB];simp only[DR,d,bg,false_eq_true,if_false,ζb,Fw.elim,wm];rfl
  |cons a c u=>
   intro j x hd;have d:j<s.l.length:=by apply byContradiction;intro C;rw[List.drop_eq_nil_of_le Zaa]at hd;cases hd
   have w:=List.drop_eq_getElem_cons d;rw[w]at hd;simp only[List.cons.injEq]at hd;rw[eB];simp only[DR,jP d,bg,if_true,bG d,ζb,hd.1,wm];cases p a x with|none=>rfl|some y=>obtain⟨b,z⟩:=y;simp only[ζb];cases b with|true=>simp[Fw.elim]|false=>simp only[false_eq_true,if_false,ζb,cR j Zaa];exact u (j+1) z hd.2
 exact key s.l 0 x rfl
def FH(p:α->Lk Bool):L' α->Lk Bool
 |[]=>some false|a::r=>(p a).bind λb=>if b then some true else FH p r
theorem HE(p:α->Lk Bool):∀l:L' α,wm (λx(u:Unit)=>(p x).map λb=>(b,u)) l ()=(FH p l).map λb=>(b,())
 |[]=>rfl|a::r=>by simp only[wm,FH];cases p a with|none=>rfl|some b=>cases b<;>simp[HE p r]
theorem BW{s:Sl α}(p:α->Lk Bool)(B:s.l.length<1073741824):zK s (λx(u:Unit)=>(p x).map λb=>(b,u)) ()=(FH p s.l).map λb=>(b,()):=by rw[FQ B,HE]
theorem Az{p:α->Lk Bool}{f:α->Bool}:∀{l:L' α},(∀x∈l,p x=some (f x))->FH p l=some (l.any f)
 |[],_=>rfl|a::r,h=>by simp only[FH,h a Zab,ζb,any_cons,Az (λx B=>h x (mem_cons_of_mem _ B))];cases f a<;>rfl
theorem lB{δ:Type}{b:(α->Lk δ)->α->Lk δ}{n:Nat}(h:0<n)(z:α):g_ b n z=b (g_ b (n-1)) z:=by cases n with|zero=>omega|succ n=>rfl
end
def Ny(l:L' Int)(az:L' Assign):L' Int:=az.foldl (λl a=>l.set a.var.toNat a.value) l
def kF(P:bU):Nat->L' Int
 |0=>P.vars.l.map Var.init_|k+1=>match P.events.l[k]?with
  |some e=>Ny (kF P k) e.assign.l|none=>kF P k
theorem KK:∀(az:L' Assign)(l:L' Int),(Ny l az).length=l.length
 |[],l=>rfl|a::r,l=>by show(Ny (l.set a.var.toNat a.value) r).length=_;rw[KK r];simp
theorem rF(P:bU):∀k,(kF P k).length=P.vars.l.length
 |0=>by simp[kF]|k+1=>by unfold kF;split;rw[KK,rF P k];exact rF P k
def Nr{α:Type}(s:Sl α):Prop:=s=.nil\/∃l,s=.row l
theorem KJ:∀(vs:L' Var)(s:Sl Int),Nr s->s.l.length+vs.length<1073741824->∃B,wz vs s=some B/\Nr B/\B.l=s.l++vs.map Var.init_
 |[],s,h,_=>⟨s,rfl,h,Zab⟩|v::r,s,h,D=>by
  simp only[length_cons]at D;have a:ga s v.init_=some (.row (s.l++[v.init_])):=by unfold ga;rw[if_pos Zaa]
  obtain⟨B,g1,g2,g3⟩:=KJ r (.row (s.l++[v.init_])) (.inr ⟨_,rfl⟩) (by show(s.l++[v.init_]).length+r.length<1073741824;simp;omega);refine⟨B,?_,g2,by rw[g3];show(s.l++[v.init_])++r.map Var.init_=_;simp⟩;simp only[wz,a,ζb,g1]
theorem Ka:∀(az:L' Assign)(s:Sl Int),Nr s->(∀a∈az,0<=a.var/\a.var<s.l.length)->∃B,wB az s=some B/\Nr B/\B.l=Ny s.l az
 |[],s,h,_=>⟨s,rfl,h,rfl⟩|a::r,s,h,D=>by
  obtain⟨d,c⟩:=D a Zab;have e:Sl.kS s a.var=some a.var.toNat:=by unfold Sl.kS;rw[if_pos ⟨d,Zaa⟩]
  rcases h with rfl|⟨l,rfl⟩;simp[Sl.l]at c;omega;have u:Sl.put (.row l) a.var.toNat a.value=some (.row (l.set a.var.toNat a.value)):=by unfold Sl.put;rw[if_pos (by simp[Sl.l]at c⊢;omega)]
  obtain⟨B,g1,g2,g3⟩:=Ka r (.row (l.set a.var.toNat a.value)) (.inr ⟨_,rfl⟩) (λb w=>by have:=D b (mem_cons_of_mem _ w);simpa[Sl.l]using this);refine⟨B,?_,g2,g3⟩;simp only[wB,e,u,ζb,g1]
theorem Mn{s:Sl Int}(h:Nr s)(B:s.l.length<1073741824):∃c,Om s=some c/\c.l=s.l:=by rcases h with rfl|⟨l,rfl⟩;exact⟨.nil,rfl,rfl⟩;unfold Om IB.dR oc;simp only[Sl.isNil,ζb,bg,false_eq_true,if_false];by_cases a:(Sl.row l).l=[];rw[if_pos a];exact⟨.row [],rfl,a.symm⟩;rw[if_neg a,if_pos (by simp[Sl.l]at B⊢;omega)];exact⟨_,rfl,by simp[Sl.l]⟩
def xW(P:bU):Prop:=∀e∈P.events.l,∀a∈e.assign.l,0<=a.var/\a.var<P.vars.l.length
theorem Jl{P:bU}(B:xW P)(f:P.vars.l.length<1073741824):∀(b:L' Event)(k:Nat)(s:Sl Int),P.events.l.drop k=b->Nr s->s.l=kF P k->
 ∃r,wL (k:Int) b s=some r/\r.length=b.length/\∀(i:Nat)x,r[i]?=some x->x.1=((k+i+1:Nat):Int)/\x.2.l=kF P (k+i+1)
 |[],k,s,_,_,_=>⟨[],rfl,rfl,Zab⟩|e::b,k,s,hd,D,G=>by
  have d:k<P.events.l.length:=by apply byContradiction;intro D;rw[List.drop_eq_nil_of_le Zaa]at hd;cases hd
  have C:=List.drop_eq_getElem_cons d;rw[C]at hd;simp only[List.cons.injEq]at hd;have I:e∈P.events.l:=hd.1▸getElem_mem d;have w:s.l.length=P.vars.l.length:=by rw[G,rF]
  obtain⟨n,g1,g2,g3⟩:=Ka e.assign.l s D (λa J=>by rw[w];exact B e I a J);have u:kF P (k+1)=n.l:=by rw[g3,G];unfold kF;rw[ζd d,hd.1];cases k<;>rfl
  obtain⟨c,g4,g5⟩:=Mn g2 (by rw[<-u,rF];exact f);obtain⟨r,L,O,Q⟩:=Jl B f b (k+1) n hd.2 g2 u.symm;refine⟨((k:Int)+1,c)::r,?_,by simp[O],λi x z=>?_⟩;simp only[wL,g1,g4,ζb];rw[show(k:Int)+1=((k+1:Nat):Int)from rfl,L];rfl;cases i with|zero=>simp only[List.getElem?_cons_zero,ζa]at z;subst z;exact⟨rfl,by rw[g5,<-u]⟩|succ i=>rw[List.getElem?_cons_succ]at z;obtain⟨S,T⟩:=Q i x z;exact⟨by rw[S];congr 1;omega,by rw[T];congr 1;omega⟩
theorem Hf{P:bU}(B:xW P)(a:P.vars.l.length<1073741824)(U:P.events.l.length<1073741824)(D:∀e∈P.events.l,e.assign.l.length<1073741824):
 ∃r,jF P=some r/\r.length=P.events.l.length+1/\∀(i:Nat)x,r[i]?=some x->x.1=(i:Int)/\x.2.l=kF P i:=by
 obtain⟨s,g1,g2,g3⟩:=KJ P.vars.l .nil (.inl rfl) (by simpa[Sl.l]using a)
 have w:s.l=kF P 0:=by rw[g3];simp[Sl.l,kF]
 obtain⟨c,g4,g5⟩:=Mn g2 (by rw[w,rF];exact a)
 obtain⟨r,z,C,G⟩:=Jl B a P.events.l 0 s rfl g2 w;refine⟨(0,c)::r,?_,by simp[C],λi x u=>?_⟩
 .unfold jF;have b:(pK P.vars.l.length&&(pK P.events.l.length&&P.events.l.all λe=>pK e.assign.l.length))=true:=by
   simp only[ζh,all_eq_true,pK,decide_eq_true_eq];exact⟨Zaa,Zaa,λe h=>by have:=D e h;omega⟩
  rw[if_pos b,g1,ζb,g4,ζb];rw[show((0:Nat):Int)=0 from rfl]at z;rw[z];rfl
 cases i with
 |zero=>simp only[List.getElem?_cons_zero,ζa]at u;subst u;exact⟨rfl,by rw[g5,w]⟩|succ i=>rw[List.getElem?_cons_succ]at u;obtain⟨I,J⟩:=G i x u;exact⟨by rw[I];congr 1;omega,by rw[J];congr 1;omega⟩
theorem Te{P:bU}(D:xW P)(b:P.vars.l.length<1073741824)(G:P.events.l.length<1073741824)(J:∀e∈P.events.l,e.assign.l.length<1073741824){k:Nat}(d:k<=P.events.l.length):
 ∃x,fU P (k:Int)=some x/\x.l=kF P k:=by
 obtain⟨r,c,O,C⟩:=Hf D b G J;have key:∀(a:L' (Int×Sl Int))(i:Nat)(q:Sl Int),r.drop i=a->i<=k->∃x,(kV (λ(x:Int×(Sl Int))(q:Sl Int)=>fU.jZ P k x q) a q).bind (Fw.qY (λq=>some Sl.nil) (λe=>Empty.elim e) (λe=>some e))=some x/\x.l=kF P k:=by
  intro a
  induction a with
  |nil=>
   intro i q hd hi;have:r.length<=i:=by simpa using hd
   omega
  |cons y a I=>
   intro i q hd hi;have u:i<r.length:=Zaa;have e2:=List.drop_eq_getElem_cons u;rw[e2]at hd;simp only[List.cons.injEq]at hd;obtain⟨B,L⟩:=C i y (by rw[ζd u,hd.1]);by_cases w:i=k;subst w;refine⟨y.2,?_,L⟩;simp only[kV,fU.jZ,B,beq_self_eq_true,bg,if_true,ζb,Fw.qY];have z:(y.1==(k:Int))=false:=by rw[B];simp;omega
   obtain⟨x,g1,g2⟩:=I (i+1) .nil hd.2 Zaa;refine⟨x,?_,g2⟩;simp only[kV,fU.jZ,z,bg,false_eq_true,if_false,ζb];exact g1
 obtain⟨x,g1,g2⟩:=key r 0 .nil rfl (zero_le _);refine⟨x,?_,g2⟩;unfold fU nT fU.E1;simp only[ζb,c];exact g1
mutual
def Pred.sz:Pred->Nat
 |⟨_,_,_,_,_,l⟩=>1+Pred.Xr l
def Pred.Xr:Sl Pred->Nat
 |.nil=>0|.emp=>0|.row l=>Pred.mP l|.part l=>Pred.mP l
def Pred.mP:L' Pred->Nat
 |[]=>0|x::r=>Pred.sz x+Pred.mP r
end
mutual
def Pred.dp:Pred->Nat
 |⟨_,_,_,_,_,l⟩=>1+Pred.YD l
def Pred.YD:Sl Pred->Nat
 |.nil=>0|.emp=>0|.row l=>Pred.A4 l|.part l=>Pred.A4 l
def Pred.A4:L' Pred->Nat
 |[]=>0|x::r=>max (Pred.dp x) (Pred.A4 r)
end
mutual
def Pred.lq(f:Pred->Bool):Pred->Bool
 |⟨a,b,c,d,e,l⟩=>f ⟨a,b,c,d,e,l⟩&&Pred.N2 f l
def Pred.N2(f:Pred->Bool):Sl Pred->Bool
 |.nil=>true|.emp=>true|.row l=>Pred.Fy f l|.part l=>Pred.Fy f l
def Pred.Fy(f:Pred->Bool):L' Pred->Bool
 |[]=>true|x::r=>Pred.lq f x&&Pred.Fy f r
end
theorem Pred.Zi(s:Sl Pred):Pred.Xr s=Pred.mP s.l:=by cases s<;>simp[Pred.Xr,Pred.mP,Sl.l]
theorem Pred.Y0(s:Sl Pred):Pred.YD s=Pred.A4 s.l:=by cases s<;>simp[Pred.YD,Pred.A4,Sl.l]
theorem Pred.JD(f:Pred->Bool):∀l:L' Pred,Pred.Fy f l=l.all (Pred.lq f)
 |[]=>by simp[Pred.Fy]|x::r=>by simp only[Pred.Fy,all_cons,Pred.JD f r]
theorem Pred.X9(f:Pred->Bool)(s:Sl Pred):Pred.N2 f s=s.l.all (Pred.lq f):=by cases s<;>simp[Pred.N2,Pred.JD,Sl.l]
theorem Pred.T3(p:Pred):p.sz=1+Pred.mP p.l.l:=by cases p;simp only[Pred.sz,Pred.Zi]
theorem Pred.Ia(p:Pred):p.dp=1+Pred.A4 p.l.l:=by cases p;simp only[Pred.dp,Pred.Y0]
theorem Pred.oQ(f:Pred->Bool)(p:Pred):p.lq f=(f p&&p.l.l.all (Pred.lq f)):=by cases p;simp only[Pred.lq,Pred.X9]
theorem Pred.LL:∀{l:L' Pred}{q:Pred},q∈l->q.dp<=Pred.A4 l
 |x::r,q,h=>by simp only[Pred.A4];rcases mem_cons.1 h with rfl|h;omega;have:=Pred.LL h;omega
theorem Pred.rJ{p q:Pred}(h:q∈p.l.l):q.dp<p.dp:=by rw[p.Ia];have:=Pred.LL h;omega
theorem Pred.zB(p:Pred):0<p.dp:=by rw[p.Ia];omega
theorem Pred.ind{M:Pred->Prop}(h:∀p,(∀q∈p.l.l,M q)->M p)(p:Pred):M p:=by
 have key:∀n p,p.dp<=n->M p:=by intro n;induction n with|zero=>intro p u;have:=p.zB;omega|succ n w=>intro p u;exact h p λq z=>w q (by have:=Pred.rJ z;omega)
 exact key _ p (Nat.le_refl _)
abbrev Pred.Sm(p:Pred):Prop:=p.lq (λq=>decide (q.l.l.length<1073741824))=true
theorem Pred.Sm.len{p:Pred}(h:p.Sm):p.l.l.length<1073741824:=by unfold Pred.Sm at h;rw[p.oQ]at h;simp only[ζh,decide_eq_true_eq]at h;exact h.1
theorem Pred.Sm.zC{p q:Pred}(h:p.Sm)(B:q∈p.l.l):q.Sm:=by unfold Pred.Sm at h;rw[p.oQ]at h;simp only[ζh,all_eq_true]at h;exact h.2 q B
theorem LK{f:Pred->Lk Bool}{g:Pred->Bool}(p:Pred)(B:p.Sm):p.lq (λq=>f q==some (g q))=true->∀n,p.dp<=n->g_ (λr(z:Pred)=>jr z f r) n p=some (p.lq g):=by induction p using Pred.ind with|h p C=>intro u n D;rw[p.oQ]at u;simp only[ζh,all_eq_true,beq_iff_eq]at u;have hd:=p.Ia;rw[lB Zaa];show jr p f _=_;unfold jr;rw[u.1,ζb,p.oQ];cases g p with|false=>rfl|true=>rw[bF,BW _ B.len,Az (f:=λq=> !q.lq g) (λq w=>by have:=C q w (B.zC w) (u.2 q w) (n-1) (by have:=Pred.rJ w;omega);show(g_ (λr(z:Pred)=>jr z f r) (n-1) q).bind _=_;rw[this];rfl)];simp only[Option.map_some,ζb,Bool.true_and];congr 1;rw[Bool.eq_iff_iff];simp
abbrev PT(p:Pred):Bool:=toList p.name==toList ByteArray.empty
abbrev OA(p:Pred)(c:Int):Bool:=(len p.l==c)&&(!decide (p.n<0)&&(!decide (p.n>1125899906842624)&&((p.n==0||p.kind==1)&&(p.kind==2||(p.kind==3||(p.kind==4||(p.proc==0&&(p.peer==0&&PT p))))))))
theorem VL:∀k:_root_.Fin 22,1<=k.1->(cq.at z7 ((k.1:Nat):Int)).isSome=true:=by decide
theorem Gv{k:Int}(a:1<=k)(B:k<22):∃c,cq.at z7 k=some c:=by have g:=VL ⟨k.toNat,Zaa⟩ (by show 1<=k.toNat;omega);simp only at g;rw[show((k.toNat:Nat):Int)=k from Zaa]at g;exact Option.isSome_iff_exists.1 g
theorem Ms{p:Pred}{c:Int}(f:1<=p.kind)(B:p.kind<22)(d:cq.at z7 p.kind=some c):kQ p=some (OA p c):=by
 unfold kQ uu OA PT;rw[decide_eq_false (show¬p.kind<1 by omega),bE,ζb,decide_eq_false (show¬p.kind>=22 by omega),bE,d,ζb,ζb];generalize(len p.l==c)=e;generalize decide (p.n<0)=a;generalize decide (p.n>1125899906842624)=b;generalize(p.n==0)=z;generalize(p.kind==1)=k1;generalize(p.kind==2)=k2;generalize(p.kind==3)=k3;generalize(p.kind==4)=k4;generalize(p.proc==0)=d1;generalize(p.peer==0)=d2;generalize(toList p.name==toList ByteArray.empty)=d3
 cases e with
 |false=>rfl|true=>cases a with
  |true=>rfl|false=>cases b with
   |true=>rfl|false=>cases z<;>cases k1<;>first|rfl|(cases k2<;>cases k3<;>cases k4<;>cases d1<;>cases d2<;>cases d3<;>rfl)
theorem Kl{p:Pred}(h:p.kind<1\/22<=p.kind):kQ p=some false:=by
 unfold kQ;have:(bg (decide (p.kind<1)) (some true) (some (decide (p.kind>=22))):Lk Bool)=some true:=by by_cases a:p.kind<1;rw[decide_eq_true a];rfl;rw[decide_eq_false a,bE,decide_eq_true Zaa]
 rw[this];rfl
def fB(p:Pred):Bool:=(kQ p).getD false
theorem UY(p:Pred):kQ p=some (fB p):=by unfold fB;by_cases h:p.kind<1\/22<=p.kind;rw[Kl h];rfl;obtain⟨c,a⟩:=Gv (k:=p.kind) Zaa Zaa;rw[Ms Zaa Zaa a];rfl
theorem w8{p:Pred}(h:fB p=true):1<=p.kind/\p.kind<22/\cq.at z7 p.kind=some (len p.l):=by by_cases g:p.kind<1\/22<=p.kind;unfold fB at h;rw[Kl g]at h;cases h;obtain⟨c,a⟩:=Gv (k:=p.kind) Zaa Zaa;unfold fB at h;rw[Ms Zaa Zaa a]at h;simp only[OA,Option.getD_some,ζh,beq_iff_eq]at h;exact⟨Zaa,Zaa,by rw[a,h.1]⟩
def tZ(p:Pred):Bool:=decide (p.sz<=200)&&(decide (p.dp<=20)&&p.lq fB)
abbrev oC(p:Pred)(d l:Nat):Bool:=decide (p.sz<=l)&&(decide (p.dp+d<=21)&&p.lq fB)
abbrev vD(k:L' Pred)(d l:Nat):Bool:=decide (Pred.mP k<=l)&&(decide (Pred.A4 k+d<=21)&&k.all (Pred.lq fB))
theorem VY(p:Pred)(U:p.Sm):∀(n d l:Nat),1<=n->22<=n+d->d<=21->1<=d->l<=200->
 ∃B:Int,g_ (λr(z:Pred×Int×Int)=>eO z.1 z.2.1 z.2.2 r) n (p,(d:Int),(l:Int))=some (oC p d l,B)/\(oC p d l=true->B=((l-p.sz:Nat):Int)):=by
 induction p using Pred.ind with
 |h p D=>
  intro n d l e X hd jC f;have C:=p.T3;have I:=p.Ia;rw[lB Zaa]
  have D:=λq G=>D q G (U.zC G) (n-1)
  show∃B,eO p (d:Int) (l:Int) (g_ (λr(z:Pred×Int×Int)=>eO z.1 z.2.1 z.2.2 r) (n-1))=_/\_
  generalize g_ (λr(z:Pred×Int×Int)=>eO z.1 z.2.1 z.2.2 r) (n-1)=R at D⊢
  unfold eO;rw[eF _ Zaa Zaa,UY]
  by_cases b:l=0
  .subst b;have w:oC p d 0=false:=by
    have:¬(p.sz<=0):=Zaa
    simp only[oC,decide_eq_false this,Bool.false_and]
   rw[w];exact⟨_,rfl,λh=>by cases h⟩
  rw[decide_eq_false (show¬((l:Int)-1<0)by omega),bE,ζb]
  by_cases g:20<d
  .have w:oC p d l=false:=by
    have:¬(p.dp+d<=21):=by have:=p.zB;omega
    simp only[oC,decide_eq_false this,Bool.false_and,Bool.and_false]
   rw[w,decide_eq_true (show(d:Int)>20 by omega)]
   exact⟨_,rfl,λh=>by cases h⟩
  rw[decide_eq_false (show¬((d:Int)>20)by omega),bE,ζb]
  have Q:=p.oQ fB
  cases S:fB p with
  |false=>
   have w:oC p d l=false:=by simp[oC,Q,S]
   rw[w];exact⟨_,rfl,λh=>by cases h⟩
  |true=>
   rw[ζb,show(!true)=false from rfl,bE,FQ U.len];have key:∀(k:L' Pred),(∀q∈k,q∈p.l.l)->∀m:Nat,m<=200->∃m':Int,wm (λx s=>iJ x (d:Int) s R) k (m:Int)=some (!vD k (d+1) m,m')/\(vD k (d+1) m=true->m'=((m-Pred.mP k:Nat):Int)):=by
    intro k;induction k with|nil=>intro _ m _;exact⟨m,by simp[wm,vD,Pred.mP,Pred.A4];omega,λ_=>by simp[Pred.mP]⟩|cons q k J=>
     intro a m Y;obtain⟨B,g1,g2⟩:=D q (a q Zab) (d+1) m Zaa Zaa Zaa Zaa Y;have e1:iJ q (d:Int) (m:Int) R=some (!oC q (d+1) m,B):=by unfold iJ;rw[cR d Zaa,g1];rfl
     simp only[wm,e1,ζb];have u:vD (q::k) (d+1) m=(oC q (d+1) m&&vD k (d+1) (m-q.sz)):=by rw[Bool.eq_iff_iff];simp only[vD,oC,Pred.mP,Pred.A4,ζh,all_cons];constructor;rintro⟨a1,a2,a3,a4⟩;have a1:=of_decide_eq_true a1;have a2:=of_decide_eq_true a2;exact⟨⟨decide_eq_true Zaa,decide_eq_true Zaa,a3⟩,decide_eq_true Zaa,decide_eq_true Zaa,a4⟩;rintro⟨⟨a1,a2,a3⟩,T,W,Z⟩;have a1:=of_decide_eq_true a1;have a2:=of_decide_eq_true a2;have T:=of_decide_eq_true T;have W:=of_decide_eq_true W;exact⟨decide_eq_true Zaa,decide_eq_true Zaa,a3,Z⟩
     cases w:oC q (d+1) m with|false=>rw[u,w];exact⟨B,rfl,λh=>by cases h⟩|true=>
      obtain⟨m',L,O⟩:=J (λx c=>a x (mem_cons_of_mem _ c)) (m-q.sz) Zaa;rw[u,w,Bool.true_and,g2 w];refine⟨m',by simpa using L,λh=>?_⟩;rw[O h];have:q.sz<=m:=by have:=w;simp only[oC,ζh]at this;exact of_decide_eq_true this.1
      congr 1;show m-q.sz-Pred.mP k=m-(q.sz+Pred.mP k);omega
   obtain⟨m',L,O⟩:=key p.l.l (λq G=>G) (l-1) Zaa
   rw[show((l:Int)-1)=((l-1:Nat):Int)from Zaa,L,ζb]
   have w:oC p d l=vD p.l.l (d+1) (l-1):=by rw[Bool.eq_iff_iff];simp only[oC,vD,ζh,Q,S,true_and,C,I];constructor;rintro⟨a1,a2,a3⟩;have a1:=of_decide_eq_true a1;have a2:=of_decide_eq_true a2;exact⟨decide_eq_true Zaa,decide_eq_true Zaa,a3⟩;rintro⟨a1,a2,a3⟩;have a1:=of_decide_eq_true a1;have a2:=of_decide_eq_true a2;exact⟨decide_eq_true Zaa,decide_eq_true Zaa,a3⟩
   refine⟨m',by rw[w];simp,λh=>?_⟩
   rw[O (by rw[<-w];exact h),C]
   congr 1
   omega
theorem zW{p:Pred}(B:p.Sm):lW p=some (tZ p):=by obtain⟨u,h,-⟩:=VY p B 100000 1 200 Zaa Zaa Zaa Zaa Zaa;unfold lW qL;rw[show g_ (λr(z:Pred×Int×Int)=>eO z.1 z.2.1 z.2.2 r) 100000 (p,(1:Int),(200:Int))=_ from h];simp only[ζb];congr 1;rw[Bool.eq_iff_iff];simp only[tZ,oC,ζh];constructor;rintro⟨a1,a2,a3⟩;have a2:=of_decide_eq_true a2;exact⟨a1,decide_eq_true Zaa,a3⟩;rintro⟨a1,a2,a3⟩;have a2:=of_decide_eq_true a2;exact⟨a1,decide_eq_true Zaa,a3⟩
theorem Tp{l:L' Pred}{i:Nat}(h:i<l.length):Pred.mP (l.take (i+1))=Pred.mP (l.take i)+l[i].sz:=by
 have key:∀(l:L' Pred)(i:Nat)(h:i<l.length),Pred.mP (l.take (i+1))=Pred.mP (l.take i)+l[i].sz:=by intro l;induction l with|nil=>intro i h;simp at h|cons x r u=>intro i h;cases i with|zero=>simp[Pred.mP]|succ i=>have:=u i (by simpa using h);simp only[List.take_succ_cons,Pred.mP,List.getElem_cons_succ]at this⊢;omega
 exact key l i h
theorem Lc(l:L' Pred)(i:Nat):Pred.mP (l.take i)<=Pred.mP l:=by
 induction l generalizing i with
 |nil=>simp|cons x r u=>cases i with
  |zero=>simp[Pred.mP]|succ i=>simp only[List.take_succ_cons,Pred.mP];have:=u i;omega
theorem count_eq(p:Pred)(G:p.Sm):∀(n l:Nat),l+1<=n->l<=200->g_ (λr(z:Pred×Int)=>ja z.1 z.2 r) n (p,(l:Int))=some ((min p.sz (l+1):Nat):Int):=by
 induction p using Pred.ind with|h p C=>
  intro n l O Q;have J:=p.T3;rw[lB Zaa];have C:=λq I=>C q I (G.zC I) (n-1);show ja p (l:Int) (g_ (λr(z:Pred×Int)=>ja z.1 z.2 r) (n-1))=_;generalize g_ (λr(z:Pred×Int)=>ja z.1 z.2 r) (n-1)=R at C⊢;unfold ja kG.W1;refine Wp.eq ?_;refine fK (λs:Int×Int=>∃i:Nat,s.2=i/\i<=p.l.l.length/\s.1=((min (1+Pred.mP (p.l.l.take i)) (l+1):Nat):Int)) (λs=>p.l.l.length-s.2.toNat) ⟨0,rfl,zero_le _,by simp[Pred.mP]⟩ ?_;rintro⟨c,_⟩ ⟨i,rfl,hi,a⟩;simp only at a;subst a;unfold kG.bp;by_cases u:i<p.l.l.length;rw[jP u,bF,ζb];by_cases L:min (1+Pred.mP (p.l.l.take i)) (l+1)<=l;have w:min (1+Pred.mP (p.l.l.take i)) (l+1)=1+Pred.mP (p.l.l.take i):=by omega
  have B:=getElem_mem u;rw[decide_eq_true (show(((min (1+Pred.mP (p.l.l.take i)) (l+1):Nat)):Int)<=(l:Int)by omega),bF,bG u,ζb,w,eF _ Zaa Zaa,
   show(l:Int)-((1+Pred.mP (p.l.l.take i):Nat):Int)=((l-(1+Pred.mP (p.l.l.take i)):Nat):Int)from Zaa,
   C _ B _ Zaa Zaa,ζb,bf,eF _ Zaa Zaa,cR i (by have:=G.len;omega)]
  refine⟨⟨i+1,rfl,Zaa,?_⟩,by simp only;omega⟩;simp only;rw[Tp u];omega;rw[decide_eq_false (show¬(((min (1+Pred.mP (p.l.l.take i)) (l+1):Nat)):Int)<=(l:Int)by omega),bE,bf];refine(bf _).2 ?_;have:=Lc p.l.l i;congr 1;omega;have D:i=p.l.l.length:=Zaa;subst D;rw[show decide (((p.l.l.length:Nat):Int)<len p.l)=false from jQ,bE,ζb,bE,bf];refine(bf _).2 ?_;rw[take_length];congr 1;omega
section
variable{t:Trace}
abbrev zA(t:Trace)(p:Int):Bool:=decide (p>=0)&&decide (p<len t.procs)
def Nb(t:Trace)(p:Int)(name:ByteArray):Bool:=match idx t.procs p with
 |some P=>P.vars.l.any λv=>toList v.name==toList name|none=>false
def sQ(t:Trace)(q:Pred):Bool:=if q.kind==2 then zA t q.proc&&(q.peer==0&&Nb t q.proc q.name)else if q.kind==3 then zA t q.proc&&(q.peer==0&&PT q)else if q.kind==4 then zA t q.proc&&(zA t q.peer&&(!(q.proc==q.peer)&&PT q))else true
theorem Mt(p:Int):kq t p=some (zA t p):=by unfold kq zA;cases decide (p>=0)<;>rfl
theorem vM{p:Int}(h:zA t p=true):∃n:Nat,p=n/\n<t.procs.l.length:=by simp only[zA,ζh]at h;have a:=of_decide_eq_true h.1;have u:=of_decide_eq_true h.2;exact⟨p.toNat,Zaa,by simp only[len]at u;omega⟩
theorem Ta(a:Small t){p:Int}(h:zA t p=true)(name:ByteArray):rA t p name=some (Nb t p name):=by obtain⟨n,rfl,u⟩:=vM h;unfold rA Nb;rw[bG u,ζb,CQ (p:=λz=>oD z name) (f:=λv=>toList v.name==toList name) (λv _=>rfl) (a.2 _ (getElem_mem u)).2.1];rfl
theorem Vh(a:Small t)(q:Pred):kE q t=some (sQ t q):=by
 unfold kE sQ PT;rw[Mt,Mt]
 cases q.kind==2 with
 |true=>rw[bF,if_pos rfl,ζb];cases h:zA t q.proc with|false=>rfl|true=>rw[Ta a h];cases q.peer==0<;>rfl
 |false=>rw[bE,if_neg Zab];cases q.kind==3 with|true=>rw[bF,if_pos rfl];cases zA t q.proc<;>cases q.peer==0<;>cases(toList q.name==toList ByteArray.empty)<;>rfl|false=>rw[bE,if_neg Zab];cases q.kind==4 with|true=>rw[bF,if_pos rfl];cases zA t q.proc<;>cases zA t q.peer<;>cases(q.proc==q.peer)<;>cases(toList q.name==toList ByteArray.empty)<;>rfl|false=>rfl
theorem IN{f:Pred->Lk Bool}{g:Pred->Bool}(h:∀q,f q=some (g q)){p:Pred}(B:p.Sm)(hd:p.dp<=100000):nK p f=some (p.lq g):=by refine LK p B ?_ _ hd;induction p using Pred.ind with|h p w=>rw[p.oQ,ζh,all_eq_true];exact⟨by rw[h];simp,λq u=>w q u (B.zC u) (by have:=Pred.rJ u;omega)⟩
theorem Jx(a:Small t){p:Pred}(B:p.Sm)(hd:p.dp<=100000):oI t p=some (p.lq (sQ t)):=by unfold oI;rw[IN (g:=sQ t) (λq=>Vh a q) B hd];rfl
abbrev sY(k:Int):Int:=if k<=8 then 1 else 2
abbrev B2(k:Int):Int:=if k<=12 then 1 else 2
def yU(q:Pred):Bool:=q.l.l.all λk=>sY k.kind==B2 q.kind
theorem BK(k:Int):lV k=some (sY k):=by unfold lV sY;by_cases h:k<=8;rw[decide_eq_true h,if_pos h];rfl;rw[decide_eq_false h,if_neg h];rfl
theorem UU(k:Int):sJ k=some (B2 k):=by unfold sJ B2;by_cases h:k<=12;rw[decide_eq_true h,if_pos h];rfl;rw[decide_eq_false h,if_neg h];rfl
theorem VR{q:Pred}(B:q.l.l.length<1073741824):jg q=some (yU q):=by unfold jg yU;rw[BW _ B,Az (f:=λk=> !(sY k.kind==B2 q.kind)) (λk _=>by unfold mF;rw[BK,UU];rfl)];simp only[Option.map_some,ζb];congr 1;rw[Bool.eq_iff_iff];simp
theorem GR{p:Pred}(B:p.Sm)(hd:p.dp<=100000):oW p=some (p.lq yU):=by
 unfold oW;have:p.lq (λq=>(λz=>jg z) q==some (yU q))=true:=by clear hd;induction p using Pred.ind with|h p w=>rw[p.oQ,ζh,all_eq_true];exact⟨by show(jg p==some (yU p))=true;rw[VR B.len];simp,λq u=>w q u (B.zC u)⟩
 unfold nK;rw[LK p B this _ hd];rfl
def Ba(q:Pred):Bool:=decide (q.kind>=18)&&decide (q.kind<=21)
theorem KF{p:Pred}(B:p.Sm):oK p=some (tZ p&& !p.lq λq=> !Ba q):=by
 unfold oK;rw[zW B,ζb];cases u:tZ p with|false=>rfl|true=>
  have hd:p.dp<=20:=by simp only[tZ,ζh]at u;exact of_decide_eq_true u.2.1
  rw[bF,IN (g:=λq=> !Ba q) (λq=>by unfold mA rV Ba;cases decide (q.kind>=18)<;>rfl) B Zaa];rfl
end
theorem xW.of{t:Trace}(B:Ok t){p:Nat}{P:bU}(D:t.procs.l[p]?=some P):xW P:=by
 intro e C a G;obtain⟨k,b⟩:=List.mem_iff_getElem?.1 C;obtain⟨i,hi⟩:=List.mem_iff_getElem?.1 G;have h:=B.fI p k P e D b;unfold pE at h;have w:i<e.assign.l.length:=by apply byContradiction;intro J;rw[getElem?_eq_none Zaa]at hi;cases hi
 have I:og (oL P e) 0 e.assign.l.length=0:=by split at h;split at h;cases h;split at h;cases h;exact h;cases h
 have u:=(Pp (g:=oL P e) (n:=e.assign.l.length) (m:=e.assign.l.length) (k:=0) Zaa).1 I i (zero_le _) w;unfold oL at u;rw[hi]at u;dsimp only at u;by_cases z:(decide (0<=a.var)&&decide (a.var<P.vars.l.length))=true;simpa using z;rw[Bool.not_eq_true]at z;rw[z]at u;simp only[R1]at u;cases u
theorem Zw{t:Trace}{A:cq 200 bD}(b:Small t)(f:cQ t=some true)(e:VT t)(g:fR t (bO t) A){c:Sl Int}(d:Cons t A c.l):
 Wp (iY t c) λr=>r.2=0/\r.1.l.length=t.procs.l.length/\∀(p:Nat)(P:bU)(a:Int),t.procs.l[p]?=some P->c.l[p]?=some a->∃x,r.1.l[p]?=some x/\x.l=kF P a.toNat:=by
 have I:=d.1.1;unfold iY;rw[ec];refine(La b f e g c).mono λr i=>?_
 rw[i.zero.2 d,show((0:Int)==0)=true from rfl,bF];unfold iY.W1;refine fH c.l.length (λn s=>s.2=(n:Int)/\s.1.l.length=n/\∀(p:Nat)(P:bU)(a:Int),p<n->t.procs.l[p]?=some P->c.l[p]?=some a->∃x,s.1.l[p]?=some x/\x.l=kF P a.toNat) ⟨rfl,rfl,λp P a h=>absurd h Zaa⟩ ?_ ?_
 .rintro n ⟨o,_⟩ u ⟨e1,e2,e3⟩;simp only at e1 e2 e3;subst e1;have J:n<t.procs.l.length:=by omega
  have w:=b.2 _ (getElem_mem J);have D:=ζd J;have C:=ζd u;obtain⟨a0,a1⟩:=d.1.2 n _ _ C D;have T:=xW.of e.ok D;obtain⟨x,S,L⟩:=Te T w.2.1 w.1 w.2.2.2.2 (k:=c.l[n].toNat) Zaa
  rw[show((c.l[n].toNat:Nat):Int)=c.l[n]from Zaa]at S
  have j:=b.1;unfold iY.bp;rw[jP u,bF,bG u,ζb,bG J,ζb,S,ζb];have G:ga o (x:Sl Int)=some (.row (o.l++[x])):=by unfold ga;rw[if_pos Zaa]
  rw[G,ζb,bf,cR n Zaa]
  refine⟨rfl,by simp[Sl.l];exact e2,λp P a h z B=>?_⟩
  show∃y,(o.l++[x])[p]?=some y/\_
  by_cases O:p=n
  .subst O;rw[D]at z;rw[C]at B;cases z;cases B;exact⟨x,by rw[List.getElem?_append_right Zaa];simp[e2],L⟩
  obtain⟨y,U,Q⟩:=e3 p P a Zaa z B
  exact⟨y,by rw[List.getElem?_append_left Zaa];exact U,Q⟩
 rintro⟨o,_⟩ ⟨e1,e2,e3⟩;simp only at e1 e2 e3;subst e1;unfold iY.bp;rw[show decide ((c.l.length:Int)<len c)=false from jQ,bE,bf];refine(bf _).2 ⟨rfl,by rw[e2,I],λp P a D C=>e3 p P a ?_ D C⟩
 apply byContradiction;intro W;rw[getElem?_eq_none Zaa]at C;cases C
section
variable{P:Pred}{t:Trace}
end
def vc(l:L' Int)(m:Int):Prop:=m∈l/\∀x∈l,m<=x
def isMax(l:L' Int)(m:Int):Prop:=m∈l/\∀x∈l,x<=m
theorem vc.one{l:L' Int}{a b:Int}(h:vc l a)(g:vc l b):a=b:=by have:=h.2 b g.1;have:=g.2 a h.1;omega
theorem isMax.one{l:L' Int}{a b:Int}(h:isMax l a)(g:isMax l b):a=b:=by have:=h.2 b g.1;have:=g.2 a h.1;omega
theorem vc.snoc{l:L' Int}{a x:Int}(h:vc l a):vc (l++[x]) (if x<a then x else a):=by obtain⟨c,u⟩:=h;split;refine⟨Zab,λy b=>?_⟩;rcases mem_append.1 b with b|b;have:=u y b;omega;simp at b;omega;refine⟨List.mem_append_left _ c,λy b=>?_⟩;rcases mem_append.1 b with b|b;exact u y b;simp at b;omega
theorem isMax.snoc{l:L' Int}{a x:Int}(h:isMax l a):isMax (l++[x]) (if x>a then x else a):=by obtain⟨c,u⟩:=h;split;refine⟨Zab,λy b=>?_⟩;rcases mem_append.1 b with b|b;have:=u y b;omega;simp at b;omega;refine⟨List.mem_append_left _ c,λy b=>?_⟩;rcases mem_append.1 b with b|b;exact u y b;simp at b;omega
theorem Pu{s:Sl Int}(h:0<s.l.length)(B:s.l.length<1073741824):Wp (dz s) λm=>vc s.l m:=by
 unfold dz dz.J1 dz.W2;rw[decide_eq_false (show¬len s<1 by simp only[len];omega),bE,show idx s 0=some s.l[0]from bG (i:=0) h,ζb];refine fH (s.l.length-1) (λn q=>q.2=((n+1:Nat):Int)/\vc (s.l.take (n+1)) q.1) ⟨rfl,?_⟩ ?_ ?_;rw[take_add_one,ζd h];exact⟨Zab,λx z=>by simp at z;omega⟩;rintro n ⟨m,_⟩ C ⟨rfl,w⟩;have u:n+1<s.l.length:=by omega
 unfold dz.bV;rw[jP u,bF,bG u,ζb,bf,cR _ Zaa];refine⟨rfl,?_⟩;rw[take_add_one,ζd u];exact w.snoc;rintro⟨m,_⟩ ⟨rfl,w⟩;unfold dz.bV;rw[show s.l.length-1+1=s.l.length from Zaa,jQ,bE,bf];rw[show s.l.length-1+1=s.l.length from Zaa,take_length]at w;exact(bf _).2 w
theorem QS{s:Sl Int}(h:0<s.l.length)(B:s.l.length<1073741824):Wp (eX s) λm=>isMax s.l m:=by
 unfold eX eX.J1 eX.W2;rw[decide_eq_false (show¬len s<1 by simp only[len];omega),bE,show idx s 0=some s.l[0]from bG (i:=0) h,ζb];refine fH (s.l.length-1) (λn q=>q.2=((n+1:Nat):Int)/\isMax (s.l.take (n+1)) q.1) ⟨rfl,?_⟩ ?_ ?_;rw[take_add_one,ζd h];exact⟨Zab,λx z=>by simp at z;omega⟩;rintro n ⟨m,_⟩ C ⟨rfl,w⟩;have u:n+1<s.l.length:=by omega
 unfold eX.bV;rw[jP u,bF,bG u,ζb,bf,cR _ Zaa];refine⟨rfl,?_⟩;rw[take_add_one,ζd u];exact w.snoc;rintro⟨m,_⟩ ⟨rfl,w⟩;unfold eX.bV;rw[show s.l.length-1+1=s.l.length from Zaa,jQ,bE,bf];rw[show s.l.length-1+1=s.l.length from Zaa,take_length]at w;exact(bf _).2 w
theorem Md{s:Sl Int}{a b:Int}(h:0<s.l.length)(B:s.l.length<1073741824)(D:vc s.l a)(G:isMax s.l b):me s=some ⟨a,b⟩:=by obtain⟨m,c,u⟩:=Pu h B;obtain⟨n,g1,g2⟩:=QS h B;unfold me;rw[c,ζb,g1,ζb,u.one D,g2.one G]
theorem T_(n:Int):me (Sl.row [n]:Sl Int)=some ⟨n,n⟩:=Md (by simp[Sl.l]) (by simp[Sl.l]) ⟨by simp[Sl.l],λx u=>by simp[Sl.l]at u;omega⟩ ⟨by simp[Sl.l],λx u=>by simp[Sl.l]at u;omega⟩
theorem Uz(a b c d:Int):me (Sl.row [a,b,c,d]:Sl Int)=some ⟨if(if d<c then d else c)<(if b<a then b else a)then(if d<c then d else c)else(if b<a then b else a),if(if d>c then d else c)>(if b>a then b else a)then(if d>c then d else c)else(if b>a then b else a)⟩:=by
 refine Md (by simp[Sl.l]) (by simp[Sl.l]) ⟨?_,λx u=>?_⟩ ⟨?_,λx u=>?_⟩
 .show _∈[a,b,c,d];simp only[mem_cons,not_mem_nil,or_false];split<;>split<;>(try split)<;>omega
 .have u:x∈[a,b,c,d]:=u;simp only[mem_cons,not_mem_nil,or_false]at u;split<;>split<;>(try split)<;>omega
 .show _∈[a,b,c,d];simp only[mem_cons,not_mem_nil,or_false];split<;>split<;>(try split)<;>omega
 have u:x∈[a,b,c,d]:=u;simp only[mem_cons,not_mem_nil,or_false]at u;split<;>split<;>(try split)<;>omega
def Dst(az:L' Assign):Prop:=∀(i j:Nat)a b,i<j->az[i]?=some a->az[j]?=some b->a.var≠b.var
def uw(P:bU)(v k:Nat):Int:=((kF P k)[v]?).getD 0
theorem G_{P:bU}{v:Nat}(k:Nat)(a:v<P.vars.l.length):(kF P k)[v]?=some (uw P v k):=by unfold uw;rw[ζd (by rw[rF];exact a)];rfl
abbrev CA(P:bU)(v n:Nat):L' Int:=(range (n+1)).map (uw P v)
theorem OS{P:bU}{v n k:Nat}(h:k<=n):uw P v k∈CA P v n:=List.mem_map.2 ⟨k,List.mem_range.2 Zaa,rfl⟩
section
variable{P:bU}{v:Nat}
theorem Pg(D:xW P)(b:P.vars.l.length<1073741824)(U:P.events.l.length<1073741823)(G:∀e∈P.events.l,e.assign.l.length<1073741824)(B:v<P.vars.l.length):
 Wp (gm P v) λs=>s.l=CA P v P.events.l.length:=by
 obtain⟨r,c,C,I⟩:=Hf D b Zaa G
 have key:∀(a:L' (Int×Sl Int))(i:Nat)(q:Sl Int),r.drop i=a->i<=r.length->q.l=(range i).map (uw P v)->∃s,(kV (λ(x:Int×(Sl Int))(q:Sl Int)=>gm.jZ P v x q) a q).bind (Fw.qY (λq=>some q) (λe=>Empty.elim e) (λe=>Empty.elim e))=some s/\s.l=(range r.length).map (uw P v):=by
  intro a
  induction a with
  |nil=>
   intro i q hd hi z;have:r.length<=i:=by simpa using hd
   exact⟨q,rfl,by rw[z,show i=r.length from Zaa]⟩
  |cons y a J=>
   intro i q hd _ z;have u:i<r.length:=by apply byContradiction;intro S;rw[List.drop_eq_nil_of_le Zaa]at hd;cases hd
   have e2:=List.drop_eq_getElem_cons u;rw[e2]at hd;simp only[List.cons.injEq]at hd;obtain⟨T,L⟩:=I i y (by rw[ζd u,hd.1]);have O:idx y.2 (v:Int)=some (uw P v i):=by rw[kJ,L];exact G_ i B
   have Q:q.l.length=i:=by rw[z];simp
   have w:ga q (uw P v i)=some (.row (q.l++[uw P v i])):=by unfold ga;rw[if_pos Zaa]
   obtain⟨s,g1,g2⟩:=J (i+1) (.row (q.l++[uw P v i])) hd.2 Zaa (by show q.l++[uw P v i]=_;rw[z,List.range_succ,List.map_append];rfl);refine⟨s,?_,g2⟩;simp only[kV,gm.jZ,O,w,ζb];exact g1
 obtain⟨s,g1,g2⟩:=key r 0 .nil rfl (zero_le _) rfl;refine⟨s,?_,by show s.l=_;rw[g2,C]⟩
 unfold gm nT gm.E1;simp only[ζb,c];exact g1
theorem IJ{α:Type}{f:α->Bool}{l:L' α}{k:Nat}{x:α}(b:l[k]?=some x)(B:f x=true)(D:∀(j:Nat)(y:α),j<k->l[j]?=some y->f y=false):place f l=k:=by unfold place;have a:=(ζe.1 b);obtain⟨a,u⟩:=a;rw[show l.findIdx? f=some k from by rw[List.findIdx?_eq_some_iff_getElem];exact⟨a,by rw[u];exact B,λj w=>by rw[D j _ w (ζd Zaa)];simp⟩]
theorem GZ{t:Trace}(d:Small t)(e:cQ t=some true)(J:Ok t){n:Nat}(D:t.procs.l[n]?=some P){name:ByteArray}{x:Var}(c:P.vars.l[v]?=some x)(U:(toList x.name==toList name)=true)
 (W:∀(j:Nat)(w:Var),j<v->P.vars.l[j]?=some w->(toList w.name==toList name)=false):
 Wp (q_ t n name) λr=>r.2.2=0/\vc (CA P v P.events.l.length) r.1/\isMax (CA P v P.events.l.length) r.2.1:=by
 have O:n<t.procs.l.length:=(ζe.1 D).1;have Q:=mem_of_getElem? D;have u:=d.2 P Q;have C:v<P.vars.l.length:=(ζe.1 c).1;have I:P.events.l.length<=64:=by have:=J.heads n O;unfold rz at this;rw[D]at this;dsimp only at this;split at this;split at this;cases this;split at this;split at this;cases this;omega;rename_i G;exact absurd this G;cases this
 obtain⟨s,g1,g2⟩:=Pg (xW.of J D) u.2.1 Zaa u.2.2.2.2 C
 have g:s.l.length=P.events.l.length+1:=by rw[g2];simp[CA]
 obtain⟨a,a1,a2⟩:=Pu (s:=s) Zaa Zaa
 obtain⟨b,S,L⟩:=QS (s:=s) Zaa Zaa
 have B:sE t n name=some ((v:Int),0):=by unfold sE;rw[e,ζb,bF,decide_eq_false (show¬(n:Int)<0 by omega),bE,ζb,decide_eq_false (show¬(n:Int)>=len t.procs by simp only[len];omega),bE,kJ,D,ζb];unfold uN;rw[Dj (p:=λz=>oB z name) (f:=λw=>toList w.name==toList name) (λ_ _=>rfl) u.2.1,IJ c U W,ζb,ζb,decide_eq_false (show¬((v:Nat):Int)<0 by omega)];rfl
 unfold q_;rw[B,ζb];simp only;rw[show((0:Int)==0)=true from rfl,bF,kJ,D,ζb,g1,ζb,a1,ζb,S,ζb,bf];rw[g2]at a2 L;exact⟨rfl,a2,L⟩
def gZ(o:Lk Int)(b a:Int):Int×Int:=match o with
 |none=>(b,a)|some x=>(if x<b then x else b,if x>a then x else a)
end
section
variable{t:Trace}{A:cq 200 bD}
theorem CK(a:Small t){p:Nat}{P:bU}(D:t.procs.l[p]?=some P)(q:Nat):fc t p q=some ((P.events.l.countP (gy q):Nat):Int):=by
 have G:P∈t.procs.l:=mem_of_getElem? D;have I:=(a.2 P G).1;refine Wp.eq ?_;unfold fc;rw[kJ,D,ζb];unfold fc.W1;refine fH P.events.l.length (λn s=>s.2=(n:Int)/\s.1=(((P.events.l.take n).countP (gy q):Nat):Int)) ⟨rfl,rfl⟩ ?_ ?_;rintro n ⟨o,_⟩ w ⟨e1,e2⟩;simp only at e1 e2;subst e1 e2;have z:=List.countP_le_length (p:=gy q) (l:=P.events.l.take n);rw[List.length_take]at z;have u:(P.events.l.take (n+1)).countP (gy q)=(P.events.l.take n).countP (gy q)+if gy q P.events.l[n]then 1 else 0:=by rw[take_add_one,ζd w,List.countP_append];show _+List.countP _ [P.events.l[n]]=_;rw[List.countP_cons,List.countP_nil];simp
 unfold fc.bp;rw[jP w,bF,bG w,ζb];generalize P.events.l[n]=e at u;have B:(bg (e.kind==2) (some (e.peer==(q:Int))) (some false):Lk Bool)=some (gy q e):=by unfold gy;cases e.kind==2<;>cases e.peer==(q:Int)<;>rfl
 rw[B,ζb,cR n Zaa];cases C:gy q e with|true=>rw[C]at u;rw[bF,bf,cR _ Zaa];exact⟨rfl,by simp only[u];rfl⟩|false=>rw[C]at u;rw[bE,bf];exact⟨rfl,by simp only[u];rfl⟩
 rintro⟨o,_⟩ ⟨e1,e2⟩;simp only at e1 e2;subst e1 e2;unfold fc.bp;rw[jQ,bE,bf];exact(bf _).2 (by rw[take_length])
end
section
variable{t:Trace}
def zq(b a:Int):Bool:=decide (b>=-1125899906842624)&&decide (a<=1125899906842624)
structure uf(low high:Int):Prop where
 le:low<=high
 lo:-1125899906842624<=low
 hi:high<=1125899906842624
theorem Ds(b a:Int):je ⟨b,a⟩=some (!zq b a):=by
 unfold je zq;have c:decide (b< -1125899906842624)= !decide (b>=-1125899906842624):=by rw[Bool.eq_iff_iff];simp
 have u:decide (a>1125899906842624)= !decide (a<=1125899906842624):=by rw[Bool.eq_iff_iff];simp
 simp only;rw[c,u];cases decide (b>=-1125899906842624)<;>cases decide (a<=1125899906842624)<;>rfl
theorem uf.of{b a:Int}(h:b<=a)(g:zq b a=true):uf b a:=by simp only[zq,ζh]at g;have:=of_decide_eq_true g.1;have:=of_decide_eq_true g.2;exact⟨h,Zaa,Zaa⟩
end
section
variable{t:Trace}
theorem Hr(v:bR)(l h:Int)(r:Trace×Pred->Lk (bR×Bool)):cU.J2 v ⟨l,h⟩ r=some (⟨l,h⟩,zq l h):=by unfold cU.J2;rw[Ds,ζb,not_not]
theorem EF{ok B:Bool}(h:(ok&&B)=false)(p:Pred)(v a b:bR)(r:Trace×Pred->Lk (bR×Bool)):cU.J1 ok B p v a b r=some (⟨0,0⟩,false):=by unfold cU.J1;cases ok<;>cases B<;>first|rfl|cases h
theorem Sp{k:Int}(h:(sY k==1)=true):k<=8:=by unfold sY at h;by_cases g:k<=8;exact g;rw[if_neg g]at h;cases h
theorem Pred.parts{p:Pred}(B:fB p=true){c:Int}(a:cq.at z7 p.kind=some c):(p.l.l.length:Int)=c:=by obtain⟨-,-,h⟩:=w8 B;rw[a]at h;exact(Option.some.inj h).symm
structure wo(t:Trace)(p:Pred):Prop where
 sm:p.Sm
 f:p.lq fB=true
 r:p.lq (sQ t)=true
 y:p.lq yU=true
theorem wo.zC{p q:Pred}(h:wo t p)(B:q∈p.l.l):wo t q:=by obtain⟨a,u,w,z⟩:=h;rw[p.oQ,ζh,all_eq_true]at u w z;exact⟨a.zC B,u.2 q B,w.2 q B,z.2 q B⟩
theorem wo.here{p:Pred}(h:wo t p):fB p=true/\sQ t p=true/\yU p=true:=by obtain⟨a,u,w,z⟩:=h;rw[p.oQ,ζh]at u w z;exact⟨u.1,w.1,z.1⟩
theorem wo.int{p q:Pred}(h:wo t p)(a:p.kind<=12)(B:q∈p.l.l):q.kind<=8:=by have:=h.here.2.2;unfold yU at this;rw[all_eq_true]at this;have:=this q B;unfold B2 at this;rw[if_pos a]at this;exact Sp this
end
end Go.VE
namespace Go.VE
end Go.VE
namespace Go.VE
section
variable{t:Trace}{A:cq 200 bD}{P:bU}{v:Nat}
structure Up(t:Trace)(A:cq 200 bD)(c:Sl Int)(l:Sl (Sl Int)):Prop where
 hS:Small t
 hv:cQ t=some true
 hV:VT t
 hM:fR t (bO t) A
 hC:Cons t A c.l
 vals:∀(p:Nat)(P:bU)(a:Int),t.procs.l[p]?=some P->c.l[p]?=some a->∃x,l.l[p]?=some x/\x.l=kF P a.toNat
end
end Go.VE
namespace Go.VE
section
variable{t:Trace}
theorem Ri{p:Pred}(B:tZ p=true)(a:wo t p):sC p=some (sY p.kind,0):=by have u:=a.sm;have hd:=B;simp only[tZ,ζh,decide_eq_true_eq]at hd;unfold sC;rw[zW u,B,ζb,bF,GR u Zaa,a.y,ζb,bF,BK];rfl
end
theorem FN{a b x:Int}(c:a<=x)(B:x<=b)(y:Int){lo hi:Int}(D:lo<=a*y/\a*y<=hi)(G:lo<=b*y/\b*y<=hi):lo<=x*y/\x*y<=hi:=by by_cases h:0<=y;have p1:=Int.mul_le_mul_of_nonneg_right c h;have p2:=Int.mul_le_mul_of_nonneg_right B h;omega;have p1:=Int.mul_le_mul_of_nonpos_right c (show y<=0 by omega);have p2:=Int.mul_le_mul_of_nonpos_right B (show y<=0 by omega);omega
theorem V1{a b c d x y lo hi:Int}(f:a<=x)(W:x<=b)(B:c<=y)(D:y<=d)(e:lo<=a*c/\a*c<=hi)(G:lo<=a*d/\a*d<=hi)(J:lo<=b*c/\b*c<=hi)(U:lo<=b*d/\b*d<=hi):lo<=x*y/\x*y<=hi:=by refine FN f W y ?_ ?_;rw[mul_comm a y];rw[mul_comm a c]at e;rw[mul_comm a d]at G;exact FN B D a e G;rw[mul_comm b y];rw[mul_comm b c]at J;rw[mul_comm b d]at U;exact FN B D b J U
theorem Yj{a b m:Int}(h:(if 0-a>a then 0-a else a)*(if 0-b>b then 0-b else b)<=m):-m<=a*b/\a*b<=m:=by
 have c:∀u w:Int,0<=u->0<=w->0<=u*w:=λu w=>Int.mul_nonneg;have e1:(0-a)*b=-(a*b):=by rw[zero_sub,Int.neg_mul]
 have e2:a*(0-b)=-(a*b):=by rw[zero_sub,Int.mul_neg]
 have e3:(0-a)*(0-b)=a*b:=by rw[zero_sub,zero_sub,Int.neg_mul_neg]
 by_cases z:0-a>a<;>by_cases B:0-b>b;rw[if_pos z,if_pos B]at h;have:=c (0-a) (0-b) Zaa Zaa;omega;rw[if_pos z,if_neg B]at h;have:=c (0-a) b Zaa Zaa;omega;rw[if_neg z,if_pos B]at h;have:=c a (0-b) Zaa Zaa;omega;rw[if_neg z,if_neg B]at h;have:=c a b Zaa Zaa;omega
def Gl(k x y:Int):Int:=if k=5 then wrap .i64 (0-x)else if k=6 then wrap .i64 (x+y)else if k=7 then wrap .i64 (x-y)else wrap .i64 (x*y)
section
variable{t:Trace}{A:cq 200 bD}
end
section
variable{t:Trace}
end
section
variable{t:Trace}
end
theorem II{α:Type}{f:α->Bool}:∀{l:L' α},l.any f=true->∃(k:Nat)(x:α),l[k]?=some x/\f x=true/\∀(j:Nat)(y:α),j<k->l[j]?=some y->f y=false
 |[],h=>by simp at h|a::r,h=>by by_cases B:f a=true;exact⟨0,a,rfl,B,λj y D=>absurd D Zaa⟩;rw[any_cons,Bool.or_eq_true]at h;obtain⟨k,x,b,G,J⟩:=II (h.resolve_left B);refine⟨k+1,x,by simpa using b,G,λj y D u=>?_⟩;cases j with|zero=>simp at u;subst u;simpa using B|succ j=>exact J j y Zaa (by simpa using u)
section
variable{t:Trace}
theorem QJ(d:Small t){q:Pred}(b:q.kind=2)(a:sQ t q=true):∃(n k:Nat)(P:bU)(v:Var),q.proc=n/\t.procs.l[n]?=some P/\P.vars.l[k]?=some v/\(toList v.name==toList q.name)=true/\∀(j:Nat)(w:Var),j<k->P.vars.l[j]?=some w->(toList w.name==toList q.name)=false:=by unfold sQ at a;rw[if_pos (by simpa using b)]at a;simp only[ζh]at a;obtain⟨C,-,u⟩:=a;obtain⟨n,z,B⟩:=vM (t:=t) (p:=q.proc) (by simp only[ζh];exact C);unfold Nb at u;rw[z,bG B]at u;obtain⟨k,v,c,D,G⟩:=II u;exact⟨n,k,_,v,z,ζd B,c,D,G⟩
theorem QB(d:Small t)(f:cQ t=some true)(D:Ok t){q:Pred}(G:fB q=true)(b:sQ t q=true)(i:q.kind<=4):∃c a,gC t q=some ⟨c,a⟩/\c<=a:=by obtain⟨k1,-,-⟩:=w8 G;rcases(show q.kind=1\/q.kind=2\/q.kind=3\/q.kind=4 by omega)with h|h|h|h;refine⟨q.n,q.n,?_,le_refl _⟩;unfold gC;rw[show(q.kind==1)=true from by simpa using h,bF,T_];rfl;obtain⟨n,k,P,v,u,w,z,g,C⟩:=QJ d h b;obtain⟨⟨c,a,e⟩,g1,g2,g3,g4⟩:=GZ d f D w (name:=q.name) z g C;simp only at g2 g3 g4;subst g2;refine⟨c,a,?_,g4.2 _ g3.1⟩;unfold gC;rw[h,show((2:Int)==1)=false from rfl,bE,show((2:Int)==3)=false from rfl,bE,show((2:Int)==4)=false from rfl,bE,u,g1];rfl;unfold sQ at b;rw[if_neg (by simp[h]),if_pos (by simpa using h)]at b;simp only[ζh]at b;obtain⟨n,u,B⟩:=vM (t:=t) (p:=q.proc) (by simp only[ζh];exact b.1);refine⟨0,len t.procs.l[n].events,?_,by simp only[len];omega⟩;unfold gC;rw[h,show((3:Int)==1)=false from rfl,bE,show((3:Int)==3)=true from rfl,bF,u,bG B];rfl;unfold sQ at b;rw[if_neg (by simp[h]),if_neg (by simp[h]),if_pos (by simpa using h)]at b;simp only[ζh]at b;obtain⟨n,u,B⟩:=vM (t:=t) (p:=q.proc) (by simp only[ζh];exact b.1);obtain⟨m,I,J⟩:=vM (t:=t) (p:=q.peer) (by simp only[ζh];exact b.2.1);have w:=ζd B;refine⟨0,((t.procs.l[n].events.l.countP (gy m):Nat):Int),?_,Zaa⟩;unfold gC;rw[h,show((4:Int)==1)=false from rfl,bE,show((4:Int)==3)=false from rfl,bE,show((4:Int)==4)=true from rfl,bF,u,I,CK d w];rfl
theorem nN{a b:Int}(B:-1125899906842624<=a/\a<=1125899906842624)(D:-1125899906842624<=b/\b<=1125899906842624):∃x,gY a b=some x:=by
 unfold gY qT;by_cases c:a=0;subst c;exact⟨_,rfl⟩;rw[show(a==0)=false from by simpa using c,bE,ζb];by_cases d:b=0;subst d;exact⟨_,rfl⟩;rw[show(b==0)=false from by simpa using d,bE,ζb,ζb,eF (0-b) Zaa Zaa];have:∀k m:Int,m≠0->∃x,Ag .i64 k m=some x:=λk m u=>by unfold Ag;rw[if_neg u];exact⟨_,rfl⟩
 obtain⟨x,w⟩:=this 1125899906842624 (if 0-b>b then 0-b else b) (by split<;>omega);rw[w,ζb];cases decide ((if wrap .i64 (0-a)>a then wrap .i64 (0-a)else a)>x)<;>cases(decide (a<0)==decide (b<0))<;>exact⟨_,rfl⟩
theorem HL{p:Pred}(i:5<=p.kind/\p.kind<=8){a b c d:Int}(g:uf a b)(B:uf c d)(v:bR)(r:Trace×Pred->Lk (bR×Bool)):
 ∃f e,cU.J1 true true p v ⟨a,b⟩ ⟨c,d⟩ r=some (⟨f,e⟩,zq f e)/\f<=e:=by
 obtain⟨a1,a2,a3⟩:=g;obtain⟨L,O,Q⟩:=B;unfold cU.J1;rw[bF,ζb,show(!true)=false from rfl,bE];rcases(show p.kind=5\/p.kind=6\/p.kind=7\/p.kind=8 by omega)with h|h|h|h<;>rw[h]
 .refine⟨-b,-a,?_,Zaa⟩
  rw[show((5:Int)==5)=true from rfl,bF,Hr];simp only;rw[eF (0-b) Zaa Zaa,eF (0-a) Zaa Zaa,show(0:Int)-b=-b from Zaa,show(0:Int)-a=-a from Zaa]
 .refine⟨a+c,b+d,?_,Zaa⟩
  rw[show((6:Int)==5)=false from rfl,bE,show((6:Int)==6)=true from rfl,bF,Hr];simp only;rw[eF (a+c) Zaa Zaa,eF (b+d) Zaa Zaa]
 .refine⟨a-d,b-c,?_,Zaa⟩
  rw[show((7:Int)==5)=false from rfl,bE,show((7:Int)==6)=false from rfl,bE,show((7:Int)==7)=true from rfl,bF,Hr];simp only;rw[eF (a-d) Zaa Zaa,eF (b-c) Zaa Zaa]
 obtain⟨w,C⟩:=nN (a:=a) (b:=c) ⟨Zaa,Zaa⟩ ⟨Zaa,Zaa⟩
 obtain⟨x,D⟩:=nN (a:=a) (b:=d) ⟨Zaa,Zaa⟩ ⟨Zaa,Zaa⟩
 obtain⟨y,G⟩:=nN (a:=b) (b:=c) ⟨Zaa,Zaa⟩ ⟨Zaa,Zaa⟩
 obtain⟨z,I⟩:=nN (a:=b) (b:=d) ⟨Zaa,Zaa⟩ ⟨Zaa,Zaa⟩
 refine⟨if(if z<y then z else y)<(if x<w then x else w)then(if z<y then z else y)else(if x<w then x else w),if(if z>y then z else y)>(if x>w then x else w)then(if z>y then z else y)else(if x>w then x else w),?_,?_⟩
 .rw[show((8:Int)==5)=false from rfl,bE,show((8:Int)==6)=false from rfl,bE,show((8:Int)==7)=false from rfl,bE];simp only;rw[C,D,G,I];simp only[ζb];rw[Uz,ζb,Hr]
 have J:(if z<y then z else y)<=(if z>y then z else y):=by split<;>split<;>omega
 have u:(if x<w then x else w)<=(if x>w then x else w):=by split<;>split<;>omega
 split<;>split<;>omega
theorem U4(g:Small t)(k:cQ t=some true)(U:Ok t)(p:Pred):wo t p->p.kind<=8->∀n,p.dp<=n->
 ∃i ok,g_ (λr(z:Trace×Pred)=>di z.1 z.2 r) n (t,p)=some (i,ok)/\(ok=true->uf i.low i.high):=by
 induction p using Pred.ind with
 |h p u=>
  intro e m n Z;have hd:=p.zB;obtain⟨w,l,o⟩:=e.here;obtain⟨k1,-,-⟩:=w8 w;rw[lB Zaa]
  have u:=λq G=>u q G (e.zC G) (e.int Zaa G) (n-1) (by have:=Pred.rJ G;omega)
  show∃i ok,di t p (g_ (λr(z:Trace×Pred)=>di z.1 z.2 r) (n-1))=some (i,ok)/\_
  generalize g_ (λr(z:Trace×Pred)=>di z.1 z.2 r) (n-1)=R at u⊢
  unfold di
  by_cases T:p.kind<=4
  .have I:p.l.l.length=0:=by
    have:=Pred.parts w (c:=0) (by rcases(show p.kind=1\/p.kind=2\/p.kind=3\/p.kind=4 by omega)with h|h|h|h<;>(rw[h];rfl))
    omega
   obtain⟨b,a,g1,g2⟩:=QB g k U w l T;refine⟨⟨b,a⟩,zq b a,?_,λh=>uf.of g2 h⟩
   rw[show(len p.l==0)=true from by simp[len,I],bF,g1,ζb,Ds,ζb,not_not]
  by_cases W:p.kind=5
  .have B:p.l.l.length=1:=by
    have:=Pred.parts w (c:=1) (by rw[W];rfl)
    omega
   have d:0<p.l.l.length:=Zaa
   obtain⟨i,ok,g1,g3⟩:=u _ (getElem_mem d);have J:idx p.l 0=some p.l.l[0]:=bG (i:=0) d;rw[show(len p.l==0)=false from by simp[len,B],bE,J,ζb,g1,ζb,show(len p.l==2)=false from by simp[len,B],bE]
   simp only
   cases ok with
   |false=>rw[EF rfl];exact⟨_,false,rfl,λh=>by cases h⟩|true=>
    obtain⟨b,a,L,O⟩:=HL (p:=p) ⟨Zaa,Zaa⟩ (g3 rfl) (g3 rfl) ⟨0,0⟩ R
    exact⟨_,_,L,λh=>uf.of O h⟩
  have C:p.l.l.length=2:=by have:=Pred.parts w (c:=2) (by rcases(show p.kind=6\/p.kind=7\/p.kind=8 by omega)with h|h|h<;>(rw[h];rfl));omega
  have d:0<p.l.l.length:=Zaa
  have f:1<p.l.l.length:=Zaa
  obtain⟨i,ok,g1,g3⟩:=u _ (getElem_mem d);obtain⟨j,D,X,Y⟩:=u _ (getElem_mem f);have J:idx p.l 0=some p.l.l[0]:=bG (i:=0) d;have Q:idx p.l 1=some p.l.l[1]:=bG (i:=1) f;rw[show(len p.l==0)=false from by simp[len,C],bE,J,ζb,g1,ζb,show(len p.l==2)=true from by simp[len,C],bF,Q,ζb,X,ζb]
  simp only
  cases S:ok&&D with
  |false=>rw[EF S];exact⟨_,false,rfl,λh=>by cases h⟩|true=>
   simp only[ζh]at S;obtain⟨rfl,rfl⟩:=S;obtain⟨b,a,L,O⟩:=HL (p:=p) ⟨Zaa,Zaa⟩ (g3 rfl) (Y rfl) ⟨0,0⟩ R
   exact⟨_,_,L,λh=>uf.of O h⟩
theorem Yn(d:Small t)(e:cQ t=some true)(B:Ok t)(p:Pred):wo t p->p.dp<=20->∀n,p.dp<=n->∃b,g_ (λr(z:Trace×Pred)=>gV z.1 z.2 r) n (t,p)=some b:=by
 induction p using Pred.ind with|h p w=>
  intro a hd n D;have C:=p.zB;rw[lB Zaa];have w:=λq u=>w q u (a.zC u) (by have:=Pred.rJ u;omega) (n-1) (by have:=Pred.rJ u;omega);show∃b,gV t p (g_ (λr(z:Trace×Pred)=>gV z.1 z.2 r) (n-1))=some b;generalize g_ (λr(z:Trace×Pred)=>gV z.1 z.2 r) (n-1)=R at w⊢;unfold gV;rw[BK,ζb];by_cases c:p.kind<=8;rw[show(sY p.kind==1)=true from by simp[sY,c],bF];obtain⟨i,ok,g1,-⟩:=U4 d e B p a c 100000 Zaa;exact⟨ok,by rw[show cU t p=_ from g1];rfl⟩;rw[show(sY p.kind==1)=false from by simp[sY,c],bE];let g:Pred->Bool:=λq=>(R (t,q)).getD false;have j:∀q∈p.l.l,R (t,q)=some (g q):=λq u=>by obtain⟨b,k⟩:=w q u;show _=some ((R (t,q)).getD false);rw[k];rfl
  rw[BW _ a.sm.len,Az (f:=λq=> !g q) (λq u=>by unfold oE;rw[j q u];rfl)];exact⟨_,rfl⟩
theorem Ya(a:Small t)(D:(bO t).length<1073741824){p:Pred}(B:p.Sm):
 ∃e,rI t p=some e/\(e=0->cQ t=some true/\VT t/\tZ p=true/\wo t p):=by
 obtain⟨z,c,w,-⟩:=JS a D;unfold rI;rw[c,ζb]
 cases z with
 |false=>exact⟨1,rfl,λh=>by cases h⟩|true=>
  have d:=w rfl;rw[bF,zW B,ζb]
  cases C:tZ p with
  |false=>exact⟨1,rfl,λh=>by cases h⟩|true=>
   have u:=C;simp only[tZ,ζh]at u;have hd:=of_decide_eq_true u.2.1;unfold uA;rw[show(!true)=false from rfl,ζb,bE,Jx a B Zaa,ζb]
   cases g:p.lq (sQ t)with
   |false=>exact⟨13,rfl,λh=>by cases h⟩|true=>
    rw[bF,GR B Zaa,ζb]
    cases G:p.lq yU with
    |false=>exact⟨14,rfl,λh=>by cases h⟩|true=>
     have f:wo t p:=⟨B,u.2.2,g,G⟩;obtain⟨b,g1⟩:=Yn a c d.ok p f hd 100000 Zaa
     rw[bF,g1,ζb]
     cases b with
     |false=>exact⟨9,rfl,λh=>by cases h⟩|true=>exact⟨0,rfl,λ_=>⟨rfl,d,rfl,f⟩⟩
end
theorem x_{a b x:Int}(B:-1125899906842624<=a/\a<=1125899906842624)(D:-1125899906842624<=b/\b<=1125899906842624)(h:gY a b=some x)(G:-1125899906842624<=x/\x<=1125899906842624):a*b=x:=by
 unfold gY qT at h;by_cases c:a=0;subst c;rw[show(0:Int)*b=0 from Zaa];exact Option.some.inj h;rw[show(a==0)=false from by simpa using c,bE,ζb]at h;by_cases d:b=0;subst d;rw[show a*(0:Int)=0 from Zaa];exact Option.some.inj h;rw[show(b==0)=false from by simpa using d,bE,ζb,ζb,eF (0-b) Zaa Zaa,eF (0-a) Zaa Zaa]at h;have u:0<(if 0-b>b then 0-b else b):=by split<;>omega
 unfold Ag at h;rw[if_neg Zaa,ζb,Int.tdiv_eq_ediv_of_nonneg Zaa]at h;have hd:(1125899906842624:Int) / (if 0-b>b then 0-b else b)<=1125899906842624:=Int.ediv_le_self _ Zaa;have w:0<=(1125899906842624:Int) / (if 0-b>b then 0-b else b):=Int.ediv_nonneg Zaa Zaa;rw[eF ((1125899906842624:Int) / (if 0-b>b then 0-b else b)) Zaa Zaa]at h;by_cases e:(if 0-a>a then 0-a else a)>(1125899906842624:Int) / (if 0-b>b then 0-b else b);rw[decide_eq_true e,bF,eF (0-1125899906842625) Zaa Zaa]at h;exfalso;revert h;cases(decide (a<0)==decide (b<0))<;>intro h;have:=Option.some.inj h;omega;have:=Option.some.inj h;omega;rw[decide_eq_false e,bE]at h;have z:=Yj (Int.mul_le_of_le_ediv u (show(if 0-a>a then 0-a else a)<=(1125899906842624:Int) / (if 0-b>b then 0-b else b)from Zaa));rw[eF (a*b) Zaa Zaa]at h;exact Option.some.inj h
def LZ(k x y:Int):Int:=if k=5 then 0-x else if k=6 then x+y else if k=7 then x-y else x*y
theorem Iu{p:Pred}(i:5<=p.kind/\p.kind<=8){a b c d x y:Int}(g:uf a b)(U:uf c d)(D:a<=x/\x<=b)(G:c<=y/\y<=d)(v:bR)(r:Trace×Pred->Lk (bR×Bool)):
 ∃f e,cU.J1 true true p v ⟨a,b⟩ ⟨c,d⟩ r=some (⟨f,e⟩,zq f e)/\f<=e/\(zq f e=true->f<=LZ p.kind x y/\LZ p.kind x y<=e):=by
 obtain⟨a1,a2,a3⟩:=g;obtain⟨Z,j,k⟩:=U;unfold cU.J1;rw[bF,ζb,show(!true)=false from rfl,bE];rcases(show p.kind=5\/p.kind=6\/p.kind=7\/p.kind=8 by omega)with h|h|h|h<;>rw[h]
 .refine⟨-b,-a,?_,Zaa,λ_=>?_⟩
  .rw[show((5:Int)==5)=true from rfl,bF,Hr];simp only;rw[eF (0-b) Zaa Zaa,eF (0-a) Zaa Zaa,show(0:Int)-b=-b from Zaa,show(0:Int)-a=-a from Zaa]
  show -b<=(0-x)/\(0-x)<=-a;omega
 .refine⟨a+c,b+d,?_,Zaa,λ_=>?_⟩
  .rw[show((6:Int)==5)=false from rfl,bE,show((6:Int)==6)=true from rfl,bF,Hr];simp only;rw[eF (a+c) Zaa Zaa,eF (b+d) Zaa Zaa]
  show a+c<=(x+y)/\(x+y)<=b+d;omega
 .refine⟨a-d,b-c,?_,Zaa,λ_=>?_⟩
  .rw[show((7:Int)==5)=false from rfl,bE,show((7:Int)==6)=false from rfl,bE,show((7:Int)==7)=true from rfl,bF,Hr];simp only;rw[eF (a-d) Zaa Zaa,eF (b-c) Zaa Zaa]
  show a-d<=(x-y)/\(x-y)<=b-c;omega
 obtain⟨w,I⟩:=nN (a:=a) (b:=c) ⟨Zaa,Zaa⟩ ⟨Zaa,Zaa⟩
 obtain⟨z,J⟩:=nN (a:=a) (b:=d) ⟨Zaa,Zaa⟩ ⟨Zaa,Zaa⟩
 obtain⟨m,O⟩:=nN (a:=b) (b:=c) ⟨Zaa,Zaa⟩ ⟨Zaa,Zaa⟩
 obtain⟨n,Q⟩:=nN (a:=b) (b:=d) ⟨Zaa,Zaa⟩ ⟨Zaa,Zaa⟩
 refine⟨if(if n<m then n else m)<(if z<w then z else w)then(if n<m then n else m)else(if z<w then z else w),if(if n>m then n else m)>(if z>w then z else w)then(if n>m then n else m)else(if z>w then z else w),?_,?_,λB=>?_⟩
 .rw[show((8:Int)==5)=false from rfl,bE,show((8:Int)==6)=false from rfl,bE,show((8:Int)==7)=false from rfl,bE];simp only;rw[I,J,O,Q];simp only[ζb];rw[Uz,ζb,Hr]
 .have T:(if n<m then n else m)<=(if n>m then n else m):=by split<;>split<;>omega
  have S:(if z<w then z else w)<=(if z>w then z else w):=by split<;>split<;>omega
  split<;>split<;>omega
 generalize W:(if(if n<m then n else m)<(if z<w then z else w)then(if n<m then n else m)else(if z<w then z else w))=L at B⊢;generalize X:(if(if n>m then n else m)>(if z>w then z else w)then(if n>m then n else m)else(if z>w then z else w))=H at B⊢;simp only[zq,ζh]at B;have o1:=of_decide_eq_true B.1;have o2:=of_decide_eq_true B.2;have l:L<=n/\L<=m/\L<=z/\L<=w:=by
  rw[<-W];have g1:(if n<m then n else m)<=n/\(if n<m then n else m)<=m:=by split<;>omega
  have g2:(if z<w then z else w)<=z/\(if z<w then z else w)<=w:=by split<;>omega
  generalize(if n<m then n else m)=u at g1;generalize(if z<w then z else w)=Y at g2;split<;>omega
 have o:n<=H/\m<=H/\z<=H/\w<=H:=by
  rw[<-X];have g1:n<=(if n>m then n else m)/\m<=(if n>m then n else m):=by split<;>omega
  have g2:z<=(if z>w then z else w)/\w<=(if z>w then z else w):=by split<;>omega
  generalize(if n>m then n else m)=u at g1;generalize(if z>w then z else w)=Y at g2;split<;>omega
 have t1:=x_ ⟨Zaa,Zaa⟩ ⟨Zaa,Zaa⟩ I Zaa
 have t2:=x_ ⟨Zaa,Zaa⟩ ⟨Zaa,Zaa⟩ J Zaa
 have t3:=x_ ⟨Zaa,Zaa⟩ ⟨Zaa,Zaa⟩ O Zaa
 have t4:=x_ ⟨Zaa,Zaa⟩ ⟨Zaa,Zaa⟩ Q Zaa
 have C:=V1 (lo:=L) (hi:=H) D.1 D.2 G.1 G.2 Zaa Zaa Zaa Zaa
 exact C
section
variable{t:Trace}{A:cq 200 bD}
theorem V4{c:Sl Int}{l:Sl (Sl Int)}(h:Up t A c l){q:Pred}(E:fB q=true)(g:sQ t q=true)(M:q.kind<=4):
 ∃i d x,gC t q=some ⟨i,d⟩/\(∀R,cH ⟨t,c,l⟩ q R=some x)/\i<=x/\x<=d:=by
 obtain⟨o,s,r,y,j,I⟩:=h;obtain⟨k1,-,-⟩:=w8 E;rcases(show q.kind=1\/q.kind=2\/q.kind=3\/q.kind=4 by omega)with h|h|h|h
 .refine⟨q.n,q.n,q.n,?_,λR=>?_,le_refl _,le_refl _⟩
  .unfold gC;rw[show(q.kind==1)=true from by simpa using h,bF,T_];rfl
  unfold cH;rw[h];rfl
 .obtain⟨n,k,P,v,D,C,J,h1,W⟩:=QJ o h g;obtain⟨⟨i,d,e⟩,g1,g2,g3,g4⟩:=GZ o s r.ok C (name:=q.name) J h1 W;simp only at g2 g3 g4;subst g2;have S:=(ζe.1 J).1;have B:=(ζe.1 C).1;obtain⟨a,L⟩:=j.1.at_ B;obtain⟨a0,a1⟩:=j.1.2 n a P L C;obtain⟨x,Z,T⟩:=I n P a C L;have G:uw P k a.toNat∈CA P k P.events.l.length:=OS Zaa
  refine⟨i,d,uw P k a.toNat,?_,λR=>?_,g3.2 _ G,g4.2 _ G⟩
  .unfold gC;rw[h,show((2:Int)==1)=false from rfl,bE,show((2:Int)==3)=false from rfl,bE,show((2:Int)==4)=false from rfl,bE,D,g1];rfl
  unfold cH;rw[h,show((2:Int)==1)=false from rfl,bE,show((2:Int)==2)=true from rfl,bF];unfold ou;simp only;rw[D,kJ,C,ζb,Dj (p:=λz=>kg z q) (f:=λw=>toList w.name==toList q.name) (λ_ _=>rfl) (o.2 P (mem_of_getElem? C)).2.1,IJ J h1 W,ζb,kJ,Z,ζb,kJ,T,G_ _ S]
  rfl
 .unfold sQ at g;rw[if_neg (by simp[h]),if_pos (by simpa using h)]at g
  simp only[ζh]at g;obtain⟨n,D,O⟩:=vM (t:=t) (p:=q.proc) (by simp only[ζh];exact g.1)
  obtain⟨a,L⟩:=j.1.at_ O;obtain⟨a0,a1⟩:=j.1.2 n a _ L (ζd O);refine⟨0,len t.procs.l[n].events,a,?_,λR=>?_,Zaa,by simp only[len];omega⟩
  .unfold gC;rw[h,show((3:Int)==1)=false from rfl,bE,show((3:Int)==3)=true from rfl,bF,D,bG O];rfl
  unfold cH;rw[h,show((3:Int)==1)=false from rfl,bE,show((3:Int)==2)=false from rfl,bE,show((3:Int)==3)=true from rfl,bF];simp only;rw[D,kJ,L];rfl
 unfold sQ at g;rw[if_neg (by simp[h]),if_neg (by simp[h]),if_pos (by simpa using h)]at g
 simp only[ζh]at g;obtain⟨n,D,O⟩:=vM (t:=t) (p:=q.proc) (by simp only[ζh];exact g.1)
 obtain⟨m,X,B⟩:=vM (t:=t) (p:=q.peer) (by simp only[ζh];exact g.2.1)
 have C:=ζd O;have F:=ζd B;obtain⟨a,L⟩:=j.1.at_ O;obtain⟨b,H⟩:=j.1.at_ B;obtain⟨⟨u,e2⟩,K,U,Q⟩:=Si o s r y j O B;simp only at U Q;rw[GM r y j C F L H]at Q;have N:((t.procs.l[n].events.l.take a.toNat).countP λe=>gy m e&&rq t c.l e)<=t.procs.l[n].events.l.countP (gy m):=by refine Nat.le_trans (List.countP_mono_left λe _ Y=>?_) (List.Sublist.countP_le (List.take_sublist a.toNat _));simp only[ζh]at Y;exact Y.1
 refine⟨0,((t.procs.l[n].events.l.countP (gy m):Nat):Int),len u,?_,λR=>?_,by simp only[len];omega,by simp only[len];omega⟩
 .unfold gC;rw[h,show((4:Int)==1)=false from rfl,bE,show((4:Int)==3)=false from rfl,bE,show((4:Int)==4)=true from rfl,bF,D,X,CK o C];rfl
 unfold cH;rw[h,show((4:Int)==1)=false from rfl,bE,show((4:Int)==2)=false from rfl,bE,show((4:Int)==3)=false from rfl,bE,show((4:Int)==4)=true from rfl,bF];unfold oU;simp only;rw[D,X,K];rfl
noncomputable abbrev Fp(n:Nat)(v:ck)(q:Pred):Lk Int:=g_ (λr(z:ck×Pred)=>cH z.1 z.2 r) n (v,q)
noncomputable abbrev Fk(n:Nat)(t:Trace)(q:Pred):Lk (bR×Bool):=g_ (λr(z:Trace×Pred)=>di z.1 z.2 r) n (t,q)
def ZL(t:Trace)(c:Sl Int)(l:Sl (Sl Int))(q:Pred)(i:bR)(ok:Bool)(x:Int):Prop:=(∀n,q.dp<=n->Fk n t q=some (i,ok)/\Fp n ⟨t,c,l⟩ q=some x)/\(ok=true->∃b a,i=⟨b,a⟩/\uf b a/\b<=x/\x<=a)
theorem uf.Gl{a b c d x y k f e:Int}(g:uf a b)(D:uf c d)(G:a<=x/\x<=b)(J:c<=y/\y<=d)(B:zq f e=true)(h:f<=LZ k x y/\LZ k x y<=e):Gl k x y=LZ k x y:=by simp only[zq,ζh]at B;have o1:=of_decide_eq_true B.1;have o2:=of_decide_eq_true B.2;obtain⟨a1,a2,a3⟩:=g;obtain⟨u,w,z⟩:=D;unfold VE.Gl LZ at *;split;exact eF _ Zaa Zaa;split;exact eF _ Zaa Zaa;split;exact eF _ Zaa Zaa;rw[if_neg (by assumption),if_neg (by assumption),if_neg (by assumption)]at h;exact eF _ Zaa Zaa
theorem XS{c:Sl Int}{l:Sl (Sl Int)}(h:Up t A c l)(q:Pred):wo t q->q.kind<=8->∃i ok x,ZL t c l q i ok x:=by
 induction q using Pred.ind with|h q O=>
  intro o hk;have hd:=q.zB;obtain⟨Q,N,hy⟩:=o.here;obtain⟨k1,-,-⟩:=w8 Q;have O:=λq Z=>O q Z (o.zC Z) (o.int Zaa Z);by_cases P:q.kind<=4;have V:q.l.l.length=0:=by have:=Pred.parts Q (c:=0) (by rcases(show q.kind=1\/q.kind=2\/q.kind=3\/q.kind=4 by omega)with h|h|h|h<;>(rw[h];rfl));omega
  obtain⟨k,f,x,g1,g2,g3,g5⟩:=V4 h Q N P;refine⟨⟨k,f⟩,zq k f,x,λn w=>⟨?_,?_⟩,λab=>⟨k,f,rfl,uf.of Zaa ab,g3,g5⟩⟩;unfold Fk;rw[lB Zaa];show di t q _=_;unfold di;rw[show(len q.l==0)=true from by simp[len,V],bF,g1,ζb,Ds,ζb,not_not];unfold Fp;rw[lB Zaa];exact g2 _;have u:∀j:Int,j<5->(q.kind==j)=false:=λj hj=>by simp;omega
  by_cases F:q.kind=5;have S:q.l.l.length=1:=by have:=Pred.parts Q (c:=1) (by rw[F];rfl);omega
  have m:0<q.l.l.length:=Zaa;obtain⟨i,ok,x,g,g3⟩:=O _ (getElem_mem m);have ad:=Pred.rJ (getElem_mem m);have T:idx q.l 0=some q.l.l[0]:=bG (i:=0) m;have D:∀n,q.dp<=n->Fk n t q=cU.J1 ok true q ⟨0,0⟩ i i (λ_=>none):=λn w=>by have e:=(g (n-1) Zaa).1;unfold Fk at e⊢;rw[lB Zaa];show di t q _=_;generalize g_ (λr(z:Trace×Pred)=>di z.1 z.2 r) (n-1)=R at e⊢;unfold di;rw[show(len q.l==0)=false from by simp[len,S],bE,T,ζb,e,ζb,show(len q.l==2)=false from by simp[len,S],bE];rfl
  have B:∀n,q.dp<=n->Fp n ⟨t,c,l⟩ q=some (Gl q.kind x x):=λn w=>by have e:=(g (n-1) Zaa).2;unfold Fp at e⊢;rw[lB Zaa];show cH ⟨t,c,l⟩ q _=_;generalize g_ (λr(z:ck×Pred)=>cH z.1 z.2 r) (n-1)=R at e⊢;unfold cH;rw[u 1 Zaa,u 2 Zaa,u 3 Zaa,u 4 Zaa,bE,bE,bE,bE,F,show((5:Int)==5)=true from rfl,bF,T,ζb,e];rfl
  cases ok with|false=>rw[EF rfl]at D;exact⟨_,false,_,λn w=>⟨D n w,B n w⟩,λh=>by cases h⟩|true=>obtain⟨a,b,rfl,G,I,x2⟩:=g3 rfl;obtain⟨k,f,s,v,U⟩:=Iu (p:=q) ⟨Zaa,Zaa⟩ G G ⟨I,x2⟩ ⟨I,x2⟩ ⟨0,0⟩ (λ_=>none);refine⟨_,_,_,λn w=>⟨(D n w).trans s,B n w⟩,λh=>⟨k,f,rfl,uf.of v h,?_⟩⟩;rw[uf.Gl G G ⟨I,x2⟩ ⟨I,x2⟩ h (U h)];exact U h
  have W:q.l.l.length=2:=by have:=Pred.parts Q (c:=2) (by rcases(show q.kind=6\/q.kind=7\/q.kind=8 by omega)with h|h|h<;>(rw[h];rfl));omega
  have m:0<q.l.l.length:=Zaa;have E:1<q.l.l.length:=Zaa;obtain⟨i,ok,x,g,g3⟩:=O _ (getElem_mem m);obtain⟨j,C,y,H,q3⟩:=O _ (getElem_mem E);have ad:=Pred.rJ (getElem_mem m);have ae:=Pred.rJ (getElem_mem E);have T:idx q.l 0=some q.l.l[0]:=bG (i:=0) m;have X:idx q.l 1=some q.l.l[1]:=bG (i:=1) E;have D:∀n,q.dp<=n->Fk n t q=cU.J1 ok C q ⟨0,0⟩ i j (λ_=>none):=λn w=>by have e:=(g (n-1) Zaa).1;have J:=(H (n-1) Zaa).1;unfold Fk at e J⊢;rw[lB Zaa];show di t q _=_;generalize g_ (λr(z:Trace×Pred)=>di z.1 z.2 r) (n-1)=R at e J⊢;unfold di;rw[show(len q.l==0)=false from by simp[len,W],bE,T,X];simp only[ζb];simp only[e,J,ζb];rw[show(len q.l==2)=true from by simp[len,W]];rfl
  have B:∀n,q.dp<=n->Fp n ⟨t,c,l⟩ q=some (Gl q.kind x y):=λn w=>by have e:=(g (n-1) Zaa).2;have J:=(H (n-1) Zaa).2;unfold Fp at e J⊢;rw[lB Zaa];show cH ⟨t,c,l⟩ q _=_;generalize g_ (λr(z:ck×Pred)=>cH z.1 z.2 r) (n-1)=R at e J⊢;unfold cH;rw[u 1 Zaa,u 2 Zaa,u 3 Zaa,u 4 Zaa,bE,bE,bE,bE,T,X];simp only[ζb];simp only[e,J,ζb];unfold VE.Gl;rcases(show q.kind=6\/q.kind=7\/q.kind=8 by omega)with h|h|h<;>rw[h]<;>rfl
  cases L:ok&&C with|false=>simp only[EF L]at D;exact⟨_,false,_,λn w=>⟨D n w,B n w⟩,λh=>by cases h⟩|true=>simp only[ζh]at L;obtain⟨rfl,rfl⟩:=L;obtain⟨a,b,rfl,G,I,x2⟩:=g3 rfl;obtain⟨c',d,rfl,Y,K,M⟩:=q3 rfl;obtain⟨k,f,s,v,U⟩:=Iu (p:=q) ⟨Zaa,Zaa⟩ G Y ⟨I,x2⟩ ⟨K,M⟩ ⟨0,0⟩ (λ_=>none);refine⟨_,_,_,λn w=>⟨(D n w).trans s,B n w⟩,λh=>⟨k,f,rfl,uf.of v h,?_⟩⟩;rw[uf.Gl G Y ⟨I,x2⟩ ⟨K,M⟩ h (U h)];exact U h
noncomputable abbrev NQ(n:Nat)(v:ck)(q:Pred):Lk Bool:=g_ (λr(z:ck×Pred)=>dN z.1 z.2 r) n (v,q)
theorem wo.bool{q:Pred}(a:wo t q)(g:13<=q.kind){k:Pred}(b:k∈q.l.l):9<=k.kind:=by have:=a.here.2.2;unfold yU at this;rw[all_eq_true]at this;have:=this k b;unfold B2 sY at this;rw[if_neg (show¬q.kind<=12 by omega)]at this;by_cases u:k.kind<=8;rw[if_pos u]at this;cases this;omega
theorem Xs{q:Pred}(k2:q.kind<=21)(h:q.lq (λk=> !Ba k)=true):q.kind<=17/\∀k∈q.l.l,k.lq (λk=> !Ba k)=true:=by rw[q.oQ,ζh,all_eq_true]at h;refine⟨?_,h.2⟩;have:=h.1;unfold Ba at this;by_cases g:q.kind>=18;rw[decide_eq_true g,decide_eq_true k2]at this;cases this;omega
theorem Rr{c:Sl Int}{l:Sl (Sl Int)}(h:Up t A c l)(q:Pred):wo t q->9<=q.kind->q.dp<=20->q.lq (λk=> !Ba k)=true->∃x,∀n,q.dp<=n->NQ n ⟨t,c,l⟩ q=some x:=by
 induction q using Pred.ind with|h q O=>
  intro a d W G;have hd:=q.zB;obtain⟨I,j,m⟩:=a.here;obtain⟨k1,k2,-⟩:=w8 I;obtain⟨X,G⟩:=Xs Zaa G;have O:=λg q J=>O q J (a.zC J) (a.bool g J) (by have:=Pred.rJ J;omega) (G q J);have B:∀n,q.dp<=n->NQ n ⟨t,c,l⟩ q=dN ⟨t,c,l⟩ q (λz=>NQ (n-1) z.1 z.2):=λn C=>by unfold NQ;rw[lB Zaa]
  by_cases S:q.kind<=12;have Z:=Pred.parts I (c:=2) (by rcases(show q.kind=9\/q.kind=10\/q.kind=11\/q.kind=12 by omega)with g|g|g|g<;>(rw[g];rfl));have u:0<q.l.l.length:=Zaa;have w:1<q.l.l.length:=Zaa;have D:∀k∈q.l.l,∃x,eR ⟨t,c,l⟩ k=some x:=λk d=>by obtain⟨i,ok,x,g,-⟩:=XS h k (a.zC d) (a.int S d);exact⟨x,(g 100000 (by have:=Pred.rJ d;omega)).2⟩
  obtain⟨x,Q⟩:=D _ (getElem_mem u);obtain⟨y,T⟩:=D _ (getElem_mem w);have key:∀R,∃b,dN ⟨t,c,l⟩ q R=some b/\∀e,dN ⟨t,c,l⟩ q e=some b:=λR=>by unfold dN;rw[show idx q.l 0=some q.l.l[0]from bG (i:=0) u,show idx q.l 1=some q.l.l[1]from bG (i:=1) w];simp only[ζb,Q,T];rcases(show q.kind=9\/q.kind=10\/q.kind=11\/q.kind=12 by omega)with g|g|g|g<;>rw[g]<;>exact⟨_,rfl,λ_=>rfl⟩
  obtain⟨b,-,f⟩:=key (λ_=>none);exact⟨b,λn C=>by rw[B n C,f]⟩;by_cases o:q.kind<=14;refine⟨q.kind==13,λn C=>?_⟩;rw[B n C];unfold dN eC.J1;rcases(show q.kind=13\/q.kind=14 by omega)with g|g<;>rw[g]<;>rfl;have u:0<q.l.l.length:=by rcases(show q.kind=15\/q.kind=16\/q.kind=17 by omega)with g|g|g;have:=Pred.parts I (c:=1) (by rw[g];rfl);omega;have:=Pred.parts I (c:=2) (by rw[g];rfl);omega;have:=Pred.parts I (c:=2) (by rw[g];rfl);omega
  obtain⟨x,Q⟩:=O Zaa _ (getElem_mem u);have p:=Pred.rJ (getElem_mem u);have L:idx q.l 0=some q.l.l[0]:=bG (i:=0) u;by_cases g:q.kind=15;refine⟨!x,λn C=>?_⟩;rw[B n C];unfold dN eC.J1;rw[L,g];simp only[ζb,Q (n-1) Zaa];rfl;have w:1<q.l.l.length:=by have:=Pred.parts I (c:=2) (by rcases(show q.kind=16\/q.kind=17 by omega)with g|g<;>(rw[g];rfl));omega
  obtain⟨y,T⟩:=O Zaa _ (getElem_mem w);have Y:=Pred.rJ (getElem_mem w);have U:idx q.l 1=some q.l.l[1]:=bG (i:=1) w;refine⟨if q.kind=16 then x&&y else x||y,λn C=>?_⟩;rw[B n C];unfold dN eC.J1;rw[L,U];simp only[ζb,Q (n-1) Zaa,T (n-1) Zaa];rcases(show q.kind=16\/q.kind=17 by omega)with g|g<;>rw[g]<;>cases x<;>rfl
end
section
variable{t:Trace}{A:cq 200 bD}{L:L' (L' Int)}{tb:Sl Bool}{x:cz}
theorem OY(d:VT t)(B:fJ t A L)(D:x.truth=tb)(J:Fh L (m_ x.index))(G:tb.l.length=L.length){out:Sl (Sl Int)}(U:out.l.length<=5000)
 (W:∀z∈out.l,z=.nil\/Cons t A z.l):nv x out=some (!out.l.any λz=> !z.l.isEmpty&& !vv tb (L.idxOf z.l)):=by
 have w:=d.ok.one;unfold nv;rw[xH (p:=λz=>jH z (some x)) (f:=λz=> !z.l.isEmpty&& !vv tb (L.idxOf z.l)) (λz I=>?_) Zaa]
 .rfl
 unfold jH;rcases W z I with rfl|c
 .rfl
 have u:0<z.l.length:=by rw[c.1.1];omega
 have C:=(B.mem _).2 c;rw[yC u,ζb,bE,ζb,ζb,Cd (Av d c) (by rw[c.1.1];exact d.few),ζb,J.get _ C,D,
  LU (by rw[G];exact List.idxOf_lt_length_of_mem C),ζb,ζb]
 rw[show z.l.isEmpty=false from by cases h:z.l with
  |nil=>rw[h]at u;exact absurd u (by decide)|cons a b=>rfl]
 rfl
def Ans(t:Trace)(A:cq 200 bD)(L:L' (L' Int))(f:Nat->Bool)(a:Bool)(c:L' Int)(q:Sl Int×Int):Prop:=(a=false/\q=(.nil,15))\/(a=true/\((q=(.nil,7)/\∀d,DV L f d->¬ig c d)\/∃w,q=(w,0)/\DV L f w.l/\ig c w.l/\∀d,DV L f d->ig c d->ig w.l d))
theorem TH(e:Small t)(l:cQ t=some true)(a:VT t)(f:fR t (bO t) A)(B:fJ t A L)(m:L.length<=5000)(J:ins x.l=L)(U:x.t=t)(D:x.truth=tb)(W:Fh L (m_ x.index))(G:tb.l.length=L.length):
 ∃n,∀c:Sl Int,Cons t A c.l->∃q,oJ x c=some q/\Ans t A L (vv tb) n c.l q:=by
 have F:=a.ok.one;obtain⟨out,p,H,g⟩:=Pb e a f B m J D W G;have r:∀z∈out.l,z=.nil\/Cons t A z.l:=λz s=>by obtain⟨i,hi⟩:=List.getElem?_of_mem s;have K:=(ζe.1 hi).1;obtain⟨o,g1,g2⟩:=g i _ (ζd (show i<L.length by omega));rw[hi]at g1;cases g1;rcases g2 with⟨h,_⟩|⟨h,_⟩;exact .inl h;exact .inr h
 have O:=OY a B D W G (out:=out) Zaa r
 refine⟨!out.l.any λz=> !z.l.isEmpty&& !vv tb (L.idxOf z.l),λc b=>?_⟩
 have j:=(B.mem _).2 b;obtain⟨cb,Q,I⟩:=(YP e l a f c).eq;have S:cb=true:=I.2 b;subst S;obtain⟨o,g1,g2⟩:=g _ _ (wY j);have T:idx out (L.idxOf c.l:Int)=some o:=by rw[kJ];exact g1
 unfold oJ;rw[U,Q,ζb,bF,p,ζb,Cd (Av a b) (by rw[b.1.1];exact a.few),ζb,W.get _ j]
 unfold qf;rw[O,ζb]
 cases k: !out.l.any λz=> !z.l.isEmpty&& !vv tb (L.idxOf z.l)with
 |false=>exact⟨_,rfl,.inl ⟨rfl,rfl⟩⟩|true=>
  rw[bF,T,ζb];rcases g2 with⟨rfl,X⟩|⟨C,Y,Z⟩
  .exact⟨_,rfl,.inr ⟨rfl,.inl ⟨rfl,X⟩⟩⟩
  have u:0<o.l.length:=by rw[C.1.1];omega
  obtain⟨w,k1,k2⟩:=zY (c:=o) (by rw[C.1.1];have:=a.few;omega) u
  have v:=(B.mem _).2 C;have y:vv tb (L.idxOf o.l)=true:=by simp only[Bool.not_eq_true',List.any_eq_false,ζh,Bool.not_eq_true,not_and,Bool.not_eq_false']at k;have:=k o (mem_of_getElem? g1);cases E:vv tb (L.idxOf o.l)with|true=>rfl|false=>rw[E]at this;cases d:o.l.isEmpty with|false=>rw[d]at this;simp at this|true=>rw[List.isEmpty_iff]at d;rw[d]at u;exact absurd u (by decide)
  rw[yC u,ζb,bE,ζb,k1];exact⟨_,rfl,.inr ⟨rfl,.inr ⟨w,rfl,by rw[k2];exact⟨v,y⟩,by rw[k2];exact Y,by rw[k2];exact Z⟩⟩⟩
theorem S4(d:Small t)(Y:(bO t).length<1073741824)(f:cQ t=some true)(g:VT t)(i:fR t (bO t) A){p:Pred}(U:p.Sm):
 ∃tb e,q9 t p=some (tb,e)/\(e=0->∃L r,fJ t A L/\L.length<=5000/\pz t=some (r,0)/\ins r=L/\tb.l.length=L.length):=by
 obtain⟨e,j,G⟩:=Ya d Y U;unfold q9 iQ;rw[j,ζb]
 by_cases I:e=0
 .subst I;obtain⟨-,-,J,m⟩:=G rfl;have hd:=J;simp only[tZ,ζh,decide_eq_true_eq]at hd;unfold uB;rw[show((0:Int)==0)=true from rfl,bF,Ri J m,ζb];simp only;rw[show((0:Int)==0)=true from rfl,bF,ζb]
  cases a:sY p.kind==2 with
  |false=>exact⟨_,14,rfl,λh=>by cases h⟩|true=>
   have a:sY p.kind=2:=by simpa using a
   have Z:9<=p.kind:=by unfold sY at a;by_cases h:p.kind<=8;rw[if_pos h]at a;cases a;omega
   rw[show(!true)=false from rfl,bE,ζb,show((0:Int)==0)=true from rfl,bF,KF U,J,ζb]
   cases y:p.lq λq=> !Ba q with
   |false=>exact⟨_,15,rfl,λh=>by cases h⟩|true=>
    rw[show(true&& !true)=false from rfl,bE];rcases Em d f g i with⟨L,r,s,u,O,B,-,k,-⟩|⟨B,-⟩
    .have Q:pz t=some (r,0):=by unfold pz;rw[B];rfl
     rw[Q,ζb];simp only;rw[show((0:Int)==0)=true from rfl,bF];have C:∀c∈r.l,∃l b,iY t c=some (l,0)/\eC ⟨t,c,l⟩ p=some b:=λc S=>by have v:Cons t A c.l:=(u.mem _).1 (by rw[<-k];exact pY.2 ⟨c,S,rfl⟩);obtain⟨⟨l,z⟩,j,W,G,X⟩:=Zw d f g i v;simp only at W G X;subst W;obtain⟨b,E⟩:=Rr (⟨d,f,g,i,v,X⟩:Up t A c l) p m Z Zaa y;exact⟨l,b,j,E 100000 Zaa⟩
     have T:r.l.length=L.length:=by rw[<-k,lX]
     have p1:Wp (iQ.W1 r (Sl.nil:Sl Bool) r (len r) 0 t p) λw=>w.2.1.l.length=r.l.length/\w.2.2=0:=by unfold iQ.W1;refine fH r.l.length (λn s=>s.2=(n:Int)/\s.1.l.length=n) ⟨rfl,rfl⟩ ?_ ?_;rintro n ⟨o,_⟩ D ⟨e1,e2⟩;simp only at e1 e2;subst e1;obtain⟨l,b,F,x2⟩:=C _ (getElem_mem D);obtain⟨o2,k1,k2⟩:=nH (s:=o) (x:=b) Zaa;unfold iQ.bp;rw[jP D,bF,bG D,ζb,F,ζb];simp only;rw[show((0:Int)==0)=true from rfl,bF,x2,ζb,k1,ζb,bf,cR n Zaa];exact⟨rfl,by show o2.l.length=_;rw[k2];simp[e2]⟩;rintro⟨o,_⟩ ⟨e1,e2⟩;simp only at e1 e2;subst e1;unfold iQ.bp;rw[jQ,bE,bf];exact(bf _).2 ⟨e2,rfl⟩
     obtain⟨w,H,K,M⟩:=p1;rw[H,ζb,M];exact⟨_,0,rfl,λ_=>⟨L,r,u,O,rfl,k,by rw[K,T]⟩⟩
    have Q:pz t=some (.nil,16):=by unfold pz;rw[B];rfl
    rw[Q];exact⟨_,16,rfl,λh=>by cases h⟩
 rw[show(e==0)=false from by simpa using I,bE]
 exact⟨_,e,rfl,λh=>absurd h I⟩
theorem Pc(d:Small t)(G:(bO t).length<1073741824)(g:cQ t=some true)(a:VT t)(h:fR t (bO t) A){p:Pred}(J:p.Sm):
 (∃e,e≠0/\∀c,mO t p c=some (.nil,e))\/∃L f b,fJ t A L/\∀c:Sl Int,Cons t A c.l->∃q,mO t p c=some q/\Ans t A L f b c.l q:=by
 obtain⟨tb,e,i,I⟩:=S4 d G g a h J
 by_cases z:e=0
 .subst z;obtain⟨L,r,u,w,O,j,B⟩:=I rfl;obtain⟨o,Q,x,rfl,S,x2,T,x4⟩:=SK a u w j tb;have C:vI t p=some (some x,0):=by
   unfold vI;rw[i,ζb];simp only;rw[show((0:Int)==0)=true from rfl,bF,O,ζb];simp only;rw[show((0:Int)==0)=true from rfl,bF,Q];rfl
  obtain⟨b,D⟩:=TH d g a h u w (by rw[x2];exact j) S T x4 B
  refine .inr ⟨L,vv tb,b,u,λc k=>?_⟩
  obtain⟨q,U,W⟩:=D c k;refine⟨q,?_,W⟩;unfold mO;rw[C,ζb];simp only;rw[show((0:Int)==0)=true from rfl,bF,ζb,U];rfl
 refine .inl ⟨e,z,λc=>?_⟩
 unfold mO vI;rw[i,ζb];simp only;rw[show(e==0)=false from by simpa using z,bE,ζb]
 simp only;rw[show(e==0)=false from by simpa using z,bE]
end
theorem VM{a b:Sl Int}(D:a.l.length=b.l.length)(B:a.l.length<1073741824):∃r,jI a b=some r/\r.l=zipWith xG a.l b.l:=by
 unfold jI jI.W1;refine fH a.l.length (λi(q:Sl Int×Int)=>q.2=(i:Int)/\q.1.l=(zipWith xG a.l b.l).take i) ⟨rfl,rfl⟩ ?_ ?_;rintro i ⟨o,_⟩ hi ⟨e,c⟩;simp only at e c;subst e;have u:i<b.l.length:=by omega
 have w:i<(zipWith xG a.l b.l).length:=by rw[List.length_zipWith];omega
 have z:o.l.length=i:=by rw[c,List.length_take];omega
 unfold jI.bp;obtain⟨C,k1,k2⟩:=nH (s:=o) (x:=if b.l[i]>a.l[i]then b.l[i]else a.l[i]) Zaa;rw[jP hi,bF,bG hi,ζb,bG u,ζb,k1,ζb,bf];refine⟨cR i Zaa,?_⟩;show C.l=_;rw[k2,c,List.take_succ_eq_append_getElem w,List.getElem_zipWith];rfl;rintro⟨o,_⟩ ⟨e,c⟩;simp only at e c;subst e;unfold jI.bp;rw[jQ,bE,bf];refine(bf _).2 ?_;rw[c,List.take_of_length_le (by rw[List.length_zipWith];omega)]
theorem MG{b c:Bool}:bg b (some true) (some c)=some (b||c):=by cases b<;>rfl
section
variable{t:Trace}
theorem UZ(a:Small t)(G:(bO t).length<1073741824):∃b,fe t=some b:=by
 suffices h:Wp (fe t) λ_=>True by obtain⟨b,I,-⟩:=h;exact⟨b,I⟩
 have g:=a.1;obtain⟨v,-,w,B⟩:=A3 a G;obtain⟨J,C,u,-⟩:=A3 a G;have D:v=J:=by rw[w]at u;exact Option.some.inj u
 subst D;have ok:∀b:Bool,Wp (some b) λ_=>True:=λb=>(bf _).2 trivial;unfold fe;rw[b_];refine⟨λ_=>ok _,λ_=>?_⟩;unfold fe.W1;refine fH t.procs.l.length (λi(q:Int×Int)=>q.2=(i:Int)) rfl ?_ ?_;rintro i ⟨n,_⟩ hi e;simp only at e;subst e;unfold fe.bp;dsimp only;rw[jP hi,bF,bG hi,ζb,we (p:=λz=>qv z) (f:=λx=>decide (len x.assign>12)) (λx _=>rfl) (a.2 _ (getElem_mem hi)).1,ζb,MG,ζb,b_];exact⟨λ_=>(bf _).2 (ok _),λ_=>(bf _).2 (cR i Zaa)⟩;rintro⟨n,_⟩ e;simp only at e;subst e;unfold fe.bp;dsimp only;rw[jQ,bE,bf];show Wp (bg _ _ _) _;rw[b_];refine⟨λ_=>ok _,λ_=>?_⟩;rw[w,ζb];cases v with|false=>exact ok _|true=>rw[bF,b_];refine⟨λ_=>?_,λ_=>?_⟩;unfold fe.W2;refine fH t.procs.l.length (λi(q:Int×Int)=>q.2=(i:Int)) rfl ?_ ?_;rintro i ⟨n,_⟩ hi e;simp only at e;subst e;unfold fe.bV;dsimp only;rw[jP hi,bF,bG hi,ζb,we (p:=λz=>qu z) (f:=λx=>x.kind==3) (λx _=>rfl) (a.2 _ (getElem_mem hi)).1,ζb,b_];exact⟨λ_=>(bf _).2 (ok _),λ_=>(bf _).2 (cR i Zaa)⟩;rintro⟨n,_⟩ e;simp only at e;subst e;unfold fe.bV;dsimp only;rw[jQ,bE,bf];exact ok _;have c:=B rfl;obtain⟨A,-,-,d⟩:=c.msgs;rcases Em a C c d with⟨L,r,s,-,-,-,h,-⟩|⟨-,h⟩;rw[h,ζb];exact ok _;rw[h,ζb];exact ok _
theorem Jq:∀(n:Nat)(p:Pred),p.Sm->∀l d:Int,0<=l->l<=300->0<=d->d<=61->62<=(n:Int)+d->
 ∃b m,g_ (λr(z:Pred×Int×Int)=>jO z.1 z.2.1 z.2.2 r) n (p,l,d)=some (b,m)/\-1<=m/\m<=l/\(b=true->0<=m)
 |0,p,B,l,d,h1,J,U,W,D=>absurd D Zaa|n+1,p,B,l,d,h1,J,U,W,D=>by
  have G:=Jq n;rw[lB (Nat.succ_pos n)];show∃b m,jO p l d (g_ (λr(z:Pred×Int×Int)=>jO z.1 z.2.1 z.2.2 r) n)=some (b,m)/\_;generalize g_ (λr(z:Pred×Int×Int)=>jO z.1 z.2.1 z.2.2 r) n=R at G⊢;unfold jO;rw[eF _ Zaa Zaa];by_cases c:0<=l-1;rw[decide_eq_true (show l-1>=0 from c),bF,ζb];by_cases C:d<=60;rw[decide_eq_true C,bF];cases I:decide (((ByteArray.size p.name:Nat):Int)<=100)with|false=>exact⟨false,l-1,rfl,Zaa,Zaa,λh=>by cases h⟩|true=>
   rw[ζb,bF,FQ (by have:=B.len;omega)];have key:∀(u:L' Pred),(∀k∈u,k.Sm)->∀s:Int,0<=s->s<=299->∃b m,wm (λx s=>jY x d s R) u s=some (b,m)/\-1<=m/\m<=s/\(b=false->0<=m):=by
    intro u;induction u with|nil=>intro _ s g1 g2;exact⟨false,s,rfl,Zaa,Zaa,λ_=>g1⟩|cons k r w=>
     intro a s g1 g2;obtain⟨b,m,e1,e2,e3,e4⟩:=G k (a k (List.mem_cons_self ..)) s (d+1) g1 Zaa Zaa Zaa Zaa;have e:jY k d s R=some (!b,m):=by unfold jY;rw[eF _ Zaa Zaa,e1];rfl
     show∃b m,((jY k d s R).bind λy=>if y.1 then some (true,y.2)else wm (λx s=>jY x d s R) r y.2)=some (b,m)/\_;rw[e,ζb];cases b with|false=>exact⟨true,m,rfl,e2,e3,λh=>by cases h⟩|true=>obtain⟨L,m',k1,k2,k3,k4⟩:=w (λx O=>a x (mem_cons_of_mem _ O)) m (e4 rfl) Zaa;refine⟨L,m',?_,k2,Zaa,k4⟩;exact k1
   obtain⟨b,m,e1,e2,e3,e4⟩:=key p.l.l (λk a=>B.zC a) (l-1) c Zaa;rw[e1,ζb,ζb];exact⟨!b,m,rfl,e2,Zaa,λh=>e4 (by cases b;rfl;cases h)⟩
  rw[decide_eq_false C,bE];exact⟨false,l-1,rfl,Zaa,Zaa,λh=>by cases h⟩;rw[decide_eq_false (show¬l-1>=0 from c),bE];exact⟨false,l-1,rfl,Zaa,Zaa,λh=>by cases h⟩
theorem YQ(a:Small t)(D:(bO t).length<1073741824){p:Pred}(B:p.Sm):∃b,wC t p=some b:=by obtain⟨s,d⟩:=UZ a D;unfold wC;rw[d,ζb];cases s with|false=>exact⟨_,rfl⟩|true=>obtain⟨b,m,e,-⟩:=Jq 100000 p B 300 0 Zaa Zaa Zaa Zaa Zaa;have u:yN p 300 0=some (b,m):=e;have w:=count_eq p B 100000 200 Zaa Zaa;have z:kG p 200=_:=w;have c:∃k,sn p=some k:=⟨_,by unfold sn;rw[z];rfl⟩;obtain⟨k,c⟩:=c;rw[bF,u,ζb,ζb];cases b with|false=>exact⟨_,rfl⟩|true=>simp only;rw[bF,c,ζb,ζb,MG];exact⟨_,rfl⟩
theorem Qo{A:cq 200 bD}(a:Small t)(d:VT t)(e:fR t (bO t) A)(c:Sl Int):∃b,pq t c=some b/\(b=true->Cons t A c.l):=by by_cases u:c.l.length=t.procs.l.length;obtain⟨b,w,h⟩:=Ub a d e u;exact⟨b,w,h.1⟩;refine⟨false,?_,λh=>by cases h⟩;unfold pq mG;rw[show(len c==len t.procs)=false from by simp[len];omega];rfl
theorem PX(g:Small t)(W:(bO t).length<1073741824){p:Pred}(q:p.Sm){a b:Sl Int}:nV t p a b=some true:=by
 obtain⟨y,X⟩:=YQ g W q;obtain⟨v,Y,Z,E⟩:=A3 g W;unfold nV;rw[show xL=some true from rfl,ζb,bF,X,ζb];cases y with|false=>rfl|true=>
 rw[bF,ζb];cases decide (len a>20)with|true=>rfl|false=>
 rw[bE,ζb];cases decide (len b>20)with|true=>rfl|false=>
 rw[bE,Z,ζb,ζb];cases v with|false=>rfl|true=>
 have d:=E rfl;obtain⟨A,-,-,i⟩:=d.msgs;have ak:=d.ok.one;have h8:=d.few;obtain⟨F,H,K⟩:=Qo g d i a;obtain⟨M,N,P⟩:=Qo g d i b;rw[show(!true)=false from rfl,bE,H,ζb,ζb];cases F with|false=>rfl|true=>
 rw[show(!true)=false from rfl,bE,N,ζb,ζb];cases M with|false=>rfl|true=>
 rw[show(!true)=false from rfl,bE];have z:=K rfl;have G:=P rfl;have k:a.l.length=b.l.length:=z.1.1.trans G.1.1.symm;obtain⟨j,R,V⟩:=VM k (by rw[z.1.1];omega);have l:=qh.of xG k;rw[<-V]at l;have I:=join_cons z G l;obtain⟨r,-,-⟩:=l.le_max k;rw[R,ζb];rcases Pc g W Y d i q with⟨e,he,h⟩|⟨L,f,cl,J,h⟩;have af:(e==0)=false:=by simpa using he
 rw[h,ζb,h,ζb];simp only;rw[af,bE,show(e==e)=true from Zab];rfl;obtain⟨qa,a1,a2⟩:=h a z;obtain⟨qj,j1,m⟩:=h j I;rw[a1,ζb,j1,ζb];rcases a2 with⟨rfl,rfl⟩|⟨rfl,⟨rfl,ah⟩|⟨w,rfl,n,ai,aj⟩⟩;rcases m with⟨-,rfl⟩|⟨h,-⟩;rfl;cases h;rcases m with⟨h,-⟩|⟨-,⟨rfl,O⟩|⟨o,rfl,C,u,-⟩⟩;cases h;rfl;exact absurd (r.trans u) (ah _ C);rcases m with⟨h,-⟩|⟨-,⟨rfl,O⟩|⟨o,rfl,C,u,-⟩⟩;cases h;rfl;have D:=(J.mem _).1 n.1;obtain⟨q3,k1,k2⟩:=h w D;rcases k2 with⟨h,-⟩|⟨-,⟨rfl,Q⟩|⟨w3,rfl,al,S,T⟩⟩;cases h;exact absurd (ig.refl _) (Q _ n);have U:w3.l=w.l:=ig.same (T _ n (ig.refl _)) S;have B:∀c:Sl Int,Cons t A c.l->c.l.length<1073741824:=λc hc=>by rw[hc.1.1];omega
 obtain⟨x1,s,z1⟩:=(Re (a:=a) (b:=w) (B _ z)).eq;obtain⟨x2,x,z2⟩:=(Re (a:=j) (b:=o) (B _ I)).eq;obtain⟨x3,y3,z3⟩:=(Re (a:=w) (b:=o) (B _ D)).eq;rw[z1.2 ai]at s;rw[z2.2 u]at x;rw[z3.2 (aj _ C (r.trans u))]at y3;simp only;rw[show((0:Int)==0)=true from rfl,bF,bF,k1,ζb,s,ζb,bF,x,ζb,ζb,bF,y3,ζb,ζb,bF,ζb];simp only;rw[show((0:Int)==0)=true from rfl,bF,Js (by rw[U];exact B _ D),U,decide_eq_true rfl];rfl
end
end Go.VE
namespace Go.VE
theorem A7{α:Type}[cr α]{x:α}:∀{l:L' α},x∈l->cr.wt x<=(l.map cr.wt).sum
 |y::l,h=>by simp only[map_cons,sum_cons];rcases mem_cons.1 h with rfl|h;omega;have:=A7 h;omega
theorem xw{α:Type}[cr α](h:∀x:α,1<=cr.wt x):∀(l:L' α),l.length<=(l.map cr.wt).sum
 |[]=>Nat.le_refl _|y::l=>by simp only[map_cons,sum_cons,length_cons];have:=xw h l;have:=h y;omega
theorem Cx{α:Type}[cr α](s:Sl α):cr.wt s=(s.l.map cr.wt).sum+1:=rfl
theorem CJ(p:Int):∀(es:L' Event)(j:Int),(i_ p j es).length=es.length
 |[],_=>rfl|_::es,j=>by simp only[i_,length_cons,CJ p es]
theorem Ke:∀(ps:L' bU)(i:Int),(gb i ps).length<=(ps.map cr.wt).sum
 |[],_=>Nat.le_refl _|p::ps,i=>by simp only[gb,ζi,CJ,map_cons,sum_cons];have a:=Ke ps (i+1);have u:=xw (α:=Event) (λx=>le_add_left ..) p.events.l;have w:cr.wt p=cr.wt p.name+cr.wt p.vars+cr.wt p.events+1:=rfl;have z:=Cx p.events;omega
theorem Su{t:Trace}(h:cr.wt t<=1048576):Small t/\(bO t).length<1073741824:=by have b:cr.wt t=cr.wt t.procs+1:=rfl;have c:=Cx t.procs;have B:=xw (α:=bU) (λx=>le_add_left ..) t.procs.l;have C:=Ke t.procs.l 0;refine⟨⟨Zaa,λp u=>?_⟩,by show(gb 0 t.procs.l).length<_;omega⟩;have D:=A7 u;have G:cr.wt p=cr.wt p.name+cr.wt p.vars+cr.wt p.events+1:=rfl;have I:=Cx p.events;have J:=Cx p.vars;have L:=xw (α:=Event) (λx=>le_add_left ..) p.events.l;have O:=xw (α:=Var) (λx=>le_add_left ..) p.vars.l;have w:cr.wt p.name=p.name.size+1:=rfl;refine⟨Zaa,Zaa,Zaa,λv a=>?_,λe z=>?_⟩;have k1:=A7 a;have k2:cr.wt v=cr.wt v.name+cr.wt v.init_+1:=rfl;have k3:cr.wt v.name=v.name.size+1:=rfl;omega;have k1:=A7 z;have k2:cr.wt e=cr.wt e.kind+cr.wt e.peer+cr.wt e.message+cr.wt e.time+cr.wt e.assign+1:=rfl;have k3:=Cx e.assign;have k4:=xw (α:=Assign) (λx=>le_add_left ..) e.assign.l;omega
theorem ZC(p:Pred):cr.wt p<=1048576->p.Sm:=by
 induction p using Pred.ind with|h p w=>
  intro h;have a:∃m,cr.wt p=m+Pred.Uw p.l+1:=by cases p;exact⟨_,rfl⟩
  obtain⟨m,a⟩:=a;have b:=Pred.Z_ p.l;have z:=Cx p.l;have B:=xw (α:=Pred) (λx=>by cases x;exact le_add_left ..) p.l.l;unfold Pred.Sm;rw[p.oQ,ζh,all_eq_true];refine⟨decide_eq_true Zaa,λq u=>w q u ?_⟩;have:=A7 u;omega
end Go.VE
namespace Go.Proofs.YtknifbdijcocpaaGreatDoor
open Go.ChangeShapes Go.WideShapes Go.ChangeAt Go.RowKit Go.VE
theorem own:ownKnob Tryz.prog.godebug=none:=by kernel_rfl
theorem kids:Kids Tryz.prog (·<Tryz.prog.types.size):=kids_rows Zaf Zaf
theorem full:∀t e,t<Tryz.prog.types.size->Tryz.prog.underlying t=some (.slice e)->0<Tryz.prog.cellsOf e:=slices_full_of Tryz.prog Zaf
theorem zn{H:Type}:∀l:L' (DataW H),Rows.uptoBulkAll l=(l.map Rows.uptoBulk).sum
 |[]=>by simp[Rows.uptoBulkAll]|d::r=>by simp[Rows.uptoBulkAll,zn r]
theorem D_{H:Type}:uj (H:=H) Rows.uptoBulk where
 lit l:=by cases l<;>simp[Rows.uptoBulk]
 str s:=by simp[Rows.uptoBulk]
 nil:=by simp[Rows.uptoBulk]
 slice es u:=by rw[Rows.uptoBulk,zn,zn];omega
 agg ps:=by rw[Rows.uptoBulk,zn];exact Nat.le_refl _
theorem MT:Tryz.prog.globalNamed "antecede/predtype.parts" =some 0:=by kernel_rfl
theorem Tm:(Tryz.prog.globals[0]?).map (·.type)=some 174:=by kernel_rfl
theorem table{W:World}(h:laidMetH Tryz.prog Rows.linearLaterUptoRow.laid W):Lib.TabIs Tryz.prog W "antecede/predtype.parts" .i64 Eh:=Lib.tabIs_of_head (rest:=[]) MT Tm Tryz.underlying174 Tryz.underlying3 Zaf Zaf h
theorem Zs{W:World}(h:laidMetH Tryz.prog Rows.linearLaterUptoRow.laid W):vi (snap W):=λg cs a=>by
 change(if Nat.beq g 0 then some (Eh.map (V.int .i64))else none)=some cs at a;split at a;next u=>cases a;have:g=0:=Nat.eq_of_beq_eq_true u;subst this;exact SJ (λi hi=>(table h).cell MT i hi) (by decide)
 cases a
set_option maxRecDepth 100000 in
theorem Ld(H:Type)(enc:TypeId×Value->H)(W:World)(base:Nat)(args:Array Value)(ds c:L' (DataW H))(before:L' MemPlace)
 (B:∀(j:Nat)t v,Tryz.f3.params[j]?=some t->args[j]?=some v->Value.okWide Tryz.prog W .any base t v)
 (D:DataW.Whole enc Tryz.prog Tryz.f3.params.toList Rows.linearLaterSpec.vars false W args.toList ds c before)(d:Rows.uptoSmall H (ds++c)=true)(U:laidMetH Tryz.prog Rows.linearLaterUptoRow.laid W):
 Calls Tryz.prog 3 args W λe G=>∃v,e=.returned v/\Rows.linearLaterSpec.post enc Tryz.prog Tryz.f3 false true false false W args v G:=by
 have u:=D;obtain⟨p,q,z,g,rfl,T,X⟩:=D;have I:DataW.TrodAll enc Tryz.prog W 0 (λ_=>true) true Tryz.f3.params.toList args.toList ds p:=z
 rw[Tryz.params3]at I B;obtain⟨J,Y,Z,aa,p0,q0,C,rfl,rfl,h,i⟩:=trodAll_cons I;obtain⟨L,ab,k,ad,p1,q1,rfl,rfl,rfl,l,r1⟩:=trodAll_cons i;obtain⟨O,ae,m,af,p2,q2,rfl,rfl,rfl,n,r2⟩:=trodAll_cons r1;obtain⟨Q,ah,o,ai,p3,q3,rfl,rfl,rfl,s,r3⟩:=trodAll_cons r2;obtain⟨rfl,rfl,rfl⟩:=trodAll_nil r3;obtain rfl:args=#[J,L,O,Q]:=by cases args;simp_all
 obtain⟨rfl,rfl⟩:=trodVars_none g;obtain⟨a0,x,k0,y⟩:=Reads.H6 (t:=24) (α:=VE.Trace) B 0 rfl rfl h;obtain⟨a1,A,k1,E⟩:=Reads.H6 (t:=27) (α:=VE.Pred) B 1 rfl rfl l;obtain⟨a2,F,k2,K⟩:=Reads.H6 (t:=28) (α:=Sl Int) B 2 rfl rfl n;obtain⟨a3,M,k3,N⟩:=Reads.H6 (t:=28) (α:=Sl Int) B 3 rfl rfl s;have hb:cr.wt a0+cr.wt a1+cr.wt a2+cr.wt a3<=1048576:=by have c0:=y Rows.uptoBulk D_;have c1:=E Rows.uptoBulk D_;have c2:=K Rows.uptoBulk D_;have c3:=N Rows.uptoBulk D_;have S:Rows.uptoBulkAll ([Z,k,m,o]++[])<=1048576:=of_decide_eq_true d;rw[zn]at S;simp only[List.append_nil,map_cons,List.map_nil,sum_cons,List.sum_nil]at S;omega
 obtain⟨R,hN⟩:=Su (t:=a0) Zaa
 have hc:jK cL 3 [VE.enc a0,VE.enc a1,VE.enc a2,VE.enc a3]=some [.bool true]:=by
  have hl:(nV a0 a1 a2 a3).bind (λr:Bool=>some [V.bool r])=some [.bool true]:=by rw[PX (a:=a2) (b:=a3) R hN (ZC a1 Zaa)];rfl
  exact(zI a0 a1 a2 a3).F.h () _ hl
 have:=NK (P:=Tryz.prog) Ie Cu calls (f:=3) (xs:=[VE.enc a0,VE.enc a1,VE.enc a2,VE.enc a3]) (by simp[V.cE,V.good,jU]) hc (w:=W) (args:=#[J,L,O,Q]) (Zs U) (cN.cons x (cN.cons A (cN.cons F (cN.cons M .nil))))
 refine this.mono λe G⟨he,hg⟩=>?_
 subst he;exact⟨_,rfl,PS kids full (by rw[Tryz.params3];decide) rfl rfl rfl Tryz.underlying4 u hg⟩
noncomputable def Bg(os:Os):World:=
 {World.holding Tryz.prog os ⟨#[],#[],[]⟩with heap:=(World.holding Tryz.prog os ⟨#[],#[],[]⟩).heap.modify 0 fun
  |.cells _ t frozen=>.cells (Eh.map (Value.int .i64)).toArray t frozen|o=>o}
theorem SZ(os:Os):laidMet Tryz.prog Rows.linearLaterUptoRow.laid ((Bg os).forCall (λ_ _=>0) ⟨#[],#[.agg #[.slice none 0 0],.agg #[.int .i64 0,.int .i64 0,.int .i64 0,.int .i64 0,.string ByteArray.empty,.slice none 0 0],.slice none 0 0,.slice none 0 0],[]⟩).memory:=laidMet_of_run' 8 Zaf Zaf
theorem Rg(os:Os){H:Type}(enc:TypeId×Value->H):∃places,DataW.whole enc Tryz.prog ((Bg os).forCall (λ_ _=>0) ⟨#[],#[.agg #[.slice none 0 0],.agg #[.int .i64 0,.int .i64 0,.int .i64 0,.int .i64 0,.string ByteArray.empty,.slice none 0 0],.slice none 0 0,.slice none 0 0],[]⟩).memory Tryz.f3.params.toList Rows.linearLaterSpec.vars false (#[.agg #[.slice none 0 0],.agg #[.int .i64 0,.int .i64 0,.int .i64 0,.int .i64 0,.string ByteArray.empty,.slice none 0 0],.slice none 0 0,.slice none 0 0]:Array Value).toList 8=some ([.agg [.nil],.agg [.lit (.int .i64 0),.lit (.int .i64 0),.lit (.int .i64 0),.lit (.int .i64 0),.lit (.string []),.nil],.nil,.nil],[],places):=⟨[],by kernel_rfl⟩
set_option maxRecDepth 100000 in
theorem P7(os:Os)(B:os.Started)(H:Type)(enc:TypeId×Value->H)(F:Stop.Interp):
 ReturnsInHanded {} Tryz.checked os 3 .any ((Rows.OpenSpec.upto Rows.linearLaterSpec).preRow enc Tryz.prog Tryz.f3 Rows.linearLaterUptoRow.domain false Rows.linearLaterUptoRow.laid) (((Rows.OpenSpec.upto Rows.linearLaterSpec).at F).post enc Tryz.prog Tryz.f3 false true false false):=by
 obtain⟨places,z⟩:=Rg os enc;refine returnsInHanded_of_row (C:=Tryz.checked) (s:=Rows.OpenSpec.upto Rows.linearLaterSpec) own B Zaf Tryz.func3
  (witness_row_at (enc:=enc) (C:=Tryz.checked) false (Bg os) #[.agg #[.slice none 0 0],.agg #[.int .i64 0,.int .i64 0,.int .i64 0,.int .i64 0,.string ByteArray.empty,.slice none 0 0],.slice none 0 0,.slice none 0 0] rfl Zaf Zaf Zaf
   (OpenSpec.preRow_of_cond 8 z Zaf (λk a=>by cases a;kernel_rfl) Zaf (SZ os))) ?_
 intro W base args ds b before w D _ u _ G _ _;exact Ld H enc W base args ds b before w D (u _ rfl) G
theorem UO:Rows.LinearLaterUptoSaid:=
 OpenClaim.holds_of_cond 3 Tryz.f3 rfl rfl rfl rfl rfl rfl rfl ⟨rfl,rfl,rfl,rfl,rfl⟩ rfl rfl rfl rfl rfl Zaf Tryz.func3 Zaf
  (of_decide_eq_true Zaf) (by unfold Func.isWrapper;first|(rw[if_pos (by decide+kernel)];kernel_rfl)|(rw[if_neg (by decide+kernel)];exact⟨rfl,rfl⟩))
  (λos u H enc _ F=>by rw[OpenClaim.pre_eq_preRow];exact P7 os u H enc F)
theorem RQ(f:FuncId)(fn:Func)(D:Tryz.pinned.checked.prog.funcNamed "antecede/antecedelaw32.LinearLater" =some f)(B:Tryz.pinned.checked.prog.funcs[f]?=some fn):
 false=Tryz.pinned.checked.prog.looks []/\∀(j:Nat)t,fn.params[j]?=some t->Tryz.pinned.checked.prog.wantsStandIn t=false:=by
 obtain rfl:f=3:=Option.some.inj ((show Tryz.prog.funcNamed "antecede/antecedelaw32.LinearLater" =some 3 by kernel_rfl).symm.trans D)|>.symm
 obtain rfl:fn=Tryz.f3:=(Option.some.inj (Tryz.func3.symm.trans B)).symm;refine⟨by kernel_rfl,λj t z=>?_⟩
 rw[Tryz.params3]at z;have C:t∈[24,27,28,28]:=by simpa using Array.mem_of_getElem? z
 have w:([24,27,28,28].all λu=> !Tryz.prog.wantsStandIn u)=true:=by kernel_rfl
 exact(show Tryz.prog.wantsStandIn t=false by simpa using all_eq_true.1 w t C)
theorem linearLaterProved:Rows.LinearLaterUptoCardSaid:=Claim7.holds_tied_plain_at .later [] _ _ _ _ UO (λ_ h=>by cases h) Zaf (λ_ h=>by cases h) linearLaterUpto_row_tie rfl ⟨rfl,rfl⟩ Zaf rfl RQ Zaf
#print axioms linearLaterProved
end Go.Proofs.YtknifbdijcocpaaGreatDoor
