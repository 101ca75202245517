/-
 TemporalTables says true for all arguments that together are of bulk at most 1048576, and they read behind the call as they read before: for every such argument, without a condition.
-/
import Derived.Test.YtddlogilhmloeabGreatDoorRows
import Derived.Test.YtddlogilhmloeabGreatDoorCards
import Derived.Test.YtddlogilhmloeabGreatDoorTie
import Derived.Deep.DeepHandedRow
import Derived.Test.YtddlogilhmloeabGreatDoorK1
import Derived.Test.YtddlogilhmloeabGreatDoorL1
set_option linter.all false
open Option renaming some→M,some→_k,none→J,none→_q,bind→H,bind→_o
open Bool renaming true→U,true→_n,false→O,false→_p
open Decidable renaming decide→_s
open List renaming length→W,length→_m
open Go.IntKind renaming i64→N,i64→_r
open List renaming all_cons→q!,all_eq_true→G?,any_eq_false→J',any_eq_true→m9,countP_append→g9,countP_cons→H!,countP_nil→B',find?_eq_none→L!,getElem?_set→D?,getElem_mem→t?,length_cons→W?,length_take→l!,map_append→w!,map_congr_left→N!,map_cons→K?,mem_append→J!,mem_append_left→d!,mem_cons_of_mem→B?,mem_of_getElem?→s?,range→C!,range_succ→i7,sum_cons→E!,take_add_one→P?,take_length→I?
open Go.IntKind renaming wrap→w?
open Nat renaming le_add_left→z!,le_refl→x?,zero_le→N?
open Bool renaming false_eq_true→v?,not_not→J0
open Classical renaming byContradiction→R?
open ByteArray renaming toList→C?
open Int renaming mul_comm→f9,zero_sub→C'
noncomputable section
open List(any_cons countP mem_cons mem_iff_getElem? mem_map replicate)
open Go.IntKind(signed)
open Nat(le)
open Nat(le)
open Nat(le)
open Nat(le)
open Nat(le)
namespace Go.VE
theorem q?{p:Prop}(h:p:=by kernel_rfl):p:=h
theorem OW{c:Zg}(h:Oy c.l)(B:W c.l<=8):jh c=M (tP c.l):=by
 refine Wp.eq ?_;unfold jh;rw[show len c=((W c.l:Nat):Int)from Y,El _ a?,ζb];unfold jh.W1;refine eB (W c.l) (λi(q:Sl U8×Int)=>q.2=(i:Int)/\q.1.l.length=W c.l/\(q.1.l.map U8.v).take i=c.l.take i) ⟨Y,by simp[Sl.l],f?⟩ ?_ ?_;rintro i ⟨o,_⟩ hi ⟨e,u,a⟩;simp only at e u a;subst e;have C:=h c.l[i] (t? hi);have z:w? .u8 c.l[i]=c.l[i]:=by simp[w?,IntKind.bits,signed];omega
 have⟨w,k1,k2⟩:=put_eq (s:=o) (p:=i) (x:=(⟨w? .u8 c.l[i]⟩:U8)) a?;unfold jh.bl;rw[show _s ((i:Int)<((W c.l:Nat):Int))=U from by simpa using hi,bq,bA hi,ζb,nX (by omega:i<W o.l),ζb,k1,ζb,a_];refine⟨cq i a?,by show W w.l=_;rw[k2];simp[u],?_⟩;show(w.l.map U8.v).take (i+1)=_;rw[k2,z,List.take_succ_eq_append_getElem hi,List.take_succ_eq_append_getElem (by simp[u];exact hi),<-a];simp[List.take_set_of_le];rintro⟨o,_⟩ ⟨e,u,a⟩;simp only at e u a;subst e;unfold jh.bl;rw[show _s (((W c.l:Nat):Int)<((W c.l:Nat):Int))=O from f?,br,a_];refine(a_ _).2 ?_;unfold Rn;rw[I?,List.take_of_length_le (by simp[u])]at a;rw[a]
section
variable{t:Z4}{A:cn 200 bC}{L:aY Rd}
theorem PK(f:Small t)(g:cu t=M U)(i:VT t)(a:fm t (bO t) A){c:Zg}(l:Cons t A c.l){p k:Nat}{P:bT}(B:t.b?.l[p]?=M P)(D:c.l[p]?=M (k:Int))(d:k<W P.c?.l):
 ∃b,xA t c (p:Int)=M b/\(b=U↔MC t A c.l p):=by
 have C:=ζd d;unfold xA;rw[gp,B,ζb,gp,D,ζb,bA d,ζb];generalize P.c?.l[k]=e at C⊢;have G:MC t A c.l p↔(e.kind=3->∃b,c.l[(ag A e.d?).from_.proc.toNat]?=M b/\(ag A e.d?).from_.index<=b):=by constructor;rintro⟨Q,X,x,z,L,u,w⟩;rw[B]at z;cases z;rw[D]at L;cases L;simp only[Int.toNat_natCast]at u;rw[C]at u;cases u;exact w;intro h;exact⟨P,e,k,B,D,by simpa using C,h⟩
 rw[G]
 by_cases w:e.kind=3
 .have⟨q,j,y,⟨Q,z,o⟩,Z,F,y3,y4,y5⟩:=zz i a ⟨P,B,C⟩ w;have S:=CB f g a (x:=(⟨q,j+1⟩,y)) (dY.2 ⟨q,j,⟨Q,z,o⟩,Y⟩) Z;simp only at S;have I:q<W c.l:=by rw[l.1.1];exact(ζe.1 z).1
  rw[show(e.kind==3)=U from by rw[w];rfl,bq,<-F,S,ζb,bA I,ζb]
  refine⟨_,Y,?_⟩;rw[F,y5];simp only[Int.toNat_natCast,_g];exact⟨λh _=>⟨_,ζd I,h⟩,λh=>by
   have⟨b,T,m⟩:=h w;rw[ζd I]at T;cases T;exact m⟩
 rw[show(e.kind==3)=O from beq_eq_false_iff_ne.2 w,br];exact⟨U,Y,λ_ h=>_e h w,λ_=>rfl⟩
theorem aaL(f:Small t)(i:cu t=M U)(a:VT t)(g:fm t (bO t) A){c:Zg}(e:Cons t A c.l){p:Nat}(hp:p<W c.l):
 ∃q,xe t c (p:Int)=M q/\((q.2=0/\q.1.l=bump c.l p 1/\Cons t A (bump c.l p 1))\/(q.2≠0/\¬Cons t A (bump c.l p 1))):=by
 have Z:=a.few;have I:=a.ok.one;have L:=e.1.1;have u:p<W t.b?.l:=a?
 have B:=ζd u;have z:=ζd hp;have F:=(N3 f a e).2 c.l[p] (t? hp);have⟨X,n⟩:=e.1.2 p _ _ z B;have G:=HO z;unfold xe;rw[show dn t (Sl.row [c]) (Sl.row [(p:Int)])=M 0 from LP f i a g e (ps:=[p]) (by simpa using u) f?,ζb,show((0:Int)==0)=U from Y,bq,bA hp,ζb,bA u,ζb]
 by_cases C:c.l[p]=len t.b?.l[p].c?
 .rw[C,show(len t.b?.l[p].c?==len t.b?.l[p].c?)=U from f?,bq]
  refine⟨_,Y,.inr ⟨f?,λh=>?_⟩⟩
  have:=(h.1.2 p (c.l[p]+1) _ (by rw[G];simp[hp]) B).2
  simp only[len]at C;omega
 rw[show(c.l[p]==len t.b?.l[p].c?)=O from beq_eq_false_iff_ne.2 C,br];simp only[len]at C;have j:c.l[p]=((c.l[p].toNat:Nat):Int):=a?
 have⟨b,Q,o⟩:=PK f i a g e B (k:=c.l[p].toNat) (by rw[<-j];exact z) a?
 have w:=Cons.up a g e B z a?
 rw[Q,ζb];rw[<-G]at w
 cases b with
 |false=>rw[br];exact⟨_,rfl,.inr ⟨f?,λh=>by have:=o.2 (w.2 h);cases this⟩⟩|true=>
  have⟨d,S,D⟩:=KH (c:=c) a? a?
  have⟨l,T,y⟩:=put_eq (s:=d) (p:=p) (x:=w? N (c.l[p]+1)) (by rw[D];exact hp)
  have m:Sl.get d p=M c.l[p]:=by unfold Sl.get;rw[D];exact z
  rw[bq,S,ζb,nX (by rw[D];exact hp),ζb,m,ζb,ζb,T,ζb]
  exact⟨_,Y,.inl ⟨Y,by show l.l=_;rw[y,D,dV _ a? a?,G],w.1 (o.1 rfl)⟩⟩
def jZ(L:aY Rd)(i:Nat):ST:=Er L ((L[i]?).getD [])
structure Kq(L:List (List Int))(x:bF):Prop where
 l:ins x.l=L
 n:x.next.l.length=L.length
 nx:∀i,i<L.length->∃o,x.next.l[i]?=some o/\o.l=(jZ L i).map λk:Nat=>(k:Int)
theorem YM(l:Small t)(v:cu t=M U)(b:VT t)(y:fm t (bO t) A)(B:eG t A L)(R:_m L<=5000){r:Zb}(E:qX t=M (r,0))(f:ins r=L):
 Wp (dU t) λq=>∃x,q=(M x,0)/\x.t=t/\Kq L x:=by
 have F:=b.few;have T:_m r.l=_m L:=by rw[<-f,j9]
 have I:∀i(h:i<_m r.l),L[i]?=M r.l[i].l:=λi h=>by rw[<-f];exact zo h
 unfold dU;rw[E,ζb];simp only;rw[show((0:Int)==0)=U from _l,bq];unfold dU.W1;refine eB (_m r.l) (λi(q:Int×Mo ByteArray Int)=>q.1=(i:Int)/\∀(j:Nat)c,j<i->L[j]?=M c->vL q.2 (tP c) 0=(j:Int)) ⟨_l,λj c b__=>_e b__ a?⟩ ?_ ?_
 .rintro i ⟨_,m⟩ hi ⟨rfl,d__⟩;simp only at d__;have w:=I i hi;have d:=(B.mem _).1 (s? w);have g:=EE b d;unfold dU.bl;dsimp only;rw[fN hi,bq,bA hi,ζb,OW g (by rw[d.1.1];exact F),ζb,a_]
  refine⟨cq i a?,λj c b__ a=>?_⟩
  show vL (qy m (tP r.l[i].l) (i:Int)) (tP c) 0=_;rw[V_]
  by_cases e:j=i
  .subst e;rw[w]at a;cases a;rw[L' _l]
  have c__:=s? a;rw[M' (λh=>e ?_)]
  .exact d__ j c a? a
  have:=Uy (EE b ((B.mem _).1 c__)) g h;subst this;rw[<-JX B.nodup a,JX B.nodup w]
 rintro⟨_,m⟩ ⟨rfl,d__⟩;simp only at d__;have H:∀c∈L,vL m (tP c) 0=(L.idxOf c:Int):=λc a=>by have:=List.idxOf_lt_length_of_mem a;exact d__ _ c a? (Oo a)
 unfold dU.bl;dsimp only;rw[gA,br,a_];show Wp (dU.W2 r (len r) 0 t m ⟨t,r,.nil⟩) _;unfold dU.W2;refine eB (_m r.l) (λi(q:Int×Mo ByteArray Int×bF)=>q.1=(i:Int)/\q.2.1=m/\q.2.2.t=t/\q.2.2.l=r/\q.2.2.next.l.length=i/\∀j,j<i->∃o,q.2.2.next.l[j]?=M o/\o.l=(jZ L j).map λk:Nat=>(k:Int)) ⟨_l,_l,_l,_l,_l,λj b__=>_e b__ a?⟩ ?_ ?_
 .rintro i ⟨_,m,x⟩ hi ⟨rfl,rfl,D,x2,C,G⟩;simp only at D x2 C G;have w:=I i hi;have d:=(B.mem _).1 (s? w);have V:=d.1.1;have W:jZ L i=Er L r.l[i].l:=by unfold jZ;rw[w];rfl
  unfold dU.bK;dsimp only;rw[fN hi,bq,bA hi,ζb];unfold dU.W3;refine eB r.l[i].l.length (λn(q:Zg×Int×bF)=>q.2.1=(n:Int)/\q.2.2=x/\q.1.l.length<=n/\q.1.l=((C! n).filterMap λp=>if bump r.l[i].l p 1∈L then M (L.idxOf (bump r.l[i].l p 1))else J).map λk:Nat=>(k:Int)) ⟨_l,_l,x? _,_l⟩ ?_ ?_
  .rintro n ⟨o,_,x⟩ hn ⟨rfl,rfl,o1,o2⟩;simp only at o1 o2;have⟨q,K,a__⟩:=aaL l v b y d hn;unfold dU.dQ;dsimp only;rw[fN hn,bq,K,ζb];rcases a__ with⟨k1,k2,k3⟩|⟨k1,k2⟩
   .have z:=(B.mem _).2 k3;have X:_m (bump r.l[i].l n 1)<=8:=by rw[ES];omega
    have⟨Q,Y,S⟩:=oE (s:=o) (x:=vL m (tP (bump r.l[i].l n 1)) 0) a?
    rw[k1,show((0:Int)==0)=U from _l,bq,OW (by rw[k2];exact EE b k3) (by rw[k2];exact X),ζb,k2,Y,ζb,a_]
    refine⟨cq n a?,_l,by show _m Q.l<=_;rw[S];simp;omega,?_⟩
    show Q.l=_;rw[S,o2,H _ z,i7,List.filterMap_append,w!];simp[z]
   have Z:bump r.l[i].l n 1∉L:=λh=>k2 ((B.mem _).1 h)
   rw[show(q.2==0)=O from beq_eq_false_iff_ne.2 k1,br,a_];refine⟨cq n a?,_l,by show _m o.l<=_;omega,?_⟩
   show o.l=_;rw[o2,i7,List.filterMap_append,w!];simp[Z]
  rintro⟨o,_,x⟩ ⟨rfl,rfl,o1,o2⟩;simp only at o1 o2 D x2 C G;have⟨Q,Y,S⟩:=oE (s:=x.next) (x:=o) a?
  unfold dU.dQ;dsimp only;rw[gA,br,a_];show Wp (_o (eH x.next o) _) _;rw[Y,ζb,a_];refine⟨cq i a?,_l,D,x2,by show _m Q.l=_;rw[S];simp[C],λj b__=>?_⟩
  show∃u,Q.l[j]?=M u/\_;rw[S]
  by_cases e:j=i
  .subst e;exact⟨o,by rw[List.getElem?_append_right a?,C];simp,by rw[o2,W];rfl⟩
  have⟨u,e__,P⟩:=G j a?
  exact⟨u,by rw[List.getElem?_append_left a?];exact e__,P⟩
 rintro⟨_,m,x⟩ ⟨rfl,rfl,D,x2,C,G⟩;simp only at D x2 C G;unfold dU.bK;dsimp only;rw[gA,br,a_];exact(a_ _).2 ⟨x,_l,D,by rw[x2];exact f,by rw[C,T],λi hi=>G i a?⟩
end
end Go.VE
namespace Go.VE
section
variable{t:Z4}{A:cn 200 bC}{L:aY Rd}
theorem C2(B:eG t A L){i k:Nat}(hi:i<W L)(a:k∈jZ L i):i<k/\k<W L:=by unfold jZ at a;rw[ζd hi]at a;exact TU B (ζd hi) a
theorem Y_(a:VT t)(B:eG t A L){i:Nat}(hi:i<W L):W (jZ L i)<=8:=by have b:=(B.mem _).1 (t? hi);have:=a.few;unfold jZ Er;rw[ζd hi];refine Nat.le_trans (List.length_filterMap_le ..) ?_;simp[b.1.1];omega
def Bk(L:aY Rd)(g:Nat->aY X'->X')(o:Sl X'):Prop:=W o.l=W L/\∀i,i<W L->bX o i=g i ((jZ L i).map (bX o))
theorem Bk.ind(B:eG t A L){g1 g2:Nat->aY X'->X'}{a b:Sl X'}(D:Bk L g1 a)(G:Bk L g2 b){R:X'->X'->Prop}
 (h:∀i,i<W L->(∀k∈jZ L i,R (bX a k) (bX b k))->R (g1 i ((jZ L i).map (bX a))) (g2 i ((jZ L i).map (bX b)))):∀i,i<W L->R (bX a i) (bX b i):=by
 have key:∀n i,i<W L->W L<=i+n->R (bX a i) (bX b i):=by intro n;induction n with|zero=>intro i c u;omega|succ n w=>intro i c u;rw[D.2 i c,G.2 i c];refine h i c λk d=>?_;have:=C2 B c d;exact w k this.2 a?
 exactλi hi=>key (W L) i hi a?
theorem AT{a b:Sl X'}(B:W a.l=W b.l)(h:∀i,i<W a.l->bX a i=bX b i):a.l=b.l:=by refine List.ext_getElem B λi c u=>?_;have:=h i c;unfold bX at this;rw[ζd c,ζd u]at this;exact this
theorem Cy{α:Type}{s r:Sl α}{p:Nat}{x:α}(h:s.whole=M s)(e:Sl.put s p x=M r):r.whole=M r:=by unfold Sl.put at e;split at e<;>cases e;cases s<;>first|rfl|cases h
theorem Yj(d:VT t)(B:eG t A L)(h:_m L<=5000){x:bF}(Y:Kq L x){p:Int×Sl X'->aX X'}{g:Nat->aY X'->X'}(hp:∀(i:Nat)(nx:Sl X'),i<_m L->_m nx.l<=8->p ((i:Int),nx)=M (g i nx.l)):
 Wp (dP x p) λo=>Bk L g o/\o.whole=M o:=by
 have Q:len x.l=((_m L:Nat):Int):=by simp only[len];rw[<-j9,Y.l]
 unfold dP;rw[Q,El _ a?,ζb,dV _ a? a?]
 unfold dP.W1;refine eC (λq:Sl X'×Int=>∃k:Nat,k<=_m L/\q.2=(k:Int)-1/\q.1.l.length=_m L/\q.1.whole=M q.1/\∀i,k<=i->i<_m L->bX q.1 i=g i ((jZ L i).map (bX q.1))) (λq=>(q.2+1).toNat)
  ⟨_m L,x? _,_l,by simp[Sl.l],_l,λi b D=>a?⟩ ?_
 rintro⟨o,_⟩ ⟨k,c,rfl,o1,S,o2⟩;simp only at o1 S o2;unfold dP.bl;dsimp only
 cases k with
 |zero=>
  rw[show _s ((((0:Nat):Int)-1)>=0)=O from by decide,br,a_]
  exact(a_ _).2 ⟨⟨o1,λi hi=>o2 i (N? _) hi⟩,S⟩
 |succ i=>
  have hi:i<_m L:=a?
  have⟨u,Z,X⟩:=Y.nx i hi;have f:=Y_ d B hi;have T:_m u.l=_m (jZ L i):=by rw[X,List.length_map]
  rw[show(((i+1:Nat):Int)-1)=(i:Int)from a?,show _s ((i:Int)>=0)=U from f?,bq,gp,Z,ζb]
  unfold dP.W2;refine eB (_m u.l) (λm(q:Sl X'×Int)=>q.2=(m:Int)/\q.1.l=((jZ L i).take m).map (bX o)) ⟨_l,by simp[Sl.l]⟩ ?_ ?_
  .rintro m ⟨w,_⟩ hm ⟨rfl,z⟩;simp only at z;have C:m<_m (jZ L i):=by omega
   have l:=C2 B hi (t? C);have F:idx u (m:Int)=M (((jZ L i)[m]:Nat):Int):=by rw[gp,X];simp[C]
   have W:Sl.get o (jZ L i)[m]=M (bX o (jZ L i)[m]):=by unfold Sl.get bX;rw[ζd a?];rfl
   have⟨w',y,a__⟩:=oE (s:=w) (x:=bX o (jZ L i)[m]) (by rw[z];simp;omega)
   unfold dP.bK;dsimp only;rw[fN hm,bq,F,ζb,nX (by omega:(jZ L i)[m]<_m o.l),ζb,W,ζb,y,ζb,a_]
   refine⟨cq m a?,?_⟩
   show w'.l=_;rw[a__,z,List.take_succ_eq_append_getElem C,w!];rfl
  rintro⟨w,_⟩ ⟨rfl,z⟩;simp only at z;rw[T,I?]at z;unfold dP.bK;dsimp only;rw[gA,br,a_];have⟨G,y,a__⟩:=put_eq (s:=o) (p:=i) (x:=g i w.l) a?
  show Wp (H (p ((i:Int),w)) _) _;rw[hp i w hi (by rw[z];simpa using f),ζb,nX (by omega:i<_m o.l),ζb,y,ζb,a_]
  have I:∀k,bX G k=if k=i then g i w.l else bX o k:=λk=>by unfold bX;rw[a__,D?];by_cases e:k=i;subst e;rw[L' _l,L' _l,L' a?];rfl;rw[M' (Ne.symm e),M' e]
  have a:∀j,i<=j->j<_m L->(jZ L j).map (bX G)=(jZ L j).map (bX o):=λj b D=>N! λk c=>by have:=C2 B D c;rw[I,M' a?]
  refine⟨⟨i,a?,by show w? N ((i:Int)-1)=_;exact dV _ a? a?,by show _m G.l=_;rw[a__];simp[o1],Cy S y,λj b D=>?_⟩,?_⟩
  .show bX G j=g j ((jZ L j).map (bX G));rw[a j b D,I]
   by_cases e:j=i
   .subst e;rw[L' _l,z]
   rw[M' e];exact o2 j a? D
  show((w? N ((i:Int)-1):Int)+1).toNat<((i:Int)+1).toNat;rw[dV _ a? a?];omega
theorem JS {s:Sl Bool} {v:Bool} (B:s.l.length<1073741824):ko s v=some (s.l.any λb=>v==b):=by
 have key:Wp (ko s v) λb=>b=s.l.any λb=>v==b:=by
  unfold ko gL gL.W1;rw[eS];refine eB s.l.length (λi (q:Int)=>q=(i:Int)/\∀(j:Nat) b,j<i->s.l[j]? = some b->(v==b)=false) ⟨rfl,λj b h=>_e h a?⟩ ?_ ?_
  .rintro i _ hi ⟨rfl,h1⟩;unfold gL.bl;rw[fN hi,bq,bA hi,ζb]
   cases w:(v==s.l[i])with
   | true=>
    rw[bq,a_];refine(a_ _).2 ((a_ _).2 ?_);rw[show decide ((i:Int)>=0)=true from by simp]
    exact(List.any_eq_true.2 ⟨_,List.getElem_mem hi,w⟩).symm
   | false=>
    rw[br,a_];refine⟨cq i a?,λj b z u=>?_⟩
    by_cases e:j=i
    .subst e;rw[ζd hi]at u;cases u;exact w
    exact h1 j b a? u
  rintro _ ⟨rfl,h1⟩;unfold gL.bl;rw[gA,br,a_];refine(a_ _).2 ((a_ _).2 ?_);rw[show decide ((-1:Int)>=0)=false from by decide]
  refine(List.any_eq_false.2 λb w=>?_).symm
  obtain⟨j,z⟩:=List.mem_iff_getElem?.1 w;rw[h1 j b (ζe.1 z).1 z];simp
 obtain⟨b,h1,rfl⟩:=key;exact h1
theorem Ow{s:Sl X'}(B:W s.l<=8):rK s=M (s.l.any id):=by unfold rK;rw[JS a?];simp only[ζb];congr 2;funext b;cases b<;>rfl
theorem all_eq{s:Sl X'}(B:W s.l<=8):sZ s=M (!s.l.isEmpty&&s.l.all id):=by unfold sZ;rw[JS a?,show _s (len s>0)= !s.l.isEmpty from by cases h:s.l<;>simp[len,h]];cases s.l.isEmpty with|true=>rfl|false=>rw[Bool.not_false,bq];simp only[ζb,Bool.true_and];congr 1;rw[Bool.eq_iff_iff];simp
def gS(kind:Int)(l:Sl X')(i:Nat)(nx:aY X'):X':=if kind=18 then bX l i||nx.any id else if kind=19 then bX l i||(!nx.isEmpty&&nx.all id)else if kind=20 then bX l i&&(nx.isEmpty||nx.any id)else bX l i&&nx.all id
theorem VC{kind:Int}{l:Sl X'}{i:Nat}{nx:Sl X'}(hi:i<W l.l)(B:W nx.l<=8):iJ (i:Int) nx kind l=M (gS kind l i nx.l):=by
 have z:(len nx==0)=nx.l.isEmpty:=by cases h:nx.l<;>simp[len,h];omega
 unfold iJ gS;by_cases a:kind=18;rw[show(kind==18)=U from by simp[a],bq,L' a,mU hi,ζb,Ow B];cases bX l i<;>rfl;rw[show(kind==18)=O from beq_eq_false_iff_ne.2 a,br,M' a];by_cases u:kind=19;rw[show(kind==19)=U from by simp[u],bq,L' u,mU hi,ζb,all_eq B];cases bX l i<;>rfl;rw[show(kind==19)=O from beq_eq_false_iff_ne.2 u,br,M' u];by_cases w:kind=20;rw[show(kind==20)=U from by simp[w],bq,L' w,mU hi,ζb,Ow B,z];cases bX l i<;>cases nx.l.isEmpty<;>rfl;rw[show(kind==20)=O from beq_eq_false_iff_ne.2 w,br,M' w,mU hi,ζb,all_eq B,z];cases h:nx.l<;>cases bX l i<;>rfl
end
theorem R_{s:Zb}{c:Zg}(B:W s.l<1073741824)(a:∀x∈s.l,W x.l<1073741824):oy s c=M (place (λd:Zg=>_s (c.l=d.l)) s.l):=(s7 (p:=λx=>fc x c) (f:=λd:Zg=>_s (c.l=d.l)) (λx u=>by rw[JY (a x u)];congr 1;exact decide_eq_decide.2 eq_comm) a? (λi=>rfl):)
section
variable{t:Z4}{A:cn 200 bC}
end
section
variable{t:Z4}{A:cn 200 bC}{L:aY Rd}
theorem acp(a:Small t):∃b,kZ t=M b:=by
 suffices h:Wp (kZ t) λ_=>True by obtain⟨b,u,-⟩:=h;exact⟨b,u⟩
 have c:=a.1;have d:∀P∈t.b?.l,pn P=M (_s (len P.c?>40)||decide (len P.h?>20)||P.c?.l.any λx=>_s (len x.assign>20)):=λP w=>by unfold pn;rw[B6 (p:=λz=>rj z) (f:=λx=>_s (len x.assign>20)) (λx _=>rfl) (a.2 _ w).1];cases _s (len P.c?>40)<;>cases _s (len P.h?>20)<;>rfl
 unfold kZ kZ.W1;refine eB (W t.b?.l) (λi(q:Int×Int)=>q.2=(i:Int)) Y ?_ ?_;rintro i ⟨n,_⟩ hi e;simp only at e;subst e;unfold kZ.bl;dsimp only;rw[fN hi,bq,bA hi,ζb,a_];exact cq i a?;rintro⟨n,_⟩ e;simp only at e;subst e;unfold kZ.bl;dsimp only;rw[gA,br,a_];show Wp _ _;rw[CM (p:=λz=>pn z) d c];cases _s (n>30)<;>cases(n==36)<;>cases _s (len t.b?>10)<;>exact(a_ _).2 trivial
def gU(c:X')(a b:Sl X')(i:Nat)(nx:aY X'):X':=bX b i||(bX a i&&if c then !nx.isEmpty&&nx.all id else nx.any id)
theorem acu(b:Small t)(c:VT t)(e:fm t (bO t) A)(B:eG t A L){r:Zb}(f:ins r=L){i:Nat}(hi:i<W r.l):
 ∃nx,jk t r.l[i]=M nx/\W nx.l<=8/\(∀y∈nx.l,y.l∈L)/\∀k:Nat,k∈jZ L i↔∃y∈nx.l,k=L.idxOf y.l:=by
 have w:L[i]?=M r.l[i].l:=by rw[<-f];exact zo hi
 have g:=(B.mem _).1 (s? w);have⟨nx,h,j,Q⟩:=OM b c e g;have u:∀d,d∈ins nx↔∃p,p<r.l[i].l.length/\d=bump r.l[i].l p 1/\d∈L:=λd=>by rw[Q];constructor;rintro⟨p,a,G,rfl,C⟩;exact⟨p,(ζe.1 G).1,(HO G).symm,(B.mem _).2 C⟩;rintro⟨p,I,rfl,C⟩;exact⟨p,_,ζd I,HO (ζd I),(B.mem _).1 C⟩
 have z:jZ L i=Er L r.l[i].l:=by unfold jZ;rw[w];rfl
 refine⟨nx,h,j,λy D=>((u _).1 (mF.2 ⟨y,D,Y⟩)).choose_spec.2.2,λk=>?_⟩
 rw[z,N9];constructor
 .rintro⟨p,g1,g2,rfl⟩;have⟨y,g3,g4⟩:=mF.1 ((u _).2 ⟨p,g1,Y,g2⟩);exact⟨y,g3,by rw[g4]⟩
 rintro⟨y,D,rfl⟩;have⟨p,g2,g3,g4⟩:=(u y.l).1 (mF.2 ⟨y,D,Y⟩);exact⟨p,g2,by rw[<-g3];exact g4,by rw[g3]⟩
def RwK(L:aY Rd)(i:Nat)(o:Zg):Prop:=W o.l<=8/\∀k:Int,k∈o.l↔∃j∈jZ L i,k=(j:Int)
theorem Uh(e:Small t)(c:VT t)(f:fm t (bO t) A)(B:eG t A L)(v:_m L<=5000){r:Zb}(b:ins r=L):
 Wp (iX t r) λn=>_m n.l=_m L/\∀i,i<_m L->∃o,n.l[i]?=M o/\RwK L i o:=by
 have a__:_m r.l=_m L:=by rw[<-j9,b]
 have E:=c.few;unfold iX;rw[show len r=((_m r.l:Nat):Int)from _l,El _ a?,ζb]
 unfold iX.W1;refine eB (_m r.l) (λi(q:Zb×Int)=>q.2=(i:Int)/\q.1.l.length=_m L/\(∀j,j<i->∃o,q.1.l[j]?=M o/\RwK L j o)/\∀j,i<=j->j<_m L->q.1.l[j]?=M .nil)
  ⟨_l,by show(replicate _ _).length=_;simp[a__],λj h=>_e h a?,λj _ h=>by show(replicate (_m r.l) (Sl.nil:Zg))[j]?=_;rw[List.getElem?_replicate,L' a?]⟩ ?_ ?_
 .rintro i ⟨out,_⟩ hi ⟨rfl,e1,e2,e3⟩;simp only at e1 e2 e3;have⟨nx,Z,F,g,T⟩:=acu e c f B b hi;unfold iX.bl;dsimp only;rw[fN hi,bq,bA hi,ζb,Z,ζb];unfold iX.W2;refine eB (_m nx.l) (λm(q:Zb×Int)=>q.2=(m:Int)/\∃w,q.1.l=out.l.set i w/\w.whole=M w/\_m w.l=m/\∀k:Int,k∈w.l↔∃j,j<m/\∃y,nx.l[j]?=M y/\k=(L.idxOf y.l:Int))
   ⟨_l,.nil,by
    have⟨d,c__⟩:=ζe.1 (e3 i (x? _) a?)
    rw[<-c__];exact(List.set_getElem_self d).symm,_l,_l,λk=>⟨λh=>(by simp[Sl.l]at h),λ⟨j,C,_⟩=>_e C a?⟩⟩ ?_ ?_
  .rintro m ⟨o,_⟩ D ⟨rfl,w,z,b__,W,Q⟩;simp only at z;have S:nx.l[m].l∈L:=g _ (t? D);have⟨w',G,X⟩:=oE (s:=w) (x:=(L.idxOf nx.l[m].l:Int)) a?
   have Y:w'.whole=M w':=by unfold eH at G;split at G<;>cases G;rfl
   unfold iX.bK;dsimp only;rw[fN D,bq,gp,z,List.getElem?_set_self a?,ζb,b__,ζb,bA D,ζb,R_ a? (λx l=>by
    rw[((B.mem _).1 (by rw[<-b];exact mF.2 ⟨x,l,_l⟩:x.l∈L)).1.1];omega),ζb,C8 (by show nx.l[m].l∈ins r;rw[b];exact S),show(r.l.map Sl.l).idxOf nx.l[m].l=L.idxOf nx.l[m].l from by rw[<-b];rfl,G,ζb,Y,ζb,a_]
   refine⟨cq m a?,w',?_,Y,by rw[X];simp[W],λk=>?_⟩
   .show (pT o (i:Int) w').l=_;rw[(HQ _ _ _).1,z,Int.toNat_natCast,List.set_set]
   rw[X,J!,List.mem_singleton,Q];constructor
   .rintro (⟨j,g1,g2⟩|rfl)
    .exact⟨j,a?,g2⟩
    exact⟨m,a?,_,ζd D,_l⟩
   rintro⟨j,g1,y,g2,g3⟩
   by_cases I:j=m
   .subst I;rw[ζd D]at g2;cases g2;exact .inr g3
   exact .inl ⟨j,a?,y,g2,g3⟩
  rintro⟨o,_⟩ ⟨rfl,w,z,b__,W,Q⟩;simp only at z;unfold iX.bK;dsimp only;rw[gA,br,a_];refine(a_ _).2 ⟨cq i a?,by show _m o.l=_;rw[z];simpa using e1,λj C=>?_,λj d c__=>?_⟩
  .show ∃u,o.l[j]?=M u/\_;rw[z]
   by_cases I:j=i
   .subst I;refine⟨w,List.getElem?_set_self a?,a?,λk=>?_⟩
    rw[Q];constructor
    .rintro⟨j,-,y,g2,rfl⟩;exact⟨_,(T _).2 ⟨y,s? g2,_l⟩,_l⟩
    rintro⟨a,p,rfl⟩;obtain⟨y,S,rfl⟩:=(T a).1 p;have⟨j,C⟩:=mem_iff_getElem?.1 S;exact⟨j,(ζe.1 C).1,y,C,_l⟩
   rw[List.getElem?_set_ne (Ne.symm I)];exact e2 j a?
  show o.l[j]?=_;rw[z,List.getElem?_set_ne a?];exact e3 j a? c__
 rintro⟨out,_⟩ ⟨rfl,e1,e2,e3⟩;simp only at e1 e2 e3;unfold iX.bl;dsimp only;rw[gA,br,a_];exact(a_ _).2 ⟨e1,λi hi=>e2 i a?⟩
theorem Tw(M:Small t)(N:VT t)(P:fm t (bO t) A)(B:eG t A L)(R:L.length<=5000){r:Zb}(H:ins r=L){a b:Sl X'}(ha:a.l.length=L.length)(E:b.l.length=L.length)(f:X'):
 Wp (ga t r a b f) λo=>Bk L (gU f a b) o:=by
 have G:r.l.length=L.length:=by rw[<-j9,H]
 have⟨n,V,n2,n3⟩:=Uh M N P B R H;unfold ga;rw[V,ζb,show len r=((r.l.length:Nat):Int)from rfl,El _ a?,ζb,dV _ a? a?]
 unfold ga.W1;refine eC (λq:Sl X'×Int=>∃k:Nat,k<=L.length/\q.2=(k:Int)-1/\q.1.l.length=L.length/\∀i,k<=i->i<L.length->bX q.1 i=gU f a b i ((jZ L i).map (bX q.1))) (λq=>(q.2+1).toNat)
  ⟨L.length,x? _,by rw[G],by show(replicate _ _).length=_;simp[G],λi F I=>a?⟩ ?_
 rintro⟨o,_⟩ ⟨k,g,rfl,o1,o2⟩;simp only at o1 o2;unfold ga.bl;dsimp only
 cases k with
 |zero=>
  rw[show _s ((((0:Nat):Int)-1)>=0)=O from by decide,br,a_]
  exact(a_ _).2 ⟨o1,λi hi=>o2 i (N? _) hi⟩
 |succ i=>
  have hi:i<L.length:=a?
  have⟨u,u1,u2,z⟩:=n3 i hi;have C:idx n (i:Int)=_k u:=by rw[gp];exact u1
  rw[show(((i+1:Nat):Int)-1)=(i:Int)from a?,show _s ((i:Int)>=0)=U from f?,bq,C,ζb]
  have a__:len u=((u.l.length:Nat):Int):=rfl;unfold ga.W2;refine eB u.l.length (λm(q:X'×X'×Int)=>q.2.2=(m:Int)/\q.1=((u.l.take m).any λx=>bX o x.toNat)/\q.2.1=(!u.l.isEmpty&&(u.l.take m).all λx=>bX o x.toNat)) ⟨rfl,f?,by
   simp only[List.take_zero,List.all_nil,Bool.and_true];cases h:u.l<;>simp[len,h]⟩ ?_ ?_
  .rintro m ⟨c,d,_⟩ hm ⟨rfl,D,l⟩;simp only at D l;have⟨y,hy,c__⟩:=(z u.l[m]).1 (t? hm);have ab:=C2 B hi hy;have aa:(Sl.iE o u.l[m]).bind (λx=>(Sl.get o x).bind λx=>_k x)=_k (bX o y):=by
    rw[c__,nX (by omega:y<o.l.length),ζb]
    unfold Sl.get bX;rw[ζd a?];rfl
   have ht:bX o u.l[m].toNat=bX o y:=by rw[c__];rfl
   unfold ga.bK;dsimp only;rw[C];simp only[ζb];rw[a__,fN hm,bq,bA hm];simp only[ζb];rw[aa];refine⟨.n (c||bX o y,d&&bX o y,w? _r ((m:Int)+1)),?_,cq m a?,?_⟩
   .cases c<;>cases d<;>rfl
   simp only;rw[List.take_succ_eq_append_getElem hm,List.any_append,List.all_append,D,l,<-ht];simp[Bool.and_assoc]
  rintro⟨c,d,_⟩ ⟨rfl,D,l⟩;simp only at D l;rw[I?]at D l;have c2:c=((jZ L i).map (bX o)).any id:=by rw[D,Bool.eq_iff_iff,m9,m9];constructor;rintro⟨k,g,h⟩;obtain⟨j,w,rfl⟩:=(z k).1 g;exact⟨_,mem_map.2 ⟨j,w,rfl⟩,by simpa using h⟩;rintro⟨b,E,h⟩;obtain⟨j,w,rfl⟩:=mem_map.1 E;exact⟨j,(z _).2 ⟨j,w,rfl⟩,by simpa using h⟩
  have em:u.l.isEmpty=((jZ L i).map (bX o)).isEmpty:=by rw[List.isEmpty_map,Bool.eq_iff_iff,List.isEmpty_iff,List.isEmpty_iff];constructor;intro h;refine List.eq_nil_iff_forall_not_mem.2 λj w=>?_;have:=(z _).2 ⟨j,w,rfl⟩;rw[h]at this;cases this;intro h;refine List.eq_nil_iff_forall_not_mem.2 λj w=>?_;obtain⟨j,w,-⟩:=(z _).1 w;rw[h]at w;cases w
  have d2:d=(!((jZ L i).map (bX o)).isEmpty&&((jZ L i).map (bX o)).all id):=by rw[l,em];congr 1;rw[Bool.eq_iff_iff,G?,G?];constructor;intro h b E;obtain⟨j,w,rfl⟩:=mem_map.1 E;have:=h j ((z _).2 ⟨j,w,rfl⟩);simpa using this;intro h k g;obtain⟨j,w,rfl⟩:=(z k).1 g;have:=h _ (mem_map.2 ⟨j,w,rfl⟩);simpa using this
  unfold ga.bK;dsimp only;rw[C,ζb,a__,gA,br,a_];have⟨Q,j1,K⟩:=put_eq (s:=o) (p:=i) (x:=gU f a b i ((jZ L i).map (bX o))) a?
  have S:∀{γ:Type}(k:X'->aX γ),((bh (bX b i) (_k U) ((_k (bX a i)).bind λT=>(bh T ((bh f (_k d) (_k O):aX X').bind λb__=>(bh b__ (_k U) ((bh f (_k O) (_k c):aX X').bind λW=>_k W):aX X').bind λX=>_k X) (_k O):aX X').bind λY=>_k Y):aX X').bind k)=k (gU f a b i ((jZ L i).map (bX o))):=λk=>by unfold gU;rw[<-c2,<-d2];cases f<;>cases bX b i<;>cases bX a i<;>cases c<;>cases d<;>rfl
  show Wp ((idx b (i:Int)).bind _) _;rw[mU a?,ζb,mU a?,S,nX (by omega:i<o.l.length),ζb,j1,ζb,a_]
  have Z:∀k,bX Q k=if k=i then gU f a b i ((jZ L i).map (bX o))else bX o k:=λk=>by unfold bX;rw[K,D?];by_cases e:k=i;subst e;rw[L' rfl,L' rfl,L' a?];rfl;rw[M' (Ne.symm e),M' e]
  have v:∀j,i<=j->j<L.length->(jZ L j).map (bX Q)=(jZ L j).map (bX o):=λj F I=>N! λk g=>by have:=C2 B I g;rw[Z,M' a?]
  refine⟨⟨i,a?,by show w? _r ((i:Int)-1)=_;exact dV _ a? a?,by show Q.l.length=_;rw[K];simp[o1],λj F I=>?_⟩,?_⟩
  .show bX Q j=gU f a b j ((jZ L j).map (bX Q));rw[v j F I,Z]
   by_cases e:j=i
   .subst e;rw[L' rfl]
   rw[M' e];exact o2 j a? I
  show((w? _r ((i:Int)-1):Int)+1).toNat<((i:Int)+1).toNat;rw[dV _ a? a?];omega
theorem Bk.one(B:eG t A L){g:Nat->aY X'->X'}{a b:Sl X'}(D:Bk L g a)(G:Bk L g b):a.l=b.l:=AT (by rw[D.1,G.1]) λi hi=>D.ind B G (R:=λu v=>u=v) (λi _ h=>by rw[N! h]) i (by rw[<-D.1];exact hi)
theorem Xo{x:Sl X'}(D:W x.l<=1073741824):Wp (jA x) λo=>W o.l=W x.l/\∀i,i<W x.l->bX o i= !bX x i:=by have u:len x=((W x.l:Nat):Int):=rfl;unfold jA;rw[u,El _ a?,ζb];unfold jA.W1;refine eB (W x.l) (λi(q:Sl X'×Int)=>q.2=(i:Int)/\q.1.l.length=W x.l/\∀j,j<i->bX q.1 j= !bX x j) ⟨Y,by simp[Sl.l],λj h=>_e h a?⟩ ?_ ?_;rintro i ⟨n,_⟩ hi ⟨rfl,e1,e3⟩;simp only at e1 e3;have⟨w,B,z⟩:=put_eq (s:=n) (p:=i) (x:= !bX x i) a?;unfold jA.bl;dsimp only;rw[u,fN hi,bq,mU hi,ζb,nX (by omega:i<W n.l),ζb,B,ζb,a_];refine⟨cq i a?,by show W w.l=_;rw[z];simp[e1],λj C=>?_⟩;show bX w j=_;unfold bX;rw[z,D?];by_cases e:j=i;subst e;rw[L' Y,L' a?];rfl;rw[M' (Ne.symm e)];exact e3 j a?;rintro⟨n,_⟩ ⟨rfl,e1,e3⟩;simp only at e1 e3;unfold jA.bl;dsimp only;rw[u,gA,br,a_];exact(a_ _).2 ⟨e1,e3⟩
theorem VU(d:Small t)(f:VT t)(m:fm t (bO t) A)(B:eG t A L)(E:_m L<=5000){r:Zb}(F:ins r=L){kind:Int}(V:18<=kind/\kind<=21){l e:Sl X'}(Y:_m l.l=_m L)(T:Bk L (gS kind l) e):
 Wp (gF t r kind l) λo=>o.l=e.l:=by
 have C:len l=((_m l.l:Nat):Int):=rfl;unfold gF;rw[C,El _ a?,ζb]
 unfold gF.W1;refine eB (_m l.l) (λi(q:Sl X'×Int)=>q.2=(i:Int)/\q.1.l.length=_m l.l/\∀j,j<i->bX q.1 j=U) ⟨_l,by simp[Sl.l],λj h=>_e h a?⟩ ?_ ?_
 .rintro i ⟨n,_⟩ hi ⟨rfl,e1,e3⟩;simp only at e1 e3;have⟨I,Q,b__⟩:=put_eq (s:=n) (p:=i) (x:=U) a?
  unfold gF.bl;dsimp only;rw[C,fN hi,bq,nX (by omega:i<_m n.l),ζb,Q,ζb,a_]
  refine⟨cq i a?,by show _m I.l=_;rw[b__];simp[e1],λj Z=>?_⟩
  show bX I j=_;unfold bX;rw[b__,D?]
  by_cases e:j=i
  .subst e;rw[L' _l,L' a?];rfl
  rw[M' (Ne.symm e)];exact e3 j a?
 rintro⟨y,_⟩ ⟨rfl,H,d__⟩;simp only at H d__;unfold gF.bl;dsimp only;rw[C,gA,br,a_];show Wp (_o (jQ ((_m l.l:Nat):Int) O) _) _;rw[El _ a?,ζb]
 unfold gF.W2;refine eB (_m l.l) (λi(q:Sl X'×Int)=>q.2=(i:Int)/\q.1.l.length=_m l.l/\∀j,j<i->bX q.1 j= !bX l j) ⟨_l,by simp[Sl.l],λj h=>_e h a?⟩ ?_ ?_
 .rintro i ⟨n,_⟩ hi ⟨rfl,e1,e3⟩;simp only at e1 e3;have⟨I,Q,b__⟩:=put_eq (s:=n) (p:=i) (x:= !bX l i) a?
  unfold gF.bK;dsimp only;rw[C,fN hi,bq,mU hi,ζb,nX (by omega:i<_m n.l),ζb,Q,ζb,a_]
  refine⟨cq i a?,by show _m I.l=_;rw[b__];simp[e1],λj Z=>?_⟩
  show bX I j=_;unfold bX;rw[b__,D?]
  by_cases e:j=i
  .subst e;rw[L' _l,L' a?];rfl
  rw[M' (Ne.symm e)];exact e3 j a?
 rintro⟨n,_⟩ ⟨rfl,K,S⟩;simp only at K S;unfold gF.bK;dsimp only;rw[C,gA,br,a_];have un:=λ{z:Sl X'}(a__:_m z.l=_m L)every=>Tw d f m B E F (a:=y) (b:=z) a? a__ every
 have fin:∀{o:Sl X'}{g:Nat->aY X'->X'},Bk L g o->(∀i,i<_m L->(∀k∈jZ L i,bX e k= !bX o k)->gS kind l i ((jZ L i).map (bX e))= !g i ((jZ L i).map (bX o)))->Wp (_o (jA o) λx=>M x) λo=>o.l=e.l:=λ{o g}G h=>by have⟨z,e__,P,z3⟩:=Xo (x:=o) (by rw[G.1];omega);rw[e__,ζb,a_];have:=T.ind B G (R:=λu v=>u= !v) h;exact AT (by rw[P,G.1,T.1]) λi hi=>by rw[z3 i a?,this i (by rw[<-G.1];omega)]
 have D:∀{o:Sl X'}{g:Nat->aY X'->X'},Bk L g o->(∀i,i<_m L->g i ((jZ L i).map (bX o))=gS kind l i ((jZ L i).map (bX o)))->o.l=e.l:=λ{o g}G h=>Bk.one B ⟨G.1,λi hi=>by rw[G.2 i hi,h i hi]⟩ T
 show Wp (bh _ _ _) _
 by_cases c:kind=18
 .subst c;have⟨o,o1,o2⟩:=un Y O;rw[show((18:Int)==18)=U from _l,bq,o1,ζb,a_];exact D o2 λi hi=>by simp[gU,gS,d__ i a?]
 rw[show(kind==18)=O from beq_eq_false_iff_ne.2 c,br]
 by_cases c__:kind=19
 .subst c__;have⟨o,o1,o2⟩:=un Y U;rw[show((19:Int)==19)=U from _l,bq,o1,ζb,a_];exact D o2 λi hi=>by simp[gU,gS,d__ i a?]
 rw[show(kind==19)=O from beq_eq_false_iff_ne.2 c__,br];have X:_m n.l=_m L:=a?
 by_cases W:kind=20
 .subst W;have⟨o,o1,o2⟩:=un X U;rw[show((20:Int)==20)=U from _l,bq,o1,ζb];refine fin o2 λi hi h=>?_
  rw[N! h];simp only[gU,gS,d__ i a?,S i a?]
  generalize jZ L i=w;rw[Bool.eq_iff_iff];simp
 rw[show(kind==20)=O from beq_eq_false_iff_ne.2 W,br];have⟨o,o1,o2⟩:=un X O;rw[o1,ζb];refine fin o2 λi hi h=>?_
 rw[N! h];simp only[gU,gS,d__ i a?,S i a?,M' c,M' c__,M' W]
 generalize jZ L i=w;rw[Bool.eq_iff_iff];simp
theorem acY{a b:Sl X'}(B:W a.l<=1073741824)(h:a.l=b.l):gG a b=M U:=by unfold gG;rw[show(len a==len b)=U from by simp[len,h],bq];refine Wp.eq ?_;unfold gG.W1;refine eB (W a.l) (λn s=>s=(n:Int)) Y ?_ ?_;rintro i _ hi rfl;unfold gG.bl;rw[fN hi,bq,bA hi,ζb,show idx b (i:Int)=M a.l[i]from by rw[gp,<-h];exact ζd hi,ζb,show(a.l[i]==a.l[i])=U from f?,bq,a_,cq i a?];rintro _ rfl;unfold gG.bl;rw[gA,br,a_];exact(a_ _).2 rfl
end
section
variable{t:Z4}{A:cn 200 bC}{L:aY Rd}{tb:Sl X'}
end
section
variable{α σ:Type}
def Am(p:α->σ->aX (X'×σ)):aY α->σ->aX (X'×σ)
 |[],x=>M (O,x)|a::r,x=>H (p a x) λy=>if y.1 then M (U,y.2)else Am p r y.2
theorem N8{s:Sl α}{p:α->σ->aX (X'×σ)}{x:σ}(B:W s.l<1073741824):CF s p x=Am p s.l x:=by
 have key:∀(c:aY α)(j:Nat)(x:σ),s.l.drop j=c->(H (bL (HB s p) ((j:Int),x)) (Fw.elim (λe=>M ((-1:Int),e)) λe=>M e)).bind (λy:Int×σ=>M (_s (y.1>=0),y.2))=Am p c x:=by intro c;induction c with|nil=>intro j x hd;have d:_s ((j:Int)<len s)=O:=(by have:W s.l<=j:=(by simpa using hd);simp[len];omega);rw[fP];simp only[HB,d,bh,v?,_a,ζb,Fw.elim,Am];rfl|cons a c u=>intro j x hd;have d:j<W s.l:=(by apply R?;intro C;rw[List.drop_eq_nil_of_le a?]at hd;cases hd);have w:=List.drop_eq_getElem_cons d;rw[w]at hd;simp only[List.cons.injEq]at hd;rw[fP];simp only[HB,fN d,bh,N',bA d,ζb,hd.1,Am];cases p a x with|none=>rfl|some y=>have⟨b,z⟩:=y;simp only[ζb];cases b with|true=>simp[Fw.elim]|false=>simp only[v?,_a,ζb,cq j a?];exact u (j+1) z hd.2
 exact key s.l 0 x Y
def Io(p:α->aX X'):aY α->aX X'
 |[]=>M O|a::r=>H (p a) λb=>if b then M U else Io p r
theorem Jd(p:α->aX X'):∀l:aY α,Am (λx(u:Unit)=>(p x).map λb=>(b,u)) l ()=(Io p l).map λb=>(b,())
 |[]=>rfl|a::r=>by simp only[Am,Io];cases p a with|none=>rfl|some b=>cases b<;>simp[Jd p r]
theorem xV{s:Sl α}(p:α->aX X')(B:W s.l<1073741824):CF s (λx(u:Unit)=>(p x).map λb=>(b,u)) ()=(Io p s.l).map λb=>(b,()):=by rw[N8 B,Jd]
theorem wM{p:α->aX X'}{f:α->X'}:∀{l:aY α},(∀x∈l,p x=M (f x))->Io p l=M (l.any f)
 |[],_=>rfl|a::r,h=>by simp only[Io,h a f?,ζb,any_cons,wM (λx B=>h x (B? _ B))];cases f a<;>rfl
theorem eE{δ:Type}{b:(α->aX δ)->α->aX δ}{n:Nat}(h:0<n)(z:α):cI b n z=b (cI b (n-1)) z:=by cases n with|zero=>omega|succ n=>rfl
end
def BQ(l:Rd)(az:aY Assign):Rd:=az.foldl (λl a=>l.set a.var.toNat a.value) l
def jc(P:bT):Nat->Rd
 |0=>P.h?.l.map Var.init_|k+1=>match P.c?.l[k]?with
  |some e=>BQ (jc P k) e.assign.l|none=>jc P k
theorem L8:∀(az:aY Assign)(l:Rd),W (BQ l az)=W l
 |[],l=>rfl|a::r,l=>by show(BQ (l.set a.var.toNat a.value) r).length=_;rw[L8 r];simp
theorem rq(P:bT):∀k,W (jc P k)=W P.h?.l
 |0=>by simp[jc]|k+1=>by unfold jc;split;rw[L8,rq P k];exact rq P k
def Nr{α:Type}(s:Sl α):Prop:=s=.nil\/∃l,s=.row l
theorem MB:∀(vs:aY Var)(s:Zg),Nr s->W s.l+W vs<1073741824->∃B,yD vs s=M B/\Nr B/\B.l=s.l++vs.map Var.init_
 |[],s,h,_=>⟨s,rfl,h,f?⟩|v::r,s,h,D=>by simp only[W?]at D;have a:eH s v.init_=M (.row (s.l++[v.init_])):=(by unfold eH;rw[L' a?]);have⟨B,g1,g2,g3⟩:=MB r (.row (s.l++[v.init_])) (.inr ⟨_,Y⟩) (by show(s.l++[v.init_]).length+W r<1073741824;simp;omega);refine⟨B,?_,g2,by rw[g3];show(s.l++[v.init_])++r.map Var.init_=_;simp⟩;simp only[yD,a,ζb,g1]
theorem Lg:∀(az:aY Assign)(s:Zg),Nr s->(∀a∈az,0<=a.var/\a.var<W s.l)->∃B,yM az s=M B/\Nr B/\B.l=BQ s.l az
 |[],s,h,_=>⟨s,rfl,h,rfl⟩|a::r,s,h,D=>by have⟨G,c⟩:=D a f?;have d:Sl.iE s a.var=M a.var.toNat:=(by unfold Sl.iE;rw[L' ⟨G,a?⟩]);rcases h with rfl|⟨l,rfl⟩;simp[Sl.l]at c;omega;have u:Sl.put (.row l) a.var.toNat a.value=M (.row (l.set a.var.toNat a.value)):=(by unfold Sl.put;rw[L' (by simp[Sl.l]at c⊢;omega)]);have⟨B,g1,g2,g3⟩:=Lg r (.row (l.set a.var.toNat a.value)) (.inr ⟨_,Y⟩) (λb w=>by have:=D b (B? _ w);simpa[Sl.l]using this);refine⟨B,?_,g2,g3⟩;simp only[yM,d,u,ζb,g1]
theorem OA{s:Zg}(h:Nr s)(B:W s.l<1073741824):∃c,Pe s=M c/\c.l=s.l:=by rcases h with rfl|⟨l,rfl⟩;exact⟨.nil,Y,Y⟩;unfold Pe IB.fq qh;simp only[Sl.isNil,ζb,bh,v?,_a];by_cases u:(Sl.row l).l=[];rw[L' u];exact⟨.row [],Y,u.symm⟩;rw[M' u,L' (by simp[Sl.l]at B⊢;omega)];exact⟨_,Y,by simp[Sl.l]⟩
def w6(P:bT):Prop:=∀e∈P.c?.l,∀a∈e.assign.l,0<=a.var/\a.var<W P.h?.l
theorem MS{P:bT}(B:w6 P)(f:W P.h?.l<1073741824):∀(b:aY WF)(k:Nat)(s:Zg),P.c?.l.drop k=b->Nr s->s.l=jc P k->
 ∃r,yA (k:Int) b s=M r/\W r=W b/\∀(i:Nat)x,r[i]?=M x->x.1=((k+i+1:Nat):Int)/\x.2.l=jc P (k+i+1)
 |[],k,s,_,_,_=>⟨[],rfl,rfl,f?⟩|e::b,k,s,hd,D,G=>by have d:k<W P.c?.l:=(by apply R?;intro D;rw[List.drop_eq_nil_of_le a?]at hd;cases hd);have C:=List.drop_eq_getElem_cons d;rw[C]at hd;simp only[List.cons.injEq]at hd;have I:e∈P.c?.l:=hd.1▸t? d;have w:W s.l=W P.h?.l:=(by rw[G,rq]);have⟨n,g1,g2,g3⟩:=Lg e.assign.l s D (λa g=>by rw[w];exact B e I a g);have u:jc P (k+1)=n.l:=(by rw[g3,G];unfold jc;rw[ζd d,hd.1];cases k<;>rfl);have⟨c,g4,g5⟩:=OA g2 (by rw[<-u,rq];exact f);have⟨r,L,h,Q⟩:=MS B f b (k+1) n hd.2 g2 u.symm;refine⟨((k:Int)+1,c)::r,?_,by simp[h],λi x z=>?_⟩;simp only[yA,g1,g4,ζb];rw[show(k:Int)+1=((k+1:Nat):Int)from Y,L];rfl;cases i with|zero=>simp only[List.getElem?_cons_zero,ζa]at z;subst z;exact⟨rfl,by rw[g5,<-u]⟩|succ i=>rw[List.getElem?_cons_succ]at z;have⟨S,T⟩:=Q i x z;exact⟨by rw[S];congr 1;omega,by rw[T];congr 1;omega⟩
theorem Jk{P:bT}(B:w6 P)(a:W P.h?.l<1073741824)(T:W P.c?.l<1073741824)(D:∀e∈P.c?.l,W e.assign.l<1073741824):
 ∃r,kX P=M r/\W r=W P.c?.l+1/\∀(i:Nat)x,r[i]?=M x->x.1=(i:Int)/\x.2.l=jc P i:=by
 have⟨s,g1,g2,g3⟩:=MB P.h?.l .nil (.inl Y) (by simpa[Sl.l]using a)
 have w:s.l=jc P 0:=by rw[g3];simp[Sl.l,jc]
 have⟨c,g4,g5⟩:=OA g2 (by rw[w,rq];exact a)
 have⟨r,z,C,G⟩:=MS B a P.c?.l 0 s Y g2 w;refine⟨(0,c)::r,?_,by simp[C],λi x u=>?_⟩
 .unfold kX;have b:(rz (W P.h?.l)&&(rz (W P.c?.l)&&P.c?.l.all λe=>rz (W e.assign.l)))=U:=by
   simp only[ζh,G?,rz,_g];exact⟨a?,a?,λe h=>by have:=D e h;omega⟩
  rw[L' b,g1,ζb,g4,ζb];rw[show((0:Nat):Int)=0 from Y]at z;rw[z];rfl
 cases i with
 |zero=>simp only[List.getElem?_cons_zero,ζa]at u;subst u;exact⟨rfl,by rw[g5,w]⟩|succ i=>rw[List.getElem?_cons_succ]at u;have⟨I,d⟩:=G i x u;exact⟨by rw[I];congr 1;omega,by rw[d];congr 1;omega⟩
theorem VF{P:bT}(D:w6 P)(b:W P.h?.l<1073741824)(G:W P.c?.l<1073741824)(g:∀e∈P.c?.l,W e.assign.l<1073741824){k:Nat}(d:k<=W P.c?.l):
 ∃x,gY P (k:Int)=M x/\x.l=jc P k:=by
 have⟨r,c,h,C⟩:=Jk D b G g;have key:∀(a:aY (Int×Zg))(i:Nat)(q:Zg),r.drop i=a->i<=k->∃x,H (mN (λ(x:Int×(Zg))(q:Zg)=>gY.lM P k x q) a q) (Fw.tK (λq=>M Sl.nil) (λe=>Empty.elim e) (λe=>M e))=M x/\x.l=jc P k:=by intro a;induction a with|nil=>intro i q hd hi;have:W r<=i:=(by simpa using hd);omega|cons y a I=>intro i q hd hi;have u:i<W r:=a?;have e2:=List.drop_eq_getElem_cons u;rw[e2]at hd;simp only[List.cons.injEq]at hd;have⟨B,L⟩:=C i y (by rw[ζd u,hd.1]);by_cases w:i=k;subst w;refine⟨y.2,?_,L⟩;simp only[mN,gY.lM,B,beq_self_eq_true,bh,N',ζb,Fw.tK];have z:(y.1==(k:Int))=O:=(by rw[B];simp;omega);have⟨x,g1,g2⟩:=I (i+1) .nil hd.2 a?;refine⟨x,?_,g2⟩;simp only[mN,gY.lM,z,bh,v?,_a,ζb];exact g1
 have⟨x,g1,g2⟩:=key r 0 .nil Y (N? _);refine⟨x,?_,g2⟩;unfold gY pJ gY.E1;simp only[ζb,c];exact g1
mutual
def Pred.sz:T'->Nat
 |⟨_,_,_,_,_,l⟩=>1+Pred.szS l
def Pred.szS:Sl T'->Nat
 |.nil=>0|.emp=>0|.row l=>Pred.oJ l|.part l=>Pred.oJ l
def Pred.oJ:aY T'->Nat
 |[]=>0|x::r=>Pred.sz x+Pred.oJ r
end
mutual
def Pred.dp:T'->Nat
 |⟨_,_,_,_,_,l⟩=>1+Pred.dpS l
def Pred.dpS:Sl T'->Nat
 |.nil=>0|.emp=>0|.row l=>Pred.vV l|.part l=>Pred.vV l
def Pred.vV:aY T'->Nat
 |[]=>0|x::r=>max (Pred.dp x) (Pred.vV r)
end
mutual
def Pred.eW(f:T'->X'):T'->X'
 |⟨a,b,c,d,e,l⟩=>f ⟨a,b,c,d,e,l⟩&&Pred.QT f l
def Pred.QT(f:T'->X'):Sl T'->X'
 |.nil=>U|.emp=>U|.row l=>Pred.Iq f l|.part l=>Pred.Iq f l
def Pred.Iq(f:T'->X'):aY T'->X'
 |[]=>U|x::r=>Pred.eW f x&&Pred.Iq f r
end
theorem Pred.acE(s:Sl T'):Pred.szS s=Pred.oJ s.l:=by cases s<;>simp[Pred.szS,Pred.oJ,Sl.l]
theorem Pred.acP(s:Sl T'):Pred.dpS s=Pred.vV s.l:=by cases s<;>simp[Pred.dpS,Pred.vV,Sl.l]
theorem Pred.Ml(f:T'->X'):∀l:aY T',Pred.Iq f l=l.all (Pred.eW f)
 |[]=>by simp[Pred.Iq]|x::r=>by simp only[Pred.Iq,q!,Pred.Ml f r]
theorem Pred.aa5(f:T'->X')(s:Sl T'):Pred.QT f s=s.l.all (Pred.eW f):=by cases s<;>simp[Pred.QT,Pred.Ml,Sl.l]
theorem Pred.QA(p:T'):p.sz=1+Pred.oJ p.l.l:=by cases p;simp only[Pred.sz,Pred.acE]
theorem Pred.G9(p:T'):p.dp=1+Pred.vV p.l.l:=by cases p;simp only[Pred.dp,Pred.acP]
theorem Pred.kM(f:T'->X')(p:T'):p.eW f=(f p&&p.l.l.all (Pred.eW f)):=by cases p;simp only[Pred.eW,Pred.aa5]
theorem Pred.ON:∀{l:aY T'}{q:T'},q∈l->q.dp<=Pred.vV l
 |x::r,q,h=>by simp only[Pred.vV];rcases mem_cons.1 h with rfl|h;omega;have:=Pred.ON h;omega
theorem Pred.OX:∀{l:aY T'}{q:T'},q∈l->q.sz<=Pred.oJ l
 |x::r,q,h=>by simp only[Pred.oJ];rcases mem_cons.1 h with rfl|h;omega;have:=Pred.OX h;omega
theorem Pred.jE{p q:T'}(h:q∈p.l.l):q.dp<p.dp:=by rw[p.G9];have:=Pred.ON h;omega
theorem Pred.pO(p:T'):0<p.dp:=by rw[p.G9];omega
theorem Pred.ind{M:T'->Prop}(h:∀p,(∀q∈p.l.l,M q)->M p)(p:T'):M p:=by
 have key:∀n p,p.dp<=n->M p:=by intro n;induction n with|zero=>intro p u;have:=p.pO;omega|succ n w=>intro p u;exact h p λq z=>w q (by have:=Pred.jE z;omega)
 exact key _ p (x? _)
abbrev Pred.Sm(p:Pred):Prop:=p.eW (λq=>_s (W q.l.l<1073741824))=U
theorem Pred.Sm.len{p:T'}(h:p.Sm):W p.l.l<1073741824:=by unfold Pred.Sm at h;rw[p.kM]at h;simp only[ζh,_g]at h;exact h.1
theorem Pred.Sm.qz{p q:T'}(h:p.Sm)(B:q∈p.l.l):q.Sm:=by unfold Pred.Sm at h;rw[p.kM]at h;simp only[ζh,G?]at h;exact h.2 q B
theorem OF{f:T'->aX X'}{g:T'->X'}(p:T')(B:p.Sm):p.eW (λq=>f q==M (g q))=U->∀n,p.dp<=n->cI (λr(z:T')=>kK z f r) n p=M (p.eW g):=by induction p using Pred.ind with|h p C=>intro u n D;rw[p.kM]at u;simp only[ζh,G?,_j]at u;have hd:=p.G9;rw[eE a?];show kK p f _=_;unfold kK;rw[u.1,ζb,p.kM];cases g p with|false=>rfl|true=>rw[bq,xV _ B.len,wM (f:=λq=> !q.eW g) (λq w=>by have:=C q w (B.qz w) (u.2 q w) (n-1) (by have:=Pred.jE w;omega);show(cI (λr(z:T')=>kK z f r) (n-1) q).bind _=_;rw[this];rfl)];simp only[Option.map_some,ζb,Bool.true_and];congr 1;rw[Bool.eq_iff_iff];simp
theorem Ah{step:Int->aX (Fw Int Unit Unit)}{p:T'}{g:T'->X'}(D:W p.l.l<1073741824)(h:∀(i:Nat)(hi:i<W p.l.l),step i=M (if g p.l.l[i]then .n ((i+1:Nat):Int)else .r ()))(B:step (W p.l.l)=M (.x ())):
 H (bL (λq:Int=>step q) 0) (Fw.elim (λ_=>M U) (λ_=>M O))=M (p.l.l.all g):=by
 refine Wp.eq ?_;refine eB (W p.l.l) (λn s=>s=(n:Int)/\(p.l.l.take n).all g=U) ⟨Y,Y⟩ ?_ ?_
 .rintro i _ hi ⟨rfl,u⟩;rw[h i hi,a_]
  cases a:g p.l.l[i]with
  |true=>refine⟨Y,?_⟩;rw[P?,ζd hi,List.all_append,u];simp[a]|false=>
   refine(a_ _).2 ?_
   symm
   rw[List.all_eq_false];exact⟨_,t? hi,by rw[a];simp⟩
 rintro _ ⟨rfl,u⟩;rw[B,a_];rw[I?]at u;exact(a_ _).2 u.symm
abbrev MM(p:Pred):Bool:=C? p.name==C? ByteArray.empty
abbrev KD(p:Pred)(c:Int):Bool:=(len p.l==c)&&(!_s (p.n<0)&&(!_s (p.n>1125899906842624)&&((p.n==0||p.kind==1)&&(p.kind==2||(p.kind==3||(p.kind==4||(p.proc==0&&(p.k?==0&&MM p))))))))
theorem Y0:∀k:_root_.Fin 22,1<=k.1->(cn.at vr ((k.1:Nat):Int)).isSome=U:=by decide
theorem JM{k:Int}(a:1<=k)(B:k<22):∃c,cn.at vr k=M c:=by have g:=Y0 ⟨k.toNat,a?⟩ g?;grind[Option.isSome_iff_exists]
theorem U6:∀k:_root_.Fin 22,1<=k.1->cn.at vr ((k.1:Nat):Int)=nv ((k.1:Nat):Int)/\(nv ((k.1:Nat):Int)).isSome=U:=by decide
theorem Qy{k:Int}(a:1<=k)(B:k<22):∃c,cn.at vr k=M c/\nv k=M c:=by have⟨g1,g2⟩:=U6 ⟨k.toNat,a?⟩ g?;grind[Option.isSome_iff_exists]
theorem SZ{k:Int}(h:k<1\/22<=k):nv k=M (-1):=by
 have c:(bh (_s (k>=1)) (M (_s (k<=4))) (M O):aX X')=M O:=by by_cases b:k>=1;rw[_c b,bq,_b a?];rw[_b b];rfl
 have d:(bh (_s (k>=18)) (M (_s (k<=21))) (M O):aX X')=M O:=by grind
 have e:(bh (_s (k>=6)) (M (_s (k<=12))) (M O):aX X')=M O:=by grind
 have a:∀m:Int,1<=m->m<22->(k==m)=O:=λm b u=>by simp;omega
 unfold nv;rw[c,d,e,a 13 a? a?,a 14 a? a?,a 5 a? a?,a 15 a? a?,a 16 a? a?,a 17 a? a?];rfl
theorem HY{p:T'}{c:Int}(f:1<=p.kind)(B:p.kind<22)(d:cn.at vr p.kind=M c):mH p=M (KD p c):=by
 unfold mH v_ KD MM;rw[_b (show¬p.kind<1 by omega),br,ζb,_b (show¬p.kind>=22 by omega),br,d,ζb,ζb];generalize(len p.l==c)=e;generalize _s (p.n<0)=a;generalize _s (p.n>1125899906842624)=b;generalize(p.n==0)=z;generalize(p.kind==1)=k1;generalize(p.kind==2)=k2;generalize(p.kind==3)=k3;generalize(p.kind==4)=k4;generalize(p.proc==0)=d1;generalize(p.k?==0)=d2;generalize(C? p.name==C? ByteArray.empty)=d3
 cases e with
 |false=>rfl|true=>cases a with
  |true=>rfl|false=>cases b with
   |true=>rfl|false=>cases z<;>cases k1<;>first|rfl|(cases k2<;>cases k3<;>cases k4<;>cases d1<;>cases d2<;>cases d3<;>rfl)
theorem EH{p:T'}(h:p.kind<1\/22<=p.kind):mH p=M O:=by grind[mH,bh]
theorem Vw{p:T'}{c:Int}(i:1<=p.kind)(B:p.kind<22)(d:nv p.kind=M c)(r:T'->aX X'):gW p r=bh (KD p c) (gC.W2 0 p r) (M O):=by
 unfold gW gC.J1 KD MM;rw[d,ζb,show(c==len p.l)=(len p.l==c)from g?];have f:(bh (_s (p.kind<2)) (M U) (M (_s (p.kind>4))):aX X')=M (!(p.kind==2||(p.kind==3||p.kind==4))):=by by_cases g:p.kind<2;rw[_c g,bq,show(p.kind==2)=O from by simp;omega,show(p.kind==3)=O from by simp;omega,show(p.kind==4)=O from by simp;omega];rfl;rw[_b g,br];congr 1;rw[Bool.eq_iff_iff];simp;omega
 have u:(p.n==0)=U->_s (p.n<0)=O/\_s (p.n>1125899906842624)=O:=λh=>by grind
 rw[f];generalize(len p.l==c)=e;generalize _s (p.n<0)=a at *;generalize _s (p.n>1125899906842624)=b at *;generalize(p.n==0)=z at *;generalize(p.kind==1)=k1;generalize(p.kind==2)=k2;generalize(p.kind==3)=k3;generalize(p.kind==4)=k4;generalize(p.proc==0)=d1;generalize(p.k?==0)=d2;generalize(C? p.name==C? ByteArray.empty)=d3
 cases e with
 |false=>rfl|true=>cases k1 with
  |true=>cases a with
   |true=>rfl|false=>cases b with
    |true=>rfl|false=>cases z<;>cases k2<;>cases k3<;>cases k4<;>cases d1<;>cases d2<;>cases d3<;>rfl
  |false=>cases z with
   |false=>cases a<;>cases b<;>rfl|true=>obtain⟨rfl,rfl⟩:=u Y;cases k2<;>cases k3<;>cases k4<;>cases d1<;>cases d2<;>cases d3<;>rfl
def fB(p:T'):X':=(mH p).getD O
theorem X4(p:T'):mH p=M (fB p):=by unfold fB;by_cases h:p.kind<1\/22<=p.kind;all_goals grind[EH,JM,HY]
theorem pF{p:T'}(h:fB p=U):1<=p.kind/\p.kind<22/\cn.at vr p.kind=M (len p.l):=by grind[fB,EH,JM,HY]
theorem Vi(p:T')(r:T'->aX X'):gW p r=bh (fB p) (gC.W2 0 p r) (M O):=by unfold fB;by_cases h:p.kind<1\/22<=p.kind;rw[EH h];unfold gW;rw[SZ h,ζb,show((-1:Int)==len p.l)=O from o?];rfl;grind[Qy,HY,Vw]
theorem TJ(p:T')(B:p.Sm):∀n,p.dp<=n->cI (λr(z:T')=>gW z r) n p=M (p.eW fB):=by induction p using Pred.ind with|h p u=>intro n C;have hd:=p.pO;rw[eE a?];have u:=λq w=>u q w (B.qz w) (n-1);show gW p (cI (λr(z:T')=>gW z r) (n-1))=_;generalize cI (λr(z:T')=>gW z r) (n-1)=R at u⊢;rw[Vi,p.kM];cases fB p with|false=>rfl|true=>rw[bq,Bool.true_and];unfold gC.W2;refine Ah (g:=Pred.eW fB) B.len (λi hi=>?_) ?_;unfold gC.bK;rw[fN hi,bq,bA hi,ζb,u _ (t? hi) (by have:=Pred.jE (t? hi);omega),ζb,cq i (by have:=B.len;omega)];cases Pred.eW fB p.l.l[i]<;>rfl;unfold gC.bK;rw[gA];rfl
def mM(p:T'):X':=_s (p.sz<=200)&&(_s (p.dp<=20)&&p.eW fB)
abbrev wV(p:Pred)(d l:Nat):Bool:=_s (p.sz<=l)&&(_s (p.dp+d<=21)&&p.eW fB)
abbrev AO(k:aY Pred)(d l:Nat):Bool:=_s (Pred.oJ k<=l)&&(_s (Pred.vV k+d<=21)&&k.all (Pred.eW fB))
theorem Zh(p:T')(g:p.Sm):∀(n d l:Nat),1<=n->22<=n+d->d<=21->1<=d->l<=200->
 ∃B:Int,cI (λr(z:T'×Int×Int)=>fF z.1 z.2.1 z.2.2 r) n (p,(d:Int),(l:Int))=M (wV p d l,B)/\(wV p d l=U->B=((l-p.sz:Nat):Int)):=by
 induction p using Pred.ind with
 |h p C=>
  intro n d l Z j hd kU b;have Q:=p.QA;have S:=p.G9;rw[eE a?]
  have C:=λq D=>C q D (g.qz D) (n-1)
  show∃B,fF p (d:Int) (l:Int) (cI (λr(z:T'×Int×Int)=>fF z.1 z.2.1 z.2.2 r) (n-1))=_/\_
  generalize cI (λr(z:T'×Int×Int)=>fF z.1 z.2.1 z.2.2 r) (n-1)=R at C⊢
  unfold fF;rw[dV _ a? a?,X4]
  by_cases T:l=0
  .subst T;have w:wV p d 0=O:=by
    grind
   rw[w];exact⟨_,Y,λh=>by cases h⟩
  rw[_b (show¬((l:Int)-1<0)by omega),br,ζb]
  by_cases c:20<d
  .have w:wV p d l=O:=by
    grind
   rw[w,_c (show(d:Int)>20 by omega)]
   exact⟨_,Y,λh=>by cases h⟩
  rw[_b (show¬((d:Int)>20)by omega),br,ζb]
  have e:=p.kM fB
  cases f:fB p with
  |false=>
   have w:wV p d l=O:=g?
   rw[w];exact⟨_,rfl,λh=>by cases h⟩
  |true=>
   rw[ζb,show(!U)=O from Y,br,N8 g.len];have key:∀(k:aY T'),(∀q∈k,q∈p.l.l)->∀m:Nat,m<=200->∃m':Int,Am (λx s=>jG x (d:Int) s R) k (m:Int)=M (!AO k (d+1) m,m')/\(AO k (d+1) m=U->m'=((m-Pred.oJ k:Nat):Int)):=by intro k;induction k with|nil=>simp_all[Am,Pred.oJ,Pred.vV]|cons q k G=>intro a m i;have⟨B,g1,g2⟩:=C q (a q f?) (d+1) m a? a? a? a? i;have e1:jG q (d:Int) (m:Int) R=M (!wV q (d+1) m,B):=(by grind[jG,cq]);simp only[Am,e1,ζb];have u:AO (q::k) (d+1) m=(wV q (d+1) m&&AO k (d+1) (m-q.sz)):=(by rw[Bool.eq_iff_iff];simp only[AO,wV,Pred.oJ,Pred.vV,ζh,q!];constructor;rintro⟨a1,a2,y,X⟩;have a1:=_d a1;have a2:=_d a2;exact⟨⟨_c a?,_c a?,y⟩,_c a?,_c a?,X⟩;grind);cases w:wV q (d+1) m with|false=>rw[u,w];grind|true=>have⟨m',I,L⟩:=G (λx o=>a x (B? _ o)) (m-q.sz) a?;rw[u,w,Bool.true_and,g2 w];refine⟨m',g?,λh=>?_⟩;rw[L h];have:q.sz<=m:=(by have:=w;grind);grind[Pred.oJ]
   have⟨m',I,L⟩:=key p.l.l (λq D=>D) (l-1) a?
   rw[show((l:Int)-1)=((l-1:Nat):Int)from a?,I,ζb]
   have w:wV p d l=AO p.l.l (d+1) (l-1):=by rw[Bool.eq_iff_iff];grind
   refine⟨m',by rw[w];simp,λh=>?_⟩
   grind
theorem vA{p:T'}(B:p.Sm):nM p=M (mM p):=by obtain⟨u,h,-⟩:=Zh p B 100000 1 200 a? a? a? a? a?;unfold nM s6;rw[show cI (λr(z:T'×Int×Int)=>fF z.1 z.2.1 z.2.2 r) 100000 (p,(1:Int),(200:Int))=_ from h];simp only[ζb];congr 1;rw[Bool.eq_iff_iff];simp_all[mM]
theorem Vz{l:aY T'}{i:Nat}(h:i<W l):Pred.oJ (l.take (i+1))=Pred.oJ (l.take i)+l[i].sz:=by
 have key:∀(l:aY T')(i:Nat)(h:i<W l),Pred.oJ (l.take (i+1))=Pred.oJ (l.take i)+l[i].sz:=by intro l;induction l with|nil=>grind|cons x r u=>grind[Pred.oJ]
 grind
theorem VI{l:aY T'}{i:Nat}(h:i<W l):Pred.vV (l.take (i+1))=max (Pred.vV (l.take i)) l[i].dp:=by
 have key:∀(l:aY T')(i:Nat)(h:i<W l),Pred.vV (l.take (i+1))=max (Pred.vV (l.take i)) l[i].dp:=by intro l;induction l with|nil=>grind|cons x r u=>grind[Pred.vV]
 grind
theorem Ng(l:aY T')(i:Nat):Pred.oJ (l.take i)<=Pred.oJ l:=by
 induction l generalizing i with
 |nil=>simp|cons x r u=>cases i with
  |zero=>simp[Pred.oJ]|succ i=>grind[Pred.oJ]
theorem count_eq(p:T')(G:p.Sm):∀(n l:Nat),l+1<=n->l<=200->cI (λr(z:T'×Int)=>jq z.1 z.2 r) n (p,(l:Int))=M ((min p.sz (l+1):Nat):Int):=by
 induction p using Pred.ind with|h p C=>
  intro n l g Q;have d:=p.QA;rw[eE a?];have C:=λq I=>C q I (G.qz I) (n-1);show jq p (l:Int) (cI (λr(z:T'×Int)=>jq z.1 z.2 r) (n-1))=_;generalize cI (λr(z:T'×Int)=>jq z.1 z.2 r) (n-1)=R at C⊢;unfold jq me.W1;refine Wp.eq ?_;refine eC (λs:Int×Int=>∃i:Nat,s.2=i/\i<=W p.l.l/\s.1=((min (1+Pred.oJ (p.l.l.take i)) (l+1):Nat):Int)) (λs=>W p.l.l-s.2.toNat) ⟨0,Y,N? _,by simp[Pred.oJ]⟩ ?_;rintro⟨c,_⟩ ⟨i,rfl,hi,a⟩;simp only at a;subst a;unfold me.bl;by_cases u:i<W p.l.l;rw[fN u,bq,ζb];by_cases L:min (1+Pred.oJ (p.l.l.take i)) (l+1)<=l;have w:min (1+Pred.oJ (p.l.l.take i)) (l+1)=1+Pred.oJ (p.l.l.take i):=by omega
  have B:=t? u;rw[_c (show(((min (1+Pred.oJ (p.l.l.take i)) (l+1):Nat)):Int)<=(l:Int)by omega),bq,bA u,ζb,w,dV _ a? a?,
   show(l:Int)-((1+Pred.oJ (p.l.l.take i):Nat):Int)=((l-(1+Pred.oJ (p.l.l.take i)):Nat):Int)from a?,
   C _ B _ a? a?,ζb,a_,dV _ a? a?,cq i (by have:=G.len;omega)]
  refine⟨⟨i+1,Y,a?,?_⟩,g?⟩;grind[Vz];rw[_b (show¬(((min (1+Pred.oJ (p.l.l.take i)) (l+1):Nat)):Int)<=(l:Int)by omega),br,a_];refine(a_ _).2 ?_;have:=Ng p.l.l i;grind;have D:i=W p.l.l:=a?;subst D;rw[show _s (((W p.l.l:Nat):Int)<len p.l)=O from gA,br,ζb,br,a_];refine(a_ _).2 ?_;grind
theorem UW(p:T')(D:p.Sm):∀(n m:Nat),m+1<=n->m<=200->cI (λr(z:T'×Int)=>js z.1 z.2 r) n (p,(m:Int))=M ((min p.dp (m+1):Nat):Int):=by induction p using Pred.ind with|h p B=>intro n m I d;have G:=p.G9;rw[eE a?];have B:=λq C=>B q C (D.qz C) (n-1);show js p (m:Int) (cI (λr(z:T'×Int)=>js z.1 z.2 r) (n-1))=_;generalize cI (λr(z:T'×Int)=>js z.1 z.2 r) (n-1)=R at B⊢;unfold js;by_cases L:m=0;simp_all[bq];rw[show((m:Int)==0)=O from o?,br];unfold kW.W1;refine Wp.eq ?_;refine eB (W p.l.l) (λi s=>s.2=(i:Int)/\s.1=((min (Pred.vV (p.l.l.take i)) m:Nat):Int)) ⟨Y,by simp[Pred.vV]⟩ ?_ ?_;rintro i ⟨c,_⟩ u ⟨e1,e2⟩;simp only at e1 e2;subst e1 e2;have w:=t? u;unfold kW.bl;rw[fN u,bq,bA u,ζb,dV _ a? a?,show((m:Int)-1)=((m-1:Nat):Int)from a?,B _ w _ a? a?,ζb,a_,cq i (by have:=D.len;omega)];refine⟨Y,?_⟩;grind[VI];rintro⟨c,_⟩ ⟨e1,e2⟩;simp only at e1 e2;subst e1 e2;unfold kW.bl;rw[gA,br,a_];grind[a_,cq]
theorem G7{p:T'}(B:p.Sm):rM p=M (mM p):=by unfold rM Aq me kW gC;rw[show cI (λr(z:T'×Int)=>jq z.1 z.2 r) 100000 (p,(200:Int))=_ from count_eq p B 100000 200 a? a?,ζb,ζb];unfold mM;by_cases a:p.sz<=200;rw[_c a,M' a?,_c a?,bq,show cI (λr(z:T'×Int)=>js z.1 z.2 r) 100000 (p,(21:Int))=_ from UW p B 100000 21 a? a?,ζb,ζb];by_cases u:p.dp<=20;rw[_c u,_c a?,bq,TJ p B 100000 a?];rfl;rw[_b u,_b a?];rfl;rw[_b a,_b g?];rfl
section
variable{t:Z4}
abbrev uY(t:Trace)(p:Int):Bool:=_s (p>=0)&&_s (p<len t.b?)
def Df(t:Z4)(p:Int)(name:U'):X':=match idx t.b? p with
 |some P=>P.h?.l.any λv=>C? v.name==C? name|none=>O
def mL(t:Z4)(q:T'):X':=if q.kind==2 then uY t q.proc&&(q.k?==0&&Df t q.proc q.name)else if q.kind==3 then uY t q.proc&&(q.k?==0&&MM q)else if q.kind==4 then uY t q.proc&&(uY t q.k?&&(!(q.proc==q.k?)&&MM q))else U
theorem OS(p:Int):mq t p=M (uY t p):=by unfold mq uY;cases _s (p>=0)<;>rfl
theorem WQ(p:Int):qc t p=M (uY t p):=by unfold qc uY;cases _s (p>=0)<;>rfl
theorem oN{p:Int}(h:uY t p=U):∃n:Nat,p=n/\n<W t.b?.l:=by simp only[uY,ζh]at h;have a:=_d h.1;have u:=_d h.2;exact⟨p.toNat,a?,g?⟩
theorem VN(a:Small t){p:Int}(h:uY t p=U)(name:U'):tn t p name=M (Df t p name):=by obtain⟨n,rfl,u⟩:=oN h;unfold tn Df;rw[bA u,ζb,Ep (p:=λz=>qt z name) (f:=λv=>C? v.name==C? name) (λv _=>rfl) (a.2 _ (t? u)).2.1];rfl
theorem Iy(a:Small t){p:Int}(h:uY t p=U)(name:U'):Wp (kg t p name) λi=>(∃(n k:Nat)(P:bT)(v:Var),p=n/\t.b?.l[n]?=M P/\i=k/\P.h?.l[k]?=M v/\(C? v.name==C? name)=U/\(∀(j:Nat)(w:Var),j<k->P.h?.l[j]?=M w->(C? w.name==C? name)=O)/\Df t p name=U)\/i=-1/\Df t p name=O:=by
 obtain⟨n,rfl,z⟩:=oN h;have C:=ζd z;have D:=(a.2 _ (t? z)).2.1;unfold kg kg.W1;have u:Df t (n:Int) name=t.b?.l[n].h?.l.any λv=>C? v.name==C? name:=by grind[Df,bA]
 refine eB t.b?.l[n].h?.l.length (λi s=>s=(i:Int)/\∀(j:Nat)(w:Var),j<i->t.b?.l[n].h?.l[j]?=M w->(C? w.name==C? name)=O) ⟨Y,λj w G=>_e G a?⟩ ?_ ?_;rintro i _ hi ⟨rfl,B⟩;unfold kg.bl;rw[bA z,ζb,fN hi,bq,ζb,bA hi,ζb];cases I:C? t.b?.l[n].h?.l[i].name==C? name with|true=>rw[bq,a_];refine(a_ _).2 (.inl ⟨n,i,_,_,Y,C,Y,ζd hi,I,B,?_⟩);rw[u,m9];grind|false=>rw[br,a_,cq i a?];grind
 rintro _ ⟨rfl,B⟩;unfold kg.bl;rw[bA z,ζb,gA,br,a_];refine(a_ _).2 (.inr ⟨Y,?_⟩);rw[u,J'];grind[mem_iff_getElem?]
theorem YP(a:Small t)(q:T'):lW q t=M (mL t q):=by
 unfold lW mL MM;rw[OS,OS]
 cases q.kind==2 with
 |true=>rw[bq,L' Y,ζb];cases h:uY t q.proc with|false=>rfl|true=>rw[VN a h];cases q.k?==0<;>rfl
 |false=>rw[br,M' f?];cases q.kind==3 with|true=>rw[bq,L' Y];cases uY t q.proc<;>cases q.k?==0<;>cases(C? q.name==C? ByteArray.empty)<;>rfl|false=>rw[br,M' f?];cases q.kind==4 with|true=>rw[bq,L' Y];cases uY t q.proc<;>cases uY t q.k?<;>cases(q.proc==q.k?)<;>cases(C? q.name==C? ByteArray.empty)<;>rfl|false=>rfl
theorem ZQ(c:Small t)(q:T')(r:Z4×T'->aX X'):gM t q r=bh (mL t q) (h_.W1 0 t q r) (M O):=by
 unfold gM mL MM;rw[WQ,WQ];have a:(q.kind==2)=U->(q.kind==3)=O/\(q.kind==4)=O:=λh=>by have:q.kind=2:=(by simpa using h);rw[this];exact⟨Y,Y⟩
 have u:(q.kind==3)=U->(q.kind==4)=O:=λh=>by have:q.kind=3:=(by simpa using h);rw[this];rfl
 cases z:q.kind==2 with
 |true=>have⟨w,B⟩:=a z;rw[bq,L' Y,ζb,w,B];cases h:uY t q.proc with|false=>rfl|true=>rw[bq,ζb];cases q.k?==0 with|false=>rfl|true=>have⟨i,hi,d⟩:=Iy c h q.name;rw[show(!U)=O from Y,br,hi,ζb];rcases d with⟨n,k,P,v,-,-,rfl,-,-,-,b⟩|⟨rfl,b⟩;rw[b,_b (show¬((k:Nat):Int)<0 by omega)];rfl;rw[b];rfl
 |false=>rw[br,M' f?,ζb,br];cases w:q.kind==3 with|true=>rw[bq,L' Y,u w];cases uY t q.proc<;>cases q.k?==0<;>cases(C? q.name==C? ByteArray.empty)<;>rfl|false=>rw[br,M' f?,ζb,br];cases q.kind==4 with|true=>rw[bq,L' Y];cases uY t q.proc<;>cases uY t q.k?<;>cases(q.proc==q.k?)<;>cases(C? q.name==C? ByteArray.empty)<;>rfl|false=>rfl
theorem K1{f:T'->aX X'}{g:T'->X'}(h:∀q,f q=M (g q)){p:T'}(B:p.Sm)(hd:p.dp<=100000):pq p f=M (p.eW g):=by refine OF p B ?_ _ hd;induction p using Pred.ind with|h p w=>rw[p.kM,ζh,G?];exact⟨by rw[h];simp,λq u=>w q u (B.qz u) (by have:=Pred.jE u;omega)⟩
theorem zx(a:Small t){p:T'}(B:p.Sm)(hd:p.dp<=100000):qp t p=M (p.eW (mL t)):=by unfold qp;rw[K1 (g:=mL t) (λq=>YP a q) B hd];rfl
theorem Ms(a:Small t)(p:T')(B:p.Sm):∀n,p.dp<=n->cI (λr(z:Z4×T')=>gM z.1 z.2 r) n (t,p)=M (p.eW (mL t)):=by induction p using Pred.ind with|h p u=>intro n C;have hd:=p.pO;rw[eE a?];have u:=λq w=>u q w (B.qz w) (n-1);show gM t p (cI (λr(z:Z4×T')=>gM z.1 z.2 r) (n-1))=_;generalize cI (λr(z:Z4×T')=>gM z.1 z.2 r) (n-1)=R at u⊢;rw[ZQ a,p.kM];cases mL t p with|false=>rfl|true=>rw[bq,Bool.true_and];unfold h_.W1;refine Ah (g:=Pred.eW (mL t)) B.len (λi hi=>?_) ?_;unfold h_.bl;rw[fN hi,bq,bA hi,ζb,u _ (t? hi) (by have:=Pred.jE (t? hi);omega),ζb,cq i (by have:=B.len;omega)];cases Pred.eW (mL t) p.l.l[i]<;>rfl;unfold h_.bl;rw[gA];rfl
abbrev kE(k:Int):Int:=if k<=8 then 1 else 2
abbrev xm(k:Int):Int:=if k<=12 then 1 else 2
def rZ(q:T'):X':=q.l.l.all λk=>kE k.kind==xm q.kind
theorem uX(k:Int):nL k=M (kE k):=by unfold nL kE;by_cases h:k<=8;rw[_c h,L' h];rfl;rw[_b h,M' h];rfl
theorem Fk(q:T'):rY q=M (kE q.kind):=by unfold rY kE;by_cases h:q.kind<=8;rw[_c h,L' h];rfl;rw[_b h,M' h];rfl
theorem Zm(k:Int):uu k=M (xm k):=by unfold uu xm;by_cases h:k<=12;rw[_c h,L' h];rfl;rw[_b h,M' h];rfl
theorem X5{q:T'}(B:W q.l.l<1073741824):kF q=M (rZ q):=by unfold kF rZ;rw[xV _ B,wM (f:=λk=> !(kE k.kind==xm q.kind)) (λk _=>by unfold n_;rw[uX,Zm];rfl)];simp only[Option.map_some,ζb];congr 1;rw[Bool.eq_iff_iff];simp
theorem zU{p:T'}(B:p.Sm)(hd:p.dp<=100000):qH p=M (p.eW rZ):=by
 unfold qH;have:p.eW (λq=>(λz=>kF z) q==M (rZ q))=U:=by clear hd;induction p using Pred.ind with|h p w=>rw[p.kM,ζh,G?];exact⟨by show(kF p==M (rZ p))=U;rw[X5 B.len];simp,λq u=>w q u (B.qz u)⟩
 unfold pq;rw[OF p B this _ hd];rfl
theorem JH(p:T')(G:p.Sm):p.eW fB=U->∀n,p.dp<=n->cI (λr(z:T')=>kr z r) n p=M (p.eW rZ):=by induction p using Pred.ind with|h p D=>intro I n Q;have hd:=p.pO;rw[p.kM,ζh,G?]at I;rw[eE a?];have D:=λq d=>D q d (G.qz d) (I.2 q d) (n-1);show kr p (cI (λr(z:T')=>kr z r) (n-1))=_;generalize cI (λr(z:T')=>kr z r) (n-1)=R at D⊢;(unfold kr g_.W1;have u:p.l.l≠[]->xm p.kind=if p.kind>=15 then 2 else 1:=λB=>by have⟨k1,k2,k3⟩:=pF I.1;by_cases h:p.kind=13\/p.kind=14;have j:cn.at vr p.kind=M 0:=(by rcases h with h|h<;>(rw[h];rfl));rw[j]at k3;have:W p.l.l=0:=(by simpa[len]using(Option.some.inj k3).symm);exact _e (List.length_eq_zero_iff.1 this) B;unfold xm;split<;>split<;>omega);have C:p.eW rZ=p.l.l.all λk=>(kE k.kind==xm p.kind)&&Pred.eW rZ k:=(by rw[p.kM];unfold rZ;rw[Bool.eq_iff_iff];simp only[ζh,G?];exact⟨λh k a=>⟨h.1 k a,h.2 k a⟩,λh=>⟨λk a=>(h k a).1,λk a=>(h k a).2⟩⟩);rw[C];refine Ah (g:=λk=>(kE k.kind==xm p.kind)&&Pred.eW rZ k) G.len (λi hi=>?_) ?_;have B:p.l.l≠[]:=λh=>(by rw[h]at hi;simp at hi);have L:∀w:Int,g_.J2 (i:Int) w p R=M (if(kE p.l.l[i].kind==w)&&Pred.eW rZ p.l.l[i]then .n ((i+1:Nat):Int)else .r ()):=λw=>(by unfold g_.J2;rw[bA hi,ζb,Fk,ζb,ζb,D _ (t? hi) (by have:=Pred.jE (t? hi);omega),cq i (by have:=G.len;omega)];cases(kE p.l.l[i].kind==w)<;>cases Pred.eW rZ p.l.l[i]<;>rfl);unfold g_.bl;rw[fN hi,bq,L,L,u B];by_cases h:p.kind>=15;rw[_c h,L' h];rfl;rw[_b h,M' h];rfl;unfold g_.bl;rw[gA];rfl
def mK(q:T'):X':=_s (q.kind>=18)&&_s (q.kind<=21)
theorem zB{p:T'}(B:p.Sm):mG p=M (mM p&& !p.eW λq=> !mK q):=by unfold mG;rw[vA B,ζb];cases u:mM p with|false=>rfl|true=>have hd:p.dp<=20:=(by simp only[mM,ζh]at u;exact _d u.2.1);rw[bq,K1 (g:=λq=> !mK q) (λq=>by unfold nZ tQ mK;cases _s (q.kind>=18)<;>rfl) B a?];rfl
end
theorem w6.of{t:Z4}(B:Ok t){p:Nat}{P:bT}(D:t.b?.l[p]?=M P):w6 P:=by
 intro e C a G;have⟨k,b⟩:=mem_iff_getElem?.1 C;have⟨i,hi⟩:=mem_iff_getElem?.1 G;have h:=B.gz p k P e D b;unfold qu at h;have w:i<W e.assign.l:=by apply R?;intro d;rw[List.getElem?_eq_none a?]at hi;cases hi
 have I:o8 (nT P e) 0 (W e.assign.l)=0:=by split at h;split at h;cases h;split at h;cases h;exact h;cases h
 have u:=(Ja (g:=nT P e) (n:=W e.assign.l) (m:=W e.assign.l) (k:=0) a?).1 I i (N? _) w;unfold nT at u;rw[hi]at u;dsimp only at u;by_cases z:(_s (0<=a.var)&&_s (a.var<W P.h?.l))=U;simpa using z;rw[Bool.not_eq_true]at z;rw[z]at u;simp only[QJ]at u;cases u
theorem XH{t:Z4}{A:cn 200 bC}(b:Small t)(f:cu t=M U)(e:VT t)(g:fm t (bO t) A){c:Zg}(d:Cons t A c.l):
 Wp (kV t c) λr=>r.2=0/\r.1.l.length=W t.b?.l/\∀(p:Nat)(P:bT)(a:Int),t.b?.l[p]?=M P->c.l[p]?=M a->∃x,r.1.l[p]?=M x/\x.l=jc P a.toNat:=by
 have I:=d.1.1;unfold kV;rw[eS];refine(AI b f e g c).mono λr i=>?_
 rw[i.zero.2 d,show((0:Int)==0)=U from Y,bq];unfold kV.W1;refine eB (W c.l) (λn s=>s.2=(n:Int)/\s.1.l.length=n/\∀(p:Nat)(P:bT)(a:Int),p<n->t.b?.l[p]?=M P->c.l[p]?=M a->∃x,s.1.l[p]?=M x/\x.l=jc P a.toNat) ⟨Y,Y,λp P a h=>_e h a?⟩ ?_ ?_
 .rintro n ⟨o,_⟩ u ⟨e1,e2,e3⟩;simp only at e1 e2 e3;subst e1;have m:n<W t.b?.l:=by omega
  have w:=b.2 _ (t? m);have D:=ζd m;have C:=ζd u;have⟨a0,a1⟩:=d.1.2 n _ _ C D;have T:=w6.of e.ok D;have⟨x,S,L⟩:=VF T w.2.1 w.1 w.2.2.2.2 (k:=c.l[n].toNat) a?
  rw[show((c.l[n].toNat:Nat):Int)=c.l[n]from a?]at S
  have j:=b.1;unfold kV.bl;rw[fN u,bq,bA u,ζb,bA m,ζb,S,ζb];have G:eH o (x:Zg)=M (.row (o.l++[x])):=by unfold eH;rw[L' a?]
  rw[G,ζb,a_,cq n a?]
  refine⟨Y,by simp[Sl.l];exact e2,λp P a h z B=>?_⟩
  show∃y,(o.l++[x])[p]?=M y/\_
  by_cases F:p=n
  .subst F;rw[D]at z;rw[C]at B;cases z;cases B;exact⟨x,by rw[List.getElem?_append_right a?];simp[e2],L⟩
  have⟨y,q,Q⟩:=e3 p P a a? z B
  exact⟨y,by rw[List.getElem?_append_left a?];exact q,Q⟩
 rintro⟨o,_⟩ ⟨e1,e2,e3⟩;simp only at e1 e2 e3;subst e1;unfold kV.bl;rw[show _s ((W c.l:Int)<len c)=O from gA,br,a_];refine(a_ _).2 ⟨Y,by rw[e2,I],λp P a D C=>e3 p P a ?_ D C⟩
 apply R?;intro X;rw[List.getElem?_eq_none a?]at C;cases C
section
variable{P:T'}{t:Z4}
end
def q9(l:Rd)(m:Int):Prop:=m∈l/\∀x∈l,m<=x
def isMax(l:Rd)(m:Int):Prop:=m∈l/\∀x∈l,x<=m
theorem q9.one{l:Rd}{a b:Int}(h:q9 l a)(g:q9 l b):a=b:=by have:=h.2 b g.1;have:=g.2 a h.1;omega
theorem isMax.one{l:Rd}{a b:Int}(h:isMax l a)(g:isMax l b):a=b:=by have:=h.2 b g.1;have:=g.2 a h.1;omega
theorem q9.snoc{l:Rd}{a x:Int}(h:q9 l a):q9 (l++[x]) (if x<a then x else a):=by have⟨b,w⟩:=h;split;refine⟨f?,λy u=>?_⟩;grind;refine⟨d! _ b,λy u=>?_⟩;grind
theorem isMax.snoc{l:Rd}{a x:Int}(h:isMax l a):isMax (l++[x]) (if x>a then x else a):=by have⟨b,w⟩:=h;split;refine⟨f?,λy u=>?_⟩;grind;refine⟨d! _ b,λy u=>?_⟩;grind
theorem Sa{s:Zg}(h:0<W s.l)(B:W s.l<1073741824):Wp (fR s) λm=>q9 s.l m:=by
 unfold fR fR.J1 fR.W2;rw[_b (show¬len s<1 by grind),br,show idx s 0=M s.l[0]from bA (i:=0) h,ζb];refine eB (W s.l-1) (λn q=>q.2=((n+1:Nat):Int)/\q9 (s.l.take (n+1)) q.1) ⟨Y,?_⟩ ?_ ?_;rw[P?,ζd h];exact⟨f?,λx z=>g?⟩;rintro n ⟨m,_⟩ C ⟨rfl,w⟩;have u:n+1<W s.l:=by omega
 unfold fR.bK;rw[fN u,bq,bA u,ζb,a_,cq _ a?];refine⟨Y,?_⟩;rw[P?,ζd u];exact w.snoc;rintro⟨m,_⟩ ⟨rfl,w⟩;unfold fR.bK;rw[show W s.l-1+1=W s.l from a?,gA,br,a_];rw[show W s.l-1+1=W s.l from a?,I?]at w;exact(a_ _).2 w
theorem Ti{s:Zg}(h:0<W s.l)(B:W s.l<1073741824):Wp (fT s) λm=>isMax s.l m:=by
 unfold fT fT.J1 fT.W2;rw[_b (show¬len s<1 by grind),br,show idx s 0=M s.l[0]from bA (i:=0) h,ζb];refine eB (W s.l-1) (λn q=>q.2=((n+1:Nat):Int)/\isMax (s.l.take (n+1)) q.1) ⟨Y,?_⟩ ?_ ?_;rw[P?,ζd h];exact⟨f?,λx z=>g?⟩;rintro n ⟨m,_⟩ C ⟨rfl,w⟩;have u:n+1<W s.l:=by omega
 unfold fT.bK;rw[fN u,bq,bA u,ζb,a_,cq _ a?];refine⟨Y,?_⟩;rw[P?,ζd u];exact w.snoc;rintro⟨m,_⟩ ⟨rfl,w⟩;unfold fT.bK;rw[show W s.l-1+1=W s.l from a?,gA,br,a_];rw[show W s.l-1+1=W s.l from a?,I?]at w;exact(a_ _).2 w
theorem OC{s:Zg}{a b:Int}(h:0<W s.l)(B:W s.l<1073741824)(D:q9 s.l a)(G:isMax s.l b):nP s=M ⟨a,b⟩:=by have⟨m,c,u⟩:=Sa h B;have⟨n,g1,g2⟩:=Ti h B;unfold nP;rw[c,ζb,g1,ζb,u.one D,g2.one G]
theorem PN(n:Int):nP (Sl.row [n]:Zg)=M ⟨n,n⟩:=OC (by simp[Sl.l]) (by simp[Sl.l]) ⟨by simp[Sl.l],λx u=>by simp[Sl.l]at u;omega⟩ ⟨by simp[Sl.l],λx u=>by simp[Sl.l]at u;omega⟩
theorem Q5(a b c d:Int):nP (Sl.row [a,b,c,d]:Zg)=M ⟨if(if d<c then d else c)<(if b<a then b else a)then(if d<c then d else c)else(if b<a then b else a),if(if d>c then d else c)>(if b>a then b else a)then(if d>c then d else c)else(if b>a then b else a)⟩:=by refine OC (by simp[Sl.l]) (by simp[Sl.l]) ⟨?_,λx u=>?_⟩ ⟨?_,λx u=>?_⟩;show _∈[a,b,c,d];grind;have u:x∈[a,b,c,d]:=u;grind;show _∈[a,b,c,d];grind;have u:x∈[a,b,c,d]:=u;grind
theorem Pb(a b:Int):gD a b=c8 a b:=by unfold gD c8 c8.J1 qJ;by_cases z:a=0;subst z;rw[show(0:Int)*b=0 from a?];rfl;have u:(a==0)=O:=g?;by_cases B:b=0;subst B;rw[u,show a*(0:Int)=0 from a?];rfl;have w:(b==0)=O:=g?;rw[u,w];rfl
def og(az:aY Assign)(v:Int):Ps:=(az.find? λa=>a.var==v).map Assign.value
def G8(az:aY Assign):Prop:=∀(i j:Nat)a b,i<j->az[i]?=M a->az[j]?=M b->a.var≠b.var
theorem G8.tail{a:Assign}{r:aY Assign}(h:G8 (a::r)):G8 r:=λi j x y u w z=>h (i+1) (j+1) x y a? g? g?
theorem G8.head{a:Assign}{r:aY Assign}(h:G8 (a::r)):∀b∈r,a.var≠b.var:=λb u=>by have⟨j,w⟩:=mem_iff_getElem?.1 u;exact h 0 (j+1) a b a? f? g?
theorem KI:∀(az:aY Assign)(l:Rd)(k:Nat),G8 az->(∀a∈az,0<=a.var)->k<W l->(BQ l az)[k]?=M ((og az k).getD (l[k]?.getD 0))
 |[],l,k,_,_,hk=>by simp[BQ,og,ζd hk]|a::r,l,k,hd,B,hk=>by show(BQ (l.set a.var.toNat a.value) r)[k]?=_;have D:=B a f?;rw[KI r _ k hd.tail (λb u=>B b (B? _ u)) g?];congr 1;by_cases w:a.var=(k:Int);have c:og r k=J:=(by unfold og;rw[Option.map_eq_none_iff,L!];intro b u;have:=hd.head b u;simp;omega);rw[c];unfold og;grind;have c:og (a::r) k=og r k:=(by unfold og;grind);grind
def nD(P:bT)(v k:Nat):Int:=((jc P k)[v]?).getD 0
structure SU(P:bT):Prop where
 ok:w6 P
 dst:∀e∈P.c?.l,G8 e.assign.l
theorem CQ{P:bT}{v:Nat}(k:Nat)(a:v<W P.h?.l):(jc P k)[v]?=M (nD P v k):=by unfold nD;rw[ζd (by rw[rq];omega)];rfl
theorem Jp{P:bT}(B:SU P){v k:Nat}(c:v<W P.h?.l){e:WF}(D:P.c?.l[k]?=M e):nD P v (k+1)=(og e.assign.l v).getD (nD P v k):=by
 have u:=s? D;have b:jc P (k+1)=BQ (jc P k) e.assign.l:=by show(match P.c?.l[k]?with|some e=>BQ (jc P k) e.assign.l|none=>jc P k)=_;rw[D]
 unfold nD;rw[b,KI _ _ _ (B.dst e u) (λa w=>(B.ok e u a w).1) (by rw[rq];omega)];rfl
theorem SU.of{t:Z4}(D:Ok t){p:Nat}{P:bT}(G:t.b?.l[p]?=M P):SU P:=by
 refine⟨w6.of D G,λe I i j a b w d C z=>?_⟩;have⟨k,c⟩:=mem_iff_getElem?.1 I;have h:=D.gz p k P e G c;unfold qu at h;have B:j<W e.assign.l:=(ζe.1 C).1;have L:o8 (nT P e) 0 (W e.assign.l)=0:=by grind
 have u:=(Ja (g:=nT P e) (n:=W e.assign.l) (m:=W e.assign.l) (k:=0) a?).1 L j (N? _) B;unfold nT at u;rw[C]at u;dsimp only at u;have o:j7 (fO e.assign.l λx=>x.var==b.var) 0 j=U:=by rw[MZ];exact⟨i,N? _,w,by simp[fO,d,z]⟩
 rw[o]at u;revert u;cases(_s (0<=b.var)&&_s (b.var<W P.h?.l))<;>cases(_s (b.value>=-1073741824)&&_s (b.value<=1073741824))<;>simp[QJ]
abbrev rm(P:bT)(v n:Nat):aY Int:=(C! (n+1)).map (nD P v)
theorem Ql(P:bT)(v n:Nat):rm P v (n+1)=rm P v n++[nD P v (n+1)]:=by unfold rm;rw[i7,w!];rfl
theorem Du{P:bT}{v n k:Nat}(h:k<=n):nD P v k∈rm P v n:=mem_map.2 ⟨k,List.mem_range.2 a?,Y⟩
theorem q9.old {l:aY Int} {a x:Int} (h:q9 l a) (B:x∈l):q9 (l++[x]) a:=
 ⟨List.mem_append_left _ h.1,λy hy=>by
  rcases List.mem_append.1 hy with hy|hy
  .exact h.2 y hy
  simp at hy;subst hy;exact h.2 _ B⟩
theorem isMax.old {l:aY Int} {a x:Int} (h:isMax l a) (B:x∈l):isMax (l++[x]) a:=
 ⟨List.mem_append_left _ h.1,λy hy=>by
  rcases List.mem_append.1 hy with hy|hy
  .exact h.2 y hy
  simp at hy;subst hy;exact h.2 _ B⟩
section
variable{P:bT}{v:Nat}
theorem Tf(D:w6 P)(b:W P.h?.l<1073741824)(T:W P.c?.l<1073741823)(G:∀e∈P.c?.l,W e.assign.l<1073741824)(B:v<W P.h?.l):
 Wp (iq P v) λs=>s.l=rm P v (W P.c?.l):=by
 have⟨r,c,C,I⟩:=Jk D b a? G
 have key:∀(a:aY (Int×Zg))(i:Nat)(q:Zg),r.drop i=a->i<=W r->q.l=(C! i).map (nD P v)->∃s,H (mN (λ(x:Int×(Zg))(q:Zg)=>iq.lM P v x q) a q) (Fw.tK (λq=>M q) (λe=>Empty.elim e) (λe=>Empty.elim e))=M s/\s.l=(C! (W r)).map (nD P v):=by intro a;induction a with|nil=>intro i q hd hi z;have:W r<=i:=(by simpa using hd);exact⟨q,rfl,by rw[z,show i=W r from a?]⟩|cons y a d=>intro i q hd _ z;have u:i<W r:=(by apply R?;intro S;rw[List.drop_eq_nil_of_le a?]at hd;cases hd);have e2:=List.drop_eq_getElem_cons u;rw[e2]at hd;simp only[List.cons.injEq]at hd;have⟨g,L⟩:=I i y (by rw[ζd u,hd.1]);have h:idx y.2 (v:Int)=M (nD P v i):=(by rw[gp,L];exact CQ i B);have Q:W q.l=i:=(by rw[z];simp);have w:eH q (nD P v i)=M (.row (q.l++[nD P v i])):=(by unfold eH;rw[L' a?]);have⟨s,g1,g2⟩:=d (i+1) (.row (q.l++[nD P v i])) hd.2 a? (by show q.l++[nD P v i]=_;rw[z,i7,w!];rfl);refine⟨s,?_,g2⟩;simp only[mN,iq.lM,h,w,ζb];exact g1
 have⟨s,g1,g2⟩:=key r 0 .nil Y (N? _) Y;refine⟨s,?_,by show s.l=_;rw[g2,C]⟩
 unfold iq pJ iq.E1;simp only[ζb,c];exact g1
theorem Fb{α:Type}{f:α->X'}{l:aY α}{k:Nat}{x:α}(b:l[k]?=M x)(B:f x=U)(D:∀(j:Nat)(y:α),j<k->l[j]?=M y->f y=O):place f l=k:=by unfold place;have a:=(ζe.1 b);have⟨a,u⟩:=a;rw[show l.findIdx? f=M k from by rw[List.findIdx?_eq_some_iff_getElem];exact⟨a,by rw[u];exact B,λj w=>by rw[D j _ w (ζd a?)];simp⟩]
theorem Dj{t:Z4}(d:Small t)(e:cu t=M U)(h:Ok t){n:Nat}(D:t.b?.l[n]?=M P){name:U'}{x:Var}(c:P.h?.l[v]?=M x)(T:(C? x.name==C? name)=U)
 (i:∀(j:Nat)(w:Var),j<v->P.h?.l[j]?=M w->(C? w.name==C? name)=O):
 Wp (tH t n name) λr=>r.2.2=0/\q9 (rm P v (W P.c?.l)) r.1/\isMax (rm P v (W P.c?.l)) r.2.1:=by
 have m:n<W t.b?.l:=(ζe.1 D).1;have Q:=s? D;have u:=d.2 P Q;have C:v<W P.h?.l:=(ζe.1 c).1;have I:W P.c?.l<=64:=by have:=h.heads n m;unfold tc at this;rw[D]at this;dsimp only at this;split at this;split at this;cases this;split at this;split at this;cases this;omega;rename_i G;exact _e this G;cases this
 have⟨s,g1,g2⟩:=Tf (w6.of h D) u.2.1 a? u.2.2.2.2 C
 have g:W s.l=W P.c?.l+1:=by rw[g2];simp[rm]
 have⟨a,a1,a2⟩:=Sa (s:=s) a? a?
 have⟨b,S,L⟩:=Ti (s:=s) a? a?
 have B:um t n name=M ((v:Int),0):=by unfold um;rw[e,ζb,bq,_b (show¬(n:Int)<0 by omega),br,ζb,_b (show¬(n:Int)>=len t.b? by simp only[len];omega),br,gp,D,ζb];unfold wJ;rw[Bn (p:=λz=>qn z name) (f:=λw=>C? w.name==C? name) (λ_ _=>rfl) u.2.1,Fb c T i,ζb,ζb,_b (show¬((v:Nat):Int)<0 by omega)];rfl
 unfold tH;rw[B,ζb];simp only;rw[show((0:Int)==0)=U from Y,bq,gp,D,ζb,g1,ζb,a1,ζb,S,ζb,a_];rw[g2]at a2 L;exact⟨Y,a2,L⟩
def gR(o:Ps)(b a:Int):Int×Int:=match o with
 |none=>(b,a)|some x=>(if x<b then x else b,if x>a then x else a)
theorem JZ{az:aY Assign}(hd:G8 az){j:Nat}(B:j<W az):og (az.take (j+1)) v=if az[j].var=(v:Int)then M az[j].value else og (az.take j) v:=by
 unfold og;rw[P?,ζd B];show((az.take j++[az[j]]).find? _).map _=_;rw[List.find?_append];by_cases h:az[j].var=(v:Int);rw[L' h];have:(az.take j).find? (λa=>a.var==(v:Int))=J:=by rw[L!];intro b w;have⟨i,hi⟩:=mem_iff_getElem?.1 w;have u:i<j:=(by have:=(ζe.1 hi).1;rw[l!]at this;omega);rw[List.getElem?_take_of_lt u]at hi;have:=hd i j b az[j] u hi (ζd B);simp;omega
 rw[this,List.find?_cons_of_pos (by simpa using h)];rfl;rw[M' h,List.find?_cons_of_neg (by simpa using h)];simp
theorem Tr{az:aY Assign}(hd:G8 az){j:Nat}(B:j<W az)(h:az[j].var=(v:Int)):og (az.take j) v=J:=by
 unfold og;rw[Option.map_eq_none_iff,L!];intro b w;have⟨i,hi⟩:=mem_iff_getElem?.1 w;have u:i<j:=by have:=(ζe.1 hi).1;rw[l!]at this;omega
 rw[List.getElem?_take_of_lt u]at hi;have:=hd i j b az[j] u hi (ζd B);simp;omega
theorem RT{t:Z4}(d:Small t)(h:Ok t){n:Nat}(g:t.b?.l[n]?=M P)(B:v<W P.h?.l):
 Wp (gE t n v) λr=>q9 (rm P v (W P.c?.l)) r.1/\isMax (rm P v (W P.c?.l)) r.2:=by
 have o:=s? g;have L:=d.2 P o;have Q:=SU.of h g;have C:idx t.b? (n:Int)=M P:=by rw[gp];exact g
 unfold gE;rw[C,ζb,bA B,ζb];unfold gE.W1;have S:rm P v 0=[P.h?.l[v].init_]:=by simp[rm,nD,jc,ζd B]
 refine eB (W P.c?.l) (λi s=>s.2.2=(i:Int)/\q9 (rm P v i) s.1/\isMax (rm P v i) s.2.1) ⟨Y,by rw[S];exact⟨f?,λx C=>by simp at C;show P.h?.l[v].init_<=x;omega⟩,by rw[S];exact⟨f?,λx C=>by simp at C;show x<=P.h?.l[v].init_;omega⟩⟩ ?_ ?_
 .rintro i ⟨c,b,_⟩ hi ⟨rfl,w,z⟩;simp only at w z;have D:=t? hi;have hd:=Q.dst _ D;have X:=L.2.2.2.2 _ D;have u:=Jp Q B (ζd hi);unfold gE.bl;rw[C,ζb,fN hi,bq,ζb,bA hi,ζb];generalize P.c?.l[i]=e at *;unfold gE.W2;refine eB (W e.assign.l) (λj s=>s.2.2=(j:Int)/\(s.1,s.2.1)=gR (og (e.assign.l.take j) v) c b) ⟨Y,by simp[og,gR]⟩ ?_ ?_
  .rintro j ⟨lo,m,_⟩ G ⟨rfl,a⟩;unfold gE.bK;rw[fN G,bq,bA G,ζb]
   by_cases I:e.assign.l[j].var=(v:Int)
   .rw[show(e.assign.l[j].var==(v:Int))=U from by simpa using I,bq,ζb,ζb,a_,cq j a?]
    rw[Tr hd G I]at a;simp only[gR,ζc]at a;obtain⟨rfl,rfl⟩:=a;refine⟨Y,?_⟩;rw[JZ hd G,L' I];rfl
   rw[show(e.assign.l[j].var==(v:Int))=O from by simpa using I,br,a_,cq j a?]
   refine⟨Y,?_⟩;rw[JZ hd G,M' I];exact a
  rintro⟨lo,m,_⟩ ⟨rfl,a⟩;unfold gE.bK;rw[gA,br,a_];simp only;rw[a_,cq i a?]
  rw[I?]at a;refine⟨Y,?_⟩;simp only;rw[Ql]
  cases T:og e.assign.l v with
  |none=>rw[T]at a u;simp only[gR,ζc]at a;obtain⟨rfl,rfl⟩:=a;rw[show nD P v (i+1)=nD P v i from u];exact⟨w.old (Du (x? _)),z.old (Du (x? _))⟩|some x=>rw[T]at a u;simp only[gR,ζc]at a;obtain⟨rfl,rfl⟩:=a;rw[show nD P v (i+1)=x from u];exact⟨w.snoc,z.snoc⟩
 rintro⟨c,b,_⟩ ⟨rfl,w,z⟩;unfold gE.bl;rw[C,ζb,gA,br,a_];exact(a_ _).2 ⟨w,z⟩
end
section
variable{t:Z4}{A:cn 200 bC}
theorem Ap(a:Small t){p:Nat}{P:bT}(D:t.b?.l[p]?=M P)(q:Nat):gb t p q=M ((P.c?.l.countP (ec q):Nat):Int):=by
 have G:P∈t.b?.l:=s? D;have I:=(a.2 P G).1;refine Wp.eq ?_;unfold gb;rw[gp,D,ζb];unfold gb.W1;refine eB (W P.c?.l) (λn s=>s.2=(n:Int)/\s.1=(((P.c?.l.take n).countP (ec q):Nat):Int)) ⟨Y,Y⟩ ?_ ?_;rintro n ⟨o,_⟩ w ⟨e1,e2⟩;simp only at e1 e2;subst e1 e2;have z:=List.countP_le_length (p:=ec q) (l:=P.c?.l.take n);rw[l!]at z;have u:(P.c?.l.take (n+1)).countP (ec q)=(P.c?.l.take n).countP (ec q)+if ec q P.c?.l[n]then 1 else 0:=by rw[P?,ζd w,g9];show _+countP _ [P.c?.l[n]]=_;rw[H!,B'];simp
 unfold gb.bl;rw[fN w,bq,bA w,ζb];generalize P.c?.l[n]=e at u;have B:(bh (e.kind==2) (M (e.k?==(q:Int))) (M O):aX X')=M (ec q e):=by unfold ec;cases e.kind==2<;>cases e.k?==(q:Int)<;>rfl
 rw[B,ζb,cq n a?];cases C:ec q e with|true=>rw[C]at u;rw[bq,a_,cq _ a?];exact⟨rfl,by simp only[u];rfl⟩|false=>rw[C]at u;rw[br,a_];exact⟨Y,by simp only[u];rfl⟩
 rintro⟨o,_⟩ ⟨e1,e2⟩;simp only at e1 e2;subst e1 e2;unfold gb.bl;rw[gA,br,a_];exact(a_ _).2 (by rw[I?])
theorem Qg{α:Type}{f:α->X'}{l:aY α}{n:Nat}(h:n<W l):(l.take (n+1)).countP f=(l.take n).countP f+if f l[n]then 1 else 0:=by rw[P?,ζd h,g9];show _+countP _ [l[n]]=_;rw[H!,B'];simp
end
section
variable{t:Z4}
theorem X6(a:Small t){p:Nat}{P:bT}(D:t.b?.l[p]?=M P)(q:Int):jX t p q=M ((P.c?.l.countP (ec q):Nat):Int):=by
 have I:P∈t.b?.l:=s? D;have d:=(a.2 P I).1;have C:idx t.b? (p:Int)=M P:=by rw[gp];exact D
 refine Wp.eq ?_;unfold jX jX.W1;refine eB (W P.c?.l) (λn s=>s.2=(n:Int)/\s.1=(((P.c?.l.take n).countP (ec q):Nat):Int)) ⟨Y,Y⟩ ?_ ?_;rintro n ⟨o,_⟩ w ⟨e1,e2⟩;simp only at e1 e2;subst e1 e2;have z:=List.countP_le_length (p:=ec q) (l:=P.c?.l.take n);rw[l!]at z;have u:=Qg (f:=ec q) w;unfold jX.bl;rw[C,ζb,fN w,bq,ζb,bA w,ζb];generalize P.c?.l[n]=e at u;have B:(bh (e.kind==2) (M (e.k?==q)) (M O):aX X')=M (ec q e):=by unfold ec;cases e.kind==2<;>cases e.k?==q<;>rfl
 rw[B,ζb,cq n a?];cases G:ec q e with|true=>rw[G]at u;rw[bq,a_,cq _ a?];exact⟨rfl,by simp only[u];rfl⟩|false=>rw[G]at u;rw[br,a_];exact⟨Y,by simp only[u];rfl⟩
 rintro⟨o,_⟩ ⟨e1,e2⟩;simp only at e1 e2;subst e1 e2;unfold jX.bl;rw[C,ζb,gA,br,a_];exact(a_ _).2 (by rw[I?])
def vg(b a:Int):X':=_s (b>=-1125899906842624)&&_s (a<=1125899906842624)
structure rO(low high:Int):Prop where
 le:low<=high
 lo:-1125899906842624<=low
 hi:high<=1125899906842624
theorem G5(b a:Int)(r:Z4×T'->aX (Int×Int×X')):bU.J3 b a r=M (b,a,vg b a):=by unfold bU.J3 vg;cases _s (b>=-1125899906842624)<;>rfl
theorem Bi(b a:Int):ku ⟨b,a⟩=M (!vg b a):=by
 unfold ku vg;have c:_s (b< -1125899906842624)= !_s (b>=-1125899906842624):=by rw[Bool.eq_iff_iff];simp
 have u:_s (a>1125899906842624)= !_s (a<=1125899906842624):=by rw[Bool.eq_iff_iff];simp
 simp only;rw[c,u];cases _s (b>=-1125899906842624)<;>cases _s (a<=1125899906842624)<;>rfl
theorem rO.of{b a:Int}(h:b<=a)(g:vg b a=U):rO b a:=by simp only[vg,ζh]at g;have:=_d g.1;have:=_d g.2;exact⟨h,a?,a?⟩
theorem BR(a b c d:Int)(p:T')(r:Z4×T'->aX (Int×Int×X')):bU.J2 a b c d U U t p r=(bh (p.kind==1) (bU.J3 p.n p.n r) (bh (p.kind==2) (H (kg t p.proc p.name) λf=>H (gE t p.proc f) λe=>bU.J3 e.1 e.2 r) (bh (p.kind==3) (H (idx t.b? p.proc) λg=>bU.J3 0 (len g.c?) r) (bh (p.kind==4) (H (jX t p.proc p.k?) λh=>bU.J3 0 h r) (bh (p.kind==5) (bU.J3 (w? N (0-b)) (w? N (0-a)) r) (bh (p.kind==6) (bU.J3 (w? N (a+c)) (w? N (b+d)) r) (bh (p.kind==7) (bU.J3 (w? N (a-d)) (w? N (b-c)) r) (H (c8 a c) λB=>H (c8 a d) λD=>H (c8 b c) λG=>H (c8 b d) λi=>H (c8 a c) λT=>H (c8 a d) λj=>H (c8 b c) λo=>H (c8 b d) λm=>bU.J3 (if(if i<G then i else G)<(if D<B then D else B)then(if i<G then i else G)else(if D<B then D else B)) (if(if m>o then m else o)>(if j>T then j else T)then(if m>o then m else o)else(if j>T then j else T)) r))))))):aX (Int×Int×X')):=rfl
theorem WN{a b c d:Int}{ok B:X'}(h:(ok&&B)=O)(p:T')(r:Z4×T'->aX (Int×Int×X')):bU.J2 a b c d ok B t p r=M (0,0,O):=by unfold bU.J2;cases ok<;>cases B<;>first|rfl|cases h
theorem zT{a b:Int}(B:-1125899906842624<=a/\a<=1125899906842624)(D:-1125899906842624<=b/\b<=1125899906842624):∃x,c8 a b=M x:=by
 unfold c8 c8.J1;by_cases u:a=0;subst u;exact⟨_,Y⟩;rw[show(a==0)=O from by simpa using u,br,ζb];by_cases c:b=0;subst c;exact⟨_,Y⟩;rw[show(b==0)=O from by simpa using c,show(!O)=U from Y,bq,dV (0-b) a? a?];have:∀k m:Int,m≠0->∃x,x_ N k m=M x:=λk m w=>by unfold x_;rw[M' w];exact⟨_,Y⟩
 have⟨x,z⟩:=this 1125899906842624 (if 0-b>b then 0-b else b) (by split<;>omega);rw[z,ζb];cases _s ((if w? N (0-a)>a then w? N (0-a)else a)>x)<;>cases(_s (a<0)==_s (b<0))<;>exact⟨_,Y⟩
theorem RR(g:Small t)(j:cu t=M U)(G:Ok t){q:T'}(T:fB q=U)(d:mL t q=U)(s:q.kind<=4):
 ∃f c,eV t q=M ⟨f,c⟩/\f<=c/\∀r,bU.J2 0 0 0 0 U U t q r=bU.J3 f c r:=by
 obtain⟨k1,-,-⟩:=pF T;rcases(show q.kind=1\/q.kind=2\/q.kind=3\/q.kind=4 by omega)with h|h|h|h
 .refine⟨q.n,q.n,?_,Int.le_refl _,λr=>?_⟩
  .unfold eV;rw[show(q.kind==1)=U from by simpa using h,bq,PN];rfl
  rw[BR,show(q.kind==1)=U from by simpa using h,bq]
 .unfold mL at d;rw[L' (by simpa using h)]at d
  simp only[ζh]at d;obtain⟨X,-,w⟩:=d;have⟨i,hi,l⟩:=Iy g (p:=q.proc) (by simp only[ζh];exact X) q.name
  rcases l with⟨n,k,P,v,u,z,rfl,B,o,Q,-⟩|⟨-,C⟩
  .have⟨⟨f,c,e⟩,g1,g2,g3,g4⟩:=Dj g j G z (name:=q.name) B o Q;simp only at g2 g3 g4;subst g2;have⟨⟨a,b⟩,S,I,y⟩:=RT g G z (v:=k) (ζe.1 B).1;simp only at I y;obtain rfl:=g3.one I;obtain rfl:=g4.one y;refine⟨f,c,?_,g4.2 _ g3.1,λr=>?_⟩
   .unfold eV;rw[h,show((2:Int)==1)=O from Y,br,show((2:Int)==3)=O from Y,br,show((2:Int)==4)=O from Y,br,u,g1];rfl
   rw[BR,h,show((2:Int)==1)=O from Y,br,show((2:Int)==2)=U from Y,bq,hi,ζb,u,S,ζb]
  rw[C]at w;cases w
 .unfold mL at d;rw[M' (by simp[h]),L' (by simpa using h)]at d
  simp only[ζh]at d;have⟨n,u,D⟩:=oN (t:=t) (p:=q.proc) (by simp only[ζh];exact d.1)
  refine⟨0,len t.b?.l[n].c?,?_,by simp only[len];omega,λr=>?_⟩
  .unfold eV;rw[h,show((3:Int)==1)=O from Y,br,show((3:Int)==3)=U from Y,bq,u,bA D];rfl
  rw[BR,h,show((3:Int)==1)=O from Y,br,show((3:Int)==2)=O from Y,br,show((3:Int)==3)=U from Y,bq,u,bA D];rfl
 unfold mL at d;rw[M' (by simp[h]),M' (by simp[h]),L' (by simpa using h)]at d
 simp only[ζh]at d;have⟨n,u,D⟩:=oN (t:=t) (p:=q.proc) (by simp only[ζh];exact d.1)
 have⟨m,L,F⟩:=oN (t:=t) (p:=q.k?) (by simp only[ζh];exact d.2.1)
 have z:=ζd D;refine⟨0,((t.b?.l[n].c?.l.countP (ec m):Nat):Int),?_,a?,λr=>?_⟩
 .unfold eV;rw[h,show((4:Int)==1)=O from Y,br,show((4:Int)==3)=O from Y,br,show((4:Int)==4)=U from Y,bq,u,L,Ap g z];rfl
 rw[BR,h,show((4:Int)==1)=O from Y,br,show((4:Int)==2)=O from Y,br,show((4:Int)==3)=O from Y,br,show((4:Int)==4)=U from Y,bq,u,L,X6 g z];rfl
theorem Ca(v:bQ)(l h:Int)(r:Z4×T'->aX (bQ×X')):cQ.J2 v ⟨l,h⟩ r=M (⟨l,h⟩,vg l h):=by unfold cQ.J2;rw[Bi,ζb,J0]
theorem Be{ok B:X'}(h:(ok&&B)=O)(p:T')(v a b:bQ)(r:Z4×T'->aX (bQ×X')):cQ.J1 ok B p v a b r=M (⟨0,0⟩,O):=by unfold cQ.J1;cases ok<;>cases B<;>first|rfl|cases h
theorem I_{p:T'}(i:5<=p.kind/\p.kind<=8){a b c d:Int}(g:rO a b)(j:rO c d)(v:bQ)(r:Z4×T'->aX (bQ×X'))(B:Z4×T'->aX (Int×Int×X')):
 ∃f e,cQ.J1 U U p v ⟨a,b⟩ ⟨c,d⟩ r=M (⟨f,e⟩,vg f e)/\bU.J2 a b c d U U t p B=M (f,e,vg f e)/\f<=e:=by
 have⟨a1,a2,m⟩:=g;have⟨Q,S,T⟩:=j;rw[BR];unfold cQ.J1;rw[bq,ζb,show(!U)=O from Y,br];rcases(show p.kind=5\/p.kind=6\/p.kind=7\/p.kind=8 by omega)with h|h|h|h<;>rw[h]
 .refine⟨-b,-a,?_,?_,a?⟩
  .rw[show((5:Int)==5)=U from Y,bq,Ca];simp only;rw[dV (0-b) a? a?,dV (0-a) a? a?,show(0:Int)-b=-b from a?,show(0:Int)-a=-a from a?]
  show bU.J3 _ _ B=_;rw[G5,dV (0-b) a? a?,dV (0-a) a? a?,show(0:Int)-b=-b from a?,show(0:Int)-a=-a from a?]
 .refine⟨a+c,b+d,?_,?_,a?⟩
  .rw[show((6:Int)==5)=O from Y,br,show((6:Int)==6)=U from Y,bq,Ca];simp only;rw[dV (a+c) a? a?,dV (b+d) a? a?]
  show bU.J3 _ _ B=_;rw[G5,dV (a+c) a? a?,dV (b+d) a? a?]
 .refine⟨a-d,b-c,?_,?_,a?⟩
  .rw[show((7:Int)==5)=O from Y,br,show((7:Int)==6)=O from Y,br,show((7:Int)==7)=U from Y,bq,Ca];simp only;rw[dV (a-d) a? a?,dV (b-c) a? a?]
  show bU.J3 _ _ B=_;rw[G5,dV (a-d) a? a?,dV (b-c) a? a?]
 have⟨w,u⟩:=zT (a:=a) (b:=c) ⟨a?,a?⟩ ⟨a?,a?⟩
 have⟨x,C⟩:=zT (a:=a) (b:=d) ⟨a?,a?⟩ ⟨a?,a?⟩
 have⟨y,D⟩:=zT (a:=b) (b:=c) ⟨a?,a?⟩ ⟨a?,a?⟩
 have⟨z,G⟩:=zT (a:=b) (b:=d) ⟨a?,a?⟩ ⟨a?,a?⟩
 refine⟨if(if z<y then z else y)<(if x<w then x else w)then(if z<y then z else y)else(if x<w then x else w),if(if z>y then z else y)>(if x>w then x else w)then(if z>y then z else y)else(if x>w then x else w),?_,?_,?_⟩
 .rw[show((8:Int)==5)=O from Y,br,show((8:Int)==6)=O from Y,br,show((8:Int)==7)=O from Y,br];simp only[Pb];rw[u,C,D,G];simp only[ζb];rw[Q5,ζb,Ca]
 .show H (c8 a c) _=_;rw[u,C,D,G];simp only[ζb];rw[G5]
 have L:(if z<y then z else y)<=(if z>y then z else y):=by split<;>split<;>omega
 have I:(if x<w then x else w)<=(if x>w then x else w):=by split<;>split<;>omega
 split<;>split<;>omega
theorem Pred.parts{p:T'}(B:fB p=U){c:Int}(a:cn.at vr p.kind=M c):(W p.l.l:Int)=c:=by obtain⟨-,-,h⟩:=pF B;grind
structure pY(t:Trace)(p:Pred):Prop where
 sm:p.Sm
 f:p.eW fB=true
 r:p.eW (mL t)=true
 y:p.eW rZ=true
theorem pY.qz{p q:T'}(h:pY t p)(B:q∈p.l.l):pY t q:=by have⟨a,u,w,z⟩:=h;rw[p.kM,ζh,G?]at u w z;exact⟨a.qz B,u.2 q B,w.2 q B,z.2 q B⟩
theorem pY.here{p:T'}(h:pY t p):fB p=U/\mL t p=U/\rZ p=U:=by have⟨a,u,w,z⟩:=h;rw[p.kM,ζh]at u w z;grind
theorem pY.int{p q:T'}(h:pY t p)(a:p.kind<=12)(B:q∈p.l.l):q.kind<=8:=by have:=h.here.2.2;unfold rZ at this;grind
theorem NK(l:Small t)(m:cu t=M U)(Y:Ok t)(p:T'):pY t p->p.kind<=8->∀n,p.dp<=n->
 ∃f e ok i,cI (λr(z:Z4×T')=>cO z.1 z.2 r) n (t,p)=M (i,ok)/\cI (λr(z:Z4×T')=>iG z.1 z.2 r) n (t,p)=M (f,e,ok)/\(ok=U->i=⟨f,e⟩/\rO f e):=by
 induction p using Pred.ind with
 |h p u=>
  intro g y n A;have hd:=p.pO;have⟨w,o,E⟩:=g.here;obtain⟨k1,-,-⟩:=pF w;rw[eE a?,eE a?]
  have u:=λq D=>u q D (g.qz D) (g.int a? D) (n-1) (by have:=Pred.jE D;omega)
  show∃f e ok i,cO t p (cI (λr(z:Z4×T')=>cO z.1 z.2 r) (n-1))=M (i,ok)/\iG t p (cI (λr(z:Z4×T')=>iG z.1 z.2 r) (n-1))=M (f,e,ok)/\_
  generalize cI (λr(z:Z4×T')=>cO z.1 z.2 r) (n-1)=R at u⊢
  generalize cI (λr(z:Z4×T')=>iG z.1 z.2 r) (n-1)=W at u⊢
  unfold cO iG bU.J1
  by_cases Z:p.kind<=4
  .have aa:_m p.l.l=0:=by
    have:=Pred.parts w (c:=0) (by rcases(show p.kind=1\/p.kind=2\/p.kind=3\/p.kind=4 by omega)with h|h|h|h<;>(rw[h];rfl))
    omega
   have⟨f,e,g1,g2,g3⟩:=RR l m Y w o Z;refine⟨f,e,vg f e,⟨f,e⟩,?_,?_,λh=>⟨_l,rO.of g2 h⟩⟩
   .rw[show(len p.l==0)=U from g?,bq,g1,ζb,Bi,ζb,J0]
   rw[_b (show¬len p.l>0 by grind),br,_b (show¬len p.l>1 by grind),br,g3,G5]
  by_cases X:p.kind=5
  .have ab:_m p.l.l=1:=by
    have:=Pred.parts w (c:=1) (by rw[X];rfl)
    omega
   have B:0<_m p.l.l:=a?
   have⟨a,b,ok,i,g1,g2,g3⟩:=u _ (t? B);have F:idx p.l 0=M p.l.l[0]:=bA (i:=0) B;rw[show(len p.l==0)=O from g?,br,F,ζb,g1,ζb,show(len p.l==2)=O from g?,br,
    _c (show len p.l>0 by grind),bq,ζb,g2,ζb,_b (show¬len p.l>1 by grind),br]
   simp only
   cases ok with
   |false=>
    rw[Be _l,WN _l]
    grind
   |true=>
    obtain⟨rfl,G⟩:=g3 _l;have⟨f,e,L,b__,Q⟩:=I_ (t:=t) (p:=p) ⟨a?,a?⟩ G G ⟨0,0⟩ R W
    refine⟨f,e,vg f e,⟨f,e⟩,L,?_,λh=>⟨_l,rO.of Q h⟩⟩
    rw[<-b__,BR,BR,X];rfl
  have S:_m p.l.l=2:=by have:=Pred.parts w (c:=2) (by rcases(show p.kind=6\/p.kind=7\/p.kind=8 by omega)with h|h|h<;>(rw[h];rfl));omega
  have B:0<_m p.l.l:=a?
  have k:1<_m p.l.l:=a?
  have⟨a,b,ok,i,g1,g2,g3⟩:=u _ (t? B);have⟨c,d,C,j,s,v,x⟩:=u _ (t? k);have F:idx p.l 0=M p.l.l[0]:=bA (i:=0) B;have T:idx p.l 1=M p.l.l[1]:=bA (i:=1) k;rw[show(len p.l==0)=O from g?,br,F,ζb,g1,ζb,show(len p.l==2)=U from g?,bq,T,ζb,s,ζb,
   _c (show len p.l>0 by grind),bq,ζb,g2,ζb,_c (show len p.l>1 by simp[len,S]),bq,ζb,v,ζb]
  simp only
  cases I:ok&&C with
  |false=>rw[Be I,WN I];exact⟨0,0,O,_,rfl,rfl,λh=>by cases h⟩|true=>
   simp only[ζh]at I;obtain⟨rfl,rfl⟩:=I;obtain⟨rfl,G⟩:=g3 _l;obtain⟨rfl,a__⟩:=x _l;have⟨f,e,L,b__,Q⟩:=I_ (t:=t) (p:=p) ⟨a?,a?⟩ G a__ ⟨0,0⟩ R W
   exact⟨f,e,vg f e,⟨f,e⟩,L,b__,λh=>⟨_l,rO.of Q h⟩⟩
theorem Q7(d:Small t)(e:cu t=M U)(B:Ok t)(p:T'):pY t p->p.dp<=20->∀n,p.dp<=n->
 ∃b,cI (λr(z:Z4×T')=>cK z.1 z.2 r) n (t,p)=M b/\cI (λr(z:Z4×T')=>lp z.1 z.2 r) n (t,p)=M b:=by
 induction p using Pred.ind with
 |h p w=>
  intro a hd n G;have C:=p.pO;rw[eE a?,eE a?]
  have w:=λq u=>w q u (a.qz u) (by have:=Pred.jE u;omega) (n-1) (by have:=Pred.jE u;omega)
  show∃b,cK t p (cI (λr(z:Z4×T')=>cK z.1 z.2 r) (n-1))=M b/\lp t p (cI (λr(z:Z4×T')=>lp z.1 z.2 r) (n-1))=M b
  generalize cI (λr(z:Z4×T')=>cK z.1 z.2 r) (n-1)=R at w⊢
  generalize cI (λr(z:Z4×T')=>lp z.1 z.2 r) (n-1)=D at w⊢
  unfold cK lp;rw[uX,Fk,ζb,ζb]
  by_cases j:p.kind<=8
  .rw[show(kE p.kind==1)=U from g?,bq,bq]
   obtain⟨k,c,ok,i,g1,g2,-⟩:=NK d e B p a j 100000 a?
   refine⟨ok,?_,?_⟩
   .show H (cQ t p) _=_;rw[show cQ t p=_ from g1];rfl
   show(bU t p).bind _=_;rw[show bU t p=_ from g2];rfl
  rw[show(kE p.kind==1)=O from g?,br,br]
  let g:T'->X':=λq=>(R (t,q)).getD O
  have l:∀q∈p.l.l,R (t,q)=M (g q)/\D (t,q)=M (g q):=λq u=>by grind
  refine⟨p.l.l.all g,?_,?_⟩
  .rw[xV _ a.sm.len,wM (f:=λq=> !g q) (λq u=>by
    unfold mB;grind)]
   grind
  unfold lR.W1;refine Ah (g:=g) a.sm.len (λi hi=>?_) ?_
  .unfold lR.bl;rw[fN hi,bq,bA hi,ζb,(l _ (t? hi)).2,ζb,cq i (by have:=a.sm.len;omega)]
   cases g p.l.l[i]<;>rfl
  unfold lR.bl;rw[gA];rfl
theorem Px(a:Small t)(D:W (bO t)<1073741824){p:T'}(B:p.Sm):
 ∃e,fV t p=M e/\oP t p=M e/\(e=0->cu t=M U/\VT t/\mM p=U/\pY t p):=by
 have⟨C,c,w,z⟩:=CV a D;unfold fV oP;rw[c,w,ζb,ζb]
 cases C with
 |false=>exact⟨1,rfl,rfl,λh=>a?⟩|true=>
  have d:=z Y;rw[bq,bq,vA B,G7 B,ζb,ζb]
  cases G:mM p with
  |false=>exact⟨1,rfl,rfl,λh=>a?⟩|true=>
   have u:=G;simp only[mM,ζh]at u;have hd:=_d u.2.1;unfold h_ g_ lR qK;rw[show(!U)=O from Y,br,ζb,br,zx a B a?,Ms a p B 100000 a?,ζb,ζb]
   cases g:p.eW (mL t)with
   |false=>exact⟨13,rfl,rfl,λh=>a?⟩|true=>
    rw[bq,bq,zU B a?,JH p B u.2.2 100000 a?,ζb,ζb]
    cases I:p.eW rZ with
    |false=>exact⟨14,rfl,rfl,λh=>a?⟩|true=>
     have f:pY t p:=⟨B,u.2.2,g,I⟩;have⟨b,g1,g2⟩:=Q7 a c d.ok p f hd 100000 a?
     rw[bq,bq,g1,g2,ζb]
     cases b with
     |false=>exact⟨9,rfl,rfl,λh=>a?⟩|true=>exact⟨0,Y,Y,λ_=>⟨Y,d,Y,f⟩⟩
end
theorem NZ{t:Z4}(b:Small t){c:Zg}(W:qm t c.l){p:Nat}{P:bT}{a:Int}(y:t.b?.l[p]?=M P)(Y:c.l[p]?=M a)(q:Nat):
 Wp (iV t c p q) λs=>_m s.l=(P.c?.l.take a.toNat).countP λe=>ec q e&&nN t c.l e:=by
 have Z:=(b.2 P (s? y)).1;have⟨a0,a1⟩:=W.2 p a P Y y;unfold iV iV.W1;refine eC (λs:Zg×Int=>∃n:Nat,s.2=n/\(n:Int)<=a/\s.1.l.length=(P.c?.l.take n).countP λe=>ec q e&&nN t c.l e) (λs=>a.toNat-s.2.toNat) ⟨0,_l,by simpa using a0,_l⟩ ?_
 rintro⟨o,i⟩ ⟨n,hi,g,I⟩;simp only at hi I;subst hi;unfold iV.bl;rw[show idx c (p:Int)=M a from by rw[gp];exact Y,ζb,cm]
 constructor
 .intro h;have k:(n:Int)<a:=by simpa using h
  have C:n<_m P.c?.l:=a?
  have G:=cq n a?
  have B:a.toNat-(w? N ((n:Int)+1)).toNat<a.toNat-((n:Int)).toNat:=by rw[G];simp;omega
  have L:=List.countP_le_length (p:=λe=>ec q e&&nN t c.l e) (l:=P.c?.l.take n)
  rw[l!]at L;have u:(P.c?.l.take (n+1)).countP (λe=>ec q e&&nN t c.l e)=_m o.l+if ec q P.c?.l[n]&&nN t c.l P.c?.l[n]then 1 else 0:=by rw[P?,ζd C,g9,I];show _+countP _ [P.c?.l[n]]=_;rw[H!,B'];simp
  rw[show idx t.b? (p:Int)=M P from by rw[gp];exact y,ζb,bA C,ζb]
  generalize P.c?.l[n]=e at u;have a__:(bh (e.kind==2) (M (!(e.k?==(q:Int)))) (M U):aX X')=M (!ec q e):=by unfold ec;cases e.kind==2<;>cases e.k?==(q:Int)<;>rfl
  rw[a__,ζb,cm];constructor
  .intro w;have w:ec q e=O:=by simpa using w
   rw[a_];exact⟨⟨n+1,G,a?,by rw[u,w];rfl⟩,B⟩
  intro w;have w:ec q e=U:=by simpa using w
  rw[find_eq b,ζb];have d:(bh ((iC t 3 e.d?).index==0) (M U) (H (idx c (iC t 3 e.d?).proc) λQ=>M (_s ((iC t 3 e.d?).index>Q))):aX X')=M (nN t c.l e):=by unfold nN;rcases Ig t 3 e.d? with⟨h,_⟩|⟨z,f,_⟩;rw[h];rfl;have⟨S,j,⟨m,T,_⟩,X⟩:=dY.1 f;simp only at X;have D:S<_m c.l:=(by rw[W.1];exact(ζe.1 T).1);rw[X];dsimp only;rw[bA D,ζb,show((S:Nat):Int).toNat=S from _l,ζd D,nj];rfl
  rw[d,ζb,cm];constructor
  .intro F;unfold eH;rw[L' (show _m o.l+1<=2147483648 from a?),ζb,a_]
   exact⟨⟨n+1,G,a?,by show(o.l++[_]).length=_;rw[u,w,F,ζi];rfl⟩,B⟩
  intro F;rw[a_];exact⟨⟨n+1,G,a?,by rw[u,w,F];rfl⟩,B⟩
 intro h;have r:¬(n:Int)<a:=by simpa using h
 refine(a_ _).2 ((a_ _).2 ?_);rw[show a.toNat=n from a?];exact I
section
variable{t:Z4}{A:cn 200 bC}{P:bT}{v:Nat}
theorem Sf(a:Small t){n:Nat}(D:t.b?.l[n]?=M P){name:U'}{x:Var}(b:P.h?.l[v]?=M x)(G:(C? x.name==C? name)=U)
 (d:∀(j:Nat)(w:Var),j<v->P.h?.l[j]?=M w->(C? w.name==C? name)=O):kQ t n name=M (v:Int):=by
 have z:=(ζe.1 b);have⟨z,C⟩:=z;have I:=(a.2 P (s? D)).2.1;refine Wp.eq ?_;unfold kQ;rw[gp,D,ζb];unfold kQ.W1;refine eC (λi:Int=>∃n:Nat,i=n/\n<=v) (λi=>v-i.toNat) ⟨0,Y,N? _⟩ ?_
 rintro _ ⟨i,rfl,hi⟩;have u:i<W P.h?.l:=a?
 unfold kQ.bl;rw[fN u,bq,bA u,ζb]
 by_cases B:i=v
 .subst B;rw[C,G,bq,a_];exact(a_ _).2 rfl
 rw[d i _ a? (ζd u),br,a_,cq i a?]
 exact⟨⟨i+1,Y,a?⟩,g?⟩
theorem XN{e:WF}(B:W e.assign.l<1073741824)(n:Nat)(i:Int):ig.W2 (n:Int) (v:Int) i e.assign 0 t=M (match og e.assign.l v with|some x=>.r x|none=>.n (w? N (i-1))):=by
 refine Wp.eq ?_;unfold ig.W2;refine eB (W e.assign.l) (λj s=>s=(j:Int)/\og (e.assign.l.take j) v=J) ⟨Y,by simp[og]⟩ ?_ ?_;rintro j _ w ⟨rfl,z⟩;unfold ig.bK;rw[fN w,bq,bA w,ζb];have u:e.assign.l=e.assign.l.take j++e.assign.l[j]::e.assign.l.drop (j+1):=by rw[List.getElem_cons_drop,List.take_append_drop]
 unfold og at z;rw[Option.map_eq_none_iff]at z;by_cases C:e.assign.l[j].var=(v:Int);rw[show(e.assign.l[j].var==(v:Int))=U from g?,bq,ζb,a_];refine(a_ _).2 ?_;grind[og];rw[show(e.assign.l[j].var==(v:Int))=O from g?,br,a_,cq j a?];refine⟨Y,?_⟩;grind[og];simp_all[ig.bK,br,a_]
theorem TW(b:Small t)(T:Ok t){n:Nat}(D:t.b?.l[n]?=M P)(B:v<W P.h?.l){a:Nat}(g:a<=W P.c?.l):ig t n v (a:Int)=M (nD P v a):=by
 have C:=b.2 P (s? D);have L:=SU.of T D;have I:idx t.b? (n:Int)=M P:=by rw[gp];exact D
 refine Wp.eq ?_;unfold ig ig.W1;rw[dV _ a? a?];refine eC (λi:Int=>∃k:Nat,i=(k:Int)-1/\k<=a/\nD P v k=nD P v a) (λi=>(i+1).toNat) ⟨a,Y,x? _,Y⟩ ?_;rintro _ ⟨k,rfl,c,w⟩;unfold ig.bl;by_cases h:k=0;subst h;rw[_b a?,br,a_];rw[I,ζb,bA B,ζb];refine(a_ _).2 ?_;rw[<-w];grind[nD,jc];have z:k-1<W P.c?.l:=a?;have G:=t? z;have u:=Jp L B (ζd z);rw[show k-1+1=k from a?]at u;rw[_c a?,bq,I,ζb,show(k:Int)-1=((k-1:Nat):Int)from a?,bA z,ζb,XN (C.2.2.2.2 _ G)];cases d:og P.c?.l[k-1].assign.l v with|some x=>rw[d]at u;rw[a_];refine(a_ _).2 ?_;rw[<-w,u];rfl|none=>rw[d]at u;rw[a_,dV _ a? a?];exact⟨⟨k-1,Y,a?,by rw[<-w,u];rfl⟩,g?⟩
structure MD(t:Trace)(A:cn 200 bC)(c:Sl Int)(l:Sl (Sl Int)):Prop where
 hS:Small t
 hv:cu t=some true
 hV:VT t
 hM:fm t (bO t) A
 hC:Cons t A c.l
 vals:∀(p:Nat)(P:bT)(a:Int),t.b?.l[p]?=some P->c.l[p]?=some a->∃x,l.l[p]?=some x/\x.l=jc P a.toNat
end
section
variable{t:Z4}
theorem K4{p:T'}(B:mM p=U)(a:pY t p):rI p=M (kE p.kind,0):=by have u:=a.sm;have hd:=B;simp only[mM,ζh,_g]at hd;unfold rI;rw[vA u,B,ζb,bq,zU u a?,a.y,ζb,bq,uX];rfl
theorem Un{p:T'}(B:mM p=U)(a:pY t p):xz p=M (kE p.kind,0):=by have u:=a.sm;have hd:=B;simp only[mM,ζh,_g]at hd;unfold xz g_;rw[G7 u,B,ζb,bq,JH p u a.f 100000 a?,a.y,ζb,bq,Fk];rfl
end
theorem Im{a b x:Int}(c:a<=x)(B:x<=b)(y:Int){lo hi:Int}(D:lo<=a*y/\a*y<=hi)(G:lo<=b*y/\b*y<=hi):lo<=x*y/\x*y<=hi:=by by_cases h:0<=y;have p1:=Int.mul_le_mul_of_nonneg_right c h;have p2:=Int.mul_le_mul_of_nonneg_right B h;omega;have p1:=Int.mul_le_mul_of_nonpos_right c (show y<=0 by omega);have p2:=Int.mul_le_mul_of_nonpos_right B (show y<=0 by omega);omega
theorem Zx{a b c d x y lo hi:Int}(f:a<=x)(h:x<=b)(B:c<=y)(D:y<=d)(e:lo<=a*c/\a*c<=hi)(G:lo<=a*d/\a*d<=hi)(g:lo<=b*c/\b*c<=hi)(T:lo<=b*d/\b*d<=hi):lo<=x*y/\x*y<=hi:=by refine Im f h y ?_ ?_;rw[f9 a y];rw[f9 a c]at e;rw[f9 a d]at G;exact Im B D a e G;rw[f9 b y];rw[f9 b c]at g;rw[f9 b d]at T;exact Im B D b g T
theorem aaZ{a b m:Int}(h:(if 0-a>a then 0-a else a)*(if 0-b>b then 0-b else b)<=m):-m<=a*b/\a*b<=m:=by
 have z:∀u w:Int,0<=u->0<=w->0<=u*w:=λu w=>Int.mul_nonneg;have e1:(0-a)*b=-(a*b):=by rw[C',Int.neg_mul]
 have e2:a*(0-b)=-(a*b):=by rw[C',Int.mul_neg]
 have e3:(0-a)*(0-b)=a*b:=by rw[C',C',Int.neg_mul_neg]
 by_cases B:0-a>a<;>by_cases C:0-b>b;rw[L' B,L' C]at h;have:=z (0-a) (0-b) a? a?;omega;rw[L' B,M' C]at h;have:=z (0-a) b a? a?;omega;rw[M' B,L' C]at h;have:=z a (0-b) a? a?;omega;grind
def I4(k x y:Int):Int:=if k=5 then w? N (0-x)else if k=6 then w? N (x+y)else if k=7 then w? N (x-y)else w? N (x*y)
section
variable{t:Z4}{A:cn 200 bC}
end
section
variable{t:Z4}
end
theorem L6{α:Type}{f:α->X'}:∀{l:aY α},l.any f=U->∃(k:Nat)(x:α),l[k]?=M x/\f x=U/\∀(j:Nat)(y:α),j<k->l[j]?=M y->f y=O
 |[],h=>by simp at h|a::r,h=>by by_cases B:f a=U;exact⟨0,a,Y,B,λj y D=>_e D a?⟩;rw[any_cons,Bool.or_eq_true]at h;have⟨k,x,b,G,d⟩:=L6 (h.resolve_left B);refine⟨k+1,x,g?,G,λj y D u=>?_⟩;grind
section
variable{t:Z4}
theorem TN(b:Small t){q:T'}(c:q.kind=2)(a:mL t q=U):∃(n k:Nat)(P:bT)(v:Var),q.proc=n/\t.b?.l[n]?=M P/\P.h?.l[k]?=M v/\(C? v.name==C? q.name)=U/\∀(j:Nat)(w:Var),j<k->P.h?.l[j]?=M w->(C? w.name==C? q.name)=O:=by unfold mL at a;rw[L' g?]at a;simp only[ζh]at a;obtain⟨z,-,u⟩:=a;have⟨n,B,C⟩:=oN (t:=t) (p:=q.proc) g?;grind[Df,bA,L6]
theorem RB(d:Small t)(f:cu t=M U)(D:Ok t){q:T'}(G:fB q=U)(c:mL t q=U)(i:q.kind<=4):∃b a,eV t q=M ⟨b,a⟩/\b<=a:=by obtain⟨k1,-,-⟩:=pF G;rcases(show q.kind=1\/q.kind=2\/q.kind=3\/q.kind=4 by omega)with h|h|h|h;refine⟨q.n,q.n,?_,Int.le_refl _⟩;grind[eV,bq,PN];have⟨n,k,P,v,w,z,u,g,C⟩:=TN d h c;have⟨⟨b,a,e⟩,g1,g2,g3,g4⟩:=Dj d f D z (name:=q.name) u g C;simp only at g2 g3 g4;subst g2;refine⟨b,a,?_,g4.2 _ g3.1⟩;simp_all[eV,br];unfold mL at c;rw[M' (by simp[h]),L' (by simpa using h)]at c;simp only[ζh]at c;have⟨n,w,B⟩:=oN (t:=t) (p:=q.proc) g?;refine⟨0,len t.b?.l[n].c?,?_,g?⟩;simp_all[eV,br,bq,bA];unfold mL at c;rw[M' (by simp[h]),M' (by simp[h]),L' (by simpa using h)]at c;simp only[ζh]at c;have⟨n,w,B⟩:=oN (t:=t) (p:=q.proc) g?;have⟨m,j,I⟩:=oN (t:=t) (p:=q.k?) g?;have z:=ζd B;refine⟨0,((t.b?.l[n].c?.l.countP (ec m):Nat):Int),?_,a?⟩;simp_all[eV,br,bq,Ap]
theorem pS{a b:Int}(B:-1125899906842624<=a/\a<=1125899906842624)(D:-1125899906842624<=b/\b<=1125899906842624):∃x,gD a b=M x:=by
 unfold gD qJ;by_cases u:a=0;subst u;exact⟨_,Y⟩;rw[show(a==0)=O from g?,br,ζb];by_cases c:b=0;subst c;exact⟨_,Y⟩;rw[show(b==0)=O from g?,br,ζb,ζb,dV (0-b) a? a?];have:∀k m:Int,m≠0->∃x,x_ N k m=M x:=λk m z=>by simp_all[x_]
 have⟨x,w⟩:=this 1125899906842624 (if 0-b>b then 0-b else b) (by split<;>omega);rw[w,ζb];cases _s ((if w? N (0-a)>a then w? N (0-a)else a)>x)<;>cases(_s (a<0)==_s (b<0))<;>exact⟨_,Y⟩
theorem Jg{p:T'}(i:5<=p.kind/\p.kind<=8){a b c d:Int}(g:rO a b)(B:rO c d)(v:bQ)(r:Z4×T'->aX (bQ×X')):
 ∃f e,cQ.J1 U U p v ⟨a,b⟩ ⟨c,d⟩ r=M (⟨f,e⟩,vg f e)/\f<=e:=by
 have⟨a1,a2,u⟩:=g;have⟨C,D,G⟩:=B;unfold cQ.J1;rw[bq,ζb,show(!U)=O from Y,br];rcases(show p.kind=5\/p.kind=6\/p.kind=7\/p.kind=8 by omega)with h|h|h|h<;>rw[h]
 .refine⟨-b,-a,?_,a?⟩
  rw[show((5:Int)==5)=U from Y,bq,Ca]
  grind[dV]
 .refine⟨a+c,b+d,?_,a?⟩
  rw[show((6:Int)==5)=O from Y,br,show((6:Int)==6)=U from Y,bq,Ca]
  grind[dV]
 .refine⟨a-d,b-c,?_,a?⟩
  rw[show((7:Int)==5)=O from Y,br,show((7:Int)==6)=O from Y,br,show((7:Int)==7)=U from Y,bq,Ca]
  grind[dV]
 have⟨w,I⟩:=pS (a:=a) (b:=c) ⟨a?,a?⟩ ⟨a?,a?⟩
 have⟨x,j⟩:=pS (a:=a) (b:=d) ⟨a?,a?⟩ ⟨a?,a?⟩
 have⟨y,L⟩:=pS (a:=b) (b:=c) ⟨a?,a?⟩ ⟨a?,a?⟩
 have⟨z,m⟩:=pS (a:=b) (b:=d) ⟨a?,a?⟩ ⟨a?,a?⟩
 refine⟨if(if z<y then z else y)<(if x<w then x else w)then(if z<y then z else y)else(if x<w then x else w),if(if z>y then z else y)>(if x>w then x else w)then(if z>y then z else y)else(if x>w then x else w),?_,?_⟩
 .rw[show((8:Int)==5)=O from Y,br,show((8:Int)==6)=O from Y,br,show((8:Int)==7)=O from Y,br]
  grind[Q5,Ca]
 grind
theorem Y5(f:Small t)(g:cu t=M U)(T:Ok t)(p:T'):pY t p->p.kind<=8->∀n,p.dp<=n->
 ∃i ok,cI (λr(z:Z4×T')=>cO z.1 z.2 r) n (t,p)=M (i,ok)/\(ok=U->rO i.low i.high):=by
 induction p using Pred.ind with
 |h p u=>
  intro d l n m;have hd:=p.pO;have⟨w,k,o⟩:=d.here;obtain⟨k1,-,-⟩:=pF w;rw[eE a?]
  have u:=λq D=>u q D (d.qz D) (d.int a? D) (n-1) (by have:=Pred.jE D;omega)
  show∃i ok,cO t p (cI (λr(z:Z4×T')=>cO z.1 z.2 r) (n-1))=M (i,ok)/\_
  generalize cI (λr(z:Z4×T')=>cO z.1 z.2 r) (n-1)=R at u⊢
  unfold cO
  by_cases Q:p.kind<=4
  .have S:_m p.l.l=0:=by
    have:=Pred.parts w (c:=0) (by rcases(show p.kind=1\/p.kind=2\/p.kind=3\/p.kind=4 by omega)with h|h|h|h<;>(rw[h];rfl))
    omega
   have⟨b,a,g1,g2⟩:=RB f g T w k Q;refine⟨⟨b,a⟩,vg b a,?_,λh=>rO.of g2 h⟩
   rw[show(len p.l==0)=U from g?,bq,g1,ζb,Bi,ζb,J0]
  by_cases F:p.kind=5
  .have W:_m p.l.l=1:=by
    have:=Pred.parts w (c:=1) (by rw[F];rfl)
    omega
   have B:0<_m p.l.l:=a?
   have⟨i,ok,g1,g3⟩:=u _ (t? B);have G:idx p.l 0=M p.l.l[0]:=bA (i:=0) B;rw[show(len p.l==0)=O from g?,br,G,ζb,g1,ζb,show(len p.l==2)=O from g?,br]
   simp only
   cases ok with
   |false=>
    rw[Be _l]
    grind
   |true=>
    have⟨b,a,I,y⟩:=Jg (p:=p) ⟨a?,a?⟩ (g3 _l) (g3 _l) ⟨0,0⟩ R
    exact⟨_,_,I,λh=>rO.of y h⟩
  have X:_m p.l.l=2:=by have:=Pred.parts w (c:=2) (by rcases(show p.kind=6\/p.kind=7\/p.kind=8 by omega)with h|h|h<;>(rw[h];rfl));omega
  have B:0<_m p.l.l:=a?
  have e:1<_m p.l.l:=a?
  have⟨i,ok,g1,g3⟩:=u _ (t? B);have⟨j,C,Y,Z⟩:=u _ (t? e);have G:idx p.l 0=M p.l.l[0]:=bA (i:=0) B;have L:idx p.l 1=M p.l.l[1]:=bA (i:=1) e;rw[show(len p.l==0)=O from g?,br,G,ζb,g1,ζb,show(len p.l==2)=U from g?,bq,L,ζb,Y,ζb]
  simp only
  cases a__:ok&&C with
  |false=>
   rw[Be a__]
   grind
  |true=>
   simp only[ζh]at a__;obtain⟨rfl,rfl⟩:=a__;have⟨b,a,I,y⟩:=Jg (p:=p) ⟨a?,a?⟩ (g3 _l) (Z _l) ⟨0,0⟩ R
   exact⟨_,_,I,λh=>rO.of y h⟩
end
theorem zQ{a b x:Int}(B:-1125899906842624<=a/\a<=1125899906842624)(D:-1125899906842624<=b/\b<=1125899906842624)(h:gD a b=M x)(G:-1125899906842624<=x/\x<=1125899906842624):a*b=x:=by
 unfold gD qJ at h;by_cases u:a=0;subst u;rw[show(0:Int)*b=0 from a?];exact Option.some.inj h;rw[show(a==0)=O from g?,br,ζb]at h;by_cases d:b=0;subst d;rw[show a*(0:Int)=0 from a?];exact Option.some.inj h;rw[show(b==0)=O from g?,br,ζb,ζb,dV (0-b) a? a?,dV (0-a) a? a?]at h;have w:0<(if 0-b>b then 0-b else b):=by split<;>omega
 unfold x_ at h;rw[M' a?,ζb,Int.tdiv_eq_ediv_of_nonneg a?]at h;have hd:(1125899906842624:Int) / (if 0-b>b then 0-b else b)<=1125899906842624:=Int.ediv_le_self _ a?;have z:0<=(1125899906842624:Int) / (if 0-b>b then 0-b else b):=Int.ediv_nonneg a? a?;rw[dV ((1125899906842624:Int) / (if 0-b>b then 0-b else b)) a? a?]at h;by_cases c:(if 0-a>a then 0-a else a)>(1125899906842624:Int) / (if 0-b>b then 0-b else b);rw[_c c,bq,dV (0-1125899906842625) a? a?]at h;exfalso;revert h;cases(_s (a<0)==_s (b<0))<;>intro h;have:=Option.some.inj h;omega;have:=Option.some.inj h;omega;rw[_b c,br]at h;have C:=aaZ (Int.mul_le_of_le_ediv w (show(if 0-a>a then 0-a else a)<=(1125899906842624:Int) / (if 0-b>b then 0-b else b)from a?));rw[dV (a*b) a? a?]at h;grind
def O7(k x y:Int):Int:=if k=5 then 0-x else if k=6 then x+y else if k=7 then x-y else x*y
theorem KY{p:T'}(i:5<=p.kind/\p.kind<=8){a b c d x y:Int}(g:rO a b)(o:rO c d)(D:a<=x/\x<=b)(G:c<=y/\y<=d)(v:bQ)(r:Z4×T'->aX (bQ×X')):
 ∃f e,cQ.J1 U U p v ⟨a,b⟩ ⟨c,d⟩ r=M (⟨f,e⟩,vg f e)/\f<=e/\(vg f e=U->f<=O7 p.kind x y/\O7 p.kind x y<=e):=by
 have⟨a1,a2,q⟩:=g;have⟨W,X,Y⟩:=o;unfold cQ.J1;rw[bq,ζb,show(!U)=O from _l,br];rcases(show p.kind=5\/p.kind=6\/p.kind=7\/p.kind=8 by omega)with h|h|h|h<;>rw[h]
 .refine⟨-b,-a,?_,a?,λ_=>?_⟩
  .rw[show((5:Int)==5)=U from _l,bq,Ca]
   grind[dV]
  show -b<=(0-x)/\(0-x)<=-a;omega
 .refine⟨a+c,b+d,?_,a?,λ_=>?_⟩
  .rw[show((6:Int)==5)=O from _l,br,show((6:Int)==6)=U from _l,bq,Ca]
   grind[dV]
  show a+c<=(x+y)/\(x+y)<=b+d;omega
 .refine⟨a-d,b-c,?_,a?,λ_=>?_⟩
  .rw[show((7:Int)==5)=O from _l,br,show((7:Int)==6)=O from _l,br,show((7:Int)==7)=U from _l,bq,Ca]
   grind[dV]
  show a-d<=(x-y)/\(x-y)<=b-c;omega
 have⟨w,C⟩:=pS (a:=a) (b:=c) ⟨a?,a?⟩ ⟨a?,a?⟩
 have⟨z,I⟩:=pS (a:=a) (b:=d) ⟨a?,a?⟩ ⟨a?,a?⟩
 have⟨m,F⟩:=pS (a:=b) (b:=c) ⟨a?,a?⟩ ⟨a?,a?⟩
 have⟨n,Q⟩:=pS (a:=b) (b:=d) ⟨a?,a?⟩ ⟨a?,a?⟩
 refine⟨if(if n<m then n else m)<(if z<w then z else w)then(if n<m then n else m)else(if z<w then z else w),if(if n>m then n else m)>(if z>w then z else w)then(if n>m then n else m)else(if z>w then z else w),?_,?_,λu=>?_⟩
 .rw[show((8:Int)==5)=O from _l,br,show((8:Int)==6)=O from _l,br,show((8:Int)==7)=O from _l,br]
  grind[Q5,Ca]
 .grind
 generalize S:(if(if n<m then n else m)<(if z<w then z else w)then(if n<m then n else m)else(if z<w then z else w))=L at u⊢;generalize T:(if(if n>m then n else m)>(if z>w then z else w)then(if n>m then n else m)else(if z>w then z else w))=H at u⊢;simp only[vg,ζh]at u;have o1:=_d u.1;have o2:=_d u.2;have Z:L<=n/\L<=m/\L<=z/\L<=w:=by rw[<-S];grind
 have j:n<=H/\m<=H/\z<=H/\w<=H:=by rw[<-T];grind
 have t1:=zQ ⟨a?,a?⟩ ⟨a?,a?⟩ C a?
 have t2:=zQ ⟨a?,a?⟩ ⟨a?,a?⟩ I a?
 have t3:=zQ ⟨a?,a?⟩ ⟨a?,a?⟩ F a?
 have t4:=zQ ⟨a?,a?⟩ ⟨a?,a?⟩ Q a?
 have B:=Zx (lo:=L) (hi:=H) D.1 D.2 G.1 G.2 a? a? a? a?
 exact B
section
variable{t:Z4}{A:cn 200 bC}
theorem YN{c:Zg}{l:Zb}(h:MD t A c l){q:T'}(Y:fB q=U)(j:mL t q=U)(F:q.kind<=4):
 ∃g d x,eV t q=M ⟨g,d⟩/\(∀R,cz ⟨t,c,l⟩ q R=M x)/\g<=x/\x<=d:=by
 have⟨o,s,r,y,i,G⟩:=h;obtain⟨k1,-,-⟩:=pF Y;rcases(show q.kind=1\/q.kind=2\/q.kind=3\/q.kind=4 by omega)with h|h|h|h
 .refine⟨q.n,q.n,q.n,?_,λR=>?_,Int.le_refl _,Int.le_refl _⟩
  all_goals grind[eV,bq,PN,cz]
 .have⟨n,k,P,v,Q,C,I,h1,W⟩:=TN o h j;have⟨⟨g,d,e⟩,g1,g2,g3,g4⟩:=Dj o s r.ok C (name:=q.name) I h1 W;simp only at g2 g3 g4;subst g2;have S:=(ζe.1 I).1;have B:=(ζe.1 C).1;have⟨a,b__⟩:=i.1.at_ B;have⟨a0,a1⟩:=i.1.2 n a P b__ C;have⟨x,X,T⟩:=G n P a C b__;have D:nD P k a.toNat∈rm P k (_m P.c?.l):=Du a?
  refine⟨g,d,nD P k a.toNat,?_,λR=>?_,g3.2 _ D,g4.2 _ D⟩
  .simp_all[eV,br]
  unfold cz;rw[h,show((2:Int)==1)=O from _l,br,show((2:Int)==2)=U from _l,bq];unfold mX;simp only;rw[Q,gp,C,ζb,Bn (p:=λz=>jC z q) (f:=λw=>C? w.name==C? q.name) (λ_ _=>rfl) (o.2 P (s? C)).2.1,Fb I h1 W,ζb,gp,X,ζb,gp,T,CQ _ S]
  rfl
 .unfold mL at j;rw[M' (by simp[h]),L' (by simpa using h)]at j
  simp only[ζh]at j;have⟨n,Q,L⟩:=oN (t:=t) (p:=q.proc) g?
  have⟨a,b__⟩:=i.1.at_ L;have⟨a0,a1⟩:=i.1.2 n a _ b__ (ζd L);refine⟨0,len t.b?.l[n].c?,a,?_,λR=>?_,a?,g?⟩
  all_goals simp_all[eV,br,bq,cz,gp]
 unfold mL at j;rw[M' (by simp[h]),M' (by simp[h]),L' (by simpa using h)]at j
 simp only[ζh]at j;have⟨n,Q,L⟩:=oN (t:=t) (p:=q.proc) g?
 have⟨m,H,B⟩:=oN (t:=t) (p:=q.k?) g?
 have C:=ζd L;have Z:=ζd B;have⟨a,b__⟩:=i.1.at_ L;have⟨b,E⟩:=i.1.at_ B;have⟨⟨u,e2⟩,K,c__,d__⟩:=K5 o s r y i L B;simp only at c__ d__;rw[Cn r y i C Z b__ E]at d__;have a__:((t.b?.l[n].c?.l.take a.toNat).countP λe=>ec m e&&nN t c.l e)<=t.b?.l[n].c?.l.countP (ec m):=by refine Nat.le_trans (List.countP_mono_left λe _ e__=>?_) (List.Sublist.countP_le (List.take_sublist a.toNat _));grind
 refine⟨0,((t.b?.l[n].c?.l.countP (ec m):Nat):Int),len u,?_,λR=>?_,g?,g?⟩
 all_goals simp_all[eV,br,bq,Ap,cz,nO]
abbrev HX(n:Nat)(v:bY)(q:Pred):aX Int:=cI (λr(z:bY×Pred)=>cz z.1 z.2 r) n (v,q)
abbrev HC(n:Nat)(t:Trace)(q:Pred):aX (bQ×Bool):=cI (λr(z:Trace×Pred)=>cO z.1 z.2 r) n (t,q)
def acK(t:Z4)(c:Zg)(l:Zb)(q:T')(i:bQ)(ok:X')(x:Int):Prop:=(∀n,q.dp<=n->HC n t q=M (i,ok)/\HX n ⟨t,c,l⟩ q=M x)/\(ok=U->∃b a,i=⟨b,a⟩/\rO b a/\b<=x/\x<=a)
theorem rO.I4{a b c d x y k f e:Int}(g:rO a b)(D:rO c d)(G:a<=x/\x<=b)(i:c<=y/\y<=d)(B:vg f e=U)(h:f<=O7 k x y/\O7 k x y<=e):I4 k x y=O7 k x y:=by simp only[vg,ζh]at B;have o1:=_d B.1;have o2:=_d B.2;have⟨a1,a2,u⟩:=g;have⟨w,z,C⟩:=D;unfold VE.I4 O7 at *;split;grind[dV];split;grind[dV];split;grind[dV];rw[M' (by assumption),M' (by assumption),M' (by assumption)]at h;grind[dV]
theorem aaN{c:Zg}{l:Zb}(h:MD t A c l)(q:T'):pY t q->q.kind<=8->∃i ok x,acK t c l q i ok x:=by induction q using Pred.ind with|h q Q=>intro m hk;have hd:=q.pO;have⟨S,e__,hy⟩:=m.here;obtain⟨k1,-,-⟩:=pF S;have Q:=λq o=>Q q o (m.qz o) (m.int a? o);by_cases P:q.kind<=4;have V:_m q.l.l=0:=(by have:=Pred.parts S (c:=0) (by rcases(show q.kind=1\/q.kind=2\/q.kind=3\/q.kind=4 by omega)with h|h|h|h<;>(rw[h];rfl));omega);have⟨k,f,x,g1,g2,g3,g5⟩:=YN h S e__ P;refine⟨⟨k,f⟩,vg k f,x,λn w=>⟨?_,?_⟩,λab=>⟨k,f,_l,rO.of a? ab,g3,g5⟩⟩;unfold HC;rw[eE a?];show cO t q _=_;unfold cO;rw[show(len q.l==0)=U from by simp[len,V],bq,g1,ζb,Bi,ζb,J0];unfold HX;rw[eE a?];exact g2 _;have u:∀j:Int,j<5->(q.kind==j)=O:=λj hj=>(by simp;omega);by_cases F:q.kind=5;have T:_m q.l.l=1:=(by have:=Pred.parts S (c:=1) (by rw[F];rfl);omega);have D:0<_m q.l.l:=a?;have⟨i,ok,x,g,g3⟩:=Q _ (t? D);have ad:=Pred.jE (t? D);have c__:idx q.l 0=M q.l.l[0]:=bA (i:=0) D;have G:∀n,q.dp<=n->HC n t q=cQ.J1 ok U q ⟨0,0⟩ i i (λ_=>J):=λn w=>(by have e:=(g (n-1) a?).1;unfold HC at e⊢;rw[eE a?];show cO t q _=_;generalize cI (λr(z:Z4×T')=>cO z.1 z.2 r) (n-1)=R at e⊢;unfold cO;rw[show(len q.l==0)=O from by simp[len,T],br,c__,ζb,e,ζb,show(len q.l==2)=O from by simp[len,T],br];rfl);have B:∀n,q.dp<=n->HX n ⟨t,c,l⟩ q=M (I4 q.kind x x):=λn w=>(by have e:=(g (n-1) a?).2;unfold HX at e⊢;rw[eE a?];show cz ⟨t,c,l⟩ q _=_;generalize cI (λr(z:bY×T')=>cz z.1 z.2 r) (n-1)=R at e⊢;unfold cz;rw[u 1 a?,u 2 a?,u 3 a?,u 4 a?,br,br,br,br,F,show((5:Int)==5)=U from _l,bq,c__,ζb,e];rfl);(cases ok with|false=>rw[Be _l]at G;exact⟨_,O,_,λn w=>⟨G n w,B n w⟩,λh=>by cases h⟩|true=>obtain⟨a,b,rfl,I,b__,x2⟩:=g3 _l;have⟨k,f,s,v,W⟩:=KY (p:=q) ⟨a?,a?⟩ I I ⟨b__,x2⟩ ⟨b__,x2⟩ ⟨0,0⟩ (λ_=>J);refine⟨_,_,_,λn w=>⟨(G n w).trans s,B n w⟩,λh=>⟨k,f,_l,rO.of v h,?_⟩⟩;rw[rO.I4 I I ⟨b__,x2⟩ ⟨b__,x2⟩ h (W h)];exact W h);have X:_m q.l.l=2:=(by have:=Pred.parts S (c:=2) (by rcases(show q.kind=6\/q.kind=7\/q.kind=8 by omega)with h|h|h<;>(rw[h];rfl));omega);have D:0<_m q.l.l:=a?;have E:1<_m q.l.l:=a?;have⟨i,ok,x,g,g3⟩:=Q _ (t? D);have⟨j,C,y,H,q3⟩:=Q _ (t? E);have ad:=Pred.jE (t? D);have ae:=Pred.jE (t? E);have c__:idx q.l 0=M q.l.l[0]:=bA (i:=0) D;have Y:idx q.l 1=M q.l.l[1]:=bA (i:=1) E;have G:∀n,q.dp<=n->HC n t q=cQ.J1 ok C q ⟨0,0⟩ i j (λ_=>J):=λn w=>(by have e:=(g (n-1) a?).1;have L:=(H (n-1) a?).1;unfold HC at e L⊢;rw[eE a?];show cO t q _=_;generalize cI (λr(z:Z4×T')=>cO z.1 z.2 r) (n-1)=R at e L⊢;unfold cO;rw[show(len q.l==0)=O from by simp[len,X],br,c__,Y];simp only[ζb];simp only[e,L,ζb];rw[show(len q.l==2)=U from by simp[len,X]];rfl);have B:∀n,q.dp<=n->HX n ⟨t,c,l⟩ q=M (I4 q.kind x y):=λn w=>(by have e:=(g (n-1) a?).2;have L:=(H (n-1) a?).2;unfold HX at e L⊢;rw[eE a?];show cz ⟨t,c,l⟩ q _=_;generalize cI (λr(z:bY×T')=>cz z.1 z.2 r) (n-1)=R at e L⊢;unfold cz;rw[u 1 a?,u 2 a?,u 3 a?,u 4 a?,br,br,br,br,c__,Y];simp only[ζb];simp only[e,L,ζb];unfold VE.I4;rcases(show q.kind=6\/q.kind=7\/q.kind=8 by omega)with h|h|h<;>rw[h]<;>rfl);cases d__:ok&&C with|false=>simp only[Be d__]at G;exact⟨_,O,_,λn w=>⟨G n w,B n w⟩,λh=>by cases h⟩|true=>simp only[ζh]at d__;obtain⟨rfl,rfl⟩:=d__;obtain⟨a,b,rfl,I,b__,x2⟩:=g3 _l;obtain⟨c',d,rfl,Z,K,a__⟩:=q3 _l;have⟨k,f,s,v,W⟩:=KY (p:=q) ⟨a?,a?⟩ I Z ⟨b__,x2⟩ ⟨K,a__⟩ ⟨0,0⟩ (λ_=>J);refine⟨_,_,_,λn w=>⟨(G n w).trans s,B n w⟩,λh=>⟨k,f,_l,rO.of v h,?_⟩⟩;rw[rO.I4 I Z ⟨b__,x2⟩ ⟨K,a__⟩ h (W h)];exact W h
abbrev H9(n:Nat)(v:bY)(q:Pred):aX Bool:=cI (λr(z:bY×Pred)=>cU z.1 z.2 r) n (v,q)
theorem pY.bool{q:T'}(a:pY t q)(g:13<=q.kind){k:T'}(b:k∈q.l.l):9<=k.kind:=by have:=a.here.2.2;unfold rZ at this;rw[G?]at this;have:=this k b;unfold xm kE at this;rw[M' (show¬q.kind<=12 by omega)]at this;by_cases u:k.kind<=8;rw[L' u]at this;cases this;omega
theorem Ct{q:T'}(k2:q.kind<=21)(h:q.eW (λk=> !mK k)=U):q.kind<=17/\∀k∈q.l.l,k.eW (λk=> !mK k)=U:=by rw[q.kM,ζh,G?]at h;refine⟨?_,h.2⟩;have:=h.1;unfold mK at this;by_cases g:q.kind>=18;rw[_c g,_c k2]at this;cases this;omega
theorem Vh{c:Zg}{l:Zb}(h:MD t A c l)(q:T'):pY t q->9<=q.kind->q.dp<=20->q.eW (λk=> !mK k)=U->∃x,∀n,q.dp<=n->H9 n ⟨t,c,l⟩ q=M x:=by induction q using Pred.ind with|h q b__=>intro a d W G;have hd:=q.pO;have⟨I,j,m⟩:=a.here;obtain⟨k1,k2,-⟩:=pF I;have⟨X,G⟩:=Ct a? G;have b__:=λg q F=>b__ q F (a.qz F) (a.bool g F) (by have:=Pred.jE F;omega) (G q F);have B:∀n,q.dp<=n->H9 n ⟨t,c,l⟩ q=cU ⟨t,c,l⟩ q (λz=>H9 (n-1) z.1 z.2):=λn C=>(by unfold H9;rw[eE a?]);by_cases S:q.kind<=12;have Z:=Pred.parts I (c:=2) (by rcases(show q.kind=9\/q.kind=10\/q.kind=11\/q.kind=12 by omega)with g|g|g|g<;>(rw[g];rfl));have u:0<_m q.l.l:=a?;have w:1<_m q.l.l:=a?;have D:∀k∈q.l.l,∃x,eP ⟨t,c,l⟩ k=M x:=λk d=>(by obtain⟨i,ok,x,g,-⟩:=aaN h k (a.qz d) (a.int S d);exact⟨x,(g 100000 (by have:=Pred.jE d;omega)).2⟩);have⟨x,Q⟩:=D _ (t? u);have⟨y,T⟩:=D _ (t? w);have key:∀R,∃b,cU ⟨t,c,l⟩ q R=M b/\∀e,cU ⟨t,c,l⟩ q e=M b:=λR=>(by unfold cU;rw[show idx q.l 0=M q.l.l[0]from bA (i:=0) u,show idx q.l 1=M q.l.l[1]from bA (i:=1) w];simp only[ζb,Q,T];rcases(show q.kind=9\/q.kind=10\/q.kind=11\/q.kind=12 by omega)with g|g|g|g<;>rw[g]<;>exact⟨_,_l,λ_=>rfl⟩);obtain⟨b,-,f⟩:=key (λ_=>J);exact⟨b,λn C=>by rw[B n C,f]⟩;by_cases o:q.kind<=14;refine⟨q.kind==13,λn C=>?_⟩;rw[B n C];unfold cU eN.J1;rcases(show q.kind=13\/q.kind=14 by omega)with g|g<;>rw[g]<;>rfl;have u:0<_m q.l.l:=(by rcases(show q.kind=15\/q.kind=16\/q.kind=17 by omega)with g|g|g;have:=Pred.parts I (c:=1) (by rw[g];rfl);omega;have:=Pred.parts I (c:=2) (by rw[g];rfl);omega;have:=Pred.parts I (c:=2) (by rw[g];rfl);omega);have⟨x,Q⟩:=b__ a? _ (t? u);have p:=Pred.jE (t? u);have L:idx q.l 0=M q.l.l[0]:=bA (i:=0) u;by_cases g:q.kind=15;refine⟨!x,λn C=>?_⟩;rw[B n C];unfold cU eN.J1;rw[L,g];simp only[ζb,Q (n-1) a?];rfl;have w:1<_m q.l.l:=(by have:=Pred.parts I (c:=2) (by rcases(show q.kind=16\/q.kind=17 by omega)with g|g<;>(rw[g];rfl));omega);have⟨y,T⟩:=b__ a? _ (t? w);have Y:=Pred.jE (t? w);have a__:idx q.l 1=M q.l.l[1]:=bA (i:=1) w;refine⟨if q.kind=16 then x&&y else x||y,λn C=>?_⟩;rw[B n C];unfold cU eN.J1;rw[L,a__];simp only[ζb,Q (n-1) a?,T (n-1) a?];rcases(show q.kind=16\/q.kind=17 by omega)with g|g<;>rw[g]<;>cases x<;>rfl
end
section
variable{t:Z4}{A:cn 200 bC}{L:aY Rd}{tb:Sl X'}
end
section
variable{t:Z4}
end
section
variable{t:Z4}{A:cn 200 bC}{L:aY Rd}{tb:Sl X'}
end
section
variable{t:Z4}
variable{A:cn 200 bC}{L:aY Rd}{tb:Sl X'}
end
section
variable{t:Z4}{A:cn 200 bC}{L:aY Rd}{tb:Sl X'}
end
section
variable{t:Z4}{A:cn 200 bC}
theorem aaB{p:T'}(B:mM p=U)(a:pY t p)(b:kE p.kind=2):tC p 2=M 0:=by unfold tC;rw[K4 B a,b];rfl
end
abbrev yx(t:Trace)(n:Nat)(q:Pred):aX Bool:=cI (λr(z:Trace×Pred)=>cK z.1 z.2 r) n (t,q)
theorem Om{t:Z4}(e:Small t)(g:cu t=M U)(B:Ok t)(p:T'):pY t p->p.dp<=20->∃b,∀n,p.dp<=n->yx t n p=M b:=by induction p using Pred.ind with|h p C=>intro a hd;have D:=p.pO;by_cases c:p.kind<=8;obtain⟨i,ok,g1,-⟩:=Y5 e g B p a c 100000 a?;refine⟨ok,λn G=>?_⟩;unfold yx;rw[eE a?];show cK t p _=_;unfold cK;rw[uX,ζb,show(kE p.kind==1)=U from by simp[kE,c],bq,show cQ t p=_ from g1];rfl;refine⟨!(p.l.l.any λq=> !((yx t q.dp q).getD O)),λn G=>?_⟩;have d:∀q∈p.l.l,yx t (n-1) q=M ((yx t q.dp q).getD O):=λq u=>(by have⟨b,w⟩:=C q u (a.qz u) (by have:=Pred.jE u;omega);rw[w _ (by have:=Pred.jE u;omega),w _ (x? _)];rfl);unfold yx at d⊢;rw[eE a?];show cK t p (cI (λr(z:Z4×T')=>cK z.1 z.2 r) (n-1))=_;generalize cI (λr(z:Z4×T')=>cK z.1 z.2 r) (n-1)=R at d⊢;unfold cK;rw[uX,ζb,show(kE p.kind==1)=O from by simp[kE,c],br,xV _ a.sm.len,wM (f:=λq=> !((cI (λr(z:Z4×T')=>cK z.1 z.2 r) q.dp (t,q)).getD O)) (λq u=>by unfold mB;rw[d q u];rfl)];rfl
section
variable{t:Z4}{A:cn 200 bC}{L:aY Rd}{tb:Sl X'}
end
section
variable{t:Z4}{A:cn 200 bC}
theorem Tj{c c':Zg}{l:Zb}(D:c'.l=c.l)(h:MD t A c l)(q:T'):pY t q->q.kind<=8->∀n,q.dp<=n->
 ∃x,cI (λr(z:bY×T')=>cz z.1 z.2 r) n (⟨t,c,l⟩,q)=M x/\cI (λr(z:Z4×(Zg)×T')=>j_ z.1 z.2.1 z.2.2 r) n (t,c',q)=M x:=by
 induction q using Pred.ind with
 |h q S=>
  intro K d n hn;have hd:=q.pO;obtain⟨E,hv,a__,e__,v,L⟩:=h;obtain⟨T,e,hy⟩:=K.here;obtain⟨k1,-,-⟩:=pF T;have S:=λq H=>S q H (K.qz H) (K.int a? H) (n-1) (by have:=Pred.jE H;omega)
  rw[eE a?,eE a?]
  show∃x,cz ⟨t,c,l⟩ q (cI (λr(z:bY×T')=>cz z.1 z.2 r) (n-1))=M x/\j_ t c' q (cI (λr(z:Z4×(Zg)×T')=>j_ z.1 z.2.1 z.2.2 r) (n-1))=M x
  generalize cI (λr(z:bY×T')=>cz z.1 z.2 r) (n-1)=R at S⊢
  generalize cI (λr(z:Z4×(Zg)×T')=>j_ z.1 z.2.1 z.2.2 r) (n-1)=R' at S⊢
  unfold cz j_;rcases(show q.kind=1\/q.kind=2\/q.kind=3\/q.kind=4\/5<=q.kind by omega)with d|d|d|d|d
  .rw[d];exact⟨q.n,rfl,rfl⟩
  .unfold mL at e;rw[L' (by simpa using d)]at e
   simp only[ζh]at e;obtain⟨hp,-,c__⟩:=e;obtain⟨i,hi,ab⟩:=Iy E (p:=q.proc) (by simp only[ζh];exact hp) q.name
   rcases ab with⟨m,k,P,y,b__,C,rfl,d__,V,h2,-⟩|⟨-,W⟩
   .have X:=(ζe.1 d__).1;have B:=(ζe.1 C).1;obtain⟨a,G⟩:=v.1.at_ B;obtain⟨a0,a1⟩:=v.1.2 m a P G C;obtain⟨x,hx,ad⟩:=L m P a C G;refine⟨nD P k a.toNat,?_,?_⟩
    .rw[d,show((2:Int)==1)=O from rfl,br,show((2:Int)==2)=U from rfl,bq];unfold mX;simp only;rw[b__,gp,C,ζb,Bn (p:=λz=>jC z q) (f:=λw=>C? w.name==C? q.name) (λ_ _=>rfl) (E.2 P (s? C)).2.1,Fb d__ V h2,ζb,gp,hx,ζb,gp,ad,CQ _ X]
     rfl
    rw[d,show((2:Int)==1)=O from rfl,br,show((2:Int)==2)=U from rfl,bq,b__,Sf E C d__ V h2,ζb,gp,D,G,ζb];have:=TW E a__.ok C X (a:=a.toNat) a?
    rw[show((a.toNat:Nat):Int)=a from a?]at this
    rw[this];rfl
   rw[W]at c__;cases c__
  .unfold mL at e;rw[M' (by simp[d]),L' (by simpa using d)]at e
   simp only[ζh]at e;obtain⟨m,b__,B⟩:=oN (t:=t) (p:=q.proc) (by simp only[ζh];exact e.1)
   obtain⟨a,G⟩:=v.1.at_ B;refine⟨a,?_,?_⟩
   .rw[d,show((3:Int)==1)=O from rfl,br,show((3:Int)==2)=O from rfl,br,show((3:Int)==3)=U from rfl,bq];simp only;rw[b__,gp,G];rfl
   rw[d,show((3:Int)==1)=O from rfl,br,show((3:Int)==2)=O from rfl,br,show((3:Int)==3)=U from rfl,bq,b__,gp,D,G];rfl
  .unfold mL at e;rw[M' (by simp[d]),M' (by simp[d]),L' (by simpa using d)]at e
   simp only[ζh]at e;obtain⟨m,b__,B⟩:=oN (t:=t) (p:=q.proc) (by simp only[ζh];exact e.1)
   obtain⟨o,ho,Q⟩:=oN (t:=t) (p:=q.k?) (by simp only[ζh];exact e.2.1)
   obtain⟨a,G⟩:=v.1.at_ B;obtain⟨b,hb⟩:=v.1.at_ Q;have C:=ζd B;have hQ:=ζd Q;obtain⟨⟨u,e2⟩,hu,ae,Y⟩:=K5 E hv a__ e__ v B Q;simp only at ae Y;obtain⟨s,hs,F⟩:=NZ (c:=c') E (by rw[D];exact v.1) C (by rw[D];exact G) o
   rw[D]at F;refine⟨len u,?_,?_⟩
   .rw[d,show((4:Int)==1)=O from rfl,br,show((4:Int)==2)=O from rfl,br,show((4:Int)==3)=O from rfl,br,show((4:Int)==4)=U from rfl,bq];unfold nO;simp only;rw[b__,ho,hu];rfl
   rw[d,show((4:Int)==1)=O from rfl,br,show((4:Int)==2)=O from rfl,br,show((4:Int)==3)=O from rfl,br,show((4:Int)==4)=U from rfl,bq,b__,ho,hs,ζb];show M ((s.l.length:Nat):Int)=M ((u.l.length:Nat):Int);rw[F,Y,Cn a__ e__ v C hQ G hb]
  have I:∀j:Int,j<5->(q.kind==j)=O:=λj hj=>by simp;omega
  rw[I 1 a?,I 2 a?,I 3 a?,I 4 a?]
  simp only[br];have hl:0<q.l.l.length:=by rcases(show q.kind=5\/q.kind=6\/q.kind=7\/q.kind=8 by omega)with g|g|g|g;have:=Pred.parts T (c:=1) (by rw[g];rfl);omega;have:=Pred.parts T (c:=2) (by rw[g];rfl);omega;have:=Pred.parts T (c:=2) (by rw[g];rfl);omega;have:=Pred.parts T (c:=2) (by rw[g];rfl);omega
  obtain⟨x,x1,x2⟩:=S _ (t? hl);have Z:idx q.l 0=M q.l.l[0]:=bA (i:=0) hl
  by_cases g:q.kind=5
  .rw[g,show((5:Int)==5)=U from rfl,bq,bq,Z,ζb,x1,ζb,ζb,x2,ζb];exact⟨_,rfl,rfl⟩
  have aa:1<q.l.l.length:=by have:=Pred.parts T (c:=2) (by rcases(show q.kind=6\/q.kind=7\/q.kind=8 by omega)with g|g|g<;>(rw[g];rfl));omega
  obtain⟨y,y1,y2⟩:=S _ (t? aa);have af:idx q.l 1=M q.l.l[1]:=bA (i:=1) aa;rw[Z,af];simp only[ζb,x1,x2,y1,y2];rw[show(q.kind==5)=O from by simpa using g,br]
  cases q.kind==6<;>cases q.kind==7<;>exact⟨_,rfl,rfl⟩
theorem NH{c c':Zg}{l:Zb}(T:c'.l=c.l)(h:MD t A c l)(q:T'):pY t q->9<=q.kind->q.dp<=20->q.eW (λk=> !mK k)=U->∀n,q.dp<=n->
 ∃x,cI (λr(z:bY×T')=>cU z.1 z.2 r) n (⟨t,c,l⟩,q)=M x/\cI (λr(z:Z4×(Zg)×T')=>eA z.1 z.2.1 z.2.2 r) n (t,c',q)=M x:=by
 induction q using Pred.ind with
 |h q G=>
  intro a b W C n d;have hd:=q.pO;have⟨I,e,f⟩:=a.here;obtain⟨k1,k2,-⟩:=pF I;rw[q.kM,ζh,G?]at C;have X:q.kind<=17:=by have:=C.1;unfold mK at this;by_cases g:q.kind>=18;rw[_c g,_c (show q.kind<=21 by omega)]at this;cases this;omega
  have B:∀k∈q.l.l,k.kind<=8->∃x,eP ⟨t,c,l⟩ k=M x/\kP t c' k=M x:=λk b Q=>Tj T h k (a.qz b) Q 100000 (by have:=Pred.jE b;omega)
  have D:13<=q.kind->∀k∈q.l.l,9<=k.kind:=λg k b=>by have:=a.here.2.2;unfold rZ at this;rw[G?]at this;have:=this k b;unfold xm kE at this;rw[M' (show¬q.kind<=12 by omega)]at this;by_cases Y:k.kind<=8;rw[L' Y]at this;cases this;omega
  have G:=λg q m=>G q m (a.qz m) (D g q m) (by have:=Pred.jE m;omega) (C.2 q m) (n-1) (by have:=Pred.jE m;omega)
  rw[eE a?,eE a?]
  show∃x,cU ⟨t,c,l⟩ q (cI (λr(z:bY×T')=>cU z.1 z.2 r) (n-1))=M x/\eA t c' q (cI (λr(z:Z4×(Zg)×T')=>eA z.1 z.2.1 z.2.2 r) (n-1))=M x
  generalize cI (λr(z:bY×T')=>cU z.1 z.2 r) (n-1)=R at G⊢
  generalize cI (λr(z:Z4×(Zg)×T')=>eA z.1 z.2.1 z.2.2 r) (n-1)=R' at G⊢
  unfold cU eA eN.J1
  by_cases L:q.kind<=12
  .have Z:=Pred.parts I (c:=2) (by rcases(show q.kind=9\/q.kind=10\/q.kind=11\/q.kind=12 by omega)with g|g|g|g<;>(rw[g];rfl))
   have u:0<_m q.l.l:=a?
   have w:1<_m q.l.l:=a?
   have⟨x,F,x2⟩:=B _ (t? u) (a.int L (t? u));have⟨y,S,o⟩:=B _ (t? w) (a.int L (t? w));rw[show idx q.l 0=M q.l.l[0]from bA (i:=0) u,show idx q.l 1=M q.l.l[1]from bA (i:=1) w];simp only[ζb,F,x2,S,o];rcases(show q.kind=9\/q.kind=10\/q.kind=11\/q.kind=12 by omega)with g|g|g|g<;>rw[g]<;>exact⟨_,_l,_l⟩
  by_cases j:q.kind<=14
  .rcases (show q.kind=13\/q.kind=14 by omega)with g|g<;>rw[g]<;>exact⟨_,_l,_l⟩
  have u:0<_m q.l.l:=by rcases(show q.kind=15\/q.kind=16\/q.kind=17 by omega)with g|g|g;have:=Pred.parts I (c:=1) (by rw[g];rfl);omega;have:=Pred.parts I (c:=2) (by rw[g];rfl);omega;have:=Pred.parts I (c:=2) (by rw[g];rfl);omega
  have⟨x,F,x2⟩:=G a? _ (t? u)
  rw[show idx q.l 0=M q.l.l[0]from bA (i:=0) u]
  by_cases g:q.kind=15
  .rw[g];simp only[ζb,F,x2];exact⟨_,_l,_l⟩
  have w:1<_m q.l.l:=by have:=Pred.parts I (c:=2) (by rcases(show q.kind=16\/q.kind=17 by omega)with g|g<;>(rw[g];rfl));omega
  have⟨y,S,o⟩:=G a? _ (t? w)
  rw[show idx q.l 1=M q.l.l[1]from bA (i:=1) w];simp only[ζb,F,x2,S,o];rcases(show q.kind=16\/q.kind=17 by omega)with g|g<;>rw[g]<;>cases x<;>exact⟨_,_l,_l⟩
end
section
variable{t:Z4}{A:cn 200 bC}{L:aY Rd}
theorem Wl(a:VT t)(B:eG t A L)(D:W L<=5000){x:bF}(G:Kq L x){kind:Int}{l:Sl X'}(d:W l.l=W L):
 ∃o,nH x kind l=M o/\Bk L (gS kind l) o/\o.whole=M o:=by
 have⟨o,o1,o2,o3⟩:=Yj a B D G (p:=λz=>iJ z.1 z.2 kind l) (g:=gS kind l) λi nx hi u=>VC a? u
 refine⟨o,?_,o2,o3⟩;unfold nH;rw[o1,ζb,o3];rfl
theorem PE{x:Sl X'}(D:W x.l<=1073741824):Wp (gH x) λo=>o.whole=M o/\W o.l=W x.l/\∀i,i<W x.l->bX o i= !bX x i:=by have w:len x=((W x.l:Nat):Int):=rfl;unfold gH;rw[w,El _ a?,ζb];unfold gH.W1;refine eB (W x.l) (λi(q:Sl X'×Int)=>q.2=(i:Int)/\q.1.whole=M q.1/\q.1.l.length=W x.l/\∀j,j<i->bX q.1 j= !bX x j) ⟨Y,Y,by simp[Sl.l],λj h=>_e h a?⟩ ?_ ?_;rintro i ⟨n,_⟩ hi ⟨rfl,u,e1,e3⟩;simp only at u e1 e3;have⟨z,B,C⟩:=put_eq (s:=n) (p:=i) (x:= !bX x i) a?;unfold gH.bl;dsimp only;rw[fN hi,bq,mU hi,ζb,nX (by omega:i<W n.l),ζb,B,ζb,a_];refine⟨cq i a?,Cy u B,by show W z.l=_;rw[C];simp[e1],λj G=>?_⟩;show bX z j=_;unfold bX;rw[C,D?];by_cases e:j=i;subst e;rw[L' Y,L' a?];rfl;rw[M' (Ne.symm e)];exact e3 j a?;rintro⟨n,_⟩ ⟨rfl,u,e1,e3⟩;simp only at u e1 e3;unfold gH.bl;dsimp only;rw[gA,br,a_];exact(a_ _).2 ⟨u,e1,e3⟩
theorem OZ{a:Sl X'}{i:Nat}(h:i<W a.l):Sl.get a i=M (bX a i):=by unfold Sl.get bX;rw[ζd h];rfl
theorem Ir{a o:Sl X'}{i:Nat}{b:X'}(h:i<W a.l)(B:o.l=a.l.set i b)(k:Nat):bX o k=if k=i then b else bX a k:=by unfold bX;rw[B,D?];by_cases e:k=i;subst e;rw[L' Y,L' Y,L' h];rfl;rw[M' (Ne.symm e),M' e]
def gB(kind:Int)(a b:X'):X':=if kind=16 then a&&b else a||b
theorem XU{a b:Sl X'}{p:T'}{r:bF×T'->aX (Sl X')}(T:W a.l<=5000)(G:W b.l=W a.l)(d:a.whole=M a):
 Wp (dg.W2 a b (len b) 0 p r) λo=>o.whole=M o/\W o.l=W a.l/\∀i,i<W a.l->bX o i=gB p.kind (bX a i) (bX b i):=by
 rw[show len b=((W a.l:Nat):Int)from by simp only[len,G]]
 unfold dg.W2;refine eB (W a.l) (λi(q:Sl X'×Int)=>q.2=(i:Int)/\q.1.whole=M q.1/\q.1.l.length=W a.l/\∀j,bX q.1 j=if j<i then gB p.kind (bX a j) (bX b j)else bX a j) ⟨Y,d,Y,λj=>by rw[M' a?]⟩ ?_ ?_
 .rintro i ⟨n,_⟩ hi ⟨rfl,w,e1,e3⟩;simp only at w e1 e3;have u:i<W n.l:=by omega
  have B:bX n i=bX a i:=by rw[e3,M' a?]
  have⟨z,C,D⟩:=put_eq (s:=n) (p:=i) (x:=gB p.kind (bX a i) (bX b i)) a?
  unfold dg.bK;dsimp only;rw[fN hi,bq,nX (by omega:i<W b.l),ζb,OZ a?,ζb]
  rw[nX u];simp only[ζb];rw[OZ u,B];simp only[ζb];have I:(H (bh (bX a i) (M (bX b i)) (M O)) λx=>M x)=M (bX a i&&bX b i)/\(H (bh (bX a i) (M U) (M (bX b i))) λx=>M x)=M (bX a i||bX b i):=by cases bX a i<;>exact⟨Y,Y⟩
  have fin:w? N ((i:Int)+1)=((i+1:Nat):Int)/\z.whole=M z/\W z.l=W a.l/\∀j,bX z j=if j<i+1 then gB p.kind (bX a j) (bX b j)else bX a j:=by refine⟨cq i a?,Cy w C,by rw[D];simp[e1],λj=>?_⟩;rw[Ir u D];by_cases e:j=i;subst e;rw[L' Y,L' a?];rw[M' e,e3];by_cases h:j<i;rw[L' h,L' a?];rw[M' h,M' a?]
  by_cases c:p.kind=16
  .rw[show(p.kind==16)=U from by simp[c],bq]
   have:∀{γ:Type}(f:X'->aX γ),(H (bh (bX a i) (M (bX b i)) (M O)) f)=f (bX a i&&bX b i):=λf=>by cases bX a i<;>rfl
   rw[this];rw[show(bX a i&&bX b i)=gB p.kind (bX a i) (bX b i)from by unfold gB;rw[L' c],C,ζb,a_]
   exact fin
  rw[show(p.kind==16)=O from beq_eq_false_iff_ne.2 c,br];have:∀{γ:Type}(f:X'->aX γ),(H (bh (bX a i) (M U) (M (bX b i))) f)=f (bX a i||bX b i):=λf=>by cases bX a i<;>rfl
  rw[this];rw[show(bX a i||bX b i)=gB p.kind (bX a i) (bX b i)from by unfold gB;rw[M' c],C,ζb,a_]
  exact fin
 rintro⟨n,_⟩ ⟨rfl,w,e1,e3⟩;simp only at w e1 e3;unfold dg.bK;dsimp only;rw[gA,br,a_];exact(a_ _).2 ⟨w,e1,λi hi=>by rw[e3,L' hi]⟩
theorem Ux{s:Zb}{z a b:Sl X'}{p:T'}{r:Z4×Zb×T'->aX (Sl X')}(T:s.l.length<=5000)(g:z.l.length=s.l.length)(m:a.l.length=s.l.length)(W:b.l.length=s.l.length)(c:p.kind=16\/p.kind=17):
 Wp (cR.W3 s z a b 0 p r) λo=>o.l.length=s.l.length/\∀i,i<s.l.length->bX o i=gB p.kind (bX a i) (bX b i):=by
 have u:len s=((s.l.length:Nat):Int):=rfl;unfold cR.W3;refine eB s.l.length (λi(q:Sl X'×Int)=>q.2=(i:Int)/\q.1.l.length=s.l.length/\∀j,j<i->bX q.1 j=gB p.kind (bX a j) (bX b j)) ⟨rfl,g,λj h=>_e h a?⟩ ?_ ?_
 .rintro i ⟨n,_⟩ hi ⟨rfl,e1,e3⟩;simp only at e1 e3;have w:i<n.l.length:=by omega
  have⟨G,L,I⟩:=put_eq (s:=n) (p:=i) (x:=gB p.kind (bX a i) (bX b i)) a?
  have d:∀{γ:Type}(f:X'->aX γ),(((bh (bX a i) (M (bX b i)) (M O):aX X').bind λB=>(bh B (M U) ((bh (p.kind==17) ((bh (bX a i) (M U) (M (bX b i)):aX X').bind λC=>M C) (M O):aX X').bind λD=>M D):aX X').bind f))=f (gB p.kind (bX a i) (bX b i)):=λf=>by unfold gB;rcases c with h|h<;>rw[h]<;>cases bX a i<;>cases bX b i<;>rfl
  unfold cR.dQ;dsimp only;rw[u,fN hi,bq,mU a?,mU a?]
  simp only[ζb];rw[d,nX w,ζb,L,ζb,a_];refine⟨cq i a?,by show G.l.length=_;rw[I];simp[e1],λj y=>?_⟩
  show bX G j=_;rw[Ir w I]
  by_cases e:j=i
  .subst e;rw[L' rfl]
  rw[M' e];exact e3 j a?
 rintro⟨n,_⟩ ⟨rfl,e1,e3⟩;simp only at e1 e3;unfold cR.dQ;dsimp only;rw[u,gA,br,a_];exact(a_ _).2 ⟨e1,e3⟩
theorem WD{s:Zb}{z:Sl X'}{p:T'}{g:Nat->X'}{r:Z4×Zb×T'->aX (Sl X')}(d:W s.l<=5000)(D:W z.l=W s.l)(a:∀i(h:i<W s.l),sJ t s.l[i] p=M (g i)):
 Wp (cR.W4 s z 0 t p r) λo=>W o.l=W s.l/\∀i,i<W s.l->bX o i=g i:=by
 have u:len s=((W s.l:Nat):Int):=rfl;unfold cR.W4;refine eB (W s.l) (λi(q:Sl X'×Int)=>q.2=(i:Int)/\q.1.l.length=W s.l/\∀j,j<i->bX q.1 j=g j) ⟨Y,D,λj h=>_e h a?⟩ ?_ ?_
 .rintro i ⟨n,_⟩ hi ⟨rfl,e1,e3⟩;simp only at e1 e3;have w:i<W n.l:=by omega
  have⟨B,G,C⟩:=put_eq (s:=n) (p:=i) (x:=g i) a?
  unfold cR.yZ;dsimp only;rw[u,fN hi,bq,bA hi,ζb,a i hi,ζb,nX w,ζb,G,ζb,a_];refine⟨cq i a?,by show W B.l=_;rw[C];simp[e1],λj I=>?_⟩
  show bX B j=_;rw[Ir w C]
  by_cases e:j=i
  .subst e;rw[L' Y]
  rw[M' e];exact e3 j a?
 rintro⟨n,_⟩ ⟨rfl,e1,e3⟩;simp only at e1 e3;unfold cR.yZ;dsimp only;rw[u,gA,br,a_];exact(a_ _).2 ⟨e1,e3⟩
end
abbrev HS(n:Nat)(z:Trace×Sl Int×Pred):aX Bool:=cI (λr(z:Trace×(Sl Int)×Pred)=>eA z.1 z.2.1 z.2.2 r) n z
def tv(t:Z4)(p:T')(c:Zg):X':=(sJ t c p).getD O
section
variable{t:Z4}{A:cn 200 bC}{L:aY Rd}
theorem FX{c c':Zg}{l:Zb}(B:c'.l=c.l)(h:MD t A c l){q:T'}(a:pY t q)(b:9<=q.kind)(hd:q.dp<=20)(D:q.eW (λk=> !mK k)=U):
 ∀n,q.dp<=n->H9 n ⟨t,c,l⟩ q=M (tv t q c')/\HS n (t,c',q)=M (tv t q c'):=by
 have⟨x,w⟩:=Vh h q a b hd D;have key:∀n,q.dp<=n->HS n (t,c',q)=M x:=λn u=>by have⟨y,z,C⟩:=NH B h q a b hd D n u;have:=w n u;unfold H9 at this;rw[this]at z;cases z;exact C
 have e:tv t q c'=x:=by unfold tv sJ;rw[show cI _ 100000 (t,c',q)=M x from key 100000 a?];rfl
 intro n u;rw[e];exact⟨w n u,key n u⟩
theorem QC{s:Sl T'}{k:T'}{i:Nat}(h:s.l[i]?=M k):idx s (i:Int)=M k:=by rw[gp];exact h
theorem TR(e:Small t)(g:cu t=M U)(j:Ok t){p q:T'}(c:pY t p)(hd:p.dp<=20)(i:¬p.kind<=8)(h:∀n,p.dp<=n->yx t n p=M U)(B:q∈p.l.l):∀n,q.dp<=n->yx t n q=M U:=by
 have C:=p.pO;have d:∀q∈p.l.l,∃b,∀n,q.dp<=n->yx t n q=M b:=λq B=>Om e g j q (c.qz B) (by have:=Pred.jE B;omega);have u:∀q∈p.l.l,yx t (p.dp-1) q=M ((yx t q.dp q).getD O):=λq B=>by have⟨b,w⟩:=d q B;rw[w _ (by have:=Pred.jE B;omega),w _ (x? _)];rfl
 have a:=h p.dp (x? _);unfold yx at a u;rw[eE C]at a;change cK t p (cI (λr(z:Z4×T')=>cK z.1 z.2 r) (p.dp-1))=_ at a;generalize cI (λr(z:Z4×T')=>cK z.1 z.2 r) (p.dp-1)=R at u a;unfold cK at a;rw[uX,ζb,show(kE p.kind==1)=O from by simp[kE,i],br,xV _ c.sm.len,wM (f:=λq=> !((cI (λr(z:Z4×T')=>cK z.1 z.2 r) q.dp (t,q)).getD O)) (λq B=>by unfold mB;rw[u q B];rfl)]at a;have D:(p.l.l.any λq=> !((cI (λr(z:Z4×T')=>cK z.1 z.2 r) q.dp (t,q)).getD O))=O:=by cases L:(p.l.l.any λq=> !((cI (λr(z:Z4×T')=>cK z.1 z.2 r) q.dp (t,q)).getD O))with|false=>rfl|true=>rw[L]at a;cases a
 rw[J']at D;have G:=D q B;have⟨b,w⟩:=d q B;have I:=w q.dp (x? _);unfold yx at I;rw[I]at G;cases b with|false=>exact _e Y G|true=>exact w
theorem S5(p:T'):pY t p->p.kind<=8->p.eW (λk=> !mK k)=U:=by induction p using Pred.ind with|h p w=>intro a b;rw[p.kM,ζh,G?];refine⟨?_,λq u=>w q u (a.qz u) (a.int a? u)⟩;unfold mK;rw[_b (show¬p.kind>=18 by omega)];rfl
theorem Qd{p:T'}(a:pY t p)(b:p.kind<=14):p.eW (λk=> !mK k)=U:=by rw[p.kM,ζh,G?];refine⟨?_,λq u=>?_⟩;unfold mK;rw[_b (show¬p.kind>=18 by omega)];rfl;by_cases h:p.kind<=12;exact S5 q (a.qz u) (a.int h u);exfalso;have w:(W p.l.l:Int)=0:=Pred.parts a.here.1 (by rcases(show p.kind=13\/p.kind=14 by omega)with g|g<;>rw[g]<;>rfl);have:=List.length_pos_of_mem u;omega
theorem adK(b:Small t)(c:cu t=M U)(f:VT t)(g:fm t (bO t) A)(B:eG t A L)(K:_m L<=5000){r s:Zb}(v:qX t=M (r,0))(d:ins r=L)(W:ins s=L){p:T'}(D:mM p=U)(a:pY t p)(y:9<=p.kind)(Y:p.eW (λk=> !mK k)=U)(b__:∀n,p.dp<=n->yx t n p=M U):
 ∃tb,_o (oG t p) zy=M (tb,0)/\tb.whole=M tb/\_m tb.l=_m L/\∀i(h:i<_m s.l),bX tb i=tv t p s.l[i]:=by
 have hd:=D;simp only[mM,ζh,_g]at hd;have u:=a.sm;have I:fV t p=M 0:=by
  unfold fV qK;rw[c,ζb,bq,vA u,ζb,D,show(!U)=O from _l,ζb,br,zx b u a?,ζb,a.r,bq,zU u a?,ζb,a.y,bq,
   show cI (λr(z:Z4×T')=>cK z.1 z.2 r) 100000 (t,p)=M U from b__ 100000 a?,ζb]
  rfl
 have d__:kE p.kind=2:=by unfold kE;rw[M' a?]
 have Q:_m r.l=_m L:=by rw[<-j9,d]
 have E:_m s.l=_m L:=by rw[<-j9,W]
 have key:Wp (oG t p) λq=>q.2=0/\q.1.whole=M q.1/\q.1.l.length=_m L/\∀i(h:i<_m s.l),bX q.1 i=tv t p s.l[i]:=by unfold oG kO;rw[I,ζb,show((0:Int)==0)=U from _l,bq,aaB D a d__,ζb,show((0:Int)==0)=U from _l,bq,zB u,D,Y,ζb,show(U&& !U)=O from _l,br,v,ζb];simp only;rw[show((0:Int)==0)=U from _l,bq,eS];unfold kO.W1;refine eB (_m r.l) (λn q=>q.2=(n:Int)/\q.1.whole=M q.1/\q.1.l.length=n/\∀i(h:i<_m s.l),i<n->bX q.1 i=tv t p s.l[i]) ⟨_l,_l,_l,λi _ h=>_e h a?⟩ ?_ ?_;rintro n ⟨o,_⟩ w ⟨rfl,o1,o2,o3⟩;simp only at o1 o2 o3;have S:n<_m s.l:=(by omega);have j:Cons t A r.l[n].l:=(B.mem _).1 (by rw[<-d];exact mF.2 ⟨_,t? w,_l⟩);have T:s.l[n].l=r.l[n].l:=(by have X:=zo w;have c__:=zo S;rw[d]at X;rw[W]at c__;rw[X]at c__;exact(Option.some.inj c__).symm);have⟨⟨l,z⟩,a1,a2,a3,Z⟩:=XH b c f g j;simp only at a2 a3 Z;subst a2;have F:=(FX T ⟨b,c,f,g,j,Z⟩ a y a? Y 100000 a?).1;have⟨C,G,m⟩:=oE (s:=o) (x:=tv t p s.l[n]) a?;have H:C.whole=M C:=(by unfold eH at G;split at G<;>cases G;rfl);unfold kO.bl;dsimp only;rw[fN w,bq,bA w,ζb,a1,ζb];simp only;rw[show((0:Int)==0)=U from _l,bq,show eN ⟨t,r.l[n],l⟩ p=M (tv t p s.l[n])from F,ζb,G,ζb,a_];refine⟨cq n a?,H,by show _m C.l=_;rw[m];simp[o2],λi hi a__=>?_⟩;show bX C i=_;unfold bX;rw[m];by_cases e:i=n;subst e;rw[List.getElem?_append_right a?,o2];simp;rw[List.getElem?_append_left a?];exact o3 i hi a?;rintro⟨o,_⟩ ⟨rfl,o1,o2,o3⟩;simp only at o1 o2 o3;unfold kO.bl;dsimp only;rw[gA,br,a_];exact(a_ _).2 ((a_ _).2 ⟨_l,o1,by rw[<-Q];exact o2,λi hi=>o3 i hi a?⟩)
 have⟨⟨tb,z⟩,k1,k2,k3,k4,k5⟩:=key;simp only at k2 k3 k4 k5;subst k2;refine⟨tb,?_,k3,k4,k5⟩;rw[k1,ζb];unfold zy;rw[k3];rfl
abbrev PX(n:Nat)(z:bF×Pred):aX (Sl Bool):=cI (λr(z:bF×Pred)=>dc z.1 z.2 r) n z
abbrev PG(n:Nat)(z:Trace×Sl (Sl Int)×Pred):aX (Sl Bool):=cI (λr(z:Trace×(Sl (Sl Int))×Pred)=>fh z.1 z.2.1 z.2.2 r) n z
theorem QO(F:Small t)(H:cu t=M U)(y:VT t)(P:fm t (bO t) A)(T:eG t A L)(h5:_m L<=5000){r s:Zb}(hL:qX t=M (r,0))(hr:ins r=L)(V:ins s=L){x:bF}(hx:Kq L x)(an:x.t=t)(p:T'):
 pY t p->9<=p.kind->p.dp<=20->p.sz<=200->(∀n,p.dp<=n->yx t n p=M U)->∀n,p.dp<=n->∃o w,PX n (x,p)=M o/\o.whole=M o/\PG n (t,s,p)=M w/\o.l=w.l/\_m o.l=_m L/\(p.eW (λk=> !mK k)=U->∀i(h:i<_m s.l),bX w i=tv t p s.l[i]):=by
 have hsl:_m s.l=_m L:=by rw[<-j9,V]
 have aw:_m r.l=_m L:=by rw[<-j9,hr]
 have aa:∀i(h:i<_m s.l),∃c l,s.l[i].l=c.l/\MD t A c l:=λi hi=>by have hC:Cons t A s.l[i].l:=(T.mem _).1 (by rw[<-V];exact mF.2 ⟨_,t? hi,_l⟩);have⟨⟨l,z⟩,a1,a2,a3,a4⟩:=XH F H y P hC;simp only at a2 a3 a4;subst a2;exact⟨_,l,_l,F,H,y,P,hC,a4⟩
 induction p using Pred.ind with
 |h p ih=>
  intro d hk hd hz ae n hn;have af:=p.pO;have⟨ah,ax,ay⟩:=d.here;obtain⟨k1,k2,-⟩:=pF ah;have hf:mM p=U:=by simp only[mM,ζh,_g];exact⟨hz,hd,d.f⟩
  have D:∀q∈p.l.l,13<=p.kind->∃o w,PX (n-1) (x,q)=M o/\o.whole=M o/\PG (n-1) (t,s,q)=M w/\o.l=w.l/\_m o.l=_m L/\(q.eW (λk=> !mK k)=U->∀i(h:i<_m s.l),bX w i=tv t q s.l[i]):=λq G ai=>ih q G (d.qz G) (d.bool ai G) (by have:=Pred.jE G;omega) (by have:=Pred.OX G;have:=p.QA;omega) (TR F H y.ok d hd a? ae G) (n-1) (by have:=Pred.jE G;omega)
  have aj:p.eW (λk=> !mK k)=U->∀R,dc x p R=(_o (oG t p) zy).bind λao=>M ao.1:=λB R=>by unfold dc;rw[zB d.sm,hf,B,ζb,show(U&& !U)=O from _l,br,an]
  have d__:p.eW (λk=> !mK k)=O->∀{γ:Type}(a b:aX γ),(_o (mG p) λap=>bh ap a b)=a:=λB _ a b=>by rw[zB d.sm,hf,B,ζb,show(U&& !O)=U from _l,bq]
  unfold PX PG;rw[eE a?,eE a?]
  show∃o w,dc x p (cI (λr(z:bF×T')=>dc z.1 z.2 r) (n-1))=M o/\o.whole=M o/\fh t s p (cI (λr(z:Z4×(Zb)×T')=>fh z.1 z.2.1 z.2.2 r) (n-1))=M w/\_
  unfold PX PG at D;generalize cI (λr(z:bF×T')=>dc z.1 z.2 r) (n-1)=R at D⊢
  generalize cI (λr(z:Z4×(Zb)×T')=>fh z.1 z.2.1 z.2.2 r) (n-1)=R' at D⊢
  have aq:len s=((_m s.l:Nat):Int):=rfl;have ak:_m (Sl.row (replicate (_m s.l) O):Sl X').l=_m s.l:=by simp[Sl.l]
  have X:jQ (len s) (O:X')=M (.row (replicate (_m s.l) O)):=by rw[aq,El _ a?]
  have Q:∀c:Int,cn.at vr p.kind=M c->(_m p.l.l:Int)=c:=λc=>Pred.parts ah
  have al:∀i(h:i<_m s.l),p.eW (λk=> !mK k)=U->HS p.dp (t,s.l[i],p)=M (tv t p s.l[i]):=λi h B=>by have⟨c,l,e,K⟩:=aa i h;exact(FX e K d hk a? B p.dp (x? _)).2
  have ab:∀i(h:i<_m s.l),∀q∈p.l.l,13<=p.kind->q.eW (λk=> !mK k)=U->HS (p.dp-1) (t,s.l[i],q)=M (tv t q s.l[i]):=λi h q G ar B=>by have⟨c,l,e,K⟩:=aa i h;exact(FX e K (d.qz G) (d.bool ar G) (by have:=Pred.jE G;omega) B (p.dp-1) (by have:=Pred.jE G;omega)).2
  have fin:∀w:Sl X',_m w.l=_m L->p.eW (λk=> !mK k)=U->(∀i(h:i<_m s.l),bX w i=tv t p s.l[i])->∃o,dc x p R=M o/\o.whole=M o/\o.l=w.l/\_m o.l=_m L:=λw E B h=>by have⟨tb,b1,b2,b3,b4⟩:=adK F H y P T h5 hL hr V hf d hk B ae;refine⟨tb,by rw[aj B,b1];rfl,b2,?_,b3⟩;exact AT a? λi hi=>by rw[h i a?];exact b4 i a?
  by_cases c1:p.kind<=14
  .have B:=Qd d c1;have⟨w,f,a__,j⟩:=WD (t:=t) (s:=s) (z:=.row (replicate (_m s.l) O)) (p:=p) (g:=λi=>tv t p (s.l[i]?.getD .nil)) (r:=R') a? ak λi hi=>by
    have⟨c,l,e,K⟩:=aa i hi;rw[ζd hi];exact(FX e K d hk a? B 100000 a?).2
   have w4:∀i(h:i<_m s.l),bX w i=tv t p s.l[i]:=λi hi=>by rw[j i hi,ζd hi];rfl
   have⟨o,o1,o2,o3,e__⟩:=fin w a? B w4
   refine⟨o,w,o1,o2,?_,o3,e__,λ_=>w4⟩
   unfold fh cR.J1 cR.J2;have m:∀v:Int,15<=v->(p.kind==v)=O:=λv H=>beq_eq_false_iff_ne.2 a?
   rw[X,ζb,m 18 a?,m 19 a?,m 20 a?,m 21 a?,m 15 a?,m 16 a?,m 17 a?]
   simp only[br];exact f
  by_cases Y:p.kind=15
  .have au:(_m p.l.l:Int)=1:=Q 1 (by rw[Y];rfl)
   obtain⟨q,b__⟩:∃q,p.l.l[0]?=M q:=⟨_,ζd a?⟩
   have G:=s? b__;have⟨o,w,g1,g2,g3,g4,g5,g6⟩:=D q G a?
   have⟨w',f,a__,j⟩:=Xo (x:=w) (by rw[<-g4];omega)
   have C:idx p.l 0=M q:=QC (i:=0) b__;have E:fh t s p R'=M w':=by unfold fh cR.J1;rw[X,ζb,Y];simp only[show((15:Int)==18)=O from _l,show((15:Int)==19)=O from _l,show((15:Int)==20)=O from _l,show((15:Int)==21)=O from _l,show((15:Int)==15)=U from _l,br,bq];rw[C,ζb,g3,ζb,f];rfl
   have wl:_m w'.l=_m L:=by rw[a__,<-g4,g5]
   have S:p.eW (λk=> !mK k)=U->∀i(h:i<_m s.l),bX w' i=tv t p s.l[i]:=λB i hi=>by have c__:=(Ct a? B).2 q G;rw[j i (by rw[<-g4];omega),g6 c__ i hi];have e1:=al i hi B;have e2:=ab i hi q G a? c__;unfold HS at e1 e2;rw[eE af]at e1;change eA t s.l[i] p (cI (λr(z:Z4×(Zg)×T')=>eA z.1 z.2.1 z.2.2 r) (p.dp-1))=_ at e1;generalize cI (λr(z:Z4×(Zg)×T')=>eA z.1 z.2.1 z.2.2 r) (p.dp-1)=R2 at e1 e2;unfold eA at e1;rw[Y]at e1;simp only[show((15:Int)==9)=O from _l,show((15:Int)==10)=O from _l,show((15:Int)==11)=O from _l,show((15:Int)==12)=O from _l,show((15:Int)==13)=O from _l,show((15:Int)==15)=U from _l,br,bq,C,ζb,e2]at e1;exact Option.some.inj e1
   cases B:p.eW (λk=> !mK k)with
   |true=>have⟨o,o1,o2,o3,e__⟩:=fin w' wl B (S B);exact⟨o,w',o1,o2,E,o3,e__,λ_=>S B⟩|false=>
    have⟨z,z1,z2,z3,z4⟩:=PE (x:=o) a?
    refine⟨z,w',?_,z2,E,AT a? λi hi=>?_,a?,λh=>by cases h⟩
    .unfold dc;rw[d__ B,C,ζb,g1,ζb,g2,ζb,show(p.kind==15)=U from by simp[Y],bq,z1,ζb,z2];rfl
    rw[z4 i a?,j i (by rw[<-g4];omega)]
    unfold bX;rw[g4]
  by_cases W:p.kind=16\/p.kind=17
  .have aA:(_m p.l.l:Int)=2:=Q 2 (by rcases W with g|g<;>rw[g]<;>rfl)
   obtain⟨q,b__⟩:∃q,p.l.l[0]?=M q:=⟨_,ζd a?⟩
   obtain⟨q',am⟩:∃q,p.l.l[1]?=M q:=⟨_,ζd a?⟩
   have G:=s? b__;have ad:=s? am;have⟨o,w,g1,g2,g3,g4,g5,g6⟩:=D q G a?
   have⟨u,v,u1,u2,u3,u4,u5,u6⟩:=D q' ad a?
   have C:idx p.l 0=M q:=QC (i:=0) b__;have I:idx p.l 1=M q':=QC (i:=1) am;have⟨w',f,a__,j⟩:=Ux (s:=s) (z:=.row (replicate (_m s.l) O)) (a:=w) (b:=v) (p:=p) (r:=R') a? ak (by rw[<-g4];omega) (by rw[<-u4];omega) W
   have E:fh t s p R'=M w':=by unfold fh cR.J1 cR.J2;rw[X,ζb];rcases W with c|c<;>(simp only[c,show((16:Int)==18)=O from _l,show((16:Int)==19)=O from _l,show((16:Int)==20)=O from _l,show((16:Int)==21)=O from _l,show((16:Int)==15)=O from _l,show((16:Int)==16)=U from _l,show((17:Int)==18)=O from _l,show((17:Int)==19)=O from _l,show((17:Int)==20)=O from _l,show((17:Int)==21)=O from _l,show((17:Int)==15)=O from _l,show((17:Int)==16)=O from _l,show((17:Int)==17)=U from _l,br,bq];rw[C,ζb,g3,ζb,I,ζb,u3,ζb];exact f)
   have wl:_m w'.l=_m L:=a?
   have S:p.eW (λk=> !mK k)=U->∀i(h:i<_m s.l),bX w' i=tv t p s.l[i]:=λB i hi=>by have c__:=(Ct a? B).2 q G;have Z:=(Ct a? B).2 q' ad;rw[j i hi,g6 c__ i hi,u6 Z i hi];have e1:=al i hi B;have e2:=ab i hi q G a? c__;have e3:=ab i hi q' ad a? Z;unfold HS at e1 e2 e3;rw[eE af]at e1;change eA t s.l[i] p (cI (λr(z:Z4×(Zg)×T')=>eA z.1 z.2.1 z.2.2 r) (p.dp-1))=_ at e1;generalize cI (λr(z:Z4×(Zg)×T')=>eA z.1 z.2.1 z.2.2 r) (p.dp-1)=R2 at e1 e2 e3;unfold eA at e1;unfold gB;rcases W with c|c;rw[c]at e1⊢;simp only[show((16:Int)==9)=O from _l,show((16:Int)==10)=O from _l,show((16:Int)==11)=O from _l,show((16:Int)==12)=O from _l,show((16:Int)==13)=O from _l,show((16:Int)==15)=O from _l,show((16:Int)==16)=U from _l,br,bq,C,I,ζb,e2,e3]at e1;rw[L' _l];revert e1;cases tv t q s.l[i]<;>intro e1<;>exact Option.some.inj e1;rw[c]at e1⊢;simp only[show((17:Int)==9)=O from _l,show((17:Int)==10)=O from _l,show((17:Int)==11)=O from _l,show((17:Int)==12)=O from _l,show((17:Int)==13)=O from _l,show((17:Int)==15)=O from _l,show((17:Int)==16)=O from _l,show((17:Int)==17)=U from _l,br,bq,C,I,ζb,e2,e3]at e1;rw[M' (by decide)];revert e1;cases tv t q s.l[i]<;>intro e1<;>exact Option.some.inj e1
   cases B:p.eW (λk=> !mK k)with
   |true=>have⟨o,o1,o2,o3,e__⟩:=fin w' wl B (S B);exact⟨o,w',o1,o2,E,o3,e__,λ_=>S B⟩|false=>
    have⟨z,z1,z2,z3,z4⟩:=XU (a:=o) (b:=u) (p:=p) (r:=R) a? a? g2
    refine⟨z,w',?_,z2,E,AT a? λi hi=>?_,a?,λh=>by cases h⟩
    .unfold dc dg.J1;rw[d__ B,C,ζb,g1,ζb,g2,ζb];rcases W with c|c<;>(simp only[c,show((16:Int)==15)=O from _l,show((16:Int)==16)=U from _l,show((17:Int)==15)=O from _l,show((17:Int)==16)=O from _l,show((17:Int)==17)=U from _l,br,bq];rw[I,ζb,u1,ζb,u2,ζb];exact z1)
    rw[z4 i a?,j i a?]
    unfold bX;rw[g4,u4]
  have au:(_m p.l.l:Int)=1:=Q 1 (by rcases(show p.kind=18\/p.kind=19\/p.kind=20\/p.kind=21 by omega)with g|g|g|g<;>rw[g]<;>rfl)
  obtain⟨q,b__⟩:∃q,p.l.l[0]?=M q:=⟨_,ζd a?⟩
  have G:=s? b__;have⟨o,w,g1,g2,g3,g4,g5,g6⟩:=D q G a?
  have C:idx p.l 0=M q:=QC (i:=0) b__;have B:p.eW (λk=> !mK k)=O:=by cases B:p.eW (λk=> !mK k)with|false=>rfl|true=>have:=(Ct a? B).1;omega
  have⟨e,e1,e2,e3⟩:=Wl y T h5 hx (kind:=p.kind) (l:=o) g5;have av:gS p.kind o=gS p.kind w:=by funext i nx;unfold gS bX;rw[g4]
  rw[av]at e2;have⟨w',f,a__⟩:=VU F y P T h5 V (kind:=p.kind) a? (l:=w) (by rw[<-g4];exact g5) e2
  refine⟨e,w',?_,e3,?_,a__.symm,e2.1,λh=>by rw[B]at h;cases h⟩
  .unfold dc dg.J1;rw[d__ B,C,ζb,g1,ζb,g2,ζb,show(p.kind==15)=O from beq_eq_false_iff_ne.2 a?,br,show(p.kind==16)=O from beq_eq_false_iff_ne.2 a?,br,show(p.kind==17)=O from beq_eq_false_iff_ne.2 a?,br,e1,ζb,e3];rfl
  unfold fh;rw[X,ζb];have hj:cR.J1 s (.row (replicate (_m s.l) O)) p.kind U t p R'=M w':=by unfold cR.J1;rw[bq,C,ζb,g3,ζb,f];rfl
  rcases(show p.kind=18\/p.kind=19\/p.kind=20\/p.kind=21 by omega)with g|g|g|g<;>rw[g]at hj⊢ <;>exact hj
theorem fD.le{a b:Rd}(h:fD a b):a.sum<=b.sum:=by refine R? λu=>fD.LS a (h.tr (fD.sum a?))
theorem QL(B:eG t A L):L[0]?=M (replicate (W t.b?.l) 0):=by
 have D:replicate (W t.b?.l) (0:Int)∈L:=(B.mem _).2 G6;have⟨i,hi,e⟩:=List.mem_iff_getElem.1 D;by_cases G:i=0;subst G;rw[ζd hi,e];exfalso;have w:0<W L:=a?;have u:=List.pairwise_iff_getElem.1 B.srt 0 i w hi a?;rw[e]at u;have a:=(B.mem _).1 (t? w);have I:=a.1.sum.1;have C:=u.le;rw[show(replicate (W t.b?.l) (0:Int)).sum=0 from f?]at C;have b:=(Qk (t:=t) (A:=A) (z:=.row (replicate (W t.b?.l) 0)) Y L[0]).2 ⟨a,by simp;omega⟩;have:L[0]=replicate (W t.b?.l) 0:=by simpa[ins,Sl.l]using b
 rw[this]at u;exact fD.LS _ u
end
theorem P0(p:T')(G:p.Sm):∀(n d:Nat)(v:Int),1<=n->42<=n+d->d<=41->0<=v->v<=300->
 ∃r:Int,cI (λr(z:T'×Int×Int)=>jb z.1 z.2.1 z.2.2 r) n (p,(d:Int),v)=M r/\0<=r/\r<=1000:=by
 induction p using Pred.ind with
 |h p L=>
  intro n d v o m hd Q e;have X:=G.len;rw[eE a?]
  show∃r:Int,jb p (d:Int) v (cI (λr(z:T'×Int×Int)=>jb z.1 z.2.1 z.2.2 r) (n-1))=M r/\0<=r/\r<=1000
  have I:∀v:Int,0<=v->v<=1000->(v<=300->d<=40)->∃r:Int,fU.J1 (d:Int) p v (cI (λr(z:T'×Int×Int)=>jb z.1 z.2.1 z.2.2 r) (n-1))=M r/\0<=r/\r<=1000:=by intro v S b T;show Wp (fU.J1 (d:Int) p v _) λr=>0<=r/\r<=1000;unfold fU.J1 fU.W2;refine eC (λs:Int×Int=>∃i:Nat,s.1=i/\i<=W p.l.l/\0<=s.2/\s.2<=1000/\(s.2<=300->d<=40)) (λs=>W p.l.l-s.1.toNat) ⟨0,Y,N? _,S,b,T⟩ ?_;rintro⟨_,u⟩ ⟨i,rfl,hi,C,D,g⟩;simp only at C D g⊢;unfold fU.bK;by_cases B:i<W p.l.l;rw[fN B,bq,ζb];by_cases a:u<=300;have w:=g a;rw[_c a,bq,bA B,ζb,cq d a?];have⟨r,c,j,r1⟩:=L _ (t? B) (G.qz (t? B)) (n-1) (d+1) u a? a? a? C a;rw[c,ζb,a_,cq i a?];exact⟨⟨i+1,Y,a?,j,r1,λ_=>w⟩,by simp only;omega⟩;rw[_b a,br,a_];exact(a_ _).2 ⟨C,D⟩;rw[_b (by simp only[len];omega),br,ζb,br,a_];exact(a_ _).2 ⟨C,D⟩
  unfold jb
  by_cases w:d<=40
  .rw[_b a?,br,dV _ a? a?]
   exact I _ a? a? (λ_=>w)
  rw[_c a?,bq]
  exact I _ a? a? (λh=>a?)
theorem QD{p:T'}(B:p.Sm):∃b,xo p=M b:=by obtain⟨r,a,-⟩:=P0 p B 100000 0 0 a? a? a? a? a?;unfold xo fU;rw[show((0:Nat):Int)=0 from Y]at a;rw[a];exact⟨_,Y⟩
section
variable{t:Z4}{A:cn 200 bC}{L:aY Rd}
theorem aaK(c:Small t)(d:cu t=M U)(e:VT t){p:T'}(D:mM p=U)(a:pY t p)(B:fV t p=M 0):∀n,p.dp<=n->yx t n p=M U:=by
 have u:=a.sm;have hd:=D;simp only[mM,ζh,_g]at hd;have⟨b,w⟩:=Om c d e.ok p a a?;unfold fV qK at B;rw[d,ζb,bq,vA u,ζb,D,show(!U)=O from Y,ζb,br,zx c u a?,ζb,a.r,bq,zU u a?,ζb,a.y,bq,
  show cI (λr(z:Z4×T')=>cK z.1 z.2 r) 100000 (t,p)=M b from w 100000 a?,ζb]at B
 cases b with|true=>exact w|false=>exact _e (Option.some.inj B) (by decide)
theorem Oz(a:Small t)(e:mo t=M U)(f:VT t)(g:fm t (bO t) A){c:Zg}(B:W c.l=W t.b?.l){r:Int}(h:Code t A c.l r)(K:Ps):
 (H (jR t c) λx=>bh x (H (mA t c) λy=>bh y K (M 18)) (M 2))=if r=0 then K else M r:=by
 have j:Wp (jR t c) λb=>(b=U↔qm t c.l):=EL a B λi=>rfl
 have⟨b,C,u⟩:=j;rw[C,ζb];rcases h with⟨h,rfl⟩|⟨-,h,rfl⟩|⟨h,z,rfl⟩|⟨h,z,rfl⟩
 .exact _e B h
 .rw[show b=O from by cases b with|false=>rfl|true=>exact _e (u.1 rfl) h];rfl
 .have⟨d,hd,w⟩:=LJ a e f g h;rw[u.2 h,bq,hd,ζb,show d=O from by cases d with|false=>rfl|true=>exact _e (w.1 rfl) z];rfl
 have⟨d,hd,w⟩:=LJ a e f g h;rw[u.2 h,bq,hd,ζb,w.2 z];rfl
structure abn(t:Trace)(p:Pred)(e:Int)(o w:Sl Bool)(s:Sl (Sl Int)):Prop where
 pt:ji t p=some (o,e)
 rt:ny t p=some (w,s,e)
 eq:o.l=w.l
 le:o.l.length<=5000
 ok:e=0->∃(A:cn 200 bC)(L:List (List Int))(l:Sl (Sl Int)),cu t=some true/\mo t=some true/\VT t/\fm t (bO t) A/\eG t A L/\L.length<=5000/\oq t=some (l,0)/\ins l=L/\ins s=L/\o.l.length=L.length/\fV t p=some 0/\oP t p=some 0/\ow t p 2=some 0
 bad:e≠0->o.l=[]
theorem abr(g:Small t)(H:_m (bO t)<1073741824){p:T'}(K:p.Sm):
 ∃e,fV t p=M e/\oP t p=M e/\(cu t=M O->e=1)/\∃f o w s,abn t p f o w s/\(e≠0->f=e)/\(e=0->∃k,ow t p 2=M k/\(k≠0->f=k)/\(k=0->f=0\/f=16)):=by
 have⟨e,d,I,a__⟩:=Px g H K;have⟨v,Z,T,v3⟩:=CV g H;refine⟨e,d,I,λi=>?_,?_⟩
 .unfold fV at d;rw[i,ζb,br]at d;exact(Option.some.inj d).symm
 have ab:=g.1;have c__:jQ (len t.b?) (0:Int)=M (.row (replicate (_m t.b?.l) 0)):=by rw[show len t.b?=((_m t.b?.l:Nat):Int)from _l,El _ a?]
 have b__:(len (.row (replicate (_m t.b?.l) 0):Zg)==len t.b?)=U:=by simp[len,Sl.l]
 have j:∀(f:Int),f≠0->ji t p=M (.nil,f)->ny t p=M (.nil,.nil,f)->abn t p f .nil .nil .nil:=λf G a b=>⟨a,b,_l,N? _,λh=>_e h G,λ_=>rfl⟩
 by_cases W:e=0
 .subst W;have⟨i,l,G,n⟩:=a__ _l;rw[i]at Z;cases Z;have hd:=G;simp only[mM,ζh,_g]at hd;obtain⟨A,-,-,m⟩:=l.msgs;have d__:Cons t A (Sl.row (replicate (_m t.b?.l) (0:Int)):Zg).l:=Q9 A;have D:Code t A (Sl.row (replicate (_m t.b?.l) (0:Int)):Zg).l 0:=.inr (.inr (.inr ⟨d__.1,d__.2,_l⟩));have z:∀k,ow t p 2=M k->jU t (.row (replicate (_m t.b?.l) 0)) p=M k:=λk c=>by
   unfold jU;rw[T,ζb,bq,b__,show(!U)=O from _l,ζb,br,I,ζb,show((0:Int)==0)=U from _l,bq,Oz g T l m (by simp[Sl.l]) D,L' _l,c];rfl
  have u:ow t p 2=M (if kE p.kind=2 then 0 else 14):=by unfold ow;rw[I,ζb,show((0:Int)==0)=U from _l,bq,Un G n,ζb];simp only;by_cases c:kE p.kind=2;rw[L' c,c];rfl;rw[M' c,show(kE p.kind==2)=O from beq_eq_false_iff_ne.2 c,br]
  have B:qF t p=M (if kE p.kind=2 then 0 else 14):=by unfold qF;rw[d,ζb,show((0:Int)==0)=U from _l,bq,K4 G n,ζb];simp only;rw[show((0:Int)==0)=U from _l,bq];by_cases c:kE p.kind=2;rw[L' c,c];rfl;rw[M' c,show(kE p.kind==2)=O from beq_eq_false_iff_ne.2 c];rfl
  by_cases c:kE p.kind=2
  .rw[L' c]at u B;have e__:9<=p.kind:=by
    unfold kE at c
    by_cases h:p.kind<=8
    .rw[L' h]at c;cases c
    omega
   have Q:qX t=_o (oq t) λx=>M (x.1,x.2):=rfl
   rcases Qv g i l m with⟨L,r,s,C,y,X,E,F,S⟩|⟨X,E⟩
   .have hL:qX t=M (r,0):=by rw[Q,X];rfl
    obtain⟨q,P,x,rfl,R,V⟩:=YM g i l m C y hL F;obtain⟨o,w,o1,o2,o3,o4,o5,-⟩:=QO g i l m C y hL F S V R p n e__ a? a? (aaK g i l G n d) 100000 a?
    refine⟨0,o,w,s,⟨?_,?_,o4,a?,λ_=>⟨A,L,r,i,T,l,m,C,y,X,F,S,o5,d,I,u⟩,λh=>_e _l h⟩,λh=>_e _l h,λ_=>⟨0,u,λh=>_e _l h,λ_=>.inl _l⟩⟩
    .unfold ji;rw[B,ζb,show((0:Int)==0)=U from _l,bq,P,ζb];simp only;rw[show((0:Int)==0)=U from _l,bq,ζb,show dg x p=M o from o1,ζb,o2];rfl
    unfold ny;rw[c__,ζb,z 0 u,ζb,show((0:Int)==0)=U from _l,bq,E,ζb,bq,show cR t s p=M w from o3];rfl
   have hm:dU t=M (J,16):=by unfold dU;rw[Q,X];rfl
   refine⟨16,_,_,_,j 16 (by decide) ?_ ?_,λh=>_e _l h,λ_=>⟨0,u,λh=>_e _l h,λ_=>.inr _l⟩⟩
   .unfold ji;rw[B,ζb,show((0:Int)==0)=U from _l,bq,hm];rfl
   unfold ny;rw[c__,ζb,z 0 u,ζb,show((0:Int)==0)=U from _l,bq,E];rfl
  rw[M' c]at u B;refine⟨14,_,_,_,j 14 (by decide) ?_ ?_,λh=>_e _l h,λ_=>⟨14,u,λ_=>rfl,λh=>by cases h⟩⟩
  .unfold ji;rw[B];rfl
  unfold ny;rw[c__,ζb,z 14 u];rfl
 have Y:(e==0)=O:=beq_eq_false_iff_ne.2 W;refine⟨e,_,_,_,j e W ?_ ?_,λ_=>rfl,λh=>_e h W⟩
 .unfold ji qF;rw[d,ζb,Y,br,ζb,Y,br]
 unfold ny jU;rw[c__,ζb,T,ζb]
 cases v with
 |false=>
  have:e=1:=by unfold fV at d;rw[Z,ζb,br]at d;exact(Option.some.inj d).symm
  subst this;rfl
 |true=>rw[bq,b__,show(!U)=O from _l,ζb,br,I,ζb,Y,br,ζb,Y,br]
theorem LV (hS:Small t) (hN:(bO t).length<1073741824) {c:Sl Int} {p:Pred} (hs:p.Sm):dI t c p=some true:=by
 obtain⟨bg,ab⟩:=acp hS;obtain⟨hg,ad⟩:=QD hs;unfold dI;rw[show zp=some true from rfl,ζb,bq,ab,ζb]
 cases bg with
 | true=>rfl
 | false=>
 rw[br,ad,ζb,ζb]
 cases hg with
 | true=>rfl
 | false=>
 rw[br,ζb]
 cases decide (len c>20)with
 | true=>rfl
 | false=>
 obtain⟨e,h1,h2,T,f,o,w,s,C,ao,ae⟩:=abr hS hN hs;obtain⟨v,v1,v2,v3⟩:=CV hS hN;have h:∃y,pN t p=some (y,f)/\(bh (f==0) ((idx w 0).bind λW=>some W) (some false):aX Bool)=some y:=by
  unfold pN;rw[C.pt,ζb];simp only
  by_cases d:f=0
  .obtain⟨A,L,l,hv,ap,hV,hM,B,h5,hl,X,D,af,-⟩:=C.ok d;have S:=QL B;have aq:0<L.length:=(ζe.1 S).1;subst d;have e1:idx o 0=some (bX o 0):=mU (i:=0) a?
   have e2:idx w 0=some (bX o 0):=by
    rw[show bX o 0=bX w 0 from by unfold bX;rw[C.eq]]
    exact mU (i:=0) (by rw[<-C.eq];omega)
   rw[show ((0:Int)==0)=true from rfl,bq,bq,e1,e2];exact⟨_,rfl,rfl⟩
  rw[show (f==0)=false from beq_eq_false_iff_ne.2 d,br,br];exact⟨_,rfl,rfl⟩
 obtain⟨y,hy,ah⟩:=h;have ai:∃x g k,fS t c p=some (x,g)/\jU t c p=some k/\(if k=0 then dI.J1 c x g w s f else dI.J1 c x g w s k)=some true:=by
  have err:∀k:Int,k≠0->dI.J1 c false k w s k=some true:=λk hk=>by
   unfold dI.J1;rw[show (k==0)=false from beq_eq_false_iff_ne.2 hk,br,show (k==k)=true from by simp];rfl
  cases v with
  | false=>
   have aj:=T v1;subst aj;refine⟨false,1,1,?_,?_,?_⟩
   .unfold fS;rw[h1];rfl
   .unfold jU;rw[v2];rfl
   rw[M' (by decide)];exact err 1 (by decide)
  | true=>
  have hV:=v3 rfl;obtain⟨A,-,-,hM⟩:=hV.msgs
  by_cases Y:c.l.length=t.b?.l.length
  .have G:(len c==len t.b?)=true:=by simp[len,Y]
   have hH:fS t c p=fS.J1 c e t p:=by
    unfold fS;rw[h1,ζb,G];cases (e==1) <;> rfl
   have hF:jU t c p=bh (e==0) ((jR t c).bind λak=>bh ak ((mA t c).bind λal=>bh al ((ow t p 2).bind λam=>some am) (some 18)) (some 2)) (some e):=by
    unfold jU;rw[v2,ζb,bq,G,show (!true)=false from rfl,ζb,br,h2,ζb]
   rw[hH,hF];unfold fS.J1
   by_cases Q:e=0
   .subst Q;obtain⟨x,hx,I⟩:=AI hS v1 hV hM c;rw[show ((0:Int)==0)=true from rfl,bq,bq,hx,ζb,Oz hS v2 hV hM Y I]
    by_cases hr:x.2=0
    .rw[L' hr,show (x.2==0)=true from by simp[hr],bq,C.pt,ζb]
     simp only;obtain⟨k,k1,k2,k3⟩:=ae rfl;rw[k1,ζb]
     by_cases d:f=0
     .obtain⟨A',L,l,-,-,-,Z,B,h5,hl,X,D,af,-,-,an⟩:=C.ok d;rw[an]at k1;cases k1;subst d;obtain⟨hR,ar⟩:=I.zero.1 hr;have u:=AI hS v1 hV Z c;obtain⟨x',aa,u⟩:=u;rw[hx]at aa;cases aa;have hC:Cons t A' c.l:=u.zero.1 hr;have j:c.l∈L:=(B.mem _).2 hC;have hi:=List.idxOf_lt_length_of_mem j;have hsl:s.l.length=L.length:=by rw[<-j9,D]
      have h8:=hV.few;have e1:idx o ((L.idxOf c.l:Nat):Int)=some (bX o (L.idxOf c.l)):=mU a?
      have e2:idx w ((L.idxOf c.l:Nat):Int)=some (bX o (L.idxOf c.l)):=by
       rw[show bX o (L.idxOf c.l)=bX w (L.idxOf c.l)from by unfold bX;rw[C.eq]]
       exact mU (by rw[<-C.eq];omega)
      rw[show ((0:Int)==0)=true from rfl,bq,UN hS v1 hV Z B h5 hl X hC,ζb];simp only;rw[show ((0:Int)==0)=true from rfl,bq,e1];refine⟨_,_,_,rfl,rfl,?_⟩;rw[L' rfl];unfold dI.J1;rw[show ((0:Int)==0)=true from rfl,bq,bq,R_ a? (λz hz=>by
       rw[((B.mem _).1 (by rw[<-D];exact mF.2 ⟨z,hz,rfl⟩:z.l∈L)).1.1];omega),ζb,C8 (by show c.l∈ins s;rw[D];exact j),show (s.l.map Sl.l).idxOf c.l=L.idxOf c.l from by rw[<-D];rfl,e2,ζb,show (bX o (L.idxOf c.l)==bX o (L.idxOf c.l))=true from by simp];rfl
     rw[show (f==0)=false from beq_eq_false_iff_ne.2 d,br];refine⟨_,_,_,rfl,rfl,?_⟩
     by_cases hk:k=0
     .rw[L' hk];exact err f d
     rw[M' hk,<-k2 hk];exact err f d
    rw[M' hr,show (x.2==0)=false from beq_eq_false_iff_ne.2 hr,br];refine⟨_,_,_,rfl,rfl,?_⟩;rw[M' hr];exact err _ hr
   rw[show (e==0)=false from beq_eq_false_iff_ne.2 Q,br,br];refine⟨_,_,_,rfl,rfl,?_⟩;rw[M' Q];exact err e Q
  have G:(len c==len t.b?)=false:=by rw[_i];simp only[len];omega
  refine⟨false,1,1,?_,?_,?_⟩
  .unfold fS;rw[h1,ζb,G]
   by_cases Q:e=1
   .subst Q;rfl
   rw[show (e==1)=false from beq_eq_false_iff_ne.2 Q];rfl
  .unfold jU;rw[v2,ζb,bq,G];rfl
  rw[M' (by decide)];exact err 1 (by decide)
 obtain⟨x,g,k,hx,hk,hJ⟩:=ai;rw[br,C.pt,ζb,hx,ζb,hy,ζb,C.rt,ζb];simp only;rw[acY (by have:=C.le;omega) C.eq,ζb,bq,show (f==f)=true from by simp,show (!true)=false from rfl,ζb,br,ζb,br,ah,ζb,show (y==y)=true from by simp,show (!true)=false from rfl,ζb,br,hk,ζb]
 by_cases S:k=0
 .rw[L' S]at hJ;rw[show (k==0)=true from by simp[S],bq];exact hJ
 rw[M' S]at hJ;rw[show (k==0)=false from beq_eq_false_iff_ne.2 S,br];exact hJ
end
end Go.VE
namespace Go.VE
theorem Dv{α:Type}[cA α]{x:α}:∀{l:aY α},x∈l->cA.wt x<=(l.map cA.wt).sum
 |y::l,h=>by simp only[K?,E!];rcases mem_cons.1 h with rfl|h;omega;have:=Dv h;omega
theorem zf{α:Type}[cA α](h:∀x:α,1<=cA.wt x):∀(l:aY α),W l<=(l.map cA.wt).sum
 |[]=>x? _|y::l=>by simp only[K?,E!,W?];have:=zf h l;have:=h y;omega
theorem D0{α:Type}[cA α](s:Sl α):cA.wt s=(s.l.map cA.wt).sum+1:=rfl
theorem Eu(p:Int):∀(es:aY WF)(j:Int),W (ki p j es)=W es
 |[],_=>rfl|_::es,j=>by simp only[ki,W?,Eu p es]
theorem Mb:∀(ps:aY bT)(i:Int),W (hD i ps)<=(ps.map cA.wt).sum
 |[],_=>x? _|p::ps,i=>by simp only[hD,ζi,Eu,K?,E!];have a:=Mb ps (i+1);have u:=zf (α:=WF) (λx=>z! ..) p.c?.l;have w:cA.wt p=cA.wt p.name+cA.wt p.h?+cA.wt p.c?+1:=rfl;have z:=D0 p.c?;omega
theorem UQ{t:Z4}(h:cA.wt t<=1048576):Small t/\W (bO t)<1073741824:=by have B:cA.wt t=cA.wt t.b?+1:=rfl;have b:=D0 t.b?;have C:=zf (α:=bT) (λx=>z! ..) t.b?.l;have D:=Mb t.b?.l 0;refine⟨⟨a?,λp u=>?_⟩,by show(hD 0 t.b?.l).length<_;omega⟩;have G:=Dv u;have I:cA.wt p=cA.wt p.name+cA.wt p.h?+cA.wt p.c?+1:=rfl;have d:=D0 p.c?;have L:=D0 p.h?;have g:=zf (α:=WF) (λx=>z! ..) p.c?.l;have Q:=zf (α:=Var) (λx=>z! ..) p.h?.l;have w:cA.wt p.name=p.name.size+1:=rfl;refine⟨a?,a?,a?,λv a=>?_,λe z=>?_⟩;have k1:=Dv a;have k2:cA.wt v=cA.wt v.name+cA.wt v.init_+1:=rfl;have k3:cA.wt v.name=v.name.size+1:=rfl;omega;have k1:=Dv z;have k2:cA.wt e=cA.wt e.kind+cA.wt e.k?+cA.wt e.d?+cA.wt e.time+cA.wt e.assign+1:=rfl;have k3:=D0 e.assign;have k4:=zf (α:=Assign) (λx=>z! ..) e.assign.l;omega
theorem acW(p:T'):cA.wt p<=1048576->p.Sm:=by induction p using Pred.ind with|h p z=>intro h;have u:∃m,cA.wt p=m+Pred.WI p.l+1:=(by cases p;exact⟨_,Y⟩);have⟨m,u⟩:=u;have a:=Pred.wtE p.l;have B:=D0 p.l;have C:=zf (α:=T') (λx=>by cases x;exact z! ..) p.l.l;unfold Pred.Sm;rw[p.kM,ζh,G?];refine⟨_c a?,λq w=>z q w ?_⟩;have:=Dv w;omega
end Go.VE
namespace Go.Proofs.YtddlogilhmloeabGreatDoor
open Go.ChangeShapes Go.WideShapes Go.ChangeAt Go.RowKit Go.VE
theorem own:ownKnob Tryz.prog.godebug=J:=by kernel_rfl
theorem kids:Kids Tryz.prog (·<Tryz.prog.types.size):=kids_rows q? q?
theorem full:∀t e,t<Tryz.prog.types.size->Tryz.prog.underlying t=M (.slice e)->0<Tryz.prog.cellsOf e:=slices_full_of Tryz.prog q?
theorem A0{H:Type}:∀l:aY (DataW H),Rows.uptoBulkAll l=(l.map Rows.uptoBulk).sum
 |[]=>by simp[Rows.uptoBulkAll]|d::r=>by simp[Rows.uptoBulkAll,A0 r]
theorem Ly{H:Type}:vH (H:=H) Rows.uptoBulk where
 lit l:=by cases l<;>simp[Rows.uptoBulk]
 str s:=by simp[Rows.uptoBulk]
 nil:=by simp[Rows.uptoBulk]
 slice es u:=by rw[Rows.uptoBulk,A0,A0];omega
 agg ps:=by rw[Rows.uptoBulk,A0];exact x? _
theorem Ro:Tryz.prog.globalNamed "antecede/predtype.parts" =M 0:=by kernel_rfl
theorem Vx:(Tryz.prog.globals[0]?).map (·.type)=M 166:=by kernel_rfl
theorem table{d:World}(h:laidMetH Tryz.prog Rows.temporalTablesUptoRow.laid d):Lib.TabIs Tryz.prog d "antecede/predtype.parts" N GJ:=Lib.tabIs_of_head (rest:=[]) Ro Vx Tryz.underlying166 Tryz.underlying3 q? q? h
theorem acN{d:World}(h:laidMetH Tryz.prog Rows.temporalTablesUptoRow.laid d):xw (snap d):=λg cs a=>by
 change(if Nat.beq g 0 then M (GJ.map (V.int N))else J)=M cs at a;split at a;next u=>cases a;have:g=0:=Nat.eq_of_beq_eq_true u;subst this;exact UG (λi hi=>(table h).cell Ro i hi) (by decide)
 cases a
set_option maxRecDepth 100000 in
theorem Nt(H:Type)(enc:W'×V'->H)(W:World)(j?:Nat)(args:Array V')(ds a:aY (DataW H))(before:aY MemPlace)
 (B:∀(j:Nat)t v,Tryz.f3.params[j]?=M t->args[j]?=M v->Value.okWide Tryz.prog W .any j? t v)
 (D:DataW.Whole enc Tryz.prog Tryz.f3.params.toList Rows.temporalTablesSpec.vars O W args.toList ds a before)(b:Rows.uptoSmall H (ds++a)=U)(T:laidMetH Tryz.prog Rows.temporalTablesUptoRow.laid W):
 Calls Tryz.prog 3 args W λe G=>∃v,e=.returned v/\Rows.temporalTablesSpec.post enc Tryz.prog Tryz.f3 O U O O W args v G:=by
 have u:=D;obtain⟨p,q,z,c,rfl,S,c__⟩:=D;have I:DataW.TrodAll enc Tryz.prog W 0 (λ_=>U) U Tryz.f3.params.toList args.toList ds p:=z
 rw[Tryz.params3]at I B;obtain⟨b__,X,Y,Z,R,q0,C,rfl,rfl,d,g⟩:=trodAll_cons I;obtain⟨L,aa,h,ab,p1,q1,rfl,rfl,rfl,i,r1⟩:=trodAll_cons g;obtain⟨d__,ad,k,ae,p2,q2,rfl,rfl,rfl,l,r2⟩:=trodAll_cons r1;obtain⟨rfl,rfl,rfl⟩:=trodAll_nil r2;obtain rfl:args=#[b__,L,d__]:=by cases args;simp_all
 obtain⟨rfl,rfl⟩:=trodVars_none c;have⟨a0,m,k0,n⟩:=Reads.Pz (t:=24) (α:=VE.Trace) B 0 rfl _l d;have⟨a1,o,k1,s⟩:=Reads.Pz (t:=25) (α:=Zg) B 1 rfl _l i;have⟨a2,x,k2,y⟩:=Reads.Pz (t:=28) (α:=VE.Pred) B 2 rfl _l l;have hb:cA.wt a0+cA.wt a1+cA.wt a2<=1048576:=by have c0:=n Rows.uptoBulk Ly;have c1:=s Rows.uptoBulk Ly;have c2:=y Rows.uptoBulk Ly;have Q:Rows.uptoBulkAll ([Y,h,k]++[])<=1048576:=_d b;rw[A0]at Q;simp only[List.append_nil,K?,List.map_nil,E!,List.sum_nil]at Q;omega
 have⟨A,E⟩:=UQ (t:=a0) a?
 have F:iB cL 3 [VE.enc a0,VE.enc a1,VE.enc a2]=M [.bool U]:=by have K:_o (dI a0 a1 a2) (λr:X'=>M [V.bool r])=M [.bool U]:=(by rw[LV A E (acW a2 a?)];rfl);exact(zK a0 a1 a2).F.h () _ K
 have:=O8 (P:=Tryz.prog) QF Is calls (f:=3) (xs:=[VE.enc a0,VE.enc a1,VE.enc a2]) (by simp[V.c_,V.good,lZ]) F (w:=W) (args:=#[b__,L,d__]) (acN T) (c6.cons m (c6.cons o (c6.cons x .nil)))
 refine this.mono λe G⟨a__,e__⟩=>?_
 subst a__;exact⟨_,_l,TV kids full (by rw[Tryz.params3];decide) _l _l _l Tryz.underlying4 u e__⟩
def CJ(os:Os):World:=
 {World.holding Tryz.prog os ⟨#[],#[],[]⟩with heap:=(World.holding Tryz.prog os ⟨#[],#[],[]⟩).heap.modify 0 fun
  |.cells _ t frozen=>.cells (GJ.map (Value.int N)).toArray t frozen|o=>o}
theorem Uc(os:Os):laidMet Tryz.prog Rows.temporalTablesUptoRow.laid ((CJ os).forCall (λ_ _=>0) ⟨#[],#[.agg #[.slice J 0 0],.slice J 0 0,.agg #[.int N 0,.int N 0,.int N 0,.int N 0,.string ByteArray.empty,.slice J 0 0]],[]⟩).memory:=laidMet_of_run' 8 q? q?
theorem VB(os:Os){H:Type}(enc:W'×V'->H):∃places,DataW.whole enc Tryz.prog ((CJ os).forCall (λ_ _=>0) ⟨#[],#[.agg #[.slice J 0 0],.slice J 0 0,.agg #[.int N 0,.int N 0,.int N 0,.int N 0,.string ByteArray.empty,.slice J 0 0]],[]⟩).memory Tryz.f3.params.toList Rows.temporalTablesSpec.vars O (#[.agg #[.slice J 0 0],.slice J 0 0,.agg #[.int N 0,.int N 0,.int N 0,.int N 0,.string ByteArray.empty,.slice J 0 0]]:Array V').toList 8=M ([.agg [.nil],.nil,.agg [.lit (.int N 0),.lit (.int N 0),.lit (.int N 0),.lit (.int N 0),.lit (.string []),.nil]],[],places):=⟨[],by kernel_rfl⟩
set_option maxRecDepth 100000 in
theorem S_ (os:Os) (B:os.Started) (H:Type) (enc:TypeId×Value->H) (F:Stop.Interp) :
 ReturnsInHanded {} Tryz.checked os 3 .any ((Rows.OpenSpec.upto Rows.temporalTablesSpec).preRow enc Tryz.prog Tryz.f3 Rows.temporalTablesUptoRow.domain false Rows.temporalTablesUptoRow.laid) (((Rows.OpenSpec.upto Rows.temporalTablesSpec).at F).post enc Tryz.prog Tryz.f3 false true false false):=by
 obtain⟨places,z⟩:=VB os enc;refine returnsInHanded_of_row (C:=Tryz.checked) (s:=Rows.OpenSpec.upto Rows.temporalTablesSpec) own B q? Tryz.func3
  (witness_row_at (enc:=enc) (C:=Tryz.checked) false (CJ os) #[.agg #[.slice none 0 0],.slice none 0 0,.agg #[.int .i64 0,.int .i64 0,.int .i64 0,.int .i64 0,.string ByteArray.empty,.slice none 0 0]] rfl q? q? q?
   (OpenSpec.preRow_of_cond 8 z q? (λk hk=>by cases hk;kernel_rfl) q? (Uc os))) ?_
 intro W j? args ds gs before w D _ u _ G _ _;exact Nt H enc W j? args ds gs before w D (u _ rfl) G
theorem Za:Rows.TemporalTablesUptoSaid:=
 OpenClaim.holds_of_cond 3 Tryz.f3 Y Y Y Y Y Y Y ⟨Y,Y,Y,Y,Y⟩ Y Y Y Y Y q? Tryz.func3 q?
  (_d q?) (by unfold Func.isWrapper;first|(rw[L' (by decide+kernel)];kernel_rfl)|(rw[M' (by decide+kernel)];exact⟨Y,Y⟩))
  (λos u d enc _ F=>by rw[OpenClaim.pre_eq_preRow];exact S_ os u d enc F)
theorem UT (f:FuncId) (fn:Func) (D:Tryz.pinned.checked.prog.funcNamed "antecede/antecedelaw41.TemporalTables" = some f) (B:Tryz.pinned.checked.prog.funcs[f]? = some fn) :
 false=Tryz.pinned.checked.prog.looks []/\∀(j:Nat) t,fn.params[j]? = some t->Tryz.pinned.checked.prog.wantsStandIn t=false:=by
 obtain rfl:f=3:=Option.some.inj ((show Tryz.prog.funcNamed "antecede/antecedelaw41.TemporalTables" = some 3 by kernel_rfl).symm.trans D) |>.symm
 obtain rfl:fn=Tryz.f3:=(Option.some.inj (Tryz.func3.symm.trans B)).symm;refine⟨by kernel_rfl,λj t z=>?_⟩
 rw[Tryz.params3]at z;have C:t∈[24,25,28]:=by simpa using Array.mem_of_getElem? z
 have w:([24,25,28].all λu => !Tryz.prog.wantsStandIn u)=true:=by kernel_rfl
 exact(show Tryz.prog.wantsStandIn t=false by simpa using List.all_eq_true.1 w t C)
theorem temporalTablesProved:Rows.TemporalTablesUptoCardSaid:=Claim7.holds_tied_plain_at .later [] _ _ _ _ Za (λ_ h=>by cases h) q? (λ_ h=>by cases h) temporalTablesUpto_row_tie Y ⟨Y,Y⟩ q? Y UT q?
#print axioms temporalTablesProved
end Go.Proofs.YtddlogilhmloeabGreatDoor
