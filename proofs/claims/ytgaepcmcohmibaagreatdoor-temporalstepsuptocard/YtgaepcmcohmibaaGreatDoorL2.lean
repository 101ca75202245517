/-
 TemporalSteps says true for all arguments that together are of bulk at most 1048576, and they read behind the call as they read before: for every such argument, without a condition.
-/
import Derived.Test.YtgaepcmcohmibaaGreatDoorRows
import Derived.Test.YtgaepcmcohmibaaGreatDoorCards
import Derived.Test.YtgaepcmcohmibaaGreatDoorTie
import Derived.Deep.DeepHandedRow
import Derived.Test.YtgaepcmcohmibaaGreatDoorK1
import Derived.Test.YtgaepcmcohmibaaGreatDoorL1
set_option linter.all false
open List(all_eq_true any_eq_true getElem?_set getElem_mem map_congr_left map_cons mem_map replicate sum_cons)
open Nat(le_add_left le_refl zero_le)
open Go.IntKind(wrap)
namespace Go.VE
theorem Zi{p:Prop}(h:p:=by kernel_rfl):p:=h
section
variable{t:Zj}{A:cm 200 br}{L:aX Zx}
theorem xA(B:dY t A L){i k:Nat}(D:i<L.length)(a:k∈g_ L i):i<k/\k<L.length:=by unfold g_ at a;rw[ζd D]at a;exact Lw B (ζd D) a
theorem Rf(G:VT t)(B:dY t A L){i:Nat}(D:i<L.length):(g_ L i).length<=8:=by have u:=(B.mem _).1 (getElem_mem D);have:=G.few;unfold g_ zH;rw[ζd D];refine Nat.le_trans (List.length_filterMap_le ..) ?_;simp[u.1.1];omega
def Bk(L:aX Zx)(g:Nat->aX Zl->Zl)(o:Sl Zl):Prop:=o.l.length=L.length/\∀i,i<L.length->c6 o i=g i ((g_ L i).map (c6 o))
theorem Bk.ind(B:dY t A L){g1 g2:Nat->aX Zl->Zl}{a b:Sl Zl}(D:Bk L g1 a)(G:Bk L g2 b){R:Zl->Zl->Prop}
 (h:∀i,i<L.length->(∀k∈g_ L i,R (c6 a k) (c6 b k))->R (g1 i ((g_ L i).map (c6 a))) (g2 i ((g_ L i).map (c6 b)))):∀i,i<L.length->R (c6 a i) (c6 b i):=by
 have key:∀n i,i<L.length->L.length<=i+n->R (c6 a i) (c6 b i):=by intro n;induction n with|zero=>intro i c u;omega|succ n w=>intro i c u;rw[D.2 i c,G.2 i c];refine h i c λk d=>?_;have:=xA B c d;exact w k this.2 Za
 exactλi z=>key L.length i z Za
theorem Iw{a b:Sl Zl}(B:a.l.length=b.l.length)(h:∀i,i<a.l.length->c6 a i=c6 b i):a.l=b.l:=by refine List.ext_getElem B λi c u=>?_;have:=h i c;unfold c6 at this;rw[ζd c,ζd u]at this;exact this
theorem H7(d:VT t)(B:dY t A L)(l:L.length<=5000){x:bQ}(Y:OW L x){p:Int×Sl Zl->aY Zl}{g:Nat->aX Zl->Zl}(f:∀(i:Nat)(nx:Sl Zl),i<L.length->nx.l.length<=8->p ((i:Int),nx)=some (g i nx.l)):
 Wp (cQ x p) λo=>Bk L g o:=by
 have Q:len x.l=((L.length:Nat):Int):=by simp only[len];rw[<-ja,Y.l]
 unfold cQ;rw[Q,E9 _ Za,ζb,j9 _ Za Za]
 unfold cQ.W1;refine eT (λq:Sl Zl×Int=>∃k:Nat,k<=L.length/\q.2=(k:Int)-1/\q.1.l.length=L.length/\∀i,k<=i->i<L.length->c6 q.1 i=g i ((g_ L i).map (c6 q.1))) (λq=>(q.2+1).toNat)
  ⟨L.length,le_refl _,rfl,by simp[Sl.l],λi b G=>Za⟩ ?_
 rintro⟨o,_⟩ ⟨k,c,rfl,o1,o2⟩;simp only at o1 o2;unfold cQ.bn;dsimp only
 cases k with
 |zero=>
  rw[show decide ((((0:Nat):Int)-1)>=0)=false from by decide,bW,a_]
  exact(a_ _).2 ⟨o1,λi D=>o2 i (zero_le _) D⟩
 |succ i=>
  have D:i<L.length:=Za
  have⟨u,Z,X⟩:=Y.nx i D;have h:=Rf d B D;have S:u.l.length=(g_ L i).length:=by rw[X,List.length_map]
  rw[show(((i+1:Nat):Int)-1)=(i:Int)from Za,show decide ((i:Int)>=0)=true from Zc,bA,kj,Z,ζb]
  unfold cQ.W2;refine fB u.l.length (λm(q:Sl Zl×Int)=>q.2=(m:Int)/\q.1.l=((g_ L i).take m).map (c6 o)) ⟨rfl,by simp[Sl.l]⟩ ?_ ?_
  .rintro m ⟨w,_⟩ hm ⟨rfl,z⟩;simp only at z;have C:m<(g_ L i).length:=by omega
   have n:=xA B D (getElem_mem C);have T:idx u (m:Int)=some (((g_ L i)[m]:Nat):Int):=by rw[kj,X];simp[C]
   have U:Sl.get o (g_ L i)[m]=some (c6 o (g_ L i)[m]):=by unfold Sl.get c6;rw[ζd Za];rfl
   have⟨w',W,O⟩:=mH (s:=w) (x:=c6 o (g_ L i)[m]) (by rw[z];simp;omega)
   unfold cQ.bP;dsimp only;rw[jD hm,bA,T,ζb,om (by omega:(g_ L i)[m]<o.l.length),ζb,U,ζb,W,ζb,a_]
   refine⟨cK m Za,?_⟩
   show w'.l=_;rw[O,z,List.take_succ_eq_append_getElem C,List.map_append];rfl
  rintro⟨w,_⟩ ⟨rfl,z⟩;simp only at z;rw[S,List.take_length]at z;unfold cQ.bP;dsimp only;rw[jN,bW,a_];have⟨I,W,O⟩:=put_eq (s:=o) (p:=i) (x:=g i w.l) Za
  show Wp ((p ((i:Int),w)).bind _) _;rw[f i w D (by rw[z];simpa using h),ζb,om (by omega:i<o.l.length),ζb,W,ζb,a_]
  have J:∀k,c6 I k=if k=i then g i w.l else c6 o k:=λk=>by unfold c6;rw[O,getElem?_set];by_cases e:k=i;subst e;rw[if_pos rfl,if_pos rfl,if_pos Za];rfl;rw[if_neg (Ne.symm e),if_neg e]
  have a:∀j,i<=j->j<L.length->(g_ L j).map (c6 I)=(g_ L j).map (c6 o):=λj b G=>map_congr_left λk c=>by have:=xA B G c;rw[J,if_neg Za]
  refine⟨⟨i,Za,by show wrap .i64 ((i:Int)-1)=_;exact j9 _ Za Za,by show I.l.length=_;rw[O];simp[o1],λj b G=>?_⟩,?_⟩
  .show c6 I j=g j ((g_ L j).map (c6 I));rw[a j b G,J]
   by_cases e:j=i
   .subst e;rw[if_pos rfl,z]
   rw[if_neg e];exact o2 j Za G
  show((wrap .i64 ((i:Int)-1):Int)+1).toNat<((i:Int)+1).toNat;rw[j9 _ Za Za];omega
theorem Du{s:Sl Zl}{v:Zl}(D:s.l.length<1073741824):hU s v=some (s.l.any λb=>v==b):=by
 have key:Wp (hU s v) λb=>b=s.l.any λb=>v==b:=by unfold hU eN eN.W1;rw[eH];refine fB s.l.length (λi(q:Int)=>q=(i:Int)/\∀(j:Nat)b,j<i->s.l[j]?=some b->(v==b)=false) ⟨rfl,λj b h=>absurd h Za⟩ ?_ ?_;rintro i _ w ⟨rfl,a⟩;unfold eN.bn;rw[jD w,bA,bJ w,ζb];(cases z:(v==s.l[i])with|true=>rw[bA,a_];refine(a_ _).2 ((a_ _).2 ?_);rw[show decide ((i:Int)>=0)=true from Zc];exact(any_eq_true.2 ⟨_,getElem_mem w,z⟩).symm|false=>rw[bW,a_];refine⟨cK i Za,λj b B u=>?_⟩;by_cases e:j=i;subst e;rw[ζd w]at u;cases u;exact z;exact a j b Za u);rintro _ ⟨rfl,a⟩;unfold eN.bn;rw[jN,bW,a_];refine(a_ _).2 ((a_ _).2 ?_);rw[show decide ((-1:Int)>=0)=false from by decide];refine(List.any_eq_false.2 λb z=>?_).symm;have⟨j,B⟩:=List.mem_iff_getElem?.1 z;rw[a j b (ζe.1 B).1 B];simp
 obtain⟨b,a,rfl⟩:=key;exact a
theorem CD{s:Sl Zl}(B:s.l.length<=8):lN s=some (s.l.any id):=by unfold lN;rw[Du Za];simp only[ζb];congr 2;funext b;cases b<;>rfl
theorem all_eq{s:Sl Zl}(B:s.l.length<=8):mW s=some (!s.l.isEmpty&&s.l.all id):=by unfold mW;rw[Du Za,show decide (len s>0)= !s.l.isEmpty from by cases h:s.l<;>simp[len,h]];cases s.l.isEmpty with|true=>rfl|false=>rw[Bool.not_false,bA];simp only[ζb,Bool.true_and];congr 1;rw[Bool.eq_iff_iff];simp
def gS(kind:Int)(l:Sl Zl)(i:Nat)(nx:aX Zl):Zl:=if kind=18 then c6 l i||nx.any id else if kind=19 then c6 l i||(!nx.isEmpty&&nx.all id)else if kind=20 then c6 l i&&(nx.isEmpty||nx.any id)else c6 l i&&nx.all id
theorem NJ{kind:Int}{l:Sl Zl}{i:Nat}{nx:Sl Zl}(B:i<l.l.length)(D:nx.l.length<=8):fS (i:Int) nx kind l=some (gS kind l i nx.l):=by
 have z:(len nx==0)=nx.l.isEmpty:=by cases h:nx.l<;>simp[len,h];omega
 unfold fS gS;by_cases a:kind=18;rw[show(kind==18)=true from by simp[a],bA,if_pos a,lK B,ζb,CD D];cases c6 l i<;>rfl;rw[show(kind==18)=false from beq_eq_false_iff_ne.2 a,bW,if_neg a];by_cases u:kind=19;rw[show(kind==19)=true from by simp[u],bA,if_pos u,lK B,ζb,all_eq D];cases c6 l i<;>rfl;rw[show(kind==19)=false from beq_eq_false_iff_ne.2 u,bW,if_neg u];by_cases w:kind=20;rw[show(kind==20)=true from by simp[w],bA,if_pos w,lK B,ζb,CD D,z];cases c6 l i<;>cases nx.l.isEmpty<;>rfl;rw[show(kind==20)=false from beq_eq_false_iff_ne.2 w,bW,if_neg w,lK B,ζb,all_eq D,z];cases h:nx.l<;>cases c6 l i<;>rfl
end
end Go.VE
namespace Go.VE
theorem Sj{s:Zb}{c:Zg}(B:s.l.length<1073741824)(a:∀x∈s.l,x.l.length<1073741824):mm s c=some (place (λd:Zg=>decide (c.l=d.l)) s.l):=(qW (p:=λx=>dP x c) (f:=λd:Zg=>decide (c.l=d.l)) (λx u=>by rw[Dg (a x u)];congr 1;exact decide_eq_decide.2 eq_comm) Za (λi=>rfl):)
section
variable{t:Zj}{A:cm 200 br}
end
section
variable{t:Zj}{A:cm 200 br}{L:aX Zx}
theorem T3(B:Small t):∃b,iO t=some b:=by
 suffices h:Wp (iO t) λ_=>True by obtain⟨b,w,-⟩:=h;exact⟨b,w⟩
 have a:=B.1;have c:∀P∈t.procs.l,lM P=some (decide (len P.events>40)||decide (len P.vars>20)||P.events.l.any λx=>decide (len x.assign>20)):=λP C=>by unfold lM;rw[xd (p:=λz=>nE z) (f:=λx=>decide (len x.assign>20)) (λx _=>rfl) (B.2 _ C).1];cases decide (len P.events>40)<;>cases decide (len P.vars>20)<;>rfl
 unfold iO iO.W1;refine fB t.procs.l.length (λi(q:Int×Int)=>q.2=(i:Int)) rfl ?_ ?_;rintro i ⟨n,_⟩ u e;simp only at e;subst e;unfold iO.bn;dsimp only;rw[jD u,bA,bJ u,ζb,a_];exact cK i Za;rintro⟨n,_⟩ e;simp only at e;subst e;unfold iO.bn;dsimp only;rw[jN,bW,a_];show Wp _ _;rw[yf (p:=λz=>lM z) c a];cases decide (n>30)<;>cases(n==36)<;>cases decide (len t.procs>10)<;>exact(a_ _).2 trivial
theorem OM(J:Small t)(a:dH t=some true)(D:VT t)(O:gj t (bO t) A)(B:dY t A L)(G:L.length<=5000){r:Zb}(T:oL t=some (r,0))(b:ins r=L){kind:Int}(c:18<=kind/\kind<=21){l:Sl Zl}(U:l.l.length=L.length):
 ∃o,iI t kind l=some (o,0)/\Bk L (gS kind l) o:=by
 obtain⟨q,I,x,rfl,-,C⟩:=CZ J a D O B G T b;have⟨o,o1,o2⟩:=H7 D B G C (p:=λz=>fS z.1 z.2 kind l) (g:=gS kind l) λi nx S Q=>NJ Za Q
 have u:len x.l=((L.length:Nat):Int):=by simp only[len];rw[<-ja,C.l]
 have w:len l=((L.length:Nat):Int):=by simp only[len,U]
 refine⟨o,?_,o2⟩;unfold iI jA;rw[a,ζb,bA,decide_eq_true (show kind>=18 by omega),bA,decide_eq_true (show kind<=21 by omega),ζb,ζb,bA,I,ζb]
 simp only;rw[show((0:Int)==0)=true from rfl,bA,ζb,u,w,show(((L.length:Nat):Int)==((L.length:Nat):Int))=true from Zc,bA]
 unfold mG;rw[o1];rfl
def gU(every:Zl)(a b:Sl Zl)(i:Nat)(nx:aX Zl):Zl:=c6 b i||(c6 a i&&if every then !nx.isEmpty&&nx.all id else nx.any id)
theorem NO(O:Small t)(c:dH t=some true)(D:VT t)(T:gj t (bO t) A)(B:dY t A L)(G:L.length<=5000){r:Zb}(U:oL t=some (r,0))(d:ins r=L){a b:Sl Zl}(W:a.l.length=L.length)(Y:b.l.length=L.length)(every:Zl):
 ∃o,iW t a b every=some (o,0)/\Bk L (gU every a b) o:=by
 obtain⟨q,Q,x,rfl,-,I⟩:=CZ O c D T B G U d;have⟨o,o1,o2⟩:=H7 D B G I (p:=λz=>kz z.1 z.2 every b a) (g:=gU every a b) λi nx S J=>by unfold kz gU;cases every with|true=>rw[bA,lK Za,ζb,lK Za,ζb,all_eq J];cases c6 a i<;>cases c6 b i<;>rfl|false=>rw[bW,lK Za,ζb,lK Za,ζb,CD J];cases c6 a i<;>cases c6 b i<;>rfl
 have u:len x.l=((L.length:Nat):Int):=by simp only[len];rw[<-ja,I.l]
 have w:len a=((L.length:Nat):Int):=by simp only[len,W]
 have C:len b=((L.length:Nat):Int):=by simp only[len,Y]
 refine⟨o,?_,o2⟩;unfold iW;rw[c,ζb,bA,Q,ζb];simp only;rw[show((0:Int)==0)=true from rfl,bA,ζb,u,w,C,show(((L.length:Nat):Int)==((L.length:Nat):Int))=true from Zc,bA,ζb,show(!true)=false from rfl,bW,o1];rfl
theorem TC(J:Small t)(O:VT t)(T:gj t (bO t) A)(B:dY t A L){r:Zb}(b:ins r=L){i:Nat}(U:i<r.l.length):
 ∃nx,gE t r.l[i]=some nx/\nx.l.length<=8/\(∀y∈nx.l,y.l∈L)/\∀k:Nat,k∈g_ L i↔∃y∈nx.l,k=L.idxOf y.l:=by
 have w:L[i]?=some r.l[i].l:=by rw[<-b];exact yx U
 have Q:=(B.mem _).1 (List.mem_of_getElem? w);have⟨nx,S,W,X⟩:=Ig J O T Q;have u:∀d,d∈ins nx↔∃p,p<r.l[i].l.length/\d=bump r.l[i].l p 1/\d∈L:=λd=>by rw[X];constructor;rintro⟨p,a,G,rfl,C⟩;exact⟨p,(ζe.1 G).1,(Cu G).symm,(B.mem _).2 C⟩;rintro⟨p,I,rfl,C⟩;exact⟨p,_,ζd I,Cu (ζd I),(B.mem _).1 C⟩
 have z:g_ L i=zH L r.l[i].l:=by unfold g_;rw[w];rfl
 refine⟨nx,S,W,λy D=>((u _).1 (kV.2 ⟨y,D,rfl⟩)).choose_spec.2.2,λk=>?_⟩
 rw[z,HT];constructor
 .rintro⟨p,g1,g2,rfl⟩;have⟨y,g3,g4⟩:=kV.1 ((u _).2 ⟨p,g1,rfl,g2⟩);exact⟨y,g3,by rw[g4]⟩
 rintro⟨y,D,rfl⟩;have⟨p,g2,g3,g4⟩:=(u y.l).1 (kV.2 ⟨y,D,rfl⟩);exact⟨p,g2,by rw[<-g3];exact g4,by rw[g3]⟩
def UH(L:aX Zx)(i:Nat)(o:Zg):Prop:=o.l.length<=8/\∀k:Int,k∈o.l↔∃j∈g_ L i,k=(j:Int)
theorem ML(e:Small t)(U:VT t)(f:gj t (bO t) A)(B:dY t A L)(E:L.length<=5000){r:Zb}(b:ins r=L):
 Wp (fU t r) λn=>n.l.length=L.length/\∀i,i<L.length->∃o,n.l[i]?=some o/\UH L i o:=by
 have O:r.l.length=L.length:=by rw[<-ja,b]
 have F:=U.few;unfold fU;rw[show len r=((r.l.length:Nat):Int)from rfl,E9 _ Za,ζb]
 unfold fU.W1;refine fB r.l.length (λi(q:Zb×Int)=>q.2=(i:Int)/\q.1.l.length=L.length/\(∀j,j<i->∃o,q.1.l[j]?=some o/\UH L j o)/\∀j,i<=j->j<L.length->q.1.l[j]?=some .nil)
  ⟨rfl,by show(replicate _ _).length=_;simp[O],λj h=>absurd h Za,λj _ h=>by show(replicate r.l.length (Sl.nil:Zg))[j]?=_;rw[List.getElem?_replicate,if_pos Za]⟩ ?_ ?_
 .rintro i ⟨out,_⟩ G ⟨rfl,e1,e2,e3⟩;simp only at e1 e2 e3;have⟨nx,g,H,l,W⟩:=TC e U f B b G;unfold fU.bn;dsimp only;rw[jD G,bA,bJ G,ζb,g,ζb];unfold fU.W2;refine fB nx.l.length (λm(q:Zb×Int)=>q.2=(m:Int)/\∃w,q.1.l=out.l.set i w/\w.whole=some w/\w.l.length=m/\∀k:Int,k∈w.l↔∃j,j<m/\∃y,nx.l[j]?=some y/\k=(L.idxOf y.l:Int))
   ⟨rfl,.nil,by
    have⟨c,Q⟩:=ζe.1 (e3 i (le_refl _) Za)
    rw[<-Q];exact(List.set_getElem_self c).symm,rfl,rfl,λk=>⟨λh=>(by simp[Sl.l]at h),λ⟨j,C,_⟩=>absurd C Za⟩⟩ ?_ ?_
  .rintro m ⟨o,_⟩ D ⟨rfl,w,z,X,Y,S⟩;simp only at z;have T:nx.l[m].l∈L:=l _ (getElem_mem D);have⟨w',I,Z⟩:=mH (s:=w) (x:=(L.idxOf nx.l[m].l:Int)) Za
   have d:w'.whole=some w':=by unfold eW at I;split at I<;>cases I;rfl
   unfold fU.bP;dsimp only;rw[jD D,bA,kj,z,List.getElem?_set_self Za,ζb,X,ζb,bJ D,ζb,Sj Za (λx p=>by
    rw[((B.mem _).1 (by rw[<-b];exact kV.2 ⟨x,p,rfl⟩:x.l∈L)).1.1];omega),ζb,LZ (by show nx.l[m].l∈ins r;rw[b];exact T),show(r.l.map Sl.l).idxOf nx.l[m].l=L.idxOf nx.l[m].l from by rw[<-b];rfl,I,ζb,d,ζb,a_]
   refine⟨cK m Za,w',?_,d,by rw[Z];simp[Y],λk=>?_⟩
   .show (lU o (i:Int) w').l=_;rw[(CJ _ _ _).1,z,Int.toNat_natCast,List.set_set]
   rw[Z,List.mem_append,List.mem_singleton,S];constructor
   .rintro (⟨j,g1,g2⟩|rfl)
    .exact⟨j,Za,g2⟩
    exact⟨m,Za,_,ζd D,rfl⟩
   rintro⟨j,g1,y,g2,g3⟩
   by_cases J:j=m
   .subst J;rw[ζd D]at g2;cases g2;exact .inr g3
   exact .inl ⟨j,Za,y,g2,g3⟩
  rintro⟨o,_⟩ ⟨rfl,w,z,X,Y,S⟩;simp only at z;unfold fU.bP;dsimp only;rw[jN,bW,a_];refine(a_ _).2 ⟨cK i Za,by show o.l.length=_;rw[z];simpa using e1,λj C=>?_,λj c Q=>?_⟩
  .show ∃u,o.l[j]?=some u/\_;rw[z]
   by_cases J:j=i
   .subst J;refine⟨w,List.getElem?_set_self Za,Za,λk=>?_⟩
    rw[S];constructor
    .rintro⟨j,-,y,g2,rfl⟩;exact⟨_,(W _).2 ⟨y,List.mem_of_getElem? g2,rfl⟩,rfl⟩
    rintro⟨a,v,rfl⟩;obtain⟨y,T,rfl⟩:=(W a).1 v;have⟨j,C⟩:=List.mem_iff_getElem?.1 T;exact⟨j,(ζe.1 C).1,y,C,rfl⟩
   rw[List.getElem?_set_ne (Ne.symm J)];exact e2 j Za
  show o.l[j]?=_;rw[z,List.getElem?_set_ne Za];exact e3 j Za Q
 rintro⟨out,_⟩ ⟨rfl,e1,e2,e3⟩;simp only at e1 e2 e3;unfold fU.bn;dsimp only;rw[jN,bW,a_];exact(a_ _).2 ⟨e1,λi G=>e2 i Za⟩
theorem D6(M:Small t)(N:VT t)(P:gj t (bO t) A)(B:dY t A L)(R:L.length<=5000){r:Zb}(H:ins r=L){a b:Sl Zl}(ha:a.l.length=L.length)(v:b.l.length=L.length)(every:Zl):
 Wp (d_ t r a b every) λo=>Bk L (gU every a b) o:=by
 have G:r.l.length=L.length:=by rw[<-ja,H]
 have⟨n,V,n2,n3⟩:=ML M N P B R H;unfold d_;rw[V,ζb,show len r=((r.l.length:Nat):Int)from rfl,E9 _ Za,ζb,j9 _ Za Za]
 unfold d_.W1;refine eT (λq:Sl Zl×Int=>∃k:Nat,k<=L.length/\q.2=(k:Int)-1/\q.1.l.length=L.length/\∀i,k<=i->i<L.length->c6 q.1 i=gU every a b i ((g_ L i).map (c6 q.1))) (λq=>(q.2+1).toNat)
  ⟨L.length,le_refl _,by rw[G],by show(replicate _ _).length=_;simp[G],λi F I=>Za⟩ ?_
 rintro⟨o,_⟩ ⟨k,f,rfl,o1,o2⟩;simp only at o1 o2;unfold d_.bn;dsimp only
 cases k with
 |zero=>
  rw[show decide ((((0:Nat):Int)-1)>=0)=false from by decide,bW,a_]
  exact(a_ _).2 ⟨o1,λi E=>o2 i (zero_le _) E⟩
 |succ i=>
  have E:i<L.length:=Za
  have⟨u,u1,u2,z⟩:=n3 i E;have C:idx n (i:Int)=some u:=by rw[kj];exact u1
  rw[show(((i+1:Nat):Int)-1)=(i:Int)from Za,show decide ((i:Int)>=0)=true from Zc,bA,C,ζb]
  have J:len u=((u.l.length:Nat):Int):=rfl;unfold d_.W2;refine fB u.l.length (λm(q:Zl×Zl×Int)=>q.2.2=(m:Int)/\q.1=((u.l.take m).any λx=>c6 o x.toNat)/\q.2.1=(!u.l.isEmpty&&(u.l.take m).all λx=>c6 o x.toNat)) ⟨rfl,Zc,by
   simp only[List.take_zero,List.all_nil,Bool.and_true];cases h:u.l<;>simp[len,h]⟩ ?_ ?_
  .rintro m ⟨c,d,_⟩ hm ⟨rfl,D,g⟩;simp only at D g;have⟨y,hy,O⟩:=(z u.l[m]).1 (getElem_mem hm);have ab:=xA B E hy;have aa:(Sl.iB o u.l[m]).bind (λx=>(Sl.get o x).bind λx=>some x)=some (c6 o y):=by
    rw[O,om (by omega:y<o.l.length),ζb]
    unfold Sl.get c6;rw[ζd Za];rfl
   have ht:c6 o u.l[m].toNat=c6 o y:=by rw[O];rfl
   unfold d_.bP;dsimp only;rw[C];simp only[ζb];rw[J,jD hm,bA,bJ hm];simp only[ζb];rw[aa];refine⟨.n (c||c6 o y,d&&c6 o y,wrap .i64 ((m:Int)+1)),?_,cK m Za,?_⟩
   .cases c<;>cases d<;>rfl
   simp only;rw[List.take_succ_eq_append_getElem hm,List.any_append,List.all_append,D,g,<-ht];simp[Bool.and_assoc]
  rintro⟨c,d,_⟩ ⟨rfl,D,g⟩;simp only at D g;rw[List.take_length]at D g;have c2:c=((g_ L i).map (c6 o)).any id:=by rw[D,Bool.eq_iff_iff,any_eq_true,any_eq_true];constructor;rintro⟨k,f,h⟩;obtain⟨j,w,rfl⟩:=(z k).1 f;exact⟨_,mem_map.2 ⟨j,w,rfl⟩,by simpa using h⟩;rintro⟨b,v,h⟩;obtain⟨j,w,rfl⟩:=mem_map.1 v;exact⟨j,(z _).2 ⟨j,w,rfl⟩,by simpa using h⟩
  have em:u.l.isEmpty=((g_ L i).map (c6 o)).isEmpty:=by rw[List.isEmpty_map,Bool.eq_iff_iff,List.isEmpty_iff,List.isEmpty_iff];constructor;intro h;refine List.eq_nil_iff_forall_not_mem.2 λj w=>?_;have:=(z _).2 ⟨j,w,rfl⟩;rw[h]at this;cases this;intro h;refine List.eq_nil_iff_forall_not_mem.2 λj w=>?_;obtain⟨j,w,-⟩:=(z _).1 w;rw[h]at w;cases w
  have d2:d=(!((g_ L i).map (c6 o)).isEmpty&&((g_ L i).map (c6 o)).all id):=by rw[g,em];congr 1;rw[Bool.eq_iff_iff,all_eq_true,all_eq_true];constructor;intro h b v;obtain⟨j,w,rfl⟩:=mem_map.1 v;have:=h j ((z _).2 ⟨j,w,rfl⟩);simpa using this;intro h k f;obtain⟨j,w,rfl⟩:=(z k).1 f;have:=h _ (mem_map.2 ⟨j,w,rfl⟩);simpa using this
  unfold d_.bP;dsimp only;rw[C,ζb,J,jN,bW,a_];have⟨Q,j1,K⟩:=put_eq (s:=o) (p:=i) (x:=gU every a b i ((g_ L i).map (c6 o))) Za
  have S:∀{γ:Type}(k:Zl->aY γ),((bl (c6 b i) (some true) ((some (c6 a i)).bind λT=>(bl T ((bl every (some d) (some false):aY Zl).bind λU=>(bl U (some true) ((bl every (some false) (some c):aY Zl).bind λW=>some W):aY Zl).bind λX=>some X) (some false):aY Zl).bind λY=>some Y):aY Zl).bind k)=k (gU every a b i ((g_ L i).map (c6 o))):=λk=>by unfold gU;rw[<-c2,<-d2];cases every<;>cases c6 b i<;>cases c6 a i<;>cases c<;>cases d<;>rfl
  show Wp ((idx b (i:Int)).bind _) _;rw[lK Za,ζb,lK Za,S,om (by omega:i<o.l.length),ζb,j1,ζb,a_]
  have Z:∀k,c6 Q k=if k=i then gU every a b i ((g_ L i).map (c6 o))else c6 o k:=λk=>by unfold c6;rw[K,getElem?_set];by_cases e:k=i;subst e;rw[if_pos rfl,if_pos rfl,if_pos Za];rfl;rw[if_neg (Ne.symm e),if_neg e]
  have l:∀j,i<=j->j<L.length->(g_ L j).map (c6 Q)=(g_ L j).map (c6 o):=λj F I=>map_congr_left λk f=>by have:=xA B I f;rw[Z,if_neg Za]
  refine⟨⟨i,Za,by show wrap .i64 ((i:Int)-1)=_;exact j9 _ Za Za,by show Q.l.length=_;rw[K];simp[o1],λj F I=>?_⟩,?_⟩
  .show c6 Q j=gU every a b j ((g_ L j).map (c6 Q));rw[l j F I,Z]
   by_cases e:j=i
   .subst e;rw[if_pos rfl]
   rw[if_neg e];exact o2 j Za I
  show((wrap .i64 ((i:Int)-1):Int)+1).toNat<((i:Int)+1).toNat;rw[j9 _ Za Za];omega
theorem Bk.one(B:dY t A L){g:Nat->aX Zl->Zl}{a b:Sl Zl}(D:Bk L g a)(G:Bk L g b):a.l=b.l:=Iw (by rw[D.1,G.1]) λi w=>D.ind B G (R:=λu v=>u=v) (λi _ h=>by rw[map_congr_left h]) i (by rw[<-D.1];exact w)
theorem Tz{x:Sl Zl}(D:x.l.length<=1073741824):Wp (hG x) λo=>o.l.length=x.l.length/\∀i,i<x.l.length->c6 o i= !c6 x i:=by have u:len x=((x.l.length:Nat):Int):=rfl;unfold hG;rw[u,E9 _ Za,ζb];unfold hG.W1;refine fB x.l.length (λi(q:Sl Zl×Int)=>q.2=(i:Int)/\q.1.l.length=x.l.length/\∀j,j<i->c6 q.1 j= !c6 x j) ⟨rfl,by simp[Sl.l],λj h=>absurd h Za⟩ ?_ ?_;rintro i ⟨n,_⟩ w ⟨rfl,e1,e3⟩;simp only at e1 e3;have⟨z,C,B⟩:=put_eq (s:=n) (p:=i) (x:= !c6 x i) Za;unfold hG.bn;dsimp only;rw[u,jD w,bA,lK w,ζb,om (by omega:i<n.l.length),ζb,C,ζb,a_];refine⟨cK i Za,by show z.l.length=_;rw[B];simp[e1],λj G=>?_⟩;show c6 z j=_;unfold c6;rw[B,getElem?_set];by_cases e:j=i;subst e;rw[if_pos rfl,if_pos Za];rfl;rw[if_neg (Ne.symm e)];exact e3 j Za;rintro⟨n,_⟩ ⟨rfl,e1,e3⟩;simp only at e1 e3;unfold hG.bn;dsimp only;rw[u,jN,bW,a_];exact(a_ _).2 ⟨e1,e3⟩
theorem Nf(d:Small t)(f:VT t)(m:gj t (bO t) A)(D:dY t A L)(E:L.length<=5000){r:Zb}(F:ins r=L){kind:Int}(hk:18<=kind/\kind<=21){l e:Sl Zl}(Y:l.l.length=L.length)(T:Bk L (gS kind l) e):
 Wp (eE t r kind l) λo=>o.l=e.l:=by
 have C:len l=((l.l.length:Nat):Int):=rfl;unfold eE;rw[C,E9 _ Za,ζb]
 unfold eE.W1;refine fB l.l.length (λi(q:Sl Zl×Int)=>q.2=(i:Int)/\q.1.l.length=l.l.length/\∀j,j<i->c6 q.1 j=true) ⟨rfl,by simp[Sl.l],λj h=>absurd h Za⟩ ?_ ?_
 .rintro i ⟨n,_⟩ B ⟨rfl,e1,e3⟩;simp only at e1 e3;have⟨J,S,O⟩:=put_eq (s:=n) (p:=i) (x:=true) Za
  unfold eE.bn;dsimp only;rw[C,jD B,bA,om (by omega:i<n.l.length),ζb,S,ζb,a_]
  refine⟨cK i Za,by show J.l.length=_;rw[O];simp[e1],λj H=>?_⟩
  show c6 J j=_;unfold c6;rw[O,getElem?_set]
  by_cases e:j=i
  .subst e;rw[if_pos rfl,if_pos Za];rfl
  rw[if_neg (Ne.symm e)];exact e3 j Za
 rintro⟨y,_⟩ ⟨rfl,K,Q⟩;simp only at K Q;unfold eE.bn;dsimp only;rw[C,jN,bW,a_];show Wp ((jT ((l.l.length:Nat):Int) false).bind _) _;rw[E9 _ Za,ζb]
 unfold eE.W2;refine fB l.l.length (λi(q:Sl Zl×Int)=>q.2=(i:Int)/\q.1.l.length=l.l.length/\∀j,j<i->c6 q.1 j= !c6 l j) ⟨rfl,by simp[Sl.l],λj h=>absurd h Za⟩ ?_ ?_
 .rintro i ⟨n,_⟩ B ⟨rfl,e1,e3⟩;simp only at e1 e3;have⟨J,S,O⟩:=put_eq (s:=n) (p:=i) (x:= !c6 l i) Za
  unfold eE.bP;dsimp only;rw[C,jD B,bA,lK B,ζb,om (by omega:i<n.l.length),ζb,S,ζb,a_]
  refine⟨cK i Za,by show J.l.length=_;rw[O];simp[e1],λj H=>?_⟩
  show c6 J j=_;unfold c6;rw[O,getElem?_set]
  by_cases e:j=i
  .subst e;rw[if_pos rfl,if_pos Za];rfl
  rw[if_neg (Ne.symm e)];exact e3 j Za
 rintro⟨n,_⟩ ⟨rfl,M,U⟩;simp only at M U;unfold eE.bP;dsimp only;rw[C,jN,bW,a_];have un:=λ{z:Sl Zl}(N:z.l.length=L.length)every=>D6 d f m D E F (a:=y) (b:=z) Za N every
 have fin:∀{o:Sl Zl}{g:Nat->aX Zl->Zl},Bk L g o->(∀i,i<L.length->(∀k∈g_ L i,c6 e k= !c6 o k)->gS kind l i ((g_ L i).map (c6 e))= !g i ((g_ L i).map (c6 o)))->Wp ((hG o).bind λx=>some x) λo=>o.l=e.l:=λ{o g}I h=>by have⟨z,P,V,z3⟩:=Tz (x:=o) (by rw[I.1];omega);rw[P,ζb,a_];have:=T.ind D I (R:=λu v=>u= !v) h;exact Iw (by rw[V,I.1,T.1]) λi B=>by rw[z3 i Za,this i (by rw[<-I.1];omega)]
 have G:∀{o:Sl Zl}{g:Nat->aX Zl->Zl},Bk L g o->(∀i,i<L.length->g i ((g_ L i).map (c6 o))=gS kind l i ((g_ L i).map (c6 o)))->o.l=e.l:=λ{o g}I h=>Bk.one D ⟨I.1,λi B=>by rw[I.2 i B,h i B]⟩ T
 show Wp (bl _ _ _) _
 by_cases c:kind=18
 .subst c;have⟨o,o1,o2⟩:=un Y false;rw[show((18:Int)==18)=true from rfl,bA,o1,ζb,a_];exact G o2 λi B=>by simp[gU,gS,Q i Za]
 rw[show(kind==18)=false from beq_eq_false_iff_ne.2 c,bW]
 by_cases W:kind=19
 .subst W;have⟨o,o1,o2⟩:=un Y true;rw[show((19:Int)==19)=true from rfl,bA,o1,ζb,a_];exact G o2 λi B=>by simp[gU,gS,Q i Za]
 rw[show(kind==19)=false from beq_eq_false_iff_ne.2 W,bW];have Z:n.l.length=L.length:=Za
 by_cases X:kind=20
 .subst X;have⟨o,o1,o2⟩:=un Z true;rw[show((20:Int)==20)=true from rfl,bA,o1,ζb];refine fin o2 λi B h=>?_
  rw[map_congr_left h];simp only[gU,gS,Q i Za,U i Za]
  generalize g_ L i=w;rw[Bool.eq_iff_iff];simp
 rw[show(kind==20)=false from beq_eq_false_iff_ne.2 X,bW];have⟨o,o1,o2⟩:=un Z false;rw[o1,ζb];refine fin o2 λi B h=>?_
 rw[map_congr_left h];simp only[gU,gS,Q i Za,U i Za,if_neg c,if_neg W,if_neg X]
 generalize g_ L i=w;rw[Bool.eq_iff_iff];simp
theorem OV{a b:Sl Zl}(B:a.l.length<=1073741824)(h:a.l=b.l):eo a b=some true:=by unfold eo;rw[show(len a==len b)=true from by simp[len,h],bA];refine Wp.eq ?_;unfold eo.W1;refine fB a.l.length (λn s=>s=(n:Int)) rfl ?_ ?_;rintro i _ u rfl;unfold eo.bn;rw[jD u,bA,bJ u,ζb,show idx b (i:Int)=some a.l[i]from by rw[kj,<-h];exact ζd u,ζb,show(a.l[i]==a.l[i])=true from Zc,bA,a_,cK i Za];rintro _ rfl;unfold eo.bn;rw[jN,bW,a_];exact(a_ _).2 rfl
def yD(x y:aY (Sl Zl×Int)):Prop:=∃a b e,x=some (a,e)/\y=some (b,e)/\a.l.length<=5000/\a.l=b.l
theorem yD.nil(e:Int):yD (some (.nil,e)) (some (.nil,e)):=⟨_,_,_,rfl,rfl,zero_le _,rfl⟩
theorem KO(D:Small t)(k:(bO t).length<1073741824){kind:Int}{a b:Sl Zl}{every:Zl}:
 yD (iI t kind a) (kO t kind a)/\yD (iW t a b every) (jK t a b every):=by
 have⟨v,C,G,v3⟩:=Mn D k
 cases v with
 |false=>unfold iI kO iW jK;rw[C,G,ζb,ζb,bW,bW];exact⟨yD.nil _,yD.nil _⟩|true=>
 have I:=v3 rfl;obtain⟨A,-,-,O⟩:=I.msgs;have T:oL t=(oG t).bind λx=>some (x.1,x.2):=rfl
 rcases IJ D C I O with⟨L,r,s,w,J,X,Q,d,Y⟩|⟨X,Q⟩
 .have Z:oL t=some (r,0):=by rw[T,X];rfl
  have c:len s=((L.length:Nat):Int):=by simp only[len];rw[<-ja,Y]
  obtain⟨q,i,x,rfl,-,l⟩:=CZ D C I O w J Z d;have U:len x.l=((L.length:Nat):Int):=by simp only[len];rw[<-ja,l.l]
  have S:(len a==((L.length:Nat):Int))=decide (a.l.length=L.length):=by simp only[len];rw[Bool.eq_iff_iff,beq_iff_eq,decide_eq_true_eq];omega
  have e:(len b==((L.length:Nat):Int))=decide (b.l.length=L.length):=by simp only[len];rw[Bool.eq_iff_iff,beq_iff_eq,decide_eq_true_eq];omega
  constructor
  .by_cases hk:18<=kind/\kind<=21
   .by_cases W:a.l.length=L.length
    .have⟨o,o1,o2⟩:=OM D C I O w J Z d hk W;have⟨u,f,g⟩:=Nf D I O w J Y hk W o2;rw[o1];unfold kO qG;rw[G,ζb,bA,decide_eq_true (show kind>=18 by omega),bA,decide_eq_true (show kind<=21 by omega),ζb,ζb,bA,Q,ζb,bA,c,S,decide_eq_true W,bA,f]
     exact⟨_,_,_,rfl,rfl,by rw[o2.1];exact J,g.symm⟩
    unfold iI jA kO qG;rw[C,G,ζb,ζb,bA,bA,decide_eq_true (show kind>=18 by omega),bA,decide_eq_true (show kind<=21 by omega),ζb,ζb,bA,Q,ζb,ζb,bA,bA,c,S,decide_eq_false W,i,ζb]
    simp only;rw[show((0:Int)==0)=true from rfl,bA,ζb,U,S,decide_eq_false W];exact yD.nil _
   have m:((bl (decide (kind>=18)) (some (decide (kind<=21))) (some false):aY Zl).bind λn=>some n)=some false:=by by_cases h:kind>=18;rw[decide_eq_true h,bA,decide_eq_false (show¬kind<=21 by omega)];rfl;rw[decide_eq_false h,bW];rfl
   unfold iI jA kO qG;rw[C,G,ζb,ζb,bA,bA,m];exact yD.nil _
  by_cases B:a.l.length=L.length/\b.l.length=L.length
  .have⟨o,o1,o2⟩:=NO D C I O w J Z d B.1 B.2 every;have⟨u,f,g⟩:=D6 D I O w J Y B.1 B.2 every;rw[o1];unfold jK;rw[G,ζb,bA,Q,ζb,bA,c,S,e,decide_eq_true B.1,decide_eq_true B.2,bA,ζb,show(!true)=false from rfl,bW,f];exact⟨_,_,_,rfl,rfl,by rw[o2.1];exact J,Bk.one w o2 g⟩
  have j:(bl (decide (a.l.length=L.length)) (some (!decide (b.l.length=L.length))) (some true):aY Zl)=some true:=by by_cases h:a.l.length=L.length;rw[decide_eq_true h,bA,decide_eq_false λp=>B ⟨h,p⟩];rfl;rw[decide_eq_false h,bW]
  unfold iW jK;rw[C,G,ζb,ζb,bA,bA,Q,ζb,bA,c,S,e,j,ζb,bA,i,ζb];simp only;rw[show((0:Int)==0)=true from rfl,bA,ζb,U,S,e,j,ζb,bA];exact yD.nil _
 have y:cW t=some (none,16):=by unfold cW;rw[T,X];rfl
 unfold iI kO iW jK;rw[C,G,ζb,ζb,ζb,ζb,bA,bA,bA,bA,y,Q];refine⟨?_,yD.nil _⟩;unfold jA qG;obtain⟨z,E⟩:∃z,(bl (decide (kind>=18)) (some (decide (kind<=21))) (some false):aY Zl)=some z:=by cases decide (kind>=18)<;>exact⟨_,rfl⟩
 rw[E];cases z<;>exact yD.nil _
theorem LR(B:Small t)(D:(bO t).length<1073741824){kind:Int}{a b:Sl Zl}{all:Zl}:kK t kind a b all=some true:=by
 have⟨C,z⟩:=T3 B;unfold kK;rw[show uI=some true from rfl,ζb,bA,z,ζb];cases C with|true=>rfl|false=>
 rw[bW,ζb];cases decide (len a>5001)with|true=>rfl|false=>
 rw[bW,ζb];cases decide (len b>5001)with|true=>rfl|false=>
 have⟨⟨p,q,e,p1,p2,p3,p4⟩,u,w,f,G,I,L,J⟩:=KO B D (kind:=kind) (a:=a) (b:=b) (every:=all);rw[bW,p1,ζb,p2,ζb,G,ζb,I,ζb,OV Za p4,ζb,bA,show((e:Int)==e)=true from Zc,ζb,bA,OV Za J,ζb,ζb,bA,show((f:Int)==f)=true from Zc];rfl
end
end Go.VE
namespace Go.VE
theorem A_{α:Type}[ck α]{x:α}:∀{l:aX α},x∈l->ck.wt x<=(l.map ck.wt).sum
 |y::l,h=>by simp only[map_cons,sum_cons];rcases List.mem_cons.1 h with rfl|h;omega;have:=A_ h;omega
theorem vK{α:Type}[ck α](h:∀x:α,1<=ck.wt x):∀(l:aX α),l.length<=(l.map ck.wt).sum
 |[]=>le_refl _|y::l=>by simp only[map_cons,sum_cons,List.length_cons];have:=vK h l;have:=h y;omega
theorem Bg{α:Type}[ck α](s:Sl α):ck.wt s=(s.l.map ck.wt).sum+1:=rfl
theorem zP(p:Int):∀(es:aX Zn)(j:Int),(hD p j es).length=es.length
 |[],_=>rfl|_::es,j=>by simp only[hD,List.length_cons,zP p es]
theorem Fs:∀(ps:aX cn)(i:Int),(eY i ps).length<=(ps.map ck.wt).sum
 |[],_=>le_refl _|p::ps,i=>by simp only[eY,ζi,zP,map_cons,sum_cons];have a:=Fs ps (i+1);have u:=vK (α:=Zn) (λx=>le_add_left ..) p.events.l;have w:ck.wt p=ck.wt p.name+ck.wt p.vars+ck.wt p.events+1:=rfl;have z:=Bg p.events;omega
theorem MS{t:Zj}(h:ck.wt t<=1048576):Small t/\(bO t).length<1073741824:=by have B:ck.wt t=ck.wt t.procs+1:=rfl;have b:=Bg t.procs;have C:=vK (α:=cn) (λx=>le_add_left ..) t.procs.l;have D:=Fs t.procs.l 0;refine⟨⟨Za,λp u=>?_⟩,by show(eY 0 t.procs.l).length<_;omega⟩;have G:=A_ u;have I:ck.wt p=ck.wt p.name+ck.wt p.vars+ck.wt p.events+1:=rfl;have J:=Bg p.events;have L:=Bg p.vars;have O:=vK (α:=Zn) (λx=>le_add_left ..) p.events.l;have Q:=vK (α:=Var) (λx=>le_add_left ..) p.vars.l;have w:ck.wt p.name=p.name.size+1:=rfl;refine⟨Za,Za,Za,λv a=>?_,λe z=>?_⟩;have k1:=A_ a;have k2:ck.wt v=ck.wt v.name+ck.wt v.init_+1:=rfl;have k3:ck.wt v.name=v.name.size+1:=rfl;omega;have k1:=A_ z;have k2:ck.wt e=ck.wt e.kind+ck.wt e.peer+ck.wt e.message+ck.wt e.time+ck.wt e.assign+1:=rfl;have k3:=Bg e.assign;have k4:=vK (α:=Assign) (λx=>le_add_left ..) e.assign.l;omega
end Go.VE
namespace Go.Proofs.YtgaepcmcohmibaaGreatDoor
open Go.ChangeShapes Go.WideShapes Go.ChangeAt Go.RowKit Go.VE
theorem own:ownKnob Tryz.prog.godebug=none:=by kernel_rfl
theorem kids:Kids Tryz.prog (·<Tryz.prog.types.size):=kids_rows Zi Zi
theorem full:∀t e,t<Tryz.prog.types.size->Tryz.prog.underlying t=some (.slice e)->0<Tryz.prog.cellsOf e:=slices_full_of Tryz.prog Zi
theorem vS{H:Type}:∀l:aX (DataW H),Rows.uptoBulkAll l=(l.map Rows.uptoBulk).sum
 |[]=>by simp[Rows.uptoBulkAll]|d::r=>by simp[Rows.uptoBulkAll,vS r]
theorem yC{H:Type}:q9 (H:=H) Rows.uptoBulk where
 lit l:=by cases l<;>simp[Rows.uptoBulk]
 str s:=by simp[Rows.uptoBulk]
 nil:=by simp[Rows.uptoBulk]
 slice es u:=by rw[Rows.uptoBulk,vS,vS];omega
 agg ps:=by rw[Rows.uptoBulk,vS];exact le_refl _
theorem Kw:Tryz.prog.globalNamed "antecede/predtype.parts" =some 0:=by kernel_rfl
theorem NS:(Tryz.prog.globals[0]?).map (·.type)=some 185:=by kernel_rfl
theorem table{W:World}(h:laidMetH Tryz.prog Rows.temporalStepsUptoRow.laid W):Lib.TabIs Tryz.prog W "antecede/predtype.parts" .i64 Et:=Lib.tabIs_of_head (rest:=[]) Kw NS Tryz.underlying185 Tryz.underlying3 Zi Zi h
theorem Uc{W:World}(h:laidMetH Tryz.prog Rows.temporalStepsUptoRow.laid W):s7 (snap W):=λg u a=>by
 change(if Nat.beq g 0 then some (Et.map (V.int .i64))else none)=some u at a;split at a;next w=>cases a;have:g=0:=Nat.eq_of_beq_eq_true w;subst this;exact Nr (λi z=>(table h).cell Kw i z) (by decide)
 cases a
set_option maxRecDepth 100000 in
theorem G4(H:Type)(enc:Zm×Zp->H)(W:World)(base:Nat)(args:Array Zp)(ds a:aX (DataW H))(before:aX MemPlace)
 (B:∀(j:Nat)t v,Tryz.f3.params[j]?=some t->args[j]?=some v->Value.okWide Tryz.prog W .any base t v)
 (J:DataW.Whole enc Tryz.prog Tryz.f3.params.toList Rows.temporalStepsSpec.vars false W args.toList ds a before)(b:Rows.uptoSmall H (ds++a)=true)(Y:laidMetH Tryz.prog Rows.temporalStepsUptoRow.laid W):
 Calls Tryz.prog 3 args W λe O=>∃v,e=.returned v/\Rows.temporalStepsSpec.post enc Tryz.prog Tryz.f3 false true false false W args v O:=by
 have C:=J;obtain⟨p,q,D,Z,rfl,aa,ab⟩:=J;have I:DataW.TrodAll enc Tryz.prog W 0 (λ_=>true) true Tryz.f3.params.toList args.toList ds p:=D
 rw[Tryz.params3]at I B;obtain⟨L,ad,c,ae,p0,q0,G,rfl,rfl,d,g⟩:=trodAll_cons I;obtain⟨Q,af,h,ah,p1,q1,rfl,rfl,rfl,i,r1⟩:=trodAll_cons g;obtain⟨S,ai,k,aj,p2,q2,rfl,rfl,rfl,l,r2⟩:=trodAll_cons r1;obtain⟨T,ak,m,al,p3,q3,rfl,rfl,rfl,n,r3⟩:=trodAll_cons r2;obtain⟨U,am,o,an,p4,q4,rfl,rfl,rfl,s,r4⟩:=trodAll_cons r3;obtain⟨rfl,rfl,rfl⟩:=trodAll_nil r4;obtain rfl:args=#[L,Q,S,T,U]:=by cases args;simp_all
 obtain⟨rfl,rfl⟩:=trodVars_none Z;have⟨a0,x,k0,y⟩:=Reads.B2 (t:=24) (α:=VE.Trace) B 0 rfl rfl d;have⟨a1,A,k1,E⟩:=Reads.B2 (t:=3) (α:=Int) B 1 rfl rfl i;have⟨a2,F,k2,K⟩:=Reads.B2 (t:=25) (α:=Sl Zl) B 2 rfl rfl l;have⟨u,M,k3,N⟩:=Reads.B2 (t:=25) (α:=Sl Zl) B 3 rfl rfl n;have⟨z,R,k4,b4⟩:=Reads.B2 (t:=4) (α:=Zl) B 4 rfl rfl s;have hb:ck.wt a0+ck.wt a1+ck.wt a2+ck.wt u+ck.wt z<=1048576:=by have c0:=y Rows.uptoBulk yC;have c1:=E Rows.uptoBulk yC;have c2:=K Rows.uptoBulk yC;have c3:=N Rows.uptoBulk yC;have c4:=b4 Rows.uptoBulk yC;have X:Rows.uptoBulkAll ([c,h,k,m,o]++[])<=1048576:=of_decide_eq_true b;rw[vS]at X;simp only[List.append_nil,map_cons,List.map_nil,sum_cons,List.sum_nil]at X;omega
 have⟨hS,hN⟩:=MS (t:=a0) Za
 have hc:mA cL 3 [VE.enc a0,VE.enc a1,VE.enc a2,VE.enc u,VE.enc z]=some [.bool true]:=by have hl:(kK a0 a1 a2 u z).bind (λr:Zl=>some [V.bool r])=some [.bool true]:=(by rw[LR hS hN];rfl);exact(vn a0 a1 a2 u z).F.h () _ hl
 have:=JD (P:=Tryz.prog) IK Ct calls (f:=3) (xs:=[VE.enc a0,VE.enc a1,VE.enc a2,VE.enc u,VE.enc z]) (by simp[V.cB,V.good,kf]) hc (w:=W) (args:=#[L,Q,S,T,U]) (Uc Y) (cr.cons x (cr.cons A (cr.cons F (cr.cons M (cr.cons R .nil)))))
 refine this.mono λe O⟨he,hg⟩=>?_
 subst he;exact⟨_,rfl,KZ kids full (by rw[Tryz.params3];decide) rfl rfl rfl Tryz.underlying4 C hg⟩
noncomputable def x_(os:Os):World:=
 {World.holding Tryz.prog os ⟨#[],#[],[]⟩with heap:=(World.holding Tryz.prog os ⟨#[],#[],[]⟩).heap.modify 0 fun
  |.cells _ t frozen=>.cells (Et.map (Value.int .i64)).toArray t frozen|o=>o}
theorem NT(os:Os):laidMet Tryz.prog Rows.temporalStepsUptoRow.laid ((x_ os).forCall (λ_ _=>0) ⟨#[],#[.agg #[.slice none 0 0],.int .i64 0,.slice none 0 0,.slice none 0 0,.bool false],[]⟩).memory:=laidMet_of_run' 8 Zi Zi
theorem Ou(os:Os){H:Type}(enc:Zm×Zp->H):∃places,DataW.whole enc Tryz.prog ((x_ os).forCall (λ_ _=>0) ⟨#[],#[.agg #[.slice none 0 0],.int .i64 0,.slice none 0 0,.slice none 0 0,.bool false],[]⟩).memory Tryz.f3.params.toList Rows.temporalStepsSpec.vars false (#[.agg #[.slice none 0 0],.int .i64 0,.slice none 0 0,.slice none 0 0,.bool false]:Array Zp).toList 8=some ([.agg [.nil],.lit (.int .i64 0),.nil,.nil,.lit (.bool false)],[],places):=⟨[],by kernel_rfl⟩
set_option maxRecDepth 100000 in
theorem Mt(os:Os)(B:os.Started)(H:Type)(enc:Zm×Zp->H)(F:Stop.Interp):
 ReturnsInHanded {} Tryz.checked os 3 .any ((Rows.OpenSpec.upto Rows.temporalStepsSpec).preRow enc Tryz.prog Tryz.f3 Rows.temporalStepsUptoRow.domain false Rows.temporalStepsUptoRow.laid) (((Rows.OpenSpec.upto Rows.temporalStepsSpec).at F).post enc Tryz.prog Tryz.f3 false true false false):=by
 have⟨places,z⟩:=Ou os enc;refine returnsInHanded_of_row (C:=Tryz.checked) (s:=Rows.OpenSpec.upto Rows.temporalStepsSpec) own B Zi Tryz.func3
  (witness_row_at (enc:=enc) (C:=Tryz.checked) false (x_ os) #[.agg #[.slice none 0 0],.int .i64 0,.slice none 0 0,.slice none 0 0,.bool false] rfl Zi Zi Zi
   (OpenSpec.preRow_of_cond 8 z Zi (λk a=>by cases a;kernel_rfl) Zi (NT os))) ?_
 intro W base args ds b before w D _ u _ G _ _;exact G4 H enc W base args ds b before w D (u _ rfl) G
theorem P7:Rows.TemporalStepsUptoSaid:=
 OpenClaim.holds_of_cond 3 Tryz.f3 rfl rfl rfl rfl rfl rfl rfl ⟨rfl,rfl,rfl,rfl,rfl⟩ rfl rfl rfl rfl rfl Zi Tryz.func3 Zi
  (of_decide_eq_true Zi) (by unfold Func.isWrapper;first|(rw[if_pos (by decide+kernel)];kernel_rfl)|(rw[if_neg (by decide+kernel)];exact⟨rfl,rfl⟩))
  (λos u H enc _ F=>by rw[OpenClaim.pre_eq_preRow];exact Mt os u H enc F)
theorem ND(f:Zk)(fn:Func)(D:Tryz.pinned.checked.prog.funcNamed "antecede/antecedelaw41.TemporalSteps" =some f)(B:Tryz.pinned.checked.prog.funcs[f]?=some fn):
 false=Tryz.pinned.checked.prog.looks []/\∀(j:Nat)t,fn.params[j]?=some t->Tryz.pinned.checked.prog.wantsStandIn t=false:=by
 obtain rfl:f=3:=Option.some.inj ((show Tryz.prog.funcNamed "antecede/antecedelaw41.TemporalSteps" =some 3 by kernel_rfl).symm.trans D)|>.symm
 obtain rfl:fn=Tryz.f3:=(Option.some.inj (Tryz.func3.symm.trans B)).symm;refine⟨by kernel_rfl,λj t z=>?_⟩
 rw[Tryz.params3]at z;have C:t∈[24,3,25,25,4]:=by simpa using Array.mem_of_getElem? z
 have w:([24,3,25,25,4].all λu=> !Tryz.prog.wantsStandIn u)=true:=by kernel_rfl
 exact(show Tryz.prog.wantsStandIn t=false by simpa using all_eq_true.1 w t C)
theorem temporalStepsProved:Rows.TemporalStepsUptoCardSaid:=Claim7.holds_tied_plain_at .later [] _ _ _ _ P7 (λ_ h=>by cases h) Zi (λ_ h=>by cases h) temporalStepsUpto_row_tie rfl ⟨rfl,rfl⟩ Zi rfl ND Zi
#print axioms temporalStepsProved
end Go.Proofs.YtgaepcmcohmibaaGreatDoor
