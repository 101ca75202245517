/-
 SliceSpan says true for all arguments that together are of bulk at most 1048576, and they read behind the call as they read before: for every such argument, without a condition.
-/
import Derived.Test.YtegogepdjcdfcacGreatDoorRows
import Derived.Test.YtegogepdjcdfcacGreatDoorCards
import Derived.Test.YtegogepdjcdfcacGreatDoorTie
import Derived.Deep.DeepHandedRow
import Derived.Test.YtegogepdjcdfcacGreatDoorK1
import Derived.Test.YtegogepdjcdfcacGreatDoorL1
set_option linter.all false
namespace Go.VE
theorem Zh{p:Prop}(h:p:=by kernel_rfl):p:=h
theorem RT {a b:a_ Int} (h:a.length=b.length) (u:a.length<=8) (e:sQ 8 (.row a)=sQ 8 (.row b)):a=b:=by
 have e2:vn 8 a=vn 8 b:=congrArg bP.l e;unfold vn at e2;rw[List.take_of_length_le u,List.take_of_length_le Za]at e2
 exact(List.append_inj e2 h).1
def vK (L:a_ (a_ Int)):Mo (bP 8 Int) Bool:=L.map λc=>(sQ 8 (.row c),true)
theorem DP {L:a_ (a_ Int)} {n:Nat} (u:∀c∈L,c.length=n) (B:n<=8) {c:a_ Int} (hc:c.length=n):sQ 8 (.row c)∈(vK L).map (·.1)↔c∈L:=by
 unfold vK;rw[List.map_map,List.mem_map];constructor
 .rintro⟨d,hd,e⟩;have:=RT (by rw[u d hd,hc]) (by rw[u d hd];exact B) e
  rwa [<-this]
 intro h;exact⟨c,h,rfl⟩
theorem SC {L:a_ (a_ Int)} {n:Nat} (u:∀c∈L,c.length=n) (B:n<=8) {c:a_ Int} (hc:c.length=n):wY (vK L) (sQ 8 (.row c)) false=decide (c∈L):=by
 unfold wY
 by_cases h:c∈L
 .obtain⟨v,hv,t⟩:=za ((DP u B hc).2 h);rw[hv,decide_eq_true h];unfold vK at t;obtain⟨d,_,e⟩:=List.mem_map.1 t;rw[<-(Prod.mk.inj e).2];rfl
 rw[yT (λk=>h ((DP u B hc).1 k)),decide_eq_false h];rfl
theorem Sq {L:a_ (a_ Int)} {n:Nat} (u:∀c∈L,c.length=n) (B:n<=8) {c:a_ Int} (hc:c.length=n) (h:c∉L):nr (vK L) (sQ 8 (.row c)) true=vK (L++[c]):=by
 rw[pn (λk=>h ((DP u B hc).1 k))]
 unfold vK;simp
theorem HH {c:Sl Int} (B:c.l.length<=1073741824) (u:0<c.l.length):∃d,(gw c).bind Sl.whole=some d/\d.l=c.l:=by
 unfold gw;have key:((mI (Sl.row []:Sl Int) c).bind λx=>some x).bind Sl.whole=some (.row ([]++c.l)):=by
  unfold mI;rw[if_neg (λh=>by rw[h]at u;simp at u),if_pos (show (Sl.row ([]:a_ Int)).l.length+c.l.length<=2147483648 from show 0+c.l.length<=_ by omega)];rfl
 cases c with
 | nil=>simp[Sl.l]at u
 | emp=>simp[Sl.l]at u
 | part l=>exact⟨_,key,rfl⟩
 | row l=>exact⟨_,key,rfl⟩
section
variable {t:Trace} {A:bP 200 bt} {s:Slice}
structure PI (n:Nat) (s:Slice) (L:List (List Int)) (i:Nat):Prop where
 nd:L.Nodup
 rch:∀c∈L,sD n s c
 fst:s.first.l∈L
 cl:∀(j:Nat) c,j<i->L[j]? = some c->∀p,p<n->nth c p<nth s.last.l p->xX s c p∈L
theorem PI.add {n:Nat} {L:a_ (a_ Int)} {i:Nat} {c:a_ Int} (h:PI n s L i) (hc:c∉L) (hr:sD n s c) (D:i<=L.length):PI n s (L++[c]) i:=by
 refine⟨List.nodup_append.2 ⟨h.nd,by simp,λa u b w e=>?_⟩,λx t=>?_,List.mem_append_left _ h.fst,λj x z t p B C=>List.mem_append_left _ (h.cl j x z ?_ p B C)⟩
 .rw[List.mem_singleton.1 w]at e;exact hc (e▸u)
 .rcases List.mem_append.1 t with h2|h2
  .exact h.rch x h2
  rw[List.mem_singleton.1 h2];exact hr
 rw[List.getElem?_append_left Za]at t;exact t
theorem SI (hS:Small t) (hV:VT t) (O:mU t A s) (hL:lK s) (he:s.empty=false) {R:a_ (a_ Int)} (hR:M_ t.procs.l.length s R):Wp (jd s) λr=>r.2=true/\ins r.1=R:=by
 have h8:=hV.few;have h1:=hV.ok.one;have aB:s.first.l.length=t.procs.l.length:=O.1.1.1.1.1.1.1.1
 have sm:∀{c:a_ Int},sD t.procs.l.length s c->xN c:=λh=>O3 hS hV (qR O h).1
 have B:∀{L:a_ (a_ Int)} {i:Nat},PI t.procs.l.length s L i->L.length<=5000:=λh=>Nat.le_trans (BQ h.nd λx hx=>(hR.2.1 x).2 (h.rch x hx)) hR.2.2
 have T:∀{L:a_ (a_ Int)} {i:Nat},PI t.procs.l.length s L i->∀c∈L,c.length=t.procs.l.length:=λh c hc=>Aa O (h.rch c hc)
 unfold jd;rw[he,bL];obtain⟨f,hf,X⟩:=HH (c:=s.first) Za Za
 rw[hf,ζb];unfold mR;rw[ζb];have ao:nr ([]:Mo (bP 8 Int) Bool) (sQ 8 s.first) true=vK [s.first.l]:=rfl
 rw[ao];unfold jd.W1;refine eG (λq=>∃i:Nat,q.2.1=(i:Int)/\i<=(ins q.1).length/\PI t.procs.l.length s (ins q.1) i/\q.2.2=vK (ins q.1)) (λq=>5001-q.2.1.toNat) ⟨0,rfl,Nat.zero_le _,⟨by simp[ins,Sl.l],λc hc=>by simp[ins,Sl.l]at hc;subst hc;show sD _ _ f.l;rw[X];exact .first,by simp[ins,Sl.l];exact X.symm,λj c h=>absurd h Za⟩,by show vK [s.first.l]=vK [f.l];rw[X]⟩ ?_
 rintro⟨out,_,_⟩ ⟨i,e,hi,I,e2⟩;simp only at e hi I e2;subst e;subst e2;have aC:(ins out).length=out.l.length:=by unfold ins;simp
 have aD:=B I;unfold jd.br
 by_cases Q:i<out.l.length
 .rw[jV Q,bJ,show decide (len out>5000)=false from decide_eq_false (by show ¬((out.l.length:Int)>5000);omega),bL]
  have ab:(ins out)[i]? = some out.l[i].l:=by unfold ins;rw[List.getElem?_map,ζd Q];rfl
  have C:sD t.procs.l.length s out.l[i].l:=I.rch _ (List.mem_of_getElem? ab);have ad:Sl.get out i=some out.l[i]:=ζd Q;rw[xU Q,ζb,ad,ζb];generalize out.l[i]=u at *;have ap:=Aa O C;unfold jd.W2;refine iC u.l.length (λp q=>q.2.1=(p:Int)/\PI t.procs.l.length s (ins q.1) i/\(ins q.1)[i]? = some u.l/\(∀w,w<p->nth u.l w<nth s.last.l w->xX s u.l w∈ins q.1)/\q.2.2=vK (ins q.1)) ⟨rfl,I,ab,λp h=>absurd h Za,rfl⟩ ?_ ?_
  .rintro p ⟨o2,_,_⟩ D ⟨e,g1,g2,g3,e2⟩;simp only at e g1 g2 g3 e2;subst e;subst e2;have ae:=B g1;have ay:(ins o2).length=o2.l.length:=by unfold ins;simp
   have G:i<(ins o2).length:=(ζe.1 g2).1;have Y:p<t.procs.l.length:=by omega
   have Z:p<s.last.l.length:=by have:=O.1.1.1.1.1.2.1.1;omega
   have hv:u.l[p]=nth u.l p:=(kN D).symm;have af:s.last.l[p]=nth s.last.l p:=(kN Z).symm;have aA:nth u.l p<=nth s.last.l p:=(qR O C).2.2 p _ _ (by rw[ζd D,hv]) (by rw[ζd Z,af])
   unfold jd.cm;rw[show decide ((p:Int)<len u)=true from jV D,bJ,bG D,ζb,bG Z,ζb,hv,af]
   by_cases ah:nth u.l p=nth s.last.l p
   .rw[show (nth u.l p==nth s.last.l p)=true from by simpa using ah,bJ,bk]
    refine⟨cH p Za,g1,g2,λw ai J=>?_,rfl⟩
    by_cases e:w=p
    .subst e;omega
    exact g3 w Za J
   rw[show (nth u.l p==nth s.last.l p)=false from by simpa using ah,bL,ζb]
   have U:nth u.l p<nth s.last.l p:=by omega
   obtain⟨e0,e1,e2⟩:=Un O C Y U;have aq:=(sm C).2 _ (List.getElem_mem D);rw[hv]at aq;obtain⟨c,hc,W,_⟩:=vF (i:=(nth u.l p).toNat) e1 e2 hL;rw[show IntKind.wrap .i64 (nth u.l p+1)=(((nth u.l p).toNat+1:Nat):Int)from by rw[mT _ Za Za];omega,hc,ζb]
   have aj:(el s p (nth u.l p).toNat).length=t.procs.l.length:=(Rj O Y (i:=(nth u.l p).toNat) Za).1.1.1
   obtain⟨z,hz,ar⟩:=Ib (a:=u) (b:=c) (by rw[W,ap,aj]) Za
   rw[hz,ζb];have aa:z.l=xX s u.l p:=by rw[ar,W];rfl
   have ak:sD t.procs.l.length s z.l:=by rw[aa];exact .step u.l p C Y U
   have al:=Aa O ak;unfold mR;rw[ζb];have hg:wY (vK (ins o2)) (sQ 8 z) false=decide (z.l∈ins o2):=SC (T g1) h8 al;rw[hg]
   by_cases hm:z.l∈ins o2
   .rw[decide_eq_true hm,bJ,bk];refine⟨cH p Za,g1,g2,λw ai J=>?_,rfl⟩
    by_cases e:w=p
    .subst e;rw[<-aa];exact hm
    exact g3 w Za J
   rw[decide_eq_false hm,bL,ζb];obtain⟨o3,au,am⟩:=tK (s:=o2) (x:=z) Za
   rw[au,ζb,bk];have av:nr (vK (ins o2)) (sQ 8 z) true=vK (ins o2++[z.l]):=Sq (T g1) h8 al hm;have S:ins o3=ins o2++[z.l]:=by unfold ins;rw[am];simp
   refine⟨cH p Za,by rw[S];exact g1.add hm ak Za,by rw[S,List.getElem?_append_left G];exact g2,λw ai J=>?_,by rw[S];exact av⟩
   show xX s u.l w∈ins o3;rw[S,List.mem_append]
   by_cases e:w=p
   .subst e;exact .inr (by rw[aa];simp)
   exact .inl (g3 w Za J)
  rintro⟨o2,_,_⟩ ⟨e,g1,g2,g3,e2⟩;simp only at e g1 g2 g3 e2;subst e;subst e2;have ae:=B g1;have G:i<(ins o2).length:=(ζe.1 g2).1;unfold jd.cm;rw[show decide (((u.l.length:Nat):Int)<len u)=false from kA,bL,bk];refine(bk _).2 ⟨⟨i+1,cH i Za,G,⟨g1.nd,g1.rch,g1.fst,λj c hj hc p D J=>?_⟩,rfl⟩,?_⟩
  .by_cases e:j=i
   .subst e;rw[g2]at hc;cases hc;exact g3 p Za J
   exact g1.cl j c Za hc p D J
  show 5001-(IntKind.wrap .i64 ((i:Int)+1)).toNat<5001-(i:Int).toNat;rw[cH i Za];omega
 rw[show decide ((i:Int)<len out)=false from decide_eq_false (by show ¬(_<(out.l.length:Int));omega),bL,bk]
 obtain⟨r,hr,D,hs⟩:=PR (s:=out) (p:=lT) (f:=λx=>w9 x.l) (λx y hx hy=>OG (sm (I.rch _ (jW.2 ⟨x,hx,rfl⟩))) (sm (I.rch _ (jW.2 ⟨y,hy,rfl⟩)))) Za
 show Wp ((xE out lT).bind _) _;rw[hr,ζb,bk];refine⟨rfl,?_⟩;have an:(ins r).Perm (ins out):=D.map Sl.l;have aw:(ins r).Nodup:=an.nodup_iff.2 I.nd;refine Dl ?_ hR.1 λx=>?_
 .have ax:(ins r).Pairwise λx y=>¬ec y x:=by unfold ins;rw[List.pairwise_map];exact hs
  exact(ax.and aw).imp λ{x y} h=>by
   by_cases k:ec x y
   .exact k
   exact absurd (ec.tot k h.1) h.2
 rw[an.mem_iff,hR.2.1];refine⟨I.rch x,λh=>PJ I.fst (λd hd p D J=>?_) h⟩
 obtain⟨j,hj,e⟩:=List.mem_iff_getElem.1 hd;exact I.cl j d Za (by rw[ζd hj,e]) p D J
end
end Go.VE
namespace Go.VE
theorem PM {α:Type} {m:bf (Sl α)} {d:Sl α} (h:m.bind Sl.whole=some d):m=some d:=by
 obtain⟨x,h1,t⟩:=ζg.1 h;cases x <;> first|(cases t;exact h1)|(cases t)
theorem Gy {a b:Sl Int} (O:a.l.length=b.l.length) (J:a.l.length<1073741824):sN a b=some (.row (List.zipWith jZ a.l b.l)):=by
 have key:Wp (dS a b λz=>om z.1 z.2) λr=>r=.row (List.zipWith jZ a.l b.l):=by
  unfold dS;have C:kX (len a) (0:Int)=some (Sl.row (List.replicate a.l.length 0)):=by
   unfold kX;rw[if_pos ⟨by simp[len],by simp[len];omega⟩];simp[len]
  rw[C,ζb];unfold dS.W1;refine iC a.l.length (λi (q:Sl Int×Int)=>q.2=(i:Int)/\∃l:a_ Int,q.1=.row l/\l.length=a.l.length/\∀p,p<i->l[p]? = (List.zipWith jZ a.l b.l)[p]?) ⟨rfl,_,rfl,by simp,λp t=>absurd t Za⟩ ?_ ?_
  .rintro i ⟨o,_⟩ D ⟨e,l,e2,h1,G⟩;simp only at e e2;subst e;subst e2;have u:i<b.l.length:=by omega
   unfold dS.br;have t:om a.l[i] b.l[i]=some (jZ a.l[i] b.l[i]):=rfl;have w:i<(Sl.row l).l.length:=by show i<l.length;omega
   have B:Sl.put (Sl.row l) i (jZ a.l[i] b.l[i])=some (.row (l.set i (jZ a.l[i] b.l[i]))):=by unfold Sl.put;rw[if_pos w]
   rw[jV D,bJ,bG D,ζb,bG u,ζb];dsimp only;rw[t,ζb,xU w,ζb,B,ζb,bk];refine⟨cH i Za,_,rfl,by rw[List.length_set];exact h1,λp t=>?_⟩
   by_cases e:p=i
   .subst e;rw[List.getElem?_set_self Za,List.getElem?_zipWith,ζd D,ζd u]
   rw[List.getElem?_set_ne (λh=>e h.symm)]
   exact G p Za
  rintro⟨o,_⟩ ⟨e,l,e2,h1,G⟩;simp only at e e2;subst e;subst e2;unfold dS.br;rw[kA,bL,bk];refine(bk _).2 (congrArg Sl.row (List.ext_getElem? λp=>?_))
  by_cases t:p<a.l.length
  .exact G p t
  rw[List.getElem?_eq_none Za,List.getElem?_eq_none (by rw[List.length_zipWith];omega)]
 unfold sN;obtain⟨r,hr,rfl⟩:=key;rw[hr];rfl
section
variable {t:Trace} {A:bP 200 bt}
def Bu (n:Nat) (V:a_ Int->Prop) (p i:Nat) (c:Sl Int):Prop:=(c=.nil/\∀v,V v->nth v p<=(i:Int))\/((∃v,V v/\(i:Int)<nth v p)/\kC n (λv=>V v/\(i:Int)<nth v p) c.l/\Sl.isNil c=some false)
theorem Bu.X3 {n:Nat} {V:a_ Int->Prop} {p i:Nat} {c:Sl Int} (h:Bu n V p i c):U9 n V p i c.l:=by
 rcases h with⟨rfl,h⟩|⟨h1,t,-⟩
 .exact .inl ⟨rfl,h⟩
 exact .inr ⟨h1,t⟩
theorem Bu.skip {n:Nat} {l:Sl (Sl Int)} {k p i:Nat} (hk:k<l.l.length) {e:Sl Int} (u:nth l.l[k].l p<=(i:Int)) (h:Bu n (l9 l k) p i e):Bu n (l9 l (k+1)) p i e:=by
 rcases h with⟨a,b⟩|⟨⟨w,a,t⟩,b,z⟩
 .refine .inl ⟨a,λv hv=>?_⟩
  rcases (l9.succ hk).1 hv with h|rfl
  .exact b v h
  exact u
 refine .inr ⟨⟨w,(l9.succ hk).2 (.inl a),t⟩,b.iff λv=>⟨λh=>⟨(l9.succ hk).2 (.inl h.1),h.2⟩,λh=>?_⟩,z⟩
 rcases (l9.succ hk).1 h.1 with B|rfl
 .exact⟨B,h.2⟩
 exact absurd h.2 Za
theorem Bu.add {n:Nat} {l:Sl (Sl Int)} {k p i:Nat} (hk:k<l.l.length) {e:Sl Int} (B:l.l[k].l.length=n) (u:(i:Int)<nth l.l[k].l p) (h:Bu n (l9 l k) p i e) :
 ∃b,Sl.isNil e=some b/\Bu n (l9 l (k+1)) p i (.row (List.zipWith jZ (if b then l.l[k].l else e.l) l.l[k].l))/\(if b then l.l[k].l else e.l).length=n:=by
 rcases h with⟨rfl,b⟩|⟨⟨w,a,t⟩,b,z⟩
 .refine⟨true,rfl,.inr ⟨⟨_,(l9.succ hk).2 (.inr rfl),u⟩,?_,rfl⟩,B⟩;refine((kC.one B).meet B).iff λv=>⟨λh=>?_,λh=>?_⟩
  .have h:v=l.l[k].l:=h.elim id id;exact⟨(l9.succ hk).2 (.inr h),by rw[h];exact u⟩
  rcases (l9.succ hk).1 h.1 with h'|h'
  .have:=b v h';have:=h.2;omega
  exact .inl h'
 refine⟨false,z,.inr ⟨⟨w,(l9.succ hk).2 (.inl a),t⟩,?_,rfl⟩,b.1⟩;refine(b.meet B).iff λv=>⟨λh=>?_,λh=>?_⟩
 .rcases h with h|rfl
  .exact⟨(l9.succ hk).2 (.inl h.1),h.2⟩
  exact⟨(l9.succ hk).2 (.inr rfl),u⟩
 rcases (l9.succ hk).1 h.1 with h'|h'
 .exact .inl ⟨h',h.2⟩
 exact .inr h'
structure B1 (t:Trace) (l:Sl (Sl Int)) (k p i:Nat) (j:Sl (Sl (Sl Int))):Prop where
 n:j.l.length=t.procs.l.length
 r:∀q r,j.l[q]? = some r->∃rl,r=.row rl/\rl.length=fI t q/\∀(m:Nat) (c:Sl Int),rl[m]? = some c->if q<p\/q=p/\m<i then Bu t.procs.l.length (l9 l (k+1)) q m c else Bu t.procs.l.length (l9 l k) q m c
theorem Ce (s:Sl (Sl (Sl Int))) (i:Nat) (x:Sl (Sl Int)):(jG s (i:Int) x).l=s.l.set i x:=(DO s i x).1
theorem Vw (W:Small t) {l:Sl (Sl Int)} {k p i:Nat} (hk:k<l.l.length) (hC:Cons t A l.l[k].l) (hp:p<t.procs.l.length) (hi:(i:Int)<nth l.l[k].l p) {s:Slice} (U:B1 t l k p i s.j) :
 Wp (e_ ⟨p,((i+1:Nat):Int)⟩ s l.l[k]) λy=>y.1=true/\y.2.empty=s.empty/\y.2.first=s.first/\y.2.last=s.last/\B1 t l k p (i+1) y.2.j:=by
 have ab:=W;have D:l.l[k].l.length=t.procs.l.length:=hC.1.1;have ad:i<fI t p:=by have:=(dY hC hp).2;omega
 have ae:fI t p<1073741824:=by rw[kP hp];exact(W.2 _ (List.getElem_mem hp)).1
 have B:p<s.j.l.length:=by rw[U.n];exact hp
 obtain⟨u,hr,X,J⟩:=U.r p _ (ζd B);have w:i<u.length:=by omega
 have hE:=J i _ (ζd w);rw[if_neg Za]at hE
 obtain⟨b,hb,L,O⟩:=hE.add hk D hi;have hw:IntKind.wrap .i64 (((i+1:Nat):Int)-1)=(i:Int):=by rw[mT _ Za Za];omega
 have Y:(idx s.j (p:Int)).bind Sl.whole=some (.row u):=by rw[bG B,ζb,hr];rfl
 have G:(jG s.j (p:Int) (.row u)).l=s.j.l:=by
  rw[Ce,<-hr,List.set_getElem_self]
 have Z:(idx (jG s.j (p:Int) (.row u)) (p:Int)).bind Sl.whole=some (.row u):=by
  rw[qO,G,ζd B,hr];rfl
 have C:Sl.j7 (Sl.row u) (i:Int)=some i:=xU (show i<(Sl.row u).l.length from w);have Q:Sl.get (Sl.row u) i=some u[i]:=by show u[i]? = _;rw[ζd w]
 have fin:∀z:Sl Int,z.l=(if b then l.l[k].l else u[i].l)->Wp (e_.J1 l.l[k] z ⟨p,((i+1:Nat):Int)⟩ ⟨s.empty,s.first,s.last,jG s.j (p:Int) (.row u)⟩) λy=>y.1=true/\y.2.empty=s.empty/\y.2.first=s.first/\y.2.last=s.last/\B1 t l k p (i+1) y.2.j:=λz ho=>by
  have S:z.l.length=l.l[k].l.length:=by rw[ho,O,D]
  have hm:=Gy (a:=z) (b:=l.l[k]) S (by rw[S,D];exact W.1)
  rw[ho]at hm;generalize List.zipWith jZ (if b then l.l[k].l else u[i].l) l.l[k].l=m at hm L;have T:Sl.put (Sl.row u) i (Sl.row m:Sl Int)=some (.row (u.set i (.row m))):=by unfold Sl.put;rw[if_pos (show i<(Sl.row u).l.length from w)]
  unfold e_.J1;dsimp only;rw[Z,ζb,hm,ζb,hw,C,ζb,T,ζb];show Wp (Option.some _) _;rw[bk];refine⟨rfl,rfl,rfl,rfl,?_,λq r I=>?_⟩
  .show (jG _ _ _).l.length=_;rw[Ce,List.length_set,G];exact U.n
  change (jG _ _ _).l[q]? = some r at I;rw[Ce,G]at I
  by_cases e:q=p
  .subst e;rw[List.getElem?_set_self B]at I;cases I;refine⟨_,rfl,by rw[List.length_set];exact X,λm' c hc=>?_⟩
   by_cases e2:m'=i
   .subst e2;rw[List.getElem?_set_self w]at hc;cases hc;rw[if_pos (.inr ⟨rfl,by omega⟩)];exact L
   rw[List.getElem?_set_ne (Ne.symm e2)]at hc;have:=J m' c hc
   by_cases e3:q<q\/q=q/\m'<i
   .rw[if_pos e3]at this;rw[if_pos Za];exact this
   rw[if_neg e3]at this;rw[if_neg Za];exact this
  rw[List.getElem?_set_ne (Ne.symm e)]at I;obtain⟨aa,g1,g2,g3⟩:=U.r q r I;refine⟨aa,g1,g2,λm' c hc=>?_⟩
  have:=g3 m' c hc
  by_cases e3:q<p\/q=p/\m'<i
  .rw[if_pos e3]at this;rw[if_pos Za];exact this
  rw[if_neg e3]at this;rw[if_neg Za];exact this
 unfold e_ rZ;dsimp only;rw[Y,ζb,hw,C,ζb,Q,ζb];show Wp ((Sl.isNil u[i]).bind _) _;rw[hb,ζb]
 cases b with
 | true=>rw[bJ];exact fin _ rfl
 | false=>rw[bL];exact fin _ rfl
theorem Ka (hS:Small t) (hv:cE t=some true) (hV:VT t) (hM:fR t (bT t) A) {l:Sl (Sl Int)} (hC:∀x∈l.l,Cons t A x.l) (h5:l.l.length<=5000) (ae:l.l≠[]) :
 Wp (dB t l) λq=>q.2=0/\mV t (λv=>∃x∈l.l,x.l=v) q.1:=by
 have am:=hV.few;have ak:=hV.ok.one;have w:0<l.l.length:=List.length_pos_iff.2 ae;have W:∀p,p<t.procs.l.length->fI t p<1073741824:=λp B=>by rw[kP B];exact(hS.2 _ (List.getElem_mem B)).1
 have X:∀k (hk:k<l.l.length),Cons t A l.l[k].l:=λk hk=>hC _ (List.getElem_mem hk)
 have C:∀k (hk:k<l.l.length),l.l[k].l.length=t.procs.l.length:=λk hk=>(X k hk).1.1
 suffices h:Wp (dB t l) λq=>q.2=0/\mV t (l9 l l.l.length) q.1 by
  obtain⟨b,hb,af,h⟩:=h;have e:∀v,l9 l l.l.length v↔∃x∈l.l,x.l=v:=λv=>by
   constructor
   .rintro⟨j,_,x,G,rfl⟩;exact⟨x,List.mem_of_getElem? G,rfl⟩
   rintro⟨x,G,rfl⟩;obtain⟨j,U⟩:=List.mem_iff_getElem?.1 G;exact⟨j,(ζe.1 U).1,x,U,rfl⟩
  refine⟨b,hb,af,h.e,h.f.iff e,h.l.iff e,h.j,λp r hr=>⟨(h.r p r hr).1,λi c hc=>?_⟩⟩
  rcases (h.r p r hr).2 i c hc with⟨k1,k2⟩|⟨⟨v,k1,k2⟩,k3⟩
  .exact .inl ⟨k1,λv hv=>k2 v ((e v).2 hv)⟩
  exact .inr ⟨⟨v,(e v).1 k1,k2⟩,k3.iff λv=>and_congr_left λ_=>e v⟩
 have h0:idx l 0=some l.l[0]:=bG (i:=0) w;have Y:=C 0 w;obtain⟨d,hd,Z⟩:=HH (c:=l.l[0]) Za Za
 have hd:=PM hd;have aa:dK l (λz=>jP z t)=some false:=by
  rw[lJ (f:=λ_=>false) (λx G=>by
   obtain⟨z,hz,ah⟩:=cU.eq (yN hS hv hV hM x);unfold jP;rw[hz,ah.2 (hC x G)];rfl) Za]
  exact congrArg some (List.any_eq_false.2 λx _=>by simp)
 unfold dB;rw[hv,ζb,bJ,show decide ((len l)>5000)=false from decide_eq_false (by simp[len];omega),bL,aa,ζb,bL,show ((len l)==0)=false from by simp[len];omega,bL,h0,ζb,hd,ζb,ζb,hd,ζb]
 unfold dB.W1;refine iC t.procs.l.length (λp (q:Int×Slice×Slice)=>q.1=(p:Int)/\q.2.2.empty=false/\q.2.2.first=d/\q.2.2.last=d/\q.2.2.j.l.length=p/\∀D r,q.2.2.j.l[D]? = some r->r=(Sl.row (List.replicate (fI t D) Sl.nil):Sl (Sl Int))) ⟨rfl,rfl,rfl,rfl,rfl,λD r h=>by simp[Sl.l]at h⟩ ?_ ?_
 .rintro p ⟨_,vb,s⟩ B ⟨e,i1,i2,i3,i4,i5⟩;simp only at e i1 i2 i3 i4 i5;subst e;have al:=W p B;have ai:t.procs.l[p].events.l.length=fI t p:=(kP B).symm;have aj:kX (len t.procs.l[p].events) (Sl.nil:Sl Int)=some (.row (List.replicate (fI t p) .nil)):=by
   unfold kX;rw[if_pos ⟨by simp[len],by simp[len];omega⟩];simp[len,ai]
  obtain⟨j',U,ab⟩:=tK (s:=s.j) (x:=(.row (List.replicate (fI t p) .nil):Sl (Sl Int))) Za
  unfold dB.br;rw[jV B,bJ,bG B,ζb,aj,ζb];show Wp ((eT s.j _).bind _) _;rw[U,ζb,bk];refine⟨cH p Za,i1,i2,i3,by show j'.l.length=_;rw[ab];simp[i4],λD r hr=>?_⟩
  change j'.l[D]? = some r at hr;rw[ab]at hr
  by_cases h:D<s.j.l.length
  .rw[List.getElem?_append_left h]at hr;exact i5 D r hr
  have:D=p:=by
   have:=(ζe.1 hr).1;simp at this;omega
  subst this;rw[<-i4,List.getElem?_concat_length]at hr;cases hr;rw[i4]
 rintro⟨_,vb,s⟩ ⟨e,i1,i2,i3,i4,i5⟩;simp only at e i1 i2 i3 i4 i5;subst e;unfold dB.br;rw[kA,bL,bk];show Wp (dB.W2 l (len l) 0 _ s) _;unfold dB.W2;have nf:∀v,¬l9 l 0 v:=λv ⟨j,U,_⟩=>absurd U Za
 have I:B1 t l 0 0 0 s.j:=⟨i4,λq r hr=>⟨_,i5 q r hr,by simp,λm c hc=>by
  rw[if_neg Za]
  rw[List.getElem?_replicate]at hc;split at hc
  .cases hc;exact .inl ⟨rfl,λv hv=>absurd hv (nf v)⟩
  cases hc⟩⟩
 refine iC l.l.length (λk (q:Int×Slice×Slice)=>q.1=(k:Int)/\q.2.2.empty=false/\kC t.procs.l.length (λv=>v=l.l[0].l\/l9 l k v) q.2.2.first.l/\oH t.procs.l.length (λv=>v=l.l[0].l\/l9 l k v) q.2.2.last.l/\B1 t l k 0 0 q.2.2.j)
  ⟨rfl,i1,(by simp only[i2,Z];exact(kC.one Y).iff λv=>⟨.inl,λh=>h.resolve_right (nf v)⟩),(by simp only[i3,Z];exact(oH.one Y).iff λv=>⟨.inl,λh=>h.resolve_right (nf v)⟩),I⟩ ?_ ?_
 .rintro k ⟨_,vb,s⟩ hk ⟨e,k1,k2,k3,k4⟩;simp only at e k1 k2 k3 k4;subst e;have u:=C k hk;have hm:=Gy (a:=s.first) (b:=l.l[k]) (by rw[k2.1,u]) (by rw[k2.1];omega)
  obtain⟨x,G,J⟩:=Ib (a:=s.last) (b:=l.l[k]) (by rw[k3.1,u]) (by rw[k3.1];omega)
  have J:x.l=List.zipWith kD s.last.l l.l[k].l:=J;have ad:=X k hk;obtain⟨y,hy,y1,y2,y3,y4,y5⟩:=GP (c:=l.l[k]) (f:=λx s=>e_ x s l.l[k]) (s:=(⟨s.empty,.row (List.zipWith jZ s.first.l l.l[k].l),x,s.j⟩:Slice))
   (Q:=λy=>y.1=true/\y.2.empty=false/\y.2.first=.row (List.zipWith jZ s.first.l l.l[k].l)/\y.2.last=x/\B1 t l (k+1) 0 0 y.2.j)
   (λp i L=>L.empty=false/\L.first=.row (List.zipWith jZ s.first.l l.l[k].l)/\L.last=x/\B1 t l k p i L.j) Za
   (λp B=>by have:=(dY ad (u▸B)).2;have:=W p (u▸B);omega) ⟨k1,rfl,rfl,k4⟩
   (λp i L B hi ⟨g1,g2,g3,g4⟩=>(Vw hS hk ad (u▸B) hi g4).mono λy ⟨O,S,T,w4,w5⟩=>⟨λ_=>⟨S.trans g1,T.trans g2,w4.trans g3,w5⟩,λh=>by rw[O]at h;cases h⟩)
   (λp i L B an ⟨g1,g2,g3,g4⟩=>⟨g1,g2,g3,g4.n,λq r hr=>by
    obtain⟨rl,O,S,T⟩:=g4.r q r hr;refine⟨rl,O,S,λm c hc=>?_⟩
    have:=T m c hc
    by_cases e:q<p\/q=p/\m<i
    .rw[if_pos e]at this;rw[if_pos Za];exact this
    rw[if_neg e]at this
    by_cases e2:q=p
    .subst e2;rw[if_pos Za];exact this.skip hk Za
    rw[if_neg Za];exact this⟩)
   (λL ⟨g1,g2,g3,g4⟩=>⟨rfl,g1,g2,g3,g4.n,λq r hr=>by
    obtain⟨rl,O,S,T⟩:=g4.r q r hr;refine⟨rl,O,S,λm c hc=>?_⟩
    have hq:q<t.procs.l.length:=by rw[<-g4.n];exact(ζe.1 hr).1
    have:=T m c hc;rw[if_pos (.inl (by rw[u];exact hq))]at this
    rw[if_neg Za];exact this⟩)
  unfold dB.cm;rw[jV hk,bJ,bG hk,ζb,hm,ζb,G,ζb,hy,ζb,bk];have sc:∀v,(v=l.l[0].l\/l9 l k v)\/v=l.l[k].l↔v=l.l[0].l\/l9 l (k+1) v:=λv=>by rw[l9.succ hk,or_assoc]
  exact⟨cH k Za,y2,by show kC _ _ y.2.first.l;rw[y3];exact(k2.meet u).iff sc,by show oH _ _ y.2.last.l;rw[y4,J];exact(k3.join u).iff sc,y5⟩
 rintro⟨_,vb,s⟩ ⟨e,k1,k2,k3,k4⟩;simp only at e k1 k2 k3 k4;subst e;unfold dB.cm;rw[kA,bL,bk];have hz:∀v,v=l.l[0].l\/l9 l l.l.length v↔l9 l l.l.length v:=λv=>⟨λh=>h.elim (λe=>⟨0,w,_,ζd w,e.symm⟩) id,.inr⟩
 refine(bk _).2 ⟨rfl,k1,k2.iff hz,k3.iff hz,k4.n,λp r hr=>?_⟩
 obtain⟨rl,O,S,T⟩:=k4.r p r hr;subst O;refine⟨S,λi c hc=>?_⟩
 have:=T i c hc;rw[if_neg Za]at this
 exact this.X3
end
theorem EE {c:Sl Int} (h:xN c.l):f_ c=some c.l.sum:=by
 refine Wp.eq ?_;have u:=h.1;unfold f_ f_.W1;refine iC c.l.length (λi (q:Int×Int)=>q.2=(i:Int)/\q.1=(c.l.take i).sum) ⟨rfl,rfl⟩ ?_ ?_
 .rintro i ⟨m,_⟩ t ⟨e,h1⟩;simp only at e h1;subst e;subst h1;unfold f_.br;rw[jV t,bJ,bG t,ζb,bk];have k:=Ij h (i+1);rw[yB t]at k
  grind[yB,mT]
 simp_all[f_.br,bL,bk]
theorem II {a b:Sl Int} (B:xN a.l) (D:xN b.l) (G:a.l.length=b.l.length):gC a b=some (decide (ec a.l b.l)):=by
 have w:=B.1;unfold gC;rw[EE B,ζb,EE D,ζb]
 by_cases e:a.l.sum=b.l.sum
 .rw[show (a.l.sum==b.l.sum)=true from by grind,bJ]
  refine Wp.eq ?_;unfold gC.W1;refine iC a.l.length (λi (q:Int)=>q=(i:Int)/\fC (a.l.drop i) (b.l.drop i)=fC a.l b.l) ⟨rfl,rfl⟩ ?_ ?_
  .rintro i _ u ⟨rfl,h⟩;have t:i<b.l.length:=by omega
   unfold gC.br;rw[jV u,bJ,bG u,ζb,bG t,ζb];rw[M0 u t]at h
   by_cases e2:a.l[i]=b.l[i]
   .rw[show (a.l[i]==b.l[i])=true from by grind,bJ,bk]
    rw[if_neg Za,if_neg Za]at h
    grind[cH]
   rw[show (a.l[i]==b.l[i])=false from by grind,bL,ζb,ζb,bk]
   refine(bk _).2 ?_;have hd:decide (ec a.l b.l)=decide (fC a.l b.l<0):=decide_eq_decide.2 (ec.Nl e)
   grind
  rintro _ ⟨rfl,h⟩;unfold gC.br;rw[kA,bL,bk];refine(bk _).2 ?_;have hd:decide (ec a.l b.l)=decide (fC a.l b.l<0):=decide_eq_decide.2 (ec.Nl e);rw[hd];rw[List.drop_of_length_le (Nat.le_refl _),List.drop_of_length_le Za]at h
  rw[<-h];rfl
 rw[show (a.l.sum==b.l.sum)=false from by grind,bL,ζb,ζb]
 grind[ec,w9,fC]
theorem NH {a b:Sl Int} (B:a.l.length<1073741824):eM a b=some (decide (a.l=b.l)):=by
 refine Wp.eq ?_;unfold eM;rw[cg];refine⟨λh=>?_,λh=>(bk _).2 ?_⟩
 .have h:(a.l.length:Int)=b.l.length:=by grind
  have h:a.l.length=b.l.length:=by omega
  unfold eM.W1;refine iC a.l.length (λn s=>s=(n:Int)/\∀i,i<n->a.l[i]? = b.l[i]?) ⟨rfl,λi h=>absurd h Za⟩ ?_ ?_
  .rintro n _ t ⟨rfl,u⟩
   grind[eM.br,bG,cg,bk,cH]
  rintro _ ⟨rfl,u⟩;unfold eM.br;rw[kA,bL,bk];refine(bk _).2 (decide_eq_true (List.ext_getElem? λi=>?_)).symm
  grind
 grind
theorem tE (s:Sl (Sl Int)):(ins s).length=s.l.length:=by unfold ins;simp
theorem S_ (s:Sl (Sl Int)) (i:Nat):(ins s)[i]? = (s.l[i]?).map Sl.l:=by grind[ins]
theorem zA {s:Sl (Sl Int)} {i:Nat} (h:i<s.l.length):(ins s)[i]? = some s.l[i].l:=by rw[S_,ζd h];rfl
theorem I9 {l:Sl (Sl Int)} {c:Sl Int} (T:∀x∈l.l,xN x.l/\x.l.length=c.l.length) (hc:xN c.l) (hl:l.l.length<1073741824) (Y:(ins l).Pairwise ec) :
 Wp (gz l c) λr=>r.l.length<=l.l.length+1/\(ins r).Pairwise ec/\∀d,d∈ins r↔d∈ins l\/d=c.l:=by
 have U:=hc.1;have post:∀n:Nat,n<=l.l.length->(∀(i:Nat) x,i<n->(ins l)[i]? = some x->ec x c.l)->(∀x,(ins l)[n]? = some x->¬ec x c.l) ->
  Wp ((bp (decide ((n:Int)<(len l))) ((idx l n).bind λI=>(eM I c).bind λJ=>some J) (some false):bf Bool).bind λL=>
  bp L (some l) ((gm l none (some (n:Int))).bind λu=>(mI (Sl.row []:Sl (Sl Int)) u).bind λw=>(eT w (c:Sl Int)).bind λz=>(gm l (some (n:Int)) none).bind λB=>(mI z B).bind λC=>some C))
  λr=>r.l.length<=l.l.length+1/\(ins r).Pairwise ec/\∀d,d∈ins r↔d∈ins l\/d=c.l:=by
  intro n D Z aa;have W:(∀x,(ins l)[n]? = some x->x≠c.l)->Wp ((gm l none (some (n:Int))).bind λu=>(mI (Sl.row []:Sl (Sl Int)) u).bind λw=>(eT w (c:Sl Int)).bind λz=>(gm l (some (n:Int)) none).bind λB=>(mI z B).bind λC=>some C) λr=>r.l.length<=l.l.length+1/\(ins r).Pairwise ec/\∀d,d∈ins r↔d∈ins l\/d=c.l:=by
   intro ab;obtain⟨G,h4,e4⟩:=uQ l n D;have ad:G.l.length<=l.l.length:=by grind
   obtain⟨x5,h5,e5⟩:=AW (s:=(Sl.row []:Sl (Sl Int))) (x:=G) (show 0+G.l.length<=_ by omega)
   have e5:x5.l=G.l:=e5;obtain⟨x6,h6,e6⟩:=tK (s:=x5) (x:=c) Zd
   obtain⟨x7,h7,e7⟩:=IW l n D;obtain⟨X,U,e8⟩:=AW (s:=x6) (x:=x7) Zd
   rw[h4,ζb,h5,ζb,h6,ζb,h7,ζb,U,ζb,bk];have e:X.l=l.l.take n++[c]++l.l.drop n:=by simp_all
   have ei:ins X=(ins l).take n++[c.l]++(ins l).drop n:=by simp_all[ins]
   grind[Li,ec.tot]
  by_cases h:n<l.l.length
  .rw[jV h,bJ,bG h,ζb,NH (by have:=(T _ (List.getElem_mem h)).1.1;omega),ζb,ζb]
   by_cases e:l.l[n].l=c.l
   .rw[decide_eq_true e,bJ,bk];refine⟨by omega,Y,λd=>⟨.inl,λO=>O.elim id λO=>?_⟩⟩
    rw[O,<-e];exact jW.2 ⟨_,List.getElem_mem h,rfl⟩
   grind[bL,zA]
  rw[show (n:Int)=(l.l.length:Nat)from by omega,kA,bL,ζb,bL,<-show (n:Int)=(l.l.length:Nat)from by omega]
  grind[tE]
 unfold gz gz.W1;refine iC l.l.length (λn s=>s=(n:Int)/\∀(i:Nat) x,i<n->(ins l)[i]? = some x->ec x c.l) ⟨rfl,λi x h=>absurd h Za⟩ ?_ ?_
 .rintro n _ t ⟨rfl,Q⟩;obtain⟨q1,q2⟩:=T _ (List.getElem_mem t);unfold gz.br;rw[jV t,bJ,bG t,ζb,II q1 hc q2,ζb,ζb]
  by_cases e:ec l.l[n].l c.l
  .rw[decide_eq_true e,bJ,bk]
   grind[cH,zA]
  rw[decide_eq_false e,bL,bk];exact post n Za Q λx S=>by rw[zA t]at S;grind
 rintro _ ⟨rfl,Q⟩;unfold gz.br;rw[kA,bL,ζb,bL,bk];exact post _ (Nat.le_refl _) Q λx S=>by have:=(ζe.1 S).1;rw[tE]at this;omega
section
variable {t:Trace} {A:bP 200 bt}
structure xM (t:Trace) (A:bP 200 bt) (L:List (List Int)):Prop where
 srt:L.Pairwise ec
 mem:∀d,d∈L↔Cons t A d
def R7 (t:Trace) (A:bP 200 bt):Prop:=∃L:a_ (a_ Int),L.Nodup/\(∀d∈L,Cons t A d)/\5000<L.length
theorem M9 {k:Nat} {o l:a_ (a_ Int)} (h1:∀d,d∈l↔Cons t A d/\d.sum=(k:Int)) (u:l.Pairwise ec) (B:o.Pairwise ec) (D:∀d,d∈o↔Cons t A d/\d.sum<(k:Int)) :
 (o++l).Pairwise ec/\∀d,d∈o++l↔Cons t A d/\d.sum<((k+1:Nat):Int):=by
 grind[ec.sum]
theorem Ft (hS:Small t) (J:VT t) (T:fR t (bT t) A):Wp (eA t) λr=>(r.2=true/\xM t A (ins r.1)/\r.1.l.length<=5000)\/(r.2=false/\r.1=.nil/\R7 t A):=by
 have ab:=J.few;unfold eA kX;rw[if_pos ⟨by simp_all,by grind⟩,ζb]
 unfold eA.W1;have fin:∀(k:Nat) (u out:Sl (Sl Int)),Gx t A k u->u.l.length=0->(ins out).Pairwise ec->(∀d,d∈ins out↔Cons t A d/\d.sum<(k:Int))->xM t A (ins out):=λk u out h1 U G L=>
  ⟨G,λd=>(L d).trans ⟨λh=>h.1,λh=>⟨h,h1.none J T U h⟩⟩⟩
 refine iC (qX t+1) (λk s=>Gx t A k s.1/\(ins s.1).Pairwise ec/\(ins s.2).Pairwise ec/\(∀d,d∈ins s.2↔Cons t A d/\d.sum<(k:Int))/\s.1.l.length<=40000/\s.2.l.length<=5000)
  ⟨XG (by simp[Sl.l,len]),by simp[ins,Sl.l],by simp[ins,Sl.l],λd=>⟨λh=>by grind[ins,Sl.l],λh=>absurd (sB h.1.1.pos) Zd⟩,by simp[Sl.l],by simp[Sl.l]⟩ ?_ ?_
 .rintro k ⟨u,out⟩ hk ⟨h1,C,w,G,L,O⟩;simp only at h1 C w G L O;unfold eA.br;rw[MI]
  by_cases U:u.l.length=0
  .rw[show (!decide (u.l.length=0))=false from by simp_all,bL,bk]
   exact(bk _).2 (.inl ⟨rfl,fin k u out h1 U w G,O⟩)
  rw[show (!decide (u.l.length=0))=true from by simp_all,bJ]
  obtain⟨x,hx,ad⟩:=AW (s:=out) (x:=u) Za
  have W:ins x=ins out++ins u:=by grind[ins]
  obtain⟨o1,o2⟩:=M9 h1 C w G;rw[<-W]at o1 o2;rw[hx,ζb,cg];refine⟨λX=>(bk _).2 ((bk _).2 (.inr ⟨rfl,rfl,ins x,ec.nodup o1,λd hd=>((o2 d).1 hd).1,?_⟩)),λX=>?_⟩
  .rw[tE];grind
  have X:x.l.length<=5000:=by grind
  have h6:u.l.length<=5000:=by grind
  have sm:∀d,Cons t A d->xN d/\d.length=t.procs.l.length:=λd h=>⟨SR hS J h,h.1.1⟩
  unfold eA.W2;refine iC u.l.length (λn s=>s.2=(n:Int)/\s.1.l.length<=8*n/\(ins s.1).Pairwise ec/\∀d,d∈ins s.1↔∃c∈(u.l.take n).map Sl.l,yP t A c d) ⟨rfl,Nat.zero_le _,by simp[ins,Sl.l],λd=>by simp[ins,Sl.l]⟩ ?_ ?_
  .rintro n ⟨more,_⟩ B ⟨e,g1,gs,g2⟩;simp only at e g1 gs g2;subst e;unfold eA.cm;have Y:=(h1 u.l[n].l).1 (jW.2 ⟨_,List.getElem_mem B,rfl⟩);rw[jV B,bJ,bG B,ζb,eY];refine(Tf hS J T Y.1).mono λnx S=>?_
   unfold eA.W3;refine iC nx.l.length (λm s=>s.2=(m:Int)/\s.1.l.length<=8*n+m/\(ins s.1).Pairwise ec/\∀d,d∈ins s.1↔d∈ins more\/d∈(nx.l.take m).map Sl.l) ⟨rfl,g1,gs,λd=>by simp⟩ ?_ ?_
   .rintro m ⟨Z,_⟩ D ⟨e,f1,fs,I⟩;simp only at e f1 fs I;subst e;unfold eA.eS;rw[jV D,bJ,bG D,ζb,eY];have hN:=(S.2 nx.l[m].l).1 (jW.2 ⟨_,List.getElem_mem D,rfl⟩);obtain⟨_,_,_,_,aa⟩:=hN;refine(I9 (l:=Z) (c:=nx.l[m]) (λy hy=>?_) (sm _ aa).1 Za fs).mono λr hr=>?_
    .have ae:Cons t A y.l:=by
      rcases (I y.l).1 (jW.2 ⟨_,hy,rfl⟩)with h|h
      .obtain⟨_,_,p,a,_,_,k⟩:=(g2 y.l).1 h;omega
      obtain⟨z,hz,e⟩:=List.mem_map.1 h;obtain⟨p,a,_,_,k⟩:=(S.2 z.l).1 (jW.2 ⟨_,List.mem_of_mem_take hz,rfl⟩);rw[<-e];exact k
     grind
    refine(bk _).2 ⟨cH m Za,Nat.le_trans hr.1 Za,hr.2.1,λd=>?_⟩
    rw[hr.2.2,I,BV D,or_assoc]
   rintro⟨Z,_⟩ ⟨e,f1,fs,I⟩;simp only at e f1 fs I;subst e;unfold eA.eS;rw[kA,bL,bk];refine(bk _).2 ⟨cH n Za,show Z.l.length<=_ by omega,fs,λd=>?_⟩
   rw[I,List.take_length];constructor
   .rintro (h|h)
    .grind
    exact⟨_,(BV B).2 (.inr rfl),(S.2 d).1 h⟩
   rintro⟨c,hc,Q⟩;rcases (BV B).1 hc with h|h
   .grind
   subst h;exact .inr ((S.2 d).2 Q)
  rintro⟨more,_⟩ ⟨e,g1,gs,g2⟩;simp only at e g1 gs g2;subst e;unfold eA.cm;rw[kA,bL,bk];refine(bk _).2 ⟨λd=>?_,gs,o1,o2,show more.l.length<=_ by omega,X⟩
  rw[g2,List.take_length,<-yP.iff J T (k:=k)];exact⟨λ⟨c,hc,Q⟩=>⟨c,(h1 c).1 hc,Q⟩,λ⟨c,hc,Q⟩=>⟨c,(h1 c).2 hc,Q⟩⟩
 rintro⟨u,out⟩ ⟨h1,C,w,G,L,O⟩;simp only at h1 C w G L O;unfold eA.br;rw[MI,show (!decide (u.l.length=0))=false from by simp[h1.last],bL,bk]
 exact(bk _).2 (.inl ⟨rfl,fin _ u out h1 h1.last w G,O⟩)
end
section
variable {t:Trace} {A:bP 200 bt} {s:Slice} {U V:a_ Int->Prop}
theorem E9 (J:VT t) (D:∀u,U u->Cons t A u) (B:∀p,p<t.procs.l.length->fI t p<=20) {b:Slice} (h:wQ t A U b):lK b:=by
 have L:=J.few;refine⟨by rw[(D _ h.f).1.1];omega,by rw[h.lc.1.1];omega,by rw[h.j];omega,λr hr=>?_⟩
 obtain⟨p,C⟩:=List.mem_iff_getElem?.1 hr;have z:=(ζe.1 C).1;have w:p<t.procs.l.length:=by rw[<-h.j];exact z
 have O:r.l.length=fI t p:=by
  have:=h.rows p w;rw[vD z,(ζe.1 C).2]at this;exact this
 have Q:=B p w;refine⟨by omega,λc hc=>?_⟩
 obtain⟨i,G⟩:=List.mem_iff_getElem?.1 hc;have S:=(ζe.1 G).1;have I:el b p i=c.l:=by unfold el;rw[C];simp only[G]
 rcases h.elm p w i Za with⟨k,_⟩|⟨k,_⟩
 .rw[I]at k;rw[k];simp
 rw[I]at k;rw[(D _ k).1.1];omega
def UV (t:Trace) (A:bP 200 bt) (V:a_ Int->Prop) (u:a_ Int):Prop:=(Cons t A u/\∃v,V v/\c9 u v)/\∀x:a_ Int,x.length=t.procs.l.length->(∀v,V v->c9 u v->c9 x v)->c9 x u
theorem UV.of (u:∀v,V v->Cons t A v) {v:a_ Int} (h:V v):UV t A V v:=⟨⟨u v h,v,h,c9.refl _⟩,λx _ w=>w v h (c9.refl _)⟩
theorem kC.NF {n:Nat} {x y:a_ Int} (h:kC n V x) (u:y.length=n) (h1:∀v,V v->c9 y v) (B:∀z:a_ Int,z.length=n->(∀v,V v->c9 z v)->c9 z y):y=x:=(h.2.2 y u h1).anti (B x h.1 h.2.1)
theorem Mq (hS:Small t) (hV:VT t) (hC:∀v,V v->Cons t A v) {a b:Slice} (B:wQ t A (UV t A V) a) (G:mV t V b):dV a b=some true:=by
 have al:=hV.few;have D:∀v,V v->UV t A V v:=λv h=>UV.of hC h
 have W:∀p,p<t.procs.l.length->fI t p<1073741824:=λp L=>by rw[kP L];exact(hS.2 _ (List.getElem_mem L)).1
 have X:∀u,UV t A V u->Cons t A u:=λu h=>h.1.1
 have e1:a.first.l=b.first.l:=kC.NF G.f B.f.1.1.1.1 (λv hv=>B.mn v (D v hv)) λz O h=>B.f.2 z O λv hv _=>h v hv
 have e2:a.last.l=b.last.l:=by
  refine(pP.2 ⟨B.lc.1.1.trans G.l.1.symm,λp L=>?_⟩).anti (G.l.2.2 _ B.lc.1.1 λv hv=>B.up X (D v hv))
  obtain⟨u,hu,Y⟩:=B.la p (by rw[<-B.lc.1.1];exact L)
  obtain⟨⟨Z,v,hv,w⟩,_⟩:=hu;rw[Y];exact Int.le_trans (w.nth (by rw[Z.1.1,<-B.lc.1.1];exact L)) ((G.l.2.1 v hv).nth (by rw[(hC v hv).1.1,<-B.lc.1.1];exact L))
 have aa:a.first.l.length<1073741824:=by rw[B.f.1.1.1.1];omega
 have ab:a.last.l.length<1073741824:=by rw[B.lc.1.1];omega
 unfold dV;obtain⟨x,hx,ad⟩:=FU (a:=a.first) (b:=b.first) aa
 obtain⟨y,hy,ae⟩:=FU (a:=a.last) (b:=b.last) ab;rw[show (a.empty==b.empty)=true by rw[B.e,G.e];rfl,bJ,hx,ad.2 e1,ζb,ζb,show (!true)=false from rfl,bL,hy,ae.2 e2,ζb,ζb,show (!true)=false from rfl,bL,show ((len a.j)==(len b.j))=true by simp[len,B.j,G.j],ζb,show (!true)=false from rfl,bL]
 unfold dV.W1;have key:cU ((bM (λq:Int=>dV.br a b q) 0).bind (Fw.elim (λ_=>some true) (λ_=>some false))) True:=by
  refine(uI (n:=a.j.l.length) (P:=λ_=>True) (λi C _=>?_) (λ_=>?_)).iff ⟨λ_=>trivial,λ_ _ _=>trivial⟩
  .have I:i<t.procs.l.length:=by rw[<-B.j];exact C
   have Q:i<b.j.l.length:=by rw[G.j];exact I
   unfold dV.br;rw[jV C,bJ,bG C,ζb,bG Q,ζb];have af:a.j.l[i].l.length=fI t i:=by rw[<-vD C];exact B.rows i I
   obtain⟨am,ah⟩:=G.r i _ (ζd Q);have S:∀k (hk:k<a.j.l[i].l.length),el a i k=a.j.l[i].l[k].l:=λk hk=>by
    unfold el;rw[ζd C];simp only[ζd hk]
   have J:∀k,k<fI t i->(ins a.j.l[i])[k]? = (ins b.j.l[i])[k]? := λk hk=>by
    have T:k<a.j.l[i].l.length:=by omega
    have U:k<b.j.l[i].l.length:=by omega
    rw[zA T,zA U,<-S k T]
    congr 1
    have h1:=B.elm i I k hk;rcases ah k _ (ζd U)with⟨q1,q2⟩|⟨⟨v,q1,q2⟩,q3⟩
    .rcases h1 with⟨h1,_⟩|⟨h1,h2,_⟩
     .rw[h1,q1]
     obtain⟨⟨h3,v,hv,w⟩,_⟩:=h1;have:=q2 v hv;have:=w.nth (p:=i) (by rw[h3.1.1];exact I)
     omega
    rcases h1 with⟨_,h1⟩|⟨h1,h2,h3⟩
    .have:=h1 v (D v q1);omega
    refine kC.NF q3 h1.1.1.1.1 (λv hv=>h3 v (D v hv.1) hv.2) λz O h=>h1.2 z O λv hv w=>h v ⟨hv,?_⟩
    have:=w.nth (p:=i) (by rw[h1.1.1.1.1];exact I)
    omega
   have ai:ins a.j.l[i]=ins b.j.l[i]:=List.ext_getElem? λk=>by
    by_cases hk:k<fI t i
    .exact J k hk
    rw[List.getElem?_eq_none (by rw[tE];omega),List.getElem?_eq_none (by rw[tE];omega)]
   have aj:∀x∈a.j.l[i].l,x.l.length<1073741824:=λx hx=>by
    obtain⟨k,hk,rfl⟩:=List.getElem_of_mem hx;rw[<-S k hk];rcases B.elm i I k Za with⟨h1,_⟩|⟨h1,_⟩
    .rw[h1];simp
    rw[h1.1.1.1.1];omega
   exact HG ((Oc (by rw[af];exact W i I) aj).iff ⟨λ_=>trivial,λ_=>ai⟩) (cH i Za)
  unfold dV.br;rw[kA,bL]
 obtain⟨z,O,ak⟩:=key;rw[ak.2 trivial]at O;exact O
end
section
variable {n:Nat} {V W:a_ Int->Prop}
theorem kC.uniq {x y:a_ Int} (h:kC n V x) (k:kC n V y):x=y:=(k.2.2 x h.1 h.2.1).anti (h.2.2 y k.1 k.2.1)
theorem oH.uniq {x y:a_ Int} (h:oH n V x) (k:oH n V y):x=y:=(h.2.2 y k.1 k.2.1).anti (k.2.2 x h.1 h.2.1)
theorem IE {Q:a_ Int->Prop} (u:∀a b,a.length=n->b.length=n->Q a->Q b->Q (List.zipWith jZ a b)):∀l:a_ (a_ Int),(∀v∈l,Q v/\v.length=n)->l≠[]->∃g,Q g/\kC n (λv=>v∈l) g
 | [],_,h=>absurd rfl h
 | [a],h,_=>⟨a,(h a (List.mem_singleton_self a)).1,(kC.one (h a (List.mem_singleton_self a)).2).iff λv=>List.mem_singleton.symm⟩
 | a::b::r,h,_=>by
  obtain⟨g,hg,B⟩:=IE u (b::r) (λv hv=>h v (List.mem_cons_of_mem _ hv)) Zc
  have t:=h a List.mem_cons_self;exact⟨_,u g a B.1 t.2 hg t.1,(B.meet t.2).iff λv=>by rw[List.mem_cons (a:=v) (b:=a)];exact or_comm⟩
theorem Iw {Q:a_ Int->Prop} (u:∀a b,a.length=n->b.length=n->Q a->Q b->Q (List.zipWith kD a b)):∀l:a_ (a_ Int),(∀v∈l,Q v/\v.length=n)->l≠[]->∃g,Q g/\oH n (λv=>v∈l) g
 | [],_,h=>absurd rfl h
 | [a],h,_=>⟨a,(h a (List.mem_singleton_self a)).1,(oH.one (h a (List.mem_singleton_self a)).2).iff λv=>List.mem_singleton.symm⟩
 | a::b::r,h,_=>by
  obtain⟨g,hg,B⟩:=Iw u (b::r) (λv hv=>h v (List.mem_cons_of_mem _ hv)) Zc
  have t:=h a List.mem_cons_self;exact⟨_,u g a B.1 t.2 hg t.1,(B.join t.2).iff λv=>by rw[List.mem_cons (a:=v) (b:=a)];exact or_comm⟩
theorem xG {ls:a_ (a_ Int)} {P Q:a_ Int->Prop} {x:a_ Int} (h:kC n (λv=>v∈ls/\P v) x) (B:∀a b,a.length=n->b.length=n->Q a->Q b->Q (List.zipWith jZ a b)) (u:∃v,v∈ls/\P v) (hv:∀v∈ls,P v->Q v/\v.length=n):Q x:=by
 classical
 obtain⟨v,t,w⟩:=u;obtain⟨g,hg,z⟩:=IE B (ls.filter λv=>decide (P v)) (λv h=>by have:=List.mem_filter.1 h;exact hv v this.1 (of_decide_eq_true this.2)) (List.ne_nil_of_mem (List.mem_filter.2 ⟨t,decide_eq_true w⟩))
 have:g=x:=(z.iff λv=>by rw[List.mem_filter,decide_eq_true_iff]).uniq h
 exact this▸hg
theorem JK {ls:a_ (a_ Int)} {Q:a_ Int->Prop} {x:a_ Int} (h:oH n (λv=>v∈ls) x) (B:∀a b,a.length=n->b.length=n->Q a->Q b->Q (List.zipWith kD a b)) (u:ls≠[]) (hv:∀v∈ls,Q v/\v.length=n):Q x:=by
 obtain⟨g,hg,t⟩:=Iw B ls hv u;exact t.uniq h▸hg
end
section
variable {t:Trace} {A:bP 200 bt} {ls:a_ (a_ Int)} {b s:Slice}
theorem mV.iff {V W:a_ Int->Prop} (h:mV t V b) (e:∀v,V v↔W v):mV t W b:=by
 refine⟨h.e,h.f.iff e,h.l.iff e,h.j,λp r hr=>⟨(h.r p r hr).1,λi c hc=>?_⟩⟩
 rcases (h.r p r hr).2 i c hc with⟨k1,k2⟩|⟨⟨v,k1,k2⟩,k3⟩
 .exact .inl ⟨k1,λv hv=>k2 v ((e v).2 hv)⟩
 exact .inr ⟨⟨v,(e v).1 k1,k2⟩,k3.iff λv=>and_congr_left λ_=>e v⟩
theorem mV.el {V:a_ Int->Prop} (h:mV t V b) {p i:Nat} (hp:p<t.procs.l.length) (B:i<fI t p):U9 t.procs.l.length V p i (Go.VE.el b p i):=by
 have u:p<b.j.l.length:=by rw[h.j];exact hp
 obtain⟨h1,z⟩:=h.r p _ (ζd u);have w:i<b.j.l[p].l.length:=by omega
 have:=z i _ (ζd w);unfold Go.VE.el;rw[ζd u];dsimp only;rw[ζd w];exact this
theorem mV.rows {V:a_ Int->Prop} (h:mV t V b) {p:Nat} (hp:p<t.procs.l.length):w8 b p=fI t p:=by
 have u:p<b.j.l.length:=by rw[h.j];exact hp
 rw[vD u];exact(h.r p _ (ζd u)).1
theorem JQ {a b:a_ Int} (u:a.length=b.length) {p:Nat} (hp:p<a.length):nth (List.zipWith jZ a b) p=jZ (nth a p) (nth b p):=Eo u hp
theorem JM {a b:a_ Int} (u:a.length=b.length) {p:Nat} (hp:p<a.length):nth (List.zipWith kD a b) p=kD (nth a p) (nth b p):=Eo u hp
theorem BY (O:∀v∈ls,Cons t A v) (G:ls≠[]) (h:mV t (λv=>v∈ls) b):wQ t A (UV t A λv=>v∈ls) b:=by
 obtain⟨L,B⟩:=List.exists_mem_of_ne_nil ls G;have S:∀v∈ls,v.length=t.procs.l.length:=λv hv=>(O v hv).1.1
 have hQ:∀a b:a_ Int,a.length=t.procs.l.length->b.length=t.procs.l.length->Cons t A a->Cons t A b->Cons t A (List.zipWith jZ a b):=λa b D I h1 T=>Mf h1 T (kr.of jZ (D.trans I.symm))
 have Y:∀a b:a_ Int,a.length=t.procs.l.length->b.length=t.procs.l.length->Cons t A a->Cons t A b->Cons t A (List.zipWith kD a b):=λa b D I h1 T=>join_cons h1 T (kr.of kD (D.trans I.symm))
 have hf:Cons t A b.first.l:=xG (P:=λ_=>True) (h.f.iff λv=>(and_true _).symm.to_iff) hQ ⟨L,B,trivial⟩ λv hv _=>⟨O v hv,S v hv⟩
 have J:Cons t A b.last.l:=JK h.l Y G λv hv=>⟨O v hv,S v hv⟩
 have Z:∀p,p<t.procs.l.length->∀i,i<fI t p->(∃v,v∈ls/\(i:Int)<nth v p)->kC t.procs.l.length (λv=>v∈ls/\(i:Int)<nth v p) (el b p i)->Cons t A (el b p i)/\(i:Int)<nth (el b p i) p/\UV t A (λv=>v∈ls) (el b p i):=λp C i X hv U=>by
  have h1:Cons t A (el b p i):=xG U hQ hv λv hv _=>⟨O v hv,S v hv⟩
  have T:(i:Int)<nth (el b p i) p:=xG (Q:=λc=>(i:Int)<nth c p) U (λa b D I k1 k2=>by
   rw[JQ (D.trans I.symm) (by rw[D];exact C)]
   rcases pY (nth a p) (nth b p)with q|q <;> rw[q.1] <;> assumption) hv λv hv k=>⟨k,S v hv⟩
  obtain⟨v,W,aa⟩:=hv;refine⟨h1,T,⟨h1,v,W,U.2.1 v ⟨W,aa⟩⟩,λx hx z=>U.2.2 x hx λv hv=>z v hv.1 (U.2.1 v hv)⟩
 refine⟨h.e,⟨⟨hf,L,B,h.f.2.1 L B⟩,λx hx z=>h.f.2.2 x hx λv hv=>z v hv (h.f.2.1 v hv)⟩,λu hu=>hu.2 _ hf.1.1 λv hv _=>h.f.2.1 v hv,h.j,λp C=>h.rows C,λp C i X=>?_,J,(h.f.2.1 L B).trans (h.l.2.1 L B),λp C i X hu=>?_,λp C=>?_⟩
 .rcases h.el C X with⟨k1,k2⟩|⟨k1,k2⟩
  .refine .inl ⟨k1,λu hu=>?_⟩
   obtain⟨⟨ab,v,hv,z⟩,-⟩:=hu;exact Int.le_trans (z.nth (by rw[ab.1.1];exact C)) (k2 v hv)
  obtain⟨e1,e2,e3⟩:=Z p C i X k1 k2;refine .inr ⟨e3,e2,λu hu ad=>hu.2 _ k2.1 λv hv z=>k2.2.1 v ⟨hv,?_⟩⟩
  have:=z.nth (p:=p) (by rw[hu.1.1.1.1];exact C)
  omega
 .obtain⟨⟨-,v,hv,z⟩,-⟩:=hu;exact z.trans (h.l.2.1 v hv)
 obtain⟨v,hv,e⟩:∃v∈ls,nth b.last.l p=nth v p:=JK (Q:=λc=>∃v∈ls,nth c p=nth v p) h.l (λa b D I ⟨v,hv,e1⟩ ⟨w,hw,e2⟩=>by
  rw[JM (D.trans I.symm) (by rw[D];exact C)]
  rcases oC (nth a p) (nth b p)with q|q
  .exact⟨v,hv,by rw[q.1,e1]⟩
  exact⟨w,hw,by rw[q.1,e2]⟩) G λv hv=>⟨⟨v,hv,rfl⟩,S v hv⟩
 exact⟨v,UV.of O hv,e⟩
theorem Pn (B:∀v∈ls,Cons t A v) (h:mV t (λv=>v∈ls) b) {v:a_ Int} (hv:v∈ls):jm b v:=by
 refine⟨⟨⟨h.e,h.f.2.1 v hv⟩,h.l.2.1 v hv⟩,λp w i z=>?_⟩
 have u:p<t.procs.l.length:=by rw[<-(B v hv).1.1];exact w
 have:=(dY (B v hv) u).2;rcases h.el u (i:=i) Za with⟨-,k⟩|⟨-,k⟩
 .have:=k v hv;omega
 exact k.2.1 v ⟨hv,z⟩
theorem MD {a c:a_ Int} (B:a.length=c.length) (u:jm s a) (hc:jm s c):jm s (List.zipWith kD a c):=by
 obtain⟨w,C,D⟩:=(kr.of kD B).le_max B;refine⟨⟨⟨u.1.1.1,u.1.1.2.trans w⟩,D _ u.1.2 hc.1.2⟩,λp z i G=>?_⟩
 have t:p<a.length:=by rw[<-w.1]at z;exact z
 rw[JM B t]at G;rcases oC (nth a p) (nth c p)with q|q
 .exact(u.2 p t i Za).trans w
 exact(hc.2 p Za i Za).trans C
theorem NU {a c:a_ Int} (B:a.length=c.length) (u:jm s a) (hc:jm s c):jm s (List.zipWith jZ a c):=by
 obtain⟨w,G,z⟩:=(kr.of jZ B).le_min B;refine⟨⟨⟨u.1.1.1,z _ u.1.1.2 hc.1.1.2⟩,w.trans u.1.2⟩,λp C i D=>?_⟩
 have t:p<a.length:=by rw[w.1]at C;exact C
 rw[JQ B t]at D;have h1:=pY (nth a p) (nth c p);exact z _ (u.2 p t i Za) (hc.2 p Za i Za)
theorem SY (B:mU t A s) (U:s.empty=false) {c:a_ Int}:sD t.procs.l.length s c↔Cons t A c/\jm s c:=by
 constructor
 .intro h;refine⟨(qR B h).1,?_⟩
  induction h with
  | first=>exact zS B U
  | step c p h w J L=>
   have C:=(qR B h).1;have O:=dY C w;obtain⟨g1,-,g3⟩:=Cm B U w (i:=(nth c p).toNat) Za
   exact MD (C.1.1.trans g3.1.1.symm) L g1
 rintro⟨C,Q⟩;have key:∀(k:Nat) (d:a_ Int),sD t.procs.l.length s d->c9 d c->c.sum-d.sum<=(k:Int)->sD t.procs.l.length s c:=by
  intro k
  induction k with
  | zero=>
   intro d hd u hk;have:=(DJ u).2 (by have:=(DJ u).1;omega)
   exact this▸hd
  | succ k L=>
   intro d hd u hk
   by_cases e:d=c
   .exact e▸hd
   have z:=qR B hd;have:∃p,p<t.procs.l.length/\nth d p<nth c p:=by
    refine Classical.byContradiction λW=>e ?_
    refine u.anti (pP.2 ⟨u.1.symm,λp w=>?_⟩)
    exact Int.not_lt.1 λq=>W ⟨p,by rw[<-C.1.1];exact w,q⟩
   obtain⟨p,w,S⟩:=this;have D:p<c.length:=by rw[C.1.1];exact w
   have O:=dY z.1 w;have J:nth d p<nth s.last.l p:=Int.lt_of_lt_of_le S (Q.1.2.nth D);obtain⟨X,Y⟩:=Me B z.1 z.2 w J;have G:=Q.2 p D (nth d p).toNat Za
   have I:d.length=(el s p (nth d p).toNat).length:=u.1.trans G.1.symm;have T:c9 (xX s d p) c:=((kr.of kD I).le_max I).2.2 c u G;exact L _ (.step d p hd w J) T Za
 exact key (c.sum-s.first.l.sum).toNat _ .first Q.1.1.2 Za
end
section
variable {α σ:Type}
end
end Go.VE
namespace Go.VE
section
variable {t:Trace}
end
section
variable {P:Pred} {t:Trace}
end
def Yy (az:a_ Assign):Prop:=∀(i j:Nat) a b,i<j->az[i]? = some a->az[j]? = some b->a.var≠b.var
section
variable {P:cu} {v:Nat}
def fT (o:bf Int) (low high:Int):Int×Int:=match o with
 | none=>(low,high)
 | some x=>(if x<low then x else low,if x>high then x else high)
end
section
variable {t:Trace} {A:bP 200 bt}
end
section
variable {t:Trace}
end
end Go.VE
namespace Go.VE
end Go.VE
namespace Go.VE
section
variable {t:Trace} {A:bP 200 bt} {P:cu} {v:Nat}
end
end Go.VE
namespace Go.VE
section
variable {t:Trace}
end
section
variable {t:Trace} {A:bP 200 bt}
end
end Go.VE
namespace Go.VE
end Go.VE
namespace Go.VE
section
variable {t:Trace}
end
end Go.VE
namespace Go.VE
section
variable {t:Trace}
end
section
variable {t:Trace} {A:bP 200 bt}
end
section
variable {t:Trace}
end
theorem WD {t:Trace} (B:Small t) {m:Int} (D:0<=m) (J:m<=1000):∃b,iO t m=some b/\(b=true->∀p,p<t.procs.l.length->(fI t p:Int)<=m):=by
 suffices h:Wp (iO t m) λb=>b=true->∀p,p<t.procs.l.length->(fI t p:Int)<=m from h
 unfold iO iO.W1;refine iC t.procs.l.length (λi q=>q.2=(i:Int)/\0<=q.1/\q.1<=m/\∀p,p<i->(fI t p:Int)<=m) ⟨rfl,Int.le_refl 0,D,λp w=>absurd w Za⟩ ?_ ?_
 .rintro n ⟨c,_⟩ u ⟨e,i1,i2,C⟩;simp only at e i1 i2;subst e;have h1:=B.1;have G:=(B.2 _ (List.getElem_mem u)).1;have I:IntKind.wrap .i64 (c+len t.procs.l[n].events)=c+(t.procs.l[n].events.l.length:Int):=by rw[mT _ (by simp only[len];omega) (by simp only[len];omega)]
  unfold iO.br;rw[jV u,bJ,bG u,ζb,I,jD,ζb,jD,ζb];rw[y6 (f:=λz=>(qJ z).getD false) (λz _=>EX.ok ((bk _).2 trivial)) G]
  rw[Bb (f:=λz=>(qN z).getD false) (λz _=>EX.ok ((bk _).2 trivial)) (B.2 _ (List.getElem_mem u)).2.1]
  simp only[ζb,jD];rw[cg];refine⟨λ_=>(bk _).2 ((bk _).2 λh=>(nomatch h)),λh=>(bk _).2 ?_⟩
  simp only[Bool.or_eq_false_iff,decide_eq_false_iff_not]at h;refine⟨cH n Za,by show 0<=c+_;omega,by show c+_<=m;omega,λp w=>?_⟩
  rcases Nat.lt_or_eq_of_le (Nat.lt_succ_iff.1 w)with q|rfl
  .exact C p q
  rw[kP u];omega
 rintro⟨c,_⟩ ⟨e,i1,i2,C⟩;simp only at e;subst e;unfold iO.br;rw[kA,bL,bk];exact(bk _).2 λ_=>C
section
variable {t:Trace} {A:bP 200 bt} {L ls:a_ (a_ Int)} {b s:Slice}
open Classical in
noncomputable def m_ (L:a_ (a_ Int)) (s:Slice):a_ (a_ Int):=L.filter λc=>decide (jm s c)
theorem jJ {c:a_ Int}:c∈m_ L s↔c∈L/\jm s c:=by unfold m_;simp[List.mem_filter]
theorem VP (u:xM t A L) (B:L.length<=5000) (D:mU t A s) (G:s.empty=false):M_ t.procs.l.length s (m_ L s):=
 ⟨u.srt.filter _,λc=>by rw[jJ,u.mem,SY D G],Nat.le_trans (List.length_filter_le _ _) B⟩
end
section
variable {t:Trace} {A:bP 200 bt} {L ls:a_ (a_ Int)}
theorem Fx (e:Bool):dV ⟨e,.nil,.nil,.nil⟩ ⟨e,.nil,.nil,.nil⟩=some true:=by
 obtain⟨x,u,t⟩:=FU (a:=(.nil:Sl Int)) (b:=.nil) (by simp[Sl.l])
 refine Wp.eq ?_;unfold dV;simp only[beq_self_eq_true,bJ,u,t.2 rfl,ζb,Bool.not_true,bL];unfold dV.W1;refine iC 0 (λi (q:Int)=>q=0) rfl (λi _ h=>absurd h Za) ?_
 rintro _ rfl;unfold dV.br;rw[show decide ((0:Int)<len (.nil:Sl (Sl (Sl Int))))=false from rfl,bL,bk];exact(bk _).2 rfl
theorem Hz (hv:cE t=some true) {o:Sl (Sl Int)} (u:o.l=[]):dB t o=some (⟨true,.nil,.nil,.nil⟩,0):=by
 have w:dK o (λz=>jP z t)=some false:=by
  rw[lJ (f:=λ_=>false) (λx B=>by rw[u]at B;cases B) (by rw[u];simp),u];rfl
 unfold dB;rw[hv,ζb,bJ,show decide ((len o)>5000)=false from by simp[len,u],bL,w,ζb,bL,show ((len o)==0)=true from by simp[len,u],bJ]
theorem Tv {v:Bool} (D:Small t) (hv:cE t=some v) (u:nG t=some v) (B:v=true->VT t):∃z,lS t=some z:=by
 unfold lS;rw[u,ζb]
 cases v with
 | false=>exact⟨true,rfl⟩
 | true=>
  obtain⟨A,-,-,w⟩:=(B rfl).msgs;rw[bJ];obtain⟨⟨s,b⟩,h,-⟩:=Ft D (B rfl) w;rw[h,ζb];cases b <;> exact⟨_,rfl⟩
theorem NR {s:Sl (Sl Int)} (B:nG t=some true) (h:eA t=some (s,true)) (hsl:ins s=L) (u:lS t=some true):L.length<=300:=by
 unfold lS at u;rw[B,ζb,bJ,h,ζb]at u;dsimp only at u;rw[bJ,ζb]at u;have u:=of_decide_eq_true (Option.some.inj u);rw[<-hsl,tE];simp only[len]at u;omega
end
section
variable {t:Trace} {A:bP 200 bt}
end
section
variable {t:Trace} {c:Sl Int} {p q:Pred}
abbrev nd (k:Int) (L:a_ Pred):Pred:=⟨k,0,0,0,ByteArray.empty,.row L⟩
end
section
variable {t:Trace} {A:bP 200 bt} {L ls:a_ (a_ Int)} {p q:Pred}
end
section
variable {t:Trace} {A:bP 200 bt} {L ls:a_ (a_ Int)}
theorem VN (e:Bool):qt ⟨e,.nil,.nil,.nil⟩=(dV ⟨e,.nil,.nil,.nil⟩ ⟨false,.nil,.nil,.nil⟩).bind λx=>some x:=rfl
theorem Ey:qt ⟨false,.nil,.nil,.nil⟩=some true:=by rw[VN,Fx];rfl
theorem N_ (hv:cE t=some true):fF t ⟨true,.nil,.nil,.nil⟩=some true:=by
 unfold fF;rw[hv,ζb,bJ];rfl
theorem PW (hv:cE t=some true):nZ t ⟨true,.nil,.nil,.nil⟩=some (.nil,0):=by
 unfold nZ;rw[N_ hv,ζb,bJ];rfl
theorem Sc (J:Small t) (hv:cE t=some true) (O:VT t) (U:fR t (bT t) A) (B:xM t A L) (W:L.length<=5000) {s:Slice} (D:mU t A s) (T:lK s) (G:s.empty=false) :
 fF t s=some true/\∃r,nZ t s=some (r,0)/\ins r=m_ L s:=by
 obtain⟨x,I,w⟩:=(vO J hv O U T).eq;have u:fF t s=some true:=by rw[I,w.2 (.inr ⟨G,D⟩)]
 obtain⟨r,hr,z,C⟩:=SI J O D T G (VP B W D G);refine⟨u,r.1,?_,C⟩;unfold nZ;rw[u,ζb,bJ,hr,ζb,z,bJ]
end
section
variable {t:Trace} {A:bP 200 bt} {s:Slice}
end
section
variable {t:Trace} {A:bP 200 bt} {s:Slice} {U V:a_ Int->Prop}
theorem Pr (u:VT t) (B:fR t (bT t) A):Cons t A (BH t):=IA u B
end
section
variable {t:Trace} {A:bP 200 bt} {L ls:a_ (a_ Int)}
theorem UF (J:Small t) (hv:cE t=some true) (O:VT t) (hM:fR t (bT t) A) {a b:Slice} (B:lK a) (D:lK b) (T:lH t A a) (G:lH t A b) :
 ∃z,uG t a b=some (z,0)/\(z=true↔a.empty=true\/D2 t A a b):=by
 have e1:∀m:bf Bool,(m.bind λx=>some x)=m:=λm=>by cases m <;> rfl
 have W:∀p,p<t.procs.l.length->fI t p<1073741824:=λp w=>by rw[kP w];exact(J.2 _ (List.getElem_mem w)).1
 have h8:=O.few;obtain⟨x,hx,X⟩:=(vO J hv O hM B).eq;obtain⟨y,hy,Y⟩:=(vO J hv O hM D).eq;unfold uG;rw[hx,ζb,X.2 T,bJ,hy,ζb,Y.2 G,ζb,show (!true)=false from rfl,bL]
 cases he:a.empty with
 | true=>exact⟨true,rfl,λ_=>.inl rfl,λ_=>rfl⟩
 | false=>
  have u:mU t A a:=by rcases T with⟨h,_⟩|⟨_,h⟩ <;> first|exact h|(rw[he]at h;cases h)
  have L:a.last.l.length=t.procs.l.length:=u.1.1.1.1.1.2.1.1;have aa:a.j.l.length=t.procs.l.length:=u.1.1.1.2;have S:Cons t A a.first.l:=u.1.1.1.1.1.1
  have Z:∀p,p<t.procs.l.length->∀i:Nat,(i:Int)<nth a.last.l p->i<w8 a p/\Cons t A (el a p i):=λp w i hi=>by
   obtain⟨g1,g2⟩:=CQ u.1.1 u.1.2 w hi;exact⟨by rw[u.1.1.2 p w];exact g1,g2⟩
  have p1:cU (pL b a.first) (Cons t A a.first.l/\jm b a.first.l):=(LC J O D G S).iff ⟨λh=>⟨S,h⟩,λh=>h.2⟩
  have p2:=cU.and p1 (Q:=∀p,p<t.procs.l.length->∀i:Nat,(i:Int)<nth a.last.l p->Cons t A (el a p i)/\jm b (el a p i)) (n:=gu a.last (λz=>lE z b a)) (λ_=>by
   have hh:=B.l;rw[<-L];refine sy (g:=λp i=>Cons t A (el a p i)/\jm b (el a p i)) Za (λp w=>?_) (λp w i hi=>?_)
   .have:=dY u.1.1.1.1.1.2 (p:=p) Za;have:=W p Za;omega
   obtain⟨g1,g2⟩:=Z p Za i hi
   obtain⟨d,hd,U,ab⟩:=vF (s:=a) (p:=p) (i:=i) Za g1 B
   unfold lE;rw[hd,ζb,e1,<-U];rw[<-U]at g2;exact(LC J O D G g2).iff ⟨λh=>⟨g2,h⟩,λh=>h.2⟩) (f:=λC=>(bp C ((gu a.last (λz=>lE z b a)).bind λI=>some I) (some false):bf Bool)) (λb=>rfl)
  obtain⟨z,z1,z2⟩:=p2.eq;rw[bL,<-Option.bind_assoc (f:=λC=>bp C ((gu a.last λz=>lE z b a).bind λI=>some I) (some false)),z1]
  exact⟨z,rfl,z2.trans ⟨.inr,λh=>h.resolve_left λk=>by cases k⟩⟩
theorem PU (hS:Small t) (hv:cE t=some true) (hV:VT t) (hM:fR t (bT t) A):Wp (gb t) λq=>q.2=0/\wQ t A (Cons t A) q.1:=by
 have ap:=hV.few;have ad:∀p,p<t.procs.l.length->fI t p<1073741824:=λp w=>by rw[kP w];exact(hS.2 _ (List.getElem_mem w)).1
 obtain⟨fi,ae,af,ah⟩:=G8 hS hV;have T:fi.l=BH t:=SH (by rw[af];simp[BH]) λp w=>by rw[ah p Za,J3 Za]
 have U:kX (len t.procs) (0:Int)=some (Sl.row (List.replicate t.procs.l.length 0)):=by
  unfold kX;rw[if_pos ⟨by simp[len],by simp[len];omega⟩];simp[len]
 unfold gb;rw[hv,ζb,bJ,U,ζb,ae,ζb];unfold gb.W1;refine iC t.procs.l.length (λp (q:Int×Trace×Slice×Slice)=>q.1=(p:Int)/\q.2.1=t/\q.2.2.2.empty=false/\q.2.2.2.first.l=List.replicate t.procs.l.length 0/\q.2.2.2.last=fi/\q.2.2.2.j.l.length=p/\∀D r,q.2.2.2.j.l[D]? = some r->r.l.length=fI t D/\∀(i:Nat) (c:Sl Int),r.l[i]? = some c->Cons t A c.l/\(i:Int)<nth c.l D/\∀u,Cons t A u->(i:Int)<nth u D->c9 c.l u)
  ⟨rfl,rfl,rfl,rfl,rfl,rfl,λD r h=>by simp[Sl.l]at h⟩ ?_ ?_
 .rintro p ⟨_,t',vb,s⟩ w ⟨e,G,i1,i2,i3,i4,Q⟩;simp only at e G i1 i2 i3 i4 Q;subst e;have G:=G.symm;subst G;have ao:=ad p w;have aq:t.procs.l[p].events.l.length=fI t p:=(kP w).symm;unfold gb.br;rw[jV w,bJ,bG w,ζb];unfold gb.W2;refine iC (fI t p) (λi (q:Sl (Sl Int)×Int×Slice×Slice)=>q.2.1=(i:Int)/\q.2.2.2=s/\q.1.l.length=i/\∀(I:Nat) (c:Sl Int),q.1.l[I]? = some c->Cons t A c.l/\(I:Int)<nth c.l p/\∀u,Cons t A u->(I:Int)<nth u p->c9 c.l u) ⟨rfl,rfl,rfl,λI c h=>by simp[Sl.l]at h⟩ ?_ ?_
  .rintro i ⟨row,_,ai,s2⟩ hi ⟨e,es,k1,k2⟩;simp only at e es k1 k2;subst e;have es:=es.symm;subst es;have W:p<(Sl.row (List.replicate t.procs.l.length (0:Int))).l.length:=by show p<(List.replicate _ _).length;rw[List.length_replicate];exact w
   obtain⟨c,hc,z⟩:=put_eq (s:=Sl.row (List.replicate t.procs.l.length (0:Int))) (p:=p) (x:=((i:Int)+1)) W;have z:c.l=(List.replicate t.procs.l.length (0:Int)).set p ((i:Int)+1):=z;have L:∀q,q<t.procs.l.length->nth c.l q=if q=p then(i:Int)+1 else 0:=λq S=>by
    unfold nth;rw[z,List.getElem?_set]
    by_cases e:p=q
    .subst e;simp[S]
    rw[if_neg e,if_neg (Ne.symm e),List.getElem?_replicate,if_pos S];rfl
   have aj:lR t c.l:=(Te (by rw[z];simp)).2 λq S=>by
    rw[L q S];split
    next e=>subst e;omega
    omega
   obtain⟨r,hr,ar,B,ak,al⟩:=Qs hS hv hV hM aj;obtain⟨o,ho,C⟩:=tK (s:=row) (x:=r.1) Za
   have J:c.l.length=r.1.l.length:=by rw[B.1.1,z];simp
   unfold gb.cm;rw[show decide ((i:Int)<len t.procs.l[p].events)=true from decide_eq_true (by simp only[len];omega),bJ,U,ζb,xU W,ζb,cH i Za,show (((i+1:Nat):Int))=(i:Int)+1 from by omega,hc,ζb,hr,ζb,ho,ζb,bk]
   refine⟨by show (i:Int)+1=((i+1:Nat):Int);omega,rfl,by show o.l.length=_;rw[C];simp[k1],λI d hd=>?_⟩
   change o.l[I]? = some d at hd;rw[C]at hd
   by_cases h:I<row.l.length
   .rw[List.getElem?_append_left h]at hd;exact k2 I d hd
   have:I=i:=by
    have:=(ζe.1 hd).1;simp at this;omega
   subst this;rw[<-k1,List.getElem?_concat_length]at hd;cases hd;have am:=(Kr J).2 ak;refine⟨B,?_,λu hu au=>?_⟩
   .have:=am.nth (p:=p) (by rw[z];simp[w])
    rw[L p w,if_pos rfl]at this;omega
   refine(Kr (by rw[B.1.1,hu.1.1])).2 (al u hu ((Kr (by rw[J,B.1.1,hu.1.1])).1 (pP.2 ⟨by rw[J,B.1.1,hu.1.1],λq S=>?_⟩)))
   have X:q<t.procs.l.length:=by rw[<-B.1.1,<-J];exact S
   have:=(dY hu X).1;rw[L q X];split
   next e=>subst e;omega
   exact this
  rintro⟨row,_,ai,s2⟩ ⟨e,es,k1,k2⟩;simp only at e es k1 k2;subst e;have es:=es.symm;subst es;unfold gb.cm;rw[show decide (((fI t p:Nat):Int)<len t.procs.l[p].events)=false from decide_eq_false (by simp only[len];omega),bL,bk]
  obtain⟨o,ho,C⟩:=tK (s:=s.j) (x:=row) Za
  show Wp ((eT s.j row).bind _) _;rw[ho,ζb,bk];refine⟨cH p Za,rfl,i1,i2,i3,by show o.l.length=_;rw[C];simp[i4],λD r hr=>?_⟩
  change o.l[D]? = some r at hr;rw[C]at hr
  by_cases h:D<s.j.l.length
  .rw[List.getElem?_append_left h]at hr;exact Q D r hr
  have:D=p:=by
   have:=(ζe.1 hr).1;simp at this;omega
  subst this;rw[<-i4,List.getElem?_concat_length]at hr;cases hr;exact⟨k1,k2⟩
 rintro⟨_,t',vb,s⟩ ⟨e,G,i1,i2,i3,i4,Q⟩;simp only at e G i1 i2 i3 i4 Q;subst e;have G:=G.symm;subst G;unfold gb.br;rw[kA,bL,bk];refine(bk _).2 ⟨rfl,?_⟩;have O:Cons t A fi.l:=by rw[T];exact Pr hV hM
 have Y:∀p,p<t.procs.l.length->w8 s p=fI t p:=λp w=>by
  rw[vD Za];exact(Q p _ (ζd Za)).1
 have an:∀p,p<t.procs.l.length->∀i,i<fI t p->Cons t A (el s p i)/\(i:Int)<nth (el s p i) p/\∀u,Cons t A u->(i:Int)<nth u p->c9 (el s p i) u:=λp w i hi=>by
  have Z:p<s.j.l.length:=by omega
  obtain⟨h1,h2⟩:=Q p _ (ζd Z);have aa:i<s.j.l[p].l.length:=by omega
  have:=h2 i _ (ζd aa);unfold el;rw[ζd Z];dsimp only;rw[ζd aa];exact this
 have hz:∀u,Cons t A u->c9 (List.replicate t.procs.l.length 0) u:=λu hu=>pP.2 ⟨by simp[hu.1.1],λp w=>by
  have ab:p<t.procs.l.length:=by simpa using w
  rw[show nth (List.replicate t.procs.l.length 0) p=0 from by unfold nth;rw[List.getElem?_replicate,if_pos ab];rfl]
  exact(dY hu ab).1⟩
 exact⟨i1,by rw[i2];exact Dw,λu hu=>by rw[i2];exact hz u hu,i4,Y,λp w i hi=>.inr (an p w i hi),by rw[i3];exact O,by rw[i2,i3];exact hz _ O,λp w i hi hu=>by rw[i3,T];exact O9 hu,λp w=>⟨_,by rw[i3];exact O,rfl⟩⟩
theorem MR (B:xM t A L) (D:∀v∈ls,v∈L) (T:ls≠[]) {b:Slice} (h:mV t (λv=>v∈ls) b):mV t (λv=>v∈m_ L b) b/\m_ L b≠[]/\∀v∈m_ L b,Cons t A v:=by
 have Y:∀v∈ls,Cons t A v:=λv hv=>(B.mem v).1 (D v hv)
 have z:=BY Y T h;have S:∀u,UV t A (λv=>v∈ls) u->Cons t A u:=λu h=>h.1.1
 have C:=z.form S;have Z:b.first.l∈m_ L b:=jJ.2 ⟨(B.mem _).2 C.1.1.1.1.1.1,zS C z.e⟩
 have hl:b.last.l∈m_ L b:=jJ.2 ⟨(B.mem _).2 C.1.1.1.1.1.2,On C z.e⟩;refine⟨⟨h.e,⟨h.f.1,λv hv=>(jJ.1 hv).2.1.1.2,λy hy k=>k _ Z⟩,⟨h.l.1,λv hv=>(jJ.1 hv).2.1.2,λy hy k=>k _ hl⟩,h.j,λp r hr=>⟨(h.r p r hr).1,λi c hc=>?_⟩⟩,List.ne_nil_of_mem Z,λv hv=>(B.mem v).1 (jJ.1 hv).1⟩
 have G:p<t.procs.l.length:=by rw[<-h.j];exact(ζe.1 hr).1
 have hi:i<fI t p:=by rw[<-(h.r p r hr).1];exact(ζe.1 hc).1
 have I:el b p i=c.l:=by unfold el;rw[hr];dsimp only;rw[hc]
 have J:p<b.last.l.length:=by rw[h.l.1];exact G
 rcases (h.r p r hr).2 i c hc with⟨k1,k2⟩|⟨⟨v,k1,k2⟩,k3⟩
 .refine .inl ⟨k1,λu hu=>?_⟩
  obtain⟨w,⟨⟨U,x,hx,O⟩,-⟩,aa⟩:=z.la p G;have h1:=(jJ.1 hu).2.1.2.nth (p:=p) (by rw[(jJ.1 hu).2.1.2.1];exact J)
  have h2:=O.nth (p:=p) (by rw[U.1.1];exact G)
  have h3:=k2 x hx;omega
 have hv:=(h.l.2.1 v k1).nth (p:=p) (by rw[(Y v k1).1.1];exact G)
 have W:(i:Int)<nth b.last.l p:=by omega
 obtain⟨g1,g2,g3⟩:=Cm C z.e G W;rw[I]at g1 g2 g3;have Q:c.l∈m_ L b:=jJ.2 ⟨(B.mem _).2 g3,g1⟩;refine .inr ⟨⟨c.l,Q,g2⟩,k3.1,λu hu=>?_,λy hy k=>k _ ⟨Q,g2⟩⟩
 have X:p<u.length:=by rw[(jJ.1 hu.1).2.1.2.1];exact J
 have:=(jJ.1 hu.1).2.2 p X i hu.2;rw[I]at this;exact this
theorem Sp (u:Small t) (hv:cE t=some true) (B:VT t) (D:fR t (bT t) A) {s:Slice} (G:lK s) (J:lH t A s) {c:Sl Int} (O:Cons t A c.l):∃x,pE t s c=some x/\(x=true↔jm s c.l):=by
 obtain⟨x,e1,h1⟩:=vO u hv B D G;obtain⟨y,e2,w⟩:=yN u hv B D c;obtain⟨z,e3,C⟩:=LC u B G J O;refine⟨z,?_,C⟩;unfold pE;rw[e1,ζb,h1.2 J,bJ,e2,ζb,ζb,w.2 O,bJ,e3];rfl
theorem RZ (l:Sl (Sl Int)):∃b,ku l=some b/\(b=true->l.l.length<=60/\∀c∈l.l,c.l.length<=12):=by
 by_cases t:l.l.length<=60
 .unfold ku;rw[show decide ((len l)<=60)=true from decide_eq_true (by simp only[len];omega),bJ,lJ (p:=λz=>mg z) (f:=λc=>decide ((len c)>12)) (λx _=>rfl) Za,ζb]
  refine⟨_,rfl,λh=>⟨t,λc hc=>?_⟩⟩
  simp only[Bool.not_eq_true',List.any_eq_false,decide_eq_true_eq,len]at h;have:=h c hc;omega
 unfold ku;rw[show decide ((len l)<=60)=false from decide_eq_false (by simp only[len];omega),bL]
 exact⟨false,rfl,λh=>by cases h⟩
theorem Ox {l:Sl (Sl Int)} {s:Slice} (O:Small t) (hN:(bT t).length<1073741824) (aJ:Pg s):dg t l s=some true:=by
 classical
 obtain⟨fw,aK,aL⟩:=WD O (m:=14) Za Za
 obtain⟨sh,aM,ao⟩:=RZ l;obtain⟨lg,aN,ap⟩:=O7 aJ;obtain⟨v,hv,ae,B⟩:=N1 O hN;obtain⟨z,hz⟩:=Tv O hv ae B;unfold dg sA;rw[ζb,bJ,aK,ζb,ζb]
 cases fw with
 | false=>rfl
 | true=>
 rw[show (!true)=false from rfl,bL,aM,ζb,ζb]
 cases sh with
 | false=>rfl
 | true=>
 rw[show (!true)=false from rfl,bL,aN,ζb,ζb]
 cases lg with
 | false=>rfl
 | true=>
 rw[show (!true)=false from rfl,bL,hz,ζb,ζb]
 cases z with
 | false=>rfl
 | true=>
 rw[show (!true)=false from rfl,bL];obtain⟨a6,a7⟩:=ao rfl;have af:=ap rfl
 cases v with
 | false=>
  unfold dB;rw[hv,ζb,bL,ζb];dsimp only;rw[show ((1:Int)==0)=false from rfl,bL,Ey];rfl
 | true=>
 have B:=B rfl;have a9:=B.few;obtain⟨A,-,-,T⟩:=B.msgs;have aq:∀p,p<t.procs.l.length->fI t p<=20:=λp hp=>by have:=aL rfl p hp;omega
 obtain⟨⟨s0,b0⟩,ar,aO⟩:=Ft O B T;rcases aO with⟨U,D,-⟩|⟨U,au,-⟩
 rotate_left
 .exfalso;simp only at U au;subst U au;unfold lS at hz;rw[ae,ζb,bJ,ar]at hz;cases hz
 simp only at U D;subst U;obtain⟨L,av⟩:∃L,ins s0=L:=⟨_,rfl⟩;rw[av]at D;have ah:=NR ae ar av hz;have h3:L.length<=5000:=Nat.le_trans ah (by decide)
 by_cases hC:∀x∈l.l,Cons t A x.l
 rotate_left
 .have aw:dK l (λz=>jP z t)=some true:=by
   rw[lJ (f:=λx => !decide (Cons t A x.l)) (λx G=>by
    obtain⟨z,hz,aP⟩:=cU.eq (yN O hv B T x);have:z=decide (Cons t A x.l):=by rw[Bool.eq_iff_iff,aP,decide_eq_true_iff]
    unfold jP;rw[hz,this];rfl) Za,Option.some_inj,List.any_eq_true]
   refine Classical.byContradiction λh=>hC λx G=>Classical.byContradiction λk=>h ⟨x,G,by simp[k]⟩
  unfold dB;rw[hv,ζb,bJ,show decide ((len l)>5000)=false from decide_eq_false (by simp only[len];omega),bL,aw,ζb,bJ,ζb]
  dsimp only;rw[show ((18:Int)==0)=false from rfl,bL,Ey];rfl
 obtain⟨all,aQ,ax⟩:=(vO O hv B T af).eq;have key:∀u:Slice,dB t l=some (u,0)->lK u->lH t A u->(u.empty=true↔l.l=[])->(∀x∈l.l,jm u x.l)->(lH t A s->(∀x∈l.l,jm s x.l)->u.empty=true\/D2 t A u s)->dg.J2 t u=some true->((dB t l).bind λI=>bp (I.2==0) ((fF t I.1).bind λay=>(bp ay (some (!(I.1.empty==((len l)==0)))) (some true):bf Bool).bind λaA=>bp aA (some false) ((fF t s).bind λaB=>dg.W1 aB l (len l) 0 t s I.1)) ((qt I.1).bind λaC=>some aC))=some true:=λu hu C J aR aD Q hJ=>by
  obtain⟨y,hy,aS⟩:=(vO O hv B T C).eq;have aE:(u.empty==((len l)==0))=true:=by
   rw[beq_iff_eq,Bool.eq_iff_iff,aR];simp[len]
  rw[hu,ζb];dsimp only;rw[show ((0:Int)==0)=true from rfl,bJ,hy,ζb,aS.2 J,bJ,aE,ζb,show (!true)=false from rfl,bL,aQ,ζb];refine Wp.eq ?_;unfold dg.W1;refine iC l.l.length (λi (q:Bool×Int)=>q.2=(i:Int)/\(q.1=true->lH t A s/\∀j x,j<i->l.l[j]? = some x->jm s x.l)) ⟨rfl,λe=>⟨ax.1 e,λj x hj=>absurd hj Za⟩⟩ ?_ ?_
  .rintro i ⟨al,_⟩ Y ⟨e,ih⟩;simp only at e ih;subst e;have aF:=hC _ (List.getElem_mem Y);unfold dg.br;rw[jV Y,bJ,bG Y,ζb,PL O hv B T C J aF (aD _ (List.getElem_mem Y)),ζb,bJ]
   cases al with
   | false=>
    rw[bL,ζb,bk];exact⟨cH i Za,λh=>by cases h⟩
   | true=>
    obtain⟨g1,g2⟩:=ih rfl;obtain⟨x,G,aT⟩:=Sp O hv B T af g1 aF;rw[bJ,G,ζb,ζb,bk];refine⟨cH i Za,λh=>⟨g1,λj y hj hy=>?_⟩⟩
    rcases Nat.lt_or_eq_of_le (Nat.lt_succ_iff.1 hj)with q|rfl
    .exact g2 j y q hy
    rw[ζd Y]at hy;cases hy;exact aT.1 h
  rintro⟨al,_⟩ ⟨e,ih⟩;simp only at e ih;subst e;unfold dg.br;rw[kA,bL,bk];show Wp (bp al _ _) _
  cases al with
  | false=>rw[bL,hJ,bk]
  | true=>
   obtain⟨g1,g2⟩:=ih rfl;obtain⟨w,hw,ai⟩:=UF O hv B T C af J g1;have aU:w=true:=ai.2 (Q g1 λx G=>by
    obtain⟨j,hj⟩:=List.mem_iff_getElem?.1 G;exact g2 j x (ζe.1 hj).1 hj)
   rw[bJ,hw,ζb];dsimp only;rw[show ((0:Int)==0)=true from rfl,bJ,aU,ζb,show (!true)=false from rfl,bL,hJ,bk]
 obtain⟨wh,aV,aG,Z⟩:=PU O hv B T;have aW:=E9 B (λ_ h=>h) aq Z
 have aX:=Z.valid (λ_ h=>h)
 have W:∀u v w:a_ Int,Cons t A u->Cons t A v->kr kD u v w->Cons t A w:=λu v w h1 h2 h3=>join_cons h1 h2 h3
 have ad:∀u:Slice,lK u->lH t A u->(u.empty=true\/D2 t A u wh.1)->∀r:Sl (Sl Int),nZ t u=some (r,0)->r.l.length<=300->∀again,dB t r=some (again,0)->dV again u=some true->dg.J2 t u=some true:=λu C J Q r hr aY again ha aj=>by
  obtain⟨w,hw,ai⟩:=UF O hv B T C aW J aX;unfold dg.J2;rw[aV,ζb,hw,ai.2 Q,ζb,hr,ζb];dsimp only;rw[aG,show ((0:Int)==0)=true from rfl,bJ,ζb,show (!true)=false from rfl,bL,ζb,bL,ζb,bL,show decide ((len r)>300)=false from decide_eq_false (by simp only[len];omega),ζb,bL,ha,ζb]
  dsimp only;rw[show ((0:Int)==0)=true from rfl,bJ,aj];rfl
 by_cases S:l.l=[]
 .refine key ⟨true,.nil,.nil,.nil⟩ (Hz hv S) ⟨by simp[Sl.l],by simp[Sl.l],by simp[Sl.l],by simp[Sl.l]⟩ (.inl ⟨rfl,⟨⟨rfl,rfl⟩,rfl⟩⟩) ⟨λ_=>S,λ_=>rfl⟩ (λx G=>by rw[S]at G;cases G) (λ_ _=>.inl rfl) ?_
  exact ad _ ⟨by simp[Sl.l],by simp[Sl.l],by simp[Sl.l],by simp[Sl.l]⟩ (.inl ⟨rfl,⟨⟨rfl,rfl⟩,rfl⟩⟩) (.inl rfl) .nil (PW hv) (by simp[Sl.l]) _ (Hz hv rfl) (Fx true)
 obtain⟨q,hq,aZ,ah⟩:=Ka O hv B T hC Za S
 have X:mV t (λv=>v∈ins l) q.1:=ah.iff λv=>by rw[jW]
 have aa:∀v∈ins l,Cons t A v:=λv hv=>by obtain⟨x,G,rfl⟩:=jW.1 hv;exact hC x G
 have aH:∀v∈ins l,v∈L:=λv hv=>(D.mem v).2 (aa v hv)
 have ak:ins l≠[]:=λe=>S (by unfold ins at e;exact List.map_eq_nil_iff.1 e)
 have hB:=BY aa ak X;have am:∀u,UV t A (λv=>v∈ins l) u->Cons t A u:=λu h=>h.1.1
 have hF:=hB.form am;have C:=E9 B am aq hB;have J:=hB.valid am;have a1:dB t l=some (q.1,0):=by rw[hq,<-aZ]
 obtain⟨-,r,hr,ab⟩:=Sc O hv B T D h3 hF C hB.e;obtain⟨s1,s2,s3⟩:=MR D aH ak X;have aY:r.l.length=(m_ L q.1).length:=by rw[<-tE,ab]
 have ba:(m_ L q.1).length<=L.length:=List.length_filter_le _ _;have aI:r.l≠[]:=λe=>s2 (by rw[<-ab];unfold ins;rw[e];rfl)
 obtain⟨g,hg,a2,a3⟩:=Ka O hv B T (l:=r) (λx G=>s3 _ (by rw[<-ab];exact jW.2 ⟨x,G,rfl⟩)) Za aI
 have a4:mV t (λv=>v∈m_ L q.1) g.1:=a3.iff λv=>by rw[<-ab,jW]
 refine key q.1 a1 C J ⟨λe=>(by rw[hB.e]at e;cases e),λe=>absurd e S⟩ (λx G=>Pn aa X (jW.2 ⟨x,G,rfl⟩)) (λbb an=>.inr ?_) ?_
 .have hl:∀v∈ins l,v.length=t.procs.l.length:=λv hv=>(aa v hv).1.1
  have hH:∀v∈ins l,jm s v:=λv hv=>by obtain⟨x,G,rfl⟩:=jW.1 hv;exact an x G
  obtain⟨v0,a5⟩:=List.exists_mem_of_ne_nil _ ak;have hQ:∀a b:a_ Int,a.length=t.procs.l.length->b.length=t.procs.l.length->jm s a->jm s b->jm s (List.zipWith jZ a b):=λa b ha hb h1 h2=>NU (ha.trans hb.symm) h1 h2
  refine⟨⟨hF.1.1.1.1.1.1,xG (P:=λ_=>True) (X.f.iff λv=>(and_true _).symm.to_iff) hQ ⟨v0,a5,trivial⟩ λv hv _=>⟨hH v hv,hl v hv⟩⟩,λp hp i Y=>?_⟩
  obtain⟨g1,g2,g3⟩:=Cm hF hB.e hp Y;have a8:=(dY hF.1.1.1.1.1.2 hp).2;refine⟨g3,?_⟩;rcases X.el hp (i:=i) Za with⟨k1,-⟩|⟨k1,k2⟩
  .rw[k1]at g2;simp[nth]at g2;omega
  exact xG k2 hQ k1 λv hv _=>⟨hH v hv,hl v hv⟩
 refine ad q.1 C J (.inr ⟨⟨hF.1.1.1.1.1.1,(Z.has (λ_ h=>h) W hF.1.1.1.1.1.1).2 hF.1.1.1.1.1.1⟩,λp hp i Y=>?_⟩) r hr Za g.1 (by rw[hg,<-a2]) (Mq O B s3 (BY s3 s2 a4) s1)
 obtain⟨g1,g2,g3⟩:=Cm hF hB.e hp Y;exact⟨g3,(Z.has (λ_ h=>h) W g3).2 g3⟩
end
end Go.VE
namespace Go.VE
theorem zi {α:Type} [b_ α] {x:α}:∀{l:a_ α},x∈l->b_.wt x<=(l.map b_.wt).sum
 | y::l,h=>by
  simp only[List.map_cons,List.sum_cons];rcases List.mem_cons.1 h with rfl|h
  .omega
  have:=zi h;omega
theorem uH {α:Type} [b_ α] (h:∀x:α,1<=b_.wt x):∀(l:a_ α),l.length<=(l.map b_.wt).sum
 | []=>Nat.le_refl _
 | y::l=>by
  simp only[List.map_cons,List.sum_cons,List.length_cons];have:=uH h l;have:=h y;omega
theorem yC {α:Type} [b_ α] (s:Sl α):b_.wt s=(s.l.map b_.wt).sum+1:=rfl
theorem Br (p:Int):∀(es:a_ Event) (j:Int),(ig p j es).length=es.length
 | [],_=>rfl
 | _::es,j=>by simp only[ig,List.length_cons,Br p es]
theorem G3:∀(ps:a_ cu) (i:Int),(fe i ps).length<=(ps.map b_.wt).sum
 | [],_=>Nat.le_refl _
 | p::ps,i=>by
  simp only[fe,ζi,Br,List.map_cons,List.sum_cons];have h1:=G3 ps (i+1);have t:=uH (α:=Event) (λx=>Nat.le_add_left ..) p.events.l
  have u:b_.wt p=b_.wt p.name+b_.wt p.vars+b_.wt p.events+1:=rfl;have w:=yC p.events;omega
theorem QH {t:Trace} (h:b_.wt t<=1048576):Small t/\(bT t).length<1073741824:=by
 have B:b_.wt t=b_.wt t.procs+1:=rfl;have h1:=yC t.procs;have C:=uH (α:=cu) (λx=>Nat.le_add_left ..) t.procs.l
 have D:=G3 t.procs.l 0;refine⟨⟨by omega,λp u=>?_⟩,by show (fe 0 t.procs.l).length<_;omega⟩
 have G:=zi u;have I:b_.wt p=b_.wt p.name+b_.wt p.vars+b_.wt p.events+1:=rfl;have J:=yC p.events;have L:=yC p.vars;have O:=uH (α:=Event) (λx=>Nat.le_add_left ..) p.events.l
 have Q:=uH (α:=Var) (λx=>Nat.le_add_left ..) p.vars.l
 have w:b_.wt p.name=p.name.size+1:=rfl;refine⟨by omega,by omega,by omega,λv hv=>?_,λe z=>?_⟩
 .have k1:=zi hv;have k2:b_.wt v=b_.wt v.name+b_.wt v.init_+1:=rfl;have k3:b_.wt v.name=v.name.size+1:=rfl;omega
 have k1:=zi z;have k2:b_.wt e=b_.wt e.kind+b_.wt e.peer+b_.wt e.message+b_.wt e.time+b_.wt e.assign+1:=rfl;have k3:=yC e.assign;have k4:=uH (α:=Assign) (λx=>Nat.le_add_left ..) e.assign.l
 omega
theorem fits {s:Slice} (h:b_.wt s<=1048576):Pg s:=by
 have t:b_.wt s=b_.wt s.empty+b_.wt s.first+b_.wt s.last+b_.wt s.j+1:=rfl
 have h1:=yC s.j;have u:=uH (α:=Sl (Sl Int)) (λx=>Nat.le_add_left ..) s.j.l
 refine⟨by omega,λr hr=>?_⟩
 have w:=zi hr;have z:=yC r;have B:=uH (α:=Sl Int) (λx=>Nat.le_add_left ..) r.l
 omega
end Go.VE
namespace Go.Proofs.YtegogepdjcdfcacGreatDoor
open Go.ChangeShapes Go.WideShapes Go.ChangeAt Go.RowKit Go.VE
theorem own:ownKnob Tryz.prog.godebug=none:=by kernel_rfl
theorem kids:Kids Tryz.prog (·<Tryz.prog.types.size):=kids_rows Zh Zh
theorem full:∀t e,t<Tryz.prog.types.size->Tryz.prog.underlying t=some (.slice e)->0<Tryz.prog.cellsOf e:=slices_full_of Tryz.prog Zh
theorem xV {H:Type}:∀l:a_ (DataW H),Rows.uptoBulkAll l=(l.map Rows.uptoBulk).sum
 | []=>by simp[Rows.uptoBulkAll]
 | d::r=>by simp[Rows.uptoBulkAll,xV r]
theorem HI {H:Type}:sP (H:=H) Rows.uptoBulk where
 lit l:=by cases l <;> simp[Rows.uptoBulk]
 str s:=by simp[Rows.uptoBulk]
 nil:=by simp[Rows.uptoBulk]
 slice es t:=by rw[Rows.uptoBulk,xV,xV];omega
 agg u:=by rw[Rows.uptoBulk,xV];exact Nat.le_refl _
theorem Kn:Tryz.prog.globalNamed "antecede/predtype.parts" = some 0:=by kernel_rfl
theorem OQ:(Tryz.prog.globals[0]?).map (·.type)=some 211:=by kernel_rfl
theorem table {W:World} (h:laidMetH Tryz.prog Rows.sliceSpanUptoRow.laid W):Lib.TabIs Tryz.prog W "antecede/predtype.parts" .i64 FT:=
 Lib.tabIs_of_head (rest:=[]) Kn OQ Tryz.underlying211 Tryz.underlying3 Zh Zh h
theorem Wa {W:World} (h:laidMetH Tryz.prog Rows.sliceSpanUptoRow.laid W):tZ (snap W):=λg cs hg=>by
 change (if Nat.beq g 0 then some (FT.map (V.int .i64))else none)=some cs at hg;split at hg
 next t=>cases hg;have:g=0:=Nat.eq_of_beq_eq_true t;subst this;exact Qw (λi u=>(table h).cell Kn i u) (by decide)
 cases hg
set_option maxRecDepth 100000 in
theorem IY (H:Type) (enc:TypeId×Value->H) (W:World) (base:Nat) (args:Array Value) (ds gs:a_ (DataW H)) (before:a_ MemPlace)
 (u:∀(j:Nat) t v,Tryz.f3.params[j]? = some t->args[j]? = some v->Value.okWide Tryz.prog W .any base t v)
 (J:DataW.Whole enc Tryz.prog Tryz.f3.params.toList Rows.sliceSpanSpec.vars false W args.toList ds gs before) (hk:Rows.uptoSmall H (ds++gs)=true) (U:laidMetH Tryz.prog Rows.sliceSpanUptoRow.laid W) :
 Calls Tryz.prog 3 args W λe O=>∃v,e=.returned v/\Rows.sliceSpanSpec.post enc Tryz.prog Tryz.f3 false true false false W args v O:=by
 have C:=J;obtain⟨p,q,D,X,rfl,Y,Z⟩:=J;have I:DataW.TrodAll enc Tryz.prog W 0 (λ_=>true) true Tryz.f3.params.toList args.toList ds p:=D
 rw[Tryz.params3]at I u;obtain⟨L,aa,d0,ab,p0,q0,G,rfl,rfl,h0,r0⟩:=trodAll_cons I;obtain⟨Q,ad,d1,ae,p1,q1,rfl,rfl,rfl,h1,r1⟩:=trodAll_cons r0;obtain⟨S,af,d2,ah,p2,q2,rfl,rfl,rfl,h2,r2⟩:=trodAll_cons r1;obtain⟨rfl,rfl,rfl⟩:=trodAll_nil r2;obtain rfl:args=#[L,Q,S]:=by cases args;simp_all
 obtain⟨rfl,rfl⟩:=trodVars_none X;obtain⟨a0,w0,k0,b0⟩:=Reads.LI (t:=24) (α:=VE.Trace) u 0 rfl rfl h0;obtain⟨z,w1,k1,b1⟩:=Reads.LI (t:=25) (α:=Sl (Sl Int)) u 1 rfl rfl h1;obtain⟨B,w2,k2,b2⟩:=Reads.LI (t:=29) (α:=VE.Slice) u 2 rfl rfl h2;have hb:b_.wt a0+b_.wt z+b_.wt B<=1048576:=by
  have c0:=b0 Rows.uptoBulk HI;have c1:=b1 Rows.uptoBulk HI;have c2:=b2 Rows.uptoBulk HI;have T:Rows.uptoBulkAll ([d0,d1,d2]++[])<=1048576:=of_decide_eq_true hk;rw[xV]at T;simp only[List.append_nil,List.map_cons,List.map_nil,List.sum_cons,List.sum_nil]at T;omega
 obtain⟨hS,hN⟩:=QH (t:=a0) Za
 have hc:lW cL 3 [VE.enc a0,VE.enc z,VE.enc B]=some [.bool true]:=by
  have hl:(dg a0 z B).bind (λr:Bool=>some [V.bool r])=some [.bool true]:=by rw[Ox hS hN (fits Za)];rfl
  exact(zM a0 z B).F.h () _ hl
 have:=KZ (P:=Tryz.prog) RG JY calls (f:=3) (xs:=[VE.enc a0,VE.enc z,VE.enc B]) (by simp[V.cQ,V.good,lF]) hc (w:=W) (args:=#[L,Q,S]) (Wa U) (cA.cons w0 (cA.cons w1 (cA.cons w2 .nil)))
 refine this.mono λe O ⟨he,hg⟩=>?_
 subst he;exact⟨_,rfl,M7 kids full (by rw[Tryz.params3];decide) rfl rfl rfl Tryz.underlying4 C hg⟩
noncomputable def Ao (os:Os):World:=
 { World.holding Tryz.prog os ⟨#[],#[],[]⟩with heap:=(World.holding Tryz.prog os ⟨#[],#[],[]⟩).heap.modify 0 fun
  | .cells _ t frozen=>.cells (FT.map (Value.int .i64)).toArray t frozen
  | o=>o }
theorem OM (os:Os):laidMet Tryz.prog Rows.sliceSpanUptoRow.laid ((Ao os).forCall (λ_ _=>0) ⟨#[],#[.agg #[.slice none 0 0],.slice none 0 0,.agg #[.bool false,.slice none 0 0,.slice none 0 0,.slice none 0 0]],[]⟩).memory:=
 laidMet_of_run' 8 Zh Zh
theorem QC (os:Os) {H:Type} (enc:TypeId×Value->H):∃places,DataW.whole enc Tryz.prog ((Ao os).forCall (λ_ _=>0) ⟨#[],#[.agg #[.slice none 0 0],.slice none 0 0,.agg #[.bool false,.slice none 0 0,.slice none 0 0,.slice none 0 0]],[]⟩).memory Tryz.f3.params.toList Rows.sliceSpanSpec.vars false (#[.agg #[.slice none 0 0],.slice none 0 0,.agg #[.bool false,.slice none 0 0,.slice none 0 0,.slice none 0 0]]:Array Value).toList 8=some ([.agg [.nil],.nil,.agg [.lit (.bool false),.nil,.nil,.nil]],[],places):=
 ⟨[],by kernel_rfl⟩
set_option maxRecDepth 100000 in
theorem Ny (os:Os) (u:os.Started) (H:Type) (enc:TypeId×Value->H) (F:Stop.Interp) :
 ReturnsInHanded {} Tryz.checked os 3 .any ((Rows.OpenSpec.upto Rows.sliceSpanSpec).preRow enc Tryz.prog Tryz.f3 Rows.sliceSpanUptoRow.domain false Rows.sliceSpanUptoRow.laid) (((Rows.OpenSpec.upto Rows.sliceSpanSpec).at F).post enc Tryz.prog Tryz.f3 false true false false):=by
 obtain⟨places,z⟩:=QC os enc;refine returnsInHanded_of_row (C:=Tryz.checked) (s:=Rows.OpenSpec.upto Rows.sliceSpanSpec) own u Zh Tryz.func3
  (witness_row_at (enc:=enc) (C:=Tryz.checked) false (Ao os) #[.agg #[.slice none 0 0],.slice none 0 0,.agg #[.bool false,.slice none 0 0,.slice none 0 0,.slice none 0 0]] rfl Zh Zh Zh
   (OpenSpec.preRow_of_cond 8 z Zh (λk hk=>by cases hk;kernel_rfl) Zh (OM os))) ?_
 intro W base args ds gs before w B _ t _ D _ _;exact IY H enc W base args ds gs before w B (t _ rfl) D
theorem R_:Rows.SliceSpanUptoSaid:=
 OpenClaim.holds_of_cond 3 Tryz.f3 rfl rfl rfl rfl rfl rfl rfl ⟨rfl,rfl,rfl,rfl,rfl⟩ rfl rfl rfl rfl rfl Zh Tryz.func3 Zh
  (of_decide_eq_true Zh) (by unfold Func.isWrapper;first|(rw[if_pos (by decide +kernel)];kernel_rfl)|(rw[if_neg (by decide +kernel)];exact⟨rfl,rfl⟩))
  (λos t H enc _ F=>by rw[OpenClaim.pre_eq_preRow];exact Ny os t H enc F)
theorem Pt (f:FuncId) (fn:Func) (D:Tryz.pinned.checked.prog.funcNamed "antecede/antecedelaw34.SliceSpan" = some f) (B:Tryz.pinned.checked.prog.funcs[f]? = some fn) :
 false=Tryz.pinned.checked.prog.looks []/\∀(j:Nat) t,fn.params[j]? = some t->Tryz.pinned.checked.prog.wantsStandIn t=false:=by
 obtain rfl:f=3:=Option.some.inj ((show Tryz.prog.funcNamed "antecede/antecedelaw34.SliceSpan" = some 3 by kernel_rfl).symm.trans D) |>.symm
 obtain rfl:fn=Tryz.f3:=(Option.some.inj (Tryz.func3.symm.trans B)).symm;refine⟨by kernel_rfl,λj t z=>?_⟩
 rw[Tryz.params3]at z;have C:t∈[24,25,29]:=by simpa using Array.mem_of_getElem? z
 have w:([24,25,29].all λu => !Tryz.prog.wantsStandIn u)=true:=by kernel_rfl
 exact(show Tryz.prog.wantsStandIn t=false by simpa using List.all_eq_true.1 w t C)
theorem sliceSpanProved:Rows.SliceSpanUptoCardSaid:=
 Claim7.holds_tied_plain_at .later [] _ _ _ _ R_ (λ_ h=>by cases h) Zh (λ_ h=>by cases h) sliceSpanUpto_row_tie rfl ⟨rfl,rfl⟩ Zh rfl Pt Zh
#print axioms sliceSpanProved
end Go.Proofs.YtegogepdjcdfcacGreatDoor
