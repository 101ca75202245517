/-
 BarrierNear says true for all arguments that together are of bulk at most 1048576, and they read behind the call as they read before: for every such argument, without a condition.
-/
import Derived.Test.YtlhegnhabpldfaaGreatDoorRows
import Derived.Test.YtlhegnhabpldfaaGreatDoorCards
import Derived.Test.YtlhegnhabpldfaaGreatDoorTie
import Derived.Deep.DeepHandedRow
import Derived.Test.YtlhegnhabpldfaaGreatDoorK1
import Derived.Test.YtlhegnhabpldfaaGreatDoorL1
set_option linter.all false
namespace Go.VE
theorem Zh{p:Prop}(h:p:=by kernel_rfl):p:=h
def vj (L D:List (List Int)) (i:Nat):Bool:=match L[i]? with
 | some c=>decide (c∈D)
 | none=>false
theorem FZ {L D:List (List Int)} {i:Nat} {c:List Int} (h:L[i]? = some c):vj L D i=decide (c∈D):=by unfold vj;rw[h]
section
variable {t:Trace} {A:bW 200 bC} {L:List (List Int)}
theorem Jl (D:VT t) (B:dV t A L) {c:Sl Int} (hc:c.l∈L):iS c=some (lq c.l):=by
 have u:=D.few;have:=B.len hc;exact Uu (BO D ((B.mem _).1 hc)) Za
theorem Hv (D:VT t) (B:dV t A L) {c d:List Int} (hc:c∈L) (G:d∈L):lq c=lq d↔c=d:=
 ⟨λh=>O6 (BO D ((B.mem _).1 hc)) (BO D ((B.mem _).1 G)) h,λh=>by rw[h]⟩
theorem Na (hS:Small t) (hv:dO t=some true) (D:VT t) (hM:fq t (bT t) A) (B:dV t A L) (h5:L.length<=5000) (hN:0<L.length) {r:Sl (Sl Int)} (hc:lE t=some (r,0)) (hr:ins r=L) {l:Sl (Sl Int)} (hl:l.l.length<=5000) (hm:∀x∈l.l,x.l∈L) :
 Wp (en t l) λq=>q.2=0/\∃m,q.1=⟨some m⟩/\∀(i:Nat) c,L[i]? = some c->(iZ m (lq c) false=true↔qp L (vj L (ins l)) i):=by
 have hg:=Bg.of B;have h8:=D.few;have ad:r.l.length=L.length:=by rw[<-fQ,hr]
 have ae:∀{i:Nat} (I:i<r.l.length),L[i]? = some r.l[i].l:=λI=>by rw[<-hr];exact kG I
 have J:(len r:Int)=((L.length:Nat):Int):=by show ((r.l.length:Nat):Int)=_;rw[ad]
 unfold en;rw[hv,ζb,bS,show decide ((len l)>5000)=false from decide_eq_false (by simp[len];omega),bZ]
 rw[si (f:=λ_=>false) (λx hx=>by
  obtain⟨z,hz,O⟩:=jY.eq (U7 hS hv D hM x);have:z=true:=O.2 ((B.mem _).1 (hm x hx));unfold oP;rw[hz,this];rfl) Za,ζb,show (l.l.any λ_=>false)=false from by simp,bZ]
 unfold tW;rw[hc,ζb,ζb];simp only;rw[show ((0:Int)==0)=true from rfl,bS,dJ];refine(DG hS D hM).mono λq ⟨x,hq,hx⟩=>?_
 subst hq;rw[ζb];unfold en.W1;refine e9 l.l.length (λj (q:Int×Mo ByteArray Bool)=>q.1=(j:Int)/\∀c∈L,(iZ q.2 (lq c) false=true↔c∈(l.l.take j).map Sl.l)) ⟨rfl,λc hc=>by simp[iZ,jL]⟩ ?_ ?_
 .rintro j ⟨_,m⟩ hj ⟨e,h1⟩;simp only at e h1;subst e;unfold en.bt;have S:=hm _ (List.getElem_mem hj);rw[iE hj,bS,bL hj,ζb,Jl D B S,ζb,a_];refine⟨cK j Za,λc hc=>?_⟩
  show iZ (kS m (lq l.l[j].l) true) (lq c) false=true↔_;rw[GU,List.take_succ_eq_append_getElem hj,List.map_append,List.mem_append,List.map_singleton,List.mem_singleton,<-h1 c hc]
  by_cases e:c=l.l[j].l
  .rw[if_pos (by rw[e])];simp[e]
  rw[if_neg (λh=>e ((Hv D B hc S).1 h))];simp[e]
 rintro⟨_,bad⟩ ⟨e,h1⟩;simp only at e h1;subst e;unfold en.bt;rw[iJ,bZ,a_];show Wp (en.W2 r x _ bad []) _;have T:∀(i:Nat) c,L[i]? = some c->iZ bad (lq c) false=vj L (ins l) i:=λi c I=>by
  rw[FZ I,Bool.eq_iff_iff,h1 c (List.mem_of_getElem? I),List.take_length,decide_eq_true_iff];rfl
 rw[J,jX _ Za Za]
 unfold en.W2;refine e9 L.length (λm (q:Int×Mo ByteArray Bool)=>q.1=(L.length:Int)-1-(m:Int)/\∀(k:Nat) c,L[k]? = some c->L.length-m<=k->(iZ q.2 (lq c) false=true↔qp L (vj L (ins l)) k)) ⟨by simp,λk c h1 C=>absurd (ζe.1 h1).1 Za⟩ ?_ ?_
 .rintro m ⟨_,good⟩ ai ⟨e,C⟩;simp only at e C;subst e;obtain⟨i,I⟩:∃i:Nat,i=L.length-1-m:=⟨_,rfl⟩;rw[show (L.length:Int)-1-(m:Int)=(i:Int)from by omega]
  have U:i<r.l.length:=by omega
  have w:=ae U;have W:idx r (i:Int)=some r.l[i]:=bL U;unfold en.bX;rw[show decide ((i:Int)>=0)=true from decide_eq_true Za,bS,W,ζb,J,jX _ Za Za]
  generalize r.l[i]=u at w W;have Q:=List.mem_of_getElem? w;have hC:=(B.mem _).1 Q;have aj:u.l.length<=8:=by rw[hC.1.1];exact h8
  have af:=Pk (f:=vj L (ins l)) hg w;unfold en.W3;refine e9 u.l.length (λp (q:Bool×Int)=>q.2=(p:Int)/\(q.1=true↔i=L.length-1\/∃X∈ps L u.l p,qp L (vj L (ins l)) (L.idxOf (bump u.l X 1)))) ⟨rfl,?_⟩ ?_ ?_
  .show ((i:Int)==(L.length:Int)-1)=true↔_;rw[beq_iff_eq];exact⟨λh=>.inl Za,λh=>h.elim (λh=>by omega) λ⟨p,h,_⟩=>by have:=(TA.1 h).1;omega⟩
  .rintro p ⟨on,_⟩ hp ⟨e,g⟩;simp only at e g;subst e;unfold en.dH;rw[show (len u:Int)=(u.l.length:Int)from rfl,iE (s:=u) hp,bS,LF hS D hM B hx hC hp,ζb];obtain⟨d,hd,Y⟩:=IY hS D hC hp;have Z:∃z:Bool,(br (decide (bump u.l p 1∈L)) ((sW u (p:Int)).bind λaa=>(iS aa).bind λab=>some (iZ good ab false)) (some false):Option Bool)=some z/\(z=true↔bump u.l p 1∈L/\qp L (vj L (ins l)) (L.idxOf (bump u.l p 1))):=by
    by_cases G:bump u.l p 1∈L
    .have ah:d.l∈L:=by rw[Y];exact G
     rw[decide_eq_true G,bS,hd,ζb,Jl D B ah,ζb,Y];have hk:=hg i _ _ w (wQ.2 ⟨p,hp,G,rfl⟩);exact⟨_,rfl,(C _ _ (nk G) Za).trans ⟨λh=>⟨G,h⟩,λh=>h.2⟩⟩
    rw[decide_eq_false G,bZ];exact⟨_,rfl,λh=>(by cases h),λh=>absurd h.1 G⟩
   obtain⟨z,hz,O⟩:=Z;rw[hz,ζb,ir,ζb,a_];refine⟨cK p Za,?_⟩
   show (on||z)=true↔_;rw[Bool.or_eq_true,g,O,R1];constructor
   .rintro ((h|⟨X,h,k⟩)|⟨h,k⟩)
    .exact .inl h
    .exact .inr ⟨X,List.mem_append_left _ h,k⟩
    exact .inr ⟨p,by rw[if_pos h];simp,k⟩
   rintro (h|⟨X,h,k⟩)
   .exact .inl (.inl h)
   rcases List.mem_append.1 h with h|h
   .exact .inl (.inr ⟨X,h,k⟩)
   split at h
   next G=>rw[List.mem_singleton.1 h]at k;exact .inr ⟨G,k⟩
   simp at h
  rintro⟨on,_⟩ ⟨e,g⟩;simp only at e g;subst e;unfold en.dH;rw[show (len u:Int)=(u.l.length:Int)from rfl,iJ (s:=u),bZ,a_];show Wp ((iS u).bind _) _;rw[Jl D B Q,ζb,ζb,j7,ζb,a_,T i _ w];refine⟨by show IntKind.wrap .i64 ((i:Int)-1)=_;rw[jX _ Za Za];omega,λk c hk ak=>?_⟩
  show iZ (kS good (lq u.l) (on && !vj L (ins l) i)) (lq c) false=true↔_;rw[GU]
  by_cases e:k=i
  .subst e;rw[w]at hk;cases hk;rw[if_pos rfl,af,ζh,g,Bool.not_eq_true'];rw[and_comm];refine and_congr Iff.rfl (or_congr Iff.rfl ?_);rw[Ud];exact⟨λ⟨p,h,o⟩=>⟨_,List.mem_map.2 ⟨p,h,rfl⟩,o⟩,λ⟨j,h,o⟩=>by obtain⟨p,C,rfl⟩:=List.mem_map.1 h;exact⟨p,C,o⟩⟩
  rw[if_neg (λh=>e ?_)]
  .exact C k c hk Za
  have:=(Hv D B (List.mem_of_getElem? hk) Q).1 h;rw[<-ud B.nodup hk,this,ud B.nodup w]
 rintro⟨_,good⟩ ⟨e,C⟩;simp only at e C;subst e;unfold en.bX;rw[show decide ((L.length:Int)-1-((L.length:Nat):Int)>=0)=false from decide_eq_false Za,bZ,a_]
 refine(a_ _).2 ⟨rfl,good,rfl,λi c I=>C i c I Za⟩
theorem ec.le {a b:List Int} (h:ec a b):a.sum<=b.sum:=by
 refine Classical.byContradiction λu=>ec.A9 a (h.tr (ec.sum Za))
theorem CN (B:dV t A L):L[0]? = some (List.replicate t.procs.l.length 0):=by
 have I:List.replicate t.procs.l.length (0:Int)∈L:=(B.mem _).2 uG;obtain⟨i,D,e⟩:=List.mem_iff_getElem.1 I
 by_cases h0:i=0
 .subst h0;rw[ζd D,e]
 exfalso;have w:0<L.length:=by omega
 have u:=List.pairwise_iff_getElem.1 B.srt 0 i w D Za
 rw[e]at u;have G:=(B.mem _).1 (List.getElem_mem w);have J:=G.1.sum.1;have C:=u.le;rw[show (List.replicate t.procs.l.length (0:Int)).sum=0 from by simp]at C
 have hk:=(JW (t:=t) (A:=A) (z:=.row (List.replicate t.procs.l.length 0)) rfl L[0]).2 ⟨G,by simp;omega⟩
 have:L[0]=List.replicate t.procs.l.length 0:=by simpa [ins,Sl.l]using hk
 rw[this]at u;exact ec.A9 _ u
theorem Cz (G:Small t) (hv:dO t=some true) (D:VT t) (J:fq t (bT t) A) (B:dV t A L) (O:L.length<=5000) (U:0<L.length) {r:Sl (Sl Int)} (hc:lE t=some (r,0)) (hr:ins r=L) {l:Sl (Sl Int)} (W:l.l.length<=5000) (Y:∀x∈l.l,x.l∈L) :
 Wp (ou t l) λq=>q.2=0/\(q.1=true↔¬qp L (vj L (ins l)) 0):=by
 have S:=D.few;unfold ou;rw[dJ];refine(Na G hv D J B O U hc hr W Y).mono λq ⟨h1,m,u,w⟩=>?_
 rw[h1,u,show ((0:Int)==0)=true from rfl,bS,dJ];refine(DG G D J).mono λo ⟨x,z,C⟩=>?_
 subst z;rw[ζb];have I:(jl x).bind Sl.whole=some (.row (List.replicate t.procs.l.length 0)):=by
  unfold jl mP;have:(len x.needs:Int)=(t.procs.l.length:Int):=by show ((x.needs.l.length:Nat):Int)=_;rw[C.len]
  rw[this,if_pos ⟨by omega,by omega⟩];rfl
 have h0:=CN B;rw[I,ζb,Jl D B (c:=.row (List.replicate t.procs.l.length 0)) (List.mem_of_getElem? h0),ζb,a_];refine⟨rfl,?_⟩;have Q:=w 0 _ h0;show (!iZ m (lq (List.replicate t.procs.l.length 0)) false)=true↔_;rw[<-Q];cases iZ m (lq (List.replicate t.procs.l.length 0)) false <;> simp
end
end Go.VE
namespace Go.VE
section
variable {L:List (List Int)} {f g:Nat->Bool}
theorem rP {c:List Int}:∀{n:Nat},n<=L.length->(c∈outs L f n↔∃i,i<n/\L[i]? = some c/\Rc L f i/\f i=true)
 | 0,_=>⟨λh=>(by cases h),λ⟨i,h,_⟩=>absurd h Za⟩
 | n+1,D=>by
  have B:=rP (c:=c) (n:=n) Za
  have z:=ζd (show n<L.length by omega)
  by_cases k:Rc L f n/\f n=true
  .rw[xC k.1 k.2 z,List.mem_append,B,List.mem_singleton];constructor
   .rintro (⟨i,h,u⟩|h)
    .exact⟨i,by omega,u⟩
    exact⟨n,by omega,by rw[h];exact z,k⟩
   rintro⟨i,h,u,w⟩
   by_cases e:i=n
   .subst e;rw[z]at u;exact .inr (Option.some.inj u).symm
   exact .inl ⟨i,by omega,u,w⟩
  rw[xu k,B];exact⟨λ⟨i,h,u⟩=>⟨i,by omega,u⟩,λ⟨i,h,u,w⟩=>⟨i,by
   have:i≠n:=λe=>k (e▸w)
   omega,u,w⟩⟩
theorem Hf:∀{n:Nat},n<=L.length->(outs L f n).Sublist (L.take n)
 | 0,_=>List.Sublist.refl _
 | n+1,D=>by
  have B:=Hf (n:=n) Za
  have u:=ζd (show n<L.length by omega)
  rw[List.take_succ_eq_append_getElem (show n<L.length by omega)]
  by_cases k:Rc L f n/\f n=true
  .rw[xC k.1 k.2 u];exact B.append (List.Sublist.refl _)
  rw[xu k];exact B.trans (List.sublist_append_left _ _)
theorem Oe (U:0<L.length) (h:¬(Rc L f (L.length-1)/\f (L.length-1)=false)):¬qp L (vj L (outs L f L.length)) 0:=by
 intro I;obtain⟨h1,w⟩:=Q8.1 I;have step:∀i,i<L.length->Rc L f i->vj L (outs L f L.length) i=false->f i=false:=λi z u B=>by
  cases J:f i with
  | false=>rfl
  | true=>
   have C:=ζd z;rw[FZ C,decide_eq_false_iff_not]at B;exact absurd ((rP (Nat.le_refl _)).2 ⟨i,z,C,u,J⟩) B
 have key:∀k,Rc L (vj L (outs L f L.length)) k->Rc L f k:=λk hk=>by
  induction hk with
  | zero=>exact .zero
  | step h1 w D O G=>exact .step G (step _ (ζe.1 D).1 G w) D O
 have u:=key _ h1;exact h ⟨u,step _ Za u w⟩
end
section
variable {t:Trace} {A:bW 200 bC} {L:List (List Int)} {f g:Nat->Bool}
theorem TR (B:dV t A L) {S:Int} (D:∀(j:Nat) c,L[j]? = some c->f j=false->c.sum<S->g j=false) {i:Nat} (h:Rc L f i):(∀c,L[i]? = some c->c.sum<=S)->qp L g i->qp L g 0:=by
 induction h with
 | zero=>exact λ_ h=>h
 | @step i k c h1 C u w G=>
  intro I J;obtain⟨p,O,Q,rfl⟩:=wQ.1 w;have hk:=I _ (nk Q);rw[Bc O]at hk;exact G (λd z=>by rw[u]at z;cases z;omega) (.step (D _ _ u C Za) u w J)
theorem IT {c:List Int} {p:Nat} {a:Int} (h:c[p]? = some a) (q:Nat):(bump c p 1)[q]? = if p=q then some (a+1)else c[q]? := by
 rw[DD h,List.getElem?_set];have:=(ζe.1 h).1
 by_cases e:p=q
 .simp[e,this];omega
 simp[e]
theorem Ag:∀{a b:List Int},u_ a b->a.sum<=b.sum/\(a.sum=b.sum->a=b)
 | [],[],_=>⟨Int.le_refl _,λ_=>rfl⟩
 | [],_::_,h=>nomatch h.1
 | _::_,[],h=>nomatch h.1
 | x::a,y::b,h=>by
  have h0:=h.2 0 x y rfl rfl;obtain⟨h1,w⟩:=Ag (a:=a) (b:=b) ⟨by simpa using h.1,λp u v hu hv=>h.2 (p+1) u v hu hv⟩
  simp only[List.sum_cons];refine⟨by omega,λe=>?_⟩
  have:x=y:=by omega
  rw[this,w Za]
theorem I7 (U:VT t) (W:fq t (bT t) A) (B:dV t A L) {c:List Int} (G:Cons t A c):∀(n:Nat) {d:List Int},Cons t A d->d.sum<=(n:Int)->¬u_ d c->∃p,p<c.length/\bump c p 1∈L
 | n,d,D,hs,Y=>by
  have hl:d.length=c.length:=D.1.1.trans G.1.1.symm;have C:0<d.sum:=by
   refine Classical.byContradiction λh0=>Y ?_
   have h1:=D.1.sum.1;have hk:=(JW (t:=t) (A:=A) (z:=.row (List.replicate t.procs.l.length 0)) rfl d).2 ⟨D,by simp;omega⟩
   have hk:d=List.replicate t.procs.l.length 0:=by simpa [ins,Sl.l]using hk
   refine⟨hl,λp x y u w=>?_⟩
   rw[hk,List.getElem?_replicate]at u;split at u
   .cases u;exact G.1.pos p y w
   cases u
  obtain⟨q,b,I,Q,S⟩:=D.down U W C
  by_cases O:u_ (d.set q (b-1)) c
  .have T:=(ζe.1 I).1;have J:=ζd (show q<c.length by omega)
   have e1:=O.2 q (b-1) _ (by rw[List.getElem?_set_self T]) J
   have e2:∀p x y,p≠q->d[p]? = some x->c[p]? = some y->x<=y:=λp x y X u w=>O.2 p x y (by rw[List.getElem?_set_ne (Ne.symm X)];exact u) w
   have e3:b=c[q]+1:=by
    refine Classical.byContradiction λZ=>Y ⟨hl,λp x y u w=>?_⟩
    by_cases e:p=q
    .subst e;rw[I]at u;cases u;rw[J]at w;cases w;omega
    exact e2 p x y e u w
   refine⟨q,by omega,(B.mem _).2 (join_cons G D ⟨FL,λp x y u w=>?_⟩)⟩
   rw[IT J]
   by_cases e:q=p
   .subst e;rw[if_pos rfl];rw[I]at w;cases w;rw[J]at u;cases u;unfold De;simp;omega
   rw[if_neg e,u];have:=e2 p y x (Ne.symm e) w u;unfold De;simp;omega
  cases n with
  | zero=>omega
  | succ n=>exact I7 U W B G n S (by rw[sU I];omega) O
theorem Ee (J:VT t) (O:fq t (bT t) A) (B:dV t A L) {i:Nat} {c:List Int} (G:L[i]? = some c) (D:∀p,p<c.length->bump c p 1∉L):i=L.length-1:=by
 have C:=(B.mem _).1 (List.mem_of_getElem? G);have w:∀d,d∈L->u_ d c:=λd I=>Classical.byContradiction λh=>by
  have Q:=(B.mem _).1 I;obtain⟨p,S,T⟩:=I7 J O B C d.sum.toNat Q Za h
  exact D p S T
 obtain⟨z,rfl⟩:=ζe.1 G;refine Classical.byContradiction λU=>?_
 have W:i<L.length-1:=by omega
 have u:=List.pairwise_iff_getElem.1 B.srt i (L.length-1) z Za W
 have h1:=w _ (List.getElem_mem (show L.length-1<L.length by omega))
 have X:=u.le;have:L[L.length-1]=L[i]:=(Ag h1).2 (by have:=(Ag h1).1;omega)
 rw[this]at u;exact ec.A9 _ u
theorem LS (G:VT t) (J:fq t (bT t) A) (B:dV t A L):∀(n i:Nat) {c:List Int},L[i]? = some c->L.length-1-i<=n->(∀(j:Nat) d,L[j]? = some d->c.sum<d.sum\/d=c->g j=false)->qp L g i
 | n,i,c,D,U,h=>by
  have O:=(ζe.1 D).1
  by_cases hex:∃p,p<c.length/\bump c p 1∈L
  .obtain⟨p,u,w⟩:=hex;have z:L.idxOf (bump c p 1)∈ri L c:=wQ.2 ⟨p,u,w,rfl⟩;have hk:=Lt B D z
   cases n with
   | zero=>omega
   | succ n=>
    refine .step (h i c D (.inr rfl)) D z (LS G J B n _ (nk w) Za λj d C hs=>h j d C (.inl ?_))
    have:=Bc (c:=c) u;rcases hs with hs|hs
    .omega
    rw[hs];omega
  have:=Ee G J B D λp u w=>hex ⟨p,u,w⟩
  subst this;exact .last (h _ c D (.inr rfl))
end
theorem OX {s:Sl Int} {p:Int->Option Bool} {f:Int->Bool} (B:∀x∈s.l,p x=some (f x)) (D:s.l.length<1073741824):gy s p=some (place f s.l):=
 pg B Za (λi=>rfl)
theorem OO (r:Sl (Sl Int)):∃b,sx r=some b/\(b=true->r.l.length<=120/\∀x∈r.l,x.l.length<=12):=by
 unfold sx
 by_cases h:r.l.length<=120
 .rw[decide_eq_true (show len r<=120 by simp only[len];omega),bS,si (p:=λz=>oT z) (f:=λz=>decide (len z>12)) (λ_ _=>rfl) Za,ζb,ζb]
  refine⟨_,rfl,λu=>⟨h,λx w=>?_⟩⟩
  simp only[Bool.not_eq_true',List.any_eq_false,decide_eq_true_eq]at u;have:=u x w;simp only[len]at this;omega
 rw[decide_eq_false (show ¬len r<=120 by simp only[len];omega)]
 exact⟨false,rfl,λh=>by cases h⟩
theorem JA {n:Nat} (B:n<=1073741824):Wp (i_ (n:Int)) λs=>s.l=(List.range n).map λi:Nat=>(i:Int):=by
 unfold i_;rw[show mP (n:Int) (0:Int)=some (.row (List.replicate n 0))from by unfold mP;rw[if_pos ⟨by omega,by omega⟩];rfl,ζb,show (len (Sl.row (List.replicate n (0:Int))):Int)=(n:Int)from by simp[len,Sl.l]]
 unfold i_.W1;refine e9 n (λi q=>q.2=(i:Int)/\q.1.l.length=n/\∀j:Nat,j<i->q.1.l[j]? = some (j:Int)) ⟨rfl,by simp[Sl.l],λj h=>absurd h Za⟩ ?_ ?_
 .rintro i ⟨s,_⟩ z ⟨rfl,h1,u⟩;simp only at h1 u;unfold i_.bt;dsimp only;rw[decide_eq_true (show ((i:Nat):Int)<(n:Int)by omega),bS,tK Za,ζb]
  obtain⟨r,g1,g2⟩:=put_eq (s:=s) (p:=i) (x:=(i:Int)) Za
  rw[g1,ζb,a_];refine⟨cK i Za,by rw[g2];simp[h1],λj w=>?_⟩
  show r.l[j]? = _;rw[g2,List.getElem?_set]
  by_cases e:i=j
  .subst e;rw[if_pos rfl,if_pos Za]
  rw[if_neg e];exact u j Za
 rintro⟨s,_⟩ ⟨rfl,h1,u⟩;simp only at h1 u;unfold i_.bt;dsimp only;rw[decide_eq_false Za,bZ,a_]
 refine(a_ _).2 (List.ext_getElem? λj=>?_)
 by_cases w:j<n
 .rw[u j w,List.getElem?_map,List.getElem?_range w];rfl
 rw[List.getElem?_eq_none Za,List.getElem?_eq_none (by simp;omega)]
section
variable {t:Trace} {A:bW 200 bC} {L:List (List Int)} {f g:Nat->Bool}
def tw (t:Trace):List Int:=t.procs.l.map λP=>(P.events.l.length:Int)
theorem zero_eq (B:VT t) {x:cz} (D:CU t A x):jl x=some (.row (List.replicate t.procs.l.length 0)):=by
 have u:=B.few;unfold jl mP;have:(len x.needs:Int)=(t.procs.l.length:Int):=by show ((x.needs.l.length:Nat):Int)=_;rw[D.len]
 rw[this,if_pos ⟨by omega,by omega⟩];rfl
theorem QW (G:Small t) (D:VT t) {x:cz} (B:CU t A x):Wp (fZ x) λs=>s.l=tw t:=by
 have I:=D.few;unfold fZ;rw[zero_eq D B,ζb,show Sl.whole (.row (List.replicate t.procs.l.length (0:Int)))=some (.row (List.replicate t.procs.l.length 0))from rfl,ζb];unfold fZ.W1;refine e9 x.needs.l.length (λi q=>q.2=(i:Int)/\q.1.l.length=t.procs.l.length/\∀j:Nat,j<i->q.1.l[j]? = (tw t)[j]?) ⟨rfl,by simp[Sl.l],λj h=>absurd h Za⟩ ?_ ?_
 .rintro i ⟨s,_⟩ z ⟨rfl,h1,u⟩;simp only at h1 u;have w:i<t.procs.l.length:=by rw[<-B.len];exact z
  unfold fZ.bt;dsimp only;rw[iE z,bS,bL z,ζb,tK Za,ζb]
  obtain⟨r,g1,g2⟩:=put_eq (s:=s) (p:=i) (x:=(len x.needs.l[i]:Int)) Za
  rw[g1,ζb,a_];refine⟨cK i Za,by rw[g2];simp[h1],λj C=>?_⟩
  show r.l[j]? = _;rw[g2,List.getElem?_set]
  by_cases e:i=j
  .subst e;rw[if_pos rfl,if_pos Za]
   have:=B.row i _ _ (ζd w) (ζd z);unfold tw;rw[List.getElem?_map,ζd w];simp only[len,this,List.length_map,Option.map_some]
  rw[if_neg e];exact u j Za
 rintro⟨s,_⟩ ⟨rfl,h1,u⟩;simp only at h1 u;unfold fZ.bt;dsimp only;rw[iJ,bZ,a_];refine(a_ _).2 (List.ext_getElem? λj=>?_)
 by_cases C:j<t.procs.l.length
 .exact u j (by rw[B.len];exact C)
 rw[List.getElem?_eq_none Za,List.getElem?_eq_none (by unfold tw;simp;omega)]
structure PG (t:Trace) (L:List (List Int)) (R:List (List Int)):Prop where
 pos:0<R.length
 mem:∀c∈R,c∈L
 zero:R[0]? = some (List.replicate t.procs.l.length 0)
 step:∀(k:Nat) c d,R[k]? = some c->R[k+1]? = some d->∃p,p<c.length/\d=bump c p 1
 last:R[R.length-1]? = some (tw t)
theorem PE (hS:Small t) (U:VT t) (hM:fq t (bT t) A) (B:dV t A L) {x:cz} (hx:CU t A x) {r:Sl (Sl Int)} (hr:r.l.length<=120) (G:∀c∈r.l,c.l.length<=12) :
 Wp (fD x r) λq=>q.2=true->PG t L (ins r):=by
 have h8:=U.few;unfold fD
 by_cases h0:r.l.length=0
 .rw[show (len r==0)=true from by simp[len,h0]]
  exact(a_ _).2 (λh=>by cases h)
 have u:0<r.l.length:=by omega
 rw[show (len r==0)=false from by simp only[len,beq_eq_false_iff_ne];omega,bZ,show idx r 0=some r.l[0]from bL (i:=0) u,ζb,zero_eq U hx,ζb,
  pe (by have:=G _ (List.getElem_mem u);omega),ζb,ζb]
 by_cases e0:r.l[0].l=(Sl.row (List.replicate t.procs.l.length (0:Int))).l
 .rw[decide_eq_true e0,show (!true)=false from rfl,bZ,show len r-1=((r.l.length-1:Nat):Int)from by simp only[len];omega,jX _ Za Za,bL (show r.l.length-1<r.l.length by omega),ζb,dJ,dJ]
  refine(QW hS U hx).mono λfu aa=>?_
  rw[pe (by have:=G _ (List.getElem_mem (show r.l.length-1<r.l.length by omega));omega),ζb,a_]
  by_cases e1:r.l[r.l.length-1].l=fu.l
  .rw[decide_eq_true e1,show (!true)=false from rfl,bZ];obtain⟨v,hv,S⟩:∃v,fS r (some 1) none=some v/\v.l=r.l.drop 1:=AU r 1 Za
   rw[hv,ζb];unfold fD.W1;have af:v.l.length=r.l.length-1:=by rw[S,List.length_drop]
   have I:(List.replicate t.procs.l.length (0:Int))∈L:=(B.mem _).2 uG;refine e9 v.l.length (λi q=>q.2=(i:Int)/\q.1.l.length=i/\(∀(k:Nat) c,k<=i->(ins r)[k]? = some c->c∈L)/\∀(k:Nat) c d,k<i->(ins r)[k]? = some c->(ins r)[k+1]? = some d->∃p,p<c.length/\d=bump c p 1)
    ⟨rfl,rfl,λk c hk hc=>?_,λk c d hk=>absurd hk Za⟩ ?_ ?_
   .obtain rfl:k=0:=by omega
    rw[kG u]at hc;cases hc;rw[e0];exact I
   .rintro i ⟨o,_⟩ hi ⟨rfl,ho,Z,h3⟩;simp only at ho;have J:i<r.l.length:=by omega
    have w:i+1<r.l.length:=by omega
    have ab:v.l[i]=r.l[i+1]:=by
     have h1:v.l[i]? = some r.l[i+1]:=by rw[S,List.getElem?_drop,Nat.add_comm,ζd w]
     rw[ζd hi]at h1;exact Option.some.inj h1
    have ad:r.l[i].l∈L:=Z i _ (Nat.le_refl _) (kG J);have hC:=(B.mem _).1 ad;have T:r.l[i].l.length=t.procs.l.length:=hC.1.1;unfold fD.bt;rw[iE hi,bS,bL hi,ζb,ab,show len x.needs=((t.procs.l.length:Nat):Int)from by simp only[len];rw[hx.len],dJ]
    refine(JA Za).mono λix O=>?_
    have W:∀z∈ix.l,kA z (some x) r (i:Int) r.l[i+1]=some (decide (bump r.l[i].l z.toNat 1∈L)&&decide (r.l[i+1].l=bump r.l[i].l z.toNat 1)):=λz I=>by
     rw[O]at I;obtain⟨p,Q,rfl⟩:=List.mem_map.1 I;have u:p<r.l[i].l.length:=by rw[T];exact List.mem_range.1 Q
     unfold kA;rw[bL J,ζb,ζb,LF hS U hM B hx hC u,ζb];obtain⟨d,C,ae⟩:=IY hS U hC u;rw[ζb,C,ζb,pe (by have:=G _ (List.getElem_mem w);omega),ζb,ae,j7,ζb];rfl
    rw[OX (f:=λz=>decide (bump r.l[i].l z.toNat 1∈L)&&decide (r.l[i+1].l=bump r.l[i].l z.toNat 1)) W (by rw[O];simp;omega),ζb]
    by_cases D:place (λz:Int=>decide (bump r.l[i].l z.toNat 1∈L)&&decide (r.l[i+1].l=bump r.l[i].l z.toNat 1)) ix.l<0
    .rw[decide_eq_true D,bS,a_];exact(a_ _).2 (λh=>by cases h)
    have X:(ix.l.any λz:Int=>decide (bump r.l[i].l z.toNat 1∈L)&&decide (r.l[i+1].l=bump r.l[i].l z.toNat 1))=true:=by
     rw[<-rm];exact decide_eq_true Za
    obtain⟨z,I,Y⟩:=List.any_eq_true.1 X;rw[O]at I;obtain⟨p,Q,rfl⟩:=List.mem_map.1 I;have u:p<r.l[i].l.length:=by rw[T];exact List.mem_range.1 Q
    simp only[ζh,decide_eq_true_eq]at Y;obtain⟨z1,z2⟩:=Y;rw[show ((p:Nat):Int).toNat=p from rfl]at z1 z2;obtain⟨o2,g1,g2⟩:=jO (s:=o) (x:=place (λz:Int=>decide (bump r.l[i].l z.toNat 1∈L)&&decide (r.l[i+1].l=bump r.l[i].l z.toNat 1)) ix.l) Za
    rw[decide_eq_false D,bZ,g1,ζb,a_];refine⟨cK i Za,by show o2.l.length=_;rw[g2];simp[ho],λk c hk hc=>?_,λk c d hk hc C=>?_⟩
    .by_cases e:k=i+1
     .subst e;rw[kG w]at hc;cases hc;rw[z2];exact z1
     exact Z k c Za hc
    by_cases e:k=i
    .subst e;rw[kG J]at hc;cases hc;rw[kG w]at C;cases C;exact⟨p,u,z2⟩
    exact h3 k c d Za hc C
   rintro⟨o,_⟩ ⟨rfl,ho,Z,h3⟩;unfold fD.bt;rw[iJ,bZ,a_];refine(a_ _).2 λ_=>⟨by rw[fQ];exact u,λc hc=>?_,?_,λk c d hc C=>?_,?_⟩
   .obtain⟨k,hk⟩:=List.getElem?_of_mem hc;have:=(ζe.1 hk).1;rw[fQ]at this;exact Z k c Za hk
   .rw[kG u,e0];rfl
   .have:=(ζe.1 C).1;rw[fQ]at this;exact h3 k c d Za hc C
   rw[fQ,kG (show r.l.length-1<r.l.length by omega),e1,aa]
  rw[decide_eq_false e1,show (!false)=true from rfl,bS];exact(a_ _).2 (λh=>by cases h)
 rw[decide_eq_false e0,show (!false)=true from rfl,bS,ζb,bS];exact(a_ _).2 (λh=>by cases h)
theorem N2 (G:Small t) (hv:dO t=some true) (J:VT t) (O:fq t (bT t) A) (B:dV t A L) {r:Sl (Sl Int)} (hr:r.l.length<=120) (D:∀c∈r.l,c.l.length<=12) :
 Wp (zX t r) λb=>b=true->PG t L (ins r):=by
 unfold zX;rw[hv,ζb,bS,dJ];refine(DG G J O).mono λo ⟨x,u,w⟩=>?_
 subst u;rw[ζb,dJ];exact(PE G J O B w hr D).mono λq h=>(a_ _).2 h
theorem RI (D:VT t) (B:dV t A L) (G:fq t (bT t) A) {i:Nat} (h:L[i]? = some (tw t)):i=L.length-1:=by
 refine Ee D G B h λp w z=>?_
 have C:=(B.mem _).1 z;have u:p<t.procs.l.length:=by unfold tw at w;simpa using w
 have I:(tw t)[p]? = some (t.procs.l[p].events.l.length:Int):=by
  unfold tw;rw[List.getElem?_map,ζd u];rfl
 have h1:(bump (tw t) p 1)[p]? = some ((t.procs.l[p].events.l.length:Int)+1):=by rw[IT I,if_pos rfl]
 have:=C.1.2 p _ _ h1 (ζd u);omega
theorem yL (J:VT t) (O:fq t (bT t) A) (B:dV t A L) {R:List (List Int)} (D:PG t L R) (G:¬(Rc L f (L.length-1)/\f (L.length-1)=false)) :
 ∀(k:Nat) c,R[k]? = some c->(∀(j:Nat) d,j<k->R[j]? = some d->f (L.idxOf d)=false)->Rc L f (L.idxOf c)
 | 0,c,hc,_=>by
  rw[D.zero]at hc;cases hc;rw[ud B.nodup (CN B)];exact .zero
 | k+1,c,hc,h=>by
  have hk:k<R.length:=by have:=(ζe.1 hc).1;omega
  have u:=ζd hk;obtain⟨p,w,rfl⟩:=D.step k _ _ u hc;have z:=D.mem _ (List.getElem_mem hk);exact .step (yL J O B D G k _ u λj d I C=>h j d Za C) (h k _ Za u) (nk z) (wQ.2 ⟨p,w,D.mem _ (List.mem_of_getElem? hc),rfl⟩)
end
theorem yX {c:List Int} {n:Nat} (h:n<c.length):(c.take (n+1)).sum=(c.take n).sum+c[n]:=by
 rw[List.take_succ_eq_append_getElem h,List.sum_append];simp
def Nn (s:Sl (Sl Int)):Prop:=∃b,Sl.isNil s=some b/\(b=true->s.l=[])
theorem Nn.nil:Nn .nil:=⟨true,rfl,λ_=>rfl⟩
theorem Nn.app {s r:Sl (Sl Int)} {x:Sl Int} (h:gw s x=some r):Nn r:=by
 unfold gw at h;split at h
 .cases h;exact⟨false,rfl,λh=>by cases h⟩
 cases h
theorem MB {s:Sl (Sl Int)} (h:Nn s) (B:s.l.length<=1073741824):∃r,kW s=some r/\r.l=s.l:=by
 obtain⟨b,h1,u⟩:=h;unfold kW;rw[h1,ζb]
 cases b with
 | true=>exact⟨.nil,rfl,(u rfl).symm⟩
 | false=>
  obtain⟨r,g1,g2⟩:=wS (s:=(Sl.row []:Sl (Sl Int))) (x:=s) (by show 0+_<=_;omega)
  rw[bZ,g1];exact⟨r,rfl,by rw[g2];rfl⟩
section
variable {t:Trace} {A:bW 200 bC} {L:List (List Int)} {f:Nat->Bool}
theorem Hj {c:List Int} (h:Da c):∀n,n<=c.length->-(n:Int)*1073741824<=(c.take n).sum/\(c.take n).sum<=(n:Int)*1073741824
 | 0,_=>by simp
 | n+1,B=>by
  have D:=Hj h n Za
  have:=h.2 c[n] (List.getElem_mem Za)
  rw[yX (show n<c.length by omega)]
  omega
theorem Uh (B:dV t A L) {a b:List Int} (D:a∈L) (G:b∈L) (h:ec a b):L.idxOf a<L.idxOf b:=by
 have h1:=nk D;have u:=nk G;obtain⟨i1,e1⟩:=ζe.1 h1;obtain⟨i2,e2⟩:=ζe.1 u;refine Classical.byContradiction λw=>?_
 by_cases e:L.idxOf a=L.idxOf b
 .rw[e]at h1;rw[u]at h1;cases h1;exact ec.A9 _ h
 have:=List.pairwise_iff_getElem.1 B.srt _ _ i2 i1 Za
 rw[e1,e2]at this;exact ec.A9 _ (h.tr this)
theorem Ki (hS:Small t) (hv:dO t=some true) (Y:VT t) (hM:fq t (bT t) A) (B:dV t A L) (h5:L.length<=400) (hN:0<L.length) {r s:Sl (Sl Int)} (hc:lE t=some (r,0)) (hr:ins r=L) (W:dP t=some (s,true)) (hs:ins s=L)
 {c:Sl Int} (G:c.l∈L) {U:Sl (Sl Int)} (hn:Nn U) (ab:U.l.length<=400) (hb:∀d∈ins U,d∈L/\f (L.idxOf d)=true/\d≠c.l/\d.sum<=c.l.sum) (aa:Rc L f (L.idxOf c.l)):dA t c U=some true:=by
 have hsl:s.l.length=L.length:=by rw[<-fQ,hs]
 have C:=w8 hS Y ((B.mem _).1 G);have ad:=C.1;refine Wp.eq ?_;unfold dA dA.W1;refine e9 c.l.length (λn q=>q.2=(n:Int)/\q.1=(c.l.take n).sum) ⟨rfl,rfl⟩ ?_ ?_
 .rintro n ⟨z,_⟩ u ⟨rfl,h1⟩;simp only at h1;subst h1;have I:=Hj C (n+1) Za
  rw[yX u]at I;unfold dA.bt;dsimp only;rw[iE u,bS,bL u,ζb,a_,jX _ Za Za]
  exact⟨cK n Za,(yX u).symm⟩
 rintro⟨z,_⟩ ⟨rfl,h1⟩;simp only at h1;subst h1;rw[List.take_length];unfold dA.bt;dsimp only;rw[iJ,bZ,a_];obtain⟨a0,g1,g2⟩:=MB hn Za
 show Wp ((kW U).bind _) _;rw[g1,ζb,W,ζb];unfold dA.W2;refine e9 s.l.length (λn q=>q.2=(n:Int)/\q.1.l.length<=400+n/\∀d∈ins q.1,d∈ins U\/(d∈L/\d.sum=c.l.sum/\d≠c.l)) ⟨rfl,by rw[g2];omega,λd w=>.inl (by unfold ins at w ⊢;rw[g2]at w;exact w)⟩ ?_ ?_
 .rintro n ⟨a,_⟩ u ⟨rfl,J,O⟩;simp only at J;have Q:s.l[n].l∈L:=by rw[<-hs];exact jQ.2 ⟨_,List.getElem_mem u,rfl⟩
  have D:=w8 hS Y ((B.mem _).1 Q);have ae:=D.1;unfold dA.bX;dsimp only;rw[iE u,bS,bL u,ζb];unfold dA.W3;refine e9 s.l[n].l.length (λk q=>q.2=(k:Int)/\q.1=(s.l[n].l.take k).sum) ⟨rfl,rfl⟩ ?_ ?_
  .rintro k ⟨z,_⟩ hk ⟨rfl,h1⟩;simp only at h1;subst h1;have I:=Hj D (k+1) Za
   rw[yX hk]at I;unfold dA.dH;dsimp only;rw[iE hk,bS,bL hk,ζb,a_,jX _ Za Za]
   exact⟨cK k Za,(yX hk).symm⟩
  rintro⟨z,_⟩ ⟨rfl,h1⟩;simp only at h1;subst h1;rw[List.take_length];unfold dA.dH;dsimp only;rw[iJ,bZ,a_];dsimp only;rw[pe (a:=c) (b:=s.l[n]) Za,ζb,j7,ζb]
  cases T:(s.l[n].l.sum==c.l.sum) && !decide (c.l=s.l[n].l)with
  | false=>
   rw[bZ];refine(a_ _).2 ⟨cK n Za,by show a.l.length<=_;omega,O⟩
  | true=>
   simp only[ζh,beq_iff_eq,Bool.not_eq_true',decide_eq_false_iff_not]at T;obtain⟨a2,k1,k2⟩:=jO (s:=a) (x:=s.l[n]) Za
   rw[bS,k1,ζb];refine(a_ _).2 ⟨cK n Za,by show a2.l.length<=_;rw[k2];simp;omega,λd w=>?_⟩
   rcases (Ai k2).1 w with w|rfl
   .exact O d w
   exact .inr ⟨Q,T.1,λe=>T.2 e.symm⟩
 rintro⟨a,_⟩ ⟨rfl,J,O⟩;simp only at J O;unfold dA.bX;dsimp only;rw[iJ,bZ,a_];show Wp ((ou t a).bind _) _;rw[dJ];refine(Cz hS hv Y hM B Za hN hc hr (l:=a) Za λx T=>?_).mono λq ⟨q1,q2⟩=>?_
 .rcases O x.l (jQ.2 ⟨x,T,rfl⟩)with h|h
  .exact(hb _ h).1
  exact h.1
 have hg:∀(j:Nat) d,L[j]? = some d->(d∈ins a->False)->vj L (ins a) j=false:=λj d w h=>by rw[FZ w];exact decide_eq_false h
 have ho:qp L (vj L (ins a)) 0:=by
  refine TR B (S:=c.l.sum) (λj d w hf u=>hg j d w λZ=>?_) aa (λd w=>?_) (LS Y hM B _ _ (nk G) (Nat.le_refl _) λj d w X=>hg j d w λZ=>?_)
  .rcases O d Z with h|h
   .have:=(hb d h).2.1;rw[ud B.nodup w,hf]at this;cases this
   omega
  .rw[nk G]at w;cases w;exact Int.le_refl _
  rcases O d Z with h|h
  .have:=hb d h;rcases X with h2|h2
   .omega
   exact this.2.2.1 h2
  rcases X with h2|h2
  .omega
  exact h.2.2 h2
 have hq:q.1=false:=by
  cases hh:q.1 with
  | false=>rfl
  | true=>exact absurd ho (q2.1 hh)
 rw[q1,hq];exact(a_ _).2 rfl
theorem Ji {s:Sl (Sl Int)} (B:ins s=L) (D:L.length<=5000) {c:Sl Int} (hc:c.l∈L) (G:c.l.length<=1000):jq c s=some (L.idxOf c.l:Int):=by
 have hsl:s.l.length=L.length:=by rw[<-fQ,B]
 unfold jq;rw[MI (p:=λz=>iw z c) (f:=λd=>decide (c.l=d.l)) (λz _=>by
  unfold iw;rw[pe Za];rfl) Za,ζb,Lu (by rw[show s.l.map Sl.l=L from B];exact hc),show s.l.map Sl.l=L from B]
theorem N9 {l:Sl Bool} {rr:Sl (Sl Int)} (hS:Small t) (hN:(bT t).length<1073741824):c6 t l rr=some true:=by
 obtain⟨b,hb⟩:=MP hS 14;obtain⟨v,hv,ap,I⟩:=Mt hS hN;obtain⟨sh,aq,ad⟩:=OO rr;unfold c6 rQ;rw[ζb,bS,hb,ζb,ζb,ir,ζb,aq,ζb,ir,ζb,ap,ζb,ir,ζb]
 cases h1:((!b||decide ((len l)>500)) || !sh) || !v with
 | true=>rfl
 | false=>
  simp only[Bool.or_eq_false_iff,Bool.not_eq_false']at h1;obtain⟨⟨⟨-,ae⟩,af⟩,ar⟩:=h1;subst ar;obtain⟨au,av⟩:=ad af;have ae:=of_decide_eq_false ae;have I:=I rfl;obtain⟨A,i,hA,hM⟩:=I.msgs;have h8:=I.few;rw[bZ];unfold vq;rcases JN hS hv I hM with⟨L,r,s,u,S,hc,G,hr,hs⟩|⟨_,G⟩
  .rw[G,ζb];simp only;rw[bS,ζb,ζb,ζb]
   cases h2:(!decide ((len s)<=400))with
   | true=>rfl
   | false=>
    rw[bZ];have hsl:s.l.length=L.length:=by rw[<-fQ,hs]
    have ah:L.length<=400:=by
     have:len s<=400:=by simpa using h2
     simp only[len]at this;omega
    obtain⟨q0,aw,x,hx,hB⟩:=NW hS I u S hc hr;subst hx;have hg:=Bg.of u;have ax:x.list.l.length=L.length:=by rw[<-fQ,hB.list]
    have Y:0<L.length:=List.length_pos_of_mem ((u.mem _).2 uG);have J:∀c∈L,0<c.length/\c.length<=8:=λc hc=>by
     have:=u.len hc;have:=I.ok.one;omega
    unfold ug;rw[aw,ζb];simp only;rw[show ((0:Int)==0)=true from rfl,bS,ζb]
    by_cases hl:l.l.length=L.length
    .rw[show (len l==len x.list)=true from by simp[len,hl,ax],bS]
     obtain⟨q,hq,ab⟩:=JU hB hg Y S J hl;rw[hq,ζb];rcases ab with⟨rfl,c1,c2⟩|⟨c1,c2,c3⟩
     .rfl
     rw[c1,bS,ζb];simp only;rw[show ((0:Int)==0)=true from rfl,bS];generalize q.1=o at c3;have aL:o.l.length<=400:=by
      have:=FX (L:=L) (f:=lF l) L.length;rw[<-c3,fQ]at this;omega
     have T:∀d∈ins o,d∈L:=λd C=>by rw[c3]at C;exact xF _ C
     have ai:∀d∈ins o,Rc L (lF l) (L.idxOf d)/\lF l (L.idxOf d)=true:=λd C=>by
      rw[c3]at C;obtain⟨j,-,hj,h2⟩:=(rP (Nat.le_refl _)).1 C;rw[ud u.nodup hj];exact h2
     unfold yo;obtain⟨bq,ay,aA,aB⟩:=Cz hS hv I hM u S Y hc hr (l:=o) Za λy hy=>T _ (jQ.2 ⟨y,hy,rfl⟩)
     have U:bq.1=true:=aB.2 (by rw[c3];exact Oe Y c2)
     rw[ζb,ay,ζb,ζb];simp only;rw[aA,U,show ((0:Int)==0)=true from rfl,bS,show (!true)=false from rfl,ζb,bZ,show (len s==len l)=true from by simp[len,hl,hsl],show (!true)=false from rfl,ζb,bZ]
     have aC:(ins o).Pairwise ec:=by
      rw[c3];have:=(Hf (L:=L) (f:=lF l) (Nat.le_refl L.length));rw[List.take_length]at this;exact u.srt.sublist this
     have aD:∀d∈L,L.idxOf d<l.l.length:=λd C=>by rw[hl];exact List.idxOf_lt_length_of_mem C
     have aa:∀d∈L,idx l (L.idxOf d:Int)=some (lF l (L.idxOf d)):=λd C=>by
      rw[nE];unfold lF;rw[ζd (aD d C)];rfl
     refine Wp.eq ?_;unfold c6.W1;refine e9 o.l.length (λn q=>q.2=(n:Int)/\(n=0/\q.1=-1\/∃d,0<n/\(ins o)[n-1]? = some d/\q.1=(L.idxOf d:Int))) ⟨rfl,.inl ⟨rfl,rfl⟩⟩ ?_ ?_
     .rintro n ⟨la,_⟩ O ⟨rfl,aj⟩;simp only at aj;have Z:o.l[n].l∈ins o:=jQ.2 ⟨_,List.getElem_mem O,rfl⟩;have B:=T _ Z;have ak:=ai _ Z;unfold c6.bt;dsimp only;rw[iE O,bS,bL O,ζb,Ji hs S B (by have:=J _ B;omega),ζb]
      have aE:¬(L.idxOf o.l[n].l:Int)<=la:=by
       rcases aj with⟨-,rfl⟩|⟨d,aM,C,rfl⟩
       .omega
       obtain⟨iN,aF⟩:=ζe.1 C;have al:n<(ins o).length:=by rw[fQ];exact O
       have:=List.pairwise_iff_getElem.1 aC (n-1) n iN al Za
       have aG:(ins o)[n]=o.l[n].l:=by
        have:=kG O;rw[ζd al]at this;exact Option.some.inj this
       rw[aF,aG]at this;have:=Uh u (T d (List.mem_of_getElem? C)) B this;omega
      rw[decide_eq_false aE,bZ,aa _ B,ζb,ak.2,show (!true)=false from rfl,ζb,bZ];unfold c6.W2;refine e9 o.l.length (λk q=>q.2=(k:Int)/\Nn q.1/\q.1.l.length<=k/\∀d∈ins q.1,d∈ins o/\d≠o.l[n].l/\u_ d o.l[n].l) ⟨rfl,Nn.nil,Nat.le_refl _,λd C=>by cases C⟩ ?_ ?_
      .rintro k ⟨bf,_⟩ hk ⟨rfl,W,U,Q⟩;simp only at W U Q;have am:o.l[k].l∈ins o:=jQ.2 ⟨_,List.getElem_mem hk,rfl⟩;unfold c6.bX;dsimp only;rw[iE hk,bS,bL hk,ζb,pe (by have:=J _ B;omega),ζb]
       have X:Wp (some (Fw.n (bf,IntKind.wrap .i64 ((k:Int)+1))):Option (Fw ((Sl (Sl Int))×Int) (Sl (Sl Int)) Empty)) λw=>match w with
        | .n q=>q.2=((k+1:Nat):Int)/\Nn q.1/\q.1.l.length<=k+1/\∀d∈ins q.1,d∈ins o/\d≠o.l[n].l/\u_ d o.l[n].l
        | .x _=>False|.r _=>False:=(a_ _).2 ⟨cK k Za,W,by show bf.l.length<=_;omega,Q⟩
       by_cases he:o.l[n].l=o.l[k].l
       .rw[decide_eq_true he,bS,ζb,bZ];exact X.mono λw hw=>by cases w with
         | n q=>exact hw
         | x e=>exact hw.elim
         | r e=>exact hw.elim
       obtain⟨z,hz,aH⟩:=(Wa (a:=o.l[k]) (b:=o.l[n]) (by have:=J _ (T _ am);omega)).eq
       rw[decide_eq_false he,bZ,hz,ζb,ζb]
       cases z with
       | false=>
        rw[bZ];exact X.mono λw hw=>by cases w with
         | n q=>exact hw
         | x e=>exact hw.elim
         | r e=>exact hw.elim
       | true=>
        obtain⟨b2,k1,k2⟩:=jO (s:=bf) (x:=o.l[k]) Za
        rw[bS,k1,ζb];refine(a_ _).2 ⟨cK k Za,Nn.app k1,by show b2.l.length<=_;rw[k2];simp;omega,λd C=>?_⟩
        rcases (Ai k2).1 C with C|rfl
        .exact Q d C
        exact⟨am,λe=>he e.symm,aH.1 rfl⟩
      rintro⟨bf,_⟩ ⟨rfl,W,U,Q⟩;simp only at W U Q;unfold c6.bX;dsimp only;rw[iJ,bZ,a_];show Wp ((dA t o.l[n] bf).bind _) _;rw[Ki (f:=lF l) hS hv I hM u ah Y hc hr G hs B W Za (λd C=>by
       obtain⟨d1,d2,d3⟩:=Q d C;exact⟨T d d1,(ai d d1).2,d2,(Ag d3).1⟩) ak.1,ζb,bS,a_]
      exact⟨cK n Za,.inr ⟨o.l[n].l,by omega,by rw[show n+1-1=n from by omega];exact kG O,rfl⟩⟩
     rintro⟨la,_⟩ ⟨rfl,-⟩;unfold c6.bt;dsimp only;rw[iJ,bZ,a_];show Wp ((zX t rr).bind _) _;rw[dJ];refine(N2 hS hv I hM u au av).mono λz hz=>?_
     cases z with
     | false=>exact(a_ _).2 rfl
     | true=>
      have hR:=hz rfl;rw[bS];unfold c6.W3;refine e9 rr.l.length (λk q=>q=(k:Int)/\∀(j:Nat) d,j<k->(ins rr)[j]? = some d->lF l (L.idxOf d)=false) ⟨rfl,λj d hj=>absurd hj Za⟩ ?_ ?_
      .rintro k _ hk ⟨rfl,hf⟩;have Z:rr.l[k].l∈ins rr:=jQ.2 ⟨_,List.getElem_mem hk,rfl⟩;have B:=hR.mem _ Z;unfold c6.dH;rw[iE hk,bS,bL hk,ζb,Ji hs S B (by have:=J _ B;omega),ζb,decide_eq_true (show (L.idxOf rr.l[k].l:Int)>=0 by omega),bS,aa _ B,ζb,ζb]
       cases ht:lF l (L.idxOf rr.l[k].l)with
       | false=>
        rw[bZ,a_];refine⟨cK k Za,λj d hj C=>?_⟩
        by_cases e:j=k
        .subst e;rw[kG hk]at C;cases C;exact ht
        exact hf j d Za C
       | true=>
        have aI:rr.l[k].l∈ins o:=by
         rw[c3];exact(rP (Nat.le_refl _)).2 ⟨_,List.idxOf_lt_length_of_mem B,nk B,yL I hM u hR c2 k _ (kG hk) hf,ht⟩
        obtain⟨y,hy,aJ⟩:=jQ.1 aI;rw[bS,si (p:=λz=>js z rr.l[k]) (f:=λz=>decide (rr.l[k].l=z.l)) (λz _=>by
         unfold js;rw[pe (by have:=J _ B;omega)];rfl) Za,ζb,a_]
        refine(a_ _).2 ?_;rw[List.any_eq_true];exact⟨y,hy,decide_eq_true aJ.symm⟩
      rintro _ ⟨rfl,hf⟩;exfalso;have hp:=hR.pos;have aN:(ins rr).length=rr.l.length:=fQ rr;have D:=hR.last;have aK:=hR.mem _ (List.mem_of_getElem? D);have an:=yL I hM u hR c2 _ _ D λj d hj C=>hf j d Za C
      have ao:=hf _ _ Za D
      rw[RI I u hM (nk aK)]at an ao;exact c2 ⟨an,ao⟩
    rw[show (len l==len x.list)=false from by simp[len];omega,bZ];rfl
  rw[G];rfl
end
end Go.VE
namespace Go.VE
theorem C9 {α:Type} [cr α] {x:α}:∀{l:List α},x∈l->cr.wt x<=(l.map cr.wt).sum
 | y::l,h=>by
  simp only[List.map_cons,List.sum_cons];rcases List.mem_cons.1 h with rfl|h
  .omega
  have:=C9 h;omega
theorem xx {α:Type} [cr α] (h:∀x:α,1<=cr.wt x):∀(l:List α),l.length<=(l.map cr.wt).sum
 | []=>Nat.le_refl _
 | y::l=>by
  simp only[List.map_cons,List.sum_cons,List.length_cons];have:=xx h l;have:=h y;omega
theorem C8 {α:Type} [cr α] (s:Sl α):cr.wt s=(s.l.map cr.wt).sum+1:=rfl
theorem A7 (p:Int):∀(es:List Event) (j:Int),(iD p j es).length=es.length
 | [],_=>rfl
 | _::es,j=>by simp only[iD,List.length_cons,A7 p es]
theorem GQ:∀(ps:List cu) (i:Int),(fI i ps).length<=(ps.map cr.wt).sum
 | [],_=>Nat.le_refl _
 | p::ps,i=>by
  simp only[fI,ζi,A7,List.map_cons,List.sum_cons];have h1:=GQ ps (i+1);have u:=xx (α:=Event) (λx=>Nat.le_add_left ..) p.events.l
  have w:cr.wt p=cr.wt p.name+cr.wt p.vars+cr.wt p.events+1:=rfl;have z:=C8 p.events;omega
theorem N4 {t:Trace} (h:cr.wt t<=1048576):Small t/\(bT t).length<1073741824:=by
 have h0:cr.wt t=cr.wt t.procs+1:=rfl;have h1:=C8 t.procs;have B:=xx (α:=cu) (λx=>Nat.le_add_left ..) t.procs.l
 have C:=GQ t.procs.l 0;refine⟨⟨by omega,λp u=>?_⟩,by show (fI 0 t.procs.l).length<_;omega⟩
 have D:=C9 u;have G:cr.wt p=cr.wt p.name+cr.wt p.vars+cr.wt p.events+1:=rfl;have I:=C8 p.events;have J:=C8 p.vars;have L:=xx (α:=Event) (λx=>Nat.le_add_left ..) p.events.l
 have O:=xx (α:=Var) (λx=>Nat.le_add_left ..) p.vars.l
 have w:cr.wt p.name=p.name.size+1:=rfl;refine⟨by omega,by omega,by omega,λv hv=>?_,λe z=>?_⟩
 .have k1:=C9 hv;have k2:cr.wt v=cr.wt v.name+cr.wt v.init_+1:=rfl;have k3:cr.wt v.name=v.name.size+1:=rfl;omega
 have k1:=C9 z;have k2:cr.wt e=cr.wt e.kind+cr.wt e.peer+cr.wt e.message+cr.wt e.time+cr.wt e.assign+1:=rfl;have k3:=C8 e.assign;have k4:=xx (α:=Assign) (λx=>Nat.le_add_left ..) e.assign.l
 omega
end Go.VE
namespace Go.Proofs.YtlhegnhabpldfaaGreatDoor
open Go.ChangeShapes Go.WideShapes Go.ChangeAt Go.RowKit Go.VE
theorem own:ownKnob Tryz.prog.godebug=none:=by kernel_rfl
theorem kids:Kids Tryz.prog (·<Tryz.prog.types.size):=kids_rows Zh Zh
theorem full:∀t e,t<Tryz.prog.types.size->Tryz.prog.underlying t=some (.slice e)->0<Tryz.prog.cellsOf e:=slices_full_of Tryz.prog Zh
theorem w5 {H:Type}:∀l:List (DataW H),Rows.uptoBulkAll l=(l.map Rows.uptoBulk).sum
 | []=>by simp[Rows.uptoBulkAll]
 | d::r=>by simp[Rows.uptoBulkAll,w5 r]
theorem F_ {H:Type}:rN (H:=H) Rows.uptoBulk where
 lit l:=by cases l <;> simp[Rows.uptoBulk]
 str s:=by simp[Rows.uptoBulk]
 nil:=by simp[Rows.uptoBulk]
 slice es u:=by rw[Rows.uptoBulk,w5,w5];omega
 agg ps:=by rw[Rows.uptoBulk,w5];exact Nat.le_refl _
theorem KM:Tryz.prog.globalNamed "antecede/predtype.parts" = some 0:=by kernel_rfl
theorem NL:(Tryz.prog.globals[0]?).map (·.type)=some 215:=by kernel_rfl
theorem table {W:World} (h:laidMetH Tryz.prog Rows.barrierNearUptoRow.laid W):Lib.TabIs Tryz.prog W "antecede/predtype.parts" .i64 Fi:=
 Lib.tabIs_of_head (rest:=[]) KM NL Tryz.underlying215 Tryz.underlying3 Zh Zh h
theorem U9 {W:World} (h:laidMetH Tryz.prog Rows.barrierNearUptoRow.laid W):tn (snap W):=λg u hg=>by
 change (if Nat.beq g 0 then some (Fi.map (V.int .i64))else none)=some u at hg;split at hg
 next w=>cases hg;have:g=0:=Nat.eq_of_beq_eq_true w;subst this;exact Oh (λi z=>(table h).cell KM i z) (by decide)
 cases hg
set_option maxRecDepth 100000 in
theorem Io (H:Type) (enc:TypeId×Value->H) (W:World) (base:Nat) (args:Array Value) (ds gs:List (DataW H)) (before:List MemPlace)
 (B:∀(j:Nat) t v,Tryz.f4.params[j]? = some t->args[j]? = some v->Value.okWide Tryz.prog W .any base t v)
 (G:DataW.Whole enc Tryz.prog Tryz.f4.params.toList Rows.barrierNearSpec.vars false W args.toList ds gs before) (hk:Rows.uptoSmall H (ds++gs)=true) (U:laidMetH Tryz.prog Rows.barrierNearUptoRow.laid W) :
 Calls Tryz.prog 4 args W λe J=>∃v,e=.returned v/\Rows.barrierNearSpec.post enc Tryz.prog Tryz.f4 false true false false W args v J:=by
 have z:=G;obtain⟨p,q,C,T,rfl,X,Y⟩:=G;have I:DataW.TrodAll enc Tryz.prog W 0 (λ_=>true) true Tryz.f4.params.toList args.toList ds p:=C
 rw[Tryz.params4]at I B;obtain⟨L,Z,d0,aa,p0,q0,D,rfl,rfl,h0,r0⟩:=trodAll_cons I;obtain⟨O,ab,d1,ad,p1,q1,rfl,rfl,rfl,h1,r1⟩:=trodAll_cons r0;obtain⟨Q,ae,d2,af,p2,q2,rfl,rfl,rfl,h2,r2⟩:=trodAll_cons r1;obtain⟨rfl,rfl,rfl⟩:=trodAll_nil r2;obtain rfl:args=#[L,O,Q]:=by cases args;simp_all
 obtain⟨rfl,rfl⟩:=trodVars_none T;obtain⟨a0,w0,k0,b0⟩:=Reads.KB (t:=24) (α:=VE.Trace) B 0 rfl rfl h0;obtain⟨a1,w1,k1,b1⟩:=Reads.KB (t:=42) (α:=Sl Bool) B 1 rfl rfl h1;obtain⟨u,w2,k2,b2⟩:=Reads.KB (t:=25) (α:=Sl (Sl Int)) B 2 rfl rfl h2;have hb:cr.wt a0+cr.wt a1+cr.wt u<=1048576:=by
  have c0:=b0 Rows.uptoBulk F_;have c1:=b1 Rows.uptoBulk F_;have c2:=b2 Rows.uptoBulk F_;have S:Rows.uptoBulkAll ([d0,d1,d2]++[])<=1048576:=of_decide_eq_true hk;rw[w5]at S;simp only[List.append_nil,List.map_cons,List.map_nil,List.sum_cons,List.sum_nil]at S;omega
 obtain⟨hS,hN⟩:=N4 (t:=a0) Za
 have hc:mV cL 4 [VE.enc a0,VE.enc a1,VE.enc u]=some [.bool true]:=by
  have hl:(c6 a0 a1 u).bind (λr:Bool=>some [V.bool r])=some [.bool true]:=by rw[N9 (l:=a1) (rr:=u) hS hN];rfl
  exact(xS a0 a1 u).F.h () _ hl
 have:=JK (P:=Tryz.prog) Fu Ah calls (f:=4) (xs:=[VE.enc a0,VE.enc a1,VE.enc u]) (by simp[V.cA,V.good,ig]) hc (w:=W) (args:=#[L,O,Q]) (U9 U) (cM.cons w0 (cM.cons w1 (cM.cons w2 .nil)))
 refine this.mono λe J ⟨he,hg⟩=>?_
 subst he;exact⟨_,rfl,Nj kids full (by rw[Tryz.params4];decide) rfl rfl rfl Tryz.underlying4 z hg⟩
noncomputable def yP (os:Os):World:=
 { World.holding Tryz.prog os ⟨#[],#[],[]⟩with heap:=(World.holding Tryz.prog os ⟨#[],#[],[]⟩).heap.modify 0 fun
  | .cells _ t frozen=>.cells (Fi.map (Value.int .i64)).toArray t frozen
  | o=>o }
theorem Oj (os:Os):laidMet Tryz.prog Rows.barrierNearUptoRow.laid ((yP os).forCall (λ_ _=>0) ⟨#[],#[.agg #[.slice none 0 0],.slice none 0 0,.slice none 0 0],[]⟩).memory:=
 laidMet_of_run' 8 Zh Zh
theorem O_ (os:Os) {H:Type} (enc:TypeId×Value->H):∃places,DataW.whole enc Tryz.prog ((yP os).forCall (λ_ _=>0) ⟨#[],#[.agg #[.slice none 0 0],.slice none 0 0,.slice none 0 0],[]⟩).memory Tryz.f4.params.toList Rows.barrierNearSpec.vars false (#[.agg #[.slice none 0 0],.slice none 0 0,.slice none 0 0]:Array Value).toList 8=some ([.agg [.nil],.nil,.nil],[],places):=
 ⟨[],by kernel_rfl⟩
set_option maxRecDepth 100000 in
theorem No (os:Os) (B:os.Started) (H:Type) (enc:TypeId×Value->H) (F:Stop.Interp) :
 ReturnsInHanded {} Tryz.checked os 4 .any ((Rows.OpenSpec.upto Rows.barrierNearSpec).preRow enc Tryz.prog Tryz.f4 Rows.barrierNearUptoRow.domain false Rows.barrierNearUptoRow.laid) (((Rows.OpenSpec.upto Rows.barrierNearSpec).at F).post enc Tryz.prog Tryz.f4 false true false false):=by
 obtain⟨places,z⟩:=O_ os enc;refine returnsInHanded_of_row (C:=Tryz.checked) (s:=Rows.OpenSpec.upto Rows.barrierNearSpec) own B Zh Tryz.func4
  (witness_row_at (enc:=enc) (C:=Tryz.checked) false (yP os) #[.agg #[.slice none 0 0],.slice none 0 0,.slice none 0 0] rfl Zh Zh Zh
   (OpenSpec.preRow_of_cond 8 z Zh (λk hk=>by cases hk;kernel_rfl) Zh (Oj os))) ?_
 intro W base args ds gs before w D _ u _ G _ _;exact Io H enc W base args ds gs before w D (u _ rfl) G
theorem R3:Rows.BarrierNearUptoSaid:=
 OpenClaim.holds_of_cond 4 Tryz.f4 rfl rfl rfl rfl rfl rfl rfl ⟨rfl,rfl,rfl,rfl,rfl⟩ rfl rfl rfl rfl rfl Zh Tryz.func4 Zh
  (of_decide_eq_true Zh) (by unfold Func.isWrapper;first|(rw[if_pos (by decide +kernel)];kernel_rfl)|(rw[if_neg (by decide +kernel)];exact⟨rfl,rfl⟩))
  (λos u H enc _ F=>by rw[OpenClaim.pre_eq_preRow];exact No os u H enc F)
theorem NZ (f:FuncId) (fn:Func) (D:Tryz.pinned.checked.prog.funcNamed "antecede/antecedelaw42.BarrierNear" = some f) (B:Tryz.pinned.checked.prog.funcs[f]? = some fn) :
 false=Tryz.pinned.checked.prog.looks []/\∀(j:Nat) t,fn.params[j]? = some t->Tryz.pinned.checked.prog.wantsStandIn t=false:=by
 obtain rfl:f=4:=Option.some.inj ((show Tryz.prog.funcNamed "antecede/antecedelaw42.BarrierNear" = some 4 by kernel_rfl).symm.trans D) |>.symm
 obtain rfl:fn=Tryz.f4:=(Option.some.inj (Tryz.func4.symm.trans B)).symm;refine⟨by kernel_rfl,λj t z=>?_⟩
 rw[Tryz.params4]at z;have C:t∈[24,42,25]:=by simpa using Array.mem_of_getElem? z
 have w:([24,42,25].all λu => !Tryz.prog.wantsStandIn u)=true:=by kernel_rfl
 exact(show Tryz.prog.wantsStandIn t=false by simpa using List.all_eq_true.1 w t C)
theorem barrierNearProved:Rows.BarrierNearUptoCardSaid:=
 Claim7.holds_tied_plain_at .later [] _ _ _ _ R3 (λ_ h=>by cases h) Zh (λ_ h=>by cases h) barrierNearUpto_row_tie rfl ⟨rfl,rfl⟩ Zh rfl NZ Zh
#print axioms barrierNearProved
end Go.Proofs.YtlhegnhabpldfaaGreatDoor
