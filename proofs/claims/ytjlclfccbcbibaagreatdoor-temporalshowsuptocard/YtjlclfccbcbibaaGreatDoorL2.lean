/-
 TemporalShows says true for all arguments that together are of bulk at most 1048576, and they read behind the call as they read before: for every such argument, without a condition.
-/
import Derived.Test.YtjlclfccbcbibaaGreatDoorRows
import Derived.Test.YtjlclfccbcbibaaGreatDoorCards
import Derived.Test.YtjlclfccbcbibaaGreatDoorTie
import Derived.Deep.DeepHandedRow
import Derived.Test.YtjlclfccbcbibaaGreatDoorK1
import Derived.Test.YtjlclfccbcbibaaGreatDoorL1
set_option linter.all false
noncomputable section
open List(all_eq_true getElem?_eq_none getElem?_map getElem?_set getElem_mem length_map map_congr_left map_cons map_nil mem_cons mem_map mem_of_getElem? mem_singleton replicate sum_cons)
open Int(mul_comm zero_sub)
open Go.IntKind(wrap)
open ByteArray(toList)
open Nat(le_add_left le_refl)
open Classical(byContradiction)
namespace Go.VE
theorem Zag{p:Prop}(h:p:=by kernel_rfl):p:=h
section
variable{t:Z4}{A:bU 200 bq}
theorem CM(a:Small t){p:Nat}{P:bP}(D:t.procs.l[p]?=some P)(q:Nat):e8 t p q=some ((P.events.l.countP (gp q):Nat):Int):=by
 have G:P∈t.procs.l:=mem_of_getElem? D;have I:=(a.2 P G).1;refine Wp.eq ?_;unfold e8;rw[jN,D,ζb];unfold e8.W1;refine gY P.events.l.length (λn s=>s.2=(n:Int)/\s.1=(((P.events.l.take n).countP (gp q):Nat):Int)) ⟨rfl,rfl⟩ ?_ ?_;rintro n ⟨o,_⟩ w ⟨e1,e2⟩;simp only at e1 e2;subst e1 e2;have z:=List.countP_le_length (p:=gp q) (l:=P.events.l.take n);rw[List.length_take]at z;have u:(P.events.l.take (n+1)).countP (gp q)=(P.events.l.take n).countP (gp q)+if gp q P.events.l[n]then 1 else 0:=by rw[List.take_add_one,ζd w,List.countP_append];show _+List.countP _ [P.events.l[n]]=_;rw[List.countP_cons,List.countP_nil];simp
 unfold e8.bz;rw[kX w,br,bL w,ζb];generalize P.events.l[n]=e at u;have B:(bl (e.kind==2) (some (e.peer==(q:Int))) (some false):aY X')=some (gp q e):=by unfold gp;cases e.kind==2<;>cases e.peer==(q:Int)<;>rfl
 rw[B,ζb,dZ n Zaa];cases C:gp q e with|true=>rw[C]at u;rw[br,bf,dZ _ Zaa];exact⟨rfl,by simp only[u];rfl⟩|false=>rw[C]at u;rw[bu,bf];exact⟨rfl,by simp only[u];rfl⟩
 rintro⟨o,_⟩ ⟨e1,e2⟩;simp only at e1 e2;subst e1 e2;unfold e8.bz;rw[mc,bu,bf];exact(bf _).2 (by rw[List.take_length])
end
end Go.VE
namespace Go.VE
section
variable{t:Z4}
def zx(b a:Int):X':=decide (b>=-1125899906842624)&&decide (a<=1125899906842624)
structure uo(low high:Int):Prop where
 le:low<=high
 lo:-1125899906842624<=low
 hi:high<=1125899906842624
theorem Dl(b a:Int):jf ⟨b,a⟩=some (!zx b a):=by
 unfold jf zx;have c:decide (b< -1125899906842624)= !decide (b>=-1125899906842624):=by rw[Bool.eq_iff_iff];simp
 have u:decide (a>1125899906842624)= !decide (a<=1125899906842624):=by rw[Bool.eq_iff_iff];simp
 simp only;rw[c,u];cases decide (b>=-1125899906842624)<;>cases decide (a<=1125899906842624)<;>rfl
theorem uo.of{b a:Int}(h:b<=a)(g:zx b a=true):uo b a:=by simp only[zx,ζh]at g;have:=of_decide_eq_true g.1;have:=of_decide_eq_true g.2;exact⟨h,Zaa,Zaa⟩
theorem G3(v:bJ)(l h:Int)(r:Z4×UV->aY (bJ×X')):cU.J2 v ⟨l,h⟩ r=some (⟨l,h⟩,zx l h):=by unfold cU.J2;rw[Dl,ζb,Bool.not_not]
theorem Ec{ok B:X'}(h:(ok&&B)=false)(p:UV)(v a b:bJ)(r:Z4×UV->aY (bJ×X')):cU.J1 ok B p v a b r=some (⟨0,0⟩,false):=by unfold cU.J1;cases ok<;>cases B<;>first|rfl|cases h
theorem Pred.parts{p:UV}(B:fB p=true){c:Int}(a:bU.at wY p.kind=some c):(p.l.l.length:Int)=c:=by obtain⟨-,-,h⟩:=rD B;grind
structure nQ(t:Trace)(p:Pred):Prop where
 sm:p.Sm
 f:p.hG fB=true
 r:p.hG (qK t)=true
 y:p.hG yX=true
theorem nQ.si{p q:UV}(h:nQ t p)(B:q∈p.l.l):nQ t q:=by have⟨a,u,w,z⟩:=h;rw[p.lX,ζh,all_eq_true]at u w z;exact⟨a.si B,u.2 q B,w.2 q B,z.2 q B⟩
theorem nQ.here{p:UV}(h:nQ t p):fB p=true/\qK t p=true/\yX p=true:=by have⟨a,u,w,z⟩:=h;rw[p.lX,ζh]at u w z;grind
theorem nQ.int{p q:UV}(h:nQ t p)(a:p.kind<=12)(B:q∈p.l.l):q.kind<=8:=by have:=h.here.2.2;unfold yX at this;grind
end
end Go.VE
namespace Go.VE
end Go.VE
namespace Go.VE
section
variable{t:Z4}{A:bU 200 bq}{P:bP}{v:Nat}
structure wo(t:Trace)(A:bU 200 bq)(c:Sl Int)(l:Sl (Sl Int)):Prop where
 hS:Small t
 hv:b9 t=some true
 hV:VT t
 hM:eB t (bO t) A
 hC:Cons t A c.l
 vals:∀(p:Nat)(P:bP)(a:Int),t.procs.l[p]?=some P->c.l[p]?=some a->∃x,l.l[p]?=some x/\x.l=jX P a.toNat
end
end Go.VE
namespace Go.VE
section
variable{t:Z4}
theorem zY{p:UV}(B:j_ p=true)(a:nQ t p):pP p=some (mb p.kind,0):=by have u:=a.sm;have hd:=B;simp only[j_,ζh,decide_eq_true_eq]at hd;unfold pP;rw[rm u,B,ζb,br,vO u Zaa,a.y,ζb,br,tD];rfl
end
theorem FK{a b x:Int}(c:a<=x)(B:x<=b)(y:Int){lo hi:Int}(D:lo<=a*y/\a*y<=hi)(G:lo<=b*y/\b*y<=hi):lo<=x*y/\x*y<=hi:=by by_cases h:0<=y;have p1:=Int.mul_le_mul_of_nonneg_right c h;have p2:=Int.mul_le_mul_of_nonneg_right B h;omega;have p1:=Int.mul_le_mul_of_nonpos_right c (show y<=0 by omega);have p2:=Int.mul_le_mul_of_nonpos_right B (show y<=0 by omega);omega
theorem VZ{a b c d x y lo hi:Int}(f:a<=x)(U:x<=b)(B:c<=y)(D:y<=d)(e:lo<=a*c/\a*c<=hi)(G:lo<=a*d/\a*d<=hi)(J:lo<=b*c/\b*c<=hi)(T:lo<=b*d/\b*d<=hi):lo<=x*y/\x*y<=hi:=by refine FK f U y ?_ ?_;rw[mul_comm a y];rw[mul_comm a c]at e;rw[mul_comm a d]at G;exact FK B D a e G;rw[mul_comm b y];rw[mul_comm b c]at J;rw[mul_comm b d]at T;exact FK B D b J T
theorem XW{a b m:Int}(h:(if 0-a>a then 0-a else a)*(if 0-b>b then 0-b else b)<=m):-m<=a*b/\a*b<=m:=by
 have z:∀u w:Int,0<=u->0<=w->0<=u*w:=λu w=>Int.mul_nonneg;have e1:(0-a)*b=-(a*b):=by rw[zero_sub,Int.neg_mul]
 have e2:a*(0-b)=-(a*b):=by rw[zero_sub,Int.mul_neg]
 have e3:(0-a)*(0-b)=a*b:=by rw[zero_sub,zero_sub,Int.neg_mul_neg]
 by_cases B:0-a>a<;>by_cases C:0-b>b;rw[if_pos B,if_pos C]at h;have:=z (0-a) (0-b) Zaa Zaa;omega;rw[if_pos B,if_neg C]at h;have:=z (0-a) b Zaa Zaa;omega;rw[if_neg B,if_pos C]at h;have:=z a (0-b) Zaa Zaa;omega;grind
def Gy(k x y:Int):Int:=if k=5 then wrap .i64 (0-x)else if k=6 then wrap .i64 (x+y)else if k=7 then wrap .i64 (x-y)else wrap .i64 (x*y)
section
variable{t:Z4}{A:bU 200 bq}
end
section
variable{t:Z4}
end
theorem KC{α:Type}{f:α->X'}:∀{l:aX α},l.any f=true->∃(k:Nat)(x:α),l[k]?=some x/\f x=true/\∀(j:Nat)(y:α),j<k->l[j]?=some y->f y=false
 |[],h=>by simp at h|a::r,h=>by by_cases B:f a=true;exact⟨0,a,rfl,B,λj y D=>absurd D Zaa⟩;rw[List.any_cons,Bool.or_eq_true]at h;have⟨k,x,b,G,J⟩:=KC (h.resolve_left B);refine⟨k+1,x,Zac,G,λj y D u=>?_⟩;grind
section
variable{t:Z4}
theorem JA(b:Small t){q:UV}(c:q.kind=2)(a:qK t q=true):∃(n k:Nat)(P:bP)(v:Var),q.proc=n/\t.procs.l[n]?=some P/\P.vars.l[k]?=some v/\(toList v.name==toList q.name)=true/\∀(j:Nat)(w:Var),j<k->P.vars.l[j]?=some w->(toList w.name==toList q.name)=false:=by unfold qK at a;rw[if_pos Zac]at a;simp only[ζh]at a;obtain⟨z,-,u⟩:=a;have⟨n,B,C⟩:=qC (t:=t) (p:=q.proc) Zac;grind[MW,bL,KC]
theorem O3(d:Small t)(f:b9 t=some true)(D:Ok t){q:UV}(G:fB q=true)(c:qK t q=true)(i:q.kind<=4):∃b a,gw t q=some ⟨b,a⟩/\b<=a:=by obtain⟨k1,-,-⟩:=rD G;rcases(show q.kind=1\/q.kind=2\/q.kind=3\/q.kind=4 by omega)with h|h|h|h;refine⟨q.n,q.n,?_,Int.le_refl _⟩;grind[gw,br,Uu];have⟨n,k,P,v,w,z,u,g,C⟩:=JA d h c;have⟨⟨b,a,e⟩,g1,g2,g3,g4⟩:=HC d f D z (name:=q.name) u g C;simp only at g2 g3 g4;subst g2;refine⟨b,a,?_,g4.2 _ g3.1⟩;simp_all[gw,bu];unfold qK at c;rw[if_neg (by simp[h]),if_pos (by simpa using h)]at c;simp only[ζh]at c;have⟨n,w,B⟩:=qC (t:=t) (p:=q.proc) Zac;refine⟨0,len t.procs.l[n].events,?_,Zac⟩;simp_all[gw,bu,br,bL];unfold qK at c;rw[if_neg (by simp[h]),if_neg (by simp[h]),if_pos (by simpa using h)]at c;simp only[ζh]at c;have⟨n,w,B⟩:=qC (t:=t) (p:=q.proc) Zac;have⟨m,J,I⟩:=qC (t:=t) (p:=q.peer) Zac;have z:=ζd B;refine⟨0,((t.procs.l[n].events.l.countP (gp m):Nat):Int),?_,Zaa⟩;simp_all[gw,bu,br,CM]
theorem nI{a b:Int}(B:-1125899906842624<=a/\a<=1125899906842624)(D:-1125899906842624<=b/\b<=1125899906842624):∃x,gX a b=some x:=by
 unfold gX qz;by_cases u:a=0;subst u;exact⟨_,rfl⟩;rw[show(a==0)=false from Zac,bu,ζb];by_cases c:b=0;subst c;exact⟨_,rfl⟩;rw[show(b==0)=false from Zac,bu,ζb,ζb,gb (0-b) Zaa Zaa];have:∀k m:Int,m≠0->∃x,zW .i64 k m=some x:=λk m z=>by simp_all[zW]
 have⟨x,w⟩:=this 1125899906842624 (if 0-b>b then 0-b else b) (by split<;>omega);rw[w,ζb];cases decide ((if wrap .i64 (0-a)>a then wrap .i64 (0-a)else a)>x)<;>cases(decide (a<0)==decide (b<0))<;>exact⟨_,rfl⟩
theorem Hg{p:UV}(i:5<=p.kind/\p.kind<=8){a b c d:Int}(g:uo a b)(B:uo c d)(v:bJ)(r:Z4×UV->aY (bJ×X')):
 ∃f e,cU.J1 true true p v ⟨a,b⟩ ⟨c,d⟩ r=some (⟨f,e⟩,zx f e)/\f<=e:=by
 have⟨a1,a2,u⟩:=g;have⟨C,D,G⟩:=B;unfold cU.J1;rw[br,ζb,show(!true)=false from rfl,bu];rcases(show p.kind=5\/p.kind=6\/p.kind=7\/p.kind=8 by omega)with h|h|h|h<;>rw[h]
 .refine⟨-b,-a,?_,Zaa⟩
  rw[show((5:Int)==5)=true from rfl,br,G3]
  grind[gb]
 .refine⟨a+c,b+d,?_,Zaa⟩
  rw[show((6:Int)==5)=false from rfl,bu,show((6:Int)==6)=true from rfl,br,G3]
  grind[gb]
 .refine⟨a-d,b-c,?_,Zaa⟩
  rw[show((7:Int)==5)=false from rfl,bu,show((7:Int)==6)=false from rfl,bu,show((7:Int)==7)=true from rfl,br,G3]
  grind[gb]
 have⟨w,I⟩:=nI (a:=a) (b:=c) ⟨Zaa,Zaa⟩ ⟨Zaa,Zaa⟩
 have⟨x,J⟩:=nI (a:=a) (b:=d) ⟨Zaa,Zaa⟩ ⟨Zaa,Zaa⟩
 have⟨y,L⟩:=nI (a:=b) (b:=c) ⟨Zaa,Zaa⟩ ⟨Zaa,Zaa⟩
 have⟨z,O⟩:=nI (a:=b) (b:=d) ⟨Zaa,Zaa⟩ ⟨Zaa,Zaa⟩
 refine⟨if(if z<y then z else y)<(if x<w then x else w)then(if z<y then z else y)else(if x<w then x else w),if(if z>y then z else y)>(if x>w then x else w)then(if z>y then z else y)else(if x>w then x else w),?_,?_⟩
 .rw[show((8:Int)==5)=false from rfl,bu,show((8:Int)==6)=false from rfl,bu,show((8:Int)==7)=false from rfl,bu]
  grind[TX,G3]
 grind
theorem MD(f:Small t)(g:b9 t=some true)(T:Ok t)(p:UV):nQ t p->p.kind<=8->∀n,p.dp<=n->
 ∃i ok,dU (λr(z:Z4×UV)=>dx z.1 z.2 r) n (t,p)=some (i,ok)/\(ok=true->uo i.low i.high):=by
 induction p using Pred.ind with
 |h p u=>
  intro d l n m;have hd:=p.sn;have⟨w,k,o⟩:=d.here;obtain⟨k1,-,-⟩:=rD w;rw[fJ Zaa]
  have u:=λq D=>u q D (d.si D) (d.int Zaa D) (n-1) (by have:=Pred.kz D;omega)
  show∃i ok,dx t p (dU (λr(z:Z4×UV)=>dx z.1 z.2 r) (n-1))=some (i,ok)/\_
  generalize dU (λr(z:Z4×UV)=>dx z.1 z.2 r) (n-1)=R at u⊢
  unfold dx
  by_cases Q:p.kind<=4
  .have S:p.l.l.length=0:=by
    have:=Pred.parts w (c:=0) (by rcases(show p.kind=1\/p.kind=2\/p.kind=3\/p.kind=4 by omega)with h|h|h|h<;>(rw[h];rfl))
    omega
   have⟨b,a,g1,g2⟩:=O3 f g T w k Q;refine⟨⟨b,a⟩,zx b a,?_,λh=>uo.of g2 h⟩
   rw[show(len p.l==0)=true from Zac,br,g1,ζb,Dl,ζb,Bool.not_not]
  by_cases U:p.kind=5
  .have W:p.l.l.length=1:=by
    have:=Pred.parts w (c:=1) (by rw[U];rfl)
    omega
   have B:0<p.l.l.length:=Zaa
   have⟨i,ok,g1,g3⟩:=u _ (getElem_mem B);have G:idx p.l 0=some p.l.l[0]:=bL (i:=0) B;rw[show(len p.l==0)=false from Zac,bu,G,ζb,g1,ζb,show(len p.l==2)=false from Zac,bu]
   simp only
   cases ok with
   |false=>
    rw[Ec rfl]
    grind
   |true=>
    have⟨b,a,I,J⟩:=Hg (p:=p) ⟨Zaa,Zaa⟩ (g3 rfl) (g3 rfl) ⟨0,0⟩ R
    exact⟨_,_,I,λh=>uo.of J h⟩
  have X:p.l.l.length=2:=by have:=Pred.parts w (c:=2) (by rcases(show p.kind=6\/p.kind=7\/p.kind=8 by omega)with h|h|h<;>(rw[h];rfl));omega
  have B:0<p.l.l.length:=Zaa
  have e:1<p.l.l.length:=Zaa
  have⟨i,ok,g1,g3⟩:=u _ (getElem_mem B);have⟨j,C,Y,Z⟩:=u _ (getElem_mem e);have G:idx p.l 0=some p.l.l[0]:=bL (i:=0) B;have L:idx p.l 1=some p.l.l[1]:=bL (i:=1) e;rw[show(len p.l==0)=false from Zac,bu,G,ζb,g1,ζb,show(len p.l==2)=true from Zac,br,L,ζb,Y,ζb]
  simp only
  cases O:ok&&C with
  |false=>
   rw[Ec O]
   grind
  |true=>
   simp only[ζh]at O;obtain⟨rfl,rfl⟩:=O;have⟨b,a,I,J⟩:=Hg (p:=p) ⟨Zaa,Zaa⟩ (g3 rfl) (Z rfl) ⟨0,0⟩ R
   exact⟨_,_,I,λh=>uo.of J h⟩
theorem Xv(c:Small t)(d:b9 t=some true)(B:Ok t)(p:UV):nQ t p->p.dp<=20->∀n,p.dp<=n->∃b,dU (λr(z:Z4×UV)=>cw z.1 z.2 r) n (t,p)=some b:=by induction p using Pred.ind with|h p w=>intro a hd n D;have C:=p.sn;rw[fJ Zaa];have w:=λq u=>w q u (a.si u) (by have:=Pred.kz u;omega) (n-1) (by have:=Pred.kz u;omega);show∃b,cw t p (dU (λr(z:Z4×UV)=>cw z.1 z.2 r) (n-1))=some b;generalize dU (λr(z:Z4×UV)=>cw z.1 z.2 r) (n-1)=R at w⊢;unfold cw;rw[tD,ζb];by_cases e:p.kind<=8;rw[show(mb p.kind==1)=true from Zac,br];obtain⟨i,ok,g1,-⟩:=MD c d B p a e 100000 Zaa;grind[cU];rw[show(mb p.kind==1)=false from Zac,bu];let g:UV->X':=λq=>(R (t,q)).getD false;have j:∀q∈p.l.l,R (t,q)=some (g q):=λq u=>(by grind);rw[v_ _ a.sm.len,uS (f:=λq=> !g q) (λq u=>by grind[kP])];grind
theorem PC(a:Small t)(D:(bO t).length<1073741824){p:UV}(B:p.Sm):
 ∃e,dY t p=some e/\(e=0->b9 t=some true/\VT t/\j_ p=true/\nQ t p):=by
 obtain⟨z,c,w,-⟩:=Rk a D;unfold dY;rw[c,ζb]
 cases z with
 |false=>exact⟨1,rfl,λh=>by cases h⟩|true=>
  have d:=w rfl;rw[br,rm B,ζb]
  cases C:j_ p with
  |false=>exact⟨1,rfl,λh=>by cases h⟩|true=>
   have u:=C;simp only[j_,ζh]at u;have hd:=of_decide_eq_true u.2.1;unfold mO;rw[show(!true)=false from rfl,ζb,bu,uz a B Zaa,ζb]
   cases g:p.hG (qK t)with
   |false=>exact⟨13,rfl,λh=>by cases h⟩|true=>
    rw[br,vO B Zaa,ζb]
    cases G:p.hG yX with
    |false=>exact⟨14,rfl,λh=>by cases h⟩|true=>
     have f:nQ t p:=⟨B,u.2.2,g,G⟩;have⟨b,g1⟩:=Xv a c d.ok p f hd 100000 Zaa
     rw[br,g1,ζb]
     cases b with
     |false=>exact⟨9,rfl,λh=>by cases h⟩|true=>exact⟨0,rfl,λ_=>⟨rfl,d,rfl,f⟩⟩
end
theorem yh{a b x:Int}(B:-1125899906842624<=a/\a<=1125899906842624)(D:-1125899906842624<=b/\b<=1125899906842624)(h:gX a b=some x)(G:-1125899906842624<=x/\x<=1125899906842624):a*b=x:=by
 unfold gX qz at h;by_cases u:a=0;subst u;rw[show(0:Int)*b=0 from Zaa];exact Option.some.inj h;rw[show(a==0)=false from Zac,bu,ζb]at h;by_cases d:b=0;subst d;rw[show a*(0:Int)=0 from Zaa];exact Option.some.inj h;rw[show(b==0)=false from Zac,bu,ζb,ζb,gb (0-b) Zaa Zaa,gb (0-a) Zaa Zaa]at h;have w:0<(if 0-b>b then 0-b else b):=by split<;>omega
 unfold zW at h;rw[if_neg Zaa,ζb,Int.tdiv_eq_ediv_of_nonneg Zaa]at h;have hd:(1125899906842624:Int) / (if 0-b>b then 0-b else b)<=1125899906842624:=Int.ediv_le_self _ Zaa;have z:0<=(1125899906842624:Int) / (if 0-b>b then 0-b else b):=Int.ediv_nonneg Zaa Zaa;rw[gb ((1125899906842624:Int) / (if 0-b>b then 0-b else b)) Zaa Zaa]at h;by_cases c:(if 0-a>a then 0-a else a)>(1125899906842624:Int) / (if 0-b>b then 0-b else b);rw[decide_eq_true c,br,gb (0-1125899906842625) Zaa Zaa]at h;exfalso;revert h;cases(decide (a<0)==decide (b<0))<;>intro h;have:=Option.some.inj h;omega;have:=Option.some.inj h;omega;rw[decide_eq_false c,bu]at h;have C:=XW (Int.mul_le_of_le_ediv w (show(if 0-a>a then 0-a else a)<=(1125899906842624:Int) / (if 0-b>b then 0-b else b)from Zaa));rw[gb (a*b) Zaa Zaa]at h;grind
def Mx(k x y:Int):Int:=if k=5 then 0-x else if k=6 then x+y else if k=7 then x-y else x*y
theorem KM{p:UV}(i:5<=p.kind/\p.kind<=8){a b c d x y:Int}(g:uo a b)(J:uo c d)(D:a<=x/\x<=b)(G:c<=y/\y<=d)(v:bJ)(r:Z4×UV->aY (bJ×X')):
 ∃f e,cU.J1 true true p v ⟨a,b⟩ ⟨c,d⟩ r=some (⟨f,e⟩,zx f e)/\f<=e/\(zx f e=true->f<=Mx p.kind x y/\Mx p.kind x y<=e):=by
 have⟨a1,a2,U⟩:=g;have⟨W,X,Y⟩:=J;unfold cU.J1;rw[br,ζb,show(!true)=false from rfl,bu];rcases(show p.kind=5\/p.kind=6\/p.kind=7\/p.kind=8 by omega)with h|h|h|h<;>rw[h]
 .refine⟨-b,-a,?_,Zaa,λ_=>?_⟩
  .rw[show((5:Int)==5)=true from rfl,br,G3]
   grind[gb]
  show -b<=(0-x)/\(0-x)<=-a;omega
 .refine⟨a+c,b+d,?_,Zaa,λ_=>?_⟩
  .rw[show((6:Int)==5)=false from rfl,bu,show((6:Int)==6)=true from rfl,br,G3]
   grind[gb]
  show a+c<=(x+y)/\(x+y)<=b+d;omega
 .refine⟨a-d,b-c,?_,Zaa,λ_=>?_⟩
  .rw[show((7:Int)==5)=false from rfl,bu,show((7:Int)==6)=false from rfl,bu,show((7:Int)==7)=true from rfl,br,G3]
   grind[gb]
  show a-d<=(x-y)/\(x-y)<=b-c;omega
 have⟨w,C⟩:=nI (a:=a) (b:=c) ⟨Zaa,Zaa⟩ ⟨Zaa,Zaa⟩
 have⟨z,I⟩:=nI (a:=a) (b:=d) ⟨Zaa,Zaa⟩ ⟨Zaa,Zaa⟩
 have⟨m,O⟩:=nI (a:=b) (b:=c) ⟨Zaa,Zaa⟩ ⟨Zaa,Zaa⟩
 have⟨n,Q⟩:=nI (a:=b) (b:=d) ⟨Zaa,Zaa⟩ ⟨Zaa,Zaa⟩
 refine⟨if(if n<m then n else m)<(if z<w then z else w)then(if n<m then n else m)else(if z<w then z else w),if(if n>m then n else m)>(if z>w then z else w)then(if n>m then n else m)else(if z>w then z else w),?_,?_,λu=>?_⟩
 .rw[show((8:Int)==5)=false from rfl,bu,show((8:Int)==6)=false from rfl,bu,show((8:Int)==7)=false from rfl,bu]
  grind[TX,G3]
 .grind
 generalize S:(if(if n<m then n else m)<(if z<w then z else w)then(if n<m then n else m)else(if z<w then z else w))=L at u⊢;generalize T:(if(if n>m then n else m)>(if z>w then z else w)then(if n>m then n else m)else(if z>w then z else w))=H at u⊢;simp only[zx,ζh]at u;have o1:=of_decide_eq_true u.1;have o2:=of_decide_eq_true u.2;have Z:L<=n/\L<=m/\L<=z/\L<=w:=by rw[<-S];grind
 have j:n<=H/\m<=H/\z<=H/\w<=H:=by rw[<-T];grind
 have t1:=yh ⟨Zaa,Zaa⟩ ⟨Zaa,Zaa⟩ C Zaa
 have t2:=yh ⟨Zaa,Zaa⟩ ⟨Zaa,Zaa⟩ I Zaa
 have t3:=yh ⟨Zaa,Zaa⟩ ⟨Zaa,Zaa⟩ O Zaa
 have t4:=yh ⟨Zaa,Zaa⟩ ⟨Zaa,Zaa⟩ Q Zaa
 have B:=VZ (lo:=L) (hi:=H) D.1 D.2 G.1 G.2 Zaa Zaa Zaa Zaa
 exact B
section
variable{t:Z4}{A:bU 200 bq}
theorem Wr{c:Zg}{l:Zb}(h:wo t A c l){q:UV}(Y:fB q=true)(j:qK t q=true)(F:q.kind<=4):
 ∃g d x,gw t q=some ⟨g,d⟩/\(∀R,bS ⟨t,c,l⟩ q R=some x)/\g<=x/\x<=d:=by
 have⟨o,s,r,y,i,G⟩:=h;obtain⟨k1,-,-⟩:=rD Y;rcases(show q.kind=1\/q.kind=2\/q.kind=3\/q.kind=4 by omega)with h|h|h|h
 .refine⟨q.n,q.n,q.n,?_,λR=>?_,Int.le_refl _,Int.le_refl _⟩
  all_goals grind[gw,br,Uu,bS]
 .have⟨n,k,P,v,Q,C,I,h1,W⟩:=JA o h j;have⟨⟨g,d,e⟩,g1,g2,g3,g4⟩:=HC o s r.ok C (name:=q.name) I h1 W;simp only at g2 g3 g4;subst g2;have S:=(ζe.1 I).1;have B:=(ζe.1 C).1;have⟨a,J⟩:=i.1.at_ B;have⟨a0,a1⟩:=i.1.2 n a P J C;have⟨x,X,T⟩:=G n P a C J;have D:ug P k a.toNat∈BZ P k P.events.l.length:=Qn Zaa
  refine⟨g,d,ug P k a.toNat,?_,λR=>?_,g3.2 _ D,g4.2 _ D⟩
  .simp_all[gw,bu]
  unfold bS;rw[h,show((2:Int)==1)=false from rfl,bu,show((2:Int)==2)=true from rfl,br];unfold jC;simp only;rw[Q,jN,C,ζb,zZ (p:=λz=>iA z q) (f:=λw=>toList w.name==toList q.name) (λ_ _=>rfl) (o.2 P (mem_of_getElem? C)).2.1,C1 I h1 W,ζb,jN,X,ζb,jN,T,AW _ S]
  rfl
 .unfold qK at j;rw[if_neg (by simp[h]),if_pos (by simpa using h)]at j
  simp only[ζh]at j;have⟨n,Q,L⟩:=qC (t:=t) (p:=q.proc) Zac
  have⟨a,J⟩:=i.1.at_ L;have⟨a0,a1⟩:=i.1.2 n a _ J (ζd L);refine⟨0,len t.procs.l[n].events,a,?_,λR=>?_,Zaa,Zac⟩
  all_goals simp_all[gw,bu,br,bS,jN]
 unfold qK at j;rw[if_neg (by simp[h]),if_neg (by simp[h]),if_pos (by simpa using h)]at j
 simp only[ζh]at j;have⟨n,Q,L⟩:=qC (t:=t) (p:=q.proc) Zac
 have⟨m,H,B⟩:=qC (t:=t) (p:=q.peer) Zac
 have C:=ζd L;have Z:=ζd B;have⟨a,J⟩:=i.1.at_ L;have⟨b,E⟩:=i.1.at_ B;have⟨⟨u,e2⟩,K,U,O⟩:=DJ o s r y i L B;simp only at U O;rw[Gt r y i C Z J E]at O;have M:((t.procs.l[n].events.l.take a.toNat).countP λe=>gp m e&&q_ t c.l e)<=t.procs.l[n].events.l.countP (gp m):=by refine Nat.le_trans (List.countP_mono_left λe _ N=>?_) (List.Sublist.countP_le (List.take_sublist a.toNat _));grind
 refine⟨0,((t.procs.l[n].events.l.countP (gp m):Nat):Int),len u,?_,λR=>?_,Zac,Zac⟩
 all_goals simp_all[gw,bu,br,CM,bS,lZ]
abbrev Gc(n:Nat)(v:bA)(q:Pred):aY Int:=dU (λr(z:bA×Pred)=>bS z.1 z.2 r) n (v,q)
abbrev FQ(n:Nat)(t:Trace)(q:Pred):aY (bJ×Bool):=dU (λr(z:Trace×Pred)=>dx z.1 z.2 r) n (t,q)
def YR(t:Z4)(c:Zg)(l:Zb)(q:UV)(i:bJ)(ok:X')(x:Int):Prop:=(∀n,q.dp<=n->FQ n t q=some (i,ok)/\Gc n ⟨t,c,l⟩ q=some x)/\(ok=true->∃b a,i=⟨b,a⟩/\uo b a/\b<=x/\x<=a)
theorem uo.Gy{a b c d x y k f e:Int}(g:uo a b)(D:uo c d)(G:a<=x/\x<=b)(J:c<=y/\y<=d)(B:zx f e=true)(h:f<=Mx k x y/\Mx k x y<=e):Gy k x y=Mx k x y:=by simp only[zx,ζh]at B;have o1:=of_decide_eq_true B.1;have o2:=of_decide_eq_true B.2;have⟨a1,a2,u⟩:=g;have⟨w,z,C⟩:=D;unfold VE.Gy Mx at *;split;grind[gb];split;grind[gb];split;grind[gb];rw[if_neg (by assumption),if_neg (by assumption),if_neg (by assumption)]at h;grind[gb]
theorem XG{c:Zg}{l:Zb}(h:wo t A c l)(q:UV):nQ t q->q.kind<=8->∃i ok x,YR t c l q i ok x:=by induction q using Pred.ind with|h q Q=>intro m hk;have hd:=q.sn;have⟨S,N,hy⟩:=m.here;obtain⟨k1,-,-⟩:=rD S;have Q:=λq o=>Q q o (m.si o) (m.int Zaa o);by_cases P:q.kind<=4;have V:q.l.l.length=0:=(by have:=Pred.parts S (c:=0) (by rcases(show q.kind=1\/q.kind=2\/q.kind=3\/q.kind=4 by omega)with h|h|h|h<;>(rw[h];rfl));omega);have⟨k,f,x,g1,g2,g3,g5⟩:=Wr h S N P;refine⟨⟨k,f⟩,zx k f,x,λn w=>⟨?_,?_⟩,λab=>⟨k,f,rfl,uo.of Zaa ab,g3,g5⟩⟩;unfold FQ;rw[fJ Zaa];show dx t q _=_;unfold dx;rw[show(len q.l==0)=true from by simp[len,V],br,g1,ζb,Dl,ζb,Bool.not_not];unfold Gc;rw[fJ Zaa];exact g2 _;have u:∀j:Int,j<5->(q.kind==j)=false:=λj hj=>(by simp;omega);by_cases F:q.kind=5;have T:q.l.l.length=1:=(by have:=Pred.parts S (c:=1) (by rw[F];rfl);omega);have D:0<q.l.l.length:=Zaa;have⟨i,ok,x,g,g3⟩:=Q _ (getElem_mem D);have ad:=Pred.kz (getElem_mem D);have U:idx q.l 0=some q.l.l[0]:=bL (i:=0) D;have G:∀n,q.dp<=n->FQ n t q=cU.J1 ok true q ⟨0,0⟩ i i (λ_=>none):=λn w=>(by have e:=(g (n-1) Zaa).1;unfold FQ at e⊢;rw[fJ Zaa];show dx t q _=_;generalize dU (λr(z:Z4×UV)=>dx z.1 z.2 r) (n-1)=R at e⊢;unfold dx;rw[show(len q.l==0)=false from by simp[len,T],bu,U,ζb,e,ζb,show(len q.l==2)=false from by simp[len,T],bu];rfl);have B:∀n,q.dp<=n->Gc n ⟨t,c,l⟩ q=some (Gy q.kind x x):=λn w=>(by have e:=(g (n-1) Zaa).2;unfold Gc at e⊢;rw[fJ Zaa];show bS ⟨t,c,l⟩ q _=_;generalize dU (λr(z:bA×UV)=>bS z.1 z.2 r) (n-1)=R at e⊢;unfold bS;rw[u 1 Zaa,u 2 Zaa,u 3 Zaa,u 4 Zaa,bu,bu,bu,bu,F,show((5:Int)==5)=true from rfl,br,U,ζb,e];rfl);(cases ok with|false=>rw[Ec rfl]at G;exact⟨_,false,_,λn w=>⟨G n w,B n w⟩,λh=>by cases h⟩|true=>obtain⟨a,b,rfl,I,J,x2⟩:=g3 rfl;have⟨k,f,s,v,W⟩:=KM (p:=q) ⟨Zaa,Zaa⟩ I I ⟨J,x2⟩ ⟨J,x2⟩ ⟨0,0⟩ (λ_=>none);refine⟨_,_,_,λn w=>⟨(G n w).trans s,B n w⟩,λh=>⟨k,f,rfl,uo.of v h,?_⟩⟩;rw[uo.Gy I I ⟨J,x2⟩ ⟨J,x2⟩ h (W h)];exact W h);have X:q.l.l.length=2:=(by have:=Pred.parts S (c:=2) (by rcases(show q.kind=6\/q.kind=7\/q.kind=8 by omega)with h|h|h<;>(rw[h];rfl));omega);have D:0<q.l.l.length:=Zaa;have E:1<q.l.l.length:=Zaa;have⟨i,ok,x,g,g3⟩:=Q _ (getElem_mem D);have⟨j,C,y,H,q3⟩:=Q _ (getElem_mem E);have ad:=Pred.kz (getElem_mem D);have ae:=Pred.kz (getElem_mem E);have U:idx q.l 0=some q.l.l[0]:=bL (i:=0) D;have Y:idx q.l 1=some q.l.l[1]:=bL (i:=1) E;have G:∀n,q.dp<=n->FQ n t q=cU.J1 ok C q ⟨0,0⟩ i j (λ_=>none):=λn w=>(by have e:=(g (n-1) Zaa).1;have L:=(H (n-1) Zaa).1;unfold FQ at e L⊢;rw[fJ Zaa];show dx t q _=_;generalize dU (λr(z:Z4×UV)=>dx z.1 z.2 r) (n-1)=R at e L⊢;unfold dx;rw[show(len q.l==0)=false from by simp[len,X],bu,U,Y];simp only[ζb];simp only[e,L,ζb];rw[show(len q.l==2)=true from by simp[len,X]];rfl);have B:∀n,q.dp<=n->Gc n ⟨t,c,l⟩ q=some (Gy q.kind x y):=λn w=>(by have e:=(g (n-1) Zaa).2;have L:=(H (n-1) Zaa).2;unfold Gc at e L⊢;rw[fJ Zaa];show bS ⟨t,c,l⟩ q _=_;generalize dU (λr(z:bA×UV)=>bS z.1 z.2 r) (n-1)=R at e L⊢;unfold bS;rw[u 1 Zaa,u 2 Zaa,u 3 Zaa,u 4 Zaa,bu,bu,bu,bu,U,Y];simp only[ζb];simp only[e,L,ζb];unfold VE.Gy;rcases(show q.kind=6\/q.kind=7\/q.kind=8 by omega)with h|h|h<;>rw[h]<;>rfl);cases O:ok&&C with|false=>simp only[Ec O]at G;exact⟨_,false,_,λn w=>⟨G n w,B n w⟩,λh=>by cases h⟩|true=>simp only[ζh]at O;obtain⟨rfl,rfl⟩:=O;obtain⟨a,b,rfl,I,J,x2⟩:=g3 rfl;obtain⟨c',d,rfl,Z,K,M⟩:=q3 rfl;have⟨k,f,s,v,W⟩:=KM (p:=q) ⟨Zaa,Zaa⟩ I Z ⟨J,x2⟩ ⟨K,M⟩ ⟨0,0⟩ (λ_=>none);refine⟨_,_,_,λn w=>⟨(G n w).trans s,B n w⟩,λh=>⟨k,f,rfl,uo.of v h,?_⟩⟩;rw[uo.Gy I Z ⟨J,x2⟩ ⟨K,M⟩ h (W h)];exact W h
abbrev uZ(n:Nat)(v:bA)(q:Pred):aY Bool:=dU (λr(z:bA×Pred)=>cH z.1 z.2 r) n (v,q)
theorem nQ.bool{q:UV}(a:nQ t q)(g:13<=q.kind){k:UV}(b:k∈q.l.l):9<=k.kind:=by have:=a.here.2.2;unfold yX at this;rw[all_eq_true]at this;have:=this k b;unfold EM mb at this;rw[if_neg (show¬q.kind<=12 by omega)]at this;by_cases u:k.kind<=8;rw[if_pos u]at this;cases this;omega
theorem KG{q:UV}(k2:q.kind<=21)(h:q.hG (λk=> !od k)=true):q.kind<=17/\∀k∈q.l.l,k.hG (λk=> !od k)=true:=by rw[q.lX,ζh,all_eq_true]at h;refine⟨?_,h.2⟩;have:=h.1;unfold od at this;by_cases g:q.kind>=18;rw[decide_eq_true g,decide_eq_true k2]at this;cases this;omega
theorem IW{c:Zg}{l:Zb}(h:wo t A c l)(q:UV):nQ t q->9<=q.kind->q.dp<=20->q.hG (λk=> !od k)=true->∃x,∀n,q.dp<=n->uZ n ⟨t,c,l⟩ q=some x:=by induction q using Pred.ind with|h q O=>intro a d W G;have hd:=q.sn;have⟨I,j,m⟩:=a.here;obtain⟨k1,k2,-⟩:=rD I;have⟨X,G⟩:=KG Zaa G;have O:=λg q J=>O q J (a.si J) (a.bool g J) (by have:=Pred.kz J;omega) (G q J);have B:∀n,q.dp<=n->uZ n ⟨t,c,l⟩ q=cH ⟨t,c,l⟩ q (λz=>uZ (n-1) z.1 z.2):=λn C=>(by unfold uZ;rw[fJ Zaa]);by_cases S:q.kind<=12;have Z:=Pred.parts I (c:=2) (by rcases(show q.kind=9\/q.kind=10\/q.kind=11\/q.kind=12 by omega)with g|g|g|g<;>(rw[g];rfl));have u:0<q.l.l.length:=Zaa;have w:1<q.l.l.length:=Zaa;have D:∀k∈q.l.l,∃x,dV ⟨t,c,l⟩ k=some x:=λk d=>(by obtain⟨i,ok,x,g,-⟩:=XG h k (a.si d) (a.int S d);exact⟨x,(g 100000 (by have:=Pred.kz d;omega)).2⟩);have⟨x,Q⟩:=D _ (getElem_mem u);have⟨y,T⟩:=D _ (getElem_mem w);have key:∀R,∃b,cH ⟨t,c,l⟩ q R=some b/\∀e,cH ⟨t,c,l⟩ q e=some b:=λR=>(by unfold cH;rw[show idx q.l 0=some q.l.l[0]from bL (i:=0) u,show idx q.l 1=some q.l.l[1]from bL (i:=1) w];simp only[ζb,Q,T];rcases(show q.kind=9\/q.kind=10\/q.kind=11\/q.kind=12 by omega)with g|g|g|g<;>rw[g]<;>exact⟨_,rfl,λ_=>rfl⟩);obtain⟨b,-,f⟩:=key (λ_=>none);exact⟨b,λn C=>by rw[B n C,f]⟩;by_cases o:q.kind<=14;refine⟨q.kind==13,λn C=>?_⟩;rw[B n C];unfold cH dK.J1;rcases(show q.kind=13\/q.kind=14 by omega)with g|g<;>rw[g]<;>rfl;have u:0<q.l.l.length:=(by rcases(show q.kind=15\/q.kind=16\/q.kind=17 by omega)with g|g|g;have:=Pred.parts I (c:=1) (by rw[g];rfl);omega;have:=Pred.parts I (c:=2) (by rw[g];rfl);omega;have:=Pred.parts I (c:=2) (by rw[g];rfl);omega);have⟨x,Q⟩:=O Zaa _ (getElem_mem u);have p:=Pred.kz (getElem_mem u);have L:idx q.l 0=some q.l.l[0]:=bL (i:=0) u;by_cases g:q.kind=15;refine⟨!x,λn C=>?_⟩;rw[B n C];unfold cH dK.J1;rw[L,g];simp only[ζb,Q (n-1) Zaa];rfl;have w:1<q.l.l.length:=(by have:=Pred.parts I (c:=2) (by rcases(show q.kind=16\/q.kind=17 by omega)with g|g<;>(rw[g];rfl));omega);have⟨y,T⟩:=O Zaa _ (getElem_mem w);have Y:=Pred.kz (getElem_mem w);have U:idx q.l 1=some q.l.l[1]:=bL (i:=1) w;refine⟨if q.kind=16 then x&&y else x||y,λn C=>?_⟩;rw[B n C];unfold cH dK.J1;rw[L,U];simp only[ζb,Q (n-1) Zaa,T (n-1) Zaa];rcases(show q.kind=16\/q.kind=17 by omega)with g|g<;>rw[g]<;>cases x<;>rfl
theorem Vc(a:Small t)(W:(bO t).length<1073741824){p:UV}(T:p.Sm)(c:Zg)(k:Int):
 ∃w e,ga t c p k=some (w,e)/\(e=0->∃A l,w=⟨t,c,l⟩/\wo t A c l/\gP t c=some (l,0)/\dY t p=some 0/\j_ p=true/\nQ t p/\mb p.kind=k/\p.hG (λq=> !od q)=true):=by
 have⟨e,g,X⟩:=PC a W T;unfold ga;rw[g,ζb];have Y:∃w,ga.J1 c k 1 t p (⟨⟨Sl.nil⟩,Sl.nil,Sl.nil⟩:bA)=some (w,1):=⟨_,rfl⟩
 by_cases J:e=0
 .subst J;have⟨B,b,S,f⟩:=X rfl;obtain⟨A,-,-,d⟩:=b.msgs;rw[show((0:Int)==1)=false from rfl,bu,ζb]
  by_cases L:c.l.length=t.procs.l.length
  .rw[show(len c==len t.procs)=true from by simp[len,L],show(!true)=false from rfl,bu]
   unfold ga.J1;rw[show((0:Int)==0)=true from rfl,br];have⟨x,Z,C⟩:=yM a B b d c
   by_cases u:x.2=0
   .have⟨U,D⟩:=C.zero.1 u;have⟨⟨l,z⟩,i,G,O,I⟩:=Ut a B b d (c:=c) ⟨U,D⟩;simp only at G O I;subst G;rw[i,ζb];simp only;rw[show((0:Int)==0)=true from rfl,br];unfold mS;rw[zY S f,ζb];simp only;rw[show((0:Int)==0)=true from rfl,br]
    cases j:mb p.kind==k with
    |false=>exact⟨_,14,rfl,λh=>by cases h⟩|true=>
     rw[show(!true)=false from rfl,ζb,bu,ζb];rw[show((0:Int)==0)=true from rfl,br,qA T,S,ζb,ζb]
     cases n:p.hG λq=> !od q with
     |false=>exact⟨_,15,rfl,λh=>by cases h⟩|true=>exact⟨_,0,rfl,λ_=>⟨A,l,rfl,⟨a,B,b,d,⟨U,D⟩,I⟩,rfl,trivial,rfl,f,by simpa using j,rfl⟩⟩
   unfold gP;rw[Z,ζb,show(x.2==0)=false from by simpa using u,bu,ζb]
   simp only;rw[show(x.2==0)=false from by simpa using u,bu]
   exact⟨_,_,rfl,λh=>absurd h u⟩
  rw[show(len c==len t.procs)=false from by rw[beq_eq_false_iff_ne];simp only[len];omega,show(!false)=true from rfl,br]
  exact⟨_,1,rfl,λh=>by cases h⟩
 have Q:(e==0)=false:=by simpa using J
 have m:ga.J1 c k e t p (⟨⟨Sl.nil⟩,Sl.nil,Sl.nil⟩:bA)=some (⟨⟨Sl.nil⟩,Sl.nil,Sl.nil⟩,e):=by unfold ga.J1;rw[Q,bu]
 cases e==1<;>cases len c==len t.procs<;>simp only[br,bu,ζb,Bool.not_true,Bool.not_false,m]<;>first|exact⟨_,1,rfl,λh=>by cases h⟩|exact⟨_,_,rfl,λh=>absurd h J⟩
end
section
variable{t:Z4}{A:bU 200 bq}{L:aX SW}{tb:Sl X'}
end
section
variable{t:Z4}
end
section
variable{t:Z4}{A:bU 200 bq}{L:aX SW}{tb:Sl X'}
end
section
variable{t:Z4}
variable{A:bU 200 bq}{L:aX SW}{tb:Sl X'}
end
section
variable{t:Z4}{A:bU 200 bq}{L:aX SW}{tb:Sl X'}
end
section
variable{t:Z4}{A:bU 200 bq}
theorem WZ{p:UV}(B:j_ p=true)(a:nQ t p)(b:mb p.kind=2):mS p 2=some 0:=by unfold mS;rw[zY B a,b];rfl
end
abbrev wM(t:Trace)(n:Nat)(q:Pred):aY Bool:=dU (λr(z:Trace×Pred)=>cw z.1 z.2 r) n (t,q)
theorem Mg{t:Z4}(e:Small t)(g:b9 t=some true)(B:Ok t)(p:UV):nQ t p->p.dp<=20->∃b,∀n,p.dp<=n->wM t n p=some b:=by induction p using Pred.ind with|h p C=>intro a hd;have D:=p.sn;by_cases c:p.kind<=8;obtain⟨i,ok,g1,-⟩:=MD e g B p a c 100000 Zaa;refine⟨ok,λn G=>?_⟩;unfold wM;rw[fJ Zaa];show cw t p _=_;unfold cw;rw[tD,ζb,show(mb p.kind==1)=true from by simp[mb,c],br,show cU t p=_ from g1];rfl;refine⟨!(p.l.l.any λq=> !((wM t q.dp q).getD false)),λn G=>?_⟩;have d:∀q∈p.l.l,wM t (n-1) q=some ((wM t q.dp q).getD false):=λq u=>(by have⟨b,w⟩:=C q u (a.si u) (by have:=Pred.kz u;omega);rw[w _ (by have:=Pred.kz u;omega),w _ (le_refl _)];rfl);unfold wM at d⊢;rw[fJ Zaa];show cw t p (dU (λr(z:Z4×UV)=>cw z.1 z.2 r) (n-1))=_;generalize dU (λr(z:Z4×UV)=>cw z.1 z.2 r) (n-1)=R at d⊢;unfold cw;rw[tD,ζb,show(mb p.kind==1)=false from by simp[mb,c],bu,v_ _ a.sm.len,uS (f:=λq=> !((dU (λr(z:Z4×UV)=>cw z.1 z.2 r) q.dp (t,q)).getD false)) (λq u=>by unfold kP;rw[d q u];rfl)];rfl
section
variable{t:Z4}{A:bU 200 bq}{L:aX SW}{tb:Sl X'}
end
section
variable{t:Z4}{A:bU 200 bq}
end
section
variable{t:Z4}{A:bU 200 bq}{L:aX SW}
theorem Al(a:VT t)(B:dA t A L)(D:L.length<=5000){x:bp}(G:Ck L x){kind:Int}{l:Sl X'}(J:l.l.length=L.length):
 ∃o,jW x kind l=some o/\Bk L (gS kind l) o/\o.whole=some o:=by
 have⟨o,o1,o2,o3⟩:=UP a B D G (p:=λz=>gI z.1 z.2 kind l) (g:=gS kind l) λi nx hi u=>Rx Zaa u
 refine⟨o,?_,o2,o3⟩;unfold jW;rw[o1,ζb,o3];rfl
theorem Ff{x:Sl X'}(D:x.l.length<=1073741824):Wp (en x) λo=>o.whole=some o/\o.l.length=x.l.length/\∀i,i<x.l.length->bQ o i= !bQ x i:=by have w:len x=((x.l.length:Nat):Int):=rfl;unfold en;rw[w,X2 _ Zaa,ζb];unfold en.W1;refine gY x.l.length (λi(q:Sl X'×Int)=>q.2=(i:Int)/\q.1.whole=some q.1/\q.1.l.length=x.l.length/\∀j,j<i->bQ q.1 j= !bQ x j) ⟨rfl,rfl,by simp[Sl.l],λj h=>absurd h Zaa⟩ ?_ ?_;rintro i ⟨n,_⟩ hi ⟨rfl,u,e1,e3⟩;simp only at u e1 e3;have⟨z,B,C⟩:=put_eq (s:=n) (p:=i) (x:= !bQ x i) Zaa;unfold en.bz;dsimp only;rw[kX hi,br,pZ hi,ζb,oD (by omega:i<n.l.length),ζb,B,ζb,bf];refine⟨dZ i Zaa,Bw u B,by show z.l.length=_;rw[C];simp[e1],λj G=>?_⟩;show bQ z j=_;unfold bQ;rw[C,getElem?_set];by_cases e:j=i;subst e;rw[if_pos rfl,if_pos Zaa];rfl;rw[if_neg (Ne.symm e)];exact e3 j Zaa;rintro⟨n,_⟩ ⟨rfl,u,e1,e3⟩;simp only at u e1 e3;unfold en.bz;dsimp only;rw[mc,bu,bf];exact(bf _).2 ⟨u,e1,e3⟩
theorem B7{a:Sl X'}{i:Nat}(h:i<a.l.length):Sl.get a i=some (bQ a i):=by unfold Sl.get bQ;rw[ζd h];rfl
theorem Vs{a o:Sl X'}{i:Nat}{b:X'}(h:i<a.l.length)(B:o.l=a.l.set i b)(k:Nat):bQ o k=if k=i then b else bQ a k:=by unfold bQ;rw[B,getElem?_set];by_cases e:k=i;subst e;rw[if_pos rfl,if_pos rfl,if_pos h];rfl;rw[if_neg (Ne.symm e),if_neg e]
def gB(kind:Int)(a b:X'):X':=if kind=16 then a&&b else a||b
theorem Vw{a b:Sl X'}{p:UV}{r:bp×UV->aY (Sl X')}(T:a.l.length<=5000)(G:b.l.length=a.l.length)(J:a.whole=some a):
 Wp (bV.W2 a b (len b) 0 p r) λo=>o.whole=some o/\o.l.length=a.l.length/\∀i,i<a.l.length->bQ o i=gB p.kind (bQ a i) (bQ b i):=by
 rw[show len b=((a.l.length:Nat):Int)from by simp only[len,G]]
 unfold bV.W2;refine gY a.l.length (λi(q:Sl X'×Int)=>q.2=(i:Int)/\q.1.whole=some q.1/\q.1.l.length=a.l.length/\∀j,bQ q.1 j=if j<i then gB p.kind (bQ a j) (bQ b j)else bQ a j) ⟨rfl,J,rfl,λj=>by rw[if_neg Zaa]⟩ ?_ ?_
 .rintro i ⟨n,_⟩ hi ⟨rfl,w,e1,e3⟩;simp only at w e1 e3;have u:i<n.l.length:=by omega
  have B:bQ n i=bQ a i:=by rw[e3,if_neg Zaa]
  have⟨z,C,D⟩:=put_eq (s:=n) (p:=i) (x:=gB p.kind (bQ a i) (bQ b i)) Zaa
  unfold bV.cI;dsimp only;rw[kX hi,br,oD (by omega:i<b.l.length),ζb,B7 Zaa,ζb]
  rw[oD u];simp only[ζb];rw[B7 u,B];simp only[ζb];have I:((bl (bQ a i) (some (bQ b i)) (some false):aY X').bind λx=>some x)=some (bQ a i&&bQ b i)/\((bl (bQ a i) (some true) (some (bQ b i)):aY X').bind λx=>some x)=some (bQ a i||bQ b i):=by cases bQ a i<;>exact⟨rfl,rfl⟩
  have fin:wrap .i64 ((i:Int)+1)=((i+1:Nat):Int)/\z.whole=some z/\z.l.length=a.l.length/\∀j,bQ z j=if j<i+1 then gB p.kind (bQ a j) (bQ b j)else bQ a j:=by refine⟨dZ i Zaa,Bw w C,by rw[D];simp[e1],λj=>?_⟩;rw[Vs u D];by_cases e:j=i;subst e;rw[if_pos rfl,if_pos Zaa];rw[if_neg e,e3];by_cases h:j<i;rw[if_pos h,if_pos Zaa];rw[if_neg h,if_neg Zaa]
  by_cases c:p.kind=16
  .rw[show(p.kind==16)=true from by simp[c],br]
   have:∀{γ:Type}(f:X'->aY γ),((bl (bQ a i) (some (bQ b i)) (some false):aY X').bind f)=f (bQ a i&&bQ b i):=λf=>by cases bQ a i<;>rfl
   rw[this];rw[show(bQ a i&&bQ b i)=gB p.kind (bQ a i) (bQ b i)from by unfold gB;rw[if_pos c],C,ζb,bf]
   exact fin
  rw[show(p.kind==16)=false from beq_eq_false_iff_ne.2 c,bu];have:∀{γ:Type}(f:X'->aY γ),((bl (bQ a i) (some true) (some (bQ b i)):aY X').bind f)=f (bQ a i||bQ b i):=λf=>by cases bQ a i<;>rfl
  rw[this];rw[show(bQ a i||bQ b i)=gB p.kind (bQ a i) (bQ b i)from by unfold gB;rw[if_neg c],C,ζb,bf]
  exact fin
 rintro⟨n,_⟩ ⟨rfl,w,e1,e3⟩;simp only at w e1 e3;unfold bV.cI;dsimp only;rw[mc,bu,bf];exact(bf _).2 ⟨w,e1,λi hi=>by rw[e3,if_pos hi]⟩
theorem Rw{s:Sl UV}{k:UV}{i:Nat}(h:s.l[i]?=some k):idx s (i:Int)=some k:=by rw[jN];exact h
theorem G_(e:Small t)(g:b9 t=some true)(J:Ok t){p q:UV}(c:nQ t p)(hd:p.dp<=20)(i:¬p.kind<=8)(h:∀n,p.dp<=n->wM t n p=some true)(B:q∈p.l.l):∀n,q.dp<=n->wM t n q=some true:=by
 have C:=p.sn;have d:∀q∈p.l.l,∃b,∀n,q.dp<=n->wM t n q=some b:=λq B=>Mg e g J q (c.si B) (by have:=Pred.kz B;omega);have u:∀q∈p.l.l,wM t (p.dp-1) q=some ((wM t q.dp q).getD false):=λq B=>by have⟨b,w⟩:=d q B;rw[w _ (by have:=Pred.kz B;omega),w _ (le_refl _)];rfl
 have a:=h p.dp (le_refl _);unfold wM at a u;rw[fJ C]at a;change cw t p (dU (λr(z:Z4×UV)=>cw z.1 z.2 r) (p.dp-1))=_ at a;generalize dU (λr(z:Z4×UV)=>cw z.1 z.2 r) (p.dp-1)=R at u a;unfold cw at a;rw[tD,ζb,show(mb p.kind==1)=false from by simp[mb,i],bu,v_ _ c.sm.len,uS (f:=λq=> !((dU (λr(z:Z4×UV)=>cw z.1 z.2 r) q.dp (t,q)).getD false)) (λq B=>by unfold kP;rw[u q B];rfl)]at a;have D:(p.l.l.any λq=> !((dU (λr(z:Z4×UV)=>cw z.1 z.2 r) q.dp (t,q)).getD false))=false:=by cases L:(p.l.l.any λq=> !((dU (λr(z:Z4×UV)=>cw z.1 z.2 r) q.dp (t,q)).getD false))with|false=>rfl|true=>rw[L]at a;cases a
 rw[List.any_eq_false]at D;have G:=D q B;have⟨b,w⟩:=d q B;have I:=w q.dp (le_refl _);unfold wM at I;rw[I]at G;cases b with|false=>exact absurd rfl G|true=>exact w
theorem Pj(p:UV):nQ t p->p.kind<=8->p.hG (λk=> !od k)=true:=by induction p using Pred.ind with|h p w=>intro a b;rw[p.lX,ζh,all_eq_true];refine⟨?_,λq u=>w q u (a.si u) (a.int Zaa u)⟩;unfold od;rw[decide_eq_false (show¬p.kind>=18 by omega)];rfl
theorem M0{p:UV}(a:nQ t p)(b:p.kind<=14):p.hG (λk=> !od k)=true:=by rw[p.lX,ζh,all_eq_true];refine⟨?_,λq u=>?_⟩;unfold od;rw[decide_eq_false (show¬p.kind>=18 by omega)];rfl;by_cases h:p.kind<=12;exact Pj q (a.si u) (a.int h u);exfalso;have w:(p.l.l.length:Int)=0:=Pred.parts a.here.1 (by rcases(show p.kind=13\/p.kind=14 by omega)with g|g<;>rw[g]<;>rfl);have:=List.length_pos_of_mem u;omega
theorem iQ.le{a b:SW}(h:iQ a b):a.sum<=b.sum:=by refine byContradiction λu=>iQ.GK a (h.tr (iQ.sum Zaa))
theorem As(B:dA t A L):L[0]?=some (replicate t.procs.l.length 0):=by
 have D:replicate t.procs.l.length (0:Int)∈L:=(B.mem _).2 Ey;have⟨i,hi,e⟩:=List.mem_iff_getElem.1 D;by_cases G:i=0;subst G;rw[ζd hi,e];exfalso;have w:0<L.length:=Zaa;have u:=List.pairwise_iff_getElem.1 B.srt 0 i w hi Zaa;rw[e]at u;have a:=(B.mem _).1 (getElem_mem w);have I:=a.1.sum.1;have C:=u.le;rw[show(replicate t.procs.l.length (0:Int)).sum=0 from Zab]at C;have b:=(NS (t:=t) (A:=A) (z:=.row (replicate t.procs.l.length 0)) rfl L[0]).2 ⟨a,by simp;omega⟩;have:L[0]=replicate t.procs.l.length 0:=by simpa[ins,Sl.l]using b
 rw[this]at u;exact iQ.GK _ u
end
theorem Oy(p:UV)(G:p.Sm):∀(n d:Nat)(v:Int),1<=n->42<=n+d->d<=41->0<=v->v<=300->
 ∃r:Int,dU (λr(z:UV×Int×Int)=>gW z.1 z.2.1 z.2.2 r) n (p,(d:Int),v)=some r/\0<=r/\r<=1000:=by
 induction p using Pred.ind with
 |h p L=>
  intro n d v W O hd Q e;have X:=G.len;rw[fJ Zaa]
  show∃r:Int,gW p (d:Int) v (dU (λr(z:UV×Int×Int)=>gW z.1 z.2.1 z.2.2 r) (n-1))=some r/\0<=r/\r<=1000
  have I:∀v:Int,0<=v->v<=1000->(v<=300->d<=40)->∃r:Int,eS.J1 (d:Int) p v (dU (λr(z:UV×Int×Int)=>gW z.1 z.2.1 z.2.2 r) (n-1))=some r/\0<=r/\r<=1000:=by intro v S b T;show Wp (eS.J1 (d:Int) p v _) λr=>0<=r/\r<=1000;unfold eS.J1 eS.W2;refine lW (λs:Int×Int=>∃i:Nat,s.1=i/\i<=p.l.l.length/\0<=s.2/\s.2<=1000/\(s.2<=300->d<=40)) (λs=>p.l.l.length-s.1.toNat) ⟨0,rfl,Nat.zero_le _,S,b,T⟩ ?_;rintro⟨_,u⟩ ⟨i,rfl,hi,C,D,J⟩;simp only at C D J⊢;unfold eS.cI;by_cases B:i<p.l.l.length;rw[kX B,br,ζb];by_cases a:u<=300;have w:=J a;rw[decide_eq_true a,br,bL B,ζb,dZ d Zaa];have⟨r,c,U,r1⟩:=L _ (getElem_mem B) (G.si (getElem_mem B)) (n-1) (d+1) u Zaa Zaa Zaa C a;rw[c,ζb,bf,dZ i Zaa];exact⟨⟨i+1,rfl,Zaa,U,r1,λ_=>w⟩,by simp only;omega⟩;rw[decide_eq_false a,bu,bf];exact(bf _).2 ⟨C,D⟩;rw[decide_eq_false (by simp only[len];omega),bu,ζb,bu,bf];exact(bf _).2 ⟨C,D⟩
  unfold gW
  by_cases w:d<=40
  .rw[decide_eq_false Zaa,bu,gb _ Zaa Zaa]
   exact I _ Zaa Zaa (λ_=>w)
  rw[decide_eq_true Zaa,br]
  exact I _ Zaa Zaa (λh=>Zaa)
theorem Ns{p:UV}(B:p.Sm):∃b,vI p=some b:=by obtain⟨r,a,-⟩:=Oy p B 100000 0 0 Zaa Zaa Zaa Zaa Zaa;unfold vI eS;rw[show((0:Nat):Int)=0 from rfl]at a;rw[a];exact⟨_,rfl⟩
section
variable{t:Z4}{A:bU 200 bq}{L:aX SW}
theorem Xy(c:Small t)(d:b9 t=some true)(e:VT t){p:UV}(D:j_ p=true)(a:nQ t p)(B:dY t p=some 0):∀n,p.dp<=n->wM t n p=some true:=by
 have u:=a.sm;have hd:=D;simp only[j_,ζh,decide_eq_true_eq]at hd;have⟨b,w⟩:=Mg c d e.ok p a Zaa;unfold dY mO at B;rw[d,ζb,br,rm u,ζb,D,show(!true)=false from rfl,ζb,bu,uz c u Zaa,ζb,a.r,br,vO u Zaa,ζb,a.y,br,
  show dU (λr(z:Z4×UV)=>cw z.1 z.2 r) 100000 (t,p)=some b from w 100000 Zaa,ζb]at B
 cases b with|true=>exact w|false=>exact absurd (Option.some.inj B) (by decide)
end
section
variable{L:aX SW}{f g:Nat->X'}
end
section
variable{t:Z4}{A:bU 200 bq}{L:aX SW}{f g:Nat->X'}
theorem LZ{c:SW}{p:Nat}{a:Int}(h:c[p]?=some a)(q:Nat):(bump c p 1)[q]?=if p=q then some (a+1)else c[q]?:=by rw[Cw h,getElem?_set];have:=(ζe.1 h).1;by_cases e:p=q;simp[e,this];omega;simp[e]
theorem FD:∀{a b:SW},lg a b->a.sum<=b.sum/\(a.sum=b.sum->a=b)
 |[],[],_=>⟨Int.le_refl _,λ_=>rfl⟩|[],_::_,h=>nomatch h.1
 |_::_,[],h=>nomatch h.1
 |x::a,y::b,h=>by have B:=h.2 0 x y rfl rfl;have⟨f,w⟩:=FD (a:=a) (b:=b) ⟨by simpa using h.1,λp u v c d=>h.2 (p+1) u v c d⟩;simp only[sum_cons];refine⟨Zaa,λe=>?_⟩;have:x=y:=Zaa;rw[this,w Zaa]
theorem LK(g:VT t)(h:eB t (bO t) A)(B:dA t A L){c:SW}(a:Cons t A c):∀(n:Nat){d:SW},Cons t A d->d.sum<=(n:Int)->¬lg d c->∃p,p<c.length/\bump c p 1∈L
 |n,d,D,Y,T=>by have U:d.length=c.length:=D.1.1.trans a.1.1.symm;have C:0<d.sum:=(by refine byContradiction λZ=>T ?_;have i:=D.1.sum.1;have f:=(NS (t:=t) (A:=A) (z:=.row (replicate t.procs.l.length 0)) rfl d).2 ⟨D,by simp;omega⟩;have f:d=replicate t.procs.l.length 0:=(by simpa[ins,Sl.l]using f);refine⟨U,λp x y u w=>?_⟩;rw[f,List.getElem?_replicate]at u;split at u;cases u;exact a.1.pos p y w;cases u);have⟨q,b,G,O,Q⟩:=D.down g h C;by_cases J:lg (d.set q (b-1)) c;have S:=(ζe.1 G).1;have I:=ζd (show q<c.length by omega);have e1:=J.2 q (b-1) _ (by rw[List.getElem?_set_self S]) I;have e2:∀p x y,p≠q->d[p]?=some x->c[p]?=some y->x<=y:=λp x y W u w=>J.2 p x y (by rw[List.getElem?_set_ne (Ne.symm W)];exact u) w;have e3:b=c[q]+1:=(by refine byContradiction λX=>T ⟨U,λp x y u w=>?_⟩;by_cases e:p=q;subst e;rw[G]at u;cases u;rw[I]at w;cases w;omega;exact e2 p x y e u w);refine⟨q,Zaa,(B.mem _).2 (join_cons a D ⟨xS,λp x y u w=>?_⟩)⟩;rw[LZ I];by_cases e:q=p;subst e;rw[if_pos rfl];rw[G]at w;cases w;rw[I]at u;cases u;unfold Av;simp;omega;rw[if_neg e,u];have:=e2 p y x (Ne.symm e) w u;unfold Av;simp;omega;cases n with|zero=>omega|succ n=>exact LK g h B a n Q (by rw[sQ G];omega) J
theorem Gv(b:VT t)(e:eB t (bO t) A)(B:dA t A L){i:Nat}{c:SW}(hi:L[i]?=some c)(D:∀p,p<c.length->bump c p 1∉L):i=L.length-1:=by
 have f:=(B.mem _).1 (mem_of_getElem? hi);have w:∀d,d∈L->lg d c:=λd hd=>byContradiction λh=>by have C:=(B.mem _).1 hd;have⟨p,G,I⟩:=LK b e B f d.sum.toNat C Zaa h;exact D p G I
 obtain⟨z,rfl⟩:=ζe.1 hi;refine byContradiction λJ=>?_;have O:i<L.length-1:=Zaa;have u:=List.pairwise_iff_getElem.1 B.srt i (L.length-1) z Zaa O;have a:=w _ (getElem_mem (show L.length-1<L.length by omega));have Q:=u.le;have:L[L.length-1]=L[i]:=(FD a).2 (by have:=(FD a).1;omega);rw[this]at u;exact iQ.GK _ u
end
theorem Jd{s:Zg}{p:Int->aY X'}{f:Int->X'}(hp:∀x∈s.l,p x=some (f x))(B:s.l.length<1073741824):e_ s p=some (place f s.l):=qG hp Zaa (λi=>rfl)
theorem Ox{n:Nat}(B:n<=1073741824):Wp (jB (n:Int)) λs=>s.l=(List.range n).map λi:Nat=>(i:Int):=by unfold jB;rw[show qD (n:Int) (0:Int)=some (.row (replicate n 0))from by unfold qD;rw[if_pos ⟨Zaa,Zaa⟩];rfl,ζb,show(len (Sl.row (replicate n (0:Int))):Int)=(n:Int)from by simp[len,Sl.l]];unfold jB.W1;refine gY n (λi q=>q.2=(i:Int)/\q.1.l.length=n/\∀j:Nat,j<i->q.1.l[j]?=some (j:Int)) ⟨rfl,by simp[Sl.l],λj h=>absurd h Zaa⟩ ?_ ?_;rintro i ⟨s,_⟩ hi ⟨rfl,a,u⟩;simp only at a u;unfold jB.bz;dsimp only;rw[decide_eq_true (show((i:Nat):Int)<(n:Int)by omega),br,oD Zaa,ζb];have⟨r,g1,g2⟩:=put_eq (s:=s) (p:=i) (x:=(i:Int)) Zaa;rw[g1,ζb,bf];refine⟨dZ i Zaa,by rw[g2];simp[a],λj w=>?_⟩;show r.l[j]?=_;rw[g2,getElem?_set];by_cases e:i=j;subst e;rw[if_pos rfl,if_pos Zaa];rw[if_neg e];exact u j Zaa;rintro⟨s,_⟩ ⟨rfl,a,u⟩;simp only at a u;unfold jB.bz;dsimp only;rw[decide_eq_false Zaa,bu,bf];refine(bf _).2 (List.ext_getElem? λj=>?_);by_cases w:j<n;rw[u j w,getElem?_map,List.getElem?_range w];rfl;rw[getElem?_eq_none Zaa,getElem?_eq_none (by simp;omega)]
section
variable{t:Z4}{A:bU 200 bq}{L:aX SW}{f g:Nat->X'}
def rF(t:Z4):SW:=t.procs.l.map λP=>(P.events.l.length:Int)
theorem zero_eq(a:VT t){x:cV}(B:E6 t A x):oA x=some (.row (replicate t.procs.l.length 0)):=by
 have u:=a.few;unfold oA qD;have:(len x.needs:Int)=(t.procs.l.length:Int):=by show((x.needs.l.length:Nat):Int)=_;rw[B.len]
 rw[this,if_pos ⟨Zaa,Zaa⟩];rfl
theorem Wd(c:Small t)(b:VT t){x:cV}(B:E6 t A x):Wp (gD x) λs=>s.l=rF t:=by
 have C:=b.few;unfold gD;rw[zero_eq b B,ζb,show Sl.whole (.row (replicate t.procs.l.length (0:Int)))=some (.row (replicate t.procs.l.length 0))from rfl,ζb];unfold gD.W1;refine gY x.needs.l.length (λi q=>q.2=(i:Int)/\q.1.l.length=t.procs.l.length/\∀j:Nat,j<i->q.1.l[j]?=(rF t)[j]?) ⟨rfl,by simp[Sl.l],λj h=>absurd h Zaa⟩ ?_ ?_;rintro i ⟨s,_⟩ hi ⟨rfl,a,u⟩;simp only at a u;have w:i<t.procs.l.length:=by rw[<-B.len];exact hi
 unfold gD.bz;dsimp only;rw[kX hi,br,bL hi,ζb,oD Zaa,ζb];have⟨r,g1,g2⟩:=put_eq (s:=s) (p:=i) (x:=(len x.needs.l[i]:Int)) Zaa;rw[g1,ζb,bf];refine⟨dZ i Zaa,by rw[g2];simp[a],λj z=>?_⟩;show r.l[j]?=_;rw[g2,getElem?_set];by_cases e:i=j;subst e;rw[if_pos rfl,if_pos Zaa];have:=B.row i _ _ (ζd w) (ζd hi);unfold rF;rw[getElem?_map,ζd w];simp only[len,this,length_map,Option.map_some];rw[if_neg e];exact u j Zaa;rintro⟨s,_⟩ ⟨rfl,a,u⟩;simp only at a u;unfold gD.bz;dsimp only;rw[mc,bu,bf];refine(bf _).2 (List.ext_getElem? λj=>?_);by_cases z:j<t.procs.l.length;exact u j (by rw[B.len];exact z);rw[getElem?_eq_none Zaa,getElem?_eq_none (by unfold rF;simp;omega)]
structure Ng(t:Trace)(L:List (List Int))(R:List (List Int)):Prop where
 pos:0<R.length
 mem:∀c∈R,c∈L
 zero:R[0]?=some (replicate t.procs.l.length 0)
 step:∀(k:Nat)c d,R[k]?=some c->R[k+1]?=some d->∃p,p<c.length/\d=bump c p 1
 last:R[R.length-1]?=some (rF t)
theorem UH(a:VT t)(B:dA t A L)(b:eB t (bO t) A){i:Nat}(h:L[i]?=some (rF t)):i=L.length-1:=by
 refine Gv a b B h λp w z=>?_;have c:=(B.mem _).1 z;have u:p<t.procs.l.length:=by unfold rF at w;simpa using w
 have C:(rF t)[p]?=some (t.procs.l[p].events.l.length:Int):=by unfold rF;rw[getElem?_map,ζd u];rfl
 have d:(bump (rF t) p 1)[p]?=some ((t.procs.l[p].events.l.length:Int)+1):=by rw[LZ C,if_pos rfl]
 have:=c.1.2 p _ _ d (ζd u);omega
end
section
variable{t:Z4}{A:bU 200 bq}{L:aX SW}
def walk(L:aX SW)(b l:Nat->X')(a:X'):Nat->Nat->X'->So
 |0,_,_=>[]|n+1,i,d=>match(gU L i).find? λk=>d||b k with
  |none=>[]|some j=>j::walk L b l a n j (d||(a&&l j))
def runT(L:aX SW)(b l:Nat->X')(a:X'):aX SW:=(0::walk L b l a L.length 0 (a&&l 0)).map λk=>(L[k]?).getD []
def An(b l:Nat->X')(a:X')(i:Nat)(d:X'):Prop:=d=true\/(b i=true/\(a=true->l i=false))
def EO(L:aX SW)(a l:Nat->X')(b:X'):Prop:=∀i,i<L.length->a i=true->(b=true->l i=false)->gU L i≠[]->∃k∈gU L i,a k=true
theorem DY(D:dA t A L){a l:Nat->X'}{b:X'}(T:EO L a l b){i:Nat}(hi:i<L.length){d:X'}(h:An a l b i d)(G:gU L i≠[]):
 ∃m j,(gU L i).findIdx? (λk=>d||a k)=some m/\(gU L i)[m]?=some j/\(gU L i).find? (λk=>d||a k)=some j/\i<j/\j<L.length/\An a l b j (d||(b&&l j)):=by
 have e:∃k∈gU L i,(d||a k)=true:=by rcases h with rfl|⟨g,O⟩;have⟨k,w,c⟩:=List.exists_cons_of_ne_nil G;exact⟨k,by rw[c];simp,rfl⟩;have⟨k,c,z⟩:=T i hi g O G;exact⟨k,c,by rw[z];simp⟩
 obtain⟨m,I⟩:∃m,(gU L i).findIdx? (λk=>d||a k)=some m:=by cases J:(gU L i).findIdx? (λk=>d||a k)with|some m=>exact⟨m,rfl⟩|none=>rw[List.findIdx?_eq_none_iff]at J;have⟨k,c,z⟩:=e;rw[J k c]at z;cases z
 have⟨B,u,C⟩:=List.findIdx?_eq_some_iff_getElem.1 I;refine⟨m,(gU L i)[m],I,ζd B,?_,?_⟩
 .rw[List.find?_eq_some_iff_getElem];exact⟨u,m,B,rfl,λj Q=>by simpa using C j Q⟩
 have f:=Bo D hi (getElem_mem B);refine⟨f.1,f.2,?_⟩;unfold An
 cases d with
 |true=>exact .inl rfl|false=>
  have u:a (gU L i)[m]=true:=by simpa using u
  cases b with
  |false=>exact .inr ⟨u,λh=>by cases h⟩|true=>
   cases S:l (gU L i)[m]with
   |true=>exact .inl Zab|false=>exact .inr ⟨u,λ_=>rfl⟩
theorem IP{b l:Nat->X'}{a:X'}{n i:Nat}{d:X'}(h:gU L i=[]):walk L b l a n i d=[]:=by cases n with|zero=>rfl|succ n=>simp[walk,h]
theorem N8{α:Type}{f:α->X'}{l:aX α}{m:Nat}(h:l.findIdx? f=some m):place f l=(m:Int):=by unfold place;rw[h]
theorem findIdx_map{f:Int->X'}{l:So}:(l.map λk:Nat=>(k:Int)).findIdx? f=l.findIdx? (λk:Nat=>f (k:Int)):=by rw[List.findIdx?_map];rfl
theorem Vj(E:VT t)(B:dA t A L)(h5:L.length<=5000)(F:0<L.length)(T:∀c∈L,c.length<=8/\0<c.length){x:bp}(U:Ck L x){b l:Sl X'}{a:X'}(hc:b.l.length=L.length)(hl:l.l.length=L.length)(W:EO L (bQ b) (bQ l) a)(Y:An (bQ b) (bQ l) a 0 (a&&bQ l 0)):
 Wp (eA x b l a) λo=>ins o=runT L (bQ b) (bQ l) a/\o.l.length<=5000:=by
 have ai:x.l.l.length=L.length:=by rw[<-lp,U.l]
 have D:∀i(h:i<x.l.l.length),L[i]?=some x.l.l[i].l:=λi h=>by rw[<-U.l];exact vX h
 have Q:(bl a ((idx l 0).bind λS=>some S) (some false):aY X')=some (a&&bQ l 0):=by rw[show idx l 0=some (bQ l 0)from pZ (i:=0) Zaa];cases a<;>rfl
 have w:∀i(h:i<x.l.l.length),∃c,((dI x.l.l[i]).bind Sl.whole)=some c/\c.l=x.l.l[i].l:=λi h=>by have:=T _ (mem_of_getElem? (D i h));exact Ai Zaa Zaa
 have⟨H,K,M⟩:=w 0 Zaa
 unfold eA;rw[Q,ζb,show idx x.l 0=some x.l.l[0]from bL (i:=0) Zaa,ζb,K,ζb]
 unfold eA.W1;refine lW (λq:Int×Zb×X'=>∃i n:Nat,q.1=(i:Int)/\i<L.length/\L.length<=i+n/\q.2.1.l.length<=i+1/\An (bQ b) (bQ l) a i q.2.2/\ins q.2.1++(walk L (bQ b) (bQ l) a n i q.2.2).map (λk=>(L[k]?).getD [])=runT L (bQ b) (bQ l) a) (λq=>L.length-q.1.toNat)
  ⟨0,L.length,rfl,F,Zaa,le_refl _,Y,by
   show[H.l]++_=_;unfold runT;rw[map_cons,D 0 Zaa,M];rfl⟩ ?_
 rintro⟨_,o,d⟩ ⟨i,n,rfl,hi,hn,N,e,J⟩;simp only at N e J;have⟨u,P,O⟩:=U.nx i hi;have X:idx x.next (i:Int)=some u:=by rw[jN];exact P
 have Z:u.l.length=(gU L i).length:=by rw[O,length_map]
 have h8:=LG E B hi;unfold eA.bz;dsimp only;rw[X];simp only[ζb]
 by_cases C:gU L i=[]
 .rw[decide_eq_false (show¬len u>0 by simp[len,Z,C]),bu,bf]
  rw[IP C,map_nil,List.append_nil]at J;exact(bf _).2 ⟨J,Zaa⟩
 have⟨m,j,R,V,f3,f4,f5,f6⟩:=DY B W hi e C;have ah:0<(gU L i).length:=List.length_pos_iff.2 C;rw[decide_eq_true (show len u>0 by simp only[len];omega),br]
 have aa:e_ u (λz=>iY z d b)=some (m:Int):=by rw[Jd (f:=λk=>d||bQ b k.toNat) (λk g=>by rw[O]at g;obtain⟨y,hy,rfl⟩:=mem_map.1 g;have:=Bo B hi hy;unfold iY;rw[pZ Zaa];cases d<;>rfl) Zaa,O,N8 (m:=m) (by rw[findIdx_map];exact R)]
 have ab:idx u (m:Int)=some (j:Int):=by rw[jN,O,getElem?_map,V];rfl
 have ad:((bl d (some true) ((bl a ((idx l (j:Int)).bind λG=>some G) (some false):aY X').bind λI=>some I):aY X'))=some (d||(a&&bQ l j)):=by rw[pZ Zaa];cases d<;>cases a<;>rfl
 have⟨p,ae,af⟩:=w j Zaa
 have⟨r,j1,v⟩:=lT (s:=o) (x:=p) Zaa
 rw[aa];simp only[ζb];rw[ab];simp only[ζb];rw[ad,ζb,bL (show j<x.l.l.length by omega),ζb,ae,ζb,j1,ζb,bf]
 obtain⟨n,rfl⟩:∃n',n=n'+1:=⟨n-1,Zaa⟩
 refine⟨⟨j,n,rfl,f5,Zaa,by show r.l.length<=_;rw[v];simp;omega,f6,?_⟩,by show L.length-(j:Int).toNat<L.length-(i:Int).toNat;omega⟩
 show ins r++_=_;rw[<-J];have hw:walk L (bQ b) (bQ l) a (n+1) i d=j::walk L (bQ b) (bQ l) a n j (d||(a&&bQ l j)):=by rw[walk,f3]
 rw[hw,map_cons,D j Zaa]
 unfold ins;rw[v,List.map_append,List.append_assoc];show _++([p.l]++_)=_;rw[af];rfl
theorem Sp{b l:Sl X'}{a:X'}(h:Bk L (gS (if a then 18 else 20) l) b):EO L (bQ b) (bQ l) a:=by intro i hi c u w;rw[h.2 i hi]at c;cases a with|true=>have:=u rfl;simp[gS,this]at c;exact c|false=>simp[gS]at c;rcases c.2 with h|h;exact absurd h w;exact h
end
section
variable{t:Z4}{A:bU 200 bq}
theorem RJ{c c':Zg}{l e:Zb}(J:c'.l=c.l)(h:wo t A c l)(h':wo t A c' e)(q:UV):nQ t q->q.kind<=8->∀n,q.dp<=n->
 ∃x,dU (λr(z:bA×UV)=>bS z.1 z.2 r) n (⟨t,c,l⟩,q)=some x/\dU (λr(z:bA×UV)=>bS z.1 z.2 r) n (⟨t,c',e⟩,q)=some x:=by
 induction q using Pred.ind with
 |h q T=>
  intro E b n k;have hd:=q.sn;have⟨o,M,N,V,F,L⟩:=h;obtain⟨-,-,-,-,ad,B⟩:=h';have⟨S,d,hy⟩:=E.here;obtain⟨k1,-,-⟩:=rD S;have T:=λq s=>T q s (E.si s) (E.int Zaa s) (n-1) (by have:=Pred.kz s;omega)
  rw[fJ Zaa,fJ Zaa]
  show∃x,bS ⟨t,c,l⟩ q (dU (λr(z:bA×UV)=>bS z.1 z.2 r) (n-1))=some x/\bS ⟨t,c',e⟩ q (dU (λr(z:bA×UV)=>bS z.1 z.2 r) (n-1))=some x
  generalize dU (λr(z:bA×UV)=>bS z.1 z.2 r) (n-1)=R at T⊢
  unfold bS;rcases(show q.kind=1\/q.kind=2\/q.kind=3\/q.kind=4\/5<=q.kind by omega)with b|b|b|b|b
  .rw[b];exact⟨q.n,rfl,rfl⟩
  .have⟨m,j,P,y,K,U,W,h1,h2⟩:=JA o b d;have ae:=(ζe.1 W).1;have C:=(ζe.1 U).1;have⟨a,v⟩:=F.1.at_ C;have⟨x,H,O⟩:=L m P a U v;have⟨x',af,X⟩:=B m P a U (by rw[J];exact v)
   have G:∀(c:Zg)(l:Zb)(x:Zg),l.l[m]?=some x->x.l=jX P a.toNat->jC ⟨t,c,l⟩ q=some (ug P j a.toNat):=λc l x H O=>by unfold jC;simp only;rw[K,jN,U,ζb,zZ (p:=λz=>iA z q) (f:=λw=>toList w.name==toList q.name) (λ_ _=>rfl) (o.2 P (mem_of_getElem? U)).2.1,C1 W h1 h2,ζb,jN,H,ζb,jN,O,AW _ ae];rfl
   rw[b,show((2:Int)==1)=false from rfl,bu,bu,show((2:Int)==2)=true from rfl,br,br,G c l x H O,G c' e x' af X];exact⟨_,rfl,rfl⟩
  .unfold qK at d;rw[if_neg (by simp[b]),if_pos (by simpa using b)]at d
   simp only[ζh]at d;have⟨n,k,Q⟩:=qC (t:=t) (p:=q.proc) (by simp only[ζh];exact d.1)
   have⟨a,v⟩:=F.1.at_ Q;rw[b,show((3:Int)==1)=false from rfl,bu,bu,show((3:Int)==2)=false from rfl,bu,bu,show((3:Int)==3)=true from rfl,br,br];simp only;rw[k,jN,jN,J,v];exact⟨_,rfl,rfl⟩
  .unfold qK at d;rw[if_neg (by simp[b]),if_neg (by simp[b]),if_pos (by simpa using b)]at d
   simp only[ζh]at d;have⟨n,k,Q⟩:=qC (t:=t) (p:=q.proc) (by simp only[ζh];exact d.1)
   have⟨m,K,C⟩:=qC (t:=t) (p:=q.peer) (by simp only[ζh];exact d.2.1)
   have⟨⟨u,e2⟩,hu,ah,ai⟩:=DJ o M N V F Q C;have⟨⟨u',al⟩,aj,Y,I⟩:=DJ o M N V ad Q C;simp only at ah ai Y I;have Z:len u'=len u:=by rw[J]at I;simp only[len];omega
   rw[b,show((4:Int)==1)=false from rfl,bu,bu,show((4:Int)==2)=false from rfl,bu,bu,show((4:Int)==3)=false from rfl,bu,bu,show((4:Int)==4)=true from rfl,br,br];unfold lZ;simp only;rw[k,K,hu,aj];simp only[ζb];exact⟨_,rfl,by rw[Z]⟩
  have D:∀j:Int,j<5->(q.kind==j)=false:=λj hj=>by simp;omega
  rw[D 1 Zaa,D 2 Zaa,D 3 Zaa,D 4 Zaa]
  simp only[bu];have Q:0<q.l.l.length:=by rcases(show q.kind=5\/q.kind=6\/q.kind=7\/q.kind=8 by omega)with g|g|g|g;have:=Pred.parts S (c:=1) (by rw[g];rfl);omega;have:=Pred.parts S (c:=2) (by rw[g];rfl);omega;have:=Pred.parts S (c:=2) (by rw[g];rfl);omega;have:=Pred.parts S (c:=2) (by rw[g];rfl);omega
  have⟨x,x1,x2⟩:=T _ (getElem_mem Q);have aa:idx q.l 0=some q.l.l[0]:=bL (i:=0) Q
  by_cases g:q.kind=5
  .rw[g,show((5:Int)==5)=true from rfl,br,br,aa,ζb,x1,ζb,ζb,x2,ζb];exact⟨_,rfl,rfl⟩
  have ab:1<q.l.l.length:=by have:=Pred.parts S (c:=2) (by rcases(show q.kind=6\/q.kind=7\/q.kind=8 by omega)with g|g|g<;>(rw[g];rfl));omega
  have⟨y,y1,y2⟩:=T _ (getElem_mem ab);have ak:idx q.l 1=some q.l.l[1]:=bL (i:=1) ab;rw[aa,ak];simp only[ζb,x1,x2,y1,y2];rw[show(q.kind==5)=false from by simpa using g,bu]
  cases q.kind==6<;>cases q.kind==7<;>exact⟨_,rfl,rfl⟩
theorem EN{c c':Zg}{l J:Zb}(T:c'.l=c.l)(h:wo t A c l)(d:wo t A c' J)(q:UV):nQ t q->9<=q.kind->q.dp<=20->q.hG (λk=> !od k)=true->∀n,q.dp<=n->
 ∃x,uZ n ⟨t,c,l⟩ q=some x/\uZ n ⟨t,c',J⟩ q=some x:=by
 induction q using Pred.ind with
 |h q C=>
  intro a b X O n e;have hd:=q.sn;have⟨D,f,j⟩:=a.here;obtain⟨k1,k2,-⟩:=rD D;have⟨Y,Q⟩:=KG Zaa O
  have B:∀k∈q.l.l,k.kind<=8->∃x,dV ⟨t,c,l⟩ k=some x/\dV ⟨t,c',J⟩ k=some x:=λk b S=>RJ T h d k (a.si b) S 100000 (by have:=Pred.kz b;omega)
  have C:=λg q G=>C q G (a.si G) (a.bool g G) (by have:=Pred.kz G;omega) (Q q G) (n-1) (by have:=Pred.kz G;omega)
  unfold uZ at C⊢;rw[fJ Zaa,fJ Zaa]
  show∃x,cH ⟨t,c,l⟩ q (dU (λr(z:bA×UV)=>cH z.1 z.2 r) (n-1))=some x/\cH ⟨t,c',J⟩ q (dU (λr(z:bA×UV)=>cH z.1 z.2 r) (n-1))=some x
  generalize dU (λr(z:bA×UV)=>cH z.1 z.2 r) (n-1)=R at C⊢
  unfold cH dK.J1
  by_cases I:q.kind<=12
  .have Z:=Pred.parts D (c:=2) (by rcases(show q.kind=9\/q.kind=10\/q.kind=11\/q.kind=12 by omega)with g|g|g|g<;>(rw[g];rfl))
   have u:0<q.l.l.length:=Zaa
   have w:1<q.l.l.length:=Zaa
   have⟨x,L,x2⟩:=B _ (getElem_mem u) (a.int I (getElem_mem u));have⟨y,U,W⟩:=B _ (getElem_mem w) (a.int I (getElem_mem w));rw[show idx q.l 0=some q.l.l[0]from bL (i:=0) u,show idx q.l 1=some q.l.l[1]from bL (i:=1) w];simp only[ζb,L,x2,U,W];rcases(show q.kind=9\/q.kind=10\/q.kind=11\/q.kind=12 by omega)with g|g|g|g<;>rw[g]<;>exact⟨_,rfl,rfl⟩
  by_cases m:q.kind<=14
  .rcases (show q.kind=13\/q.kind=14 by omega)with g|g<;>rw[g]<;>exact⟨_,rfl,rfl⟩
  have u:0<q.l.l.length:=by rcases(show q.kind=15\/q.kind=16\/q.kind=17 by omega)with g|g|g;have:=Pred.parts D (c:=1) (by rw[g];rfl);omega;have:=Pred.parts D (c:=2) (by rw[g];rfl);omega;have:=Pred.parts D (c:=2) (by rw[g];rfl);omega
  have⟨x,L,x2⟩:=C Zaa _ (getElem_mem u)
  rw[show idx q.l 0=some q.l.l[0]from bL (i:=0) u]
  by_cases g:q.kind=15
  .rw[g];simp only[ζb,L,x2];exact⟨_,rfl,rfl⟩
  have w:1<q.l.l.length:=by have:=Pred.parts D (c:=2) (by rcases(show q.kind=16\/q.kind=17 by omega)with g|g<;>(rw[g];rfl));omega
  have⟨y,U,W⟩:=C Zaa _ (getElem_mem w)
  rw[show idx q.l 1=some q.l.l[1]from bL (i:=1) w];simp only[ζb,L,x2,U,W];rcases(show q.kind=16\/q.kind=17 by omega)with g|g<;>rw[g]<;>cases x<;>exact⟨_,rfl,rfl⟩
end
section
variable{t:Z4}{A:bU 200 bq}{L:aX SW}
abbrev AM(n:Nat)(z:bp×Pred):aY (Sl Bool):=dU (λr(z:bp×Pred)=>bZ z.1 z.2 r) n z
theorem YV(b:Small t)(c:b9 t=some true)(d:VT t)(f:eB t (bO t) A)(B:dA t A L)(M:L.length<=5000){r:Zb}(E:o7 t=some (r,0))(g:ins r=L){p:UV}(D:j_ p=true)(a:nQ t p)(j:9<=p.kind)(T:p.hG (λk=> !od k)=true)(U:∀n,p.dp<=n->wM t n p=some true):
 ∃tb,(oQ t p).bind zz=some (tb,0)/\tb.whole=some tb/\tb.l.length=L.length/\∀i(h:i<r.l.length)l,wo t A r.l[i] l->uZ 100000 ⟨t,r.l[i],l⟩ p=some (bQ tb i):=by
 have hd:=D;simp only[j_,ζh,decide_eq_true_eq]at hd;have u:=a.sm;have O:dY t p=some 0:=by
  unfold dY mO;rw[c,ζb,br,rm u,ζb,D,show(!true)=false from rfl,ζb,bu,uz b u Zaa,ζb,a.r,br,vO u Zaa,ζb,a.y,br,
   show dU (λr(z:Z4×UV)=>cw z.1 z.2 r) 100000 (t,p)=some true from U 100000 Zaa,ζb]
  rfl
 have Q:mb p.kind=2:=by unfold mb;rw[if_neg Zaa]
 have S:r.l.length=L.length:=by rw[<-lp,g]
 have key:Wp (oQ t p) λq=>q.2=0/\q.1.whole=some q.1/\q.1.l.length=L.length/\∀i(h:i<r.l.length)l,wo t A r.l[i] l->uZ 100000 ⟨t,r.l[i],l⟩ p=some (bQ q.1 i):=by unfold oQ jw;rw[O,ζb,show((0:Int)==0)=true from rfl,br,WZ D a Q,ζb,show((0:Int)==0)=true from rfl,br,qA u,D,T,ζb,show(true&& !true)=false from rfl,bu,E,ζb];simp only;rw[show((0:Int)==0)=true from rfl,br,fA];unfold jw.W1;refine gY r.l.length (λn q=>q.2=(n:Int)/\q.1.whole=some q.1/\q.1.l.length=n/\∀i(h:i<r.l.length)l,i<n->wo t A r.l[i] l->uZ 100000 ⟨t,r.l[i],l⟩ p=some (bQ q.1 i)) ⟨rfl,rfl,rfl,λi _ l h=>absurd h Zaa⟩ ?_ ?_;rintro n ⟨o,_⟩ W ⟨rfl,o1,o2,o3⟩;simp only at o1 o2 o3;have m:Cons t A r.l[n].l:=(B.mem _).1 (by rw[<-g];exact tA.2 ⟨_,getElem_mem W,rfl⟩);have⟨⟨l,z⟩,a1,a2,a3,Y⟩:=Ut b c d f m;simp only at a2 a3 Y;subst a2;have G:wo t A r.l[n] l:=⟨b,c,d,f,m,Y⟩;have⟨x,I⟩:=IW G p a j Zaa T;have I:=I 100000 Zaa;have⟨w,J,Z⟩:=lT (s:=o) (x:=x) Zaa;have F:w.whole=some w:=(by unfold fW at J;split at J<;>cases J;rfl);unfold jw.bz;dsimp only;rw[kX W,br,bL W,ζb,a1,ζb];simp only;rw[show((0:Int)==0)=true from rfl,br,show dK ⟨t,r.l[n],l⟩ p=some x from I,ζb,J,ζb,bf];refine⟨dZ n Zaa,F,by show w.l.length=_;rw[Z];simp[o2],λi hi H N C=>?_⟩;(show _=some (bQ w i);have X:bQ w i=if i=n then x else bQ o i:=by unfold bQ;rw[Z];by_cases e:i=n;subst e;rw[List.getElem?_append_right Zaa,o2,if_pos rfl];simp;rw[List.getElem?_append_left Zaa,if_neg e]);rw[X];by_cases e:i=n;subst e;rw[if_pos rfl];have⟨y,v,K⟩:=EN rfl G C p a j Zaa T 100000 Zaa;rw[I]at v;cases v;exact K;rw[if_neg e];exact o3 i hi H Zaa C;rintro⟨o,_⟩ ⟨rfl,o1,o2,o3⟩;simp only at o1 o2 o3;unfold jw.bz;dsimp only;rw[mc,bu,bf];exact(bf _).2 ((bf _).2 ⟨rfl,o1,by rw[<-S];exact o2,λi hi l G=>o3 i hi l Zaa G⟩)
 have⟨⟨tb,z⟩,k1,k2,k3,k4,k5⟩:=key;simp only at k2 k3 k4 k5;subst k2;refine⟨tb,?_,k3,k4,k5⟩;rw[k1,ζb];unfold zz;rw[k3];rfl
theorem Qv(K:Small t)(M:b9 t=some true)(j:VT t)(hM:eB t (bO t) A)(B:dA t A L)(s:L.length<=5000){r:Zb}(hL:o7 t=some (r,0))(N:ins r=L){x:bp}(P:Ck L x)(ae:x.t=t)(p:UV):
 nQ t p->9<=p.kind->p.dp<=20->p.sz<=200->(∀n,p.dp<=n->wM t n p=some true)->∃T:Nat->X',(∀n,p.dp<=n->∃o,AM n (x,p)=some o/\o.whole=some o/\o.l.length=L.length/\∀i,i<L.length->bQ o i=T i)/\
  (p.hG (λk=> !od k)=true->∀i(h:i<r.l.length)l,wo t A r.l[i] l->uZ 100000 ⟨t,r.l[i],l⟩ p=some (T i)):=by
 have ai:r.l.length=L.length:=by rw[<-lp,N]
 induction p using Pred.ind with
 |h p ih=>
  intro f hk hd hz S;have aj:=p.sn;have⟨W,ak,al⟩:=f.here;obtain⟨k1,k2,-⟩:=rD W;have y:j_ p=true:=by simp only[j_,ζh,decide_eq_true_eq];exact⟨hz,hd,f.f⟩
  have D:∀c:Int,bU.at wY p.kind=some c->(p.l.l.length:Int)=c:=λc=>Pred.parts W
  cases X:p.hG (λk=> !od k)with
  |true=>
   have⟨tb,V,b2,E,F⟩:=YV K M j hM B s hL N y f hk X S;refine⟨bQ tb,λn w=>⟨tb,?_,b2,E,λi _=>rfl⟩,λ_=>F⟩
   unfold AM;rw[fJ Zaa]
   show bZ x p _=_;unfold bZ;rw[qA f.sm,y,X,ζb,show(true&& !true)=false from rfl,bu,ae,V];rfl
  |false=>
   have C:∀q∈p.l.l,13<=p.kind->∃T:Nat->X',∀n,p.dp<=n->∃o,AM (n-1) (x,q)=some o/\o.whole=some o/\o.l.length=L.length/\∀i,i<L.length->bQ o i=T i:=λq G Y=>by have c3:=Pred.kz G;obtain⟨T,Q,-⟩:=ih q G (f.si G) (f.bool Y G) Zaa (by have:=Pred.Cl G;have:=p.Im;omega) (G_ K M j.ok f hd Zaa S G);exact⟨T,λn w=>Q (n-1) Zaa⟩
   have am:15<=p.kind:=by by_cases h:p.kind<=14;rw[M0 f h]at X;cases X;omega
   have an:1<=p.l.l.length:=by have:∃c:Int,1<=c/\bU.at wY p.kind=some c:=(by rcases(show p.kind=15\/p.kind=16\/p.kind=17\/p.kind=18\/p.kind=19\/p.kind=20\/p.kind=21 by omega)with g|g|g|g|g|g|g<;>rw[g]<;>exact⟨_,by decide,rfl⟩);have⟨c,ao,af⟩:=this;have:=D c af;omega
   obtain⟨q,Z⟩:∃q,p.l.l[0]?=some q:=⟨_,ζd Zaa⟩
   have G:=mem_of_getElem? Z;have aa:idx p.l 0=some q:=Rw (i:=0) Z;have⟨T,Q⟩:=C q G Zaa
   have start:∀n,p.dp<=n->∀a:Sl X',AM (n-1) (x,q)=some a->a.whole=some a->AM n (x,p)=bl (p.kind==15) (((en a).bind Sl.whole).bind λI=>some I)
    (bl (p.kind==16) (bV.J1 x a true p (AM (n-1))) (bV.J1 x a (p.kind==17) p (AM (n-1)))):=λn w a a1 a2=>by
    unfold AM at a1;have e1:AM n (x,p)=bZ x p (dU (λr(z:bp×UV)=>bZ z.1 z.2 r) (n-1)):=by unfold AM;rw[fJ Zaa]
    rw[e1];show bZ x p (dU (λr(z:bp×UV)=>bZ z.1 z.2 r) (n-1))=bl (p.kind==15) (((en a).bind Sl.whole).bind λI=>some I)
     (bl (p.kind==16) (bV.J1 x a true p (dU (λr(z:bp×UV)=>bZ z.1 z.2 r) (n-1))) (bV.J1 x a (p.kind==17) p (dU (λr(z:bp×UV)=>bZ z.1 z.2 r) (n-1))))
    generalize dU (λr(z:bp×UV)=>bZ z.1 z.2 r) (n-1)=R at a1⊢
    unfold bZ;rw[qA f.sm,y,X,ζb,show(true&& !false)=true from rfl,br,aa,ζb,a1,ζb,a2,ζb]
   by_cases J:p.kind=15
   .refine⟨λi=> !T i,λn w=>?_,λh=>by cases h⟩
    have⟨a,a1,a2,a3,a4⟩:=Q n w;have⟨z,H,m,z3,z4⟩:=Ff (x:=a) Zaa
    refine⟨z,?_,m,Zaa,λi hi=>by rw[z4 i Zaa,a4 i hi]⟩
    rw[start n w a a1 a2,show(p.kind==15)=true from by simp[J],br,H,ζb,m];rfl
   by_cases ab:p.kind=16\/p.kind=17
   .have ap:(p.l.l.length:Int)=2:=D 2 (by rcases ab with g|g<;>rw[g]<;>rfl)
    obtain⟨q',ad⟩:∃q,p.l.l[1]?=some q:=⟨_,ζd Zaa⟩
    have ah:=mem_of_getElem? ad;have O:idx p.l 1=some q':=Rw (i:=1) ad;have⟨U,hU⟩:=C q' ah Zaa
    refine⟨λi=>gB p.kind (T i) (U i),λn w=>?_,λh=>by cases h⟩
    have⟨a,a1,a2,a3,a4⟩:=Q n w;have⟨u,u1,u2,u3,u4⟩:=hU n w;have⟨z,H,m,z3,z4⟩:=Vw (a:=a) (b:=u) (p:=p) (r:=AM (n-1)) Zaa Zaa a2
    have hj:∀{γ:Type}(c d e:aY γ),bl (p.kind==16) (bl true c d) (bl (p.kind==17) c e)=c:=λc d e=>by rcases ab with g|g<;>rw[g]<;>rfl
    refine⟨z,?_,m,Zaa,λi hi=>by rw[z4 i Zaa,a4 i hi,u4 i hi]⟩
    rw[start n w a a1 a2,show(p.kind==15)=false from beq_eq_false_iff_ne.2 J,bu];unfold bV.J1;rw[hj,O,ζb,u1,ζb,u2,ζb,H]
   have⟨a0,V,b2,E,F⟩:=Q p.dp (le_refl _);have⟨e0,e1,e2,e3⟩:=Al j B s P (kind:=p.kind) (l:=a0) E;refine⟨bQ e0,λn w=>?_,λh=>by cases h⟩
   have⟨a,a1,a2,a3,a4⟩:=Q n w;have⟨e,f1,f2,f3⟩:=Al j B s P (kind:=p.kind) (l:=a) a3;refine⟨e,?_,f3,f2.1,λi hi=>f2.ind B e2 (R:=λu v=>u=v) (λi hi h=>?_) i hi⟩
   .rw[start n w a a1 a2,show(p.kind==15)=false from beq_eq_false_iff_ne.2 J,bu,show(p.kind==16)=false from beq_eq_false_iff_ne.2 Zaa,bu,show(p.kind==17)=false from beq_eq_false_iff_ne.2 Zaa]
    unfold bV.J1;rw[bu,f1,ζb,f3];rfl
   rw[map_congr_left h];unfold gS;rw[a4 i hi,F i hi]
end
section
variable{t:Z4}{c:Zg}{p q:UV}
theorem R4(B:j_ p=true):p.dp<=20:=by simp only[j_,ζh,decide_eq_true_eq]at B;omega
abbrev nd(k:Int)(L:aX Pred):Pred:=⟨k,0,0,0,ByteArray.empty,.row L⟩
theorem Yp{k:Int}{L:aX UV}(h:∀q∈L,q.Sm)(B:L.length<1073741824):(nd k L).Sm:=by unfold Pred.Sm;rw[Pred.lX,ζh,all_eq_true];exact⟨decide_eq_true B,h⟩
end
section
variable{t:Z4}{A:bU 200 bq}{L:aX SW}
theorem Px(b:Small t)(a:VT t)(j:eB t (bO t) A)(B:dA t A L){x:cV}(U:E6 t A x){r:Zb}(H:r.l.length<=5000)(D:Ng t L (ins r)):
 Wp (fU x r) λq=>q.2=true:=by
 have K:=a.few;have J:0<r.l.length:=by have:=D.pos;rw[lp]at this;exact this
 have C:∀c∈r.l,c.l.length<=8:=λc k=>by have:=((B.mem _).1 (D.mem _ (tA.2 ⟨c,k,rfl⟩))).1.1;omega
 have e0:r.l[0].l=(Sl.row (replicate t.procs.l.length (0:Int))).l:=by have:=D.zero;rw[vX J]at this;exact Option.some.inj this
 have e1:r.l[r.l.length-1].l=rF t:=by have:=D.last;rw[lp,vX (show r.l.length-1<r.l.length by omega)]at this;exact Option.some.inj this
 unfold fU;rw[show(len r==0)=false from by simp only[len,beq_eq_false_iff_ne];omega,bu,show idx r 0=some r.l[0]from bL (i:=0) J,ζb,zero_eq a U,ζb,
  xI (by have:=C _ (getElem_mem J);omega),ζb,ζb]
 rw[decide_eq_true e0,show(!true)=false from rfl,bu,show len r-1=((r.l.length-1:Nat):Int)from by simp only[len];omega,gb _ Zaa Zaa,bL (show r.l.length-1<r.l.length by omega),ζb,fA,fA]
 refine(Wd b a U).mono λl W=>?_
 rw[xI (by have:=C _ (getElem_mem (show r.l.length-1<r.l.length by omega));omega),ζb,bf]
 rw[decide_eq_true (show r.l[r.l.length-1].l=l.l by rw[e1,W]),show(!true)=false from rfl,bu]
 obtain⟨v,m,O⟩:∃v,iP r (some 1) none=some v/\v.l=r.l.drop 1:=Ls r 1 Zaa
 rw[m,ζb];unfold fU.W1;have M:v.l.length=r.l.length-1:=by rw[O,List.length_drop]
 refine gY v.l.length (λi q=>q.2=(i:Int)/\q.1.l.length=i) ⟨rfl,rfl⟩ ?_ ?_
 .rintro i ⟨o,_⟩ hi ⟨rfl,X⟩;simp only at X;have G:i<r.l.length:=by omega
  have u:i+1<r.l.length:=Zaa
  have Y:v.l[i]=r.l[i+1]:=by have g:v.l[i]?=some r.l[i+1]:=(by rw[O,List.getElem?_drop,Nat.add_comm,ζd u]);rw[ζd hi]at g;exact Option.some.inj g
  have Z:r.l[i].l∈L:=D.mem _ (tA.2 ⟨_,getElem_mem G,rfl⟩);have e:=(B.mem _).1 Z;have n:r.l[i].l.length=t.procs.l.length:=e.1.1;unfold fU.bz;rw[kX hi,br,bL hi,ζb,Y,show len x.needs=((t.procs.l.length:Nat):Int)from by simp only[len];rw[U.len],fA]
  refine(Ox Zaa).mono λix I=>?_
  have Q:∀z∈ix.l,lM z (some x) r (i:Int) r.l[i+1]=some (decide (bump r.l[i].l z.toNat 1∈L)&&decide (r.l[i+1].l=bump r.l[i].l z.toNat 1)):=λz h=>by rw[I]at h;obtain⟨p,y,rfl⟩:=mem_map.1 h;have J:p<r.l[i].l.length:=(by rw[n];exact List.mem_range.1 y);unfold lM;rw[bL G,ζb,ζb,X4 b a j B U e J,ζb];have⟨d,hd,E⟩:=UX b a e J;rw[ζb,hd,ζb,xI (by have:=C _ (getElem_mem u);omega),ζb,E,tj,ζb];rfl
  rw[Jd (f:=λz=>decide (bump r.l[i].l z.toNat 1∈L)&&decide (r.l[i+1].l=bump r.l[i].l z.toNat 1)) Q (by rw[I];simp;omega),ζb]
  have⟨p,N,S⟩:=D.step i _ _ (vX G) (vX u);have F:bump r.l[i].l p 1∈L:=by rw[<-S];exact D.mem _ (tA.2 ⟨_,getElem_mem u,rfl⟩)
  have w:(ix.l.any λz:Int=>decide (bump r.l[i].l z.toNat 1∈L)&&decide (r.l[i+1].l=bump r.l[i].l z.toNat 1))=true:=by rw[List.any_eq_true];refine⟨(p:Int),by rw[I];exact mem_map.2 ⟨p,List.mem_range.2 Zaa,rfl⟩,?_⟩;rw[Int.toNat_natCast,decide_eq_true F,decide_eq_true S];rfl
  have T:¬place (λz:Int=>decide (bump r.l[i].l z.toNat 1∈L)&&decide (r.l[i+1].l=bump r.l[i].l z.toNat 1)) ix.l<0:=by rw[<-tC]at w;have:=of_decide_eq_true w;omega
  have⟨o2,g1,g2⟩:=lT (s:=o) (x:=place (λz:Int=>decide (bump r.l[i].l z.toNat 1∈L)&&decide (r.l[i+1].l=bump r.l[i].l z.toNat 1)) ix.l) Zaa
  rw[decide_eq_false T,bu,g1,ζb,bf];exact⟨dZ i Zaa,by show o2.l.length=_;rw[g2];simp[X]⟩
 rintro⟨o,_⟩ ⟨rfl,X⟩;unfold fU.bz;rw[mc,bu,bf];exact(bf _).2 rfl
theorem WM(a:Small t)(d:b9 t=some true)(b:VT t)(c:eB t (bO t) A)(B:dA t A L){r:Zb}(e:r.l.length<=5000)(D:Ng t L (ins r)):EP t r=some true:=by refine Wp.eq ?_;unfold EP;rw[d,ζb,br,fA];refine(UO a b c).mono λo⟨x,u,w⟩=>?_;subst u;rw[ζb,fA];exact(Px a b c B w e D).mono λq h=>(bf _).2 h
theorem RY(a:VT t)(b:eB t (bO t) A)(B:dA t A L):L[L.length-1]?=some (rF t):=by have u:rF t∈L:=(B.mem _).2 (Jx a b);have⟨i,hi⟩:=List.mem_iff_getElem?.1 u;have:=UH a B b hi;rw[<-this];exact hi
def AP(L:aX SW):So->Prop
 |[]=>False|[i]=>i<L.length/\gU L i=[]|i::j::r=>i<L.length/\j∈gU L i/\AP L (j::r)
theorem Mv(D:dA t A L){b l:Nat->X'}{a:X'}(T:EO L b l a)(U:a=true->∀i,i<L.length->gU L i=[]->b i=true->l i=true):∀(n i:Nat)(d:X'),i<L.length->L.length<=i+n->An b l a i d->(a=false->d=false)->
 AP L (i::walk L b l a n i d)/\(a=true->d=true\/∃k∈walk L b l a n i d,l k=true)/\(a=false->∀k∈i::walk L b l a n i d,b k=true)
 |0,i,d,hi,W,_,_=>absurd W Zaa|n+1,i,d,hi,W,hg,hd=>by by_cases G:gU L i=[];rw[IP G];refine⟨⟨hi,G⟩,λB=>?_,λB k c=>?_⟩;rcases hg with h|⟨e,J⟩;exact .inl h;have:=U B i hi G e;rw[J B]at this;cases this;rw[mem_singleton.1 c];rcases hg with h|⟨e,J⟩;rw[hd B]at h;cases h;exact e;have⟨m,j,g,z,C,Q,f,f6⟩:=DY D T hi hg G;have I:walk L b l a (n+1) i d=j::walk L b l a n j (d||(a&&l j)):=(by rw[walk,C]);have O:j∈gU L i:=mem_of_getElem? z;have⟨g1,g2,g3⟩:=Mv D T U n j (d||(a&&l j)) f Zaa f6 (λB=>by rw[hd B,B];rfl);rw[I];refine⟨⟨hi,O,g1⟩,λB=>?_,λB k c=>?_⟩;rcases g2 B with h|⟨k,c,u⟩;(cases w:d with|true=>exact .inl rfl|false=>rw[w,B]at h;exact .inr ⟨j,Zab,by simpa using h⟩);exact .inr ⟨k,List.mem_cons_of_mem _ c,u⟩;rcases mem_cons.1 c with rfl|c;rcases hg with h|⟨e,J⟩;rw[hd B]at h;cases h;exact e;exact g3 B k c
theorem AP.lt:∀{P:So},AP L P->∀k∈P,k<L.length
 |[],h=>h.elim|[i],h=>λk a=>by rw[mem_singleton.1 a];exact h.1|i::j::r,h=>λk a=>by rcases mem_cons.1 a with rfl|a;exact h.1;exact AP.lt h.2.2 k a
theorem AP.step:∀{P:So},AP L P->∀(k i j:Nat),P[k]?=some i->P[k+1]?=some j->j∈gU L i
 |[],h=>h.elim|[i],h=>λk a b c B=>by simp at B|i::j::r,h=>λk a b c B=>by cases k with|zero=>cases c;cases B;exact h.2.1|succ k=>exact AP.step h.2.2 k a b (by simpa using c) (by simpa using B)
theorem AP.end_:∀{P:So},AP L P->∃i,P[P.length-1]?=some i/\i<L.length/\gU L i=[]
 |[],h=>h.elim|[i],h=>⟨i,rfl,h⟩|i::j::r,h=>by have⟨k,a,B⟩:=AP.end_ h.2.2;exact⟨k,by simpa using a,B⟩
theorem Vx(e:VT t)(f:eB t (bO t) A)(B:dA t A L){w:So}(h:AP L (0::w)):Ng t L ((0::w).map λk=>(L[k]?).getD []):=by
 have u:∀k,k<L.length->L[k]?=some ((L[k]?).getD []):=λk b=>by rw[ζd b];rfl
 refine⟨Zab,λc a=>?_,?_,λk c d a hd=>?_,?_⟩;obtain⟨k,b,rfl⟩:=mem_map.1 a;exact mem_of_getElem? (u k (h.lt k b));show some ((L[0]?).getD [])=_;rw[As B];rfl;rw[getElem?_map]at a hd;obtain⟨i,hi,rfl⟩:=ζf.1 a;obtain⟨j,D,rfl⟩:=ζf.1 hd;have z:=h.step k i j hi D;have G:=h.lt i (mem_of_getElem? hi);unfold gU at z;obtain⟨p,p1,p2,rfl⟩:=FT.1 z;refine⟨p,p1,?_⟩;rw[FO p2];rfl;have⟨i,g,I,C⟩:=h.end_;rw[length_map,getElem?_map,g];show some ((L[i]?).getD [])=_;have hi:=u i I;have:i=L.length-1:=Gv e f B hi λp J O=>by have:=FT.2 ⟨p,J,O,rfl⟩;unfold gU at C;rw[C]at this;cases this
 subst this;rw[RY e f B];rfl
theorem UU(b:VT t)(g:eB t (bO t) A)(B:dA t A L)(J:L.length<=5000){x:bp}(T:Ck L x){l:Sl X'}(U:l.l.length=L.length)(a:X'):
 ∃e,Bk L (gS (if a then 18 else 20) l) e/\(bQ e 0=false->cE.J1 x l a=some (.nil,7))/\
  (bQ e 0=true->∃o,cE.J1 x l a=some (o,0)/\o.l.length<=5000/\Ng t L (ins o)/\
   ∃P:So,ins o=P.map (λk=>(L[k]?).getD [])/\(∀k∈P,k<L.length)/\(a=true->∃k∈P,bQ l k=true)/\(a=false->∀k∈P,bQ l k=true)):=by
 have f:=b.ok.one;have Y:=b.few;have w:0<L.length:=(ζe.1 (As B)).1;have G:∀c∈L,c.length<=8/\0<c.length:=λc j=>by have:=((B.mem _).1 j).1.1;omega
 have⟨e,e1,e2,e3⟩:=Al b B J T (kind:=if a then 18 else 20) (l:=l) U;have z:EO L (bQ e) (bQ l) a:=Sp e2;have O:cE.J1 x l a=cE.J2 x l a (if a then 18 else 20):=by unfold cE.J1;cases a<;>rfl
 refine⟨e,e2,λh=>?_,λh=>?_⟩
 .rw[O];unfold cE.J2;rw[e1,ζb,e3,ζb,show Sl.lS e 0=some 0 from oD (p:=0) (by rw[e2.1];exact w),ζb,B7 (by rw[e2.1];exact w),h];rfl
 have C:An (bQ e) (bQ l) a 0 (a&&bQ l 0):=by cases hd:(a&&bQ l 0)with|true=>exact .inl rfl|false=>refine .inr ⟨h,λu=>?_⟩;rw[u]at hd;simpa using hd
 have⟨o,o1,o2,o3⟩:=Vj b B J w G T e2.1 U z C;have Q:a=true->∀i,i<L.length->gU L i=[]->bQ e i=true->bQ l i=true:=λu i hi S h=>by have:=e2.2 i hi;rw[S,u]at this;rw[this]at h;simpa[gS]using h
 have⟨I,W,X⟩:=Mv B z Q L.length 0 (a&&bQ l 0) w Zaa C (λu=>by rw[u];rfl)
 refine⟨o,?_,o3,?_,0::walk L (bQ e) (bQ l) a L.length 0 (a&&bQ l 0),o2,I.lt,λu=>?_,λu k d=>?_⟩
 .rw[O];unfold cE.J2;rw[e1,ζb,e3,ζb,show Sl.lS e 0=some 0 from oD (p:=0) (by rw[e2.1];exact w),ζb,B7 (by rw[e2.1];exact w),h,ζb,br,o1];rfl
 .rw[o2];exact Vx b g B I
 .rcases W u with h|⟨k,d,h⟩
  .exact⟨0,Zab,by rw[u]at h;simpa using h⟩
  exact⟨k,List.mem_cons_of_mem _ d,h⟩
 have f:=X u k d;have D:=e2.2 k (I.lt k d);rw[f,u]at D;have D:=D.symm;simp[gS]at D;exact D.1
theorem O9(c:Small t)(B:(bO t).length<1073741824){p:UV}(D:p.Sm):
 ∃e,lq t p=some e/\(e=0->b9 t=some true/\VT t/\j_ p=true/\nQ t p/\9<=p.kind/\dY t p=some 0):=by
 have⟨e,d,z⟩:=PC c B D;unfold lq;rw[d,ζb]
 by_cases u:e=0
 .subst u;have⟨f,g,w,b⟩:=z rfl;rw[show((0:Int)==0)=true from rfl,br,zY w b,ζb];simp only;rw[show((0:Int)==0)=true from rfl,br]
  by_cases a:mb p.kind=2
  .refine⟨0,by rw[a];rfl,λ_=>⟨f,g,w,b,?_,trivial⟩⟩
   unfold mb at a
   by_cases h:p.kind<=8
   .rw[if_pos h]at a;cases a
   omega
  exact⟨14,by rw[show(mb p.kind==2)=false from beq_eq_false_iff_ne.2 a];rfl,λh=>by cases h⟩
 exact⟨e,by rw[show(e==0)=false from beq_eq_false_iff_ne.2 u,bu],λh=>absurd h u⟩
theorem RH(b:Small t)(G:(bO t).length<1073741824){p:UV}(J:p.Sm)(c:Zg):
 ∃x e,sA t c p=some (x,e)/\(e=0->p.hG (λq=> !od q)=true/\∃A l,wo t A c l/\uZ 100000 ⟨t,c,l⟩ p=some x):=by
 have⟨w,e,g,z⟩:=Vc b G J c 2;unfold sA;rw[g,ζb];simp only
 by_cases h:e=0
 .subst h;obtain⟨A,l,rfl,B,O,Q,I,d,a,C⟩:=z rfl;have hd:=R4 I;have u:9<=p.kind:=by
   unfold mb at a
   by_cases h:p.kind<=8
   .rw[if_pos h]at a;cases a
   omega
  have⟨x,D⟩:=IW B p d u hd C;rw[show((0:Int)==0)=true from rfl,br,show dK ⟨t,c,l⟩ p=some x from D 100000 Zaa]
  exact⟨x,0,rfl,λ_=>⟨C,A,l,B,D 100000 Zaa⟩⟩
 rw[show(e==0)=false from by simpa using h,bu]
 exact⟨false,e,rfl,λL=>absurd L h⟩
theorem holds_one(b:Small t)(d:b9 t=some true)(e:VT t)(f:eB t (bO t) A)(B:dA t A L)(G:L.length<=5000){r:Zb}(J:nX t=some (r,0))(g:ins r=L){p:UV}(D:dY t p=some 0){o:Sl X'}(T:gC t p=some (o,0))(U:o.l.length=L.length){c:Zg}(a:Cons t A c.l):
 fN t c p=some (bQ o (L.idxOf c.l),0):=by
 have hi:=List.idxOf_lt_length_of_mem ((B.mem _).2 a);have w:(len c==len t.procs)=true:=by simp[len,a.1.1]
 have C:fN t c p=fN.J1 c 0 t p:=by unfold fN;rw[D,ζb,w];rfl
 have⟨x,I,u⟩:=yM b d e f c;have z:(x.2==0)=true:=by rw[u.zero.2 a];rfl
 rw[C];unfold fN.J1;rw[show((0:Int)==0)=true from rfl,br,I,ζb,z,br,T,ζb];simp only;rw[show((0:Int)==0)=true from rfl,br,Rp b d e f B G J g a,ζb];simp only;rw[show((0:Int)==0)=true from rfl,br,show idx o ((L.idxOf c.l:Nat):Int)=some (bQ o (L.idxOf c.l))from pZ Zaa];rfl
def SI(k e n:Int):X':=if k=18 then decide (e>0)else if k=20 then e==n else if k=19 then e==0 else decide (e<n)
theorem Rs(c:Small t)(N:(bO t).length<1073741824)(d:b9 t=some true)(e:VT t)(f:eB t (bO t) A)(B:dA t A L)(R:L.length<=5000){r:Zb}(V:nX t=some (r,0))(g:ins r=L){p:UV}(hs:p.Sm)(hc:nQ t p)(W:9<=p.kind)(hd:p.dp<=20)(Y:dY t p=some 0){o:Sl X'}(hT:gC t p=some (o,0))(aa:o.l.length=L.length)
 (ab:p.hG (λk=> !od k)=true->∀i(h:i<r.l.length)l,wo t A r.l[i] l->uZ 100000 ⟨t,r.l[i],l⟩ p=some (bQ o i)){k:Int}{w:Zb}(hw:w.l.length<=5000){P:So}(x:ins w=P.map λk=>(L[k]?).getD [])(ad:∀k∈P,k<L.length)
 (D:SI k (P.countP (bQ o):Nat) (P.length:Nat)=true):dW.W1 k w 0 w (len w) 0 t p=some true:=by
 have J:w.l.length=P.length:=by rw[<-lp,x,length_map]
 have aj:r.l.length=L.length:=by rw[<-lp,g]
 refine Wp.eq ?_;unfold dW.W1;refine gY w.l.length (λn(q:Int×Int)=>q.2=(n:Int)/\q.1=(((P.take n).countP (bQ o):Nat):Int)) ⟨rfl,rfl⟩ ?_ ?_
 .rintro n ⟨y,_⟩ X ⟨rfl,O⟩;simp only at O;subst O;have C:n<P.length:=by omega
  have Z:P[n]<L.length:=ad _ (getElem_mem C);have G:L[P[n]]?=some w.l[n].l:=by have b:(ins w)[n]?=some w.l[n].l:=vX X;rw[x,getElem?_map,ζd C,Option.map_some,Option.some_inj]at b;rw[<-b,ζd Z];rfl
  have j:Cons t A w.l[n].l:=(B.mem _).1 (mem_of_getElem? G);have ae:L.idxOf w.l[n].l=P[n]:=Bc B.nodup G;have E:=holds_one c d e f B R V g Y hT aa j;rw[ae]at E;have⟨y,h,b1,b2⟩:=RH c N hs w.l[n];have af:(bl (h==0) (some (!(bQ o P[n]==y))) (some false):aY X')=some false:=by by_cases s:h=0;have⟨F,A',v,S,hx⟩:=b2 s;have T:P[n]<r.l.length:=(by omega);have I:w.l[n].l=r.l[P[n]].l:=(by have b:(ins r)[P[n]]?=some r.l[P[n]].l:=vX T;rw[g,G]at b;exact Option.some.inj b);have U:wo t A r.l[P[n]] v:=⟨c,d,e,f,I▸j,λm Q a b h2=>S.vals m Q a b (by rw[I];exact h2)⟩;have ah:wo t A w.l[n] v:=⟨c,d,e,f,j,S.vals⟩;have⟨z,H,K⟩:=EN I U ah p hc W hd F 100000 Zaa;rw[ab F _ T v U]at H;rw[hx]at K;cases H;cases K;rw[s,show((0:Int)==0)=true from rfl,br];simp;rw[show(h==0)=false from beq_eq_false_iff_ne.2 s,bu]
  unfold dW.bz;rw[kX X,br,bL X,ζb,E,ζb];simp only;rw[show((0:Int)==0)=true from rfl,br,b1,ζb];simp only;have u:(P.take (n+1)).countP (bQ o)=(P.take n).countP (bQ o)+if bQ o P[n]then 1 else 0:=by rw[List.take_succ_eq_append_getElem C,List.countP_append,List.countP_singleton]
  have ak:(P.take n).countP (bQ o)<=n:=Nat.le_trans List.countP_le_length (by simp;omega)
  rw[af,ζb,bu]
  cases M:bQ o P[n]with
  |true=>rw[M]at u;rw[br,bf];exact⟨dZ n Zaa,by show wrap .i64 _=_;rw[dZ _ Zaa,u];rfl⟩|false=>rw[M]at u;rw[bu,bf];exact⟨dZ n Zaa,by show _=_;rw[u];rfl⟩
 rintro⟨y,_⟩ ⟨rfl,O⟩;simp only at O;subst O;unfold dW.bz;rw[show decide (((w.l.length:Nat):Int)<len w)=false from mc,bu,bf];have ai:P.take w.l.length=P:=by rw[J,List.take_length]
 show Wp (bl (k==18) (some (decide ((((P.take w.l.length).countP (bQ o):Nat):Int)>0))) (bl (k==20) (some ((((P.take w.l.length).countP (bQ o):Nat):Int)==len w)) (bl (k==19) (some ((((P.take w.l.length).countP (bQ o):Nat):Int)==0)) (some (decide ((((P.take w.l.length).countP (bQ o):Nat):Int)<len w)))))) _;rw[ai,show len w=((P.length:Nat):Int)from by simp only[len];rw[J]]
 unfold SI at D
 by_cases k1:k=18
 .rw[if_pos k1]at D;rw[show(k==18)=true from by simp[k1],br,D];exact(bf _).2 rfl
 rw[if_neg k1]at D;rw[show(k==18)=false from beq_eq_false_iff_ne.2 k1,bu]
 by_cases k2:k=20
 .rw[if_pos k2]at D;rw[show(k==20)=true from by simp[k2],br,D];exact(bf _).2 rfl
 rw[if_neg k2]at D;rw[show(k==20)=false from beq_eq_false_iff_ne.2 k2,bu]
 by_cases k3:k=19
 .rw[if_pos k3]at D;rw[show(k==19)=true from by simp[k3],br,D];exact(bf _).2 rfl
 rw[if_neg k3]at D;rw[show(k==19)=false from beq_eq_false_iff_ne.2 k3,bu,D];exact(bf _).2 rfl
theorem PJ(d:Small t)(hN:(bO t).length<1073741824){kind:Int}(ao:0<=kind/\kind<=255){p:UV}(H:p.Sm):dW t kind p=some true:=by
 have⟨bg,ap⟩:=YA d;have⟨hg,aq⟩:=Ns H;unfold dW;rw[show xH=some true from rfl,ζb,br,ap,ζb];cases bg with|true=>rfl|false=>
 rw[bu,aq,ζb,ζb];cases hg with|true=>rfl|false=>
 obtain⟨k,aF,aG,m⟩:∃k:Int,18<=k/\k<=21/\yJ kind 4=some (k-18):=
  ⟨18+((kind.toNat % 4:Nat):Int),Zaa,Zaa,by
   have:yJ kind ((4:Nat):Int)=_:=Va ao.1 Zaa
   rw[show(4:Int)=((4:Nat):Int)from rfl,this]
   congr 1;omega⟩
 rw[bu,gb kind Zaa Zaa,m,ζb,show 18+(k-18)=k from Zaa,gb k Zaa Zaa];clear m;have ar:∃W:UV,W=⟨k,0,0,0,ByteArray.empty,.row [p]⟩:=⟨_,rfl⟩;have⟨W,J⟩:=ar;rw[<-J];have ae:W.kind=k:=by rw[J]
 have af:W.l.l[0]?=some p:=by rw[J];rfl
 have C:p∈W.l.l:=mem_of_getElem? af;have hW:W.Sm:=by rw[J];exact Yp (λq hq=>by rw[mem_singleton.1 hq];exact H) Zab
 clear J;have⟨e,e1,e4⟩:=O9 d hN hW;have U:∀e:Int,e≠0->cE t W=some (.nil,e)->gC t W=some (.nil,e)->∀f:Zb×Int->X'×Int->aY X',
  ((cE t W).bind λad=>(iV t W).bind λQ=>bl (Q.2==0) (f ad Q) ((bl (ad.2==Q.2) (some ((len ad.1)==0)) (some false):aY X').bind λah=>(bl ah (some (!Q.1)) (some false):aY X').bind λai=>some ai))=some true:=λe X s y f=>by
  have O:(e==0)=false:=beq_eq_false_iff_ne.2 X;have F:iV t W=some (false,e):=by
   unfold iV;rw[y,ζb];simp only;rw[O,bu]
  rw[s,F];simp only[ζb];rw[O,bu,show(e==e)=true from Zab];rfl
 by_cases X:e=0;rotate_left;have O:(e==0)=false:=beq_eq_false_iff_ne.2 X;exact U e X (by unfold cE;rw[e1,ζb,O,bu]) (by unfold gC;rw[e1,ζb,O,bu]) _;subst X;have⟨j,c,hf,N,h9,au⟩:=e4 rfl;obtain⟨A,-,-,K⟩:=c.msgs;have h8:=c.few;have aj:o7 t=(nX t).bind λx=>some (x.1,x.2):=rfl;have ak:ow W.kind=some true:=by unfold ow;rw[decide_eq_true (show W.kind>=18 by omega),br,decide_eq_true (show W.kind<=21 by omega)];rfl
 have⟨⟨r,z⟩,l1,hz⟩:=Pr d j c K;rcases hz with⟨rfl,B,D⟩|⟨rfl,rfl,-⟩;rotate_left;have hm:dD t=some (none,16):=by unfold dD;rw[aj,l1];rfl
 refine U 16 (by decide) ?_ ?_ _;unfold cE;rw[e1,ζb,show((0:Int)==0)=true from rfl,br,ak,ζb,br,hm];rfl;unfold gC;rw[e1,ζb,show((0:Int)==0)=true from rfl,br,hm];rfl;simp only at B D;obtain⟨L,M⟩:∃L,ins r=L:=⟨_,rfl⟩;have D:L.length<=5000:=by rw[<-M,lp];exact D
 have B:dA t A L:=M▸B;have hL:o7 t=some (r,0):=by rw[aj,l1];rfl
 obtain⟨q,q1,x,rfl,av,hx⟩:=Wo d j c K B D hL M;have V:0<L.length:=(ζe.1 (As B)).1;have hd:=hf;simp only[j_,ζh,decide_eq_true_eq]at hd;have I:=N.si C;have al:=N.bool Zaa C;have aH:=Pred.kz C;have Y:=G_ d j c.ok N Zaa Zaa (Xy d j c hf N au) C;have am:j_ p=true:=by simp only[j_,ζh,decide_eq_true_eq];exact⟨by have:=Pred.Cl C;have:=W.Im;omega,Zaa,I.f⟩
 have Z:dY t p=some 0:=by
  unfold dY mO;rw[j,ζb,br,rm H,ζb,am,show(!true)=false from rfl,ζb,bu,uz d H Zaa,ζb,I.r,br,vO H Zaa,ζb,I.y,br,
   show dU (λr(z:Z4×UV)=>cw z.1 z.2 r) 100000 (t,p)=some true from Y 100000 Zaa,ζb]
  rfl
 have aw:lq t p=some 0:=by unfold lq;rw[Z,ζb,show((0:Int)==0)=true from rfl,br,zY am I,ζb];simp only;rw[show((0:Int)==0)=true from rfl,br,show mb p.kind=2 from by unfold mb;rw[if_neg Zaa]];rfl
 have⟨T,hT,ax⟩:=Qv d j c K B D hL M hx av p I al Zaa (by have:=Pred.Cl C;have:=W.Im;omega) Y;have⟨o,o1,o2,o3,o4⟩:=hT 100000 Zaa;have ay:gC t p=some (o,0):=by unfold gC;rw[aw,ζb,show((0:Int)==0)=true from rfl,br,q1,ζb];simp only;rw[show((0:Int)==0)=true from rfl,br,ζb,show bV x p=some o from o1,ζb,o2];rfl
 have⟨a,a1,a2,a3,a4⟩:=hT 99999 Zaa;have aA:bQ a=bQ o:=by have aB:a.l=o.l:=LP Zaa λi hi=>(by rw[a4 i Zaa,o4 i Zaa]);funext i;unfold bQ;rw[aB]
 have⟨E,E1,E2,E3⟩:=Al c B D hx (kind:=k) (l:=a) a3;have E2:Bk L (gS k o) E:=by have:gS k a=gS k o:=(by funext i nx;unfold gS;rw[aA]);rw[<-this];exact E2
 have aa:idx W.l 0=some p:=Rw (i:=0) af;have aC:W.hG (λk=> !od k)=false:=by cases h:W.hG (λk=> !od k)with|false=>rfl|true=>have:=(KG Zaa h).1;omega
 have aD:bV x W=some E:=by show dU (λr(z:bp×UV)=>bZ z.1 z.2 r) 100000 (x,W)=_;rw[fJ Zaa];unfold AM at a1;show bZ x W (dU (λr(z:bp×UV)=>bZ z.1 z.2 r) 99999)=_;generalize dU (λr(z:bp×UV)=>bZ z.1 z.2 r) 99999=R at a1⊢;unfold bZ;rw[qA N.sm,hf,aC,ζb,show(true&& !false)=true from rfl,br,aa,ζb,a1,ζb,a2,ζb,show(W.kind==15)=false from beq_eq_false_iff_ne.2 Zaa,bu,show(W.kind==16)=false from beq_eq_false_iff_ne.2 Zaa,bu,show(W.kind==17)=false from beq_eq_false_iff_ne.2 Zaa];unfold bV.J1;rw[bu,ae,E1,ζb,E3];rfl
 have aE:iV t W=some (bQ E 0,0):=by unfold iV gC;rw[e1,ζb,show((0:Int)==0)=true from rfl,br,q1,ζb];simp only;rw[show((0:Int)==0)=true from rfl,br,ζb,aD,ζb,E3,ζb,ζb];simp only;rw[show((0:Int)==0)=true from rfl,br,show idx E 0=some (bQ E 0)from pZ (i:=0) (by rw[E2.1];exact V)];rfl
 have⟨n,n1,n2,n3,n4⟩:=Ff (x:=o) Zaa;suffices key:∃(l:Sl X')(b pos:X'),l.l.length=L.length/\cE t W=cE.J1 x l b/\(bl (k==18) (some true) (some (k==20)):aY X')=some pos/\(∀e,Bk L (gS (if b then 18 else 20) l) e->(bQ E 0==pos)=bQ e 0)/\
  (∀P:So,(∀k∈P,k<L.length)->(b=true->∃k∈P,bQ l k=true)->(b=false->∀k∈P,bQ l k=true)->SI k (P.countP (bQ o):Nat) (P.length:Nat)=true)by
  have⟨l,b,pos,hl,hw,ab,X,an⟩:=key;have⟨e,g1,g2,g3⟩:=UU c K B D hx hl b;rw[hw,aE]
  cases O:bQ e 0 with
  |false=>rw[g2 O];simp only[ζb];rw[show((0:Int)==0)=true from rfl,br,ab,ζb,X e g1,O,bu];rfl|true=>have⟨w,w1,w2,w3,P,w4,w5,w6,w7⟩:=g3 O;rw[w1];simp only[ζb];rw[show((0:Int)==0)=true from rfl,br,ab,ζb,X e g1,O,br,br,WM d j c K B w2 w3,ζb,show(!true)=false from rfl,ζb,bu];exact Rs d hN j c K B D l1 M H I al Zaa Z ay o3 (λht i hi l hA=>by rw[o4 i (by rw[<-M,lp];exact hi)];exact ax ht i hi l hA) w2 w4 w5 (an P w5 w6 w7)
 have G:∀(b inv:X'),(bl (k==18) (some true) (some (k==21)):aY X')=some b->(bl (k==19) (some true) (some (k==21)):aY X')=some inv->cE t W=cE.J1 x (if inv then n else o) b:=λb inv i1 i2=>by unfold cE;rw[e1,ζb,show((0:Int)==0)=true from rfl,br,ak,ζb,br,q1,ζb];simp only;rw[show((0:Int)==0)=true from rfl,br,aa,ζb,ζb,show bV x p=some o from o1,ζb,o2,ζb,ae,i1,ζb,i2,ζb];cases inv with|true=>rw[br,n1,ζb,n2,ζb];rfl|false=>rw[bu];rfl
 have S:∀i,i<L.length->bQ n i= !bQ o i:=λi hi=>n4 i Zaa;rcases(show k=18\/k=19\/k=20\/k=21 by omega)with rfl|rfl|rfl|rfl;refine⟨o,true,true,o3,G true false rfl rfl,rfl,λe g=>?_,λP s y F=>?_⟩;rw[show bQ E 0=bQ e 0 from E2.ind B g (R:=λu v=>u=v) (λi hi h=>by show gS 18 o i _=gS 18 o i _;rw[map_congr_left h]) 0 V];simp;have⟨k,h4,D⟩:=y rfl;show decide _=true;have:0<P.countP (bQ o):=List.countP_pos_iff.2 ⟨k,h4,D⟩;exact decide_eq_true Zaa;refine⟨n,false,false,Zaa,G false true rfl rfl,rfl,λe g=>?_,λP s y F=>?_⟩;rw[show bQ E 0= !bQ e 0 from E2.ind B g (R:=λu v=>u= !v) (λi hi h=>by show gS 19 o i _= !gS 20 n i _;rw[map_congr_left h];simp only[gS,S i hi];generalize gU L i=w;rw[Bool.eq_iff_iff];simp) 0 V];simp;show(_==_)=true;have:P.countP (bQ o)=0:=List.countP_eq_zero.2 λk m=>by have:=F rfl k m;rw[S k (s k m)]at this;simpa using this
 simp[this];refine⟨o,false,true,o3,G false false rfl rfl,rfl,λe g=>?_,λP s y F=>?_⟩;rw[show bQ E 0=bQ e 0 from E2.ind B g (R:=λu v=>u=v) (λi hi h=>by show gS 20 o i _=gS 20 o i _;rw[map_congr_left h]) 0 V];simp;show(_==_)=true;have:P.countP (bQ o)=P.length:=List.countP_eq_length.2 λk m=>F rfl k m;simp[this];refine⟨n,true,false,Zaa,G true true rfl rfl,rfl,λe g=>?_,λP s y F=>?_⟩;rw[show bQ E 0= !bQ e 0 from E2.ind B g (R:=λu v=>u= !v) (λi hi h=>by show gS 21 o i _= !gS 18 n i _;rw[map_congr_left h];simp only[gS,S i hi];generalize gU L i=w;rw[Bool.eq_iff_iff];simp) 0 V];simp;show decide _=true;have⟨k,h4,D⟩:=y rfl;rw[S k (s k h4)]at D;have h6:P.countP (bQ o)≠P.length:=λh=>by rw[List.countP_eq_length.1 h k h4]at D;cases D
 have h7:P.countP (bQ o)<=P.length:=List.countP_le_length;exact decide_eq_true Zaa
end
end Go.VE
namespace Go.VE
theorem Bp{α:Type}[cm α]{x:α}:∀{l:aX α},x∈l->cm.wt x<=(l.map cm.wt).sum
 |y::l,h=>by simp only[map_cons,sum_cons];rcases mem_cons.1 h with rfl|h;omega;have:=Bp h;omega
theorem xX{α:Type}[cm α](h:∀x:α,1<=cm.wt x):∀(l:aX α),l.length<=(l.map cm.wt).sum
 |[]=>le_refl _|y::l=>by simp only[map_cons,sum_cons,List.length_cons];have:=xX h l;have:=h y;omega
theorem Cm{α:Type}[cm α](s:Sl α):cm.wt s=(s.l.map cm.wt).sum+1:=rfl
theorem CB(p:Int):∀(es:aX W5)(j:Int),(lu p j es).length=es.length
 |[],_=>rfl|_::es,j=>by simp only[lu,List.length_cons,CB p es]
theorem IU:∀(ps:aX bP)(i:Int),(gT i ps).length<=(ps.map cm.wt).sum
 |[],_=>le_refl _|p::ps,i=>by simp only[gT,ζi,CB,map_cons,sum_cons];have a:=IU ps (i+1);have u:=xX (α:=W5) (λx=>le_add_left ..) p.events.l;have w:cm.wt p=cm.wt p.name+cm.wt p.vars+cm.wt p.events+1:=rfl;have z:=Cm p.events;omega
theorem TB{t:Z4}(h:cm.wt t<=1048576):Small t/\(bO t).length<1073741824:=by have B:cm.wt t=cm.wt t.procs+1:=rfl;have b:=Cm t.procs;have C:=xX (α:=bP) (λx=>le_add_left ..) t.procs.l;have D:=IU t.procs.l 0;refine⟨⟨Zaa,λp u=>?_⟩,by show(gT 0 t.procs.l).length<_;omega⟩;have G:=Bp u;have I:cm.wt p=cm.wt p.name+cm.wt p.vars+cm.wt p.events+1:=rfl;have J:=Cm p.events;have L:=Cm p.vars;have O:=xX (α:=W5) (λx=>le_add_left ..) p.events.l;have Q:=xX (α:=Var) (λx=>le_add_left ..) p.vars.l;have w:cm.wt p.name=p.name.size+1:=rfl;refine⟨Zaa,Zaa,Zaa,λv a=>?_,λe z=>?_⟩;have k1:=Bp a;have k2:cm.wt v=cm.wt v.name+cm.wt v.init_+1:=rfl;have k3:cm.wt v.name=v.name.size+1:=rfl;omega;have k1:=Bp z;have k2:cm.wt e=cm.wt e.kind+cm.wt e.peer+cm.wt e.message+cm.wt e.time+cm.wt e.assign+1:=rfl;have k3:=Cm e.assign;have k4:=xX (α:=Assign) (λx=>le_add_left ..) e.assign.l;omega
theorem YN(p:UV):cm.wt p<=1048576->p.Sm:=by induction p using Pred.ind with|h p z=>intro h;have u:∃m,cm.wt p=m+Pred.TT p.l+1:=(by cases p;exact⟨_,rfl⟩);have⟨m,u⟩:=u;have a:=Pred.ZN p.l;have B:=Cm p.l;have C:=xX (α:=UV) (λx=>by cases x;exact le_add_left ..) p.l.l;unfold Pred.Sm;rw[p.lX,ζh,all_eq_true];refine⟨decide_eq_true Zaa,λq w=>z q w ?_⟩;have:=Bp w;omega
end Go.VE
namespace Go.Proofs.YtjlclfccbcbibaaGreatDoor
open Go.ChangeShapes Go.WideShapes Go.ChangeAt Go.RowKit Go.VE
theorem own:ownKnob Tryz.prog.godebug=none:=by kernel_rfl
theorem kids:Kids Tryz.prog (·<Tryz.prog.types.size):=kids_rows Zag Zag
theorem full:∀t e,t<Tryz.prog.types.size->Tryz.prog.underlying t=some (.slice e)->0<Tryz.prog.cellsOf e:=slices_full_of Tryz.prog Zag
theorem zK{H:Type}:∀l:aX (DataW H),Rows.uptoBulkAll l=(l.map Rows.uptoBulk).sum
 |[]=>by simp[Rows.uptoBulkAll]|d::r=>by simp[Rows.uptoBulkAll,zK r]
theorem JW{H:Type}:uk (H:=H) Rows.uptoBulk where
 lit l:=by cases l<;>simp[Rows.uptoBulk]
 str s:=by simp[Rows.uptoBulk]
 nil:=by simp[Rows.uptoBulk]
 slice es u:=by rw[Rows.uptoBulk,zK,zK];omega
 agg ps:=by rw[Rows.uptoBulk,zK];exact le_refl _
theorem NY:Tryz.prog.globalNamed "antecede/predtype.parts" =some 0:=by kernel_rfl
theorem RS:(Tryz.prog.globals[0]?).map (·.type)=some 171:=by kernel_rfl
theorem table{W:World}(h:laidMetH Tryz.prog Rows.temporalShowsUptoRow.laid W):Lib.TabIs Tryz.prog W "antecede/predtype.parts" .i64 D7:=Lib.tabIs_of_head (rest:=[]) NY RS Tryz.underlying171 Tryz.underlying3 Zag Zag h
theorem Y4{W:World}(h:laidMetH Tryz.prog Rows.temporalShowsUptoRow.laid W):vE (snap W):=λg cs a=>by
 change(if Nat.beq g 0 then some (D7.map (V.int .i64))else none)=some cs at a;split at a;next u=>cases a;have:g=0:=Nat.eq_of_beq_eq_true u;subst this;exact Tu (λi hi=>(table h).cell NY i hi) (by decide)
 cases a
set_option maxRecDepth 100000 in
theorem K3(H:Type)(enc:W'×WP->H)(W:World)(base:Nat)(args:Array WP)(ds a:aX (DataW H))(before:aX MemPlace)
 (B:∀(j:Nat)t v,Tryz.f3.params[j]?=some t->args[j]?=some v->Value.okWide Tryz.prog W .any base t v)
 (D:DataW.Whole enc Tryz.prog Tryz.f3.params.toList Rows.temporalShowsSpec.vars false W args.toList ds a before)(b:Rows.uptoSmall H (ds++a)=true)(T:laidMetH Tryz.prog Rows.temporalShowsUptoRow.laid W):
 Calls Tryz.prog 3 args W λe G=>∃v,e=.returned v/\Rows.temporalShowsSpec.post enc Tryz.prog Tryz.f3 false true false false W args v G:=by
 have u:=D;obtain⟨p,q,z,c,rfl,S,U⟩:=D;have I:DataW.TrodAll enc Tryz.prog W 0 (λ_=>true) true Tryz.f3.params.toList args.toList ds p:=z
 rw[Tryz.params3]at I B;obtain⟨J,X,Y,Z,R,q0,C,rfl,rfl,d,g⟩:=trodAll_cons I;obtain⟨L,aa,h,ab,p1,q1,rfl,rfl,rfl,i,r1⟩:=trodAll_cons g;obtain⟨O,ad,k,ae,p2,q2,rfl,rfl,rfl,l,r2⟩:=trodAll_cons r1;obtain⟨rfl,rfl,rfl⟩:=trodAll_nil r2;obtain rfl:args=#[J,L,O]:=by cases args;simp_all
 obtain⟨rfl,rfl⟩:=trodVars_none c;have⟨a0,m,k0,n⟩:=Reads.Om (t:=24) (α:=VE.Trace) B 0 rfl rfl d;have⟨a1,o,k1,s⟩:=Reads.Om (t:=5) (α:=U8) B 1 rfl rfl i;have⟨a2,x,k2,y⟩:=Reads.Om (t:=27) (α:=VE.Pred) B 2 rfl rfl l;have hb:cm.wt a0+cm.wt a1+cm.wt a2<=1048576:=by have c0:=n Rows.uptoBulk JW;have c1:=s Rows.uptoBulk JW;have c2:=y Rows.uptoBulk JW;have Q:Rows.uptoBulkAll ([Y,h,k]++[])<=1048576:=of_decide_eq_true b;rw[zK]at Q;simp only[List.append_nil,map_cons,map_nil,sum_cons,List.sum_nil]at Q;omega
 have⟨A,E⟩:=TB (t:=a0) Zaa
 have F:kf cL 3 [VE.enc a0,.int .u8 a1.v,VE.enc a2]=some [.bool true]:=by have K:(dW a0 a1.v a2).bind (λr:X'=>some [V.bool r])=some [.bool true]:=(by rw[PJ A E k1 (YN a2 Zaa)];rfl);exact(yU a0 a1.v a2).F.h () _ K
 have:=NH (P:=Tryz.prog) MM FE calls (f:=3) (xs:=[VE.enc a0,.int .u8 a1.v,VE.enc a2]) (by simp[V.cQ,V.good,jM]) F (w:=W) (args:=#[J,L,O]) (Y4 T) (cR.cons m (cR.cons o (cR.cons x .nil)))
 refine this.mono λe G⟨M,N⟩=>?_
 subst M;exact⟨_,rfl,Pw kids full (by rw[Tryz.params3];decide) rfl rfl rfl Tryz.underlying4 u N⟩
def BN(os:Os):World:=
 {World.holding Tryz.prog os ⟨#[],#[],[]⟩with heap:=(World.holding Tryz.prog os ⟨#[],#[],[]⟩).heap.modify 0 fun
  |.cells _ t frozen=>.cells (D7.map (Value.int .i64)).toArray t frozen|o=>o}
theorem RR(os:Os):laidMet Tryz.prog Rows.temporalShowsUptoRow.laid ((BN os).forCall (λ_ _=>0) ⟨#[],#[.agg #[.slice none 0 0],.int .u8 0,.agg #[.int .i64 0,.int .i64 0,.int .i64 0,.int .i64 0,.string ByteArray.empty,.slice none 0 0]],[]⟩).memory:=laidMet_of_run' 8 Zag Zag
theorem Q_(os:Os){H:Type}(enc:W'×WP->H):∃places,DataW.whole enc Tryz.prog ((BN os).forCall (λ_ _=>0) ⟨#[],#[.agg #[.slice none 0 0],.int .u8 0,.agg #[.int .i64 0,.int .i64 0,.int .i64 0,.int .i64 0,.string ByteArray.empty,.slice none 0 0]],[]⟩).memory Tryz.f3.params.toList Rows.temporalShowsSpec.vars false (#[.agg #[.slice none 0 0],.int .u8 0,.agg #[.int .i64 0,.int .i64 0,.int .i64 0,.int .i64 0,.string ByteArray.empty,.slice none 0 0]]:Array WP).toList 8=some ([.agg [.nil],.lit (.int .u8 0),.agg [.lit (.int .i64 0),.lit (.int .i64 0),.lit (.int .i64 0),.lit (.int .i64 0),.lit (.string []),.nil]],[],places):=⟨[],by kernel_rfl⟩
set_option maxRecDepth 100000 in
theorem PV(os:Os)(B:os.Started)(H:Type)(enc:W'×WP->H)(F:Stop.Interp):
 ReturnsInHanded {} Tryz.checked os 3 .any ((Rows.OpenSpec.upto Rows.temporalShowsSpec).preRow enc Tryz.prog Tryz.f3 Rows.temporalShowsUptoRow.domain false Rows.temporalShowsUptoRow.laid) (((Rows.OpenSpec.upto Rows.temporalShowsSpec).at F).post enc Tryz.prog Tryz.f3 false true false false):=by
 have⟨places,z⟩:=Q_ os enc;refine returnsInHanded_of_row (C:=Tryz.checked) (s:=Rows.OpenSpec.upto Rows.temporalShowsSpec) own B Zag Tryz.func3
  (witness_row_at (enc:=enc) (C:=Tryz.checked) false (BN os) #[.agg #[.slice none 0 0],.int .u8 0,.agg #[.int .i64 0,.int .i64 0,.int .i64 0,.int .i64 0,.string ByteArray.empty,.slice none 0 0]] rfl Zag Zag Zag
   (OpenSpec.preRow_of_cond 8 z Zag (λk a=>by cases a;kernel_rfl) Zag (RR os))) ?_
 intro W base args ds b before w D _ u _ G _ _;exact K3 H enc W base args ds b before w D (u _ rfl) G
theorem Wh:Rows.TemporalShowsUptoSaid:=
 OpenClaim.holds_of_cond 3 Tryz.f3 rfl rfl rfl rfl rfl rfl rfl ⟨rfl,rfl,rfl,rfl,rfl⟩ rfl rfl rfl rfl rfl Zag Tryz.func3 Zag
  (of_decide_eq_true Zag) (by unfold Func.isWrapper;first|(rw[if_pos (by decide+kernel)];kernel_rfl)|(rw[if_neg (by decide+kernel)];exact⟨rfl,rfl⟩))
  (λos u H enc _ F=>by rw[OpenClaim.pre_eq_preRow];exact PV os u H enc F)
theorem SA(f:Y')(fn:Func)(D:Tryz.pinned.checked.prog.funcNamed "antecede/antecedelaw41.TemporalShows" =some f)(B:Tryz.pinned.checked.prog.funcs[f]?=some fn):
 false=Tryz.pinned.checked.prog.looks []/\∀(j:Nat)t,fn.params[j]?=some t->Tryz.pinned.checked.prog.wantsStandIn t=false:=by
 obtain rfl:f=3:=Option.some.inj ((show Tryz.prog.funcNamed "antecede/antecedelaw41.TemporalShows" =some 3 by kernel_rfl).symm.trans D)|>.symm
 obtain rfl:fn=Tryz.f3:=(Option.some.inj (Tryz.func3.symm.trans B)).symm;refine⟨by kernel_rfl,λj t z=>?_⟩
 rw[Tryz.params3]at z;have C:t∈[24,5,27]:=by simpa using Array.mem_of_getElem? z
 have w:([24,5,27].all λu=> !Tryz.prog.wantsStandIn u)=true:=by kernel_rfl
 exact(show Tryz.prog.wantsStandIn t=false by simpa using all_eq_true.1 w t C)
theorem temporalShowsProved:Rows.TemporalShowsUptoCardSaid:=Claim7.holds_tied_plain_at .later [] _ _ _ _ Wh (λ_ h=>by cases h) Zag (λ_ h=>by cases h) temporalShowsUpto_row_tie rfl ⟨rfl,rfl⟩ Zag rfl SA Zag
#print axioms temporalShowsProved
end Go.Proofs.YtjlclfccbcbibaaGreatDoor
