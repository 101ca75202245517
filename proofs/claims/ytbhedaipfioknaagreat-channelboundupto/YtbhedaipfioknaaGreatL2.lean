/-
 ChannelBound says true for all arguments that together are of bulk at most 1048576, and they read behind the call as they read before: for every such argument, without a condition.
-/
import Derived.Test.YtbhedaipfioknaaGreatRows
import Derived.Test.YtbhedaipfioknaaGreatK1
import Derived.Test.YtbhedaipfioknaaGreatL1
set_option linter.all false
open List(getElem?_replicate getElem?_set map_cons mem_iff_getElem? replicate sum_cons)
open Nat(le_add_left le_refl mod_lt)
open Go.IntKind(wrap)
namespace Go.VE
theorem Zi{p:Prop}(h:p:=by kernel_rfl):p:=h
theorem zV(f:Zn->Zl)(l:aZ Zn){i:Nat}{k a:Int}(c:0<=a)(b:(jO f 0 l)[i]?=some k):k<=a↔i<(l.take a.toNat).countP f:=by rw[S5 (vn _ _ 0) b];have:=tK f l 0 a.toNat;rw[show(0:Int)+(a.toNat:Nat)=a from Za]at this;rw[this]
theorem Dm(f:Zn->Zl)(l:aZ Zn){a:Int}(c:0<=a):(jO f 0 l).countP (λb=>decide (b<=a))=(l.take a.toNat).countP f:=by have:=tK f l 0 a.toNat;rwa [show(0:Int)+(a.toNat:Nat)=a from Za]at this
theorem wE(f:Zn->Zl)(l:aZ Zn){a:Int}(b:0<=a):(l.take a.toNat).countP f<=(jO f 0 l).length:=by rw[<-Dm f l b];exact List.countP_le_length
theorem xP(f:Zn->Zl)(l:aZ Zn){a b:Nat}(h:a<=b):(l.take a).countP f<=(l.take b).countP f:=by
 have:l.take a=(l.take b).take a:=by rw[List.take_take,Nat.min_eq_left h]
 rw[this];exact(List.take_sublist _ _).countP_le
section
variable{t:Zj}{A:cu 200 bC}
theorem oN{c:Zy}{p q:Nat}{P Q:cq}{a b:Int}(B:t.procs.l[p]?=some P)(D:t.procs.l[q]?=some Q)(G:c[p]?=some a)(J:c[q]?=some b):
 under t c p q=((P.events.l.take a.toNat).countP (dP q):Int)-((Q.events.l.take b.toNat).countP (dQ p):Int):=by
 unfold under;rw[B,D,G,J]
def UB(t:Zj)(A:cu 200 bC)(p q n:Nat)(c:Zy):Prop:=Cons t A c/\under t c p q<=n
theorem UB.join{p q n:Nat}(g:p<t.procs.l.length)(f:q<t.procs.l.length){u v w:Zy}(c:UB t A p q n u)(d:UB t A p q n v)(G:qE u_ u v w):UB t A p q n w:=by have I:=ζd g;have J:=ζd f;have Y:u.length=v.length:=c.1.1.1.trans d.1.1.1.symm;have S:=join_cons c.1 d.1 G;obtain⟨Z,h,-⟩:=G.le_max Y;have⟨a,T⟩:=c.1.1.at_ g;have⟨b,U⟩:=c.1.1.at_ f;have⟨W,C⟩:=d.1.1.at_ g;have⟨X,D⟩:=d.1.1.at_ f;have⟨z,B⟩:=S.1.at_ f;have L:=G.2 p a W T C;have e1:=Z.2 q b z U B;have e2:=h.2 q X z D B;have O:=c.2;have Q:=d.2;rw[oN I J T U]at O;rw[oN I J C D]at Q;refine⟨S,?_⟩;rw[oN I J L B];have m1:=xP (dQ p) t.procs.l[q].events.l (show b.toNat<=z.toNat by omega);have i:=xP (dQ p) t.procs.l[q].events.l (show X.toNat<=z.toNat by omega);rcases q9 a W with⟨e,-⟩|⟨e,-⟩<;>rw[e]<;>omega
structure J_(t:Trace)(p q:Nat)(w:bL):Prop where
 hp:p<t.procs.l.length
 hq:q<t.procs.l.length
 e1:w.p=p
 e2:w.q=q
 e3:w.sent.l=jO (dP q) 0 t.procs.l[p].events.l
 e4:w.received.l=jO (dQ p) 0 t.procs.l[q].events.l
theorem S6{c d:Zy}(h:gN c d){q:Nat}{x y:Int}(D:d[q]?=some y)(B:x<=y):gN (c.set q x) d:=λj a b t u=>by rw[getElem?_set]at t;split at t;rename_i e;subst e;split at t;cases t;rw[D]at u;cases u;exact B;cases t;exact h j a b t u
theorem SE{c d:Zy}(h:gN d c){q:Nat}{x y:Int}(D:d[q]?=some y)(B:y<=x):gN d (c.set q x):=λj a b u t=>by rw[getElem?_set]at t;split at t;rename_i e;subst e;split at t;cases t;rw[D]at u;cases u;exact B;cases t;exact h j a b u t
theorem MO(M:Small t)(hv:cA t=some true)(Y:VT t)(hM:eT t (bO t) A){p q n:Nat}(ai:p≠q)(hn:n<=200){w:bL}(hw:J_ t p q w){c:Zg}(hR:jS t c.l):
 Wp (e9 w t c n) λr=>(r.1=.nil/\∀u,UB t A p q n u->¬gN c.l u)\/(UB t A p q n r.1.l/\gN c.l r.1.l/\∀u,UB t A p q n u->gN c.l u->gN r.1.l u):=by
 have⟨l,o,e1,e2,e3,e4⟩:=hw;have E:=ζd l;have Z:=ζd o;have h8:=Y.few;have aj:=o8 Y E;have ak:=o8 Y Z;have s1:=pE (dP q) t.procs.l[p].events.l 0;have s2:=pE (dQ p) t.procs.l[q].events.l 0;unfold e9 e9.W1;refine ei (λs:Zg×Zl=>jS t s.1.l/\gN c.l s.1.l/\(∀u,UB t A p q n u->gN c.l u->gN s.1.l u)/\(s.2=false->UB t A p q n s.1.l)) (λs=>2*((kM t:Int)-s.1.l.sum).toNat+(if s.2 then 1 else 0))
  ⟨hR,λj a b G I=>by rw[G]at I;cases I;exact Int.le_refl _,λu _ h=>h,λh=>by cases h⟩ ?_
 rintro⟨s,ch⟩ ⟨i1,i2,i3,i4⟩;simp only at i1 i2 i3 i4;unfold e9.bt;dsimp only
 cases ch with
 |false=>rw[bX,bg];exact(bg _).2 (.inr ⟨i4 rfl,i2,i3⟩)|true=>
  obtain⟨⟨x,e⟩,hx,rfl,D,x2,N,x4⟩:=Mn M hv Y hM i1;simp only at D x2 N x4;have aa:(tv t s).bind mU=some (x,0):=by rw[hx,ζb];unfold mU;rw[x4];rfl
  rw[bS,aa,ζb];simp only;have ab:∀a∈x.l,0<=a:=λa G=>by have⟨j,hj⟩:=mem_iff_getElem?.1 G;exact D.1.pos j a hj
  rw[Mq M l o D.1.1 ab e1 e2 e3 e4,ζb];have⟨a,G⟩:=D.1.at_ l;have⟨b,I⟩:=D.1.at_ o;have ad:=(ζe.1 G).1;have T:=(ζe.1 I).1;have a0:=D.1.pos p a G;have P:=D.1.pos q b I;have al:=oN E Z G I;have g:∀u,UB t A p q n u->gN c.l u->gN x.l u:=λu f C=>N u f.1 (i3 u f C)
  have F:gN c.l x.l:=λj y z L O=>by have⟨m,H⟩:=i1.at_ (show j<t.procs.l.length by have:=(ζe.1 O).1;rw[<-D.1.1];exact this);have:=i2 j y m L H;have:=x2 j m z H O;omega
  have am:=i1.sum;have an:=D.1.sum;have ao:s.l.sum<=x.l.sum:=(C_ ⟨i1.1.trans D.1.1.symm,x2⟩).1
  by_cases U:under t x.l p q>n
  .rw[decide_eq_true U,bS,e1,rO ad,ζb];unfold Sl.get;have up:=Af (s:=w.sent) (by rw[e3];exact vn _ _ _) (by rw[e3];omega) a
   rw[e3,Dm _ _ a0]at up;rw[G,ζb,up,ζb];have ca:=wE (dP q) t.procs.l[p].events.l a0;have cb:=wE (dQ p) t.procs.l[q].events.l P;generalize ap:(t.procs.l[p].events.l.take a.toNat).countP (dP q)=S at *;generalize ae:(t.procs.l[q].events.l.take b.toNat).countP (dQ p)=rn at *;rw[gU ((Int.ofNat S)-n) (by simp only[Int.ofNat_eq_natCast];omega) (by simp only[Int.ofNat_eq_natCast];omega)]
   have W:len w.received=((jO (dQ p) 0 t.procs.l[q].events.l).length:Int):=by simp only[len,e4]
   have J:∀u,UB t A p q n u->gN c.l u->∃y,u[q]?=some y/\0<=y/\S<=(t.procs.l[q].events.l.take y.toNat).countP (dQ p)+n:=λu f C=>by have⟨a',X⟩:=f.1.1.at_ l;have⟨R,Q⟩:=f.1.1.at_ o;have h1:=f.2;rw[oN E Z X Q]at h1;have:=g u f C p a a' G X;have m1:=xP (dP q) t.procs.l[p].events.l (show a.toNat<=a'.toNat by omega);exact⟨R,Q,f.1.1.pos q R Q,Za⟩
   by_cases B:(Int.ofNat S)-n>len w.received
   .rw[decide_eq_true B,bS,bg];refine(bg _).2 (.inl ⟨rfl,λu f C=>?_⟩)
    have⟨y,L,K,af⟩:=J u f C;have:=wE (dQ p) t.procs.l[q].events.l K;rw[W]at B;simp only[Int.ofNat_eq_natCast]at B;omega
   rw[decide_eq_false B,bX];rw[W]at B;simp only[Int.ofNat_eq_natCast]at B⊢;obtain⟨m,H⟩:∃m:Nat,m+n+1=S:=⟨S-n-1,Za⟩
   have ah:m<(jO (dQ p) 0 t.procs.l[q].events.l).length:=Za
   have i:=ζd ah;generalize aq:(jO (dQ p) 0 t.procs.l[q].events.l)[m]=k at i;rw[show wrap .i64 ((S:Int)-n-1)=(m:Int)from by rw[gU _ Za Za];omega,mK,e4,i,ζb,e2,rO T,ζb]
   have⟨d,d1,v⟩:=put_eq (s:=x) (p:=q) (x:=k) T;have ar:b<k:=by have V:=not_congr (zV (dQ p) t.procs.l[q].events.l P i);rw[ae]at V;have:=V.2 Za;omega
   have k1:=GV _ _ _ _ (List.mem_of_getElem? i);have hd:=D.1.set Z (b:=k) Za Za
   rw[d1,ζb,bg];refine⟨⟨by show jS t d.l;rw[v];exact hd,?_,?_,λh=>by cases h⟩,?_⟩
   .show gN c.l d.l;rw[v];intro j y z L O;rw[getElem?_set]at O;split at O
    next e=>subst e;cases O;have:=F q y b L I;omega
    exact F j y z L O
   .intro u f C;show gN d.l u;have⟨y,L,K,af⟩:=J u f C;rw[v];exact S6 (g u f C) L ((zV (dQ p) t.procs.l[q].events.l K i).2 Za)
   show 2*((kM t:Int)-d.l.sum).toNat+1<2*((kM t:Int)-s.l.sum).toNat+1;have h3:=hd.sum;rw[kE I]at h3;rw[v,kE I];omega
  rw[decide_eq_false U,bX,bg];refine⟨⟨D.1,F,g,λ_=>⟨D,by show under t x.l p q<=n;omega⟩⟩,?_⟩
  show 2*((kM t:Int)-x.l.sum).toNat+0<2*((kM t:Int)-s.l.sum).toNat+1;omega
theorem No(H:Small t)(R:cA t=some true)(U:VT t)(V:eT t (bO t) A){p q n:Nat}(ab:p≠q)(hn:n<=200){w:bL}(hw:J_ t p q w){c:Zg}(hR:jS t c.l):
 Wp (eN w t c n) λr=>UB t A p q n r.l/\gN r.l c.l/\∀u,UB t A p q n u->gN u c.l->gN u r.l:=by
 have⟨l,o,e1,e2,e3,e4⟩:=hw;have S:=ζd l;have W:=ζd o;have h8:=U.few;have ad:=o8 U S;have ae:=o8 U W;have s1:=pE (dP q) t.procs.l[p].events.l 0;have s2:=pE (dQ p) t.procs.l[q].events.l 0;unfold eN eN.W1;refine ei (λs:Zg×Zl=>jS t s.1.l/\gN s.1.l c.l/\(∀u,UB t A p q n u->gN u c.l->gN u s.1.l)/\(s.2=false->UB t A p q n s.1.l)) (λs=>2*s.1.l.sum.toNat+(if s.2 then 1 else 0))
  ⟨hR,λj a b C G=>by rw[C]at G;cases G;exact Int.le_refl _,λu _ h=>h,λh=>by cases h⟩ ?_
 rintro⟨s,ch⟩ ⟨i1,i2,i3,i4⟩;simp only at i1 i2 i3 i4;unfold eN.bt;dsimp only
 cases ch with
 |false=>rw[bX,bg];exact(bg _).2 ⟨i4 rfl,i2,i3⟩|true=>
  obtain⟨⟨x,e⟩,hx,rfl,B,x2,K,x4⟩:=Ql H R U V i1;simp only at B x2 K x4;have X:(vh t s).bind mU=some (x,0):=by rw[hx,ζb];unfold mU;rw[x4];rfl
  rw[bS,X,ζb];simp only;have Y:∀a∈x.l,0<=a:=λa C=>by have⟨j,hj⟩:=mem_iff_getElem?.1 C;exact B.1.pos j a hj
  rw[Mq H l o B.1.1 Y e1 e2 e3 e4,ζb];have⟨a,C⟩:=B.1.at_ l;have⟨b,G⟩:=B.1.at_ o;have O:=(ζe.1 C).1;have Z:=(ζe.1 G).1;have a0:=B.1.pos p a C;have M:=B.1.pos q b G;have af:=oN S W C G;have g:∀u,UB t A p q n u->gN u c.l->gN u x.l:=λu f D=>K u f.1 (i3 u f D)
  have E:gN x.l c.l:=λj y z I T=>by have⟨m,N⟩:=i1.at_ (show j<t.procs.l.length by have:=(ζe.1 I).1;rw[<-B.1.1];exact this);have:=i2 j m z N T;have:=x2 j y m I N;omega
  have ah:=i1.sum;have ai:=B.1.sum;have aj:x.l.sum<=s.l.sum:=(C_ ⟨B.1.1.trans i1.1.symm,x2⟩).1
  by_cases Q:under t x.l p q>n
  .rw[decide_eq_true Q,bS,e2,rO Z,ζb];unfold Sl.get;have up:=Af (s:=w.received) (by rw[e4];exact vn _ _ _) (by rw[e4];omega) b
   rw[e4,Dm _ _ M]at up;rw[G,ζb,up,ζb];have ca:=wE (dP q) t.procs.l[p].events.l a0;have cb:=wE (dQ p) t.procs.l[q].events.l M;generalize ak:(t.procs.l[p].events.l.take a.toNat).countP (dP q)=sn at *;generalize al:(t.procs.l[q].events.l.take b.toNat).countP (dQ p)=rn at *;have aa:rn+n<(jO (dP q) 0 t.procs.l[p].events.l).length:=Za
   have i:=ζd aa;generalize am:(jO (dP q) 0 t.procs.l[p].events.l)[rn+n]=k at i;rw[show wrap .i64 ((Int.ofNat rn)+n)=((rn+n:Nat):Int)from by simp only[Int.ofNat_eq_natCast];rw[gU _ Za Za];omega,mK,e3,i,ζb,e1,rO O,ζb]
   have an:k<=a:=(zV (dP q) t.procs.l[p].events.l a0 i).2 Za
   have k0:=zb _ _ _ _ (List.mem_of_getElem? i);have k1:=GV _ _ _ _ (List.mem_of_getElem? i);rw[gU (k-1) Za Za]
   have⟨d,d1,v⟩:=put_eq (s:=x) (p:=p) (x:=k-1) O;have P:=B.1.set S (b:=k-1) Za Za
   rw[d1,ζb,bg];refine⟨⟨by show jS t d.l;rw[v];exact P,?_,?_,λh=>by cases h⟩,?_⟩
   .show gN d.l c.l;rw[v];intro j y z I T;rw[getElem?_set]at I;split at I
    next e=>subst e;cases I;have:=E p a z C T;omega
    exact E j y z I T
   .intro u f D;show gN u d.l;have⟨a',J⟩:=f.1.1.at_ l;have⟨F,L⟩:=f.1.1.at_ o;have h1:=f.2;rw[oN S W J L]at h1;have:=g u f D q F b L G;have ao:=f.1.1.pos q F L;have m1:=xP (dQ p) t.procs.l[q].events.l (show F.toNat<=b.toNat by omega)
    rw[v];refine SE (g u f D) J ?_;have:=(not_congr (zV (dP q) t.procs.l[p].events.l (f.1.1.pos p a' J) i)).2 Za
    omega
   show 2*d.l.sum.toNat+1<2*s.l.sum.toNat+1;have h3:=P.sum;rw[kE C]at h3;rw[v,kE C];omega
  rw[decide_eq_false Q,bX,bg];refine⟨⟨B.1,E,g,λ_=>⟨B,by show under t x.l p q<=n;omega⟩⟩,?_⟩
  show 2*x.l.sum.toNat+0<2*s.l.sum.toNat+1;omega
end
end Go.VE
namespace Go.VE
section
variable{t:Zj}{A:cu 200 bC}
def RR(U:Zy->Prop)(p i:Nat)(l:Zy):Prop:=(l=[]/\∀u,U u->nth u p<=(i:Int))\/(U l/\(i:Int)<nth l p/\∀u,U u->(i:Int)<nth u p->gQ l u)
theorem Oc{t:Zj}{u:Zy}(d:u.length=t.procs.l.length)(B:∀(j:Nat)a,u[j]?=some a->0<=a){p:Nat}(c:p<t.procs.l.length){k:Int}:
 gN ((replicate t.procs.l.length 0).set p k) u↔k<=nth u p:=by
 have z:p<u.length:=Za
 rw[qg z];constructor
 .intro h;exact h p k _ (by rw[getElem?_set];simp[c]) (ζd z)
 intro h j a b w C;rw[getElem?_set]at w;split at w
 .rename_i e;subst e;split at w
  .cases w;rw[ζd z]at C;cases C;exact h
  cases w
 rw[getElem?_replicate]at w;split at w
 .cases w;exact B j b C
 cases w
theorem Pk{α:Type}{n:Nat}(z:α)(h:n<=2147483648):nG (n:Int) z=some (.row (replicate n z)):=by unfold nG;rw[if_pos ⟨Za,Za⟩];rfl
theorem J9{p q:Nat}(a:p<t.procs.l.length)(b:q<t.procs.l.length):under t (replicate t.procs.l.length 0) p q=0:=by rw[oN (ζd a) (ζd b) (show(replicate t.procs.l.length (0:Int))[p]?=some 0 by rw[getElem?_replicate,if_pos a]) (show(replicate t.procs.l.length (0:Int))[q]?=some 0 by rw[getElem?_replicate,if_pos b])];simp
theorem D9(N:Small t)(R:cA t=some true)(F:VT t)(hM:eT t (bO t) A){p q n:Nat}(H:p<t.procs.l.length)(K:q<t.procs.l.length)(O:p≠q)(hn:n<=200):
 Wp (dz t p q n) λr=>r.2=0/\vu t A (UB t A p q n) r.1:=by
 have h8:=F.few;have hU:∀u,UB t A p q n u->Cons t A u:=λu d=>d.1
 unfold dz;rw[N2 R H K O,ζb,show((0:Int)==0)=true from rfl,bS,show decide ((n:Int)<0)=false from decide_eq_false Za,bX,show decide ((n:Int)>200)=false from decide_eq_false Za,ζb,bX,cR]
 refine(QZ N H K).mono λw⟨w1,w2,w3,w4⟩=>?_
 have hw:J_ t p q w:=⟨H,K,w1,w2,w3,w4⟩;have hz:nG (len t.procs) (0:Int)=some (.row (replicate t.procs.l.length 0)):=Pk 0 Za
 rw[hz,ζb,ζb];unfold dz.W1;refine iA t.procs.l.length (λi(s:Zg×Int×Slice×Slice)=>s.2.1=(i:Int)/\s.1.l.length=t.procs.l.length/\(∀j:Nat,j<i->s.1.l[j]?=some (kK t j:Int))/\s.2.2.2.empty=false/\s.2.2.2.first=.row (replicate t.procs.l.length 0))
  ⟨rfl,by simp[Sl.l],λj h=>absurd h Za,rfl,rfl⟩ ?_ ?_
 .rintro i ⟨f,_,U,G⟩ B ⟨rfl,o,l,v,W⟩;simp only at o l v W;unfold dz.bt;dsimp only;have⟨f',g1,g2⟩:=put_eq (s:=f) (p:=i) (x:=(len t.procs.l[i].events:Int)) Za
  rw[kq B,bS,bM B,ζb,rO Za,ζb,g1,ζb,bg]
  refine⟨cT i Za,by show f'.l.length=_;rw[g2,List.length_set];exact o,λj z=>?_,v,W⟩
  show f'.l[j]?=_;rw[g2,getElem?_set]
  by_cases e:i=j
  .subst e;rw[if_pos rfl,if_pos Za,qc B]
  rw[if_neg e];exact l j Za
 rintro⟨f,_,U,G⟩ ⟨rfl,o,l,v,W⟩;simp only at o l v W;unfold dz.bt;dsimp only;rw[kO,bX,bg];show Wp ((eN w t f n).bind _) _;rw[cR];have V:jS t f.l:=⟨o,λj a P D hP=>by
  have z:=(ζe.1 hP).1;rw[l j z]at D;cases D;rw[qc z,(ζe.1 hP).2];omega⟩
 have L:∀u,UB t A p q n u->gN u f.l:=λu d j a b D M=>by have z:j<t.procs.l.length:=(by have:=(ζe.1 D).1;rw[<-d.1.1.1];exact this);have:=d.1.1.2 j a _ D (ζd z);rw[l j z]at M;cases M;rw[qc z];exact this.2
 refine(No N R F hM O hn hw V).mono λm⟨m1,m2,m3⟩=>?_
 have X:∀u,UB t A p q n u->gQ u m.l:=λu d=>⟨d.1.1.1.trans m1.1.1.1.symm,m3 u d (L u d)⟩
 dsimp only;unfold dz.W2;refine iA t.procs.l.length (λi(s:Int×Slice×Slice)=>s.1=(i:Int)/\s.2.2.empty=false/\s.2.2.first=.row (replicate t.procs.l.length 0)/\s.2.2.last=m/\s.2.2.j.l.length=i/\∀(j:Nat)r,j<i->s.2.2.j.l[j]?=some r->r.l.length=kK t j/\∀(k:Nat)c,r.l[k]?=some c->RR (UB t A p q n) j k c.l)
  ⟨rfl,v,W,rfl,rfl,λj r z=>absurd z Za⟩ ?_ ?_
 .rintro i ⟨_,U,G⟩ B ⟨rfl,g1,g2,g3,g4,g5⟩;simp only at g1 g2 g3 g4 g5;have Q:=o8 F (ζd B);unfold dz.cn;dsimp only;rw[kq B,bS,bM B,ζb,show nG (len t.procs.l[i].events) (Sl.nil:Zg)=some (.row (replicate t.procs.l[i].events.l.length .nil))from Pk _ Za,ζb]
  unfold dz.W3;have Y:(Sl.row (replicate t.procs.l[i].events.l.length (Sl.nil:Zg))).l.length=t.procs.l[i].events.l.length:=by simp[Sl.l]
  refine iA (Sl.row (replicate t.procs.l[i].events.l.length (Sl.nil:Zg))).l.length (λk(s:Zb×Int×Slice×Slice)=>s.2.1=(k:Int)/\s.1.l.length=t.procs.l[i].events.l.length/\s.2.2.2=G/\∀(I:Nat)c,I<k->s.1.l[I]?=some c->RR (UB t A p q n) i I c.l)
   ⟨rfl,Y,rfl,λI c h=>absurd h Za⟩ ?_ ?_
  .rintro k ⟨row,_,U,S⟩ hk ⟨rfl,r1,rs,r2⟩;simp only at r1 rs r2;subst rs;have af:k<t.procs.l[i].events.l.length:=by omega
   unfold dz.eH;dsimp only;have⟨x,x1,x2⟩:=put_eq (s:=Sl.row (replicate t.procs.l.length (0:Int))) (p:=i) (x:=((k+1:Nat):Int)) (by simpa[Sl.l]using B)
   have x2:x.l=(replicate t.procs.l.length (0:Int)).set i ((k+1:Nat):Int):=x2;have V:jS t x.l:=by rw[x2];exact xR (A:=A).1.set (ζd B) Za Za
   rw[kq hk,bS,hz,ζb,rO (by simpa[Sl.l]using B),ζb,cT k Za,x1,ζb,cR]
   refine(MO N R F hM O hn hw V).mono λy hy=>?_
   have⟨J,y1,y2⟩:=put_eq (s:=row) (p:=k) (x:=y.1) Za
   rw[rO Za,ζb,y1,ζb,bg]
   refine⟨rfl,by show J.l.length=_;rw[y2,List.length_set];exact r1,rfl,λI c ah g=>?_⟩
   have g:J.l[I]?=some c:=g;rw[y2,getElem?_set]at g
   by_cases e:k=I
   .subst e;rw[if_pos rfl,if_pos Za]at g
    cases g;have T:∀u,UB t A p q n u->(gN x.l u↔(k:Int)<nth u i):=λu d=>by rw[x2,Oc d.1.1.1 (λj a D=>d.1.1.pos j a D) B];omega
    rcases hy with⟨E,h2⟩|⟨E,h2,h3⟩
    .refine .inl ⟨by rw[E];rfl,λu d=>?_⟩
     have:=h2 u d;rw[T u d]at this;omega
    exact .inr ⟨E,(T _ E).1 h2,λu d ab=>⟨E.1.1.1.trans d.1.1.1.symm,h3 u d ((T u d).2 ab)⟩⟩
   rw[if_neg e]at g;exact r2 I c Za g
  rintro⟨row,_,U,S⟩ ⟨rfl,r1,rs,r2⟩;simp only at r1 rs r2;subst rs;unfold dz.eH;dsimp only;rw[show decide (((Sl.row (replicate t.procs.l[i].events.l.length (Sl.nil:Zg))).l.length:Int)<len (Sl.row (replicate t.procs.l[i].events.l.length (Sl.nil:Zg))))=false from kO,bX,bg];have⟨j2,k1,k2⟩:=n9 (s:=S.j) (x:=row) Za
  show Wp ((gZ S.j row).bind _) _;rw[k1,ζb];refine(bg _).2 ⟨cT i Za,g1,g2,g3,by show j2.l.length=_;rw[k2];simp[g4],λj r z hr=>?_⟩
  have C:j2.l[j]?=some r:=hr;rw[k2]at C
  by_cases e:j<i
  .rw[List.getElem?_append_left Za]at C
   exact g5 j r e C
  obtain rfl:j=i:=Za
  rw[<-g4,List.getElem?_append_right (le_refl _)]at C;simp at C;subst C;exact⟨by rw[r1,qc B],λk c g=>r2 k c (by rw[Y,<-r1];exact(ζe.1 g).1) g⟩
 rintro⟨_,U,G⟩ ⟨rfl,g1,g2,g3,g4,g5⟩;simp only at g1 g2 g3 g4 g5;unfold dz.cn;dsimp only;rw[kO,bX,bg];have ad:UB t A p q n (replicate t.procs.l.length 0):=⟨xR,by rw[J9 H K];omega⟩
 have hf:G.first.l=replicate t.procs.l.length 0:=by rw[g2];rfl
 have Z:∀u,UB t A p q n u->gQ (replicate t.procs.l.length 0) u:=λu d=>⟨by rw[d.1.1.1];simp,λj a b D M=>by
  rw[getElem?_replicate]at D;split at D
  .cases D;exact d.1.1.pos j b M
  cases D⟩
 have ae:∀j,j<t.procs.l.length->∀i,i<kK t j->RR (UB t A p q n) j i (el G j i):=λj z i B=>by have aa:j<G.j.l.length:=Za;have⟨q1,q2⟩:=g5 j _ z (ζd aa);have Q:i<G.j.l[j].l.length:=Za;have he:el G j i=G.j.l[j].l[i].l:=(by unfold el;rw[ζd aa];dsimp only;rw[ζd Q]);rw[he];exact q2 i _ (ζd Q)
 refine(bg _).2 ⟨rfl,g1,by rw[hf];exact ad,λu d=>by rw[hf];exact Z u d,g4,λj z=>?_,ae,by rw[g3];exact m1.1,by rw[hf,g3];exact Z _ m1,λj z i B d=>by rw[g3];exact X _ d,λj z=>⟨m.l,m1,by rw[g3]⟩⟩
 show Bb G j=kK t j;rw[An Za]
 exact(g5 j _ z (ζd Za)).1
end
section
variable{t:Zj}{A:cu 200 bC}{U:Zy->Prop}
theorem R9(B:Small t):Wp (fB t) λn=>n<=24->∀p,p<t.procs.l.length->kK t p<=24:=by
 have b:=B.1;unfold fB;rw[bU];refine⟨λ_=>(bg _).2 λh=>absurd h Za,λu=>?_⟩;have u:t.procs.l.length<=10:=by have:=of_decide_eq_false u;simp only[len]at this;omega
 unfold fB.W1;refine iA t.procs.l.length (λi(q:Int×Int)=>q.2=(i:Int)/\0<=q.1/\q.1<=1073741824*(i:Int)/\∀p,p<i->(kK t p:Int)<=q.1) ⟨rfl,Int.le_refl _,Za,λp h=>absurd h Za⟩ ?_ ?_;rintro i ⟨n,_⟩ w ⟨rfl,e1,e2,e3⟩;simp only at e1 e2 e3;have C:=(B.2 _ (List.getElem_mem w)).1;unfold fB.bt;dsimp only;rw[kq w,bS,bM w,ζb,tY (p:=λz=>mQ z) (f:=λx=>decide (len x.assign>12)) (λx _=>rfl) C,ζb,
  show(bq (decide (len t.procs.l[i].vars>12)) (some true) (some (t.procs.l[i].events.l.any λx=>decide (len x.assign>12))):a_ Zl)=some (decide (len t.procs.l[i].vars>12)||t.procs.l[i].events.l.any λx=>decide (len x.assign>12))from by cases decide (len t.procs.l[i].vars>12)<;>rfl,ζb,bU]
 refine⟨λ_=>(bg _).2 ((bg _).2 λh=>absurd h Za),λ_=>(bg _).2 ⟨cT i Za,?_⟩⟩;have D:wrap .i64 (n+len t.procs.l[i].events)=n+(t.procs.l[i].events.l.length:Int):=by simp only[len];exact gU _ Za Za
 rw[D];refine⟨Za,Za,λp a=>?_⟩;by_cases e:p=i;subst e;rw[qc w];omega;have:=e3 p Za;omega;rintro⟨n,_⟩ ⟨rfl,e1,e2,e3⟩;simp only at e1 e2 e3;unfold fB.bt;dsimp only;rw[kO,bX,bg];exact(bg _).2 λh p a=>by have h:n<=24:=h;have:=e3 p a;omega
theorem Nk(B:Small t)(D:(bO t).length<1073741824):Wp (lg t) λr=>r.2=true->∀p,p<t.procs.l.length->kK t p<=24:=by obtain⟨r,a,-⟩:=BI B D;refine⟨r,a,λh=>?_⟩;have⟨n,z,u⟩:=R9 B;unfold lg at a;rw[z,ζb]at a;cases w:decide (n>24)with|false=>exact u (by have:=of_decide_eq_false w;omega)|true=>obtain⟨v,b,C,-⟩:=D0 B D;rw[w,bS,ζb,bS]at a;cases a;cases h
theorem De(J:VT t)(D:∀u,U u->Cons t A u)(B:∀p,p<t.procs.l.length->kK t p<=24){b:Slice}(h:vu t A U b):vm b:=by
 have I:=J.few;refine⟨by rw[(D _ h.f).1.1];omega,by rw[h.lc.1.1];omega,by rw[h.j];omega,λr d=>?_⟩;have⟨p,a⟩:=mem_iff_getElem?.1 d;have z:=(ζe.1 a).1;have w:p<t.procs.l.length:=by rw[<-h.j];exact z
 have L:r.l.length=kK t p:=by have:=h.rows p w;rw[An z,(ζe.1 a).2]at this;exact this
 have O:=B p w;refine⟨Za,λc e=>?_⟩;have⟨i,C⟩:=mem_iff_getElem?.1 e;have Q:=(ζe.1 C).1;have G:el b p i=c.l:=by unfold el;rw[a];simp only[C]
 rcases h.elm p w i Za with⟨k,_⟩|⟨k,_⟩;rw[G]at k;rw[k];simp;rw[G]at k;rw[(D _ k).1.1];omega
theorem TI(B:Small t)(a:cA t=some true)(D:VT t)(G:eT t (bO t) A){s:Slice}(J:vm s)(O:tO t A s){c:Zg}(U:Cons t A c.l):∃x,vV t s c=some x/\(x=true↔Dl s c.l):=by have⟨x,e1,b⟩:=CV B a D G J;have⟨y,e2,u⟩:=E0 B a D G c;have⟨z,e3,w⟩:=Ot B D J O U;refine⟨z,?_,w⟩;unfold vV;rw[e1,ζb,b.2 O,bS,e2,ζb,ζb,u.2 U,bS,e3];rfl
theorem Tz(Y:Small t)(f:cA t=some true)(D:VT t)(h:eT t (bO t) A){W:Zy->Prop}(O:∀u,U u->Cons t A u)(c:∀u,W u->Cons t A u)(l:∀u v w,W u->W v->qE u_ u v w->W w)(m:∀u,U u->W u)
 (G:∀p,p<t.procs.l.length->kK t p<=24){a b:Slice}(B:vu t A U a)(e:vu t A W b):tL t a b=some (true,0):=by
 have K:=D.few;have L:=De D O G B;have C:=De D c G e;have I:=e.valid c;have⟨x,e1,n⟩:=CV Y f D h L;have⟨y,e2,o⟩:=CV Y f D h C;have X:x=true:=n.2 (B.valid O);have Z:y=true:=o.2 I;subst X Z;have Q:∀u,U u->Dl b u:=λu j=>(e.has c l (O u j)).2 (m u j)
 have⟨z,e3,q⟩:=Ot Y D C I (O _ B.f);have r:z=true:=q.2 (Q _ B.f);subst r;have M:a.last.l.length=t.procs.l.length:=B.lc.1.1;have p1:dn (dS a.last (λz=>o_ z b a)) (∀p,p<a.last.l.length->∀i:Nat,(i:Int)<nth a.last.l p->Dl b (el a p i)):=by refine rV (g:=λp i=>Dl b (el a p i)) Za (λp k=>?_) (λp k i T=>?_);have:=lz B.lc (p:=p) Za;have:=G p Za;omega;have J:p<t.procs.l.length:=Za;obtain⟨g1,g2,-,-⟩:=B.wX J T;obtain⟨d,E,S,-⟩:=wQ (s:=a) (p:=p) (i:=i) (by rw[B.j];exact J) (by rw[B.rows p J];exact g1) L;unfold o_;rw[E,ζb,<-S];rw[<-S]at g2;exact(Ot Y D C I (O _ g2)).some
 have⟨w,e4,F⟩:=p1;have H:w=true:=F.2 λp k i T=>Q _ (B.wX Za T).2.1
 subst H;unfold tL;rw[e1,ζb,bS,e2,ζb,ζb,show(!true)=false from rfl,bX,B.e,bX,e3,ζb,bS,e4];rfl
theorem Ni(D:Small t)(E:(bO t).length<1073741824){p q n:Int}(N:0<=p/\p<=255)(P:0<=q/\q<=255)(R:0<=n/\n<=255):eu t p q n=some true:=by refine Wp.eq ?_;unfold eu uZ;rw[ζb,bS];have⟨r,I,V⟩:=BI D E;have⟨r',J,aa⟩:=Nk D E;rw[I]at J;cases J;rw[I,ζb];cases Z:r.2 with|false=>rw[bX,ζb,bS,bg]|true=>rw[bS,ζb];have⟨A,d,ab,B,C,L,O⟩:=V Z;have Q:=aa Z;have h8:=B.few;cases F:decide (len t.procs<2)with|true=>rw[bS,bg]|false=>have F:2<=t.procs.l.length:=(by have:=of_decide_eq_false F;simp only[len]at this;omega);rw[bX,gU p Za Za,gU q Za Za,gU n Za Za];simp only[len];rw[Ac N.1 Za,ζb,gU _ Za Za,show((t.procs.l.length:Int)-1)=((t.procs.l.length-1:Nat):Int)from Za,Ac P.1 Za,ζb];have S:p.toNat % t.procs.l.length<t.procs.l.length:=mod_lt _ Za;have hb:q.toNat % (t.procs.l.length-1)<t.procs.l.length-1:=mod_lt _ Za;generalize p.toNat % t.procs.l.length=a at S⊢;generalize q.toNat % (t.procs.l.length-1)=b at hb⊢;rw[gU ((a:Int)+1) Za Za,gU _ Za Za,Ac Za Za,ζb];have g:((a:Int)+1+b).toNat % t.procs.l.length<t.procs.l.length:=mod_lt _ Za;have G:a≠((a:Int)+1+b).toNat % t.procs.l.length:=(by rw[show((a:Int)+1+b).toNat=a+1+b from Za];by_cases h:a+1+b<t.procs.l.length;rw[Nat.mod_eq_of_lt h];omega;rw[Nat.mod_eq_sub_mod Za,Nat.mod_eq_of_lt Za];omega);generalize((a:Int)+1+b).toNat % t.procs.l.length=c at g G⊢;rw[show tX n 8=some ((n.toNat % 8:Nat):Int)from Ac R.1 (n:=8) Za,ζb];have hm:n.toNat % 8<8:=mod_lt _ Za;generalize n.toNat % 8=m at hm⊢;obtain⟨⟨s,e⟩,s1,rfl,T⟩:=D9 D d B C S g G (n:=m) Za;obtain⟨⟨s',e⟩,s3,rfl,H⟩:=D9 D d B C S g G (n:=m+1) Za;obtain⟨⟨l,e⟩,l1,rfl,l2,K⟩:=NT D d B C L (by unfold ins;rw[List.length_map];exact O) (P6 B);simp only at T H l2 K;have U:∀k u,UB t A a c k u->Cons t A u:=λk u f=>f.1;have M:∀k u v w,UB t A a c k u->UB t A a c k v->qE u_ u v w->UB t A a c k w:=λk u v w f d W=>f.join S g d W;have X:=De B (U m) Q T;have Y:=T.valid (U m);have⟨x,e1,f1⟩:=CV D d B C X;have hx:x=true:=f1.2 Y;subst hx;rw[s1,ζb,cT m Za,s3,ζb,l1,ζb];simp only;rw[show((0:Int)==0)=true from rfl,show(!true)=false from rfl,bS,ζb,bX,ζb,bX,e1,ζb,show(!true)=false from rfl,ζb,bX];unfold eu.W1;refine iA l.l.length (λi(s:Int)=>s=(i:Int)) rfl (λi z y W=>?_) λz W=>?_;subst W;have j:Cons t A l.l[i].l:=(K _).1 (pn.2 ⟨_,List.getElem_mem y,rfl⟩);obtain⟨⟨o,e⟩,o1,rfl,o2⟩:=MG D d B C j S g;simp only at o2;have⟨h,h1,Z⟩:=TI D d B C X Y j;have hh:h=decide (len o<=(m:Int)):=(by have:h=true↔len o<=(m:Int):=Z.trans ((T.has (U m) (M m) j).trans ⟨λk=>by simp only[len];have:=k.2;omega,λk=>⟨j,by simp only[len]at k;omega⟩⟩);cases h with|true=>exact(decide_eq_true (this.1 rfl)).symm|false=>exact(decide_eq_false λk=>by have:=this.2 k;cases this).symm);unfold eu.bt;rw[show((l.l.length:Nat):Int)=len l from rfl,kq y,bS,bM y,ζb,o1,ζb];simp only;rw[show((0:Int)==0)=true from rfl,bS,h1,ζb,hh,show(decide (len o<=(m:Int))==decide (len o<=(m:Int)))=true from Zc,show(!true)=false from rfl,ζb,bX,bg];exact cT i Za;subst W;unfold eu.bt;rw[show((l.l.length:Nat):Int)=len l from rfl,show decide (len l<len l)=false from decide_eq_false Za,bX,bg];show Wp ((tL t s s').bind _) _;rw[Tz D d B C (U m) (U (m+1)) (M (m+1)) (λu f=>⟨f.1,by have:=f.2;omega⟩) Q T H,ζb];exact(bg _).2 rfl
end
end Go.VE
namespace Go.VE
theorem Cg{α:Type}[cw α]{x:α}:∀{l:aZ α},x∈l->cw.wt x<=(l.map cw.wt).sum
 |y::l,h=>by simp only[map_cons,sum_cons];rcases List.mem_cons.1 h with rfl|h;omega;have:=Cg h;omega
theorem wI{α:Type}[cw α](h:∀x:α,1<=cw.wt x):∀(l:aZ α),l.length<=(l.map cw.wt).sum
 |[]=>le_refl _|y::l=>by simp only[map_cons,sum_cons,List.length_cons];have:=wI h l;have:=h y;omega
theorem BY{α:Type}[cw α](s:Sl α):cw.wt s=(s.l.map cw.wt).sum+1:=rfl
theorem AP(p:Int):∀(es:aZ Zn)(j:Int),(iw p j es).length=es.length
 |[],_=>rfl|_::es,j=>by simp only[iw,List.length_cons,AP p es]
theorem Gp:∀(ps:aZ cq)(i:Int),(fm i ps).length<=(ps.map cw.wt).sum
 |[],_=>le_refl _|p::ps,i=>by simp only[fm,ζi,AP,map_cons,sum_cons];have a:=Gp ps (i+1);have t:=wI (α:=Zn) (λx=>le_add_left ..) p.events.l;have u:cw.wt p=cw.wt p.name+cw.wt p.vars+cw.wt p.events+1:=rfl;have w:=BY p.events;omega
theorem MH{t:Zj}(h:cw.wt t<=1048576):Small t/\(bO t).length<1073741824:=by have c:cw.wt t=cw.wt t.procs+1:=rfl;have d:=BY t.procs;have D:=wI (α:=cq) (λx=>le_add_left ..) t.procs.l;have G:=Gp t.procs.l 0;refine⟨⟨Za,λp a=>?_⟩,by show(fm 0 t.procs.l).length<_;omega⟩;have I:=Cg a;have J:cw.wt p=cw.wt p.name+cw.wt p.vars+cw.wt p.events+1:=rfl;have L:=BY p.events;have O:=BY p.vars;have Q:=wI (α:=Zn) (λx=>le_add_left ..) p.events.l;have S:=wI (α:=Var) (λx=>le_add_left ..) p.vars.l;have u:cw.wt p.name=p.name.size+1:=rfl;refine⟨Za,Za,Za,λv b=>?_,λe w=>?_⟩;have z:=Cg b;have B:cw.wt v=cw.wt v.name+cw.wt v.init_+1:=rfl;have C:cw.wt v.name=v.name.size+1:=rfl;omega;have z:=Cg w;have B:cw.wt e=cw.wt e.kind+cw.wt e.peer+cw.wt e.message+cw.wt e.time+cw.wt e.assign+1:=rfl;have C:=BY e.assign;have T:=wI (α:=Assign) (λx=>le_add_left ..) e.assign.l;omega
end Go.VE
namespace Go.Proofs.YtbhedaipfioknaaGreat
open Go.ChangeShapes Go.WideShapes Go.ChangeAt Go.RowKit Go.VE
theorem own:ownKnob Tryz.prog.godebug=none:=by kernel_rfl
theorem kids:Kids Tryz.prog (·<Tryz.prog.types.size):=kids_rows Zi Zi
theorem full:∀t e,t<Tryz.prog.types.size->Tryz.prog.underlying t=some (.slice e)->0<Tryz.prog.cellsOf e:=slices_full_of Tryz.prog Zi
theorem wN{H:Type}:∀l:aZ (DataW H),Rows.uptoBulkAll l=(l.map Rows.uptoBulk).sum
 |[]=>by simp[Rows.uptoBulkAll]|d::r=>by simp[Rows.uptoBulkAll,wN r]
theorem BO{H:Type}:rK (H:=H) Rows.uptoBulk where
 lit l:=by cases l<;>simp[Rows.uptoBulk]
 str s:=by simp[Rows.uptoBulk]
 nil:=by simp[Rows.uptoBulk]
 slice es t:=by rw[Rows.uptoBulk,wN,wN];omega
 agg u:=by rw[Rows.uptoBulk,wN];exact le_refl _
set_option maxRecDepth 100000 in
theorem HQ(H:Type)(enc:Zm×Zp->H)(W:World)(base:Nat)(args:Array Zp)(ds a:aZ (DataW H))(before:aZ MemPlace)
 (B:∀(j:Nat)t v,Tryz.f3.params[j]?=some t->args[j]?=some v->Value.okWide Tryz.prog W .any base t v)
 (O:DataW.Whole enc Tryz.prog Tryz.f3.params.toList Rows.channelBoundSpec.vars false W args.toList ds a before)(b:Rows.uptoSmall H (ds++a)=true):
 Calls Tryz.prog 3 args W λe U=>∃v,e=.returned v/\Rows.channelBoundSpec.post enc Tryz.prog Tryz.f3 false true false false W args v U:=by
 have G:=O;obtain⟨p,q,I,Z,rfl,aa,ab⟩:=O;have L:DataW.TrodAll enc Tryz.prog W 0 (λ_=>true) true Tryz.f3.params.toList args.toList ds p:=I
 rw[Tryz.params3]at L B;obtain⟨Q,ad,c,ae,p0,q0,J,rfl,rfl,d,g⟩:=trodAll_cons L;obtain⟨S,af,i,ah,p1,q1,rfl,rfl,rfl,k,r1⟩:=trodAll_cons g;obtain⟨T,ai,l,aj,p2,q2,rfl,rfl,rfl,m,r2⟩:=trodAll_cons r1;obtain⟨X,ak,n,al,p3,q3,rfl,rfl,rfl,o,r3⟩:=trodAll_cons r2;obtain⟨rfl,rfl,rfl⟩:=trodAll_nil r3;obtain rfl:args=#[Q,S,T,X]:=by cases args;simp_all
 obtain⟨rfl,rfl⟩:=trodVars_none Z;have⟨u,s,k0,x⟩:=Reads.E_ (t:=24) (α:=VE.Trace) B 0 rfl rfl d;have⟨z,y,A,E⟩:=Reads.E_ (t:=5) (α:=U8) B 1 rfl rfl k;have⟨C,F,K,M⟩:=Reads.E_ (t:=5) (α:=U8) B 2 rfl rfl m;have⟨D,N,R,b3⟩:=Reads.E_ (t:=5) (α:=U8) B 3 rfl rfl o;have hb:cw.wt u+cw.wt z+cw.wt C+cw.wt D<=1048576:=by have c0:=x Rows.uptoBulk BO;have c1:=E Rows.uptoBulk BO;have c2:=M Rows.uptoBulk BO;have c3:=b3 Rows.uptoBulk BO;have Y:Rows.uptoBulkAll ([c,i,l,n]++[])<=1048576:=of_decide_eq_true b;rw[wN]at Y;simp only[List.append_nil,map_cons,List.map_nil,sum_cons,List.sum_nil]at Y;omega
 have⟨hS,hN⟩:=MH (t:=u) Za
 have hc:mE cL 3 [VE.enc u,.int .u8 z.v,.int .u8 C.v,.int .u8 D.v]=some [.bool true]:=by have hl:(eu u z.v C.v D.v).bind (λr:Zl=>some [V.bool r])=some [.bool true]:=(by rw[Ni hS hN A K R];rfl);exact(wV u z.v C.v D.v).F.h () _ hl
 have:=Jz (P:=Tryz.prog) Fe Ae calls (f:=3) (xs:=[VE.enc u,.int .u8 z.v,.int .u8 C.v,.int .u8 D.v]) (by simp[V.cE,V.good,jw]) hc (w:=W) (args:=#[Q,S,T,X]) (λ_ _ h=>nomatch h) (cK.cons s (cK.cons y (cK.cons F (cK.cons N .nil))))
 refine this.mono λe U⟨he,hg⟩=>?_
 subst he;exact⟨_,rfl,LG kids full (by rw[Tryz.params3];decide) rfl rfl rfl Tryz.underlying4 G hg⟩
set_option maxRecDepth 100000 in
theorem LP(os:Os)(B:os.Started)(H:Type)(enc:Zm×Zp->H)(F:Stop.Interp):
 ReturnsInHanded {} Tryz.checked os 3 .any ((Rows.OpenSpec.upto Rows.channelBoundSpec).pre6 enc Tryz.prog Tryz.f3 Rows.channelBoundUptoRow.domain false) (((Rows.OpenSpec.upto Rows.channelBoundSpec).at F).post enc Tryz.prog Tryz.f3 false true false false):=by
 refine returnsInHanded_of_cond (C:=Tryz.checked) (s:=Rows.OpenSpec.upto Rows.channelBoundSpec) (k:=Rows.uptoSmall) rfl own B Zi Tryz.func3
  (OpenSpec.witness (enc:=enc) (C:=Tryz.checked) (s:=Rows.OpenSpec.upto Rows.channelBoundSpec) (k:=Rows.uptoSmall) rfl false ⟨#[],#[.agg #[.slice none 0 0],.int .u8 0,.int .u8 0,.int .u8 0],[]⟩ 8 Zi Zi Zi
   (x:=([.agg [.nil],.lit (.int .u8 0),.lit (.int .u8 0),.lit (.int .u8 0)],[],[])) Zi rfl Zi) ?_
 intro W base args ds a before t u _ b _;exact HQ H enc W base args ds a before t u b
theorem QS:Rows.channelBoundUptoRow.holds Tryz.pinned (Rows.OpenSpec.upto Rows.channelBoundSpec):=
 OpenClaim.holds_of_cond 3 Tryz.f3 rfl rfl rfl rfl rfl rfl rfl ⟨rfl,rfl,rfl,rfl,rfl⟩ rfl rfl rfl rfl rfl Zi Tryz.func3 Zi
  (of_decide_eq_true Zi) (by unfold Func.isWrapper;first|(rw[if_pos (by decide+kernel)];kernel_rfl)|(rw[if_neg (by decide+kernel)];exact⟨rfl,rfl⟩))
  (λos t H enc _ F=>LP os t H enc F)
theorem channelBoundProved:Rows.ChannelBoundUptoSaid:=QS
#print axioms channelBoundProved
end Go.Proofs.YtbhedaipfioknaaGreat
