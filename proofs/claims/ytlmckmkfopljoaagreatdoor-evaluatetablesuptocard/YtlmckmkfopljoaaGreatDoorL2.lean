/-
 EvaluateTables says true for all arguments that together are of bulk at most 1048576, and they read behind the call as they read before: for every such argument, without a condition.
-/
import Derived.Test.YtlmckmkfopljoaaGreatDoorRows
import Derived.Test.YtlmckmkfopljoaaGreatDoorCards
import Derived.Test.YtlmckmkfopljoaaGreatDoorTie
import Derived.Deep.DeepHandedRow
import Derived.Test.YtlmckmkfopljoaaGreatDoorK1
import Derived.Test.YtlmckmkfopljoaaGreatDoorL1
set_option linter.all false
open List(all_eq_true getElem_mem length_cons length_take map_cons mem_cons mem_cons_of_mem mem_of_getElem? mem_singleton pairwise_cons range sum_cons take_length take_of_length_le)
open Go.IntKind(wrap)
open ByteArray(toList)
open Nat(le_add_left le_refl zero_le)
namespace Go.VE
theorem Zag{p:Prop}(h:p:=by kernel_rfl):p:=h
theorem Lq{t:Z4}(b:Small t){c:Zg}(W:rj t c.l){p:Nat}{P:bX}{a:Int}(J:t.procs.l[p]?=some P)(Y:c.l[p]?=some a)(q:Nat):
 Wp (iy t c p q) λs=>s.l.length=(P.events.l.take a.toNat).countP λe=>ec q e&&mX t c.l e:=by
 have Z:=(b.2 P (mem_of_getElem? J)).1;have⟨a0,k⟩:=W.2 p a P Y J;unfold iy iy.W1;refine eY (λs:Zg×Int=>∃n:Nat,s.2=n/\(n:Int)<=a/\s.1.l.length=(P.events.l.take n).countP λe=>ec q e&&mX t c.l e) (λs=>a.toNat-s.2.toNat) ⟨0,rfl,by simpa using a0,rfl⟩ ?_
 rintro⟨o,i⟩ ⟨n,d,m,I⟩;simp only at d I;subst d;unfold iy.bn;rw[show idx c (p:Int)=some a from by rw[jd];exact Y,ζb,ct]
 constructor
 .intro h;have r:(n:Int)<a:=by simpa using h
  have C:n<P.events.l.length:=Zaa
  have G:=cF n Zaa
  have B:a.toNat-(wrap .i64 ((n:Int)+1)).toNat<a.toNat-((n:Int)).toNat:=by rw[G];simp;omega
  have L:=List.countP_le_length (p:=λe=>ec q e&&mX t c.l e) (l:=P.events.l.take n)
  rw[length_take]at L;have u:(P.events.l.take (n+1)).countP (λe=>ec q e&&mX t c.l e)=o.l.length+if ec q P.events.l[n]&&mX t c.l P.events.l[n]then 1 else 0:=by rw[List.take_add_one,ζd C,List.countP_append,I];show _+List.countP _ [P.events.l[n]]=_;rw[List.countP_cons,List.countP_nil];simp
  rw[show idx t.procs (p:Int)=some P from by rw[jd];exact J,ζb,bF C,ζb]
  generalize P.events.l[n]=e at u;have O:(bl (e.kind==2) (some (!(e.peer==(q:Int)))) (some true):a_ X')=some (!ec q e):=by unfold ec;cases e.kind==2<;>cases e.peer==(q:Int)<;>rfl
  rw[O,ζb,ct];constructor
  .intro w;have w:ec q e=false:=by simpa using w
   rw[bh];exact⟨⟨n+1,G,Zaa,by rw[u,w];rfl⟩,B⟩
  intro w;have w:ec q e=true:=by simpa using w
  rw[find_eq b,ζb];have f:(bl ((gM t 3 e.message).index==0) (some true) ((idx c (gM t 3 e.message).proc).bind λQ=>some (decide ((gM t 3 e.message).index>Q))):a_ X')=some (mX t c.l e):=by unfold mX;rcases Fu t 3 e.message with⟨h,_⟩|⟨z,g,_⟩;rw[h];rfl;have⟨S,j,⟨v,T,_⟩,X⟩:=dR.1 g;simp only at X;have D:S<c.l.length:=(by rw[W.1];exact(ζe.1 T).1);rw[X];dsimp only;rw[bF D,ζb,show((S:Nat):Int).toNat=S from rfl,ζd D,mg];rfl
  rw[f,ζb,ct];constructor
  .intro U;unfold eU;rw[if_pos (show o.l.length+1<=2147483648 from Zaa),ζb,bh]
   exact⟨⟨n+1,G,Zaa,by show(o.l++[_]).length=_;rw[u,w,U,ζi];rfl⟩,B⟩
  intro U;rw[bh];exact⟨⟨n+1,G,Zaa,by rw[u,w,U];rfl⟩,B⟩
 intro h;have x:¬(n:Int)<a:=by simpa using h
 refine(bh _).2 ((bh _).2 ?_);rw[show a.toNat=n from Zaa];exact I
end Go.VE
namespace Go.VE
section
variable{t:Z4}{A:cH 200 bM}{P:bX}{v:Nat}
theorem Qj(a:Small t){n:Nat}(D:t.procs.l[n]?=some P){name:U'}{x:Var}(b:P.vars.l[v]?=some x)(G:(toList x.name==toList name)=true)
 (J:∀(j:Nat)(w:Var),j<v->P.vars.l[j]?=some w->(toList w.name==toList name)=false):kg t n name=some (v:Int):=by
 have z:=(ζe.1 b);have⟨z,C⟩:=z;have I:=(a.2 P (mem_of_getElem? D)).2.1;refine Wp.eq ?_;unfold kg;rw[jd,D,ζb];unfold kg.W1;refine eY (λi:Int=>∃n:Nat,i=n/\n<=v) (λi=>v-i.toNat) ⟨0,rfl,zero_le _⟩ ?_
 rintro _ ⟨i,rfl,c⟩;have u:i<P.vars.l.length:=Zaa
 unfold kg.bn;rw[gE u,bE,bF u,ζb]
 by_cases B:i=v
 .subst B;rw[C,G,bE,bh];exact(bh _).2 rfl
 rw[J i _ Zaa (ζd u),bJ,bh,cF i Zaa]
 exact⟨⟨i+1,rfl,Zaa⟩,by simp only;omega⟩
theorem VD{e:WF}(D:e.assign.l.length<1073741824)(n:Nat)(i:Int):gD.W2 (n:Int) (v:Int) i e.assign 0 t=some (match mI e.assign.l v with|some x=>.r x|none=>.n (wrap .i64 (i-1))):=by
 refine Wp.eq ?_;unfold gD.W2;refine fC e.assign.l.length (λj s=>s=(j:Int)/\mI (e.assign.l.take j) v=none) ⟨rfl,by simp[mI]⟩ ?_ ?_;rintro j _ B ⟨rfl,w⟩;unfold gD.bV;rw[gE B,bE,bF B,ζb];have u:e.assign.l=e.assign.l.take j++e.assign.l[j]::e.assign.l.drop (j+1):=by rw[List.getElem_cons_drop,List.take_append_drop]
 unfold mI at w;rw[Option.map_eq_none_iff]at w;by_cases z:e.assign.l[j].var=(v:Int);rw[show(e.assign.l[j].var==(v:Int))=true from by simpa using z,bE,ζb,bh];refine(bh _).2 ?_;have:mI e.assign.l v=some e.assign.l[j].value:=by unfold mI;have C:=congrArg (List.find? λa:Assign=>a.var==(v:Int)) u;rw[List.find?_append,w,List.find?_cons_of_pos (by simpa using z)]at C;rw[C];rfl
 rw[this];rw[show(e.assign.l[j].var==(v:Int))=false from by simpa using z,bJ,bh,cF j Zaa];refine⟨rfl,?_⟩;unfold mI;rw[Option.map_eq_none_iff,List.take_add_one,ζd B,List.find?_append,w];rw[Option.none_or,Option.toList_some,List.find?_cons_of_neg (by simpa using z)];rfl;rintro _ ⟨rfl,w⟩;unfold gD.bV;rw[iA,bJ,bh];rw[take_length]at w;refine(bh _).2 ?_;rw[w]
theorem Qh(b:Small t)(U:Ok t){n:Nat}(D:t.procs.l[n]?=some P)(B:v<P.vars.l.length){a:Nat}(W:a<=P.events.l.length):gD t n v (a:Int)=some (mY P v a):=by
 have C:=b.2 P (mem_of_getElem? D);have L:=Pf.of U D;have I:idx t.procs (n:Int)=some P:=by rw[jd];exact D
 refine Wp.eq ?_;unfold gD gD.W1;rw[gW _ Zaa Zaa];refine eY (λi:Int=>∃k:Nat,i=(k:Int)-1/\k<=a/\mY P v k=mY P v a) (λi=>(i+1).toNat) ⟨a,rfl,le_refl _,rfl⟩ ?_;rintro _ ⟨k,rfl,d,w⟩;unfold gD.bn;by_cases c:k=0;subst c;rw[decide_eq_false Zaa,bJ,bh];rw[I,ζb,bF B,ζb];refine(bh _).2 ?_;rw[<-w];simp[mY,iL,ζd B];have z:k-1<P.events.l.length:=Zaa;have G:=getElem_mem z;have u:=GU L B (ζd z);rw[show k-1+1=k from Zaa]at u;rw[decide_eq_true Zaa,bE,I,ζb,show(k:Int)-1=((k-1:Nat):Int)from Zaa,bF z,ζb,VD (C.2.2.2.2 _ G)];cases J:mI P.events.l[k-1].assign.l v with|some x=>rw[J]at u;rw[bh];refine(bh _).2 ?_;rw[<-w,u];rfl|none=>rw[J]at u;rw[bh,gW _ Zaa Zaa];exact⟨⟨k-1,rfl,Zaa,by rw[<-w,u];rfl⟩,by simp only;omega⟩
structure Zu(t:Trace)(A:cH 200 bM)(c:Sl Int)(l:Sl (Sl Int)):Prop where
 hS:Small t
 hv:dz t=some true
 hV:VT t
 hM:iW t (bY t) A
 hC:Cons t A c.l
 vals:∀(p:Nat)(P:bX)(a:Int),t.procs.l[p]?=some P->c.l[p]?=some a->∃x,l.l[p]?=some x/\x.l=iL P a.toNat
end
section
variable{t:Z4}
theorem Rs(p:Pred)(G:p.Sm):∀(n d:Nat)(v:Int),1<=n->42<=n+d->d<=41->0<=v->v<=300->
 ∃r:Int,dA (λr(z:Pred×Int×Int)=>iF z.1 z.2.1 z.2.2 r) n (p,(d:Int),v)=some r/\0<=r/\r<=1000:=by
 induction p using Pred.ind with
 |h p L=>
  intro n d v U O hd Q f;have W:=G.len;rw[jq Zaa]
  show∃r:Int,iF p (d:Int) v (dA (λr(z:Pred×Int×Int)=>iF z.1 z.2.1 z.2.2 r) (n-1))=some r/\0<=r/\r<=1000
  have I:∀v:Int,0<=v->v<=1000->(v<=300->d<=40)->∃r:Int,fh.J1 (d:Int) p v (dA (λr(z:Pred×Int×Int)=>iF z.1 z.2.1 z.2.2 r) (n-1))=some r/\0<=r/\r<=1000:=by intro v b c S;show Wp (fh.J1 (d:Int) p v _) λr=>0<=r/\r<=1000;unfold fh.J1 fh.W2;refine eY (λs:Int×Int=>∃i:Nat,s.1=i/\i<=p.l.l.length/\0<=s.2/\s.2<=1000/\(s.2<=300->d<=40)) (λs=>p.l.l.length-s.1.toNat) ⟨0,rfl,zero_le _,b,c,S⟩ ?_;rintro⟨_,u⟩ ⟨i,rfl,g,C,D,J⟩;simp only at C D J⊢;unfold fh.bV;by_cases B:i<p.l.l.length;rw[gE B,bE,ζb];by_cases a:u<=300;have w:=J a;rw[decide_eq_true a,bE,bF B,ζb,cF d Zaa];have⟨r,e,T,r1⟩:=L _ (getElem_mem B) (G.uE (getElem_mem B)) (n-1) (d+1) u Zaa Zaa Zaa C a;rw[e,ζb,bh,cF i Zaa];exact⟨⟨i+1,rfl,Zaa,T,r1,λ_=>w⟩,by simp only;omega⟩;rw[decide_eq_false a,bJ,bh];exact(bh _).2 ⟨C,D⟩;rw[decide_eq_false (by simp only[len];omega),bJ,ζb,bJ,bh];exact(bh _).2 ⟨C,D⟩
  unfold iF
  by_cases w:d<=40
  .rw[decide_eq_false Zaa,bJ,gW _ Zaa Zaa]
   exact I _ Zaa Zaa (λ_=>w)
  rw[decide_eq_true Zaa,bE]
  exact I _ Zaa Zaa (λh=>Zaa)
theorem QN{p:Pred}(B:p.Sm):∃b,vg p=some b:=by obtain⟨r,a,-⟩:=Rs p B 100000 0 0 Zaa Zaa Zaa Zaa Zaa;unfold vg fh;rw[show((0:Nat):Int)=0 from rfl]at a;rw[a];exact⟨_,rfl⟩
theorem QO{p:Pred}(B:nP p=true)(a:xS t p):sK p=some (nQ p.kind,0):=by have u:=a.sm;have hd:=B;simp only[nP,ζh,decide_eq_true_eq]at hd;unfold sK;rw[Av u,B,ζb,bE,Hv u Zaa,a.y,ζb,bE,BV];rfl
theorem Sx{p:Pred}(B:nP p=true)(a:xS t p):vk p=some (nQ p.kind,0):=by have u:=a.sm;have hd:=B;simp only[nP,ζh,decide_eq_true_eq]at hd;unfold vk gB;rw[Aw u,B,ζb,bE,He p u a.f 100000 Zaa,a.y,ζb,bE,Dv];rfl
end
def FN(c:SW):SW:=c.sum::c
def GR(c:SW):Prop:=c.length<=8/\∀x∈c,0<=x/\x<1073741824
theorem RM{c:SW}(h:GR c)(i:Nat):0<=(c.take i).sum/\(c.take i).sum<=8589934592:=by
 have key:∀(l:SW),(∀x∈l,0<=x/\x<1073741824)->0<=l.sum/\l.sum<=1073741824*(l.length:Int):=by intro l;induction l with|nil=>intro _;simp|cons x l u=>intro h;have a:=h x Zab;have w:=u λy z=>h y (mem_cons_of_mem _ z);simp only[sum_cons,length_cons];omega
 have a:=key (c.take i) λx B=>h.2 x (List.mem_of_mem_take B);have w:(c.take i).length<=8:=by rw[length_take];have:=h.1;omega
 omega
theorem JY{c:SW}{i:Nat}(a:i<c.length):(c.take (i+1)).sum=(c.take i).sum+c[i]:=by rw[List.take_succ_eq_append_getElem a,List.sum_append];simp
theorem OH{a b:SW}{i:Nat}(B:i<a.length)(D:i<b.length):gb (a.drop i) (b.drop i)=if a[i]<b[i]then -1 else if a[i]>b[i]then 1 else gb (a.drop (i+1)) (b.drop (i+1)):=by rw[List.drop_eq_getElem_cons B,List.drop_eq_getElem_cons D];rfl
def fG(x y:SW):Prop:=gb (FN x) (FN y)<0
instance(x y:SW):Decidable (fG x y):=by unfold fG;exact inferInstance
theorem fG.T5(x:SW):¬fG x x:=by unfold fG;rw[yE];omega
theorem fG.tr{x y z:SW}(h:fG x y)(k:fG y z):fG x z:=Ct _ _ _ h k
theorem fG.tot{x y:SW}(h:¬fG x y)(k:¬fG y x):x=y:=by have:=zk _ _ h k;unfold FN at this;exact(List.cons.inj this).2
theorem fG.sum{x y:SW}(h:x.sum<y.sum):fG x y:=by unfold fG FN;simp[gb,h]
theorem Fh:∀{l r:aZ SW},l.Pairwise fG->r.Pairwise fG->(∀x,x∈l↔x∈r)->l=r
 |[],[],_,_,_=>rfl|[],y::r,_,_,h=>by have:=(h y).2 Zab;simp at this|x::l,[],_,_,h=>by have:=(h x).1 Zab;simp at this|x::l,y::r,C,hr,h=>by have e:x=y:=(by rcases mem_cons.1 ((h x).1 Zab)with e|e;exact e;rcases mem_cons.1 ((h y).2 Zab)with k|k;exact k.symm;exact absurd (((pairwise_cons.1 hr).1 x e).tr ((pairwise_cons.1 C).1 y k)) (fG.T5 y));subst e;congr 1;have u:=pairwise_cons.1 C;have w:=pairwise_cons.1 hr;refine Fh u.2 w.2 λz=>⟨λB=>?_,λB=>?_⟩;rcases mem_cons.1 ((h z).1 (mem_cons_of_mem _ B))with e|e;exact absurd (e▸u.1 z B) (fG.T5 x);exact e;rcases mem_cons.1 ((h z).2 (mem_cons_of_mem _ B))with e|e;exact absurd (e▸w.1 z B) (fG.T5 x);exact e
theorem VW{t:Z4}{A:cH 200 bM}(b:Small t)(d:VT t){c:SW}(a:Cons t A c):GR c:=by
 refine⟨a.1.1▸d.few,λx z=>?_⟩;have⟨p,w,e⟩:=List.mem_iff_getElem.1 z;have u:p<t.procs.l.length:=by rw[<-a.1.1];exact w
 have:=a.1.2 p x _ (by rw[ζd w,e]) (ζd u);have k:=(b.2 _ (getElem_mem u)).1;omega
theorem fG.Ix{x y:SW}(h:x.sum=y.sum):fG x y↔gb x y<0:=by unfold fG FN;simp only[gb,if_neg (show¬x.sum<y.sum by omega),if_neg (show¬x.sum>y.sum by omega)]
theorem fG.nodup{L:aZ SW}(h:L.Pairwise fG):L.Nodup:=h.imp λ{x y}(h:fG x y)(e:x=y)=>fG.T5 y (by rw[e]at h;exact h)
theorem M_{L:aZ SW}{c:SW}{j:Nat}(h:L.Pairwise fG)(d:∀(i:Nat)x,i<j->L[i]?=some x->fG x c)(D:∀x,L[j]?=some x->fG c x):
 (L.take j++[c]++L.drop j).Pairwise fG/\∀x,x∈L.take j++[c]++L.drop j↔x∈L\/x=c:=by
 have w:∀x∈L.take j,fG x c:=λx a=>by
  have⟨k,b,e⟩:=List.mem_iff_getElem.1 a;rw[length_take]at b;rw[List.getElem_take]at e;exact d k x Zaa (by rw[ζd Zaa,e])
 have u:∀x∈L.drop j,fG c x:=λx a=>by
  have⟨k,b,e⟩:=List.mem_iff_getElem.1 a;rw[List.length_drop]at b;rw[List.getElem_drop]at e;have B:j<L.length:=Zaa
  have k0:=D _ (ζd B)
  by_cases e0:k=0
  .subst e0;simp only[Nat.add_zero]at e;rw[<-e];exact k0
  rw[<-e];exact k0.tr (List.pairwise_iff_getElem.1 h j (j+k) B Zaa Zaa)
 refine⟨List.pairwise_append.2 ⟨List.pairwise_append.2 ⟨h.sublist (List.take_sublist _ _),List.pairwise_singleton _ _,λx a y z=>?_⟩,h.sublist (List.drop_sublist _ _),λx a y z=>?_⟩,λx=>?_⟩
 .rw[mem_singleton.1 z];exact w x a
 .rcases List.mem_append.1 a with a|a
  .exact(w x a).tr (u y z)
  rw[mem_singleton.1 a];exact u y z
 conv=>rhs;rw[<-List.take_append_drop j L]
 simp only[List.mem_append,mem_singleton];constructor
 .rintro ((h|h)|h)<;>simp[h]
 rintro((h|h)|h)<;>simp[h]
theorem Hu{c:Zg}(h:GR c.l):iw c=some c.l.sum:=by refine Wp.eq ?_;have u:=h.1;unfold iw iw.W1;refine fC c.l.length (λi(q:Int×Int)=>q.2=(i:Int)/\q.1=(c.l.take i).sum) ⟨rfl,rfl⟩ ?_ ?_;rintro i ⟨m,_⟩ b ⟨e,a⟩;simp only at e a;subst e;subst a;unfold iw.bn;rw[gE b,bE,bF b,ζb,bh];have k:=RM h (i+1);rw[JY b]at k;exact⟨cF i Zaa,by rw[JY b];exact gW _ Zaa Zaa⟩;rintro⟨m,_⟩ ⟨e,a⟩;simp only at e a;subst e;subst a;unfold iw.bn;rw[iA,bJ,bh];exact(bh _).2 Zac
theorem KY{a b:Zg}(B:GR a.l)(D:GR b.l)(G:a.l.length=b.l.length):iM a b=some (decide (fG a.l b.l)):=by
 have w:=B.1;unfold iM;rw[Hu B,ζb,Hu D,ζb];by_cases e:a.l.sum=b.l.sum;rw[show(a.l.sum==b.l.sum)=true from Zac,bE];refine Wp.eq ?_;unfold iM.W1;refine fC a.l.length (λi(q:Int)=>q=(i:Int)/\gb (a.l.drop i) (b.l.drop i)=gb a.l b.l) ⟨rfl,rfl⟩ ?_ ?_;rintro i _ c ⟨rfl,h⟩;have u:i<b.l.length:=by omega
 unfold iM.bn;rw[gE c,bE,bF c,ζb,bF u,ζb];rw[OH c u]at h;by_cases e2:a.l[i]=b.l[i];rw[show(a.l[i]==b.l[i])=true from Zac,bE,bh];rw[if_neg Zaa,if_neg Zaa]at h;exact⟨cF i Zaa,h⟩;rw[show(a.l[i]==b.l[i])=false from Zac,bJ,ζb,ζb,bh];refine(bh _).2 ?_;have hd:decide (fG a.l b.l)=decide (gb a.l b.l<0):=decide_eq_decide.2 (fG.Ix e);grind;rintro _ ⟨rfl,h⟩;unfold iM.bn;rw[iA,bJ,bh];refine(bh _).2 ?_;have hd:decide (fG a.l b.l)=decide (gb a.l b.l<0):=decide_eq_decide.2 (fG.Ix e);rw[hd];rw[List.drop_of_length_le (le_refl _),List.drop_of_length_le Zaa]at h;rw[<-h];rfl;rw[show(a.l.sum==b.l.sum)=false from Zac,bJ,ζb,ζb];congr 1;refine decide_eq_decide.2 ?_;unfold fG FN;by_cases k:a.l.sum<b.l.sum;simp[gb,k];simp[gb,k,show a.l.sum>b.l.sum by omega]
theorem P_{a b:Zg}(D:a.l.length<1073741824):fR a b=some (decide (a.l=b.l)):=by
 refine Wp.eq ?_;unfold fR;rw[ct];refine⟨λh=>?_,λh=>(bh _).2 ?_⟩;have h:(a.l.length:Int)=b.l.length:=by grind
 have h:a.l.length=b.l.length:=Zaa;unfold fR.W1;refine fC a.l.length (λn s=>s=(n:Int)/\∀i,i<n->a.l[i]?=b.l[i]?) ⟨rfl,λi h=>absurd h Zaa⟩ ?_ ?_;rintro n _ u ⟨rfl,w⟩;unfold fR.bn;have z:n<b.l.length:=by omega
 rw[gE u,bE,bF u,ζb,bF z,ζb,ct];refine⟨λB=>(bh _).2 ⟨cF n Zaa,λi c=>?_⟩,λB=>(bh _).2 ((bh _).2 ?_)⟩;grind;grind;rintro _ ⟨rfl,w⟩;unfold fR.bn;rw[iA,bJ,bh];refine(bh _).2 (decide_eq_true (List.ext_getElem? λi=>?_)).symm;grind;grind
theorem fM(s:Zb):(ins s).length=s.l.length:=by unfold ins;simp
theorem V8(s:Zb)(i:Nat):(ins s)[i]?=(s.l[i]?).map Sl.l:=by unfold ins;grind
theorem uB{s:Zb}{i:Nat}(h:i<s.l.length):(ins s)[i]?=some s.l[i].l:=by rw[V8,ζd h];rfl
theorem Ls{l:Zb}{c:Zg}(Y:∀x∈l.l,GR x.l/\x.l.length=c.l.length)(b:GR c.l)(v:l.l.length<1073741824)(f:(ins l).Pairwise fG):
 Wp (iI l c) λr=>r.l.length<=l.l.length+1/\(ins r).Pairwise fG/\∀d,d∈ins r↔d∈ins l\/d=c.l:=by
 have Z:=b.1;have a:∀n:Nat,n<=l.l.length->(∀(i:Nat)x,i<n->(ins l)[i]?=some x->fG x c.l)->(∀x,(ins l)[n]?=some x->¬fG x c.l)->
  Wp ((bl (decide ((n:Int)<(len l))) ((idx l n).bind λO=>(fR O c).bind λQ=>some Q) (some false):a_ X').bind λS=>
  bl S (some l) ((h_ l none (some (n:Int))).bind λB=>(oG (Sl.row []:Zb) B).bind λC=>(eU C (c:Zg)).bind λD=>(h_ l (some (n:Int)) none).bind λG=>(oG D G).bind λI=>some I))
  λr=>r.l.length<=l.l.length+1/\(ins r).Pairwise fG/\∀d,d∈ins r↔d∈ins l\/d=c.l:=by
  intro n J T U;have z:(∀x,(ins l)[n]?=some x->x≠c.l)->Wp ((h_ l none (some (n:Int))).bind λB=>(oG (Sl.row []:Zb) B).bind λC=>(eU C (c:Zg)).bind λD=>(h_ l (some (n:Int)) none).bind λG=>(oG D G).bind λI=>some I) λr=>r.l.length<=l.l.length+1/\(ins r).Pairwise fG/\∀d,d∈ins r↔d∈ins l\/d=c.l:=by intro W;have⟨x4,g,e4⟩:=tF l n J;have y:x4.l.length<=l.l.length:=Zac;have⟨x5,j,e5⟩:=Cb (s:=(Sl.row []:Zb)) (x:=x4) (show 0+x4.l.length<=_ by omega);have e5:x5.l=x4.l:=e5;have⟨x6,m,e6⟩:=tI (s:=x5) (x:=c) Zac;have⟨x7,o,e7⟩:=La l n J;have⟨x8,Z,A⟩:=Cb (s:=x6) (x:=x7) Zac;rw[g,ζb,j,ζb,m,ζb,o,ζb,Z,ζb,bh];have e:x8.l=l.l.take n++[c]++l.l.drop n:=Zad;have p:ins x8=(ins l).take n++[c.l]++(ins l).drop n:=(by unfold ins;simp_all);have⟨E,F⟩:=M_ f T λx u=>(by by_cases k:fG c.l x;omega;exact absurd (fG.tot k (U x u)).symm (W x u));exact⟨by rw[e];simp;omega,by rw[p];omega,λd=>Zad⟩
  by_cases h:n<l.l.length
  .rw[gE h,bE,bF h,ζb,P_ (by have:=(Y _ (getElem_mem h)).1.1;omega),ζb,ζb]
   by_cases e:l.l[n].l=c.l
   .rw[decide_eq_true e,bE,bh];refine⟨Zaa,f,λd=>⟨.inl,λX=>X.elim id λX=>?_⟩⟩
    rw[X,<-e];exact nX.2 ⟨_,getElem_mem h,rfl⟩
   rw[decide_eq_false e,bJ];exact z λx u=>by rw[uB h]at u;cases u;exact e
  rw[show(n:Int)=(l.l.length:Nat)from Zaa,iA,bJ,ζb,bJ,<-show(n:Int)=(l.l.length:Nat)from Zaa]
  exact z λx u=>by have:=(ζe.1 u).1;rw[fM]at this;omega
 unfold iI iI.W1;refine fC l.l.length (λn s=>s=(n:Int)/\∀(i:Nat)x,i<n->(ins l)[i]?=some x->fG x c.l) ⟨rfl,λi x h=>absurd h Zaa⟩ ?_ ?_
 .rintro n _ w ⟨rfl,L⟩;have⟨q,t⟩:=Y _ (getElem_mem w);unfold iI.bn;rw[gE w,bE,bF w,ζb,KY q b t,ζb,ζb]
  by_cases e:fG l.l[n].l c.l
  .rw[decide_eq_true e,bE,bh];refine⟨cF n Zaa,λi x H u=>?_⟩
   by_cases e2:i=n
   .subst e2;rw[uB w]at u;cases u;exact e
   exact L i x Zaa u
  rw[decide_eq_false e,bJ,bh];exact a n Zaa L λx u=>by rw[uB w]at u;cases u;exact e
 rintro _ ⟨rfl,L⟩;unfold iI.bn;rw[iA,bJ,ζb,bJ,bh];exact a _ (le_refl _) L λx u=>by have:=(ζe.1 u).1;rw[fM]at this;omega
section
variable{t:Z4}{A:cH 200 bM}
structure qn(t:Trace)(A:cH 200 bM)(L:List (List Int)):Prop where
 srt:L.Pairwise fG
 mem:∀d,d∈L↔Cons t A d
def Cn(t:Z4)(A:cH 200 bM):Prop:=∃L:aZ SW,L.Nodup/\(∀d∈L,Cons t A d)/\5000<L.length
theorem qn.one{L R:aZ SW}(h:qn t A L)(k:qn t A R):L=R:=Fh h.srt k.srt λx=>(h.mem x).trans (k.mem x).symm
theorem qn.not{L:aZ SW}(h:qn t A L)(B:L.length<=5000)(k:Cn t A):False:=by have⟨R,nd,w,u⟩:=k;have:=Az nd λx z=>(h.mem x).2 (w x z);omega
theorem GA{k:Nat}{o l:aZ SW}(c:∀d,d∈l↔Cons t A d/\d.sum=(k:Int))(B:l.Pairwise fG)(D:o.Pairwise fG)(G:∀d,d∈o↔Cons t A d/\d.sum<(k:Int)):
 (o++l).Pairwise fG/\∀d,d∈o++l↔Cons t A d/\d.sum<((k+1:Nat):Int):=by
 refine⟨List.pairwise_append.2 ⟨D,B,λa u b w=>fG.sum Zac⟩,λd=>?_⟩
 grind
theorem PL(E:Small t)(i:VT t)(o:iW t (bY t) A):Wp (eT t) λr=>(r.2=true/\qn t A (ins r.1)/\r.1.l.length<=5000)\/(r.2=false/\r.1=.nil/\Cn t A):=by
 have Y:=i.few;unfold eT xU;rw[if_pos ⟨Zad,Zac⟩,ζb];unfold eT.W1;have fin:∀(k:Nat)(u out:Zb),AI t A k u->u.l.length=0->(ins out).Pairwise fG->(∀d,d∈ins out↔Cons t A d/\d.sum<(k:Int))->qn t A (ins out):=λk u out b Q G J=>⟨G,λd=>(J d).trans ⟨λh=>h.1,λh=>⟨h,b.none i o Q h⟩⟩⟩
 refine fC (s9 t+1) (λk s=>AI t A k s.1/\(ins s.1).Pairwise fG/\(ins s.2).Pairwise fG/\(∀d,d∈ins s.2↔Cons t A d/\d.sum<(k:Int))/\s.1.l.length<=40000/\s.2.l.length<=5000)
  ⟨WX (by simp[Sl.l,len]),by simp[ins,Sl.l],by simp[ins,Sl.l],λd=>⟨λh=>by simp[ins,Sl.l]at h,λh=>absurd (rJ h.1.1.pos) Zac⟩,by simp[Sl.l],by simp[Sl.l]⟩ ?_ ?_
 rintro k ⟨u,out⟩ N ⟨b,C,w,G,J,L⟩;simp only at b C w G J L;unfold eT.bn;rw[Ec];by_cases Q:u.l.length=0;rw[show(!decide (u.l.length=0))=false from Zad,bJ,bh];exact(bh _).2 (.inl ⟨rfl,fin k u out b Q w G,L⟩);rw[show(!decide (u.l.length=0))=true from Zad,bE];have⟨x,Z,P⟩:=Cb (s:=out) (x:=u) Zaa;have S:ins x=ins out++ins u:=by unfold ins;grind
 have⟨o1,o2⟩:=GA b C w G;rw[<-S]at o1 o2;rw[Z,ζb,ct];refine⟨λT=>(bh _).2 ((bh _).2 (.inr ⟨rfl,rfl,ins x,fG.nodup o1,λd hd=>((o2 d).1 hd).1,?_⟩)),λT=>?_⟩;rw[fM];grind;have T:x.l.length<=5000:=Zac;have R:u.l.length<=5000:=Zac;have F:∀d,Cons t A d->GR d/\d.length=t.procs.l.length:=λd h=>⟨VW E i h,h.1.1⟩;unfold eT.W2;refine fC u.l.length (λn s=>s.2=(n:Int)/\s.1.l.length<=8*n/\(ins s.1).Pairwise fG/\∀d,d∈ins s.1↔∃c∈(u.l.take n).map Sl.l,C5 t A c d) ⟨rfl,zero_le _,by simp[ins,Sl.l],λd=>by simp[ins,Sl.l]⟩ ?_ ?_;rintro n ⟨more,_⟩ B ⟨e,g1,j,g2⟩;simp only at e g1 j g2;subst e;unfold eT.bV;have U:=(b u.l[n].l).1 (nX.2 ⟨_,getElem_mem B,rfl⟩);rw[gE B,bE,bF B,ζb,eW];refine(Uv E i o U.1).mono λnx O=>?_;unfold eT.W3;refine fC nx.l.length (λm s=>s.2=(m:Int)/\s.1.l.length<=8*n+m/\(ins s.1).Pairwise fG/\∀d,d∈ins s.1↔d∈ins more\/d∈(nx.l.take m).map Sl.l) ⟨rfl,g1,j,λd=>Zab⟩ ?_ ?_;rintro m ⟨W,_⟩ D ⟨e,q,fs,g⟩;simp only at e q fs g;subst e;unfold eT.eX;rw[gE D,bE,bF D,ζb,eW];have H:=(O.2 nx.l[m].l).1 (nX.2 ⟨_,getElem_mem D,rfl⟩);have⟨_,_,_,_,X⟩:=H;refine(Ls (l:=W) (c:=nx.l[m]) (λy K=>?_) (F _ X).1 Zaa fs).mono λr v=>?_;have V:Cons t A y.l:=by rcases(g y.l).1 (nX.2 ⟨_,K,rfl⟩)with h|h;have⟨_,_,p,a,_,_,k⟩:=(g2 y.l).1 h;omega;have⟨z,M,e⟩:=List.mem_map.1 h;have⟨p,a,_,_,k⟩:=(O.2 z.l).1 (nX.2 ⟨_,List.mem_of_mem_take M,rfl⟩);rw[<-e];exact k
 grind;refine(bh _).2 ⟨cF m Zaa,Nat.le_trans v.1 Zaa,v.2.1,λd=>?_⟩;rw[v.2.2,g,xx D,or_assoc];rintro⟨W,_⟩ ⟨e,q,fs,g⟩;simp only at e q fs g;subst e;unfold eT.eX;rw[iA,bJ,bh];refine(bh _).2 ⟨cF n Zaa,show W.l.length<=_ by omega,fs,λd=>?_⟩;rw[g,take_length];constructor;rintro(h|h);have⟨c,f,I⟩:=(g2 d).1 h;exact⟨c,(xx B).2 (.inl f),I⟩;exact⟨_,(xx B).2 (.inr rfl),(O.2 d).1 h⟩;rintro⟨c,f,I⟩;rcases(xx B).1 f with h|h;exact .inl ((g2 d).2 ⟨c,h,I⟩);subst h;exact .inr ((O.2 d).2 I);rintro⟨more,_⟩ ⟨e,g1,j,g2⟩;simp only at e g1 j g2;subst e;unfold eT.bV;rw[iA,bJ,bh];refine(bh _).2 ⟨λd=>?_,j,o1,o2,show more.l.length<=_ by omega,T⟩;rw[g2,take_length,<-C5.iff i o (k:=k)];exact⟨λ⟨c,f,I⟩=>⟨c,(b c).1 f,I⟩,λ⟨c,f,I⟩=>⟨c,(b c).2 f,I⟩⟩;rintro⟨u,out⟩ ⟨b,C,w,G,J,L⟩;simp only at b C w G J L;unfold eT.bn;rw[Ec,show(!decide (u.l.length=0))=false from by simp[b.last],bJ,bh];exact(bh _).2 (.inl ⟨rfl,fin _ u out b b.last w G,L⟩)
theorem Sw(a:VT t)(b:Small t):s9 t<8589934600:=by
 have key:∀(l:aZ bX),(∀p∈l,p.events.l.length<1073741824)->(l.map λP=>P.events.l.length).sum<=1073741824*l.length:=by intro l;induction l with|nil=>grind|cons x l w=>grind
 have c:=key t.procs.l λp u=>(b.2 p u).1;have z:=a.few;unfold s9;omega
theorem VM{k:Int}{L:aZ SW}(nd:L.Nodup)(B:L.Pairwise λx y=>¬gb y x<0)(a:∀d∈L,d.sum=k):L.Pairwise fG:=by refine(B.and nd).imp_of_mem λ{x y}u w h=>?_;have e:x.sum=y.sum:=Zac;rw[fG.Ix e];by_cases q:gb x y<0;omega;exact absurd (zk _ _ q h.1) h.2
theorem Pb(c:Small t)(g:dz t=some true)(b:VT t)(f:iW t (bY t) A):
 Wp (tB t) λr=>(r.2=0/\qn t A (ins r.1)/\r.1.l.length<=5000)\/(r.2=16/\r.1=.nil/\Cn t A):=by
 have S:=b.few;have X:=Sw b c;unfold tB kK;rw[g,ζb,bE,eW,eW];refine(of_wp c g b f).mono λm T=>?_
 unfold xU;rw[if_pos ⟨Zad,Zac⟩,ζb]
 have fin:∀(k:Nat)(u:Zb)(out:Sl Zb),AI t A k u->u.l.length=0->(out.l.flatMap ins).Pairwise fG->(∀d,d∈out.l.flatMap ins↔Cons t A d/\d.sum<(k:Int))->out.l.length<=5000->(out.l.flatMap ins).length<=5000->
  Wp ((gC out).bind λC=>some (C,(0:Int))) λr=>(r.2=0/\qn t A (ins r.1)/\r.1.l.length<=5000)\/(r.2=16/\r.1=.nil/\Cn t A):=λk u out a L D U Y Z=>by
  have w:(out.l.flatMap Sl.l).map Sl.l=out.l.flatMap ins:=by rw[List.map_flatMap];rfl
  have i:(Dm out).l=out.l.flatMap Sl.l:=by unfold Dm;split;(next h=>exact(List.length_eq_zero_iff.1 h).symm);rfl
  unfold gC;rw[if_pos ⟨Zaa,Zac⟩,ζb,bh]
  have e:ins (Dm out)=out.l.flatMap ins:=by unfold ins at w⊢;grind
  refine .inl ⟨rfl,⟨Zac,λd=>by rw[e];exact(U d).trans ⟨λh=>h.1,λh=>⟨h,a.none b f L h⟩⟩⟩,?_⟩
  grind
 unfold kK.W1;refine fC (s9 t+1) (λk s=>AI t A k s.1/\(ins s.1).Pairwise fG/\(s.2.1.l.flatMap ins).Pairwise fG/\(∀d,d∈s.2.1.l.flatMap ins↔Cons t A d/\d.sum<(k:Int))/\s.2.2=((s.2.1.l.flatMap ins).length:Int)/\s.2.1.l.length<=(s.2.1.l.flatMap ins).length/\(s.2.1.l.flatMap ins).length<=5000/\s.1.l.length<=40000)
  ⟨WX (by simp[Sl.l,len]),by simp[ins,Sl.l],by simp[Sl.l],λd=>⟨λh=>by simp[Sl.l]at h,λh=>absurd (rJ h.1.1.pos) Zac⟩,by simp[Sl.l],by simp[Sl.l],by simp[Sl.l],by simp[Sl.l]⟩ ?_ ?_
 .rintro k ⟨u,out,tot⟩ hk ⟨a,B,z,D,J,O,G,Q⟩;simp only at a B z D J O G Q;have⟨o1,o2⟩:=GA a B z D;unfold kK.bn;rw[Ec]
  by_cases L:u.l.length=0
  .rw[show(!decide (u.l.length=0))=false from Zad,bJ,bh]
   exact(bh _).2 (fin k u out a L z D Zaa G)
  rw[show(!decide (u.l.length=0))=true from Zad,bE,J]
  have W:wrap .i64 (((out.l.flatMap ins).length:Int)+len u)=(((out.l.flatMap ins).length+u.l.length:Nat):Int):=by have e:len u=(u.l.length:Int):=rfl;rw[e,gW _ Zaa Zaa];omega
  rw[W,ct];refine⟨λI=>(bh _).2 ((bh _).2 ?_),λI=>?_⟩
  .show Wp (((gC (Sl.nil:Sl Zb)).bind λC=>some (C,(16:Int)))) _
   have e0:gC (Sl.nil:Sl Zb)=some .nil:=by unfold gC;rfl
   rw[e0,ζb,bh];refine .inr ⟨rfl,rfl,out.l.flatMap ins++ins u,fG.nodup o1,λd hd=>((o2 d).1 hd).1,?_⟩
   have I:=of_decide_eq_true I;rw[ζi,fM];omega
  have I:=of_decide_eq_false I;have⟨o3,g1,g2⟩:=tI (s:=out) (x:=u) Zaa
  rw[g1,ζb,eW];refine(Sk c b f T a Zaa).mono λr⟨r1,r2,r3,r4⟩=>?_
  have w:o3.l.flatMap ins=out.l.flatMap ins++ins u:=by rw[g2];simp
  refine(bh _).2 ⟨r1,VM r2 r4 λd hd=>((r1 d).1 hd).2,by rw[w];exact o1,λd=>by rw[w];exact o2 d,by rw[w,ζi,fM],?_,?_,r3⟩
  .show o3.l.length<=_;rw[w,ζi,fM,g2,ζi,List.length_singleton];omega
  rw[w,ζi,fM];omega
 rintro⟨u,out,tot⟩ ⟨a,B,z,D,J,O,G,Q⟩;simp only at a B z D J O G Q;unfold kK.bn;rw[Ec,show(!decide (u.l.length=0))=false from by simp[a.last],bJ,bh]
 exact(bh _).2 (fin _ u out a a.last z D Zaa G)
theorem N1(a:Small t)(f:dz t=some true)(c:VT t)(d:iW t (bY t) A):
 (∃L r s,qn t A L/\L.length<=5000/\tB t=some (r,0)/\eT t=some (s,true)/\ins r=L/\ins s=L)\/
 (tB t=some (.nil,16)/\eT t=some (.nil,false)):=by
 have⟨⟨r,e⟩,g,h⟩:=Pb a f c d;have⟨⟨s,b⟩,z,w⟩:=PL a c d;rcases h with⟨rfl,k1,C⟩|⟨rfl,rfl,k1⟩
 .rcases w with⟨rfl,u,B⟩|⟨rfl,rfl,u⟩
  .exact .inl ⟨ins r,r,s,k1,by rw[fM];omega,g,z,rfl,u.one k1⟩
  exact(k1.not (by rw[fM];omega) u).elim
 rcases w with⟨rfl,u,B⟩|⟨rfl,rfl,u⟩
 .exact(u.not (by rw[fM];omega) k1).elim
 grind
end
section
variable{t:Z4}{A:cH 200 bM}
theorem OD {c c':Sl Int} {l:Sl (Sl Int)} (D:c'.l=c.l) (h:Zu t A c l) (q:Pred):xS t q->q.kind<=8->∀n,q.dp<=n ->
 ∃x,dA (λr (z:cq×Pred)=>eP z.1 z.2 r) n (⟨t,c,l⟩,q)=some x/\dA (λr (z:Trace×(Sl Int)×Pred)=>jF z.1 z.2.1 z.2.2 r) n (t,c',q)=some x:=by
 induction q using Pred.ind with
 | h q S=>
  intro hc hk n hn;have hd:=q.sB;obtain⟨hS,hv,hV,hM,hC,L⟩:=h;obtain⟨T,hr,hy⟩:=hc.here;obtain⟨k1,-,-⟩:=xo T;have S:=λq hq=>S q hq (hc.uE hq) (hc.int Zaa hq) (n-1) (by have:=Pred.qQ hq;omega)
  rw[jq Zaa,jq Zaa]
  show ∃x,eP ⟨t,c,l⟩ q (dA (λr (z:cq×Pred)=>eP z.1 z.2 r) (n-1))=some x/\jF t c' q (dA (λr (z:Trace×(Sl Int)×Pred)=>jF z.1 z.2.1 z.2.2 r) (n-1))=some x
  generalize dA (λr (z:cq×Pred)=>eP z.1 z.2 r) (n-1)=R at S ⊢
  generalize dA (λr (z:Trace×(Sl Int)×Pred)=>jF z.1 z.2.1 z.2.2 r) (n-1)=R' at S ⊢
  unfold eP jF;rcases (show q.kind=1\/q.kind=2\/q.kind=3\/q.kind=4\/5<=q.kind by omega)with hk|hk|hk|hk|hk
  .rw[hk];exact⟨q.n,rfl,rfl⟩
  .unfold o9 at hr;rw[if_pos (by simpa using hk)]at hr
   simp only[ζh]at hr;obtain⟨hp,-,U⟩:=hr;obtain⟨i,hi,ab⟩:=FB hS (p:=q.proc) (by simp only[ζh];exact hp) q.name
   rcases ab with⟨m,k,P,y,J,C,rfl,O,h1,h2,-⟩|⟨-,W⟩
   .have X:=(ζe.1 O).1;have B:=(ζe.1 C).1;obtain⟨a,G⟩:=hC.1.at_ B;obtain⟨a0,a1⟩:=hC.1.2 m a P G C;obtain⟨x,hx,ad⟩:=L m P a C G;refine⟨mY P k a.toNat,?_,?_⟩
    .rw[hk,show ((2:Int)==1)=false from rfl,bJ,show ((2:Int)==2)=true from rfl,bE];unfold oH;simp only;rw[J,jd,C,ζb,DE (p:=λz=>kH z q) (f:=λw=>ByteArray.toList w.name==ByteArray.toList q.name) (λ_ _=>rfl) (hS.2 P (List.mem_of_getElem? C)).2.1,Ja O h1 h2,ζb,jd,hx,ζb,jd,ad,GJ _ X]
     rfl
    rw[hk,show ((2:Int)==1)=false from rfl,bJ,show ((2:Int)==2)=true from rfl,bE,J,Qj hS C O h1 h2,ζb,jd,D,G,ζb];have:=Qh hS hV.ok C X (a:=a.toNat) Zaa
    rw[show ((a.toNat:Nat):Int)=a from by omega]at this
    rw[this];rfl
   rw[W]at U;cases U
  .unfold o9 at hr;rw[if_neg (by simp[hk]),if_pos (by simpa using hk)]at hr
   simp only[ζh]at hr;obtain⟨m,J,B⟩:=vP (t:=t) (p:=q.proc) (by simp only[ζh];exact hr.1)
   obtain⟨a,G⟩:=hC.1.at_ B;refine⟨a,?_,?_⟩
   .rw[hk,show ((3:Int)==1)=false from rfl,bJ,show ((3:Int)==2)=false from rfl,bJ,show ((3:Int)==3)=true from rfl,bE];simp only;rw[J,jd,G];rfl
   rw[hk,show ((3:Int)==1)=false from rfl,bJ,show ((3:Int)==2)=false from rfl,bJ,show ((3:Int)==3)=true from rfl,bE,J,jd,D,G];rfl
  .unfold o9 at hr;rw[if_neg (by simp[hk]),if_neg (by simp[hk]),if_pos (by simpa using hk)]at hr
   simp only[ζh]at hr;obtain⟨m,J,B⟩:=vP (t:=t) (p:=q.proc) (by simp only[ζh];exact hr.1)
   obtain⟨o,ho,Q⟩:=vP (t:=t) (p:=q.peer) (by simp only[ζh];exact hr.2.1)
   obtain⟨a,G⟩:=hC.1.at_ B;obtain⟨b,hb⟩:=hC.1.at_ Q;have C:=ζd B;have hQ:=ζd Q;obtain⟨⟨u,e2⟩,hu,ae,Y⟩:=SN hS hv hV hM hC B Q;simp only at ae Y;obtain⟨s,hs,hsl⟩:=Lq (c:=c') hS (by rw[D];exact hC.1) C (by rw[D];exact G) o
   rw[D]at hsl;refine⟨len u,?_,?_⟩
   .rw[hk,show ((4:Int)==1)=false from rfl,bJ,show ((4:Int)==2)=false from rfl,bJ,show ((4:Int)==3)=false from rfl,bJ,show ((4:Int)==4)=true from rfl,bE];unfold pH;simp only;rw[J,ho,hu];rfl
   rw[hk,show ((4:Int)==1)=false from rfl,bJ,show ((4:Int)==2)=false from rfl,bJ,show ((4:Int)==3)=false from rfl,bJ,show ((4:Int)==4)=true from rfl,bE,J,ho,hs,ζb];show some ((s.l.length:Nat):Int)=some ((u.l.length:Nat):Int);rw[hsl,Y,HF hV hM hC C hQ G hb]
  have I:∀j:Int,j<5->(q.kind==j)=false:=λj hj=>by simp;omega
  rw[I 1 Zaa,I 2 Zaa,I 3 Zaa,I 4 Zaa]
  simp only[bJ];have hl:0<q.l.l.length:=by
   rcases (show q.kind=5\/q.kind=6\/q.kind=7\/q.kind=8 by omega)with g|g|g|g
   .have:=Pred.parts T (c:=1) (by rw[g];rfl);omega
   .have:=Pred.parts T (c:=2) (by rw[g];rfl);omega
   .have:=Pred.parts T (c:=2) (by rw[g];rfl);omega
   have:=Pred.parts T (c:=2) (by rw[g];rfl);omega
  obtain⟨x,x1,x2⟩:=S _ (List.getElem_mem hl);have Z:idx q.l 0=some q.l.l[0]:=bF (i:=0) hl
  by_cases g:q.kind=5
  .rw[g,show ((5:Int)==5)=true from rfl,bE,bE,Z,ζb,x1,ζb,ζb,x2,ζb];exact⟨_,rfl,rfl⟩
  have aa:1<q.l.l.length:=by
   have:=Pred.parts T (c:=2) (by rcases (show q.kind=6\/q.kind=7\/q.kind=8 by omega)with g|g|g <;> (rw[g];rfl))
   omega
  obtain⟨y,y1,y2⟩:=S _ (List.getElem_mem aa);have af:idx q.l 1=some q.l.l[1]:=bF (i:=1) aa;rw[Z,af];simp only[ζb,x1,x2,y1,y2];rw[show (q.kind==5)=false from by simpa using g,bJ]
  cases q.kind==6 <;> cases q.kind==7 <;> exact⟨_,rfl,rfl⟩
theorem K_{c c':Zg}{l:Zb}(U:c'.l=c.l)(h:Zu t A c l)(q:Pred):xS t q->9<=q.kind->q.dp<=20->q.gH (λk=> !tW k)=true->∀n,q.dp<=n->
 ∃x,dA (λr(z:cq×Pred)=>fe z.1 z.2 r) n (⟨t,c,l⟩,q)=some x/\dA (λr(z:Z4×(Zg)×Pred)=>jB z.1 z.2.1 z.2.2 r) n (t,c',q)=some x:=by
 induction q using Pred.ind with
 |h q G=>
  intro a b W C n d;have hd:=q.sB;have⟨I,e,f⟩:=a.here;obtain⟨k1,j,-⟩:=xo I;rw[q.lz,ζh,all_eq_true]at C;have X:q.kind<=17:=by have:=C.1;unfold tW at this;by_cases g:q.kind>=18;rw[decide_eq_true g,decide_eq_true (show q.kind<=21 by omega)]at this;cases this;omega
  have B:∀k∈q.l.l,k.kind<=8->∃x,eS ⟨t,c,l⟩ k=some x/\jZ t c' k=some x:=λk b Q=>OD U h k (a.uE b) Q 100000 (by have:=Pred.qQ b;omega)
  have D:13<=q.kind->∀k∈q.l.l,9<=k.kind:=λg k b=>by have:=a.here.2.2;unfold qX at this;rw[all_eq_true]at this;have:=this k b;unfold vz nQ at this;rw[if_neg (show¬q.kind<=12 by omega)]at this;by_cases Y:k.kind<=8;rw[if_pos Y]at this;cases this;omega
  have G:=λg q J=>G q J (a.uE J) (D g q J) (by have:=Pred.qQ J;omega) (C.2 q J) (n-1) (by have:=Pred.qQ J;omega)
  rw[jq Zaa,jq Zaa]
  show∃x,fe ⟨t,c,l⟩ q (dA (λr(z:cq×Pred)=>fe z.1 z.2 r) (n-1))=some x/\jB t c' q (dA (λr(z:Z4×(Zg)×Pred)=>jB z.1 z.2.1 z.2.2 r) (n-1))=some x
  generalize dA (λr(z:cq×Pred)=>fe z.1 z.2 r) (n-1)=R at G⊢
  generalize dA (λr(z:Z4×(Zg)×Pred)=>jB z.1 z.2.1 z.2.2 r) (n-1)=R' at G⊢
  unfold fe jB fZ.J1
  by_cases L:q.kind<=12
  .have Z:=Pred.parts I (c:=2) (by rcases(show q.kind=9\/q.kind=10\/q.kind=11\/q.kind=12 by omega)with g|g|g|g<;>(rw[g];rfl))
   have u:0<q.l.l.length:=Zaa
   have w:1<q.l.l.length:=Zaa
   have⟨x,O,x2⟩:=B _ (getElem_mem u) (a.int L (getElem_mem u));have⟨y,S,T⟩:=B _ (getElem_mem w) (a.int L (getElem_mem w));rw[show idx q.l 0=some q.l.l[0]from bF (i:=0) u,show idx q.l 1=some q.l.l[1]from bF (i:=1) w];simp only[ζb,O,x2,S,T];rcases(show q.kind=9\/q.kind=10\/q.kind=11\/q.kind=12 by omega)with g|g|g|g<;>rw[g]<;>exact⟨_,rfl,rfl⟩
  by_cases m:q.kind<=14
  .rcases (show q.kind=13\/q.kind=14 by omega)with g|g<;>rw[g]<;>exact⟨_,rfl,rfl⟩
  have u:0<q.l.l.length:=by rcases(show q.kind=15\/q.kind=16\/q.kind=17 by omega)with g|g|g;have:=Pred.parts I (c:=1) (by rw[g];rfl);omega;have:=Pred.parts I (c:=2) (by rw[g];rfl);omega;have:=Pred.parts I (c:=2) (by rw[g];rfl);omega
  have⟨x,O,x2⟩:=G Zaa _ (getElem_mem u)
  rw[show idx q.l 0=some q.l.l[0]from bF (i:=0) u]
  by_cases g:q.kind=15
  .rw[g];simp only[ζb,O,x2];exact⟨_,rfl,rfl⟩
  have w:1<q.l.l.length:=by have:=Pred.parts I (c:=2) (by rcases(show q.kind=16\/q.kind=17 by omega)with g|g<;>(rw[g];rfl));omega
  have⟨y,S,T⟩:=G Zaa _ (getElem_mem w)
  rw[show idx q.l 1=some q.l.l[1]from bF (i:=1) w];simp only[ζb,O,x2,S,T];rcases(show q.kind=16\/q.kind=17 by omega)with g|g<;>rw[g]<;>cases x<;>exact⟨_,rfl,rfl⟩
end
section
variable{t:Z4}
end
theorem WI{a b:Sl X'}(B:a.l.length<=1073741824)(h:a.l=b.l):fE a b=some true:=by unfold fE;rw[show(len a==len b)=true from by simp[len,h],bE];refine Wp.eq ?_;unfold fE.W1;refine fC a.l.length (λn s=>s=(n:Int)) rfl ?_ ?_;rintro i _ c rfl;unfold fE.bn;rw[gE c,bE,bF c,ζb,show idx b (i:Int)=some a.l[i]from by rw[jd,<-h];exact ζd c,ζb,show(a.l[i]==a.l[i])=true from Zab,bE,bh,cF i Zaa];rintro _ rfl;unfold fE.bn;rw[iA,bJ,bh];exact(bh _).2 rfl
section
variable{t:Z4}
end
section
variable{t:Z4}
end
section
variable{t:Z4}{A:cH 200 bM}
theorem RT(a:Small t):∃b,jr t=some b:=by
 have:Wp (jr t) λ_=>True:=by have c:=a.1;unfold jr jr.W1;refine fC t.procs.l.length (λn s=>s.2=(n:Int)) rfl ?_ ?_;rintro n ⟨o,_⟩ u e1;simp only at e1;subst e1;unfold jr.bn;rw[gE u,bE,bF u,ζb,bh,cF n Zaa];rintro⟨o,_⟩ e1;simp only at e1;subst e1;unfold jr.bn;rw[iA,bJ,bh];exact(bh _).2 trivial
 obtain⟨b,w,-⟩:=this;exact⟨b,w⟩
end
def pn:aZ SW->aZ X'->aZ SW
 |x::r,b::s=>if b then x::pn r s else pn r s|_,_=>[]
theorem Bs:∀(xs:aZ SW)(bs:aZ X')(n:Nat)(x:SW)(b:X'),xs[n]?=some x->bs[n]?=some b->pn (xs.take (n+1)) (bs.take (n+1))=pn (xs.take n) (bs.take n)++(if b then[x]else[])
 |[],_,n,x,b,h,_=>by simp at h|_::_,[],n,x,b,_,h=>by simp at h|y::r,a::s,0,x,b,h,k=>by simp at h k;subst h k;cases a<;>simp[pn]|y::r,a::s,n+1,x,b,h,k=>by have:=Bs r s n x b (by simpa using h) (by simpa using k);simp only[List.take_succ_cons,pn];rw[this];cases a<;>simp
theorem LI(o:Zb)(x:Zg):ins (.row (o.l++[x]):Zb)=ins o++[x.l]:=by show(o.l++[x]).map Sl.l=o.l.map Sl.l++[x.l];simp
theorem Ap:∀(xs:aZ SW)(bs:aZ X'),(pn xs bs).length<=xs.length
 |[],_=>by simp[pn]|_::_,[]=>by simp[pn]|y::r,a::s=>by have:=Ap r s;unfold pn;split<;>simp<;>omega
theorem Dh:∀{xs:aZ SW}{bs:aZ X'}{y:SW},y∈pn xs bs->y∈xs
 |[],_,y,h=>by simp[pn]at h|_::_,[],y,h=>by simp[pn]at h|x::r,a::s,y,h=>by
  unfold pn at h
  cases a with
  |true=>rcases mem_cons.1 h with rfl|h;exact List.mem_cons_self ..;exact mem_cons_of_mem _ (Dh h)
  |false=>exact mem_cons_of_mem _ (Dh h)
theorem XL{tb:Sl X'}{r:Zb}(U:tb.l.length=r.l.length)(W:r.l.length<=5000):∃o,fL.W1 tb (Sl.nil:Zb) r (len r) 0=some (o,0)/\ins o=pn (ins r) tb.l:=by
 have p1:Wp (fL.W1 tb (Sl.nil:Zb) r (len r) 0) λw=>w.2=0/\ins w.1=pn (ins r) tb.l:=by unfold fL.W1;refine fC r.l.length (λn s=>s.2=(n:Int)/\ins s.1=pn ((ins r).take n) (tb.l.take n)) ⟨rfl,rfl⟩ ?_ ?_;rintro n ⟨o,_⟩ u ⟨e1,e2⟩;simp only at e1 e2;subst e1;have B:n<tb.l.length:=(by omega);have D:=Bs (ins r) tb.l n _ _ (uB u) (ζd B);have L:o.l.length<=5000:=(by have a:=Ap ((ins r).take n) (tb.l.take n);rw[<-e2,fM,length_take,fM]at a;omega);unfold fL.bn;rw[gE u,bE,bF u,ζb,bF B,ζb];(cases G:tb.l[n]with|true=>rw[G,if_pos rfl]at D;have C:eU o (r.l[n]:Zg)=some (.row (o.l++[r.l[n]])):=(by unfold eU;rw[if_pos Zaa]);rw[bE,C,ζb,bh,cF n Zaa];exact⟨rfl,by rw[LI,D,e2]⟩|false=>rw[G]at D;rw[bJ,bh,cF n Zaa];exact⟨rfl,by rw[D,e2];simp⟩);rintro⟨o,_⟩ ⟨e1,e2⟩;simp only at e1 e2;subst e1;unfold fL.bn;rw[iA,bJ,bh];rw[take_of_length_le (by rw[fM];omega),take_of_length_le Zaa]at e2;exact(bh _).2 ⟨rfl,e2⟩
 have⟨⟨o,z⟩,a,I,J⟩:=p1;simp only at I J;subst I;exact⟨o,a,J⟩
theorem XS{tb:Sl X'}{r:Zb}(U:tb.l.length=r.l.length)(W:r.l.length<=5000)(e:Int):∃o,iK.W1 tb r e (Sl.nil:Zb) 0=some (o,e)/\ins o=pn (ins r) tb.l:=by
 have p1:Wp (iK.W1 tb r e (Sl.nil:Zb) 0) λw=>w.2=e/\ins w.1=pn (ins r) tb.l:=by unfold iK.W1;refine fC tb.l.length (λn s=>s.2=(n:Int)/\ins s.1=pn ((ins r).take n) (tb.l.take n)) ⟨rfl,rfl⟩ ?_ ?_;rintro n ⟨o,_⟩ u ⟨e1,e2⟩;simp only at e1 e2;subst e1;have B:n<r.l.length:=(by omega);have D:=Bs (ins r) tb.l n _ _ (uB B) (ζd u);have L:o.l.length<=5000:=(by have a:=Ap ((ins r).take n) (tb.l.take n);rw[<-e2,fM,length_take,fM]at a;omega);unfold iK.bn;rw[gE u,bE,bF u,ζb];(cases G:tb.l[n]with|true=>rw[G,if_pos rfl]at D;have C:eU o (r.l[n]:Zg)=some (.row (o.l++[r.l[n]])):=(by unfold eU;rw[if_pos Zaa]);rw[bE,bF B,ζb,C,ζb,bh,cF n Zaa];exact⟨rfl,by rw[LI,D,e2]⟩|false=>rw[G]at D;rw[bJ,bh,cF n Zaa];exact⟨rfl,by rw[D,e2];simp⟩);rintro⟨o,_⟩ ⟨e1,e2⟩;simp only at e1 e2;subst e1;unfold iK.bn;rw[iA,bJ,bh];rw[take_of_length_le (by rw[fM];omega),take_of_length_le Zaa]at e2;exact(bh _).2 ⟨rfl,e2⟩
 have⟨⟨o,z⟩,a,I,J⟩:=p1;simp only at I J;subst I;exact⟨o,a,J⟩
theorem OW{a b:Zb}(J:a.l.length<1073741824)(h:ins a=ins b)(D:∀x∈a.l,x.l.length<1073741824):dW a b=some true:=by
 have w:a.l.length=b.l.length:=by rw[<-fM a,h,fM]
 unfold dW;rw[show(len a==len b)=true from by simp[len,w],bE];refine Wp.eq ?_;unfold dW.W1;refine fC a.l.length (λn s=>s=(n:Int)) rfl ?_ ?_;rintro i _ c rfl;have u:i<b.l.length:=by omega
 have z:a.l[i].l=b.l[i].l:=by have e:=uB c;rw[h,uB u]at e;exact(Option.some.inj e).symm
 unfold dW.bn;rw[gE c,bE,bF c,ζb,bF u,ζb,show(len a.l[i]==len b.l[i])=true from by simp[len,z],bE];have C:dW.W2 a b (i:Int) 0=some (.n (wrap .i64 ((i:Int)+1))):=by refine Wp.eq ?_;unfold dW.W2;refine fC a.l[i].l.length (λn s=>s=(n:Int)) rfl ?_ ?_;rintro k _ d rfl;have G:k<b.l[i].l.length:=(by rw[<-z];exact d);have B:idx b.l[i] (k:Int)=some a.l[i].l[k]:=(by rw[jd,<-z];exact ζd d);have:=D _ (getElem_mem c);unfold dW.bV;rw[bF c,ζb,gE d,bE,ζb,bF d,ζb,bF u,ζb,B,ζb,show(a.l[i].l[k]==a.l[i].l[k])=true from Zab,bE,bh,cF k Zaa];rintro _ rfl;unfold dW.bV;rw[bF c,ζb,iA,bJ,bh];exact(bh _).2 rfl
 rw[C,bh,cF i Zaa];rintro _ rfl;unfold dW.bn;rw[iA,bJ,bh];exact(bh _).2 rfl
section
variable{t:Z4}{A:cH 200 bM}
theorem QI(d:Small t)(hN:(bY t).length<1073741824){p:Pred}(Y:p.Sm):
 ∃r tb s U f,ij t p=some (r,tb,f)/\gZ t p=some (U,s,f)/\tb.l=U.l/\ins r=ins s/\tb.l.length=r.l.length/\r.l.length<=5000/\(∀x∈r.l,x.l.length<1073741824)/\(f≠0->r=Sl.nil):=by
 have a:∀f:Int,∃r tb s U g,some ((Sl.nil:Zb),(Sl.nil:Sl X'),f)=some (r,tb,g)/\some ((Sl.nil:Sl X'),(Sl.nil:Zb),f)=some (U,s,g)/\tb.l=U.l/\ins r=ins s/\tb.l.length=r.l.length/\r.l.length<=5000/\(∀x∈r.l,x.l.length<1073741824)/\(g≠0->r=Sl.nil):=λf=>⟨_,_,_,_,f,rfl,rfl,rfl,rfl,rfl,by simp[Sl.l],by simp[Sl.l],λ_=>rfl⟩
 have⟨e,h1,h2,h3⟩:=Mn d hN Y;unfold ij gZ yN;rw[h1,h2,ζb,ζb]
 by_cases Z:e=0
 .subst Z;have⟨j,c,W,k⟩:=h3 rfl;have hd:=W;simp only[nP,ζh,decide_eq_true_eq]at hd;obtain⟨A,-,-,m⟩:=c.msgs;unfold uZ;rw[show((0:Int)==0)=true from rfl,bE,bE,QO W k,Sx W k,ζb,ζb];simp only;rw[show((0:Int)==0)=true from rfl,bE]
  cases hk:nQ p.kind==2 with
  |false=>exact a 14|true=>
   rw[show(!true)=false from rfl,ζb,bJ,bE,ζb,ζb,show((0:Int)==0)=true from rfl,bE,bE,J7 Y,J6 Y,W,ζb,ζb]
   cases ht:p.gH λq=> !tW q with
   |false=>exact a 15|true=>
    rw[show(true&& !true)=false from rfl,bJ,bJ];have G:nQ p.kind=2:=by simpa using hk
    have h9:9<=p.kind:=by unfold nQ at G;by_cases h:p.kind<=8;rw[if_pos h]at G;cases G;omega
    rcases N1 d j c m with⟨L,r,s,I,h5,v,b,B,J⟩|⟨v,b⟩
    .have O:tN t=some (r,0):=by unfold tN;rw[v];rfl
     have S:r.l.length=s.l.length:=by rw[<-fM r,B,<-J,fM]
     have aa:r.l.length<=5000:=by rw[<-fM r,B];exact h5
     have C:∀x∈r.l,Cons t A x.l:=λx y=>(I.mem _).1 (by rw[<-B];exact nX.2 ⟨x,y,rfl⟩)
     have h8:=c.few
     let g:Nat->X':=λi=>(pq t (s.l[i]?.getD .nil) p).getD false
     have M:∀(i:Nat)(E:i<r.l.length)(F:i<s.l.length),∃l,js t r.l[i]=some (l,0)/\fZ ⟨t,r.l[i],l⟩ p=some (g i)/\pq t s.l[i] p=some (g i):=λi E F=>by have N:=C _ (getElem_mem E);have⟨⟨l,z⟩,a1,P,a3,a4⟩:=YY d j c m N;simp only at P a3 a4;subst P;have ab:s.l[i].l=r.l[i].l:=(by have X:=uB E;have Q:=uB F;rw[B]at X;rw[J]at Q;rw[X]at Q;exact(Option.some.inj Q).symm);have⟨x,H,x2⟩:=K_ ab ⟨d,j,c,m,N,a4⟩ p k h9 Zaa ht 100000 Zaa;have T:g i=x:=(by show(pq t (s.l[i]?.getD .nil) p).getD false=x;rw[ζd F,Option.getD_some,show pq t s.l[i] p=some x from x2];rfl);exact⟨l,a1,by rw[T];exact H,by rw[T];exact x2⟩
     have p1:Wp (ij.W1 r (Sl.nil:Sl X') r (len r) 0 t p) λw=>w.1=r/\w.2.1.l=(range r.l.length).map g/\w.2.2=0:=by unfold ij.W1;refine fC r.l.length (λn s=>s.2=(n:Int)/\s.1.l=(range n).map g) ⟨rfl,rfl⟩ ?_ ?_;rintro n ⟨o,_⟩ u ⟨e1,e2⟩;simp only at e1 e2;subst e1;have ad:o.l.length=n:=(by rw[e2];simp);obtain⟨l,H,x2,-⟩:=M n u Zaa;unfold ij.bn;rw[gE u,bE,bF u,ζb,H,ζb];simp only;rw[show((0:Int)==0)=true from rfl,bE,x2,ζb];have D:eU o (g n)=some (.row (o.l++[g n])):=(by unfold eU;rw[if_pos Zaa]);rw[D,ζb,bh,cF n Zaa];refine⟨rfl,?_⟩;show o.l++[g n]=_;rw[e2,List.range_succ,List.map_append];rfl;rintro⟨o,_⟩ ⟨e1,e2⟩;simp only at e1 e2;subst e1;unfold ij.bn;rw[iA,bJ,bh];exact(bh _).2 ⟨rfl,e2,rfl⟩
     have p2:Wp (gZ.W1 s (Sl.nil:Sl X') 0 t p) λw=>w.1.l=(range r.l.length).map g/\w.2.1=s/\w.2.2=0:=by unfold gZ.W1;refine fC s.l.length (λn s=>s.2=(n:Int)/\s.1.l=(range n).map g) ⟨rfl,rfl⟩ ?_ ?_;rintro n ⟨o,_⟩ u ⟨e1,e2⟩;simp only at e1 e2;subst e1;have ad:o.l.length=n:=(by rw[e2];simp);obtain⟨l,-,-,x3⟩:=M n Zaa u;unfold gZ.bn;rw[gE u,bE,bF u,ζb,x3,ζb];have D:eU o (g n)=some (.row (o.l++[g n])):=(by unfold eU;rw[if_pos Zaa]);rw[D,ζb,bh,cF n Zaa];refine⟨rfl,?_⟩;show o.l++[g n]=_;rw[e2,List.range_succ,List.map_append];rfl;rintro⟨o,_⟩ ⟨e1,e2⟩;simp only at e1 e2;subst e1;unfold gZ.bn;rw[iA,bJ,bh];exact(bh _).2 ⟨by rw[S];exact e2,rfl,rfl⟩
     have⟨⟨r',tb,z⟩,X,Q,K,R⟩:=p1;simp only at Q K R;subst Q R;have⟨⟨U,s',z'⟩,u1,V,u3,u4⟩:=p2;simp only at V u3 u4;subst u3 u4;rw[O,b,ζb,ζb];simp only;rw[show((0:Int)==0)=true from rfl,bE,bE,X,u1];exact⟨_,_,_,_,0,rfl,rfl,by rw[K,V],by rw[B,J],by rw[K];simp,aa,λx y=>by have:=(C x y).1.1;omega,λh=>absurd rfl h⟩
    have O:tN t=some (.nil,16):=by unfold tN;rw[v];rfl
    rw[O,b,ζb,ζb];exact a 16
 rw[show(e==0)=false from by simpa using Z,bJ,bJ,ζb,show(e==0)=false from by simpa using Z,bJ]
 exact a e
theorem NH(b:Small t)(W:(bY t).length<1073741824){p:Pred}(U:p.Sm):mD t p=some true:=by
 have⟨S,C⟩:=U3 b;have⟨c,D⟩:=QN U;have⟨d,G⟩:=RT b;unfold mD;rw[show xG=some true from rfl,ζb,bE,C,ζb,D,ζb,G,ζb];cases S with|true=>rfl|false=>
 cases c with|true=>rfl|false=>
 cases d with|true=>rfl|false=>
 rw[bJ,ζb,bJ,ζb,bJ];have⟨r,tb,s,I,f,g1,g2,g3,g4,g5,g6,g7,T⟩:=QI b W U;have J:s.l.length<=5000:=by rw[<-fM s,<-g4,fM];exact g6
 have L:I.l.length=s.l.length:=by rw[<-g3,g5,<-fM r,g4,fM]
 have⟨o,o1,o2⟩:=XL g5 g6;have⟨w,X,B⟩:=XS L J f;have Y:∃x,fL t p=some (x,f)/\ins x=ins w:=by unfold fL;rw[g1,ζb];simp only;by_cases h:f=0;subst h;rw[show((0:Int)==0)=true from rfl,bE,o1];exact⟨o,rfl,by rw[o2,B,g3,g4]⟩;rw[show(f==0)=false from by simpa using h,bJ];refine⟨_,rfl,?_⟩;rw[B,<-g4,T h];rfl
 have⟨x,Z,u⟩:=Y;have O:x.l.length<=5000/\∀y∈x.l,y.l.length<1073741824:=by refine⟨?_,λy e=>?_⟩;have a:=Ap (ins s) I.l;rw[<-B,<-u,fM,fM]at a;omega;have a:y.l∈ins s:=Dh (bs:=I.l) (by rw[<-B,<-u];exact nX.2 ⟨y,e,rfl⟩);rw[<-g4]at a;have⟨z,g,Q⟩:=nX.1 a;rw[<-Q];exact g7 z g
 unfold uH iK;rw[g1,Z,g2,ζb,ζb,ζb,ζb,ζb];simp only;rw[X,ζb,WI (by rw[g5];omega) g3,ζb,bE,show(f==f)=true from Zab,ζb,bE,OW Zaa u O.2,ζb,ζb,bE,ζb]
end
end Go.VE
namespace Go.VE
theorem AV{α:Type}[cA α]{x:α}:∀{l:aZ α},x∈l->cA.wt x<=(l.map cA.wt).sum
 |y::l,h=>by simp only[map_cons,sum_cons];rcases mem_cons.1 h with rfl|h;omega;have:=AV h;omega
theorem xq{α:Type}[cA α](h:∀x:α,1<=cA.wt x):∀(l:aZ α),l.length<=(l.map cA.wt).sum
 |[]=>le_refl _|y::l=>by simp only[map_cons,sum_cons,length_cons];have:=xq h l;have:=h y;omega
theorem B8{α:Type}[cA α](s:Sl α):cA.wt s=(s.l.map cA.wt).sum+1:=rfl
theorem CK(p:Int):∀(es:aZ WF)(j:Int),(jA p j es).length=es.length
 |[],_=>rfl|_::es,j=>by simp only[jA,length_cons,CK p es]
theorem Jl:∀(ps:aZ bX)(i:Int),(gG i ps).length<=(ps.map cA.wt).sum
 |[],_=>le_refl _|p::ps,i=>by simp only[gG,ζi,CK,map_cons,sum_cons];have a:=Jl ps (i+1);have u:=xq (α:=WF) (λx=>le_add_left ..) p.events.l;have w:cA.wt p=cA.wt p.name+cA.wt p.vars+cA.wt p.events+1:=rfl;have z:=B8 p.events;omega
theorem SI{t:Z4}(h:cA.wt t<=1048576):Small t/\(bY t).length<1073741824:=by have b:cA.wt t=cA.wt t.procs+1:=rfl;have c:=B8 t.procs;have D:=xq (α:=bX) (λx=>le_add_left ..) t.procs.l;have G:=Jl t.procs.l 0;refine⟨⟨Zaa,λp u=>?_⟩,by show(gG 0 t.procs.l).length<_;omega⟩;have I:=AV u;have J:cA.wt p=cA.wt p.name+cA.wt p.vars+cA.wt p.events+1:=rfl;have L:=B8 p.events;have O:=B8 p.vars;have Q:=xq (α:=WF) (λx=>le_add_left ..) p.events.l;have S:=xq (α:=Var) (λx=>le_add_left ..) p.vars.l;have w:cA.wt p.name=p.name.size+1:=rfl;refine⟨Zaa,Zaa,Zaa,λv a=>?_,λe z=>?_⟩;have k1:=AV a;have B:cA.wt v=cA.wt v.name+cA.wt v.init_+1:=rfl;have C:cA.wt v.name=v.name.size+1:=rfl;omega;have k1:=AV z;have B:cA.wt e=cA.wt e.kind+cA.wt e.peer+cA.wt e.message+cA.wt e.time+cA.wt e.assign+1:=rfl;have C:=B8 e.assign;have T:=xq (α:=Assign) (λx=>le_add_left ..) e.assign.l;omega
theorem Y6(p:Pred):cA.wt p<=1048576->p.Sm:=by induction p using Pred.ind with|h p w=>intro h;have a:∃m,cA.wt p=m+Pred.Ud p.l+1:=(by cases p;exact⟨_,rfl⟩);have⟨m,a⟩:=a;have b:=Pred.Za p.l;have z:=B8 p.l;have B:=xq (α:=Pred) (λx=>by cases x;exact le_add_left ..) p.l.l;unfold Pred.Sm;rw[p.lz,ζh,all_eq_true];refine⟨decide_eq_true Zaa,λq u=>w q u ?_⟩;have:=AV u;omega
end Go.VE
namespace Go.Proofs.YtlmckmkfopljoaaGreatDoor
open Go.ChangeShapes Go.WideShapes Go.ChangeAt Go.RowKit Go.VE
theorem own:ownKnob Tryz.prog.godebug=none:=by kernel_rfl
theorem kids:Kids Tryz.prog (·<Tryz.prog.types.size):=kids_rows Zag Zag
theorem full:∀t e,t<Tryz.prog.types.size->Tryz.prog.underlying t=some (.slice e)->0<Tryz.prog.cellsOf e:=slices_full_of Tryz.prog Zag
theorem zc{H:Type}:∀l:aZ (DataW H),Rows.uptoBulkAll l=(l.map Rows.uptoBulk).sum
 |[]=>by simp[Rows.uptoBulkAll]|d::r=>by simp[Rows.uptoBulkAll,zc r]
theorem Pe{H:Type}:ud (H:=H) Rows.uptoBulk where
 lit l:=by cases l<;>simp[Rows.uptoBulk]
 str s:=by simp[Rows.uptoBulk]
 nil:=by simp[Rows.uptoBulk]
 slice es u:=by rw[Rows.uptoBulk,zc,zc];omega
 agg w:=by rw[Rows.uptoBulk,zc];exact le_refl _
theorem Ml:Tryz.prog.globalNamed "antecede/predtype.parts" =some 0:=by kernel_rfl
theorem R4:(Tryz.prog.globals[0]?).map (·.type)=some 183:=by kernel_rfl
theorem table{W:World}(h:laidMetH Tryz.prog Rows.evaluateTablesUptoRow.laid W):Lib.TabIs Tryz.prog W "antecede/predtype.parts" .i64 D1:=Lib.tabIs_of_head (rest:=[]) Ml R4 Tryz.underlying183 Tryz.underlying3 Zag Zag h
theorem Yp{W:World}(h:laidMetH Tryz.prog Rows.evaluateTablesUptoRow.laid W):vw (snap W):=λg cs a=>by
 change(if Nat.beq g 0 then some (D1.map (V.int .i64))else none)=some cs at a;split at a;next u=>cases a;have:g=0:=Nat.eq_of_beq_eq_true u;subst this;exact Q3 (λi b=>(table h).cell Ml i b) (by decide)
 cases a
set_option maxRecDepth 100000 in
theorem KI(H:Type)(enc:W'×V'->H)(W:World)(base:Nat)(args:Array V')(ds a:aZ (DataW H))(before:aZ MemPlace)
 (B:∀(j:Nat)t v,Tryz.f7.params[j]?=some t->args[j]?=some v->Value.okWide Tryz.prog W .any base t v)
 (G:DataW.Whole enc Tryz.prog Tryz.f7.params.toList Rows.evaluateTablesSpec.vars false W args.toList ds a before)(b:Rows.uptoSmall H (ds++a)=true)(U:laidMetH Tryz.prog Rows.evaluateTablesUptoRow.laid W):
 Calls Tryz.prog 7 args W λe J=>∃v,e=.returned v/\Rows.evaluateTablesSpec.post enc Tryz.prog Tryz.f7 false true false false W args v J:=by
 have z:=G;obtain⟨p,q,C,c,rfl,S,T⟩:=G;have I:DataW.TrodAll enc Tryz.prog W 0 (λ_=>true) true Tryz.f7.params.toList args.toList ds p:=C
 rw[Tryz.params7]at I B;obtain⟨L,X,Y,Z,F,K,D,rfl,rfl,d,g⟩:=trodAll_cons I;obtain⟨O,M,h,N,p1,R,rfl,rfl,rfl,i,r1⟩:=trodAll_cons g;obtain⟨rfl,rfl,rfl⟩:=trodAll_nil r1;obtain rfl:args=#[L,O]:=by cases args;simp_all
 obtain⟨rfl,rfl⟩:=trodVars_none c;have⟨a0,k,k0,l⟩:=Reads.Ub (t:=24) (α:=VE.Trace) B 0 rfl rfl d;have⟨u,m,k1,n⟩:=Reads.Ub (t:=28) (α:=VE.Pred) B 1 rfl rfl i;have hb:cA.wt a0+cA.wt u<=1048576:=by have c0:=l Rows.uptoBulk Pe;have c1:=n Rows.uptoBulk Pe;have Q:Rows.uptoBulkAll ([Y,h]++[])<=1048576:=of_decide_eq_true b;rw[zc]at Q;simp only[List.append_nil,map_cons,List.map_nil,sum_cons,List.sum_nil]at Q;omega
 have⟨o,s⟩:=SI (t:=a0) Zaa
 have x:gN cL 7 [VE.enc a0,VE.enc u]=some [.bool true]:=by have y:(mD a0 u).bind (λr:X'=>some [V.bool r])=some [.bool true]:=(by rw[NH (t:=a0) o s (Y6 u Zaa)];rfl);exact(ya a0 u).F.h () _ y
 have:=N0 (P:=Tryz.prog) Ib Ci calls (f:=7) (xs:=[VE.enc a0,VE.enc u]) (by simp[V.cK,V.good,kP]) x (w:=W) (args:=#[L,O]) (Yp U) (cW.cons k (cW.cons m .nil))
 refine this.mono λe J⟨A,E⟩=>?_
 subst A;exact⟨_,rfl,Pn kids full (by rw[Tryz.params7];decide) rfl rfl rfl Tryz.underlying4 z E⟩
noncomputable def Bj(os:Os):World:=
 {World.holding Tryz.prog os ⟨#[],#[],[]⟩with heap:=(World.holding Tryz.prog os ⟨#[],#[],[]⟩).heap.modify 0 fun
  |.cells _ t frozen=>.cells (D1.map (Value.int .i64)).toArray t frozen|o=>o}
theorem R7(os:Os):laidMet Tryz.prog Rows.evaluateTablesUptoRow.laid ((Bj os).forCall (λ_ _=>0) ⟨#[],#[.agg #[.slice none 0 0],.agg #[.int .i64 0,.int .i64 0,.int .i64 0,.int .i64 0,.string ByteArray.empty,.slice none 0 0]],[]⟩).memory:=laidMet_of_run' 8 Zag Zag
theorem Sj(os:Os){H:Type}(enc:W'×V'->H):∃places,DataW.whole enc Tryz.prog ((Bj os).forCall (λ_ _=>0) ⟨#[],#[.agg #[.slice none 0 0],.agg #[.int .i64 0,.int .i64 0,.int .i64 0,.int .i64 0,.string ByteArray.empty,.slice none 0 0]],[]⟩).memory Tryz.f7.params.toList Rows.evaluateTablesSpec.vars false (#[.agg #[.slice none 0 0],.agg #[.int .i64 0,.int .i64 0,.int .i64 0,.int .i64 0,.string ByteArray.empty,.slice none 0 0]]:Array V').toList 8=some ([.agg [.nil],.agg [.lit (.int .i64 0),.lit (.int .i64 0),.lit (.int .i64 0),.lit (.int .i64 0),.lit (.string []),.nil]],[],places):=⟨[],by kernel_rfl⟩
set_option maxRecDepth 100000 in
theorem Qq(os:Os)(B:os.Started)(H:Type)(enc:W'×V'->H)(F:Stop.Interp):
 ReturnsInHanded {} Tryz.checked os 7 .any ((Rows.OpenSpec.upto Rows.evaluateTablesSpec).preRow enc Tryz.prog Tryz.f7 Rows.evaluateTablesUptoRow.domain false Rows.evaluateTablesUptoRow.laid) (((Rows.OpenSpec.upto Rows.evaluateTablesSpec).at F).post enc Tryz.prog Tryz.f7 false true false false):=by
 have⟨places,z⟩:=Sj os enc;refine returnsInHanded_of_row (C:=Tryz.checked) (s:=Rows.OpenSpec.upto Rows.evaluateTablesSpec) own B Zag Tryz.func7
  (witness_row_at (enc:=enc) (C:=Tryz.checked) false (Bj os) #[.agg #[.slice none 0 0],.agg #[.int .i64 0,.int .i64 0,.int .i64 0,.int .i64 0,.string ByteArray.empty,.slice none 0 0]] rfl Zag Zag Zag
   (OpenSpec.preRow_of_cond 8 z Zag (λk a=>by cases a;kernel_rfl) Zag (R7 os))) ?_
 intro W base args ds b before w D _ u _ G _ _;exact KI H enc W base args ds b before w D (u _ rfl) G
theorem Vg:Rows.EvaluateTablesUptoSaid:=
 OpenClaim.holds_of_cond 7 Tryz.f7 rfl rfl rfl rfl rfl rfl rfl ⟨rfl,rfl,rfl,rfl,rfl⟩ rfl rfl rfl rfl rfl Zag Tryz.func7 Zag
  (of_decide_eq_true Zag) (by unfold Func.isWrapper;first|(rw[if_pos (by decide+kernel)];kernel_rfl)|(rw[if_neg (by decide+kernel)];exact⟨rfl,rfl⟩))
  (λos u H enc _ F=>by rw[OpenClaim.pre_eq_preRow];exact Qq os u H enc F)
theorem Ri(f:Y')(fn:Func)(D:Tryz.pinned.checked.prog.funcNamed "antecede/antecedelaw29.EvaluateTables" =some f)(B:Tryz.pinned.checked.prog.funcs[f]?=some fn):
 false=Tryz.pinned.checked.prog.looks []/\∀(j:Nat)t,fn.params[j]?=some t->Tryz.pinned.checked.prog.wantsStandIn t=false:=by
 obtain rfl:f=7:=Option.some.inj ((show Tryz.prog.funcNamed "antecede/antecedelaw29.EvaluateTables" =some 7 by kernel_rfl).symm.trans D)|>.symm
 obtain rfl:fn=Tryz.f7:=(Option.some.inj (Tryz.func7.symm.trans B)).symm;refine⟨by kernel_rfl,λj t z=>?_⟩
 rw[Tryz.params7]at z;have C:t∈[24,28]:=by simpa using Array.mem_of_getElem? z
 have w:([24,28].all λu=> !Tryz.prog.wantsStandIn u)=true:=by kernel_rfl
 exact(show Tryz.prog.wantsStandIn t=false by simpa using all_eq_true.1 w t C)
theorem evaluateTablesProved:Rows.EvaluateTablesUptoCardSaid:=Claim7.holds_tied_plain_at .later [] _ _ _ _ Vg (λ_ h=>by cases h) Zag (λ_ h=>by cases h) evaluateTablesUpto_row_tie rfl ⟨rfl,rfl⟩ Zag rfl Ri Zag
#print axioms evaluateTablesProved
end Go.Proofs.YtlmckmkfopljoaaGreatDoor
