/-
 SliceParts says true for all arguments that together are of bulk at most 1048576, and they read behind the call as they read before: for every such argument, without a condition.
-/
import Derived.Test.YtegogepdjcdfcagGreatDoorRows
import Derived.Test.YtegogepdjcdfcagGreatDoorCards
import Derived.Test.YtegogepdjcdfcagGreatDoorTie
import Derived.Deep.DeepHandedRow
import Derived.Test.YtegogepdjcdfcagGreatDoorK1
import Derived.Test.YtegogepdjcdfcagGreatDoorL1
set_option linter.all false
namespace Go.VE
theorem Zh{p:Prop}(h:p:=by kernel_rfl):p:=h
section
variable {t:Trace} {A:bU 200 br} {s:Slice} {U V:a_ Int->Prop}
def UV (t:Trace) (A:bU 200 br) (V:a_ Int->Prop) (u:a_ Int):Prop:=(Cons t A u/\∃v,V v/\dx u v)/\∀x:a_ Int,x.length=t.procs.l.length->(∀v,V v->dx u v->dx x v)->dx x u
theorem UV.of (u:∀v,V v->Cons t A v) {v:a_ Int} (h:V v):UV t A V v:=⟨⟨u v h,v,h,dx.refl _⟩,λx _ w=>w v h (dx.refl _)⟩
theorem jl.Ls {n:Nat} {x y:a_ Int} (h:jl n V x) (u:y.length=n) (h1:∀v,V v->dx y v) (B:∀z:a_ Int,z.length=n->(∀v,V v->dx z v)->dx z y):y=x:=(h.2.2 y u h1).anti (B x h.1 h.2.1)
theorem Dn (hS:Small t) (hV:VT t) (hC:∀v,V v->Cons t A v) {a b:Slice} (B:xG t A (UV t A V) a) (G:lM t V b):dF a b=some true:=by
 have al:=hV.few;have D:∀v,V v->UV t A V v:=λv h=>UV.of hC h
 have W:∀p,p<t.procs.l.length->fG t p<1073741824:=λp L=>by rw[kj L];exact(hS.2 _ (List.getElem_mem L)).1
 have X:∀u,UV t A V u->Cons t A u:=λu h=>h.1.1
 have e1:a.first.l=b.first.l:=jl.Ls G.f B.f.1.1.1.1 (λv hv=>B.mn v (D v hv)) λz O h=>B.f.2 z O λv hv _=>h v hv
 have e2:a.last.l=b.last.l:=by
  refine(mR.2 ⟨B.lc.1.1.trans G.l.1.symm,λp L=>?_⟩).anti (G.l.2.2 _ B.lc.1.1 λv hv=>B.up X (D v hv))
  obtain⟨u,hu,Y⟩:=B.la p (by rw[<-B.lc.1.1];exact L)
  obtain⟨⟨Z,v,hv,w⟩,_⟩:=hu;rw[Y];exact Int.le_trans (w.nth (by rw[Z.1.1,<-B.lc.1.1];exact L)) ((G.l.2.1 v hv).nth (by rw[(hC v hv).1.1,<-B.lc.1.1];exact L))
 have aa:a.first.l.length<1073741824:=by rw[B.f.1.1.1.1];omega
 have ab:a.last.l.length<1073741824:=by rw[B.lc.1.1];omega
 unfold dF;obtain⟨x,hx,ad⟩:=EK (a:=a.first) (b:=b.first) aa
 obtain⟨y,hy,ae⟩:=EK (a:=a.last) (b:=b.last) ab;rw[show (a.empty==b.empty)=true by rw[B.e,G.e];rfl,bY,hx,ad.2 e1,ζb,ζb,show (!true)=false from rfl,b8,hy,ae.2 e2,ζb,ζb,show (!true)=false from rfl,b8,show ((len a.j)==(len b.j))=true by simp[len,B.j,G.j],ζb,show (!true)=false from rfl,b8]
 unfold dF.W1;have key:fZ ((bM (λq:Int=>dF.bA a b q) 0).bind (Fw.elim (λ_=>some true) (λ_=>some false))) True:=by
  refine(yQ (n:=a.j.l.length) (P:=λ_=>True) (λi C _=>?_) (λ_=>?_)).iff ⟨λ_=>trivial,λ_ _ _=>trivial⟩
  .have I:i<t.procs.l.length:=by rw[<-B.j];exact C
   have Q:i<b.j.l.length:=by rw[G.j];exact I
   unfold dF.bA;rw[nT C,bY,bO C,ζb,bO Q,ζb];have af:a.j.l[i].l.length=fG t i:=by rw[<-zH C];exact B.rows i I
   obtain⟨am,ah⟩:=G.r i _ (ζd Q);have S:∀k (hk:k<a.j.l[i].l.length),el a i k=a.j.l[i].l[k].l:=λk hk=>by
    unfold el;rw[ζd C];simp only[ζd hk]
   have J:∀k,k<fG t i->(ins a.j.l[i])[k]? = (ins b.j.l[i])[k]? := λk hk=>by
    have T:k<a.j.l[i].l.length:=by omega
    have U:k<b.j.l[i].l.length:=by omega
    rw[KS T,KS U,<-S k T]
    congr 1
    have h1:=B.elm i I k hk;rcases ah k _ (ζd U)with⟨q1,q2⟩|⟨⟨v,q1,q2⟩,q3⟩
    .rcases h1 with⟨h1,_⟩|⟨h1,h2,_⟩
     .rw[h1,q1]
     obtain⟨⟨h3,v,hv,w⟩,_⟩:=h1;have:=q2 v hv;have:=w.nth (p:=i) (by rw[h3.1.1];exact I)
     omega
    rcases h1 with⟨_,h1⟩|⟨h1,h2,h3⟩
    .have:=h1 v (D v q1);omega
    refine jl.Ls q3 h1.1.1.1.1 (λv hv=>h3 v (D v hv.1) hv.2) λz O h=>h1.2 z O λv hv w=>h v ⟨hv,?_⟩
    have:=w.nth (p:=i) (by rw[h1.1.1.1.1];exact I)
    omega
   have ai:ins a.j.l[i]=ins b.j.l[i]:=List.ext_getElem? λk=>by
    by_cases hk:k<fG t i
    .exact J k hk
    rw[List.getElem?_eq_none (by rw[HY];omega),List.getElem?_eq_none (by rw[HY];omega)]
   have aj:∀x∈a.j.l[i].l,x.l.length<1073741824:=λx hx=>by
    obtain⟨k,hk,rfl⟩:=List.getElem_of_mem hx;rw[<-S k hk];rcases B.elm i I k Za with⟨h1,_⟩|⟨h1,_⟩
    .rw[h1];simp
    rw[h1.1.1.1.1];omega
   exact E4 ((LW (by rw[af];exact W i I) aj).iff ⟨λ_=>trivial,λ_=>ai⟩) (cW i Za)
  unfold dF.bA;rw[nW,b8]
 obtain⟨z,O,ak⟩:=key;rw[ak.2 trivial]at O;exact O
end
end Go.VE
namespace Go.VE
section
variable {n:Nat} {V W:a_ Int->Prop}
theorem jl.uniq {x y:a_ Int} (h:jl n V x) (k:jl n V y):x=y:=(k.2.2 x h.1 h.2.1).anti (h.2.2 y k.1 k.2.1)
theorem mz.uniq {x y:a_ Int} (h:mz n V x) (k:mz n V y):x=y:=(h.2.2 y k.1 k.2.1).anti (k.2.2 x h.1 h.2.1)
theorem G4 {Q:a_ Int->Prop} (u:∀a b,a.length=n->b.length=n->Q a->Q b->Q (List.zipWith j8 a b)):∀l:a_ (a_ Int),(∀v∈l,Q v/\v.length=n)->l≠[]->∃g,Q g/\jl n (λv=>v∈l) g
 | [],_,h=>absurd rfl h
 | [a],h,_=>⟨a,(h a (List.mem_singleton_self a)).1,(jl.one (h a (List.mem_singleton_self a)).2).iff λv=>List.mem_singleton.symm⟩
 | a::b::r,h,_=>by
  obtain⟨g,hg,B⟩:=G4 u (b::r) (λv hv=>h v (List.mem_cons_of_mem _ hv)) Zc
  have t:=h a List.mem_cons_self;exact⟨_,u g a B.1 t.2 hg t.1,(B.meet t.2).iff λv=>by rw[List.mem_cons (a:=v) (b:=a)];exact or_comm⟩
theorem Fq {Q:a_ Int->Prop} (u:∀a b,a.length=n->b.length=n->Q a->Q b->Q (List.zipWith kU a b)):∀l:a_ (a_ Int),(∀v∈l,Q v/\v.length=n)->l≠[]->∃g,Q g/\mz n (λv=>v∈l) g
 | [],_,h=>absurd rfl h
 | [a],h,_=>⟨a,(h a (List.mem_singleton_self a)).1,(mz.one (h a (List.mem_singleton_self a)).2).iff λv=>List.mem_singleton.symm⟩
 | a::b::r,h,_=>by
  obtain⟨g,hg,B⟩:=Fq u (b::r) (λv hv=>h v (List.mem_cons_of_mem _ hv)) Zc
  have t:=h a List.mem_cons_self;exact⟨_,u g a B.1 t.2 hg t.1,(B.join t.2).iff λv=>by rw[List.mem_cons (a:=v) (b:=a)];exact or_comm⟩
theorem C4 {ls:a_ (a_ Int)} {P Q:a_ Int->Prop} {x:a_ Int} (h:jl n (λv=>v∈ls/\P v) x) (B:∀a b,a.length=n->b.length=n->Q a->Q b->Q (List.zipWith j8 a b)) (u:∃v,v∈ls/\P v) (hv:∀v∈ls,P v->Q v/\v.length=n):Q x:=by
 classical
 obtain⟨v,t,w⟩:=u;obtain⟨g,hg,z⟩:=G4 B (ls.filter λv=>decide (P v)) (λv h=>by have:=List.mem_filter.1 h;exact hv v this.1 (of_decide_eq_true this.2)) (List.ne_nil_of_mem (List.mem_filter.2 ⟨t,decide_eq_true w⟩))
 have:g=x:=(z.iff λv=>by rw[List.mem_filter,decide_eq_true_iff]).uniq h
 exact this▸hg
theorem Ik {ls:a_ (a_ Int)} {Q:a_ Int->Prop} {x:a_ Int} (h:mz n (λv=>v∈ls) x) (B:∀a b,a.length=n->b.length=n->Q a->Q b->Q (List.zipWith kU a b)) (u:ls≠[]) (hv:∀v∈ls,Q v/\v.length=n):Q x:=by
 obtain⟨g,hg,t⟩:=Fq B ls hv u;exact t.uniq h▸hg
end
section
variable {t:Trace} {A:bU 200 br} {ls:a_ (a_ Int)} {b s:Slice}
theorem lM.iff {V W:a_ Int->Prop} (h:lM t V b) (e:∀v,V v↔W v):lM t W b:=by
 refine⟨h.e,h.f.iff e,h.l.iff e,h.j,λp r hr=>⟨(h.r p r hr).1,λi c hc=>?_⟩⟩
 rcases (h.r p r hr).2 i c hc with⟨k1,k2⟩|⟨⟨v,k1,k2⟩,k3⟩
 .exact .inl ⟨k1,λv hv=>k2 v ((e v).2 hv)⟩
 exact .inr ⟨⟨v,(e v).1 k1,k2⟩,k3.iff λv=>and_congr_left λ_=>e v⟩
theorem lM.el {V:a_ Int->Prop} (h:lM t V b) {p i:Nat} (hp:p<t.procs.l.length) (B:i<fG t p):H9 t.procs.l.length V p i (Go.VE.el b p i):=by
 have u:p<b.j.l.length:=by rw[h.j];exact hp
 obtain⟨h1,z⟩:=h.r p _ (ζd u);have w:i<b.j.l[p].l.length:=by omega
 have:=z i _ (ζd w);unfold Go.VE.el;rw[ζd u];dsimp only;rw[ζd w];exact this
theorem lM.rows {V:a_ Int->Prop} (h:lM t V b) {p:Nat} (hp:p<t.procs.l.length):CG b p=fG t p:=by
 have u:p<b.j.l.length:=by rw[h.j];exact hp
 rw[zH u];exact(h.r p _ (ζd u)).1
theorem P_ {a b:a_ Int} (u:a.length=b.length) {p:Nat} (hp:p<a.length):nth (List.zipWith j8 a b) p=j8 (nth a p) (nth b p):=CZ u hp
theorem Rc {a b:a_ Int} (u:a.length=b.length) {p:Nat} (hp:p<a.length):nth (List.zipWith kU a b) p=kU (nth a p) (nth b p):=CZ u hp
theorem G3 (O:∀v∈ls,Cons t A v) (G:ls≠[]) (h:lM t (λv=>v∈ls) b):xG t A (UV t A λv=>v∈ls) b:=by
 obtain⟨L,B⟩:=List.exists_mem_of_ne_nil ls G;have S:∀v∈ls,v.length=t.procs.l.length:=λv hv=>(O v hv).1.1
 have hQ:∀a b:a_ Int,a.length=t.procs.l.length->b.length=t.procs.l.length->Cons t A a->Cons t A b->Cons t A (List.zipWith j8 a b):=λa b D I h1 T=>Mj h1 T (k9.of j8 (D.trans I.symm))
 have Y:∀a b:a_ Int,a.length=t.procs.l.length->b.length=t.procs.l.length->Cons t A a->Cons t A b->Cons t A (List.zipWith kU a b):=λa b D I h1 T=>join_cons h1 T (k9.of kU (D.trans I.symm))
 have hf:Cons t A b.first.l:=C4 (P:=λ_=>True) (h.f.iff λv=>(and_true _).symm.to_iff) hQ ⟨L,B,trivial⟩ λv hv _=>⟨O v hv,S v hv⟩
 have J:Cons t A b.last.l:=Ik h.l Y G λv hv=>⟨O v hv,S v hv⟩
 have Z:∀p,p<t.procs.l.length->∀i,i<fG t p->(∃v,v∈ls/\(i:Int)<nth v p)->jl t.procs.l.length (λv=>v∈ls/\(i:Int)<nth v p) (el b p i)->Cons t A (el b p i)/\(i:Int)<nth (el b p i) p/\UV t A (λv=>v∈ls) (el b p i):=λp C i X hv U=>by
  have h1:Cons t A (el b p i):=C4 U hQ hv λv hv _=>⟨O v hv,S v hv⟩
  have T:(i:Int)<nth (el b p i) p:=C4 (Q:=λc=>(i:Int)<nth c p) U (λa b D I k1 k2=>by
   rw[P_ (D.trans I.symm) (by rw[D];exact C)]
   rcases qo (nth a p) (nth b p)with q|q <;> rw[q.1] <;> assumption) hv λv hv k=>⟨k,S v hv⟩
  obtain⟨v,W,aa⟩:=hv;refine⟨h1,T,⟨h1,v,W,U.2.1 v ⟨W,aa⟩⟩,λx hx z=>U.2.2 x hx λv hv=>z v hv.1 (U.2.1 v hv)⟩
 refine⟨h.e,⟨⟨hf,L,B,h.f.2.1 L B⟩,λx hx z=>h.f.2.2 x hx λv hv=>z v hv (h.f.2.1 v hv)⟩,λu hu=>hu.2 _ hf.1.1 λv hv _=>h.f.2.1 v hv,h.j,λp C=>h.rows C,λp C i X=>?_,J,(h.f.2.1 L B).trans (h.l.2.1 L B),λp C i X hu=>?_,λp C=>?_⟩
 .rcases h.el C X with⟨k1,k2⟩|⟨k1,k2⟩
  .refine .inl ⟨k1,λu hu=>?_⟩
   obtain⟨⟨ab,v,hv,z⟩,-⟩:=hu;exact Int.le_trans (z.nth (by rw[ab.1.1];exact C)) (k2 v hv)
  obtain⟨e1,e2,e3⟩:=Z p C i X k1 k2;refine .inr ⟨e3,e2,λu hu ad=>hu.2 _ k2.1 λv hv z=>k2.2.1 v ⟨hv,?_⟩⟩
  have:=z.nth (p:=p) (by rw[hu.1.1.1.1];exact C)
  omega
 .obtain⟨⟨-,v,hv,z⟩,-⟩:=hu;exact z.trans (h.l.2.1 v hv)
 obtain⟨v,hv,e⟩:∃v∈ls,nth b.last.l p=nth v p:=Ik (Q:=λc=>∃v∈ls,nth c p=nth v p) h.l (λa b D I ⟨v,hv,e1⟩ ⟨w,hw,e2⟩=>by
  rw[Rc (D.trans I.symm) (by rw[D];exact C)]
  rcases oL (nth a p) (nth b p)with q|q
  .exact⟨v,hv,by rw[q.1,e1]⟩
  exact⟨w,hw,by rw[q.1,e2]⟩) G λv hv=>⟨⟨v,hv,rfl⟩,S v hv⟩
 exact⟨v,UV.of O hv,e⟩
end
section
variable {α σ:Type}
theorem N4 {δ:Type} {b:(α->bf δ)->α->bf δ} {n:Nat} (h:0<n) (z:α):vO b n z=b (vO b (n-1)) z:=by
 cases n with
 | zero=>omega
 | succ n=>rfl
end
end Go.VE
namespace Go.VE
section
variable {t:Trace}
end
section
variable {P:Pred} {t:Trace}
end
def VV (az:a_ Assign):Prop:=∀(i j:Nat) a b,i<j->az[i]? = some a->az[j]? = some b->a.var≠b.var
section
variable {P:cr} {v:Nat}
def fJ (o:bf Int) (low high:Int):Int×Int:=match o with
 | none=>(low,high)
 | some x=>(if x<low then x else low,if x>high then x else high)
end
section
variable {t:Trace} {A:bU 200 br}
end
section
variable {t:Trace}
end
end Go.VE
namespace Go.VE
end Go.VE
namespace Go.VE
section
variable {t:Trace} {A:bU 200 br} {P:cr} {v:Nat}
end
end Go.VE
namespace Go.VE
section
variable {t:Trace}
end
section
variable {t:Trace} {A:bU 200 br}
end
end Go.VE
namespace Go.VE
end Go.VE
namespace Go.VE
section
variable {t:Trace}
end
end Go.VE
namespace Go.VE
section
variable {t:Trace}
end
section
variable {t:Trace} {A:bU 200 br}
end
section
variable {t:Trace}
end
theorem TF {t:Trace} (B:Small t) {m:Int} (D:0<=m) (J:m<=1000):∃b,iH t m=some b/\(b=true->∀p,p<t.procs.l.length->(fG t p:Int)<=m):=by
 suffices h:Wp (iH t m) λb=>b=true->∀p,p<t.procs.l.length->(fG t p:Int)<=m from h
 unfold iH iH.W1;refine jK t.procs.l.length (λi q=>q.2=(i:Int)/\0<=q.1/\q.1<=m/\∀p,p<i->(fG t p:Int)<=m) ⟨rfl,Int.le_refl 0,D,λp w=>absurd w Za⟩ ?_ ?_
 .rintro n ⟨c,_⟩ u ⟨e,i1,i2,C⟩;simp only at e i1 i2;subst e;have h1:=B.1;have G:=(B.2 _ (List.getElem_mem u)).1;have I:IntKind.wrap .i64 (c+len t.procs.l[n].events)=c+(t.procs.l[n].events.l.length:Int):=by rw[qQ _ (by simp only[len];omega) (by simp only[len];omega)]
  unfold iH.bA;rw[nT u,bY,bO u,ζb,I,jg,ζb,jg,ζb];rw[xF (f:=λz=>(pP z).getD false) (λz _=>Dt.ok ((bk _).2 trivial)) G]
  rw[Ac (f:=λz=>(pW z).getD false) (λz _=>Dt.ok ((bk _).2 trivial)) (B.2 _ (List.getElem_mem u)).2.1]
  simp only[ζb,jg];rw[ck];refine⟨λ_=>(bk _).2 ((bk _).2 λh=>(nomatch h)),λh=>(bk _).2 ?_⟩
  simp only[Bool.or_eq_false_iff,decide_eq_false_iff_not]at h;refine⟨cW n Za,by show 0<=c+_;omega,by show c+_<=m;omega,λp w=>?_⟩
  rcases Nat.lt_or_eq_of_le (Nat.lt_succ_iff.1 w)with q|rfl
  .exact C p q
  rw[kj u];omega
 rintro⟨c,_⟩ ⟨e,i1,i2,C⟩;simp only at e;subst e;unfold iH.bA;rw[nW,b8,bk];exact(bk _).2 λ_=>C
section
variable {t:Trace} {A:bU 200 br} {L ls:a_ (a_ Int)} {b s:Slice}
open Classical in
end
section
variable {t:Trace} {A:bU 200 br} {L ls:a_ (a_ Int)}
theorem x_ (e:Bool):dF ⟨e,.nil,.nil,.nil⟩ ⟨e,.nil,.nil,.nil⟩=some true:=by
 obtain⟨x,u,t⟩:=EK (a:=(.nil:Sl Int)) (b:=.nil) (by simp[Sl.l])
 refine Wp.eq ?_;unfold dF;simp only[beq_self_eq_true,bY,u,t.2 rfl,ζb,Bool.not_true,b8];unfold dF.W1;refine jK 0 (λi (q:Int)=>q=0) rfl (λi _ h=>absurd h Za) ?_
 rintro _ rfl;unfold dF.bA;rw[show decide ((0:Int)<len (.nil:Sl (Sl (Sl Int))))=false from rfl,b8,bk];exact(bk _).2 rfl
theorem MB (hv:dG t=some true) {o:Sl (Sl Int)} (u:o.l=[]):dH t o=some (⟨true,.nil,.nil,.nil⟩,0):=by
 have w:c6 o (λz=>jy z t)=some false:=by
  rw[kS (f:=λ_=>false) (λx B=>by rw[u]at B;cases B) (by rw[u];simp),u];rfl
 unfold dH;rw[hv,ζb,bY,show decide ((len o)>5000)=false from by simp[len,u],b8,w,ζb,b8,show ((len o)==0)=true from by simp[len,u],bY]
end
section
variable {t:Trace} {A:bU 200 br}
end
section
variable {t:Trace} {c:Sl Int} {p q:Pred}
abbrev nd (k:Int) (L:a_ Pred):Pred:=⟨k,0,0,0,ByteArray.empty,.row L⟩
end
section
variable {t:Trace} {A:bU 200 br} {L ls:a_ (a_ Int)} {p q:Pred}
end
section
variable {t:Trace} {A:bU 200 br} {L ls:a_ (a_ Int)}
theorem SF (e:Bool):ja ⟨e,.nil,.nil,.nil⟩=(dF ⟨e,.nil,.nil,.nil⟩ ⟨false,.nil,.nil,.nil⟩).bind λx=>some x:=rfl
theorem xM:ja ⟨false,.nil,.nil,.nil⟩=some true:=by rw[SF,x_];rfl
end
section
variable {t:Trace} {A:bU 200 br} {s:Slice}
end
section
variable {t:Trace} {A:bU 200 br} {s:Slice} {U V:a_ Int->Prop}
theorem uV (u:VT t) (B:gE t (bT t) A):Cons t A (mU t):=ER u B
end
section
variable {t:Trace} {A:bU 200 br} {L ls:a_ (a_ Int)}
theorem NP (hS:Small t) (hv:dG t=some true) (hV:VT t) (hM:gE t (bT t) A):Wp (e_ t) λq=>q.2=0/\xG t A (Cons t A) q.1:=by
 have ap:=hV.few;have ad:∀p,p<t.procs.l.length->fG t p<1073741824:=λp w=>by rw[kj w];exact(hS.2 _ (List.getElem_mem w)).1
 obtain⟨fi,ae,af,ah⟩:=M3 hS hV;have T:fi.l=mU t:=P7 (by rw[af];simp[mU]) λp w=>by rw[ah p Za,zn Za]
 have U:iX (len t.procs) (0:Int)=some (Sl.row (List.replicate t.procs.l.length 0)):=by
  unfold iX;rw[if_pos ⟨by simp[len],by simp[len];omega⟩];simp[len]
 unfold e_;rw[hv,ζb,bY,U,ζb,ae,ζb];unfold e_.W1;refine jK t.procs.l.length (λp (q:Int×Trace×Slice×Slice)=>q.1=(p:Int)/\q.2.1=t/\q.2.2.2.empty=false/\q.2.2.2.first.l=List.replicate t.procs.l.length 0/\q.2.2.2.last=fi/\q.2.2.2.j.l.length=p/\∀D r,q.2.2.2.j.l[D]? = some r->r.l.length=fG t D/\∀(i:Nat) (c:Sl Int),r.l[i]? = some c->Cons t A c.l/\(i:Int)<nth c.l D/\∀u,Cons t A u->(i:Int)<nth u D->dx c.l u)
  ⟨rfl,rfl,rfl,rfl,rfl,rfl,λD r h=>by simp[Sl.l]at h⟩ ?_ ?_
 .rintro p ⟨_,t',vb,s⟩ w ⟨e,G,i1,i2,i3,i4,Q⟩;simp only at e G i1 i2 i3 i4 Q;subst e;have G:=G.symm;subst G;have ao:=ad p w;have aq:t.procs.l[p].events.l.length=fG t p:=(kj w).symm;unfold e_.bA;rw[nT w,bY,bO w,ζb];unfold e_.W2;refine jK (fG t p) (λi (q:Sl (Sl Int)×Int×Slice×Slice)=>q.2.1=(i:Int)/\q.2.2.2=s/\q.1.l.length=i/\∀(I:Nat) (c:Sl Int),q.1.l[I]? = some c->Cons t A c.l/\(I:Int)<nth c.l p/\∀u,Cons t A u->(I:Int)<nth u p->dx c.l u) ⟨rfl,rfl,rfl,λI c h=>by simp[Sl.l]at h⟩ ?_ ?_
  .rintro i ⟨row,_,ai,s2⟩ hi ⟨e,es,k1,k2⟩;simp only at e es k1 k2;subst e;have es:=es.symm;subst es;have W:p<(Sl.row (List.replicate t.procs.l.length (0:Int))).l.length:=by show p<(List.replicate _ _).length;rw[List.length_replicate];exact w
   obtain⟨c,hc,z⟩:=put_eq (s:=Sl.row (List.replicate t.procs.l.length (0:Int))) (p:=p) (x:=((i:Int)+1)) W;have z:c.l=(List.replicate t.procs.l.length (0:Int)).set p ((i:Int)+1):=z;have L:∀q,q<t.procs.l.length->nth c.l q=if q=p then(i:Int)+1 else 0:=λq S=>by
    unfold nth;rw[z,List.getElem?_set]
    by_cases e:p=q
    .subst e;simp[S]
    rw[if_neg e,if_neg (Ne.symm e),List.getElem?_replicate,if_pos S];rfl
   have aj:jI t c.l:=(Iu (by rw[z];simp)).2 λq S=>by
    rw[L q S];split
    next e=>subst e;omega
    omega
   obtain⟨r,hr,ar,B,ak,al⟩:=Ol hS hv hV hM aj;obtain⟨o,ho,C⟩:=oP (s:=row) (x:=r.1) Za
   have J:c.l.length=r.1.l.length:=by rw[B.1.1,z];simp
   unfold e_.b7;rw[show decide ((i:Int)<len t.procs.l[p].events)=true from decide_eq_true (by simp only[len];omega),bY,U,ζb,tD W,ζb,cW i Za,show (((i+1:Nat):Int))=(i:Int)+1 from by omega,hc,ζb,hr,ζb,ho,ζb,bk]
   refine⟨by show (i:Int)+1=((i+1:Nat):Int);omega,rfl,by show o.l.length=_;rw[C];simp[k1],λI d hd=>?_⟩
   change o.l[I]? = some d at hd;rw[C]at hd
   by_cases h:I<row.l.length
   .rw[List.getElem?_append_left h]at hd;exact k2 I d hd
   have:I=i:=by
    have:=(ζe.1 hd).1;simp at this;omega
   subst this;rw[<-k1,List.getElem?_concat_length]at hd;cases hd;have am:=(zN J).2 ak;refine⟨B,?_,λu hu au=>?_⟩
   .have:=am.nth (p:=p) (by rw[z];simp[w])
    rw[L p w,if_pos rfl]at this;omega
   refine(zN (by rw[B.1.1,hu.1.1])).2 (al u hu ((zN (by rw[J,B.1.1,hu.1.1])).1 (mR.2 ⟨by rw[J,B.1.1,hu.1.1],λq S=>?_⟩)))
   have X:q<t.procs.l.length:=by rw[<-B.1.1,<-J];exact S
   have:=(gO hu X).1;rw[L q X];split
   next e=>subst e;omega
   exact this
  rintro⟨row,_,ai,s2⟩ ⟨e,es,k1,k2⟩;simp only at e es k1 k2;subst e;have es:=es.symm;subst es;unfold e_.b7;rw[show decide (((fG t p:Nat):Int)<len t.procs.l[p].events)=false from decide_eq_false (by simp only[len];omega),b8,bk]
  obtain⟨o,ho,C⟩:=oP (s:=s.j) (x:=row) Za
  show Wp ((eA s.j row).bind _) _;rw[ho,ζb,bk];refine⟨cW p Za,rfl,i1,i2,i3,by show o.l.length=_;rw[C];simp[i4],λD r hr=>?_⟩
  change o.l[D]? = some r at hr;rw[C]at hr
  by_cases h:D<s.j.l.length
  .rw[List.getElem?_append_left h]at hr;exact Q D r hr
  have:D=p:=by
   have:=(ζe.1 hr).1;simp at this;omega
  subst this;rw[<-i4,List.getElem?_concat_length]at hr;cases hr;exact⟨k1,k2⟩
 rintro⟨_,t',vb,s⟩ ⟨e,G,i1,i2,i3,i4,Q⟩;simp only at e G i1 i2 i3 i4 Q;subst e;have G:=G.symm;subst G;unfold e_.bA;rw[nW,b8,bk];refine(bk _).2 ⟨rfl,?_⟩;have O:Cons t A fi.l:=by rw[T];exact uV hV hM
 have Y:∀p,p<t.procs.l.length->CG s p=fG t p:=λp w=>by
  rw[zH Za];exact(Q p _ (ζd Za)).1
 have an:∀p,p<t.procs.l.length->∀i,i<fG t p->Cons t A (el s p i)/\(i:Int)<nth (el s p i) p/\∀u,Cons t A u->(i:Int)<nth u p->dx (el s p i) u:=λp w i hi=>by
  have Z:p<s.j.l.length:=by omega
  obtain⟨h1,h2⟩:=Q p _ (ζd Z);have aa:i<s.j.l[p].l.length:=by omega
  have:=h2 i _ (ζd aa);unfold el;rw[ζd Z];dsimp only;rw[ζd aa];exact this
 have hz:∀u,Cons t A u->dx (List.replicate t.procs.l.length 0) u:=λu hu=>mR.2 ⟨by simp[hu.1.1],λp w=>by
  have ab:p<t.procs.l.length:=by simpa using w
  rw[show nth (List.replicate t.procs.l.length 0) p=0 from by unfold nth;rw[List.getElem?_replicate,if_pos ab];rfl]
  exact(gO hu ab).1⟩
 exact⟨i1,by rw[i2];exact BX,λu hu=>by rw[i2];exact hz u hu,i4,Y,λp w i hi=>.inr (an p w i hi),by rw[i3];exact O,by rw[i2,i3];exact hz _ O,λp w i hi hu=>by rw[i3,T];exact A2 hu,λp w=>⟨_,by rw[i3];exact O,rfl⟩⟩
theorem Qh (l:Sl (Sl Int)):∃b,oB l=some b/\(b=true->l.l.length<=60/\∀c∈l.l,c.l.length<=12):=by
 by_cases t:l.l.length<=60
 .unfold oB;rw[show decide ((len l)<=60)=true from decide_eq_true (by simp only[len];omega),bY,kS (p:=λz=>oc z) (f:=λc=>decide ((len c)>12)) (λx _=>rfl) Za,ζb]
  refine⟨_,rfl,λh=>⟨t,λc hc=>?_⟩⟩
  simp only[Bool.not_eq_true',List.any_eq_false,decide_eq_true_eq,len]at h;have:=h c hc;omega
 unfold oB;rw[show decide ((len l)<=60)=false from decide_eq_false (by simp only[len];omega),b8]
 exact⟨false,rfl,λh=>by cases h⟩
end
section
variable {t:Trace} {A:bU 200 br} {L:a_ (a_ Int)}
def Vq (t:Trace) (A:bU 200 br) (b r:a_ Int):Prop:=Cons t A r/\tT b r/\∀d,Cons t A d->tT b d->tT r d
noncomputable abbrev Nq (n:Nat) (t:Trace) (c:Sl Int):bf (Sl Int):=vO (λr (z:Trace×Sl Int)=>gQ z.1 z.2 r) n (t,c)
def Ba (t:Trace) (A:bU 200 br) (c:a_ Int) (e:Event):Prop:=e.kind=3->∃b,c[(ag A e.message).from_.proc.toNat]? = some b/\(ag A e.message).from_.index<=b
theorem Nr (O:Small t) (D:VT t) (G:gE t (bT t) A) {c:Sl Int} (T:jI t c.l) {p k:Nat} {e:Event} (u:jS t p k e):∃b,nK t c (p:Int) (k:Int)=some b/\(b=true↔Ba t A c.l e):=by
 obtain⟨P,w,z⟩:=u;unfold nK;rw[nj,w,ζb,nj,z,ζb]
 by_cases hk:e.kind=3
 .rw[show (e.kind==3)=true from by rw[hk];rfl,bY,find_eq O,ζb,yF D G ⟨P,w,z⟩ hk]
  obtain⟨q,j,y,⟨Q,L,S⟩,-,-,-,-,I⟩:=su D G ⟨P,w,z⟩ hk;rw[I];have B:q<c.l.length:=by rw[T.1];exact(ζe.1 L).1
  rw[bO B,ζb];refine⟨_,rfl,?_⟩;unfold Ba;rw[I];simp only[Int.toNat_natCast,decide_eq_true_eq];exact⟨λh _=>⟨_,ζd B,h⟩,λh=>by
   obtain⟨b,J,C⟩:=h hk;rw[ζd B]at J;cases J;exact C⟩
 rw[show (e.kind==3)=false from beq_eq_false_iff_ne.2 hk,b8];exact⟨true,rfl,λ_ h=>absurd h hk,λ_=>rfl⟩
theorem Co (hS:Small t) (T:VT t) (hM:gE t (bT t) A):∀(n:Nat) (c:Sl Int),jI t c.l->((nV t:Int)-c.l.sum).toNat<n->Wp (Nq n t c) λr=>Vq t A c.l r.l
 | 0,c,O,h=>absurd h Za
 | n+1,c,O,h=>by
  have h8:=T.few;have hT:=QW T;unfold Nq;rw[N4 Za]
  show Wp (gQ t c (vO (λr (z:Trace×Sl Int)=>gQ z.1 z.2 r) n)) _
  have ih:=Co hS T hM n;unfold Nq at ih;generalize vO (λr (z:Trace×Sl Int)=>gQ z.1 z.2 r) n=R at ih ⊢
  unfold gQ;obtain⟨x,h2,C⟩:=zy (s:=Sl.row []) (x:=c) (show 0+c.l.length<=_ by rw[O.1];omega)
  have C:x.l=c.l:=C;rw[h2,ζb];unfold fE.W1;refine jK x.l.length (λp (q:Int)=>q=(p:Int)/\∀(U k:Nat) (e:Event) (a:Int),U<p->jS t U k e->x.l[U]? = some a->(k:Int)<a->Ba t A x.l e) ⟨rfl,λU k e a W=>absurd W Za⟩ ?_ ?_
  .rintro p _ W ⟨rfl,hI⟩;have ae:p<t.procs.l.length:=by rw[<-O.1,<-C];exact W
   have hP:=ζd ae;have I:=ζd W;obtain⟨r1,r2⟩:=O.2 p _ _ (by rw[<-C];exact I) hP
   have aj:=y9 T hP;unfold fE.bA;rw[nT W,bY];unfold fE.W2;refine jK (x.l[p]).toNat (λk (q:Int)=>q=(k:Int)/\∀(k':Nat) (e:Event),k'<k->jS t p k' e->Ba t A x.l e) ⟨rfl,λk' e hk=>absurd hk Za⟩ ?_ ?_
   .rintro k _ hk ⟨rfl,hJ⟩;have X:k<t.procs.l[p].events.l.length:=by omega
    have u:jS t p k t.procs.l[p].events.l[k]:=⟨_,hP,ζd X⟩;obtain⟨b,b1,b2⟩:=Nr hS T hM (c:=x) (by rw[C];exact O) u
    unfold fE.b7;rw[tD W,ζb];unfold Sl.get;rw[I,ζb,decide_eq_true Za,bY,b1,ζb]
    cases b with
    | true=>
     rw[bY,bk];refine⟨cW k Za,λk' e ak S=>?_⟩
     by_cases ek:k'=k
     .subst ek;obtain⟨P2,c1,c2⟩:=S;rw[hP]at c1;cases c1;rw[ζd X]at c2;cases c2;exact b2.1 rfl
     exact hJ k' e Za S
    | false=>
     have Y:¬Ba t A x.l t.procs.l[p].events.l[k]:=λh=>by have:=b2.2 h;cases this
     generalize he:t.procs.l[p].events.l[k]=e at u Y b1;have Z:e.kind=3:=Classical.byContradiction λh=>Y λh'=>absurd h' h
     obtain⟨q,j,y,⟨Q,hQ,hy⟩,-,-,-,-,g6⟩:=su T hM u Z;have J:q<x.l.length:=by rw[C,O.1];exact(ζe.1 hQ).1
     have al:=(ζe.1 hy).1;obtain⟨v,hv⟩:∃v,x.l[q]? = some v:=⟨_,ζd J⟩;have am:v<(j:Int)+1:=by
      refine Classical.byContradiction λhn=>Y λ_=>⟨v,?_,?_⟩
      .rw[g6];simp only[Int.toNat_natCast];exact hv
      rw[g6];show (j:Int)+1<=_;omega
     obtain⟨d,d1,d2⟩:=put_eq (s:=x) (p:=q) (x:=(j:Int)+1) J;have aa:jI t d.l:=by rw[d2,C];exact O.set hQ Za Za
     have ai:d.l.sum=c.l.sum-v+((j:Int)+1):=by rw[d2,C,qc (show c.l[q]? = some v by rw[<-C];exact hv)]
     have an:=aa.sum;rw[b8,nj,hP,ζb,nj,ζd X,he,ζb,find_eq hS,ζb,yF T hM u Z,g6,tD J,ζb,d1,ζb,gA];refine(ih d aa Za).mono λr ⟨s1,s2,s3⟩=>?_
     refine(bk _).2 ((bk _).2 ((bk _).2 ⟨s1,λi a b B hb=>?_,λD hD L=>s3 D hD λi a b B hb=>?_⟩))
     .have af:i<d.l.length:=by rw[aa.1,<-O.1];exact(ζe.1 B).1
      have ah:=s2 i _ b (ζd af) hb;have G:=ζd af;generalize d.l[i]=z at ah G;rw[d2,List.getElem?_set]at G
      by_cases ei:q=i
      .subst ei;rw[if_pos rfl,if_pos J]at G;cases G;rw[<-C,hv]at B;cases B;omega
      rw[if_neg ei,C,B]at G;cases G;exact ah
     rw[d2,List.getElem?_set]at B
     by_cases ei:q=i
     .subst ei;rw[if_pos rfl,if_pos J]at B;cases B;obtain⟨z,hz⟩:=hD.1.at_ ae;have:=L p _ z (by rw[<-C];exact I) hz
      obtain⟨w,hw,ab⟩:=hD.2 p k e z u hz Za Z
      rw[g6]at hw ab;simp only[Int.toNat_natCast]at hw ab;rw[hb]at hw;cases hw;exact ab
     rw[if_neg ei,C]at B;exact L i a b B hb
   rintro _ ⟨rfl,hJ⟩;unfold fE.b7;rw[tD W,ζb];unfold Sl.get;rw[I,ζb,decide_eq_false Za,b8,bk]
   refine(bk _).2 ⟨cW p Za,λU k e a ao u B ad=>?_⟩
   by_cases ep:U=p
   .subst ep;rw[I]at B;cases B;exact hJ k e Za u
   exact hI U k e a Za u B ad
  rintro _ ⟨rfl,hI⟩;unfold fE.bA;rw[nW,b8,bk];refine(bk _).2 ⟨⟨by rw[C];exact O,λp k e a u B ad hk=>hI p k e a (ζe.1 B).1 u B ad hk⟩,λi a b B hb=>?_,λD hD L=>by rw[C];exact L⟩
  rw[C,B]at hb;cases hb;exact Int.le_refl _
theorem Sd (B:Small t):∃r,eU t=some r/\r.l=mU t:=by
 have key:Wp (eU t) λr=>r.l=mU t:=by
  unfold eU eU.W1;refine jK t.procs.l.length (λi (q:Sl Int×Int)=>q.2=(i:Int)/\q.1.l=(mU t).take i) ⟨rfl,rfl⟩ ?_ ?_
  .rintro i ⟨o,_⟩ u ⟨e,h1⟩;simp only at e h1;subst e;have D:=B.1;have C:o.l.length<=i:=by rw[h1,List.length_take];omega
   obtain⟨r,hr,w⟩:=oP (s:=o) (x:=(len t.procs.l[i].events:Int)) Za
   unfold eU.bA;rw[nT u,bY,bO u,ζb,hr,ζb,bk];refine⟨cW i Za,?_⟩
   show r.l=_;have z:(mU t)[i]? = some (len t.procs.l[i].events):=by unfold mU;rw[List.getElem?_map,ζd u];rfl
   rw[w,h1,List.take_succ,z];rfl
  rintro⟨o,_⟩ ⟨e,h1⟩;simp only at e h1;subst e;unfold eU.bA;rw[nW,b8,bk];exact(bk _).2 (by rw[h1,List.take_of_length_le (by simp[mU])])
 exact key
theorem Ow (J:gE t (bT t) A) (O:VT t) {ls:a_ (a_ Int)} (D:∀v∈ls,Cons t A v) {b:Slice} (h:xG t A (Cons t A) b) (T:List.replicate t.procs.l.length 0∈ls) (h1:mU t∈ls) (G:∀p,p<t.procs.l.length->∀i,i<fG t p->el b p i∈ls):lM t (λv=>v∈ls) b:=by
 have S:dx (List.replicate t.procs.l.length 0) b.first.l:=mR.2 ⟨by rw[h.f.1.1];simp,λp u=>by
  have z:p<t.procs.l.length:=by simpa using u
  rw[show nth (List.replicate t.procs.l.length 0) p=0 from by unfold nth;rw[List.getElem?_replicate,if_pos z];rfl]
  exact(gO h.f z).1⟩
 have U:dx (mU t) b.last.l:=mR.2 ⟨by rw[h.lc.1.1];simp[mU],λp u=>by
  have z:p<t.procs.l.length:=by simpa [mU]using u
  exact(h.up (λ_ h=>h) (uV O J)).nth u⟩
 refine⟨h.e,⟨h.f.1.1,λv hv=>h.mn v (D v hv),λy I k=>(k _ T).trans S⟩,⟨h.lc.1.1,λv hv=>(A2 (D v hv)).trans U,λy I k=>(A2 h.lc).trans (k _ h1)⟩,h.j,λp r hr=>?_⟩
 have B:=(ζe.1 hr).1;have u:p<t.procs.l.length:=by rw[<-h.j];exact B
 have C:r.l.length=fG t p:=by
  have:=h.rows p u;rw[zH B,(ζe.1 hr).2]at this;exact this
 refine⟨C,λi c hc=>?_⟩
 have L:i<fG t p:=by rw[<-C];exact(ζe.1 hc).1
 have W:el b p i=c.l:=by unfold el;rw[hr];dsimp only;rw[hc]
 have w:=G p u i L;have Q:=h.elm p u i L;rw[W]at w Q;rcases Q with⟨-,k⟩|⟨k1,k2,k3⟩
 .have:=k (mU t) (uV O J);rw[zn u]at this;omega
 exact .inr ⟨⟨c.l,w,k2⟩,(D _ w).1.1,λv hv=>k3 v (D v hv.1) hv.2,λy I k=>k _ ⟨w,k2⟩⟩
theorem Li {l:Sl (Sl Int)} (O:Small t) (hN:(bT t).length<1073741824) (aa:l.l.length<1073741824):dy t l=some true:=by
 classical
 obtain⟨fw,aC,aX⟩:=TF O (m:=40) Za Za
 obtain⟨sh,aD,aV⟩:=Qh l;obtain⟨v,hv,Z,w⟩:=Mh O hN;unfold dy rj;rw[ζb,bY,aC,ζb,ζb]
 cases fw with
 | false=>rfl
 | true=>
 rw[show (!true)=false from rfl,b8,aD,ζb];have hg:∃g,((bt sh (some false) ((bt (decide ((len l)<=5000)) (some true) (some (decide ((len l)>5005))):bf Bool).bind λaE=>(bt aE (some true) (some (decide ((len t.procs)>4))):bf Bool).bind λaF=>some aF):bf Bool).bind λaG=>some aG)=some g:=by
  cases sh with
  | true=>exact⟨false,rfl⟩
  | false=>
   rw[b8]
   cases decide ((len l)<=5000)with
   | true=>exact⟨true,rfl⟩
   | false=>
    rw[b8,ζb]
    cases decide ((len l)>5005)with
    | true=>exact⟨true,rfl⟩
    | false=>exact⟨_,rfl⟩
 obtain⟨g,hg⟩:=hg;rw[hg,ζb]
 cases g with
 | true=>rfl
 | false=>
 rw[b8]
 cases v with
 | false=>
  unfold e_ q9 dH;rw[hv,Z,ζb,ζb,ζb,b8,b8,b8,ζb,ζb,ζb,ζb,b8];dsimp only;rw[xM];rfl
 | true=>
 have w:=w rfl;have aY:=w.few;obtain⟨A,-,-,U⟩:=w.msgs;have ah:iX (len t.procs) (0:Int)=some (Sl.row (List.replicate t.procs.l.length 0)):=by
  unfold iX;rw[if_pos ⟨by simp[len],by simp[len];omega⟩];simp[len]
 obtain⟨fi,aH,W⟩:=Sd O;obtain⟨wh,aI,ai,aj⟩:=NP O hv w U;have hT:=Ip w;have ak:∀p,p<t.procs.l.length->fG t p<=64:=λp G=>by rw[kj G];exact y9 w (ζd G)
 have ab:∃c,dH t l=some c/\(bt (decide ((len l)>5000)) ((ja c.1).bind λam=>(bt am (some (c.2==5)) (some false):bf Bool).bind λan=>some an) ((c6 l (λz=>gP z t)).bind λao=>bt ao ((ja c.1).bind λap=>(bt ap (some (c.2==18)) (some false):bf Bool).bind λaq=>some aq) ((cV t l).bind λar=>(dF c.1 ar).bind λau=>(bt au (some (c.2==0)) (some false):bf Bool).bind λav=>some av)))=some true:=by
  by_cases h5:l.l.length<=5000
  rotate_left
  .refine⟨(⟨false,.nil,.nil,.nil⟩,5),?_,?_⟩
   .unfold dH;rw[hv,ζb,bY,decide_eq_true (by simp only[len];omega),bY]
   rw[decide_eq_true (by simp only[len];omega),bY]
   dsimp only;rw[xM];rfl
  have aJ:c6 l (λz=>gP z t)=some (l.l.any λx => !decide (Cons t A x.l)):=kS (λx u=>by
   obtain⟨z,hz,ad⟩:=fZ.eq (T6 O Z w U x);have:z=decide (Cons t A x.l):=by rw[Bool.eq_iff_iff,ad,decide_eq_true_iff]
   unfold gP;rw[hz,this];rfl) aa
  have aK:c6 l (λz=>jy z t)=some (l.l.any λx => !decide (Cons t A x.l)):=kS (λx u=>by
   obtain⟨z,hz,ad⟩:=fZ.eq (Pk O hv w U x);have:z=decide (Cons t A x.l):=by rw[Bool.eq_iff_iff,ad,decide_eq_true_iff]
   unfold jy;rw[hz,this];rfl) aa
  have aw:decide ((len l)>5000)=false:=decide_eq_false (by simp only[len];omega)
  rw[aw,aJ]
  by_cases hC:∀x∈l.l,Cons t A x.l
  rotate_left
  .have B:(l.l.any λx => !decide (Cons t A x.l))=true:=List.any_eq_true.2 (Classical.byContradiction λh=>hC λx u=>Classical.byContradiction λk=>h ⟨x,u,by simp[k]⟩)
   refine⟨(⟨false,.nil,.nil,.nil⟩,18),?_,?_⟩
   .unfold dH;rw[hv,ζb,bY,aw,b8,aK,B,ζb,bY]
   rw[b8,B,ζb,bY];dsimp only;rw[xM];rfl
  have B:(l.l.any λx => !decide (Cons t A x.l))=false:=List.any_eq_false.2 λx u=>by simp[hC x u]
  by_cases L:l.l=[]
  .refine⟨_,MB hv L,?_⟩;have hs:cV t l=some ⟨true,.nil,.nil,.nil⟩:=by
    unfold cV;rw[show ((len l)==0)=true from by simp[len,L],bY]
   rw[b8,B,ζb,b8,hs,ζb];dsimp only;rw[x_];rfl
  obtain⟨q,X,aL,aM⟩:=P4 O hv w U hC h5 L;have ab:lM t (λv=>v∈ins l) q.1:=aM.iff λv=>by rw[lg]
  have I:∀v∈ins l,Cons t A v:=λv hv=>by obtain⟨x,u,rfl⟩:=lg.1 hv;exact hC x u
  have Q:ins l≠[]:=λe=>L (by unfold ins at e;exact List.map_eq_nil_iff.1 e)
  obtain⟨b,hb,C⟩:=OC O w hC aa L;have C:lM t (λv=>v∈ins l) b:=C.iff λv=>by rw[lg]
  refine⟨q,X,?_⟩;rw[b8,B,ζb,b8,hb,ζb,Dn O w I (G3 I Q ab) C,ζb,bY,aL];rfl
 obtain⟨c,hc,aN⟩:=ab;have ae:q9 t=some (⟨true,.nil,.nil,.nil⟩,0):=by
  unfold q9;rw[hv,ζb,bY]
 rw[aI,ζb,ae,ζb,hc,ζb,Z,ζb,bY,ah,ζb,aH,ζb];dsimp only;refine Wp.eq ?_;unfold dy.W1;refine jK t.procs.l.length (λp (q:Sl (Sl Int)×Int)=>q.2=(p:Int)/\(∀x∈q.1.l,Cons t A x.l)/\q.1.l.length<=2+64*p/\List.replicate t.procs.l.length 0∈ins q.1/\mU t∈ins q.1/\∀p',p'<p->∀i,i<fG t p'->el wh.1 p' i∈ins q.1) ⟨rfl,λx u=>?_,by show 2<=_;omega,lg.2 ⟨_,List.mem_cons_self,rfl⟩,lg.2 ⟨fi,by simp[Sl.l],W⟩,λp' G=>absurd G Za⟩ ?_ ?_
 .have u:x=.row (List.replicate t.procs.l.length 0)\/x=fi:=by simpa [Sl.l]using u
  rcases u with rfl|rfl
  .exact BX
  rw[W];exact uV w U
 .rintro p ⟨al,_⟩ G ⟨e,i1,i2,i3,i4,i5⟩;simp only at e i1 i2 i3 i4 i5;subst e;have aW:=ak p G;have aZ:t.procs.l[p].events.l.length=fG t p:=(kj G).symm;unfold dy.bA;rw[nT G,bY,bO G,ζb];unfold dy.W2;refine jK (fG t p) (λi (q:Sl (Sl Int)×Int)=>q.2=(i:Int)/\(∀x∈q.1.l,Cons t A x.l)/\q.1.l.length<=2+64*p+i/\(∀v∈ins al,v∈ins q.1)/\∀i',i'<i->el wh.1 p i'∈ins q.1) ⟨rfl,i1,by omega,λv h=>h,λi' hi=>absurd hi Za⟩ ?_ ?_
  .rintro i ⟨bl,_⟩ hi ⟨e,k1,k2,k3,k4⟩;simp only at e k1 k2 k3 k4;subst e;have ax:p<(Sl.row (List.replicate t.procs.l.length (0:Int))).l.length:=by show p<(List.replicate _ _).length;rw[List.length_replicate];exact G
   obtain⟨c,hc,J⟩:=put_eq (s:=Sl.row (List.replicate t.procs.l.length (0:Int))) (p:=p) (x:=((i:Int)+1)) ax;have J:c.l=(List.replicate t.procs.l.length (0:Int)).set p ((i:Int)+1):=J;have af:∀q,q<t.procs.l.length->nth c.l q=if q=p then(i:Int)+1 else 0:=λq X=>by
    unfold nth;rw[J,List.getElem?_set]
    by_cases e:p=q
    .subst e;simp[X]
    rw[if_neg e,if_neg (Ne.symm e),List.getElem?_replicate,if_pos X];rfl
   have ay:jI t c.l:=(Iu (by rw[J];simp)).2 λq X=>by
    rw[af q X];split
    next e=>subst e;omega
    omega
   obtain⟨r,hr,D,aO,aP⟩:=Co O w U 100000 c ay (by have:=ay.sum;omega)
   have hr:fE t c=some r:=hr;obtain⟨o,ho,S⟩:=oP (s:=bl) (x:=r) Za
   have T:c.l.length=r.l.length:=by rw[D.1.1,J];simp
   have aQ:r.l=el wh.1 p i:=by
    have aR:=(zN T).2 aO;rcases aj.elm p G i hi with⟨-,k⟩|⟨g1,g2,g3⟩
    .have:=k (mU t) (uV w U);rw[zn G]at this;omega
    refine((zN (by rw[D.1.1,g1.1.1])).2 (aP _ g1 ((zN (by rw[T,D.1.1,g1.1.1])).1 (mR.2 ⟨by rw[T,D.1.1,g1.1.1],λq X=>?_⟩)))).anti (g3 _ D ?_)
    .have aA:q<t.procs.l.length:=by rw[<-D.1.1,<-T];exact X
     have:=(gO g1 aA).1;rw[af q aA];split
     next e=>subst e;omega
     exact this
    have:=aR.nth (p:=p) (by rw[J];simp[G])
    rw[af p G,if_pos rfl]at this;omega
   unfold dy.b7;rw[show decide ((i:Int)<len t.procs.l[p].events)=true from decide_eq_true (by simp only[len];omega),bY,ah,ζb,tD ax,ζb,cW i Za,show (((i+1:Nat):Int))=(i:Int)+1 from by omega,hc,ζb,hr,ζb,ho,ζb,bk]
   have Y:∀v,v∈ins bl->v∈ins o:=λv h=>by
    obtain⟨x,u,rfl⟩:=lg.1 h;exact lg.2 ⟨x,by rw[S];exact List.mem_append_left _ u,rfl⟩
   refine⟨by show (i:Int)+1=((i+1:Nat):Int);omega,λx u=>?_,by show o.l.length<=_;rw[S];simp;omega,λv h=>Y v (k3 v h),λi' aS=>?_⟩
   .change x∈o.l at u;rw[S]at u;rcases List.mem_append.1 u with h|h
    .exact k1 x h
    rw[List.mem_singleton.1 h];exact D
   rcases Nat.lt_or_eq_of_le (Nat.lt_succ_iff.1 aS)with q|rfl
   .exact Y _ (k4 i' q)
   exact lg.2 ⟨r,by rw[S];simp,aQ⟩
  rintro⟨bl,_⟩ ⟨e,k1,k2,k3,k4⟩;simp only at e k1 k2 k3 k4;subst e;unfold dy.b7;rw[show decide (((fG t p:Nat):Int)<len t.procs.l[p].events)=false from decide_eq_false (by simp only[len];omega),b8,bk]
  refine(bk _).2 ⟨cW p Za,k1,by show bl.l.length<=_;omega,k3 _ i3,k3 _ i4,λp' aT i hi=>?_⟩
  rcases Nat.lt_or_eq_of_le (Nat.lt_succ_iff.1 aT)with q|rfl
  .exact k3 _ (i5 p' q i hi)
  exact k4 i hi
 rintro⟨al,_⟩ ⟨e,i1,i2,i3,i4,i5⟩;simp only at e i1 i2 i3 i4 i5;subst e;unfold dy.bA;rw[nW,b8,bk];have I:∀v∈ins al,Cons t A v:=λv hv=>by obtain⟨x,u,rfl⟩:=lg.1 hv;exact i1 x u
 have Q:ins al≠[]:=List.ne_nil_of_mem i3;have aB:al.l≠[]:=λe=>Q (by unfold ins;rw[e];rfl)
 obtain⟨b,hb,C⟩:=OC O w i1 Za aB
 have C:lM t (λv=>v∈ins al) b:=C.iff λv=>by rw[lg]
 have aU:=Ow U w I aj i3 i4 i5;show Wp ((cV t al).bind _) _;rw[hb,ζb,Dn O w I (G3 I Q aU) C,ζb,bY,ai,show ((0:Int)==0)=true from rfl,ζb,show (!true)=false from rfl,b8,x_,ζb,ζb,show (!true)=false from rfl,b8,ζb,b8,aN,bk]
end
end Go.VE
namespace Go.VE
theorem Cs {α:Type} [cm α] {x:α}:∀{l:a_ α},x∈l->cm.wt x<=(l.map cm.wt).sum
 | y::l,h=>by
  simp only[List.map_cons,List.sum_cons];rcases List.mem_cons.1 h with rfl|h
  .omega
  have:=Cs h;omega
theorem uE {α:Type} [cm α] (h:∀x:α,1<=cm.wt x):∀(l:a_ α),l.length<=(l.map cm.wt).sum
 | []=>Nat.le_refl _
 | y::l=>by
  simp only[List.map_cons,List.sum_cons,List.length_cons];have:=uE h l;have:=h y;omega
theorem zu {α:Type} [cm α] (s:Sl α):cm.wt s=(s.l.map cm.wt).sum+1:=rfl
theorem zX (p:Int):∀(es:a_ Event) (j:Int),(gU p j es).length=es.length
 | [],_=>rfl
 | _::es,j=>by simp only[gU,List.length_cons,zX p es]
theorem Fs:∀(ps:a_ cr) (i:Int),(eX i ps).length<=(ps.map cm.wt).sum
 | [],_=>Nat.le_refl _
 | p::ps,i=>by
  simp only[eX,ζi,zX,List.map_cons,List.sum_cons];have h1:=Fs ps (i+1);have t:=uE (α:=Event) (λx=>Nat.le_add_left ..) p.events.l
  have u:cm.wt p=cm.wt p.name+cm.wt p.vars+cm.wt p.events+1:=rfl;have w:=zu p.events;omega
theorem NG {t:Trace} (h:cm.wt t<=1048576):Small t/\(bT t).length<1073741824:=by
 have B:cm.wt t=cm.wt t.procs+1:=rfl;have h1:=zu t.procs;have C:=uE (α:=cr) (λx=>Nat.le_add_left ..) t.procs.l
 have D:=Fs t.procs.l 0;refine⟨⟨by omega,λp u=>?_⟩,by show (eX 0 t.procs.l).length<_;omega⟩
 have G:=Cs u;have I:cm.wt p=cm.wt p.name+cm.wt p.vars+cm.wt p.events+1:=rfl;have J:=zu p.events;have L:=zu p.vars;have O:=uE (α:=Event) (λx=>Nat.le_add_left ..) p.events.l
 have Q:=uE (α:=Var) (λx=>Nat.le_add_left ..) p.vars.l
 have w:cm.wt p.name=p.name.size+1:=rfl;refine⟨by omega,by omega,by omega,λv hv=>?_,λe z=>?_⟩
 .have k1:=Cs hv;have k2:cm.wt v=cm.wt v.name+cm.wt v.init_+1:=rfl;have k3:cm.wt v.name=v.name.size+1:=rfl;omega
 have k1:=Cs z;have k2:cm.wt e=cm.wt e.kind+cm.wt e.peer+cm.wt e.message+cm.wt e.time+cm.wt e.assign+1:=rfl;have k3:=zu e.assign;have k4:=uE (α:=Assign) (λx=>Nat.le_add_left ..) e.assign.l
 omega
end Go.VE
namespace Go.Proofs.YtegogepdjcdfcagGreatDoor
open Go.ChangeShapes Go.WideShapes Go.ChangeAt Go.RowKit Go.VE
theorem own:ownKnob Tryz.prog.godebug=none:=by kernel_rfl
theorem kids:Kids Tryz.prog (·<Tryz.prog.types.size):=kids_rows Zh Zh
theorem full:∀t e,t<Tryz.prog.types.size->Tryz.prog.underlying t=some (.slice e)->0<Tryz.prog.cellsOf e:=slices_full_of Tryz.prog Zh
theorem vZ {H:Type}:∀l:a_ (DataW H),Rows.uptoBulkAll l=(l.map Rows.uptoBulk).sum
 | []=>by simp[Rows.uptoBulkAll]
 | d::r=>by simp[Rows.uptoBulkAll,vZ r]
theorem KD {H:Type}:qZ (H:=H) Rows.uptoBulk where
 lit l:=by cases l <;> simp[Rows.uptoBulk]
 str s:=by simp[Rows.uptoBulk]
 nil:=by simp[Rows.uptoBulk]
 slice es t:=by rw[Rows.uptoBulk,vZ,vZ];omega
 agg u:=by rw[Rows.uptoBulk,vZ];exact Nat.le_refl _
theorem IZ:Tryz.prog.globalNamed "antecede/predtype.parts" = some 0:=by kernel_rfl
theorem ME:(Tryz.prog.globals[0]?).map (·.type)=some 201:=by kernel_rfl
theorem table {W:World} (h:laidMetH Tryz.prog Rows.slicePartsUptoRow.laid W):Lib.TabIs Tryz.prog W "antecede/predtype.parts" .i64 EM:=
 Lib.tabIs_of_head (rest:=[]) IZ ME Tryz.underlying201 Tryz.underlying3 Zh Zh h
theorem TY {W:World} (h:laidMetH Tryz.prog Rows.slicePartsUptoRow.laid W):sF (snap W):=λg cs hg=>by
 change (if Nat.beq g 0 then some (EM.map (V.int .i64))else none)=some cs at hg;split at hg
 next t=>cases hg;have:g=0:=Nat.eq_of_beq_eq_true t;subst this;exact My (λi u=>(table h).cell IZ i u) (by decide)
 cases hg
set_option maxRecDepth 100000 in
theorem Hg (H:Type) (enc:TypeId×Value->H) (W:World) (base:Nat) (args:Array Value) (ds gs:a_ (DataW H)) (before:a_ MemPlace)
 (u:∀(j:Nat) t v,Tryz.f3.params[j]? = some t->args[j]? = some v->Value.okWide Tryz.prog W .any base t v)
 (G:DataW.Whole enc Tryz.prog Tryz.f3.params.toList Rows.slicePartsSpec.vars false W args.toList ds gs before) (hk:Rows.uptoSmall H (ds++gs)=true) (T:laidMetH Tryz.prog Rows.slicePartsUptoRow.laid W) :
 Calls Tryz.prog 3 args W λe J=>∃v,e=.returned v/\Rows.slicePartsSpec.post enc Tryz.prog Tryz.f3 false true false false W args v J:=by
 have B:=G;obtain⟨p,q,C,S,rfl,U,X⟩:=G;have I:DataW.TrodAll enc Tryz.prog W 0 (λ_=>true) true Tryz.f3.params.toList args.toList ds p:=C
 rw[Tryz.params3]at I u;obtain⟨L,Y,Z,aa,p0,q0,D,rfl,rfl,h0,r0⟩:=trodAll_cons I;obtain⟨O,ab,d1,ad,p1,q1,rfl,rfl,rfl,h1,r1⟩:=trodAll_cons r0;obtain⟨rfl,rfl,rfl⟩:=trodAll_nil r1;obtain rfl:args=#[L,O]:=by cases args;simp_all
 obtain⟨rfl,rfl⟩:=trodVars_none S;obtain⟨a0,w0,k0,b0⟩:=Reads.Pn (t:=24) (α:=VE.Trace) u 0 rfl rfl h0;obtain⟨z,w1,k1,b1⟩:=Reads.Pn (t:=25) (α:=Sl (Sl Int)) u 1 rfl rfl h1;have hb:cm.wt a0+cm.wt z<=1048576:=by
  have c0:=b0 Rows.uptoBulk KD;have c1:=b1 Rows.uptoBulk KD;have Q:Rows.uptoBulkAll ([Z,d1]++[])<=1048576:=of_decide_eq_true hk;rw[vZ]at Q;simp only[List.append_nil,List.map_cons,List.map_nil,List.sum_cons,List.sum_nil]at Q;omega
 obtain⟨hS,hN⟩:=NG (t:=a0) Za
 have hc:lB cL 3 [VE.enc a0,VE.enc z]=some [.bool true]:=by
  have hl:(dy a0 z).bind (λr:Bool=>some [V.bool r])=some [.bool true]:=by rw[Li hS hN (by have h1:=zu z;have h2:=uE (α:=Sl Int) (λx=>Nat.le_add_left ..) z.l;omega)];rfl
  exact(xL a0 z).F.h () _ hl
 have:=I4 (P:=Tryz.prog) TW QC calls (f:=3) (xs:=[VE.enc a0,VE.enc z]) (by simp[V.cN,V.good,ni]) hc (w:=W) (args:=#[L,O]) (TY T) (cE.cons w0 (cE.cons w1 .nil))
 refine this.mono λe J ⟨he,hg⟩=>?_
 subst he;exact⟨_,rfl,KR kids full (by rw[Tryz.params3];decide) rfl rfl rfl Tryz.underlying4 B hg⟩
noncomputable def yZ (os:Os):World:=
 { World.holding Tryz.prog os ⟨#[],#[],[]⟩with heap:=(World.holding Tryz.prog os ⟨#[],#[],[]⟩).heap.modify 0 fun
  | .cells _ t frozen=>.cells (EM.map (Value.int .i64)).toArray t frozen
  | o=>o }
theorem Mt (os:Os):laidMet Tryz.prog Rows.slicePartsUptoRow.laid ((yZ os).forCall (λ_ _=>0) ⟨#[],#[.agg #[.slice none 0 0],.slice none 0 0],[]⟩).memory:=
 laidMet_of_run' 8 Zh Zh
theorem NV (os:Os) {H:Type} (enc:TypeId×Value->H):∃places,DataW.whole enc Tryz.prog ((yZ os).forCall (λ_ _=>0) ⟨#[],#[.agg #[.slice none 0 0],.slice none 0 0],[]⟩).memory Tryz.f3.params.toList Rows.slicePartsSpec.vars false (#[.agg #[.slice none 0 0],.slice none 0 0]:Array Value).toList 8=some ([.agg [.nil],.nil],[],places):=
 ⟨[],by kernel_rfl⟩
set_option maxRecDepth 100000 in
theorem KY (os:Os) (u:os.Started) (H:Type) (enc:TypeId×Value->H) (F:Stop.Interp) :
 ReturnsInHanded {} Tryz.checked os 3 .any ((Rows.OpenSpec.upto Rows.slicePartsSpec).preRow enc Tryz.prog Tryz.f3 Rows.slicePartsUptoRow.domain false Rows.slicePartsUptoRow.laid) (((Rows.OpenSpec.upto Rows.slicePartsSpec).at F).post enc Tryz.prog Tryz.f3 false true false false):=by
 obtain⟨places,z⟩:=NV os enc;refine returnsInHanded_of_row (C:=Tryz.checked) (s:=Rows.OpenSpec.upto Rows.slicePartsSpec) own u Zh Tryz.func3
  (witness_row_at (enc:=enc) (C:=Tryz.checked) false (yZ os) #[.agg #[.slice none 0 0],.slice none 0 0] rfl Zh Zh Zh
   (OpenSpec.preRow_of_cond 8 z Zh (λk hk=>by cases hk;kernel_rfl) Zh (Mt os))) ?_
 intro W base args ds gs before w B _ t _ D _ _;exact Hg H enc W base args ds gs before w B (t _ rfl) D
theorem QB:Rows.SlicePartsUptoSaid:=
 OpenClaim.holds_of_cond 3 Tryz.f3 rfl rfl rfl rfl rfl rfl rfl ⟨rfl,rfl,rfl,rfl,rfl⟩ rfl rfl rfl rfl rfl Zh Tryz.func3 Zh
  (of_decide_eq_true Zh) (by unfold Func.isWrapper;first|(rw[if_pos (by decide +kernel)];kernel_rfl)|(rw[if_neg (by decide +kernel)];exact⟨rfl,rfl⟩))
  (λos t H enc _ F=>by rw[OpenClaim.pre_eq_preRow];exact KY os t H enc F)
theorem N0 (f:FuncId) (fn:Func) (D:Tryz.pinned.checked.prog.funcNamed "antecede/antecedelaw34.SliceParts" = some f) (B:Tryz.pinned.checked.prog.funcs[f]? = some fn) :
 false=Tryz.pinned.checked.prog.looks []/\∀(j:Nat) t,fn.params[j]? = some t->Tryz.pinned.checked.prog.wantsStandIn t=false:=by
 obtain rfl:f=3:=Option.some.inj ((show Tryz.prog.funcNamed "antecede/antecedelaw34.SliceParts" = some 3 by kernel_rfl).symm.trans D) |>.symm
 obtain rfl:fn=Tryz.f3:=(Option.some.inj (Tryz.func3.symm.trans B)).symm;refine⟨by kernel_rfl,λj t z=>?_⟩
 rw[Tryz.params3]at z;have C:t∈[24,25]:=by simpa using Array.mem_of_getElem? z
 have w:([24,25].all λu => !Tryz.prog.wantsStandIn u)=true:=by kernel_rfl
 exact(show Tryz.prog.wantsStandIn t=false by simpa using List.all_eq_true.1 w t C)
theorem slicePartsProved:Rows.SlicePartsUptoCardSaid:=
 Claim7.holds_tied_plain_at .later [] _ _ _ _ QB (λ_ h=>by cases h) Zh (λ_ h=>by cases h) slicePartsUpto_row_tie rfl ⟨rfl,rfl⟩ Zh rfl N0 Zh
#print axioms slicePartsProved
end Go.Proofs.YtegogepdjcdfcagGreatDoor
