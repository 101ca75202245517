/-
 GraftOperators says true for all arguments that together are of bulk at most 1048576, and they read behind the call as they read before: for every such argument, without a condition.
-/
import Derived.Test.YtimppgndlmehbaaGreatRows
import Derived.Test.YtimppgndlmehbaaGreatL1
set_option linter.all false
namespace Go.VE
section
variable {t:Trace} {A:b7 200 bt} {s:Slice}
def z6 (t:Trace) (A:b7 200 bt) (U:List Int->Prop) (b:Slice):Prop:=(b=⟨true,.nil,.nil,.nil⟩/\∀u,¬U u)\/sO t A U b
def Ph (t:Trace) (A:b7 200 bt) (s:Slice) (u:List Int):Prop:=s.empty=false/\Cons t A u/\bS u s.last.l
theorem Wa (D:Small t) (hv:dc t=some true) (B:VT t) (J:eu t (bU t) A):∃b,vG t s=some b/\z6 t A (Ph t A s) b:=by
 have L:∀c:Sl Int,iy t c.l->(∃d,mO c s t=some (d,true)/\Ph t A s d.l/\bS c.l d.l/\∀u,Ph t A s u->bS c.l u->bS d.l u)\/(mO c s t=some (Sl.nil,false)/\∀u,Ph t A s u->¬bS c.l u):=λc O=>by
  obtain⟨r,hr,G,Q,H⟩:=EP D hv B J O;have S:=B.few;unfold mO
  cases I:s.empty with
  | true=>
   rw[bF,ζb,bF];exact .inr ⟨rfl,λu hu=>by have:=hu.1;rw[I]at this;cases this⟩
  | false=>
   obtain⟨b,C,w⟩:=zc (a:=r) (b:=s.last) (by rw[G.1.1];omega)
   rw[bK,hr,ζb,C,ζb,ζb]
   cases b with
   | true=>
    rw[show (!true)=false from rfl,bK,ζb];exact .inl ⟨r,rfl,⟨I,G,w.1 rfl⟩,Q,λu hu q=>H u hu.2.1 q⟩
   | false=>
    rw[show (!false)=true from rfl,bF];exact .inr ⟨rfl,λu hu q=>by have:=w.2 ((H u hu.2.1 q).trans hu.2.2);cases this⟩
 obtain⟨b,C,h⟩:=Ct D B (p1:=λz=>mO z s t) (λu hu=>hu.2.1) L
 exact⟨b,by unfold vG;rw[C];rfl,h⟩
theorem La (B:Small t) (G:VT t) (D:s.last.l.length<1073741824):cg (qE t s) (s.empty=false/\s.last.l=kC t):=by
 obtain⟨r,hr,q⟩:=OK B;unfold qE
 cases z:s.empty with
 | true=>exact gL ⟨λe=>(nomatch e),λe=>(nomatch e.1)⟩
 | false=>
  obtain⟨b,w,u⟩:=JO (a:=s.last) (b:=r) D;rw[bK,hr,ζb,w];exact gL (u.trans ⟨λe=>⟨rfl,e.trans q⟩,λe=>e.2.trans q.symm⟩)
def Vg (t:Trace) (A:b7 200 bt) (B u:List Int):Prop:=Cons t A u/\bS B u
theorem SQ (O:Small t) (hv:dc t=some true) (D:VT t) (U:eu t (bU t) A) {B:Sl Int} (J:iy t B.l):Jr t (Vg t A B.l) (λz=>oE z t B):=λc w=>by
 have Q:=D.few;have H:=D.ok.one;have C:c.l.length=B.l.length:=w.1.trans J.1.symm;obtain⟨j,S,q⟩:=Ao C (by rw[w.1];omega) (by rw[w.1];omega)
 obtain⟨r,hr,T,I,L⟩:=EP O hv D U (c:=j) (by rw[q];exact xJ w J)
 rw[q]at I L;obtain⟨W,X⟩:=(qu C).1 I;refine .inl ⟨r,by show oE c t B=_;unfold oE;rw[S,ζb,hr];rfl,⟨T,X⟩,W,λu hu G=>L u hu.1 ((qu C).2 ⟨G,hu.2⟩)⟩
structure KD (t:Trace) (s:Slice) (own:Nat->Nat->List Int) (P I Q:Nat) (B:List Int):Prop where
 r:iy t B
 f:∀q,q<t.procs.l.length->nth s.first.l q<=nth B q
 up:∀p,p<t.procs.l.length->∀i,i<dA t p->∀q,q<t.procs.l.length->(p<P\/p=P/\(i<I\/i=I/\q<Q))->nth (own p i) q<nth (el s p i) q->nth (el s p i) q<=nth B q
 at_:∀q,q<t.procs.l.length->nth B q=nth s.first.l q\/∃p,p<t.procs.l.length/\∃i,i<dA t p/\nth (own p i) q<nth (el s p i) q/\nth (el s p i) q=nth B q
theorem Wg (hS:Small t) (hv:dc t=some true) (hV:VT t) (hM:eu t (bU t) A) (hF:s.empty=true\/lF t A s) (hl:s.last.l.length<1073741824) :
 ∃b,gT t s=some b/\(((s.empty=false/\s.last.l=kC t)/\∃own B,Ku t A own/\Ge t A s own B/\z6 t A (Vg t A B) b)\/¬(s.empty=false/\s.last.l=kC t)/\b=⟨true,.nil,.nil,.nil⟩):=by
 have aB:=hV.few;have ax:=hV.ok.one;obtain⟨w,hw,ai⟩:=La hS hV hl (s:=s);unfold gT;rw[hw,ζb]
 cases w with
 | false=>
  rw[bK];exact⟨_,rfl,.inr ⟨λh=>(nomatch ai.2 h),rfl⟩⟩
 | true=>
  rw[bF];obtain⟨he,aa⟩:=ai.1 rfl;have hF:=hF.resolve_left (by rw[he];simp)
  have ad:Cons t A s.first.l:=hF.1.1.1.1.1.1
  have aj:s.j.l.length=t.procs.l.length:=hF.1.1.1.2;obtain⟨d,hd,ae⟩:=sW (c:=s.first) (by rw[ad.1.1];omega) (by rw[ad.1.1];omega)
  rw[hd,ζb];have ab:∀p,p<t.procs.l.length->∀i,i<dA t p->Cons t A (el s p i):=λp D i U=>(uf hF he D (by rw[aa,qh D];omega)).2.2
  have an:∀p,p<t.procs.l.length->dA t p<1073741824:=λp D=>by rw[jK D];exact(hS.2 _ (List.getElem_mem D)).1
  have W:(List.replicate t.procs.l.length (0:Int)).length=t.procs.l.length:=List.length_replicate;have hz:∀p,p<t.procs.l.length->∀i,i<dA t p->iy t ((List.replicate t.procs.l.length (0:Int)).set p (fC (nth (List.replicate t.procs.l.length (0:Int)) p) ((i:Int)+1))):=λp D i U=>FH FO D U
  have L:∀p,p<t.procs.l.length->∀i:Nat,∀u,Cons t A u->(bS ((List.replicate t.procs.l.length (0:Int)).set p (fC (nth (List.replicate t.procs.l.length (0:Int)) p) ((i:Int)+1))) u↔(i:Int)<nth u p):=λp D i u hu=>by
   rw[IJ (by rw[W,hu.1.1]) (by rw[W];exact D)]
   exact⟨λh=>by have:=h.2;omega,λh=>⟨zero_le hu,by omega⟩⟩
  have hex:∀p i,∃o:List Int,p<t.procs.l.length->i<dA t p->Cons t A o/\(i:Int)<nth o p/\∀u,Cons t A u->(i:Int)<nth u p->bS o u:=λp i=>by
   by_cases h:p<t.procs.l.length/\i<dA t p
   .obtain⟨r,_,rC,rl,rm⟩:=EP hS hv hV hM (c:=.row _) (hz p h.1 i h.2);exact⟨r.l,λ_ _=>⟨rC,(L p h.1 i _ rC).1 rl,λu hu G=>rm u hu ((L p h.1 i u hu).2 G)⟩⟩
   .exact⟨[],λh1 H=>absurd ⟨h1,H⟩ h⟩
  let own:Nat->Nat->List Int:=λp i=>Classical.choose (hex p i)
  have hO:Ku t A own:=λp D i U=>Classical.choose_spec (hex p i) D U
  unfold gT.W1;show Wp _ λb=>_
  refine eT t.procs.l.length (λp (q:Int×Slice×Sl Int)=>q.1=(p:Int)/\KD t s own p 0 0 q.2.2.l) ⟨rfl,by rw[ae];exact ad.1,λq _=>by rw[ae];exact Int.le_refl _,λp _ i _ q _ h=>absurd h (by omega),λq _=>.inl (by rw[ae])⟩ ?_ ?_
  .rintro p ⟨v,vb,B⟩ D ⟨rfl,i1⟩;simp only at i1;have X:p<s.j.l.length:=by rw[aj];exact D
   have ay:s.j.l[p].l.length=dA t p:=by rw[<-lY X];exact hF.1.1.2 p D
   have aA:=an p D;unfold gT.bf;simp only;rw[fh X,bF,bB X,ζb];unfold gT.W2;refine eT (s.j.l[p]).l.length (λi (q:Int×Slice×Sl Int)=>q.1=(i:Int)/\KD t s own p i 0 q.2.2.l) ⟨rfl,i1⟩ ?_ ?_
   .rintro i ⟨v,ao,B2⟩ U ⟨rfl,Y⟩;simp only at Y;have S:i<dA t p:=by omega
    unfold gT.bO;simp only;have af:s.j.l[p].l[i].l=el s p i:=by
     unfold el;rw[ζd X];simp only[ζd U]
    generalize hx:s.j.l[p].l[i]=x at af;have ap:kf (len B2) (0:Int)=some (.row (List.replicate t.procs.l.length 0)):=by
     have:len B2=(t.procs.l.length:Int):=by simp only[len,Y.r.1]
     unfold kf;rw[this,if_pos (by omega)];simp
    rw[fh U,bF,bB U,hx,ζb,ap,ζb,bY i (by omega)]
    obtain⟨wc,aq,ah⟩:=Pk (c:=.row (List.replicate t.procs.l.length 0)) (p:=p) (x:=((i+1:Nat):Int)) (by show p<(List.replicate _ _).length;rw[W];exact D) (by show (List.replicate _ _).length<_;rw[W];omega)
    change wc.l=(List.replicate t.procs.l.length (0:Int)).set p (fC (nth (List.replicate t.procs.l.length (0:Int)) p) ((i:Int)+1))at ah;obtain⟨r,hr,rC,rl,rm⟩:=EP hS hv hV hM (c:=wc) (by rw[ah];exact hz p D i S)
    rw[aq,ζb,hr,ζb];have ar:r.l=own p i:=by
     obtain⟨o1,o2,o3⟩:=hO p D i S;rw[ah]at rl rm;exact(rm _ o1 ((L p D i _ o1).2 o2)).anti (o3 _ rC ((L p D i _ rC).1 rl))
    have aC:x.l.length=t.procs.l.length:=by rw[af];exact(ab p D i S).1.1
    unfold gT.W3;refine eT x.l.length (λq (z:Int×Slice×Sl Int)=>z.1=(q:Int)/\KD t s own p i q z.2.2.l) ⟨rfl,Y⟩ ?_ ?_
    .rintro q ⟨v,au,Q⟩ hq ⟨rfl,k1⟩;simp only at k1;unfold gT.dh;simp only;have av:q<t.procs.l.length:=by omega
     rw[fh hq,bF,bB hq,ζb,bB (s:=r) (by rw[rC.1.1];exact av),ζb,<-iw hq,<-iw (l:=r.l),af,ar]
     have ak:=k1.r.1
     by_cases Z:nth (el s p i) q>nth (own p i) q
     .obtain⟨y,hy,al⟩:=put_eq (s:=Q) (p:=q) (x:=fC (nth Q.l q) (nth (el s p i) q)) (by omega)
      rw[decide_eq_true Z,bF,qv (by omega),ζb,Dr (by omega),ζb,ζb]
      rw[show (if nth (el s p i) q>nth Q.l q then nth (el s p i) q else nth Q.l q)=fC (nth Q.l q) (nth (el s p i) q)from rfl,hy,ζb,a_];have O:∀C,C<t.procs.l.length->nth y.l C=if C=q then fC (nth Q.l q) (nth (el s p i) q)else nth Q.l C:=λC H=>by rw[al,gy (by omega)]
      have am:∀C,C<t.procs.l.length->nth Q.l C<=nth y.l C:=λC H=>by
       rw[O C H];split
       .rename_i e;subst e;rcases gz (nth Q.l C) (nth (el s p i) C)with⟨e,_⟩|⟨e,_⟩ <;> rw[e] <;> omega
       .exact Int.le_refl _
      refine⟨bY q (by omega),(pV (by rw[al,List.length_set];exact ak)).2 λC H=>?_,λC H=>Int.le_trans (k1.f C H) (am C H),λp2 I i2 J C H hD G=>?_,λC H=>?_⟩
      .simp only;rw[O C H];have a1:=(pV ak).1 k1.r C H;have a2:=eM (ab p D i S) H;split
       .rename_i e;subst e;rcases gz (nth Q.l C) (nth (el s p i) C)with⟨e,_⟩|⟨e,_⟩ <;> rw[e] <;> assumption
       .exact a1
      .by_cases T:p2=p/\i2=i/\C=q
       .obtain⟨rfl,rfl,rfl⟩:=T;simp only;rw[O C H,if_pos rfl];rcases gz (nth Q.l C) (nth (el s p2 i2) C)with⟨e,_⟩|⟨e,_⟩ <;> rw[e] <;> omega
       .exact Int.le_trans (k1.up p2 I i2 J C H (by omega) G) (am C H)
      .simp only;rw[O C H];split
       .rename_i e;subst e;rcases gz (nth Q.l C) (nth (el s p i) C)with⟨e,_⟩|⟨e,_⟩
        .rw[e];exact k1.at_ C H
        .rw[e];exact .inr ⟨p,D,i,S,Z,rfl⟩
       .exact k1.at_ C H
     .rw[decide_eq_false Z,bK,a_];refine⟨bY q (by omega),k1.r,k1.f,λp2 I i2 J C H hD G=>?_,k1.at_⟩
      by_cases T:p2=p/\i2=i/\C=q
      .obtain⟨rfl,rfl,rfl⟩:=T;exact absurd G Z
      .exact k1.up p2 I i2 J C H (by omega) G
    .rintro⟨v,au,Q⟩ ⟨rfl,k1⟩;simp only at k1;unfold gT.dh;simp only;rw[fe,bK,a_];refine(a_ _).2 ⟨bY i (by omega),k1.r,k1.f,λp2 I i2 J C H hD G=>k1.up p2 I i2 J C H (by omega) G,k1.at_⟩
   .rintro⟨v,ao,B2⟩ ⟨rfl,Y⟩;simp only at Y;unfold gT.bO;simp only;rw[fe,bK,a_];refine(a_ _).2 ⟨bY p (by omega),Y.r,Y.f,λp2 I i2 J C H hD G=>Y.up p2 I i2 J C H (by
     rcases hD with h|h
     .rcases Nat.lt_or_eq_of_le (Nat.lt_succ_iff.1 h)with h|rfl
      .exact .inl h
      .exact .inr ⟨rfl,.inl (by omega)⟩
     .omega) G,Y.at_⟩
  .rintro⟨v,vb,B⟩ ⟨rfl,i1⟩;simp only at i1;unfold gT.bf;simp only;rw[<-aj,fe,bK,a_];obtain⟨b,hb,aw⟩:=Ct hS hV (λu hu=>hu.1) (SQ hS hv hV hM i1.r)
   show Wp ((dP t _).bind _) _;rw[hb,ζb,a_];exact .inl ⟨⟨he,aa⟩,own,B.l,hO,⟨i1.r.1,i1.f,λp D i U q hq G=>i1.up p D i U q hq (.inl D) G,i1.at_⟩,aw⟩
end
end Go.VE
namespace Go.VE
def nv {α:Type}:List (List α)->Nat->Nat->Nat
 | [],_,i=>i
 | _::_,0,i=>i
 | r::R,p+1,i=>r.length+nv R p i
theorem Bs {α:Type}:∀{R:List (List α)} {p i:Nat} {r:List α},R[p]? = some r->i<r.length->R.flatten[nv R p i]? = r[i]?
 | [],p,i,r,h,_=>by simp at h
 | D::R,0,i,r,h,B=>by
  simp only[List.getElem?_cons_zero,ζa]at h;subst h;rw[List.flatten_cons,nv,List.getElem?_append_left B]
 | D::R,p+1,i,r,h,B=>by
  rw[List.flatten_cons,nv,List.getElem?_append_right (by omega),Nat.add_sub_cancel_left]
  exact Bs (by simpa using h) B
theorem Cu {α:Type}:∀{R:List (List α)} {m:Nat},m<R.flatten.length->∃p i r,R[p]? = some r/\i<r.length/\m=nv R p i
 | [],m,h=>by simp at h
 | B::R,m,h=>by
  rw[List.flatten_cons,ζi]at h
  by_cases D:m<B.length
  .exact⟨0,m,B,rfl,D,rfl⟩
  .obtain⟨p,i,r,h1,G,J⟩:=Cu (R:=R) (m:=m-B.length) (by omega)
   exact⟨p+1,i,r,by simpa using h1,G,by rw[nv];omega⟩
theorem QT {α:Type}:∀{R:List (List α)} {p i:Nat} {r:List α},R[p]? = some r->i<r.length->nv R p i<R.flatten.length:=λ{R p i r} h q=>by
 have:=Bs h q;rw[ζd q]at this;exact(ζe.1 this).1
theorem GF {α:Type}:∀{R:List (List α)} {p i q k:Nat} {r B:List α},R[p]? = some r->i<r.length->R[q]? = some B->k<B.length->nv R p i=nv R q k->p=q/\i=k
 | [],p,i,q,k,r,B,h,_,_,_,_=>by simp at h
 | D::R,0,i,0,k,r,B,_,_,_,_,h=>⟨rfl,h⟩
 | D::R,0,i,q+1,k,r,B,h,G,_,_,e=>by
  simp only[List.getElem?_cons_zero,ζa]at h;subst h;rw[nv,nv]at e;omega
 | D::R,p+1,i,0,k,r,B,_,_,h,G,e=>by
  simp only[List.getElem?_cons_zero,ζa]at h;subst h;rw[nv,nv]at e;omega
 | D::R,p+1,i,q+1,k,r,B,h,G,J,hk,e=>by
  rw[nv,nv]at e;obtain⟨a,b⟩:=GF (R:=R) (by simpa using h) G (by simpa using J) hk (by omega)
  exact⟨by omega,b⟩
section
variable {t:Trace} {A:b7 200 bt} {s:Slice}
def rY (B:Sl (Sl Int)) (m:Nat):List Int:=match B.l[m]? with|some c=>c.l|none=>[]
structure JV (t:Trace) (s:Slice) (al:Sl (Sl Int)) (M K:Nat) (B:List Int):Prop where
 r:iy t B
 f:bS s.first.l B
 up:∀m,m<al.l.length->∀k,k<m->(m<M\/m=M/\k<K)->rY al m=rY al k->¬bS (rY al m) s.first.l->bS (rY al m) B
 at_:∀r,r<t.procs.l.length->nth B r=nth s.first.l r\/∃m,m<al.l.length/\∃k,k<m/\rY al m=rY al k/\nth (rY al m) r=nth B r
def SB (t:Trace) (A:b7 200 bt) (s:Slice) (B u:List Int):Prop:=uT t A [s] u/\bS B u
theorem Sd (W:Small t) (J:VT t) (Y:s.empty=true\/lF t A s) {B:Sl Int} (O:iy t B.l):Jr t (SB t A s B.l) (λz=>lJ z B s):=λc D=>by
 have X:=J.few;have L:=J.ok.one;have G:c.l.length=B.l.length:=D.1.trans O.1.symm;obtain⟨j,Q,q⟩:=Ao G (by rw[D.1];omega) (by rw[D.1];omega)
 have H:iy t j.l:=by rw[q];exact xJ D O
 rcases Q6 (A:=A) W J (l1:=.row [s]) (by intro x S;simp only[Sl.l,List.mem_singleton]at S;rw[S];exact Y) (by simp[Sl.l]) (by simp[Sl.l]) H with⟨d,I,Z,T,U⟩|⟨I,C⟩
 .rw[q]at T U;obtain⟨m1,m2⟩:=(qu G).1 T;exact .inl ⟨d,by show lJ c B s=_;unfold lJ;rw[Q,ζb,I];rfl,⟨Z,m2⟩,m1,λu hu w=>U u hu.1 ((qu G).2 ⟨w,hu.2⟩)⟩
 .rw[q]at C;exact .inr ⟨by show lJ c B s=_;unfold lJ;rw[Q,ζb,I];rfl,λu hu w=>C u hu.1 ((qu G).2 ⟨w,hu.2⟩)⟩
theorem V9 (hS:Small t) (hV:VT t) (hF:s.empty=true\/lF t A s) (hl:s.last.l.length<1073741824) (av:(s.j.l.flatMap Sl.l).length<1073741824) :
 ∃b,jm t s=some b/\(((s.empty=false/\s.last.l=kC t)/\∃B,Gz t s B/\z6 t A (SB t A s B) b)\/¬(s.empty=false/\s.last.l=kC t)/\b=⟨true,.nil,.nil,.nil⟩):=by
 have aK:=hV.few;have aI:=hV.ok.one;obtain⟨w,hw,ak⟩:=La hS hV hl (s:=s);unfold jm;rw[hw,ζb]
 cases w with
 | false=>
  rw[bK];exact⟨_,rfl,.inr ⟨λh=>(nomatch ak.2 h),rfl⟩⟩
 | true=>
  rw[bF];obtain⟨he,ab⟩:=ak.1 rfl;have aw:=hF;have hF:=hF.resolve_left (by rw[he];simp)
  have ad:Cons t A s.first.l:=hF.1.1.1.1.1.1
  have aL:s.j.l.length=t.procs.l.length:=hF.1.1.1.2;obtain⟨d,hd,ae⟩:=sW (c:=s.first) (by rw[ad.1.1];omega) (by rw[ad.1.1];omega)
  have am:jF s.j=some (BA s.j):=by unfold jF;rw[if_pos ⟨by omega,by omega⟩]
  rw[hd,ζb,am,ζb];generalize ax:BA s.j=z;have J:z.l=(s.j.l.map Sl.l).flatten:=by
   rw[<-ax,<-List.flatMap_def];unfold BA;split
   .rename_i h;exact(List.length_eq_zero_iff.1 h).symm
   .rfl
  have aJ:z.l.length<1073741824:=by rw[J,<-List.flatMap_def];exact av
  have L:∀p,p<t.procs.l.length->∃r,(s.j.l.map Sl.l)[p]? = some r/\r.length=dA t p/\∀i,i<dA t p->∃c:Sl Int,r[i]? = some c/\c.l=el s p i:=λp I=>by
   have af:p<s.j.l.length:=by omega
   have hr:s.j.l[p].l.length=dA t p:=by rw[<-lY af];exact hF.1.1.2 p I
   refine⟨_,by rw[List.getElem?_map,ζd af];rfl,hr,λi O=>⟨_,ζd (by rw[hr];exact O),?_⟩⟩
   unfold el;rw[ζd af];simp only[ζd (show i<s.j.l[p].l.length by rw[hr];exact O)]
  have ah:∀p,p<t.procs.l.length->∀i,i<dA t p->nv (s.j.l.map Sl.l) p i<z.l.length/\rY z (nv (s.j.l.map Sl.l) p i)=el s p i:=λp I i O=>by
   obtain⟨r,h1,h2,h3⟩:=L p I;obtain⟨c,hc,ay⟩:=h3 i O;have an:i<r.length:=by omega
   refine⟨by rw[J];exact QT h1 an,?_⟩
   unfold rY;rw[J,Bs h1 an,hc];exact ay
  have ai:∀m,m<z.l.length->∃p,p<t.procs.l.length/\∃i,i<dA t p/\m=nv (s.j.l.map Sl.l) p i/\rY z m=el s p i:=λm D=>by
   rw[J]at D;obtain⟨p,i,r,h1,h2,h3⟩:=Cu D;have I:p<t.procs.l.length:=by have:=(ζe.1 h1).1;rw[List.length_map]at this;omega
   obtain⟨r',g1,g2,g3⟩:=L p I;rw[h1]at g1;cases g1;have O:i<dA t p:=by omega
   exact⟨p,I,i,O,h3,by rw[h3];exact(ah p I i O).2⟩
  have ao:∀p,p<t.procs.l.length->∀i,i<dA t p->Cons t A (el s p i):=λp I i O=>(uf hF he I (by rw[ab,qh I];omega)).2.2
  have aA:∀m,m<z.l.length->Cons t A (rY z m):=λm D=>by
   obtain⟨p,I,i,O,_,e⟩:=ai m D;rw[e];exact ao p I i O
  have C:∀m (D:m<z.l.length),z.l[m].l=rY z m:=λm D=>by unfold rY;rw[ζd D]
  unfold jm.W1;show Wp _ λb=>_
  refine eT z.l.length (λm (q:Int×Slice×Sl Int)=>q.1=(m:Int)/\JV t s z m 0 q.2.2.l) ⟨rfl,by rw[ae];exact ad.1,by rw[ae];exact bS.refl _,λm _ k _ h=>absurd h (by omega),λq _=>.inl (by rw[ae])⟩ ?_ ?_
  .rintro m ⟨v,vb,B⟩ D ⟨rfl,i1⟩;simp only at i1;unfold jm.bf;simp only;obtain⟨x,hx,ap⟩:=pH z m (by omega)
   rw[fh D,bF,bB D,ζb,hx,ζb];unfold jm.W2;have aM:x.l.length=m:=by rw[ap,List.length_take];omega
   refine eT x.l.length (λk (q:Int×Slice×Sl Int)=>q.1=(k:Int)/\JV t s z m k q.2.2.l) ⟨rfl,i1⟩ ?_ ?_
   .rintro k ⟨v,aB,B2⟩ hk ⟨rfl,G⟩;simp only at G;unfold jm.bO;simp only;have aq:k<m:=by omega
    have aC:x.l[k].l=rY z k:=by
     have e1:x.l[k]? = z.l[k]? := by rw[ap,List.getElem?_take,if_pos aq]
     rw[ζd hk,ζd (show k<z.l.length by omega)]at e1
     rw[<-C k (by omega)];exact congrArg Sl.l (Option.some.inj e1)
    have Y:=aA m D;obtain⟨b,hb,ar⟩:=zc (a:=z.l[m]) (b:=s.first) (by rw[C m D,Y.1.1];omega)
    obtain⟨b2,aD,Q⟩:=JO (a:=z.l[m]) (b:=x.l[k]) (by rw[C m D,Y.1.1];omega)
    rw[C m D]at ar Q;rw[aC]at Q;rw[fh hk,bF,bB hk,ζb,hb,ζb,aD];have keep:(¬(¬bS (rY z m) s.first.l/\rY z m=rY z k))->JV t s z m (k+1) B2.l:=λaE=>⟨G.r,G.f,λm2 T k2 U hD S H=>by
     by_cases W:m2=m/\k2=k
     .obtain⟨rfl,rfl⟩:=W;exact absurd ⟨H,S⟩ aE
     .exact G.up m2 T k2 U (by omega) S H,G.at_⟩
    cases b with
    | true=>
     rw[bF,ζb,bK,a_];exact⟨bY k (by omega),keep λh=>h.1 (ar.1 rfl)⟩
    | false=>
     rw[bK,ζb,ζb]
     cases b2 with
     | false=>
      rw[bK,a_];exact⟨bY k (by omega),keep λh=>(nomatch Q.2 h.2)⟩
     | true=>
      have Z:B2.l.length=z.l[m].l.length:=by rw[C m D,G.r.1,Y.1.1]
      obtain⟨r,hr,X⟩:=Ao Z (by rw[G.r.1];omega) (by rw[G.r.1];omega)
      rw[C m D]at X Z;rw[bF,hr,ζb,a_];obtain⟨w1,w2⟩:=(qu Z).1 (bS.refl (List.zipWith fC B2.l (rY z m)));refine⟨bY k (by omega),by rw[X];exact xJ G.r Y.1,by rw[X];exact G.f.trans w1,λm2 T k2 U hD S H=>?_,λq hq=>?_⟩
      .simp only[X]
       by_cases W:m2=m/\k2=k
       .obtain⟨rfl,rfl⟩:=W;exact w2
       .exact(G.up m2 T k2 U (by omega) S H).trans w1
      .simp only[X];rw[As Z (by rw[G.r.1];exact hq)]
       rcases gz (nth B2.l q) (nth (rY z m) q)with⟨e,_⟩|⟨e,_⟩
       .rw[e];exact G.at_ q hq
       .rw[e];exact .inr ⟨m,D,k,aq,Q.1 rfl,rfl⟩
   .rintro⟨v,aB,B2⟩ ⟨rfl,G⟩;simp only at G;unfold jm.bO;simp only;rw[fe,bK,a_];refine(a_ _).2 ⟨bY m (by omega),G.r,G.f,λm2 T k2 U hD S H=>G.up m2 T k2 U (by omega) S H,G.at_⟩
  .rintro⟨v,vb,B⟩ ⟨rfl,i1⟩;simp only at i1;unfold jm.bf;simp only;rw[fe,bK,a_];obtain⟨b,hb,aF⟩:=Ct hS hV (λu hu=>hu.1.1) (Sd hS hV aw i1.r)
   show Wp ((dP t _).bind _) _;rw[hb,ζb,a_];refine .inl ⟨⟨he,ab⟩,B.l,⟨i1.r.1,i1.f,λp I i O q hq k hk aG aa H=>?_,λr hr=>?_⟩,aF⟩
   .obtain⟨a1,a2⟩:=ah p I i O;obtain⟨b1,b2⟩:=ah q hq k hk;obtain⟨r1,g1,g2,_⟩:=L p I;obtain⟨r2,g3,g4,_⟩:=L q hq;have aj:nv (s.j.l.map Sl.l) p i≠nv (s.j.l.map Sl.l) q k:=λe=>by
     obtain⟨x1,x2⟩:=GF g1 (by omega) g3 (by omega) e
     rcases aG with h|h
     .exact h x1
     .exact h x2
    rcases Nat.lt_or_gt_of_ne aj with h|h
    .have:=i1.up _ b1 _ h (.inl b1) (by rw[b2,a2,aa]) (by rw[b2,<-aa];exact H)
     rw[b2,<-aa]at this;exact this
    .have:=i1.up _ a1 _ h (.inl a1) (by rw[b2,a2,aa]) (by rw[a2];exact H)
     rw[a2]at this;exact this
   .rcases i1.at_ r hr with h|⟨m,D,k,hk,h1,h2⟩
    .exact .inl h
    .obtain⟨p,I,i,O,e1,e2⟩:=ai m D;obtain⟨q,hq,i',aH,f1,f2⟩:=ai k (by omega)
     refine .inr ⟨p,I,i,O,q,hq,i',aH,?_,by rw[<-e2,<-f2];exact h1,by rw[<-e2];exact h2⟩
     by_cases au:p=q
     .subst au;refine .inr λe=>?_
      subst e;omega
     .exact .inl au
end
end Go.VE
namespace Go.VE
theorem Ih {g:Int->Int->Int} {a b:Sl Int} (G:a.l.length=b.l.length) (D:a.l.length<1073741824) {step:Sl Int×Int->Option (Fw (Sl Int×Int) (Sl Int) Empty)}
 (B:∀q,step q=bg (decide (q.2<len a)) ((idx a q.2).bind λx=>(idx b q.2).bind λy=>(gU q.1 (g x y)).bind λo=>some (.n (o,IntKind.wrap .i64 (q.2+1)))) (some (.x q.1))) :
 ∃r,(bG step (Sl.nil,0)).bind (Fw.elim (λe=>some e) (λe=>Empty.elim e))=some r/\r.l=List.zipWith g a.l b.l:=by
 have key:Wp ((bG step (Sl.nil,0)).bind (Fw.elim (λe=>some e) (λe=>Empty.elim e))) λr=>r.l=List.zipWith g a.l b.l:=by
  refine eT a.l.length (λi (q:Sl Int×Int)=>q.2=(i:Int)/\q.1.l=(List.zipWith g a.l b.l).take i) ⟨rfl,by simp[Sl.l]⟩ ?_ ?_
  .rintro i ⟨o,_⟩ u ⟨e,h1⟩;simp only at e h1;subst e;have t:i<b.l.length:=by omega
   rw[B];simp only;rw[fh u,bF,bB u,ζb,bB t,ζb];obtain⟨r,hr,e⟩:=mB (s:=o) (x:=g a.l[i] b.l[i]) (by rw[h1];simp;omega)
   have w:i<(List.zipWith g a.l b.l).length:=by simp;omega
   rw[hr,ζb,a_];exact⟨bY i (by omega),by rw[e,h1,List.take_succ_eq_append_getElem w,List.getElem_zipWith]⟩
  .rintro⟨o,_⟩ ⟨e,h1⟩;simp only at e h1;subst e;rw[B];simp only;rw[fe,bK,a_];exact(a_ _).2 (by rw[h1,List.take_of_length_le (by simp;omega)])
 obtain⟨r,h1,z⟩:=key;exact⟨r,h1,z⟩
theorem Ig {a b:Sl Int} (D:a.l.length=b.l.length) (B:a.l.length<1073741824):∃r,lP a b=some r/\r.l=List.zipWith BD a.l b.l:=Ih D B λ_=>rfl
theorem PT {a b:Sl Int} (D:a.l.length=b.l.length) (B:a.l.length<1073741824):∃r,mS a b=some r/\r.l=List.zipWith fC a.l b.l:=Ih D B λ_=>rfl
theorem LI {a b:Sl (Sl Int)} (D:a.l.length<1073741824) (B:∀x∈a.l,x.l.length<1073741824):cg (eZ a b) (ins a=ins b):=by
 unfold eZ;have la:(ins a).length=a.l.length:=by unfold ins;simp
 have u:(ins b).length=b.l.length:=by unfold ins;simp
 by_cases h:a.l.length=b.l.length
 .rw[show (len a==len b)=true from by simp[len,h],bF]
  unfold eZ.W1;refine(mJ (n:=a.l.length) (P:=λi=>(ins a)[i]? = (ins b)[i]?) (λi q _=>?_) (λ_=>?_)).iff ⟨λk=>List.ext_getElem? λi=>?_,λk i _=>by rw[k]⟩
  .have t:i<b.l.length:=by omega
   unfold eZ.bf;rw[fh q,bF,bB q,ζb,bB t,ζb];refine tF ((BH (B _ (List.getElem_mem q))).iff ?_) (bY i (by omega))
   unfold ins;rw[List.getElem?_map,List.getElem?_map,ζd q,ζd t];simp
  .unfold eZ.bf;rw[fe,bK]
  .by_cases q:i<a.l.length
   .exact k i q
   .rw[List.getElem?_eq_none (by omega),List.getElem?_eq_none (by omega)]
 .rw[show (len a==len b)=false from by simp[len];omega,bK]
  refine gL ⟨λk=>by simp at k,λk=>?_⟩
  rw[<-la,<-u,k]at h;exact absurd rfl h
section
variable {t:Trace} {A:b7 200 bt}
def pz (n:Nat) (V:List Int->Prop) (x:List Int):Prop:=x.length=n/\(∀v,V v->bS x v)/\∀y:List Int,y.length=n->(∀v,V v->bS y v)->bS y x
def vD (n:Nat) (V:List Int->Prop) (x:List Int):Prop:=x.length=n/\(∀v,V v->bS v x)/\∀y:List Int,y.length=n->(∀v,V v->bS v y)->bS x y
def n_ (l:Sl (Sl Int)) (k:Nat) (v:List Int):Prop:=∃j,j<k/\∃x:Sl Int,l.l[j]? = some x/\x.l=v
theorem n_.succ {l:Sl (Sl Int)} {k:Nat} (hk:k<l.l.length) {v:List Int}:n_ l (k+1) v↔n_ l k v\/v=l.l[k].l:=by
 constructor
 .rintro⟨j,t,x,q,rfl⟩;rcases Nat.lt_or_eq_of_le (Nat.lt_succ_iff.1 t)with h|rfl
  .exact .inl ⟨j,h,x,q,rfl⟩
  .rw[ζd hk]at q;cases q;exact .inr rfl
 .rintro (⟨j,t,x,q,rfl⟩|rfl)
  .exact⟨j,by omega,x,q,rfl⟩
  .exact⟨k,by omega,_,ζd hk,rfl⟩
theorem pz.meet {n:Nat} {V:List Int->Prop} {x c:List Int} (h:pz n V x) (hc:c.length=n):pz n (λv=>V v\/v=c) (List.zipWith BD x c):=by
 have t:x.length=c.length:=h.1.trans hc.symm;obtain⟨u,w,z⟩:=(me.of BD t).le_min t;refine⟨by rw[List.length_zipWith,t,Nat.min_self];exact hc,λv hv=>?_,λy A q=>z y (h.2.2 y A λv hv=>q v (.inl hv)) (q c (.inr rfl))⟩
 rcases hv with hv|rfl
 .exact u.trans (h.2.1 v hv)
 .exact w
theorem vD.join {n:Nat} {V:List Int->Prop} {x c:List Int} (h:vD n V x) (hc:c.length=n):vD n (λv=>V v\/v=c) (List.zipWith fC x c):=by
 have t:x.length=c.length:=h.1.trans hc.symm;obtain⟨u,w,z⟩:=(me.of fC t).le_max t;refine⟨by rw[List.length_zipWith,t,Nat.min_self];exact hc,λv hv=>?_,λy A q=>z y (h.2.2 y A λv hv=>q v (.inl hv)) (q c (.inr rfl))⟩
 rcases hv with hv|rfl
 .exact(h.2.1 v hv).trans u
 .exact w
theorem pz.iff {n:Nat} {V W:List Int->Prop} {x:List Int} (h:pz n V x) (e:∀v,V v↔W v):pz n W x:=⟨h.1,λv hv=>h.2.1 v ((e v).2 hv),λy q k=>h.2.2 y q λv hv=>k v ((e v).1 hv)⟩
theorem vD.iff {n:Nat} {V W:List Int->Prop} {x:List Int} (h:vD n V x) (e:∀v,V v↔W v):vD n W x:=⟨h.1,λv hv=>h.2.1 v ((e v).2 hv),λy q k=>h.2.2 y q λv hv=>k v ((e v).1 hv)⟩
theorem pz.one {n:Nat} {c:List Int} (hc:c.length=n):pz n (λv=>v=c) c:=⟨hc,λv hv=>hv▸bS.refl _,λy _ h=>h c rfl⟩
theorem vD.one {n:Nat} {c:List Int} (hc:c.length=n):vD n (λv=>v=c) c:=⟨hc,λv hv=>hv▸bS.refl _,λy _ h=>h c rfl⟩
def PC (n:Nat) (V:List Int->Prop) (p i:Nat) (e:List Int):Prop:=(e=[]/\∀v,V v->nth v p<=(i:Int))\/((∃v,V v/\(i:Int)<nth v p)/\pz n (λv=>V v/\(i:Int)<nth v p) e)
structure I5 (t:Trace) (V:List Int->Prop) (b:Slice):Prop where
 e:b.empty=false
 f:pz t.procs.l.length V b.first.l
 l:vD t.procs.l.length V b.last.l
 j:b.j.l.length=t.procs.l.length
 r:∀p r,b.j.l[p]? = some r->r.l.length=dA t p/\∀(i:Nat) (c:Sl Int),r.l[i]? = some c->PC t.procs.l.length V p i c.l
theorem UK (hS:Small t) (hV:VT t) {l1:Sl (Sl Int)} (hC:∀x∈l1.l,Cons t A x.l) (aq:l1.l.length<1073741824) (ae:l1.l≠[]) :
 ∃b,c6 t l1=some b/\I5 t (λv=>∃x∈l1.l,x.l=v) b:=by
 have ar:=hV.few;have ao:=hV.ok.one;have B:0<l1.l.length:=List.length_pos_iff.2 ae;have af:∀p,p<t.procs.l.length->dA t p<1073741824:=λp G=>by rw[jK G];exact(hS.2 _ (List.getElem_mem G)).1
 have u:∀k (hk:k<l1.l.length),l1.l[k].l.length=t.procs.l.length:=λk hk=>(hC _ (List.getElem_mem hk)).1.1
 suffices h:Wp (c6 t l1) λb=>I5 t (n_ l1 l1.l.length) b by
  obtain⟨b,hb,h⟩:=h;have e:∀v,n_ l1 l1.l.length v↔∃x∈l1.l,x.l=v:=λv=>by
   constructor
   .rintro⟨j,_,x,hx,rfl⟩;exact⟨x,List.mem_of_getElem? hx,rfl⟩
   .rintro⟨x,hx,rfl⟩;obtain⟨j,Q⟩:=List.mem_iff_getElem?.1 hx;exact⟨j,(ζe.1 Q).1,x,Q,rfl⟩
  refine⟨b,hb,h.e,h.f.iff e,h.l.iff e,h.j,λp r hr=>⟨(h.r p r hr).1,λi c hc=>?_⟩⟩
  rcases (h.r p r hr).2 i c hc with⟨k1,k2⟩|⟨⟨v,k1,k2⟩,k3⟩
  .exact .inl ⟨k1,λv hv=>k2 v ((e v).2 hv)⟩
  .exact .inr ⟨⟨v,(e v).1 k1,k2⟩,k3.iff λv=>and_congr_left λ_=>e v⟩
 unfold c6;rw[show ((len l1)==0)=false by simp[len];omega,bK]
 have h0:idx l1 0=some l1.l[0]:=bB (i:=0) B;obtain⟨x2,e2,f2⟩:=s6 (s:=(Sl.emp:Sl Int)) (x:=l1.l[0]) (by have:=u 0 B;show ([]:List Int).length+_<=_;rw[this,List.length_nil];omega)
 obtain⟨x4,e4,f4⟩:=s6 (s:=(Sl.row []:Sl Int)) (x:=l1.l[0]) (by have:=u 0 B;show ([]:List Int).length+_<=_;rw[this,List.length_nil];omega)
 have g2:x2.l=l1.l[0].l:=by rw[f2];rfl
 have g4:x4.l=l1.l[0].l:=by rw[f4];rfl
 rw[h0,ζb,e2,ζb,ζb,e4,ζb];unfold c6.W1;have H:∀v,n_ l1 (0+1) v↔v=l1.l[0].l:=λv=>by
  rw[n_.succ B];exact⟨λh=>h.resolve_left λ⟨j,Q,_⟩=>absurd Q (by omega),.inr⟩
 refine eT (l1.l.length-1) (λi (q:Int×Slice×Slice)=>q.1=((i+1:Nat):Int)/\q.2.2.empty=false/\pz t.procs.l.length (n_ l1 (i+1)) q.2.2.first.l/\vD t.procs.l.length (n_ l1 (i+1)) q.2.2.last.l) ⟨rfl,rfl,(by rw[g2];exact(pz.one (u 0 B)).iff λv=>(H v).symm),(by rw[g4];exact(vD.one (u 0 B)).iff λv=>(H v).symm)⟩ ?_ ?_
 .rintro i ⟨k,vb,X⟩ hi ⟨rfl,i1,i2,i3⟩;simp only at i1 i2 i3;unfold c6.bf;simp only;have hk:i+1<l1.l.length:=by omega
  obtain⟨m,hm,ah⟩:=Ig (a:=X.first) (b:=l1.l[i+1]) (by rw[i2.1,u _ hk]) (by rw[i2.1];omega)
  obtain⟨n,hn,ai⟩:=PT (a:=X.last) (b:=l1.l[i+1]) (by rw[i3.1,u _ hk]) (by rw[i3.1];omega)
  rw[fh hk,bF,bB hk,ζb,hm,ζb,ζb,hn,ζb,a_];exact⟨bY (i+1) (by omega),i1,by rw[ah];exact(i2.meet (u _ hk)).iff λv=>(n_.succ hk).symm,by rw[ai];exact(i3.join (u _ hk)).iff λv=>(n_.succ hk).symm⟩
 .rintro⟨k,vb,X⟩ ⟨rfl,i1,i2,i3⟩;simp only at i1 i2 i3;unfold c6.bf;simp only;rw[show l1.l.length-1+1=l1.l.length by omega]at i2 i3 ⊢
  rw[fe,bK,a_];show Wp (c6.W2 l1 0 t _ _) _;unfold c6.W2;refine eT t.procs.l.length (λp (q:Int×Trace×Slice×Slice)=>q.1=(p:Int)/\q.2.1=t/\q.2.2.2.empty=false/\q.2.2.2.first=X.first/\q.2.2.2.last=X.last/\q.2.2.2.j.l.length=p/\∀I r,q.2.2.2.j.l[I]? = some r->r.l.length=dA t I/\∀(i:Nat) (c:Sl Int),r.l[i]? = some c->PC t.procs.l.length (n_ l1 l1.l.length) I i c.l) ⟨rfl,rfl,i1,rfl,rfl,rfl,λI r h=>by simp[Sl.l]at h⟩ ?_ ?_
  .rintro p ⟨v,tt,aj,Y⟩ G ⟨rfl,z,Z,j2,j3,S,j5⟩;simp only at z Z j2 j3 S j5;have z:=z.symm;subst z;unfold c6.bO;simp only;have ap:=af p G;have aa:t.procs.l[p].events.l.length=dA t p:=(jK G).symm;rw[fh G,bF];unfold c6.W3;refine eT (dA t p) (λi (q:Sl (Sl Int)×Int×Trace×Slice×Slice)=>q.2.1=(i:Int)/\q.2.2.1=t/\q.2.2.2.2=Y/\q.1.l.length=i/\∀(J:Nat) (c:Sl Int),q.1.l[J]? = some c->PC t.procs.l.length (n_ l1 l1.l.length) p J c.l) ⟨rfl,rfl,rfl,rfl,λJ c h=>by simp[Sl.l]at h⟩ ?_ ?_
   .rintro i ⟨T,v,t3,ak,s3⟩ hi ⟨rfl,z,es,k1,k2⟩;simp only at z es k1 k2;have z:=z.symm;have es:=es.symm;subst z;subst es;unfold c6.dh;simp only;rw[bB G,ζb,show decide ((i:Int)<len t.procs.l[p].events)=true by simp[len,aa];omega,bF]
    unfold c6.W4;refine eT l1.l.length (λk (q:Int×Sl Int×Int×Trace×Slice)=>q.1=(i:Int)/\q.2.2.1=(k:Int)/\q.2.2.2.1=t/\PC t.procs.l.length (n_ l1 k) p i q.2.1.l) ⟨rfl,rfl,rfl,.inl ⟨rfl,λv ⟨j,Q,_⟩=>absurd Q (by omega)⟩⟩ ?_ ?_
    .rintro k ⟨v,c,v2,t4,al⟩ hk ⟨rfl,rfl,z,U⟩;simp only at z U;have z:=z.symm;subst z;unfold c6.kT;simp only;have C:=u k hk;have ab:p<l1.l[k].l.length:=by rw[C];exact G
     rw[fh hk,bF,bB hk,ζb,bB ab,ζb,<-iw ab]
     by_cases L:nth l1.l[k].l p<=(i:Int)
     .rw[decide_eq_true L,bF,a_];refine⟨rfl,bY k (by omega),rfl,?_⟩
      simp only;rcases U with⟨a,b⟩|⟨⟨w,a,a2⟩,b⟩
      .refine .inl ⟨a,λv hv=>?_⟩
       rcases (n_.succ hk).1 hv with h|rfl
       .exact b v h
       .exact L
      .refine .inr ⟨⟨w,(n_.succ hk).2 (.inl a),a2⟩,b.iff λv=>⟨λh=>⟨(n_.succ hk).2 (.inl h.1),h.2⟩,λh=>?_⟩⟩
       rcases (n_.succ hk).1 h.1 with h'|rfl
       .exact⟨h',h.2⟩
       .exact absurd h.2 (by omega)
     .rw[decide_eq_false L,bK];rcases U with⟨a,b⟩|⟨⟨w,a,a2⟩,b⟩
      .obtain⟨y,hy,O⟩:=s6 (s:=(Sl.row []:Sl Int)) (x:=l1.l[k]) (by show ([]:List Int).length+_<=_;rw[C,List.length_nil];omega)
       have ad:y.l=l1.l[k].l:=by rw[O];rfl
       rw[show ((len c)==0)=true by simp[len,a],bF,ζb,hy,ζb,a_]
       refine⟨rfl,bY k (by omega),rfl,.inr ⟨⟨l1.l[k].l,(n_.succ hk).2 (.inr rfl),by omega⟩,?_⟩⟩
       simp only[ad];refine(pz.one C).iff λv=>⟨λh=>⟨(n_.succ hk).2 (.inr h),by rw[h];omega⟩,λh=>?_⟩
       rcases (n_.succ hk).1 h.1 with h'|h'
       .have:=b v h';have:=h.2;omega
       .exact h'
      .obtain⟨y,hy,O⟩:=Ig (a:=c) (b:=l1.l[k]) (by rw[b.1,C]) (by rw[b.1];omega)
       rw[show ((len c)==0)=false by simp[len];intro h;rw[h]at b;have:=b.1;simp at this;omega,bK,ζb,hy,ζb,a_]
       refine⟨rfl,bY k (by omega),rfl,.inr ⟨⟨w,(n_.succ hk).2 (.inl a),a2⟩,?_⟩⟩
       simp only[O];refine(b.meet C).iff λv=>⟨λh=>?_,λh=>?_⟩
       .rcases h with h|rfl
        .exact⟨(n_.succ hk).2 (.inl h.1),h.2⟩
        .exact⟨(n_.succ hk).2 (.inr rfl),by omega⟩
       .rcases (n_.succ hk).1 h.1 with h'|h'
        .exact .inl ⟨h',h.2⟩
        .exact .inr h'
    .rintro⟨v,c,v2,t4,al⟩ ⟨rfl,rfl,z,U⟩;simp only at z U;have z:=z.symm;subst z;unfold c6.kT;simp only;rw[fe,bK,a_];obtain⟨o',ho,D⟩:=mB (s:=T) (x:=c) (by omega)
     show Wp ((gU T c).bind _) _;rw[ho,ζb,a_];refine⟨bY i (by omega),rfl,rfl,by rw[D];simp[k1],λJ d W=>?_⟩
     rw[D]at W
     by_cases am:J<T.l.length
     .rw[List.getElem?_append_left am]at W;exact k2 J d W
     .have:J=i:=by
       have:=(ζe.1 W).1;simp at this;omega
      subst this;rw[<-k1,List.getElem?_concat_length]at W;cases W;rw[k1]at *;exact U
   .rintro⟨T,v,t3,ak,s3⟩ ⟨rfl,z,es,k1,k2⟩;simp only at z es k1 k2;have z:=z.symm;have es:=es.symm;subst z;subst es;unfold c6.dh;simp only;rw[bB G,ζb,show decide (((dA t p:Nat):Int)<len t.procs.l[p].events)=false by simp[len,aa],bK,a_]
    obtain⟨o',ho,D⟩:=mB (s:=Y.j) (x:=T) (by omega)
    show Wp ((gU Y.j T).bind _) _;rw[ho,ζb,a_];refine⟨bY p (by omega),rfl,Z,j2,j3,by rw[D];simp[S],λI r hr=>?_⟩
    rw[D]at hr
    by_cases an:I<Y.j.l.length
    .rw[List.getElem?_append_left an]at hr;exact j5 I r hr
    .have:I=p:=by
      have:=(ζe.1 hr).1;simp at this;omega
     subst this;rw[<-S,List.getElem?_concat_length]at hr;cases hr;exact⟨k1,k2⟩
  .rintro⟨v,tt,aj,Y⟩ ⟨rfl,z,Z,j2,j3,S,j5⟩;simp only at z Z j2 j3 S j5;have z:=z.symm;subst z;unfold c6.bO;simp only;rw[fe,bK,a_];refine(a_ _).2 ⟨Z,by rw[j2];exact i2,by rw[j3];exact i3,S,j5⟩
end
end Go.VE
namespace Go.VE
def C3 (c:List Int):List Int:=c.sum::c
def Ee (c:List Int):Prop:=c.length<=8/\∀x∈c,0<=x/\x<1073741824
theorem N5 {c:List Int} (h:Ee c) (i:Nat):0<=(c.take i).sum/\(c.take i).sum<=8589934592:=by
 have key:∀(l:List Int),(∀x∈l,0<=x/\x<1073741824)->0<=l.sum/\l.sum<=1073741824*(l.length:Int):=by
  intro l
  induction l with
  | nil=>intro _;simp
  | cons x l q=>
   intro h;have h1:=h x (by simp)
   have t:=q λy u=>h y (List.mem_cons_of_mem _ u)
   simp only[List.sum_cons,List.length_cons];omega
 have h1:=key (c.take i) λx w=>h.2 x (List.mem_of_mem_take w)
 have t:(c.take i).length<=8:=by rw[List.length_take];have:=h.1;omega
 omega
theorem G4 {c:List Int} {i:Nat} (B:i<c.length):(c.take (i+1)).sum=(c.take i).sum+c[i]:=by
 rw[List.take_succ_eq_append_getElem B,List.sum_append];simp
theorem Mt {a b:List Int} {i:Nat} (B:i<a.length) (D:i<b.length):jL (a.drop i) (b.drop i)=if a[i]<b[i]then -1 else if a[i]>b[i]then 1 else jL (a.drop (i+1)) (b.drop (i+1)):=by
 rw[List.drop_eq_getElem_cons B,List.drop_eq_getElem_cons D];rfl
def fH (x y:List Int):Prop:=jL (C3 x) (C3 y)<0
instance (x y:List Int):Decidable (fH x y):=by unfold fH;exact inferInstance
theorem fH.Ss (x:List Int):¬fH x x:=by unfold fH;rw[Et];omega
theorem fH.tr {x y z:List Int} (h:fH x y) (k:fH y z):fH x z:=Ir _ _ _ h k
theorem fH.tot {x y:List Int} (h:¬fH x y) (k:¬fH y x):x=y:=by
 have:=IF _ _ h k;unfold C3 at this;exact(List.cons.inj this).2
theorem fH.sum {x y:List Int} (h:x.sum<y.sum):fH x y:=by unfold fH C3;simp[jL,h]
theorem QD {t:Trace} {A:b7 200 bt} (D:Small t) (G:VT t) {c:List Int} (B:Cons t A c):Ee c:=by
 refine⟨B.1.1▸G.few,λx w=>?_⟩
 obtain⟨p,u,e⟩:=List.mem_iff_getElem.1 w;have q:p<t.procs.l.length:=by rw[<-B.1.1];exact u
 have:=B.1.2 p x _ (by rw[ζd u,e]) (ζd q)
 have k:=(D.2 _ (List.getElem_mem q)).1;omega
theorem fH.LK {x y:List Int} (h:x.sum=y.sum):fH x y↔jL x y<0:=by
 unfold fH C3;simp only[jL,if_neg (show ¬x.sum<y.sum by omega),if_neg (show ¬x.sum>y.sum by omega)]
theorem fH.nodup {L:List (List Int)} (h:L.Pairwise fH):L.Nodup:=h.imp λ{x y} (h:fH x y) (e:x=y)=>fH.Ss y (by rw[e]at h;exact h)
theorem I8 {L:List (List Int)} {c:List Int} {j:Nat} (h:L.Pairwise fH) (h1:∀(i:Nat) x,i<j->L[i]? = some x->fH x c) (B:∀x,L[j]? = some x->fH c x) :
 (L.take j++[c]++L.drop j).Pairwise fH/\∀x,x∈L.take j++[c]++L.drop j↔x∈L\/x=c:=by
 have t:∀x∈L.take j,fH x c:=λx hx=>by
  obtain⟨k,hk,e⟩:=List.mem_iff_getElem.1 hx;rw[List.length_take]at hk;rw[List.getElem_take]at e;exact h1 k x (by omega) (by rw[ζd (by omega),e])
 have q:∀x∈L.drop j,fH c x:=λx hx=>by
  obtain⟨k,hk,e⟩:=List.mem_iff_getElem.1 hx;rw[List.length_drop]at hk;rw[List.getElem_drop]at e;have w:j<L.length:=by omega
  have k0:=B _ (ζd w)
  by_cases z:k=0
  .subst z;simp only[Nat.add_zero]at e;rw[<-e];exact k0
  .rw[<-e];exact k0.tr (List.pairwise_iff_getElem.1 h j (j+k) w (by omega) (by omega))
 refine⟨List.pairwise_append.2 ⟨List.pairwise_append.2 ⟨h.sublist (List.take_sublist _ _),List.pairwise_singleton _ _,λx hx y u=>?_⟩,h.sublist (List.drop_sublist _ _),λx hx y u=>?_⟩,λx=>?_⟩
 .rw[List.mem_singleton.1 u];exact t x hx
 .rcases List.mem_append.1 hx with hx|hx
  .exact(t x hx).tr (q y u)
  .rw[List.mem_singleton.1 hx];exact q y u
 .conv=>rhs;rw[<-List.take_append_drop j L]
  simp only[List.mem_append,List.mem_singleton];constructor
  .rintro ((h|h)|h) <;> simp[h]
  .rintro ((h|h)|h) <;> simp[h]
end Go.VE
namespace Go.VE
theorem D3 {c:Sl Int} (h:Ee c.l):gq c=some c.l.sum:=by
 refine Wp.eq ?_;have u:=h.1;unfold gq gq.W1;refine eT c.l.length (λi (q:Int×Int)=>q.2=(i:Int)/\q.1=(c.l.take i).sum) ⟨rfl,rfl⟩ ?_ ?_
 .rintro i ⟨m,_⟩ t ⟨e,h1⟩;simp only at e h1;subst e;subst h1;unfold gq.bf;rw[fh t,bF,bB t,ζb,a_];have k:=N5 h (i+1);rw[G4 t]at k;exact⟨bY i (by omega),by rw[G4 t];exact qQ _ (by omega) (by omega)⟩
 .rintro⟨m,_⟩ ⟨e,h1⟩;simp only at e h1;subst e;subst h1;unfold gq.bf;rw[fe,bK,a_];exact(a_ _).2 (by rw[List.take_length])
theorem HV {a b:Sl Int} (B:Ee a.l) (D:Ee b.l) (G:a.l.length=b.l.length):gG a b=some (decide (fH a.l b.l)):=by
 have z:=B.1;unfold gG;rw[D3 B,ζb,D3 D,ζb]
 by_cases e:a.l.sum=b.l.sum
 .rw[show (a.l.sum==b.l.sum)=true from by simpa using e,bF]
  refine Wp.eq ?_;unfold gG.W1;refine eT a.l.length (λi (q:Int)=>q=(i:Int)/\jL (a.l.drop i) (b.l.drop i)=jL a.l b.l) ⟨rfl,rfl⟩ ?_ ?_
  .rintro i _ u ⟨rfl,h⟩;have t:i<b.l.length:=by omega
   unfold gG.bf;rw[fh u,bF,bB u,ζb,bB t,ζb];rw[Mt u t]at h
   by_cases e2:a.l[i]=b.l[i]
   .rw[show (a.l[i]==b.l[i])=true from by simpa using e2,bF,a_]
    rw[if_neg (by omega),if_neg (by omega)]at h
    exact⟨bY i (by omega),h⟩
   .rw[show (a.l[i]==b.l[i])=false from by simpa using e2,bK,ζb,ζb,a_]
    refine(a_ _).2 ?_;have w:decide (fH a.l b.l)=decide (jL a.l b.l<0):=decide_eq_decide.2 (fH.LK e);rw[w]
    by_cases k:a.l[i]<b.l[i]
    .rw[if_pos k]at h;rw[<-h];simp[k]
    .rw[if_neg k,if_pos (by omega)]at h;rw[<-h];simp[k]
  .rintro _ ⟨rfl,h⟩;unfold gG.bf;rw[fe,bK,a_];refine(a_ _).2 ?_;have w:decide (fH a.l b.l)=decide (jL a.l b.l<0):=decide_eq_decide.2 (fH.LK e);rw[w];rw[List.drop_of_length_le (Nat.le_refl _),List.drop_of_length_le (by omega)]at h
   rw[<-h];rfl
 .rw[show (a.l.sum==b.l.sum)=false from by simpa using e,bK,ζb,ζb]
  congr 1
  refine decide_eq_decide.2 ?_;unfold fH C3
  by_cases k:a.l.sum<b.l.sum
  .simp[jL,k]
  .simp[jL,k,show a.l.sum>b.l.sum by omega]
theorem DX {a b:Sl Int} (B:a.l.length<1073741824):ec a b=some (decide (a.l=b.l)):=by
 refine Wp.eq ?_;unfold ec;rw[b9];refine⟨λh=>?_,λh=>(a_ _).2 ?_⟩
 .have h:(a.l.length:Int)=b.l.length:=by simpa [len]using h
  have h:a.l.length=b.l.length:=by omega
  unfold ec.W1;refine eT a.l.length (λn s=>s=(n:Int)/\∀i,i<n->a.l[i]? = b.l[i]?) ⟨rfl,λi h=>absurd h (by omega)⟩ ?_ ?_
  .rintro n _ q ⟨rfl,u⟩;unfold ec.bf;have w:n<b.l.length:=by omega
   rw[fh q,bF,bB q,ζb,bB w,ζb,b9];refine⟨λt=>(a_ _).2 ⟨bY n (by omega),λi z=>?_⟩,λt=>(a_ _).2 ((a_ _).2 ?_)⟩
   .by_cases e:i=n
    .subst e;rw[ζd q,ζd w];simpa using t
    .exact u i (by omega)
   .refine(decide_eq_false λe=>?_).symm
    have h1:a.l[n]? = b.l[n]? := by rw[e]
    rw[ζd q,ζd w]at h1;simp at t h1;exact t h1
  .rintro _ ⟨rfl,u⟩;unfold ec.bf;rw[fe,bK,a_];refine(a_ _).2 (decide_eq_true (List.ext_getElem? λi=>?_)).symm
   by_cases z:i<a.l.length
   .exact u i z
   .rw[List.getElem?_eq_none (by omega),List.getElem?_eq_none (by omega)]
 .refine(decide_eq_false λe=>?_).symm
  simp[len,e]at h
theorem nj (s:Sl (Sl Int)):(ins s).length=s.l.length:=by unfold ins;simp
theorem P6 (s:Sl (Sl Int)) (i:Nat):(ins s)[i]? = (s.l[i]?).map Sl.l:=by unfold ins;rw[List.getElem?_map]
theorem vL {s:Sl (Sl Int)} {i:Nat} (h:i<s.l.length):(ins s)[i]? = some s.l[i].l:=by rw[P6,ζd h];rfl
theorem HP {l:Sl (Sl Int)} {c:Sl Int} (U:∀x∈l.l,Ee x.l/\x.l.length=c.l.length) (hc:Ee c.l) (hl:l.l.length<1073741824) (W:(ins l).Pairwise fH) :
 Wp (gK l c) λr=>r.l.length<=l.l.length+1/\(ins r).Pairwise fH/\∀d,d∈ins r↔d∈ins l\/d=c.l:=by
 have T:=hc.1;have post:∀n:Nat,n<=l.l.length->(∀(i:Nat) x,i<n->(ins l)[i]? = some x->fH x c.l)->(∀x,(ins l)[n]? = some x->¬fH x c.l) ->
  Wp ((bg (decide ((n:Int)<(len l))) ((idx l n).bind λH=>(ec H c).bind λI=>some I) (some false):Option Bool).bind λJ=>
  bg J (some l) ((fQ l none (some (n:Int))).bind λw=>(kI (Sl.row []:Sl (Sl Int)) w).bind λz=>(gU z (c:Sl Int)).bind λA=>(fQ l (some (n:Int)) none).bind λB=>(kI A B).bind λC=>some C))
  λr=>r.l.length<=l.l.length+1/\(ins r).Pairwise fH/\∀d,d∈ins r↔d∈ins l\/d=c.l:=by
  intro n D L O;have u:(∀x,(ins l)[n]? = some x->x≠c.l)->Wp ((fQ l none (some (n:Int))).bind λw=>(kI (Sl.row []:Sl (Sl Int)) w).bind λz=>(gU z (c:Sl Int)).bind λA=>(fQ l (some (n:Int)) none).bind λB=>(kI A B).bind λC=>some C) λr=>r.l.length<=l.l.length+1/\(ins r).Pairwise fH/\∀d,d∈ins r↔d∈ins l\/d=c.l:=by
   intro Q;obtain⟨x4,Y,e4⟩:=pH l n D;have Z:x4.l.length<=l.l.length:=by rw[e4,List.length_take];omega
   obtain⟨x5,h5,e5⟩:=s6 (s:=(Sl.row []:Sl (Sl Int))) (x:=x4) (show 0+x4.l.length<=_ by omega)
   have e5:x5.l=x4.l:=e5;obtain⟨x6,h6,e6⟩:=mB (s:=x5) (x:=c) (by rw[e5];omega)
   obtain⟨x7,h7,e7⟩:=HD l n D;obtain⟨x8,T,e8⟩:=s6 (s:=x6) (x:=x7) (by rw[e6,e7,e5,ζi,List.length_drop,List.length_singleton];omega)
   rw[Y,ζb,h5,ζb,h6,ζb,h7,ζb,T,ζb,a_];have e:x8.l=l.l.take n++[c]++l.l.drop n:=by rw[e8,e6,e7,e5,e4]
   have X:ins x8=(ins l).take n++[c.l]++(ins l).drop n:=by unfold ins;rw[e];simp[List.map_take,List.map_drop]
   obtain⟨s1,s2⟩:=I8 W L λx q=>by
    by_cases k:fH c.l x
    .exact k
    .exact absurd (fH.tot k (O x q)).symm (Q x q)
   exact⟨by rw[e];simp;omega,by rw[X];exact s1,λd=>by rw[X];exact s2 d⟩
  by_cases h:n<l.l.length
  .rw[fh h,bF,bB h,ζb,DX (by have:=(U _ (List.getElem_mem h)).1.1;omega),ζb,ζb]
   by_cases e:l.l[n].l=c.l
   .rw[decide_eq_true e,bF,a_];refine⟨by omega,W,λd=>⟨.inl,λS=>S.elim id λS=>?_⟩⟩
    rw[S,<-e];exact jx.2 ⟨_,List.getElem_mem h,rfl⟩
   .rw[decide_eq_false e,bK];exact u λx q=>by rw[vL h]at q;cases q;exact e
  .rw[show (n:Int)=(l.l.length:Nat)from by omega,fe,bK,ζb,bK,<-show (n:Int)=(l.l.length:Nat)from by omega]
   exact u λx q=>by have:=(ζe.1 q).1;rw[nj]at this;omega
 unfold gK gK.W1;refine eT l.l.length (λn s=>s=(n:Int)/\∀(i:Nat) x,i<n->(ins l)[i]? = some x->fH x c.l) ⟨rfl,λi x h=>absurd h (by omega)⟩ ?_ ?_
 .rintro n _ t ⟨rfl,G⟩;obtain⟨q1,q2⟩:=U _ (List.getElem_mem t);unfold gK.bf;rw[fh t,bF,bB t,ζb,HV q1 hc q2,ζb,ζb]
  by_cases e:fH l.l[n].l c.l
  .rw[decide_eq_true e,bF,a_];refine⟨bY n (by omega),λi x hi q=>?_⟩
   by_cases e2:i=n
   .subst e2;rw[vL t]at q;cases q;exact e
   .exact G i x (by omega) q
  .rw[decide_eq_false e,bK,a_];exact post n (by omega) G λx q=>by rw[vL t]at q;cases q;exact e
 .rintro _ ⟨rfl,G⟩;unfold gK.bf;rw[fe,bK,ζb,bK,a_];exact post _ (Nat.le_refl _) G λx q=>by have:=(ζe.1 q).1;rw[nj]at this;omega
section
variable {t:Trace} {A:b7 200 bt}
structure kZ (t:Trace) (A:b7 200 bt) (L:List (List Int)):Prop where
 srt:L.Pairwise fH
 mem:∀d,d∈L↔Cons t A d
def QU (t:Trace) (A:b7 200 bt):Prop:=∃L:List (List Int),L.Nodup/\(∀d∈L,Cons t A d)/\5000<L.length
theorem MK {k:Nat} {o l:List (List Int)} (h1:∀d,d∈l↔Cons t A d/\d.sum=(k:Int)) (D:l.Pairwise fH) (G:o.Pairwise fH) (B:∀d,d∈o↔Cons t A d/\d.sum<(k:Int)) :
 (o++l).Pairwise fH/\∀d,d∈o++l↔Cons t A d/\d.sum<((k+1:Nat):Int):=by
 refine⟨List.pairwise_append.2 ⟨G,D,λa u b w=>fH.sum (by have:=((B a).1 u).2;have:=((h1 b).1 w).2;omega)⟩,λd=>?_⟩
 rw[List.mem_append,B,h1];constructor
 .rintro (⟨h,k1⟩|⟨h,k1⟩)
  .exact⟨h,by omega⟩
  .exact⟨h,by omega⟩
 .rintro⟨h,k1⟩
  by_cases q:d.sum<(k:Int)
  .exact .inl ⟨h,q⟩
  .exact .inr ⟨h,by omega⟩
theorem MA (hS:Small t) (J:VT t) (Y:eu t (bU t) A):Wp (eV t) λr=>(r.2=true/\kZ t A (ins r.1)/\r.1.l.length<=5000)\/(r.2=false/\r.1=.nil/\QU t A):=by
 have aa:=J.few;unfold eV kf;rw[if_pos ⟨by simp[len],by simp[len];omega⟩,ζb]
 unfold eV.W1;have fin:∀(k:Nat) (q out:Sl (Sl Int)),Fq t A k q->q.l.length=0->(ins out).Pairwise fH->(∀d,d∈ins out↔Cons t A d/\d.sum<(k:Int))->kZ t A (ins out):=λk q out h1 I D L=>
  ⟨D,λd=>(L d).trans ⟨λh=>h.1,λh=>⟨h,h1.none J Y I h⟩⟩⟩
 refine eT (qj t+1) (λk s=>Fq t A k s.1/\(ins s.1).Pairwise fH/\(ins s.2).Pairwise fH/\(∀d,d∈ins s.2↔Cons t A d/\d.sum<(k:Int))/\s.1.l.length<=40000/\s.2.l.length<=5000)
  ⟨VG (by simp[Sl.l,len]),by simp[ins,Sl.l],by simp[ins,Sl.l],λd=>⟨λh=>by simp[ins,Sl.l]at h,λh=>absurd (sw h.1.1.pos) (by have:=h.2;simp at this;omega)⟩,by simp[Sl.l],by simp[Sl.l]⟩ ?_ ?_
 .rintro k ⟨q,out⟩ hk ⟨h1,B,u,D,L,O⟩;simp only at h1 B u D L O;unfold eV.bf;rw[K2]
  by_cases I:q.l.length=0
  .rw[show (!decide (q.l.length=0))=false from by simp[I],bK,a_]
   exact(a_ _).2 (.inl ⟨rfl,fin k q out h1 I u D,O⟩)
  .rw[show (!decide (q.l.length=0))=true from by simp[I],bF]
   obtain⟨x,hx,Q⟩:=s6 (s:=out) (x:=q) (by omega)
   have X:ins x=ins out++ins q:=by unfold ins;rw[Q];simp
   obtain⟨o1,o2⟩:=MK h1 B u D;rw[<-X]at o1 o2;rw[hx,ζb,b9];refine⟨λH=>(a_ _).2 ((a_ _).2 (.inr ⟨rfl,rfl,ins x,fH.nodup o1,λd hd=>((o2 d).1 hd).1,?_⟩)),λH=>?_⟩
   .rw[nj];simp[len]at H;omega
   have H:x.l.length<=5000:=by simp[len]at H;omega
   have h6:q.l.length<=5000:=by rw[Q,ζi]at H;omega
   have U:∀d,Cons t A d->Ee d/\d.length=t.procs.l.length:=λd h=>⟨QD hS J h,h.1.1⟩
   unfold eV.W2;refine eT q.l.length (λn s=>s.2=(n:Int)/\s.1.l.length<=8*n/\(ins s.1).Pairwise fH/\∀d,d∈ins s.1↔∃c∈(q.l.take n).map Sl.l,oL t A c d) ⟨rfl,Nat.zero_le _,by simp[ins,Sl.l],λd=>by simp[ins,Sl.l]⟩ ?_ ?_
   .rintro n ⟨more,_⟩ w ⟨e,g1,gs,g2⟩;simp only at e g1 gs g2;subst e;unfold eV.bO;have Z:=(h1 q.l[n].l).1 (jx.2 ⟨_,List.getElem_mem w,rfl⟩);rw[fh w,bF,bB w,ζb,eW];refine(IS hS J Y Z.1).mono λnx W=>?_
    unfold eV.W3;refine eT nx.l.length (λm s=>s.2=(m:Int)/\s.1.l.length<=8*n+m/\(ins s.1).Pairwise fH/\∀d,d∈ins s.1↔d∈ins more\/d∈(nx.l.take m).map Sl.l) ⟨rfl,g1,gs,λd=>by simp⟩ ?_ ?_
    .rintro m ⟨mr,_⟩ C ⟨e,f1,fs,f2⟩;simp only at e f1 fs f2;subst e;unfold eV.dh;rw[fh C,bF,bB C,ζb,eW];have hN:=(W.2 nx.l[m].l).1 (jx.2 ⟨_,List.getElem_mem C,rfl⟩);obtain⟨_,_,_,_,S⟩:=hN;refine(HP (l:=mr) (c:=nx.l[m]) (λy hy=>?_) (U _ S).1 (by omega) fs).mono λr hr=>?_
     .have T:Cons t A y.l:=by
       rcases (f2 y.l).1 (jx.2 ⟨_,hy,rfl⟩)with h|h
       .obtain⟨_,_,p,a,_,_,k⟩:=(g2 y.l).1 h;exact k
       .obtain⟨z,hz,e⟩:=List.mem_map.1 h;obtain⟨p,a,_,_,k⟩:=(W.2 z.l).1 (jx.2 ⟨_,List.mem_of_mem_take hz,rfl⟩);rw[<-e];exact k
      exact⟨(U _ T).1,(U _ T).2.trans (U _ S).2.symm⟩
     .refine(a_ _).2 ⟨bY m (by omega),Nat.le_trans hr.1 (by omega),hr.2.1,λd=>?_⟩
      rw[hr.2.2,f2,ym C,or_assoc]
    .rintro⟨mr,_⟩ ⟨e,f1,fs,f2⟩;simp only at e f1 fs f2;subst e;unfold eV.dh;rw[fe,bK,a_];refine(a_ _).2 ⟨bY n (by omega),show mr.l.length<=_ by omega,fs,λd=>?_⟩
     rw[f2,List.take_length];constructor
     .rintro (h|h)
      .obtain⟨c,hc,G⟩:=(g2 d).1 h;exact⟨c,(ym w).2 (.inl hc),G⟩
      .exact⟨_,(ym w).2 (.inr rfl),(W.2 d).1 h⟩
     .rintro⟨c,hc,G⟩;rcases (ym w).1 hc with h|h
      .exact .inl ((g2 d).2 ⟨c,h,G⟩)
      .subst h;exact .inr ((W.2 d).2 G)
   .rintro⟨more,_⟩ ⟨e,g1,gs,g2⟩;simp only at e g1 gs g2;subst e;unfold eV.bO;rw[fe,bK,a_];refine(a_ _).2 ⟨λd=>?_,gs,o1,o2,show more.l.length<=_ by omega,H⟩
    rw[g2,List.take_length,<-oL.iff J Y (k:=k)];exact⟨λ⟨c,hc,G⟩=>⟨c,(h1 c).1 hc,G⟩,λ⟨c,hc,G⟩=>⟨c,(h1 c).2 hc,G⟩⟩
 .rintro⟨q,out⟩ ⟨h1,B,u,D,L,O⟩;simp only at h1 B u D L O;unfold eV.bf;rw[K2,show (!decide (q.l.length=0))=false from by simp[h1.last],bK,a_]
  exact(a_ _).2 (.inl ⟨rfl,fin _ q out h1 h1.last u D,O⟩)
end
end Go.VE
namespace Go.VE
theorem U6 {t:Trace} (B:Small t) (m:Int):∃b,jk t m=some b/\(b=true->∀p,p<t.procs.l.length->dA t p<=20):=by
 suffices h:Wp (jk t m) λb=>b=true->∀p,p<t.procs.l.length->dA t p<=20 from h
 unfold jk jk.W1;refine eT t.procs.l.length (λi q=>q.2=(i:Int)/\∀p,p<i->dA t p<=20) ⟨rfl,λp w=>absurd w (by omega)⟩ ?_ ?_
 .rintro n ⟨c,_⟩ u ⟨e,A⟩;simp only at e;subst e;have h1:=B.1;unfold jk.bf;rw[fh u,bF,bB u,ζb,jB,ζb];rw[yO (f:=λz=>(qP z).getD false) (λz _=>GR.ok ((a_ _).2 trivial)) (B.2 _ (List.getElem_mem u)).1]
  simp only[ζb,jB];rw[b9];refine⟨λ_=>(a_ _).2 ((a_ _).2 λh=>(nomatch h)),λh=>(a_ _).2 ⟨bY n (by omega),λp w=>?_⟩⟩
  simp only[Bool.or_eq_false_iff,decide_eq_false_iff_not,len]at h;rcases Nat.lt_or_eq_of_le (Nat.lt_succ_iff.1 w)with q|rfl
  .exact A p q
  .rw[jK u];omega
 .rintro⟨c,_⟩ ⟨e,A⟩;simp only at e;subst e;unfold jk.bf;rw[fe,bK,a_];simp only[mA,ζb];exact(a_ _).2 λ_=>A
theorem Ib {α:Type} {n:Nat}:∀{l:List (Sl α)},(∀r∈l,r.l.length<=n)->(l.flatMap Sl.l).length<=l.length*n
 | [],_=>by simp
 | r::l,h=>by
  have h1:=h r (by simp)
  have q:=Ib (l:=l) λr hr=>h r (by simp[hr])
  simp only[List.flatMap_cons,ζi,List.length_cons,Nat.add_mul,Nat.one_mul];omega
theorem Sh {s:Slice} (B:Nt s):∃b,tY s=some b/\(b=false->kM s/\(s.j.l.flatMap Sl.l).length<=800):=by
 have t:∀r∈s.j.l,nH r=some (decide ((len r)>40)||r.l.any λc=>decide ((len c)>20)):=λr hr=>by
  unfold nH;rw[vK (p:=λz=>ng z) (f:=λc=>decide ((len c)>20)) (λx _=>rfl) (B.r r hr),ζb]
  simp only[jB,ζb]
 unfold tY;rw[EF t B.j,ζb];simp only[jB,ζb];refine⟨_,rfl,λh=>?_⟩
 simp only[Bool.or_eq_false_iff,decide_eq_false_iff_not,List.any_eq_false,Bool.not_eq_true,len]at h;have hr:∀r∈s.j.l,r.l.length<=40:=λr hr=>by have:=(h.2 r hr).1;omega
 refine⟨⟨by omega,by omega,by omega,λr q=>⟨by have:=hr r q;omega,λc hc=>by have:=(h.2 r q).2 c hc;omega⟩⟩,?_⟩
 have h1:=Ib hr;have:s.j.l.length*40<=20*40:=Nat.mul_le_mul_right 40 (by omega)
 omega
theorem EM {s:Sl Slice} {p:Slice->Option Bool} {f:Slice->Bool} (B:∀x∈s.l,p x=some (f x)) (D:s.l.length<1073741824):jG s p=some (s.l.any f):=by
 have h:fL s p=some (place f s.l):=nM B (by omega) (λi=>rfl)
 unfold jG;rw[h,ζb,o4]
section
variable {t:Trace} {A:b7 200 bt} {s:Slice} {U V:List Int->Prop}
theorem K1 (J:VT t) (D:∀u,U u->Cons t A u) (B:∀p,p<t.procs.l.length->dA t p<=20) {b:Slice} (h:sO t A U b):kM b:=by
 have H:=J.few;refine⟨by rw[(D _ h.f).1.1];omega,by rw[h.lc.1.1];omega,by rw[h.j];omega,λr hr=>?_⟩
 obtain⟨p,z⟩:=List.mem_iff_getElem?.1 hr;have w:=(ζe.1 z).1;have q:p<t.procs.l.length:=by rw[<-h.j];exact w
 have I:r.l.length=dA t p:=by
  have:=h.rows p q;rw[lY w,(ζe.1 z).2]at this;exact this
 have L:=B p q;refine⟨by omega,λc hc=>?_⟩
 obtain⟨i,C⟩:=List.mem_iff_getElem?.1 hc;have O:=(ζe.1 C).1;have G:el b p i=c.l:=by unfold el;rw[z];simp only[C]
 rcases h.elm p q i (by omega)with⟨k,_⟩|⟨k,_⟩
 .rw[G]at k;rw[k];simp
 .rw[G]at k;rw[(D _ k).1.1];omega
def UV (t:Trace) (A:b7 200 bt) (V:List Int->Prop) (u:List Int):Prop:=(Cons t A u/\∃v,V v/\bS u v)/\∀x:List Int,x.length=t.procs.l.length->(∀v,V v->bS u v->bS x v)->bS x u
theorem UV.of (B:∀v,V v->Cons t A v) {v:List Int} (h:V v):UV t A V v:=⟨⟨B v h,v,h,bS.refl _⟩,λx _ q=>q v h (bS.refl _)⟩
theorem pz.LA {n:Nat} {x y:List Int} (h:pz n V x) (B:y.length=n) (h1:∀v,V v->bS y v) (D:∀z:List Int,z.length=n->(∀v,V v->bS z v)->bS z y):y=x:=(h.2.2 y B h1).anti (D x h.1 h.2.1)
theorem Mj (hS:Small t) (hV:VT t) (hC:∀v,V v->Cons t A v) {a b:Slice} (B:sO t A (UV t A V) a) (G:I5 t V b):c_ a b=some true:=by
 have ak:=hV.few;have D:∀v,V v->UV t A V v:=λv h=>UV.of hC h
 have U:∀p,p<t.procs.l.length->dA t p<1073741824:=λp J=>by rw[jK J];exact(hS.2 _ (List.getElem_mem J)).1
 have W:∀u,UV t A V u->Cons t A u:=λu h=>h.1.1
 have e1:a.first.l=b.first.l:=pz.LA G.f B.f.1.1.1.1 (λv hv=>B.mn v (D v hv)) λz L h=>B.f.2 z L λv hv _=>h v hv
 have e2:a.last.l=b.last.l:=by
  refine(iN.2 ⟨B.lc.1.1.trans G.l.1.symm,λp J=>?_⟩).anti (G.l.2.2 _ B.lc.1.1 λv hv=>B.up W (D v hv))
  obtain⟨u,hu,X⟩:=B.la p (by rw[<-B.lc.1.1];exact J)
  obtain⟨⟨Y,v,hv,w⟩,_⟩:=hu;rw[X];exact Int.le_trans (w.nth (by rw[Y.1.1,<-B.lc.1.1];exact J)) ((G.l.2.1 v hv).nth (by rw[(hC v hv).1.1,<-B.lc.1.1];exact J))
 have Z:a.first.l.length<1073741824:=by rw[B.f.1.1.1.1];omega
 have aa:a.last.l.length<1073741824:=by rw[B.lc.1.1];omega
 unfold c_;obtain⟨x,hx,ab⟩:=BH (a:=a.first) (b:=b.first) Z
 obtain⟨y,hy,ad⟩:=BH (a:=a.last) (b:=b.last) aa;rw[show (a.empty==b.empty)=true by rw[B.e,G.e];rfl,bF,hx,ab.2 e1,ζb,ζb,show (!true)=false from rfl,bK,hy,ad.2 e2,ζb,ζb,show (!true)=false from rfl,bK,show ((len a.j)==(len b.j))=true by simp[len,B.j,G.j],ζb,show (!true)=false from rfl,bK]
 unfold c_.W1;have key:cg ((bG (λq:Int=>c_.bf a b q) 0).bind (Fw.elim (λ_=>some true) (λ_=>some false))) True:=by
  refine(mJ (n:=a.j.l.length) (P:=λ_=>True) (λi C _=>?_) (λ_=>?_)).iff ⟨λ_=>trivial,λ_ _ _=>trivial⟩
  .have H:i<t.procs.l.length:=by rw[<-B.j];exact C
   have O:i<b.j.l.length:=by rw[G.j];exact H
   unfold c_.bf;rw[fh C,bF,bB C,ζb,bB O,ζb];have ae:a.j.l[i].l.length=dA t i:=by rw[<-lY C];exact B.rows i H
   obtain⟨al,af⟩:=G.r i _ (ζd O);have Q:∀k (hk:k<a.j.l[i].l.length),el a i k=a.j.l[i].l[k].l:=λk hk=>by
    unfold el;rw[ζd C];simp only[ζd hk]
   have I:∀k,k<dA t i->(ins a.j.l[i])[k]? = (ins b.j.l[i])[k]? := λk hk=>by
    have S:k<a.j.l[i].l.length:=by omega
    have T:k<b.j.l[i].l.length:=by omega
    rw[vL S,vL T,<-Q k S]
    congr 1
    have h1:=B.elm i H k hk;rcases af k _ (ζd T)with⟨q1,q2⟩|⟨⟨v,q1,q2⟩,q3⟩
    .rcases h1 with⟨h1,_⟩|⟨h1,h2,_⟩
     .rw[h1,q1]
     .obtain⟨⟨h3,v,hv,w⟩,_⟩:=h1;have:=q2 v hv;have:=w.nth (p:=i) (by rw[h3.1.1];exact H)
      omega
    .rcases h1 with⟨_,h1⟩|⟨h1,h2,h3⟩
     .have:=h1 v (D v q1);omega
     .refine pz.LA q3 h1.1.1.1.1 (λv hv=>h3 v (D v hv.1) hv.2) λz L h=>h1.2 z L λv hv w=>h v ⟨hv,?_⟩
      have:=w.nth (p:=i) (by rw[h1.1.1.1.1];exact H)
      omega
   have ah:ins a.j.l[i]=ins b.j.l[i]:=List.ext_getElem? λk=>by
    by_cases hk:k<dA t i
    .exact I k hk
    .rw[List.getElem?_eq_none (by rw[nj];omega),List.getElem?_eq_none (by rw[nj];omega)]
   have ai:∀x∈a.j.l[i].l,x.l.length<1073741824:=λx hx=>by
    obtain⟨k,hk,rfl⟩:=List.getElem_of_mem hx;rw[<-Q k hk];rcases B.elm i H k (by omega)with⟨h1,_⟩|⟨h1,_⟩
    .rw[h1];simp
    .rw[h1.1.1.1.1];omega
   exact tF ((LI (by rw[ae];exact U i H) ai).iff ⟨λ_=>trivial,λ_=>ah⟩) (bY i (by omega))
  .unfold c_.bf;rw[fe,bK]
 obtain⟨z,L,aj⟩:=key;rw[aj.2 trivial]at L;exact L
end
end Go.VE
namespace Go.VE
section
variable {t:Trace} {A:b7 200 bt} {s:Slice} {U V:List Int->Prop}
theorem uz {a:Slice} {v:List Int}:uT t A [a] v↔Cons t A v/\fE a v:=⟨λh=>⟨h.1,h.2 a (by simp)⟩,λh=>⟨h.1,λs q=>by
 simp only[List.mem_cons,List.not_mem_nil,or_false]at q;subst q;exact h.2⟩⟩
theorem GJ {e:Bool}:c_ ⟨e,.nil,.nil,.nil⟩ ⟨e,.nil,.nil,.nil⟩=some true:=by
 obtain⟨x,B,t⟩:=BH (a:=.nil) (b:=.nil) (by simp[Sl.l])
 unfold c_;simp only[B,t.2 rfl,beq_self_eq_true,bF,bK,ζb,Bool.not_true];unfold c_.W1;have key:cg ((bG (λq:Int=>c_.bf ⟨e,.nil,.nil,.nil⟩ ⟨e,.nil,.nil,.nil⟩ q) 0).bind (Fw.elim (λ_=>some true) (λ_=>some false))) True:=
  (mJ (n:=0) (P:=λ_=>True) (λi u _=>absurd u (by omega)) (λ_=>rfl)).iff ⟨λ_=>trivial,λ_ _ _=>trivial⟩
 obtain⟨z,A,w⟩:=key;rw[w.2 trivial]at A;exact A
def kJ (t:Trace) (A:b7 200 bt) (V:List Int->Prop) (b:Slice):Prop:=(b=⟨true,.nil,.nil,.nil⟩/\∀v,¬V v)\/sO t A (UV t A V) b
theorem made (B:Small t) (D:VT t) (G:∀v,V v->Cons t A v) {p1:Sl Int->Option (Sl Int×Bool)} (h:Jr t (UV t A V) p1):∃b,dP t p1=some b/\kJ t A V b:=by
 obtain⟨b,q,h⟩:=Ct B D (λu (hu:UV t A V u)=>hu.1.1) h
 exact⟨b,q,h.imp (λh=>⟨h.1,λv hv=>h.2 v (UV.of G hv)⟩) id⟩
theorem kJ.valid (G:Small t) (hr:eB t=some true) (D:VT t) (J:eu t (bU t) A) (B:∀p,p<t.procs.l.length->dA t p<=20) {b:Slice} (h:kJ t A V b):cH t b=some true:=by
 have k:kM b/\jO t A b:=by
  rcases h with⟨rfl,_⟩|h
  .exact⟨⟨by simp[Sl.l],by simp[Sl.l],by simp[Sl.l],by simp[Sl.l]⟩,.inl ⟨rfl,⟨rfl,rfl⟩,rfl⟩⟩
  .exact⟨K1 D (λu hu=>hu.1.1) B h,h.valid λu hu=>hu.1.1⟩
 obtain⟨x,w,q⟩:=KX G hr D J k.1;rw[w,q.2 k.2]
theorem kJ.same (G:Small t) (J:VT t) (O:∀v,V v->Cons t A v) {b:Slice} (h:kJ t A V b) {l:Sl (Sl Int)} (B:∀v,(∃x∈l.l,x.l=v)↔V v) (D:l.l.length<1073741824):∃r,c6 t l=some r/\c_ b r=some true:=by
 by_cases q:l.l=[]
 .have u:∀v,¬V v:=λv hv=>by
   obtain⟨x,w,_⟩:=(B v).2 hv;rw[q]at w;cases w
  refine⟨⟨true,.nil,.nil,.nil⟩,?_,?_⟩
  .unfold c6;rw[show ((len l)==0)=true by simp[len,q],bF]
  .rcases h with⟨rfl,_⟩|h
   .exact GJ
   .obtain⟨⟨_,v,hv,_⟩,_⟩:=h.f;exact absurd hv (u v)
 .obtain⟨r,hr,C⟩:=UK (A:=A) G J (λx w=>O _ ((B x.l).1 ⟨x,w,rfl⟩)) D q
  refine⟨r,hr,?_⟩;have z:(λv=>∃x∈l.l,x.l=v)=V:=funext λv=>propext (B v)
  rw[z]at C;rcases h with⟨_,u⟩|h
  .obtain⟨x,w⟩:=List.exists_mem_of_ne_nil _ q;exact absurd ((B _).1 ⟨x,w,rfl⟩) (u _)
  .exact Mj G J O h C
end
end Go.VE
namespace Go.VE
section
variable {t:Trace} {A:b7 200 bt} {s:Slice} {U V:List Int->Prop}
theorem sO.uv (G:VT t) (B:∀v,V v->Cons t A v) {b:Slice} (h:sO t A V b):sO t A (UV t A V) b:=by
 have D:=G.ok.one;refine⟨h.e,UV.of B h.f,λu hu=>hu.2 _ (B _ h.f).1.1 λv hv _=>h.mn v hv,h.j,h.rows,λp q i z=>?_,h.lc,h.lf,λp q i z hu=>?_,λp q=>?_⟩
 .rcases h.elm p q i z with⟨k1,k2⟩|⟨k1,k2,k3⟩
  .refine .inl ⟨k1,λu hu=>?_⟩
   obtain⟨⟨C,v,hv,w⟩,_⟩:=hu;exact Int.le_trans (w.nth (by rw[C.1.1];exact q)) (k2 v hv)
  .refine .inr ⟨UV.of B k1,k2,λu hu H=>hu.2 _ (B _ k1).1.1 λv hv w=>k3 v hv ?_⟩
   have:=w.nth (p:=p) (by rw[hu.1.1.1.1];exact q)
   omega
 .rcases h.elm p q i z with⟨k1,_⟩|⟨k1,_⟩
  .have:=hu.1.1.1.1;rw[k1]at this;simp at this;omega
  .exact h.le p q i z k1
 .obtain⟨v,k1,k2⟩:=h.la p q;exact⟨v,UV.of B k1,k2⟩
theorem z6.made (B:VT t) (D:∀v,V v->Cons t A v) {b:Slice} (h:z6 t A V b):kJ t A V b:=h.imp id λh=>h.uv B D
theorem kJ.iff {b:Slice} (h:kJ t A U b) (e:∀v,U v↔V v):kJ t A V b:=by
 have:U=V:=funext λv=>propext (e v)
 rw[<-this];exact h
theorem FB (B:VT t) (D:eu t (bU t) A):Cons t A (kC t):=zC B D
theorem Rk (G:Small t) (hv:dc t=some true) (D:VT t) (J:eu t (bU t) A) (B:s.empty=true\/lF t A s) :
 ∃b,vG t s=some b/\kJ t A (λu=>Cons t A u/\∃v,Cons t A v/\bS u v/\fE s v) b:=by
 obtain⟨b,z,h⟩:=Wa G hv D J (s:=s);refine⟨b,z,(h.made D λu h=>h.2.1).iff λu=>⟨λh=>?_,λh=>?_⟩⟩
 .have q:=B.resolve_left (by rw[h.1];simp)
  exact⟨h.2.1,_,q.1.1.1.1.1.2,h.2.2,N_ q h.1⟩
 .obtain⟨h1,v,_,C,w⟩:=h;exact⟨w.1.1.1,h1,C.trans w.1.2⟩
theorem Q_ (hS:Small t) (hv:dc t=some true) (J:VT t) (O:eu t (bU t) A) (D:s.empty=true\/lF t A s) (hl:s.last.l.length<1073741824) :
 ∃b,gT t s=some b/\kJ t A (λu=>Cons t A u/\∀v,Cons t A v->bS u v->fE s v) b:=by
 obtain⟨b,Y,⟨⟨H,I⟩,own,B,L,Q,hc⟩|⟨S,rfl⟩⟩:=Wg hS hv J O D hl
 .have T:=D.resolve_left (by rw[H];simp)
  refine⟨b,Y,(hc.made J λu h=>h.1).iff λu=>⟨λh=>⟨h.1,λv hv w=>UP L Q T H I hv (h.2.trans w)⟩,λh=>?_⟩⟩
  have key:∀n:Nat,∀c,Cons t A c->(kC t).sum-c.sum<=(n:Int)->bS u c->bS B c:=by
   intro n
   induction n with
   | zero=>
    intro c z Z w;refine L7 J O L Q z (h.2 c z w) λd C=>?_
    obtain⟨p,hp,e,G⟩:=C.to z;have h1:=(rS (o6 G)).1;have U:=(rS (C.le z));have h3:c.sum≠d.sum:=λe=>by
     have:=U.2 e;rw[this]at C;obtain⟨q,W,X,_⟩:=C.to G;have:=congrArg (λl=>nth l q) X
     rw[gy (by rw[G.1.1];exact W),if_pos rfl]at this
     omega
    omega
   | succ n ih=>
    intro c z Z w;refine L7 J O L Q z (h.2 c z w) λd C=>?_
    obtain⟨p,hp,e,G⟩:=C.to z;have U:=(rS (C.le z));have h3:c.sum≠d.sum:=λe=>by
     have:=U.2 e;rw[this]at C;obtain⟨q,W,X,_⟩:=C.to G;have:=congrArg (λl=>nth l q) X
     rw[gy (by rw[G.1.1];exact W),if_pos rfl]at this
     omega
    exact ih d G (by omega) (w.trans (C.le z))
  exact⟨h.1,key ((kC t).sum-u.sum).toNat u h.1 (by omega) (bS.refl _)⟩
 .refine⟨_,Y,.inl ⟨rfl,λu h=>?_⟩⟩
  have h1:=h.2 _ (FB J O) (o6 h.1);have H:=h1.1.1.1;have T:=D.resolve_left (by rw[H];simp)
  exact S ⟨H,(o6 T.1.1.1.1.1.2).anti h1.1.2⟩
end
end Go.VE
namespace Go.VE
section
variable {t:Trace} {A:b7 200 bt} {s:Slice} {U V:List Int->Prop}
theorem Mm {l:Sl (Sl Int)} (D:l.l.length<1073741824) {f:Sl Int->Bool} {step:Sl (Sl Int)×Int×Slice->Option (Fw (Sl (Sl Int)×Int×Slice) (Sl (Sl Int)×Trace×Slice) Empty)} {K:Sl (Sl Int)×Trace×Slice->Option Slice} {G:Slice}
 (J:∀(o:Sl (Sl Int)) (i:Nat) (v:Slice) (B:i<l.l.length),step (o,(i:Int),v)=bg (f l.l[i]) ((gU o l.l[i]).bind λr=>some (.n (r,IntKind.wrap .i64 ((i:Int)+1),⟨v.empty,.nil,.nil,.nil⟩))) (some (.n (o,IntKind.wrap .i64 ((i:Int)+1),⟨v.empty,.nil,.nil,.nil⟩))))
 (O:∀(o:Sl (Sl Int)) (v:Slice),step (o,(l.l.length:Int),v)=some (.x (o,t,⟨v.empty,.nil,.nil,.nil⟩)))
 {R:Slice->Prop} (U:∀(o:Sl (Sl Int)) (v:Slice),o.l=l.l.filter f->Wp (K (o,t,v)) R) :
 Wp ((bG step (Sl.nil,0,G)).bind (Fw.elim K (λe=>Empty.elim e))) R:=by
 refine eT l.l.length (λi (q:Sl (Sl Int)×Int×Slice)=>q.2.1=(i:Int)/\q.1.l=(l.l.take i).filter f) ⟨rfl,by simp[Sl.l]⟩ ?_ ?_
 .rintro i ⟨o,v,w⟩ B ⟨e,h1⟩;simp only at e h1;subst e;rw[J o i w B];have u:(l.l.take (i+1)).filter f=(l.l.take i).filter f++(if f l.l[i]then [l.l[i]]else []):=by
   rw[List.take_succ_eq_append_getElem B,List.filter_append]
   congr 1
   simp only[List.filter_cons,List.filter_nil]
  cases z:f l.l[i]with
  | true=>
   have A:o.l.length<=i:=by rw[h1];exact Nat.le_trans (List.length_filter_le _ _) (by simp;omega)
   obtain⟨r,hr,e⟩:=mB (s:=o) (x:=l.l[i]) (by omega)
   rw[bF,hr,ζb,a_];exact⟨bY i (by omega),by rw[e,h1,u,z];rfl⟩
  | false=>
   rw[bK,a_];exact⟨bY i (by omega),by rw[h1,u,z];simp⟩
 .rintro⟨o,v,w⟩ ⟨e,h1⟩;simp only at e h1;subst e;rw[O,a_];show Wp (K (o,t,_)) _;exact U o _ (by rw[h1,List.take_of_length_le (Nat.le_refl _)])
theorem Qj (G:Small t) (hr:eB t=some true) (B:VT t) (J:eu t (bU t) A) (O:kM s) (U:jO t A s) {c:Sl Int} (D:Cons t A c.l):∃x,sC t s c=some x/\(x=true↔fE s c.l):=by
 have u:=B.few;obtain⟨x,q,h⟩:=VY G hr B J O U c (by rw[D.1.1];omega)
 exact⟨x,q,h.trans ⟨λk=>k.2,λk=>⟨D,k⟩⟩⟩
theorem Nh (O:Small t) (U:VT t) (D:∀v,V v->Cons t A v) {l:Sl (Sl Int)} (W:kZ t A (ins l)) (B:l.l.length<1073741824) {m:Slice} (Y:kJ t A V m) {f:Sl Int->Bool} (G:∀x∈l.l,(f x=true↔V x.l)) {o:Sl (Sl Int)} (J:o.l=l.l.filter f) :
 Wp ((c6 t o).bind λx=>some x) λr=>c_ m r=some true:=by
 have u:∀v,(∃x∈o.l,x.l=v)↔V v:=λv=>by
  rw[J];constructor
  .rintro⟨x,q,rfl⟩;have q:=List.mem_filter.1 q;exact(G x q.1).1 q.2
  .intro h;obtain⟨x,q,rfl⟩:=jx.1 ((W.mem v).2 (D v h));exact⟨x,List.mem_filter.2 ⟨q,(G x q).2 h⟩,rfl⟩
 have w:o.l.length<1073741824:=by rw[J];exact Nat.lt_of_le_of_lt (List.length_filter_le _ _) B
 obtain⟨r,h1,z⟩:=Y.same O U D u w;rw[h1];exact(a_ _).2 z
end
end Go.VE
namespace Go.VE
theorem Pm {a b:Sl Int} (B:a.l.length=b.l.length) (D:a.l.length<1073741824):cg (lE a b) (bS a.l b.l):=by
 have h:=CS (a:=a) (b:=b) D (step:=λi=>lE.bf a b i) λi=>rfl
 rw[show ((len a)==(len b))=true from by simp[len,B],bF]at h
 exact h
theorem Tm {s:Sl (Sl Int)} {c:Sl Int} (B:s.l.length<1073741824) (hc:∀x∈s.l,x.l.length<1073741824):lM s c=some (place (λd:Sl Int=>decide (c.l=d.l)) s.l):=
 (nM (p:=λx=>ec x c) (f:=λd:Sl Int=>decide (c.l=d.l)) (λx q=>by rw[DX (hc x q)];congr 1;exact decide_eq_decide.2 eq_comm) (by omega) (λi=>rfl) :)
def bn (l:List Bool) (i:Nat):Bool:=l[i]?.getD false
theorem UA {l:List Bool} {i:Nat} (h:i<l.length):l[i]? = some (bn l i):=by unfold bn;rw[ζd h];rfl
theorem zN {l:List Bool} {p q:Nat} {x:Bool} (h:q<l.length):bn (l.set p x) q=if q=p then x else bn l q:=by
 unfold bn;rw[List.getElem?_set]
 by_cases e:p=q
 .subst e;rw[if_pos rfl,if_pos h,if_pos rfl];rfl
 .rw[if_neg e,if_neg (Ne.symm e)]
theorem FN {n i:Nat}:bn (List.replicate n false) i=false:=by
 unfold bn;rw[List.getElem?_replicate];split <;> rfl
theorem Cn {s:Sl Bool} {i:Nat} (h:i<s.l.length):idx s (i:Int)=some (bn s.l i):=by rw[bB h];unfold bn;rw[ζd h];rfl
section
variable {t:Trace} {A:b7 200 bt} {s:Slice} {U V P:List Int->Prop} {l:Sl (Sl Int)}
def Bits (l:Sl (Sl Int)) (P:List Int->Prop) (r:List Bool):Prop:=r.length=l.l.length/\∀i (h:i<l.l.length),(bn r i=true↔P l.l[i].l)
theorem Ko (D:Small t) (hr:eB t=some true) (G:VT t) (J:eu t (bU t) A) (O:kM s) (U:jO t A s) (W:∀x∈l.l,Cons t A x.l) (Y:l.l.length<1073741824):Wp (jy t l s) λr=>Bits l (fE s) r.l:=by
 unfold jy jy.W1;refine eT l.l.length (λi (q:Sl Bool×Int)=>q.2=(i:Int)/\q.1.l.length=i/\∀j (h:j<l.l.length),j<i->(bn q.1.l j=true↔fE s l.l[j].l)) ⟨rfl,rfl,λj _ h=>absurd h (by omega)⟩ ?_ ?_
 .rintro i ⟨o,v⟩ w ⟨e,h1,u⟩;simp only at e h1 u;subst e;obtain⟨x,C,z⟩:=Qj D hr G J O U (W _ (List.getElem_mem w));obtain⟨r,hr,e⟩:=mB (s:=o) (x:=x) (by omega)
  unfold jy.bf;rw[fh w,bF,bB w,ζb,C,ζb,hr,ζb,a_];refine⟨bY i (by omega),by rw[e];simp[h1],λj H I=>?_⟩
  simp only[e];unfold bn
  by_cases q:j<o.l.length
  .rw[List.getElem?_append_left q];exact u j H (by omega)
  .have:j=i:=by omega
   subst this;have B:(o.l++[x])[j]? = some x:=by rw[show j=o.l.length from h1.symm,List.getElem?_concat_length]
   rw[B];exact z
 .rintro⟨o,v⟩ ⟨e,h1,u⟩;simp only at e h1 u;subst e;unfold jy.bf;rw[fe,bK,a_];exact(a_ _).2 ⟨h1,λi h=>u i h h⟩
theorem zq (G:Small t) (J:VT t) (O:∀v,V v->Cons t A v) (U:kZ t A (ins l)) (B:l.l.length<1073741824) {m:Slice} (W:kJ t A V m) {b:Sl Bool} (D:Bits l V b.l):Wp (ey t l b) λr=>c_ m r=some true:=by
 classical
 unfold ey ey.W1;refine Mm (l:=l) B (f:=λx=>decide (V x.l)) (λo i v q=>?_) (λo v=>?_) (λo v u=>Nh G J O U B W (λx w=>decide_eq_true_iff) u)
 .have h1:=D.2 i q;simp only[ey.bf];rw[fh q,bF,Cn (by rw[D.1];exact q),ζb,bB q,ζb,show bn b.l i=decide (V l.l[i].l)by rw[Bool.eq_iff_iff,h1,decide_eq_true_iff]]
 .simp only[ey.bf];rw[fe,bK]
theorem kZ.le (G:kZ t A (ins l)) {i j:Nat} (B:i<l.l.length) (D:j<l.l.length) (h:bS l.l[i].l l.l[j].l):i<=j:=by
 refine Classical.byContradiction λw=>?_
 have u:j<i:=by omega
 have q:=List.pairwise_iff_getElem.1 G.srt j i (by rw[nj];exact D) (by rw[nj];exact B) u
 have e1:(ins l)[j]'(by rw[nj];exact D)=l.l[j].l:=by have:=vL D;rw[ζd (by rw[nj];exact D)]at this;exact Option.some.inj this
 have e2:(ins l)[i]'(by rw[nj];exact B)=l.l[i].l:=by have:=vL B;rw[ζd (by rw[nj];exact B)]at this;exact Option.some.inj this
 rw[e1,e2]at q;obtain⟨k1,k2⟩:=rS h;rcases Int.lt_or_eq_of_le k1 with k|k
 .exact fH.Ss _ (q.tr (fH.sum k))
 .rw[k2 k]at q;exact fH.Ss _ q
theorem kZ.at_ (B:kZ t A (ins l)) {i:Nat} (D:i<l.l.length):Cons t A l.l[i].l:=(B.mem _).1 (jx.2 ⟨_,List.getElem_mem D,rfl⟩)
theorem kZ.find (B:kZ t A (ins l)) {c:List Int} (D:Cons t A c):∃i,∃h:i<l.l.length,l.l[i].l=c:=by
 obtain⟨x,q,rfl⟩:=jx.1 ((B.mem c).2 D);obtain⟨i,u,rfl⟩:=List.getElem_of_mem q;exact⟨i,u,rfl⟩
theorem Sp (hS:Small t) (hr:eB t=some true) (W:VT t) (hM:eu t (bU t) A) (hL:kM s) (hE:jO t A s) (G:kZ t A (ins l)) (O:l.l.length<1073741824) {m:Slice} (hm:kJ t A (λu=>Cons t A u/\∃v,Cons t A v/\bS u v/\fE s v) m) :
 Wp (jb t l s) λr=>c_ m r=some true:=by
 have aa:=W.few;have hC:∀x∈l.l,Cons t A x.l:=λx Q=>(G.mem x.l).1 (jx.2 ⟨x,Q,rfl⟩)
 unfold jb;obtain⟨a,ha,hb⟩:=Ko hS hr W hM hL hE hC O;have X:kf (len l) false=some (.row (List.replicate l.l.length false)):=by
  unfold kf;rw[if_pos (by simp[len];omega)];simp[len]
 rw[ha,ζb,X,ζb];unfold jb.W1;refine eT l.l.length (λi (q:Sl Bool×Int×Slice)=>q.2.1=(i:Int)/\q.1.l.length=l.l.length/\∀j (h:j<l.l.length),(bn q.1.l j=true↔j<i/\∃v,Cons t A v/\bS l.l[j].l v/\fE s v)) ⟨rfl,by simp[Sl.l],λj _=>by simp only[Sl.l,FN];exact⟨λh=>(nomatch h),λh=>absurd h.1 (by omega)⟩⟩ ?_ ?_
 .rintro i ⟨o,v,vb⟩ I ⟨e,h1,S⟩;simp only at e h1 S;subst e;unfold jb.bf;simp only;rw[fh I,bF];unfold jb.W2;refine eT (l.l.length-i) (λk (q:Sl Bool×Int×Slice)=>q.2.1=((i+k:Nat):Int)/\q.1.l.length=l.l.length/\∀j (h:j<l.l.length),(bn q.1.l j=true↔(j<i/\∃v,Cons t A v/\bS l.l[j].l v/\fE s v)\/j=i/\∃B,∃D:B<l.l.length,i<=B/\B<i+k/\bS l.l[j].l l.l[B].l/\fE s l.l[B].l)) ⟨rfl,h1,λj h=>(S j h).trans ⟨.inl,λq=>q.resolve_right λ⟨_,B,_,h3,h4,_⟩=>by omega⟩⟩ ?_ ?_
  .rintro k ⟨o2,v,Y⟩ hk ⟨e,g1,g2⟩;simp only at e g1 g2;subst e;have C:i+k<l.l.length:=by omega
   unfold jb.bO;simp only;rw[fh C,bF,Cn (by rw[hb.1];exact C),ζb,bB I,bB C]
   simp only[ζb];have T:=hb.2 _ C;have keep:∀j (h:j<l.l.length),¬(bS l.l[i].l l.l[i+k].l/\fE s l.l[i+k].l)->(((j<i/\∃v,Cons t A v/\bS l.l[j].l v/\fE s v)\/j=i/\∃B,∃D:B<l.l.length,i<=B/\B<i+k/\bS l.l[j].l l.l[B].l/\fE s l.l[B].l)↔((j<i/\∃v,Cons t A v/\bS l.l[j].l v/\fE s v)\/j=i/\∃B,∃D:B<l.l.length,i<=B/\B<i+(k+1)/\bS l.l[j].l l.l[B].l/\fE s l.l[B].l)):=λj h Z=>by
    refine or_congr_right (and_congr_right λe=>⟨λ⟨B,D,J,H,L⟩=>⟨B,D,J,by omega,L⟩,λ⟨B,D,J,H,L⟩=>⟨B,D,J,?_,L⟩⟩)
    subst e;refine Classical.byContradiction λhc=>?_
    have:B=j+k:=by omega
    subst this;exact Z L
   obtain⟨z,X,U⟩:=Pm (a:=l.l[i]) (b:=l.l[i+k]) ((G.at_ I).1.1.trans (G.at_ C).1.1.symm) (by rw[(G.at_ I).1.1];omega)
   cases Q:bn a.l (i+k)with
   | false=>
    rw[bK,ζb,bK,a_];refine⟨by rw[bY (i+k) (by omega)];rfl,g1,λj h=>(g2 j h).trans (keep j h λq=>?_)⟩
    rw[T.2 q.2]at Q;cases Q
   | true=>
    rw[bF,X,ζb,ζb]
    cases z with
    | false=>
     rw[bK,a_];refine⟨by rw[bY (i+k) (by omega)];rfl,g1,λj h=>(g2 j h).trans (keep j h λq=>?_)⟩
     have:=U.2 q.1;cases this
    | true=>
     obtain⟨r,hr,e⟩:=put_eq (s:=o2) (p:=i) (x:=true) (by rw[g1];exact I)
     rw[bF,qv (by rw[g1];exact I),ζb,hr,ζb,a_]
     refine⟨by rw[bY (i+k) (by omega)];rfl,by rw[e,List.length_set];exact g1,λj h=>?_⟩
     simp only[e];rw[zN (by rw[g1];exact h)]
     by_cases q:j=i
     .subst q;rw[if_pos rfl];exact⟨λ_=>.inr ⟨rfl,j+k,C,by omega,by omega,U.1 rfl,T.1 Q⟩,λ_=>rfl⟩
     .rw[if_neg q,g2 j h];exact⟨λq'=>q'.imp id λw=>absurd w.1 q,λq'=>q'.imp id λw=>absurd w.1 q⟩
  .rintro⟨o2,v,Y⟩ ⟨e,g1,g2⟩;simp only at e g1 g2;subst e;have hn:i+(l.l.length-i)=l.l.length:=by omega
   rw[hn]at g2 ⊢;unfold jb.bO;simp only;rw[fe,bK,a_];refine(a_ _).2 ⟨bY i (by omega),g1,λj h=>(g2 j h).trans ?_⟩
   constructor
   .rintro (⟨J,H⟩|⟨rfl,B,D,_,_,J,H⟩)
    .exact⟨by omega,H⟩
    .exact⟨by omega,_,G.at_ D,J,H⟩
   .rintro⟨J,v,hv,H,L⟩
    by_cases q:j<i
    .exact .inl ⟨q,v,hv,H,L⟩
    .have:j=i:=by omega
     subst this;obtain⟨B,D,rfl⟩:=G.find hv;exact .inr ⟨rfl,B,D,G.le I D H,D,H,L⟩
 .rintro⟨o,v,vb⟩ ⟨e,h1,S⟩;simp only at e h1 S;subst e;unfold jb.bf;simp only;rw[fe,bK,a_];show Wp ((ey t l o).bind λx=>some x) _
  obtain⟨r,hr,h⟩:=zq hS W (λv (h:Cons t A v/\∃w,Cons t A w/\bS v w/\fE s w)=>h.1) G O hm (b:=o) ⟨h1,λi h=>(S i h).trans ⟨λq=>⟨G.at_ h,q.2⟩,λq=>⟨h,q.2⟩⟩⟩
  rw[hr];exact(a_ _).2 h
end
end Go.VE
namespace Go.VE
section
variable {t:Trace} {A:b7 200 bt} {s:Slice} {U V P:List Int->Prop} {l:Sl (Sl Int)}
theorem TL (hS:Small t) (hr:eB t=some true) (W:VT t) (hM:eu t (bU t) A) (hL:kM s) (hE:jO t A s) (G:kZ t A (ins l)) (J:l.l.length<1073741824) {m:Slice} (hm:kJ t A (λu=>Cons t A u/\∀v,Cons t A v->bS u v->fE s v) m) :
 Wp (i_ t l s) λr=>c_ m r=some true:=by
 have ab:=W.few;have hC:∀x∈l.l,Cons t A x.l:=λx U=>(G.mem x.l).1 (jx.2 ⟨x,U,rfl⟩)
 unfold i_;obtain⟨a,ha,hb⟩:=Ko hS hr W hM hL hE hC J;have X:kf (len l) false=some (.row (List.replicate l.l.length false)):=by
  unfold kf;rw[if_pos (by simp[len];omega)];simp[len]
 rw[ha,ζb,X,ζb];unfold i_.W1;refine eT l.l.length (λi (q:Sl Bool×Int×Slice)=>q.2.1=(i:Int)/\q.1.l.length=l.l.length/\∀j (h:j<l.l.length),(bn q.1.l j=true↔j<i/\∀v,Cons t A v->bS l.l[j].l v->fE s v)) ⟨rfl,by simp[Sl.l],λj _=>by simp only[Sl.l,FN];exact⟨λh=>(nomatch h),λh=>absurd h.1 (by omega)⟩⟩ ?_ ?_
 .rintro i ⟨o,v,vb⟩ H ⟨e,h1,I⟩;simp only at e h1 I;subst e;unfold i_.bf;simp only;obtain⟨o1,Y,e1⟩:=put_eq (s:=o) (p:=i) (x:=true) (by rw[h1];exact H)
  rw[fh H,bF,qv (by rw[h1];exact H),ζb,Y,ζb]
  unfold i_.W2;refine eT (l.l.length-i) (λk (q:Sl Bool×Int×Slice)=>q.2.1=((i+k:Nat):Int)/\q.1.l.length=l.l.length/\∀j (h:j<l.l.length),(bn q.1.l j=true↔(j<i/\∀v,Cons t A v->bS l.l[j].l v->fE s v)\/j=i/\∀B,∀D:B<l.l.length,i<=B->B<i+k->bS l.l[j].l l.l[B].l->fE s l.l[B].l)) ⟨rfl,by rw[e1,List.length_set];exact h1,λj h=>?_⟩ ?_ ?_
  .simp only[e1];rw[zN (by rw[h1];exact h)]
   by_cases q:j=i
   .subst q;rw[if_pos rfl];exact⟨λ_=>.inr ⟨rfl,λB _ h3 h4=>by omega⟩,λ_=>rfl⟩
   .rw[if_neg q,I j h];exact⟨.inl,λL=>L.resolve_right λw=>q w.1⟩
  .rintro k ⟨o2,v,Z⟩ hk ⟨e,g1,g2⟩;simp only at e g1 g2;subst e;have C:i+k<l.l.length:=by omega
   unfold i_.bO;simp only;rw[fh C,bF,Cn (by rw[hb.1];exact C),ζb,bB H,bB C]
   simp only[ζb];have O:=hb.2 _ C;have keep:∀j (h:j<l.l.length),(bS l.l[i].l l.l[i+k].l->fE s l.l[i+k].l)->(((j<i/\∀v,Cons t A v->bS l.l[j].l v->fE s v)\/j=i/\∀B,∀D:B<l.l.length,i<=B->B<i+k->bS l.l[j].l l.l[B].l->fE s l.l[B].l)↔((j<i/\∀v,Cons t A v->bS l.l[j].l v->fE s v)\/j=i/\∀B,∀D:B<l.l.length,i<=B->B<i+(k+1)->bS l.l[j].l l.l[B].l->fE s l.l[B].l)):=λj h aa=>by
    refine or_congr_right (and_congr_right λe=>⟨λw B D Q q2 q3=>?_,λw B D Q q2=>w B D Q (by omega)⟩)
    subst e
    by_cases hc:B<j+k
    .exact w B D Q hc q3
    .have:B=j+k:=by omega
     subst this;exact aa q3
   obtain⟨z,X,S⟩:=Pm (a:=l.l[i]) (b:=l.l[i+k]) ((G.at_ H).1.1.trans (G.at_ C).1.1.symm) (by rw[(G.at_ H).1.1];omega)
   cases U:bn a.l (i+k)with
   | true=>
    rw[bF,ζb,bK,a_];exact⟨by rw[bY (i+k) (by omega)];rfl,g1,λj h=>(g2 j h).trans (keep j h λ_=>O.1 U)⟩
   | false=>
    rw[bK,X,ζb,ζb]
    cases z with
    | false=>
     rw[bK,a_];exact⟨by rw[bY (i+k) (by omega)];rfl,g1,λj h=>(g2 j h).trans (keep j h λq=>by have:=S.2 q;cases this)⟩
    | true=>
     obtain⟨r,hr,e⟩:=put_eq (s:=o2) (p:=i) (x:=false) (by rw[g1];exact H)
     rw[bF,qv (by rw[g1];exact H),ζb,hr,ζb,a_]
     refine⟨by rw[bY (i+k) (by omega)];rfl,by rw[e,List.length_set];exact g1,λj h=>?_⟩
     simp only[e];rw[zN (by rw[g1];exact h)]
     by_cases q:j=i
     .subst q;rw[if_pos rfl];refine⟨λw=>(nomatch w),λw=>?_⟩
      rcases w with⟨w,_⟩|⟨_,w⟩
      .omega
      .have:=O.2 (w (j+k) C (by omega) (by omega) (S.1 rfl))
       rw[U]at this;cases this
     .rw[if_neg q,g2 j h];exact⟨λL=>L.imp id λw=>absurd w.1 q,λL=>L.imp id λw=>absurd w.1 q⟩
  .rintro⟨o2,v,Z⟩ ⟨e,g1,g2⟩;simp only at e g1 g2;subst e;have hn:i+(l.l.length-i)=l.l.length:=by omega
   rw[hn]at g2 ⊢;unfold i_.bO;simp only;rw[fe,bK,a_];refine(a_ _).2 ⟨bY i (by omega),g1,λj h=>(g2 j h).trans ?_⟩
   constructor
   .rintro (⟨Q,q2⟩|⟨rfl,w⟩)
    .exact⟨by omega,q2⟩
    .refine⟨by omega,λv hv T=>?_⟩
     obtain⟨B,D,rfl⟩:=G.find hv;exact w B D (G.le H D T) D T
   .rintro⟨Q,w⟩
    by_cases q:j<i
    .exact .inl ⟨q,w⟩
    .have:j=i:=by omega
     subst this;exact .inr ⟨rfl,λB D _ _=>w _ (G.at_ D)⟩
 .rintro⟨o,v,vb⟩ ⟨e,h1,I⟩;simp only at e h1 I;subst e;unfold i_.bf;simp only;rw[fe,bK,a_];show Wp ((ey t l o).bind λx=>some x) _
  obtain⟨r,hr,h⟩:=zq hS W (λv (h:Cons t A v/\∀w,Cons t A w->bS v w->fE s w)=>h.1) G J hm (b:=o) ⟨h1,λi h=>(I i h).trans ⟨λq=>⟨G.at_ h,q.2⟩,λq=>⟨h,q.2⟩⟩⟩
  rw[hr];exact(a_ _).2 h
end
end Go.VE
namespace Go.VE
section
variable {t:Trace} {A:b7 200 bt} {s:Slice} {U V P:List Int->Prop} {l:Sl (Sl Int)}
theorem oL.ne {c d:List Int} (B:Cons t A c) (h:oL t A c d):d≠c:=λe=>by
 obtain⟨p,q,u,_⟩:=h.to B;have:=congrArg (λl=>nth l p) (e.symm.trans u)
 rw[gy (by rw[B.1.1];exact q),if_pos rfl]at this
 omega
structure Pn (t:Trace) (A:b7 200 bt) (s:Slice) (P:List Int->Prop):Prop where
 c:∀u,P u->Cons t A u
 l:∀u,Cons t A u->(P u↔fE s u/\(u=kC t\/∃d,oL t A u d/\P d))
theorem P_ (W:Small t) (O:VT t) (Y:eu t (bU t) A) (D:s.empty=true\/lF t A s) (hl:s.last.l.length<1073741824) (U:(s.j.l.flatMap Sl.l).length<1073741824) :
 ∃b,jm t s=some b/\∃P,kJ t A P b/\Pn t A s P:=by
 obtain⟨b,Q,⟨⟨G,w⟩,B,J,hc⟩|⟨L,rfl⟩⟩:=V9 W O D hl U
 .have z:=D.resolve_left (by rw[G];simp)
  refine⟨b,Q,SB t A s B,hc.made O λu h=>h.1.1,λu h=>h.1.1,λc H=>⟨λh=>?_,?_⟩⟩
  .have I:=(uz.1 h.1).2;refine⟨I,?_⟩
   by_cases e:c=kC t
   .exact .inl e
   .obtain⟨d,k1,k2,k3⟩:=UI O Y J z G w H I h.2 e;exact .inr ⟨d,k1,uz.2 ⟨(k1.to H).choose_spec.2.2,k2⟩,k3⟩
  .rintro⟨I,rfl|⟨d,k1,k2⟩⟩
   .refine⟨uz.2 ⟨H,I⟩,?_⟩;refine iN.2 ⟨by rw[J.len];simp[kC],λr hr=>?_⟩
    have C:r<t.procs.l.length:=by rw[<-J.len];exact hr
    rw[qh C];rcases J.at_ r C with k|⟨p,S,i,Z,q,hq,i',T,_,_,k⟩
    .rw[k];exact(eM z.1.1.1.1.1.1 C).2
    .rw[<-k];exact(eM (uf z G S (i:=i) (by rw[w,qh S];omega)).2.2 C).2
   .exact⟨uz.2 ⟨H,I⟩,QN J z G w H I k1 (uz.1 k2.1).2 k2.2⟩
 .refine⟨_,Q,λ_=>False,.inl ⟨rfl,λ_ h=>h⟩,λ_ h=>h.elim,λc H=>⟨λh=>h.elim,?_⟩⟩
  rintro⟨h,rfl|⟨_,_,k⟩⟩
  .have G:=h.1.1.1;have X:=D.resolve_left (by rw[G];simp)
   exact L ⟨G,(o6 X.1.1.1.1.1.2).anti h.1.2⟩
  .exact k
theorem KE (D:kZ t A (ins l)) (G:t.procs.l.length<=8) (B:l.l.length<1073741824) {c:Sl Int} (J:Cons t A c.l):∃i,∃h:i<l.l.length,lM l c=some (i:Int)/\l.l[i].l=c.l:=by
 rw[Tm B λx w=>by rw[((D.mem x.l).1 (jx.2 ⟨x,w,rfl⟩)).1.1];omega]
 unfold place;obtain⟨k,hk,q⟩:=D.find J
 cases u:l.l.findIdx? (λd:Sl Int=>decide (c.l=d.l))with
 | none=>
  have:=List.findIdx?_eq_none_iff.1 u l.l[k] (List.getElem_mem hk);simp[q]at this
 | some i=>
  obtain⟨h1,z,_⟩:=List.findIdx?_eq_some_iff_getElem.1 u;exact⟨i,h1,rfl,by simpa using (of_decide_eq_true z).symm⟩
theorem Sc (hS:Small t) (hr:eB t=some true) (Y:VT t) (hM:eu t (bU t) A) (hL:kM s) (hE:jO t A s) (B:kZ t A (ins l)) (D:l.l.length<1073741824) (hP:Pn t A s P) {m:Slice} (hm:kJ t A P m) :
 Wp (jd t l s) λr=>c_ m r=some true:=by
 have ab:=Y.few;have hC:∀x∈l.l,Cons t A x.l:=λx Q=>(B.mem x.l).1 (jx.2 ⟨x,Q,rfl⟩)
 obtain⟨f0,ad,J⟩:=B.find (FB Y hM);have L:∀p (h:p<l.l.length),l.l[p].l=kC t↔p=l.l.length-1:=λp hp=>by
  have h1:∀q (h:q<l.l.length),q<=f0:=λq hq=>B.le hq ad (by rw[J];exact o6 (B.at_ hq))
  have O:=h1 (l.l.length-1) (by omega)
  have h3:f0=l.l.length-1:=by omega
  constructor
  .intro e;have:=B.le (i:=l.l.length-1) (j:=p) (by omega) hp (by rw[e];exact o6 (B.at_ (by omega)))
   omega
  .intro e;subst e;subst h3;exact J
 unfold jd;obtain⟨a,ha,hb⟩:=Ko hS hr Y hM hL hE hC D;have hz:kf (len l) false=some (.row (List.replicate l.l.length false)):=by
  unfold kf;rw[if_pos (by simp[len];omega)];simp[len]
 have hw:∀n:Nat,n<1073741824->IntKind.wrap .i64 ((n:Int)-1)=(n:Int)-1:=λn hn=>by
  cases n with
  | zero=>rfl
  | succ n=>
   have e:((n+1:Nat):Int)-1=(n:Int):=by omega
   rw[e]
   cases n with
   | zero=>rfl
   | succ n=>exact bY n (by omega)
 rw[ha,ζb,hz,ζb,show (len l)=((l.l.length:Nat):Int)from rfl,hw _ D];unfold jd.W1;refine eT l.l.length (λi (q:Sl Bool×Int×Slice)=>q.2.1=(l.l.length:Int)-1-i/\q.1.l.length=l.l.length/\∀j (h:j<l.l.length),(bn q.1.l j=true↔l.l.length-i<=j/\P l.l[j].l)) ⟨by simp,by simp[Sl.l],λj hj=>by show bn (List.replicate l.l.length false) j=true↔_;rw[FN];exact⟨λh=>(nomatch h),λh=>absurd h.1 (by omega)⟩⟩ ?_ ?_
 .rintro i ⟨o,v,vb⟩ hi ⟨e,h1,O⟩;simp only at e h1 O;have hv:v=((l.l.length-1-i:Nat):Int):=by omega
  subst hv;generalize hp:l.l.length-1-i=p at e;have u:p<l.l.length:=by omega
  have z:IntKind.wrap .i64 ((p:Int)-1)=(l.l.length:Int)-1-((i+1:Nat):Int):=by rw[hw p (by omega)];omega
  have C:=hP.l _ (B.at_ u);have X:=hb.2 p u;have other:∀j (h:j<l.l.length),j≠p->((l.l.length-i<=j/\P l.l[j].l)↔(l.l.length-(i+1)<=j/\P l.l[j].l)):=λj h hj=>and_congr_left λ_=>by omega
  unfold jd.bf;simp only;rw[show decide ((p:Int)>=0)=true by simp,bF,Cn (by rw[hb.1];exact u),ζb]
  cases Q:bn a.l p with
  | false=>
   rw[bK,a_];refine⟨z,h1,λj h=>(O j h).trans ?_⟩
   by_cases q:j=p
   .subst q;refine⟨λw=>absurd w.1 (by omega),λw=>?_⟩
    rw[X.2 (C.1 w.2).1]at Q;cases Q
   .exact other j h q
  | true=>
   have hH:=X.1 Q;rw[bF,show (len l)=((l.l.length:Nat):Int)from rfl,hw _ D]
   by_cases G:p=l.l.length-1
   .rw[show ((p:Int)==(l.l.length:Int)-1)=true by rw[beq_iff_eq];omega,bF]
    obtain⟨r,hr,e⟩:=put_eq (s:=o) (p:=p) (x:=true) (by rw[h1];exact u)
    rw[qv (by rw[h1];exact u),ζb,hr,ζb,a_]
    refine⟨z,by rw[e,List.length_set];exact h1,λj h=>?_⟩
    simp only[e];rw[zN (by rw[h1];exact h)]
    by_cases q:j=p
    .subst q;rw[if_pos rfl];exact⟨λ_=>⟨by omega,C.2 ⟨hH,.inl ((L j h).2 G)⟩⟩,λ_=>rfl⟩
    .rw[if_neg q,O j h];exact other j h q
   .rw[show ((p:Int)==(l.l.length:Int)-1)=false by rw[beq_eq_false_iff_ne];omega,bK,bB u,ζb]
    obtain⟨nx,ae,hn,S⟩:=IS hS Y hM (B.at_ u);rw[ae,ζb];unfold jd.W2;refine eT nx.l.length (λk (q:Sl Bool×Int×Slice)=>q.2.1=(k:Int)/\q.1.l.length=l.l.length/\∀j (h:j<l.l.length),(bn q.1.l j=true↔(l.l.length-i<=j/\P l.l[j].l)\/j=p/\∃H,∃I:H<nx.l.length,H<k/\P nx.l[H].l)) ⟨rfl,h1,λj h=>(O j h).trans ⟨.inl,λq=>q.resolve_right λ⟨_,_,_,w,_⟩=>by omega⟩⟩ ?_ ?_
    .rintro k ⟨o2,v,af⟩ hk ⟨Z,g1,g2⟩;simp only at Z g1 g2;subst Z;unfold jd.bO;simp only;have T:oL t A l.l[p].l nx.l[k].l:=(S _).1 (jx.2 ⟨_,List.getElem_mem hk,rfl⟩);have ah:Cons t A nx.l[k].l:=(T.to (B.at_ u)).choose_spec.2.2;obtain⟨f,hf,ai,U⟩:=KE B ab D ah;have aj:p<f:=by
      have h3:=B.le u hf (by rw[U];exact T.le (B.at_ u))
      refine Nat.lt_of_le_of_ne h3 λe=>T.ne (B.at_ u) ?_
      subst e;exact U.symm
     have hg:=g2 f hf;have aa:bn o2.l f=true↔P nx.l[k].l:=by
      rw[hg,U];exact⟨λw=>w.elim (λw=>w.2) λw=>absurd w.1 (by omega),λw=>.inl ⟨by omega,w⟩⟩
     rw[fh hk,bF,bB hk,ζb,ai,ζb,qv (by rw[g1];exact hf),ζb,show Sl.get o2 f=some (bn o2.l f)from UA (by rw[g1];exact hf),ζb]
     cases hy:bn o2.l f with
     | false=>
      rw[bK,a_];refine⟨bY k (by omega),g1,λj h=>(g2 j h).trans (or_congr_right (and_congr_right λ_=>⟨λ⟨H,I,w1,W⟩=>⟨H,I,by omega,W⟩,λ⟨H,I,w1,W⟩=>⟨H,I,?_,W⟩⟩))⟩
      refine Classical.byContradiction λhc=>?_
      have:H=k:=by omega
      subst this;rw[aa.2 W]at hy;cases hy
     | true=>
      obtain⟨r,hr,e⟩:=put_eq (s:=o2) (p:=p) (x:=true) (by rw[g1];exact u)
      rw[bF,qv (by rw[g1];exact u),ζb,hr,ζb,a_]
      refine⟨bY k (by omega),by rw[e,List.length_set];exact g1,λj h=>?_⟩
      simp only[e];rw[zN (by rw[g1];exact h)]
      by_cases q:j=p
      .rw[if_pos q];exact⟨λ_=>.inr ⟨q,k,hk,by omega,aa.1 hy⟩,λ_=>rfl⟩
      .rw[if_neg q,g2 j h];exact⟨λq'=>q'.imp id λw=>absurd w.1 q,λq'=>q'.imp id λw=>absurd w.1 q⟩
    .rintro⟨o2,v,af⟩ ⟨Z,g1,g2⟩;simp only at Z g1 g2;subst Z;unfold jd.bO;simp only;rw[fe,bK,a_];refine(a_ _).2 ⟨z,g1,λj h=>(g2 j h).trans ?_⟩
     by_cases q:j=p
     .subst q;constructor
      .rintro (w|⟨_,H,I,_,w⟩)
       .exact⟨by omega,w.2⟩
       .exact⟨by omega,C.2 ⟨hH,.inr ⟨_,(S _).1 (jx.2 ⟨_,List.getElem_mem I,rfl⟩),w⟩⟩⟩
      .rintro⟨_,w⟩;rcases (C.1 w).2 with w|⟨d,w1,W⟩
       .exact absurd ((L j h).1 w) G
       .obtain⟨x,Q,rfl⟩:=jx.1 ((S d).2 w1);obtain⟨H,I,rfl⟩:=List.getElem_of_mem Q;exact .inr ⟨rfl,H,I,I,W⟩
     .rw[<-other j h q];exact⟨λw=>w.resolve_right λw=>q w.1,.inl⟩
 .rintro⟨o,v,vb⟩ ⟨e,h1,O⟩;simp only at e h1 O;unfold jd.bf;simp only;rw[show decide (v>=0)=false by rw[decide_eq_false_iff_not];omega,bK,a_]
  show Wp ((ey t l o).bind λx=>some x) _
  obtain⟨r,hr,h⟩:=zq hS Y hP.c B D hm (b:=o) ⟨h1,λi h=>(O i h).trans ⟨λq=>q.2,λq=>⟨by omega,q⟩⟩⟩
  rw[hr];exact(a_ _).2 h
end
end Go.VE
namespace Go.VE
section
variable {t:Trace} {A:b7 200 bt} {s:Slice}
theorem Rc (hv:dc t=some true) {a:Slice} {x:Bool} (B:oI t a=some x):kz t (.row [a])=some x:=by
 unfold kz;rw[hv,ζb,bF,EM (f:=λs => !((oI t s).getD false)) (λs q=>by
  simp only[Sl.l,List.mem_cons,List.not_mem_nil,or_false]at q;unfold p9;subst q;rw[B];rfl) (by simp[Sl.l])]
 simp only[Sl.l,List.any_cons,List.any_nil,B,Option.getD_some,Bool.or_false,ζb];cases x <;> rfl
theorem Fe:oC ⟨false,.nil,.nil,.nil⟩=some true:=by unfold oC;rw[GJ];rfl
theorem FK (B:Small t) (U:(bU t).length<1073741824) (W:Nt s):kQ t s=some true:=by
 obtain⟨e,T,z⟩:=U6 B 40;obtain⟨d,X,C⟩:=Sh W;obtain⟨v,hv,q,u⟩:=LZ B U;unfold kQ vH;rw[ζb,bF,T,ζb]
 cases e with
 | false=>rw[bK,ζb,bF]
 | true=>
 have z:=z rfl;rw[bF,X,ζb,ζb]
 cases d with
 | true=>rw[bF]
 | false=>
 obtain⟨C,Y⟩:=C rfl;rw[bK];have G:kz t (.row [s])=some false->tc t s=some (⟨false,.nil,.nil,.nil⟩,1)/\tw t s=some (⟨false,.nil,.nil,.nil⟩,1)/\sV t s=some (⟨false,.nil,.nil,.nil⟩,1):=λh=>by
  unfold tc tw sV;rw[h];exact⟨rfl,rfl,rfl⟩
 cases v with
 | false=>
  have hg:kz t (.row [s])=some false:=by unfold kz;rw[hv];rfl
  obtain⟨h1,J,Z⟩:=G hg;rw[h1,ζb,J,ζb,Z,ζb,JZ q];simp only[ζb,bK,bF,beq_self_eq_true,Fe]
 | true=>
 have u:=u rfl;obtain⟨A,i,hA,w⟩:=u.msgs;obtain⟨x,h1,J,hx⟩:=cg.same (KX B q u w C) (SU B hv u w C);have hg:=Rc hv J
 cases x with
 | false=>
  obtain⟨g1,g2,g3⟩:=G hg;rw[g1,ζb,g2,ζb,g3,ζb,h1];simp only[ζb,bK,bF,beq_self_eq_true,Fe]
 | true=>
 have I:=hx.1 rfl;have D:s.empty=true\/lF t A s:=I.imp (λh=>h.1) (λh=>h.2)
 have H:s.last.l.length<1073741824:=by have:=C.l;omega
 obtain⟨m1,e1,O⟩:=Rk B hv u w D;obtain⟨m2,e2,Q⟩:=Q_ B hv u w D H;obtain⟨m3,e3,P,S,hP⟩:=P_ B u w D H (by omega)
 have E1:tc t s=some (m1,0):=by unfold tc;rw[hg,ζb,bF,e1];rfl
 have E2:tw t s=some (m2,0):=by unfold tw;rw[hg,ζb,bF,e2];rfl
 have E3:sV t s=some (m3,0):=by unfold sV;rw[hg,ζb,bF,e3];rfl
 rw[E1,ζb,E2,ζb,E3,ζb,h1];have v1:=O.valid B q u w z;have v2:=Q.valid B q u w z;have v3:=S.valid B q u w z;simp only[ζb,bK,bF,beq_self_eq_true,v1,v2,v3,Bool.not_true];obtain⟨r,L,hr⟩:=MA B u w;unfold uF wN;rw[q,ζb,bF,L];simp only[ζb];rcases hr with⟨r1,r2,r3⟩|⟨r1,r2,_⟩
 rotate_left
 .rw[r1];rfl
 rw[r1,bF,ζb]
 cases decide ((len r.1)<=400)with
 | false=>rfl
 | true=>
  obtain⟨s1,q1,w1⟩:=Sp B q u w C I r2 (by omega) O
  obtain⟨s2,q2,w2⟩:=TL B q u w C I r2 (by omega) Q
  obtain⟨s3,q3,w3⟩:=Sc B q u w C I r2 (by omega) hP S
  rw[ζb,bF,q1,ζb,w1,ζb,bF,q2,ζb,w2,ζb,ζb,bF,q3,ζb,w3];rfl
end
end Go.VE
namespace Go.VE
theorem zi {α:Type} [ct α] {x:α}:∀{l:List α},x∈l->ct.wt x<=(l.map ct.wt).sum
 | y::l,h=>by
  simp only[List.map_cons,List.sum_cons];rcases List.mem_cons.1 h with rfl|h
  .omega
  .have:=zi h;omega
theorem t_ {α:Type} [ct α] (h:∀x:α,1<=ct.wt x):∀(l:List α),l.length<=(l.map ct.wt).sum
 | []=>Nat.le_refl _
 | y::l=>by
  simp only[List.map_cons,List.sum_cons,List.length_cons];have:=t_ h l;have:=h y;omega
theorem xO {α:Type} [ct α] (s:Sl α):ct.wt s=(s.l.map ct.wt).sum+1:=rfl
theorem AM (p:Int):∀(es:List Event) (j:Int),(iP p j es).length=es.length
 | [],_=>rfl
 | _::es,j=>by simp only[iP,List.length_cons,AM p es]
theorem Fp:∀(ps:List cn) (i:Int),(fG i ps).length<=(ps.map ct.wt).sum
 | [],_=>Nat.le_refl _
 | p::ps,i=>by
  simp only[fG,ζi,AM,List.map_cons,List.sum_cons];have h1:=Fp ps (i+1);have q:=t_ (α:=Event) (λx=>Nat.le_add_left ..) p.events.l
  have t:ct.wt p=ct.wt p.name+ct.wt p.vars+ct.wt p.events+1:=rfl;have u:=xO p.events;omega
theorem MV {t:Trace} (h:ct.wt t<=1048576):Small t/\(bU t).length<1073741824:=by
 have h0:ct.wt t=ct.wt t.procs+1:=rfl;have h1:=xO t.procs;have z:=t_ (α:=cn) (λx=>Nat.le_add_left ..) t.procs.l
 have A:=Fp t.procs.l 0;refine⟨⟨by omega,λp q=>?_⟩,by show (fG 0 t.procs.l).length<_;omega⟩
 have B:=zi q;have C:ct.wt p=ct.wt p.name+ct.wt p.vars+ct.wt p.events+1:=rfl;have D:=xO p.events;have G:=xO p.vars;have H:=t_ (α:=Event) (λx=>Nat.le_add_left ..) p.events.l
 have I:=t_ (α:=Var) (λx=>Nat.le_add_left ..) p.vars.l
 have u:ct.wt p.name=p.name.size+1:=rfl;refine⟨by omega,by omega,by omega,λv hv=>?_,λe w=>?_⟩
 .have k1:=zi hv;have k2:ct.wt v=ct.wt v.name+ct.wt v.init_+1:=rfl;have k3:ct.wt v.name=v.name.size+1:=rfl;omega
 .have k1:=zi w;have k2:ct.wt e=ct.wt e.kind+ct.wt e.peer+ct.wt e.message+ct.wt e.time+ct.wt e.assign+1:=rfl;have k3:=xO e.assign;have k4:=t_ (α:=Assign) (λx=>Nat.le_add_left ..) e.assign.l
  omega
theorem fits {s:Slice} (h:ct.wt s<=1048576):Nt s:=by
 have h0:ct.wt s=ct.wt s.empty+ct.wt s.first+ct.wt s.last+ct.wt s.j+1:=rfl
 have h1:=xO s.j;have q:=t_ (α:=Sl (Sl Int)) (λx=>Nat.le_add_left ..) s.j.l
 refine⟨by omega,λr hr=>?_⟩
 have t:=zi hr;have u:=xO r;have w:=t_ (α:=Sl Int) (λx=>Nat.le_add_left ..) r.l
 omega
end Go.VE
namespace Go.Proofs.YtimppgndlmehbaaGreat
open Go.ChangeShapes Go.WideShapes Go.ChangeAt Go.RowKit Go.VE
theorem own:ownKnob Tryz.prog.godebug=none:=by kernel_rfl
theorem kids:Kids Tryz.prog (·<Tryz.prog.types.size):=kids_rows (by kernel_rfl) (by kernel_rfl)
theorem full:∀t e,t<Tryz.prog.types.size->Tryz.prog.underlying t=some (.slice e)->0<Tryz.prog.cellsOf e:=slices_full_of Tryz.prog (by kernel_rfl)
theorem xx {H:Type}:∀l:List (DataW H),Rows.uptoBulkAll l=(l.map Rows.uptoBulk).sum
 | []=>by simp[Rows.uptoBulkAll]
 | d::r=>by simp[Rows.uptoBulkAll,xx r]
theorem LY {H:Type}:vv (H:=H) Rows.uptoBulk where
 lit l:=by cases l <;> simp[Rows.uptoBulk]
 str s:=by simp[Rows.uptoBulk]
 nil:=by simp[Rows.uptoBulk]
 slice es q:=by rw[Rows.uptoBulk,xx,xx];omega
 agg t:=by rw[Rows.uptoBulk,xx];exact Nat.le_refl _
set_option maxRecDepth 100000 in
theorem HI (H:Type) (enc:TypeId×Value->H) (W:World) (base:Nat) (args:Array Value) (ds gs:List (DataW H)) (before:List MemPlace)
 (B:∀(j:Nat) t v,Tryz.f3.params[j]? = some t->args[j]? = some v->Value.okWide Tryz.prog W .any base t v)
 (G:DataW.Whole enc Tryz.prog Tryz.f3.params.toList Rows.graftOperatorsSpec.vars false W args.toList ds gs before) (hk:Rows.uptoSmall H (ds++gs)=true) :
 Calls Tryz.prog 3 args W λe J=>∃v,e=.returned v/\Rows.graftOperatorsSpec.post enc Tryz.prog Tryz.f3 false true false false W args v J:=by
 have A:=G;obtain⟨p,q,C,S,rfl,T,U⟩:=G;have I:DataW.TrodAll enc Tryz.prog W 0 (λ_=>true) true Tryz.f3.params.toList args.toList ds p:=C
 rw[Tryz.params3]at I B;obtain⟨L,X,Y,Z,p0,q0,D,rfl,rfl,h0,r0⟩:=trodAll_cons I;obtain⟨O,aa,d1,ab,p1,q1,rfl,rfl,rfl,h1,r1⟩:=trodAll_cons r0;obtain⟨rfl,rfl,rfl⟩:=trodAll_nil r1;obtain rfl:args=#[L,O]:=by cases args;simp_all
 obtain⟨rfl,rfl⟩:=trodVars_none S;obtain⟨u,w0,k0,b0⟩:=Reads.O4 (t:=24) (α:=VE.Trace) B 0 rfl rfl h0;obtain⟨z,w1,k1,b1⟩:=Reads.O4 (t:=28) (α:=VE.Slice) B 1 rfl rfl h1;have hb:ct.wt u+ct.wt z<=1048576:=by
  have c0:=b0 Rows.uptoBulk LY;have c1:=b1 Rows.uptoBulk LY;have Q:Rows.uptoBulkAll ([Y,d1]++[])<=1048576:=of_decide_eq_true hk;rw[xx]at Q;simp only[List.append_nil,List.map_cons,List.map_nil,List.sum_cons,List.sum_nil]at Q;omega
 obtain⟨hS,hN⟩:=MV (t:=u) (by omega)
 have hc:mX cL 3 [VE.enc u,VE.enc z]=some [.bool true]:=by
  have hl:(kQ u z).bind (λr:Bool=>some [V.bool r])=some [.bool true]:=by rw[FK hS hN (fits (s:=z) (by omega))];rfl
  exact(vV u z).F.h () _ hl
 have:=JP (P:=Tryz.prog) Pc Ic calls (f:=3) (xs:=[VE.enc u,VE.enc z]) (by simp[V.cE,V.good,mV]) hc (w:=W) (args:=#[L,O]) (λ_ _ h=>nomatch h) (cB.cons w0 (cB.cons w1 .nil))
 refine this.mono λe J ⟨he,hg⟩=>?_
 subst he;exact⟨_,rfl,LH kids full (by rw[Tryz.params3];decide) rfl rfl rfl Tryz.underlying4 A hg⟩
set_option maxRecDepth 100000 in
theorem Mq (os:Os) (B:os.Started) (H:Type) (enc:TypeId×Value->H) (F:Stop.Interp) :
 ReturnsInHanded {} Tryz.checked os 3 .any ((Rows.OpenSpec.upto Rows.graftOperatorsSpec).pre6 enc Tryz.prog Tryz.f3 Rows.graftOperatorsUptoRow.domain false) (((Rows.OpenSpec.upto Rows.graftOperatorsSpec).at F).post enc Tryz.prog Tryz.f3 false true false false):=by
 refine returnsInHanded_of_cond (C:=Tryz.checked) (s:=Rows.OpenSpec.upto Rows.graftOperatorsSpec) (k:=Rows.uptoSmall) rfl own B (by kernel_rfl) Tryz.func3
  (OpenSpec.witness (enc:=enc) (C:=Tryz.checked) (s:=Rows.OpenSpec.upto Rows.graftOperatorsSpec) (k:=Rows.uptoSmall) rfl false ⟨#[],#[.agg #[.slice none 0 0],.agg #[.bool false,.slice none 0 0,.slice none 0 0,.slice none 0 0]],[]⟩ 8 (by kernel_rfl) (by kernel_rfl) (by kernel_rfl)
   (x:=([.agg [.nil],.agg [.lit (.bool false),.nil,.nil,.nil]],[],[])) (by kernel_rfl) rfl (by kernel_rfl)) ?_
 intro W base args t gs before q u _ hk _;exact HI H enc W base args t gs before q u hk
theorem Ry:Rows.graftOperatorsUptoRow.holds Tryz.pinned (Rows.OpenSpec.upto Rows.graftOperatorsSpec):=
 OpenClaim.holds_of_cond 3 Tryz.f3 rfl rfl rfl rfl rfl rfl rfl ⟨rfl,rfl,rfl,rfl,rfl⟩ rfl rfl rfl rfl rfl (by kernel_rfl) Tryz.func3 (by kernel_rfl)
  (of_decide_eq_true (by kernel_rfl)) (by unfold Func.isWrapper;first|(rw[if_pos (by decide +kernel)];kernel_rfl)|(rw[if_neg (by decide +kernel)];exact⟨rfl,rfl⟩))
  (λos q H enc _ F=>Mq os q H enc F)
theorem graftOperatorsProved:Rows.GraftOperatorsUptoSaid:=
 Ry
#print axioms graftOperatorsProved
end Go.Proofs.YtimppgndlmehbaaGreat
