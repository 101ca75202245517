/-
 BarrierTests says true for all arguments that together are of bulk at most 1048576, and they read behind the call as they read before: for every such argument, without a condition.
-/
import Derived.Test.YtllofdfkekipeaaGreatDoorRows
import Derived.Test.YtllofdfkekipeaaGreatDoorCards
import Derived.Test.YtllofdfkekipeaaGreatDoorTie
import Derived.Deep.DeepHandedRow
import Derived.Test.YtllofdfkekipeaaGreatDoorK1
import Derived.Test.YtllofdfkekipeaaGreatDoorL1
set_option linter.all false
open List(append_nil filter_append getElem_mem length_cons length_drop length_set map_append map_cons map_singleton mem_append mem_cons mem_filter mem_iff_getElem mem_map mem_of_getElem? mem_singleton replicate sum_cons take_append_drop take_length take_succ)
open Go.IntKind(signed wrap)
open UInt8(ofNat)
open Nat(le_add_left le_refl)
namespace Go.VE
theorem Zi{p:Prop}(h:p:=by kernel_rfl):p:=h
section
variable{L:aY Zx}{f:Nat->Zl}
inductive rQ(L:List (List Int))(f:Nat->Bool):Nat->Prop
 |last:f (L.length-1)=false->rQ L f (L.length-1)|step{i k:Nat}{c:List Int}:f i=false->L[i]?=some c->k∈rL L c->rQ L f k->rQ L f i
theorem rQ.no{i:Nat}(h:rQ L f i):f i=false:=by cases h<;>assumption
theorem DT:rQ L f 0↔Rc L f (L.length-1)/\f (L.length-1)=false:=by
 have a:∀i,rQ L f i->Rc L f i->Rc L f (L.length-1)/\f (L.length-1)=false:=λi h=>by induction h with|last h=>exactλk=>⟨k,h⟩|step h1 u w _ z=>exactλk=>z (.step k h1 u w)
 have b:∀i,Rc L f i->rQ L f i->rQ L f 0:=λi h=>by induction h with|zero=>exact id|step _ h1 u w z=>exactλk=>z (.step h1 u w k)
 exact⟨λh=>a 0 h .zero,λh=>b _ h.1 (.last h.2)⟩
theorem Gj(b:wG L){i:Nat}{c:Zx}(B:L[i]?=some c):rQ L f i↔f i=false/\(i=L.length-1\/∃k∈rL L c,rQ L f k):=by
 constructor;intro h;refine⟨h.no,?_⟩;cases h with|last _=>exact .inl rfl|step _ u w z=>rw[B]at u;cases u;exact .inr ⟨_,w,z⟩
 rintro⟨a,u|⟨k,u,w⟩⟩;subst u;exact .last a;exact .step a B u w
theorem Gt{l:Zb}{c:Zg}(J:l.l.length<1073741824)(G:∀x∈l.l,x.l.length<1073741824):gA l c=some (decide (c.l∈ins l)):=by refine Wp.eq ?_;unfold gA gA.W1;refine eO l.l.length (λi(q:Int)=>q=(i:Int)/\∀j x,j<i->l.l[j]?=some x->x.l≠c.l) ⟨rfl,λj x h=>absurd h Za⟩ ?_ ?_;rintro i _ w ⟨rfl,h⟩;unfold gA.bn;rw[iA w,bO,bB w,ζb,Eg (G _ (getElem_mem w)),ζb];by_cases e:l.l[i].l=c.l;rw[decide_eq_true e,bO,bf];exact(bf _).2 (decide_eq_true (j8.2 ⟨_,getElem_mem w,e⟩)).symm;rw[decide_eq_false e,bX,bf];refine⟨ct i Za,λj x z u=>?_⟩;by_cases e2:j=i;subst e2;rw[ζd w]at u;cases u;exact e;exact h j x Za u;rintro _ ⟨rfl,h⟩;unfold gA.bn;rw[hU,bX,bf];refine(bf _).2 (decide_eq_false λC=>?_).symm;have⟨x,B,e⟩:=j8.1 C;obtain⟨j,z,rfl⟩:=mem_iff_getElem.1 B;exact h j _ z (ζd z) e
end
section
variable{t:Zj}{A:bU 200 bt}{L:aY Zx}
theorem P_{s:Zb}(B:dF t A L)(O:VT t)(G:ins s=L)(U:L.length<=5000){d:Zg}(J:d.l∈L):kj s d=some (L.idxOf d.l:Int):=by
 have D:=O.few;have a:s.l.length=L.length:=by rw[<-fL,G]
 have hc:∀x∈s.l,x.l.length<1073741824:=λx u=>by have:=B.len (by rw[<-G];exact j8.2 ⟨x,u,rfl⟩:x.l∈L);omega
 have b:kj s d=some (place (λx:Zg=>decide (d.l=x.l)) s.l):=(rT (p:=λx=>dZ x d) (f:=λx:Zg=>decide (d.l=x.l)) (λx u=>by rw[yT (hc x u)];congr 1;exact decide_eq_decide.2 eq_comm) Za (λi=>rfl):)
 rw[b];have I:=List.idxOf_lt_length_of_mem J;have w:s.l.length>L.idxOf d.l:=Za;have z:∀j,j<L.idxOf d.l->∀x:Zg,s.l[j]?=some x->decide (d.l=x.l)=false:=λj Q x u=>decide_eq_false λe=>by have z:L[j]?=some d.l:=(by rw[<-G,IY,u,e];rfl);have:=(G9 B J).1 z;omega
 have C:d.l=s.l[L.idxOf d.l].l:=by have z:=u6 J;have C:(ins s)[L.idxOf d.l]?=some s.l[L.idxOf d.l].l:=nL w;rw[G,z]at C;exact Option.some.inj C
 unfold place;rw[wI z (ζd w) (decide_eq_true C)]
theorem VC(l:Small t)(a:VT t)(v:eR t (bQ t) A)(B:dF t A L)(y:L.length<=5000){s w:Zb}(f:ins s=L){i:Nat}(U:i<L.length){c:Zx}(G:L[i]?=some c){o:Sl Zl}(E:o.l.length=L.length):
 Wp (c8.J2 s w o (i:Int) t) λz=>∃r:Sl Zl,z=.n (r,(i:Int)-1)/\r.l.length=L.length/\∀j,j<L.length->(iO r j=true↔iO o j=true\/(j=i/\∃k∈rL L c,iO o k=true)):=by
 have F:=wG.of B;have H:=a.few;have K:s.l.length=L.length:=by rw[<-fL,f]
 have M:∀{i:Nat}(U:i<s.l.length),L[i]?=some s.l[i].l:=λU=>by rw[<-f];exact nL U
 have Q:i<s.l.length:=Za
 have I:idx s (i:Int)=some s.l[i]:=bB Q;have e:=M Q;rw[G]at e;cases e;have S:=mem_of_getElem? G;have b:=(B.mem _).1 S;unfold c8.J2;rw[I,ζb,dU];generalize s.l[i]=u at G S b I;refine(Dk l a v B b).mono λm T=>?_
 have W:m.l.length=(ps L u.l u.l.length).length:=by rw[T,DY]
 have R:u.l.length<=8:=by rw[b.1.1];exact H
 have V:=Nf L u.l;unfold c8.W3;refine eO m.l.length (λk(q:Sl Zl×Int)=>q.2=(k:Int)/\q.1.l.length=L.length/\∀j,j<L.length->(iO q.1 j=true↔iO o j=true\/(j=i/\∃p∈(ps L u.l u.l.length).take k,iO o (L.idxOf (bump u.l p 1))=true))) ⟨rfl,E,λk n=>Zc⟩ ?_ ?_
 .rintro k ⟨r,_⟩ n ⟨e,g1,g2⟩;simp only at e g1 g2;subst e;have J:k<(ps L u.l u.l.length).length:=by omega
  have D:=HD.1 (getElem_mem J);have⟨d,N,X⟩:=Jr l a b D.1;have O:=F i _ _ G (DP.2 ⟨_,D.1,D.2,rfl⟩);unfold c8.dN;rw[iA n,bO,I,ζb,mX,T,DM J,ζb,N,ζb,P_ B a f y (by rw[X];exact D.2),ζb,X,kZ (by rw[g1];exact O.2),ζb,vc (by rw[g1];exact O.2),ζb]
  have Y:(∃p∈(ps L u.l u.l.length).take (k+1),iO o (L.idxOf (bump u.l p 1))=true)↔(∃p∈(ps L u.l u.l.length).take k,iO o (L.idxOf (bump u.l p 1))=true)\/iO o (L.idxOf (bump u.l (ps L u.l u.l.length)[k] 1))=true:=by rw[List.take_succ_eq_append_getElem J];simp only[mem_append,mem_singleton,or_and_right,exists_or,exists_eq_left]
  have C:iO r (L.idxOf (bump u.l (ps L u.l u.l.length)[k] 1))=true↔iO o (L.idxOf (bump u.l (ps L u.l u.l.length)[k] 1))=true:=(g2 _ O.2).trans ⟨λh=>h.elim id λh=>Za,.inl⟩
  rw[bP];constructor
  .intro g;have⟨r2,k1,k2⟩:=put_eq (s:=r) (p:=i) (x:=true) (by rw[g1];exact U)
   rw[kZ (by rw[g1];exact U),ζb,k1,ζb,bf]
   refine⟨ct k Za,by show r2.l.length=_;rw[k2,length_set,g1],λj Z=>?_⟩
   rw[u7 (by rw[g1];exact U) k2,g2 j Z,Y,<-C,or_assoc]
   refine or_congr Iff.rfl ⟨λh=>⟨h.elim (·.1) id,.inr g⟩,λh=>.inr h.1⟩
  intro g;rw[bf];refine⟨ct k Za,g1,λj Z=>(g2 j Z).trans ?_⟩
  rw[Y,<-C,g];simp
 rintro⟨r,_⟩ ⟨e,g1,g2⟩;simp only at e g1 g2;subst e;unfold c8.dN;rw[hU,bX,bf];refine(bf _).2 ⟨r,?_,g1,λj Z=>(g2 j Z).trans (or_congr Iff.rfl (and_congr Iff.rfl ?_))⟩
 .rw[jB _ Za Za]
 rw[W,take_length,Nt];exact⟨λ⟨p,h,e⟩=>⟨_,mem_map.2 ⟨p,h,rfl⟩,e⟩,λ⟨k,h,e⟩=>by obtain⟨p,P,rfl⟩:=mem_map.1 h;exact⟨p,P,e⟩⟩
theorem Re(U:Small t)(G:VT t)(i:eR t (bQ t) A)(B:dF t A L)(j:L.length<=5000){s:Zb}(n:ins s=L){o:Sl Zl}(f:o.l.length=L.length){c:Zg}(hc:c.l∈L):
 Wp (c8.W4 s o c (.row [c]) t) λq=>q.2=true:=by
 have y:=wG.of B;have X:=G.few;have⟨le,z,u⟩:=Lc U X;have C:Cy le.l:=by rw[u];refine⟨by simpa using X,λx D=>?_⟩;obtain⟨P,p,rfl⟩:=mem_map.1 D;have:=(U.2 _ p).1;omega
 have g:le.l.sum=(mc t:Nat):=by rw[u];unfold mc;induction t.procs.l with|nil=>rfl|cons a l ih=>simp only[map_cons,sum_cons,ih];omega
 have E:=RI G;unfold c8.W4;refine eO (mc t) (λm(q:Zg×Zb)=>q.1.l∈L/\q.2.l.length=m+1) ⟨hc,rfl⟩ ?_ ?_
 .rintro m ⟨c,out⟩ hm ⟨b,W⟩;simp only at b W;have Y:=(B.mem _).1 b;unfold c8.u9;rw[z,ζb,vZ C,ζb,g,show decide ((len out)<=((mc t:Nat):Int))=true from decide_eq_true (by show((out.l.length:Nat):Int)<=_;omega),bO,dU]
  refine(Dk U G i B Y).mono λh I=>?_
  have F:h.l.length=(ps L c.l c.l.length).length:=by rw[I,DY]
  have H:=Nf L c.l;have K:c.l.length<=8:=by rw[Y.1.1];exact X
  have fin:∀(e:Zg)(Q:Fw ((Zg)×(Zb)) Zb Empty->Prop),(∀x:Zb,x.l.length=(m+1)+1->Q (.n (e,x)))->Wp ((fP out (e:Zg)).bind λJ=>some (Fw.n (e,J):Fw ((Zg)×(Zb)) Zb Empty)) Q:=λe Q r=>by have⟨x,k1,k2⟩:=jx (s:=out) (x:=e) Za;rw[k1,ζb,bf];exact r x (by rw[k2];simp[W])
  unfold c8.W5;refine eO h.l.length (λk(q:Int)=>q=(k:Int)) rfl ?_ ?_
  .rintro k _ hk rfl;have O:k<(ps L c.l c.l.length).length:=by omega
   have S:=HD.1 (getElem_mem O);have⟨d,v,Z⟩:=Jr U G Y S.1;have w:d.l∈L:=by rw[Z];exact S.2
   have T:=List.idxOf_lt_length_of_mem w;unfold c8.qf;rw[iA hk,bO,mX,I,DM O,ζb,v,ζb,P_ B G n j w,ζb,kZ (by rw[f];exact T),ζb,vc (by rw[f];exact T),ζb,bP]
   refine⟨λ_=>(bf _).2 ?_,λ_=>(bf _).2 (ct k Za)⟩
   exact fin d _ λx D=>⟨w,D⟩
  rintro _ rfl;unfold c8.qf;rw[hU,bX,bf];exact fin c _ λx D=>⟨b,D⟩
 rintro⟨c,out⟩ ⟨b,W⟩;simp only at b W;unfold c8.u9;rw[z,ζb,vZ C,ζb,g,show decide ((len out)<=((mc t:Nat):Int))=false from decide_eq_false (by show¬(((out.l.length:Nat):Int)<=_);omega),bX,bf]
 exact(bf _).2 rfl
theorem PE(M:Small t)(E:VT t)(N:eR t (bQ t) A)(B:dF t A L)(l:0<L.length)(P:L.length<=5000){s w:Zb}(n:ins s=L){f:Nat->Zl}(hw:w.l.length<=5000)(U:∀c,c∈ins w↔∃i,L[i]?=some c/\f i=true):
 Wp (rE t s w) λb=>b=true↔¬(Rc L f (L.length-1)/\f (L.length-1)=false):=by
 have F:=wG.of B;have h8:=E.few;have g:s.l.length=L.length:=by rw[<-fL,n]
 have S:∀{i:Nat}(H:i<s.l.length),L[i]?=some s.l[i].l:=λH=>by rw[<-n];exact nL H
 have G:(len s:Int)=((L.length:Nat):Int):=by show((s.l.length:Nat):Int)=_;rw[g]
 have ab:∀x∈w.l,x.l.length<1073741824:=λx hx=>by have⟨j,z,_⟩:=(U x.l).1 (j8.2 ⟨x,hx,rfl⟩);have:=B.len (mem_of_getElem? z);omega
 unfold rE;rw[dU];have T:Wp (c8 t s w) λq=>q.2=true↔rQ L f 0:=by
  unfold c8;rw[G,DI Za,ζb,jB _ Za Za];unfold c8.W1;refine eO L.length (λm(q:Sl Zl×Int)=>q.2=(L.length:Int)-1-(m:Int)/\q.1.l.length=L.length/\∀k,k<L.length->(iO q.1 k=true↔L.length-m<=k/\rQ L f k)) ⟨Zc,by simp[Sl.l],λk d=>by rw[DL];exact⟨λh=>(by cases h),λh=>absurd h.1 Za⟩⟩ ?_ ?_;rintro m ⟨o,_⟩ hm ⟨e,a,I⟩;simp only at e a I;subst e;obtain⟨i,H⟩:∃i:Nat,i=L.length-1-m:=⟨_,rfl⟩;rw[show(L.length:Int)-1-(m:Int)=(i:Int)from Za];have C:i<L.length:=Za;have W:i<s.l.length:=Za;have u:=S W;have X:idx s (i:Int)=some s.l[i]:=bB W;unfold c8.bn;rw[show decide ((i:Int)>=0)=true from decide_eq_true Za,bO,X,ζb];generalize s.l[i]=cs at u X;rw[Gt Za ab,ζb];have Y:cs.l∈ins w↔f i=true:=(U _).trans ⟨λ⟨j,z,D⟩=>by rw[<-rR B.nodup u,rR B.nodup z];exact D,λD=>⟨i,u,D⟩⟩;have J:=Gj (f:=f) F u;by_cases D:f i=true;rw[decide_eq_true (Y.2 D),bO,bf];refine⟨by show wrap .i64 ((i:Int)-1)=_;rw[jB _ Za Za];omega,a,λk d=>(I k d).trans ⟨λh=>⟨Za,h.2⟩,λh=>⟨?_,h.2⟩⟩⟩;have:k≠i:=λe=>by subst e;rw[h.2.no]at D;cases D
  omega;have Z:f i=false:=by simpa using D
  rw[decide_eq_false (λh=>D (Y.1 h)),bX,G,jB _ Za Za];have fin:∀(o2:Sl Zl)(Q:Fw ((Sl Zl)×Int) (Sl Zl) Empty->Prop),o2.l.length=L.length->(∀k,k<L.length->(iO o2 k=true↔(L.length-m<=k/\rQ L f k)\/(k=i/\i=L.length-1)))->
   (∀r:Sl Zl,r.l.length=L.length->(∀k,k<L.length->(iO r k=true↔L.length-(m+1)<=k/\rQ L f k))->Q (.n (r,(L.length:Int)-1-((m+1:Nat):Int))))->Wp (c8.J2 s w o2 (i:Int) t) Q:=λo2 Q k1 k2 hQ=>by
   refine(VC M E N B P n C u k1 (w:=w)).mono ?_;rintro _ ⟨r,rfl,r1,r2⟩;rw[show(i:Int)-1=(L.length:Int)-1-((m+1:Nat):Int)from Za]
   refine hQ r r1 λk d=>?_
   rw[r2 k d,k2 k d];constructor
   .rintro ((h|h)|h)
    .exact⟨Za,h.2⟩
    .rw[h.1];exact⟨Za,J.2 ⟨Z,.inl h.2⟩⟩
    have⟨e,j,z,v⟩:=h;rw[e];have O:=F i j _ u z;refine⟨Za,J.2 ⟨Z,.inr ⟨j,z,?_⟩⟩⟩
    rcases(k2 j O.2).1 v with h|h
    .exact h.2
    omega
   rintro⟨h,v⟩
   by_cases e:k=i
   .subst e;rcases(J.1 v).2 with h|⟨j,z,ad⟩
    .exact .inl (.inr ⟨rfl,h⟩)
    have O:=F _ j _ u z;exact .inr ⟨rfl,j,z,(k2 j O.2).2 (.inl ⟨Za,ad⟩)⟩
   exact .inl (.inl ⟨Za,v⟩)
  rw[bP];constructor;intro e;have e:i=L.length-1:=by have:(i:Int)=(L.length:Int)-1:=(by simpa using e);omega
  have⟨r,q1,R⟩:=put_eq (s:=o) (p:=i) (x:=true) (by rw[a];exact C);rw[kZ (by rw[a];exact C),ζb,q1,ζb];refine fin r _ (by rw[R,length_set,a]) (λk d=>?_) λr e1 e2=>⟨rfl,e1,e2⟩;rw[u7 (by rw[a];exact C) R,I k d];exact or_congr Iff.rfl ⟨λh=>⟨h,e⟩,λh=>h.1⟩;intro e;have e:i≠L.length-1:=λe2=>by simp at e;omega
  exact fin o _ a (λk d=>(I k d).trans ⟨.inl,λh=>h.elim id λh=>absurd h.2 e⟩) λr e1 e2=>⟨rfl,e1,e2⟩;rintro⟨o,_⟩ ⟨e,a,I⟩;simp only at e a I;subst e;unfold c8.bn;rw[show decide ((L.length:Int)-1-((L.length:Nat):Int)>=0)=false from decide_eq_false Za,bX,bf];show Wp ((Sl.jc o 0).bind λah=>_) _;have ae:0<s.l.length:=g▸l;have hz:idx s 0=some s.l[0]:=bB (i:=0) ae;have V:0<o.l.length:=by rw[a];exact l
  have af:Sl.jc o 0=some 0:=kZ (p:=0) V;rw[af,ζb,vc V,ζb,bP];have h0:=I 0 l;constructor;intro y;rw[hz,ζb];refine(Re M E N B P n a (mem_of_getElem? (S (i:=0) (g▸l)))).mono λq K=>?_;exact⟨λ_=>(h0.1 y).2,λ_=>K⟩;intro y;rw[bf];exact⟨λh=>(by cases h),λh=>by rw[h0.2 ⟨Za,h⟩]at y;cases y⟩
 refine T.mono λq K=>?_
 rw[bf,<-DT,<-K];cases q.2<;>simp
end
end Go.VE
namespace Go.VE
theorem Nd{t:Zj}(B:Small t)(m:Int):∃b,jN t m=some b:=by refine EL.get ?_;unfold jN jN.W1;refine eO t.procs.l.length (λi q=>q.2=(i:Int)) rfl ?_ ?_;rintro n ⟨c,_⟩ u e;simp only at e;subst e;have a:=B.1;unfold jN.bn;rw[iA u,bO,bB u,ζb,iF,ζb,iF,ζb];rw[yH (f:=λz=>(qI z).getD false) (λz _=>EL.ok ((bf _).2 trivial)) (B.2 _ (getElem_mem u)).1];rw[A4 (f:=λz=>(qO z).getD false) (λz _=>EL.ok ((bf _).2 trivial)) (B.2 _ (getElem_mem u)).2.1];simp only[ζb,iF];rw[bP];exact⟨λ_=>(bf _).2 ((bf _).2 trivial),λ_=>(bf _).2 (ct n Za)⟩;rintro⟨c,_⟩ e;simp only at e;subst e;unfold jN.bn;rw[hU,bX,bf];exact(bf _).2 trivial
theorem o5{a b:Zb}(h:ins a=ins b)(B:∀x∈ins a,x.length<1073741824)(G:a.l.length<1073741824):iR a b=some true:=by
 have z:b.l.length=a.l.length:=by rw[<-fL,<-h,fL]
 unfold iR;rw[show(len a==len b)=true from by simp[len,z],bO];refine Wp.eq ?_;unfold iR.W1;refine eO a.l.length (λi(q:Int)=>q=(i:Int)) rfl ?_ ?_;rintro i _ w rfl;have u:i<b.l.length:=by omega
 have e:a.l[i].l=b.l[i].l:=by have c:=nL w;rw[h,nL u]at c;exact(Option.some.inj c).symm
 unfold iR.bn;rw[iA w,bO,bB w,ζb,bB u,ζb,Eg (B _ (j8.2 ⟨_,getElem_mem w,rfl⟩)),ζb,decide_eq_true e,bO,bf];exact ct i Za;rintro _ rfl;unfold iR.bn;rw[hU,bX,bf];exact(bf _).2 rfl
theorem Gf{κ ν:Type}[DecidableEq κ]{m:Mo κ ν}{k B:κ}{v z:ν}:iD (kV m k v) B z=if B=k then v else iD m B z:=by unfold iD;induction m with|nil=>unfold kV jA;by_cases h:B=k<;>simp[h,jA]|cons a m C=>have⟨a,w⟩:=a;unfold kV;by_cases h:k=a;subst h;rw[if_pos rfl];by_cases u:B=k;simp[jA,u];simp[jA,u];rw[if_neg h];by_cases u:B=a;have:B≠k:=λe=>h (e▸u);simp[jA,u,Ne.symm h];simp only[jA,if_neg u];exact C
theorem EE:∀(l:Zx)(r:Zq),(l.foldl (λr n=>r.push (ofNat n.toNat)) r).data.toList=r.data.toList++l.map λn=>ofNat n.toNat
 |[],r=>Zc|a::l,r=>by rw[List.foldl_cons,EE l];show(r.data.push _).toList++_=_;simp
theorem Ea(l:Zx):(lF l).data.toList=l.map λn=>ofNat n.toNat:=by unfold lF;rw[EE];rfl
def Ju(l:Zx):Prop:=∀x∈l,0<=x/\x<256
theorem TF{a b:Int}(B:0<=a/\a<256)(G:0<=b/\b<256)(h:ofNat a.toNat=ofNat b.toNat):a=b:=by have:=congrArg UInt8.toNat h;simp[UInt8.toNat_ofNat']at this;omega
theorem FX:∀{a b:Zx},Ju a->Ju b->(a.map λn=>ofNat n.toNat)=(b.map λn=>ofNat n.toNat)->a=b
 |[],[],_,_,_=>rfl|[],_::_,_,_,h=>by simp at h|_::_,[],_,_,h=>by simp at h|x::a,y::b,G,J,h=>by simp only[map_cons,List.cons.injEq]at h;rw[TF (G x Zc) (J y Zc) h.1,FX (λz B=>G z (List.mem_cons_of_mem _ B)) (λz B=>J z (List.mem_cons_of_mem _ B)) h.2]
theorem PM{a b:Zx}(B:Ju a)(G:Ju b)(h:lF a=lF b):a=b:=FX B G (by rw[<-Ea,<-Ea,h])
theorem UN{c:Zg}(h:Ju c.l)(G:c.l.length<=8):iQ c=some (lF c.l):=by
 refine Wp.eq ?_;unfold iQ;have b:∃r,t_ (len c) (⟨0⟩:U8)=some r/\r.l=[]:=by unfold t_;rw[if_pos ⟨by simp[len],by simp[len];omega⟩];refine⟨_,rfl,?_⟩;split<;>rfl
 have⟨r,b,w⟩:=b;rw[b,ζb];unfold iQ.W1;refine eO c.l.length (λi(q:Sl U8×Int)=>q.2=(i:Int)/\q.1.l.map U8.v=c.l.take i) ⟨rfl,by rw[w];rfl⟩ ?_ ?_;rintro i ⟨o,_⟩ u ⟨e,a⟩;simp only at e a;subst e;have z:o.l.length=i:=by have:=congrArg List.length a;simp at this;omega
 unfold iQ.bn;rw[iA u,bO,bB u,ζb];have D:=h c.l[i] (getElem_mem u);have⟨B,k1,k2⟩:=jx (s:=o) (x:=(⟨wrap .u8 c.l[i]⟩:U8)) Za;rw[k1,ζb,bf];refine⟨ct i Za,?_⟩;show B.l.map U8.v=_;have C:wrap .u8 c.l[i]=c.l[i]:=by simp[wrap,IntKind.bits,signed];omega
 rw[k2,map_append,a,List.take_succ_eq_append_getElem u,map_singleton,C];rintro⟨o,_⟩ ⟨e,a⟩;simp only at e a;subst e;unfold iQ.bn;rw[hU,bX,bf];refine(bf _).2 ?_;unfold KV;rw[a,take_length]
section
variable{t:Zj}{A:bU 200 bt}{L:aY Zx}
theorem BA(G:VT t){c:Zx}(B:Cons t A c):Ju c:=λx z=>by
 obtain⟨p,w,rfl⟩:=mem_iff_getElem.1 z;have u:p<t.procs.l.length:=by rw[<-B.1.1];exact w
 have a:=B.1.2 p _ _ (ζd w) (ζd u);have C:=Ej G (ζd u);omega
def p8(A:bU 200 bt)(e:Zn):a_:=if e.kind=3 then(ag A e.message).from_ else⟨0,0⟩
structure Qj(t:Trace)(A:bU 200 bt)(x:dc):Prop where
 len:x.needs.l.length=t.procs.l.length
 row:∀(p:Nat)(P:cg)(s:Sl a_),t.procs.l[p]?=some P->x.needs.l[p]?=some s->s.l=P.events.l.map (p8 A)
theorem Lw(J:Small t)(O:VT t)(G:eR t (bQ t) A){p k:Nat}{e:Zn}(B:jw t p k e)(U:e.kind=3):∃b,uU t e=some ((ag A e.message).from_,b):=by
 have⟨q,j,y,L,S,T,y3,y4,y5⟩:=vk O G B U;have⟨Q,u,D⟩:=L;have W:=(ζe.1 u).1;have w:=(J.2 _ (mem_of_getElem? u)).1;unfold uU;rw[y4,mX,u,ζb];rw[Cm (f:=λz=>z.kind==2&&z.message==e.message) (λz _=>by unfold qL;rw[lQ];rfl) w,ζb];have C:place (λz:Zn=>z.kind==2&&z.message==e.message) Q.events.l=(j:Int):=by unfold place;rw[wI (i:=j) (x:=y) (λi Y z X=>?_) D (by simp[S,T])];refine Bool.eq_false_iff.2 λh=>?_;simp only[ζh,beq_iff_eq]at h;have I:=G.snd _ (eu.2 ⟨q,i,⟨Q,u,X⟩,rfl⟩:((⟨q,i+1⟩:a_),z)∈bQ t) h.1;simp only[h.2,y5]at I;have:=congrArg a_.index I;simp at this;omega
 rw[C,ct j (by have:=(ζe.1 D).1;omega),y5];exact⟨_,rfl⟩
theorem Ji(W:Small t)(Y:VT t)(d:eR t (bQ t) A):Wp (gP t) λq=>∃x,q=some x/\Qj t A x:=by
 have e:=Y.few;unfold gP gP.W1;refine eO t.procs.l.length (λp(q:Int×Zj×dc)=>q.1=(p:Int)/\t=q.2.1/\q.2.2.needs.l.length=p/\∀(r:Nat)(P:cg)(s:Sl a_),t.procs.l[r]?=some P->q.2.2.needs.l[r]?=some s->s.l=P.events.l.map (p8 A)) ⟨rfl,rfl,rfl,λr P s _ h=>by simp[Sl.l]at h⟩ ?_ ?_;rintro p ⟨_,_,x⟩ D ⟨e1,e2,a,C⟩;simp only at e1 e2 a C;subst e1;subst e2;unfold gP.bn;rw[iA D,bO,bB D,ζb];have G:=ζd D;have I:=(W.2 _ (getElem_mem D)).1;generalize t.procs.l[p]=P at G I;unfold gP.W2;refine eO P.events.l.length (λk(q:Sl a_×Int×Zj×dc)=>q.2.1=(k:Int)/\t=q.2.2.1/\x=q.2.2.2/\q.1.l=(P.events.l.take k).map (p8 A)) ⟨rfl,rfl,rfl,rfl⟩ ?_ ?_;rintro k ⟨l,_,_,_⟩ c ⟨e1,e2,e3,g⟩;simp only at e1 e2 e3 g;subst e1;subst e2;subst e3;have L:jw t p k P.events.l[k]:=⟨P,G,ζd c⟩;have X:l.l.length=k:=by rw[g];simp;omega
 have J:∀n:a_,n=p8 A P.events.l[k]->Wp (gP.J3 l t.procs (len t.procs) (p:Int) P.events (len P.events) (k:Int) t n x) λw=>match w with
  |.n u=>u.2.1=((k+1:Nat):Int)/\t=u.2.2.1/\x=u.2.2.2/\u.1.l=(P.events.l.take (k+1)).map (p8 A)|.x _=>False|.r _=>False:=λn O=>by
  unfold gP.J3;have⟨o,k1,k2⟩:=jx (s:=l) (x:=n) Za
  rw[k1,ζb,bf];refine⟨ct k Za,rfl,rfl,?_⟩
  show o.l=_;rw[k2,g,O,List.take_succ_eq_append_getElem c,map_append,map_singleton]
 have J2:∀n:a_,n=p8 A P.events.l[k]->Wp (gP.J3 l t.procs (len t.procs) (p:Int) P.events (len P.events) (k:Int) t n x) λw=>∃u,w=.n u/\u.2.1=((k+1:Nat):Int)/\t=u.2.2.1/\x=u.2.2.2/\u.1.l=(P.events.l.take (k+1)).map (p8 A):=λn O=>(J n O).mono λw S=>by cases w with|n u=>exact⟨u,rfl,S⟩|x _=>exact S.elim|r _=>exact S.elim
 unfold gP.bS;rw[iA c,bO,bB c,ζb,bP];constructor;intro z;have z:P.events.l[k].kind=3:=by simpa using z
 have⟨b,Z⟩:=Lw W Y d L z;rw[Z,ζb];refine(J2 _ (by unfold p8;rw[if_pos z])).mono ?_;rintro _ ⟨u,rfl,h⟩;exact h;intro z;have z:¬P.events.l[k].kind=3:=by simpa using z
 refine(J2 _ (by unfold p8;rw[if_neg z])).mono ?_;rintro _ ⟨u,rfl,h⟩;exact h;rintro⟨l,_,_,_⟩ ⟨e1,e2,e3,g⟩;simp only at e1 e2 e3 g;subst e1;subst e2;subst e3;unfold gP.bS;rw[hU,bX,bf];have⟨o,k1,k2⟩:=jx (s:=x.needs) (x:=l) Za;show Wp ((fP x.needs l).bind _) _;rw[k1,ζb,bf];refine⟨ct p Za,rfl,by show o.l.length=_;rw[k2];simp[a],λr Q s T B=>?_⟩;replace B:o.l[r]?=some s:=B;rw[k2]at B;by_cases f:r<p;rw[List.getElem?_append_left Za]at B;exact C r Q s T B;have U:r=p:=by have:=(ζe.1 B).1;simp at this;omega
 subst U;rw[List.getElem?_append_right Za,a,Nat.sub_self]at B;cases B;rw[G]at T;cases T;rw[g,take_length];rintro⟨_,_,x⟩ ⟨e1,e2,a,C⟩;simp only at e1 e2 a C;subst e1;subst e2;unfold gP.bn;rw[hU,bX,bf];exact(bf _).2 ⟨x,rfl,a,C⟩
theorem Uk(F:Small t)(f:VT t)(g:eR t (bQ t) A)(B:dF t A L){x:dc}(G:Qj t A x){c:Zg}(Y:Cons t A c.l){p:Nat}(d:p<c.l.length):qM x c (p:Int)=some (decide (bump c.l p 1∈L)):=by
 have H:=Y.1.1;have I:p<t.procs.l.length:=Za;have J:p<x.needs.l.length:=by rw[G.len];exact I
 have D:=ζd I;have O:=ζd d;have l:=Y.1.2 p _ _ O D;have Z:=G.row p _ _ D (ζd J);have S:idx x.needs (p:Int)=some x.needs.l[p]:=bB J;have m:idx c (p:Int)=some c.l[p]:=bB d;refine Wp.eq ?_;unfold qM;rw[show decide ((p:Int)<0)=false from decide_eq_false Za,bX,show decide ((p:Int)>=(len c))=false from decide_eq_false (by simp[len];omega),ζb,bX,m,ζb,S,ζb,ζb,Am O];generalize x.needs.l[p]=s at Z S;generalize c.l[p]=a at *;generalize t.procs.l[p]=P at *;have n:s.l.length=P.events.l.length:=by rw[Z];simp
 rw[bP];constructor;intro u;have u:(a:Int)>=s.l.length:=by simpa[len]using u
 rw[bf];refine(decide_eq_false λh=>?_).symm;have h:=((B.mem _).1 h).1.2 p (a+1) P (by rw[List.getElem?_set_self d]) D;omega;intro u;have u:¬(a:Int)>=s.l.length:=by simpa[len]using u
 have w:a.toNat<P.events.l.length:=Za;have o:jw t p a.toNat P.events.l[a.toNat]:=⟨P,D,ζd w⟩;have T:=Cons.up f g Y D O Za;have C:=B.mem (c.l.set p (a+1));have U:GN t A c.l p↔(P.events.l[a.toNat].kind=3->∃b,c.l[(ag A P.events.l[a.toNat].message).from_.proc.toNat]?=some b/\(ag A P.events.l[a.toNat].message).from_.index<=b):=by constructor;rintro⟨Q,e,x,X,G,i,z⟩;rw[D]at X;cases X;rw[O]at G;cases G;rw[ζd w]at i;cases i;exact z;intro z;exact⟨P,_,a,D,O,ζd w,z⟩
 rw[ζb,ζb,Ht l.1,Z,List.getElem?_map,ζd w];generalize P.events.l[a.toNat]=e at *;show Wp ((bp ((p8 A e).index==0) (some true) ((idx c (p8 A e).proc).bind λr=>some (decide ((p8 A e).index<=r))):aZ Zl).bind λv=>some v) _;unfold p8;by_cases z:e.kind=3;rw[if_pos z];have⟨q,j,k,_,_,y,Q,X,_⟩:=tE f g o z;have W:q<c.l.length:=by have:=(ζe.1 X).1;omega
 rw[k];simp only;rw[show(((j:Int)+1)==0)=false from by simp;omega,bX,bB W,ζb,ζb,bf];refine decide_eq_decide.2 ?_;rw[C,<-T,U,k];simp only[Int.toNat_natCast,ζd W];constructor;intro h _;exact⟨_,rfl,h⟩;intro h;have⟨b,E,h⟩:=h z;cases E;exact h;rw[if_neg z];simp only;rw[show((0:Int)==0)=true from rfl,bO,ζb,bf];refine(decide_eq_true ?_).symm;rw[C,<-T,U];exactλh=>absurd h z
theorem SN(G:Small t)(J:VT t){c:Zg}(O:Cons t A c.l){p:Nat}(B:p<c.l.length):∃d:Zg,vn c (p:Int)=some d/\d.l=bump c.l p 1:=by have u:=AN G J O;have Q:=u.1;have z:=ζd B;have C:=u.2 c.l[p] (getElem_mem B);unfold vn;have⟨r,D,w⟩:=ye (c:=c) Za Za;rw[D,ζb,kZ (by rw[w];exact B),ζb];unfold Sl.get;rw[w,z,ζb,ζb,jB _ Za Za];have⟨d,I,L⟩:=put_eq (s:=r) (p:=p) (x:=c.l[p]+1) (by rw[w];exact B);rw[I];exact⟨d,rfl,by rw[L,w,Am z]⟩
end
def vY(L D:aY Zx)(i:Nat):Zl:=match L[i]?with
 |some c=>decide (c∈D)|none=>false
theorem Cb{L D:aY Zx}{i:Nat}{c:Zx}(h:L[i]?=some c):vY L D i=decide (c∈D):=by unfold vY;rw[h]
section
variable{t:Zj}{A:bU 200 bt}{L:aY Zx}
theorem Kq(G:VT t)(B:dF t A L){c:Zg}(hc:c.l∈L):iQ c=some (lF c.l):=by have u:=G.few;have:=B.len hc;exact UN (BA G ((B.mem _).1 hc)) Za
theorem Gd(G:VT t)(B:dF t A L){c d:Zx}(hc:c∈L)(J:d∈L):lF c=lF d↔c=d:=⟨λh=>PM (BA G ((B.mem _).1 hc)) (BA G ((B.mem _).1 J)) h,λh=>by rw[h]⟩
theorem Mq(v:Small t)(K:dV t=some true)(G:VT t)(y:eR t (bQ t) A)(B:dF t A L)(h5:L.length<=5000)(hN:0<L.length){r:Zb}(hc:lM t=some (r,0))(M:ins r=L){l:Zb}(hl:l.l.length<=5000)(N:∀x∈l.l,x.l∈L):
 Wp (dH t l) λq=>q.2=0/\∃m,q.1=⟨some m⟩/\∀(i:Nat)c,L[i]?=some c->(iD m (lF c) false=true↔rQ L (vY L (ins l)) i):=by
 have P:=wG.of B;have R:=G.few;have V:r.l.length=L.length:=by rw[<-fL,M]
 have ae:∀{i:Nat}(I:i<r.l.length),L[i]?=some r.l[i].l:=λI=>by rw[<-M];exact nL I
 have J:(len r:Int)=((L.length:Nat):Int):=by show((r.l.length:Nat):Int)=_;rw[V]
 unfold dH;rw[K,ζb,bO,show decide ((len l)>5000)=false from decide_eq_false (by simp[len];omega),bX]
 rw[si (f:=λ_=>false) (λx E=>by
  have⟨z,F,O⟩:=jC.eq (Qs v K G y x);have:z=true:=O.2 ((B.mem _).1 (N x E));unfold mL;rw[F,this];rfl) Za,ζb,show(l.l.any λ_=>false)=false from Zc,bX]
 unfold uj;rw[hc,ζb,ζb];simp only;rw[show((0:Int)==0)=true from rfl,bO,dU];refine(Ji v G y).mono λq⟨x,hq,E⟩=>?_
 subst hq;rw[ζb];unfold dH.W1;refine eO l.l.length (λj(q:Int×Mo ByteArray Zl)=>q.1=(j:Int)/\∀c∈L,(iD q.2 (lF c) false=true↔c∈(l.l.take j).map Sl.l)) ⟨rfl,λc hc=>by simp[iD,jA]⟩ ?_ ?_
 .rintro j ⟨_,m⟩ hj ⟨e,a⟩;simp only at e a;subst e;unfold dH.bn;have S:=N _ (getElem_mem hj);rw[iA hj,bO,bB hj,ζb,Kq G B S,ζb,bf];refine⟨ct j Za,λc hc=>?_⟩
  show iD (kV m (lF l.l[j].l) true) (lF c) false=true↔_;rw[Gf,List.take_succ_eq_append_getElem hj,map_append,mem_append,map_singleton,mem_singleton,<-a c hc]
  by_cases e:c=l.l[j].l
  .rw[if_pos (by rw[e])];simp[e]
  rw[if_neg (λh=>e ((Gd G B hc S).1 h))];simp[e]
 rintro⟨_,n⟩ ⟨e,a⟩;simp only at e a;subst e;unfold dH.bn;rw[hU,bX,bf];show Wp (dH.W2 r x _ n []) _;have T:∀(i:Nat)c,L[i]?=some c->iD n (lF c) false=vY L (ins l) i:=λi c I=>by rw[Cb I,Bool.eq_iff_iff,a c (mem_of_getElem? I),take_length,decide_eq_true_iff];rfl
 rw[J,jB _ Za Za]
 unfold dH.W2;refine eO L.length (λm(q:Int×Mo ByteArray Zl)=>q.1=(L.length:Int)-1-(m:Int)/\∀(k:Nat)c,L[k]?=some c->L.length-m<=k->(iD q.2 (lF c) false=true↔rQ L (vY L (ins l)) k)) ⟨Zc,λk c a C=>absurd (ζe.1 a).1 Za⟩ ?_ ?_
 .rintro m ⟨_,good⟩ ai ⟨e,C⟩;simp only at e C;subst e;obtain⟨i,I⟩:∃i:Nat,i=L.length-1-m:=⟨_,rfl⟩;rw[show(L.length:Int)-1-(m:Int)=(i:Int)from Za]
  have U:i<r.l.length:=Za
  have w:=ae U;have W:idx r (i:Int)=some r.l[i]:=bB U;unfold dH.bS;rw[show decide ((i:Int)>=0)=true from decide_eq_true Za,bO,W,ζb,J,jB _ Za Za]
  generalize r.l[i]=u at w W;have Q:=mem_of_getElem? w;have H:=(B.mem _).1 Q;have aj:u.l.length<=8:=by rw[H.1.1];exact R
  have af:=Gj (f:=vY L (ins l)) P w;unfold dH.W3;refine eO u.l.length (λp(q:Zl×Int)=>q.2=(p:Int)/\(q.1=true↔i=L.length-1\/∃X∈ps L u.l p,rQ L (vY L (ins l)) (L.idxOf (bump u.l X 1)))) ⟨rfl,?_⟩ ?_ ?_
  .show ((i:Int)==(L.length:Int)-1)=true↔_;rw[beq_iff_eq];exact⟨λh=>.inl Za,λh=>h.elim (λh=>Za) λ⟨p,h,_⟩=>by have:=(HD.1 h).1;omega⟩
  .rintro p ⟨on,_⟩ hp ⟨e,g⟩;simp only at e g;subst e;unfold dH.dN;rw[show(len u:Int)=(u.l.length:Int)from rfl,iA (s:=u) hp,bO,Uk v G y B E H hp,ζb];have⟨d,hd,Y⟩:=SN v G H hp;have Z:∃z:Zl,(bp (decide (bump u.l p 1∈L)) ((vn u (p:Int)).bind λaa=>(iQ aa).bind λab=>some (iD good ab false)) (some false):aZ Zl)=some z/\(z=true↔bump u.l p 1∈L/\rQ L (vY L (ins l)) (L.idxOf (bump u.l p 1))):=by
    by_cases D:bump u.l p 1∈L
    .have ah:d.l∈L:=by rw[Y];exact D
     rw[decide_eq_true D,bO,hd,ζb,Kq G B ah,ζb,Y];have b:=P i _ _ w (DP.2 ⟨p,hp,D,rfl⟩);exact⟨_,rfl,(C _ _ (u6 D) Za).trans ⟨λh=>⟨D,h⟩,λh=>h.2⟩⟩
    rw[decide_eq_false D,bX];exact⟨_,rfl,λh=>(by cases h),λh=>absurd h.1 D⟩
   have⟨z,F,O⟩:=Z;rw[F,ζb,iF,ζb,bf];refine⟨ct p Za,?_⟩
   show(on||z)=true↔_;rw[Bool.or_eq_true,g,O,DG];constructor
   .rintro ((h|⟨X,h,k⟩)|⟨h,k⟩)
    .exact .inl h
    .exact .inr ⟨X,List.mem_append_left _ h,k⟩
    exact .inr ⟨p,by rw[if_pos h];simp,k⟩
   rintro(h|⟨X,h,k⟩)
   .exact .inl (.inl h)
   rcases mem_append.1 h with h|h
   .exact .inl (.inr ⟨X,h,k⟩)
   split at h
   next D=>rw[mem_singleton.1 h]at k;exact .inr ⟨D,k⟩
   simp at h
  rintro⟨on,_⟩ ⟨e,g⟩;simp only at e g;subst e;unfold dH.dN;rw[show(len u:Int)=(u.l.length:Int)from rfl,hU (s:=u),bX,bf];show Wp ((iQ u).bind _) _;rw[Kq G B Q,ζb,ζb,lQ,ζb,bf,T i _ w];refine⟨by show wrap .i64 ((i:Int)-1)=_;rw[jB _ Za Za];omega,λk c b ak=>?_⟩
  show iD (kV good (lF u.l) (on&& !vY L (ins l) i)) (lF c) false=true↔_;rw[Gf]
  by_cases e:k=i
  .subst e;rw[w]at b;cases b;rw[if_pos rfl,af,ζh,g,Bool.not_eq_true'];rw[and_comm];refine and_congr Iff.rfl (or_congr Iff.rfl ?_);rw[Nt];exact⟨λ⟨p,h,o⟩=>⟨_,mem_map.2 ⟨p,h,rfl⟩,o⟩,λ⟨j,h,o⟩=>by obtain⟨p,C,rfl⟩:=mem_map.1 h;exact⟨p,C,o⟩⟩
  rw[if_neg (λh=>e ?_)]
  .exact C k c b Za
  have:=(Gd G B (mem_of_getElem? b) Q).1 h;rw[<-rR B.nodup b,this,rR B.nodup w]
 rintro⟨_,good⟩ ⟨e,C⟩;simp only at e C;subst e;unfold dH.bS;rw[show decide ((L.length:Int)-1-((L.length:Nat):Int)>=0)=false from decide_eq_false Za,bX,bf]
 refine(bf _).2 ⟨rfl,good,rfl,λi c I=>C i c I Za⟩
theorem eC.le{a b:Zx}(h:eC a b):a.sum<=b.sum:=by refine Classical.byContradiction λu=>eC.Hl a (h.tr (eC.sum Za))
theorem Lt(B:dF t A L):L[0]?=some (replicate t.procs.l.length 0):=by
 have I:replicate t.procs.l.length (0:Int)∈L:=(B.mem _).2 xU;have⟨i,D,e⟩:=mem_iff_getElem.1 I;by_cases a:i=0;subst a;rw[ζd D,e];exfalso;have w:0<L.length:=Za;have u:=List.pairwise_iff_getElem.1 B.srt 0 i w D Za;rw[e]at u;have G:=(B.mem _).1 (getElem_mem w);have J:=G.1.sum.1;have C:=u.le;rw[show(replicate t.procs.l.length (0:Int)).sum=0 from Zc]at C;have b:=(O1 (t:=t) (A:=A) (z:=.row (replicate t.procs.l.length 0)) rfl L[0]).2 ⟨G,by simp;omega⟩;have:L[0]=replicate t.procs.l.length 0:=by simpa[ins,Sl.l]using b
 rw[this]at u;exact eC.Hl _ u
theorem Db(J:Small t)(b:dV t=some true)(G:VT t)(O:eR t (bQ t) A)(B:dF t A L)(U:L.length<=5000)(W:0<L.length){r:Zb}(hc:lM t=some (r,0))(d:ins r=L){l:Zb}(Y:l.l.length<=5000)(e:∀x∈l.l,x.l∈L):
 Wp (ko t l) λq=>q.2=0/\(q.1=true↔¬rQ L (vY L (ins l)) 0):=by
 have S:=G.few;unfold ko;rw[dU];refine(Mq J b G O B U W hc d Y e).mono λq⟨f,m,w,z⟩=>?_
 rw[f,w,show((0:Int)==0)=true from rfl,bO,dU];refine(Ji J G O).mono λo⟨x,C,D⟩=>?_
 subst C;rw[ζb];have u:nG x=some (.row (replicate t.procs.l.length 0)):=by unfold nG od;have:(len x.needs:Int)=(t.procs.l.length:Int):=(by show((x.needs.l.length:Nat):Int)=_;rw[D.len]);rw[this,if_pos ⟨Za,Za⟩];rfl
 have I:(nG x).bind Sl.whole=some (.row (replicate t.procs.l.length 0)):=by rw[u];rfl
 have a:=Lt B
 first|rw[I]|rw[u]
 rw[ζb,Kq G B (c:=.row (replicate t.procs.l.length 0)) (mem_of_getElem? a),ζb,bf];refine⟨rfl,?_⟩;have Q:=z 0 _ a;show(!iD m (lF (replicate t.procs.l.length 0)) false)=true↔_;rw[<-Q];cases iD m (lF (replicate t.procs.l.length 0)) false<;>simp
end
section
variable{P:aY Zx->Prop}{L D:aY Zx}
open Classical in
noncomputable def thn(P:aY Zx->Prop)(D:aY Zx):Nat->aY Zx
 |0=>[]|n+1=>thn P D n++if P (thn P D n++D.drop (n+1))then[]else D[n]?.toList
def pq(L D:aY Zx):Prop:=¬(Rc L (vY L D) (L.length-1)/\vY L D (L.length-1)=false)
theorem Jf{n:Nat}(h:P (thn P D n++D.drop (n+1))):thn P D (n+1)=thn P D n:=by show _++_=_;rw[if_pos h,append_nil]
theorem M7{n:Nat}{c:Zx}(h:¬P (thn P D n++D.drop (n+1)))(hc:D[n]?=some c):thn P D (n+1)=thn P D n++[c]:=by show _++_=_;rw[if_neg h,hc];rfl
theorem Al{c:Zx}:∀{n:Nat},c∈thn P D n->c∈D.take n
 |0,h=>by cases h|n+1,h=>by rw[take_succ];rcases mem_append.1 (show c∈thn P D n++_ from h)with h|h;exact List.mem_append_left _ (Al h);split at h;simp at h;exact List.mem_append_right _ h
theorem Dw:∀n:Nat,(thn P D n).length<=n
 |0=>le_refl _|n+1=>by have:=Dw n;show(thn P D n++_).length<=_;rw[ζi];split;simp;omega;have:D[n]?.toList.length<=1:=(by cases D[n]?<;>simp);omega
theorem RP{b:Sl Zl}(B:b.l.length=L.length)(h:∀(k:Nat)c,L[k]?=some c->(iO b k=true↔c∈D)):iO b=vY L D:=by funext k;cases a:L[k]?with|none=>unfold vY iO;rw[a,List.getElem?_eq_none (by have:=List.getElem?_eq_none_iff.1 a;omega)];rfl|some c=>rw[Cb a,Bool.eq_iff_iff,h k c a,decide_eq_true_iff]
theorem Sp{r s:Sl Zl}{k:Nat}(h:k<r.l.length)(B:s.l=r.l.set k false)(j:Nat):iO s j=true↔iO r j=true/\j≠k:=by unfold iO;rw[B,List.getElem?_set];by_cases e:k=j;subst e;simp[h];rw[if_neg e];simp[Ne.symm e]
theorem SJ{l:Zb}{c:Zg}(B:l.l.length<1073741824)(G:∀x∈l.l,x.l.length<1073741824):kI l c=some (decide (c.l∈ins l)):=(rfl:kI l c=gA l c).trans (Gt B G)
end
section
variable{t:Zj}{A:bU 200 bt}{L:aY Zx}
theorem Js(J:Small t)(O:VT t)(U:eR t (bQ t) A)(B:dF t A L)(W:0<L.length)(Y:L.length<=5000){s w:Zb}(a:ins s=L)(d:w.l.length<=5000)(G:∀c∈ins w,c∈L):
 Wp (rE t s w) λb=>b=true↔pq L (ins w):=
 PE J O U B W Y a d λc=>⟨λh=>⟨_,u6 (G c h),by rw[Cb (u6 (G c h))];exact decide_eq_true h⟩,λ⟨i,u,h⟩=>by rw[Cb u]at h;exact of_decide_eq_true h⟩
theorem Rr(v:Small t)(y:VT t)(E:eR t (bQ t) A)(O:dF t A L)(F:0<L.length)(H:L.length<=5000){s l:Zb}(U:ins s=L)(M:l.l.length<1073741824)(N:∀x∈l.l,x.l.length<1073741824){D:aY Zx}(W:D=L.filter λc=>decide (c∈ins l)):
 Wp (d_ t s l) λq=>ins q=thn (pq L) D D.length:=by
 have d:s.l.length=L.length:=by rw[<-fL,U]
 have T:∀{i:Nat}(J:i<s.l.length),L[i]?=some s.l[i].l:=λJ=>by rw[<-U];exact nL J
 have ab:D.length<=L.length:=by rw[W];exact List.length_filter_le _ _
 have C:∀c∈D,c∈L:=λc h=>by rw[W]at h;exact(mem_filter.1 h).1
 unfold d_ d_.W1;refine eO s.l.length (λi(q:Zb×Int)=>q.2=(i:Int)/\q.1.l.length<=i/\ins q.1=(L.take i).filter λc=>decide (c∈ins l)) ⟨rfl,le_refl _,rfl⟩ ?_ ?_
 .rintro i ⟨o,_⟩ J ⟨e,f,u⟩;simp only at e f u;subst e;unfold d_.bn;rw[iA J,bO,bB J,ζb,SJ M N,ζb,bP];have j:L.take (i+1)=L.take i++[s.l[i].l]:=by rw[take_succ,T J];rfl
  constructor
  .intro X;have⟨k,k1,k2⟩:=jx (s:=o) (x:=s.l[i]) Za
   rw[ζb,k1,ζb,bf];refine⟨ct i Za,by show k.l.length<=_;rw[k2];simp;omega,?_⟩
   show ins k=_;rw[j,filter_append,<-u,List.filter_cons_of_pos (p:=λc=>decide (c∈ins l)) X]
   unfold ins;rw[k2];simp
  intro X;rw[bf];refine⟨ct i Za,by show o.l.length<=_;omega,?_⟩
  show ins o=_;rw[j,filter_append,<-u,List.filter_cons_of_neg (p:=λc=>decide (c∈ins l)) (by rw[X];simp)];simp
 rintro⟨o,_⟩ ⟨e,f,u⟩;simp only at e f u;subst e;unfold d_.bn;rw[hU,bX,bf];rw[d,take_length,<-W]at u;show Wp (d_.W2 s o 0 t) _;unfold d_.W2;refine eO D.length (λn(q:Zb×Int)=>q.2=((thn (pq L) D n).length:Int)/\ins q.1=thn (pq L) D n++D.drop n) ⟨rfl,u⟩ ?_ ?_
 .rintro n ⟨o,_⟩ hn ⟨e,u⟩;simp only at e u;subst e;have ad:=Dw (P:=pq L) (D:=D) n;have Y:=λc=>Al (P:=pq L) (D:=D) (n:=n) (c:=c)
  have Z:D.drop n=D[n]::D.drop (n+1):=List.drop_eq_getElem_cons hn;have G:thn (pq L) D n++D[n]::D.drop (n+1)=ins o:=by rw[<-Z,u]
  have Q:=Jf (P:=pq L) (D:=D) (n:=n);have S:=M7 (P:=pq L) (D:=D) (n:=n) (hc:=ζd hn);generalize thn (pq L) D n=K at *;have ae:o.l.length=K.length+(D.length-n):=by rw[<-fL,<-G,ζi,length_cons,length_drop];omega
  unfold d_.bS;have⟨a,a1,g⟩:=rO o K.length Za
  have⟨b,R,m⟩:=tj (s:=(Sl.row []:Zb)) (x:=a) (by rw[g];show 0+_<=_;rw[List.length_take];omega)
  have⟨c,V,r⟩:=A1 o (K.length+1) Za
  have aa:b.l.length=K.length:=by rw[m,g];show([]++_).length=_;rw[List.nil_append,List.length_take];omega
  have⟨w,w1,w2⟩:=tj (s:=b) (x:=c) (by rw[aa,r,length_drop];omega)
  have B:ins w=K++D.drop (n+1):=by have:ins w=(ins o).take K.length++(ins o).drop (K.length+1):=(by unfold ins;rw[w2,m,g,r,map_append,map_append,List.map_take,List.map_drop];rfl);rw[this,<-G,List.take_left,List.drop_append,List.drop_of_length_le Za,List.nil_append,show K.length+1-K.length=1 from Za];rfl
  have af:w.l.length<=D.length:=by rw[<-fL,B,ζi,length_drop];omega
  have⟨z,hz,I⟩:=Js v y E O F H U (w:=w) Za λc hc=>by rw[B]at hc;exact(mem_append.1 hc).elim (λh=>C _ (List.mem_of_mem_take (Y c h))) λh=>C _ (List.mem_of_mem_drop h)
  rw[B]at I;rw[iA (s:=o) Za,bO,a1,ζb,R,ζb,ct _ Za,V,ζb,w1,ζb,hz,ζb,bP]
  constructor
  .intro e;rw[bf];have e:=Q (I.1 e);exact⟨by show _=((thn (pq L) D (n+1)).length:Int);rw[e],by show ins w=_;rw[e,B]⟩
  intro e;rw[bf];have e:=S λh=>by rw[I.2 h]at e;cases e
  exact⟨by show((K.length+1:Nat):Int)=_;rw[e,ζi];rfl,by show ins o=_;rw[e,<-G];simp⟩
 rintro⟨o,_⟩ ⟨e,u⟩;simp only at e u;subst e;rw[List.drop_length,append_nil]at u;unfold d_.bS;rw[show((thn (pq L) D D.length).length:Int)=(o.l.length:Int)from by rw[<-fL,u],hU,bX,bf]
 exact(bf _).2 u
theorem RA(hS:Small t)(hv:dV t=some true)(F:VT t)(hM:eR t (bQ t) A)(B:dF t A L)(H:L.length<=5000)(hN:0<L.length)(K:∀c∈L,0<c.length/\c.length<=8){r:Zb}(hc:lM t=some (r,0))(hr:ins r=L){l:Zb}(hl:l.l.length<=5000)(hm:∀x∈l.l,x.l∈L){D:aY Zx}(y:D=L.filter λc=>decide (c∈ins l)):
 Wp (c_ t l) λq=>(pq L (ins l)->q.2=0/\ins q.1=thn (pq L) D D.length)/\(¬pq L (ins l)->q=(.nil,7)):=by
 unfold c_;rw[dU];refine(Db hS hv F hM B H hN hc hr hl hm).mono λz⟨z1,M⟩=>?_
 rw[z1,show((0:Int)==0)=true from rfl,bO,bP];rw[DT]at M;refine⟨λe=>?_,λe=>(bf _).2 ⟨λh=>(by rw[M.2 h]at e;cases e),λ_=>rfl⟩⟩
 have ai:=M.1 e;have⟨q0,ao,x,hx,E⟩:=Po hS F B H hc hr;subst hx;have hg:=wG.of B;have aj:x.list.l.length=L.length:=by rw[<-fL,E.list]
 have ap:∀{i:Nat}(S:i<x.list.l.length),L[i]?=some x.list.l[i].l:=λS=>by rw[<-E.list];exact nL S
 have Z:(len x.list:Int)=((L.length:Nat):Int):=by show((x.list.l.length:Nat):Int)=_;rw[aj]
 rw[ao,ζb];simp only;rw[show((0:Int)==0)=true from rfl,bO,ζb,Z,DI Za,ζb]
 suffices h:Wp (c_.W1 x (.row (replicate L.length false)) l (len l) 0) λq=>q.2=0/\ins q.1=thn (pq L) D D.length from h.mono λq h=>⟨λ_=>h,λh=>absurd ai h⟩
 unfold c_.W1;refine eO l.l.length (λi(q:Sl Zl×Int)=>q.2=(i:Int)/\q.1.l.length=L.length/\∀(k:Nat)c,L[k]?=some c->(iO q.1 k=true↔c∈(l.l.take i).map Sl.l)) ⟨rfl,by simp[Sl.l],λk c _=>by rw[DL];simp⟩ ?_ ?_
 .rintro i ⟨b,_⟩ S ⟨e,a,I⟩;simp only at e a I;subst e;have T:=hm _ (getElem_mem S);have U:iD (uz x.index) (mD 8 l.l[i]) 0=((L.idxOf l.l[i].l:Nat):Int):=by
   have:=Gr (m:=L.length) (λc h=>B.len h) F.few (B.len T)
   rw[take_length,if_pos T,<-IP]at this;rw[E.index];show(jA _ (uH L L.length)).getD 0=_;rw[this];rfl
  have N:=List.idxOf_lt_length_of_mem T;have⟨v,k1,k2⟩:=put_eq (s:=b) (p:=L.idxOf l.l[i].l) (x:=true) (by rw[a];exact N)
  unfold c_.bn jV;rw[iA S,bO,bB S,ζb,ζb,U,kZ (by rw[a];exact N),ζb,k1,ζb,bf]
  refine⟨ct i Za,by show v.l.length=_;rw[k2,length_set,a],λk c f=>?_⟩
  rw[u7 (by rw[a];exact N) k2,I k c f,List.take_succ_eq_append_getElem S,map_append,mem_append,map_singleton,mem_singleton,<-G9 B T,f,Option.some_inj]
 rintro⟨b,_⟩ ⟨e,a,I⟩;simp only at e a I;subst e;rw[take_length]at I;unfold c_.bn;rw[hU,bX,bf];show Wp (c_.W2 x b .nil x.list (len x.list) 0) _;have W:∀i,D.take ((L.take i).filter λc=>decide (c∈ins l)).length=(L.take i).filter λc=>decide (c∈ins l):=λi=>by
  conv=>lhs;rw[y,<-take_append_drop i L,filter_append,take_append_drop i L]
  exact List.take_left
 have w:∀i,D.drop ((L.take i).filter λc=>decide (c∈ins l)).length=(L.drop i).filter λc=>decide (c∈ins l):=λi=>by
  conv=>lhs;rw[y,<-take_append_drop i L,filter_append,take_append_drop i L]
  exact List.drop_left
 unfold c_.W2;refine eO x.list.l.length (λi(q:Sl Zl×Zb×Int×Int)=>q.2.2.2=(i:Int)/\q.2.2.1=len x.list/\q.1.l.length=L.length/\q.2.1.l.length<=i/\∃n,n=((L.take i).filter λc=>decide (c∈ins l)).length/\(∀(k:Nat)c,L[k]?=some c->(iO q.1 k=true↔c∈thn (pq L) D n++D.drop n))/\ins q.2.1=thn (pq L) D n)
  ⟨rfl,rfl,a,le_refl _,0,rfl,λk c f=>(I k c f).trans ?_,rfl⟩ ?_ ?_
 .show _↔c∈D;rw[y,mem_filter,decide_eq_true_iff];exact⟨λh=>⟨mem_of_getElem? f,h⟩,λh=>h.2⟩
 .rintro i ⟨b,o,_,_⟩ S ⟨e,e2,a,h3,n,j,I,g⟩;simp only at e e2 a I h3 g;subst e;subst e2;have u:i<L.length:=by omega
  have C:=ap S;have X:=mem_of_getElem? C;have U:idx x.list (i:Int)=some x.list.l[i]:=bB S;have R:L.drop i=x.list.l[i].l::L.drop (i+1):=by
   rw[List.drop_eq_getElem_cons u];rw[ζd u]at C;rw[Option.some.inj C]
  have V:L.take (i+1)=L.take i++[x.list.l[i].l]:=by rw[take_succ,C];rfl
  generalize x.list.l[i]=J at C X U R V;have ae:=B.nodup;rw[<-take_append_drop i L,R]at ae;have aq:J.l∉L.take i:=λh=>(List.nodup_append.1 ae).2.2 _ h _ (List.mem_cons_self) rfl
  have ar:J.l∉L.drop (i+1):=(List.nodup_cons.1 (List.nodup_append.1 ae).2.1).1;have W:=W i;have w:=w i;rw[<-j]at W w;have au:J.l∉thn (pq L) D n:=λh=>by
   have:=Al h;rw[W]at this;exact aq (mem_filter.1 this).1
  have ak:∀(k:Nat)c,L[k]?=some c->(k=i↔c=J.l):=λk c f=>by
   rw[<-rR B.nodup C,<-G9 B X,f,Option.some_inj]
  have af:=I i _ C;unfold c_.bS;rw[Z,show decide ((i:Int)<((L.length:Nat):Int))=true from decide_eq_true Za,bO,U,ζb,kZ (by rw[a];exact u),ζb,vc (by rw[a];exact u),ζb,bP]
  by_cases hp:J.l∈ins l
  .have O:decide (J.l∈ins l)=true:=decide_eq_true hp;rw[R,List.filter_cons_of_pos (p:=λc=>decide (c∈ins l)) O]at w
   have Y:((L.take (i+1)).filter λc=>decide (c∈ins l)).length=n+1:=by rw[V,filter_append,ζi,<-j,List.filter_cons_of_pos (p:=λc=>decide (c∈ins l)) O];rfl
   have av:D[n]?=some J.l:=by
    have:(D.drop n)[0]?=some J.l:=by rw[w];rfl
    rw[List.getElem?_drop]at this;exact this
   have al:D.drop (n+1)=(L.drop (i+1)).filter λc=>decide (c∈ins l):=by
    rw[<-List.drop_drop,w];rfl
   have ay:J.l∉D.drop (n+1):=λh=>by rw[al]at h;exact ar (mem_filter.1 h).1
   have aw:D.drop n=J.l::D.drop (n+1):=by rw[w,al]
   rw[aw]at I af;have am:=Jf (P:=pq L) (D:=D) (n:=n);have an:=M7 (P:=pq L) (D:=D) (n:=n) (c:=J.l) (hc:=av);refine⟨λ_=>?_,λe=>absurd (af.2 Zc) (by rw[e];simp)⟩
   have⟨v,k1,k2⟩:=put_eq (s:=b) (p:=i) (x:=false) (by rw[a];exact u)
   have G:v.l.length=L.length:=by rw[k2,length_set,a]
   have ah:∀(k:Nat)c,L[k]?=some c->(iO v k=true↔c∈thn (pq L) D n++D.drop (n+1)):=λk c f=>by
    rw[Sp (by rw[a];exact u) k2,I k c f,Ne,ak k c f,mem_append,mem_append,mem_cons]
    grind
   rw[ζb,k1,ζb];have⟨q,hq,Q⟩:=N7 E hg hN H K G;rw[RP G ah]at Q;rw[hq,ζb];rcases Q with⟨rfl,c1,c2⟩|⟨c1,c2,c3⟩
   .simp only;have⟨b2,g1,g2⟩:=put_eq (s:=v) (p:=i) (x:=true) (by rw[G];exact u)
    have⟨d,hd,ax⟩:=ye (c:=J) (by have:=(K _ X).2;omega) (K _ X).1
    have⟨o',m1,m2⟩:=jx (s:=o) (x:=d) Za
    rw[bX,kZ (by rw[G];exact u),ζb,g1,ζb,hd,ζb,m1,ζb,bf]
    have e:=an λh=>h ⟨c1,c2⟩
    refine⟨ct i Za,rfl,by show b2.l.length=_;rw[g2,length_set,G],by show o'.l.length<=_;rw[m2];simp;omega,n+1,Y.symm,λk c f=>?_,?_⟩
    .rw[e,u7 (by rw[G];exact u) g2,ah k c f,ak k c f]
     simp only[mem_append,mem_singleton]
     grind
    show ins o'=_;rw[e,<-g];unfold ins;rw[m2];simp[ax]
   rw[c1];simp only;have e:=am c2;rw[bO,bf];exact⟨ct i Za,rfl,G,by show o.l.length<=_;omega,n+1,Y.symm,λk c f=>by rw[e];exact ah k c f,by rw[e];exact g⟩
  have O:¬decide (J.l∈ins l)=true:=λh=>hp (of_decide_eq_true h)
  have Y:((L.take (i+1)).filter λc=>decide (c∈ins l)).length=n:=by rw[V,filter_append,ζi,<-j,List.filter_cons_of_neg (p:=λc=>decide (c∈ins l)) O];rfl
  refine⟨λe=>?_,λ_=>?_⟩
  .rcases mem_append.1 (af.1 e)with h|h
   .exact absurd h au
   rw[w]at h;exact absurd (mem_filter.1 h).2 O
  rw[bf];exact⟨ct i Za,rfl,a,by show o.l.length<=_;omega,n,Y.symm,I,g⟩
 rintro⟨b,o,_,_⟩ ⟨e,e2,a,h3,n,j,I,g⟩;simp only at e e2 a I h3 g;subst e;subst e2;rw[aj,take_length,<-y]at j;subst j;unfold c_.bS;rw[hU,bX,bf];exact(bf _).2 ⟨rfl,g⟩
end
section
variable{L:aY Zx}{f g:Nat->Zl}
end
section
variable{t:Zj}{A:bU 200 bt}{L:aY Zx}{f g:Nat->Zl}
end
theorem Pq(r:Zb):∃b,sx r=some b/\(b=true->r.l.length<=120/\∀x∈r.l,x.l.length<=12):=by unfold sx;by_cases h:r.l.length<=120;rw[decide_eq_true (show len r<=120 by simp only[len];omega),bO,si (p:=λz=>pe z) (f:=λz=>decide (len z>12)) (λ_ _=>rfl) Za,ζb,ζb];refine⟨_,rfl,λu=>⟨h,λx w=>?_⟩⟩;simp only[Bool.not_eq_true',List.any_eq_false,decide_eq_true_eq]at u;have:=u x w;simp only[len]at this;omega;rw[decide_eq_false (show¬len r<=120 by simp only[len];omega)];exact⟨false,rfl,λh=>by cases h⟩
section
variable{t:Zj}{A:bU 200 bt}{L:aY Zx}{f g:Nat->Zl}
end
section
variable{t:Zj}{A:bU 200 bt}{L:aY Zx}
theorem Mb(G:Small t)(a:dV t=some true)(J:VT t)(O:eR t (bQ t) A)(B:dF t A L){l:Zb}(W:l.l.length<=5000)(U:¬∀x∈l.l,x.l∈L):ko t l=some (false,18):=by
 unfold ko dH;rw[a,ζb,bO,show decide ((len l)>5000)=false from decide_eq_false (by simp[len];omega),bX];rw[si (f:=λx=> !decide (x.l∈L)) (λx w=>by
  have⟨z,C,u⟩:=jC.eq (Qs G a J O x);have:z=decide (x.l∈L):=by rw[Bool.eq_iff_iff,u,decide_eq_true_iff,B.mem]
  unfold mL;rw[C,this];rfl) Za,ζb]
 have:(l.l.any λx=> !decide (x.l∈L))=true:=by rw[List.any_eq_true];refine Classical.byContradiction λh=>U λx w=>Classical.byContradiction λk=>h ⟨x,w,by simp[k]⟩
 rw[this,bO];rfl
theorem Q4(O:Small t)(G:kE t=some true)(U:VT t)(W:eR t (bQ t) A)(B:dF t A L){s:Zb}(J:dM t=some (s,true)){l:Zb}(Y:l.l.length<=5000):
 Wp (fW t l) λq=>(q=(s,0)/\∀x∈l.l,x.l∈L)\/(q=(.nil,18)/\¬∀x∈l.l,x.l∈L):=by
 unfold fW;rw[G,ζb,bO,show decide ((len l)>5000)=false from decide_eq_false (by simp[len];omega),bX]
 unfold fW.W1;refine eO l.l.length (λi(q:Int)=>q=(i:Int)/\∀j x,j<i->l.l[j]?=some x->x.l∈L) ⟨rfl,λj x h=>absurd h Za⟩ ?_ ?_
 .rintro i _ C ⟨rfl,h⟩;have⟨z,I,u⟩:=jC.eq (Vi O G U W l.l[i]);unfold fW.bn;rw[iA C,bO,bB C,ζb,I,ζb,bP];refine⟨λe=>(bf _).2 ⟨ct i Za,λj x D w=>?_⟩,λe=>(bf _).2 ((bf _).2 (.inr ⟨rfl,λk=>?_⟩))⟩
  .by_cases e2:j=i
   .subst e2;rw[ζd C]at w;cases w;exact(B.mem _).2 (u.1 e)
   exact h j x Za w
  rw[u.2 ((B.mem _).1 (k _ (getElem_mem C)))]at e;cases e
 rintro _ ⟨rfl,h⟩;unfold fW.bn;rw[hU,bX,bf];show Wp ((dM t).bind _) _;rw[J,ζb];refine(bf _).2 (.inl ⟨rfl,λx w=>?_⟩)
 obtain⟨j,D,rfl⟩:=mem_iff_getElem.1 w;exact h j _ D (ζd D)
theorem M6{l:Zb}(G:Small t)(k:(bQ t).length<1073741824):mq t l=some true:=by obtain⟨b,o⟩:=Nd G 14;obtain⟨v,a,Q,B⟩:=M3 G k;obtain⟨p,q,W⟩:=Pq l;unfold mq r_;rw[ζb,bO,o,ζb,ζb,q,ζb,iF,ζb,iF,ζb];cases f:((!b|| !p)||decide ((len l)>40))with|true=>rfl|false=>simp only[Bool.or_eq_false_iff,Bool.not_eq_false']at f;obtain⟨⟨-,X⟩,Y⟩:=f;obtain⟨-,E⟩:=W X;have Y:l.l.length<=40:=(by have:=of_decide_eq_false Y;simp only[len]at this;omega);rw[bX,Q,ζb];cases v with|false=>rw[bX,ζb,ζb,ζb,bX];have S:ko t l=some (false,1):=(by unfold ko dH;rw[a];rfl);have C:fW t l=some (.nil,1):=(by unfold fW;rw[Q];rfl);unfold sj c_;rw[S,C];rfl|true=>have B:=B rfl;obtain⟨A,i,hA,T⟩:=B.msgs;have h8:=B.few;rw[bO];unfold vo;rcases J9 G a B T with⟨L,r,s,u,I,hc,J,g,j⟩|⟨_,J⟩;rw[J,ζb];simp only;rw[bO,ζb,ζb,ζb,ζb];(cases h2:(!decide ((len s)<=400))with|true=>rfl|false=>rw[bX];have O:0<L.length:=List.length_pos_of_mem ((u.mem _).2 xU);have Z:∀c∈L,0<c.length/\c.length<=8:=λc hc=>(by have:=u.len hc;have:=B.ok.one;omega);obtain⟨fa,C,⟨rfl,d⟩|⟨rfl,d⟩⟩:=Q4 G Q B T u J (l:=l) Za;obtain⟨z,F,H,K⟩:=Db G a B T u I O hc g (l:=l) Za d;obtain⟨m,M,m1,N⟩:=RA G a B T u I O Z hc g (l:=l) Za d rfl;obtain⟨y,R,e⟩:=Js G B T u O I j (w:=l) Za λc hc=>(by obtain⟨x,U,rfl⟩:=j8.1 hc;exact d x U);have V:z.1=y:=(by rw[Bool.eq_iff_iff,K,e,DT];rfl);unfold sj;rw[F,ζb,ζb,M,ζb,C,ζb];simp only;rw[show((0:Int)==0)=true from rfl,bO,R,ζb,V,show(y==y)=true from Zc,bO,H];(cases y with|false=>rw[N λh=>absurd (e.2 h) Zc];rfl|true=>obtain⟨e1,e2⟩:=m1 (e.1 rfl);obtain⟨n,hn,n2⟩:=Rr G B T u O I j (l:=l) Za (λx U=>by have:=E x U;omega) rfl;have af:=Dw (P:=pq L) (D:=L.filter λc=>decide (c∈ins l)) (L.filter λc=>decide (c∈ins l)).length;have ah:=List.length_filter_le (λc=>decide (c∈ins l)) L;have ai:m.1.l.length<=L.length:=(by rw[<-fL,e2];omega);rw[ζb,show(!((0:Int)==0))=false from rfl,bX,bO,hn,ζb,o5 (e2.trans n2.symm) (λx U=>by rw[e2]at U;have:=Z x (mem_filter.1 (List.mem_of_mem_take (Al U))).1;omega) Za,ζb,e1];rfl);have S:=Mb G a B T u (l:=l) Za d;unfold sj c_;rw[S,C];rfl);rw[J];rfl
end
end Go.VE
namespace Go.VE
theorem B2{α:Type}[b_ α]{x:α}:∀{l:aY α},x∈l->b_.wt x<=(l.map b_.wt).sum
 |y::l,h=>by simp only[map_cons,sum_cons];rcases mem_cons.1 h with rfl|h;omega;have:=B2 h;omega
theorem xF{α:Type}[b_ α](h:∀x:α,1<=b_.wt x):∀(l:aY α),l.length<=(l.map b_.wt).sum
 |[]=>le_refl _|y::l=>by simp only[map_cons,sum_cons,length_cons];have:=xF h l;have:=h y;omega
theorem Ca{α:Type}[b_ α](s:Sl α):b_.wt s=(s.l.map b_.wt).sum+1:=rfl
theorem AZ(p:Int):∀(es:aY Zn)(j:Int),(iz p j es).length=es.length
 |[],_=>rfl|_::es,j=>by simp only[iz,length_cons,AZ p es]
theorem G4:∀(ps:aY cg)(i:Int),(fF i ps).length<=(ps.map b_.wt).sum
 |[],_=>le_refl _|p::ps,i=>by simp only[fF,ζi,AZ,map_cons,sum_cons];have a:=G4 ps (i+1);have u:=xF (α:=Zn) (λx=>le_add_left ..) p.events.l;have w:b_.wt p=b_.wt p.name+b_.wt p.vars+b_.wt p.events+1:=rfl;have z:=Ca p.events;omega
theorem N8{t:Zj}(h:b_.wt t<=1048576):Small t/\(bQ t).length<1073741824:=by have b:b_.wt t=b_.wt t.procs+1:=rfl;have c:=Ca t.procs;have B:=xF (α:=cg) (λx=>le_add_left ..) t.procs.l;have C:=G4 t.procs.l 0;refine⟨⟨Za,λp u=>?_⟩,by show(fF 0 t.procs.l).length<_;omega⟩;have D:=B2 u;have G:b_.wt p=b_.wt p.name+b_.wt p.vars+b_.wt p.events+1:=rfl;have I:=Ca p.events;have J:=Ca p.vars;have L:=xF (α:=Zn) (λx=>le_add_left ..) p.events.l;have O:=xF (α:=Var) (λx=>le_add_left ..) p.vars.l;have w:b_.wt p.name=p.name.size+1:=rfl;refine⟨Za,Za,Za,λv a=>?_,λe z=>?_⟩;have k1:=B2 a;have k2:b_.wt v=b_.wt v.name+b_.wt v.init_+1:=rfl;have k3:b_.wt v.name=v.name.size+1:=rfl;omega;have k1:=B2 z;have k2:b_.wt e=b_.wt e.kind+b_.wt e.peer+b_.wt e.message+b_.wt e.time+b_.wt e.assign+1:=rfl;have k3:=Ca e.assign;have k4:=xF (α:=Assign) (λx=>le_add_left ..) e.assign.l;omega
end Go.VE
namespace Go.Proofs.YtllofdfkekipeaaGreatDoor
open Go.ChangeShapes Go.WideShapes Go.ChangeAt Go.RowKit Go.VE
theorem own:ownKnob Tryz.prog.godebug=none:=by kernel_rfl
theorem kids:Kids Tryz.prog (·<Tryz.prog.types.size):=kids_rows Zi Zi
theorem full:∀t e,t<Tryz.prog.types.size->Tryz.prog.underlying t=some (.slice e)->0<Tryz.prog.cellsOf e:=slices_full_of Tryz.prog Zi
theorem xu{H:Type}:∀l:aY (DataW H),Rows.uptoBulkAll l=(l.map Rows.uptoBulk).sum
 |[]=>by simp[Rows.uptoBulkAll]|d::r=>by simp[Rows.uptoBulkAll,xu r]
theorem LL{H:Type}:sC (H:=H) Rows.uptoBulk where
 lit l:=by cases l<;>simp[Rows.uptoBulk]
 str s:=by simp[Rows.uptoBulk]
 nil:=by simp[Rows.uptoBulk]
 slice es u:=by rw[Rows.uptoBulk,xu,xu];omega
 agg ps:=by rw[Rows.uptoBulk,xu];exact le_refl _
theorem JY:Tryz.prog.globalNamed "antecede/predtype.parts" =some 0:=by kernel_rfl
theorem NL:(Tryz.prog.globals[0]?).map (·.type)=some 216:=by kernel_rfl
theorem table{W:World}(h:laidMetH Tryz.prog Rows.barrierTestsUptoRow.laid W):Lib.TabIs Tryz.prog W "antecede/predtype.parts" .i64 FB:=Lib.tabIs_of_head (rest:=[]) JY NL Tryz.underlying216 Tryz.underlying3 Zi Zi h
theorem Vf{W:World}(h:laidMetH Tryz.prog Rows.barrierTestsUptoRow.laid W):tT (snap W):=λg u a=>by
 change(if Nat.beq g 0 then some (FB.map (V.int .i64))else none)=some u at a;split at a;next w=>cases a;have:g=0:=Nat.eq_of_beq_eq_true w;subst this;exact NP (λi z=>(table h).cell JY i z) (by decide)
 cases a
set_option maxRecDepth 100000 in
theorem Ig(H:Type)(enc:Zm×Zp->H)(W:World)(base:Nat)(args:Array Zp)(ds a:aY (DataW H))(before:aY MemPlace)
 (B:∀(j:Nat)t v,Tryz.f3.params[j]?=some t->args[j]?=some v->Value.okWide Tryz.prog W .any base t v)
 (G:DataW.Whole enc Tryz.prog Tryz.f3.params.toList Rows.barrierTestsSpec.vars false W args.toList ds a before)(b:Rows.uptoSmall H (ds++a)=true)(U:laidMetH Tryz.prog Rows.barrierTestsUptoRow.laid W):
 Calls Tryz.prog 3 args W λe J=>∃v,e=.returned v/\Rows.barrierTestsSpec.post enc Tryz.prog Tryz.f3 false true false false W args v J:=by
 have u:=G;obtain⟨p,q,z,Q,rfl,S,T⟩:=G;have D:DataW.TrodAll enc Tryz.prog W 0 (λ_=>true) true Tryz.f3.params.toList args.toList ds p:=z
 rw[Tryz.params3]at D B;obtain⟨I,X,Y,Z,A,E,C,rfl,rfl,c,d⟩:=trodAll_cons D;obtain⟨L,F,g,K,p1,M,rfl,rfl,rfl,h,r1⟩:=trodAll_cons d;obtain⟨rfl,rfl,rfl⟩:=trodAll_nil r1;obtain rfl:args=#[I,L]:=by cases args;simp_all
 obtain⟨rfl,rfl⟩:=trodVars_none Q;have⟨a0,i,k0,k⟩:=Reads.QT (t:=24) (α:=VE.Trace) B 0 rfl rfl c;have⟨a1,l,k1,m⟩:=Reads.QT (t:=25) (α:=Zb) B 1 rfl rfl h;have N:b_.wt a0+b_.wt a1<=1048576:=by have R:=k Rows.uptoBulk LL;have c1:=m Rows.uptoBulk LL;have O:Rows.uptoBulkAll ([Y,g]++[])<=1048576:=of_decide_eq_true b;rw[xu]at O;simp only[append_nil,map_cons,List.map_nil,sum_cons,List.sum_nil]at O;omega
 have⟨n,o⟩:=N8 (t:=a0) Za
 have hc:nj cL 3 [VE.enc a0,VE.enc a1]=some [.bool true]:=by have s:(mq a0 a1).bind (λr:Zl=>some [V.bool r])=some [.bool true]:=(by rw[M6 n o];rfl);exact(xA a0 a1).F.h () _ s
 have:=K_ (P:=Tryz.prog) FF Ax calls (f:=3) (xs:=[VE.enc a0,VE.enc a1]) (by simp[V.cr,V.good,iu]) hc (w:=W) (args:=#[I,L]) (Vf U) (cF.cons i (cF.cons l .nil))
 refine this.mono λe J⟨x,y⟩=>?_
 subst x;exact⟨_,rfl,MI kids full (by rw[Tryz.params3];decide) rfl rfl rfl Tryz.underlying4 u y⟩
noncomputable def zm(os:Os):World:=
 {World.holding Tryz.prog os ⟨#[],#[],[]⟩with heap:=(World.holding Tryz.prog os ⟨#[],#[],[]⟩).heap.modify 0 fun
  |.cells _ t frozen=>.cells (FB.map (Value.int .i64)).toArray t frozen|o=>o}
theorem PV(os:Os):laidMet Tryz.prog Rows.barrierTestsUptoRow.laid ((zm os).forCall (λ_ _=>0) ⟨#[],#[.agg #[.slice none 0 0],.slice none 0 0],[]⟩).memory:=laidMet_of_run' 8 Zi Zi
theorem Og(os:Os){H:Type}(enc:Zm×Zp->H):∃places,DataW.whole enc Tryz.prog ((zm os).forCall (λ_ _=>0) ⟨#[],#[.agg #[.slice none 0 0],.slice none 0 0],[]⟩).memory Tryz.f3.params.toList Rows.barrierTestsSpec.vars false (#[.agg #[.slice none 0 0],.slice none 0 0]:Array Zp).toList 8=some ([.agg [.nil],.nil],[],places):=⟨[],by kernel_rfl⟩
set_option maxRecDepth 100000 in
theorem MR(os:Os)(B:os.Started)(H:Type)(enc:Zm×Zp->H)(F:Stop.Interp):
 ReturnsInHanded {} Tryz.checked os 3 .any ((Rows.OpenSpec.upto Rows.barrierTestsSpec).preRow enc Tryz.prog Tryz.f3 Rows.barrierTestsUptoRow.domain false Rows.barrierTestsUptoRow.laid) (((Rows.OpenSpec.upto Rows.barrierTestsSpec).at F).post enc Tryz.prog Tryz.f3 false true false false):=by
 have⟨places,z⟩:=Og os enc;refine returnsInHanded_of_row (C:=Tryz.checked) (s:=Rows.OpenSpec.upto Rows.barrierTestsSpec) own B Zi Tryz.func3
  (witness_row_at (enc:=enc) (C:=Tryz.checked) false (zm os) #[.agg #[.slice none 0 0],.slice none 0 0] rfl Zi Zi Zi
   (OpenSpec.preRow_of_cond 8 z Zi (λk a=>by cases a;kernel_rfl) Zi (PV os))) ?_
 intro W base args ds b before w D _ u _ G _ _;exact Ig H enc W base args ds b before w D (u _ rfl) G
theorem SG:Rows.BarrierTestsUptoSaid:=
 OpenClaim.holds_of_cond 3 Tryz.f3 rfl rfl rfl rfl rfl rfl rfl ⟨rfl,rfl,rfl,rfl,rfl⟩ rfl rfl rfl rfl rfl Zi Tryz.func3 Zi
  (of_decide_eq_true Zi) (by unfold Func.isWrapper;first|(rw[if_pos (by decide+kernel)];kernel_rfl)|(rw[if_neg (by decide+kernel)];exact⟨rfl,rfl⟩))
  (λos u H enc _ F=>by rw[OpenClaim.pre_eq_preRow];exact MR os u H enc F)
theorem O7(f:Zk)(fn:Func)(G:Tryz.pinned.checked.prog.funcNamed "antecede/antecedelaw42.BarrierTests" =some f)(B:Tryz.pinned.checked.prog.funcs[f]?=some fn):
 false=Tryz.pinned.checked.prog.looks []/\∀(j:Nat)t,fn.params[j]?=some t->Tryz.pinned.checked.prog.wantsStandIn t=false:=by
 obtain rfl:f=3:=Option.some.inj ((show Tryz.prog.funcNamed "antecede/antecedelaw42.BarrierTests" =some 3 by kernel_rfl).symm.trans G)|>.symm
 obtain rfl:fn=Tryz.f3:=(Option.some.inj (Tryz.func3.symm.trans B)).symm;refine⟨by kernel_rfl,λj t z=>?_⟩
 rw[Tryz.params3]at z;have C:t∈[24,25]:=by simpa using Array.mem_of_getElem? z
 have w:([24,25].all λu=> !Tryz.prog.wantsStandIn u)=true:=by kernel_rfl
 exact(show Tryz.prog.wantsStandIn t=false by simpa using List.all_eq_true.1 w t C)
theorem barrierTestsProved:Rows.BarrierTestsUptoCardSaid:=Claim7.holds_tied_plain_at .later [] _ _ _ _ SG (λ_ h=>by cases h) Zi (λ_ h=>by cases h) barrierTestsUpto_row_tie rfl ⟨rfl,rfl⟩ Zi rfl O7 Zi
#print axioms barrierTestsProved
end Go.Proofs.YtllofdfkekipeaaGreatDoor
