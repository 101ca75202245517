/-
 GraftPaths says true for all arguments that together are of bulk at most 1048576, and they read behind the call as they read before: for every such argument, without a condition.
-/
import Derived.Test.YtimppgndlmehbaaGreatRows
import Derived.Test.YtimppgndlmehbaaGreatK1
import Derived.Test.YtimppgndlmehbaaGreatL1
set_option linter.all false
namespace Go.VE
section
variable {t:Trace} {A:bh 200 aB} {s:Slice}
def uu (t:Trace) (A:bh 200 aB) (U:List Int->Prop) (b:Slice):Prop:=(b=⟨true,.nil,.nil,.nil⟩/\∀u,¬U u)\/wh t A U b
def zB (t:Trace) (A:bh 200 aB) (s:Slice) (u:List Int):Prop:=s.empty=false/\Cons t A u/\bg u s.last.l
theorem TZ (hS:Small t) (hv:bX t=some true) (hV:VT t) (hM:dG t (aR t) A):∃b,wF t s=some b/\uu t A (zB t A s) b:=by
 have hP:∀c:Sl Int,gb t c.l->(∃d,lu c s t=some (d,true)/\zB t A s d.l/\bg c.l d.l/\∀u,zB t A s u->bg c.l u->bg d.l u)\/(lu c s t=some (Sl.nil,false)/\∀u,zB t A s u->¬bg c.l u):=λc hR=>by
  obtain⟨r,hr,rC,rl,rm⟩:=DX hS hv hV hM hR;have hn8:=hV.few;unfold lu
  cases he:s.empty with
  | true=>
   rw[aP,ζb,aP];exact .inr ⟨rfl,λu hu=>by have:=hu.1;rw[he]at this;cases this⟩
  | false=>
   obtain⟨b,hb,hbi⟩:=uh (a:=r) (b:=s.last) (by rw[rC.1.1];omega)
   rw[bf,hr,ζb,hb,ζb,ζb]
   cases b with
   | true=>
    rw[show (!true)=false from rfl,bf,ζb];exact .inl ⟨r,rfl,⟨he,rC,hbi.1 rfl⟩,rl,λu hu hle=>rm u hu.2.1 hle⟩
   | false=>
    rw[show (!false)=true from rfl,aP];exact .inr ⟨rfl,λu hu hle=>by have:=hbi.2 ((rm u hu.2.1 hle).trans hu.2.2);cases this⟩
 obtain⟨b,hb,h⟩:=Ef hS hV (p1:=λz=>lu z s t) (λu hu=>hu.2.1) hP
 exact⟨b,by unfold wF;rw[hb];rfl,h⟩
theorem Jz (hS:Small t) (hV:VT t) (hl:s.last.l.length<1073741824):bq (pn t s) (s.empty=false/\s.last.l=kI t):=by
 obtain⟨r,hr,hre⟩:=MA hS;unfold pn
 cases he:s.empty with
 | true=>exact fG ⟨λe=>(nomatch e),λe=>(nomatch e.1)⟩
 | false=>
  obtain⟨b,hb,hbi⟩:=Iy (a:=s.last) (b:=r) hl;rw[bf,hr,ζb,hb];exact fG (hbi.trans ⟨λe=>⟨rfl,e.trans hre⟩,λe=>e.2.trans hre.symm⟩)
def Qk (t:Trace) (A:bh 200 aB) (B u:List Int):Prop:=Cons t A u/\bg B u
theorem P4 (hS:Small t) (hv:bX t=some true) (hV:VT t) (hM:dG t (aR t) A) {B:Sl Int} (hB:gb t B.l):M4 t (Qk t A B.l) (λz=>nC z t B):=λc hR=>by
 have hn8:=hV.few;have hone:=hV.ok.one;have hl:c.l.length=B.l.length:=hR.1.trans hB.1.symm;obtain⟨j,hj,hje⟩:=zl hl (by rw[hR.1];omega) (by rw[hR.1];omega)
 obtain⟨r,hr,rC,rl,rm⟩:=DX hS hv hV hM (c:=j) (by rw[hje];exact vQ hR hB)
 rw[hje]at rl rm;obtain⟨m1,m2⟩:=(o7 hl).1 rl;refine .inl ⟨r,by show nC c t B=_;unfold nC;rw[hj,ζb,hr];rfl,⟨rC,m2⟩,m1,λu hu hle=>rm u hu.1 ((o7 hl).2 ⟨hle,hu.2⟩)⟩
structure Je (t:Trace) (s:Slice) (own:Nat->Nat->List Int) (P I Q:Nat) (B:List Int):Prop where
 r:gb t B
 f:∀q,q<t.procs.l.length->nth s.first.l q<=nth B q
 up:∀p,p<t.procs.l.length->∀i,i<cK t p->∀q,q<t.procs.l.length->(p<P\/p=P/\(i<I\/i=I/\q<Q))->nth (own p i) q<nth (el s p i) q->nth (el s p i) q<=nth B q
 at_:∀q,q<t.procs.l.length->nth B q=nth s.first.l q\/∃p,p<t.procs.l.length/\∃i,i<cK t p/\nth (own p i) q<nth (el s p i) q/\nth (el s p i) q=nth B q
theorem TU (hS:Small t) (hv:bX t=some true) (hV:VT t) (hM:dG t (aR t) A) (hF:s.empty=true\/lg t A s) (hl:s.last.l.length<1073741824) :
 ∃b,gn t s=some b/\(((s.empty=false/\s.last.l=kI t)/\∃own B,Jm t A own/\EB t A s own B/\uu t A (Qk t A B) b)\/¬(s.empty=false/\s.last.l=kI t)/\b=⟨true,.nil,.nil,.nil⟩):=by
 have hn8:=hV.few;have hone:=hV.ok.one;obtain⟨w,hw,hwi⟩:=Jz hS hV hl (s:=s);unfold gn;rw[hw,ζb]
 cases w with
 | false=>
  rw[bf];exact⟨_,rfl,.inr ⟨λh=>(nomatch hwi.2 h),rfl⟩⟩
 | true=>
  rw[aP];obtain⟨he,hfin⟩:=hwi.1 rfl;have hF:=hF.resolve_left (by rw[he];simp)
  have hfC:Cons t A s.first.l:=hF.1.1.1.1.1.1
  have hjl:s.j.l.length=t.procs.l.length:=hF.1.1.1.2;obtain⟨d,hd,hde⟩:=rJ (c:=s.first) (by rw[hfC.1.1];omega) (by rw[hfC.1.1];omega)
  rw[hd,ζb];have hall:∀p,p<t.procs.l.length->∀i,i<cK t p->Cons t A (el s p i):=λp hp i hi=>(sM hF he hp (by rw[hfin,nu hp];omega)).2.2
  have hev:∀p,p<t.procs.l.length->cK t p<1073741824:=λp hp=>by rw[jR hp];exact(hS.2 _ (List.getElem_mem hp)).1
  have hz0:(List.replicate t.procs.l.length (0:Int)).length=t.procs.l.length:=List.length_replicate;have hz:∀p,p<t.procs.l.length->∀i,i<cK t p->gb t ((List.replicate t.procs.l.length (0:Int)).set p (dO (nth (List.replicate t.procs.l.length (0:Int)) p) ((i:Int)+1))):=λp hp i hi=>E7 Ej hp hi
  have hzle:∀p,p<t.procs.l.length->∀i:Nat,∀u,Cons t A u->(bg ((List.replicate t.procs.l.length (0:Int)).set p (dO (nth (List.replicate t.procs.l.length (0:Int)) p) ((i:Int)+1))) u↔(i:Int)<nth u p):=λp hp i u hu=>by
   rw[G4 (by rw[hz0,hu.1.1]) (by rw[hz0];exact hp)]
   exact⟨λh=>by have:=h.2;omega,λh=>⟨zero_le hu,by omega⟩⟩
  have hex:∀p i,∃o:List Int,p<t.procs.l.length->i<cK t p->Cons t A o/\(i:Int)<nth o p/\∀u,Cons t A u->(i:Int)<nth u p->bg o u:=λp i=>by
   by_cases h:p<t.procs.l.length/\i<cK t p
   .obtain⟨r,_,rC,rl,rm⟩:=DX hS hv hV hM (c:=.row _) (hz p h.1 i h.2);exact⟨r.l,λ_ _=>⟨rC,(hzle p h.1 i _ rC).1 rl,λu hu hlt=>rm u hu ((hzle p h.1 i u hu).2 hlt)⟩⟩
   .exact⟨[],λh1 h2=>absurd ⟨h1,h2⟩ h⟩
  let own:Nat->Nat->List Int:=λp i=>Classical.choose (hex p i)
  have hO:Jm t A own:=λp hp i hi=>Classical.choose_spec (hex p i) hp hi
  unfold gn.W1;show Wp _ λb=>_
  refine ki t.procs.l.length (λp (q:Int×Slice×Sl Int)=>q.1=(p:Int)/\Je t s own p 0 0 q.2.2.l) ⟨rfl,by rw[hde];exact hfC.1,λq _=>by rw[hde];exact Int.le_refl _,λp _ i _ q _ h=>absurd h (by omega),λq _=>.inl (by rw[hde])⟩ ?_ ?_
  .rintro p ⟨v,vb,B⟩ hp ⟨rfl,i1⟩;simp only at i1;have hpj:p<s.j.l.length:=by rw[hjl];exact hp
   have hrow:s.j.l[p].l.length=cK t p:=by rw[<-kS hpj];exact hF.1.1.2 p hp
   have hevp:=hev p hp;unfold gn.aA;simp only;rw[jN hpj,aP,aK hpj,ζb];unfold gn.W2;refine ki (s.j.l[p]).l.length (λi (q:Int×Slice×Sl Int)=>q.1=(i:Int)/\Je t s own p i 0 q.2.2.l) ⟨rfl,i1⟩ ?_ ?_
   .rintro i ⟨v,vb2,B2⟩ hi ⟨rfl,j1⟩;simp only at j1;have hi':i<cK t p:=by omega
    unfold gn.aX;simp only;have hxe:s.j.l[p].l[i].l=el s p i:=by
     unfold el;rw[ζd hpj];simp only[ζd hi]
    generalize hx:s.j.l[p].l[i]=x at hxe;have hmk:nZ (len B2) (0:Int)=some (.row (List.replicate t.procs.l.length 0)):=by
     have:len B2=(t.procs.l.length:Int):=by simp only[len,j1.r.1]
     unfold nZ;rw[this,if_pos (by omega)];simp
    rw[jN hi,aP,aK hi,hx,ζb,hmk,ζb,bK i (by omega)]
    obtain⟨wc,hwc,hwe⟩:=NN (c:=.row (List.replicate t.procs.l.length 0)) (p:=p) (x:=((i+1:Nat):Int)) (by show p<(List.replicate _ _).length;rw[hz0];exact hp) (by show (List.replicate _ _).length<_;rw[hz0];omega)
    change wc.l=(List.replicate t.procs.l.length (0:Int)).set p (dO (nth (List.replicate t.procs.l.length (0:Int)) p) ((i:Int)+1))at hwe;obtain⟨r,hr,rC,rl,rm⟩:=DX hS hv hV hM (c:=wc) (by rw[hwe];exact hz p hp i hi')
    rw[hwc,ζb,hr,ζb];have hro:r.l=own p i:=by
     obtain⟨o1,o2,o3⟩:=hO p hp i hi';rw[hwe]at rl rm;exact(rm _ o1 ((hzle p hp i _ o1).2 o2)).anti (o3 _ rC ((hzle p hp i _ rC).1 rl))
    have hxl:x.l.length=t.procs.l.length:=by rw[hxe];exact(hall p hp i hi').1.1
    unfold gn.W3;refine ki x.l.length (λq (z:Int×Slice×Sl Int)=>z.1=(q:Int)/\Je t s own p i q z.2.2.l) ⟨rfl,j1⟩ ?_ ?_
    .rintro q ⟨v,vb3,B3⟩ hq ⟨rfl,k1⟩;simp only at k1;unfold gn.c_;simp only;have hq':q<t.procs.l.length:=by omega
     rw[jN hq,aP,aK hq,ζb,aK (s:=r) (by rw[rC.1.1];exact hq'),ζb,<-gB hq,<-gB (l:=r.l),hxe,hro]
     have hB3:=k1.r.1
     by_cases hgt:nth (el s p i) q>nth (own p i) q
     .obtain⟨y,hy,hye⟩:=put_eq (s:=B3) (p:=q) (x:=dO (nth B3.l q) (nth (el s p i) q)) (by omega)
      rw[decide_eq_true hgt,aP,AI (by omega),ζb,Cc (by omega),ζb,ζb]
      rw[show (if nth (el s p i) q>nth B3.l q then nth (el s p i) q else nth B3.l q)=dO (nth B3.l q) (nth (el s p i) q)from rfl,hy,ζb,ah];have hset:∀q2,q2<t.procs.l.length->nth y.l q2=if q2=q then dO (nth B3.l q) (nth (el s p i) q)else nth B3.l q2:=λq2 h2=>by rw[hye,fR (by omega)]
      have hup:∀q2,q2<t.procs.l.length->nth B3.l q2<=nth y.l q2:=λq2 h2=>by
       rw[hset q2 h2];split
       .rename_i e;subst e;rcases eV (nth B3.l q2) (nth (el s p i) q2)with⟨e,_⟩|⟨e,_⟩ <;> rw[e] <;> omega
       .exact Int.le_refl _
      refine⟨bK q (by omega),(oO (by rw[hye,List.length_set];exact hB3)).2 λq2 h2=>?_,λq2 h2=>Int.le_trans (k1.f q2 h2) (hup q2 h2),λp2 hp2 i2 hi2 q2 h2 hD hlt=>?_,λq2 h2=>?_⟩
      .simp only;rw[hset q2 h2];have a1:=(oO hB3).1 k1.r q2 h2;have a2:=dg (hall p hp i hi') h2;split
       .rename_i e;subst e;rcases eV (nth B3.l q2) (nth (el s p i) q2)with⟨e,_⟩|⟨e,_⟩ <;> rw[e] <;> assumption
       .exact a1
      .by_cases hnew:p2=p/\i2=i/\q2=q
       .obtain⟨rfl,rfl,rfl⟩:=hnew;simp only;rw[hset q2 h2,if_pos rfl];rcases eV (nth B3.l q2) (nth (el s p2 i2) q2)with⟨e,_⟩|⟨e,_⟩ <;> rw[e] <;> omega
       .exact Int.le_trans (k1.up p2 hp2 i2 hi2 q2 h2 (by omega) hlt) (hup q2 h2)
      .simp only;rw[hset q2 h2];split
       .rename_i e;subst e;rcases eV (nth B3.l q2) (nth (el s p i) q2)with⟨e,_⟩|⟨e,_⟩
        .rw[e];exact k1.at_ q2 h2
        .rw[e];exact .inr ⟨p,hp,i,hi',hgt,rfl⟩
       .exact k1.at_ q2 h2
     .rw[decide_eq_false hgt,bf,ah];refine⟨bK q (by omega),k1.r,k1.f,λp2 hp2 i2 hi2 q2 h2 hD hlt=>?_,k1.at_⟩
      by_cases hnew:p2=p/\i2=i/\q2=q
      .obtain⟨rfl,rfl,rfl⟩:=hnew;exact absurd hlt hgt
      .exact k1.up p2 hp2 i2 hi2 q2 h2 (by omega) hlt
    .rintro⟨v,vb3,B3⟩ ⟨rfl,k1⟩;simp only at k1;unfold gn.c_;simp only;rw[jM,bf,ah];refine(ah _).2 ⟨bK i (by omega),k1.r,k1.f,λp2 hp2 i2 hi2 q2 h2 hD hlt=>k1.up p2 hp2 i2 hi2 q2 h2 (by omega) hlt,k1.at_⟩
   .rintro⟨v,vb2,B2⟩ ⟨rfl,j1⟩;simp only at j1;unfold gn.aX;simp only;rw[jM,bf,ah];refine(ah _).2 ⟨bK p (by omega),j1.r,j1.f,λp2 hp2 i2 hi2 q2 h2 hD hlt=>j1.up p2 hp2 i2 hi2 q2 h2 (by
     rcases hD with h|h
     .rcases Nat.lt_or_eq_of_le (Nat.lt_succ_iff.1 h)with h|rfl
      .exact .inl h
      .exact .inr ⟨rfl,.inl (by omega)⟩
     .omega) hlt,j1.at_⟩
  .rintro⟨v,vb,B⟩ ⟨rfl,i1⟩;simp only at i1;unfold gn.aA;simp only;rw[<-hjl,jM,bf,ah];obtain⟨b,hb,hbC⟩:=Ef hS hV (λu hu=>hu.1) (P4 hS hv hV hM i1.r)
   show Wp ((cW t _).bind _) _;rw[hb,ζb,ah];exact .inl ⟨⟨he,hfin⟩,own,B.l,hO,⟨i1.r.1,i1.f,λp hp i hi q hq hlt=>i1.up p hp i hi q hq (.inl hp) hlt,i1.at_⟩,hbC⟩
end
end Go.VE
namespace Go.VE
def mb {α:Type}:List (List α)->Nat->Nat->Nat
 | [],_,i=>i
 | _::_,0,i=>i
 | r::R,p+1,i=>r.length+mb R p i
theorem Au {α:Type}:∀{R:List (List α)} {p i:Nat} {r:List α},R[p]? = some r->i<r.length->R.flatten[mb R p i]? = r[i]?
 | [],p,i,r,h,_=>by simp at h
 | r0::R,0,i,r,h,hi=>by
  simp only[List.getElem?_cons_zero,ζa]at h;subst h;rw[List.flatten_cons,mb,List.getElem?_append_left hi]
 | r0::R,p+1,i,r,h,hi=>by
  rw[List.flatten_cons,mb,List.getElem?_append_right (by omega),Nat.add_sub_cancel_left]
  exact Au (by simpa using h) hi
theorem Bp {α:Type}:∀{R:List (List α)} {m:Nat},m<R.flatten.length->∃p i r,R[p]? = some r/\i<r.length/\m=mb R p i
 | [],m,h=>by simp at h
 | r0::R,m,h=>by
  rw[List.flatten_cons,ζi]at h
  by_cases hm:m<r0.length
  .exact⟨0,m,r0,rfl,hm,rfl⟩
  .obtain⟨p,i,r,h1,h2,h3⟩:=Bp (R:=R) (m:=m-r0.length) (by omega)
   exact⟨p+1,i,r,by simpa using h1,h2,by rw[mb];omega⟩
theorem NU {α:Type}:∀{R:List (List α)} {p i:Nat} {r:List α},R[p]? = some r->i<r.length->mb R p i<R.flatten.length:=λ{R p i r} h hi=>by
 have:=Au h hi;rw[ζd hi]at this;exact(ζe.1 this).1
theorem EW {α:Type}:∀{R:List (List α)} {p i q k:Nat} {r r':List α},R[p]? = some r->i<r.length->R[q]? = some r'->k<r'.length->mb R p i=mb R q k->p=q/\i=k
 | [],p,i,q,k,r,r',h,_,_,_,_=>by simp at h
 | r0::R,0,i,0,k,r,r',_,_,_,_,h=>⟨rfl,h⟩
 | r0::R,0,i,q+1,k,r,r',h,hi,_,_,e=>by
  simp only[List.getElem?_cons_zero,ζa]at h;subst h;rw[mb,mb]at e;omega
 | r0::R,p+1,i,0,k,r,r',_,_,h,hi,e=>by
  simp only[List.getElem?_cons_zero,ζa]at h;subst h;rw[mb,mb]at e;omega
 | r0::R,p+1,i,q+1,k,r,r',h,hi,h',hk,e=>by
  rw[mb,mb]at e;obtain⟨a,b⟩:=EW (R:=R) (by simpa using h) hi (by simpa using h') hk (by omega)
  exact⟨by omega,b⟩
section
variable {t:Trace} {A:bh 200 aB} {s:Slice}
def qE (al:Sl (Sl Int)) (m:Nat):List Int:=match al.l[m]? with|some c=>c.l|none=>[]
structure Ji (t:Trace) (s:Slice) (al:Sl (Sl Int)) (M K:Nat) (B:List Int):Prop where
 r:gb t B
 f:bg s.first.l B
 up:∀m,m<al.l.length->∀k,k<m->(m<M\/m=M/\k<K)->qE al m=qE al k->¬bg (qE al m) s.first.l->bg (qE al m) B
 at_:∀r,r<t.procs.l.length->nth B r=nth s.first.l r\/∃m,m<al.l.length/\∃k,k<m/\qE al m=qE al k/\nth (qE al m) r=nth B r
def QO (t:Trace) (A:bh 200 aB) (s:Slice) (B u:List Int):Prop:=tR t A [s] u/\bg B u
theorem QL (hS:Small t) (hV:VT t) (hF:s.empty=true\/lg t A s) {B:Sl Int} (hB:gb t B.l):M4 t (QO t A s B.l) (λz=>kj z B s):=λc hR=>by
 have hn8:=hV.few;have hone:=hV.ok.one;have hl:c.l.length=B.l.length:=hR.1.trans hB.1.symm;obtain⟨j,hj,hje⟩:=zl hl (by rw[hR.1];omega) (by rw[hR.1];omega)
 have hjR:gb t j.l:=by rw[hje];exact vQ hR hB
 rcases Ou (A:=A) hS hV (l1:=.row [s]) (by intro x hx;simp only[Sl.l,List.mem_singleton]at hx;rw[hx];exact hF) (by simp[Sl.l]) (by simp[Sl.l]) hjR with⟨d,hd,dS,dl,dm⟩|⟨hd,hno⟩
 .rw[hje]at dl dm;obtain⟨m1,m2⟩:=(o7 hl).1 dl;exact .inl ⟨d,by show kj c B s=_;unfold kj;rw[hj,ζb,hd];rfl,⟨dS,m2⟩,m1,λu hu hle=>dm u hu.1 ((o7 hl).2 ⟨hle,hu.2⟩)⟩
 .rw[hje]at hno;exact .inr ⟨by show kj c B s=_;unfold kj;rw[hj,ζb,hd];rfl,λu hu hle=>hno u hu.1 ((o7 hl).2 ⟨hle,hu.2⟩)⟩
theorem TY (hS:Small t) (hV:VT t) (hF:s.empty=true\/lg t A s) (hl:s.last.l.length<1073741824) (hsz:(s.j.l.flatMap Sl.l).length<1073741824) :
 ∃b,iT t s=some b/\(((s.empty=false/\s.last.l=kI t)/\∃B,FN t s B/\uu t A (QO t A s B) b)\/¬(s.empty=false/\s.last.l=kI t)/\b=⟨true,.nil,.nil,.nil⟩):=by
 have hn8:=hV.few;have hone:=hV.ok.one;obtain⟨w,hw,hwi⟩:=Jz hS hV hl (s:=s);unfold iT;rw[hw,ζb]
 cases w with
 | false=>
  rw[bf];exact⟨_,rfl,.inr ⟨λh=>(nomatch hwi.2 h),rfl⟩⟩
 | true=>
  rw[aP];obtain⟨he,hfin⟩:=hwi.1 rfl;have hF0:=hF;have hF:=hF.resolve_left (by rw[he];simp)
  have hfC:Cons t A s.first.l:=hF.1.1.1.1.1.1
  have hjl:s.j.l.length=t.procs.l.length:=hF.1.1.1.2;obtain⟨d,hd,hde⟩:=rJ (c:=s.first) (by rw[hfC.1.1];omega) (by rw[hfC.1.1];omega)
  have hcat:ir s.j=some (Ae s.j):=by unfold ir;rw[if_pos ⟨by omega,by omega⟩]
  rw[hd,ζb,hcat,ζb];generalize hal:Ae s.j=al;have hall:al.l=(s.j.l.map Sl.l).flatten:=by
   rw[<-hal,<-List.flatMap_def];unfold Ae;split
   .rename_i h;exact(List.length_eq_zero_iff.1 h).symm
   .rfl
  have hlen:al.l.length<1073741824:=by rw[hall,<-List.flatMap_def];exact hsz
  have hrow:∀p,p<t.procs.l.length->∃r,(s.j.l.map Sl.l)[p]? = some r/\r.length=cK t p/\∀i,i<cK t p->∃c:Sl Int,r[i]? = some c/\c.l=el s p i:=λp hp=>by
   have hpj:p<s.j.l.length:=by omega
   have hr:s.j.l[p].l.length=cK t p:=by rw[<-kS hpj];exact hF.1.1.2 p hp
   refine⟨_,by rw[List.getElem?_map,ζd hpj];rfl,hr,λi hi=>⟨_,ζd (by rw[hr];exact hi),?_⟩⟩
   unfold el;rw[ζd hpj];simp only[ζd (show i<s.j.l[p].l.length by rw[hr];exact hi)]
  have toM:∀p,p<t.procs.l.length->∀i,i<cK t p->mb (s.j.l.map Sl.l) p i<al.l.length/\qE al (mb (s.j.l.map Sl.l) p i)=el s p i:=λp hp i hi=>by
   obtain⟨r,h1,h2,h3⟩:=hrow p hp;obtain⟨c,hc,hce⟩:=h3 i hi;have hil:i<r.length:=by omega
   refine⟨by rw[hall];exact NU h1 hil,?_⟩
   unfold qE;rw[hall,Au h1 hil,hc];exact hce
  have ofM:∀m,m<al.l.length->∃p,p<t.procs.l.length/\∃i,i<cK t p/\m=mb (s.j.l.map Sl.l) p i/\qE al m=el s p i:=λm hm=>by
   rw[hall]at hm;obtain⟨p,i,r,h1,h2,h3⟩:=Bp hm;have hp:p<t.procs.l.length:=by have:=(ζe.1 h1).1;rw[List.length_map]at this;omega
   obtain⟨r',g1,g2,g3⟩:=hrow p hp;rw[h1]at g1;cases g1;have hi:i<cK t p:=by omega
   exact⟨p,hp,i,hi,h3,by rw[h3];exact(toM p hp i hi).2⟩
  have hCel:∀p,p<t.procs.l.length->∀i,i<cK t p->Cons t A (el s p i):=λp hp i hi=>(sM hF he hp (by rw[hfin,nu hp];omega)).2.2
  have hCm:∀m,m<al.l.length->Cons t A (qE al m):=λm hm=>by
   obtain⟨p,hp,i,hi,_,e⟩:=ofM m hm;rw[e];exact hCel p hp i hi
  have hidx:∀m (hm:m<al.l.length),al.l[m].l=qE al m:=λm hm=>by unfold qE;rw[ζd hm]
  unfold iT.W1;show Wp _ λb=>_
  refine ki al.l.length (λm (q:Int×Slice×Sl Int)=>q.1=(m:Int)/\Ji t s al m 0 q.2.2.l) ⟨rfl,by rw[hde];exact hfC.1,by rw[hde];exact bg.refl _,λm _ k _ h=>absurd h (by omega),λq _=>.inl (by rw[hde])⟩ ?_ ?_
  .rintro m ⟨v,vb,B⟩ hm ⟨rfl,i1⟩;simp only at i1;unfold iT.aA;simp only;obtain⟨x,hx,hxl⟩:=qj al m (by omega)
   rw[jN hm,aP,aK hm,ζb,hx,ζb];unfold iT.W2;have hxn:x.l.length=m:=by rw[hxl,List.length_take];omega
   refine ki x.l.length (λk (q:Int×Slice×Sl Int)=>q.1=(k:Int)/\Ji t s al m k q.2.2.l) ⟨rfl,i1⟩ ?_ ?_
   .rintro k ⟨v,vb2,B2⟩ hk ⟨rfl,j1⟩;simp only at j1;unfold iT.aX;simp only;have hkm:k<m:=by omega
    have hxk:x.l[k].l=qE al k:=by
     have e1:x.l[k]? = al.l[k]? := by rw[hxl,List.getElem?_take,if_pos hkm]
     rw[ζd hk,ζd (show k<al.l.length by omega)]at e1
     rw[<-hidx k (by omega)];exact congrArg Sl.l (Option.some.inj e1)
    have hmC:=hCm m hm;obtain⟨b,hb,hbi⟩:=uh (a:=al.l[m]) (b:=s.first) (by rw[hidx m hm,hmC.1.1];omega)
    obtain⟨b2,hb2,hbi2⟩:=Iy (a:=al.l[m]) (b:=x.l[k]) (by rw[hidx m hm,hmC.1.1];omega)
    rw[hidx m hm]at hbi hbi2;rw[hxk]at hbi2;rw[jN hk,aP,aK hk,ζb,hb,ζb,hb2];have keep:(¬(¬bg (qE al m) s.first.l/\qE al m=qE al k))->Ji t s al m (k+1) B2.l:=λhno=>⟨j1.r,j1.f,λm2 hm2 k2 hk2 hD he2 hnf=>by
     by_cases hnew:m2=m/\k2=k
     .obtain⟨rfl,rfl⟩:=hnew;exact absurd ⟨hnf,he2⟩ hno
     .exact j1.up m2 hm2 k2 hk2 (by omega) he2 hnf,j1.at_⟩
    cases b with
    | true=>
     rw[aP,ζb,bf,ah];exact⟨bK k (by omega),keep λh=>h.1 (hbi.1 rfl)⟩
    | false=>
     rw[bf,ζb,ζb]
     cases b2 with
     | false=>
      rw[bf,ah];exact⟨bK k (by omega),keep λh=>(nomatch hbi2.2 h.2)⟩
     | true=>
      have hln:B2.l.length=al.l[m].l.length:=by rw[hidx m hm,j1.r.1,hmC.1.1]
      obtain⟨r,hr,hre⟩:=zl hln (by rw[j1.r.1];omega) (by rw[j1.r.1];omega)
      rw[hidx m hm]at hre hln;rw[aP,hr,ζb,ah];obtain⟨w1,w2⟩:=(o7 hln).1 (bg.refl (List.zipWith dO B2.l (qE al m)));refine⟨bK k (by omega),by rw[hre];exact vQ j1.r hmC.1,by rw[hre];exact j1.f.trans w1,λm2 hm2 k2 hk2 hD he2 hnf=>?_,λq hq=>?_⟩
      .simp only[hre]
       by_cases hnew:m2=m/\k2=k
       .obtain⟨rfl,rfl⟩:=hnew;exact w2
       .exact(j1.up m2 hm2 k2 hk2 (by omega) he2 hnf).trans w1
      .simp only[hre];rw[y8 hln (by rw[j1.r.1];exact hq)]
       rcases eV (nth B2.l q) (nth (qE al m) q)with⟨e,_⟩|⟨e,_⟩
       .rw[e];exact j1.at_ q hq
       .rw[e];exact .inr ⟨m,hm,k,hkm,hbi2.1 rfl,rfl⟩
   .rintro⟨v,vb2,B2⟩ ⟨rfl,j1⟩;simp only at j1;unfold iT.aX;simp only;rw[jM,bf,ah];refine(ah _).2 ⟨bK m (by omega),j1.r,j1.f,λm2 hm2 k2 hk2 hD he2 hnf=>j1.up m2 hm2 k2 hk2 (by omega) he2 hnf,j1.at_⟩
  .rintro⟨v,vb,B⟩ ⟨rfl,i1⟩;simp only at i1;unfold iT.aA;simp only;rw[jM,bf,ah];obtain⟨b,hb,hbC⟩:=Ef hS hV (λu hu=>hu.1.1) (QL hS hV hF0 i1.r)
   show Wp ((cW t _).bind _) _;rw[hb,ζb,ah];refine .inl ⟨⟨he,hfin⟩,B.l,⟨i1.r.1,i1.f,λp hp i hi q hq k hk hne hee hnf=>?_,λr hr=>?_⟩,hbC⟩
   .obtain⟨a1,a2⟩:=toM p hp i hi;obtain⟨b1,b2⟩:=toM q hq k hk;obtain⟨r1,g1,g2,_⟩:=hrow p hp;obtain⟨r2,g3,g4,_⟩:=hrow q hq;have hdiff:mb (s.j.l.map Sl.l) p i≠mb (s.j.l.map Sl.l) q k:=λe=>by
     obtain⟨x1,x2⟩:=EW g1 (by omega) g3 (by omega) e
     rcases hne with h|h
     .exact h x1
     .exact h x2
    rcases Nat.lt_or_gt_of_ne hdiff with h|h
    .have:=i1.up _ b1 _ h (.inl b1) (by rw[b2,a2,hee]) (by rw[b2,<-hee];exact hnf)
     rw[b2,<-hee]at this;exact this
    .have:=i1.up _ a1 _ h (.inl a1) (by rw[b2,a2,hee]) (by rw[a2];exact hnf)
     rw[a2]at this;exact this
   .rcases i1.at_ r hr with h|⟨m,hm,k,hk,h1,h2⟩
    .exact .inl h
    .obtain⟨p,hp,i,hi,e1,e2⟩:=ofM m hm;obtain⟨q,hq,i',hi',f1,f2⟩:=ofM k (by omega)
     refine .inr ⟨p,hp,i,hi,q,hq,i',hi',?_,by rw[<-e2,<-f2];exact h1,by rw[<-e2];exact h2⟩
     by_cases hpq:p=q
     .subst hpq;refine .inr λe=>?_
      subst e;omega
     .exact .inl hpq
end
end Go.VE
namespace Go.VE
theorem Sg {t:Trace} (hS:Small t) (m:Int):∃b,gX t m=some b/\(b=true->∀p,p<t.procs.l.length->cK t p<=20):=by
 suffices h:Wp (gX t m) λb=>b=true->∀p,p<t.procs.l.length->cK t p<=20 from h
 unfold gX gX.W1;refine ki t.procs.l.length (λi q=>q.2=(i:Int)/\∀p,p<i->cK t p<=20) ⟨rfl,λp hp=>absurd hp (by omega)⟩ ?_ ?_
 .rintro n ⟨c,_⟩ hlt ⟨e,ih⟩;simp only at e;subst e;have h1:=hS.1;unfold gX.aA;rw[jN hlt,aP,aK hlt,ζb,iC,ζb];rw[xo (f:=λz=>(pz z).getD false) (λz _=>Ey.ok ((ah _).2 trivial)) (hS.2 _ (List.getElem_mem hlt)).1]
  simp only[ζb,iC];rw[bl];refine⟨λ_=>(ah _).2 ((ah _).2 λh=>(nomatch h)),λh=>(ah _).2 ⟨bK n (by omega),λp hp=>?_⟩⟩
  simp only[Bool.or_eq_false_iff,decide_eq_false_iff_not,len]at h;rcases Nat.lt_or_eq_of_le (Nat.lt_succ_iff.1 hp)with q|rfl
  .exact ih p q
  .rw[jR hlt];omega
 .rintro⟨c,_⟩ ⟨e,ih⟩;simp only at e;subst e;unfold gX.aA;rw[jM,bf,ah];simp only[kQ,ζb];exact(ah _).2 λ_=>ih
theorem GW {α:Type} {n:Nat}:∀{l:List (Sl α)},(∀r∈l,r.l.length<=n)->(l.flatMap Sl.l).length<=l.length*n
 | [],_=>by simp
 | r::l,h=>by
  have h1:=h r (by simp)
  have h2:=GW (l:=l) λr hr=>h r (by simp[hr])
  simp only[List.flatMap_cons,ζi,List.length_cons,Nat.add_mul,Nat.one_mul];omega
theorem Rq {s:Slice} (hF:Lf s):∃b,sB s=some b/\(b=false->mV s/\(s.j.l.flatMap Sl.l).length<=800):=by
 have hd:∀r∈s.j.l,lU r=some (decide ((len r)>40)||r.l.any λc=>decide ((len c)>20)):=λr hr=>by
  unfold lU;rw[nV (p:=λz=>lJ z) (f:=λc=>decide ((len c)>20)) (λx _=>rfl) (hF.r r hr),ζb]
  simp only[iC,ζb]
 unfold sB;rw[Ds hd hF.j,ζb];simp only[iC,ζb];refine⟨_,rfl,λh=>?_⟩
 simp only[Bool.or_eq_false_iff,decide_eq_false_iff_not,List.any_eq_false,Bool.not_eq_true,len]at h;have hr:∀r∈s.j.l,r.l.length<=40:=λr hr=>by have:=(h.2 r hr).1;omega
 refine⟨⟨by omega,by omega,by omega,λr hr'=>⟨by have:=hr r hr';omega,λc hc=>by have:=(h.2 r hr').2 c hc;omega⟩⟩,?_⟩
 have h1:=GW hr;have:s.j.l.length*40<=20*40:=Nat.mul_le_mul_right 40 (by omega)
 omega
theorem Dn {s:Sl Slice} {p:Slice->Option Bool} {f:Slice->Bool} (hp:∀x∈s.l,p x=some (f x)) (hl:s.l.length<1073741824):iG s p=some (s.l.any f):=by
 have h:ei s p=some (place f s.l):=n_ hp (by omega) (λi=>rfl)
 unfold iG;rw[h,ζb,oa]
section
variable {t:Trace} {A:bh 200 aB} {s:Slice} {U:List Int->Prop}
theorem QG (hv:bX t=some true) (h:mX t s=some true):nv t (.row [s])=some true:=by
 unfold nv;rw[hv,ζb,aP,Dn (f:=λ_=>false) (λx hx=>by simp only[Sl.l,List.mem_singleton]at hx;subst hx;unfold oJ;rw[h];rfl) (by simp[Sl.l])]
 simp[Sl.l]
theorem Jw (hV:VT t) (hU:∀u,U u->Cons t A u) (hev:∀p,p<t.procs.l.length->cK t p<=20) {b:Slice} (h:wh t A U b):mV b:=by
 have hn8:=hV.few;refine⟨by rw[(hU _ h.f).1.1];omega,by rw[h.lc.1.1];omega,by rw[h.j];omega,λr hr=>?_⟩
 obtain⟨p,hp⟩:=List.mem_iff_getElem?.1 hr;have hpl:=(ζe.1 hp).1;have hpt:p<t.procs.l.length:=by rw[<-h.j];exact hpl
 have hrl:r.l.length=cK t p:=by
  have:=h.rows p hpt;rw[kS hpl,(ζe.1 hp).2]at this;exact this
 have h20:=hev p hpt;refine⟨by omega,λc hc=>?_⟩
 obtain⟨i,hi⟩:=List.mem_iff_getElem?.1 hc;have hil:=(ζe.1 hi).1;have he:el b p i=c.l:=by unfold el;rw[hp];simp only[hi]
 rcases h.elm p hpt i (by omega)with⟨k,_⟩|⟨k,_⟩
 .rw[he]at k;rw[k];simp
 .rw[he]at k;rw[(hU _ k).1.1];omega
theorem EM (hS:Small t) (hv:bX t=some true) (hV:VT t) (hM:dG t (aR t) A) (hL:mV s) (hE:k_ t A s) {c:Sl Int} (hC:Cons t A c.l):∃x,fV t s c=some x/\(x=true↔kN s c.l):=by
 obtain⟨x,e1,h1⟩:=K3 hS hv hV hM hL;obtain⟨y,e2,h2⟩:=DF hS hv hV hM c;obtain⟨z,e3,h3⟩:=Th hS hV hL hE hC;refine⟨z,?_,h3⟩;unfold fV;rw[e1,ζb,h1.2 hE,aP,e2,ζb,ζb,h2.2 hC,aP,e3];rfl
theorem It (hS:Small t) (hv:bX t=some true) (hV:VT t) (hM:dG t (aR t) A) (hU:∀u,U u->Cons t A u) (hJ:∀u v w,U u->U v->j9 dO u v w->U w) (hev:∀p,p<t.procs.l.length->cK t p<=20) {b:Slice} (h:uu t A U b) {c:Sl Int} (hC:Cons t A c.l) :
 ∃x,fV t b c=some x/\(x=true↔U c.l):=by
 rcases h with⟨rfl,hno⟩|h
 .obtain⟨x,h1,h2⟩:=EM hS hv hV hM (s:=⟨true,.nil,.nil,.nil⟩) ⟨by simp[Sl.l],by simp[Sl.l],by simp[Sl.l],by simp[Sl.l]⟩ (.inl ⟨rfl,⟨⟨rfl,rfl⟩,rfl⟩⟩) hC
  exact⟨x,h1,h2.trans ⟨λq=>(nomatch q.1.1.1),λq=>absurd q (hno _)⟩⟩
 .obtain⟨x,h1,h2⟩:=EM hS hv hV hM (Jw hV hU hev h) (h.valid hU) hC;exact⟨x,h1,h2.trans (h.has hU hJ hC)⟩
theorem yH (hS:Small t) (hv:bX t=some true) (hV:VT t) (hM:dG t (aR t) A) (hU:∀u,U u->Cons t A u) (hJ:∀u v w,U u->U v->j9 dO u v w->U w) (hev:∀p,p<t.procs.l.length->cK t p<=20) {b:Slice} (h:uu t A U b) {c:List Int} {nx:Sl (Sl Int)} (hn:nx.l.length<=8/\∀d,d∈ins nx↔kO t A c d) :
 (∃x,iX b nx t=some x/\(x=true↔∃d,kO t A c d/\U d))/\∃x,jW b nx t=some x/\(x=true↔∀d,kO t A c d->U d):=by
 have hx:∀d∈nx.l,Cons t A d.l/\fV t b d=some ((fV t b d).getD false)/\((fV t b d).getD false=true↔U d.l):=λd hd=>by
  have hs:=(hn.2 d.l).1 (oC.2 ⟨d,hd,rfl⟩);obtain⟨p,a,_,_,hC⟩:=hs;obtain⟨x,h1,h2⟩:=It hS hv hV hM hU hJ hev h hC;rw[h1];exact⟨hC,rfl,h2⟩
 constructor
 .unfold iX;rw[nV (f:=λd=>(fV t b d).getD false) (λd hd=>by unfold jc;rw[(hx d hd).2.1];rfl) (by omega)]
  refine⟨_,rfl,?_⟩;rw[List.any_eq_true];constructor
  .rintro⟨d,hd,h1⟩;exact⟨d.l,(hn.2 d.l).1 (oC.2 ⟨d,hd,rfl⟩),(hx d hd).2.2.1 h1⟩
  .rintro⟨d,hd,h1⟩;obtain⟨x,hx1,rfl⟩:=oC.1 ((hn.2 d).2 hd);exact⟨x,hx1,(hx x hx1).2.2.2 h1⟩
 .unfold jW;rw[nV (f:=λd => !(fV t b d).getD false) (λd hd=>by unfold je;rw[(hx d hd).2.1];rfl) (by omega)]
  refine⟨_,rfl,?_⟩;rw[Bool.not_eq_true',List.any_eq_false];constructor
  .intro h1 d hd;obtain⟨x,hx1,rfl⟩:=oC.1 ((hn.2 d).2 hd);have:=h1 x hx1;exact(hx x hx1).2.2.1 (by simpa using this)
  .intro h1 d hd;have:=(hx d hd).2.2.2 (h1 _ ((hn.2 d.l).1 (oC.2 ⟨d,hd,rfl⟩)));simp[this]
theorem Mz (hS:Small t) (hN:(aR t).length<1073741824) (hF:Lf s) (c:Sl Int):lI t s c=some true:=by
 obtain⟨b,hb,hev⟩:=Sg hS 60;obtain⟨d,hd,hL⟩:=Rq hF;obtain⟨v,hv,hrv,hV⟩:=KL hS hN;unfold lI uv;rw[ζb,aP,hb,ζb,hd,ζb]
 cases b with
 | false=>rw[bf,ζb,aP,ζb,aP,ζb,aP]
 | true=>
 have hev:=hev rfl
 cases d with
 | true=>rw[aP,ζb,aP,ζb,aP,ζb,aP]
 | false=>
 obtain⟨hL,hsz⟩:=hL rfl;rw[aP,ζb,bf]
 cases v with
 | false=>rw[Hz hrv,ζb,ζb,show (!false)=true from rfl,aP,ζb,aP]
 | true=>
 have hV:=hV rfl;obtain⟨A,i,hA,hM⟩:=hV.msgs;obtain⟨x,h1,h2,hx⟩:=bq.same (Rx hS hrv hV hM hL) (K3 hS hv hV hM hL);rw[h1,ζb,ζb]
 cases x with
 | false=>rw[show (!false)=true from rfl,aP,ζb,aP]
 | true=>
 have hE:=hx.1 rfl;rw[show (!true)=false from rfl,bf];have hn8:=hV.few
 by_cases hcl:c.l.length=t.procs.l.length
 rotate_left
 .have:nR t c=some false:=by
   unfold nR jY;rw[show ((len c)==(len t.procs))=false by simp[len];omega]
   rfl
  rw[this];rfl
 obtain⟨y,hy,hyi⟩:=NK hS hV hM hcl;rw[hy,ζb,ζb]
 cases y with
 | false=>rw[show (!false)=true from rfl,aP]
 | true=>
 have hC:=hyi.1 rfl;rw[show (!true)=false from rfl,bf];have hFm:s.empty=true\/lg t A s:=by
  rcases hE with h|h
  .exact .inl h.1
  .exact .inr h.2
 have hll:s.last.l.length<1073741824:=by have:=hL.l;omega
 have hgv:=QG hv h2;obtain⟨b1,e1,c1⟩:=TZ hS hv hV hM (s:=s);obtain⟨b2,e2,c2⟩:=TU hS hv hV hM hFm hll;obtain⟨b3,e3,c3⟩:=TY hS hV hFm hll (by omega)
 have E1:wu t s=some (b1,0):=by unfold wu;rw[hgv,ζb,aP,e1];rfl
 have E2:wV t s=some (b2,0):=by unfold wV;rw[hgv,ζb,aP,e2];rfl
 have E3:xh t s=some (b3,0):=by unfold xh;rw[hgv,ζb,aP,e3];rfl
 rw[E1,ζb,E2,ζb,E3,ζb];obtain⟨nx,hnx,hn⟩:=OI hS hV hM hC;have hlast:bg s.last.l (kI t)\/s.empty=true:=by
  rcases hFm with h|h
  .exact .inr h
  .exact .inl (wG h.1.1.1.1.1.2)
 have jE:∀u v w,zB t A s u->zB t A s v->j9 dO u v w->zB t A s w:=λu v w hu hv hz=>⟨hu.1,join_cons hu.2.1 hv.2.1 hz,((hz.le_max (hu.2.1.1.1.trans hv.2.1.1.1.symm)).2.2 _ hu.2.2 hv.2.2)⟩
 have cE:∀u,zB t A s u->Cons t A u:=λu h=>h.2.1
 have c2':∃U:List Int->Prop,(∀u,U u->Cons t A u)/\(∀u v w,U u->U v->j9 dO u v w->U w)/\uu t A U b2/\(U c.l↔kN s c.l/\∀d,kO t A c.l d->U d):=by
  rcases c2 with⟨⟨he,hfin⟩,own,B,hO,hB,hc⟩|⟨hno,rfl⟩
  .have hF':=hFm.resolve_left (by rw[he];simp)
   refine⟨Qk t A B,λu h=>h.1,λu v w hu hv hz=>⟨join_cons hu.1 hv.1 hz,hu.2.trans (hz.le_max (hu.1.1.1.trans hv.1.1.1.symm)).1⟩,hc,?_⟩
   constructor
   .intro h;exact⟨Sd hO hB hF' he hfin hC h.2,λd hd=>⟨(hd.to hC).choose_spec.2.2,h.2.trans (hd.le hC)⟩⟩
   .rintro⟨h,k⟩;exact⟨hC,QS hV hM hO hB hC h λd hd=>(k d hd).2⟩
  .refine⟨λ_=>False,λ_ h=>h.elim,λ_ _ _ h=>h.elim,.inl ⟨rfl,λ_ h=>h⟩,λh=>h.elim,λh=>?_⟩
   have hc:=BQ hV hM hC λd hd=>(h.2 d hd).elim
   have he:=h.1.1.1.1;exact hno ⟨he,(hlast.resolve_right (by rw[he];simp)).anti (hc▸h.1.1.2)⟩
 have c3':∃U:List Int->Prop,(∀u,U u->Cons t A u)/\(∀u v w,U u->U v->j9 dO u v w->U w)/\uu t A U b3/\(U c.l↔kN s c.l/\((∀d,¬kO t A c.l d)\/∃d,kO t A c.l d/\U d)):=by
  rcases c3 with⟨⟨he,hfin⟩,B,hB,hc⟩|⟨hno,rfl⟩
  .have hF':=hFm.resolve_left (by rw[he];simp)
   have one:∀u,tR t A [s] u↔Cons t A u/\kN s u:=λu=>⟨λh=>⟨h.1,h.2 s (by simp)⟩,λh=>⟨h.1,λx hx=>by simp only[List.mem_singleton]at hx;rw[hx];exact h.2⟩⟩
   refine⟨QO t A s B,λu h=>h.1.1,λu v w hu hv hz=>?_,hc,?_⟩
   .have hl:=hu.1.1.1.1.trans hv.1.1.1.1.symm;exact⟨(one w).2 ⟨join_cons hu.1.1 hv.1.1 hz,Ek ((one u).1 hu.1).2 ((one v).1 hv.1).2 hl hz⟩,hu.2.trans (hz.le_max hl).1⟩
   .constructor
    .intro h;have hH:=((one _).1 h.1).2;refine⟨hH,?_⟩
     by_cases e:c.l=kI t
     .refine .inl λd hd=>?_
      obtain⟨p,hp,rfl,hD⟩:=hd.to hC;have h1:=(dg hD hp).2;rw[fR (by rw[hC.1.1];exact hp),if_pos rfl,e,nu hp]at h1
      omega
     .obtain⟨d,k1,k2,k3⟩:=SD hV hM hB hF' he hfin hC hH h.2 e;exact .inr ⟨d,k1,(one d).2 ⟨(k1.to hC).choose_spec.2.2,k2⟩,k3⟩
    .rintro⟨hH,h|⟨d,k1,k2⟩⟩
     .refine⟨(one _).2 ⟨hC,hH⟩,?_⟩;have e:=BQ hV hM hC h;rw[e];refine gP.2 ⟨by rw[hB.len];simp[kI],λr hr=>?_⟩
      have hr':r<t.procs.l.length:=by rw[<-hB.len];exact hr
      rw[nu hr'];rcases hB.at_ r hr' with k|⟨p,hp,i,hi,q,hq,i',hi',_,_,k⟩
      .rw[k];exact(dg hF'.1.1.1.1.1.1 hr').2
      .rw[<-k];exact(dg (sM hF' he hp (i:=i) (by rw[hfin,nu hp];omega)).2.2 hr').2
     .exact⟨(one _).2 ⟨hC,hH⟩,On hB hF' he hfin hC hH k1 ((one d).1 k2.1).2 k2.2⟩
  .refine⟨λ_=>False,λ_ h=>h.elim,λ_ _ _ h=>h.elim,.inl ⟨rfl,λ_ h=>h⟩,λh=>h.elim,λh=>?_⟩
   rcases h with⟨h,k|⟨_,_,k⟩⟩
   .have hc:=BQ hV hM hC k;have he:=h.1.1.1;exact hno ⟨he,(hlast.resolve_right (by rw[he];simp)).anti (hc▸h.1.2)⟩
   .exact k
 obtain⟨U2,u21,u22,c2,law2⟩:=c2';obtain⟨U3,u31,u32,c3,law3⟩:=c3';obtain⟨in_,hin,hini⟩:=EM hS hv hV hM hL hE hC;obtain⟨g1,G1,G1i⟩:=It hS hv hV hM cE jE hev c1 hC;obtain⟨g2,G2,G2i⟩:=It hS hv hV hM u21 u22 hev c2 hC;obtain⟨g3,G3,G3i⟩:=It hS hv hV hM u31 u32 hev c3 hC;obtain⟨⟨n1,N1,N1i⟩,_⟩:=yH hS hv hV hM cE jE hev c1 hn;obtain⟨_,⟨n2,N2,N2i⟩⟩:=yH hS hv hV hM u21 u22 hev c2 hn;obtain⟨⟨n3,N3,N3i⟩,_⟩:=yH hS hv hV hM u31 u32 hev c3 hn;have law1:zB t A s c.l↔kN s c.l\/∃d,kO t A c.l d/\zB t A s d:=by
  rcases hFm with he|hF'
  .exact⟨λh=>absurd h.1 (by rw[he];simp),λh=>by
    rcases h with h|⟨_,_,h⟩
    .exact absurd h.1.1.1 (by rw[he];simp)
    .exact absurd h.1 (by rw[he];simp)⟩
  .cases he:s.empty with
   | true=>exact⟨λh=>absurd h.1 (by rw[he];simp),λh=>by
    rcases h with h|⟨_,_,h⟩
    .exact absurd h.1.1.1 (by rw[he];simp)
    .exact absurd h.1 (by rw[he];simp)⟩
   | false=>
    have:=Qh hV hM hF' he hC;constructor
    .intro h;rcases this.1 h.2.2 with k|⟨d,k1,k2⟩
     .exact .inl k
     .exact .inr ⟨d,k1,he,(k1.to hC).choose_spec.2.2,k2⟩
    .intro h;refine⟨he,hC,this.2 ?_⟩;rcases h with k|⟨d,k1,k2⟩
     .exact .inl k
     .exact .inr ⟨d,k1,k2.2.2⟩
 have hemp:((len nx)==0)=true↔∀d,¬kO t A c.l d:=by
  have:((len nx)==0)=true↔nx.l=[]:=by simp[len]
  rw[this];constructor
  .intro h d hd;obtain⟨x,hx,_⟩:=oC.1 ((hn.2 d).2 hd);rw[h]at hx;cases hx
  .intro h;refine List.eq_nil_iff_forall_not_mem.2 λx hx=>h x.l ((hn.2 x.l).1 (oC.2 ⟨x,hx,rfl⟩))
 have q1:g1=(in_||n1):=by rw[Bool.eq_iff_iff,G1i,law1,Bool.or_eq_true,hini,N1i]
 have q2:g2=(in_&&n2):=by rw[Bool.eq_iff_iff,G2i,law2,ζh,hini,N2i]
 have q3:g3=(in_&&(((len nx)==0)||n3)):=by rw[Bool.eq_iff_iff,G3i,law3,ζh,Bool.or_eq_true,hini,N3i,hemp]
 simp only[beq_self_eq_true,Bool.not_true,aP,bf,ζb,hnx,hin,G1,G2,G3,N1,N2,N3];subst q1;subst q2;subst q3;cases in_ <;> cases n1 <;> cases n2 <;> cases n3 <;> cases ((len nx)==0) <;> rfl
end
end Go.VE
namespace Go.VE
theorem yI {α:Type} [bA α] {x:α}:∀{l:List α},x∈l->bA.wt x<=(l.map bA.wt).sum
 | y::l,h=>by
  simp only[List.map_cons,List.sum_cons];rcases List.mem_cons.1 h with rfl|h
  .omega
  .have:=yI h;omega
theorem s6 {α:Type} [bA α] (h:∀x:α,1<=bA.wt x):∀(l:List α),l.length<=(l.map bA.wt).sum
 | []=>Nat.le_refl _
 | y::l=>by
  simp only[List.map_cons,List.sum_cons,List.length_cons];have:=s6 h l;have:=h y;omega
theorem wT {α:Type} [bA α] (s:Sl α):bA.wt s=(s.l.map bA.wt).sum+1:=rfl
theorem zp (p:Int):∀(es:List Event) (j:Int),(gw p j es).length=es.length
 | [],_=>rfl
 | _::es,j=>by simp only[gw,List.length_cons,zp p es]
theorem Fu:∀(ps:List bp) (i:Int),(dX i ps).length<=(ps.map bA.wt).sum
 | [],_=>Nat.le_refl _
 | p::ps,i=>by
  simp only[dX,ζi,zp,List.map_cons,List.sum_cons];have h1:=Fu ps (i+1);have h2:=s6 (α:=Event) (λx=>Nat.le_add_left ..) p.events.l
  have h3:bA.wt p=bA.wt p.name+bA.wt p.vars+bA.wt p.events+1:=rfl;have h4:=wT p.events;omega
theorem Ll {t:Trace} (h:bA.wt t<=1048576):Small t/\(aR t).length<1073741824:=by
 have h0:bA.wt t=bA.wt t.procs+1:=rfl;have h1:=wT t.procs;have h2:=s6 (α:=bp) (λx=>Nat.le_add_left ..) t.procs.l
 have h3:=Fu t.procs.l 0;refine⟨⟨by omega,λp hp=>?_⟩,by show (dX 0 t.procs.l).length<_;omega⟩
 have h4:=yI hp;have h5:bA.wt p=bA.wt p.name+bA.wt p.vars+bA.wt p.events+1:=rfl;have h6:=wT p.events;have h7:=wT p.vars;have h8:=s6 (α:=Event) (λx=>Nat.le_add_left ..) p.events.l
 have h9:=s6 (α:=Var) (λx=>Nat.le_add_left ..) p.vars.l
 have h10:bA.wt p.name=p.name.size+1:=rfl;refine⟨by omega,by omega,by omega,λv hv=>?_,λe he=>?_⟩
 .have k1:=yI hv;have k2:bA.wt v=bA.wt v.name+bA.wt v.init_+1:=rfl;have k3:bA.wt v.name=v.name.size+1:=rfl;omega
 .have k1:=yI he;have k2:bA.wt e=bA.wt e.kind+bA.wt e.peer+bA.wt e.message+bA.wt e.time+bA.wt e.assign+1:=rfl;have k3:=wT e.assign;have k4:=s6 (α:=Assign) (λx=>Nat.le_add_left ..) e.assign.l
  omega
theorem fits {s:Slice} (h:bA.wt s<=1048576):Lf s:=by
 have h0:bA.wt s=bA.wt s.empty+bA.wt s.first+bA.wt s.last+bA.wt s.j+1:=rfl
 have h1:=wT s.j;have h2:=s6 (α:=Sl (Sl Int)) (λx=>Nat.le_add_left ..) s.j.l
 refine⟨by omega,λr hr=>?_⟩
 have h3:=yI hr;have h4:=wT r;have h5:=s6 (α:=Sl Int) (λx=>Nat.le_add_left ..) r.l
 omega
end Go.VE
namespace Go.Proofs.YtimppgndlmehbaaGreat
open Go.ChangeShapes Go.WideShapes Go.ChangeAt Go.RowKit Go.VE
theorem own:ownKnob Tryz.prog.godebug=none:=by kernel_rfl
theorem kids:Kids Tryz.prog (·<Tryz.prog.types.size):=kids_rows (by kernel_rfl) (by kernel_rfl)
theorem full:∀t e,t<Tryz.prog.types.size->Tryz.prog.underlying t=some (.slice e)->0<Tryz.prog.cellsOf e:=slices_full_of Tryz.prog (by kernel_rfl)
theorem vL {H:Type}:∀l:List (DataW H),Rows.uptoBulkAll l=(l.map Rows.uptoBulk).sum
 | []=>by simp[Rows.uptoBulkAll]
 | d::r=>by simp[Rows.uptoBulkAll,vL r]
theorem Eu {H:Type}:uo (H:=H) Rows.uptoBulk where
 lit l:=by cases l <;> simp[Rows.uptoBulk]
 str s:=by simp[Rows.uptoBulk]
 nil:=by simp[Rows.uptoBulk]
 slice es sp:=by rw[Rows.uptoBulk,vL,vL];omega
 agg ps:=by rw[Rows.uptoBulk,vL];exact Nat.le_refl _
set_option maxRecDepth 100000 in
theorem GA (H:Type) (enc:TypeId×Value->H) (W:World) (base:Nat) (args:Array Value) (ds gs:List (DataW H)) (before:List MemPlace)
 (hval:∀(j:Nat) t v,Tryz.f4.params[j]? = some t->args[j]? = some v->Value.okWide Tryz.prog W .any base t v)
 (hW:DataW.Whole enc Tryz.prog Tryz.f4.params.toList Rows.graftPathsSpec.vars false W args.toList ds gs before) (hk:Rows.uptoSmall H (ds++gs)=true) :
 Calls Tryz.prog 4 args W λe W'=>∃v,e=.returned v/\Rows.graftPathsSpec.post enc Tryz.prog Tryz.f4 false true false false W args v W':=by
 have hW':=hW;obtain⟨p,q,hA0,hV,rfl,hfz,hnd⟩:=hW;have hA:DataW.TrodAll enc Tryz.prog W 0 (λ_=>true) true Tryz.f4.params.toList args.toList ds p:=hA0
 rw[Tryz.params4]at hA hval;obtain⟨v0,vs0,d0,ds0,p0,q0,hargs,rfl,rfl,h0,r0⟩:=trodAll_cons hA;obtain⟨v1,vs1,d1,ds1,p1,q1,rfl,rfl,rfl,h1,r1⟩:=trodAll_cons r0;obtain⟨v2,vs2,d2,ds2,p2,q2,rfl,rfl,rfl,h2,r2⟩:=trodAll_cons r1;obtain⟨rfl,rfl,rfl⟩:=trodAll_nil r2;obtain rfl:args=#[v0,v1,v2]:=by cases args;simp_all
 obtain⟨rfl,rfl⟩:=trodVars_none hV;obtain⟨a0,w0,k0,b0⟩:=Reads.IG (t:=24) (α:=VE.Trace) hval 0 rfl rfl h0;obtain⟨a1,w1,k1,b1⟩:=Reads.IG (t:=28) (α:=VE.Slice) hval 1 rfl rfl h1;obtain⟨a2,w2,k2,b2⟩:=Reads.IG (t:=25) (α:=Sl Int) hval 2 rfl rfl h2;have hb:bA.wt a0+bA.wt a1+bA.wt a2<=1048576:=by
  have c0:=b0 Rows.uptoBulk Eu;have c1:=b1 Rows.uptoBulk Eu;have c2:=b2 Rows.uptoBulk Eu;have h7:Rows.uptoBulkAll ([d0,d1,d2]++[])<=1048576:=of_decide_eq_true hk;rw[vL]at h7;simp only[List.append_nil,List.map_cons,List.map_nil,List.sum_cons,List.sum_nil]at h7;omega
 obtain⟨hS,hN⟩:=Ll (t:=a0) (by omega)
 have hc:lQ cL 4 [VE.enc a0,VE.enc a1,VE.enc a2]=some [.bool true]:=by
  have hl:(lI a0 a1 a2).bind (λr:Bool=>some [V.bool r])=some [.bool true]:=by rw[Mz hS hN (fits (s:=a1) (by omega)) a2];rfl
  exact(xz a0 a1 a2).F.h () _ hl
 have:=HQ (P:=Tryz.prog) Nk Hp calls (f:=4) (xs:=[VE.enc a0,VE.enc a1,VE.enc a2]) (by simp[V.bJ,V.good,lF]) hc (w:=W) (args:=#[v0,v1,v2]) (λ_ _ h=>nomatch h) (bD.cons w0 (bD.cons w1 (bD.cons w2 .nil)))
 refine this.mono λe W' ⟨he,hg⟩=>?_
 subst he;exact⟨_,rfl,JZ kids full (by rw[Tryz.params4];decide) rfl rfl rfl Tryz.underlying4 hW' hg⟩
set_option maxRecDepth 100000 in
theorem K5 (os:Os) (started:os.Started) (H:Type) (enc:TypeId×Value->H) (F:Stop.Interp) :
 ReturnsInHanded {} Tryz.checked os 4 .any ((Rows.OpenSpec.upto Rows.graftPathsSpec).pre6 enc Tryz.prog Tryz.f4 Rows.graftPathsUptoRow.domain false) (((Rows.OpenSpec.upto Rows.graftPathsSpec).at F).post enc Tryz.prog Tryz.f4 false true false false):=by
 refine returnsInHanded_of_cond (C:=Tryz.checked) (s:=Rows.OpenSpec.upto Rows.graftPathsSpec) (k:=Rows.uptoSmall) rfl own started (by kernel_rfl) Tryz.func4
  (OpenSpec.witness (enc:=enc) (C:=Tryz.checked) (s:=Rows.OpenSpec.upto Rows.graftPathsSpec) (k:=Rows.uptoSmall) rfl false ⟨#[],#[.agg #[.slice none 0 0],.agg #[.bool false,.slice none 0 0,.slice none 0 0,.slice none 0 0],.slice none 0 0],[]⟩ 8 (by kernel_rfl) (by kernel_rfl) (by kernel_rfl)
   (x:=([.agg [.nil],.agg [.lit (.bool false),.nil,.nil,.nil],.nil],[],[])) (by kernel_rfl) rfl (by kernel_rfl)) ?_
 intro W base args ds gs before hval hW _ hk _;exact GA H enc W base args ds gs before hval hW hk
theorem Pp:Rows.graftPathsUptoRow.holds Tryz.pinned (Rows.OpenSpec.upto Rows.graftPathsSpec):=
 OpenClaim.holds_of_cond 4 Tryz.f4 rfl rfl rfl rfl rfl rfl rfl ⟨rfl,rfl,rfl,rfl,rfl⟩ rfl rfl rfl rfl rfl (by kernel_rfl) Tryz.func4 (by kernel_rfl)
  (of_decide_eq_true (by kernel_rfl)) (by unfold Func.isWrapper;first|(rw[if_pos (by decide +kernel)];kernel_rfl)|(rw[if_neg (by decide +kernel)];exact⟨rfl,rfl⟩))
  (λos started H enc _ F=>K5 os started H enc F)
theorem graftPathsProved:Rows.GraftPathsUptoSaid:=
 Pp
#print axioms graftPathsProved
end Go.Proofs.YtimppgndlmehbaaGreat
