/-
 The engine: operations of the loaded code on values without a heap; a run of it is a run of the program.
-/
import Derived.RangeFuncRecord
import Derived.Shelf.SlSortCmp.NoneTotal
import Derived.RangeFuncLeaves
import Derived.Laws.StructEq
import Derived.ChangeKeysEq
import Derived.Test.YtlmckmkfopljoaaGreatDoorV1
set_option linter.all false
namespace Go.VE
variable [bW]
def Out.HZ:Out->Exit
 | .norm=>.normal
 | .exit id=>.exit id
 | .ret=>.ret
theorem exists_least (p:Nat->Prop):∀k,p k->∃m,p m/\∀j,p j->m<=j:=by
 intro k
 induction k using Nat.strongRecOn with
 | _ k z=>
  intro hk
  by_cases h:∃j,j<k/\p j
  .obtain⟨j,A,u⟩:=h;exact z j A u
  .exact⟨k,hk,λj u=>Nat.le_of_not_lt λw=>h ⟨j,w,u⟩⟩
open Classical in
noncomputable def least (p:Nat->Prop):Nat:=if h:∃m,p m/\∀j,p j->m<=j then h.choose else 0
theorem Lq (p:Nat->Prop) {k:Nat} (hk:p k):p (least p)/\least p<=k:=by
 have h:=exists_least p k hk;unfold least;rw[dif_pos h];exact⟨h.choose_spec.1,h.choose_spec.2 k hk⟩
section
variable {P:Program} {E:Env} {I I':cu} {μ μ':Mu} {H H':bh} {n B:Nat} {F F':Frame} {a:Act} {w w':World}
def Post (B n:Nat) (I:cu) (μ:Mu) (H:bh) (w:World) (o:Out) (F':Frame) (H':bh):Exit->Act->World->Prop:=
 λe u w'=>e=o.HZ/\(∃I' μ',d_ I' μ' n F' u.tmps/\cT I' μ' H' w'/\Step I μ H w I' μ' H' w')/\jw B u.defers w'
theorem Post.mono {I1:cu} {D:Mu} {H1:bh} {G:World} {o:Out} (s1:cT I1 D H1 G) (st:Step I μ H w I1 D H1 G) {e:Exit} {a':Act} {w':World} (h:Post B n I1 D H1 G o F' H' e a' w') :
 Post B n I μ H w o F' H' e a' w':=by
 obtain⟨h1,⟨I',μ',u,z,A⟩,C⟩:=h;exact⟨h1,⟨I',μ',u,z,Step.trans s1 st A⟩,C⟩
theorem cT.A8 (s:cT I μ H w) {b:Nat} (o:Obj) (B:I b=none) (D:¬hG μ H b):cT I μ H (fT w b o) where
 dom:=s.dom
 imm:=λz x h=>IC.rZ (s.imm z x h) (gy o (by rintro rfl;rw[B]at h;cases h))
 obs:=λid ob h=>(s.obs id ob h).mono (cu.le_refl _) (Mu.le_refl _) (λp A C=>by
  have u:hG μ H p.b:=⟨id,p,ob,h,C,A,rfl⟩;exact⟨gy o (λe=>D (e▸u)),gb s u⟩) (λG=>by subst G;exact s.obs id _ h)
 inj:=s.inj
 gl:=s.gl
theorem RQ (s:cT I μ H w) {b:Nat} {o:Obj} (h:w.heap[b]? = some o) (h1:∀c e f,o≠.cells c e f) (B:∀es c,o≠.map es c):I b=none:=by
 cases u:I b with
 | none=>rfl
 | some x=>
  have:=s.imm b x u
  cases x with
  | cells c=>obtain⟨_,_,q⟩:=this;rw[h]at q;cases q;exact absurd rfl (h1 _ _ _)
  | map es=>obtain⟨_,q⟩:=this;rw[h]at q;cases q;exact absurd rfl (B _ _)
theorem Step.kept (hk:∀b,b<w.heap.size->w'.heap[b]? = w.heap[b]?) (B:w.heap.size<=w'.heap.size) (h1:w'.os=w.os) (D:vC w w') (G:∀a:Addr,a.block<w.heap.size->w.frozen? a=false->w'.frozen? a=false):Step I μ H w I μ H w':=
 ⟨cu.le_refl _,Mu.le_refl _,Nat.le_refl _,B,λb u _=>hk b u,λ_ h=>h.elim .inl λh=>.inr (.inl h),h1,D,G⟩
theorem Step.after (st:Step I μ H w I' μ' H' w') {b:Nat} (o:Obj) (B:w.heap.size<=b) (D:Obj.nf o:=by first|exact tE _ _|exact rG rfl):Step I μ H w I' μ' H' (fT w' b o):=
 ⟨st.le,st.mu,st.len,by rw[wZ];exact st.size,λz u A=>by rw[gy o (by omega)];exact st.frame z u A,st.terr,st.os,⟨st.out.out,st.out.tape,st.out.dr⟩,λa B C=>Ub D a (st.fz a B C)⟩
theorem jw.A8 {ds:List Deferred} (h:jw B ds w) {b:Nat} {o:Obj} (D:∀r,w.heap[r]? = some (.deferred (some []))->r≠b):jw B ds (fT w b o):=
 ⟨λd hd=>by
  obtain⟨r,h1,z,u⟩:=h.all d hd;exact⟨r,h1,z,by rw[gy o (D r u)];exact u⟩,h.apart⟩
theorem LU {step:Frame->bh->Option (Out×Frame×bh)} {c:Code} {ro:Option Nat} {o:Out}
 (D:∀I μ F H a w o F' H',step F H=some (o,F',H')->d_ I μ n F a.tmps->cT I μ H w->jw B a.defers w->B<=w.heap.size->c.wpIn (fr ro) 0 P (Post B n I μ H w o F' H') a w)
 {k:Nat} (h:kH step k F H=some (o,F',H')) (r:d_ I μ n F a.tmps) (s:cT I μ H w) (m:jw B a.defers w) (hB:B<=w.heap.size) :
 (Code.loop c).wpIn (fr ro) 0 P (Post B n I μ H w o F' H') a w:=by
 let Inv:Nat->Act->World->Prop:=λk u w'=>∃I1 G F1 H1,kH step k F1 H1=some (o,F',H')/\d_ I1 G n F1 u.tmps/\cT I1 G H1 w'/\Step I μ H w I1 G H1 w'/\jw B u.defers w'/\B<=w'.heap.size
 let M:Act->World->Nat:=λu w'=>least (λk=>Inv k u w')
 have hM:∀k u w',Inv k u w'->Inv (M u w') u w'/\M u w'<=k:=λk u w' hi=>Lq (λk=>Inv k u w') hi
 refine wpIn_loop (λu w'=>∃k,Inv k u w') M ⟨k,I,μ,F,H,h,r,s,.refl _ _ _ _,m,hB⟩ ?_
 rintro Q S ⟨k1,T⟩;obtain⟨hi,_⟩:=hM k1 Q S T;generalize hk:M Q S=kk at hi;obtain⟨I1,G,F1,H1,J,r1,s1,A,Y,C⟩:=hi
 cases kk with
 | zero=>simp[kH]at J
 | succ kk=>
  simp only[kH]at J;split at J
  .rename_i Z H2 U;refine wpIn_mono (D I1 G F1 H1 Q S .norm Z H2 U r1 s1 Y C) ?_;rintro e L O ⟨rfl,⟨I2,μ2,r2,s2,st2⟩,m2⟩;show (∃k,Inv k L O)/\M L O<kk+1;have z:Inv kk L O:=⟨I2,μ2,Z,H2,J,r2,s2,Step.trans s1 A st2,m2,Nat.le_trans C st2.size⟩;exact⟨⟨kk,z⟩,Nat.lt_succ_of_le (hM kk L O z).2⟩
  .rename_i W;refine wpIn_mono (D I1 G F1 H1 Q S o F' H' J r1 s1 Y C) ?_;intro e L O hp;have X:o≠.norm:=by
    rintro rfl;exact W F' H' J
   obtain⟨rfl,h2,h3⟩:=hp
   cases o with
   | norm=>exact absurd rfl X
   | exit id=>exact Post.mono s1 A ⟨rfl,h2,h3⟩
   | ret=>exact Post.mono s1 A ⟨rfl,h2,h3⟩
end
end Go.VE
namespace Go.VE
variable [bW]
section
variable {P:Program} {E:Env} {I I':cu} {μ μ':Mu} {H H':bh} {n B:Nat} {F F':Frame} {a:Act} {w w':World}
theorem Bf (s:cT I μ H w) {id:Nat} {r:vG} (h:H[id]? = some (.loop r)):∃p l,μ id=some p/\I p.b=none/\w.heap[p.b]? = some (.loop l)/\vF I μ r l:=s.obs id _ h
theorem Iz {p:Option Out} (hp:p≠some .norm):(p.bind kV=none->p.getD .norm=.norm)/\(∀c,p.bind kV=some c->(c=.ret/\p.getD .norm=.ret)\/∃id,c=.exit id/\p.getD .norm=.exit id):=by
 cases p with
 | none=>grind
 | some o=>
  cases o with
  | norm=>grind
  | ret=>exact⟨by simp[kV],by simp[kV]⟩
  | exit id=>exact⟨by simp[kV],by simp[kV]⟩
theorem Jd {call:dx} (hc:kQ P call) {g:Operand} {ps:Array Tmp} {assign body:Code} {o:Out} {lf:Nat}
 (h:exec E call lf false n (.rangeFunc g ps assign body) F H=some (o,F',H')) (r:d_ I μ n F a.tmps) (s:cT I μ H w) (m:jw B a.defers w) (hB:B<=w.heap.size) :
 (Code.rangeFunc g ps assign body).wpIn (fr none) 0 P (Post B n I μ H w o F' H') a w:=by
 cases hg:ev F g with
 | none=>simp[exec,hg]at h
 | some gv=>
 cases gv with
 | clo f x y=>
  simp[exec,hg]at h;split at h
  .rename_i am H2 L;split at h
   .rename_i r2 D;have X:r2.st≠.busy/\r2.pend.getD .norm=o/\F=F'/\H2.set H.length .dead=H':=by
     grind
    obtain⟨X,rfl,rfl,rfl⟩:=X;obtain⟨u,v,eg,hu,hv⟩:=(dw r hg).kT;refine wpIn_rangeFunc λA _=>?_
    have Y:∀b,b<w.heap.size->(w.alloc (.deferred (some []))).heap[b]? = w.heap[b]? := λb hb=>lS _ b hb
    have s1  := s.kept Y;have ad:Step I μ H w I μ H (w.alloc (.deferred (some []))):=Step.kept Y (by simp) rfl ⟨rfl,rfl,Nat.le_refl _⟩ (λa _=>Nk (rG rfl) a)
    have ae:vF I μ ⟨.ready,none,F,n,ps.toList,assign,body⟩ { state:=.ready,pending:=none,fn:=A,tmps:=a.tmps,params:=ps,assign,body,defers:=w.heap.size }:=
     ⟨trivial,rfl,by simp,r,rfl,rfl,rfl⟩
    obtain⟨s2,st2⟩:=s1.push (ob:=.loop ⟨.ready,none,F,n,ps.toList,assign,body⟩)
     (o:=.loop { state:=.ready,pending:=none,fn:=A,tmps:=a.tmps,params:=ps,assign,body,defers:=w.heap.size }) (p:=⟨w.heap.size+1,0,0,0⟩) (by simp)
     ⟨_,_,Mu.gu _ _ _,by have:=s1.yH;simp_all,by have:=mY (w:=w.alloc (.deferred (some []))) (.loop { state:=.ready,pending:=none,fn:=A,tmps:=a.tmps,params:=ps,assign,body,defers:=w.heap.size });simp_all,
      ae.mono (cu.le_refl _) (Mu.qV (s1.dom _ (Nat.le_refl _)))⟩
    have O :=
     (hu.mono (cu.le_refl _) st2.mu).append (.cons (.yld H.length ⟨w.heap.size+1,0,0,0⟩ (Mu.gu _ _ _)) (hv.mono (cu.le_refl _) st2.mu))
    obtain⟨hf,G⟩:=hc.fn f _ _ _ _ L;refine⟨w.heap.size+1,[{ target:=.collected w.heap.size,args:=#[] }],((w.alloc (.deferred (some []))).alloc (.loop { state:=.ready,pending:=none,fn:=A,tmps:=a.tmps,params:=ps,assign,body,defers:=w.heap.size })),{ target:=.fn (.func f) v,args:=u++#[.func (.yield (w.heap.size+1)) #[] #[]] },((w.alloc (.deferred (some []))).alloc (.loop { state:=.ready,pending:=none,fn:=A,tmps:=a.tmps,params:=ps,assign,body,defers:=w.heap.size })),f,u++#[.func (.yield (w.heap.size+1)) #[] #[]]++v,((w.alloc (.deferred (some []))).alloc (.loop { state:=.ready,pending:=none,fn:=A,tmps:=a.tmps,params:=ps,assign,body,defers:=w.heap.size })),
     run_enterLoop_outer A a.tmps ps assign body,?_,λ_ _=>trivial,?_,λh=>by simp[fr]at h,?_⟩
    .simp[resolve];rw[eg];simp[Deferred.ofValue,Act.eval]
    .exact xI hf _
    .have Z:=G _ _ _ _ s2 O;have Q:(u.toList++.func (.yield (w.heap.size+1)) #[] #[]::v.toList).toArray=u++#[.func (.yield (w.heap.size+1)) #[] #[]]++v:=by grind
     rw[Q]at Z;refine Z.mono ?_;rintro e w3 ⟨al,I3,μ3,rfl,_,s3,S⟩;obtain⟨p,l,g1,g2,g3,g4⟩:=Bf s3 D;have hp:p=⟨w.heap.size+1,0,0,0⟩:=by
      have:=S.mu _ _ (Mu.gu μ H.length ⟨w.heap.size+1,0,0,0⟩)
      grind
     subst hp;have J:l.state≠.busy:=by
      intro he;have:=g4.st;rw[he]at this;cases af:r2.st <;> rw[af]at this <;> simp[Bx.is]at this
      grind
     refine⟨l.pending,_,run_endLoop g3 J,?_⟩;obtain⟨s4,ah⟩:=s3.kill D;have T:¬hG μ3 (H2.set H.length .dead) (w.heap.size+1):=by
      rintro⟨id,q,ob,h1,h2,U,h4⟩
      by_cases e:id=H.length
      .subst e;rw[List.getElem?_set_self (ζe.1 D).1]at h1;cases h1;simp[Ob.live]at h2
      .rw[List.getElem?_set_ne (Ne.symm e)]at h1;exact e (s3.inj id H.length ob _ q _ h1 D h2 rfl U g1 h4)
     have s5:cT I3 μ3 (H2.set H.length .dead) (fT w3 (w.heap.size+1) (.loop { l with state:=.exhausted })):=s4.A8 _ g2 T;have st  := Step.trans s1 ad (Step.trans s2 st2 (Step.trans s3 S ah));have ai:Step I μ H w I3 μ3 (H2.set H.length .dead) (fT w3 (w.heap.size+1) (.loop { l with state:=.exhausted })):=st.after _ (by omega)
     have m2:jw B ({ target:=.collected w.heap.size,args:=#[] }::a.defers) ((w.alloc (.deferred (some []))).alloc (.loop { state:=.ready,pending:=none,fn:=A,tmps:=a.tmps,params:=ps,assign,body,defers:=w.heap.size })):=by
      refine⟨?_,?_⟩
      .intro d hd;rcases List.mem_cons.1 hd with rfl|hd
       .refine⟨w.heap.size,rfl,hB,?_⟩;rw[lS _ _ (by simp)];exact mY _
       .obtain⟨q,h1,h2,U⟩:=m.all d hd;have W:=(Array.getElem?_eq_some_iff.1 U).1;refine⟨q,h1,h2,?_⟩;rw[lS _ _ (by simp;omega),lS _ _ W];exact U
      .refine List.Pairwise.cons ?_ m.apart;intro d hd q W aa;obtain⟨q2,h1,h2,U⟩:=m.all d hd;have:=(Array.getElem?_eq_some_iff.1 U).1;cases W;rw[h1]at aa;cases aa;omega
     have m3:=m2.step s2 S;have m5:jw B ({ target:=.collected w.heap.size,args:=#[] }::a.defers) (fT w3 (w.heap.size+1) (.loop { l with state:=.exhausted })):=
      m3.A8 (λq W e=>by subst e;rw[g3]at W;cases W)
     have aj  := st.le;have ak  := st.mu;have z:∀C:Out,r2.pend.getD .norm=C->Post B n I μ H w C F (H2.set H.length .dead) C.HZ { a with defers:=[{ target:=.collected w.heap.size,args:=#[] }]++a.defers } (fT w3 (w.heap.size+1) (.loop { l with state:=.exhausted })):=
      λC _=>⟨rfl,⟨I3,μ3,r.mono aj ak,s5,ai⟩,m5⟩
     obtain⟨W5,ab⟩:∃W5,w3.putObj (w.heap.size+1) (.loop { l with state:=.exhausted })=W5:=⟨_,rfl⟩;have z:∀C:Out,r2.pend.getD .norm=C->Post B n I μ H w C F (H2.set H.length .dead) C.HZ { a with defers:=[{ target:=.collected w.heap.size,args:=#[] }]++a.defers } W5:=by
      intro C ho;rw[<-ab];exact z C ho
     rw[ab];obtain⟨k1,k2⟩:=Iz g4.pendOk;rw[g4.pend]
     cases hj:r2.pend.bind kV with
     | none=>rw[k1 hj];exact z .norm (k1 hj)
     | some c=>
      rcases k2 c hj with⟨rfl,e⟩|⟨id,rfl,e⟩
      .rw[e];exact wpIn_ret (z .ret e)
      .rw[e];exact wpIn_exit (z (.exit id) e)
   grind
  grind
 | _=>simp[exec,hg]at h
theorem zd (hE:eA P E) (hm:P.follows .mixedOrders=true) {call:dx} (hc:kQ P call) (lf:Nat) (ro:Option Nat) (U:Bool) (aa:U=ro.isSome) (n:Nat) :
 ∀(c:Code) (I:cu) (μ:Mu) (F:Frame) (H:bh) (a:Act) (w:World) (o:Out) (F':Frame) (H':bh),exec E call lf U n c F H=some (o,F',H')->d_ I μ n F a.tmps->cT I μ H w ->
  jw B a.defers w->B<=w.heap.size->c.wpIn (fr ro) 0 P (Post B n I μ H w o F' H') a w:=by
 intro c
 induction c with
 | skip=>
  intro I μ F H a w o F' H' h r s m _;obtain⟨rfl,rfl,rfl⟩:=h;exact wpIn_skip ⟨rfl,⟨I,μ,r,s,.refl _ _ _ _⟩,m⟩
 | label l=>
  intro I μ F H a w o F' H' h r s m _;obtain⟨rfl,rfl,rfl⟩:=h;exact wpIn_label ⟨rfl,⟨I,μ,r,s,.refl _ _ _ _⟩,m⟩
 | region id ops X=>
  intro I μ F H a w o F' H' h r s m _;simp only[exec,ζf]at h;obtain⟨⟨F2,H2⟩,h,rfl,rfl,rfl⟩:=h;refine G_ hE hm hc ro h r s (λa' I' μ' w' h1 z A Y=>⟨rfl,⟨I',μ',h1,A,Y⟩,?_⟩)
  rw[z];exact m.step s Y
 | seq x y C D=>
  intro I μ F H a w o F' H' h r s m u;simp[exec]at h;refine wpIn_seq ?_;split at h
  .rename_i F1 H1 h1;refine wpIn_mono (C I μ F H a w _ F1 H1 h1 r s m u) ?_;rintro e G J ⟨rfl,⟨I1,Z,r1,s1,L⟩,m1⟩;refine wpIn_mono (D I1 Z F1 H1 G J o F' H' h r1 s1 m1 (Nat.le_trans u L.size)) ?_;intro e a2 w2 hp;exact Post.mono s1 L hp
  .refine wpIn_mono (C I μ F H a w o F' H' h r s m u) ?_;rintro e G J ⟨rfl,z,A⟩
   cases o with
   | norm=>grind
   | exit id=>exact⟨rfl,z,A⟩
   | ret=>exact⟨rfl,z,A⟩
 | cond c x y C D=>
  intro I μ F H a w o F' H' h r s m u;simp[exec]at h;split at h
  .rename_i t S;have T:=(dw r S).rE;refine wpIn_cond T ?_
   grind
  grind
 | block id c Q=>
  intro I μ F H a w o F' H' h r s m u;simp[exec]at h;refine wpIn_block ?_;split at h
  .rename_i O F1 H1 h1;refine wpIn_mono (Q I μ F H a w _ F1 H1 h1 r s m u) ?_;rintro e G J ⟨rfl,z,A⟩;show Exit.inBlock id _ (.exit O) G J;unfold Exit.inBlock;split at h
   .rename_i W;obtain⟨rfl,rfl,rfl⟩:=h;simp[W];exact⟨rfl,z,A⟩
   .rename_i W;obtain⟨rfl,rfl,rfl⟩:=h;simp[W];exact⟨rfl,z,A⟩
  .refine wpIn_mono (Q I μ F H a w o F' H' h r s m u) ?_;rintro e G J ⟨rfl,z,A⟩
   cases o with
   | norm=>exact⟨rfl,z,A⟩
   | exit O=>grind
   | ret=>exact⟨rfl,z,A⟩
 | loop c Q=>
  intro I μ F H a w o F' H' h r s m u;exact LU (λI μ F H a w o F' H' h r s m u=>Q I μ F H a w o F' H' h r s m u) h r s m u
 | rangeFunc g ps assign body _ _=>
  intro I μ F H a w o F' H' h r s m u
  cases U with
  | true=>simp[exec]at h
  | false=>
   cases ro with
   | none=>exact Jd hc h r s m u
   | some l=>simp_all
 | exit id=>
  intro I μ F H a w o F' H' h r s m _;obtain⟨rfl,rfl,rfl⟩:=h;exact wpIn_exit ⟨rfl,⟨I,μ,r,s,.refl _ _ _ _⟩,m⟩
 | ret=>
  intro I μ F H a w o F' H' h r s m _;obtain⟨rfl,rfl,rfl⟩:=h;exact wpIn_ret ⟨rfl,⟨I,μ,r,s,.refl _ _ _ _⟩,m⟩
 | scope body _=>intro I μ F H a w o F' H' h;simp[exec]at h
 | goto l=>intro I μ F H a w o F' H' h;simp[exec]at h
 | refuse ab=>intro I μ F H a w o F' H' h;simp[exec]at h
end
end Go.VE
namespace Go.VE
variable [bW]
theorem sq {f g:V->Option V} (h:∀x y,f x=some y->g x=some y):∀{l:List V} {r:List V},iN f l=some r->iN g l=some r
 | [],_,hr=>hr
 | x::l,r,hr=>by
  simp only[iN]at hr ⊢;split at hr
  .rename_i y s h1 B;rw[h _ _ h1,sq h B];exact hr
  .cases hr
theorem HO {f g:V->Option V} (h:∀x y,f x=some y->g x=some y):∀{l:List (List V)} {r:List (List V)},lN f l=some r->lN g l=some r
 | [],_,hr=>hr
 | x::l,r,hr=>by
  simp only[lN]at hr ⊢;split at hr
  .rename_i y s h1 B;rw[sq h h1,HO h B];exact hr
  .cases hr
theorem Im {f g:V->Option V} (h:∀x y,f x=some y->g x=some y):∀{l:List (V×V)} {r:List (V×V)},lM f l=some r->lM g l=some r
 | [],_,hr=>hr
 | (k,x)::l,r,hr=>by
  simp only[lM]at hr ⊢;split at hr
  .rename_i y s u h1 B D;rw[h _ _ h1,h _ _ B,Im h D];exact hr
  .cases hr
theorem Ju {H:bh}:∀(n:Nat) (x y:V),borrow n H x=some y->borrow (n+1) H x=some y:=by
 intro n
 induction n with
 | zero=>
  intro x y h;simp only[borrow]at h;split at h
  .rename_i hc;rw[mI _ _ hc];exact h
  .cases h
 | succ n w=>
  intro x y h;unfold borrow at h ⊢;split
  .rename_i hc;rw[if_pos hc]at h;exact h
  .rename_i hc;rw[if_neg hc]at h
   cases x with
   | hsl id es off len=>
    simp only at h ⊢;split at h
    .split at h
     .rename_i q;rw[if_pos q];obtain⟨r,h1,u⟩:=ζf.1 h;rw[HO w h1];exact congrArg some u
     .cases h
    .cases h
   | hptr id el off=>
    simp only at h ⊢;split at h
    .split at h
     .split at h
      .rename_i q;rw[if_pos q];obtain⟨r,h1,u⟩:=ζf.1 h;rw[sq w h1];exact congrArg some u
      .cases h
     .cases h
    .cases h
   | hmap id=>
    simp only at h ⊢;split at h
    .obtain⟨r,h1,u⟩:=ζf.1 h;rw[Im w h1];exact congrArg some u
    .cases h
   | clo f a b=>
    simp only at h ⊢;split at h
    .rename_i h1 u;rw[sq w h1,sq w u];exact h
    .cases h
   | agg cs=>
    simp only at h ⊢;obtain⟨r,h1,u⟩:=ζf.1 h;rw[sq w h1];exact congrArg some u
   | tup cs=>
    simp only at h ⊢;obtain⟨r,h1,u⟩:=ζf.1 h;rw[sq w h1];exact congrArg some u
   | _=>cases h
theorem sy {H:bh} {n m:Nat} (h:n<=m) {x y:V} (B:borrow n H x=some y):borrow m H x=some y:=by
 induction h with
 | refl=>exact B
 | step _ u=>exact Ju _ _ _ u
theorem sN {H:bh} {n m:Nat} (h:n<=m) {l r:List V} (B:borrows n H l=some r):borrows m H l=some r:=sq (λ_ _=>sy h) B
theorem Cr {f g:V->List Nat}:∀{l:List V},(∀x∈l,f x=g x)->cN f l=cN g l
 | [],_=>rfl
 | x::l,h=>by simp only[cN];rw[h x (List.mem_cons_self ..),Cr λy B=>h y (List.mem_cons_of_mem _ B)]
theorem qc {f:V->Option V}:∀{l r:List V},iN f l=some r->∀x∈l,∃y,f x=some y
 | [],_,_,x,hx=>by cases hx
 | a::l,r,h,x,hx=>by
  simp only[iN]at h;split at h
  .rename_i y s h1 B;rcases List.mem_cons.1 hx with rfl|hx
   .exact⟨y,h1⟩
   .exact qc B x hx
  .cases h
theorem Fi {f:V->Option V}:∀{l r:List (List V)},lN f l=some r->∀c∈l,∀x∈c,∃y,f x=some y
 | [],_,_,x,B=>by cases B
 | a::l,r,h,c,hc=>by
  simp only[lN]at h;split at h
  .rename_i y s h1 D;rcases List.mem_cons.1 hc with rfl|hc
   .exact qc h1
   .exact Fi D c hc
  .cases h
theorem AE {f:V->Option V}:∀{l r:List (V×V)},lM f l=some r->∀c∈l,(∃y,f c.1=some y)/\∃y,f c.2=some y
 | [],_,_,x,B=>by cases B
 | (k,a)::l,r,h,c,hc=>by
  simp only[lM]at h;split at h
  .rename_i y s u h1 D G;rcases List.mem_cons.1 hc with rfl|hc
   .exact⟨⟨y,h1⟩,s,D⟩
   .exact AE G c hc
  .cases h
theorem KV {H:bh}:∀(n:Nat) (x y:V),borrow n H x=some y->ck (n+1) H x=ck n H x:=by
 intro n
 induction n with
 | zero=>
  intro x y h;simp only[borrow]at h;split at h
  .rename_i hc;simp[ck,hc]
  .cases h
 | succ n G=>
  intro x y h;have u:∀l:List V,(∀x∈l,∃y,borrow n H x=some y)->cN (ck (n+1) H) l=cN (ck n H) l:=λl I=>Cr λx w=>by
   obtain⟨y,J⟩:=I x w;exact G x y J
  unfold borrow at h;rw[ck.eq_def (n+1+1),ck.eq_def (n+1)];simp only;split
  .rfl
  .rename_i hc;rw[if_neg hc]at h
   cases x with
   | hsl id es off len=>
    simp only at h ⊢
    cases hr:(H[id]?).bind Ob.rows with
    | none=>rfl
    | some q=>
     obtain⟨B,L⟩:=q;rw[hr]at h;simp only at h ⊢;split at h
     .obtain⟨r,h1,z⟩:=ζf.1 h;rw[u _ λx w=>by
       obtain⟨c,hc,C⟩:=List.mem_flatten.1 w;exact Fi h1 c hc x C]
     .cases h
   | hptr id el off=>
    simp only at h ⊢
    cases hr:(H[id]?).bind Ob.rows with
    | none=>rfl
    | some q=>
     obtain⟨B,L⟩:=q;rw[hr]at h;simp only at h ⊢;split at h
     .rename_i cs D;split at h
      .obtain⟨r,h1,z⟩:=ζf.1 h;rw[u _ λx w=>qc h1 x (by rw[D]at w;exact w)]
      .cases h
     .cases h
   | hmap id=>
    simp only at h ⊢;split at h
    .rename_i A hk;obtain⟨r,h1,z⟩:=ζf.1 h
     skip
     rw[u (A.map (·.1)) λx w=>by obtain⟨c,hc,rfl⟩:=List.mem_map.1 w;exact(AE h1 c hc).1,
      u (A.map (·.2)) λx w=>by obtain⟨c,hc,rfl⟩:=List.mem_map.1 w;exact(AE h1 c hc).2]
    .cases h
   | clo f a b=>
    simp only at h ⊢;split at h
    .rename_i h1 z;rw[u _ (qc h1),u _ (qc z)]
    .cases h
   | agg cs=>
    simp only at h ⊢;obtain⟨r,h1,z⟩:=ζf.1 h;exact u _ (qc h1)
   | tup cs=>
    simp only at h ⊢;obtain⟨r,h1,z⟩:=ζf.1 h;exact u _ (qc h1)
   | _=>rfl
theorem Oj {H:bh} {n m:Nat} (h:n<=m) {x y:V} (B:borrow n H x=some y):ck m H x=ck n H x:=by
 induction h with
 | refl=>rfl
 | step h u=>rw[KV _ _ _ (sy h B),u]
theorem yS {H:bh} {n m:Nat} (h:n<=m) {l r:List V} (B:borrows n H l=some r):cN (ck m H) l=cN (ck n H) l:=
 Cr λx u=>by obtain⟨y,w⟩:=qc B x u;exact Oj h w
theorem ov {f g h:V->Option V} (k:∀x y z,f x=some y->g x=some z->h x=some z):∀{l r s:List V},iN f l=some r->iN g l=some s->iN h l=some s
 | [],_,_,_,B=>B
 | x::l,r,s,hr,B=>by
  simp only[iN]at hr B ⊢;split at hr
  .rename_i h1 D;split at B
   .rename_i G J;rw[k _ _ _ h1 G,ov k D J];exact B
   .cases B
  .cases hr
theorem Dv {f g h:V->Option V} (k:∀x y z,f x=some y->g x=some z->h x=some z):∀{l r s:List (List V)},lN f l=some r->lN g l=some s->lN h l=some s
 | [],_,_,_,B=>B
 | x::l,r,s,hr,B=>by
  simp only[lN]at hr B ⊢;split at hr
  .rename_i h1 D;split at B
   .rename_i G J;rw[ov k h1 G,Dv k D J];exact B
   .cases B
  .cases hr
theorem DJ {f g h:V->Option V} (k:∀x y z,f x=some y->g x=some z->h x=some z):∀{l r s:List (V×V)},lM f l=some r->lM g l=some s->lM h l=some s
 | [],_,_,_,B=>B
 | (a,x)::l,r,s,hr,B=>by
  simp only[lM]at hr B ⊢;split at hr
  .rename_i h1 D G;split at B
   .rename_i J U W;rw[k _ _ _ h1 J,k _ _ _ D U,DJ k G W];exact B
   .cases B
  .cases hr
theorem I9 {H H2:bh}:∀(n m:Nat) (x y z:V),borrow n H x=some y->borrow m H2 x=some z->(∀id:Nat,(H2[id]?).isSome=true->H2[id]? = H[id]?)->borrow n H2 x=some z:=by
 intro n
 induction n with
 | zero=>
  intro m x y z h k _;simp only[borrow]at h;split at h
  .rename_i hc;rw[mI _ _ hc]at k ⊢;exact k
  .cases h
 | succ n G=>
  intro m x y z h k A
  by_cases hc:x.closed=true
  .rw[mI _ _ hc]at k ⊢;exact k
  cases m with
  | zero=>simp only[borrow,if_neg hc]at k;cases k
  | succ m=>
   have u:∀x y z,borrow n H x=some y->borrow m H2 x=some z->borrow n H2 x=some z:=λx y z a b=>G m x y z a b A
   unfold borrow at h k ⊢;rw[if_neg hc]at h k ⊢;have row:∀id q,(H2[id]?).bind Ob.rows=some q->(H[id]?).bind Ob.rows=some q:=λid q B=>by
    rw[<-A id (by cases C:H2[id]? with|none=>rw[C]at B;cases B|some _=>rfl)];exact B
   cases x with
   | hsl id es off len=>
    simp only at h k ⊢;split at k
    .rename_i hr;rw[row _ _ hr]at h;simp only at h;split at k
     .rename_i q;rw[if_pos q]at h ⊢;obtain⟨r,h1,_⟩:=ζf.1 h;obtain⟨s,k1,w⟩:=ζf.1 k;rw[Dv u h1 k1];exact congrArg some w
     .cases k
    .cases k
   | hptr id el off=>
    simp only at h k ⊢;split at k
    .rename_i hr;rw[row _ _ hr]at h;simp only at h;split at k
     .rename_i D;rw[D]at h;simp only at h;split at k
      .rename_i q;rw[if_pos q]at h ⊢;obtain⟨r,h1,_⟩:=ζf.1 h;obtain⟨s,k1,w⟩:=ζf.1 k;rw[ov u h1 k1];exact congrArg some w
      .cases k
     .cases k
    .cases k
   | hmap id=>
    simp only at h k ⊢;split at k
    .rename_i hr;rw[<-A id (by rw[hr];rfl),hr]at h
     simp only at h;obtain⟨r,h1,_⟩:=ζf.1 h;obtain⟨s,k1,w⟩:=ζf.1 k;rw[DJ u h1 k1];exact congrArg some w
    .cases k
   | clo f a b=>
    simp only at h k ⊢;split at h
    .rename_i h1 C;split at k
     .rename_i k1 w;rw[ov u h1 k1,ov u C w];exact k
     .cases k
    .cases h
   | agg cs=>
    simp only at h k ⊢;obtain⟨r,h1,_⟩:=ζf.1 h;obtain⟨s,k1,w⟩:=ζf.1 k;rw[ov u h1 k1];exact congrArg some w
   | tup cs=>
    simp only at h k ⊢;obtain⟨r,h1,_⟩:=ζf.1 h;obtain⟨s,k1,w⟩:=ζf.1 k;rw[ov u h1 k1];exact congrArg some w
   | _=>cases h
end Go.VE
namespace Go.VE
variable [bW]
open Go.Proofs Go.Sort
structure Bk (P:Program) (f:FuncId):Prop where
 ok:yx P f
 zero:∀(p:Option Addr) (cap:Nat) (fv:Value) (w:World),Calls P f #[.slice p 0 cap,fv] w λe w'=>e=.returned (.tuple #[])/\w'=w
 all:∀{α:Type} [Inhabited α] (enc:α->Value) (_:OneCell enc) (cf:α->α->Int) (_:SWO (ltOf cf)) (g:Nat) (cb:Array Value) (blk off cap:Nat) (d:Array α) (w:World)
  (_:∀args w,(callFunc g args).run P w=.ok (.enter g args) w) (_:CmpLays1 P g cb enc cf blk off d.size w) (_:Holds enc w blk off d) (_:blk<w.heap.size) (_:d.size<4611686018427387904),
  Calls P f #[.slice (some ⟨blk,off,none⟩) d.size cap,.func (.func g) #[] cb] w λe w'=>
   e=.returned (.tuple #[])/\∃n os,w'=sortWorld enc w blk off n (pdq (ltOf cf) d 0 d.size (Lib.bitLen d.size) true true) os
theorem Km {α:Type} [Inhabited α] (lt:α->α->Bool):∀(k i:Nat) (d:Array α),Gy lt k i d=insOuter lt 0 (i+k) i d
 | 0,i,d=>by rw[insOuter];simp[Gy]
 | k+1,i,d=>by
  rw[insOuter,Gy,Km lt k]
  grind
theorem Qp (n:Nat) (lt:Fin (n+1)->Fin (n+1)->Bool):Lw n lt=pdq lt (List.finRange (n+1)).toArray 0 (n+1) (Lib.bitLen (n+1)) true true:=by
 unfold Lw;split
 .rw[pdq,if_pos (by omega),insertionSort,Km,Nat.add_comm 1 n]
 .rfl
theorem Da {n:Nat} {t:Fin (n+1)->Fin (n+1)->Option Int} (h:QV t=true):(∀i j,∃c,t i j=some c)/\SWO (xM t):=by
 have u:∀(p:Fin (n+1)->Bool),(List.finRange (n+1)).all p=true->∀i,p i=true:=λp h i=>List.all_eq_true.1 h i (List.mem_finRange i)
 have h1:=λi=>u _ h i
 simp only[ζh,Bool.not_eq_true']at h1;have w:=λi j=>u _ (h1 i).2 j
 simp only[ζh]at w;have z:=λi j k=>u _ (w i j).2 k
 refine⟨λi j=>Option.isSome_iff_exists.1 (w i j).1,λi=>(h1 i).1,λi j k a b=>?_,λi j k a b=>?_⟩
 .have:=z i j k;grind
 grind
section
variable {P:Program} {I I':cu} {μ μ':Mu} {H H':bh} {w w':World}
theorem ED (w:World) (os:Array Obj) (b:Nat) (h:b<w.heap.size):(grow w os).heap[b]? = w.heap[b]? := by
 unfold grow;grind
theorem Calls.fr {f:FuncId} {args:Array Value} {R:Ending->World->Prop} (h:Calls P f args w R):CallsIn (fr none) 0 P f args w R:=callsIn_wide.2 h
theorem CallsIn.un {f:FuncId} {args:Array Value} {R:Ending->World->Prop} (h:CallsIn (fr none) 0 P f args w R):Calls P f args w R:=callsIn_wide.1 h
theorem Qo {p:Pl} {c:Array Value} {xs:List (List V)} (B:p.es=1) (D:c.size=p.sz) (hr:p.o+xs.length<=c.size)
 (h:∀(i:Nat) x,xs[i]? = some x->∃v u,x=[v]/\V.one v=true/\c[p.o+i]? = some u/\bH I μ v u):gj I μ p c 1 xs:=by
 have hu:∀x∈xs,x.length=1:=λx w=>by
  obtain⟨i,hi⟩:=List.getElem?_of_mem w
  grind
 have A:xs.flatten.length=xs.length:=by rw[fM hu,Nat.mul_one]
 refine⟨B,D,hu,λx w y C=>?_,by omega,⟨?_,λj a b h1 G=>?_⟩⟩
 .obtain⟨i,hi⟩:=List.getElem?_of_mem w
  grind
 .grind
 .have z:j<xs.length:=by have:=(ζe.1 h1).1;omega
  obtain⟨v,u,e,_,J,L⟩:=h j xs[j] (by simp[z])
  have:=vO  hu (i:=j) (j:=0) (x:=xs[j])  (by simp[z]) (by rw[e];rfl)
  simp_all
theorem wh {p:Pl} {c:Array Value} {xs:List (List V)} (r:gj I μ p c 1 xs) (i:Nat) {x:List V} (h:xs[i]? = some x):∃v u,x=[v]/\V.one v=true/\c[p.o+i]? = some u/\bH I μ v u:=by
 have w:=List.mem_of_getElem? h;obtain⟨v,rfl⟩:=List.length_eq_one_iff.1 (r.pF x w);have hi:=(ζe.1 h).1;have z  := by have:=r.room;omega
 refine⟨v,c[p.o+i],rfl,r.one _ w v (by simp),by simp_all,?_⟩
 exact r.idx  (j:=0) h rfl (by simp_all)
theorem SZ {α:Type} [Inhabited α] (enc:α->Value) (blk o m:Nat) (B:Array α) (os:Array Obj) {b:Nat} (G:b<w.heap.size) (D:b≠blk):(sortWorld enc w blk o m B os).heap[b]? = w.heap[b]? := by
 unfold sortWorld;rw[ED _ _ _ (by simp_all)]
 simp[putRow,mapBlock,Sort.ahead,Array.getElem?_modify,if_neg (Ne.symm D)]
theorem Jj {α:Type} [Inhabited α] (enc:α->Value) {blk:Nat} (o m:Nat) (B:Array α) {c:Array Value} {el:TypeId} (h:w.heap[blk]? = some (.cells c el)) :
 putRow enc (Sort.ahead w m) blk o B=fT (Sort.ahead w m) blk (.cells (Sort.putCells enc o B c) el):=by
 unfold putRow mapBlock fT Sort.ahead
 congr 1
 obtain⟨u,e⟩:=Array.getElem?_eq_some_iff.1 h;apply Array.ext
 .simp
 .intro i h1 z
  by_cases hi:i=blk
  .subst hi;simp[Array.getElem_modify,e,onCells]
  grind
theorem Step.grown (st:Step I (λ_=>none) [] w I' μ' H' w'):∃q os,w'=grow (w.drewN q) os:=by
 refine⟨w'.drawn-w.drawn,w'.heap.extract w.heap.size w'.heap.size,?_⟩;have u:w'.heap=w.heap++w'.heap.extract w.heap.size w'.heap.size:=by
  apply Array.ext_getElem?;intro i
  by_cases hi:i<w.heap.size
  .rw[Array.getElem?_append_left hi];exact st.frame i hi (by rintro⟨id,p,ob,h,_⟩;simp at h)
  .rw[Array.getElem?_append_right (by omega)]
   simp[Array.getElem?_extract]
   by_cases B:i<w'.heap.size
   .rw[if_pos (by omega)];congr 1;omega
   .rw[if_neg (by omega),Array.getElem?_eq_none (by omega)]
 have h1:=st.os;have z:=st.out.out;have A:=st.out.tape;have C:=st.out.dr;unfold grow World.drewN;cases w';simp only at *;subst h1 z A;simp[World.mk.injEq];exact⟨u,by omega⟩
theorem L7 {call B:dx} {g:FuncId} {G D:List V} {n:Nat} (h:∀args y,cC call g args []=some y->cC B g args []=some y) {i j:Fin (n+1)} {z:Int} (J:j7 call g G D n i j=some z):j7 B g G D n i j=some z:=by
 unfold j7 at J ⊢
 grind
theorem Dg {keep:FuncId->Bool} {call B:dx} (D:call.lv<=B.lv) (h:∀g args y,keep g=false->cC call g args []=some y->cC B g args []=some y) {args:List V} {r:V×bh} (hr:vI keep call args H=some r):vI keep B args H=some r:=by
 unfold vI at hr ⊢;split at hr
 .split at hr
  .omega
  .omega
  .split at hr
   .omega
   .split at hr
    .rename_i n g cb _ L Q G;split at hr
     .rename_i u;split at hr
      .rename_i I w C A;rw[sN D C,sN D A];split at hr
       .rename_i O;have e:j7 B g I w n=j7 call g I w n:=by
         funext i j
         obtain⟨z,J⟩:=(Da O).1 i j;rw[J];exact L7 (λa y=>h g a y u.2.2.2.2) J
        grind
       simp_all
      simp_all
     simp_all
    simp_all
   simp_all
  simp_all
 simp_all
set_option maxHeartbeats 1000000 in
theorem Tl {call:dx} (hc:kQ P call) {f:FuncId} (hs:Bk P f) {args:List V} {r:V} {keep:FuncId->Bool} (h:vI keep call args H=some (r,H')) (s:cT I μ H w) {vs:List Value} (hv:cM I μ args vs) :
 CallsIn (fr none) 0 P f vs.toArray w (yp I μ H w r H'):=by
 unfold vI at h;split at h
 .rename_i sv cv;obtain⟨v1,r1,rfl,ab,aC⟩:=hv.cons_inv;obtain⟨v2,r2,rfl,aD,aE⟩:=aC.cons_inv;obtain rfl:=aE.vD;have S:∀p cap,v1=.slice p 0 cap->CallsIn (fr none) 0 P f [v1,v2].toArray w (yp I μ H w .undef H):=by
   rintro p cap rfl;refine Calls.fr ((hs.zero p cap v2 w).mono ?_);rintro e w' ⟨rfl,rfl⟩;exact⟨_,I,μ,rfl,bH.undef _ _,s,Step.refl _ _ _ _⟩
  split at h
  .cases h;exact S none 0 ab.mg
  .cases h;obtain⟨a,e⟩:=ab.rM;exact S a 0 e
  .rename_i id es off len;split at h
   .cases h;rcases ab.lZ with⟨p,cap,_,_,_,_,e⟩|⟨_,a,e⟩
    .exact S _ cap e
    .exact S _ 0 e
   .rename_i n g cb;split at h
    .rename_i aS O J;split at h
     .rename_i ak;obtain⟨rfl,rfl,aQ,hn,_⟩:=ak;split at h
      .rename_i Y C aF ap;split at h
       .rename_i aq;cases h;obtain⟨p,c,el,hp,hI,G,Q⟩:=s.obs id _ J;rcases ab.lZ with⟨q,cap,hq,aT,aR,aG,rfl⟩|⟨h0,_⟩
        .rw[hp]at hq;cases hq;obtain⟨va,vb,rfl,hva,ar⟩:=aD.kT;have au:va=#[]:=by have:=hva.vD;simpa using this
         subst au;have al:=(ζe.1 J).1;obtain⟨sk,_⟩:=s.kill J;generalize hT:cN (ck call.lv (H.set id .dead)) (((O.drop off).take (n+1)).flatten++cb)=T;have aH:plus I μ (H.set id .dead) w T p.b=none:=by
          cases A:plus I μ (H.set id .dead) w T p.b with
          | none=>rfl
          | some x=>
           exfalso;rcases zk (by rw[A];rfl)with h|⟨av,p',ob,_,g1,g2,g3,g4⟩
           .rw[hI]at h;cases h
           .have aw:av≠id:=by
             rintro rfl;rw[List.getElem?_set_self al]at g1;cases g1;simp[Ob.live]at g2
            rw[List.getElem?_set_ne (Ne.symm aw)]at g1;exact aw (s.inj av id ob (.row 1 O) p' p g1 J g2 rfl g3 hp g4)
         let enc:Fin (n+1)->Value:=λi=>(c[p.o+off*1+i.1]?).getD undef
         have Z:∀i:Fin (n+1),∃v,O[off+i.1]? = some [v]/\V.one v=true/\bH I μ v (enc i)/\c[p.o+off*1+i.1]? = some (enc i):=λi=>by
          obtain⟨v,u,e1,e2,e3,e4⟩:=wh Q (off+i.1) (x:=O[off+i.1]'(by omega)) (by simp)
          have e5:c[p.o+off*1+i.1]? = some u:=by rw[<-e3];congr 1;omega
          have e6:enc i=u:=by show (c[p.o+off*1+i.1]?).getD undef=u;rw[e5];rfl
          exact⟨v,by rw[<-e1];simp,e2,by rw[e6];exact e4,by rw[e5,e6]⟩
         have h1:OneCell enc:=λi=>by obtain⟨v,_,e2,e3,_⟩:=Z i;exact e3.one e2
         obtain⟨ax,ad⟩:=Da aq;obtain⟨aU,aI⟩:=iU aF;obtain⟨aJ,aK⟩:=iU ap;have ay:∀x∈(O.drop off).take (n+1),x.length=1:=λx A=>Q.pF x (List.mem_of_mem_drop (List.mem_of_mem_take A))
         have U:∀(i:Fin (n+1)) u,Y[i.1]? = some u->ez (plus I μ (H.set id .dead) w T) u (enc i):=λi u hu=>by
          obtain⟨x,A,am⟩:=aI i.1 u hu;obtain⟨v,e1,_,e3,_⟩:=Z i;have e4:((O.drop off).take (n+1))[i.1]? = some [v]:=by
           rw[List.getElem?_take,if_pos i.2,List.getElem?_drop];exact e1
          have e5:=vO (es:=1) ay (i:=i.1) (j:=0) e4 rfl;have e5:((O.drop off).take (n+1)).flatten[i.1]? = some v:=by simpa using e5
          rw[e5]at A;cases A;refine(uv sk T call.lv _ u _ am (λk hk=>?_) e3).1
          rw[<-hT];exact j8 (List.mem_append_left _ (List.mem_of_getElem? e5)) hk
         have aa:cM (plus I μ (H.set id .dead) w T) (λ_=>none) C vb.toList:=by
          refine⟨aJ.trans ar.1,λj a b k1 k2=>?_⟩
          obtain⟨x,A,am⟩:=aK j a k1;refine .c _ _ (uv sk T call.lv x a b am (λk hk=>?_) (ar.2 j x b A k2)).1
          rw[<-hT];exact j8 (List.mem_append_right _ (List.mem_of_getElem? A)) hk
         have ae:=(Array.getElem?_eq_some_iff.1 G).1
         let d:Array (Fin (n+1)):=(List.finRange (n+1)).toArray
         have an:d.size=n+1:=by simp[d]
         have hd:∀j:Fin (n+1),d[j.1]! = j:=λj=>by simp[d,getElem!_pos]
         have hg:∀i j:Fin (n+1),∃z,j7 call g Y C n i j=some z/\∃a b,Y[i.1]? = some a/\Y[j.1]? = some b/\cC call g (a::b::C) []=some (.int .i64 z):=λi j=>by
          obtain⟨z,hz⟩:=ax i j;have W:=hz;unfold j7 at W;split at W
          .rename_i a b ha X;split at W
           .rename_i z' B;cases W;exact⟨z,hz,a,b,ha,X,B⟩
           .cases W
          .cases W
         have aL:yx P g:=by
          obtain⟨z,_,a,b,ha,X,B⟩:=hg 0 0;have s0:cT (plus I μ (H.set id .dead) w T) (λ_=>none) [] w:=⟨λ_ _=>rfl,tv sk T,by simp,by simp,sk.gl.mono (o9 _ _ _ _ _)⟩
          exact(Dk hc B s0 (.cons (.c _ _ (U 0 a ha)) (.cons (.c _ _ (U 0 b X)) aa))).1
         have key:=hs.all enc h1 (λi j=>(j7 call g Y C n i j).getD 0) ad g vb p.b (p.o+off*1) cap d w (λargs w=>xI aL args) (by
          intro m os D aV i j;obtain⟨z,hz,a,b,ha,X,B⟩:=hg i j;have s0:cT (plus I μ (H.set id .dead) w T) (λ_=>none) [] (sortWorld enc w p.b (p.o+off*1) m D os):=
           ⟨λ_ _=>rfl,λb x X=>IC.rZ (tv sk T b x X) (SZ enc p.b _ m D os (IC.tR (tv sk T b x X)) (by rintro rfl;rw[aH]at X;cases X)),by simp,by simp,sk.gl.mono (o9 _ _ _ _ _)⟩
          have:=CallsIn.un (Dk hc B s0 (vs:=enc i::enc j::vb.toList) (.cons (.c _ _ (U i a ha)) (.cons (.c _ _ (U j b X)) aa))).2;rw[show (enc i::enc j::vb.toList).toArray=#[enc i,enc j]++vb by apply Array.ext';simp]at this
          refine this.mono ?_;rintro e w' ⟨u,I1,μ1,rfl,hu,s1,st⟩;exact⟨by rw[hu.fC];show _=Ending.returned (.int .i64 ((j7 call g Y C n i j).getD 0));rw[hz];rfl,st.grown⟩) (by
          intro j hj;have aA:j<n+1:=by omega
          obtain⟨v,_,_,_,e4⟩:=Z ⟨j,aA⟩;rw[hd ⟨j,aA⟩];exact⟨by rw[vK G];exact e4,by simp[World.frozen?,G]⟩) ae (by omega)
         rw[an]at key;refine Calls.fr (key.mono ?_);rintro e w' ⟨rfl,m,os,rfl⟩;have aM:ltOf (λi j=>(j7 call g Y C n i j).getD 0)=xM (j7 call g Y C n):=rfl
         rw[aM,Qp];have af:=pdq_sorts (xM (j7 call g Y C n)) ad d 0 d.size (Lib.bitLen d.size) true true (Nat.zero_le _) (Nat.le_refl _) (Or.inl rfl);rw[an]at af;have L:=af.1.1;change yp I μ H w .undef (H.set id (.row 1 (yO O off n (pdq (xM (j7 call g Y C n)) d 0 (n+1) (Lib.bitLen (n+1)) true true).toList))) _ _;generalize pdq (xM (j7 call g Y C n)) d 0 (n+1) (Lib.bitLen (n+1)) true true=D at L;rw[an]at L;unfold sortWorld;rw[Jj enc _ m D G];have s1:cT I μ H (Sort.ahead w m):=s.oV rfl;have aN:Step I μ H w I μ H (Sort.ahead w m):=Step.oV rfl rfl ⟨rfl,rfl,Nat.le_add_right _ _⟩;have ah:(Sort.putCells enc (p.o+off*1) D c).size=c.size:=by simp[Sort.putCells]
         have ai:∀i:Nat,(i<p.o+off*1\/p.o+off*1+(n+1)<=i)->(Sort.putCells enc (p.o+off*1) D c)[i]? = c[i]? := λi hi=>by
          simp only[Sort.putCells,Array.getElem?_mapIdx];rw[L]
          cases c[i]? with
          | none=>rfl
          | some y=>simp only[Option.map_some];rw[if_neg (by omega)]
         have ao:∀i:Fin (n+1),(Sort.putCells enc (p.o+off*1) D c)[p.o+off*1+i.1]? = some (enc D[i.1]!):=λi=>by
          obtain⟨v,_,_,_,e4⟩:=Z i;simp only[Sort.putCells,Array.getElem?_mapIdx,e4,Option.map_some];rw[if_pos ⟨by omega,by rw[L];omega⟩]
          congr 3;omega
         have aB:=Q.room;have aO:(yO O off n D.toList).length=O.length:=by simp[yO,L];omega
         obtain⟨s2,st2⟩:=s1.write (o:=.cells (Sort.putCells enc (p.o+off*1) D c) el) (ob':=.row 1 (yO O off n D.toList)) J rfl hp
          ⟨p,_,el,hp,hI,ir _ ae,Qo Q.es_eq (by rw[ah];exact Q.sz) (by rw[aO,ah];omega) λi x A=>by
           unfold yO at A
           by_cases c1:i<off
           .rw[List.append_assoc,List.getElem?_append_left (by simp;omega),List.getElem?_take,if_pos c1]at A
            obtain⟨v,u,e1,e2,e3,e4⟩:=wh Q i A;exact⟨v,u,e1,e2,by rw[ai _ (by omega)];exact e3,e4⟩
           .by_cases c2:i<off+(n+1)
            .rw[List.getElem?_append_left (by simp[L];omega),List.getElem?_append_right (by simp;omega)]at A
             have aj:i-off<D.size:=by omega
             have e0:(O.take off).length=off:=by simp;omega
             simp only[e0,List.getElem?_map,Array.getElem?_toList]at A;rw[Array.getElem?_eq_getElem aj]at A;simp only[Option.map_some,ζa]at A;obtain⟨v,e1,e2,e3,e4⟩:=Z D[i-off];rw[e1]at A;simp only[Option.getD_some]at A;refine⟨v,enc D[i-off],A.symm,e2,?_,e3⟩;have:=ao ⟨i-off,by omega⟩
             simp only[getElem!_pos D (i-off) aj]at this;rw[<-this];congr 1;omega
            .rw[List.getElem?_append_right (by simp[L];omega),List.getElem?_drop]at A
             have e0:off+(n+1)+(i-((O.take off)++D.toList.map (λi=>(O[off+i.1]?).getD [])).length)=i:=by simp[L];omega
             rw[e0]at A;obtain⟨v,u,e1,e2,e3,e4⟩:=wh Q i A;exact⟨v,u,e1,e2,by rw[ai _ (by omega)];exact e3,e4⟩⟩
         have hk:∀b,b<(fT (Sort.ahead w m) p.b (.cells (Sort.putCells enc (p.o+off*1) D c) el)).heap.size->(grow (fT (Sort.ahead w m) p.b (.cells (Sort.putCells enc (p.o+off*1) D c) el)) os).heap[b]? = (fT (Sort.ahead w m) p.b (.cells (Sort.putCells enc (p.o+off*1) D c) el)).heap[b]? := λb X=>ED _ _ _ X
         have aP:=Step.kept (I:=I) (μ:=μ) (H:=H.set id (.row 1 (yO O off n D.toList))) hk (by simp[grow]) rfl ⟨rfl,rfl,Nat.le_refl _⟩ (λa ha h=>by unfold World.frozen? at h ⊢;rw[hk _ ha];exact h)
         exact⟨_,I,μ,rfl,bH.undef _ _,s2.kept hk,Step.trans s1 aN (Step.trans s2 st2 aP)⟩
        .cases h0
       .cases h
      .cases h
     .cases h
    .cases h
   .cases h
  .cases h
 .cases h
end
def Cy (P:Program) (f:FuncId) (args:List V) (y:V):Prop:=yx P f/\∀I μ H w u,cT I μ H w->cM I μ args u->CallsIn (fr none) 0 P f u.toArray w (yp I μ H w y H)
theorem Nf {P:Program} {call:dx} (hc:kQ P call) {f:FuncId} {b:Bool} {H':bh} (h:call (.fn f) [] []=some (.bool b,H')):Cy P f [] (.bool b):=by
 have hi:∀H,cC call f [] H=some (.bool b):=by
  intro H;unfold cC;rw[show borrows call.lv H []=some []from rfl];simp only[h,mI _ H' (show (V.bool b).closed=true from rfl)];rfl
 refine⟨?_,λI μ H w u s hv=>(Dk hc (hi H) s hv).2⟩
 obtain⟨h1,_⟩:=hc.fn _ _ _ _ _ h;omega
structure T6 (P:Program) (E:Env):Prop where
 sort:∀f,E.sort f=true->Bk P f
 known:∀f args y,E.known f args=some y->Cy P f args y
end Go.VE
namespace Go.VE
variable [bW]
section
variable {P:Program} {E:Env} {I I':cu} {μ μ':Mu} {H H':bh} {n B:Nat} {F F':Frame} {a:Act} {w w':World}
theorem JC:∀(F:Frame) (t:Nat),F.length<=t->get F t=.undef
 | [],_,_=>rfl
 | _::_,0,h=>by simp_all
 | _::r,i+1,h=>JC r i (by grind)
theorem Gz:∀(F:Frame) (t:Nat) (x:V),F[t]? = some x->get F t=x
 | [],_,_,h=>by simp_all
 | _::_,0,_,h=>by simpa [get]using h
 | _::r,i+1,x,h=>Gz r i x (by grind)
theorem Ls (hg:tP I) {args:List V} {vs:List Value} {nt:Nat} (h:cM I μ args vs) (B:args.length<=nt) :
 d_ I μ nt args (vs.toArray++Array.replicate (nt-vs.toArray.size) undef):=by
 have u  := h.1;refine⟨by simp_all,λt=>?_,hg⟩
 by_cases A:t<args.length
 .have h1:args[t]? = some args[t]:=by simp_all
  have w:t<vs.length:=by omega
  have z:vs[t]? = some vs[t]:=by simp_all
  rw[Gz _ _ _ h1];have:(vs.toArray++Array.replicate (nt-vs.toArray.size) undef).getD t undef=vs[t]:=by
   rw[Array.getD_eq_getD_getElem?,Array.getElem?_append_left (by grind)]
   simp_all
  rw[this];exact h.2 t _ _ h1 z
 .rw[JC _ _ (by omega)]
  have:(vs.toArray++Array.replicate (nt-vs.toArray.size) undef).getD t undef=undef:=by
   rw[Array.getD_eq_getD_getElem?,Array.getElem?_append_right (by simp_all),Array.getElem?_replicate]
   grind
  rw[this];exact bH.undef _ _
theorem Oz (r:d_ I μ n F a.tmps) {t:Nat} {x:V} {v:Value} (B:t<n) (h:bH I μ x v):d_ I μ n (set F t x) (a.tmps.setIfInBounds t v):=by
 have:=d_.put  (dst:=some t) r h (F':=set F t x) (by simp[jX,B])
 simpa [Act.put]using this
theorem BP:∀(ps:List Nat) (xs:List V) (vs:List Value) (F:Frame) (tmps:Array Value),d_ I μ n F tmps->cM I μ xs vs->ps.all (·<n)=true ->
 d_ I μ n (x_ ps xs F) ((ps.zip vs).foldl (λtmps (t,a)=>tmps.setIfInBounds t a) tmps)
 | [],_,_,F,tmps,r,_,_=>by simpa [x_]using r
 | t::ps,[],[],F,tmps,r,_,_=>by simpa [x_]using r
 | t::ps,[],v::vs,F,tmps,r,h,_=>by have:=h.1;grind
 | t::ps,x::xs,[],F,tmps,r,h,_=>by have:=h.1;grind
 | t::ps,x::xs,v::vs,F,tmps,r,h,u=>by
  simp only[List.all_cons,ζh,decide_eq_true_eq]at u;have h0  := h.2 0 x v rfl rfl;have w:cM I μ xs vs:=⟨by have:=h.1;grind,λj a b h1 z=>h.2 (j+1) a b (by grind) (by grind)⟩
  exact BP ps xs vs _ _ (Oz (a:={ tmps:=tmps,defers:=[] }) r u.1 h0) w u.2
theorem Ib {α β:Type} (g:α->Sem β):∀(l:List α) (w:World) (B:List β),B.length=l.length->(∀(j:Nat) x y,l[j]? = some x->B[j]? = some y->(g x).run P w=.ok y w)->(l.mapM g).run P w=.ok B w
 | [],w,[],_,_=>by simp
 | [],w,_::_,h,_=>by simp_all
 | _::_,w,[],h,_=>by simp_all
 | x::l,w,y::B,h,hg=>by
  have h0:=hg 0 x y rfl rfl;have u:=Ib g l w B (by grind) (λj a b h1 z=>hg (j+1) a b (by grind) (by grind))
  simp_all
def KS (tmps:Array Value):ResultVar->Sem Value
 | .tmp t=>pure (tmps.getD t undef)
 | .cell a t=>do loadVar t (<-asAddr (tmps.getD a undef))
theorem KI (fn:Func) (tmps:Array Value):results fn tmps=(fn.results.mapM (KS tmps) >>= λvs=>pure (if h:vs.size=1 then vs[0]else .tuple vs)):=by
 congr 1
theorem KD (U:eA P E) {fn:Func} {tmps:Array Value} (r:d_ I μ n F tmps) (s:cT I μ H w) {vs:List V} (h:jK E F H fn.results.toList=some vs) :
 ∃u,(results fn tmps).run P w=.ok u w/\bH I μ (result vs) u:=by
 have key:∀(l:List ResultVar) (vs:List V),jK E F H l=some vs->∃z:List Value,z.length=l.length/\cM I μ vs z /\
  ∀(j:Nat) x y,l[j]? = some x->z[j]? = some y->(KS tmps x).run P w=.ok y w:=by
  intro l
  induction l with
  | nil=>intro vs h;simp[jK]at h;subst h;exact⟨[],rfl,.nil,by simp⟩
  | cons x l T=>
   intro vs h
   cases x with
   | tmp t=>
    simp only[jK,ζf]at h;obtain⟨C,h,rfl⟩:=h;obtain⟨z,h1,B,O⟩:=T C h;refine⟨tmps.getD t undef::z,by simp_all,.cons (r.2 t) B,?_⟩
    intro j x y G J
    cases j with
    | zero=>simp at G J;subst G;subst J;simp[KS]
    | succ j=>grind
   | cell p t=>
    simp only[jK]at h;split at h
    .rename_i d C hd Q;simp only[ζf]at h;obtain⟨v,hv,rfl⟩:=h;obtain⟨z,h1,B,O⟩:=T C Q;obtain⟨u,_,hu,W,S,D⟩:=CP U s hd (r.2 p) hv;refine⟨u::z,by simp_all,.cons hu B,?_⟩
     intro j x y G J
     cases j with
     | zero=>
      simp only[List.getElem?_cons_zero,ζa]at G J;subst G;subst J;have e:(do loadVar t (<-asAddr (tmps.getD p undef))).run P w=(loadVar t W).run P w:=by rw[Sem.run_bind,S];rfl
      exact e.trans D
     | succ j=>grind
    grind
 obtain⟨z,h1,B,O⟩:=key _ _ h;have Y:=Ib  _ fn.results.toList w z h1 O;have X:(fn.results.mapM (KS tmps)).run P w=.ok z.toArray w:=by
  rw[Array.mapM_eq_mapM_toList];simp_all
 have L:z.length=vs.length:=B.1.symm;rw[KI,Sem.run_bind,X]
 by_cases A:z.length=1
 .obtain⟨u,rfl⟩:=List.length_eq_one_iff.1 A;obtain⟨v,rfl⟩:=List.length_eq_one_iff.1 (L▸A);exact⟨u,by simp,by simpa [result]using B.2 0 v u rfl rfl⟩
 .refine⟨.tuple z.toArray,by simp_all,?_⟩
  have hr:result vs=.tup vs:=by
   match vs,L with
   | [],_=>rfl
   | [_],h=>exact absurd h A
   | _::_::_,_=>rfl
  rw[hr];exact .tup _ _ (by simpa using B.1) (by simpa using B.2)
theorem NP (G:eA P E) {fn:Func} {tmps:Array Value} {vs:List V} (h:jK E F H' fn.results.toList=some vs) (U:w.heap.size<=B):∀(ds:List Deferred) (w':World),
 d_ I' μ' n F tmps->cT I' μ' H' w'->Step I μ H w I' μ' H' w'->jw B ds w' ->
 LeavesInM (fr none) 0 P fn tmps (yp I μ H w (result vs) H') ds .returning w':=by
 intro ds
 induction ds with
 | nil=>
  intro w' r s st m;obtain⟨u,hu,hv⟩:=KD G r s h;exact⟨u,hu,u,I',μ',rfl,hv,s,st⟩
 | cons d ds J=>
  intro w' r s st m;obtain⟨q,h1,Q,C⟩:=m.all d (by simp)
  refine⟨by simp,.inl ⟨q,_,h1,run_takeDeferred C,?_⟩⟩
  have z:=uo s C;have L:=RQ s C (by simp) (by simp)
  have m':jw B ds w':=⟨λd hd=>m.all d (List.mem_cons_of_mem _ hd),(List.pairwise_cons.1 m.apart).2⟩
  refine J (fT w' q (.deferred none)) r (s.A8 _ L z) (st.after _ (by omega)) ⟨λD A=>?_,m'.apart⟩
  obtain⟨O,g1,g2,g3⟩:=m'.all D A;refine⟨O,g1,g2,?_⟩;rw[gy _ ?_];exact g3;rintro rfl;exact(List.pairwise_cons.1 m.apart).1 D A _ h1 g1
theorem D4 (o:Out):(kV o).isNone=(o==.norm):=by
 cases o <;> simp[kV] <;> rfl
theorem EZ (U:eA P E) (hm:P.follows .mixedOrders=true) (hS:T6 P E):∀n,kQ P (run E n):=by
 intro n
 induction n with
 | zero=>exact⟨λ_ _ _ _ _ h=>(by cases h),λ_ _ _ _ _ h=>(by cases h)⟩
 | succ n B=>
  constructor
  .intro f args H r H' h;rw[Gd]at h;simp[kW]at h;split at h
   .rename_i G ab;obtain⟨fn,hf,hb,ad,S,J⟩:=U.ft f G ab;refine⟨⟨fn,hf,by simp_all,J⟩,?_⟩
    intro I μ w A s hv;split at h
    .rename_i u;have main:∀o F' H2 rs,exec E (run E n) n false G.ntmps G.body args H=some (o,F',H2)->(∀id,o≠.exit id)->jK E F' H2 G.results=some rs->CallsIn (fr none) 0 P f A.toArray w (yp I μ H w (result rs) H2):=by
      intro o F' H2 rs hx ak hr;refine callsIn_of_wp_marks hf hb trivial ?_;rw[ad];have r0:=Ls s.gl hv u;have:=zd  U hm B n none false rfl G.ntmps G.body I μ args H { tmps:=A.toArray++Array.replicate (G.ntmps-A.toArray.size) undef,defers:=[] } w o F' H2 hx r0 s ⟨by simp,.nil⟩ (Nat.le_refl _)
      refine wpIn_mono this ?_;rintro e a1 T ⟨rfl,⟨I1,μ1,r1,s1,z⟩,m1⟩;have hl:=NP  U  (by rw[S];omega) (Nat.le_refl _) a1.defers T r1 s1 z m1
      cases o with
      | norm=>exact hl
      | ret=>exact hl
      | exit id=>grind
     split at h
     .simp_all
     .simp  at h
      grind
     grind
    grind
   .split at h
    .rename_i hs;exact⟨(hS.sort f hs).ok,λI μ w A s hv=>Tl B (hS.sort f hs) h s hv⟩
    .obtain⟨yy,he,h⟩:=ζf.1 h;cases h;exact⟨(hS.known f args _ he).1,λI μ w A s hv=>(hS.known f args _ he).2 I μ H w A s hv⟩
  .intro id args H r H' h I μ w A p s hv hp;rw[Gd]at h;simp only[kW]at h;split at h
   .rename_i rec W;split at h
    .split at h
     .rename_i u;split at h
      .rename_i F2 H2 ae;split at h
       .rename_i r2 X;split at h
        .rename_i Y;split at h
         .rename_i o F4 H4 af;split at h
          .rename_i r4 Z;obtain⟨rfl,rfl⟩:=h;obtain⟨q,l,g1,g2,g3,g4⟩:=Bf s W;rw[hp]at g1;cases g1;have ah:l.params.size=rec.params.length:=by have:=congrArg List.length g4.params;grind
           have ai:A.toArray.size=l.params.size:=by
            rw[ah,<-u.1];simpa using hv.1.symm
           refine⟨p.b,l.fn,_,l.assign,l.body,run_yield g3 ai,?_⟩;refine roundIn_of_wpIn trivial ?_;have L:(l.params.zip A.toArray).foldl (λtmps x=>tmps.setIfInBounds x.1 x.2) l.tmps=(rec.params.zip A).foldl (λtmps x=>tmps.setIfInBounds x.1 x.2) l.tmps:=by
            rw[<-Array.foldl_toList,Array.toList_zip,g4.params]
           have r0:=BP rec.params args A rec.frame l.tmps g4.frame hv u.2;rw[<-L]at r0;have T:=zd  U hm B n (some p.b) true rfl rec.nt rec.assign I μ _ H { tmps:=_,defers:=[] } w _ _ _ ae r0 s ⟨by simp,.nil⟩ (Nat.le_refl _)
           rw[g4.assign,g4.body];refine wpIn_mono T ?_;rintro e a1 T ⟨rfl,⟨I1,μ1,r1,s1,z⟩,m1⟩;obtain⟨q,l2,k1,k2,k3,O⟩:=Bf s1 X;rw[z.mu _ _ hp]at k1;cases k1;have C:l2.state=.ready:=by
            have:=O.st;rw[Y]at this;cases hl:l2.state <;> rw[hl]at this <;> simp[Bx.is]at this
           refine⟨_,run_beginRound k3 C,?_⟩;have D  := z.mu _ _ hp;obtain⟨s2,st2⟩:=s1.write  (ob':=.loop { r2 with st:=.busy }) X rfl D
            ⟨p,{ l2 with state:=.busy },D,k2,ir _ (Array.getElem?_eq_some_iff.1 k3).1,⟨trivial,O.pend,O.pendOk,O.frame,O.params,O.assign,O.body⟩⟩
           have m2  := m1.step s1 st2;have w2:=zd  U hm B n (some p.b) true rfl rec.nt rec.body I1 μ1 F2 _ a1 (fT T p.b (.loop { l2 with state:=.busy })) o F4 H4 af r1 s2 m2 (by rw[wZ];exact z.size)
           refine wpIn_mono w2 ?_;rintro e a3 w3 ⟨rfl,⟨I3,μ3,r3,s3,Q⟩,m3⟩;obtain⟨q,l4,j1,j2,j3,j4⟩:=Bf s3 Z;rw[Q.mu _ _ D]at j1;cases j1;have aa  := Q.mu _ _ D;have fin:∃v w',(Instr.endRound p.b (kV o)).run P w3=.ok v w'/\yp I μ H w (.bool (o==.norm)) (H4.set id (.loop { r4 with st:=(if o==.norm then .ready else .done),pend:=(if o==.norm then none else some o) })) (.returned v) w':=by
            refine⟨_,_,run_endRound (kV o) j3,?_⟩;obtain⟨s4,aj⟩:=s3.write  (ob':=.loop { r4 with st:=(if o==.norm then .ready else .done),pend:=(if o==.norm then none else some o) }) Z rfl aa
             ⟨p,{ l4 with state:=if(kV o).isNone then .ready else .done,pending:=kV o },aa,j2,ir _ (Array.getElem?_eq_some_iff.1 j3).1,⟨by cases o <;> exact trivial,by cases o <;> rfl,by cases o <;> simp,j4.frame,j4.params,j4.assign,j4.body⟩⟩
            refine⟨_,I3,μ3,rfl,?_,s4,Step.trans s1 z (Step.trans s2 st2 (Step.trans s3 Q aj))⟩;rw[D4];exact .c _ _ (.bool _)
           cases o with
           | norm=>exact fin
           | ret=>exact fin
           | exit id=>exact fin
          grind
         grind
        grind
       grind
      grind
     grind
    grind
   grind
end
end Go.VE
namespace Go.VE
variable [bW]
variable {P:Program}
theorem pW.L8 {t:TypeId} {d:TD} (h:wj P t=some d):pW P t d:=
 eA.ty (E:={ tt:=wj P,ft:=λ_=>none,keep:=λ_=>false,own:=λ_=>false,eqN:=λ_=>none,sort:=λ_=>false }) ⟨λ_ _ h=>h,by simp,by simp⟩ h
theorem rI {i:TypeId} {cs:Array Value} {o:Nat} {v:Value} {w:World} (hi:wj P i=some ⟨1,8,[.int .i64 0],.int .i64⟩) (h:cs[o]? = some v):(part i cs o).run P w=.ok v w:=by
 unfold part;simp[Sem.run_bind,(pW.L8 hi).K3,Result.andThen,TD.agg,h]
theorem tw {a:List Int} (h:a.length=2):∃x y,a=[x,y]:=by
 match a,h with
 | [x,y],_=>exact⟨x,y,rfl⟩
theorem zS (d:Nat) (e:Bool) {i:TypeId} (x:Int) {w:World} (B:P.underlying i=some (.int .i64)):(Instr.checkKey e (d+1) i (.int .i64 x)).run P w=.ok () w:=by
 simp only[Instr.checkKey,Sem.run_bind,dJ B,Result.andThen_ok,Sem.run_pure]
theorem Ip (d:Nat) (e:Bool) {t i:TypeId} {f g:Field} (x y:Int) {w:World} (hu:P.underlying t=some (.struct #[f,g])) (D:f.type=i) (hg:g.type=i) (of:f.offset=0) (G:g.offset=1) (nf:f.name ≠ "_") (J:g.name ≠ "_")
 (hi:wj P i=some ⟨1,8,[.int .i64 0],.int .i64⟩) (B:P.underlying i=some (.int .i64)):(Instr.checkKey e (d+1+1) t (.agg (ic [x,y]))).run P w=.ok () w:=by
 have u:∀w,(part i (ic [x,y]) 0).run P w=.ok (.int .i64 x) w:=λw=>rI hi rfl
 have p1:∀w,(part i (ic [x,y]) 1).run P w=.ok (.int .i64 y) w:=λw=>rI hi rfl
 have q:∀(x:Int) w,(Instr.checkKey e (d+1) i (.int .i64 x)).run P w=.ok () w:=λx w=>zS d e x B
 unfold Instr.checkKey;simp only[Sem.run_bind,dJ hu,Result.andThen_ok];rw[<-Array.forIn_toList];simp only[List.forIn_cons,List.forIn_nil,Sem.run_bind,D,hg,of,G,nf,J,ne_eq,not_false_eq_true,if_true,u,p1,q,Result.andThen_ok,Sem.run_pure]
theorem vR.two {t i:TypeId} {f g:Field} (hu:P.underlying t=some (.struct #[f,g])) (U:f.type=i) (hg:g.type=i) (of:f.offset=0) (W:g.offset=1) (nf:f.name ≠ "_") (Y:g.name ≠ "_")
 (hi:wj P i=some ⟨1,8,[.int .i64 0],.int .i64⟩) (D:P.underlying i=some (.int .i64)) (hs:P.stoodInHeld t=false) (hq:P.eqGuardType P.depth t=false):vR P t 2:=by
 have G:P.fieldsOf t=#[f,g]:=by unfold Program.fieldsOf;rw[hu]
 have A:∀(w:World) (x y z u:Int),(Op.equal t (.agg (ic [x,y])) (.agg (ic [z,u]))).run P w=.ok ([x,y]==[z,u]) w:=by
  intro w x y z u;show (Op.equalIn (9999+1) t _ _).run P w=_;rw[run_equalIn_struct w 9999 t _ _ (by rw[G];exact hu) hs,G]
  have O:∀(x y:Int) w,(part i (ic [x,y]) 0).run P w=.ok (.int .i64 x) w:=λx y w=>rI hi rfl
  have p1:∀(x y:Int) w,(part i (ic [x,y]) 1).run P w=.ok (.int .i64 y) w:=λx y w=>rI hi rfl
  have q:∀(x y:Int) w,(Op.equalIn 9999 i (.int .i64 x) (.int .i64 y)).run P w=.ok (x==y) w:=λx y w=>BD 9998 x y D
  simp only[Op.eqFields,U,hg,of,W,nf,Y,ne_eq,not_false_eq_true,if_true,Sem.run_bind,O,q,Result.andThen_ok]
  by_cases B:x=z
  .by_cases I:y=u
   .subst B;subst I;simp[Sem.run_bind,p1,q,Result.andThen]
   .subst B;have:(y==u)=false:=by simpa using I
    simp[Sem.run_bind,p1,q,Result.andThen,this]
  .have:(x==z)=false:=by simpa using B
   simp[this]
 have J:∀(op:BinOp) (p q:Operand) (w:World) (u v:Array Value),(eqGuard op t p q (.agg u) (.agg v)).run P w=.ok () w:=by
  intro op p q w u v;unfold eqGuard;cases op <;> simp[Sem.run_bind,run_program,Result.andThen,hq]
 refine⟨?_,?_,?_,?_,⟨_,hu,.inr ⟨_,rfl⟩⟩⟩
 .intro w p q a b C L;obtain⟨x,y,rfl⟩:=tw C;obtain⟨z,u,rfl⟩:=tw L;rw[Sem.run_bind,J,Result.andThen_ok];show (do pure (Value.bool (<-Op.equal t (.agg (ic [x,y])) (.agg (ic [z,u])))):Sem Value).run P w=_
  rw[Sem.run_bind,A];rfl
 .intro w p q a b C L;obtain⟨x,y,rfl⟩:=tw C;obtain⟨z,u,rfl⟩:=tw L;rw[Sem.run_bind,J,Result.andThen_ok];show (do pure (Value.bool (!(<-Op.equal t (.agg (ic [x,y])) (.agg (ic [z,u]))))):Sem Value).run P w=_
  rw[Sem.run_bind,A];rfl
 .intro w a b C L;obtain⟨x,y,rfl⟩:=tw C;obtain⟨z,u,rfl⟩:=tw L;exact A w x y z u
 .intro w e a C;obtain⟨x,y,rfl⟩:=tw C;exact Ip 9998 e x y hu U hg of W nf Y hi D
def lk {α:Type}:List (Nat×α)->Nat->Option α
 | [],_=>none
 | (k,v)::r,n=>bif Nat.beq k n then some v else lk r n
theorem Nc {α:Type}:∀{l:List (Nat×α)} {n:Nat} {v:α},lk l n=some v->(n,v)∈l
 | [],_,_,h=>by simp[lk]at h
 | (k,x)::r,n,v,h=>by
  simp only[lk]at h
  cases hk:Nat.beq k n with
  | true=>
   rw[hk]at h;simp only[cond_true,ζa]at h;have:=Nat.eq_of_beq_eq_true hk;subst this;subst h;simp
  | false=>rw[hk]at h;exact List.mem_cons_of_mem _ (Nc h)
end Go.VE
namespace Go.VE
variable [bW]
inductive KT where|bool|str|slice|ptr|map|int|other
 deriving DecidableEq
def TK.tag:TK->KT
 | .bool=>.bool
 | .int _=>.int
 | .str=>.str
 | .ptr _=>.ptr
 | .slice _=>.slice
 | .map ..=>.map
 | _=>.other
def oT (k:KT) (x y:V):Option Bool:=
 match k,x,y with
 | .slice,.bX,.bX=>some true
 | .slice,.fsl ..,.bX=>some false
 | .slice,.hsl ..,.bX=>some false
 | .ptr,.gX,.gX=>some true
 | .ptr,.fptr _,.gX=>some false
 | .ptr,.hptr ..,.gX=>some false
 | .map,.gz,.gz=>some true
 | .map,.fmap _,.gz=>some false
 | .map,.hmap _,.gz=>some false
 | _,_,_=>none
def jr (k:Option KT) (e:Option Nat) (op:BinOp) (x y:V):Option V:=
 match x,y with
 | .int k a,.int u b=>
  match op with
  | .shl=>if b<0 then none else some (.int k (k.wrap (a*2 ^ (min b.toNat k.bits))))
  | .shr=>if b<0 then none else some (.int k (a.fdiv (2 ^ (min b.toNat k.bits))))
  | _=>if k=u then
   match op with
   | .add=>some (.int k (k.wrap (a+b)))
   | .sub=>some (.int k (k.wrap (a-b)))
   | .mul=>some (.int k (k.wrap (a*b)))
   | .quo=>if b=0 then none else some (.int k (k.wrap (a.tdiv b)))
   | .rem=>if b=0 then none else some (.int k (a.tmod b))
   | .and=>some (.int k (k.wrap (BitVec.ofInt k.bits a &&& BitVec.ofInt k.bits b).toNat))
   | .or=>some (.int k (k.wrap (BitVec.ofInt k.bits a ||| BitVec.ofInt k.bits b).toNat))
   | .xor=>some (.int k (k.wrap (BitVec.ofInt k.bits a ^^^ BitVec.ofInt k.bits b).toNat))
   | .andNot=>some (.int k (k.wrap (BitVec.ofInt k.bits a &&& ~~~ BitVec.ofInt k.bits b).toNat))
   | op=>(qK op a b).map .bool
   else none
 | .str a,.str b=>
  match op with
  | .add=>if((a.size+b.size:Nat):Int)>IntKind.i64.max then none else some (.str (a++b))
  | .eql=>some (.bool (a.toList==b.toList))
  | .neq=>some (.bool !(a.toList==b.toList))
  | .lss=>some (.bool (Op.bytesLess a.toList b.toList))
  | .leq=>some (.bool (Op.bytesLess a.toList b.toList||a.toList==b.toList))
  | .gtr=>some (.bool !(Op.bytesLess a.toList b.toList||a.toList==b.toList))
  | .geq=>some (.bool !(Op.bytesLess a.toList b.toList))
  | _=>none
 | .bool a,.bool b=>
  match k,op with
  | some .bool,.eql=>some (.bool (a==b))
  | some .bool,.neq=>some (.bool !(a==b))
  | _,_=>none
 | .agg a,.agg b=>
  match e,op with
  | some n,.eql=>if a.length=n then(kM a b).map .bool else none
  | some n,.neq=>if a.length=n then(kM a b).map (λt=>.bool !t)else none
  | _,_=>none
 | x,y=>
  match k,op with
  | some k,.eql=>(oT k x y).map .bool
  | some k,.neq=>(oT k x y).map λt=>.bool !t
  | _,_=>none
theorem Lf (k:TK) (x y:V):uh k x y=oT k.tag x y:=by
 cases k <;> cases y <;> (try rfl) <;> cases x <;> rfl
theorem Ts (E:Env) (op:BinOp) (t:TypeId) (x y:V):GU E op t x y=jr ((E.kindOf t).map TK.tag) (E.eqN t) op x y:=by
 unfold GU;split
 .rfl
 .rfl
 .cases hk:E.kindOf t with
  | none=>rfl
  | some k=>cases k <;> cases op <;> rfl
 .rfl
 .rename_i h1 u w z
  cases hk:E.kindOf t with
  | none=>rw[jr.eq_29 _ _ _ _ _ h1 u w z (by simp) (by simp)]
  | some k=>
   simp only[Lf];cases op <;> first
    | exact(jr.eq_27 _ _ _ _ h1 u w z).symm
    | exact(jr.eq_28 _ _ _ _ h1 u w z).symm
    | (rw[jr.eq_29 _ _ _ _ _ h1 u w z (by simp) (by simp)])
inductive uX where
 | id|pick|nilc
 | bin (k:Option KT) (e:Option Nat) (op:BinOp)
 | not|neg
 | conv (k:IntKind)
 | fieldAddr (off:Nat)
 | field (off size:Nat) (agg:Bool)
 | idxS (size:Nat)
 | idxA (len size:Nat)
 | idxStr
 | idxArr (len size:Nat) (agg:Bool)
 | sliceStr (lo hi:Bool)
 | slice (size:Nat) (lo hi:Bool)
 | slice00
 | build (zero:List V) (pl:List (Nat×Nat))
 | clo (name:Nat) (k:Nat)
 | ext (i:Nat)
 | lenStr|lenSl|capSl|max|min|bad|max4
 | makeC (size:Nat) (zero:List V)
 | emptyC
def Ln:V->Option V
 | .hptr id el off=>some (.hptr id el off)
 | .fptr cs=>some (.fptr cs)
 | .clo f a b=>some (.clo f a b)
 | _=>none
def gQ (off:Nat):V->Option V
 | .fptr cs=>if off<=cs.length then some (.fptr (cs.drop off))else none
 | .hptr id el o=>some (.hptr id el (o+off))
 | _=>none
def lR (size:Nat) (s:V) (n:Int):Option V:=
 if n<0 then none else match s with
 | .fsl es u=>if es=size then(u[n.toNat]?).map .fptr else none
 | .hsl id es off len=>if es=size/\n.toNat<len then some (.hptr id (off+n.toNat) 0)else none
 | _=>none
def w8 (len size:Nat) (p:V) (n:Int):Option V:=
 if 0<=n/\n<len then match p with
  | .fptr cs=>if n.toNat*size<=cs.length then some (.fptr (cs.drop (n.toNat*size)))else none
  | .hptr id el o=>some (.hptr id el (o+n.toNat*size))
  | _=>none
 else none
def mE:Bool->Bool->List V->Option (Option Int×Option Int)
 | false,false,[]=>some (none,none)
 | true,false,[.int _ l]=>some (some l,none)
 | false,true,[.int _ h]=>some (none,some h)
 | true,true,[.int _ l,.int _ h]=>some (some l,some h)
 | _,_,_=>none
def iH (size:Nat) (v:V) (l h:Option Int):Option V:=
 match v with
 | .fsl es u=>if es=size then(dW u.length l h).map λ(l,h)=>.fsl es ((u.take h).drop l)else none
 | .hsl id es off len=>if es=size then(dW len l h).map λ(l,h)=>.hsl id es (off+l) (h-l)else none
 | .dB=>(dW 0 l h).map λ_=>.dB
 | .bX=>(dW 0 l h).map λ_=>.bX
 | _=>none
def LH:V->Bool
 | .fsl ..|.hsl ..|.dB|.bX=>true
 | _=>false
def kG (cells:List V):List (Nat×Nat)->List V->Option (List V)
 | [],[]=>some cells
 | (off,size)::pl,v::vs=>
  if v.cells.length≠size||off+v.cells.length>cells.length then none
  else kG (cells.take off++v.cells++cells.drop (off+v.cells.length)) pl vs
 | _,_=>none
def qM:V->Option V
 | .fsl _ xs=>some (.int .i64 xs.length)
 | .hsl _ _ _ len=>some (.int .i64 len)
 | .dB=>some (.int .i64 0)
 | .bX=>some (.int .i64 0)
 | _=>none
def Pm:V->Option V
 | .bX|.dB=>some (.int .i64 0)
 | _=>none
def bn (N:Nat->FuncId):uX->List V->Option V
 | .id,[x]=>some x
 | .pick,[.bool t,a,b]=>some (if t then a else b)
 | .nilc,[x]=>Ln x
 | .bin k e op,[x,y]=>jr k e op x y
 | .not,[.bool b]=>some (.bool !b)
 | .neg,[.int k n]=>some (.int k (k.wrap (0-n)))
 | .conv k,[.int _ n]=>some (.int k (k.wrap n))
 | .fieldAddr off,[p]=>gQ off p
 | .field off size agg,[.agg cs]=>(cut cs off size).bind (mk agg)
 | .idxS size,[s,.int _ n]=>lR size s n
 | .idxA len size,[p,.int _ n]=>w8 len size p n
 | .idxStr,[.str s,.int _ n]=>if 0<=n then(s[n.toNat]?).map (λb=>.int .u8 b.toNat)else none
 | .idxArr len size agg,[.agg cs,.int _ n]=>if 0<=n/\n<len then(cut cs (n.toNat*size) size).bind (mk agg)else none
 | .sliceStr lo hi,.str s::D=>(mE lo hi D).bind λ(l,h)=>(dW s.size l h).map λ(l,h)=>.str (s.extract l h)
 | .slice size lo hi,v::D=>(mE lo hi D).bind λ(l,h)=>iH size v l h
 | .slice00,[v,.int _ h,.int _ m]=>if LH v&&h==0&&m==0 then some .dB else none
 | .build zero pl,vs=>(kG zero pl vs).map .agg
 | .clo name k,vs=>some (.clo (N name) (vs.take k) (vs.drop k))
 | .ext i,[.tup vs]=>vs[i]?
 | .lenStr,[.str s]=>some (.int .i64 s.size)
 | .lenSl,[v]=>qM v
 | .capSl,[v]=>Pm v
 | .max,[.int k a,.int B b]=>if k=B then some (.int k (if b>a then b else a))else none
 | .max4,[.int k a,.int k1 b,.int G c,.int J d]=>if k=k1/\k=G/\k=J then some (.int k (B9 (B9 (B9 a b) c) d))else none
 | .min,[.int k a,.int B b]=>if k=B then some (.int k (if b<a then b else a))else none
 | .makeC size zero,[.int k n,.int B m]=>if k=.i64/\B=.i64/\0<=n/\n=m/\m<=2147483648/\zero.all V.scalar=true then some (.fsl size (List.replicate n.toNat zero))else none
 | .emptyC,[]=>some .dB
 | _,_=>none
inductive xe where|int (k:IntKind)|str|ints (n:Nat)
def C7 (E:Env) (t:TypeId):Option xe:=
 match E.kindOf t with
 | some (.int k)=>some (.int k)
 | some .str=>some .str
 | some _=>(E.eqN t).map .ints
 | none=>none
def pZ:xe->V->Bool
 | .int k,.int B _=>k==B
 | .str,.str _=>true
 | .ints n,.agg cs=>cs.length==n&&(hU cs).isSome
 | _,_=>false
inductive Kc where
 | load (size:Nat) (agg:Bool)
 | loadF (size:Nat) (agg:Bool)
 | lookup (kk:xe) (zero:V) (ok:Bool)
def eV (H:bh):Kc->List V->Option V
 | .load size agg,[p]=>(dX H p size).bind (mk agg)
 | .lookup kk z ok,[m,k]=>match mR H m with
  | some B=>if pZ kk k then match iE k B 0 with
   | some (some (_,v))=>some (if ok then .tup [v,.bool true]else v)
   | some none=>some (if ok then .tup [z,.bool false]else z)
   | none=>none
   else none
  | none=>none
 | _,_=>none
inductive MK where
 | alloc (size:Nat) (zero:List V)
 | box
 | makeSl (size:Nat) (zero:List V)
 | buildSl (size len:Nat) (zero:List V) (idx:List Nat)
 | makeMap
def iV:MK->List V->Option (Ob×Mk)
 | .alloc size zero,[]=>some (.row size [zero],.ptr)
 | .box,[v]=>if v.cells.all V.one then some (.row v.cells.length [v.cells],.ptr)else none
 | .makeSl size zero,[.int k n,.int B m]=>if k=.i64/\B=.i64/\0<=n/\n<=m/\m<=2147483648 then some (.row size (List.replicate m.toNat zero),.sl size n.toNat)else none
 | .buildSl size len zero idx,vs=>if idx.length=vs.length then(gG size (List.replicate len zero) (idx.zip vs)).map λxs=>(.row size xs,.sl size len)else none
 | .makeMap,[]=>some (.map [],.map)
 | _,_=>none
inductive Ks where
 | store (size:Nat)
 | storeF (size:Nat)
 | mapUp (kk:xe)
 | append (size:Nat)
 | appMk (size bytes:Nat) (zero:List V)
 | clear (size:Nat) (zero:List V)
def fR (H:bh):Ks->List V->Option (V×bh)
 | .store size,[.hptr id el off,v]=>match H[id]? with
  | some (.row es xs)=>match xs[el]? with
   | some cs=>if v.cells.length=size/\off+size<=cs.length/\v.cells.all V.one=true then
    some (.undef,H.set id (.row es (xs.set el (cs.take off++v.cells++cs.drop (off+v.cells.length)))))else none
   | none=>none
  | _=>none
 | .mapUp kk,[.hmap id,k,v]=>match H[id]? with
  | some (.map B)=>if pZ kk k then(qe k v B).map λB=>(.undef,H.set id (.map B))else none
  | _=>none
 | .append size,[s,x]=>match dR H size s,dR H size x with
  | some _,some []=>some (s,H)
  | some xs,some ys=>if xs.length+ys.length<=2147483648 then(g_ H s).map λH1=>(.hsl H.length size 0 (xs.length+ys.length),H1++[.row size (xs++ys)])else none
  | _,_=>none
 | .appMk size bytes zero,[s,x]=>mkApp H size bytes zero s x
 | .clear size zero,[v]=>Dm H size zero v
 | .storeF size,.hptr id el off::v::l=>if l.all (qP id)=true then match H[id]? with
  | some (.row es xs)=>match xs[el]? with
   | some cs=>if v.cells.length=size/\off+size<=cs.length/\v.cells.all V.one=true then
    some (.undef,H.set id (.row es (xs.set el (cs.take off++v.cells++cs.drop (off+v.cells.length)))))else none
   | none=>none
  | _=>none
  else none
 | _,_=>none
inductive K where
 | p (p:uX)
 | r (r:Kc)
 | a (a:MK)
 | l (l:Ks)
 | c
 | e (size:Nat)
 | b
def VR (E:Env) (t:TypeId):Option KT:=(E.kindOf t).map TK.tag
def resolve (E:Env) (nm:FuncId->Option Nat):Op->Option (K×List Operand)
 | .move x|.assign x=>some (.p .id,[x])
 | .pick c a b=>some (.p .pick,[c,a,b])
 | .nilCheck x=>some (.p .nilc,[x])
 | .binOp op t x y _=>some (.p (.bin (VR E t) (E.eqN t) op),[x,y])
 | .unOp .not _ x=>some (.p .not,[x])
 | .unOp .neg _ x=>some (.p .neg,[x])
 | .convert s d x=>match E.tt s,E.tt d with
  | some _,some G=>match G.kind with
   | .int k=>some (.p (.conv k),[x])
   | .str=>match E.kindOf s with
    | some (.slice e)=>match E.kindOf e with
     | some (.int .u8)=>some (.b,[x])
     | _=>none
    | _=>none
   | _=>none
  | _,_=>none
 | .fieldAddr s x f=>match E.kindOf s with
  | some (.struct fs)=>match fs[f]? with
   | some (off,t)=>match E.tt t with
    | some d=>if d.size=0 then none else some (.p (.fieldAddr off),[x])
    | none=>none
   | none=>none
  | _=>none
 | .field s x f=>match E.kindOf s with
  | some (.struct fs)=>match fs[f]? with
   | some (off,t)=>match E.tt t with
    | some d=>some (.p (.field off d.size d.agg),[x])
    | none=>none
   | none=>none
  | _=>none
 | .indexAddr t x i=>match E.kindOf t with
  | some (.slice e)=>(E.tt e).map λd=>(.p (.idxS d.size),[x,i])
  | some (.array len e)=>(E.tt e).map λd=>(.p (.idxA len d.size),[x,i])
  | _=>none
 | .index t x i=>match E.kindOf t with
  | some .str=>some (.p .idxStr,[x,i])
  | some (.array len e)=>(E.tt e).map λd=>(.p (.idxArr len d.size d.agg),[x,i])
  | _=>none
 | .slice t x lo hi J=>match E.kindOf t,J with
  | some .str,none=>some (.p (.sliceStr lo.isSome hi.isSome),x::(lo.toList++hi.toList))
  | some (.slice e),none=>(E.tt e).map λd=>(.p (.slice d.size lo.isSome hi.isSome),x::(lo.toList++hi.toList))
  | some (.slice e),some m=>match E.tt e,lo,hi with
   | some _,none,some h=>some (.p .slice00,[x,h,m])
   | _,_,_=>none
  | _,_=>none
 | .build t ps=>match E.tt t with
  | some d=>match d.kind with
   | .struct fs=>match nC E fs with
    | some pl=>(ps.toList.mapM λ(q:Nat×Operand)=>pl[q.1]?).map λq=>(K.p (.build d.zero q),ps.toList.map λ(q:Nat×Operand)=>q.2)
    | none=>none
   | .array _ e=>(E.tt e).map λD=>(K.p (.build d.zero (ps.toList.map λ(q:Nat×Operand)=>(q.1*D.size,D.size))),ps.toList.map λ(q:Nat×Operand)=>q.2)
   | _=>none
  | none=>none
 | .makeFunc (.func f) a b=>(nm f).map λs=>(.p (.clo s a.toList.length),a.toList++b.toList)
 | .extract x i=>some (.p (.ext i),[x])
 | .load t a=>(E.tt t).map λd=>(.r (.load d.size d.agg),[a])
 | .lookup t m k ok=>match E.kindOf t with
  | some (.map B U)=>match E.tt U,C7 E B with
   | some d,some kk=>(mk d.agg d.zero).map λz=>(.r (.lookup kk z ok),[m,k])
   | _,_=>none
  | _=>none
 | .alloc t=>(E.tt t).map λd=>(.a (.alloc d.size d.zero),[])
 | .box _ x=>some (.a .box,[x])
 | .makeSlice t l c=>match E.kindOf t with
  | some (.slice e)=>match E.tt e with
   | some d=>if d.bytes<=4096 then some (.a (.makeSl d.size d.zero),[l,c])else none
   | none=>none
  | _=>none
 | .buildSlice t len ps=>match E.kindOf t with
  | some (.slice e)=>match E.tt e with
   | some d=>if len*d.size<=16777216 then some (.a (.buildSl d.size len d.zero (ps.toList.map (·.1))),ps.toList.map (·.2))else none
   | none=>none
  | _=>none
 | .makeMap _ none=>some (.a .makeMap,[])
 | .store t a x=>(E.tt t).map λd=>(.l (.store d.size),[a,x])
 | .mapUpdate t m k x|.insert t m k x=>match E.kindOf t with
  | some (.map B _)=>(C7 E B).map λkk=>(.l (.mapUp kk),[m,k,x])
  | _=>none
 | .call { callee:=.builtin .append,args,argTypes }=>match argTypes.toList,args.toList with
  | [t,W],[s,x]=>match E.kindOf t,E.kindOf W with
   | some (.slice e),some (.slice _)=>match E.tt e with
    | some d=>if d.bytes<=4096/\0<d.bytes then some (.l (.append d.size),[s,x])else none
    | none=>none
   | some (.slice e),some (.int _)=>(E.tt e).map λd=>(.l (.appMk d.size d.bytes d.zero),[s,x])
   | _,_=>none
  | _,_=>none
 | .call { callee:=.builtin .len,args,argTypes }=>match argTypes[0]?,args.toList with
  | some t,[x]=>match E.kindOf t with
   | some .str=>some (.p .lenStr,[x])
   | some (.slice _)=>some (.p .lenSl,[x])
   | _=>none
  | _,_=>none
 | .call { callee:=.builtin .cap,args,argTypes }=>match argTypes[0]?,args.toList with
  | some t,[x]=>match E.kindOf t with
   | some (.slice _)=>some (.p .capSl,[x])
   | _=>none
  | _,_=>none
 | .call { callee:=.builtin .clear,args,argTypes }=>match argTypes[0]?,args.toList with
  | some t,[x]=>match E.kindOf t with
   | some (.slice e)=>(E.tt e).map λd=>(.l (.clear d.size d.zero),[x])
   | _=>none
  | _,_=>none
 | .panic _=>some (.p .bad,[])
 | .makeInterface ..=>some (.p .bad,[])
 | .call { callee:=.builtin .max,args,.. }=>match args.toList with
  | [x,y]=>some (.p .max,[x,y])
  | [x,y,z,t]=>some (.p .max4,[x,y,z,t])
  | _=>none
 | .call { callee:=.builtin .min,args,.. }=>match args.toList with
  | [x,y]=>some (.p .min,[x,y])
  | _=>none
 | .call { callee:=.value f,args,.. }=>some (.c,f::args.toList)
 | _=>none
end Go.VE
namespace Go.VE
variable [bW]
section
variable {E:Env} {nm:FuncId->Option Nat} {N:Nat->FuncId} {F:Frame}
theorem oI {x:Operand} {vs:List V} (h:e8 F [x]=some vs):∃a,ev F x=some a/\vs=[a]:=by
 simp[e8]at h
 grind
theorem iO {x:Operand} {l:List Operand} {vs:List V} (h:e8 F (x::l)=some vs):∃a az,ev F x=some a/\e8 F l=some az/\vs=a::az:=by
 simp[e8]at h
 grind
theorem qv {vs:List V} (h:e8 F []=some vs):vs=[]:=by simp[e8]at h;grind
theorem sQ {x y:Operand} {vs:List V} (h:e8 F [x,y]=some vs):∃a b,ev F x=some a/\ev F y=some b/\vs=[a,b]:=by
 obtain⟨a,az,w,u,rfl⟩:=iO h;obtain⟨b,z,rfl⟩:=oI u
 grind
theorem HT {x y z:Operand} {vs:List V} (h:e8 F [x,y,z]=some vs):∃a b c,ev F x=some a/\ev F y=some b/\ev F z=some c/\vs=[a,b,c]:=by
 obtain⟨a,az,w,u,rfl⟩:=iO h;obtain⟨b,c,A,hc,rfl⟩:=sQ u
 grind
theorem Mb {l m:List Operand} {vs:List V} (h:e8 F (l++m)=some vs):∃az B,e8 F l=some az/\e8 F m=some B/\vs=az++B:=by
 induction l generalizing vs with
 | nil=>exact⟨[],vs,rfl,h,rfl⟩
 | cons x l u=>
  obtain⟨a,az,w,z,rfl⟩:=iO h;obtain⟨b,c,A,hc,rfl⟩:=u z;refine⟨a::b,c,?_,hc,rfl⟩;simp[e8,w,A]
theorem Lu {l:List Operand} {vs:List V} (h:e8 F l=some vs):vs.length=l.length:=by
 induction l generalizing vs with
 | nil=>rw[qv h];rfl
 | cons x l u=>obtain⟨a,az,_,w,rfl⟩:=iO h;grind
def CI (E:Env) (N:Nat->FuncId) (F:Frame) (op:Op) (vs:List V):K->Prop
 | .p p=>c8 op=.pure/\∀v,bn N p vs=some v->bL E F op=some v
 | .r r=>c8 op=.read/\∀H v,eV H r vs=some v->dQ E F H op=some v
 | .a a=>c8 op=.alloc/\∀x,iV a vs=some x->eR E F op=some x
 | .l l=>c8 op=.loud/\∀H x,fR H l vs=some x->cW E F H op=some x
 | .e _=>False
 | .b=>c8 op=.pure/\∃x,vs=[x]/\∀H ys l,dR H 1 x=some ys->pM ys=some l->bL E F op=none/\evalConv E F H op=some (.str (KA l))
 | .c=>c8 op=.call/\∃f az,vs=f::az/\jG F op=(match f with|.clo g a b=>some (.fn g,a++az++b)|.yld id=>some (.yld id,az)|_=>none)
theorem Hf (place:Nat->Option (Nat×Nat)):∀(ps:List (Nat×Operand)) (q:List (Nat×Nat)) (vs:List V) (cells cs:List V),(ps.mapM λ(x:Nat×Operand)=>place x.1)=some q ->
 e8 F (ps.map λ(x:Nat×Operand)=>x.2)=some vs->kG cells q vs=some cs->∃B,mq F ps=some B/\tT place cells B=some cs:=by
 intro ps
 induction ps with
 | nil=>
  intro q vs cells cs u hv h;simp  at u;subst u;have:=qv (by simpa using hv);subst this
  simp[kG]at h;subst h;exact⟨[],rfl,rfl⟩
 | cons p ps C=>
  intro q vs cells cs u hv h;obtain⟨i,x⟩:=p;simp only[List.mapM_cons,Option.pure_def,Option.bind_eq_bind,ζg,ζa]at u;obtain⟨pl,w,D,z,rfl⟩:=u;obtain⟨a,az,G,A,rfl⟩:=iO (by simpa using hv)
  simp only[kG]at h;split at h
  .simp_all
  .obtain⟨B,h1,I⟩:=C D az _ cs z A h;refine⟨(i,a)::B,by simp[mq,G,h1],?_⟩
   simp[tT,w]
   grind
theorem NZ:∀(ps:List (Nat×Operand)) (vs:List V),e8 F (ps.map λ(x:Nat×Operand)=>x.2)=some vs->mq F ps=some ((ps.map λ(x:Nat×Operand)=>x.1).zip vs):=by
 intro ps
 induction ps with
 | nil=>simp[mq]
 | cons p ps w=>
  intro vs hv;obtain⟨a,az,z,u,rfl⟩:=iO (by simpa using hv)
  simp[mq,z,w az u]
theorem Hj {lo hi:Option Operand} {vs:List V} {l h:Option Int} (hv:e8 F (lo.toList++hi.toList)=some vs) (B:mE lo.isSome hi.isSome vs=some (l,h)):jW F lo=some l/\jW F hi=some h:=by
 cases lo with
 | none=>
  cases hi with
  | none=>
   have:=qv (by simpa using hv);subst this;obtain⟨rfl,rfl⟩:=B;exact⟨rfl,rfl⟩
  | some y=>
   obtain⟨b,u,rfl⟩:=oI (by simpa using hv)
   cases b <;> simp[mE]at B;obtain⟨rfl,rfl⟩:=B;simp[jW,u]
 | some x=>
  cases hi with
  | none=>
   obtain⟨b,u,rfl⟩:=oI (by simpa using hv)
   cases b <;> simp[mE]at B;obtain⟨rfl,rfl⟩:=B;simp[jW,u]
  | some y=>
   obtain⟨a,b,w,u,rfl⟩:=sQ (by simpa using hv)
   cases a <;> cases b <;> simp[mE]at B;obtain⟨rfl,rfl⟩:=B;simp[jW,w,u]
theorem AN {t:TypeId} {kk:xe} {k:V} (h:C7 E t=some kk) (hk:pZ kk k=true):A4 E t k=true:=by
 unfold C7 at h;unfold A4
 cases u:E.kindOf t with
 | none=>grind
 | some tk=>
  rw[u]at h;have gen:(E.eqN t).map xe.ints=some kk->∃n cs,E.eqN t=some n/\k=.agg cs/\(cs.length==n&&(hU cs).isSome)=true:=by
   intro h;simp  at h;obtain⟨n,w,rfl⟩:=h;cases k <;> simp[pZ]at hk <;> first|grind|grind
  cases tk with
  | int z=>
   simp  at h;subst h;cases k <;> simp[pZ]at hk
   grind
  | str=>
   simp  at h;subst h;cases k <;> simp[pZ]at hk;rfl
  | _=>
   obtain⟨n,cs,h1,rfl,A⟩:=gen h;simp_all
theorem kF (hN:∀f s,nm f=some s->N s=f) {op:Op} {k:K} {os:List Operand} {vs:List V} (h:resolve E nm op=some (k,os)) (hv:e8 F os=some vs):CI E N F op vs k:=by
 cases op with
 | move x=>
  obtain⟨rfl,rfl⟩:=h;obtain⟨a,A,rfl⟩:=oI hv;exact⟨rfl,λv w=>by simpa [bn,bL,A]using w⟩
 | assign x=>
  obtain⟨rfl,rfl⟩:=h;obtain⟨a,A,rfl⟩:=oI hv;exact⟨rfl,λv w=>by simpa [bn,bL,A]using w⟩
 | pick c a b=>
  simp[resolve]at h;obtain⟨rfl,rfl⟩:=h;obtain⟨x,y,z,hx,hy,T,rfl⟩:=HT hv;refine⟨rfl,λv w=>?_⟩
  cases x <;> simp[bn]at w;rename_i t;subst w;cases t <;> simp[bL,hx,hy,T]
 | nilCheck x=>
  simp[resolve]at h;obtain⟨rfl,rfl⟩:=h;obtain⟨a,A,rfl⟩:=oI hv;refine⟨rfl,λv w=>?_⟩
  cases a <;> simp[bn,Ln]at w <;> subst w <;> simp[bL,A]
 | binOp ah t x y yt=>
  simp only[resolve,ζa,ζc]at h;obtain⟨rfl,rfl⟩:=h;obtain⟨a,b,A,D,rfl⟩:=sQ hv;exact⟨rfl,λv w=>by simp only[bL,A,D,Ts];exact w⟩
 | unOp u t x=>
  cases u with
  | not=>
   simp only[resolve,ζa,ζc]at h;obtain⟨rfl,rfl⟩:=h;obtain⟨a,A,rfl⟩:=oI hv;refine⟨rfl,λv w=>?_⟩
   cases a <;> simp[bn]at w;subst w;simp[bL,A]
  | neg=>
   simp only[resolve,ζa,ζc]at h;obtain⟨rfl,rfl⟩:=h;obtain⟨a,A,rfl⟩:=oI hv;refine⟨rfl,λv w=>?_⟩
   cases a <;> simp[bn]at w;subst w;simp[bL,A]
  | _=>simp[resolve]at h
 | convert s d x=>
  simp only[resolve]at h;split at h
  .rename_i sd td hs hd;split at h
   .rename_i k hk;simp only[ζa,ζc]at h;obtain⟨rfl,rfl⟩:=h;obtain⟨a,A,rfl⟩:=oI hv;refine⟨rfl,λv w=>?_⟩
    cases a <;> simp[bn]at w;subst w;simp[bL,A,hs,hd,hk]
   .rename_i hk;split at h
    .rename_i e he;split at h
     .rename_i hu;simp only[ζa,ζc]at h;obtain⟨rfl,rfl⟩:=h;obtain⟨a,A,rfl⟩:=oI hv;refine⟨rfl,a,rfl,λH ys l h1 I=>?_⟩
      have aa:E.kindOf d=some .str:=by unfold Env.kindOf;rw[hd,Option.map_some,hk]
      refine⟨?_,by simp only[evalConv,he,aa,A,hu,h1,I,ζb,Option.map_some]⟩
      simp only[bL,hs,hd,A];cases a <;> first|rfl|(simp only[dR]at h1;cases h1)
     .simp at h
    .simp at h
   .simp at h
  .simp at h
 | fieldAddr s x f=>
  simp only[resolve]at h;split at h
  .rename_i fs hk;split at h
   .rename_i off t U;split at h
    .rename_i d hd;split at h
     .simp at h
     .rename_i T;simp only[ζa,ζc]at h;obtain⟨rfl,rfl⟩:=h;obtain⟨a,A,rfl⟩:=oI hv;refine⟨rfl,λv w=>?_⟩
      simp only[bL,A,hk,U,hd,if_neg T];simp only[bn,gQ]at w;cases a <;> simp at w ⊢ <;> exact w
    .simp at h
   .simp at h
  .simp at h
 | field s x f=>
  simp only[resolve]at h;split at h
  .rename_i fs hk;split at h
   .rename_i off t U;split at h
    .rename_i d hd;simp only[ζa,ζc]at h;obtain⟨rfl,rfl⟩:=h;obtain⟨a,A,rfl⟩:=oI hv;refine⟨rfl,λv w=>?_⟩
     cases a <;> simp only[bn]at w <;> first|(simp only[bL,A,hk,U,hd];exact w)|simp at w
    .simp at h
   .simp at h
  .simp at h
 | indexAddr t x i=>
  simp only[resolve]at h;split at h
  .rename_i e hk;simp only[ζf,ζc]at h;obtain⟨d,hd,rfl,rfl⟩:=h;obtain⟨a,b,A,D,rfl⟩:=sQ hv;refine⟨rfl,λv w=>?_⟩
   cases b <;> simp only[bn]at w <;> first|simp at w;done|skip
   simp only[bL,A,D,hk,hd];unfold lR at w;exact w
  .rename_i len e hk;simp only[ζf,ζc]at h;obtain⟨d,hd,rfl,rfl⟩:=h;obtain⟨a,b,A,D,rfl⟩:=sQ hv;refine⟨rfl,λv w=>?_⟩
   cases b <;> simp only[bn]at w <;> first|simp at w;done|skip
   simp only[bL,A,D,hk,hd];unfold w8 at w;exact w
  .simp at h
 | index t x i=>
  simp only[resolve]at h;split at h
  .rename_i hk;simp only[ζa,ζc]at h;obtain⟨rfl,rfl⟩:=h;obtain⟨a,b,A,D,rfl⟩:=sQ hv;refine⟨rfl,λv w=>?_⟩
   cases a <;> cases b <;> simp only[bn]at w <;> first|simp at w;done|skip
   simp only[bL,A,D,hk];exact w
  .rename_i len e hk;simp only[ζf,ζc]at h;obtain⟨d,hd,rfl,rfl⟩:=h;obtain⟨a,b,A,D,rfl⟩:=sQ hv;refine⟨rfl,λv w=>?_⟩
   cases a <;> cases b <;> simp only[bn]at w <;> first|simp at w;done|skip
   simp only[bL,A,D,hk,hd];exact w
  .simp at h
 | slice t x lo hi mx=>
  simp only[resolve]at h;split at h
  .rename_i hk;simp only[ζa,ζc]at h;obtain⟨rfl,rfl⟩:=h;obtain⟨a,bs,A,D,rfl⟩:=iO hv;refine⟨rfl,λv w=>?_⟩
   cases a <;> simp only[bn]at w <;> first|simp at w;done|skip
   obtain⟨⟨l,h⟩,W,w⟩:=ζg.1 w;obtain⟨h1,I⟩:=Hj D W;have hm:jW F none=some none:=rfl;simp only[bL,A,hk,h1,I,hm];exact w
  .rename_i e hk;simp only[ζf,ζc]at h;obtain⟨d,hd,rfl,rfl⟩:=h;obtain⟨a,bs,A,D,rfl⟩:=iO hv;refine⟨rfl,λv w=>?_⟩
   simp only[bn]at w;obtain⟨⟨l,h⟩,W,w⟩:=ζg.1 w;obtain⟨h1,I⟩:=Hj D W;have hm:jW F none=some none:=rfl;simp only[bL,A,hk,h1,I,hm,hd];cases a <;> exact w
  .rename_i e m hk;split at h
   .rename_i d hh hd;simp only[ζa,ζc]at h;obtain⟨rfl,rfl⟩:=h;obtain⟨a,b,c,A,D,hc,rfl⟩:=HT hv;refine⟨rfl,λv w=>?_⟩
    cases b <;> cases c <;> simp only[bn]at w <;> first|simp at w;done|skip
    rename_i k1 n1 k2 n2;split at w
    .rename_i S;simp only[ζh,beq_iff_eq]at S;obtain⟨⟨h1,rfl⟩,rfl⟩:=S;have m1:jW F none=some none:=rfl;have m2:jW F (some hh)=some (some 0):=by simp[jW,D]
     have m3:jW F (some m)=some (some 0):=by simp[jW,hc]
     simp only[bL,A,hk,m1,m2,m3,hd];cases a <;> simp[LH]at h1 <;> exact w
    .simp at w
   .simp at h
  .simp at h
 | build t ps=>
  simp only[resolve]at h;split at h
  .rename_i d hd;split at h
   .rename_i fs hk;split at h
    .rename_i pl ab;simp only[ζf,ζc]at h;obtain⟨q,hq,rfl,rfl⟩:=h;refine⟨rfl,λv w=>?_⟩
     simp only[bn,ζf]at w;obtain⟨cs,X,rfl⟩:=w;obtain⟨ws,w1,w2⟩:=Hf (λi=>pl[i]?) _ q vs _ cs hq hv X
     simp only[bL,hd,w1,hk,ab,w2,Option.map_some]
    .simp at h
   .rename_i len e hk;simp only[ζf,ζc]at h;obtain⟨de,ad,rfl,rfl⟩:=h;refine⟨rfl,λv w=>?_⟩
    simp only[bn,ζf]at w;obtain⟨cs,X,rfl⟩:=w;obtain⟨ws,w1,w2⟩:=Hf (λi=>some (i*de.size,de.size)) ps.toList (ps.toList.map λq=>(q.1*de.size,de.size)) vs _ cs (by
     generalize ps.toList=l
     induction l with
     | nil=>rfl
     | cons x l ih=>simp[List.mapM_cons,ih]) hv X
    simp only[bL,hd,w1,hk,ad,w2,Option.map_some]
   .simp at h
  .simp at h
 | makeFunc f a b=>
  cases f with
  | func f=>
   simp only[resolve,ζf,ζc]at h;obtain⟨s,hs,rfl,rfl⟩:=h;obtain⟨az,bs,A,D,rfl⟩:=Mb hv;refine⟨rfl,λv w=>?_⟩
   simp only[bn,ζa]at w;subst w;simp only[bL,A,D,hN f s hs];rw[<-Lu A];simp
  | _=>simp[resolve]at h
 | extract x i=>
  simp only[resolve,ζa,ζc]at h;obtain⟨rfl,rfl⟩:=h;obtain⟨a,A,rfl⟩:=oI hv;refine⟨rfl,λv w=>?_⟩
  cases a <;> simp only[bn]at w <;> first|simp at w;done|skip
  simp only[bL,A];exact w
 | load t x=>
  simp only[resolve,ζf,ζc]at h;obtain⟨d,hd,rfl,rfl⟩:=h;obtain⟨a,A,rfl⟩:=oI hv;exact⟨rfl,λH v w=>by simp only[dQ,hd,A];exact w⟩
 | lookup t m k ok=>
  simp only[resolve]at h;split at h
  .rename_i kt et hk;split at h
   .rename_i d kk hd J;simp only[ζf,ζc]at h;obtain⟨z,T,rfl,rfl⟩:=h;obtain⟨a,b,A,D,rfl⟩:=sQ hv;refine⟨rfl,λH v w=>?_⟩
    simp only[eV]at w;split at w
    .rename_i Z L;split at w
     .rename_i O;simp only[dQ,hk,A,D,hd,L,AN J O,if_true,T];split at w
      .rename_i U;rw[U];exact w
      .rename_i U;rw[U];exact w
      .simp at w
     .simp at w
    .simp at w
   .simp at h
  .simp at h
 | alloc t=>
  simp only[resolve,ζf,ζc]at h;obtain⟨d,hd,rfl,rfl⟩:=h;have:=qv hv;subst this;exact⟨rfl,λx w=>by simpa [iV,eR,hd]using w⟩
 | box t x=>
  simp only[resolve,ζa,ζc]at h;obtain⟨rfl,rfl⟩:=h;obtain⟨a,A,rfl⟩:=oI hv;exact⟨rfl,λx w=>by simp only[eR,A];exact w⟩
 | makeSlice t l c=>
  simp only[resolve]at h;split at h
  .rename_i e hk;split at h
   .rename_i d hd;split at h
    .rename_i Q;simp only[ζa,ζc]at h;obtain⟨rfl,rfl⟩:=h;obtain⟨a,b,A,D,rfl⟩:=sQ hv;refine⟨rfl,λx w=>?_⟩
     cases a <;> cases b <;> simp only[iV]at w <;> first|simp at w;done|skip
     rename_i k1 n1 k2 n2;split at w
     .rename_i hc;simp only[eR,hk,A,D,hd];rw[if_pos ⟨hc.1,hc.2.1,hc.2.2.1,hc.2.2.2.1,hc.2.2.2.2,Q⟩];exact w
     .simp at w
    .simp at h
   .simp at h
  .simp at h
 | buildSlice t len ps=>
  simp only[resolve]at h;split at h
  .rename_i e hk;split at h
   .rename_i d hd;split at h
    .rename_i Q;simp only[ζa,ζc]at h;obtain⟨rfl,rfl⟩:=h;refine⟨rfl,λx w=>?_⟩
     have T:=NZ _ _ hv;simp only[iV]at w;split at w
     .simp only[eR,hk,T,hd,if_pos Q];exact w
     .simp at w
    .simp at h
   .simp at h
  .simp at h
 | makeMap t r=>
  cases r with
  | none=>
   simp only[resolve,ζa,ζc]at h;obtain⟨rfl,rfl⟩:=h;have:=qv hv;subst this;exact⟨rfl,λx w=>by simpa [iV,eR]using w⟩
  | some r=>simp[resolve]at h
 | store t p x=>
  simp only[resolve,ζf,ζc]at h;obtain⟨d,hd,rfl,rfl⟩:=h;obtain⟨a,b,A,D,rfl⟩:=sQ hv;refine⟨rfl,λH v w=>?_⟩
  cases a <;> simp only[fR]at w <;> first|simp at w;done|skip
  simp only[cW,hd,A,D];exact w
 | mapUpdate t m k x=>
  simp only[resolve]at h;split at h
  .rename_i kt et hk;simp only[ζf,ζc]at h;obtain⟨kk,J,rfl,rfl⟩:=h;obtain⟨a,b,c,A,D,hc,rfl⟩:=HT hv;refine⟨rfl,λH v w=>?_⟩
   cases a <;> simp only[fR]at w <;> first|simp at w;done|skip
   simp only[cW,hk,A,D,hc];split at w
   .rename_i Z L;split at w
    .rename_i O;rw[L];simp only[AN J O,if_true];exact w
    .simp at w
   .simp at w
  .simp at h
 | insert t m k x=>
  simp only[resolve]at h;split at h
  .rename_i kt et hk;simp only[ζf,ζc]at h;obtain⟨kk,J,rfl,rfl⟩:=h;obtain⟨a,b,c,A,D,hc,rfl⟩:=HT hv;refine⟨rfl,λH v w=>?_⟩
   cases a <;> simp only[fR]at w <;> first|simp at w;done|skip
   simp only[cW,hk,A,D,hc];split at w
   .rename_i Z L;split at w
    .rename_i O;rw[L];simp only[AN J O,if_true];exact w
    .simp at w
   .simp at w
  .simp at h
 | call c=>
  obtain⟨callee,args,ai⟩:=c
  cases callee with
  | value f=>
   simp only[resolve,ζa,ζc]at h;obtain⟨rfl,rfl⟩:=h;obtain⟨a,az,A,has,rfl⟩:=iO hv;refine⟨rfl,a,az,rfl,?_⟩;simp only[jG,A,has];cases a <;> rfl
  | builtin b=>
   cases b with
   | append=>
    simp only[resolve]at h;split at h
    .rename_i t t' s x G B;split at h
     .rename_i e e' hk Y;split at h
      .rename_i d hd;split at h
       .rename_i Q;simp only[ζa,ζc]at h;obtain⟨rfl,rfl⟩:=h;obtain⟨a,b,A,D,rfl⟩:=sQ hv;refine⟨rfl,λH v w=>?_⟩
        have C:e8 F args.toList=some [a,b]:=by rw[B];exact hv
        simp only[cW,G,C,hk,Y,hd];simp only[fR]at w;split at w
        .rename_i h1 I;rw[h1,I];exact w
        .rename_i xs ys ae h1 I;rw[h1,I];split at w
         .rename_i af;simp only[if_pos (show xs.length+ys.length<=2147483648/\d.bytes<=4096/\0<d.bytes from⟨af,Q⟩)]
          cases ys with
          | nil=>exact absurd rfl ae
          | cons y ys=>exact w
         .simp at w
        .simp at w
       .simp at h
      .simp at h
     .rename_i e kk hk Y;simp only[ζf,ζc]at h;obtain⟨d,hd,rfl,rfl⟩:=h;obtain⟨a,b,A,D,rfl⟩:=sQ hv;refine⟨rfl,λH v w=>?_⟩
      have C:e8 F args.toList=some [a,b]:=by rw[B];exact hv
      simp only[cW,G,C,hk,Y,hd];exact w
     .simp at h
    .simp at h
   | cap=>
    simp only[resolve]at h;split at h
    .rename_i t x G B;split at h
     .rename_i e hk;simp only[ζa,ζc]at h;obtain⟨rfl,rfl⟩:=h;obtain⟨a,A,rfl⟩:=oI hv;have C:e8 F args.toList=some [a]:=by rw[B];exact hv
      refine⟨rfl,λx w=>?_⟩
      simp only[bL,G,C,hk];simp only[bn]at w;cases a <;> simp only[Pm]at w <;> first|(simp at w;done)|exact w
     .simp at h
    .simp at h
   | clear=>
    simp only[resolve]at h;split at h
    .rename_i t x G B;split at h
     .rename_i e hk;simp only[ζf,ζc]at h;obtain⟨d,hd,rfl,rfl⟩:=h;obtain⟨a,A,rfl⟩:=oI hv;have C:e8 F args.toList=some [a]:=by rw[B];exact hv
      refine⟨rfl,λH v w=>?_⟩
      simp only[cW,G,C,hk,hd];exact w
     .simp at h
    .simp at h
   | len=>
    simp only[resolve]at h;split at h
    .rename_i t x G B;split at h
     .rename_i hk;simp only[ζa,ζc]at h;obtain⟨rfl,rfl⟩:=h;obtain⟨a,A,rfl⟩:=oI hv;have C:e8 F args.toList=some [a]:=by rw[B];exact hv
      refine⟨rfl,λv w=>?_⟩
      cases a <;> simp only[bn]at w <;> first|simp at w;done|skip
      simp only[bL,C,G,hk];exact w
     .rename_i e hk;simp only[ζa,ζc]at h;obtain⟨rfl,rfl⟩:=h;obtain⟨a,A,rfl⟩:=oI hv;have C:e8 F args.toList=some [a]:=by rw[B];exact hv
      refine⟨rfl,λv w=>?_⟩
      simp only[bL,C,G,hk];simp only[bn,qM]at w;cases a <;> simp at w ⊢ <;> exact w
     .simp at h
    .simp at h
   | max=>
    simp only[resolve]at h;split at h
    .rename_i x y B;simp only[ζa,ζc]at h;obtain⟨rfl,rfl⟩:=h;obtain⟨a,b,A,D,rfl⟩:=sQ hv;have C:e8 F args.toList=some [a,b]:=by rw[B];exact hv
     refine⟨rfl,λv w=>?_⟩
     cases a <;> cases b <;> simp only[bn]at w <;> first|simp at w;done|skip
     simp only[bL,C];exact w
    .rename_i x y z t B;simp only[ζa,ζc]at h;obtain⟨rfl,rfl⟩:=h;obtain⟨a,aj,A,I,rfl⟩:=iO hv;obtain⟨b,c,d,D,hc,hd,rfl⟩:=HT I;have C:e8 F args.toList=some [a,b,c,d]:=by rw[B];exact hv
     refine⟨rfl,λv w=>?_⟩
     cases a <;> cases b <;> simp only[bn]at w <;> first|simp at w;done|skip
     cases c <;> cases d <;> simp only[bn]at w <;> first|simp at w;done|skip
     simp only[bL,C];exact w
    .simp at h
   | min=>
    simp only[resolve]at h;split at h
    .rename_i x y B;simp only[ζa,ζc]at h;obtain⟨rfl,rfl⟩:=h;obtain⟨a,b,A,D,rfl⟩:=sQ hv;have C:e8 F args.toList=some [a,b]:=by rw[B];exact hv
     refine⟨rfl,λv w=>?_⟩
     cases a <;> cases b <;> simp only[bn]at w <;> first|simp at w;done|skip
     simp only[bL,C];exact w
    .simp at h
   | _=>simp[resolve]at h
  | _=>simp[resolve]at h
 | panic x=>
  simp only[resolve,ζa,ζc]at h;obtain⟨rfl,rfl⟩:=h;have:=qv hv;subst this;exact⟨rfl,λx w=>by simp[bn]at w⟩
 | makeInterface t x=>
  simp only[resolve,ζa,ζc]at h;obtain⟨rfl,rfl⟩:=h;have:=qv hv;subst this;exact⟨rfl,λx w=>by simp[bn]at w⟩
 | _=>simp[resolve]at h
end
end Go.VE
namespace Go.VE
variable [bW]
structure Ac (c c':dx):Prop where
 lv:c.lv<=c'.lv
 go:∀x a H r,c x a H=some r->c' x a H=some r
section
variable {E:Env} {c c':dx} {n:Nat} {ops:List Oper} {F F':Frame} {H H':bh}
theorem Gu {f:FuncId} {args:List V} {y:V} (hi:cC c f args H=some y):∃az,borrows c.lv H args=some az:=by
 unfold cC at hi;split at hi
 .rename_i az h;exact⟨az,h⟩
 .cases hi
theorem De (B:c.lv<=c'.lv) {f:FuncId} (h:∀a H r,c (.fn f) a H=some r->c' (.fn f) a H=some r) {args:List V} {y:V} (hi:cC c f args H=some y):cC c' f args H=some y:=by
 unfold cC at hi ⊢;split at hi
 .rename_i az u;rw[sN B u];split at hi
  .rename_i hc;simp only;rw[h _ _ _ hc];split at hi
   .rename_i w;simp only;rw[sy B w];exact hi
   .cases hi
  .simp at hi
 .simp at hi
theorem sK (h:Ac c c') {f:FuncId} {args:List V} {y:V} (hi:cC c f args H=some y):cC c' f args H=some y:=De h.lv (λ_ _ _=>h.go _ _ _ _) hi
theorem mL (B:c.lv<=c'.lv) {f:FuncId} {args:List V} {y:V} (hi:cC c f args H=some y):cN (ck c'.lv H) args=cN (ck c.lv H) args:=by
 obtain⟨az,h⟩:=Gu hi;exact yS B h
theorem DQ (B:c.lv<=c'.lv) {f:FuncId} (h:∀a H r,c (.fn f) a H=some r->c' (.fn f) a H=some r) {args:List V} {r:V×bh} (hi:mc c f args H=some r):mc c' f args H=some r:=by
 unfold mc at hi ⊢;split at hi
 .rename_i az u;rw[sN B u];split at hi
  .rename_i hc;simp only;rw[h _ _ _ hc];exact hi
  .simp at hi
 .simp at hi
theorem HI (h:Ac c c') {f:FuncId} {args:List V} {r:V×bh} (hi:mc c f args H=some r):mc c' f args H=some r:=DQ h.lv (λ_ _ _=>h.go _ _ _ _) hi
theorem zP (h:Ac c c') {f:FuncId} {args:List V} {r:V×bh} (hi:fD E c f args H=some r):fD E c' f args H=some r:=by
 unfold fD at hi ⊢;split
 .rename_i u;rw[if_pos u]at hi;exact HI h hi
 .rename_i u;rw[if_neg u]at hi;exact h.go _ _ _ _ hi
theorem zN (U:c.lv<=c'.lv) {f:FuncId} {args:List V} {y G:V} {b:Nat} (h1:cC c f args (H.take b)=none) (B:cC c f args H=some y) (D:cC c' f args (H.take b)=some G):False:=by
 unfold cC at h1 B D;split at D
 .rename_i az has;split at B
  .rename_i C u;have e:=ov (λx y z k1 I=>I9 (H2:=H.take b) c.lv c'.lv x y z k1 I λid w=>by
    rw[List.getElem?_take]at w ⊢;split at w
    .rename_i A;rw[if_pos A]
    .cases w) u has
   have J:borrows c.lv H args=some az:=mT (Bw c.lv) e;rw[J]at u;cases u;rw[show borrows c.lv (H.take b) args=some az from e]at h1;simp only at h1;rw[h1]at B;simp at B
  .simp at B
 .simp at D
theorem MM (h:Ac c c') {place:Option (Nat×Nat)} {op:Op} {r:V×bh} (hi:di E c ops place F H op=some r):di E c' ops place F H op=some r:=by
 unfold di at hi ⊢;split at hi
 .exact hi
 .exact hi
 .exact hi
 .exact hi
 .split at hi
  .rename_i f args A;split at hi
   .rename_i hk;rw[if_pos hk];split at hi
    .exact zP h hi
    .skip
     split at hi
     .rename_i z;rw[if_pos z];exact zP h hi
     .simp at hi
   .rename_i hk;rw[if_neg hk];split at hi
    .skip
     split at hi
     .rename_i y u;rw[sK h u,mL h.lv u];exact hi
     .simp at hi
    .rename_i b i
     skip
     split at hi
     .rename_i y u;rw[sK h u,mL h.lv u];exact hi
     .rename_i w;split at hi
      .rename_i z;split at hi
       .rename_i y u
        cases B:cC c' f args (List.take b H)with
        | some C=>exact(zN h.lv w u B).elim
        | none=>simp only[if_pos z,sK h u,mL h.lv u];exact hi
       .simp at hi
      .simp at hi
  .rename_i id args A;split at hi
   .exact h.go _ _ _ _ hi
   .skip
    split at hi
    .rename_i z;rw[if_pos z];exact h.go _ _ _ _ hi
    .simp at hi
  .simp at hi
theorem C5 (h:Ac c c') {place:Option (Nat×Nat)} {o:Oper} {r:Frame×bh} (hi:gx E c n ops place o F H=some r):gx E c' n ops place o F H=some r:=by
 unfold gx at hi ⊢;split at hi
 .rename_i u;rw[if_pos u];split at hi
  .rename_i v H1 hd;rw[MM h hd];exact hi
  .simp at hi
 .rename_i u;rw[if_neg u];exact hi
theorem BK (h:Ac c c') {r:Frame×bh}:∀(l:List Oper) {F:Frame} {H:bh},mz E c n ops l F H=some r->mz E c' n ops l F H=some r
 | [],_,_,hi=>hi
 | o::l,F,H,hi=>by
  simp only[mz]at hi ⊢;split at hi
  .rename_i F1 H1 B;rw[C5 h B];exact BK h l hi
  .simp at hi
theorem Bt (h:Ac c c') {base:Nat} {r:Frame×bh}:∀(l:List Nat) {F:Frame} {H:bh},jF E c n ops base l F H=some r->jF E c' n ops base l F H=some r
 | [],_,_,hi=>hi
 | i::l,F,H,hi=>by
  simp only[jF]at hi ⊢;split at hi
  .split at hi
   .rename_i F1 H1 B;rw[C5 h B];exact Bt h l hi
   .simp at hi
  .simp at hi
theorem Es (h:Ac c c') {B:Bool} {r:Frame×bh} (hi:jx E c n ops B F H=some r):jx E c' n ops B F H=some r:=by
 unfold jx at hi ⊢;split
 .rename_i hd;rw[if_pos hd]at hi;split at hi
  .rename_i u;rw[if_pos u];exact Bt h _ hi
  .simp at hi
 .rename_i hd;rw[if_neg hd]at hi;exact BK h _ hi
theorem yE {s J:Frame->bh->Option (Out×Frame×bh)} (h:∀F H r,s F H=some r->J F H=some r):∀(k B:Nat),k<=B->∀{F H r},kH s k F H=some r->kH J B F H=some r
 | 0,_,_,F,H,r,hi=>by simp[kH]at hi
 | k+1,0,hk,F,H,r,hi=>by omega
 | k+1,B+1,hk,F,H,r,hi=>by
  simp only[kH]at hi ⊢;split at hi
  .rename_i F1 H1 U;rw[h _ _ _ U];exact yE h k B (by omega) hi
  .rename_i D;rw[h _ _ _ hi];split
   .rename_i F1 H1 G;cases G;exact absurd hi (D _ _)
   .rfl
theorem AL (h:Ac c c') {lf B:Nat} (J:lf<=B) (ro:Bool) (nt:Nat):∀(code:Code) {F:Frame} {H:bh} {r:Out×Frame×bh},exec E c lf ro nt code F H=some r->exec E c' B ro nt code F H=some r:=by
 intro code
 induction code with
 | skip=>intro F H r hi;exact hi
 | label l=>intro F H r hi;exact hi
 | region id ops I=>
  intro F H r hi;simp only[exec,ζf]at hi ⊢;obtain⟨x,L,rfl⟩:=hi;exact⟨x,Es h L,rfl⟩
 | seq a b u z=>
  intro F H r hi;simp only[exec]at hi ⊢;split at hi
  .rename_i F1 H1 h1;rw[u h1];exact z hi
  .rename_i A;rw[u hi];split
   .rename_i C;cases C;exact absurd hi (A _ _)
   .rfl
 | cond x a b u z=>
  intro F H r hi;simp only[exec]at hi ⊢;split at hi
  .rename_i t S;split at hi
   .rename_i D;subst D;simp only[if_true];exact u hi
   .rename_i D;rw[if_neg D];exact z hi
  .simp at hi
 | block id a G=>
  intro F H r hi;simp only[exec]at hi ⊢;split at hi
  .rename_i O F1 H1 h1;rw[G h1];exact hi
  .rename_i A;rw[G hi];split
   .rename_i C;cases C;exact absurd hi (A _ _ _)
   .rfl
 | loop a G=>
  intro F H r hi;simp only[exec]at hi ⊢;exact yE (λF H r hr=>G hr) lf B J hi
 | rangeFunc g T U W _ _=>
  intro F H r hi;simp only[exec]at hi ⊢;split at hi
  .split at hi
   .rename_i Q H1 hc;rw[h.go _ _ _ _ hc];exact hi
   .simp at hi
  .simp at hi
 | exit id=>intro F H r hi;exact hi
 | ret=>intro F H r hi;exact hi
 | scope a _=>intro F H r hi;simp[exec]at hi
 | goto l=>intro F H r hi;simp[exec]at hi
 | refuse w=>intro F H r hi;simp[exec]at hi
theorem H6 (E:Env):∀n,Ac (run E n) (run E (n+1)):=by
 intro n
 induction n with
 | zero=>exact⟨Nat.le_succ _,λx a H r h=>(by cases h)⟩
 | succ n u=>
  refine⟨Nat.le_succ _,λx a H r h=>?_⟩
  rw[Gd]at h ⊢
  cases x with
  | fn f=>
   rw[kW]at h ⊢;split at h
   .rename_i T L;split at h
    .rename_i A;rw[if_pos A];split at h
     .simp at h
     .rename_i o F1 H1 B O;rw[AL u (Nat.le_succ n) _ _ _ O]
      cases o with
      | exit id=>exact(B id rfl).elim
      | norm=>exact h
      | ret=>exact h
     .simp at h
    .simp at h
   .split at h
    .rename_i C;rw[if_pos C];exact Dg u.lv (λg args y _ Q=>sK u Q) h
    .rename_i C;rw[if_neg C];exact h
  | yld id=>
   rw[kW]at h ⊢;split at h
   .rename_i rec J;split at h
    .rename_i S;split at h
     .rename_i w;split at h
      .rename_i U H2 D;split at h
       .rename_i r2 G;split at h
        .rename_i z;split at h
         .rename_i o W X I;simp only[if_pos w,AL u (Nat.le_succ n) _ _ _ D,G,z,AL u (Nat.le_succ n) _ _ _ I];exact h
         .simp at h
        .simp at h
       .simp at h
      .simp at h
     .simp at h
    .simp at h
   .simp at h
theorem uK (E:Env) {n m:Nat} (h:n<=m):Ac (run E n) (run E m):=by
 induction h with
 | refl=>exact⟨Nat.le_refl _,λ_ _ _ _ h=>h⟩
 | step _ u=>exact⟨Nat.le_trans u.lv (H6 E _).lv,λx a H r h=>(H6 E _).go x a H r (u.go x a H r h)⟩
theorem pI (E:Env):∀n,(run E n).lv=n
 | 0=>rfl
 | _+1=>rfl
end
end Go.VE
namespace Go.VE
variable [bW]
def L0 (P:Program) (f:FuncId):Option FI:=(P.funcs[f]?).bind λfn=>fn.body.map λb=>⟨fn.ntmps,fn.results.toList,b⟩
def Ba (P:Program):Bool:=P.funcs.toList.all λfn => !(fn.name == "runtime.NumGoroutine")
theorem Ta {P:Program} (h:Ba P=true) {f:FuncId} {fi:FI} (B:L0 P f=some fi):∃fn,P.funcs[f]? = some fn/\fn.body=some fi.body/\fn.ntmps=fi.ntmps/\fn.results.toList=fi.results/\(fn.name == "runtime.NumGoroutine")=false:=by
 unfold L0 at B;obtain⟨fn,h1,w⟩:=ζg.1 B;obtain⟨b,z,rfl⟩:=ζf.1 w;refine⟨fn,h1,z,rfl,rfl,?_⟩;unfold Ba at h;rw[List.all_eq_true]at h;have A:=h fn (by
  obtain⟨u,rfl⟩:=Array.getElem?_eq_some_iff.1 h1;exact Array.mem_toList_iff.2 (Array.getElem_mem u))
 simpa using A
def Db (P:Program) (shut keep own:List Nat) (two:List (Nat×Nat)) (B:FuncId->Bool) (known:FuncId->List V->Option V):Env where
 tt:=wj P
 ft f:=if shut.contains f then none else L0 P f
 keep:=keep.contains
 own:=own.contains
 eqN t:=lk two t
 sort:=B
 known:=known
theorem Ig {P:Program} {shut keep own:List Nat} {two:List (Nat×Nat)} {B:FuncId->Bool} {known:FuncId->List V->Option V} (h:Ba P=true) (D:∀p∈two,vR P p.1 p.2):eA P (Db P shut keep own two B known) where
 tt t d h:=h
 ft f w u:=by
  change (if shut.contains f then none else L0 P f)=some w at u;split at u
  .cases u
  .exact Ta h u
 eqN t n z:=D (t,n) (Nc z)
end Go.VE
namespace Go.VE
variable [bW]
structure Xv (w:World) (v:Value) (l:List Int):Prop where
 at_:∃a cap,v=.slice a l.length cap/\(a=none->l=[])/\∀ad,a=some ad->l=[]\/∃c el fr,ad.spot=none/\w.heap[ad.block]? = some (.cells c el fr)/\ad.off+l.length<=c.size/\(c.toList.drop ad.off).take l.length=l.map (Value.int .i64)
section
variable {P:Program} {I:cu} {μ:Mu} {H:bh} {w:World} {n:Nat}
variable {f A S e:Nat} {fn:Func} {bytes i1 i2 i3 i4 t1 t2 t6 t7:Nat} {p1 p2 p3 p4 p5 p6 p7:String} {e1 e2 e3 e4 e5 e6 e7:Array Edge}
end
end Go.VE
namespace Go.VE
variable [bW]
variable {P:Program}
theorem Iw (a:List Int) (j:Nat):(ic a)[j]? = (a[j]?).map (Value.int .i64):=by simp[ic]
theorem FG {i:TypeId} {a b:List Int} {n:Nat} (D:a.length=n) (G:b.length=n) (hi:wj P i=some ⟨1,8,[.int .i64 0],.int .i64⟩) (B:P.underlying i=some (.int .i64)) (d:Nat) (w:World) :
 ∀(m k:Nat),k+m=n->(Op.eqItems (d+1) i 1 (ic a) (ic b) (List.range' k m)).run P w=.ok (a.drop k==b.drop k) w
 | 0,k,h=>by
  have h1:a.drop k=[]:=List.drop_eq_nil_of_le (by omega)
  have I:b.drop k=[]:=List.drop_eq_nil_of_le (by omega)
  simp[Op.eqItems,h1,I]
 | m+1,k,h=>by
  have u:k<a.length:=by omega
  have z:k<b.length:=by omega
  have pa:(part i (ic a) (k*1)).run P w=.ok (.int .i64 a[k]) w:=rI hi (by rw[Iw,Nat.mul_one];simp[u])
  have J:(part i (ic b) (k*1)).run P w=.ok (.int .i64 b[k]) w:=rI hi (by rw[Iw,Nat.mul_one];simp[z])
  have q:(Op.equalIn (d+1) i (.int .i64 a[k]) (.int .i64 b[k])).run P w=.ok (a[k]==b[k]) w:=BD d _ _ B;have L:=FG D G hi B d w m (k+1) (by omega)
  have A:=List.drop_eq_getElem_cons u;have C:=List.drop_eq_getElem_cons z;simp only[List.range'_succ,Op.eqItems,Sem.run_bind,pa,J,q,Result.andThen_ok]
  by_cases e:a[k]=b[k]
  .rw[A,C,List.cons_beq_cons,e];simp only[beq_self_eq_true,Bool.not_true,Bool.true_and,if_false,Bool.false_eq_true];exact L
  .have:(a[k]==b[k])=false:=by simpa using e
   rw[A,C,List.cons_beq_cons,this];simp only[Bool.not_false,if_true,Bool.false_and,Sem.run_pure]
theorem G1 {i:TypeId} {a:List Int} {n:Nat} (e:Bool) (G:a.length=n) (hi:wj P i=some ⟨1,8,[.int .i64 0],.int .i64⟩) (B:P.underlying i=some (.int .i64)) (d:Nat) (w:World) :
 ∀(m k:Nat),k+m=n->(forIn (List.range' k m) PUnit.unit (λj (_:PUnit)=>do
  let s <-sizeOf i
  let v <-part i (ic a) (j*s)
  Instr.checkKey e (d+1) i v
  pure (ForInStep.yield PUnit.unit)):Sem PUnit).run P w=.ok PUnit.unit w
 | 0,k,h=>by simp
 | m+1,k,h=>by
  have D:k<a.length:=by omega
  have pa:(part i (ic a) (k*1)).run P w=.ok (.int .i64 a[k]) w:=rI hi (by rw[Iw,Nat.mul_one];simp[D])
  have z:(sizeOf i).run P w=.ok 1 w:=(pW.L8 hi).ko;have q:(Instr.checkKey e (d+1) i (.int .i64 a[k])).run P w=.ok () w:=zS d e _ B;have u:=G1 e G hi B d w m (k+1) (by omega)
  simp only[List.range'_succ,List.forIn_cons,Sem.run_bind,z,pa,q,Result.andThen_ok,Sem.run_pure]at u ⊢;exact u
theorem vR.arr {t i:TypeId} {n:Nat} (hu:P.underlying t=some (.array n i)) (hi:wj P i=some ⟨1,8,[.int .i64 0],.int .i64⟩) (G:P.underlying i=some (.int .i64)) (U:P.eqGuardType P.depth t=false):vR P t n:=by
 obtain⟨O,z,A,L,_⟩:=(pW.L8 hi).info;have B:P.cellsOf i=1:=by unfold Program.cellsOf;simp[A,L]
 have C:∀(w:World) (a b:List Int),a.length=n->b.length=n->(Op.equal t (.agg (ic a)) (.agg (ic b))).run P w=.ok (a==b) w:=by
  intro w a b D I;show (Op.equalIn (9999+1) t _ _).run P w=_;rw[run_equalIn_array w 9999 _ _ hu A,B,List.range_eq_range'];simpa using FG D I hi G 9998 w n 0 (by omega)
 have J:∀(op:BinOp) (p q:Operand) (w:World) (u v:Array Value),(eqGuard op t p q (.agg u) (.agg v)).run P w=.ok () w:=by
  intro op p q w u v;unfold eqGuard;cases op <;> simp[Sem.run_bind,run_program,Result.andThen,U]
 refine⟨?_,?_,C,?_,⟨_,hu,.inl ⟨_,_,rfl⟩⟩⟩
 .intro w p q a b D I;rw[Sem.run_bind,J,Result.andThen_ok];show (do pure (Value.bool (<-Op.equal t (.agg (ic a)) (.agg (ic b)))):Sem Value).run P w=_
  rw[Sem.run_bind,C _ _ _ D I];rfl
 .intro w p q a b D I;rw[Sem.run_bind,J,Result.andThen_ok];show (do pure (Value.bool (!(<-Op.equal t (.agg (ic a)) (.agg (ic b))))):Sem Value).run P w=_
  rw[Sem.run_bind,C _ _ _ D I];rfl
 .intro w e a D;show (Instr.checkKey e (9999+1) t _).run P w=_;unfold Instr.checkKey;simp only[Sem.run_bind,dJ hu,Result.andThen_ok];have:=G1 e D hi G 9998 w n 0 (by omega)
  simp only[Std.Legacy.Range.forIn_eq_forIn_range',Std.Legacy.Range.size,Nat.sub_zero,Nat.add_one_sub_one,Nat.div_one];rw[show (9998+1:Nat)=9999 from rfl]at this;rw[this];rfl
end Go.VE
namespace Go.VE
variable [bW]
structure CR (E:Env) (c c':dx):Prop where
 lv:c.lv<=c'.lv
 TX:∀f args H y,E.keep f=false->cC c f args H=some y->cC c' f args H=some y
 dir:∀f args H r,E.keep f=true->c (.fn f) args H=some r->c' (.fn f) args H=some r
 yld:∀id args H r,c (.yld id) args H=some r->c' (.yld id) args H=some r
 rng:∀f args H r,H≠[]->c (.fn f) args H=some r->c' (.fn f) args H=some r
section
variable {E:Env} {c c':dx} {n:Nat} {ops:List Oper} {F F':Frame} {H H':bh}
theorem I5 (h:CR E c c') {f:FuncId} {args:List V} {r:V×bh} (hk:E.keep f=true) (hi:mc c f args H=some r):mc c' f args H=some r:=DQ h.lv (λ_ _ _=>h.dir _ _ _ _ hk) hi
theorem BM (h:CR E c c') {f:FuncId} {args:List V} {r:V×bh} (hk:E.keep f=true) (hi:fD E c f args H=some r):fD E c' f args H=some r:=by
 unfold fD at hi ⊢;split
 .rename_i u;rw[if_pos u]at hi;exact I5 h hk hi
 .rename_i u;rw[if_neg u]at hi;exact h.dir _ _ _ _ hk hi
theorem Bs {place:Option (Nat×Nat)} {f:FuncId} (h:kN E ops place f=true):E.keep f=true:=by
 unfold kN at h;grind
theorem CR.any (h:CR E c c') {f:FuncId} {args:List V} {H:bh} {y:V} (hi:cC c f args H=some y):cC c' f args H=some y:=by
 cases hk:E.keep f with
 | false=>exact h.TX _ _ _ _ hk hi
 | true=>exact De h.lv (λ_ _ _=>h.dir _ _ _ _ hk) hi
theorem OB (h:CR E c c') {place:Option (Nat×Nat)} {op:Op} {r:V×bh} (hi:di E c ops place F H op=some r):di E c' ops place F H op=some r:=by
 unfold di at hi ⊢;split at hi
 .omega
 .omega
 .omega
 .omega
 .split at hi
  .rename_i f args A;split at hi
   .rename_i hk;rw[if_pos hk];split at hi
    .exact BM h (Bs hk) hi
    .split at hi
     .rename_i z;rw[if_pos z];exact BM h (Bs hk) hi
     grind
   .rename_i hk;rw[if_neg hk];split at hi
    .split at hi
     .rename_i y u;rw[h.any u,mL h.lv u];exact hi
     grind
    .rename_i b i;split at hi
     .rename_i y u;rw[h.any u,mL h.lv u];exact hi
     .rename_i w;split at hi
      .rename_i z;split at hi
       .rename_i y u
        cases B:cC c' f args (List.take b H)with
        | some C=>exact(zN h.lv w u B).elim
        | none=>simp only[if_pos z,h.any u,mL h.lv u];exact hi
       grind
      grind
  .split at hi
   .exact h.yld _ _ _ _ hi
   .split at hi
    .rename_i z;rw[if_pos z];exact h.yld _ _ _ _ hi
    grind
  grind
theorem EI (h:CR E c c') {place:Option (Nat×Nat)} {o:Oper} {r:Frame×bh} (hi:gx E c n ops place o F H=some r):gx E c' n ops place o F H=some r:=by
 unfold gx at hi ⊢;split at hi
 .rename_i u;rw[if_pos u];split at hi
  .rename_i v H1 hd;rw[OB h hd];omega
  grind
 grind
theorem Dq (h:CR E c c') {r:Frame×bh}:∀(l:List Oper) {F:Frame} {H:bh},mz E c n ops l F H=some r->mz E c' n ops l F H=some r
 | [],_,_,hi=>hi
 | o::l,F,H,hi=>by
  simp[mz]at hi ⊢;split at hi
  .rename_i F1 H1 B;rw[EI h B];exact Dq h l hi
  grind
theorem DS (h:CR E c c') {base:Nat} {r:Frame×bh}:∀(l:List Nat) {F:Frame} {H:bh},jF E c n ops base l F H=some r->jF E c' n ops base l F H=some r
 | [],_,_,hi=>hi
 | i::l,F,H,hi=>by
  simp[jF]at hi ⊢;split at hi
  .split at hi
   .rename_i F1 H1 B;rw[EI h B];exact DS h l hi
   grind
  grind
theorem FY (h:CR E c c') {B:Bool} {r:Frame×bh} (hi:jx E c n ops B F H=some r):jx E c' n ops B F H=some r:=by
 unfold jx at hi ⊢;split
 .rename_i hd;rw[if_pos hd]at hi;split at hi
  .rename_i u;rw[if_pos u];exact DS h _ hi
  grind
 .rename_i hd;rw[if_neg hd]at hi;exact Dq h _ hi
theorem Cn (h:CR E c c') {lf B:Nat} (D:lf<=B) (ro:Bool) (nt:Nat):∀(code:Code) {F:Frame} {H:bh} {r:Out×Frame×bh},exec E c lf ro nt code F H=some r->exec E c' B ro nt code F H=some r:=by
 intro code
 induction code with
 | skip=>intro F H r hi;exact hi
 | label l=>intro F H r hi;exact hi
 | region id ops A=>
  intro F H r hi;simp only[exec,ζf]at hi ⊢;obtain⟨x,G,rfl⟩:=hi;exact⟨x,FY h G,rfl⟩
 | seq a b u z=>
  intro F H r hi;simp[exec]at hi ⊢
  grind
 | cond x a b u z=>
  intro F H r hi;simp[exec]at hi ⊢
  grind
 | block id a C=>
  intro F H r hi;simp[exec]at hi ⊢
  grind
 | loop a C=>
  intro F H r hi;exact yE (λF H r hr=>C hr) lf B D hi
 | rangeFunc g J L O _ _=>
  intro F H r hi;simp[exec]at hi ⊢;split at hi
  .split at hi
   .rename_i I H1 hc;rw[h.rng _ _ _ _ (by simp) hc];omega
   grind
  grind
 | exit id=>intro F H r hi;exact hi
 | ret=>intro F H r hi;exact hi
 | scope a _=>intro F H r hi;simp[exec]at hi
 | goto l=>intro F H r hi;simp[exec]at hi
 | refuse w=>intro F H r hi;simp[exec]at hi
theorem zU (h:CR E c c') {n m:Nat} (B:n<=m) {x:Callee} {a:List V} {r:V×bh} (hi:kW E c n x a H=some r):kW E c' m x a H=some r:=by
 cases x with
 | fn f=>
  rw[kW]at hi ⊢;split at hi
  .split at hi
   .rename_i D;split at hi
    .simp_all
    .rename_i o F1 H1 G I;rw[Cn h B _ _ _ I]
     grind
    grind
   grind
  .split at hi
   .rename_i J;rw[if_pos J];exact Dg h.lv (λg args y hk L=>h.TX _ _ _ _ hk L) hi
   grind
 | yld id=>
  rw[kW]at hi ⊢;split at hi
  .split at hi
   .split at hi
    .rename_i u;split at hi
     .rename_i O H2 z;split at hi
      .rename_i r2 A;split at hi
       .rename_i w;split at hi
        .rename_i o Q S C;simp only[if_pos u,Cn h B _ _ _ z,A,w,Cn h B _ _ _ C];omega
        grind
       grind
      grind
     grind
    grind
   grind
  grind
mutual
def V.same:Nat->V->V->Bool
 | 0,_,_=>false
 | _+1,.bool a,.bool b=>a==b
 | _+1,.int k a,.int l b=>decide (k=l)&&decide (a=b)
 | _+1,.str a,.str b=>decide (a.data.toList=b.data.toList)
 | _+1,.bX,.bX=>true
 | _+1,.dB,.dB=>true
 | _+1,.gX,.gX=>true
 | _+1,.gz,.gz=>true
 | _+1,.sw,.sw=>true
 | n+1,.agg a,.agg b=>V.rz n a b
 | n+1,.tup a,.tup b=>V.rz n a b
 | n+1,.fptr a,.fptr b=>V.rz n a b
 | n+1,.fsl e a,.fsl B b=>Nat.beq e B&&V.Au n a b
 | n+1,.clo f a b,.clo D a' G=>Nat.beq f D&&V.rz n a a'&&V.rz n b G
 | _+1,_,_=>false
def V.rz:Nat->List V->List V->Bool
 | 0,_,_=>false
 | _+1,[],[]=>true
 | n+1,a::r,b::s=>V.same n a b&&V.rz n r s
 | _+1,_,_=>false
def V.Au:Nat->List (List V)->List (List V)->Bool
 | 0,_,_=>false
 | _+1,[],[]=>true
 | n+1,a::r,b::s=>V.rz n a b&&V.Au n r s
 | _+1,_,_=>false
end
theorem SL:∀n,(∀a b,V.same n a b=true->a=b)/\(∀a b,V.rz n a b=true->a=b)/\(∀a b,V.Au n a b=true->a=b):=by
 intro n
 induction n with
 | zero=>exact⟨λa b h=>by simp[V.same]at h,λa b h=>by simp[V.rz]at h,λa b h=>by simp[V.Au]at h⟩
 | succ n u=>
  obtain⟨i1,i2,i3⟩:=u;refine⟨λa b h=>?_,λa b h=>?_,λa b h=>?_⟩
  .cases a <;> cases b <;> simp only[V.same,ζh,decide_eq_true_eq,Bool.false_eq_true]at h <;> first|rfl|grind|skip
   all_goals first
    | grind
    | grind
    | grind
    | (rw[Nat.eq_of_beq_eq_true h.1,i3 _ _ h.2])
    | (rw[Nat.eq_of_beq_eq_true h.1.1,i2 _ _ h.1.2,i2 _ _ h.2])
    | (congr 1;exact ByteArray.ext (Array.ext' h))
  .cases a <;> cases b <;> simp[V.rz]at h <;> first|rfl|grind|grind
  .cases a <;> cases b <;> simp[V.Au]at h <;> first|rfl|grind|grind
structure k8 where
 f:FuncId
 az:List V
 y:V
def yq:List k8->FuncId->List V->Option V
 | [],_,_=>none
 | k::r,f,az=>bif Nat.beq k.f f&&V.rz 1000 k.az az then some k.y else yq r f az
theorem Cm:∀{l:List k8} {f:FuncId} {az:List V} {y:V},yq l f az=some y->∃k∈l,k.f=f/\k.az=az/\k.y=y
 | [],_,_,_,h=>by simp[yq]at h
 | k::r,f,az,y,h=>by
  unfold yq at h
  cases B:Nat.beq k.f f&&V.rz 1000 k.az az with
  | true=>
   simp only[ζh]at B;exact⟨k,List.mem_cons_self ..,Nat.eq_of_beq_eq_true B.1,(SL 1000).2.1 _ _ B.2,by grind⟩
  | false=>
   rw[B]at h;obtain⟨q,h1,D⟩:=Cm h
   grind
def Gj (E:Env) (l:List k8) (c:dx) (n:Nat):Callee->List V->bh->Option (V×bh)
 | .fn f,az,[]=>match yq l f az with
  | some y=>some (y,[])
  | none=>kW E c n (.fn f) az []
 | x,az,H=>kW E c n x az H
def runM (E:Env) (l:List k8):Nat->dx
 | 0=>⟨0,λ_ _ _=>none⟩
 | n+1=>⟨n+1,Gj E l (runM E l n) n⟩
theorem SB (E:Env) (l:List k8):∀n,(runM E l n).lv=n
 | 0=>rfl
 | _+1=>rfl
theorem NO {l:List k8} {n:Nat} {x:Callee} {a:List V} {H:bh}:runM E l (n+1) x a H=Gj E l (runM E l n) n x a H:=rfl
def vL (E:Env) (n:Nat) (k:k8):Prop:=∃r H1,run E n (.fn k.f) k.az []=some (r,H1)/\borrow n H1 r=some k.y
structure tL (E:Env) (k:k8):Prop where
 keep:E.keep k.f=false
 cl:k.y.closed=true
 at_:∃n,vL E n k
theorem vL.le {n m:Nat} {k:k8} (h:vL E n k) (B:n<=m):vL E m k:=by
 obtain⟨r,H1,h1,u⟩:=h;exact⟨r,H1,(uK E B).go _ _ _ _ h1,sy B u⟩
theorem Ay:∀{l:List k8},(∀k∈l,tL E k)->∃N,∀k∈l,vL E N k
 | [],_=>⟨0,by simp⟩
 | k::r,h=>by
  obtain⟨N,B⟩:=Ay (λq hq=>h q (List.mem_cons_of_mem _ hq))
  obtain⟨n,u⟩:=(h k (List.mem_cons_self ..)).at_;refine⟨max N n,λq hq=>?_⟩
  rcases List.mem_cons.1 hq with rfl|hq
  .exact u.le (Nat.le_max_right ..)
  .exact(B q hq).le (Nat.le_max_left ..)
theorem zV {l:List k8} {x:Callee} {az:List V} (h:H≠[]\/(∃id,x=.yld id)\/∃f,x=.fn f/\yq l f az=none):runM E l (n+1) x az H=kW E (runM E l n) n x az H:=by
 rcases h with h|⟨id,rfl⟩|⟨f,rfl,h⟩
 .cases x with
  | yld id=>rfl
  | fn f=>
   cases H with
   | nil=>exact absurd rfl h
   | cons a r=>rfl
 .rfl
 .cases H with
  | nil=>rw[NO,Gj,h]
  | cons a r=>rfl
theorem J_ {l:List k8} {N:Nat} (B:∀k∈l,tL E k) (D:∀k∈l,vL E N k):∀n,CR E (runM E l n) (run E (N+n)):=by
 intro n
 induction n with
 | zero=>
  refine⟨Nat.zero_le _,λf args H y _ h=>?_,λf args H r _ h=>(by cases h),λid args H r h=>(by cases h),λf args H r _ h=>(by cases h)⟩
  unfold cC at h;split at h
  .cases h
  .cases h
 | succ n G=>
  have up:∀{x:Callee} {az:List V} {H:bh} {r:V×bh},kW E (runM E l n) n x az H=some r->run E (N+(n+1)) x az H=some r:=λh=>by
   rw[show N+(n+1)=(N+n)+1 from rfl,Gd];exact zU G (Nat.le_add_left ..) h
  have w:(runM E l (n+1)).lv<=(run E (N+(n+1))).lv:=by rw[SB,pI];exact Nat.le_add_left ..
  refine⟨w,λf args H y hk h=>?_,λf args H r hk h=>?_,λid args H r h=>?_,λf args H r A h=>?_⟩
  .unfold cC at h ⊢;split at h
   .rename_i az has;rw[sN w has];split at h
    .rename_i r H1 hc
     cases z:yq l f az with
     | none=>
      rw[zV (.inr (.inr ⟨f,rfl,z⟩))]at hc;simp only;rw[up hc];split at h
      .rename_i O I;simp only;rw[sy w I];exact h
      .cases h
     | some Q=>
      rw[NO,Gj,z]at hc;obtain⟨rfl,rfl⟩:=hc;obtain⟨k,u,rfl,rfl,rfl⟩:=Cm z;have ok:=B k u;obtain⟨r1,H2,h1,J⟩:=(D k u).le (Nat.le_add_right N (n+1));rw[mI _ _ ok.cl]at h;simp only[h1,pI,J];exact h
    .cases h
   .cases h
  .by_cases z:H≠[]\/(∃id,(Callee.fn f)=.yld id)\/∃C,Callee.fn f=.fn C/\yq l C args=none
   .rw[zV z]at h;exact up h
   .cases L:yq l f args with
    | none=>grind
    | some y=>
     obtain⟨k,u,rfl,_,_⟩:=Cm L;rw[(B k u).keep]at hk;cases hk
  .exact up h
  .rw[zV (.inl A)]at h;exact up h
def Um (E:Env) (l:List k8) (n:Nat) (k:k8):Option V:=
 match kW E (runM E l n) n (.fn k.f) k.az []with
 | some (r,H1)=>borrow n H1 r
 | none=>none
theorem HQ {l:List k8} (B:∀k∈l,tL E k) {k:k8} (h:(Um E l n k,k.y.closed,E.keep k.f)=(some k.y,true,false)):tL E k:=by
 simp  at h;obtain⟨N,u⟩:=Ay B;refine⟨h.2.2,h.2.1,N+n+1,?_⟩;have h1:=h.1;unfold Um at h1;split at h1
 .rename_i r H1 w;refine⟨r,H1,?_,sy (by omega) h1⟩
  exact zU (J_ B u n) (Nat.le_add_left ..) w
 grind
def Rn (E:Env) (l:List k8) (n:Nat) (f:FuncId) (az:List V):Bool:=
 match kW E (runM E l n) n (.fn f) az []with
 | some (.bool b,_)=>b
 | _=>false
theorem Ll {l:List k8} (B:∀k∈l,tL E k) {f:FuncId} {az:List V} (h:Rn E l n f az=true):∃n H1,run E n (.fn f) az []=some (.bool true,H1):=by
 obtain⟨N,u⟩:=Ay B;unfold Rn at h;split at h
 .rename_i b H1 w;subst h;exact⟨N+n+1,H1,(zU (J_ B u n) (Nat.le_add_left ..) w)⟩
 simp_all
end
end Go.VE
