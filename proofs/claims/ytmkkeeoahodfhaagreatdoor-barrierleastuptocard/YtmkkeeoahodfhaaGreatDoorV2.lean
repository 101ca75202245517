/-
 The engine: operations of the loaded code on values without a heap; a run of it is a run of the program.
-/
import Derived.RangeFuncRecord
import Derived.Shelf.SlSortCmp.NoneTotal
import Derived.RangeFuncLeaves
import Derived.Laws.StructEq
import Derived.ChangeKeysEq
import Derived.Test.YtmkkeeoahodfhaaGreatDoorV1
set_option linter.all false
namespace Go.VE
variable [bN]
def Out.FN:Out->Exit
 | .norm=>.normal
 | .exit id=>.exit id
 | .ret=>.ret
theorem exists_least (p:Nat->Prop):∀k,p k->∃m,p m/\∀j,p j->m<=j:=by
 intro k
 induction k using Nat.strongRecOn with
 | _ k w=>
  intro hk
  by_cases h:∃j,j<k/\p j
  .obtain⟨j,z,t⟩:=h;exact w j z t
  .exact⟨k,hk,λj t=>Nat.le_of_not_lt λu=>h ⟨j,u,t⟩⟩
open Classical in
noncomputable def least (p:Nat->Prop):Nat:=if h:∃m,p m/\∀j,p j->m<=j then h.choose else 0
theorem HR (p:Nat->Prop) {k:Nat} (hk:p k):p (least p)/\least p<=k:=by
 have h:=exists_least p k hk;unfold least;rw[dif_pos h];exact⟨h.choose_spec.1,h.choose_spec.2 k hk⟩
section
variable {P:Program} {E:Env} {I I':b9} {μ μ':Mu} {H H':bf} {n B:Nat} {F F':Frame} {a:Act} {w w':World}
def Post (B n:Nat) (I:b9) (μ:Mu) (H:bf) (w:World) (o:Out) (F':Frame) (H':bf):Exit->Act->World->Prop:=
 λe t w'=>e=o.FN/\(∃I' μ',dQ I' μ' n F' t.tmps/\cG I' μ' H' w'/\Step I μ H w I' μ' H' w')/\iI B t.defers w'
theorem Post.mono {I1:b9} {D:Mu} {H1:bf} {G:World} {o:Out} (s1:cG I1 D H1 G) (st:Step I μ H w I1 D H1 G) {e:Exit} {a':Act} {w':World} (h:Post B n I1 D H1 G o F' H' e a' w') :
 Post B n I μ H w o F' H' e a' w':=by
 obtain⟨h1,⟨I',μ',t,u,z⟩,A⟩:=h;exact⟨h1,⟨I',μ',t,u,Step.trans s1 st z⟩,A⟩
theorem cG.yT (s:cG I μ H w) {b:Nat} (o:Obj) (B:I b=none) (D:¬gC μ H b):cG I μ H (eT w b o) where
 dom:=s.dom
 imm:=λu x h=>IC.ql (s.imm u x h) (eB o (by rintro rfl;rw[B]at h;cases h))
 obs:=λid ob h=>(s.obs id ob h).mono (b9.le_refl _) (Mu.le_refl _) (λp z A=>by
  have t:gC μ H p.b:=⟨id,p,ob,h,A,z,rfl⟩;exact⟨eB o (λe=>D (e▸t)),fq s t⟩) (λC=>by subst C;exact s.obs id _ h)
 inj:=s.inj
 gl:=s.gl
theorem Qb (s:cG I μ H w) {b:Nat} {o:Obj} (h:w.heap[b]? = some o) (h1:∀c e f,o≠.cells c e f) (B:∀es c,o≠.map es c):I b=none:=by
 cases t:I b with
 | none=>rfl
 | some x=>
  have:=s.imm b x t
  cases x with
  | cells c=>obtain⟨_,_,q⟩:=this;rw[h]at q;cases q;exact absurd rfl (h1 _ _ _)
  | map es=>obtain⟨_,q⟩:=this;rw[h]at q;cases q;exact absurd rfl (B _ _)
theorem Step.kept (hk:∀b,b<w.heap.size->w'.heap[b]? = w.heap[b]?) (B:w.heap.size<=w'.heap.size) (h1:w'.os=w.os) (D:tB w w') (G:∀a:Addr,a.block<w.heap.size->w.frozen? a=false->w'.frozen? a=false):Step I μ H w I μ H w':=
 ⟨b9.le_refl _,Mu.le_refl _,Nat.le_refl _,B,λb t _=>hk b t,λ_ h=>h.elim .inl λh=>.inr (.inl h),h1,D,G⟩
theorem Step.after (st:Step I μ H w I' μ' H' w') {b:Nat} (o:Obj) (B:w.heap.size<=b) (D:Obj.nf o:=by first|exact rZ _ _|exact qc rfl):Step I μ H w I' μ' H' (eT w' b o):=
 ⟨st.le,st.mu,st.len,by rw[qi];exact st.size,λu t z=>by rw[eB o (by omega)];exact st.frame u t z,st.terr,st.os,⟨st.out.out,st.out.tape,st.out.dr⟩,λa B A=>Rx D a (st.fz a B A)⟩
theorem iI.yT {ds:List Deferred} (h:iI B ds w) {b:Nat} {o:Obj} (D:∀r,w.heap[r]? = some (.deferred (some []))->r≠b):iI B ds (eT w b o):=
 ⟨λd u=>by
  obtain⟨r,h1,z,t⟩:=h.all d u;exact⟨r,h1,z,by rw[eB o (D r t)];exact t⟩,h.apart⟩
theorem Jv {step:Frame->bf->Option (Out×Frame×bf)} {c:Code} {ro:Option Nat} {o:Out}
 (D:∀I μ F H a w o F' H',step F H=some (o,F',H')->dQ I μ n F a.tmps->cG I μ H w->iI B a.defers w->B<=w.heap.size->c.wpIn (fr ro) 0 P (Post B n I μ H w o F' H') a w)
 {k:Nat} (h:jE step k F H=some (o,F',H')) (r:dQ I μ n F a.tmps) (s:cG I μ H w) (m:iI B a.defers w) (hB:B<=w.heap.size) :
 (Code.loop c).wpIn (fr ro) 0 P (Post B n I μ H w o F' H') a w:=by
 let Inv:Nat->Act->World->Prop:=λk t w'=>∃I1 C F1 H1,jE step k F1 H1=some (o,F',H')/\dQ I1 C n F1 t.tmps/\cG I1 C H1 w'/\Step I μ H w I1 C H1 w'/\iI B t.defers w'/\B<=w'.heap.size
 let M:Act->World->Nat:=λt w'=>least (λk=>Inv k t w')
 have X:∀k t w',Inv k t w'->Inv (M t w') t w'/\M t w'<=k:=λk t w' O=>HR (λk=>Inv k t w') O
 refine wpIn_loop (λt w'=>∃k,Inv k t w') M ⟨k,I,μ,F,H,h,r,s,.refl _ _ _ _,m,hB⟩ ?_
 rintro a1 Q ⟨k1,S⟩;obtain⟨O,_⟩:=X k1 a1 Q S;generalize hk:M a1 Q=kk at O;obtain⟨I1,C,F1,H1,G,r1,s1,z,Y,A⟩:=O
 cases kk with
 | zero=>simp[jE]at G
 | succ kk=>
  simp only[jE]at G;split at G
  .rename_i Z H2 T;refine wpIn_mono (D I1 C F1 H1 a1 Q .norm Z H2 T r1 s1 Y A) ?_;rintro e J L ⟨rfl,⟨I2,μ2,r2,s2,st2⟩,m2⟩;show (∃k,Inv k J L)/\M J L<kk+1;have u:Inv kk J L:=⟨I2,μ2,Z,H2,G,r2,s2,Step.trans s1 z st2,m2,Nat.le_trans A st2.size⟩;exact⟨⟨kk,u⟩,Nat.lt_succ_of_le (X kk J L u).2⟩
  .rename_i U;refine wpIn_mono (D I1 C F1 H1 a1 Q o F' H' G r1 s1 Y A) ?_;intro e J L hp;have W:o≠.norm:=by
    rintro rfl;exact U F' H' G
   obtain⟨rfl,h2,h3⟩:=hp
   cases o with
   | norm=>exact absurd rfl W
   | exit id=>exact Post.mono s1 z ⟨rfl,h2,h3⟩
   | ret=>exact Post.mono s1 z ⟨rfl,h2,h3⟩
end
end Go.VE
namespace Go.VE
variable [bN]
section
variable {P:Program} {E:Env} {I I':b9} {μ μ':Mu} {H H':bf} {n B:Nat} {F F':Frame} {a:Act} {w w':World}
theorem y_ (s:cG I μ H w) {id:Nat} {r:tO} (h:H[id]? = some (.loop r)):∃p l,μ id=some p/\I p.b=none/\w.heap[p.b]? = some (.loop l)/\tN I μ r l:=s.obs id _ h
theorem FD {p:Option Out} (B:p≠some .norm):(p.bind jQ=none->p.getD .norm=.norm)/\(∀c,p.bind jQ=some c->(c=.ret/\p.getD .norm=.ret)\/∃id,c=.exit id/\p.getD .norm=.exit id):=by
 cases p with
 | none=>grind
 | some o=>
  cases o with
  | norm=>grind
  | ret=>exact⟨by simp[jQ],by simp[jQ]⟩
  | exit id=>exact⟨by simp[jQ],by simp[jQ]⟩
theorem GH {call:c7} (hc:jI P call) {g:Operand} {ps:Array Tmp} {assign body:Code} {o:Out} {lf:Nat}
 (h:exec E call lf false n (.rangeFunc g ps assign body) F H=some (o,F',H')) (r:dQ I μ n F a.tmps) (s:cG I μ H w) (m:iI B a.defers w) (hB:B<=w.heap.size) :
 (Code.rangeFunc g ps assign body).wpIn (fr none) 0 P (Post B n I μ H w o F' H') a w:=by
 cases hg:ev F g with
 | none=>simp[exec,hg]at h
 | some gv=>
 cases gv with
 | clo f x y=>
  simp[exec,hg]at h;split at h
  .rename_i am H2 J;split at h
   .rename_i r2 C;have W:r2.st≠.busy/\r2.pend.getD .norm=o/\F=F'/\H2.set H.length .dead=H':=by
     grind
    obtain⟨W,rfl,rfl,rfl⟩:=W;obtain⟨u,v,eg,hu,hv⟩:=(c9 r hg).jk;refine wpIn_rangeFunc λz _=>?_
    have X:∀b,b<w.heap.size->(w.alloc (.deferred (some []))).heap[b]? = w.heap[b]? := λb hb=>iJ _ b hb
    have s1  := s.kept X;have ad:Step I μ H w I μ H (w.alloc (.deferred (some []))):=Step.kept X (by simp) rfl ⟨rfl,rfl,Nat.le_refl _⟩ (λa _=>KK (qc rfl) a)
    have ae:tN I μ ⟨.ready,none,F,n,ps.toList,assign,body⟩ { state:=.ready,pending:=none,fn:=z,tmps:=a.tmps,params:=ps,assign,body,defers:=w.heap.size }:=
     ⟨trivial,rfl,by simp,r,rfl,rfl,rfl⟩
    obtain⟨s2,st2⟩:=s1.push (ob:=.loop ⟨.ready,none,F,n,ps.toList,assign,body⟩)
     (o:=.loop { state:=.ready,pending:=none,fn:=z,tmps:=a.tmps,params:=ps,assign,body,defers:=w.heap.size }) (p:=⟨w.heap.size+1,0,0,0⟩) (by simp)
     ⟨_,_,Mu.fu _ _ _,by have:=s1.wh;simp_all,by have:=jK (w:=w.alloc (.deferred (some []))) (.loop { state:=.ready,pending:=none,fn:=z,tmps:=a.tmps,params:=ps,assign,body,defers:=w.heap.size });simp_all,
      ae.mono (b9.le_refl _) (Mu.pJ (s1.dom _ (Nat.le_refl _)))⟩
    have L :=
     (hu.mono (b9.le_refl _) st2.mu).append (.cons (.yld H.length ⟨w.heap.size+1,0,0,0⟩ (Mu.fu _ _ _)) (hv.mono (b9.le_refl _) st2.mu))
    obtain⟨hf,D⟩:=hc.fn f _ _ _ _ J;refine⟨w.heap.size+1,[{ target:=.collected w.heap.size,args:=#[] }],((w.alloc (.deferred (some []))).alloc (.loop { state:=.ready,pending:=none,fn:=z,tmps:=a.tmps,params:=ps,assign,body,defers:=w.heap.size })),{ target:=.fn (.func f) v,args:=u++#[.func (.yield (w.heap.size+1)) #[] #[]] },((w.alloc (.deferred (some []))).alloc (.loop { state:=.ready,pending:=none,fn:=z,tmps:=a.tmps,params:=ps,assign,body,defers:=w.heap.size })),f,u++#[.func (.yield (w.heap.size+1)) #[] #[]]++v,((w.alloc (.deferred (some []))).alloc (.loop { state:=.ready,pending:=none,fn:=z,tmps:=a.tmps,params:=ps,assign,body,defers:=w.heap.size })),
     run_enterLoop_outer z a.tmps ps assign body,?_,λ_ _=>trivial,?_,λh=>by simp[fr]at h,?_⟩
    .simp[resolve];rw[eg];simp[Deferred.ofValue,Act.eval]
    .exact vo hf _
    .have Y:=D _ _ _ _ s2 L;have O:(u.toList++.func (.yield (w.heap.size+1)) #[] #[]::v.toList).toArray=u++#[.func (.yield (w.heap.size+1)) #[] #[]]++v:=by grind
     rw[O]at Y;refine Y.mono ?_;rintro e Z ⟨al,I3,μ3,rfl,_,s3,Q⟩;obtain⟨p,l,g1,g2,g3,g4⟩:=y_ s3 C;have hp:p=⟨w.heap.size+1,0,0,0⟩:=by
      have:=Q.mu _ _ (Mu.fu μ H.length ⟨w.heap.size+1,0,0,0⟩)
      grind
     subst hp;have G:l.state≠.busy:=by
      intro he;have:=g4.st;rw[he]at this;cases af:r2.st <;> rw[af]at this <;> simp[zJ.is]at this
      grind
     refine⟨l.pending,_,run_endLoop g3 G,?_⟩;obtain⟨s4,ah⟩:=s3.kill C;have S:¬gC μ3 (H2.set H.length .dead) (w.heap.size+1):=by
      rintro⟨id,q,ob,h1,h2,T,h4⟩
      by_cases e:id=H.length
      .subst e;rw[List.getElem?_set_self (ζe.1 C).1]at h1;cases h1;simp[Ob.live]at h2
      .rw[List.getElem?_set_ne (Ne.symm e)]at h1;exact e (s3.inj id H.length ob _ q _ h1 C h2 rfl T g1 h4)
     have s5:cG I3 μ3 (H2.set H.length .dead) (eT Z (w.heap.size+1) (.loop { l with state:=.exhausted })):=s4.yT _ g2 S;have st  := Step.trans s1 ad (Step.trans s2 st2 (Step.trans s3 Q ah));have ai:Step I μ H w I3 μ3 (H2.set H.length .dead) (eT Z (w.heap.size+1) (.loop { l with state:=.exhausted })):=st.after _ (by omega)
     have m2:iI B ({ target:=.collected w.heap.size,args:=#[] }::a.defers) ((w.alloc (.deferred (some []))).alloc (.loop { state:=.ready,pending:=none,fn:=z,tmps:=a.tmps,params:=ps,assign,body,defers:=w.heap.size })):=by
      refine⟨?_,?_⟩
      .intro d hd;rcases List.mem_cons.1 hd with rfl|hd
       .refine⟨w.heap.size,rfl,hB,?_⟩;rw[iJ _ _ (by simp)];exact jK _
       .obtain⟨q,h1,h2,T⟩:=m.all d hd;have U:=(Array.getElem?_eq_some_iff.1 T).1;refine⟨q,h1,h2,?_⟩;rw[iJ _ _ (by simp;omega),iJ _ _ U];exact T
      .refine List.Pairwise.cons ?_ m.apart;intro d hd q U aa;obtain⟨q2,h1,h2,T⟩:=m.all d hd;have:=(Array.getElem?_eq_some_iff.1 T).1;cases U;rw[h1]at aa;cases aa;omega
     have m3:=m2.step s2 Q;have m5:iI B ({ target:=.collected w.heap.size,args:=#[] }::a.defers) (eT Z (w.heap.size+1) (.loop { l with state:=.exhausted })):=
      m3.yT (λq U e=>by subst e;rw[g3]at U;cases U)
     have aj  := st.le;have ak  := st.mu;have t:∀A:Out,r2.pend.getD .norm=A->Post B n I μ H w A F (H2.set H.length .dead) A.FN { a with defers:=[{ target:=.collected w.heap.size,args:=#[] }]++a.defers } (eT Z (w.heap.size+1) (.loop { l with state:=.exhausted })):=
      λA _=>⟨rfl,⟨I3,μ3,r.mono aj ak,s5,ai⟩,m5⟩
     obtain⟨W5,ab⟩:∃W5,Z.putObj (w.heap.size+1) (.loop { l with state:=.exhausted })=W5:=⟨_,rfl⟩;have t:∀A:Out,r2.pend.getD .norm=A->Post B n I μ H w A F (H2.set H.length .dead) A.FN { a with defers:=[{ target:=.collected w.heap.size,args:=#[] }]++a.defers } W5:=by
      intro A ho;rw[<-ab];exact t A ho
     rw[ab];obtain⟨k1,k2⟩:=FD g4.pendOk;rw[g4.pend]
     cases hj:r2.pend.bind jQ with
     | none=>rw[k1 hj];exact t .norm (k1 hj)
     | some c=>
      rcases k2 c hj with⟨rfl,e⟩|⟨id,rfl,e⟩
      .rw[e];exact wpIn_ret (t .ret e)
      .rw[e];exact wpIn_exit (t (.exit id) e)
   grind
  grind
 | _=>simp[exec,hg]at h
theorem wI (Y:dV P E) (hm:P.follows .mixedOrders=true) {call:c7} (hc:jI P call) (lf:Nat) (ro:Option Nat) (U:Bool) (aa:U=ro.isSome) (n:Nat) :
 ∀(c:Code) (I:b9) (μ:Mu) (F:Frame) (H:bf) (a:Act) (w:World) (o:Out) (F':Frame) (H':bf),exec E call lf U n c F H=some (o,F',H')->dQ I μ n F a.tmps->cG I μ H w ->
  iI B a.defers w->B<=w.heap.size->c.wpIn (fr ro) 0 P (Post B n I μ H w o F' H') a w:=by
 intro c
 induction c with
 | skip=>
  intro I μ F H a w o F' H' h r s m _;obtain⟨rfl,rfl,rfl⟩:=h;exact wpIn_skip ⟨rfl,⟨I,μ,r,s,.refl _ _ _ _⟩,m⟩
 | label l=>
  intro I μ F H a w o F' H' h r s m _;obtain⟨rfl,rfl,rfl⟩:=h;exact wpIn_label ⟨rfl,⟨I,μ,r,s,.refl _ _ _ _⟩,m⟩
 | region id ops W=>
  intro I μ F H a w o F' H' h r s m _;simp only[exec,ζf]at h;obtain⟨⟨F2,H2⟩,h,rfl,rfl,rfl⟩:=h;refine E8 Y hm hc ro h r s (λa' I' μ' w' h1 z A X=>⟨rfl,⟨I',μ',h1,A,X⟩,?_⟩)
  rw[z];exact m.step s X
 | seq x y C D=>
  intro I μ F H a w o F' H' h r s m u;simp[exec]at h;refine wpIn_seq ?_;split at h
  .rename_i F1 H1 h1;refine wpIn_mono (C I μ F H a w _ F1 H1 h1 r s m u) ?_;rintro e a1 G ⟨rfl,⟨I1,Z,r1,s1,J⟩,m1⟩;refine wpIn_mono (D I1 Z F1 H1 a1 G o F' H' h r1 s1 m1 (Nat.le_trans u J.size)) ?_;intro e a2 w2 hp;exact Post.mono s1 J hp
  .refine wpIn_mono (C I μ F H a w o F' H' h r s m u) ?_;rintro e a1 G ⟨rfl,z,A⟩
   cases o with
   | norm=>grind
   | exit id=>exact⟨rfl,z,A⟩
   | ret=>exact⟨rfl,z,A⟩
 | cond c x y C D=>
  intro I μ F H a w o F' H' h r s m u;simp[exec]at h;split at h
  .rename_i t Q;have S:=(c9 r Q).qf;refine wpIn_cond S ?_
   grind
  grind
 | block id c O=>
  intro I μ F H a w o F' H' h r s m u;simp[exec]at h;refine wpIn_block ?_;split at h
  .rename_i L F1 H1 h1;refine wpIn_mono (O I μ F H a w _ F1 H1 h1 r s m u) ?_;rintro e a1 G ⟨rfl,z,A⟩;show Exit.inBlock id _ (.exit L) a1 G;unfold Exit.inBlock;split at h
   .rename_i T;obtain⟨rfl,rfl,rfl⟩:=h;simp[T];exact⟨rfl,z,A⟩
   .rename_i T;obtain⟨rfl,rfl,rfl⟩:=h;simp[T];exact⟨rfl,z,A⟩
  .refine wpIn_mono (O I μ F H a w o F' H' h r s m u) ?_;rintro e a1 G ⟨rfl,z,A⟩
   cases o with
   | norm=>exact⟨rfl,z,A⟩
   | exit L=>grind
   | ret=>exact⟨rfl,z,A⟩
 | loop c O=>
  intro I μ F H a w o F' H' h r s m u;exact Jv (λI μ F H a w o F' H' h r s m u=>O I μ F H a w o F' H' h r s m u) h r s m u
 | rangeFunc g ps assign body _ _=>
  intro I μ F H a w o F' H' h r s m u
  cases U with
  | true=>simp[exec]at h
  | false=>
   cases ro with
   | none=>exact GH hc h r s m u
   | some l=>simp_all
 | exit id=>
  intro I μ F H a w o F' H' h r s m _;obtain⟨rfl,rfl,rfl⟩:=h;exact wpIn_exit ⟨rfl,⟨I,μ,r,s,.refl _ _ _ _⟩,m⟩
 | ret=>
  intro I μ F H a w o F' H' h r s m _;obtain⟨rfl,rfl,rfl⟩:=h;exact wpIn_ret ⟨rfl,⟨I,μ,r,s,.refl _ _ _ _⟩,m⟩
 | scope body _=>intro I μ F H a w o F' H' h;simp[exec]at h
 | goto l=>intro I μ F H a w o F' H' h;simp[exec]at h
 | refuse ab=>intro I μ F H a w o F' H' h;simp[exec]at h
end
end Go.VE
namespace Go.VE
variable [bN]
theorem qx {f g:V->Option V} (h:∀x y,f x=some y->g x=some y):∀{l:List V} {r:List V},gH f l=some r->gH g l=some r
 | [],_,hr=>hr
 | x::l,r,hr=>by
  simp only[gH]at hr ⊢;split at hr
  .rename_i y s h1 B;rw[h _ _ h1,qx h B];exact hr
  .cases hr
theorem FT {f g:V->Option V} (h:∀x y,f x=some y->g x=some y):∀{l:List (List V)} {r:List (List V)},ki f l=some r->ki g l=some r
 | [],_,hr=>hr
 | x::l,r,hr=>by
  simp only[ki]at hr ⊢;split at hr
  .rename_i y s h1 B;rw[qx h h1,FT h B];exact hr
  .cases hr
theorem Er {f g:V->Option V} (h:∀x y,f x=some y->g x=some y):∀{l:List (V×V)} {r:List (V×V)},j7 f l=some r->j7 g l=some r
 | [],_,hr=>hr
 | (k,x)::l,r,hr=>by
  simp only[j7]at hr ⊢;split at hr
  .rename_i y s u h1 B D;rw[h _ _ h1,h _ _ B,Er h D];exact hr
  .cases hr
theorem GM {H:bf}:∀(n:Nat) (x y:V),borrow n H x=some y->borrow (n+1) H x=some y:=by
 intro n
 induction n with
 | zero=>
  intro x y h;simp only[borrow]at h;split at h
  .rename_i hc;rw[jo _ _ hc];exact h
  .cases h
 | succ n u=>
  intro x y h;unfold borrow at h ⊢;split
  .rename_i hc;rw[if_pos hc]at h;exact h
  .rename_i hc;rw[if_neg hc]at h
   cases x with
   | hsl id es off len=>
    simp only at h ⊢;split at h
    .split at h
     .rename_i q;rw[if_pos q];obtain⟨r,h1,t⟩:=ζf.1 h;rw[FT u h1];exact congrArg some t
     .cases h
    .cases h
   | hptr id el off=>
    simp only at h ⊢;split at h
    .split at h
     .split at h
      .rename_i q;rw[if_pos q];obtain⟨r,h1,t⟩:=ζf.1 h;rw[qx u h1];exact congrArg some t
      .cases h
     .cases h
    .cases h
   | hmap id=>
    simp only at h ⊢;split at h
    .obtain⟨r,h1,t⟩:=ζf.1 h;rw[Er u h1];exact congrArg some t
    .cases h
   | clo f a b=>
    simp only at h ⊢;split at h
    .rename_i h1 t;rw[qx u h1,qx u t];exact h
    .cases h
   | agg w=>
    simp only at h ⊢;obtain⟨r,h1,t⟩:=ζf.1 h;rw[qx u h1];exact congrArg some t
   | tup w=>
    simp only at h ⊢;obtain⟨r,h1,t⟩:=ζf.1 h;rw[qx u h1];exact congrArg some t
   | _=>cases h
theorem qE {H:bf} {n m:Nat} (h:n<=m) {x y:V} (B:borrow n H x=some y):borrow m H x=some y:=by
 induction h with
 | refl=>exact B
 | step _ t=>exact GM _ _ _ t
theorem qX {H:bf} {n m:Nat} (h:n<=m) {l r:List V} (B:borrows n H l=some r):borrows m H l=some r:=qx (λ_ _=>qE h) B
theorem An {f g:V->List Nat}:∀{l:List V},(∀x∈l,f x=g x)->cE f l=cE g l
 | [],_=>rfl
 | x::l,h=>by simp only[cE];rw[h x (List.mem_cons_self ..),An λy B=>h y (List.mem_cons_of_mem _ B)]
theorem od {f:V->Option V}:∀{l r:List V},gH f l=some r->∀x∈l,∃y,f x=some y
 | [],_,_,x,hx=>by cases hx
 | a::l,r,h,x,hx=>by
  simp only[gH]at h;split at h
  .rename_i y s h1 B;rcases List.mem_cons.1 hx with rfl|hx
   .exact⟨y,h1⟩
   .exact od B x hx
  .cases h
theorem CM {f:V->Option V}:∀{l r:List (List V)},ki f l=some r->∀c∈l,∀x∈c,∃y,f x=some y
 | [],_,_,x,B=>by cases B
 | a::l,r,h,c,hc=>by
  simp only[ki]at h;split at h
  .rename_i y s h1 D;rcases List.mem_cons.1 hc with rfl|hc
   .exact od h1
   .exact CM D c hc
  .cases h
theorem ym {f:V->Option V}:∀{l r:List (V×V)},j7 f l=some r->∀c∈l,(∃y,f c.1=some y)/\∃y,f c.2=some y
 | [],_,_,x,B=>by cases B
 | (k,a)::l,r,h,c,hc=>by
  simp only[j7]at h;split at h
  .rename_i y s u h1 D G;rcases List.mem_cons.1 hc with rfl|hc
   .exact⟨⟨y,h1⟩,s,D⟩
   .exact ym G c hc
  .cases h
theorem I5 {H:bf}:∀(n:Nat) (x y:V),borrow n H x=some y->bW (n+1) H x=bW n H x:=by
 intro n
 induction n with
 | zero=>
  intro x y h;simp only[borrow]at h;split at h
  .rename_i hc;simp[bW,hc]
  .cases h
 | succ n G=>
  intro x y h;have t:∀l:List V,(∀x∈l,∃y,borrow n H x=some y)->cE (bW (n+1) H) l=cE (bW n H) l:=λl I=>An λx u=>by
   obtain⟨y,J⟩:=I x u;exact G x y J
  unfold borrow at h;rw[bW.eq_def (n+1+1),bW.eq_def (n+1)];simp only;split
  .rfl
  .rename_i hc;rw[if_neg hc]at h
   cases x with
   | hsl id es off len=>
    simp only at h ⊢
    cases hr:(H[id]?).bind Ob.rows with
    | none=>rfl
    | some q=>
     obtain⟨A,L⟩:=q;rw[hr]at h;simp only at h ⊢;split at h
     .obtain⟨r,h1,w⟩:=ζf.1 h;rw[t _ λx u=>by
       obtain⟨c,hc,B⟩:=List.mem_flatten.1 u;exact CM h1 c hc x B]
     .cases h
   | hptr id el off=>
    simp only at h ⊢
    cases hr:(H[id]?).bind Ob.rows with
    | none=>rfl
    | some q=>
     obtain⟨A,L⟩:=q;rw[hr]at h;simp only at h ⊢;split at h
     .rename_i D C;split at h
      .obtain⟨r,h1,w⟩:=ζf.1 h;rw[t _ λx u=>od h1 x (by rw[C]at u;exact u)]
      .cases h
     .cases h
   | hmap id=>
    simp only at h ⊢;split at h
    .rename_i z hk;obtain⟨r,h1,w⟩:=ζf.1 h
     skip
     rw[t (z.map (·.1)) λx u=>by obtain⟨c,hc,rfl⟩:=List.mem_map.1 u;exact(ym h1 c hc).1,
      t (z.map (·.2)) λx u=>by obtain⟨c,hc,rfl⟩:=List.mem_map.1 u;exact(ym h1 c hc).2]
    .cases h
   | clo f a b=>
    simp only at h ⊢;split at h
    .rename_i h1 w;rw[t _ (od h1),t _ (od w)]
    .cases h
   | agg D=>
    simp only at h ⊢;obtain⟨r,h1,w⟩:=ζf.1 h;exact t _ (od h1)
   | tup D=>
    simp only at h ⊢;obtain⟨r,h1,w⟩:=ζf.1 h;exact t _ (od h1)
   | _=>rfl
theorem M9 {H:bf} {n m:Nat} (h:n<=m) {x y:V} (B:borrow n H x=some y):bW m H x=bW n H x:=by
 induction h with
 | refl=>rfl
 | step h t=>rw[I5 _ _ _ (qE h B),t]
theorem wP {H:bf} {n m:Nat} (h:n<=m) {l r:List V} (B:borrows n H l=some r):cE (bW m H) l=cE (bW n H) l:=
 An λx t=>by obtain⟨y,u⟩:=od B x t;exact M9 h u
theorem mJ {f g h:V->Option V} (k:∀x y z,f x=some y->g x=some z->h x=some z):∀{l r s:List V},gH f l=some r->gH g l=some s->gH h l=some s
 | [],_,_,_,B=>B
 | x::l,r,s,hr,B=>by
  simp only[gH]at hr B ⊢;split at hr
  .rename_i h1 D;split at B
   .rename_i G J;rw[k _ _ _ h1 G,mJ k D J];exact B
   .cases B
  .cases hr
theorem Bd {f g h:V->Option V} (k:∀x y z,f x=some y->g x=some z->h x=some z):∀{l r s:List (List V)},ki f l=some r->ki g l=some s->ki h l=some s
 | [],_,_,_,B=>B
 | x::l,r,s,hr,B=>by
  simp only[ki]at hr B ⊢;split at hr
  .rename_i h1 D;split at B
   .rename_i G J;rw[mJ k h1 G,Bd k D J];exact B
   .cases B
  .cases hr
theorem Bz {f g h:V->Option V} (k:∀x y z,f x=some y->g x=some z->h x=some z):∀{l r s:List (V×V)},j7 f l=some r->j7 g l=some s->j7 h l=some s
 | [],_,_,_,B=>B
 | (a,x)::l,r,s,hr,B=>by
  simp only[j7]at hr B ⊢;split at hr
  .rename_i h1 D G;split at B
   .rename_i J O U;rw[k _ _ _ h1 J,k _ _ _ D O,Bz k G U];exact B
   .cases B
  .cases hr
theorem GG {H H2:bf}:∀(n m:Nat) (x y z:V),borrow n H x=some y->borrow m H2 x=some z->(∀id:Nat,(H2[id]?).isSome=true->H2[id]? = H[id]?)->borrow n H2 x=some z:=by
 intro n
 induction n with
 | zero=>
  intro m x y z h k _;simp only[borrow]at h;split at h
  .rename_i hc;rw[jo _ _ hc]at k ⊢;exact k
  .cases h
 | succ n C=>
  intro m x y z h k u
  by_cases hc:x.closed=true
  .rw[jo _ _ hc]at k ⊢;exact k
  cases m with
  | zero=>simp only[borrow,if_neg hc]at k;cases k
  | succ m=>
   have t:∀x y z,borrow n H x=some y->borrow m H2 x=some z->borrow n H2 x=some z:=λx y z a b=>C m x y z a b u
   unfold borrow at h k ⊢;rw[if_neg hc]at h k ⊢;have row:∀id q,(H2[id]?).bind Ob.rows=some q->(H[id]?).bind Ob.rows=some q:=λid q w=>by
    rw[<-u id (by cases A:H2[id]? with|none=>rw[A]at w;cases w|some _=>rfl)];exact w
   cases x with
   | hsl id es off len=>
    simp only at h k ⊢;split at k
    .rename_i hr;rw[row _ _ hr]at h;simp only at h;split at k
     .rename_i q;rw[if_pos q]at h ⊢;obtain⟨r,h1,_⟩:=ζf.1 h;obtain⟨s,k1,k2⟩:=ζf.1 k;rw[Bd t h1 k1];exact congrArg some k2
     .cases k
    .cases k
   | hptr id el off=>
    simp only at h k ⊢;split at k
    .rename_i hr;rw[row _ _ hr]at h;simp only at h;split at k
     .rename_i B;rw[B]at h;simp only at h;split at k
      .rename_i q;rw[if_pos q]at h ⊢;obtain⟨r,h1,_⟩:=ζf.1 h;obtain⟨s,k1,k2⟩:=ζf.1 k;rw[mJ t h1 k1];exact congrArg some k2
      .cases k
     .cases k
    .cases k
   | hmap id=>
    simp only at h k ⊢;split at k
    .rename_i hr;rw[<-u id (by rw[hr];rfl),hr]at h
     simp only at h;obtain⟨r,h1,_⟩:=ζf.1 h;obtain⟨s,k1,k2⟩:=ζf.1 k;rw[Bz t h1 k1];exact congrArg some k2
    .cases k
   | clo f a b=>
    simp only at h k ⊢;split at h
    .rename_i h1 A;split at k
     .rename_i k1 k2;rw[mJ t h1 k1,mJ t A k2];exact k
     .cases k
    .cases h
   | agg D=>
    simp only at h k ⊢;obtain⟨r,h1,_⟩:=ζf.1 h;obtain⟨s,k1,k2⟩:=ζf.1 k;rw[mJ t h1 k1];exact congrArg some k2
   | tup D=>
    simp only at h k ⊢;obtain⟨r,h1,_⟩:=ζf.1 h;obtain⟨s,k1,k2⟩:=ζf.1 k;rw[mJ t h1 k1];exact congrArg some k2
   | _=>cases h
end Go.VE
namespace Go.VE
variable [bN]
open Go.Proofs Go.Sort
structure za (P:Program) (f:FuncId):Prop where
 ok:v_ P f
 zero:∀(p:Option Addr) (cap:Nat) (fv:Value) (w:World),Calls P f #[.slice p 0 cap,fv] w λe w'=>e=.returned (.tuple #[])/\w'=w
 all:∀{α:Type} [Inhabited α] (enc:α->Value) (_:OneCell enc) (cf:α->α->Int) (_:SWO (ltOf cf)) (g:Nat) (cb:Array Value) (blk off cap:Nat) (d:Array α) (w:World)
  (_:∀args w,(callFunc g args).run P w=.ok (.enter g args) w) (_:CmpLays1 P g cb enc cf blk off d.size w) (_:Holds enc w blk off d) (_:blk<w.heap.size) (_:d.size<4611686018427387904),
  Calls P f #[.slice (some ⟨blk,off,none⟩) d.size cap,.func (.func g) #[] cb] w λe w'=>
   e=.returned (.tuple #[])/\∃n os,w'=sortWorld enc w blk off n (pdq (ltOf cf) d 0 d.size (Lib.bitLen d.size) true true) os
theorem G4 {α:Type} [Inhabited α] (lt:α->α->Bool):∀(k i:Nat) (d:Array α),FC lt k i d=insOuter lt 0 (i+k) i d
 | 0,i,d=>by rw[insOuter];simp[FC]
 | k+1,i,d=>by
  rw[insOuter,FC,G4 lt k]
  grind
theorem Ac (n:Nat) (lt:Fin (n+1)->Fin (n+1)->Bool):oW n lt=pdq lt (List.finRange (n+1)).toArray 0 (n+1) (Lib.bitLen (n+1)) true true:=by
 unfold oW;split
 .rw[pdq,if_pos (by omega),insertionSort,G4,Nat.add_comm 1 n]
 .rfl
theorem oL {n:Nat} {t:Fin (n+1)->Fin (n+1)->Option Int} (h:yP t=true):(∀i j,∃c,t i j=some c)/\SWO (nV t):=by
 have u:∀(p:Fin (n+1)->Bool),(List.finRange (n+1)).all p=true->∀i,p i=true:=λp h i=>List.all_eq_true.1 h i (List.mem_finRange i)
 have h1:=λi=>u _ h i
 simp only[ζh,Bool.not_eq_true']at h1;have w:=λi j=>u _ (h1 i).2 j
 simp only[ζh]at w;have z:=λi j k=>u _ (w i j).2 k
 refine⟨λi j=>Option.isSome_iff_exists.1 (w i j).1,λi=>(h1 i).1,λi j k a b=>?_,λi j k a b=>?_⟩
 .have:=z i j k;grind
 grind
section
variable {P:Program} {I I':b9} {μ μ':Mu} {H H':bf} {w w':World}
theorem CH (w:World) (os:Array Obj) (b:Nat) (h:b<w.heap.size):(grow w os).heap[b]? = w.heap[b]? := by
 unfold grow;grind
theorem Calls.fr {f:FuncId} {args:Array Value} {R:Ending->World->Prop} (h:Calls P f args w R):CallsIn (fr none) 0 P f args w R:=callsIn_wide.2 h
theorem CallsIn.un {f:FuncId} {args:Array Value} {R:Ending->World->Prop} (h:CallsIn (fr none) 0 P f args w R):Calls P f args w R:=callsIn_wide.1 h
theorem MB {p:Pl} {c:Array Value} {xs:List (List V)} (B:p.es=1) (D:c.size=p.sz) (hr:p.o+xs.length<=c.size)
 (h:∀(i:Nat) x,xs[i]? = some x->∃v u,x=[v]/\V.one v=true/\c[p.o+i]? = some u/\bA I μ v u):fC I μ p c 1 xs:=by
 have hu:∀x∈xs,x.length=1:=λx t=>by
  obtain⟨i,z⟩:=List.getElem?_of_mem t
  grind
 have A:xs.flatten.length=xs.length:=by rw[e9 hu,Nat.mul_one]
 refine⟨B,D,hu,λx t y C=>?_,by omega,⟨?_,λj a b h1 G=>?_⟩⟩
 .obtain⟨i,z⟩:=List.getElem?_of_mem t
  grind
 .grind
 .have w:j<xs.length:=by have:=(ζe.1 h1).1;omega
  obtain⟨v,u,e,_,J,L⟩:=h j xs[j] (by simp[w])
  have:=tY  hu (i:=j) (j:=0) (x:=xs[j])  (by simp[w]) (by rw[e];rfl)
  simp_all
theorem uc {p:Pl} {c:Array Value} {xs:List (List V)} (r:fC I μ p c 1 xs) (i:Nat) {x:List V} (h:xs[i]? = some x):∃v u,x=[v]/\V.one v=true/\c[p.o+i]? = some u/\bA I μ v u:=by
 have t:=List.mem_of_getElem? h;obtain⟨v,rfl⟩:=List.length_eq_one_iff.1 (r.nX x t);have z:=(ζe.1 h).1;have w  := by have:=r.room;omega
 refine⟨v,c[p.o+i],rfl,r.one _ t v (by simp),by simp_all,?_⟩
 exact r.idx  (j:=0) h rfl (by simp_all)
theorem PM {α:Type} [Inhabited α] (enc:α->Value) (blk o m:Nat) (B:Array α) (os:Array Obj) {b:Nat} (G:b<w.heap.size) (D:b≠blk):(sortWorld enc w blk o m B os).heap[b]? = w.heap[b]? := by
 unfold sortWorld;rw[CH _ _ _ (by simp_all)]
 simp[putRow,mapBlock,Sort.ahead,Array.getElem?_modify,if_neg (Ne.symm D)]
theorem GO {α:Type} [Inhabited α] (enc:α->Value) {blk:Nat} (o m:Nat) (B:Array α) {c:Array Value} {el:TypeId} (h:w.heap[blk]? = some (.cells c el)) :
 putRow enc (Sort.ahead w m) blk o B=eT (Sort.ahead w m) blk (.cells (Sort.putCells enc o B c) el):=by
 unfold putRow mapBlock eT Sort.ahead
 congr 1
 obtain⟨u,e⟩:=Array.getElem?_eq_some_iff.1 h;apply Array.ext
 .simp
 .intro i h1 z
  by_cases t:i=blk
  .subst t;simp[Array.getElem_modify,e,onCells]
  grind
theorem Step.grown (st:Step I (λ_=>none) [] w I' μ' H' w'):∃q os,w'=grow (w.drewN q) os:=by
 refine⟨w'.drawn-w.drawn,w'.heap.extract w.heap.size w'.heap.size,?_⟩;have u:w'.heap=w.heap++w'.heap.extract w.heap.size w'.heap.size:=by
  apply Array.ext_getElem?;intro i
  by_cases t:i<w.heap.size
  .rw[Array.getElem?_append_left t];exact st.frame i t (by rintro⟨id,p,ob,h,_⟩;simp at h)
  .rw[Array.getElem?_append_right (by omega)]
   simp[Array.getElem?_extract]
   by_cases B:i<w'.heap.size
   .rw[if_pos (by omega)];congr 1;omega
   .rw[if_neg (by omega),Array.getElem?_eq_none (by omega)]
 have h1:=st.os;have z:=st.out.out;have A:=st.out.tape;have C:=st.out.dr;unfold grow World.drewN;cases w';simp only at *;subst h1 z A;simp[World.mk.injEq];exact⟨u,by omega⟩
theorem Ik {call B:c7} {g:FuncId} {G D:List V} {n:Nat} (h:∀args y,bU call g args []=some y->bU B g args []=some y) {i j:Fin (n+1)} {z:Int} (J:ij call g G D n i j=some z):ij B g G D n i j=some z:=by
 unfold ij at J ⊢
 grind
theorem A6 {keep:FuncId->Bool} {call B:c7} (D:call.lv<=B.lv) (h:∀g args y,keep g=false->bU call g args []=some y->bU B g args []=some y) {args:List V} {r:V×bf} (hr:oU keep call args H=some r):oU keep B args H=some r:=by
 unfold oU at hr ⊢;split at hr
 .split at hr
  .omega
  .omega
  .split at hr
   .omega
   .split at hr
    .rename_i n g cb _ J O C;split at hr
     .rename_i t;split at hr
      .rename_i G u A w;rw[qX D A,qX D w];split at hr
       .rename_i L;have e:ij B g G u n=ij call g G u n:=by
         funext i j
         obtain⟨z,I⟩:=(oL L).1 i j;rw[I];exact Ik (λa y=>h g a y t.2.2.2.2) I
        grind
       simp_all
      simp_all
     simp_all
    simp_all
   simp_all
  simp_all
 simp_all
set_option maxHeartbeats 1000000 in
theorem Pj {call:c7} (hc:jI P call) {f:FuncId} (hs:za P f) {args:List V} {r:V} {keep:FuncId->Bool} (h:oU keep call args H=some (r,H')) (s:cG I μ H w) {vs:List Value} (hv:cz I μ args vs) :
 CallsIn (fr none) 0 P f vs.toArray w (vE I μ H w r H'):=by
 unfold oU at h;split at h
 .rename_i sv cv;obtain⟨v1,r1,rfl,aa,aB⟩:=hv.cons_inv;obtain⟨v2,r2,rfl,aC,aD⟩:=aB.cons_inv;obtain rfl:=aD.tK;have Q:∀p cap,v1=.slice p 0 cap->CallsIn (fr none) 0 P f [v1,v2].toArray w (vE I μ H w .undef H):=by
   rintro p cap rfl;refine Calls.fr ((hs.zero p cap v2 w).mono ?_);rintro e w' ⟨rfl,rfl⟩;exact⟨_,I,μ,rfl,bA.undef _ _,s,Step.refl _ _ _ _⟩
  split at h
  .cases h;exact Q none 0 aa.kB
  .cases h;obtain⟨a,e⟩:=aa.qJ;exact Q a 0 e
  .rename_i id es off len;split at h
   .cases h;rcases aa.kE with⟨p,cap,_,_,_,_,e⟩|⟨_,a,e⟩
    .exact Q _ cap e
    .exact Q _ 0 e
   .rename_i n g cb;split at h
    .rename_i aR L G;split at h
     .rename_i aj;obtain⟨rfl,rfl,aP,hn,_⟩:=aj;split at h
      .rename_i X B aE ao;split at h
       .rename_i ap;cases h;obtain⟨p,c,el,hp,hI,D,O⟩:=s.obs id _ G;rcases aa.kE with⟨q,cap,hq,aS,aQ,aF,rfl⟩|⟨h0,_⟩
        .rw[hp]at hq;cases hq;obtain⟨va,vb,rfl,hva,aq⟩:=aC.jk;have ar:va=#[]:=by have:=hva.tK;simpa using this
         subst ar;have ak:=(ζe.1 G).1;obtain⟨sk,_⟩:=s.kill G;generalize hT:cE (bW call.lv (H.set id .dead)) (((L.drop off).take (n+1)).flatten++cb)=T;have aG:plus I μ (H.set id .dead) w T p.b=none:=by
          cases t:plus I μ (H.set id .dead) w T p.b with
          | none=>rfl
          | some x=>
           exfalso;rcases wJ (by rw[t];rfl)with h|⟨au,p',ob,_,g1,g2,g3,g4⟩
           .rw[hI]at h;cases h
           .have av:au≠id:=by
             rintro rfl;rw[List.getElem?_set_self ak]at g1;cases g1;simp[Ob.live]at g2
            rw[List.getElem?_set_ne (Ne.symm av)]at g1;exact av (s.inj au id ob (.row 1 L) p' p g1 G g2 rfl g3 hp g4)
         let enc:Fin (n+1)->Value:=λi=>(c[p.o+off*1+i.1]?).getD undef
         have Y:∀i:Fin (n+1),∃v,L[off+i.1]? = some [v]/\V.one v=true/\bA I μ v (enc i)/\c[p.o+off*1+i.1]? = some (enc i):=λi=>by
          obtain⟨v,u,e1,e2,e3,e4⟩:=uc O (off+i.1) (x:=L[off+i.1]'(by omega)) (by simp)
          have e5:c[p.o+off*1+i.1]? = some u:=by rw[<-e3];congr 1;omega
          have e6:enc i=u:=by show (c[p.o+off*1+i.1]?).getD undef=u;rw[e5];rfl
          exact⟨v,by rw[<-e1];simp,e2,by rw[e6];exact e4,by rw[e5,e6]⟩
         have h1:OneCell enc:=λi=>by obtain⟨v,_,e2,e3,_⟩:=Y i;exact e3.one e2
         obtain⟨aw,ab⟩:=oL ap;obtain⟨aT,aH⟩:=h_ aE;obtain⟨aI,aJ⟩:=h_ ao;have ax:∀x∈(L.drop off).take (n+1),x.length=1:=λx t=>O.nX x (List.mem_of_mem_drop (List.mem_of_mem_take t))
         have S:∀(i:Fin (n+1)) u,X[i.1]? = some u->dU (plus I μ (H.set id .dead) w T) u (enc i):=λi u hu=>by
          obtain⟨x,t,al⟩:=aH i.1 u hu;obtain⟨v,e1,_,e3,_⟩:=Y i;have e4:((L.drop off).take (n+1))[i.1]? = some [v]:=by
           rw[List.getElem?_take,if_pos i.2,List.getElem?_drop];exact e1
          have e5:=tY (es:=1) ax (i:=i.1) (j:=0) e4 rfl;have e5:((L.drop off).take (n+1)).flatten[i.1]? = some v:=by simpa using e5
          rw[e5]at t;cases t;refine(sQ sk T call.lv _ u _ al (λk hk=>?_) e3).1
          rw[<-hT];exact jl (List.mem_append_left _ (List.mem_of_getElem? e5)) hk
         have Z:cz (plus I μ (H.set id .dead) w T) (λ_=>none) B vb.toList:=by
          refine⟨aI.trans aq.1,λj a b k1 k2=>?_⟩
          obtain⟨x,t,al⟩:=aJ j a k1;refine .c _ _ (sQ sk T call.lv x a b al (λk hk=>?_) (aq.2 j x b t k2)).1
          rw[<-hT];exact jl (List.mem_append_right _ (List.mem_of_getElem? t)) hk
         have ad:=(Array.getElem?_eq_some_iff.1 D).1
         let d:Array (Fin (n+1)):=(List.finRange (n+1)).toArray
         have am:d.size=n+1:=by simp[d]
         have hd:∀j:Fin (n+1),d[j.1]! = j:=λj=>by simp[d,getElem!_pos]
         have hg:∀i j:Fin (n+1),∃z,ij call g X B n i j=some z/\∃a b,X[i.1]? = some a/\X[j.1]? = some b/\bU call g (a::b::B) []=some (.int .i64 z):=λi j=>by
          obtain⟨z,hz⟩:=aw i j;have U:=hz;unfold ij at U;split at U
          .rename_i a b ha W;split at U
           .rename_i z' A;cases U;exact⟨z,hz,a,b,ha,W,A⟩
           .cases U
          .cases U
         have aK:v_ P g:=by
          obtain⟨z,_,a,b,ha,W,A⟩:=hg 0 0;have s0:cG (plus I μ (H.set id .dead) w T) (λ_=>none) [] w:=⟨λ_ _=>rfl,rE sk T,by simp,by simp,sk.gl.mono (nK _ _ _ _ _)⟩
          exact(AM hc A s0 (.cons (.c _ _ (S 0 a ha)) (.cons (.c _ _ (S 0 b W)) Z))).1
         have key:=hs.all enc h1 (λi j=>(ij call g X B n i j).getD 0) ab g vb p.b (p.o+off*1) cap d w (λargs w=>vo aK args) (by
          intro m os C aU i j;obtain⟨z,hz,a,b,ha,W,A⟩:=hg i j;have s0:cG (plus I μ (H.set id .dead) w T) (λ_=>none) [] (sortWorld enc w p.b (p.o+off*1) m C os):=
           ⟨λ_ _=>rfl,λb x W=>IC.ql (rE sk T b x W) (PM enc p.b _ m C os (IC.sx (rE sk T b x W)) (by rintro rfl;rw[aG]at W;cases W)),by simp,by simp,sk.gl.mono (nK _ _ _ _ _)⟩
          have:=CallsIn.un (AM hc A s0 (vs:=enc i::enc j::vb.toList) (.cons (.c _ _ (S i a ha)) (.cons (.c _ _ (S j b W)) Z))).2;rw[show (enc i::enc j::vb.toList).toArray=#[enc i,enc j]++vb by apply Array.ext';simp]at this
          refine this.mono ?_;rintro e w' ⟨u,I1,μ1,rfl,hu,s1,st⟩;exact⟨by rw[hu.eP];show _=Ending.returned (.int .i64 ((ij call g X B n i j).getD 0));rw[hz];rfl,st.grown⟩) (by
          intro j hj;have ay:j<n+1:=by omega
          obtain⟨v,_,_,_,e4⟩:=Y ⟨j,ay⟩;rw[hd ⟨j,ay⟩];exact⟨by rw[oQ D];exact e4,by simp[World.frozen?,D]⟩) ad (by omega)
         rw[am]at key;refine Calls.fr (key.mono ?_);rintro e w' ⟨rfl,m,os,rfl⟩;have aL:ltOf (λi j=>(ij call g X B n i j).getD 0)=nV (ij call g X B n):=rfl
         rw[aL,Ac];have ae:=pdq_sorts (nV (ij call g X B n)) ab d 0 d.size (Lib.bitLen d.size) true true (Nat.zero_le _) (Nat.le_refl _) (Or.inl rfl);rw[am]at ae;have J:=ae.1.1;change vE I μ H w .undef (H.set id (.row 1 (pY L off n (pdq (nV (ij call g X B n)) d 0 (n+1) (Lib.bitLen (n+1)) true true).toList))) _ _;generalize pdq (nV (ij call g X B n)) d 0 (n+1) (Lib.bitLen (n+1)) true true=C at J;rw[am]at J;unfold sortWorld;rw[GO enc _ m C D];have s1:cG I μ H (Sort.ahead w m):=s.nN rfl;have aM:Step I μ H w I μ H (Sort.ahead w m):=Step.nN rfl rfl ⟨rfl,rfl,Nat.le_add_right _ _⟩;have af:(Sort.putCells enc (p.o+off*1) C c).size=c.size:=by simp[Sort.putCells]
         have ah:∀i:Nat,(i<p.o+off*1\/p.o+off*1+(n+1)<=i)->(Sort.putCells enc (p.o+off*1) C c)[i]? = c[i]? := λi hi=>by
          simp only[Sort.putCells,Array.getElem?_mapIdx];rw[J]
          cases c[i]? with
          | none=>rfl
          | some y=>simp only[Option.map_some];rw[if_neg (by omega)]
         have an:∀i:Fin (n+1),(Sort.putCells enc (p.o+off*1) C c)[p.o+off*1+i.1]? = some (enc C[i.1]!):=λi=>by
          obtain⟨v,_,_,_,e4⟩:=Y i;simp only[Sort.putCells,Array.getElem?_mapIdx,e4,Option.map_some];rw[if_pos ⟨by omega,by rw[J];omega⟩]
          congr 3;omega
         have aA:=O.room;have aN:(pY L off n C.toList).length=L.length:=by simp[pY,J];omega
         obtain⟨s2,st2⟩:=s1.write (o:=.cells (Sort.putCells enc (p.o+off*1) C c) el) (ob':=.row 1 (pY L off n C.toList)) G rfl hp
          ⟨p,_,el,hp,hI,fH _ ad,MB O.es_eq (by rw[af];exact O.sz) (by rw[aN,af];omega) λi x t=>by
           unfold pY at t
           by_cases c1:i<off
           .rw[List.append_assoc,List.getElem?_append_left (by simp;omega),List.getElem?_take,if_pos c1]at t
            obtain⟨v,u,e1,e2,e3,e4⟩:=uc O i t;exact⟨v,u,e1,e2,by rw[ah _ (by omega)];exact e3,e4⟩
           .by_cases c2:i<off+(n+1)
            .rw[List.getElem?_append_left (by simp[J];omega),List.getElem?_append_right (by simp;omega)]at t
             have ai:i-off<C.size:=by omega
             have e0:(L.take off).length=off:=by simp;omega
             simp only[e0,List.getElem?_map,Array.getElem?_toList]at t;rw[Array.getElem?_eq_getElem ai]at t;simp only[Option.map_some,ζa]at t;obtain⟨v,e1,e2,e3,e4⟩:=Y C[i-off];rw[e1]at t;simp only[Option.getD_some]at t;refine⟨v,enc C[i-off],t.symm,e2,?_,e3⟩;have:=an ⟨i-off,by omega⟩
             simp only[getElem!_pos C (i-off) ai]at this;rw[<-this];congr 1;omega
            .rw[List.getElem?_append_right (by simp[J];omega),List.getElem?_drop]at t
             have e0:off+(n+1)+(i-((L.take off)++C.toList.map (λi=>(L[off+i.1]?).getD [])).length)=i:=by simp[J];omega
             rw[e0]at t;obtain⟨v,u,e1,e2,e3,e4⟩:=uc O i t;exact⟨v,u,e1,e2,by rw[ah _ (by omega)];exact e3,e4⟩⟩
         have hk:∀b,b<(eT (Sort.ahead w m) p.b (.cells (Sort.putCells enc (p.o+off*1) C c) el)).heap.size->(grow (eT (Sort.ahead w m) p.b (.cells (Sort.putCells enc (p.o+off*1) C c) el)) os).heap[b]? = (eT (Sort.ahead w m) p.b (.cells (Sort.putCells enc (p.o+off*1) C c) el)).heap[b]? := λb W=>CH _ _ _ W
         have aO:=Step.kept (I:=I) (μ:=μ) (H:=H.set id (.row 1 (pY L off n C.toList))) hk (by simp[grow]) rfl ⟨rfl,rfl,Nat.le_refl _⟩ (λa ha h=>by unfold World.frozen? at h ⊢;rw[hk _ ha];exact h)
         exact⟨_,I,μ,rfl,bA.undef _ _,s2.kept hk,Step.trans s1 aM (Step.trans s2 st2 aO)⟩
        .cases h0
       .cases h
      .cases h
     .cases h
    .cases h
   .cases h
  .cases h
 .cases h
end
def um (P:Program) (f:FuncId) (args:List V) (y:V):Prop:=v_ P f/\∀I μ H w t,cG I μ H w->cz I μ args t->CallsIn (fr none) 0 P f t.toArray w (vE I μ H w y H)
theorem JU {P:Program} {call:c7} (hc:jI P call) {f:FuncId} {b:Bool} {H':bf} (h:call (.fn f) [] []=some (.bool b,H')):um P f [] (.bool b):=by
 have t:∀H,bU call f [] H=some (.bool b):=by
  intro H;unfold bU;rw[show borrows call.lv H []=some []from rfl];simp only[h,jo _ H' (show (V.bool b).closed=true from rfl)];rfl
 refine⟨?_,λI μ H w u s hv=>(AM hc (t H) s hv).2⟩
 obtain⟨h1,_⟩:=hc.fn _ _ _ _ _ h;omega
structure Rf (P:Program) (E:Env):Prop where
 sort:∀f,E.sort f=true->za P f
 known:∀f args y,E.known f args=some y->um P f args y
end Go.VE
namespace Go.VE
variable [bN]
section
variable {P:Program} {E:Env} {I I':b9} {μ μ':Mu} {H H':bf} {n B:Nat} {F F':Frame} {a:Act} {w w':World}
theorem G3:∀(F:Frame) (t:Nat),F.length<=t->get F t=.undef
 | [],_,_=>rfl
 | _::_,0,h=>by simp_all
 | _::r,i+1,h=>G3 r i (by grind)
theorem El:∀(F:Frame) (t:Nat) (x:V),F[t]? = some x->get F t=x
 | [],_,_,h=>by simp_all
 | _::_,0,_,h=>by simpa [get]using h
 | _::r,i+1,x,h=>El r i x (by grind)
theorem Ie (hg:si I) {args:List V} {vs:List Value} {nt:Nat} (h:cz I μ args vs) (B:args.length<=nt) :
 dQ I μ nt args (vs.toArray++Array.replicate (nt-vs.toArray.size) undef):=by
 have u  := h.1;refine⟨by simp_all,λt=>?_,hg⟩
 by_cases A:t<args.length
 .have h1:args[t]? = some args[t]:=by simp_all
  have w:t<vs.length:=by omega
  have z:vs[t]? = some vs[t]:=by simp_all
  rw[El _ _ _ h1];have:(vs.toArray++Array.replicate (nt-vs.toArray.size) undef).getD t undef=vs[t]:=by
   rw[Array.getD_eq_getD_getElem?,Array.getElem?_append_left (by grind)]
   simp_all
  rw[this];exact h.2 t _ _ h1 z
 .rw[G3 _ _ (by omega)]
  have:(vs.toArray++Array.replicate (nt-vs.toArray.size) undef).getD t undef=undef:=by
   rw[Array.getD_eq_getD_getElem?,Array.getElem?_append_right (by simp_all),Array.getElem?_replicate]
   grind
  rw[this];exact bA.undef _ _
theorem LJ (r:dQ I μ n F a.tmps) {t:Nat} {x:V} {v:Value} (B:t<n) (h:bA I μ x v):dQ I μ n (set F t x) (a.tmps.setIfInBounds t v):=by
 have:=dQ.put  (dst:=some t) r h (F':=set F t x) (by simp[jg,B])
 simpa [Act.put]using this
theorem zy:∀(ps:List Nat) (xs:List V) (vs:List Value) (F:Frame) (tmps:Array Value),dQ I μ n F tmps->cz I μ xs vs->ps.all (·<n)=true ->
 dQ I μ n (vZ ps xs F) ((ps.zip vs).foldl (λtmps (t,a)=>tmps.setIfInBounds t a) tmps)
 | [],_,_,F,tmps,r,_,_=>by simpa [vZ]using r
 | t::ps,[],[],F,tmps,r,_,_=>by simpa [vZ]using r
 | t::ps,[],v::vs,F,tmps,r,h,_=>by have:=h.1;grind
 | t::ps,x::xs,[],F,tmps,r,h,_=>by have:=h.1;grind
 | t::ps,x::xs,v::vs,F,tmps,r,h,u=>by
  simp only[List.all_cons,ζh,decide_eq_true_eq]at u;have h0  := h.2 0 x v rfl rfl;have w:cz I μ xs vs:=⟨by have:=h.1;grind,λj a b h1 z=>h.2 (j+1) a b (by grind) (by grind)⟩
  exact zy ps xs vs _ _ (LJ (a:={ tmps:=tmps,defers:=[] }) r u.1 h0) w u.2
theorem ED {α β:Type} (g:α->Sem β):∀(l:List α) (w:World) (B:List β),B.length=l.length->(∀(j:Nat) x y,l[j]? = some x->B[j]? = some y->(g x).run P w=.ok y w)->(l.mapM g).run P w=.ok B w
 | [],w,[],_,_=>by simp
 | [],w,_::_,h,_=>by simp_all
 | _::_,w,[],h,_=>by simp_all
 | x::l,w,y::B,h,hg=>by
  have h0:=hg 0 x y rfl rfl;have t:=ED g l w B (by grind) (λj a b h1 u=>hg (j+1) a b (by grind) (by grind))
  simp_all
def HM (tmps:Array Value):ResultVar->Sem Value
 | .tmp t=>pure (tmps.getD t undef)
 | .cell a t=>do loadVar t (<-asAddr (tmps.getD a undef))
theorem Ig (fn:Func) (tmps:Array Value):results fn tmps=(fn.results.mapM (HM tmps) >>= λvs=>pure (if h:vs.size=1 then vs[0]else .tuple vs)):=by
 congr 1
theorem Ip (U:dV P E) {fn:Func} {tmps:Array Value} (r:dQ I μ n F tmps) (s:cG I μ H w) {vs:List V} (h:gG E F H fn.results.toList=some vs) :
 ∃u,(results fn tmps).run P w=.ok u w/\bA I μ (result vs) u:=by
 have key:∀(l:List ResultVar) (vs:List V),gG E F H l=some vs->∃z:List Value,z.length=l.length/\cz I μ vs z /\
  ∀(j:Nat) x y,l[j]? = some x->z[j]? = some y->(HM tmps x).run P w=.ok y w:=by
  intro l
  induction l with
  | nil=>intro vs h;simp[gG]at h;subst h;exact⟨[],rfl,.nil,by simp⟩
  | cons x l T=>
   intro vs h
   cases x with
   | tmp t=>
    simp only[gG,ζf]at h;obtain⟨C,h,rfl⟩:=h;obtain⟨z,h1,B,O⟩:=T C h;refine⟨tmps.getD t undef::z,by simp_all,.cons (r.2 t) B,?_⟩
    intro j x y G J
    cases j with
    | zero=>simp at G J;subst G;subst J;simp[HM]
    | succ j=>grind
   | cell p t=>
    simp only[gG]at h;split at h
    .rename_i d C W Q;simp only[ζf]at h;obtain⟨v,hv,rfl⟩:=h;obtain⟨z,h1,B,O⟩:=T C Q;obtain⟨u,_,hu,X,S,D⟩:=A4 U s W (r.2 p) hv;refine⟨u::z,by simp_all,.cons hu B,?_⟩
     intro j x y G J
     cases j with
     | zero=>
      simp only[List.getElem?_cons_zero,ζa]at G J;subst G;subst J;have e:(do loadVar t (<-asAddr (tmps.getD p undef))).run P w=(loadVar t X).run P w:=by rw[Sem.run_bind,S];rfl
      exact e.trans D
     | succ j=>grind
    grind
 obtain⟨z,h1,B,O⟩:=key _ _ h;have Z:=ED  _ fn.results.toList w z h1 O;have Y:(fn.results.mapM (HM tmps)).run P w=.ok z.toArray w:=by
  rw[Array.mapM_eq_mapM_toList];simp_all
 have L:z.length=vs.length:=B.1.symm;rw[Ig,Sem.run_bind,Y]
 by_cases A:z.length=1
 .obtain⟨u,rfl⟩:=List.length_eq_one_iff.1 A;obtain⟨v,rfl⟩:=List.length_eq_one_iff.1 (L▸A);exact⟨u,by simp,by simpa [result]using B.2 0 v u rfl rfl⟩
 .refine⟨.tuple z.toArray,by simp_all,?_⟩
  have hr:result vs=.tup vs:=by
   match vs,L with
   | [],_=>rfl
   | [_],h=>exact absurd h A
   | _::_::_,_=>rfl
  rw[hr];exact .tup _ _ (by simpa using B.1) (by simpa using B.2)
theorem KX (D:dV P E) {fn:Func} {tmps:Array Value} {vs:List V} (h:gG E F H' fn.results.toList=some vs) (U:w.heap.size<=B):∀(ds:List Deferred) (w':World),
 dQ I' μ' n F tmps->cG I' μ' H' w'->Step I μ H w I' μ' H' w'->iI B ds w' ->
 LeavesInM (fr none) 0 P fn tmps (vE I μ H w (result vs) H') ds .returning w':=by
 intro ds
 induction ds with
 | nil=>
  intro w' r s st m;obtain⟨u,hu,hv⟩:=Ip D r s h;exact⟨u,hu,u,I',μ',rfl,hv,s,st⟩
 | cons d ds G=>
  intro w' r s st m;obtain⟨q,h1,Q,A⟩:=m.all d (by simp)
  refine⟨by simp,.inl ⟨q,_,h1,run_takeDeferred A,?_⟩⟩
  have t:=sK s A;have J:=Qb s A (by simp) (by simp)
  have m':iI B ds w':=⟨λd L=>m.all d (List.mem_cons_of_mem _ L),(List.pairwise_cons.1 m.apart).2⟩
  refine G (eT w' q (.deferred none)) r (s.yT _ J t) (st.after _ (by omega)) ⟨λC z=>?_,m'.apart⟩
  obtain⟨O,g1,g2,g3⟩:=m'.all C z;refine⟨O,g1,g2,?_⟩;rw[eB _ ?_];exact g3;rintro rfl;exact(List.pairwise_cons.1 m.apart).1 C z _ h1 g1
theorem B7 (o:Out):(jQ o).isNone=(o==.norm):=by
 cases o <;> simp[jQ] <;> rfl
theorem Dq (O:dV P E) (hm:P.follows .mixedOrders=true) (hS:Rf P E):∀n,jI P (run E n):=by
 intro n
 induction n with
 | zero=>exact⟨λ_ _ _ _ _ h=>(by cases h),λ_ _ _ _ _ h=>(by cases h)⟩
 | succ n A=>
  constructor
  .intro f args H r H' h;rw[D1]at h;simp[iR]at h;split at h
   .rename_i D aa;obtain⟨fn,hf,hb,ab,Q,G⟩:=O.ft f D aa;refine⟨⟨fn,hf,by simp_all,G⟩,?_⟩
    intro I μ w z s hv;split at h
    .rename_i t;have main:∀o F' H2 rs,exec E (run E n) n false D.ntmps D.body args H=some (o,F',H2)->(∀id,o≠.exit id)->gG E F' H2 D.results=some rs->CallsIn (fr none) 0 P f z.toArray w (vE I μ H w (result rs) H2):=by
      intro o F' H2 rs hx aj hr;refine callsIn_of_wp_marks hf hb trivial ?_;rw[ab];have Z:=Ie s.gl hv t;have:=wI  O hm A n none false rfl D.ntmps D.body I μ args H { tmps:=z.toArray++Array.replicate (D.ntmps-z.toArray.size) undef,defers:=[] } w o F' H2 hx Z s ⟨by simp,.nil⟩ (Nat.le_refl _)
      refine wpIn_mono this ?_;rintro e a1 S ⟨rfl,⟨I1,μ1,r1,s1,u⟩,m1⟩;have hl:=KX  O  (by rw[Q];omega) (Nat.le_refl _) a1.defers S r1 s1 u m1
      cases o with
      | norm=>exact hl
      | ret=>exact hl
      | exit id=>grind
     split at h
     .simp_all
     .simp  at h
      grind
     grind
    grind
   .split at h
    .rename_i hs;exact⟨(hS.sort f hs).ok,λI μ w z s hv=>Pj A (hS.sort f hs) h s hv⟩
    .obtain⟨yy,he,h⟩:=ζf.1 h;cases h;exact⟨(hS.known f args _ he).1,λI μ w z s hv=>(hS.known f args _ he).2 I μ H w z s hv⟩
  .intro id args H r H' h I μ w z p s hv hp;rw[D1]at h;simp only[iR]at h;split at h
   .rename_i rec T;split at h
    .split at h
     .rename_i t;split at h
      .rename_i F2 H2 ad;split at h
       .rename_i r2 U;split at h
        .rename_i W;split at h
         .rename_i o F4 H4 ae;split at h
          .rename_i r4 X;obtain⟨rfl,rfl⟩:=h;obtain⟨q,l,g1,g2,g3,g4⟩:=y_ s T;rw[hp]at g1;cases g1;have af:l.params.size=rec.params.length:=by have:=congrArg List.length g4.params;grind
           have ah:z.toArray.size=l.params.size:=by
            rw[af,<-t.1];simpa using hv.1.symm
           refine⟨p.b,l.fn,_,l.assign,l.body,run_yield g3 ah,?_⟩;refine roundIn_of_wpIn trivial ?_;have J:(l.params.zip z.toArray).foldl (λtmps x=>tmps.setIfInBounds x.1 x.2) l.tmps=(rec.params.zip z).foldl (λtmps x=>tmps.setIfInBounds x.1 x.2) l.tmps:=by
            rw[<-Array.foldl_toList,Array.toList_zip,g4.params]
           have Z:=zy rec.params args z rec.frame l.tmps g4.frame hv t.2;rw[<-J]at Z;have S:=wI  O hm A n (some p.b) true rfl rec.nt rec.assign I μ _ H { tmps:=_,defers:=[] } w _ _ _ ad Z s ⟨by simp,.nil⟩ (Nat.le_refl _)
           rw[g4.assign,g4.body];refine wpIn_mono S ?_;rintro e a1 S ⟨rfl,⟨I1,μ1,r1,s1,u⟩,m1⟩;obtain⟨q,l2,k1,k2,k3,k4⟩:=y_ s1 U;rw[u.mu _ _ hp]at k1;cases k1;have B:l2.state=.ready:=by
            have:=k4.st;rw[W]at this;cases hl:l2.state <;> rw[hl]at this <;> simp[zJ.is]at this
           refine⟨_,run_beginRound k3 B,?_⟩;have C  := u.mu _ _ hp;obtain⟨s2,st2⟩:=s1.write  (ob':=.loop { r2 with st:=.busy }) U rfl C
            ⟨p,{ l2 with state:=.busy },C,k2,fH _ (Array.getElem?_eq_some_iff.1 k3).1,⟨trivial,k4.pend,k4.pendOk,k4.frame,k4.params,k4.assign,k4.body⟩⟩
           have m2  := m1.step s1 st2;have w2:=wI  O hm A n (some p.b) true rfl rec.nt rec.body I1 μ1 F2 _ a1 (eT S p.b (.loop { l2 with state:=.busy })) o F4 H4 ae r1 s2 m2 (by rw[qi];exact u.size)
           refine wpIn_mono w2 ?_;rintro e a3 w3 ⟨rfl,⟨I3,μ3,r3,s3,L⟩,m3⟩;obtain⟨q,l4,j1,j2,j3,j4⟩:=y_ s3 X;rw[L.mu _ _ C]at j1;cases j1;have Y  := L.mu _ _ C;have fin:∃v w',(Instr.endRound p.b (jQ o)).run P w3=.ok v w'/\vE I μ H w (.bool (o==.norm)) (H4.set id (.loop { r4 with st:=(if o==.norm then .ready else .done),pend:=(if o==.norm then none else some o) })) (.returned v) w':=by
            refine⟨_,_,run_endRound (jQ o) j3,?_⟩;obtain⟨s4,ai⟩:=s3.write  (ob':=.loop { r4 with st:=(if o==.norm then .ready else .done),pend:=(if o==.norm then none else some o) }) X rfl Y
             ⟨p,{ l4 with state:=if(jQ o).isNone then .ready else .done,pending:=jQ o },Y,j2,fH _ (Array.getElem?_eq_some_iff.1 j3).1,⟨by cases o <;> exact trivial,by cases o <;> rfl,by cases o <;> simp,j4.frame,j4.params,j4.assign,j4.body⟩⟩
            refine⟨_,I3,μ3,rfl,?_,s4,Step.trans s1 u (Step.trans s2 st2 (Step.trans s3 L ai))⟩;rw[B7];exact .c _ _ (.bool _)
           cases o with
           | norm=>exact fin
           | ret=>exact fin
           | exit id=>exact fin
          grind
         grind
        grind
       grind
      grind
     grind
    grind
   grind
end
end Go.VE
namespace Go.VE
variable [bN]
variable {P:Program}
theorem mZ.AS {t:TypeId} {d:TD} (h:rC P t=some d):mZ P t d:=
 dV.ty (E:={ tt:=rC P,ft:=λ_=>none,keep:=λ_=>false,own:=λ_=>false,eqN:=λ_=>none,sort:=λ_=>false }) ⟨λ_ _ h=>h,by simp,by simp⟩ h
theorem qa {i:TypeId} {cs:Array Value} {o:Nat} {v:Value} {w:World} (B:rC P i=some ⟨1,8,[.int .i64 0],.int .i64⟩) (h:cs[o]? = some v):(part i cs o).run P w=.ok v w:=by
 unfold part;simp[Sem.run_bind,(mZ.AS B).AK,Result.andThen,TD.agg,h]
theorem rT {a:List Int} (h:a.length=2):∃x y,a=[x,y]:=by
 match a,h with
 | [x,y],_=>exact⟨x,y,rfl⟩
theorem yb (d:Nat) (e:Bool) {i:TypeId} (x:Int) {w:World} (B:P.underlying i=some (.int .i64)):(Instr.checkKey e (d+1) i (.int .i64 x)).run P w=.ok () w:=by
 simp only[Instr.checkKey,Sem.run_bind,dc B,Result.andThen_ok,Sem.run_pure]
theorem FH (d:Nat) (e:Bool) {t i:TypeId} {f g:Field} (x y:Int) {w:World} (hu:P.underlying t=some (.struct #[f,g])) (G:f.type=i) (hg:g.type=i) (of:f.offset=0) (J:g.offset=1) (nf:f.name ≠ "_") (O:g.name ≠ "_")
 (D:rC P i=some ⟨1,8,[.int .i64 0],.int .i64⟩) (B:P.underlying i=some (.int .i64)):(Instr.checkKey e (d+1+1) t (.agg (ic [x,y]))).run P w=.ok () w:=by
 have u:∀w,(part i (ic [x,y]) 0).run P w=.ok (.int .i64 x) w:=λw=>qa D rfl
 have p1:∀w,(part i (ic [x,y]) 1).run P w=.ok (.int .i64 y) w:=λw=>qa D rfl
 have q:∀(x:Int) w,(Instr.checkKey e (d+1) i (.int .i64 x)).run P w=.ok () w:=λx w=>yb d e x B
 unfold Instr.checkKey;simp only[Sem.run_bind,dc hu,Result.andThen_ok];rw[<-Array.forIn_toList];simp only[List.forIn_cons,List.forIn_nil,Sem.run_bind,G,hg,of,J,nf,O,ne_eq,not_false_eq_true,if_true,u,p1,q,Result.andThen_ok,Sem.run_pure]
theorem rM.two {t i:TypeId} {f g:Field} (hu:P.underlying t=some (.struct #[f,g])) (U:f.type=i) (hg:g.type=i) (of:f.offset=0) (W:g.offset=1) (nf:f.name ≠ "_") (Y:g.name ≠ "_")
 (O:rC P i=some ⟨1,8,[.int .i64 0],.int .i64⟩) (D:P.underlying i=some (.int .i64)) (hs:P.stoodInHeld t=false) (hq:P.eqGuardType P.depth t=false):rM P t 2:=by
 have G:P.fieldsOf t=#[f,g]:=by unfold Program.fieldsOf;rw[hu]
 have A:∀(w:World) (x y z u:Int),(Op.equal t (.agg (ic [x,y])) (.agg (ic [z,u]))).run P w=.ok ([x,y]==[z,u]) w:=by
  intro w x y z u;show (Op.equalIn (9999+1) t _ _).run P w=_;rw[run_equalIn_struct w 9999 t _ _ (by rw[G];exact hu) hs,G]
  have Q:∀(x y:Int) w,(part i (ic [x,y]) 0).run P w=.ok (.int .i64 x) w:=λx y w=>qa O rfl
  have p1:∀(x y:Int) w,(part i (ic [x,y]) 1).run P w=.ok (.int .i64 y) w:=λx y w=>qa O rfl
  have q:∀(x y:Int) w,(Op.equalIn 9999 i (.int .i64 x) (.int .i64 y)).run P w=.ok (x==y) w:=λx y w=>zx 9998 x y D
  simp only[Op.eqFields,U,hg,of,W,nf,Y,ne_eq,not_false_eq_true,if_true,Sem.run_bind,Q,q,Result.andThen_ok]
  by_cases B:x=z
  .by_cases I:y=u
   .subst B;subst I;simp[Sem.run_bind,p1,q,Result.andThen]
   .subst B;have:(y==u)=false:=by simpa using I
    simp[Sem.run_bind,p1,q,Result.andThen,this]
  .have:(x==z)=false:=by simpa using B
   simp[this]
 have J:∀(op:BinOp) (p q:Operand) (w:World) (u v:Array Value),(eqGuard op t p q (.agg u) (.agg v)).run P w=.ok () w:=by
  intro op p q w u v;unfold eqGuard;cases op <;> simp[Sem.run_bind,run_program,Result.andThen,hq]
 refine⟨?_,?_,?_,?_,⟨_,hu,.inr ⟨_,rfl⟩⟩⟩
 .intro w p q a b C L;obtain⟨x,y,rfl⟩:=rT C;obtain⟨z,u,rfl⟩:=rT L;rw[Sem.run_bind,J,Result.andThen_ok];show (do pure (Value.bool (<-Op.equal t (.agg (ic [x,y])) (.agg (ic [z,u])))):Sem Value).run P w=_
  rw[Sem.run_bind,A];rfl
 .intro w p q a b C L;obtain⟨x,y,rfl⟩:=rT C;obtain⟨z,u,rfl⟩:=rT L;rw[Sem.run_bind,J,Result.andThen_ok];show (do pure (Value.bool (!(<-Op.equal t (.agg (ic [x,y])) (.agg (ic [z,u]))))):Sem Value).run P w=_
  rw[Sem.run_bind,A];rfl
 .intro w a b C L;obtain⟨x,y,rfl⟩:=rT C;obtain⟨z,u,rfl⟩:=rT L;exact A w x y z u
 .intro w e a C;obtain⟨x,y,rfl⟩:=rT C;exact FH 9998 e x y hu U hg of W nf Y O D
def lk {α:Type}:List (Nat×α)->Nat->Option α
 | [],_=>none
 | (k,v)::r,n=>bif Nat.beq k n then some v else lk r n
theorem J_ {α:Type}:∀{l:List (Nat×α)} {n:Nat} {v:α},lk l n=some v->(n,v)∈l
 | [],_,_,h=>by simp[lk]at h
 | (k,x)::r,n,v,h=>by
  simp only[lk]at h
  cases hk:Nat.beq k n with
  | true=>
   rw[hk]at h;simp only[cond_true,ζa]at h;have:=Nat.eq_of_beq_eq_true hk;subst this;subst h;simp
  | false=>rw[hk]at h;exact List.mem_cons_of_mem _ (J_ h)
end Go.VE
namespace Go.VE
variable [bN]
inductive KT where|bool|str|slice|ptr|map|int|other
 deriving DecidableEq
def TK.tag:TK->KT
 | .bool=>.bool
 | .int _=>.int
 | .str=>.str
 | .ptr _=>.ptr
 | .slice _=>.slice
 | .map ..=>.map
 | _=>.other
def nC (k:KT) (x y:V):Option Bool:=
 match k,x,y with
 | .slice,.bB,.bB=>some true
 | .slice,.fsl ..,.bB=>some false
 | .slice,.hsl ..,.bB=>some false
 | .ptr,.gx,.gx=>some true
 | .ptr,.fptr _,.gx=>some false
 | .ptr,.hptr ..,.gx=>some false
 | .map,.fB,.fB=>some true
 | .map,.fmap _,.fB=>some false
 | .map,.hmap _,.fB=>some false
 | _,_,_=>none
def gj (k:Option KT) (e:Option Nat) (op:BinOp) (x y:V):Option V:=
 match x,y with
 | .int k a,.int u b=>
  match op with
  | .shl=>if b<0 then none else some (.int k (k.wrap (a*2 ^ (min b.toNat k.bits))))
  | .shr=>if b<0 then none else some (.int k (a.fdiv (2 ^ (min b.toNat k.bits))))
  | _=>if k=u then
   match op with
   | .add=>some (.int k (k.wrap (a+b)))
   | .sub=>some (.int k (k.wrap (a-b)))
   | .mul=>some (.int k (k.wrap (a*b)))
   | .quo=>if b=0 then none else some (.int k (k.wrap (a.tdiv b)))
   | .rem=>if b=0 then none else some (.int k (a.tmod b))
   | .and=>some (.int k (k.wrap (BitVec.ofInt k.bits a &&& BitVec.ofInt k.bits b).toNat))
   | .or=>some (.int k (k.wrap (BitVec.ofInt k.bits a ||| BitVec.ofInt k.bits b).toNat))
   | .xor=>some (.int k (k.wrap (BitVec.ofInt k.bits a ^^^ BitVec.ofInt k.bits b).toNat))
   | .andNot=>some (.int k (k.wrap (BitVec.ofInt k.bits a &&& ~~~ BitVec.ofInt k.bits b).toNat))
   | op=>(mA op a b).map .bool
   else none
 | .str a,.str b=>
  match op with
  | .add=>if((a.size+b.size:Nat):Int)>IntKind.i64.max then none else some (.str (a++b))
  | .eql=>some (.bool (a.toList==b.toList))
  | .neq=>some (.bool !(a.toList==b.toList))
  | .lss=>some (.bool (Op.bytesLess a.toList b.toList))
  | .leq=>some (.bool (Op.bytesLess a.toList b.toList||a.toList==b.toList))
  | .gtr=>some (.bool !(Op.bytesLess a.toList b.toList||a.toList==b.toList))
  | .geq=>some (.bool !(Op.bytesLess a.toList b.toList))
  | _=>none
 | .bool a,.bool b=>
  match k,op with
  | some .bool,.eql=>some (.bool (a==b))
  | some .bool,.neq=>some (.bool !(a==b))
  | _,_=>none
 | .agg a,.agg b=>
  match e,op with
  | some n,.eql=>if a.length=n then(jH a b).map .bool else none
  | some n,.neq=>if a.length=n then(jH a b).map (λt=>.bool !t)else none
  | _,_=>none
 | x,y=>
  match k,op with
  | some k,.eql=>(nC k x y).map .bool
  | some k,.neq=>(nC k x y).map λt=>.bool !t
  | _,_=>none
theorem IB (k:TK) (x y:V):sN k x y=nC k.tag x y:=by
 cases k <;> cases y <;> (try rfl) <;> cases x <;> rfl
theorem PV (E:Env) (op:BinOp) (t:TypeId) (x y:V):E4 E op t x y=gj ((E.kindOf t).map TK.tag) (E.eqN t) op x y:=by
 unfold E4;split
 .rfl
 .rfl
 .cases hk:E.kindOf t with
  | none=>rfl
  | some k=>cases k <;> cases op <;> rfl
 .rfl
 .rename_i h1 u w z
  cases hk:E.kindOf t with
  | none=>rw[gj.eq_29 _ _ _ _ _ h1 u w z (by simp) (by simp)]
  | some k=>
   simp only[IB];cases op <;> first
    | exact(gj.eq_27 _ _ _ _ h1 u w z).symm
    | exact(gj.eq_28 _ _ _ _ h1 u w z).symm
    | (rw[gj.eq_29 _ _ _ _ _ h1 u w z (by simp) (by simp)])
inductive tf where
 | id|pick|nilc
 | bin (k:Option KT) (e:Option Nat) (op:BinOp)
 | not|neg
 | conv (k:IntKind)
 | fieldAddr (off:Nat)
 | field (off size:Nat) (agg:Bool)
 | idxS (size:Nat)
 | idxA (len size:Nat)
 | idxStr
 | idxArr (len size:Nat) (agg:Bool)
 | sliceStr (lo hi:Bool)
 | slice (size:Nat) (lo hi:Bool)
 | slice00
 | build (zero:List V) (pl:List (Nat×Nat))
 | clo (name:Nat) (k:Nat)
 | ext (i:Nat)
 | lenStr|lenSl|capSl|max|min|bad|max4
 | makeC (size:Nat) (zero:List V)
 | emptyC
def Jp:V->Option V
 | .hptr id el off=>some (.hptr id el off)
 | .fptr cs=>some (.fptr cs)
 | .clo f a b=>some (.clo f a b)
 | _=>none
def gu (off:Nat):V->Option V
 | .fptr cs=>if off<=cs.length then some (.fptr (cs.drop off))else none
 | .hptr id el o=>some (.hptr id el (o+off))
 | _=>none
def kg (size:Nat) (s:V) (n:Int):Option V:=
 if n<0 then none else match s with
 | .fsl es t=>if es=size then(t[n.toNat]?).map .fptr else none
 | .hsl id es off len=>if es=size/\n.toNat<len then some (.hptr id (off+n.toNat) 0)else none
 | _=>none
def uN (len size:Nat) (p:V) (n:Int):Option V:=
 if 0<=n/\n<len then match p with
  | .fptr t=>if n.toNat*size<=t.length then some (.fptr (t.drop (n.toNat*size)))else none
  | .hptr id el o=>some (.hptr id el (o+n.toNat*size))
  | _=>none
 else none
def j9:Bool->Bool->List V->Option (Option Int×Option Int)
 | false,false,[]=>some (none,none)
 | true,false,[.int _ l]=>some (some l,none)
 | false,true,[.int _ h]=>some (none,some h)
 | true,true,[.int _ l,.int _ h]=>some (some l,some h)
 | _,_,_=>none
def gp (size:Nat) (v:V) (l h:Option Int):Option V:=
 match v with
 | .fsl es t=>if es=size then(dD t.length l h).map λ(l,h)=>.fsl es ((t.take h).drop l)else none
 | .hsl id es off len=>if es=size then(dD len l h).map λ(l,h)=>.hsl id es (off+l) (h-l)else none
 | .dg=>(dD 0 l h).map λ_=>.dg
 | .bB=>(dD 0 l h).map λ_=>.bB
 | _=>none
def IL:V->Bool
 | .fsl ..|.hsl ..|.dg|.bB=>true
 | _=>false
def oV (cells:List V):List (Nat×Nat)->List V->Option (List V)
 | [],[]=>some cells
 | (off,size)::pl,v::vs=>
  if v.cells.length≠size||off+v.cells.length>cells.length then none
  else oV (cells.take off++v.cells++cells.drop (off+v.cells.length)) pl vs
 | _,_=>none
def l_:V->Option V
 | .fsl _ xs=>some (.int .i64 xs.length)
 | .hsl _ _ _ len=>some (.int .i64 len)
 | .dg=>some (.int .i64 0)
 | .bB=>some (.int .i64 0)
 | _=>none
def FY:V->Option V
 | .bB|.dg=>some (.int .i64 0)
 | _=>none
def bh (N:Nat->FuncId):tf->List V->Option V
 | .id,[x]=>some x
 | .pick,[.bool t,a,b]=>some (if t then a else b)
 | .nilc,[x]=>Jp x
 | .bin k e op,[x,y]=>gj k e op x y
 | .not,[.bool b]=>some (.bool !b)
 | .neg,[.int k n]=>some (.int k (k.wrap (0-n)))
 | .conv k,[.int _ n]=>some (.int k (k.wrap n))
 | .fieldAddr off,[p]=>gu off p
 | .field off size agg,[.agg cs]=>(cut cs off size).bind (mk agg)
 | .idxS size,[s,.int _ n]=>kg size s n
 | .idxA len size,[p,.int _ n]=>uN len size p n
 | .idxStr,[.str s,.int _ n]=>if 0<=n then(s[n.toNat]?).map (λb=>.int .u8 b.toNat)else none
 | .idxArr len size agg,[.agg cs,.int _ n]=>if 0<=n/\n<len then(cut cs (n.toNat*size) size).bind (mk agg)else none
 | .sliceStr D G,.str s::J=>(j9 D G J).bind λ(l,h)=>(dD s.size l h).map λ(l,h)=>.str (s.extract l h)
 | .slice size D G,v::J=>(j9 D G J).bind λ(l,h)=>gp size v l h
 | .slice00,[v,.int _ h,.int _ m]=>if IL v&&h==0&&m==0 then some .dg else none
 | .build zero pl,vs=>(oV zero pl vs).map .agg
 | .clo name k,vs=>some (.clo (N name) (vs.take k) (vs.drop k))
 | .ext i,[.tup vs]=>vs[i]?
 | .lenStr,[.str s]=>some (.int .i64 s.size)
 | .lenSl,[v]=>l_ v
 | .capSl,[v]=>FY v
 | .max,[.int k a,.int B b]=>if k=B then some (.int k (if b>a then b else a))else none
 | .max4,[.int k a,.int k1 b,.int k2 c,.int k3 d]=>if k=k1/\k=k2/\k=k3 then some (.int k (Aw (Aw (Aw a b) c) d))else none
 | .min,[.int k a,.int B b]=>if k=B then some (.int k (if b<a then b else a))else none
 | .makeC size zero,[.int k n,.int B m]=>if k=.i64/\B=.i64/\0<=n/\n=m/\m<=2147483648/\zero.all V.scalar=true then some (.fsl size (List.replicate n.toNat zero))else none
 | .emptyC,[]=>some .dg
 | _,_=>none
inductive tT where|int (k:IntKind)|str|ints (n:Nat)
def BC (E:Env) (t:TypeId):Option tT:=
 match E.kindOf t with
 | some (.int k)=>some (.int k)
 | some .str=>some .str
 | some _=>(E.eqN t).map .ints
 | none=>none
def oq:tT->V->Bool
 | .int k,.int B _=>k==B
 | .str,.str _=>true
 | .ints n,.agg cs=>cs.length==n&&(gE cs).isSome
 | _,_=>false
inductive GX where
 | load (size:Nat) (agg:Bool)
 | loadF (size:Nat) (agg:Bool)
 | lookup (kk:tT) (zero:V) (ok:Bool)
def ey (H:bf):GX->List V->Option V
 | .load size agg,[p]=>(dL H p size).bind (mk agg)
 | .lookup kk z ok,[m,k]=>match lG H m with
  | some B=>if oq kk k then match gA k B 0 with
   | some (some (_,v))=>some (if ok then .tup [v,.bool true]else v)
   | some none=>some (if ok then .tup [z,.bool false]else z)
   | none=>none
   else none
  | none=>none
 | _,_=>none
inductive JA where
 | alloc (size:Nat) (zero:List V)
 | box
 | makeSl (size:Nat) (zero:List V)
 | buildSl (size len:Nat) (zero:List V) (idx:List Nat)
 | makeMap
def ig:JA->List V->Option (Ob×Mk)
 | .alloc size zero,[]=>some (.row size [zero],.ptr)
 | .box,[v]=>if v.cells.all V.one then some (.row v.cells.length [v.cells],.ptr)else none
 | .makeSl size zero,[.int k n,.int B m]=>if k=.i64/\B=.i64/\0<=n/\n<=m/\m<=2147483648 then some (.row size (List.replicate m.toNat zero),.sl size n.toNat)else none
 | .buildSl size len zero idx,vs=>if idx.length=vs.length then(fQ size (List.replicate len zero) (idx.zip vs)).map λxs=>(.row size xs,.sl size len)else none
 | .makeMap,[]=>some (.map [],.map)
 | _,_=>none
inductive Hg where
 | store (size:Nat)
 | storeF (size:Nat)
 | mapUp (kk:tT)
 | append (size:Nat)
 | appMk (size bytes:Nat) (zero:List V)
 | clear (size:Nat) (zero:List V)
def eF (H:bf):Hg->List V->Option (V×bf)
 | .store size,[.hptr id el off,v]=>match H[id]? with
  | some (.row es xs)=>match xs[el]? with
   | some cs=>if v.cells.length=size/\off+size<=cs.length/\v.cells.all V.one=true then
    some (.undef,H.set id (.row es (xs.set el (cs.take off++v.cells++cs.drop (off+v.cells.length)))))else none
   | none=>none
  | _=>none
 | .mapUp kk,[.hmap id,k,v]=>match H[id]? with
  | some (.map B)=>if oq kk k then(oI k v B).map λB=>(.undef,H.set id (.map B))else none
  | _=>none
 | .append size,[s,x]=>match dh H size s,dh H size x with
  | some _,some []=>some (s,H)
  | some xs,some ys=>if xs.length+ys.length<=2147483648 then(gb H s).map λH1=>(.hsl H.length size 0 (xs.length+ys.length),H1++[.row size (xs++ys)])else none
  | _,_=>none
 | .appMk size bytes zero,[s,x]=>mkApp H size bytes zero s x
 | .clear size zero,[v]=>AT H size zero v
 | .storeF size,.hptr id el off::v::l=>if l.all (pG id)=true then match H[id]? with
  | some (.row es xs)=>match xs[el]? with
   | some cs=>if v.cells.length=size/\off+size<=cs.length/\v.cells.all V.one=true then
    some (.undef,H.set id (.row es (xs.set el (cs.take off++v.cells++cs.drop (off+v.cells.length)))))else none
   | none=>none
  | _=>none
  else none
 | _,_=>none
inductive K where
 | p (p:tf)
 | r (r:GX)
 | a (a:JA)
 | l (l:Hg)
 | c
 | e (size:Nat)
 | b
def S5 (E:Env) (t:TypeId):Option KT:=(E.kindOf t).map TK.tag
def resolve (E:Env) (nm:FuncId->Option Nat):Op->Option (K×List Operand)
 | .move x|.assign x=>some (.p .id,[x])
 | .pick c a b=>some (.p .pick,[c,a,b])
 | .nilCheck x=>some (.p .nilc,[x])
 | .binOp op t x y _=>some (.p (.bin (S5 E t) (E.eqN t) op),[x,y])
 | .unOp .not _ x=>some (.p .not,[x])
 | .unOp .neg _ x=>some (.p .neg,[x])
 | .convert s d x=>match E.tt s,E.tt d with
  | some _,some O=>match O.kind with
   | .int k=>some (.p (.conv k),[x])
   | .str=>match E.kindOf s with
    | some (.slice e)=>match E.kindOf e with
     | some (.int .u8)=>some (.b,[x])
     | _=>none
    | _=>none
   | _=>none
  | _,_=>none
 | .fieldAddr s x f=>match E.kindOf s with
  | some (.struct fs)=>match fs[f]? with
   | some (off,t)=>match E.tt t with
    | some d=>if d.size=0 then none else some (.p (.fieldAddr off),[x])
    | none=>none
   | none=>none
  | _=>none
 | .field s x f=>match E.kindOf s with
  | some (.struct fs)=>match fs[f]? with
   | some (off,t)=>match E.tt t with
    | some d=>some (.p (.field off d.size d.agg),[x])
    | none=>none
   | none=>none
  | _=>none
 | .indexAddr t x i=>match E.kindOf t with
  | some (.slice e)=>(E.tt e).map λd=>(.p (.idxS d.size),[x,i])
  | some (.array len e)=>(E.tt e).map λd=>(.p (.idxA len d.size),[x,i])
  | _=>none
 | .index t x i=>match E.kindOf t with
  | some .str=>some (.p .idxStr,[x,i])
  | some (.array len e)=>(E.tt e).map λd=>(.p (.idxArr len d.size d.agg),[x,i])
  | _=>none
 | .slice t x B D U=>match E.kindOf t,U with
  | some .str,none=>some (.p (.sliceStr B.isSome D.isSome),x::(B.toList++D.toList))
  | some (.slice e),none=>(E.tt e).map λd=>(.p (.slice d.size B.isSome D.isSome),x::(B.toList++D.toList))
  | some (.slice e),some m=>match E.tt e,B,D with
   | some _,none,some h=>some (.p .slice00,[x,h,m])
   | _,_,_=>none
  | _,_=>none
 | .build t ps=>match E.tt t with
  | some d=>match d.kind with
   | .struct fs=>match lN E fs with
    | some pl=>(ps.toList.mapM λ(q:Nat×Operand)=>pl[q.1]?).map λq=>(K.p (.build d.zero q),ps.toList.map λ(q:Nat×Operand)=>q.2)
    | none=>none
   | .array _ e=>(E.tt e).map λJ=>(K.p (.build d.zero (ps.toList.map λ(q:Nat×Operand)=>(q.1*J.size,J.size))),ps.toList.map λ(q:Nat×Operand)=>q.2)
   | _=>none
  | none=>none
 | .makeFunc (.func f) a b=>(nm f).map λs=>(.p (.clo s a.toList.length),a.toList++b.toList)
 | .extract x i=>some (.p (.ext i),[x])
 | .load t a=>(E.tt t).map λd=>(.r (.load d.size d.agg),[a])
 | .lookup t m k ok=>match E.kindOf t with
  | some (.map G W)=>match E.tt W,BC E G with
   | some d,some kk=>(mk d.agg d.zero).map λz=>(.r (.lookup kk z ok),[m,k])
   | _,_=>none
  | _=>none
 | .alloc t=>(E.tt t).map λd=>(.a (.alloc d.size d.zero),[])
 | .box _ x=>some (.a .box,[x])
 | .makeSlice t l c=>match E.kindOf t with
  | some (.slice e)=>match E.tt e with
   | some d=>if d.bytes<=4096 then some (.a (.makeSl d.size d.zero),[l,c])else none
   | none=>none
  | _=>none
 | .buildSlice t len ps=>match E.kindOf t with
  | some (.slice e)=>match E.tt e with
   | some d=>if len*d.size<=16777216 then some (.a (.buildSl d.size len d.zero (ps.toList.map (·.1))),ps.toList.map (·.2))else none
   | none=>none
  | _=>none
 | .makeMap _ none=>some (.a .makeMap,[])
 | .store t a x=>(E.tt t).map λd=>(.l (.store d.size),[a,x])
 | .mapUpdate t m k x|.insert t m k x=>match E.kindOf t with
  | some (.map G _)=>(BC E G).map λkk=>(.l (.mapUp kk),[m,k,x])
  | _=>none
 | .call { callee:=.builtin .append,args,argTypes }=>match argTypes.toList,args.toList with
  | [t,Y],[s,x]=>match E.kindOf t,E.kindOf Y with
   | some (.slice e),some (.slice _)=>match E.tt e with
    | some d=>if d.bytes<=4096/\0<d.bytes then some (.l (.append d.size),[s,x])else none
    | none=>none
   | some (.slice e),some (.int _)=>(E.tt e).map λd=>(.l (.appMk d.size d.bytes d.zero),[s,x])
   | _,_=>none
  | _,_=>none
 | .call { callee:=.builtin .len,args,argTypes }=>match argTypes[0]?,args.toList with
  | some t,[x]=>match E.kindOf t with
   | some .str=>some (.p .lenStr,[x])
   | some (.slice _)=>some (.p .lenSl,[x])
   | _=>none
  | _,_=>none
 | .call { callee:=.builtin .cap,args,argTypes }=>match argTypes[0]?,args.toList with
  | some t,[x]=>match E.kindOf t with
   | some (.slice _)=>some (.p .capSl,[x])
   | _=>none
  | _,_=>none
 | .call { callee:=.builtin .clear,args,argTypes }=>match argTypes[0]?,args.toList with
  | some t,[x]=>match E.kindOf t with
   | some (.slice e)=>(E.tt e).map λd=>(.l (.clear d.size d.zero),[x])
   | _=>none
  | _,_=>none
 | .panic _=>some (.p .bad,[])
 | .makeInterface ..=>some (.p .bad,[])
 | .call { callee:=.builtin .max,args,.. }=>match args.toList with
  | [x,y]=>some (.p .max,[x,y])
  | [x,y,z,t]=>some (.p .max4,[x,y,z,t])
  | _=>none
 | .call { callee:=.builtin .min,args,.. }=>match args.toList with
  | [x,y]=>some (.p .min,[x,y])
  | _=>none
 | .call { callee:=.value f,args,.. }=>some (.c,f::args.toList)
 | _=>none
end Go.VE
namespace Go.VE
variable [bN]
section
variable {E:Env} {nm:FuncId->Option Nat} {N:Nat->FuncId} {F:Frame}
theorem mW {x:Operand} {vs:List V} (h:eY F [x]=some vs):∃a,ev F x=some a/\vs=[a]:=by
 simp[eY]at h
 grind
theorem gX {x:Operand} {l:List Operand} {vs:List V} (h:eY F (x::l)=some vs):∃a az,ev F x=some a/\eY F l=some az/\vs=a::az:=by
 simp[eY]at h
 grind
theorem oJ {vs:List V} (h:eY F []=some vs):vs=[]:=by simp[eY]at h;grind
theorem qP {x y:Operand} {vs:List V} (h:eY F [x,y]=some vs):∃a b,ev F x=some a/\ev F y=some b/\vs=[a,b]:=by
 obtain⟨a,az,u,t,rfl⟩:=gX h;obtain⟨b,w,rfl⟩:=mW t
 grind
theorem Fs {x y z:Operand} {vs:List V} (h:eY F [x,y,z]=some vs):∃a b c,ev F x=some a/\ev F y=some b/\ev F z=some c/\vs=[a,b,c]:=by
 obtain⟨a,az,u,t,rfl⟩:=gX h;obtain⟨b,c,w,hc,rfl⟩:=qP t
 grind
theorem IA {l m:List Operand} {vs:List V} (h:eY F (l++m)=some vs):∃az B,eY F l=some az/\eY F m=some B/\vs=az++B:=by
 induction l generalizing vs with
 | nil=>exact⟨[],vs,rfl,h,rfl⟩
 | cons x l t=>
  obtain⟨a,az,u,w,rfl⟩:=gX h;obtain⟨b,c,z,hc,rfl⟩:=t w;refine⟨a::b,c,?_,hc,rfl⟩;simp[eY,u,z]
theorem Iw {l:List Operand} {vs:List V} (h:eY F l=some vs):vs.length=l.length:=by
 induction l generalizing vs with
 | nil=>rw[oJ h];rfl
 | cons x l t=>obtain⟨a,az,_,u,rfl⟩:=gX h;grind
def BG (E:Env) (N:Nat->FuncId) (F:Frame) (op:Op) (vs:List V):K->Prop
 | .p p=>cT op=.pure/\∀v,bh N p vs=some v->bE E F op=some v
 | .r r=>cT op=.read/\∀H v,ey H r vs=some v->dF E F H op=some v
 | .a a=>cT op=.alloc/\∀x,ig a vs=some x->eo E F op=some x
 | .l l=>cT op=.loud/\∀H x,eF H l vs=some x->cO E F H op=some x
 | .e _=>False
 | .b=>cT op=.pure/\∃x,vs=[x]/\∀H ys l,dh H 1 x=some ys->ow ys=some l->bE E F op=none/\evalConv E F H op=some (.str (Jm l))
 | .c=>cT op=.call/\∃f az,vs=f::az/\jc F op=(match f with|.clo g a b=>some (.fn g,a++az++b)|.yld id=>some (.yld id,az)|_=>none)
theorem Et (place:Nat->Option (Nat×Nat)):∀(ps:List (Nat×Operand)) (q:List (Nat×Nat)) (vs:List V) (cells cs:List V),(ps.mapM λ(x:Nat×Operand)=>place x.1)=some q ->
 eY F (ps.map λ(x:Nat×Operand)=>x.2)=some vs->oV cells q vs=some cs->∃B,kM F ps=some B/\sq place cells B=some cs:=by
 intro ps
 induction ps with
 | nil=>
  intro q vs cells cs t hv h;simp  at t;subst t;have:=oJ (by simpa using hv);subst this
  simp[oV]at h;subst h;exact⟨[],rfl,rfl⟩
 | cons p ps A=>
  intro q vs cells cs t hv h;obtain⟨i,x⟩:=p;simp only[List.mapM_cons,Option.pure_def,Option.bind_eq_bind,ζg,ζa]at t;obtain⟨pl,u,C,w,rfl⟩:=t;obtain⟨a,az,D,z,rfl⟩:=gX (by simpa using hv)
  simp only[oV]at h;split at h
  .simp_all
  .obtain⟨B,h1,G⟩:=A C az _ cs w z h;refine⟨(i,a)::B,by simp[kM,D,h1],?_⟩
   simp[sq,u]
   grind
theorem KD:∀(ps:List (Nat×Operand)) (vs:List V),eY F (ps.map λ(x:Nat×Operand)=>x.2)=some vs->kM F ps=some ((ps.map λ(x:Nat×Operand)=>x.1).zip vs):=by
 intro ps
 induction ps with
 | nil=>simp[kM]
 | cons p ps u=>
  intro vs hv;obtain⟨a,az,w,t,rfl⟩:=gX (by simpa using hv)
  simp[kM,w,u az t]
theorem Fe {G D:Option Operand} {vs:List V} {l h:Option Int} (hv:eY F (G.toList++D.toList)=some vs) (B:j9 G.isSome D.isSome vs=some (l,h)):iX F G=some l/\iX F D=some h:=by
 cases G with
 | none=>
  cases D with
  | none=>
   have:=oJ (by simpa using hv);subst this;obtain⟨rfl,rfl⟩:=B;exact⟨rfl,rfl⟩
  | some y=>
   obtain⟨b,t,rfl⟩:=mW (by simpa using hv)
   cases b <;> simp[j9]at B;obtain⟨rfl,rfl⟩:=B;simp[iX,t]
 | some x=>
  cases D with
  | none=>
   obtain⟨b,t,rfl⟩:=mW (by simpa using hv)
   cases b <;> simp[j9]at B;obtain⟨rfl,rfl⟩:=B;simp[iX,t]
  | some y=>
   obtain⟨a,b,u,t,rfl⟩:=qP (by simpa using hv)
   cases a <;> cases b <;> simp[j9]at B;obtain⟨rfl,rfl⟩:=B;simp[iX,u,t]
theorem yj {t:TypeId} {kk:tT} {k:V} (h:BC E t=some kk) (hk:oq kk k=true):u_ E t k=true:=by
 unfold BC at h;unfold u_
 cases w:E.kindOf t with
 | none=>grind
 | some z=>
  rw[w]at h;have gen:(E.eqN t).map tT.ints=some kk->∃n u,E.eqN t=some n/\k=.agg u/\(u.length==n&&(gE u).isSome)=true:=by
   intro h;simp  at h;obtain⟨n,A,rfl⟩:=h;cases k <;> simp[oq]at hk <;> first|grind|grind
  cases z with
  | int B=>
   simp  at h;subst h;cases k <;> simp[oq]at hk
   grind
  | str=>
   simp  at h;subst h;cases k <;> simp[oq]at hk;rfl
  | _=>
   obtain⟨n,u,h1,rfl,C⟩:=gen h;simp_all
theorem jB (hN:∀f s,nm f=some s->N s=f) {op:Op} {k:K} {os:List Operand} {vs:List V} (h:resolve E nm op=some (k,os)) (hv:eY F os=some vs):BG E N F op vs k:=by
 cases op with
 | move x=>
  obtain⟨rfl,rfl⟩:=h;obtain⟨a,A,rfl⟩:=mW hv;exact⟨rfl,λv w=>by simpa [bh,bE,A]using w⟩
 | assign x=>
  obtain⟨rfl,rfl⟩:=h;obtain⟨a,A,rfl⟩:=mW hv;exact⟨rfl,λv w=>by simpa [bh,bE,A]using w⟩
 | pick c a b=>
  simp[resolve]at h;obtain⟨rfl,rfl⟩:=h;obtain⟨x,y,z,hx,hy,U,rfl⟩:=Fs hv;refine⟨rfl,λv w=>?_⟩
  cases x <;> simp[bh]at w;rename_i t;subst w;cases t <;> simp[bE,hx,hy,U]
 | nilCheck x=>
  simp[resolve]at h;obtain⟨rfl,rfl⟩:=h;obtain⟨a,A,rfl⟩:=mW hv;refine⟨rfl,λv w=>?_⟩
  cases a <;> simp[bh,Jp]at w <;> subst w <;> simp[bE,A]
 | binOp ai t x y yt=>
  simp only[resolve,ζa,ζc]at h;obtain⟨rfl,rfl⟩:=h;obtain⟨a,b,A,G,rfl⟩:=qP hv;exact⟨rfl,λv w=>by simp only[bE,A,G,PV];exact w⟩
 | unOp u t x=>
  cases u with
  | not=>
   simp only[resolve,ζa,ζc]at h;obtain⟨rfl,rfl⟩:=h;obtain⟨a,A,rfl⟩:=mW hv;refine⟨rfl,λv w=>?_⟩
   cases a <;> simp[bh]at w;subst w;simp[bE,A]
  | neg=>
   simp only[resolve,ζa,ζc]at h;obtain⟨rfl,rfl⟩:=h;obtain⟨a,A,rfl⟩:=mW hv;refine⟨rfl,λv w=>?_⟩
   cases a <;> simp[bh]at w;subst w;simp[bE,A]
  | _=>simp[resolve]at h
 | convert s d x=>
  simp only[resolve]at h;split at h
  .rename_i sd td hs C;split at h
   .rename_i k hk;simp only[ζa,ζc]at h;obtain⟨rfl,rfl⟩:=h;obtain⟨a,A,rfl⟩:=mW hv;refine⟨rfl,λv w=>?_⟩
    cases a <;> simp[bh]at w;subst w;simp[bE,A,hs,C,hk]
   .rename_i hk;split at h
    .rename_i e he;split at h
     .rename_i hu;simp only[ζa,ζc]at h;obtain⟨rfl,rfl⟩:=h;obtain⟨a,A,rfl⟩:=mW hv;refine⟨rfl,a,rfl,λH ys l h1 J=>?_⟩
      have ab:E.kindOf d=some .str:=by unfold Env.kindOf;rw[C,Option.map_some,hk]
      refine⟨?_,by simp only[evalConv,he,ab,A,hu,h1,J,ζb,Option.map_some]⟩
      simp only[bE,hs,C,A];cases a <;> first|rfl|(simp only[dh]at h1;cases h1)
     .simp at h
    .simp at h
   .simp at h
  .simp at h
 | fieldAddr s x f=>
  simp only[resolve]at h;split at h
  .rename_i fs hk;split at h
   .rename_i off t W;split at h
    .rename_i d C;split at h
     .simp at h
     .rename_i U;simp only[ζa,ζc]at h;obtain⟨rfl,rfl⟩:=h;obtain⟨a,A,rfl⟩:=mW hv;refine⟨rfl,λv w=>?_⟩
      simp only[bE,A,hk,W,C,if_neg U];simp only[bh,gu]at w;cases a <;> simp at w ⊢ <;> exact w
    .simp at h
   .simp at h
  .simp at h
 | field s x f=>
  simp only[resolve]at h;split at h
  .rename_i fs hk;split at h
   .rename_i off t W;split at h
    .rename_i d C;simp only[ζa,ζc]at h;obtain⟨rfl,rfl⟩:=h;obtain⟨a,A,rfl⟩:=mW hv;refine⟨rfl,λv w=>?_⟩
     cases a <;> simp only[bh]at w <;> first|(simp only[bE,A,hk,W,C];exact w)|simp at w
    .simp at h
   .simp at h
  .simp at h
 | indexAddr t x i=>
  simp only[resolve]at h;split at h
  .rename_i e hk;simp only[ζf,ζc]at h;obtain⟨d,C,rfl,rfl⟩:=h;obtain⟨a,b,A,G,rfl⟩:=qP hv;refine⟨rfl,λv w=>?_⟩
   cases b <;> simp only[bh]at w <;> first|simp at w;done|skip
   simp only[bE,A,G,hk,C];unfold kg at w;exact w
  .rename_i len e hk;simp only[ζf,ζc]at h;obtain⟨d,C,rfl,rfl⟩:=h;obtain⟨a,b,A,G,rfl⟩:=qP hv;refine⟨rfl,λv w=>?_⟩
   cases b <;> simp only[bh]at w <;> first|simp at w;done|skip
   simp only[bE,A,G,hk,C];unfold uN at w;exact w
  .simp at h
 | index t x i=>
  simp only[resolve]at h;split at h
  .rename_i hk;simp only[ζa,ζc]at h;obtain⟨rfl,rfl⟩:=h;obtain⟨a,b,A,G,rfl⟩:=qP hv;refine⟨rfl,λv w=>?_⟩
   cases a <;> cases b <;> simp only[bh]at w <;> first|simp at w;done|skip
   simp only[bE,A,G,hk];exact w
  .rename_i len e hk;simp only[ζf,ζc]at h;obtain⟨d,C,rfl,rfl⟩:=h;obtain⟨a,b,A,G,rfl⟩:=qP hv;refine⟨rfl,λv w=>?_⟩
   cases a <;> cases b <;> simp only[bh]at w <;> first|simp at w;done|skip
   simp only[bE,A,G,hk,C];exact w
  .simp at h
 | slice t x lo hi mx=>
  simp only[resolve]at h;split at h
  .rename_i hk;simp only[ζa,ζc]at h;obtain⟨rfl,rfl⟩:=h;obtain⟨a,bs,A,G,rfl⟩:=gX hv;refine⟨rfl,λv w=>?_⟩
   cases a <;> simp only[bh]at w <;> first|simp at w;done|skip
   obtain⟨⟨l,h⟩,X,w⟩:=ζg.1 w;obtain⟨h1,J⟩:=Fe G X;have hm:iX F none=some none:=rfl;simp only[bE,A,hk,h1,J,hm];exact w
  .rename_i e hk;simp only[ζf,ζc]at h;obtain⟨d,C,rfl,rfl⟩:=h;obtain⟨a,bs,A,G,rfl⟩:=gX hv;refine⟨rfl,λv w=>?_⟩
   simp only[bh]at w;obtain⟨⟨l,h⟩,X,w⟩:=ζg.1 w;obtain⟨h1,J⟩:=Fe G X;have hm:iX F none=some none:=rfl;simp only[bE,A,hk,h1,J,hm,C];cases a <;> exact w
  .rename_i e m hk;split at h
   .rename_i d hh C;simp only[ζa,ζc]at h;obtain⟨rfl,rfl⟩:=h;obtain⟨a,b,c,A,G,hc,rfl⟩:=Fs hv;refine⟨rfl,λv w=>?_⟩
    cases b <;> cases c <;> simp only[bh]at w <;> first|simp at w;done|skip
    rename_i k1 n1 k2 n2;split at w
    .rename_i T;simp only[ζh,beq_iff_eq]at T;obtain⟨⟨h1,rfl⟩,rfl⟩:=T;have m1:iX F none=some none:=rfl;have m2:iX F (some hh)=some (some 0):=by simp[iX,G]
     have m3:iX F (some m)=some (some 0):=by simp[iX,hc]
     simp only[bE,A,hk,m1,m2,m3,C];cases a <;> simp[IL]at h1 <;> exact w
    .simp at w
   .simp at h
  .simp at h
 | build t ps=>
  simp only[resolve]at h;split at h
  .rename_i d C;split at h
   .rename_i fs hk;split at h
    .rename_i pl ad;simp only[ζf,ζc]at h;obtain⟨q,hq,rfl,rfl⟩:=h;refine⟨rfl,λv w=>?_⟩
     simp only[bh,ζf]at w;obtain⟨cs,Y,rfl⟩:=w;obtain⟨ws,w1,w2⟩:=Et (λi=>pl[i]?) _ q vs _ cs hq hv Y
     simp only[bE,C,w1,hk,ad,w2,Option.map_some]
    .simp at h
   .rename_i len e hk;simp only[ζf,ζc]at h;obtain⟨de,ae,rfl,rfl⟩:=h;refine⟨rfl,λv w=>?_⟩
    simp only[bh,ζf]at w;obtain⟨cs,Y,rfl⟩:=w;obtain⟨ws,w1,w2⟩:=Et (λi=>some (i*de.size,de.size)) ps.toList (ps.toList.map λq=>(q.1*de.size,de.size)) vs _ cs (by
     generalize ps.toList=l
     induction l with
     | nil=>rfl
     | cons x l ih=>simp[List.mapM_cons,ih]) hv Y
    simp only[bE,C,w1,hk,ae,w2,Option.map_some]
   .simp at h
  .simp at h
 | makeFunc f a b=>
  cases f with
  | func f=>
   simp only[resolve,ζf,ζc]at h;obtain⟨s,hs,rfl,rfl⟩:=h;obtain⟨az,bs,A,G,rfl⟩:=IA hv;refine⟨rfl,λv w=>?_⟩
   simp only[bh,ζa]at w;subst w;simp only[bE,A,G,hN f s hs];rw[<-Iw A];simp
  | _=>simp[resolve]at h
 | extract x i=>
  simp only[resolve,ζa,ζc]at h;obtain⟨rfl,rfl⟩:=h;obtain⟨a,A,rfl⟩:=mW hv;refine⟨rfl,λv w=>?_⟩
  cases a <;> simp only[bh]at w <;> first|simp at w;done|skip
  simp only[bE,A];exact w
 | load t x=>
  simp only[resolve,ζf,ζc]at h;obtain⟨d,C,rfl,rfl⟩:=h;obtain⟨a,A,rfl⟩:=mW hv;exact⟨rfl,λH v w=>by simp only[dF,C,A];exact w⟩
 | lookup t m k ok=>
  simp only[resolve]at h;split at h
  .rename_i kt et hk;split at h
   .rename_i d kk C L;simp only[ζf,ζc]at h;obtain⟨z,U,rfl,rfl⟩:=h;obtain⟨a,b,A,G,rfl⟩:=qP hv;refine⟨rfl,λH v w=>?_⟩
    simp only[ey]at w;split at w
    .rename_i aa O;split at w
     .rename_i Q;simp only[dF,hk,A,G,C,O,yj L Q,if_true,U];split at w
      .rename_i W;rw[W];exact w
      .rename_i W;rw[W];exact w
      .simp at w
     .simp at w
    .simp at w
   .simp at h
  .simp at h
 | alloc t=>
  simp only[resolve,ζf,ζc]at h;obtain⟨d,C,rfl,rfl⟩:=h;have:=oJ hv;subst this;exact⟨rfl,λx w=>by simpa [ig,eo,C]using w⟩
 | box t x=>
  simp only[resolve,ζa,ζc]at h;obtain⟨rfl,rfl⟩:=h;obtain⟨a,A,rfl⟩:=mW hv;exact⟨rfl,λx w=>by simp only[eo,A];exact w⟩
 | makeSlice t l c=>
  simp only[resolve]at h;split at h
  .rename_i e hk;split at h
   .rename_i d C;split at h
    .rename_i S;simp only[ζa,ζc]at h;obtain⟨rfl,rfl⟩:=h;obtain⟨a,b,A,G,rfl⟩:=qP hv;refine⟨rfl,λx w=>?_⟩
     cases a <;> cases b <;> simp only[ig]at w <;> first|simp at w;done|skip
     rename_i k1 n1 k2 n2;split at w
     .rename_i hc;simp only[eo,hk,A,G,C];rw[if_pos ⟨hc.1,hc.2.1,hc.2.2.1,hc.2.2.2.1,hc.2.2.2.2,S⟩];exact w
     .simp at w
    .simp at h
   .simp at h
  .simp at h
 | buildSlice t len ps=>
  simp only[resolve]at h;split at h
  .rename_i e hk;split at h
   .rename_i d C;split at h
    .rename_i S;simp only[ζa,ζc]at h;obtain⟨rfl,rfl⟩:=h;refine⟨rfl,λx w=>?_⟩
     have U:=KD _ _ hv;simp only[ig]at w;split at w
     .simp only[eo,hk,U,C,if_pos S];exact w
     .simp at w
    .simp at h
   .simp at h
  .simp at h
 | makeMap t r=>
  cases r with
  | none=>
   simp only[resolve,ζa,ζc]at h;obtain⟨rfl,rfl⟩:=h;have:=oJ hv;subst this;exact⟨rfl,λx w=>by simpa [ig,eo]using w⟩
  | some r=>simp[resolve]at h
 | store t p x=>
  simp only[resolve,ζf,ζc]at h;obtain⟨d,C,rfl,rfl⟩:=h;obtain⟨a,b,A,G,rfl⟩:=qP hv;refine⟨rfl,λH v w=>?_⟩
  cases a <;> simp only[eF]at w <;> first|simp at w;done|skip
  simp only[cO,C,A,G];exact w
 | mapUpdate t m k x=>
  simp only[resolve]at h;split at h
  .rename_i kt et hk;simp only[ζf,ζc]at h;obtain⟨kk,L,rfl,rfl⟩:=h;obtain⟨a,b,c,A,G,hc,rfl⟩:=Fs hv;refine⟨rfl,λH v w=>?_⟩
   cases a <;> simp only[eF]at w <;> first|simp at w;done|skip
   simp only[cO,hk,A,G,hc];split at w
   .rename_i aa O;split at w
    .rename_i Q;rw[O];simp only[yj L Q,if_true];exact w
    .simp at w
   .simp at w
  .simp at h
 | insert t m k x=>
  simp only[resolve]at h;split at h
  .rename_i kt et hk;simp only[ζf,ζc]at h;obtain⟨kk,L,rfl,rfl⟩:=h;obtain⟨a,b,c,A,G,hc,rfl⟩:=Fs hv;refine⟨rfl,λH v w=>?_⟩
   cases a <;> simp only[eF]at w <;> first|simp at w;done|skip
   simp only[cO,hk,A,G,hc];split at w
   .rename_i aa O;split at w
    .rename_i Q;rw[O];simp only[yj L Q,if_true];exact w
    .simp at w
   .simp at w
  .simp at h
 | call c=>
  obtain⟨callee,args,aj⟩:=c
  cases callee with
  | value f=>
   simp only[resolve,ζa,ζc]at h;obtain⟨rfl,rfl⟩:=h;obtain⟨a,az,A,has,rfl⟩:=gX hv;refine⟨rfl,a,az,rfl,?_⟩;simp only[jc,A,has];cases a <;> rfl
  | builtin b=>
   cases b with
   | append=>
    simp only[resolve]at h;split at h
    .rename_i t t' s x I B;split at h
     .rename_i e e' hk Z;split at h
      .rename_i d C;split at h
       .rename_i S;simp only[ζa,ζc]at h;obtain⟨rfl,rfl⟩:=h;obtain⟨a,b,A,G,rfl⟩:=qP hv;refine⟨rfl,λH v w=>?_⟩
        have D:eY F args.toList=some [a,b]:=by rw[B];exact hv
        simp only[cO,I,D,hk,Z,C];simp only[eF]at w;split at w
        .rename_i h1 J;rw[h1,J];exact w
        .rename_i xs ys af h1 J;rw[h1,J];split at w
         .rename_i ah;simp only[if_pos (show xs.length+ys.length<=2147483648/\d.bytes<=4096/\0<d.bytes from⟨ah,S⟩)]
          cases ys with
          | nil=>exact absurd rfl af
          | cons y ys=>exact w
         .simp at w
        .simp at w
       .simp at h
      .simp at h
     .rename_i e kk hk Z;simp only[ζf,ζc]at h;obtain⟨d,C,rfl,rfl⟩:=h;obtain⟨a,b,A,G,rfl⟩:=qP hv;refine⟨rfl,λH v w=>?_⟩
      have D:eY F args.toList=some [a,b]:=by rw[B];exact hv
      simp only[cO,I,D,hk,Z,C];exact w
     .simp at h
    .simp at h
   | cap=>
    simp only[resolve]at h;split at h
    .rename_i t x I B;split at h
     .rename_i e hk;simp only[ζa,ζc]at h;obtain⟨rfl,rfl⟩:=h;obtain⟨a,A,rfl⟩:=mW hv;have D:eY F args.toList=some [a]:=by rw[B];exact hv
      refine⟨rfl,λx w=>?_⟩
      simp only[bE,I,D,hk];simp only[bh]at w;cases a <;> simp only[FY]at w <;> first|(simp at w;done)|exact w
     .simp at h
    .simp at h
   | clear=>
    simp only[resolve]at h;split at h
    .rename_i t x I B;split at h
     .rename_i e hk;simp only[ζf,ζc]at h;obtain⟨d,C,rfl,rfl⟩:=h;obtain⟨a,A,rfl⟩:=mW hv;have D:eY F args.toList=some [a]:=by rw[B];exact hv
      refine⟨rfl,λH v w=>?_⟩
      simp only[cO,I,D,hk,C];exact w
     .simp at h
    .simp at h
   | len=>
    simp only[resolve]at h;split at h
    .rename_i t x I B;split at h
     .rename_i hk;simp only[ζa,ζc]at h;obtain⟨rfl,rfl⟩:=h;obtain⟨a,A,rfl⟩:=mW hv;have D:eY F args.toList=some [a]:=by rw[B];exact hv
      refine⟨rfl,λv w=>?_⟩
      cases a <;> simp only[bh]at w <;> first|simp at w;done|skip
      simp only[bE,D,I,hk];exact w
     .rename_i e hk;simp only[ζa,ζc]at h;obtain⟨rfl,rfl⟩:=h;obtain⟨a,A,rfl⟩:=mW hv;have D:eY F args.toList=some [a]:=by rw[B];exact hv
      refine⟨rfl,λv w=>?_⟩
      simp only[bE,D,I,hk];simp only[bh,l_]at w;cases a <;> simp at w ⊢ <;> exact w
     .simp at h
    .simp at h
   | max=>
    simp only[resolve]at h;split at h
    .rename_i x y B;simp only[ζa,ζc]at h;obtain⟨rfl,rfl⟩:=h;obtain⟨a,b,A,G,rfl⟩:=qP hv;have D:eY F args.toList=some [a,b]:=by rw[B];exact hv
     refine⟨rfl,λv w=>?_⟩
     cases a <;> cases b <;> simp only[bh]at w <;> first|simp at w;done|skip
     simp only[bE,D];exact w
    .rename_i x y z t B;simp only[ζa,ζc]at h;obtain⟨rfl,rfl⟩:=h;obtain⟨a,ak,A,J,rfl⟩:=gX hv;obtain⟨b,c,d,G,hc,C,rfl⟩:=Fs J;have D:eY F args.toList=some [a,b,c,d]:=by rw[B];exact hv
     refine⟨rfl,λv w=>?_⟩
     cases a <;> cases b <;> simp only[bh]at w <;> first|simp at w;done|skip
     cases c <;> cases d <;> simp only[bh]at w <;> first|simp at w;done|skip
     simp only[bE,D];exact w
    .simp at h
   | min=>
    simp only[resolve]at h;split at h
    .rename_i x y B;simp only[ζa,ζc]at h;obtain⟨rfl,rfl⟩:=h;obtain⟨a,b,A,G,rfl⟩:=qP hv;have D:eY F args.toList=some [a,b]:=by rw[B];exact hv
     refine⟨rfl,λv w=>?_⟩
     cases a <;> cases b <;> simp only[bh]at w <;> first|simp at w;done|skip
     simp only[bE,D];exact w
    .simp at h
   | _=>simp[resolve]at h
  | _=>simp[resolve]at h
 | panic x=>
  simp only[resolve,ζa,ζc]at h;obtain⟨rfl,rfl⟩:=h;have:=oJ hv;subst this;exact⟨rfl,λx w=>by simp[bh]at w⟩
 | makeInterface t x=>
  simp only[resolve,ζa,ζc]at h;obtain⟨rfl,rfl⟩:=h;have:=oJ hv;subst this;exact⟨rfl,λx w=>by simp[bh]at w⟩
 | _=>simp[resolve]at h
end
end Go.VE
namespace Go.VE
variable [bN]
structure xT (c c':c7):Prop where
 lv:c.lv<=c'.lv
 go:∀x a H r,c x a H=some r->c' x a H=some r
section
variable {E:Env} {c c':c7} {n:Nat} {ops:List Oper} {F F':Frame} {H H':bf}
theorem FK {f:FuncId} {args:List V} {y:V} (B:bU c f args H=some y):∃az,borrows c.lv H args=some az:=by
 unfold bU at B;split at B
 .rename_i az h;exact⟨az,h⟩
 .cases B
theorem Bg (D:c.lv<=c'.lv) {f:FuncId} (h:∀a H r,c (.fn f) a H=some r->c' (.fn f) a H=some r) {args:List V} {y:V} (B:bU c f args H=some y):bU c' f args H=some y:=by
 unfold bU at B ⊢;split at B
 .rename_i az t;rw[qX D t];split at B
  .rename_i hc;simp only;rw[h _ _ _ hc];split at B
   .rename_i u;simp only;rw[qE D u];exact B
   .cases B
  .simp at B
 .simp at B
theorem me (h:xT c c') {f:FuncId} {args:List V} {y:V} (B:bU c f args H=some y):bU c' f args H=some y:=Bg h.lv (λ_ _ _=>h.go _ _ _ _) B
theorem kX (B:c.lv<=c'.lv) {f:FuncId} {args:List V} {y:V} (D:bU c f args H=some y):cE (bW c'.lv H) args=cE (bW c.lv H) args:=by
 obtain⟨az,h⟩:=FK D;exact wP B h
theorem AU (D:c.lv<=c'.lv) {f:FuncId} (h:∀a H r,c (.fn f) a H=some r->c' (.fn f) a H=some r) {args:List V} {r:V×bf} (B:jx c f args H=some r):jx c' f args H=some r:=by
 unfold jx at B ⊢;split at B
 .rename_i az t;rw[qX D t];split at B
  .rename_i hc;simp only;rw[h _ _ _ hc];exact B
  .simp at B
 .simp at B
theorem FQ (h:xT c c') {f:FuncId} {args:List V} {r:V×bf} (B:jx c f args H=some r):jx c' f args H=some r:=AU h.lv (λ_ _ _=>h.go _ _ _ _) B
theorem yd (h:xT c c') {f:FuncId} {args:List V} {r:V×bf} (B:eH E c f args H=some r):eH E c' f args H=some r:=by
 unfold eH at B ⊢;split
 .rename_i t;rw[if_pos t]at B;exact FQ h B
 .rename_i t;rw[if_neg t]at B;exact h.go _ _ _ _ B
theorem xR (J:c.lv<=c'.lv) {f:FuncId} {args:List V} {y G:V} {b:Nat} (h1:bU c f args (H.take b)=none) (B:bU c f args H=some y) (D:bU c' f args (H.take b)=some G):False:=by
 unfold bU at h1 B D;split at D
 .rename_i az has;split at B
  .rename_i A t;have e:=mJ (λx y z k1 k2=>GG (H2:=H.take b) c.lv c'.lv x y z k1 k2 λid u=>by
    rw[List.getElem?_take]at u ⊢;split at u
    .rename_i w;rw[if_pos w]
    .cases u) t has
   have C:borrows c.lv H args=some az:=lu (zV c.lv) e;rw[C]at t;cases t;rw[show borrows c.lv (H.take b) args=some az from e]at h1;simp only at h1;rw[h1]at B;simp at B
  .simp at B
 .simp at D
theorem KB (h:xT c c') {place:Option (Nat×Nat)} {op:Op} {r:V×bf} (B:c6 E c ops place F H op=some r):c6 E c' ops place F H op=some r:=by
 unfold c6 at B ⊢;split at B
 .exact B
 .exact B
 .exact B
 .exact B
 .split at B
  .rename_i f args z;split at B
   .rename_i hk;rw[if_pos hk];split at B
    .exact yd h B
    .skip
     split at B
     .rename_i w;rw[if_pos w];exact yd h B
     .simp at B
   .rename_i hk;rw[if_neg hk];split at B
    .skip
     split at B
     .rename_i y t;rw[me h t,kX h.lv t];exact B
     .simp at B
    .rename_i b i
     skip
     split at B
     .rename_i y t;rw[me h t,kX h.lv t];exact B
     .rename_i u;split at B
      .rename_i w;split at B
       .rename_i y t
        cases A:bU c' f args (List.take b H)with
        | some C=>exact(xR h.lv u t A).elim
        | none=>simp only[if_pos w,me h t,kX h.lv t];exact B
       .simp at B
      .simp at B
  .rename_i id args z;split at B
   .exact h.go _ _ _ _ B
   .skip
    split at B
    .rename_i w;rw[if_pos w];exact h.go _ _ _ _ B
    .simp at B
  .simp at B
theorem Bp (h:xT c c') {place:Option (Nat×Nat)} {o:Oper} {r:Frame×bf} (B:fI E c n ops place o F H=some r):fI E c' n ops place o F H=some r:=by
 unfold fI at B ⊢;split at B
 .rename_i t;rw[if_pos t];split at B
  .rename_i v H1 u;rw[KB h u];exact B
  .simp at B
 .rename_i t;rw[if_neg t];exact B
theorem zA (h:xT c c') {r:Frame×bf}:∀(l:List Oper) {F:Frame} {H:bf},kN E c n ops l F H=some r->kN E c' n ops l F H=some r
 | [],_,_,B=>B
 | o::l,F,H,B=>by
  simp only[kN]at B ⊢;split at B
  .rename_i F1 H1 D;rw[Bp h D];exact zA h l B
  .simp at B
theorem zw (h:xT c c') {base:Nat} {r:Frame×bf}:∀(l:List Nat) {F:Frame} {H:bf},iW E c n ops base l F H=some r->iW E c' n ops base l F H=some r
 | [],_,_,B=>B
 | i::l,F,H,B=>by
  simp only[iW]at B ⊢;split at B
  .split at B
   .rename_i F1 H1 D;rw[Bp h D];exact zw h l B
   .simp at B
  .simp at B
theorem BW (h:xT c c') {B:Bool} {r:Frame×bf} (D:iL E c n ops B F H=some r):iL E c' n ops B F H=some r:=by
 unfold iL at D ⊢;split
 .rename_i t;rw[if_pos t]at D;split at D
  .rename_i u;rw[if_pos u];exact zw h _ D
  .simp at D
 .rename_i t;rw[if_neg t]at D;exact zA h _ D
theorem wo {s O:Frame->bf->Option (Out×Frame×bf)} (h:∀F H r,s F H=some r->O F H=some r):∀(k D:Nat),k<=D->∀{F H r},jE s k F H=some r->jE O D F H=some r
 | 0,_,_,F,H,r,B=>by simp[jE]at B
 | k+1,0,hk,F,H,r,B=>by omega
 | k+1,D+1,hk,F,H,r,B=>by
  simp only[jE]at B ⊢;split at B
  .rename_i F1 H1 U;rw[h _ _ _ U];exact wo h k D (by omega) B
  .rename_i G;rw[h _ _ _ B];split
   .rename_i F1 H1 J;cases J;exact absurd B (G _ _)
   .rfl
theorem xQ (h:xT c c') {lf B:Nat} (O:lf<=B) (ro:Bool) (nt:Nat):∀(code:Code) {F:Frame} {H:bf} {r:Out×Frame×bf},exec E c lf ro nt code F H=some r->exec E c' B ro nt code F H=some r:=by
 intro code
 induction code with
 | skip=>intro F H r u;exact u
 | label l=>intro F H r u;exact u
 | region id ops J=>
  intro F H r u;simp only[exec,ζf]at u ⊢;obtain⟨x,L,rfl⟩:=u;exact⟨x,BW h L,rfl⟩
 | seq a b z A=>
  intro F H r u;simp only[exec]at u ⊢;split at u
  .rename_i F1 H1 h1;rw[z h1];exact A u
  .rename_i C;rw[z u];split
   .rename_i D;cases D;exact absurd u (C _ _)
   .rfl
 | cond x a b z A=>
  intro F H r u;simp only[exec]at u ⊢;split at u
  .rename_i t T;split at u
   .rename_i G;subst G;simp only[if_true];exact z u
   .rename_i G;rw[if_neg G];exact A u
  .simp at u
 | block id a I=>
  intro F H r u;simp only[exec]at u ⊢;split at u
  .rename_i Q F1 H1 h1;rw[I h1];exact u
  .rename_i C;rw[I u];split
   .rename_i D;cases D;exact absurd u (C _ _ _)
   .rfl
 | loop a I=>
  intro F H r u;simp only[exec]at u ⊢;exact wo (λF H r hr=>I hr) lf B O u
 | rangeFunc g ps U W _ _=>
  intro F H r u;simp only[exec]at u ⊢;split at u
  .split at u
   .rename_i S H1 hc;rw[h.go _ _ _ _ hc];exact u
   .simp at u
  .simp at u
 | exit id=>intro F H r u;exact u
 | ret=>intro F H r u;exact u
 | scope a _=>intro F H r u;simp[exec]at u
 | goto l=>intro F H r u;simp[exec]at u
 | refuse w=>intro F H r u;simp[exec]at u
theorem EG (E:Env):∀n,xT (run E n) (run E (n+1)):=by
 intro n
 induction n with
 | zero=>exact⟨Nat.le_succ _,λx a H r h=>(by cases h)⟩
 | succ n t=>
  refine⟨Nat.le_succ _,λx a H r h=>?_⟩
  rw[D1]at h ⊢
  cases x with
  | fn f=>
   rw[iR]at h ⊢;split at h
   .rename_i S J;split at h
    .rename_i z;rw[if_pos z];split at h
     .simp at h
     .rename_i o F1 H1 A L;rw[xQ t (Nat.le_succ n) _ _ _ L]
      cases o with
      | exit id=>exact(A id rfl).elim
      | norm=>exact h
      | ret=>exact h
     .simp at h
    .simp at h
   .split at h
    .rename_i B;rw[if_pos B];exact A6 t.lv (λg args y _ O=>me t O) h
    .rename_i B;rw[if_neg B];exact h
  | yld id=>
   rw[iR]at h ⊢;split at h
   .rename_i rec I;split at h
    .rename_i Q;split at h
     .rename_i u;split at h
      .rename_i T H2 C;split at h
       .rename_i r2 D;split at h
        .rename_i w;split at h
         .rename_i o U W G;simp only[if_pos u,xQ t (Nat.le_succ n) _ _ _ C,D,w,xQ t (Nat.le_succ n) _ _ _ G];exact h
         .simp at h
        .simp at h
       .simp at h
      .simp at h
     .simp at h
    .simp at h
   .simp at h
theorem mb (E:Env) {n m:Nat} (h:n<=m):xT (run E n) (run E m):=by
 induction h with
 | refl=>exact⟨Nat.le_refl _,λ_ _ _ _ h=>h⟩
 | step _ t=>exact⟨Nat.le_trans t.lv (EG E _).lv,λx a H r h=>(EG E _).go x a H r (t.go x a H r h)⟩
theorem mc (E:Env):∀n,(run E n).lv=n
 | 0=>rfl
 | _+1=>rfl
end
end Go.VE
namespace Go.VE
variable [bN]
def IZ (P:Program) (f:FuncId):Option FI:=(P.funcs[f]?).bind λfn=>fn.body.map λb=>⟨fn.ntmps,fn.results.toList,b⟩
def zq (P:Program):Bool:=P.funcs.toList.all λfn => !(fn.name == "runtime.NumGoroutine")
theorem OR {P:Program} (h:zq P=true) {f:FuncId} {fi:FI} (B:IZ P f=some fi):∃fn,P.funcs[f]? = some fn/\fn.body=some fi.body/\fn.ntmps=fi.ntmps/\fn.results.toList=fi.results/\(fn.name == "runtime.NumGoroutine")=false:=by
 unfold IZ at B;obtain⟨fn,h1,u⟩:=ζg.1 B;obtain⟨b,w,rfl⟩:=ζf.1 u;refine⟨fn,h1,w,rfl,rfl,?_⟩;unfold zq at h;rw[List.all_eq_true]at h;have z:=h fn (by
  obtain⟨t,rfl⟩:=Array.getElem?_eq_some_iff.1 h1;exact Array.mem_toList_iff.2 (Array.getElem_mem t))
 simpa using z
def AX (P:Program) (shut keep own:List Nat) (two:List (Nat×Nat)) (srt:FuncId->Bool) (known:FuncId->List V->Option V):Env where
 tt:=rC P
 ft f:=if shut.contains f then none else IZ P f
 keep:=keep.contains
 own:=own.contains
 eqN t:=lk two t
 sort:=srt
 known:=known
theorem ER {P:Program} {shut keep own:List Nat} {two:List (Nat×Nat)} {srt:FuncId->Bool} {known:FuncId->List V->Option V} (h:zq P=true) (B:∀p∈two,rM P p.1 p.2):dV P (AX P shut keep own two srt known) where
 tt t d h:=h
 ft f w u:=by
  change (if shut.contains f then none else IZ P f)=some w at u;split at u
  .cases u
  .exact OR h u
 eqN t n z:=B (t,n) (J_ z)
end Go.VE
namespace Go.VE
variable [bN]
def o6:List (List V)->Option (List Int)
 | []=>some []
 | [.int .i64 n]::r=>(o6 r).map (n::·)
 | _=>none
def lY (n:Nat) (l:List Int):List Int:=l.take n++List.replicate (n-l.length) 0
def wG (n:Nat) (l:List Int):List V:=(lY n l).map (V.int .i64)
def s7 (n:Nat):List V->Option V
 | [.bB]=>some (.agg (wG n []))
 | [.dg]=>some (.agg (wG n []))
 | [.fsl 1 xs]=>(o6 xs).map λl=>.agg (wG n l)
 | _=>none
theorem zR:∀{xs:List (List V)} {l:List Int},o6 xs=some l->l.length=xs.length/\∀(i:Nat) (k:Int),l[i]? = some k->xs[i]? = some [V.int .i64 k]
 | [],l,h=>by cases h;grind
 | x::xs,l,h=>by
  unfold o6 at h;split at h
  .grind
  .rename_i n r B;obtain⟨rfl,rfl⟩:=B;obtain⟨t,h1,rfl⟩:=ζf.1 h;obtain⟨u,w⟩:=zR h1
   grind
  simp_all
structure RK (w:World) (v:Value) (l:List Int):Prop where
 at_:∃a cap,v=.slice a l.length cap/\(a=none->l=[])/\∀ad,a=some ad->l=[]\/∃c el fr,ad.spot=none/\w.heap[ad.block]? = some (.cells c el fr)/\ad.off+l.length<=c.size/\(c.toList.drop ad.off).take l.length=l.map (Value.int .i64)
section
variable {P:Program} {I:b9} {μ:Mu} {H:bf} {w:World} {n:Nat}
theorem RG (s:cG I μ H w) {x:V} {v:Value} {y:V} (hv:bA I μ x v) (B:s7 n [x]=some y):∃l,RK w v l/\y=.agg (wG n l):=by
 have hc  := by
  cases hv with
  | c _ _ h=>omega
  | _=>simp[s7]at B
 unfold s7 at B;split at B
 .rename_i t;obtain⟨rfl,_⟩:=t;cases hc;cases B;exact⟨[],⟨⟨none,0,rfl,λ_=>rfl,λu h=>by cases h⟩⟩,rfl⟩
 .rename_i t;obtain⟨rfl,_⟩:=t;cases hc;cases B;exact⟨[],⟨⟨_,0,rfl,λ_=>rfl,λu h=>.inl rfl⟩⟩,rfl⟩
 .rename_i T t;obtain⟨rfl,_⟩:=t;obtain⟨l,G,rfl⟩:=ζf.1 B;obtain⟨h1,J⟩:=zR G;refine⟨l,?_,rfl⟩
  cases hc with
  | fsl0 _ a cap=>
   have  := List.length_eq_zero_iff.1 h1;subst this;exact⟨⟨_,cap,rfl,λ_=>rfl,λu h=>.inl rfl⟩⟩
  | fsl _ _ b o cap c L D hu U W hr=>
   refine⟨⟨_,cap,(by rw[h1]),(λh=>by cases h),λu z=>.inr ?_⟩⟩
   cases z;obtain⟨el,fr,O⟩:=s.imm b _ L;refine⟨c,el,fr,rfl,O,by grind,?_⟩
   refine List.ext_getElem? λi=>?_
   rw[List.getElem?_take,List.getElem?_map]
   by_cases Q:i<l.length
   .have S:=J i _ (ζd Q);have A:o+i<c.size:=by grind
    have C:c[o+i*1+0]? = some c[o+i]:=by simp[A]
    have:=hr i 0 _ _ _ S rfl C;have e:c[o+i]=.int .i64 l[i]:=by
     generalize c[o+i]=q at this ⊢;cases this;rfl
    grind
   grind
 simp_all
theorem NB {v:Value} {l:List Int} (h:RK w v l) {w':World} (hk:∀b,b<w.heap.size->w'.heap[b]? = w.heap[b]?) (n:Nat) :
 (Builtin.lenOf v).run P w'=.ok l.length w'/\(Builtin.firstCells 1 (Nat.min l.length n) v).run P w'=.ok ((l.take n).map (Value.int .i64)).toArray w':=by
 obtain⟨a,cap,rfl,h0,h1⟩:=h.at_;refine⟨by simp[Builtin.lenOf],?_⟩
 cases a with
 | none=>rw[h0 rfl];simp[Builtin.firstCells]
 | some z=>
  rcases h1 z rfl with rfl|⟨c,el,fr,A,hc,u,B⟩
  .simp[Builtin.firstCells,loadCells,loadCellsFrom]
  .obtain⟨b,o,D⟩:=z;simp only at A hc u B;subst A;have C  := (Array.getElem?_eq_some_iff.1 hc).1;have t  := oQ (by rw[hk b C];omega)
   have G:Nat.min l.length n<=l.length:=Nat.min_le_left _ _;simp[Builtin.firstCells];rw[tJ t (.inl (by omega))]
   have:(c.toList.drop o).take (Nat.min l.length n)=((c.toList.drop o).take l.length).take n:=by
    rw[List.take_take];congr 1;exact Nat.min_comm _ _
   simp_all
variable {f A S e:Nat} {fn:Func} {bytes i1 i2 i3 i4 t1 t2 t6 t7:Nat} {p1 p2 p3 p4 p5 p6 p7:String} {e1 e2 e3 e4 e5 e6 e7:Array Edge}
theorem vX {o:Oper} {a:Act} {w w':World} {K:Act->World->Prop} {Q:Exit->Act->World->Prop} {v:Value} (nr:∀c,o.op≠.defer c)
 (h:(execOp a.eval o).run P w=.ok (.value v) w') (B:K (a.put o.dst v) w'):o.wpIn (fr none) 0 P a w K Q:=by
 refine⟨λ_ _=>trivial,?_⟩
 show o.uponIn (fr none) 0 P a K Q ((o.semAt none a.eval).run P w);rw[Oper.semAt_eq none a.eval o nr,h,Oper.uponIn_value];omega
theorem RN {o:Oper} {a:Act} {w w':World} {K:Act->World->Prop} {Q:Exit->Act->World->Prop} (nr:∀c,o.op≠.defer c)
 (h:(execOp a.eval o).run P w=.ok .skip w') (B:K (a.put o.dst undef) w'):o.wpIn (fr none) 0 P a w K Q:=by
 refine⟨λ_ _=>trivial,?_⟩
 show o.uponIn (fr none) 0 P a K Q ((o.semAt none a.eval).run P w);rw[Oper.semAt_eq none a.eval o nr,h,Oper.uponIn_skip];omega
theorem QZ {o:Oper} {id:Nat} {a:Act} {w:World} {Q:Exit->Act->World->Prop} (hg:o.guard=none) (h:o.wpIn (fr none) 0 P a w (Q .normal) Q):(Code.region id #[o] false).wpIn (fr none) 0 P Q a w:=by
 refine wpIn_region ?_;simpa [wpOpsIn,Region.wanted,hg]using h
theorem TP {o o2:Oper} {id:Nat} {a:Act} {w:World} {Q:Exit->Act->World->Prop} (hg:o.guard=none) (B:o2.guard=none) (h:o.wpIn (fr none) 0 P a w (λa w=>o2.wpIn (fr none) 0 P a w (Q .normal) Q) Q):(Code.region id #[o,o2] false).wpIn (fr none) 0 P Q a w:=by
 refine wpIn_region ?_;show wpOpsIn _ _ _ _ _ [0,1] _ _;simpa [wpOpsIn,Region.wanted,hg,B]using h
theorem TJ {o o2 o3:Oper} {id:Nat} {a:Act} {w:World} {Q:Exit->Act->World->Prop} (hg:o.guard=none) (B:o2.guard=none) (D:o3.guard=none)
 (h:o.wpIn (fr none) 0 P a w (λa w=>o2.wpIn (fr none) 0 P a w (λa w=>o3.wpIn (fr none) 0 P a w (Q .normal) Q) Q) Q):(Code.region id #[o,o2,o3] false).wpIn (fr none) 0 P Q a w:=by
 refine wpIn_region ?_;show wpOpsIn _ _ _ _ _ [0,1,2] _ _;simpa [wpOpsIn,Region.wanted,hg,B,D]using h
theorem O1 (hf:P.funcs[f]? = some fn)
 (hb:fn.body=some (.seq (.region i1 #[⟨some 2,.alloc A,t1,p1,e1,none⟩] false) (.seq (.region i2 #[⟨some 3,.alloc A,t2,p2,e2,none⟩] false)
  (.seq (.region i3 #[⟨some 4,.slice A (.tmp 3) none none none,S,p3,e3,none⟩,⟨some 5,.move (.tmp 0),S,p4,e4,none⟩,⟨some 6,.call { callee:=.builtin .copy,args:=#[.tmp 4,.tmp 5],argTypes:=#[S,S] },t6,p5,e5,none⟩] false)
  (.seq (.region i4 #[⟨some 7,.load A (.tmp 3),A,p6,e6,none⟩,⟨none,.store A (.tmp 2) (.tmp 7),t7,p7,e7,none⟩] false) .ret)))))
 (aA:fn.ntmps=8) (hr:fn.results=#[.cell 2 A]) (af:(fn.name == "runtime.NumGoroutine")=false)
 (hA:P.underlying A=some (.array n e)) (hS:P.underlying S=some (.slice e)) (he:rC P e=some ⟨1,8,[.int .i64 0],.int .i64⟩) (aB:rC P A=some ⟨n,bytes,List.replicate n (.int .i64 0),.array n e⟩) :
 ∀args y,s7 n args=some y->um P f args y:=by
 intro args y hy;refine⟨⟨fn,hf,by simp[hb],af⟩,λI μ H w vs s hv=>?_⟩
 obtain⟨x,rfl⟩:∃x,args=[x]:=by
  match args,hy with
  | [],h=>simp[s7]at h
  | [x],_=>exact⟨x,rfl⟩
  | _::_::_,h=>simp[s7]at h
 obtain⟨v,rfl⟩:=List.length_eq_one_iff.1 (hv.1.symm);obtain⟨l,al,rfl⟩:=RG s (hv.2 0 x v rfl rfl) hy;have tA:=mZ.AS aB;have te:=mZ.AS he;obtain⟨z,hz,am,aK,aL⟩:=tA.yg;have Q:z.cells.size=n:=by have:=(am (λ_=>none) (λ_=>none)).1;simp at this;omega
 have key:∀u,bA (λ_=>none) (λ_=>none) (.int .i64 0) u->u=.int .i64 0:=λu h=>by cases h with|c _ _ h=>cases h;rfl
 have aC:z.cells.toList=List.replicate n (.int .i64 0):=by
  refine List.ext_getElem? λi=>?_
  by_cases hi:i<n
  .have h2:=(am (λ_=>none) (λ_=>none)).2 i (.int .i64 0) (z.cells[i]'(by omega)) (by simp[hi]) (by simp)
   rw[List.getElem?_replicate,if_pos hi];have  := key _ h2;simp[this,Q,hi]
  .rw[List.getElem?_eq_none (by simp;omega),List.getElem?_eq_none (by simp;omega)]
 have C:∀w,(Instr.alloc A true (.tuple #[])).run P w=.ok (.pointer (some ⟨w.heap.size,0,none⟩)) (w.alloc (.cells z.cells A)):=by
  intro w;unfold Instr.alloc;simp[Sem.run_bind,hz,Result.andThen_ok,B6,Sem.run_pure]
 have ab:(w.alloc (.cells z.cells A)).heap.size=w.heap.size+1:=by simp
 generalize J:(w.alloc (.cells z.cells A)).alloc (.cells z.cells A)=B;have an:B.heap.size=w.heap.size+2:=by subst J;simp
 have ao:∀b,b<w.heap.size->B.heap[b]? = w.heap[b]? := by
  intro b hb;subst J;rw[iJ _ _ (by omega),iJ _ _ hb]
 have aD:B.heap[w.heap.size]? = some (.cells z.cells A):=by subst J;rw[iJ _ _ (by omega),jK]
 have aE:B.heap[w.heap.size+1]? = some (.cells z.cells A):=by subst J;rw[<-ab,jK]
 have ah:B.os=w.os/\B.output=w.output/\B.tape=w.tape/\B.drawn=w.drawn:=by subst J;exact⟨rfl,rfl,rfl,rfl⟩
 have aF:∀a,(Instr.sliceAt A (.pointer (some a)) none none none).run P B=.ok (.slice (some (if n=0 then a else a.add 0)) n n) B:=by
  intro a;unfold Instr.sliceAt;simp[VE.dc hA,Instr.sureAddr,Instr.sliceBounds,te.gK]
 have aG:(if n=0 then ⟨w.heap.size+1,0,none⟩else(⟨w.heap.size+1,0,none⟩:Addr).add 0)=⟨w.heap.size+1,0,none⟩:=by split <;> rfl
 obtain⟨ap,U⟩:=NB (P:=P) al ao n;have aq:∀(vs:List Value) c,(∀v∈vs,∃k,v=.int c k)->∀v∈vs,v.oneCell'=true:=λvs c h v hv=>by obtain⟨k,rfl⟩:=h v hv;rfl
 obtain⟨W,ad,ar⟩:=nj  (o:=0) ((l.take n).map (Value.int .i64)) 0 B z.cells aE (aq _ .i64 (by intro v hv;obtain⟨k,_,rfl⟩:=List.mem_map.1 hv;exact⟨k,rfl⟩)) (by simp[Q];omega)
 generalize L:eT B (w.heap.size+1) (.cells W A)=D at ad;have ai:(Builtin.copy_ #[S,S] t6 #[.slice (some ⟨w.heap.size+1,0,none⟩) n n,v]).run P B=.ok (goInt (Nat.min l.length n)) D:=by
  unfold Builtin.copy_;simp[VE.dc hS,te.gK,ap,U];rw[<-List.map_take,ad];rfl
 have au:∀ρ:Operand->Value,ρ (.tmp 4)=.slice (some ⟨w.heap.size+1,0,none⟩) n n->ρ (.tmp 5)=v ->
  (execOp ρ ⟨some 6,.call { callee:=.builtin .copy,args:=#[.tmp 4,.tmp 5],argTypes:=#[S,S] },t6,p5,e5,none⟩).run P B=.ok (.value (goInt (Nat.min l.length n))) D:=by
  intro ρ h4 h5;simp only[execOp,Go.resolve,Sem.run_bind,Sem.run_pure,Result.andThen_ok,invoke,builtin];have:#[Operand.tmp 4,Operand.tmp 5].map ρ=#[.slice (some ⟨w.heap.size+1,0,none⟩) n n,v]:=by simp[h4,h5]
  rw[this,ai];rfl
 have T:W.toList=(lY n l).map (Value.int .i64):=by
  rw[ar];simp[lY,aC];omega
 have t:W.size=n:=by have:=congrArg List.length ar;simp[Q]at this;omega
 have av:D.heap[w.heap.size+1]? = some (.cells W A):=by subst L;exact fH _ (by omega)
 have aw:D.heap[w.heap.size]? = some (.cells z.cells A):=by subst L;rw[eB _ (by omega)];exact aD
 have aj:(Instr.loadAt A (.pointer (some ⟨w.heap.size+1,0,none⟩))).run P D=.ok (.agg W) D:=by
  unfold Instr.loadAt loadVar;have:=tJ (P:=P)   (o:=0) (m:=n)  (oQ av) (.inl (by omega))
  have e:((W.toList.drop 0).take n).toArray=W:=by rw[List.drop_zero,List.take_of_length_le (by simp[t])]
  rw[e]at this;have ha:(isAgg A).run P D=.ok true D:=tA.AK;simp[Instr.sureAddr,ha,tA.gK,this]
 obtain⟨O,ae,aH⟩:=nj (P:=P) (o:=0) W.toList 0 D z.cells aw (aq _ .i64 (by rw[T];intro v hv;obtain⟨k,_,rfl⟩:=List.mem_map.1 hv;exact⟨k,rfl⟩)) (by simp[Q,t])
 have ax:O=W:=by
  apply Array.toList_inj.1;rw[aH];simp[t,Q]
 subst ax;generalize X:eT D w.heap.size (.cells O A)=G at ae;have Y:(Instr.storeAt A (.pointer (some ⟨w.heap.size,0,none⟩)) (.agg O)).run P D=.ok () G:=by
  unfold Instr.storeAt storeVar;simp[Instr.sureAddr,tA.gK,Value.cells,t,ae]
 have ay:G.heap[w.heap.size]? = some (.cells O A):=by subst X;exact fH _ (by subst L;simp[qi];omega)
 refine callsIn_of_wp_marks hf hb trivial ?_;rw[aA];have e0:[v].toArray++Array.replicate (8-[v].toArray.size) undef=#[v,undef,undef,undef,undef,undef,undef,undef]:=rfl;refine wpIn_seq (QZ rfl (vX (by simp) (dx (C w)) ?_))
 refine wpIn_seq (QZ rfl (vX (by simp) (dx (C _)) ?_))
 rw[J,ab];show Code.wpIn _ _ _ _ _ { tmps:=#[v,undef,.pointer (some ⟨w.heap.size,0,none⟩),.pointer (some ⟨w.heap.size+1,0,none⟩),undef,undef,undef,undef],defers:=[] } B;refine wpIn_seq (TJ rfl rfl rfl (vX (by simp) (dx (aF _)) ?_))
 rw[aG];refine vX (by simp)  rfl ?_
 refine vX (by simp) (au _ rfl rfl) ?_
 refine wpIn_seq (TP rfl rfl (vX (by simp) (dx aj) ?_))
 show Oper.wpIn _ _ _ _ { tmps:=#[v,undef,.pointer (some ⟨w.heap.size,0,none⟩),.pointer (some ⟨w.heap.size+1,0,none⟩),.slice (some ⟨w.heap.size+1,0,none⟩) n n,v,goInt (Nat.min l.length n),.agg O],defers:=[] } D _ _;refine RN (by simp) (w':=G) ?_ ?_
 .show (do Instr.storeAt A (.pointer (some ⟨w.heap.size,0,none⟩)) (.agg O);pure Next.skip).run P D=_
  simp[Y]
 show Code.wpIn _ _ _ _ _ { tmps:=#[v,undef,.pointer (some ⟨w.heap.size,0,none⟩),.pointer (some ⟨w.heap.size+1,0,none⟩),.slice (some ⟨w.heap.size+1,0,none⟩) n n,v,goInt (Nat.min l.length n),.agg O],defers:=[] } G;refine wpIn_ret ?_;have aI:∀b,b<w.heap.size->D.heap[b]? = w.heap[b]? := by
  intro b hb;subst L;rw[eB _ (by omega),ao b hb]
 have ak:∀b,b<w.heap.size->G.heap[b]? = w.heap[b]? := by
  intro b hb;subst X;rw[eB _ (by omega),aI b hb]
 have aJ:w.heap.size<=G.heap.size:=by subst X;subst L;simp[qi,an]
 have Z:G.os=w.os/\G.output=w.output/\G.tape=w.tape/\G.drawn=w.drawn:=by subst X;subst L;exact ah
 have aa:(loadVar A ⟨w.heap.size,0,none⟩).run P G=.ok (.agg O) G:=by
  unfold loadVar;have:=tJ (P:=P)   (o:=0) (m:=n)  (oQ ay) (.inl (by omega))
  have e:((O.toList.drop 0).take n).toArray=O:=by rw[List.drop_zero,List.take_of_length_le (by simp[t])]
  rw[e]at this;have ha:(isAgg A).run P G=.ok true G:=tA.AK;simp[ha,tA.gK,this]
 refine⟨.agg O,?_,.agg O,I,μ,rfl,.c _ _ (.agg _ _ ?_ ?_),s.kept ak,Step.kept ak aJ Z.1 ⟨Z.2.1,Z.2.2.1,by rw[Z.2.2.2];exact Nat.le_refl _⟩ ?_⟩
 .simp[results,hr,asAddr,aa]
 .have:=congrArg List.length T;simpa [wG]using this.symm
 .intro j x y hx hy;have h1:O.toList[j]? = some y:=by simpa using hy
  rw[T]at h1;simp only[wG,List.getElem?_map]at hx h1
  cases hp:(lY n l)[j]? with
  | none=>rw[hp]at hx;cases hx
  | some k=>rw[hp]at hx h1;cases hx;cases h1;exact .int _ _
 .intro a ha h;unfold World.frozen? at h ⊢;rw[ak _ ha];exact h
end
end Go.VE
namespace Go.VE
variable [bN]
variable {P:Program}
theorem EP (a:List Int) (j:Nat):(ic a)[j]? = (a[j]?).map (Value.int .i64):=by simp[ic]
theorem Dc {i:TypeId} {a b:List Int} {n:Nat} (G:a.length=n) (J:b.length=n) (D:rC P i=some ⟨1,8,[.int .i64 0],.int .i64⟩) (B:P.underlying i=some (.int .i64)) (d:Nat) (w:World) :
 ∀(m k:Nat),k+m=n->(Op.eqItems (d+1) i 1 (ic a) (ic b) (List.range' k m)).run P w=.ok (a.drop k==b.drop k) w
 | 0,k,h=>by
  have h1:a.drop k=[]:=List.drop_eq_nil_of_le (by omega)
  have C:b.drop k=[]:=List.drop_eq_nil_of_le (by omega)
  simp[Op.eqItems,h1,C]
 | m+1,k,h=>by
  have t:k<a.length:=by omega
  have u:k<b.length:=by omega
  have pa:(part i (ic a) (k*1)).run P w=.ok (.int .i64 a[k]) w:=qa D (by rw[EP,Nat.mul_one];simp[t])
  have I:(part i (ic b) (k*1)).run P w=.ok (.int .i64 b[k]) w:=qa D (by rw[EP,Nat.mul_one];simp[u])
  have q:(Op.equalIn (d+1) i (.int .i64 a[k]) (.int .i64 b[k])).run P w=.ok (a[k]==b[k]) w:=zx d _ _ B;have L:=Dc G J D B d w m (k+1) (by omega)
  have z:=List.drop_eq_getElem_cons t;have A:=List.drop_eq_getElem_cons u;simp only[List.range'_succ,Op.eqItems,Sem.run_bind,pa,I,q,Result.andThen_ok]
  by_cases e:a[k]=b[k]
  .rw[z,A,List.cons_beq_cons,e];simp only[beq_self_eq_true,Bool.not_true,Bool.true_and,if_false,Bool.false_eq_true];exact L
  .have:(a[k]==b[k])=false:=by simpa using e
   rw[z,A,List.cons_beq_cons,this];simp only[Bool.not_false,if_true,Bool.false_and,Sem.run_pure]
theorem E3 {i:TypeId} {a:List Int} {n:Nat} (e:Bool) (J:a.length=n) (D:rC P i=some ⟨1,8,[.int .i64 0],.int .i64⟩) (B:P.underlying i=some (.int .i64)) (d:Nat) (w:World) :
 ∀(m k:Nat),k+m=n->(forIn (List.range' k m) PUnit.unit (λj (_:PUnit)=>do
  let s <-sizeOf i
  let v <-part i (ic a) (j*s)
  Instr.checkKey e (d+1) i v
  pure (ForInStep.yield PUnit.unit)):Sem PUnit).run P w=.ok PUnit.unit w
 | 0,k,h=>by simp
 | m+1,k,h=>by
  have G:k<a.length:=by omega
  have pa:(part i (ic a) (k*1)).run P w=.ok (.int .i64 a[k]) w:=qa D (by rw[EP,Nat.mul_one];simp[G])
  have u:(sizeOf i).run P w=.ok 1 w:=(mZ.AS D).gK;have q:(Instr.checkKey e (d+1) i (.int .i64 a[k])).run P w=.ok () w:=yb d e _ B;have t:=E3 e J D B d w m (k+1) (by omega)
  simp only[List.range'_succ,List.forIn_cons,Sem.run_bind,u,pa,q,Result.andThen_ok,Sem.run_pure]at t ⊢;exact t
theorem rM.arr {t i:TypeId} {n:Nat} (hu:P.underlying t=some (.array n i)) (O:rC P i=some ⟨1,8,[.int .i64 0],.int .i64⟩) (G:P.underlying i=some (.int .i64)) (U:P.eqGuardType P.depth t=false):rM P t n:=by
 obtain⟨Q,z,A,L,_⟩:=(mZ.AS O).info;have B:P.cellsOf i=1:=by unfold Program.cellsOf;simp[A,L]
 have C:∀(w:World) (a b:List Int),a.length=n->b.length=n->(Op.equal t (.agg (ic a)) (.agg (ic b))).run P w=.ok (a==b) w:=by
  intro w a b D I;show (Op.equalIn (9999+1) t _ _).run P w=_;rw[run_equalIn_array w 9999 _ _ hu A,B,List.range_eq_range'];simpa using Dc D I O G 9998 w n 0 (by omega)
 have J:∀(op:BinOp) (p q:Operand) (w:World) (u v:Array Value),(eqGuard op t p q (.agg u) (.agg v)).run P w=.ok () w:=by
  intro op p q w u v;unfold eqGuard;cases op <;> simp[Sem.run_bind,run_program,Result.andThen,U]
 refine⟨?_,?_,C,?_,⟨_,hu,.inl ⟨_,_,rfl⟩⟩⟩
 .intro w p q a b D I;rw[Sem.run_bind,J,Result.andThen_ok];show (do pure (Value.bool (<-Op.equal t (.agg (ic a)) (.agg (ic b)))):Sem Value).run P w=_
  rw[Sem.run_bind,C _ _ _ D I];rfl
 .intro w p q a b D I;rw[Sem.run_bind,J,Result.andThen_ok];show (do pure (Value.bool (!(<-Op.equal t (.agg (ic a)) (.agg (ic b))))):Sem Value).run P w=_
  rw[Sem.run_bind,C _ _ _ D I];rfl
 .intro w e a D;show (Instr.checkKey e (9999+1) t _).run P w=_;unfold Instr.checkKey;simp only[Sem.run_bind,dc hu,Result.andThen_ok];have:=E3 e D O G 9998 w n 0 (by omega)
  simp only[Std.Legacy.Range.forIn_eq_forIn_range',Std.Legacy.Range.size,Nat.sub_zero,Nat.add_one_sub_one,Nat.div_one];rw[show (9998+1:Nat)=9999 from rfl]at this;rw[this];rfl
end Go.VE
namespace Go.VE
variable [bN]
structure CR (E:Env) (c c':c7):Prop where
 lv:c.lv<=c'.lv
 K2:∀f args H y,E.keep f=false->bU c f args H=some y->bU c' f args H=some y
 dir:∀f args H r,E.keep f=true->c (.fn f) args H=some r->c' (.fn f) args H=some r
 yld:∀id args H r,c (.yld id) args H=some r->c' (.yld id) args H=some r
 rng:∀f args H r,H≠[]->c (.fn f) args H=some r->c' (.fn f) args H=some r
section
variable {E:Env} {c c':c7} {n:Nat} {ops:List Oper} {F F':Frame} {H H':bf}
theorem GJ (h:CR E c c') {f:FuncId} {args:List V} {r:V×bf} (hk:E.keep f=true) (B:jx c f args H=some r):jx c' f args H=some r:=AU h.lv (λ_ _ _=>h.dir _ _ _ _ hk) B
theorem zO (h:CR E c c') {f:FuncId} {args:List V} {r:V×bf} (hk:E.keep f=true) (B:eH E c f args H=some r):eH E c' f args H=some r:=by
 unfold eH at B ⊢;split
 .rename_i t;rw[if_pos t]at B;exact GJ h hk B
 .rename_i t;rw[if_neg t]at B;exact h.dir _ _ _ _ hk B
theorem zz {place:Option (Nat×Nat)} {f:FuncId} (h:jN E ops place f=true):E.keep f=true:=by
 unfold jN at h;grind
theorem CR.any (h:CR E c c') {f:FuncId} {args:List V} {H:bf} {y:V} (B:bU c f args H=some y):bU c' f args H=some y:=by
 cases hk:E.keep f with
 | false=>exact h.K2 _ _ _ _ hk B
 | true=>exact Bg h.lv (λ_ _ _=>h.dir _ _ _ _ hk) B
theorem NF (h:CR E c c') {place:Option (Nat×Nat)} {op:Op} {r:V×bf} (B:c6 E c ops place F H op=some r):c6 E c' ops place F H op=some r:=by
 unfold c6 at B ⊢;split at B
 .omega
 .omega
 .omega
 .omega
 .split at B
  .rename_i f args z;split at B
   .rename_i hk;rw[if_pos hk];split at B
    .exact zO h (zz hk) B
    .split at B
     .rename_i w;rw[if_pos w];exact zO h (zz hk) B
     grind
   .rename_i hk;rw[if_neg hk];split at B
    .split at B
     .rename_i y t;rw[h.any t,kX h.lv t];exact B
     grind
    .rename_i b i;split at B
     .rename_i y t;rw[h.any t,kX h.lv t];exact B
     .rename_i u;split at B
      .rename_i w;split at B
       .rename_i y t
        cases A:bU c' f args (List.take b H)with
        | some C=>exact(xR h.lv u t A).elim
        | none=>simp only[if_pos w,h.any t,kX h.lv t];exact B
       grind
      grind
  .split at B
   .exact h.yld _ _ _ _ B
   .split at B
    .rename_i w;rw[if_pos w];exact h.yld _ _ _ _ B
    grind
  grind
theorem Dw (h:CR E c c') {place:Option (Nat×Nat)} {o:Oper} {r:Frame×bf} (B:fI E c n ops place o F H=some r):fI E c' n ops place o F H=some r:=by
 unfold fI at B ⊢;split at B
 .rename_i t;rw[if_pos t];split at B
  .rename_i v H1 u;rw[NF h u];omega
  grind
 grind
theorem BF (h:CR E c c') {r:Frame×bf}:∀(l:List Oper) {F:Frame} {H:bf},kN E c n ops l F H=some r->kN E c' n ops l F H=some r
 | [],_,_,B=>B
 | o::l,F,H,B=>by
  simp[kN]at B ⊢;split at B
  .rename_i F1 H1 D;rw[Dw h D];exact BF h l B
  grind
theorem Bo (h:CR E c c') {base:Nat} {r:Frame×bf}:∀(l:List Nat) {F:Frame} {H:bf},iW E c n ops base l F H=some r->iW E c' n ops base l F H=some r
 | [],_,_,B=>B
 | i::l,F,H,B=>by
  simp[iW]at B ⊢;split at B
  .split at B
   .rename_i F1 H1 D;rw[Dw h D];exact Bo h l B
   grind
  grind
theorem DM (h:CR E c c') {B:Bool} {r:Frame×bf} (D:iL E c n ops B F H=some r):iL E c' n ops B F H=some r:=by
 unfold iL at D ⊢;split
 .rename_i t;rw[if_pos t]at D;split at D
  .rename_i u;rw[if_pos u];exact Bo h _ D
  grind
 .rename_i t;rw[if_neg t]at D;exact BF h _ D
theorem AE (h:CR E c c') {lf B:Nat} (D:lf<=B) (ro:Bool) (nt:Nat):∀(code:Code) {F:Frame} {H:bf} {r:Out×Frame×bf},exec E c lf ro nt code F H=some r->exec E c' B ro nt code F H=some r:=by
 intro code
 induction code with
 | skip=>intro F H r t;exact t
 | label l=>intro F H r t;exact t
 | region id ops A=>
  intro F H r t;simp only[exec,ζf]at t ⊢;obtain⟨x,G,rfl⟩:=t;exact⟨x,DM h G,rfl⟩
 | seq a b u z=>
  intro F H r t;simp[exec]at t ⊢
  grind
 | cond x a b u z=>
  intro F H r t;simp[exec]at t ⊢
  grind
 | block id a C=>
  intro F H r t;simp[exec]at t ⊢
  grind
 | loop a C=>
  intro F H r t;exact wo (λF H r hr=>C hr) lf B D t
 | rangeFunc g ps J L _ _=>
  intro F H r t;simp[exec]at t ⊢;split at t
  .split at t
   .rename_i I H1 hc;rw[h.rng _ _ _ _ (by simp) hc];omega
   grind
  grind
 | exit id=>intro F H r t;exact t
 | ret=>intro F H r t;exact t
 | scope a _=>intro F H r t;simp[exec]at t
 | goto l=>intro F H r t;simp[exec]at t
 | refuse w=>intro F H r t;simp[exec]at t
theorem xJ (h:CR E c c') {n m:Nat} (D:n<=m) {x:Callee} {a:List V} {r:V×bf} (B:iR E c n x a H=some r):iR E c' m x a H=some r:=by
 cases x with
 | fn f=>
  rw[iR]at B ⊢;split at B
  .split at B
   .rename_i C;split at B
    .simp_all
    .rename_i o F1 H1 G I;rw[AE h D _ _ _ I]
     grind
    grind
   grind
  .split at B
   .rename_i J;rw[if_pos J];exact A6 h.lv (λg args y hk L=>h.K2 _ _ _ _ hk L) B
   grind
 | yld id=>
  rw[iR]at B ⊢;split at B
  .split at B
   .split at B
    .rename_i t;split at B
     .rename_i O H2 w;split at B
      .rename_i r2 z;split at B
       .rename_i u;split at B
        .rename_i o Q S A;simp only[if_pos t,AE h D _ _ _ w,z,u,AE h D _ _ _ A];omega
        grind
       grind
      grind
     grind
    grind
   grind
  grind
mutual
def V.same:Nat->V->V->Bool
 | 0,_,_=>false
 | _+1,.bool a,.bool b=>a==b
 | _+1,.int k a,.int l b=>decide (k=l)&&decide (a=b)
 | _+1,.str a,.str b=>decide (a.data.toList=b.data.toList)
 | _+1,.bB,.bB=>true
 | _+1,.dg,.dg=>true
 | _+1,.gx,.gx=>true
 | _+1,.fB,.fB=>true
 | _+1,.qB,.qB=>true
 | n+1,.agg a,.agg b=>V.oa n a b
 | n+1,.tup a,.tup b=>V.oa n a b
 | n+1,.fptr a,.fptr b=>V.oa n a b
 | n+1,.fsl e a,.fsl B b=>Nat.beq e B&&V.ye n a b
 | n+1,.clo f a b,.clo D a' G=>Nat.beq f D&&V.oa n a a'&&V.oa n b G
 | _+1,_,_=>false
def V.oa:Nat->List V->List V->Bool
 | 0,_,_=>false
 | _+1,[],[]=>true
 | n+1,a::r,b::s=>V.same n a b&&V.oa n r s
 | _+1,_,_=>false
def V.ye:Nat->List (List V)->List (List V)->Bool
 | 0,_,_=>false
 | _+1,[],[]=>true
 | n+1,a::r,b::s=>V.oa n a b&&V.ye n r s
 | _+1,_,_=>false
end
theorem OX:∀n,(∀a b,V.same n a b=true->a=b)/\(∀a b,V.oa n a b=true->a=b)/\(∀a b,V.ye n a b=true->a=b):=by
 intro n
 induction n with
 | zero=>exact⟨λa b h=>by simp[V.same]at h,λa b h=>by simp[V.oa]at h,λa b h=>by simp[V.ye]at h⟩
 | succ n t=>
  obtain⟨i1,i2,i3⟩:=t;refine⟨λa b h=>?_,λa b h=>?_,λa b h=>?_⟩
  .cases a <;> cases b <;> simp only[V.same,ζh,decide_eq_true_eq,Bool.false_eq_true]at h <;> first|rfl|grind|skip
   all_goals first
    | grind
    | grind
    | grind
    | (rw[Nat.eq_of_beq_eq_true h.1,i3 _ _ h.2])
    | (rw[Nat.eq_of_beq_eq_true h.1.1,i2 _ _ h.1.2,i2 _ _ h.2])
    | (congr 1;exact ByteArray.ext (Array.ext' h))
  .cases a <;> cases b <;> simp[V.oa]at h <;> first|rfl|grind|grind
  .cases a <;> cases b <;> simp[V.ye]at h <;> first|rfl|grind|grind
structure gB where
 f:FuncId
 az:List V
 y:V
def wA:List gB->FuncId->List V->Option V
 | [],_,_=>none
 | k::r,f,az=>bif Nat.beq k.f f&&V.oa 1000 k.az az then some k.y else wA r f az
theorem zX:∀{l:List gB} {f:FuncId} {az:List V} {y:V},wA l f az=some y->∃k∈l,k.f=f/\k.az=az/\k.y=y
 | [],_,_,_,h=>by simp[wA]at h
 | k::r,f,az,y,h=>by
  unfold wA at h
  cases B:Nat.beq k.f f&&V.oa 1000 k.az az with
  | true=>
   simp only[ζh]at B;exact⟨k,List.mem_cons_self ..,Nat.eq_of_beq_eq_true B.1,(OX 1000).2.1 _ _ B.2,by grind⟩
  | false=>
   rw[B]at h;obtain⟨q,h1,D⟩:=zX h
   grind
def DU (E:Env) (l:List gB) (c:c7) (n:Nat):Callee->List V->bf->Option (V×bf)
 | .fn f,az,[]=>match wA l f az with
  | some y=>some (y,[])
  | none=>iR E c n (.fn f) az []
 | x,az,H=>iR E c n x az H
def runM (E:Env) (l:List gB):Nat->c7
 | 0=>⟨0,λ_ _ _=>none⟩
 | n+1=>⟨n+1,DU E l (runM E l n) n⟩
theorem O5 (E:Env) (l:List gB):∀n,(runM E l n).lv=n
 | 0=>rfl
 | _+1=>rfl
theorem JK {l:List gB} {n:Nat} {x:Callee} {a:List V} {H:bf}:runM E l (n+1) x a H=DU E l (runM E l n) n x a H:=rfl
def tI (E:Env) (n:Nat) (k:gB):Prop:=∃r H1,run E n (.fn k.f) k.az []=some (r,H1)/\borrow n H1 r=some k.y
structure jt (E:Env) (k:gB):Prop where
 keep:E.keep k.f=false
 cl:k.y.closed=true
 at_:∃n,tI E n k
theorem tI.le {n m:Nat} {k:gB} (h:tI E n k) (B:n<=m):tI E m k:=by
 obtain⟨r,H1,h1,t⟩:=h;exact⟨r,H1,(mb E B).go _ _ _ _ h1,qE B t⟩
theorem xS:∀{l:List gB},(∀k∈l,jt E k)->∃N,∀k∈l,tI E N k
 | [],_=>⟨0,by simp⟩
 | k::r,h=>by
  obtain⟨N,B⟩:=xS (λq hq=>h q (List.mem_cons_of_mem _ hq))
  obtain⟨n,t⟩:=(h k (List.mem_cons_self ..)).at_;refine⟨max N n,λq hq=>?_⟩
  rcases List.mem_cons.1 hq with rfl|hq
  .exact t.le (Nat.le_max_right ..)
  .exact(B q hq).le (Nat.le_max_left ..)
theorem xP {l:List gB} {x:Callee} {az:List V} (h:H≠[]\/(∃id,x=.yld id)\/∃f,x=.fn f/\wA l f az=none):runM E l (n+1) x az H=iR E (runM E l n) n x az H:=by
 rcases h with h|⟨id,rfl⟩|⟨f,rfl,h⟩
 .cases x with
  | yld id=>rfl
  | fn f=>
   cases H with
   | nil=>exact absurd rfl h
   | cons a r=>rfl
 .rfl
 .cases H with
  | nil=>rw[JK,DU,h]
  | cons a r=>rfl
theorem GZ {l:List gB} {N:Nat} (B:∀k∈l,jt E k) (D:∀k∈l,tI E N k):∀n,CR E (runM E l n) (run E (N+n)):=by
 intro n
 induction n with
 | zero=>
  refine⟨Nat.zero_le _,λf args H y _ h=>?_,λf args H r _ h=>(by cases h),λid args H r h=>(by cases h),λf args H r _ h=>(by cases h)⟩
  unfold bU at h;split at h
  .cases h
  .cases h
 | succ n C=>
  have up:∀{x:Callee} {az:List V} {H:bf} {r:V×bf},iR E (runM E l n) n x az H=some r->run E (N+(n+1)) x az H=some r:=λh=>by
   rw[show N+(n+1)=(N+n)+1 from rfl,D1];exact xJ C (Nat.le_add_left ..) h
  have u:(runM E l (n+1)).lv<=(run E (N+(n+1))).lv:=by rw[O5,mc];exact Nat.le_add_left ..
  refine⟨u,λf args H y hk h=>?_,λf args H r hk h=>?_,λid args H r h=>?_,λf args H r z h=>?_⟩
  .unfold bU at h ⊢;split at h
   .rename_i az has;rw[qX u has];split at h
    .rename_i r H1 hc
     cases w:wA l f az with
     | none=>
      rw[xP (.inr (.inr ⟨f,rfl,w⟩))]at hc;simp only;rw[up hc];split at h
      .rename_i L G;simp only;rw[qE u G];exact h
      .cases h
     | some O=>
      rw[JK,DU,w]at hc;obtain⟨rfl,rfl⟩:=hc;obtain⟨k,t,rfl,rfl,rfl⟩:=zX w;have ok:=B k t;obtain⟨r1,H2,h1,I⟩:=(D k t).le (Nat.le_add_right N (n+1));rw[jo _ _ ok.cl]at h;simp only[h1,mc,I];exact h
    .cases h
   .cases h
  .by_cases w:H≠[]\/(∃id,(Callee.fn f)=.yld id)\/∃A,Callee.fn f=.fn A/\wA l A args=none
   .rw[xP w]at h;exact up h
   .cases J:wA l f args with
    | none=>grind
    | some y=>
     obtain⟨k,t,rfl,_,_⟩:=zX J;rw[(B k t).keep]at hk;cases hk
  .exact up h
  .rw[xP (.inl z)]at h;exact up h
def R2 (E:Env) (l:List gB) (n:Nat) (k:gB):Option V:=
 match iR E (runM E l n) n (.fn k.f) k.az []with
 | some (r,H1)=>borrow n H1 r
 | none=>none
theorem lP {l:List gB} (B:∀k∈l,jt E k) {k:gB} (h:(R2 E l n k,k.y.closed,E.keep k.f)=(some k.y,true,false)):jt E k:=by
 simp  at h;obtain⟨N,t⟩:=xS B;refine⟨h.2.2,h.2.1,N+n+1,?_⟩;have h1:=h.1;unfold R2 at h1;split at h1
 .rename_i r H1 u;refine⟨r,H1,?_,qE (by omega) h1⟩
  exact xJ (GZ B t n) (Nat.le_add_left ..) u
 grind
def N7 (E:Env) (l:List gB) (n:Nat) (f:FuncId) (az:List V):Bool:=
 match iR E (runM E l n) n (.fn f) az []with
 | some (.bool b,_)=>b
 | _=>false
theorem Il {l:List gB} (B:∀k∈l,jt E k) {f:FuncId} {az:List V} (h:N7 E l n f az=true):∃n H1,run E n (.fn f) az []=some (.bool true,H1):=by
 obtain⟨N,t⟩:=xS B;unfold N7 at h;split at h
 .rename_i b H1 u;subst h;exact⟨N+n+1,H1,(xJ (GZ B t n) (Nat.le_add_left ..) u)⟩
 simp_all
end
end Go.VE
