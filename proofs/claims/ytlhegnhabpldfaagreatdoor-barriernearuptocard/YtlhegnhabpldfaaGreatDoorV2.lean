/-
 The engine: operations of the loaded code on values without a heap; a run of it is a run of the program.
-/
import Derived.RangeFuncRecord
import Derived.Shelf.SlSortCmp.NoneTotal
import Derived.RangeFuncLeaves
import Derived.Laws.StructEq
import Derived.ChangeKeysEq
import Derived.Test.YtlhegnhabpldfaaGreatDoorV1
set_option linter.all false
namespace Go.VE
variable [bV]
def Out.Hl:Out->Exit
 | .norm=>.normal
 | .exit id=>.exit id
 | .ret=>.ret
theorem exists_least (p:Nat->Prop):∀k,p k->∃m,p m/\∀j,p j->m<=j:=by
 intro k
 induction k using Nat.strongRecOn with
 | _ k z=>
  intro hk
  by_cases h:∃j,j<k/\p j
  .obtain⟨j,B,u⟩:=h;exact z j B u
  exact⟨k,hk,λj u=>Nat.le_of_not_lt λw=>h ⟨j,w,u⟩⟩
open Classical in
noncomputable def least (p:Nat->Prop):Nat:=if h:∃m,p m/\∀j,p j->m<=j then h.choose else 0
theorem Ka (p:Nat->Prop) {k:Nat} (hk:p k):p (least p)/\least p<=k:=by
 have h:=exists_least p k hk;unfold least;rw[dif_pos h];exact⟨h.choose_spec.1,h.choose_spec.2 k hk⟩
section
variable {P:Program} {E:Env} {I I':cw} {μ μ':Mu} {H H':bl} {n B:Nat} {F F':Frame} {a:Act} {w w':World}
def Post (B n:Nat) (I:cw) (μ:Mu) (H:bl) (w:World) (o:Out) (F':Frame) (H':bl):Exit->Act->World->Prop:=
 λe u w'=>e=o.Hl/\(∃I' μ',eE I' μ' n F' u.tmps/\cU I' μ' H' w'/\Step I μ H w I' μ' H' w')/\jS B u.defers w'
theorem Post.mono {I1:cw} {D:Mu} {H1:bl} {G:World} {o:Out} (J:cU I1 D H1 G) (st:Step I μ H w I1 D H1 G) {e:Exit} {a':Act} {w':World} (h:Post B n I1 D H1 G o F' H' e a' w') :
 Post B n I μ H w o F' H' e a' w':=by
 obtain⟨h1,⟨I',μ',u,z,C⟩,L⟩:=h;exact⟨h1,⟨I',μ',u,z,Step.trans J st C⟩,L⟩
theorem cU.Ak (s:cU I μ H w) {b:Nat} (o:Obj) (B:I b=none) (D:¬g_ μ H b):cU I μ H (fF w b o) where
 dom:=s.dom
 imm:=λz x h=>IC.qZ (s.imm z x h) (eU o (by rintro rfl;rw[B]at h;cases h))
 obs:=λid ob h=>(s.obs id ob h).mono (cw.le_refl _) (Mu.le_refl _) (λp C G=>by
  have u:g_ μ H p.b:=⟨id,p,ob,h,G,C,rfl⟩;exact⟨eU o (λe=>D (e▸u)),fU s u⟩) (λJ=>by subst J;exact s.obs id _ h)
 inj:=s.inj
 gl:=s.gl
theorem SE (s:cU I μ H w) {b:Nat} {o:Obj} (h:w.heap[b]? = some o) (h1:∀c e f,o≠.cells c e f) (B:∀es c,o≠.map es c):I b=none:=by
 cases u:I b with
 | none=>rfl
 | some x=>
  have:=s.imm b x u
  cases x with
  | cells c=>obtain⟨_,_,q⟩:=this;rw[h]at q;cases q;exact absurd rfl (h1 _ _ _)
  | map es=>obtain⟨_,q⟩:=this;rw[h]at q;cases q;exact absurd rfl (B _ _)
theorem Step.kept (hk:∀b,b<w.heap.size->w'.heap[b]? = w.heap[b]?) (B:w.heap.size<=w'.heap.size) (h1:w'.os=w.os) (D:uF w w') (G:∀a:Addr,a.block<w.heap.size->w.frozen? a=false->w'.frozen? a=false):Step I μ H w I μ H w':=
 ⟨cw.le_refl _,Mu.le_refl _,Nat.le_refl _,B,λb u _=>hk b u,λ_ h=>h.elim .inl λh=>.inr (.inl h),h1,D,G⟩
theorem Step.after (st:Step I μ H w I' μ' H' w') {b:Nat} (o:Obj) (B:w.heap.size<=b) (D:Obj.nf o:=by first|exact tc _ _|exact qT rfl):Step I μ H w I' μ' H' (fF w' b o):=
 ⟨st.le,st.mu,st.len,by rw[qV];exact st.size,λz u C=>by rw[eU o Za];exact st.frame z u C,st.terr,st.os,⟨st.out.out,st.out.tape,st.out.dr⟩,λa B G=>T6 D a (st.fz a B G)⟩
theorem jS.Ak {ds:List Deferred} (h:jS B ds w) {b:Nat} {o:Obj} (D:∀r,w.heap[r]? = some (.deferred (some []))->r≠b):jS B ds (fF w b o):=
 ⟨λd z=>by
  obtain⟨r,h1,C,u⟩:=h.all d z;exact⟨r,h1,C,by rw[eU o (D r u)];exact u⟩,h.apart⟩
theorem Kg {step:Frame->bl->Option (Out×Frame×bl)} {c:Code} {ro:Option Nat} {o:Out}
 (D:∀I μ F H a w o F' H',step F H=some (o,F',H')->eE I μ n F a.tmps->cU I μ H w->jS B a.defers w->B<=w.heap.size->c.wpIn (fr ro) 0 P (Post B n I μ H w o F' H') a w)
 {k:Nat} (h:kr step k F H=some (o,F',H')) (r:eE I μ n F a.tmps) (s:cU I μ H w) (m:jS B a.defers w) (hB:B<=w.heap.size) :
 (Code.loop c).wpIn (fr ro) 0 P (Post B n I μ H w o F' H') a w:=by
 let Inv:Nat->Act->World->Prop:=λk u w'=>∃I1 J F1 H1,kr step k F1 H1=some (o,F',H')/\eE I1 J n F1 u.tmps/\cU I1 J H1 w'/\Step I μ H w I1 J H1 w'/\jS B u.defers w'/\B<=w'.heap.size
 let M:Act->World->Nat:=λu w'=>least (λk=>Inv k u w')
 have hM:∀k u w',Inv k u w'->Inv (M u w') u w'/\M u w'<=k:=λk u w' T=>Ka (λk=>Inv k u w') T
 refine wpIn_loop (λu w'=>∃k,Inv k u w') M ⟨k,I,μ,F,H,h,r,s,.refl _ _ _ _,m,hB⟩ ?_
 rintro a1 U ⟨k1,W⟩;obtain⟨T,_⟩:=hM k1 a1 U W;generalize hk:M a1 U=kk at T;obtain⟨I1,J,F1,H1,L,r1,O,C,m1,G⟩:=T
 cases kk with
 | zero=>simp[kr]at L
 | succ kk=>
  simp only[kr]at L;split at L
  next F2 H2 X=>refine wpIn_mono (D I1 J F1 H1 a1 U .norm F2 H2 X r1 O m1 G) ?_;rintro e Q S ⟨rfl,⟨I2,μ2,r2,s2,st2⟩,m2⟩;show (∃k,Inv k Q S)/\M Q S<kk+1;have z:Inv kk Q S:=⟨I2,μ2,F2,H2,L,r2,s2,Step.trans O C st2,m2,Nat.le_trans G st2.size⟩;exact⟨⟨kk,z⟩,Nat.lt_succ_of_le (hM kk Q S z).2⟩
  rename_i Y;refine wpIn_mono (D I1 J F1 H1 a1 U o F' H' L r1 O m1 G) ?_;intro e Q S hp;have Z:o≠.norm:=by
   rintro rfl;exact Y F' H' L
  obtain⟨rfl,h2,h3⟩:=hp
  cases o with
  | norm=>exact absurd rfl Z
  | exit id=>exact Post.mono O C ⟨rfl,h2,h3⟩
  | ret=>exact Post.mono O C ⟨rfl,h2,h3⟩
end
end Go.VE
namespace Go.VE
variable [bV]
section
variable {P:Program} {E:Env} {I I':cw} {μ μ':Mu} {H H':bl} {n B:Nat} {F F':Frame} {a:Act} {w w':World}
theorem Aa (s:cU I μ H w) {id:Nat} {r:uU} (h:H[id]? = some (.loop r)):∃p l,μ id=some p/\I p.b=none/\w.heap[p.b]? = some (.loop l)/\uR I μ r l:=s.obs id _ h
theorem G6 {p:Option Out} (B:p≠some .norm):(p.bind kL=none->p.getD .norm=.norm)/\(∀c,p.bind kL=some c->(c=.ret/\p.getD .norm=.ret)\/∃id,c=.exit id/\p.getD .norm=.exit id):=by
 cases p with
 | none=>grind
 | some o=>
  cases o with
  | norm=>grind
  | ret=>exact⟨by simp[kL],by simp[kL]⟩
  | exit id=>exact⟨by simp[kL],by simp[kL]⟩
theorem Ij {call:dx} (hc:kD P call) {g:Operand} {ps:Array Tmp} {assign body:Code} {o:Out} {lf:Nat}
 (h:exec E call lf false n (.rangeFunc g ps assign body) F H=some (o,F',H')) (r:eE I μ n F a.tmps) (s:cU I μ H w) (m:jS B a.defers w) (hB:B<=w.heap.size) :
 (Code.rangeFunc g ps assign body).wpIn (fr none) 0 P (Post B n I μ H w o F' H') a w:=by
 cases hg:ev F g with
 | none=>simp[exec,hg]at h
 | some gv=>
 cases gv with
 | clo f x y=>
  simp[exec,hg]at h;split at h
  .rename_i an H2 O;split at h
   .rename_i r2 G;have Y:r2.st≠.busy/\r2.pend.getD .norm=o/\F=F'/\H2.set H.length .dead=H':=by
     grind
    obtain⟨Y,rfl,rfl,rfl⟩:=Y;obtain⟨u,v,eg,hu,hv⟩:=(dy r hg).jT;refine wpIn_rangeFunc λC _=>?_
    have Z:∀b,b<w.heap.size->(w.alloc (.deferred (some []))).heap[b]? = w.heap[b]? := λb hb=>jw _ b hb
    have s1  := s.kept Z;have ae:Step I μ H w I μ H (w.alloc (.deferred (some []))):=Step.kept Z Zc rfl ⟨rfl,rfl,Nat.le_refl _⟩ (λa _=>Mm (qT rfl) a)
    have af:uR I μ ⟨.ready,none,F,n,ps.toList,assign,body⟩ { state:=.ready,pending:=none,fn:=C,tmps:=a.tmps,params:=ps,assign,body,defers:=w.heap.size }:=
     ⟨trivial,rfl,by simp,r,rfl,rfl,rfl⟩
    obtain⟨s2,st2⟩:=s1.push (ob:=.loop ⟨.ready,none,F,n,ps.toList,assign,body⟩)
     (o:=.loop { state:=.ready,pending:=none,fn:=C,tmps:=a.tmps,params:=ps,assign,body,defers:=w.heap.size }) (p:=⟨w.heap.size+1,0,0,0⟩) Zc
     ⟨_,_,Mu.gf _ _ _,by have:=s1.x_;simp_all,by have:=kI (w:=w.alloc (.deferred (some []))) (.loop { state:=.ready,pending:=none,fn:=C,tmps:=a.tmps,params:=ps,assign,body,defers:=w.heap.size });simp_all,
      af.mono (cw.le_refl _) (Mu.qv (s1.dom _ (Nat.le_refl _)))⟩
    have Q :=
     (hu.mono (cw.le_refl _) st2.mu).append (.cons (.yld H.length ⟨w.heap.size+1,0,0,0⟩ (Mu.gf _ _ _)) (hv.mono (cw.le_refl _) st2.mu))
    obtain⟨hf,J⟩:=hc.fn f _ _ _ _ O;refine⟨w.heap.size+1,[{ target:=.collected w.heap.size,args:=#[] }],((w.alloc (.deferred (some []))).alloc (.loop { state:=.ready,pending:=none,fn:=C,tmps:=a.tmps,params:=ps,assign,body,defers:=w.heap.size })),{ target:=.fn (.func f) v,args:=u++#[.func (.yield (w.heap.size+1)) #[] #[]] },((w.alloc (.deferred (some []))).alloc (.loop { state:=.ready,pending:=none,fn:=C,tmps:=a.tmps,params:=ps,assign,body,defers:=w.heap.size })),f,u++#[.func (.yield (w.heap.size+1)) #[] #[]]++v,((w.alloc (.deferred (some []))).alloc (.loop { state:=.ready,pending:=none,fn:=C,tmps:=a.tmps,params:=ps,assign,body,defers:=w.heap.size })),
     run_enterLoop_outer C a.tmps ps assign body,?_,λ_ _=>trivial,?_,λh=>by simp[fr]at h,?_⟩
    .simp[resolve];rw[eg];simp[Deferred.ofValue,Act.eval]
    .exact wh hf _
    have aa:=J _ _ _ _ s2 Q;have S:(u.toList++.func (.yield (w.heap.size+1)) #[] #[]::v.toList).toArray=u++#[.func (.yield (w.heap.size+1)) #[] #[]]++v:=by grind
    rw[S]at aa;refine aa.mono ?_;rintro e w3 ⟨am,I3,μ3,rfl,_,s3,T⟩;obtain⟨p,l,g1,g2,g3,g4⟩:=Aa s3 G;have hp:p=⟨w.heap.size+1,0,0,0⟩:=by
     have:=T.mu _ _ (Mu.gf μ H.length ⟨w.heap.size+1,0,0,0⟩)
     grind
    subst hp;have L:l.state≠.busy:=by
     intro he;have:=g4.st;rw[he]at this;cases ah:r2.st <;> rw[ah]at this <;> simp[AR.is]at this
     grind
    refine⟨l.pending,_,run_endLoop g3 L,?_⟩;obtain⟨s4,ai⟩:=s3.kill G;have U:¬g_ μ3 (H2.set H.length .dead) (w.heap.size+1):=by
     rintro⟨id,q,ob,h1,h2,W,h4⟩
     by_cases e:id=H.length
     .subst e;rw[List.getElem?_set_self (ζe.1 G).1]at h1;cases h1;simp[Ob.live]at h2
     rw[List.getElem?_set_ne (Ne.symm e)]at h1;exact e (s3.inj id H.length ob _ q _ h1 G h2 rfl W g1 h4)
    have s5:cU I3 μ3 (H2.set H.length .dead) (fF w3 (w.heap.size+1) (.loop { l with state:=.exhausted })):=s4.Ak _ g2 U;have st  := Step.trans s1 ae (Step.trans s2 st2 (Step.trans s3 T ai));have aj:Step I μ H w I3 μ3 (H2.set H.length .dead) (fF w3 (w.heap.size+1) (.loop { l with state:=.exhausted })):=st.after _ Za
    have m2:jS B ({ target:=.collected w.heap.size,args:=#[] }::a.defers) ((w.alloc (.deferred (some []))).alloc (.loop { state:=.ready,pending:=none,fn:=C,tmps:=a.tmps,params:=ps,assign,body,defers:=w.heap.size })):=by
     refine⟨?_,?_⟩
     .intro d hd;rcases List.mem_cons.1 hd with rfl|hd
      .refine⟨w.heap.size,rfl,hB,?_⟩;rw[jw _ _ Zc];exact kI _
      obtain⟨q,h1,h2,W⟩:=m.all d hd;have X:=(Array.getElem?_eq_some_iff.1 W).1;refine⟨q,h1,h2,?_⟩;rw[jw _ _ (by simp;omega),jw _ _ X];exact W
     refine List.Pairwise.cons ?_ m.apart;intro d hd q X ab;obtain⟨q2,h1,h2,W⟩:=m.all d hd;have:=(Array.getElem?_eq_some_iff.1 W).1;cases X;rw[h1]at ab;cases ab;omega
    have m3:=m2.step s2 T;have m5:jS B ({ target:=.collected w.heap.size,args:=#[] }::a.defers) (fF w3 (w.heap.size+1) (.loop { l with state:=.exhausted })):=
     m3.Ak (λq X e=>by subst e;rw[g3]at X;cases X)
    have ak  := st.le;have al  := st.mu;have z:∀D:Out,r2.pend.getD .norm=D->Post B n I μ H w D F (H2.set H.length .dead) D.Hl { a with defers:=[{ target:=.collected w.heap.size,args:=#[] }]++a.defers } (fF w3 (w.heap.size+1) (.loop { l with state:=.exhausted })):=
     λD _=>⟨rfl,⟨I3,μ3,r.mono ak al,s5,aj⟩,m5⟩
    obtain⟨W5,ad⟩:∃W5,w3.putObj (w.heap.size+1) (.loop { l with state:=.exhausted })=W5:=⟨_,rfl⟩;have z:∀D:Out,r2.pend.getD .norm=D->Post B n I μ H w D F (H2.set H.length .dead) D.Hl { a with defers:=[{ target:=.collected w.heap.size,args:=#[] }]++a.defers } W5:=by
     intro D ho;rw[<-ad];exact z D ho
    rw[ad];obtain⟨k1,k2⟩:=G6 g4.pendOk;rw[g4.pend]
    cases hj:r2.pend.bind kL with
    | none=>rw[k1 hj];exact z .norm (k1 hj)
    | some c=>
     rcases k2 c hj with⟨rfl,e⟩|⟨id,rfl,e⟩
     .rw[e];exact wpIn_ret (z .ret e)
     rw[e];exact wpIn_exit (z (.exit id) e)
   grind
  grind
 | _=>simp[exec,hg]at h
theorem ya (hE:eG P E) (hm:P.follows .mixedOrders=true) {call:dx} (hc:kD P call) (lf:Nat) (ro:Option Nat) (U:Bool) (aa:U=ro.isSome) (n:Nat) :
 ∀(c:Code) (I:cw) (μ:Mu) (F:Frame) (H:bl) (a:Act) (w:World) (o:Out) (F':Frame) (H':bl),exec E call lf U n c F H=some (o,F',H')->eE I μ n F a.tmps->cU I μ H w ->
  jS B a.defers w->B<=w.heap.size->c.wpIn (fr ro) 0 P (Post B n I μ H w o F' H') a w:=by
 intro c
 induction c with
 | skip=>
  intro I μ F H a w o F' H' h r s m _;obtain⟨rfl,rfl,rfl⟩:=h;exact wpIn_skip ⟨rfl,⟨I,μ,r,s,.refl _ _ _ _⟩,m⟩
 | label l=>
  intro I μ F H a w o F' H' h r s m _;obtain⟨rfl,rfl,rfl⟩:=h;exact wpIn_label ⟨rfl,⟨I,μ,r,s,.refl _ _ _ _⟩,m⟩
 | region id ops X=>
  intro I μ F H a w o F' H' h r s m _;simp only[exec,ζf]at h;obtain⟨⟨F2,H2⟩,h,rfl,rfl,rfl⟩:=h;refine Gc hE hm hc ro h r s (λa' I' μ' w' h1 z C Y=>⟨rfl,⟨I',μ',h1,C,Y⟩,?_⟩)
  rw[z];exact m.step s Y
 | seq x y D G=>
  intro I μ F H a w o F' H' h r s m u;simp[exec]at h;refine wpIn_seq ?_;split at h
  next F1 H1 h1=>refine wpIn_mono (D I μ F H a w _ F1 H1 h1 r s m u) ?_;rintro e a1 J ⟨rfl,⟨I1,μ1,r1,Z,L⟩,m1⟩;refine wpIn_mono (G I1 μ1 F1 H1 a1 J o F' H' h r1 Z m1 (Nat.le_trans u L.size)) ?_;intro e a2 w2 hp;exact Post.mono Z L hp
  refine wpIn_mono (D I μ F H a w o F' H' h r s m u) ?_;rintro e a1 J ⟨rfl,z,C⟩
  cases o with
  | norm=>grind
  | exit id=>exact⟨rfl,z,C⟩
  | ret=>exact⟨rfl,z,C⟩
 | cond c x y D G=>
  intro I μ F H a w o F' H' h r s m u;simp[exec]at h;split at h
  .rename_i t S;have T:=(dy r S).qR;refine wpIn_cond T ?_
   grind
  grind
 | block id c Q=>
  intro I μ F H a w o F' H' h r s m u;simp[exec]at h;refine wpIn_block ?_;split at h
  .rename_i O F1 H1 h1;refine wpIn_mono (Q I μ F H a w _ F1 H1 h1 r s m u) ?_;rintro e a1 J ⟨rfl,z,C⟩;show Exit.inBlock id _ (.exit O) a1 J;unfold Exit.inBlock;split at h
   next W=>obtain⟨rfl,rfl,rfl⟩:=h;simp[W];exact⟨rfl,z,C⟩
   rename_i W;obtain⟨rfl,rfl,rfl⟩:=h;simp[W];exact⟨rfl,z,C⟩
  refine wpIn_mono (Q I μ F H a w o F' H' h r s m u) ?_;rintro e a1 J ⟨rfl,z,C⟩
  cases o with
  | norm=>exact⟨rfl,z,C⟩
  | exit O=>grind
  | ret=>exact⟨rfl,z,C⟩
 | loop c Q=>
  intro I μ F H a w o F' H' h r s m u;exact Kg (λI μ F H a w o F' H' h r s m u=>Q I μ F H a w o F' H' h r s m u) h r s m u
 | rangeFunc g ps assign body _ _=>
  intro I μ F H a w o F' H' h r s m u
  cases U with
  | true=>simp[exec]at h
  | false=>
   cases ro with
   | none=>exact Ij hc h r s m u
   | some l=>simp_all
 | exit id=>
  intro I μ F H a w o F' H' h r s m _;obtain⟨rfl,rfl,rfl⟩:=h;exact wpIn_exit ⟨rfl,⟨I,μ,r,s,.refl _ _ _ _⟩,m⟩
 | ret=>
  intro I μ F H a w o F' H' h r s m _;obtain⟨rfl,rfl,rfl⟩:=h;exact wpIn_ret ⟨rfl,⟨I,μ,r,s,.refl _ _ _ _⟩,m⟩
 | scope body _=>intro I μ F H a w o F' H' h;simp[exec]at h
 | goto l=>intro I μ F H a w o F' H' h;simp[exec]at h
 | refuse ab=>intro I μ F H a w o F' H' h;simp[exec]at h
end
theorem rA {f g:V->Option V} (h:∀x y,f x=some y->g x=some y):∀{l:List V} {r:List V},hG f l=some r->hG g l=some r
 | [],_,hr=>hr
 | x::l,r,hr=>by
  simp only[hG]at hr ⊢;split at hr
  next y s h1 B=>rw[h _ _ h1,rA h B];exact hr
  cases hr
theorem Hr {f g:V->Option V} (h:∀x y,f x=some y->g x=some y):∀{l:List (List V)} {r:List (List V)},lp f l=some r->lp g l=some r
 | [],_,hr=>hr
 | x::l,r,hr=>by
  simp only[lp]at hr ⊢;split at hr
  next y s h1 B=>rw[rA h h1,Hr h B];exact hr
  cases hr
theorem GS {f g:V->Option V} (h:∀x y,f x=some y->g x=some y):∀{l:List (V×V)} {r:List (V×V)},lg f l=some r->lg g l=some r
 | [],_,hr=>hr
 | (k,x)::l,r,hr=>by
  simp only[lg]at hr ⊢;split at hr
  next y s u h1 B D=>rw[h _ _ h1,h _ _ B,GS h D];exact hr
  cases hr
theorem H6 {H:bl}:∀(n:Nat) (x y:V),borrow n H x=some y->borrow (n+1) H x=some y:=by
 intro n
 induction n with
 | zero=>
  intro x y h;simp only[borrow]at h;split at h
  next hc=>rw[jW _ _ hc];exact h
  cases h
 | succ n w=>
  intro x y h;unfold borrow at h ⊢;split
  next hc=>rw[if_pos hc]at h;exact h
  rename_i hc;rw[if_neg hc]at h
  cases x with
  | hsl id es off len=>
   simp only at h ⊢;split at h
   .split at h
    next q=>rw[if_pos q];obtain⟨r,h1,u⟩:=ζf.1 h;rw[Hr w h1];exact congrArg some u
    cases h
   cases h
  | hptr id el off=>
   simp only at h ⊢;split at h
   .split at h
    .split at h
     next q=>rw[if_pos q];obtain⟨r,h1,u⟩:=ζf.1 h;rw[rA w h1];exact congrArg some u
     cases h
    cases h
   cases h
  | hmap id=>
   simp only at h ⊢;split at h
   .obtain⟨r,h1,u⟩:=ζf.1 h;rw[GS w h1];exact congrArg some u
   cases h
  | clo f a b=>
   simp only at h ⊢;split at h
   next h1 u=>rw[rA w h1,rA w u];exact h
   cases h
  | agg z=>
   simp only at h ⊢;obtain⟨r,h1,u⟩:=ζf.1 h;rw[rA w h1];exact congrArg some u
  | tup z=>
   simp only at h ⊢;obtain⟨r,h1,u⟩:=ζf.1 h;rw[rA w h1];exact congrArg some u
  | _=>cases h
theorem rC {H:bl} {n m:Nat} (h:n<=m) {x y:V} (B:borrow n H x=some y):borrow m H x=some y:=by
 induction h with
 | refl=>exact B
 | step _ u=>exact H6 _ _ _ u
theorem sC {H:bl} {n m:Nat} (h:n<=m) {l r:List V} (B:borrows n H l=some r):borrows m H l=some r:=rA (λ_ _=>rC h) B
theorem Bk {f g:V->List Nat}:∀{l:List V},(∀x∈l,f x=g x)->cT f l=cT g l
 | [],_=>rfl
 | x::l,h=>by simp only[cT];rw[h x (List.mem_cons_self ..),Bk λy B=>h y (List.mem_cons_of_mem _ B)]
theorem o8 {f:V->Option V}:∀{l r:List V},hG f l=some r->∀x∈l,∃y,f x=some y
 | [],_,_,x,hx=>by cases hx
 | a::l,r,h,x,hx=>by
  simp only[hG]at h;split at h
  .rename_i y s h1 B;rcases List.mem_cons.1 hx with rfl|hx
   .exact⟨y,h1⟩
   exact o8 B x hx
  cases h
theorem EJ {f:V->Option V}:∀{l r:List (List V)},lp f l=some r->∀c∈l,∀x∈c,∃y,f x=some y
 | [],_,_,x,B=>by cases B
 | a::l,r,h,c,hc=>by
  simp only[lp]at h;split at h
  .rename_i y s h1 D;rcases List.mem_cons.1 hc with rfl|hc
   .exact o8 h1
   exact EJ D c hc
  cases h
theorem zh {f:V->Option V}:∀{l r:List (V×V)},lg f l=some r->∀c∈l,(∃y,f c.1=some y)/\∃y,f c.2=some y
 | [],_,_,x,B=>by cases B
 | (k,a)::l,r,h,c,hc=>by
  simp only[lg]at h;split at h
  .rename_i y s u h1 D G;rcases List.mem_cons.1 hc with rfl|hc
   .exact⟨⟨y,h1⟩,s,D⟩
   exact zh G c hc
  cases h
theorem KA {H:bl}:∀(n:Nat) (x y:V),borrow n H x=some y->cm (n+1) H x=cm n H x:=by
 intro n
 induction n with
 | zero=>
  intro x y h;simp only[borrow]at h;split at h
  next hc=>simp[cm,hc]
  cases h
 | succ n J=>
  intro x y h;have u:∀l:List V,(∀x∈l,∃y,borrow n H x=some y)->cT (cm (n+1) H) l=cT (cm n H) l:=λl L=>Bk λx w=>by
   obtain⟨y,O⟩:=L x w;exact J x y O
  unfold borrow at h;rw[cm.eq_def (n+1+1),cm.eq_def (n+1)];simp only;split
  .rfl
  rename_i hc;rw[if_neg hc]at h
  cases x with
  | hsl id es off len=>
   simp only at h ⊢
   cases hr:(H[id]?).bind Ob.rows with
   | none=>rfl
   | some q=>
    obtain⟨C,Q⟩:=q;rw[hr]at h;simp only at h ⊢;split at h
    .obtain⟨r,h1,z⟩:=ζf.1 h;rw[u _ λx w=>by
      obtain⟨c,hc,D⟩:=List.mem_flatten.1 w;exact EJ h1 c hc x D]
    cases h
  | hptr id el off=>
   simp only at h ⊢
   cases hr:(H[id]?).bind Ob.rows with
   | none=>rfl
   | some q=>
    obtain⟨C,Q⟩:=q;rw[hr]at h;simp only at h ⊢;split at h
    .rename_i I G;split at h
     .obtain⟨r,h1,z⟩:=ζf.1 h;rw[u _ λx w=>o8 h1 x (by rw[G]at w;exact w)]
     cases h
    cases h
  | hmap id=>
   simp only at h ⊢;split at h
   .rename_i B hk;obtain⟨r,h1,z⟩:=ζf.1 h
    skip
    rw[u (B.map (·.1)) λx w=>by obtain⟨c,hc,rfl⟩:=List.mem_map.1 w;exact(zh h1 c hc).1,
     u (B.map (·.2)) λx w=>by obtain⟨c,hc,rfl⟩:=List.mem_map.1 w;exact(zh h1 c hc).2]
   cases h
  | clo f a b=>
   simp only at h ⊢;split at h
   next h1 z=>rw[u _ (o8 h1),u _ (o8 z)]
   cases h
  | agg I=>
   simp only at h ⊢;obtain⟨r,h1,z⟩:=ζf.1 h;exact u _ (o8 h1)
  | tup I=>
   simp only at h ⊢;obtain⟨r,h1,z⟩:=ζf.1 h;exact u _ (o8 h1)
  | _=>rfl
theorem NO {H:bl} {n m:Nat} (h:n<=m) {x y:V} (B:borrow n H x=some y):cm m H x=cm n H x:=by
 induction h with
 | refl=>rfl
 | step h u=>rw[KA _ _ _ (rC h B),u]
theorem xT {H:bl} {n m:Nat} (h:n<=m) {l r:List V} (B:borrows n H l=some r):cT (cm m H) l=cT (cm n H) l:=
 Bk λx u=>by obtain⟨y,w⟩:=o8 B x u;exact NO h w
theorem nM {f g h:V->Option V} (k:∀x y z,f x=some y->g x=some z->h x=some z):∀{l r s:List V},hG f l=some r->hG g l=some s->hG h l=some s
 | [],_,_,_,B=>B
 | x::l,r,s,hr,B=>by
  simp only[hG]at hr B ⊢;split at hr
  .rename_i h1 D;split at B
   next G J=>rw[k _ _ _ h1 G,nM k D J];exact B
   cases B
  cases hr
theorem Cw {f g h:V->Option V} (k:∀x y z,f x=some y->g x=some z->h x=some z):∀{l r s:List (List V)},lp f l=some r->lp g l=some s->lp h l=some s
 | [],_,_,_,B=>B
 | x::l,r,s,hr,B=>by
  simp only[lp]at hr B ⊢;split at hr
  .rename_i h1 D;split at B
   next G J=>rw[nM k h1 G,Cw k D J];exact B
   cases B
  cases hr
theorem Ci {f g h:V->Option V} (k:∀x y z,f x=some y->g x=some z->h x=some z):∀{l r s:List (V×V)},lg f l=some r->lg g l=some s->lg h l=some s
 | [],_,_,_,B=>B
 | (a,x)::l,r,s,hr,B=>by
  simp only[lg]at hr B ⊢;split at hr
  .rename_i h1 D G;split at B
   next J O U=>rw[k _ _ _ h1 J,k _ _ _ D O,Ci k G U];exact B
   cases B
  cases hr
theorem Is {H H2:bl}:∀(n m:Nat) (x y z:V),borrow n H x=some y->borrow m H2 x=some z->(∀id:Nat,(H2[id]?).isSome=true->H2[id]? = H[id]?)->borrow n H2 x=some z:=by
 intro n
 induction n with
 | zero=>
  intro m x y z h k _;simp only[borrow]at h;split at h
  next hc=>rw[jW _ _ hc]at k ⊢;exact k
  cases h
 | succ n G=>
  intro m x y z h k w
  by_cases hc:x.closed=true
  .rw[jW _ _ hc]at k ⊢;exact k
  cases m with
  | zero=>simp only[borrow,if_neg hc]at k;cases k
  | succ m=>
   have u:∀x y z,borrow n H x=some y->borrow m H2 x=some z->borrow n H2 x=some z:=λx y z a b=>G m x y z a b w
   unfold borrow at h k ⊢;rw[if_neg hc]at h k ⊢;have row:∀id q,(H2[id]?).bind Ob.rows=some q->(H[id]?).bind Ob.rows=some q:=λid q B=>by
    rw[<-w id (by cases C:H2[id]? with|none=>rw[C]at B;cases B|some _=>rfl)];exact B
   cases x with
   | hsl id es off len=>
    simp only at h k ⊢;split at k
    .rename_i hr;rw[row _ _ hr]at h;simp only at h;split at k
     next q=>rw[if_pos q]at h ⊢;obtain⟨r,h1,_⟩:=ζf.1 h;obtain⟨s,k1,k2⟩:=ζf.1 k;rw[Cw u h1 k1];exact congrArg some k2
     cases k
    cases k
   | hptr id el off=>
    simp only at h k ⊢;split at k
    .rename_i hr;rw[row _ _ hr]at h;simp only at h;split at k
     .rename_i D;rw[D]at h;simp only at h;split at k
      next q=>rw[if_pos q]at h ⊢;obtain⟨r,h1,_⟩:=ζf.1 h;obtain⟨s,k1,k2⟩:=ζf.1 k;rw[nM u h1 k1];exact congrArg some k2
      cases k
     cases k
    cases k
   | hmap id=>
    simp only at h k ⊢;split at k
    .rename_i hr;rw[<-w id (by rw[hr];rfl),hr]at h
     simp only at h;obtain⟨r,h1,_⟩:=ζf.1 h;obtain⟨s,k1,k2⟩:=ζf.1 k;rw[Ci u h1 k1];exact congrArg some k2
    cases k
   | clo f a b=>
    simp only at h k ⊢;split at h
    .rename_i h1 C;split at k
     next k1 k2=>rw[nM u h1 k1,nM u C k2];exact k
     cases k
    cases h
   | agg I=>
    simp only at h k ⊢;obtain⟨r,h1,_⟩:=ζf.1 h;obtain⟨s,k1,k2⟩:=ζf.1 k;rw[nM u h1 k1];exact congrArg some k2
   | tup I=>
    simp only at h k ⊢;obtain⟨r,h1,_⟩:=ζf.1 h;obtain⟨s,k1,k2⟩:=ζf.1 k;rw[nM u h1 k1];exact congrArg some k2
   | _=>cases h
end Go.VE
namespace Go.VE
variable [bV]
open Go.Proofs Go.Sort
structure AD (P:Program) (f:FuncId):Prop where
 ok:yg P f
 zero:∀(p:Option Addr) (cap:Nat) (fv:Value) (w:World),Calls P f #[.slice p 0 cap,fv] w λe w'=>e=.returned (.tuple #[])/\w'=w
 all:∀{α:Type} [Inhabited α] (enc:α->Value) (_:OneCell enc) (cf:α->α->Int) (_:SWO (ltOf cf)) (g:Nat) (cb:Array Value) (blk off cap:Nat) (d:Array α) (w:World)
  (_:∀args w,(callFunc g args).run P w=.ok (.enter g args) w) (_:CmpLays1 P g cb enc cf blk off d.size w) (_:Holds enc w blk off d) (_:blk<w.heap.size) (_:d.size<4611686018427387904),
  Calls P f #[.slice (some ⟨blk,off,none⟩) d.size cap,.func (.func g) #[] cb] w λe w'=>
   e=.returned (.tuple #[])/\∃n os,w'=sortWorld enc w blk off n (pdq (ltOf cf) d 0 d.size (Lib.bitLen d.size) true true) os
theorem IQ {α:Type} [Inhabited α] (lt:α->α->Bool):∀(k i:Nat) (d:Array α),HI lt k i d=insOuter lt 0 (i+k) i d
 | 0,i,d=>by rw[insOuter];simp[HI]
 | k+1,i,d=>by
  rw[insOuter,HI,IQ lt k]
  grind
theorem BQ (n:Nat) (lt:Fin (n+1)->Fin (n+1)->Bool):qb n lt=pdq lt (List.finRange (n+1)).toArray 0 (n+1) (Lib.bitLen (n+1)) true true:=by
 unfold qb;split
 .rw[pdq,if_pos Za,insertionSort,IQ,Nat.add_comm 1 n]
 rfl
theorem pR {n:Nat} {t:Fin (n+1)->Fin (n+1)->Option Int} (h:Au t=true):(∀i j,∃c,t i j=some c)/\SWO (oS t):=by
 have u:∀(p:Fin (n+1)->Bool),(List.finRange (n+1)).all p=true->∀i,p i=true:=λp h i=>List.all_eq_true.1 h i (List.mem_finRange i)
 have h1:=λi=>u _ h i
 simp only[ζh,Bool.not_eq_true']at h1;have w:=λi j=>u _ (h1 i).2 j
 simp only[ζh]at w;have z:=λi j k=>u _ (w i j).2 k
 refine⟨λi j=>Option.isSome_iff_exists.1 (w i j).1,λi=>(h1 i).1,λi j k a b=>?_,λi j k a b=>?_⟩
 .have:=z i j k;grind
 grind
section
variable {P:Program} {I I':cw} {μ μ':Mu} {H H':bl} {w w':World}
theorem D_ (w:World) (os:Array Obj) (b:Nat) (h:b<w.heap.size):(grow w os).heap[b]? = w.heap[b]? := by
 unfold grow;grind
theorem Calls.fr {f:FuncId} {args:Array Value} {R:Ending->World->Prop} (h:Calls P f args w R):CallsIn (fr none) 0 P f args w R:=callsIn_wide.2 h
theorem CallsIn.un {f:FuncId} {args:Array Value} {R:Ending->World->Prop} (h:CallsIn (fr none) 0 P f args w R):Calls P f args w R:=callsIn_wide.1 h
theorem OF {p:Pl} {c:Array Value} {xs:List (List V)} (B:p.es=1) (D:c.size=p.sz) (hr:p.o+xs.length<=c.size)
 (h:∀(i:Nat) x,xs[i]? = some x->∃v u,x=[v]/\V.one v=true/\c[p.o+i]? = some u/\bJ I μ v u):fW I μ p c 1 xs:=by
 have hu:∀x∈xs,x.length=1:=λx w=>by
  obtain⟨i,C⟩:=List.getElem?_of_mem w
  grind
 have G:xs.flatten.length=xs.length:=by rw[fM hu,Nat.mul_one]
 refine⟨B,D,hu,λx w y J=>?_,by omega,⟨?_,λj a b h1 L=>?_⟩⟩
 .obtain⟨i,C⟩:=List.getElem?_of_mem w
  grind
 .grind
 have z:j<xs.length:=by have:=(ζe.1 h1).1;omega
 obtain⟨v,u,e,_,O,Q⟩:=h j xs[j] (by simp[z])
 have:=uX  hu (i:=j) (j:=0) (x:=xs[j])  (by simp[z]) (by rw[e];rfl)
 simp_all
theorem vm {p:Pl} {c:Array Value} {xs:List (List V)} (r:fW I μ p c 1 xs) (i:Nat) {x:List V} (h:xs[i]? = some x):∃v u,x=[v]/\V.one v=true/\c[p.o+i]? = some u/\bJ I μ v u:=by
 have w:=List.mem_of_getElem? h;obtain⟨v,rfl⟩:=List.length_eq_one_iff.1 (r.oW x w);have B:=(ζe.1 h).1;have z  := by have:=r.room;omega
 refine⟨v,c[p.o+i],rfl,r.one _ w v Zc,by simp_all,?_⟩
 exact r.idx  (j:=0) h rfl (by simp_all)
theorem Ss {α:Type} [Inhabited α] (enc:α->Value) (blk o m:Nat) (B:Array α) (os:Array Obj) {b:Nat} (G:b<w.heap.size) (D:b≠blk):(sortWorld enc w blk o m B os).heap[b]? = w.heap[b]? := by
 unfold sortWorld;rw[D_ _ _ _ (by simp_all)]
 simp[putRow,mapBlock,Sort.ahead,Array.getElem?_modify,if_neg (Ne.symm D)]
theorem Iq {α:Type} [Inhabited α] (enc:α->Value) {blk:Nat} (o m:Nat) (B:Array α) {c:Array Value} {el:TypeId} (h:w.heap[blk]? = some (.cells c el)) :
 putRow enc (Sort.ahead w m) blk o B=fF (Sort.ahead w m) blk (.cells (Sort.putCells enc o B c) el):=by
 unfold putRow mapBlock fF Sort.ahead
 congr 1
 obtain⟨z,e⟩:=Array.getElem?_eq_some_iff.1 h;apply Array.ext
 .simp
 intro i h1 C
 by_cases u:i=blk
 .subst u;simp[Array.getElem_modify,e,onCells]
 grind
theorem Step.grown (st:Step I (λ_=>none) [] w I' μ' H' w'):∃q os,w'=grow (w.drewN q) os:=by
 refine⟨w'.drawn-w.drawn,w'.heap.extract w.heap.size w'.heap.size,?_⟩;have z:w'.heap=w.heap++w'.heap.extract w.heap.size w'.heap.size:=by
  apply Array.ext_getElem?;intro i
  by_cases u:i<w.heap.size
  .rw[Array.getElem?_append_left u];exact st.frame i u (by rintro⟨id,p,ob,h,_⟩;simp at h)
  rw[Array.getElem?_append_right Za]
  simp[Array.getElem?_extract]
  by_cases D:i<w'.heap.size
  .rw[if_pos Za];congr 1;omega
  rw[if_neg Za,Array.getElem?_eq_none Za]
 have h1:=st.os;have B:=st.out.out;have C:=st.out.tape;have G:=st.out.dr;unfold grow World.drewN;cases w';simp only at *;subst h1 B C;simp[World.mk.injEq];exact⟨z,by omega⟩
theorem JQ {call B:dx} {g:FuncId} {G D:List V} {n:Nat} (h:∀args y,cg call g args []=some y->cg B g args []=some y) {i j:Fin (n+1)} {z:Int} (J:iR call g G D n i j=some z):iR B g G D n i j=some z:=by
 unfold iR at J ⊢
 grind
theorem C6 {keep:FuncId->Bool} {call B:dx} (G:call.lv<=B.lv) (h:∀g args y,keep g=false->cg call g args []=some y->cg B g args []=some y) {args:List V} {r:V×bl} (hr:p_ keep call args H=some r):p_ keep B args H=some r:=by
 unfold p_ at hr ⊢;split at hr
 .split at hr
  .omega
  .omega
  .split at hr
   .omega
   .split at hr
    .rename_i n g cb _ O S I;split at hr
     .rename_i u;split at hr
      .rename_i J w D C;rw[sC G D,sC G C];split at hr
       .rename_i Q;have e:iR B g J w n=iR call g J w n:=by
         funext i j
         obtain⟨z,L⟩:=(pR Q).1 i j;rw[L];exact JQ (λa y=>h g a y u.2.2.2.2) L
        grind
       simp_all
      simp_all
     simp_all
    simp_all
   simp_all
  simp_all
 simp_all
set_option maxHeartbeats 1000000 in
theorem RE {call:dx} (hc:kD P call) {f:FuncId} (hs:AD P f) {args:List V} {r:V} {keep:FuncId->Bool} (h:p_ keep call args H=some (r,H')) (s:cU I μ H w) {vs:List Value} (hv:cM I μ args vs) :
 CallsIn (fr none) 0 P f vs.toArray w (xe I μ H w r H'):=by
 unfold p_ at h;split at h
 .rename_i sv cv;obtain⟨v1,r1,rfl,ad,aD⟩:=hv.cons_inv;obtain⟨v2,r2,rfl,aE,aF⟩:=aD.cons_inv;obtain rfl:=aF.uT;have U:∀p cap,v1=.slice p 0 cap->CallsIn (fr none) 0 P f [v1,v2].toArray w (xe I μ H w .undef H):=by
   rintro p cap rfl;refine Calls.fr ((hs.zero p cap v2 w).mono ?_);rintro e w' ⟨rfl,rfl⟩;exact⟨_,I,μ,rfl,bJ.undef _ _,s,Step.refl _ _ _ _⟩
  split at h
  .cases h;exact U none 0 ad.lN
  .cases h;obtain⟨a,e⟩:=ad.rL;exact U a 0 e
  .rename_i id es off len;split at h
   .cases h;rcases ad.lR with⟨p,cap,_,_,_,_,e⟩|⟨_,a,e⟩
    .exact U _ cap e
    exact U _ 0 e
   .rename_i n g cb;split at h
    .rename_i aT Q L;split at h
     .rename_i al;obtain⟨rfl,rfl,aR,hn,_⟩:=al;split at h
      .rename_i Z D aG aq;split at h
       .rename_i ar;cases h;obtain⟨p,c,el,hp,hI,J,S⟩:=s.obs id _ L;rcases ad.lR with⟨q,cap,hq,aU,aS,aH,rfl⟩|⟨h0,_⟩
        .rw[hp]at hq;cases hq;obtain⟨va,vb,rfl,hva,au⟩:=aE.jT;have av:va=#[]:=by have:=hva.uT;simpa using this
         subst av;have am:=(ζe.1 L).1;obtain⟨sk,_⟩:=s.kill L;generalize hT:cT (cm call.lv (H.set id .dead)) (((Q.drop off).take (n+1)).flatten++cb)=T;have aI:plus I μ (H.set id .dead) w T p.b=none:=by
          cases B:plus I μ (H.set id .dead) w T p.b with
          | none=>rfl
          | some x=>
           exfalso;rcases yq (by rw[B];rfl)with h|⟨aw,p',ob,_,g1,g2,g3,g4⟩
           .rw[hI]at h;cases h
           have ax:aw≠id:=by
            rintro rfl;rw[List.getElem?_set_self am]at g1;cases g1;simp[Ob.live]at g2
           rw[List.getElem?_set_ne (Ne.symm ax)]at g1;exact ax (s.inj aw id ob (.row 1 Q) p' p g1 L g2 rfl g3 hp g4)
         let enc:Fin (n+1)->Value:=λi=>(c[p.o+off*1+i.1]?).getD undef
         have aa:∀i:Fin (n+1),∃v,Q[off+i.1]? = some [v]/\V.one v=true/\bJ I μ v (enc i)/\c[p.o+off*1+i.1]? = some (enc i):=λi=>by
          obtain⟨v,u,e1,e2,e3,e4⟩:=vm S (off+i.1) (x:=Q[off+i.1]' Za) Zc
          have e5:c[p.o+off*1+i.1]? = some u:=by rw[<-e3];congr 1;omega
          have e6:enc i=u:=by show (c[p.o+off*1+i.1]?).getD undef=u;rw[e5];rfl
          exact⟨v,by rw[<-e1];simp,e2,by rw[e6];exact e4,by rw[e5,e6]⟩
         have h1:OneCell enc:=λi=>by obtain⟨v,_,e2,e3,_⟩:=aa i;exact e3.one e2
         obtain⟨ay,ae⟩:=pR ar;obtain⟨aV,aJ⟩:=iO aG;obtain⟨aK,aL⟩:=iO aq;have aA:∀x∈(Q.drop off).take (n+1),x.length=1:=λx B=>S.oW x (List.mem_of_mem_drop (List.mem_of_mem_take B))
         have W:∀(i:Fin (n+1)) u,Z[i.1]? = some u->eH (plus I μ (H.set id .dead) w T) u (enc i):=λi u hu=>by
          obtain⟨x,B,an⟩:=aJ i.1 u hu;obtain⟨v,e1,_,e3,_⟩:=aa i;have e4:((Q.drop off).take (n+1))[i.1]? = some [v]:=by
           rw[List.getElem?_take,if_pos i.2,List.getElem?_drop];exact e1
          have e5:=uX (es:=1) aA (i:=i.1) (j:=0) e4 rfl;have e5:((Q.drop off).take (n+1)).flatten[i.1]? = some v:=by simpa using e5
          rw[e5]at B;cases B;refine(tS sk T call.lv _ u _ an (λk hk=>?_) e3).1
          rw[<-hT];exact jV (List.mem_append_left _ (List.mem_of_getElem? e5)) hk
         have ab:cM (plus I μ (H.set id .dead) w T) (λ_=>none) D vb.toList:=by
          refine⟨aK.trans au.1,λj a b k1 k2=>?_⟩
          obtain⟨x,B,an⟩:=aL j a k1;refine .c _ _ (tS sk T call.lv x a b an (λk hk=>?_) (au.2 j x b B k2)).1
          rw[<-hT];exact jV (List.mem_append_right _ (List.mem_of_getElem? B)) hk
         have af:=(Array.getElem?_eq_some_iff.1 J).1
         let d:Array (Fin (n+1)):=(List.finRange (n+1)).toArray
         have ao:d.size=n+1:=by simp[d]
         have hd:∀j:Fin (n+1),d[j.1]! = j:=λj=>by simp[d,getElem!_pos]
         have hg:∀i j:Fin (n+1),∃z,iR call g Z D n i j=some z/\∃a b,Z[i.1]? = some a/\Z[j.1]? = some b/\cg call g (a::b::D) []=some (.int .i64 z):=λi j=>by
          obtain⟨z,hz⟩:=ay i j;have X:=hz;unfold iR at X;split at X
          .rename_i a b ha Y;split at X
           next z' C=>cases X;exact⟨z,hz,a,b,ha,Y,C⟩
           cases X
          cases X
         have aM:yg P g:=by
          obtain⟨z,_,a,b,ha,Y,C⟩:=hg 0 0;have s0:cU (plus I μ (H.set id .dead) w T) (λ_=>none) [] w:=⟨λ_ _=>rfl,sV sk T,by simp,by simp,sk.gl.mono (oB _ _ _ _ _)⟩
          exact(CH hc C s0 (.cons (.c _ _ (W 0 a ha)) (.cons (.c _ _ (W 0 b Y)) ab))).1
         have key:=hs.all enc h1 (λi j=>(iR call g Z D n i j).getD 0) ae g vb p.b (p.o+off*1) cap d w (λargs w=>wh aM args) (by
          intro m os G aW i j;obtain⟨z,hz,a,b,ha,Y,C⟩:=hg i j;have s0:cU (plus I μ (H.set id .dead) w T) (λ_=>none) [] (sortWorld enc w p.b (p.o+off*1) m G os):=
           ⟨λ_ _=>rfl,λb x Y=>IC.qZ (sV sk T b x Y) (Ss enc p.b _ m G os (IC.tD (sV sk T b x Y)) (by rintro rfl;rw[aI]at Y;cases Y)),by simp,by simp,sk.gl.mono (oB _ _ _ _ _)⟩
          have:=CallsIn.un (CH hc C s0 (vs:=enc i::enc j::vb.toList) (.cons (.c _ _ (W i a ha)) (.cons (.c _ _ (W j b Y)) ab))).2;rw[show (enc i::enc j::vb.toList).toArray=#[enc i,enc j]++vb by apply Array.ext';simp]at this
          refine this.mono ?_;rintro e w' ⟨u,I1,μ1,rfl,hu,s1,st⟩;exact⟨by rw[hu.fC];show _=Ending.returned (.int .i64 ((iR call g Z D n i j).getD 0));rw[hz];rfl,st.grown⟩) (by
          intro j hj;have aB:j<n+1:=by omega
          obtain⟨v,_,_,_,e4⟩:=aa ⟨j,aB⟩;rw[hd ⟨j,aB⟩];exact⟨by rw[p9 J];exact e4,by simp[World.frozen?,J]⟩) af Za
         rw[ao]at key;refine Calls.fr (key.mono ?_);rintro e w' ⟨rfl,m,os,rfl⟩;have aN:ltOf (λi j=>(iR call g Z D n i j).getD 0)=oS (iR call g Z D n):=rfl
         rw[aN,BQ];have ah:=pdq_sorts (oS (iR call g Z D n)) ae d 0 d.size (Lib.bitLen d.size) true true (Nat.zero_le _) (Nat.le_refl _) (Or.inl rfl);rw[ao]at ah;have O:=ah.1.1;change xe I μ H w .undef (H.set id (.row 1 (qy Q off n (pdq (oS (iR call g Z D n)) d 0 (n+1) (Lib.bitLen (n+1)) true true).toList))) _ _;generalize pdq (oS (iR call g Z D n)) d 0 (n+1) (Lib.bitLen (n+1)) true true=G at O;rw[ao]at O;unfold sortWorld;rw[Iq enc _ m G J];have s1:cU I μ H (Sort.ahead w m):=s.oF rfl;have aO:Step I μ H w I μ H (Sort.ahead w m):=Step.oF rfl rfl ⟨rfl,rfl,Nat.le_add_right _ _⟩;have ai:(Sort.putCells enc (p.o+off*1) G c).size=c.size:=by simp[Sort.putCells]
         have aj:∀i:Nat,(i<p.o+off*1\/p.o+off*1+(n+1)<=i)->(Sort.putCells enc (p.o+off*1) G c)[i]? = c[i]? := λi hi=>by
          simp only[Sort.putCells,Array.getElem?_mapIdx];rw[O]
          cases c[i]? with
          | none=>rfl
          | some y=>simp only[Option.map_some];rw[if_neg Za]
         have ap:∀i:Fin (n+1),(Sort.putCells enc (p.o+off*1) G c)[p.o+off*1+i.1]? = some (enc G[i.1]!):=λi=>by
          obtain⟨v,_,_,_,e4⟩:=aa i;simp only[Sort.putCells,Array.getElem?_mapIdx,e4,Option.map_some];rw[if_pos ⟨by omega,by rw[O];omega⟩]
          congr 3;omega
         have aC:=S.room;have aP:(qy Q off n G.toList).length=Q.length:=by simp[qy,O];omega
         obtain⟨s2,st2⟩:=s1.write (o:=.cells (Sort.putCells enc (p.o+off*1) G c) el) (ob':=.row 1 (qy Q off n G.toList)) L rfl hp
          ⟨p,_,el,hp,hI,gu _ af,OF S.es_eq (by rw[ai];exact S.sz) (by rw[aP,ai];omega) λi x B=>by
           unfold qy at B
           by_cases c1:i<off
           .rw[List.append_assoc,List.getElem?_append_left (by simp;omega),List.getElem?_take,if_pos c1]at B
            obtain⟨v,u,e1,e2,e3,e4⟩:=vm S i B;exact⟨v,u,e1,e2,by rw[aj _ Za];exact e3,e4⟩
           by_cases c2:i<off+(n+1)
           .rw[List.getElem?_append_left (by simp[O];omega),List.getElem?_append_right (by simp;omega)]at B
            have ak:i-off<G.size:=by omega
            have e0:(Q.take off).length=off:=by simp;omega
            simp only[e0,List.getElem?_map,Array.getElem?_toList]at B;rw[Array.getElem?_eq_getElem ak]at B;simp only[Option.map_some,ζa]at B;obtain⟨v,e1,e2,e3,e4⟩:=aa G[i-off];rw[e1]at B;simp only[Option.getD_some]at B;refine⟨v,enc G[i-off],B.symm,e2,?_,e3⟩;have:=ap ⟨i-off,by omega⟩
            simp only[getElem!_pos G (i-off) ak]at this;rw[<-this];congr 1;omega
           rw[List.getElem?_append_right (by simp[O];omega),List.getElem?_drop]at B
           have e0:off+(n+1)+(i-((Q.take off)++G.toList.map (λi=>(Q[off+i.1]?).getD [])).length)=i:=by simp[O];omega
           rw[e0]at B;obtain⟨v,u,e1,e2,e3,e4⟩:=vm S i B;exact⟨v,u,e1,e2,by rw[aj _ Za];exact e3,e4⟩⟩
         have hk:∀b,b<(fF (Sort.ahead w m) p.b (.cells (Sort.putCells enc (p.o+off*1) G c) el)).heap.size->(grow (fF (Sort.ahead w m) p.b (.cells (Sort.putCells enc (p.o+off*1) G c) el)) os).heap[b]? = (fF (Sort.ahead w m) p.b (.cells (Sort.putCells enc (p.o+off*1) G c) el)).heap[b]? := λb Y=>D_ _ _ _ Y
         have aQ:=Step.kept (I:=I) (μ:=μ) (H:=H.set id (.row 1 (qy Q off n G.toList))) hk (by simp[grow]) rfl ⟨rfl,rfl,Nat.le_refl _⟩ (λa ha h=>by unfold World.frozen? at h ⊢;rw[hk _ ha];exact h)
         exact⟨_,I,μ,rfl,bJ.undef _ _,s2.kept hk,Step.trans s1 aO (Step.trans s2 st2 aQ)⟩
        cases h0
       cases h
      cases h
     cases h
    cases h
   cases h
  cases h
 cases h
end
def u5 (P:Program) (f:FuncId) (args:List V) (y:V):Prop:=yg P f/\∀I μ H w u,cU I μ H w->cM I μ args u->CallsIn (fr none) 0 P f u.toArray w (xe I μ H w y H)
theorem LD {P:Program} {call:dx} (hc:kD P call) {f:FuncId} {b:Bool} {H':bl} (h:call (.fn f) [] []=some (.bool b,H')):u5 P f [] (.bool b):=by
 have u:∀H,cg call f [] H=some (.bool b):=by
  intro H;unfold cg;rw[show borrows call.lv H []=some []from rfl];simp only[h,jW _ H' (show (V.bool b).closed=true from rfl)];rfl
 refine⟨?_,λI μ H w z s hv=>(CH hc (u H) s hv).2⟩
 obtain⟨h1,_⟩:=hc.fn _ _ _ _ _ h;omega
structure TJ (P:Program) (E:Env):Prop where
 sort:∀f,E.sort f=true->AD P f
 known:∀f args y,E.known f args=some y->u5 P f args y
end Go.VE
namespace Go.VE
variable [bV]
section
variable {P:Program} {E:Env} {I I':cw} {μ μ':Mu} {H H':bl} {n B:Nat} {F F':Frame} {a:Act} {w w':World}
theorem IZ:∀(F:Frame) (t:Nat),F.length<=t->get F t=.undef
 | [],_,_=>rfl
 | _::_,0,h=>by simp_all
 | _::r,i+1,h=>IZ r i Zd
theorem Gl:∀(F:Frame) (t:Nat) (x:V),F[t]? = some x->get F t=x
 | [],_,_,h=>by simp_all
 | _::_,0,_,h=>by simpa [get]using h
 | _::r,i+1,x,h=>Gl r i x Zd
theorem Jy (hg:tn I) {args:List V} {vs:List Value} {nt:Nat} (h:cM I μ args vs) (B:args.length<=nt) :
 eE I μ nt args (vs.toArray++Array.replicate (nt-vs.toArray.size) undef):=by
 have u  := h.1;refine⟨by simp_all,λt=>?_,hg⟩
 by_cases C:t<args.length
 .have h1:args[t]? = some args[t]:=by simp_all
  have w:t<vs.length:=by omega
  have z:vs[t]? = some vs[t]:=by simp_all
  rw[Gl _ _ _ h1];have:(vs.toArray++Array.replicate (nt-vs.toArray.size) undef).getD t undef=vs[t]:=by
   rw[Array.getD_eq_getD_getElem?,Array.getElem?_append_left Zd]
   simp_all
  rw[this];exact h.2 t _ _ h1 z
 rw[IZ _ _ Za]
 have:(vs.toArray++Array.replicate (nt-vs.toArray.size) undef).getD t undef=undef:=by
  rw[Array.getD_eq_getD_getElem?,Array.getElem?_append_right (by simp_all),Array.getElem?_replicate]
  grind
 rw[this];exact bJ.undef _ _
theorem PD (r:eE I μ n F a.tmps) {t:Nat} {x:V} {v:Value} (B:t<n) (h:bJ I μ x v):eE I μ n (set F t x) (a.tmps.setIfInBounds t v):=by
 have:=eE.put  (dst:=some t) r h (F':=set F t x) (by simp[jM,B])
 simpa [Act.put]using this
theorem A1:∀(ps:List Nat) (xs:List V) (vs:List Value) (F:Frame) (tmps:Array Value),eE I μ n F tmps->cM I μ xs vs->ps.all (·<n)=true ->
 eE I μ n (xo ps xs F) ((ps.zip vs).foldl (λtmps (t,a)=>tmps.setIfInBounds t a) tmps)
 | [],_,_,F,tmps,r,_,_=>by simpa [xo]using r
 | t::ps,[],[],F,tmps,r,_,_=>by simpa [xo]using r
 | t::ps,[],v::vs,F,tmps,r,h,_=>by have:=h.1;grind
 | t::ps,x::xs,[],F,tmps,r,h,_=>by have:=h.1;grind
 | t::ps,x::xs,v::vs,F,tmps,r,h,u=>by
  simp only[List.all_cons,ζh,decide_eq_true_eq]at u;have h0  := h.2 0 x v rfl rfl;have w:cM I μ xs vs:=⟨by have:=h.1;grind,λj a b h1 z=>h.2 (j+1) a b Zd Zd⟩
  exact A1 ps xs vs _ _ (PD (a:={ tmps:=tmps,defers:=[] }) r u.1 h0) w u.2
theorem Hy {α β:Type} (g:α->Sem β):∀(l:List α) (w:World) (B:List β),B.length=l.length->(∀(j:Nat) x y,l[j]? = some x->B[j]? = some y->(g x).run P w=.ok y w)->(l.mapM g).run P w=.ok B w
 | [],w,[],_,_=>by simp
 | [],w,_::_,h,_=>by simp_all
 | _::_,w,[],h,_=>by simp_all
 | x::l,w,y::B,h,hg=>by
  have h0:=hg 0 x y rfl rfl;have u:=Hy g l w B Zd (λj a b h1 z=>hg (j+1) a b Zd Zd)
  simp_all
def Jz (tmps:Array Value):ResultVar->Sem Value
 | .tmp t=>pure (tmps.getD t undef)
 | .cell a t=>do loadVar t (<-asAddr (tmps.getD a undef))
theorem Kp (fn:Func) (tmps:Array Value):results fn tmps=(fn.results.mapM (Jz tmps) >>= λvs=>pure (if h:vs.size=1 then vs[0]else .tuple vs)):=by
 congr 1
theorem Kn (W:eG P E) {fn:Func} {tmps:Array Value} (r:eE I μ n F tmps) (s:cU I μ H w) {vs:List V} (h:iq E F H fn.results.toList=some vs) :
 ∃u,(results fn tmps).run P w=.ok u w/\bJ I μ (result vs) u:=by
 have key:∀(l:List ResultVar) (vs:List V),iq E F H l=some vs->∃z:List Value,z.length=l.length/\cM I μ vs z /\
  ∀(j:Nat) x y,l[j]? = some x->z[j]? = some y->(Jz tmps x).run P w=.ok y w:=by
  intro l
  induction l with
  | nil=>intro vs h;simp[iq]at h;subst h;exact⟨[],rfl,.nil,by simp⟩
  | cons x l U=>
   intro vs h
   cases x with
   | tmp t=>
    simp only[iq,ζf]at h;obtain⟨D,h,rfl⟩:=h;obtain⟨z,h1,C,Q⟩:=U D h;refine⟨tmps.getD t undef::z,by simp_all,.cons (r.2 t) C,?_⟩
    intro j x y J L
    cases j with
    | zero=>simp at J L;subst J;subst L;simp[Jz]
    | succ j=>grind
   | cell p t=>
    simp only[iq]at h;split at h
    .rename_i d D X S;simp only[ζf]at h;obtain⟨v,hv,rfl⟩:=h;obtain⟨z,h1,C,Q⟩:=U D S;obtain⟨u,_,hu,Y,T,G⟩:=B4 W s X (r.2 p) hv;refine⟨u::z,by simp_all,.cons hu C,?_⟩
     intro j x y J L
     cases j with
     | zero=>
      simp only[List.getElem?_cons_zero,ζa]at J L;subst J;subst L;have e:(do loadVar t (<-asAddr (tmps.getD p undef))).run P w=(loadVar t Y).run P w:=by rw[Sem.run_bind,T];rfl
      exact e.trans G
     | succ j=>grind
    grind
 obtain⟨z,h1,C,Q⟩:=key _ _ h;have hm:=Hy  _ fn.results.toList w z h1 Q;have Z:(fn.results.mapM (Jz tmps)).run P w=.ok z.toArray w:=by
  rw[Array.mapM_eq_mapM_toList];simp_all
 have O:z.length=vs.length:=C.1.symm;rw[Kp,Sem.run_bind,Z]
 by_cases B:z.length=1
 .obtain⟨u,rfl⟩:=List.length_eq_one_iff.1 B;obtain⟨v,rfl⟩:=List.length_eq_one_iff.1 (O▸B);exact⟨u,by simp,by simpa [result]using C.2 0 v u rfl rfl⟩
 refine⟨.tuple z.toArray,by simp_all,?_⟩
 have hr:result vs=.tup vs:=by
  match vs,O with
  | [],_=>rfl
  | [_],h=>exact absurd h B
  | _::_::_,_=>rfl
 rw[hr];exact .tup _ _ (by simpa using C.1) (by simpa using C.2)
theorem L8 (J:eG P E) {fn:Func} {tmps:Array Value} {vs:List V} (h:iq E F H' fn.results.toList=some vs) (U:w.heap.size<=B):∀(ds:List Deferred) (w':World),
 eE I' μ' n F tmps->cU I' μ' H' w'->Step I μ H w I' μ' H' w'->jS B ds w' ->
 LeavesInM (fr none) 0 P fn tmps (xe I μ H w (result vs) H') ds .returning w':=by
 intro ds
 induction ds with
 | nil=>
  intro w' r s st m;obtain⟨u,hu,hv⟩:=Kn J r s h;exact⟨u,hu,u,I',μ',rfl,hv,s,st⟩
 | cons d ds L=>
  intro w' r s st m;obtain⟨q,h1,T,D⟩:=m.all d Zc
  refine⟨by simp,.inl ⟨q,_,h1,run_takeDeferred D,?_⟩⟩
  have z:=t_ s D;have O:=SE s D Zc Zc
  have m':jS B ds w':=⟨λd Q=>m.all d (List.mem_cons_of_mem _ Q),(List.pairwise_cons.1 m.apart).2⟩
  refine L (fF w' q (.deferred none)) r (s.Ak _ O z) (st.after _ Za) ⟨λG C=>?_,m'.apart⟩
  obtain⟨S,g1,g2,g3⟩:=m'.all G C;refine⟨S,g1,g2,?_⟩;rw[eU _ ?_];exact g3;rintro rfl;exact(List.pairwise_cons.1 m.apart).1 G C _ h1 g1
theorem DK (o:Out):(kL o).isNone=(o==.norm):=by
 cases o <;> simp[kL] <;> rfl
theorem Ez (U:eG P E) (hm:P.follows .mixedOrders=true) (hS:TJ P E):∀n,kD P (run E n):=by
 intro n
 induction n with
 | zero=>exact⟨λ_ _ _ _ _ h=>(by cases h),λ_ _ _ _ _ h=>(by cases h)⟩
 | succ n C=>
  constructor
  .intro f args H r H' h;rw[Fh]at h;simp[jx]at h;split at h
   .rename_i J ad;obtain⟨fn,hf,hb,ae,T,L⟩:=U.ft f J ad;refine⟨⟨fn,hf,by simp_all,L⟩,?_⟩
    intro I μ w B s hv;split at h
    .rename_i u;have main:∀o F' H2 rs,exec E (run E n) n false J.ntmps J.body args H=some (o,F',H2)->(∀id,o≠.exit id)->iq E F' H2 J.results=some rs->CallsIn (fr none) 0 P f B.toArray w (xe I μ H w (result rs) H2):=by
      intro o F' H2 rs hx al hr;refine callsIn_of_wp_marks hf hb trivial ?_;rw[ae];have r0:=Jy s.gl hv u;have:=ya  U hm C n none false rfl J.ntmps J.body I μ args H { tmps:=B.toArray++Array.replicate (J.ntmps-B.toArray.size) undef,defers:=[] } w o F' H2 hx r0 s ⟨by simp,.nil⟩ (Nat.le_refl _)
      refine wpIn_mono this ?_;rintro e a1 W ⟨rfl,⟨I1,μ1,r1,S,z⟩,m1⟩;have hl:=L8  U  (by rw[T];omega) (Nat.le_refl _) a1.defers W r1 S z m1
      cases o with
      | norm=>exact hl
      | ret=>exact hl
      | exit id=>grind
     split at h
     .simp_all
     .simp  at h
      grind
     grind
    grind
   split at h
   next hs=>exact⟨(hS.sort f hs).ok,λI μ w B s hv=>RE C (hS.sort f hs) h s hv⟩
   obtain⟨yy,he,h⟩:=ζf.1 h;cases h;exact⟨(hS.known f args _ he).1,λI μ w B s hv=>(hS.known f args _ he).2 I μ H w B s hv⟩
  intro id args H r H' h I μ w B p s hv hp;rw[Fh]at h;simp only[jx]at h;split at h
  .rename_i rec X;split at h
   .split at h
    .rename_i u;split at h
     .rename_i F2 H2 af;split at h
      .rename_i r2 Y;split at h
       .rename_i Z;split at h
        .rename_i o F4 H4 ah;split at h
         .rename_i r4 aa;obtain⟨rfl,rfl⟩:=h;obtain⟨q,l,g1,g2,g3,g4⟩:=Aa s X;rw[hp]at g1;cases g1;have ai:l.params.size=rec.params.length:=by have:=congrArg List.length g4.params;grind
          have aj:B.toArray.size=l.params.size:=by
           rw[ai,<-u.1];simpa using hv.1.symm
          refine⟨p.b,l.fn,_,l.assign,l.body,run_yield g3 aj,?_⟩;refine roundIn_of_wpIn trivial ?_;have O:(l.params.zip B.toArray).foldl (λtmps x=>tmps.setIfInBounds x.1 x.2) l.tmps=(rec.params.zip B).foldl (λtmps x=>tmps.setIfInBounds x.1 x.2) l.tmps:=by
           rw[<-Array.foldl_toList,Array.toList_zip,g4.params]
          have r0:=A1 rec.params args B rec.frame l.tmps g4.frame hv u.2;rw[<-O]at r0;have W:=ya  U hm C n (some p.b) true rfl rec.nt rec.assign I μ _ H { tmps:=_,defers:=[] } w _ _ _ af r0 s ⟨by simp,.nil⟩ (Nat.le_refl _)
          rw[g4.assign,g4.body];refine wpIn_mono W ?_;rintro e a1 W ⟨rfl,⟨I1,μ1,r1,S,z⟩,m1⟩;obtain⟨q,l2,k1,k2,k3,k4⟩:=Aa S Y;rw[z.mu _ _ hp]at k1;cases k1;have D:l2.state=.ready:=by
           have:=k4.st;rw[Z]at this;cases hl:l2.state <;> rw[hl]at this <;> simp[AR.is]at this
          refine⟨_,run_beginRound k3 D,?_⟩;have G  := z.mu _ _ hp;obtain⟨s2,st2⟩:=S.write  (ob':=.loop { r2 with st:=.busy }) Y rfl G
           ⟨p,{ l2 with state:=.busy },G,k2,gu _ (Array.getElem?_eq_some_iff.1 k3).1,⟨trivial,k4.pend,k4.pendOk,k4.frame,k4.params,k4.assign,k4.body⟩⟩
          have m2  := m1.step S st2;have w2:=ya  U hm C n (some p.b) true rfl rec.nt rec.body I1 μ1 F2 _ a1 (fF W p.b (.loop { l2 with state:=.busy })) o F4 H4 ah r1 s2 m2 (by rw[qV];exact z.size)
          refine wpIn_mono w2 ?_;rintro e a3 w3 ⟨rfl,⟨I3,μ3,r3,s3,Q⟩,m3⟩;obtain⟨q,l4,j1,j2,j3,j4⟩:=Aa s3 aa;rw[Q.mu _ _ G]at j1;cases j1;have ab  := Q.mu _ _ G;have fin:∃v w',(Instr.endRound p.b (kL o)).run P w3=.ok v w'/\xe I μ H w (.bool (o==.norm)) (H4.set id (.loop { r4 with st:=(if o==.norm then .ready else .done),pend:=(if o==.norm then none else some o) })) (.returned v) w':=by
           refine⟨_,_,run_endRound (kL o) j3,?_⟩;obtain⟨s4,ak⟩:=s3.write  (ob':=.loop { r4 with st:=(if o==.norm then .ready else .done),pend:=(if o==.norm then none else some o) }) aa rfl ab
            ⟨p,{ l4 with state:=if(kL o).isNone then .ready else .done,pending:=kL o },ab,j2,gu _ (Array.getElem?_eq_some_iff.1 j3).1,⟨by cases o <;> exact trivial,by cases o <;> rfl,by cases o <;> simp,j4.frame,j4.params,j4.assign,j4.body⟩⟩
           refine⟨_,I3,μ3,rfl,?_,s4,Step.trans S z (Step.trans s2 st2 (Step.trans s3 Q ak))⟩;rw[DK];exact .c _ _ (.bool _)
          cases o with
          | norm=>exact fin
          | ret=>exact fin
          | exit id=>exact fin
         grind
        grind
       grind
      grind
     grind
    grind
   grind
  grind
end
end Go.VE
namespace Go.VE
variable [bV]
variable {P:Program}
theorem nW.CF {t:TypeId} {d:TD} (h:sZ P t=some d):nW P t d:=
 eG.ty (E:={ tt:=sZ P,ft:=λ_=>none,keep:=λ_=>false,own:=λ_=>false,eqN:=λ_=>none,sort:=λ_=>false }) ⟨λ_ _ h=>h,by simp,by simp⟩ h
theorem qM {i:TypeId} {cs:Array Value} {o:Nat} {v:Value} {w:World} (B:sZ P i=some ⟨1,8,[.int .i64 0],.int .i64⟩) (h:cs[o]? = some v):(part i cs o).run P w=.ok v w:=by
 unfold part;simp[Sem.run_bind,(nW.CF B).Ct,Result.andThen,TD.agg,h]
theorem sQ {a:List Int} (h:a.length=2):∃x y,a=[x,y]:=by
 match a,h with
 | [x,y],_=>exact⟨x,y,rfl⟩
theorem zk (d:Nat) (e:Bool) {i:TypeId} (x:Int) {w:World} (B:P.underlying i=some (.int .i64)):(Instr.checkKey e (d+1) i (.int .i64 x)).run P w=.ok () w:=by
 simp only[Instr.checkKey,Sem.run_bind,dB B,Result.andThen_ok,Sem.run_pure]
theorem GL (d:Nat) (e:Bool) {t i:TypeId} {f g:Field} (x y:Int) {w:World} (hu:P.underlying t=some (.struct #[f,g])) (G:f.type=i) (hg:g.type=i) (of:f.offset=0) (J:g.offset=1) (nf:f.name ≠ "_") (O:g.name ≠ "_")
 (D:sZ P i=some ⟨1,8,[.int .i64 0],.int .i64⟩) (B:P.underlying i=some (.int .i64)):(Instr.checkKey e (d+1+1) t (.agg (ic [x,y]))).run P w=.ok () w:=by
 have u:∀w,(part i (ic [x,y]) 0).run P w=.ok (.int .i64 x) w:=λw=>qM D rfl
 have p1:∀w,(part i (ic [x,y]) 1).run P w=.ok (.int .i64 y) w:=λw=>qM D rfl
 have q:∀(x:Int) w,(Instr.checkKey e (d+1) i (.int .i64 x)).run P w=.ok () w:=λx w=>zk d e x B
 unfold Instr.checkKey;simp only[Sem.run_bind,dB hu,Result.andThen_ok];rw[<-Array.forIn_toList];simp only[List.forIn_cons,List.forIn_nil,Sem.run_bind,G,hg,of,J,nf,O,ne_eq,not_false_eq_true,if_true,u,p1,q,Result.andThen_ok,Sem.run_pure]
theorem sF.two {t i:TypeId} {f g:Field} (hu:P.underlying t=some (.struct #[f,g])) (W:f.type=i) (hg:g.type=i) (of:f.offset=0) (Y:g.offset=1) (nf:f.name ≠ "_") (ng:g.name ≠ "_")
 (U:sZ P i=some ⟨1,8,[.int .i64 0],.int .i64⟩) (G:P.underlying i=some (.int .i64)) (hs:P.stoodInHeld t=false) (hq:P.eqGuardType P.depth t=false):sF P t 2:=by
 have I:P.fieldsOf t=#[f,g]:=by unfold Program.fieldsOf;rw[hu]
 have B:∀(w:World) (x y z u:Int),(Op.equal t (.agg (ic [x,y])) (.agg (ic [z,u]))).run P w=.ok ([x,y]==[z,u]) w:=by
  intro w x y z u;show (Op.equalIn (9999+1) t _ _).run P w=_;rw[run_equalIn_struct w 9999 t _ _ (by rw[I];exact hu) hs,I]
  have Q:∀(x y:Int) w,(part i (ic [x,y]) 0).run P w=.ok (.int .i64 x) w:=λx y w=>qM U rfl
  have p1:∀(x y:Int) w,(part i (ic [x,y]) 1).run P w=.ok (.int .i64 y) w:=λx y w=>qM U rfl
  have q:∀(x y:Int) w,(Op.equalIn 9999 i (.int .i64 x) (.int .i64 y)).run P w=.ok (x==y) w:=λx y w=>AQ 9998 x y G
  simp only[Op.eqFields,W,hg,of,Y,nf,ng,ne_eq,not_false_eq_true,if_true,Sem.run_bind,Q,q,Result.andThen_ok]
  by_cases C:x=z
  .by_cases J:y=u
   .subst C;subst J;simp[Sem.run_bind,p1,q,Result.andThen]
   subst C;have:(y==u)=false:=by simpa using J
   simp[Sem.run_bind,p1,q,Result.andThen,this]
  have:(x==z)=false:=by simpa using C
  simp[this]
 have L:∀(op:BinOp) (p q:Operand) (w:World) (u v:Array Value),(eqGuard op t p q (.agg u) (.agg v)).run P w=.ok () w:=by
  intro op p q w u v;unfold eqGuard;cases op <;> simp[Sem.run_bind,run_program,Result.andThen,hq]
 refine⟨?_,?_,?_,?_,⟨_,hu,.inr ⟨_,rfl⟩⟩⟩
 .intro w p q a b D O;obtain⟨x,y,rfl⟩:=sQ D;obtain⟨z,u,rfl⟩:=sQ O;rw[Sem.run_bind,L,Result.andThen_ok];show (do pure (Value.bool (<-Op.equal t (.agg (ic [x,y])) (.agg (ic [z,u])))):Sem Value).run P w=_
  rw[Sem.run_bind,B];rfl
 .intro w p q a b D O;obtain⟨x,y,rfl⟩:=sQ D;obtain⟨z,u,rfl⟩:=sQ O;rw[Sem.run_bind,L,Result.andThen_ok];show (do pure (Value.bool (!(<-Op.equal t (.agg (ic [x,y])) (.agg (ic [z,u]))))):Sem Value).run P w=_
  rw[Sem.run_bind,B];rfl
 .intro w a b D O;obtain⟨x,y,rfl⟩:=sQ D;obtain⟨z,u,rfl⟩:=sQ O;exact B w x y z u
 intro w e a D;obtain⟨x,y,rfl⟩:=sQ D;exact GL 9998 e x y hu W hg of Y nf ng U G
def lk {α:Type}:List (Nat×α)->Nat->Option α
 | [],_=>none
 | (k,v)::r,n=>bif Nat.beq k n then some v else lk r n
theorem MF {α:Type}:∀{l:List (Nat×α)} {n:Nat} {v:α},lk l n=some v->(n,v)∈l
 | [],_,_,h=>by simp[lk]at h
 | (k,x)::r,n,v,h=>by
  simp only[lk]at h
  cases hk:Nat.beq k n with
  | true=>
   rw[hk]at h;simp only[cond_true,ζa]at h;have:=Nat.eq_of_beq_eq_true hk;subst this;subst h;simp
  | false=>rw[hk]at h;exact List.mem_cons_of_mem _ (MF h)
end Go.VE
namespace Go.VE
variable [bV]
inductive KT where|bool|str|slice|ptr|map|int|other
 deriving DecidableEq
def TK.tag:TK->KT
 | .bool=>.bool
 | .int _=>.int
 | .str=>.str
 | .ptr _=>.ptr
 | .slice _=>.slice
 | .map ..=>.map
 | _=>.other
def ox (k:KT) (x y:V):Option Bool:=
 match k,x,y with
 | .slice,.bK,.bK=>some true
 | .slice,.fsl ..,.bK=>some false
 | .slice,.hsl ..,.bK=>some false
 | .ptr,.gY,.gY=>some true
 | .ptr,.fptr _,.gY=>some false
 | .ptr,.hptr ..,.gY=>some false
 | .map,.f_,.f_=>some true
 | .map,.fmap _,.f_=>some false
 | .map,.hmap _,.f_=>some false
 | _,_,_=>none
def gN (k:Option KT) (e:Option Nat) (op:BinOp) (x y:V):Option V:=
 match x,y with
 | .int k a,.int u b=>
  match op with
  | .shl=>if b<0 then none else some (.int k (k.wrap (a*2 ^ (min b.toNat k.bits))))
  | .shr=>if b<0 then none else some (.int k (a.fdiv (2 ^ (min b.toNat k.bits))))
  | _=>if k=u then
   match op with
   | .add=>some (.int k (k.wrap (a+b)))
   | .sub=>some (.int k (k.wrap (a-b)))
   | .mul=>some (.int k (k.wrap (a*b)))
   | .quo=>if b=0 then none else some (.int k (k.wrap (a.tdiv b)))
   | .rem=>if b=0 then none else some (.int k (a.tmod b))
   | .and=>some (.int k (k.wrap (BitVec.ofInt k.bits a &&& BitVec.ofInt k.bits b).toNat))
   | .or=>some (.int k (k.wrap (BitVec.ofInt k.bits a ||| BitVec.ofInt k.bits b).toNat))
   | .xor=>some (.int k (k.wrap (BitVec.ofInt k.bits a ^^^ BitVec.ofInt k.bits b).toNat))
   | .andNot=>some (.int k (k.wrap (BitVec.ofInt k.bits a &&& ~~~ BitVec.ofInt k.bits b).toNat))
   | op=>(nJ op a b).map .bool
   else none
 | .str a,.str b=>
  match op with
  | .add=>if((a.size+b.size:Nat):Int)>IntKind.i64.max then none else some (.str (a++b))
  | .eql=>some (.bool (a.toList==b.toList))
  | .neq=>some (.bool !(a.toList==b.toList))
  | .lss=>some (.bool (Op.bytesLess a.toList b.toList))
  | .leq=>some (.bool (Op.bytesLess a.toList b.toList||a.toList==b.toList))
  | .gtr=>some (.bool !(Op.bytesLess a.toList b.toList||a.toList==b.toList))
  | .geq=>some (.bool !(Op.bytesLess a.toList b.toList))
  | _=>none
 | .bool a,.bool b=>
  match k,op with
  | some .bool,.eql=>some (.bool (a==b))
  | some .bool,.neq=>some (.bool !(a==b))
  | _,_=>none
 | .agg a,.agg b=>
  match e,op with
  | some n,.eql=>if a.length=n then(kJ a b).map .bool else none
  | some n,.neq=>if a.length=n then(kJ a b).map (λt=>.bool !t)else none
  | _,_=>none
 | x,y=>
  match k,op with
  | some k,.eql=>(ox k x y).map .bool
  | some k,.neq=>(ox k x y).map λt=>.bool !t
  | _,_=>none
theorem JM (k:TK) (x y:V):tZ k x y=ox k.tag x y:=by
 cases k <;> cases y <;> (try rfl) <;> cases x <;> rfl
theorem Sa (E:Env) (op:BinOp) (t:TypeId) (x y:V):He E op t x y=gN ((E.c8 t).map TK.tag) (E.eqN t) op x y:=by
 unfold He;split
 .rfl
 .rfl
 .cases hk:E.c8 t with
  | none=>rfl
  | some k=>cases k <;> cases op <;> rfl
 .rfl
 rename_i h1 u w z
 cases hk:E.c8 t with
 | none=>rw[gN.eq_29 _ _ _ _ _ h1 u w z Zc Zc]
 | some k=>
  simp only[JM];cases op <;> first
   | exact(gN.eq_27 _ _ _ _ h1 u w z).symm
   | exact(gN.eq_28 _ _ _ _ h1 u w z).symm
   | (rw[gN.eq_29 _ _ _ _ _ h1 u w z Zc Zc])
inductive uz where
 | id|pick|nilc
 | bin (k:Option KT) (e:Option Nat) (op:BinOp)
 | not|neg
 | conv (k:IntKind)
 | fieldAddr (off:Nat)
 | field (off size:Nat) (agg:Bool)
 | idxS (size:Nat)
 | idxA (len size:Nat)
 | idxStr
 | idxArr (len size:Nat) (agg:Bool)
 | sliceStr (lo hi:Bool)
 | slice (size:Nat) (lo hi:Bool)
 | slice00
 | build (zero:List V) (pl:List (Nat×Nat))
 | clo (name:Nat) (k:Nat)
 | ext (i:Nat)
 | lenStr|lenSl|capSl|max|min|bad|max4
 | makeC (size:Nat) (zero:List V)
 | emptyC
def KR:V->Option V
 | .hptr id el off=>some (.hptr id el off)
 | .fptr cs=>some (.fptr cs)
 | .clo f a b=>some (.clo f a b)
 | _=>none
def gT (off:Nat):V->Option V
 | .fptr cs=>if off<=cs.length then some (.fptr (cs.drop off))else none
 | .hptr id el o=>some (.hptr id el (o+off))
 | _=>none
def lu (size:Nat) (s:V) (n:Int):Option V:=
 if n<0 then none else match s with
 | .fsl es u=>if es=size then(u[n.toNat]?).map .fptr else none
 | .hsl id es off len=>if es=size/\n.toNat<len then some (.hptr id (off+n.toNat) 0)else none
 | _=>none
def vS (len size:Nat) (p:V) (n:Int):Option V:=
 if 0<=n/\n<len then match p with
  | .fptr u=>if n.toNat*size<=u.length then some (.fptr (u.drop (n.toNat*size)))else none
  | .hptr id el o=>some (.hptr id el (o+n.toNat*size))
  | _=>none
 else none
def lB:Bool->Bool->List V->Option (Option Int×Option Int)
 | false,false,[]=>some (none,none)
 | true,false,[.int _ l]=>some (some l,none)
 | false,true,[.int _ h]=>some (none,some h)
 | true,true,[.int _ l,.int _ h]=>some (some l,some h)
 | _,_,_=>none
def gO (size:Nat) (v:V) (l h:Option Int):Option V:=
 match v with
 | .fsl es u=>if es=size then(dU u.length l h).map λ(l,h)=>.fsl es ((u.take h).drop l)else none
 | .hsl id es off len=>if es=size then(dU len l h).map λ(l,h)=>.hsl id es (off+l) (h-l)else none
 | .dD=>(dU 0 l h).map λ_=>.dD
 | .bK=>(dU 0 l h).map λ_=>.bK
 | _=>none
def JH:V->Bool
 | .fsl ..|.hsl ..|.dD|.bK=>true
 | _=>false
def kz (cells:List V):List (Nat×Nat)->List V->Option (List V)
 | [],[]=>some cells
 | (off,size)::pl,v::vs=>
  if v.cells.length≠size||off+v.cells.length>cells.length then none
  else kz (cells.take off++v.cells++cells.drop (off+v.cells.length)) pl vs
 | _,_=>none
def nG:V->Option V
 | .fsl _ xs=>some (.int .i64 xs.length)
 | .hsl _ _ _ len=>some (.int .i64 len)
 | .dD=>some (.int .i64 0)
 | .bK=>some (.int .i64 0)
 | _=>none
def GC:V->Option V
 | .bK|.dD=>some (.int .i64 0)
 | _=>none
def bn (N:Nat->FuncId):uz->List V->Option V
 | .id,[x]=>some x
 | .pick,[.bool t,a,b]=>some (if t then a else b)
 | .nilc,[x]=>KR x
 | .bin k e op,[x,y]=>gN k e op x y
 | .not,[.bool b]=>some (.bool !b)
 | .neg,[.int k n]=>some (.int k (k.wrap (0-n)))
 | .conv k,[.int _ n]=>some (.int k (k.wrap n))
 | .fieldAddr off,[p]=>gT off p
 | .field off size agg,[.agg cs]=>(cut cs off size).bind (mk agg)
 | .idxS size,[s,.int _ n]=>lu size s n
 | .idxA len size,[p,.int _ n]=>vS len size p n
 | .idxStr,[.str s,.int _ n]=>if 0<=n then(s[n.toNat]?).map (λb=>.int .u8 b.toNat)else none
 | .idxArr len size agg,[.agg cs,.int _ n]=>if 0<=n/\n<len then(cut cs (n.toNat*size) size).bind (mk agg)else none
 | .sliceStr D G,.str s::J=>(lB D G J).bind λ(l,h)=>(dU s.size l h).map λ(l,h)=>.str (s.extract l h)
 | .slice size D G,v::J=>(lB D G J).bind λ(l,h)=>gO size v l h
 | .slice00,[v,.int _ h,.int _ m]=>if JH v&&h==0&&m==0 then some .dD else none
 | .build zero pl,vs=>(kz zero pl vs).map .agg
 | .clo name k,vs=>some (.clo (N name) (vs.take k) (vs.drop k))
 | .ext i,[.tup vs]=>vs[i]?
 | .lenStr,[.str s]=>some (.int .i64 s.size)
 | .lenSl,[v]=>nG v
 | .capSl,[v]=>GC v
 | .max,[.int k a,.int B b]=>if k=B then some (.int k (if b>a then b else a))else none
 | .max4,[.int k a,.int k1 b,.int k2 c,.int k3 d]=>if k=k1/\k=k2/\k=k3 then some (.int k (BB (BB (BB a b) c) d))else none
 | .min,[.int k a,.int B b]=>if k=B then some (.int k (if b<a then b else a))else none
 | .makeC size zero,[.int k n,.int B m]=>if k=.i64/\B=.i64/\0<=n/\n=m/\m<=2147483648/\zero.all V.scalar=true then some (.fsl size (List.replicate n.toNat zero))else none
 | .emptyC,[]=>some .dD
 | _,_=>none
inductive vu where|int (k:IntKind)|str|ints (n:Nat)
def B2 (E:Env) (t:TypeId):Option vu:=
 match E.c8 t with
 | some (.int k)=>some (.int k)
 | some .str=>some .str
 | some _=>(E.eqN t).map .ints
 | none=>none
def oZ:vu->V->Bool
 | .int k,.int B _=>k==B
 | .str,.str _=>true
 | .ints n,.agg cs=>cs.length==n&&(iA cs).isSome
 | _,_=>false
inductive Iz where
 | load (size:Nat) (agg:Bool)
 | loadF (size:Nat) (agg:Bool)
 | lookup (kk:vu) (zero:V) (ok:Bool)
def eR (H:bl):Iz->List V->Option V
 | .load size agg,[p]=>(ey H p size).bind (mk agg)
 | .lookup kk z ok,[m,k]=>match mc H m with
  | some B=>if oZ kk k then match gR k B 0 with
   | some (some (_,v))=>some (if ok then .tup [v,.bool true]else v)
   | some none=>some (if ok then .tup [z,.bool false]else z)
   | none=>none
   else none
  | none=>none
 | _,_=>none
inductive Mz where
 | alloc (size:Nat) (zero:List V)
 | box
 | makeSl (size:Nat) (zero:List V)
 | buildSl (size len:Nat) (zero:List V) (idx:List Nat)
 | makeMap
def iP:Mz->List V->Option (Ob×Mk)
 | .alloc size zero,[]=>some (.row size [zero],.ptr)
 | .box,[v]=>if v.cells.all V.one then some (.row v.cells.length [v.cells],.ptr)else none
 | .makeSl size zero,[.int k n,.int B m]=>if k=.i64/\B=.i64/\0<=n/\n<=m/\m<=2147483648 then some (.row size (List.replicate m.toNat zero),.sl size n.toNat)else none
 | .buildSl size len zero idx,vs=>if idx.length=vs.length then(gA size (List.replicate len zero) (idx.zip vs)).map λxs=>(.row size xs,.sl size len)else none
 | .makeMap,[]=>some (.map [],.map)
 | _,_=>none
inductive Iu where
 | store (size:Nat)
 | storeF (size:Nat)
 | mapUp (kk:vu)
 | append (size:Nat)
 | appMk (size bytes:Nat) (zero:List V)
 | clear (size:Nat) (zero:List V)
def eZ (H:bl):Iu->List V->Option (V×bl)
 | .store size,[.hptr id el off,v]=>match H[id]? with
  | some (.row es xs)=>match xs[el]? with
   | some cs=>if v.cells.length=size/\off+size<=cs.length/\v.cells.all V.one=true then
    some (.undef,H.set id (.row es (xs.set el (cs.take off++v.cells++cs.drop (off+v.cells.length)))))else none
   | none=>none
  | _=>none
 | .mapUp kk,[.hmap id,k,v]=>match H[id]? with
  | some (.map B)=>if oZ kk k then(pK k v B).map λB=>(.undef,H.set id (.map B))else none
  | _=>none
 | .append size,[s,x]=>match dG H size s,dG H size x with
  | some _,some []=>some (s,H)
  | some xs,some ys=>if xs.length+ys.length<=2147483648 then(gH H s).map λH1=>(.hsl H.length size 0 (xs.length+ys.length),H1++[.row size (xs++ys)])else none
  | _,_=>none
 | .appMk size bytes zero,[s,x]=>mkApp H size bytes zero s x
 | .clear size zero,[v]=>CW H size zero v
 | .storeF size,.hptr id el off::v::l=>if l.all (qi id)=true then match H[id]? with
  | some (.row es xs)=>match xs[el]? with
   | some cs=>if v.cells.length=size/\off+size<=cs.length/\v.cells.all V.one=true then
    some (.undef,H.set id (.row es (xs.set el (cs.take off++v.cells++cs.drop (off+v.cells.length)))))else none
   | none=>none
  | _=>none
  else none
 | _,_=>none
inductive K where
 | p (p:uz)
 | r (r:Iz)
 | a (a:Mz)
 | l (l:Iu)
 | c
 | e (size:Nat)
 | b
def UJ (E:Env) (t:TypeId):Option KT:=(E.c8 t).map TK.tag
def resolve (E:Env) (nm:FuncId->Option Nat):Op->Option (K×List Operand)
 | .move x|.assign x=>some (.p .id,[x])
 | .pick c a b=>some (.p .pick,[c,a,b])
 | .nilCheck x=>some (.p .nilc,[x])
 | .binOp op t x y _=>some (.p (.bin (UJ E t) (E.eqN t) op),[x,y])
 | .unOp .not _ x=>some (.p .not,[x])
 | .unOp .neg _ x=>some (.p .neg,[x])
 | .convert s d x=>match E.tt s,E.tt d with
  | some _,some O=>match O.kind with
   | .int k=>some (.p (.conv k),[x])
   | .str=>match E.c8 s with
    | some (.slice e)=>match E.c8 e with
     | some (.int .u8)=>some (.b,[x])
     | _=>none
    | _=>none
   | _=>none
  | _,_=>none
 | .fieldAddr s x f=>match E.c8 s with
  | some (.struct fs)=>match fs[f]? with
   | some (off,t)=>match E.tt t with
    | some d=>if d.size=0 then none else some (.p (.fieldAddr off),[x])
    | none=>none
   | none=>none
  | _=>none
 | .field s x f=>match E.c8 s with
  | some (.struct fs)=>match fs[f]? with
   | some (off,t)=>match E.tt t with
    | some d=>some (.p (.field off d.size d.agg),[x])
    | none=>none
   | none=>none
  | _=>none
 | .indexAddr t x i=>match E.c8 t with
  | some (.slice e)=>(E.tt e).map λd=>(.p (.idxS d.size),[x,i])
  | some (.array len e)=>(E.tt e).map λd=>(.p (.idxA len d.size),[x,i])
  | _=>none
 | .index t x i=>match E.c8 t with
  | some .str=>some (.p .idxStr,[x,i])
  | some (.array len e)=>(E.tt e).map λd=>(.p (.idxArr len d.size d.agg),[x,i])
  | _=>none
 | .slice t x B D U=>match E.c8 t,U with
  | some .str,none=>some (.p (.sliceStr B.isSome D.isSome),x::(B.toList++D.toList))
  | some (.slice e),none=>(E.tt e).map λd=>(.p (.slice d.size B.isSome D.isSome),x::(B.toList++D.toList))
  | some (.slice e),some m=>match E.tt e,B,D with
   | some _,none,some h=>some (.p .slice00,[x,h,m])
   | _,_,_=>none
  | _,_=>none
 | .build t ps=>match E.tt t with
  | some d=>match d.kind with
   | .struct fs=>match mN E fs with
    | some pl=>(ps.toList.mapM λ(q:Nat×Operand)=>pl[q.1]?).map λq=>(K.p (.build d.zero q),ps.toList.map λ(q:Nat×Operand)=>q.2)
    | none=>none
   | .array _ e=>(E.tt e).map λJ=>(K.p (.build d.zero (ps.toList.map λ(q:Nat×Operand)=>(q.1*J.size,J.size))),ps.toList.map λ(q:Nat×Operand)=>q.2)
   | _=>none
  | none=>none
 | .makeFunc (.func f) a b=>(nm f).map λs=>(.p (.clo s a.toList.length),a.toList++b.toList)
 | .extract x i=>some (.p (.ext i),[x])
 | .load t a=>(E.tt t).map λd=>(.r (.load d.size d.agg),[a])
 | .lookup t m k ok=>match E.c8 t with
  | some (.map G W)=>match E.tt W,B2 E G with
   | some d,some kk=>(mk d.agg d.zero).map λz=>(.r (.lookup kk z ok),[m,k])
   | _,_=>none
  | _=>none
 | .alloc t=>(E.tt t).map λd=>(.a (.alloc d.size d.zero),[])
 | .box _ x=>some (.a .box,[x])
 | .makeSlice t l c=>match E.c8 t with
  | some (.slice e)=>match E.tt e with
   | some d=>if d.bytes<=4096 then some (.a (.makeSl d.size d.zero),[l,c])else none
   | none=>none
  | _=>none
 | .buildSlice t len ps=>match E.c8 t with
  | some (.slice e)=>match E.tt e with
   | some d=>if len*d.size<=16777216 then some (.a (.buildSl d.size len d.zero (ps.toList.map (·.1))),ps.toList.map (·.2))else none
   | none=>none
  | _=>none
 | .makeMap _ none=>some (.a .makeMap,[])
 | .store t a x=>(E.tt t).map λd=>(.l (.store d.size),[a,x])
 | .mapUpdate t m k x|.insert t m k x=>match E.c8 t with
  | some (.map G _)=>(B2 E G).map λkk=>(.l (.mapUp kk),[m,k,x])
  | _=>none
 | .call { callee:=.builtin .append,args,argTypes }=>match argTypes.toList,args.toList with
  | [t,Y],[s,x]=>match E.c8 t,E.c8 Y with
   | some (.slice e),some (.slice _)=>match E.tt e with
    | some d=>if d.bytes<=4096/\0<d.bytes then some (.l (.append d.size),[s,x])else none
    | none=>none
   | some (.slice e),some (.int _)=>(E.tt e).map λd=>(.l (.appMk d.size d.bytes d.zero),[s,x])
   | _,_=>none
  | _,_=>none
 | .call { callee:=.builtin .len,args,argTypes }=>match argTypes[0]?,args.toList with
  | some t,[x]=>match E.c8 t with
   | some .str=>some (.p .lenStr,[x])
   | some (.slice _)=>some (.p .lenSl,[x])
   | _=>none
  | _,_=>none
 | .call { callee:=.builtin .cap,args,argTypes }=>match argTypes[0]?,args.toList with
  | some t,[x]=>match E.c8 t with
   | some (.slice _)=>some (.p .capSl,[x])
   | _=>none
  | _,_=>none
 | .call { callee:=.builtin .clear,args,argTypes }=>match argTypes[0]?,args.toList with
  | some t,[x]=>match E.c8 t with
   | some (.slice e)=>(E.tt e).map λd=>(.l (.clear d.size d.zero),[x])
   | _=>none
  | _,_=>none
 | .panic _=>some (.p .bad,[])
 | .makeInterface ..=>some (.p .bad,[])
 | .call { callee:=.builtin .max,args,.. }=>match args.toList with
  | [x,y]=>some (.p .max,[x,y])
  | [x,y,z,t]=>some (.p .max4,[x,y,z,t])
  | _=>none
 | .call { callee:=.builtin .min,args,.. }=>match args.toList with
  | [x,y]=>some (.p .min,[x,y])
  | _=>none
 | .call { callee:=.value f,args,.. }=>some (.c,f::args.toList)
 | _=>none
section
variable {E:Env} {nm:FuncId->Option Nat} {N:Nat->FuncId} {F:Frame}
theorem nY {x:Operand} {vs:List V} (h:fL F [x]=some vs):∃a,ev F x=some a/\vs=[a]:=by
 simp[fL]at h
 grind
theorem iI {x:Operand} {l:List Operand} {vs:List V} (h:fL F (x::l)=some vs):∃a az,ev F x=some a/\fL F l=some az/\vs=a::az:=by
 simp[fL]at h
 grind
theorem qc {vs:List V} (h:fL F []=some vs):vs=[]:=by simp[fL]at h;grind
theorem rY {x y:Operand} {vs:List V} (h:fL F [x,y]=some vs):∃a b,ev F x=some a/\ev F y=some b/\vs=[a,b]:=by
 obtain⟨a,az,w,u,rfl⟩:=iI h;obtain⟨b,z,rfl⟩:=nY u
 grind
theorem Gq {x y z:Operand} {vs:List V} (h:fL F [x,y,z]=some vs):∃a b c,ev F x=some a/\ev F y=some b/\ev F z=some c/\vs=[a,b,c]:=by
 obtain⟨a,az,w,u,rfl⟩:=iI h;obtain⟨b,c,B,hc,rfl⟩:=rY u
 grind
theorem Jo {l m:List Operand} {vs:List V} (h:fL F (l++m)=some vs):∃az B,fL F l=some az/\fL F m=some B/\vs=az++B:=by
 induction l generalizing vs with
 | nil=>exact⟨[],vs,rfl,h,rfl⟩
 | cons x l u=>
  obtain⟨a,az,w,z,rfl⟩:=iI h;obtain⟨b,c,C,hc,rfl⟩:=u z;refine⟨a::b,c,?_,hc,rfl⟩;simp[fL,w,C]
theorem KP {l:List Operand} {vs:List V} (h:fL F l=some vs):vs.length=l.length:=by
 induction l generalizing vs with
 | nil=>rw[qc h];rfl
 | cons x l u=>obtain⟨a,az,_,w,rfl⟩:=iI h;grind
def Db (E:Env) (N:Nat->FuncId) (F:Frame) (op:Op) (vs:List V):K->Prop
 | .p p=>dh op=.pure/\∀v,bn N p vs=some v->bO E F op=some v
 | .r r=>dh op=.read/\∀H v,eR H r vs=some v->dX E F H op=some v
 | .a a=>dh op=.alloc/\∀x,iP a vs=some x->eS E F op=some x
 | .l l=>dh op=.loud/\∀H x,eZ H l vs=some x->c9 E F H op=some x
 | .e _=>False
 | .b=>dh op=.pure/\∃x,vs=[x]/\∀H ys l,dG H 1 x=some ys->kU ys=some l->bO E F op=none/\evalConv E F H op=some (.str (lq l))
 | .c=>dh op=.call/\∃f az,vs=f::az/\jJ F op=(match f with|.clo g a b=>some (.fn g,a++az++b)|.yld id=>some (.yld id,az)|_=>none)
theorem HD (place:Nat->Option (Nat×Nat)):∀(ps:List (Nat×Operand)) (q:List (Nat×Nat)) (vs:List V) (cells cs:List V),(ps.mapM λ(x:Nat×Operand)=>place x.1)=some q ->
 fL F (ps.map λ(x:Nat×Operand)=>x.2)=some vs->kz cells q vs=some cs->∃B,lZ F ps=some B/\tv place cells B=some cs:=by
 intro ps
 induction ps with
 | nil=>
  intro q vs cells cs u hv h;simp  at u;subst u;have:=qc (by simpa using hv);subst this
  simp[kz]at h;subst h;exact⟨[],rfl,rfl⟩
 | cons p ps D=>
  intro q vs cells cs u hv h;obtain⟨i,x⟩:=p;simp only[List.mapM_cons,Option.pure_def,Option.bind_eq_bind,ζg,ζa]at u;obtain⟨pl,w,G,z,rfl⟩:=u;obtain⟨a,az,I,C,rfl⟩:=iI (by simpa using hv)
  simp only[kz]at h;split at h
  .simp_all
  obtain⟨B,h1,J⟩:=D G az _ cs z C h;refine⟨(i,a)::B,by simp[lZ,I,h1],?_⟩
  simp[tv,w]
  grind
theorem M6:∀(ps:List (Nat×Operand)) (vs:List V),fL F (ps.map λ(x:Nat×Operand)=>x.2)=some vs->lZ F ps=some ((ps.map λ(x:Nat×Operand)=>x.1).zip vs):=by
 intro ps
 induction ps with
 | nil=>simp[lZ]
 | cons p ps w=>
  intro vs hv;obtain⟨a,az,z,u,rfl⟩:=iI (by simpa using hv)
  simp[lZ,z,w az u]
theorem Gy {G D:Option Operand} {vs:List V} {l h:Option Int} (hv:fL F (G.toList++D.toList)=some vs) (B:lB G.isSome D.isSome vs=some (l,h)):jH F G=some l/\jH F D=some h:=by
 cases G with
 | none=>
  cases D with
  | none=>
   have:=qc (by simpa using hv);subst this;obtain⟨rfl,rfl⟩:=B;exact⟨rfl,rfl⟩
  | some y=>
   obtain⟨b,u,rfl⟩:=nY (by simpa using hv)
   cases b <;> simp[lB]at B;obtain⟨rfl,rfl⟩:=B;simp[jH,u]
 | some x=>
  cases D with
  | none=>
   obtain⟨b,u,rfl⟩:=nY (by simpa using hv)
   cases b <;> simp[lB]at B;obtain⟨rfl,rfl⟩:=B;simp[jH,u]
  | some y=>
   obtain⟨a,b,w,u,rfl⟩:=rY (by simpa using hv)
   cases a <;> cases b <;> simp[lB]at B;obtain⟨rfl,rfl⟩:=B;simp[jH,w,u]
theorem zb {t:TypeId} {kk:vu} {k:V} (h:B2 E t=some kk) (hk:oZ kk k=true):vH E t k=true:=by
 unfold B2 at h;unfold vH
 cases w:E.c8 t with
 | none=>grind
 | some z=>
  rw[w]at h;have gen:(E.eqN t).map vu.ints=some kk->∃n u,E.eqN t=some n/\k=.agg u/\(u.length==n&&(iA u).isSome)=true:=by
   intro h;simp  at h;obtain⟨n,B,rfl⟩:=h;cases k <;> simp[oZ]at hk <;> first|grind|grind
  cases z with
  | int C=>
   simp  at h;subst h;cases k <;> simp[oZ]at hk
   grind
  | str=>
   simp  at h;subst h;cases k <;> simp[oZ]at hk;rfl
  | _=>
   obtain⟨n,u,h1,rfl,D⟩:=gen h;simp_all
theorem ku (hN:∀f s,nm f=some s->N s=f) {op:Op} {k:K} {os:List Operand} {vs:List V} (h:resolve E nm op=some (k,os)) (hv:fL F os=some vs):Db E N F op vs k:=by
 cases op with
 | move x=>
  obtain⟨rfl,rfl⟩:=h;obtain⟨a,B,rfl⟩:=nY hv;exact⟨rfl,λv w=>by simpa [bn,bO,B]using w⟩
 | assign x=>
  obtain⟨rfl,rfl⟩:=h;obtain⟨a,B,rfl⟩:=nY hv;exact⟨rfl,λv w=>by simpa [bn,bO,B]using w⟩
 | pick c a b=>
  simp[resolve]at h;obtain⟨rfl,rfl⟩:=h;obtain⟨x,y,z,hx,hy,W,rfl⟩:=Gq hv;refine⟨rfl,λv w=>?_⟩
  cases x <;> simp[bn]at w;rename_i t;subst w;cases t <;> simp[bO,hx,hy,W]
 | nilCheck x=>
  simp[resolve]at h;obtain⟨rfl,rfl⟩:=h;obtain⟨a,B,rfl⟩:=nY hv;refine⟨rfl,λv w=>?_⟩
  cases a <;> simp[bn,KR]at w <;> subst w <;> simp[bO,B]
 | binOp aj t x y yt=>
  simp only[resolve,ζa,ζc]at h;obtain⟨rfl,rfl⟩:=h;obtain⟨a,b,B,I,rfl⟩:=rY hv;exact⟨rfl,λv w=>by simp only[bO,B,I,Sa];exact w⟩
 | unOp u t x=>
  cases u with
  | not=>
   simp only[resolve,ζa,ζc]at h;obtain⟨rfl,rfl⟩:=h;obtain⟨a,B,rfl⟩:=nY hv;refine⟨rfl,λv w=>?_⟩
   cases a <;> simp[bn]at w;subst w;simp[bO,B]
  | neg=>
   simp only[resolve,ζa,ζc]at h;obtain⟨rfl,rfl⟩:=h;obtain⟨a,B,rfl⟩:=nY hv;refine⟨rfl,λv w=>?_⟩
   cases a <;> simp[bn]at w;subst w;simp[bO,B]
  | _=>simp[resolve]at h
 | convert s d x=>
  simp only[resolve]at h;split at h
  .rename_i sd td hs D;split at h
   .rename_i k hk;simp only[ζa,ζc]at h;obtain⟨rfl,rfl⟩:=h;obtain⟨a,B,rfl⟩:=nY hv;refine⟨rfl,λv w=>?_⟩
    cases a <;> simp[bn]at w;subst w;simp[bO,B,hs,D,hk]
   .rename_i hk;split at h
    .rename_i e he;split at h
     .rename_i hu;simp only[ζa,ζc]at h;obtain⟨rfl,rfl⟩:=h;obtain⟨a,B,rfl⟩:=nY hv;refine⟨rfl,a,rfl,λH ys l h1 L=>?_⟩
      have ad:E.c8 d=some .str:=by unfold Env.c8;rw[D,Option.map_some,hk]
      refine⟨?_,by simp only[evalConv,he,ad,B,hu,h1,L,ζb,Option.map_some]⟩
      simp only[bO,hs,D,B];cases a <;> first|rfl|(simp only[dG]at h1;cases h1)
     simp at h
    simp at h
   simp at h
  simp at h
 | fieldAddr s x f=>
  simp only[resolve]at h;split at h
  .rename_i fs hk;split at h
   .rename_i off t X;split at h
    .rename_i d D;split at h
     .simp at h
     rename_i W;simp only[ζa,ζc]at h;obtain⟨rfl,rfl⟩:=h;obtain⟨a,B,rfl⟩:=nY hv;refine⟨rfl,λv w=>?_⟩
     simp only[bO,B,hk,X,D,if_neg W];simp only[bn,gT]at w;cases a <;> simp at w ⊢ <;> exact w
    simp at h
   simp at h
  simp at h
 | field s x f=>
  simp only[resolve]at h;split at h
  .rename_i fs hk;split at h
   .rename_i off t X;split at h
    .rename_i d D;simp only[ζa,ζc]at h;obtain⟨rfl,rfl⟩:=h;obtain⟨a,B,rfl⟩:=nY hv;refine⟨rfl,λv w=>?_⟩
     cases a <;> simp only[bn]at w <;> first|(simp only[bO,B,hk,X,D];exact w)|simp at w
    simp at h
   simp at h
  simp at h
 | indexAddr t x i=>
  simp only[resolve]at h;split at h
  .rename_i e hk;simp only[ζf,ζc]at h;obtain⟨d,D,rfl,rfl⟩:=h;obtain⟨a,b,B,I,rfl⟩:=rY hv;refine⟨rfl,λv w=>?_⟩
   cases b <;> simp only[bn]at w <;> first|simp at w;done|skip
   simp only[bO,B,I,hk,D];unfold lu at w;exact w
  .rename_i len e hk;simp only[ζf,ζc]at h;obtain⟨d,D,rfl,rfl⟩:=h;obtain⟨a,b,B,I,rfl⟩:=rY hv;refine⟨rfl,λv w=>?_⟩
   cases b <;> simp only[bn]at w <;> first|simp at w;done|skip
   simp only[bO,B,I,hk,D];unfold vS at w;exact w
  simp at h
 | index t x i=>
  simp only[resolve]at h;split at h
  .rename_i hk;simp only[ζa,ζc]at h;obtain⟨rfl,rfl⟩:=h;obtain⟨a,b,B,I,rfl⟩:=rY hv;refine⟨rfl,λv w=>?_⟩
   cases a <;> cases b <;> simp only[bn]at w <;> first|simp at w;done|skip
   simp only[bO,B,I,hk];exact w
  .rename_i len e hk;simp only[ζf,ζc]at h;obtain⟨d,D,rfl,rfl⟩:=h;obtain⟨a,b,B,I,rfl⟩:=rY hv;refine⟨rfl,λv w=>?_⟩
   cases a <;> cases b <;> simp only[bn]at w <;> first|simp at w;done|skip
   simp only[bO,B,I,hk,D];exact w
  simp at h
 | slice t x lo hi mx=>
  simp only[resolve]at h;split at h
  .rename_i hk;simp only[ζa,ζc]at h;obtain⟨rfl,rfl⟩:=h;obtain⟨a,bs,B,I,rfl⟩:=iI hv;refine⟨rfl,λv w=>?_⟩
   cases a <;> simp only[bn]at w <;> first|simp at w;done|skip
   obtain⟨⟨l,h⟩,Y,w⟩:=ζg.1 w;obtain⟨h1,L⟩:=Gy I Y;have hm:jH F none=some none:=rfl;simp only[bO,B,hk,h1,L,hm];exact w
  .rename_i e hk;simp only[ζf,ζc]at h;obtain⟨d,D,rfl,rfl⟩:=h;obtain⟨a,bs,B,I,rfl⟩:=iI hv;refine⟨rfl,λv w=>?_⟩
   simp only[bn]at w;obtain⟨⟨l,h⟩,Y,w⟩:=ζg.1 w;obtain⟨h1,L⟩:=Gy I Y;have hm:jH F none=some none:=rfl;simp only[bO,B,hk,h1,L,hm,D];cases a <;> exact w
  .rename_i e m hk;split at h
   .rename_i d hh D;simp only[ζa,ζc]at h;obtain⟨rfl,rfl⟩:=h;obtain⟨a,b,c,B,I,hc,rfl⟩:=Gq hv;refine⟨rfl,λv w=>?_⟩
    cases b <;> cases c <;> simp only[bn]at w <;> first|simp at w;done|skip
    rename_i k1 n1 k2 n2;split at w
    .rename_i U;simp only[ζh,beq_iff_eq]at U;obtain⟨⟨h1,rfl⟩,rfl⟩:=U;have m1:jH F none=some none:=rfl;have m2:jH F (some hh)=some (some 0):=by simp[jH,I]
     have m3:jH F (some m)=some (some 0):=by simp[jH,hc]
     simp only[bO,B,hk,m1,m2,m3,D];cases a <;> simp[JH]at h1 <;> exact w
    simp at w
   simp at h
  simp at h
 | build t ps=>
  simp only[resolve]at h;split at h
  .rename_i d D;split at h
   .rename_i fs hk;split at h
    .rename_i pl ae;simp only[ζf,ζc]at h;obtain⟨q,hq,rfl,rfl⟩:=h;refine⟨rfl,λv w=>?_⟩
     simp only[bn,ζf]at w;obtain⟨cs,Z,rfl⟩:=w;obtain⟨ws,w1,w2⟩:=HD (λi=>pl[i]?) _ q vs _ cs hq hv Z
     simp only[bO,D,w1,hk,ae,w2,Option.map_some]
    simp at h
   .rename_i len e hk;simp only[ζf,ζc]at h;obtain⟨de,af,rfl,rfl⟩:=h;refine⟨rfl,λv w=>?_⟩
    simp only[bn,ζf]at w;obtain⟨cs,Z,rfl⟩:=w;obtain⟨ws,w1,w2⟩:=HD (λi=>some (i*de.size,de.size)) ps.toList (ps.toList.map λq=>(q.1*de.size,de.size)) vs _ cs (by
     generalize ps.toList=l
     induction l with
     | nil=>rfl
     | cons x l ih=>simp[List.mapM_cons,ih]) hv Z
    simp only[bO,D,w1,hk,af,w2,Option.map_some]
   simp at h
  simp at h
 | makeFunc f a b=>
  cases f with
  | func f=>
   simp only[resolve,ζf,ζc]at h;obtain⟨s,hs,rfl,rfl⟩:=h;obtain⟨az,bs,B,I,rfl⟩:=Jo hv;refine⟨rfl,λv w=>?_⟩
   simp only[bn,ζa]at w;subst w;simp only[bO,B,I,hN f s hs];rw[<-KP B];simp
  | _=>simp[resolve]at h
 | extract x i=>
  simp only[resolve,ζa,ζc]at h;obtain⟨rfl,rfl⟩:=h;obtain⟨a,B,rfl⟩:=nY hv;refine⟨rfl,λv w=>?_⟩
  cases a <;> simp only[bn]at w <;> first|simp at w;done|skip
  simp only[bO,B];exact w
 | load t x=>
  simp only[resolve,ζf,ζc]at h;obtain⟨d,D,rfl,rfl⟩:=h;obtain⟨a,B,rfl⟩:=nY hv;exact⟨rfl,λH v w=>by simp only[dX,D,B];exact w⟩
 | lookup t m k ok=>
  simp only[resolve]at h;split at h
  .rename_i kt et hk;split at h
   .rename_i d kk D O;simp only[ζf,ζc]at h;obtain⟨z,W,rfl,rfl⟩:=h;obtain⟨a,b,B,I,rfl⟩:=rY hv;refine⟨rfl,λH v w=>?_⟩
    simp only[eR]at w;split at w
    .rename_i ab Q;split at w
     .rename_i S;simp only[dX,hk,B,I,D,Q,zb O S,if_true,W];split at w
      next X=>rw[X];exact w
      next X=>rw[X];exact w
      simp at w
     simp at w
    simp at w
   simp at h
  simp at h
 | alloc t=>
  simp only[resolve,ζf,ζc]at h;obtain⟨d,D,rfl,rfl⟩:=h;have:=qc hv;subst this;exact⟨rfl,λx w=>by simpa [iP,eS,D]using w⟩
 | box t x=>
  simp only[resolve,ζa,ζc]at h;obtain⟨rfl,rfl⟩:=h;obtain⟨a,B,rfl⟩:=nY hv;exact⟨rfl,λx w=>by simp only[eS,B];exact w⟩
 | makeSlice t l c=>
  simp only[resolve]at h;split at h
  .rename_i e hk;split at h
   .rename_i d D;split at h
    .rename_i T;simp only[ζa,ζc]at h;obtain⟨rfl,rfl⟩:=h;obtain⟨a,b,B,I,rfl⟩:=rY hv;refine⟨rfl,λx w=>?_⟩
     cases a <;> cases b <;> simp only[iP]at w <;> first|simp at w;done|skip
     rename_i k1 n1 k2 n2;split at w
     next hc=>simp only[eS,hk,B,I,D];rw[if_pos ⟨hc.1,hc.2.1,hc.2.2.1,hc.2.2.2.1,hc.2.2.2.2,T⟩];exact w
     simp at w
    simp at h
   simp at h
  simp at h
 | buildSlice t len ps=>
  simp only[resolve]at h;split at h
  .rename_i e hk;split at h
   .rename_i d D;split at h
    .rename_i T;simp only[ζa,ζc]at h;obtain⟨rfl,rfl⟩:=h;refine⟨rfl,λx w=>?_⟩
     have W:=M6 _ _ hv;simp only[iP]at w;split at w
     .simp only[eS,hk,W,D,if_pos T];exact w
     simp at w
    simp at h
   simp at h
  simp at h
 | makeMap t r=>
  cases r with
  | none=>
   simp only[resolve,ζa,ζc]at h;obtain⟨rfl,rfl⟩:=h;have:=qc hv;subst this;exact⟨rfl,λx w=>by simpa [iP,eS]using w⟩
  | some r=>simp[resolve]at h
 | store t p x=>
  simp only[resolve,ζf,ζc]at h;obtain⟨d,D,rfl,rfl⟩:=h;obtain⟨a,b,B,I,rfl⟩:=rY hv;refine⟨rfl,λH v w=>?_⟩
  cases a <;> simp only[eZ]at w <;> first|simp at w;done|skip
  simp only[c9,D,B,I];exact w
 | mapUpdate t m k x=>
  simp only[resolve]at h;split at h
  .rename_i kt et hk;simp only[ζf,ζc]at h;obtain⟨kk,O,rfl,rfl⟩:=h;obtain⟨a,b,c,B,I,hc,rfl⟩:=Gq hv;refine⟨rfl,λH v w=>?_⟩
   cases a <;> simp only[eZ]at w <;> first|simp at w;done|skip
   simp only[c9,hk,B,I,hc];split at w
   .rename_i ab Q;split at w
    next S=>rw[Q];simp only[zb O S,if_true];exact w
    simp at w
   simp at w
  simp at h
 | insert t m k x=>
  simp only[resolve]at h;split at h
  .rename_i kt et hk;simp only[ζf,ζc]at h;obtain⟨kk,O,rfl,rfl⟩:=h;obtain⟨a,b,c,B,I,hc,rfl⟩:=Gq hv;refine⟨rfl,λH v w=>?_⟩
   cases a <;> simp only[eZ]at w <;> first|simp at w;done|skip
   simp only[c9,hk,B,I,hc];split at w
   .rename_i ab Q;split at w
    next S=>rw[Q];simp only[zb O S,if_true];exact w
    simp at w
   simp at w
  simp at h
 | call c=>
  obtain⟨callee,args,ak⟩:=c
  cases callee with
  | value f=>
   simp only[resolve,ζa,ζc]at h;obtain⟨rfl,rfl⟩:=h;obtain⟨a,az,B,has,rfl⟩:=iI hv;refine⟨rfl,a,az,rfl,?_⟩;simp only[jJ,B,has];cases a <;> rfl
  | builtin b=>
   cases b with
   | append=>
    simp only[resolve]at h;split at h
    .rename_i t t' s x J C;split at h
     .rename_i e e' hk aa;split at h
      .rename_i d D;split at h
       .rename_i T;simp only[ζa,ζc]at h;obtain⟨rfl,rfl⟩:=h;obtain⟨a,b,B,I,rfl⟩:=rY hv;refine⟨rfl,λH v w=>?_⟩
        have G:fL F args.toList=some [a,b]:=by rw[C];exact hv
        simp only[c9,J,G,hk,aa,D];simp only[eZ]at w;split at w
        next h1 L=>rw[h1,L];exact w
        .rename_i xs ys ah h1 L;rw[h1,L];split at w
         .rename_i ai;simp only[if_pos (show xs.length+ys.length<=2147483648/\d.bytes<=4096/\0<d.bytes from⟨ai,T⟩)]
          cases ys with
          | nil=>exact absurd rfl ah
          | cons y ys=>exact w
         simp at w
        simp at w
       simp at h
      simp at h
     .rename_i e kk hk aa;simp only[ζf,ζc]at h;obtain⟨d,D,rfl,rfl⟩:=h;obtain⟨a,b,B,I,rfl⟩:=rY hv;refine⟨rfl,λH v w=>?_⟩
      have G:fL F args.toList=some [a,b]:=by rw[C];exact hv
      simp only[c9,J,G,hk,aa,D];exact w
     simp at h
    simp at h
   | cap=>
    simp only[resolve]at h;split at h
    .rename_i t x J C;split at h
     .rename_i e hk;simp only[ζa,ζc]at h;obtain⟨rfl,rfl⟩:=h;obtain⟨a,B,rfl⟩:=nY hv;have G:fL F args.toList=some [a]:=by rw[C];exact hv
      refine⟨rfl,λx w=>?_⟩
      simp only[bO,J,G,hk];simp only[bn]at w;cases a <;> simp only[GC]at w <;> first|(simp at w;done)|exact w
     simp at h
    simp at h
   | clear=>
    simp only[resolve]at h;split at h
    .rename_i t x J C;split at h
     .rename_i e hk;simp only[ζf,ζc]at h;obtain⟨d,D,rfl,rfl⟩:=h;obtain⟨a,B,rfl⟩:=nY hv;have G:fL F args.toList=some [a]:=by rw[C];exact hv
      refine⟨rfl,λH v w=>?_⟩
      simp only[c9,J,G,hk,D];exact w
     simp at h
    simp at h
   | len=>
    simp only[resolve]at h;split at h
    .rename_i t x J C;split at h
     .rename_i hk;simp only[ζa,ζc]at h;obtain⟨rfl,rfl⟩:=h;obtain⟨a,B,rfl⟩:=nY hv;have G:fL F args.toList=some [a]:=by rw[C];exact hv
      refine⟨rfl,λv w=>?_⟩
      cases a <;> simp only[bn]at w <;> first|simp at w;done|skip
      simp only[bO,G,J,hk];exact w
     .rename_i e hk;simp only[ζa,ζc]at h;obtain⟨rfl,rfl⟩:=h;obtain⟨a,B,rfl⟩:=nY hv;have G:fL F args.toList=some [a]:=by rw[C];exact hv
      refine⟨rfl,λv w=>?_⟩
      simp only[bO,G,J,hk];simp only[bn,nG]at w;cases a <;> simp at w ⊢ <;> exact w
     simp at h
    simp at h
   | max=>
    simp only[resolve]at h;split at h
    .rename_i x y C;simp only[ζa,ζc]at h;obtain⟨rfl,rfl⟩:=h;obtain⟨a,b,B,I,rfl⟩:=rY hv;have G:fL F args.toList=some [a,b]:=by rw[C];exact hv
     refine⟨rfl,λv w=>?_⟩
     cases a <;> cases b <;> simp only[bn]at w <;> first|simp at w;done|skip
     simp only[bO,G];exact w
    .rename_i x y z t C;simp only[ζa,ζc]at h;obtain⟨rfl,rfl⟩:=h;obtain⟨a,al,B,L,rfl⟩:=iI hv;obtain⟨b,c,d,I,hc,D,rfl⟩:=Gq L;have G:fL F args.toList=some [a,b,c,d]:=by rw[C];exact hv
     refine⟨rfl,λv w=>?_⟩
     cases a <;> cases b <;> simp only[bn]at w <;> first|simp at w;done|skip
     cases c <;> cases d <;> simp only[bn]at w <;> first|simp at w;done|skip
     simp only[bO,G];exact w
    simp at h
   | min=>
    simp only[resolve]at h;split at h
    .rename_i x y C;simp only[ζa,ζc]at h;obtain⟨rfl,rfl⟩:=h;obtain⟨a,b,B,I,rfl⟩:=rY hv;have G:fL F args.toList=some [a,b]:=by rw[C];exact hv
     refine⟨rfl,λv w=>?_⟩
     cases a <;> cases b <;> simp only[bn]at w <;> first|simp at w;done|skip
     simp only[bO,G];exact w
    simp at h
   | _=>simp[resolve]at h
  | _=>simp[resolve]at h
 | panic x=>
  simp only[resolve,ζa,ζc]at h;obtain⟨rfl,rfl⟩:=h;have:=qc hv;subst this;exact⟨rfl,λx w=>by simp[bn]at w⟩
 | makeInterface t x=>
  simp only[resolve,ζa,ζc]at h;obtain⟨rfl,rfl⟩:=h;have:=qc hv;subst this;exact⟨rfl,λx w=>by simp[bn]at w⟩
 | _=>simp[resolve]at h
end
structure zx (c c':dx):Prop where
 lv:c.lv<=c'.lv
 go:∀x a H r,c x a H=some r->c' x a H=some r
section
variable {E:Env} {c c':dx} {n:Nat} {ops:List Oper} {F F':Frame} {H H':bl}
theorem Hw {f:FuncId} {args:List V} {y:V} (B:cg c f args H=some y):∃az,borrows c.lv H args=some az:=by
 unfold cg at B;split at B
 next az h=>exact⟨az,h⟩
 cases B
theorem C1 (D:c.lv<=c'.lv) {f:FuncId} (h:∀a H r,c (.fn f) a H=some r->c' (.fn f) a H=some r) {args:List V} {y:V} (B:cg c f args H=some y):cg c' f args H=some y:=by
 unfold cg at B ⊢;split at B
 .rename_i az u;rw[sC D u];split at B
  .rename_i hc;simp only;rw[h _ _ _ hc];split at B
   next w=>simp only;rw[rC D w];exact B
   cases B
  simp at B
 simp at B
theorem nL (h:zx c c') {f:FuncId} {args:List V} {y:V} (B:cg c f args H=some y):cg c' f args H=some y:=C1 h.lv (λ_ _ _=>h.go _ _ _ _) B
theorem mA (B:c.lv<=c'.lv) {f:FuncId} {args:List V} {y:V} (D:cg c f args H=some y):cT (cm c'.lv H) args=cT (cm c.lv H) args:=by
 obtain⟨az,h⟩:=Hw D;exact xT B h
theorem C7 (D:c.lv<=c'.lv) {f:FuncId} (h:∀a H r,c (.fn f) a H=some r->c' (.fn f) a H=some r) {args:List V} {r:V×bl} (B:j9 c f args H=some r):j9 c' f args H=some r:=by
 unfold j9 at B ⊢;split at B
 .rename_i az u;rw[sC D u];split at B
  next hc=>simp only;rw[h _ _ _ hc];exact B
  simp at B
 simp at B
theorem Gd (h:zx c c') {f:FuncId} {args:List V} {r:V×bl} (B:j9 c f args H=some r):j9 c' f args H=some r:=C7 h.lv (λ_ _ _=>h.go _ _ _ _) B
theorem zR (h:zx c c') {f:FuncId} {args:List V} {r:V×bl} (B:eT E c f args H=some r):eT E c' f args H=some r:=by
 unfold eT at B ⊢;split
 next u=>rw[if_pos u]at B;exact Gd h B
 rename_i u;rw[if_neg u]at B;exact h.go _ _ _ _ B
theorem zF (O:c.lv<=c'.lv) {f:FuncId} {args:List V} {y G:V} {b:Nat} (h1:cg c f args (H.take b)=none) (B:cg c f args H=some y) (D:cg c' f args (H.take b)=some G):False:=by
 unfold cg at h1 B D;split at D
 .rename_i az has;split at B
  .rename_i I u;have e:=nM (λx y z k1 k2=>Is (H2:=H.take b) c.lv c'.lv x y z k1 k2 λid w=>by
    rw[List.getElem?_take]at w ⊢;split at w
    next C=>rw[if_pos C]
    cases w) u has
   have J:borrows c.lv H args=some az:=mD (A6 c.lv) e;rw[J]at u;cases u;rw[show borrows c.lv (H.take b) args=some az from e]at h1;simp only at h1;rw[h1]at B;simp at B
  simp at B
 simp at D
theorem LJ (h:zx c c') {place:Option (Nat×Nat)} {op:Op} {r:V×bl} (B:dn E c ops place F H op=some r):dn E c' ops place F H op=some r:=by
 unfold dn at B ⊢;split at B
 .exact B
 .exact B
 .exact B
 .exact B
 split at B
 .rename_i f args C;split at B
  .rename_i hk;rw[if_pos hk];split at B
   .exact zR h B
   skip
   split at B
   next z=>rw[if_pos z];exact zR h B
   simp at B
  rename_i hk;rw[if_neg hk];split at B
  .skip
   split at B
   next y u=>rw[nL h u,mA h.lv u];exact B
   simp at B
  rename_i b i
  skip
  split at B
  next y u=>rw[nL h u,mA h.lv u];exact B
  rename_i w;split at B
  .rename_i z;split at B
   .rename_i y u
    cases D:cg c' f args (List.take b H)with
    | some G=>exact(zF h.lv w u D).elim
    | none=>simp only[if_pos z,nL h u,mA h.lv u];exact B
   simp at B
  simp at B
 .rename_i id args C;split at B
  .exact h.go _ _ _ _ B
  skip
  split at B
  next z=>rw[if_pos z];exact h.go _ _ _ _ B
  simp at B
 simp at B
theorem Cx (h:zx c c') {place:Option (Nat×Nat)} {o:Oper} {r:Frame×bl} (B:gp E c n ops place o F H=some r):gp E c' n ops place o F H=some r:=by
 unfold gp at B ⊢;split at B
 .rename_i u;rw[if_pos u];split at B
  next v H1 w=>rw[LJ h w];exact B
  simp at B
 rename_i u;rw[if_neg u];exact B
theorem A8 (h:zx c c') {r:Frame×bl}:∀(l:List Oper) {F:Frame} {H:bl},lU E c n ops l F H=some r->lU E c' n ops l F H=some r
 | [],_,_,B=>B
 | o::l,F,H,B=>by
  simp only[lU]at B ⊢;split at B
  next F1 H1 D=>rw[Cx h D];exact A8 h l B
  simp at B
theorem AH (h:zx c c') {base:Nat} {r:Frame×bl}:∀(l:List Nat) {F:Frame} {H:bl},jD E c n ops base l F H=some r->jD E c' n ops base l F H=some r
 | [],_,_,B=>B
 | i::l,F,H,B=>by
  simp only[jD]at B ⊢;split at B
  .split at B
   next F1 H1 D=>rw[Cx h D];exact AH h l B
   simp at B
  simp at B
theorem DB (h:zx c c') {B:Bool} {r:Frame×bl} (D:jk E c n ops B F H=some r):jk E c' n ops B F H=some r:=by
 unfold jk at D ⊢;split
 .rename_i u;rw[if_pos u]at D;split at D
  next w=>rw[if_pos w];exact AH h _ D
  simp at D
 rename_i u;rw[if_neg u]at D;exact A8 h _ D
theorem yu {s O:Frame->bl->Option (Out×Frame×bl)} (h:∀F H r,s F H=some r->O F H=some r):∀(k D:Nat),k<=D->∀{F H r},kr s k F H=some r->kr O D F H=some r
 | 0,_,_,F,H,r,B=>by simp[kr]at B
 | k+1,0,hk,F,H,r,B=>by omega
 | k+1,D+1,hk,F,H,r,B=>by
  simp only[kr]at B ⊢;split at B
  next F1 H1 U=>rw[h _ _ _ U];exact yu h k D Za B
  rename_i G;rw[h _ _ _ B];split
  next F1 H1 J=>cases J;exact absurd B (G _ _)
  rfl
theorem zO (h:zx c c') {lf B:Nat} (O:lf<=B) (ro:Bool) (nt:Nat):∀(code:Code) {F:Frame} {H:bl} {r:Out×Frame×bl},exec E c lf ro nt code F H=some r->exec E c' B ro nt code F H=some r:=by
 intro code
 induction code with
 | skip=>intro F H r u;exact u
 | label l=>intro F H r u;exact u
 | region id ops L=>
  intro F H r u;simp only[exec,ζf]at u ⊢;obtain⟨x,Q,rfl⟩:=u;exact⟨x,DB h Q,rfl⟩
 | seq a b z C=>
  intro F H r u;simp only[exec]at u ⊢;split at u
  next F1 H1 h1=>rw[z h1];exact C u
  rename_i D;rw[z u];split
  next G=>cases G;exact absurd u (D _ _)
  rfl
 | cond x a b z C=>
  intro F H r u;simp only[exec]at u ⊢;split at u
  .rename_i t U;split at u
   next I=>subst I;simp only[if_true];exact z u
   rename_i I;rw[if_neg I];exact C u
  simp at u
 | block id a J=>
  intro F H r u;simp only[exec]at u ⊢;split at u
  next S F1 H1 h1=>rw[J h1];exact u
  rename_i D;rw[J u];split
  next G=>cases G;exact absurd u (D _ _ _)
  rfl
 | loop a J=>
  intro F H r u;simp only[exec]at u ⊢;exact yu (λF H r hr=>J hr) lf B O u
 | rangeFunc g ps W X _ _=>
  intro F H r u;simp only[exec]at u ⊢;split at u
  .split at u
   next T H1 hc=>rw[h.go _ _ _ _ hc];exact u
   simp at u
  simp at u
 | exit id=>intro F H r u;exact u
 | ret=>intro F H r u;exact u
 | scope a _=>intro F H r u;simp[exec]at u
 | goto l=>intro F H r u;simp[exec]at u
 | refuse w=>intro F H r u;simp[exec]at u
theorem Ga (E:Env):∀n,zx (run E n) (run E (n+1)):=by
 intro n
 induction n with
 | zero=>exact⟨Nat.le_succ _,λx a H r h=>(by cases h)⟩
 | succ n u=>
  refine⟨Nat.le_succ _,λx a H r h=>?_⟩
  rw[Fh]at h ⊢
  cases x with
  | fn f=>
   rw[jx]at h ⊢;split at h
   .rename_i U O;split at h
    .rename_i B;rw[if_pos B];split at h
     .simp at h
     .rename_i o F1 H1 C Q;rw[zO u (Nat.le_succ n) _ _ _ Q]
      cases o with
      | exit id=>exact(C id rfl).elim
      | norm=>exact h
      | ret=>exact h
     simp at h
    simp at h
   split at h
   next D=>rw[if_pos D];exact C6 u.lv (λg args y _ S=>nL u S) h
   rename_i D;rw[if_neg D];exact h
  | yld id=>
   rw[jx]at h ⊢;split at h
   .rename_i rec L;split at h
    .rename_i T;split at h
     .rename_i w;split at h
      .rename_i W H2 G;split at h
       .rename_i r2 I;split at h
        .rename_i z;split at h
         next o X Y J=>simp only[if_pos w,zO u (Nat.le_succ n) _ _ _ G,I,z,zO u (Nat.le_succ n) _ _ _ J];exact h
         simp at h
        simp at h
       simp at h
      simp at h
     simp at h
    simp at h
   simp at h
theorem nr (E:Env) {n m:Nat} (h:n<=m):zx (run E n) (run E m):=by
 induction h with
 | refl=>exact⟨Nat.le_refl _,λ_ _ _ _ h=>h⟩
 | step _ u=>exact⟨Nat.le_trans u.lv (Ga E _).lv,λx a H r h=>(Ga E _).go x a H r (u.go x a H r h)⟩
theorem nC (E:Env):∀n,(run E n).lv=n
 | 0=>rfl
 | _+1=>rfl
end
def JY (P:Program) (f:FuncId):Option FI:=(P.funcs[f]?).bind λfn=>fn.body.map λb=>⟨fn.ntmps,fn.results.toList,b⟩
def z6 (P:Program):Bool:=P.funcs.toList.all λfn => !(fn.name == "runtime.NumGoroutine")
theorem Sb {P:Program} (h:z6 P=true) {f:FuncId} {fi:FI} (B:JY P f=some fi):∃fn,P.funcs[f]? = some fn/\fn.body=some fi.body/\fn.ntmps=fi.ntmps/\fn.results.toList=fi.results/\(fn.name == "runtime.NumGoroutine")=false:=by
 unfold JY at B;obtain⟨fn,h1,w⟩:=ζg.1 B;obtain⟨b,z,rfl⟩:=ζf.1 w;refine⟨fn,h1,z,rfl,rfl,?_⟩;unfold z6 at h;rw[List.all_eq_true]at h;have C:=h fn (by
  obtain⟨u,rfl⟩:=Array.getElem?_eq_some_iff.1 h1;exact Array.mem_toList_iff.2 (Array.getElem_mem u))
 simpa using C
def CE (P:Program) (shut keep own:List Nat) (two:List (Nat×Nat)) (srt:FuncId->Bool) (known:FuncId->List V->Option V):Env where
 tt:=sZ P
 ft f:=if shut.contains f then none else JY P f
 keep:=keep.contains
 own:=own.contains
 eqN t:=lk two t
 sort:=srt
 known:=known
theorem Gz {P:Program} {shut keep own:List Nat} {two:List (Nat×Nat)} {srt:FuncId->Bool} {known:FuncId->List V->Option V} (h:z6 P=true) (B:∀p∈two,sF P p.1 p.2):eG P (CE P shut keep own two srt known) where
 tt t d h:=h
 ft f w u:=by
  change (if shut.contains f then none else JY P f)=some w at u;split at u
  .cases u
  exact Sb h u
 eqN t n z:=B (t,n) (MF z)
def pZ:List (List V)->Option (List Int)
 | []=>some []
 | [.int .i64 n]::r=>(pZ r).map (n::·)
 | _=>none
def mW (n:Nat) (l:List Int):List Int:=l.take n++List.replicate (n-l.length) 0
def yf (n:Nat) (l:List Int):List V:=(mW n l).map (V.int .i64)
def uj (n:Nat):List V->Option V
 | [.bK]=>some (.agg (yf n []))
 | [.dD]=>some (.agg (yf n []))
 | [.fsl 1 xs]=>(pZ xs).map λl=>.agg (yf n l)
 | _=>none
theorem AL:∀{xs:List (List V)} {l:List Int},pZ xs=some l->l.length=xs.length/\∀(i:Nat) (k:Int),l[i]? = some k->xs[i]? = some [V.int .i64 k]
 | [],l,h=>by cases h;grind
 | x::xs,l,h=>by
  unfold pZ at h;split at h
  .grind
  .rename_i n r B;obtain⟨rfl,rfl⟩:=B;obtain⟨u,h1,rfl⟩:=ζf.1 h;obtain⟨w,z⟩:=AL h1
   grind
  simp_all
structure Uo (w:World) (v:Value) (l:List Int):Prop where
 at_:∃a cap,v=.slice a l.length cap/\(a=none->l=[])/\∀ad,a=some ad->l=[]\/∃c el fr,ad.spot=none/\w.heap[ad.block]? = some (.cells c el fr)/\ad.off+l.length<=c.size/\(c.toList.drop ad.off).take l.length=l.map (Value.int .i64)
section
variable {P:Program} {I:cw} {μ:Mu} {H:bl} {w:World} {n:Nat}
theorem Uf (s:cU I μ H w) {x:V} {v:Value} {y:V} (hv:bJ I μ x v) (B:uj n [x]=some y):∃l,Uo w v l/\y=.agg (yf n l):=by
 have hc  := by
  cases hv with
  | c _ _ h=>omega
  | _=>simp[uj]at B
 unfold uj at B;split at B
 next u=>obtain⟨rfl,_⟩:=u;cases hc;cases B;exact⟨[],⟨⟨none,0,rfl,λ_=>rfl,λz h=>by cases h⟩⟩,rfl⟩
 next u=>obtain⟨rfl,_⟩:=u;cases hc;cases B;exact⟨[],⟨⟨_,0,rfl,λ_=>rfl,λz h=>.inl rfl⟩⟩,rfl⟩
 .rename_i W u;obtain⟨rfl,_⟩:=u;obtain⟨l,L,rfl⟩:=ζf.1 B;obtain⟨h1,O⟩:=AL L;refine⟨l,?_,rfl⟩
  cases hc with
  | fsl0 _ a cap=>
   have  := List.length_eq_zero_iff.1 h1;subst this;exact⟨⟨_,cap,rfl,λ_=>rfl,λz h=>.inl rfl⟩⟩
  | fsl _ _ b o cap c Q J hu X Y hr=>
   refine⟨⟨_,cap,(by rw[h1]),(λh=>by cases h),λz C=>.inr ?_⟩⟩
   cases C;obtain⟨el,fr,S⟩:=s.imm b _ Q;refine⟨c,el,fr,rfl,S,by grind,?_⟩
   refine List.ext_getElem? λi=>?_
   rw[List.getElem?_take,List.getElem?_map]
   by_cases T:i<l.length
   .have U:=O i _ (ζd T);have D:o+i<c.size:=by grind
    have G:c[o+i*1+0]? = some c[o+i]:=by simp[D]
    have:=hr i 0 _ _ _ U rfl G;have e:c[o+i]=.int .i64 l[i]:=by
     generalize c[o+i]=q at this ⊢;cases this;rfl
    grind
   grind
 simp_all
theorem NH {v:Value} {l:List Int} (h:Uo w v l) {w':World} (hk:∀b,b<w.heap.size->w'.heap[b]? = w.heap[b]?) (n:Nat) :
 (Builtin.lenOf v).run P w'=.ok l.length w'/\(Builtin.firstCells 1 (Nat.min l.length n) v).run P w'=.ok ((l.take n).map (Value.int .i64)).toArray w':=by
 obtain⟨a,cap,rfl,h0,h1⟩:=h.at_;refine⟨by simp[Builtin.lenOf],?_⟩
 cases a with
 | none=>rw[h0 rfl];simp[Builtin.firstCells]
 | some B=>
  rcases h1 B rfl with rfl|⟨c,el,fr,C,hc,z,D⟩
  .simp[Builtin.firstCells,loadCells,loadCellsFrom]
  obtain⟨b,o,I⟩:=B;simp only at C hc z D;subst C;have G  := (Array.getElem?_eq_some_iff.1 hc).1;have u  := p9 (by rw[hk b G];omega)
  have J:Nat.min l.length n<=l.length:=Nat.min_le_left _ _;simp[Builtin.firstCells];rw[uQ u (.inl Za)]
  have:(c.toList.drop o).take (Nat.min l.length n)=((c.toList.drop o).take l.length).take n:=by
   rw[List.take_take];congr 1;exact Nat.min_comm _ _
  simp_all
variable {f A S e:Nat} {fn:Func} {bytes i1 i2 i3 i4 t1 t2 t6 t7:Nat} {p1 p2 p3 p4 p5 p6 p7:String} {e1 e2 e3 e4 e5 e6 e7:Array Edge}
theorem xq {o:Oper} {a:Act} {w w':World} {K:Act->World->Prop} {Q:Exit->Act->World->Prop} {v:Value} (B:∀c,o.op≠.defer c)
 (h:(execOp a.eval o).run P w=.ok (.value v) w') (D:K (a.put o.dst v) w'):o.wpIn (fr none) 0 P a w K Q:=by
 refine⟨λ_ _=>trivial,?_⟩
 show o.uponIn (fr none) 0 P a K Q ((o.semAt none a.eval).run P w);rw[Oper.semAt_eq none a.eval o B,h,Oper.uponIn_value];omega
theorem TX {o:Oper} {a:Act} {w w':World} {K:Act->World->Prop} {Q:Exit->Act->World->Prop} (B:∀c,o.op≠.defer c)
 (h:(execOp a.eval o).run P w=.ok .skip w') (D:K (a.put o.dst undef) w'):o.wpIn (fr none) 0 P a w K Q:=by
 refine⟨λ_ _=>trivial,?_⟩
 show o.uponIn (fr none) 0 P a K Q ((o.semAt none a.eval).run P w);rw[Oper.semAt_eq none a.eval o B,h,Oper.uponIn_skip];omega
theorem Th {o:Oper} {id:Nat} {a:Act} {w:World} {Q:Exit->Act->World->Prop} (hg:o.guard=none) (h:o.wpIn (fr none) 0 P a w (Q .normal) Q):(Code.region id #[o] false).wpIn (fr none) 0 P Q a w:=by
 refine wpIn_region ?_;simpa [wpOpsIn,Region.wanted,hg]using h
theorem Wu {o o2:Oper} {id:Nat} {a:Act} {w:World} {Q:Exit->Act->World->Prop} (hg:o.guard=none) (B:o2.guard=none) (h:o.wpIn (fr none) 0 P a w (λa w=>o2.wpIn (fr none) 0 P a w (Q .normal) Q) Q):(Code.region id #[o,o2] false).wpIn (fr none) 0 P Q a w:=by
 refine wpIn_region ?_;show wpOpsIn _ _ _ _ _ [0,1] _ _;simpa [wpOpsIn,Region.wanted,hg,B]using h
theorem Wr {o o2 o3:Oper} {id:Nat} {a:Act} {w:World} {Q:Exit->Act->World->Prop} (hg:o.guard=none) (B:o2.guard=none) (D:o3.guard=none)
 (h:o.wpIn (fr none) 0 P a w (λa w=>o2.wpIn (fr none) 0 P a w (λa w=>o3.wpIn (fr none) 0 P a w (Q .normal) Q) Q) Q):(Code.region id #[o,o2,o3] false).wpIn (fr none) 0 P Q a w:=by
 refine wpIn_region ?_;show wpOpsIn _ _ _ _ _ [0,1,2] _ _;simpa [wpOpsIn,Region.wanted,hg,B,D]using h
theorem Se (hf:P.funcs[f]? = some fn)
 (hb:fn.body=some (.seq (.region i1 #[⟨some 2,.alloc A,t1,p1,e1,none⟩] false) (.seq (.region i2 #[⟨some 3,.alloc A,t2,p2,e2,none⟩] false)
  (.seq (.region i3 #[⟨some 4,.slice A (.tmp 3) none none none,S,p3,e3,none⟩,⟨some 5,.move (.tmp 0),S,p4,e4,none⟩,⟨some 6,.call { callee:=.builtin .copy,args:=#[.tmp 4,.tmp 5],argTypes:=#[S,S] },t6,p5,e5,none⟩] false)
  (.seq (.region i4 #[⟨some 7,.load A (.tmp 3),A,p6,e6,none⟩,⟨none,.store A (.tmp 2) (.tmp 7),t7,p7,e7,none⟩] false) .ret)))))
 (aB:fn.ntmps=8) (hr:fn.results=#[.cell 2 A]) (ah:(fn.name == "runtime.NumGoroutine")=false)
 (hA:P.underlying A=some (.array n e)) (hS:P.underlying S=some (.slice e)) (he:sZ P e=some ⟨1,8,[.int .i64 0],.int .i64⟩) (aC:sZ P A=some ⟨n,bytes,List.replicate n (.int .i64 0),.array n e⟩) :
 ∀args y,uj n args=some y->u5 P f args y:=by
 intro args y hy;refine⟨⟨fn,hf,by simp[hb],ah⟩,λI μ H w vs s hv=>?_⟩
 obtain⟨x,rfl⟩:∃x,args=[x]:=by
  match args,hy with
  | [],h=>simp[uj]at h
  | [x],_=>exact⟨x,rfl⟩
  | _::_::_,h=>simp[uj]at h
 obtain⟨v,rfl⟩:=List.length_eq_one_iff.1 (hv.1.symm);obtain⟨l,am,rfl⟩:=Uf s (hv.2 0 x v rfl rfl) hy;have tA:=nW.CF aC;have te:=nW.CF he;obtain⟨z,hz,an,aL,aM⟩:=tA.zj;have T:z.cells.size=n:=by have:=(an (λ_=>none) (λ_=>none)).1;simp at this;omega
 have key:∀u,bJ (λ_=>none) (λ_=>none) (.int .i64 0) u->u=.int .i64 0:=λu h=>by cases h with|c _ _ h=>cases h;rfl
 have aD:z.cells.toList=List.replicate n (.int .i64 0):=by
  refine List.ext_getElem? λi=>?_
  by_cases hi:i<n
  .have h2:=(an (λ_=>none) (λ_=>none)).2 i (.int .i64 0) (z.cells[i]' Za) (by simp[hi]) Zc
   rw[List.getElem?_replicate,if_pos hi];have  := key _ h2;simp[this,T,hi]
  rw[List.getElem?_eq_none (by simp;omega),List.getElem?_eq_none (by simp;omega)]
 have D:∀w,(Instr.alloc A true (.tuple #[])).run P w=.ok (.pointer (some ⟨w.heap.size,0,none⟩)) (w.alloc (.cells z.cells A)):=by
  intro w;unfold Instr.alloc;simp[Sem.run_bind,hz,Result.andThen_ok,DM,Sem.run_pure]
 have ad:(w.alloc (.cells z.cells A)).heap.size=w.heap.size+1:=by simp
 generalize L:(w.alloc (.cells z.cells A)).alloc (.cells z.cells A)=C;have ao:C.heap.size=w.heap.size+2:=by subst L;simp
 have ap:∀b,b<w.heap.size->C.heap[b]? = w.heap[b]? := by
  intro b hb;subst L;rw[jw _ _ Za,jw _ _ hb]
 have aE:C.heap[w.heap.size]? = some (.cells z.cells A):=by subst L;rw[jw _ _ Za,kI]
 have aF:C.heap[w.heap.size+1]? = some (.cells z.cells A):=by subst L;rw[<-ad,kI]
 have ai:C.os=w.os/\C.output=w.output/\C.tape=w.tape/\C.drawn=w.drawn:=by subst L;exact⟨rfl,rfl,rfl,rfl⟩
 have aG:∀a,(Instr.sliceAt A (.pointer (some a)) none none none).run P C=.ok (.slice (some (if n=0 then a else a.add 0)) n n) C:=by
  intro a;unfold Instr.sliceAt;simp[VE.dB hA,Instr.sureAddr,Instr.sliceBounds,te.ij]
 have aH:(if n=0 then ⟨w.heap.size+1,0,none⟩else(⟨w.heap.size+1,0,none⟩:Addr).add 0)=⟨w.heap.size+1,0,none⟩:=by split <;> rfl
 obtain⟨aq,W⟩:=NH (P:=P) am ap n;have ar:∀(vs:List Value) c,(∀v∈vs,∃k,v=.int c k)->∀v∈vs,v.oneCell'=true:=λvs c h v hv=>by obtain⟨k,rfl⟩:=h v hv;rfl
 obtain⟨X,ae,au⟩:=og  (o:=0) ((l.take n).map (Value.int .i64)) 0 C z.cells aF (ar _ .i64 (by intro v hv;obtain⟨k,_,rfl⟩:=List.mem_map.1 hv;exact⟨k,rfl⟩)) (by simp[T];omega)
 generalize O:fF C (w.heap.size+1) (.cells X A)=G at ae;have aj:(Builtin.copy_ #[S,S] t6 #[.slice (some ⟨w.heap.size+1,0,none⟩) n n,v]).run P C=.ok (goInt (Nat.min l.length n)) G:=by
  unfold Builtin.copy_;simp[VE.dB hS,te.ij,aq,W];rw[<-List.map_take,ae];rfl
 have av:∀ρ:Operand->Value,ρ (.tmp 4)=.slice (some ⟨w.heap.size+1,0,none⟩) n n->ρ (.tmp 5)=v ->
  (execOp ρ ⟨some 6,.call { callee:=.builtin .copy,args:=#[.tmp 4,.tmp 5],argTypes:=#[S,S] },t6,p5,e5,none⟩).run P C=.ok (.value (goInt (Nat.min l.length n))) G:=by
  intro ρ h4 h5;simp only[execOp,Go.resolve,Sem.run_bind,Sem.run_pure,Result.andThen_ok,invoke,builtin];have:#[Operand.tmp 4,Operand.tmp 5].map ρ=#[.slice (some ⟨w.heap.size+1,0,none⟩) n n,v]:=by simp[h4,h5]
  rw[this,aj];rfl
 have U:X.toList=(mW n l).map (Value.int .i64):=by
  rw[au];simp[mW,aD];omega
 have B:X.size=n:=by have:=congrArg List.length au;simp[T]at this;omega
 have aw:G.heap[w.heap.size+1]? = some (.cells X A):=by subst O;exact gu _ Za
 have ax:G.heap[w.heap.size]? = some (.cells z.cells A):=by subst O;rw[eU _ Za];exact aE
 have ak:(Instr.loadAt A (.pointer (some ⟨w.heap.size+1,0,none⟩))).run P G=.ok (.agg X) G:=by
  unfold Instr.loadAt loadVar;have:=uQ (P:=P)   (o:=0) (m:=n)  (p9 aw) (.inl Za)
  have e:((X.toList.drop 0).take n).toArray=X:=by rw[List.drop_zero,List.take_of_length_le (by simp[B])]
  rw[e]at this;have ha:(isAgg A).run P G=.ok true G:=tA.Ct;simp[Instr.sureAddr,ha,tA.ij,this]
 obtain⟨Q,af,aI⟩:=og (P:=P) (o:=0) X.toList 0 G z.cells ax (ar _ .i64 (by rw[U];intro v hv;obtain⟨k,_,rfl⟩:=List.mem_map.1 hv;exact⟨k,rfl⟩)) (by simp[T,B])
 have ay:Q=X:=by
  apply Array.toList_inj.1;rw[aI];simp[B,T]
 subst ay;generalize Y:fF G w.heap.size (.cells Q A)=J at af;have Z:(Instr.storeAt A (.pointer (some ⟨w.heap.size,0,none⟩)) (.agg Q)).run P G=.ok () J:=by
  unfold Instr.storeAt storeVar;simp[Instr.sureAddr,tA.ij,Value.cells,B,af]
 have aA:J.heap[w.heap.size]? = some (.cells Q A):=by subst Y;exact gu _ (by subst O;simp[qV];omega)
 refine callsIn_of_wp_marks hf hb trivial ?_;rw[aB];have e0:[v].toArray++Array.replicate (8-[v].toArray.size) undef=#[v,undef,undef,undef,undef,undef,undef,undef]:=rfl;refine wpIn_seq (Th rfl (xq Zc (dK (D w)) ?_))
 refine wpIn_seq (Th rfl (xq Zc (dK (D _)) ?_))
 rw[L,ad];show Code.wpIn _ _ _ _ _ { tmps:=#[v,undef,.pointer (some ⟨w.heap.size,0,none⟩),.pointer (some ⟨w.heap.size+1,0,none⟩),undef,undef,undef,undef],defers:=[] } C;refine wpIn_seq (Wr rfl rfl rfl (xq Zc (dK (aG _)) ?_))
 rw[aH];refine xq Zc  rfl ?_
 refine xq Zc (av _ rfl rfl) ?_
 refine wpIn_seq (Wu rfl rfl (xq Zc (dK ak) ?_))
 show Oper.wpIn _ _ _ _ { tmps:=#[v,undef,.pointer (some ⟨w.heap.size,0,none⟩),.pointer (some ⟨w.heap.size+1,0,none⟩),.slice (some ⟨w.heap.size+1,0,none⟩) n n,v,goInt (Nat.min l.length n),.agg Q],defers:=[] } G _ _;refine TX Zc (w':=J) ?_ ?_
 .show (do Instr.storeAt A (.pointer (some ⟨w.heap.size,0,none⟩)) (.agg Q);pure Next.skip).run P G=_
  simp[Z]
 show Code.wpIn _ _ _ _ _ { tmps:=#[v,undef,.pointer (some ⟨w.heap.size,0,none⟩),.pointer (some ⟨w.heap.size+1,0,none⟩),.slice (some ⟨w.heap.size+1,0,none⟩) n n,v,goInt (Nat.min l.length n),.agg Q],defers:=[] } J;refine wpIn_ret ?_;have aJ:∀b,b<w.heap.size->G.heap[b]? = w.heap[b]? := by
  intro b hb;subst O;rw[eU _ Za,ap b hb]
 have al:∀b,b<w.heap.size->J.heap[b]? = w.heap[b]? := by
  intro b hb;subst Y;rw[eU _ Za,aJ b hb]
 have aK:w.heap.size<=J.heap.size:=by subst Y;subst O;simp[qV,ao]
 have aa:J.os=w.os/\J.output=w.output/\J.tape=w.tape/\J.drawn=w.drawn:=by subst Y;subst O;exact ai
 have ab:(loadVar A ⟨w.heap.size,0,none⟩).run P J=.ok (.agg Q) J:=by
  unfold loadVar;have:=uQ (P:=P)   (o:=0) (m:=n)  (p9 aA) (.inl Za)
  have e:((Q.toList.drop 0).take n).toArray=Q:=by rw[List.drop_zero,List.take_of_length_le (by simp[B])]
  rw[e]at this;have ha:(isAgg A).run P J=.ok true J:=tA.Ct;simp[ha,tA.ij,this]
 refine⟨.agg Q,?_,.agg Q,I,μ,rfl,.c _ _ (.agg _ _ ?_ ?_),s.kept al,Step.kept al aK aa.1 ⟨aa.2.1,aa.2.2.1,by rw[aa.2.2.2];exact Nat.le_refl _⟩ ?_⟩
 .simp[results,hr,asAddr,ab]
 .have:=congrArg List.length U;simpa [yf]using this.symm
 .intro j x y hx hy;have h1:Q.toList[j]? = some y:=by simpa using hy
  rw[U]at h1;simp only[yf,List.getElem?_map]at hx h1
  cases hp:(mW n l)[j]? with
  | none=>rw[hp]at hx;cases hx
  | some k=>rw[hp]at hx h1;cases hx;cases h1;exact .int _ _
 intro a ha h;unfold World.frozen? at h ⊢;rw[al _ ha];exact h
end
end Go.VE
namespace Go.VE
variable [bV]
variable {P:Program}
theorem Hq (a:List Int) (j:Nat):(ic a)[j]? = (a[j]?).map (Value.int .i64):=by simp[ic]
theorem EU {i:TypeId} {a b:List Int} {n:Nat} (J:a.length=n) (O:b.length=n) (D:sZ P i=some ⟨1,8,[.int .i64 0],.int .i64⟩) (B:P.underlying i=some (.int .i64)) (d:Nat) (w:World) :
 ∀(m k:Nat),k+m=n->(Op.eqItems (d+1) i 1 (ic a) (ic b) (List.range' k m)).run P w=.ok (a.drop k==b.drop k) w
 | 0,k,h=>by
  have h1:a.drop k=[]:=List.drop_eq_nil_of_le Za
  have I:b.drop k=[]:=List.drop_eq_nil_of_le Za
  simp[Op.eqItems,h1,I]
 | m+1,k,h=>by
  have u:k<a.length:=by omega
  have z:k<b.length:=by omega
  have pa:(part i (ic a) (k*1)).run P w=.ok (.int .i64 a[k]) w:=qM D (by rw[Hq,Nat.mul_one];simp[u])
  have L:(part i (ic b) (k*1)).run P w=.ok (.int .i64 b[k]) w:=qM D (by rw[Hq,Nat.mul_one];simp[z])
  have q:(Op.equalIn (d+1) i (.int .i64 a[k]) (.int .i64 b[k])).run P w=.ok (a[k]==b[k]) w:=AQ d _ _ B;have Q:=EU J O D B d w m (k+1) Za
  have C:=List.drop_eq_getElem_cons u;have G:=List.drop_eq_getElem_cons z;simp only[List.range'_succ,Op.eqItems,Sem.run_bind,pa,L,q,Result.andThen_ok]
  by_cases e:a[k]=b[k]
  .rw[C,G,List.cons_beq_cons,e];simp only[beq_self_eq_true,Bool.not_true,Bool.true_and,if_false,Bool.false_eq_true];exact Q
  have:(a[k]==b[k])=false:=by simpa using e
  rw[C,G,List.cons_beq_cons,this];simp only[Bool.not_false,if_true,Bool.false_and,Sem.run_pure]
theorem Gk {i:TypeId} {a:List Int} {n:Nat} (e:Bool) (J:a.length=n) (D:sZ P i=some ⟨1,8,[.int .i64 0],.int .i64⟩) (B:P.underlying i=some (.int .i64)) (d:Nat) (w:World) :
 ∀(m k:Nat),k+m=n->(forIn (List.range' k m) PUnit.unit (λj (_:PUnit)=>do
  let s <-sizeOf i
  let v <-part i (ic a) (j*s)
  Instr.checkKey e (d+1) i v
  pure (ForInStep.yield PUnit.unit)):Sem PUnit).run P w=.ok PUnit.unit w
 | 0,k,h=>by simp
 | m+1,k,h=>by
  have G:k<a.length:=by omega
  have pa:(part i (ic a) (k*1)).run P w=.ok (.int .i64 a[k]) w:=qM D (by rw[Hq,Nat.mul_one];simp[G])
  have z:(sizeOf i).run P w=.ok 1 w:=(nW.CF D).ij;have q:(Instr.checkKey e (d+1) i (.int .i64 a[k])).run P w=.ok () w:=zk d e _ B;have u:=Gk e J D B d w m (k+1) Za
  simp only[List.range'_succ,List.forIn_cons,Sem.run_bind,z,pa,q,Result.andThen_ok,Sem.run_pure]at u ⊢;exact u
theorem sF.arr {t i:TypeId} {n:Nat} (hu:P.underlying t=some (.array n i)) (O:sZ P i=some ⟨1,8,[.int .i64 0],.int .i64⟩) (J:P.underlying i=some (.int .i64)) (U:P.eqGuardType P.depth t=false):sF P t n:=by
 obtain⟨S,z,B,Q,_⟩:=(nW.CF O).info;have C:P.cellsOf i=1:=by unfold Program.cellsOf;simp[B,Q]
 have D:∀(w:World) (a b:List Int),a.length=n->b.length=n->(Op.equal t (.agg (ic a)) (.agg (ic b))).run P w=.ok (a==b) w:=by
  intro w a b G I;show (Op.equalIn (9999+1) t _ _).run P w=_;rw[run_equalIn_array w 9999 _ _ hu B,C,List.range_eq_range'];simpa using EU G I O J 9998 w n 0 Za
 have L:∀(op:BinOp) (p q:Operand) (w:World) (u v:Array Value),(eqGuard op t p q (.agg u) (.agg v)).run P w=.ok () w:=by
  intro op p q w u v;unfold eqGuard;cases op <;> simp[Sem.run_bind,run_program,Result.andThen,U]
 refine⟨?_,?_,D,?_,⟨_,hu,.inl ⟨_,_,rfl⟩⟩⟩
 .intro w p q a b G I;rw[Sem.run_bind,L,Result.andThen_ok];show (do pure (Value.bool (<-Op.equal t (.agg (ic a)) (.agg (ic b)))):Sem Value).run P w=_
  rw[Sem.run_bind,D _ _ _ G I];rfl
 .intro w p q a b G I;rw[Sem.run_bind,L,Result.andThen_ok];show (do pure (Value.bool (!(<-Op.equal t (.agg (ic a)) (.agg (ic b))))):Sem Value).run P w=_
  rw[Sem.run_bind,D _ _ _ G I];rfl
 intro w e a G;show (Instr.checkKey e (9999+1) t _).run P w=_;unfold Instr.checkKey;simp only[Sem.run_bind,dB hu,Result.andThen_ok];have:=Gk e G O J 9998 w n 0 Za
 simp only[Std.Legacy.Range.forIn_eq_forIn_range',Std.Legacy.Range.size,Nat.sub_zero,Nat.add_one_sub_one,Nat.div_one];rw[show (9998+1:Nat)=9999 from rfl]at this;rw[this];rfl
end Go.VE
namespace Go.VE
variable [bV]
structure CR (E:Env) (c c':dx):Prop where
 lv:c.lv<=c'.lv
 Ly:∀f args H y,E.keep f=false->cg c f args H=some y->cg c' f args H=some y
 dir:∀f args H r,E.keep f=true->c (.fn f) args H=some r->c' (.fn f) args H=some r
 yld:∀id args H r,c (.yld id) args H=some r->c' (.yld id) args H=some r
 rng:∀f args H r,H≠[]->c (.fn f) args H=some r->c' (.fn f) args H=some r
section
variable {E:Env} {c c':dx} {n:Nat} {ops:List Oper} {F F':Frame} {H H':bl}
theorem Im (h:CR E c c') {f:FuncId} {args:List V} {r:V×bl} (hk:E.keep f=true) (B:j9 c f args H=some r):j9 c' f args H=some r:=C7 h.lv (λ_ _ _=>h.dir _ _ _ _ hk) B
theorem AX (h:CR E c c') {f:FuncId} {args:List V} {r:V×bl} (hk:E.keep f=true) (B:eT E c f args H=some r):eT E c' f args H=some r:=by
 unfold eT at B ⊢;split
 next u=>rw[if_pos u]at B;exact Im h hk B
 rename_i u;rw[if_neg u]at B;exact h.dir _ _ _ _ hk B
theorem AP {place:Option (Nat×Nat)} {f:FuncId} (h:kV E ops place f=true):E.keep f=true:=by
 unfold kV at h;grind
theorem CR.any (h:CR E c c') {f:FuncId} {args:List V} {H:bl} {y:V} (B:cg c f args H=some y):cg c' f args H=some y:=by
 cases hk:E.keep f with
 | false=>exact h.Ly _ _ _ _ hk B
 | true=>exact C1 h.lv (λ_ _ _=>h.dir _ _ _ _ hk) B
theorem PC (h:CR E c c') {place:Option (Nat×Nat)} {op:Op} {r:V×bl} (B:dn E c ops place F H op=some r):dn E c' ops place F H op=some r:=by
 unfold dn at B ⊢;split at B
 .omega
 .omega
 .omega
 .omega
 split at B
 .rename_i f args C;split at B
  .rename_i hk;rw[if_pos hk];split at B
   .exact AX h (AP hk) B
   split at B
   next z=>rw[if_pos z];exact AX h (AP hk) B
   grind
  rename_i hk;rw[if_neg hk];split at B
  .split at B
   next y u=>rw[h.any u,mA h.lv u];exact B
   grind
  rename_i b i;split at B
  next y u=>rw[h.any u,mA h.lv u];exact B
  rename_i w;split at B
  .rename_i z;split at B
   .rename_i y u
    cases D:cg c' f args (List.take b H)with
    | some G=>exact(zF h.lv w u D).elim
    | none=>simp only[if_pos z,h.any u,mA h.lv u];exact B
   grind
  grind
 .split at B
  .exact h.yld _ _ _ _ B
  split at B
  next z=>rw[if_pos z];exact h.yld _ _ _ _ B
  grind
 grind
theorem DX (h:CR E c c') {place:Option (Nat×Nat)} {o:Oper} {r:Frame×bl} (B:gp E c n ops place o F H=some r):gp E c' n ops place o F H=some r:=by
 unfold gp at B ⊢;split at B
 .rename_i u;rw[if_pos u];split at B
  next v H1 w=>rw[PC h w];omega
  grind
 grind
theorem BU (h:CR E c c') {r:Frame×bl}:∀(l:List Oper) {F:Frame} {H:bl},lU E c n ops l F H=some r->lU E c' n ops l F H=some r
 | [],_,_,B=>B
 | o::l,F,H,B=>by
  simp[lU]at B ⊢;split at B
  next F1 H1 D=>rw[DX h D];exact BU h l B
  grind
theorem CJ (h:CR E c c') {base:Nat} {r:Frame×bl}:∀(l:List Nat) {F:Frame} {H:bl},jD E c n ops base l F H=some r->jD E c' n ops base l F H=some r
 | [],_,_,B=>B
 | i::l,F,H,B=>by
  simp[jD]at B ⊢;split at B
  .split at B
   next F1 H1 D=>rw[DX h D];exact CJ h l B
   grind
  grind
theorem E4 (h:CR E c c') {B:Bool} {r:Frame×bl} (D:jk E c n ops B F H=some r):jk E c' n ops B F H=some r:=by
 unfold jk at D ⊢;split
 .rename_i u;rw[if_pos u]at D;split at D
  next w=>rw[if_pos w];exact CJ h _ D
  grind
 rename_i u;rw[if_neg u]at D;exact BU h _ D
theorem Bh (h:CR E c c') {lf B:Nat} (J:lf<=B) (ro:Bool) (nt:Nat):∀(code:Code) {F:Frame} {H:bl} {r:Out×Frame×bl},exec E c lf ro nt code F H=some r->exec E c' B ro nt code F H=some r:=by
 intro code
 induction code with
 | skip=>intro F H r u;exact u
 | label l=>intro F H r u;exact u
 | region id ops D=>
  intro F H r u;simp only[exec,ζf]at u ⊢;obtain⟨x,I,rfl⟩:=u;exact⟨x,E4 h I,rfl⟩
 | seq a b z C=>
  intro F H r u;simp[exec]at u ⊢
  grind
 | cond x a b z C=>
  intro F H r u;simp[exec]at u ⊢
  grind
 | block id a G=>
  intro F H r u;simp[exec]at u ⊢
  grind
 | loop a G=>
  intro F H r u;exact yu (λF H r hr=>G hr) lf B J u
 | rangeFunc g ps O Q _ _=>
  intro F H r u;simp[exec]at u ⊢;split at u
  .split at u
   next L H1 hc=>rw[h.rng _ _ _ _ Zc hc];omega
   grind
  grind
 | exit id=>intro F H r u;exact u
 | ret=>intro F H r u;exact u
 | scope a _=>intro F H r u;simp[exec]at u
 | goto l=>intro F H r u;simp[exec]at u
 | refuse w=>intro F H r u;simp[exec]at u
theorem za (h:CR E c c') {n m:Nat} (D:n<=m) {x:Callee} {a:List V} {r:V×bl} (B:jx E c n x a H=some r):jx E c' m x a H=some r:=by
 cases x with
 | fn f=>
  rw[jx]at B ⊢;split at B
  .split at B
   .rename_i I;split at B
    .simp_all
    .rename_i o F1 H1 J L;rw[Bh h D _ _ _ L]
     grind
    grind
   grind
  split at B
  next O=>rw[if_pos O];exact C6 h.lv (λg args y hk Q=>h.Ly _ _ _ _ hk Q) B
  grind
 | yld id=>
  rw[jx]at B ⊢;split at B
  .split at B
   .split at B
    .rename_i u;split at B
     .rename_i S H2 z;split at B
      .rename_i r2 C;split at B
       .rename_i w;split at B
        next o T U G=>simp only[if_pos u,Bh h D _ _ _ z,C,w,Bh h D _ _ _ G];omega
        grind
       grind
      grind
     grind
    grind
   grind
  grind
mutual
def V.same:Nat->V->V->Bool
 | 0,_,_=>false
 | _+1,.bool a,.bool b=>a==b
 | _+1,.int k a,.int l b=>decide (k=l)&&decide (a=b)
 | _+1,.str a,.str b=>decide (a.data.toList=b.data.toList)
 | _+1,.bK,.bK=>true
 | _+1,.dD,.dD=>true
 | _+1,.gY,.gY=>true
 | _+1,.f_,.f_=>true
 | _+1,.ru,.ru=>true
 | n+1,.agg a,.agg b=>V.qA n a b
 | n+1,.tup a,.tup b=>V.qA n a b
 | n+1,.fptr a,.fptr b=>V.qA n a b
 | n+1,.fsl e a,.fsl B b=>Nat.beq e B&&V.yN n a b
 | n+1,.clo f a b,.clo D a' G=>Nat.beq f D&&V.qA n a a'&&V.qA n b G
 | _+1,_,_=>false
def V.qA:Nat->List V->List V->Bool
 | 0,_,_=>false
 | _+1,[],[]=>true
 | n+1,a::r,b::s=>V.same n a b&&V.qA n r s
 | _+1,_,_=>false
def V.yN:Nat->List (List V)->List (List V)->Bool
 | 0,_,_=>false
 | _+1,[],[]=>true
 | n+1,a::r,b::s=>V.qA n a b&&V.yN n r s
 | _+1,_,_=>false
end
theorem Q9:∀n,(∀a b,V.same n a b=true->a=b)/\(∀a b,V.qA n a b=true->a=b)/\(∀a b,V.yN n a b=true->a=b):=by
 intro n
 induction n with
 | zero=>exact⟨λa b h=>by simp[V.same]at h,λa b h=>by simp[V.qA]at h,λa b h=>by simp[V.yN]at h⟩
 | succ n u=>
  obtain⟨i1,i2,i3⟩:=u;refine⟨λa b h=>?_,λa b h=>?_,λa b h=>?_⟩
  .cases a <;> cases b <;> simp only[V.same,ζh,decide_eq_true_eq,Bool.false_eq_true]at h <;> first|rfl|grind|skip
   all_goals first
    | grind
    | grind
    | grind
    | (rw[Nat.eq_of_beq_eq_true h.1,i3 _ _ h.2])
    | (rw[Nat.eq_of_beq_eq_true h.1.1,i2 _ _ h.1.2,i2 _ _ h.2])
    | (congr 1;exact ByteArray.ext (Array.ext' h))
  .cases a <;> cases b <;> simp[V.qA]at h <;> first|rfl|grind|grind
  cases a <;> cases b <;> simp[V.yN]at h <;> first|rfl|grind|grind
structure gZ where
 f:FuncId
 az:List V
 y:V
def xz:List gZ->FuncId->List V->Option V
 | [],_,_=>none
 | k::r,f,az=>bif Nat.beq k.f f&&V.qA 1000 k.az az then some k.y else xz r f az
theorem BS:∀{l:List gZ} {f:FuncId} {az:List V} {y:V},xz l f az=some y->∃k∈l,k.f=f/\k.az=az/\k.y=y
 | [],_,_,_,h=>by simp[xz]at h
 | k::r,f,az,y,h=>by
  unfold xz at h
  cases B:Nat.beq k.f f&&V.qA 1000 k.az az with
  | true=>
   simp only[ζh]at B;exact⟨k,List.mem_cons_self ..,Nat.eq_of_beq_eq_true B.1,(Q9 1000).2.1 _ _ B.2,by grind⟩
  | false=>
   rw[B]at h;obtain⟨q,h1,D⟩:=BS h
   grind
def Fb (E:Env) (l:List gZ) (c:dx) (n:Nat):Callee->List V->bl->Option (V×bl)
 | .fn f,az,[]=>match xz l f az with
  | some y=>some (y,[])
  | none=>jx E c n (.fn f) az []
 | x,az,H=>jx E c n x az H
def runM (E:Env) (l:List gZ):Nat->dx
 | 0=>⟨0,λ_ _ _=>none⟩
 | n+1=>⟨n+1,Fb E l (runM E l n) n⟩
theorem Sj (E:Env) (l:List gZ):∀n,(runM E l n).lv=n
 | 0=>rfl
 | _+1=>rfl
theorem Ma {l:List gZ} {n:Nat} {x:Callee} {a:List V} {H:bl}:runM E l (n+1) x a H=Fb E l (runM E l n) n x a H:=rfl
def uV (E:Env) (n:Nat) (k:gZ):Prop:=∃r H1,run E n (.fn k.f) k.az []=some (r,H1)/\borrow n H1 r=some k.y
structure j_ (E:Env) (k:gZ):Prop where
 keep:E.keep k.f=false
 cl:k.y.closed=true
 at_:∃n,uV E n k
theorem uV.le {n m:Nat} {k:gZ} (h:uV E n k) (B:n<=m):uV E m k:=by
 obtain⟨r,H1,h1,u⟩:=h;exact⟨r,H1,(nr E B).go _ _ _ _ h1,rC B u⟩
theorem zd:∀{l:List gZ},(∀k∈l,j_ E k)->∃N,∀k∈l,uV E N k
 | [],_=>⟨0,by simp⟩
 | k::r,h=>by
  obtain⟨N,B⟩:=zd (λq hq=>h q (List.mem_cons_of_mem _ hq))
  obtain⟨n,u⟩:=(h k (List.mem_cons_self ..)).at_;refine⟨max N n,λq hq=>?_⟩
  rcases List.mem_cons.1 hq with rfl|hq
  .exact u.le (Nat.le_max_right ..)
  exact(B q hq).le (Nat.le_max_left ..)
theorem zc {l:List gZ} {x:Callee} {az:List V} (h:H≠[]\/(∃id,x=.yld id)\/∃f,x=.fn f/\xz l f az=none):runM E l (n+1) x az H=jx E (runM E l n) n x az H:=by
 rcases h with h|⟨id,rfl⟩|⟨f,rfl,h⟩
 .cases x with
  | yld id=>rfl
  | fn f=>
   cases H with
   | nil=>exact absurd rfl h
   | cons a r=>rfl
 .rfl
 cases H with
 | nil=>rw[Ma,Fb,h]
 | cons a r=>rfl
theorem IL {l:List gZ} {N:Nat} (D:∀k∈l,j_ E k) (G:∀k∈l,uV E N k):∀n,CR E (runM E l n) (run E (N+n)):=by
 intro n
 induction n with
 | zero=>
  refine⟨Nat.zero_le _,λf args H y _ h=>?_,λf args H r _ h=>(by cases h),λid args H r h=>(by cases h),λf args H r _ h=>(by cases h)⟩
  unfold cg at h;split at h
  .cases h
  cases h
 | succ n I=>
  have up:∀{x:Callee} {az:List V} {H:bl} {r:V×bl},jx E (runM E l n) n x az H=some r->run E (N+(n+1)) x az H=some r:=λh=>by
   rw[show N+(n+1)=(N+n)+1 from rfl,Fh];exact za I (Nat.le_add_left ..) h
  have w:(runM E l (n+1)).lv<=(run E (N+(n+1))).lv:=by rw[Sj,nC];exact Nat.le_add_left ..
  refine⟨w,λf args H y hk h=>?_,λf args H r hk h=>?_,λid args H r h=>?_,λf args H r B h=>?_⟩
  .unfold cg at h ⊢;split at h
   .rename_i az has;rw[sC w has];split at h
    .rename_i r H1 hc
     cases z:xz l f az with
     | none=>
      rw[zc (.inr (.inr ⟨f,rfl,z⟩))]at hc;simp only;rw[up hc];split at h
      next Q J=>simp only;rw[rC w J];exact h
      cases h
     | some S=>
      rw[Ma,Fb,z]at hc;obtain⟨rfl,rfl⟩:=hc;obtain⟨k,u,rfl,rfl,rfl⟩:=BS z;have ok:=D k u;obtain⟨r1,H2,h1,L⟩:=(G k u).le (Nat.le_add_right N (n+1));rw[jW _ _ ok.cl]at h;simp only[h1,nC,L];exact h
    cases h
   cases h
  .by_cases z:H≠[]\/(∃id,(Callee.fn f)=.yld id)\/∃C,Callee.fn f=.fn C/\xz l C args=none
   .rw[zc z]at h;exact up h
   cases O:xz l f args with
   | none=>grind
   | some y=>
    obtain⟨k,u,rfl,_,_⟩:=BS O;rw[(D k u).keep]at hk;cases hk
  .exact up h
  rw[zc (.inl B)]at h;exact up h
def Tk (E:Env) (l:List gZ) (n:Nat) (k:gZ):Option V:=
 match jx E (runM E l n) n (.fn k.f) k.az []with
 | some (r,H1)=>borrow n H1 r
 | none=>none
theorem mR {l:List gZ} (B:∀k∈l,j_ E k) {k:gZ} (h:(Tk E l n k,k.y.closed,E.keep k.f)=(some k.y,true,false)):j_ E k:=by
 simp  at h;obtain⟨N,u⟩:=zd B;refine⟨h.2.2,h.2.1,N+n+1,?_⟩;have h1:=h.1;unfold Tk at h1;split at h1
 .rename_i r H1 w;refine⟨r,H1,?_,rC Za h1⟩
  exact za (IL B u n) (Nat.le_add_left ..) w
 grind
def Qr (E:Env) (l:List gZ) (n:Nat) (f:FuncId) (az:List V):Bool:=
 match jx E (runM E l n) n (.fn f) az []with
 | some (.bool b,_)=>b
 | _=>false
theorem K1 {l:List gZ} (B:∀k∈l,j_ E k) {f:FuncId} {az:List V} (h:Qr E l n f az=true):∃n H1,run E n (.fn f) az []=some (.bool true,H1):=by
 obtain⟨N,u⟩:=zd B;unfold Qr at h;split at h
 next b H1 w=>subst h;exact⟨N+n+1,H1,(za (IL B u n) (Nat.le_add_left ..) w)⟩
 simp_all
end
end Go.VE
