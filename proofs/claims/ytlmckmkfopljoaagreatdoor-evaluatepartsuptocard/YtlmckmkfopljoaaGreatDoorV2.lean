/-
 The engine: operations of the loaded code on values without a heap; a run of it is a run of the program.
-/
import Derived.RangeFuncRecord
import Derived.Shelf.SlSortCmp.NoneTotal
import Derived.RangeFuncLeaves
import Derived.Laws.StructEq
import Derived.ChangeKeysEq
import Derived.Test.YtlmckmkfopljoaaGreatDoorV1
set_option linter.all false
namespace Go.VE
variable [bK]
def Out.F9:Out->Exit
 | .norm=>.normal
 | .exit id=>.exit id
 | .ret=>.ret
theorem exists_least (p:Nat->Prop):∀k,p k->∃m,p m/\∀j,p j->m<=j:=by
 intro k
 induction k using Nat.strongRecOn with
 | _ k z=>
  intro hk
  by_cases h:∃j,j<k/\p j
  .obtain⟨j,B,u⟩:=h;exact z j B u
  exact⟨k,hk,λj u=>Nat.le_of_not_lt λw=>h ⟨j,w,u⟩⟩
open Classical in
noncomputable def least (p:Nat->Prop):Nat:=if h:∃m,p m/\∀j,p j->m<=j then h.choose else 0
theorem Ib (p:Nat->Prop) {k:Nat} (hk:p k):p (least p)/\least p<=k:=by
 have h:=exists_least p k hk;unfold least;rw[dif_pos h];exact⟨h.choose_spec.1,h.choose_spec.2 k hk⟩
section
variable {P:Program} {E:Env} {I I':b9} {μ μ':Mu} {H H':bf} {n B:Nat} {F F':Frame} {a:Act} {w w':World}
def Post (B n:Nat) (I:b9) (μ:Mu) (H:bf) (w:World) (o:Out) (F':Frame) (H':bf):Exit->Act->World->Prop:=
 λe u w'=>e=o.F9/\(∃I' μ',dR I' μ' n F' u.tmps/\cM I' μ' H' w'/\Step I μ H w I' μ' H' w')/\iZ B u.defers w'
theorem Post.mono {I1:b9} {u:Mu} {H1:bf} {z:World} {o:Out} (D:cM I1 u H1 z) (st:Step I μ H w I1 u H1 z) {e:Exit} {a':Act} {w':World} (h:Post B n I1 u H1 z o F' H' e a' w') :
 Post B n I μ H w o F' H' e a' w':=by
 obtain⟨h1,⟨I',μ',C,G,J⟩,L⟩:=h;exact⟨h1,⟨I',μ',C,G,Step.trans D st J⟩,L⟩
theorem cM.zn (s:cM I μ H w) {b:Nat} (o:Obj) (z:I b=none) (B:¬gw μ H b):cM I μ H (e8 w b o) where
 dom:=s.dom
 imm:=λC x h=>IC.pV (s.imm C x h) (fK o (by rintro rfl;rw[z]at h;cases h))
 obs:=λid ob h=>(s.obs id ob h).mono (b9.le_refl _) (Mu.le_refl _) (λp D G=>by
  have u:gw μ H p.b:=⟨id,p,ob,h,G,D,rfl⟩;exact⟨fK o (λe=>B (e▸u)),fq s u⟩) (λJ=>by subst J;exact s.obs id _ h)
 inj:=s.inj
 gl:=s.gl
theorem Pq (s:cM I μ H w) {b:Nat} {o:Obj} (h:w.heap[b]? = some o) (h1:∀c e f,o≠.cells c e f) (u:∀es c,o≠.map es c):I b=none:=by
 cases z:I b with
 | none=>rfl
 | some x=>
  have:=s.imm b x z
  cases x with
  | cells c=>obtain⟨_,_,q⟩:=this;rw[h]at q;cases q;exact absurd rfl (h1 _ _ _)
  | map es=>obtain⟨_,q⟩:=this;rw[h]at q;cases q;exact absurd rfl (u _ _)
theorem Step.kept (hk:∀b,b<w.heap.size->w'.heap[b]? = w.heap[b]?) (u:w.heap.size<=w'.heap.size) (h1:w'.os=w.os) (z:tG w w') (B:∀a:Addr,a.block<w.heap.size->w.frozen? a=false->w'.frozen? a=false):Step I μ H w I μ H w':=
 ⟨b9.le_refl _,Mu.le_refl _,Nat.le_refl _,u,λb C _=>hk b C,λ_ h=>h.elim .inl λh=>.inr (.inl h),h1,z,B⟩
theorem Step.after (st:Step I μ H w I' μ' H' w') {b:Nat} (o:Obj) (z:w.heap.size<=b) (B:Obj.nf o:=by first|exact rD _ _|exact pM rfl):Step I μ H w I' μ' H' (e8 w' b o):=
 ⟨st.le,st.mu,st.len,by rw[uY];exact st.size,λC u D=>by rw[fK o Za];exact st.frame C u D,st.terr,st.os,⟨st.out.out,st.out.tape,st.out.dr⟩,λa z G=>Q6 B a (st.fz a z G)⟩
theorem iZ.zn {ds:List Deferred} (h:iZ B ds w) {b:Nat} {o:Obj} (z:∀r,w.heap[r]? = some (.deferred (some []))->r≠b):iZ B ds (e8 w b o):=
 ⟨λd hd=>by
  obtain⟨r,h1,C,u⟩:=h.all d hd;exact⟨r,h1,C,by rw[fK o (z r u)];exact u⟩,h.apart⟩
theorem IM {step:Frame->bf->Option (Out×Frame×bf)} {c:Code} {ro:Option Nat} {o:Out}
 (z:∀I μ F H a w o F' H',step F H=some (o,F',H')->dR I μ n F a.tmps->cM I μ H w->iZ B a.defers w->B<=w.heap.size->c.wpIn (fr ro) 0 P (Post B n I μ H w o F' H') a w)
 {k:Nat} (h:jx step k F H=some (o,F',H')) (r:dR I μ n F a.tmps) (s:cM I μ H w) (m:iZ B a.defers w) (hB:B<=w.heap.size) :
 (Code.loop c).wpIn (fr ro) 0 P (Post B n I μ H w o F' H') a w:=by
 let Inv:Nat->Act->World->Prop:=λk u w'=>∃I1 J F1 H1,jx step k F1 H1=some (o,F',H')/\dR I1 J n F1 u.tmps/\cM I1 J H1 w'/\Step I μ H w I1 J H1 w'/\iZ B u.defers w'/\B<=w'.heap.size
 let M:Act->World->Nat:=λu w'=>least (λk=>Inv k u w')
 have hM:∀k u w',Inv k u w'->Inv (M u w') u w'/\M u w'<=k:=λk u w' hi=>Ib (λk=>Inv k u w') hi
 refine wpIn_loop (λu w'=>∃k,Inv k u w') M ⟨k,I,μ,F,H,h,r,s,.refl _ _ _ _,m,hB⟩ ?_
 rintro T U ⟨k1,W⟩;obtain⟨hi,_⟩:=hM k1 T U W;generalize hk:M T U=kk at hi;obtain⟨I1,J,F1,H1,L,r1,O,D,m1,G⟩:=hi
 cases kk with
 | zero=>simp[jx]at L
 | succ kk=>
  simp only[jx]at L;split at L
  next F2 H2 X=>refine wpIn_mono (z I1 J F1 H1 T U .norm F2 H2 X r1 O m1 G) ?_;rintro e Q S ⟨rfl,⟨I2,μ2,r2,s2,st2⟩,m2⟩;show (∃k,Inv k Q S)/\M Q S<kk+1;have C:Inv kk Q S:=⟨I2,μ2,F2,H2,L,r2,s2,Step.trans O D st2,m2,Nat.le_trans G st2.size⟩;exact⟨⟨kk,C⟩,Nat.lt_succ_of_le (hM kk Q S C).2⟩
  rename_i Y;refine wpIn_mono (z I1 J F1 H1 T U o F' H' L r1 O m1 G) ?_;intro e Q S hp;have Z:o≠.norm:=by
   rintro rfl;exact Y F' H' L
  obtain⟨rfl,h2,h3⟩:=hp
  cases o with
  | norm=>exact absurd rfl Z
  | exit id=>exact Post.mono O D ⟨rfl,h2,h3⟩
  | ret=>exact Post.mono O D ⟨rfl,h2,h3⟩
end
end Go.VE
namespace Go.VE
variable [bK]
section
variable {P:Program} {E:Env} {I I':b9} {μ μ':Mu} {H H':bf} {n B:Nat} {F F':Frame} {a:Act} {w w':World}
theorem zh (s:cM I μ H w) {id:Nat} {r:tO} (h:H[id]? = some (.loop r)):∃p l,μ id=some p/\I p.b=none/\w.heap[p.b]? = some (.loop l)/\tR I μ r l:=s.obs id _ h
theorem EB {p:Option Out} (hp:p≠some .norm):(p.bind jL=none->p.getD .norm=.norm)/\(∀c,p.bind jL=some c->(c=.ret/\p.getD .norm=.ret)\/∃id,c=.exit id/\p.getD .norm=.exit id):=by
 cases p with
 | none=>grind
 | some o=>
  cases o with
  | norm=>grind
  | ret=>exact⟨by simp[jL],by simp[jL]⟩
  | exit id=>exact⟨by simp[jL],by simp[jL]⟩
theorem GG {call:dw} (hc:jD P call) {g:Operand} {ps:Array Tmp} {assign body:Code} {o:Out} {lf:Nat}
 (h:exec E call lf false n (.rangeFunc g ps assign body) F H=some (o,F',H')) (r:dR I μ n F a.tmps) (s:cM I μ H w) (m:iZ B a.defers w) (hB:B<=w.heap.size) :
 (Code.rangeFunc g ps assign body).wpIn (fr none) 0 P (Post B n I μ H w o F' H') a w:=by
 cases hg:ev F g with
 | none=>simp[exec,hg]at h
 | some gv=>
 cases gv with
 | clo f x y=>
  simp[exec,hg]at h;split at h
  .rename_i an H2 O;split at h
   .rename_i r2 G;have Y:r2.st≠.busy/\r2.pend.getD .norm=o/\F=F'/\H2.set H.length .dead=H':=by
     grind
    obtain⟨Y,rfl,rfl,rfl⟩:=Y;obtain⟨u,v,eg,hu,hv⟩:=(dc r hg).jJ;refine wpIn_rangeFunc λC _=>?_
    have Z:∀b,b<w.heap.size->(w.alloc (.deferred (some []))).heap[b]? = w.heap[b]? := λb hb=>kn _ b hb
    have s1  := s.kept Z;have ae:Step I μ H w I μ H (w.alloc (.deferred (some []))):=Step.kept Z Zc rfl ⟨rfl,rfl,Nat.le_refl _⟩ (λa _=>J6 (pM rfl) a)
    have af:tR I μ ⟨.ready,none,F,n,ps.toList,assign,body⟩ { state:=.ready,pending:=none,fn:=C,tmps:=a.tmps,params:=ps,assign,body,defers:=w.heap.size }:=
     ⟨trivial,rfl,by simp,r,rfl,rfl,rfl⟩
    obtain⟨s2,st2⟩:=s1.push (ob:=.loop ⟨.ready,none,F,n,ps.toList,assign,body⟩)
     (o:=.loop { state:=.ready,pending:=none,fn:=C,tmps:=a.tmps,params:=ps,assign,body,defers:=w.heap.size }) (p:=⟨w.heap.size+1,0,0,0⟩) Zc
     ⟨_,_,Mu.fG _ _ _,by have:=s1.wT;simp_all,by have:=kZ (w:=w.alloc (.deferred (some []))) (.loop { state:=.ready,pending:=none,fn:=C,tmps:=a.tmps,params:=ps,assign,body,defers:=w.heap.size });simp_all,
      af.mono (b9.le_refl _) (Mu.oS (s1.dom _ (Nat.le_refl _)))⟩
    have Q :=
     (hu.mono (b9.le_refl _) st2.mu).append (.cons (.yld H.length ⟨w.heap.size+1,0,0,0⟩ (Mu.fG _ _ _)) (hv.mono (b9.le_refl _) st2.mu))
    obtain⟨hf,J⟩:=hc.fn f _ _ _ _ O;refine⟨w.heap.size+1,[{ target:=.collected w.heap.size,args:=#[] }],((w.alloc (.deferred (some []))).alloc (.loop { state:=.ready,pending:=none,fn:=C,tmps:=a.tmps,params:=ps,assign,body,defers:=w.heap.size })),{ target:=.fn (.func f) v,args:=u++#[.func (.yield (w.heap.size+1)) #[] #[]] },((w.alloc (.deferred (some []))).alloc (.loop { state:=.ready,pending:=none,fn:=C,tmps:=a.tmps,params:=ps,assign,body,defers:=w.heap.size })),f,u++#[.func (.yield (w.heap.size+1)) #[] #[]]++v,((w.alloc (.deferred (some []))).alloc (.loop { state:=.ready,pending:=none,fn:=C,tmps:=a.tmps,params:=ps,assign,body,defers:=w.heap.size })),
     run_enterLoop_outer C a.tmps ps assign body,?_,λ_ _=>trivial,?_,λh=>by simp[fr]at h,?_⟩
    .simp[resolve];rw[eg];simp[Deferred.ofValue,Act.eval]
    .exact vf hf _
    have aa:=J _ _ _ _ s2 Q;have S:(u.toList++.func (.yield (w.heap.size+1)) #[] #[]::v.toList).toArray=u++#[.func (.yield (w.heap.size+1)) #[] #[]]++v:=by grind
    rw[S]at aa;refine aa.mono ?_;rintro e w3 ⟨am,I3,μ3,rfl,_,s3,T⟩;obtain⟨p,l,g1,g2,g3,g4⟩:=zh s3 G;have hp:p=⟨w.heap.size+1,0,0,0⟩:=by
     have:=T.mu _ _ (Mu.fG μ H.length ⟨w.heap.size+1,0,0,0⟩)
     grind
    subst hp;have L:l.state≠.busy:=by
     intro he;have:=g4.st;rw[he]at this;cases ah:r2.st <;> rw[ah]at this <;> simp[zB.is]at this
     grind
    refine⟨l.pending,_,run_endLoop g3 L,?_⟩;obtain⟨s4,ai⟩:=s3.kill G;have U:¬gw μ3 (H2.set H.length .dead) (w.heap.size+1):=by
     rintro⟨id,q,ob,h1,h2,W,h4⟩
     by_cases e:id=H.length
     .subst e;rw[List.getElem?_set_self (ζe.1 G).1]at h1;cases h1;simp[Ob.live]at h2
     rw[List.getElem?_set_ne (Ne.symm e)]at h1;exact e (s3.inj id H.length ob _ q _ h1 G h2 rfl W g1 h4)
    have s5:cM I3 μ3 (H2.set H.length .dead) (e8 w3 (w.heap.size+1) (.loop { l with state:=.exhausted })):=s4.zn _ g2 U;have st  := Step.trans s1 ae (Step.trans s2 st2 (Step.trans s3 T ai));have aj:Step I μ H w I3 μ3 (H2.set H.length .dead) (e8 w3 (w.heap.size+1) (.loop { l with state:=.exhausted })):=st.after _ Za
    have m2:iZ B ({ target:=.collected w.heap.size,args:=#[] }::a.defers) ((w.alloc (.deferred (some []))).alloc (.loop { state:=.ready,pending:=none,fn:=C,tmps:=a.tmps,params:=ps,assign,body,defers:=w.heap.size })):=by
     refine⟨?_,?_⟩
     .intro d hd;rcases List.mem_cons.1 hd with rfl|hd
      .refine⟨w.heap.size,rfl,hB,?_⟩;rw[kn _ _ Zc];exact kZ _
      obtain⟨q,h1,h2,W⟩:=m.all d hd;have X:=(Array.getElem?_eq_some_iff.1 W).1;refine⟨q,h1,h2,?_⟩;rw[kn _ _ (by simp;omega),kn _ _ X];exact W
     refine List.Pairwise.cons ?_ m.apart;intro d hd q X ab;obtain⟨q2,h1,h2,W⟩:=m.all d hd;have:=(Array.getElem?_eq_some_iff.1 W).1;cases X;rw[h1]at ab;cases ab;omega
    have m3:=m2.step s2 T;have m5:iZ B ({ target:=.collected w.heap.size,args:=#[] }::a.defers) (e8 w3 (w.heap.size+1) (.loop { l with state:=.exhausted })):=
     m3.zn (λq X e=>by subst e;rw[g3]at X;cases X)
    have ak  := st.le;have al  := st.mu;have z:∀D:Out,r2.pend.getD .norm=D->Post B n I μ H w D F (H2.set H.length .dead) D.F9 { a with defers:=[{ target:=.collected w.heap.size,args:=#[] }]++a.defers } (e8 w3 (w.heap.size+1) (.loop { l with state:=.exhausted })):=
     λD _=>⟨rfl,⟨I3,μ3,r.mono ak al,s5,aj⟩,m5⟩
    obtain⟨W5,ad⟩:∃W5,w3.putObj (w.heap.size+1) (.loop { l with state:=.exhausted })=W5:=⟨_,rfl⟩;have z:∀D:Out,r2.pend.getD .norm=D->Post B n I μ H w D F (H2.set H.length .dead) D.F9 { a with defers:=[{ target:=.collected w.heap.size,args:=#[] }]++a.defers } W5:=by
     intro D ho;rw[<-ad];exact z D ho
    rw[ad];obtain⟨k1,k2⟩:=EB g4.pendOk;rw[g4.pend]
    cases hj:r2.pend.bind jL with
    | none=>rw[k1 hj];exact z .norm (k1 hj)
    | some c=>
     rcases k2 c hj with⟨rfl,e⟩|⟨id,rfl,e⟩
     .rw[e];exact wpIn_ret (z .ret e)
     rw[e];exact wpIn_exit (z (.exit id) e)
   grind
  grind
 | _=>simp[exec,hg]at h
theorem wX (hE:dV P E) (hm:P.follows .mixedOrders=true) {call:dw} (hc:jD P call) (lf:Nat) (ro:Option Nat) (T:Bool) (aa:T=ro.isSome) (n:Nat) :
 ∀(c:Code) (I:b9) (μ:Mu) (F:Frame) (H:bf) (a:Act) (w:World) (o:Out) (F':Frame) (H':bf),exec E call lf T n c F H=some (o,F',H')->dR I μ n F a.tmps->cM I μ H w ->
  iZ B a.defers w->B<=w.heap.size->c.wpIn (fr ro) 0 P (Post B n I μ H w o F' H') a w:=by
 intro c
 induction c with
 | skip=>
  intro I μ F H a w o F' H' h r s m _;obtain⟨rfl,rfl,rfl⟩:=h;exact wpIn_skip ⟨rfl,⟨I,μ,r,s,.refl _ _ _ _⟩,m⟩
 | label l=>
  intro I μ F H a w o F' H' h r s m _;obtain⟨rfl,rfl,rfl⟩:=h;exact wpIn_label ⟨rfl,⟨I,μ,r,s,.refl _ _ _ _⟩,m⟩
 | region id ops Y=>
  intro I μ F H a w o F' H' h r s m _;simp only[exec,ζf]at h;obtain⟨⟨F2,H2⟩,h,rfl,rfl,rfl⟩:=h;refine D7 hE hm hc ro h r s (λa' I' μ' w' h1 z C Z=>⟨rfl,⟨I',μ',h1,C,Z⟩,?_⟩)
  rw[z];exact m.step s Z
 | seq x y D G=>
  intro I μ F H a w o F' H' h r s m u;simp[exec]at h;refine wpIn_seq ?_;split at h
  next F1 H1 h1=>refine wpIn_mono (D I μ F H a w _ F1 H1 h1 r s m u) ?_;rintro e J L ⟨rfl,⟨I1,μ1,r1,s1,O⟩,m1⟩;refine wpIn_mono (G I1 μ1 F1 H1 J L o F' H' h r1 s1 m1 (Nat.le_trans u O.size)) ?_;intro e a2 w2 hp;exact Post.mono s1 O hp
  refine wpIn_mono (D I μ F H a w o F' H' h r s m u) ?_;rintro e J L ⟨rfl,z,C⟩
  cases o with
  | norm=>grind
  | exit id=>exact⟨rfl,z,C⟩
  | ret=>exact⟨rfl,z,C⟩
 | cond c x y D G=>
  intro I μ F H a w o F' H' h r s m u;simp[exec]at h;split at h
  .rename_i t U;have W:=(dc r U).pQ;refine wpIn_cond W ?_
   grind
  grind
 | block id c S=>
  intro I μ F H a w o F' H' h r s m u;simp[exec]at h;refine wpIn_block ?_;split at h
  .rename_i Q F1 H1 h1;refine wpIn_mono (S I μ F H a w _ F1 H1 h1 r s m u) ?_;rintro e J L ⟨rfl,z,C⟩;show Exit.inBlock id _ (.exit Q) J L;unfold Exit.inBlock;split at h
   next X=>obtain⟨rfl,rfl,rfl⟩:=h;simp[X];exact⟨rfl,z,C⟩
   rename_i X;obtain⟨rfl,rfl,rfl⟩:=h;simp[X];exact⟨rfl,z,C⟩
  refine wpIn_mono (S I μ F H a w o F' H' h r s m u) ?_;rintro e J L ⟨rfl,z,C⟩
  cases o with
  | norm=>exact⟨rfl,z,C⟩
  | exit Q=>grind
  | ret=>exact⟨rfl,z,C⟩
 | loop c S=>
  intro I μ F H a w o F' H' h r s m u;exact IM (λI μ F H a w o F' H' h r s m u=>S I μ F H a w o F' H' h r s m u) h r s m u
 | rangeFunc g ps assign body _ _=>
  intro I μ F H a w o F' H' h r s m u
  cases T with
  | true=>simp[exec]at h
  | false=>
   cases ro with
   | none=>exact GG hc h r s m u
   | some l=>simp_all
 | exit id=>
  intro I μ F H a w o F' H' h r s m _;obtain⟨rfl,rfl,rfl⟩:=h;exact wpIn_exit ⟨rfl,⟨I,μ,r,s,.refl _ _ _ _⟩,m⟩
 | ret=>
  intro I μ F H a w o F' H' h r s m _;obtain⟨rfl,rfl,rfl⟩:=h;exact wpIn_ret ⟨rfl,⟨I,μ,r,s,.refl _ _ _ _⟩,m⟩
 | scope body _=>intro I μ F H a w o F' H' h;simp[exec]at h
 | goto l=>intro I μ F H a w o F' H' h;simp[exec]at h
 | refuse ab=>intro I μ F H a w o F' H' h;simp[exec]at h
end
theorem qe {f g:V->Option V} (h:∀x y,f x=some y->g x=some y):∀{l:List V} {r:List V},hG f l=some r->hG g l=some r
 | [],_,hr=>hr
 | x::l,r,hr=>by
  simp only[hG]at hr ⊢;split at hr
  next y s h1 u=>rw[h _ _ h1,qe h u];exact hr
  cases hr
theorem Er {f g:V->Option V} (h:∀x y,f x=some y->g x=some y):∀{l:List (List V)} {r:List (List V)},j9 f l=some r->j9 g l=some r
 | [],_,hr=>hr
 | x::l,r,hr=>by
  simp only[j9]at hr ⊢;split at hr
  next y s h1 u=>rw[qe h h1,Er h u];exact hr
  cases hr
theorem E_ {f g:V->Option V} (h:∀x y,f x=some y->g x=some y):∀{l:List (V×V)} {r:List (V×V)},kf f l=some r->kf g l=some r
 | [],_,hr=>hr
 | (k,x)::l,r,hr=>by
  simp only[kf]at hr ⊢;split at hr
  next y s u h1 z B=>rw[h _ _ h1,h _ _ z,E_ h B];exact hr
  cases hr
theorem GQ {H:bf}:∀(n:Nat) (x y:V),borrow n H x=some y->borrow (n+1) H x=some y:=by
 intro n
 induction n with
 | zero=>
  intro x y h;simp only[borrow]at h;split at h
  next hc=>rw[kT _ _ hc];exact h
  cases h
 | succ n w=>
  intro x y h;unfold borrow at h ⊢;split
  next hc=>rw[if_pos hc]at h;exact h
  rename_i hc;rw[if_neg hc]at h
  cases x with
  | hsl id es off len=>
   simp only at h ⊢;split at h
   .split at h
    next q=>rw[if_pos q];obtain⟨r,h1,u⟩:=ζf.1 h;rw[Er w h1];exact congrArg some u
    cases h
   cases h
  | hptr id el off=>
   simp only at h ⊢;split at h
   .split at h
    .split at h
     next q=>rw[if_pos q];obtain⟨r,h1,u⟩:=ζf.1 h;rw[qe w h1];exact congrArg some u
     cases h
    cases h
   cases h
  | hmap id=>
   simp only at h ⊢;split at h
   .obtain⟨r,h1,u⟩:=ζf.1 h;rw[E_ w h1];exact congrArg some u
   cases h
  | clo f a b=>
   simp only at h ⊢;split at h
   next h1 u=>rw[qe w h1,qe w u];exact h
   cases h
  | agg cs=>
   simp only at h ⊢;obtain⟨r,h1,u⟩:=ζf.1 h;rw[qe w h1];exact congrArg some u
  | tup cs=>
   simp only at h ⊢;obtain⟨r,h1,u⟩:=ζf.1 h;rw[qe w h1];exact congrArg some u
  | _=>cases h
theorem pT {H:bf} {n m:Nat} (h:n<=m) {x y:V} (u:borrow n H x=some y):borrow m H x=some y:=by
 induction h with
 | refl=>exact u
 | step _ w=>exact GQ _ _ _ w
theorem qx {H:bf} {n m:Nat} (h:n<=m) {l r:List V} (u:borrows n H l=some r):borrows m H l=some r:=qe (λ_ _=>pT h) u
theorem Ay {f g:V->List Nat}:∀{l:List V},(∀x∈l,f x=g x)->cD f l=cD g l
 | [],_=>rfl
 | x::l,h=>by simp only[cD];rw[h x (List.mem_cons_self ..),Ay λy u=>h y (List.mem_cons_of_mem _ u)]
theorem nR {f:V->Option V}:∀{l r:List V},hG f l=some r->∀x∈l,∃y,f x=some y
 | [],_,_,x,hx=>by cases hx
 | a::l,r,h,x,hx=>by
  simp only[hG]at h;split at h
  .rename_i y s h1 u;rcases List.mem_cons.1 hx with rfl|hx
   .exact⟨y,h1⟩
   exact nR u x hx
  cases h
theorem Du {f:V->Option V}:∀{l r:List (List V)},j9 f l=some r->∀c∈l,∀x∈c,∃y,f x=some y
 | [],_,_,x,u=>by cases u
 | a::l,r,h,c,hc=>by
  simp only[j9]at h;split at h
  .rename_i y s h1 z;rcases List.mem_cons.1 hc with rfl|hc
   .exact nR h1
   exact Du z c hc
  cases h
theorem yC {f:V->Option V}:∀{l r:List (V×V)},kf f l=some r->∀c∈l,(∃y,f c.1=some y)/\∃y,f c.2=some y
 | [],_,_,x,z=>by cases z
 | (k,a)::l,r,h,c,hc=>by
  simp only[kf]at h;split at h
  .rename_i y s u h1 B D;rcases List.mem_cons.1 hc with rfl|hc
   .exact⟨⟨y,h1⟩,s,B⟩
   exact yC D c hc
  cases h
theorem IX {H:bf}:∀(n:Nat) (x y:V),borrow n H x=some y->bR (n+1) H x=bR n H x:=by
 intro n
 induction n with
 | zero=>
  intro x y h;simp only[borrow]at h;split at h
  next hc=>simp[bR,hc]
  cases h
 | succ n I=>
  intro x y h;have u:∀l:List V,(∀x∈l,∃y,borrow n H x=some y)->cD (bR (n+1) H) l=cD (bR n H) l:=λl J=>Ay λx w=>by
   obtain⟨y,L⟩:=J x w;exact I x y L
  unfold borrow at h;rw[bR.eq_def (n+1+1),bR.eq_def (n+1)];simp only;split
  .rfl
  rename_i hc;rw[if_neg hc]at h
  cases x with
  | hsl id es off len=>
   simp only at h ⊢
   cases hr:(H[id]?).bind Ob.rows with
   | none=>rfl
   | some q=>
    obtain⟨C,O⟩:=q;rw[hr]at h;simp only at h ⊢;split at h
    .obtain⟨r,h1,z⟩:=ζf.1 h;rw[u _ λx w=>by
      obtain⟨c,hc,D⟩:=List.mem_flatten.1 w;exact Du h1 c hc x D]
    cases h
  | hptr id el off=>
   simp only at h ⊢
   cases hr:(H[id]?).bind Ob.rows with
   | none=>rfl
   | some q=>
    obtain⟨C,O⟩:=q;rw[hr]at h;simp only at h ⊢;split at h
    .rename_i cs G;split at h
     .obtain⟨r,h1,z⟩:=ζf.1 h;rw[u _ λx w=>nR h1 x (by rw[G]at w;exact w)]
     cases h
    cases h
  | hmap id=>
   simp only at h ⊢;split at h
   .rename_i B hk;obtain⟨r,h1,z⟩:=ζf.1 h
    skip
    rw[u (B.map (·.1)) λx w=>by obtain⟨c,hc,rfl⟩:=List.mem_map.1 w;exact(yC h1 c hc).1,
     u (B.map (·.2)) λx w=>by obtain⟨c,hc,rfl⟩:=List.mem_map.1 w;exact(yC h1 c hc).2]
   cases h
  | clo f a b=>
   simp only at h ⊢;split at h
   next h1 z=>rw[u _ (nR h1),u _ (nR z)]
   cases h
  | agg cs=>
   simp only at h ⊢;obtain⟨r,h1,z⟩:=ζf.1 h;exact u _ (nR h1)
  | tup cs=>
   simp only at h ⊢;obtain⟨r,h1,z⟩:=ζf.1 h;exact u _ (nR h1)
  | _=>rfl
theorem L4 {H:bf} {n m:Nat} (h:n<=m) {x y:V} (u:borrow n H x=some y):bR m H x=bR n H x:=by
 induction h with
 | refl=>rfl
 | step h w=>rw[IX _ _ _ (pT h u),w]
theorem wo {H:bf} {n m:Nat} (h:n<=m) {l r:List V} (u:borrows n H l=some r):cD (bR m H) l=cD (bR n H) l:=
 Ay λx w=>by obtain⟨y,z⟩:=nR u x w;exact L4 h z
theorem mF {f g h:V->Option V} (k:∀x y z,f x=some y->g x=some z->h x=some z):∀{l r s:List V},hG f l=some r->hG g l=some s->hG h l=some s
 | [],_,_,_,u=>u
 | x::l,r,s,hr,u=>by
  simp only[hG]at hr u ⊢;split at hr
  .rename_i h1 B;split at u
   next D G=>rw[k _ _ _ h1 D,mF k B G];exact u
   cases u
  cases hr
theorem Bl {f g h:V->Option V} (k:∀x y z,f x=some y->g x=some z->h x=some z):∀{l r s:List (List V)},j9 f l=some r->j9 g l=some s->j9 h l=some s
 | [],_,_,_,u=>u
 | x::l,r,s,hr,u=>by
  simp only[j9]at hr u ⊢;split at hr
  .rename_i h1 B;split at u
   next D G=>rw[mF k h1 D,Bl k B G];exact u
   cases u
  cases hr
theorem BF {f g h:V->Option V} (k:∀x y z,f x=some y->g x=some z->h x=some z):∀{l r s:List (V×V)},kf f l=some r->kf g l=some s->kf h l=some s
 | [],_,_,_,u=>u
 | (a,x)::l,r,s,hr,u=>by
  simp only[kf]at hr u ⊢;split at hr
  .rename_i h1 B D;split at u
   next G J T=>rw[k _ _ _ h1 G,k _ _ _ B J,BF k D T];exact u
   cases u
  cases hr
theorem GJ {H H2:bf}:∀(n m:Nat) (x y z:V),borrow n H x=some y->borrow m H2 x=some z->(∀id:Nat,(H2[id]?).isSome=true->H2[id]? = H[id]?)->borrow n H2 x=some z:=by
 intro n
 induction n with
 | zero=>
  intro m x y z h k _;simp only[borrow]at h;split at h
  next hc=>rw[kT _ _ hc]at k ⊢;exact k
  cases h
 | succ n I=>
  intro m x y z h k B
  by_cases hc:x.closed=true
  .rw[kT _ _ hc]at k ⊢;exact k
  cases m with
  | zero=>simp only[borrow,if_neg hc]at k;cases k
  | succ m=>
   have u:∀x y z,borrow n H x=some y->borrow m H2 x=some z->borrow n H2 x=some z:=λx y z a b=>I m x y z a b B
   unfold borrow at h k ⊢;rw[if_neg hc]at h k ⊢;have row:∀id q,(H2[id]?).bind Ob.rows=some q->(H[id]?).bind Ob.rows=some q:=λid q C=>by
    rw[<-B id (by cases D:H2[id]? with|none=>rw[D]at C;cases C|some _=>rfl)];exact C
   cases x with
   | hsl id es off len=>
    simp only at h k ⊢;split at k
    .rename_i hr;rw[row _ _ hr]at h;simp only at h;split at k
     next q=>rw[if_pos q]at h ⊢;obtain⟨r,h1,_⟩:=ζf.1 h;obtain⟨s,k1,w⟩:=ζf.1 k;rw[Bl u h1 k1];exact congrArg some w
     cases k
    cases k
   | hptr id el off=>
    simp only at h k ⊢;split at k
    .rename_i hr;rw[row _ _ hr]at h;simp only at h;split at k
     .rename_i G;rw[G]at h;simp only at h;split at k
      next q=>rw[if_pos q]at h ⊢;obtain⟨r,h1,_⟩:=ζf.1 h;obtain⟨s,k1,w⟩:=ζf.1 k;rw[mF u h1 k1];exact congrArg some w
      cases k
     cases k
    cases k
   | hmap id=>
    simp only at h k ⊢;split at k
    .rename_i hr;rw[<-B id (by rw[hr];rfl),hr]at h
     simp only at h;obtain⟨r,h1,_⟩:=ζf.1 h;obtain⟨s,k1,w⟩:=ζf.1 k;rw[BF u h1 k1];exact congrArg some w
    cases k
   | clo f a b=>
    simp only at h k ⊢;split at h
    .rename_i h1 D;split at k
     next k1 w=>rw[mF u h1 k1,mF u D w];exact k
     cases k
    cases h
   | agg cs=>
    simp only at h k ⊢;obtain⟨r,h1,_⟩:=ζf.1 h;obtain⟨s,k1,w⟩:=ζf.1 k;rw[mF u h1 k1];exact congrArg some w
   | tup cs=>
    simp only at h k ⊢;obtain⟨r,h1,_⟩:=ζf.1 h;obtain⟨s,k1,w⟩:=ζf.1 k;rw[mF u h1 k1];exact congrArg some w
   | _=>cases h
end Go.VE
namespace Go.VE
variable [bK]
open Go.Proofs Go.Sort
structure za (P:Program) (f:FuncId):Prop where
 ok:w_ P f
 zero:∀(p:Option Addr) (cap:Nat) (fv:Value) (w:World),Calls P f #[.slice p 0 cap,fv] w λe w'=>e=.returned (.tuple #[])/\w'=w
 all:∀{α:Type} [Inhabited α] (enc:α->Value) (_:OneCell enc) (cf:α->α->Int) (_:SWO (ltOf cf)) (g:Nat) (cb:Array Value) (blk off cap:Nat) (d:Array α) (w:World)
  (_:∀args w,(callFunc g args).run P w=.ok (.enter g args) w) (_:CmpLays1 P g cb enc cf blk off d.size w) (_:Holds enc w blk off d) (_:blk<w.heap.size) (_:d.size<4611686018427387904),
  Calls P f #[.slice (some ⟨blk,off,none⟩) d.size cap,.func (.func g) #[] cb] w λe w'=>
   e=.returned (.tuple #[])/\∃n os,w'=sortWorld enc w blk off n (pdq (ltOf cf) d 0 d.size (Lib.bitLen d.size) true true) os
theorem Hu {α:Type} [Inhabited α] (lt:α->α->Bool):∀(k i:Nat) (d:Array α),Fy lt k i d=insOuter lt 0 (i+k) i d
 | 0,i,d=>by rw[insOuter];simp[Fy]
 | k+1,i,d=>by
  rw[insOuter,Fy,Hu lt k]
  grind
theorem Lx (n:Nat) (lt:Fin (n+1)->Fin (n+1)->Bool):DS n lt=pdq lt (List.finRange (n+1)).toArray 0 (n+1) (Lib.bitLen (n+1)) true true:=by
 unfold DS;split
 .rw[pdq,if_pos Za,insertionSort,Hu,Nat.add_comm 1 n]
 rfl
theorem A8 {n:Nat} {t:Fin (n+1)->Fin (n+1)->Option Int} (h:Ja t=true):(∀i j,∃c,t i j=some c)/\SWO (u5 t):=by
 have u:∀(p:Fin (n+1)->Bool),(List.finRange (n+1)).all p=true->∀i,p i=true:=λp h i=>List.all_eq_true.1 h i (List.mem_finRange i)
 have h1:=λi=>u _ h i
 simp only[ζh,Bool.not_eq_true']at h1;have w:=λi j=>u _ (h1 i).2 j
 simp only[ζh]at w;have z:=λi j k=>u _ (w i j).2 k
 refine⟨λi j=>Option.isSome_iff_exists.1 (w i j).1,λi=>(h1 i).1,λi j k a b=>?_,λi j k a b=>?_⟩
 .have:=z i j k;grind
 grind
section
variable {P:Program} {I I':b9} {μ μ':Mu} {H H':bf} {w w':World}
theorem CQ (w:World) (os:Array Obj) (b:Nat) (h:b<w.heap.size):(grow w os).heap[b]? = w.heap[b]? := by
 unfold grow;grind
theorem Calls.fr {f:FuncId} {args:Array Value} {R:Ending->World->Prop} (h:Calls P f args w R):CallsIn (fr none) 0 P f args w R:=callsIn_wide.2 h
theorem CallsIn.un {f:FuncId} {args:Array Value} {R:Ending->World->Prop} (h:CallsIn (fr none) 0 P f args w R):Calls P f args w R:=callsIn_wide.1 h
theorem LB {p:Pl} {c:Array Value} {xs:List (List V)} (z:p.es=1) (B:c.size=p.sz) (hr:p.o+xs.length<=c.size)
 (h:∀(i:Nat) x,xs[i]? = some x->∃v u,x=[v]/\V.one v=true/\c[p.o+i]? = some u/\bA I μ v u):fE I μ p c 1 xs:=by
 have hu:∀x∈xs,x.length=1:=λx w=>by
  obtain⟨i,hi⟩:=List.getElem?_of_mem w
  grind
 have D:xs.flatten.length=xs.length:=by rw[eU hu,Nat.mul_one]
 refine⟨z,B,hu,λx w y G=>?_,by omega,⟨?_,λj a b h1 J=>?_⟩⟩
 .obtain⟨i,hi⟩:=List.getElem?_of_mem w
  grind
 .grind
 have C:j<xs.length:=by have:=(ζe.1 h1).1;omega
 obtain⟨v,u,e,_,L,O⟩:=h j xs[j] (by simp[C])
 have:=tV  hu (i:=j) (j:=0) (x:=xs[j])  (by simp[C]) (by rw[e];rfl)
 simp_all
theorem tY {p:Pl} {c:Array Value} {xs:List (List V)} (r:fE I μ p c 1 xs) (i:Nat) {x:List V} (h:xs[i]? = some x):∃v u,x=[v]/\V.one v=true/\c[p.o+i]? = some u/\bA I μ v u:=by
 have w:=List.mem_of_getElem? h;obtain⟨v,rfl⟩:=List.length_eq_one_iff.1 (r.nG x w);have hi:=(ζe.1 h).1;have z  := by have:=r.room;omega
 refine⟨v,c[p.o+i],rfl,r.one _ w v Zc,by simp_all,?_⟩
 exact r.idx  (j:=0) h rfl (by simp_all)
theorem O7 {α:Type} [Inhabited α] (enc:α->Value) (blk o m:Nat) (u:Array α) (os:Array Obj) {b:Nat} (B:b<w.heap.size) (z:b≠blk):(sortWorld enc w blk o m u os).heap[b]? = w.heap[b]? := by
 unfold sortWorld;rw[CQ _ _ _ (by simp_all)]
 simp[putRow,mapBlock,Sort.ahead,Array.getElem?_modify,if_neg (Ne.symm z)]
theorem GO {α:Type} [Inhabited α] (enc:α->Value) {blk:Nat} (o m:Nat) (u:Array α) {c:Array Value} {el:TypeId} (h:w.heap[blk]? = some (.cells c el)) :
 putRow enc (Sort.ahead w m) blk o u=e8 (Sort.ahead w m) blk (.cells (Sort.putCells enc o u c) el):=by
 unfold putRow mapBlock e8 Sort.ahead
 congr 1
 obtain⟨z,e⟩:=Array.getElem?_eq_some_iff.1 h;apply Array.ext
 .simp
 intro i h1 B
 by_cases hi:i=blk
 .subst hi;simp[Array.getElem_modify,e,onCells]
 grind
theorem Step.grown (st:Step I (λ_=>none) [] w I' μ' H' w'):∃q os,w'=grow (w.drewN q) os:=by
 refine⟨w'.drawn-w.drawn,w'.heap.extract w.heap.size w'.heap.size,?_⟩;have u:w'.heap=w.heap++w'.heap.extract w.heap.size w'.heap.size:=by
  apply Array.ext_getElem?;intro i
  by_cases hi:i<w.heap.size
  .rw[Array.getElem?_append_left hi];exact st.frame i hi (by rintro⟨id,p,ob,h,_⟩;simp at h)
  rw[Array.getElem?_append_right Za]
  simp[Array.getElem?_extract]
  by_cases C:i<w'.heap.size
  .rw[if_pos Za];congr 1;omega
  rw[if_neg Za,Array.getElem?_eq_none Za]
 have h1:=st.os;have z:=st.out.out;have B:=st.out.tape;have D:=st.out.dr;unfold grow World.drewN;cases w';simp only at *;subst h1 z B;simp[World.mk.injEq];exact⟨u,by omega⟩
theorem Ir {call u:dw} {g:FuncId} {D B:List V} {n:Nat} (h:∀args y,cm call g args []=some y->cm u g args []=some y) {i j:Fin (n+1)} {z:Int} (G:iX call g D B n i j=some z):iX u g D B n i j=some z:=by
 unfold iX at G ⊢
 grind
theorem BE {keep:FuncId->Bool} {call u:dw} (G:call.lv<=u.lv) (h:∀g args y,keep g=false->cm call g args []=some y->cm u g args []=some y) {args:List V} {r:V×bf} (hr:tQ keep call args H=some r):tQ keep u args H=some r:=by
 unfold tQ at hr ⊢;split at hr
 .split at hr
  .omega
  .omega
  .split at hr
   .omega
   .split at hr
    .rename_i n g cb _ O S I;split at hr
     .rename_i w;split at hr
      .rename_i J B D C;rw[qx G D,qx G C];split at hr
       .rename_i Q;have e:iX u g J B n=iX call g J B n:=by
         funext i j
         obtain⟨z,L⟩:=(A8 Q).1 i j;rw[L];exact Ir (λa y=>h g a y w.2.2.2.2) L
        grind
       simp_all
      simp_all
     simp_all
    simp_all
   simp_all
  simp_all
 simp_all
set_option maxHeartbeats 1000000 in
theorem Ox {call:dw} (hc:jD P call) {f:FuncId} (hs:za P f) {args:List V} {r:V} {keep:FuncId->Bool} (h:tQ keep call args H=some (r,H')) (s:cM I μ H w) {vs:List Value} (hv:cz I μ args vs) :
 CallsIn (fr none) 0 P f vs.toArray w (vz I μ H w r H'):=by
 unfold tQ at h;split at h
 .rename_i sv cv;obtain⟨v1,r1,rfl,ad,aD⟩:=hv.cons_inv;obtain⟨v2,r2,rfl,aE,aF⟩:=aD.cons_inv;obtain rfl:=aF.tS;have U:∀p cap,v1=.slice p 0 cap->CallsIn (fr none) 0 P f [v1,v2].toArray w (vz I μ H w .undef H):=by
   rintro p cap rfl;refine Calls.fr ((hs.zero p cap v2 w).mono ?_);rintro e w' ⟨rfl,rfl⟩;exact⟨_,I,μ,rfl,bA.undef _ _,s,Step.refl _ _ _ _⟩
  split at h
  .cases h;exact U none 0 ad.kq
  .cases h;obtain⟨a,e⟩:=ad.pS;exact U a 0 e
  .rename_i id es off len;split at h
   .cases h;rcases ad.kC with⟨p,cap,_,_,_,_,e⟩|⟨_,a,e⟩
    .exact U _ cap e
    exact U _ 0 e
   .rename_i n g cb;split at h
    .rename_i aT Q L;split at h
     .rename_i al;obtain⟨rfl,rfl,aR,hn,_⟩:=al;split at h
      .rename_i Z D aG aq;split at h
       .rename_i ar;cases h;obtain⟨p,c,el,hp,hI,J,S⟩:=s.obs id _ L;rcases ad.kC with⟨q,cap,hq,aU,aS,aH,rfl⟩|⟨h0,_⟩
        .rw[hp]at hq;cases hq;obtain⟨va,vb,rfl,hva,au⟩:=aE.jJ;have av:va=#[]:=by have:=hva.tS;simpa using this
         subst av;have am:=(ζe.1 L).1;obtain⟨sk,_⟩:=s.kill L;generalize hT:cD (bR call.lv (H.set id .dead)) (((Q.drop off).take (n+1)).flatten++cb)=T;have aI:plus I μ (H.set id .dead) w T p.b=none:=by
          cases B:plus I μ (H.set id .dead) w T p.b with
          | none=>rfl
          | some x=>
           exfalso;rcases w6 (by rw[B];rfl)with h|⟨aw,p',ob,_,g1,g2,g3,g4⟩
           .rw[hI]at h;cases h
           have ax:aw≠id:=by
            rintro rfl;rw[List.getElem?_set_self am]at g1;cases g1;simp[Ob.live]at g2
           rw[List.getElem?_set_ne (Ne.symm ax)]at g1;exact ax (s.inj aw id ob (.row 1 Q) p' p g1 L g2 rfl g3 hp g4)
         let enc:Fin (n+1)->Value:=λi=>(c[p.o+off*1+i.1]?).getD undef
         have aa:∀i:Fin (n+1),∃v,Q[off+i.1]? = some [v]/\V.one v=true/\bA I μ v (enc i)/\c[p.o+off*1+i.1]? = some (enc i):=λi=>by
          obtain⟨v,u,e1,e2,e3,e4⟩:=tY S (off+i.1) (x:=Q[off+i.1]' Za) Zc
          have e5:c[p.o+off*1+i.1]? = some u:=by rw[<-e3];congr 1;omega
          have e6:enc i=u:=by show (c[p.o+off*1+i.1]?).getD undef=u;rw[e5];rfl
          exact⟨v,by rw[<-e1];simp,e2,by rw[e6];exact e4,by rw[e5,e6]⟩
         have h1:OneCell enc:=λi=>by obtain⟨v,_,e2,e3,_⟩:=aa i;exact e3.one e2
         obtain⟨ay,ae⟩:=A8 ar;obtain⟨aV,aJ⟩:=gV aG;obtain⟨aK,aL⟩:=gV aq;have aA:∀x∈(Q.drop off).take (n+1),x.length=1:=λx B=>S.nG x (List.mem_of_mem_drop (List.mem_of_mem_take B))
         have W:∀(i:Fin (n+1)) u,Z[i.1]? = some u->dU (plus I μ (H.set id .dead) w T) u (enc i):=λi u hu=>by
          obtain⟨x,B,an⟩:=aJ i.1 u hu;obtain⟨v,e1,_,e3,_⟩:=aa i;have e4:((Q.drop off).take (n+1))[i.1]? = some [v]:=by
           rw[List.getElem?_take,if_pos i.2,List.getElem?_drop];exact e1
          have e5:=tV (es:=1) aA (i:=i.1) (j:=0) e4 rfl;have e5:((Q.drop off).take (n+1)).flatten[i.1]? = some v:=by simpa using e5
          rw[e5]at B;cases B;refine(sj sk T call.lv _ u _ an (λk hk=>?_) e3).1
          rw[<-hT];exact ja (List.mem_append_left _ (List.mem_of_getElem? e5)) hk
         have ab:cz (plus I μ (H.set id .dead) w T) (λ_=>none) D vb.toList:=by
          refine⟨aK.trans au.1,λj a b k1 k2=>?_⟩
          obtain⟨x,B,an⟩:=aL j a k1;refine .c _ _ (sj sk T call.lv x a b an (λk hk=>?_) (au.2 j x b B k2)).1
          rw[<-hT];exact ja (List.mem_append_right _ (List.mem_of_getElem? B)) hk
         have af:=(Array.getElem?_eq_some_iff.1 J).1
         let d:Array (Fin (n+1)):=(List.finRange (n+1)).toArray
         have ao:d.size=n+1:=by simp[d]
         have hd:∀j:Fin (n+1),d[j.1]! = j:=λj=>by simp[d,getElem!_pos]
         have hg:∀i j:Fin (n+1),∃z,iX call g Z D n i j=some z/\∃a b,Z[i.1]? = some a/\Z[j.1]? = some b/\cm call g (a::b::D) []=some (.int .i64 z):=λi j=>by
          obtain⟨z,hz⟩:=ay i j;have X:=hz;unfold iX at X;split at X
          .rename_i a b ha Y;split at X
           next z' C=>cases X;exact⟨z,hz,a,b,ha,Y,C⟩
           cases X
          cases X
         have aM:w_ P g:=by
          obtain⟨z,_,a,b,ha,Y,C⟩:=hg 0 0;have s0:cM (plus I μ (H.set id .dead) w T) (λ_=>none) [] w:=⟨λ_ _=>rfl,q9 sk T,by simp,by simp,sk.gl.mono (m_ _ _ _ _ _)⟩
          exact(Bu hc C s0 (.cons (.c _ _ (W 0 a ha)) (.cons (.c _ _ (W 0 b Y)) ab))).1
         have key:=hs.all enc h1 (λi j=>(iX call g Z D n i j).getD 0) ae g vb p.b (p.o+off*1) cap d w (λargs w=>vf aM args) (by
          intro m os G aW i j;obtain⟨z,hz,a,b,ha,Y,C⟩:=hg i j;have s0:cM (plus I μ (H.set id .dead) w T) (λ_=>none) [] (sortWorld enc w p.b (p.o+off*1) m G os):=
           ⟨λ_ _=>rfl,λb x Y=>IC.pV (q9 sk T b x Y) (O7 enc p.b _ m G os (IC.rM (q9 sk T b x Y)) (by rintro rfl;rw[aI]at Y;cases Y)),by simp,by simp,sk.gl.mono (m_ _ _ _ _ _)⟩
          have:=CallsIn.un (Bu hc C s0 (vs:=enc i::enc j::vb.toList) (.cons (.c _ _ (W i a ha)) (.cons (.c _ _ (W j b Y)) ab))).2;rw[show (enc i::enc j::vb.toList).toArray=#[enc i,enc j]++vb by apply Array.ext';simp]at this
          refine this.mono ?_;rintro e w' ⟨u,I1,μ1,rfl,hu,s1,st⟩;exact⟨by rw[hu.eP];show _=Ending.returned (.int .i64 ((iX call g Z D n i j).getD 0));rw[hz];rfl,st.grown⟩) (by
          intro j hj;have aB:j<n+1:=by omega
          obtain⟨v,_,_,_,e4⟩:=aa ⟨j,aB⟩;rw[hd ⟨j,aB⟩];exact⟨by rw[tL J];exact e4,by simp[World.frozen?,J]⟩) af Za
         rw[ao]at key;refine Calls.fr (key.mono ?_);rintro e w' ⟨rfl,m,os,rfl⟩;have aN:ltOf (λi j=>(iX call g Z D n i j).getD 0)=u5 (iX call g Z D n):=rfl
         rw[aN,Lx];have ah:=pdq_sorts (u5 (iX call g Z D n)) ae d 0 d.size (Lib.bitLen d.size) true true (Nat.zero_le _) (Nat.le_refl _) (Or.inl rfl);rw[ao]at ah;have O:=ah.1.1;change vz I μ H w .undef (H.set id (.row 1 (xd Q off n (pdq (u5 (iX call g Z D n)) d 0 (n+1) (Lib.bitLen (n+1)) true true).toList))) _ _;generalize pdq (u5 (iX call g Z D n)) d 0 (n+1) (Lib.bitLen (n+1)) true true=G at O;rw[ao]at O;unfold sortWorld;rw[GO enc _ m G J];have s1:cM I μ H (Sort.ahead w m):=s.nj rfl;have aO:Step I μ H w I μ H (Sort.ahead w m):=Step.nj rfl rfl ⟨rfl,rfl,Nat.le_add_right _ _⟩;have ai:(Sort.putCells enc (p.o+off*1) G c).size=c.size:=by simp[Sort.putCells]
         have aj:∀i:Nat,(i<p.o+off*1\/p.o+off*1+(n+1)<=i)->(Sort.putCells enc (p.o+off*1) G c)[i]? = c[i]? := λi hi=>by
          simp only[Sort.putCells,Array.getElem?_mapIdx];rw[O]
          cases c[i]? with
          | none=>rfl
          | some y=>simp only[Option.map_some];rw[if_neg Za]
         have ap:∀i:Fin (n+1),(Sort.putCells enc (p.o+off*1) G c)[p.o+off*1+i.1]? = some (enc G[i.1]!):=λi=>by
          obtain⟨v,_,_,_,e4⟩:=aa i;simp only[Sort.putCells,Array.getElem?_mapIdx,e4,Option.map_some];rw[if_pos ⟨by omega,by rw[O];omega⟩]
          congr 3;omega
         have aC:=S.room;have aP:(xd Q off n G.toList).length=Q.length:=by simp[xd,O];omega
         obtain⟨s2,st2⟩:=s1.write (o:=.cells (Sort.putCells enc (p.o+off*1) G c) el) (ob':=.row 1 (xd Q off n G.toList)) L rfl hp
          ⟨p,_,el,hp,hI,gE _ af,LB S.es_eq (by rw[ai];exact S.sz) (by rw[aP,ai];omega) λi x B=>by
           unfold xd at B
           by_cases c1:i<off
           .rw[List.append_assoc,List.getElem?_append_left (by simp;omega),List.getElem?_take,if_pos c1]at B
            obtain⟨v,u,e1,e2,e3,e4⟩:=tY S i B;exact⟨v,u,e1,e2,by rw[aj _ Za];exact e3,e4⟩
           by_cases c2:i<off+(n+1)
           .rw[List.getElem?_append_left (by simp[O];omega),List.getElem?_append_right (by simp;omega)]at B
            have ak:i-off<G.size:=by omega
            have e0:(Q.take off).length=off:=by simp;omega
            simp only[e0,List.getElem?_map,Array.getElem?_toList]at B;rw[Array.getElem?_eq_getElem ak]at B;simp only[Option.map_some,ζa]at B;obtain⟨v,e1,e2,e3,e4⟩:=aa G[i-off];rw[e1]at B;simp only[Option.getD_some]at B;refine⟨v,enc G[i-off],B.symm,e2,?_,e3⟩;have:=ap ⟨i-off,by omega⟩
            simp only[getElem!_pos G (i-off) ak]at this;rw[<-this];congr 1;omega
           rw[List.getElem?_append_right (by simp[O];omega),List.getElem?_drop]at B
           have e0:off+(n+1)+(i-((Q.take off)++G.toList.map (λi=>(Q[off+i.1]?).getD [])).length)=i:=by simp[O];omega
           rw[e0]at B;obtain⟨v,u,e1,e2,e3,e4⟩:=tY S i B;exact⟨v,u,e1,e2,by rw[aj _ Za];exact e3,e4⟩⟩
         have hk:∀b,b<(e8 (Sort.ahead w m) p.b (.cells (Sort.putCells enc (p.o+off*1) G c) el)).heap.size->(grow (e8 (Sort.ahead w m) p.b (.cells (Sort.putCells enc (p.o+off*1) G c) el)) os).heap[b]? = (e8 (Sort.ahead w m) p.b (.cells (Sort.putCells enc (p.o+off*1) G c) el)).heap[b]? := λb Y=>CQ _ _ _ Y
         have aQ:=Step.kept (I:=I) (μ:=μ) (H:=H.set id (.row 1 (xd Q off n G.toList))) hk (by simp[grow]) rfl ⟨rfl,rfl,Nat.le_refl _⟩ (λa ha h=>by unfold World.frozen? at h ⊢;rw[hk _ ha];exact h)
         exact⟨_,I,μ,rfl,bA.undef _ _,s2.kept hk,Step.trans s1 aO (Step.trans s2 st2 aQ)⟩
        cases h0
       cases h
      cases h
     cases h
    cases h
   cases h
  cases h
 cases h
end
def Aq (P:Program) (f:FuncId) (args:List V) (y:V):Prop:=w_ P f/\∀I μ H w u,cM I μ H w->cz I μ args u->CallsIn (fr none) 0 P f u.toArray w (vz I μ H w y H)
theorem Ju {P:Program} {call:dw} (hc:jD P call) {f:FuncId} {b:Bool} {H':bf} (h:call (.fn f) [] []=some (.bool b,H')):Aq P f [] (.bool b):=by
 have hi:∀H,cm call f [] H=some (.bool b):=by
  intro H;unfold cm;rw[show borrows call.lv H []=some []from rfl];simp only[h,kT _ H' (show (V.bool b).closed=true from rfl)];rfl
 refine⟨?_,λI μ H w u s hv=>(Bu hc (hi H) s hv).2⟩
 obtain⟨h1,_⟩:=hc.fn _ _ _ _ _ h;omega
structure QE (P:Program) (E:Env):Prop where
 sort:∀f,E.sort f=true->za P f
 known:∀f args y,E.known f args=some y->Aq P f args y
end Go.VE
namespace Go.VE
variable [bK]
section
variable {P:Program} {E:Env} {I I':b9} {μ μ':Mu} {H H':bf} {n B:Nat} {F F':Frame} {a:Act} {w w':World}
theorem He:∀(F:Frame) (t:Nat),F.length<=t->get F t=.undef
 | [],_,_=>rfl
 | _::_,0,h=>by simp_all
 | _::r,i+1,h=>He r i Zd
theorem Fp:∀(F:Frame) (t:Nat) (x:V),F[t]? = some x->get F t=x
 | [],_,_,h=>by simp_all
 | _::_,0,_,h=>by simpa [get]using h
 | _::r,i+1,x,h=>Fp r i x Zd
theorem HR (hg:rW I) {args:List V} {vs:List Value} {nt:Nat} (h:cz I μ args vs) (B:args.length<=nt) :
 dR I μ nt args (vs.toArray++Array.replicate (nt-vs.toArray.size) undef):=by
 have u  := h.1;refine⟨by simp_all,λt=>?_,hg⟩
 by_cases C:t<args.length
 .have h1:args[t]? = some args[t]:=by simp_all
  have w:t<vs.length:=by omega
  have z:vs[t]? = some vs[t]:=by simp_all
  rw[Fp _ _ _ h1];have:(vs.toArray++Array.replicate (nt-vs.toArray.size) undef).getD t undef=vs[t]:=by
   rw[Array.getD_eq_getD_getElem?,Array.getElem?_append_left Zd]
   simp_all
  rw[this];exact h.2 t _ _ h1 z
 rw[He _ _ Za]
 have:(vs.toArray++Array.replicate (nt-vs.toArray.size) undef).getD t undef=undef:=by
  rw[Array.getD_eq_getD_getElem?,Array.getElem?_append_right (by simp_all),Array.getElem?_replicate]
  grind
 rw[this];exact bA.undef _ _
theorem Mc (r:dR I μ n F a.tmps) {t:Nat} {x:V} {v:Value} (u:t<n) (h:bA I μ x v):dR I μ n (set F t x) (a.tmps.setIfInBounds t v):=by
 have:=dR.put  (dst:=some t) r h (F':=set F t x) (by simp[iW,u])
 simpa [Act.put]using this
theorem zT:∀(ps:List Nat) (xs:List V) (vs:List Value) (F:Frame) (tmps:Array Value),dR I μ n F tmps->cz I μ xs vs->ps.all (·<n)=true ->
 dR I μ n (vO ps xs F) ((ps.zip vs).foldl (λtmps (t,a)=>tmps.setIfInBounds t a) tmps)
 | [],_,_,F,tmps,r,_,_=>by simpa [vO]using r
 | t::ps,[],[],F,tmps,r,_,_=>by simpa [vO]using r
 | t::ps,[],v::vs,F,tmps,r,h,_=>by have:=h.1;grind
 | t::ps,x::xs,[],F,tmps,r,h,_=>by have:=h.1;grind
 | t::ps,x::xs,v::vs,F,tmps,r,h,u=>by
  simp only[List.all_cons,ζh,decide_eq_true_eq]at u;have w  := h.2 0 x v rfl rfl;have z:cz I μ xs vs:=⟨by have:=h.1;grind,λj a b h1 B=>h.2 (j+1) a b Zd Zd⟩
  exact zT ps xs vs _ _ (Mc (a:={ tmps:=tmps,defers:=[] }) r u.1 w) z u.2
theorem Ep {α β:Type} (g:α->Sem β):∀(l:List α) (w:World) (u:List β),u.length=l.length->(∀(j:Nat) x y,l[j]? = some x->u[j]? = some y->(g x).run P w=.ok y w)->(l.mapM g).run P w=.ok u w
 | [],w,[],_,_=>by simp
 | [],w,_::_,h,_=>by simp_all
 | _::_,w,[],h,_=>by simp_all
 | x::l,w,y::u,h,hg=>by
  have z:=hg 0 x y rfl rfl;have B:=Ep g l w u Zd (λj a b h1 C=>hg (j+1) a b Zd Zd)
  simp_all
def Iq (tmps:Array Value):ResultVar->Sem Value
 | .tmp t=>pure (tmps.getD t undef)
 | .cell a t=>do loadVar t (<-asAddr (tmps.getD a undef))
theorem IW (fn:Func) (tmps:Array Value):results fn tmps=(fn.results.mapM (Iq tmps) >>= λvs=>pure (if h:vs.size=1 then vs[0]else .tuple vs)):=by
 congr 1
theorem Jj (W:dV P E) {fn:Func} {tmps:Array Value} (r:dR I μ n F tmps) (s:cM I μ H w) {vs:List V} (h:iO E F H fn.results.toList=some vs) :
 ∃u,(results fn tmps).run P w=.ok u w/\bA I μ (result vs) u:=by
 have key:∀(l:List ResultVar) (vs:List V),iO E F H l=some vs->∃z:List Value,z.length=l.length/\cz I μ vs z /\
  ∀(j:Nat) x y,l[j]? = some x->z[j]? = some y->(Iq tmps x).run P w=.ok y w:=by
  intro l
  induction l with
  | nil=>intro vs h;simp[iO]at h;subst h;exact⟨[],rfl,.nil,by simp⟩
  | cons x l U=>
   intro vs h
   cases x with
   | tmp t=>
    simp only[iO,ζf]at h;obtain⟨D,h,rfl⟩:=h;obtain⟨z,h1,C,Q⟩:=U D h;refine⟨tmps.getD t undef::z,by simp_all,.cons (r.2 t) C,?_⟩
    intro j x y J L
    cases j with
    | zero=>simp at J L;subst J;subst L;simp[Iq]
    | succ j=>grind
   | cell p t=>
    simp only[iO]at h;split at h
    .rename_i d D hd S;simp only[ζf]at h;obtain⟨v,hv,rfl⟩:=h;obtain⟨z,h1,C,Q⟩:=U D S;obtain⟨u,_,hu,X,T,G⟩:=A9 W s hd (r.2 p) hv;refine⟨u::z,by simp_all,.cons hu C,?_⟩
     intro j x y J L
     cases j with
     | zero=>
      simp only[List.getElem?_cons_zero,ζa]at J L;subst J;subst L;have e:(do loadVar t (<-asAddr (tmps.getD p undef))).run P w=(loadVar t X).run P w:=by rw[Sem.run_bind,T];rfl
      exact e.trans G
     | succ j=>grind
    grind
 obtain⟨z,h1,C,Q⟩:=key _ _ h;have Z:=Ep  _ fn.results.toList w z h1 Q;have Y:(fn.results.mapM (Iq tmps)).run P w=.ok z.toArray w:=by
  rw[Array.mapM_eq_mapM_toList];simp_all
 have O:z.length=vs.length:=C.1.symm;rw[IW,Sem.run_bind,Y]
 by_cases B:z.length=1
 .obtain⟨u,rfl⟩:=List.length_eq_one_iff.1 B;obtain⟨v,rfl⟩:=List.length_eq_one_iff.1 (O▸B);exact⟨u,by simp,by simpa [result]using C.2 0 v u rfl rfl⟩
 refine⟨.tuple z.toArray,by simp_all,?_⟩
 have hr:result vs=.tup vs:=by
  match vs,O with
  | [],_=>rfl
  | [_],h=>exact absurd h B
  | _::_::_,_=>rfl
 rw[hr];exact .tup _ _ (by simpa using C.1) (by simpa using C.2)
theorem Jv (J:dV P E) {fn:Func} {tmps:Array Value} {vs:List V} (h:iO E F H' fn.results.toList=some vs) (T:w.heap.size<=B):∀(ds:List Deferred) (w':World),
 dR I' μ' n F tmps->cM I' μ' H' w'->Step I μ H w I' μ' H' w'->iZ B ds w' ->
 LeavesInM (fr none) 0 P fn tmps (vz I μ H w (result vs) H') ds .returning w':=by
 intro ds
 induction ds with
 | nil=>
  intro w' r s st m;obtain⟨u,hu,hv⟩:=Jj J r s h;exact⟨u,hu,u,I',μ',rfl,hv,s,st⟩
 | cons d ds L=>
  intro w' r s st m;obtain⟨q,h1,S,D⟩:=m.all d Zc
  refine⟨by simp,.inl ⟨q,_,h1,run_takeDeferred D,?_⟩⟩
  have z:=rY s D;have O:=Pq s D Zc Zc
  have m':iZ B ds w':=⟨λd hd=>m.all d (List.mem_cons_of_mem _ hd),(List.pairwise_cons.1 m.apart).2⟩
  refine L (e8 w' q (.deferred none)) r (s.zn _ O z) (st.after _ Za) ⟨λG C=>?_,m'.apart⟩
  obtain⟨Q,g1,g2,g3⟩:=m'.all G C;refine⟨Q,g1,g2,?_⟩;rw[fK _ ?_];exact g3;rintro rfl;exact(List.pairwise_cons.1 m.apart).1 G C _ h1 g1
theorem Ce (o:Out):(jL o).isNone=(o==.norm):=by
 cases o <;> simp[jL] <;> rfl
theorem C5 (U:dV P E) (hm:P.follows .mixedOrders=true) (hS:QE P E):∀n,jD P (run E n):=by
 intro n
 induction n with
 | zero=>exact⟨λ_ _ _ _ _ h=>(by cases h),λ_ _ _ _ _ h=>(by cases h)⟩
 | succ n C=>
  constructor
  .intro f args H r H' h;rw[DR]at h;simp[jH]at h;split at h
   .rename_i J ae;obtain⟨fn,hf,hb,af,W,L⟩:=U.ft f J ae;refine⟨⟨fn,hf,by simp_all,L⟩,?_⟩
    intro I μ w B s hv;split at h
    .rename_i u;have main:∀o F' H2 rs,exec E (run E n) n false J.ntmps J.body args H=some (o,F',H2)->(∀id,o≠.exit id)->iO E F' H2 J.results=some rs->CallsIn (fr none) 0 P f B.toArray w (vz I μ H w (result rs) H2):=by
      intro o F' H2 rs hx am hr;refine callsIn_of_wp_marks hf hb trivial ?_;rw[af];have r0:=HR s.gl hv u;have:=wX  U hm C n none false rfl J.ntmps J.body I μ args H { tmps:=B.toArray++Array.replicate (J.ntmps-B.toArray.size) undef,defers:=[] } w o F' H2 hx r0 s ⟨by simp,.nil⟩ (Nat.le_refl _)
      refine wpIn_mono this ?_;rintro e a1 X ⟨rfl,⟨I1,μ1,r1,T,z⟩,m1⟩;have hl:=Jv  U  (by rw[W];omega) (Nat.le_refl _) a1.defers X r1 T z m1
      cases o with
      | norm=>exact hl
      | ret=>exact hl
      | exit id=>grind
     split at h
     .simp_all
     .simp  at h
      grind
     grind
    grind
   split at h
   next hs=>exact⟨(hS.sort f hs).ok,λI μ w B s hv=>Ox C (hS.sort f hs) h s hv⟩
   obtain⟨yy,he,h⟩:=ζf.1 h;cases h;exact⟨(hS.known f args _ he).1,λI μ w B s hv=>(hS.known f args _ he).2 I μ H w B s hv⟩
  intro id args H r H' h I μ w B p s hv hp;rw[DR]at h;simp only[jH]at h;split at h
  .rename_i rec Y;split at h
   .split at h
    .rename_i u;split at h
     .rename_i F2 H2 ah;split at h
      .rename_i r2 Z;split at h
       .rename_i aa;split at h
        .rename_i o F4 H4 ai;split at h
         .rename_i r4 ab;obtain⟨rfl,rfl⟩:=h;obtain⟨q,l,g1,g2,g3,g4⟩:=zh s Y;rw[hp]at g1;cases g1;have aj:l.params.size=rec.params.length:=by have:=congrArg List.length g4.params;grind
          have ak:B.toArray.size=l.params.size:=by
           rw[aj,<-u.1];simpa using hv.1.symm
          refine⟨p.b,l.fn,_,l.assign,l.body,run_yield g3 ak,?_⟩;refine roundIn_of_wpIn trivial ?_;have O:(l.params.zip B.toArray).foldl (λtmps x=>tmps.setIfInBounds x.1 x.2) l.tmps=(rec.params.zip B).foldl (λtmps x=>tmps.setIfInBounds x.1 x.2) l.tmps:=by
           rw[<-Array.foldl_toList,Array.toList_zip,g4.params]
          have r0:=zT rec.params args B rec.frame l.tmps g4.frame hv u.2;rw[<-O]at r0;have X:=wX  U hm C n (some p.b) true rfl rec.nt rec.assign I μ _ H { tmps:=_,defers:=[] } w _ _ _ ah r0 s ⟨by simp,.nil⟩ (Nat.le_refl _)
          rw[g4.assign,g4.body];refine wpIn_mono X ?_;rintro e a1 X ⟨rfl,⟨I1,μ1,r1,T,z⟩,m1⟩;obtain⟨q,l2,k1,k2,k3,Q⟩:=zh T Z;rw[z.mu _ _ hp]at k1;cases k1;have D:l2.state=.ready:=by
           have:=Q.st;rw[aa]at this;cases hl:l2.state <;> rw[hl]at this <;> simp[zB.is]at this
          refine⟨_,run_beginRound k3 D,?_⟩;have G  := z.mu _ _ hp;obtain⟨s2,st2⟩:=T.write  (ob':=.loop { r2 with st:=.busy }) Z rfl G
           ⟨p,{ l2 with state:=.busy },G,k2,gE _ (Array.getElem?_eq_some_iff.1 k3).1,⟨trivial,Q.pend,Q.pendOk,Q.frame,Q.params,Q.assign,Q.body⟩⟩
          have m2  := m1.step T st2;have w2:=wX  U hm C n (some p.b) true rfl rec.nt rec.body I1 μ1 F2 _ a1 (e8 X p.b (.loop { l2 with state:=.busy })) o F4 H4 ai r1 s2 m2 (by rw[uY];exact z.size)
          refine wpIn_mono w2 ?_;rintro e a3 w3 ⟨rfl,⟨I3,μ3,r3,s3,S⟩,m3⟩;obtain⟨q,l4,j1,j2,j3,j4⟩:=zh s3 ab;rw[S.mu _ _ G]at j1;cases j1;have ad  := S.mu _ _ G;have fin:∃v w',(Instr.endRound p.b (jL o)).run P w3=.ok v w'/\vz I μ H w (.bool (o==.norm)) (H4.set id (.loop { r4 with st:=(if o==.norm then .ready else .done),pend:=(if o==.norm then none else some o) })) (.returned v) w':=by
           refine⟨_,_,run_endRound (jL o) j3,?_⟩;obtain⟨s4,al⟩:=s3.write  (ob':=.loop { r4 with st:=(if o==.norm then .ready else .done),pend:=(if o==.norm then none else some o) }) ab rfl ad
            ⟨p,{ l4 with state:=if(jL o).isNone then .ready else .done,pending:=jL o },ad,j2,gE _ (Array.getElem?_eq_some_iff.1 j3).1,⟨by cases o <;> exact trivial,by cases o <;> rfl,by cases o <;> simp,j4.frame,j4.params,j4.assign,j4.body⟩⟩
           refine⟨_,I3,μ3,rfl,?_,s4,Step.trans T z (Step.trans s2 st2 (Step.trans s3 S al))⟩;rw[Ce];exact .c _ _ (.bool _)
          cases o with
          | norm=>exact fin
          | ret=>exact fin
          | exit id=>exact fin
         grind
        grind
       grind
      grind
     grind
    grind
   grind
  grind
end
end Go.VE
namespace Go.VE
variable [bK]
variable {P:Program}
theorem nM.I7 {t:TypeId} {d:TD} (h:uw P t=some d):nM P t d:=
 dV.ty (E:={ tt:=uw P,ft:=λ_=>none,keep:=λ_=>false,own:=λ_=>false,eqN:=λ_=>none,sort:=λ_=>false }) ⟨λ_ _ h=>h,by simp,by simp⟩ h
theorem pJ {i:TypeId} {cs:Array Value} {o:Nat} {v:Value} {w:World} (hi:uw P i=some ⟨1,8,[.int .i64 0],.int .i64⟩) (h:cs[o]? = some v):(part i cs o).run P w=.ok v w:=by
 unfold part;simp[Sem.run_bind,(nM.I7 hi).IK,Result.andThen,TD.agg,h]
theorem rm {a:List Int} (h:a.length=2):∃x y,a=[x,y]:=by
 match a,h with
 | [x,y],_=>exact⟨x,y,rfl⟩
theorem xJ (d:Nat) (e:Bool) {i:TypeId} (x:Int) {w:World} (u:P.underlying i=some (.int .i64)):(Instr.checkKey e (d+1) i (.int .i64 x)).run P w=.ok () w:=by
 simp only[Instr.checkKey,Sem.run_bind,dx u,Result.andThen_ok,Sem.run_pure]
theorem FB (d:Nat) (e:Bool) {t i:TypeId} {f g:Field} (x y:Int) {w:World} (hu:P.underlying t=some (.struct #[f,g])) (z:f.type=i) (hg:g.type=i) (of:f.offset=0) (B:g.offset=1) (nf:f.name ≠ "_") (D:g.name ≠ "_")
 (hi:uw P i=some ⟨1,8,[.int .i64 0],.int .i64⟩) (u:P.underlying i=some (.int .i64)):(Instr.checkKey e (d+1+1) t (.agg (ic [x,y]))).run P w=.ok () w:=by
 have C:∀w,(part i (ic [x,y]) 0).run P w=.ok (.int .i64 x) w:=λw=>pJ hi rfl
 have p1:∀w,(part i (ic [x,y]) 1).run P w=.ok (.int .i64 y) w:=λw=>pJ hi rfl
 have q:∀(x:Int) w,(Instr.checkKey e (d+1) i (.int .i64 x)).run P w=.ok () w:=λx w=>xJ d e x u
 unfold Instr.checkKey;simp only[Sem.run_bind,dx hu,Result.andThen_ok];rw[<-Array.forIn_toList];simp only[List.forIn_cons,List.forIn_nil,Sem.run_bind,z,hg,of,B,nf,D,ne_eq,not_false_eq_true,if_true,C,p1,q,Result.andThen_ok,Sem.run_pure]
theorem uu.two {t i:TypeId} {f g:Field} (hu:P.underlying t=some (.struct #[f,g])) (T:f.type=i) (hg:g.type=i) (of:f.offset=0) (U:g.offset=1) (nf:f.name ≠ "_") (W:g.name ≠ "_")
 (hi:uw P i=some ⟨1,8,[.int .i64 0],.int .i64⟩) (G:P.underlying i=some (.int .i64)) (Y:P.stoodInHeld t=false) (hq:P.eqGuardType P.depth t=false):uu P t 2:=by
 have I:P.fieldsOf t=#[f,g]:=by unfold Program.fieldsOf;rw[hu]
 have B:∀(w:World) (x y z u:Int),(Op.equal t (.agg (ic [x,y])) (.agg (ic [z,u]))).run P w=.ok ([x,y]==[z,u]) w:=by
  intro w x y z u;show (Op.equalIn (9999+1) t _ _).run P w=_;rw[run_equalIn_struct w 9999 t _ _ (by rw[I];exact hu) Y,I]
  have Q:∀(x y:Int) w,(part i (ic [x,y]) 0).run P w=.ok (.int .i64 x) w:=λx y w=>pJ hi rfl
  have p1:∀(x y:Int) w,(part i (ic [x,y]) 1).run P w=.ok (.int .i64 y) w:=λx y w=>pJ hi rfl
  have q:∀(x y:Int) w,(Op.equalIn 9999 i (.int .i64 x) (.int .i64 y)).run P w=.ok (x==y) w:=λx y w=>zN 9998 x y G
  simp only[Op.eqFields,T,hg,of,U,nf,W,ne_eq,not_false_eq_true,if_true,Sem.run_bind,Q,q,Result.andThen_ok]
  by_cases C:x=z
  .by_cases J:y=u
   .subst C;subst J;simp[Sem.run_bind,p1,q,Result.andThen]
   subst C;have:(y==u)=false:=by simpa using J
   simp[Sem.run_bind,p1,q,Result.andThen,this]
  have:(x==z)=false:=by simpa using C
  simp[this]
 have L:∀(op:BinOp) (p q:Operand) (w:World) (u v:Array Value),(eqGuard op t p q (.agg u) (.agg v)).run P w=.ok () w:=by
  intro op p q w u v;unfold eqGuard;cases op <;> simp[Sem.run_bind,run_program,Result.andThen,hq]
 refine⟨?_,?_,?_,?_,⟨_,hu,.inr ⟨_,rfl⟩⟩⟩
 .intro w p q a b D O;obtain⟨x,y,rfl⟩:=rm D;obtain⟨z,u,rfl⟩:=rm O;rw[Sem.run_bind,L,Result.andThen_ok];show (do pure (Value.bool (<-Op.equal t (.agg (ic [x,y])) (.agg (ic [z,u])))):Sem Value).run P w=_
  rw[Sem.run_bind,B];rfl
 .intro w p q a b D O;obtain⟨x,y,rfl⟩:=rm D;obtain⟨z,u,rfl⟩:=rm O;rw[Sem.run_bind,L,Result.andThen_ok];show (do pure (Value.bool (!(<-Op.equal t (.agg (ic [x,y])) (.agg (ic [z,u]))))):Sem Value).run P w=_
  rw[Sem.run_bind,B];rfl
 .intro w a b D O;obtain⟨x,y,rfl⟩:=rm D;obtain⟨z,u,rfl⟩:=rm O;exact B w x y z u
 intro w e a D;obtain⟨x,y,rfl⟩:=rm D;exact FB 9998 e x y hu T hg of U nf W hi G
def lk {α:Type}:List (Nat×α)->Nat->Option α
 | [],_=>none
 | (k,v)::r,n=>bif Nat.beq k n then some v else lk r n
theorem Kb {α:Type}:∀{l:List (Nat×α)} {n:Nat} {v:α},lk l n=some v->(n,v)∈l
 | [],_,_,h=>by simp[lk]at h
 | (k,x)::r,n,v,h=>by
  simp only[lk]at h
  cases hk:Nat.beq k n with
  | true=>
   rw[hk]at h;simp only[cond_true,ζa]at h;have:=Nat.eq_of_beq_eq_true hk;subst this;subst h;simp
  | false=>rw[hk]at h;exact List.mem_cons_of_mem _ (Kb h)
end Go.VE
namespace Go.VE
variable [bK]
inductive KT where|bool|str|slice|ptr|map|int|other
 deriving DecidableEq
def TK.tag:TK->KT
 | .bool=>.bool
 | .int _=>.int
 | .str=>.str
 | .ptr _=>.ptr
 | .slice _=>.slice
 | .map ..=>.map
 | _=>.other
def mW (k:KT) (x y:V):Option Bool:=
 match k,x,y with
 | .slice,.bM,.bM=>some true
 | .slice,.fsl ..,.bM=>some false
 | .slice,.hsl ..,.bM=>some false
 | .ptr,.gp,.gp=>some true
 | .ptr,.fptr _,.gp=>some false
 | .ptr,.hptr ..,.gp=>some false
 | .map,.fL,.fL=>some true
 | .map,.fmap _,.fL=>some false
 | .map,.hmap _,.fL=>some false
 | _,_,_=>none
def j8 (k:Option KT) (e:Option Nat) (op:BinOp) (x y:V):Option V:=
 match x,y with
 | .int k a,.int u b=>
  match op with
  | .shl=>if b<0 then none else some (.int k (k.wrap (a*2 ^ (min b.toNat k.bits))))
  | .shr=>if b<0 then none else some (.int k (a.fdiv (2 ^ (min b.toNat k.bits))))
  | _=>if k=u then
   match op with
   | .add=>some (.int k (k.wrap (a+b)))
   | .sub=>some (.int k (k.wrap (a-b)))
   | .mul=>some (.int k (k.wrap (a*b)))
   | .quo=>if b=0 then none else some (.int k (k.wrap (a.tdiv b)))
   | .rem=>if b=0 then none else some (.int k (a.tmod b))
   | .and=>some (.int k (k.wrap (BitVec.ofInt k.bits a &&& BitVec.ofInt k.bits b).toNat))
   | .or=>some (.int k (k.wrap (BitVec.ofInt k.bits a ||| BitVec.ofInt k.bits b).toNat))
   | .xor=>some (.int k (k.wrap (BitVec.ofInt k.bits a ^^^ BitVec.ofInt k.bits b).toNat))
   | .andNot=>some (.int k (k.wrap (BitVec.ofInt k.bits a &&& ~~~ BitVec.ofInt k.bits b).toNat))
   | op=>(qT op a b).map .bool
   else none
 | .str a,.str b=>
  match op with
  | .add=>if((a.size+b.size:Nat):Int)>IntKind.i64.max then none else some (.str (a++b))
  | .eql=>some (.bool (a.toList==b.toList))
  | .neq=>some (.bool !(a.toList==b.toList))
  | .lss=>some (.bool (Op.bytesLess a.toList b.toList))
  | .leq=>some (.bool (Op.bytesLess a.toList b.toList||a.toList==b.toList))
  | .gtr=>some (.bool !(Op.bytesLess a.toList b.toList||a.toList==b.toList))
  | .geq=>some (.bool !(Op.bytesLess a.toList b.toList))
  | _=>none
 | .bool a,.bool b=>
  match k,op with
  | some .bool,.eql=>some (.bool (a==b))
  | some .bool,.neq=>some (.bool !(a==b))
  | _,_=>none
 | .agg a,.agg b=>
  match e,op with
  | some n,.eql=>if a.length=n then(jE a b).map .bool else none
  | some n,.neq=>if a.length=n then(jE a b).map (λt=>.bool !t)else none
  | _,_=>none
 | x,y=>
  match k,op with
  | some k,.eql=>(mW k x y).map .bool
  | some k,.neq=>(mW k x y).map λt=>.bool !t
  | _,_=>none
theorem HL (k:TK) (x y:V):sF k x y=mW k.tag x y:=by
 cases k <;> cases y <;> (try rfl) <;> cases x <;> rfl
theorem Og (E:Env) (op:BinOp) (t:TypeId) (x y:V):ED E op t x y=j8 ((E.cN t).map TK.tag) (E.eqN t) op x y:=by
 unfold ED;split
 .rfl
 .rfl
 .cases hk:E.cN t with
  | none=>rfl
  | some k=>cases k <;> cases op <;> rfl
 .rfl
 rename_i h1 u w z
 cases hk:E.cN t with
 | none=>rw[j8.eq_29 _ _ _ _ _ h1 u w z Zc Zc]
 | some k=>
  simp only[HL];cases op <;> first
   | exact(j8.eq_27 _ _ _ _ h1 u w z).symm
   | exact(j8.eq_28 _ _ _ _ h1 u w z).symm
   | (rw[j8.eq_29 _ _ _ _ _ h1 u w z Zc Zc])
inductive sZ where
 | id|pick|nilc
 | bin (k:Option KT) (e:Option Nat) (op:BinOp)
 | not|neg
 | conv (k:IntKind)
 | fieldAddr (off:Nat)
 | field (off size:Nat) (agg:Bool)
 | idxS (size:Nat)
 | idxA (len size:Nat)
 | idxStr
 | idxArr (len size:Nat) (agg:Bool)
 | sliceStr (lo hi:Bool)
 | slice (size:Nat) (lo hi:Bool)
 | slice00
 | build (zero:List V) (pl:List (Nat×Nat))
 | clo (name:Nat) (k:Nat)
 | ext (i:Nat)
 | lenStr|lenSl|capSl|max|min|bad|max4
 | makeC (size:Nat) (zero:List V)
 | emptyC
def HJ:V->Option V
 | .hptr id el off=>some (.hptr id el off)
 | .fptr cs=>some (.fptr cs)
 | .clo f a b=>some (.clo f a b)
 | _=>none
def kW (off:Nat):V->Option V
 | .fptr cs=>if off<=cs.length then some (.fptr (cs.drop off))else none
 | .hptr id el o=>some (.hptr id el (o+off))
 | _=>none
def kK (size:Nat) (s:V) (n:Int):Option V:=
 if n<0 then none else match s with
 | .fsl es u=>if es=size then(u[n.toNat]?).map .fptr else none
 | .hsl id es off len=>if es=size/\n.toNat<len then some (.hptr id (off+n.toNat) 0)else none
 | _=>none
def uZ (len size:Nat) (p:V) (n:Int):Option V:=
 if 0<=n/\n<len then match p with
  | .fptr cs=>if n.toNat*size<=cs.length then some (.fptr (cs.drop (n.toNat*size)))else none
  | .hptr id el o=>some (.hptr id el (o+n.toNat*size))
  | _=>none
 else none
def lI:Bool->Bool->List V->Option (Option Int×Option Int)
 | false,false,[]=>some (none,none)
 | true,false,[.int _ l]=>some (some l,none)
 | false,true,[.int _ h]=>some (none,some h)
 | true,true,[.int _ l,.int _ h]=>some (some l,some h)
 | _,_,_=>none
def gL (size:Nat) (v:V) (l h:Option Int):Option V:=
 match v with
 | .fsl es u=>if es=size then(dM u.length l h).map λ(l,h)=>.fsl es ((u.take h).drop l)else none
 | .hsl id es off len=>if es=size then(dM len l h).map λ(l,h)=>.hsl id es (off+l) (h-l)else none
 | .di=>(dM 0 l h).map λ_=>.di
 | .bM=>(dM 0 l h).map λ_=>.bM
 | _=>none
def HW:V->Bool
 | .fsl ..|.hsl ..|.di|.bM=>true
 | _=>false
def jw (cells:List V):List (Nat×Nat)->List V->Option (List V)
 | [],[]=>some cells
 | (off,size)::pl,v::vs=>
  if v.cells.length≠size||off+v.cells.length>cells.length then none
  else jw (cells.take off++v.cells++cells.drop (off+v.cells.length)) pl vs
 | _,_=>none
def o4:V->Option V
 | .fsl _ xs=>some (.int .i64 xs.length)
 | .hsl _ _ _ len=>some (.int .i64 len)
 | .di=>some (.int .i64 0)
 | .bM=>some (.int .i64 0)
 | _=>none
def MP:V->Option V
 | .bM|.di=>some (.int .i64 0)
 | _=>none
def bq (N:Nat->FuncId):sZ->List V->Option V
 | .id,[x]=>some x
 | .pick,[.bool t,a,b]=>some (if t then a else b)
 | .nilc,[x]=>HJ x
 | .bin k e op,[x,y]=>j8 k e op x y
 | .not,[.bool b]=>some (.bool !b)
 | .neg,[.int k n]=>some (.int k (k.wrap (0-n)))
 | .conv k,[.int _ n]=>some (.int k (k.wrap n))
 | .fieldAddr off,[p]=>kW off p
 | .field off size agg,[.agg cs]=>(cut cs off size).bind (mk agg)
 | .idxS size,[s,.int _ n]=>kK size s n
 | .idxA len size,[p,.int _ n]=>uZ len size p n
 | .idxStr,[.str s,.int _ n]=>if 0<=n then(s[n.toNat]?).map (λb=>.int .u8 b.toNat)else none
 | .idxArr len size agg,[.agg cs,.int _ n]=>if 0<=n/\n<len then(cut cs (n.toNat*size) size).bind (mk agg)else none
 | .sliceStr lo hi,.str s::z=>(lI lo hi z).bind λ(l,h)=>(dM s.size l h).map λ(l,h)=>.str (s.extract l h)
 | .slice size lo hi,v::z=>(lI lo hi z).bind λ(l,h)=>gL size v l h
 | .slice00,[v,.int _ h,.int _ m]=>if HW v&&h==0&&m==0 then some .di else none
 | .build zero pl,vs=>(jw zero pl vs).map .agg
 | .clo name k,vs=>some (.clo (N name) (vs.take k) (vs.drop k))
 | .ext i,[.tup vs]=>vs[i]?
 | .lenStr,[.str s]=>some (.int .i64 s.size)
 | .lenSl,[v]=>o4 v
 | .capSl,[v]=>MP v
 | .max,[.int k a,.int u b]=>if k=u then some (.int k (if b>a then b else a))else none
 | .max4,[.int k a,.int k1 b,.int B c,.int D d]=>if k=k1/\k=B/\k=D then some (.int k (Ai (Ai (Ai a b) c) d))else none
 | .min,[.int k a,.int u b]=>if k=u then some (.int k (if b<a then b else a))else none
 | .makeC size zero,[.int k n,.int u m]=>if k=.i64/\u=.i64/\0<=n/\n=m/\m<=2147483648/\zero.all V.scalar=true then some (.fsl size (List.replicate n.toNat zero))else none
 | .emptyC,[]=>some .di
 | _,_=>none
inductive vc where|int (k:IntKind)|str|ints (n:Nat)
def Bn (E:Env) (t:TypeId):Option vc:=
 match E.cN t with
 | some (.int k)=>some (.int k)
 | some .str=>some .str
 | some _=>(E.eqN t).map .ints
 | none=>none
def nL:vc->V->Bool
 | .int k,.int u _=>k==u
 | .str,.str _=>true
 | .ints n,.agg cs=>cs.length==n&&(gC cs).isSome
 | _,_=>false
inductive G_ where
 | load (size:Nat) (agg:Bool)
 | loadF (size:Nat) (agg:Bool)
 | lookup (kk:vc) (zero:V) (ok:Bool)
def fS (H:bf):G_->List V->Option V
 | .load size agg,[p]=>(dY H p size).bind (mk agg)
 | .lookup kk z ok,[m,k]=>match lg H m with
  | some u=>if nL kk k then match gG k u 0 with
   | some (some (_,v))=>some (if ok then .tup [v,.bool true]else v)
   | some none=>some (if ok then .tup [z,.bool false]else z)
   | none=>none
   else none
  | none=>none
 | _,_=>none
inductive Ks where
 | alloc (size:Nat) (zero:List V)
 | box
 | makeSl (size:Nat) (zero:List V)
 | buildSl (size len:Nat) (zero:List V) (idx:List Nat)
 | makeMap
def kL:Ks->List V->Option (Ob×Mk)
 | .alloc size zero,[]=>some (.row size [zero],.ptr)
 | .box,[v]=>if v.cells.all V.one then some (.row v.cells.length [v.cells],.ptr)else none
 | .makeSl size zero,[.int k n,.int u m]=>if k=.i64/\u=.i64/\0<=n/\n<=m/\m<=2147483648 then some (.row size (List.replicate m.toNat zero),.sl size n.toNat)else none
 | .buildSl size len zero idx,vs=>if idx.length=vs.length then(gB size (List.replicate len zero) (idx.zip vs)).map λxs=>(.row size xs,.sl size len)else none
 | .makeMap,[]=>some (.map [],.map)
 | _,_=>none
inductive G0 where
 | store (size:Nat)
 | storeF (size:Nat)
 | mapUp (kk:vc)
 | append (size:Nat)
 | appMk (size bytes:Nat) (zero:List V)
 | clear (size:Nat) (zero:List V)
def fc (H:bf):G0->List V->Option (V×bf)
 | .store size,[.hptr id el off,v]=>match H[id]? with
  | some (.row es xs)=>match xs[el]? with
   | some cs=>if v.cells.length=size/\off+size<=cs.length/\v.cells.all V.one=true then
    some (.undef,H.set id (.row es (xs.set el (cs.take off++v.cells++cs.drop (off+v.cells.length)))))else none
   | none=>none
  | _=>none
 | .mapUp kk,[.hmap id,k,v]=>match H[id]? with
  | some (.map u)=>if nL kk k then(n9 k v u).map λu=>(.undef,H.set id (.map u))else none
  | _=>none
 | .append size,[s,x]=>match dH H size s,dH H size x with
  | some _,some []=>some (s,H)
  | some xs,some ys=>if xs.length+ys.length<=2147483648 then(gq H s).map λH1=>(.hsl H.length size 0 (xs.length+ys.length),H1++[.row size (xs++ys)])else none
  | _,_=>none
 | .appMk size bytes zero,[s,x]=>mkApp H size bytes zero s x
 | .clear size zero,[v]=>BD H size zero v
 | .storeF size,.hptr id el off::v::l=>if l.all (oV id)=true then match H[id]? with
  | some (.row es xs)=>match xs[el]? with
   | some cs=>if v.cells.length=size/\off+size<=cs.length/\v.cells.all V.one=true then
    some (.undef,H.set id (.row es (xs.set el (cs.take off++v.cells++cs.drop (off+v.cells.length)))))else none
   | none=>none
  | _=>none
  else none
 | _,_=>none
inductive K where
 | p (p:sZ)
 | r (r:G_)
 | a (a:Ks)
 | l (l:G0)
 | c
 | e (size:Nat)
 | b
def Rq (E:Env) (t:TypeId):Option KT:=(E.cN t).map TK.tag
def resolve (E:Env) (nm:FuncId->Option Nat):Op->Option (K×List Operand)
 | .move x|.assign x=>some (.p .id,[x])
 | .pick c a b=>some (.p .pick,[c,a,b])
 | .nilCheck x=>some (.p .nilc,[x])
 | .binOp op t x y _=>some (.p (.bin (Rq E t) (E.eqN t) op),[x,y])
 | .unOp .not _ x=>some (.p .not,[x])
 | .unOp .neg _ x=>some (.p .neg,[x])
 | .convert s d x=>match E.tt s,E.tt d with
  | some _,some D=>match D.kind with
   | .int k=>some (.p (.conv k),[x])
   | .str=>match E.cN s with
    | some (.slice e)=>match E.cN e with
     | some (.int .u8)=>some (.b,[x])
     | _=>none
    | _=>none
   | _=>none
  | _,_=>none
 | .fieldAddr s x f=>match E.cN s with
  | some (.struct fs)=>match fs[f]? with
   | some (off,t)=>match E.tt t with
    | some d=>if d.size=0 then none else some (.p (.fieldAddr off),[x])
    | none=>none
   | none=>none
  | _=>none
 | .field s x f=>match E.cN s with
  | some (.struct fs)=>match fs[f]? with
   | some (off,t)=>match E.tt t with
    | some d=>some (.p (.field off d.size d.agg),[x])
    | none=>none
   | none=>none
  | _=>none
 | .indexAddr t x i=>match E.cN t with
  | some (.slice e)=>(E.tt e).map λd=>(.p (.idxS d.size),[x,i])
  | some (.array len e)=>(E.tt e).map λd=>(.p (.idxA len d.size),[x,i])
  | _=>none
 | .index t x i=>match E.cN t with
  | some .str=>some (.p .idxStr,[x,i])
  | some (.array len e)=>(E.tt e).map λd=>(.p (.idxArr len d.size d.agg),[x,i])
  | _=>none
 | .slice t x lo hi G=>match E.cN t,G with
  | some .str,none=>some (.p (.sliceStr lo.isSome hi.isSome),x::(lo.toList++hi.toList))
  | some (.slice e),none=>(E.tt e).map λd=>(.p (.slice d.size lo.isSome hi.isSome),x::(lo.toList++hi.toList))
  | some (.slice e),some m=>match E.tt e,lo,hi with
   | some _,none,some h=>some (.p .slice00,[x,h,m])
   | _,_,_=>none
  | _,_=>none
 | .build t ps=>match E.tt t with
  | some d=>match d.kind with
   | .struct fs=>match lN E fs with
    | some pl=>(ps.toList.mapM λ(q:Nat×Operand)=>pl[q.1]?).map λq=>(K.p (.build d.zero q),ps.toList.map λ(q:Nat×Operand)=>q.2)
    | none=>none
   | .array _ e=>(E.tt e).map λB=>(K.p (.build d.zero (ps.toList.map λ(q:Nat×Operand)=>(q.1*B.size,B.size))),ps.toList.map λ(q:Nat×Operand)=>q.2)
   | _=>none
  | none=>none
 | .makeFunc (.func f) a b=>(nm f).map λs=>(.p (.clo s a.toList.length),a.toList++b.toList)
 | .extract x i=>some (.p (.ext i),[x])
 | .load t a=>(E.tt t).map λd=>(.r (.load d.size d.agg),[a])
 | .lookup t m k ok=>match E.cN t with
  | some (.map u J)=>match E.tt J,Bn E u with
   | some d,some kk=>(mk d.agg d.zero).map λz=>(.r (.lookup kk z ok),[m,k])
   | _,_=>none
  | _=>none
 | .alloc t=>(E.tt t).map λd=>(.a (.alloc d.size d.zero),[])
 | .box _ x=>some (.a .box,[x])
 | .makeSlice t l c=>match E.cN t with
  | some (.slice e)=>match E.tt e with
   | some d=>if d.bytes<=4096 then some (.a (.makeSl d.size d.zero),[l,c])else none
   | none=>none
  | _=>none
 | .buildSlice t len ps=>match E.cN t with
  | some (.slice e)=>match E.tt e with
   | some d=>if len*d.size<=16777216 then some (.a (.buildSl d.size len d.zero (ps.toList.map (·.1))),ps.toList.map (·.2))else none
   | none=>none
  | _=>none
 | .makeMap _ none=>some (.a .makeMap,[])
 | .store t a x=>(E.tt t).map λd=>(.l (.store d.size),[a,x])
 | .mapUpdate t m k x|.insert t m k x=>match E.cN t with
  | some (.map u _)=>(Bn E u).map λkk=>(.l (.mapUp kk),[m,k,x])
  | _=>none
 | .call { callee:=.builtin .append,args,argTypes }=>match argTypes.toList,args.toList with
  | [t,T],[s,x]=>match E.cN t,E.cN T with
   | some (.slice e),some (.slice _)=>match E.tt e with
    | some d=>if d.bytes<=4096/\0<d.bytes then some (.l (.append d.size),[s,x])else none
    | none=>none
   | some (.slice e),some (.int _)=>(E.tt e).map λd=>(.l (.appMk d.size d.bytes d.zero),[s,x])
   | _,_=>none
  | _,_=>none
 | .call { callee:=.builtin .len,args,argTypes }=>match argTypes[0]?,args.toList with
  | some t,[x]=>match E.cN t with
   | some .str=>some (.p .lenStr,[x])
   | some (.slice _)=>some (.p .lenSl,[x])
   | _=>none
  | _,_=>none
 | .call { callee:=.builtin .cap,args,argTypes }=>match argTypes[0]?,args.toList with
  | some t,[x]=>match E.cN t with
   | some (.slice _)=>some (.p .capSl,[x])
   | _=>none
  | _,_=>none
 | .call { callee:=.builtin .clear,args,argTypes }=>match argTypes[0]?,args.toList with
  | some t,[x]=>match E.cN t with
   | some (.slice e)=>(E.tt e).map λd=>(.l (.clear d.size d.zero),[x])
   | _=>none
  | _,_=>none
 | .panic _=>some (.p .bad,[])
 | .makeInterface ..=>some (.p .bad,[])
 | .call { callee:=.builtin .max,args,.. }=>match args.toList with
  | [x,y]=>some (.p .max,[x,y])
  | [x,y,z,t]=>some (.p .max4,[x,y,z,t])
  | _=>none
 | .call { callee:=.builtin .min,args,.. }=>match args.toList with
  | [x,y]=>some (.p .min,[x,y])
  | _=>none
 | .call { callee:=.value f,args,.. }=>some (.c,f::args.toList)
 | _=>none
section
variable {E:Env} {nm:FuncId->Option Nat} {N:Nat->FuncId} {F:Frame}
theorem mM {x:Operand} {vs:List V} (h:eF F [x]=some vs):∃a,ev F x=some a/\vs=[a]:=by
 simp[eF]at h
 grind
theorem gN {x:Operand} {l:List Operand} {vs:List V} (h:eF F (x::l)=some vs):∃a az,ev F x=some a/\eF F l=some az/\vs=a::az:=by
 simp[eF]at h
 grind
theorem oJ {vs:List V} (h:eF F []=some vs):vs=[]:=by simp[eF]at h;grind
theorem qD {x y:Operand} {vs:List V} (h:eF F [x,y]=some vs):∃a b,ev F x=some a/\ev F y=some b/\vs=[a,b]:=by
 obtain⟨a,az,w,u,rfl⟩:=gN h;obtain⟨b,z,rfl⟩:=mM u
 grind
theorem E8 {x y z:Operand} {vs:List V} (h:eF F [x,y,z]=some vs):∃a b c,ev F x=some a/\ev F y=some b/\ev F z=some c/\vs=[a,b,c]:=by
 obtain⟨a,az,w,u,rfl⟩:=gN h;obtain⟨b,c,B,hc,rfl⟩:=qD u
 grind
theorem Ia {l m:List Operand} {vs:List V} (h:eF F (l++m)=some vs):∃az u,eF F l=some az/\eF F m=some u/\vs=az++u:=by
 induction l generalizing vs with
 | nil=>exact⟨[],vs,rfl,h,rfl⟩
 | cons x l w=>
  obtain⟨a,az,z,B,rfl⟩:=gN h;obtain⟨b,c,C,hc,rfl⟩:=w B;refine⟨a::b,c,?_,hc,rfl⟩;simp[eF,z,C]
theorem HH {l:List Operand} {vs:List V} (h:eF F l=some vs):vs.length=l.length:=by
 induction l generalizing vs with
 | nil=>rw[oJ h];rfl
 | cons x l u=>obtain⟨a,az,_,w,rfl⟩:=gN h;grind
def Bo (E:Env) (N:Nat->FuncId) (F:Frame) (op:Op) (vs:List V):K->Prop
 | .p p=>cT op=.pure/\∀v,bq N p vs=some v->bD E F op=some v
 | .r r=>cT op=.read/\∀H v,fS H r vs=some v->dF E F H op=some v
 | .a a=>cT op=.alloc/\∀x,kL a vs=some x->eo E F op=some x
 | .l l=>cT op=.loud/\∀H x,fc H l vs=some x->cO E F H op=some x
 | .e _=>False
 | .b=>cT op=.pure/\∃x,vs=[x]/\∀H ys l,dH H 1 x=some ys->oa ys=some l->bD E F op=none/\evalConv E F H op=some (.str (HQ l))
 | .c=>cT op=.call/\∃f az,vs=f::az/\iK F op=(match f with|.clo g a b=>some (.fn g,a++az++b)|.yld id=>some (.yld id,az)|_=>none)
theorem FJ (place:Nat->Option (Nat×Nat)):∀(ps:List (Nat×Operand)) (q:List (Nat×Nat)) (vs:List V) (cells cs:List V),(ps.mapM λ(x:Nat×Operand)=>place x.1)=some q ->
 eF F (ps.map λ(x:Nat×Operand)=>x.2)=some vs->jw cells q vs=some cs->∃z,kI F ps=some z/\rK place cells z=some cs:=by
 intro ps
 induction ps with
 | nil=>
  intro q vs cells cs u hv h;simp  at u;subst u;have:=oJ (by simpa using hv);subst this
  simp[jw]at h;subst h;exact⟨[],rfl,rfl⟩
 | cons p ps D=>
  intro q vs cells cs u hv h;obtain⟨i,x⟩:=p;simp only[List.mapM_cons,Option.pure_def,Option.bind_eq_bind,ζg,ζa]at u;obtain⟨pl,w,G,B,rfl⟩:=u;obtain⟨a,az,I,C,rfl⟩:=gN (by simpa using hv)
  simp only[jw]at h;split at h
  .simp_all
  obtain⟨z,h1,J⟩:=D G az _ cs B C h;refine⟨(i,a)::z,by simp[kI,I,h1],?_⟩
  simp[rK,w]
  grind
theorem Kl:∀(ps:List (Nat×Operand)) (vs:List V),eF F (ps.map λ(x:Nat×Operand)=>x.2)=some vs->kI F ps=some ((ps.map λ(x:Nat×Operand)=>x.1).zip vs):=by
 intro ps
 induction ps with
 | nil=>simp[kI]
 | cons p ps w=>
  intro vs hv;obtain⟨a,az,z,u,rfl⟩:=gN (by simpa using hv)
  simp[kI,z,w az u]
theorem EW {lo hi:Option Operand} {vs:List V} {l h:Option Int} (hv:eF F (lo.toList++hi.toList)=some vs) (z:lI lo.isSome hi.isSome vs=some (l,h)):iR F lo=some l/\iR F hi=some h:=by
 cases lo with
 | none=>
  cases hi with
  | none=>
   have:=oJ (by simpa using hv);subst this;obtain⟨rfl,rfl⟩:=z;exact⟨rfl,rfl⟩
  | some y=>
   obtain⟨b,u,rfl⟩:=mM (by simpa using hv)
   cases b <;> simp[lI]at z;obtain⟨rfl,rfl⟩:=z;simp[iR,u]
 | some x=>
  cases hi with
  | none=>
   obtain⟨b,u,rfl⟩:=mM (by simpa using hv)
   cases b <;> simp[lI]at z;obtain⟨rfl,rfl⟩:=z;simp[iR,u]
  | some y=>
   obtain⟨a,b,w,u,rfl⟩:=qD (by simpa using hv)
   cases a <;> cases b <;> simp[lI]at z;obtain⟨rfl,rfl⟩:=z;simp[iR,w,u]
theorem yP {t:TypeId} {kk:vc} {k:V} (h:Bn E t=some kk) (hk:nL kk k=true):zb E t k=true:=by
 unfold Bn at h;unfold zb
 cases u:E.cN t with
 | none=>grind
 | some tk=>
  rw[u]at h;have gen:(E.eqN t).map vc.ints=some kk->∃n cs,E.eqN t=some n/\k=.agg cs/\(cs.length==n&&(gC cs).isSome)=true:=by
   intro h;simp  at h;obtain⟨n,w,rfl⟩:=h;cases k <;> simp[nL]at hk <;> first|grind|grind
  cases tk with
  | int z=>
   simp  at h;subst h;cases k <;> simp[nL]at hk
   grind
  | str=>
   simp  at h;subst h;cases k <;> simp[nL]at hk;rfl
  | _=>
   obtain⟨n,cs,h1,rfl,B⟩:=gen h;simp_all
theorem jy (hN:∀f s,nm f=some s->N s=f) {op:Op} {k:K} {os:List Operand} {vs:List V} (h:resolve E nm op=some (k,os)) (hv:eF F os=some vs):Bo E N F op vs k:=by
 cases op with
 | move x=>
  obtain⟨rfl,rfl⟩:=h;obtain⟨a,B,rfl⟩:=mM hv;exact⟨rfl,λv w=>by simpa [bq,bD,B]using w⟩
 | assign x=>
  obtain⟨rfl,rfl⟩:=h;obtain⟨a,B,rfl⟩:=mM hv;exact⟨rfl,λv w=>by simpa [bq,bD,B]using w⟩
 | pick c a b=>
  simp[resolve]at h;obtain⟨rfl,rfl⟩:=h;obtain⟨x,y,z,hx,hy,U,rfl⟩:=E8 hv;refine⟨rfl,λv w=>?_⟩
  cases x <;> simp[bq]at w;rename_i t;subst w;cases t <;> simp[bD,hx,hy,U]
 | nilCheck x=>
  simp[resolve]at h;obtain⟨rfl,rfl⟩:=h;obtain⟨a,B,rfl⟩:=mM hv;refine⟨rfl,λv w=>?_⟩
  cases a <;> simp[bq,HJ]at w <;> subst w <;> simp[bD,B]
 | binOp ai t x y yt=>
  simp only[resolve,ζa,ζc]at h;obtain⟨rfl,rfl⟩:=h;obtain⟨a,b,B,G,rfl⟩:=qD hv;exact⟨rfl,λv w=>by simp only[bD,B,G,Og];exact w⟩
 | unOp u t x=>
  cases u with
  | not=>
   simp only[resolve,ζa,ζc]at h;obtain⟨rfl,rfl⟩:=h;obtain⟨a,B,rfl⟩:=mM hv;refine⟨rfl,λv w=>?_⟩
   cases a <;> simp[bq]at w;subst w;simp[bD,B]
  | neg=>
   simp only[resolve,ζa,ζc]at h;obtain⟨rfl,rfl⟩:=h;obtain⟨a,B,rfl⟩:=mM hv;refine⟨rfl,λv w=>?_⟩
   cases a <;> simp[bq]at w;subst w;simp[bD,B]
  | _=>simp[resolve]at h
 | convert s d x=>
  simp only[resolve]at h;split at h
  .rename_i sd td hs hd;split at h
   .rename_i k hk;simp only[ζa,ζc]at h;obtain⟨rfl,rfl⟩:=h;obtain⟨a,B,rfl⟩:=mM hv;refine⟨rfl,λv w=>?_⟩
    cases a <;> simp[bq]at w;subst w;simp[bD,B,hs,hd,hk]
   .rename_i hk;split at h
    .rename_i e he;split at h
     .rename_i hu;simp only[ζa,ζc]at h;obtain⟨rfl,rfl⟩:=h;obtain⟨a,B,rfl⟩:=mM hv;refine⟨rfl,a,rfl,λH ys l h1 J=>?_⟩
      have ab:E.cN d=some .str:=by unfold Env.cN;rw[hd,Option.map_some,hk]
      refine⟨?_,by simp only[evalConv,he,ab,B,hu,h1,J,ζb,Option.map_some]⟩
      simp only[bD,hs,hd,B];cases a <;> first|rfl|(simp only[dH]at h1;cases h1)
     simp at h
    simp at h
   simp at h
  simp at h
 | fieldAddr s x f=>
  simp only[resolve]at h;split at h
  .rename_i fs hk;split at h
   .rename_i off t W;split at h
    .rename_i d hd;split at h
     .simp at h
     rename_i U;simp only[ζa,ζc]at h;obtain⟨rfl,rfl⟩:=h;obtain⟨a,B,rfl⟩:=mM hv;refine⟨rfl,λv w=>?_⟩
     simp only[bD,B,hk,W,hd,if_neg U];simp only[bq,kW]at w;cases a <;> simp at w ⊢ <;> exact w
    simp at h
   simp at h
  simp at h
 | field s x f=>
  simp only[resolve]at h;split at h
  .rename_i fs hk;split at h
   .rename_i off t W;split at h
    .rename_i d hd;simp only[ζa,ζc]at h;obtain⟨rfl,rfl⟩:=h;obtain⟨a,B,rfl⟩:=mM hv;refine⟨rfl,λv w=>?_⟩
     cases a <;> simp only[bq]at w <;> first|(simp only[bD,B,hk,W,hd];exact w)|simp at w
    simp at h
   simp at h
  simp at h
 | indexAddr t x i=>
  simp only[resolve]at h;split at h
  .rename_i e hk;simp only[ζf,ζc]at h;obtain⟨d,hd,rfl,rfl⟩:=h;obtain⟨a,b,B,G,rfl⟩:=qD hv;refine⟨rfl,λv w=>?_⟩
   cases b <;> simp only[bq]at w <;> first|simp at w;done|skip
   simp only[bD,B,G,hk,hd];unfold kK at w;exact w
  .rename_i len e hk;simp only[ζf,ζc]at h;obtain⟨d,hd,rfl,rfl⟩:=h;obtain⟨a,b,B,G,rfl⟩:=qD hv;refine⟨rfl,λv w=>?_⟩
   cases b <;> simp only[bq]at w <;> first|simp at w;done|skip
   simp only[bD,B,G,hk,hd];unfold uZ at w;exact w
  simp at h
 | index t x i=>
  simp only[resolve]at h;split at h
  .rename_i hk;simp only[ζa,ζc]at h;obtain⟨rfl,rfl⟩:=h;obtain⟨a,b,B,G,rfl⟩:=qD hv;refine⟨rfl,λv w=>?_⟩
   cases a <;> cases b <;> simp only[bq]at w <;> first|simp at w;done|skip
   simp only[bD,B,G,hk];exact w
  .rename_i len e hk;simp only[ζf,ζc]at h;obtain⟨d,hd,rfl,rfl⟩:=h;obtain⟨a,b,B,G,rfl⟩:=qD hv;refine⟨rfl,λv w=>?_⟩
   cases a <;> cases b <;> simp only[bq]at w <;> first|simp at w;done|skip
   simp only[bD,B,G,hk,hd];exact w
  simp at h
 | slice t x lo hi mx=>
  simp only[resolve]at h;split at h
  .rename_i hk;simp only[ζa,ζc]at h;obtain⟨rfl,rfl⟩:=h;obtain⟨a,bs,B,G,rfl⟩:=gN hv;refine⟨rfl,λv w=>?_⟩
   cases a <;> simp only[bq]at w <;> first|simp at w;done|skip
   obtain⟨⟨l,h⟩,X,w⟩:=ζg.1 w;obtain⟨h1,J⟩:=EW G X;have hm:iR F none=some none:=rfl;simp only[bD,B,hk,h1,J,hm];exact w
  .rename_i e hk;simp only[ζf,ζc]at h;obtain⟨d,hd,rfl,rfl⟩:=h;obtain⟨a,bs,B,G,rfl⟩:=gN hv;refine⟨rfl,λv w=>?_⟩
   simp only[bq]at w;obtain⟨⟨l,h⟩,X,w⟩:=ζg.1 w;obtain⟨h1,J⟩:=EW G X;have hm:iR F none=some none:=rfl;simp only[bD,B,hk,h1,J,hm,hd];cases a <;> exact w
  .rename_i e m hk;split at h
   .rename_i d hh hd;simp only[ζa,ζc]at h;obtain⟨rfl,rfl⟩:=h;obtain⟨a,b,c,B,G,hc,rfl⟩:=E8 hv;refine⟨rfl,λv w=>?_⟩
    cases b <;> cases c <;> simp only[bq]at w <;> first|simp at w;done|skip
    rename_i k1 n1 k2 n2;split at w
    .rename_i T;simp only[ζh,beq_iff_eq]at T;obtain⟨⟨h1,rfl⟩,rfl⟩:=T;have m1:iR F none=some none:=rfl;have m2:iR F (some hh)=some (some 0):=by simp[iR,G]
     have m3:iR F (some m)=some (some 0):=by simp[iR,hc]
     simp only[bD,B,hk,m1,m2,m3,hd];cases a <;> simp[HW]at h1 <;> exact w
    simp at w
   simp at h
  simp at h
 | build t ps=>
  simp only[resolve]at h;split at h
  .rename_i d hd;split at h
   .rename_i fs hk;split at h
    .rename_i pl ad;simp only[ζf,ζc]at h;obtain⟨q,hq,rfl,rfl⟩:=h;refine⟨rfl,λv w=>?_⟩
     simp only[bq,ζf]at w;obtain⟨cs,Y,rfl⟩:=w;obtain⟨ws,w1,w2⟩:=FJ (λi=>pl[i]?) _ q vs _ cs hq hv Y
     simp only[bD,hd,w1,hk,ad,w2,Option.map_some]
    simp at h
   .rename_i len e hk;simp only[ζf,ζc]at h;obtain⟨de,ae,rfl,rfl⟩:=h;refine⟨rfl,λv w=>?_⟩
    simp only[bq,ζf]at w;obtain⟨cs,Y,rfl⟩:=w;obtain⟨ws,w1,w2⟩:=FJ (λi=>some (i*de.size,de.size)) ps.toList (ps.toList.map λq=>(q.1*de.size,de.size)) vs _ cs (by
     generalize ps.toList=l
     induction l with
     | nil=>rfl
     | cons x l ih=>simp[List.mapM_cons,ih]) hv Y
    simp only[bD,hd,w1,hk,ae,w2,Option.map_some]
   simp at h
  simp at h
 | makeFunc f a b=>
  cases f with
  | func f=>
   simp only[resolve,ζf,ζc]at h;obtain⟨s,hs,rfl,rfl⟩:=h;obtain⟨az,bs,B,G,rfl⟩:=Ia hv;refine⟨rfl,λv w=>?_⟩
   simp only[bq,ζa]at w;subst w;simp only[bD,B,G,hN f s hs];rw[<-HH B];simp
  | _=>simp[resolve]at h
 | extract x i=>
  simp only[resolve,ζa,ζc]at h;obtain⟨rfl,rfl⟩:=h;obtain⟨a,B,rfl⟩:=mM hv;refine⟨rfl,λv w=>?_⟩
  cases a <;> simp only[bq]at w <;> first|simp at w;done|skip
  simp only[bD,B];exact w
 | load t x=>
  simp only[resolve,ζf,ζc]at h;obtain⟨d,hd,rfl,rfl⟩:=h;obtain⟨a,B,rfl⟩:=mM hv;exact⟨rfl,λH v w=>by simp only[dF,hd,B];exact w⟩
 | lookup t m k ok=>
  simp only[resolve]at h;split at h
  .rename_i kt et hk;split at h
   .rename_i d kk hd L;simp only[ζf,ζc]at h;obtain⟨z,U,rfl,rfl⟩:=h;obtain⟨a,b,B,G,rfl⟩:=qD hv;refine⟨rfl,λH v w=>?_⟩
    simp only[fS]at w;split at w
    .rename_i aa O;split at w
     .rename_i Q;simp only[dF,hk,B,G,hd,O,yP L Q,if_true,U];split at w
      next W=>rw[W];exact w
      next W=>rw[W];exact w
      simp at w
     simp at w
    simp at w
   simp at h
  simp at h
 | alloc t=>
  simp only[resolve,ζf,ζc]at h;obtain⟨d,hd,rfl,rfl⟩:=h;have:=oJ hv;subst this;exact⟨rfl,λx w=>by simpa [kL,eo,hd]using w⟩
 | box t x=>
  simp only[resolve,ζa,ζc]at h;obtain⟨rfl,rfl⟩:=h;obtain⟨a,B,rfl⟩:=mM hv;exact⟨rfl,λx w=>by simp only[eo,B];exact w⟩
 | makeSlice t l c=>
  simp only[resolve]at h;split at h
  .rename_i e hk;split at h
   .rename_i d hd;split at h
    .rename_i S;simp only[ζa,ζc]at h;obtain⟨rfl,rfl⟩:=h;obtain⟨a,b,B,G,rfl⟩:=qD hv;refine⟨rfl,λx w=>?_⟩
     cases a <;> cases b <;> simp only[kL]at w <;> first|simp at w;done|skip
     rename_i k1 n1 k2 n2;split at w
     next hc=>simp only[eo,hk,B,G,hd];rw[if_pos ⟨hc.1,hc.2.1,hc.2.2.1,hc.2.2.2.1,hc.2.2.2.2,S⟩];exact w
     simp at w
    simp at h
   simp at h
  simp at h
 | buildSlice t len ps=>
  simp only[resolve]at h;split at h
  .rename_i e hk;split at h
   .rename_i d hd;split at h
    .rename_i S;simp only[ζa,ζc]at h;obtain⟨rfl,rfl⟩:=h;refine⟨rfl,λx w=>?_⟩
     have U:=Kl _ _ hv;simp only[kL]at w;split at w
     .simp only[eo,hk,U,hd,if_pos S];exact w
     simp at w
    simp at h
   simp at h
  simp at h
 | makeMap t r=>
  cases r with
  | none=>
   simp only[resolve,ζa,ζc]at h;obtain⟨rfl,rfl⟩:=h;have:=oJ hv;subst this;exact⟨rfl,λx w=>by simpa [kL,eo]using w⟩
  | some r=>simp[resolve]at h
 | store t p x=>
  simp only[resolve,ζf,ζc]at h;obtain⟨d,hd,rfl,rfl⟩:=h;obtain⟨a,b,B,G,rfl⟩:=qD hv;refine⟨rfl,λH v w=>?_⟩
  cases a <;> simp only[fc]at w <;> first|simp at w;done|skip
  simp only[cO,hd,B,G];exact w
 | mapUpdate t m k x=>
  simp only[resolve]at h;split at h
  .rename_i kt et hk;simp only[ζf,ζc]at h;obtain⟨kk,L,rfl,rfl⟩:=h;obtain⟨a,b,c,B,G,hc,rfl⟩:=E8 hv;refine⟨rfl,λH v w=>?_⟩
   cases a <;> simp only[fc]at w <;> first|simp at w;done|skip
   simp only[cO,hk,B,G,hc];split at w
   .rename_i aa O;split at w
    next Q=>rw[O];simp only[yP L Q,if_true];exact w
    simp at w
   simp at w
  simp at h
 | insert t m k x=>
  simp only[resolve]at h;split at h
  .rename_i kt et hk;simp only[ζf,ζc]at h;obtain⟨kk,L,rfl,rfl⟩:=h;obtain⟨a,b,c,B,G,hc,rfl⟩:=E8 hv;refine⟨rfl,λH v w=>?_⟩
   cases a <;> simp only[fc]at w <;> first|simp at w;done|skip
   simp only[cO,hk,B,G,hc];split at w
   .rename_i aa O;split at w
    next Q=>rw[O];simp only[yP L Q,if_true];exact w
    simp at w
   simp at w
  simp at h
 | call c=>
  obtain⟨callee,args,aj⟩:=c
  cases callee with
  | value f=>
   simp only[resolve,ζa,ζc]at h;obtain⟨rfl,rfl⟩:=h;obtain⟨a,az,B,has,rfl⟩:=gN hv;refine⟨rfl,a,az,rfl,?_⟩;simp only[iK,B,has];cases a <;> rfl
  | builtin b=>
   cases b with
   | append=>
    simp only[resolve]at h;split at h
    .rename_i t t' s x I C;split at h
     .rename_i e e' hk Z;split at h
      .rename_i d hd;split at h
       .rename_i S;simp only[ζa,ζc]at h;obtain⟨rfl,rfl⟩:=h;obtain⟨a,b,B,G,rfl⟩:=qD hv;refine⟨rfl,λH v w=>?_⟩
        have D:eF F args.toList=some [a,b]:=by rw[C];exact hv
        simp only[cO,I,D,hk,Z,hd];simp only[fc]at w;split at w
        next h1 J=>rw[h1,J];exact w
        .rename_i xs ys af h1 J;rw[h1,J];split at w
         .rename_i ah;simp only[if_pos (show xs.length+ys.length<=2147483648/\d.bytes<=4096/\0<d.bytes from⟨ah,S⟩)]
          cases ys with
          | nil=>exact absurd rfl af
          | cons y ys=>exact w
         simp at w
        simp at w
       simp at h
      simp at h
     .rename_i e kk hk Z;simp only[ζf,ζc]at h;obtain⟨d,hd,rfl,rfl⟩:=h;obtain⟨a,b,B,G,rfl⟩:=qD hv;refine⟨rfl,λH v w=>?_⟩
      have D:eF F args.toList=some [a,b]:=by rw[C];exact hv
      simp only[cO,I,D,hk,Z,hd];exact w
     simp at h
    simp at h
   | cap=>
    simp only[resolve]at h;split at h
    .rename_i t x I C;split at h
     .rename_i e hk;simp only[ζa,ζc]at h;obtain⟨rfl,rfl⟩:=h;obtain⟨a,B,rfl⟩:=mM hv;have D:eF F args.toList=some [a]:=by rw[C];exact hv
      refine⟨rfl,λx w=>?_⟩
      simp only[bD,I,D,hk];simp only[bq]at w;cases a <;> simp only[MP]at w <;> first|(simp at w;done)|exact w
     simp at h
    simp at h
   | clear=>
    simp only[resolve]at h;split at h
    .rename_i t x I C;split at h
     .rename_i e hk;simp only[ζf,ζc]at h;obtain⟨d,hd,rfl,rfl⟩:=h;obtain⟨a,B,rfl⟩:=mM hv;have D:eF F args.toList=some [a]:=by rw[C];exact hv
      refine⟨rfl,λH v w=>?_⟩
      simp only[cO,I,D,hk,hd];exact w
     simp at h
    simp at h
   | len=>
    simp only[resolve]at h;split at h
    .rename_i t x I C;split at h
     .rename_i hk;simp only[ζa,ζc]at h;obtain⟨rfl,rfl⟩:=h;obtain⟨a,B,rfl⟩:=mM hv;have D:eF F args.toList=some [a]:=by rw[C];exact hv
      refine⟨rfl,λv w=>?_⟩
      cases a <;> simp only[bq]at w <;> first|simp at w;done|skip
      simp only[bD,D,I,hk];exact w
     .rename_i e hk;simp only[ζa,ζc]at h;obtain⟨rfl,rfl⟩:=h;obtain⟨a,B,rfl⟩:=mM hv;have D:eF F args.toList=some [a]:=by rw[C];exact hv
      refine⟨rfl,λv w=>?_⟩
      simp only[bD,D,I,hk];simp only[bq,o4]at w;cases a <;> simp at w ⊢ <;> exact w
     simp at h
    simp at h
   | max=>
    simp only[resolve]at h;split at h
    .rename_i x y C;simp only[ζa,ζc]at h;obtain⟨rfl,rfl⟩:=h;obtain⟨a,b,B,G,rfl⟩:=qD hv;have D:eF F args.toList=some [a,b]:=by rw[C];exact hv
     refine⟨rfl,λv w=>?_⟩
     cases a <;> cases b <;> simp only[bq]at w <;> first|simp at w;done|skip
     simp only[bD,D];exact w
    .rename_i x y z t C;simp only[ζa,ζc]at h;obtain⟨rfl,rfl⟩:=h;obtain⟨a,ak,B,J,rfl⟩:=gN hv;obtain⟨b,c,d,G,hc,hd,rfl⟩:=E8 J;have D:eF F args.toList=some [a,b,c,d]:=by rw[C];exact hv
     refine⟨rfl,λv w=>?_⟩
     cases a <;> cases b <;> simp only[bq]at w <;> first|simp at w;done|skip
     cases c <;> cases d <;> simp only[bq]at w <;> first|simp at w;done|skip
     simp only[bD,D];exact w
    simp at h
   | min=>
    simp only[resolve]at h;split at h
    .rename_i x y C;simp only[ζa,ζc]at h;obtain⟨rfl,rfl⟩:=h;obtain⟨a,b,B,G,rfl⟩:=qD hv;have D:eF F args.toList=some [a,b]:=by rw[C];exact hv
     refine⟨rfl,λv w=>?_⟩
     cases a <;> cases b <;> simp only[bq]at w <;> first|simp at w;done|skip
     simp only[bD,D];exact w
    simp at h
   | _=>simp[resolve]at h
  | _=>simp[resolve]at h
 | panic x=>
  simp only[resolve,ζa,ζc]at h;obtain⟨rfl,rfl⟩:=h;have:=oJ hv;subst this;exact⟨rfl,λx w=>by simp[bq]at w⟩
 | makeInterface t x=>
  simp only[resolve,ζa,ζc]at h;obtain⟨rfl,rfl⟩:=h;have:=oJ hv;subst this;exact⟨rfl,λx w=>by simp[bq]at w⟩
 | _=>simp[resolve]at h
end
structure xD (c c':dw):Prop where
 lv:c.lv<=c'.lv
 go:∀x a H r,c x a H=some r->c' x a H=some r
section
variable {E:Env} {c c':dw} {n:Nat} {ops:List Oper} {F F':Frame} {H H':bf}
theorem Fz {f:FuncId} {args:List V} {y:V} (hi:cm c f args H=some y):∃az,borrows c.lv H args=some az:=by
 unfold cm at hi;split at hi
 next az h=>exact⟨az,h⟩
 cases hi
theorem BC (z:c.lv<=c'.lv) {f:FuncId} (h:∀a H r,c (.fn f) a H=some r->c' (.fn f) a H=some r) {args:List V} {y:V} (hi:cm c f args H=some y):cm c' f args H=some y:=by
 unfold cm at hi ⊢;split at hi
 .rename_i az u;rw[qx z u];split at hi
  .rename_i hc;simp only;rw[h _ _ _ hc];split at hi
   next w=>simp only;rw[pT z w];exact hi
   cases hi
  simp at hi
 simp at hi
theorem qv (h:xD c c') {f:FuncId} {args:List V} {y:V} (hi:cm c f args H=some y):cm c' f args H=some y:=BC h.lv (λ_ _ _=>h.go _ _ _ _) hi
theorem kU (u:c.lv<=c'.lv) {f:FuncId} {args:List V} {y:V} (hi:cm c f args H=some y):cD (bR c'.lv H) args=cD (bR c.lv H) args:=by
 obtain⟨az,h⟩:=Fz hi;exact wo u h
theorem Bt (z:c.lv<=c'.lv) {f:FuncId} (h:∀a H r,c (.fn f) a H=some r->c' (.fn f) a H=some r) {args:List V} {r:V×bf} (hi:mc c f args H=some r):mc c' f args H=some r:=by
 unfold mc at hi ⊢;split at hi
 .rename_i az u;rw[qx z u];split at hi
  next hc=>simp only;rw[h _ _ _ hc];exact hi
  simp at hi
 simp at hi
theorem Ek (h:xD c c') {f:FuncId} {args:List V} {r:V×bf} (hi:mc c f args H=some r):mc c' f args H=some r:=Bt h.lv (λ_ _ _=>h.go _ _ _ _) hi
theorem yF (h:xD c c') {f:FuncId} {args:List V} {r:V×bf} (hi:ga E c f args H=some r):ga E c' f args H=some r:=by
 unfold ga at hi ⊢;split
 next u=>rw[if_pos u]at hi;exact Ek h hi
 rename_i u;rw[if_neg u]at hi;exact h.go _ _ _ _ hi
theorem xZ (T:c.lv<=c'.lv) {f:FuncId} {args:List V} {y G:V} {b:Nat} (h1:cm c f args (H.take b)=none) (B:cm c f args H=some y) (D:cm c' f args (H.take b)=some G):False:=by
 unfold cm at h1 B D;split at D
 .rename_i az has;split at B
  .rename_i I u;have e:=mF (λx y z k1 J=>GJ (H2:=H.take b) c.lv c'.lv x y z k1 J λid w=>by
    rw[List.getElem?_take]at w ⊢;split at w
    next C=>rw[if_pos C]
    cases w) u has
   have L:borrows c.lv H args=some az:=lE (zQ c.lv) e;rw[L]at u;cases u;rw[show borrows c.lv (H.take b) args=some az from e]at h1;simp only at h1;rw[h1]at B;simp at B
  simp at B
 simp at D
theorem Ke (h:xD c c') {place:Option (Nat×Nat)} {op:Op} {r:V×bf} (hi:c8 E c ops place F H op=some r):c8 E c' ops place F H op=some r:=by
 unfold c8 at hi ⊢;split at hi
 .exact hi
 .exact hi
 .exact hi
 .exact hi
 split at hi
 .rename_i f args B;split at hi
  .rename_i hk;rw[if_pos hk];split at hi
   .exact yF h hi
   skip
   split at hi
   next z=>rw[if_pos z];exact yF h hi
   simp at hi
  rename_i hk;rw[if_neg hk];split at hi
  .skip
   split at hi
   next y u=>rw[qv h u,kU h.lv u];exact hi
   simp at hi
  rename_i b i
  skip
  split at hi
  next y u=>rw[qv h u,kU h.lv u];exact hi
  rename_i w;split at hi
  .rename_i z;split at hi
   .rename_i y u
    cases C:cm c' f args (List.take b H)with
    | some D=>exact(xZ h.lv w u C).elim
    | none=>simp only[if_pos z,qv h u,kU h.lv u];exact hi
   simp at hi
  simp at hi
 .rename_i id args B;split at hi
  .exact h.go _ _ _ _ hi
  skip
  split at hi
  next z=>rw[if_pos z];exact h.go _ _ _ _ hi
  simp at hi
 simp at hi
theorem A2 (h:xD c c') {place:Option (Nat×Nat)} {o:Oper} {r:Frame×bf} (hi:fJ E c n ops place o F H=some r):fJ E c' n ops place o F H=some r:=by
 unfold fJ at hi ⊢;split at hi
 .rename_i u;rw[if_pos u];split at hi
  next v H1 hd=>rw[Ke h hd];exact hi
  simp at hi
 rename_i u;rw[if_neg u];exact hi
theorem zW (h:xD c c') {r:Frame×bf}:∀(l:List Oper) {F:Frame} {H:bf},kE E c n ops l F H=some r->kE E c' n ops l F H=some r
 | [],_,_,hi=>hi
 | o::l,F,H,hi=>by
  simp only[kE]at hi ⊢;split at hi
  next F1 H1 u=>rw[A2 h u];exact zW h l hi
  simp at hi
theorem zD (h:xD c c') {base:Nat} {r:Frame×bf}:∀(l:List Nat) {F:Frame} {H:bf},iT E c n ops base l F H=some r->iT E c' n ops base l F H=some r
 | [],_,_,hi=>hi
 | i::l,F,H,hi=>by
  simp only[iT]at hi ⊢;split at hi
  .split at hi
   next F1 H1 u=>rw[A2 h u];exact zD h l hi
   simp at hi
  simp at hi
theorem Cy (h:xD c c') {u:Bool} {r:Frame×bf} (hi:iA E c n ops u F H=some r):iA E c' n ops u F H=some r:=by
 unfold iA at hi ⊢;split
 .rename_i hd;rw[if_pos hd]at hi;split at hi
  next w=>rw[if_pos w];exact zD h _ hi
  simp at hi
 rename_i hd;rw[if_neg hd]at hi;exact zW h _ hi
theorem wZ {s D:Frame->bf->Option (Out×Frame×bf)} (h:∀F H r,s F H=some r->D F H=some r):∀(k u:Nat),k<=u->∀{F H r},jx s k F H=some r->jx D u F H=some r
 | 0,_,_,F,H,r,hi=>by simp[jx]at hi
 | k+1,0,hk,F,H,r,hi=>by omega
 | k+1,u+1,hk,F,H,r,hi=>by
  simp only[jx]at hi ⊢;split at hi
  next F1 H1 G=>rw[h _ _ _ G];exact wZ h k u Za hi
  rename_i z;rw[h _ _ _ hi];split
  next F1 H1 B=>cases B;exact absurd hi (z _ _)
  rfl
theorem yQ (h:xD c c') {lf z:Nat} (T:lf<=z) (ro:Bool) (nt:Nat):∀(code:Code) {F:Frame} {H:bf} {r:Out×Frame×bf},exec E c lf ro nt code F H=some r->exec E c' z ro nt code F H=some r:=by
 intro code
 induction code with
 | skip=>intro F H r hi;exact hi
 | label l=>intro F H r hi;exact hi
 | region id ops J=>
  intro F H r hi;simp only[exec,ζf]at hi ⊢;obtain⟨x,L,rfl⟩:=hi;exact⟨x,Cy h L,rfl⟩
 | seq a b u B=>
  intro F H r hi;simp only[exec]at hi ⊢;split at hi
  next F1 H1 h1=>rw[u h1];exact B hi
  rename_i C;rw[u hi];split
  next D=>cases D;exact absurd hi (C _ _)
  rfl
 | cond x a b u B=>
  intro F H r hi;simp only[exec]at hi ⊢;split at hi
  .rename_i t S;split at hi
   next G=>subst G;simp only[if_true];exact u hi
   rename_i G;rw[if_neg G];exact B hi
  simp at hi
 | block id a I=>
  intro F H r hi;simp only[exec]at hi ⊢;split at hi
  next O F1 H1 h1=>rw[I h1];exact hi
  rename_i C;rw[I hi];split
  next D=>cases D;exact absurd hi (C _ _ _)
  rfl
 | loop a I=>
  intro F H r hi;simp only[exec]at hi ⊢;exact wZ (λF H r hr=>I hr) lf z T hi
 | rangeFunc g U W X _ _=>
  intro F H r hi;simp only[exec]at hi ⊢;split at hi
  .split at hi
   next Q H1 hc=>rw[h.go _ _ _ _ hc];exact hi
   simp at hi
  simp at hi
 | exit id=>intro F H r hi;exact hi
 | ret=>intro F H r hi;exact hi
 | scope a _=>intro F H r hi;simp[exec]at hi
 | goto l=>intro F H r hi;simp[exec]at hi
 | refuse w=>intro F H r hi;simp[exec]at hi
theorem EX (E:Env):∀n,xD (run E n) (run E (n+1)):=by
 intro n
 induction n with
 | zero=>exact⟨Nat.le_succ _,λx a H r h=>(by cases h)⟩
 | succ n u=>
  refine⟨Nat.le_succ _,λx a H r h=>?_⟩
  rw[DR]at h ⊢
  cases x with
  | fn f=>
   rw[jH]at h ⊢;split at h
   .rename_i U O;split at h
    .rename_i B;rw[if_pos B];split at h
     .simp at h
     .rename_i o F1 H1 C Q;rw[yQ u (Nat.le_succ n) _ _ _ Q]
      cases o with
      | exit id=>exact(C id rfl).elim
      | norm=>exact h
      | ret=>exact h
     simp at h
    simp at h
   split at h
   next D=>rw[if_pos D];exact BE u.lv (λg args y _ S=>qv u S) h
   rename_i D;rw[if_neg D];exact h
  | yld id=>
   rw[jH]at h ⊢;split at h
   .rename_i rec L;split at h
    .rename_i T;split at h
     .rename_i w;split at h
      .rename_i W H2 G;split at h
       .rename_i r2 I;split at h
        .rename_i z;split at h
         next o X Y J=>simp only[if_pos w,yQ u (Nat.le_succ n) _ _ _ G,I,z,yQ u (Nat.le_succ n) _ _ _ J];exact h
         simp at h
        simp at h
       simp at h
      simp at h
     simp at h
    simp at h
   simp at h
theorem uh (E:Env) {n m:Nat} (h:n<=m):xD (run E n) (run E m):=by
 induction h with
 | refl=>exact⟨Nat.le_refl _,λ_ _ _ _ h=>h⟩
 | step _ u=>exact⟨Nat.le_trans u.lv (EX E _).lv,λx a H r h=>(EX E _).go x a H r (u.go x a H r h)⟩
theorem nN (E:Env):∀n,(run E n).lv=n
 | 0=>rfl
 | _+1=>rfl
end
def Io (P:Program) (f:FuncId):Option FI:=(P.funcs[f]?).bind λfn=>fn.body.map λb=>⟨fn.ntmps,fn.results.toList,b⟩
def y7 (P:Program):Bool:=P.funcs.toList.all λfn => !(fn.name == "runtime.NumGoroutine")
theorem OF {P:Program} (h:y7 P=true) {f:FuncId} {fi:FI} (z:Io P f=some fi):∃fn,P.funcs[f]? = some fn/\fn.body=some fi.body/\fn.ntmps=fi.ntmps/\fn.results.toList=fi.results/\(fn.name == "runtime.NumGoroutine")=false:=by
 unfold Io at z;obtain⟨fn,h1,w⟩:=ζg.1 z;obtain⟨b,B,rfl⟩:=ζf.1 w;refine⟨fn,h1,B,rfl,rfl,?_⟩;unfold y7 at h;rw[List.all_eq_true]at h;have C:=h fn (by
  obtain⟨u,rfl⟩:=Array.getElem?_eq_some_iff.1 h1;exact Array.mem_toList_iff.2 (Array.getElem_mem u))
 simpa using C
def BQ (P:Program) (shut keep own:List Nat) (two:List (Nat×Nat)) (u:FuncId->Bool) (known:FuncId->List V->Option V):Env where
 tt:=uw P
 ft f:=if shut.contains f then none else Io P f
 keep:=keep.contains
 own:=own.contains
 eqN t:=lk two t
 sort:=u
 known:=known
theorem Ft {P:Program} {shut keep own:List Nat} {two:List (Nat×Nat)} {z:FuncId->Bool} {known:FuncId->List V->Option V} (h:y7 P=true) (B:∀p∈two,uu P p.1 p.2):dV P (BQ P shut keep own two z known) where
 tt t d h:=h
 ft f w u:=by
  change (if shut.contains f then none else Io P f)=some w at u;split at u
  .cases u
  exact OF h u
 eqN t n C:=B (t,n) (Kb C)
section
variable {P:Program} {I:b9} {μ:Mu} {H:bf} {w:World} {n:Nat}
variable {f A S e:Nat} {fn:Func} {bytes i1 i2 i3 i4 t1 t2 t6 t7:Nat} {p1 p2 p3 p4 p5 p6 p7:String} {e1 e2 e3 e4 e5 e6 e7:Array Edge}
end
end Go.VE
namespace Go.VE
variable [bK]
variable {P:Program}
theorem Eg (a:List Int) (j:Nat):(ic a)[j]? = (a[j]?).map (Value.int .i64):=by simp[ic]
theorem CW {i:TypeId} {a b:List Int} {n:Nat} (G:a.length=n) (J:b.length=n) (hi:uw P i=some ⟨1,8,[.int .i64 0],.int .i64⟩) (u:P.underlying i=some (.int .i64)) (d:Nat) (w:World) :
 ∀(m k:Nat),k+m=n->(Op.eqItems (d+1) i 1 (ic a) (ic b) (List.range' k m)).run P w=.ok (a.drop k==b.drop k) w
 | 0,k,h=>by
  have h1:a.drop k=[]:=List.drop_eq_nil_of_le Za
  have I:b.drop k=[]:=List.drop_eq_nil_of_le Za
  simp[Op.eqItems,h1,I]
 | m+1,k,h=>by
  have z:k<a.length:=by omega
  have B:k<b.length:=by omega
  have pa:(part i (ic a) (k*1)).run P w=.ok (.int .i64 a[k]) w:=pJ hi (by rw[Eg,Nat.mul_one];simp[z])
  have L:(part i (ic b) (k*1)).run P w=.ok (.int .i64 b[k]) w:=pJ hi (by rw[Eg,Nat.mul_one];simp[B])
  have q:(Op.equalIn (d+1) i (.int .i64 a[k]) (.int .i64 b[k])).run P w=.ok (a[k]==b[k]) w:=zN d _ _ u;have O:=CW G J hi u d w m (k+1) Za
  have C:=List.drop_eq_getElem_cons z;have D:=List.drop_eq_getElem_cons B;simp only[List.range'_succ,Op.eqItems,Sem.run_bind,pa,L,q,Result.andThen_ok]
  by_cases e:a[k]=b[k]
  .rw[C,D,List.cons_beq_cons,e];simp only[beq_self_eq_true,Bool.not_true,Bool.true_and,if_false,Bool.false_eq_true];exact O
  have:(a[k]==b[k])=false:=by simpa using e
  rw[C,D,List.cons_beq_cons,this];simp only[Bool.not_false,if_true,Bool.false_and,Sem.run_pure]
theorem Eh {i:TypeId} {a:List Int} {n:Nat} (e:Bool) (D:a.length=n) (hi:uw P i=some ⟨1,8,[.int .i64 0],.int .i64⟩) (u:P.underlying i=some (.int .i64)) (d:Nat) (w:World) :
 ∀(m k:Nat),k+m=n->(forIn (List.range' k m) PUnit.unit (λj (_:PUnit)=>do
  let s <-sizeOf i
  let v <-part i (ic a) (j*s)
  Instr.checkKey e (d+1) i v
  pure (ForInStep.yield PUnit.unit)):Sem PUnit).run P w=.ok PUnit.unit w
 | 0,k,h=>by simp
 | m+1,k,h=>by
  have z:k<a.length:=by omega
  have pa:(part i (ic a) (k*1)).run P w=.ok (.int .i64 a[k]) w:=pJ hi (by rw[Eg,Nat.mul_one];simp[z])
  have C:(sizeOf i).run P w=.ok 1 w:=(nM.I7 hi).jm;have q:(Instr.checkKey e (d+1) i (.int .i64 a[k])).run P w=.ok () w:=xJ d e _ u;have B:=Eh e D hi u d w m (k+1) Za
  simp only[List.range'_succ,List.forIn_cons,Sem.run_bind,C,pa,q,Result.andThen_ok,Sem.run_pure]at B ⊢;exact B
theorem uu.arr {t i:TypeId} {n:Nat} (hu:P.underlying t=some (.array n i)) (hi:uw P i=some ⟨1,8,[.int .i64 0],.int .i64⟩) (J:P.underlying i=some (.int .i64)) (T:P.eqGuardType P.depth t=false):uu P t n:=by
 obtain⟨Q,z,B,O,_⟩:=(nM.I7 hi).info;have C:P.cellsOf i=1:=by unfold Program.cellsOf;simp[B,O]
 have D:∀(w:World) (a b:List Int),a.length=n->b.length=n->(Op.equal t (.agg (ic a)) (.agg (ic b))).run P w=.ok (a==b) w:=by
  intro w a b G I;show (Op.equalIn (9999+1) t _ _).run P w=_;rw[run_equalIn_array w 9999 _ _ hu B,C,List.range_eq_range'];simpa using CW G I hi J 9998 w n 0 Za
 have L:∀(op:BinOp) (p q:Operand) (w:World) (u v:Array Value),(eqGuard op t p q (.agg u) (.agg v)).run P w=.ok () w:=by
  intro op p q w u v;unfold eqGuard;cases op <;> simp[Sem.run_bind,run_program,Result.andThen,T]
 refine⟨?_,?_,D,?_,⟨_,hu,.inl ⟨_,_,rfl⟩⟩⟩
 .intro w p q a b G I;rw[Sem.run_bind,L,Result.andThen_ok];show (do pure (Value.bool (<-Op.equal t (.agg (ic a)) (.agg (ic b)))):Sem Value).run P w=_
  rw[Sem.run_bind,D _ _ _ G I];rfl
 .intro w p q a b G I;rw[Sem.run_bind,L,Result.andThen_ok];show (do pure (Value.bool (!(<-Op.equal t (.agg (ic a)) (.agg (ic b))))):Sem Value).run P w=_
  rw[Sem.run_bind,D _ _ _ G I];rfl
 intro w e a G;show (Instr.checkKey e (9999+1) t _).run P w=_;unfold Instr.checkKey;simp only[Sem.run_bind,dx hu,Result.andThen_ok];have:=Eh e G hi J 9998 w n 0 Za
 simp only[Std.Legacy.Range.forIn_eq_forIn_range',Std.Legacy.Range.size,Nat.sub_zero,Nat.add_one_sub_one,Nat.div_one];rw[show (9998+1:Nat)=9999 from rfl]at this;rw[this];rfl
end Go.VE
namespace Go.VE
variable [bK]
structure CR (E:Env) (c c':dw):Prop where
 lv:c.lv<=c'.lv
 Qk:∀f args H y,E.keep f=false->cm c f args H=some y->cm c' f args H=some y
 dir:∀f args H r,E.keep f=true->c (.fn f) args H=some r->c' (.fn f) args H=some r
 yld:∀id args H r,c (.yld id) args H=some r->c' (.yld id) args H=some r
 No:∀f args H r,H≠[]->c (.fn f) args H=some r->c' (.fn f) args H=some r
section
variable {E:Env} {c c':dw} {n:Nat} {ops:List Oper} {F F':Frame} {H H':bf}
theorem GC (h:CR E c c') {f:FuncId} {args:List V} {r:V×bf} (hk:E.keep f=true) (hi:mc c f args H=some r):mc c' f args H=some r:=Bt h.lv (λ_ _ _=>h.dir _ _ _ _ hk) hi
theorem zG (h:CR E c c') {f:FuncId} {args:List V} {r:V×bf} (hk:E.keep f=true) (hi:ga E c f args H=some r):ga E c' f args H=some r:=by
 unfold ga at hi ⊢;split
 next u=>rw[if_pos u]at hi;exact GC h hk hi
 rename_i u;rw[if_neg u]at hi;exact h.dir _ _ _ _ hk hi
theorem zK {place:Option (Nat×Nat)} {f:FuncId} (h:jF E ops place f=true):E.keep f=true:=by
 unfold jF at h;grind
theorem CR.any (h:CR E c c') {f:FuncId} {args:List V} {H:bf} {y:V} (hi:cm c f args H=some y):cm c' f args H=some y:=by
 cases hk:E.keep f with
 | false=>exact h.Qk _ _ _ _ hk hi
 | true=>exact BC h.lv (λ_ _ _=>h.dir _ _ _ _ hk) hi
theorem L8 (h:CR E c c') {place:Option (Nat×Nat)} {op:Op} {r:V×bf} (hi:c8 E c ops place F H op=some r):c8 E c' ops place F H op=some r:=by
 unfold c8 at hi ⊢;split at hi
 .omega
 .omega
 .omega
 .omega
 split at hi
 .rename_i f args B;split at hi
  .rename_i hk;rw[if_pos hk];split at hi
   .exact zG h (zK hk) hi
   split at hi
   next z=>rw[if_pos z];exact zG h (zK hk) hi
   grind
  rename_i hk;rw[if_neg hk];split at hi
  .split at hi
   next y u=>rw[h.any u,kU h.lv u];exact hi
   grind
  rename_i b i;split at hi
  next y u=>rw[h.any u,kU h.lv u];exact hi
  rename_i w;split at hi
  .rename_i z;split at hi
   .rename_i y u
    cases C:cm c' f args (List.take b H)with
    | some D=>exact(xZ h.lv w u C).elim
    | none=>simp only[if_pos z,h.any u,kU h.lv u];exact hi
   grind
  grind
 .split at hi
  .exact h.yld _ _ _ _ hi
  split at hi
  next z=>rw[if_pos z];exact h.yld _ _ _ _ hi
  grind
 grind
theorem C9 (h:CR E c c') {place:Option (Nat×Nat)} {o:Oper} {r:Frame×bf} (hi:fJ E c n ops place o F H=some r):fJ E c' n ops place o F H=some r:=by
 unfold fJ at hi ⊢;split at hi
 .rename_i u;rw[if_pos u];split at hi
  next v H1 hd=>rw[L8 h hd];omega
  grind
 grind
theorem Bc (h:CR E c c') {r:Frame×bf}:∀(l:List Oper) {F:Frame} {H:bf},kE E c n ops l F H=some r->kE E c' n ops l F H=some r
 | [],_,_,hi=>hi
 | o::l,F,H,hi=>by
  simp[kE]at hi ⊢;split at hi
  next F1 H1 u=>rw[C9 h u];exact Bc h l hi
  grind
theorem BJ (h:CR E c c') {base:Nat} {r:Frame×bf}:∀(l:List Nat) {F:Frame} {H:bf},iT E c n ops base l F H=some r->iT E c' n ops base l F H=some r
 | [],_,_,hi=>hi
 | i::l,F,H,hi=>by
  simp[iT]at hi ⊢;split at hi
  .split at hi
   next F1 H1 u=>rw[C9 h u];exact BJ h l hi
   grind
  grind
theorem DF (h:CR E c c') {u:Bool} {r:Frame×bf} (hi:iA E c n ops u F H=some r):iA E c' n ops u F H=some r:=by
 unfold iA at hi ⊢;split
 .rename_i hd;rw[if_pos hd]at hi;split at hi
  next w=>rw[if_pos w];exact BJ h _ hi
  grind
 rename_i hd;rw[if_neg hd]at hi;exact Bc h _ hi
theorem Ab (h:CR E c c') {lf u:Nat} (G:lf<=u) (ro:Bool) (nt:Nat):∀(code:Code) {F:Frame} {H:bf} {r:Out×Frame×bf},exec E c lf ro nt code F H=some r->exec E c' u ro nt code F H=some r:=by
 intro code
 induction code with
 | skip=>intro F H r hi;exact hi
 | label l=>intro F H r hi;exact hi
 | region id ops C=>
  intro F H r hi;simp only[exec,ζf]at hi ⊢;obtain⟨x,I,rfl⟩:=hi;exact⟨x,DF h I,rfl⟩
 | seq a b z B=>
  intro F H r hi;simp[exec]at hi ⊢
  grind
 | cond x a b z B=>
  intro F H r hi;simp[exec]at hi ⊢
  grind
 | block id a D=>
  intro F H r hi;simp[exec]at hi ⊢
  grind
 | loop a D=>
  intro F H r hi;exact wZ (λF H r hr=>D hr) lf u G hi
 | rangeFunc g L O Q _ _=>
  intro F H r hi;simp[exec]at hi ⊢;split at hi
  .split at hi
   next J H1 hc=>rw[h.No _ _ _ _ Zc hc];omega
   grind
  grind
 | exit id=>intro F H r hi;exact hi
 | ret=>intro F H r hi;exact hi
 | scope a _=>intro F H r hi;simp[exec]at hi
 | goto l=>intro F H r hi;simp[exec]at hi
 | refuse w=>intro F H r hi;simp[exec]at hi
theorem yS (h:CR E c c') {n m:Nat} (z:n<=m) {x:Callee} {a:List V} {r:V×bf} (hi:jH E c n x a H=some r):jH E c' m x a H=some r:=by
 cases x with
 | fn f=>
  rw[jH]at hi ⊢;split at hi
  .split at hi
   .rename_i G;split at hi
    .simp_all
    .rename_i o F1 H1 I J;rw[Ab h z _ _ _ J]
     grind
    grind
   grind
  split at hi
  next L=>rw[if_pos L];exact BE h.lv (λg args y hk O=>h.Qk _ _ _ _ hk O) hi
  grind
 | yld id=>
  rw[jH]at hi ⊢;split at hi
  .split at hi
   .split at hi
    .rename_i u;split at hi
     .rename_i Q H2 B;split at hi
      .rename_i r2 C;split at hi
       .rename_i w;split at hi
        next o S T D=>simp only[if_pos u,Ab h z _ _ _ B,C,w,Ab h z _ _ _ D];omega
        grind
       grind
      grind
     grind
    grind
   grind
  grind
mutual
def V.same:Nat->V->V->Bool
 | 0,_,_=>false
 | _+1,.bool a,.bool b=>a==b
 | _+1,.int k a,.int l b=>decide (k=l)&&decide (a=b)
 | _+1,.str a,.str b=>decide (a.data.toList=b.data.toList)
 | _+1,.bM,.bM=>true
 | _+1,.di,.di=>true
 | _+1,.gp,.gp=>true
 | _+1,.fL,.fL=>true
 | _+1,.pR,.pR=>true
 | n+1,.agg a,.agg b=>V.pq n a b
 | n+1,.tup a,.tup b=>V.pq n a b
 | n+1,.fptr a,.fptr b=>V.pq n a b
 | n+1,.fsl e a,.fsl u b=>Nat.beq e u&&V.xK n a b
 | n+1,.clo f a b,.clo z a' B=>Nat.beq f z&&V.pq n a a'&&V.pq n b B
 | _+1,_,_=>false
def V.pq:Nat->List V->List V->Bool
 | 0,_,_=>false
 | _+1,[],[]=>true
 | n+1,a::r,b::s=>V.same n a b&&V.pq n r s
 | _+1,_,_=>false
def V.xK:Nat->List (List V)->List (List V)->Bool
 | 0,_,_=>false
 | _+1,[],[]=>true
 | n+1,a::r,b::s=>V.pq n a b&&V.xK n r s
 | _+1,_,_=>false
end
theorem N9:∀n,(∀a b,V.same n a b=true->a=b)/\(∀a b,V.pq n a b=true->a=b)/\(∀a b,V.xK n a b=true->a=b):=by
 intro n
 induction n with
 | zero=>exact⟨λa b h=>by simp[V.same]at h,λa b h=>by simp[V.pq]at h,λa b h=>by simp[V.xK]at h⟩
 | succ n u=>
  obtain⟨i1,i2,i3⟩:=u;refine⟨λa b h=>?_,λa b h=>?_,λa b h=>?_⟩
  .cases a <;> cases b <;> simp only[V.same,ζh,decide_eq_true_eq,Bool.false_eq_true]at h <;> first|rfl|grind|skip
   all_goals first
    | grind
    | grind
    | grind
    | (rw[Nat.eq_of_beq_eq_true h.1,i3 _ _ h.2])
    | (rw[Nat.eq_of_beq_eq_true h.1.1,i2 _ _ h.1.2,i2 _ _ h.2])
    | (congr 1;exact ByteArray.ext (Array.ext' h))
  .cases a <;> cases b <;> simp[V.pq]at h <;> first|rfl|grind|grind
  cases a <;> cases b <;> simp[V.xK]at h <;> first|rfl|grind|grind
structure jN where
 f:FuncId
 az:List V
 y:V
def wR:List jN->FuncId->List V->Option V
 | [],_,_=>none
 | k::r,f,az=>bif Nat.beq k.f f&&V.pq 1000 k.az az then some k.y else wR r f az
theorem AG:∀{l:List jN} {f:FuncId} {az:List V} {y:V},wR l f az=some y->∃k∈l,k.f=f/\k.az=az/\k.y=y
 | [],_,_,_,h=>by simp[wR]at h
 | k::r,f,az,y,h=>by
  unfold wR at h
  cases u:Nat.beq k.f f&&V.pq 1000 k.az az with
  | true=>
   simp only[ζh]at u;exact⟨k,List.mem_cons_self ..,Nat.eq_of_beq_eq_true u.1,(N9 1000).2.1 _ _ u.2,by grind⟩
  | false=>
   rw[u]at h;obtain⟨q,h1,z⟩:=AG h
   grind
def DW (E:Env) (l:List jN) (c:dw) (n:Nat):Callee->List V->bf->Option (V×bf)
 | .fn f,az,[]=>match wR l f az with
  | some y=>some (y,[])
  | none=>jH E c n (.fn f) az []
 | x,az,H=>jH E c n x az H
def runM (E:Env) (l:List jN):Nat->dw
 | 0=>⟨0,λ_ _ _=>none⟩
 | n+1=>⟨n+1,DW E l (runM E l n) n⟩
theorem N8 (E:Env) (l:List jN):∀n,(runM E l n).lv=n
 | 0=>rfl
 | _+1=>rfl
theorem K0 {l:List jN} {n:Nat} {x:Callee} {a:List V} {H:bf}:runM E l (n+1) x a H=DW E l (runM E l n) n x a H:=rfl
def tK (E:Env) (n:Nat) (k:jN):Prop:=∃r H1,run E n (.fn k.f) k.az []=some (r,H1)/\borrow n H1 r=some k.y
structure rB (E:Env) (k:jN):Prop where
 keep:E.keep k.f=false
 cl:k.y.closed=true
 at_:∃n,tK E n k
theorem tK.le {n m:Nat} {k:jN} (h:tK E n k) (u:n<=m):tK E m k:=by
 obtain⟨r,H1,h1,w⟩:=h;exact⟨r,H1,(uh E u).go _ _ _ _ h1,pT u w⟩
theorem yM:∀{l:List jN},(∀k∈l,rB E k)->∃N,∀k∈l,tK E N k
 | [],_=>⟨0,by simp⟩
 | k::r,h=>by
  obtain⟨N,u⟩:=yM (λq hq=>h q (List.mem_cons_of_mem _ hq))
  obtain⟨n,w⟩:=(h k (List.mem_cons_self ..)).at_;refine⟨max N n,λq hq=>?_⟩
  rcases List.mem_cons.1 hq with rfl|hq
  .exact w.le (Nat.le_max_right ..)
  exact(u q hq).le (Nat.le_max_left ..)
theorem xT {l:List jN} {x:Callee} {az:List V} (h:H≠[]\/(∃id,x=.yld id)\/∃f,x=.fn f/\wR l f az=none):runM E l (n+1) x az H=jH E (runM E l n) n x az H:=by
 rcases h with h|⟨id,rfl⟩|⟨f,rfl,h⟩
 .cases x with
  | yld id=>rfl
  | fn f=>
   cases H with
   | nil=>exact absurd rfl h
   | cons a r=>rfl
 .rfl
 cases H with
 | nil=>rw[K0,DW,h]
 | cons a r=>rfl
theorem Hx {l:List jN} {N:Nat} (D:∀k∈l,rB E k) (G:∀k∈l,tK E N k):∀n,CR E (runM E l n) (run E (N+n)):=by
 intro n
 induction n with
 | zero=>
  refine⟨Nat.zero_le _,λf args H y _ h=>?_,λf args H r _ h=>(by cases h),λid args H r h=>(by cases h),λf args H r _ h=>(by cases h)⟩
  unfold cm at h;split at h
  .cases h
  cases h
 | succ n I=>
  have up:∀{x:Callee} {az:List V} {H:bf} {r:V×bf},jH E (runM E l n) n x az H=some r->run E (N+(n+1)) x az H=some r:=λh=>by
   rw[show N+(n+1)=(N+n)+1 from rfl,DR];exact yS I (Nat.le_add_left ..) h
  have w:(runM E l (n+1)).lv<=(run E (N+(n+1))).lv:=by rw[N8,nN];exact Nat.le_add_left ..
  refine⟨w,λf args H y hk h=>?_,λf args H r hk h=>?_,λid args H r h=>?_,λf args H r B h=>?_⟩
  .unfold cm at h ⊢;split at h
   .rename_i az has;rw[qx w has];split at h
    .rename_i r H1 hc
     cases z:wR l f az with
     | none=>
      rw[xT (.inr (.inr ⟨f,rfl,z⟩))]at hc;simp only;rw[up hc];split at h
      next Q J=>simp only;rw[pT w J];exact h
      cases h
     | some S=>
      rw[K0,DW,z]at hc;obtain⟨rfl,rfl⟩:=hc;obtain⟨k,u,rfl,rfl,rfl⟩:=AG z;have ok:=D k u;obtain⟨r1,H2,h1,L⟩:=(G k u).le (Nat.le_add_right N (n+1));rw[kT _ _ ok.cl]at h;simp only[h1,nN,L];exact h
    cases h
   cases h
  .by_cases z:H≠[]\/(∃id,(Callee.fn f)=.yld id)\/∃C,Callee.fn f=.fn C/\wR l C args=none
   .rw[xT z]at h;exact up h
   cases O:wR l f args with
   | none=>grind
   | some y=>
    obtain⟨k,u,rfl,_,_⟩:=AG O;rw[(D k u).keep]at hk;cases hk
  .exact up h
  rw[xT (.inl B)]at h;exact up h
def P5 (E:Env) (l:List jN) (n:Nat) (k:jN):Option V:=
 match jH E (runM E l n) n (.fn k.f) k.az []with
 | some (r,H1)=>borrow n H1 r
 | none=>none
theorem FT {l:List jN} (u:∀k∈l,rB E k) {k:jN} (h:(P5 E l n k,k.y.closed,E.keep k.f)=(some k.y,true,false)):rB E k:=by
 simp  at h;obtain⟨N,w⟩:=yM u;refine⟨h.2.2,h.2.1,N+n+1,?_⟩;have h1:=h.1;unfold P5 at h1;split at h1
 .rename_i r H1 z;refine⟨r,H1,?_,pT Za h1⟩
  exact yS (Hx u w n) (Nat.le_add_left ..) z
 grind
def Nv (E:Env) (l:List jN) (n:Nat) (f:FuncId) (az:List V):Bool:=
 match jH E (runM E l n) n (.fn f) az []with
 | some (.bool b,_)=>b
 | _=>false
theorem HK {l:List jN} (u:∀k∈l,rB E k) {f:FuncId} {az:List V} (h:Nv E l n f az=true):∃n H1,run E n (.fn f) az []=some (.bool true,H1):=by
 obtain⟨N,w⟩:=yM u;unfold Nv at h;split at h
 next b H1 z=>subst h;exact⟨N+n+1,H1,(yS (Hx u w n) (Nat.le_add_left ..) z)⟩
 simp_all
end
end Go.VE
