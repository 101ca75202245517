/-
 The engine: operations of the loaded code on values without a heap; a run of it is a run of the program.
-/
import Derived.RangeFuncRecord
import Derived.Shelf.SlSortCmp.NoneTotal
import Derived.RangeFuncLeaves
import Derived.Laws.StructEq
import Derived.ChangeKeysEq
import Derived.Test.YtimppgndlmehbaaGreatV1
set_option linter.all false
namespace Go.VE
variable [aW]
def Out.Ff:Out->Exit
 | .norm=>.normal
 | .exit id=>.exit id
 | .ret=>.ret
theorem exists_least (p:Nat->Prop):∀k,p k->∃m,p m/\∀j,p j->m<=j:=by
 intro k
 induction k using Nat.strongRecOn with
 | _ k ih=>
  intro hk
  by_cases h:∃j,j<k/\p j
  .obtain⟨j,hj,hp⟩:=h;exact ih j hj hp
  .exact⟨k,hk,λj hp=>Nat.le_of_not_lt λhlt=>h ⟨j,hlt,hp⟩⟩
open Classical in
noncomputable def least (p:Nat->Prop):Nat:=if h:∃m,p m/\∀j,p j->m<=j then h.choose else 0
theorem Jh (p:Nat->Prop) {k:Nat} (hk:p k):p (least p)/\least p<=k:=by
 have h:=exists_least p k hk;unfold least;rw[dif_pos h];exact⟨h.choose_spec.1,h.choose_spec.2 k hk⟩
section
variable {P:Program} {E:Env} {I I':bl} {μ μ':Mu} {H H':ak} {n B:Nat} {F F':Frame} {a:Act} {w w':World}
def Post (B n:Nat) (I:bl) (μ:Mu) (H:ak) (w:World) (o:Out) (F':Frame) (H':ak):Exit->Act->World->Prop:=
 λe a' w'=>e=o.Ff/\(∃I' μ',cZ I' μ' n F' a'.tmps/\bO I' μ' H' w'/\Step I μ H w I' μ' H' w')/\iE B a'.defers w'
theorem Post.mono {I1:bl} {μ1:Mu} {H1:ak} {w1:World} {o:Out} (s1:bO I1 μ1 H1 w1) (st:Step I μ H w I1 μ1 H1 w1) {e:Exit} {a':Act} {w':World} (h:Post B n I1 μ1 H1 w1 o F' H' e a' w') :
 Post B n I μ H w o F' H' e a' w':=by
 obtain⟨h1,⟨I',μ',h2,h3,h4⟩,h5⟩:=h;exact⟨h1,⟨I',μ',h2,h3,Step.trans s1 st h4⟩,h5⟩
theorem bO.zi (s:bO I μ H w) {b:Nat} (o:Obj) (hI:I b=none) (hn:¬fS μ H b):bO I μ H (dX w b o) where
 dom:=s.dom
 imm:=λb' x h=>IC.qE (s.imm b' x h) (dH o (by rintro rfl;rw[hI]at h;cases h))
 obs:=λid ob h=>(s.obs id ob h).mono (bl.le_refl _) (Mu.le_refl _) (λp hp hl=>by
  have ho:fS μ H p.b:=⟨id,p,ob,h,hl,hp,rfl⟩;exact⟨dH o (λe=>hn (e▸ho)),eG s ho⟩) (λhe=>by subst he;exact s.obs id _ h)
 inj:=s.inj
 gl:=s.gl
theorem PK (s:bO I μ H w) {b:Nat} {o:Obj} (h:w.heap[b]? = some o) (h1:∀c e f,o≠.cells c e f) (h2:∀es c,o≠.map es c):I b=none:=by
 cases hI:I b with
 | none=>rfl
 | some x=>
  have:=s.imm b x hI
  cases x with
  | cells c=>obtain⟨_,_,q⟩:=this;rw[h]at q;cases q;exact absurd rfl (h1 _ _ _)
  | map es=>obtain⟨_,q⟩:=this;rw[h]at q;cases q;exact absurd rfl (h2 _ _)
theorem Step.kept (hk:∀b,b<w.heap.size->w'.heap[b]? = w.heap[b]?) (hs:w.heap.size<=w'.heap.size) (h1:w'.os=w.os) (h2:tD w w') (h3:∀a:Addr,a.block<w.heap.size->w.frozen? a=false->w'.frozen? a=false):Step I μ H w I μ H w':=
 ⟨bl.le_refl _,Mu.le_refl _,Nat.le_refl _,hs,λb hb _=>hk b hb,λ_ h=>h.elim .inl λh=>.inr (.inl h),h1,h2,h3⟩
theorem Step.after (st:Step I μ H w I' μ' H' w') {b:Nat} (o:Obj) (hb:w.heap.size<=b) (hz:Obj.nf o:=by first|exact sn _ _|exact pS rfl):Step I μ H w I' μ' H' (dX w' b o):=
 ⟨st.le,st.mu,st.len,by rw[qu];exact st.size,λb' hb' hn=>by rw[dH o (by omega)];exact st.frame b' hb' hn,st.terr,st.os,⟨st.out.out,st.out.tape,st.out.dr⟩,λa hb ha=>Rl hz a (st.fz a hb ha)⟩
theorem iE.zi {ds:List Deferred} (h:iE B ds w) {b:Nat} {o:Obj} (hn:∀r,w.heap[r]? = some (.deferred (some []))->r≠b):iE B ds (dX w b o):=
 ⟨λd hd=>by
  obtain⟨r,h1,h2,h3⟩:=h.all d hd;exact⟨r,h1,h2,by rw[dH o (hn r h3)];exact h3⟩,h.apart⟩
theorem HC {step:Frame->ak->Option (Out×Frame×ak)} {c:Code} {ro:Option Nat} {o:Out}
 (hstep:∀I μ F H a w o F' H',step F H=some (o,F',H')->cZ I μ n F a.tmps->bO I μ H w->iE B a.defers w->B<=w.heap.size->c.wpIn (fr ro) 0 P (Post B n I μ H w o F' H') a w)
 {k:Nat} (h:js step k F H=some (o,F',H')) (r:cZ I μ n F a.tmps) (s:bO I μ H w) (m:iE B a.defers w) (hB:B<=w.heap.size) :
 (Code.loop c).wpIn (fr ro) 0 P (Post B n I μ H w o F' H') a w:=by
 let Inv:Nat->Act->World->Prop:=λk a' w'=>∃I1 μ1 F1 H1,js step k F1 H1=some (o,F',H')/\cZ I1 μ1 n F1 a'.tmps/\bO I1 μ1 H1 w'/\Step I μ H w I1 μ1 H1 w'/\iE B a'.defers w'/\B<=w'.heap.size
 let M:Act->World->Nat:=λa' w'=>least (λk=>Inv k a' w')
 have hM:∀k a' w',Inv k a' w'->Inv (M a' w') a' w'/\M a' w'<=k:=λk a' w' hi=>Jh (λk=>Inv k a' w') hi
 refine wpIn_loop (λa' w'=>∃k,Inv k a' w') M ⟨k,I,μ,F,H,h,r,s,.refl _ _ _ _,m,hB⟩ ?_
 rintro a1 w1 ⟨k1,hk1⟩;obtain⟨hi,_⟩:=hM k1 a1 w1 hk1;generalize hk:M a1 w1=kk at hi;obtain⟨I1,μ1,F1,H1,hl,r1,s1,st1,m1,hB1⟩:=hi
 cases kk with
 | zero=>simp[js]at hl
 | succ kk=>
  simp only[js]at hl;split at hl
  .rename_i F2 H2 hs2;refine wpIn_mono (hstep I1 μ1 F1 H1 a1 w1 .norm F2 H2 hs2 r1 s1 m1 hB1) ?_;rintro e a2 w2 ⟨rfl,⟨I2,μ2,r2,s2,st2⟩,m2⟩;show (∃k,Inv k a2 w2)/\M a2 w2<kk+1;have hinv:Inv kk a2 w2:=⟨I2,μ2,F2,H2,hl,r2,s2,Step.trans s1 st1 st2,m2,Nat.le_trans hB1 st2.size⟩;exact⟨⟨kk,hinv⟩,Nat.lt_succ_of_le (hM kk a2 w2 hinv).2⟩
  .rename_i hne;refine wpIn_mono (hstep I1 μ1 F1 H1 a1 w1 o F' H' hl r1 s1 m1 hB1) ?_;intro e a2 w2 hp;have hon:o≠.norm:=by
    rintro rfl;exact hne F' H' hl
   obtain⟨rfl,h2,h3⟩:=hp
   cases o with
   | norm=>exact absurd rfl hon
   | exit id=>exact Post.mono s1 st1 ⟨rfl,h2,h3⟩
   | ret=>exact Post.mono s1 st1 ⟨rfl,h2,h3⟩
end
end Go.VE
namespace Go.VE
variable [aW]
section
variable {P:Program} {E:Env} {I I':bl} {μ μ':Mu} {H H':ak} {n B:Nat} {F F':Frame} {a:Act} {w w':World}
theorem zh (s:bO I μ H w) {id:Nat} {r:tW} (h:H[id]? = some (.loop r)):∃p l,μ id=some p/\I p.b=none/\w.heap[p.b]? = some (.loop l)/\tV I μ r l:=s.obs id _ h
theorem Fk {p:Option Out} (hp:p≠some .norm):(p.bind jJ=none->p.getD .norm=.norm)/\(∀c,p.bind jJ=some c->(c=.ret/\p.getD .norm=.ret)\/∃id,c=.exit id/\p.getD .norm=.exit id):=by
 cases p with
 | none=>grind
 | some o=>
  cases o with
  | norm=>grind
  | ret=>exact⟨by simp[jJ],by simp[jJ]⟩
  | exit id=>exact⟨by simp[jJ],by simp[jJ]⟩
theorem Gx {call:cu} (hc:jH P call) {g:Operand} {ps:Array Tmp} {assign body:Code} {o:Out} {lf:Nat}
 (h:exec E call lf false n (.rangeFunc g ps assign body) F H=some (o,F',H')) (r:cZ I μ n F a.tmps) (s:bO I μ H w) (m:iE B a.defers w) (hB:B<=w.heap.size) :
 (Code.rangeFunc g ps assign body).wpIn (fr none) 0 P (Post B n I μ H w o F' H') a w:=by
 cases hg:ev F g with
 | none=>simp[exec,hg]at h
 | some gv=>
 cases gv with
 | clo f x y=>
  simp[exec,hg]at h;split at h
  .rename_i res H2 hcall;split at h
   .rename_i r2 hr2;have hnb:r2.st≠.busy/\r2.pend.getD .norm=o/\F=F'/\H2.set H.length .dead=H':=by
     grind
    obtain⟨hnb,rfl,rfl,rfl⟩:=hnb;obtain⟨u,v,eg,hu,hv⟩:=(cm r hg).jL;refine wpIn_rangeFunc λfnn _=>?_
    have hk1:∀b,b<w.heap.size->(w.alloc (.deferred (some []))).heap[b]? = w.heap[b]? := λb hb=>iu _ b hb
    have s1  := s.kept hk1;have st1:Step I μ H w I μ H (w.alloc (.deferred (some []))):=Step.kept hk1 (by simp) rfl ⟨rfl,rfl,Nat.le_refl _⟩ (λa _=>JD (pS rfl) a)
    have hlr:tV I μ ⟨.ready,none,F,n,ps.toList,assign,body⟩ { state:=.ready,pending:=none,fn:=fnn,tmps:=a.tmps,params:=ps,assign,body,defers:=w.heap.size }:=
     ⟨trivial,rfl,by simp,r,rfl,rfl,rfl⟩
    obtain⟨s2,st2⟩:=s1.push (ob:=.loop ⟨.ready,none,F,n,ps.toList,assign,body⟩)
     (o:=.loop { state:=.ready,pending:=none,fn:=fnn,tmps:=a.tmps,params:=ps,assign,body,defers:=w.heap.size }) (p:=⟨w.heap.size+1,0,0,0⟩) (by simp)
     ⟨_,_,Mu.eN _ _ _,by have:=s1.xo;simp_all,by have:=jA (w:=w.alloc (.deferred (some []))) (.loop { state:=.ready,pending:=none,fn:=fnn,tmps:=a.tmps,params:=ps,assign,body,defers:=w.heap.size });simp_all,
      hlr.mono (bl.le_refl _) (Mu.o8 (s1.dom _ (Nat.le_refl _)))⟩
    have hargs :=
     (hu.mono (bl.le_refl _) st2.mu).append (.cons (.yld H.length ⟨w.heap.size+1,0,0,0⟩ (Mu.eN _ _ _)) (hv.mono (bl.le_refl _) st2.mu))
    obtain⟨hf,hcalls⟩:=hc.fn f _ _ _ _ hcall;refine⟨w.heap.size+1,[{ target:=.collected w.heap.size,args:=#[] }],((w.alloc (.deferred (some []))).alloc (.loop { state:=.ready,pending:=none,fn:=fnn,tmps:=a.tmps,params:=ps,assign,body,defers:=w.heap.size })),{ target:=.fn (.func f) v,args:=u++#[.func (.yield (w.heap.size+1)) #[] #[]] },((w.alloc (.deferred (some []))).alloc (.loop { state:=.ready,pending:=none,fn:=fnn,tmps:=a.tmps,params:=ps,assign,body,defers:=w.heap.size })),f,u++#[.func (.yield (w.heap.size+1)) #[] #[]]++v,((w.alloc (.deferred (some []))).alloc (.loop { state:=.ready,pending:=none,fn:=fnn,tmps:=a.tmps,params:=ps,assign,body,defers:=w.heap.size })),
     run_enterLoop_outer fnn a.tmps ps assign body,?_,λ_ _=>trivial,?_,λh=>by simp[fr]at h,?_⟩
    .simp[resolve];rw[eg];simp[Deferred.ofValue,Act.eval]
    .exact vJ hf _
    .have hc2:=hcalls _ _ _ _ s2 hargs;have eargs:(u.toList++.func (.yield (w.heap.size+1)) #[] #[]::v.toList).toArray=u++#[.func (.yield (w.heap.size+1)) #[] #[]]++v:=by grind
     rw[eargs]at hc2;refine hc2.mono ?_;rintro e w3 ⟨res',I3,μ3,rfl,_,s3,st3⟩;obtain⟨p,l,g1,g2,g3,g4⟩:=zh s3 hr2;have hp:p=⟨w.heap.size+1,0,0,0⟩:=by
      have:=st3.mu _ _ (Mu.eN μ H.length ⟨w.heap.size+1,0,0,0⟩)
      grind
     subst hp;have hnbusy:l.state≠.busy:=by
      intro he;have:=g4.st;rw[he]at this;cases hst:r2.st <;> rw[hst]at this <;> simp[zF.is]at this
      grind
     refine⟨l.pending,_,run_endLoop g3 hnbusy,?_⟩;obtain⟨s4,st4⟩:=s3.kill hr2;have hnown:¬fS μ3 (H2.set H.length .dead) (w.heap.size+1):=by
      rintro⟨id,q,ob,h1,h2,h3,h4⟩
      by_cases e:id=H.length
      .subst e;rw[List.getElem?_set_self (ζe.1 hr2).1]at h1;cases h1;simp[Ob.live]at h2
      .rw[List.getElem?_set_ne (Ne.symm e)]at h1;exact e (s3.inj id H.length ob _ q _ h1 hr2 h2 rfl h3 g1 h4)
     have s5:bO I3 μ3 (H2.set H.length .dead) (dX w3 (w.heap.size+1) (.loop { l with state:=.exhausted })):=s4.zi _ g2 hnown;have st  := Step.trans s1 st1 (Step.trans s2 st2 (Step.trans s3 st3 st4));have st5:Step I μ H w I3 μ3 (H2.set H.length .dead) (dX w3 (w.heap.size+1) (.loop { l with state:=.exhausted })):=st.after _ (by omega)
     have m2:iE B ({ target:=.collected w.heap.size,args:=#[] }::a.defers) ((w.alloc (.deferred (some []))).alloc (.loop { state:=.ready,pending:=none,fn:=fnn,tmps:=a.tmps,params:=ps,assign,body,defers:=w.heap.size })):=by
      refine⟨?_,?_⟩
      .intro d hd;rcases List.mem_cons.1 hd with rfl|hd
       .refine⟨w.heap.size,rfl,hB,?_⟩;rw[iu _ _ (by simp)];exact jA _
       .obtain⟨q,h1,h2,h3⟩:=m.all d hd;have hq:=(Array.getElem?_eq_some_iff.1 h3).1;refine⟨q,h1,h2,?_⟩;rw[iu _ _ (by simp;omega),iu _ _ hq];exact h3
      .refine List.Pairwise.cons ?_ m.apart;intro d hd q hq hq';obtain⟨q2,h1,h2,h3⟩:=m.all d hd;have:=(Array.getElem?_eq_some_iff.1 h3).1;cases hq;rw[h1]at hq';cases hq';omega
     have m3:=m2.step s2 st3;have m5:iE B ({ target:=.collected w.heap.size,args:=#[] }::a.defers) (dX w3 (w.heap.size+1) (.loop { l with state:=.exhausted })):=
      m3.zi (λq hq e=>by subst e;rw[g3]at hq;cases hq)
     have hle  := st.le;have hmu  := st.mu;have hpost:∀oo:Out,r2.pend.getD .norm=oo->Post B n I μ H w oo F (H2.set H.length .dead) oo.Ff { a with defers:=[{ target:=.collected w.heap.size,args:=#[] }]++a.defers } (dX w3 (w.heap.size+1) (.loop { l with state:=.exhausted })):=
      λoo _=>⟨rfl,⟨I3,μ3,r.mono hle hmu,s5,st5⟩,m5⟩
     obtain⟨W5,hW5⟩:∃W5,w3.putObj (w.heap.size+1) (.loop { l with state:=.exhausted })=W5:=⟨_,rfl⟩;have hpost:∀oo:Out,r2.pend.getD .norm=oo->Post B n I μ H w oo F (H2.set H.length .dead) oo.Ff { a with defers:=[{ target:=.collected w.heap.size,args:=#[] }]++a.defers } W5:=by
      intro oo ho;rw[<-hW5];exact hpost oo ho
     rw[hW5];obtain⟨k1,k2⟩:=Fk g4.pendOk;rw[g4.pend]
     cases hj:r2.pend.bind jJ with
     | none=>rw[k1 hj];exact hpost .norm (k1 hj)
     | some c=>
      rcases k2 c hj with⟨rfl,e⟩|⟨id,rfl,e⟩
      .rw[e];exact wpIn_ret (hpost .ret e)
      .rw[e];exact wpIn_exit (hpost (.exit id) e)
   grind
  grind
 | _=>simp[exec,hg]at h
theorem wZ (hE:dh P E) (hm:P.follows .mixedOrders=true) {call:cu} (hc:jH P call) (lf:Nat) (ro:Option Nat) (rb:Bool) (hro:rb=ro.isSome) (n:Nat) :
 ∀(c:Code) (I:bl) (μ:Mu) (F:Frame) (H:ak) (a:Act) (w:World) (o:Out) (F':Frame) (H':ak),exec E call lf rb n c F H=some (o,F',H')->cZ I μ n F a.tmps->bO I μ H w ->
  iE B a.defers w->B<=w.heap.size->c.wpIn (fr ro) 0 P (Post B n I μ H w o F' H') a w:=by
 intro c
 induction c with
 | skip=>
  intro I μ F H a w o F' H' h r s m _;obtain⟨rfl,rfl,rfl⟩:=h;exact wpIn_skip ⟨rfl,⟨I,μ,r,s,.refl _ _ _ _⟩,m⟩
 | label l=>
  intro I μ F H a w o F' H' h r s m _;obtain⟨rfl,rfl,rfl⟩:=h;exact wpIn_label ⟨rfl,⟨I,μ,r,s,.refl _ _ _ _⟩,m⟩
 | region id ops draw=>
  intro I μ F H a w o F' H' h r s m _;simp only[exec,ζf]at h;obtain⟨⟨F2,H2⟩,h,rfl,rfl,rfl⟩:=h;refine E8 hE hm hc ro h r s (λa' I' μ' w' h1 h2 h3 h4=>⟨rfl,⟨I',μ',h1,h3,h4⟩,?_⟩)
  rw[h2];exact m.step s h4
 | seq x y ihx ihy=>
  intro I μ F H a w o F' H' h r s m hB;simp[exec]at h;refine wpIn_seq ?_;split at h
  .rename_i F1 H1 h1;refine wpIn_mono (ihx I μ F H a w _ F1 H1 h1 r s m hB) ?_;rintro e a1 w1 ⟨rfl,⟨I1,μ1,r1,s1,st1⟩,m1⟩;refine wpIn_mono (ihy I1 μ1 F1 H1 a1 w1 o F' H' h r1 s1 m1 (Nat.le_trans hB st1.size)) ?_;intro e a2 w2 hp;exact Post.mono s1 st1 hp
  .refine wpIn_mono (ihx I μ F H a w o F' H' h r s m hB) ?_;rintro e a1 w1 ⟨rfl,h2,h3⟩
   cases o with
   | norm=>grind
   | exit id=>exact⟨rfl,h2,h3⟩
   | ret=>exact⟨rfl,h2,h3⟩
 | cond c x y ihx ihy=>
  intro I μ F H a w o F' H' h r s m hB;simp[exec]at h;split at h
  .rename_i t hct;have hcv:=(cm r hct).pX;refine wpIn_cond hcv ?_
   grind
  grind
 | block id c ih=>
  intro I μ F H a w o F' H' h r s m hB;simp[exec]at h;refine wpIn_block ?_;split at h
  .rename_i id' F1 H1 h1;refine wpIn_mono (ih I μ F H a w _ F1 H1 h1 r s m hB) ?_;rintro e a1 w1 ⟨rfl,h2,h3⟩;show Exit.inBlock id _ (.exit id') a1 w1;unfold Exit.inBlock;split at h
   .rename_i he;obtain⟨rfl,rfl,rfl⟩:=h;simp[he];exact⟨rfl,h2,h3⟩
   .rename_i he;obtain⟨rfl,rfl,rfl⟩:=h;simp[he];exact⟨rfl,h2,h3⟩
  .refine wpIn_mono (ih I μ F H a w o F' H' h r s m hB) ?_;rintro e a1 w1 ⟨rfl,h2,h3⟩
   cases o with
   | norm=>exact⟨rfl,h2,h3⟩
   | exit id'=>grind
   | ret=>exact⟨rfl,h2,h3⟩
 | loop c ih=>
  intro I μ F H a w o F' H' h r s m hB;exact HC (λI μ F H a w o F' H' h r s m hB=>ih I μ F H a w o F' H' h r s m hB) h r s m hB
 | rangeFunc g ps assign body _ _=>
  intro I μ F H a w o F' H' h r s m hB
  cases rb with
  | true=>simp[exec]at h
  | false=>
   cases ro with
   | none=>exact Gx hc h r s m hB
   | some l=>simp_all
 | exit id=>
  intro I μ F H a w o F' H' h r s m _;obtain⟨rfl,rfl,rfl⟩:=h;exact wpIn_exit ⟨rfl,⟨I,μ,r,s,.refl _ _ _ _⟩,m⟩
 | ret=>
  intro I μ F H a w o F' H' h r s m _;obtain⟨rfl,rfl,rfl⟩:=h;exact wpIn_ret ⟨rfl,⟨I,μ,r,s,.refl _ _ _ _⟩,m⟩
 | scope body _=>intro I μ F H a w o F' H' h;simp[exec]at h
 | goto l=>intro I μ F H a w o F' H' h;simp[exec]at h
 | refuse why=>intro I μ F H a w o F' H' h;simp[exec]at h
end
end Go.VE
namespace Go.VE
variable [aW]
open Go.Proofs Go.Sort
structure zB (P:Program) (f:FuncId):Prop where
 ok:wK P f
 zero:∀(p:Option Addr) (cap:Nat) (fv:Value) (w:World),Calls P f #[.slice p 0 cap,fv] w λe w'=>e=.returned (.tuple #[])/\w'=w
 all:∀{α:Type} [Inhabited α] (enc:α->Value) (_:OneCell enc) (cf:α->α->Int) (_:SWO (ltOf cf)) (g:Nat) (cb:Array Value) (blk off cap:Nat) (d:Array α) (w:World)
  (_:∀args w,(callFunc g args).run P w=.ok (.enter g args) w) (_:CmpLays1 P g cb enc cf blk off d.size w) (_:Holds enc w blk off d) (_:blk<w.heap.size) (_:d.size<4611686018427387904),
  Calls P f #[.slice (some ⟨blk,off,none⟩) d.size cap,.func (.func g) #[] cb] w λe w'=>
   e=.returned (.tuple #[])/\∃n os,w'=sortWorld enc w blk off n (pdq (ltOf cf) d 0 d.size (Lib.bitLen d.size) true true) os
theorem G9 {α:Type} [Inhabited α] (lt:α->α->Bool):∀(k i:Nat) (d:Array α),Fu lt k i d=insOuter lt 0 (i+k) i d
 | 0,i,d=>by rw[insOuter];simp[Fu]
 | k+1,i,d=>by
  rw[insOuter,Fu,G9 lt k]
  grind
theorem MI (n:Nat) (lt:Fin (n+1)->Fin (n+1)->Bool):It n lt=pdq lt (List.finRange (n+1)).toArray 0 (n+1) (Lib.bitLen (n+1)) true true:=by
 unfold It;split
 .rw[pdq,if_pos (by omega),insertionSort,G9,Nat.add_comm 1 n]
 .rfl
theorem Bl {n:Nat} {t:Fin (n+1)->Fin (n+1)->Option Int} (h:NR t=true):(∀i j,∃c,t i j=some c)/\SWO (wj t):=by
 have hall:∀(p:Fin (n+1)->Bool),(List.finRange (n+1)).all p=true->∀i,p i=true:=λp h i=>List.all_eq_true.1 h i (List.mem_finRange i)
 have h1:=λi=>hall _ h i
 simp only[ζh,Bool.not_eq_true']at h1;have h2:=λi j=>hall _ (h1 i).2 j
 simp only[ζh]at h2;have h3:=λi j k=>hall _ (h2 i j).2 k
 refine⟨λi j=>Option.isSome_iff_exists.1 (h2 i j).1,λi=>(h1 i).1,λi j k a b=>?_,λi j k a b=>?_⟩
 .have:=h3 i j k;grind
 grind
section
variable {P:Program} {I I':bl} {μ μ':Mu} {H H':ak} {w w':World}
theorem Dv (w:World) (os:Array Obj) (b:Nat) (h:b<w.heap.size):(grow w os).heap[b]? = w.heap[b]? := by
 unfold grow;grind
theorem Calls.fr {f:FuncId} {args:Array Value} {R:Ending->World->Prop} (h:Calls P f args w R):CallsIn (fr none) 0 P f args w R:=callsIn_wide.2 h
theorem CallsIn.un {f:FuncId} {args:Array Value} {R:Ending->World->Prop} (h:CallsIn (fr none) 0 P f args w R):Calls P f args w R:=callsIn_wide.1 h
theorem LC {p:Pl} {c:Array Value} {xs:List (List V)} (hes:p.es=1) (hsz:c.size=p.sz) (hr:p.o+xs.length<=c.size)
 (h:∀(i:Nat) x,xs[i]? = some x->∃v u,x=[v]/\V.one v=true/\c[p.o+i]? = some u/\aJ I μ v u):eP I μ p c 1 xs:=by
 have hu:∀x∈xs,x.length=1:=λx hx=>by
  obtain⟨i,hi⟩:=List.getElem?_of_mem hx
  grind
 have hl:xs.flatten.length=xs.length:=by rw[eo hu,Nat.mul_one]
 refine⟨hes,hsz,hu,λx hx y hy=>?_,by omega,⟨?_,λj a b h1 h2=>?_⟩⟩
 .obtain⟨i,hi⟩:=List.getElem?_of_mem hx
  grind
 .grind
 .have hj:j<xs.length:=by have:=(ζe.1 h1).1;omega
  obtain⟨v,u,e,_,h3,h4⟩:=h j xs[j] (by simp[hj])
  have:=uL  hu (i:=j) (j:=0) (x:=xs[j])  (by simp[hj]) (by rw[e];rfl)
  simp_all
theorem uK {p:Pl} {c:Array Value} {xs:List (List V)} (r:eP I μ p c 1 xs) (i:Nat) {x:List V} (h:xs[i]? = some x):∃v u,x=[v]/\V.one v=true/\c[p.o+i]? = some u/\aJ I μ v u:=by
 have hm:=List.mem_of_getElem? h;obtain⟨v,rfl⟩:=List.length_eq_one_iff.1 (r.nG x hm);have hi:=(ζe.1 h).1;have hlt  := by have:=r.room;omega
 refine⟨v,c[p.o+i],rfl,r.one _ hm v (by simp),by simp_all,?_⟩
 exact r.idx  (j:=0) h rfl (by simp_all)
theorem Pw {α:Type} [Inhabited α] (enc:α->Value) (blk o m:Nat) (dk:Array α) (os:Array Obj) {b:Nat} (hb:b<w.heap.size) (hn:b≠blk):(sortWorld enc w blk o m dk os).heap[b]? = w.heap[b]? := by
 unfold sortWorld;rw[Dv _ _ _ (by simp_all)]
 simp[putRow,mapBlock,Sort.ahead,Array.getElem?_modify,if_neg (Ne.symm hn)]
theorem Gv {α:Type} [Inhabited α] (enc:α->Value) {blk:Nat} (o m:Nat) (dk:Array α) {c:Array Value} {el:TypeId} (h:w.heap[blk]? = some (.cells c el)) :
 putRow enc (Sort.ahead w m) blk o dk=dX (Sort.ahead w m) blk (.cells (Sort.putCells enc o dk c) el):=by
 unfold putRow mapBlock dX Sort.ahead
 congr 1
 obtain⟨hb,e⟩:=Array.getElem?_eq_some_iff.1 h;apply Array.ext
 .simp
 .intro i h1 h2
  by_cases hi:i=blk
  .subst hi;simp[Array.getElem_modify,e,onCells]
  grind
theorem Step.grown (st:Step I (λ_=>none) [] w I' μ' H' w'):∃q os,w'=grow (w.drewN q) os:=by
 refine⟨w'.drawn-w.drawn,w'.heap.extract w.heap.size w'.heap.size,?_⟩;have hh:w'.heap=w.heap++w'.heap.extract w.heap.size w'.heap.size:=by
  apply Array.ext_getElem?;intro i
  by_cases hi:i<w.heap.size
  .rw[Array.getElem?_append_left hi];exact st.frame i hi (by rintro⟨id,p,ob,h,_⟩;simp at h)
  .rw[Array.getElem?_append_right (by omega)]
   simp[Array.getElem?_extract]
   by_cases hj:i<w'.heap.size
   .rw[if_pos (by omega)];congr 1;omega
   .rw[if_neg (by omega),Array.getElem?_eq_none (by omega)]
 have h1:=st.os;have h2:=st.out.out;have h3:=st.out.tape;have h4:=st.out.dr;unfold grow World.drewN;cases w';simp only at *;subst h1 h2 h3;simp[World.mk.injEq];exact⟨hh,by omega⟩
theorem HT {call call':cu} {g:FuncId} {us cbs:List V} {n:Nat} (h:∀args y,bG call g args []=some y->bG call' g args []=some y) {i j:Fin (n+1)} {z:Int} (hz:i_ call g us cbs n i j=some z):i_ call' g us cbs n i j=some z:=by
 unfold i_ at hz ⊢
 grind
theorem AN {keep:FuncId->Bool} {call call':cu} (h:∀g args y,keep g=false->bG call g args []=some y->bG call' g args []=some y) {args:List V} {r:V×ak} (hr:rz keep call args H=some r):rz keep call' args H=some r:=by
 unfold rz at hr ⊢;split at hr
 .split at hr
  .omega
  .omega
  .split at hr
   .omega
   .split at hr
    .rename_i n g cb _ es' xs hrow;split at hr
     .rename_i hcond;split at hr
      .rename_i us cbs hus hcbs;split at hr
       .rename_i ht;have e:i_ call' g us cbs n=i_ call g us cbs n:=by
         funext i j
         obtain⟨z,hz⟩:=(Bl ht).1 i j;rw[hz];exact HT (λa y=>h g a y hcond.2.2.2.2) hz
        grind
       simp_all
      simp_all
     simp_all
    simp_all
   simp_all
  simp_all
 simp_all
set_option maxHeartbeats 1000000 in
theorem O1 {call:cu} (hc:jH P call) {f:FuncId} (hs:zB P f) {args:List V} {r:V} {keep:FuncId->Bool} (h:rz keep call args H=some (r,H')) (s:bO I μ H w) {vs:List Value} (hv:bF I μ args vs) :
 CallsIn (fr none) 0 P f vs.toArray w (uB I μ H w r H'):=by
 unfold rz at h;split at h
 .rename_i sv cv;obtain⟨v1,r1,rfl,hv1,hr1⟩:=hv.cons_inv;obtain⟨v2,r2,rfl,hv2,hr2⟩:=hr1.cons_inv;obtain rfl:=hr2.tZ;have triv:∀p cap,v1=.slice p 0 cap->CallsIn (fr none) 0 P f [v1,v2].toArray w (uB I μ H w .undef H):=by
   rintro p cap rfl;refine Calls.fr ((hs.zero p cap v2 w).mono ?_);rintro e w' ⟨rfl,rfl⟩;exact⟨_,I,μ,rfl,aJ.undef _ _,s,Step.refl _ _ _ _⟩
  split at h
  .cases h;exact triv none 0 hv1.kq
  .cases h;obtain⟨a,e⟩:=hv1.qC;exact triv a 0 e
  .rename_i id es off len;split at h
   .cases h;rcases hv1.kr with⟨p,cap,_,_,_,_,e⟩|⟨_,a,e⟩
    .exact triv _ cap e
    .exact triv _ 0 e
   .rename_i n g cb;split at h
    .rename_i es' xs hrow;split at h
     .rename_i hcond;obtain⟨rfl,rfl,hlen,hn,_⟩:=hcond;split at h
      .rename_i us cbs hus hcbs;split at h
       .rename_i htab;cases h;obtain⟨p,c,el,hp,hI,hcell,hrr⟩:=s.obs id _ hrow;rcases hv1.kr with⟨q,cap,hq,hqe,hcap,hroom,rfl⟩|⟨h0,_⟩
        .rw[hp]at hq;cases hq;obtain⟨va,vb,rfl,hva,hvb⟩:=hv2.jL;have hva':va=#[]:=by have:=hva.tZ;simpa using this
         subst hva';have hidlt:=(ζe.1 hrow).1;obtain⟨sk,_⟩:=s.kill hrow;generalize hT:cq (bz 8 (H.set id .dead)) (((xs.drop off).take (n+1)).flatten++cb)=T;have hI2:plus I μ (H.set id .dead) w T p.b=none:=by
          cases hx:plus I μ (H.set id .dead) w T p.b with
          | none=>rfl
          | some x=>
           exfalso;rcases xq (by rw[hx];rfl)with h|⟨id',p',ob,_,g1,g2,g3,g4⟩
           .rw[hI]at h;cases h
           .have hne:id'≠id:=by
             rintro rfl;rw[List.getElem?_set_self hidlt]at g1;cases g1;simp[Ob.live]at g2
            rw[List.getElem?_set_ne (Ne.symm hne)]at g1;exact hne (s.inj id' id ob (.row 1 xs) p' p g1 hrow g2 rfl g3 hp g4)
         let enc:Fin (n+1)->Value:=λi=>(c[p.o+off*1+i.1]?).getD undef
         have hel:∀i:Fin (n+1),∃v,xs[off+i.1]? = some [v]/\V.one v=true/\aJ I μ v (enc i)/\c[p.o+off*1+i.1]? = some (enc i):=λi=>by
          obtain⟨v,u,e1,e2,e3,e4⟩:=uK hrr (off+i.1) (x:=xs[off+i.1]'(by omega)) (by simp)
          have e5:c[p.o+off*1+i.1]? = some u:=by rw[<-e3];congr 1;omega
          have e6:enc i=u:=by show (c[p.o+off*1+i.1]?).getD undef=u;rw[e5];rfl
          exact⟨v,by rw[<-e1];simp,e2,by rw[e6];exact e4,by rw[e5,e6]⟩
         have h1:OneCell enc:=λi=>by obtain⟨v,_,e2,e3,_⟩:=hel i;exact e3.one e2
         obtain⟨htot,hswo⟩:=Bl htab;obtain⟨hul,hub⟩:=gK hus;obtain⟨hcl,hcb⟩:=gK hcbs;have huni:∀x∈(xs.drop off).take (n+1),x.length=1:=λx hx=>hrr.nG x (List.mem_of_mem_drop (List.mem_of_mem_take hx))
         have hus':∀(i:Fin (n+1)) u,us[i.1]? = some u->dc (plus I μ (H.set id .dead) w T) u (enc i):=λi u hu=>by
          obtain⟨x,hx,hxb⟩:=hub i.1 u hu;obtain⟨v,e1,_,e3,_⟩:=hel i;have e4:((xs.drop off).take (n+1))[i.1]? = some [v]:=by
           rw[List.getElem?_take,if_pos i.2,List.getElem?_drop];exact e1
          have e5:=uL (es:=1) huni (i:=i.1) (j:=0) e4 rfl;have e5:((xs.drop off).take (n+1)).flatten[i.1]? = some v:=by simpa using e5
          rw[e5]at hx;cases hx;refine(s7 sk T 8 _ u _ hxb (λk hk=>?_) e3).1
          rw[<-hT];exact jd (List.mem_append_left _ (List.mem_of_getElem? e5)) hk
         have hcbs':bF (plus I μ (H.set id .dead) w T) (λ_=>none) cbs vb.toList:=by
          refine⟨hcl.trans hvb.1,λj a b k1 k2=>?_⟩
          obtain⟨x,hx,hxb⟩:=hcb j a k1;refine .c _ _ (s7 sk T 8 x a b hxb (λk hk=>?_) (hvb.2 j x b hx k2)).1
          rw[<-hT];exact jd (List.mem_append_right _ (List.mem_of_getElem? hx)) hk
         have hblk:=(Array.getElem?_eq_some_iff.1 hcell).1
         let d:Array (Fin (n+1)):=(List.finRange (n+1)).toArray
         have hds:d.size=n+1:=by simp[d]
         have hd:∀j:Fin (n+1),d[j.1]! = j:=λj=>by simp[d,getElem!_pos]
         have hg:∀i j:Fin (n+1),∃z,i_ call g us cbs n i j=some z/\∃a b,us[i.1]? = some a/\us[j.1]? = some b/\bG call g (a::b::cbs) []=some (.int .i64 z):=λi j=>by
          obtain⟨z,hz⟩:=htot i j;have hz':=hz;unfold i_ at hz';split at hz'
          .rename_i a b ha hb;split at hz'
           .rename_i z' hcall;cases hz';exact⟨z,hz,a,b,ha,hb,hcall⟩
           .cases hz'
          .cases hz'
         have hfg:wK P g:=by
          obtain⟨z,_,a,b,ha,hb,hcall⟩:=hg 0 0;have s0:bO (plus I μ (H.set id .dead) w T) (λ_=>none) [] w:=⟨λ_ _=>rfl,rS sk T,by simp,by simp,sk.gl.mono (ni _ _ _ _ _)⟩
          exact(Bo hc hcall s0 (.cons (.c _ _ (hus' 0 a ha)) (.cons (.c _ _ (hus' 0 b hb)) hcbs'))).1
         have key:=hs.all enc h1 (λi j=>(i_ call g us cbs n i j).getD 0) hswo g vb p.b (p.o+off*1) cap d w (λargs w=>vJ hfg args) (by
          intro m os dk hdk i j;obtain⟨z,hz,a,b,ha,hb,hcall⟩:=hg i j;have s0:bO (plus I μ (H.set id .dead) w T) (λ_=>none) [] (sortWorld enc w p.b (p.o+off*1) m dk os):=
           ⟨λ_ _=>rfl,λb x hb=>IC.qE (rS sk T b x hb) (Pw enc p.b _ m dk os (IC.sF (rS sk T b x hb)) (by rintro rfl;rw[hI2]at hb;cases hb)),by simp,by simp,sk.gl.mono (ni _ _ _ _ _)⟩
          have:=CallsIn.un (Bo hc hcall s0 (vs:=enc i::enc j::vb.toList) (.cons (.c _ _ (hus' i a ha)) (.cons (.c _ _ (hus' j b hb)) hcbs'))).2;rw[show (enc i::enc j::vb.toList).toArray=#[enc i,enc j]++vb by apply Array.ext';simp]at this
          refine this.mono ?_;rintro e w' ⟨u,I1,μ1,rfl,hu,s1,st⟩;exact⟨by rw[hu.ey];show _=Ending.returned (.int .i64 ((i_ call g us cbs n i j).getD 0));rw[hz];rfl,st.grown⟩) (by
          intro j hj;have hj':j<n+1:=by omega
          obtain⟨v,_,_,_,e4⟩:=hel ⟨j,hj'⟩;rw[hd ⟨j,hj'⟩];exact⟨by rw[oL hcell];exact e4,by simp[World.frozen?,hcell]⟩) hblk (by omega)
         rw[hds]at key;refine Calls.fr (key.mono ?_);rintro e w' ⟨rfl,m,os,rfl⟩;have hlt:ltOf (λi j=>(i_ call g us cbs n i j).getD 0)=wj (i_ call g us cbs n):=rfl
         rw[hlt,MI];have hsrt:=pdq_sorts (wj (i_ call g us cbs n)) hswo d 0 d.size (Lib.bitLen d.size) true true (Nat.zero_le _) (Nat.le_refl _) (Or.inl rfl);rw[hds]at hsrt;have hsz:=hsrt.1.1;change uB I μ H w .undef (H.set id (.row 1 (w8 xs off n (pdq (wj (i_ call g us cbs n)) d 0 (n+1) (Lib.bitLen (n+1)) true true).toList))) _ _;generalize pdq (wj (i_ call g us cbs n)) d 0 (n+1) (Lib.bitLen (n+1)) true true=dk at hsz;rw[hds]at hsz;unfold sortWorld;rw[Gv enc _ m dk hcell];have s1:bO I μ H (Sort.ahead w m):=s.nu rfl;have st1:Step I μ H w I μ H (Sort.ahead w m):=Step.nu rfl rfl ⟨rfl,rfl,Nat.le_add_right _ _⟩;have hcsz:(Sort.putCells enc (p.o+off*1) dk c).size=c.size:=by simp[Sort.putCells]
         have hput:∀i:Nat,(i<p.o+off*1\/p.o+off*1+(n+1)<=i)->(Sort.putCells enc (p.o+off*1) dk c)[i]? = c[i]? := λi hi=>by
          simp only[Sort.putCells,Array.getElem?_mapIdx];rw[hsz]
          cases c[i]? with
          | none=>rfl
          | some y=>simp only[Option.map_some];rw[if_neg (by omega)]
         have hput2:∀i:Fin (n+1),(Sort.putCells enc (p.o+off*1) dk c)[p.o+off*1+i.1]? = some (enc dk[i.1]!):=λi=>by
          obtain⟨v,_,_,_,e4⟩:=hel i;simp only[Sort.putCells,Array.getElem?_mapIdx,e4,Option.map_some];rw[if_pos ⟨by omega,by rw[hsz];omega⟩]
          congr 3;omega
         have hroom2:=hrr.room;have hpl:(w8 xs off n dk.toList).length=xs.length:=by simp[w8,hsz];omega
         obtain⟨s2,st2⟩:=s1.write (o:=.cells (Sort.putCells enc (p.o+off*1) dk c) el) (ob':=.row 1 (w8 xs off n dk.toList)) hrow rfl hp
          ⟨p,_,el,hp,hI,eU _ hblk,LC hrr.es_eq (by rw[hcsz];exact hrr.sz) (by rw[hpl,hcsz];omega) λi x hx=>by
           unfold w8 at hx
           by_cases c1:i<off
           .rw[List.append_assoc,List.getElem?_append_left (by simp;omega),List.getElem?_take,if_pos c1]at hx
            obtain⟨v,u,e1,e2,e3,e4⟩:=uK hrr i hx;exact⟨v,u,e1,e2,by rw[hput _ (by omega)];exact e3,e4⟩
           .by_cases c2:i<off+(n+1)
            .rw[List.getElem?_append_left (by simp[hsz];omega),List.getElem?_append_right (by simp;omega)]at hx
             have hlt':i-off<dk.size:=by omega
             have e0:(xs.take off).length=off:=by simp;omega
             simp only[e0,List.getElem?_map,Array.getElem?_toList]at hx;rw[Array.getElem?_eq_getElem hlt']at hx;simp only[Option.map_some,ζa]at hx;obtain⟨v,e1,e2,e3,e4⟩:=hel dk[i-off];rw[e1]at hx;simp only[Option.getD_some]at hx;refine⟨v,enc dk[i-off],hx.symm,e2,?_,e3⟩;have:=hput2 ⟨i-off,by omega⟩
             simp only[getElem!_pos dk (i-off) hlt']at this;rw[<-this];congr 1;omega
            .rw[List.getElem?_append_right (by simp[hsz];omega),List.getElem?_drop]at hx
             have e0:off+(n+1)+(i-((xs.take off)++dk.toList.map (λi=>(xs[off+i.1]?).getD [])).length)=i:=by simp[hsz];omega
             rw[e0]at hx;obtain⟨v,u,e1,e2,e3,e4⟩:=uK hrr i hx;exact⟨v,u,e1,e2,by rw[hput _ (by omega)];exact e3,e4⟩⟩
         have hk:∀b,b<(dX (Sort.ahead w m) p.b (.cells (Sort.putCells enc (p.o+off*1) dk c) el)).heap.size->(grow (dX (Sort.ahead w m) p.b (.cells (Sort.putCells enc (p.o+off*1) dk c) el)) os).heap[b]? = (dX (Sort.ahead w m) p.b (.cells (Sort.putCells enc (p.o+off*1) dk c) el)).heap[b]? := λb hb=>Dv _ _ _ hb
         have st3:=Step.kept (I:=I) (μ:=μ) (H:=H.set id (.row 1 (w8 xs off n dk.toList))) hk (by simp[grow]) rfl ⟨rfl,rfl,Nat.le_refl _⟩ (λa ha h=>by unfold World.frozen? at h ⊢;rw[hk _ ha];exact h)
         exact⟨_,I,μ,rfl,aJ.undef _ _,s2.kept hk,Step.trans s1 st1 (Step.trans s2 st2 st3)⟩
        .cases h0
       .cases h
      .cases h
     .cases h
    .cases h
   .cases h
  .cases h
 .cases h
end
def uf (P:Program) (f:FuncId) (args:List V) (y:V):Prop:=wK P f/\∀I μ H w vs,bO I μ H w->bF I μ args vs->CallsIn (fr none) 0 P f vs.toArray w (uB I μ H w y H)
theorem KB {P:Program} {call:cu} (hc:jH P call) {f:FuncId} {b:Bool} {H':ak} (h:call (.fn f) [] []=some (.bool b,H')):uf P f [] (.bool b):=by
 have hi:∀H,bG call f [] H=some (.bool b):=by
  intro H;unfold bG;rw[show borrows 8 H []=some []from rfl];simp[h];rfl
 refine⟨?_,λI μ H w vs s hv=>(Bo hc (hi H) s hv).2⟩
 obtain⟨h1,_⟩:=hc.fn _ _ _ _ _ h;omega
structure QN (P:Program) (E:Env):Prop where
 sort:∀f,E.sort f=true->zB P f
 known:∀f args y,E.known f args=some y->uf P f args y
end Go.VE
namespace Go.VE
variable [aW]
section
variable {P:Program} {E:Env} {I I':bl} {μ μ':Mu} {H H':ak} {n B:Nat} {F F':Frame} {a:Act} {w w':World}
theorem Hl:∀(F:Frame) (t:Nat),F.length<=t->get F t=.undef
 | [],_,_=>rfl
 | _::_,0,h=>by simp_all
 | _::r,i+1,h=>Hl r i (by grind)
theorem EH:∀(F:Frame) (t:Nat) (x:V),F[t]? = some x->get F t=x
 | [],_,_,h=>by simp_all
 | _::_,0,_,h=>by simpa [get]using h
 | _::r,i+1,x,h=>EH r i x (by grind)
theorem Iz (hg:tR I) {args:List V} {vs:List Value} {nt:Nat} (h:bF I μ args vs) (hl:args.length<=nt) :
 cZ I μ nt args (vs.toArray++Array.replicate (nt-vs.toArray.size) undef):=by
 have hlen  := h.1;refine⟨by simp_all,λt=>?_,hg⟩
 by_cases ht:t<args.length
 .have h1:args[t]? = some args[t]:=by simp_all
  have ht':t<vs.length:=by omega
  have h2:vs[t]? = some vs[t]:=by simp_all
  rw[EH _ _ _ h1];have:(vs.toArray++Array.replicate (nt-vs.toArray.size) undef).getD t undef=vs[t]:=by
   rw[Array.getD_eq_getD_getElem?,Array.getElem?_append_left (by grind)]
   simp_all
  rw[this];exact h.2 t _ _ h1 h2
 .rw[Hl _ _ (by omega)]
  have:(vs.toArray++Array.replicate (nt-vs.toArray.size) undef).getD t undef=undef:=by
   rw[Array.getD_eq_getD_getElem?,Array.getElem?_append_right (by simp_all),Array.getElem?_replicate]
   grind
  rw[this];exact aJ.undef _ _
theorem My (r:cZ I μ n F a.tmps) {t:Nat} {x:V} {v:Value} (ht:t<n) (h:aJ I μ x v):cZ I μ n (set F t x) (a.tmps.setIfInBounds t v):=by
 have:=cZ.put  (dst:=some t) r h (F':=set F t x) (by simp[iZ,ht])
 simpa [Act.put]using this
theorem zY:∀(ps:List Nat) (xs:List V) (vs:List Value) (F:Frame) (tmps:Array Value),cZ I μ n F tmps->bF I μ xs vs->ps.all (·<n)=true ->
 cZ I μ n (uH ps xs F) ((ps.zip vs).foldl (λtmps (t,a)=>tmps.setIfInBounds t a) tmps)
 | [],_,_,F,tmps,r,_,_=>by simpa [uH]using r
 | t::ps,[],[],F,tmps,r,_,_=>by simpa [uH]using r
 | t::ps,[],v::vs,F,tmps,r,h,_=>by have:=h.1;grind
 | t::ps,x::xs,[],F,tmps,r,h,_=>by have:=h.1;grind
 | t::ps,x::xs,v::vs,F,tmps,r,h,hp=>by
  simp only[List.all_cons,ζh,decide_eq_true_eq]at hp;have h0  := h.2 0 x v rfl rfl;have ht:bF I μ xs vs:=⟨by have:=h.1;grind,λj a b h1 h2=>h.2 (j+1) a b (by grind) (by grind)⟩
  exact zY ps xs vs _ _ (My (a:={ tmps:=tmps,defers:=[] }) r hp.1 h0) ht hp.2
theorem EF {α β:Type} (g:α->Sem β):∀(l:List α) (w:World) (bs:List β),bs.length=l.length->(∀(j:Nat) x y,l[j]? = some x->bs[j]? = some y->(g x).run P w=.ok y w)->(l.mapM g).run P w=.ok bs w
 | [],w,[],_,_=>by simp
 | [],w,_::_,h,_=>by simp_all
 | _::_,w,[],h,_=>by simp_all
 | x::l,w,y::bs,h,hg=>by
  have h0:=hg 0 x y rfl rfl;have ht:=EF g l w bs (by grind) (λj a b h1 h2=>hg (j+1) a b (by grind) (by grind))
  simp_all
def HQ (tmps:Array Value):ResultVar->Sem Value
 | .tmp t=>pure (tmps.getD t undef)
 | .cell a t=>do loadVar t (<-asAddr (tmps.getD a undef))
theorem HU (fn:Func) (tmps:Array Value):results fn tmps=(fn.results.mapM (HQ tmps) >>= λvs=>pure (if h:vs.size=1 then vs[0]else .tuple vs)):=by
 congr 1
theorem HS (hE:dh P E) {fn:Func} {tmps:Array Value} (r:cZ I μ n F tmps) (s:bO I μ H w) {vs:List V} (h:ig E F H fn.results.toList=some vs) :
 ∃u,(results fn tmps).run P w=.ok u w/\aJ I μ (result vs) u:=by
 have key:∀(l:List ResultVar) (vs:List V),ig E F H l=some vs->∃us:List Value,us.length=l.length/\bF I μ vs us /\
  ∀(j:Nat) x y,l[j]? = some x->us[j]? = some y->(HQ tmps x).run P w=.ok y w:=by
  intro l
  induction l with
  | nil=>intro vs h;simp[ig]at h;subst h;exact⟨[],rfl,.nil,by simp⟩
  | cons x l ih=>
   intro vs h
   cases x with
   | tmp t=>
    simp only[ig,ζf]at h;obtain⟨vs',h,rfl⟩:=h;obtain⟨us,h1,h2,h3⟩:=ih vs' h;refine⟨tmps.getD t undef::us,by simp_all,.cons (r.2 t) h2,?_⟩
    intro j x y hx hy
    cases j with
    | zero=>simp at hx hy;subst hx;subst hy;simp[HQ]
    | succ j=>grind
   | cell p t=>
    simp only[ig]at h;split at h
    .rename_i d vs' hd hvs;simp only[ζf]at h;obtain⟨v,hv,rfl⟩:=h;obtain⟨us,h1,h2,h3⟩:=ih vs' hvs;obtain⟨u,_,hu,ad,had,hload⟩:=BL hE s hd (r.2 p) hv;refine⟨u::us,by simp_all,.cons hu h2,?_⟩
     intro j x y hx hy
     cases j with
     | zero=>
      simp only[List.getElem?_cons_zero,ζa]at hx hy;subst hx;subst hy;have e:(do loadVar t (<-asAddr (tmps.getD p undef))).run P w=(loadVar t ad).run P w:=by rw[Sem.run_bind,had];rfl
      exact e.trans hload
     | succ j=>grind
    grind
 obtain⟨us,h1,h2,h3⟩:=key _ _ h;have hm:=EF  _ fn.results.toList w us h1 h3;have hA:(fn.results.mapM (HQ tmps)).run P w=.ok us.toArray w:=by
  rw[Array.mapM_eq_mapM_toList];simp_all
 have hsz:us.length=vs.length:=h2.1.symm;rw[HU,Sem.run_bind,hA]
 by_cases hone:us.length=1
 .obtain⟨u,rfl⟩:=List.length_eq_one_iff.1 hone;obtain⟨v,rfl⟩:=List.length_eq_one_iff.1 (hsz▸hone);exact⟨u,by simp,by simpa [result]using h2.2 0 v u rfl rfl⟩
 .refine⟨.tuple us.toArray,by simp_all,?_⟩
  have hr:result vs=.tup vs:=by
   match vs,hsz with
   | [],_=>rfl
   | [_],h=>exact absurd h hone
   | _::_::_,_=>rfl
  rw[hr];exact .tup _ _ (by simpa using h2.1) (by simpa using h2.2)
theorem KJ (hE:dh P E) {fn:Func} {tmps:Array Value} {vs:List V} (h:ig E F H' fn.results.toList=some vs) (hB:w.heap.size<=B):∀(ds:List Deferred) (w':World),
 cZ I' μ' n F tmps->bO I' μ' H' w'->Step I μ H w I' μ' H' w'->iE B ds w' ->
 LeavesInM (fr none) 0 P fn tmps (uB I μ H w (result vs) H') ds .returning w':=by
 intro ds
 induction ds with
 | nil=>
  intro w' r s st m;obtain⟨u,hu,hv⟩:=HS hE r s h;exact⟨u,hu,u,I',μ',rfl,hv,s,st⟩
 | cons d ds ih=>
  intro w' r s st m;obtain⟨q,h1,h2,h3⟩:=m.all d (by simp)
  refine⟨by simp,.inl ⟨q,_,h1,run_takeDeferred h3,?_⟩⟩
  have hown:=sZ s h3;have hI:=PK s h3 (by simp) (by simp)
  have m':iE B ds w':=⟨λd hd=>m.all d (List.mem_cons_of_mem _ hd),(List.pairwise_cons.1 m.apart).2⟩
  refine ih (dX w' q (.deferred none)) r (s.zi _ hI hown) (st.after _ (by omega)) ⟨λd' hd'=>?_,m'.apart⟩
  obtain⟨q',g1,g2,g3⟩:=m'.all d' hd';refine⟨q',g1,g2,?_⟩;rw[dH _ ?_];exact g3;rintro rfl;exact(List.pairwise_cons.1 m.apart).1 d' hd' _ h1 g1
theorem Ce (o:Out):(jJ o).isNone=(o==.norm):=by
 cases o <;> simp[jJ] <;> rfl
theorem C3 (hE:dh P E) (hm:P.follows .mixedOrders=true) (hS:QN P E):∀n,jH P (run E n):=by
 intro n
 induction n with
 | zero=>exact⟨λ_ _ _ _ _ h=>by simp[run]at h,λ_ _ _ _ _ h=>by simp[run]at h⟩
 | succ n ihn=>
  constructor
  .intro f args H r H' h;simp[run]at h;split at h
   .rename_i fi hfi;obtain⟨fn,hf,hb,hnt,hres,hname⟩:=hE.ft f fi hfi;refine⟨⟨fn,hf,by simp_all,hname⟩,?_⟩
    intro I μ w vs s hv;split at h
    .rename_i hlen;have main:∀o F' H2 rs,exec E (run E n) n false fi.ntmps fi.body args H=some (o,F',H2)->(∀id,o≠.exit id)->ig E F' H2 fi.results=some rs->CallsIn (fr none) 0 P f vs.toArray w (uB I μ H w (result rs) H2):=by
      intro o F' H2 rs hx hne hr;refine callsIn_of_wp_marks hf hb trivial ?_;rw[hnt];have r0:=Iz s.gl hv hlen;have:=wZ  hE hm ihn n none false rfl fi.ntmps fi.body I μ args H { tmps:=vs.toArray++Array.replicate (fi.ntmps-vs.toArray.size) undef,defers:=[] } w o F' H2 hx r0 s ⟨by simp,.nil⟩ (Nat.le_refl _)
      refine wpIn_mono this ?_;rintro e a1 w1 ⟨rfl,⟨I1,μ1,r1,s1,st1⟩,m1⟩;have hl:=KJ  hE  (by rw[hres];omega) (Nat.le_refl _) a1.defers w1 r1 s1 st1 m1
      cases o with
      | norm=>exact hl
      | ret=>exact hl
      | exit id=>grind
     split at h
     .simp_all
     .simp  at h
      grind
     grind
    grind
   .split at h
    .rename_i hs;exact⟨(hS.sort f hs).ok,λI μ w vs s hv=>O1 ihn (hS.sort f hs) h s hv⟩
    .obtain⟨yy,he,h⟩:=ζf.1 h;cases h;exact⟨(hS.known f args _ he).1,λI μ w vs s hv=>(hS.known f args _ he).2 I μ H w vs s hv⟩
  .intro id args H r H' h I μ w vs p s hv hp;simp only[run]at h;split at h
   .rename_i rec hrec;split at h
    .split at h
     .rename_i hlen;split at h
      .rename_i F2 H2 hx1;split at h
       .rename_i r2 hr2;split at h
        .rename_i hst2;split at h
         .rename_i o F4 H4 hx2;split at h
          .rename_i r4 hr4;obtain⟨rfl,rfl⟩:=h;obtain⟨q,l,g1,g2,g3,g4⟩:=zh s hrec;rw[hp]at g1;cases g1;have hps:l.params.size=rec.params.length:=by have:=congrArg List.length g4.params;grind
           have hsz:vs.toArray.size=l.params.size:=by
            rw[hps,<-hlen.1];simpa using hv.1.symm
           refine⟨p.b,l.fn,_,l.assign,l.body,run_yield g3 hsz,?_⟩;refine roundIn_of_wpIn trivial ?_;have hfold:(l.params.zip vs.toArray).foldl (λtmps x=>tmps.setIfInBounds x.1 x.2) l.tmps=(rec.params.zip vs).foldl (λtmps x=>tmps.setIfInBounds x.1 x.2) l.tmps:=by
            rw[<-Array.foldl_toList,Array.toList_zip,g4.params]
           have r0:=zY rec.params args vs rec.frame l.tmps g4.frame hv hlen.2;rw[<-hfold]at r0;have w1:=wZ  hE hm ihn n (some p.b) true rfl rec.nt rec.assign I μ _ H { tmps:=_,defers:=[] } w _ _ _ hx1 r0 s ⟨by simp,.nil⟩ (Nat.le_refl _)
           rw[g4.assign,g4.body];refine wpIn_mono w1 ?_;rintro e a1 w1 ⟨rfl,⟨I1,μ1,r1,s1,st1⟩,m1⟩;obtain⟨q,l2,k1,k2,k3,k4⟩:=zh s1 hr2;rw[st1.mu _ _ hp]at k1;cases k1;have hready:l2.state=.ready:=by
            have:=k4.st;rw[hst2]at this;cases hl:l2.state <;> rw[hl]at this <;> simp[zF.is]at this
           refine⟨_,run_beginRound k3 hready,?_⟩;have hp1  := st1.mu _ _ hp;obtain⟨s2,st2⟩:=s1.write  (ob':=.loop { r2 with st:=.busy }) hr2 rfl hp1
            ⟨p,{ l2 with state:=.busy },hp1,k2,eU _ (Array.getElem?_eq_some_iff.1 k3).1,⟨trivial,k4.pend,k4.pendOk,k4.frame,k4.params,k4.assign,k4.body⟩⟩
           have m2  := m1.step s1 st2;have w2:=wZ  hE hm ihn n (some p.b) true rfl rec.nt rec.body I1 μ1 F2 _ a1 (dX w1 p.b (.loop { l2 with state:=.busy })) o F4 H4 hx2 r1 s2 m2 (by rw[qu];exact st1.size)
           refine wpIn_mono w2 ?_;rintro e a3 w3 ⟨rfl,⟨I3,μ3,r3,s3,st3⟩,m3⟩;obtain⟨q,l4,j1,j2,j3,j4⟩:=zh s3 hr4;rw[st3.mu _ _ hp1]at j1;cases j1;have hp3  := st3.mu _ _ hp1;have fin:∃v w',(Instr.endRound p.b (jJ o)).run P w3=.ok v w'/\uB I μ H w (.bool (o==.norm)) (H4.set id (.loop { r4 with st:=(if o==.norm then .ready else .done),pend:=(if o==.norm then none else some o) })) (.returned v) w':=by
            refine⟨_,_,run_endRound (jJ o) j3,?_⟩;obtain⟨s4,st4⟩:=s3.write  (ob':=.loop { r4 with st:=(if o==.norm then .ready else .done),pend:=(if o==.norm then none else some o) }) hr4 rfl hp3
             ⟨p,{ l4 with state:=if(jJ o).isNone then .ready else .done,pending:=jJ o },hp3,j2,eU _ (Array.getElem?_eq_some_iff.1 j3).1,⟨by cases o <;> exact trivial,by cases o <;> rfl,by cases o <;> simp,j4.frame,j4.params,j4.assign,j4.body⟩⟩
            refine⟨_,I3,μ3,rfl,?_,s4,Step.trans s1 st1 (Step.trans s2 st2 (Step.trans s3 st3 st4))⟩;rw[Ce];exact .c _ _ (.bool _)
           cases o with
           | norm=>exact fin
           | ret=>exact fin
           | exit id=>exact fin
          grind
         grind
        grind
       grind
      grind
     grind
    grind
   grind
end
end Go.VE
namespace Go.VE
variable [aW]
variable {P:Program}
theorem mD.AY {t:TypeId} {d:TD} (h:ri P t=some d):mD P t d:=
 dh.ty (E:={ tt:=ri P,ft:=λ_=>none,keep:=λ_=>false,own:=λ_=>false,eqN:=λ_=>none,sort:=λ_=>false }) ⟨λ_ _ h=>h,by simp,by simp⟩ h
theorem pR {i:TypeId} {cs:Array Value} {o:Nat} {v:Value} {w:World} (hi:ri P i=some ⟨1,8,[.int .i64 0],.int .i64⟩) (h:cs[o]? = some v):(part i cs o).run P w=.ok v w:=by
 unfold part;simp[Sem.run_bind,(mD.AY hi).Bh,Result.andThen,TD.agg,h]
theorem rK {a:List Int} (h:a.length=2):∃x y,a=[x,y]:=by
 match a,h with
 | [x,y],_=>exact⟨x,y,rfl⟩
theorem yA (d:Nat) (e:Bool) {i:TypeId} (x:Int) {w:World} (hui:P.underlying i=some (.int .i64)):(Instr.checkKey e (d+1) i (.int .i64 x)).run P w=.ok () w:=by
 simp only[Instr.checkKey,Sem.run_bind,ct hui,Result.andThen_ok,Sem.run_pure]
theorem Fz (d:Nat) (e:Bool) {t i:TypeId} {f g:Field} (x y:Int) {w:World} (hu:P.underlying t=some (.struct #[f,g])) (hf:f.type=i) (hg:g.type=i) (of:f.offset=0) (og:g.offset=1) (nf:f.name ≠ "_") (ng:g.name ≠ "_")
 (hi:ri P i=some ⟨1,8,[.int .i64 0],.int .i64⟩) (hui:P.underlying i=some (.int .i64)):(Instr.checkKey e (d+1+1) t (.agg (ic [x,y]))).run P w=.ok () w:=by
 have p0:∀w,(part i (ic [x,y]) 0).run P w=.ok (.int .i64 x) w:=λw=>pR hi rfl
 have p1:∀w,(part i (ic [x,y]) 1).run P w=.ok (.int .i64 y) w:=λw=>pR hi rfl
 have q:∀(x:Int) w,(Instr.checkKey e (d+1) i (.int .i64 x)).run P w=.ok () w:=λx w=>yA d e x hui
 unfold Instr.checkKey;simp only[Sem.run_bind,ct hu,Result.andThen_ok];rw[<-Array.forIn_toList];simp only[List.forIn_cons,List.forIn_nil,Sem.run_bind,hf,hg,of,og,nf,ng,ne_eq,not_false_eq_true,if_true,p0,p1,q,Result.andThen_ok,Sem.run_pure]
theorem rY.two {t i:TypeId} {f g:Field} (hu:P.underlying t=some (.struct #[f,g])) (hf:f.type=i) (hg:g.type=i) (of:f.offset=0) (og:g.offset=1) (nf:f.name ≠ "_") (ng:g.name ≠ "_")
 (hi:ri P i=some ⟨1,8,[.int .i64 0],.int .i64⟩) (hui:P.underlying i=some (.int .i64)) (hs:P.stoodInHeld t=false) (hq:P.eqGuardType P.depth t=false):rY P t 2:=by
 have hfo:P.fieldsOf t=#[f,g]:=by unfold Program.fieldsOf;rw[hu]
 have heq:∀(w:World) (x y z u:Int),(Op.equal t (.agg (ic [x,y])) (.agg (ic [z,u]))).run P w=.ok ([x,y]==[z,u]) w:=by
  intro w x y z u;show (Op.equalIn (9999+1) t _ _).run P w=_;rw[run_equalIn_struct w 9999 t _ _ (by rw[hfo];exact hu) hs,hfo]
  have p0:∀(x y:Int) w,(part i (ic [x,y]) 0).run P w=.ok (.int .i64 x) w:=λx y w=>pR hi rfl
  have p1:∀(x y:Int) w,(part i (ic [x,y]) 1).run P w=.ok (.int .i64 y) w:=λx y w=>pR hi rfl
  have q:∀(x y:Int) w,(Op.equalIn 9999 i (.int .i64 x) (.int .i64 y)).run P w=.ok (x==y) w:=λx y w=>zG 9998 x y hui
  simp only[Op.eqFields,hf,hg,of,og,nf,ng,ne_eq,not_false_eq_true,if_true,Sem.run_bind,p0,q,Result.andThen_ok]
  by_cases hxz:x=z
  .by_cases hyu:y=u
   .subst hxz;subst hyu;simp[Sem.run_bind,p1,q,Result.andThen]
   .subst hxz;have:(y==u)=false:=by simpa using hyu
    simp[Sem.run_bind,p1,q,Result.andThen,this]
  .have:(x==z)=false:=by simpa using hxz
   simp[this]
 have hg0:∀(op:BinOp) (p q:Operand) (w:World) (u v:Array Value),(eqGuard op t p q (.agg u) (.agg v)).run P w=.ok () w:=by
  intro op p q w u v;unfold eqGuard;cases op <;> simp[Sem.run_bind,run_program,Result.andThen,hq]
 refine⟨?_,?_,?_,?_,⟨_,hu,.inr ⟨_,rfl⟩⟩⟩
 .intro w p q a b ha hb;obtain⟨x,y,rfl⟩:=rK ha;obtain⟨z,u,rfl⟩:=rK hb;rw[Sem.run_bind,hg0,Result.andThen_ok];show (do pure (Value.bool (<-Op.equal t (.agg (ic [x,y])) (.agg (ic [z,u])))):Sem Value).run P w=_
  rw[Sem.run_bind,heq];rfl
 .intro w p q a b ha hb;obtain⟨x,y,rfl⟩:=rK ha;obtain⟨z,u,rfl⟩:=rK hb;rw[Sem.run_bind,hg0,Result.andThen_ok];show (do pure (Value.bool (!(<-Op.equal t (.agg (ic [x,y])) (.agg (ic [z,u]))))):Sem Value).run P w=_
  rw[Sem.run_bind,heq];rfl
 .intro w a b ha hb;obtain⟨x,y,rfl⟩:=rK ha;obtain⟨z,u,rfl⟩:=rK hb;exact heq w x y z u
 .intro w e a ha;obtain⟨x,y,rfl⟩:=rK ha;exact Fz 9998 e x y hu hf hg of og nf ng hi hui
def lk {α:Type}:List (Nat×α)->Nat->Option α
 | [],_=>none
 | (k,v)::r,n=>bif Nat.beq k n then some v else lk r n
theorem Kb {α:Type}:∀{l:List (Nat×α)} {n:Nat} {v:α},lk l n=some v->(n,v)∈l
 | [],_,_,h=>by simp[lk]at h
 | (k,x)::r,n,v,h=>by
  simp only[lk]at h
  cases hk:Nat.beq k n with
  | true=>
   rw[hk]at h;simp only[cond_true,ζa]at h;have:=Nat.eq_of_beq_eq_true hk;subst this;subst h;simp
  | false=>rw[hk]at h;exact List.mem_cons_of_mem _ (Kb h)
end Go.VE
namespace Go.VE
variable [aW]
inductive KT where|bool|str|slice|ptr|map|int|other
 deriving DecidableEq
def TK.tag:TK->KT
 | .bool=>.bool
 | .int _=>.int
 | .str=>.str
 | .ptr _=>.ptr
 | .slice _=>.slice
 | .map ..=>.map
 | _=>.other
def nr (k:KT) (x y:V):Option Bool:=
 match k,x,y with
 | .slice,.aR,.aR=>some true
 | .slice,.fsl ..,.aR=>some false
 | .slice,.hsl ..,.aR=>some false
 | .ptr,.fI,.fI=>some true
 | .ptr,.fptr _,.fI=>some false
 | .ptr,.hptr ..,.fI=>some false
 | .map,.eX,.eX=>some true
 | .map,.fmap _,.eX=>some false
 | .map,.hmap _,.eX=>some false
 | _,_,_=>none
def iQ (k:Option KT) (e:Option Nat) (op:BinOp) (x y:V):Option V:=
 match x,y with
 | .int k a,.int k' b=>
  match op with
  | .shl=>if b<0 then none else some (.int k (k.wrap (a*2 ^ (min b.toNat k.bits))))
  | .shr=>if b<0 then none else some (.int k (a.fdiv (2 ^ (min b.toNat k.bits))))
  | _=>if k=k' then
   match op with
   | .add=>some (.int k (k.wrap (a+b)))
   | .sub=>some (.int k (k.wrap (a-b)))
   | .mul=>some (.int k (k.wrap (a*b)))
   | .quo=>if b=0 then none else some (.int k (k.wrap (a.tdiv b)))
   | .rem=>if b=0 then none else some (.int k (a.tmod b))
   | .and=>some (.int k (k.wrap (BitVec.ofInt k.bits a &&& BitVec.ofInt k.bits b).toNat))
   | .or=>some (.int k (k.wrap (BitVec.ofInt k.bits a ||| BitVec.ofInt k.bits b).toNat))
   | .xor=>some (.int k (k.wrap (BitVec.ofInt k.bits a ^^^ BitVec.ofInt k.bits b).toNat))
   | .andNot=>some (.int k (k.wrap (BitVec.ofInt k.bits a &&& ~~~ BitVec.ofInt k.bits b).toNat))
   | op=>(oS op a b).map .bool
   else none
 | .str a,.str b=>
  match op with
  | .add=>if((a.size+b.size:Nat):Int)>IntKind.i64.max then none else some (.str (a++b))
  | .eql=>some (.bool (a.toList==b.toList))
  | .neq=>some (.bool !(a.toList==b.toList))
  | .lss=>some (.bool (Op.bytesLess a.toList b.toList))
  | .leq=>some (.bool (Op.bytesLess a.toList b.toList||a.toList==b.toList))
  | .gtr=>some (.bool !(Op.bytesLess a.toList b.toList||a.toList==b.toList))
  | .geq=>some (.bool !(Op.bytesLess a.toList b.toList))
  | _=>none
 | .bool a,.bool b=>
  match k,op with
  | some .bool,.eql=>some (.bool (a==b))
  | some .bool,.neq=>some (.bool !(a==b))
  | _,_=>none
 | .agg a,.agg b=>
  match e,op with
  | some n,.eql=>if a.length=n then(jx a b).map .bool else none
  | some n,.neq=>if a.length=n then(jx a b).map (λt=>.bool !t)else none
  | _,_=>none
 | x,y=>
  match k,op with
  | some k,.eql=>(nr k x y).map .bool
  | some k,.neq=>(nr k x y).map λt=>.bool !t
  | _,_=>none
theorem Jg (k:TK) (x y:V):sR k x y=nr k.tag x y:=by
 cases k <;> cases y <;> (try rfl) <;> cases x <;> rfl
theorem Pq (E:Env) (op:BinOp) (t:TypeId) (x y:V):Ei E op t x y=iQ ((E.cz t).map TK.tag) (E.eqN t) op x y:=by
 unfold Ei;split
 .rfl
 .rfl
 .cases hk:E.cz t with
  | none=>rfl
  | some k=>cases k <;> cases op <;> rfl
 .rfl
 .rename_i h1 h2 h3 h4
  cases hk:E.cz t with
  | none=>rw[iQ.eq_29 _ _ _ _ _ h1 h2 h3 h4 (by simp) (by simp)]
  | some k=>
   simp only[Jg];cases op <;> first
    | exact(iQ.eq_27 _ _ _ _ h1 h2 h3 h4).symm
    | exact(iQ.eq_28 _ _ _ _ h1 h2 h3 h4).symm
    | (rw[iQ.eq_29 _ _ _ _ _ h1 h2 h3 h4 (by simp) (by simp)])
inductive tC where
 | id|pick|nilc
 | bin (k:Option KT) (e:Option Nat) (op:BinOp)
 | not|neg
 | conv (k:IntKind)
 | fieldAddr (off:Nat)
 | field (off size:Nat) (agg:Bool)
 | idxS (size:Nat)
 | idxA (len size:Nat)
 | idxStr
 | idxArr (len size:Nat) (agg:Bool)
 | sliceStr (lo hi:Bool)
 | slice (size:Nat) (lo hi:Bool)
 | slice00
 | build (zero:List V) (pl:List (Nat×Nat))
 | clo (name:Nat) (k:Nat)
 | ext (i:Nat)
 | lenStr|lenSl|capSl|max|min|bad|max4
 | makeC (size:Nat) (zero:List V)
 | emptyC
def II:V->Option V
 | .hptr id el off=>some (.hptr id el off)
 | .fptr cs=>some (.fptr cs)
 | .clo f a b=>some (.clo f a b)
 | _=>none
def fK (off:Nat):V->Option V
 | .fptr cs=>if off<=cs.length then some (.fptr (cs.drop off))else none
 | .hptr id el o=>some (.hptr id el (o+off))
 | _=>none
def j7 (size:Nat) (s:V) (n:Int):Option V:=
 if n<0 then none else match s with
 | .fsl es xs=>if es=size then(xs[n.toNat]?).map .fptr else none
 | .hsl id es off len=>if es=size/\n.toNat<len then some (.hptr id (off+n.toNat) 0)else none
 | _=>none
def uT (len size:Nat) (p:V) (n:Int):Option V:=
 if 0<=n/\n<len then match p with
  | .fptr cs=>if n.toNat*size<=cs.length then some (.fptr (cs.drop (n.toNat*size)))else none
  | .hptr id el o=>some (.hptr id el (o+n.toNat*size))
  | _=>none
 else none
def kM:Bool->Bool->List V->Option (Option Int×Option Int)
 | false,false,[]=>some (none,none)
 | true,false,[.int _ l]=>some (some l,none)
 | false,true,[.int _ h]=>some (none,some h)
 | true,true,[.int _ l,.int _ h]=>some (some l,some h)
 | _,_,_=>none
def gC (size:Nat) (v:V) (l h:Option Int):Option V:=
 match v with
 | .fsl es xs=>if es=size then(cN xs.length l h).map λ(l,h)=>.fsl es ((xs.take h).drop l)else none
 | .hsl id es off len=>if es=size then(cN len l h).map λ(l,h)=>.hsl id es (off+l) (h-l)else none
 | .ck=>(cN 0 l h).map λ_=>.ck
 | .aR=>(cN 0 l h).map λ_=>.aR
 | _=>none
def IU:V->Bool
 | .fsl ..|.hsl ..|.ck|.aR=>true
 | _=>false
def jt (cells:List V):List (Nat×Nat)->List V->Option (List V)
 | [],[]=>some cells
 | (off,size)::pl,v::vs=>
  if v.cells.length≠size||off+v.cells.length>cells.length then none
  else jt (cells.take off++v.cells++cells.drop (off+v.cells.length)) pl vs
 | _,_=>none
def o_:V->Option V
 | .fsl _ xs=>some (.int .i64 xs.length)
 | .hsl _ _ _ len=>some (.int .i64 len)
 | .ck=>some (.int .i64 0)
 | .aR=>some (.int .i64 0)
 | _=>none
def LK:V->Option V
 | .aR|.ck=>some (.int .i64 0)
 | _=>none
def aq (N:Nat->FuncId):tC->List V->Option V
 | .id,[x]=>some x
 | .pick,[.bool t,a,b]=>some (if t then a else b)
 | .nilc,[x]=>II x
 | .bin k e op,[x,y]=>iQ k e op x y
 | .not,[.bool b]=>some (.bool !b)
 | .neg,[.int k n]=>some (.int k (k.wrap (0-n)))
 | .conv k,[.int _ n]=>some (.int k (k.wrap n))
 | .fieldAddr off,[p]=>fK off p
 | .field off size agg,[.agg cs]=>(cut cs off size).bind (mk agg)
 | .idxS size,[s,.int _ n]=>j7 size s n
 | .idxA len size,[p,.int _ n]=>uT len size p n
 | .idxStr,[.str s,.int _ n]=>if 0<=n then(s[n.toNat]?).map (λb=>.int .u8 b.toNat)else none
 | .idxArr len size agg,[.agg cs,.int _ n]=>if 0<=n/\n<len then(cut cs (n.toNat*size) size).bind (mk agg)else none
 | .sliceStr lo hi,.str s::bs=>(kM lo hi bs).bind λ(l,h)=>(cN s.size l h).map λ(l,h)=>.str (s.extract l h)
 | .slice size lo hi,v::bs=>(kM lo hi bs).bind λ(l,h)=>gC size v l h
 | .slice00,[v,.int _ h,.int _ m]=>if IU v&&h==0&&m==0 then some .ck else none
 | .build zero pl,vs=>(jt zero pl vs).map .agg
 | .clo name k,vs=>some (.clo (N name) (vs.take k) (vs.drop k))
 | .ext i,[.tup vs]=>vs[i]?
 | .lenStr,[.str s]=>some (.int .i64 s.size)
 | .lenSl,[v]=>o_ v
 | .capSl,[v]=>LK v
 | .max,[.int k a,.int k' b]=>if k=k' then some (.int k (if b>a then b else a))else none
 | .max4,[.int k a,.int k1 b,.int k2 c,.int k3 d]=>if k=k1/\k=k2/\k=k3 then some (.int k (AG (AG (AG a b) c) d))else none
 | .min,[.int k a,.int k' b]=>if k=k' then some (.int k (if b<a then b else a))else none
 | .makeC size zero,[.int k n,.int k' m]=>if k=.i64/\k'=.i64/\0<=n/\n=m/\m<=2147483648/\zero.all V.scalar=true then some (.fsl size (List.replicate n.toNat zero))else none
 | .emptyC,[]=>some .ck
 | _,_=>none
inductive vL where|int (k:IntKind)|str|ints (n:Nat)
def Ba (E:Env) (t:TypeId):Option vL:=
 match E.cz t with
 | some (.int k)=>some (.int k)
 | some .str=>some .str
 | some _=>(E.eqN t).map .ints
 | none=>none
def n9:vL->V->Bool
 | .int k,.int k' _=>k==k'
 | .str,.str _=>true
 | .ints n,.agg cs=>cs.length==n&&(gj cs).isSome
 | _,_=>false
inductive GV where
 | load (size:Nat) (agg:Bool)
 | loadF (size:Nat) (agg:Bool)
 | lookup (kk:vL) (zero:V) (ok:Bool)
def dB (H:ak):GV->List V->Option V
 | .load size agg,[p]=>(cR H p size).bind (mk agg)
 | .lookup kk z ok,[m,k]=>match kU H m with
  | some kvs=>if n9 kk k then match fT k kvs 0 with
   | some (some (_,v))=>some (if ok then .tup [v,.bool true]else v)
   | some none=>some (if ok then .tup [z,.bool false]else z)
   | none=>none
   else none
  | none=>none
 | _,_=>none
inductive Kw where
 | alloc (size:Nat) (zero:List V)
 | box
 | makeSl (size:Nat) (zero:List V)
 | buildSl (size len:Nat) (zero:List V) (idx:List Nat)
 | makeMap
def gL:Kw->List V->Option (Ob×Mk)
 | .alloc size zero,[]=>some (.row size [zero],.ptr)
 | .box,[v]=>if v.cells.all V.one then some (.row v.cells.length [v.cells],.ptr)else none
 | .makeSl size zero,[.int k n,.int k' m]=>if k=.i64/\k'=.i64/\0<=n/\n<=m/\m<=2147483648 then some (.row size (List.replicate m.toNat zero),.sl size n.toNat)else none
 | .buildSl size len zero idx,vs=>if idx.length=vs.length then(e_ size (List.replicate len zero) (idx.zip vs)).map λxs=>(.row size xs,.sl size len)else none
 | .makeMap,[]=>some (.map [],.map)
 | _,_=>none
inductive GQ where
 | store (size:Nat)
 | storeF (size:Nat)
 | mapUp (kk:vL)
 | append (size:Nat)
 | appMk (size bytes:Nat) (zero:List V)
 | clear (size:Nat) (zero:List V)
def eA (H:ak):GQ->List V->Option (V×ak)
 | .store size,[.hptr id el off,v]=>match H[id]? with
  | some (.row es xs)=>match xs[el]? with
   | some cs=>if v.cells.length=size/\off+size<=cs.length/\v.cells.all V.one=true then
    some (.undef,H.set id (.row es (xs.set el (cs.take off++v.cells++cs.drop (off+v.cells.length)))))else none
   | none=>none
  | _=>none
 | .mapUp kk,[.hmap id,k,v]=>match H[id]? with
  | some (.map kvs)=>if n9 kk k then(od k v kvs).map λkvs=>(.undef,H.set id (.map kvs))else none
  | _=>none
 | .append size,[s,x]=>match cW H size s,cW H size x with
  | some _,some []=>some (s,H)
  | some xs,some ys=>if xs.length+ys.length<=2147483648 then(fQ H s).map λH1=>(.hsl H.length size 0 (xs.length+ys.length),H1++[.row size (xs++ys)])else none
  | _,_=>none
 | .appMk size bytes zero,[s,x]=>mkApp H size bytes zero s x
 | .clear size zero,[v]=>A4 H size zero v
 | .storeF size,.hptr id el off::v::l=>if l.all (o7 id)=true then match H[id]? with
  | some (.row es xs)=>match xs[el]? with
   | some cs=>if v.cells.length=size/\off+size<=cs.length/\v.cells.all V.one=true then
    some (.undef,H.set id (.row es (xs.set el (cs.take off++v.cells++cs.drop (off+v.cells.length)))))else none
   | none=>none
  | _=>none
  else none
 | _,_=>none
inductive K where
 | p (p:tC)
 | r (r:GV)
 | a (a:Kw)
 | l (l:GQ)
 | c
 | e (size:Nat)
def Ss (E:Env) (t:TypeId):Option KT:=(E.cz t).map TK.tag
def resolve (E:Env) (nm:FuncId->Option Nat):Op->Option (K×List Operand)
 | .move x|.assign x=>some (.p .id,[x])
 | .pick c a b=>some (.p .pick,[c,a,b])
 | .nilCheck x=>some (.p .nilc,[x])
 | .binOp op t x y _=>some (.p (.bin (Ss E t) (E.eqN t) op),[x,y])
 | .unOp .not _ x=>some (.p .not,[x])
 | .unOp .neg _ x=>some (.p .neg,[x])
 | .convert s d x=>match E.tt s,E.tt d with
  | some _,some td=>match td.kind with
   | .int k=>some (.p (.conv k),[x])
   | _=>none
  | _,_=>none
 | .fieldAddr s x f=>match E.cz s with
  | some (.struct fs)=>match fs[f]? with
   | some (off,t)=>match E.tt t with
    | some d=>if d.size=0 then none else some (.p (.fieldAddr off),[x])
    | none=>none
   | none=>none
  | _=>none
 | .field s x f=>match E.cz s with
  | some (.struct fs)=>match fs[f]? with
   | some (off,t)=>match E.tt t with
    | some d=>some (.p (.field off d.size d.agg),[x])
    | none=>none
   | none=>none
  | _=>none
 | .indexAddr t x i=>match E.cz t with
  | some (.slice e)=>(E.tt e).map λd=>(.p (.idxS d.size),[x,i])
  | some (.array len e)=>(E.tt e).map λd=>(.p (.idxA len d.size),[x,i])
  | _=>none
 | .index t x i=>match E.cz t with
  | some .str=>some (.p .idxStr,[x,i])
  | some (.array len e)=>(E.tt e).map λd=>(.p (.idxArr len d.size d.agg),[x,i])
  | _=>none
 | .slice t x lo hi mx=>match E.cz t,mx with
  | some .str,none=>some (.p (.sliceStr lo.isSome hi.isSome),x::(lo.toList++hi.toList))
  | some (.slice e),none=>(E.tt e).map λd=>(.p (.slice d.size lo.isSome hi.isSome),x::(lo.toList++hi.toList))
  | some (.slice e),some m=>match E.tt e,lo,hi with
   | some _,none,some h=>some (.p .slice00,[x,h,m])
   | _,_,_=>none
  | _,_=>none
 | .build t ps=>match E.tt t with
  | some d=>match d.kind with
   | .struct fs=>match lJ E fs with
    | some pl=>(ps.toList.mapM λ(q:Nat×Operand)=>pl[q.1]?).map λq=>(K.p (.build d.zero q),ps.toList.map λ(q:Nat×Operand)=>q.2)
    | none=>none
   | .array _ e=>(E.tt e).map λde=>(K.p (.build d.zero (ps.toList.map λ(q:Nat×Operand)=>(q.1*de.size,de.size))),ps.toList.map λ(q:Nat×Operand)=>q.2)
   | _=>none
  | none=>none
 | .makeFunc (.func f) a b=>(nm f).map λs=>(.p (.clo s a.toList.length),a.toList++b.toList)
 | .extract x i=>some (.p (.ext i),[x])
 | .load t a=>(E.tt t).map λd=>(.r (.load d.size d.agg),[a])
 | .lookup t m k ok=>match E.cz t with
  | some (.map kt et)=>match E.tt et,Ba E kt with
   | some d,some kk=>(mk d.agg d.zero).map λz=>(.r (.lookup kk z ok),[m,k])
   | _,_=>none
  | _=>none
 | .alloc t=>(E.tt t).map λd=>(.a (.alloc d.size d.zero),[])
 | .box _ x=>some (.a .box,[x])
 | .makeSlice t l c=>match E.cz t with
  | some (.slice e)=>match E.tt e with
   | some d=>if d.bytes<=4096 then some (.a (.makeSl d.size d.zero),[l,c])else none
   | none=>none
  | _=>none
 | .buildSlice t len ps=>match E.cz t with
  | some (.slice e)=>match E.tt e with
   | some d=>if len*d.size<=16777216 then some (.a (.buildSl d.size len d.zero (ps.toList.map (·.1))),ps.toList.map (·.2))else none
   | none=>none
  | _=>none
 | .makeMap _ none=>some (.a .makeMap,[])
 | .store t a x=>(E.tt t).map λd=>(.l (.store d.size),[a,x])
 | .mapUpdate t m k x|.insert t m k x=>match E.cz t with
  | some (.map kt _)=>(Ba E kt).map λkk=>(.l (.mapUp kk),[m,k,x])
  | _=>none
 | .call { callee:=.builtin .append,args,argTypes }=>match argTypes.toList,args.toList with
  | [t,t'],[s,x]=>match E.cz t,E.cz t' with
   | some (.slice e),some (.slice _)=>match E.tt e with
    | some d=>if d.bytes<=4096/\0<d.bytes then some (.l (.append d.size),[s,x])else none
    | none=>none
   | some (.slice e),some (.int _)=>(E.tt e).map λd=>(.l (.appMk d.size d.bytes d.zero),[s,x])
   | _,_=>none
  | _,_=>none
 | .call { callee:=.builtin .len,args,argTypes }=>match argTypes[0]?,args.toList with
  | some t,[x]=>match E.cz t with
   | some .str=>some (.p .lenStr,[x])
   | some (.slice _)=>some (.p .lenSl,[x])
   | _=>none
  | _,_=>none
 | .call { callee:=.builtin .cap,args,argTypes }=>match argTypes[0]?,args.toList with
  | some t,[x]=>match E.cz t with
   | some (.slice _)=>some (.p .capSl,[x])
   | _=>none
  | _,_=>none
 | .call { callee:=.builtin .clear,args,argTypes }=>match argTypes[0]?,args.toList with
  | some t,[x]=>match E.cz t with
   | some (.slice e)=>(E.tt e).map λd=>(.l (.clear d.size d.zero),[x])
   | _=>none
  | _,_=>none
 | .panic _=>some (.p .bad,[])
 | .makeInterface ..=>some (.p .bad,[])
 | .call { callee:=.builtin .max,args,.. }=>match args.toList with
  | [x,y]=>some (.p .max,[x,y])
  | [x,y,z,t]=>some (.p .max4,[x,y,z,t])
  | _=>none
 | .call { callee:=.builtin .min,args,.. }=>match args.toList with
  | [x,y]=>some (.p .min,[x,y])
  | _=>none
 | .call { callee:=.value f,args,.. }=>some (.c,f::args.toList)
 | _=>none
end Go.VE
namespace Go.VE
variable [aW]
section
variable {E:Env} {nm:FuncId->Option Nat} {N:Nat->FuncId} {F:Frame}
theorem nD {x:Operand} {vs:List V} (h:d_ F [x]=some vs):∃a,ev F x=some a/\vs=[a]:=by
 simp[d_]at h
 grind
theorem gH {x:Operand} {l:List Operand} {vs:List V} (h:d_ F (x::l)=some vs):∃a az,ev F x=some a/\d_ F l=some az/\vs=a::az:=by
 simp[d_]at h
 grind
theorem oK {vs:List V} (h:d_ F []=some vs):vs=[]:=by simp[d_]at h;grind
theorem qL {x y:Operand} {vs:List V} (h:d_ F [x,y]=some vs):∃a b,ev F x=some a/\ev F y=some b/\vs=[a,b]:=by
 obtain⟨a,az,ha,h2,rfl⟩:=gH h;obtain⟨b,hb,rfl⟩:=nD h2
 grind
theorem Ec {x y z:Operand} {vs:List V} (h:d_ F [x,y,z]=some vs):∃a b c,ev F x=some a/\ev F y=some b/\ev F z=some c/\vs=[a,b,c]:=by
 obtain⟨a,az,ha,h2,rfl⟩:=gH h;obtain⟨b,c,hb,hc,rfl⟩:=qL h2
 grind
theorem IJ {l m:List Operand} {vs:List V} (h:d_ F (l++m)=some vs):∃az bs,d_ F l=some az/\d_ F m=some bs/\vs=az++bs:=by
 induction l generalizing vs with
 | nil=>exact⟨[],vs,rfl,h,rfl⟩
 | cons x l ih=>
  obtain⟨a,az,ha,h2,rfl⟩:=gH h;obtain⟨b,c,hb,hc,rfl⟩:=ih h2;refine⟨a::b,c,?_,hc,rfl⟩;simp[d_,ha,hb]
theorem Ib {l:List Operand} {vs:List V} (h:d_ F l=some vs):vs.length=l.length:=by
 induction l generalizing vs with
 | nil=>rw[oK h];rfl
 | cons x l ih=>obtain⟨a,az,_,h2,rfl⟩:=gH h;grind
def Bb (E:Env) (N:Nat->FuncId) (F:Frame) (op:Op) (vs:List V):K->Prop
 | .p p=>bX op=.pure/\∀v,aq N p vs=some v->aO E F op=some v
 | .r r=>bX op=.read/\∀H v,dB H r vs=some v->cK E F H op=some v
 | .a a=>bX op=.alloc/\∀x,gL a vs=some x->dz E F op=some x
 | .l l=>bX op=.loud/\∀H x,eA H l vs=some x->bR E F H op=some x
 | .e _=>False
 | .c=>bX op=.call/\∃f az,vs=f::az/\iP F op=(match f with|.clo g a b=>some (.fn g,a++az++b)|.yld id=>some (.yld id,az)|_=>none)
theorem Ej (place:Nat->Option (Nat×Nat)):∀(ps:List (Nat×Operand)) (q:List (Nat×Nat)) (vs:List V) (cells cs:List V),(ps.mapM λ(x:Nat×Operand)=>place x.1)=some q ->
 d_ F (ps.map λ(x:Nat×Operand)=>x.2)=some vs->jt cells q vs=some cs->∃ws,kJ F ps=some ws/\sw place cells ws=some cs:=by
 intro ps
 induction ps with
 | nil=>
  intro q vs cells cs hq hv h;simp  at hq;subst hq;have:=oK (by simpa using hv);subst this
  simp[jt]at h;subst h;exact⟨[],rfl,rfl⟩
 | cons p ps ih=>
  intro q vs cells cs hq hv h;obtain⟨i,x⟩:=p;simp only[List.mapM_cons,Option.pure_def,Option.bind_eq_bind,ζg,ζa]at hq;obtain⟨pl,hpl,q',hq',rfl⟩:=hq;obtain⟨a,az,ha,hv',rfl⟩:=gH (by simpa using hv)
  simp only[jt]at h;split at h
  .simp_all
  .obtain⟨ws,h1,h2⟩:=ih q' az _ cs hq' hv' h;refine⟨(i,a)::ws,by simp[kJ,ha,h1],?_⟩
   simp[sw,hpl]
   grind
theorem KK:∀(ps:List (Nat×Operand)) (vs:List V),d_ F (ps.map λ(x:Nat×Operand)=>x.2)=some vs->kJ F ps=some ((ps.map λ(x:Nat×Operand)=>x.1).zip vs):=by
 intro ps
 induction ps with
 | nil=>simp[kJ]
 | cons p ps ih=>
  intro vs hv;obtain⟨a,az,ha,hv',rfl⟩:=gH (by simpa using hv)
  simp[kJ,ha,ih az hv']
theorem ED {lo hi:Option Operand} {vs:List V} {l h:Option Int} (hv:d_ F (lo.toList++hi.toList)=some vs) (hb:kM lo.isSome hi.isSome vs=some (l,h)):iN F lo=some l/\iN F hi=some h:=by
 cases lo with
 | none=>
  cases hi with
  | none=>
   have:=oK (by simpa using hv);subst this;obtain⟨rfl,rfl⟩:=hb;exact⟨rfl,rfl⟩
  | some y=>
   obtain⟨b,hb',rfl⟩:=nD (by simpa using hv)
   cases b <;> simp[kM]at hb;obtain⟨rfl,rfl⟩:=hb;simp[iN,hb']
 | some x=>
  cases hi with
  | none=>
   obtain⟨b,hb',rfl⟩:=nD (by simpa using hv)
   cases b <;> simp[kM]at hb;obtain⟨rfl,rfl⟩:=hb;simp[iN,hb']
  | some y=>
   obtain⟨a,b,ha,hb',rfl⟩:=qL (by simpa using hv)
   cases a <;> cases b <;> simp[kM]at hb;obtain⟨rfl,rfl⟩:=hb;simp[iN,ha,hb']
theorem yF {t:TypeId} {kk:vL} {k:V} (h:Ba E t=some kk) (hk:n9 kk k=true):vn E t k=true:=by
 unfold Ba at h;unfold vn
 cases hki:E.cz t with
 | none=>grind
 | some tk=>
  rw[hki]at h;have gen:(E.eqN t).map vL.ints=some kk->∃n cs,E.eqN t=some n/\k=.agg cs/\(cs.length==n&&(gj cs).isSome)=true:=by
   intro h;simp  at h;obtain⟨n,hn,rfl⟩:=h;cases k <;> simp[n9]at hk <;> first|grind|grind
  cases tk with
  | int ik=>
   simp  at h;subst h;cases k <;> simp[n9]at hk
   grind
  | str=>
   simp  at h;subst h;cases k <;> simp[n9]at hk;rfl
  | _=>
   obtain⟨n,cs,h1,rfl,h2⟩:=gen h;simp_all
theorem jo (hN:∀f s,nm f=some s->N s=f) {op:Op} {k:K} {os:List Operand} {vs:List V} (h:resolve E nm op=some (k,os)) (hv:d_ F os=some vs):Bb E N F op vs k:=by
 cases op with
 | move x=>
  obtain⟨rfl,rfl⟩:=h;obtain⟨a,ha,rfl⟩:=nD hv;exact⟨rfl,λv hp=>by simpa [aq,aO,ha]using hp⟩
 | assign x=>
  obtain⟨rfl,rfl⟩:=h;obtain⟨a,ha,rfl⟩:=nD hv;exact⟨rfl,λv hp=>by simpa [aq,aO,ha]using hp⟩
 | pick c a b=>
  simp[resolve]at h;obtain⟨rfl,rfl⟩:=h;obtain⟨x,y,z,hx,hy,hz,rfl⟩:=Ec hv;refine⟨rfl,λv hp=>?_⟩
  cases x <;> simp[aq]at hp;rename_i t;subst hp;cases t <;> simp[aO,hx,hy,hz]
 | nilCheck x=>
  simp[resolve]at h;obtain⟨rfl,rfl⟩:=h;obtain⟨a,ha,rfl⟩:=nD hv;refine⟨rfl,λv hp=>?_⟩
  cases a <;> simp[aq,II]at hp <;> subst hp <;> simp[aO,ha]
 | binOp bop t x y yt=>
  simp only[resolve,ζa,ζc]at h;obtain⟨rfl,rfl⟩:=h;obtain⟨a,b,ha,hb,rfl⟩:=qL hv;exact⟨rfl,λv hp=>by simp only[aO,ha,hb,Pq];exact hp⟩
 | unOp u t x=>
  cases u with
  | not=>
   simp only[resolve,ζa,ζc]at h;obtain⟨rfl,rfl⟩:=h;obtain⟨a,ha,rfl⟩:=nD hv;refine⟨rfl,λv hp=>?_⟩
   cases a <;> simp[aq]at hp;subst hp;simp[aO,ha]
  | neg=>
   simp only[resolve,ζa,ζc]at h;obtain⟨rfl,rfl⟩:=h;obtain⟨a,ha,rfl⟩:=nD hv;refine⟨rfl,λv hp=>?_⟩
   cases a <;> simp[aq]at hp;subst hp;simp[aO,ha]
  | _=>simp[resolve]at h
 | convert s d x=>
  simp only[resolve]at h;split at h
  .rename_i sd td hs hd;split at h
   .rename_i k hk;simp only[ζa,ζc]at h;obtain⟨rfl,rfl⟩:=h;obtain⟨a,ha,rfl⟩:=nD hv;refine⟨rfl,λv hp=>?_⟩
    cases a <;> simp[aq]at hp;subst hp;simp[aO,ha,hs,hd,hk]
   .simp at h
  .simp at h
 | fieldAddr s x f=>
  simp only[resolve]at h;split at h
  .rename_i fs hk;split at h
   .rename_i off t hf;split at h
    .rename_i d hd;split at h
     .simp at h
     .rename_i hz;simp only[ζa,ζc]at h;obtain⟨rfl,rfl⟩:=h;obtain⟨a,ha,rfl⟩:=nD hv;refine⟨rfl,λv hp=>?_⟩
      simp only[aO,ha,hk,hf,hd,if_neg hz];simp only[aq,fK]at hp;cases a <;> simp at hp ⊢ <;> exact hp
    .simp at h
   .simp at h
  .simp at h
 | field s x f=>
  simp only[resolve]at h;split at h
  .rename_i fs hk;split at h
   .rename_i off t hf;split at h
    .rename_i d hd;simp only[ζa,ζc]at h;obtain⟨rfl,rfl⟩:=h;obtain⟨a,ha,rfl⟩:=nD hv;refine⟨rfl,λv hp=>?_⟩
     cases a <;> simp only[aq]at hp <;> first|(simp only[aO,ha,hk,hf,hd];exact hp)|simp at hp
    .simp at h
   .simp at h
  .simp at h
 | indexAddr t x i=>
  simp only[resolve]at h;split at h
  .rename_i e hk;simp only[ζf,ζc]at h;obtain⟨d,hd,rfl,rfl⟩:=h;obtain⟨a,b,ha,hb,rfl⟩:=qL hv;refine⟨rfl,λv hp=>?_⟩
   cases b <;> simp only[aq]at hp <;> first|simp at hp;done|skip
   simp only[aO,ha,hb,hk,hd];unfold j7 at hp;exact hp
  .rename_i len e hk;simp only[ζf,ζc]at h;obtain⟨d,hd,rfl,rfl⟩:=h;obtain⟨a,b,ha,hb,rfl⟩:=qL hv;refine⟨rfl,λv hp=>?_⟩
   cases b <;> simp only[aq]at hp <;> first|simp at hp;done|skip
   simp only[aO,ha,hb,hk,hd];unfold uT at hp;exact hp
  .simp at h
 | index t x i=>
  simp only[resolve]at h;split at h
  .rename_i hk;simp only[ζa,ζc]at h;obtain⟨rfl,rfl⟩:=h;obtain⟨a,b,ha,hb,rfl⟩:=qL hv;refine⟨rfl,λv hp=>?_⟩
   cases a <;> cases b <;> simp only[aq]at hp <;> first|simp at hp;done|skip
   simp only[aO,ha,hb,hk];exact hp
  .rename_i len e hk;simp only[ζf,ζc]at h;obtain⟨d,hd,rfl,rfl⟩:=h;obtain⟨a,b,ha,hb,rfl⟩:=qL hv;refine⟨rfl,λv hp=>?_⟩
   cases a <;> cases b <;> simp only[aq]at hp <;> first|simp at hp;done|skip
   simp only[aO,ha,hb,hk,hd];exact hp
  .simp at h
 | slice t x lo hi mx=>
  simp only[resolve]at h;split at h
  .rename_i hk;simp only[ζa,ζc]at h;obtain⟨rfl,rfl⟩:=h;obtain⟨a,bs,ha,hb,rfl⟩:=gH hv;refine⟨rfl,λv hp=>?_⟩
   cases a <;> simp only[aq]at hp <;> first|simp at hp;done|skip
   obtain⟨⟨l,h⟩,hbn,hp⟩:=ζg.1 hp;obtain⟨h1,h2⟩:=ED hb hbn;have hm:iN F none=some none:=rfl;simp only[aO,ha,hk,h1,h2,hm];exact hp
  .rename_i e hk;simp only[ζf,ζc]at h;obtain⟨d,hd,rfl,rfl⟩:=h;obtain⟨a,bs,ha,hb,rfl⟩:=gH hv;refine⟨rfl,λv hp=>?_⟩
   simp only[aq]at hp;obtain⟨⟨l,h⟩,hbn,hp⟩:=ζg.1 hp;obtain⟨h1,h2⟩:=ED hb hbn;have hm:iN F none=some none:=rfl;simp only[aO,ha,hk,h1,h2,hm,hd];cases a <;> exact hp
  .rename_i e m hk;split at h
   .rename_i d hh hd;simp only[ζa,ζc]at h;obtain⟨rfl,rfl⟩:=h;obtain⟨a,b,c,ha,hb,hc,rfl⟩:=Ec hv;refine⟨rfl,λv hp=>?_⟩
    cases b <;> cases c <;> simp only[aq]at hp <;> first|simp at hp;done|skip
    rename_i k1 n1 k2 n2;split at hp
    .rename_i hcnd;simp only[ζh,beq_iff_eq]at hcnd;obtain⟨⟨h1,rfl⟩,rfl⟩:=hcnd;have m1:iN F none=some none:=rfl;have m2:iN F (some hh)=some (some 0):=by simp[iN,hb]
     have m3:iN F (some m)=some (some 0):=by simp[iN,hc]
     simp only[aO,ha,hk,m1,m2,m3,hd];cases a <;> simp[IU]at h1 <;> exact hp
    .simp at hp
   .simp at h
  .simp at h
 | build t ps=>
  simp only[resolve]at h;split at h
  .rename_i d hd;split at h
   .rename_i fs hk;split at h
    .rename_i pl hpl;simp only[ζf,ζc]at h;obtain⟨q,hq,rfl,rfl⟩:=h;refine⟨rfl,λv hp=>?_⟩
     simp only[aq,ζf]at hp;obtain⟨cs,hcs,rfl⟩:=hp;obtain⟨ws,w1,w2⟩:=Ej (λi=>pl[i]?) _ q vs _ cs hq hv hcs
     simp only[aO,hd,w1,hk,hpl,w2,Option.map_some]
    .simp at h
   .rename_i len e hk;simp only[ζf,ζc]at h;obtain⟨de,hde,rfl,rfl⟩:=h;refine⟨rfl,λv hp=>?_⟩
    simp only[aq,ζf]at hp;obtain⟨cs,hcs,rfl⟩:=hp;obtain⟨ws,w1,w2⟩:=Ej (λi=>some (i*de.size,de.size)) ps.toList (ps.toList.map λq=>(q.1*de.size,de.size)) vs _ cs (by
     generalize ps.toList=l
     induction l with
     | nil=>rfl
     | cons x l ih=>simp[List.mapM_cons,ih]) hv hcs
    simp only[aO,hd,w1,hk,hde,w2,Option.map_some]
   .simp at h
  .simp at h
 | makeFunc f a b=>
  cases f with
  | func f=>
   simp only[resolve,ζf,ζc]at h;obtain⟨s,hs,rfl,rfl⟩:=h;obtain⟨az,bs,ha,hb,rfl⟩:=IJ hv;refine⟨rfl,λv hp=>?_⟩
   simp only[aq,ζa]at hp;subst hp;simp only[aO,ha,hb,hN f s hs];rw[<-Ib ha];simp
  | _=>simp[resolve]at h
 | extract x i=>
  simp only[resolve,ζa,ζc]at h;obtain⟨rfl,rfl⟩:=h;obtain⟨a,ha,rfl⟩:=nD hv;refine⟨rfl,λv hp=>?_⟩
  cases a <;> simp only[aq]at hp <;> first|simp at hp;done|skip
  simp only[aO,ha];exact hp
 | load t x=>
  simp only[resolve,ζf,ζc]at h;obtain⟨d,hd,rfl,rfl⟩:=h;obtain⟨a,ha,rfl⟩:=nD hv;exact⟨rfl,λH v hp=>by simp only[cK,hd,ha];exact hp⟩
 | lookup t m k ok=>
  simp only[resolve]at h;split at h
  .rename_i kt et hk;split at h
   .rename_i d kk hd hkk;simp only[ζf,ζc]at h;obtain⟨z,hz,rfl,rfl⟩:=h;obtain⟨a,b,ha,hb,rfl⟩:=qL hv;refine⟨rfl,λH v hp=>?_⟩
    simp only[dB]at hp;split at hp
    .rename_i kvs hkv;split at hp
     .rename_i hko;simp only[cK,hk,ha,hb,hd,hkv,yF hkk hko,if_true,hz];split at hp
      .rename_i hf;rw[hf];exact hp
      .rename_i hf;rw[hf];exact hp
      .simp at hp
     .simp at hp
    .simp at hp
   .simp at h
  .simp at h
 | alloc t=>
  simp only[resolve,ζf,ζc]at h;obtain⟨d,hd,rfl,rfl⟩:=h;have:=oK hv;subst this;exact⟨rfl,λx hp=>by simpa [gL,dz,hd]using hp⟩
 | box t x=>
  simp only[resolve,ζa,ζc]at h;obtain⟨rfl,rfl⟩:=h;obtain⟨a,ha,rfl⟩:=nD hv;exact⟨rfl,λx hp=>by simp only[dz,ha];exact hp⟩
 | makeSlice t l c=>
  simp only[resolve]at h;split at h
  .rename_i e hk;split at h
   .rename_i d hd;split at h
    .rename_i hby;simp only[ζa,ζc]at h;obtain⟨rfl,rfl⟩:=h;obtain⟨a,b,ha,hb,rfl⟩:=qL hv;refine⟨rfl,λx hp=>?_⟩
     cases a <;> cases b <;> simp only[gL]at hp <;> first|simp at hp;done|skip
     rename_i k1 n1 k2 n2;split at hp
     .rename_i hc;simp only[dz,hk,ha,hb,hd];rw[if_pos ⟨hc.1,hc.2.1,hc.2.2.1,hc.2.2.2.1,hc.2.2.2.2,hby⟩];exact hp
     .simp at hp
    .simp at h
   .simp at h
  .simp at h
 | buildSlice t len ps=>
  simp only[resolve]at h;split at h
  .rename_i e hk;split at h
   .rename_i d hd;split at h
    .rename_i hby;simp only[ζa,ζc]at h;obtain⟨rfl,rfl⟩:=h;refine⟨rfl,λx hp=>?_⟩
     have hz:=KK _ _ hv;simp only[gL]at hp;split at hp
     .simp only[dz,hk,hz,hd,if_pos hby];exact hp
     .simp at hp
    .simp at h
   .simp at h
  .simp at h
 | makeMap t r=>
  cases r with
  | none=>
   simp only[resolve,ζa,ζc]at h;obtain⟨rfl,rfl⟩:=h;have:=oK hv;subst this;exact⟨rfl,λx hp=>by simpa [gL,dz]using hp⟩
  | some r=>simp[resolve]at h
 | store t p x=>
  simp only[resolve,ζf,ζc]at h;obtain⟨d,hd,rfl,rfl⟩:=h;obtain⟨a,b,ha,hb,rfl⟩:=qL hv;refine⟨rfl,λH v hp=>?_⟩
  cases a <;> simp only[eA]at hp <;> first|simp at hp;done|skip
  simp only[bR,hd,ha,hb];exact hp
 | mapUpdate t m k x=>
  simp only[resolve]at h;split at h
  .rename_i kt et hk;simp only[ζf,ζc]at h;obtain⟨kk,hkk,rfl,rfl⟩:=h;obtain⟨a,b,c,ha,hb,hc,rfl⟩:=Ec hv;refine⟨rfl,λH v hp=>?_⟩
   cases a <;> simp only[eA]at hp <;> first|simp at hp;done|skip
   simp only[bR,hk,ha,hb,hc];split at hp
   .rename_i kvs hkv;split at hp
    .rename_i hko;rw[hkv];simp only[yF hkk hko,if_true];exact hp
    .simp at hp
   .simp at hp
  .simp at h
 | insert t m k x=>
  simp only[resolve]at h;split at h
  .rename_i kt et hk;simp only[ζf,ζc]at h;obtain⟨kk,hkk,rfl,rfl⟩:=h;obtain⟨a,b,c,ha,hb,hc,rfl⟩:=Ec hv;refine⟨rfl,λH v hp=>?_⟩
   cases a <;> simp only[eA]at hp <;> first|simp at hp;done|skip
   simp only[bR,hk,ha,hb,hc];split at hp
   .rename_i kvs hkv;split at hp
    .rename_i hko;rw[hkv];simp only[yF hkk hko,if_true];exact hp
    .simp at hp
   .simp at hp
  .simp at h
 | call c=>
  obtain⟨callee,args,ats⟩:=c
  cases callee with
  | value f=>
   simp only[resolve,ζa,ζc]at h;obtain⟨rfl,rfl⟩:=h;obtain⟨a,az,ha,has,rfl⟩:=gH hv;refine⟨rfl,a,az,rfl,?_⟩;simp only[iP,ha,has];cases a <;> rfl
  | builtin b=>
   cases b with
   | append=>
    simp only[resolve]at h;split at h
    .rename_i t t' s x hats hargs;split at h
     .rename_i e e' hk hk';split at h
      .rename_i d hd;split at h
       .rename_i hby;simp only[ζa,ζc]at h;obtain⟨rfl,rfl⟩:=h;obtain⟨a,b,ha,hb,rfl⟩:=qL hv;refine⟨rfl,λH v hp=>?_⟩
        have hev:d_ F args.toList=some [a,b]:=by rw[hargs];exact hv
        simp only[bR,hats,hev,hk,hk',hd];simp only[eA]at hp;split at hp
        .rename_i h1 h2;rw[h1,h2];exact hp
        .rename_i xs ys hne h1 h2;rw[h1,h2];split at hp
         .rename_i hle;simp only[if_pos (show xs.length+ys.length<=2147483648/\d.bytes<=4096/\0<d.bytes from⟨hle,hby⟩)]
          cases ys with
          | nil=>exact absurd rfl hne
          | cons y ys=>exact hp
         .simp at hp
        .simp at hp
       .simp at h
      .simp at h
     .rename_i e kk hk hk';simp only[ζf,ζc]at h;obtain⟨d,hd,rfl,rfl⟩:=h;obtain⟨a,b,ha,hb,rfl⟩:=qL hv;refine⟨rfl,λH v hp=>?_⟩
      have hev:d_ F args.toList=some [a,b]:=by rw[hargs];exact hv
      simp only[bR,hats,hev,hk,hk',hd];exact hp
     .simp at h
    .simp at h
   | cap=>
    simp only[resolve]at h;split at h
    .rename_i t x hats hargs;split at h
     .rename_i e hk;simp only[ζa,ζc]at h;obtain⟨rfl,rfl⟩:=h;obtain⟨a,ha,rfl⟩:=nD hv;have hev:d_ F args.toList=some [a]:=by rw[hargs];exact hv
      refine⟨rfl,λx hp=>?_⟩
      simp only[aO,hats,hev,hk];simp only[aq]at hp;cases a <;> simp only[LK]at hp <;> first|(simp at hp;done)|exact hp
     .simp at h
    .simp at h
   | clear=>
    simp only[resolve]at h;split at h
    .rename_i t x hats hargs;split at h
     .rename_i e hk;simp only[ζf,ζc]at h;obtain⟨d,hd,rfl,rfl⟩:=h;obtain⟨a,ha,rfl⟩:=nD hv;have hev:d_ F args.toList=some [a]:=by rw[hargs];exact hv
      refine⟨rfl,λH v hp=>?_⟩
      simp only[bR,hats,hev,hk,hd];exact hp
     .simp at h
    .simp at h
   | len=>
    simp only[resolve]at h;split at h
    .rename_i t x hats hargs;split at h
     .rename_i hk;simp only[ζa,ζc]at h;obtain⟨rfl,rfl⟩:=h;obtain⟨a,ha,rfl⟩:=nD hv;have hev:d_ F args.toList=some [a]:=by rw[hargs];exact hv
      refine⟨rfl,λv hp=>?_⟩
      cases a <;> simp only[aq]at hp <;> first|simp at hp;done|skip
      simp only[aO,hev,hats,hk];exact hp
     .rename_i e hk;simp only[ζa,ζc]at h;obtain⟨rfl,rfl⟩:=h;obtain⟨a,ha,rfl⟩:=nD hv;have hev:d_ F args.toList=some [a]:=by rw[hargs];exact hv
      refine⟨rfl,λv hp=>?_⟩
      simp only[aO,hev,hats,hk];simp only[aq,o_]at hp;cases a <;> simp at hp ⊢ <;> exact hp
     .simp at h
    .simp at h
   | max=>
    simp only[resolve]at h;split at h
    .rename_i x y hargs;simp only[ζa,ζc]at h;obtain⟨rfl,rfl⟩:=h;obtain⟨a,b,ha,hb,rfl⟩:=qL hv;have hev:d_ F args.toList=some [a,b]:=by rw[hargs];exact hv
     refine⟨rfl,λv hp=>?_⟩
     cases a <;> cases b <;> simp only[aq]at hp <;> first|simp at hp;done|skip
     simp only[aO,hev];exact hp
    .rename_i x y z t hargs;simp only[ζa,ζc]at h;obtain⟨rfl,rfl⟩:=h;obtain⟨a,as_,ha,h2,rfl⟩:=gH hv;obtain⟨b,c,d,hb,hc,hd,rfl⟩:=Ec h2;have hev:d_ F args.toList=some [a,b,c,d]:=by rw[hargs];exact hv
     refine⟨rfl,λv hp=>?_⟩
     cases a <;> cases b <;> simp only[aq]at hp <;> first|simp at hp;done|skip
     cases c <;> cases d <;> simp only[aq]at hp <;> first|simp at hp;done|skip
     simp only[aO,hev];exact hp
    .simp at h
   | min=>
    simp only[resolve]at h;split at h
    .rename_i x y hargs;simp only[ζa,ζc]at h;obtain⟨rfl,rfl⟩:=h;obtain⟨a,b,ha,hb,rfl⟩:=qL hv;have hev:d_ F args.toList=some [a,b]:=by rw[hargs];exact hv
     refine⟨rfl,λv hp=>?_⟩
     cases a <;> cases b <;> simp only[aq]at hp <;> first|simp at hp;done|skip
     simp only[aO,hev];exact hp
    .simp at h
   | _=>simp[resolve]at h
  | _=>simp[resolve]at h
 | panic x=>
  simp only[resolve,ζa,ζc]at h;obtain⟨rfl,rfl⟩:=h;have:=oK hv;subst this;exact⟨rfl,λx hp=>by simp[aq]at hp⟩
 | makeInterface t x=>
  simp only[resolve,ζa,ζc]at h;obtain⟨rfl,rfl⟩:=h;have:=oK hv;subst this;exact⟨rfl,λx hp=>by simp[aq]at hp⟩
 | _=>simp[resolve]at h
end
end Go.VE
namespace Go.VE
variable [aW]
def xZ (c c':cu):Prop:=∀x a H r,c x a H=some r->c' x a H=some r
section
variable {E:Env} {c c':cu} {n:Nat} {ops:List Oper} {F F':Frame} {H H':ak}
theorem q9 (h:xZ c c') {f:FuncId} {args:List V} {y:V} (hi:bG c f args H=some y):bG c' f args H=some y:=by
 unfold bG at hi ⊢;split at hi
 .split at hi
  .rename_i hc;rw[h _ _ _ _ hc];exact hi
  .simp at hi
 .simp at hi
theorem Fv (h:xZ c c') {f:FuncId} {args:List V} {r:V×ak} (hi:kP c f args H=some r):kP c' f args H=some r:=by
 unfold kP at hi ⊢;split at hi
 .split at hi
  .rename_i hc;rw[h _ _ _ _ hc];exact hi
  .simp at hi
 .simp at hi
theorem yD (h:xZ c c') {f:FuncId} {args:List V} {r:V×ak} (hi:eH E c f args H=some r):eH E c' f args H=some r:=by
 unfold eH at hi ⊢;split
 .rename_i ho;rw[if_pos ho]at hi;exact Fv h hi
 .rename_i ho;rw[if_neg ho]at hi;exact h _ _ _ _ hi
theorem yQ {f:FuncId} {args:List V} {y y':V} {b:Nat} (h1:bG c f args (H.take b)=none) (h2:bG c f args H=some y) (h3:bG c' f args (H.take b)=some y'):False:=by
 unfold bG at h1 h2 h3;split at h3
 .rename_i az has;have hb:borrows 8 H args=some az:=kZ (z6 8) has;rw[hb]at h2;rw[has]at h1;simp only at h1 h2;rw[h1]at h2;simp at h2
 .simp at h3
theorem JC (h:xZ c c') {place:Option (Nat×Nat)} {op:Op} {r:V×ak} (hi:cg E c ops place F H op=some r):cg E c' ops place F H op=some r:=by
 unfold cg at hi ⊢;split at hi
 .exact hi
 .exact hi
 .exact hi
 .exact hi
 .split at hi
  .rename_i f args hca;split at hi
   .rename_i hk;rw[if_pos hk];split at hi
    .exact yD h hi
    .skip
     split at hi
     .rename_i hl;rw[if_pos hl];exact yD h hi
     .simp at hi
   .rename_i hk;rw[if_neg hk];split at hi
    .skip
     split at hi
     .rename_i y hy;rw[q9 h hy];exact hi
     .simp at hi
    .rename_i b i
     skip
     split at hi
     .rename_i y hy;rw[q9 h hy];exact hi
     .rename_i hnone;split at hi
      .rename_i hl;split at hi
       .rename_i y hy
        cases h3:bG c' f args (List.take b H)with
        | some y'=>exact(yQ hnone hy h3).elim
        | none=>simp only[if_pos hl,q9 h hy];exact hi
       .simp at hi
      .simp at hi
  .rename_i id args hca;split at hi
   .exact h _ _ _ _ hi
   .skip
    split at hi
    .rename_i hl;rw[if_pos hl];exact h _ _ _ _ hi
    .simp at hi
  .simp at hi
theorem BP (h:xZ c c') {place:Option (Nat×Nat)} {o:Oper} {r:Frame×ak} (hi:eW E c n ops place o F H=some r):eW E c' n ops place o F H=some r:=by
 unfold eW at hi ⊢;split at hi
 .rename_i hw;rw[if_pos hw];split at hi
  .rename_i v H1 hd;rw[JC h hd];exact hi
  .simp at hi
 .rename_i hw;rw[if_neg hw];exact hi
theorem zP (h:xZ c c') {r:Frame×ak}:∀(l:List Oper) {F:Frame} {H:ak},kC E c n ops l F H=some r->kC E c' n ops l F H=some r
 | [],_,_,hi=>hi
 | o::l,F,H,hi=>by
  simp only[kC]at hi ⊢;split at hi
  .rename_i F1 H1 hs;rw[BP h hs];exact zP h l hi
  .simp at hi
theorem zI (h:xZ c c') {base:Nat} {r:Frame×ak}:∀(l:List Nat) {F:Frame} {H:ak},iM E c n ops base l F H=some r->iM E c' n ops base l F H=some r
 | [],_,_,hi=>hi
 | i::l,F,H,hi=>by
  simp only[iM]at hi ⊢;split at hi
  .split at hi
   .rename_i F1 H1 hs;rw[BP h hs];exact zI h l hi
   .simp at hi
  .simp at hi
theorem Cy (h:xZ c c') {draw:Bool} {r:Frame×ak} (hi:iB E c n ops draw F H=some r):iB E c' n ops draw F H=some r:=by
 unfold iB at hi ⊢;split
 .rename_i hd;rw[if_pos hd]at hi;split at hi
  .rename_i hok;rw[if_pos hok];exact zI h _ hi
  .simp at hi
 .rename_i hd;rw[if_neg hd]at hi;exact zP h _ hi
theorem wG {s s':Frame->ak->Option (Out×Frame×ak)} (h:∀F H r,s F H=some r->s' F H=some r):∀(k k':Nat),k<=k'->∀{F H r},js s k F H=some r->js s' k' F H=some r
 | 0,_,_,F,H,r,hi=>by simp[js]at hi
 | k+1,0,hk,F,H,r,hi=>by omega
 | k+1,k'+1,hk,F,H,r,hi=>by
  simp only[js]at hi ⊢;split at hi
  .rename_i F1 H1 hs;rw[h _ _ _ hs];exact wG h k k' (by omega) hi
  .rename_i hne;rw[h _ _ _ hi];split
   .rename_i F1 H1 heq;cases heq;exact absurd hi (hne _ _)
   .rfl
theorem yj (h:xZ c c') {lf lf':Nat} (hl:lf<=lf') (ro:Bool) (nt:Nat):∀(code:Code) {F:Frame} {H:ak} {r:Out×Frame×ak},exec E c lf ro nt code F H=some r->exec E c' lf' ro nt code F H=some r:=by
 intro code
 induction code with
 | skip=>intro F H r hi;exact hi
 | label l=>intro F H r hi;exact hi
 | region id ops draw=>
  intro F H r hi;simp only[exec,ζf]at hi ⊢;obtain⟨x,hx,rfl⟩:=hi;exact⟨x,Cy h hx,rfl⟩
 | seq a b iha ihb=>
  intro F H r hi;simp only[exec]at hi ⊢;split at hi
  .rename_i F1 H1 h1;rw[iha h1];exact ihb hi
  .rename_i hne;rw[iha hi];split
   .rename_i heq;cases heq;exact absurd hi (hne _ _)
   .rfl
 | cond x a b iha ihb=>
  intro F H r hi;simp only[exec]at hi ⊢;split at hi
  .rename_i t ht;split at hi
   .rename_i htt;subst htt;simp only[if_true];exact iha hi
   .rename_i htt;rw[if_neg htt];exact ihb hi
  .simp at hi
 | block id a ih=>
  intro F H r hi;simp only[exec]at hi ⊢;split at hi
  .rename_i id' F1 H1 h1;rw[ih h1];exact hi
  .rename_i hne;rw[ih hi];split
   .rename_i heq;cases heq;exact absurd hi (hne _ _ _)
   .rfl
 | loop a ih=>
  intro F H r hi;simp only[exec]at hi ⊢;exact wG (λF H r hr=>ih hr) lf lf' hl hi
 | rangeFunc g ps aw bw _ _=>
  intro F H r hi;simp only[exec]at hi ⊢;split at hi
  .split at hi
   .rename_i res H1 hc;rw[h _ _ _ _ hc];exact hi
   .simp at hi
  .simp at hi
 | exit id=>intro F H r hi;exact hi
 | ret=>intro F H r hi;exact hi
 | scope a _=>intro F H r hi;simp[exec]at hi
 | goto l=>intro F H r hi;simp[exec]at hi
 | refuse w=>intro F H r hi;simp[exec]at hi
theorem Lx (E:Env):∀n,xZ (run E n) (run E (n+1)):=by
 intro n
 induction n with
 | zero=>intro x a H r h;simp[run]at h
 | succ n ih=>
  intro x a H r h
  cases x with
  | fn f=>
   rw[run]at h ⊢;split at h
   .rename_i fi hfi;split at h
    .rename_i hle;rw[if_pos hle];split at h
     .simp at h
     .rename_i o F1 H1 hne hx;rw[yj ih (Nat.le_succ n) _ _ _ hx]
      cases o with
      | exit id=>exact(hne id rfl).elim
      | norm=>exact h
      | ret=>exact h
     .simp at h
    .simp at h
   .split at h
    .rename_i hs;rw[if_pos hs];exact AN (λg args y _ hy=>q9 ih hy) h
    .rename_i hs;rw[if_neg hs];exact h
  | yld id=>
   rw[run]at h ⊢;split at h
   .rename_i rec hrec;split at h
    .rename_i hst;split at h
     .rename_i hlen;split at h
      .rename_i F2 H2 hx1;split at h
       .rename_i r2 hr2;split at h
        .rename_i hst2;split at h
         .rename_i o F4 H4 hx2;simp only[if_pos hlen,yj ih (Nat.le_succ n) _ _ _ hx1,hr2,hst2,yj ih (Nat.le_succ n) _ _ _ hx2];exact h
         .simp at h
        .simp at h
       .simp at h
      .simp at h
     .simp at h
    .simp at h
   .simp at h
theorem sP (E:Env) {n m:Nat} (h:n<=m):xZ (run E n) (run E m):=by
 induction h with
 | refl=>exact λ_ _ _ _ h=>h
 | step _ ih=>exact λx a H r h=>Lx E _ x a H r (ih x a H r h)
end
end Go.VE
namespace Go.VE
variable [aW]
def Ii (P:Program) (f:FuncId):Option FI:=(P.funcs[f]?).bind λfn=>fn.body.map λb=>⟨fn.ntmps,fn.results.toList,b⟩
def zc (P:Program):Bool:=P.funcs.toList.all λfn => !(fn.name == "runtime.NumGoroutine")
theorem OE {P:Program} (h:zc P=true) {f:FuncId} {fi:FI} (hf:Ii P f=some fi):∃fn,P.funcs[f]? = some fn/\fn.body=some fi.body/\fn.ntmps=fi.ntmps/\fn.results.toList=fi.results/\(fn.name == "runtime.NumGoroutine")=false:=by
 unfold Ii at hf;obtain⟨fn,h1,h2⟩:=ζg.1 hf;obtain⟨b,h3,rfl⟩:=ζf.1 h2;refine⟨fn,h1,h3,rfl,rfl,?_⟩;unfold zc at h;rw[List.all_eq_true]at h;have h4:=h fn (by
  obtain⟨hlt,rfl⟩:=Array.getElem?_eq_some_iff.1 h1;exact Array.mem_toList_iff.2 (Array.getElem_mem hlt))
 simpa using h4
def Bx (P:Program) (shut keep own:List Nat) (two:List (Nat×Nat)) (srt:FuncId->Bool) (known:FuncId->List V->Option V):Env where
 tt:=ri P
 ft f:=if shut.contains f then none else Ii P f
 keep:=keep.contains
 own:=own.contains
 eqN t:=lk two t
 sort:=srt
 known:=known
theorem ES {P:Program} {shut keep own:List Nat} {two:List (Nat×Nat)} {srt:FuncId->Bool} {known:FuncId->List V->Option V} (h:zc P=true) (h2:∀p∈two,rY P p.1 p.2):dh P (Bx P shut keep own two srt known) where
 tt t d h:=h
 ft f fi hf:=by
  change (if shut.contains f then none else Ii P f)=some fi at hf;split at hf
  .cases hf
  .exact OE h hf
 eqN t n hn:=h2 (t,n) (Kb hn)
end Go.VE
namespace Go.VE
variable [aW]
def zp:List (List V)->Option (List Int)
 | []=>some []
 | [.int .i64 n]::r=>(zp r).map (n::·)
 | _=>none
def DI (n:Nat) (l:List Int):List Int:=l.take n++List.replicate (n-l.length) 0
def BT (n:Nat) (l:List Int):List V:=(DI n l).map (V.int .i64)
def vG (n:Nat):List V->Option V
 | [.aR]=>some (.agg (BT n []))
 | [.ck]=>some (.agg (BT n []))
 | [.fsl 1 xs]=>(zp xs).map λl=>.agg (BT n l)
 | _=>none
theorem z7:∀{xs:List (List V)} {l:List Int},zp xs=some l->l.length=xs.length/\∀(i:Nat) (k:Int),l[i]? = some k->xs[i]? = some [V.int .i64 k]
 | [],l,h=>by cases h;grind
 | x::xs,l,h=>by
  unfold zp at h;split at h
  .grind
  .rename_i n r heq;obtain⟨rfl,rfl⟩:=heq;obtain⟨l',h1,rfl⟩:=ζf.1 h;obtain⟨h2,h3⟩:=z7 h1
   grind
  simp_all
structure Rm (w:World) (v:Value) (l:List Int):Prop where
 at_:∃a cap,v=.slice a l.length cap/\(a=none->l=[])/\∀ad,a=some ad->l=[]\/∃c el fr,ad.spot=none/\w.heap[ad.block]? = some (.cells c el fr)/\ad.off+l.length<=c.size/\(c.toList.drop ad.off).take l.length=l.map (Value.int .i64)
section
variable {P:Program} {I:bl} {μ:Mu} {H:ak} {w:World} {n:Nat}
theorem RM (s:bO I μ H w) {x:V} {v:Value} {y:V} (hv:aJ I μ x v) (hy:vG n [x]=some y):∃l,Rm w v l/\y=.agg (BT n l):=by
 have hc  := by
  cases hv with
  | c _ _ h=>omega
  | _=>simp[vG]at hy
 unfold vG at hy;split at hy
 .rename_i heq;obtain⟨rfl,_⟩:=heq;cases hc;cases hy;exact⟨[],⟨⟨none,0,rfl,λ_=>rfl,λad h=>by cases h⟩⟩,rfl⟩
 .rename_i heq;obtain⟨rfl,_⟩:=heq;cases hc;cases hy;exact⟨[],⟨⟨_,0,rfl,λ_=>rfl,λad h=>.inl rfl⟩⟩,rfl⟩
 .rename_i xs heq;obtain⟨rfl,_⟩:=heq;obtain⟨l,hl,rfl⟩:=ζf.1 hy;obtain⟨h1,h2⟩:=z7 hl;refine⟨l,?_,rfl⟩
  cases hc with
  | fsl0 _ a cap=>
   have  := List.length_eq_zero_iff.1 h1;subst this;exact⟨⟨_,cap,rfl,λ_=>rfl,λad h=>.inl rfl⟩⟩
  | fsl _ _ b o cap c hI hcap hu ho hb hr=>
   refine⟨⟨_,cap,(by rw[h1]),(λh=>by cases h),λad had=>.inr ?_⟩⟩
   cases had;obtain⟨el,fr,hh⟩:=s.imm b _ hI;refine⟨c,el,fr,rfl,hh,by grind,?_⟩
   refine List.ext_getElem? λi=>?_
   rw[List.getElem?_take,List.getElem?_map]
   by_cases hi:i<l.length
   .have hx:=h2 i _ (ζd hi);have hlt:o+i<c.size:=by grind
    have hc':c[o+i*1+0]? = some c[o+i]:=by simp[hlt]
    have:=hr i 0 _ _ _ hx rfl hc';have e:c[o+i]=.int .i64 l[i]:=by
     generalize c[o+i]=q at this ⊢;cases this;rfl
    grind
   grind
 simp_all
theorem Mf {v:Value} {l:List Int} (h:Rm w v l) {w':World} (hk:∀b,b<w.heap.size->w'.heap[b]? = w.heap[b]?) (n:Nat) :
 (Builtin.lenOf v).run P w'=.ok l.length w'/\(Builtin.firstCells 1 (Nat.min l.length n) v).run P w'=.ok ((l.take n).map (Value.int .i64)).toArray w':=by
 obtain⟨a,cap,rfl,h0,h1⟩:=h.at_;refine⟨by simp[Builtin.lenOf],?_⟩
 cases a with
 | none=>rw[h0 rfl];simp[Builtin.firstCells]
 | some ad=>
  rcases h1 ad rfl with rfl|⟨c,el,fr,hs,hc,hle,hd⟩
  .simp[Builtin.firstCells,loadCells,loadCellsFrom]
  .obtain⟨b,o,sp⟩:=ad;simp only at hs hc hle hd;subst hs;have hb  := (Array.getElem?_eq_some_iff.1 hc).1;have hcell  := oL (by rw[hk b hb];omega)
   have hm:Nat.min l.length n<=l.length:=Nat.min_le_left _ _;simp[Builtin.firstCells];rw[tX hcell (.inl (by omega))]
   have:(c.toList.drop o).take (Nat.min l.length n)=((c.toList.drop o).take l.length).take n:=by
    rw[List.take_take];congr 1;exact Nat.min_comm _ _
   simp_all
variable {f A S e:Nat} {fn:Func} {bytes i1 i2 i3 i4 t1 t2 t6 t7:Nat} {p1 p2 p3 p4 p5 p6 p7:String} {e1 e2 e3 e4 e5 e6 e7:Array Edge}
theorem we {o:Oper} {a:Act} {w w':World} {K:Act->World->Prop} {Q:Exit->Act->World->Prop} {v:Value} (hnd:∀c,o.op≠.defer c)
 (h:(execOp a.eval o).run P w=.ok (.value v) w') (hK:K (a.put o.dst v) w'):o.wpIn (fr none) 0 P a w K Q:=by
 refine⟨λ_ _=>trivial,?_⟩
 show o.uponIn (fr none) 0 P a K Q ((o.semAt none a.eval).run P w);rw[Oper.semAt_eq none a.eval o hnd,h,Oper.uponIn_value];omega
theorem QM {o:Oper} {a:Act} {w w':World} {K:Act->World->Prop} {Q:Exit->Act->World->Prop} (hnd:∀c,o.op≠.defer c)
 (h:(execOp a.eval o).run P w=.ok .skip w') (hK:K (a.put o.dst undef) w'):o.wpIn (fr none) 0 P a w K Q:=by
 refine⟨λ_ _=>trivial,?_⟩
 show o.uponIn (fr none) 0 P a K Q ((o.semAt none a.eval).run P w);rw[Oper.semAt_eq none a.eval o hnd,h,Oper.uponIn_skip];omega
theorem Rs {o:Oper} {id:Nat} {a:Act} {w:World} {Q:Exit->Act->World->Prop} (hg:o.guard=none) (h:o.wpIn (fr none) 0 P a w (Q .normal) Q):(Code.region id #[o] false).wpIn (fr none) 0 P Q a w:=by
 refine wpIn_region ?_;simpa [wpOpsIn,Region.wanted,hg]using h
theorem TX {o o2:Oper} {id:Nat} {a:Act} {w:World} {Q:Exit->Act->World->Prop} (hg:o.guard=none) (hg2:o2.guard=none) (h:o.wpIn (fr none) 0 P a w (λa w=>o2.wpIn (fr none) 0 P a w (Q .normal) Q) Q):(Code.region id #[o,o2] false).wpIn (fr none) 0 P Q a w:=by
 refine wpIn_region ?_;show wpOpsIn _ _ _ _ _ [0,1] _ _;simpa [wpOpsIn,Region.wanted,hg,hg2]using h
theorem TR {o o2 o3:Oper} {id:Nat} {a:Act} {w:World} {Q:Exit->Act->World->Prop} (hg:o.guard=none) (hg2:o2.guard=none) (hg3:o3.guard=none)
 (h:o.wpIn (fr none) 0 P a w (λa w=>o2.wpIn (fr none) 0 P a w (λa w=>o3.wpIn (fr none) 0 P a w (Q .normal) Q) Q) Q):(Code.region id #[o,o2,o3] false).wpIn (fr none) 0 P Q a w:=by
 refine wpIn_region ?_;show wpOpsIn _ _ _ _ _ [0,1,2] _ _;simpa [wpOpsIn,Region.wanted,hg,hg2,hg3]using h
theorem O5 (hf:P.funcs[f]? = some fn)
 (hb:fn.body=some (.seq (.region i1 #[⟨some 2,.alloc A,t1,p1,e1,none⟩] false) (.seq (.region i2 #[⟨some 3,.alloc A,t2,p2,e2,none⟩] false)
  (.seq (.region i3 #[⟨some 4,.slice A (.tmp 3) none none none,S,p3,e3,none⟩,⟨some 5,.move (.tmp 0),S,p4,e4,none⟩,⟨some 6,.call { callee:=.builtin .copy,args:=#[.tmp 4,.tmp 5],argTypes:=#[S,S] },t6,p5,e5,none⟩] false)
  (.seq (.region i4 #[⟨some 7,.load A (.tmp 3),A,p6,e6,none⟩,⟨none,.store A (.tmp 2) (.tmp 7),t7,p7,e7,none⟩] false) .ret)))))
 (hnt:fn.ntmps=8) (hr:fn.results=#[.cell 2 A]) (hname:(fn.name == "runtime.NumGoroutine")=false)
 (hA:P.underlying A=some (.array n e)) (hS:P.underlying S=some (.slice e)) (he:ri P e=some ⟨1,8,[.int .i64 0],.int .i64⟩) (htA:ri P A=some ⟨n,bytes,List.replicate n (.int .i64 0),.array n e⟩) :
 ∀args y,vG n args=some y->uf P f args y:=by
 intro args y hy;refine⟨⟨fn,hf,by simp[hb],hname⟩,λI μ H w vs s hv=>?_⟩
 obtain⟨x,rfl⟩:∃x,args=[x]:=by
  match args,hy with
  | [],h=>simp[vG]at h
  | [x],_=>exact⟨x,rfl⟩
  | _::_::_,h=>simp[vG]at h
 obtain⟨v,rfl⟩:=List.length_eq_one_iff.1 (hv.1.symm);obtain⟨l,hsrc,rfl⟩:=RM s (hv.2 0 x v rfl rfl) hy;have tA:=mD.AY htA;have te:=mD.AY he;obtain⟨z,hz,hzr,hzl,hzo⟩:=tA.yh;have hzs:z.cells.size=n:=by have:=(hzr (λ_=>none) (λ_=>none)).1;simp at this;omega
 have key:∀u,aJ (λ_=>none) (λ_=>none) (.int .i64 0) u->u=.int .i64 0:=λu h=>by cases h with|c _ _ h=>cases h;rfl
 have hzi:z.cells.toList=List.replicate n (.int .i64 0):=by
  refine List.ext_getElem? λi=>?_
  by_cases hi:i<n
  .have h2:=(hzr (λ_=>none) (λ_=>none)).2 i (.int .i64 0) (z.cells[i]'(by omega)) (by simp[hi]) (by simp)
   rw[List.getElem?_replicate,if_pos hi];have  := key _ h2;simp[this,hzs,hi]
  .rw[List.getElem?_eq_none (by simp;omega),List.getElem?_eq_none (by simp;omega)]
 have halloc:∀w,(Instr.alloc A true (.tuple #[])).run P w=.ok (.pointer (some ⟨w.heap.size,0,none⟩)) (w.alloc (.cells z.cells A)):=by
  intro w;unfold Instr.alloc;simp[Sem.run_bind,hz,Result.andThen_ok,Ct,Sem.run_pure]
 have hsz1:(w.alloc (.cells z.cells A)).heap.size=w.heap.size+1:=by simp
 generalize hw2:(w.alloc (.cells z.cells A)).alloc (.cells z.cells A)=w2;have hsz2:w2.heap.size=w.heap.size+2:=by subst hw2;simp
 have hk2:∀b,b<w.heap.size->w2.heap[b]? = w.heap[b]? := by
  intro b hb;subst hw2;rw[iu _ _ (by omega),iu _ _ hb]
 have hB1:w2.heap[w.heap.size]? = some (.cells z.cells A):=by subst hw2;rw[iu _ _ (by omega),jA]
 have hB2:w2.heap[w.heap.size+1]? = some (.cells z.cells A):=by subst hw2;rw[<-hsz1,jA]
 have hrest:w2.os=w.os/\w2.output=w.output/\w2.tape=w.tape/\w2.drawn=w.drawn:=by subst hw2;exact⟨rfl,rfl,rfl,rfl⟩
 have hr2:∀a,(Instr.sliceAt A (.pointer (some a)) none none none).run P w2=.ok (.slice (some (if n=0 then a else a.add 0)) n n) w2:=by
  intro a;unfold Instr.sliceAt;simp[VE.ct hA,Instr.sureAddr,Instr.sliceBounds,te.gn]
 have hn0:(if n=0 then ⟨w.heap.size+1,0,none⟩else(⟨w.heap.size+1,0,none⟩:Addr).add 0)=⟨w.heap.size+1,0,none⟩:=by split <;> rfl
 obtain⟨hlen,hfirst⟩:=Mf (P:=P) hsrc hk2 n;have hml:∀(vs:List Value) c,(∀v∈vs,∃k,v=.int c k)->∀v∈vs,v.oneCell'=true:=λvs c h v hv=>by obtain⟨k,rfl⟩:=h v hv;rfl
 obtain⟨c3,hst3,hc3⟩:=mR  (o:=0) ((l.take n).map (Value.int .i64)) 0 w2 z.cells hB2 (hml _ .i64 (by intro v hv;obtain⟨k,_,rfl⟩:=List.mem_map.1 hv;exact⟨k,rfl⟩)) (by simp[hzs];omega)
 generalize hw3:dX w2 (w.heap.size+1) (.cells c3 A)=w3 at hst3;have hcopy:(Builtin.copy_ #[S,S] t6 #[.slice (some ⟨w.heap.size+1,0,none⟩) n n,v]).run P w2=.ok (goInt (Nat.min l.length n)) w3:=by
  unfold Builtin.copy_;simp[VE.ct hS,te.gn,hlen,hfirst];rw[<-List.map_take,hst3];rfl
 have hcop:∀ρ:Operand->Value,ρ (.tmp 4)=.slice (some ⟨w.heap.size+1,0,none⟩) n n->ρ (.tmp 5)=v ->
  (execOp ρ ⟨some 6,.call { callee:=.builtin .copy,args:=#[.tmp 4,.tmp 5],argTypes:=#[S,S] },t6,p5,e5,none⟩).run P w2=.ok (.value (goInt (Nat.min l.length n))) w3:=by
  intro ρ h4 h5;simp only[execOp,Go.resolve,Sem.run_bind,Sem.run_pure,Result.andThen_ok,invoke,builtin];have:#[Operand.tmp 4,Operand.tmp 5].map ρ=#[.slice (some ⟨w.heap.size+1,0,none⟩) n n,v]:=by simp[h4,h5]
  rw[this,hcopy];rfl
 have hc3':c3.toList=(DI n l).map (Value.int .i64):=by
  rw[hc3];simp[DI,hzi];omega
 have hc3s:c3.size=n:=by have:=congrArg List.length hc3;simp[hzs]at this;omega
 have hw3B:w3.heap[w.heap.size+1]? = some (.cells c3 A):=by subst hw3;exact eU _ (by omega)
 have hw3A:w3.heap[w.heap.size]? = some (.cells z.cells A):=by subst hw3;rw[dH _ (by omega)];exact hB1
 have hload:(Instr.loadAt A (.pointer (some ⟨w.heap.size+1,0,none⟩))).run P w3=.ok (.agg c3) w3:=by
  unfold Instr.loadAt loadVar;have:=tX (P:=P)   (o:=0) (m:=n)  (oL hw3B) (.inl (by omega))
  have e:((c3.toList.drop 0).take n).toArray=c3:=by rw[List.drop_zero,List.take_of_length_le (by simp[hc3s])]
  rw[e]at this;have ha:(isAgg A).run P w3=.ok true w3:=tA.Bh;simp[Instr.sureAddr,ha,tA.gn,this]
 obtain⟨c4,hst4,hc4⟩:=mR (P:=P) (o:=0) c3.toList 0 w3 z.cells hw3A (hml _ .i64 (by rw[hc3'];intro v hv;obtain⟨k,_,rfl⟩:=List.mem_map.1 hv;exact⟨k,rfl⟩)) (by simp[hzs,hc3s])
 have hc4':c4=c3:=by
  apply Array.toList_inj.1;rw[hc4];simp[hc3s,hzs]
 subst hc4';generalize hw4:dX w3 w.heap.size (.cells c4 A)=w4 at hst4;have hstore:(Instr.storeAt A (.pointer (some ⟨w.heap.size,0,none⟩)) (.agg c4)).run P w3=.ok () w4:=by
  unfold Instr.storeAt storeVar;simp[Instr.sureAddr,tA.gn,Value.cells,hc3s,hst4]
 have hw4A:w4.heap[w.heap.size]? = some (.cells c4 A):=by subst hw4;exact eU _ (by subst hw3;simp[qu];omega)
 refine callsIn_of_wp_marks hf hb trivial ?_;rw[hnt];have e0:[v].toArray++Array.replicate (8-[v].toArray.size) undef=#[v,undef,undef,undef,undef,undef,undef,undef]:=rfl;refine wpIn_seq (Rs rfl (we (by simp) (cH (halloc w)) ?_))
 refine wpIn_seq (Rs rfl (we (by simp) (cH (halloc _)) ?_))
 rw[hw2,hsz1];show Code.wpIn _ _ _ _ _ { tmps:=#[v,undef,.pointer (some ⟨w.heap.size,0,none⟩),.pointer (some ⟨w.heap.size+1,0,none⟩),undef,undef,undef,undef],defers:=[] } w2;refine wpIn_seq (TR rfl rfl rfl (we (by simp) (cH (hr2 _)) ?_))
 rw[hn0];refine we (by simp)  rfl ?_
 refine we (by simp) (hcop _ rfl rfl) ?_
 refine wpIn_seq (TX rfl rfl (we (by simp) (cH hload) ?_))
 show Oper.wpIn _ _ _ _ { tmps:=#[v,undef,.pointer (some ⟨w.heap.size,0,none⟩),.pointer (some ⟨w.heap.size+1,0,none⟩),.slice (some ⟨w.heap.size+1,0,none⟩) n n,v,goInt (Nat.min l.length n),.agg c4],defers:=[] } w3 _ _;refine QM (by simp) (w':=w4) ?_ ?_
 .show (do Instr.storeAt A (.pointer (some ⟨w.heap.size,0,none⟩)) (.agg c4);pure Next.skip).run P w3=_
  simp[hstore]
 show Code.wpIn _ _ _ _ _ { tmps:=#[v,undef,.pointer (some ⟨w.heap.size,0,none⟩),.pointer (some ⟨w.heap.size+1,0,none⟩),.slice (some ⟨w.heap.size+1,0,none⟩) n n,v,goInt (Nat.min l.length n),.agg c4],defers:=[] } w4;refine wpIn_ret ?_;have hk3:∀b,b<w.heap.size->w3.heap[b]? = w.heap[b]? := by
  intro b hb;subst hw3;rw[dH _ (by omega),hk2 b hb]
 have hk4:∀b,b<w.heap.size->w4.heap[b]? = w.heap[b]? := by
  intro b hb;subst hw4;rw[dH _ (by omega),hk3 b hb]
 have hs4:w.heap.size<=w4.heap.size:=by subst hw4;subst hw3;simp[qu,hsz2]
 have hr4:w4.os=w.os/\w4.output=w.output/\w4.tape=w.tape/\w4.drawn=w.drawn:=by subst hw4;subst hw3;exact hrest
 have hload4:(loadVar A ⟨w.heap.size,0,none⟩).run P w4=.ok (.agg c4) w4:=by
  unfold loadVar;have:=tX (P:=P)   (o:=0) (m:=n)  (oL hw4A) (.inl (by omega))
  have e:((c4.toList.drop 0).take n).toArray=c4:=by rw[List.drop_zero,List.take_of_length_le (by simp[hc3s])]
  rw[e]at this;have ha:(isAgg A).run P w4=.ok true w4:=tA.Bh;simp[ha,tA.gn,this]
 refine⟨.agg c4,?_,.agg c4,I,μ,rfl,.c _ _ (.agg _ _ ?_ ?_),s.kept hk4,Step.kept hk4 hs4 hr4.1 ⟨hr4.2.1,hr4.2.2.1,by rw[hr4.2.2.2];exact Nat.le_refl _⟩ ?_⟩
 .simp[results,hr,asAddr,hload4]
 .have:=congrArg List.length hc3';simpa [BT]using this.symm
 .intro j x y hx hy;have h1:c4.toList[j]? = some y:=by simpa using hy
  rw[hc3']at h1;simp only[BT,List.getElem?_map]at hx h1
  cases hp:(DI n l)[j]? with
  | none=>rw[hp]at hx;cases hx
  | some k=>rw[hp]at hx h1;cases hx;cases h1;exact .int _ _
 .intro a ha h;unfold World.frozen? at h ⊢;rw[hk4 _ ha];exact h
end
end Go.VE
namespace Go.VE
variable [aW]
variable {P:Program}
theorem E9 (a:List Int) (j:Nat):(ic a)[j]? = (a[j]?).map (Value.int .i64):=by simp[ic]
theorem Ds {i:TypeId} {a b:List Int} {n:Nat} (ha:a.length=n) (hb:b.length=n) (hi:ri P i=some ⟨1,8,[.int .i64 0],.int .i64⟩) (hui:P.underlying i=some (.int .i64)) (d:Nat) (w:World) :
 ∀(m k:Nat),k+m=n->(Op.eqItems (d+1) i 1 (ic a) (ic b) (List.range' k m)).run P w=.ok (a.drop k==b.drop k) w
 | 0,k,h=>by
  have h1:a.drop k=[]:=List.drop_eq_nil_of_le (by omega)
  have h2:b.drop k=[]:=List.drop_eq_nil_of_le (by omega)
  simp[Op.eqItems,h1,h2]
 | m+1,k,h=>by
  have hka:k<a.length:=by omega
  have hkb:k<b.length:=by omega
  have pa:(part i (ic a) (k*1)).run P w=.ok (.int .i64 a[k]) w:=pR hi (by rw[E9,Nat.mul_one];simp[hka])
  have pb:(part i (ic b) (k*1)).run P w=.ok (.int .i64 b[k]) w:=pR hi (by rw[E9,Nat.mul_one];simp[hkb])
  have q:(Op.equalIn (d+1) i (.int .i64 a[k]) (.int .i64 b[k])).run P w=.ok (a[k]==b[k]) w:=zG d _ _ hui;have ih:=Ds ha hb hi hui d w m (k+1) (by omega)
  have ea:=List.drop_eq_getElem_cons hka;have eb:=List.drop_eq_getElem_cons hkb;simp only[List.range'_succ,Op.eqItems,Sem.run_bind,pa,pb,q,Result.andThen_ok]
  by_cases e:a[k]=b[k]
  .rw[ea,eb,List.cons_beq_cons,e];simp only[beq_self_eq_true,Bool.not_true,Bool.true_and,if_false,Bool.false_eq_true];exact ih
  .have:(a[k]==b[k])=false:=by simpa using e
   rw[ea,eb,List.cons_beq_cons,this];simp only[Bool.not_false,if_true,Bool.false_and,Sem.run_pure]
theorem EE {i:TypeId} {a:List Int} {n:Nat} (e:Bool) (ha:a.length=n) (hi:ri P i=some ⟨1,8,[.int .i64 0],.int .i64⟩) (hui:P.underlying i=some (.int .i64)) (d:Nat) (w:World) :
 ∀(m k:Nat),k+m=n->(forIn (List.range' k m) PUnit.unit (λj (_:PUnit)=>do
  let s <-sizeOf i
  let v <-part i (ic a) (j*s)
  Instr.checkKey e (d+1) i v
  pure (ForInStep.yield PUnit.unit)):Sem PUnit).run P w=.ok PUnit.unit w
 | 0,k,h=>by simp
 | m+1,k,h=>by
  have hka:k<a.length:=by omega
  have pa:(part i (ic a) (k*1)).run P w=.ok (.int .i64 a[k]) w:=pR hi (by rw[E9,Nat.mul_one];simp[hka])
  have hs:(sizeOf i).run P w=.ok 1 w:=(mD.AY hi).gn;have q:(Instr.checkKey e (d+1) i (.int .i64 a[k])).run P w=.ok () w:=yA d e _ hui;have ih:=EE e ha hi hui d w m (k+1) (by omega)
  simp only[List.range'_succ,List.forIn_cons,Sem.run_bind,hs,pa,q,Result.andThen_ok,Sem.run_pure]at ih ⊢;exact ih
theorem rY.arr {t i:TypeId} {n:Nat} (hu:P.underlying t=some (.array n i)) (hi:ri P i=some ⟨1,8,[.int .i64 0],.int .i64⟩) (hui:P.underlying i=some (.int .i64)) (hq:P.eqGuardType P.depth t=false):rY P t n:=by
 obtain⟨inf,z,hinf,hsz,_⟩:=(mD.AY hi).info;have hcell:P.cellsOf i=1:=by unfold Program.cellsOf;simp[hinf,hsz]
 have heq:∀(w:World) (a b:List Int),a.length=n->b.length=n->(Op.equal t (.agg (ic a)) (.agg (ic b))).run P w=.ok (a==b) w:=by
  intro w a b ha hb;show (Op.equalIn (9999+1) t _ _).run P w=_;rw[run_equalIn_array w 9999 _ _ hu hinf,hcell,List.range_eq_range'];simpa using Ds ha hb hi hui 9998 w n 0 (by omega)
 have hg0:∀(op:BinOp) (p q:Operand) (w:World) (u v:Array Value),(eqGuard op t p q (.agg u) (.agg v)).run P w=.ok () w:=by
  intro op p q w u v;unfold eqGuard;cases op <;> simp[Sem.run_bind,run_program,Result.andThen,hq]
 refine⟨?_,?_,heq,?_,⟨_,hu,.inl ⟨_,_,rfl⟩⟩⟩
 .intro w p q a b ha hb;rw[Sem.run_bind,hg0,Result.andThen_ok];show (do pure (Value.bool (<-Op.equal t (.agg (ic a)) (.agg (ic b)))):Sem Value).run P w=_
  rw[Sem.run_bind,heq _ _ _ ha hb];rfl
 .intro w p q a b ha hb;rw[Sem.run_bind,hg0,Result.andThen_ok];show (do pure (Value.bool (!(<-Op.equal t (.agg (ic a)) (.agg (ic b))))):Sem Value).run P w=_
  rw[Sem.run_bind,heq _ _ _ ha hb];rfl
 .intro w e a ha;show (Instr.checkKey e (9999+1) t _).run P w=_;unfold Instr.checkKey;simp only[Sem.run_bind,ct hu,Result.andThen_ok];have:=EE e ha hi hui 9998 w n 0 (by omega)
  simp only[Std.Legacy.Range.forIn_eq_forIn_range',Std.Legacy.Range.size,Nat.sub_zero,Nat.add_one_sub_one,Nat.div_one];rw[show (9998+1:Nat)=9999 from rfl]at this;rw[this];rfl
end Go.VE
namespace Go.VE
variable [aW]
structure CR (E:Env) (c c':cu):Prop where
 QU:∀f args H y,E.keep f=false->bG c f args H=some y->bG c' f args H=some y
 dir:∀f args H r,E.keep f=true->c (.fn f) args H=some r->c' (.fn f) args H=some r
 yld:∀id args H r,c (.yld id) args H=some r->c' (.yld id) args H=some r
 rng:∀f args H r,H≠[]->c (.fn f) args H=some r->c' (.fn f) args H=some r
section
variable {E:Env} {c c':cu} {n:Nat} {ops:List Oper} {F F':Frame} {H H':ak}
theorem Gl (h:CR E c c') {f:FuncId} {args:List V} {r:V×ak} (hk:E.keep f=true) (hi:kP c f args H=some r):kP c' f args H=some r:=by
 unfold kP at hi ⊢;split at hi
 .split at hi
  .rename_i hc;rw[h.dir _ _ _ _ hk hc];omega
  grind
 grind
theorem zK (h:CR E c c') {f:FuncId} {args:List V} {r:V×ak} (hk:E.keep f=true) (hi:eH E c f args H=some r):eH E c' f args H=some r:=by
 unfold eH at hi ⊢;split
 .rename_i ho;rw[if_pos ho]at hi;exact Gl h hk hi
 .rename_i ho;rw[if_neg ho]at hi;exact h.dir _ _ _ _ hk hi
theorem zN {place:Option (Nat×Nat)} {f:FuncId} (h:jD E ops place f=true):E.keep f=true:=by
 unfold jD at h;grind
theorem CR.any (h:CR E c c') {f:FuncId} {args:List V} {H:ak} {y:V} (hi:bG c f args H=some y):bG c' f args H=some y:=by
 cases hk:E.keep f with
 | false=>exact h.QU _ _ _ _ hk hi
 | true=>
  unfold bG at hi ⊢;split at hi
  .split at hi
   .rename_i hc;rw[h.dir _ _ _ _ hk hc];omega
   simp_all
  simp_all
theorem ME (h:CR E c c') {place:Option (Nat×Nat)} {op:Op} {r:V×ak} (hi:cg E c ops place F H op=some r):cg E c' ops place F H op=some r:=by
 unfold cg at hi ⊢;split at hi
 .omega
 .omega
 .omega
 .omega
 .split at hi
  .rename_i f args hca;split at hi
   .rename_i hk;rw[if_pos hk];split at hi
    .exact zK h (zN hk) hi
    .split at hi
     .rename_i hl;rw[if_pos hl];exact zK h (zN hk) hi
     grind
   .rename_i hk;rw[if_neg hk];split at hi
    .split at hi
     .rename_i y hy;rw[h.any hy];omega
     grind
    .rename_i b i;split at hi
     .rename_i y hy;rw[h.any hy];omega
     .rename_i hnone;split at hi
      .rename_i hl;split at hi
       .rename_i y hy
        cases h3:bG c' f args (List.take b H)with
        | some y'=>exact(yQ hnone hy h3).elim
        | none=>simp only[if_pos hl,h.any hy];omega
       grind
      grind
  .split at hi
   .exact h.yld _ _ _ _ hi
   .split at hi
    .rename_i hl;rw[if_pos hl];exact h.yld _ _ _ _ hi
    grind
  grind
theorem C7 (h:CR E c c') {place:Option (Nat×Nat)} {o:Oper} {r:Frame×ak} (hi:eW E c n ops place o F H=some r):eW E c' n ops place o F H=some r:=by
 unfold eW at hi ⊢;split at hi
 .rename_i hw;rw[if_pos hw];split at hi
  .rename_i v H1 hd;rw[ME h hd];omega
  grind
 grind
theorem Bt (h:CR E c c') {r:Frame×ak}:∀(l:List Oper) {F:Frame} {H:ak},kC E c n ops l F H=some r->kC E c' n ops l F H=some r
 | [],_,_,hi=>hi
 | o::l,F,H,hi=>by
  simp[kC]at hi ⊢;split at hi
  .rename_i F1 H1 hs;rw[C7 h hs];exact Bt h l hi
  grind
theorem AW (h:CR E c c') {base:Nat} {r:Frame×ak}:∀(l:List Nat) {F:Frame} {H:ak},iM E c n ops base l F H=some r->iM E c' n ops base l F H=some r
 | [],_,_,hi=>hi
 | i::l,F,H,hi=>by
  simp[iM]at hi ⊢;split at hi
  .split at hi
   .rename_i F1 H1 hs;rw[C7 h hs];exact AW h l hi
   grind
  grind
theorem DB (h:CR E c c') {draw:Bool} {r:Frame×ak} (hi:iB E c n ops draw F H=some r):iB E c' n ops draw F H=some r:=by
 unfold iB at hi ⊢;split
 .rename_i hd;rw[if_pos hd]at hi;split at hi
  .rename_i hok;rw[if_pos hok];exact AW h _ hi
  grind
 .rename_i hd;rw[if_neg hd]at hi;exact Bt h _ hi
theorem AE (h:CR E c c') {lf lf':Nat} (hl:lf<=lf') (ro:Bool) (nt:Nat):∀(code:Code) {F:Frame} {H:ak} {r:Out×Frame×ak},exec E c lf ro nt code F H=some r->exec E c' lf' ro nt code F H=some r:=by
 intro code
 induction code with
 | skip=>intro F H r hi;exact hi
 | label l=>intro F H r hi;exact hi
 | region id ops draw=>
  intro F H r hi;simp only[exec,ζf]at hi ⊢;obtain⟨x,hx,rfl⟩:=hi;exact⟨x,DB h hx,rfl⟩
 | seq a b iha ihb=>
  intro F H r hi;simp[exec]at hi ⊢
  grind
 | cond x a b iha ihb=>
  intro F H r hi;simp[exec]at hi ⊢
  grind
 | block id a ih=>
  intro F H r hi;simp[exec]at hi ⊢
  grind
 | loop a ih=>
  intro F H r hi;exact wG (λF H r hr=>ih hr) lf lf' hl hi
 | rangeFunc g ps aw bw _ _=>
  intro F H r hi;simp[exec]at hi ⊢;split at hi
  .split at hi
   .rename_i res H1 hc;rw[h.rng _ _ _ _ (by simp) hc];omega
   grind
  grind
 | exit id=>intro F H r hi;exact hi
 | ret=>intro F H r hi;exact hi
 | scope a _=>intro F H r hi;simp[exec]at hi
 | goto l=>intro F H r hi;simp[exec]at hi
 | refuse w=>intro F H r hi;simp[exec]at hi
def qN (E:Env) (c:cu) (n:Nat):cu
 | .fn f,args,H=>match E.ft f with
  | some fi=>if args.length<=fi.ntmps then
   match exec E c n false fi.ntmps fi.body args H with
   | some (.exit _,_,_)=>none
   | some (_,F',H')=>(ig E F' H' fi.results).map λvs=>(result vs,H')
   | none=>none
   else none
  | none=>if E.sort f then rz E.keep c args H else(E.known f args).map λy=>(y,H)
 | .yld id,args,H=>match H[id]? with
  | some (.loop r)=>match r.st with
   | .ready=>if args.length=r.params.length/\r.params.all (·<r.nt)then
    match exec E c n true r.nt r.assign (uH r.params args r.frame) H with
    | some (.norm,F2,H2)=>match H2[id]? with
     | some (.loop r2)=>match r2.st with
      | .ready=>match exec E c n true r.nt r.body F2 (H2.set id (.loop { r2 with st:=.busy }))with
       | some (o,_,H4)=>match H4[id]? with
        | some (.loop r4)=>some (.bool (o==.norm),H4.set id (.loop { r4 with st:=(if o==.norm then .ready else .done),pend:=(if o==.norm then none else some o) }))
        | _=>none
       | none=>none
      | _=>none
     | _=>none
    | _=>none
    else none
   | _=>none
  | _=>none
theorem Mm (E:Env) (n:Nat):run E (n+1)=qN E (run E n) n:=by
 funext x a H
 cases x with
 | fn f=>rfl
 | yld id=>rfl
theorem yK (h:CR E c c') {n m:Nat} (hl:n<=m) {x:Callee} {a:List V} {r:V×ak} (hi:qN E c n x a H=some r):qN E c' m x a H=some r:=by
 cases x with
 | fn f=>
  rw[qN]at hi ⊢;split at hi
  .split at hi
   .rename_i hle;split at hi
    .simp_all
    .rename_i o F1 H1 hne hx;rw[AE h hl _ _ _ hx]
     grind
    grind
   grind
  .split at hi
   .rename_i hs;rw[if_pos hs];exact AN (λg args y hk hy=>h.QU _ _ _ _ hk hy) hi
   grind
 | yld id=>
  rw[qN]at hi ⊢;split at hi
  .split at hi
   .split at hi
    .rename_i hlen;split at hi
     .rename_i F2 H2 hx1;split at hi
      .rename_i r2 hr2;split at hi
       .rename_i hst2;split at hi
        .rename_i o F4 H4 hx2;simp only[if_pos hlen,AE h hl _ _ _ hx1,hr2,hst2,AE h hl _ _ _ hx2];omega
        grind
       grind
      grind
     grind
    grind
   grind
  grind
mutual
def V.same:Nat->V->V->Bool
 | 0,_,_=>false
 | _+1,.bool a,.bool b=>a==b
 | _+1,.int k a,.int l b=>decide (k=l)&&decide (a=b)
 | _+1,.str a,.str b=>decide (a.data.toList=b.data.toList)
 | _+1,.aR,.aR=>true
 | _+1,.ck,.ck=>true
 | _+1,.fI,.fI=>true
 | _+1,.eX,.eX=>true
 | _+1,.ql,.ql=>true
 | n+1,.agg a,.agg b=>V.pK n a b
 | n+1,.tup a,.tup b=>V.pK n a b
 | n+1,.fptr a,.fptr b=>V.pK n a b
 | n+1,.fsl e a,.fsl e' b=>Nat.beq e e'&&V.y7 n a b
 | n+1,.clo f a b,.clo f' a' b'=>Nat.beq f f'&&V.pK n a a'&&V.pK n b b'
 | _+1,_,_=>false
def V.pK:Nat->List V->List V->Bool
 | 0,_,_=>false
 | _+1,[],[]=>true
 | n+1,a::r,b::s=>V.same n a b&&V.pK n r s
 | _+1,_,_=>false
def V.y7:Nat->List (List V)->List (List V)->Bool
 | 0,_,_=>false
 | _+1,[],[]=>true
 | n+1,a::r,b::s=>V.pK n a b&&V.y7 n r s
 | _+1,_,_=>false
end
theorem Ox:∀n,(∀a b,V.same n a b=true->a=b)/\(∀a b,V.pK n a b=true->a=b)/\(∀a b,V.y7 n a b=true->a=b):=by
 intro n
 induction n with
 | zero=>exact⟨λa b h=>by simp[V.same]at h,λa b h=>by simp[V.pK]at h,λa b h=>by simp[V.y7]at h⟩
 | succ n ih=>
  obtain⟨i1,i2,i3⟩:=ih;refine⟨λa b h=>?_,λa b h=>?_,λa b h=>?_⟩
  .cases a <;> cases b <;> simp only[V.same,ζh,decide_eq_true_eq,Bool.false_eq_true]at h <;> first|rfl|grind|skip
   all_goals first
    | grind
    | grind
    | grind
    | (rw[Nat.eq_of_beq_eq_true h.1,i3 _ _ h.2])
    | (rw[Nat.eq_of_beq_eq_true h.1.1,i2 _ _ h.1.2,i2 _ _ h.2])
    | (congr 1;exact ByteArray.ext (Array.ext' h))
  .cases a <;> cases b <;> simp[V.pK]at h <;> first|rfl|grind|grind
  .cases a <;> cases b <;> simp[V.y7]at h <;> first|rfl|grind|grind
structure iS where
 f:FuncId
 az:List V
 y:V
def xm:List iS->FuncId->List V->Option V
 | [],_,_=>none
 | k::r,f,az=>bif Nat.beq k.f f&&V.pK 1000 k.az az then some k.y else xm r f az
theorem AF:∀{l:List iS} {f:FuncId} {az:List V} {y:V},xm l f az=some y->∃k∈l,k.f=f/\k.az=az/\k.y=y
 | [],_,_,_,h=>by simp[xm]at h
 | k::r,f,az,y,h=>by
  unfold xm at h
  cases hb:Nat.beq k.f f&&V.pK 1000 k.az az with
  | true=>
   simp only[ζh]at hb;exact⟨k,List.mem_cons_self ..,Nat.eq_of_beq_eq_true hb.1,(Ox 1000).2.1 _ _ hb.2,by grind⟩
  | false=>
   rw[hb]at h;obtain⟨q,h1,h2⟩:=AF h
   grind
def runM (E:Env) (l:List iS):Nat->cu
 | 0,_,_,_=>none
 | n+1,.fn f,az,[]=>match xm l f az with
  | some y=>some (y,[])
  | none=>qN E (runM E l n) n (.fn f) az []
 | n+1,x,az,H=>qN E (runM E l n) n x az H
def t_ (E:Env) (n:Nat) (k:iS):Prop:=∃r H1,run E n (.fn k.f) k.az []=some (r,H1)/\borrow 8 H1 r=some k.y
structure kA (E:Env) (k:iS):Prop where
 keep:E.keep k.f=false
 self:borrow 8 [] k.y=some k.y
 cl:k.y.closed=true
 at_:∃n,t_ E n k
theorem t_.le {n m:Nat} {k:iS} (h:t_ E n k) (hm:n<=m):t_ E m k:=by
 obtain⟨r,H1,h1,h2⟩:=h;exact⟨r,H1,sP E hm _ _ _ _ h1,h2⟩
theorem yH:∀{l:List iS},(∀k∈l,kA E k)->∃N,∀k∈l,t_ E N k
 | [],_=>⟨0,by simp⟩
 | k::r,h=>by
  obtain⟨N,hN⟩:=yH (λq hq=>h q (List.mem_cons_of_mem _ hq))
  obtain⟨n,hn⟩:=(h k (List.mem_cons_self ..)).at_;refine⟨max N n,λq hq=>?_⟩
  rcases List.mem_cons.1 hq with rfl|hq
  .exact hn.le (Nat.le_max_right ..)
  .exact(hN q hq).le (Nat.le_max_left ..)
theorem xL {l:List iS} {x:Callee} {az:List V} (h:H≠[]\/(∃id,x=.yld id)\/∃f,x=.fn f/\xm l f az=none):runM E l (n+1) x az H=qN E (runM E l n) n x az H:=by
 rcases h with h|⟨id,rfl⟩|⟨f,rfl,h⟩
 .cases x with
  | yld id=>rw[runM];simp
  | fn f=>
   cases H with
   | nil=>grind
   | cons a r=>rw[runM];simp
 .rw[runM];simp
 .cases H with
  | nil=>rw[runM,h]
  | cons a r=>rw[runM];simp
theorem G7 {l:List iS} {N:Nat} (hl:∀k∈l,kA E k) (hN:∀k∈l,t_ E N k):∀n,CR E (runM E l n) (run E (N+n)):=by
 intro n
 induction n with
 | zero=>
  refine⟨λf args H y _ h=>?_,λf args H r _ h=>by simp[runM]at h,λid args H r h=>by simp[runM]at h,λf args H r _ h=>by simp[runM]at h⟩
  unfold bG at h;split at h
  .simp[runM]at h
  grind
 | succ n ih=>
  have up:∀{x:Callee} {az:List V} {H:ak} {r:V×ak},qN E (runM E l n) n x az H=some r->run E (N+(n+1)) x az H=some r:=λh=>by
   rw[show N+(n+1)=(N+n)+1 from rfl,Mm];exact yK ih (Nat.le_add_left ..) h
  refine⟨λf args H y hk h=>?_,λf args H r hk h=>?_,λid args H r h=>?_,λf args H r hne h=>?_⟩
  .unfold bG at h ⊢;split at h
   .rename_i az has;split at h
    .rename_i r H1 hc
     cases hs:xm l f az with
     | none=>
      rw[xL (.inr (.inr ⟨f,rfl,hs⟩))]at hc
      grind
     | some y0=>
      rw[runM,hs]at hc;obtain⟨rfl,rfl⟩:=hc;obtain⟨k,hkm,rfl,rfl,rfl⟩:=AF hs;have ok:=hl k hkm;obtain⟨r1,H2,h1,h2⟩:=(hN k hkm).le (Nat.le_add_right N (n+1));rw[ok.self]at h
      grind
    grind
   grind
  .by_cases hs:H≠[]\/(∃id,(Callee.fn f)=.yld id)\/∃f',Callee.fn f=.fn f'/\xm l f' args=none
   .rw[xL hs]at h;exact up h
   .cases hq:xm l f args with
    | none=>grind
    | some y=>
     obtain⟨k,hkm,rfl,_,_⟩:=AF hq;rw[(hl k hkm).keep]at hk;cases hk
  .exact up h
  .rw[xL (.inl hne)]at h;exact up h
def Rj (E:Env) (l:List iS) (n:Nat) (k:iS):Option V:=
 match qN E (runM E l n) n (.fn k.f) k.az []with
 | some (r,H1)=>borrow 8 H1 r
 | none=>none
theorem om {l:List iS} (hl:∀k∈l,kA E k) {k:iS} (h:(Rj E l n k,borrow 8 [] k.y,k.y.closed,E.keep k.f)=(some k.y,some k.y,true,false)):kA E k:=by
 simp  at h;obtain⟨N,hN⟩:=yH hl;refine⟨h.2.2.2,h.2.1,h.2.2.1,N+n+1,?_⟩;have h1:=h.1;unfold Rj at h1;split at h1
 .rename_i r H1 hs;refine⟨r,H1,?_,h1⟩;exact yK (G7 hl hN n) (Nat.le_add_left ..) hs
 grind
def Nx (E:Env) (l:List iS) (n:Nat) (f:FuncId) (az:List V):Bool:=
 match qN E (runM E l n) n (.fn f) az []with
 | some (.bool b,_)=>b
 | _=>false
theorem Jm {l:List iS} (hl:∀k∈l,kA E k) {f:FuncId} {az:List V} (h:Nx E l n f az=true):∃n H1,run E n (.fn f) az []=some (.bool true,H1):=by
 obtain⟨N,hN⟩:=yH hl;unfold Nx at h;split at h
 .rename_i b H1 hs;subst h;exact⟨N+n+1,H1,(yK (G7 hl hN n) (Nat.le_add_left ..) hs)⟩
 simp_all
end
end Go.VE
