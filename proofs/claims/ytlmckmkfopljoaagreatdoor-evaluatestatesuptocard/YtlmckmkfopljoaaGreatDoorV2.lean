/-
 The engine: operations of the loaded code on values without a heap; a run of it is a run of the program.
-/
import Derived.RangeFuncRecord
import Derived.Shelf.SlSortCmp.NoneTotal
import Derived.RangeFuncLeaves
import Derived.Laws.StructEq
import Derived.ChangeKeysEq
import Derived.Test.YtlmckmkfopljoaaGreatDoorV1
set_option linter.all false
namespace Go.VE
variable [bS]
def Out.Gr:Out->Exit
 | .norm=>.normal
 | .exit id=>.exit id
 | .ret=>.ret
theorem exists_least (p:Nat->Prop):∀k,p k->∃m,p m/\∀j,p j->m<=j:=by
 intro k
 induction k using Nat.strongRecOn with
 | _ k z=>
  intro hk
  by_cases h:∃j,j<k/\p j
  .obtain⟨j,A,u⟩:=h;exact z j A u
  .exact⟨k,hk,λj u=>Nat.le_of_not_lt λw=>h ⟨j,w,u⟩⟩
open Classical in
noncomputable def least (p:Nat->Prop):Nat:=if h:∃m,p m/\∀j,p j->m<=j then h.choose else 0
theorem K0 (p:Nat->Prop) {k:Nat} (hk:p k):p (least p)/\least p<=k:=by
 have h:=exists_least p k hk;unfold least;rw[dif_pos h];exact⟨h.choose_spec.1,h.choose_spec.2 k hk⟩
section
variable {P:Program} {E:Env} {I I':ct} {μ μ':Mu} {H H':bg} {n B:Nat} {F F':Frame} {a:Act} {w w':World}
def Post (B n:Nat) (I:ct) (μ:Mu) (H:bg) (w:World) (o:Out) (F':Frame) (H':bg):Exit->Act->World->Prop:=
 λe u w'=>e=o.Gr/\(∃I' μ',dV I' μ' n F' u.tmps/\cQ I' μ' H' w'/\Step I μ H w I' μ' H' w')/\jv B u.defers w'
theorem Post.mono {I1:ct} {D:Mu} {H1:bg} {G:World} {o:Out} (s1:cQ I1 D H1 G) (st:Step I μ H w I1 D H1 G) {e:Exit} {a':Act} {w':World} (h:Post B n I1 D H1 G o F' H' e a' w') :
 Post B n I μ H w o F' H' e a' w':=by
 obtain⟨h1,⟨I',μ',u,z,A⟩,C⟩:=h;exact⟨h1,⟨I',μ',u,z,Step.trans s1 st A⟩,C⟩
theorem cQ.AW (s:cQ I μ H w) {b:Nat} (o:Obj) (B:I b=none) (D:¬ij μ H b):cQ I μ H (fT w b o) where
 dom:=s.dom
 imm:=λz x h=>IC.rN (s.imm z x h) (gx o (by rintro rfl;rw[B]at h;cases h))
 obs:=λid ob h=>(s.obs id ob h).mono (ct.le_refl _) (Mu.le_refl _) (λp A C=>by
  have u:ij μ H p.b:=⟨id,p,ob,h,C,A,rfl⟩;exact⟨gx o (λe=>D (e▸u)),ga s u⟩) (λG=>by subst G;exact s.obs id _ h)
 inj:=s.inj
 gl:=s.gl
theorem Sr (s:cQ I μ H w) {b:Nat} {o:Obj} (h:w.heap[b]? = some o) (h1:∀c e f,o≠.cells c e f) (B:∀es c,o≠.map es c):I b=none:=by
 cases u:I b with
 | none=>rfl
 | some x=>
  have:=s.imm b x u
  cases x with
  | cells c=>obtain⟨_,_,q⟩:=this;rw[h]at q;cases q;exact absurd rfl (h1 _ _ _)
  | map es=>obtain⟨_,q⟩:=this;rw[h]at q;cases q;exact absurd rfl (B _ _)
theorem Step.kept (hk:∀b,b<w.heap.size->w'.heap[b]? = w.heap[b]?) (B:w.heap.size<=w'.heap.size) (h1:w'.os=w.os) (D:uY w w') (G:∀a:Addr,a.block<w.heap.size->w.frozen? a=false->w'.frozen? a=false):Step I μ H w I μ H w':=
 ⟨ct.le_refl _,Mu.le_refl _,Nat.le_refl _,B,λb u _=>hk b u,λ_ h=>h.elim .inl λh=>.inr (.inl h),h1,D,G⟩
theorem Step.after (st:Step I μ H w I' μ' H' w') {b:Nat} (o:Obj) (B:w.heap.size<=b) (D:Obj.nf o:=by first|exact s6 _ _|exact rE rfl):Step I μ H w I' μ' H' (fT w' b o):=
 ⟨st.le,st.mu,st.len,by rw[wq];exact st.size,λz u A=>by rw[gx o (by omega)];exact st.frame z u A,st.terr,st.os,⟨st.out.out,st.out.tape,st.out.dr⟩,λa B C=>TX D a (st.fz a B C)⟩
theorem jv.AW {ds:List Deferred} (h:jv B ds w) {b:Nat} {o:Obj} (D:∀r,w.heap[r]? = some (.deferred (some []))->r≠b):jv B ds (fT w b o):=
 ⟨λd hd=>by
  obtain⟨r,h1,z,u⟩:=h.all d hd;exact⟨r,h1,z,by rw[gx o (D r u)];exact u⟩,h.apart⟩
theorem Kn {step:Frame->bg->Option (Out×Frame×bg)} {c:Code} {ro:Option Nat} {o:Out}
 (D:∀I μ F H a w o F' H',step F H=some (o,F',H')->dV I μ n F a.tmps->cQ I μ H w->jv B a.defers w->B<=w.heap.size->c.wpIn (fr ro) 0 P (Post B n I μ H w o F' H') a w)
 {k:Nat} (h:kA step k F H=some (o,F',H')) (r:dV I μ n F a.tmps) (s:cQ I μ H w) (m:jv B a.defers w) (hB:B<=w.heap.size) :
 (Code.loop c).wpIn (fr ro) 0 P (Post B n I μ H w o F' H') a w:=by
 let Inv:Nat->Act->World->Prop:=λk u w'=>∃I1 G F1 H1,kA step k F1 H1=some (o,F',H')/\dV I1 G n F1 u.tmps/\cQ I1 G H1 w'/\Step I μ H w I1 G H1 w'/\jv B u.defers w'/\B<=w'.heap.size
 let M:Act->World->Nat:=λu w'=>least (λk=>Inv k u w')
 have hM:∀k u w',Inv k u w'->Inv (M u w') u w'/\M u w'<=k:=λk u w' hi=>K0 (λk=>Inv k u w') hi
 refine wpIn_loop (λu w'=>∃k,Inv k u w') M ⟨k,I,μ,F,H,h,r,s,.refl _ _ _ _,m,hB⟩ ?_
 rintro Q S ⟨k1,T⟩;obtain⟨hi,_⟩:=hM k1 Q S T;generalize hk:M Q S=kk at hi;obtain⟨I1,G,F1,H1,J,r1,s1,A,Y,C⟩:=hi
 cases kk with
 | zero=>simp[kA]at J
 | succ kk=>
  simp only[kA]at J;split at J
  .rename_i Z H2 U;refine wpIn_mono (D I1 G F1 H1 Q S .norm Z H2 U r1 s1 Y C) ?_;rintro e L O ⟨rfl,⟨I2,μ2,r2,s2,st2⟩,m2⟩;show (∃k,Inv k L O)/\M L O<kk+1;have z:Inv kk L O:=⟨I2,μ2,Z,H2,J,r2,s2,Step.trans s1 A st2,m2,Nat.le_trans C st2.size⟩;exact⟨⟨kk,z⟩,Nat.lt_succ_of_le (hM kk L O z).2⟩
  .rename_i W;refine wpIn_mono (D I1 G F1 H1 Q S o F' H' J r1 s1 Y C) ?_;intro e L O hp;have X:o≠.norm:=by
    rintro rfl;exact W F' H' J
   obtain⟨rfl,h2,h3⟩:=hp
   cases o with
   | norm=>exact absurd rfl X
   | exit id=>exact Post.mono s1 A ⟨rfl,h2,h3⟩
   | ret=>exact Post.mono s1 A ⟨rfl,h2,h3⟩
end
end Go.VE
namespace Go.VE
variable [bS]
section
variable {P:Program} {E:Env} {I I':ct} {μ μ':Mu} {H H':bg} {n B:Nat} {F F':Frame} {a:Act} {w w':World}
theorem AT (s:cQ I μ H w) {id:Nat} {r:vn} (h:H[id]? = some (.loop r)):∃p l,μ id=some p/\I p.b=none/\w.heap[p.b]? = some (.loop l)/\vm I μ r l:=s.obs id _ h
theorem Ib {p:Option Out} (hp:p≠some .norm):(p.bind kU=none->p.getD .norm=.norm)/\(∀c,p.bind kU=some c->(c=.ret/\p.getD .norm=.ret)\/∃id,c=.exit id/\p.getD .norm=.exit id):=by
 cases p with
 | none=>grind
 | some o=>
  cases o with
  | norm=>grind
  | ret=>exact⟨by simp[kU],by simp[kU]⟩
  | exit id=>exact⟨by simp[kU],by simp[kU]⟩
theorem IN {call:dn} (hc:kF P call) {g:Operand} {ps:Array Tmp} {assign body:Code} {o:Out} {lf:Nat}
 (h:exec E call lf false n (.rangeFunc g ps assign body) F H=some (o,F',H')) (r:dV I μ n F a.tmps) (s:cQ I μ H w) (m:jv B a.defers w) (hB:B<=w.heap.size) :
 (Code.rangeFunc g ps assign body).wpIn (fr none) 0 P (Post B n I μ H w o F' H') a w:=by
 cases hg:ev F g with
 | none=>simp[exec,hg]at h
 | some gv=>
 cases gv with
 | clo f x y=>
  simp[exec,hg]at h;split at h
  .rename_i am H2 L;split at h
   .rename_i r2 D;have X:r2.st≠.busy/\r2.pend.getD .norm=o/\F=F'/\H2.set H.length .dead=H':=by
     grind
    obtain⟨X,rfl,rfl,rfl⟩:=X;obtain⟨u,v,eg,hu,hv⟩:=(di r hg).kN;refine wpIn_rangeFunc λA _=>?_
    have Y:∀b,b<w.heap.size->(w.alloc (.deferred (some []))).heap[b]? = w.heap[b]? := λb hb=>lM _ b hb
    have s1  := s.kept Y;have ad:Step I μ H w I μ H (w.alloc (.deferred (some []))):=Step.kept Y (by simp) rfl ⟨rfl,rfl,Nat.le_refl _⟩ (λa _=>NL (rE rfl) a)
    have ae:vm I μ ⟨.ready,none,F,n,ps.toList,assign,body⟩ { state:=.ready,pending:=none,fn:=A,tmps:=a.tmps,params:=ps,assign,body,defers:=w.heap.size }:=
     ⟨trivial,rfl,by simp,r,rfl,rfl,rfl⟩
    obtain⟨s2,st2⟩:=s1.push (ob:=.loop ⟨.ready,none,F,n,ps.toList,assign,body⟩)
     (o:=.loop { state:=.ready,pending:=none,fn:=A,tmps:=a.tmps,params:=ps,assign,body,defers:=w.heap.size }) (p:=⟨w.heap.size+1,0,0,0⟩) (by simp)
     ⟨_,_,Mu.gj _ _ _,by have:=s1.y6;simp_all,by have:=mL (w:=w.alloc (.deferred (some []))) (.loop { state:=.ready,pending:=none,fn:=A,tmps:=a.tmps,params:=ps,assign,body,defers:=w.heap.size });simp_all,
      ae.mono (ct.le_refl _) (Mu.qQ (s1.dom _ (Nat.le_refl _)))⟩
    have O :=
     (hu.mono (ct.le_refl _) st2.mu).append (.cons (.yld H.length ⟨w.heap.size+1,0,0,0⟩ (Mu.gj _ _ _)) (hv.mono (ct.le_refl _) st2.mu))
    obtain⟨hf,G⟩:=hc.fn f _ _ _ _ L;refine⟨w.heap.size+1,[{ target:=.collected w.heap.size,args:=#[] }],((w.alloc (.deferred (some []))).alloc (.loop { state:=.ready,pending:=none,fn:=A,tmps:=a.tmps,params:=ps,assign,body,defers:=w.heap.size })),{ target:=.fn (.func f) v,args:=u++#[.func (.yield (w.heap.size+1)) #[] #[]] },((w.alloc (.deferred (some []))).alloc (.loop { state:=.ready,pending:=none,fn:=A,tmps:=a.tmps,params:=ps,assign,body,defers:=w.heap.size })),f,u++#[.func (.yield (w.heap.size+1)) #[] #[]]++v,((w.alloc (.deferred (some []))).alloc (.loop { state:=.ready,pending:=none,fn:=A,tmps:=a.tmps,params:=ps,assign,body,defers:=w.heap.size })),
     run_enterLoop_outer A a.tmps ps assign body,?_,λ_ _=>trivial,?_,λh=>by simp[fr]at h,?_⟩
    .simp[resolve];rw[eg];simp[Deferred.ofValue,Act.eval]
    .exact xk hf _
    .have Z:=G _ _ _ _ s2 O;have Q:(u.toList++.func (.yield (w.heap.size+1)) #[] #[]::v.toList).toArray=u++#[.func (.yield (w.heap.size+1)) #[] #[]]++v:=by grind
     rw[Q]at Z;refine Z.mono ?_;rintro e w3 ⟨al,I3,μ3,rfl,_,s3,S⟩;obtain⟨p,l,g1,g2,g3,g4⟩:=AT s3 D;have hp:p=⟨w.heap.size+1,0,0,0⟩:=by
      have:=S.mu _ _ (Mu.gj μ H.length ⟨w.heap.size+1,0,0,0⟩)
      grind
     subst hp;have J:l.state≠.busy:=by
      intro he;have:=g4.st;rw[he]at this;cases af:r2.st <;> rw[af]at this <;> simp[Bb.is]at this
      grind
     refine⟨l.pending,_,run_endLoop g3 J,?_⟩;obtain⟨s4,ah⟩:=s3.kill D;have T:¬ij μ3 (H2.set H.length .dead) (w.heap.size+1):=by
      rintro⟨id,q,ob,h1,h2,U,h4⟩
      by_cases e:id=H.length
      .subst e;rw[List.getElem?_set_self (ζe.1 D).1]at h1;cases h1;simp[Ob.live]at h2
      .rw[List.getElem?_set_ne (Ne.symm e)]at h1;exact e (s3.inj id H.length ob _ q _ h1 D h2 rfl U g1 h4)
     have s5:cQ I3 μ3 (H2.set H.length .dead) (fT w3 (w.heap.size+1) (.loop { l with state:=.exhausted })):=s4.AW _ g2 T;have st  := Step.trans s1 ad (Step.trans s2 st2 (Step.trans s3 S ah));have ai:Step I μ H w I3 μ3 (H2.set H.length .dead) (fT w3 (w.heap.size+1) (.loop { l with state:=.exhausted })):=st.after _ (by omega)
     have m2:jv B ({ target:=.collected w.heap.size,args:=#[] }::a.defers) ((w.alloc (.deferred (some []))).alloc (.loop { state:=.ready,pending:=none,fn:=A,tmps:=a.tmps,params:=ps,assign,body,defers:=w.heap.size })):=by
      refine⟨?_,?_⟩
      .intro d hd;rcases List.mem_cons.1 hd with rfl|hd
       .refine⟨w.heap.size,rfl,hB,?_⟩;rw[lM _ _ (by simp)];exact mL _
       .obtain⟨q,h1,h2,U⟩:=m.all d hd;have W:=(Array.getElem?_eq_some_iff.1 U).1;refine⟨q,h1,h2,?_⟩;rw[lM _ _ (by simp;omega),lM _ _ W];exact U
      .refine List.Pairwise.cons ?_ m.apart;intro d hd q W aa;obtain⟨q2,h1,h2,U⟩:=m.all d hd;have:=(Array.getElem?_eq_some_iff.1 U).1;cases W;rw[h1]at aa;cases aa;omega
     have m3:=m2.step s2 S;have m5:jv B ({ target:=.collected w.heap.size,args:=#[] }::a.defers) (fT w3 (w.heap.size+1) (.loop { l with state:=.exhausted })):=
      m3.AW (λq W e=>by subst e;rw[g3]at W;cases W)
     have aj  := st.le;have ak  := st.mu;have z:∀C:Out,r2.pend.getD .norm=C->Post B n I μ H w C F (H2.set H.length .dead) C.Gr { a with defers:=[{ target:=.collected w.heap.size,args:=#[] }]++a.defers } (fT w3 (w.heap.size+1) (.loop { l with state:=.exhausted })):=
      λC _=>⟨rfl,⟨I3,μ3,r.mono aj ak,s5,ai⟩,m5⟩
     obtain⟨W5,ab⟩:∃W5,w3.putObj (w.heap.size+1) (.loop { l with state:=.exhausted })=W5:=⟨_,rfl⟩;have z:∀C:Out,r2.pend.getD .norm=C->Post B n I μ H w C F (H2.set H.length .dead) C.Gr { a with defers:=[{ target:=.collected w.heap.size,args:=#[] }]++a.defers } W5:=by
      intro C ho;rw[<-ab];exact z C ho
     rw[ab];obtain⟨k1,k2⟩:=Ib g4.pendOk;rw[g4.pend]
     cases hj:r2.pend.bind kU with
     | none=>rw[k1 hj];exact z .norm (k1 hj)
     | some c=>
      rcases k2 c hj with⟨rfl,e⟩|⟨id,rfl,e⟩
      .rw[e];exact wpIn_ret (z .ret e)
      .rw[e];exact wpIn_exit (z (.exit id) e)
   grind
  grind
 | _=>simp[exec,hg]at h
theorem yg (hE:ey P E) (hm:P.follows .mixedOrders=true) {call:dn} (hc:kF P call) (lf:Nat) (ro:Option Nat) (U:Bool) (aa:U=ro.isSome) (n:Nat) :
 ∀(c:Code) (I:ct) (μ:Mu) (F:Frame) (H:bg) (a:Act) (w:World) (o:Out) (F':Frame) (H':bg),exec E call lf U n c F H=some (o,F',H')->dV I μ n F a.tmps->cQ I μ H w ->
  jv B a.defers w->B<=w.heap.size->c.wpIn (fr ro) 0 P (Post B n I μ H w o F' H') a w:=by
 intro c
 induction c with
 | skip=>
  intro I μ F H a w o F' H' h r s m _;obtain⟨rfl,rfl,rfl⟩:=h;exact wpIn_skip ⟨rfl,⟨I,μ,r,s,.refl _ _ _ _⟩,m⟩
 | label l=>
  intro I μ F H a w o F' H' h r s m _;obtain⟨rfl,rfl,rfl⟩:=h;exact wpIn_label ⟨rfl,⟨I,μ,r,s,.refl _ _ _ _⟩,m⟩
 | region id ops X=>
  intro I μ F H a w o F' H' h r s m _;simp only[exec,ζf]at h;obtain⟨⟨F2,H2⟩,h,rfl,rfl,rfl⟩:=h;refine HC hE hm hc ro h r s (λa' I' μ' w' h1 z A Y=>⟨rfl,⟨I',μ',h1,A,Y⟩,?_⟩)
  rw[z];exact m.step s Y
 | seq x y C D=>
  intro I μ F H a w o F' H' h r s m u;simp[exec]at h;refine wpIn_seq ?_;split at h
  .rename_i F1 H1 h1;refine wpIn_mono (C I μ F H a w _ F1 H1 h1 r s m u) ?_;rintro e G J ⟨rfl,⟨I1,Z,r1,s1,L⟩,m1⟩;refine wpIn_mono (D I1 Z F1 H1 G J o F' H' h r1 s1 m1 (Nat.le_trans u L.size)) ?_;intro e a2 w2 hp;exact Post.mono s1 L hp
  .refine wpIn_mono (C I μ F H a w o F' H' h r s m u) ?_;rintro e G J ⟨rfl,z,A⟩
   cases o with
   | norm=>grind
   | exit id=>exact⟨rfl,z,A⟩
   | ret=>exact⟨rfl,z,A⟩
 | cond c x y C D=>
  intro I μ F H a w o F' H' h r s m u;simp[exec]at h;split at h
  .rename_i t S;have T:=(di r S).rm;refine wpIn_cond T ?_
   grind
  grind
 | block id c Q=>
  intro I μ F H a w o F' H' h r s m u;simp[exec]at h;refine wpIn_block ?_;split at h
  .rename_i O F1 H1 h1;refine wpIn_mono (Q I μ F H a w _ F1 H1 h1 r s m u) ?_;rintro e G J ⟨rfl,z,A⟩;show Exit.inBlock id _ (.exit O) G J;unfold Exit.inBlock;split at h
   .rename_i W;obtain⟨rfl,rfl,rfl⟩:=h;simp[W];exact⟨rfl,z,A⟩
   .rename_i W;obtain⟨rfl,rfl,rfl⟩:=h;simp[W];exact⟨rfl,z,A⟩
  .refine wpIn_mono (Q I μ F H a w o F' H' h r s m u) ?_;rintro e G J ⟨rfl,z,A⟩
   cases o with
   | norm=>exact⟨rfl,z,A⟩
   | exit O=>grind
   | ret=>exact⟨rfl,z,A⟩
 | loop c Q=>
  intro I μ F H a w o F' H' h r s m u;exact Kn (λI μ F H a w o F' H' h r s m u=>Q I μ F H a w o F' H' h r s m u) h r s m u
 | rangeFunc g ps assign body _ _=>
  intro I μ F H a w o F' H' h r s m u
  cases U with
  | true=>simp[exec]at h
  | false=>
   cases ro with
   | none=>exact IN hc h r s m u
   | some l=>simp_all
 | exit id=>
  intro I μ F H a w o F' H' h r s m _;obtain⟨rfl,rfl,rfl⟩:=h;exact wpIn_exit ⟨rfl,⟨I,μ,r,s,.refl _ _ _ _⟩,m⟩
 | ret=>
  intro I μ F H a w o F' H' h r s m _;obtain⟨rfl,rfl,rfl⟩:=h;exact wpIn_ret ⟨rfl,⟨I,μ,r,s,.refl _ _ _ _⟩,m⟩
 | scope body _=>intro I μ F H a w o F' H' h;simp[exec]at h
 | goto l=>intro I μ F H a w o F' H' h;simp[exec]at h
 | refuse ab=>intro I μ F H a w o F' H' h;simp[exec]at h
end
end Go.VE
namespace Go.VE
variable [bS]
theorem si {f g:V->Option V} (h:∀x y,f x=some y->g x=some y):∀{l:List V} {r:List V},iR f l=some r->iR g l=some r
 | [],_,hr=>hr
 | x::l,r,hr=>by
  simp only[iR]at hr ⊢;split at hr
  .rename_i y s h1 B;rw[h _ _ h1,si h B];exact hr
  .cases hr
theorem HD {f g:V->Option V} (h:∀x y,f x=some y->g x=some y):∀{l:List (List V)} {r:List (List V)},lz f l=some r->lz g l=some r
 | [],_,hr=>hr
 | x::l,r,hr=>by
  simp only[lz]at hr ⊢;split at hr
  .rename_i y s h1 B;rw[si h h1,HD h B];exact hr
  .cases hr
theorem GC {f g:V->Option V} (h:∀x y,f x=some y->g x=some y):∀{l:List (V×V)} {r:List (V×V)},k_ f l=some r->k_ g l=some r
 | [],_,hr=>hr
 | (k,x)::l,r,hr=>by
  simp only[k_]at hr ⊢;split at hr
  .rename_i y s u h1 B D;rw[h _ _ h1,h _ _ B,GC h D];exact hr
  .cases hr
theorem IU {H:bg}:∀(n:Nat) (x y:V),borrow n H x=some y->borrow (n+1) H x=some y:=by
 intro n
 induction n with
 | zero=>
  intro x y h;simp only[borrow]at h;split at h
  .rename_i hc;rw[mA _ _ hc];exact h
  .cases h
 | succ n w=>
  intro x y h;unfold borrow at h ⊢;split
  .rename_i hc;rw[if_pos hc]at h;exact h
  .rename_i hc;rw[if_neg hc]at h
   cases x with
   | hsl id es off len=>
    simp only at h ⊢;split at h
    .split at h
     .rename_i q;rw[if_pos q];obtain⟨r,h1,u⟩:=ζf.1 h;rw[HD w h1];exact congrArg some u
     .cases h
    .cases h
   | hptr id el off=>
    simp only at h ⊢;split at h
    .split at h
     .split at h
      .rename_i q;rw[if_pos q];obtain⟨r,h1,u⟩:=ζf.1 h;rw[si w h1];exact congrArg some u
      .cases h
     .cases h
    .cases h
   | hmap id=>
    simp only at h ⊢;split at h
    .obtain⟨r,h1,u⟩:=ζf.1 h;rw[GC w h1];exact congrArg some u
    .cases h
   | clo f a b=>
    simp only at h ⊢;split at h
    .rename_i h1 u;rw[si w h1,si w u];exact h
    .cases h
   | agg cs=>
    simp only at h ⊢;obtain⟨r,h1,u⟩:=ζf.1 h;rw[si w h1];exact congrArg some u
   | tup cs=>
    simp only at h ⊢;obtain⟨r,h1,u⟩:=ζf.1 h;rw[si w h1];exact congrArg some u
   | _=>cases h
theorem rX {H:bg} {n m:Nat} (h:n<=m) {x y:V} (B:borrow n H x=some y):borrow m H x=some y:=by
 induction h with
 | refl=>exact B
 | step _ u=>exact IU _ _ _ u
theorem sG {H:bg} {n m:Nat} (h:n<=m) {l r:List V} (B:borrows n H l=some r):borrows m H l=some r:=si (λ_ _=>rX h) B
theorem B_ {f g:V->List Nat}:∀{l:List V},(∀x∈l,f x=g x)->cK f l=cK g l
 | [],_=>rfl
 | x::l,h=>by simp only[cK];rw[h x (List.mem_cons_self ..),B_ λy B=>h y (List.mem_cons_of_mem _ B)]
theorem qa {f:V->Option V}:∀{l r:List V},iR f l=some r->∀x∈l,∃y,f x=some y
 | [],_,_,x,hx=>by cases hx
 | a::l,r,h,x,hx=>by
  simp only[iR]at h;split at h
  .rename_i y s h1 B;rcases List.mem_cons.1 hx with rfl|hx
   .exact⟨y,h1⟩
   .exact qa B x hx
  .cases h
theorem EZ {f:V->Option V}:∀{l r:List (List V)},lz f l=some r->∀c∈l,∀x∈c,∃y,f x=some y
 | [],_,_,x,B=>by cases B
 | a::l,r,h,c,hc=>by
  simp only[lz]at h;split at h
  .rename_i y s h1 D;rcases List.mem_cons.1 hc with rfl|hc
   .exact qa h1
   .exact EZ D c hc
  .cases h
theorem z8 {f:V->Option V}:∀{l r:List (V×V)},k_ f l=some r->∀c∈l,(∃y,f c.1=some y)/\∃y,f c.2=some y
 | [],_,_,x,B=>by cases B
 | (k,a)::l,r,h,c,hc=>by
  simp only[k_]at h;split at h
  .rename_i y s u h1 D G;rcases List.mem_cons.1 hc with rfl|hc
   .exact⟨⟨y,h1⟩,s,D⟩
   .exact z8 G c hc
  .cases h
theorem Lx {H:bg}:∀(n:Nat) (x y:V),borrow n H x=some y->b_ (n+1) H x=b_ n H x:=by
 intro n
 induction n with
 | zero=>
  intro x y h;simp only[borrow]at h;split at h
  .rename_i hc;simp[b_,hc]
  .cases h
 | succ n G=>
  intro x y h;have u:∀l:List V,(∀x∈l,∃y,borrow n H x=some y)->cK (b_ (n+1) H) l=cK (b_ n H) l:=λl I=>B_ λx w=>by
   obtain⟨y,J⟩:=I x w;exact G x y J
  unfold borrow at h;rw[b_.eq_def (n+1+1),b_.eq_def (n+1)];simp only;split
  .rfl
  .rename_i hc;rw[if_neg hc]at h
   cases x with
   | hsl id es off len=>
    simp only at h ⊢
    cases hr:(H[id]?).bind Ob.rows with
    | none=>rfl
    | some q=>
     obtain⟨B,L⟩:=q;rw[hr]at h;simp only at h ⊢;split at h
     .obtain⟨r,h1,z⟩:=ζf.1 h;rw[u _ λx w=>by
       obtain⟨c,hc,C⟩:=List.mem_flatten.1 w;exact EZ h1 c hc x C]
     .cases h
   | hptr id el off=>
    simp only at h ⊢
    cases hr:(H[id]?).bind Ob.rows with
    | none=>rfl
    | some q=>
     obtain⟨B,L⟩:=q;rw[hr]at h;simp only at h ⊢;split at h
     .rename_i cs D;split at h
      .obtain⟨r,h1,z⟩:=ζf.1 h;rw[u _ λx w=>qa h1 x (by rw[D]at w;exact w)]
      .cases h
     .cases h
   | hmap id=>
    simp only at h ⊢;split at h
    .rename_i A hk;obtain⟨r,h1,z⟩:=ζf.1 h
     skip
     rw[u (A.map (·.1)) λx w=>by obtain⟨c,hc,rfl⟩:=List.mem_map.1 w;exact(z8 h1 c hc).1,
      u (A.map (·.2)) λx w=>by obtain⟨c,hc,rfl⟩:=List.mem_map.1 w;exact(z8 h1 c hc).2]
    .cases h
   | clo f a b=>
    simp only at h ⊢;split at h
    .rename_i h1 z;rw[u _ (qa h1),u _ (qa z)]
    .cases h
   | agg cs=>
    simp only at h ⊢;obtain⟨r,h1,z⟩:=ζf.1 h;exact u _ (qa h1)
   | tup cs=>
    simp only at h ⊢;obtain⟨r,h1,z⟩:=ζf.1 h;exact u _ (qa h1)
   | _=>rfl
theorem PY {H:bg} {n m:Nat} (h:n<=m) {x y:V} (B:borrow n H x=some y):b_ m H x=b_ n H x:=by
 induction h with
 | refl=>rfl
 | step h u=>rw[Lx _ _ _ (rX h B),u]
theorem yG {H:bg} {n m:Nat} (h:n<=m) {l r:List V} (B:borrows n H l=some r):cK (b_ m H) l=cK (b_ n H) l:=
 B_ λx u=>by obtain⟨y,w⟩:=qa B x u;exact PY h w
theorem nS {f g h:V->Option V} (k:∀x y z,f x=some y->g x=some z->h x=some z):∀{l r s:List V},iR f l=some r->iR g l=some s->iR h l=some s
 | [],_,_,_,B=>B
 | x::l,r,s,hr,B=>by
  simp only[iR]at hr B ⊢;split at hr
  .rename_i h1 D;split at B
   .rename_i G J;rw[k _ _ _ h1 G,nS k D J];exact B
   .cases B
  .cases hr
theorem Cy {f g h:V->Option V} (k:∀x y z,f x=some y->g x=some z->h x=some z):∀{l r s:List (List V)},lz f l=some r->lz g l=some s->lz h l=some s
 | [],_,_,_,B=>B
 | x::l,r,s,hr,B=>by
  simp only[lz]at hr B ⊢;split at hr
  .rename_i h1 D;split at B
   .rename_i G J;rw[nS k h1 G,Cy k D J];exact B
   .cases B
  .cases hr
theorem Dc {f g h:V->Option V} (k:∀x y z,f x=some y->g x=some z->h x=some z):∀{l r s:List (V×V)},k_ f l=some r->k_ g l=some s->k_ h l=some s
 | [],_,_,_,B=>B
 | (a,x)::l,r,s,hr,B=>by
  simp only[k_]at hr B ⊢;split at hr
  .rename_i h1 D G;split at B
   .rename_i J U W;rw[k _ _ _ h1 J,k _ _ _ D U,Dc k G W];exact B
   .cases B
  .cases hr
theorem Jb {H H2:bg}:∀(n m:Nat) (x y z:V),borrow n H x=some y->borrow m H2 x=some z->(∀id:Nat,(H2[id]?).isSome=true->H2[id]? = H[id]?)->borrow n H2 x=some z:=by
 intro n
 induction n with
 | zero=>
  intro m x y z h k _;simp only[borrow]at h;split at h
  .rename_i hc;rw[mA _ _ hc]at k ⊢;exact k
  .cases h
 | succ n G=>
  intro m x y z h k A
  by_cases hc:x.closed=true
  .rw[mA _ _ hc]at k ⊢;exact k
  cases m with
  | zero=>simp only[borrow,if_neg hc]at k;cases k
  | succ m=>
   have u:∀x y z,borrow n H x=some y->borrow m H2 x=some z->borrow n H2 x=some z:=λx y z a b=>G m x y z a b A
   unfold borrow at h k ⊢;rw[if_neg hc]at h k ⊢;have row:∀id q,(H2[id]?).bind Ob.rows=some q->(H[id]?).bind Ob.rows=some q:=λid q B=>by
    rw[<-A id (by cases C:H2[id]? with|none=>rw[C]at B;cases B|some _=>rfl)];exact B
   cases x with
   | hsl id es off len=>
    simp only at h k ⊢;split at k
    .rename_i hr;rw[row _ _ hr]at h;simp only at h;split at k
     .rename_i q;rw[if_pos q]at h ⊢;obtain⟨r,h1,_⟩:=ζf.1 h;obtain⟨s,k1,w⟩:=ζf.1 k;rw[Cy u h1 k1];exact congrArg some w
     .cases k
    .cases k
   | hptr id el off=>
    simp only at h k ⊢;split at k
    .rename_i hr;rw[row _ _ hr]at h;simp only at h;split at k
     .rename_i D;rw[D]at h;simp only at h;split at k
      .rename_i q;rw[if_pos q]at h ⊢;obtain⟨r,h1,_⟩:=ζf.1 h;obtain⟨s,k1,w⟩:=ζf.1 k;rw[nS u h1 k1];exact congrArg some w
      .cases k
     .cases k
    .cases k
   | hmap id=>
    simp only at h k ⊢;split at k
    .rename_i hr;rw[<-A id (by rw[hr];rfl),hr]at h
     simp only at h;obtain⟨r,h1,_⟩:=ζf.1 h;obtain⟨s,k1,w⟩:=ζf.1 k;rw[Dc u h1 k1];exact congrArg some w
    .cases k
   | clo f a b=>
    simp only at h k ⊢;split at h
    .rename_i h1 C;split at k
     .rename_i k1 w;rw[nS u h1 k1,nS u C w];exact k
     .cases k
    .cases h
   | agg cs=>
    simp only at h k ⊢;obtain⟨r,h1,_⟩:=ζf.1 h;obtain⟨s,k1,w⟩:=ζf.1 k;rw[nS u h1 k1];exact congrArg some w
   | tup cs=>
    simp only at h k ⊢;obtain⟨r,h1,_⟩:=ζf.1 h;obtain⟨s,k1,w⟩:=ζf.1 k;rw[nS u h1 k1];exact congrArg some w
   | _=>cases h
end Go.VE
namespace Go.VE
variable [bS]
open Go.Proofs Go.Sort
structure AK (P:Program) (f:FuncId):Prop where
 ok:ye P f
 zero:∀(p:Option Addr) (cap:Nat) (fv:Value) (w:World),Calls P f #[.slice p 0 cap,fv] w λe w'=>e=.returned (.tuple #[])/\w'=w
 all:∀{α:Type} [Inhabited α] (enc:α->Value) (_:OneCell enc) (cf:α->α->Int) (_:SWO (ltOf cf)) (g:Nat) (cb:Array Value) (blk off cap:Nat) (d:Array α) (w:World)
  (_:∀args w,(callFunc g args).run P w=.ok (.enter g args) w) (_:CmpLays1 P g cb enc cf blk off d.size w) (_:Holds enc w blk off d) (_:blk<w.heap.size) (_:d.size<4611686018427387904),
  Calls P f #[.slice (some ⟨blk,off,none⟩) d.size cap,.func (.func g) #[] cb] w λe w'=>
   e=.returned (.tuple #[])/\∃n os,w'=sortWorld enc w blk off n (pdq (ltOf cf) d 0 d.size (Lib.bitLen d.size) true true) os
theorem Jg {α:Type} [Inhabited α] (lt:α->α->Bool):∀(k i:Nat) (d:Array α),Io lt k i d=insOuter lt 0 (i+k) i d
 | 0,i,d=>by rw[insOuter];simp[Io]
 | k+1,i,d=>by
  rw[insOuter,Io,Jg lt k]
  grind
theorem Py (n:Nat) (lt:Fin (n+1)->Fin (n+1)->Bool):Kq n lt=pdq lt (List.finRange (n+1)).toArray 0 (n+1) (Lib.bitLen (n+1)) true true:=by
 unfold Kq;split
 .rw[pdq,if_pos (by omega),insertionSort,Jg,Nat.add_comm 1 n]
 .rfl
theorem Dh {n:Nat} {t:Fin (n+1)->Fin (n+1)->Option Int} (h:Rg t=true):(∀i j,∃c,t i j=some c)/\SWO (xP t):=by
 have u:∀(p:Fin (n+1)->Bool),(List.finRange (n+1)).all p=true->∀i,p i=true:=λp h i=>List.all_eq_true.1 h i (List.mem_finRange i)
 have h1:=λi=>u _ h i
 simp only[ζh,Bool.not_eq_true']at h1;have w:=λi j=>u _ (h1 i).2 j
 simp only[ζh]at w;have z:=λi j k=>u _ (w i j).2 k
 refine⟨λi j=>Option.isSome_iff_exists.1 (w i j).1,λi=>(h1 i).1,λi j k a b=>?_,λi j k a b=>?_⟩
 .have:=z i j k;grind
 grind
section
variable {P:Program} {I I':ct} {μ μ':Mu} {H H':bg} {w w':World}
theorem Ef (w:World) (os:Array Obj) (b:Nat) (h:b<w.heap.size):(grow w os).heap[b]? = w.heap[b]? := by
 unfold grow;grind
theorem Calls.fr {f:FuncId} {args:Array Value} {R:Ending->World->Prop} (h:Calls P f args w R):CallsIn (fr none) 0 P f args w R:=callsIn_wide.2 h
theorem CallsIn.un {f:FuncId} {args:Array Value} {R:Ending->World->Prop} (h:CallsIn (fr none) 0 P f args w R):Calls P f args w R:=callsIn_wide.1 h
theorem Qd {p:Pl} {c:Array Value} {xs:List (List V)} (B:p.es=1) (D:c.size=p.sz) (hr:p.o+xs.length<=c.size)
 (h:∀(i:Nat) x,xs[i]? = some x->∃v u,x=[v]/\V.one v=true/\c[p.o+i]? = some u/\bF I μ v u):gb I μ p c 1 xs:=by
 have hu:∀x∈xs,x.length=1:=λx w=>by
  obtain⟨i,hi⟩:=List.getElem?_of_mem w
  grind
 have A:xs.flatten.length=xs.length:=by rw[fN hu,Nat.mul_one]
 refine⟨B,D,hu,λx w y C=>?_,by omega,⟨?_,λj a b h1 G=>?_⟩⟩
 .obtain⟨i,hi⟩:=List.getElem?_of_mem w
  grind
 .grind
 .have z:j<xs.length:=by have:=(ζe.1 h1).1;omega
  obtain⟨v,u,e,_,J,L⟩:=h j xs[j] (by simp[z])
  have:=vL  hu (i:=j) (j:=0) (x:=xs[j])  (by simp[z]) (by rw[e];rfl)
  simp_all
theorem vK {p:Pl} {c:Array Value} {xs:List (List V)} (r:gb I μ p c 1 xs) (i:Nat) {x:List V} (h:xs[i]? = some x):∃v u,x=[v]/\V.one v=true/\c[p.o+i]? = some u/\bF I μ v u:=by
 have w:=List.mem_of_getElem? h;obtain⟨v,rfl⟩:=List.length_eq_one_iff.1 (r.o6 x w);have hi:=(ζe.1 h).1;have z  := by have:=r.room;omega
 refine⟨v,c[p.o+i],rfl,r.one _ w v (by simp),by simp_all,?_⟩
 exact r.idx  (j:=0) h rfl (by simp_all)
theorem RW {α:Type} [Inhabited α] (enc:α->Value) (blk o m:Nat) (B:Array α) (os:Array Obj) {b:Nat} (G:b<w.heap.size) (D:b≠blk):(sortWorld enc w blk o m B os).heap[b]? = w.heap[b]? := by
 unfold sortWorld;rw[Ef _ _ _ (by simp_all)]
 simp[putRow,mapBlock,Sort.ahead,Array.getElem?_modify,if_neg (Ne.symm D)]
theorem IP {α:Type} [Inhabited α] (enc:α->Value) {blk:Nat} (o m:Nat) (B:Array α) {c:Array Value} {el:TypeId} (h:w.heap[blk]? = some (.cells c el)) :
 putRow enc (Sort.ahead w m) blk o B=fT (Sort.ahead w m) blk (.cells (Sort.putCells enc o B c) el):=by
 unfold putRow mapBlock fT Sort.ahead
 congr 1
 obtain⟨u,e⟩:=Array.getElem?_eq_some_iff.1 h;apply Array.ext
 .simp
 .intro i h1 z
  by_cases hi:i=blk
  .subst hi;simp[Array.getElem_modify,e,onCells]
  grind
theorem Step.grown (st:Step I (λ_=>none) [] w I' μ' H' w'):∃q os,w'=grow (w.drewN q) os:=by
 refine⟨w'.drawn-w.drawn,w'.heap.extract w.heap.size w'.heap.size,?_⟩;have u:w'.heap=w.heap++w'.heap.extract w.heap.size w'.heap.size:=by
  apply Array.ext_getElem?;intro i
  by_cases hi:i<w.heap.size
  .rw[Array.getElem?_append_left hi];exact st.frame i hi (by rintro⟨id,p,ob,h,_⟩;simp at h)
  .rw[Array.getElem?_append_right (by omega)]
   simp[Array.getElem?_extract]
   by_cases B:i<w'.heap.size
   .rw[if_pos (by omega)];congr 1;omega
   .rw[if_neg (by omega),Array.getElem?_eq_none (by omega)]
 have h1:=st.os;have z:=st.out.out;have A:=st.out.tape;have C:=st.out.dr;unfold grow World.drewN;cases w';simp only at *;subst h1 z A;simp[World.mk.injEq];exact⟨u,by omega⟩
theorem LK {call B:dn} {g:FuncId} {G D:List V} {n:Nat} (h:∀args y,cz call g args []=some y->cz B g args []=some y) {i j:Fin (n+1)} {z:Int} (J:jU call g G D n i j=some z):jU B g G D n i j=some z:=by
 unfold jU at J ⊢
 grind
theorem Da {keep:FuncId->Bool} {call B:dn} (D:call.lv<=B.lv) (h:∀g args y,keep g=false->cz call g args []=some y->cz B g args []=some y) {args:List V} {r:V×bg} (hr:vr keep call args H=some r):vr keep B args H=some r:=by
 unfold vr at hr ⊢;split at hr
 .split at hr
  .omega
  .omega
  .split at hr
   .omega
   .split at hr
    .rename_i n g cb _ L Q G;split at hr
     .rename_i u;split at hr
      .rename_i I w C A;rw[sG D C,sG D A];split at hr
       .rename_i O;have e:jU B g I w n=jU call g I w n:=by
         funext i j
         obtain⟨z,J⟩:=(Dh O).1 i j;rw[J];exact LK (λa y=>h g a y u.2.2.2.2) J
        grind
       simp_all
      simp_all
     simp_all
    simp_all
   simp_all
  simp_all
 simp_all
set_option maxHeartbeats 1000000 in
theorem RB {call:dn} (hc:kF P call) {f:FuncId} (hs:AK P f) {args:List V} {r:V} {keep:FuncId->Bool} (h:vr keep call args H=some (r,H')) (s:cQ I μ H w) {vs:List Value} (hv:cF I μ args vs) :
 CallsIn (fr none) 0 P f vs.toArray w (xR I μ H w r H'):=by
 unfold vr at h;split at h
 .rename_i sv cv;obtain⟨v1,r1,rfl,ab,aC⟩:=hv.cons_inv;obtain⟨v2,r2,rfl,aD,aE⟩:=aC.cons_inv;obtain rfl:=aE.vu;have S:∀p cap,v1=.slice p 0 cap->CallsIn (fr none) 0 P f [v1,v2].toArray w (xR I μ H w .undef H):=by
   rintro p cap rfl;refine Calls.fr ((hs.zero p cap v2 w).mono ?_);rintro e w' ⟨rfl,rfl⟩;exact⟨_,I,μ,rfl,bF.undef _ _,s,Step.refl _ _ _ _⟩
  split at h
  .cases h;exact S none 0 ab.lU
  .cases h;obtain⟨a,e⟩:=ab.rO;exact S a 0 e
  .rename_i id es off len;split at h
   .cases h;rcases ab.lQ with⟨p,cap,_,_,_,_,e⟩|⟨_,a,e⟩
    .exact S _ cap e
    .exact S _ 0 e
   .rename_i n g cb;split at h
    .rename_i aS O J;split at h
     .rename_i ak;obtain⟨rfl,rfl,aQ,hn,_⟩:=ak;split at h
      .rename_i Y C aF ap;split at h
       .rename_i aq;cases h;obtain⟨p,c,el,hp,hI,G,Q⟩:=s.obs id _ J;rcases ab.lQ with⟨q,cap,hq,aT,aR,aG,rfl⟩|⟨h0,_⟩
        .rw[hp]at hq;cases hq;obtain⟨va,vb,rfl,hva,ar⟩:=aD.kN;have au:va=#[]:=by have:=hva.vu;simpa using this
         subst au;have al:=(ζe.1 J).1;obtain⟨sk,_⟩:=s.kill J;generalize hT:cK (b_ call.lv (H.set id .dead)) (((O.drop off).take (n+1)).flatten++cb)=T;have aH:plus I μ (H.set id .dead) w T p.b=none:=by
          cases A:plus I μ (H.set id .dead) w T p.b with
          | none=>rfl
          | some x=>
           exfalso;rcases ya (by rw[A];rfl)with h|⟨av,p',ob,_,g1,g2,g3,g4⟩
           .rw[hI]at h;cases h
           .have aw:av≠id:=by
             rintro rfl;rw[List.getElem?_set_self al]at g1;cases g1;simp[Ob.live]at g2
            rw[List.getElem?_set_ne (Ne.symm aw)]at g1;exact aw (s.inj av id ob (.row 1 O) p' p g1 J g2 rfl g3 hp g4)
         let enc:Fin (n+1)->Value:=λi=>(c[p.o+off*1+i.1]?).getD undef
         have Z:∀i:Fin (n+1),∃v,O[off+i.1]? = some [v]/\V.one v=true/\bF I μ v (enc i)/\c[p.o+off*1+i.1]? = some (enc i):=λi=>by
          obtain⟨v,u,e1,e2,e3,e4⟩:=vK Q (off+i.1) (x:=O[off+i.1]'(by omega)) (by simp)
          have e5:c[p.o+off*1+i.1]? = some u:=by rw[<-e3];congr 1;omega
          have e6:enc i=u:=by show (c[p.o+off*1+i.1]?).getD undef=u;rw[e5];rfl
          exact⟨v,by rw[<-e1];simp,e2,by rw[e6];exact e4,by rw[e5,e6]⟩
         have h1:OneCell enc:=λi=>by obtain⟨v,_,e2,e3,_⟩:=Z i;exact e3.one e2
         obtain⟨ax,ad⟩:=Dh aq;obtain⟨aU,aI⟩:=iU aF;obtain⟨aJ,aK⟩:=iU ap;have ay:∀x∈(O.drop off).take (n+1),x.length=1:=λx A=>Q.o6 x (List.mem_of_mem_drop (List.mem_of_mem_take A))
         have U:∀(i:Fin (n+1)) u,Y[i.1]? = some u->eu (plus I μ (H.set id .dead) w T) u (enc i):=λi u hu=>by
          obtain⟨x,A,am⟩:=aI i.1 u hu;obtain⟨v,e1,_,e3,_⟩:=Z i;have e4:((O.drop off).take (n+1))[i.1]? = some [v]:=by
           rw[List.getElem?_take,if_pos i.2,List.getElem?_drop];exact e1
          have e5:=vL (es:=1) ay (i:=i.1) (j:=0) e4 rfl;have e5:((O.drop off).take (n+1)).flatten[i.1]? = some v:=by simpa using e5
          rw[e5]at A;cases A;refine(um sk T call.lv _ u _ am (λk hk=>?_) e3).1
          rw[<-hT];exact jY (List.mem_append_left _ (List.mem_of_getElem? e5)) hk
         have aa:cF (plus I μ (H.set id .dead) w T) (λ_=>none) C vb.toList:=by
          refine⟨aJ.trans ar.1,λj a b k1 k2=>?_⟩
          obtain⟨x,A,am⟩:=aK j a k1;refine .c _ _ (um sk T call.lv x a b am (λk hk=>?_) (ar.2 j x b A k2)).1
          rw[<-hT];exact jY (List.mem_append_right _ (List.mem_of_getElem? A)) hk
         have ae:=(Array.getElem?_eq_some_iff.1 G).1
         let d:Array (Fin (n+1)):=(List.finRange (n+1)).toArray
         have an:d.size=n+1:=by simp[d]
         have hd:∀j:Fin (n+1),d[j.1]! = j:=λj=>by simp[d,getElem!_pos]
         have hg:∀i j:Fin (n+1),∃z,jU call g Y C n i j=some z/\∃a b,Y[i.1]? = some a/\Y[j.1]? = some b/\cz call g (a::b::C) []=some (.int .i64 z):=λi j=>by
          obtain⟨z,hz⟩:=ax i j;have W:=hz;unfold jU at W;split at W
          .rename_i a b ha X;split at W
           .rename_i z' B;cases W;exact⟨z,hz,a,b,ha,X,B⟩
           .cases W
          .cases W
         have aL:ye P g:=by
          obtain⟨z,_,a,b,ha,X,B⟩:=hg 0 0;have s0:cQ (plus I μ (H.set id .dead) w T) (λ_=>none) [] w:=⟨λ_ _=>rfl,tq sk T,by simp,by simp,sk.gl.mono (oW _ _ _ _ _)⟩
          exact(C0 hc B s0 (.cons (.c _ _ (U 0 a ha)) (.cons (.c _ _ (U 0 b X)) aa))).1
         have key:=hs.all enc h1 (λi j=>(jU call g Y C n i j).getD 0) ad g vb p.b (p.o+off*1) cap d w (λargs w=>xk aL args) (by
          intro m os D aV i j;obtain⟨z,hz,a,b,ha,X,B⟩:=hg i j;have s0:cQ (plus I μ (H.set id .dead) w T) (λ_=>none) [] (sortWorld enc w p.b (p.o+off*1) m D os):=
           ⟨λ_ _=>rfl,λb x X=>IC.rN (tq sk T b x X) (RW enc p.b _ m D os (IC.t_ (tq sk T b x X)) (by rintro rfl;rw[aH]at X;cases X)),by simp,by simp,sk.gl.mono (oW _ _ _ _ _)⟩
          have:=CallsIn.un (C0 hc B s0 (vs:=enc i::enc j::vb.toList) (.cons (.c _ _ (U i a ha)) (.cons (.c _ _ (U j b X)) aa))).2;rw[show (enc i::enc j::vb.toList).toArray=#[enc i,enc j]++vb by apply Array.ext';simp]at this
          refine this.mono ?_;rintro e w' ⟨u,I1,μ1,rfl,hu,s1,st⟩;exact⟨by rw[hu.fu];show _=Ending.returned (.int .i64 ((jU call g Y C n i j).getD 0));rw[hz];rfl,st.grown⟩) (by
          intro j hj;have aA:j<n+1:=by omega
          obtain⟨v,_,_,_,e4⟩:=Z ⟨j,aA⟩;rw[hd ⟨j,aA⟩];exact⟨by rw[vw G];exact e4,by simp[World.frozen?,G]⟩) ae (by omega)
         rw[an]at key;refine Calls.fr (key.mono ?_);rintro e w' ⟨rfl,m,os,rfl⟩;have aM:ltOf (λi j=>(jU call g Y C n i j).getD 0)=xP (jU call g Y C n):=rfl
         rw[aM,Py];have af:=pdq_sorts (xP (jU call g Y C n)) ad d 0 d.size (Lib.bitLen d.size) true true (Nat.zero_le _) (Nat.le_refl _) (Or.inl rfl);rw[an]at af;have L:=af.1.1;change xR I μ H w .undef (H.set id (.row 1 (y7 O off n (pdq (xP (jU call g Y C n)) d 0 (n+1) (Lib.bitLen (n+1)) true true).toList))) _ _;generalize pdq (xP (jU call g Y C n)) d 0 (n+1) (Lib.bitLen (n+1)) true true=D at L;rw[an]at L;unfold sortWorld;rw[IP enc _ m D G];have s1:cQ I μ H (Sort.ahead w m):=s.oI rfl;have aN:Step I μ H w I μ H (Sort.ahead w m):=Step.oI rfl rfl ⟨rfl,rfl,Nat.le_add_right _ _⟩;have ah:(Sort.putCells enc (p.o+off*1) D c).size=c.size:=by simp[Sort.putCells]
         have ai:∀i:Nat,(i<p.o+off*1\/p.o+off*1+(n+1)<=i)->(Sort.putCells enc (p.o+off*1) D c)[i]? = c[i]? := λi hi=>by
          simp only[Sort.putCells,Array.getElem?_mapIdx];rw[L]
          cases c[i]? with
          | none=>rfl
          | some y=>simp only[Option.map_some];rw[if_neg (by omega)]
         have ao:∀i:Fin (n+1),(Sort.putCells enc (p.o+off*1) D c)[p.o+off*1+i.1]? = some (enc D[i.1]!):=λi=>by
          obtain⟨v,_,_,_,e4⟩:=Z i;simp only[Sort.putCells,Array.getElem?_mapIdx,e4,Option.map_some];rw[if_pos ⟨by omega,by rw[L];omega⟩]
          congr 3;omega
         have aB:=Q.room;have aO:(y7 O off n D.toList).length=O.length:=by simp[y7,L];omega
         obtain⟨s2,st2⟩:=s1.write (o:=.cells (Sort.putCells enc (p.o+off*1) D c) el) (ob':=.row 1 (y7 O off n D.toList)) J rfl hp
          ⟨p,_,el,hp,hI,iz _ ae,Qd Q.es_eq (by rw[ah];exact Q.sz) (by rw[aO,ah];omega) λi x A=>by
           unfold y7 at A
           by_cases c1:i<off
           .rw[List.append_assoc,List.getElem?_append_left (by simp;omega),List.getElem?_take,if_pos c1]at A
            obtain⟨v,u,e1,e2,e3,e4⟩:=vK Q i A;exact⟨v,u,e1,e2,by rw[ai _ (by omega)];exact e3,e4⟩
           .by_cases c2:i<off+(n+1)
            .rw[List.getElem?_append_left (by simp[L];omega),List.getElem?_append_right (by simp;omega)]at A
             have aj:i-off<D.size:=by omega
             have e0:(O.take off).length=off:=by simp;omega
             simp only[e0,List.getElem?_map,Array.getElem?_toList]at A;rw[Array.getElem?_eq_getElem aj]at A;simp only[Option.map_some,ζa]at A;obtain⟨v,e1,e2,e3,e4⟩:=Z D[i-off];rw[e1]at A;simp only[Option.getD_some]at A;refine⟨v,enc D[i-off],A.symm,e2,?_,e3⟩;have:=ao ⟨i-off,by omega⟩
             simp only[getElem!_pos D (i-off) aj]at this;rw[<-this];congr 1;omega
            .rw[List.getElem?_append_right (by simp[L];omega),List.getElem?_drop]at A
             have e0:off+(n+1)+(i-((O.take off)++D.toList.map (λi=>(O[off+i.1]?).getD [])).length)=i:=by simp[L];omega
             rw[e0]at A;obtain⟨v,u,e1,e2,e3,e4⟩:=vK Q i A;exact⟨v,u,e1,e2,by rw[ai _ (by omega)];exact e3,e4⟩⟩
         have hk:∀b,b<(fT (Sort.ahead w m) p.b (.cells (Sort.putCells enc (p.o+off*1) D c) el)).heap.size->(grow (fT (Sort.ahead w m) p.b (.cells (Sort.putCells enc (p.o+off*1) D c) el)) os).heap[b]? = (fT (Sort.ahead w m) p.b (.cells (Sort.putCells enc (p.o+off*1) D c) el)).heap[b]? := λb X=>Ef _ _ _ X
         have aP:=Step.kept (I:=I) (μ:=μ) (H:=H.set id (.row 1 (y7 O off n D.toList))) hk (by simp[grow]) rfl ⟨rfl,rfl,Nat.le_refl _⟩ (λa ha h=>by unfold World.frozen? at h ⊢;rw[hk _ ha];exact h)
         exact⟨_,I,μ,rfl,bF.undef _ _,s2.kept hk,Step.trans s1 aN (Step.trans s2 st2 aP)⟩
        .cases h0
       .cases h
      .cases h
     .cases h
    .cases h
   .cases h
  .cases h
 .cases h
end
def Ce (P:Program) (f:FuncId) (args:List V) (y:V):Prop:=ye P f/\∀I μ H w u,cQ I μ H w->cF I μ args u->CallsIn (fr none) 0 P f u.toArray w (xR I μ H w y H)
theorem MJ {P:Program} {call:dn} (hc:kF P call) {f:FuncId} {b:Bool} {H':bg} (h:call (.fn f) [] []=some (.bool b,H')):Ce P f [] (.bool b):=by
 have hi:∀H,cz call f [] H=some (.bool b):=by
  intro H;unfold cz;rw[show borrows call.lv H []=some []from rfl];simp only[h,mA _ H' (show (V.bool b).closed=true from rfl)];rfl
 refine⟨?_,λI μ H w u s hv=>(C0 hc (hi H) s hv).2⟩
 obtain⟨h1,_⟩:=hc.fn _ _ _ _ _ h;omega
structure TW (P:Program) (E:Env):Prop where
 sort:∀f,E.sort f=true->AK P f
 known:∀f args y,E.known f args=some y->Ce P f args y
end Go.VE
namespace Go.VE
variable [bS]
section
variable {P:Program} {E:Env} {I I':ct} {μ μ':Mu} {H H':bg} {n B:Nat} {F F':Frame} {a:Act} {w w':World}
theorem JV:∀(F:Frame) (t:Nat),F.length<=t->get F t=.undef
 | [],_,_=>rfl
 | _::_,0,h=>by simp_all
 | _::r,i+1,h=>JV r i (by grind)
theorem Ii:∀(F:Frame) (t:Nat) (x:V),F[t]? = some x->get F t=x
 | [],_,_,h=>by simp_all
 | _::_,0,_,h=>by simpa [get]using h
 | _::r,i+1,x,h=>Ii r i x (by grind)
theorem LI (hg:tU I) {args:List V} {vs:List Value} {nt:Nat} (h:cF I μ args vs) (B:args.length<=nt) :
 dV I μ nt args (vs.toArray++Array.replicate (nt-vs.toArray.size) undef):=by
 have u  := h.1;refine⟨by simp_all,λt=>?_,hg⟩
 by_cases A:t<args.length
 .have h1:args[t]? = some args[t]:=by simp_all
  have w:t<vs.length:=by omega
  have z:vs[t]? = some vs[t]:=by simp_all
  rw[Ii _ _ _ h1];have:(vs.toArray++Array.replicate (nt-vs.toArray.size) undef).getD t undef=vs[t]:=by
   rw[Array.getD_eq_getD_getElem?,Array.getElem?_append_left (by grind)]
   simp_all
  rw[this];exact h.2 t _ _ h1 z
 .rw[JV _ _ (by omega)]
  have:(vs.toArray++Array.replicate (nt-vs.toArray.size) undef).getD t undef=undef:=by
   rw[Array.getD_eq_getD_getElem?,Array.getElem?_append_right (by simp_all),Array.getElem?_replicate]
   grind
  rw[this];exact bF.undef _ _
theorem N_ (r:dV I μ n F a.tmps) {t:Nat} {x:V} {v:Value} (B:t<n) (h:bF I μ x v):dV I μ n (set F t x) (a.tmps.setIfInBounds t v):=by
 have:=dV.put  (dst:=some t) r h (F':=set F t x) (by simp[jK,B])
 simpa [Act.put]using this
theorem Bt:∀(ps:List Nat) (xs:List V) (vs:List Value) (F:Frame) (tmps:Array Value),dV I μ n F tmps->cF I μ xs vs->ps.all (·<n)=true ->
 dV I μ n (xC ps xs F) ((ps.zip vs).foldl (λtmps (t,a)=>tmps.setIfInBounds t a) tmps)
 | [],_,_,F,tmps,r,_,_=>by simpa [xC]using r
 | t::ps,[],[],F,tmps,r,_,_=>by simpa [xC]using r
 | t::ps,[],v::vs,F,tmps,r,h,_=>by have:=h.1;grind
 | t::ps,x::xs,[],F,tmps,r,h,_=>by have:=h.1;grind
 | t::ps,x::xs,v::vs,F,tmps,r,h,u=>by
  simp only[List.all_cons,ζh,decide_eq_true_eq]at u;have h0  := h.2 0 x v rfl rfl;have w:cF I μ xs vs:=⟨by have:=h.1;grind,λj a b h1 z=>h.2 (j+1) a b (by grind) (by grind)⟩
  exact Bt ps xs vs _ _ (N_ (a:={ tmps:=tmps,defers:=[] }) r u.1 h0) w u.2
theorem G1 {α β:Type} (g:α->Sem β):∀(l:List α) (w:World) (B:List β),B.length=l.length->(∀(j:Nat) x y,l[j]? = some x->B[j]? = some y->(g x).run P w=.ok y w)->(l.mapM g).run P w=.ok B w
 | [],w,[],_,_=>by simp
 | [],w,_::_,h,_=>by simp_all
 | _::_,w,[],h,_=>by simp_all
 | x::l,w,y::B,h,hg=>by
  have h0:=hg 0 x y rfl rfl;have u:=G1 g l w B (by grind) (λj a b h1 z=>hg (j+1) a b (by grind) (by grind))
  simp_all
def KB (tmps:Array Value):ResultVar->Sem Value
 | .tmp t=>pure (tmps.getD t undef)
 | .cell a t=>do loadVar t (<-asAddr (tmps.getD a undef))
theorem Kw (fn:Func) (tmps:Array Value):results fn tmps=(fn.results.mapM (KB tmps) >>= λvs=>pure (if h:vs.size=1 then vs[0]else .tuple vs)):=by
 congr 1
theorem Lw (U:ey P E) {fn:Func} {tmps:Array Value} (r:dV I μ n F tmps) (s:cQ I μ H w) {vs:List V} (h:jI E F H fn.results.toList=some vs) :
 ∃u,(results fn tmps).run P w=.ok u w/\bF I μ (result vs) u:=by
 have key:∀(l:List ResultVar) (vs:List V),jI E F H l=some vs->∃z:List Value,z.length=l.length/\cF I μ vs z /\
  ∀(j:Nat) x y,l[j]? = some x->z[j]? = some y->(KB tmps x).run P w=.ok y w:=by
  intro l
  induction l with
  | nil=>intro vs h;simp[jI]at h;subst h;exact⟨[],rfl,.nil,by simp⟩
  | cons x l T=>
   intro vs h
   cases x with
   | tmp t=>
    simp only[jI,ζf]at h;obtain⟨C,h,rfl⟩:=h;obtain⟨z,h1,B,O⟩:=T C h;refine⟨tmps.getD t undef::z,by simp_all,.cons (r.2 t) B,?_⟩
    intro j x y G J
    cases j with
    | zero=>simp at G J;subst G;subst J;simp[KB]
    | succ j=>grind
   | cell p t=>
    simp only[jI]at h;split at h
    .rename_i d C hd Q;simp only[ζf]at h;obtain⟨v,hv,rfl⟩:=h;obtain⟨z,h1,B,O⟩:=T C Q;obtain⟨u,_,hu,W,S,D⟩:=Cl U s hd (r.2 p) hv;refine⟨u::z,by simp_all,.cons hu B,?_⟩
     intro j x y G J
     cases j with
     | zero=>
      simp only[List.getElem?_cons_zero,ζa]at G J;subst G;subst J;have e:(do loadVar t (<-asAddr (tmps.getD p undef))).run P w=(loadVar t W).run P w:=by rw[Sem.run_bind,S];rfl
      exact e.trans D
     | succ j=>grind
    grind
 obtain⟨z,h1,B,O⟩:=key _ _ h;have Y:=G1  _ fn.results.toList w z h1 O;have X:(fn.results.mapM (KB tmps)).run P w=.ok z.toArray w:=by
  rw[Array.mapM_eq_mapM_toList];simp_all
 have L:z.length=vs.length:=B.1.symm;rw[Kw,Sem.run_bind,X]
 by_cases A:z.length=1
 .obtain⟨u,rfl⟩:=List.length_eq_one_iff.1 A;obtain⟨v,rfl⟩:=List.length_eq_one_iff.1 (L▸A);exact⟨u,by simp,by simpa [result]using B.2 0 v u rfl rfl⟩
 .refine⟨.tuple z.toArray,by simp_all,?_⟩
  have hr:result vs=.tup vs:=by
   match vs,L with
   | [],_=>rfl
   | [_],h=>exact absurd h A
   | _::_::_,_=>rfl
  rw[hr];exact .tup _ _ (by simpa using B.1) (by simpa using B.2)
theorem Nb (G:ey P E) {fn:Func} {tmps:Array Value} {vs:List V} (h:jI E F H' fn.results.toList=some vs) (U:w.heap.size<=B):∀(ds:List Deferred) (w':World),
 dV I' μ' n F tmps->cQ I' μ' H' w'->Step I μ H w I' μ' H' w'->jv B ds w' ->
 LeavesInM (fr none) 0 P fn tmps (xR I μ H w (result vs) H') ds .returning w':=by
 intro ds
 induction ds with
 | nil=>
  intro w' r s st m;obtain⟨u,hu,hv⟩:=Lw G r s h;exact⟨u,hu,u,I',μ',rfl,hv,s,st⟩
 | cons d ds J=>
  intro w' r s st m;obtain⟨q,h1,Q,C⟩:=m.all d (by simp)
  refine⟨by simp,.inl ⟨q,_,h1,run_takeDeferred C,?_⟩⟩
  have z:=uq s C;have L:=Sr s C (by simp) (by simp)
  have m':jv B ds w':=⟨λd hd=>m.all d (List.mem_cons_of_mem _ hd),(List.pairwise_cons.1 m.apart).2⟩
  refine J (fT w' q (.deferred none)) r (s.AW _ L z) (st.after _ (by omega)) ⟨λD A=>?_,m'.apart⟩
  obtain⟨O,g1,g2,g3⟩:=m'.all D A;refine⟨O,g1,g2,?_⟩;rw[gx _ ?_];exact g3;rintro rfl;exact(List.pairwise_cons.1 m.apart).1 D A _ h1 g1
theorem D1 (o:Out):(kU o).isNone=(o==.norm):=by
 cases o <;> simp[kU] <;> rfl
theorem E3 (U:ey P E) (hm:P.follows .mixedOrders=true) (hS:TW P E):∀n,kF P (run E n):=by
 intro n
 induction n with
 | zero=>exact⟨λ_ _ _ _ _ h=>(by cases h),λ_ _ _ _ _ h=>(by cases h)⟩
 | succ n B=>
  constructor
  .intro f args H r H' h;rw[FD]at h;simp[kT]at h;split at h
   .rename_i G ab;obtain⟨fn,hf,hb,ad,S,J⟩:=U.ft f G ab;refine⟨⟨fn,hf,by simp_all,J⟩,?_⟩
    intro I μ w A s hv;split at h
    .rename_i u;have main:∀o F' H2 rs,exec E (run E n) n false G.ntmps G.body args H=some (o,F',H2)->(∀id,o≠.exit id)->jI E F' H2 G.results=some rs->CallsIn (fr none) 0 P f A.toArray w (xR I μ H w (result rs) H2):=by
      intro o F' H2 rs hx ak hr;refine callsIn_of_wp_marks hf hb trivial ?_;rw[ad];have r0:=LI s.gl hv u;have:=yg  U hm B n none false rfl G.ntmps G.body I μ args H { tmps:=A.toArray++Array.replicate (G.ntmps-A.toArray.size) undef,defers:=[] } w o F' H2 hx r0 s ⟨by simp,.nil⟩ (Nat.le_refl _)
      refine wpIn_mono this ?_;rintro e a1 T ⟨rfl,⟨I1,μ1,r1,s1,z⟩,m1⟩;have hl:=Nb  U  (by rw[S];omega) (Nat.le_refl _) a1.defers T r1 s1 z m1
      cases o with
      | norm=>exact hl
      | ret=>exact hl
      | exit id=>grind
     split at h
     .simp_all
     .simp  at h
      grind
     grind
    grind
   .split at h
    .rename_i hs;exact⟨(hS.sort f hs).ok,λI μ w A s hv=>RB B (hS.sort f hs) h s hv⟩
    .obtain⟨yy,he,h⟩:=ζf.1 h;cases h;exact⟨(hS.known f args _ he).1,λI μ w A s hv=>(hS.known f args _ he).2 I μ H w A s hv⟩
  .intro id args H r H' h I μ w A p s hv hp;rw[FD]at h;simp only[kT]at h;split at h
   .rename_i rec W;split at h
    .split at h
     .rename_i u;split at h
      .rename_i F2 H2 ae;split at h
       .rename_i r2 X;split at h
        .rename_i Y;split at h
         .rename_i o F4 H4 af;split at h
          .rename_i r4 Z;obtain⟨rfl,rfl⟩:=h;obtain⟨q,l,g1,g2,g3,g4⟩:=AT s W;rw[hp]at g1;cases g1;have ah:l.params.size=rec.params.length:=by have:=congrArg List.length g4.params;grind
           have ai:A.toArray.size=l.params.size:=by
            rw[ah,<-u.1];simpa using hv.1.symm
           refine⟨p.b,l.fn,_,l.assign,l.body,run_yield g3 ai,?_⟩;refine roundIn_of_wpIn trivial ?_;have L:(l.params.zip A.toArray).foldl (λtmps x=>tmps.setIfInBounds x.1 x.2) l.tmps=(rec.params.zip A).foldl (λtmps x=>tmps.setIfInBounds x.1 x.2) l.tmps:=by
            rw[<-Array.foldl_toList,Array.toList_zip,g4.params]
           have r0:=Bt rec.params args A rec.frame l.tmps g4.frame hv u.2;rw[<-L]at r0;have T:=yg  U hm B n (some p.b) true rfl rec.nt rec.assign I μ _ H { tmps:=_,defers:=[] } w _ _ _ ae r0 s ⟨by simp,.nil⟩ (Nat.le_refl _)
           rw[g4.assign,g4.body];refine wpIn_mono T ?_;rintro e a1 T ⟨rfl,⟨I1,μ1,r1,s1,z⟩,m1⟩;obtain⟨q,l2,k1,k2,k3,O⟩:=AT s1 X;rw[z.mu _ _ hp]at k1;cases k1;have C:l2.state=.ready:=by
            have:=O.st;rw[Y]at this;cases hl:l2.state <;> rw[hl]at this <;> simp[Bb.is]at this
           refine⟨_,run_beginRound k3 C,?_⟩;have D  := z.mu _ _ hp;obtain⟨s2,st2⟩:=s1.write  (ob':=.loop { r2 with st:=.busy }) X rfl D
            ⟨p,{ l2 with state:=.busy },D,k2,iz _ (Array.getElem?_eq_some_iff.1 k3).1,⟨trivial,O.pend,O.pendOk,O.frame,O.params,O.assign,O.body⟩⟩
           have m2  := m1.step s1 st2;have w2:=yg  U hm B n (some p.b) true rfl rec.nt rec.body I1 μ1 F2 _ a1 (fT T p.b (.loop { l2 with state:=.busy })) o F4 H4 af r1 s2 m2 (by rw[wq];exact z.size)
           refine wpIn_mono w2 ?_;rintro e a3 w3 ⟨rfl,⟨I3,μ3,r3,s3,Q⟩,m3⟩;obtain⟨q,l4,j1,j2,j3,j4⟩:=AT s3 Z;rw[Q.mu _ _ D]at j1;cases j1;have aa  := Q.mu _ _ D;have fin:∃v w',(Instr.endRound p.b (kU o)).run P w3=.ok v w'/\xR I μ H w (.bool (o==.norm)) (H4.set id (.loop { r4 with st:=(if o==.norm then .ready else .done),pend:=(if o==.norm then none else some o) })) (.returned v) w':=by
            refine⟨_,_,run_endRound (kU o) j3,?_⟩;obtain⟨s4,aj⟩:=s3.write  (ob':=.loop { r4 with st:=(if o==.norm then .ready else .done),pend:=(if o==.norm then none else some o) }) Z rfl aa
             ⟨p,{ l4 with state:=if(kU o).isNone then .ready else .done,pending:=kU o },aa,j2,iz _ (Array.getElem?_eq_some_iff.1 j3).1,⟨by cases o <;> exact trivial,by cases o <;> rfl,by cases o <;> simp,j4.frame,j4.params,j4.assign,j4.body⟩⟩
            refine⟨_,I3,μ3,rfl,?_,s4,Step.trans s1 z (Step.trans s2 st2 (Step.trans s3 Q aj))⟩;rw[D1];exact .c _ _ (.bool _)
           cases o with
           | norm=>exact fin
           | ret=>exact fin
           | exit id=>exact fin
          grind
         grind
        grind
       grind
      grind
     grind
    grind
   grind
end
end Go.VE
namespace Go.VE
variable [bS]
variable {P:Program}
theorem pG.KV {t:TypeId} {d:TD} (h:vN P t=some d):pG P t d:=
 ey.ty (E:={ tt:=vN P,ft:=λ_=>none,keep:=λ_=>false,own:=λ_=>false,eqN:=λ_=>none,sort:=λ_=>false }) ⟨λ_ _ h=>h,by simp,by simp⟩ h
theorem ri {i:TypeId} {cs:Array Value} {o:Nat} {v:Value} {w:World} (hi:vN P i=some ⟨1,8,[.int .i64 0],.int .i64⟩) (h:cs[o]? = some v):(part i cs o).run P w=.ok v w:=by
 unfold part;simp[Sem.run_bind,(pG.KV hi).Kd,Result.andThen,TD.agg,h]
theorem tH {a:List Int} (h:a.length=2):∃x y,a=[x,y]:=by
 match a,h with
 | [x,y],_=>exact⟨x,y,rfl⟩
theorem zF (d:Nat) (e:Bool) {i:TypeId} (x:Int) {w:World} (B:P.underlying i=some (.int .i64)):(Instr.checkKey e (d+1) i (.int .i64 x)).run P w=.ok () w:=by
 simp only[Instr.checkKey,Sem.run_bind,dF B,Result.andThen_ok,Sem.run_pure]
theorem Hi (d:Nat) (e:Bool) {t i:TypeId} {f g:Field} (x y:Int) {w:World} (hu:P.underlying t=some (.struct #[f,g])) (D:f.type=i) (hg:g.type=i) (of:f.offset=0) (G:g.offset=1) (nf:f.name ≠ "_") (J:g.name ≠ "_")
 (hi:vN P i=some ⟨1,8,[.int .i64 0],.int .i64⟩) (B:P.underlying i=some (.int .i64)):(Instr.checkKey e (d+1+1) t (.agg (ic [x,y]))).run P w=.ok () w:=by
 have u:∀w,(part i (ic [x,y]) 0).run P w=.ok (.int .i64 x) w:=λw=>ri hi rfl
 have p1:∀w,(part i (ic [x,y]) 1).run P w=.ok (.int .i64 y) w:=λw=>ri hi rfl
 have q:∀(x:Int) w,(Instr.checkKey e (d+1) i (.int .i64 x)).run P w=.ok () w:=λx w=>zF d e x B
 unfold Instr.checkKey;simp only[Sem.run_bind,dF hu,Result.andThen_ok];rw[<-Array.forIn_toList];simp only[List.forIn_cons,List.forIn_nil,Sem.run_bind,D,hg,of,G,nf,J,ne_eq,not_false_eq_true,if_true,u,p1,q,Result.andThen_ok,Sem.run_pure]
theorem vZ.two {t i:TypeId} {f g:Field} (hu:P.underlying t=some (.struct #[f,g])) (U:f.type=i) (hg:g.type=i) (of:f.offset=0) (W:g.offset=1) (nf:f.name ≠ "_") (Y:g.name ≠ "_")
 (hi:vN P i=some ⟨1,8,[.int .i64 0],.int .i64⟩) (D:P.underlying i=some (.int .i64)) (hs:P.stoodInHeld t=false) (hq:P.eqGuardType P.depth t=false):vZ P t 2:=by
 have G:P.fieldsOf t=#[f,g]:=by unfold Program.fieldsOf;rw[hu]
 have A:∀(w:World) (x y z u:Int),(Op.equal t (.agg (ic [x,y])) (.agg (ic [z,u]))).run P w=.ok ([x,y]==[z,u]) w:=by
  intro w x y z u;show (Op.equalIn (9999+1) t _ _).run P w=_;rw[run_equalIn_struct w 9999 t _ _ (by rw[G];exact hu) hs,G]
  have O:∀(x y:Int) w,(part i (ic [x,y]) 0).run P w=.ok (.int .i64 x) w:=λx y w=>ri hi rfl
  have p1:∀(x y:Int) w,(part i (ic [x,y]) 1).run P w=.ok (.int .i64 y) w:=λx y w=>ri hi rfl
  have q:∀(x y:Int) w,(Op.equalIn 9999 i (.int .i64 x) (.int .i64 y)).run P w=.ok (x==y) w:=λx y w=>Bj 9998 x y D
  simp only[Op.eqFields,U,hg,of,W,nf,Y,ne_eq,not_false_eq_true,if_true,Sem.run_bind,O,q,Result.andThen_ok]
  by_cases B:x=z
  .by_cases I:y=u
   .subst B;subst I;simp[Sem.run_bind,p1,q,Result.andThen]
   .subst B;have:(y==u)=false:=by simpa using I
    simp[Sem.run_bind,p1,q,Result.andThen,this]
  .have:(x==z)=false:=by simpa using B
   simp[this]
 have J:∀(op:BinOp) (p q:Operand) (w:World) (u v:Array Value),(eqGuard op t p q (.agg u) (.agg v)).run P w=.ok () w:=by
  intro op p q w u v;unfold eqGuard;cases op <;> simp[Sem.run_bind,run_program,Result.andThen,hq]
 refine⟨?_,?_,?_,?_,⟨_,hu,.inr ⟨_,rfl⟩⟩⟩
 .intro w p q a b C L;obtain⟨x,y,rfl⟩:=tH C;obtain⟨z,u,rfl⟩:=tH L;rw[Sem.run_bind,J,Result.andThen_ok];show (do pure (Value.bool (<-Op.equal t (.agg (ic [x,y])) (.agg (ic [z,u])))):Sem Value).run P w=_
  rw[Sem.run_bind,A];rfl
 .intro w p q a b C L;obtain⟨x,y,rfl⟩:=tH C;obtain⟨z,u,rfl⟩:=tH L;rw[Sem.run_bind,J,Result.andThen_ok];show (do pure (Value.bool (!(<-Op.equal t (.agg (ic [x,y])) (.agg (ic [z,u]))))):Sem Value).run P w=_
  rw[Sem.run_bind,A];rfl
 .intro w a b C L;obtain⟨x,y,rfl⟩:=tH C;obtain⟨z,u,rfl⟩:=tH L;exact A w x y z u
 .intro w e a C;obtain⟨x,y,rfl⟩:=tH C;exact Hi 9998 e x y hu U hg of W nf Y hi D
def lk {α:Type}:List (Nat×α)->Nat->Option α
 | [],_=>none
 | (k,v)::r,n=>bif Nat.beq k n then some v else lk r n
theorem NG {α:Type}:∀{l:List (Nat×α)} {n:Nat} {v:α},lk l n=some v->(n,v)∈l
 | [],_,_,h=>by simp[lk]at h
 | (k,x)::r,n,v,h=>by
  simp only[lk]at h
  cases hk:Nat.beq k n with
  | true=>
   rw[hk]at h;simp only[cond_true,ζa]at h;have:=Nat.eq_of_beq_eq_true hk;subst this;subst h;simp
  | false=>rw[hk]at h;exact List.mem_cons_of_mem _ (NG h)
end Go.VE
namespace Go.VE
variable [bS]
inductive KT where|bool|str|slice|ptr|map|int|other
 deriving DecidableEq
def TK.tag:TK->KT
 | .bool=>.bool
 | .int _=>.int
 | .str=>.str
 | .ptr _=>.ptr
 | .slice _=>.slice
 | .map ..=>.map
 | _=>.other
def oR (k:KT) (x y:V):Option Bool:=
 match k,x,y with
 | .slice,.bW,.bW=>some true
 | .slice,.fsl ..,.bW=>some false
 | .slice,.hsl ..,.bW=>some false
 | .ptr,.gZ,.gZ=>some true
 | .ptr,.fptr _,.gZ=>some false
 | .ptr,.hptr ..,.gZ=>some false
 | .map,.gA,.gA=>some true
 | .map,.fmap _,.gA=>some false
 | .map,.hmap _,.gA=>some false
 | _,_,_=>none
def jD (k:Option KT) (e:Option Nat) (op:BinOp) (x y:V):Option V:=
 match x,y with
 | .int k a,.int u b=>
  match op with
  | .shl=>if b<0 then none else some (.int k (k.wrap (a*2 ^ (min b.toNat k.bits))))
  | .shr=>if b<0 then none else some (.int k (a.fdiv (2 ^ (min b.toNat k.bits))))
  | _=>if k=u then
   match op with
   | .add=>some (.int k (k.wrap (a+b)))
   | .sub=>some (.int k (k.wrap (a-b)))
   | .mul=>some (.int k (k.wrap (a*b)))
   | .quo=>if b=0 then none else some (.int k (k.wrap (a.tdiv b)))
   | .rem=>if b=0 then none else some (.int k (a.tmod b))
   | .and=>some (.int k (k.wrap (BitVec.ofInt k.bits a &&& BitVec.ofInt k.bits b).toNat))
   | .or=>some (.int k (k.wrap (BitVec.ofInt k.bits a ||| BitVec.ofInt k.bits b).toNat))
   | .xor=>some (.int k (k.wrap (BitVec.ofInt k.bits a ^^^ BitVec.ofInt k.bits b).toNat))
   | .andNot=>some (.int k (k.wrap (BitVec.ofInt k.bits a &&& ~~~ BitVec.ofInt k.bits b).toNat))
   | op=>(qG op a b).map .bool
   else none
 | .str a,.str b=>
  match op with
  | .add=>if((a.size+b.size:Nat):Int)>IntKind.i64.max then none else some (.str (a++b))
  | .eql=>some (.bool (a.toList==b.toList))
  | .neq=>some (.bool !(a.toList==b.toList))
  | .lss=>some (.bool (Op.bytesLess a.toList b.toList))
  | .leq=>some (.bool (Op.bytesLess a.toList b.toList||a.toList==b.toList))
  | .gtr=>some (.bool !(Op.bytesLess a.toList b.toList||a.toList==b.toList))
  | .geq=>some (.bool !(Op.bytesLess a.toList b.toList))
  | _=>none
 | .bool a,.bool b=>
  match k,op with
  | some .bool,.eql=>some (.bool (a==b))
  | some .bool,.neq=>some (.bool !(a==b))
  | _,_=>none
 | .agg a,.agg b=>
  match e,op with
  | some n,.eql=>if a.length=n then(kG a b).map .bool else none
  | some n,.neq=>if a.length=n then(kG a b).map (λt=>.bool !t)else none
  | _,_=>none
 | x,y=>
  match k,op with
  | some k,.eql=>(oR k x y).map .bool
  | some k,.neq=>(oR k x y).map λt=>.bool !t
  | _,_=>none
theorem Ks (k:TK) (x y:V):uD k x y=oR k.tag x y:=by
 cases k <;> cases y <;> (try rfl) <;> cases x <;> rfl
theorem SJ (E:Env) (op:BinOp) (t:TypeId) (x y:V):G3 E op t x y=jD ((E.kindOf t).map TK.tag) (E.eqN t) op x y:=by
 unfold G3;split
 .rfl
 .rfl
 .cases hk:E.kindOf t with
  | none=>rfl
  | some k=>cases k <;> cases op <;> rfl
 .rfl
 .rename_i h1 u w z
  cases hk:E.kindOf t with
  | none=>rw[jD.eq_29 _ _ _ _ _ h1 u w z (by simp) (by simp)]
  | some k=>
   simp only[Ks];cases op <;> first
    | exact(jD.eq_27 _ _ _ _ h1 u w z).symm
    | exact(jD.eq_28 _ _ _ _ h1 u w z).symm
    | (rw[jD.eq_29 _ _ _ _ _ h1 u w z (by simp) (by simp)])
inductive uQ where
 | id|pick|nilc
 | bin (k:Option KT) (e:Option Nat) (op:BinOp)
 | not|neg
 | conv (k:IntKind)
 | fieldAddr (off:Nat)
 | field (off size:Nat) (agg:Bool)
 | idxS (size:Nat)
 | idxA (len size:Nat)
 | idxStr
 | idxArr (len size:Nat) (agg:Bool)
 | sliceStr (lo hi:Bool)
 | slice (size:Nat) (lo hi:Bool)
 | slice00
 | build (zero:List V) (pl:List (Nat×Nat))
 | clo (name:Nat) (k:Nat)
 | ext (i:Nat)
 | lenStr|lenSl|capSl|max|min|bad|max4
 | makeC (size:Nat) (zero:List V)
 | emptyC
def K5:V->Option V
 | .hptr id el off=>some (.hptr id el off)
 | .fptr cs=>some (.fptr cs)
 | .clo f a b=>some (.clo f a b)
 | _=>none
def gW (off:Nat):V->Option V
 | .fptr cs=>if off<=cs.length then some (.fptr (cs.drop off))else none
 | .hptr id el o=>some (.hptr id el (o+off))
 | _=>none
def lE (size:Nat) (s:V) (n:Int):Option V:=
 if n<0 then none else match s with
 | .fsl es u=>if es=size then(u[n.toNat]?).map .fptr else none
 | .hsl id es off len=>if es=size/\n.toNat<len then some (.hptr id (off+n.toNat) 0)else none
 | _=>none
def wm (len size:Nat) (p:V) (n:Int):Option V:=
 if 0<=n/\n<len then match p with
  | .fptr cs=>if n.toNat*size<=cs.length then some (.fptr (cs.drop (n.toNat*size)))else none
  | .hptr id el o=>some (.hptr id el (o+n.toNat*size))
  | _=>none
 else none
def mq:Bool->Bool->List V->Option (Option Int×Option Int)
 | false,false,[]=>some (none,none)
 | true,false,[.int _ l]=>some (some l,none)
 | false,true,[.int _ h]=>some (none,some h)
 | true,true,[.int _ l,.int _ h]=>some (some l,some h)
 | _,_,_=>none
def iK (size:Nat) (v:V) (l h:Option Int):Option V:=
 match v with
 | .fsl es u=>if es=size then(dQ u.length l h).map λ(l,h)=>.fsl es ((u.take h).drop l)else none
 | .hsl id es off len=>if es=size then(dQ len l h).map λ(l,h)=>.hsl id es (off+l) (h-l)else none
 | .dA=>(dQ 0 l h).map λ_=>.dA
 | .bW=>(dQ 0 l h).map λ_=>.bW
 | _=>none
def Kr:V->Bool
 | .fsl ..|.hsl ..|.dA|.bW=>true
 | _=>false
def qu (cells:List V):List (Nat×Nat)->List V->Option (List V)
 | [],[]=>some cells
 | (off,size)::pl,v::vs=>
  if v.cells.length≠size||off+v.cells.length>cells.length then none
  else qu (cells.take off++v.cells++cells.drop (off+v.cells.length)) pl vs
 | _,_=>none
def qN:V->Option V
 | .fsl _ xs=>some (.int .i64 xs.length)
 | .hsl _ _ _ len=>some (.int .i64 len)
 | .dA=>some (.int .i64 0)
 | .bW=>some (.int .i64 0)
 | _=>none
def OC:V->Option V
 | .bW|.dA=>some (.int .i64 0)
 | _=>none
def bp (N:Nat->FuncId):uQ->List V->Option V
 | .id,[x]=>some x
 | .pick,[.bool t,a,b]=>some (if t then a else b)
 | .nilc,[x]=>K5 x
 | .bin k e op,[x,y]=>jD k e op x y
 | .not,[.bool b]=>some (.bool !b)
 | .neg,[.int k n]=>some (.int k (k.wrap (0-n)))
 | .conv k,[.int _ n]=>some (.int k (k.wrap n))
 | .fieldAddr off,[p]=>gW off p
 | .field off size agg,[.agg cs]=>(cut cs off size).bind (mk agg)
 | .idxS size,[s,.int _ n]=>lE size s n
 | .idxA len size,[p,.int _ n]=>wm len size p n
 | .idxStr,[.str s,.int _ n]=>if 0<=n then(s[n.toNat]?).map (λb=>.int .u8 b.toNat)else none
 | .idxArr len size agg,[.agg cs,.int _ n]=>if 0<=n/\n<len then(cut cs (n.toNat*size) size).bind (mk agg)else none
 | .sliceStr lo hi,.str s::D=>(mq lo hi D).bind λ(l,h)=>(dQ s.size l h).map λ(l,h)=>.str (s.extract l h)
 | .slice size lo hi,v::D=>(mq lo hi D).bind λ(l,h)=>iK size v l h
 | .slice00,[v,.int _ h,.int _ m]=>if Kr v&&h==0&&m==0 then some .dA else none
 | .build zero pl,vs=>(qu zero pl vs).map .agg
 | .clo name k,vs=>some (.clo (N name) (vs.take k) (vs.drop k))
 | .ext i,[.tup vs]=>vs[i]?
 | .lenStr,[.str s]=>some (.int .i64 s.size)
 | .lenSl,[v]=>qN v
 | .capSl,[v]=>OC v
 | .max,[.int k a,.int B b]=>if k=B then some (.int k (if b>a then b else a))else none
 | .max4,[.int k a,.int k1 b,.int G c,.int J d]=>if k=k1/\k=G/\k=J then some (.int k (BD (BD (BD a b) c) d))else none
 | .min,[.int k a,.int B b]=>if k=B then some (.int k (if b<a then b else a))else none
 | .makeC size zero,[.int k n,.int B m]=>if k=.i64/\B=.i64/\0<=n/\n=m/\m<=2147483648/\zero.all V.scalar=true then some (.fsl size (List.replicate n.toNat zero))else none
 | .emptyC,[]=>some .dA
 | _,_=>none
inductive xA where|int (k:IntKind)|str|ints (n:Nat)
def Dw (E:Env) (t:TypeId):Option xA:=
 match E.kindOf t with
 | some (.int k)=>some (.int k)
 | some .str=>some .str
 | some _=>(E.eqN t).map .ints
 | none=>none
def pS:xA->V->Bool
 | .int k,.int B _=>k==B
 | .str,.str _=>true
 | .ints n,.agg cs=>cs.length==n&&(ir cs).isSome
 | _,_=>false
inductive JO where
 | load (size:Nat) (agg:Bool)
 | loadF (size:Nat) (agg:Bool)
 | lookup (kk:xA) (zero:V) (ok:Bool)
def eT (H:bg):JO->List V->Option V
 | .load size agg,[p]=>(dS H p size).bind (mk agg)
 | .lookup kk z ok,[m,k]=>match mM H m with
  | some B=>if pS kk k then match iD k B 0 with
   | some (some (_,v))=>some (if ok then .tup [v,.bool true]else v)
   | some none=>some (if ok then .tup [z,.bool false]else z)
   | none=>none
   else none
  | none=>none
 | _,_=>none
inductive MM where
 | alloc (size:Nat) (zero:List V)
 | box
 | makeSl (size:Nat) (zero:List V)
 | buildSl (size len:Nat) (zero:List V) (idx:List Nat)
 | makeMap
def iW:MM->List V->Option (Ob×Mk)
 | .alloc size zero,[]=>some (.row size [zero],.ptr)
 | .box,[v]=>if v.cells.all V.one then some (.row v.cells.length [v.cells],.ptr)else none
 | .makeSl size zero,[.int k n,.int B m]=>if k=.i64/\B=.i64/\0<=n/\n<=m/\m<=2147483648 then some (.row size (List.replicate m.toNat zero),.sl size n.toNat)else none
 | .buildSl size len zero idx,vs=>if idx.length=vs.length then(gJ size (List.replicate len zero) (idx.zip vs)).map λxs=>(.row size xs,.sl size len)else none
 | .makeMap,[]=>some (.map [],.map)
 | _,_=>none
inductive Jk where
 | store (size:Nat)
 | storeF (size:Nat)
 | mapUp (kk:xA)
 | append (size:Nat)
 | appMk (size bytes:Nat) (zero:List V)
 | clear (size:Nat) (zero:List V)
def fQ (H:bg):Jk->List V->Option (V×bg)
 | .store size,[.hptr id el off,v]=>match H[id]? with
  | some (.row es xs)=>match xs[el]? with
   | some cs=>if v.cells.length=size/\off+size<=cs.length/\v.cells.all V.one=true then
    some (.undef,H.set id (.row es (xs.set el (cs.take off++v.cells++cs.drop (off+v.cells.length)))))else none
   | none=>none
  | _=>none
 | .mapUp kk,[.hmap id,k,v]=>match H[id]? with
  | some (.map B)=>if pS kk k then(pE k v B).map λB=>(.undef,H.set id (.map B))else none
  | _=>none
 | .append size,[s,x]=>match dN H size s,dN H size x with
  | some _,some []=>some (s,H)
  | some xs,some ys=>if xs.length+ys.length<=2147483648 then(hU H s).map λH1=>(.hsl H.length size 0 (xs.length+ys.length),H1++[.row size (xs++ys)])else none
  | _,_=>none
 | .appMk size bytes zero,[s,x]=>mkApp H size bytes zero s x
 | .clear size zero,[v]=>Dr H size zero v
 | .storeF size,.hptr id el off::v::l=>if l.all (qL id)=true then match H[id]? with
  | some (.row es xs)=>match xs[el]? with
   | some cs=>if v.cells.length=size/\off+size<=cs.length/\v.cells.all V.one=true then
    some (.undef,H.set id (.row es (xs.set el (cs.take off++v.cells++cs.drop (off+v.cells.length)))))else none
   | none=>none
  | _=>none
  else none
 | _,_=>none
inductive K where
 | p (p:uQ)
 | r (r:JO)
 | a (a:MM)
 | l (l:Jk)
 | c
 | e (size:Nat)
 | b
def Vb (E:Env) (t:TypeId):Option KT:=(E.kindOf t).map TK.tag
def resolve (E:Env) (nm:FuncId->Option Nat):Op->Option (K×List Operand)
 | .move x|.assign x=>some (.p .id,[x])
 | .pick c a b=>some (.p .pick,[c,a,b])
 | .nilCheck x=>some (.p .nilc,[x])
 | .binOp op t x y _=>some (.p (.bin (Vb E t) (E.eqN t) op),[x,y])
 | .unOp .not _ x=>some (.p .not,[x])
 | .unOp .neg _ x=>some (.p .neg,[x])
 | .convert s d x=>match E.tt s,E.tt d with
  | some _,some G=>match G.kind with
   | .int k=>some (.p (.conv k),[x])
   | .str=>match E.kindOf s with
    | some (.slice e)=>match E.kindOf e with
     | some (.int .u8)=>some (.b,[x])
     | _=>none
    | _=>none
   | _=>none
  | _,_=>none
 | .fieldAddr s x f=>match E.kindOf s with
  | some (.struct fs)=>match fs[f]? with
   | some (off,t)=>match E.tt t with
    | some d=>if d.size=0 then none else some (.p (.fieldAddr off),[x])
    | none=>none
   | none=>none
  | _=>none
 | .field s x f=>match E.kindOf s with
  | some (.struct fs)=>match fs[f]? with
   | some (off,t)=>match E.tt t with
    | some d=>some (.p (.field off d.size d.agg),[x])
    | none=>none
   | none=>none
  | _=>none
 | .indexAddr t x i=>match E.kindOf t with
  | some (.slice e)=>(E.tt e).map λd=>(.p (.idxS d.size),[x,i])
  | some (.array len e)=>(E.tt e).map λd=>(.p (.idxA len d.size),[x,i])
  | _=>none
 | .index t x i=>match E.kindOf t with
  | some .str=>some (.p .idxStr,[x,i])
  | some (.array len e)=>(E.tt e).map λd=>(.p (.idxArr len d.size d.agg),[x,i])
  | _=>none
 | .slice t x lo hi J=>match E.kindOf t,J with
  | some .str,none=>some (.p (.sliceStr lo.isSome hi.isSome),x::(lo.toList++hi.toList))
  | some (.slice e),none=>(E.tt e).map λd=>(.p (.slice d.size lo.isSome hi.isSome),x::(lo.toList++hi.toList))
  | some (.slice e),some m=>match E.tt e,lo,hi with
   | some _,none,some h=>some (.p .slice00,[x,h,m])
   | _,_,_=>none
  | _,_=>none
 | .build t ps=>match E.tt t with
  | some d=>match d.kind with
   | .struct fs=>match m_ E fs with
    | some pl=>(ps.toList.mapM λ(q:Nat×Operand)=>pl[q.1]?).map λq=>(K.p (.build d.zero q),ps.toList.map λ(q:Nat×Operand)=>q.2)
    | none=>none
   | .array _ e=>(E.tt e).map λD=>(K.p (.build d.zero (ps.toList.map λ(q:Nat×Operand)=>(q.1*D.size,D.size))),ps.toList.map λ(q:Nat×Operand)=>q.2)
   | _=>none
  | none=>none
 | .makeFunc (.func f) a b=>(nm f).map λs=>(.p (.clo s a.toList.length),a.toList++b.toList)
 | .extract x i=>some (.p (.ext i),[x])
 | .load t a=>(E.tt t).map λd=>(.r (.load d.size d.agg),[a])
 | .lookup t m k ok=>match E.kindOf t with
  | some (.map B U)=>match E.tt U,Dw E B with
   | some d,some kk=>(mk d.agg d.zero).map λz=>(.r (.lookup kk z ok),[m,k])
   | _,_=>none
  | _=>none
 | .alloc t=>(E.tt t).map λd=>(.a (.alloc d.size d.zero),[])
 | .box _ x=>some (.a .box,[x])
 | .makeSlice t l c=>match E.kindOf t with
  | some (.slice e)=>match E.tt e with
   | some d=>if d.bytes<=4096 then some (.a (.makeSl d.size d.zero),[l,c])else none
   | none=>none
  | _=>none
 | .buildSlice t len ps=>match E.kindOf t with
  | some (.slice e)=>match E.tt e with
   | some d=>if len*d.size<=16777216 then some (.a (.buildSl d.size len d.zero (ps.toList.map (·.1))),ps.toList.map (·.2))else none
   | none=>none
  | _=>none
 | .makeMap _ none=>some (.a .makeMap,[])
 | .store t a x=>(E.tt t).map λd=>(.l (.store d.size),[a,x])
 | .mapUpdate t m k x|.insert t m k x=>match E.kindOf t with
  | some (.map B _)=>(Dw E B).map λkk=>(.l (.mapUp kk),[m,k,x])
  | _=>none
 | .call { callee:=.builtin .append,args,argTypes }=>match argTypes.toList,args.toList with
  | [t,W],[s,x]=>match E.kindOf t,E.kindOf W with
   | some (.slice e),some (.slice _)=>match E.tt e with
    | some d=>if d.bytes<=4096/\0<d.bytes then some (.l (.append d.size),[s,x])else none
    | none=>none
   | some (.slice e),some (.int _)=>(E.tt e).map λd=>(.l (.appMk d.size d.bytes d.zero),[s,x])
   | _,_=>none
  | _,_=>none
 | .call { callee:=.builtin .len,args,argTypes }=>match argTypes[0]?,args.toList with
  | some t,[x]=>match E.kindOf t with
   | some .str=>some (.p .lenStr,[x])
   | some (.slice _)=>some (.p .lenSl,[x])
   | _=>none
  | _,_=>none
 | .call { callee:=.builtin .cap,args,argTypes }=>match argTypes[0]?,args.toList with
  | some t,[x]=>match E.kindOf t with
   | some (.slice _)=>some (.p .capSl,[x])
   | _=>none
  | _,_=>none
 | .call { callee:=.builtin .clear,args,argTypes }=>match argTypes[0]?,args.toList with
  | some t,[x]=>match E.kindOf t with
   | some (.slice e)=>(E.tt e).map λd=>(.l (.clear d.size d.zero),[x])
   | _=>none
  | _,_=>none
 | .panic _=>some (.p .bad,[])
 | .makeInterface ..=>some (.p .bad,[])
 | .call { callee:=.builtin .max,args,.. }=>match args.toList with
  | [x,y]=>some (.p .max,[x,y])
  | [x,y,z,t]=>some (.p .max4,[x,y,z,t])
  | _=>none
 | .call { callee:=.builtin .min,args,.. }=>match args.toList with
  | [x,y]=>some (.p .min,[x,y])
  | _=>none
 | .call { callee:=.value f,args,.. }=>some (.c,f::args.toList)
 | _=>none
end Go.VE
namespace Go.VE
variable [bS]
section
variable {E:Env} {nm:FuncId->Option Nat} {N:Nat->FuncId} {F:Frame}
theorem nZ {x:Operand} {vs:List V} (h:eZ F [x]=some vs):∃a,ev F x=some a/\vs=[a]:=by
 simp[eZ]at h
 grind
theorem iO {x:Operand} {l:List Operand} {vs:List V} (h:eZ F (x::l)=some vs):∃a az,ev F x=some a/\eZ F l=some az/\vs=a::az:=by
 simp[eZ]at h
 grind
theorem qy {vs:List V} (h:eZ F []=some vs):vs=[]:=by simp[eZ]at h;grind
theorem sD {x y:Operand} {vs:List V} (h:eZ F [x,y]=some vs):∃a b,ev F x=some a/\ev F y=some b/\vs=[a,b]:=by
 obtain⟨a,az,w,u,rfl⟩:=iO h;obtain⟨b,z,rfl⟩:=nZ u
 grind
theorem GP {x y z:Operand} {vs:List V} (h:eZ F [x,y,z]=some vs):∃a b c,ev F x=some a/\ev F y=some b/\ev F z=some c/\vs=[a,b,c]:=by
 obtain⟨a,az,w,u,rfl⟩:=iO h;obtain⟨b,c,A,hc,rfl⟩:=sD u
 grind
theorem Kk {l m:List Operand} {vs:List V} (h:eZ F (l++m)=some vs):∃az B,eZ F l=some az/\eZ F m=some B/\vs=az++B:=by
 induction l generalizing vs with
 | nil=>exact⟨[],vs,rfl,h,rfl⟩
 | cons x l u=>
  obtain⟨a,az,w,z,rfl⟩:=iO h;obtain⟨b,c,A,hc,rfl⟩:=u z;refine⟨a::b,c,?_,hc,rfl⟩;simp[eZ,w,A]
theorem KN {l:List Operand} {vs:List V} (h:eZ F l=some vs):vs.length=l.length:=by
 induction l generalizing vs with
 | nil=>rw[qy h];rfl
 | cons x l u=>obtain⟨a,az,_,w,rfl⟩:=iO h;grind
def CE (E:Env) (N:Nat->FuncId) (F:Frame) (op:Op) (vs:List V):K->Prop
 | .p p=>c6 op=.pure/\∀v,bp N p vs=some v->bJ E F op=some v
 | .r r=>c6 op=.read/\∀H v,eT H r vs=some v->dM E F H op=some v
 | .a a=>c6 op=.alloc/\∀x,iW a vs=some x->eO E F op=some x
 | .l l=>c6 op=.loud/\∀H x,fQ H l vs=some x->cT E F H op=some x
 | .e _=>False
 | .b=>c6 op=.pure/\∃x,vs=[x]/\∀H ys l,dN H 1 x=some ys->qb ys=some l->bJ E F op=none/\evalConv E F H op=some (.str (K1 l))
 | .c=>c6 op=.call/\∃f az,vs=f::az/\jH F op=(match f with|.clo g a b=>some (.fn g,a++az++b)|.yld id=>some (.yld id,az)|_=>none)
theorem GS (place:Nat->Option (Nat×Nat)):∀(ps:List (Nat×Operand)) (q:List (Nat×Nat)) (vs:List V) (cells cs:List V),(ps.mapM λ(x:Nat×Operand)=>place x.1)=some q ->
 eZ F (ps.map λ(x:Nat×Operand)=>x.2)=some vs->qu cells q vs=some cs->∃B,mg F ps=some B/\tV place cells B=some cs:=by
 intro ps
 induction ps with
 | nil=>
  intro q vs cells cs u hv h;simp  at u;subst u;have:=qy (by simpa using hv);subst this
  simp[qu]at h;subst h;exact⟨[],rfl,rfl⟩
 | cons p ps C=>
  intro q vs cells cs u hv h;obtain⟨i,x⟩:=p;simp only[List.mapM_cons,Option.pure_def,Option.bind_eq_bind,ζg,ζa]at u;obtain⟨pl,w,D,z,rfl⟩:=u;obtain⟨a,az,G,A,rfl⟩:=iO (by simpa using hv)
  simp only[qu]at h;split at h
  .simp_all
  .obtain⟨B,h1,I⟩:=C D az _ cs z A h;refine⟨(i,a)::B,by simp[mg,G,h1],?_⟩
   simp[tV,w]
   grind
theorem ME:∀(ps:List (Nat×Operand)) (vs:List V),eZ F (ps.map λ(x:Nat×Operand)=>x.2)=some vs->mg F ps=some ((ps.map λ(x:Nat×Operand)=>x.1).zip vs):=by
 intro ps
 induction ps with
 | nil=>simp[mg]
 | cons p ps w=>
  intro vs hv;obtain⟨a,az,z,u,rfl⟩:=iO (by simpa using hv)
  simp[mg,z,w az u]
theorem Im {lo hi:Option Operand} {vs:List V} {l h:Option Int} (hv:eZ F (lo.toList++hi.toList)=some vs) (B:mq lo.isSome hi.isSome vs=some (l,h)):jG F lo=some l/\jG F hi=some h:=by
 cases lo with
 | none=>
  cases hi with
  | none=>
   have:=qy (by simpa using hv);subst this;obtain⟨rfl,rfl⟩:=B;exact⟨rfl,rfl⟩
  | some y=>
   obtain⟨b,u,rfl⟩:=nZ (by simpa using hv)
   cases b <;> simp[mq]at B;obtain⟨rfl,rfl⟩:=B;simp[jG,u]
 | some x=>
  cases hi with
  | none=>
   obtain⟨b,u,rfl⟩:=nZ (by simpa using hv)
   cases b <;> simp[mq]at B;obtain⟨rfl,rfl⟩:=B;simp[jG,u]
  | some y=>
   obtain⟨a,b,w,u,rfl⟩:=sD (by simpa using hv)
   cases a <;> cases b <;> simp[mq]at B;obtain⟨rfl,rfl⟩:=B;simp[jG,w,u]
theorem Ap {t:TypeId} {kk:xA} {k:V} (h:Dw E t=some kk) (hk:pS kk k=true):AI E t k=true:=by
 unfold Dw at h;unfold AI
 cases u:E.kindOf t with
 | none=>grind
 | some tk=>
  rw[u]at h;have gen:(E.eqN t).map xA.ints=some kk->∃n cs,E.eqN t=some n/\k=.agg cs/\(cs.length==n&&(ir cs).isSome)=true:=by
   intro h;simp  at h;obtain⟨n,w,rfl⟩:=h;cases k <;> simp[pS]at hk <;> first|grind|grind
  cases tk with
  | int z=>
   simp  at h;subst h;cases k <;> simp[pS]at hk
   grind
  | str=>
   simp  at h;subst h;cases k <;> simp[pS]at hk;rfl
  | _=>
   obtain⟨n,cs,h1,rfl,A⟩:=gen h;simp_all
theorem kz (hN:∀f s,nm f=some s->N s=f) {op:Op} {k:K} {os:List Operand} {vs:List V} (h:resolve E nm op=some (k,os)) (hv:eZ F os=some vs):CE E N F op vs k:=by
 cases op with
 | move x=>
  obtain⟨rfl,rfl⟩:=h;obtain⟨a,A,rfl⟩:=nZ hv;exact⟨rfl,λv w=>by simpa [bp,bJ,A]using w⟩
 | assign x=>
  obtain⟨rfl,rfl⟩:=h;obtain⟨a,A,rfl⟩:=nZ hv;exact⟨rfl,λv w=>by simpa [bp,bJ,A]using w⟩
 | pick c a b=>
  simp[resolve]at h;obtain⟨rfl,rfl⟩:=h;obtain⟨x,y,z,hx,hy,T,rfl⟩:=GP hv;refine⟨rfl,λv w=>?_⟩
  cases x <;> simp[bp]at w;rename_i t;subst w;cases t <;> simp[bJ,hx,hy,T]
 | nilCheck x=>
  simp[resolve]at h;obtain⟨rfl,rfl⟩:=h;obtain⟨a,A,rfl⟩:=nZ hv;refine⟨rfl,λv w=>?_⟩
  cases a <;> simp[bp,K5]at w <;> subst w <;> simp[bJ,A]
 | binOp ah t x y yt=>
  simp only[resolve,ζa,ζc]at h;obtain⟨rfl,rfl⟩:=h;obtain⟨a,b,A,D,rfl⟩:=sD hv;exact⟨rfl,λv w=>by simp only[bJ,A,D,SJ];exact w⟩
 | unOp u t x=>
  cases u with
  | not=>
   simp only[resolve,ζa,ζc]at h;obtain⟨rfl,rfl⟩:=h;obtain⟨a,A,rfl⟩:=nZ hv;refine⟨rfl,λv w=>?_⟩
   cases a <;> simp[bp]at w;subst w;simp[bJ,A]
  | neg=>
   simp only[resolve,ζa,ζc]at h;obtain⟨rfl,rfl⟩:=h;obtain⟨a,A,rfl⟩:=nZ hv;refine⟨rfl,λv w=>?_⟩
   cases a <;> simp[bp]at w;subst w;simp[bJ,A]
  | _=>simp[resolve]at h
 | convert s d x=>
  simp only[resolve]at h;split at h
  .rename_i sd td hs hd;split at h
   .rename_i k hk;simp only[ζa,ζc]at h;obtain⟨rfl,rfl⟩:=h;obtain⟨a,A,rfl⟩:=nZ hv;refine⟨rfl,λv w=>?_⟩
    cases a <;> simp[bp]at w;subst w;simp[bJ,A,hs,hd,hk]
   .rename_i hk;split at h
    .rename_i e he;split at h
     .rename_i hu;simp only[ζa,ζc]at h;obtain⟨rfl,rfl⟩:=h;obtain⟨a,A,rfl⟩:=nZ hv;refine⟨rfl,a,rfl,λH ys l h1 I=>?_⟩
      have aa:E.kindOf d=some .str:=by unfold Env.kindOf;rw[hd,Option.map_some,hk]
      refine⟨?_,by simp only[evalConv,he,aa,A,hu,h1,I,ζb,Option.map_some]⟩
      simp only[bJ,hs,hd,A];cases a <;> first|rfl|(simp only[dN]at h1;cases h1)
     .simp at h
    .simp at h
   .simp at h
  .simp at h
 | fieldAddr s x f=>
  simp only[resolve]at h;split at h
  .rename_i fs hk;split at h
   .rename_i off t U;split at h
    .rename_i d hd;split at h
     .simp at h
     .rename_i T;simp only[ζa,ζc]at h;obtain⟨rfl,rfl⟩:=h;obtain⟨a,A,rfl⟩:=nZ hv;refine⟨rfl,λv w=>?_⟩
      simp only[bJ,A,hk,U,hd,if_neg T];simp only[bp,gW]at w;cases a <;> simp at w ⊢ <;> exact w
    .simp at h
   .simp at h
  .simp at h
 | field s x f=>
  simp only[resolve]at h;split at h
  .rename_i fs hk;split at h
   .rename_i off t U;split at h
    .rename_i d hd;simp only[ζa,ζc]at h;obtain⟨rfl,rfl⟩:=h;obtain⟨a,A,rfl⟩:=nZ hv;refine⟨rfl,λv w=>?_⟩
     cases a <;> simp only[bp]at w <;> first|(simp only[bJ,A,hk,U,hd];exact w)|simp at w
    .simp at h
   .simp at h
  .simp at h
 | indexAddr t x i=>
  simp only[resolve]at h;split at h
  .rename_i e hk;simp only[ζf,ζc]at h;obtain⟨d,hd,rfl,rfl⟩:=h;obtain⟨a,b,A,D,rfl⟩:=sD hv;refine⟨rfl,λv w=>?_⟩
   cases b <;> simp only[bp]at w <;> first|simp at w;done|skip
   simp only[bJ,A,D,hk,hd];unfold lE at w;exact w
  .rename_i len e hk;simp only[ζf,ζc]at h;obtain⟨d,hd,rfl,rfl⟩:=h;obtain⟨a,b,A,D,rfl⟩:=sD hv;refine⟨rfl,λv w=>?_⟩
   cases b <;> simp only[bp]at w <;> first|simp at w;done|skip
   simp only[bJ,A,D,hk,hd];unfold wm at w;exact w
  .simp at h
 | index t x i=>
  simp only[resolve]at h;split at h
  .rename_i hk;simp only[ζa,ζc]at h;obtain⟨rfl,rfl⟩:=h;obtain⟨a,b,A,D,rfl⟩:=sD hv;refine⟨rfl,λv w=>?_⟩
   cases a <;> cases b <;> simp only[bp]at w <;> first|simp at w;done|skip
   simp only[bJ,A,D,hk];exact w
  .rename_i len e hk;simp only[ζf,ζc]at h;obtain⟨d,hd,rfl,rfl⟩:=h;obtain⟨a,b,A,D,rfl⟩:=sD hv;refine⟨rfl,λv w=>?_⟩
   cases a <;> cases b <;> simp only[bp]at w <;> first|simp at w;done|skip
   simp only[bJ,A,D,hk,hd];exact w
  .simp at h
 | slice t x lo hi mx=>
  simp only[resolve]at h;split at h
  .rename_i hk;simp only[ζa,ζc]at h;obtain⟨rfl,rfl⟩:=h;obtain⟨a,bs,A,D,rfl⟩:=iO hv;refine⟨rfl,λv w=>?_⟩
   cases a <;> simp only[bp]at w <;> first|simp at w;done|skip
   obtain⟨⟨l,h⟩,W,w⟩:=ζg.1 w;obtain⟨h1,I⟩:=Im D W;have hm:jG F none=some none:=rfl;simp only[bJ,A,hk,h1,I,hm];exact w
  .rename_i e hk;simp only[ζf,ζc]at h;obtain⟨d,hd,rfl,rfl⟩:=h;obtain⟨a,bs,A,D,rfl⟩:=iO hv;refine⟨rfl,λv w=>?_⟩
   simp only[bp]at w;obtain⟨⟨l,h⟩,W,w⟩:=ζg.1 w;obtain⟨h1,I⟩:=Im D W;have hm:jG F none=some none:=rfl;simp only[bJ,A,hk,h1,I,hm,hd];cases a <;> exact w
  .rename_i e m hk;split at h
   .rename_i d hh hd;simp only[ζa,ζc]at h;obtain⟨rfl,rfl⟩:=h;obtain⟨a,b,c,A,D,hc,rfl⟩:=GP hv;refine⟨rfl,λv w=>?_⟩
    cases b <;> cases c <;> simp only[bp]at w <;> first|simp at w;done|skip
    rename_i k1 n1 k2 n2;split at w
    .rename_i S;simp only[ζh,beq_iff_eq]at S;obtain⟨⟨h1,rfl⟩,rfl⟩:=S;have m1:jG F none=some none:=rfl;have m2:jG F (some hh)=some (some 0):=by simp[jG,D]
     have m3:jG F (some m)=some (some 0):=by simp[jG,hc]
     simp only[bJ,A,hk,m1,m2,m3,hd];cases a <;> simp[Kr]at h1 <;> exact w
    .simp at w
   .simp at h
  .simp at h
 | build t ps=>
  simp only[resolve]at h;split at h
  .rename_i d hd;split at h
   .rename_i fs hk;split at h
    .rename_i pl ab;simp only[ζf,ζc]at h;obtain⟨q,hq,rfl,rfl⟩:=h;refine⟨rfl,λv w=>?_⟩
     simp only[bp,ζf]at w;obtain⟨cs,X,rfl⟩:=w;obtain⟨ws,w1,w2⟩:=GS (λi=>pl[i]?) _ q vs _ cs hq hv X
     simp only[bJ,hd,w1,hk,ab,w2,Option.map_some]
    .simp at h
   .rename_i len e hk;simp only[ζf,ζc]at h;obtain⟨de,ad,rfl,rfl⟩:=h;refine⟨rfl,λv w=>?_⟩
    simp only[bp,ζf]at w;obtain⟨cs,X,rfl⟩:=w;obtain⟨ws,w1,w2⟩:=GS (λi=>some (i*de.size,de.size)) ps.toList (ps.toList.map λq=>(q.1*de.size,de.size)) vs _ cs (by
     generalize ps.toList=l
     induction l with
     | nil=>rfl
     | cons x l ih=>simp[List.mapM_cons,ih]) hv X
    simp only[bJ,hd,w1,hk,ad,w2,Option.map_some]
   .simp at h
  .simp at h
 | makeFunc f a b=>
  cases f with
  | func f=>
   simp only[resolve,ζf,ζc]at h;obtain⟨s,hs,rfl,rfl⟩:=h;obtain⟨az,bs,A,D,rfl⟩:=Kk hv;refine⟨rfl,λv w=>?_⟩
   simp only[bp,ζa]at w;subst w;simp only[bJ,A,D,hN f s hs];rw[<-KN A];simp
  | _=>simp[resolve]at h
 | extract x i=>
  simp only[resolve,ζa,ζc]at h;obtain⟨rfl,rfl⟩:=h;obtain⟨a,A,rfl⟩:=nZ hv;refine⟨rfl,λv w=>?_⟩
  cases a <;> simp only[bp]at w <;> first|simp at w;done|skip
  simp only[bJ,A];exact w
 | load t x=>
  simp only[resolve,ζf,ζc]at h;obtain⟨d,hd,rfl,rfl⟩:=h;obtain⟨a,A,rfl⟩:=nZ hv;exact⟨rfl,λH v w=>by simp only[dM,hd,A];exact w⟩
 | lookup t m k ok=>
  simp only[resolve]at h;split at h
  .rename_i kt et hk;split at h
   .rename_i d kk hd J;simp only[ζf,ζc]at h;obtain⟨z,T,rfl,rfl⟩:=h;obtain⟨a,b,A,D,rfl⟩:=sD hv;refine⟨rfl,λH v w=>?_⟩
    simp only[eT]at w;split at w
    .rename_i Z L;split at w
     .rename_i O;simp only[dM,hk,A,D,hd,L,Ap J O,if_true,T];split at w
      .rename_i U;rw[U];exact w
      .rename_i U;rw[U];exact w
      .simp at w
     .simp at w
    .simp at w
   .simp at h
  .simp at h
 | alloc t=>
  simp only[resolve,ζf,ζc]at h;obtain⟨d,hd,rfl,rfl⟩:=h;have:=qy hv;subst this;exact⟨rfl,λx w=>by simpa [iW,eO,hd]using w⟩
 | box t x=>
  simp only[resolve,ζa,ζc]at h;obtain⟨rfl,rfl⟩:=h;obtain⟨a,A,rfl⟩:=nZ hv;exact⟨rfl,λx w=>by simp only[eO,A];exact w⟩
 | makeSlice t l c=>
  simp only[resolve]at h;split at h
  .rename_i e hk;split at h
   .rename_i d hd;split at h
    .rename_i Q;simp only[ζa,ζc]at h;obtain⟨rfl,rfl⟩:=h;obtain⟨a,b,A,D,rfl⟩:=sD hv;refine⟨rfl,λx w=>?_⟩
     cases a <;> cases b <;> simp only[iW]at w <;> first|simp at w;done|skip
     rename_i k1 n1 k2 n2;split at w
     .rename_i hc;simp only[eO,hk,A,D,hd];rw[if_pos ⟨hc.1,hc.2.1,hc.2.2.1,hc.2.2.2.1,hc.2.2.2.2,Q⟩];exact w
     .simp at w
    .simp at h
   .simp at h
  .simp at h
 | buildSlice t len ps=>
  simp only[resolve]at h;split at h
  .rename_i e hk;split at h
   .rename_i d hd;split at h
    .rename_i Q;simp only[ζa,ζc]at h;obtain⟨rfl,rfl⟩:=h;refine⟨rfl,λx w=>?_⟩
     have T:=ME _ _ hv;simp only[iW]at w;split at w
     .simp only[eO,hk,T,hd,if_pos Q];exact w
     .simp at w
    .simp at h
   .simp at h
  .simp at h
 | makeMap t r=>
  cases r with
  | none=>
   simp only[resolve,ζa,ζc]at h;obtain⟨rfl,rfl⟩:=h;have:=qy hv;subst this;exact⟨rfl,λx w=>by simpa [iW,eO]using w⟩
  | some r=>simp[resolve]at h
 | store t p x=>
  simp only[resolve,ζf,ζc]at h;obtain⟨d,hd,rfl,rfl⟩:=h;obtain⟨a,b,A,D,rfl⟩:=sD hv;refine⟨rfl,λH v w=>?_⟩
  cases a <;> simp only[fQ]at w <;> first|simp at w;done|skip
  simp only[cT,hd,A,D];exact w
 | mapUpdate t m k x=>
  simp only[resolve]at h;split at h
  .rename_i kt et hk;simp only[ζf,ζc]at h;obtain⟨kk,J,rfl,rfl⟩:=h;obtain⟨a,b,c,A,D,hc,rfl⟩:=GP hv;refine⟨rfl,λH v w=>?_⟩
   cases a <;> simp only[fQ]at w <;> first|simp at w;done|skip
   simp only[cT,hk,A,D,hc];split at w
   .rename_i Z L;split at w
    .rename_i O;rw[L];simp only[Ap J O,if_true];exact w
    .simp at w
   .simp at w
  .simp at h
 | insert t m k x=>
  simp only[resolve]at h;split at h
  .rename_i kt et hk;simp only[ζf,ζc]at h;obtain⟨kk,J,rfl,rfl⟩:=h;obtain⟨a,b,c,A,D,hc,rfl⟩:=GP hv;refine⟨rfl,λH v w=>?_⟩
   cases a <;> simp only[fQ]at w <;> first|simp at w;done|skip
   simp only[cT,hk,A,D,hc];split at w
   .rename_i Z L;split at w
    .rename_i O;rw[L];simp only[Ap J O,if_true];exact w
    .simp at w
   .simp at w
  .simp at h
 | call c=>
  obtain⟨callee,args,ai⟩:=c
  cases callee with
  | value f=>
   simp only[resolve,ζa,ζc]at h;obtain⟨rfl,rfl⟩:=h;obtain⟨a,az,A,has,rfl⟩:=iO hv;refine⟨rfl,a,az,rfl,?_⟩;simp only[jH,A,has];cases a <;> rfl
  | builtin b=>
   cases b with
   | append=>
    simp only[resolve]at h;split at h
    .rename_i t t' s x G B;split at h
     .rename_i e e' hk Y;split at h
      .rename_i d hd;split at h
       .rename_i Q;simp only[ζa,ζc]at h;obtain⟨rfl,rfl⟩:=h;obtain⟨a,b,A,D,rfl⟩:=sD hv;refine⟨rfl,λH v w=>?_⟩
        have C:eZ F args.toList=some [a,b]:=by rw[B];exact hv
        simp only[cT,G,C,hk,Y,hd];simp only[fQ]at w;split at w
        .rename_i h1 I;rw[h1,I];exact w
        .rename_i xs ys ae h1 I;rw[h1,I];split at w
         .rename_i af;simp only[if_pos (show xs.length+ys.length<=2147483648/\d.bytes<=4096/\0<d.bytes from⟨af,Q⟩)]
          cases ys with
          | nil=>exact absurd rfl ae
          | cons y ys=>exact w
         .simp at w
        .simp at w
       .simp at h
      .simp at h
     .rename_i e kk hk Y;simp only[ζf,ζc]at h;obtain⟨d,hd,rfl,rfl⟩:=h;obtain⟨a,b,A,D,rfl⟩:=sD hv;refine⟨rfl,λH v w=>?_⟩
      have C:eZ F args.toList=some [a,b]:=by rw[B];exact hv
      simp only[cT,G,C,hk,Y,hd];exact w
     .simp at h
    .simp at h
   | cap=>
    simp only[resolve]at h;split at h
    .rename_i t x G B;split at h
     .rename_i e hk;simp only[ζa,ζc]at h;obtain⟨rfl,rfl⟩:=h;obtain⟨a,A,rfl⟩:=nZ hv;have C:eZ F args.toList=some [a]:=by rw[B];exact hv
      refine⟨rfl,λx w=>?_⟩
      simp only[bJ,G,C,hk];simp only[bp]at w;cases a <;> simp only[OC]at w <;> first|(simp at w;done)|exact w
     .simp at h
    .simp at h
   | clear=>
    simp only[resolve]at h;split at h
    .rename_i t x G B;split at h
     .rename_i e hk;simp only[ζf,ζc]at h;obtain⟨d,hd,rfl,rfl⟩:=h;obtain⟨a,A,rfl⟩:=nZ hv;have C:eZ F args.toList=some [a]:=by rw[B];exact hv
      refine⟨rfl,λH v w=>?_⟩
      simp only[cT,G,C,hk,hd];exact w
     .simp at h
    .simp at h
   | len=>
    simp only[resolve]at h;split at h
    .rename_i t x G B;split at h
     .rename_i hk;simp only[ζa,ζc]at h;obtain⟨rfl,rfl⟩:=h;obtain⟨a,A,rfl⟩:=nZ hv;have C:eZ F args.toList=some [a]:=by rw[B];exact hv
      refine⟨rfl,λv w=>?_⟩
      cases a <;> simp only[bp]at w <;> first|simp at w;done|skip
      simp only[bJ,C,G,hk];exact w
     .rename_i e hk;simp only[ζa,ζc]at h;obtain⟨rfl,rfl⟩:=h;obtain⟨a,A,rfl⟩:=nZ hv;have C:eZ F args.toList=some [a]:=by rw[B];exact hv
      refine⟨rfl,λv w=>?_⟩
      simp only[bJ,C,G,hk];simp only[bp,qN]at w;cases a <;> simp at w ⊢ <;> exact w
     .simp at h
    .simp at h
   | max=>
    simp only[resolve]at h;split at h
    .rename_i x y B;simp only[ζa,ζc]at h;obtain⟨rfl,rfl⟩:=h;obtain⟨a,b,A,D,rfl⟩:=sD hv;have C:eZ F args.toList=some [a,b]:=by rw[B];exact hv
     refine⟨rfl,λv w=>?_⟩
     cases a <;> cases b <;> simp only[bp]at w <;> first|simp at w;done|skip
     simp only[bJ,C];exact w
    .rename_i x y z t B;simp only[ζa,ζc]at h;obtain⟨rfl,rfl⟩:=h;obtain⟨a,aj,A,I,rfl⟩:=iO hv;obtain⟨b,c,d,D,hc,hd,rfl⟩:=GP I;have C:eZ F args.toList=some [a,b,c,d]:=by rw[B];exact hv
     refine⟨rfl,λv w=>?_⟩
     cases a <;> cases b <;> simp only[bp]at w <;> first|simp at w;done|skip
     cases c <;> cases d <;> simp only[bp]at w <;> first|simp at w;done|skip
     simp only[bJ,C];exact w
    .simp at h
   | min=>
    simp only[resolve]at h;split at h
    .rename_i x y B;simp only[ζa,ζc]at h;obtain⟨rfl,rfl⟩:=h;obtain⟨a,b,A,D,rfl⟩:=sD hv;have C:eZ F args.toList=some [a,b]:=by rw[B];exact hv
     refine⟨rfl,λv w=>?_⟩
     cases a <;> cases b <;> simp only[bp]at w <;> first|simp at w;done|skip
     simp only[bJ,C];exact w
    .simp at h
   | _=>simp[resolve]at h
  | _=>simp[resolve]at h
 | panic x=>
  simp only[resolve,ζa,ζc]at h;obtain⟨rfl,rfl⟩:=h;have:=qy hv;subst this;exact⟨rfl,λx w=>by simp[bp]at w⟩
 | makeInterface t x=>
  simp only[resolve,ζa,ζc]at h;obtain⟨rfl,rfl⟩:=h;have:=qy hv;subst this;exact⟨rfl,λx w=>by simp[bp]at w⟩
 | _=>simp[resolve]at h
end
end Go.VE
namespace Go.VE
variable [bS]
structure Au (c c':dn):Prop where
 lv:c.lv<=c'.lv
 go:∀x a H r,c x a H=some r->c' x a H=some r
section
variable {E:Env} {c c':dn} {n:Nat} {ops:List Oper} {F F':Frame} {H H':bg}
theorem Ge {f:FuncId} {args:List V} {y:V} (hi:cz c f args H=some y):∃az,borrows c.lv H args=some az:=by
 unfold cz at hi;split at hi
 .rename_i az h;exact⟨az,h⟩
 .cases hi
theorem CF (B:c.lv<=c'.lv) {f:FuncId} (h:∀a H r,c (.fn f) a H=some r->c' (.fn f) a H=some r) {args:List V} {y:V} (hi:cz c f args H=some y):cz c' f args H=some y:=by
 unfold cz at hi ⊢;split at hi
 .rename_i az u;rw[sG B u];split at hi
  .rename_i hc;simp only;rw[h _ _ _ hc];split at hi
   .rename_i w;simp only;rw[rX B w];exact hi
   .cases hi
  .simp at hi
 .simp at hi
theorem sN (h:Au c c') {f:FuncId} {args:List V} {y:V} (hi:cz c f args H=some y):cz c' f args H=some y:=CF h.lv (λ_ _ _=>h.go _ _ _ _) hi
theorem mz (B:c.lv<=c'.lv) {f:FuncId} {args:List V} {y:V} (hi:cz c f args H=some y):cK (b_ c'.lv H) args=cK (b_ c.lv H) args:=by
 obtain⟨az,h⟩:=Ge hi;exact yG B h
theorem Cr (B:c.lv<=c'.lv) {f:FuncId} (h:∀a H r,c (.fn f) a H=some r->c' (.fn f) a H=some r) {args:List V} {r:V×bg} (hi:lT c f args H=some r):lT c' f args H=some r:=by
 unfold lT at hi ⊢;split at hi
 .rename_i az u;rw[sG B u];split at hi
  .rename_i hc;simp only;rw[h _ _ _ hc];exact hi
  .simp at hi
 .simp at hi
theorem Gg (h:Au c c') {f:FuncId} {args:List V} {r:V×bg} (hi:lT c f args H=some r):lT c' f args H=some r:=Cr h.lv (λ_ _ _=>h.go _ _ _ _) hi
theorem zl (h:Au c c') {f:FuncId} {args:List V} {r:V×bg} (hi:fA E c f args H=some r):fA E c' f args H=some r:=by
 unfold fA at hi ⊢;split
 .rename_i u;rw[if_pos u]at hi;exact Gg h hi
 .rename_i u;rw[if_neg u]at hi;exact h.go _ _ _ _ hi
theorem zu (U:c.lv<=c'.lv) {f:FuncId} {args:List V} {y G:V} {b:Nat} (h1:cz c f args (H.take b)=none) (B:cz c f args H=some y) (D:cz c' f args (H.take b)=some G):False:=by
 unfold cz at h1 B D;split at D
 .rename_i az has;split at B
  .rename_i C u;have e:=nS (λx y z k1 I=>Jb (H2:=H.take b) c.lv c'.lv x y z k1 I λid w=>by
    rw[List.getElem?_take]at w ⊢;split at w
    .rename_i A;rw[if_pos A]
    .cases w) u has
   have J:borrows c.lv H args=some az:=mF (Bh c.lv) e;rw[J]at u;cases u;rw[show borrows c.lv (H.take b) args=some az from e]at h1;simp only at h1;rw[h1]at B;simp at B
  .simp at B
 .simp at D
theorem Me (h:Au c c') {place:Option (Nat×Nat)} {op:Op} {r:V×bg} (hi:dg E c ops place F H op=some r):dg E c' ops place F H op=some r:=by
 unfold dg at hi ⊢;split at hi
 .exact hi
 .exact hi
 .exact hi
 .exact hi
 .split at hi
  .rename_i f args A;split at hi
   .rename_i hk;rw[if_pos hk];split at hi
    .exact zl h hi
    .skip
     split at hi
     .rename_i z;rw[if_pos z];exact zl h hi
     .simp at hi
   .rename_i hk;rw[if_neg hk];split at hi
    .skip
     split at hi
     .rename_i y u;rw[sN h u,mz h.lv u];exact hi
     .simp at hi
    .rename_i b i
     skip
     split at hi
     .rename_i y u;rw[sN h u,mz h.lv u];exact hi
     .rename_i w;split at hi
      .rename_i z;split at hi
       .rename_i y u
        cases B:cz c' f args (List.take b H)with
        | some C=>exact(zu h.lv w u B).elim
        | none=>simp only[if_pos z,sN h u,mz h.lv u];exact hi
       .simp at hi
      .simp at hi
  .rename_i id args A;split at hi
   .exact h.go _ _ _ _ hi
   .skip
    split at hi
    .rename_i z;rw[if_pos z];exact h.go _ _ _ _ hi
    .simp at hi
  .simp at hi
theorem Cj (h:Au c c') {place:Option (Nat×Nat)} {o:Oper} {r:Frame×bg} (hi:gw E c n ops place o F H=some r):gw E c' n ops place o F H=some r:=by
 unfold gw at hi ⊢;split at hi
 .rename_i u;rw[if_pos u];split at hi
  .rename_i v H1 hd;rw[Me h hd];exact hi
  .simp at hi
 .rename_i u;rw[if_neg u];exact hi
theorem Bo (h:Au c c') {r:Frame×bg}:∀(l:List Oper) {F:Frame} {H:bg},lZ E c n ops l F H=some r->lZ E c' n ops l F H=some r
 | [],_,_,hi=>hi
 | o::l,F,H,hi=>by
  simp only[lZ]at hi ⊢;split at hi
  .rename_i F1 H1 B;rw[Cj h B];exact Bo h l hi
  .simp at hi
theorem Bu (h:Au c c') {base:Nat} {r:Frame×bg}:∀(l:List Nat) {F:Frame} {H:bg},jF E c n ops base l F H=some r->jF E c' n ops base l F H=some r
 | [],_,_,hi=>hi
 | i::l,F,H,hi=>by
  simp only[jF]at hi ⊢;split at hi
  .split at hi
   .rename_i F1 H1 B;rw[Cj h B];exact Bu h l hi
   .simp at hi
  .simp at hi
theorem DP (h:Au c c') {B:Bool} {r:Frame×bg} (hi:jx E c n ops B F H=some r):jx E c' n ops B F H=some r:=by
 unfold jx at hi ⊢;split
 .rename_i hd;rw[if_pos hd]at hi;split at hi
  .rename_i u;rw[if_pos u];exact Bu h _ hi
  .simp at hi
 .rename_i hd;rw[if_neg hd]at hi;exact Bo h _ hi
theorem yA {s J:Frame->bg->Option (Out×Frame×bg)} (h:∀F H r,s F H=some r->J F H=some r):∀(k B:Nat),k<=B->∀{F H r},kA s k F H=some r->kA J B F H=some r
 | 0,_,_,F,H,r,hi=>by simp[kA]at hi
 | k+1,0,hk,F,H,r,hi=>by omega
 | k+1,B+1,hk,F,H,r,hi=>by
  simp only[kA]at hi ⊢;split at hi
  .rename_i F1 H1 U;rw[h _ _ _ U];exact yA h k B (by omega) hi
  .rename_i D;rw[h _ _ _ hi];split
   .rename_i F1 H1 G;cases G;exact absurd hi (D _ _)
   .rfl
theorem z6 (h:Au c c') {lf B:Nat} (J:lf<=B) (ro:Bool) (nt:Nat):∀(code:Code) {F:Frame} {H:bg} {r:Out×Frame×bg},exec E c lf ro nt code F H=some r->exec E c' B ro nt code F H=some r:=by
 intro code
 induction code with
 | skip=>intro F H r hi;exact hi
 | label l=>intro F H r hi;exact hi
 | region id ops I=>
  intro F H r hi;simp only[exec,ζf]at hi ⊢;obtain⟨x,L,rfl⟩:=hi;exact⟨x,DP h L,rfl⟩
 | seq a b u z=>
  intro F H r hi;simp only[exec]at hi ⊢;split at hi
  .rename_i F1 H1 h1;rw[u h1];exact z hi
  .rename_i A;rw[u hi];split
   .rename_i C;cases C;exact absurd hi (A _ _)
   .rfl
 | cond x a b u z=>
  intro F H r hi;simp only[exec]at hi ⊢;split at hi
  .rename_i t S;split at hi
   .rename_i D;subst D;simp only[if_true];exact u hi
   .rename_i D;rw[if_neg D];exact z hi
  .simp at hi
 | block id a G=>
  intro F H r hi;simp only[exec]at hi ⊢;split at hi
  .rename_i O F1 H1 h1;rw[G h1];exact hi
  .rename_i A;rw[G hi];split
   .rename_i C;cases C;exact absurd hi (A _ _ _)
   .rfl
 | loop a G=>
  intro F H r hi;simp only[exec]at hi ⊢;exact yA (λF H r hr=>G hr) lf B J hi
 | rangeFunc g T U W _ _=>
  intro F H r hi;simp only[exec]at hi ⊢;split at hi
  .split at hi
   .rename_i Q H1 hc;rw[h.go _ _ _ _ hc];exact hi
   .simp at hi
  .simp at hi
 | exit id=>intro F H r hi;exact hi
 | ret=>intro F H r hi;exact hi
 | scope a _=>intro F H r hi;simp[exec]at hi
 | goto l=>intro F H r hi;simp[exec]at hi
 | refuse w=>intro F H r hi;simp[exec]at hi
theorem Gk (E:Env):∀n,Au (run E n) (run E (n+1)):=by
 intro n
 induction n with
 | zero=>exact⟨Nat.le_succ _,λx a H r h=>(by cases h)⟩
 | succ n u=>
  refine⟨Nat.le_succ _,λx a H r h=>?_⟩
  rw[FD]at h ⊢
  cases x with
  | fn f=>
   rw[kT]at h ⊢;split at h
   .rename_i T L;split at h
    .rename_i A;rw[if_pos A];split at h
     .simp at h
     .rename_i o F1 H1 B O;rw[z6 u (Nat.le_succ n) _ _ _ O]
      cases o with
      | exit id=>exact(B id rfl).elim
      | norm=>exact h
      | ret=>exact h
     .simp at h
    .simp at h
   .split at h
    .rename_i C;rw[if_pos C];exact Da u.lv (λg args y _ Q=>sN u Q) h
    .rename_i C;rw[if_neg C];exact h
  | yld id=>
   rw[kT]at h ⊢;split at h
   .rename_i rec J;split at h
    .rename_i S;split at h
     .rename_i w;split at h
      .rename_i U H2 D;split at h
       .rename_i r2 G;split at h
        .rename_i z;split at h
         .rename_i o W X I;simp only[if_pos w,z6 u (Nat.le_succ n) _ _ _ D,G,z,z6 u (Nat.le_succ n) _ _ _ I];exact h
         .simp at h
        .simp at h
       .simp at h
      .simp at h
     .simp at h
    .simp at h
   .simp at h
theorem uf (E:Env) {n m:Nat} (h:n<=m):Au (run E n) (run E m):=by
 induction h with
 | refl=>exact⟨Nat.le_refl _,λ_ _ _ _ h=>h⟩
 | step _ u=>exact⟨Nat.le_trans u.lv (Gk E _).lv,λx a H r h=>(Gk E _).go x a H r (u.go x a H r h)⟩
theorem pY (E:Env):∀n,(run E n).lv=n
 | 0=>rfl
 | _+1=>rfl
end
end Go.VE
namespace Go.VE
variable [bS]
def Kl (P:Program) (f:FuncId):Option FI:=(P.funcs[f]?).bind λfn=>fn.body.map λb=>⟨fn.ntmps,fn.results.toList,b⟩
def AD (P:Program):Bool:=P.funcs.toList.all λfn => !(fn.name == "runtime.NumGoroutine")
theorem SM {P:Program} (h:AD P=true) {f:FuncId} {fi:FI} (B:Kl P f=some fi):∃fn,P.funcs[f]? = some fn/\fn.body=some fi.body/\fn.ntmps=fi.ntmps/\fn.results.toList=fi.results/\(fn.name == "runtime.NumGoroutine")=false:=by
 unfold Kl at B;obtain⟨fn,h1,w⟩:=ζg.1 B;obtain⟨b,z,rfl⟩:=ζf.1 w;refine⟨fn,h1,z,rfl,rfl,?_⟩;unfold AD at h;rw[List.all_eq_true]at h;have A:=h fn (by
  obtain⟨u,rfl⟩:=Array.getElem?_eq_some_iff.1 h1;exact Array.mem_toList_iff.2 (Array.getElem_mem u))
 simpa using A
def CV (P:Program) (shut keep own:List Nat) (two:List (Nat×Nat)) (B:FuncId->Bool) (known:FuncId->List V->Option V):Env where
 tt:=vN P
 ft f:=if shut.contains f then none else Kl P f
 keep:=keep.contains
 own:=own.contains
 eqN t:=lk two t
 sort:=B
 known:=known
theorem G2 {P:Program} {shut keep own:List Nat} {two:List (Nat×Nat)} {B:FuncId->Bool} {known:FuncId->List V->Option V} (h:AD P=true) (D:∀p∈two,vZ P p.1 p.2):ey P (CV P shut keep own two B known) where
 tt t d h:=h
 ft f w u:=by
  change (if shut.contains f then none else Kl P f)=some w at u;split at u
  .cases u
  .exact SM h u
 eqN t n z:=D (t,n) (NG z)
end Go.VE
namespace Go.VE
variable [bS]
structure Xj (w:World) (v:Value) (l:List Int):Prop where
 at_:∃a cap,v=.slice a l.length cap/\(a=none->l=[])/\∀ad,a=some ad->l=[]\/∃c el fr,ad.spot=none/\w.heap[ad.block]? = some (.cells c el fr)/\ad.off+l.length<=c.size/\(c.toList.drop ad.off).take l.length=l.map (Value.int .i64)
section
variable {P:Program} {I:ct} {μ:Mu} {H:bg} {w:World} {n:Nat}
variable {f A S e:Nat} {fn:Func} {bytes i1 i2 i3 i4 t1 t2 t6 t7:Nat} {p1 p2 p3 p4 p5 p6 p7:String} {e1 e2 e3 e4 e5 e6 e7:Array Edge}
end
end Go.VE
namespace Go.VE
variable [bS]
variable {P:Program}
theorem GM (a:List Int) (j:Nat):(ic a)[j]? = (a[j]?).map (Value.int .i64):=by simp[ic]
theorem EL {i:TypeId} {a b:List Int} {n:Nat} (D:a.length=n) (G:b.length=n) (hi:vN P i=some ⟨1,8,[.int .i64 0],.int .i64⟩) (B:P.underlying i=some (.int .i64)) (d:Nat) (w:World) :
 ∀(m k:Nat),k+m=n->(Op.eqItems (d+1) i 1 (ic a) (ic b) (List.range' k m)).run P w=.ok (a.drop k==b.drop k) w
 | 0,k,h=>by
  have h1:a.drop k=[]:=List.drop_eq_nil_of_le (by omega)
  have I:b.drop k=[]:=List.drop_eq_nil_of_le (by omega)
  simp[Op.eqItems,h1,I]
 | m+1,k,h=>by
  have u:k<a.length:=by omega
  have z:k<b.length:=by omega
  have pa:(part i (ic a) (k*1)).run P w=.ok (.int .i64 a[k]) w:=ri hi (by rw[GM,Nat.mul_one];simp[u])
  have J:(part i (ic b) (k*1)).run P w=.ok (.int .i64 b[k]) w:=ri hi (by rw[GM,Nat.mul_one];simp[z])
  have q:(Op.equalIn (d+1) i (.int .i64 a[k]) (.int .i64 b[k])).run P w=.ok (a[k]==b[k]) w:=Bj d _ _ B;have L:=EL D G hi B d w m (k+1) (by omega)
  have A:=List.drop_eq_getElem_cons u;have C:=List.drop_eq_getElem_cons z;simp only[List.range'_succ,Op.eqItems,Sem.run_bind,pa,J,q,Result.andThen_ok]
  by_cases e:a[k]=b[k]
  .rw[A,C,List.cons_beq_cons,e];simp only[beq_self_eq_true,Bool.not_true,Bool.true_and,if_false,Bool.false_eq_true];exact L
  .have:(a[k]==b[k])=false:=by simpa using e
   rw[A,C,List.cons_beq_cons,this];simp only[Bool.not_false,if_true,Bool.false_and,Sem.run_pure]
theorem G8 {i:TypeId} {a:List Int} {n:Nat} (e:Bool) (G:a.length=n) (hi:vN P i=some ⟨1,8,[.int .i64 0],.int .i64⟩) (B:P.underlying i=some (.int .i64)) (d:Nat) (w:World) :
 ∀(m k:Nat),k+m=n->(forIn (List.range' k m) PUnit.unit (λj (_:PUnit)=>do
  let s <-sizeOf i
  let v <-part i (ic a) (j*s)
  Instr.checkKey e (d+1) i v
  pure (ForInStep.yield PUnit.unit)):Sem PUnit).run P w=.ok PUnit.unit w
 | 0,k,h=>by simp
 | m+1,k,h=>by
  have D:k<a.length:=by omega
  have pa:(part i (ic a) (k*1)).run P w=.ok (.int .i64 a[k]) w:=ri hi (by rw[GM,Nat.mul_one];simp[D])
  have z:(sizeOf i).run P w=.ok 1 w:=(pG.KV hi).kg;have q:(Instr.checkKey e (d+1) i (.int .i64 a[k])).run P w=.ok () w:=zF d e _ B;have u:=G8 e G hi B d w m (k+1) (by omega)
  simp only[List.range'_succ,List.forIn_cons,Sem.run_bind,z,pa,q,Result.andThen_ok,Sem.run_pure]at u ⊢;exact u
theorem vZ.arr {t i:TypeId} {n:Nat} (hu:P.underlying t=some (.array n i)) (hi:vN P i=some ⟨1,8,[.int .i64 0],.int .i64⟩) (G:P.underlying i=some (.int .i64)) (U:P.eqGuardType P.depth t=false):vZ P t n:=by
 obtain⟨O,z,A,L,_⟩:=(pG.KV hi).info;have B:P.cellsOf i=1:=by unfold Program.cellsOf;simp[A,L]
 have C:∀(w:World) (a b:List Int),a.length=n->b.length=n->(Op.equal t (.agg (ic a)) (.agg (ic b))).run P w=.ok (a==b) w:=by
  intro w a b D I;show (Op.equalIn (9999+1) t _ _).run P w=_;rw[run_equalIn_array w 9999 _ _ hu A,B,List.range_eq_range'];simpa using EL D I hi G 9998 w n 0 (by omega)
 have J:∀(op:BinOp) (p q:Operand) (w:World) (u v:Array Value),(eqGuard op t p q (.agg u) (.agg v)).run P w=.ok () w:=by
  intro op p q w u v;unfold eqGuard;cases op <;> simp[Sem.run_bind,run_program,Result.andThen,U]
 refine⟨?_,?_,C,?_,⟨_,hu,.inl ⟨_,_,rfl⟩⟩⟩
 .intro w p q a b D I;rw[Sem.run_bind,J,Result.andThen_ok];show (do pure (Value.bool (<-Op.equal t (.agg (ic a)) (.agg (ic b)))):Sem Value).run P w=_
  rw[Sem.run_bind,C _ _ _ D I];rfl
 .intro w p q a b D I;rw[Sem.run_bind,J,Result.andThen_ok];show (do pure (Value.bool (!(<-Op.equal t (.agg (ic a)) (.agg (ic b))))):Sem Value).run P w=_
  rw[Sem.run_bind,C _ _ _ D I];rfl
 .intro w e a D;show (Instr.checkKey e (9999+1) t _).run P w=_;unfold Instr.checkKey;simp only[Sem.run_bind,dF hu,Result.andThen_ok];have:=G8 e D hi G 9998 w n 0 (by omega)
  simp only[Std.Legacy.Range.forIn_eq_forIn_range',Std.Legacy.Range.size,Nat.sub_zero,Nat.add_one_sub_one,Nat.div_one];rw[show (9998+1:Nat)=9999 from rfl]at this;rw[this];rfl
end Go.VE
namespace Go.VE
variable [bS]
structure CR (E:Env) (c c':dn):Prop where
 lv:c.lv<=c'.lv
 Uc:∀f args H y,E.keep f=false->cz c f args H=some y->cz c' f args H=some y
 dir:∀f args H r,E.keep f=true->c (.fn f) args H=some r->c' (.fn f) args H=some r
 yld:∀id args H r,c (.yld id) args H=some r->c' (.yld id) args H=some r
 rng:∀f args H r,H≠[]->c (.fn f) args H=some r->c' (.fn f) args H=some r
section
variable {E:Env} {c c':dn} {n:Nat} {ops:List Oper} {F F':Frame} {H H':bg}
theorem IW (h:CR E c c') {f:FuncId} {args:List V} {r:V×bg} (hk:E.keep f=true) (hi:lT c f args H=some r):lT c' f args H=some r:=Cr h.lv (λ_ _ _=>h.dir _ _ _ _ hk) hi
theorem Bn (h:CR E c c') {f:FuncId} {args:List V} {r:V×bg} (hk:E.keep f=true) (hi:fA E c f args H=some r):fA E c' f args H=some r:=by
 unfold fA at hi ⊢;split
 .rename_i u;rw[if_pos u]at hi;exact IW h hk hi
 .rename_i u;rw[if_neg u]at hi;exact h.dir _ _ _ _ hk hi
theorem Bd {place:Option (Nat×Nat)} {f:FuncId} (h:kI E ops place f=true):E.keep f=true:=by
 unfold kI at h;grind
theorem CR.any (h:CR E c c') {f:FuncId} {args:List V} {H:bg} {y:V} (hi:cz c f args H=some y):cz c' f args H=some y:=by
 cases hk:E.keep f with
 | false=>exact h.Uc _ _ _ _ hk hi
 | true=>exact CF h.lv (λ_ _ _=>h.dir _ _ _ _ hk) hi
theorem OA (h:CR E c c') {place:Option (Nat×Nat)} {op:Op} {r:V×bg} (hi:dg E c ops place F H op=some r):dg E c' ops place F H op=some r:=by
 unfold dg at hi ⊢;split at hi
 .omega
 .omega
 .omega
 .omega
 .split at hi
  .rename_i f args A;split at hi
   .rename_i hk;rw[if_pos hk];split at hi
    .exact Bn h (Bd hk) hi
    .split at hi
     .rename_i z;rw[if_pos z];exact Bn h (Bd hk) hi
     grind
   .rename_i hk;rw[if_neg hk];split at hi
    .split at hi
     .rename_i y u;rw[h.any u,mz h.lv u];exact hi
     grind
    .rename_i b i;split at hi
     .rename_i y u;rw[h.any u,mz h.lv u];exact hi
     .rename_i w;split at hi
      .rename_i z;split at hi
       .rename_i y u
        cases B:cz c' f args (List.take b H)with
        | some C=>exact(zu h.lv w u B).elim
        | none=>simp only[if_pos z,h.any u,mz h.lv u];exact hi
       grind
      grind
  .split at hi
   .exact h.yld _ _ _ _ hi
   .split at hi
    .rename_i z;rw[if_pos z];exact h.yld _ _ _ _ hi
    grind
  grind
theorem EI (h:CR E c c') {place:Option (Nat×Nat)} {o:Oper} {r:Frame×bg} (hi:gw E c n ops place o F H=some r):gw E c' n ops place o F H=some r:=by
 unfold gw at hi ⊢;split at hi
 .rename_i u;rw[if_pos u];split at hi
  .rename_i v H1 hd;rw[OA h hd];omega
  grind
 grind
theorem C_ (h:CR E c c') {r:Frame×bg}:∀(l:List Oper) {F:Frame} {H:bg},lZ E c n ops l F H=some r->lZ E c' n ops l F H=some r
 | [],_,_,hi=>hi
 | o::l,F,H,hi=>by
  simp[lZ]at hi ⊢;split at hi
  .rename_i F1 H1 B;rw[EI h B];exact C_ h l hi
  grind
theorem CN (h:CR E c c') {base:Nat} {r:Frame×bg}:∀(l:List Nat) {F:Frame} {H:bg},jF E c n ops base l F H=some r->jF E c' n ops base l F H=some r
 | [],_,_,hi=>hi
 | i::l,F,H,hi=>by
  simp[jF]at hi ⊢;split at hi
  .split at hi
   .rename_i F1 H1 B;rw[EI h B];exact CN h l hi
   grind
  grind
theorem FA (h:CR E c c') {B:Bool} {r:Frame×bg} (hi:jx E c n ops B F H=some r):jx E c' n ops B F H=some r:=by
 unfold jx at hi ⊢;split
 .rename_i hd;rw[if_pos hd]at hi;split at hi
  .rename_i u;rw[if_pos u];exact CN h _ hi
  grind
 .rename_i hd;rw[if_neg hd]at hi;exact C_ h _ hi
theorem BG (h:CR E c c') {lf B:Nat} (D:lf<=B) (ro:Bool) (nt:Nat):∀(code:Code) {F:Frame} {H:bg} {r:Out×Frame×bg},exec E c lf ro nt code F H=some r->exec E c' B ro nt code F H=some r:=by
 intro code
 induction code with
 | skip=>intro F H r hi;exact hi
 | label l=>intro F H r hi;exact hi
 | region id ops A=>
  intro F H r hi;simp only[exec,ζf]at hi ⊢;obtain⟨x,G,rfl⟩:=hi;exact⟨x,FA h G,rfl⟩
 | seq a b u z=>
  intro F H r hi;simp[exec]at hi ⊢
  grind
 | cond x a b u z=>
  intro F H r hi;simp[exec]at hi ⊢
  grind
 | block id a C=>
  intro F H r hi;simp[exec]at hi ⊢
  grind
 | loop a C=>
  intro F H r hi;exact yA (λF H r hr=>C hr) lf B D hi
 | rangeFunc g J L O _ _=>
  intro F H r hi;simp[exec]at hi ⊢;split at hi
  .split at hi
   .rename_i I H1 hc;rw[h.rng _ _ _ _ (by simp) hc];omega
   grind
  grind
 | exit id=>intro F H r hi;exact hi
 | ret=>intro F H r hi;exact hi
 | scope a _=>intro F H r hi;simp[exec]at hi
 | goto l=>intro F H r hi;simp[exec]at hi
 | refuse w=>intro F H r hi;simp[exec]at hi
theorem zX (h:CR E c c') {n m:Nat} (B:n<=m) {x:Callee} {a:List V} {r:V×bg} (hi:kT E c n x a H=some r):kT E c' m x a H=some r:=by
 cases x with
 | fn f=>
  rw[kT]at hi ⊢;split at hi
  .split at hi
   .rename_i D;split at hi
    .simp_all
    .rename_i o F1 H1 G I;rw[BG h B _ _ _ I]
     grind
    grind
   grind
  .split at hi
   .rename_i J;rw[if_pos J];exact Da h.lv (λg args y hk L=>h.Uc _ _ _ _ hk L) hi
   grind
 | yld id=>
  rw[kT]at hi ⊢;split at hi
  .split at hi
   .split at hi
    .rename_i u;split at hi
     .rename_i O H2 z;split at hi
      .rename_i r2 A;split at hi
       .rename_i w;split at hi
        .rename_i o Q S C;simp only[if_pos u,BG h B _ _ _ z,A,w,BG h B _ _ _ C];omega
        grind
       grind
      grind
     grind
    grind
   grind
  grind
mutual
def V.same:Nat->V->V->Bool
 | 0,_,_=>false
 | _+1,.bool a,.bool b=>a==b
 | _+1,.int k a,.int l b=>decide (k=l)&&decide (a=b)
 | _+1,.str a,.str b=>decide (a.data.toList=b.data.toList)
 | _+1,.bW,.bW=>true
 | _+1,.dA,.dA=>true
 | _+1,.gZ,.gZ=>true
 | _+1,.gA,.gA=>true
 | _+1,.rU,.rU=>true
 | n+1,.agg a,.agg b=>V.qR n a b
 | n+1,.tup a,.tup b=>V.qR n a b
 | n+1,.fptr a,.fptr b=>V.qR n a b
 | n+1,.fsl e a,.fsl B b=>Nat.beq e B&&V.As n a b
 | n+1,.clo f a b,.clo D a' G=>Nat.beq f D&&V.qR n a a'&&V.qR n b G
 | _+1,_,_=>false
def V.qR:Nat->List V->List V->Bool
 | 0,_,_=>false
 | _+1,[],[]=>true
 | n+1,a::r,b::s=>V.same n a b&&V.qR n r s
 | _+1,_,_=>false
def V.As:Nat->List (List V)->List (List V)->Bool
 | 0,_,_=>false
 | _+1,[],[]=>true
 | n+1,a::r,b::s=>V.qR n a b&&V.As n r s
 | _+1,_,_=>false
end
theorem SD:∀n,(∀a b,V.same n a b=true->a=b)/\(∀a b,V.qR n a b=true->a=b)/\(∀a b,V.As n a b=true->a=b):=by
 intro n
 induction n with
 | zero=>exact⟨λa b h=>by simp[V.same]at h,λa b h=>by simp[V.qR]at h,λa b h=>by simp[V.As]at h⟩
 | succ n u=>
  obtain⟨i1,i2,i3⟩:=u;refine⟨λa b h=>?_,λa b h=>?_,λa b h=>?_⟩
  .cases a <;> cases b <;> simp only[V.same,ζh,decide_eq_true_eq,Bool.false_eq_true]at h <;> first|rfl|grind|skip
   all_goals first
    | grind
    | grind
    | grind
    | (rw[Nat.eq_of_beq_eq_true h.1,i3 _ _ h.2])
    | (rw[Nat.eq_of_beq_eq_true h.1.1,i2 _ _ h.1.2,i2 _ _ h.2])
    | (congr 1;exact ByteArray.ext (Array.ext' h))
  .cases a <;> cases b <;> simp[V.qR]at h <;> first|rfl|grind|grind
  .cases a <;> cases b <;> simp[V.As]at h <;> first|rfl|grind|grind
structure kM where
 f:FuncId
 az:List V
 y:V
def yK:List kM->FuncId->List V->Option V
 | [],_,_=>none
 | k::r,f,az=>bif Nat.beq k.f f&&V.qR 1000 k.az az then some k.y else yK r f az
theorem BM:∀{l:List kM} {f:FuncId} {az:List V} {y:V},yK l f az=some y->∃k∈l,k.f=f/\k.az=az/\k.y=y
 | [],_,_,_,h=>by simp[yK]at h
 | k::r,f,az,y,h=>by
  unfold yK at h
  cases B:Nat.beq k.f f&&V.qR 1000 k.az az with
  | true=>
   simp only[ζh]at B;exact⟨k,List.mem_cons_self ..,Nat.eq_of_beq_eq_true B.1,(SD 1000).2.1 _ _ B.2,by grind⟩
  | false=>
   rw[B]at h;obtain⟨q,h1,D⟩:=BM h
   grind
def FT (E:Env) (l:List kM) (c:dn) (n:Nat):Callee->List V->bg->Option (V×bg)
 | .fn f,az,[]=>match yK l f az with
  | some y=>some (y,[])
  | none=>kT E c n (.fn f) az []
 | x,az,H=>kT E c n x az H
def runM (E:Env) (l:List kM):Nat->dn
 | 0=>⟨0,λ_ _ _=>none⟩
 | n+1=>⟨n+1,FT E l (runM E l n) n⟩
theorem SN (E:Env) (l:List kM):∀n,(runM E l n).lv=n
 | 0=>rfl
 | _+1=>rfl
theorem NC {l:List kM} {n:Nat} {x:Callee} {a:List V} {H:bg}:runM E l (n+1) x a H=FT E l (runM E l n) n x a H:=rfl
def vo (E:Env) (n:Nat) (k:kM):Prop:=∃r H1,run E n (.fn k.f) k.az []=some (r,H1)/\borrow n H1 r=some k.y
structure tB (E:Env) (k:kM):Prop where
 keep:E.keep k.f=false
 cl:k.y.closed=true
 at_:∃n,vo E n k
theorem vo.le {n m:Nat} {k:kM} (h:vo E n k) (B:n<=m):vo E m k:=by
 obtain⟨r,H1,h1,u⟩:=h;exact⟨r,H1,(uf E B).go _ _ _ _ h1,rX B u⟩
theorem Ao:∀{l:List kM},(∀k∈l,tB E k)->∃N,∀k∈l,vo E N k
 | [],_=>⟨0,by simp⟩
 | k::r,h=>by
  obtain⟨N,B⟩:=Ao (λq hq=>h q (List.mem_cons_of_mem _ hq))
  obtain⟨n,u⟩:=(h k (List.mem_cons_self ..)).at_;refine⟨max N n,λq hq=>?_⟩
  rcases List.mem_cons.1 hq with rfl|hq
  .exact u.le (Nat.le_max_right ..)
  .exact(B q hq).le (Nat.le_max_left ..)
theorem zI {l:List kM} {x:Callee} {az:List V} (h:H≠[]\/(∃id,x=.yld id)\/∃f,x=.fn f/\yK l f az=none):runM E l (n+1) x az H=kT E (runM E l n) n x az H:=by
 rcases h with h|⟨id,rfl⟩|⟨f,rfl,h⟩
 .cases x with
  | yld id=>rfl
  | fn f=>
   cases H with
   | nil=>exact absurd rfl h
   | cons a r=>rfl
 .rfl
 .cases H with
  | nil=>rw[NC,FT,h]
  | cons a r=>rfl
theorem Jr {l:List kM} {N:Nat} (B:∀k∈l,tB E k) (D:∀k∈l,vo E N k):∀n,CR E (runM E l n) (run E (N+n)):=by
 intro n
 induction n with
 | zero=>
  refine⟨Nat.zero_le _,λf args H y _ h=>?_,λf args H r _ h=>(by cases h),λid args H r h=>(by cases h),λf args H r _ h=>(by cases h)⟩
  unfold cz at h;split at h
  .cases h
  .cases h
 | succ n G=>
  have up:∀{x:Callee} {az:List V} {H:bg} {r:V×bg},kT E (runM E l n) n x az H=some r->run E (N+(n+1)) x az H=some r:=λh=>by
   rw[show N+(n+1)=(N+n)+1 from rfl,FD];exact zX G (Nat.le_add_left ..) h
  have w:(runM E l (n+1)).lv<=(run E (N+(n+1))).lv:=by rw[SN,pY];exact Nat.le_add_left ..
  refine⟨w,λf args H y hk h=>?_,λf args H r hk h=>?_,λid args H r h=>?_,λf args H r A h=>?_⟩
  .unfold cz at h ⊢;split at h
   .rename_i az has;rw[sG w has];split at h
    .rename_i r H1 hc
     cases z:yK l f az with
     | none=>
      rw[zI (.inr (.inr ⟨f,rfl,z⟩))]at hc;simp only;rw[up hc];split at h
      .rename_i O I;simp only;rw[rX w I];exact h
      .cases h
     | some Q=>
      rw[NC,FT,z]at hc;obtain⟨rfl,rfl⟩:=hc;obtain⟨k,u,rfl,rfl,rfl⟩:=BM z;have ok:=B k u;obtain⟨r1,H2,h1,J⟩:=(D k u).le (Nat.le_add_right N (n+1));rw[mA _ _ ok.cl]at h;simp only[h1,pY,J];exact h
    .cases h
   .cases h
  .by_cases z:H≠[]\/(∃id,(Callee.fn f)=.yld id)\/∃C,Callee.fn f=.fn C/\yK l C args=none
   .rw[zI z]at h;exact up h
   .cases L:yK l f args with
    | none=>grind
    | some y=>
     obtain⟨k,u,rfl,_,_⟩:=BM L;rw[(B k u).keep]at hk;cases hk
  .exact up h
  .rw[zI (.inl A)]at h;exact up h
def Us (E:Env) (l:List kM) (n:Nat) (k:kM):Option V:=
 match kT E (runM E l n) n (.fn k.f) k.az []with
 | some (r,H1)=>borrow n H1 r
 | none=>none
theorem GA {l:List kM} (B:∀k∈l,tB E k) {k:kM} (h:(Us E l n k,k.y.closed,E.keep k.f)=(some k.y,true,false)):tB E k:=by
 simp  at h;obtain⟨N,u⟩:=Ao B;refine⟨h.2.2,h.2.1,N+n+1,?_⟩;have h1:=h.1;unfold Us at h1;split at h1
 .rename_i r H1 w;refine⟨r,H1,?_,rX (by omega) h1⟩
  exact zX (Jr B u n) (Nat.le_add_left ..) w
 grind
def Re (E:Env) (l:List kM) (n:Nat) (f:FuncId) (az:List V):Bool:=
 match kT E (runM E l n) n (.fn f) az []with
 | some (.bool b,_)=>b
 | _=>false
theorem KL {l:List kM} (B:∀k∈l,tB E k) {f:FuncId} {az:List V} (h:Re E l n f az=true):∃n H1,run E n (.fn f) az []=some (.bool true,H1):=by
 obtain⟨N,u⟩:=Ao B;unfold Re at h;split at h
 .rename_i b H1 w;subst h;exact⟨N+n+1,H1,(zX (Jr B u n) (Nat.le_add_left ..) w)⟩
 simp_all
end
end Go.VE
