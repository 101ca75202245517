/-
 The engine: operations of the loaded code on values without a heap; a run of it is a run of the program.
-/
import Derived.RangeFuncRecord
import Derived.Shelf.SlSortCmp.NoneTotal
import Derived.RangeFuncLeaves
import Derived.Laws.StructEq
import Derived.ChangeKeysEq
import Derived.Test.YtlmckmkfopljoaaGreatDoorV1
set_option linter.all false
namespace Go.VE
variable [bN]
def Out.Fk:Out->Exit
 | .norm=>.normal
 | .exit id=>.exit id
 | .ret=>.ret
theorem exists_least (p:Nat->Prop):∀k,p k->∃m,p m/\∀j,p j->m<=j:=by
 intro k
 induction k using Nat.strongRecOn with
 | _ k z=>
  intro hk
  by_cases h:∃j,j<k/\p j
  .obtain⟨j,A,u⟩:=h;exact z j A u
  .exact⟨k,hk,λj u=>Nat.le_of_not_lt λw=>h ⟨j,w,u⟩⟩
open Classical in
noncomputable def least (p:Nat->Prop):Nat:=if h:∃m,p m/\∀j,p j->m<=j then h.choose else 0
theorem Kw (p:Nat->Prop) {k:Nat} (hk:p k):p (least p)/\least p<=k:=by
 have h:=exists_least p k hk;unfold least;rw[dif_pos h];exact⟨h.choose_spec.1,h.choose_spec.2 k hk⟩
section
variable {P:Program} {E:Env} {I I':b9} {μ μ':Mu} {H H':bf} {n B:Nat} {F F':Frame} {a:Act} {w w':World}
def Post (B n:Nat) (I:b9) (μ:Mu) (H:bf) (w:World) (o:Out) (F':Frame) (H':bf):Exit->Act->World->Prop:=
 λe u w'=>e=o.Fk/\(∃I' μ',dP I' μ' n F' u.tmps/\cN I' μ' H' w'/\Step I μ H w I' μ' H' w')/\iO B u.defers w'
theorem Post.mono {I1:b9} {D:Mu} {H1:bf} {G:World} {o:Out} (s1:cN I1 D H1 G) (st:Step I μ H w I1 D H1 G) {e:Exit} {a':Act} {w':World} (h:Post B n I1 D H1 G o F' H' e a' w') :
 Post B n I μ H w o F' H' e a' w':=by
 obtain⟨h1,⟨I',μ',u,z,A⟩,C⟩:=h;exact⟨h1,⟨I',μ',u,z,Step.trans s1 st A⟩,C⟩
theorem cN.zL (s:cN I μ H w) {b:Nat} (o:Obj) (B:I b=none) (D:¬gH μ H b):cN I μ H (fh w b o) where
 dom:=s.dom
 imm:=λz x h=>IC.qG (s.imm z x h) (fP o (by rintro rfl;rw[B]at h;cases h))
 obs:=λid ob h=>(s.obs id ob h).mono (b9.le_refl _) (Mu.le_refl _) (λp A C=>by
  have u:gH μ H p.b:=⟨id,p,ob,h,C,A,rfl⟩;exact⟨fP o (λe=>D (e▸u)),fA s u⟩) (λG=>by subst G;exact s.obs id _ h)
 inj:=s.inj
 gl:=s.gl
theorem Qf (s:cN I μ H w) {b:Nat} {o:Obj} (h:w.heap[b]? = some o) (h1:∀c e f,o≠.cells c e f) (B:∀es c,o≠.map es c):I b=none:=by
 cases u:I b with
 | none=>rfl
 | some x=>
  have:=s.imm b x u
  cases x with
  | cells c=>obtain⟨_,_,q⟩:=this;rw[h]at q;cases q;exact absurd rfl (h1 _ _ _)
  | map es=>obtain⟨_,q⟩:=this;rw[h]at q;cases q;exact absurd rfl (B _ _)
theorem Step.kept (hk:∀b,b<w.heap.size->w'.heap[b]? = w.heap[b]?) (B:w.heap.size<=w'.heap.size) (h1:w'.os=w.os) (D:uq w w') (G:∀a:Addr,a.block<w.heap.size->w.frozen? a=false->w'.frozen? a=false):Step I μ H w I μ H w':=
 ⟨b9.le_refl _,Mu.le_refl _,Nat.le_refl _,B,λb u _=>hk b u,λ_ h=>h.elim .inl λh=>.inr (.inl h),h1,D,G⟩
theorem Step.after (st:Step I μ H w I' μ' H' w') {b:Nat} (o:Obj) (B:w.heap.size<=b) (D:Obj.nf o:=by first|exact sx _ _|exact qn rfl):Step I μ H w I' μ' H' (fh w' b o):=
 ⟨st.le,st.mu,st.len,by rw[vL];exact st.size,λz u A=>by rw[fP o (by omega)];exact st.frame z u A,st.terr,st.os,⟨st.out.out,st.out.tape,st.out.dr⟩,λa B C=>Sp D a (st.fz a B C)⟩
theorem iO.zL {ds:List Deferred} (h:iO B ds w) {b:Nat} {o:Obj} (D:∀r,w.heap[r]? = some (.deferred (some []))->r≠b):iO B ds (fh w b o):=
 ⟨λd hd=>by
  obtain⟨r,h1,z,u⟩:=h.all d hd;exact⟨r,h1,z,by rw[fP o (D r u)];exact u⟩,h.apart⟩
theorem Ke {step:Frame->bf->Option (Out×Frame×bf)} {c:Code} {ro:Option Nat} {o:Out}
 (D:∀I μ F H a w o F' H',step F H=some (o,F',H')->dP I μ n F a.tmps->cN I μ H w->iO B a.defers w->B<=w.heap.size->c.wpIn (fr ro) 0 P (Post B n I μ H w o F' H') a w)
 {k:Nat} (h:jO step k F H=some (o,F',H')) (r:dP I μ n F a.tmps) (s:cN I μ H w) (m:iO B a.defers w) (hB:B<=w.heap.size) :
 (Code.loop c).wpIn (fr ro) 0 P (Post B n I μ H w o F' H') a w:=by
 let Inv:Nat->Act->World->Prop:=λk u w'=>∃I1 G F1 H1,jO step k F1 H1=some (o,F',H')/\dP I1 G n F1 u.tmps/\cN I1 G H1 w'/\Step I μ H w I1 G H1 w'/\iO B u.defers w'/\B<=w'.heap.size
 let M:Act->World->Nat:=λu w'=>least (λk=>Inv k u w')
 have hM:∀k u w',Inv k u w'->Inv (M u w') u w'/\M u w'<=k:=λk u w' hi=>Kw (λk=>Inv k u w') hi
 refine wpIn_loop (λu w'=>∃k,Inv k u w') M ⟨k,I,μ,F,H,h,r,s,.refl _ _ _ _,m,hB⟩ ?_
 rintro Q S ⟨k1,T⟩;obtain⟨hi,_⟩:=hM k1 Q S T;generalize hk:M Q S=kk at hi;obtain⟨I1,G,F1,H1,J,r1,s1,A,Y,C⟩:=hi
 cases kk with
 | zero=>simp[jO]at J
 | succ kk=>
  simp only[jO]at J;split at J
  .rename_i Z H2 U;refine wpIn_mono (D I1 G F1 H1 Q S .norm Z H2 U r1 s1 Y C) ?_;rintro e L O ⟨rfl,⟨I2,μ2,r2,s2,st2⟩,m2⟩;show (∃k,Inv k L O)/\M L O<kk+1;have z:Inv kk L O:=⟨I2,μ2,Z,H2,J,r2,s2,Step.trans s1 A st2,m2,Nat.le_trans C st2.size⟩;exact⟨⟨kk,z⟩,Nat.lt_succ_of_le (hM kk L O z).2⟩
  .rename_i W;refine wpIn_mono (D I1 G F1 H1 Q S o F' H' J r1 s1 Y C) ?_;intro e L O hp;have X:o≠.norm:=by
    rintro rfl;exact W F' H' J
   obtain⟨rfl,h2,h3⟩:=hp
   cases o with
   | norm=>exact absurd rfl X
   | exit id=>exact Post.mono s1 A ⟨rfl,h2,h3⟩
   | ret=>exact Post.mono s1 A ⟨rfl,h2,h3⟩
end
end Go.VE
namespace Go.VE
variable [bN]
section
variable {P:Program} {E:Env} {I I':b9} {μ μ':Mu} {H H':bf} {n B:Nat} {F F':Frame} {a:Act} {w w':World}
theorem zU (s:cN I μ H w) {id:Nat} {r:uD} (h:H[id]? = some (.loop r)):∃p l,μ id=some p/\I p.b=none/\w.heap[p.b]? = some (.loop l)/\uJ I μ r l:=s.obs id _ h
theorem GZ {p:Option Out} (hp:p≠some .norm):(p.bind j7=none->p.getD .norm=.norm)/\(∀c,p.bind j7=some c->(c=.ret/\p.getD .norm=.ret)\/∃id,c=.exit id/\p.getD .norm=.exit id):=by
 cases p with
 | none=>grind
 | some o=>
  cases o with
  | norm=>grind
  | ret=>exact⟨by simp[j7],by simp[j7]⟩
  | exit id=>exact⟨by simp[j7],by simp[j7]⟩
theorem Hv {call:dh} (hc:jW P call) {g:Operand} {ps:Array Tmp} {assign body:Code} {o:Out} {lf:Nat}
 (h:exec E call lf false n (.rangeFunc g ps assign body) F H=some (o,F',H')) (r:dP I μ n F a.tmps) (s:cN I μ H w) (m:iO B a.defers w) (hB:B<=w.heap.size) :
 (Code.rangeFunc g ps assign body).wpIn (fr none) 0 P (Post B n I μ H w o F' H') a w:=by
 cases hg:ev F g with
 | none=>simp[exec,hg]at h
 | some gv=>
 cases gv with
 | clo f x y=>
  simp[exec,hg]at h;split at h
  .rename_i am H2 L;split at h
   .rename_i r2 D;have X:r2.st≠.busy/\r2.pend.getD .norm=o/\F=F'/\H2.set H.length .dead=H':=by
     grind
    obtain⟨X,rfl,rfl,rfl⟩:=X;obtain⟨u,v,eg,hu,hv⟩:=(c8 r hg).jv;refine wpIn_rangeFunc λA _=>?_
    have Y:∀b,b<w.heap.size->(w.alloc (.deferred (some []))).heap[b]? = w.heap[b]? := λb hb=>kQ _ b hb
    have s1  := s.kept Y;have ad:Step I μ H w I μ H (w.alloc (.deferred (some []))):=Step.kept Y (by simp) rfl ⟨rfl,rfl,Nat.le_refl _⟩ (λa _=>Lj (qn rfl) a)
    have ae:uJ I μ ⟨.ready,none,F,n,ps.toList,assign,body⟩ { state:=.ready,pending:=none,fn:=A,tmps:=a.tmps,params:=ps,assign,body,defers:=w.heap.size }:=
     ⟨trivial,rfl,by simp,r,rfl,rfl,rfl⟩
    obtain⟨s2,st2⟩:=s1.push (ob:=.loop ⟨.ready,none,F,n,ps.toList,assign,body⟩)
     (o:=.loop { state:=.ready,pending:=none,fn:=A,tmps:=a.tmps,params:=ps,assign,body,defers:=w.heap.size }) (p:=⟨w.heap.size+1,0,0,0⟩) (by simp)
     ⟨_,_,Mu.fI _ _ _,by have:=s1.xh;simp_all,by have:=lP (w:=w.alloc (.deferred (some []))) (.loop { state:=.ready,pending:=none,fn:=A,tmps:=a.tmps,params:=ps,assign,body,defers:=w.heap.size });simp_all,
      ae.mono (b9.le_refl _) (Mu.pL (s1.dom _ (Nat.le_refl _)))⟩
    have O :=
     (hu.mono (b9.le_refl _) st2.mu).append (.cons (.yld H.length ⟨w.heap.size+1,0,0,0⟩ (Mu.fI _ _ _)) (hv.mono (b9.le_refl _) st2.mu))
    obtain⟨hf,G⟩:=hc.fn f _ _ _ _ L;refine⟨w.heap.size+1,[{ target:=.collected w.heap.size,args:=#[] }],((w.alloc (.deferred (some []))).alloc (.loop { state:=.ready,pending:=none,fn:=A,tmps:=a.tmps,params:=ps,assign,body,defers:=w.heap.size })),{ target:=.fn (.func f) v,args:=u++#[.func (.yield (w.heap.size+1)) #[] #[]] },((w.alloc (.deferred (some []))).alloc (.loop { state:=.ready,pending:=none,fn:=A,tmps:=a.tmps,params:=ps,assign,body,defers:=w.heap.size })),f,u++#[.func (.yield (w.heap.size+1)) #[] #[]]++v,((w.alloc (.deferred (some []))).alloc (.loop { state:=.ready,pending:=none,fn:=A,tmps:=a.tmps,params:=ps,assign,body,defers:=w.heap.size })),
     run_enterLoop_outer A a.tmps ps assign body,?_,λ_ _=>trivial,?_,λh=>by simp[fr]at h,?_⟩
    .simp[resolve];rw[eg];simp[Deferred.ofValue,Act.eval]
    .exact vT hf _
    .have Z:=G _ _ _ _ s2 O;have Q:(u.toList++.func (.yield (w.heap.size+1)) #[] #[]::v.toList).toArray=u++#[.func (.yield (w.heap.size+1)) #[] #[]]++v:=by grind
     rw[Q]at Z;refine Z.mono ?_;rintro e w3 ⟨al,I3,μ3,rfl,_,s3,S⟩;obtain⟨p,l,g1,g2,g3,g4⟩:=zU s3 D;have hp:p=⟨w.heap.size+1,0,0,0⟩:=by
      have:=S.mu _ _ (Mu.fI μ H.length ⟨w.heap.size+1,0,0,0⟩)
      grind
     subst hp;have J:l.state≠.busy:=by
      intro he;have:=g4.st;rw[he]at this;cases af:r2.st <;> rw[af]at this <;> simp[AG.is]at this
      grind
     refine⟨l.pending,_,run_endLoop g3 J,?_⟩;obtain⟨s4,ah⟩:=s3.kill D;have T:¬gH μ3 (H2.set H.length .dead) (w.heap.size+1):=by
      rintro⟨id,q,ob,h1,h2,U,h4⟩
      by_cases e:id=H.length
      .subst e;rw[List.getElem?_set_self (ζe.1 D).1]at h1;cases h1;simp[Ob.live]at h2
      .rw[List.getElem?_set_ne (Ne.symm e)]at h1;exact e (s3.inj id H.length ob _ q _ h1 D h2 rfl U g1 h4)
     have s5:cN I3 μ3 (H2.set H.length .dead) (fh w3 (w.heap.size+1) (.loop { l with state:=.exhausted })):=s4.zL _ g2 T;have st  := Step.trans s1 ad (Step.trans s2 st2 (Step.trans s3 S ah));have ai:Step I μ H w I3 μ3 (H2.set H.length .dead) (fh w3 (w.heap.size+1) (.loop { l with state:=.exhausted })):=st.after _ (by omega)
     have m2:iO B ({ target:=.collected w.heap.size,args:=#[] }::a.defers) ((w.alloc (.deferred (some []))).alloc (.loop { state:=.ready,pending:=none,fn:=A,tmps:=a.tmps,params:=ps,assign,body,defers:=w.heap.size })):=by
      refine⟨?_,?_⟩
      .intro d hd;rcases List.mem_cons.1 hd with rfl|hd
       .refine⟨w.heap.size,rfl,hB,?_⟩;rw[kQ _ _ (by simp)];exact lP _
       .obtain⟨q,h1,h2,U⟩:=m.all d hd;have W:=(Array.getElem?_eq_some_iff.1 U).1;refine⟨q,h1,h2,?_⟩;rw[kQ _ _ (by simp;omega),kQ _ _ W];exact U
      .refine List.Pairwise.cons ?_ m.apart;intro d hd q W aa;obtain⟨q2,h1,h2,U⟩:=m.all d hd;have:=(Array.getElem?_eq_some_iff.1 U).1;cases W;rw[h1]at aa;cases aa;omega
     have m3:=m2.step s2 S;have m5:iO B ({ target:=.collected w.heap.size,args:=#[] }::a.defers) (fh w3 (w.heap.size+1) (.loop { l with state:=.exhausted })):=
      m3.zL (λq W e=>by subst e;rw[g3]at W;cases W)
     have aj  := st.le;have ak  := st.mu;have z:∀C:Out,r2.pend.getD .norm=C->Post B n I μ H w C F (H2.set H.length .dead) C.Fk { a with defers:=[{ target:=.collected w.heap.size,args:=#[] }]++a.defers } (fh w3 (w.heap.size+1) (.loop { l with state:=.exhausted })):=
      λC _=>⟨rfl,⟨I3,μ3,r.mono aj ak,s5,ai⟩,m5⟩
     obtain⟨W5,ab⟩:∃W5,w3.putObj (w.heap.size+1) (.loop { l with state:=.exhausted })=W5:=⟨_,rfl⟩;have z:∀C:Out,r2.pend.getD .norm=C->Post B n I μ H w C F (H2.set H.length .dead) C.Fk { a with defers:=[{ target:=.collected w.heap.size,args:=#[] }]++a.defers } W5:=by
      intro C ho;rw[<-ab];exact z C ho
     rw[ab];obtain⟨k1,k2⟩:=GZ g4.pendOk;rw[g4.pend]
     cases hj:r2.pend.bind j7 with
     | none=>rw[k1 hj];exact z .norm (k1 hj)
     | some c=>
      rcases k2 c hj with⟨rfl,e⟩|⟨id,rfl,e⟩
      .rw[e];exact wpIn_ret (z .ret e)
      .rw[e];exact wpIn_exit (z (.exit id) e)
   grind
  grind
 | _=>simp[exec,hg]at h
theorem xC (hE:dX P E) (hm:P.follows .mixedOrders=true) {call:dh} (hc:jW P call) (lf:Nat) (ro:Option Nat) (T:Bool) (aa:T=ro.isSome) (n:Nat) :
 ∀(c:Code) (I:b9) (μ:Mu) (F:Frame) (H:bf) (a:Act) (w:World) (o:Out) (F':Frame) (H':bf),exec E call lf T n c F H=some (o,F',H')->dP I μ n F a.tmps->cN I μ H w ->
  iO B a.defers w->B<=w.heap.size->c.wpIn (fr ro) 0 P (Post B n I μ H w o F' H') a w:=by
 intro c
 induction c with
 | skip=>
  intro I μ F H a w o F' H' h r s m _;obtain⟨rfl,rfl,rfl⟩:=h;exact wpIn_skip ⟨rfl,⟨I,μ,r,s,.refl _ _ _ _⟩,m⟩
 | label l=>
  intro I μ F H a w o F' H' h r s m _;obtain⟨rfl,rfl,rfl⟩:=h;exact wpIn_label ⟨rfl,⟨I,μ,r,s,.refl _ _ _ _⟩,m⟩
 | region id ops X=>
  intro I μ F H a w o F' H' h r s m _;simp only[exec,ζf]at h;obtain⟨⟨F2,H2⟩,h,rfl,rfl,rfl⟩:=h;refine GC hE hm hc ro h r s (λa' I' μ' w' h1 z A Y=>⟨rfl,⟨I',μ',h1,A,Y⟩,?_⟩)
  rw[z];exact m.step s Y
 | seq x y C D=>
  intro I μ F H a w o F' H' h r s m u;simp[exec]at h;refine wpIn_seq ?_;split at h
  .rename_i F1 H1 h1;refine wpIn_mono (C I μ F H a w _ F1 H1 h1 r s m u) ?_;rintro e G J ⟨rfl,⟨I1,Z,r1,s1,L⟩,m1⟩;refine wpIn_mono (D I1 Z F1 H1 G J o F' H' h r1 s1 m1 (Nat.le_trans u L.size)) ?_;intro e a2 w2 hp;exact Post.mono s1 L hp
  .refine wpIn_mono (C I μ F H a w o F' H' h r s m u) ?_;rintro e G J ⟨rfl,z,A⟩
   cases o with
   | norm=>grind
   | exit id=>exact⟨rfl,z,A⟩
   | ret=>exact⟨rfl,z,A⟩
 | cond c x y C D=>
  intro I μ F H a w o F' H' h r s m u;simp[exec]at h;split at h
  .rename_i t S;have U:=(c8 r S).qu;refine wpIn_cond U ?_
   grind
  grind
 | block id c Q=>
  intro I μ F H a w o F' H' h r s m u;simp[exec]at h;refine wpIn_block ?_;split at h
  .rename_i O F1 H1 h1;refine wpIn_mono (Q I μ F H a w _ F1 H1 h1 r s m u) ?_;rintro e G J ⟨rfl,z,A⟩;show Exit.inBlock id _ (.exit O) G J;unfold Exit.inBlock;split at h
   .rename_i W;obtain⟨rfl,rfl,rfl⟩:=h;simp[W];exact⟨rfl,z,A⟩
   .rename_i W;obtain⟨rfl,rfl,rfl⟩:=h;simp[W];exact⟨rfl,z,A⟩
  .refine wpIn_mono (Q I μ F H a w o F' H' h r s m u) ?_;rintro e G J ⟨rfl,z,A⟩
   cases o with
   | norm=>exact⟨rfl,z,A⟩
   | exit O=>grind
   | ret=>exact⟨rfl,z,A⟩
 | loop c Q=>
  intro I μ F H a w o F' H' h r s m u;exact Ke (λI μ F H a w o F' H' h r s m u=>Q I μ F H a w o F' H' h r s m u) h r s m u
 | rangeFunc g ps assign body _ _=>
  intro I μ F H a w o F' H' h r s m u
  cases T with
  | true=>simp[exec]at h
  | false=>
   cases ro with
   | none=>exact Hv hc h r s m u
   | some l=>simp_all
 | exit id=>
  intro I μ F H a w o F' H' h r s m _;obtain⟨rfl,rfl,rfl⟩:=h;exact wpIn_exit ⟨rfl,⟨I,μ,r,s,.refl _ _ _ _⟩,m⟩
 | ret=>
  intro I μ F H a w o F' H' h r s m _;obtain⟨rfl,rfl,rfl⟩:=h;exact wpIn_ret ⟨rfl,⟨I,μ,r,s,.refl _ _ _ _⟩,m⟩
 | scope body _=>intro I μ F H a w o F' H' h;simp[exec]at h
 | goto l=>intro I μ F H a w o F' H' h;simp[exec]at h
 | refuse ab=>intro I μ F H a w o F' H' h;simp[exec]at h
end
end Go.VE
namespace Go.VE
variable [bN]
theorem qS {f g:V->Option V} (h:∀x y,f x=some y->g x=some y):∀{l:List V} {r:List V},gV f l=some r->gV g l=some r
 | [],_,hr=>hr
 | x::l,r,hr=>by
  simp only[gV]at hr ⊢;split at hr
  .rename_i y s h1 B;rw[h _ _ h1,qS h B];exact hr
  .cases hr
theorem Gj {f g:V->Option V} (h:∀x y,f x=some y->g x=some y):∀{l:List (List V)} {r:List (List V)},kJ f l=some r->kJ g l=some r
 | [],_,hr=>hr
 | x::l,r,hr=>by
  simp only[kJ]at hr ⊢;split at hr
  .rename_i y s h1 B;rw[qS h h1,Gj h B];exact hr
  .cases hr
theorem FD {f g:V->Option V} (h:∀x y,f x=some y->g x=some y):∀{l:List (V×V)} {r:List (V×V)},kK f l=some r->kK g l=some r
 | [],_,hr=>hr
 | (k,x)::l,r,hr=>by
  simp only[kK]at hr ⊢;split at hr
  .rename_i y s u h1 B D;rw[h _ _ h1,h _ _ B,FD h D];exact hr
  .cases hr
theorem HP {H:bf}:∀(n:Nat) (x y:V),borrow n H x=some y->borrow (n+1) H x=some y:=by
 intro n
 induction n with
 | zero=>
  intro x y h;simp only[borrow]at h;split at h
  .rename_i hc;rw[jy _ _ hc];exact h
  .cases h
 | succ n w=>
  intro x y h;unfold borrow at h ⊢;split
  .rename_i hc;rw[if_pos hc]at h;exact h
  .rename_i hc;rw[if_neg hc]at h
   cases x with
   | hsl id es off len=>
    simp only at h ⊢;split at h
    .split at h
     .rename_i q;rw[if_pos q];obtain⟨r,h1,u⟩:=ζf.1 h;rw[Gj w h1];exact congrArg some u
     .cases h
    .cases h
   | hptr id el off=>
    simp only at h ⊢;split at h
    .split at h
     .split at h
      .rename_i q;rw[if_pos q];obtain⟨r,h1,u⟩:=ζf.1 h;rw[qS w h1];exact congrArg some u
      .cases h
     .cases h
    .cases h
   | hmap id=>
    simp only at h ⊢;split at h
    .obtain⟨r,h1,u⟩:=ζf.1 h;rw[FD w h1];exact congrArg some u
    .cases h
   | clo f a b=>
    simp only at h ⊢;split at h
    .rename_i h1 u;rw[qS w h1,qS w u];exact h
    .cases h
   | agg cs=>
    simp only at h ⊢;obtain⟨r,h1,u⟩:=ζf.1 h;rw[qS w h1];exact congrArg some u
   | tup cs=>
    simp only at h ⊢;obtain⟨r,h1,u⟩:=ζf.1 h;rw[qS w h1];exact congrArg some u
   | _=>cases h
theorem qE {H:bf} {n m:Nat} (h:n<=m) {x y:V} (B:borrow n H x=some y):borrow m H x=some y:=by
 induction h with
 | refl=>exact B
 | step _ u=>exact HP _ _ _ u
theorem rA {H:bf} {n m:Nat} (h:n<=m) {l r:List V} (B:borrows n H l=some r):borrows m H l=some r:=qS (λ_ _=>qE h) B
theorem AX {f g:V->List Nat}:∀{l:List V},(∀x∈l,f x=g x)->cI f l=cI g l
 | [],_=>rfl
 | x::l,h=>by simp only[cI];rw[h x (List.mem_cons_self ..),AX λy B=>h y (List.mem_cons_of_mem _ B)]
theorem ow {f:V->Option V}:∀{l r:List V},gV f l=some r->∀x∈l,∃y,f x=some y
 | [],_,_,x,hx=>by cases hx
 | a::l,r,h,x,hx=>by
  simp only[gV]at h;split at h
  .rename_i y s h1 B;rcases List.mem_cons.1 hx with rfl|hx
   .exact⟨y,h1⟩
   .exact ow B x hx
  .cases h
theorem D6 {f:V->Option V}:∀{l r:List (List V)},kJ f l=some r->∀c∈l,∀x∈c,∃y,f x=some y
 | [],_,_,x,B=>by cases B
 | a::l,r,h,c,hc=>by
  simp only[kJ]at h;split at h
  .rename_i y s h1 D;rcases List.mem_cons.1 hc with rfl|hc
   .exact ow h1
   .exact D6 D c hc
  .cases h
theorem zf {f:V->Option V}:∀{l r:List (V×V)},kK f l=some r->∀c∈l,(∃y,f c.1=some y)/\∃y,f c.2=some y
 | [],_,_,x,B=>by cases B
 | (k,a)::l,r,h,c,hc=>by
  simp only[kK]at h;split at h
  .rename_i y s u h1 D G;rcases List.mem_cons.1 hc with rfl|hc
   .exact⟨⟨y,h1⟩,s,D⟩
   .exact zf G c hc
  .cases h
theorem JP {H:bf}:∀(n:Nat) (x y:V),borrow n H x=some y->bW (n+1) H x=bW n H x:=by
 intro n
 induction n with
 | zero=>
  intro x y h;simp only[borrow]at h;split at h
  .rename_i hc;simp[bW,hc]
  .cases h
 | succ n G=>
  intro x y h;have u:∀l:List V,(∀x∈l,∃y,borrow n H x=some y)->cI (bW (n+1) H) l=cI (bW n H) l:=λl I=>AX λx w=>by
   obtain⟨y,J⟩:=I x w;exact G x y J
  unfold borrow at h;rw[bW.eq_def (n+1+1),bW.eq_def (n+1)];simp only;split
  .rfl
  .rename_i hc;rw[if_neg hc]at h
   cases x with
   | hsl id es off len=>
    simp only at h ⊢
    cases hr:(H[id]?).bind Ob.rows with
    | none=>rfl
    | some q=>
     obtain⟨B,L⟩:=q;rw[hr]at h;simp only at h ⊢;split at h
     .obtain⟨r,h1,z⟩:=ζf.1 h;rw[u _ λx w=>by
       obtain⟨c,hc,C⟩:=List.mem_flatten.1 w;exact D6 h1 c hc x C]
     .cases h
   | hptr id el off=>
    simp only at h ⊢
    cases hr:(H[id]?).bind Ob.rows with
    | none=>rfl
    | some q=>
     obtain⟨B,L⟩:=q;rw[hr]at h;simp only at h ⊢;split at h
     .rename_i cs D;split at h
      .obtain⟨r,h1,z⟩:=ζf.1 h;rw[u _ λx w=>ow h1 x (by rw[D]at w;exact w)]
      .cases h
     .cases h
   | hmap id=>
    simp only at h ⊢;split at h
    .rename_i A hk;obtain⟨r,h1,z⟩:=ζf.1 h
     skip
     rw[u (A.map (·.1)) λx w=>by obtain⟨c,hc,rfl⟩:=List.mem_map.1 w;exact(zf h1 c hc).1,
      u (A.map (·.2)) λx w=>by obtain⟨c,hc,rfl⟩:=List.mem_map.1 w;exact(zf h1 c hc).2]
    .cases h
   | clo f a b=>
    simp only at h ⊢;split at h
    .rename_i h1 z;rw[u _ (ow h1),u _ (ow z)]
    .cases h
   | agg cs=>
    simp only at h ⊢;obtain⟨r,h1,z⟩:=ζf.1 h;exact u _ (ow h1)
   | tup cs=>
    simp only at h ⊢;obtain⟨r,h1,z⟩:=ζf.1 h;exact u _ (ow h1)
   | _=>rfl
theorem O3 {H:bf} {n m:Nat} (h:n<=m) {x y:V} (B:borrow n H x=some y):bW m H x=bW n H x:=by
 induction h with
 | refl=>rfl
 | step h u=>rw[JP _ _ _ (qE h B),u]
theorem xU {H:bf} {n m:Nat} (h:n<=m) {l r:List V} (B:borrows n H l=some r):cI (bW m H) l=cI (bW n H) l:=
 AX λx u=>by obtain⟨y,w⟩:=ow B x u;exact O3 h w
theorem mY {f g h:V->Option V} (k:∀x y z,f x=some y->g x=some z->h x=some z):∀{l r s:List V},gV f l=some r->gV g l=some s->gV h l=some s
 | [],_,_,_,B=>B
 | x::l,r,s,hr,B=>by
  simp only[gV]at hr B ⊢;split at hr
  .rename_i h1 D;split at B
   .rename_i G J;rw[k _ _ _ h1 G,mY k D J];exact B
   .cases B
  .cases hr
theorem BF {f g h:V->Option V} (k:∀x y z,f x=some y->g x=some z->h x=some z):∀{l r s:List (List V)},kJ f l=some r->kJ g l=some s->kJ h l=some s
 | [],_,_,_,B=>B
 | x::l,r,s,hr,B=>by
  simp only[kJ]at hr B ⊢;split at hr
  .rename_i h1 D;split at B
   .rename_i G J;rw[mY k h1 G,BF k D J];exact B
   .cases B
  .cases hr
theorem Ch {f g h:V->Option V} (k:∀x y z,f x=some y->g x=some z->h x=some z):∀{l r s:List (V×V)},kK f l=some r->kK g l=some s->kK h l=some s
 | [],_,_,_,B=>B
 | (a,x)::l,r,s,hr,B=>by
  simp only[kK]at hr B ⊢;split at hr
  .rename_i h1 D G;split at B
   .rename_i J T U;rw[k _ _ _ h1 J,k _ _ _ D T,Ch k G U];exact B
   .cases B
  .cases hr
theorem HF {H H2:bf}:∀(n m:Nat) (x y z:V),borrow n H x=some y->borrow m H2 x=some z->(∀id:Nat,(H2[id]?).isSome=true->H2[id]? = H[id]?)->borrow n H2 x=some z:=by
 intro n
 induction n with
 | zero=>
  intro m x y z h k _;simp only[borrow]at h;split at h
  .rename_i hc;rw[jy _ _ hc]at k ⊢;exact k
  .cases h
 | succ n G=>
  intro m x y z h k A
  by_cases hc:x.closed=true
  .rw[jy _ _ hc]at k ⊢;exact k
  cases m with
  | zero=>simp only[borrow,if_neg hc]at k;cases k
  | succ m=>
   have u:∀x y z,borrow n H x=some y->borrow m H2 x=some z->borrow n H2 x=some z:=λx y z a b=>G m x y z a b A
   unfold borrow at h k ⊢;rw[if_neg hc]at h k ⊢;have row:∀id q,(H2[id]?).bind Ob.rows=some q->(H[id]?).bind Ob.rows=some q:=λid q B=>by
    rw[<-A id (by cases C:H2[id]? with|none=>rw[C]at B;cases B|some _=>rfl)];exact B
   cases x with
   | hsl id es off len=>
    simp only at h k ⊢;split at k
    .rename_i hr;rw[row _ _ hr]at h;simp only at h;split at k
     .rename_i q;rw[if_pos q]at h ⊢;obtain⟨r,h1,_⟩:=ζf.1 h;obtain⟨s,k1,w⟩:=ζf.1 k;rw[BF u h1 k1];exact congrArg some w
     .cases k
    .cases k
   | hptr id el off=>
    simp only at h k ⊢;split at k
    .rename_i hr;rw[row _ _ hr]at h;simp only at h;split at k
     .rename_i D;rw[D]at h;simp only at h;split at k
      .rename_i q;rw[if_pos q]at h ⊢;obtain⟨r,h1,_⟩:=ζf.1 h;obtain⟨s,k1,w⟩:=ζf.1 k;rw[mY u h1 k1];exact congrArg some w
      .cases k
     .cases k
    .cases k
   | hmap id=>
    simp only at h k ⊢;split at k
    .rename_i hr;rw[<-A id (by rw[hr];rfl),hr]at h
     simp only at h;obtain⟨r,h1,_⟩:=ζf.1 h;obtain⟨s,k1,w⟩:=ζf.1 k;rw[Ch u h1 k1];exact congrArg some w
    .cases k
   | clo f a b=>
    simp only at h k ⊢;split at h
    .rename_i h1 C;split at k
     .rename_i k1 w;rw[mY u h1 k1,mY u C w];exact k
     .cases k
    .cases h
   | agg cs=>
    simp only at h k ⊢;obtain⟨r,h1,_⟩:=ζf.1 h;obtain⟨s,k1,w⟩:=ζf.1 k;rw[mY u h1 k1];exact congrArg some w
   | tup cs=>
    simp only at h k ⊢;obtain⟨r,h1,_⟩:=ζf.1 h;obtain⟨s,k1,w⟩:=ζf.1 k;rw[mY u h1 k1];exact congrArg some w
   | _=>cases h
end Go.VE
namespace Go.VE
variable [bN]
open Go.Proofs Go.Sort
structure z_ (P:Program) (f:FuncId):Prop where
 ok:xW P f
 zero:∀(p:Option Addr) (cap:Nat) (fv:Value) (w:World),Calls P f #[.slice p 0 cap,fv] w λe w'=>e=.returned (.tuple #[])/\w'=w
 all:∀{α:Type} [Inhabited α] (enc:α->Value) (_:OneCell enc) (cf:α->α->Int) (_:SWO (ltOf cf)) (g:Nat) (cb:Array Value) (blk off cap:Nat) (d:Array α) (w:World)
  (_:∀args w,(callFunc g args).run P w=.ok (.enter g args) w) (_:CmpLays1 P g cb enc cf blk off d.size w) (_:Holds enc w blk off d) (_:blk<w.heap.size) (_:d.size<4611686018427387904),
  Calls P f #[.slice (some ⟨blk,off,none⟩) d.size cap,.func (.func g) #[] cb] w λe w'=>
   e=.returned (.tuple #[])/\∃n os,w'=sortWorld enc w blk off n (pdq (ltOf cf) d 0 d.size (Lib.bitLen d.size) true true) os
theorem Ik {α:Type} [Inhabited α] (lt:α->α->Bool):∀(k i:Nat) (d:Array α),GH lt k i d=insOuter lt 0 (i+k) i d
 | 0,i,d=>by rw[insOuter];simp[GH]
 | k+1,i,d=>by
  rw[insOuter,GH,Ik lt k]
  grind
theorem Bl (n:Nat) (lt:Fin (n+1)->Fin (n+1)->Bool):pz n lt=pdq lt (List.finRange (n+1)).toArray 0 (n+1) (Lib.bitLen (n+1)) true true:=by
 unfold pz;split
 .rw[pdq,if_pos (by omega),insertionSort,Ik,Nat.add_comm 1 n]
 .rfl
theorem pe {n:Nat} {t:Fin (n+1)->Fin (n+1)->Option Int} (h:Ad t=true):(∀i j,∃c,t i j=some c)/\SWO (oa t):=by
 have u:∀(p:Fin (n+1)->Bool),(List.finRange (n+1)).all p=true->∀i,p i=true:=λp h i=>List.all_eq_true.1 h i (List.mem_finRange i)
 have h1:=λi=>u _ h i
 simp only[ζh,Bool.not_eq_true']at h1;have w:=λi j=>u _ (h1 i).2 j
 simp only[ζh]at w;have z:=λi j k=>u _ (w i j).2 k
 refine⟨λi j=>Option.isSome_iff_exists.1 (w i j).1,λi=>(h1 i).1,λi j k a b=>?_,λi j k a b=>?_⟩
 .have:=z i j k;grind
 grind
section
variable {P:Program} {I I':b9} {μ μ':Mu} {H H':bf} {w w':World}
theorem Db (w:World) (os:Array Obj) (b:Nat) (h:b<w.heap.size):(grow w os).heap[b]? = w.heap[b]? := by
 unfold grow;grind
theorem Calls.fr {f:FuncId} {args:Array Value} {R:Ending->World->Prop} (h:Calls P f args w R):CallsIn (fr none) 0 P f args w R:=callsIn_wide.2 h
theorem CallsIn.un {f:FuncId} {args:Array Value} {R:Ending->World->Prop} (h:CallsIn (fr none) 0 P f args w R):Calls P f args w R:=callsIn_wide.1 h
theorem Pd {p:Pl} {c:Array Value} {xs:List (List V)} (B:p.es=1) (D:c.size=p.sz) (hr:p.o+xs.length<=c.size)
 (h:∀(i:Nat) x,xs[i]? = some x->∃v u,x=[v]/\V.one v=true/\c[p.o+i]? = some u/\bz I μ v u):fF I μ p c 1 xs:=by
 have hu:∀x∈xs,x.length=1:=λx w=>by
  obtain⟨i,hi⟩:=List.getElem?_of_mem w
  grind
 have A:xs.flatten.length=xs.length:=by rw[e9 hu,Nat.mul_one]
 refine⟨B,D,hu,λx w y C=>?_,by omega,⟨?_,λj a b h1 G=>?_⟩⟩
 .obtain⟨i,hi⟩:=List.getElem?_of_mem w
  grind
 .grind
 .have z:j<xs.length:=by have:=(ζe.1 h1).1;omega
  obtain⟨v,u,e,_,J,L⟩:=h j xs[j] (by simp[z])
  have:=u_  hu (i:=j) (j:=0) (x:=xs[j])  (by simp[z]) (by rw[e];rfl)
  simp_all
theorem u9 {p:Pl} {c:Array Value} {xs:List (List V)} (r:fF I μ p c 1 xs) (i:Nat) {x:List V} (h:xs[i]? = some x):∃v u,x=[v]/\V.one v=true/\c[p.o+i]? = some u/\bz I μ v u:=by
 have w:=List.mem_of_getElem? h;obtain⟨v,rfl⟩:=List.length_eq_one_iff.1 (r.oc x w);have hi:=(ζe.1 h).1;have z  := by have:=r.room;omega
 refine⟨v,c[p.o+i],rfl,r.one _ w v (by simp),by simp_all,?_⟩
 exact r.idx  (j:=0) h rfl (by simp_all)
theorem RL {α:Type} [Inhabited α] (enc:α->Value) (blk o m:Nat) (B:Array α) (os:Array Obj) {b:Nat} (G:b<w.heap.size) (D:b≠blk):(sortWorld enc w blk o m B os).heap[b]? = w.heap[b]? := by
 unfold sortWorld;rw[Db _ _ _ (by simp_all)]
 simp[putRow,mapBlock,Sort.ahead,Array.getElem?_modify,if_neg (Ne.symm D)]
theorem Hw {α:Type} [Inhabited α] (enc:α->Value) {blk:Nat} (o m:Nat) (B:Array α) {c:Array Value} {el:TypeId} (h:w.heap[blk]? = some (.cells c el)) :
 putRow enc (Sort.ahead w m) blk o B=fh (Sort.ahead w m) blk (.cells (Sort.putCells enc o B c) el):=by
 unfold putRow mapBlock fh Sort.ahead
 congr 1
 obtain⟨u,e⟩:=Array.getElem?_eq_some_iff.1 h;apply Array.ext
 .simp
 .intro i h1 z
  by_cases hi:i=blk
  .subst hi;simp[Array.getElem_modify,e,onCells]
  grind
theorem Step.grown (st:Step I (λ_=>none) [] w I' μ' H' w'):∃q os,w'=grow (w.drewN q) os:=by
 refine⟨w'.drawn-w.drawn,w'.heap.extract w.heap.size w'.heap.size,?_⟩;have u:w'.heap=w.heap++w'.heap.extract w.heap.size w'.heap.size:=by
  apply Array.ext_getElem?;intro i
  by_cases hi:i<w.heap.size
  .rw[Array.getElem?_append_left hi];exact st.frame i hi (by rintro⟨id,p,ob,h,_⟩;simp at h)
  .rw[Array.getElem?_append_right (by omega)]
   simp[Array.getElem?_extract]
   by_cases B:i<w'.heap.size
   .rw[if_pos (by omega)];congr 1;omega
   .rw[if_neg (by omega),Array.getElem?_eq_none (by omega)]
 have h1:=st.os;have z:=st.out.out;have A:=st.out.tape;have C:=st.out.dr;unfold grow World.drewN;cases w';simp only at *;subst h1 z A;simp[World.mk.injEq];exact⟨u,by omega⟩
theorem Jh {call B:dh} {g:FuncId} {G D:List V} {n:Nat} (h:∀args y,bU call g args []=some y->bU B g args []=some y) {i j:Fin (n+1)} {z:Int} (J:ir call g G D n i j=some z):ir B g G D n i j=some z:=by
 unfold ir at J ⊢
 grind
theorem B7 {keep:FuncId->Bool} {call B:dh} (D:call.lv<=B.lv) (h:∀g args y,keep g=false->bU call g args []=some y->bU B g args []=some y) {args:List V} {r:V×bf} (hr:o6 keep call args H=some r):o6 keep B args H=some r:=by
 unfold o6 at hr ⊢;split at hr
 .split at hr
  .omega
  .omega
  .split at hr
   .omega
   .split at hr
    .rename_i n g cb _ L Q G;split at hr
     .rename_i u;split at hr
      .rename_i I w C A;rw[rA D C,rA D A];split at hr
       .rename_i O;have e:ir B g I w n=ir call g I w n:=by
         funext i j
         obtain⟨z,J⟩:=(pe O).1 i j;rw[J];exact Jh (λa y=>h g a y u.2.2.2.2) J
        grind
       simp_all
      simp_all
     simp_all
    simp_all
   simp_all
  simp_all
 simp_all
set_option maxHeartbeats 1000000 in
theorem QB {call:dh} (hc:jW P call) {f:FuncId} (hs:z_ P f) {args:List V} {r:V} {keep:FuncId->Bool} (h:o6 keep call args H=some (r,H')) (s:cN I μ H w) {vs:List Value} (hv:cw I μ args vs) :
 CallsIn (fr none) 0 P f vs.toArray w (wY I μ H w r H'):=by
 unfold o6 at h;split at h
 .rename_i sv cv;obtain⟨v1,r1,rfl,ab,aC⟩:=hv.cons_inv;obtain⟨v2,r2,rfl,aD,aE⟩:=aC.cons_inv;obtain rfl:=aE.uI;have S:∀p cap,v1=.slice p 0 cap->CallsIn (fr none) 0 P f [v1,v2].toArray w (wY I μ H w .undef H):=by
   rintro p cap rfl;refine Calls.fr ((hs.zero p cap v2 w).mono ?_);rintro e w' ⟨rfl,rfl⟩;exact⟨_,I,μ,rfl,bz.undef _ _,s,Step.refl _ _ _ _⟩
  split at h
  .cases h;exact S none 0 ab.kV
  .cases h;obtain⟨a,e⟩:=ab.qK;exact S a 0 e
  .rename_i id es off len;split at h
   .cases h;rcases ab.kT with⟨p,cap,_,_,_,_,e⟩|⟨_,a,e⟩
    .exact S _ cap e
    .exact S _ 0 e
   .rename_i n g cb;split at h
    .rename_i aS O J;split at h
     .rename_i ak;obtain⟨rfl,rfl,aQ,hn,_⟩:=ak;split at h
      .rename_i Y C aF ap;split at h
       .rename_i aq;cases h;obtain⟨p,c,el,hp,hI,G,Q⟩:=s.obs id _ J;rcases ab.kT with⟨q,cap,hq,aT,aR,aG,rfl⟩|⟨h0,_⟩
        .rw[hp]at hq;cases hq;obtain⟨va,vb,rfl,hva,ar⟩:=aD.jv;have au:va=#[]:=by have:=hva.uI;simpa using this
         subst au;have al:=(ζe.1 J).1;obtain⟨sk,_⟩:=s.kill J;generalize hT:cI (bW call.lv (H.set id .dead)) (((O.drop off).take (n+1)).flatten++cb)=T;have aH:plus I μ (H.set id .dead) w T p.b=none:=by
          cases A:plus I μ (H.set id .dead) w T p.b with
          | none=>rfl
          | some x=>
           exfalso;rcases xE (by rw[A];rfl)with h|⟨av,p',ob,_,g1,g2,g3,g4⟩
           .rw[hI]at h;cases h
           .have aw:av≠id:=by
             rintro rfl;rw[List.getElem?_set_self al]at g1;cases g1;simp[Ob.live]at g2
            rw[List.getElem?_set_ne (Ne.symm aw)]at g1;exact aw (s.inj av id ob (.row 1 O) p' p g1 J g2 rfl g3 hp g4)
         let enc:Fin (n+1)->Value:=λi=>(c[p.o+off*1+i.1]?).getD undef
         have Z:∀i:Fin (n+1),∃v,O[off+i.1]? = some [v]/\V.one v=true/\bz I μ v (enc i)/\c[p.o+off*1+i.1]? = some (enc i):=λi=>by
          obtain⟨v,u,e1,e2,e3,e4⟩:=u9 Q (off+i.1) (x:=O[off+i.1]'(by omega)) (by simp)
          have e5:c[p.o+off*1+i.1]? = some u:=by rw[<-e3];congr 1;omega
          have e6:enc i=u:=by show (c[p.o+off*1+i.1]?).getD undef=u;rw[e5];rfl
          exact⟨v,by rw[<-e1];simp,e2,by rw[e6];exact e4,by rw[e5,e6]⟩
         have h1:OneCell enc:=λi=>by obtain⟨v,_,e2,e3,_⟩:=Z i;exact e3.one e2
         obtain⟨ax,ad⟩:=pe aq;obtain⟨aU,aI⟩:=iq aF;obtain⟨aJ,aK⟩:=iq ap;have ay:∀x∈(O.drop off).take (n+1),x.length=1:=λx A=>Q.oc x (List.mem_of_mem_drop (List.mem_of_mem_take A))
         have U:∀(i:Fin (n+1)) u,Y[i.1]? = some u->dW (plus I μ (H.set id .dead) w T) u (enc i):=λi u hu=>by
          obtain⟨x,A,am⟩:=aI i.1 u hu;obtain⟨v,e1,_,e3,_⟩:=Z i;have e4:((O.drop off).take (n+1))[i.1]? = some [v]:=by
           rw[List.getElem?_take,if_pos i.2,List.getElem?_drop];exact e1
          have e5:=u_ (es:=1) ay (i:=i.1) (j:=0) e4 rfl;have e5:((O.drop off).take (n+1)).flatten[i.1]? = some v:=by simpa using e5
          rw[e5]at A;cases A;refine(tv sk T call.lv _ u _ am (λk hk=>?_) e3).1
          rw[<-hT];exact jA (List.mem_append_left _ (List.mem_of_getElem? e5)) hk
         have aa:cw (plus I μ (H.set id .dead) w T) (λ_=>none) C vb.toList:=by
          refine⟨aJ.trans ar.1,λj a b k1 k2=>?_⟩
          obtain⟨x,A,am⟩:=aK j a k1;refine .c _ _ (tv sk T call.lv x a b am (λk hk=>?_) (ar.2 j x b A k2)).1
          rw[<-hT];exact jA (List.mem_append_right _ (List.mem_of_getElem? A)) hk
         have ae:=(Array.getElem?_eq_some_iff.1 G).1
         let d:Array (Fin (n+1)):=(List.finRange (n+1)).toArray
         have an:d.size=n+1:=by simp[d]
         have hd:∀j:Fin (n+1),d[j.1]! = j:=λj=>by simp[d,getElem!_pos]
         have hg:∀i j:Fin (n+1),∃z,ir call g Y C n i j=some z/\∃a b,Y[i.1]? = some a/\Y[j.1]? = some b/\bU call g (a::b::C) []=some (.int .i64 z):=λi j=>by
          obtain⟨z,hz⟩:=ax i j;have W:=hz;unfold ir at W;split at W
          .rename_i a b ha X;split at W
           .rename_i z' B;cases W;exact⟨z,hz,a,b,ha,X,B⟩
           .cases W
          .cases W
         have aL:xW P g:=by
          obtain⟨z,_,a,b,ha,X,B⟩:=hg 0 0;have s0:cN (plus I μ (H.set id .dead) w T) (λ_=>none) [] w:=⟨λ_ _=>rfl,rZ sk T,by simp,by simp,sk.gl.mono (nQ _ _ _ _ _)⟩
          exact(Cw hc B s0 (.cons (.c _ _ (U 0 a ha)) (.cons (.c _ _ (U 0 b X)) aa))).1
         have key:=hs.all enc h1 (λi j=>(ir call g Y C n i j).getD 0) ad g vb p.b (p.o+off*1) cap d w (λargs w=>vT aL args) (by
          intro m os D aV i j;obtain⟨z,hz,a,b,ha,X,B⟩:=hg i j;have s0:cN (plus I μ (H.set id .dead) w T) (λ_=>none) [] (sortWorld enc w p.b (p.o+off*1) m D os):=
           ⟨λ_ _=>rfl,λb x X=>IC.qG (rZ sk T b x X) (RL enc p.b _ m D os (IC.s6 (rZ sk T b x X)) (by rintro rfl;rw[aH]at X;cases X)),by simp,by simp,sk.gl.mono (nQ _ _ _ _ _)⟩
          have:=CallsIn.un (Cw hc B s0 (vs:=enc i::enc j::vb.toList) (.cons (.c _ _ (U i a ha)) (.cons (.c _ _ (U j b X)) aa))).2;rw[show (enc i::enc j::vb.toList).toArray=#[enc i,enc j]++vb by apply Array.ext';simp]at this
          refine this.mono ?_;rintro e w' ⟨u,I1,μ1,rfl,hu,s1,st⟩;exact⟨by rw[hu.eU];show _=Ending.returned (.int .i64 ((ir call g Y C n i j).getD 0));rw[hz];rfl,st.grown⟩) (by
          intro j hj;have aA:j<n+1:=by omega
          obtain⟨v,_,_,_,e4⟩:=Z ⟨j,aA⟩;rw[hd ⟨j,aA⟩];exact⟨by rw[uE G];exact e4,by simp[World.frozen?,G]⟩) ae (by omega)
         rw[an]at key;refine Calls.fr (key.mono ?_);rintro e w' ⟨rfl,m,os,rfl⟩;have aM:ltOf (λi j=>(ir call g Y C n i j).getD 0)=oa (ir call g Y C n):=rfl
         rw[aM,Bl];have af:=pdq_sorts (oa (ir call g Y C n)) ad d 0 d.size (Lib.bitLen d.size) true true (Nat.zero_le _) (Nat.le_refl _) (Or.inl rfl);rw[an]at af;have L:=af.1.1;change wY I μ H w .undef (H.set id (.row 1 (pY O off n (pdq (oa (ir call g Y C n)) d 0 (n+1) (Lib.bitLen (n+1)) true true).toList))) _ _;generalize pdq (oa (ir call g Y C n)) d 0 (n+1) (Lib.bitLen (n+1)) true true=D at L;rw[an]at L;unfold sortWorld;rw[Hw enc _ m D G];have s1:cN I μ H (Sort.ahead w m):=s.nT rfl;have aN:Step I μ H w I μ H (Sort.ahead w m):=Step.nT rfl rfl ⟨rfl,rfl,Nat.le_add_right _ _⟩;have ah:(Sort.putCells enc (p.o+off*1) D c).size=c.size:=by simp[Sort.putCells]
         have ai:∀i:Nat,(i<p.o+off*1\/p.o+off*1+(n+1)<=i)->(Sort.putCells enc (p.o+off*1) D c)[i]? = c[i]? := λi hi=>by
          simp only[Sort.putCells,Array.getElem?_mapIdx];rw[L]
          cases c[i]? with
          | none=>rfl
          | some y=>simp only[Option.map_some];rw[if_neg (by omega)]
         have ao:∀i:Fin (n+1),(Sort.putCells enc (p.o+off*1) D c)[p.o+off*1+i.1]? = some (enc D[i.1]!):=λi=>by
          obtain⟨v,_,_,_,e4⟩:=Z i;simp only[Sort.putCells,Array.getElem?_mapIdx,e4,Option.map_some];rw[if_pos ⟨by omega,by rw[L];omega⟩]
          congr 3;omega
         have aB:=Q.room;have aO:(pY O off n D.toList).length=O.length:=by simp[pY,L];omega
         obtain⟨s2,st2⟩:=s1.write (o:=.cells (Sort.putCells enc (p.o+off*1) D c) el) (ob':=.row 1 (pY O off n D.toList)) J rfl hp
          ⟨p,_,el,hp,hI,gP _ ae,Pd Q.es_eq (by rw[ah];exact Q.sz) (by rw[aO,ah];omega) λi x A=>by
           unfold pY at A
           by_cases c1:i<off
           .rw[List.append_assoc,List.getElem?_append_left (by simp;omega),List.getElem?_take,if_pos c1]at A
            obtain⟨v,u,e1,e2,e3,e4⟩:=u9 Q i A;exact⟨v,u,e1,e2,by rw[ai _ (by omega)];exact e3,e4⟩
           .by_cases c2:i<off+(n+1)
            .rw[List.getElem?_append_left (by simp[L];omega),List.getElem?_append_right (by simp;omega)]at A
             have aj:i-off<D.size:=by omega
             have e0:(O.take off).length=off:=by simp;omega
             simp only[e0,List.getElem?_map,Array.getElem?_toList]at A;rw[Array.getElem?_eq_getElem aj]at A;simp only[Option.map_some,ζa]at A;obtain⟨v,e1,e2,e3,e4⟩:=Z D[i-off];rw[e1]at A;simp only[Option.getD_some]at A;refine⟨v,enc D[i-off],A.symm,e2,?_,e3⟩;have:=ao ⟨i-off,by omega⟩
             simp only[getElem!_pos D (i-off) aj]at this;rw[<-this];congr 1;omega
            .rw[List.getElem?_append_right (by simp[L];omega),List.getElem?_drop]at A
             have e0:off+(n+1)+(i-((O.take off)++D.toList.map (λi=>(O[off+i.1]?).getD [])).length)=i:=by simp[L];omega
             rw[e0]at A;obtain⟨v,u,e1,e2,e3,e4⟩:=u9 Q i A;exact⟨v,u,e1,e2,by rw[ai _ (by omega)];exact e3,e4⟩⟩
         have hk:∀b,b<(fh (Sort.ahead w m) p.b (.cells (Sort.putCells enc (p.o+off*1) D c) el)).heap.size->(grow (fh (Sort.ahead w m) p.b (.cells (Sort.putCells enc (p.o+off*1) D c) el)) os).heap[b]? = (fh (Sort.ahead w m) p.b (.cells (Sort.putCells enc (p.o+off*1) D c) el)).heap[b]? := λb X=>Db _ _ _ X
         have aP:=Step.kept (I:=I) (μ:=μ) (H:=H.set id (.row 1 (pY O off n D.toList))) hk (by simp[grow]) rfl ⟨rfl,rfl,Nat.le_refl _⟩ (λa ha h=>by unfold World.frozen? at h ⊢;rw[hk _ ha];exact h)
         exact⟨_,I,μ,rfl,bz.undef _ _,s2.kept hk,Step.trans s1 aN (Step.trans s2 st2 aP)⟩
        .cases h0
       .cases h
      .cases h
     .cases h
    .cases h
   .cases h
  .cases h
 .cases h
end
def AR (P:Program) (f:FuncId) (args:List V) (y:V):Prop:=xW P f/\∀I μ H w u,cN I μ H w->cw I μ args u->CallsIn (fr none) 0 P f u.toArray w (wY I μ H w y H)
theorem Mx {P:Program} {call:dh} (hc:jW P call) {f:FuncId} {b:Bool} {H':bf} (h:call (.fn f) [] []=some (.bool b,H')):AR P f [] (.bool b):=by
 have hi:∀H,bU call f [] H=some (.bool b):=by
  intro H;unfold bU;rw[show borrows call.lv H []=some []from rfl];simp only[h,jy _ H' (show (V.bool b).closed=true from rfl)];rfl
 refine⟨?_,λI μ H w u s hv=>(Cw hc (hi H) s hv).2⟩
 obtain⟨h1,_⟩:=hc.fn _ _ _ _ _ h;omega
structure R_ (P:Program) (E:Env):Prop where
 sort:∀f,E.sort f=true->z_ P f
 known:∀f args y,E.known f args=some y->AR P f args y
end Go.VE
namespace Go.VE
variable [bN]
section
variable {P:Program} {E:Env} {I I':b9} {μ μ':Mu} {H H':bf} {n B:Nat} {F F':Frame} {a:Act} {w w':World}
theorem Ij:∀(F:Frame) (t:Nat),F.length<=t->get F t=.undef
 | [],_,_=>rfl
 | _::_,0,h=>by simp_all
 | _::r,i+1,h=>Ij r i (by grind)
theorem Fb:∀(F:Frame) (t:Nat) (x:V),F[t]? = some x->get F t=x
 | [],_,_,h=>by simp_all
 | _::_,0,_,h=>by simpa [get]using h
 | _::r,i+1,x,h=>Fb r i x (by grind)
theorem Kz (hg:sS I) {args:List V} {vs:List Value} {nt:Nat} (h:cw I μ args vs) (B:args.length<=nt) :
 dP I μ nt args (vs.toArray++Array.replicate (nt-vs.toArray.size) undef):=by
 have u  := h.1;refine⟨by simp_all,λt=>?_,hg⟩
 by_cases A:t<args.length
 .have h1:args[t]? = some args[t]:=by simp_all
  have w:t<vs.length:=by omega
  have z:vs[t]? = some vs[t]:=by simp_all
  rw[Fb _ _ _ h1];have:(vs.toArray++Array.replicate (nt-vs.toArray.size) undef).getD t undef=vs[t]:=by
   rw[Array.getD_eq_getD_getElem?,Array.getElem?_append_left (by grind)]
   simp_all
  rw[this];exact h.2 t _ _ h1 z
 .rw[Ij _ _ (by omega)]
  have:(vs.toArray++Array.replicate (nt-vs.toArray.size) undef).getD t undef=undef:=by
   rw[Array.getD_eq_getD_getElem?,Array.getElem?_append_right (by simp_all),Array.getElem?_replicate]
   grind
  rw[this];exact bz.undef _ _
theorem OD (r:dP I μ n F a.tmps) {t:Nat} {x:V} {v:Value} (B:t<n) (h:bz I μ x v):dP I μ n (set F t x) (a.tmps.setIfInBounds t v):=by
 have:=dP.put  (dst:=some t) r h (F':=set F t x) (by simp[jg,B])
 simpa [Act.put]using this
theorem AA:∀(ps:List Nat) (xs:List V) (vs:List Value) (F:Frame) (tmps:Array Value),dP I μ n F tmps->cw I μ xs vs->ps.all (·<n)=true ->
 dP I μ n (wv ps xs F) ((ps.zip vs).foldl (λtmps (t,a)=>tmps.setIfInBounds t a) tmps)
 | [],_,_,F,tmps,r,_,_=>by simpa [wv]using r
 | t::ps,[],[],F,tmps,r,_,_=>by simpa [wv]using r
 | t::ps,[],v::vs,F,tmps,r,h,_=>by have:=h.1;grind
 | t::ps,x::xs,[],F,tmps,r,h,_=>by have:=h.1;grind
 | t::ps,x::xs,v::vs,F,tmps,r,h,u=>by
  simp only[List.all_cons,ζh,decide_eq_true_eq]at u;have w  := h.2 0 x v rfl rfl;have z:cw I μ xs vs:=⟨by have:=h.1;grind,λj a b h1 A=>h.2 (j+1) a b (by grind) (by grind)⟩
  exact AA ps xs vs _ _ (OD (a:={ tmps:=tmps,defers:=[] }) r u.1 w) z u.2
theorem GW {α β:Type} (g:α->Sem β):∀(l:List α) (w:World) (B:List β),B.length=l.length->(∀(j:Nat) x y,l[j]? = some x->B[j]? = some y->(g x).run P w=.ok y w)->(l.mapM g).run P w=.ok B w
 | [],w,[],_,_=>by simp
 | [],w,_::_,h,_=>by simp_all
 | _::_,w,[],h,_=>by simp_all
 | x::l,w,y::B,h,hg=>by
  have D:=hg 0 x y rfl rfl;have u:=GW g l w B (by grind) (λj a b h1 z=>hg (j+1) a b (by grind) (by grind))
  simp_all
def J4 (tmps:Array Value):ResultVar->Sem Value
 | .tmp t=>pure (tmps.getD t undef)
 | .cell a t=>do loadVar t (<-asAddr (tmps.getD a undef))
theorem Jw (fn:Func) (tmps:Array Value):results fn tmps=(fn.results.mapM (J4 tmps) >>= λvs=>pure (if h:vs.size=1 then vs[0]else .tuple vs)):=by
 congr 1
theorem JD (U:dX P E) {fn:Func} {tmps:Array Value} (r:dP I μ n F tmps) (s:cN I μ H w) {vs:List V} (h:gN E F H fn.results.toList=some vs) :
 ∃u,(results fn tmps).run P w=.ok u w/\bz I μ (result vs) u:=by
 have key:∀(l:List ResultVar) (vs:List V),gN E F H l=some vs->∃z:List Value,z.length=l.length/\cw I μ vs z /\
  ∀(j:Nat) x y,l[j]? = some x->z[j]? = some y->(J4 tmps x).run P w=.ok y w:=by
  intro l
  induction l with
  | nil=>intro vs h;simp[gN]at h;subst h;exact⟨[],rfl,.nil,by simp⟩
  | cons x l T=>
   intro vs h
   cases x with
   | tmp t=>
    simp only[gN,ζf]at h;obtain⟨C,h,rfl⟩:=h;obtain⟨z,h1,B,O⟩:=T C h;refine⟨tmps.getD t undef::z,by simp_all,.cons (r.2 t) B,?_⟩
    intro j x y G J
    cases j with
    | zero=>simp at G J;subst G;subst J;simp[J4]
    | succ j=>grind
   | cell p t=>
    simp only[gN]at h;split at h
    .rename_i d C hd Q;simp only[ζf]at h;obtain⟨v,hv,rfl⟩:=h;obtain⟨z,h1,B,O⟩:=T C Q;obtain⟨u,_,hu,W,S,D⟩:=BJ U s hd (r.2 p) hv;refine⟨u::z,by simp_all,.cons hu B,?_⟩
     intro j x y G J
     cases j with
     | zero=>
      simp only[List.getElem?_cons_zero,ζa]at G J;subst G;subst J;have e:(do loadVar t (<-asAddr (tmps.getD p undef))).run P w=(loadVar t W).run P w:=by rw[Sem.run_bind,S];rfl
      exact e.trans D
     | succ j=>grind
    grind
 obtain⟨z,h1,B,O⟩:=key _ _ h;have Y:=GW  _ fn.results.toList w z h1 O;have X:(fn.results.mapM (J4 tmps)).run P w=.ok z.toArray w:=by
  rw[Array.mapM_eq_mapM_toList];simp_all
 have L:z.length=vs.length:=B.1.symm;rw[Jw,Sem.run_bind,X]
 by_cases A:z.length=1
 .obtain⟨u,rfl⟩:=List.length_eq_one_iff.1 A;obtain⟨v,rfl⟩:=List.length_eq_one_iff.1 (L▸A);exact⟨u,by simp,by simpa [result]using B.2 0 v u rfl rfl⟩
 .refine⟨.tuple z.toArray,by simp_all,?_⟩
  have hr:result vs=.tup vs:=by
   match vs,L with
   | [],_=>rfl
   | [_],h=>exact absurd h A
   | _::_::_,_=>rfl
  rw[hr];exact .tup _ _ (by simpa using B.1) (by simpa using B.2)
theorem Mp (G:dX P E) {fn:Func} {tmps:Array Value} {vs:List V} (h:gN E F H' fn.results.toList=some vs) (T:w.heap.size<=B):∀(ds:List Deferred) (w':World),
 dP I' μ' n F tmps->cN I' μ' H' w'->Step I μ H w I' μ' H' w'->iO B ds w' ->
 LeavesInM (fr none) 0 P fn tmps (wY I μ H w (result vs) H') ds .returning w':=by
 intro ds
 induction ds with
 | nil=>
  intro w' r s st m;obtain⟨u,hu,hv⟩:=JD G r s h;exact⟨u,hu,u,I',μ',rfl,hv,s,st⟩
 | cons d ds J=>
  intro w' r s st m;obtain⟨q,h1,Q,C⟩:=m.all d (by simp)
  refine⟨by simp,.inl ⟨q,_,h1,run_takeDeferred C,?_⟩⟩
  have z:=tI s C;have L:=Qf s C (by simp) (by simp)
  have m':iO B ds w':=⟨λd hd=>m.all d (List.mem_cons_of_mem _ hd),(List.pairwise_cons.1 m.apart).2⟩
  refine J (fh w' q (.deferred none)) r (s.zL _ L z) (st.after _ (by omega)) ⟨λD A=>?_,m'.apart⟩
  obtain⟨O,g1,g2,g3⟩:=m'.all D A;refine⟨O,g1,g2,?_⟩;rw[fP _ ?_];exact g3;rintro rfl;exact(List.pairwise_cons.1 m.apart).1 D A _ h1 g1
theorem C5 (o:Out):(j7 o).isNone=(o==.norm):=by
 cases o <;> simp[j7] <;> rfl
theorem DO (T:dX P E) (hm:P.follows .mixedOrders=true) (hS:R_ P E):∀n,jW P (run E n):=by
 intro n
 induction n with
 | zero=>exact⟨λ_ _ _ _ _ h=>(by cases h),λ_ _ _ _ _ h=>(by cases h)⟩
 | succ n B=>
  constructor
  .intro f args H r H' h;rw[Ez]at h;simp[i_]at h;split at h
   .rename_i G ab;obtain⟨fn,hf,hb,ad,S,J⟩:=T.ft f G ab;refine⟨⟨fn,hf,by simp_all,J⟩,?_⟩
    intro I μ w A s hv;split at h
    .rename_i u;have main:∀o F' H2 rs,exec E (run E n) n false G.ntmps G.body args H=some (o,F',H2)->(∀id,o≠.exit id)->gN E F' H2 G.results=some rs->CallsIn (fr none) 0 P f A.toArray w (wY I μ H w (result rs) H2):=by
      intro o F' H2 rs hx ak hr;refine callsIn_of_wp_marks hf hb trivial ?_;rw[ad];have r0:=Kz s.gl hv u;have:=xC  T hm B n none false rfl G.ntmps G.body I μ args H { tmps:=A.toArray++Array.replicate (G.ntmps-A.toArray.size) undef,defers:=[] } w o F' H2 hx r0 s ⟨by simp,.nil⟩ (Nat.le_refl _)
      refine wpIn_mono this ?_;rintro e a1 U ⟨rfl,⟨I1,μ1,r1,s1,z⟩,m1⟩;have hl:=Mp  T  (by rw[S];omega) (Nat.le_refl _) a1.defers U r1 s1 z m1
      cases o with
      | norm=>exact hl
      | ret=>exact hl
      | exit id=>grind
     split at h
     .simp_all
     .simp  at h
      grind
     grind
    grind
   .split at h
    .rename_i hs;exact⟨(hS.sort f hs).ok,λI μ w A s hv=>QB B (hS.sort f hs) h s hv⟩
    .obtain⟨yy,he,h⟩:=ζf.1 h;cases h;exact⟨(hS.known f args _ he).1,λI μ w A s hv=>(hS.known f args _ he).2 I μ H w A s hv⟩
  .intro id args H r H' h I μ w A p s hv hp;rw[Ez]at h;simp only[i_]at h;split at h
   .rename_i rec W;split at h
    .split at h
     .rename_i u;split at h
      .rename_i F2 H2 ae;split at h
       .rename_i r2 X;split at h
        .rename_i Y;split at h
         .rename_i o F4 H4 af;split at h
          .rename_i r4 Z;obtain⟨rfl,rfl⟩:=h;obtain⟨q,l,g1,g2,g3,g4⟩:=zU s W;rw[hp]at g1;cases g1;have ah:l.params.size=rec.params.length:=by have:=congrArg List.length g4.params;grind
           have ai:A.toArray.size=l.params.size:=by
            rw[ah,<-u.1];simpa using hv.1.symm
           refine⟨p.b,l.fn,_,l.assign,l.body,run_yield g3 ai,?_⟩;refine roundIn_of_wpIn trivial ?_;have L:(l.params.zip A.toArray).foldl (λtmps x=>tmps.setIfInBounds x.1 x.2) l.tmps=(rec.params.zip A).foldl (λtmps x=>tmps.setIfInBounds x.1 x.2) l.tmps:=by
            rw[<-Array.foldl_toList,Array.toList_zip,g4.params]
           have r0:=AA rec.params args A rec.frame l.tmps g4.frame hv u.2;rw[<-L]at r0;have U:=xC  T hm B n (some p.b) true rfl rec.nt rec.assign I μ _ H { tmps:=_,defers:=[] } w _ _ _ ae r0 s ⟨by simp,.nil⟩ (Nat.le_refl _)
           rw[g4.assign,g4.body];refine wpIn_mono U ?_;rintro e a1 U ⟨rfl,⟨I1,μ1,r1,s1,z⟩,m1⟩;obtain⟨q,l2,k1,k2,k3,O⟩:=zU s1 X;rw[z.mu _ _ hp]at k1;cases k1;have C:l2.state=.ready:=by
            have:=O.st;rw[Y]at this;cases hl:l2.state <;> rw[hl]at this <;> simp[AG.is]at this
           refine⟨_,run_beginRound k3 C,?_⟩;have D  := z.mu _ _ hp;obtain⟨s2,st2⟩:=s1.write  (ob':=.loop { r2 with st:=.busy }) X rfl D
            ⟨p,{ l2 with state:=.busy },D,k2,gP _ (Array.getElem?_eq_some_iff.1 k3).1,⟨trivial,O.pend,O.pendOk,O.frame,O.params,O.assign,O.body⟩⟩
           have m2  := m1.step s1 st2;have w2:=xC  T hm B n (some p.b) true rfl rec.nt rec.body I1 μ1 F2 _ a1 (fh U p.b (.loop { l2 with state:=.busy })) o F4 H4 af r1 s2 m2 (by rw[vL];exact z.size)
           refine wpIn_mono w2 ?_;rintro e a3 w3 ⟨rfl,⟨I3,μ3,r3,s3,Q⟩,m3⟩;obtain⟨q,l4,j1,j2,j3,j4⟩:=zU s3 Z;rw[Q.mu _ _ D]at j1;cases j1;have aa  := Q.mu _ _ D;have fin:∃v w',(Instr.endRound p.b (j7 o)).run P w3=.ok v w'/\wY I μ H w (.bool (o==.norm)) (H4.set id (.loop { r4 with st:=(if o==.norm then .ready else .done),pend:=(if o==.norm then none else some o) })) (.returned v) w':=by
            refine⟨_,_,run_endRound (j7 o) j3,?_⟩;obtain⟨s4,aj⟩:=s3.write  (ob':=.loop { r4 with st:=(if o==.norm then .ready else .done),pend:=(if o==.norm then none else some o) }) Z rfl aa
             ⟨p,{ l4 with state:=if(j7 o).isNone then .ready else .done,pending:=j7 o },aa,j2,gP _ (Array.getElem?_eq_some_iff.1 j3).1,⟨by cases o <;> exact trivial,by cases o <;> rfl,by cases o <;> simp,j4.frame,j4.params,j4.assign,j4.body⟩⟩
            refine⟨_,I3,μ3,rfl,?_,s4,Step.trans s1 z (Step.trans s2 st2 (Step.trans s3 Q aj))⟩;rw[C5];exact .c _ _ (.bool _)
           cases o with
           | norm=>exact fin
           | ret=>exact fin
           | exit id=>exact fin
          grind
         grind
        grind
       grind
      grind
     grind
    grind
   grind
end
end Go.VE
namespace Go.VE
variable [bN]
variable {P:Program}
theorem oL.I9 {t:TypeId} {d:TD} (h:uN P t=some d):oL P t d:=
 dX.ty (E:={ tt:=uN P,ft:=λ_=>none,keep:=λ_=>false,own:=λ_=>false,eqN:=λ_=>none,sort:=λ_=>false }) ⟨λ_ _ h=>h,by simp,by simp⟩ h
theorem qx {i:TypeId} {cs:Array Value} {o:Nat} {v:Value} {w:World} (hi:uN P i=some ⟨1,8,[.int .i64 0],.int .i64⟩) (h:cs[o]? = some v):(part i cs o).run P w=.ok v w:=by
 unfold part;simp[Sem.run_bind,(oL.I9 hi).I6,Result.andThen,TD.agg,h]
theorem si {a:List Int} (h:a.length=2):∃x y,a=[x,y]:=by
 match a,h with
 | [x,y],_=>exact⟨x,y,rfl⟩
theorem zI (d:Nat) (e:Bool) {i:TypeId} (x:Int) {w:World} (B:P.underlying i=some (.int .i64)):(Instr.checkKey e (d+1) i (.int .i64 x)).run P w=.ok () w:=by
 simp only[Instr.checkKey,Sem.run_bind,dA B,Result.andThen_ok,Sem.run_pure]
theorem FG (d:Nat) (e:Bool) {t i:TypeId} {f g:Field} (x y:Int) {w:World} (hu:P.underlying t=some (.struct #[f,g])) (D:f.type=i) (hg:g.type=i) (of:f.offset=0) (G:g.offset=1) (nf:f.name ≠ "_") (J:g.name ≠ "_")
 (hi:uN P i=some ⟨1,8,[.int .i64 0],.int .i64⟩) (B:P.underlying i=some (.int .i64)):(Instr.checkKey e (d+1+1) t (.agg (ic [x,y]))).run P w=.ok () w:=by
 have u:∀w,(part i (ic [x,y]) 0).run P w=.ok (.int .i64 x) w:=λw=>qx hi rfl
 have p1:∀w,(part i (ic [x,y]) 1).run P w=.ok (.int .i64 y) w:=λw=>qx hi rfl
 have q:∀(x:Int) w,(Instr.checkKey e (d+1) i (.int .i64 x)).run P w=.ok () w:=λx w=>zI d e x B
 unfold Instr.checkKey;simp only[Sem.run_bind,dA hu,Result.andThen_ok];rw[<-Array.forIn_toList];simp only[List.forIn_cons,List.forIn_nil,Sem.run_bind,D,hg,of,G,nf,J,ne_eq,not_false_eq_true,if_true,u,p1,q,Result.andThen_ok,Sem.run_pure]
theorem uW.two {t i:TypeId} {f g:Field} (hu:P.underlying t=some (.struct #[f,g])) (T:f.type=i) (hg:g.type=i) (of:f.offset=0) (U:g.offset=1) (nf:f.name ≠ "_") (W:g.name ≠ "_")
 (hi:uN P i=some ⟨1,8,[.int .i64 0],.int .i64⟩) (D:P.underlying i=some (.int .i64)) (Y:P.stoodInHeld t=false) (hq:P.eqGuardType P.depth t=false):uW P t 2:=by
 have G:P.fieldsOf t=#[f,g]:=by unfold Program.fieldsOf;rw[hu]
 have A:∀(w:World) (x y z u:Int),(Op.equal t (.agg (ic [x,y])) (.agg (ic [z,u]))).run P w=.ok ([x,y]==[z,u]) w:=by
  intro w x y z u;show (Op.equalIn (9999+1) t _ _).run P w=_;rw[run_equalIn_struct w 9999 t _ _ (by rw[G];exact hu) Y,G]
  have O:∀(x y:Int) w,(part i (ic [x,y]) 0).run P w=.ok (.int .i64 x) w:=λx y w=>qx hi rfl
  have p1:∀(x y:Int) w,(part i (ic [x,y]) 1).run P w=.ok (.int .i64 y) w:=λx y w=>qx hi rfl
  have q:∀(x y:Int) w,(Op.equalIn 9999 i (.int .i64 x) (.int .i64 y)).run P w=.ok (x==y) w:=λx y w=>As 9998 x y D
  simp only[Op.eqFields,T,hg,of,U,nf,W,ne_eq,not_false_eq_true,if_true,Sem.run_bind,O,q,Result.andThen_ok]
  by_cases B:x=z
  .by_cases I:y=u
   .subst B;subst I;simp[Sem.run_bind,p1,q,Result.andThen]
   .subst B;have:(y==u)=false:=by simpa using I
    simp[Sem.run_bind,p1,q,Result.andThen,this]
  .have:(x==z)=false:=by simpa using B
   simp[this]
 have J:∀(op:BinOp) (p q:Operand) (w:World) (u v:Array Value),(eqGuard op t p q (.agg u) (.agg v)).run P w=.ok () w:=by
  intro op p q w u v;unfold eqGuard;cases op <;> simp[Sem.run_bind,run_program,Result.andThen,hq]
 refine⟨?_,?_,?_,?_,⟨_,hu,.inr ⟨_,rfl⟩⟩⟩
 .intro w p q a b C L;obtain⟨x,y,rfl⟩:=si C;obtain⟨z,u,rfl⟩:=si L;rw[Sem.run_bind,J,Result.andThen_ok];show (do pure (Value.bool (<-Op.equal t (.agg (ic [x,y])) (.agg (ic [z,u])))):Sem Value).run P w=_
  rw[Sem.run_bind,A];rfl
 .intro w p q a b C L;obtain⟨x,y,rfl⟩:=si C;obtain⟨z,u,rfl⟩:=si L;rw[Sem.run_bind,J,Result.andThen_ok];show (do pure (Value.bool (!(<-Op.equal t (.agg (ic [x,y])) (.agg (ic [z,u]))))):Sem Value).run P w=_
  rw[Sem.run_bind,A];rfl
 .intro w a b C L;obtain⟨x,y,rfl⟩:=si C;obtain⟨z,u,rfl⟩:=si L;exact A w x y z u
 .intro w e a C;obtain⟨x,y,rfl⟩:=si C;exact FG 9998 e x y hu T hg of U nf W hi D
def lk {α:Type}:List (Nat×α)->Nat->Option α
 | [],_=>none
 | (k,v)::r,n=>bif Nat.beq k n then some v else lk r n
theorem Lr {α:Type}:∀{l:List (Nat×α)} {n:Nat} {v:α},lk l n=some v->(n,v)∈l
 | [],_,_,h=>by simp[lk]at h
 | (k,x)::r,n,v,h=>by
  simp only[lk]at h
  cases hk:Nat.beq k n with
  | true=>
   rw[hk]at h;simp only[cond_true,ζa]at h;have:=Nat.eq_of_beq_eq_true hk;subst this;subst h;simp
  | false=>rw[hk]at h;exact List.mem_cons_of_mem _ (Lr h)
end Go.VE
namespace Go.VE
variable [bN]
inductive KT where|bool|str|slice|ptr|map|int|other
 deriving DecidableEq
def TK.tag:TK->KT
 | .bool=>.bool
 | .int _=>.int
 | .str=>.str
 | .ptr _=>.ptr
 | .slice _=>.slice
 | .map ..=>.map
 | _=>.other
def nP (k:KT) (x y:V):Option Bool:=
 match k,x,y with
 | .slice,.bE,.bE=>some true
 | .slice,.fsl ..,.bE=>some false
 | .slice,.hsl ..,.bE=>some false
 | .ptr,.gF,.gF=>some true
 | .ptr,.fptr _,.gF=>some false
 | .ptr,.hptr ..,.gF=>some false
 | .map,.fR,.fR=>some true
 | .map,.fmap _,.fR=>some false
 | .map,.hmap _,.fR=>some false
 | _,_,_=>none
def iE (k:Option KT) (e:Option Nat) (op:BinOp) (x y:V):Option V:=
 match x,y with
 | .int k a,.int u b=>
  match op with
  | .shl=>if b<0 then none else some (.int k (k.wrap (a*2 ^ (min b.toNat k.bits))))
  | .shr=>if b<0 then none else some (.int k (a.fdiv (2 ^ (min b.toNat k.bits))))
  | _=>if k=u then
   match op with
   | .add=>some (.int k (k.wrap (a+b)))
   | .sub=>some (.int k (k.wrap (a-b)))
   | .mul=>some (.int k (k.wrap (a*b)))
   | .quo=>if b=0 then none else some (.int k (k.wrap (a.tdiv b)))
   | .rem=>if b=0 then none else some (.int k (a.tmod b))
   | .and=>some (.int k (k.wrap (BitVec.ofInt k.bits a &&& BitVec.ofInt k.bits b).toNat))
   | .or=>some (.int k (k.wrap (BitVec.ofInt k.bits a ||| BitVec.ofInt k.bits b).toNat))
   | .xor=>some (.int k (k.wrap (BitVec.ofInt k.bits a ^^^ BitVec.ofInt k.bits b).toNat))
   | .andNot=>some (.int k (k.wrap (BitVec.ofInt k.bits a &&& ~~~ BitVec.ofInt k.bits b).toNat))
   | op=>(oI op a b).map .bool
   else none
 | .str a,.str b=>
  match op with
  | .add=>if((a.size+b.size:Nat):Int)>IntKind.i64.max then none else some (.str (a++b))
  | .eql=>some (.bool (a.toList==b.toList))
  | .neq=>some (.bool !(a.toList==b.toList))
  | .lss=>some (.bool (Op.bytesLess a.toList b.toList))
  | .leq=>some (.bool (Op.bytesLess a.toList b.toList||a.toList==b.toList))
  | .gtr=>some (.bool !(Op.bytesLess a.toList b.toList||a.toList==b.toList))
  | .geq=>some (.bool !(Op.bytesLess a.toList b.toList))
  | _=>none
 | .bool a,.bool b=>
  match k,op with
  | some .bool,.eql=>some (.bool (a==b))
  | some .bool,.neq=>some (.bool !(a==b))
  | _,_=>none
 | .agg a,.agg b=>
  match e,op with
  | some n,.eql=>if a.length=n then(jY a b).map .bool else none
  | some n,.neq=>if a.length=n then(jY a b).map (λt=>.bool !t)else none
  | _,_=>none
 | x,y=>
  match k,op with
  | some k,.eql=>(nP k x y).map .bool
  | some k,.neq=>(nP k x y).map λt=>.bool !t
  | _,_=>none
theorem JF (k:TK) (x y:V):tB k x y=nP k.tag x y:=by
 cases k <;> cases y <;> (try rfl) <;> cases x <;> rfl
theorem P_ (E:Env) (op:BinOp) (t:TypeId) (x y:V):Gz E op t x y=iE ((E.kindOf t).map TK.tag) (E.eqN t) op x y:=by
 unfold Gz;split
 .rfl
 .rfl
 .cases hk:E.kindOf t with
  | none=>rfl
  | some k=>cases k <;> cases op <;> rfl
 .rfl
 .rename_i h1 u w z
  cases hk:E.kindOf t with
  | none=>rw[iE.eq_29 _ _ _ _ _ h1 u w z (by simp) (by simp)]
  | some k=>
   simp only[JF];cases op <;> first
    | exact(iE.eq_27 _ _ _ _ h1 u w z).symm
    | exact(iE.eq_28 _ _ _ _ h1 u w z).symm
    | (rw[iE.eq_29 _ _ _ _ _ h1 u w z (by simp) (by simp)])
inductive tY where
 | id|pick|nilc
 | bin (k:Option KT) (e:Option Nat) (op:BinOp)
 | not|neg
 | conv (k:IntKind)
 | fieldAddr (off:Nat)
 | field (off size:Nat) (agg:Bool)
 | idxS (size:Nat)
 | idxA (len size:Nat)
 | idxStr
 | idxArr (len size:Nat) (agg:Bool)
 | sliceStr (lo hi:Bool)
 | slice (size:Nat) (lo hi:Bool)
 | slice00
 | build (zero:List V) (pl:List (Nat×Nat))
 | clo (name:Nat) (k:Nat)
 | ext (i:Nat)
 | lenStr|lenSl|capSl|max|min|bad|max4
 | makeC (size:Nat) (zero:List V)
 | emptyC
def Js:V->Option V
 | .hptr id el off=>some (.hptr id el off)
 | .fptr cs=>some (.fptr cs)
 | .clo f a b=>some (.clo f a b)
 | _=>none
def lX (off:Nat):V->Option V
 | .fptr cs=>if off<=cs.length then some (.fptr (cs.drop off))else none
 | .hptr id el o=>some (.hptr id el (o+off))
 | _=>none
def lE (size:Nat) (s:V) (n:Int):Option V:=
 if n<0 then none else match s with
 | .fsl es u=>if es=size then(u[n.toNat]?).map .fptr else none
 | .hsl id es off len=>if es=size/\n.toNat<len then some (.hptr id (off+n.toNat) 0)else none
 | _=>none
def vF (len size:Nat) (p:V) (n:Int):Option V:=
 if 0<=n/\n<len then match p with
  | .fptr cs=>if n.toNat*size<=cs.length then some (.fptr (cs.drop (n.toNat*size)))else none
  | .hptr id el o=>some (.hptr id el (o+n.toNat*size))
  | _=>none
 else none
def k7:Bool->Bool->List V->Option (Option Int×Option Int)
 | false,false,[]=>some (none,none)
 | true,false,[.int _ l]=>some (some l,none)
 | false,true,[.int _ h]=>some (none,some h)
 | true,true,[.int _ l,.int _ h]=>some (some l,some h)
 | _,_,_=>none
def gB (size:Nat) (v:V) (l h:Option Int):Option V:=
 match v with
 | .fsl es u=>if es=size then(dI u.length l h).map λ(l,h)=>.fsl es ((u.take h).drop l)else none
 | .hsl id es off len=>if es=size then(dI len l h).map λ(l,h)=>.hsl id es (off+l) (h-l)else none
 | .dm=>(dI 0 l h).map λ_=>.dm
 | .bE=>(dI 0 l h).map λ_=>.bE
 | _=>none
def JN:V->Bool
 | .fsl ..|.hsl ..|.dm|.bE=>true
 | _=>false
def jS (cells:List V):List (Nat×Nat)->List V->Option (List V)
 | [],[]=>some cells
 | (off,size)::pl,v::vs=>
  if v.cells.length≠size||off+v.cells.length>cells.length then none
  else jS (cells.take off++v.cells++cells.drop (off+v.cells.length)) pl vs
 | _,_=>none
def mT:V->Option V
 | .fsl _ xs=>some (.int .i64 xs.length)
 | .hsl _ _ _ len=>some (.int .i64 len)
 | .dm=>some (.int .i64 0)
 | .bE=>some (.int .i64 0)
 | _=>none
def Gs:V->Option V
 | .bE|.dm=>some (.int .i64 0)
 | _=>none
def bn (N:Nat->FuncId):tY->List V->Option V
 | .id,[x]=>some x
 | .pick,[.bool t,a,b]=>some (if t then a else b)
 | .nilc,[x]=>Js x
 | .bin k e op,[x,y]=>iE k e op x y
 | .not,[.bool b]=>some (.bool !b)
 | .neg,[.int k n]=>some (.int k (k.wrap (0-n)))
 | .conv k,[.int _ n]=>some (.int k (k.wrap n))
 | .fieldAddr off,[p]=>lX off p
 | .field off size agg,[.agg cs]=>(cut cs off size).bind (mk agg)
 | .idxS size,[s,.int _ n]=>lE size s n
 | .idxA len size,[p,.int _ n]=>vF len size p n
 | .idxStr,[.str s,.int _ n]=>if 0<=n then(s[n.toNat]?).map (λb=>.int .u8 b.toNat)else none
 | .idxArr len size agg,[.agg cs,.int _ n]=>if 0<=n/\n<len then(cut cs (n.toNat*size) size).bind (mk agg)else none
 | .sliceStr lo hi,.str s::D=>(k7 lo hi D).bind λ(l,h)=>(dI s.size l h).map λ(l,h)=>.str (s.extract l h)
 | .slice size lo hi,v::D=>(k7 lo hi D).bind λ(l,h)=>gB size v l h
 | .slice00,[v,.int _ h,.int _ m]=>if JN v&&h==0&&m==0 then some .dm else none
 | .build zero pl,vs=>(jS zero pl vs).map .agg
 | .clo name k,vs=>some (.clo (N name) (vs.take k) (vs.drop k))
 | .ext i,[.tup vs]=>vs[i]?
 | .lenStr,[.str s]=>some (.int .i64 s.size)
 | .lenSl,[v]=>mT v
 | .capSl,[v]=>Gs v
 | .max,[.int k a,.int B b]=>if k=B then some (.int k (if b>a then b else a))else none
 | .max4,[.int k a,.int k1 b,.int G c,.int J d]=>if k=k1/\k=G/\k=J then some (.int k (AP (AP (AP a b) c) d))else none
 | .min,[.int k a,.int B b]=>if k=B then some (.int k (if b<a then b else a))else none
 | .makeC size zero,[.int k n,.int B m]=>if k=.i64/\B=.i64/\0<=n/\n=m/\m<=2147483648/\zero.all V.scalar=true then some (.fsl size (List.replicate n.toNat zero))else none
 | .emptyC,[]=>some .dm
 | _,_=>none
inductive vP where|int (k:IntKind)|str|ints (n:Nat)
def Cp (E:Env) (t:TypeId):Option vP:=
 match E.kindOf t with
 | some (.int k)=>some (.int k)
 | some .str=>some .str
 | some _=>(E.eqN t).map .ints
 | none=>none
def oK:vP->V->Bool
 | .int k,.int B _=>k==B
 | .str,.str _=>true
 | .ints n,.agg cs=>cs.length==n&&(gJ cs).isSome
 | _,_=>false
inductive H6 where
 | load (size:Nat) (agg:Bool)
 | loadF (size:Nat) (agg:Bool)
 | lookup (kk:vP) (zero:V) (ok:Bool)
def ga (H:bf):H6->List V->Option V
 | .load size agg,[p]=>(ei H p size).bind (mk agg)
 | .lookup kk z ok,[m,k]=>match lT H m with
  | some B=>if oK kk k then match gR k B 0 with
   | some (some (_,v))=>some (if ok then .tup [v,.bool true]else v)
   | some none=>some (if ok then .tup [z,.bool false]else z)
   | none=>none
   else none
  | none=>none
 | _,_=>none
inductive Md where
 | alloc (size:Nat) (zero:List V)
 | box
 | makeSl (size:Nat) (zero:List V)
 | buildSl (size len:Nat) (zero:List V) (idx:List Nat)
 | makeMap
def lF:Md->List V->Option (Ob×Mk)
 | .alloc size zero,[]=>some (.row size [zero],.ptr)
 | .box,[v]=>if v.cells.all V.one then some (.row v.cells.length [v.cells],.ptr)else none
 | .makeSl size zero,[.int k n,.int B m]=>if k=.i64/\B=.i64/\0<=n/\n<=m/\m<=2147483648 then some (.row size (List.replicate m.toNat zero),.sl size n.toNat)else none
 | .buildSl size len zero idx,vs=>if idx.length=vs.length then(gL size (List.replicate len zero) (idx.zip vs)).map λxs=>(.row size xs,.sl size len)else none
 | .makeMap,[]=>some (.map [],.map)
 | _,_=>none
inductive Ih where
 | store (size:Nat)
 | storeF (size:Nat)
 | mapUp (kk:vP)
 | append (size:Nat)
 | appMk (size bytes:Nat) (zero:List V)
 | clear (size:Nat) (zero:List V)
def eM (H:bf):Ih->List V->Option (V×bf)
 | .store size,[.hptr id el off,v]=>match H[id]? with
  | some (.row es xs)=>match xs[el]? with
   | some cs=>if v.cells.length=size/\off+size<=cs.length/\v.cells.all V.one=true then
    some (.undef,H.set id (.row es (xs.set el (cs.take off++v.cells++cs.drop (off+v.cells.length)))))else none
   | none=>none
  | _=>none
 | .mapUp kk,[.hmap id,k,v]=>match H[id]? with
  | some (.map B)=>if oK kk k then(oB k v B).map λB=>(.undef,H.set id (.map B))else none
  | _=>none
 | .append size,[s,x]=>match dx H size s,dx H size x with
  | some _,some []=>some (s,H)
  | some xs,some ys=>if xs.length+ys.length<=2147483648 then(gq H s).map λH1=>(.hsl H.length size 0 (xs.length+ys.length),H1++[.row size (xs++ys)])else none
  | _,_=>none
 | .appMk size bytes zero,[s,x]=>mkApp H size bytes zero s x
 | .clear size zero,[v]=>B9 H size zero v
 | .storeF size,.hptr id el off::v::l=>if l.all (pK id)=true then match H[id]? with
  | some (.row es xs)=>match xs[el]? with
   | some cs=>if v.cells.length=size/\off+size<=cs.length/\v.cells.all V.one=true then
    some (.undef,H.set id (.row es (xs.set el (cs.take off++v.cells++cs.drop (off+v.cells.length)))))else none
   | none=>none
  | _=>none
  else none
 | _,_=>none
inductive K where
 | p (p:tY)
 | r (r:H6)
 | a (a:Md)
 | l (l:Ih)
 | c
 | e (size:Nat)
 | b
def Ur (E:Env) (t:TypeId):Option KT:=(E.kindOf t).map TK.tag
def resolve (E:Env) (nm:FuncId->Option Nat):Op->Option (K×List Operand)
 | .move x|.assign x=>some (.p .id,[x])
 | .pick c a b=>some (.p .pick,[c,a,b])
 | .nilCheck x=>some (.p .nilc,[x])
 | .binOp op t x y _=>some (.p (.bin (Ur E t) (E.eqN t) op),[x,y])
 | .unOp .not _ x=>some (.p .not,[x])
 | .unOp .neg _ x=>some (.p .neg,[x])
 | .convert s d x=>match E.tt s,E.tt d with
  | some _,some G=>match G.kind with
   | .int k=>some (.p (.conv k),[x])
   | .str=>match E.kindOf s with
    | some (.slice e)=>match E.kindOf e with
     | some (.int .u8)=>some (.b,[x])
     | _=>none
    | _=>none
   | _=>none
  | _,_=>none
 | .fieldAddr s x f=>match E.kindOf s with
  | some (.struct fs)=>match fs[f]? with
   | some (off,t)=>match E.tt t with
    | some d=>if d.size=0 then none else some (.p (.fieldAddr off),[x])
    | none=>none
   | none=>none
  | _=>none
 | .field s x f=>match E.kindOf s with
  | some (.struct fs)=>match fs[f]? with
   | some (off,t)=>match E.tt t with
    | some d=>some (.p (.field off d.size d.agg),[x])
    | none=>none
   | none=>none
  | _=>none
 | .indexAddr t x i=>match E.kindOf t with
  | some (.slice e)=>(E.tt e).map λd=>(.p (.idxS d.size),[x,i])
  | some (.array len e)=>(E.tt e).map λd=>(.p (.idxA len d.size),[x,i])
  | _=>none
 | .index t x i=>match E.kindOf t with
  | some .str=>some (.p .idxStr,[x,i])
  | some (.array len e)=>(E.tt e).map λd=>(.p (.idxArr len d.size d.agg),[x,i])
  | _=>none
 | .slice t x lo hi J=>match E.kindOf t,J with
  | some .str,none=>some (.p (.sliceStr lo.isSome hi.isSome),x::(lo.toList++hi.toList))
  | some (.slice e),none=>(E.tt e).map λd=>(.p (.slice d.size lo.isSome hi.isSome),x::(lo.toList++hi.toList))
  | some (.slice e),some m=>match E.tt e,lo,hi with
   | some _,none,some h=>some (.p .slice00,[x,h,m])
   | _,_,_=>none
  | _,_=>none
 | .build t ps=>match E.tt t with
  | some d=>match d.kind with
   | .struct fs=>match lZ E fs with
    | some pl=>(ps.toList.mapM λ(q:Nat×Operand)=>pl[q.1]?).map λq=>(K.p (.build d.zero q),ps.toList.map λ(q:Nat×Operand)=>q.2)
    | none=>none
   | .array _ e=>(E.tt e).map λD=>(K.p (.build d.zero (ps.toList.map λ(q:Nat×Operand)=>(q.1*D.size,D.size))),ps.toList.map λ(q:Nat×Operand)=>q.2)
   | _=>none
  | none=>none
 | .makeFunc (.func f) a b=>(nm f).map λs=>(.p (.clo s a.toList.length),a.toList++b.toList)
 | .extract x i=>some (.p (.ext i),[x])
 | .load t a=>(E.tt t).map λd=>(.r (.load d.size d.agg),[a])
 | .lookup t m k ok=>match E.kindOf t with
  | some (.map B T)=>match E.tt T,Cp E B with
   | some d,some kk=>(mk d.agg d.zero).map λz=>(.r (.lookup kk z ok),[m,k])
   | _,_=>none
  | _=>none
 | .alloc t=>(E.tt t).map λd=>(.a (.alloc d.size d.zero),[])
 | .box _ x=>some (.a .box,[x])
 | .makeSlice t l c=>match E.kindOf t with
  | some (.slice e)=>match E.tt e with
   | some d=>if d.bytes<=4096 then some (.a (.makeSl d.size d.zero),[l,c])else none
   | none=>none
  | _=>none
 | .buildSlice t len ps=>match E.kindOf t with
  | some (.slice e)=>match E.tt e with
   | some d=>if len*d.size<=16777216 then some (.a (.buildSl d.size len d.zero (ps.toList.map (·.1))),ps.toList.map (·.2))else none
   | none=>none
  | _=>none
 | .makeMap _ none=>some (.a .makeMap,[])
 | .store t a x=>(E.tt t).map λd=>(.l (.store d.size),[a,x])
 | .mapUpdate t m k x|.insert t m k x=>match E.kindOf t with
  | some (.map B _)=>(Cp E B).map λkk=>(.l (.mapUp kk),[m,k,x])
  | _=>none
 | .call { callee:=.builtin .append,args,argTypes }=>match argTypes.toList,args.toList with
  | [t,U],[s,x]=>match E.kindOf t,E.kindOf U with
   | some (.slice e),some (.slice _)=>match E.tt e with
    | some d=>if d.bytes<=4096/\0<d.bytes then some (.l (.append d.size),[s,x])else none
    | none=>none
   | some (.slice e),some (.int _)=>(E.tt e).map λd=>(.l (.appMk d.size d.bytes d.zero),[s,x])
   | _,_=>none
  | _,_=>none
 | .call { callee:=.builtin .len,args,argTypes }=>match argTypes[0]?,args.toList with
  | some t,[x]=>match E.kindOf t with
   | some .str=>some (.p .lenStr,[x])
   | some (.slice _)=>some (.p .lenSl,[x])
   | _=>none
  | _,_=>none
 | .call { callee:=.builtin .cap,args,argTypes }=>match argTypes[0]?,args.toList with
  | some t,[x]=>match E.kindOf t with
   | some (.slice _)=>some (.p .capSl,[x])
   | _=>none
  | _,_=>none
 | .call { callee:=.builtin .clear,args,argTypes }=>match argTypes[0]?,args.toList with
  | some t,[x]=>match E.kindOf t with
   | some (.slice e)=>(E.tt e).map λd=>(.l (.clear d.size d.zero),[x])
   | _=>none
  | _,_=>none
 | .panic _=>some (.p .bad,[])
 | .makeInterface ..=>some (.p .bad,[])
 | .call { callee:=.builtin .max,args,.. }=>match args.toList with
  | [x,y]=>some (.p .max,[x,y])
  | [x,y,z,t]=>some (.p .max4,[x,y,z,t])
  | _=>none
 | .call { callee:=.builtin .min,args,.. }=>match args.toList with
  | [x,y]=>some (.p .min,[x,y])
  | _=>none
 | .call { callee:=.value f,args,.. }=>some (.c,f::args.toList)
 | _=>none
end Go.VE
namespace Go.VE
variable [bN]
section
variable {E:Env} {nm:FuncId->Option Nat} {N:Nat->FuncId} {F:Frame}
theorem nj {x:Operand} {vs:List V} (h:eP F [x]=some vs):∃a,ev F x=some a/\vs=[a]:=by
 simp[eP]at h
 grind
theorem gY {x:Operand} {l:List Operand} {vs:List V} (h:eP F (x::l)=some vs):∃a az,ev F x=some a/\eP F l=some az/\vs=a::az:=by
 simp[eP]at h
 grind
theorem oT {vs:List V} (h:eP F []=some vs):vs=[]:=by simp[eP]at h;grind
theorem q_ {x y:Operand} {vs:List V} (h:eP F [x,y]=some vs):∃a b,ev F x=some a/\ev F y=some b/\vs=[a,b]:=by
 obtain⟨a,az,w,u,rfl⟩:=gY h;obtain⟨b,z,rfl⟩:=nj u
 grind
theorem Gu {x y z:Operand} {vs:List V} (h:eP F [x,y,z]=some vs):∃a b c,ev F x=some a/\ev F y=some b/\ev F z=some c/\vs=[a,b,c]:=by
 obtain⟨a,az,w,u,rfl⟩:=gY h;obtain⟨b,c,A,hc,rfl⟩:=q_ u
 grind
theorem Jn {l m:List Operand} {vs:List V} (h:eP F (l++m)=some vs):∃az B,eP F l=some az/\eP F m=some B/\vs=az++B:=by
 induction l generalizing vs with
 | nil=>exact⟨[],vs,rfl,h,rfl⟩
 | cons x l u=>
  obtain⟨a,az,w,z,rfl⟩:=gY h;obtain⟨b,c,A,hc,rfl⟩:=u z;refine⟨a::b,c,?_,hc,rfl⟩;simp[eP,w,A]
theorem JO {l:List Operand} {vs:List V} (h:eP F l=some vs):vs.length=l.length:=by
 induction l generalizing vs with
 | nil=>rw[oT h];rfl
 | cons x l u=>obtain⟨a,az,_,w,rfl⟩:=gY h;grind
def B1 (E:Env) (N:Nat->FuncId) (F:Frame) (op:Op) (vs:List V):K->Prop
 | .p p=>cV op=.pure/\∀v,bn N p vs=some v->bG E F op=some v
 | .r r=>cV op=.read/\∀H v,ga H r vs=some v->dG E F H op=some v
 | .a a=>cV op=.alloc/\∀x,lF a vs=some x->ey E F op=some x
 | .l l=>cV op=.loud/\∀H x,eM H l vs=some x->cR E F H op=some x
 | .e _=>False
 | .b=>cV op=.pure/\∃x,vs=[x]/\∀H ys l,dx H 1 x=some ys->om ys=some l->bG E F op=none/\evalConv E F H op=some (.str (KE l))
 | .c=>cV op=.call/\∃f az,vs=f::az/\ja F op=(match f with|.clo g a b=>some (.fn g,a++az++b)|.yld id=>some (.yld id,az)|_=>none)
theorem EL (place:Nat->Option (Nat×Nat)):∀(ps:List (Nat×Operand)) (q:List (Nat×Nat)) (vs:List V) (cells cs:List V),(ps.mapM λ(x:Nat×Operand)=>place x.1)=some q ->
 eP F (ps.map λ(x:Nat×Operand)=>x.2)=some vs->jS cells q vs=some cs->∃B,lq F ps=some B/\s_ place cells B=some cs:=by
 intro ps
 induction ps with
 | nil=>
  intro q vs cells cs u hv h;simp  at u;subst u;have:=oT (by simpa using hv);subst this
  simp[jS]at h;subst h;exact⟨[],rfl,rfl⟩
 | cons p ps C=>
  intro q vs cells cs u hv h;obtain⟨i,x⟩:=p;simp only[List.mapM_cons,Option.pure_def,Option.bind_eq_bind,ζg,ζa]at u;obtain⟨pl,w,D,z,rfl⟩:=u;obtain⟨a,az,G,A,rfl⟩:=gY (by simpa using hv)
  simp only[jS]at h;split at h
  .simp_all
  .obtain⟨B,h1,I⟩:=C D az _ cs z A h;refine⟨(i,a)::B,by simp[lq,G,h1],?_⟩
   simp[s_,w]
   grind
theorem Mt:∀(ps:List (Nat×Operand)) (vs:List V),eP F (ps.map λ(x:Nat×Operand)=>x.2)=some vs->lq F ps=some ((ps.map λ(x:Nat×Operand)=>x.1).zip vs):=by
 intro ps
 induction ps with
 | nil=>simp[lq]
 | cons p ps w=>
  intro vs hv;obtain⟨a,az,z,u,rfl⟩:=gY (by simpa using hv)
  simp[lq,z,w az u]
theorem F9 {lo hi:Option Operand} {vs:List V} {l h:Option Int} (hv:eP F (lo.toList++hi.toList)=some vs) (B:k7 lo.isSome hi.isSome vs=some (l,h)):ji F lo=some l/\ji F hi=some h:=by
 cases lo with
 | none=>
  cases hi with
  | none=>
   have:=oT (by simpa using hv);subst this;obtain⟨rfl,rfl⟩:=B;exact⟨rfl,rfl⟩
  | some y=>
   obtain⟨b,u,rfl⟩:=nj (by simpa using hv)
   cases b <;> simp[k7]at B;obtain⟨rfl,rfl⟩:=B;simp[ji,u]
 | some x=>
  cases hi with
  | none=>
   obtain⟨b,u,rfl⟩:=nj (by simpa using hv)
   cases b <;> simp[k7]at B;obtain⟨rfl,rfl⟩:=B;simp[ji,u]
  | some y=>
   obtain⟨a,b,w,u,rfl⟩:=q_ (by simpa using hv)
   cases a <;> cases b <;> simp[k7]at B;obtain⟨rfl,rfl⟩:=B;simp[ji,w,u]
theorem yA {t:TypeId} {kk:vP} {k:V} (h:Cp E t=some kk) (hk:oK kk k=true):zV E t k=true:=by
 unfold Cp at h;unfold zV
 cases u:E.kindOf t with
 | none=>grind
 | some tk=>
  rw[u]at h;have gen:(E.eqN t).map vP.ints=some kk->∃n cs,E.eqN t=some n/\k=.agg cs/\(cs.length==n&&(gJ cs).isSome)=true:=by
   intro h;simp  at h;obtain⟨n,w,rfl⟩:=h;cases k <;> simp[oK]at hk <;> first|grind|grind
  cases tk with
  | int z=>
   simp  at h;subst h;cases k <;> simp[oK]at hk
   grind
  | str=>
   simp  at h;subst h;cases k <;> simp[oK]at hk;rfl
  | _=>
   obtain⟨n,cs,h1,rfl,A⟩:=gen h;simp_all
theorem jT (hN:∀f s,nm f=some s->N s=f) {op:Op} {k:K} {os:List Operand} {vs:List V} (h:resolve E nm op=some (k,os)) (hv:eP F os=some vs):B1 E N F op vs k:=by
 cases op with
 | move x=>
  obtain⟨rfl,rfl⟩:=h;obtain⟨a,A,rfl⟩:=nj hv;exact⟨rfl,λv w=>by simpa [bn,bG,A]using w⟩
 | assign x=>
  obtain⟨rfl,rfl⟩:=h;obtain⟨a,A,rfl⟩:=nj hv;exact⟨rfl,λv w=>by simpa [bn,bG,A]using w⟩
 | pick c a b=>
  simp[resolve]at h;obtain⟨rfl,rfl⟩:=h;obtain⟨x,y,z,hx,hy,T,rfl⟩:=Gu hv;refine⟨rfl,λv w=>?_⟩
  cases x <;> simp[bn]at w;rename_i t;subst w;cases t <;> simp[bG,hx,hy,T]
 | nilCheck x=>
  simp[resolve]at h;obtain⟨rfl,rfl⟩:=h;obtain⟨a,A,rfl⟩:=nj hv;refine⟨rfl,λv w=>?_⟩
  cases a <;> simp[bn,Js]at w <;> subst w <;> simp[bG,A]
 | binOp ah t x y yt=>
  simp only[resolve,ζa,ζc]at h;obtain⟨rfl,rfl⟩:=h;obtain⟨a,b,A,D,rfl⟩:=q_ hv;exact⟨rfl,λv w=>by simp only[bG,A,D,P_];exact w⟩
 | unOp u t x=>
  cases u with
  | not=>
   simp only[resolve,ζa,ζc]at h;obtain⟨rfl,rfl⟩:=h;obtain⟨a,A,rfl⟩:=nj hv;refine⟨rfl,λv w=>?_⟩
   cases a <;> simp[bn]at w;subst w;simp[bG,A]
  | neg=>
   simp only[resolve,ζa,ζc]at h;obtain⟨rfl,rfl⟩:=h;obtain⟨a,A,rfl⟩:=nj hv;refine⟨rfl,λv w=>?_⟩
   cases a <;> simp[bn]at w;subst w;simp[bG,A]
  | _=>simp[resolve]at h
 | convert s d x=>
  simp only[resolve]at h;split at h
  .rename_i sd td hs hd;split at h
   .rename_i k hk;simp only[ζa,ζc]at h;obtain⟨rfl,rfl⟩:=h;obtain⟨a,A,rfl⟩:=nj hv;refine⟨rfl,λv w=>?_⟩
    cases a <;> simp[bn]at w;subst w;simp[bG,A,hs,hd,hk]
   .rename_i hk;split at h
    .rename_i e he;split at h
     .rename_i hu;simp only[ζa,ζc]at h;obtain⟨rfl,rfl⟩:=h;obtain⟨a,A,rfl⟩:=nj hv;refine⟨rfl,a,rfl,λH ys l h1 I=>?_⟩
      have aa:E.kindOf d=some .str:=by unfold Env.kindOf;rw[hd,Option.map_some,hk]
      refine⟨?_,by simp only[evalConv,he,aa,A,hu,h1,I,ζb,Option.map_some]⟩
      simp only[bG,hs,hd,A];cases a <;> first|rfl|(simp only[dx]at h1;cases h1)
     .simp at h
    .simp at h
   .simp at h
  .simp at h
 | fieldAddr s x f=>
  simp only[resolve]at h;split at h
  .rename_i fs hk;split at h
   .rename_i off t U;split at h
    .rename_i d hd;split at h
     .simp at h
     .rename_i T;simp only[ζa,ζc]at h;obtain⟨rfl,rfl⟩:=h;obtain⟨a,A,rfl⟩:=nj hv;refine⟨rfl,λv w=>?_⟩
      simp only[bG,A,hk,U,hd,if_neg T];simp only[bn,lX]at w;cases a <;> simp at w ⊢ <;> exact w
    .simp at h
   .simp at h
  .simp at h
 | field s x f=>
  simp only[resolve]at h;split at h
  .rename_i fs hk;split at h
   .rename_i off t U;split at h
    .rename_i d hd;simp only[ζa,ζc]at h;obtain⟨rfl,rfl⟩:=h;obtain⟨a,A,rfl⟩:=nj hv;refine⟨rfl,λv w=>?_⟩
     cases a <;> simp only[bn]at w <;> first|(simp only[bG,A,hk,U,hd];exact w)|simp at w
    .simp at h
   .simp at h
  .simp at h
 | indexAddr t x i=>
  simp only[resolve]at h;split at h
  .rename_i e hk;simp only[ζf,ζc]at h;obtain⟨d,hd,rfl,rfl⟩:=h;obtain⟨a,b,A,D,rfl⟩:=q_ hv;refine⟨rfl,λv w=>?_⟩
   cases b <;> simp only[bn]at w <;> first|simp at w;done|skip
   simp only[bG,A,D,hk,hd];unfold lE at w;exact w
  .rename_i len e hk;simp only[ζf,ζc]at h;obtain⟨d,hd,rfl,rfl⟩:=h;obtain⟨a,b,A,D,rfl⟩:=q_ hv;refine⟨rfl,λv w=>?_⟩
   cases b <;> simp only[bn]at w <;> first|simp at w;done|skip
   simp only[bG,A,D,hk,hd];unfold vF at w;exact w
  .simp at h
 | index t x i=>
  simp only[resolve]at h;split at h
  .rename_i hk;simp only[ζa,ζc]at h;obtain⟨rfl,rfl⟩:=h;obtain⟨a,b,A,D,rfl⟩:=q_ hv;refine⟨rfl,λv w=>?_⟩
   cases a <;> cases b <;> simp only[bn]at w <;> first|simp at w;done|skip
   simp only[bG,A,D,hk];exact w
  .rename_i len e hk;simp only[ζf,ζc]at h;obtain⟨d,hd,rfl,rfl⟩:=h;obtain⟨a,b,A,D,rfl⟩:=q_ hv;refine⟨rfl,λv w=>?_⟩
   cases a <;> cases b <;> simp only[bn]at w <;> first|simp at w;done|skip
   simp only[bG,A,D,hk,hd];exact w
  .simp at h
 | slice t x lo hi mx=>
  simp only[resolve]at h;split at h
  .rename_i hk;simp only[ζa,ζc]at h;obtain⟨rfl,rfl⟩:=h;obtain⟨a,bs,A,D,rfl⟩:=gY hv;refine⟨rfl,λv w=>?_⟩
   cases a <;> simp only[bn]at w <;> first|simp at w;done|skip
   obtain⟨⟨l,h⟩,W,w⟩:=ζg.1 w;obtain⟨h1,I⟩:=F9 D W;have hm:ji F none=some none:=rfl;simp only[bG,A,hk,h1,I,hm];exact w
  .rename_i e hk;simp only[ζf,ζc]at h;obtain⟨d,hd,rfl,rfl⟩:=h;obtain⟨a,bs,A,D,rfl⟩:=gY hv;refine⟨rfl,λv w=>?_⟩
   simp only[bn]at w;obtain⟨⟨l,h⟩,W,w⟩:=ζg.1 w;obtain⟨h1,I⟩:=F9 D W;have hm:ji F none=some none:=rfl;simp only[bG,A,hk,h1,I,hm,hd];cases a <;> exact w
  .rename_i e m hk;split at h
   .rename_i d hh hd;simp only[ζa,ζc]at h;obtain⟨rfl,rfl⟩:=h;obtain⟨a,b,c,A,D,hc,rfl⟩:=Gu hv;refine⟨rfl,λv w=>?_⟩
    cases b <;> cases c <;> simp only[bn]at w <;> first|simp at w;done|skip
    rename_i k1 n1 k2 n2;split at w
    .rename_i S;simp only[ζh,beq_iff_eq]at S;obtain⟨⟨h1,rfl⟩,rfl⟩:=S;have m1:ji F none=some none:=rfl;have m2:ji F (some hh)=some (some 0):=by simp[ji,D]
     have m3:ji F (some m)=some (some 0):=by simp[ji,hc]
     simp only[bG,A,hk,m1,m2,m3,hd];cases a <;> simp[JN]at h1 <;> exact w
    .simp at w
   .simp at h
  .simp at h
 | build t ps=>
  simp only[resolve]at h;split at h
  .rename_i d hd;split at h
   .rename_i fs hk;split at h
    .rename_i pl ab;simp only[ζf,ζc]at h;obtain⟨q,hq,rfl,rfl⟩:=h;refine⟨rfl,λv w=>?_⟩
     simp only[bn,ζf]at w;obtain⟨cs,X,rfl⟩:=w;obtain⟨ws,w1,w2⟩:=EL (λi=>pl[i]?) _ q vs _ cs hq hv X
     simp only[bG,hd,w1,hk,ab,w2,Option.map_some]
    .simp at h
   .rename_i len e hk;simp only[ζf,ζc]at h;obtain⟨de,ad,rfl,rfl⟩:=h;refine⟨rfl,λv w=>?_⟩
    simp only[bn,ζf]at w;obtain⟨cs,X,rfl⟩:=w;obtain⟨ws,w1,w2⟩:=EL (λi=>some (i*de.size,de.size)) ps.toList (ps.toList.map λq=>(q.1*de.size,de.size)) vs _ cs (by
     generalize ps.toList=l
     induction l with
     | nil=>rfl
     | cons x l ih=>simp[List.mapM_cons,ih]) hv X
    simp only[bG,hd,w1,hk,ad,w2,Option.map_some]
   .simp at h
  .simp at h
 | makeFunc f a b=>
  cases f with
  | func f=>
   simp only[resolve,ζf,ζc]at h;obtain⟨s,hs,rfl,rfl⟩:=h;obtain⟨az,bs,A,D,rfl⟩:=Jn hv;refine⟨rfl,λv w=>?_⟩
   simp only[bn,ζa]at w;subst w;simp only[bG,A,D,hN f s hs];rw[<-JO A];simp
  | _=>simp[resolve]at h
 | extract x i=>
  simp only[resolve,ζa,ζc]at h;obtain⟨rfl,rfl⟩:=h;obtain⟨a,A,rfl⟩:=nj hv;refine⟨rfl,λv w=>?_⟩
  cases a <;> simp only[bn]at w <;> first|simp at w;done|skip
  simp only[bG,A];exact w
 | load t x=>
  simp only[resolve,ζf,ζc]at h;obtain⟨d,hd,rfl,rfl⟩:=h;obtain⟨a,A,rfl⟩:=nj hv;exact⟨rfl,λH v w=>by simp only[dG,hd,A];exact w⟩
 | lookup t m k ok=>
  simp only[resolve]at h;split at h
  .rename_i kt et hk;split at h
   .rename_i d kk hd J;simp only[ζf,ζc]at h;obtain⟨z,T,rfl,rfl⟩:=h;obtain⟨a,b,A,D,rfl⟩:=q_ hv;refine⟨rfl,λH v w=>?_⟩
    simp only[ga]at w;split at w
    .rename_i Z L;split at w
     .rename_i O;simp only[dG,hk,A,D,hd,L,yA J O,if_true,T];split at w
      .rename_i U;rw[U];exact w
      .rename_i U;rw[U];exact w
      .simp at w
     .simp at w
    .simp at w
   .simp at h
  .simp at h
 | alloc t=>
  simp only[resolve,ζf,ζc]at h;obtain⟨d,hd,rfl,rfl⟩:=h;have:=oT hv;subst this;exact⟨rfl,λx w=>by simpa [lF,ey,hd]using w⟩
 | box t x=>
  simp only[resolve,ζa,ζc]at h;obtain⟨rfl,rfl⟩:=h;obtain⟨a,A,rfl⟩:=nj hv;exact⟨rfl,λx w=>by simp only[ey,A];exact w⟩
 | makeSlice t l c=>
  simp only[resolve]at h;split at h
  .rename_i e hk;split at h
   .rename_i d hd;split at h
    .rename_i Q;simp only[ζa,ζc]at h;obtain⟨rfl,rfl⟩:=h;obtain⟨a,b,A,D,rfl⟩:=q_ hv;refine⟨rfl,λx w=>?_⟩
     cases a <;> cases b <;> simp only[lF]at w <;> first|simp at w;done|skip
     rename_i k1 n1 k2 n2;split at w
     .rename_i hc;simp only[ey,hk,A,D,hd];rw[if_pos ⟨hc.1,hc.2.1,hc.2.2.1,hc.2.2.2.1,hc.2.2.2.2,Q⟩];exact w
     .simp at w
    .simp at h
   .simp at h
  .simp at h
 | buildSlice t len ps=>
  simp only[resolve]at h;split at h
  .rename_i e hk;split at h
   .rename_i d hd;split at h
    .rename_i Q;simp only[ζa,ζc]at h;obtain⟨rfl,rfl⟩:=h;refine⟨rfl,λx w=>?_⟩
     have T:=Mt _ _ hv;simp only[lF]at w;split at w
     .simp only[ey,hk,T,hd,if_pos Q];exact w
     .simp at w
    .simp at h
   .simp at h
  .simp at h
 | makeMap t r=>
  cases r with
  | none=>
   simp only[resolve,ζa,ζc]at h;obtain⟨rfl,rfl⟩:=h;have:=oT hv;subst this;exact⟨rfl,λx w=>by simpa [lF,ey]using w⟩
  | some r=>simp[resolve]at h
 | store t p x=>
  simp only[resolve,ζf,ζc]at h;obtain⟨d,hd,rfl,rfl⟩:=h;obtain⟨a,b,A,D,rfl⟩:=q_ hv;refine⟨rfl,λH v w=>?_⟩
  cases a <;> simp only[eM]at w <;> first|simp at w;done|skip
  simp only[cR,hd,A,D];exact w
 | mapUpdate t m k x=>
  simp only[resolve]at h;split at h
  .rename_i kt et hk;simp only[ζf,ζc]at h;obtain⟨kk,J,rfl,rfl⟩:=h;obtain⟨a,b,c,A,D,hc,rfl⟩:=Gu hv;refine⟨rfl,λH v w=>?_⟩
   cases a <;> simp only[eM]at w <;> first|simp at w;done|skip
   simp only[cR,hk,A,D,hc];split at w
   .rename_i Z L;split at w
    .rename_i O;rw[L];simp only[yA J O,if_true];exact w
    .simp at w
   .simp at w
  .simp at h
 | insert t m k x=>
  simp only[resolve]at h;split at h
  .rename_i kt et hk;simp only[ζf,ζc]at h;obtain⟨kk,J,rfl,rfl⟩:=h;obtain⟨a,b,c,A,D,hc,rfl⟩:=Gu hv;refine⟨rfl,λH v w=>?_⟩
   cases a <;> simp only[eM]at w <;> first|simp at w;done|skip
   simp only[cR,hk,A,D,hc];split at w
   .rename_i Z L;split at w
    .rename_i O;rw[L];simp only[yA J O,if_true];exact w
    .simp at w
   .simp at w
  .simp at h
 | call c=>
  obtain⟨callee,args,ai⟩:=c
  cases callee with
  | value f=>
   simp only[resolve,ζa,ζc]at h;obtain⟨rfl,rfl⟩:=h;obtain⟨a,az,A,has,rfl⟩:=gY hv;refine⟨rfl,a,az,rfl,?_⟩;simp only[ja,A,has];cases a <;> rfl
  | builtin b=>
   cases b with
   | append=>
    simp only[resolve]at h;split at h
    .rename_i t t' s x G B;split at h
     .rename_i e e' hk Y;split at h
      .rename_i d hd;split at h
       .rename_i Q;simp only[ζa,ζc]at h;obtain⟨rfl,rfl⟩:=h;obtain⟨a,b,A,D,rfl⟩:=q_ hv;refine⟨rfl,λH v w=>?_⟩
        have C:eP F args.toList=some [a,b]:=by rw[B];exact hv
        simp only[cR,G,C,hk,Y,hd];simp only[eM]at w;split at w
        .rename_i h1 I;rw[h1,I];exact w
        .rename_i xs ys ae h1 I;rw[h1,I];split at w
         .rename_i af;simp only[if_pos (show xs.length+ys.length<=2147483648/\d.bytes<=4096/\0<d.bytes from⟨af,Q⟩)]
          cases ys with
          | nil=>exact absurd rfl ae
          | cons y ys=>exact w
         .simp at w
        .simp at w
       .simp at h
      .simp at h
     .rename_i e kk hk Y;simp only[ζf,ζc]at h;obtain⟨d,hd,rfl,rfl⟩:=h;obtain⟨a,b,A,D,rfl⟩:=q_ hv;refine⟨rfl,λH v w=>?_⟩
      have C:eP F args.toList=some [a,b]:=by rw[B];exact hv
      simp only[cR,G,C,hk,Y,hd];exact w
     .simp at h
    .simp at h
   | cap=>
    simp only[resolve]at h;split at h
    .rename_i t x G B;split at h
     .rename_i e hk;simp only[ζa,ζc]at h;obtain⟨rfl,rfl⟩:=h;obtain⟨a,A,rfl⟩:=nj hv;have C:eP F args.toList=some [a]:=by rw[B];exact hv
      refine⟨rfl,λx w=>?_⟩
      simp only[bG,G,C,hk];simp only[bn]at w;cases a <;> simp only[Gs]at w <;> first|(simp at w;done)|exact w
     .simp at h
    .simp at h
   | clear=>
    simp only[resolve]at h;split at h
    .rename_i t x G B;split at h
     .rename_i e hk;simp only[ζf,ζc]at h;obtain⟨d,hd,rfl,rfl⟩:=h;obtain⟨a,A,rfl⟩:=nj hv;have C:eP F args.toList=some [a]:=by rw[B];exact hv
      refine⟨rfl,λH v w=>?_⟩
      simp only[cR,G,C,hk,hd];exact w
     .simp at h
    .simp at h
   | len=>
    simp only[resolve]at h;split at h
    .rename_i t x G B;split at h
     .rename_i hk;simp only[ζa,ζc]at h;obtain⟨rfl,rfl⟩:=h;obtain⟨a,A,rfl⟩:=nj hv;have C:eP F args.toList=some [a]:=by rw[B];exact hv
      refine⟨rfl,λv w=>?_⟩
      cases a <;> simp only[bn]at w <;> first|simp at w;done|skip
      simp only[bG,C,G,hk];exact w
     .rename_i e hk;simp only[ζa,ζc]at h;obtain⟨rfl,rfl⟩:=h;obtain⟨a,A,rfl⟩:=nj hv;have C:eP F args.toList=some [a]:=by rw[B];exact hv
      refine⟨rfl,λv w=>?_⟩
      simp only[bG,C,G,hk];simp only[bn,mT]at w;cases a <;> simp at w ⊢ <;> exact w
     .simp at h
    .simp at h
   | max=>
    simp only[resolve]at h;split at h
    .rename_i x y B;simp only[ζa,ζc]at h;obtain⟨rfl,rfl⟩:=h;obtain⟨a,b,A,D,rfl⟩:=q_ hv;have C:eP F args.toList=some [a,b]:=by rw[B];exact hv
     refine⟨rfl,λv w=>?_⟩
     cases a <;> cases b <;> simp only[bn]at w <;> first|simp at w;done|skip
     simp only[bG,C];exact w
    .rename_i x y z t B;simp only[ζa,ζc]at h;obtain⟨rfl,rfl⟩:=h;obtain⟨a,aj,A,I,rfl⟩:=gY hv;obtain⟨b,c,d,D,hc,hd,rfl⟩:=Gu I;have C:eP F args.toList=some [a,b,c,d]:=by rw[B];exact hv
     refine⟨rfl,λv w=>?_⟩
     cases a <;> cases b <;> simp only[bn]at w <;> first|simp at w;done|skip
     cases c <;> cases d <;> simp only[bn]at w <;> first|simp at w;done|skip
     simp only[bG,C];exact w
    .simp at h
   | min=>
    simp only[resolve]at h;split at h
    .rename_i x y B;simp only[ζa,ζc]at h;obtain⟨rfl,rfl⟩:=h;obtain⟨a,b,A,D,rfl⟩:=q_ hv;have C:eP F args.toList=some [a,b]:=by rw[B];exact hv
     refine⟨rfl,λv w=>?_⟩
     cases a <;> cases b <;> simp only[bn]at w <;> first|simp at w;done|skip
     simp only[bG,C];exact w
    .simp at h
   | _=>simp[resolve]at h
  | _=>simp[resolve]at h
 | panic x=>
  simp only[resolve,ζa,ζc]at h;obtain⟨rfl,rfl⟩:=h;have:=oT hv;subst this;exact⟨rfl,λx w=>by simp[bn]at w⟩
 | makeInterface t x=>
  simp only[resolve,ζa,ζc]at h;obtain⟨rfl,rfl⟩:=h;have:=oT hv;subst this;exact⟨rfl,λx w=>by simp[bn]at w⟩
 | _=>simp[resolve]at h
end
end Go.VE
namespace Go.VE
variable [bN]
structure zD (c c':dh):Prop where
 lv:c.lv<=c'.lv
 go:∀x a H r,c x a H=some r->c' x a H=some r
section
variable {E:Env} {c c':dh} {n:Nat} {ops:List Oper} {F F':Frame} {H H':bf}
theorem F8 {f:FuncId} {args:List V} {y:V} (hi:bU c f args H=some y):∃az,borrows c.lv H args=some az:=by
 unfold bU at hi;split at hi
 .rename_i az h;exact⟨az,h⟩
 .cases hi
theorem Cq (B:c.lv<=c'.lv) {f:FuncId} (h:∀a H r,c (.fn f) a H=some r->c' (.fn f) a H=some r) {args:List V} {y:V} (hi:bU c f args H=some y):bU c' f args H=some y:=by
 unfold bU at hi ⊢;split at hi
 .rename_i az u;rw[rA B u];split at hi
  .rename_i hc;simp only;rw[h _ _ _ hc];split at hi
   .rename_i w;simp only;rw[qE B w];exact hi
   .cases hi
  .simp at hi
 .simp at hi
theorem mG (h:zD c c') {f:FuncId} {args:List V} {y:V} (hi:bU c f args H=some y):bU c' f args H=some y:=Cq h.lv (λ_ _ _=>h.go _ _ _ _) hi
theorem lI (B:c.lv<=c'.lv) {f:FuncId} {args:List V} {y:V} (hi:bU c f args H=some y):cI (bW c'.lv H) args=cI (bW c.lv H) args:=by
 obtain⟨az,h⟩:=F8 hi;exact xU B h
theorem Cd (B:c.lv<=c'.lv) {f:FuncId} (h:∀a H r,c (.fn f) a H=some r->c' (.fn f) a H=some r) {args:List V} {r:V×bf} (hi:kU c f args H=some r):kU c' f args H=some r:=by
 unfold kU at hi ⊢;split at hi
 .rename_i az u;rw[rA B u];split at hi
  .rename_i hc;simp only;rw[h _ _ _ hc];exact hi
  .simp at hi
 .simp at hi
theorem EK (h:zD c c') {f:FuncId} {args:List V} {r:V×bf} (hi:kU c f args H=some r):kU c' f args H=some r:=Cd h.lv (λ_ _ _=>h.go _ _ _ _) hi
theorem yV (h:zD c c') {f:FuncId} {args:List V} {r:V×bf} (hi:fc E c f args H=some r):fc E c' f args H=some r:=by
 unfold fc at hi ⊢;split
 .rename_i u;rw[if_pos u]at hi;exact EK h hi
 .rename_i u;rw[if_neg u]at hi;exact h.go _ _ _ _ hi
theorem yZ (T:c.lv<=c'.lv) {f:FuncId} {args:List V} {y G:V} {b:Nat} (h1:bU c f args (H.take b)=none) (B:bU c f args H=some y) (D:bU c' f args (H.take b)=some G):False:=by
 unfold bU at h1 B D;split at D
 .rename_i az has;split at B
  .rename_i C u;have e:=mY (λx y z k1 I=>HF (H2:=H.take b) c.lv c'.lv x y z k1 I λid w=>by
    rw[List.getElem?_take]at w ⊢;split at w
    .rename_i A;rw[if_pos A]
    .cases w) u has
   have J:borrows c.lv H args=some az:=lQ (AJ c.lv) e;rw[J]at u;cases u;rw[show borrows c.lv (H.take b) args=some az from e]at h1;simp only at h1;rw[h1]at B;simp at B
  .simp at B
 .simp at D
theorem LN (h:zD c c') {place:Option (Nat×Nat)} {op:Op} {r:V×bf} (hi:c6 E c ops place F H op=some r):c6 E c' ops place F H op=some r:=by
 unfold c6 at hi ⊢;split at hi
 .exact hi
 .exact hi
 .exact hi
 .exact hi
 .split at hi
  .rename_i f args A;split at hi
   .rename_i hk;rw[if_pos hk];split at hi
    .exact yV h hi
    .skip
     split at hi
     .rename_i z;rw[if_pos z];exact yV h hi
     .simp at hi
   .rename_i hk;rw[if_neg hk];split at hi
    .skip
     split at hi
     .rename_i y u;rw[mG h u,lI h.lv u];exact hi
     .simp at hi
    .rename_i b i
     skip
     split at hi
     .rename_i y u;rw[mG h u,lI h.lv u];exact hi
     .rename_i w;split at hi
      .rename_i z;split at hi
       .rename_i y u
        cases B:bU c' f args (List.take b H)with
        | some C=>exact(yZ h.lv w u B).elim
        | none=>simp only[if_pos z,mG h u,lI h.lv u];exact hi
       .simp at hi
      .simp at hi
  .rename_i id args A;split at hi
   .exact h.go _ _ _ _ hi
   .skip
    split at hi
    .rename_i z;rw[if_pos z];exact h.go _ _ _ _ hi
    .simp at hi
  .simp at hi
theorem BX (h:zD c c') {place:Option (Nat×Nat)} {o:Oper} {r:Frame×bf} (hi:fM E c n ops place o F H=some r):fM E c' n ops place o F H=some r:=by
 unfold fM at hi ⊢;split at hi
 .rename_i u;rw[if_pos u];split at hi
  .rename_i v H1 hd;rw[LN h hd];exact hi
  .simp at hi
 .rename_i u;rw[if_neg u];exact hi
theorem Ao (h:zD c c') {r:Frame×bf}:∀(l:List Oper) {F:Frame} {H:bf},kZ E c n ops l F H=some r->kZ E c' n ops l F H=some r
 | [],_,_,hi=>hi
 | o::l,F,H,hi=>by
  simp only[kZ]at hi ⊢;split at hi
  .rename_i F1 H1 B;rw[BX h B];exact Ao h l hi
  .simp at hi
theorem Aw (h:zD c c') {base:Nat} {r:Frame×bf}:∀(l:List Nat) {F:Frame} {H:bf},jf E c n ops base l F H=some r->jf E c' n ops base l F H=some r
 | [],_,_,hi=>hi
 | i::l,F,H,hi=>by
  simp only[jf]at hi ⊢;split at hi
  .split at hi
   .rename_i F1 H1 B;rw[BX h B];exact Aw h l hi
   .simp at hi
  .simp at hi
theorem CN (h:zD c c') {B:Bool} {r:Frame×bf} (hi:iU E c n ops B F H=some r):iU E c' n ops B F H=some r:=by
 unfold iU at hi ⊢;split
 .rename_i hd;rw[if_pos hd]at hi;split at hi
  .rename_i u;rw[if_pos u];exact Aw h _ hi
  .simp at hi
 .rename_i hd;rw[if_neg hd]at hi;exact Ao h _ hi
theorem xo {s J:Frame->bf->Option (Out×Frame×bf)} (h:∀F H r,s F H=some r->J F H=some r):∀(k B:Nat),k<=B->∀{F H r},jO s k F H=some r->jO J B F H=some r
 | 0,_,_,F,H,r,hi=>by simp[jO]at hi
 | k+1,0,hk,F,H,r,hi=>by omega
 | k+1,B+1,hk,F,H,r,hi=>by
  simp only[jO]at hi ⊢;split at hi
  .rename_i F1 H1 T;rw[h _ _ _ T];exact xo h k B (by omega) hi
  .rename_i D;rw[h _ _ _ hi];split
   .rename_i F1 H1 G;cases G;exact absurd hi (D _ _)
   .rfl
theorem yY (h:zD c c') {lf B:Nat} (J:lf<=B) (ro:Bool) (nt:Nat):∀(code:Code) {F:Frame} {H:bf} {r:Out×Frame×bf},exec E c lf ro nt code F H=some r->exec E c' B ro nt code F H=some r:=by
 intro code
 induction code with
 | skip=>intro F H r hi;exact hi
 | label l=>intro F H r hi;exact hi
 | region id ops I=>
  intro F H r hi;simp only[exec,ζf]at hi ⊢;obtain⟨x,L,rfl⟩:=hi;exact⟨x,CN h L,rfl⟩
 | seq a b u z=>
  intro F H r hi;simp only[exec]at hi ⊢;split at hi
  .rename_i F1 H1 h1;rw[u h1];exact z hi
  .rename_i A;rw[u hi];split
   .rename_i C;cases C;exact absurd hi (A _ _)
   .rfl
 | cond x a b u z=>
  intro F H r hi;simp only[exec]at hi ⊢;split at hi
  .rename_i t S;split at hi
   .rename_i D;subst D;simp only[if_true];exact u hi
   .rename_i D;rw[if_neg D];exact z hi
  .simp at hi
 | block id a G=>
  intro F H r hi;simp only[exec]at hi ⊢;split at hi
  .rename_i O F1 H1 h1;rw[G h1];exact hi
  .rename_i A;rw[G hi];split
   .rename_i C;cases C;exact absurd hi (A _ _ _)
   .rfl
 | loop a G=>
  intro F H r hi;simp only[exec]at hi ⊢;exact xo (λF H r hr=>G hr) lf B J hi
 | rangeFunc g T U W _ _=>
  intro F H r hi;simp only[exec]at hi ⊢;split at hi
  .split at hi
   .rename_i Q H1 hc;rw[h.go _ _ _ _ hc];exact hi
   .simp at hi
  .simp at hi
 | exit id=>intro F H r hi;exact hi
 | ret=>intro F H r hi;exact hi
 | scope a _=>intro F H r hi;simp[exec]at hi
 | goto l=>intro F H r hi;simp[exec]at hi
 | refuse w=>intro F H r hi;simp[exec]at hi
theorem GR (E:Env):∀n,zD (run E n) (run E (n+1)):=by
 intro n
 induction n with
 | zero=>exact⟨Nat.le_succ _,λx a H r h=>(by cases h)⟩
 | succ n u=>
  refine⟨Nat.le_succ _,λx a H r h=>?_⟩
  rw[Ez]at h ⊢
  cases x with
  | fn f=>
   rw[i_]at h ⊢;split at h
   .rename_i T L;split at h
    .rename_i A;rw[if_pos A];split at h
     .simp at h
     .rename_i o F1 H1 B O;rw[yY u (Nat.le_succ n) _ _ _ O]
      cases o with
      | exit id=>exact(B id rfl).elim
      | norm=>exact h
      | ret=>exact h
     .simp at h
    .simp at h
   .split at h
    .rename_i C;rw[if_pos C];exact B7 u.lv (λg args y _ Q=>mG u Q) h
    .rename_i C;rw[if_neg C];exact h
  | yld id=>
   rw[i_]at h ⊢;split at h
   .rename_i rec J;split at h
    .rename_i S;split at h
     .rename_i w;split at h
      .rename_i U H2 D;split at h
       .rename_i r2 G;split at h
        .rename_i z;split at h
         .rename_i o W X I;simp only[if_pos w,yY u (Nat.le_succ n) _ _ _ D,G,z,yY u (Nat.le_succ n) _ _ _ I];exact h
         .simp at h
        .simp at h
       .simp at h
      .simp at h
     .simp at h
    .simp at h
   .simp at h
theorem nI (E:Env) {n m:Nat} (h:n<=m):zD (run E n) (run E m):=by
 induction h with
 | refl=>exact⟨Nat.le_refl _,λ_ _ _ _ h=>h⟩
 | step _ u=>exact⟨Nat.le_trans u.lv (GR E _).lv,λx a H r h=>(GR E _).go x a H r (u.go x a H r h)⟩
theorem mX (E:Env):∀n,(run E n).lv=n
 | 0=>rfl
 | _+1=>rfl
end
end Go.VE
namespace Go.VE
variable [bN]
def Jd (P:Program) (f:FuncId):Option FI:=(P.funcs[f]?).bind λfn=>fn.body.map λb=>⟨fn.ntmps,fn.results.toList,b⟩
def Aj (P:Program):Bool:=P.funcs.toList.all λfn => !(fn.name == "runtime.NumGoroutine")
theorem Rz {P:Program} (h:Aj P=true) {f:FuncId} {fi:FI} (B:Jd P f=some fi):∃fn,P.funcs[f]? = some fn/\fn.body=some fi.body/\fn.ntmps=fi.ntmps/\fn.results.toList=fi.results/\(fn.name == "runtime.NumGoroutine")=false:=by
 unfold Jd at B;obtain⟨fn,h1,w⟩:=ζg.1 B;obtain⟨b,z,rfl⟩:=ζf.1 w;refine⟨fn,h1,z,rfl,rfl,?_⟩;unfold Aj at h;rw[List.all_eq_true]at h;have A:=h fn (by
  obtain⟨u,rfl⟩:=Array.getElem?_eq_some_iff.1 h1;exact Array.mem_toList_iff.2 (Array.getElem_mem u))
 simpa using A
def BL (P:Program) (shut keep own:List Nat) (two:List (Nat×Nat)) (srt:FuncId->Bool) (known:FuncId->List V->Option V):Env where
 tt:=uN P
 ft f:=if shut.contains f then none else Jd P f
 keep:=keep.contains
 own:=own.contains
 eqN t:=lk two t
 sort:=srt
 known:=known
theorem FC {P:Program} {shut keep own:List Nat} {two:List (Nat×Nat)} {srt:FuncId->Bool} {known:FuncId->List V->Option V} (h:Aj P=true) (B:∀p∈two,uW P p.1 p.2):dX P (BL P shut keep own two srt known) where
 tt t d h:=h
 ft f w u:=by
  change (if shut.contains f then none else Jd P f)=some w at u;split at u
  .cases u
  .exact Rz h u
 eqN t n z:=B (t,n) (Lr z)
end Go.VE
namespace Go.VE
variable [bN]
structure VX (w:World) (v:Value) (l:List Int):Prop where
 at_:∃a cap,v=.slice a l.length cap/\(a=none->l=[])/\∀ad,a=some ad->l=[]\/∃c el fr,ad.spot=none/\w.heap[ad.block]? = some (.cells c el fr)/\ad.off+l.length<=c.size/\(c.toList.drop ad.off).take l.length=l.map (Value.int .i64)
section
variable {P:Program} {I:b9} {μ:Mu} {H:bf} {w:World} {n:Nat}
variable {f A S e:Nat} {fn:Func} {bytes i1 i2 i3 i4 t1 t2 t6 t7:Nat} {p1 p2 p3 p4 p5 p6 p7:String} {e1 e2 e3 e4 e5 e6 e7:Array Edge}
end
end Go.VE
namespace Go.VE
variable [bN]
variable {P:Program}
theorem FO (a:List Int) (j:Nat):(ic a)[j]? = (a[j]?).map (Value.int .i64):=by simp[ic]
theorem DD {i:TypeId} {a b:List Int} {n:Nat} (D:a.length=n) (G:b.length=n) (hi:uN P i=some ⟨1,8,[.int .i64 0],.int .i64⟩) (B:P.underlying i=some (.int .i64)) (d:Nat) (w:World) :
 ∀(m k:Nat),k+m=n->(Op.eqItems (d+1) i 1 (ic a) (ic b) (List.range' k m)).run P w=.ok (a.drop k==b.drop k) w
 | 0,k,h=>by
  have h1:a.drop k=[]:=List.drop_eq_nil_of_le (by omega)
  have I:b.drop k=[]:=List.drop_eq_nil_of_le (by omega)
  simp[Op.eqItems,h1,I]
 | m+1,k,h=>by
  have u:k<a.length:=by omega
  have z:k<b.length:=by omega
  have pa:(part i (ic a) (k*1)).run P w=.ok (.int .i64 a[k]) w:=qx hi (by rw[FO,Nat.mul_one];simp[u])
  have J:(part i (ic b) (k*1)).run P w=.ok (.int .i64 b[k]) w:=qx hi (by rw[FO,Nat.mul_one];simp[z])
  have q:(Op.equalIn (d+1) i (.int .i64 a[k]) (.int .i64 b[k])).run P w=.ok (a[k]==b[k]) w:=As d _ _ B;have L:=DD D G hi B d w m (k+1) (by omega)
  have A:=List.drop_eq_getElem_cons u;have C:=List.drop_eq_getElem_cons z;simp only[List.range'_succ,Op.eqItems,Sem.run_bind,pa,J,q,Result.andThen_ok]
  by_cases e:a[k]=b[k]
  .rw[A,C,List.cons_beq_cons,e];simp only[beq_self_eq_true,Bool.not_true,Bool.true_and,if_false,Bool.false_eq_true];exact L
  .have:(a[k]==b[k])=false:=by simpa using e
   rw[A,C,List.cons_beq_cons,this];simp only[Bool.not_false,if_true,Bool.false_and,Sem.run_pure]
theorem Gx {i:TypeId} {a:List Int} {n:Nat} (e:Bool) (G:a.length=n) (hi:uN P i=some ⟨1,8,[.int .i64 0],.int .i64⟩) (B:P.underlying i=some (.int .i64)) (d:Nat) (w:World) :
 ∀(m k:Nat),k+m=n->(forIn (List.range' k m) PUnit.unit (λj (_:PUnit)=>do
  let s <-sizeOf i
  let v <-part i (ic a) (j*s)
  Instr.checkKey e (d+1) i v
  pure (ForInStep.yield PUnit.unit)):Sem PUnit).run P w=.ok PUnit.unit w
 | 0,k,h=>by simp
 | m+1,k,h=>by
  have D:k<a.length:=by omega
  have pa:(part i (ic a) (k*1)).run P w=.ok (.int .i64 a[k]) w:=qx hi (by rw[FO,Nat.mul_one];simp[D])
  have z:(sizeOf i).run P w=.ok 1 w:=(oL.I9 hi).jE;have q:(Instr.checkKey e (d+1) i (.int .i64 a[k])).run P w=.ok () w:=zI d e _ B;have u:=Gx e G hi B d w m (k+1) (by omega)
  simp only[List.range'_succ,List.forIn_cons,Sem.run_bind,z,pa,q,Result.andThen_ok,Sem.run_pure]at u ⊢;exact u
theorem uW.arr {t i:TypeId} {n:Nat} (hu:P.underlying t=some (.array n i)) (hi:uN P i=some ⟨1,8,[.int .i64 0],.int .i64⟩) (G:P.underlying i=some (.int .i64)) (T:P.eqGuardType P.depth t=false):uW P t n:=by
 obtain⟨O,z,A,L,_⟩:=(oL.I9 hi).info;have B:P.cellsOf i=1:=by unfold Program.cellsOf;simp[A,L]
 have C:∀(w:World) (a b:List Int),a.length=n->b.length=n->(Op.equal t (.agg (ic a)) (.agg (ic b))).run P w=.ok (a==b) w:=by
  intro w a b D I;show (Op.equalIn (9999+1) t _ _).run P w=_;rw[run_equalIn_array w 9999 _ _ hu A,B,List.range_eq_range'];simpa using DD D I hi G 9998 w n 0 (by omega)
 have J:∀(op:BinOp) (p q:Operand) (w:World) (u v:Array Value),(eqGuard op t p q (.agg u) (.agg v)).run P w=.ok () w:=by
  intro op p q w u v;unfold eqGuard;cases op <;> simp[Sem.run_bind,run_program,Result.andThen,T]
 refine⟨?_,?_,C,?_,⟨_,hu,.inl ⟨_,_,rfl⟩⟩⟩
 .intro w p q a b D I;rw[Sem.run_bind,J,Result.andThen_ok];show (do pure (Value.bool (<-Op.equal t (.agg (ic a)) (.agg (ic b)))):Sem Value).run P w=_
  rw[Sem.run_bind,C _ _ _ D I];rfl
 .intro w p q a b D I;rw[Sem.run_bind,J,Result.andThen_ok];show (do pure (Value.bool (!(<-Op.equal t (.agg (ic a)) (.agg (ic b))))):Sem Value).run P w=_
  rw[Sem.run_bind,C _ _ _ D I];rfl
 .intro w e a D;show (Instr.checkKey e (9999+1) t _).run P w=_;unfold Instr.checkKey;simp only[Sem.run_bind,dA hu,Result.andThen_ok];have:=Gx e D hi G 9998 w n 0 (by omega)
  simp only[Std.Legacy.Range.forIn_eq_forIn_range',Std.Legacy.Range.size,Nat.sub_zero,Nat.add_one_sub_one,Nat.div_one];rw[show (9998+1:Nat)=9999 from rfl]at this;rw[this];rfl
end Go.VE
namespace Go.VE
variable [bN]
structure CR (E:Env) (c c':dh):Prop where
 lv:c.lv<=c'.lv
 MG:∀f args H y,E.keep f=false->bU c f args H=some y->bU c' f args H=some y
 dir:∀f args H r,E.keep f=true->c (.fn f) args H=some r->c' (.fn f) args H=some r
 yld:∀id args H r,c (.yld id) args H=some r->c' (.yld id) args H=some r
 rng:∀f args H r,H≠[]->c (.fn f) args H=some r->c' (.fn f) args H=some r
section
variable {E:Env} {c c':dh} {n:Nat} {ops:List Oper} {F F':Frame} {H H':bf}
theorem Hi (h:CR E c c') {f:FuncId} {args:List V} {r:V×bf} (hk:E.keep f=true) (hi:kU c f args H=some r):kU c' f args H=some r:=Cd h.lv (λ_ _ _=>h.dir _ _ _ _ hk) hi
theorem Aq (h:CR E c c') {f:FuncId} {args:List V} {r:V×bf} (hk:E.keep f=true) (hi:fc E c f args H=some r):fc E c' f args H=some r:=by
 unfold fc at hi ⊢;split
 .rename_i u;rw[if_pos u]at hi;exact Hi h hk hi
 .rename_i u;rw[if_neg u]at hi;exact h.dir _ _ _ _ hk hi
theorem Ay {place:Option (Nat×Nat)} {f:FuncId} (h:jX E ops place f=true):E.keep f=true:=by
 unfold jX at h;grind
theorem CR.any (h:CR E c c') {f:FuncId} {args:List V} {H:bf} {y:V} (hi:bU c f args H=some y):bU c' f args H=some y:=by
 cases hk:E.keep f with
 | false=>exact h.MG _ _ _ _ hk hi
 | true=>exact Cq h.lv (λ_ _ _=>h.dir _ _ _ _ hk) hi
theorem OQ (h:CR E c c') {place:Option (Nat×Nat)} {op:Op} {r:V×bf} (hi:c6 E c ops place F H op=some r):c6 E c' ops place F H op=some r:=by
 unfold c6 at hi ⊢;split at hi
 .omega
 .omega
 .omega
 .omega
 .split at hi
  .rename_i f args A;split at hi
   .rename_i hk;rw[if_pos hk];split at hi
    .exact Aq h (Ay hk) hi
    .split at hi
     .rename_i z;rw[if_pos z];exact Aq h (Ay hk) hi
     grind
   .rename_i hk;rw[if_neg hk];split at hi
    .split at hi
     .rename_i y u;rw[h.any u,lI h.lv u];exact hi
     grind
    .rename_i b i;split at hi
     .rename_i y u;rw[h.any u,lI h.lv u];exact hi
     .rename_i w;split at hi
      .rename_i z;split at hi
       .rename_i y u
        cases B:bU c' f args (List.take b H)with
        | some C=>exact(yZ h.lv w u B).elim
        | none=>simp only[if_pos z,h.any u,lI h.lv u];exact hi
       grind
      grind
  .split at hi
   .exact h.yld _ _ _ _ hi
   .split at hi
    .rename_i z;rw[if_pos z];exact h.yld _ _ _ _ hi
    grind
  grind
theorem D7 (h:CR E c c') {place:Option (Nat×Nat)} {o:Oper} {r:Frame×bf} (hi:fM E c n ops place o F H=some r):fM E c' n ops place o F H=some r:=by
 unfold fM at hi ⊢;split at hi
 .rename_i u;rw[if_pos u];split at hi
  .rename_i v H1 hd;rw[OQ h hd];omega
  grind
 grind
theorem B_ (h:CR E c c') {r:Frame×bf}:∀(l:List Oper) {F:Frame} {H:bf},kZ E c n ops l F H=some r->kZ E c' n ops l F H=some r
 | [],_,_,hi=>hi
 | o::l,F,H,hi=>by
  simp[kZ]at hi ⊢;split at hi
  .rename_i F1 H1 B;rw[D7 h B];exact B_ h l hi
  grind
theorem Co (h:CR E c c') {base:Nat} {r:Frame×bf}:∀(l:List Nat) {F:Frame} {H:bf},jf E c n ops base l F H=some r->jf E c' n ops base l F H=some r
 | [],_,_,hi=>hi
 | i::l,F,H,hi=>by
  simp[jf]at hi ⊢;split at hi
  .split at hi
   .rename_i F1 H1 B;rw[D7 h B];exact Co h l hi
   grind
  grind
theorem Ef (h:CR E c c') {B:Bool} {r:Frame×bf} (hi:iU E c n ops B F H=some r):iU E c' n ops B F H=some r:=by
 unfold iU at hi ⊢;split
 .rename_i hd;rw[if_pos hd]at hi;split at hi
  .rename_i u;rw[if_pos u];exact Co h _ hi
  grind
 .rename_i hd;rw[if_neg hd]at hi;exact B_ h _ hi
theorem AV (h:CR E c c') {lf B:Nat} (D:lf<=B) (ro:Bool) (nt:Nat):∀(code:Code) {F:Frame} {H:bf} {r:Out×Frame×bf},exec E c lf ro nt code F H=some r->exec E c' B ro nt code F H=some r:=by
 intro code
 induction code with
 | skip=>intro F H r hi;exact hi
 | label l=>intro F H r hi;exact hi
 | region id ops A=>
  intro F H r hi;simp only[exec,ζf]at hi ⊢;obtain⟨x,G,rfl⟩:=hi;exact⟨x,Ef h G,rfl⟩
 | seq a b u z=>
  intro F H r hi;simp[exec]at hi ⊢
  grind
 | cond x a b u z=>
  intro F H r hi;simp[exec]at hi ⊢
  grind
 | block id a C=>
  intro F H r hi;simp[exec]at hi ⊢
  grind
 | loop a C=>
  intro F H r hi;exact xo (λF H r hr=>C hr) lf B D hi
 | rangeFunc g J L O _ _=>
  intro F H r hi;simp[exec]at hi ⊢;split at hi
  .split at hi
   .rename_i I H1 hc;rw[h.rng _ _ _ _ (by simp) hc];omega
   grind
  grind
 | exit id=>intro F H r hi;exact hi
 | ret=>intro F H r hi;exact hi
 | scope a _=>intro F H r hi;simp[exec]at hi
 | goto l=>intro F H r hi;simp[exec]at hi
 | refuse w=>intro F H r hi;simp[exec]at hi
theorem zA (h:CR E c c') {n m:Nat} (B:n<=m) {x:Callee} {a:List V} {r:V×bf} (hi:i_ E c n x a H=some r):i_ E c' m x a H=some r:=by
 cases x with
 | fn f=>
  rw[i_]at hi ⊢;split at hi
  .split at hi
   .rename_i D;split at hi
    .simp_all
    .rename_i o F1 H1 G I;rw[AV h B _ _ _ I]
     grind
    grind
   grind
  .split at hi
   .rename_i J;rw[if_pos J];exact B7 h.lv (λg args y hk L=>h.MG _ _ _ _ hk L) hi
   grind
 | yld id=>
  rw[i_]at hi ⊢;split at hi
  .split at hi
   .split at hi
    .rename_i u;split at hi
     .rename_i O H2 z;split at hi
      .rename_i r2 A;split at hi
       .rename_i w;split at hi
        .rename_i o Q S C;simp only[if_pos u,AV h B _ _ _ z,A,w,AV h B _ _ _ C];omega
        grind
       grind
      grind
     grind
    grind
   grind
  grind
mutual
def V.same:Nat->V->V->Bool
 | 0,_,_=>false
 | _+1,.bool a,.bool b=>a==b
 | _+1,.int k a,.int l b=>decide (k=l)&&decide (a=b)
 | _+1,.str a,.str b=>decide (a.data.toList=b.data.toList)
 | _+1,.bE,.bE=>true
 | _+1,.dm,.dm=>true
 | _+1,.gF,.gF=>true
 | _+1,.fR,.fR=>true
 | _+1,.qJ,.qJ=>true
 | n+1,.agg a,.agg b=>V.p9 n a b
 | n+1,.tup a,.tup b=>V.p9 n a b
 | n+1,.fptr a,.fptr b=>V.p9 n a b
 | n+1,.fsl e a,.fsl B b=>Nat.beq e B&&V.zH n a b
 | n+1,.clo f a b,.clo D a' G=>Nat.beq f D&&V.p9 n a a'&&V.p9 n b G
 | _+1,_,_=>false
def V.p9:Nat->List V->List V->Bool
 | 0,_,_=>false
 | _+1,[],[]=>true
 | n+1,a::r,b::s=>V.same n a b&&V.p9 n r s
 | _+1,_,_=>false
def V.zH:Nat->List (List V)->List (List V)->Bool
 | 0,_,_=>false
 | _+1,[],[]=>true
 | n+1,a::r,b::s=>V.p9 n a b&&V.zH n r s
 | _+1,_,_=>false
end
theorem Q7:∀n,(∀a b,V.same n a b=true->a=b)/\(∀a b,V.p9 n a b=true->a=b)/\(∀a b,V.zH n a b=true->a=b):=by
 intro n
 induction n with
 | zero=>exact⟨λa b h=>by simp[V.same]at h,λa b h=>by simp[V.p9]at h,λa b h=>by simp[V.zH]at h⟩
 | succ n u=>
  obtain⟨i1,i2,i3⟩:=u;refine⟨λa b h=>?_,λa b h=>?_,λa b h=>?_⟩
  .cases a <;> cases b <;> simp only[V.same,ζh,decide_eq_true_eq,Bool.false_eq_true]at h <;> first|rfl|grind|skip
   all_goals first
    | grind
    | grind
    | grind
    | (rw[Nat.eq_of_beq_eq_true h.1,i3 _ _ h.2])
    | (rw[Nat.eq_of_beq_eq_true h.1.1,i2 _ _ h.1.2,i2 _ _ h.2])
    | (congr 1;exact ByteArray.ext (Array.ext' h))
  .cases a <;> cases b <;> simp[V.p9]at h <;> first|rfl|grind|grind
  .cases a <;> cases b <;> simp[V.zH]at h <;> first|rfl|grind|grind
structure ki where
 f:FuncId
 az:List V
 y:V
def xM:List ki->FuncId->List V->Option V
 | [],_,_=>none
 | k::r,f,az=>bif Nat.beq k.f f&&V.p9 1000 k.az az then some k.y else xM r f az
theorem AU:∀{l:List ki} {f:FuncId} {az:List V} {y:V},xM l f az=some y->∃k∈l,k.f=f/\k.az=az/\k.y=y
 | [],_,_,_,h=>by simp[xM]at h
 | k::r,f,az,y,h=>by
  unfold xM at h
  cases B:Nat.beq k.f f&&V.p9 1000 k.az az with
  | true=>
   simp only[ζh]at B;exact⟨k,List.mem_cons_self ..,Nat.eq_of_beq_eq_true B.1,(Q7 1000).2.1 _ _ B.2,by grind⟩
  | false=>
   rw[B]at h;obtain⟨q,h1,D⟩:=AU h
   grind
def EH (E:Env) (l:List ki) (c:dh) (n:Nat):Callee->List V->bf->Option (V×bf)
 | .fn f,az,[]=>match xM l f az with
  | some y=>some (y,[])
  | none=>i_ E c n (.fn f) az []
 | x,az,H=>i_ E c n x az H
def runM (E:Env) (l:List ki):Nat->dh
 | 0=>⟨0,λ_ _ _=>none⟩
 | n+1=>⟨n+1,EH E l (runM E l n) n⟩
theorem Rp (E:Env) (l:List ki):∀n,(runM E l n).lv=n
 | 0=>rfl
 | _+1=>rfl
theorem MA {l:List ki} {n:Nat} {x:Callee} {a:List V} {H:bf}:runM E l (n+1) x a H=EH E l (runM E l n) n x a H:=rfl
def uF (E:Env) (n:Nat) (k:ki):Prop:=∃r H1,run E n (.fn k.f) k.az []=some (r,H1)/\borrow n H1 r=some k.y
structure sJ (E:Env) (k:ki):Prop where
 keep:E.keep k.f=false
 cl:k.y.closed=true
 at_:∃n,uF E n k
theorem uF.le {n m:Nat} {k:ki} (h:uF E n k) (B:n<=m):uF E m k:=by
 obtain⟨r,H1,h1,u⟩:=h;exact⟨r,H1,(nI E B).go _ _ _ _ h1,qE B u⟩
theorem zG:∀{l:List ki},(∀k∈l,sJ E k)->∃N,∀k∈l,uF E N k
 | [],_=>⟨0,by simp⟩
 | k::r,h=>by
  obtain⟨N,B⟩:=zG (λq hq=>h q (List.mem_cons_of_mem _ hq))
  obtain⟨n,u⟩:=(h k (List.mem_cons_self ..)).at_;refine⟨max N n,λq hq=>?_⟩
  rcases List.mem_cons.1 hq with rfl|hq
  .exact u.le (Nat.le_max_right ..)
  .exact(B q hq).le (Nat.le_max_left ..)
theorem yM {l:List ki} {x:Callee} {az:List V} (h:H≠[]\/(∃id,x=.yld id)\/∃f,x=.fn f/\xM l f az=none):runM E l (n+1) x az H=i_ E (runM E l n) n x az H:=by
 rcases h with h|⟨id,rfl⟩|⟨f,rfl,h⟩
 .cases x with
  | yld id=>rfl
  | fn f=>
   cases H with
   | nil=>exact absurd rfl h
   | cons a r=>rfl
 .rfl
 .cases H with
  | nil=>rw[MA,EH,h]
  | cons a r=>rfl
theorem IM {l:List ki} {N:Nat} (B:∀k∈l,sJ E k) (D:∀k∈l,uF E N k):∀n,CR E (runM E l n) (run E (N+n)):=by
 intro n
 induction n with
 | zero=>
  refine⟨Nat.zero_le _,λf args H y _ h=>?_,λf args H r _ h=>(by cases h),λid args H r h=>(by cases h),λf args H r _ h=>(by cases h)⟩
  unfold bU at h;split at h
  .cases h
  .cases h
 | succ n G=>
  have up:∀{x:Callee} {az:List V} {H:bf} {r:V×bf},i_ E (runM E l n) n x az H=some r->run E (N+(n+1)) x az H=some r:=λh=>by
   rw[show N+(n+1)=(N+n)+1 from rfl,Ez];exact zA G (Nat.le_add_left ..) h
  have w:(runM E l (n+1)).lv<=(run E (N+(n+1))).lv:=by rw[Rp,mX];exact Nat.le_add_left ..
  refine⟨w,λf args H y hk h=>?_,λf args H r hk h=>?_,λid args H r h=>?_,λf args H r A h=>?_⟩
  .unfold bU at h ⊢;split at h
   .rename_i az has;rw[rA w has];split at h
    .rename_i r H1 hc
     cases z:xM l f az with
     | none=>
      rw[yM (.inr (.inr ⟨f,rfl,z⟩))]at hc;simp only;rw[up hc];split at h
      .rename_i O I;simp only;rw[qE w I];exact h
      .cases h
     | some Q=>
      rw[MA,EH,z]at hc;obtain⟨rfl,rfl⟩:=hc;obtain⟨k,u,rfl,rfl,rfl⟩:=AU z;have ok:=B k u;obtain⟨r1,H2,h1,J⟩:=(D k u).le (Nat.le_add_right N (n+1));rw[jy _ _ ok.cl]at h;simp only[h1,mX,J];exact h
    .cases h
   .cases h
  .by_cases z:H≠[]\/(∃id,(Callee.fn f)=.yld id)\/∃C,Callee.fn f=.fn C/\xM l C args=none
   .rw[yM z]at h;exact up h
   .cases L:xM l f args with
    | none=>grind
    | some y=>
     obtain⟨k,u,rfl,_,_⟩:=AU L;rw[(B k u).keep]at hk;cases hk
  .exact up h
  .rw[yM (.inl A)]at h;exact up h
def To (E:Env) (l:List ki) (n:Nat) (k:ki):Option V:=
 match i_ E (runM E l n) n (.fn k.f) k.az []with
 | some (r,H1)=>borrow n H1 r
 | none=>none
theorem E_ {l:List ki} (B:∀k∈l,sJ E k) {k:ki} (h:(To E l n k,k.y.closed,E.keep k.f)=(some k.y,true,false)):sJ E k:=by
 simp  at h;obtain⟨N,u⟩:=zG B;refine⟨h.2.2,h.2.1,N+n+1,?_⟩;have h1:=h.1;unfold To at h1;split at h1
 .rename_i r H1 w;refine⟨r,H1,?_,qE (by omega) h1⟩
  exact zA (IM B u n) (Nat.le_add_left ..) w
 grind
def PR (E:Env) (l:List ki) (n:Nat) (f:FuncId) (az:List V):Bool:=
 match i_ E (runM E l n) n (.fn f) az []with
 | some (.bool b,_)=>b
 | _=>false
theorem JY {l:List ki} (B:∀k∈l,sJ E k) {f:FuncId} {az:List V} (h:PR E l n f az=true):∃n H1,run E n (.fn f) az []=some (.bool true,H1):=by
 obtain⟨N,u⟩:=zG B;unfold PR at h;split at h
 .rename_i b H1 w;subst h;exact⟨N+n+1,H1,(zA (IM B u n) (Nat.le_add_left ..) w)⟩
 simp_all
end
end Go.VE
