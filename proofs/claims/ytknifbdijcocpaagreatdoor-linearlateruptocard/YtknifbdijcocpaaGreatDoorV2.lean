/-
 The engine: operations of the loaded code on values without a heap; a run of it is a run of the program.
-/
import Derived.RangeFuncRecord
import Derived.Shelf.SlSortCmp.NoneTotal
import Derived.RangeFuncLeaves
import Derived.Laws.StructEq
import Derived.ChangeKeysEq
import Derived.Test.YtknifbdijcocpaaGreatDoorV1
set_option linter.all false
open Nat(beq le_add_left le_refl le_succ le_trans mul_one)
open List(finRange getElem?_take mem_cons mem_cons_of_mem mem_cons_self mem_map range' take)
open Array(ext' replicate)
open Option(map_some)
open Go.Sem(run_bind run_pure)
open Go.Result(andThen andThen_ok)
open Go.Instr(checkKey)
open Go.Op(bytesLess eqItems equal equalIn)
open BitVec(ofInt)
namespace Go.VE
variable[bY]
def Out.Is:Out->Exit
 |.norm=>.normal|.exit id=>.exit id|.ret=>.ret
theorem exists_least(p:Nat->Prop):∀k,p k->∃m,p m/\∀j,p j->m<=j:=by intro k;induction k using Nat.strongRecOn with|_ k z=>intro a;by_cases h:∃j,j<k/\p j;obtain⟨j,B,u⟩:=h;exact z j B u;exact⟨k,a,λj u=>Nat.le_of_not_lt λw=>h ⟨j,w,u⟩⟩
open Classical in
noncomputable def least(p:Nat->Prop):Nat:=if h:∃m,p m/\∀j,p j->m<=j then h.choose else 0
theorem MV(p:Nat->Prop){k:Nat}(a:p k):p (least p)/\least p<=k:=by have h:=exists_least p k a;unfold least;rw[dif_pos h];exact⟨h.choose_spec.1,h.choose_spec.2 k a⟩
section
variable{P:Program}{E:Env}{I I':cA}{μ μ':Mu}{H H':bn}{n B:Nat}{F F':Frame}{a:Act}{w w':World}
def Post(B n:Nat)(I:cA)(μ:Mu)(H:bn)(w:World)(o:Out)(F':Frame)(H':bn):Exit->Act->World->Prop:=λe u w'=>e=o.Is/\(∃I' μ',eM I' μ' n F' u.tmps/\c_ I' μ' H' w'/\Step I μ H w I' μ' H' w')/\kL B u.defers w'
theorem Post.mono{I1:cA}{D:Mu}{H1:bn}{G:World}{o:Out}(J:c_ I1 D H1 G)(st:Step I μ H w I1 D H1 G){e:Exit}{a':Act}{w':World}(h:Post B n I1 D H1 G o F' H' e a' w'):
 Post B n I μ H w o F' H' e a' w':=by
 obtain⟨a,⟨I',μ',u,z,C⟩,L⟩:=h;exact⟨a,⟨I',μ',u,z,Step.trans J st C⟩,L⟩
theorem c_.B7(s:c_ I μ H w){b:Nat}(o:Obj)(B:I b=none)(D:¬iL μ H b):c_ I μ H (gz w b o)where
 dom:=s.dom
 imm:=λz x h=>IC.tf (s.imm z x h) (gR o (by rintro rfl;rw[B]at h;cases h))
 obs:=λid ob h=>(s.obs id ob h).mono (cA.le_refl _) (Mu.le_refl _) (λp C G=>by
  have u:iL μ H p.b:=⟨id,p,ob,h,G,C,rfl⟩;exact⟨gR o (λe=>D (e▸u)),gB s u⟩) (λJ=>by subst J;exact s.obs id _ h)
 inj:=s.inj
 gl:=s.gl
theorem U_(s:c_ I μ H w){b:Nat}{o:Obj}(h:w.heap[b]?=some o)(a:∀c e f,o≠.cells c e f)(B:∀es c,o≠.map es c):I b=none:=by cases u:I b with|none=>rfl|some x=>have:=s.imm b x u;cases x with|cells c=>obtain⟨_,_,q⟩:=this;rw[h]at q;cases q;exact absurd rfl (a _ _ _)|map es=>obtain⟨_,q⟩:=this;rw[h]at q;cases q;exact absurd rfl (B _ _)
theorem Step.kept(c:∀b,b<w.heap.size->w'.heap[b]?=w.heap[b]?)(B:w.heap.size<=w'.heap.size)(d:w'.os=w.os)(D:wF w w')(G:∀a:Addr,a.block<w.heap.size->w.frozen? a=false->w'.frozen? a=false):Step I μ H w I μ H w':=⟨cA.le_refl _,Mu.le_refl _,le_refl _,B,λb u _=>c b u,λ_ h=>h.elim .inl λh=>.inr (.inl h),d,D,G⟩
theorem Step.after(st:Step I μ H w I' μ' H' w'){b:Nat}(o:Obj)(B:w.heap.size<=b)(D:Obj.nf o:=by first|exact uL _ _|exact sS rfl):Step I μ H w I' μ' H' (gz w' b o):=⟨st.le,st.mu,st.len,by rw[ya];exact st.size,λz u C=>by rw[gR o Zaa];exact st.frame z u C,st.terr,st.os,⟨st.out.out,st.out.tape,st.out.dr⟩,λa B G=>Yu D a (st.fz a B G)⟩
theorem kL.B7{ds:L' Deferred}(h:kL B ds w){b:Nat}{o:Obj}(D:∀r,w.heap[r]?=some (.deferred (some []))->r≠b):kL B ds (gz w b o):=
 ⟨λd hd=>by
  obtain⟨r,a,z,u⟩:=h.all d hd;exact⟨r,a,z,by rw[gR o (D r u)];exact u⟩,h.apart⟩
theorem M_{step:Frame->bn->Lk (Out×Frame×bn)}{c:Code}{ro:Lk Nat}{o:Out}
 (D:∀I μ F H a w o F' H',step F H=some (o,F',H')->eM I μ n F a.tmps->c_ I μ H w->kL B a.defers w->B<=w.heap.size->c.wpIn (fr ro) 0 P (Post B n I μ H w o F' H') a w)
 {k:Nat}(h:lG step k F H=some (o,F',H'))(r:eM I μ n F a.tmps)(s:c_ I μ H w)(m:kL B a.defers w)(i:B<=w.heap.size):
 (Code.loop c).wpIn (fr ro) 0 P (Post B n I μ H w o F' H') a w:=by
 let b:Nat->Act->World->Prop:=λk u w'=>∃I1 J F1 H1,lG step k F1 H1=some (o,F',H')/\eM I1 J n F1 u.tmps/\c_ I1 J H1 w'/\Step I μ H w I1 J H1 w'/\kL B u.defers w'/\B<=w'.heap.size
 let M:Act->World->Nat:=λu w'=>least (λk=>b k u w')
 have d:∀k u w',b k u w'->b (M u w') u w'/\M u w'<=k:=λk u w' hi=>MV (λk=>b k u w') hi
 refine wpIn_loop (λu w'=>∃k,b k u w') M ⟨k,I,μ,F,H,h,r,s,.refl _ _ _ _,m,i⟩ ?_
 rintro a1 S ⟨k1,T⟩;obtain⟨hi,_⟩:=d k1 a1 S T;generalize q:M a1 S=kk at hi;obtain⟨I1,J,F1,H1,L,r1,O,C,Y,G⟩:=hi
 cases kk with
 |zero=>simp[lG]at L|succ kk=>
  simp only[lG]at L;split at L
  next Z H2 U=>refine wpIn_mono (D I1 J F1 H1 a1 S .norm Z H2 U r1 O Y G) ?_;rintro e a2 Q ⟨rfl,⟨I2,j,r2,l,st2⟩,p⟩;show(∃k,b k a2 Q)/\M a2 Q<kk+1;have z:b kk a2 Q:=⟨I2,j,Z,H2,L,r2,l,Step.trans O C st2,p,le_trans G st2.size⟩;exact⟨⟨kk,z⟩,Nat.lt_succ_of_le (d kk a2 Q z).2⟩
  rename_i W;refine wpIn_mono (D I1 J F1 H1 a1 S o F' H' L r1 O Y G) ?_;intro e a2 Q hp;have X:o≠.norm:=by rintro rfl;exact W F' H' L
  obtain⟨rfl,f,g⟩:=hp
  cases o with
  |norm=>exact absurd rfl X|exit id=>exact Post.mono O C ⟨rfl,f,g⟩|ret=>exact Post.mono O C ⟨rfl,f,g⟩
end
end Go.VE
namespace Go.VE
variable[bY]
section
variable{P:Program}{E:Env}{I I':cA}{μ μ':Mu}{H H':bn}{n B:Nat}{F F':Frame}{a:Act}{w w':World}
theorem Cq(s:c_ I μ H w){id:Nat}{r:wZ}(h:H[id]?=some (.loop r)):∃p l,μ id=some p/\I p.b=none/\w.heap[p.b]?=some (.loop l)/\w_ I μ r l:=s.obs id _ h
theorem Kk{p:Lk Out}(hp:p≠some .norm):(p.bind lU=none->p.getD .norm=.norm)/\(∀c,p.bind lU=some c->(c=.ret/\p.getD .norm=.ret)\/∃id,c=.exit id/\p.getD .norm=.exit id):=by cases p with|none=>grind|some o=>cases o with|norm=>grind|ret=>exact⟨by simp[lU],by simp[lU]⟩|exit id=>exact⟨by simp[lU],by simp[lU]⟩
theorem Lo{call:dG}(hc:lJ P call){g:Operand}{ps:Array Tmp}{assign body:Code}{o:Out}{lf:Nat}
 (h:exec E call lf false n (.rangeFunc g ps assign body) F H=some (o,F',H'))(r:eM I μ n F a.tmps)(s:c_ I μ H w)(m:kL B a.defers w)(hB:B<=w.heap.size):
 (Code.rangeFunc g ps assign body).wpIn (fr none) 0 P (Post B n I μ H w o F' H') a w:=by
 cases t:ev F g with
 |none=>simp[exec,t]at h|some gv=>
 cases gv with
 |clo f x y=>
  simp[exec,t]at h;split at h
  .rename_i an H2 O;split at h
   .rename_i r2 G;have Y:r2.st≠.busy/\r2.pend.getD .norm=o/\F=F'/\H2.set H.length .dead=H':=by
     grind
    obtain⟨Y,rfl,rfl,rfl⟩:=Y;obtain⟨u,v,eg,hu,hv⟩:=(dH r t).kN;refine wpIn_rangeFunc λC _=>?_
    have Z:∀b,b<w.heap.size->(w.alloc (.deferred (some []))).heap[b]?=w.heap[b]?:=λb hb=>mM _ b hb
    have A:=s.kept Z;have ae:Step I μ H w I μ H (w.alloc (.deferred (some []))):=Step.kept Z Zab rfl ⟨rfl,rfl,le_refl _⟩ (λa _=>Pm (sS rfl) a)
    have af:w_ I μ ⟨.ready,none,F,n,ps.toList,assign,body⟩ {state:=.ready,pending:=none,fn:=C,tmps:=a.tmps,params:=ps,assign,body,defers:=w.heap.size}:=⟨trivial,rfl,Zab,r,rfl,rfl,rfl⟩
    obtain⟨N,st2⟩:=A.push (ob:=.loop ⟨.ready,none,F,n,ps.toList,assign,body⟩)
     (o:=.loop {state:=.ready,pending:=none,fn:=C,tmps:=a.tmps,params:=ps,assign,body,defers:=w.heap.size}) (p:=⟨w.heap.size+1,0,0,0⟩) Zab
     ⟨_,_,Mu.gG _ _ _,by have:=A.zO;simp_all,by have:=nX (w:=w.alloc (.deferred (some []))) (.loop {state:=.ready,pending:=none,fn:=C,tmps:=a.tmps,params:=ps,assign,body,defers:=w.heap.size});simp_all,
      af.mono (cA.le_refl _) (Mu.rY (A.dom _ (le_refl _)))⟩
    have Q:=(hu.mono (cA.le_refl _) st2.mu).append (.cons (.yld H.length ⟨w.heap.size+1,0,0,0⟩ (Mu.gG _ _ _)) (hv.mono (cA.le_refl _) st2.mu))
    obtain⟨hf,J⟩:=hc.fn f _ _ _ _ O;refine⟨w.heap.size+1,[{target:=.collected w.heap.size,args:=#[]}],((w.alloc (.deferred (some []))).alloc (.loop {state:=.ready,pending:=none,fn:=C,tmps:=a.tmps,params:=ps,assign,body,defers:=w.heap.size})),{target:=.fn (.func f) v,args:=u++#[.func (.yield (w.heap.size+1)) #[] #[]]},((w.alloc (.deferred (some []))).alloc (.loop {state:=.ready,pending:=none,fn:=C,tmps:=a.tmps,params:=ps,assign,body,defers:=w.heap.size})),f,u++#[.func (.yield (w.heap.size+1)) #[] #[]]++v,((w.alloc (.deferred (some []))).alloc (.loop {state:=.ready,pending:=none,fn:=C,tmps:=a.tmps,params:=ps,assign,body,defers:=w.heap.size})),
     run_enterLoop_outer C a.tmps ps assign body,?_,λ_ _=>trivial,?_,λh=>by simp[fr]at h,?_⟩
    .simp[resolve];rw[eg];simp[Deferred.ofValue,Act.eval]
    .exact yH hf _
    have aa:=J _ _ _ _ N Q;have S:(u.toList++.func (.yield (w.heap.size+1)) #[] #[]::v.toList).toArray=u++#[.func (.yield (w.heap.size+1)) #[] #[]]++v:=Zac
    rw[S]at aa;refine aa.mono ?_;rintro e j ⟨am,R,K,rfl,_,M,T⟩;obtain⟨p,l,g1,g2,g3,g4⟩:=Cq M G;have hp:p=⟨w.heap.size+1,0,0,0⟩:=by have:=T.mu _ _ (Mu.gG μ H.length ⟨w.heap.size+1,0,0,0⟩);grind
    subst hp;have L:l.state≠.busy:=by intro he;have:=g4.st;rw[he]at this;cases ah:r2.st<;>rw[ah]at this<;>simp[CM.is]at this;grind
    refine⟨l.pending,_,run_endLoop g3 L,?_⟩;obtain⟨s4,ai⟩:=M.kill G;have U:¬iL K (H2.set H.length .dead) (w.heap.size+1):=by rintro⟨id,q,ob,i,k,W,h4⟩;by_cases e:id=H.length;subst e;rw[List.getElem?_set_self (ζe.1 G).1]at i;cases i;simp[Ob.live]at k;rw[List.getElem?_set_ne (Ne.symm e)]at i;exact e (M.inj id H.length ob _ q _ i G k rfl W g1 h4)
    have s5:c_ R K (H2.set H.length .dead) (gz j (w.heap.size+1) (.loop {l with state:=.exhausted})):=s4.B7 _ g2 U;have st:=Step.trans A ae (Step.trans N st2 (Step.trans M T ai));have aj:Step I μ H w R K (H2.set H.length .dead) (gz j (w.heap.size+1) (.loop {l with state:=.exhausted})):=st.after _ Zaa
    have m2:kL B ({target:=.collected w.heap.size,args:=#[]}::a.defers) ((w.alloc (.deferred (some []))).alloc (.loop {state:=.ready,pending:=none,fn:=C,tmps:=a.tmps,params:=ps,assign,body,defers:=w.heap.size})):=by refine⟨?_,?_⟩;intro d hd;rcases mem_cons.1 hd with rfl|hd;refine⟨w.heap.size,rfl,hB,?_⟩;rw[mM _ _ Zab];exact nX _;obtain⟨q,i,k,W⟩:=m.all d hd;have X:=(Array.getElem?_eq_some_iff.1 W).1;refine⟨q,i,k,?_⟩;rw[mM _ _ (by simp;omega),mM _ _ X];exact W;refine List.Pairwise.cons ?_ m.apart;intro d hd q X ab;obtain⟨q2,i,k,W⟩:=m.all d hd;have:=(Array.getElem?_eq_some_iff.1 W).1;cases X;rw[i]at ab;cases ab;omega
    have m3:=m2.step N T;have m5:kL B ({target:=.collected w.heap.size,args:=#[]}::a.defers) (gz j (w.heap.size+1) (.loop {l with state:=.exhausted})):=m3.B7 (λq X e=>by subst e;rw[g3]at X;cases X)
    have ak:=st.le;have al:=st.mu;have z:∀D:Out,r2.pend.getD .norm=D->Post B n I μ H w D F (H2.set H.length .dead) D.Is {a with defers:=[{target:=.collected w.heap.size,args:=#[]}]++a.defers} (gz j (w.heap.size+1) (.loop {l with state:=.exhausted})):=λD _=>⟨rfl,⟨R,K,r.mono ak al,s5,aj⟩,m5⟩
    obtain⟨W5,ad⟩:∃W5,j.putObj (w.heap.size+1) (.loop {l with state:=.exhausted})=W5:=⟨_,rfl⟩;have z:∀D:Out,r2.pend.getD .norm=D->Post B n I μ H w D F (H2.set H.length .dead) D.Is {a with defers:=[{target:=.collected w.heap.size,args:=#[]}]++a.defers} W5:=by intro D ho;rw[<-ad];exact z D ho
    rw[ad];obtain⟨k1,k2⟩:=Kk g4.pendOk;rw[g4.pend]
    cases V:r2.pend.bind lU with
    |none=>rw[k1 V];exact z .norm (k1 V)|some c=>
     rcases k2 c V with⟨rfl,e⟩|⟨id,rfl,e⟩
     .rw[e];exact wpIn_ret (z .ret e)
     rw[e];exact wpIn_exit (z (.exit id) e)
   grind
  grind
 |_=>simp[exec,t]at h
theorem Ay(f:eS P E)(i:P.follows .mixedOrders=true){call:dG}(d:lJ P call)(lf:Nat)(ro:Lk Nat)(U:Bool)(k:U=ro.isSome)(n:Nat):
 ∀(c:Code)(I:cA)(μ:Mu)(F:Frame)(H:bn)(a:Act)(w:World)(o:Out)(F':Frame)(H':bn),exec E call lf U n c F H=some (o,F',H')->eM I μ n F a.tmps->c_ I μ H w->
  kL B a.defers w->B<=w.heap.size->c.wpIn (fr ro) 0 P (Post B n I μ H w o F' H') a w:=by
 intro c
 induction c with
 |skip=>intro I μ F H a w o F' H' h r s m _;obtain⟨rfl,rfl,rfl⟩:=h;exact wpIn_skip ⟨rfl,⟨I,μ,r,s,.refl _ _ _ _⟩,m⟩|label l=>intro I μ F H a w o F' H' h r s m _;obtain⟨rfl,rfl,rfl⟩:=h;exact wpIn_label ⟨rfl,⟨I,μ,r,s,.refl _ _ _ _⟩,m⟩|region id ops X=>
  intro I μ F H a w o F' H' h r s m _;simp only[exec,ζf]at h;obtain⟨⟨p,H2⟩,h,rfl,rfl,rfl⟩:=h;refine Jp f i d ro h r s (λa' I' μ' w' b z C Y=>⟨rfl,⟨I',μ',b,C,Y⟩,?_⟩)
  rw[z];exact m.step s Y
 |seq x y D G=>
  intro I μ F H a w o F' H' h r s m u;simp[exec]at h;refine wpIn_seq ?_;split at h
  next F1 H1 b=>refine wpIn_mono (D I μ F H a w _ F1 H1 b r s m u) ?_;rintro e a1 J ⟨rfl,⟨I1,j,r1,Z,L⟩,m1⟩;refine wpIn_mono (G I1 j F1 H1 a1 J o F' H' h r1 Z m1 (le_trans u L.size)) ?_;intro e a2 q hp;exact Post.mono Z L hp
  refine wpIn_mono (D I μ F H a w o F' H' h r s m u) ?_;rintro e a1 J ⟨rfl,z,C⟩
  cases o with
  |norm=>grind|exit id=>exact⟨rfl,z,C⟩|ret=>exact⟨rfl,z,C⟩
 |cond c x y D G=>
  intro I μ F H a w o F' H' h r s m u;simp[exec]at h;split at h
  .rename_i t S;have T:=(dH r S).s6;refine wpIn_cond T ?_
   grind
  grind
 |block id c Q=>
  intro I μ F H a w o F' H' h r s m u;simp[exec]at h;refine wpIn_block ?_;split at h
  .rename_i O F1 H1 b;refine wpIn_mono (Q I μ F H a w _ F1 H1 b r s m u) ?_;rintro e a1 J ⟨rfl,z,C⟩;show Exit.inBlock id _ (.exit O) a1 J;unfold Exit.inBlock;split at h
   next W=>obtain⟨rfl,rfl,rfl⟩:=h;simp[W];exact⟨rfl,z,C⟩
   rename_i W;obtain⟨rfl,rfl,rfl⟩:=h;simp[W];exact⟨rfl,z,C⟩
  refine wpIn_mono (Q I μ F H a w o F' H' h r s m u) ?_;rintro e a1 J ⟨rfl,z,C⟩
  cases o with
  |norm=>exact⟨rfl,z,C⟩|exit O=>grind|ret=>exact⟨rfl,z,C⟩
 |loop c Q=>intro I μ F H a w o F' H' h r s m u;exact M_ (λI μ F H a w o F' H' h r s m u=>Q I μ F H a w o F' H' h r s m u) h r s m u|rangeFunc g ps assign body _ _=>
  intro I μ F H a w o F' H' h r s m u
  cases U with
  |true=>simp[exec]at h|false=>
   cases ro with
   |none=>exact Lo d h r s m u|some l=>simp_all
 |exit id=>intro I μ F H a w o F' H' h r s m _;obtain⟨rfl,rfl,rfl⟩:=h;exact wpIn_exit ⟨rfl,⟨I,μ,r,s,.refl _ _ _ _⟩,m⟩|ret=>intro I μ F H a w o F' H' h r s m _;obtain⟨rfl,rfl,rfl⟩:=h;exact wpIn_ret ⟨rfl,⟨I,μ,r,s,.refl _ _ _ _⟩,m⟩|scope body _=>intro I μ F H a w o F' H' h;simp[exec]at h|goto l=>intro I μ F H a w o F' H' h;simp[exec]at h|refuse ab=>intro I μ F H a w o F' H' h;simp[exec]at h
end
theorem tc{f g:V->Lk V}(h:∀x y,f x=some y->g x=some y):∀{l:L' V}{r:L' V},iU f l=some r->iU g l=some r
 |[],_,hr=>hr|x::l,r,hr=>by
  simp only[iU]at hr⊢;split at hr;next y s a B=>rw[h _ _ a,tc h B];exact hr
  cases hr
theorem IU{f g:V->Lk V}(h:∀x y,f x=some y->g x=some y):∀{l:L' (L' V)}{r:L' (L' V)},mC f l=some r->mC g l=some r
 |[],_,hr=>hr|x::l,r,hr=>by
  simp only[mC]at hr⊢;split at hr;next y s a B=>rw[tc h a,IU h B];exact hr
  cases hr
theorem Jn{f g:V->Lk V}(h:∀x y,f x=some y->g x=some y):∀{l:L' (V×V)}{r:L' (V×V)},mI f l=some r->mI g l=some r
 |[],_,hr=>hr|(k,x)::l,r,hr=>by
  simp only[mI]at hr⊢;split at hr;next y s u a B D=>rw[h _ _ a,h _ _ B,Jn h D];exact hr
  cases hr
theorem Li{H:bn}:∀(n:Nat)(x y:V),borrow n H x=some y->borrow (n+1) H x=some y:=by
 intro n
 induction n with
 |zero=>
  intro x y h;simp only[borrow]at h;split at h;next d=>rw[kR _ _ d];exact h
  cases h
 |succ n w=>
  intro x y h;unfold borrow at h⊢;split;next d=>rw[if_pos d]at h;exact h
  rename_i d;rw[if_neg d]at h
  cases x with
  |hsl id es off len=>
   simp only at h⊢;split at h;split at h;next q=>rw[if_pos q];obtain⟨r,c,u⟩:=ζf.1 h;rw[IU w c];exact congrArg some u
   cases h;cases h
  |hptr id el off=>
   simp only at h⊢;split at h;split at h;split at h;next q=>rw[if_pos q];obtain⟨r,c,u⟩:=ζf.1 h;rw[tc w c];exact congrArg some u
   cases h;cases h;cases h
  |hmap id=>simp only at h⊢;split at h;obtain⟨r,c,u⟩:=ζf.1 h;rw[Jn w c];exact congrArg some u;cases h|clo f a b=>
   simp only at h⊢;split at h;next c u=>rw[tc w c,tc w u];exact h
   cases h
  |agg cs=>simp only at h⊢;obtain⟨r,c,u⟩:=ζf.1 h;rw[tc w c];exact congrArg some u|tup cs=>simp only at h⊢;obtain⟨r,c,u⟩:=ζf.1 h;rw[tc w c];exact congrArg some u|_=>cases h
theorem tq{H:bn}{n m:Nat}(h:n<=m){x y:V}(B:borrow n H x=some y):borrow m H x=some y:=by induction h with|refl=>exact B|step _ u=>exact Li _ _ _ u
theorem tH{H:bn}{n m:Nat}(h:n<=m){l r:L' V}(B:borrows n H l=some r):borrows m H l=some r:=tc (λ_ _=>tq h) B
theorem Dm{f g:V->L' Nat}:∀{l:L' V},(∀x∈l,f x=g x)->cW f l=cW g l
 |[],_=>rfl|x::l,h=>by simp only[cW];rw[h x (mem_cons_self ..),Dm λy B=>h y (mem_cons_of_mem _ B)]
theorem qF{f:V->Lk V}:∀{l r:L' V},iU f l=some r->∀x∈l,∃y,f x=some y
 |[],_,_,x,b=>by cases b|a::l,r,h,x,b=>by simp only[iU]at h;split at h;rename_i y s c B;rcases mem_cons.1 b with rfl|b;exact⟨y,c⟩;exact qF B x b;cases h
theorem GX{f:V->Lk V}:∀{l r:L' (L' V)},mC f l=some r->∀c∈l,∀x∈c,∃y,f x=some y
 |[],_,_,x,B=>by cases B|a::l,r,h,c,b=>by simp only[mC]at h;split at h;rename_i y s d D;rcases mem_cons.1 b with rfl|b;exact qF d;exact GX D c b;cases h
theorem AT{f:V->Lk V}:∀{l r:L' (V×V)},mI f l=some r->∀c∈l,(∃y,f c.1=some y)/\∃y,f c.2=some y
 |[],_,_,x,B=>by cases B|(k,a)::l,r,h,c,b=>by simp only[mI]at h;split at h;rename_i y s u d D G;rcases mem_cons.1 b with rfl|b;exact⟨⟨y,d⟩,s,D⟩;exact AT G c b;cases h
theorem NG{H:bn}:∀(n:Nat)(x y:V),borrow n H x=some y->cn (n+1) H x=cn n H x:=by
 intro n
 induction n with
 |zero=>
  intro x y h;simp only[borrow]at h;split at h;next e=>simp[cn,e]
  cases h
 |succ n I=>
  intro x y h;have u:∀l:L' V,(∀x∈l,∃y,borrow n H x=some y)->cW (cn (n+1) H) l=cW (cn n H) l:=λl J=>Dm λx w=>by obtain⟨y,L⟩:=J x w;exact I x y L
  unfold borrow at h;rw[cn.eq_def (n+1+1),cn.eq_def (n+1)];simp only;split;rfl;rename_i e;rw[if_neg e]at h
  cases x with
  |hsl id es off len=>simp only at h⊢;cases g:(H[id]?).bind Ob.rows with|none=>rfl|some q=>obtain⟨C,O⟩:=q;rw[g]at h;simp only at h⊢;split at h;obtain⟨r,d,z⟩:=ζf.1 h;rw[u _ λx w=>by obtain⟨c,e,D⟩:=List.mem_flatten.1 w;exact GX d c e x D];cases h
  |hptr id el off=>simp only at h⊢;cases g:(H[id]?).bind Ob.rows with|none=>rfl|some q=>obtain⟨C,O⟩:=q;rw[g]at h;simp only at h⊢;split at h;rename_i cs G;split at h;obtain⟨r,d,z⟩:=ζf.1 h;rw[u _ λx w=>qF d x (by rw[G]at w;exact w)];cases h;cases h
  |hmap id=>
   simp only at h⊢;split at h;rename_i B i;obtain⟨r,d,z⟩:=ζf.1 h;skip;rw[u (B.map (·.1)) λx w=>by obtain⟨c,e,rfl⟩:=mem_map.1 w;exact(AT d c e).1,
    u (B.map (·.2)) λx w=>by obtain⟨c,e,rfl⟩:=mem_map.1 w;exact(AT d c e).2]
   cases h
  |clo f a b=>
   simp only at h⊢;split at h;next d z=>rw[u _ (qF d),u _ (qF z)]
   cases h
  |agg cs=>simp only at h⊢;obtain⟨r,d,z⟩:=ζf.1 h;exact u _ (qF d)|tup cs=>simp only at h⊢;obtain⟨r,d,z⟩:=ζf.1 h;exact u _ (qF d)|_=>rfl
theorem SS{H:bn}{n m:Nat}(h:n<=m){x y:V}(B:borrow n H x=some y):cn m H x=cn n H x:=by induction h with|refl=>rfl|step h u=>rw[NG _ _ _ (tq h B),u]
theorem Am{H:bn}{n m:Nat}(h:n<=m){l r:L' V}(B:borrows n H l=some r):cW (cn m H) l=cW (cn n H) l:=Dm λx u=>by obtain⟨y,w⟩:=qF B x u;exact SS h w
theorem pg{f g h:V->Lk V}(k:∀x y z,f x=some y->g x=some z->h x=some z):∀{l r s:L' V},iU f l=some r->iU g l=some s->iU h l=some s
 |[],_,_,_,B=>B|x::l,r,s,hr,B=>by
  simp only[iU]at hr B⊢;split at hr;rename_i a D;split at B;next G J=>rw[k _ _ _ a G,pg k D J];exact B
  cases B;cases hr
theorem E8{f g h:V->Lk V}(k:∀x y z,f x=some y->g x=some z->h x=some z):∀{l r s:L' (L' V)},mC f l=some r->mC g l=some s->mC h l=some s
 |[],_,_,_,B=>B|x::l,r,s,hr,B=>by
  simp only[mC]at hr B⊢;split at hr;rename_i a D;split at B;next G J=>rw[pg k a G,E8 k D J];exact B
  cases B;cases hr
theorem EI{f g h:V->Lk V}(k:∀x y z,f x=some y->g x=some z->h x=some z):∀{l r s:L' (V×V)},mI f l=some r->mI g l=some s->mI h l=some s
 |[],_,_,_,B=>B|(a,x)::l,r,s,hr,B=>by
  simp only[mI]at hr B⊢;split at hr;rename_i b D G;split at B;next J U W=>rw[k _ _ _ b J,k _ _ _ D U,EI k G W];exact B
  cases B;cases hr
theorem Lh{H H2:bn}:∀(n m:Nat)(x y z:V),borrow n H x=some y->borrow m H2 x=some z->(∀id:Nat,(H2[id]?).isSome=true->H2[id]?=H[id]?)->borrow n H2 x=some z:=by
 intro n
 induction n with
 |zero=>
  intro m x y z h k _;simp only[borrow]at h;split at h;next e=>rw[kR _ _ e]at k⊢;exact k
  cases h
 |succ n G=>
  intro m x y z h k w;by_cases e:x.closed=true;rw[kR _ _ e]at k⊢;exact k
  cases m with
  |zero=>simp only[borrow,if_neg e]at k;cases k|succ m=>
   have u:∀x y z,borrow n H x=some y->borrow m H2 x=some z->borrow n H2 x=some z:=λx y z a b=>G m x y z a b w;unfold borrow at h k⊢;rw[if_neg e]at h k⊢;have row:∀id q,(H2[id]?).bind Ob.rows=some q->(H[id]?).bind Ob.rows=some q:=λid q B=>by rw[<-w id (by cases C:H2[id]?with|none=>rw[C]at B;cases B|some _=>rfl)];exact B
   cases x with
   |hsl id es off len=>
    simp only at h k⊢;split at k;rename_i d;rw[row _ _ d]at h;simp only at h;split at k;next q=>rw[if_pos q]at h⊢;obtain⟨r,c,_⟩:=ζf.1 h;obtain⟨s,k1,k2⟩:=ζf.1 k;rw[E8 u c k1];exact congrArg some k2
    cases k;cases k
   |hptr id el off=>
    simp only at h k⊢;split at k;rename_i d;rw[row _ _ d]at h;simp only at h;split at k;rename_i D;rw[D]at h;simp only at h;split at k;next q=>rw[if_pos q]at h⊢;obtain⟨r,c,_⟩:=ζf.1 h;obtain⟨s,k1,k2⟩:=ζf.1 k;rw[pg u c k1];exact congrArg some k2
    cases k;cases k;cases k
   |hmap id=>simp only at h k⊢;split at k;rename_i d;rw[<-w id (by rw[d];rfl),d]at h;simp only at h;obtain⟨r,c,_⟩:=ζf.1 h;obtain⟨s,k1,k2⟩:=ζf.1 k;rw[EI u c k1];exact congrArg some k2;cases k|clo f a b=>
    simp only at h k⊢;split at h;rename_i c C;split at k;next k1 k2=>rw[pg u c k1,pg u C k2];exact k
    cases k;cases h
   |agg cs=>simp only at h k⊢;obtain⟨r,c,_⟩:=ζf.1 h;obtain⟨s,k1,k2⟩:=ζf.1 k;rw[pg u c k1];exact congrArg some k2|tup cs=>simp only at h k⊢;obtain⟨r,c,_⟩:=ζf.1 h;obtain⟨s,k1,k2⟩:=ζf.1 k;rw[pg u c k1];exact congrArg some k2|_=>cases h
end Go.VE
namespace Go.VE
variable[bY]
open Go.Proofs Go.Sort
structure B6(P:Program)(f:FuncId):Prop where
 ok:As P f
 zero:∀(p:Option Addr)(cap:Nat)(fv:Value)(w:World),Calls P f #[.slice p 0 cap,fv] w λe w'=>e=.returned (.tuple #[])/\w'=w
 all:∀{α:Type}[Inhabited α](enc:α->Value)(_:OneCell enc)(cf:α->α->Int)(_:SWO (ltOf cf))(g:Nat)(cb:Array Value)(blk off cap:Nat)(d:Array α)(w:World)
  (_:∀args w,(callFunc g args).run P w=.ok (.enter g args) w)(_:CmpLays1 P g cb enc cf blk off d.size w)(_:Holds enc w blk off d)(_:blk<w.heap.size)(_:d.size<4611686018427387904),
  Calls P f #[.slice (some ⟨blk,off,none⟩) d.size cap,.func (.func g) #[] cb] w λe w'=>e=.returned (.tuple #[])/\∃n os,w'=sortWorld enc w blk off n (pdq (ltOf cf) d 0 d.size (Lib.bitLen d.size) true true) os
theorem Mx{α:Type}[Inhabited α](lt:α->α->Bool):∀(k i:Nat)(d:Array α),Jb lt k i d=insOuter lt 0 (i+k) i d
 |0,i,d=>by rw[insOuter];simp[Jb]|k+1,i,d=>by rw[insOuter,Jb,Mx lt k];grind
theorem DH(n:Nat)(lt:Fin (n+1)->Fin (n+1)->Bool):rB n lt=pdq lt (finRange (n+1)).toArray 0 (n+1) (Lib.bitLen (n+1)) true true:=by unfold rB;split;rw[pdq,if_pos Zaa,insertionSort,Mx,Nat.add_comm 1 n];rfl
theorem rD{n:Nat}{t:Fin (n+1)->Fin (n+1)->Lk Int}(h:B4 t=true):(∀i j,∃c,t i j=some c)/\SWO (qz t):=by have u:∀(p:Fin (n+1)->Bool),(finRange (n+1)).all p=true->∀i,p i=true:=λp h i=>List.all_eq_true.1 h i (List.mem_finRange i);have d:=λi=>u _ h i;simp only[ζh,Bool.not_eq_true']at d;have w:=λi j=>u _ (d i).2 j;simp only[ζh]at w;have z:=λi j k=>u _ (w i j).2 k;refine⟨λi j=>Option.isSome_iff_exists.1 (w i j).1,λi=>(d i).1,λi j k a b=>?_,λi j k a b=>?_⟩;have:=z i j k;grind;grind
section
variable{P:Program}{I I':cA}{μ μ':Mu}{H H':bn}{w w':World}
theorem HB(w:World)(os:Array Obj)(b:Nat)(h:b<w.heap.size):(grow w os).heap[b]?=w.heap[b]?:=by unfold grow;grind
theorem Calls.fr{f:FuncId}{args:Array Value}{R:Ending->World->Prop}(h:Calls P f args w R):CallsIn (fr none) 0 P f args w R:=callsIn_wide.2 h
theorem CallsIn.un{f:FuncId}{args:Array Value}{R:Ending->World->Prop}(h:CallsIn (fr none) 0 P f args w R):Calls P f args w R:=callsIn_wide.1 h
theorem SF{p:Pl}{c:Array Value}{xs:L' (L' V)}(B:p.es=1)(D:c.size=p.sz)(g:p.o+xs.length<=c.size)
 (h:∀(i:Nat)x,xs[i]?=some x->∃v u,x=[v]/\V.one v=true/\c[p.o+i]?=some u/\bK I μ v u):gJ I μ p c 1 xs:=by
 have d:∀x∈xs,x.length=1:=λx w=>by obtain⟨i,hi⟩:=List.getElem?_of_mem w;grind
 have C:xs.flatten.length=xs.length:=by rw[gu d,mul_one]
 refine⟨B,D,d,λx w y G=>?_,Zaa,⟨?_,λj a b f J=>?_⟩⟩
 .obtain⟨i,hi⟩:=List.getElem?_of_mem w
  grind
 .grind
 have z:j<xs.length:=by have:=(ζe.1 f).1;omega
 obtain⟨v,u,e,_,L,O⟩:=h j xs[j] (by simp[z])
 have:=xk d (i:=j) (j:=0) (x:=xs[j]) (by simp[z]) (by rw[e];rfl)
 simp_all
theorem xQ{p:Pl}{c:Array Value}{xs:L' (L' V)}(r:gJ I μ p c 1 xs)(i:Nat){x:L' V}(h:xs[i]?=some x):∃v u,x=[v]/\V.one v=true/\c[p.o+i]?=some u/\bK I μ v u:=by
 have w:=List.mem_of_getElem? h;obtain⟨v,rfl⟩:=List.length_eq_one_iff.1 (r.qq x w);have hi:=(ζe.1 h).1;have z:=by have:=r.room;omega
 refine⟨v,c[p.o+i],rfl,r.one _ w v Zab,by simp_all,?_⟩;exact r.idx (j:=0) h rfl (by simp_all)
theorem Wm{α:Type}[Inhabited α](enc:α->Value)(a o m:Nat)(B:Array α)(os:Array Obj){b:Nat}(G:b<w.heap.size)(D:b≠a):(sortWorld enc w a o m B os).heap[b]?=w.heap[b]?:=by unfold sortWorld;rw[HB _ _ _ (by simp_all)];simp[putRow,mapBlock,Sort.ahead,Array.getElem?_modify,if_neg (Ne.symm D)]
theorem K6{α:Type}[Inhabited α](enc:α->Value){a:Nat}(o m:Nat)(B:Array α){c:Array Value}{el:TypeId}(h:w.heap[a]?=some (.cells c el)):
 putRow enc (Sort.ahead w m) a o B=gz (Sort.ahead w m) a (.cells (Sort.putCells enc o B c) el):=by
 unfold putRow mapBlock gz Sort.ahead
 congr 1
 obtain⟨u,e⟩:=Array.getElem?_eq_some_iff.1 h;apply Array.ext
 .simp
 intro i b z
 by_cases hi:i=a
 .subst hi;simp[Array.getElem_modify,e,onCells]
 grind
theorem Step.grown(st:Step I (λ_=>none) [] w I' μ' H' w'):∃q os,w'=grow (w.drewN q) os:=by
 refine⟨w'.drawn-w.drawn,w'.heap.extract w.heap.size w'.heap.size,?_⟩;have u:w'.heap=w.heap++w'.heap.extract w.heap.size w'.heap.size:=by apply Array.ext_getElem?;intro i;by_cases hi:i<w.heap.size;rw[Array.getElem?_append_left hi];exact st.frame i hi (by rintro⟨id,p,ob,h,_⟩;simp at h);rw[Array.getElem?_append_right Zaa];simp[Array.getElem?_extract];by_cases C:i<w'.heap.size;rw[if_pos Zaa];congr 1;omega;rw[if_neg Zaa,Array.getElem?_eq_none Zaa]
 have a:=st.os;have z:=st.out.out;have B:=st.out.tape;have D:=st.out.dr;unfold grow World.drewN;cases w';simp only at *;subst a z B;simp[World.mk.injEq];exact⟨u,Zaa⟩
theorem NW{call B:dG}{g:FuncId}{G D:L' V}{n:Nat}(h:∀args y,cm call g args []=some y->cm B g args []=some y){i j:Fin (n+1)}{z:Int}(J:js call g G D n i j=some z):js B g G D n i j=some z:=by unfold js at J⊢;grind
theorem Eb{keep:FuncId->Bool}{call B:dG}(G:call.lv<=B.lv)(h:∀g args y,keep g=false->cm call g args []=some y->cm B g args []=some y){args:L' V}{r:V×bn}(b:rG keep call args H=some r):rG keep B args H=some r:=by
 unfold rG at b⊢;split at b;split at b;omega;omega;split at b;omega;split at b;rename_i n g cb _ O S I;split at b;rename_i u;split at b;rename_i J w D C;rw[tH G D,tH G C];split at b;rename_i Q;have e:js B g J w n=js call g J w n:=by funext i j;obtain⟨z,L⟩:=(rD Q).1 i j;rw[L];exact NW (λa y=>h g a y u.2.2.2.2) L
 grind;simp_all;simp_all;simp_all;simp_all;simp_all;simp_all;simp_all
set_option maxHeartbeats 1000000 in
theorem V8{call:dG}(hc:lJ P call){f:FuncId}(hs:B6 P f){args:L' V}{r:V}{keep:FuncId->Bool}(h:rG keep call args H=some (r,H'))(s:c_ I μ H w){vs:L' Value}(hv:cN I μ args vs):
 CallsIn (fr none) 0 P f vs.toArray w (zx I μ H w r H'):=by
 unfold rG at h;split at h
 .rename_i sv cv;obtain⟨v1,r1,rfl,M,aD⟩:=hv.cons_inv;obtain⟨v2,r2,rfl,aE,aF⟩:=aD.cons_inv;obtain rfl:=aF.wT;have U:∀p l,v1=.slice p 0 l->CallsIn (fr none) 0 P f [v1,v2].toArray w (zx I μ H w .undef H):=by
   rintro p l rfl;refine Calls.fr ((hs.zero p l v2 w).mono ?_);rintro e w' ⟨rfl,rfl⟩;exact⟨_,I,μ,rfl,bK.undef _ _,s,Step.refl _ _ _ _⟩
  split at h
  .cases h;exact U none 0 M.mS
  .cases h;obtain⟨a,e⟩:=M.tE;exact U a 0 e
  .rename_i id es off len;split at h
   .cases h;rcases M.mT with⟨p,l,_,_,_,_,e⟩|⟨_,a,e⟩
    .exact U _ l e
    exact U _ 0 e
   .rename_i n g cb;split at h
    .rename_i aT Q L;split at h
     .rename_i al;obtain⟨rfl,rfl,aR,hn,_⟩:=al;split at h
      .rename_i Z D aG aq;split at h
       .rename_i ar;cases h;obtain⟨p,c,el,hp,hI,J,S⟩:=s.obs id _ L;rcases M.mT with⟨q,l,hq,aU,aS,aH,rfl⟩|⟨h0,_⟩
        .rw[hp]at hq;cases hq;obtain⟨va,F,rfl,R,au⟩:=aE.kN;have av:va=#[]:=by have:=R.wT;simpa using this
         subst av;have am:=(ζe.1 L).1;obtain⟨t,_⟩:=s.kill L;generalize hT:cW (cn call.lv (H.set id .dead)) (((Q.drop off).take (n+1)).flatten++cb)=T;have aI:plus I μ (H.set id .dead) w T p.b=none:=by
          cases B:plus I μ (H.set id .dead) w T p.b with|none=>rfl|some x=>
           exfalso;rcases Ae (by rw[B];rfl)with h|⟨aw,p',ob,_,g1,g2,g3,g4⟩;rw[hI]at h;cases h;have ax:aw≠id:=by rintro rfl;rw[List.getElem?_set_self am]at g1;cases g1;simp[Ob.live]at g2
           rw[List.getElem?_set_ne (Ne.symm ax)]at g1;exact ax (s.inj aw id ob (.row 1 Q) p' p g1 L g2 rfl g3 hp g4)
         let enc:Fin (n+1)->Value:=λi=>(c[p.o+off*1+i.1]?).getD undef
         have K:∀i:Fin (n+1),∃v,Q[off+i.1]?=some [v]/\V.one v=true/\bK I μ v (enc i)/\c[p.o+off*1+i.1]?=some (enc i):=λi=>by obtain⟨v,u,e1,e2,e3,e4⟩:=xQ S (off+i.1) (x:=Q[off+i.1]' Zaa) Zab;have e5:c[p.o+off*1+i.1]?=some u:=(by rw[<-e3];congr 1;omega);have e6:enc i=u:=(by show(c[p.o+off*1+i.1]?).getD undef=u;rw[e5];rfl);exact⟨v,by rw[<-e1];simp,e2,by rw[e6];exact e4,by rw[e5,e6]⟩
         have h1:OneCell enc:=λi=>by obtain⟨v,_,e2,e3,_⟩:=K i;exact e3.one e2
         obtain⟨ay,ae⟩:=rD ar;obtain⟨aV,aJ⟩:=jo aG;obtain⟨aK,aL⟩:=jo aq;have aA:∀x∈(Q.drop off).take (n+1),x.length=1:=λx B=>S.qq x (List.mem_of_mem_drop (List.mem_of_mem_take B))
         have W:∀(i:Fin (n+1))u,Z[i.1]?=some u->eN (plus I μ (H.set id .dead) w T) u (enc i):=λi u hu=>by obtain⟨x,B,an⟩:=aJ i.1 u hu;obtain⟨v,e1,_,e3,_⟩:=K i;have e4:((Q.drop off).take (n+1))[i.1]?=some [v]:=(by rw[getElem?_take,if_pos i.2,List.getElem?_drop];exact e1);have e5:=xk (es:=1) aA (i:=i.1) (j:=0) e4 rfl;have e5:((Q.drop off).take (n+1)).flatten[i.1]?=some v:=(by simpa using e5);rw[e5]at B;cases B;refine(vG t T call.lv _ u _ an (λk A=>?_) e3).1;rw[<-hT];exact kT (List.mem_append_left _ (List.mem_of_getElem? e5)) A
         have ab:cN (plus I μ (H.set id .dead) w T) (λ_=>none) D F.toList:=by refine⟨aK.trans au.1,λj a b k1 k2=>?_⟩;obtain⟨x,B,an⟩:=aL j a k1;refine .c _ _ (vG t T call.lv x a b an (λk A=>?_) (au.2 j x b B k2)).1;rw[<-hT];exact kT (List.mem_append_right _ (List.mem_of_getElem? B)) A
         have af:=(Array.getElem?_eq_some_iff.1 J).1
         let d:Array (Fin (n+1)):=(finRange (n+1)).toArray
         have ao:d.size=n+1:=by simp[d]
         have hd:∀j:Fin (n+1),d[j.1]! =j:=λj=>by simp[d,getElem!_pos]
         have hg:∀i j:Fin (n+1),∃z,js call g Z D n i j=some z/\∃a b,Z[i.1]?=some a/\Z[j.1]?=some b/\cm call g (a::b::D) []=some (.int .i64 z):=λi j=>by
          obtain⟨z,N⟩:=ay i j;have X:=N;unfold js at X;split at X;rename_i a b E Y;split at X;next z' C=>cases X;exact⟨z,N,a,b,E,Y,C⟩
          cases X;cases X
         have aM:As P g:=by obtain⟨z,_,a,b,E,Y,C⟩:=hg 0 0;have s0:c_ (plus I μ (H.set id .dead) w T) (λ_=>none) [] w:=⟨λ_ _=>rfl,uW t T,Zab,Zab,t.gl.mono (p9 _ _ _ _ _)⟩;exact(Ea hc C s0 (.cons (.c _ _ (W 0 a E)) (.cons (.c _ _ (W 0 b Y)) ab))).1
         have key:=hs.all enc h1 (λi j=>(js call g Z D n i j).getD 0) ae g F p.b (p.o+off*1) l d w (λargs w=>yH aM args) (by
          intro m os G aW i j;obtain⟨z,N,a,b,E,Y,C⟩:=hg i j;have s0:c_ (plus I μ (H.set id .dead) w T) (λ_=>none) [] (sortWorld enc w p.b (p.o+off*1) m G os):=⟨λ_ _=>rfl,λb x Y=>IC.tf (uW t T b x Y) (Wm enc p.b _ m G os (IC.vj (uW t T b x Y)) (by rintro rfl;rw[aI]at Y;cases Y)),Zab,Zab,t.gl.mono (p9 _ _ _ _ _)⟩
          have:=CallsIn.un (Ea hc C s0 (vs:=enc i::enc j::F.toList) (.cons (.c _ _ (W i a E)) (.cons (.c _ _ (W j b Y)) ab))).2;rw[show(enc i::enc j::F.toList).toArray=#[enc i,enc j]++F by apply ext';simp]at this
          refine this.mono ?_;rintro e w' ⟨u,I1,μ1,rfl,hu,s1,st⟩;exact⟨by rw[hu.fW];show _=Ending.returned (.int .i64 ((js call g Z D n i j).getD 0));rw[N];rfl,st.grown⟩) (by
          intro j hj;have aB:j<n+1:=Zaa
          obtain⟨v,_,_,_,e4⟩:=K ⟨j,aB⟩;rw[hd ⟨j,aB⟩];exact⟨by rw[xe J];exact e4,by simp[World.frozen?,J]⟩) af Zaa
         rw[ao]at key;refine Calls.fr (key.mono ?_);rintro e w' ⟨rfl,m,os,rfl⟩;have aN:ltOf (λi j=>(js call g Z D n i j).getD 0)=qz (js call g Z D n):=rfl
         rw[aN,DH];have ah:=pdq_sorts (qz (js call g Z D n)) ae d 0 d.size (Lib.bitLen d.size) true true (Nat.zero_le _) (le_refl _) (Or.inl rfl);rw[ao]at ah;have O:=ah.1.1;change zx I μ H w .undef (H.set id (.row 1 (sN Q off n (pdq (qz (js call g Z D n)) d 0 (n+1) (Lib.bitLen (n+1)) true true).toList))) _ _;generalize pdq (qz (js call g Z D n)) d 0 (n+1) (Lib.bitLen (n+1)) true true=G at O;rw[ao]at O;unfold sortWorld;rw[K6 enc _ m G J];have s1:c_ I μ H (Sort.ahead w m):=s.pX rfl;have aO:Step I μ H w I μ H (Sort.ahead w m):=Step.pX rfl rfl ⟨rfl,rfl,Nat.le_add_right _ _⟩;have ai:(Sort.putCells enc (p.o+off*1) G c).size=c.size:=by simp[Sort.putCells]
         have aj:∀i:Nat,(i<p.o+off*1\/p.o+off*1+(n+1)<=i)->(Sort.putCells enc (p.o+off*1) G c)[i]?=c[i]?:=λi hi=>by simp only[Sort.putCells,Array.getElem?_mapIdx];rw[O];cases c[i]?with|none=>rfl|some y=>simp only[map_some];rw[if_neg Zaa]
         have ap:∀i:Fin (n+1),(Sort.putCells enc (p.o+off*1) G c)[p.o+off*1+i.1]?=some (enc G[i.1]!):=λi=>by obtain⟨v,_,_,_,e4⟩:=K i;simp only[Sort.putCells,Array.getElem?_mapIdx,e4,map_some];rw[if_pos ⟨Zaa,by rw[O];omega⟩];congr 3;omega
         have aC:=S.room;have aP:(sN Q off n G.toList).length=Q.length:=by simp[sN,O];omega
         obtain⟨s2,st2⟩:=s1.write (o:=.cells (Sort.putCells enc (p.o+off*1) G c) el) (ob':=.row 1 (sN Q off n G.toList)) L rfl hp
          ⟨p,_,el,hp,hI,iZ _ af,SF S.es_eq (by rw[ai];exact S.sz) (by rw[aP,ai];omega) λi x B=>by
           unfold sN at B
           by_cases c1:i<off
           .rw[List.append_assoc,List.getElem?_append_left (by simp;omega),getElem?_take,if_pos c1]at B
            obtain⟨v,u,e1,e2,e3,e4⟩:=xQ S i B;exact⟨v,u,e1,e2,by rw[aj _ Zaa];exact e3,e4⟩
           by_cases c2:i<off+(n+1)
           .rw[List.getElem?_append_left (by simp[O];omega),List.getElem?_append_right (by simp;omega)]at B
            have ak:i-off<G.size:=Zaa
            have e0:(Q.take off).length=off:=by simp;omega
            simp only[e0,List.getElem?_map,Array.getElem?_toList]at B;rw[Array.getElem?_eq_getElem ak]at B;simp only[map_some,ζa]at B;obtain⟨v,e1,e2,e3,e4⟩:=K G[i-off];rw[e1]at B;simp only[Option.getD_some]at B;refine⟨v,enc G[i-off],B.symm,e2,?_,e3⟩;have:=ap ⟨i-off,Zaa⟩
            simp only[getElem!_pos G (i-off) ak]at this;rw[<-this];congr 1;omega
           rw[List.getElem?_append_right (by simp[O];omega),List.getElem?_drop]at B
           have e0:off+(n+1)+(i-((Q.take off)++G.toList.map (λi=>(Q[off+i.1]?).getD [])).length)=i:=by simp[O];omega
           rw[e0]at B;obtain⟨v,u,e1,e2,e3,e4⟩:=xQ S i B;exact⟨v,u,e1,e2,by rw[aj _ Zaa];exact e3,e4⟩⟩
         have A:∀b,b<(gz (Sort.ahead w m) p.b (.cells (Sort.putCells enc (p.o+off*1) G c) el)).heap.size->(grow (gz (Sort.ahead w m) p.b (.cells (Sort.putCells enc (p.o+off*1) G c) el)) os).heap[b]?=(gz (Sort.ahead w m) p.b (.cells (Sort.putCells enc (p.o+off*1) G c) el)).heap[b]?:=λb Y=>HB _ _ _ Y
         have aQ:=Step.kept (I:=I) (μ:=μ) (H:=H.set id (.row 1 (sN Q off n G.toList))) A (by simp[grow]) rfl ⟨rfl,rfl,le_refl _⟩ (λa E h=>by unfold World.frozen? at h⊢;rw[A _ E];exact h)
         exact⟨_,I,μ,rfl,bK.undef _ _,s2.kept A,Step.trans s1 aO (Step.trans s2 st2 aQ)⟩
        cases h0
       cases h
      cases h
     cases h
    cases h
   cases h
  cases h
 cases h
end
def DF(P:Program)(f:FuncId)(args:L' V)(y:V):Prop:=As P f/\∀I μ H w u,c_ I μ H w->cN I μ args u->CallsIn (fr none) 0 P f u.toArray w (zx I μ H w y H)
theorem PJ{P:Program}{call:dG}(a:lJ P call){f:FuncId}{b:Bool}{H':bn}(h:call (.fn f) [] []=some (.bool b,H')):DF P f [] (.bool b):=by
 have hi:∀H,cm call f [] H=some (.bool b):=by intro H;unfold cm;rw[show borrows call.lv H []=some []from rfl];simp only[h,kR _ H' (show(V.bool b).closed=true from rfl)];rfl
 refine⟨?_,λI μ H w u s c=>(Ea a (hi H) s c).2⟩;obtain⟨d,_⟩:=a.fn _ _ _ _ _ h;omega
structure XL(P:Program)(E:Env):Prop where
 sort:∀f,E.sort f=true->B6 P f
 known:∀f args y,E.known f args=some y->DF P f args y
end Go.VE
namespace Go.VE
variable[bY]
section
variable{P:Program}{E:Env}{I I':cA}{μ μ':Mu}{H H':bn}{n B:Nat}{F F':Frame}{a:Act}{w w':World}
theorem Mj:∀(F:Frame)(t:Nat),F.length<=t->get F t=.undef
 |[],_,_=>rfl|_::_,0,h=>by simp_all|_::r,i+1,h=>Mj r i Zac
theorem KM:∀(F:Frame)(t:Nat)(x:V),F[t]?=some x->get F t=x
 |[],_,_,h=>by simp_all|_::_,0,_,h=>by simpa[get]using h|_::r,i+1,x,h=>KM r i x Zac
theorem Nk(b:vi I){args:L' V}{vs:L' Value}{a:Nat}(h:cN I μ args vs)(B:args.length<=a):
 eM I μ a args (vs.toArray++replicate (a-vs.toArray.size) undef):=by
 have u:=h.1;refine⟨by simp_all,λt=>?_,b⟩
 by_cases C:t<args.length
 .have h1:args[t]?=some args[t]:=by simp_all
  have w:t<vs.length:=Zaa
  have z:vs[t]?=some vs[t]:=by simp_all
  rw[KM _ _ _ h1];have:(vs.toArray++replicate (a-vs.toArray.size) undef).getD t undef=vs[t]:=by rw[Array.getD_eq_getD_getElem?,Array.getElem?_append_left Zac];simp_all
  rw[this];exact h.2 t _ _ h1 z
 rw[Mj _ _ Zaa]
 have:(vs.toArray++replicate (a-vs.toArray.size) undef).getD t undef=undef:=by rw[Array.getD_eq_getD_getElem?,Array.getElem?_append_right (by simp_all),Array.getElem?_replicate];grind
 rw[this];exact bK.undef _ _
theorem Sw(r:eM I μ n F a.tmps){t:Nat}{x:V}{v:Value}(B:t<n)(h:bK I μ x v):eM I μ n (set F t x) (a.tmps.setIfInBounds t v):=by have:=eM.put (dst:=some t) r h (F':=set F t x) (by simp[ko,B]);simpa[Act.put]using this
theorem CW:∀(ps:L' Nat)(xs:L' V)(vs:L' Value)(F:Frame)(tmps:Array Value),eM I μ n F tmps->cN I μ xs vs->ps.all (·<n)=true->
 eM I μ n (zg ps xs F) ((ps.zip vs).foldl (λtmps(t,a)=>tmps.setIfInBounds t a) tmps)
 |[],_,_,F,tmps,r,_,_=>by simpa[zg]using r|t::ps,[],[],F,tmps,r,_,_=>by simpa[zg]using r|t::ps,[],v::vs,F,tmps,r,h,_=>by have:=h.1;grind|t::ps,x::xs,[],F,tmps,r,h,_=>by have:=h.1;grind|t::ps,x::xs,v::vs,F,tmps,r,h,u=>by simp only[List.all_cons,ζh,decide_eq_true_eq]at u;have c:=h.2 0 x v rfl rfl;have w:cN I μ xs vs:=⟨by have:=h.1;grind,λj a b d z=>h.2 (j+1) a b Zac Zac⟩;exact CW ps xs vs _ _ (Sw (a:={tmps:=tmps,defers:=[]}) r u.1 c) w u.2
theorem Ju{α β:Type}(g:α->Sem β):∀(l:L' α)(w:World)(B:L' β),B.length=l.length->(∀(j:Nat)x y,l[j]?=some x->B[j]?=some y->(g x).run P w=.ok y w)->(l.mapM g).run P w=.ok B w
 |[],w,[],_,_=>Zab|[],w,_::_,h,_=>by simp_all|_::_,w,[],h,_=>by simp_all|x::l,w,y::B,h,hg=>by have c:=hg 0 x y rfl rfl;have u:=Ju g l w B Zac (λj a b d z=>hg (j+1) a b Zac Zac);simp_all
def Ni(tmps:Array Value):ResultVar->Sem Value
 |.tmp t=>pure (tmps.getD t undef)|.cell a t=>do loadVar t (<-asAddr (tmps.getD a undef))
theorem MR(fn:Func)(tmps:Array Value):results fn tmps=(fn.results.mapM (Ni tmps) >>= λvs=>pure (if h:vs.size=1 then vs[0]else .tuple vs)):=by congr 1
theorem NM(W:eS P E){fn:Func}{tmps:Array Value}(r:eM I μ n F tmps)(s:c_ I μ H w){vs:L' V}(h:iR E F H fn.results.toList=some vs):
 ∃u,(results fn tmps).run P w=.ok u w/\bK I μ (result vs) u:=by
 have key:∀(l:L' ResultVar)(vs:L' V),iR E F H l=some vs->∃z:L' Value,z.length=l.length/\cN I μ vs z/\
  ∀(j:Nat)x y,l[j]?=some x->z[j]?=some y->(Ni tmps x).run P w=.ok y w:=by
  intro l
  induction l with
  |nil=>intro vs h;simp[iR]at h;subst h;exact⟨[],rfl,.nil,Zab⟩|cons x l U=>
   intro vs h
   cases x with
   |tmp t=>
    simp only[iR,ζf]at h;obtain⟨D,h,rfl⟩:=h;obtain⟨z,a,C,Q⟩:=U D h;refine⟨tmps.getD t undef::z,by simp_all,.cons (r.2 t) C,?_⟩
    intro j x y J L
    cases j with
    |zero=>simp at J L;subst J;subst L;simp[Ni]|succ j=>grind
   |cell p t=>
    simp only[iR]at h;split at h
    .rename_i d D hd S;simp only[ζf]at h;obtain⟨v,b,rfl⟩:=h;obtain⟨z,a,C,Q⟩:=U D S;obtain⟨u,_,c,X,T,G⟩:=Eu W s hd (r.2 p) b;refine⟨u::z,by simp_all,.cons c C,?_⟩
     intro j x y J L
     cases j with
     |zero=>
      simp only[List.getElem?_cons_zero,ζa]at J L;subst J;subst L;have e:(do loadVar t (<-asAddr (tmps.getD p undef))).run P w=(loadVar t X).run P w:=by rw[run_bind,T];rfl
      exact e.trans G
     |succ j=>grind
    grind
 obtain⟨z,a,C,Q⟩:=key _ _ h;have Z:=Ju _ fn.results.toList w z a Q;have Y:(fn.results.mapM (Ni tmps)).run P w=.ok z.toArray w:=by rw[Array.mapM_eq_mapM_toList];simp_all
 have O:z.length=vs.length:=C.1.symm;rw[MR,run_bind,Y]
 by_cases B:z.length=1
 .obtain⟨u,rfl⟩:=List.length_eq_one_iff.1 B;obtain⟨v,rfl⟩:=List.length_eq_one_iff.1 (O▸B);exact⟨u,Zab,by simpa[result]using C.2 0 v u rfl rfl⟩
 refine⟨.tuple z.toArray,by simp_all,?_⟩
 have f:result vs=.tup vs:=by match vs,O with|[],_=>rfl|[_],h=>exact absurd h B|_::_::_,_=>rfl
 rw[f];exact .tup _ _ (by simpa using C.1) (by simpa using C.2)
theorem OW(J:eS P E){fn:Func}{tmps:Array Value}{vs:L' V}(h:iR E F H' fn.results.toList=some vs)(U:w.heap.size<=B):∀(ds:L' Deferred)(w':World),
 eM I' μ' n F tmps->c_ I' μ' H' w'->Step I μ H w I' μ' H' w'->kL B ds w'->
 LeavesInM (fr none) 0 P fn tmps (zx I μ H w (result vs) H') ds .returning w':=by
 intro ds
 induction ds with
 |nil=>intro w' r s st m;obtain⟨u,b,c⟩:=NM J r s h;exact⟨u,b,u,I',μ',rfl,c,s,st⟩|cons d ds L=>
  intro w' r s st m;obtain⟨q,a,S,D⟩:=m.all d Zab
  refine⟨Zab,.inl ⟨q,_,a,run_takeDeferred D,?_⟩⟩
  have z:=vQ s D;have O:=U_ s D Zab Zab
  have m':kL B ds w':=⟨λd hd=>m.all d (mem_cons_of_mem _ hd),(List.pairwise_cons.1 m.apart).2⟩
  refine L (gz w' q (.deferred none)) r (s.B7 _ O z) (st.after _ Zaa) ⟨λG C=>?_,m'.apart⟩
  obtain⟨Q,g1,g2,g3⟩:=m'.all G C;refine⟨Q,g1,g2,?_⟩;rw[gR _ ?_];exact g3;rintro rfl;exact(List.pairwise_cons.1 m.apart).1 G C _ a g1
theorem FP(o:Out):(lU o).isNone=(o==.norm):=by cases o<;>simp[lU]<;>rfl
theorem HN(U:eS P E)(j:P.follows .mixedOrders=true)(b:XL P E):∀n,lJ P (run E n):=by
 intro n;induction n with|zero=>exact⟨λ_ _ _ _ _ h=>(by cases h),λ_ _ _ _ _ h=>(by cases h)⟩|succ n C=>
  constructor;intro f args H r H' h;rw[H7]at h;simp[kI]at h;split at h;rename_i J V;obtain⟨fn,m,hb,ae,T,L⟩:=U.ft f J V;refine⟨⟨fn,m,by simp_all,L⟩,?_⟩;intro I μ w B s a;split at h;rename_i u;have t:∀o F' H2 rs,exec E (run E n) n false J.ntmps J.body args H=some (o,F',H2)->(∀id,o≠.exit id)->iR E F' H2 J.results=some rs->CallsIn (fr none) 0 P f B.toArray w (zx I μ H w (result rs) H2):=by intro o F' H2 rs hx al hr;refine callsIn_of_wp_marks m hb trivial ?_;rw[ae];have c:=Nk s.gl a u;have:=Ay U j C n none false rfl J.ntmps J.body I μ args H {tmps:=B.toArray++replicate (J.ntmps-B.toArray.size) undef,defers:=[]} w o F' H2 hx c s ⟨Zab,.nil⟩ (le_refl _);refine wpIn_mono this ?_;rintro e a1 W ⟨rfl,⟨I1,y,r1,S,z⟩,m1⟩;have d:=OW U (by rw[T];omega) (le_refl _) a1.defers W r1 S z m1;cases o with|norm=>exact d|ret=>exact d|exit id=>grind
  split at h;simp_all;simp at h;grind;grind;grind;split at h;next A=>exact⟨(b.sort f A).ok,λI μ w B s a=>V8 C (b.sort f A) h s a⟩
  obtain⟨yy,F,h⟩:=ζf.1 h;cases h;exact⟨(b.known f args _ F).1,λI μ w B s a=>(b.known f args _ F).2 I μ H w B s a⟩;intro id args H r H' h I μ w B p s a hp;rw[H7]at h;simp only[kI]at h;split at h
  .rename_i rec X;split at h
   .split at h
    .rename_i u;split at h
     .rename_i F2 H2 af;split at h
      .rename_i r2 Y;split at h
       .rename_i Z;split at h
        .rename_i o F4 H4 ah;split at h
         .rename_i r4 aa;obtain⟨rfl,rfl⟩:=h;obtain⟨q,l,g1,g2,g3,g4⟩:=Cq s X;rw[hp]at g1;cases g1;have ai:l.params.size=rec.params.length:=by have:=congrArg List.length g4.params;grind
          have aj:B.toArray.size=l.params.size:=by rw[ai,<-u.1];simpa using a.1.symm
          refine⟨p.b,l.fn,_,l.assign,l.body,run_yield g3 aj,?_⟩;refine roundIn_of_wpIn trivial ?_;have O:(l.params.zip B.toArray).foldl (λtmps x=>tmps.setIfInBounds x.1 x.2) l.tmps=(rec.params.zip B).foldl (λtmps x=>tmps.setIfInBounds x.1 x.2) l.tmps:=by rw[<-Array.foldl_toList,Array.toList_zip,g4.params]
          have c:=CW rec.params args B rec.frame l.tmps g4.frame a u.2;rw[<-O]at c;have W:=Ay U j C n (some p.b) true rfl rec.nt rec.assign I μ _ H {tmps:=_,defers:=[]} w _ _ _ af c s ⟨Zab,.nil⟩ (le_refl _);rw[g4.assign,g4.body];refine wpIn_mono W ?_;rintro e a1 W ⟨rfl,⟨I1,y,r1,S,z⟩,m1⟩;obtain⟨q,g,k1,k2,k3,k4⟩:=Cq S Y;rw[z.mu _ _ hp]at k1;cases k1;have D:g.state=.ready:=by have:=k4.st;rw[Z]at this;cases d:g.state<;>rw[d]at this<;>simp[CM.is]at this
          refine⟨_,run_beginRound k3 D,?_⟩;have G:=z.mu _ _ hp;obtain⟨K,st2⟩:=S.write (ob':=.loop {r2 with st:=.busy}) Y rfl G
           ⟨p,{g with state:=.busy},G,k2,iZ _ (Array.getElem?_eq_some_iff.1 k3).1,⟨trivial,k4.pend,k4.pendOk,k4.frame,k4.params,k4.assign,k4.body⟩⟩
          have m2:=m1.step S st2;have w2:=Ay U j C n (some p.b) true rfl rec.nt rec.body I1 y F2 _ a1 (gz W p.b (.loop {g with state:=.busy})) o F4 H4 ah r1 K m2 (by rw[ya];exact z.size);refine wpIn_mono w2 ?_;rintro e a3 w3 ⟨rfl,⟨I3,μ3,r3,k,Q⟩,m3⟩;obtain⟨q,l4,M,j2,N,i⟩:=Cq k aa;rw[Q.mu _ _ G]at M;cases M;have R:=Q.mu _ _ G;have fin:∃v w',(Instr.endRound p.b (lU o)).run P w3=.ok v w'/\zx I μ H w (.bool (o==.norm)) (H4.set id (.loop {r4 with st:=(if o==.norm then .ready else .done),pend:=(if o==.norm then none else some o)})) (.returned v) w':=by
           refine⟨_,_,run_endRound (lU o) N,?_⟩;obtain⟨s4,ak⟩:=k.write (ob':=.loop {r4 with st:=(if o==.norm then .ready else .done),pend:=(if o==.norm then none else some o)}) aa rfl R
            ⟨p,{l4 with state:=if(lU o).isNone then .ready else .done,pending:=lU o},R,j2,iZ _ (Array.getElem?_eq_some_iff.1 N).1,⟨by cases o<;>exact trivial,by cases o<;>rfl,by cases o<;>simp,i.frame,i.params,i.assign,i.body⟩⟩
           refine⟨_,I3,μ3,rfl,?_,s4,Step.trans S z (Step.trans K st2 (Step.trans k Q ak))⟩;rw[FP];exact .c _ _ (.bool _)
          cases o with|norm=>exact fin|ret=>exact fin|exit id=>exact fin
         grind
        grind
       grind
      grind
     grind
    grind
   grind
  grind
end
end Go.VE
namespace Go.VE
variable[bY]
variable{P:Program}
theorem qS.On{t:TypeId}{d:TD}(h:xO P t=some d):qS P t d:=eS.ty (E:={tt:=xO P,ft:=λ_=>none,keep:=λ_=>false,own:=λ_=>false,eqN:=λ_=>none,sort:=λ_=>false}) ⟨λ_ _ h=>h,Zab,Zab⟩ h
theorem sX{i:TypeId}{cs:Array Value}{o:Nat}{v:Value}{w:World}(hi:xO P i=some ⟨1,8,[.int .i64 0],.int .i64⟩)(h:cs[o]?=some v):(part i cs o).run P w=.ok v w:=by unfold part;simp[run_bind,(qS.On hi).MM,andThen,TD.agg,h]
theorem uF{a:L' Int}(h:a.length=2):∃x y,a=[x,y]:=by match a,h with|[x,y],_=>exact⟨x,y,rfl⟩
theorem BL(d:Nat)(e:Bool){i:TypeId}(x:Int){w:World}(B:P.underlying i=some (.int .i64)):(checkKey e (d+1) i (.int .i64 x)).run P w=.ok () w:=by simp only[checkKey,run_bind,dP B,andThen_ok,run_pure]
theorem KP(d:Nat)(e:Bool){t i:TypeId}{f g:Field}(x y:Int){w:World}(hu:P.underlying t=some (.struct #[f,g]))(D:f.type=i)(hg:g.type=i)(of:f.offset=0)(G:g.offset=1)(nf:f.name≠ "_")(J:g.name≠ "_")
 (hi:xO P i=some ⟨1,8,[.int .i64 0],.int .i64⟩)(B:P.underlying i=some (.int .i64)):(checkKey e (d+1+1) t (.agg (ic [x,y]))).run P w=.ok () w:=by
 have u:∀w,(part i (ic [x,y]) 0).run P w=.ok (.int .i64 x) w:=λw=>sX hi rfl
 have p1:∀w,(part i (ic [x,y]) 1).run P w=.ok (.int .i64 y) w:=λw=>sX hi rfl
 have q:∀(x:Int)w,(checkKey e (d+1) i (.int .i64 x)).run P w=.ok () w:=λx w=>BL d e x B
 unfold checkKey;simp only[run_bind,dP hu,andThen_ok];rw[<-Array.forIn_toList];simp only[List.forIn_cons,List.forIn_nil,run_bind,D,hg,of,G,nf,J,ne_eq,not_false_eq_true,if_true,u,p1,q,andThen_ok,run_pure]
theorem xh.two{t i:TypeId}{f g:Field}(hu:P.underlying t=some (.struct #[f,g]))(U:f.type=i)(hg:g.type=i)(of:f.offset=0)(W:g.offset=1)(nf:f.name≠ "_")(Y:g.name≠ "_")
 (hi:xO P i=some ⟨1,8,[.int .i64 0],.int .i64⟩)(G:P.underlying i=some (.int .i64))(hs:P.stoodInHeld t=false)(hq:P.eqGuardType P.depth t=false):xh P t 2:=by
 have I:P.fieldsOf t=#[f,g]:=by unfold Program.fieldsOf;rw[hu]
 have B:∀(w:World)(x y z u:Int),(equal t (.agg (ic [x,y])) (.agg (ic [z,u]))).run P w=.ok ([x,y]==[z,u]) w:=by
  intro w x y z u;show(equalIn (9999+1) t _ _).run P w=_;rw[run_equalIn_struct w 9999 t _ _ (by rw[I];exact hu) hs,I];have Q:∀(x y:Int)w,(part i (ic [x,y]) 0).run P w=.ok (.int .i64 x) w:=λx y w=>sX hi rfl;have p1:∀(x y:Int)w,(part i (ic [x,y]) 1).run P w=.ok (.int .i64 y) w:=λx y w=>sX hi rfl;have q:∀(x y:Int)w,(equalIn 9999 i (.int .i64 x) (.int .i64 y)).run P w=.ok (x==y) w:=λx y w=>CN 9998 x y G;simp only[Op.eqFields,U,hg,of,W,nf,Y,ne_eq,not_false_eq_true,if_true,run_bind,Q,q,andThen_ok];by_cases C:x=z;by_cases J:y=u;subst C;subst J;simp[run_bind,p1,q,andThen];subst C;have:(y==u)=false:=by simpa using J
  simp[run_bind,p1,q,andThen,this];have:(x==z)=false:=by simpa using C
  simp[this]
 have L:∀(op:BinOp)(p q:Operand)(w:World)(u v:Array Value),(eqGuard op t p q (.agg u) (.agg v)).run P w=.ok () w:=by intro op p q w u v;unfold eqGuard;cases op<;>simp[run_bind,run_program,andThen,hq]
 refine⟨?_,?_,?_,?_,⟨_,hu,.inr ⟨_,rfl⟩⟩⟩
 .intro w p q a b D O;obtain⟨x,y,rfl⟩:=uF D;obtain⟨z,u,rfl⟩:=uF O;rw[run_bind,L,andThen_ok];show(do pure (Value.bool (<-equal t (.agg (ic [x,y])) (.agg (ic [z,u])))):Sem Value).run P w=_
  rw[run_bind,B];rfl
 .intro w p q a b D O;obtain⟨x,y,rfl⟩:=uF D;obtain⟨z,u,rfl⟩:=uF O;rw[run_bind,L,andThen_ok];show(do pure (Value.bool (!(<-equal t (.agg (ic [x,y])) (.agg (ic [z,u]))))):Sem Value).run P w=_
  rw[run_bind,B];rfl
 .intro w a b D O;obtain⟨x,y,rfl⟩:=uF D;obtain⟨z,u,rfl⟩:=uF O;exact B w x y z u
 intro w e a D;obtain⟨x,y,rfl⟩:=uF D;exact KP 9998 e x y hu U hg of W nf Y hi G
def lk{α:Type}:L' (Nat×α)->Nat->Lk α
 |[],_=>none|(k,v)::r,n=>bif beq k n then some v else lk r n
theorem PE{α:Type}:∀{l:L' (Nat×α)}{n:Nat}{v:α},lk l n=some v->(n,v)∈l
 |[],_,_,h=>by simp[lk]at h|(k,x)::r,n,v,h=>by simp only[lk]at h;cases a:beq k n with|true=>rw[a]at h;simp only[cond_true,ζa]at h;have:=Nat.eq_of_beq_eq_true a;subst this;subst h;simp|false=>rw[a]at h;exact mem_cons_of_mem _ (PE h)
end Go.VE
namespace Go.VE
variable[bY]
inductive KT where|bool|str|slice|ptr|map|int|other
 deriving DecidableEq
def TK.tag:TK->KT
 |.bool=>.bool|.int _=>.int|.str=>.str|.ptr _=>.ptr|.slice _=>.slice|.map ..=>.map|_=>.other
def pV(k:KT)(x y:V):Lk Bool:=
 match k,x,y with
 |.slice,.bM,.bM=>some true|.slice,.fsl ..,.bM=>some false|.slice,.hsl ..,.bM=>some false|.ptr,.iI,.iI=>some true|.ptr,.fptr _,.iI=>some false|.ptr,.hptr ..,.iI=>some false|.map,.gD,.gD=>some true|.map,.fmap _,.gD=>some false|.map,.hmap _,.gD=>some false|_,_,_=>none
def h_(k:Lk KT)(e:Lk Nat)(op:BinOp)(x y:V):Lk V:=
 match x,y with
 |.int k a,.int u b=>
  match op with
  |.shl=>if b<0 then none else some (.int k (k.wrap (a*2 ^ (min b.toNat k.bits))))|.shr=>if b<0 then none else some (.int k (a.fdiv (2 ^ (min b.toNat k.bits))))|_=>if k=u then
   match op with
   |.add=>some (.int k (k.wrap (a+b)))|.sub=>some (.int k (k.wrap (a-b)))|.mul=>some (.int k (k.wrap (a*b)))|.quo=>if b=0 then none else some (.int k (k.wrap (a.tdiv b)))|.rem=>if b=0 then none else some (.int k (a.tmod b))|.and=>some (.int k (k.wrap (ofInt k.bits a &&& ofInt k.bits b).toNat))|.or=>some (.int k (k.wrap (ofInt k.bits a ||| ofInt k.bits b).toNat))|.xor=>some (.int k (k.wrap (ofInt k.bits a ^^^ ofInt k.bits b).toNat))|.andNot=>some (.int k (k.wrap (ofInt k.bits a &&& ~~~ ofInt k.bits b).toNat))|op=>(oR op a b).map .bool
   else none
 |.str a,.str b=>
  match op with
  |.add=>if((a.size+b.size:Nat):Int)>IntKind.i64.max then none else some (.str (a++b))|.eql=>some (.bool (a.toList==b.toList))|.neq=>some (.bool !(a.toList==b.toList))|.lss=>some (.bool (bytesLess a.toList b.toList))|.leq=>some (.bool (bytesLess a.toList b.toList||a.toList==b.toList))|.gtr=>some (.bool !(bytesLess a.toList b.toList||a.toList==b.toList))|.geq=>some (.bool !(bytesLess a.toList b.toList))|_=>none
 |.bool a,.bool b=>
  match k,op with
  |some .bool,.eql=>some (.bool (a==b))|some .bool,.neq=>some (.bool !(a==b))|_,_=>none
 |.agg a,.agg b=>
  match e,op with
  |some n,.eql=>if a.length=n then(lM a b).map .bool else none|some n,.neq=>if a.length=n then(lM a b).map (λt=>.bool !t)else none|_,_=>none
 |x,y=>
  match k,op with
  |some k,.eql=>(pV k x y).map .bool|some k,.neq=>(pV k x y).map λt=>.bool !t|_,_=>none
theorem M7(k:TK)(x y:V):vr k x y=pV k.tag x y:=by cases k<;>cases y<;>(try rfl)<;>cases x<;>rfl
theorem V7(E:Env)(op:BinOp)(t:TypeId)(x y:V):JQ E op t x y=h_ ((E.kindOf t).map TK.tag) (E.eqN t) op x y:=by
 unfold JQ;split;rfl;rfl;cases b:E.kindOf t with|none=>rfl|some k=>cases k<;>cases op<;>rfl
 rfl;rename_i a u w z
 cases b:E.kindOf t with
 |none=>rw[h_.eq_29 _ _ _ _ _ a u w z Zab Zab]|some k=>
  simp only[M7];cases op<;>first
   |exact(h_.eq_27 _ _ _ _ a u w z).symm|exact(h_.eq_28 _ _ _ _ a u w z).symm|(rw[h_.eq_29 _ _ _ _ _ a u w z Zab Zab])
inductive vL where
 |id|pick|nilc
 |bin(k:Option KT)(e:Option Nat)(op:BinOp)
 |not|neg
 |conv(k:IntKind)
 |fieldAddr(off:Nat)
 |field(off size:Nat)(agg:Bool)
 |idxS(size:Nat)
 |idxA(len size:Nat)
 |idxStr
 |idxArr(len size:Nat)(agg:Bool)
 |sliceStr(lo hi:Bool)
 |slice(size:Nat)(lo hi:Bool)
 |slice00
 |build(zero:List V)(pl:List (Nat×Nat))
 |clo(name:Nat)(k:Nat)
 |ext(i:Nat)
 |lenStr|lenSl|capSl|max|min|bad|max4
 |makeC(size:Nat)(zero:List V)
 |buildC(size len:Nat)(zero:List V)(idx:List Nat)
 |emptyC
def NP:V->Lk V
 |.hptr id el off=>some (.hptr id el off)|.fptr cs=>some (.fptr cs)|.clo f a b=>some (.clo f a b)|_=>none
def iD(off:Nat):V->Lk V
 |.fptr cs=>if off<=cs.length then some (.fptr (cs.drop off))else none|.hptr id el o=>some (.hptr id el (o+off))|_=>none
def mH(size:Nat)(s:V)(n:Int):Lk V:=
 if n<0 then none else match s with
 |.fsl es u=>if es=size then(u[n.toNat]?).map .fptr else none|.hsl id es off len=>if es=size/\n.toNat<len then some (.hptr id (off+n.toNat) 0)else none|_=>none
def yh(len size:Nat)(p:V)(n:Int):Lk V:=
 if 0<=n/\n<len then match p with
  |.fptr cs=>if n.toNat*size<=cs.length then some (.fptr (cs.drop (n.toNat*size)))else none|.hptr id el o=>some (.hptr id el (o+n.toNat*size))|_=>none
 else none
def mz:Bool->Bool->L' V->Lk (Lk Int×Lk Int)
 |false,false,[]=>some (none,none)|true,false,[.int _ l]=>some (some l,none)|false,true,[.int _ h]=>some (none,some h)|true,true,[.int _ l,.int _ h]=>some (some l,some h)|_,_,_=>none
def iG(size:Nat)(v:V)(l h:Lk Int):Lk V:=
 match v with
 |.fsl es u=>if es=size then(dX u.length l h).map λ(l,h)=>.fsl es ((u.take h).drop l)else none|.hsl id es off len=>if es=size then(dX len l h).map λ(l,h)=>.hsl id es (off+l) (h-l)else none|.dL=>(dX 0 l h).map λ_=>.dL|.bM=>(dX 0 l h).map λ_=>.bM|_=>none
def Oz:V->Bool
 |.fsl ..|.hsl ..|.dL|.bM=>true|_=>false
def lC(cells:L' V):L' (Nat×Nat)->L' V->Lk (L' V)
 |[],[]=>some cells|(off,size)::pl,v::vs=>
  if v.cells.length≠size||off+v.cells.length>cells.length then none
  else lC (cells.take off++v.cells++cells.drop (off+v.cells.length)) pl vs
 |_,_=>none
def o8:V->Lk V
 |.fsl _ xs=>some (.int .i64 xs.length)|.hsl _ _ _ len=>some (.int .i64 len)|.dL=>some (.int .i64 0)|.bM=>some (.int .i64 0)|_=>none
def Ja:V->Lk V
 |.bM|.dL=>some (.int .i64 0)|_=>none
def bl(N:Nat->FuncId):vL->L' V->Lk V
 |.id,[x]=>some x
 |.pick,[.bool t,a,b]=>some (if t then a else b)
 |.nilc,[x]=>NP x
 |.bin k e op,[x,y]=>h_ k e op x y
 |.not,[.bool b]=>some (.bool !b)
 |.neg,[.int k n]=>some (.int k (k.wrap (0-n)))
 |.conv k,[.int _ n]=>some (.int k (k.wrap n))
 |.fieldAddr off,[p]=>iD off p
 |.field off size agg,[.agg cs]=>(cut cs off size).bind (mk agg)
 |.idxS size,[s,.int _ n]=>mH size s n
 |.idxA len size,[p,.int _ n]=>yh len size p n
 |.idxStr,[.str s,.int _ n]=>if 0<=n then(s[n.toNat]?).map (λb=>.int .u8 b.toNat)else none
 |.idxArr len size agg,[.agg cs,.int _ n]=>if 0<=n/\n<len then(cut cs (n.toNat*size) size).bind (mk agg)else none
 |.sliceStr lo hi,.str s::D=>(mz lo hi D).bind λ(l,h)=>(dX s.size l h).map λ(l,h)=>.str (s.extract l h)
 |.slice size lo hi,v::D=>(mz lo hi D).bind λ(l,h)=>iG size v l h
 |.slice00,[v,.int _ h,.int _ m]=>if Oz v&&h==0&&m==0 then some .dL else none
 |.build zero pl,vs=>(lC zero pl vs).map .agg
 |.clo name k,vs=>some (.clo (N name) (vs.take k) (vs.drop k))
 |.ext i,[.tup vs]=>vs[i]?
 |.lenStr,[.str s]=>some (.int .i64 s.size)
 |.lenSl,[v]=>o8 v
 |.capSl,[v]=>Ja v
 |.max,[.int k a,.int B b]=>if k=B then some (.int k (if b>a then b else a))else none
 |.max4,[.int k a,.int k1 b,.int k2 c,.int k3 d]=>if k=k1/\k=k2/\k=k3 then some (.int k (Dc (Dc (Dc a b) c) d))else none
 |.min,[.int k a,.int B b]=>if k=B then some (.int k (if b<a then b else a))else none
 |.makeC size zero,[.int k n,.int B m]=>if k=.i64/\B=.i64/\0<=n/\n=m/\m<=2147483648/\zero.all V.scalar=true then some (.fsl size (List.replicate n.toNat zero))else none
 |.buildC size len zero idx,vs=>if V.cV vs=true/\idx.length=vs.length then match fG size (List.replicate len zero) (idx.zip vs)with
  |some xs=>if xs.isEmpty=false/\(xs.all λx=>x.all V.scalar)=true then some (.fsl size xs)else none
  |none=>none
  else none
 |.emptyC,[]=>some .dL
 |_,_=>none
inductive yW where|int (k:IntKind)|str|ints (n:Nat)
def Ez(E:Env)(t:TypeId):Lk yW:=
 match E.kindOf t with
 |some (.int k)=>some (.int k)|some .str=>some .str|some _=>(E.eqN t).map .ints|none=>none
def qD:yW->V->Bool
 |.int k,.int B _=>k==B|.str,.str _=>true|.ints n,.agg cs=>cs.length==n&&(iS cs).isSome|_,_=>false
inductive LC where
 |load(size:Nat)(agg:Bool)|loadF(size:Nat)(agg:Bool)|lookup(kk:yW)(zero:V)(ok:Bool)
def eZ(H:bn):LC->L' V->Lk V
 |.load size agg,[p]=>(ey H p size).bind (mk agg)|.lookup kk z ok,[m,k]=>match ny H m with
  |some B=>if qD kk k then match iK k B 0 with
   |some (some (_,v))=>some (if ok then .tup [v,.bool true]else v)|some none=>some (if ok then .tup [z,.bool false]else z)|none=>none
   else none
  |none=>none
 |_,_=>none
inductive Qk where
 |alloc(size:Nat)(zero:List V)|box|makeSl(size:Nat)(zero:List V)|buildSl(size len:Nat)(zero:List V)(idx:List Nat)|makeMap
def iM:Qk->L' V->Lk (Ob×Mk)
 |.alloc size zero,[]=>some (.row size [zero],.ptr)|.box,[v]=>if v.cells.all V.one then some (.row v.cells.length [v.cells],.ptr)else none|.makeSl size zero,[.int k n,.int B m]=>if k=.i64/\B=.i64/\0<=n/\n<=m/\m<=2147483648 then some (.row size (List.replicate m.toNat zero),.sl size n.toNat)else none|.buildSl size len zero idx,vs=>if idx.length=vs.length then(fG size (List.replicate len zero) (idx.zip vs)).map λxs=>(.row size xs,.sl size len)else none|.makeMap,[]=>some (.map [],.map)|_,_=>none
inductive LY where
 |store(size:Nat)|storeF(size:Nat)|mapUp(kk:yW)|append(size:Nat)|appMk(size bytes:Nat)(zero:List V)|clear(size:Nat)(zero:List V)
def fE(H:bn):LY->L' V->Lk (V×bn)
 |.store size,[.hptr id el off,v]=>match H[id]?with
  |some (.row es xs)=>match xs[el]?with
   |some cs=>if v.cells.length=size/\off+size<=cs.length/\v.cells.all V.one=true then
    some (.undef,H.set id (.row es (xs.set el (cs.take off++v.cells++cs.drop (off+v.cells.length)))))else none
   |none=>none
  |_=>none
 |.mapUp kk,[.hmap id,k,v]=>match H[id]?with
  |some (.map B)=>if qD kk k then(qU k v B).map λB=>(.undef,H.set id (.map B))else none|_=>none
 |.append size,[s,x]=>match dM H size s,dM H size x with
  |some _,some []=>some (s,H)|some xs,some ys=>if xs.length+ys.length<=2147483648 then(iy H s).map λH1=>(.hsl H.length size 0 (xs.length+ys.length),H1++[.row size (xs++ys)])else none|_,_=>none
 |.appMk size bytes zero,[s,x]=>mkApp H size bytes zero s x|.clear size zero,[v]=>DU H size zero v|.storeF size,.hptr id el off::v::l=>if l.all (rX id)=true then match H[id]?with
  |some (.row es xs)=>match xs[el]?with
   |some cs=>if v.cells.length=size/\off+size<=cs.length/\v.cells.all V.one=true then
    some (.undef,H.set id (.row es (xs.set el (cs.take off++v.cells++cs.drop (off+v.cells.length)))))else none
   |none=>none
  |_=>none
  else none
 |_,_=>none
inductive K where
 |p(p:vL)|r(r:LC)|a(a:Qk)|l(l:LY)|c|e(size:Nat)|b
def Zy(E:Env)(t:TypeId):Lk KT:=(E.kindOf t).map TK.tag
def resolve(E:Env)(nm:FuncId->Lk Nat):Op->Lk (K×L' Operand)
 |.move x|.assign x=>some (.p .id,[x])
 |.pick c a b=>some (.p .pick,[c,a,b])
 |.nilCheck x=>some (.p .nilc,[x])
 |.binOp op t x y _=>some (.p (.bin (Zy E t) (E.eqN t) op),[x,y])
 |.unOp .not _ x=>some (.p .not,[x])
 |.unOp .neg _ x=>some (.p .neg,[x])
 |.convert s d x=>match E.tt s,E.tt d with
  |some _,some G=>match G.kind with
   |.int k=>some (.p (.conv k),[x])
   |.str=>match E.kindOf s with
    |some (.slice e)=>match E.kindOf e with
     |some (.int .u8)=>some (.b,[x])
     |_=>none
    |_=>none
   |_=>none
  |_,_=>none
 |.fieldAddr s x f=>match E.kindOf s with
  |some (.struct fs)=>match fs[f]?with
   |some (off,t)=>match E.tt t with
    |some d=>if d.size=0 then none else some (.p (.fieldAddr off),[x])
    |none=>none
   |none=>none
  |_=>none
 |.field s x f=>match E.kindOf s with
  |some (.struct fs)=>match fs[f]?with
   |some (off,t)=>match E.tt t with
    |some d=>some (.p (.field off d.size d.agg),[x])
    |none=>none
   |none=>none
  |_=>none
 |.indexAddr t x i=>match E.kindOf t with
  |some (.slice e)=>(E.tt e).map λd=>(.p (.idxS d.size),[x,i])
  |some (.array len e)=>(E.tt e).map λd=>(.p (.idxA len d.size),[x,i])
  |_=>none
 |.index t x i=>match E.kindOf t with
  |some .str=>some (.p .idxStr,[x,i])
  |some (.array len e)=>(E.tt e).map λd=>(.p (.idxArr len d.size d.agg),[x,i])
  |_=>none
 |.slice t x lo hi J=>match E.kindOf t,J with
  |some .str,none=>some (.p (.sliceStr lo.isSome hi.isSome),x::(lo.toList++hi.toList))
  |some (.slice e),none=>(E.tt e).map λd=>(.p (.slice d.size lo.isSome hi.isSome),x::(lo.toList++hi.toList))
  |some (.slice e),some m=>match E.tt e,lo,hi with
   |some _,none,some h=>some (.p .slice00,[x,h,m])
   |_,_,_=>none
  |_,_=>none
 |.build t ps=>match E.tt t with
  |some d=>match d.kind with
   |.struct fs=>match od E fs with
    |some pl=>(ps.toList.mapM λ(q:Nat×Operand)=>pl[q.1]?).map λq=>(K.p (.build d.zero q),ps.toList.map λ(q:Nat×Operand)=>q.2)
    |none=>none
   |.array _ e=>(E.tt e).map λD=>(K.p (.build d.zero (ps.toList.map λ(q:Nat×Operand)=>(q.1*D.size,D.size))),ps.toList.map λ(q:Nat×Operand)=>q.2)
   |_=>none
  |none=>none
 |.makeFunc (.func f) a b=>(nm f).map λs=>(.p (.clo s a.toList.length),a.toList++b.toList)
 |.extract x i=>some (.p (.ext i),[x])
 |.load t a=>(E.tt t).map λd=>(.r (.load d.size d.agg),[a])
 |.lookup t m k ok=>match E.kindOf t with
  |some (.map B U)=>match E.tt U,Ez E B with
   |some d,some kk=>(mk d.agg d.zero).map λz=>(.r (.lookup kk z ok),[m,k])
   |_,_=>none
  |_=>none
 |.alloc t=>(E.tt t).map λd=>(.a (.alloc d.size d.zero),[])
 |.box _ x=>some (.a .box,[x])
 |.makeSlice t l c=>match E.kindOf t with
  |some (.slice e)=>match E.tt e with
   |some d=>if d.bytes<=4096 then some (.a (.makeSl d.size d.zero),[l,c])else none
   |none=>none
  |_=>none
 |.buildSlice t len ps=>match E.kindOf t with
  |some (.slice e)=>match E.tt e with
   |some d=>if len*d.size<=16777216 then some (.a (.buildSl d.size len d.zero (ps.toList.map (·.1))),ps.toList.map (·.2))else none
   |none=>none
  |_=>none
 |.makeMap _ none=>some (.a .makeMap,[])
 |.store t a x=>(E.tt t).map λd=>(.l (.store d.size),[a,x])
 |.mapUpdate t m k x|.insert t m k x=>match E.kindOf t with
  |some (.map B _)=>(Ez E B).map λkk=>(.l (.mapUp kk),[m,k,x])
  |_=>none
 |.call {callee:=.builtin .append,args,argTypes}=>match argTypes.toList,args.toList with
  |[t,W],[s,x]=>match E.kindOf t,E.kindOf W with
   |some (.slice e),some (.slice _)=>match E.tt e with
    |some d=>if d.bytes<=4096/\0<d.bytes then some (.l (.append d.size),[s,x])else none
    |none=>none
   |some (.slice e),some (.int _)=>(E.tt e).map λd=>(.l (.appMk d.size d.bytes d.zero),[s,x])
   |_,_=>none
  |_,_=>none
 |.call {callee:=.builtin .len,args,argTypes}=>match argTypes[0]?,args.toList with
  |some t,[x]=>match E.kindOf t with
   |some .str=>some (.p .lenStr,[x])
   |some (.slice _)=>some (.p .lenSl,[x])
   |_=>none
  |_,_=>none
 |.call {callee:=.builtin .cap,args,argTypes}=>match argTypes[0]?,args.toList with
  |some t,[x]=>match E.kindOf t with
   |some (.slice _)=>some (.p .capSl,[x])
   |_=>none
  |_,_=>none
 |.call {callee:=.builtin .clear,args,argTypes}=>match argTypes[0]?,args.toList with
  |some t,[x]=>match E.kindOf t with
   |some (.slice e)=>(E.tt e).map λd=>(.l (.clear d.size d.zero),[x])
   |_=>none
  |_,_=>none
 |.panic _=>some (.p .bad,[])
 |.makeInterface ..=>some (.p .bad,[])
 |.call {callee:=.builtin .max,args,..}=>match args.toList with
  |[x,y]=>some (.p .max,[x,y])
  |[x,y,z,t]=>some (.p .max4,[x,y,z,t])
  |_=>none
 |.call {callee:=.builtin .min,args,..}=>match args.toList with
  |[x,y]=>some (.p .min,[x,y])
  |_=>none
 |.call {callee:=.value f,args,..}=>some (.c,f::args.toList)
 |_=>none
section
variable{E:Env}{nm:FuncId->Lk Nat}{N:Nat->FuncId}{F:Frame}
theorem pM{x:Operand}{vs:L' V}(h:fI F [x]=some vs):∃a,ev F x=some a/\vs=[a]:=by simp[fI]at h;grind
theorem jl{x:Operand}{l:L' Operand}{vs:L' V}(h:fI F (x::l)=some vs):∃a az,ev F x=some a/\fI F l=some az/\vs=a::az:=by simp[fI]at h;grind
theorem qX{vs:L' V}(h:fI F []=some vs):vs=[]:=by simp[fI]at h;grind
theorem tL{x y:Operand}{vs:L' V}(h:fI F [x,y]=some vs):∃a b,ev F x=some a/\ev F y=some b/\vs=[a,b]:=by obtain⟨a,az,w,u,rfl⟩:=jl h;obtain⟨b,z,rfl⟩:=pM u;grind
theorem Kg{x y z:Operand}{vs:L' V}(h:fI F [x,y,z]=some vs):∃a b c,ev F x=some a/\ev F y=some b/\ev F z=some c/\vs=[a,b,c]:=by obtain⟨a,az,w,u,rfl⟩:=jl h;obtain⟨b,c,B,d,rfl⟩:=tL u;grind
theorem Ou{l m:L' Operand}{vs:L' V}(h:fI F (l++m)=some vs):∃az B,fI F l=some az/\fI F m=some B/\vs=az++B:=by induction l generalizing vs with|nil=>exact⟨[],vs,rfl,h,rfl⟩|cons x l u=>obtain⟨a,az,w,z,rfl⟩:=jl h;obtain⟨b,c,C,d,rfl⟩:=u z;refine⟨a::b,c,?_,d,rfl⟩;simp[fI,w,C]
theorem Oy{l:L' Operand}{vs:L' V}(h:fI F l=some vs):vs.length=l.length:=by induction l generalizing vs with|nil=>rw[qX h];rfl|cons x l u=>obtain⟨a,az,_,w,rfl⟩:=jl h;grind
def Co(E:Env)(N:Nat->FuncId)(F:Frame)(op:Op)(vs:L' V):K->Prop
 |.p p=>dw op=.pure/\∀v,bl N p vs=some v->bQ E F op=some v|.r r=>dw op=.read/\∀H v,eZ H r vs=some v->dZ E F H op=some v|.a a=>dw op=.alloc/\∀x,iM a vs=some x->e_ E F op=some x|.l l=>dw op=.loud/\∀H x,fE H l vs=some x->dm E F H op=some x|.e _=>False|.b=>dw op=.pure/\∃x,vs=[x]/\∀H ys l,dM H 1 x=some ys->mh ys=some l->bQ E F op=none/\evalConv E F H op=some (.str (nj l))|.c=>dw op=.call/\∃f az,vs=f::az/\kC F op=(match f with|.clo g a b=>some (.fn g,a++az++b)|.yld id=>some (.yld id,az)|_=>none)
theorem IK(place:Nat->Lk (Nat×Nat)):∀(ps:L' (Nat×Operand))(q:L' (Nat×Nat))(vs:L' V)(cells cs:L' V),(ps.mapM λ(x:Nat×Operand)=>place x.1)=some q->
 fI F (ps.map λ(x:Nat×Operand)=>x.2)=some vs->lC cells q vs=some cs->∃B,ng F ps=some B/\vg place cells B=some cs:=by
 intro ps
 induction ps with
 |nil=>
  intro q vs cells cs u b h;simp at u;subst u;have:=qX (by simpa using b);subst this
  simp[lC]at h;subst h;exact⟨[],rfl,rfl⟩
 |cons p ps D=>
  intro q vs cells cs u b h;obtain⟨i,x⟩:=p;simp only[List.mapM_cons,Option.pure_def,Option.bind_eq_bind,ζg,ζa]at u;obtain⟨pl,w,G,z,rfl⟩:=u;obtain⟨a,az,I,C,rfl⟩:=jl (by simpa using b)
  simp only[lC]at h;split at h
  .simp_all
  obtain⟨B,c,J⟩:=D G az _ cs z C h;refine⟨(i,a)::B,by simp[ng,I,c],?_⟩
  simp[vg,w]
  grind
theorem PC:∀(ps:L' (Nat×Operand))(vs:L' V),fI F (ps.map λ(x:Nat×Operand)=>x.2)=some vs->ng F ps=some ((ps.map λ(x:Nat×Operand)=>x.1).zip vs):=by intro ps;induction ps with|nil=>simp[ng]|cons p ps w=>intro vs b;obtain⟨a,az,z,u,rfl⟩:=jl (by simpa using b);simp[ng,z,w az u]
theorem Jf{lo hi:Lk Operand}{vs:L' V}{l h:Lk Int}(c:fI F (lo.toList++hi.toList)=some vs)(B:mz lo.isSome hi.isSome vs=some (l,h)):kz F lo=some l/\kz F hi=some h:=by
 cases lo with
 |none=>cases hi with|none=>have:=qX (by simpa using c);subst this;obtain⟨rfl,rfl⟩:=B;exact⟨rfl,rfl⟩|some y=>obtain⟨b,u,rfl⟩:=pM (by simpa using c);cases b<;>simp[mz]at B;obtain⟨rfl,rfl⟩:=B;simp[kz,u]
 |some x=>cases hi with|none=>obtain⟨b,u,rfl⟩:=pM (by simpa using c);cases b<;>simp[mz]at B;obtain⟨rfl,rfl⟩:=B;simp[kz,u]|some y=>obtain⟨a,b,w,u,rfl⟩:=tL (by simpa using c);cases a<;>cases b<;>simp[mz]at B;obtain⟨rfl,rfl⟩:=B;simp[kz,w,u]
theorem A5{t:TypeId}{kk:yW}{k:V}(h:Ez E t=some kk)(a:qD kk k=true):Ci E t k=true:=by
 unfold Ez at h;unfold Ci;cases u:E.kindOf t with|none=>grind|some tk=>
  rw[u]at h;have b:(E.eqN t).map yW.ints=some kk->∃n cs,E.eqN t=some n/\k=.agg cs/\(cs.length==n&&(iS cs).isSome)=true:=by intro h;simp at h;obtain⟨n,w,rfl⟩:=h;cases k<;>simp[qD]at a<;>first|grind|grind
  cases tk with|int z=>simp at h;subst h;cases k<;>simp[qD]at a;grind|str=>simp at h;subst h;cases k<;>simp[qD]at a;rfl|_=>obtain⟨n,cs,c,rfl,B⟩:=b h;simp_all
theorem jN(hN:∀f s,nm f=some s->N s=f){op:Op}{k:K}{os:L' Operand}{vs:L' V}(h:resolve E nm op=some (k,os))(g:fI F os=some vs):Co E N F op vs k:=by
 cases op with
 |move x=>obtain⟨rfl,rfl⟩:=h;obtain⟨a,B,rfl⟩:=pM g;exact⟨rfl,λv w=>by simpa[bl,bQ,B]using w⟩|assign x=>obtain⟨rfl,rfl⟩:=h;obtain⟨a,B,rfl⟩:=pM g;exact⟨rfl,λv w=>by simpa[bl,bQ,B]using w⟩|pick c a b=>simp[resolve]at h;obtain⟨rfl,rfl⟩:=h;obtain⟨x,y,z,hx,hy,U,rfl⟩:=Kg g;refine⟨rfl,λv w=>?_⟩;cases x<;>simp[bl]at w;rename_i t;subst w;cases t<;>simp[bQ,hx,hy,U]|nilCheck x=>simp[resolve]at h;obtain⟨rfl,rfl⟩:=h;obtain⟨a,B,rfl⟩:=pM g;refine⟨rfl,λv w=>?_⟩;cases a<;>simp[bl,NP]at w<;>subst w<;>simp[bQ,B]|binOp ai t x y yt=>simp only[resolve,ζa,ζc]at h;obtain⟨rfl,rfl⟩:=h;obtain⟨a,b,B,G,rfl⟩:=tL g;exact⟨rfl,λv w=>by simp only[bQ,B,G,V7];exact w⟩|unOp u t x=>cases u with|not=>simp only[resolve,ζa,ζc]at h;obtain⟨rfl,rfl⟩:=h;obtain⟨a,B,rfl⟩:=pM g;refine⟨rfl,λv w=>?_⟩;cases a<;>simp[bl]at w;subst w;simp[bQ,B]|neg=>simp only[resolve,ζa,ζc]at h;obtain⟨rfl,rfl⟩:=h;obtain⟨a,B,rfl⟩:=pM g;refine⟨rfl,λv w=>?_⟩;cases a<;>simp[bl]at w;subst w;simp[bQ,B]|_=>simp[resolve]at h
 |convert s d x=>
  simp only[resolve]at h;split at h
  .rename_i sd td M hd;split at h;rename_i k j;simp only[ζa,ζc]at h;obtain⟨rfl,rfl⟩:=h;obtain⟨a,B,rfl⟩:=pM g;refine⟨rfl,λv w=>?_⟩;cases a<;>simp[bl]at w;subst w;simp[bQ,B,M,hd,j]
   .rename_i j;split at h
    .rename_i e he;split at h
     .rename_i hu;simp only[ζa,ζc]at h;obtain⟨rfl,rfl⟩:=h;obtain⟨a,B,rfl⟩:=pM g;refine⟨rfl,a,rfl,λH ys l n J=>?_⟩;have ab:E.kindOf d=some .str:=by unfold Env.kindOf;rw[hd,map_some,j]
      refine⟨?_,by simp only[evalConv,he,ab,B,hu,n,J,ζb,map_some]⟩;simp only[bQ,M,hd,B];cases a<;>first|rfl|(simp only[dM]at n;cases n)
     simp at h
    simp at h
   simp at h
  simp at h
 |fieldAddr s x f=>simp only[resolve]at h;split at h;rename_i fs j;split at h;rename_i off t W;split at h;rename_i d hd;split at h;simp at h;rename_i U;simp only[ζa,ζc]at h;obtain⟨rfl,rfl⟩:=h;obtain⟨a,B,rfl⟩:=pM g;refine⟨rfl,λv w=>?_⟩;simp only[bQ,B,j,W,hd,if_neg U];simp only[bl,iD]at w;cases a<;>simp at w⊢ <;>exact w;simp at h;simp at h;simp at h|field s x f=>
  simp only[resolve]at h;split at h
  .rename_i fs j;split at h
   .rename_i off t W;split at h
    .rename_i d hd;simp only[ζa,ζc]at h;obtain⟨rfl,rfl⟩:=h;obtain⟨a,B,rfl⟩:=pM g;refine⟨rfl,λv w=>?_⟩;cases a<;>simp only[bl]at w<;>first|(simp only[bQ,B,j,W,hd];exact w)|simp at w
    simp at h
   simp at h
  simp at h
 |indexAddr t x i=>
  simp only[resolve]at h;split at h
  .rename_i e j;simp only[ζf,ζc]at h;obtain⟨d,hd,rfl,rfl⟩:=h;obtain⟨a,b,B,G,rfl⟩:=tL g;refine⟨rfl,λv w=>?_⟩;cases b<;>simp only[bl]at w<;>first|simp at w;done|skip
   simp only[bQ,B,G,j,hd];unfold mH at w;exact w
  .rename_i len e j;simp only[ζf,ζc]at h;obtain⟨d,hd,rfl,rfl⟩:=h;obtain⟨a,b,B,G,rfl⟩:=tL g;refine⟨rfl,λv w=>?_⟩;cases b<;>simp only[bl]at w<;>first|simp at w;done|skip
   simp only[bQ,B,G,j,hd];unfold yh at w;exact w
  simp at h
 |index t x i=>
  simp only[resolve]at h;split at h
  .rename_i j;simp only[ζa,ζc]at h;obtain⟨rfl,rfl⟩:=h;obtain⟨a,b,B,G,rfl⟩:=tL g;refine⟨rfl,λv w=>?_⟩;cases a<;>cases b<;>simp only[bl]at w<;>first|simp at w;done|skip
   simp only[bQ,B,G,j];exact w
  .rename_i len e j;simp only[ζf,ζc]at h;obtain⟨d,hd,rfl,rfl⟩:=h;obtain⟨a,b,B,G,rfl⟩:=tL g;refine⟨rfl,λv w=>?_⟩;cases a<;>cases b<;>simp only[bl]at w<;>first|simp at w;done|skip
   simp only[bQ,B,G,j,hd];exact w
  simp at h
 |slice t x lo hi mx=>
  simp only[resolve]at h;split at h
  .rename_i j;simp only[ζa,ζc]at h;obtain⟨rfl,rfl⟩:=h;obtain⟨a,bs,B,G,rfl⟩:=jl g;refine⟨rfl,λv w=>?_⟩;cases a<;>simp only[bl]at w<;>first|simp at w;done|skip
   obtain⟨⟨l,h⟩,X,w⟩:=ζg.1 w;obtain⟨n,J⟩:=Jf G X;have P:kz F none=some none:=rfl;simp only[bQ,B,j,n,J,P];exact w
  rename_i e j;simp only[ζf,ζc]at h;obtain⟨d,hd,rfl,rfl⟩:=h;obtain⟨a,bs,B,G,rfl⟩:=jl g;refine⟨rfl,λv w=>?_⟩;simp only[bl]at w;obtain⟨⟨l,h⟩,X,w⟩:=ζg.1 w;obtain⟨n,J⟩:=Jf G X;have P:kz F none=some none:=rfl;simp only[bQ,B,j,n,J,P,hd];cases a<;>exact w
  .rename_i e m j;split at h
   .rename_i d hh hd;simp only[ζa,ζc]at h;obtain⟨rfl,rfl⟩:=h;obtain⟨a,b,c,B,G,o,rfl⟩:=Kg g;refine⟨rfl,λv w=>?_⟩;cases b<;>cases c<;>simp only[bl]at w<;>first|simp at w;done|skip
    rename_i k1 n1 k2 n2;split at w;rename_i T;simp only[ζh,beq_iff_eq]at T;obtain⟨⟨n,rfl⟩,rfl⟩:=T;have m1:kz F none=some none:=rfl;have m2:kz F (some hh)=some (some 0):=by simp[kz,G]
    have m3:kz F (some m)=some (some 0):=by simp[kz,o]
    simp only[bQ,B,j,m1,m2,m3,hd];cases a<;>simp[Oz]at n<;>exact w;simp at w
   simp at h
  simp at h
 |build t ps=>
  simp only[resolve]at h;split at h;rename_i d hd;split at h;rename_i fs j;split at h;rename_i pl ad;simp only[ζf,ζc]at h;obtain⟨q,hq,rfl,rfl⟩:=h;refine⟨rfl,λv w=>?_⟩;simp only[bl,ζf]at w;obtain⟨cs,Y,rfl⟩:=w;obtain⟨ws,R,w2⟩:=IK (λi=>pl[i]?) _ q vs _ cs hq g Y;simp only[bQ,hd,R,j,ad,w2,map_some];simp at h;rename_i len e j;simp only[ζf,ζc]at h;obtain⟨A,ae,rfl,rfl⟩:=h;refine⟨rfl,λv w=>?_⟩;simp only[bl,ζf]at w;obtain⟨cs,Y,rfl⟩:=w;obtain⟨ws,R,w2⟩:=IK (λi=>some (i*A.size,A.size)) ps.toList (ps.toList.map λq=>(q.1*A.size,A.size)) vs _ cs (by
   generalize ps.toList=l
   induction l with
   |nil=>rfl|cons x l ih=>simp[List.mapM_cons,ih]) g Y
  simp only[bQ,hd,R,j,ae,w2,map_some];simp at h;simp at h
 |makeFunc f a b=>cases f with|func f=>simp only[resolve,ζf,ζc]at h;obtain⟨s,M,rfl,rfl⟩:=h;obtain⟨az,bs,B,G,rfl⟩:=Ou g;refine⟨rfl,λv w=>?_⟩;simp only[bl,ζa]at w;subst w;simp only[bQ,B,G,hN f s M];rw[<-Oy B];simp|_=>simp[resolve]at h
 |extract x i=>
  simp only[resolve,ζa,ζc]at h;obtain⟨rfl,rfl⟩:=h;obtain⟨a,B,rfl⟩:=pM g;refine⟨rfl,λv w=>?_⟩;cases a<;>simp only[bl]at w<;>first|simp at w;done|skip
  simp only[bQ,B];exact w
 |load t x=>simp only[resolve,ζf,ζc]at h;obtain⟨d,hd,rfl,rfl⟩:=h;obtain⟨a,B,rfl⟩:=pM g;exact⟨rfl,λH v w=>by simp only[dZ,hd,B];exact w⟩|lookup t m k ok=>
  simp only[resolve]at h;split at h;rename_i kt et j;split at h;rename_i d kk hd L;simp only[ζf,ζc]at h;obtain⟨z,U,rfl,rfl⟩:=h;obtain⟨a,b,B,G,rfl⟩:=tL g;refine⟨rfl,λH v w=>?_⟩;simp only[eZ]at w;split at w;rename_i aa O;split at w;rename_i Q;simp only[dZ,j,B,G,hd,O,A5 L Q,if_true,U];split at w;next W=>rw[W];exact w
  next W=>rw[W];exact w
  simp at w;simp at w;simp at w;simp at h;simp at h
 |alloc t=>simp only[resolve,ζf,ζc]at h;obtain⟨d,hd,rfl,rfl⟩:=h;have:=qX g;subst this;exact⟨rfl,λx w=>by simpa[iM,e_,hd]using w⟩|box t x=>simp only[resolve,ζa,ζc]at h;obtain⟨rfl,rfl⟩:=h;obtain⟨a,B,rfl⟩:=pM g;exact⟨rfl,λx w=>by simp only[e_,B];exact w⟩|makeSlice t l c=>
  simp only[resolve]at h;split at h
  .rename_i e j;split at h
   .rename_i d hd;split at h
    .rename_i S;simp only[ζa,ζc]at h;obtain⟨rfl,rfl⟩:=h;obtain⟨a,b,B,G,rfl⟩:=tL g;refine⟨rfl,λx w=>?_⟩;cases a<;>cases b<;>simp only[iM]at w<;>first|simp at w;done|skip
     rename_i k1 n1 k2 n2;split at w;next o=>simp only[e_,j,B,G,hd];rw[if_pos ⟨o.1,o.2.1,o.2.2.1,o.2.2.2.1,o.2.2.2.2,S⟩];exact w
     simp at w
    simp at h
   simp at h
  simp at h
 |buildSlice t len ps=>simp only[resolve]at h;split at h;rename_i e j;split at h;rename_i d hd;split at h;rename_i S;simp only[ζa,ζc]at h;obtain⟨rfl,rfl⟩:=h;refine⟨rfl,λx w=>?_⟩;have U:=PC _ _ g;simp only[iM]at w;split at w;simp only[e_,j,U,hd,if_pos S];exact w;simp at w;simp at h;simp at h;simp at h|makeMap t r=>cases r with|none=>simp only[resolve,ζa,ζc]at h;obtain⟨rfl,rfl⟩:=h;have:=qX g;subst this;exact⟨rfl,λx w=>by simpa[iM,e_]using w⟩|some r=>simp[resolve]at h
 |store t p x=>
  simp only[resolve,ζf,ζc]at h;obtain⟨d,hd,rfl,rfl⟩:=h;obtain⟨a,b,B,G,rfl⟩:=tL g;refine⟨rfl,λH v w=>?_⟩;cases a<;>simp only[fE]at w<;>first|simp at w;done|skip
  simp only[dm,hd,B,G];exact w
 |mapUpdate t m k x=>
  simp only[resolve]at h;split at h
  .rename_i kt et j;simp only[ζf,ζc]at h;obtain⟨kk,L,rfl,rfl⟩:=h;obtain⟨a,b,c,B,G,o,rfl⟩:=Kg g;refine⟨rfl,λH v w=>?_⟩;cases a<;>simp only[fE]at w<;>first|simp at w;done|skip
   simp only[dm,j,B,G,o];split at w;rename_i aa O;split at w;next Q=>rw[O];simp only[A5 L Q,if_true];exact w
   simp at w;simp at w
  simp at h
 |insert t m k x=>
  simp only[resolve]at h;split at h
  .rename_i kt et j;simp only[ζf,ζc]at h;obtain⟨kk,L,rfl,rfl⟩:=h;obtain⟨a,b,c,B,G,o,rfl⟩:=Kg g;refine⟨rfl,λH v w=>?_⟩;cases a<;>simp only[fE]at w<;>first|simp at w;done|skip
   simp only[dm,j,B,G,o];split at w;rename_i aa O;split at w;next Q=>rw[O];simp only[A5 L Q,if_true];exact w
   simp at w;simp at w
  simp at h
 |call c=>
  obtain⟨callee,args,aj⟩:=c
  cases callee with
  |value f=>simp only[resolve,ζa,ζc]at h;obtain⟨rfl,rfl⟩:=h;obtain⟨a,az,B,has,rfl⟩:=jl g;refine⟨rfl,a,az,rfl,?_⟩;simp only[kC,B,has];cases a<;>rfl|builtin b=>
   cases b with
   |append=>
    simp only[resolve]at h;split at h;rename_i t t' s x I C;split at h;rename_i e e' j Z;split at h;rename_i d hd;split at h;rename_i S;simp only[ζa,ζc]at h;obtain⟨rfl,rfl⟩:=h;obtain⟨a,b,B,G,rfl⟩:=tL g;refine⟨rfl,λH v w=>?_⟩;have D:fI F args.toList=some [a,b]:=by rw[C];exact g
    simp only[dm,I,D,j,Z,hd];simp only[fE]at w;split at w;next n J=>rw[n,J];exact w
    rename_i xs ys af n J;rw[n,J];split at w;rename_i ah;simp only[if_pos (show xs.length+ys.length<=2147483648/\d.bytes<=4096/\0<d.bytes from⟨ah,S⟩)];cases ys with|nil=>exact absurd rfl af|cons y ys=>exact w
    simp at w;simp at w;simp at h;simp at h;rename_i e kk j Z;simp only[ζf,ζc]at h;obtain⟨d,hd,rfl,rfl⟩:=h;obtain⟨a,b,B,G,rfl⟩:=tL g;refine⟨rfl,λH v w=>?_⟩;have D:fI F args.toList=some [a,b]:=by rw[C];exact g
    simp only[dm,I,D,j,Z,hd];exact w;simp at h;simp at h
   |cap=>
    simp only[resolve]at h;split at h
    .rename_i t x I C;split at h
     .rename_i e j;simp only[ζa,ζc]at h;obtain⟨rfl,rfl⟩:=h;obtain⟨a,B,rfl⟩:=pM g;have D:fI F args.toList=some [a]:=by rw[C];exact g
      refine⟨rfl,λx w=>?_⟩;simp only[bQ,I,D,j];simp only[bl]at w;cases a<;>simp only[Ja]at w<;>first|(simp at w;done)|exact w
     simp at h
    simp at h
   |clear=>
    simp only[resolve]at h;split at h;rename_i t x I C;split at h;rename_i e j;simp only[ζf,ζc]at h;obtain⟨d,hd,rfl,rfl⟩:=h;obtain⟨a,B,rfl⟩:=pM g;have D:fI F args.toList=some [a]:=by rw[C];exact g
    refine⟨rfl,λH v w=>?_⟩;simp only[dm,I,D,j,hd];exact w;simp at h;simp at h
   |len=>
    simp only[resolve]at h;split at h
    .rename_i t x I C;split at h
     .rename_i j;simp only[ζa,ζc]at h;obtain⟨rfl,rfl⟩:=h;obtain⟨a,B,rfl⟩:=pM g;have D:fI F args.toList=some [a]:=by rw[C];exact g
      refine⟨rfl,λv w=>?_⟩;cases a<;>simp only[bl]at w<;>first|simp at w;done|skip
      simp only[bQ,D,I,j];exact w
     rename_i e j;simp only[ζa,ζc]at h;obtain⟨rfl,rfl⟩:=h;obtain⟨a,B,rfl⟩:=pM g;have D:fI F args.toList=some [a]:=by rw[C];exact g
     refine⟨rfl,λv w=>?_⟩;simp only[bQ,D,I,j];simp only[bl,o8]at w;cases a<;>simp at w⊢ <;>exact w;simp at h
    simp at h
   |max=>
    simp only[resolve]at h;split at h
    .rename_i x y C;simp only[ζa,ζc]at h;obtain⟨rfl,rfl⟩:=h;obtain⟨a,b,B,G,rfl⟩:=tL g;have D:fI F args.toList=some [a,b]:=by rw[C];exact g
     refine⟨rfl,λv w=>?_⟩;cases a<;>cases b<;>simp only[bl]at w<;>first|simp at w;done|skip
     simp only[bQ,D];exact w
    .rename_i x y z t C;simp only[ζa,ζc]at h;obtain⟨rfl,rfl⟩:=h;obtain⟨a,ak,B,J,rfl⟩:=jl g;obtain⟨b,c,d,G,o,hd,rfl⟩:=Kg J;have D:fI F args.toList=some [a,b,c,d]:=by rw[C];exact g
     refine⟨rfl,λv w=>?_⟩;cases a<;>cases b<;>simp only[bl]at w<;>first|simp at w;done|skip
     cases c<;>cases d<;>simp only[bl]at w<;>first|simp at w;done|skip
     simp only[bQ,D];exact w
    simp at h
   |min=>
    simp only[resolve]at h;split at h
    .rename_i x y C;simp only[ζa,ζc]at h;obtain⟨rfl,rfl⟩:=h;obtain⟨a,b,B,G,rfl⟩:=tL g;have D:fI F args.toList=some [a,b]:=by rw[C];exact g
     refine⟨rfl,λv w=>?_⟩;cases a<;>cases b<;>simp only[bl]at w<;>first|simp at w;done|skip
     simp only[bQ,D];exact w
    simp at h
   |_=>simp[resolve]at h
  |_=>simp[resolve]at h
 |panic x=>simp only[resolve,ζa,ζc]at h;obtain⟨rfl,rfl⟩:=h;have:=qX g;subst this;exact⟨rfl,λx w=>by simp[bl]at w⟩|makeInterface t x=>simp only[resolve,ζa,ζc]at h;obtain⟨rfl,rfl⟩:=h;have:=qX g;subst this;exact⟨rfl,λx w=>by simp[bl]at w⟩|_=>simp[resolve]at h
end
structure AP(c c':dG):Prop where
 lv:c.lv<=c'.lv
 go:∀x a H r,c x a H=some r->c' x a H=some r
section
variable{E:Env}{c c':dG}{n:Nat}{ops:L' Oper}{F F':Frame}{H H':bn}
theorem Ks{f:FuncId}{args:L' V}{y:V}(hi:cm c f args H=some y):∃az,borrows c.lv H args=some az:=by
 unfold cm at hi;split at hi;next az h=>exact⟨az,h⟩
 cases hi
theorem Fe(B:c.lv<=c'.lv){f:FuncId}(h:∀a H r,c (.fn f) a H=some r->c' (.fn f) a H=some r){args:L' V}{y:V}(hi:cm c f args H=some y):cm c' f args H=some y:=by
 unfold cm at hi⊢;split at hi;rename_i az u;rw[tH B u];split at hi;rename_i b;simp only;rw[h _ _ _ b];split at hi;next w=>simp only;rw[tq B w];exact hi
 cases hi;simp at hi;simp at hi
theorem oT(h:AP c c'){f:FuncId}{args:L' V}{y:V}(hi:cm c f args H=some y):cm c' f args H=some y:=Fe h.lv (λ_ _ _=>h.go _ _ _ _) hi
theorem nE(B:c.lv<=c'.lv){f:FuncId}{args:L' V}{y:V}(hi:cm c f args H=some y):cW (cn c'.lv H) args=cW (cn c.lv H) args:=by obtain⟨az,h⟩:=Ks hi;exact Am B h
theorem E9(B:c.lv<=c'.lv){f:FuncId}(h:∀a H r,c (.fn f) a H=some r->c' (.fn f) a H=some r){args:L' V}{r:V×bn}(hi:lu c f args H=some r):lu c' f args H=some r:=by
 unfold lu at hi⊢;split at hi;rename_i az u;rw[tH B u];split at hi;next b=>simp only;rw[h _ _ _ b];exact hi
 simp at hi;simp at hi
theorem IP(h:AP c c'){f:FuncId}{args:L' V}{r:V×bn}(hi:lu c f args H=some r):lu c' f args H=some r:=E9 h.lv (λ_ _ _=>h.go _ _ _ _) hi
theorem A2(h:AP c c'){f:FuncId}{args:L' V}{r:V×bn}(hi:fq E c f args H=some r):fq E c' f args H=some r:=by
 unfold fq at hi⊢;split;next u=>rw[if_pos u]at hi;exact IP h hi
 rename_i u;rw[if_neg u]at hi;exact h.go _ _ _ _ hi
theorem Bs(U:c.lv<=c'.lv){f:FuncId}{args:L' V}{y G:V}{b:Nat}(a:cm c f args (H.take b)=none)(B:cm c f args H=some y)(D:cm c' f args (H.take b)=some G):False:=by
 unfold cm at a B D;split at D;rename_i az d;split at B;rename_i I u;have e:=pg (λx y z k1 k2=>Lh (H2:=H.take b) c.lv c'.lv x y z k1 k2 λid w=>by
  rw[getElem?_take]at w⊢;split at w
  next C=>rw[if_pos C]
  cases w) u d
 have J:borrows c.lv H args=some az:=nP (C2 c.lv) e;rw[J]at u;cases u;rw[show borrows c.lv (H.take b) args=some az from e]at a;simp only at a;rw[a]at B;simp at B;simp at B;simp at D
theorem PM(h:AP c c'){place:Lk (Nat×Nat)}{op:Op}{r:V×bn}(hi:dF E c ops place F H op=some r):dF E c' ops place F H op=some r:=by
 unfold dF at hi⊢;split at hi;exact hi;exact hi;exact hi;exact hi;split at hi;rename_i f args B;split at hi;rename_i a;rw[if_pos a];split at hi;exact A2 h hi;skip;split at hi;next z=>rw[if_pos z];exact A2 h hi
 simp at hi;rename_i a;rw[if_neg a];split at hi;skip;split at hi;next y u=>rw[oT h u,nE h.lv u];exact hi
 simp at hi;rename_i b i;skip;split at hi;next y u=>rw[oT h u,nE h.lv u];exact hi
 rename_i w;split at hi;rename_i z;split at hi;rename_i y u;cases C:cm c' f args (take b H)with|some D=>exact(Bs h.lv w u C).elim|none=>simp only[if_pos z,oT h u,nE h.lv u];exact hi
 simp at hi;simp at hi;rename_i id args B;split at hi;exact h.go _ _ _ _ hi;skip;split at hi;next z=>rw[if_pos z];exact h.go _ _ _ _ hi
 simp at hi;simp at hi
theorem DY(h:AP c c'){place:Lk (Nat×Nat)}{o:Oper}{r:Frame×bn}(hi:gO E c n ops place o F H=some r):gO E c' n ops place o F H=some r:=by
 unfold gO at hi⊢;split at hi;rename_i u;rw[if_pos u];split at hi;next v H1 hd=>rw[PM h hd];exact hi
 simp at hi;rename_i u;rw[if_neg u];exact hi
theorem CT(h:AP c c'){r:Frame×bn}:∀(l:L' Oper){F:Frame}{H:bn},mZ E c n ops l F H=some r->mZ E c' n ops l F H=some r
 |[],_,_,hi=>hi|o::l,F,H,hi=>by
  simp only[mZ]at hi⊢;split at hi;next F1 H1 B=>rw[DY h B];exact CT h l hi
  simp at hi
theorem CO(h:AP c c'){base:Nat}{r:Frame×bn}:∀(l:L' Nat){F:Frame}{H:bn},kB E c n ops base l F H=some r->kB E c' n ops base l F H=some r
 |[],_,_,hi=>hi|i::l,F,H,hi=>by
  simp only[kB]at hi⊢;split at hi;split at hi;next F1 H1 B=>rw[DY h B];exact CO h l hi
  simp at hi;simp at hi
theorem FL(h:AP c c'){B:Bool}{r:Frame×bn}(hi:j_ E c n ops B F H=some r):j_ E c' n ops B F H=some r:=by
 unfold j_ at hi⊢;split;rename_i hd;rw[if_pos hd]at hi;split at hi;next u=>rw[if_pos u];exact CO h _ hi
 simp at hi;rename_i hd;rw[if_neg hd]at hi;exact CT h _ hi
theorem zZ{s J:Frame->bn->Lk (Out×Frame×bn)}(h:∀F H r,s F H=some r->J F H=some r):∀(k B:Nat),k<=B->∀{F H r},lG s k F H=some r->lG J B F H=some r
 |0,_,_,F,H,r,hi=>by simp[lG]at hi|k+1,0,hk,F,H,r,hi=>Zaa|k+1,B+1,hk,F,H,r,hi=>by
  simp only[lG]at hi⊢;split at hi;next F1 H1 U=>rw[h _ _ _ U];exact zZ h k B Zaa hi
  rename_i D;rw[h _ _ _ hi];split;next F1 H1 G=>cases G;exact absurd hi (D _ _)
  rfl
theorem A6(h:AP c c'){lf B:Nat}(U:lf<=B)(ro:Bool)(e:Nat):∀(code:Code){F:Frame}{H:bn}{r:Out×Frame×bn},exec E c lf ro e code F H=some r->exec E c' B ro e code F H=some r:=by
 intro code
 induction code with
 |skip=>intro F H r hi;exact hi|label l=>intro F H r hi;exact hi|region id ops J=>intro F H r hi;simp only[exec,ζf]at hi⊢;obtain⟨x,L,rfl⟩:=hi;exact⟨x,FL h L,rfl⟩|seq a b u z=>
  intro F H r hi;simp only[exec]at hi⊢;split at hi;next F1 H1 d=>rw[u d];exact z hi
  rename_i C;rw[u hi];split;next D=>cases D;exact absurd hi (C _ _)
  rfl
 |cond x a b u z=>
  intro F H r hi;simp only[exec]at hi⊢;split at hi;rename_i t S;split at hi;next G=>subst G;simp only[if_true];exact u hi
  rename_i G;rw[if_neg G];exact z hi;simp at hi
 |block id a I=>
  intro F H r hi;simp only[exec]at hi⊢;split at hi;next O F1 H1 d=>rw[I d];exact hi
  rename_i C;rw[I hi];split;next D=>cases D;exact absurd hi (C _ _ _)
  rfl
 |loop a I=>intro F H r hi;simp only[exec]at hi⊢;exact zZ (λF H r f=>I f) lf B U hi|rangeFunc g ps T W _ _=>
  intro F H r hi;simp only[exec]at hi⊢;split at hi;split at hi;next Q H1 i=>rw[h.go _ _ _ _ i];exact hi
  simp at hi;simp at hi
 |exit id=>intro F H r hi;exact hi|ret=>intro F H r hi;exact hi|scope a _=>intro F H r hi;simp[exec]at hi|goto l=>intro F H r hi;simp[exec]at hi|refuse w=>intro F H r hi;simp[exec]at hi
theorem KB(E:Env):∀n,AP (run E n) (run E (n+1)):=by
 intro n
 induction n with
 |zero=>exact⟨le_succ _,λx a H r h=>(by cases h)⟩|succ n u=>
  refine⟨le_succ _,λx a H r h=>?_⟩;rw[H7]at h⊢
  cases x with
  |fn f=>
   rw[kI]at h⊢;split at h;rename_i U O;split at h;rename_i B;rw[if_pos B];split at h;simp at h;rename_i o F1 H1 C Q;rw[A6 u (le_succ n) _ _ _ Q];cases o with|exit id=>exact(C id rfl).elim|norm=>exact h|ret=>exact h
   simp at h;simp at h;split at h;next D=>rw[if_pos D];exact Eb u.lv (λg args y _ S=>oT u S) h
   rename_i D;rw[if_neg D];exact h
  |yld id=>
   rw[kI]at h⊢;split at h;rename_i b L;split at h;rename_i T;split at h;rename_i w;split at h;rename_i W H2 G;split at h;rename_i r2 I;split at h;rename_i z;split at h;next o X Y J=>simp only[if_pos w,A6 u (le_succ n) _ _ _ G,I,z,A6 u (le_succ n) _ _ _ J];exact h
   simp at h;simp at h;simp at h;simp at h;simp at h;simp at h;simp at h
theorem oN(E:Env){n m:Nat}(h:n<=m):AP (run E n) (run E m):=by induction h with|refl=>exact⟨le_refl _,λ_ _ _ _ h=>h⟩|step _ u=>exact⟨le_trans u.lv (KB E _).lv,λx a H r h=>(KB E _).go x a H r (u.go x a H r h)⟩
theorem o9(E:Env):∀n,(run E n).lv=n
 |0=>rfl|_+1=>rfl
end
def Oi(P:Program)(f:FuncId):Lk FI:=(P.funcs[f]?).bind λfn=>fn.body.map λb=>⟨fn.ntmps,fn.results.toList,b⟩
def Ck(P:Program):Bool:=P.funcs.toList.all λfn=> !(fn.name== "runtime.NumGoroutine")
theorem VN{P:Program}(h:Ck P=true){f:FuncId}{fi:FI}(B:Oi P f=some fi):∃fn,P.funcs[f]?=some fn/\fn.body=some fi.body/\fn.ntmps=fi.ntmps/\fn.results.toList=fi.results/\(fn.name== "runtime.NumGoroutine")=false:=by unfold Oi at B;obtain⟨fn,h1,w⟩:=ζg.1 B;obtain⟨b,z,rfl⟩:=ζf.1 w;refine⟨fn,h1,z,rfl,rfl,?_⟩;unfold Ck at h;rw[List.all_eq_true]at h;have C:=h fn (by obtain⟨u,rfl⟩:=Array.getElem?_eq_some_iff.1 h1;exact Array.mem_toList_iff.2 (Array.getElem_mem u));simpa using C
def DX(P:Program)(shut keep own:L' Nat)(two:L' (Nat×Nat))(a:FuncId->Bool)(known:FuncId->L' V->Lk V):Env where
 tt:=xO P
 ft f:=if shut.contains f then none else Oi P f
 keep:=keep.contains
 own:=own.contains
 eqN t:=lk two t
 sort:=a
 known:=known
theorem IQ{P:Program}{shut keep own:L' Nat}{two:L' (Nat×Nat)}{a:FuncId->Bool}{known:FuncId->L' V->Lk V}(h:Ck P=true)(B:∀p∈two,xh P p.1 p.2):eS P (DX P shut keep own two a known)where
 tt t d h:=h
 ft f w u:=by change(if shut.contains f then none else Oi P f)=some w at u;split at u;cases u;exact VN h u
 eqN t n z:=B (t,n) (PE z)
section
variable{P:Program}{I:cA}{μ:Mu}{H:bn}{w:World}{n:Nat}
variable{f A S e:Nat}{fn:Func}{bytes i1 i2 i3 i4 t1 t2 t6 t7:Nat}{p1 p2 p3 p4 p5 p6 p7:String}{e1 e2 e3 e4 e5 e6 e7:Array Edge}
end
end Go.VE
namespace Go.VE
variable[bY]
variable{P:Program}
theorem KL(a:L' Int)(j:Nat):(ic a)[j]?=(a[j]?).map (Value.int .i64):=by simp[ic]
theorem Hy{i:TypeId}{a b:L' Int}{n:Nat}(G:a.length=n)(J:b.length=n)(hi:xO P i=some ⟨1,8,[.int .i64 0],.int .i64⟩)(B:P.underlying i=some (.int .i64))(d:Nat)(w:World):
 ∀(m k:Nat),k+m=n->(eqItems (d+1) i 1 (ic a) (ic b) (range' k m)).run P w=.ok (a.drop k==b.drop k) w
 |0,k,h=>by have c:a.drop k=[]:=List.drop_eq_nil_of_le Zaa;have I:b.drop k=[]:=List.drop_eq_nil_of_le Zaa;simp[eqItems,c,I]|m+1,k,h=>by
  have u:k<a.length:=Zaa;have z:k<b.length:=Zaa;have pa:(part i (ic a) (k*1)).run P w=.ok (.int .i64 a[k]) w:=sX hi (by rw[KL,mul_one];simp[u]);have L:(part i (ic b) (k*1)).run P w=.ok (.int .i64 b[k]) w:=sX hi (by rw[KL,mul_one];simp[z]);have q:(equalIn (d+1) i (.int .i64 a[k]) (.int .i64 b[k])).run P w=.ok (a[k]==b[k]) w:=CN d _ _ B;have O:=Hy G J hi B d w m (k+1) Zaa;have C:=List.drop_eq_getElem_cons u;have D:=List.drop_eq_getElem_cons z;simp only[List.range'_succ,eqItems,run_bind,pa,L,q,andThen_ok];by_cases e:a[k]=b[k];rw[C,D,List.cons_beq_cons,e];simp only[beq_self_eq_true,Bool.not_true,Bool.true_and,if_false,Bool.false_eq_true];exact O;have:(a[k]==b[k])=false:=by simpa using e
  rw[C,D,List.cons_beq_cons,this];simp only[Bool.not_false,if_true,Bool.false_and,run_pure]
theorem Kz{i:TypeId}{a:L' Int}{n:Nat}(e:Bool)(G:a.length=n)(hi:xO P i=some ⟨1,8,[.int .i64 0],.int .i64⟩)(B:P.underlying i=some (.int .i64))(d:Nat)(w:World):
 ∀(m k:Nat),k+m=n->(forIn (range' k m) PUnit.unit (λj(_:PUnit)=>do
  let s<-sizeOf i
  let v<-part i (ic a) (j*s)
  checkKey e (d+1) i v
  pure (ForInStep.yield PUnit.unit)):Sem PUnit).run P w=.ok PUnit.unit w
 |0,k,h=>Zab|m+1,k,h=>by have D:k<a.length:=Zaa;have pa:(part i (ic a) (k*1)).run P w=.ok (.int .i64 a[k]) w:=sX hi (by rw[KL,mul_one];simp[D]);have z:(sizeOf i).run P w=.ok 1 w:=(qS.On hi).kW;have q:(checkKey e (d+1) i (.int .i64 a[k])).run P w=.ok () w:=BL d e _ B;have u:=Kz e G hi B d w m (k+1) Zaa;simp only[List.range'_succ,List.forIn_cons,run_bind,z,pa,q,andThen_ok,run_pure]at u⊢;exact u
theorem xh.arr{t i:TypeId}{n:Nat}(c:P.underlying t=some (.array n i))(hi:xO P i=some ⟨1,8,[.int .i64 0],.int .i64⟩)(J:P.underlying i=some (.int .i64))(U:P.eqGuardType P.depth t=false):xh P t n:=by
 obtain⟨Q,z,B,O,_⟩:=(qS.On hi).info;have C:P.cellsOf i=1:=by unfold Program.cellsOf;simp[B,O]
 have D:∀(w:World)(a b:L' Int),a.length=n->b.length=n->(equal t (.agg (ic a)) (.agg (ic b))).run P w=.ok (a==b) w:=by intro w a b G I;show(equalIn (9999+1) t _ _).run P w=_;rw[run_equalIn_array w 9999 _ _ c B,C,List.range_eq_range'];simpa using Hy G I hi J 9998 w n 0 Zaa
 have L:∀(op:BinOp)(p q:Operand)(w:World)(u v:Array Value),(eqGuard op t p q (.agg u) (.agg v)).run P w=.ok () w:=by intro op p q w u v;unfold eqGuard;cases op<;>simp[run_bind,run_program,andThen,U]
 refine⟨?_,?_,D,?_,⟨_,c,.inl ⟨_,_,rfl⟩⟩⟩;intro w p q a b G I;rw[run_bind,L,andThen_ok];show(do pure (Value.bool (<-equal t (.agg (ic a)) (.agg (ic b)))):Sem Value).run P w=_;rw[run_bind,D _ _ _ G I];rfl;intro w p q a b G I;rw[run_bind,L,andThen_ok];show(do pure (Value.bool (!(<-equal t (.agg (ic a)) (.agg (ic b))))):Sem Value).run P w=_;rw[run_bind,D _ _ _ G I];rfl;intro w e a G;show(checkKey e (9999+1) t _).run P w=_;unfold checkKey;simp only[run_bind,dP c,andThen_ok];have:=Kz e G hi J 9998 w n 0 Zaa;simp only[Std.Legacy.Range.forIn_eq_forIn_range',Std.Legacy.Range.size,Nat.sub_zero,Nat.add_one_sub_one,Nat.div_one];rw[show(9998+1:Nat)=9999 from rfl]at this;rw[this];rfl
end Go.VE
namespace Go.VE
variable[bY]
structure CR(E:Env)(c c':dG):Prop where
 lv:c.lv<=c'.lv
 Qu:∀f args H y,E.keep f=false->cm c f args H=some y->cm c' f args H=some y
 dir:∀f args H r,E.keep f=true->c (.fn f) args H=some r->c' (.fn f) args H=some r
 yld:∀id args H r,c (.yld id) args H=some r->c' (.yld id) args H=some r
 rng:∀f args H r,H≠[]->c (.fn f) args H=some r->c' (.fn f) args H=some r
section
variable{E:Env}{c c':dG}{n:Nat}{ops:L' Oper}{F F':Frame}{H H':bn}
theorem Lv(h:CR E c c'){f:FuncId}{args:L' V}{r:V×bn}(a:E.keep f=true)(hi:lu c f args H=some r):lu c' f args H=some r:=E9 h.lv (λ_ _ _=>h.dir _ _ _ _ a) hi
theorem CI(h:CR E c c'){f:FuncId}{args:L' V}{r:V×bn}(a:E.keep f=true)(hi:fq E c f args H=some r):fq E c' f args H=some r:=by
 unfold fq at hi⊢;split;next u=>rw[if_pos u]at hi;exact Lv h a hi
 rename_i u;rw[if_neg u]at hi;exact h.dir _ _ _ _ a hi
theorem CZ{place:Lk (Nat×Nat)}{f:FuncId}(h:mo E ops place f=true):E.keep f=true:=by unfold mo at h;grind
theorem CR.any(h:CR E c c'){f:FuncId}{args:L' V}{H:bn}{y:V}(hi:cm c f args H=some y):cm c' f args H=some y:=by cases a:E.keep f with|false=>exact h.Qu _ _ _ _ a hi|true=>exact Fe h.lv (λ_ _ _=>h.dir _ _ _ _ a) hi
theorem TJ(h:CR E c c'){place:Lk (Nat×Nat)}{op:Op}{r:V×bn}(hi:dF E c ops place F H op=some r):dF E c' ops place F H op=some r:=by
 unfold dF at hi⊢;split at hi;omega;omega;omega;omega;split at hi;rename_i f args B;split at hi;rename_i a;rw[if_pos a];split at hi;exact CI h (CZ a) hi;split at hi;next z=>rw[if_pos z];exact CI h (CZ a) hi
 grind;rename_i a;rw[if_neg a];split at hi;split at hi;next y u=>rw[h.any u,nE h.lv u];exact hi
 grind;rename_i b i;split at hi;next y u=>rw[h.any u,nE h.lv u];exact hi
 rename_i w;split at hi;rename_i z;split at hi;rename_i y u;cases C:cm c' f args (take b H)with|some D=>exact(Bs h.lv w u C).elim|none=>simp only[if_pos z,h.any u,nE h.lv u];exact hi
 grind;grind;split at hi;exact h.yld _ _ _ _ hi;split at hi;next z=>rw[if_pos z];exact h.yld _ _ _ _ hi
 grind;grind
theorem GK(h:CR E c c'){place:Lk (Nat×Nat)}{o:Oper}{r:Frame×bn}(hi:gO E c n ops place o F H=some r):gO E c' n ops place o F H=some r:=by
 unfold gO at hi⊢;split at hi;rename_i u;rw[if_pos u];split at hi;next v H1 hd=>rw[TJ h hd];omega
 grind;grind
theorem EK(h:CR E c c'){r:Frame×bn}:∀(l:L' Oper){F:Frame}{H:bn},mZ E c n ops l F H=some r->mZ E c' n ops l F H=some r
 |[],_,_,hi=>hi|o::l,F,H,hi=>by
  simp[mZ]at hi⊢;split at hi;next F1 H1 B=>rw[GK h B];exact EK h l hi
  grind
theorem El(h:CR E c c'){base:Nat}{r:Frame×bn}:∀(l:L' Nat){F:Frame}{H:bn},kB E c n ops base l F H=some r->kB E c' n ops base l F H=some r
 |[],_,_,hi=>hi|i::l,F,H,hi=>by
  simp[kB]at hi⊢;split at hi;split at hi;next F1 H1 B=>rw[GK h B];exact El h l hi
  grind;grind
theorem HX(h:CR E c c'){B:Bool}{r:Frame×bn}(hi:j_ E c n ops B F H=some r):j_ E c' n ops B F H=some r:=by
 unfold j_ at hi⊢;split;rename_i hd;rw[if_pos hd]at hi;split at hi;next u=>rw[if_pos u];exact El h _ hi
 grind;rename_i hd;rw[if_neg hd]at hi;exact EK h _ hi
theorem Dk(h:CR E c c'){lf B:Nat}(G:lf<=B)(ro:Bool)(d:Nat):∀(code:Code){F:Frame}{H:bn}{r:Out×Frame×bn},exec E c lf ro d code F H=some r->exec E c' B ro d code F H=some r:=by
 intro code
 induction code with
 |skip=>intro F H r hi;exact hi|label l=>intro F H r hi;exact hi|region id ops C=>intro F H r hi;simp only[exec,ζf]at hi⊢;obtain⟨x,I,rfl⟩:=hi;exact⟨x,HX h I,rfl⟩|seq a b u z=>intro F H r hi;simp[exec]at hi⊢;grind|cond x a b u z=>intro F H r hi;simp[exec]at hi⊢;grind|block id a D=>intro F H r hi;simp[exec]at hi⊢;grind|loop a D=>intro F H r hi;exact zZ (λF H r e=>D e) lf B G hi|rangeFunc g ps L O _ _=>
  intro F H r hi;simp[exec]at hi⊢;split at hi;split at hi;next J H1 f=>rw[h.rng _ _ _ _ Zab f];omega
  grind;grind
 |exit id=>intro F H r hi;exact hi|ret=>intro F H r hi;exact hi|scope a _=>intro F H r hi;simp[exec]at hi|goto l=>intro F H r hi;simp[exec]at hi|refuse w=>intro F H r hi;simp[exec]at hi
theorem BI(h:CR E c c'){n m:Nat}(B:n<=m){x:Callee}{a:L' V}{r:V×bn}(hi:kI E c n x a H=some r):kI E c' m x a H=some r:=by
 cases x with
 |fn f=>
  rw[kI]at hi⊢;split at hi;split at hi;rename_i G;split at hi;simp_all;rename_i o F1 H1 I J;rw[Dk h B _ _ _ J];grind;grind;grind;split at hi;next L=>rw[if_pos L];exact Eb h.lv (λg args y b O=>h.Qu _ _ _ _ b O) hi
  grind
 |yld id=>
  rw[kI]at hi⊢;split at hi;split at hi;split at hi;rename_i u;split at hi;rename_i Q H2 z;split at hi;rename_i r2 C;split at hi;rename_i w;split at hi;next o S T D=>simp only[if_pos u,Dk h B _ _ _ z,C,w,Dk h B _ _ _ D];omega
  grind;grind;grind;grind;grind;grind;grind
mutual
def V.same:Nat->V->V->Bool
 |0,_,_=>false|_+1,.bool a,.bool b=>a==b|_+1,.int k a,.int l b=>decide (k=l)&&decide (a=b)|_+1,.str a,.str b=>decide (a.data.toList=b.data.toList)|_+1,.bM,.bM=>true|_+1,.dL,.dL=>true|_+1,.iI,.iI=>true|_+1,.gD,.gD=>true|_+1,.tF,.tF=>true|n+1,.agg a,.agg b=>V.sK n a b|n+1,.tup a,.tup b=>V.sK n a b|n+1,.fptr a,.fptr b=>V.sK n a b|n+1,.fsl e a,.fsl B b=>beq e B&&V.AW n a b|n+1,.clo f a b,.clo D a' G=>beq f D&&V.sK n a a'&&V.sK n b G|_+1,_,_=>false
def V.sK:Nat->L' V->L' V->Bool
 |0,_,_=>false|_+1,[],[]=>true|n+1,a::r,b::s=>V.same n a b&&V.sK n r s|_+1,_,_=>false
def V.AW:Nat->L' (L' V)->L' (L' V)->Bool
 |0,_,_=>false|_+1,[],[]=>true|n+1,a::r,b::s=>V.sK n a b&&V.AW n r s|_+1,_,_=>false
end
theorem Vv:∀n,(∀a b,V.same n a b=true->a=b)/\(∀a b,V.sK n a b=true->a=b)/\(∀a b,V.AW n a b=true->a=b):=by
 intro n
 induction n with
 |zero=>exact⟨λa b h=>by simp[V.same]at h,λa b h=>by simp[V.sK]at h,λa b h=>by simp[V.AW]at h⟩|succ n u=>
  obtain⟨i1,i2,i3⟩:=u;refine⟨λa b h=>?_,λa b h=>?_,λa b h=>?_⟩
  .cases a<;>cases b<;>simp only[V.same,ζh,decide_eq_true_eq,Bool.false_eq_true]at h<;>first|rfl|grind|skip
   all_goals first
    |grind|grind|grind|(rw[Nat.eq_of_beq_eq_true h.1,i3 _ _ h.2])|(rw[Nat.eq_of_beq_eq_true h.1.1,i2 _ _ h.1.2,i2 _ _ h.2])|(congr 1;exact ByteArray.ext (ext' h))
  .cases a<;>cases b<;>simp[V.sK]at h<;>first|rfl|grind|grind
  cases a<;>cases b<;>simp[V.AW]at h<;>first|rfl|grind|grind
structure fP where
 f:FuncId
 az:List V
 y:V
def zU:L' fP->FuncId->L' V->Lk V
 |[],_,_=>none|k::r,f,az=>bif beq k.f f&&V.sK 1000 k.az az then some k.y else zU r f az
theorem Dq:∀{l:L' fP}{f:FuncId}{az:L' V}{y:V},zU l f az=some y->∃k∈l,k.f=f/\k.az=az/\k.y=y
 |[],_,_,_,h=>by simp[zU]at h|k::r,f,az,y,h=>by unfold zU at h;cases B:beq k.f f&&V.sK 1000 k.az az with|true=>simp only[ζh]at B;exact⟨k,mem_cons_self ..,Nat.eq_of_beq_eq_true B.1,(Vv 1000).2.1 _ _ B.2,Zac⟩|false=>rw[B]at h;obtain⟨q,a,D⟩:=Dq h;grind
def Ik(E:Env)(l:L' fP)(c:dG)(n:Nat):Callee->L' V->bn->Lk (V×bn)
 |.fn f,az,[]=>match zU l f az with
  |some y=>some (y,[])|none=>kI E c n (.fn f) az []
 |x,az,H=>kI E c n x az H
def runM(E:Env)(l:L' fP):Nat->dG
 |0=>⟨0,λ_ _ _=>none⟩|n+1=>⟨n+1,Ik E l (runM E l n) n⟩
theorem Vg(E:Env)(l:L' fP):∀n,(runM E l n).lv=n
 |0=>rfl|_+1=>rfl
theorem Pw{l:L' fP}{n:Nat}{x:Callee}{a:L' V}{H:bn}:runM E l (n+1) x a H=Ik E l (runM E l n) n x a H:=rfl
def wU(E:Env)(n:Nat)(k:fP):Prop:=∃r H1,run E n (.fn k.f) k.az []=some (r,H1)/\borrow n H1 r=some k.y
structure gF(E:Env)(k:fP):Prop where
 keep:E.keep k.f=false
 cl:k.y.closed=true
 at_:∃n,wU E n k
theorem wU.le{n m:Nat}{k:fP}(h:wU E n k)(B:n<=m):wU E m k:=by obtain⟨r,H1,a,u⟩:=h;exact⟨r,H1,(oN E B).go _ _ _ _ a,tq B u⟩
theorem BB:∀{l:L' fP},(∀k∈l,gF E k)->∃N,∀k∈l,wU E N k
 |[],_=>⟨0,Zab⟩|k::r,h=>by obtain⟨N,B⟩:=BB (λq a=>h q (mem_cons_of_mem _ a));obtain⟨n,u⟩:=(h k (mem_cons_self ..)).at_;refine⟨max N n,λq a=>?_⟩;rcases mem_cons.1 a with rfl|a;exact u.le (Nat.le_max_right ..);exact(B q a).le (Nat.le_max_left ..)
theorem Bw{l:L' fP}{x:Callee}{az:L' V}(h:H≠[]\/(∃id,x=.yld id)\/∃f,x=.fn f/\zU l f az=none):runM E l (n+1) x az H=kI E (runM E l n) n x az H:=by
 rcases h with h|⟨id,rfl⟩|⟨f,rfl,h⟩;cases x with|yld id=>rfl|fn f=>cases H with|nil=>exact absurd rfl h|cons a r=>rfl
 rfl;cases H with|nil=>rw[Pw,Ik,h]|cons a r=>rfl
theorem L7{l:L' fP}{N:Nat}(D:∀k∈l,gF E k)(G:∀k∈l,wU E N k):∀n,CR E (runM E l n) (run E (N+n)):=by
 intro n
 induction n with
 |zero=>refine⟨Nat.zero_le _,λf args H y _ h=>?_,λf args H r _ h=>(by cases h),λid args H r h=>(by cases h),λf args H r _ h=>(by cases h)⟩;unfold cm at h;split at h;cases h;cases h|succ n I=>
  have up:∀{x:Callee}{az:L' V}{H:bn}{r:V×bn},kI E (runM E l n) n x az H=some r->run E (N+(n+1)) x az H=some r:=λh=>by rw[show N+(n+1)=(N+n)+1 from rfl,H7];exact BI I (le_add_left ..) h
  have w:(runM E l (n+1)).lv<=(run E (N+(n+1))).lv:=by rw[Vg,o9];exact le_add_left ..
  refine⟨w,λf args H y b h=>?_,λf args H r b h=>?_,λid args H r h=>?_,λf args H r B h=>?_⟩;unfold cm at h⊢;split at h;rename_i az c;rw[tH w c];split at h;rename_i r H1 a
  cases z:zU l f az with
  |none=>
   rw[Bw (.inr (.inr ⟨f,rfl,z⟩))]at a;simp only;rw[up a];split at h;next Q J=>simp only;rw[tq w J];exact h
   cases h
  |some S=>rw[Pw,Ik,z]at a;obtain⟨rfl,rfl⟩:=a;obtain⟨k,u,rfl,rfl,rfl⟩:=Dq z;have ok:=D k u;obtain⟨r1,H2,d,L⟩:=(G k u).le (Nat.le_add_right N (n+1));rw[kR _ _ ok.cl]at h;simp only[d,o9,L];exact h
  cases h;cases h;by_cases z:H≠[]\/(∃id,(Callee.fn f)=.yld id)\/∃C,Callee.fn f=.fn C/\zU l C args=none;rw[Bw z]at h;exact up h;cases O:zU l f args with|none=>grind|some y=>obtain⟨k,u,rfl,_,_⟩:=Dq O;rw[(D k u).keep]at b;cases b
  exact up h;rw[Bw (.inl B)]at h;exact up h
def Yl(E:Env)(l:L' fP)(n:Nat)(k:fP):Lk V:=
 match kI E (runM E l n) n (.fn k.f) k.az []with
 |some (r,H1)=>borrow n H1 r|none=>none
theorem iB{l:L' fP}(B:∀k∈l,gF E k){k:fP}(h:(Yl E l n k,k.y.closed,E.keep k.f)=(some k.y,true,false)):gF E k:=by simp at h;obtain⟨N,u⟩:=BB B;refine⟨h.2.2,h.2.1,N+n+1,?_⟩;have a:=h.1;unfold Yl at a;split at a;rename_i r H1 w;refine⟨r,H1,?_,tq Zaa a⟩;exact BI (L7 B u n) (le_add_left ..) w;grind
def T8(E:Env)(l:L' fP)(n:Nat)(f:FuncId)(az:L' V):Bool:=
 match kI E (runM E l n) n (.fn f) az []with
 |some (.bool b,_)=>b|_=>false
theorem Ol{l:L' fP}(B:∀k∈l,gF E k){f:FuncId}{az:L' V}(h:T8 E l n f az=true):∃n H1,run E n (.fn f) az []=some (.bool true,H1):=by
 obtain⟨N,u⟩:=BB B;unfold T8 at h;split at h;next b H1 w=>subst h;exact⟨N+n+1,H1,(BI (L7 B u n) (le_add_left ..) w)⟩
 simp_all
end
end Go.VE
