/-
 The engine: operations of the loaded code on values without a heap; a run of it is a run of the program.
-/
import Derived.RangeFuncRecord
import Derived.Shelf.SlSortCmp.NoneTotal
import Derived.RangeFuncLeaves
import Derived.Laws.StructEq
import Derived.ChangeKeysEq
import Derived.Test.YtcknkjopbmmcjaaGreatDoorV1
set_option linter.all false
open Nat(beq le_add_left le_refl le_succ le_trans mul_one)
open List(finRange getElem?_take mem_cons mem_cons_of_mem mem_cons_self mem_map range' take)
open Array(ext' replicate)
open Option(map_some)
open Go.Sem(run_bind run_pure)
open Go.Result(andThen andThen_ok)
open Go.Instr(checkKey)
open Go.Op(bytesLess eqItems equal equalIn)
open BitVec(ofInt)
namespace Go.VE
variable[b_]
def Out.J7:Out->Exit
 |.norm=>.normal|.exit id=>.exit id|.ret=>.ret
def exists_least(p:Nat->Prop):∀k,p k->∃m,p m/\∀j,p j->m<=j:=by intro k;induction k using Nat.strongRecOn with|_ k z=>intro a;by_cases h:∃j,j<k/\p j;have⟨j,B,u⟩:=h;exact z j B u;exact⟨k,a,λj u=>Nat.le_of_not_lt λw=>h ⟨j,w,u⟩⟩
open Classical in
noncomputable def least(p:Nat->Prop):Nat:=if h:∃m,p m/\∀j,p j->m<=j then h.choose else 0
def Oa(p:Nat->Prop){k:Nat}(a:p k):p (least p)/\least p<=k:=by have h:=exists_least p k a;unfold least;rw[dif_pos h];exact⟨h.choose_spec.1,h.choose_spec.2 k a⟩
section
variable{P:Program}{E:Env}{I I':cG}{μ μ':Mu}{H H':bp}{n B:Nat}{F F':WP}{a:Act}{w w':World}
def Post(B n:Nat)(I:cG)(μ:Mu)(H:bp)(w:World)(o:Out)(F':WP)(H':bp):Exit->Act->World->Prop:=λe u w'=>e=o.J7/\(∃I' μ',fe I' μ' n F' u.tmps/\dm I' μ' H' w'/\Step I μ H w I' μ' H' w')/\lI B u.defers w'
def Post.mono{I1:cG}{D:Mu}{H1:bp}{G:World}{o:Out}(J:dm I1 D H1 G)(st:Step I μ H w I1 D H1 G){e:Exit}{a':Act}{w':World}(h:Post B n I1 D H1 G o F' H' e a' w'):
 Post B n I μ H w o F' H' e a' w':=by
 have⟨a,⟨I',μ',u,z,C⟩,L⟩:=h;exact⟨a,⟨I',μ',u,z,Step.trans J st C⟩,L⟩
def dm.C2(s:dm I μ H w){b:Nat}(o:Obj)(B:I b=none)(D:¬je μ H b):dm I μ H (gQ w b o)where
 dom:=s.dom
 imm:=λz x h=>IC.uv (s.imm z x h) (iq o (by rintro rfl;rw[B]at h;cases h))
 obs:=λid ob h=>(s.obs id ob h).mono (cG.le_refl _) (Mu.le_refl _) (λp C G=>by
  have u:je μ H p.b:=⟨id,p,ob,h,G,C,rfl⟩;exact⟨iq o (λe=>D (e▸u)),gV s u⟩) (λJ=>by subst J;exact s.obs id _ h)
 inj:=s.inj
 gl:=s.gl
def Xq(s:dm I μ H w){b:Nat}{o:Obj}(h:w.heap[b]?=some o)(a:∀c e f,o≠.cells c e f)(B:∀es c,o≠.map es c):I b=none:=by cases u:I b with|none=>rfl|some x=>have:=s.imm b x u;cases x with|cells c=>have⟨_,_,q⟩:=this;rw[h]at q;cases q;exact absurd rfl (a _ _ _)|map es=>have⟨_,q⟩:=this;rw[h]at q;cases q;exact absurd rfl (B _ _)
def Step.kept(c:∀b,b<w.heap.size->w'.heap[b]?=w.heap[b]?)(B:w.heap.size<=w'.heap.size)(d:w'.os=w.os)(D:xz w w')(G:∀a:Addr,a.block<w.heap.size->w.frozen? a=false->w'.frozen? a=false):Step I μ H w I μ H w':=⟨cG.le_refl _,Mu.le_refl _,le_refl _,B,λb u _=>c b u,λ_ h=>h.elim .inl λh=>.inr (.inl h),d,D,G⟩
def Step.after(st:Step I μ H w I' μ' H' w'){b:Nat}(o:Obj)(B:w.heap.size<=b)(D:Obj.nf o:=by first|exact vm _ _|exact tN rfl):Step I μ H w I' μ' H' (gQ w' b o):=⟨st.le,st.mu,st.len,by rw[zj];exact st.size,λz u C=>by rw[iq o Zaa];exact st.frame z u C,st.terr,st.os,⟨st.out.out,st.out.tape,st.out.dr⟩,λa B G=>ZD D a (st.fz a B G)⟩
def lI.C2{ds:aZ Deferred}(h:lI B ds w){b:Nat}{o:Obj}(D:∀r,w.heap[r]?=some (.deferred (some []))->r≠b):lI B ds (gQ w b o):=
 ⟨λd hd=>by
  have⟨r,a,z,u⟩:=h.all d hd;exact⟨r,a,z,by rw[iq o (D r u)];exact u⟩,h.apart⟩
def Pn{step:WP->bp->a_ (Out×WP×bp)}{c:Code}{ro:a_ Nat}{o:Out}
 (D:∀I μ F H a w o F' H',step F H=some (o,F',H')->fe I μ n F a.tmps->dm I μ H w->lI B a.defers w->B<=w.heap.size->c.wpIn (fr ro) 0 P (Post B n I μ H w o F' H') a w)
 {k:Nat}(h:mo step k F H=some (o,F',H'))(r:fe I μ n F a.tmps)(s:dm I μ H w)(m:lI B a.defers w)(i:B<=w.heap.size):
 (Code.loop c).wpIn (fr ro) 0 P (Post B n I μ H w o F' H') a w:=by
 let b:Nat->Act->World->Prop:=λk u w'=>∃I1 J F1 H1,mo step k F1 H1=some (o,F',H')/\fe I1 J n F1 u.tmps/\dm I1 J H1 w'/\Step I μ H w I1 J H1 w'/\lI B u.defers w'/\B<=w'.heap.size
 let M:Act->World->Nat:=λu w'=>least (λk=>b k u w')
 have d:∀k u w',b k u w'->b (M u w') u w'/\M u w'<=k:=λk u w' hi=>Oa (λk=>b k u w') hi
 refine wpIn_loop (λu w'=>∃k,b k u w') M ⟨k,I,μ,F,H,h,r,s,.refl _ _ _ _,m,i⟩ ?_
 rintro a1 S ⟨k1,T⟩;have⟨hi,_⟩:=d k1 a1 S T;generalize q:M a1 S=kk at hi;have⟨I1,J,F1,H1,L,r1,O,C,Y,G⟩:=hi
 cases kk with
 |zero=>simp[mo]at L|succ kk=>
  simp only[mo]at L;split at L
  next Z H2 U=>refine wpIn_mono (D I1 J F1 H1 a1 S .norm Z H2 U r1 O Y G) ?_;rintro e a2 Q ⟨rfl,⟨I2,j,r2,l,st2⟩,p⟩;show(∃k,b k a2 Q)/\M a2 Q<kk+1;have z:b kk a2 Q:=⟨I2,j,Z,H2,L,r2,l,Step.trans O C st2,p,le_trans G st2.size⟩;exact⟨⟨kk,z⟩,Nat.lt_succ_of_le (d kk a2 Q z).2⟩
  rename_i W;refine wpIn_mono (D I1 J F1 H1 a1 S o F' H' L r1 O Y G) ?_;intro e a2 Q hp;have X:o≠.norm:=by rintro rfl;exact W F' H' L
  obtain⟨rfl,f,g⟩:=hp
  cases o with
  |norm=>exact absurd rfl X|exit id=>exact Post.mono O C ⟨rfl,f,g⟩|ret=>exact Post.mono O C ⟨rfl,f,g⟩
end
end Go.VE
namespace Go.VE
variable[b_]
section
variable{P:Program}{E:Env}{I I':cG}{μ μ':Mu}{H H':bp}{n B:Nat}{F F':WP}{a:Act}{w w':World}
def C1(s:dm I μ H w){id:Nat}{r:xS}(h:H[id]?=some (.loop r)):∃p l,μ id=some p/\I p.b=none/\w.heap[p.b]?=some (.loop l)/\xU I μ r l:=s.obs id _ h
def K4{p:a_ Out}(hp:p≠some .norm):(p.bind mO=none->p.getD .norm=.norm)/\(∀c,p.bind mO=some c->(c=.ret/\p.getD .norm=.ret)\/∃id,c=.exit id/\p.getD .norm=.exit id):=by cases p with|none=>grind|some o=>cases o with|norm=>grind|ret=>exact⟨by simp[mO],by simp[mO]⟩|exit id=>exact⟨by simp[mO],by simp[mO]⟩
def MK{call:dQ}(hc:mG P call){g:UV}{ps:Array Tmp}{assign body:Code}{o:Out}{lf:Nat}
 (h:exec E call lf false n (.rangeFunc g ps assign body) F H=some (o,F',H'))(r:fe I μ n F a.tmps)(s:dm I μ H w)(m:lI B a.defers w)(hB:B<=w.heap.size):
 (Code.rangeFunc g ps assign body).wpIn (fr none) 0 P (Post B n I μ H w o F' H') a w:=by
 cases t:ev F g with
 |none=>simp[exec,t]at h|some gv=>
 cases gv with
 |clo f x y=>
  simp[exec,t]at h;split at h
  .rename_i an H2 O;split at h
   .rename_i r2 G;have Y:r2.st≠.busy/\r2.pend.getD .norm=o/\F=F'/\H2.set H.length .dead=H':=by
     grind
    obtain⟨Y,rfl,rfl,rfl⟩:=Y;have⟨u,v,eg,hu,hv⟩:=(dR r t).lG;refine wpIn_rangeFunc λC _=>?_
    have Z:∀b,b<w.heap.size->(w.alloc (.deferred (some []))).heap[b]?=w.heap[b]?:=λb hb=>nL _ b hb
    have A:=s.kept Z;have ae:Step I μ H w I μ H (w.alloc (.deferred (some []))):=Step.kept Z Zab rfl ⟨rfl,rfl,le_refl _⟩ (λa _=>Qd (tN rfl) a)
    have af:xU I μ ⟨.ready,none,F,n,ps.toList,assign,body⟩ {state:=.ready,pending:=none,fn:=C,tmps:=a.tmps,params:=ps,assign,body,defers:=w.heap.size}:=⟨trivial,rfl,Zab,r,rfl,rfl,rfl⟩
    have⟨N,st2⟩:=A.push (ob:=.loop ⟨.ready,none,F,n,ps.toList,assign,body⟩)
     (o:=.loop {state:=.ready,pending:=none,fn:=C,tmps:=a.tmps,params:=ps,assign,body,defers:=w.heap.size}) (p:=⟨w.heap.size+1,0,0,0⟩) Zab
     ⟨_,_,Mu.ig _ _ _,by have:=A.Aw;simp_all,by have:=oQ (w:=w.alloc (.deferred (some []))) (.loop {state:=.ready,pending:=none,fn:=C,tmps:=a.tmps,params:=ps,assign,body,defers:=w.heap.size});simp_all,
      af.mono (cG.le_refl _) (Mu.sY (A.dom _ (le_refl _)))⟩
    have Q:=(hu.mono (cG.le_refl _) st2.mu).append (.cons (.yld H.length ⟨w.heap.size+1,0,0,0⟩ (Mu.ig _ _ _)) (hv.mono (cG.le_refl _) st2.mu))
    have⟨hf,J⟩:=hc.fn f _ _ _ _ O;refine⟨w.heap.size+1,[{target:=.collected w.heap.size,args:=#[]}],((w.alloc (.deferred (some []))).alloc (.loop {state:=.ready,pending:=none,fn:=C,tmps:=a.tmps,params:=ps,assign,body,defers:=w.heap.size})),{target:=.fn (.func f) v,args:=u++#[.func (.yield (w.heap.size+1)) #[] #[]]},((w.alloc (.deferred (some []))).alloc (.loop {state:=.ready,pending:=none,fn:=C,tmps:=a.tmps,params:=ps,assign,body,defers:=w.heap.size})),f,u++#[.func (.yield (w.heap.size+1)) #[] #[]]++v,((w.alloc (.deferred (some []))).alloc (.loop {state:=.ready,pending:=none,fn:=C,tmps:=a.tmps,params:=ps,assign,body,defers:=w.heap.size})),
     run_enterLoop_outer C a.tmps ps assign body,?_,λ_ _=>trivial,?_,λh=>by simp[fr]at h,?_⟩
    .simp[resolve];rw[eg];simp[Deferred.ofValue,Act.eval]
    .exact zA hf _
    have aa:=J _ _ _ _ N Q;have S:(u.toList++.func (.yield (w.heap.size+1)) #[] #[]::v.toList).toArray=u++#[.func (.yield (w.heap.size+1)) #[] #[]]++v:=Zac
    rw[S]at aa;refine aa.mono ?_;rintro e j ⟨am,R,K,rfl,_,M,T⟩;have⟨p,l,g1,g2,g3,g4⟩:=C1 M G;have hp:p=⟨w.heap.size+1,0,0,0⟩:=by have:=T.mu _ _ (Mu.ig μ H.length ⟨w.heap.size+1,0,0,0⟩);grind
    subst hp;have L:l.state≠.busy:=by intro he;have:=g4.st;rw[he]at this;cases ah:r2.st<;>rw[ah]at this<;>simp[Dy.is]at this;grind
    refine⟨l.pending,_,run_endLoop g3 L,?_⟩;have⟨s4,ai⟩:=M.kill G;have U:¬je K (H2.set H.length .dead) (w.heap.size+1):=by rintro⟨id,q,ob,i,k,W,h4⟩;by_cases e:id=H.length;subst e;rw[List.getElem?_set_self (ζe.1 G).1]at i;cases i;simp[Ob.live]at k;rw[List.getElem?_set_ne (Ne.symm e)]at i;exact e (M.inj id H.length ob _ q _ i G k rfl W g1 h4)
    have s5:dm R K (H2.set H.length .dead) (gQ j (w.heap.size+1) (.loop {l with state:=.exhausted})):=s4.C2 _ g2 U;have st:=Step.trans A ae (Step.trans N st2 (Step.trans M T ai));have aj:Step I μ H w R K (H2.set H.length .dead) (gQ j (w.heap.size+1) (.loop {l with state:=.exhausted})):=st.after _ Zaa
    have m2:lI B ({target:=.collected w.heap.size,args:=#[]}::a.defers) ((w.alloc (.deferred (some []))).alloc (.loop {state:=.ready,pending:=none,fn:=C,tmps:=a.tmps,params:=ps,assign,body,defers:=w.heap.size})):=by refine⟨?_,?_⟩;intro d hd;rcases mem_cons.1 hd with rfl|hd;refine⟨w.heap.size,rfl,hB,?_⟩;rw[nL _ _ Zab];exact oQ _;have⟨q,i,k,W⟩:=m.all d hd;have X:=(Array.getElem?_eq_some_iff.1 W).1;refine⟨q,i,k,?_⟩;rw[nL _ _ (by simp;omega),nL _ _ X];exact W;refine List.Pairwise.cons ?_ m.apart;intro d hd q X ab;have⟨q2,i,k,W⟩:=m.all d hd;have:=(Array.getElem?_eq_some_iff.1 W).1;cases X;rw[i]at ab;cases ab;omega
    have m3:=m2.step N T;have m5:lI B ({target:=.collected w.heap.size,args:=#[]}::a.defers) (gQ j (w.heap.size+1) (.loop {l with state:=.exhausted})):=m3.C2 (λq X e=>by subst e;rw[g3]at X;cases X)
    have ak:=st.le;have al:=st.mu;have z:∀D:Out,r2.pend.getD .norm=D->Post B n I μ H w D F (H2.set H.length .dead) D.J7 {a with defers:=[{target:=.collected w.heap.size,args:=#[]}]++a.defers} (gQ j (w.heap.size+1) (.loop {l with state:=.exhausted})):=λD _=>⟨rfl,⟨R,K,r.mono ak al,s5,aj⟩,m5⟩
    obtain⟨W5,ad⟩:∃W5,j.putObj (w.heap.size+1) (.loop {l with state:=.exhausted})=W5:=⟨_,rfl⟩;have z:∀D:Out,r2.pend.getD .norm=D->Post B n I μ H w D F (H2.set H.length .dead) D.J7 {a with defers:=[{target:=.collected w.heap.size,args:=#[]}]++a.defers} W5:=by intro D ho;rw[<-ad];exact z D ho
    rw[ad];have⟨k1,k2⟩:=K4 g4.pendOk;rw[g4.pend]
    cases V:r2.pend.bind mO with
    |none=>rw[k1 V];exact z .norm (k1 V)|some c=>
     rcases k2 c V with⟨rfl,e⟩|⟨id,rfl,e⟩
     .rw[e];exact wpIn_ret (z .ret e)
     rw[e];exact wpIn_exit (z (.exit id) e)
   grind
  grind
 |_=>simp[exec,t]at h
def AJ(f:fq P E)(i:P.follows .mixedOrders=true){call:dQ}(d:mG P call)(lf:Nat)(ro:a_ Nat)(U:X')(k:U=ro.isSome)(n:Nat):
 ∀(c:Code)(I:cG)(μ:Mu)(F:WP)(H:bp)(a:Act)(w:World)(o:Out)(F':WP)(H':bp),exec E call lf U n c F H=some (o,F',H')->fe I μ n F a.tmps->dm I μ H w->
  lI B a.defers w->B<=w.heap.size->c.wpIn (fr ro) 0 P (Post B n I μ H w o F' H') a w:=by
 intro c
 induction c with
 |skip=>intro I μ F H a w o F' H' h r s m _;obtain⟨rfl,rfl,rfl⟩:=h;exact wpIn_skip ⟨rfl,⟨I,μ,r,s,.refl _ _ _ _⟩,m⟩|label l=>intro I μ F H a w o F' H' h r s m _;obtain⟨rfl,rfl,rfl⟩:=h;exact wpIn_label ⟨rfl,⟨I,μ,r,s,.refl _ _ _ _⟩,m⟩|region id ops X=>
  intro I μ F H a w o F' H' h r s m _;simp only[exec,ζf]at h;obtain⟨⟨p,H2⟩,h,rfl,rfl,rfl⟩:=h;refine Lg f i d ro h r s (λa' I' μ' w' b z C Y=>⟨rfl,⟨I',μ',b,C,Y⟩,?_⟩)
  rw[z];exact m.step s Y
 |seq x y D G=>
  intro I μ F H a w o F' H' h r s m u;simp[exec]at h;refine wpIn_seq ?_;split at h
  next F1 H1 b=>refine wpIn_mono (D I μ F H a w _ F1 H1 b r s m u) ?_;rintro e a1 J ⟨rfl,⟨I1,j,r1,Z,L⟩,m1⟩;refine wpIn_mono (G I1 j F1 H1 a1 J o F' H' h r1 Z m1 (le_trans u L.size)) ?_;intro e a2 q hp;exact Post.mono Z L hp
  refine wpIn_mono (D I μ F H a w o F' H' h r s m u) ?_;rintro e a1 J ⟨rfl,z,C⟩
  cases o with
  |norm=>grind|exit id=>exact⟨rfl,z,C⟩|ret=>exact⟨rfl,z,C⟩
 |cond c x y D G=>
  intro I μ F H a w o F' H' h r s m u;simp[exec]at h;split at h
  .rename_i t S;have T:=(dR r S).tV;refine wpIn_cond T ?_
   grind
  grind
 |block id c Q=>
  intro I μ F H a w o F' H' h r s m u;simp[exec]at h;refine wpIn_block ?_;split at h
  .rename_i O F1 H1 b;refine wpIn_mono (Q I μ F H a w _ F1 H1 b r s m u) ?_;rintro e a1 J ⟨rfl,z,C⟩;show Exit.inBlock id _ (.exit O) a1 J;unfold Exit.inBlock;split at h
   next W=>obtain⟨rfl,rfl,rfl⟩:=h;simp[W];exact⟨rfl,z,C⟩
   rename_i W;obtain⟨rfl,rfl,rfl⟩:=h;simp[W];exact⟨rfl,z,C⟩
  refine wpIn_mono (Q I μ F H a w o F' H' h r s m u) ?_;rintro e a1 J ⟨rfl,z,C⟩
  cases o with
  |norm=>exact⟨rfl,z,C⟩|exit O=>grind|ret=>exact⟨rfl,z,C⟩
 |loop c Q=>intro I μ F H a w o F' H' h r s m u;exact Pn (λI μ F H a w o F' H' h r s m u=>Q I μ F H a w o F' H' h r s m u) h r s m u|rangeFunc g ps assign body _ _=>
  intro I μ F H a w o F' H' h r s m u
  cases U with
  |true=>simp[exec]at h|false=>
   cases ro with
   |none=>exact MK d h r s m u|some l=>simp_all
 |exit id=>intro I μ F H a w o F' H' h r s m _;obtain⟨rfl,rfl,rfl⟩:=h;exact wpIn_exit ⟨rfl,⟨I,μ,r,s,.refl _ _ _ _⟩,m⟩|ret=>intro I μ F H a w o F' H' h r s m _;obtain⟨rfl,rfl,rfl⟩:=h;exact wpIn_ret ⟨rfl,⟨I,μ,r,s,.refl _ _ _ _⟩,m⟩|scope body _=>intro I μ F H a w o F' H' h;simp[exec]at h|goto l=>intro I μ F H a w o F' H' h;simp[exec]at h|refuse ab=>intro I μ F H a w o F' H' h;simp[exec]at h
end
def uq{f g:V->a_ V}(h:∀x y,f x=some y->g x=some y):∀{l:So}{r:So},jm f l=some r->jm g l=some r
 |[],_,hr=>hr|x::l,r,hr=>by simp only[jm]at hr⊢;split at hr;(next y s a B=>rw[h _ _ a,uq h B];exact hr);cases hr
def Lp{f g:V->a_ V}(h:∀x y,f x=some y->g x=some y):∀{l:S'}{r:S'},nv f l=some r->nv g l=some r
 |[],_,hr=>hr|x::l,r,hr=>by simp only[nv]at hr⊢;split at hr;(next y s a B=>rw[uq h a,Lp h B];exact hr);cases hr
def LY{f g:V->a_ V}(h:∀x y,f x=some y->g x=some y):∀{l:aZ (V×V)}{r:aZ (V×V)},m_ f l=some r->m_ g l=some r
 |[],_,hr=>hr|(k,x)::l,r,hr=>by simp only[m_]at hr⊢;split at hr;(next y s u a B D=>rw[h _ _ a,h _ _ B,LY h D];exact hr);cases hr
def Ml{H:bp}:∀(n:Nat)(x y:V),borrow n H x=some y->borrow (n+1) H x=some y:=by intro n;induction n with|zero=>intro x y h;simp only[borrow]at h;split at h;(next d=>rw[lN _ _ d];exact h);cases h|succ n w=>intro x y h;unfold borrow at h⊢;split;(next d=>rw[if_pos d]at h;exact h);rename_i d;rw[if_neg d]at h;cases x with|hsl id es off len=>simp only at h⊢;split at h;split at h;(next q=>rw[if_pos q];have⟨r,c,u⟩:=ζf.1 h;rw[Lp w c];exact congrArg some u);cases h;cases h|hptr id el off=>simp only at h⊢;split at h;split at h;split at h;(next q=>rw[if_pos q];have⟨r,c,u⟩:=ζf.1 h;rw[uq w c];exact congrArg some u);cases h;cases h;cases h|hmap id=>simp only at h⊢;split at h;have⟨r,c,u⟩:=ζf.1 h;rw[LY w c];exact congrArg some u;cases h|clo f a b=>simp only at h⊢;split at h;(next c u=>rw[uq w c,uq w u];exact h);cases h|agg cs=>simp only at h⊢;have⟨r,c,u⟩:=ζf.1 h;rw[uq w c];exact congrArg some u|tup cs=>simp only at h⊢;have⟨r,c,u⟩:=ζf.1 h;rw[uq w c];exact congrArg some u|_=>cases h
def uj{H:bp}{n m:Nat}(h:n<=m){x y:V}(B:borrow n H x=some y):borrow m H x=some y:=by induction h with|refl=>exact B|step _ u=>exact Ml _ _ _ u
def uI{H:bp}{n m:Nat}(h:n<=m){l r:So}(B:borrows n H l=some r):borrows m H l=some r:=uq (λ_ _=>uj h) B
def Eu{f g:V->ST}:∀{l:So},(∀x∈l,f x=g x)->c_ f l=c_ g l
 |[],_=>rfl|x::l,h=>by simp only[c_];rw[h x (mem_cons_self ..),Eu λy B=>h y (mem_cons_of_mem _ B)]
def rD{f:V->a_ V}:∀{l r:So},jm f l=some r->∀x∈l,∃y,f x=some y
 |[],_,_,x,b=>by cases b|a::l,r,h,x,b=>by simp only[jm]at h;split at h;rename_i y s c B;rcases mem_cons.1 b with rfl|b;exact⟨y,c⟩;exact rD B x b;cases h
def Hp{f:V->a_ V}:∀{l r:S'},nv f l=some r->∀c∈l,∀x∈c,∃y,f x=some y
 |[],_,_,x,B=>by cases B|a::l,r,h,c,b=>by simp only[nv]at h;split at h;rename_i y s d D;rcases mem_cons.1 b with rfl|b;exact rD d;exact Hp D c b;cases h
def Bz{f:V->a_ V}:∀{l r:aZ (V×V)},m_ f l=some r->∀c∈l,(∃y,f c.1=some y)/\∃y,f c.2=some y
 |[],_,_,x,B=>by cases B|(k,a)::l,r,h,c,b=>by simp only[m_]at h;split at h;rename_i y s u d D G;rcases mem_cons.1 b with rfl|b;exact⟨⟨y,d⟩,s,D⟩;exact Bz G c b;cases h
def OK{H:bp}:∀(n:Nat)(x y:V),borrow n H x=some y->cA (n+1) H x=cA n H x:=by
 intro n
 induction n with
 |zero=>intro x y h;simp only[borrow]at h;split at h;(next e=>simp[cA,e]);cases h|succ n I=>
  intro x y h;have u:∀l:So,(∀x∈l,∃y,borrow n H x=some y)->c_ (cA (n+1) H) l=c_ (cA n H) l:=λl J=>Eu λx w=>by have⟨y,L⟩:=J x w;exact I x y L
  unfold borrow at h;rw[cA.eq_def (n+1+1),cA.eq_def (n+1)];simp only;split;rfl;rename_i e;rw[if_neg e]at h
  cases x with
  |hsl id es off len=>simp only at h⊢;cases g:(H[id]?).bind Ob.rows with|none=>rfl|some q=>have⟨C,O⟩:=q;rw[g]at h;simp only at h⊢;split at h;have⟨r,d,z⟩:=ζf.1 h;rw[u _ λx w=>by have⟨c,e,D⟩:=List.mem_flatten.1 w;exact Hp d c e x D];cases h
  |hptr id el off=>simp only at h⊢;cases g:(H[id]?).bind Ob.rows with|none=>rfl|some q=>have⟨C,O⟩:=q;rw[g]at h;simp only at h⊢;split at h;rename_i cs G;split at h;have⟨r,d,z⟩:=ζf.1 h;rw[u _ λx w=>rD d x (by rw[G]at w;exact w)];cases h;cases h
  |hmap id=>
   simp only at h⊢;split at h;rename_i B i;have⟨r,d,z⟩:=ζf.1 h;skip;rw[u (B.map (·.1)) λx w=>by obtain⟨c,e,rfl⟩:=mem_map.1 w;exact(Bz d c e).1,
    u (B.map (·.2)) λx w=>by obtain⟨c,e,rfl⟩:=mem_map.1 w;exact(Bz d c e).2]
   cases h
  |clo f a b=>simp only at h⊢;split at h;(next d z=>rw[u _ (rD d),u _ (rD z)]);cases h|agg cs=>simp only at h⊢;have⟨r,d,z⟩:=ζf.1 h;exact u _ (rD d)|tup cs=>simp only at h⊢;have⟨r,d,z⟩:=ζf.1 h;exact u _ (rD d)|_=>rfl
def Ut{H:bp}{n m:Nat}(h:n<=m){x y:V}(B:borrow n H x=some y):cA m H x=cA n H x:=by induction h with|refl=>rfl|step h u=>rw[OK _ _ _ (uj h B),u]
def Bc{H:bp}{n m:Nat}(h:n<=m){l r:So}(B:borrows n H l=some r):c_ (cA m H) l=c_ (cA n H) l:=Eu λx u=>by have⟨y,w⟩:=rD B x u;exact Ut h w
def qd{f g h:V->a_ V}(k:∀x y z,f x=some y->g x=some z->h x=some z):∀{l r s:So},jm f l=some r->jm g l=some s->jm h l=some s
 |[],_,_,_,B=>B|x::l,r,s,hr,B=>by simp only[jm]at hr B⊢;split at hr;rename_i a D;split at B;(next G J=>rw[k _ _ _ a G,qd k D J];exact B);cases B;cases hr
def EH{f g h:V->a_ V}(k:∀x y z,f x=some y->g x=some z->h x=some z):∀{l r s:S'},nv f l=some r->nv g l=some s->nv h l=some s
 |[],_,_,_,B=>B|x::l,r,s,hr,B=>by simp only[nv]at hr B⊢;split at hr;rename_i a D;split at B;(next G J=>rw[qd k a G,EH k D J];exact B);cases B;cases hr
def FF{f g h:V->a_ V}(k:∀x y z,f x=some y->g x=some z->h x=some z):∀{l r s:aZ (V×V)},m_ f l=some r->m_ g l=some s->m_ h l=some s
 |[],_,_,_,B=>B|(a,x)::l,r,s,hr,B=>by simp only[m_]at hr B⊢;split at hr;rename_i b D G;split at B;(next J U W=>rw[k _ _ _ b J,k _ _ _ D U,FF k G W];exact B);cases B;cases hr
def L6{H H2:bp}:∀(n m:Nat)(x y z:V),borrow n H x=some y->borrow m H2 x=some z->(∀id:Nat,(H2[id]?).isSome=true->H2[id]?=H[id]?)->borrow n H2 x=some z:=by intro n;induction n with|zero=>intro m x y z h k _;simp only[borrow]at h;split at h;(next e=>rw[lN _ _ e]at k⊢;exact k);cases h|succ n G=>intro m x y z h k w;by_cases e:x.closed=true;rw[lN _ _ e]at k⊢;exact k;cases m with|zero=>simp only[borrow,if_neg e]at k;cases k|succ m=>have u:∀x y z,borrow n H x=some y->borrow m H2 x=some z->borrow n H2 x=some z:=λx y z a b=>G m x y z a b w;unfold borrow at h k⊢;rw[if_neg e]at h k⊢;have row:∀id q,(H2[id]?).bind Ob.rows=some q->(H[id]?).bind Ob.rows=some q:=λid q B=>(by rw[<-w id (by cases C:H2[id]?with|none=>rw[C]at B;cases B|some _=>rfl)];exact B);cases x with|hsl id es off len=>simp only at h k⊢;split at k;rename_i d;rw[row _ _ d]at h;simp only at h;split at k;(next q=>rw[if_pos q]at h⊢;have⟨r,c,_⟩:=ζf.1 h;have⟨s,k1,k2⟩:=ζf.1 k;rw[EH u c k1];exact congrArg some k2);cases k;cases k|hptr id el off=>simp only at h k⊢;split at k;rename_i d;rw[row _ _ d]at h;simp only at h;split at k;rename_i D;rw[D]at h;simp only at h;split at k;(next q=>rw[if_pos q]at h⊢;have⟨r,c,_⟩:=ζf.1 h;have⟨s,k1,k2⟩:=ζf.1 k;rw[qd u c k1];exact congrArg some k2);cases k;cases k;cases k|hmap id=>simp only at h k⊢;split at k;rename_i d;rw[<-w id (by rw[d];rfl),d]at h;simp only at h;have⟨r,c,_⟩:=ζf.1 h;have⟨s,k1,k2⟩:=ζf.1 k;rw[FF u c k1];exact congrArg some k2;cases k|clo f a b=>simp only at h k⊢;split at h;rename_i c C;split at k;(next k1 k2=>rw[qd u c k1,qd u C k2];exact k);cases k;cases h|agg cs=>simp only at h k⊢;have⟨r,c,_⟩:=ζf.1 h;have⟨s,k1,k2⟩:=ζf.1 k;rw[qd u c k1];exact congrArg some k2|tup cs=>simp only at h k⊢;have⟨r,c,_⟩:=ζf.1 h;have⟨s,k1,k2⟩:=ζf.1 k;rw[qd u c k1];exact congrArg some k2|_=>cases h
end Go.VE
namespace Go.VE
variable[b_]
open Go.Proofs Go.Sort
structure CW(P:Program)(f:FuncId):Prop where
 ok:A7 P f
 zero:∀(p:Option Addr)(cap:Nat)(fv:Value)(w:World),Calls P f #[.slice p 0 cap,fv] w λe w'=>e=.returned (.tuple #[])/\w'=w
 all:∀{α:Type}[Inhabited α](enc:α->Value)(_:OneCell enc)(cf:α->α->Int)(_:SWO (ltOf cf))(g:Nat)(cb:Array Value)(blk off cap:Nat)(d:Array α)(w:World)
  (_:∀args w,(callFunc g args).run P w=.ok (.enter g args) w)(_:CmpLays1 P g cb enc cf blk off d.size w)(_:Holds enc w blk off d)(_:blk<w.heap.size)(_:d.size<4611686018427387904),
  Calls P f #[.slice (some ⟨blk,off,none⟩) d.size cap,.func (.func g) #[] cb] w λe w'=>e=.returned (.tuple #[])/\∃n os,w'=sortWorld enc w blk off n (pdq (ltOf cf) d 0 d.size (Lib.bitLen d.size) true true) os
def M3{α:Type}[Inhabited α](lt:α->α->X'):∀(k i:Nat)(d:Array α),Lx lt k i d=insOuter lt 0 (i+k) i d
 |0,i,d=>by rw[insOuter];simp[Lx]|k+1,i,d=>by rw[insOuter,Lx,M3 lt k];grind
def Ey(n:Nat)(lt:Fin (n+1)->Fin (n+1)->X'):sJ n lt=pdq lt (finRange (n+1)).toArray 0 (n+1) (Lib.bitLen (n+1)) true true:=by unfold sJ;split;rw[pdq,if_pos Zaa,insertionSort,M3,Nat.add_comm 1 n];rfl
def rW{n:Nat}{t:Fin (n+1)->Fin (n+1)->Pi}(h:De t=true):(∀i j,∃c,t i j=some c)/\SWO (qY t):=by have u:∀(p:Fin (n+1)->X'),(finRange (n+1)).all p=true->∀i,p i=true:=λp h i=>List.all_eq_true.1 h i (List.mem_finRange i);have d:=λi=>u _ h i;simp only[ζh,Bool.not_eq_true']at d;have w:=λi j=>u _ (d i).2 j;simp only[ζh]at w;have z:=λi j k=>u _ (w i j).2 k;refine⟨λi j=>Option.isSome_iff_exists.1 (w i j).1,λi=>(d i).1,λi j k a b=>?_,λi j k a b=>?_⟩;have:=z i j k;grind;grind
section
variable{P:Program}{I I':cG}{μ μ':Mu}{H H':bp}{w w':World}
def Hz(w:World)(os:Array Obj)(b:Nat)(h:b<w.heap.size):(grow w os).heap[b]?=w.heap[b]?:=by unfold grow;grind
def Calls.fr{f:Y'}{args:Array V'}{R:Ending->World->Prop}(h:Calls P f args w R):CallsIn (fr none) 0 P f args w R:=callsIn_wide.2 h
def CallsIn.un{f:Y'}{args:Array V'}{R:Ending->World->Prop}(h:CallsIn (fr none) 0 P f args w R):Calls P f args w R:=callsIn_wide.1 h
def TN{p:Pl}{c:Array V'}{xs:S'}(B:p.es=1)(D:c.size=p.sz)(g:p.o+xs.length<=c.size)
 (h:∀(i:Nat)x,xs[i]?=some x->∃v u,x=[v]/\V.one v=true/\c[p.o+i]?=some u/\bO I μ v u):gW I μ p c 1 xs:=by
 have d:∀x∈xs,x.length=1:=λx w=>by have⟨i,hi⟩:=List.getElem?_of_mem w;grind
 have C:xs.flatten.length=xs.length:=by rw[gL d,mul_one]
 refine⟨B,D,d,λx w y G=>?_,Zaa,⟨?_,λj a b f J=>?_⟩⟩
 .have⟨i,hi⟩:=List.getElem?_of_mem w
  grind
 .grind
 have z:j<xs.length:=by have:=(ζe.1 f).1;omega
 have⟨v,u,e,_,L,O⟩:=h j xs[j] (by simp[z])
 have:=yA d (i:=j) (j:=0) (x:=xs[j]) (by simp[z]) (by rw[e];rfl)
 simp_all
def xZ{p:Pl}{c:Array V'}{xs:S'}(r:gW I μ p c 1 xs)(i:Nat){x:So}(h:xs[i]?=some x):∃v u,x=[v]/\V.one v=true/\c[p.o+i]?=some u/\bO I μ v u:=by
 have w:=List.mem_of_getElem? h;obtain⟨v,rfl⟩:=List.length_eq_one_iff.1 (r.ri x w);have hi:=(ζe.1 h).1;have z:=by have:=r.room;omega
 refine⟨v,c[p.o+i],rfl,r.one _ w v Zab,Zad,?_⟩;exact r.idx (j:=0) h rfl Zad
def Wb{α:Type}[Inhabited α](enc:α->V')(a o m:Nat)(B:Array α)(os:Array Obj){b:Nat}(G:b<w.heap.size)(D:b≠a):(sortWorld enc w a o m B os).heap[b]?=w.heap[b]?:=by unfold sortWorld;rw[Hz _ _ _ Zad];simp[putRow,mapBlock,Sort.ahead,Array.getElem?_modify,if_neg (Ne.symm D)]
def MC{α:Type}[Inhabited α](enc:α->V'){a:Nat}(o m:Nat)(B:Array α){c:Array V'}{el:W'}(h:w.heap[a]?=some (.cells c el)):
 putRow enc (Sort.ahead w m) a o B=gQ (Sort.ahead w m) a (.cells (Sort.putCells enc o B c) el):=by
 unfold putRow mapBlock gQ Sort.ahead
 congr 1
 have⟨u,e⟩:=Array.getElem?_eq_some_iff.1 h;apply Array.ext
 .simp
 intro i b z
 by_cases hi:i=a
 .subst hi;simp[Array.getElem_modify,e,onCells]
 grind
def Step.grown(st:Step I (λ_=>none) [] w I' μ' H' w'):∃q os,w'=grow (w.drewN q) os:=by
 refine⟨w'.drawn-w.drawn,w'.heap.extract w.heap.size w'.heap.size,?_⟩;have u:w'.heap=w.heap++w'.heap.extract w.heap.size w'.heap.size:=by apply Array.ext_getElem?;intro i;by_cases hi:i<w.heap.size;rw[Array.getElem?_append_left hi];exact st.frame i hi (by rintro⟨id,p,ob,h,_⟩;simp at h);rw[Array.getElem?_append_right Zaa];simp[Array.getElem?_extract];by_cases C:i<w'.heap.size;rw[if_pos Zaa];congr 1;omega;rw[if_neg Zaa,Array.getElem?_eq_none Zaa]
 have a:=st.os;have z:=st.out.out;have B:=st.out.tape;have D:=st.out.dr;unfold grow World.drewN;cases w';simp only at *;subst a z B;simp[World.mk.injEq];exact⟨u,Zaa⟩
def OE{call B:dQ}{g:Y'}{G D:So}{n:Nat}(h:∀args y,cw call g args []=some y->cw B g args []=some y){i j:Fin (n+1)}{z:Int}(J:jS call g G D n i j=some z):jS B g G D n i j=some z:=by unfold jS at J⊢;grind
def Fv{keep:Y'->X'}{call B:dQ}(G:call.lv<=B.lv)(h:∀g args y,keep g=false->cw call g args []=some y->cw B g args []=some y){args:So}{r:V×bp}(b:sC keep call args H=some r):sC keep B args H=some r:=by
 unfold sC at b⊢;split at b;split at b;omega;omega;split at b;omega;split at b;rename_i n g cb _ O S I;split at b;rename_i u;split at b;rename_i J w D C;rw[uI G D,uI G C];split at b;rename_i Q;have e:jS B g J w n=jS call g J w n:=by funext i j;have⟨z,L⟩:=(rW Q).1 i j;rw[L];exact OE (λa y=>h g a y u.2.2.2.2) L
 grind;simp_all;simp_all;simp_all;simp_all;simp_all;simp_all;simp_all
set_option maxHeartbeats 1000000 in
def Xe{call:dQ}(hc:mG P call){f:Y'}(hs:CW P f){args:So}{r:V}{keep:Y'->X'}(h:sC keep call args H=some (r,H'))(s:dm I μ H w){vs:aZ V'}(hv:c6 I μ args vs):
 CallsIn (fr none) 0 P f vs.toArray w (Ao I μ H w r H'):=by
 unfold sC at h;split at h
 .rename_i sv cv;obtain⟨v1,r1,rfl,M,aD⟩:=hv.cons_inv;obtain⟨v2,r2,rfl,aE,aF⟩:=aD.cons_inv;obtain rfl:=aF.xT;have U:∀p l,v1=.slice p 0 l->CallsIn (fr none) 0 P f [v1,v2].toArray w (Ao I μ H w .undef H):=by
   rintro p l rfl;refine Calls.fr ((hs.zero p l v2 w).mono ?_);rintro e w' ⟨rfl,rfl⟩;exact⟨_,I,μ,rfl,bO.undef _ _,s,Step.refl _ _ _ _⟩
  split at h
  .cases h;exact U none 0 M.nP
  .cases h;have⟨a,e⟩:=M.ue;exact U a 0 e
  .rename_i id es off len;split at h
   .cases h;rcases M.nN with⟨p,l,_,_,_,_,e⟩|⟨_,a,e⟩
    .exact U _ l e
    exact U _ 0 e
   .rename_i n g cb;split at h
    .rename_i aT Q L;split at h
     .rename_i al;obtain⟨rfl,rfl,aR,hn,_⟩:=al;split at h
      .rename_i Z D aG aq;split at h
       .rename_i ar;cases h;have⟨p,c,el,hp,hI,J,S⟩:=s.obs id _ L;rcases M.nN with⟨q,l,hq,aU,aS,aH,rfl⟩|⟨h0,_⟩
        .rw[hp]at hq;cases hq;obtain⟨va,F,rfl,R,au⟩:=aE.lG;have av:va=#[]:=by have:=R.xT;simpa using this
         subst av;have am:=(ζe.1 L).1;have⟨t,_⟩:=s.kill L;generalize hT:c_ (cA call.lv (H.set id .dead)) (((Q.drop off).take (n+1)).flatten++cb)=T;have aI:plus I μ (H.set id .dead) w T p.b=none:=by cases B:plus I μ (H.set id .dead) w T p.b with|none=>rfl|some x=>exfalso;rcases AO (by rw[B];rfl)with h|⟨aw,p',ob,_,g1,g2,g3,g4⟩;rw[hI]at h;cases h;have ax:aw≠id:=(by rintro rfl;rw[List.getElem?_set_self am]at g1;cases g1;simp[Ob.live]at g2);rw[List.getElem?_set_ne (Ne.symm ax)]at g1;exact ax (s.inj aw id ob (.row 1 Q) p' p g1 L g2 rfl g3 hp g4)
         let enc:Fin (n+1)->V':=λi=>(c[p.o+off*1+i.1]?).getD undef
         have K:∀i:Fin (n+1),∃v,Q[off+i.1]?=some [v]/\V.one v=true/\bO I μ v (enc i)/\c[p.o+off*1+i.1]?=some (enc i):=λi=>by have⟨v,u,e1,e2,e3,e4⟩:=xZ S (off+i.1) (x:=Q[off+i.1]' Zaa) Zab;have e5:c[p.o+off*1+i.1]?=some u:=(by rw[<-e3];congr 1;omega);have e6:enc i=u:=(by show(c[p.o+off*1+i.1]?).getD undef=u;rw[e5];rfl);exact⟨v,by rw[<-e1];simp,e2,by rw[e6];exact e4,by rw[e5,e6]⟩
         have h1:OneCell enc:=λi=>by have⟨v,_,e2,e3,_⟩:=K i;exact e3.one e2
         have⟨ay,ae⟩:=rW ar;have⟨aV,aJ⟩:=jO aG;have⟨aK,aL⟩:=jO aq;have aA:∀x∈(Q.drop off).take (n+1),x.length=1:=λx B=>S.ri x (List.mem_of_mem_drop (List.mem_of_mem_take B))
         have W:∀(i:Fin (n+1))u,Z[i.1]?=some u->e9 (plus I μ (H.set id .dead) w T) u (enc i):=λi u hu=>by have⟨x,B,an⟩:=aJ i.1 u hu;have⟨v,e1,_,e3,_⟩:=K i;have e4:((Q.drop off).take (n+1))[i.1]?=some [v]:=(by rw[getElem?_take,if_pos i.2,List.getElem?_drop];exact e1);have e5:=yA (es:=1) aA (i:=i.1) (j:=0) e4 rfl;have e5:((Q.drop off).take (n+1)).flatten[i.1]?=some v:=(by simpa using e5);rw[e5]at B;cases B;refine(wR t T call.lv _ u _ an (λk A=>?_) e3).1;rw[<-hT];exact lQ (List.mem_append_left _ (List.mem_of_getElem? e5)) A
         have ab:c6 (plus I μ (H.set id .dead) w T) (λ_=>none) D F.toList:=by refine⟨aK.trans au.1,λj a b k1 k2=>?_⟩;have⟨x,B,an⟩:=aL j a k1;refine .c _ _ (wR t T call.lv x a b an (λk A=>?_) (au.2 j x b B k2)).1;rw[<-hT];exact lQ (List.mem_append_right _ (List.mem_of_getElem? B)) A
         have af:=(Array.getElem?_eq_some_iff.1 J).1
         let d:Array (Fin (n+1)):=(finRange (n+1)).toArray
         have ao:d.size=n+1:=by simp[d]
         have hd:∀j:Fin (n+1),d[j.1]! =j:=λj=>by simp[d,getElem!_pos]
         have hg:∀i j:Fin (n+1),∃z,jS call g Z D n i j=some z/\∃a b,Z[i.1]?=some a/\Z[j.1]?=some b/\cw call g (a::b::D) []=some (.int .i64 z):=λi j=>by have⟨z,N⟩:=ay i j;have X:=N;unfold jS at X;split at X;rename_i a b E Y;split at X;(next z' C=>cases X;exact⟨z,N,a,b,E,Y,C⟩);cases X;cases X
         have aM:A7 P g:=by have⟨z,_,a,b,E,Y,C⟩:=hg 0 0;have s0:dm (plus I μ (H.set id .dead) w T) (λ_=>none) [] w:=⟨λ_ _=>rfl,vv t T,Zab,Zab,t.gl.mono (qN _ _ _ _ _)⟩;exact(EI hc C s0 (.cons (.c _ _ (W 0 a E)) (.cons (.c _ _ (W 0 b Y)) ab))).1
         have key:=hs.all enc h1 (λi j=>(jS call g Z D n i j).getD 0) ae g F p.b (p.o+off*1) l d w (λargs w=>zA aM args) (by
          intro m os G aW i j;have⟨z,N,a,b,E,Y,C⟩:=hg i j;have s0:dm (plus I μ (H.set id .dead) w T) (λ_=>none) [] (sortWorld enc w p.b (p.o+off*1) m G os):=⟨λ_ _=>rfl,λb x Y=>IC.uv (vv t T b x Y) (Wb enc p.b _ m G os (IC.vW (vv t T b x Y)) (by rintro rfl;rw[aI]at Y;cases Y)),Zab,Zab,t.gl.mono (qN _ _ _ _ _)⟩
          have:=CallsIn.un (EI hc C s0 (vs:=enc i::enc j::F.toList) (.cons (.c _ _ (W i a E)) (.cons (.c _ _ (W j b Y)) ab))).2;rw[show(enc i::enc j::F.toList).toArray=#[enc i,enc j]++F by apply ext';simp]at this
          refine this.mono ?_;rintro e w' ⟨u,I1,μ1,rfl,hu,s1,st⟩;exact⟨by rw[hu.gD];show _=Ending.returned (.int .i64 ((jS call g Z D n i j).getD 0));rw[N];rfl,st.grown⟩) (by
          intro j hj;have aB:j<n+1:=Zaa
          have⟨v,_,_,_,e4⟩:=K ⟨j,aB⟩;rw[hd ⟨j,aB⟩];exact⟨by rw[xR J];exact e4,by simp[World.frozen?,J]⟩) af Zaa
         rw[ao]at key;refine Calls.fr (key.mono ?_);rintro e w' ⟨rfl,m,os,rfl⟩;have aN:ltOf (λi j=>(jS call g Z D n i j).getD 0)=qY (jS call g Z D n):=rfl
         rw[aN,Ey];have ah:=pdq_sorts (qY (jS call g Z D n)) ae d 0 d.size (Lib.bitLen d.size) true true (Nat.zero_le _) (le_refl _) (Or.inl rfl);rw[ao]at ah;have O:=ah.1.1;change Ao I μ H w .undef (H.set id (.row 1 (tC Q off n (pdq (qY (jS call g Z D n)) d 0 (n+1) (Lib.bitLen (n+1)) true true).toList))) _ _;generalize pdq (qY (jS call g Z D n)) d 0 (n+1) (Lib.bitLen (n+1)) true true=G at O;rw[ao]at O;unfold sortWorld;rw[MC enc _ m G J];have s1:dm I μ H (Sort.ahead w m):=s.qO rfl;have aO:Step I μ H w I μ H (Sort.ahead w m):=Step.qO rfl rfl ⟨rfl,rfl,Nat.le_add_right _ _⟩;have ai:(Sort.putCells enc (p.o+off*1) G c).size=c.size:=by simp[Sort.putCells]
         have aj:∀i:Nat,(i<p.o+off*1\/p.o+off*1+(n+1)<=i)->(Sort.putCells enc (p.o+off*1) G c)[i]?=c[i]?:=λi hi=>by simp only[Sort.putCells,Array.getElem?_mapIdx];rw[O];cases c[i]?with|none=>rfl|some y=>simp only[map_some];rw[if_neg Zaa]
         have ap:∀i:Fin (n+1),(Sort.putCells enc (p.o+off*1) G c)[p.o+off*1+i.1]?=some (enc G[i.1]!):=λi=>by have⟨v,_,_,_,e4⟩:=K i;simp only[Sort.putCells,Array.getElem?_mapIdx,e4,map_some];rw[if_pos ⟨Zaa,by rw[O];omega⟩];congr 3;omega
         have aC:=S.room;have aP:(tC Q off n G.toList).length=Q.length:=by simp[tC,O];omega
         have⟨s2,st2⟩:=s1.write (o:=.cells (Sort.putCells enc (p.o+off*1) G c) el) (ob':=.row 1 (tC Q off n G.toList)) L rfl hp
          ⟨p,_,el,hp,hI,jx _ af,TN S.es_eq (by rw[ai];exact S.sz) (by rw[aP,ai];omega) λi x B=>by
           unfold tC at B
           by_cases c1:i<off
           .rw[List.append_assoc,List.getElem?_append_left (by simp;omega),getElem?_take,if_pos c1]at B
            have⟨v,u,e1,e2,e3,e4⟩:=xZ S i B;exact⟨v,u,e1,e2,by rw[aj _ Zaa];exact e3,e4⟩
           by_cases c2:i<off+(n+1)
           .rw[List.getElem?_append_left (by simp[O];omega),List.getElem?_append_right (by simp;omega)]at B
            have ak:i-off<G.size:=Zaa
            have e0:(Q.take off).length=off:=by simp;omega
            simp only[e0,List.getElem?_map,Array.getElem?_toList]at B;rw[Array.getElem?_eq_getElem ak]at B;simp only[map_some,ζa]at B;have⟨v,e1,e2,e3,e4⟩:=K G[i-off];rw[e1]at B;simp only[Option.getD_some]at B;refine⟨v,enc G[i-off],B.symm,e2,?_,e3⟩;have:=ap ⟨i-off,Zaa⟩
            simp only[getElem!_pos G (i-off) ak]at this;rw[<-this];congr 1;omega
           rw[List.getElem?_append_right (by simp[O];omega),List.getElem?_drop]at B
           have e0:off+(n+1)+(i-((Q.take off)++G.toList.map (λi=>(Q[off+i.1]?).getD [])).length)=i:=by simp[O];omega
           rw[e0]at B;have⟨v,u,e1,e2,e3,e4⟩:=xZ S i B;exact⟨v,u,e1,e2,by rw[aj _ Zaa];exact e3,e4⟩⟩
         have A:∀b,b<(gQ (Sort.ahead w m) p.b (.cells (Sort.putCells enc (p.o+off*1) G c) el)).heap.size->(grow (gQ (Sort.ahead w m) p.b (.cells (Sort.putCells enc (p.o+off*1) G c) el)) os).heap[b]?=(gQ (Sort.ahead w m) p.b (.cells (Sort.putCells enc (p.o+off*1) G c) el)).heap[b]?:=λb Y=>Hz _ _ _ Y
         have aQ:=Step.kept (I:=I) (μ:=μ) (H:=H.set id (.row 1 (tC Q off n G.toList))) A (by simp[grow]) rfl ⟨rfl,rfl,le_refl _⟩ (λa E h=>by unfold World.frozen? at h⊢;rw[A _ E];exact h)
         exact⟨_,I,μ,rfl,bO.undef _ _,s2.kept A,Step.trans s1 aO (Step.trans s2 st2 aQ)⟩
        cases h0
       cases h
      cases h
     cases h
    cases h
   cases h
  cases h
 cases h
end
def Ej(P:Program)(f:Y')(args:So)(y:V):Prop:=A7 P f/\∀I μ H w u,dm I μ H w->c6 I μ args u->CallsIn (fr none) 0 P f u.toArray w (Ao I μ H w y H)
def Qf{P:Program}{call:dQ}(a:mG P call){f:Y'}{b:X'}{H':bp}(h:call (.fn f) [] []=some (.bool b,H')):Ej P f [] (.bool b):=by
 have hi:∀H,cw call f [] H=some (.bool b):=by intro H;unfold cw;rw[show borrows call.lv H []=some []from rfl];simp only[h,lN _ H' (show(V.bool b).closed=true from rfl)];rfl
 refine⟨?_,λI μ H w u s c=>(EI a (hi H) s c).2⟩;have⟨d,_⟩:=a.fn _ _ _ _ _ h;omega
structure Yy(P:Program)(E:Env):Prop where
 sort:∀f,E.sort f=true->CW P f
 known:∀f args y,E.known f args=some y->Ej P f args y
end Go.VE
namespace Go.VE
variable[b_]
section
variable{P:Program}{E:Env}{I I':cG}{μ μ':Mu}{H H':bp}{n B:Nat}{F F':WP}{a:Act}{w w':World}
def NO:∀(F:WP)(t:Nat),F.length<=t->get F t=.undef
 |[],_,_=>rfl|_::_,0,h=>Zad|_::r,i+1,h=>NO r i Zac
def K8:∀(F:WP)(t:Nat)(x:V),F[t]?=some x->get F t=x
 |[],_,_,h=>Zad|_::_,0,_,h=>by simpa[get]using h|_::r,i+1,x,h=>K8 r i x Zac
def OT(b:wh I){args:So}{vs:aZ V'}{a:Nat}(h:c6 I μ args vs)(B:args.length<=a):
 fe I μ a args (vs.toArray++replicate (a-vs.toArray.size) undef):=by
 have u:=h.1;refine⟨Zad,λt=>?_,b⟩
 by_cases C:t<args.length
 .have h1:args[t]?=some args[t]:=by simp_all
  have w:t<vs.length:=Zaa
  have z:vs[t]?=some vs[t]:=Zad
  rw[K8 _ _ _ h1];have:(vs.toArray++replicate (a-vs.toArray.size) undef).getD t undef=vs[t]:=by rw[Array.getD_eq_getD_getElem?,Array.getElem?_append_left Zac];simp_all
  rw[this];exact h.2 t _ _ h1 z
 rw[NO _ _ Zaa]
 have:(vs.toArray++replicate (a-vs.toArray.size) undef).getD t undef=undef:=by rw[Array.getD_eq_getD_getElem?,Array.getElem?_append_right Zad,Array.getElem?_replicate];grind
 rw[this];exact bO.undef _ _
def TC(r:fe I μ n F a.tmps){t:Nat}{x:V}{v:V'}(B:t<n)(h:bO I μ x v):fe I μ n (set F t x) (a.tmps.setIfInBounds t v):=by have:=fe.put (dst:=some t) r h (F':=set F t x) (by simp[kX,B]);simpa[Act.put]using this
def Dn:∀(ps:ST)(xs:So)(vs:aZ V')(F:WP)(tmps:Array V'),fe I μ n F tmps->c6 I μ xs vs->ps.all (·<n)=true->
 fe I μ n (z_ ps xs F) ((ps.zip vs).foldl (λtmps(t,a)=>tmps.setIfInBounds t a) tmps)
 |[],_,_,F,tmps,r,_,_=>by simpa[z_]using r|t::ps,[],[],F,tmps,r,_,_=>by simpa[z_]using r|t::ps,[],v::vs,F,tmps,r,h,_=>by have:=h.1;grind|t::ps,x::xs,[],F,tmps,r,h,_=>by have:=h.1;grind|t::ps,x::xs,v::vs,F,tmps,r,h,u=>by simp only[List.all_cons,ζh,decide_eq_true_eq]at u;have c:=h.2 0 x v rfl rfl;have w:c6 I μ xs vs:=⟨by have:=h.1;grind,λj a b d z=>h.2 (j+1) a b Zac Zac⟩;exact Dn ps xs vs _ _ (TC (a:={tmps:=tmps,defers:=[]}) r u.1 c) w u.2
def LF{α β:Type}(g:α->Sem β):∀(l:aZ α)(w:World)(B:aZ β),B.length=l.length->(∀(j:Nat)x y,l[j]?=some x->B[j]?=some y->(g x).run P w=.ok y w)->(l.mapM g).run P w=.ok B w
 |[],w,[],_,_=>Zab|[],w,_::_,h,_=>Zad|_::_,w,[],h,_=>Zad|x::l,w,y::B,h,hg=>by have c:=hg 0 x y rfl rfl;have u:=LF g l w B Zac (λj a b d z=>hg (j+1) a b Zac Zac);simp_all
def Oe(tmps:Array V'):ResultVar->Sem V'
 |.tmp t=>pure (tmps.getD t undef)|.cell a t=>do loadVar t (<-asAddr (tmps.getD a undef))
def O6(fn:Func)(tmps:Array V'):results fn tmps=(fn.results.mapM (Oe tmps) >>= λvs=>pure (if h:vs.size=1 then vs[0]else .tuple vs)):=by congr 1
def Pt(W:fq P E){fn:Func}{tmps:Array V'}(r:fe I μ n F tmps)(s:dm I μ H w){vs:So}(h:js E F H fn.results.toList=some vs):
 ∃u,(results fn tmps).run P w=.ok u w/\bO I μ (result vs) u:=by
 have key:∀(l:aZ ResultVar)(vs:So),js E F H l=some vs->∃z:aZ V',z.length=l.length/\c6 I μ vs z/\
  ∀(j:Nat)x y,l[j]?=some x->z[j]?=some y->(Oe tmps x).run P w=.ok y w:=by
  intro l
  induction l with
  |nil=>intro vs h;simp[js]at h;subst h;exact⟨[],rfl,.nil,Zab⟩|cons x l U=>
   intro vs h
   cases x with
   |tmp t=>
    simp only[js,ζf]at h;obtain⟨D,h,rfl⟩:=h;have⟨z,a,C,Q⟩:=U D h;refine⟨tmps.getD t undef::z,Zad,.cons (r.2 t) C,?_⟩
    intro j x y J L
    cases j with
    |zero=>simp at J L;subst J;subst L;simp[Oe]|succ j=>grind
   |cell p t=>
    simp only[js]at h;split at h
    .rename_i d D hd S;simp only[ζf]at h;obtain⟨v,b,rfl⟩:=h;have⟨z,a,C,Q⟩:=U D S;have⟨u,_,c,X,T,G⟩:=FK W s hd (r.2 p) b;refine⟨u::z,Zad,.cons c C,?_⟩
     intro j x y J L
     cases j with
     |zero=>
      simp only[List.getElem?_cons_zero,ζa]at J L;subst J;subst L;have e:(do loadVar t (<-asAddr (tmps.getD p undef))).run P w=(loadVar t X).run P w:=by rw[run_bind,T];rfl
      exact e.trans G
     |succ j=>grind
    grind
 have⟨z,a,C,Q⟩:=key _ _ h;have Z:=LF _ fn.results.toList w z a Q;have Y:(fn.results.mapM (Oe tmps)).run P w=.ok z.toArray w:=by rw[Array.mapM_eq_mapM_toList];simp_all
 have O:z.length=vs.length:=C.1.symm;rw[O6,run_bind,Y]
 by_cases B:z.length=1
 .obtain⟨u,rfl⟩:=List.length_eq_one_iff.1 B;obtain⟨v,rfl⟩:=List.length_eq_one_iff.1 (O▸B);exact⟨u,Zab,by simpa[result]using C.2 0 v u rfl rfl⟩
 refine⟨.tuple z.toArray,Zad,?_⟩
 have f:result vs=.tup vs:=by match vs,O with|[],_=>rfl|[_],h=>exact absurd h B|_::_::_,_=>rfl
 rw[f];exact .tup _ _ (by simpa using C.1) (by simpa using C.2)
def Q0(J:fq P E){fn:Func}{tmps:Array V'}{vs:So}(h:js E F H' fn.results.toList=some vs)(U:w.heap.size<=B):∀(ds:aZ Deferred)(w':World),
 fe I' μ' n F tmps->dm I' μ' H' w'->Step I μ H w I' μ' H' w'->lI B ds w'->
 LeavesInM (fr none) 0 P fn tmps (Ao I μ H w (result vs) H') ds .returning w':=by
 intro ds
 induction ds with
 |nil=>intro w' r s st m;have⟨u,b,c⟩:=Pt J r s h;exact⟨u,b,u,I',μ',rfl,c,s,st⟩|cons d ds L=>
  intro w' r s st m;have⟨q,a,S,D⟩:=m.all d Zab
  refine⟨Zab,.inl ⟨q,_,a,run_takeDeferred D,?_⟩⟩
  have z:=wz s D;have O:=Xq s D Zab Zab
  have m':lI B ds w':=⟨λd hd=>m.all d (mem_cons_of_mem _ hd),(List.pairwise_cons.1 m.apart).2⟩
  refine L (gQ w' q (.deferred none)) r (s.C2 _ O z) (st.after _ Zaa) ⟨λG C=>?_,m'.apart⟩
  have⟨Q,g1,g2,g3⟩:=m'.all G C;refine⟨Q,g1,g2,?_⟩;rw[iq _ ?_];exact g3;rintro rfl;exact(List.pairwise_cons.1 m.apart).1 G C _ a g1
def Gy(o:Out):(mO o).isNone=(o==.norm):=by cases o<;>simp[mO]<;>rfl
def Ic(U:fq P E)(j:P.follows .mixedOrders=true)(b:Yy P E):∀n,mG P (run E n):=by
 intro n;induction n with|zero=>exact⟨λ_ _ _ _ _ h=>(by cases h),λ_ _ _ _ _ h=>(by cases h)⟩|succ n C=>
  constructor;intro f args H r H' h;rw[Jr]at h;simp[lg]at h;split at h;rename_i J V;have⟨fn,m,hb,ae,T,L⟩:=U.ft f J V;refine⟨⟨fn,m,Zad,L⟩,?_⟩;intro I μ w B s a;split at h;rename_i u;have t:∀o F' H2 rs,exec E (run E n) n false J.ntmps J.body args H=some (o,F',H2)->(∀id,o≠.exit id)->js E F' H2 J.results=some rs->CallsIn (fr none) 0 P f B.toArray w (Ao I μ H w (result rs) H2):=by intro o F' H2 rs hx al hr;refine callsIn_of_wp_marks m hb trivial ?_;rw[ae];have c:=OT s.gl a u;have:=AJ U j C n none false rfl J.ntmps J.body I μ args H {tmps:=B.toArray++replicate (J.ntmps-B.toArray.size) undef,defers:=[]} w o F' H2 hx c s ⟨Zab,.nil⟩ (le_refl _);refine wpIn_mono this ?_;rintro e a1 W ⟨rfl,⟨I1,y,r1,S,z⟩,m1⟩;have d:=Q0 U (by rw[T];omega) (le_refl _) a1.defers W r1 S z m1;cases o with|norm=>exact d|ret=>exact d|exit id=>grind
  split at h;simp_all;simp at h;grind;grind;grind;split at h;next A=>exact⟨(b.sort f A).ok,λI μ w B s a=>Xe C (b.sort f A) h s a⟩
  have⟨yy,F,h⟩:=ζf.1 h;cases h;exact⟨(b.known f args _ F).1,λI μ w B s a=>(b.known f args _ F).2 I μ H w B s a⟩;intro id args H r H' h I μ w B p s a hp;rw[Jr]at h;simp only[lg]at h;split at h
  .rename_i rec X;split at h
   .split at h
    .rename_i u;split at h
     .rename_i F2 H2 af;split at h
      .rename_i r2 Y;split at h
       .rename_i Z;split at h
        .rename_i o F4 H4 ah;split at h
         .rename_i r4 aa;obtain⟨rfl,rfl⟩:=h;have⟨q,l,g1,g2,g3,g4⟩:=C1 s X;rw[hp]at g1;cases g1;have ai:l.params.size=rec.params.length:=by have:=congrArg List.length g4.params;grind
          have aj:B.toArray.size=l.params.size:=by rw[ai,<-u.1];simpa using a.1.symm
          refine⟨p.b,l.fn,_,l.assign,l.body,run_yield g3 aj,?_⟩;refine roundIn_of_wpIn trivial ?_;have O:(l.params.zip B.toArray).foldl (λtmps x=>tmps.setIfInBounds x.1 x.2) l.tmps=(rec.params.zip B).foldl (λtmps x=>tmps.setIfInBounds x.1 x.2) l.tmps:=by rw[<-Array.foldl_toList,Array.toList_zip,g4.params]
          have c:=Dn rec.params args B rec.frame l.tmps g4.frame a u.2;rw[<-O]at c;have W:=AJ U j C n (some p.b) true rfl rec.nt rec.assign I μ _ H {tmps:=_,defers:=[]} w _ _ _ af c s ⟨Zab,.nil⟩ (le_refl _);rw[g4.assign,g4.body];refine wpIn_mono W ?_;rintro e a1 W ⟨rfl,⟨I1,y,r1,S,z⟩,m1⟩;have⟨q,g,k1,k2,k3,k4⟩:=C1 S Y;rw[z.mu _ _ hp]at k1;cases k1;have D:g.state=.ready:=by have:=k4.st;rw[Z]at this;cases d:g.state<;>rw[d]at this<;>simp[Dy.is]at this
          refine⟨_,run_beginRound k3 D,?_⟩;have G:=z.mu _ _ hp;have⟨K,st2⟩:=S.write (ob':=.loop {r2 with st:=.busy}) Y rfl G
           ⟨p,{g with state:=.busy},G,k2,jx _ (Array.getElem?_eq_some_iff.1 k3).1,⟨trivial,k4.pend,k4.pendOk,k4.frame,k4.params,k4.assign,k4.body⟩⟩
          have m2:=m1.step S st2;have w2:=AJ U j C n (some p.b) true rfl rec.nt rec.body I1 y F2 _ a1 (gQ W p.b (.loop {g with state:=.busy})) o F4 H4 ah r1 K m2 (by rw[zj];exact z.size);refine wpIn_mono w2 ?_;rintro e a3 w3 ⟨rfl,⟨I3,μ3,r3,k,Q⟩,m3⟩;have⟨q,l4,M,j2,N,i⟩:=C1 k aa;rw[Q.mu _ _ G]at M;cases M;have R:=Q.mu _ _ G;have fin:∃v w',(Instr.endRound p.b (mO o)).run P w3=.ok v w'/\Ao I μ H w (.bool (o==.norm)) (H4.set id (.loop {r4 with st:=(if o==.norm then .ready else .done),pend:=(if o==.norm then none else some o)})) (.returned v) w':=by
           refine⟨_,_,run_endRound (mO o) N,?_⟩;have⟨s4,ak⟩:=k.write (ob':=.loop {r4 with st:=(if o==.norm then .ready else .done),pend:=(if o==.norm then none else some o)}) aa rfl R
            ⟨p,{l4 with state:=if(mO o).isNone then .ready else .done,pending:=mO o},R,j2,jx _ (Array.getElem?_eq_some_iff.1 N).1,⟨by cases o<;>exact trivial,by cases o<;>rfl,by cases o<;>simp,i.frame,i.params,i.assign,i.body⟩⟩
           refine⟨_,I3,μ3,rfl,?_,s4,Step.trans S z (Step.trans K st2 (Step.trans k Q ak))⟩;rw[Gy];exact .c _ _ (.bool _)
          cases o with|norm=>exact fin|ret=>exact fin|exit id=>exact fin
         grind
        grind
       grind
      grind
     grind
    grind
   grind
  grind
end
end Go.VE
namespace Go.VE
variable[b_]
variable{P:Program}
def rq.Oo{t:W'}{d:TD}(h:ya P t=some d):rq P t d:=fq.ty (E:={tt:=ya P,ft:=λ_=>none,keep:=λ_=>false,own:=λ_=>false,eqN:=λ_=>none,sort:=λ_=>false}) ⟨λ_ _ h=>h,Zab,Zab⟩ h
def tX{i:W'}{cs:Array V'}{o:Nat}{v:V'}{w:World}(hi:ya P i=some ⟨1,8,[.int .i64 0],.int .i64⟩)(h:cs[o]?=some v):(part i cs o).run P w=.ok v w:=by unfold part;simp[run_bind,(rq.Oo hi).Pr,andThen,TD.agg,h]
def vk{a:R'}(h:a.length=2):∃x y,a=[x,y]:=by match a,h with|[x,y],_=>exact⟨x,y,rfl⟩
def B7(d:Nat)(e:X'){i:W'}(x:Int){w:World}(B:P.underlying i=some (.int .i64)):(checkKey e (d+1) i (.int .i64 x)).run P w=.ok () w:=by simp only[checkKey,run_bind,d_ B,andThen_ok,run_pure]
def LR(d:Nat)(e:X'){t i:W'}{f g:Field}(x y:Int){w:World}(hu:P.underlying t=some (.struct #[f,g]))(D:f.type=i)(hg:g.type=i)(of:f.offset=0)(G:g.offset=1)(nf:f.name≠ "_")(J:g.name≠ "_")
 (hi:ya P i=some ⟨1,8,[.int .i64 0],.int .i64⟩)(B:P.underlying i=some (.int .i64)):(checkKey e (d+1+1) t (.agg (ic [x,y]))).run P w=.ok () w:=by
 have u:∀w,(part i (ic [x,y]) 0).run P w=.ok (.int .i64 x) w:=λw=>tX hi rfl
 have p1:∀w,(part i (ic [x,y]) 1).run P w=.ok (.int .i64 y) w:=λw=>tX hi rfl
 have q:∀(x:Int)w,(checkKey e (d+1) i (.int .i64 x)).run P w=.ok () w:=λx w=>B7 d e x B
 unfold checkKey;simp only[run_bind,d_ hu,andThen_ok];rw[<-Array.forIn_toList];simp only[List.forIn_cons,List.forIn_nil,run_bind,D,hg,of,G,nf,J,ne_eq,not_false_eq_true,if_true,u,p1,q,andThen_ok,run_pure]
def yG.two{t i:W'}{f g:Field}(hu:P.underlying t=some (.struct #[f,g]))(U:f.type=i)(hg:g.type=i)(of:f.offset=0)(W:g.offset=1)(nf:f.name≠ "_")(Y:g.name≠ "_")
 (hi:ya P i=some ⟨1,8,[.int .i64 0],.int .i64⟩)(G:P.underlying i=some (.int .i64))(hs:P.stoodInHeld t=false)(hq:P.eqGuardType P.depth t=false):yG P t 2:=by
 have I:P.fieldsOf t=#[f,g]:=by unfold Program.fieldsOf;rw[hu]
 have B:∀(w:World)(x y z u:Int),(equal t (.agg (ic [x,y])) (.agg (ic [z,u]))).run P w=.ok ([x,y]==[z,u]) w:=by intro w x y z u;show(equalIn (9999+1) t _ _).run P w=_;rw[run_equalIn_struct w 9999 t _ _ (by rw[I];exact hu) hs,I];have Q:∀(x y:Int)w,(part i (ic [x,y]) 0).run P w=.ok (.int .i64 x) w:=λx y w=>tX hi rfl;have p1:∀(x y:Int)w,(part i (ic [x,y]) 1).run P w=.ok (.int .i64 y) w:=λx y w=>tX hi rfl;have q:∀(x y:Int)w,(equalIn 9999 i (.int .i64 x) (.int .i64 y)).run P w=.ok (x==y) w:=λx y w=>Dm 9998 x y G;simp only[Op.eqFields,U,hg,of,W,nf,Y,ne_eq,not_false_eq_true,if_true,run_bind,Q,q,andThen_ok];by_cases C:x=z;by_cases J:y=u;subst C;subst J;simp[run_bind,p1,q,andThen];subst C;have:(y==u)=false:=(by simpa using J);simp[run_bind,p1,q,andThen,this];have:(x==z)=false:=(by simpa using C);simp[this]
 have L:∀(op:BinOp)(p q:UV)(w:World)(u v:Array V'),(eqGuard op t p q (.agg u) (.agg v)).run P w=.ok () w:=by intro op p q w u v;unfold eqGuard;cases op<;>simp[run_bind,run_program,andThen,hq]
 refine⟨?_,?_,?_,?_,⟨_,hu,.inr ⟨_,rfl⟩⟩⟩
 .intro w p q a b D O;obtain⟨x,y,rfl⟩:=vk D;obtain⟨z,u,rfl⟩:=vk O;rw[run_bind,L,andThen_ok];show(do pure (Value.bool (<-equal t (.agg (ic [x,y])) (.agg (ic [z,u])))):Sem V').run P w=_
  rw[run_bind,B];rfl
 .intro w p q a b D O;obtain⟨x,y,rfl⟩:=vk D;obtain⟨z,u,rfl⟩:=vk O;rw[run_bind,L,andThen_ok];show(do pure (Value.bool (!(<-equal t (.agg (ic [x,y])) (.agg (ic [z,u]))))):Sem V').run P w=_
  rw[run_bind,B];rfl
 .intro w a b D O;obtain⟨x,y,rfl⟩:=vk D;obtain⟨z,u,rfl⟩:=vk O;exact B w x y z u
 intro w e a D;obtain⟨x,y,rfl⟩:=vk D;exact LR 9998 e x y hu U hg of W nf Y hi G
def lk{α:Type}:aZ (Nat×α)->Nat->a_ α
 |[],_=>none|(k,v)::r,n=>bif beq k n then some v else lk r n
def Ql{α:Type}:∀{l:aZ (Nat×α)}{n:Nat}{v:α},lk l n=some v->(n,v)∈l
 |[],_,_,h=>by simp[lk]at h|(k,x)::r,n,v,h=>by simp only[lk]at h;cases a:beq k n with|true=>rw[a]at h;simp only[cond_true,ζa]at h;have:=Nat.eq_of_beq_eq_true a;subst this;subst h;simp|false=>rw[a]at h;exact mem_cons_of_mem _ (Ql h)
end Go.VE
namespace Go.VE
variable[b_]
inductive KT where|bool|str|slice|ptr|map|int|other
 deriving DecidableEq
def TK.tag:TK->KT
 |.bool=>.bool|.int _=>.int|.str=>.str|.ptr _=>.ptr|.slice _=>.slice|.map ..=>.map|_=>.other
def qJ(k:KT)(x y:V):a_ X':=
 match k,x,y with
 |.slice,.bM,.bM=>some true|.slice,.fsl ..,.bM=>some false|.slice,.hsl ..,.bM=>some false|.ptr,.ja,.ja=>some true|.ptr,.fptr _,.ja=>some false|.ptr,.hptr ..,.ja=>some false|.map,.hG,.hG=>some true|.map,.fmap _,.hG=>some false|.map,.hmap _,.hG=>some false|_,_,_=>none
def iG(k:a_ KT)(e:a_ Nat)(op:BinOp)(x y:V):a_ V:=
 match x,y with
 |.int k a,.int u b=>
  match op with
  |.shl=>if b<0 then none else some (.int k (k.wrap (a*2 ^ (min b.toNat k.bits))))|.shr=>if b<0 then none else some (.int k (a.fdiv (2 ^ (min b.toNat k.bits))))|_=>if k=u then
   match op with
   |.add=>some (.int k (k.wrap (a+b)))|.sub=>some (.int k (k.wrap (a-b)))|.mul=>some (.int k (k.wrap (a*b)))|.quo=>if b=0 then none else some (.int k (k.wrap (a.tdiv b)))|.rem=>if b=0 then none else some (.int k (a.tmod b))|.and=>some (.int k (k.wrap (ofInt k.bits a &&& ofInt k.bits b).toNat))|.or=>some (.int k (k.wrap (ofInt k.bits a ||| ofInt k.bits b).toNat))|.xor=>some (.int k (k.wrap (ofInt k.bits a ^^^ ofInt k.bits b).toNat))|.andNot=>some (.int k (k.wrap (ofInt k.bits a &&& ~~~ ofInt k.bits b).toNat))|op=>(pU op a b).map .bool
   else none
 |.str a,.str b=>
  match op with
  |.add=>if((a.size+b.size:Nat):Int)>IntKind.i64.max then none else some (.str (a++b))|.eql=>some (.bool (a.toList==b.toList))|.neq=>some (.bool !(a.toList==b.toList))|.lss=>some (.bool (bytesLess a.toList b.toList))|.leq=>some (.bool (bytesLess a.toList b.toList||a.toList==b.toList))|.gtr=>some (.bool !(bytesLess a.toList b.toList||a.toList==b.toList))|.geq=>some (.bool !(bytesLess a.toList b.toList))|_=>none
 |.bool a,.bool b=>
  match k,op with
  |some .bool,.eql=>some (.bool (a==b))|some .bool,.neq=>some (.bool !(a==b))|_,_=>none
 |.agg a,.agg b=>
  match e,op with
  |some n,.eql=>if a.length=n then(mA a b).map .bool else none|some n,.neq=>if a.length=n then(mA a b).map (λt=>.bool !t)else none|_,_=>none
 |x,y=>
  match k,op with
  |some k,.eql=>(qJ k x y).map .bool|some k,.neq=>(qJ k x y).map λt=>.bool !t|_,_=>none
def Od(k:TK)(x y:V):wC k x y=qJ k.tag x y:=by cases k<;>cases y<;>(try rfl)<;>cases x<;>rfl
def V2(E:Env)(op:BinOp)(t:W')(x y:V):KW E op t x y=iG ((E.kindOf t).map TK.tag) (E.eqN t) op x y:=by
 unfold KW;split;rfl;rfl;cases b:E.kindOf t with|none=>rfl|some k=>cases k<;>cases op<;>rfl
 rfl;rename_i a u w z
 cases b:E.kindOf t with
 |none=>rw[iG.eq_29 _ _ _ _ _ a u w z Zab Zab]|some k=>
  simp only[Od];cases op<;>first
   |exact(iG.eq_27 _ _ _ _ a u w z).symm|exact(iG.eq_28 _ _ _ _ a u w z).symm|(rw[iG.eq_29 _ _ _ _ _ a u w z Zab Zab])
inductive wE where
 |id|pick|nilc
 |bin(k:Option KT)(e:Option Nat)(op:BinOp)
 |not|neg
 |conv(k:IntKind)
 |fieldAddr(off:Nat)
 |field(off size:Nat)(agg:Bool)
 |idxS(size:Nat)
 |idxA(len size:Nat)
 |idxStr
 |idxArr(len size:Nat)(agg:Bool)
 |sliceStr(lo hi:Bool)
 |slice(size:Nat)(lo hi:Bool)
 |slice00
 |build(zero:List V)(pl:List (Nat×Nat))
 |clo(name:Nat)(k:Nat)
 |ext(i:Nat)
 |lenStr|lenSl|capSl|max|min|bad|max4
 |makeC(size:Nat)(zero:List V)
 |buildC(size len:Nat)(zero:List V)(idx:List Nat)
 |emptyC
def Of:V->a_ V
 |.hptr id el off=>some (.hptr id el off)|.fptr cs=>some (.fptr cs)|.clo f a b=>some (.clo f a b)|_=>none
def iZ(off:Nat):V->a_ V
 |.fptr cs=>if off<=cs.length then some (.fptr (cs.drop off))else none|.hptr id el o=>some (.hptr id el (o+off))|_=>none
def nq(size:Nat)(s:V)(n:Int):a_ V:=
 if n<0 then none else match s with
 |.fsl es u=>if es=size then(u[n.toNat]?).map .fptr else none|.hsl id es off len=>if es=size/\n.toNat<len then some (.hptr id (off+n.toNat) 0)else none|_=>none
def zg(len size:Nat)(p:V)(n:Int):a_ V:=
 if 0<=n/\n<len then match p with
  |.fptr cs=>if n.toNat*size<=cs.length then some (.fptr (cs.drop (n.toNat*size)))else none|.hptr id el o=>some (.hptr id el (o+n.toNat*size))|_=>none
 else none
def ny:X'->X'->So->a_ (Pi×Pi)
 |false,false,[]=>some (none,none)|true,false,[.int _ l]=>some (some l,none)|false,true,[.int _ h]=>some (none,some h)|true,true,[.int _ l,.int _ h]=>some (some l,some h)|_,_,_=>none
def iX(size:Nat)(v:V)(l h:Pi):a_ V:=
 match v with
 |.fsl es u=>if es=size then(eD u.length l h).map λ(l,h)=>.fsl es ((u.take h).drop l)else none|.hsl id es off len=>if es=size then(eD len l h).map λ(l,h)=>.hsl id es (off+l) (h-l)else none|.dX=>(eD 0 l h).map λ_=>.dX|.bM=>(eD 0 l h).map λ_=>.bM|_=>none
def O2:V->X'
 |.fsl ..|.hsl ..|.dX|.bM=>true|_=>false
def mq(cells:So):aZ (Nat×Nat)->So->a_ So
 |[],[]=>some cells|(off,size)::pl,v::vs=>
  if v.cells.length≠size||off+v.cells.length>cells.length then none
  else mq (cells.take off++v.cells++cells.drop (off+v.cells.length)) pl vs
 |_,_=>none
def pO:V->a_ V
 |.fsl _ xs=>some (.int .i64 xs.length)|.hsl _ _ _ len=>some (.int .i64 len)|.dX=>some (.int .i64 0)|.bM=>some (.int .i64 0)|_=>none
def Kl:V->a_ V
 |.bM|.dX=>some (.int .i64 0)|_=>none
def bq(N:Nat->Y'):wE->So->a_ V
 |.id,[x]=>some x
 |.pick,[.bool t,a,b]=>some (if t then a else b)
 |.nilc,[x]=>Of x
 |.bin k e op,[x,y]=>iG k e op x y
 |.not,[.bool b]=>some (.bool !b)
 |.neg,[.int k n]=>some (.int k (k.wrap (0-n)))
 |.conv k,[.int _ n]=>some (.int k (k.wrap n))
 |.fieldAddr off,[p]=>iZ off p
 |.field off size agg,[.agg cs]=>(cut cs off size).bind (mk agg)
 |.idxS size,[s,.int _ n]=>nq size s n
 |.idxA len size,[p,.int _ n]=>zg len size p n
 |.idxStr,[.str s,.int _ n]=>if 0<=n then(s[n.toNat]?).map (λb=>.int .u8 b.toNat)else none
 |.idxArr len size agg,[.agg cs,.int _ n]=>if 0<=n/\n<len then(cut cs (n.toNat*size) size).bind (mk agg)else none
 |.sliceStr lo hi,.str s::D=>(ny lo hi D).bind λ(l,h)=>(eD s.size l h).map λ(l,h)=>.str (s.extract l h)
 |.slice size lo hi,v::D=>(ny lo hi D).bind λ(l,h)=>iX size v l h
 |.slice00,[v,.int _ h,.int _ m]=>if O2 v&&h==0&&m==0 then some .dX else none
 |.build zero pl,vs=>(mq zero pl vs).map .agg
 |.clo name k,vs=>some (.clo (N name) (vs.take k) (vs.drop k))
 |.ext i,[.tup vs]=>vs[i]?
 |.lenStr,[.str s]=>some (.int .i64 s.size)
 |.lenSl,[v]=>pO v
 |.capSl,[v]=>Kl v
 |.max,[.int k a,.int B b]=>if k=B then some (.int k (if b>a then b else a))else none
 |.max4,[.int k a,.int k1 b,.int k2 c,.int k3 d]=>if k=k1/\k=k2/\k=k3 then some (.int k (D2 (D2 (D2 a b) c) d))else none
 |.min,[.int k a,.int B b]=>if k=B then some (.int k (if b<a then b else a))else none
 |.makeC size zero,[.int k n,.int B m]=>if k=.i64/\B=.i64/\0<=n/\n=m/\m<=2147483648/\zero.all V.scalar=true then some (.fsl size (List.replicate n.toNat zero))else none
 |.buildC size len zero idx,vs=>if V.c9 vs=true/\idx.length=vs.length then match fW size (List.replicate len zero) (idx.zip vs)with
  |some xs=>if xs.isEmpty=false/\(xs.all λx=>x.all V.scalar)=true then some (.fsl size xs)else none
  |none=>none
  else none
 |.emptyC,[]=>some .dX
 |_,_=>none
inductive zB where|int (k:IntKind)|str|ints (n:Nat)
def E4(E:Env)(t:W'):a_ zB:=
 match E.kindOf t with
 |some (.int k)=>some (.int k)|some .str=>some .str|some _=>(E.eqN t).map .ints|none=>none
def rM:zB->V->X'
 |.int k,.int B _=>k==B|.str,.str _=>true|.ints n,.agg cs=>cs.length==n&&(jr cs).isSome|_,_=>false
inductive Ni where
 |load(size:Nat)(agg:Bool)|loadF(size:Nat)(agg:Bool)|lookup(kk:zB)(zero:V)(ok:Bool)
def fE(H:bp):Ni->So->a_ V
 |.load size agg,[p]=>(eU H p size).bind (mk agg)|.lookup kk z ok,[m,k]=>match og H m with
  |some B=>if rM kk k then match jd k B 0 with
   |some (some (_,v))=>some (if ok then .tup [v,.bool true]else v)|some none=>some (if ok then .tup [z,.bool false]else z)|none=>none
   else none
  |none=>none
 |_,_=>none
inductive Qk where
 |alloc(size:Nat)(zero:List V)|box|makeSl(size:Nat)(zero:List V)|buildSl(size len:Nat)(zero:List V)(idx:List Nat)|makeMap
def jg:Qk->So->a_ (Ob×Mk)
 |.alloc size zero,[]=>some (.row size [zero],.ptr)|.box,[v]=>if v.cells.all V.one then some (.row v.cells.length [v.cells],.ptr)else none|.makeSl size zero,[.int k n,.int B m]=>if k=.i64/\B=.i64/\0<=n/\n<=m/\m<=2147483648 then some (.row size (List.replicate m.toNat zero),.sl size n.toNat)else none|.buildSl size len zero idx,vs=>if idx.length=vs.length then(fW size (List.replicate len zero) (idx.zip vs)).map λxs=>(.row size xs,.sl size len)else none|.makeMap,[]=>some (.map [],.map)|_,_=>none
inductive NL where
 |store(size:Nat)|storeF(size:Nat)|mapUp(kk:zB)|append(size:Nat)|appMk(size bytes:Nat)(zero:List V)|clear(size:Nat)(zero:List V)
def fT(H:bp):NL->So->a_ (V×bp)
 |.store size,[.hptr id el off,v]=>match H[id]?with
  |some (.row es xs)=>match xs[el]?with
   |some cs=>if v.cells.length=size/\off+size<=cs.length/\v.cells.all V.one=true then
    some (.undef,H.set id (.row es (xs.set el (cs.take off++v.cells++cs.drop (off+v.cells.length)))))else none
   |none=>none
  |_=>none
 |.mapUp kk,[.hmap id,k,v]=>match H[id]?with
  |some (.map B)=>if rM kk k then(rI k v B).map λB=>(.undef,H.set id (.map B))else none|_=>none
 |.append size,[s,x]=>match dY H size s,dY H size x with
  |some _,some []=>some (s,H)|some xs,some ys=>if xs.length+ys.length<=2147483648 then(iK H s).map λH1=>(.hsl H.length size 0 (xs.length+ys.length),H1++[.row size (xs++ys)])else none|_,_=>none
 |.appMk size bytes zero,[s,x]=>mkApp H size bytes zero s x|.clear size zero,[v]=>EL H size zero v|.storeF size,.hptr id el off::v::l=>if l.all (sV id)=true then match H[id]?with
  |some (.row es xs)=>match xs[el]?with
   |some cs=>if v.cells.length=size/\off+size<=cs.length/\v.cells.all V.one=true then
    some (.undef,H.set id (.row es (xs.set el (cs.take off++v.cells++cs.drop (off+v.cells.length)))))else none
   |none=>none
  |_=>none
  else none
 |_,_=>none
inductive K where
 |p(p:wE)|r(r:Ni)|a(a:Qk)|l(l:NL)|c|e(size:Nat)|b
def aad(E:Env)(t:W'):a_ KT:=(E.kindOf t).map TK.tag
def resolve(E:Env)(nm:Y'->a_ Nat):Op->a_ (K×aZ UV)
 |.move x|.assign x=>some (.p .id,[x])
 |.pick c a b=>some (.p .pick,[c,a,b])
 |.nilCheck x=>some (.p .nilc,[x])
 |.binOp op t x y _=>some (.p (.bin (aad E t) (E.eqN t) op),[x,y])
 |.unOp .not _ x=>some (.p .not,[x])
 |.unOp .neg _ x=>some (.p .neg,[x])
 |.convert s d x=>match E.tt s,E.tt d with
  |some _,some G=>match G.kind with
   |.int k=>some (.p (.conv k),[x])
   |.str=>match E.kindOf s with
    |some (.slice e)=>match E.kindOf e with
     |some (.int .u8)=>some (.b,[x])
     |_=>none
    |_=>none
   |_=>none
  |_,_=>none
 |.fieldAddr s x f=>match E.kindOf s with
  |some (.struct fs)=>match fs[f]?with
   |some (off,t)=>match E.tt t with
    |some d=>if d.size=0 then none else some (.p (.fieldAddr off),[x])
    |none=>none
   |none=>none
  |_=>none
 |.field s x f=>match E.kindOf s with
  |some (.struct fs)=>match fs[f]?with
   |some (off,t)=>match E.tt t with
    |some d=>some (.p (.field off d.size d.agg),[x])
    |none=>none
   |none=>none
  |_=>none
 |.indexAddr t x i=>match E.kindOf t with
  |some (.slice e)=>(E.tt e).map λd=>(.p (.idxS d.size),[x,i])
  |some (.array len e)=>(E.tt e).map λd=>(.p (.idxA len d.size),[x,i])
  |_=>none
 |.index t x i=>match E.kindOf t with
  |some .str=>some (.p .idxStr,[x,i])
  |some (.array len e)=>(E.tt e).map λd=>(.p (.idxArr len d.size d.agg),[x,i])
  |_=>none
 |.slice t x lo hi J=>match E.kindOf t,J with
  |some .str,none=>some (.p (.sliceStr lo.isSome hi.isSome),x::(lo.toList++hi.toList))
  |some (.slice e),none=>(E.tt e).map λd=>(.p (.slice d.size lo.isSome hi.isSome),x::(lo.toList++hi.toList))
  |some (.slice e),some m=>match E.tt e,lo,hi with
   |some _,none,some h=>some (.p .slice00,[x,h,m])
   |_,_,_=>none
  |_,_=>none
 |.build t ps=>match E.tt t with
  |some d=>match d.kind with
   |.struct fs=>match oW E fs with
    |some pl=>(ps.toList.mapM λ(q:Nat×UV)=>pl[q.1]?).map λq=>(K.p (.build d.zero q),ps.toList.map λ(q:Nat×UV)=>q.2)
    |none=>none
   |.array _ e=>(E.tt e).map λD=>(K.p (.build d.zero (ps.toList.map λ(q:Nat×UV)=>(q.1*D.size,D.size))),ps.toList.map λ(q:Nat×UV)=>q.2)
   |_=>none
  |none=>none
 |.makeFunc (.func f) a b=>(nm f).map λs=>(.p (.clo s a.toList.length),a.toList++b.toList)
 |.extract x i=>some (.p (.ext i),[x])
 |.load t a=>(E.tt t).map λd=>(.r (.load d.size d.agg),[a])
 |.lookup t m k ok=>match E.kindOf t with
  |some (.map B U)=>match E.tt U,E4 E B with
   |some d,some kk=>(mk d.agg d.zero).map λz=>(.r (.lookup kk z ok),[m,k])
   |_,_=>none
  |_=>none
 |.alloc t=>(E.tt t).map λd=>(.a (.alloc d.size d.zero),[])
 |.box _ x=>some (.a .box,[x])
 |.makeSlice t l c=>match E.kindOf t with
  |some (.slice e)=>match E.tt e with
   |some d=>if d.bytes<=4096 then some (.a (.makeSl d.size d.zero),[l,c])else none
   |none=>none
  |_=>none
 |.buildSlice t len ps=>match E.kindOf t with
  |some (.slice e)=>match E.tt e with
   |some d=>if len*d.size<=16777216 then some (.a (.buildSl d.size len d.zero (ps.toList.map (·.1))),ps.toList.map (·.2))else none
   |none=>none
  |_=>none
 |.makeMap _ none=>some (.a .makeMap,[])
 |.store t a x=>(E.tt t).map λd=>(.l (.store d.size),[a,x])
 |.mapUpdate t m k x|.insert t m k x=>match E.kindOf t with
  |some (.map B _)=>(E4 E B).map λkk=>(.l (.mapUp kk),[m,k,x])
  |_=>none
 |.call {callee:=.builtin .append,args,argTypes}=>match argTypes.toList,args.toList with
  |[t,W],[s,x]=>match E.kindOf t,E.kindOf W with
   |some (.slice e),some (.slice _)=>match E.tt e with
    |some d=>if d.bytes<=4096/\0<d.bytes then some (.l (.append d.size),[s,x])else none
    |none=>none
   |some (.slice e),some (.int _)=>(E.tt e).map λd=>(.l (.appMk d.size d.bytes d.zero),[s,x])
   |_,_=>none
  |_,_=>none
 |.call {callee:=.builtin .len,args,argTypes}=>match argTypes[0]?,args.toList with
  |some t,[x]=>match E.kindOf t with
   |some .str=>some (.p .lenStr,[x])
   |some (.slice _)=>some (.p .lenSl,[x])
   |_=>none
  |_,_=>none
 |.call {callee:=.builtin .cap,args,argTypes}=>match argTypes[0]?,args.toList with
  |some t,[x]=>match E.kindOf t with
   |some (.slice _)=>some (.p .capSl,[x])
   |_=>none
  |_,_=>none
 |.call {callee:=.builtin .clear,args,argTypes}=>match argTypes[0]?,args.toList with
  |some t,[x]=>match E.kindOf t with
   |some (.slice e)=>(E.tt e).map λd=>(.l (.clear d.size d.zero),[x])
   |_=>none
  |_,_=>none
 |.panic _=>some (.p .bad,[])
 |.makeInterface ..=>some (.p .bad,[])
 |.call {callee:=.builtin .max,args,..}=>match args.toList with
  |[x,y]=>some (.p .max,[x,y])
  |[x,y,z,t]=>some (.p .max4,[x,y,z,t])
  |_=>none
 |.call {callee:=.builtin .min,args,..}=>match args.toList with
  |[x,y]=>some (.p .min,[x,y])
  |_=>none
 |.call {callee:=.value f,args,..}=>some (.c,f::args.toList)
 |_=>none
section
variable{E:Env}{nm:Y'->a_ Nat}{N:Nat->Y'}{F:WP}
def qu{x:UV}{vs:So}(h:gj F [x]=some vs):∃a,ev F x=some a/\vs=[a]:=by simp[gj]at h;grind
def jJ{x:UV}{l:aZ UV}{vs:So}(h:gj F (x::l)=some vs):∃a az,ev F x=some a/\gj F l=some az/\vs=a::az:=by simp[gj]at h;grind
def r_{vs:So}(h:gj F []=some vs):vs=[]:=by simp[gj]at h;grind
def uF{x y:UV}{vs:So}(h:gj F [x,y]=some vs):∃a b,ev F x=some a/\ev F y=some b/\vs=[a,b]:=by obtain⟨a,az,w,u,rfl⟩:=jJ h;obtain⟨b,z,rfl⟩:=qu u;grind
def Lr{x y z:UV}{vs:So}(h:gj F [x,y,z]=some vs):∃a b c,ev F x=some a/\ev F y=some b/\ev F z=some c/\vs=[a,b,c]:=by obtain⟨a,az,w,u,rfl⟩:=jJ h;obtain⟨b,c,B,d,rfl⟩:=uF u;grind
def Oz{l m:aZ UV}{vs:So}(h:gj F (l++m)=some vs):∃az B,gj F l=some az/\gj F m=some B/\vs=az++B:=by induction l generalizing vs with|nil=>exact⟨[],vs,rfl,h,rfl⟩|cons x l u=>obtain⟨a,az,w,z,rfl⟩:=jJ h;obtain⟨b,c,C,d,rfl⟩:=u z;refine⟨a::b,c,?_,d,rfl⟩;simp[gj,w,C]
def O1{l:aZ UV}{vs:So}(h:gj F l=some vs):vs.length=l.length:=by induction l generalizing vs with|nil=>rw[r_ h];rfl|cons x l u=>obtain⟨a,az,_,w,rfl⟩:=jJ h;grind
def Dd(E:Env)(N:Nat->Y')(F:WP)(op:Op)(vs:So):K->Prop
 |.p p=>dF op=.pure/\∀v,bq N p vs=some v->bU E F op=some v|.r r=>dF op=.read/\∀H v,fE H r vs=some v->eG E F H op=some v|.a a=>dF op=.alloc/\∀x,jg a vs=some x->fH E F op=some x|.l l=>dF op=.loud/\∀H x,fT H l vs=some x->dB E F H op=some x|.e _=>False|.b=>dF op=.pure/\∃x,vs=[x]/\∀H ys l,dY H 1 x=some ys->mX ys=some l->bU E F op=none/\evalConv E F H op=some (.str (mc l))|.c=>dF op=.call/\∃f az,vs=f::az/\kW F op=(match f with|.clo g a b=>some (.fn g,a++az++b)|.yld id=>some (.yld id,az)|_=>none)
def Kj(place:Nat->a_ (Nat×Nat)):∀(ps:aZ (Nat×UV))(q:aZ (Nat×Nat))(vs:So)(cells cs:So),(ps.mapM λ(x:Nat×UV)=>place x.1)=some q->
 gj F (ps.map λ(x:Nat×UV)=>x.2)=some vs->mq cells q vs=some cs->∃B,nZ F ps=some B/\vX place cells B=some cs:=by
 intro ps
 induction ps with
 |nil=>
  intro q vs cells cs u b h;simp at u;subst u;have:=r_ (by simpa using b);subst this
  simp[mq]at h;subst h;exact⟨[],rfl,rfl⟩
 |cons p ps D=>
  intro q vs cells cs u b h;have⟨i,x⟩:=p;simp only[List.mapM_cons,Option.pure_def,Option.bind_eq_bind,ζg,ζa]at u;obtain⟨pl,w,G,z,rfl⟩:=u;obtain⟨a,az,I,C,rfl⟩:=jJ (by simpa using b)
  simp only[mq]at h;split at h
  .simp_all
  have⟨B,c,J⟩:=D G az _ cs z C h;refine⟨(i,a)::B,by simp[nZ,I,c],?_⟩
  simp[vX,w]
  grind
def Rt:∀(ps:aZ (Nat×UV))(vs:So),gj F (ps.map λ(x:Nat×UV)=>x.2)=some vs->nZ F ps=some ((ps.map λ(x:Nat×UV)=>x.1).zip vs):=by intro ps;induction ps with|nil=>simp[nZ]|cons p ps w=>intro vs b;obtain⟨a,az,z,u,rfl⟩:=jJ (by simpa using b);simp[nZ,z,w az u]
def JX{lo hi:a_ UV}{vs:So}{l h:Pi}(c:gj F (lo.toList++hi.toList)=some vs)(B:ny lo.isSome hi.isSome vs=some (l,h)):lz F lo=some l/\lz F hi=some h:=by
 cases lo with
 |none=>cases hi with|none=>have:=r_ (by simpa using c);subst this;obtain⟨rfl,rfl⟩:=B;exact⟨rfl,rfl⟩|some y=>obtain⟨b,u,rfl⟩:=qu (by simpa using c);cases b<;>simp[ny]at B;obtain⟨rfl,rfl⟩:=B;simp[lz,u]
 |some x=>cases hi with|none=>obtain⟨b,u,rfl⟩:=qu (by simpa using c);cases b<;>simp[ny]at B;obtain⟨rfl,rfl⟩:=B;simp[lz,u]|some y=>obtain⟨a,b,w,u,rfl⟩:=uF (by simpa using c);cases a<;>cases b<;>simp[ny]at B;obtain⟨rfl,rfl⟩:=B;simp[lz,w,u]
def B2{t:W'}{kk:zB}{k:V}(h:E4 E t=some kk)(a:rM kk k=true):Dc E t k=true:=by unfold E4 at h;unfold Dc;cases u:E.kindOf t with|none=>grind|some tk=>rw[u]at h;have b:(E.eqN t).map zB.ints=some kk->∃n cs,E.eqN t=some n/\k=.agg cs/\(cs.length==n&&(jr cs).isSome)=true:=(by intro h;simp at h;obtain⟨n,w,rfl⟩:=h;cases k<;>simp[rM]at a<;>first|grind|grind);cases tk with|int z=>simp at h;subst h;cases k<;>simp[rM]at a;grind|str=>simp at h;subst h;cases k<;>simp[rM]at a;rfl|_=>obtain⟨n,cs,c,rfl,B⟩:=b h;simp_all
def ku(hN:∀f s,nm f=some s->N s=f){op:Op}{k:K}{os:aZ UV}{vs:So}(h:resolve E nm op=some (k,os))(g:gj F os=some vs):Dd E N F op vs k:=by
 cases op with
 |move x=>obtain⟨rfl,rfl⟩:=h;obtain⟨a,B,rfl⟩:=qu g;exact⟨rfl,λv w=>by simpa[bq,bU,B]using w⟩|assign x=>obtain⟨rfl,rfl⟩:=h;obtain⟨a,B,rfl⟩:=qu g;exact⟨rfl,λv w=>by simpa[bq,bU,B]using w⟩|pick c a b=>simp[resolve]at h;obtain⟨rfl,rfl⟩:=h;obtain⟨x,y,z,hx,hy,U,rfl⟩:=Lr g;refine⟨rfl,λv w=>?_⟩;cases x<;>simp[bq]at w;rename_i t;subst w;cases t<;>simp[bU,hx,hy,U]|nilCheck x=>simp[resolve]at h;obtain⟨rfl,rfl⟩:=h;obtain⟨a,B,rfl⟩:=qu g;refine⟨rfl,λv w=>?_⟩;cases a<;>simp[bq,Of]at w<;>subst w<;>simp[bU,B]|binOp ai t x y yt=>simp only[resolve,ζa,ζc]at h;obtain⟨rfl,rfl⟩:=h;obtain⟨a,b,B,G,rfl⟩:=uF g;exact⟨rfl,λv w=>by simp only[bU,B,G,V2];exact w⟩|unOp u t x=>cases u with|not=>simp only[resolve,ζa,ζc]at h;obtain⟨rfl,rfl⟩:=h;obtain⟨a,B,rfl⟩:=qu g;refine⟨rfl,λv w=>?_⟩;cases a<;>simp[bq]at w;subst w;simp[bU,B]|neg=>simp only[resolve,ζa,ζc]at h;obtain⟨rfl,rfl⟩:=h;obtain⟨a,B,rfl⟩:=qu g;refine⟨rfl,λv w=>?_⟩;cases a<;>simp[bq]at w;subst w;simp[bU,B]|_=>simp[resolve]at h
 |convert s d x=>
  simp only[resolve]at h;split at h
  .rename_i sd td M hd;split at h;rename_i k j;simp only[ζa,ζc]at h;obtain⟨rfl,rfl⟩:=h;obtain⟨a,B,rfl⟩:=qu g;refine⟨rfl,λv w=>?_⟩;cases a<;>simp[bq]at w;subst w;simp[bU,B,M,hd,j]
   .rename_i j;split at h
    .rename_i e he;split at h
     .rename_i hu;simp only[ζa,ζc]at h;obtain⟨rfl,rfl⟩:=h;obtain⟨a,B,rfl⟩:=qu g;refine⟨rfl,a,rfl,λH ys l n J=>?_⟩;have ab:E.kindOf d=some .str:=(by unfold Env.kindOf;rw[hd,map_some,j]);refine⟨?_,by simp only[evalConv,he,ab,B,hu,n,J,ζb,map_some]⟩;simp only[bU,M,hd,B];cases a<;>first|rfl|(simp only[dY]at n;cases n)
     simp at h
    simp at h
   simp at h
  simp at h
 |fieldAddr s x f=>simp only[resolve]at h;split at h;rename_i fs j;split at h;rename_i off t W;split at h;rename_i d hd;split at h;simp at h;rename_i U;simp only[ζa,ζc]at h;obtain⟨rfl,rfl⟩:=h;obtain⟨a,B,rfl⟩:=qu g;refine⟨rfl,λv w=>?_⟩;simp only[bU,B,j,W,hd,if_neg U];simp only[bq,iZ]at w;cases a<;>simp at w⊢ <;>exact w;simp at h;simp at h;simp at h|field s x f=>
  simp only[resolve]at h;split at h
  .rename_i fs j;split at h
   .rename_i off t W;split at h
    .rename_i d hd;simp only[ζa,ζc]at h;obtain⟨rfl,rfl⟩:=h;obtain⟨a,B,rfl⟩:=qu g;refine⟨rfl,λv w=>?_⟩;cases a<;>simp only[bq]at w<;>first|(simp only[bU,B,j,W,hd];exact w)|simp at w
    simp at h
   simp at h
  simp at h
 |indexAddr t x i=>
  simp only[resolve]at h;split at h
  .rename_i e j;simp only[ζf,ζc]at h;obtain⟨d,hd,rfl,rfl⟩:=h;obtain⟨a,b,B,G,rfl⟩:=uF g;refine⟨rfl,λv w=>?_⟩;(cases b<;>simp only[bq]at w<;>first|simp at w;done|skip);simp only[bU,B,G,j,hd];unfold nq at w;exact w
  .rename_i len e j;simp only[ζf,ζc]at h;obtain⟨d,hd,rfl,rfl⟩:=h;obtain⟨a,b,B,G,rfl⟩:=uF g;refine⟨rfl,λv w=>?_⟩;(cases b<;>simp only[bq]at w<;>first|simp at w;done|skip);simp only[bU,B,G,j,hd];unfold zg at w;exact w
  simp at h
 |index t x i=>
  simp only[resolve]at h;split at h
  .rename_i j;simp only[ζa,ζc]at h;obtain⟨rfl,rfl⟩:=h;obtain⟨a,b,B,G,rfl⟩:=uF g;refine⟨rfl,λv w=>?_⟩;(cases a<;>cases b<;>simp only[bq]at w<;>first|simp at w;done|skip);simp only[bU,B,G,j];exact w
  .rename_i len e j;simp only[ζf,ζc]at h;obtain⟨d,hd,rfl,rfl⟩:=h;obtain⟨a,b,B,G,rfl⟩:=uF g;refine⟨rfl,λv w=>?_⟩;(cases a<;>cases b<;>simp only[bq]at w<;>first|simp at w;done|skip);simp only[bU,B,G,j,hd];exact w
  simp at h
 |slice t x lo hi mx=>
  simp only[resolve]at h;split at h
  .rename_i j;simp only[ζa,ζc]at h;obtain⟨rfl,rfl⟩:=h;obtain⟨a,bs,B,G,rfl⟩:=jJ g;refine⟨rfl,λv w=>?_⟩;(cases a<;>simp only[bq]at w<;>first|simp at w;done|skip);have⟨⟨l,h⟩,X,w⟩:=ζg.1 w;have⟨n,J⟩:=JX G X;have P:lz F none=some none:=rfl;simp only[bU,B,j,n,J,P];exact w
  rename_i e j;simp only[ζf,ζc]at h;obtain⟨d,hd,rfl,rfl⟩:=h;obtain⟨a,bs,B,G,rfl⟩:=jJ g;refine⟨rfl,λv w=>?_⟩;simp only[bq]at w;have⟨⟨l,h⟩,X,w⟩:=ζg.1 w;have⟨n,J⟩:=JX G X;have P:lz F none=some none:=rfl;simp only[bU,B,j,n,J,P,hd];cases a<;>exact w
  .rename_i e m j;split at h
   .rename_i d hh hd;simp only[ζa,ζc]at h;obtain⟨rfl,rfl⟩:=h;obtain⟨a,b,c,B,G,o,rfl⟩:=Lr g;refine⟨rfl,λv w=>?_⟩;(cases b<;>cases c<;>simp only[bq]at w<;>first|simp at w;done|skip);rename_i k1 n1 k2 n2;split at w;rename_i T;simp only[ζh,beq_iff_eq]at T;obtain⟨⟨n,rfl⟩,rfl⟩:=T;have m1:lz F none=some none:=rfl;have m2:lz F (some hh)=some (some 0):=(by simp[lz,G]);have m3:lz F (some m)=some (some 0):=(by simp[lz,o]);simp only[bU,B,j,m1,m2,m3,hd];cases a<;>simp[O2]at n<;>exact w;simp at w
   simp at h
  simp at h
 |build t ps=>
  simp only[resolve]at h;split at h;rename_i d hd;split at h;rename_i fs j;split at h;rename_i pl ad;simp only[ζf,ζc]at h;obtain⟨q,hq,rfl,rfl⟩:=h;refine⟨rfl,λv w=>?_⟩;simp only[bq,ζf]at w;obtain⟨cs,Y,rfl⟩:=w;have⟨ws,R,w2⟩:=Kj (λi=>pl[i]?) _ q vs _ cs hq g Y;simp only[bU,hd,R,j,ad,w2,map_some];simp at h;rename_i len e j;simp only[ζf,ζc]at h;obtain⟨A,ae,rfl,rfl⟩:=h;refine⟨rfl,λv w=>?_⟩;simp only[bq,ζf]at w;obtain⟨cs,Y,rfl⟩:=w;have⟨ws,R,w2⟩:=Kj (λi=>some (i*A.size,A.size)) ps.toList (ps.toList.map λq=>(q.1*A.size,A.size)) vs _ cs (by
   generalize ps.toList=l
   induction l with
   |nil=>rfl|cons x l ih=>simp[List.mapM_cons,ih]) g Y
  simp only[bU,hd,R,j,ae,w2,map_some];simp at h;simp at h
 |makeFunc f a b=>cases f with|func f=>simp only[resolve,ζf,ζc]at h;obtain⟨s,M,rfl,rfl⟩:=h;obtain⟨az,bs,B,G,rfl⟩:=Oz g;refine⟨rfl,λv w=>?_⟩;simp only[bq,ζa]at w;subst w;simp only[bU,B,G,hN f s M];rw[<-O1 B];simp|_=>simp[resolve]at h
 |extract x i=>simp only[resolve,ζa,ζc]at h;obtain⟨rfl,rfl⟩:=h;obtain⟨a,B,rfl⟩:=qu g;refine⟨rfl,λv w=>?_⟩;(cases a<;>simp only[bq]at w<;>first|simp at w;done|skip);simp only[bU,B];exact w|load t x=>simp only[resolve,ζf,ζc]at h;obtain⟨d,hd,rfl,rfl⟩:=h;obtain⟨a,B,rfl⟩:=qu g;exact⟨rfl,λH v w=>by simp only[eG,hd,B];exact w⟩|lookup t m k ok=>simp only[resolve]at h;split at h;rename_i kt et j;split at h;rename_i d kk hd L;simp only[ζf,ζc]at h;obtain⟨z,U,rfl,rfl⟩:=h;obtain⟨a,b,B,G,rfl⟩:=uF g;refine⟨rfl,λH v w=>?_⟩;simp only[fE]at w;split at w;rename_i aa O;split at w;rename_i Q;simp only[eG,j,B,G,hd,O,B2 L Q,if_true,U];split at w;(next W=>rw[W];exact w);(next W=>rw[W];exact w);simp at w;simp at w;simp at w;simp at h;simp at h|alloc t=>simp only[resolve,ζf,ζc]at h;obtain⟨d,hd,rfl,rfl⟩:=h;have:=r_ g;subst this;exact⟨rfl,λx w=>by simpa[jg,fH,hd]using w⟩|box t x=>simp only[resolve,ζa,ζc]at h;obtain⟨rfl,rfl⟩:=h;obtain⟨a,B,rfl⟩:=qu g;exact⟨rfl,λx w=>by simp only[fH,B];exact w⟩|makeSlice t l c=>
  simp only[resolve]at h;split at h
  .rename_i e j;split at h
   .rename_i d hd;split at h
    .rename_i S;simp only[ζa,ζc]at h;obtain⟨rfl,rfl⟩:=h;obtain⟨a,b,B,G,rfl⟩:=uF g;refine⟨rfl,λx w=>?_⟩;(cases a<;>cases b<;>simp only[jg]at w<;>first|simp at w;done|skip);rename_i k1 n1 k2 n2;split at w;(next o=>simp only[fH,j,B,G,hd];rw[if_pos ⟨o.1,o.2.1,o.2.2.1,o.2.2.2.1,o.2.2.2.2,S⟩];exact w);simp at w
    simp at h
   simp at h
  simp at h
 |buildSlice t len ps=>simp only[resolve]at h;split at h;rename_i e j;split at h;rename_i d hd;split at h;rename_i S;simp only[ζa,ζc]at h;obtain⟨rfl,rfl⟩:=h;refine⟨rfl,λx w=>?_⟩;have U:=Rt _ _ g;simp only[jg]at w;split at w;simp only[fH,j,U,hd,if_pos S];exact w;simp at w;simp at h;simp at h;simp at h|makeMap t r=>cases r with|none=>simp only[resolve,ζa,ζc]at h;obtain⟨rfl,rfl⟩:=h;have:=r_ g;subst this;exact⟨rfl,λx w=>by simpa[jg,fH]using w⟩|some r=>simp[resolve]at h
 |store t p x=>simp only[resolve,ζf,ζc]at h;obtain⟨d,hd,rfl,rfl⟩:=h;obtain⟨a,b,B,G,rfl⟩:=uF g;refine⟨rfl,λH v w=>?_⟩;(cases a<;>simp only[fT]at w<;>first|simp at w;done|skip);simp only[dB,hd,B,G];exact w|mapUpdate t m k x=>
  simp only[resolve]at h;split at h
  .rename_i kt et j;simp only[ζf,ζc]at h;obtain⟨kk,L,rfl,rfl⟩:=h;obtain⟨a,b,c,B,G,o,rfl⟩:=Lr g;refine⟨rfl,λH v w=>?_⟩;(cases a<;>simp only[fT]at w<;>first|simp at w;done|skip);simp only[dB,j,B,G,o];split at w;rename_i aa O;split at w;(next Q=>rw[O];simp only[B2 L Q,if_true];exact w);simp at w;simp at w
  simp at h
 |insert t m k x=>
  simp only[resolve]at h;split at h
  .rename_i kt et j;simp only[ζf,ζc]at h;obtain⟨kk,L,rfl,rfl⟩:=h;obtain⟨a,b,c,B,G,o,rfl⟩:=Lr g;refine⟨rfl,λH v w=>?_⟩;(cases a<;>simp only[fT]at w<;>first|simp at w;done|skip);simp only[dB,j,B,G,o];split at w;rename_i aa O;split at w;(next Q=>rw[O];simp only[B2 L Q,if_true];exact w);simp at w;simp at w
  simp at h
 |call c=>
  have⟨callee,args,aj⟩:=c
  cases callee with
  |value f=>simp only[resolve,ζa,ζc]at h;obtain⟨rfl,rfl⟩:=h;obtain⟨a,az,B,has,rfl⟩:=jJ g;refine⟨rfl,a,az,rfl,?_⟩;simp only[kW,B,has];cases a<;>rfl|builtin b=>
   cases b with
   |append=>simp only[resolve]at h;split at h;rename_i t t' s x I C;split at h;rename_i e e' j Z;split at h;rename_i d hd;split at h;rename_i S;simp only[ζa,ζc]at h;obtain⟨rfl,rfl⟩:=h;obtain⟨a,b,B,G,rfl⟩:=uF g;refine⟨rfl,λH v w=>?_⟩;have D:gj F args.toList=some [a,b]:=(by rw[C];exact g);simp only[dB,I,D,j,Z,hd];simp only[fT]at w;split at w;(next n J=>rw[n,J];exact w);rename_i xs ys af n J;rw[n,J];split at w;rename_i ah;simp only[if_pos (show xs.length+ys.length<=2147483648/\d.bytes<=4096/\0<d.bytes from⟨ah,S⟩)];(cases ys with|nil=>exact absurd rfl af|cons y ys=>exact w);simp at w;simp at w;simp at h;simp at h;rename_i e kk j Z;simp only[ζf,ζc]at h;obtain⟨d,hd,rfl,rfl⟩:=h;obtain⟨a,b,B,G,rfl⟩:=uF g;refine⟨rfl,λH v w=>?_⟩;have D:gj F args.toList=some [a,b]:=(by rw[C];exact g);simp only[dB,I,D,j,Z,hd];exact w;simp at h;simp at h|cap=>
    simp only[resolve]at h;split at h
    .rename_i t x I C;split at h
     .rename_i e j;simp only[ζa,ζc]at h;obtain⟨rfl,rfl⟩:=h;obtain⟨a,B,rfl⟩:=qu g;have D:gj F args.toList=some [a]:=(by rw[C];exact g);refine⟨rfl,λx w=>?_⟩;simp only[bU,I,D,j];simp only[bq]at w;cases a<;>simp only[Kl]at w<;>first|(simp at w;done)|exact w
     simp at h
    simp at h
   |clear=>simp only[resolve]at h;split at h;rename_i t x I C;split at h;rename_i e j;simp only[ζf,ζc]at h;obtain⟨d,hd,rfl,rfl⟩:=h;obtain⟨a,B,rfl⟩:=qu g;have D:gj F args.toList=some [a]:=(by rw[C];exact g);refine⟨rfl,λH v w=>?_⟩;simp only[dB,I,D,j,hd];exact w;simp at h;simp at h|len=>
    simp only[resolve]at h;split at h
    .rename_i t x I C;split at h
     .rename_i j;simp only[ζa,ζc]at h;obtain⟨rfl,rfl⟩:=h;obtain⟨a,B,rfl⟩:=qu g;have D:gj F args.toList=some [a]:=(by rw[C];exact g);refine⟨rfl,λv w=>?_⟩;(cases a<;>simp only[bq]at w<;>first|simp at w;done|skip);simp only[bU,D,I,j];exact w
     rename_i e j;simp only[ζa,ζc]at h;obtain⟨rfl,rfl⟩:=h;obtain⟨a,B,rfl⟩:=qu g;have D:gj F args.toList=some [a]:=by rw[C];exact g
     refine⟨rfl,λv w=>?_⟩;simp only[bU,D,I,j];simp only[bq,pO]at w;cases a<;>simp at w⊢ <;>exact w;simp at h
    simp at h
   |max=>
    simp only[resolve]at h;split at h
    .rename_i x y C;simp only[ζa,ζc]at h;obtain⟨rfl,rfl⟩:=h;obtain⟨a,b,B,G,rfl⟩:=uF g;have D:gj F args.toList=some [a,b]:=(by rw[C];exact g);refine⟨rfl,λv w=>?_⟩;(cases a<;>cases b<;>simp only[bq]at w<;>first|simp at w;done|skip);simp only[bU,D];exact w
    .rename_i x y z t C;simp only[ζa,ζc]at h;obtain⟨rfl,rfl⟩:=h;obtain⟨a,ak,B,J,rfl⟩:=jJ g;obtain⟨b,c,d,G,o,hd,rfl⟩:=Lr J;have D:gj F args.toList=some [a,b,c,d]:=(by rw[C];exact g);refine⟨rfl,λv w=>?_⟩;(cases a<;>cases b<;>simp only[bq]at w<;>first|simp at w;done|skip);(cases c<;>cases d<;>simp only[bq]at w<;>first|simp at w;done|skip);simp only[bU,D];exact w
    simp at h
   |min=>
    simp only[resolve]at h;split at h
    .rename_i x y C;simp only[ζa,ζc]at h;obtain⟨rfl,rfl⟩:=h;obtain⟨a,b,B,G,rfl⟩:=uF g;have D:gj F args.toList=some [a,b]:=(by rw[C];exact g);refine⟨rfl,λv w=>?_⟩;(cases a<;>cases b<;>simp only[bq]at w<;>first|simp at w;done|skip);simp only[bU,D];exact w
    simp at h
   |_=>simp[resolve]at h
  |_=>simp[resolve]at h
 |panic x=>simp only[resolve,ζa,ζc]at h;obtain⟨rfl,rfl⟩:=h;have:=r_ g;subst this;exact⟨rfl,λx w=>by simp[bq]at w⟩|makeInterface t x=>simp only[resolve,ζa,ζc]at h;obtain⟨rfl,rfl⟩:=h;have:=r_ g;subst this;exact⟨rfl,λx w=>by simp[bq]at w⟩|_=>simp[resolve]at h
end
structure BL(c c':dQ):Prop where
 lv:c.lv<=c'.lv
 go:∀x a H r,c x a H=some r->c' x a H=some r
section
variable{E:Env}{c c':dQ}{n:Nat}{ops:R0}{F F':WP}{H H':bp}
def LW{f:Y'}{args:So}{y:V}(hi:cw c f args H=some y):∃az,borrows c.lv H args=some az:=by
 unfold cw at hi;split at hi;next az h=>exact⟨az,h⟩
 cases hi
def FJ(B:c.lv<=c'.lv){f:Y'}(h:∀a H r,c (.fn f) a H=some r->c' (.fn f) a H=some r){args:So}{y:V}(hi:cw c f args H=some y):cw c' f args H=some y:=by
 unfold cw at hi⊢;split at hi;rename_i az u;rw[uI B u];split at hi;rename_i b;simp only;rw[h _ _ _ b];split at hi;next w=>simp only;rw[uj B w];exact hi
 cases hi;simp at hi;simp at hi
def pX(h:BL c c'){f:Y'}{args:So}{y:V}(hi:cw c f args H=some y):cw c' f args H=some y:=FJ h.lv (λ_ _ _=>h.go _ _ _ _) hi
def ou(B:c.lv<=c'.lv){f:Y'}{args:So}{y:V}(hi:cw c f args H=some y):c_ (cA c'.lv H) args=c_ (cA c.lv H) args:=by have⟨az,h⟩:=LW hi;exact Bc B h
def FM(B:c.lv<=c'.lv){f:Y'}(h:∀a H r,c (.fn f) a H=some r->c' (.fn f) a H=some r){args:So}{r:V×bp}(hi:mj c f args H=some r):mj c' f args H=some r:=by
 unfold mj at hi⊢;split at hi;rename_i az u;rw[uI B u];split at hi;next b=>simp only;rw[h _ _ _ b];exact hi
 simp at hi;simp at hi
def Lz(h:BL c c'){f:Y'}{args:So}{r:V×bp}(hi:mj c f args H=some r):mj c' f args H=some r:=FM h.lv (λ_ _ _=>h.go _ _ _ _) hi
def CD(h:BL c c'){f:Y'}{args:So}{r:V×bp}(hi:fM E c f args H=some r):fM E c' f args H=some r:=by
 unfold fM at hi⊢;split;next u=>rw[if_pos u]at hi;exact Lz h hi
 rename_i u;rw[if_neg u]at hi;exact h.go _ _ _ _ hi
def CF(U:c.lv<=c'.lv){f:Y'}{args:So}{y G:V}{b:Nat}(a:cw c f args (H.take b)=none)(B:cw c f args H=some y)(D:cw c' f args (H.take b)=some G):False:=by
 unfold cw at a B D;split at D;rename_i az d;split at B;rename_i I u;have e:=qd (λx y z k1 k2=>L6 (H2:=H.take b) c.lv c'.lv x y z k1 k2 λid w=>by
  rw[getElem?_take]at w⊢;split at w
  next C=>rw[if_pos C]
  cases w) u d
 have J:borrows c.lv H args=some az:=oG (Dw c.lv) e;rw[J]at u;cases u;rw[show borrows c.lv (H.take b) args=some az from e]at a;simp only at a;rw[a]at B;simp at B;simp at B;simp at D
def Qm(h:BL c c'){place:a_ (Nat×Nat)}{op:Op}{r:V×bp}(hi:dN E c ops place F H op=some r):dN E c' ops place F H op=some r:=by
 unfold dN at hi⊢;split at hi;exact hi;exact hi;exact hi;exact hi;split at hi;rename_i f args B;split at hi;rename_i a;rw[if_pos a];split at hi;exact CD h hi;skip;split at hi;next z=>rw[if_pos z];exact CD h hi
 simp at hi;rename_i a;rw[if_neg a];split at hi;skip;split at hi;next y u=>rw[pX h u,ou h.lv u];exact hi
 simp at hi;rename_i b i;skip;split at hi;next y u=>rw[pX h u,ou h.lv u];exact hi
 rename_i w;split at hi;rename_i z;split at hi;rename_i y u;cases C:cw c' f args (take b H)with|some D=>exact(CF h.lv w u C).elim|none=>simp only[if_pos z,pX h u,ou h.lv u];exact hi
 simp at hi;simp at hi;rename_i id args B;split at hi;exact h.go _ _ _ _ hi;skip;split at hi;next z=>rw[if_pos z];exact h.go _ _ _ _ hi
 simp at hi;simp at hi
def Fe(h:BL c c'){place:a_ (Nat×Nat)}{o:Oper}{r:WP×bp}(hi:iu E c n ops place o F H=some r):iu E c' n ops place o F H=some r:=by
 unfold iu at hi⊢;split at hi;rename_i u;rw[if_pos u];split at hi;next v H1 hd=>rw[Qm h hd];exact hi
 simp at hi;rename_i u;rw[if_neg u];exact hi
def Dr(h:BL c c'){r:WP×bp}:∀(l:R0){F:WP}{H:bp},n_ E c n ops l F H=some r->n_ E c' n ops l F H=some r
 |[],_,_,hi=>hi|o::l,F,H,hi=>by simp only[n_]at hi⊢;split at hi;(next F1 H1 B=>rw[Fe h B];exact Dr h l hi);simp at hi
def DD(h:BL c c'){base:Nat}{r:WP×bp}:∀(l:ST){F:WP}{H:bp},lu E c n ops base l F H=some r->lu E c' n ops base l F H=some r
 |[],_,_,hi=>hi|i::l,F,H,hi=>by simp only[lu]at hi⊢;split at hi;split at hi;(next F1 H1 B=>rw[Fe h B];exact DD h l hi);simp at hi;simp at hi
def GN(h:BL c c'){B:X'}{r:WP×bp}(hi:kK E c n ops B F H=some r):kK E c' n ops B F H=some r:=by
 unfold kK at hi⊢;split;rename_i hd;rw[if_pos hd]at hi;split at hi;next u=>rw[if_pos u];exact DD h _ hi
 simp at hi;rename_i hd;rw[if_neg hd]at hi;exact Dr h _ hi
def Ar{s J:WP->bp->a_ (Out×WP×bp)}(h:∀F H r,s F H=some r->J F H=some r):∀(k B:Nat),k<=B->∀{F H r},mo s k F H=some r->mo J B F H=some r
 |0,_,_,F,H,r,hi=>by simp[mo]at hi|k+1,0,hk,F,H,r,hi=>Zaa|k+1,B+1,hk,F,H,r,hi=>by simp only[mo]at hi⊢;split at hi;(next F1 H1 U=>rw[h _ _ _ U];exact Ar h k B Zaa hi);rename_i D;rw[h _ _ _ hi];split;(next F1 H1 G=>cases G;exact absurd hi (D _ _));rfl
def BE(h:BL c c'){lf B:Nat}(U:lf<=B)(ro:X')(e:Nat):∀(code:Code){F:WP}{H:bp}{r:Out×WP×bp},exec E c lf ro e code F H=some r->exec E c' B ro e code F H=some r:=by intro code;induction code with|skip=>intro F H r hi;exact hi|label l=>intro F H r hi;exact hi|region id ops J=>intro F H r hi;simp only[exec,ζf]at hi⊢;obtain⟨x,L,rfl⟩:=hi;exact⟨x,GN h L,rfl⟩|seq a b u z=>intro F H r hi;simp only[exec]at hi⊢;split at hi;(next F1 H1 d=>rw[u d];exact z hi);rename_i C;rw[u hi];split;(next D=>cases D;exact absurd hi (C _ _));rfl|cond x a b u z=>intro F H r hi;simp only[exec]at hi⊢;split at hi;rename_i t S;split at hi;(next G=>subst G;simp only[if_true];exact u hi);rename_i G;rw[if_neg G];exact z hi;simp at hi|block id a I=>intro F H r hi;simp only[exec]at hi⊢;split at hi;(next O F1 H1 d=>rw[I d];exact hi);rename_i C;rw[I hi];split;(next D=>cases D;exact absurd hi (C _ _ _));rfl|loop a I=>intro F H r hi;simp only[exec]at hi⊢;exact Ar (λF H r f=>I f) lf B U hi|rangeFunc g ps T W _ _=>intro F H r hi;simp only[exec]at hi⊢;split at hi;split at hi;(next Q H1 i=>rw[h.go _ _ _ _ i];exact hi);simp at hi;simp at hi|exit id=>intro F H r hi;exact hi|ret=>intro F H r hi;exact hi|scope a _=>intro F H r hi;simp[exec]at hi|goto l=>intro F H r hi;simp[exec]at hi|refuse w=>intro F H r hi;simp[exec]at hi
def Ke(E:Env):∀n,BL (run E n) (run E (n+1)):=by intro n;induction n with|zero=>exact⟨le_succ _,λx a H r h=>(by cases h)⟩|succ n u=>refine⟨le_succ _,λx a H r h=>?_⟩;rw[Jr]at h⊢;cases x with|fn f=>rw[lg]at h⊢;split at h;rename_i U O;split at h;rename_i B;rw[if_pos B];split at h;simp at h;rename_i o F1 H1 C Q;rw[BE u (le_succ n) _ _ _ Q];(cases o with|exit id=>exact(C id rfl).elim|norm=>exact h|ret=>exact h);simp at h;simp at h;split at h;(next D=>rw[if_pos D];exact Fv u.lv (λg args y _ S=>pX u S) h);rename_i D;rw[if_neg D];exact h|yld id=>rw[lg]at h⊢;split at h;rename_i b L;split at h;rename_i T;split at h;rename_i w;split at h;rename_i W H2 G;split at h;rename_i r2 I;split at h;rename_i z;split at h;(next o X Y J=>simp only[if_pos w,BE u (le_succ n) _ _ _ G,I,z,BE u (le_succ n) _ _ _ J];exact h);simp at h;simp at h;simp at h;simp at h;simp at h;simp at h;simp at h
def pY(E:Env){n m:Nat}(h:n<=m):BL (run E n) (run E m):=by induction h with|refl=>exact⟨le_refl _,λ_ _ _ _ h=>h⟩|step _ u=>exact⟨le_trans u.lv (Ke E _).lv,λx a H r h=>(Ke E _).go x a H r (u.go x a H r h)⟩
def pV(E:Env):∀n,(run E n).lv=n
 |0=>rfl|_+1=>rfl
end
def O5(P:Program)(f:Y'):a_ FI:=(P.funcs[f]?).bind λfn=>fn.body.map λb=>⟨fn.ntmps,fn.results.toList,b⟩
def C_(P:Program):X':=P.funcs.toList.all λfn=> !(fn.name== "runtime.NumGoroutine")
def WB{P:Program}(h:C_ P=true){f:Y'}{fi:FI}(B:O5 P f=some fi):∃fn,P.funcs[f]?=some fn/\fn.body=some fi.body/\fn.ntmps=fi.ntmps/\fn.results.toList=fi.results/\(fn.name== "runtime.NumGoroutine")=false:=by unfold O5 at B;have⟨fn,h1,w⟩:=ζg.1 B;obtain⟨b,z,rfl⟩:=ζf.1 w;refine⟨fn,h1,z,rfl,rfl,?_⟩;unfold C_ at h;rw[List.all_eq_true]at h;have C:=h fn (by obtain⟨u,rfl⟩:=Array.getElem?_eq_some_iff.1 h1;exact Array.mem_toList_iff.2 (Array.getElem_mem u));simpa using C
def FQ(P:Program)(shut keep own:ST)(two:aZ (Nat×Nat))(a:Y'->X')(known:Y'->So->a_ V):Env where
 tt:=ya P
 ft f:=if shut.contains f then none else O5 P f
 keep:=keep.contains
 own:=own.contains
 eqN t:=lk two t
 sort:=a
 known:=known
def K5{P:Program}{shut keep own:ST}{two:aZ (Nat×Nat)}{a:Y'->X'}{known:Y'->So->a_ V}(h:C_ P=true)(B:∀p∈two,yG P p.1 p.2):fq P (FQ P shut keep own two a known)where
 tt t d h:=h
 ft f w u:=by change(if shut.contains f then none else O5 P f)=some w at u;split at u;cases u;exact WB h u
 eqN t n z:=B (t,n) (Ql z)
section
variable{P:Program}{I:cG}{μ:Mu}{H:bp}{w:World}{n:Nat}
variable{f A S e:Nat}{fn:Func}{bytes i1 i2 i3 i4 t1 t2 t6 t7:Nat}{p1 p2 p3 p4 p5 p6 p7:String}{e1 e2 e3 e4 e5 e6 e7:Array Edge}
end
end Go.VE
namespace Go.VE
variable[b_]
variable{P:Program}
def J6(a:R')(j:Nat):(ic a)[j]?=(a[j]?).map (Value.int .i64):=by simp[ic]
def HJ{i:W'}{a b:R'}{n:Nat}(G:a.length=n)(J:b.length=n)(hi:ya P i=some ⟨1,8,[.int .i64 0],.int .i64⟩)(B:P.underlying i=some (.int .i64))(d:Nat)(w:World):
 ∀(m k:Nat),k+m=n->(eqItems (d+1) i 1 (ic a) (ic b) (range' k m)).run P w=.ok (a.drop k==b.drop k) w
 |0,k,h=>by have c:a.drop k=[]:=List.drop_eq_nil_of_le Zaa;have I:b.drop k=[]:=List.drop_eq_nil_of_le Zaa;simp[eqItems,c,I]|m+1,k,h=>by have u:k<a.length:=Zaa;have z:k<b.length:=Zaa;have pa:(part i (ic a) (k*1)).run P w=.ok (.int .i64 a[k]) w:=tX hi (by rw[J6,mul_one];simp[u]);have L:(part i (ic b) (k*1)).run P w=.ok (.int .i64 b[k]) w:=tX hi (by rw[J6,mul_one];simp[z]);have q:(equalIn (d+1) i (.int .i64 a[k]) (.int .i64 b[k])).run P w=.ok (a[k]==b[k]) w:=Dm d _ _ B;have O:=HJ G J hi B d w m (k+1) Zaa;have C:=List.drop_eq_getElem_cons u;have D:=List.drop_eq_getElem_cons z;simp only[List.range'_succ,eqItems,run_bind,pa,L,q,andThen_ok];by_cases e:a[k]=b[k];rw[C,D,List.cons_beq_cons,e];simp only[beq_self_eq_true,Bool.not_true,Bool.true_and,if_false,Bool.false_eq_true];exact O;have:(a[k]==b[k])=false:=(by simpa using e);rw[C,D,List.cons_beq_cons,this];simp only[Bool.not_false,if_true,Bool.false_and,run_pure]
def LN{i:W'}{a:R'}{n:Nat}(e:X')(G:a.length=n)(hi:ya P i=some ⟨1,8,[.int .i64 0],.int .i64⟩)(B:P.underlying i=some (.int .i64))(d:Nat)(w:World):
 ∀(m k:Nat),k+m=n->(forIn (range' k m) PUnit.unit (λj(_:PUnit)=>do
  let s<-sizeOf i
  let v<-part i (ic a) (j*s)
  checkKey e (d+1) i v
  pure (ForInStep.yield PUnit.unit)):Sem PUnit).run P w=.ok PUnit.unit w
 |0,k,h=>Zab|m+1,k,h=>by have D:k<a.length:=Zaa;have pa:(part i (ic a) (k*1)).run P w=.ok (.int .i64 a[k]) w:=tX hi (by rw[J6,mul_one];simp[D]);have z:(sizeOf i).run P w=.ok 1 w:=(rq.Oo hi).l8;have q:(checkKey e (d+1) i (.int .i64 a[k])).run P w=.ok () w:=B7 d e _ B;have u:=LN e G hi B d w m (k+1) Zaa;simp only[List.range'_succ,List.forIn_cons,run_bind,z,pa,q,andThen_ok,run_pure]at u⊢;exact u
def yG.arr{t i:W'}{n:Nat}(c:P.underlying t=some (.array n i))(hi:ya P i=some ⟨1,8,[.int .i64 0],.int .i64⟩)(J:P.underlying i=some (.int .i64))(U:P.eqGuardType P.depth t=false):yG P t n:=by
 have⟨Q,z,B,O,_⟩:=(rq.Oo hi).info;have C:P.cellsOf i=1:=by unfold Program.cellsOf;simp[B,O]
 have D:∀(w:World)(a b:R'),a.length=n->b.length=n->(equal t (.agg (ic a)) (.agg (ic b))).run P w=.ok (a==b) w:=by intro w a b G I;show(equalIn (9999+1) t _ _).run P w=_;rw[run_equalIn_array w 9999 _ _ c B,C,List.range_eq_range'];simpa using HJ G I hi J 9998 w n 0 Zaa
 have L:∀(op:BinOp)(p q:UV)(w:World)(u v:Array V'),(eqGuard op t p q (.agg u) (.agg v)).run P w=.ok () w:=by intro op p q w u v;unfold eqGuard;cases op<;>simp[run_bind,run_program,andThen,U]
 refine⟨?_,?_,D,?_,⟨_,c,.inl ⟨_,_,rfl⟩⟩⟩;intro w p q a b G I;rw[run_bind,L,andThen_ok];show(do pure (Value.bool (<-equal t (.agg (ic a)) (.agg (ic b)))):Sem V').run P w=_;rw[run_bind,D _ _ _ G I];rfl;intro w p q a b G I;rw[run_bind,L,andThen_ok];show(do pure (Value.bool (!(<-equal t (.agg (ic a)) (.agg (ic b))))):Sem V').run P w=_;rw[run_bind,D _ _ _ G I];rfl;intro w e a G;show(checkKey e (9999+1) t _).run P w=_;unfold checkKey;simp only[run_bind,d_ c,andThen_ok];have:=LN e G hi J 9998 w n 0 Zaa;simp only[Std.Legacy.Range.forIn_eq_forIn_range',Std.Legacy.Range.size,Nat.sub_zero,Nat.add_one_sub_one,Nat.div_one];rw[show(9998+1:Nat)=9999 from rfl]at this;rw[this];rfl
end Go.VE
namespace Go.VE
variable[b_]
structure CR(E:Env)(c c':dQ):Prop where
 lv:c.lv<=c'.lv
 QH:∀f args H y,E.keep f=false->cw c f args H=some y->cw c' f args H=some y
 dir:∀f args H r,E.keep f=true->c (.fn f) args H=some r->c' (.fn f) args H=some r
 yld:∀id args H r,c (.yld id) args H=some r->c' (.yld id) args H=some r
 rng:∀f args H r,H≠[]->c (.fn f) args H=some r->c' (.fn f) args H=some r
section
variable{E:Env}{c c':dQ}{n:Nat}{ops:R0}{F F':WP}{H H':bp}
def MG(h:CR E c c'){f:Y'}{args:So}{r:V×bp}(a:E.keep f=true)(hi:mj c f args H=some r):mj c' f args H=some r:=FM h.lv (λ_ _ _=>h.dir _ _ _ _ a) hi
def DF(h:CR E c c'){f:Y'}{args:So}{r:V×bp}(a:E.keep f=true)(hi:fM E c f args H=some r):fM E c' f args H=some r:=by
 unfold fM at hi⊢;split;next u=>rw[if_pos u]at hi;exact MG h a hi
 rename_i u;rw[if_neg u]at hi;exact h.dir _ _ _ _ a hi
def Dp{place:a_ (Nat×Nat)}{f:Y'}(h:mY E ops place f=true):E.keep f=true:=by unfold mY at h;grind
def CR.any(h:CR E c c'){f:Y'}{args:So}{H:bp}{y:V}(hi:cw c f args H=some y):cw c' f args H=some y:=by cases a:E.keep f with|false=>exact h.QH _ _ _ _ a hi|true=>exact FJ h.lv (λ_ _ _=>h.dir _ _ _ _ a) hi
def Tk(h:CR E c c'){place:a_ (Nat×Nat)}{op:Op}{r:V×bp}(hi:dN E c ops place F H op=some r):dN E c' ops place F H op=some r:=by
 unfold dN at hi⊢;split at hi;omega;omega;omega;omega;split at hi;rename_i f args B;split at hi;rename_i a;rw[if_pos a];split at hi;exact DF h (Dp a) hi;split at hi;next z=>rw[if_pos z];exact DF h (Dp a) hi
 grind;rename_i a;rw[if_neg a];split at hi;split at hi;next y u=>rw[h.any u,ou h.lv u];exact hi
 grind;rename_i b i;split at hi;next y u=>rw[h.any u,ou h.lv u];exact hi
 rename_i w;split at hi;rename_i z;split at hi;rename_i y u;cases C:cw c' f args (take b H)with|some D=>exact(CF h.lv w u C).elim|none=>simp only[if_pos z,h.any u,ou h.lv u];exact hi
 grind;grind;split at hi;exact h.yld _ _ _ _ hi;split at hi;next z=>rw[if_pos z];exact h.yld _ _ _ _ hi
 grind;grind
def H6(h:CR E c c'){place:a_ (Nat×Nat)}{o:Oper}{r:WP×bp}(hi:iu E c n ops place o F H=some r):iu E c' n ops place o F H=some r:=by
 unfold iu at hi⊢;split at hi;rename_i u;rw[if_pos u];split at hi;next v H1 hd=>rw[Tk h hd];omega
 grind;grind
def E6(h:CR E c c'){r:WP×bp}:∀(l:R0){F:WP}{H:bp},n_ E c n ops l F H=some r->n_ E c' n ops l F H=some r
 |[],_,_,hi=>hi|o::l,F,H,hi=>by simp[n_]at hi⊢;split at hi;(next F1 H1 B=>rw[H6 h B];exact E6 h l hi);grind
def Gs(h:CR E c c'){base:Nat}{r:WP×bp}:∀(l:ST){F:WP}{H:bp},lu E c n ops base l F H=some r->lu E c' n ops base l F H=some r
 |[],_,_,hi=>hi|i::l,F,H,hi=>by simp[lu]at hi⊢;split at hi;split at hi;(next F1 H1 B=>rw[H6 h B];exact Gs h l hi);grind;grind
def Ja(h:CR E c c'){B:X'}{r:WP×bp}(hi:kK E c n ops B F H=some r):kK E c' n ops B F H=some r:=by
 unfold kK at hi⊢;split;rename_i hd;rw[if_pos hd]at hi;split at hi;next u=>rw[if_pos u];exact Gs h _ hi
 grind;rename_i hd;rw[if_neg hd]at hi;exact E6 h _ hi
def Ee(h:CR E c c'){lf B:Nat}(G:lf<=B)(ro:X')(d:Nat):∀(code:Code){F:WP}{H:bp}{r:Out×WP×bp},exec E c lf ro d code F H=some r->exec E c' B ro d code F H=some r:=by intro code;induction code with|skip=>intro F H r hi;exact hi|label l=>intro F H r hi;exact hi|region id ops C=>intro F H r hi;simp only[exec,ζf]at hi⊢;obtain⟨x,I,rfl⟩:=hi;exact⟨x,Ja h I,rfl⟩|seq a b u z=>intro F H r hi;simp[exec]at hi⊢;grind|cond x a b u z=>intro F H r hi;simp[exec]at hi⊢;grind|block id a D=>intro F H r hi;simp[exec]at hi⊢;grind|loop a D=>intro F H r hi;exact Ar (λF H r e=>D e) lf B G hi|rangeFunc g ps L O _ _=>intro F H r hi;simp[exec]at hi⊢;split at hi;split at hi;(next J H1 f=>rw[h.rng _ _ _ _ Zab f];omega);grind;grind|exit id=>intro F H r hi;exact hi|ret=>intro F H r hi;exact hi|scope a _=>intro F H r hi;simp[exec]at hi|goto l=>intro F H r hi;simp[exec]at hi|refuse w=>intro F H r hi;simp[exec]at hi
def Cd(h:CR E c c'){n m:Nat}(B:n<=m){x:Callee}{a:So}{r:V×bp}(hi:lg E c n x a H=some r):lg E c' m x a H=some r:=by cases x with|fn f=>rw[lg]at hi⊢;split at hi;split at hi;rename_i G;split at hi;simp_all;rename_i o F1 H1 I J;rw[Ee h B _ _ _ J];grind;grind;grind;split at hi;(next L=>rw[if_pos L];exact Fv h.lv (λg args y b O=>h.QH _ _ _ _ b O) hi);grind|yld id=>rw[lg]at hi⊢;split at hi;split at hi;split at hi;rename_i u;split at hi;rename_i Q H2 z;split at hi;rename_i r2 C;split at hi;rename_i w;split at hi;(next o S T D=>simp only[if_pos u,Ee h B _ _ _ z,C,w,Ee h B _ _ _ D];omega);grind;grind;grind;grind;grind;grind;grind
mutual
def V.same:Nat->V->V->X'
 |0,_,_=>false|_+1,.bool a,.bool b=>a==b|_+1,.int k a,.int l b=>decide (k=l)&&decide (a=b)|_+1,.str a,.str b=>decide (a.data.toList=b.data.toList)|_+1,.bM,.bM=>true|_+1,.dX,.dX=>true|_+1,.ja,.ja=>true|_+1,.hG,.hG=>true|_+1,.ug,.ug=>true|n+1,.agg a,.agg b=>V.tg n a b|n+1,.tup a,.tup b=>V.tg n a b|n+1,.fptr a,.fptr b=>V.tg n a b|n+1,.fsl e a,.fsl B b=>beq e B&&V.Cs n a b|n+1,.clo f a b,.clo D a' G=>beq f D&&V.tg n a a'&&V.tg n b G|_+1,_,_=>false
def V.tg:Nat->So->So->X'
 |0,_,_=>false|_+1,[],[]=>true|n+1,a::r,b::s=>V.same n a b&&V.tg n r s|_+1,_,_=>false
def V.Cs:Nat->S'->S'->X'
 |0,_,_=>false|_+1,[],[]=>true|n+1,a::r,b::s=>V.tg n a b&&V.Cs n r s|_+1,_,_=>false
end
def WU:∀n,(∀a b,V.same n a b=true->a=b)/\(∀a b,V.tg n a b=true->a=b)/\(∀a b,V.Cs n a b=true->a=b):=by
 intro n
 induction n with
 |zero=>exact⟨λa b h=>by simp[V.same]at h,λa b h=>by simp[V.tg]at h,λa b h=>by simp[V.Cs]at h⟩|succ n u=>
  have⟨i1,i2,i3⟩:=u;refine⟨λa b h=>?_,λa b h=>?_,λa b h=>?_⟩
  .cases a<;>cases b<;>simp only[V.same,ζh,decide_eq_true_eq,Bool.false_eq_true]at h<;>first|rfl|grind|skip
   all_goals first
    |grind|grind|grind|(rw[Nat.eq_of_beq_eq_true h.1,i3 _ _ h.2])|(rw[Nat.eq_of_beq_eq_true h.1.1,i2 _ _ h.1.2,i2 _ _ h.2])|(congr 1;exact ByteArray.ext (ext' h))
  .cases a<;>cases b<;>simp[V.tg]at h<;>first|rfl|grind|grind
  cases a<;>cases b<;>simp[V.Cs]at h<;>first|rfl|grind|grind
structure gy where
 f:FuncId
 az:List V
 y:V
def Au:aZ gy->Y'->So->a_ V
 |[],_,_=>none|k::r,f,az=>bif beq k.f f&&V.tg 1000 k.az az then some k.y else Au r f az
def Ew:∀{l:aZ gy}{f:Y'}{az:So}{y:V},Au l f az=some y->∃k∈l,k.f=f/\k.az=az/\k.y=y
 |[],_,_,_,h=>by simp[Au]at h|k::r,f,az,y,h=>by unfold Au at h;cases B:beq k.f f&&V.tg 1000 k.az az with|true=>simp only[ζh]at B;exact⟨k,mem_cons_self ..,Nat.eq_of_beq_eq_true B.1,(WU 1000).2.1 _ _ B.2,Zac⟩|false=>rw[B]at h;have⟨q,a,D⟩:=Ew h;grind
def Jk(E:Env)(l:aZ gy)(c:dQ)(n:Nat):Callee->So->bp->a_ (V×bp)
 |.fn f,az,[]=>match Au l f az with
  |some y=>some (y,[])|none=>lg E c n (.fn f) az []
 |x,az,H=>lg E c n x az H
def runM(E:Env)(l:aZ gy):Nat->dQ
 |0=>⟨0,λ_ _ _=>none⟩|n+1=>⟨n+1,Jk E l (runM E l n) n⟩
def Wc(E:Env)(l:aZ gy):∀n,(runM E l n).lv=n
 |0=>rfl|_+1=>rfl
def Rs{l:aZ gy}{n:Nat}{x:Callee}{a:So}{H:bp}:runM E l (n+1) x a H=Jk E l (runM E l n) n x a H:=rfl
def xP(E:Env)(n:Nat)(k:gy):Prop:=∃r H1,run E n (.fn k.f) k.az []=some (r,H1)/\borrow n H1 r=some k.y
structure gX(E:Env)(k:gy):Prop where
 keep:E.keep k.f=false
 cl:k.y.closed=true
 at_:∃n,xP E n k
def xP.le{n m:Nat}{k:gy}(h:xP E n k)(B:n<=m):xP E m k:=by have⟨r,H1,a,u⟩:=h;exact⟨r,H1,(pY E B).go _ _ _ _ a,uj B u⟩
def Ca:∀{l:aZ gy},(∀k∈l,gX E k)->∃N,∀k∈l,xP E N k
 |[],_=>⟨0,Zab⟩|k::r,h=>by have⟨N,B⟩:=Ca (λq a=>h q (mem_cons_of_mem _ a));have⟨n,u⟩:=(h k (mem_cons_self ..)).at_;refine⟨max N n,λq a=>?_⟩;rcases mem_cons.1 a with rfl|a;exact u.le (Nat.le_max_right ..);exact(B q a).le (Nat.le_max_left ..)
def Bs{l:aZ gy}{x:Callee}{az:So}(h:H≠[]\/(∃id,x=.yld id)\/∃f,x=.fn f/\Au l f az=none):runM E l (n+1) x az H=lg E (runM E l n) n x az H:=by
 rcases h with h|⟨id,rfl⟩|⟨f,rfl,h⟩;cases x with|yld id=>rfl|fn f=>cases H with|nil=>exact absurd rfl h|cons a r=>rfl
 rfl;cases H with|nil=>rw[Rs,Jk,h]|cons a r=>rfl
def MX{l:aZ gy}{N:Nat}(D:∀k∈l,gX E k)(G:∀k∈l,xP E N k):∀n,CR E (runM E l n) (run E (N+n)):=by intro n;induction n with|zero=>refine⟨Nat.zero_le _,λf args H y _ h=>?_,λf args H r _ h=>(by cases h),λid args H r h=>(by cases h),λf args H r _ h=>(by cases h)⟩;unfold cw at h;split at h;cases h;cases h|succ n I=>have up:∀{x:Callee}{az:So}{H:bp}{r:V×bp},lg E (runM E l n) n x az H=some r->run E (N+(n+1)) x az H=some r:=λh=>(by rw[show N+(n+1)=(N+n)+1 from rfl,Jr];exact Cd I (le_add_left ..) h);have w:(runM E l (n+1)).lv<=(run E (N+(n+1))).lv:=(by rw[Wc,pV];exact le_add_left ..);refine⟨w,λf args H y b h=>?_,λf args H r b h=>?_,λid args H r h=>?_,λf args H r B h=>?_⟩;unfold cw at h⊢;split at h;rename_i az c;rw[uI w c];split at h;rename_i r H1 a;(cases z:Au l f az with|none=>rw[Bs (.inr (.inr ⟨f,rfl,z⟩))]at a;simp only;rw[up a];split at h;(next Q J=>simp only;rw[uj w J];exact h);cases h|some S=>rw[Rs,Jk,z]at a;obtain⟨rfl,rfl⟩:=a;obtain⟨k,u,rfl,rfl,rfl⟩:=Ew z;have ok:=D k u;have⟨r1,H2,d,L⟩:=(G k u).le (Nat.le_add_right N (n+1));rw[lN _ _ ok.cl]at h;simp only[d,pV,L];exact h);cases h;cases h;by_cases z:H≠[]\/(∃id,(Callee.fn f)=.yld id)\/∃C,Callee.fn f=.fn C/\Au l C args=none;rw[Bs z]at h;exact up h;(cases O:Au l f args with|none=>grind|some y=>obtain⟨k,u,rfl,_,_⟩:=Ew O;rw[(D k u).keep]at b;cases b);exact up h;rw[Bs (.inl B)]at h;exact up h
def Zp(E:Env)(l:aZ gy)(n:Nat)(k:gy):a_ V:=
 match lg E (runM E l n) n (.fn k.f) k.az []with
 |some (r,H1)=>borrow n H1 r|none=>none
def iT{l:aZ gy}(B:∀k∈l,gX E k){k:gy}(h:(Zp E l n k,k.y.closed,E.keep k.f)=(some k.y,true,false)):gX E k:=by simp at h;have⟨N,u⟩:=Ca B;refine⟨h.2.2,h.2.1,N+n+1,?_⟩;have a:=h.1;unfold Zp at a;split at a;rename_i r H1 w;refine⟨r,H1,?_,uj Zaa a⟩;exact Cd (MX B u n) (le_add_left ..) w;grind
def UO(E:Env)(l:aZ gy)(n:Nat)(f:Y')(az:So):X':=
 match lg E (runM E l n) n (.fn f) az []with
 |some (.bool b,_)=>b|_=>false
def OH{l:aZ gy}(B:∀k∈l,gX E k){f:Y'}{az:So}(h:UO E l n f az=true):∃n H1,run E n (.fn f) az []=some (.bool true,H1):=by
 have⟨N,u⟩:=Ca B;unfold UO at h;split at h;next b H1 w=>subst h;exact⟨N+n+1,H1,(Cd (MX B u n) (le_add_left ..) w)⟩
 simp_all
end
end Go.VE
