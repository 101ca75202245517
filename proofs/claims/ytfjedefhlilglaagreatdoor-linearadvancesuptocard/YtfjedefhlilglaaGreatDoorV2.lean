/-
 The engine: operations of the loaded code on values without a heap; a run of it is a run of the program.
-/
import Derived.RangeFuncRecord
import Derived.Shelf.SlSortCmp.NoneTotal
import Derived.RangeFuncLeaves
import Derived.Laws.StructEq
import Derived.ChangeKeysEq
import Derived.Test.YtfjedefhlilglaaGreatDoorV1
set_option linter.all false
open Nat(beq le_add_left le_refl le_succ le_trans mul_one)
open List(finRange getElem?_take mem_cons mem_cons_of_mem mem_cons_self mem_map range' take)
open Array(ext' replicate)
open Option(map_some)
open Go.Sem(run_bind run_pure)
open Go.Result(andThen andThen_ok)
open Go.Instr(checkKey)
open Go.Op(bytesLess eqItems equal equalIn)
open BitVec(ofInt)
namespace Go.VE
variable[b8]
def Out.Ka:Out->Exit
 |.norm=>.normal|.exit id=>.exit id|.ret=>.ret
def exists_least(p:Nat->Prop):∀k,p k->∃m,p m/\∀j,p j->m<=j:=by intro k;induction k using Nat.strongRecOn with|_ k z=>intro a;by_cases h:∃j,j<k/\p j;have⟨j,B,u⟩:=h;exact z j B u;exact⟨k,a,λj u=>Nat.le_of_not_lt λw=>h ⟨j,w,u⟩⟩
open Classical in
noncomputable def least(p:Nat->Prop):Nat:=if h:∃m,p m/\∀j,p j->m<=j then h.choose else 0
def O_(p:Nat->Prop){k:Nat}(a:p k):p (least p)/\least p<=k:=by have h:=exists_least p k a;unfold least;rw[dif_pos h];exact⟨h.choose_spec.1,h.choose_spec.2 k a⟩
section
variable{P:Program}{E:Env}{I I':cE}{μ μ':Mu}{H H':bp}{n B:Nat}{F F':WP}{a:Act}{w w':World}
def Post(B n:Nat)(I:cE)(μ:Mu)(H:bp)(w:World)(o:Out)(F':WP)(H':bp):Exit->Act->World->Prop:=λe u w'=>e=o.Ka/\(∃I' μ',eV I' μ' n F' u.tmps/\di I' μ' H' w'/\Step I μ H w I' μ' H' w')/\kS B u.defers w'
def Post.mono{I1:cE}{D:Mu}{H1:bp}{G:World}{o:Out}(J:di I1 D H1 G)(st:Step I μ H w I1 D H1 G){e:Exit}{a':Act}{w':World}(h:Post B n I1 D H1 G o F' H' e a' w'):
 Post B n I μ H w o F' H' e a' w':=by
 have⟨a,⟨I',μ',u,z,C⟩,L⟩:=h;exact⟨a,⟨I',μ',u,z,Step.trans J st C⟩,L⟩
def di.Cx(s:di I μ H w){b:Nat}(o:Obj)(B:I b=none)(D:¬iV μ H b):di I μ H (gG w b o)where
 dom:=s.dom
 imm:=λz x h=>IC.tG (s.imm z x h) (gV o (by rintro rfl;rw[B]at h;cases h))
 obs:=λid ob h=>(s.obs id ob h).mono (cE.le_refl _) (Mu.le_refl _) (λp C G=>by
  have u:iV μ H p.b:=⟨id,p,ob,h,G,C,rfl⟩;exact⟨gV o (λe=>D (e▸u)),gL s u⟩) (λJ=>by subst J;exact s.obs id _ h)
 inj:=s.inj
 gl:=s.gl
def Vz(s:di I μ H w){b:Nat}{o:Obj}(h:w.heap[b]?=some o)(a:∀c e f,o≠.cells c e f)(B:∀es c,o≠.map es c):I b=none:=by cases u:I b with|none=>rfl|some x=>have:=s.imm b x u;cases x with|cells c=>have⟨_,_,q⟩:=this;rw[h]at q;cases q;exact absurd rfl (a _ _ _)|map es=>have⟨_,q⟩:=this;rw[h]at q;cases q;exact absurd rfl (B _ _)
def Step.kept(c:∀b,b<w.heap.size->w'.heap[b]?=w.heap[b]?)(B:w.heap.size<=w'.heap.size)(d:w'.os=w.os)(D:xe w w')(G:∀a:Addr,a.block<w.heap.size->w.frozen? a=false->w'.frozen? a=false):Step I μ H w I μ H w':=⟨cE.le_refl _,Mu.le_refl _,le_refl _,B,λb u _=>c b u,λ_ h=>h.elim .inl λh=>.inr (.inl h),d,D,G⟩
def Step.after(st:Step I μ H w I' μ' H' w'){b:Nat}(o:Obj)(B:w.heap.size<=b)(D:Obj.nf o:=by first|exact uP _ _|exact tq rfl):Step I μ H w I' μ' H' (gG w' b o):=⟨st.le,st.mu,st.len,by rw[yU];exact st.size,λz u C=>by rw[gV o Zaa];exact st.frame z u C,st.terr,st.os,⟨st.out.out,st.out.tape,st.out.dr⟩,λa B G=>Yq D a (st.fz a B G)⟩
def kS.Cx{ds:aZ Deferred}(h:kS B ds w){b:Nat}{o:Obj}(D:∀r,w.heap[r]?=some (.deferred (some []))->r≠b):kS B ds (gG w b o):=
 ⟨λd hd=>by
  have⟨r,a,z,u⟩:=h.all d hd;exact⟨r,a,z,by rw[gV o (D r u)];exact u⟩,h.apart⟩
def N7{step:WP->bp->a_ (Out×WP×bp)}{c:Code}{ro:a_ Nat}{o:Out}
 (D:∀I μ F H a w o F' H',step F H=some (o,F',H')->eV I μ n F a.tmps->di I μ H w->kS B a.defers w->B<=w.heap.size->c.wpIn (fr ro) 0 P (Post B n I μ H w o F' H') a w)
 {k:Nat}(h:lQ step k F H=some (o,F',H'))(r:eV I μ n F a.tmps)(s:di I μ H w)(m:kS B a.defers w)(i:B<=w.heap.size):
 (Code.loop c).wpIn (fr ro) 0 P (Post B n I μ H w o F' H') a w:=by
 let b:Nat->Act->World->Prop:=λk u w'=>∃I1 J F1 H1,lQ step k F1 H1=some (o,F',H')/\eV I1 J n F1 u.tmps/\di I1 J H1 w'/\Step I μ H w I1 J H1 w'/\kS B u.defers w'/\B<=w'.heap.size
 let M:Act->World->Nat:=λu w'=>least (λk=>b k u w')
 have d:∀k u w',b k u w'->b (M u w') u w'/\M u w'<=k:=λk u w' hi=>O_ (λk=>b k u w') hi
 refine wpIn_loop (λu w'=>∃k,b k u w') M ⟨k,I,μ,F,H,h,r,s,.refl _ _ _ _,m,i⟩ ?_
 rintro a1 S ⟨k1,T⟩;have⟨hi,_⟩:=d k1 a1 S T;generalize q:M a1 S=kk at hi;have⟨I1,J,F1,H1,L,r1,O,C,Y,G⟩:=hi
 cases kk with
 |zero=>simp[lQ]at L|succ kk=>
  simp only[lQ]at L;split at L
  next Z H2 U=>refine wpIn_mono (D I1 J F1 H1 a1 S .norm Z H2 U r1 O Y G) ?_;rintro e a2 Q ⟨rfl,⟨I2,j,r2,l,st2⟩,p⟩;show(∃k,b k a2 Q)/\M a2 Q<kk+1;have z:b kk a2 Q:=⟨I2,j,Z,H2,L,r2,l,Step.trans O C st2,p,le_trans G st2.size⟩;exact⟨⟨kk,z⟩,Nat.lt_succ_of_le (d kk a2 Q z).2⟩
  rename_i W;refine wpIn_mono (D I1 J F1 H1 a1 S o F' H' L r1 O Y G) ?_;intro e a2 Q hp;have X:o≠.norm:=by rintro rfl;exact W F' H' L
  obtain⟨rfl,f,g⟩:=hp
  cases o with
  |norm=>exact absurd rfl X|exit id=>exact Post.mono O C ⟨rfl,f,g⟩|ret=>exact Post.mono O C ⟨rfl,f,g⟩
end
end Go.VE
namespace Go.VE
variable[b8]
section
variable{P:Program}{E:Env}{I I':cE}{μ μ':Mu}{H H':bp}{n B:Nat}{F F':WP}{a:Act}{w w':World}
def Cq(s:di I μ H w){id:Nat}{r:xB}(h:H[id]?=some (.loop r)):∃p l,μ id=some p/\I p.b=none/\w.heap[p.b]?=some (.loop l)/\xz I μ r l:=s.obs id _ h
def J9{p:a_ Out}(hp:p≠some .norm):(p.bind mc=none->p.getD .norm=.norm)/\(∀c,p.bind mc=some c->(c=.ret/\p.getD .norm=.ret)\/∃id,c=.exit id/\p.getD .norm=.exit id):=by cases p with|none=>grind|some o=>cases o with|norm=>grind|ret=>exact⟨by simp[mc],by simp[mc]⟩|exit id=>exact⟨by simp[mc],by simp[mc]⟩
def Ly{call:dL}(hc:lZ P call){g:UV}{ps:Array Tmp}{assign body:Code}{o:Out}{lf:Nat}
 (h:exec E call lf false n (.rangeFunc g ps assign body) F H=some (o,F',H'))(r:eV I μ n F a.tmps)(s:di I μ H w)(m:kS B a.defers w)(hB:B<=w.heap.size):
 (Code.rangeFunc g ps assign body).wpIn (fr none) 0 P (Post B n I μ H w o F' H') a w:=by
 cases t:ev F g with
 |none=>simp[exec,t]at h|some gv=>
 cases gv with
 |clo f x y=>
  simp[exec,t]at h;split at h
  .rename_i an H2 O;split at h
   .rename_i r2 G;have Y:r2.st≠.busy/\r2.pend.getD .norm=o/\F=F'/\H2.set H.length .dead=H':=by
     grind
    obtain⟨Y,rfl,rfl,rfl⟩:=Y;have⟨u,v,eg,hu,hv⟩:=(dM r t).kU;refine wpIn_rangeFunc λC _=>?_
    have Z:∀b,b<w.heap.size->(w.alloc (.deferred (some []))).heap[b]?=w.heap[b]?:=λb hb=>mW _ b hb
    have A:=s.kept Z;have ae:Step I μ H w I μ H (w.alloc (.deferred (some []))):=Step.kept Z Zab rfl ⟨rfl,rfl,le_refl _⟩ (λa _=>Ra (tq rfl) a)
    have af:xz I μ ⟨.ready,none,F,n,ps.toList,assign,body⟩ {state:=.ready,pending:=none,fn:=C,tmps:=a.tmps,params:=ps,assign,body,defers:=w.heap.size}:=⟨trivial,rfl,Zab,r,rfl,rfl,rfl⟩
    have⟨N,st2⟩:=A.push (ob:=.loop ⟨.ready,none,F,n,ps.toList,assign,body⟩)
     (o:=.loop {state:=.ready,pending:=none,fn:=C,tmps:=a.tmps,params:=ps,assign,body,defers:=w.heap.size}) (p:=⟨w.heap.size+1,0,0,0⟩) Zab
     ⟨_,_,Mu.gP _ _ _,by have:=A.AK;simp_all,by have:=nZ (w:=w.alloc (.deferred (some []))) (.loop {state:=.ready,pending:=none,fn:=C,tmps:=a.tmps,params:=ps,assign,body,defers:=w.heap.size});simp_all,
      af.mono (cE.le_refl _) (Mu.sJ (A.dom _ (le_refl _)))⟩
    have Q:=(hu.mono (cE.le_refl _) st2.mu).append (.cons (.yld H.length ⟨w.heap.size+1,0,0,0⟩ (Mu.gP _ _ _)) (hv.mono (cE.le_refl _) st2.mu))
    have⟨hf,J⟩:=hc.fn f _ _ _ _ O;refine⟨w.heap.size+1,[{target:=.collected w.heap.size,args:=#[]}],((w.alloc (.deferred (some []))).alloc (.loop {state:=.ready,pending:=none,fn:=C,tmps:=a.tmps,params:=ps,assign,body,defers:=w.heap.size})),{target:=.fn (.func f) v,args:=u++#[.func (.yield (w.heap.size+1)) #[] #[]]},((w.alloc (.deferred (some []))).alloc (.loop {state:=.ready,pending:=none,fn:=C,tmps:=a.tmps,params:=ps,assign,body,defers:=w.heap.size})),f,u++#[.func (.yield (w.heap.size+1)) #[] #[]]++v,((w.alloc (.deferred (some []))).alloc (.loop {state:=.ready,pending:=none,fn:=C,tmps:=a.tmps,params:=ps,assign,body,defers:=w.heap.size})),
     run_enterLoop_outer C a.tmps ps assign body,?_,λ_ _=>trivial,?_,λh=>by simp[fr]at h,?_⟩
    .simp[resolve];rw[eg];simp[Deferred.ofValue,Act.eval]
    .exact zd hf _
    have aa:=J _ _ _ _ N Q;have S:(u.toList++.func (.yield (w.heap.size+1)) #[] #[]::v.toList).toArray=u++#[.func (.yield (w.heap.size+1)) #[] #[]]++v:=Zac
    rw[S]at aa;refine aa.mono ?_;rintro e j ⟨am,R,K,rfl,_,M,T⟩;have⟨p,l,g1,g2,g3,g4⟩:=Cq M G;have hp:p=⟨w.heap.size+1,0,0,0⟩:=by have:=T.mu _ _ (Mu.gP μ H.length ⟨w.heap.size+1,0,0,0⟩);grind
    subst hp;have L:l.state≠.busy:=by intro he;have:=g4.st;rw[he]at this;cases ah:r2.st<;>rw[ah]at this<;>simp[Dp.is]at this;grind
    refine⟨l.pending,_,run_endLoop g3 L,?_⟩;have⟨s4,ai⟩:=M.kill G;have U:¬iV K (H2.set H.length .dead) (w.heap.size+1):=by rintro⟨id,q,ob,i,k,W,h4⟩;by_cases e:id=H.length;subst e;rw[List.getElem?_set_self (ζe.1 G).1]at i;cases i;simp[Ob.live]at k;rw[List.getElem?_set_ne (Ne.symm e)]at i;exact e (M.inj id H.length ob _ q _ i G k rfl W g1 h4)
    have s5:di R K (H2.set H.length .dead) (gG j (w.heap.size+1) (.loop {l with state:=.exhausted})):=s4.Cx _ g2 U;have st:=Step.trans A ae (Step.trans N st2 (Step.trans M T ai));have aj:Step I μ H w R K (H2.set H.length .dead) (gG j (w.heap.size+1) (.loop {l with state:=.exhausted})):=st.after _ Zaa
    have m2:kS B ({target:=.collected w.heap.size,args:=#[]}::a.defers) ((w.alloc (.deferred (some []))).alloc (.loop {state:=.ready,pending:=none,fn:=C,tmps:=a.tmps,params:=ps,assign,body,defers:=w.heap.size})):=by refine⟨?_,?_⟩;intro d hd;rcases mem_cons.1 hd with rfl|hd;refine⟨w.heap.size,rfl,hB,?_⟩;rw[mW _ _ Zab];exact nZ _;have⟨q,i,k,W⟩:=m.all d hd;have X:=(Array.getElem?_eq_some_iff.1 W).1;refine⟨q,i,k,?_⟩;rw[mW _ _ (by simp;omega),mW _ _ X];exact W;refine List.Pairwise.cons ?_ m.apart;intro d hd q X ab;have⟨q2,i,k,W⟩:=m.all d hd;have:=(Array.getElem?_eq_some_iff.1 W).1;cases X;rw[i]at ab;cases ab;omega
    have m3:=m2.step N T;have m5:kS B ({target:=.collected w.heap.size,args:=#[]}::a.defers) (gG j (w.heap.size+1) (.loop {l with state:=.exhausted})):=m3.Cx (λq X e=>by subst e;rw[g3]at X;cases X)
    have ak:=st.le;have al:=st.mu;have z:∀D:Out,r2.pend.getD .norm=D->Post B n I μ H w D F (H2.set H.length .dead) D.Ka {a with defers:=[{target:=.collected w.heap.size,args:=#[]}]++a.defers} (gG j (w.heap.size+1) (.loop {l with state:=.exhausted})):=λD _=>⟨rfl,⟨R,K,r.mono ak al,s5,aj⟩,m5⟩
    obtain⟨W5,ad⟩:∃W5,j.putObj (w.heap.size+1) (.loop {l with state:=.exhausted})=W5:=⟨_,rfl⟩;have z:∀D:Out,r2.pend.getD .norm=D->Post B n I μ H w D F (H2.set H.length .dead) D.Ka {a with defers:=[{target:=.collected w.heap.size,args:=#[]}]++a.defers} W5:=by intro D ho;rw[<-ad];exact z D ho
    rw[ad];have⟨k1,k2⟩:=J9 g4.pendOk;rw[g4.pend]
    cases V:r2.pend.bind mc with
    |none=>rw[k1 V];exact z .norm (k1 V)|some c=>
     rcases k2 c V with⟨rfl,e⟩|⟨id,rfl,e⟩
     .rw[e];exact wpIn_ret (z .ret e)
     rw[e];exact wpIn_exit (z (.exit id) e)
   grind
  grind
 |_=>simp[exec,t]at h
def z_(f:eZ P E)(i:P.follows .mixedOrders=true){call:dL}(d:lZ P call)(lf:Nat)(ro:a_ Nat)(U:X')(k:U=ro.isSome)(n:Nat):
 ∀(c:Code)(I:cE)(μ:Mu)(F:WP)(H:bp)(a:Act)(w:World)(o:Out)(F':WP)(H':bp),exec E call lf U n c F H=some (o,F',H')->eV I μ n F a.tmps->di I μ H w->
  kS B a.defers w->B<=w.heap.size->c.wpIn (fr ro) 0 P (Post B n I μ H w o F' H') a w:=by
 intro c
 induction c with
 |skip=>intro I μ F H a w o F' H' h r s m _;obtain⟨rfl,rfl,rfl⟩:=h;exact wpIn_skip ⟨rfl,⟨I,μ,r,s,.refl _ _ _ _⟩,m⟩|label l=>intro I μ F H a w o F' H' h r s m _;obtain⟨rfl,rfl,rfl⟩:=h;exact wpIn_label ⟨rfl,⟨I,μ,r,s,.refl _ _ _ _⟩,m⟩|region id ops X=>
  intro I μ F H a w o F' H' h r s m _;simp only[exec,ζf]at h;obtain⟨⟨p,H2⟩,h,rfl,rfl,rfl⟩:=h;refine Kg f i d ro h r s (λa' I' μ' w' b z C Y=>⟨rfl,⟨I',μ',b,C,Y⟩,?_⟩)
  rw[z];exact m.step s Y
 |seq x y D G=>
  intro I μ F H a w o F' H' h r s m u;simp[exec]at h;refine wpIn_seq ?_;split at h
  next F1 H1 b=>refine wpIn_mono (D I μ F H a w _ F1 H1 b r s m u) ?_;rintro e a1 J ⟨rfl,⟨I1,j,r1,Z,L⟩,m1⟩;refine wpIn_mono (G I1 j F1 H1 a1 J o F' H' h r1 Z m1 (le_trans u L.size)) ?_;intro e a2 q hp;exact Post.mono Z L hp
  refine wpIn_mono (D I μ F H a w o F' H' h r s m u) ?_;rintro e a1 J ⟨rfl,z,C⟩
  cases o with
  |norm=>grind|exit id=>exact⟨rfl,z,C⟩|ret=>exact⟨rfl,z,C⟩
 |cond c x y D G=>
  intro I μ F H a w o F' H' h r s m u;simp[exec]at h;split at h
  .rename_i t S;have T:=(dM r S).tv;refine wpIn_cond T ?_
   grind
  grind
 |block id c Q=>
  intro I μ F H a w o F' H' h r s m u;simp[exec]at h;refine wpIn_block ?_;split at h
  .rename_i O F1 H1 b;refine wpIn_mono (Q I μ F H a w _ F1 H1 b r s m u) ?_;rintro e a1 J ⟨rfl,z,C⟩;show Exit.inBlock id _ (.exit O) a1 J;unfold Exit.inBlock;split at h
   next W=>obtain⟨rfl,rfl,rfl⟩:=h;simp[W];exact⟨rfl,z,C⟩
   rename_i W;obtain⟨rfl,rfl,rfl⟩:=h;simp[W];exact⟨rfl,z,C⟩
  refine wpIn_mono (Q I μ F H a w o F' H' h r s m u) ?_;rintro e a1 J ⟨rfl,z,C⟩
  cases o with
  |norm=>exact⟨rfl,z,C⟩|exit O=>grind|ret=>exact⟨rfl,z,C⟩
 |loop c Q=>intro I μ F H a w o F' H' h r s m u;exact N7 (λI μ F H a w o F' H' h r s m u=>Q I μ F H a w o F' H' h r s m u) h r s m u|rangeFunc g ps assign body _ _=>
  intro I μ F H a w o F' H' h r s m u
  cases U with
  |true=>simp[exec]at h|false=>
   cases ro with
   |none=>exact Ly d h r s m u|some l=>simp_all
 |exit id=>intro I μ F H a w o F' H' h r s m _;obtain⟨rfl,rfl,rfl⟩:=h;exact wpIn_exit ⟨rfl,⟨I,μ,r,s,.refl _ _ _ _⟩,m⟩|ret=>intro I μ F H a w o F' H' h r s m _;obtain⟨rfl,rfl,rfl⟩:=h;exact wpIn_ret ⟨rfl,⟨I,μ,r,s,.refl _ _ _ _⟩,m⟩|scope body _=>intro I μ F H a w o F' H' h;simp[exec]at h|goto l=>intro I μ F H a w o F' H' h;simp[exec]at h|refuse ab=>intro I μ F H a w o F' H' h;simp[exec]at h
end
def tV{f g:V->a_ V}(h:∀x y,f x=some y->g x=some y):∀{l:T2}{r:T2},je f l=some r->je g l=some r
 |[],_,hr=>hr|x::l,r,hr=>by simp only[je]at hr⊢;split at hr;(next y s a B=>rw[h _ _ a,tV h B];exact hr);cases hr
def Jk{f g:V->a_ V}(h:∀x y,f x=some y->g x=some y):∀{l:T'}{r:T'},mO f l=some r->mO g l=some r
 |[],_,hr=>hr|x::l,r,hr=>by simp only[mO]at hr⊢;split at hr;(next y s a B=>rw[tV h a,Jk h B];exact hr);cases hr
def JC{f g:V->a_ V}(h:∀x y,f x=some y->g x=some y):∀{l:aZ (V×V)}{r:aZ (V×V)},mH f l=some r->mH g l=some r
 |[],_,hr=>hr|(k,x)::l,r,hr=>by simp only[mH]at hr⊢;split at hr;(next y s u a B D=>rw[h _ _ a,h _ _ B,JC h D];exact hr);cases hr
def Mc{H:bp}:∀(n:Nat)(x y:V),borrow n H x=some y->borrow (n+1) H x=some y:=by intro n;induction n with|zero=>intro x y h;simp only[borrow]at h;split at h;(next d=>rw[k_ _ _ d];exact h);cases h|succ n w=>intro x y h;unfold borrow at h⊢;split;(next d=>rw[if_pos d]at h;exact h);rename_i d;rw[if_neg d]at h;cases x with|hsl id es off len=>simp only at h⊢;split at h;split at h;(next q=>rw[if_pos q];have⟨r,c,u⟩:=ζf.1 h;rw[Jk w c];exact congrArg some u);cases h;cases h|hptr id el off=>simp only at h⊢;split at h;split at h;split at h;(next q=>rw[if_pos q];have⟨r,c,u⟩:=ζf.1 h;rw[tV w c];exact congrArg some u);cases h;cases h;cases h|hmap id=>simp only at h⊢;split at h;have⟨r,c,u⟩:=ζf.1 h;rw[JC w c];exact congrArg some u;cases h|clo f a b=>simp only at h⊢;split at h;(next c u=>rw[tV w c,tV w u];exact h);cases h|agg cs=>simp only at h⊢;have⟨r,c,u⟩:=ζf.1 h;rw[tV w c];exact congrArg some u|tup cs=>simp only at h⊢;have⟨r,c,u⟩:=ζf.1 h;rw[tV w c];exact congrArg some u|_=>cases h
def tR{H:bp}{n m:Nat}(h:n<=m){x y:V}(B:borrow n H x=some y):borrow m H x=some y:=by induction h with|refl=>exact B|step _ u=>exact Mc _ _ _ u
def uh{H:bp}{n m:Nat}(h:n<=m){l r:T2}(B:borrows n H l=some r):borrows m H l=some r:=tV (λ_ _=>tR h) B
def DD{f g:V->S'}:∀{l:T2},(∀x∈l,f x=g x)->c9 f l=c9 g l
 |[],_=>rfl|x::l,h=>by simp only[c9];rw[h x (mem_cons_self ..),DD λy B=>h y (mem_cons_of_mem _ B)]
def qS{f:V->a_ V}:∀{l r:T2},je f l=some r->∀x∈l,∃y,f x=some y
 |[],_,_,x,b=>by cases b|a::l,r,h,x,b=>by simp only[je]at h;split at h;rename_i y s c B;rcases mem_cons.1 b with rfl|b;exact⟨y,c⟩;exact qS B x b;cases h
def Hl{f:V->a_ V}:∀{l r:T'},mO f l=some r->∀c∈l,∀x∈c,∃y,f x=some y
 |[],_,_,x,B=>by cases B|a::l,r,h,c,b=>by simp only[mO]at h;split at h;rename_i y s d D;rcases mem_cons.1 b with rfl|b;exact qS d;exact Hl D c b;cases h
def Br{f:V->a_ V}:∀{l r:aZ (V×V)},mH f l=some r->∀c∈l,(∃y,f c.1=some y)/\∃y,f c.2=some y
 |[],_,_,x,B=>by cases B|(k,a)::l,r,h,c,b=>by simp only[mH]at h;split at h;rename_i y s u d D G;rcases mem_cons.1 b with rfl|b;exact⟨⟨y,d⟩,s,D⟩;exact Br G c b;cases h
def Pa{H:bp}:∀(n:Nat)(x y:V),borrow n H x=some y->cw (n+1) H x=cw n H x:=by
 intro n
 induction n with
 |zero=>intro x y h;simp only[borrow]at h;split at h;(next e=>simp[cw,e]);cases h|succ n I=>
  intro x y h;have u:∀l:T2,(∀x∈l,∃y,borrow n H x=some y)->c9 (cw (n+1) H) l=c9 (cw n H) l:=λl J=>DD λx w=>by have⟨y,L⟩:=J x w;exact I x y L
  unfold borrow at h;rw[cw.eq_def (n+1+1),cw.eq_def (n+1)];simp only;split;rfl;rename_i e;rw[if_neg e]at h
  cases x with
  |hsl id es off len=>simp only at h⊢;cases g:(H[id]?).bind Ob.rows with|none=>rfl|some q=>have⟨C,O⟩:=q;rw[g]at h;simp only at h⊢;split at h;have⟨r,d,z⟩:=ζf.1 h;rw[u _ λx w=>by have⟨c,e,D⟩:=List.mem_flatten.1 w;exact Hl d c e x D];cases h
  |hptr id el off=>simp only at h⊢;cases g:(H[id]?).bind Ob.rows with|none=>rfl|some q=>have⟨C,O⟩:=q;rw[g]at h;simp only at h⊢;split at h;rename_i cs G;split at h;have⟨r,d,z⟩:=ζf.1 h;rw[u _ λx w=>qS d x (by rw[G]at w;exact w)];cases h;cases h
  |hmap id=>
   simp only at h⊢;split at h;rename_i B i;have⟨r,d,z⟩:=ζf.1 h;skip;rw[u (B.map (·.1)) λx w=>by obtain⟨c,e,rfl⟩:=mem_map.1 w;exact(Br d c e).1,
    u (B.map (·.2)) λx w=>by obtain⟨c,e,rfl⟩:=mem_map.1 w;exact(Br d c e).2]
   cases h
  |clo f a b=>simp only at h⊢;split at h;(next d z=>rw[u _ (qS d),u _ (qS z)]);cases h|agg cs=>simp only at h⊢;have⟨r,d,z⟩:=ζf.1 h;exact u _ (qS d)|tup cs=>simp only at h⊢;have⟨r,d,z⟩:=ζf.1 h;exact u _ (qS d)|_=>rfl
def R5{H:bp}{n m:Nat}(h:n<=m){x y:V}(B:borrow n H x=some y):cw m H x=cw n H x:=by induction h with|refl=>rfl|step h u=>rw[Pa _ _ _ (tR h B),u]
def Aj{H:bp}{n m:Nat}(h:n<=m){l r:T2}(B:borrows n H l=some r):c9 (cw m H) l=c9 (cw n H) l:=DD λx u=>by have⟨y,w⟩:=qS B x u;exact R5 h w
def pR{f g h:V->a_ V}(k:∀x y z,f x=some y->g x=some z->h x=some z):∀{l r s:T2},je f l=some r->je g l=some s->je h l=some s
 |[],_,_,_,B=>B|x::l,r,s,hr,B=>by simp only[je]at hr B⊢;split at hr;rename_i a D;split at B;(next G J=>rw[k _ _ _ a G,pR k D J];exact B);cases B;cases hr
def EM{f g h:V->a_ V}(k:∀x y z,f x=some y->g x=some z->h x=some z):∀{l r s:T'},mO f l=some r->mO g l=some s->mO h l=some s
 |[],_,_,_,B=>B|x::l,r,s,hr,B=>by simp only[mO]at hr B⊢;split at hr;rename_i a D;split at B;(next G J=>rw[pR k a G,EM k D J];exact B);cases B;cases hr
def EI{f g h:V->a_ V}(k:∀x y z,f x=some y->g x=some z->h x=some z):∀{l r s:aZ (V×V)},mH f l=some r->mH g l=some s->mH h l=some s
 |[],_,_,_,B=>B|(a,x)::l,r,s,hr,B=>by simp only[mH]at hr B⊢;split at hr;rename_i b D G;split at B;(next J U W=>rw[k _ _ _ b J,k _ _ _ D U,EI k G W];exact B);cases B;cases hr
def LD{H H2:bp}:∀(n m:Nat)(x y z:V),borrow n H x=some y->borrow m H2 x=some z->(∀id:Nat,(H2[id]?).isSome=true->H2[id]?=H[id]?)->borrow n H2 x=some z:=by intro n;induction n with|zero=>intro m x y z h k _;simp only[borrow]at h;split at h;(next e=>rw[k_ _ _ e]at k⊢;exact k);cases h|succ n G=>intro m x y z h k w;by_cases e:x.closed=true;rw[k_ _ _ e]at k⊢;exact k;cases m with|zero=>simp only[borrow,if_neg e]at k;cases k|succ m=>have u:∀x y z,borrow n H x=some y->borrow m H2 x=some z->borrow n H2 x=some z:=λx y z a b=>G m x y z a b w;unfold borrow at h k⊢;rw[if_neg e]at h k⊢;have row:∀id q,(H2[id]?).bind Ob.rows=some q->(H[id]?).bind Ob.rows=some q:=λid q B=>(by rw[<-w id (by cases C:H2[id]?with|none=>rw[C]at B;cases B|some _=>rfl)];exact B);cases x with|hsl id es off len=>simp only at h k⊢;split at k;rename_i d;rw[row _ _ d]at h;simp only at h;split at k;(next q=>rw[if_pos q]at h⊢;have⟨r,c,_⟩:=ζf.1 h;have⟨s,k1,k2⟩:=ζf.1 k;rw[EM u c k1];exact congrArg some k2);cases k;cases k|hptr id el off=>simp only at h k⊢;split at k;rename_i d;rw[row _ _ d]at h;simp only at h;split at k;rename_i D;rw[D]at h;simp only at h;split at k;(next q=>rw[if_pos q]at h⊢;have⟨r,c,_⟩:=ζf.1 h;have⟨s,k1,k2⟩:=ζf.1 k;rw[pR u c k1];exact congrArg some k2);cases k;cases k;cases k|hmap id=>simp only at h k⊢;split at k;rename_i d;rw[<-w id (by rw[d];rfl),d]at h;simp only at h;have⟨r,c,_⟩:=ζf.1 h;have⟨s,k1,k2⟩:=ζf.1 k;rw[EI u c k1];exact congrArg some k2;cases k|clo f a b=>simp only at h k⊢;split at h;rename_i c C;split at k;(next k1 k2=>rw[pR u c k1,pR u C k2];exact k);cases k;cases h|agg cs=>simp only at h k⊢;have⟨r,c,_⟩:=ζf.1 h;have⟨s,k1,k2⟩:=ζf.1 k;rw[pR u c k1];exact congrArg some k2|tup cs=>simp only at h k⊢;have⟨r,c,_⟩:=ζf.1 h;have⟨s,k1,k2⟩:=ζf.1 k;rw[pR u c k1];exact congrArg some k2|_=>cases h
end Go.VE
namespace Go.VE
variable[b8]
open Go.Proofs Go.Sort
structure CH(P:Program)(f:FuncId):Prop where
 ok:Au P f
 zero:∀(p:Option Addr)(cap:Nat)(fv:Value)(w:World),Calls P f #[.slice p 0 cap,fv] w λe w'=>e=.returned (.tuple #[])/\w'=w
 all:∀{α:Type}[Inhabited α](enc:α->Value)(_:OneCell enc)(cf:α->α->Int)(_:SWO (ltOf cf))(g:Nat)(cb:Array Value)(blk off cap:Nat)(d:Array α)(w:World)
  (_:∀args w,(callFunc g args).run P w=.ok (.enter g args) w)(_:CmpLays1 P g cb enc cf blk off d.size w)(_:Holds enc w blk off d)(_:blk<w.heap.size)(_:d.size<4611686018427387904),
  Calls P f #[.slice (some ⟨blk,off,none⟩) d.size cap,.func (.func g) #[] cb] w λe w'=>e=.returned (.tuple #[])/\∃n os,w'=sortWorld enc w blk off n (pdq (ltOf cf) d 0 d.size (Lib.bitLen d.size) true true) os
def MM{α:Type}[Inhabited α](lt:α->α->X'):∀(k i:Nat)(d:Array α),Ke lt k i d=insOuter lt 0 (i+k) i d
 |0,i,d=>by rw[insOuter];simp[Ke]|k+1,i,d=>by rw[insOuter,Ke,MM lt k];grind
def DW(n:Nat)(lt:Fin (n+1)->Fin (n+1)->X'):rK n lt=pdq lt (finRange (n+1)).toArray 0 (n+1) (Lib.bitLen (n+1)) true true:=by unfold rK;split;rw[pdq,if_pos Zaa,insertionSort,MM,Nat.add_comm 1 n];rfl
def rW{n:Nat}{t:Fin (n+1)->Fin (n+1)->QQ}(h:CE t=true):(∀i j,∃c,t i j=some c)/\SWO (qG t):=by have u:∀(p:Fin (n+1)->X'),(finRange (n+1)).all p=true->∀i,p i=true:=λp h i=>List.all_eq_true.1 h i (List.mem_finRange i);have d:=λi=>u _ h i;simp only[ζh,Bool.not_eq_true']at d;have w:=λi j=>u _ (d i).2 j;simp only[ζh]at w;have z:=λi j k=>u _ (w i j).2 k;refine⟨λi j=>Option.isSome_iff_exists.1 (w i j).1,λi=>(d i).1,λi j k a b=>?_,λi j k a b=>?_⟩;have:=z i j k;grind;grind
section
variable{P:Program}{I I':cE}{μ μ':Mu}{H H':bp}{w w':World}
def HI(w:World)(os:Array Obj)(b:Nat)(h:b<w.heap.size):(grow w os).heap[b]?=w.heap[b]?:=by unfold grow;grind
def Calls.fr{f:Y'}{args:Array V'}{R:Ending->World->Prop}(h:Calls P f args w R):CallsIn (fr none) 0 P f args w R:=callsIn_wide.2 h
def CallsIn.un{f:Y'}{args:Array V'}{R:Ending->World->Prop}(h:CallsIn (fr none) 0 P f args w R):Calls P f args w R:=callsIn_wide.1 h
def SL{p:Pl}{c:Array V'}{xs:T'}(B:p.es=1)(D:c.size=p.sz)(g:p.o+xs.length<=c.size)
 (h:∀(i:Nat)x,xs[i]?=some x->∃v u,x=[v]/\V.one v=true/\c[p.o+i]?=some u/\bN I μ v u):gN I μ p c 1 xs:=by
 have d:∀x∈xs,x.length=1:=λx w=>by have⟨i,hi⟩:=List.getElem?_of_mem w;grind
 have C:xs.flatten.length=xs.length:=by rw[gC d,mul_one]
 refine⟨B,D,d,λx w y G=>?_,Zaa,⟨?_,λj a b f J=>?_⟩⟩
 .have⟨i,hi⟩:=List.getElem?_of_mem w
  grind
 .grind
 have z:j<xs.length:=by have:=(ζe.1 f).1;omega
 have⟨v,u,e,_,L,O⟩:=h j xs[j] (by simp[z])
 have:=ye d (i:=j) (j:=0) (x:=xs[j]) (by simp[z]) (by rw[e];rfl)
 simp_all
def xI{p:Pl}{c:Array V'}{xs:T'}(r:gN I μ p c 1 xs)(i:Nat){x:T2}(h:xs[i]?=some x):∃v u,x=[v]/\V.one v=true/\c[p.o+i]?=some u/\bN I μ v u:=by
 have w:=List.mem_of_getElem? h;obtain⟨v,rfl⟩:=List.length_eq_one_iff.1 (r.qE x w);have hi:=(ζe.1 h).1;have z:=by have:=r.room;omega
 refine⟨v,c[p.o+i],rfl,r.one _ w v Zab,Zad,?_⟩;exact r.idx (j:=0) h rfl Zad
def Xe{α:Type}[Inhabited α](enc:α->V')(a o m:Nat)(B:Array α)(os:Array Obj){b:Nat}(G:b<w.heap.size)(D:b≠a):(sortWorld enc w a o m B os).heap[b]?=w.heap[b]?:=by unfold sortWorld;rw[HI _ _ _ Zad];simp[putRow,mapBlock,Sort.ahead,Array.getElem?_modify,if_neg (Ne.symm D)]
def LN{α:Type}[Inhabited α](enc:α->V'){a:Nat}(o m:Nat)(B:Array α){c:Array V'}{el:W'}(h:w.heap[a]?=some (.cells c el)):
 putRow enc (Sort.ahead w m) a o B=gG (Sort.ahead w m) a (.cells (Sort.putCells enc o B c) el):=by
 unfold putRow mapBlock gG Sort.ahead
 congr 1
 have⟨u,e⟩:=Array.getElem?_eq_some_iff.1 h;apply Array.ext
 .simp
 intro i b z
 by_cases hi:i=a
 .subst hi;simp[Array.getElem_modify,e,onCells]
 grind
def Step.grown(st:Step I (λ_=>none) [] w I' μ' H' w'):∃q os,w'=grow (w.drewN q) os:=by
 refine⟨w'.drawn-w.drawn,w'.heap.extract w.heap.size w'.heap.size,?_⟩;have u:w'.heap=w.heap++w'.heap.extract w.heap.size w'.heap.size:=by apply Array.ext_getElem?;intro i;by_cases hi:i<w.heap.size;rw[Array.getElem?_append_left hi];exact st.frame i hi (by rintro⟨id,p,ob,h,_⟩;simp at h);rw[Array.getElem?_append_right Zaa];simp[Array.getElem?_extract];by_cases C:i<w'.heap.size;rw[if_pos Zaa];congr 1;omega;rw[if_neg Zaa,Array.getElem?_eq_none Zaa]
 have a:=st.os;have z:=st.out.out;have B:=st.out.tape;have D:=st.out.dr;unfold grow World.drewN;cases w';simp only at *;subst a z B;simp[World.mk.injEq];exact⟨u,Zaa⟩
def NM{call B:dL}{g:Y'}{G D:T2}{n:Nat}(h:∀args y,ct call g args []=some y->ct B g args []=some y){i j:Fin (n+1)}{z:Int}(J:jE call g G D n i j=some z):jE B g G D n i j=some z:=by unfold jE at J⊢;grind
def El{keep:Y'->X'}{call B:dL}(G:call.lv<=B.lv)(h:∀g args y,keep g=false->ct call g args []=some y->ct B g args []=some y){args:T2}{r:V×bp}(b:rS keep call args H=some r):rS keep B args H=some r:=by
 unfold rS at b⊢;split at b;split at b;omega;omega;split at b;omega;split at b;rename_i n g cb _ O S I;split at b;rename_i u;split at b;rename_i J w D C;rw[uh G D,uh G C];split at b;rename_i Q;have e:jE B g J w n=jE call g J w n:=by funext i j;have⟨z,L⟩:=(rW Q).1 i j;rw[L];exact NM (λa y=>h g a y u.2.2.2.2) L
 grind;simp_all;simp_all;simp_all;simp_all;simp_all;simp_all;simp_all
set_option maxHeartbeats 1000000 in
def Vt{call:dL}(hc:lZ P call){f:Y'}(hs:CH P f){args:T2}{r:V}{keep:Y'->X'}(h:rS keep call args H=some (r,H'))(s:di I μ H w){vs:aZ V'}(hv:cU I μ args vs):
 CallsIn (fr none) 0 P f vs.toArray w (z7 I μ H w r H'):=by
 unfold rS at h;split at h
 .rename_i sv cv;obtain⟨v1,r1,rfl,M,aD⟩:=hv.cons_inv;obtain⟨v2,r2,rfl,aE,aF⟩:=aD.cons_inv;obtain rfl:=aF.xC;have U:∀p l,v1=.slice p 0 l->CallsIn (fr none) 0 P f [v1,v2].toArray w (z7 I μ H w .undef H):=by
   rintro p l rfl;refine Calls.fr ((hs.zero p l v2 w).mono ?_);rintro e w' ⟨rfl,rfl⟩;exact⟨_,I,μ,rfl,bN.undef _ _,s,Step.refl _ _ _ _⟩
  split at h
  .cases h;exact U none 0 M.nj
  .cases h;have⟨a,e⟩:=M.tH;exact U a 0 e
  .rename_i id es off len;split at h
   .cases h;rcases M.ni with⟨p,l,_,_,_,_,e⟩|⟨_,a,e⟩
    .exact U _ l e
    exact U _ 0 e
   .rename_i n g cb;split at h
    .rename_i aT Q L;split at h
     .rename_i al;obtain⟨rfl,rfl,aR,hn,_⟩:=al;split at h
      .rename_i Z D aG aq;split at h
       .rename_i ar;cases h;have⟨p,c,el,hp,hI,J,S⟩:=s.obs id _ L;rcases M.ni with⟨q,l,hq,aU,aS,aH,rfl⟩|⟨h0,_⟩
        .rw[hp]at hq;cases hq;obtain⟨va,F,rfl,R,au⟩:=aE.kU;have av:va=#[]:=by have:=R.xC;simpa using this
         subst av;have am:=(ζe.1 L).1;have⟨t,_⟩:=s.kill L;generalize hT:c9 (cw call.lv (H.set id .dead)) (((Q.drop off).take (n+1)).flatten++cb)=T;have aI:plus I μ (H.set id .dead) w T p.b=none:=by cases B:plus I μ (H.set id .dead) w T p.b with|none=>rfl|some x=>exfalso;rcases An (by rw[B];rfl)with h|⟨aw,p',ob,_,g1,g2,g3,g4⟩;rw[hI]at h;cases h;have ax:aw≠id:=(by rintro rfl;rw[List.getElem?_set_self am]at g1;cases g1;simp[Ob.live]at g2);rw[List.getElem?_set_ne (Ne.symm ax)]at g1;exact ax (s.inj aw id ob (.row 1 Q) p' p g1 L g2 rfl g3 hp g4)
         let enc:Fin (n+1)->V':=λi=>(c[p.o+off*1+i.1]?).getD undef
         have K:∀i:Fin (n+1),∃v,Q[off+i.1]?=some [v]/\V.one v=true/\bN I μ v (enc i)/\c[p.o+off*1+i.1]?=some (enc i):=λi=>by have⟨v,u,e1,e2,e3,e4⟩:=xI S (off+i.1) (x:=Q[off+i.1]' Zaa) Zab;have e5:c[p.o+off*1+i.1]?=some u:=(by rw[<-e3];congr 1;omega);have e6:enc i=u:=(by show(c[p.o+off*1+i.1]?).getD undef=u;rw[e5];rfl);exact⟨v,by rw[<-e1];simp,e2,by rw[e6];exact e4,by rw[e5,e6]⟩
         have h1:OneCell enc:=λi=>by have⟨v,_,e2,e3,_⟩:=K i;exact e3.one e2
         have⟨ay,ae⟩:=rW ar;have⟨aV,aJ⟩:=jB aG;have⟨aK,aL⟩:=jB aq;have aA:∀x∈(Q.drop off).take (n+1),x.length=1:=λx B=>S.qE x (List.mem_of_mem_drop (List.mem_of_mem_take B))
         have W:∀(i:Fin (n+1))u,Z[i.1]?=some u->eY (plus I μ (H.set id .dead) w T) u (enc i):=λi u hu=>by have⟨x,B,an⟩:=aJ i.1 u hu;have⟨v,e1,_,e3,_⟩:=K i;have e4:((Q.drop off).take (n+1))[i.1]?=some [v]:=(by rw[getElem?_take,if_pos i.2,List.getElem?_drop];exact e1);have e5:=ye (es:=1) aA (i:=i.1) (j:=0) e4 rfl;have e5:((Q.drop off).take (n+1)).flatten[i.1]?=some v:=(by simpa using e5);rw[e5]at B;cases B;refine(wh t T call.lv _ u _ an (λk A=>?_) e3).1;rw[<-hT];exact kZ (List.mem_append_left _ (List.mem_of_getElem? e5)) A
         have ab:cU (plus I μ (H.set id .dead) w T) (λ_=>none) D F.toList:=by refine⟨aK.trans au.1,λj a b k1 k2=>?_⟩;have⟨x,B,an⟩:=aL j a k1;refine .c _ _ (wh t T call.lv x a b an (λk A=>?_) (au.2 j x b B k2)).1;rw[<-hT];exact kZ (List.mem_append_right _ (List.mem_of_getElem? B)) A
         have af:=(Array.getElem?_eq_some_iff.1 J).1
         let d:Array (Fin (n+1)):=(finRange (n+1)).toArray
         have ao:d.size=n+1:=by simp[d]
         have hd:∀j:Fin (n+1),d[j.1]! =j:=λj=>by simp[d,getElem!_pos]
         have hg:∀i j:Fin (n+1),∃z,jE call g Z D n i j=some z/\∃a b,Z[i.1]?=some a/\Z[j.1]?=some b/\ct call g (a::b::D) []=some (.int .i64 z):=λi j=>by have⟨z,N⟩:=ay i j;have X:=N;unfold jE at X;split at X;rename_i a b E Y;split at X;(next z' C=>cases X;exact⟨z,N,a,b,E,Y,C⟩);cases X;cases X
         have aM:Au P g:=by have⟨z,_,a,b,E,Y,C⟩:=hg 0 0;have s0:di (plus I μ (H.set id .dead) w T) (λ_=>none) [] w:=⟨λ_ _=>rfl,vi t T,Zab,Zab,t.gl.mono (qw _ _ _ _ _)⟩;exact(EJ hc C s0 (.cons (.c _ _ (W 0 a E)) (.cons (.c _ _ (W 0 b Y)) ab))).1
         have key:=hs.all enc h1 (λi j=>(jE call g Z D n i j).getD 0) ae g F p.b (p.o+off*1) l d w (λargs w=>zd aM args) (by
          intro m os G aW i j;have⟨z,N,a,b,E,Y,C⟩:=hg i j;have s0:di (plus I μ (H.set id .dead) w T) (λ_=>none) [] (sortWorld enc w p.b (p.o+off*1) m G os):=⟨λ_ _=>rfl,λb x Y=>IC.tG (vi t T b x Y) (Xe enc p.b _ m G os (IC.vP (vi t T b x Y)) (by rintro rfl;rw[aI]at Y;cases Y)),Zab,Zab,t.gl.mono (qw _ _ _ _ _)⟩
          have:=CallsIn.un (EJ hc C s0 (vs:=enc i::enc j::F.toList) (.cons (.c _ _ (W i a E)) (.cons (.c _ _ (W j b Y)) ab))).2;rw[show(enc i::enc j::F.toList).toArray=#[enc i,enc j]++F by apply ext';simp]at this
          refine this.mono ?_;rintro e w' ⟨u,I1,μ1,rfl,hu,s1,st⟩;exact⟨by rw[hu.gp];show _=Ending.returned (.int .i64 ((jE call g Z D n i j).getD 0));rw[N];rfl,st.grown⟩) (by
          intro j hj;have aB:j<n+1:=Zaa
          have⟨v,_,_,_,e4⟩:=K ⟨j,aB⟩;rw[hd ⟨j,aB⟩];exact⟨by rw[xF J];exact e4,by simp[World.frozen?,J]⟩) af Zaa
         rw[ao]at key;refine Calls.fr (key.mono ?_);rintro e w' ⟨rfl,m,os,rfl⟩;have aN:ltOf (λi j=>(jE call g Z D n i j).getD 0)=qG (jE call g Z D n):=rfl
         rw[aN,DW];have ah:=pdq_sorts (qG (jE call g Z D n)) ae d 0 d.size (Lib.bitLen d.size) true true (Nat.zero_le _) (le_refl _) (Or.inl rfl);rw[ao]at ah;have O:=ah.1.1;change z7 I μ H w .undef (H.set id (.row 1 (sQ Q off n (pdq (qG (jE call g Z D n)) d 0 (n+1) (Lib.bitLen (n+1)) true true).toList))) _ _;generalize pdq (qG (jE call g Z D n)) d 0 (n+1) (Lib.bitLen (n+1)) true true=G at O;rw[ao]at O;unfold sortWorld;rw[LN enc _ m G J];have s1:di I μ H (Sort.ahead w m):=s.qq rfl;have aO:Step I μ H w I μ H (Sort.ahead w m):=Step.qq rfl rfl ⟨rfl,rfl,Nat.le_add_right _ _⟩;have ai:(Sort.putCells enc (p.o+off*1) G c).size=c.size:=by simp[Sort.putCells]
         have aj:∀i:Nat,(i<p.o+off*1\/p.o+off*1+(n+1)<=i)->(Sort.putCells enc (p.o+off*1) G c)[i]?=c[i]?:=λi hi=>by simp only[Sort.putCells,Array.getElem?_mapIdx];rw[O];cases c[i]?with|none=>rfl|some y=>simp only[map_some];rw[if_neg Zaa]
         have ap:∀i:Fin (n+1),(Sort.putCells enc (p.o+off*1) G c)[p.o+off*1+i.1]?=some (enc G[i.1]!):=λi=>by have⟨v,_,_,_,e4⟩:=K i;simp only[Sort.putCells,Array.getElem?_mapIdx,e4,map_some];rw[if_pos ⟨Zaa,by rw[O];omega⟩];congr 3;omega
         have aC:=S.room;have aP:(sQ Q off n G.toList).length=Q.length:=by simp[sQ,O];omega
         have⟨s2,st2⟩:=s1.write (o:=.cells (Sort.putCells enc (p.o+off*1) G c) el) (ob':=.row 1 (sQ Q off n G.toList)) L rfl hp
          ⟨p,_,el,hp,hI,jf _ af,SL S.es_eq (by rw[ai];exact S.sz) (by rw[aP,ai];omega) λi x B=>by
           unfold sQ at B
           by_cases c1:i<off
           .rw[List.append_assoc,List.getElem?_append_left (by simp;omega),getElem?_take,if_pos c1]at B
            have⟨v,u,e1,e2,e3,e4⟩:=xI S i B;exact⟨v,u,e1,e2,by rw[aj _ Zaa];exact e3,e4⟩
           by_cases c2:i<off+(n+1)
           .rw[List.getElem?_append_left (by simp[O];omega),List.getElem?_append_right (by simp;omega)]at B
            have ak:i-off<G.size:=Zaa
            have e0:(Q.take off).length=off:=by simp;omega
            simp only[e0,List.getElem?_map,Array.getElem?_toList]at B;rw[Array.getElem?_eq_getElem ak]at B;simp only[map_some,ζa]at B;have⟨v,e1,e2,e3,e4⟩:=K G[i-off];rw[e1]at B;simp only[Option.getD_some]at B;refine⟨v,enc G[i-off],B.symm,e2,?_,e3⟩;have:=ap ⟨i-off,Zaa⟩
            simp only[getElem!_pos G (i-off) ak]at this;rw[<-this];congr 1;omega
           rw[List.getElem?_append_right (by simp[O];omega),List.getElem?_drop]at B
           have e0:off+(n+1)+(i-((Q.take off)++G.toList.map (λi=>(Q[off+i.1]?).getD [])).length)=i:=by simp[O];omega
           rw[e0]at B;have⟨v,u,e1,e2,e3,e4⟩:=xI S i B;exact⟨v,u,e1,e2,by rw[aj _ Zaa];exact e3,e4⟩⟩
         have A:∀b,b<(gG (Sort.ahead w m) p.b (.cells (Sort.putCells enc (p.o+off*1) G c) el)).heap.size->(grow (gG (Sort.ahead w m) p.b (.cells (Sort.putCells enc (p.o+off*1) G c) el)) os).heap[b]?=(gG (Sort.ahead w m) p.b (.cells (Sort.putCells enc (p.o+off*1) G c) el)).heap[b]?:=λb Y=>HI _ _ _ Y
         have aQ:=Step.kept (I:=I) (μ:=μ) (H:=H.set id (.row 1 (sQ Q off n G.toList))) A (by simp[grow]) rfl ⟨rfl,rfl,le_refl _⟩ (λa E h=>by unfold World.frozen? at h⊢;rw[A _ E];exact h)
         exact⟨_,I,μ,rfl,bN.undef _ _,s2.kept A,Step.trans s1 aO (Step.trans s2 st2 aQ)⟩
        cases h0
       cases h
      cases h
     cases h
    cases h
   cases h
  cases h
 cases h
end
def Ds(P:Program)(f:Y')(args:T2)(y:V):Prop:=Au P f/\∀I μ H w u,di I μ H w->cU I μ args u->CallsIn (fr none) 0 P f u.toArray w (z7 I μ H w y H)
def Q0{P:Program}{call:dL}(a:lZ P call){f:Y'}{b:X'}{H':bp}(h:call (.fn f) [] []=some (.bool b,H')):Ds P f [] (.bool b):=by
 have hi:∀H,ct call f [] H=some (.bool b):=by intro H;unfold ct;rw[show borrows call.lv H []=some []from rfl];simp only[h,k_ _ H' (show(V.bool b).closed=true from rfl)];rfl
 refine⟨?_,λI μ H w u s c=>(EJ a (hi H) s c).2⟩;have⟨d,_⟩:=a.fn _ _ _ _ _ h;omega
structure X5(P:Program)(E:Env):Prop where
 sort:∀f,E.sort f=true->CH P f
 known:∀f args y,E.known f args=some y->Ds P f args y
end Go.VE
namespace Go.VE
variable[b8]
section
variable{P:Program}{E:Env}{I I':cE}{μ μ':Mu}{H H':bp}{n B:Nat}{F F':WP}{a:Act}{w w':World}
def Mw:∀(F:WP)(t:Nat),F.length<=t->get F t=.undef
 |[],_,_=>rfl|_::_,0,h=>Zad|_::r,i+1,h=>Mw r i Zac
def JK:∀(F:WP)(t:Nat)(x:V),F[t]?=some x->get F t=x
 |[],_,_,h=>Zad|_::_,0,_,h=>by simpa[get]using h|_::r,i+1,x,h=>JK r i x Zac
def N3(b:vH I){args:T2}{vs:aZ V'}{a:Nat}(h:cU I μ args vs)(B:args.length<=a):
 eV I μ a args (vs.toArray++replicate (a-vs.toArray.size) undef):=by
 have u:=h.1;refine⟨Zad,λt=>?_,b⟩
 by_cases C:t<args.length
 .have h1:args[t]?=some args[t]:=by simp_all
  have w:t<vs.length:=Zaa
  have z:vs[t]?=some vs[t]:=Zad
  rw[JK _ _ _ h1];have:(vs.toArray++replicate (a-vs.toArray.size) undef).getD t undef=vs[t]:=by rw[Array.getD_eq_getD_getElem?,Array.getElem?_append_left Zac];simp_all
  rw[this];exact h.2 t _ _ h1 z
 rw[Mw _ _ Zaa]
 have:(vs.toArray++replicate (a-vs.toArray.size) undef).getD t undef=undef:=by rw[Array.getD_eq_getD_getElem?,Array.getElem?_append_right Zad,Array.getElem?_replicate];grind
 rw[this];exact bN.undef _ _
def Sn(r:eV I μ n F a.tmps){t:Nat}{x:V}{v:V'}(B:t<n)(h:bN I μ x v):eV I μ n (set F t x) (a.tmps.setIfInBounds t v):=by have:=eV.put (dst:=some t) r h (F':=set F t x) (by simp[kO,B]);simpa[Act.put]using this
def C6:∀(ps:S')(xs:T2)(vs:aZ V')(F:WP)(tmps:Array V'),eV I μ n F tmps->cU I μ xs vs->ps.all (·<n)=true->
 eV I μ n (zW ps xs F) ((ps.zip vs).foldl (λtmps(t,a)=>tmps.setIfInBounds t a) tmps)
 |[],_,_,F,tmps,r,_,_=>by simpa[zW]using r|t::ps,[],[],F,tmps,r,_,_=>by simpa[zW]using r|t::ps,[],v::vs,F,tmps,r,h,_=>by have:=h.1;grind|t::ps,x::xs,[],F,tmps,r,h,_=>by have:=h.1;grind|t::ps,x::xs,v::vs,F,tmps,r,h,u=>by simp only[List.all_cons,ζh,decide_eq_true_eq]at u;have c:=h.2 0 x v rfl rfl;have w:cU I μ xs vs:=⟨by have:=h.1;grind,λj a b d z=>h.2 (j+1) a b Zac Zac⟩;exact C6 ps xs vs _ _ (Sn (a:={tmps:=tmps,defers:=[]}) r u.1 c) w u.2
def Kz{α β:Type}(g:α->Sem β):∀(l:aZ α)(w:World)(B:aZ β),B.length=l.length->(∀(j:Nat)x y,l[j]?=some x->B[j]?=some y->(g x).run P w=.ok y w)->(l.mapM g).run P w=.ok B w
 |[],w,[],_,_=>Zab|[],w,_::_,h,_=>Zad|_::_,w,[],h,_=>Zad|x::l,w,y::B,h,hg=>by have c:=hg 0 x y rfl rfl;have u:=Kz g l w B Zac (λj a b d z=>hg (j+1) a b Zac Zac);simp_all
def OF(tmps:Array V'):ResultVar->Sem V'
 |.tmp t=>pure (tmps.getD t undef)|.cell a t=>do loadVar t (<-asAddr (tmps.getD a undef))
def NC(fn:Func)(tmps:Array V'):results fn tmps=(fn.results.mapM (OF tmps) >>= λvs=>pure (if h:vs.size=1 then vs[0]else .tuple vs)):=by congr 1
def O9(W:eZ P E){fn:Func}{tmps:Array V'}(r:eV I μ n F tmps)(s:di I μ H w){vs:T2}(h:iK E F H fn.results.toList=some vs):
 ∃u,(results fn tmps).run P w=.ok u w/\bN I μ (result vs) u:=by
 have key:∀(l:aZ ResultVar)(vs:T2),iK E F H l=some vs->∃z:aZ V',z.length=l.length/\cU I μ vs z/\
  ∀(j:Nat)x y,l[j]?=some x->z[j]?=some y->(OF tmps x).run P w=.ok y w:=by
  intro l
  induction l with
  |nil=>intro vs h;simp[iK]at h;subst h;exact⟨[],rfl,.nil,Zab⟩|cons x l U=>
   intro vs h
   cases x with
   |tmp t=>
    simp only[iK,ζf]at h;obtain⟨D,h,rfl⟩:=h;have⟨z,a,C,Q⟩:=U D h;refine⟨tmps.getD t undef::z,Zad,.cons (r.2 t) C,?_⟩
    intro j x y J L
    cases j with
    |zero=>simp at J L;subst J;subst L;simp[OF]|succ j=>grind
   |cell p t=>
    simp only[iK]at h;split at h
    .rename_i d D hd S;simp only[ζf]at h;obtain⟨v,b,rfl⟩:=h;have⟨z,a,C,Q⟩:=U D S;have⟨u,_,c,X,T,G⟩:=E6 W s hd (r.2 p) b;refine⟨u::z,Zad,.cons c C,?_⟩
     intro j x y J L
     cases j with
     |zero=>
      simp only[List.getElem?_cons_zero,ζa]at J L;subst J;subst L;have e:(do loadVar t (<-asAddr (tmps.getD p undef))).run P w=(loadVar t X).run P w:=by rw[run_bind,T];rfl
      exact e.trans G
     |succ j=>grind
    grind
 have⟨z,a,C,Q⟩:=key _ _ h;have Z:=Kz _ fn.results.toList w z a Q;have Y:(fn.results.mapM (OF tmps)).run P w=.ok z.toArray w:=by rw[Array.mapM_eq_mapM_toList];simp_all
 have O:z.length=vs.length:=C.1.symm;rw[NC,run_bind,Y]
 by_cases B:z.length=1
 .obtain⟨u,rfl⟩:=List.length_eq_one_iff.1 B;obtain⟨v,rfl⟩:=List.length_eq_one_iff.1 (O▸B);exact⟨u,Zab,by simpa[result]using C.2 0 v u rfl rfl⟩
 refine⟨.tuple z.toArray,Zad,?_⟩
 have f:result vs=.tup vs:=by match vs,O with|[],_=>rfl|[_],h=>exact absurd h B|_::_::_,_=>rfl
 rw[f];exact .tup _ _ (by simpa using C.1) (by simpa using C.2)
def Qu(J:eZ P E){fn:Func}{tmps:Array V'}{vs:T2}(h:iK E F H' fn.results.toList=some vs)(U:w.heap.size<=B):∀(ds:aZ Deferred)(w':World),
 eV I' μ' n F tmps->di I' μ' H' w'->Step I μ H w I' μ' H' w'->kS B ds w'->
 LeavesInM (fr none) 0 P fn tmps (z7 I μ H w (result vs) H') ds .returning w':=by
 intro ds
 induction ds with
 |nil=>intro w' r s st m;have⟨u,b,c⟩:=O9 J r s h;exact⟨u,b,u,I',μ',rfl,c,s,st⟩|cons d ds L=>
  intro w' r s st m;have⟨q,a,S,D⟩:=m.all d Zab
  refine⟨Zab,.inl ⟨q,_,a,run_takeDeferred D,?_⟩⟩
  have z:=vV s D;have O:=Vz s D Zab Zab
  have m':kS B ds w':=⟨λd hd=>m.all d (mem_cons_of_mem _ hd),(List.pairwise_cons.1 m.apart).2⟩
  refine L (gG w' q (.deferred none)) r (s.Cx _ O z) (st.after _ Zaa) ⟨λG C=>?_,m'.apart⟩
  have⟨Q,g1,g2,g3⟩:=m'.all G C;refine⟨Q,g1,g2,?_⟩;rw[gV _ ?_];exact g3;rintro rfl;exact(List.pairwise_cons.1 m.apart).1 G C _ a g1
def Gg(o:Out):(mc o).isNone=(o==.norm):=by cases o<;>simp[mc]<;>rfl
def Ie(U:eZ P E)(j:P.follows .mixedOrders=true)(b:X5 P E):∀n,lZ P (run E n):=by
 intro n;induction n with|zero=>exact⟨λ_ _ _ _ _ h=>(by cases h),λ_ _ _ _ _ h=>(by cases h)⟩|succ n C=>
  constructor;intro f args H r H' h;rw[IJ]at h;simp[kB]at h;split at h;rename_i J V;have⟨fn,m,hb,ae,T,L⟩:=U.ft f J V;refine⟨⟨fn,m,Zad,L⟩,?_⟩;intro I μ w B s a;split at h;rename_i u;have t:∀o F' H2 rs,exec E (run E n) n false J.ntmps J.body args H=some (o,F',H2)->(∀id,o≠.exit id)->iK E F' H2 J.results=some rs->CallsIn (fr none) 0 P f B.toArray w (z7 I μ H w (result rs) H2):=by intro o F' H2 rs hx al hr;refine callsIn_of_wp_marks m hb trivial ?_;rw[ae];have c:=N3 s.gl a u;have:=z_ U j C n none false rfl J.ntmps J.body I μ args H {tmps:=B.toArray++replicate (J.ntmps-B.toArray.size) undef,defers:=[]} w o F' H2 hx c s ⟨Zab,.nil⟩ (le_refl _);refine wpIn_mono this ?_;rintro e a1 W ⟨rfl,⟨I1,y,r1,S,z⟩,m1⟩;have d:=Qu U (by rw[T];omega) (le_refl _) a1.defers W r1 S z m1;cases o with|norm=>exact d|ret=>exact d|exit id=>grind
  split at h;simp_all;simp at h;grind;grind;grind;split at h;next A=>exact⟨(b.sort f A).ok,λI μ w B s a=>Vt C (b.sort f A) h s a⟩
  have⟨yy,F,h⟩:=ζf.1 h;cases h;exact⟨(b.known f args _ F).1,λI μ w B s a=>(b.known f args _ F).2 I μ H w B s a⟩;intro id args H r H' h I μ w B p s a hp;rw[IJ]at h;simp only[kB]at h;split at h
  .rename_i rec X;split at h
   .split at h
    .rename_i u;split at h
     .rename_i F2 H2 af;split at h
      .rename_i r2 Y;split at h
       .rename_i Z;split at h
        .rename_i o F4 H4 ah;split at h
         .rename_i r4 aa;obtain⟨rfl,rfl⟩:=h;have⟨q,l,g1,g2,g3,g4⟩:=Cq s X;rw[hp]at g1;cases g1;have ai:l.params.size=rec.params.length:=by have:=congrArg List.length g4.params;grind
          have aj:B.toArray.size=l.params.size:=by rw[ai,<-u.1];simpa using a.1.symm
          refine⟨p.b,l.fn,_,l.assign,l.body,run_yield g3 aj,?_⟩;refine roundIn_of_wpIn trivial ?_;have O:(l.params.zip B.toArray).foldl (λtmps x=>tmps.setIfInBounds x.1 x.2) l.tmps=(rec.params.zip B).foldl (λtmps x=>tmps.setIfInBounds x.1 x.2) l.tmps:=by rw[<-Array.foldl_toList,Array.toList_zip,g4.params]
          have c:=C6 rec.params args B rec.frame l.tmps g4.frame a u.2;rw[<-O]at c;have W:=z_ U j C n (some p.b) true rfl rec.nt rec.assign I μ _ H {tmps:=_,defers:=[]} w _ _ _ af c s ⟨Zab,.nil⟩ (le_refl _);rw[g4.assign,g4.body];refine wpIn_mono W ?_;rintro e a1 W ⟨rfl,⟨I1,y,r1,S,z⟩,m1⟩;have⟨q,g,k1,k2,k3,k4⟩:=Cq S Y;rw[z.mu _ _ hp]at k1;cases k1;have D:g.state=.ready:=by have:=k4.st;rw[Z]at this;cases d:g.state<;>rw[d]at this<;>simp[Dp.is]at this
          refine⟨_,run_beginRound k3 D,?_⟩;have G:=z.mu _ _ hp;have⟨K,st2⟩:=S.write (ob':=.loop {r2 with st:=.busy}) Y rfl G
           ⟨p,{g with state:=.busy},G,k2,jf _ (Array.getElem?_eq_some_iff.1 k3).1,⟨trivial,k4.pend,k4.pendOk,k4.frame,k4.params,k4.assign,k4.body⟩⟩
          have m2:=m1.step S st2;have w2:=z_ U j C n (some p.b) true rfl rec.nt rec.body I1 y F2 _ a1 (gG W p.b (.loop {g with state:=.busy})) o F4 H4 ah r1 K m2 (by rw[yU];exact z.size);refine wpIn_mono w2 ?_;rintro e a3 w3 ⟨rfl,⟨I3,μ3,r3,k,Q⟩,m3⟩;have⟨q,l4,M,j2,N,i⟩:=Cq k aa;rw[Q.mu _ _ G]at M;cases M;have R:=Q.mu _ _ G;have fin:∃v w',(Instr.endRound p.b (mc o)).run P w3=.ok v w'/\z7 I μ H w (.bool (o==.norm)) (H4.set id (.loop {r4 with st:=(if o==.norm then .ready else .done),pend:=(if o==.norm then none else some o)})) (.returned v) w':=by
           refine⟨_,_,run_endRound (mc o) N,?_⟩;have⟨s4,ak⟩:=k.write (ob':=.loop {r4 with st:=(if o==.norm then .ready else .done),pend:=(if o==.norm then none else some o)}) aa rfl R
            ⟨p,{l4 with state:=if(mc o).isNone then .ready else .done,pending:=mc o},R,j2,jf _ (Array.getElem?_eq_some_iff.1 N).1,⟨by cases o<;>exact trivial,by cases o<;>rfl,by cases o<;>simp,i.frame,i.params,i.assign,i.body⟩⟩
           refine⟨_,I3,μ3,rfl,?_,s4,Step.trans S z (Step.trans K st2 (Step.trans k Q ak))⟩;rw[Gg];exact .c _ _ (.bool _)
          cases o with|norm=>exact fin|ret=>exact fin|exit id=>exact fin
         grind
        grind
       grind
      grind
     grind
    grind
   grind
  grind
end
end Go.VE
namespace Go.VE
variable[b8]
variable{P:Program}
def ru.N_{t:W'}{d:TD}(h:yb P t=some d):ru P t d:=eZ.ty (E:={tt:=yb P,ft:=λ_=>none,keep:=λ_=>false,own:=λ_=>false,eqN:=λ_=>none,sort:=λ_=>false}) ⟨λ_ _ h=>h,Zab,Zab⟩ h
def tf{i:W'}{cs:Array V'}{o:Nat}{v:V'}{w:World}(hi:yb P i=some ⟨1,8,[.int .i64 0],.int .i64⟩)(h:cs[o]?=some v):(part i cs o).run P w=.ok v w:=by unfold part;simp[run_bind,(ru.N_ hi).OE,andThen,TD.agg,h]
def vh{a:ST}(h:a.length=2):∃x y,a=[x,y]:=by match a,h with|[x,y],_=>exact⟨x,y,rfl⟩
def Bz(d:Nat)(e:X'){i:W'}(x:Int){w:World}(B:P.underlying i=some (.int .i64)):(checkKey e (d+1) i (.int .i64 x)).run P w=.ok () w:=by simp only[checkKey,run_bind,dW B,andThen_ok,run_pure]
def Jl(d:Nat)(e:X'){t i:W'}{f g:Field}(x y:Int){w:World}(hu:P.underlying t=some (.struct #[f,g]))(D:f.type=i)(hg:g.type=i)(of:f.offset=0)(G:g.offset=1)(nf:f.name≠ "_")(J:g.name≠ "_")
 (hi:yb P i=some ⟨1,8,[.int .i64 0],.int .i64⟩)(B:P.underlying i=some (.int .i64)):(checkKey e (d+1+1) t (.agg (ic [x,y]))).run P w=.ok () w:=by
 have u:∀w,(part i (ic [x,y]) 0).run P w=.ok (.int .i64 x) w:=λw=>tf hi rfl
 have p1:∀w,(part i (ic [x,y]) 1).run P w=.ok (.int .i64 y) w:=λw=>tf hi rfl
 have q:∀(x:Int)w,(checkKey e (d+1) i (.int .i64 x)).run P w=.ok () w:=λx w=>Bz d e x B
 unfold checkKey;simp only[run_bind,dW hu,andThen_ok];rw[<-Array.forIn_toList];simp only[List.forIn_cons,List.forIn_nil,run_bind,D,hg,of,G,nf,J,ne_eq,not_false_eq_true,if_true,u,p1,q,andThen_ok,run_pure]
def xQ.two{t i:W'}{f g:Field}(hu:P.underlying t=some (.struct #[f,g]))(U:f.type=i)(hg:g.type=i)(of:f.offset=0)(W:g.offset=1)(nf:f.name≠ "_")(Y:g.name≠ "_")
 (hi:yb P i=some ⟨1,8,[.int .i64 0],.int .i64⟩)(G:P.underlying i=some (.int .i64))(hs:P.stoodInHeld t=false)(hq:P.eqGuardType P.depth t=false):xQ P t 2:=by
 have I:P.fieldsOf t=#[f,g]:=by unfold Program.fieldsOf;rw[hu]
 have B:∀(w:World)(x y z u:Int),(equal t (.agg (ic [x,y])) (.agg (ic [z,u]))).run P w=.ok ([x,y]==[z,u]) w:=by intro w x y z u;show(equalIn (9999+1) t _ _).run P w=_;rw[run_equalIn_struct w 9999 t _ _ (by rw[I];exact hu) hs,I];have Q:∀(x y:Int)w,(part i (ic [x,y]) 0).run P w=.ok (.int .i64 x) w:=λx y w=>tf hi rfl;have p1:∀(x y:Int)w,(part i (ic [x,y]) 1).run P w=.ok (.int .i64 y) w:=λx y w=>tf hi rfl;have q:∀(x y:Int)w,(equalIn 9999 i (.int .i64 x) (.int .i64 y)).run P w=.ok (x==y) w:=λx y w=>Db 9998 x y G;simp only[Op.eqFields,U,hg,of,W,nf,Y,ne_eq,not_false_eq_true,if_true,run_bind,Q,q,andThen_ok];by_cases C:x=z;by_cases J:y=u;subst C;subst J;simp[run_bind,p1,q,andThen];subst C;have:(y==u)=false:=(by simpa using J);simp[run_bind,p1,q,andThen,this];have:(x==z)=false:=(by simpa using C);simp[this]
 have L:∀(op:BinOp)(p q:UV)(w:World)(u v:Array V'),(eqGuard op t p q (.agg u) (.agg v)).run P w=.ok () w:=by intro op p q w u v;unfold eqGuard;cases op<;>simp[run_bind,run_program,andThen,hq]
 refine⟨?_,?_,?_,?_,⟨_,hu,.inr ⟨_,rfl⟩⟩⟩
 .intro w p q a b D O;obtain⟨x,y,rfl⟩:=vh D;obtain⟨z,u,rfl⟩:=vh O;rw[run_bind,L,andThen_ok];show(do pure (Value.bool (<-equal t (.agg (ic [x,y])) (.agg (ic [z,u])))):Sem V').run P w=_
  rw[run_bind,B];rfl
 .intro w p q a b D O;obtain⟨x,y,rfl⟩:=vh D;obtain⟨z,u,rfl⟩:=vh O;rw[run_bind,L,andThen_ok];show(do pure (Value.bool (!(<-equal t (.agg (ic [x,y])) (.agg (ic [z,u]))))):Sem V').run P w=_
  rw[run_bind,B];rfl
 .intro w a b D O;obtain⟨x,y,rfl⟩:=vh D;obtain⟨z,u,rfl⟩:=vh O;exact B w x y z u
 intro w e a D;obtain⟨x,y,rfl⟩:=vh D;exact Jl 9998 e x y hu U hg of W nf Y hi G
def lk{α:Type}:aZ (Nat×α)->Nat->a_ α
 |[],_=>none|(k,v)::r,n=>bif beq k n then some v else lk r n
def Qg{α:Type}:∀{l:aZ (Nat×α)}{n:Nat}{v:α},lk l n=some v->(n,v)∈l
 |[],_,_,h=>by simp[lk]at h|(k,x)::r,n,v,h=>by simp only[lk]at h;cases a:beq k n with|true=>rw[a]at h;simp only[cond_true,ζa]at h;have:=Nat.eq_of_beq_eq_true a;subst this;subst h;simp|false=>rw[a]at h;exact mem_cons_of_mem _ (Qg h)
end Go.VE
namespace Go.VE
variable[b8]
inductive KT where|bool|str|slice|ptr|map|int|other
 deriving DecidableEq
def TK.tag:TK->KT
 |.bool=>.bool|.int _=>.int|.str=>.str|.ptr _=>.ptr|.slice _=>.slice|.map ..=>.map|_=>.other
def qv(k:KT)(x y:V):a_ X':=
 match k,x,y with
 |.slice,.bO,.bO=>some true|.slice,.fsl ..,.bO=>some false|.slice,.hsl ..,.bO=>some false|.ptr,.iR,.iR=>some true|.ptr,.fptr _,.iR=>some false|.ptr,.hptr ..,.iR=>some false|.map,.gM,.gM=>some true|.map,.fmap _,.gM=>some false|.map,.hmap _,.gM=>some false|_,_,_=>none
def iA(k:a_ KT)(e:a_ Nat)(op:BinOp)(x y:V):a_ V:=
 match x,y with
 |.int k a,.int u b=>
  match op with
  |.shl=>if b<0 then none else some (.int k (k.wrap (a*2 ^ (min b.toNat k.bits))))|.shr=>if b<0 then none else some (.int k (a.fdiv (2 ^ (min b.toNat k.bits))))|_=>if k=u then
   match op with
   |.add=>some (.int k (k.wrap (a+b)))|.sub=>some (.int k (k.wrap (a-b)))|.mul=>some (.int k (k.wrap (a*b)))|.quo=>if b=0 then none else some (.int k (k.wrap (a.tdiv b)))|.rem=>if b=0 then none else some (.int k (a.tmod b))|.and=>some (.int k (k.wrap (ofInt k.bits a &&& ofInt k.bits b).toNat))|.or=>some (.int k (k.wrap (ofInt k.bits a ||| ofInt k.bits b).toNat))|.xor=>some (.int k (k.wrap (ofInt k.bits a ^^^ ofInt k.bits b).toNat))|.andNot=>some (.int k (k.wrap (ofInt k.bits a &&& ~~~ ofInt k.bits b).toNat))|op=>(o8 op a b).map .bool
   else none
 |.str a,.str b=>
  match op with
  |.add=>if((a.size+b.size:Nat):Int)>IntKind.i64.max then none else some (.str (a++b))|.eql=>some (.bool (a.toList==b.toList))|.neq=>some (.bool !(a.toList==b.toList))|.lss=>some (.bool (bytesLess a.toList b.toList))|.leq=>some (.bool (bytesLess a.toList b.toList||a.toList==b.toList))|.gtr=>some (.bool !(bytesLess a.toList b.toList||a.toList==b.toList))|.geq=>some (.bool !(bytesLess a.toList b.toList))|_=>none
 |.bool a,.bool b=>
  match k,op with
  |some .bool,.eql=>some (.bool (a==b))|some .bool,.neq=>some (.bool !(a==b))|_,_=>none
 |.agg a,.agg b=>
  match e,op with
  |some n,.eql=>if a.length=n then(lX a b).map .bool else none|some n,.neq=>if a.length=n then(lX a b).map (λt=>.bool !t)else none|_,_=>none
 |x,y=>
  match k,op with
  |some k,.eql=>(qv k x y).map .bool|some k,.neq=>(qv k x y).map λt=>.bool !t|_,_=>none
def OM(k:TK)(x y:V):wD k x y=qv k.tag x y:=by cases k<;>cases y<;>(try rfl)<;>cases x<;>rfl
def WG(E:Env)(op:BinOp)(t:W')(x y:V):Li E op t x y=iA ((E.kindOf t).map TK.tag) (E.eqN t) op x y:=by
 unfold Li;split;rfl;rfl;cases b:E.kindOf t with|none=>rfl|some k=>cases k<;>cases op<;>rfl
 rfl;rename_i a u w z
 cases b:E.kindOf t with
 |none=>rw[iA.eq_29 _ _ _ _ _ a u w z Zab Zab]|some k=>
  simp only[OM];cases op<;>first
   |exact(iA.eq_27 _ _ _ _ a u w z).symm|exact(iA.eq_28 _ _ _ _ a u w z).symm|(rw[iA.eq_29 _ _ _ _ _ a u w z Zab Zab])
inductive wz where
 |id|pick|nilc
 |bin(k:Option KT)(e:Option Nat)(op:BinOp)
 |not|neg
 |conv(k:IntKind)
 |fieldAddr(off:Nat)
 |field(off size:Nat)(agg:Bool)
 |idxS(size:Nat)
 |idxA(len size:Nat)
 |idxStr
 |idxArr(len size:Nat)(agg:Bool)
 |sliceStr(lo hi:Bool)
 |slice(size:Nat)(lo hi:Bool)
 |slice00
 |build(zero:List V)(pl:List (Nat×Nat))
 |clo(name:Nat)(k:Nat)
 |ext(i:Nat)
 |lenStr|lenSl|capSl|max|min|bad|max4
 |makeC(size:Nat)(zero:List V)
 |buildC(size len:Nat)(zero:List V)(idx:List Nat)
 |emptyC
def Ou:V->a_ V
 |.hptr id el off=>some (.hptr id el off)|.fptr cs=>some (.fptr cs)|.clo f a b=>some (.clo f a b)|_=>none
def iP(off:Nat):V->a_ V
 |.fptr cs=>if off<=cs.length then some (.fptr (cs.drop off))else none|.hptr id el o=>some (.hptr id el (o+off))|_=>none
def mN(size:Nat)(s:V)(n:Int):a_ V:=
 if n<0 then none else match s with
 |.fsl es u=>if es=size then(u[n.toNat]?).map .fptr else none|.hsl id es off len=>if es=size/\n.toNat<len then some (.hptr id (off+n.toNat) 0)else none|_=>none
def yw(len size:Nat)(p:V)(n:Int):a_ V:=
 if 0<=n/\n<len then match p with
  |.fptr cs=>if n.toNat*size<=cs.length then some (.fptr (cs.drop (n.toNat*size)))else none|.hptr id el o=>some (.hptr id el (o+n.toNat*size))|_=>none
 else none
def mL:X'->X'->T2->a_ (QQ×QQ)
 |false,false,[]=>some (none,none)|true,false,[.int _ l]=>some (some l,none)|false,true,[.int _ h]=>some (none,some h)|true,true,[.int _ l,.int _ h]=>some (some l,some h)|_,_,_=>none
def iQ(size:Nat)(v:V)(l h:QQ):a_ V:=
 match v with
 |.fsl es u=>if es=size then(eu u.length l h).map λ(l,h)=>.fsl es ((u.take h).drop l)else none|.hsl id es off len=>if es=size then(eu len l h).map λ(l,h)=>.hsl id es (off+l) (h-l)else none|.dU=>(eu 0 l h).map λ_=>.dU|.bO=>(eu 0 l h).map λ_=>.bO|_=>none
def Nl:V->X'
 |.fsl ..|.hsl ..|.dU|.bO=>true|_=>false
def lR(cells:T2):aZ (Nat×Nat)->T2->a_ T2
 |[],[]=>some cells|(off,size)::pl,v::vs=>
  if v.cells.length≠size||off+v.cells.length>cells.length then none
  else lR (cells.take off++v.cells++cells.drop (off+v.cells.length)) pl vs
 |_,_=>none
def pI:V->a_ V
 |.fsl _ xs=>some (.int .i64 xs.length)|.hsl _ _ _ len=>some (.int .i64 len)|.dU=>some (.int .i64 0)|.bO=>some (.int .i64 0)|_=>none
def K9:V->a_ V
 |.bO|.dU=>some (.int .i64 0)|_=>none
def bq(N:Nat->Y'):wz->T2->a_ V
 |.id,[x]=>some x
 |.pick,[.bool t,a,b]=>some (if t then a else b)
 |.nilc,[x]=>Ou x
 |.bin k e op,[x,y]=>iA k e op x y
 |.not,[.bool b]=>some (.bool !b)
 |.neg,[.int k n]=>some (.int k (k.wrap (0-n)))
 |.conv k,[.int _ n]=>some (.int k (k.wrap n))
 |.fieldAddr off,[p]=>iP off p
 |.field off size agg,[.agg cs]=>(cut cs off size).bind (mk agg)
 |.idxS size,[s,.int _ n]=>mN size s n
 |.idxA len size,[p,.int _ n]=>yw len size p n
 |.idxStr,[.str s,.int _ n]=>if 0<=n then(s[n.toNat]?).map (λb=>.int .u8 b.toNat)else none
 |.idxArr len size agg,[.agg cs,.int _ n]=>if 0<=n/\n<len then(cut cs (n.toNat*size) size).bind (mk agg)else none
 |.sliceStr lo hi,.str s::D=>(mL lo hi D).bind λ(l,h)=>(eu s.size l h).map λ(l,h)=>.str (s.extract l h)
 |.slice size lo hi,v::D=>(mL lo hi D).bind λ(l,h)=>iQ size v l h
 |.slice00,[v,.int _ h,.int _ m]=>if Nl v&&h==0&&m==0 then some .dU else none
 |.build zero pl,vs=>(lR zero pl vs).map .agg
 |.clo name k,vs=>some (.clo (N name) (vs.take k) (vs.drop k))
 |.ext i,[.tup vs]=>vs[i]?
 |.lenStr,[.str s]=>some (.int .i64 s.size)
 |.lenSl,[v]=>pI v
 |.capSl,[v]=>K9 v
 |.max,[.int k a,.int B b]=>if k=B then some (.int k (if b>a then b else a))else none
 |.max4,[.int k a,.int k1 b,.int k2 c,.int k3 d]=>if k=k1/\k=k2/\k=k3 then some (.int k (Eb (Eb (Eb a b) c) d))else none
 |.min,[.int k a,.int B b]=>if k=B then some (.int k (if b<a then b else a))else none
 |.makeC size zero,[.int k n,.int B m]=>if k=.i64/\B=.i64/\0<=n/\n=m/\m<=2147483648/\zero.all V.scalar=true then some (.fsl size (List.replicate n.toNat zero))else none
 |.buildC size len zero idx,vs=>if V.c8 vs=true/\idx.length=vs.length then match fS size (List.replicate len zero) (idx.zip vs)with
  |some xs=>if xs.isEmpty=false/\(xs.all λx=>x.all V.scalar)=true then some (.fsl size xs)else none
  |none=>none
  else none
 |.emptyC,[]=>some .dU
 |_,_=>none
inductive za where|int (k:IntKind)|str|ints (n:Nat)
def ER(E:Env)(t:W'):a_ za:=
 match E.kindOf t with
 |some (.int k)=>some (.int k)|some .str=>some .str|some _=>(E.eqN t).map .ints|none=>none
def qX:za->V->X'
 |.int k,.int B _=>k==B|.str,.str _=>true|.ints n,.agg cs=>cs.length==n&&(i_ cs).isSome|_,_=>false
inductive MC where
 |load(size:Nat)(agg:Bool)|loadF(size:Nat)(agg:Bool)|lookup(kk:za)(zero:V)(ok:Bool)
def fA(H:bp):MC->T2->a_ V
 |.load size agg,[p]=>(eO H p size).bind (mk agg)|.lookup kk z ok,[m,k]=>match nJ H m with
  |some B=>if qX kk k then match iT k B 0 with
   |some (some (_,v))=>some (if ok then .tup [v,.bool true]else v)|some none=>some (if ok then .tup [z,.bool false]else z)|none=>none
   else none
  |none=>none
 |_,_=>none
inductive Qc where
 |alloc(size:Nat)(zero:List V)|box|makeSl(size:Nat)(zero:List V)|buildSl(size len:Nat)(zero:List V)(idx:List Nat)|makeMap
def iU:Qc->T2->a_ (Ob×Mk)
 |.alloc size zero,[]=>some (.row size [zero],.ptr)|.box,[v]=>if v.cells.all V.one then some (.row v.cells.length [v.cells],.ptr)else none|.makeSl size zero,[.int k n,.int B m]=>if k=.i64/\B=.i64/\0<=n/\n<=m/\m<=2147483648 then some (.row size (List.replicate m.toNat zero),.sl size n.toNat)else none|.buildSl size len zero idx,vs=>if idx.length=vs.length then(fS size (List.replicate len zero) (idx.zip vs)).map λxs=>(.row size xs,.sl size len)else none|.makeMap,[]=>some (.map [],.map)|_,_=>none
inductive MW where
 |store(size:Nat)|storeF(size:Nat)|mapUp(kk:za)|append(size:Nat)|appMk(size bytes:Nat)(zero:List V)|clear(size:Nat)(zero:List V)
def fP(H:bp):MW->T2->a_ (V×bp)
 |.store size,[.hptr id el off,v]=>match H[id]?with
  |some (.row es xs)=>match xs[el]?with
   |some cs=>if v.cells.length=size/\off+size<=cs.length/\v.cells.all V.one=true then
    some (.undef,H.set id (.row es (xs.set el (cs.take off++v.cells++cs.drop (off+v.cells.length)))))else none
   |none=>none
  |_=>none
 |.mapUp kk,[.hmap id,k,v]=>match H[id]?with
  |some (.map B)=>if qX kk k then(qY k v B).map λB=>(.undef,H.set id (.map B))else none|_=>none
 |.append size,[s,x]=>match dQ H size s,dQ H size x with
  |some _,some []=>some (s,H)|some xs,some ys=>if xs.length+ys.length<=2147483648 then(iG H s).map λH1=>(.hsl H.length size 0 (xs.length+ys.length),H1++[.row size (xs++ys)])else none|_,_=>none
 |.appMk size bytes zero,[s,x]=>mkApp H size bytes zero s x|.clear size zero,[v]=>EH H size zero v|.storeF size,.hptr id el off::v::l=>if l.all (sE id)=true then match H[id]?with
  |some (.row es xs)=>match xs[el]?with
   |some cs=>if v.cells.length=size/\off+size<=cs.length/\v.cells.all V.one=true then
    some (.undef,H.set id (.row es (xs.set el (cs.take off++v.cells++cs.drop (off+v.cells.length)))))else none
   |none=>none
  |_=>none
  else none
 |_,_=>none
inductive K where
 |p(p:wz)|r(r:MC)|a(a:Qc)|l(l:MW)|c|e(size:Nat)|b
def Z9(E:Env)(t:W'):a_ KT:=(E.kindOf t).map TK.tag
def resolve(E:Env)(nm:Y'->a_ Nat):Op->a_ (K×aZ UV)
 |.move x|.assign x=>some (.p .id,[x])
 |.pick c a b=>some (.p .pick,[c,a,b])
 |.nilCheck x=>some (.p .nilc,[x])
 |.binOp op t x y _=>some (.p (.bin (Z9 E t) (E.eqN t) op),[x,y])
 |.unOp .not _ x=>some (.p .not,[x])
 |.unOp .neg _ x=>some (.p .neg,[x])
 |.convert s d x=>match E.tt s,E.tt d with
  |some _,some G=>match G.kind with
   |.int k=>some (.p (.conv k),[x])
   |.str=>match E.kindOf s with
    |some (.slice e)=>match E.kindOf e with
     |some (.int .u8)=>some (.b,[x])
     |_=>none
    |_=>none
   |_=>none
  |_,_=>none
 |.fieldAddr s x f=>match E.kindOf s with
  |some (.struct fs)=>match fs[f]?with
   |some (off,t)=>match E.tt t with
    |some d=>if d.size=0 then none else some (.p (.fieldAddr off),[x])
    |none=>none
   |none=>none
  |_=>none
 |.field s x f=>match E.kindOf s with
  |some (.struct fs)=>match fs[f]?with
   |some (off,t)=>match E.tt t with
    |some d=>some (.p (.field off d.size d.agg),[x])
    |none=>none
   |none=>none
  |_=>none
 |.indexAddr t x i=>match E.kindOf t with
  |some (.slice e)=>(E.tt e).map λd=>(.p (.idxS d.size),[x,i])
  |some (.array len e)=>(E.tt e).map λd=>(.p (.idxA len d.size),[x,i])
  |_=>none
 |.index t x i=>match E.kindOf t with
  |some .str=>some (.p .idxStr,[x,i])
  |some (.array len e)=>(E.tt e).map λd=>(.p (.idxArr len d.size d.agg),[x,i])
  |_=>none
 |.slice t x lo hi J=>match E.kindOf t,J with
  |some .str,none=>some (.p (.sliceStr lo.isSome hi.isSome),x::(lo.toList++hi.toList))
  |some (.slice e),none=>(E.tt e).map λd=>(.p (.slice d.size lo.isSome hi.isSome),x::(lo.toList++hi.toList))
  |some (.slice e),some m=>match E.tt e,lo,hi with
   |some _,none,some h=>some (.p .slice00,[x,h,m])
   |_,_,_=>none
  |_,_=>none
 |.build t ps=>match E.tt t with
  |some d=>match d.kind with
   |.struct fs=>match oG E fs with
    |some pl=>(ps.toList.mapM λ(q:Nat×UV)=>pl[q.1]?).map λq=>(K.p (.build d.zero q),ps.toList.map λ(q:Nat×UV)=>q.2)
    |none=>none
   |.array _ e=>(E.tt e).map λD=>(K.p (.build d.zero (ps.toList.map λ(q:Nat×UV)=>(q.1*D.size,D.size))),ps.toList.map λ(q:Nat×UV)=>q.2)
   |_=>none
  |none=>none
 |.makeFunc (.func f) a b=>(nm f).map λs=>(.p (.clo s a.toList.length),a.toList++b.toList)
 |.extract x i=>some (.p (.ext i),[x])
 |.load t a=>(E.tt t).map λd=>(.r (.load d.size d.agg),[a])
 |.lookup t m k ok=>match E.kindOf t with
  |some (.map B U)=>match E.tt U,ER E B with
   |some d,some kk=>(mk d.agg d.zero).map λz=>(.r (.lookup kk z ok),[m,k])
   |_,_=>none
  |_=>none
 |.alloc t=>(E.tt t).map λd=>(.a (.alloc d.size d.zero),[])
 |.box _ x=>some (.a .box,[x])
 |.makeSlice t l c=>match E.kindOf t with
  |some (.slice e)=>match E.tt e with
   |some d=>if d.bytes<=4096 then some (.a (.makeSl d.size d.zero),[l,c])else none
   |none=>none
  |_=>none
 |.buildSlice t len ps=>match E.kindOf t with
  |some (.slice e)=>match E.tt e with
   |some d=>if len*d.size<=16777216 then some (.a (.buildSl d.size len d.zero (ps.toList.map (·.1))),ps.toList.map (·.2))else none
   |none=>none
  |_=>none
 |.makeMap _ none=>some (.a .makeMap,[])
 |.store t a x=>(E.tt t).map λd=>(.l (.store d.size),[a,x])
 |.mapUpdate t m k x|.insert t m k x=>match E.kindOf t with
  |some (.map B _)=>(ER E B).map λkk=>(.l (.mapUp kk),[m,k,x])
  |_=>none
 |.call {callee:=.builtin .append,args,argTypes}=>match argTypes.toList,args.toList with
  |[t,W],[s,x]=>match E.kindOf t,E.kindOf W with
   |some (.slice e),some (.slice _)=>match E.tt e with
    |some d=>if d.bytes<=4096/\0<d.bytes then some (.l (.append d.size),[s,x])else none
    |none=>none
   |some (.slice e),some (.int _)=>(E.tt e).map λd=>(.l (.appMk d.size d.bytes d.zero),[s,x])
   |_,_=>none
  |_,_=>none
 |.call {callee:=.builtin .len,args,argTypes}=>match argTypes[0]?,args.toList with
  |some t,[x]=>match E.kindOf t with
   |some .str=>some (.p .lenStr,[x])
   |some (.slice _)=>some (.p .lenSl,[x])
   |_=>none
  |_,_=>none
 |.call {callee:=.builtin .cap,args,argTypes}=>match argTypes[0]?,args.toList with
  |some t,[x]=>match E.kindOf t with
   |some (.slice _)=>some (.p .capSl,[x])
   |_=>none
  |_,_=>none
 |.call {callee:=.builtin .clear,args,argTypes}=>match argTypes[0]?,args.toList with
  |some t,[x]=>match E.kindOf t with
   |some (.slice e)=>(E.tt e).map λd=>(.l (.clear d.size d.zero),[x])
   |_=>none
  |_,_=>none
 |.panic _=>some (.p .bad,[])
 |.makeInterface ..=>some (.p .bad,[])
 |.call {callee:=.builtin .max,args,..}=>match args.toList with
  |[x,y]=>some (.p .max,[x,y])
  |[x,y,z,t]=>some (.p .max4,[x,y,z,t])
  |_=>none
 |.call {callee:=.builtin .min,args,..}=>match args.toList with
  |[x,y]=>some (.p .min,[x,y])
  |_=>none
 |.call {callee:=.value f,args,..}=>some (.c,f::args.toList)
 |_=>none
section
variable{E:Env}{nm:Y'->a_ Nat}{N:Nat->Y'}{F:WP}
def pY{x:UV}{vs:T2}(h:fU F [x]=some vs):∃a,ev F x=some a/\vs=[a]:=by simp[fU]at h;grind
def jw{x:UV}{l:aZ UV}{vs:T2}(h:fU F (x::l)=some vs):∃a az,ev F x=some a/\fU F l=some az/\vs=a::az:=by simp[fU]at h;grind
def rO{vs:T2}(h:fU F []=some vs):vs=[]:=by simp[fU]at h;grind
def uc{x y:UV}{vs:T2}(h:fU F [x,y]=some vs):∃a b,ev F x=some a/\ev F y=some b/\vs=[a,b]:=by obtain⟨a,az,w,u,rfl⟩:=jw h;obtain⟨b,z,rfl⟩:=pY u;grind
def Jo{x y z:UV}{vs:T2}(h:fU F [x,y,z]=some vs):∃a b c,ev F x=some a/\ev F y=some b/\ev F z=some c/\vs=[a,b,c]:=by obtain⟨a,az,w,u,rfl⟩:=jw h;obtain⟨b,c,B,d,rfl⟩:=uc u;grind
def NO{l m:aZ UV}{vs:T2}(h:fU F (l++m)=some vs):∃az B,fU F l=some az/\fU F m=some B/\vs=az++B:=by induction l generalizing vs with|nil=>exact⟨[],vs,rfl,h,rfl⟩|cons x l u=>obtain⟨a,az,w,z,rfl⟩:=jw h;obtain⟨b,c,C,d,rfl⟩:=u z;refine⟨a::b,c,?_,d,rfl⟩;simp[fU,w,C]
def O2{l:aZ UV}{vs:T2}(h:fU F l=some vs):vs.length=l.length:=by induction l generalizing vs with|nil=>rw[rO h];rfl|cons x l u=>obtain⟨a,az,_,w,rfl⟩:=jw h;grind
def CU(E:Env)(N:Nat->Y')(F:WP)(op:Op)(vs:T2):K->Prop
 |.p p=>dF op=.pure/\∀v,bq N p vs=some v->bV E F op=some v|.r r=>dF op=.read/\∀H v,fA H r vs=some v->ez E F H op=some v|.a a=>dF op=.alloc/\∀x,iU a vs=some x->fF E F op=some x|.l l=>dF op=.loud/\∀H x,fP H l vs=some x->dz E F H op=some x|.e _=>False|.b=>dF op=.pure/\∃x,vs=[x]/\∀H ys l,dQ H 1 x=some ys->mE ys=some l->bV E F op=none/\evalConv E F H op=some (.str (nG l))|.c=>dF op=.call/\∃f az,vs=f::az/\kP F op=(match f with|.clo g a b=>some (.fn g,a++az++b)|.yld id=>some (.yld id,az)|_=>none)
def K5(place:Nat->a_ (Nat×Nat)):∀(ps:aZ (Nat×UV))(q:aZ (Nat×Nat))(vs:T2)(cells cs:T2),(ps.mapM λ(x:Nat×UV)=>place x.1)=some q->
 fU F (ps.map λ(x:Nat×UV)=>x.2)=some vs->lR cells q vs=some cs->∃B,nv F ps=some B/\vN place cells B=some cs:=by
 intro ps
 induction ps with
 |nil=>
  intro q vs cells cs u b h;simp at u;subst u;have:=rO (by simpa using b);subst this
  simp[lR]at h;subst h;exact⟨[],rfl,rfl⟩
 |cons p ps D=>
  intro q vs cells cs u b h;have⟨i,x⟩:=p;simp only[List.mapM_cons,Option.pure_def,Option.bind_eq_bind,ζg,ζa]at u;obtain⟨pl,w,G,z,rfl⟩:=u;obtain⟨a,az,I,C,rfl⟩:=jw (by simpa using b)
  simp only[lR]at h;split at h
  .simp_all
  have⟨B,c,J⟩:=D G az _ cs z C h;refine⟨(i,a)::B,by simp[nv,I,c],?_⟩
  simp[vN,w]
  grind
def PZ:∀(ps:aZ (Nat×UV))(vs:T2),fU F (ps.map λ(x:Nat×UV)=>x.2)=some vs->nv F ps=some ((ps.map λ(x:Nat×UV)=>x.1).zip vs):=by intro ps;induction ps with|nil=>simp[nv]|cons p ps w=>intro vs b;obtain⟨a,az,z,u,rfl⟩:=jw (by simpa using b);simp[nv,z,w az u]
def JD{lo hi:a_ UV}{vs:T2}{l h:QQ}(c:fU F (lo.toList++hi.toList)=some vs)(B:mL lo.isSome hi.isSome vs=some (l,h)):kG F lo=some l/\kG F hi=some h:=by
 cases lo with
 |none=>cases hi with|none=>have:=rO (by simpa using c);subst this;obtain⟨rfl,rfl⟩:=B;exact⟨rfl,rfl⟩|some y=>obtain⟨b,u,rfl⟩:=pY (by simpa using c);cases b<;>simp[mL]at B;obtain⟨rfl,rfl⟩:=B;simp[kG,u]
 |some x=>cases hi with|none=>obtain⟨b,u,rfl⟩:=pY (by simpa using c);cases b<;>simp[mL]at B;obtain⟨rfl,rfl⟩:=B;simp[kG,u]|some y=>obtain⟨a,b,w,u,rfl⟩:=uc (by simpa using c);cases a<;>cases b<;>simp[mL]at B;obtain⟨rfl,rfl⟩:=B;simp[kG,w,u]
def BR{t:W'}{kk:za}{k:V}(h:ER E t=some kk)(a:qX kk k=true):Cn E t k=true:=by unfold ER at h;unfold Cn;cases u:E.kindOf t with|none=>grind|some tk=>rw[u]at h;have b:(E.eqN t).map za.ints=some kk->∃n cs,E.eqN t=some n/\k=.agg cs/\(cs.length==n&&(i_ cs).isSome)=true:=(by intro h;simp at h;obtain⟨n,w,rfl⟩:=h;cases k<;>simp[qX]at a<;>first|grind|grind);cases tk with|int z=>simp at h;subst h;cases k<;>simp[qX]at a;grind|str=>simp at h;subst h;cases k<;>simp[qX]at a;rfl|_=>obtain⟨n,cs,c,rfl,B⟩:=b h;simp_all
def jU(hN:∀f s,nm f=some s->N s=f){op:Op}{k:K}{os:aZ UV}{vs:T2}(h:resolve E nm op=some (k,os))(g:fU F os=some vs):CU E N F op vs k:=by
 cases op with
 |move x=>obtain⟨rfl,rfl⟩:=h;obtain⟨a,B,rfl⟩:=pY g;exact⟨rfl,λv w=>by simpa[bq,bV,B]using w⟩|assign x=>obtain⟨rfl,rfl⟩:=h;obtain⟨a,B,rfl⟩:=pY g;exact⟨rfl,λv w=>by simpa[bq,bV,B]using w⟩|pick c a b=>simp[resolve]at h;obtain⟨rfl,rfl⟩:=h;obtain⟨x,y,z,hx,hy,U,rfl⟩:=Jo g;refine⟨rfl,λv w=>?_⟩;cases x<;>simp[bq]at w;rename_i t;subst w;cases t<;>simp[bV,hx,hy,U]|nilCheck x=>simp[resolve]at h;obtain⟨rfl,rfl⟩:=h;obtain⟨a,B,rfl⟩:=pY g;refine⟨rfl,λv w=>?_⟩;cases a<;>simp[bq,Ou]at w<;>subst w<;>simp[bV,B]|binOp ai t x y yt=>simp only[resolve,ζa,ζc]at h;obtain⟨rfl,rfl⟩:=h;obtain⟨a,b,B,G,rfl⟩:=uc g;exact⟨rfl,λv w=>by simp only[bV,B,G,WG];exact w⟩|unOp u t x=>cases u with|not=>simp only[resolve,ζa,ζc]at h;obtain⟨rfl,rfl⟩:=h;obtain⟨a,B,rfl⟩:=pY g;refine⟨rfl,λv w=>?_⟩;cases a<;>simp[bq]at w;subst w;simp[bV,B]|neg=>simp only[resolve,ζa,ζc]at h;obtain⟨rfl,rfl⟩:=h;obtain⟨a,B,rfl⟩:=pY g;refine⟨rfl,λv w=>?_⟩;cases a<;>simp[bq]at w;subst w;simp[bV,B]|_=>simp[resolve]at h
 |convert s d x=>
  simp only[resolve]at h;split at h
  .rename_i sd td M hd;split at h;rename_i k j;simp only[ζa,ζc]at h;obtain⟨rfl,rfl⟩:=h;obtain⟨a,B,rfl⟩:=pY g;refine⟨rfl,λv w=>?_⟩;cases a<;>simp[bq]at w;subst w;simp[bV,B,M,hd,j]
   .rename_i j;split at h
    .rename_i e he;split at h
     .rename_i hu;simp only[ζa,ζc]at h;obtain⟨rfl,rfl⟩:=h;obtain⟨a,B,rfl⟩:=pY g;refine⟨rfl,a,rfl,λH ys l n J=>?_⟩;have ab:E.kindOf d=some .str:=(by unfold Env.kindOf;rw[hd,map_some,j]);refine⟨?_,by simp only[evalConv,he,ab,B,hu,n,J,ζb,map_some]⟩;simp only[bV,M,hd,B];cases a<;>first|rfl|(simp only[dQ]at n;cases n)
     simp at h
    simp at h
   simp at h
  simp at h
 |fieldAddr s x f=>simp only[resolve]at h;split at h;rename_i fs j;split at h;rename_i off t W;split at h;rename_i d hd;split at h;simp at h;rename_i U;simp only[ζa,ζc]at h;obtain⟨rfl,rfl⟩:=h;obtain⟨a,B,rfl⟩:=pY g;refine⟨rfl,λv w=>?_⟩;simp only[bV,B,j,W,hd,if_neg U];simp only[bq,iP]at w;cases a<;>simp at w⊢ <;>exact w;simp at h;simp at h;simp at h|field s x f=>
  simp only[resolve]at h;split at h
  .rename_i fs j;split at h
   .rename_i off t W;split at h
    .rename_i d hd;simp only[ζa,ζc]at h;obtain⟨rfl,rfl⟩:=h;obtain⟨a,B,rfl⟩:=pY g;refine⟨rfl,λv w=>?_⟩;cases a<;>simp only[bq]at w<;>first|(simp only[bV,B,j,W,hd];exact w)|simp at w
    simp at h
   simp at h
  simp at h
 |indexAddr t x i=>
  simp only[resolve]at h;split at h
  .rename_i e j;simp only[ζf,ζc]at h;obtain⟨d,hd,rfl,rfl⟩:=h;obtain⟨a,b,B,G,rfl⟩:=uc g;refine⟨rfl,λv w=>?_⟩;(cases b<;>simp only[bq]at w<;>first|simp at w;done|skip);simp only[bV,B,G,j,hd];unfold mN at w;exact w
  .rename_i len e j;simp only[ζf,ζc]at h;obtain⟨d,hd,rfl,rfl⟩:=h;obtain⟨a,b,B,G,rfl⟩:=uc g;refine⟨rfl,λv w=>?_⟩;(cases b<;>simp only[bq]at w<;>first|simp at w;done|skip);simp only[bV,B,G,j,hd];unfold yw at w;exact w
  simp at h
 |index t x i=>
  simp only[resolve]at h;split at h
  .rename_i j;simp only[ζa,ζc]at h;obtain⟨rfl,rfl⟩:=h;obtain⟨a,b,B,G,rfl⟩:=uc g;refine⟨rfl,λv w=>?_⟩;(cases a<;>cases b<;>simp only[bq]at w<;>first|simp at w;done|skip);simp only[bV,B,G,j];exact w
  .rename_i len e j;simp only[ζf,ζc]at h;obtain⟨d,hd,rfl,rfl⟩:=h;obtain⟨a,b,B,G,rfl⟩:=uc g;refine⟨rfl,λv w=>?_⟩;(cases a<;>cases b<;>simp only[bq]at w<;>first|simp at w;done|skip);simp only[bV,B,G,j,hd];exact w
  simp at h
 |slice t x lo hi mx=>
  simp only[resolve]at h;split at h
  .rename_i j;simp only[ζa,ζc]at h;obtain⟨rfl,rfl⟩:=h;obtain⟨a,bs,B,G,rfl⟩:=jw g;refine⟨rfl,λv w=>?_⟩;(cases a<;>simp only[bq]at w<;>first|simp at w;done|skip);have⟨⟨l,h⟩,X,w⟩:=ζg.1 w;have⟨n,J⟩:=JD G X;have P:kG F none=some none:=rfl;simp only[bV,B,j,n,J,P];exact w
  rename_i e j;simp only[ζf,ζc]at h;obtain⟨d,hd,rfl,rfl⟩:=h;obtain⟨a,bs,B,G,rfl⟩:=jw g;refine⟨rfl,λv w=>?_⟩;simp only[bq]at w;have⟨⟨l,h⟩,X,w⟩:=ζg.1 w;have⟨n,J⟩:=JD G X;have P:kG F none=some none:=rfl;simp only[bV,B,j,n,J,P,hd];cases a<;>exact w
  .rename_i e m j;split at h
   .rename_i d hh hd;simp only[ζa,ζc]at h;obtain⟨rfl,rfl⟩:=h;obtain⟨a,b,c,B,G,o,rfl⟩:=Jo g;refine⟨rfl,λv w=>?_⟩;(cases b<;>cases c<;>simp only[bq]at w<;>first|simp at w;done|skip);rename_i k1 n1 k2 n2;split at w;rename_i T;simp only[ζh,beq_iff_eq]at T;obtain⟨⟨n,rfl⟩,rfl⟩:=T;have m1:kG F none=some none:=rfl;have m2:kG F (some hh)=some (some 0):=(by simp[kG,G]);have m3:kG F (some m)=some (some 0):=(by simp[kG,o]);simp only[bV,B,j,m1,m2,m3,hd];cases a<;>simp[Nl]at n<;>exact w;simp at w
   simp at h
  simp at h
 |build t ps=>
  simp only[resolve]at h;split at h;rename_i d hd;split at h;rename_i fs j;split at h;rename_i pl ad;simp only[ζf,ζc]at h;obtain⟨q,hq,rfl,rfl⟩:=h;refine⟨rfl,λv w=>?_⟩;simp only[bq,ζf]at w;obtain⟨cs,Y,rfl⟩:=w;have⟨ws,R,w2⟩:=K5 (λi=>pl[i]?) _ q vs _ cs hq g Y;simp only[bV,hd,R,j,ad,w2,map_some];simp at h;rename_i len e j;simp only[ζf,ζc]at h;obtain⟨A,ae,rfl,rfl⟩:=h;refine⟨rfl,λv w=>?_⟩;simp only[bq,ζf]at w;obtain⟨cs,Y,rfl⟩:=w;have⟨ws,R,w2⟩:=K5 (λi=>some (i*A.size,A.size)) ps.toList (ps.toList.map λq=>(q.1*A.size,A.size)) vs _ cs (by
   generalize ps.toList=l
   induction l with
   |nil=>rfl|cons x l ih=>simp[List.mapM_cons,ih]) g Y
  simp only[bV,hd,R,j,ae,w2,map_some];simp at h;simp at h
 |makeFunc f a b=>cases f with|func f=>simp only[resolve,ζf,ζc]at h;obtain⟨s,M,rfl,rfl⟩:=h;obtain⟨az,bs,B,G,rfl⟩:=NO g;refine⟨rfl,λv w=>?_⟩;simp only[bq,ζa]at w;subst w;simp only[bV,B,G,hN f s M];rw[<-O2 B];simp|_=>simp[resolve]at h
 |extract x i=>simp only[resolve,ζa,ζc]at h;obtain⟨rfl,rfl⟩:=h;obtain⟨a,B,rfl⟩:=pY g;refine⟨rfl,λv w=>?_⟩;(cases a<;>simp only[bq]at w<;>first|simp at w;done|skip);simp only[bV,B];exact w|load t x=>simp only[resolve,ζf,ζc]at h;obtain⟨d,hd,rfl,rfl⟩:=h;obtain⟨a,B,rfl⟩:=pY g;exact⟨rfl,λH v w=>by simp only[ez,hd,B];exact w⟩|lookup t m k ok=>simp only[resolve]at h;split at h;rename_i kt et j;split at h;rename_i d kk hd L;simp only[ζf,ζc]at h;obtain⟨z,U,rfl,rfl⟩:=h;obtain⟨a,b,B,G,rfl⟩:=uc g;refine⟨rfl,λH v w=>?_⟩;simp only[fA]at w;split at w;rename_i aa O;split at w;rename_i Q;simp only[ez,j,B,G,hd,O,BR L Q,if_true,U];split at w;(next W=>rw[W];exact w);(next W=>rw[W];exact w);simp at w;simp at w;simp at w;simp at h;simp at h|alloc t=>simp only[resolve,ζf,ζc]at h;obtain⟨d,hd,rfl,rfl⟩:=h;have:=rO g;subst this;exact⟨rfl,λx w=>by simpa[iU,fF,hd]using w⟩|box t x=>simp only[resolve,ζa,ζc]at h;obtain⟨rfl,rfl⟩:=h;obtain⟨a,B,rfl⟩:=pY g;exact⟨rfl,λx w=>by simp only[fF,B];exact w⟩|makeSlice t l c=>
  simp only[resolve]at h;split at h
  .rename_i e j;split at h
   .rename_i d hd;split at h
    .rename_i S;simp only[ζa,ζc]at h;obtain⟨rfl,rfl⟩:=h;obtain⟨a,b,B,G,rfl⟩:=uc g;refine⟨rfl,λx w=>?_⟩;(cases a<;>cases b<;>simp only[iU]at w<;>first|simp at w;done|skip);rename_i k1 n1 k2 n2;split at w;(next o=>simp only[fF,j,B,G,hd];rw[if_pos ⟨o.1,o.2.1,o.2.2.1,o.2.2.2.1,o.2.2.2.2,S⟩];exact w);simp at w
    simp at h
   simp at h
  simp at h
 |buildSlice t len ps=>simp only[resolve]at h;split at h;rename_i e j;split at h;rename_i d hd;split at h;rename_i S;simp only[ζa,ζc]at h;obtain⟨rfl,rfl⟩:=h;refine⟨rfl,λx w=>?_⟩;have U:=PZ _ _ g;simp only[iU]at w;split at w;simp only[fF,j,U,hd,if_pos S];exact w;simp at w;simp at h;simp at h;simp at h|makeMap t r=>cases r with|none=>simp only[resolve,ζa,ζc]at h;obtain⟨rfl,rfl⟩:=h;have:=rO g;subst this;exact⟨rfl,λx w=>by simpa[iU,fF]using w⟩|some r=>simp[resolve]at h
 |store t p x=>simp only[resolve,ζf,ζc]at h;obtain⟨d,hd,rfl,rfl⟩:=h;obtain⟨a,b,B,G,rfl⟩:=uc g;refine⟨rfl,λH v w=>?_⟩;(cases a<;>simp only[fP]at w<;>first|simp at w;done|skip);simp only[dz,hd,B,G];exact w|mapUpdate t m k x=>
  simp only[resolve]at h;split at h
  .rename_i kt et j;simp only[ζf,ζc]at h;obtain⟨kk,L,rfl,rfl⟩:=h;obtain⟨a,b,c,B,G,o,rfl⟩:=Jo g;refine⟨rfl,λH v w=>?_⟩;(cases a<;>simp only[fP]at w<;>first|simp at w;done|skip);simp only[dz,j,B,G,o];split at w;rename_i aa O;split at w;(next Q=>rw[O];simp only[BR L Q,if_true];exact w);simp at w;simp at w
  simp at h
 |insert t m k x=>
  simp only[resolve]at h;split at h
  .rename_i kt et j;simp only[ζf,ζc]at h;obtain⟨kk,L,rfl,rfl⟩:=h;obtain⟨a,b,c,B,G,o,rfl⟩:=Jo g;refine⟨rfl,λH v w=>?_⟩;(cases a<;>simp only[fP]at w<;>first|simp at w;done|skip);simp only[dz,j,B,G,o];split at w;rename_i aa O;split at w;(next Q=>rw[O];simp only[BR L Q,if_true];exact w);simp at w;simp at w
  simp at h
 |call c=>
  have⟨callee,args,aj⟩:=c
  cases callee with
  |value f=>simp only[resolve,ζa,ζc]at h;obtain⟨rfl,rfl⟩:=h;obtain⟨a,az,B,has,rfl⟩:=jw g;refine⟨rfl,a,az,rfl,?_⟩;simp only[kP,B,has];cases a<;>rfl|builtin b=>
   cases b with
   |append=>simp only[resolve]at h;split at h;rename_i t t' s x I C;split at h;rename_i e e' j Z;split at h;rename_i d hd;split at h;rename_i S;simp only[ζa,ζc]at h;obtain⟨rfl,rfl⟩:=h;obtain⟨a,b,B,G,rfl⟩:=uc g;refine⟨rfl,λH v w=>?_⟩;have D:fU F args.toList=some [a,b]:=(by rw[C];exact g);simp only[dz,I,D,j,Z,hd];simp only[fP]at w;split at w;(next n J=>rw[n,J];exact w);rename_i xs ys af n J;rw[n,J];split at w;rename_i ah;simp only[if_pos (show xs.length+ys.length<=2147483648/\d.bytes<=4096/\0<d.bytes from⟨ah,S⟩)];(cases ys with|nil=>exact absurd rfl af|cons y ys=>exact w);simp at w;simp at w;simp at h;simp at h;rename_i e kk j Z;simp only[ζf,ζc]at h;obtain⟨d,hd,rfl,rfl⟩:=h;obtain⟨a,b,B,G,rfl⟩:=uc g;refine⟨rfl,λH v w=>?_⟩;have D:fU F args.toList=some [a,b]:=(by rw[C];exact g);simp only[dz,I,D,j,Z,hd];exact w;simp at h;simp at h|cap=>
    simp only[resolve]at h;split at h
    .rename_i t x I C;split at h
     .rename_i e j;simp only[ζa,ζc]at h;obtain⟨rfl,rfl⟩:=h;obtain⟨a,B,rfl⟩:=pY g;have D:fU F args.toList=some [a]:=(by rw[C];exact g);refine⟨rfl,λx w=>?_⟩;simp only[bV,I,D,j];simp only[bq]at w;cases a<;>simp only[K9]at w<;>first|(simp at w;done)|exact w
     simp at h
    simp at h
   |clear=>simp only[resolve]at h;split at h;rename_i t x I C;split at h;rename_i e j;simp only[ζf,ζc]at h;obtain⟨d,hd,rfl,rfl⟩:=h;obtain⟨a,B,rfl⟩:=pY g;have D:fU F args.toList=some [a]:=(by rw[C];exact g);refine⟨rfl,λH v w=>?_⟩;simp only[dz,I,D,j,hd];exact w;simp at h;simp at h|len=>
    simp only[resolve]at h;split at h
    .rename_i t x I C;split at h
     .rename_i j;simp only[ζa,ζc]at h;obtain⟨rfl,rfl⟩:=h;obtain⟨a,B,rfl⟩:=pY g;have D:fU F args.toList=some [a]:=(by rw[C];exact g);refine⟨rfl,λv w=>?_⟩;(cases a<;>simp only[bq]at w<;>first|simp at w;done|skip);simp only[bV,D,I,j];exact w
     rename_i e j;simp only[ζa,ζc]at h;obtain⟨rfl,rfl⟩:=h;obtain⟨a,B,rfl⟩:=pY g;have D:fU F args.toList=some [a]:=by rw[C];exact g
     refine⟨rfl,λv w=>?_⟩;simp only[bV,D,I,j];simp only[bq,pI]at w;cases a<;>simp at w⊢ <;>exact w;simp at h
    simp at h
   |max=>
    simp only[resolve]at h;split at h
    .rename_i x y C;simp only[ζa,ζc]at h;obtain⟨rfl,rfl⟩:=h;obtain⟨a,b,B,G,rfl⟩:=uc g;have D:fU F args.toList=some [a,b]:=(by rw[C];exact g);refine⟨rfl,λv w=>?_⟩;(cases a<;>cases b<;>simp only[bq]at w<;>first|simp at w;done|skip);simp only[bV,D];exact w
    .rename_i x y z t C;simp only[ζa,ζc]at h;obtain⟨rfl,rfl⟩:=h;obtain⟨a,ak,B,J,rfl⟩:=jw g;obtain⟨b,c,d,G,o,hd,rfl⟩:=Jo J;have D:fU F args.toList=some [a,b,c,d]:=(by rw[C];exact g);refine⟨rfl,λv w=>?_⟩;(cases a<;>cases b<;>simp only[bq]at w<;>first|simp at w;done|skip);(cases c<;>cases d<;>simp only[bq]at w<;>first|simp at w;done|skip);simp only[bV,D];exact w
    simp at h
   |min=>
    simp only[resolve]at h;split at h
    .rename_i x y C;simp only[ζa,ζc]at h;obtain⟨rfl,rfl⟩:=h;obtain⟨a,b,B,G,rfl⟩:=uc g;have D:fU F args.toList=some [a,b]:=(by rw[C];exact g);refine⟨rfl,λv w=>?_⟩;(cases a<;>cases b<;>simp only[bq]at w<;>first|simp at w;done|skip);simp only[bV,D];exact w
    simp at h
   |_=>simp[resolve]at h
  |_=>simp[resolve]at h
 |panic x=>simp only[resolve,ζa,ζc]at h;obtain⟨rfl,rfl⟩:=h;have:=rO g;subst this;exact⟨rfl,λx w=>by simp[bq]at w⟩|makeInterface t x=>simp only[resolve,ζa,ζc]at h;obtain⟨rfl,rfl⟩:=h;have:=rO g;subst this;exact⟨rfl,λx w=>by simp[bq]at w⟩|_=>simp[resolve]at h
end
structure Bo(c c':dL):Prop where
 lv:c.lv<=c'.lv
 go:∀x a H r,c x a H=some r->c' x a H=some r
section
variable{E:Env}{c c':dL}{n:Nat}{ops:R'}{F F':WP}{H H':bp}
def Jw{f:Y'}{args:T2}{y:V}(hi:ct c f args H=some y):∃az,borrows c.lv H args=some az:=by
 unfold ct at hi;split at hi;next az h=>exact⟨az,h⟩
 cases hi
def EC(B:c.lv<=c'.lv){f:Y'}(h:∀a H r,c (.fn f) a H=some r->c' (.fn f) a H=some r){args:T2}{y:V}(hi:ct c f args H=some y):ct c' f args H=some y:=by
 unfold ct at hi⊢;split at hi;rename_i az u;rw[uh B u];split at hi;rename_i b;simp only;rw[h _ _ _ b];split at hi;next w=>simp only;rw[tR B w];exact hi
 cases hi;simp at hi;simp at hi
def pL(h:Bo c c'){f:Y'}{args:T2}{y:V}(hi:ct c f args H=some y):ct c' f args H=some y:=EC h.lv (λ_ _ _=>h.go _ _ _ _) hi
def nN(B:c.lv<=c'.lv){f:Y'}{args:T2}{y:V}(hi:ct c f args H=some y):c9 (cw c'.lv H) args=c9 (cw c.lv H) args:=by have⟨az,h⟩:=Jw hi;exact Aj B h
def Em(B:c.lv<=c'.lv){f:Y'}(h:∀a H r,c (.fn f) a H=some r->c' (.fn f) a H=some r){args:T2}{r:V×bp}(hi:lI c f args H=some r):lI c' f args H=some r:=by
 unfold lI at hi⊢;split at hi;rename_i az u;rw[uh B u];split at hi;next b=>simp only;rw[h _ _ _ b];exact hi
 simp at hi;simp at hi
def K8(h:Bo c c'){f:Y'}{args:T2}{r:V×bp}(hi:lI c f args H=some r):lI c' f args H=some r:=Em h.lv (λ_ _ _=>h.go _ _ _ _) hi
def Cg(h:Bo c c'){f:Y'}{args:T2}{r:V×bp}(hi:fI E c f args H=some r):fI E c' f args H=some r:=by
 unfold fI at hi⊢;split;next u=>rw[if_pos u]at hi;exact K8 h hi
 rename_i u;rw[if_neg u]at hi;exact h.go _ _ _ _ hi
def BP(U:c.lv<=c'.lv){f:Y'}{args:T2}{y G:V}{b:Nat}(a:ct c f args (H.take b)=none)(B:ct c f args H=some y)(D:ct c' f args (H.take b)=some G):False:=by
 unfold ct at a B D;split at D;rename_i az d;split at B;rename_i I u;have e:=pR (λx y z k1 k2=>LD (H2:=H.take b) c.lv c'.lv x y z k1 k2 λid w=>by
  rw[getElem?_take]at w⊢;split at w
  next C=>rw[if_pos C]
  cases w) u d
 have J:borrows c.lv H args=some az:=nV (Di c.lv) e;rw[J]at u;cases u;rw[show borrows c.lv (H.take b) args=some az from e]at a;simp only at a;rw[a]at B;simp at B;simp at B;simp at D
def Po(h:Bo c c'){place:a_ (Nat×Nat)}{op:Op}{r:V×bp}(hi:dJ E c ops place F H op=some r):dJ E c' ops place F H op=some r:=by
 unfold dJ at hi⊢;split at hi;exact hi;exact hi;exact hi;exact hi;split at hi;rename_i f args B;split at hi;rename_i a;rw[if_pos a];split at hi;exact Cg h hi;skip;split at hi;next z=>rw[if_pos z];exact Cg h hi
 simp at hi;rename_i a;rw[if_neg a];split at hi;skip;split at hi;next y u=>rw[pL h u,nN h.lv u];exact hi
 simp at hi;rename_i b i;skip;split at hi;next y u=>rw[pL h u,nN h.lv u];exact hi
 rename_i w;split at hi;rename_i z;split at hi;rename_i y u;cases C:ct c' f args (take b H)with|some D=>exact(BP h.lv w u C).elim|none=>simp only[if_pos z,pL h u,nN h.lv u];exact hi
 simp at hi;simp at hi;rename_i id args B;split at hi;exact h.go _ _ _ _ hi;skip;split at hi;next z=>rw[if_pos z];exact h.go _ _ _ _ hi
 simp at hi;simp at hi
def Fy(h:Bo c c'){place:a_ (Nat×Nat)}{o:Oper}{r:WP×bp}(hi:gW E c n ops place o F H=some r):gW E c' n ops place o F H=some r:=by
 unfold gW at hi⊢;split at hi;rename_i u;rw[if_pos u];split at hi;next v H1 hd=>rw[Po h hd];exact hi
 simp at hi;rename_i u;rw[if_neg u];exact hi
def C_(h:Bo c c'){r:WP×bp}:∀(l:R'){F:WP}{H:bp},nk E c n ops l F H=some r->nk E c' n ops l F H=some r
 |[],_,_,hi=>hi|o::l,F,H,hi=>by simp only[nk]at hi⊢;split at hi;(next F1 H1 B=>rw[Fy h B];exact C_ h l hi);simp at hi
def Dn(h:Bo c c'){base:Nat}{r:WP×bp}:∀(l:S'){F:WP}{H:bp},kH E c n ops base l F H=some r->kH E c' n ops base l F H=some r
 |[],_,_,hi=>hi|i::l,F,H,hi=>by simp only[kH]at hi⊢;split at hi;split at hi;(next F1 H1 B=>rw[Fy h B];exact Dn h l hi);simp at hi;simp at hi
def FN(h:Bo c c'){B:X'}{r:WP×bp}(hi:kq E c n ops B F H=some r):kq E c' n ops B F H=some r:=by
 unfold kq at hi⊢;split;rename_i hd;rw[if_pos hd]at hi;split at hi;next u=>rw[if_pos u];exact Dn h _ hi
 simp at hi;rename_i hd;rw[if_neg hd]at hi;exact C_ h _ hi
def Ay{s J:WP->bp->a_ (Out×WP×bp)}(h:∀F H r,s F H=some r->J F H=some r):∀(k B:Nat),k<=B->∀{F H r},lQ s k F H=some r->lQ J B F H=some r
 |0,_,_,F,H,r,hi=>by simp[lQ]at hi|k+1,0,hk,F,H,r,hi=>Zaa|k+1,B+1,hk,F,H,r,hi=>by simp only[lQ]at hi⊢;split at hi;(next F1 H1 U=>rw[h _ _ _ U];exact Ay h k B Zaa hi);rename_i D;rw[h _ _ _ hi];split;(next F1 H1 G=>cases G;exact absurd hi (D _ _));rfl
def Cc(h:Bo c c'){lf B:Nat}(U:lf<=B)(ro:X')(e:Nat):∀(code:Code){F:WP}{H:bp}{r:Out×WP×bp},exec E c lf ro e code F H=some r->exec E c' B ro e code F H=some r:=by intro code;induction code with|skip=>intro F H r hi;exact hi|label l=>intro F H r hi;exact hi|region id ops J=>intro F H r hi;simp only[exec,ζf]at hi⊢;obtain⟨x,L,rfl⟩:=hi;exact⟨x,FN h L,rfl⟩|seq a b u z=>intro F H r hi;simp only[exec]at hi⊢;split at hi;(next F1 H1 d=>rw[u d];exact z hi);rename_i C;rw[u hi];split;(next D=>cases D;exact absurd hi (C _ _));rfl|cond x a b u z=>intro F H r hi;simp only[exec]at hi⊢;split at hi;rename_i t S;split at hi;(next G=>subst G;simp only[if_true];exact u hi);rename_i G;rw[if_neg G];exact z hi;simp at hi|block id a I=>intro F H r hi;simp only[exec]at hi⊢;split at hi;(next O F1 H1 d=>rw[I d];exact hi);rename_i C;rw[I hi];split;(next D=>cases D;exact absurd hi (C _ _ _));rfl|loop a I=>intro F H r hi;simp only[exec]at hi⊢;exact Ay (λF H r f=>I f) lf B U hi|rangeFunc g ps T W _ _=>intro F H r hi;simp only[exec]at hi⊢;split at hi;split at hi;(next Q H1 i=>rw[h.go _ _ _ _ i];exact hi);simp at hi;simp at hi|exit id=>intro F H r hi;exact hi|ret=>intro F H r hi;exact hi|scope a _=>intro F H r hi;simp[exec]at hi|goto l=>intro F H r hi;simp[exec]at hi|refuse w=>intro F H r hi;simp[exec]at hi
def Je(E:Env):∀n,Bo (run E n) (run E (n+1)):=by intro n;induction n with|zero=>exact⟨le_succ _,λx a H r h=>(by cases h)⟩|succ n u=>refine⟨le_succ _,λx a H r h=>?_⟩;rw[IJ]at h⊢;cases x with|fn f=>rw[kB]at h⊢;split at h;rename_i U O;split at h;rename_i B;rw[if_pos B];split at h;simp at h;rename_i o F1 H1 C Q;rw[Cc u (le_succ n) _ _ _ Q];(cases o with|exit id=>exact(C id rfl).elim|norm=>exact h|ret=>exact h);simp at h;simp at h;split at h;(next D=>rw[if_pos D];exact El u.lv (λg args y _ S=>pL u S) h);rename_i D;rw[if_neg D];exact h|yld id=>rw[kB]at h⊢;split at h;rename_i b L;split at h;rename_i T;split at h;rename_i w;split at h;rename_i W H2 G;split at h;rename_i r2 I;split at h;rename_i z;split at h;(next o X Y J=>simp only[if_pos w,Cc u (le_succ n) _ _ _ G,I,z,Cc u (le_succ n) _ _ _ J];exact h);simp at h;simp at h;simp at h;simp at h;simp at h;simp at h;simp at h
def n9(E:Env){n m:Nat}(h:n<=m):Bo (run E n) (run E m):=by induction h with|refl=>exact⟨le_refl _,λ_ _ _ _ h=>h⟩|step _ u=>exact⟨le_trans u.lv (Je E _).lv,λx a H r h=>(Je E _).go x a H r (u.go x a H r h)⟩
def pG(E:Env):∀n,(run E n).lv=n
 |0=>rfl|_+1=>rfl
end
def N5(P:Program)(f:Y'):a_ FI:=(P.funcs[f]?).bind λfn=>fn.body.map λb=>⟨fn.ntmps,fn.results.toList,b⟩
def CA(P:Program):X':=P.funcs.toList.all λfn=> !(fn.name== "runtime.NumGoroutine")
def Xq{P:Program}(h:CA P=true){f:Y'}{fi:FI}(B:N5 P f=some fi):∃fn,P.funcs[f]?=some fn/\fn.body=some fi.body/\fn.ntmps=fi.ntmps/\fn.results.toList=fi.results/\(fn.name== "runtime.NumGoroutine")=false:=by unfold N5 at B;have⟨fn,h1,w⟩:=ζg.1 B;obtain⟨b,z,rfl⟩:=ζf.1 w;refine⟨fn,h1,z,rfl,rfl,?_⟩;unfold CA at h;rw[List.all_eq_true]at h;have C:=h fn (by obtain⟨u,rfl⟩:=Array.getElem?_eq_some_iff.1 h1;exact Array.mem_toList_iff.2 (Array.getElem_mem u));simpa using C
def EG(P:Program)(shut keep own:S')(two:aZ (Nat×Nat))(a:Y'->X')(known:Y'->T2->a_ V):Env where
 tt:=yb P
 ft f:=if shut.contains f then none else N5 P f
 keep:=keep.contains
 own:=own.contains
 eqN t:=lk two t
 sort:=a
 known:=known
def La{P:Program}{shut keep own:S'}{two:aZ (Nat×Nat)}{a:Y'->X'}{known:Y'->T2->a_ V}(h:CA P=true)(B:∀p∈two,xQ P p.1 p.2):eZ P (EG P shut keep own two a known)where
 tt t d h:=h
 ft f w u:=by change(if shut.contains f then none else N5 P f)=some w at u;split at u;cases u;exact Xq h u
 eqN t n z:=B (t,n) (Qg z)
section
variable{P:Program}{I:cE}{μ:Mu}{H:bp}{w:World}{n:Nat}
variable{f A S e:Nat}{fn:Func}{bytes i1 i2 i3 i4 t1 t2 t6 t7:Nat}{p1 p2 p3 p4 p5 p6 p7:String}{e1 e2 e3 e4 e5 e6 e7:Array Edge}
end
end Go.VE
namespace Go.VE
variable[b8]
variable{P:Program}
def Jg(a:ST)(j:Nat):(ic a)[j]?=(a[j]?).map (Value.int .i64):=by simp[ic]
def HT{i:W'}{a b:ST}{n:Nat}(G:a.length=n)(J:b.length=n)(hi:yb P i=some ⟨1,8,[.int .i64 0],.int .i64⟩)(B:P.underlying i=some (.int .i64))(d:Nat)(w:World):
 ∀(m k:Nat),k+m=n->(eqItems (d+1) i 1 (ic a) (ic b) (range' k m)).run P w=.ok (a.drop k==b.drop k) w
 |0,k,h=>by have c:a.drop k=[]:=List.drop_eq_nil_of_le Zaa;have I:b.drop k=[]:=List.drop_eq_nil_of_le Zaa;simp[eqItems,c,I]|m+1,k,h=>by have u:k<a.length:=Zaa;have z:k<b.length:=Zaa;have pa:(part i (ic a) (k*1)).run P w=.ok (.int .i64 a[k]) w:=tf hi (by rw[Jg,mul_one];simp[u]);have L:(part i (ic b) (k*1)).run P w=.ok (.int .i64 b[k]) w:=tf hi (by rw[Jg,mul_one];simp[z]);have q:(equalIn (d+1) i (.int .i64 a[k]) (.int .i64 b[k])).run P w=.ok (a[k]==b[k]) w:=Db d _ _ B;have O:=HT G J hi B d w m (k+1) Zaa;have C:=List.drop_eq_getElem_cons u;have D:=List.drop_eq_getElem_cons z;simp only[List.range'_succ,eqItems,run_bind,pa,L,q,andThen_ok];by_cases e:a[k]=b[k];rw[C,D,List.cons_beq_cons,e];simp only[beq_self_eq_true,Bool.not_true,Bool.true_and,if_false,Bool.false_eq_true];exact O;have:(a[k]==b[k])=false:=(by simpa using e);rw[C,D,List.cons_beq_cons,this];simp only[Bool.not_false,if_true,Bool.false_and,run_pure]
def I_{i:W'}{a:ST}{n:Nat}(e:X')(G:a.length=n)(hi:yb P i=some ⟨1,8,[.int .i64 0],.int .i64⟩)(B:P.underlying i=some (.int .i64))(d:Nat)(w:World):
 ∀(m k:Nat),k+m=n->(forIn (range' k m) PUnit.unit (λj(_:PUnit)=>do
  let s<-sizeOf i
  let v<-part i (ic a) (j*s)
  checkKey e (d+1) i v
  pure (ForInStep.yield PUnit.unit)):Sem PUnit).run P w=.ok PUnit.unit w
 |0,k,h=>Zab|m+1,k,h=>by have D:k<a.length:=Zaa;have pa:(part i (ic a) (k*1)).run P w=.ok (.int .i64 a[k]) w:=tf hi (by rw[Jg,mul_one];simp[D]);have z:(sizeOf i).run P w=.ok 1 w:=(ru.N_ hi).lB;have q:(checkKey e (d+1) i (.int .i64 a[k])).run P w=.ok () w:=Bz d e _ B;have u:=I_ e G hi B d w m (k+1) Zaa;simp only[List.range'_succ,List.forIn_cons,run_bind,z,pa,q,andThen_ok,run_pure]at u⊢;exact u
def xQ.arr{t i:W'}{n:Nat}(c:P.underlying t=some (.array n i))(hi:yb P i=some ⟨1,8,[.int .i64 0],.int .i64⟩)(J:P.underlying i=some (.int .i64))(U:P.eqGuardType P.depth t=false):xQ P t n:=by
 have⟨Q,z,B,O,_⟩:=(ru.N_ hi).info;have C:P.cellsOf i=1:=by unfold Program.cellsOf;simp[B,O]
 have D:∀(w:World)(a b:ST),a.length=n->b.length=n->(equal t (.agg (ic a)) (.agg (ic b))).run P w=.ok (a==b) w:=by intro w a b G I;show(equalIn (9999+1) t _ _).run P w=_;rw[run_equalIn_array w 9999 _ _ c B,C,List.range_eq_range'];simpa using HT G I hi J 9998 w n 0 Zaa
 have L:∀(op:BinOp)(p q:UV)(w:World)(u v:Array V'),(eqGuard op t p q (.agg u) (.agg v)).run P w=.ok () w:=by intro op p q w u v;unfold eqGuard;cases op<;>simp[run_bind,run_program,andThen,U]
 refine⟨?_,?_,D,?_,⟨_,c,.inl ⟨_,_,rfl⟩⟩⟩;intro w p q a b G I;rw[run_bind,L,andThen_ok];show(do pure (Value.bool (<-equal t (.agg (ic a)) (.agg (ic b)))):Sem V').run P w=_;rw[run_bind,D _ _ _ G I];rfl;intro w p q a b G I;rw[run_bind,L,andThen_ok];show(do pure (Value.bool (!(<-equal t (.agg (ic a)) (.agg (ic b))))):Sem V').run P w=_;rw[run_bind,D _ _ _ G I];rfl;intro w e a G;show(checkKey e (9999+1) t _).run P w=_;unfold checkKey;simp only[run_bind,dW c,andThen_ok];have:=I_ e G hi J 9998 w n 0 Zaa;simp only[Std.Legacy.Range.forIn_eq_forIn_range',Std.Legacy.Range.size,Nat.sub_zero,Nat.add_one_sub_one,Nat.div_one];rw[show(9998+1:Nat)=9999 from rfl]at this;rw[this];rfl
end Go.VE
namespace Go.VE
variable[b8]
structure CR(E:Env)(c c':dL):Prop where
 lv:c.lv<=c'.lv
 QA:∀f args H y,E.keep f=false->ct c f args H=some y->ct c' f args H=some y
 dir:∀f args H r,E.keep f=true->c (.fn f) args H=some r->c' (.fn f) args H=some r
 yld:∀id args H r,c (.yld id) args H=some r->c' (.yld id) args H=some r
 rng:∀f args H r,H≠[]->c (.fn f) args H=some r->c' (.fn f) args H=some r
section
variable{E:Env}{c c':dL}{n:Nat}{ops:R'}{F F':WP}{H H':bp}
def Lz(h:CR E c c'){f:Y'}{args:T2}{r:V×bp}(a:E.keep f=true)(hi:lI c f args H=some r):lI c' f args H=some r:=Em h.lv (λ_ _ _=>h.dir _ _ _ _ a) hi
def Dq(h:CR E c c'){f:Y'}{args:T2}{r:V×bp}(a:E.keep f=true)(hi:fI E c f args H=some r):fI E c' f args H=some r:=by
 unfold fI at hi⊢;split;next u=>rw[if_pos u]at hi;exact Lz h a hi
 rename_i u;rw[if_neg u]at hi;exact h.dir _ _ _ _ a hi
def Dl{place:a_ (Nat×Nat)}{f:Y'}(h:mD E ops place f=true):E.keep f=true:=by unfold mD at h;grind
def CR.any(h:CR E c c'){f:Y'}{args:T2}{H:bp}{y:V}(hi:ct c f args H=some y):ct c' f args H=some y:=by cases a:E.keep f with|false=>exact h.QA _ _ _ _ a hi|true=>exact EC h.lv (λ_ _ _=>h.dir _ _ _ _ a) hi
def R2(h:CR E c c'){place:a_ (Nat×Nat)}{op:Op}{r:V×bp}(hi:dJ E c ops place F H op=some r):dJ E c' ops place F H op=some r:=by
 unfold dJ at hi⊢;split at hi;omega;omega;omega;omega;split at hi;rename_i f args B;split at hi;rename_i a;rw[if_pos a];split at hi;exact Dq h (Dl a) hi;split at hi;next z=>rw[if_pos z];exact Dq h (Dl a) hi
 grind;rename_i a;rw[if_neg a];split at hi;split at hi;next y u=>rw[h.any u,nN h.lv u];exact hi
 grind;rename_i b i;split at hi;next y u=>rw[h.any u,nN h.lv u];exact hi
 rename_i w;split at hi;rename_i z;split at hi;rename_i y u;cases C:ct c' f args (take b H)with|some D=>exact(BP h.lv w u C).elim|none=>simp only[if_pos z,h.any u,nN h.lv u];exact hi
 grind;grind;split at hi;exact h.yld _ _ _ _ hi;split at hi;next z=>rw[if_pos z];exact h.yld _ _ _ _ hi
 grind;grind
def HM(h:CR E c c'){place:a_ (Nat×Nat)}{o:Oper}{r:WP×bp}(hi:gW E c n ops place o F H=some r):gW E c' n ops place o F H=some r:=by
 unfold gW at hi⊢;split at hi;rename_i u;rw[if_pos u];split at hi;next v H1 hd=>rw[R2 h hd];omega
 grind;grind
def EZ(h:CR E c c'){r:WP×bp}:∀(l:R'){F:WP}{H:bp},nk E c n ops l F H=some r->nk E c' n ops l F H=some r
 |[],_,_,hi=>hi|o::l,F,H,hi=>by simp[nk]at hi⊢;split at hi;(next F1 H1 B=>rw[HM h B];exact EZ h l hi);grind
def E7(h:CR E c c'){base:Nat}{r:WP×bp}:∀(l:S'){F:WP}{H:bp},kH E c n ops base l F H=some r->kH E c' n ops base l F H=some r
 |[],_,_,hi=>hi|i::l,F,H,hi=>by simp[kH]at hi⊢;split at hi;split at hi;(next F1 H1 B=>rw[HM h B];exact E7 h l hi);grind;grind
def Iy(h:CR E c c'){B:X'}{r:WP×bp}(hi:kq E c n ops B F H=some r):kq E c' n ops B F H=some r:=by
 unfold kq at hi⊢;split;rename_i hd;rw[if_pos hd]at hi;split at hi;next u=>rw[if_pos u];exact E7 h _ hi
 grind;rename_i hd;rw[if_neg hd]at hi;exact EZ h _ hi
def DK(h:CR E c c'){lf B:Nat}(G:lf<=B)(ro:X')(d:Nat):∀(code:Code){F:WP}{H:bp}{r:Out×WP×bp},exec E c lf ro d code F H=some r->exec E c' B ro d code F H=some r:=by intro code;induction code with|skip=>intro F H r hi;exact hi|label l=>intro F H r hi;exact hi|region id ops C=>intro F H r hi;simp only[exec,ζf]at hi⊢;obtain⟨x,I,rfl⟩:=hi;exact⟨x,Iy h I,rfl⟩|seq a b u z=>intro F H r hi;simp[exec]at hi⊢;grind|cond x a b u z=>intro F H r hi;simp[exec]at hi⊢;grind|block id a D=>intro F H r hi;simp[exec]at hi⊢;grind|loop a D=>intro F H r hi;exact Ay (λF H r e=>D e) lf B G hi|rangeFunc g ps L O _ _=>intro F H r hi;simp[exec]at hi⊢;split at hi;split at hi;(next J H1 f=>rw[h.rng _ _ _ _ Zab f];omega);grind;grind|exit id=>intro F H r hi;exact hi|ret=>intro F H r hi;exact hi|scope a _=>intro F H r hi;simp[exec]at hi|goto l=>intro F H r hi;simp[exec]at hi|refuse w=>intro F H r hi;simp[exec]at hi
def Ci(h:CR E c c'){n m:Nat}(B:n<=m){x:Callee}{a:T2}{r:V×bp}(hi:kB E c n x a H=some r):kB E c' m x a H=some r:=by cases x with|fn f=>rw[kB]at hi⊢;split at hi;split at hi;rename_i G;split at hi;simp_all;rename_i o F1 H1 I J;rw[DK h B _ _ _ J];grind;grind;grind;split at hi;(next L=>rw[if_pos L];exact El h.lv (λg args y b O=>h.QA _ _ _ _ b O) hi);grind|yld id=>rw[kB]at hi⊢;split at hi;split at hi;split at hi;rename_i u;split at hi;rename_i Q H2 z;split at hi;rename_i r2 C;split at hi;rename_i w;split at hi;(next o S T D=>simp only[if_pos u,DK h B _ _ _ z,C,w,DK h B _ _ _ D];omega);grind;grind;grind;grind;grind;grind;grind
mutual
def V.same:Nat->V->V->X'
 |0,_,_=>false|_+1,.bool a,.bool b=>a==b|_+1,.int k a,.int l b=>decide (k=l)&&decide (a=b)|_+1,.str a,.str b=>decide (a.data.toList=b.data.toList)|_+1,.bO,.bO=>true|_+1,.dU,.dU=>true|_+1,.iR,.iR=>true|_+1,.gM,.gM=>true|_+1,.tE,.tE=>true|n+1,.agg a,.agg b=>V.sN n a b|n+1,.tup a,.tup b=>V.sN n a b|n+1,.fptr a,.fptr b=>V.sN n a b|n+1,.fsl e a,.fsl B b=>beq e B&&V.Bw n a b|n+1,.clo f a b,.clo D a' G=>beq f D&&V.sN n a a'&&V.sN n b G|_+1,_,_=>false
def V.sN:Nat->T2->T2->X'
 |0,_,_=>false|_+1,[],[]=>true|n+1,a::r,b::s=>V.same n a b&&V.sN n r s|_+1,_,_=>false
def V.Bw:Nat->T'->T'->X'
 |0,_,_=>false|_+1,[],[]=>true|n+1,a::r,b::s=>V.sN n a b&&V.Bw n r s|_+1,_,_=>false
end
def Wo:∀n,(∀a b,V.same n a b=true->a=b)/\(∀a b,V.sN n a b=true->a=b)/\(∀a b,V.Bw n a b=true->a=b):=by
 intro n
 induction n with
 |zero=>exact⟨λa b h=>by simp[V.same]at h,λa b h=>by simp[V.sN]at h,λa b h=>by simp[V.Bw]at h⟩|succ n u=>
  have⟨i1,i2,i3⟩:=u;refine⟨λa b h=>?_,λa b h=>?_,λa b h=>?_⟩
  .cases a<;>cases b<;>simp only[V.same,ζh,decide_eq_true_eq,Bool.false_eq_true]at h<;>first|rfl|grind|skip
   all_goals first
    |grind|grind|grind|(rw[Nat.eq_of_beq_eq_true h.1,i3 _ _ h.2])|(rw[Nat.eq_of_beq_eq_true h.1.1,i2 _ _ h.1.2,i2 _ _ h.2])|(congr 1;exact ByteArray.ext (ext' h))
  .cases a<;>cases b<;>simp[V.sN]at h<;>first|rfl|grind|grind
  cases a<;>cases b<;>simp[V.Bw]at h<;>first|rfl|grind|grind
structure gb where
 f:FuncId
 az:List V
 y:V
def Al:aZ gb->Y'->T2->a_ V
 |[],_,_=>none|k::r,f,az=>bif beq k.f f&&V.sN 1000 k.az az then some k.y else Al r f az
def DB:∀{l:aZ gb}{f:Y'}{az:T2}{y:V},Al l f az=some y->∃k∈l,k.f=f/\k.az=az/\k.y=y
 |[],_,_,_,h=>by simp[Al]at h|k::r,f,az,y,h=>by unfold Al at h;cases B:beq k.f f&&V.sN 1000 k.az az with|true=>simp only[ζh]at B;exact⟨k,mem_cons_self ..,Nat.eq_of_beq_eq_true B.1,(Wo 1000).2.1 _ _ B.2,Zac⟩|false=>rw[B]at h;have⟨q,a,D⟩:=DB h;grind
def IZ(E:Env)(l:aZ gb)(c:dL)(n:Nat):Callee->T2->bp->a_ (V×bp)
 |.fn f,az,[]=>match Al l f az with
  |some y=>some (y,[])|none=>kB E c n (.fn f) az []
 |x,az,H=>kB E c n x az H
def runM(E:Env)(l:aZ gb):Nat->dL
 |0=>⟨0,λ_ _ _=>none⟩|n+1=>⟨n+1,IZ E l (runM E l n) n⟩
def WW(E:Env)(l:aZ gb):∀n,(runM E l n).lv=n
 |0=>rfl|_+1=>rfl
def Ro{l:aZ gb}{n:Nat}{x:Callee}{a:T2}{H:bp}:runM E l (n+1) x a H=IZ E l (runM E l n) n x a H:=rfl
def xH(E:Env)(n:Nat)(k:gb):Prop:=∃r H1,run E n (.fn k.f) k.az []=some (r,H1)/\borrow n H1 r=some k.y
structure gU(E:Env)(k:gb):Prop where
 keep:E.keep k.f=false
 cl:k.y.closed=true
 at_:∃n,xH E n k
def xH.le{n m:Nat}{k:gb}(h:xH E n k)(B:n<=m):xH E m k:=by have⟨r,H1,a,u⟩:=h;exact⟨r,H1,(n9 E B).go _ _ _ _ a,tR B u⟩
def Bn:∀{l:aZ gb},(∀k∈l,gU E k)->∃N,∀k∈l,xH E N k
 |[],_=>⟨0,Zab⟩|k::r,h=>by have⟨N,B⟩:=Bn (λq a=>h q (mem_cons_of_mem _ a));have⟨n,u⟩:=(h k (mem_cons_self ..)).at_;refine⟨max N n,λq a=>?_⟩;rcases mem_cons.1 a with rfl|a;exact u.le (Nat.le_max_right ..);exact(B q a).le (Nat.le_max_left ..)
def Bi{l:aZ gb}{x:Callee}{az:T2}(h:H≠[]\/(∃id,x=.yld id)\/∃f,x=.fn f/\Al l f az=none):runM E l (n+1) x az H=kB E (runM E l n) n x az H:=by
 rcases h with h|⟨id,rfl⟩|⟨f,rfl,h⟩;cases x with|yld id=>rfl|fn f=>cases H with|nil=>exact absurd rfl h|cons a r=>rfl
 rfl;cases H with|nil=>rw[Ro,IZ,h]|cons a r=>rfl
def MK{l:aZ gb}{N:Nat}(D:∀k∈l,gU E k)(G:∀k∈l,xH E N k):∀n,CR E (runM E l n) (run E (N+n)):=by intro n;induction n with|zero=>refine⟨Nat.zero_le _,λf args H y _ h=>?_,λf args H r _ h=>(by cases h),λid args H r h=>(by cases h),λf args H r _ h=>(by cases h)⟩;unfold ct at h;split at h;cases h;cases h|succ n I=>have up:∀{x:Callee}{az:T2}{H:bp}{r:V×bp},kB E (runM E l n) n x az H=some r->run E (N+(n+1)) x az H=some r:=λh=>(by rw[show N+(n+1)=(N+n)+1 from rfl,IJ];exact Ci I (le_add_left ..) h);have w:(runM E l (n+1)).lv<=(run E (N+(n+1))).lv:=(by rw[WW,pG];exact le_add_left ..);refine⟨w,λf args H y b h=>?_,λf args H r b h=>?_,λid args H r h=>?_,λf args H r B h=>?_⟩;unfold ct at h⊢;split at h;rename_i az c;rw[uh w c];split at h;rename_i r H1 a;(cases z:Al l f az with|none=>rw[Bi (.inr (.inr ⟨f,rfl,z⟩))]at a;simp only;rw[up a];split at h;(next Q J=>simp only;rw[tR w J];exact h);cases h|some S=>rw[Ro,IZ,z]at a;obtain⟨rfl,rfl⟩:=a;obtain⟨k,u,rfl,rfl,rfl⟩:=DB z;have ok:=D k u;have⟨r1,H2,d,L⟩:=(G k u).le (Nat.le_add_right N (n+1));rw[k_ _ _ ok.cl]at h;simp only[d,pG,L];exact h);cases h;cases h;by_cases z:H≠[]\/(∃id,(Callee.fn f)=.yld id)\/∃C,Callee.fn f=.fn C/\Al l C args=none;rw[Bi z]at h;exact up h;(cases O:Al l f args with|none=>grind|some y=>obtain⟨k,u,rfl,_,_⟩:=DB O;rw[(D k u).keep]at b;cases b);exact up h;rw[Bi (.inl B)]at h;exact up h
def X8(E:Env)(l:aZ gb)(n:Nat)(k:gb):a_ V:=
 match kB E (runM E l n) n (.fn k.f) k.az []with
 |some (r,H1)=>borrow n H1 r|none=>none
def iJ{l:aZ gb}(B:∀k∈l,gU E k){k:gb}(h:(X8 E l n k,k.y.closed,E.keep k.f)=(some k.y,true,false)):gU E k:=by simp at h;have⟨N,u⟩:=Bn B;refine⟨h.2.2,h.2.1,N+n+1,?_⟩;have a:=h.1;unfold X8 at a;split at a;rename_i r H1 w;refine⟨r,H1,?_,tR Zaa a⟩;exact Ci (MK B u n) (le_add_left ..) w;grind
def UX(E:Env)(l:aZ gb)(n:Nat)(f:Y')(az:T2):X':=
 match kB E (runM E l n) n (.fn f) az []with
 |some (.bool b,_)=>b|_=>false
def Oc{l:aZ gb}(B:∀k∈l,gU E k){f:Y'}{az:T2}(h:UX E l n f az=true):∃n H1,run E n (.fn f) az []=some (.bool true,H1):=by
 have⟨N,u⟩:=Bn B;unfold UX at h;split at h;next b H1 w=>subst h;exact⟨N+n+1,H1,(Ci (MK B u n) (le_add_left ..) w)⟩
 simp_all
end
end Go.VE
