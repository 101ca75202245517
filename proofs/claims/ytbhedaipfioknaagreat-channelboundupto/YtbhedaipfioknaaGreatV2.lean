/-
 The engine: operations of the loaded code on values without a heap; a run of it is a run of the program.
-/
import Derived.RangeFuncRecord
import Derived.Shelf.SlSortCmp.NoneTotal
import Derived.RangeFuncLeaves
import Derived.Laws.StructEq
import Derived.ChangeKeysEq
import Derived.Test.YtbhedaipfioknaaGreatV1
set_option linter.all false
open Nat(beq le_add_left le_refl le_succ le_trans mul_one)
open List(finRange getElem?_take mem_cons mem_cons_of_mem mem_cons_self mem_map range' take)
open Array(ext' replicate)
open Option(map_some)
open Go.Sem(run_bind run_pure)
open Go.Result(andThen andThen_ok)
open Go.Instr(checkKey)
open Go.Op(bytesLess eqItems equal equalIn)
open BitVec(ofInt)
namespace Go.VE
variable[bV]
def Out.FZ:Out->Exit
 |.norm=>.normal|.exit id=>.exit id|.ret=>.ret
def exists_least(p:Nat->Prop):∀k,p k->∃m,p m/\∀j,p j->m<=j:=by intro k;induction k using Nat.strongRecOn with|_ k u=>intro b;by_cases h:∃j,j<k/\p j;have⟨j,w,a⟩:=h;exact u j w a;exact⟨k,b,λj a=>Nat.le_of_not_lt λt=>h ⟨j,t,a⟩⟩
open Classical in
noncomputable def least(p:Nat->Prop):Nat:=if h:∃m,p m/\∀j,p j->m<=j then h.choose else 0
def Jl(p:Nat->Prop){k:Nat}(a:p k):p (least p)/\least p<=k:=by have h:=exists_least p k a;unfold least;rw[dif_pos h];exact⟨h.choose_spec.1,h.choose_spec.2 k a⟩
section
variable{P:Program}{E:Env}{I I':ct}{μ μ':Mu}{H H':bp}{n B:Nat}{F F':Zo}{a:Act}{w w':World}
def Post(B n:Nat)(I:ct)(μ:Mu)(H:bp)(w:World)(o:Out)(F':Zo)(H':bp):Exit->Act->World->Prop:=λe t w'=>e=o.FZ/\(∃I' μ',eC I' μ' n F' t.tmps/\cV I' μ' H' w'/\Step I μ H w I' μ' H' w')/\jH B t.defers w'
def Post.mono{I1:ct}{D:Mu}{H1:bp}{G:World}{o:Out}(J:cV I1 D H1 G)(st:Step I μ H w I1 D H1 G){e:Exit}{a':Act}{w':World}(h:Post B n I1 D H1 G o F' H' e a' w'):
 Post B n I μ H w o F' H' e a' w':=by
 have⟨a,⟨I',μ',t,u,z⟩,C⟩:=h;exact⟨a,⟨I',μ',t,u,Step.trans J st z⟩,C⟩
def cV.Aa(s:cV I μ H w){b:Nat}(o:Obj)(B:I b=none)(D:¬gV μ H b):cV I μ H (fG w b o)where
 dom:=s.dom
 imm:=λu x h=>IC.qT (s.imm u x h) (fV o (by rintro rfl;rw[B]at h;cases h))
 obs:=λid ob h=>(s.obs id ob h).mono (ct.le_refl _) (Mu.le_refl _) (λp a z=>by
  have t:gV μ H p.b:=⟨id,p,ob,h,z,a,rfl⟩;exact⟨fV o (λe=>D (e▸t)),fI s t⟩) (λC=>by subst C;exact s.obs id _ h)
 inj:=s.inj
 gl:=s.gl
def PR(s:cV I μ H w){b:Nat}{o:Obj}(h:w.heap[b]?=some o)(a:∀c e f,o≠.cells c e f)(B:∀es c,o≠.map es c):I b=none:=by cases t:I b with|none=>rfl|some x=>have:=s.imm b x t;cases x with|cells c=>have⟨_,_,q⟩:=this;rw[h]at q;cases q;exact absurd rfl (a _ _ _)|map es=>have⟨_,q⟩:=this;rw[h]at q;cases q;exact absurd rfl (B _ _)
def Step.kept(c:∀b,b<w.heap.size->w'.heap[b]?=w.heap[b]?)(B:w.heap.size<=w'.heap.size)(d:w'.os=w.os)(D:uB w w')(G:∀a:Addr,a.block<w.heap.size->w.frozen? a=false->w'.frozen? a=false):Step I μ H w I μ H w':=⟨ct.le_refl _,Mu.le_refl _,le_refl _,B,λb t _=>c b t,λ_ h=>h.elim .inl λh=>.inr (.inl h),d,D,G⟩
def Step.after(st:Step I μ H w I' μ' H' w'){b:Nat}(o:Obj)(B:w.heap.size<=b)(D:Obj.nf o:=by first|exact sG _ _|exact qx rfl):Step I μ H w I' μ' H' (fG w' b o):=⟨st.le,st.mu,st.len,by rw[vS];exact st.size,λu t z=>by rw[fV o Za];exact st.frame u t z,st.terr,st.os,⟨st.out.out,st.out.tape,st.out.dr⟩,λa B C=>RZ D a (st.fz a B C)⟩
def jH.Aa{ds:aZ Deferred}(h:jH B ds w){b:Nat}{o:Obj}(D:∀r,w.heap[r]?=some (.deferred (some []))->r≠b):jH B ds (fG w b o):=
 ⟨λd u=>by
  have⟨r,a,z,t⟩:=h.all d u;exact⟨r,a,z,by rw[fV o (D r t)];exact t⟩,h.apart⟩
def JP{step:Zo->bp->a_ (Out×Zo×bp)}{c:Code}{ro:a_ Nat}{o:Out}
 (D:∀I μ F H a w o F' H',step F H=some (o,F',H')->eC I μ n F a.tmps->cV I μ H w->jH B a.defers w->B<=w.heap.size->c.wpIn (fr ro) 0 P (Post B n I μ H w o F' H') a w)
 {k:Nat}(h:j9 step k F H=some (o,F',H'))(r:eC I μ n F a.tmps)(s:cV I μ H w)(m:jH B a.defers w)(j:B<=w.heap.size):
 (Code.loop c).wpIn (fr ro) 0 P (Post B n I μ H w o F' H') a w:=by
 let b:Nat->Act->World->Prop:=λk t w'=>∃I1 G F1 H1,j9 step k F1 H1=some (o,F',H')/\eC I1 G n F1 t.tmps/\cV I1 G H1 w'/\Step I μ H w I1 G H1 w'/\jH B t.defers w'/\B<=w'.heap.size
 let M:Act->World->Nat:=λt w'=>least (λk=>b k t w')
 have d:∀k t w',b k t w'->b (M t w') t w'/\M t w'<=k:=λk t w' S=>Jl (λk=>b k t w') S
 refine wpIn_loop (λt w'=>∃k,b k t w') M ⟨k,I,μ,F,H,h,r,s,.refl _ _ _ _,m,j⟩ ?_
 rintro T U ⟨l,W⟩;have⟨S,_⟩:=d l T U W;generalize y:M T U=kk at S;have⟨I1,G,F1,H1,J,r1,L,z,m1,C⟩:=S
 cases kk with
 |zero=>simp[j9]at J|succ kk=>
  simp only[j9]at J;split at J
  next f H2 X=>refine wpIn_mono (D I1 G F1 H1 T U .norm f H2 X r1 L m1 C) ?_;rintro e O Q ⟨rfl,⟨I2,p,r2,q,st2⟩,v⟩;show(∃k,b k O Q)/\M O Q<kk+1;have u:b kk O Q:=⟨I2,p,f,H2,J,r2,q,Step.trans L z st2,v,le_trans C st2.size⟩;exact⟨⟨kk,u⟩,Nat.lt_succ_of_le (d kk O Q u).2⟩
  rename_i Y;refine wpIn_mono (D I1 G F1 H1 T U o F' H' J r1 L m1 C) ?_;intro e O Q x;have Z:o≠.norm:=by rintro rfl;exact Y F' H' J
  obtain⟨rfl,g,i⟩:=x
  cases o with
  |norm=>exact absurd rfl Z|exit id=>exact Post.mono L z ⟨rfl,g,i⟩|ret=>exact Post.mono L z ⟨rfl,g,i⟩
end
end Go.VE
namespace Go.VE
variable[bV]
section
variable{P:Program}{E:Env}{I I':ct}{μ μ':Mu}{H H':bp}{n B:Nat}{F F':Zo}{a:Act}{w w':World}
def Au(s:cV I μ H w){id:Nat}{r:uH}(h:H[id]?=some (.loop r)):∃p l,μ id=some p/\I p.b=none/\w.heap[p.b]?=some (.loop l)/\uJ I μ r l:=s.obs id _ h
def Gw{p:a_ Out}(a:p≠some .norm):(p.bind ku=none->p.getD .norm=.norm)/\(∀c,p.bind ku=some c->(c=.ret/\p.getD .norm=.ret)\/∃id,c=.exit id/\p.getD .norm=.exit id):=by cases p with|none=>grind|some o=>cases o with|norm=>grind|ret=>exact⟨by simp[ku],by simp[ku]⟩|exit id=>exact⟨by simp[ku],by simp[ku]⟩
def Hw{call:dw}(hc:ki P call){g:Zr}{ps:Array Tmp}{assign body:Code}{o:Out}{lf:Nat}
 (h:exec E call lf false n (.rangeFunc g ps assign body) F H=some (o,F',H'))(r:eC I μ n F a.tmps)(s:cV I μ H w)(m:jH B a.defers w)(hB:B<=w.heap.size):
 (Code.rangeFunc g ps assign body).wpIn (fr none) 0 P (Post B n I μ H w o F' H') a w:=by
 cases K:ev F g with
 |none=>simp[exec,K]at h|some gv=>
 cases gv with
 |clo f x y=>
  simp[exec,K]at h;split at h
  .rename_i am H2 L;split at h
   .rename_i r2 D;have W:r2.st≠.busy/\r2.pend.getD .norm=o/\F=F'/\H2.set H.length .dead=H':=by
     grind
    obtain⟨W,rfl,rfl,rfl⟩:=W;have⟨u,v,eg,hu,hv⟩:=(dx r K).jI;refine wpIn_rangeFunc λz _=>?_
    have X:∀b,b<w.heap.size->(w.alloc (.deferred (some []))).heap[b]?=w.heap[b]?:=λb hb=>k8 _ b hb
    have M:=s.kept X;have ad:Step I μ H w I μ H (w.alloc (.deferred (some []))):=Step.kept X Zc rfl ⟨rfl,rfl,le_refl _⟩ (λa _=>Lq (qx rfl) a)
    have ae:uJ I μ ⟨.ready,none,F,n,ps.toList,assign,body⟩ {state:=.ready,pending:=none,fn:=z,tmps:=a.tmps,params:=ps,assign,body,defers:=w.heap.size}:=⟨trivial,rfl,Zc,r,rfl,rfl,rfl⟩
    have⟨V,st2⟩:=M.push (ob:=.loop ⟨.ready,none,F,n,ps.toList,assign,body⟩)
     (o:=.loop {state:=.ready,pending:=none,fn:=z,tmps:=a.tmps,params:=ps,assign,body,defers:=w.heap.size}) (p:=⟨w.heap.size+1,0,0,0⟩) Zc
     ⟨_,_,Mu.fN _ _ _,by have:=M.xy;simp_all,by have:=lV (w:=w.alloc (.deferred (some []))) (.loop {state:=.ready,pending:=none,fn:=z,tmps:=a.tmps,params:=ps,assign,body,defers:=w.heap.size});simp_all,
      ae.mono (ct.le_refl _) (Mu.pX (M.dom _ (le_refl _)))⟩
    have O:=(hu.mono (ct.le_refl _) st2.mu).append (.cons (.yld H.length ⟨w.heap.size+1,0,0,0⟩ (Mu.fN _ _ _)) (hv.mono (ct.le_refl _) st2.mu))
    have⟨hf,G⟩:=hc.fn f _ _ _ _ L;refine⟨w.heap.size+1,[{target:=.collected w.heap.size,args:=#[]}],((w.alloc (.deferred (some []))).alloc (.loop {state:=.ready,pending:=none,fn:=z,tmps:=a.tmps,params:=ps,assign,body,defers:=w.heap.size})),{target:=.fn (.func f) v,args:=u++#[.func (.yield (w.heap.size+1)) #[] #[]]},((w.alloc (.deferred (some []))).alloc (.loop {state:=.ready,pending:=none,fn:=z,tmps:=a.tmps,params:=ps,assign,body,defers:=w.heap.size})),f,u++#[.func (.yield (w.heap.size+1)) #[] #[]]++v,((w.alloc (.deferred (some []))).alloc (.loop {state:=.ready,pending:=none,fn:=z,tmps:=a.tmps,params:=ps,assign,body,defers:=w.heap.size})),
     run_enterLoop_outer z a.tmps ps assign body,?_,λ_ _=>trivial,?_,λh=>by simp[fr]at h,?_⟩
    .simp[resolve];rw[eg];simp[Deferred.ofValue,Act.eval]
    .exact wk hf _
    have Y:=G _ _ _ _ V O;have Q:(u.toList++.func (.yield (w.heap.size+1)) #[] #[]::v.toList).toArray=u++#[.func (.yield (w.heap.size+1)) #[] #[]]++v:=Zd
    rw[Q]at Y;refine Y.mono ?_;rintro e Z ⟨al,I3,N,rfl,_,R,S⟩;have⟨p,l,g1,g2,g3,g4⟩:=Au R D;have hp:p=⟨w.heap.size+1,0,0,0⟩:=by have:=S.mu _ _ (Mu.fN μ H.length ⟨w.heap.size+1,0,0,0⟩);grind
    subst hp;have J:l.state≠.busy:=by intro he;have:=g4.st;rw[he]at this;cases af:r2.st<;>rw[af]at this<;>simp[AI.is]at this;grind
    refine⟨l.pending,_,run_endLoop g3 J,?_⟩;have⟨s4,ah⟩:=R.kill D;have T:¬gV N (H2.set H.length .dead) (w.heap.size+1):=by rintro⟨id,q,ob,i,A,U,h4⟩;by_cases e:id=H.length;subst e;rw[List.getElem?_set_self (ζe.1 D).1]at i;cases i;simp[Ob.live]at A;rw[List.getElem?_set_ne (Ne.symm e)]at i;exact e (R.inj id H.length ob _ q _ i D A rfl U g1 h4)
    have s5:cV I3 N (H2.set H.length .dead) (fG Z (w.heap.size+1) (.loop {l with state:=.exhausted})):=s4.Aa _ g2 T;have st:=Step.trans M ad (Step.trans V st2 (Step.trans R S ah));have ai:Step I μ H w I3 N (H2.set H.length .dead) (fG Z (w.heap.size+1) (.loop {l with state:=.exhausted})):=st.after _ Za
    have m2:jH B ({target:=.collected w.heap.size,args:=#[]}::a.defers) ((w.alloc (.deferred (some []))).alloc (.loop {state:=.ready,pending:=none,fn:=z,tmps:=a.tmps,params:=ps,assign,body,defers:=w.heap.size})):=by refine⟨?_,?_⟩;intro d k;rcases mem_cons.1 k with rfl|k;refine⟨w.heap.size,rfl,hB,?_⟩;rw[k8 _ _ Zc];exact lV _;have⟨q,i,A,U⟩:=m.all d k;have j:=(Array.getElem?_eq_some_iff.1 U).1;refine⟨q,i,A,?_⟩;rw[k8 _ _ (by simp;omega),k8 _ _ j];exact U;refine List.Pairwise.cons ?_ m.apart;intro d k q j aa;have⟨q2,i,A,U⟩:=m.all d k;have:=(Array.getElem?_eq_some_iff.1 U).1;cases j;rw[i]at aa;cases aa;omega
    have m3:=m2.step V S;have m5:jH B ({target:=.collected w.heap.size,args:=#[]}::a.defers) (fG Z (w.heap.size+1) (.loop {l with state:=.exhausted})):=m3.Aa (λq j e=>by subst e;rw[g3]at j;cases j)
    have aj:=st.le;have ak:=st.mu;have t:∀C:Out,r2.pend.getD .norm=C->Post B n I μ H w C F (H2.set H.length .dead) C.FZ {a with defers:=[{target:=.collected w.heap.size,args:=#[]}]++a.defers} (fG Z (w.heap.size+1) (.loop {l with state:=.exhausted})):=λC _=>⟨rfl,⟨I3,N,r.mono aj ak,s5,ai⟩,m5⟩
    obtain⟨W5,ab⟩:∃W5,Z.putObj (w.heap.size+1) (.loop {l with state:=.exhausted})=W5:=⟨_,rfl⟩;have t:∀C:Out,r2.pend.getD .norm=C->Post B n I μ H w C F (H2.set H.length .dead) C.FZ {a with defers:=[{target:=.collected w.heap.size,args:=#[]}]++a.defers} W5:=by intro C ho;rw[<-ab];exact t C ho
    rw[ab];have⟨k1,k2⟩:=Gw g4.pendOk;rw[g4.pend]
    cases hj:r2.pend.bind ku with
    |none=>rw[k1 hj];exact t .norm (k1 hj)|some c=>
     rcases k2 c hj with⟨rfl,e⟩|⟨id,rfl,e⟩
     .rw[e];exact wpIn_ret (t .ret e)
     rw[e];exact wpIn_exit (t (.exit id) e)
   grind
  grind
 |_=>simp[exec,K]at h
def xo(i:eD P E)(j:P.follows .mixedOrders=true){call:dw}(d:ki P call)(lf:Nat)(ro:a_ Nat)(U:Zl)(q:U=ro.isSome)(n:Nat):
 ∀(c:Code)(I:ct)(μ:Mu)(F:Zo)(H:bp)(a:Act)(w:World)(o:Out)(F':Zo)(H':bp),exec E call lf U n c F H=some (o,F',H')->eC I μ n F a.tmps->cV I μ H w->
  jH B a.defers w->B<=w.heap.size->c.wpIn (fr ro) 0 P (Post B n I μ H w o F' H') a w:=by
 intro c
 induction c with
 |skip=>intro I μ F H a w o F' H' h r s m _;obtain⟨rfl,rfl,rfl⟩:=h;exact wpIn_skip ⟨rfl,⟨I,μ,r,s,.refl _ _ _ _⟩,m⟩|label l=>intro I μ F H a w o F' H' h r s m _;obtain⟨rfl,rfl,rfl⟩:=h;exact wpIn_label ⟨rfl,⟨I,μ,r,s,.refl _ _ _ _⟩,m⟩|region id ops Y=>
  intro I μ F H a w o F' H' h r s m _;simp only[exec,ζf]at h;obtain⟨⟨v,H2⟩,h,rfl,rfl,rfl⟩:=h;refine G8 i j d ro h r s (λa' I' μ' w' b z C Z=>⟨rfl,⟨I',μ',b,C,Z⟩,?_⟩)
  rw[z];exact m.step s Z
 |seq x y D G=>
  intro I μ F H a w o F' H' h r s m u;simp[exec]at h;refine wpIn_seq ?_;split at h
  next F1 H1 b=>refine wpIn_mono (D I μ F H a w _ F1 H1 b r s m u) ?_;rintro e J L ⟨rfl,⟨I1,k,r1,f,O⟩,m1⟩;refine wpIn_mono (G I1 k F1 H1 J L o F' H' h r1 f m1 (le_trans u O.size)) ?_;intro e A K p;exact Post.mono f O p
  refine wpIn_mono (D I μ F H a w o F' H' h r s m u) ?_;rintro e J L ⟨rfl,z,C⟩
  cases o with
  |norm=>grind|exit id=>exact⟨rfl,z,C⟩|ret=>exact⟨rfl,z,C⟩
 |cond c x y D G=>
  intro I μ F H a w o F' H' h r s m u;simp[exec]at h;split at h
  .rename_i t T;have W:=(dx r T).qz;refine wpIn_cond W ?_
   grind
  grind
 |block id c S=>
  intro I μ F H a w o F' H' h r s m u;simp[exec]at h;refine wpIn_block ?_;split at h
  .rename_i Q F1 H1 b;refine wpIn_mono (S I μ F H a w _ F1 H1 b r s m u) ?_;rintro e J L ⟨rfl,z,C⟩;show Exit.inBlock id _ (.exit Q) J L;unfold Exit.inBlock;split at h
   next X=>obtain⟨rfl,rfl,rfl⟩:=h;simp[X];exact⟨rfl,z,C⟩
   rename_i X;obtain⟨rfl,rfl,rfl⟩:=h;simp[X];exact⟨rfl,z,C⟩
  refine wpIn_mono (S I μ F H a w o F' H' h r s m u) ?_;rintro e J L ⟨rfl,z,C⟩
  cases o with
  |norm=>exact⟨rfl,z,C⟩|exit Q=>grind|ret=>exact⟨rfl,z,C⟩
 |loop c S=>intro I μ F H a w o F' H' h r s m u;exact JP (λI μ F H a w o F' H' h r s m u=>S I μ F H a w o F' H' h r s m u) h r s m u|rangeFunc g ps assign body _ _=>
  intro I μ F H a w o F' H' h r s m u
  cases U with
  |true=>simp[exec]at h|false=>
   cases ro with
   |none=>exact Hw d h r s m u|some l=>simp_all
 |exit id=>intro I μ F H a w o F' H' h r s m _;obtain⟨rfl,rfl,rfl⟩:=h;exact wpIn_exit ⟨rfl,⟨I,μ,r,s,.refl _ _ _ _⟩,m⟩|ret=>intro I μ F H a w o F' H' h r s m _;obtain⟨rfl,rfl,rfl⟩:=h;exact wpIn_ret ⟨rfl,⟨I,μ,r,s,.refl _ _ _ _⟩,m⟩|scope body _=>intro I μ F H a w o F' H' h;simp[exec]at h|goto l=>intro I μ F H a w o F' H' h;simp[exec]at h|refuse ab=>intro I μ F H a w o F' H' h;simp[exec]at h
end
def qW{f g:V->a_ V}(h:∀x y,f x=some y->g x=some y):∀{l:Zu}{r:Zu},gX f l=some r->gX g l=some r
 |[],_,hr=>hr|x::l,r,hr=>by simp only[gX]at hr⊢;split at hr;(next y s a B=>rw[h _ _ a,qW h B];exact hr);cases hr
def GP{f g:V->a_ V}(h:∀x y,f x=some y->g x=some y):∀{l:Zt}{r:Zt},kR f l=some r->kR g l=some r
 |[],_,hr=>hr|x::l,r,hr=>by simp only[kR]at hr⊢;split at hr;(next y s a B=>rw[qW h a,GP h B];exact hr);cases hr
def GG{f g:V->a_ V}(h:∀x y,f x=some y->g x=some y):∀{l:aZ (V×V)}{r:aZ (V×V)},kL f l=some r->kL g l=some r
 |[],_,hr=>hr|(k,x)::l,r,hr=>by simp only[kL]at hr⊢;split at hr;(next y s u a B D=>rw[h _ _ a,h _ _ B,GG h D];exact hr);cases hr
def HW{H:bp}:∀(n:Nat)(x y:V),borrow n H x=some y->borrow (n+1) H x=some y:=by intro n;induction n with|zero=>intro x y h;simp only[borrow]at h;split at h;(next d=>rw[jM _ _ d];exact h);cases h|succ n u=>intro x y h;unfold borrow at h⊢;split;(next d=>rw[if_pos d]at h;exact h);rename_i d;rw[if_neg d]at h;cases x with|hsl id es off len=>simp only at h⊢;split at h;split at h;(next q=>rw[if_pos q];have⟨r,c,t⟩:=ζf.1 h;rw[GP u c];exact congrArg some t);cases h;cases h|hptr id el off=>simp only at h⊢;split at h;split at h;split at h;(next q=>rw[if_pos q];have⟨r,c,t⟩:=ζf.1 h;rw[qW u c];exact congrArg some t);cases h;cases h;cases h|hmap id=>simp only at h⊢;split at h;have⟨r,c,t⟩:=ζf.1 h;rw[GG u c];exact congrArg some t;cases h|clo f a b=>simp only at h⊢;split at h;(next c t=>rw[qW u c,qW u t];exact h);cases h|agg w=>simp only at h⊢;have⟨r,c,t⟩:=ζf.1 h;rw[qW u c];exact congrArg some t|tup w=>simp only at h⊢;have⟨r,c,t⟩:=ζf.1 h;rw[qW u c];exact congrArg some t|_=>cases h
def qV{H:bp}{n m:Nat}(h:n<=m){x y:V}(B:borrow n H x=some y):borrow m H x=some y:=by induction h with|refl=>exact B|step _ t=>exact HW _ _ _ t
def rI{H:bp}{n m:Nat}(h:n<=m){l r:Zu}(B:borrows n H l=some r):borrows m H l=some r:=qW (λ_ _=>qV h) B
def By{f g:V->Zv}:∀{l:Zu},(∀x∈l,f x=g x)->cM f l=cM g l
 |[],_=>rfl|x::l,h=>by simp only[cM];rw[h x (mem_cons_self ..),By λy B=>h y (mem_cons_of_mem _ B)]
def oQ{f:V->a_ V}:∀{l r:Zu},gX f l=some r->∀x∈l,∃y,f x=some y
 |[],_,_,x,b=>by cases b|a::l,r,h,x,b=>by simp only[gX]at h;split at h;rename_i y s c B;rcases mem_cons.1 b with rfl|b;exact⟨y,c⟩;exact oQ B x b;cases h
def DJ{f:V->a_ V}:∀{l r:Zt},kR f l=some r->∀c∈l,∀x∈c,∃y,f x=some y
 |[],_,_,x,B=>by cases B|a::l,r,h,c,b=>by simp only[kR]at h;split at h;rename_i y s d D;rcases mem_cons.1 b with rfl|b;exact oQ d;exact DJ D c b;cases h
def zD{f:V->a_ V}:∀{l r:aZ (V×V)},kL f l=some r->∀c∈l,(∃y,f c.1=some y)/\∃y,f c.2=some y
 |[],_,_,x,B=>by cases B|(k,a)::l,r,h,c,b=>by simp only[kL]at h;split at h;rename_i y s u d D G;rcases mem_cons.1 b with rfl|b;exact⟨⟨y,d⟩,s,D⟩;exact zD G c b;cases h
def Ki{H:bp}:∀(n:Nat)(x y:V),borrow n H x=some y->cg (n+1) H x=cg n H x:=by
 intro n
 induction n with
 |zero=>intro x y h;simp only[borrow]at h;split at h;(next e=>simp[cg,e]);cases h|succ n I=>
  intro x y h;have t:∀l:Zu,(∀x∈l,∃y,borrow n H x=some y)->cM (cg (n+1) H) l=cM (cg n H) l:=λl J=>By λx u=>by have⟨y,L⟩:=J x u;exact I x y L
  unfold borrow at h;rw[cg.eq_def (n+1+1),cg.eq_def (n+1)];simp only;split;rfl;rename_i e;rw[if_neg e]at h
  cases x with
  |hsl id es off len=>simp only at h⊢;cases g:(H[id]?).bind Ob.rows with|none=>rfl|some q=>have⟨B,O⟩:=q;rw[g]at h;simp only at h⊢;split at h;have⟨r,d,w⟩:=ζf.1 h;rw[t _ λx u=>by have⟨c,e,C⟩:=List.mem_flatten.1 u;exact DJ d c e x C];cases h
  |hptr id el off=>simp only at h⊢;cases g:(H[id]?).bind Ob.rows with|none=>rfl|some q=>have⟨B,O⟩:=q;rw[g]at h;simp only at h⊢;split at h;rename_i G D;split at h;have⟨r,d,w⟩:=ζf.1 h;rw[t _ λx u=>oQ d x (by rw[D]at u;exact u)];cases h;cases h
  |hmap id=>
   simp only at h⊢;split at h;rename_i z i;have⟨r,d,w⟩:=ζf.1 h;skip;rw[t (z.map (·.1)) λx u=>by obtain⟨c,e,rfl⟩:=mem_map.1 u;exact(zD d c e).1,
    t (z.map (·.2)) λx u=>by obtain⟨c,e,rfl⟩:=mem_map.1 u;exact(zD d c e).2]
   cases h
  |clo f a b=>simp only at h⊢;split at h;(next d w=>rw[t _ (oQ d),t _ (oQ w)]);cases h|agg G=>simp only at h⊢;have⟨r,d,w⟩:=ζf.1 h;exact t _ (oQ d)|tup G=>simp only at h⊢;have⟨r,d,w⟩:=ζf.1 h;exact t _ (oQ d)|_=>rfl
def Nb{H:bp}{n m:Nat}(h:n<=m){x y:V}(B:borrow n H x=some y):cg m H x=cg n H x:=by induction h with|refl=>rfl|step h t=>rw[Ki _ _ _ (qV h B),t]
def xL{H:bp}{n m:Nat}(h:n<=m){l r:Zu}(B:borrows n H l=some r):cM (cg m H) l=cM (cg n H) l:=By λx t=>by have⟨y,u⟩:=oQ B x t;exact Nb h u
def mZ{f g h:V->a_ V}(k:∀x y z,f x=some y->g x=some z->h x=some z):∀{l r s:Zu},gX f l=some r->gX g l=some s->gX h l=some s
 |[],_,_,_,B=>B|x::l,r,s,hr,B=>by simp only[gX]at hr B⊢;split at hr;rename_i a D;split at B;(next G J=>rw[k _ _ _ a G,mZ k D J];exact B);cases B;cases hr
def CG{f g h:V->a_ V}(k:∀x y z,f x=some y->g x=some z->h x=some z):∀{l r s:Zt},kR f l=some r->kR g l=some s->kR h l=some s
 |[],_,_,_,B=>B|x::l,r,s,hr,B=>by simp only[kR]at hr B⊢;split at hr;rename_i a D;split at B;(next G J=>rw[mZ k a G,CG k D J];exact B);cases B;cases hr
def CJ{f g h:V->a_ V}(k:∀x y z,f x=some y->g x=some z->h x=some z):∀{l r s:aZ (V×V)},kL f l=some r->kL g l=some s->kL h l=some s
 |[],_,_,_,B=>B|(a,x)::l,r,s,hr,B=>by simp only[kL]at hr B⊢;split at hr;rename_i b D G;split at B;(next J O U=>rw[k _ _ _ b J,k _ _ _ D O,CJ k G U];exact B);cases B;cases hr
def HH{H H2:bp}:∀(n m:Nat)(x y z:V),borrow n H x=some y->borrow m H2 x=some z->(∀id:Nat,(H2[id]?).isSome=true->H2[id]?=H[id]?)->borrow n H2 x=some z:=by intro n;induction n with|zero=>intro m x y z h k _;simp only[borrow]at h;split at h;(next e=>rw[jM _ _ e]at k⊢;exact k);cases h|succ n G=>intro m x y z h k B;by_cases e:x.closed=true;rw[jM _ _ e]at k⊢;exact k;cases m with|zero=>simp only[borrow,if_neg e]at k;cases k|succ m=>have t:∀x y z,borrow n H x=some y->borrow m H2 x=some z->borrow n H2 x=some z:=λx y z a b=>G m x y z a b B;unfold borrow at h k⊢;rw[if_neg e]at h k⊢;have row:∀id q,(H2[id]?).bind Ob.rows=some q->(H[id]?).bind Ob.rows=some q:=λid q hq=>(by rw[<-B id (by cases C:H2[id]?with|none=>rw[C]at hq;cases hq|some _=>rfl)];exact hq);cases x with|hsl id es off len=>simp only at h k⊢;split at k;rename_i d;rw[row _ _ d]at h;simp only at h;split at k;(next q=>rw[if_pos q]at h⊢;have⟨r,c,_⟩:=ζf.1 h;have⟨s,u,w⟩:=ζf.1 k;rw[CG t c u];exact congrArg some w);cases k;cases k|hptr id el off=>simp only at h k⊢;split at k;rename_i d;rw[row _ _ d]at h;simp only at h;split at k;rename_i D;rw[D]at h;simp only at h;split at k;(next q=>rw[if_pos q]at h⊢;have⟨r,c,_⟩:=ζf.1 h;have⟨s,u,w⟩:=ζf.1 k;rw[mZ t c u];exact congrArg some w);cases k;cases k;cases k|hmap id=>simp only at h k⊢;split at k;rename_i d;rw[<-B id (by rw[d];rfl),d]at h;simp only at h;have⟨r,c,_⟩:=ζf.1 h;have⟨s,u,w⟩:=ζf.1 k;rw[CJ t c u];exact congrArg some w;cases k|clo f a b=>simp only at h k⊢;split at h;rename_i c C;split at k;(next u w=>rw[mZ t c u,mZ t C w];exact k);cases k;cases h|agg I=>simp only at h k⊢;have⟨r,c,_⟩:=ζf.1 h;have⟨s,u,w⟩:=ζf.1 k;rw[mZ t c u];exact congrArg some w|tup I=>simp only at h k⊢;have⟨r,c,_⟩:=ζf.1 h;have⟨s,u,w⟩:=ζf.1 k;rw[mZ t c u];exact congrArg some w|_=>cases h
end Go.VE
namespace Go.VE
variable[bV]
open Go.Proofs Go.Sort
structure zZ(P:Program)(f:FuncId):Prop where
 ok:xZ P f
 zero:∀(p:Option Addr)(cap:Nat)(fv:Value)(w:World),Calls P f #[.slice p 0 cap,fv] w λe w'=>e=.returned (.tuple #[])/\w'=w
 all:∀{α:Type}[Inhabited α](enc:α->Value)(_:OneCell enc)(cf:α->α->Int)(_:SWO (ltOf cf))(g:Nat)(cb:Array Value)(blk off cap:Nat)(d:Array α)(w:World)
  (_:∀args w,(callFunc g args).run P w=.ok (.enter g args) w)(_:CmpLays1 P g cb enc cf blk off d.size w)(_:Holds enc w blk off d)(_:blk<w.heap.size)(_:d.size<4611686018427387904),
  Calls P f #[.slice (some ⟨blk,off,none⟩) d.size cap,.func (.func g) #[] cb] w λe w'=>e=.returned (.tuple #[])/\∃n os,w'=sortWorld enc w blk off n (pdq (ltOf cf) d 0 d.size (Lib.bitLen d.size) true true) os
def Iu{α:Type}[Inhabited α](lt:α->α->Zl):∀(k i:Nat)(d:Array α),Gl lt k i d=insOuter lt 0 (i+k) i d
 |0,i,d=>by rw[insOuter];simp[Gl]|k+1,i,d=>by rw[insOuter,Gl,Iu lt k];grind
def A_(n:Nat)(lt:Fin (n+1)->Fin (n+1)->Zl):pg n lt=pdq lt (finRange (n+1)).toArray 0 (n+1) (Lib.bitLen (n+1)) true true:=by unfold pg;split;rw[pdq,if_pos Za,insertionSort,Iu,Nat.add_comm 1 n];rfl
def pO{n:Nat}{t:Fin (n+1)->Fin (n+1)->Z6}(h:zU t=true):(∀i j,∃c,t i j=some c)/\SWO (oC t):=by have u:∀(p:Fin (n+1)->Zl),(finRange (n+1)).all p=true->∀i,p i=true:=λp h i=>List.all_eq_true.1 h i (List.mem_finRange i);have d:=λi=>u _ h i;simp only[ζh,Bool.not_eq_true']at d;have w:=λi j=>u _ (d i).2 j;simp only[ζh]at w;have z:=λi j k=>u _ (w i j).2 k;refine⟨λi j=>Option.isSome_iff_exists.1 (w i j).1,λi=>(d i).1,λi j k a b=>?_,λi j k a b=>?_⟩;have:=z i j k;grind;grind
section
variable{P:Program}{I I':ct}{μ μ':Mu}{H H':bp}{w w':World}
def Es(w:World)(os:Array Obj)(b:Nat)(h:b<w.heap.size):(grow w os).heap[b]?=w.heap[b]?:=by unfold grow;grind
def Calls.fr{f:Zk}{args:Array Zp}{R:Ending->World->Prop}(h:Calls P f args w R):CallsIn (fr none) 0 P f args w R:=callsIn_wide.2 h
def CallsIn.un{f:Zk}{args:Array Zp}{R:Ending->World->Prop}(h:CallsIn (fr none) 0 P f args w R):Calls P f args w R:=callsIn_wide.1 h
def NC{p:Pl}{c:Array Zp}{xs:Zt}(B:p.es=1)(D:c.size=p.sz)(g:p.o+xs.length<=c.size)
 (h:∀(i:Nat)x,xs[i]?=some x->∃v u,x=[v]/\V.one v=true/\c[p.o+i]?=some u/\bH I μ v u):fL I μ p c 1 xs:=by
 have d:∀x∈xs,x.length=1:=λx t=>by have⟨i,z⟩:=List.getElem?_of_mem t;grind
 have C:xs.flatten.length=xs.length:=by rw[fC d,mul_one]
 refine⟨B,D,d,λx t y G=>?_,Za,⟨?_,λj a b f J=>?_⟩⟩
 .have⟨i,z⟩:=List.getElem?_of_mem t
  grind
 .grind
 have w:j<xs.length:=by have:=(ζe.1 f).1;omega
 have⟨v,u,e,_,L,O⟩:=h j xs[j] (by simp[w])
 have:=vg d (i:=j) (j:=0) (x:=xs[j]) (by simp[w]) (by rw[e];rfl)
 simp_all
def vk{p:Pl}{c:Array Zp}{xs:Zt}(r:fL I μ p c 1 xs)(i:Nat){x:Zu}(h:xs[i]?=some x):∃v u,x=[v]/\V.one v=true/\c[p.o+i]?=some u/\bH I μ v u:=by
 have t:=List.mem_of_getElem? h;obtain⟨v,rfl⟩:=List.length_eq_one_iff.1 (r.oB x t);have z:=(ζe.1 h).1;have w:=by have:=r.room;omega
 refine⟨v,c[p.o+i],rfl,r.one _ t v Zc,Ze,?_⟩;exact r.idx (j:=0) h rfl Ze
def Qk{α:Type}[Inhabited α](enc:α->Zp)(a o m:Nat)(B:Array α)(os:Array Obj){b:Nat}(G:b<w.heap.size)(D:b≠a):(sortWorld enc w a o m B os).heap[b]?=w.heap[b]?:=by unfold sortWorld;rw[Es _ _ _ Ze];simp[putRow,mapBlock,Sort.ahead,Array.getElem?_modify,if_neg (Ne.symm D)]
def H6{α:Type}[Inhabited α](enc:α->Zp){a:Nat}(o m:Nat)(B:Array α){c:Array Zp}{el:Zm}(h:w.heap[a]?=some (.cells c el)):
 putRow enc (Sort.ahead w m) a o B=fG (Sort.ahead w m) a (.cells (Sort.putCells enc o B c) el):=by
 unfold putRow mapBlock fG Sort.ahead
 congr 1
 have⟨u,e⟩:=Array.getElem?_eq_some_iff.1 h;apply Array.ext
 .simp
 intro i b z
 by_cases t:i=a
 .subst t;simp[Array.getElem_modify,e,onCells]
 grind
def Step.grown(st:Step I (λ_=>none) [] w I' μ' H' w'):∃q os,w'=grow (w.drewN q) os:=by
 refine⟨w'.drawn-w.drawn,w'.heap.extract w.heap.size w'.heap.size,?_⟩;have u:w'.heap=w.heap++w'.heap.extract w.heap.size w'.heap.size:=by apply Array.ext_getElem?;intro i;by_cases t:i<w.heap.size;rw[Array.getElem?_append_left t];exact st.frame i t (by rintro⟨id,p,ob,h,_⟩;simp at h);rw[Array.getElem?_append_right Za];simp[Array.getElem?_extract];by_cases C:i<w'.heap.size;rw[if_pos Za];congr 1;omega;rw[if_neg Za,Array.getElem?_eq_none Za]
 have a:=st.os;have z:=st.out.out;have B:=st.out.tape;have D:=st.out.dr;unfold grow World.drewN;cases w';simp only at *;subst a z B;simp[World.mk.injEq];exact⟨u,Za⟩
def I9{call B:dw}{g:Zk}{G D:Zu}{n:Nat}(h:∀args y,b8 call g args []=some y->b8 B g args []=some y){i j:Fin (n+1)}{z:Int}(J:iN call g G D n i j=some z):iN B g G D n i j=some z:=by unfold iN at J⊢;grind
def BL{keep:Zk->Zl}{call B:dw}(D:call.lv<=B.lv)(h:∀g args y,keep g=false->b8 call g args []=some y->b8 B g args []=some y){args:Zu}{r:V×bp}(b:pU keep call args H=some r):pU keep B args H=some r:=by
 unfold pU at b⊢;split at b;split at b;omega;omega;split at b;omega;split at b;rename_i n g cb _ L Q G;split at b;rename_i t;split at b;rename_i I u C w;rw[rI D C,rI D w];split at b;rename_i O;have e:iN B g I u n=iN call g I u n:=by funext i j;have⟨z,J⟩:=(pO O).1 i j;rw[J];exact I9 (λa y=>h g a y t.2.2.2.2) J
 grind;simp_all;simp_all;simp_all;simp_all;simp_all;simp_all;simp_all
set_option maxHeartbeats 1000000 in
def PW{call:dw}(hc:ki P call){f:Zk}(hs:zZ P f){args:Zu}{r:V}{keep:Zk->Zl}(h:pU keep call args H=some (r,H'))(s:cV I μ H w){vs:aZ Zp}(hv:cK I μ args vs):
 CallsIn (fr none) 0 P f vs.toArray w (wH I μ H w r H'):=by
 unfold pU at h;split at h
 .rename_i sv cv;obtain⟨v1,r1,rfl,M,aC⟩:=hv.cons_inv;obtain⟨v2,r2,rfl,aD,aE⟩:=aC.cons_inv;obtain rfl:=aE.uN;have S:∀p l,v1=.slice p 0 l->CallsIn (fr none) 0 P f [v1,v2].toArray w (wH I μ H w .undef H):=by
   rintro p l rfl;refine Calls.fr ((hs.zero p l v2 w).mono ?_);rintro e w' ⟨rfl,rfl⟩;exact⟨_,I,μ,rfl,bH.undef _ _,s,Step.refl _ _ _ _⟩
  split at h
  .cases h;exact S none 0 M.lp
  .cases h;have⟨a,e⟩:=M.qJ;exact S a 0 e
  .rename_i id es off len;split at h
   .cases h;rcases M.lB with⟨p,l,_,_,_,_,e⟩|⟨_,a,e⟩
    .exact S _ l e
    exact S _ 0 e
   .rename_i n g cb;split at h
    .rename_i aS O J;split at h
     .rename_i ak;obtain⟨rfl,rfl,aQ,hn,_⟩:=ak;split at h
      .rename_i Y C aF ap;split at h
       .rename_i aq;cases h;have⟨p,c,el,N,hI,G,Q⟩:=s.obs id _ J;rcases M.lB with⟨q,l,hq,aT,aR,aG,rfl⟩|⟨h0,_⟩
        .rw[N]at hq;cases hq;obtain⟨va,K,rfl,hva,ar⟩:=aD.jI;have au:va=#[]:=by have:=hva.uN;simpa using this
         subst au;have al:=(ζe.1 J).1;have⟨A,_⟩:=s.kill J;generalize hT:cM (cg call.lv (H.set id .dead)) (((O.drop off).take (n+1)).flatten++cb)=T;have aH:plus I μ (H.set id .dead) w T p.b=none:=by cases t:plus I μ (H.set id .dead) w T p.b with|none=>rfl|some x=>exfalso;rcases xM (by rw[t];rfl)with h|⟨av,p',ob,_,g1,g2,g3,g4⟩;rw[hI]at h;cases h;have aw:av≠id:=(by rintro rfl;rw[List.getElem?_set_self al]at g1;cases g1;simp[Ob.live]at g2);rw[List.getElem?_set_ne (Ne.symm aw)]at g1;exact aw (s.inj av id ob (.row 1 O) p' p g1 J g2 rfl g3 N g4)
         let enc:Fin (n+1)->Zp:=λi=>(c[p.o+off*1+i.1]?).getD undef
         have Z:∀i:Fin (n+1),∃v,O[off+i.1]?=some [v]/\V.one v=true/\bH I μ v (enc i)/\c[p.o+off*1+i.1]?=some (enc i):=λi=>by have⟨v,u,e1,e2,e3,e4⟩:=vk Q (off+i.1) (x:=O[off+i.1]' Za) Zc;have e5:c[p.o+off*1+i.1]?=some u:=(by rw[<-e3];congr 1;omega);have e6:enc i=u:=(by show(c[p.o+off*1+i.1]?).getD undef=u;rw[e5];rfl);exact⟨v,by rw[<-e1];simp,e2,by rw[e6];exact e4,by rw[e5,e6]⟩
         have h1:OneCell enc:=λi=>by have⟨v,_,e2,e3,_⟩:=Z i;exact e3.one e2
         have⟨ax,ad⟩:=pO aq;have⟨aU,aI⟩:=iK aF;have⟨aJ,aK⟩:=iK ap;have ay:∀x∈(O.drop off).take (n+1),x.length=1:=λx t=>Q.oB x (List.mem_of_mem_drop (List.mem_of_mem_take t))
         have U:∀(i:Fin (n+1))u,Y[i.1]?=some u->eE (plus I μ (H.set id .dead) w T) u (enc i):=λi u hu=>by have⟨x,t,am⟩:=aI i.1 u hu;have⟨v,e1,_,e3,_⟩:=Z i;have e4:((O.drop off).take (n+1))[i.1]?=some [v]:=(by rw[getElem?_take,if_pos i.2,List.getElem?_drop];exact e1);have e5:=vg (es:=1) ay (i:=i.1) (j:=0) e4 rfl;have e5:((O.drop off).take (n+1)).flatten[i.1]?=some v:=(by simpa using e5);rw[e5]at t;cases t;refine(tG A T call.lv _ u _ am (λk E=>?_) e3).1;rw[<-hT];exact jL (List.mem_append_left _ (List.mem_of_getElem? e5)) E
         have aa:cK (plus I μ (H.set id .dead) w T) (λ_=>none) C K.toList:=by refine⟨aJ.trans ar.1,λj a b k1 k2=>?_⟩;have⟨x,t,am⟩:=aK j a k1;refine .c _ _ (tG A T call.lv x a b am (λk E=>?_) (ar.2 j x b t k2)).1;rw[<-hT];exact jL (List.mem_append_right _ (List.mem_of_getElem? t)) E
         have ae:=(Array.getElem?_eq_some_iff.1 G).1
         let d:Array (Fin (n+1)):=(finRange (n+1)).toArray
         have an:d.size=n+1:=by simp[d]
         have hd:∀j:Fin (n+1),d[j.1]! =j:=λj=>by simp[d,getElem!_pos]
         have hg:∀i j:Fin (n+1),∃z,iN call g Y C n i j=some z/\∃a b,Y[i.1]?=some a/\Y[j.1]?=some b/\b8 call g (a::b::C) []=some (.int .i64 z):=λi j=>by have⟨z,R⟩:=ax i j;have W:=R;unfold iN at W;split at W;rename_i a b F X;split at W;(next z' B=>cases W;exact⟨z,R,a,b,F,X,B⟩);cases W;cases W
         have aL:xZ P g:=by have⟨z,_,a,b,F,X,B⟩:=hg 0 0;have s0:cV (plus I μ (H.set id .dead) w T) (λ_=>none) [] w:=⟨λ_ _=>rfl,sD A T,Zc,Zc,A.gl.mono (nU _ _ _ _ _)⟩;exact(B8 hc B s0 (.cons (.c _ _ (U 0 a F)) (.cons (.c _ _ (U 0 b X)) aa))).1
         have key:=hs.all enc h1 (λi j=>(iN call g Y C n i j).getD 0) ad g K p.b (p.o+off*1) l d w (λargs w=>wk aL args) (by
          intro m os D aV i j;have⟨z,R,a,b,F,X,B⟩:=hg i j;have s0:cV (plus I μ (H.set id .dead) w T) (λ_=>none) [] (sortWorld enc w p.b (p.o+off*1) m D os):=⟨λ_ _=>rfl,λb x X=>IC.qT (sD A T b x X) (Qk enc p.b _ m D os (IC.s6 (sD A T b x X)) (by rintro rfl;rw[aH]at X;cases X)),Zc,Zc,A.gl.mono (nU _ _ _ _ _)⟩
          have:=CallsIn.un (B8 hc B s0 (vs:=enc i::enc j::K.toList) (.cons (.c _ _ (U i a F)) (.cons (.c _ _ (U j b X)) aa))).2;rw[show(enc i::enc j::K.toList).toArray=#[enc i,enc j]++K by apply ext';simp]at this
          refine this.mono ?_;rintro e w' ⟨u,I1,μ1,rfl,hu,s1,st⟩;exact⟨by rw[hu.fe];show _=Ending.returned (.int .i64 ((iN call g Y C n i j).getD 0));rw[R];rfl,st.grown⟩) (by
          intro j hj;have aA:j<n+1:=Za
          have⟨v,_,_,_,e4⟩:=Z ⟨j,aA⟩;rw[hd ⟨j,aA⟩];exact⟨by rw[uM G];exact e4,by simp[World.frozen?,G]⟩) ae Za
         rw[an]at key;refine Calls.fr (key.mono ?_);rintro e w' ⟨rfl,m,os,rfl⟩;have aM:ltOf (λi j=>(iN call g Y C n i j).getD 0)=oC (iN call g Y C n):=rfl
         rw[aM,A_];have af:=pdq_sorts (oC (iN call g Y C n)) ad d 0 d.size (Lib.bitLen d.size) true true (Nat.zero_le _) (le_refl _) (Or.inl rfl);rw[an]at af;have L:=af.1.1;change wH I μ H w .undef (H.set id (.row 1 (qo O off n (pdq (oC (iN call g Y C n)) d 0 (n+1) (Lib.bitLen (n+1)) true true).toList))) _ _;generalize pdq (oC (iN call g Y C n)) d 0 (n+1) (Lib.bitLen (n+1)) true true=D at L;rw[an]at L;unfold sortWorld;rw[H6 enc _ m D G];have s1:cV I μ H (Sort.ahead w m):=s.n_ rfl;have aN:Step I μ H w I μ H (Sort.ahead w m):=Step.n_ rfl rfl ⟨rfl,rfl,Nat.le_add_right _ _⟩;have ah:(Sort.putCells enc (p.o+off*1) D c).size=c.size:=by simp[Sort.putCells]
         have ai:∀i:Nat,(i<p.o+off*1\/p.o+off*1+(n+1)<=i)->(Sort.putCells enc (p.o+off*1) D c)[i]?=c[i]?:=λi hi=>by simp only[Sort.putCells,Array.getElem?_mapIdx];rw[L];cases c[i]?with|none=>rfl|some y=>simp only[map_some];rw[if_neg Za]
         have ao:∀i:Fin (n+1),(Sort.putCells enc (p.o+off*1) D c)[p.o+off*1+i.1]?=some (enc D[i.1]!):=λi=>by have⟨v,_,_,_,e4⟩:=Z i;simp only[Sort.putCells,Array.getElem?_mapIdx,e4,map_some];rw[if_pos ⟨Za,by rw[L];omega⟩];congr 3;omega
         have aB:=Q.room;have aO:(qo O off n D.toList).length=O.length:=by simp[qo,L];omega
         have⟨s2,st2⟩:=s1.write (o:=.cells (Sort.putCells enc (p.o+off*1) D c) el) (ob':=.row 1 (qo O off n D.toList)) J rfl N
          ⟨p,_,el,N,hI,ir _ ae,NC Q.es_eq (by rw[ah];exact Q.sz) (by rw[aO,ah];omega) λi x t=>by
           unfold qo at t
           by_cases c1:i<off
           .rw[List.append_assoc,List.getElem?_append_left (by simp;omega),getElem?_take,if_pos c1]at t
            have⟨v,u,e1,e2,e3,e4⟩:=vk Q i t;exact⟨v,u,e1,e2,by rw[ai _ Za];exact e3,e4⟩
           by_cases c2:i<off+(n+1)
           .rw[List.getElem?_append_left (by simp[L];omega),List.getElem?_append_right (by simp;omega)]at t
            have aj:i-off<D.size:=Za
            have e0:(O.take off).length=off:=by simp;omega
            simp only[e0,List.getElem?_map,Array.getElem?_toList]at t;rw[Array.getElem?_eq_getElem aj]at t;simp only[map_some,ζa]at t;have⟨v,e1,e2,e3,e4⟩:=Z D[i-off];rw[e1]at t;simp only[Option.getD_some]at t;refine⟨v,enc D[i-off],t.symm,e2,?_,e3⟩;have:=ao ⟨i-off,Za⟩
            simp only[getElem!_pos D (i-off) aj]at this;rw[<-this];congr 1;omega
           rw[List.getElem?_append_right (by simp[L];omega),List.getElem?_drop]at t
           have e0:off+(n+1)+(i-((O.take off)++D.toList.map (λi=>(O[off+i.1]?).getD [])).length)=i:=by simp[L];omega
           rw[e0]at t;have⟨v,u,e1,e2,e3,e4⟩:=vk Q i t;exact⟨v,u,e1,e2,by rw[ai _ Za];exact e3,e4⟩⟩
         have E:∀b,b<(fG (Sort.ahead w m) p.b (.cells (Sort.putCells enc (p.o+off*1) D c) el)).heap.size->(grow (fG (Sort.ahead w m) p.b (.cells (Sort.putCells enc (p.o+off*1) D c) el)) os).heap[b]?=(fG (Sort.ahead w m) p.b (.cells (Sort.putCells enc (p.o+off*1) D c) el)).heap[b]?:=λb X=>Es _ _ _ X
         have aP:=Step.kept (I:=I) (μ:=μ) (H:=H.set id (.row 1 (qo O off n D.toList))) E (by simp[grow]) rfl ⟨rfl,rfl,le_refl _⟩ (λa F h=>by unfold World.frozen? at h⊢;rw[E _ F];exact h)
         exact⟨_,I,μ,rfl,bH.undef _ _,s2.kept E,Step.trans s1 aN (Step.trans s2 st2 aP)⟩
        cases h0
       cases h
      cases h
     cases h
    cases h
   cases h
  cases h
 cases h
end
def AW(P:Program)(f:Zk)(args:Zu)(y:V):Prop:=xZ P f/\∀I μ H w t,cV I μ H w->cK I μ args t->CallsIn (fr none) 0 P f t.toArray w (wH I μ H w y H)
def Mi{P:Program}{call:dw}(a:ki P call){f:Zk}{b:Zl}{H':bp}(h:call (.fn f) [] []=some (.bool b,H')):AW P f [] (.bool b):=by
 have t:∀H,b8 call f [] H=some (.bool b):=by intro H;unfold b8;rw[show borrows call.lv H []=some []from rfl];simp only[h,jM _ H' (show(V.bool b).closed=true from rfl)];rfl
 refine⟨?_,λI μ H w u s c=>(B8 a (t H) s c).2⟩;have⟨d,_⟩:=a.fn _ _ _ _ _ h;omega
structure RW(P:Program)(E:Env):Prop where
 sort:∀f,E.sort f=true->zZ P f
 known:∀f args y,E.known f args=some y->AW P f args y
end Go.VE
namespace Go.VE
variable[bV]
section
variable{P:Program}{E:Env}{I I':ct}{μ μ':Mu}{H H':bp}{n B:Nat}{F F':Zo}{a:Act}{w w':World}
def Ip:∀(F:Zo)(t:Nat),F.length<=t->get F t=.undef
 |[],_,_=>rfl|_::_,0,h=>Ze|_::r,i+1,h=>Ip r i Zd
def FW:∀(F:Zo)(t:Nat)(x:V),F[t]?=some x->get F t=x
 |[],_,_,h=>Ze|_::_,0,_,h=>by simpa[get]using h|_::r,i+1,x,h=>FW r i x Zd
def I8(b:uo I){args:Zu}{vs:aZ Zp}{a:Nat}(h:cK I μ args vs)(B:args.length<=a):
 eC I μ a args (vs.toArray++replicate (a-vs.toArray.size) undef):=by
 have u:=h.1;refine⟨Ze,λt=>?_,b⟩
 by_cases C:t<args.length
 .have h1:args[t]?=some args[t]:=by simp_all
  have w:t<vs.length:=Za
  have z:vs[t]?=some vs[t]:=Ze
  rw[FW _ _ _ h1];have:(vs.toArray++replicate (a-vs.toArray.size) undef).getD t undef=vs[t]:=by rw[Array.getD_eq_getD_getElem?,Array.getElem?_append_left Zd];simp_all
  rw[this];exact h.2 t _ _ h1 z
 rw[Ip _ _ Za]
 have:(vs.toArray++replicate (a-vs.toArray.size) undef).getD t undef=undef:=by rw[Array.getD_eq_getD_getElem?,Array.getElem?_append_right Ze,Array.getElem?_replicate];grind
 rw[this];exact bH.undef _ _
def MJ(r:eC I μ n F a.tmps){t:Nat}{x:V}{v:Zp}(B:t<n)(h:bH I μ x v):eC I μ n (set F t x) (a.tmps.setIfInBounds t v):=by have:=eC.put (dst:=some t) r h (F':=set F t x) (by simp[jD,B]);simpa[Act.put]using this
def Ay:∀(ps:Zv)(xs:Zu)(vs:aZ Zp)(F:Zo)(tmps:Array Zp),eC I μ n F tmps->cK I μ xs vs->ps.all (·<n)=true->
 eC I μ n (wO ps xs F) ((ps.zip vs).foldl (λtmps(t,a)=>tmps.setIfInBounds t a) tmps)
 |[],_,_,F,tmps,r,_,_=>by simpa[wO]using r|t::ps,[],[],F,tmps,r,_,_=>by simpa[wO]using r|t::ps,[],v::vs,F,tmps,r,h,_=>by have:=h.1;grind|t::ps,x::xs,[],F,tmps,r,h,_=>by have:=h.1;grind|t::ps,x::xs,v::vs,F,tmps,r,h,hp=>by simp only[List.all_cons,ζh,decide_eq_true_eq]at hp;have c:=h.2 0 x v rfl rfl;have u:cK I μ xs vs:=⟨by have:=h.1;grind,λj a b d w=>h.2 (j+1) a b Zd Zd⟩;exact Ay ps xs vs _ _ (MJ (a:={tmps:=tmps,defers:=[]}) r hp.1 c) u hp.2
def GH{α β:Type}(g:α->Sem β):∀(l:aZ α)(w:World)(B:aZ β),B.length=l.length->(∀(j:Nat)x y,l[j]?=some x->B[j]?=some y->(g x).run P w=.ok y w)->(l.mapM g).run P w=.ok B w
 |[],w,[],_,_=>Zc|[],w,_::_,h,_=>Ze|_::_,w,[],h,_=>Ze|x::l,w,y::B,h,hg=>by have c:=hg 0 x y rfl rfl;have t:=GH g l w B Zd (λj a b d u=>hg (j+1) a b Zd Zd);simp_all
def Kx(tmps:Array Zp):ResultVar->Sem Zp
 |.tmp t=>pure (tmps.getD t undef)|.cell a t=>do loadVar t (<-asAddr (tmps.getD a undef))
def JZ(fn:Func)(tmps:Array Zp):results fn tmps=(fn.results.mapM (Kx tmps) >>= λvs=>pure (if h:vs.size=1 then vs[0]else .tuple vs)):=by congr 1
def Kn(W:eD P E){fn:Func}{tmps:Array Zp}(r:eC I μ n F tmps)(s:cV I μ H w){vs:Zu}(h:gG E F H fn.results.toList=some vs):
 ∃u,(results fn tmps).run P w=.ok u w/\bH I μ (result vs) u:=by
 have key:∀(l:aZ ResultVar)(vs:Zu),gG E F H l=some vs->∃z:aZ Zp,z.length=l.length/\cK I μ vs z/\
  ∀(j:Nat)x y,l[j]?=some x->z[j]?=some y->(Kx tmps x).run P w=.ok y w:=by
  intro l
  induction l with
  |nil=>intro vs h;simp[gG]at h;subst h;exact⟨[],rfl,.nil,Zc⟩|cons x l U=>
   intro vs h
   cases x with
   |tmp t=>
    simp only[gG,ζf]at h;obtain⟨D,h,rfl⟩:=h;have⟨z,a,C,Q⟩:=U D h;refine⟨tmps.getD t undef::z,Ze,.cons (r.2 t) C,?_⟩
    intro j x y J L
    cases j with
    |zero=>simp at J L;subst J;subst L;simp[Kx]|succ j=>grind
   |cell p t=>
    simp only[gG]at h;split at h
    .rename_i d D X S;simp only[ζf]at h;obtain⟨v,b,rfl⟩:=h;have⟨z,a,C,Q⟩:=U D S;have⟨u,_,c,Y,T,G⟩:=BB W s X (r.2 p) b;refine⟨u::z,Ze,.cons c C,?_⟩
     intro j x y J L
     cases j with
     |zero=>
      simp only[List.getElem?_cons_zero,ζa]at J L;subst J;subst L;have e:(do loadVar t (<-asAddr (tmps.getD p undef))).run P w=(loadVar t Y).run P w:=by rw[run_bind,T];rfl
      exact e.trans G
     |succ j=>grind
    grind
 have⟨z,a,C,Q⟩:=key _ _ h;have g:=GH _ fn.results.toList w z a Q;have Z:(fn.results.mapM (Kx tmps)).run P w=.ok z.toArray w:=by rw[Array.mapM_eq_mapM_toList];simp_all
 have O:z.length=vs.length:=C.1.symm;rw[JZ,run_bind,Z]
 by_cases B:z.length=1
 .obtain⟨u,rfl⟩:=List.length_eq_one_iff.1 B;obtain⟨v,rfl⟩:=List.length_eq_one_iff.1 (O▸B);exact⟨u,Zc,by simpa[result]using C.2 0 v u rfl rfl⟩
 refine⟨.tuple z.toArray,Ze,?_⟩
 have f:result vs=.tup vs:=by match vs,O with|[],_=>rfl|[_],h=>exact absurd h B|_::_::_,_=>rfl
 rw[f];exact .tup _ _ (by simpa using C.1) (by simpa using C.2)
def Md(G:eD P E){fn:Func}{tmps:Array Zp}{vs:Zu}(h:gG E F H' fn.results.toList=some vs)(U:w.heap.size<=B):∀(ds:aZ Deferred)(w':World),
 eC I' μ' n F tmps->cV I' μ' H' w'->Step I μ H w I' μ' H' w'->jH B ds w'->
 LeavesInM (fr none) 0 P fn tmps (wH I μ H w (result vs) H') ds .returning w':=by
 intro ds
 induction ds with
 |nil=>intro w' r s st m;have⟨u,b,c⟩:=Kn G r s h;exact⟨u,b,u,I',μ',rfl,c,s,st⟩|cons d ds J=>
  intro w' r s st m;have⟨q,a,S,C⟩:=m.all d Zc
  refine⟨Zc,.inl ⟨q,_,a,run_takeDeferred C,?_⟩⟩
  have t:=tw s C;have L:=PR s C Zc Zc
  have m':jH B ds w':=⟨λd O=>m.all d (mem_cons_of_mem _ O),(List.pairwise_cons.1 m.apart).2⟩
  refine J (fG w' q (.deferred none)) r (s.Aa _ L t) (st.after _ Za) ⟨λD z=>?_,m'.apart⟩
  have⟨Q,g1,g2,g3⟩:=m'.all D z;refine⟨Q,g1,g2,?_⟩;rw[fV _ ?_];exact g3;rintro rfl;exact(List.pairwise_cons.1 m.apart).1 D z _ a g1
def Dt(o:Out):(ku o).isNone=(o==.norm):=by cases o<;>simp[ku]<;>rfl
def D5(U:eD P E)(j:P.follows .mixedOrders=true)(b:RW P E):∀n,ki P (run E n):=by
 intro n;induction n with|zero=>exact⟨λ_ _ _ _ _ h=>(by cases h),λ_ _ _ _ _ h=>(by cases h)⟩|succ n B=>
  constructor;intro f args H r H' h;rw[E4]at h;simp[jm]at h;split at h;rename_i G ad;have⟨fn,y,hb,ae,T,J⟩:=U.ft f G ad;refine⟨⟨fn,y,Ze,J⟩,?_⟩;intro I μ w z s a;split at h;rename_i t;have A:∀o F' H2 rs,exec E (run E n) n false G.ntmps G.body args H=some (o,F',H2)->(∀id,o≠.exit id)->gG E F' H2 G.results=some rs->CallsIn (fr none) 0 P f z.toArray w (wH I μ H w (result rs) H2):=by intro o F' H2 rs hx al hr;refine callsIn_of_wp_marks y hb trivial ?_;rw[ae];have c:=I8 s.gl a t;have:=xo U j B n none false rfl G.ntmps G.body I μ args H {tmps:=z.toArray++replicate (G.ntmps-z.toArray.size) undef,defers:=[]} w o F' H2 hx c s ⟨Zc,.nil⟩ (le_refl _);refine wpIn_mono this ?_;rintro e k W ⟨rfl,⟨I1,F,r1,S,u⟩,m1⟩;have d:=Md U (by rw[T];omega) (le_refl _) k.defers W r1 S u m1;cases o with|norm=>exact d|ret=>exact d|exit id=>grind
  split at h;simp_all;simp at h;grind;grind;grind;split at h;next K=>exact⟨(b.sort f K).ok,λI μ w z s a=>PW B (b.sort f K) h s a⟩
  have⟨yy,M,h⟩:=ζf.1 h;cases h;exact⟨(b.known f args _ M).1,λI μ w z s a=>(b.known f args _ M).2 I μ H w z s a⟩;intro id args H r H' h I μ w z p s a hp;rw[E4]at h;simp only[jm]at h;split at h
  .rename_i rec X;split at h
   .split at h
    .rename_i t;split at h
     .rename_i F2 H2 af;split at h
      .rename_i r2 Y;split at h
       .rename_i Z;split at h
        .rename_i o F4 H4 ah;split at h
         .rename_i r4 aa;obtain⟨rfl,rfl⟩:=h;have⟨q,l,g1,g2,g3,g4⟩:=Au s X;rw[hp]at g1;cases g1;have ai:l.params.size=rec.params.length:=by have:=congrArg List.length g4.params;grind
          have aj:z.toArray.size=l.params.size:=by rw[ai,<-t.1];simpa using a.1.symm
          refine⟨p.b,l.fn,_,l.assign,l.body,run_yield g3 aj,?_⟩;refine roundIn_of_wpIn trivial ?_;have L:(l.params.zip z.toArray).foldl (λtmps x=>tmps.setIfInBounds x.1 x.2) l.tmps=(rec.params.zip z).foldl (λtmps x=>tmps.setIfInBounds x.1 x.2) l.tmps:=by rw[<-Array.foldl_toList,Array.toList_zip,g4.params]
          have c:=Ay rec.params args z rec.frame l.tmps g4.frame a t.2;rw[<-L]at c;have W:=xo U j B n (some p.b) true rfl rec.nt rec.assign I μ _ H {tmps:=_,defers:=[]} w _ _ _ af c s ⟨Zc,.nil⟩ (le_refl _);rw[g4.assign,g4.body];refine wpIn_mono W ?_;rintro e k W ⟨rfl,⟨I1,F,r1,S,u⟩,m1⟩;have⟨q,g,N,k2,R,O⟩:=Au S Y;rw[u.mu _ _ hp]at N;cases N;have C:g.state=.ready:=by have:=O.st;rw[Z]at this;cases d:g.state<;>rw[d]at this<;>simp[AI.is]at this
          refine⟨_,run_beginRound R C,?_⟩;have D:=u.mu _ _ hp;have⟨V,st2⟩:=S.write (ob':=.loop {r2 with st:=.busy}) Y rfl D
           ⟨p,{g with state:=.busy},D,k2,ir _ (Array.getElem?_eq_some_iff.1 R).1,⟨trivial,O.pend,O.pendOk,O.frame,O.params,O.assign,O.body⟩⟩
          have m2:=m1.step S st2;have w2:=xo U j B n (some p.b) true rfl rec.nt rec.body I1 F F2 _ k (fG W p.b (.loop {g with state:=.busy})) o F4 H4 ah r1 V m2 (by rw[vS];exact u.size);refine wpIn_mono w2 ?_;rintro e a3 w3 ⟨rfl,⟨I3,μ3,r3,m,Q⟩,m3⟩;have⟨q,l4,j1,j2,j3,i⟩:=Au m aa;rw[Q.mu _ _ D]at j1;cases j1;have ab:=Q.mu _ _ D;have fin:∃v w',(Instr.endRound p.b (ku o)).run P w3=.ok v w'/\wH I μ H w (.bool (o==.norm)) (H4.set id (.loop {r4 with st:=(if o==.norm then .ready else .done),pend:=(if o==.norm then none else some o)})) (.returned v) w':=by
           refine⟨_,_,run_endRound (ku o) j3,?_⟩;have⟨s4,ak⟩:=m.write (ob':=.loop {r4 with st:=(if o==.norm then .ready else .done),pend:=(if o==.norm then none else some o)}) aa rfl ab
            ⟨p,{l4 with state:=if(ku o).isNone then .ready else .done,pending:=ku o},ab,j2,ir _ (Array.getElem?_eq_some_iff.1 j3).1,⟨by cases o<;>exact trivial,by cases o<;>rfl,by cases o<;>simp,i.frame,i.params,i.assign,i.body⟩⟩
           refine⟨_,I3,μ3,rfl,?_,s4,Step.trans S u (Step.trans V st2 (Step.trans m Q ak))⟩;rw[Dt];exact .c _ _ (.bool _)
          cases o with|norm=>exact fin|ret=>exact fin|exit id=>exact fin
         grind
        grind
       grind
      grind
     grind
    grind
   grind
  grind
end
end Go.VE
namespace Go.VE
variable[bV]
variable{P:Program}
def oV.Jf{t:Zm}{d:TD}(h:vj P t=some d):oV P t d:=eD.ty (E:={tt:=vj P,ft:=λ_=>none,keep:=λ_=>false,own:=λ_=>false,eqN:=λ_=>none,sort:=λ_=>false}) ⟨λ_ _ h=>h,Zc,Zc⟩ h
def qF{i:Zm}{cs:Array Zp}{o:Nat}{v:Zp}{w:World}(B:vj P i=some ⟨1,8,[.int .i64 0],.int .i64⟩)(h:cs[o]?=some v):(part i cs o).run P w=.ok v w:=by unfold part;simp[run_bind,(oV.Jf B).KE,andThen,TD.agg,h]
def sQ{a:Zy}(h:a.length=2):∃x y,a=[x,y]:=by match a,h with|[x,y],_=>exact⟨x,y,rfl⟩
def yw(d:Nat)(e:Zl){i:Zm}(x:Int){w:World}(B:P.underlying i=some (.int .i64)):(checkKey e (d+1) i (.int .i64 x)).run P w=.ok () w:=by simp only[checkKey,run_bind,dH B,andThen_ok,run_pure]
def Fu(d:Nat)(e:Zl){t i:Zm}{f g:Field}(x y:Int){w:World}(hu:P.underlying t=some (.struct #[f,g]))(G:f.type=i)(hg:g.type=i)(of:f.offset=0)(J:g.offset=1)(nf:f.name≠ "_")(O:g.name≠ "_")
 (D:vj P i=some ⟨1,8,[.int .i64 0],.int .i64⟩)(B:P.underlying i=some (.int .i64)):(checkKey e (d+1+1) t (.agg (ic [x,y]))).run P w=.ok () w:=by
 have u:∀w,(part i (ic [x,y]) 0).run P w=.ok (.int .i64 x) w:=λw=>qF D rfl
 have p1:∀w,(part i (ic [x,y]) 1).run P w=.ok (.int .i64 y) w:=λw=>qF D rfl
 have q:∀(x:Int)w,(checkKey e (d+1) i (.int .i64 x)).run P w=.ok () w:=λx w=>yw d e x B
 unfold checkKey;simp only[run_bind,dH hu,andThen_ok];rw[<-Array.forIn_toList];simp only[List.forIn_cons,List.forIn_nil,run_bind,G,hg,of,J,nf,O,ne_eq,not_false_eq_true,if_true,u,p1,q,andThen_ok,run_pure]
def uY.two{t i:Zm}{f g:Field}(hu:P.underlying t=some (.struct #[f,g]))(W:f.type=i)(hg:g.type=i)(of:f.offset=0)(Y:g.offset=1)(nf:f.name≠ "_")(ng:g.name≠ "_")
 (U:vj P i=some ⟨1,8,[.int .i64 0],.int .i64⟩)(G:P.underlying i=some (.int .i64))(hs:P.stoodInHeld t=false)(hq:P.eqGuardType P.depth t=false):uY P t 2:=by
 have I:P.fieldsOf t=#[f,g]:=by unfold Program.fieldsOf;rw[hu]
 have B:∀(w:World)(x y z u:Int),(equal t (.agg (ic [x,y])) (.agg (ic [z,u]))).run P w=.ok ([x,y]==[z,u]) w:=by intro w x y z u;show(equalIn (9999+1) t _ _).run P w=_;rw[run_equalIn_struct w 9999 t _ _ (by rw[I];exact hu) hs,I];have Q:∀(x y:Int)w,(part i (ic [x,y]) 0).run P w=.ok (.int .i64 x) w:=λx y w=>qF U rfl;have p1:∀(x y:Int)w,(part i (ic [x,y]) 1).run P w=.ok (.int .i64 y) w:=λx y w=>qF U rfl;have q:∀(x y:Int)w,(equalIn 9999 i (.int .i64 x) (.int .i64 y)).run P w=.ok (x==y) w:=λx y w=>AO 9998 x y G;simp only[Op.eqFields,W,hg,of,Y,nf,ng,ne_eq,not_false_eq_true,if_true,run_bind,Q,q,andThen_ok];by_cases C:x=z;by_cases J:y=u;subst C;subst J;simp[run_bind,p1,q,andThen];subst C;have:(y==u)=false:=(by simpa using J);simp[run_bind,p1,q,andThen,this];have:(x==z)=false:=(by simpa using C);simp[this]
 have L:∀(op:BinOp)(p q:Zr)(w:World)(u v:Array Zp),(eqGuard op t p q (.agg u) (.agg v)).run P w=.ok () w:=by intro op p q w u v;unfold eqGuard;cases op<;>simp[run_bind,run_program,andThen,hq]
 refine⟨?_,?_,?_,?_,⟨_,hu,.inr ⟨_,rfl⟩⟩⟩
 .intro w p q a b D O;obtain⟨x,y,rfl⟩:=sQ D;obtain⟨z,u,rfl⟩:=sQ O;rw[run_bind,L,andThen_ok];show(do pure (Value.bool (<-equal t (.agg (ic [x,y])) (.agg (ic [z,u])))):Sem Zp).run P w=_
  rw[run_bind,B];rfl
 .intro w p q a b D O;obtain⟨x,y,rfl⟩:=sQ D;obtain⟨z,u,rfl⟩:=sQ O;rw[run_bind,L,andThen_ok];show(do pure (Value.bool (!(<-equal t (.agg (ic [x,y])) (.agg (ic [z,u]))))):Sem Zp).run P w=_
  rw[run_bind,B];rfl
 .intro w a b D O;obtain⟨x,y,rfl⟩:=sQ D;obtain⟨z,u,rfl⟩:=sQ O;exact B w x y z u
 intro w e a D;obtain⟨x,y,rfl⟩:=sQ D;exact Fu 9998 e x y hu W hg of Y nf ng U G
def lk{α:Type}:aZ (Nat×α)->Nat->a_ α
 |[],_=>none|(k,v)::r,n=>bif beq k n then some v else lk r n
def LD{α:Type}:∀{l:aZ (Nat×α)}{n:Nat}{v:α},lk l n=some v->(n,v)∈l
 |[],_,_,h=>by simp[lk]at h|(k,x)::r,n,v,h=>by simp only[lk]at h;cases a:beq k n with|true=>rw[a]at h;simp only[cond_true,ζa]at h;have:=Nat.eq_of_beq_eq_true a;subst this;subst h;simp|false=>rw[a]at h;exact mem_cons_of_mem _ (LD h)
end Go.VE
namespace Go.VE
variable[bV]
inductive KT where|bool|str|slice|ptr|map|int|other
 deriving DecidableEq
def TK.tag:TK->KT
 |.bool=>.bool|.int _=>.int|.str=>.str|.ptr _=>.ptr|.slice _=>.slice|.map ..=>.map|_=>.other
def oa(k:KT)(x y:V):a_ Zl:=
 match k,x,y with
 |.slice,.bJ,.bJ=>some true|.slice,.fsl ..,.bJ=>some false|.slice,.hsl ..,.bJ=>some false|.ptr,.gP,.gP=>some true|.ptr,.fptr _,.gP=>some false|.ptr,.hptr ..,.gP=>some false|.map,.gb,.gb=>some true|.map,.fmap _,.gb=>some false|.map,.hmap _,.gb=>some false|_,_,_=>none
def gq(k:a_ KT)(e:a_ Nat)(op:BinOp)(x y:V):a_ V:=
 match x,y with
 |.int k a,.int u b=>
  match op with
  |.shl=>if b<0 then none else some (.int k (k.wrap (a*2 ^ (min b.toNat k.bits))))|.shr=>if b<0 then none else some (.int k (a.fdiv (2 ^ (min b.toNat k.bits))))|_=>if k=u then
   match op with
   |.add=>some (.int k (k.wrap (a+b)))|.sub=>some (.int k (k.wrap (a-b)))|.mul=>some (.int k (k.wrap (a*b)))|.quo=>if b=0 then none else some (.int k (k.wrap (a.tdiv b)))|.rem=>if b=0 then none else some (.int k (a.tmod b))|.and=>some (.int k (k.wrap (ofInt k.bits a &&& ofInt k.bits b).toNat))|.or=>some (.int k (k.wrap (ofInt k.bits a ||| ofInt k.bits b).toNat))|.xor=>some (.int k (k.wrap (ofInt k.bits a ^^^ ofInt k.bits b).toNat))|.andNot=>some (.int k (k.wrap (ofInt k.bits a &&& ~~~ ofInt k.bits b).toNat))|op=>(mT op a b).map .bool
   else none
 |.str a,.str b=>
  match op with
  |.add=>if((a.size+b.size:Nat):Int)>IntKind.i64.max then none else some (.str (a++b))|.eql=>some (.bool (a.toList==b.toList))|.neq=>some (.bool !(a.toList==b.toList))|.lss=>some (.bool (bytesLess a.toList b.toList))|.leq=>some (.bool (bytesLess a.toList b.toList||a.toList==b.toList))|.gtr=>some (.bool !(bytesLess a.toList b.toList||a.toList==b.toList))|.geq=>some (.bool !(bytesLess a.toList b.toList))|_=>none
 |.bool a,.bool b=>
  match k,op with
  |some .bool,.eql=>some (.bool (a==b))|some .bool,.neq=>some (.bool !(a==b))|_,_=>none
 |.agg a,.agg b=>
  match e,op with
  |some n,.eql=>if a.length=n then(kf a b).map .bool else none|some n,.neq=>if a.length=n then(kf a b).map (λt=>.bool !t)else none|_,_=>none
 |x,y=>
  match k,op with
  |some k,.eql=>(oa k x y).map .bool|some k,.neq=>(oa k x y).map λt=>.bool !t|_,_=>none
def KH(k:TK)(x y:V):tE k x y=oa k.tag x y:=by cases k<;>cases y<;>(try rfl)<;>cases x<;>rfl
def Qx(E:Env)(op:BinOp)(t:Zm)(x y:V):Gm E op t x y=gq ((E.cN t).map TK.tag) (E.eqN t) op x y:=by
 unfold Gm;split;rfl;rfl;cases b:E.cN t with|none=>rfl|some k=>cases k<;>cases op<;>rfl
 rfl;rename_i a u w z
 cases b:E.cN t with
 |none=>rw[gq.eq_29 _ _ _ _ _ a u w z Zc Zc]|some k=>
  simp only[KH];cases op<;>first
   |exact(gq.eq_27 _ _ _ _ a u w z).symm|exact(gq.eq_28 _ _ _ _ a u w z).symm|(rw[gq.eq_29 _ _ _ _ _ a u w z Zc Zc])
inductive ud where
 |id|pick|nilc
 |bin(k:Option KT)(e:Option Nat)(op:BinOp)
 |not|neg
 |conv(k:IntKind)
 |fieldAddr(off:Nat)
 |field(off size:Nat)(agg:Bool)
 |idxS(size:Nat)
 |idxA(len size:Nat)
 |idxStr
 |idxArr(len size:Nat)(agg:Bool)
 |sliceStr(lo hi:Bool)
 |slice(size:Nat)(lo hi:Bool)
 |slice00
 |build(zero:List V)(pl:List (Nat×Nat))
 |clo(name:Nat)(k:Nat)
 |ext(i:Nat)
 |lenStr|lenSl|capSl|max|min|bad|max4
 |makeC(size:Nat)(zero:List V)
 |buildC(size len:Nat)(zero:List V)(idx:List Nat)
 |emptyC
def Jg:V->a_ V
 |.hptr id el off=>some (.hptr id el off)|.fptr cs=>some (.fptr cs)|.clo f a b=>some (.clo f a b)|_=>none
def gJ(off:Nat):V->a_ V
 |.fptr cs=>if off<=cs.length then some (.fptr (cs.drop off))else none|.hptr id el o=>some (.hptr id el (o+off))|_=>none
def kU(size:Nat)(s:V)(n:Int):a_ V:=
 if n<0 then none else match s with
 |.fsl es t=>if es=size then(t[n.toNat]?).map .fptr else none|.hsl id es off len=>if es=size/\n.toNat<len then some (.hptr id (off+n.toNat) 0)else none|_=>none
def vF(len size:Nat)(p:V)(n:Int):a_ V:=
 if 0<=n/\n<len then match p with
  |.fptr t=>if n.toNat*size<=t.length then some (.fptr (t.drop (n.toNat*size)))else none|.hptr id el o=>some (.hptr id el (o+n.toNat*size))|_=>none
 else none
def kV:Zl->Zl->Zu->a_ (Z6×Z6)
 |false,false,[]=>some (none,none)|true,false,[.int _ l]=>some (some l,none)|false,true,[.int _ h]=>some (none,some h)|true,true,[.int _ l,.int _ h]=>some (some l,some h)|_,_,_=>none
def gM(size:Nat)(v:V)(l h:Z6):a_ V:=
 match v with
 |.fsl es t=>if es=size then(dO t.length l h).map λ(l,h)=>.fsl es ((t.take h).drop l)else none|.hsl id es off len=>if es=size then(dO len l h).map λ(l,h)=>.hsl id es (off+l) (h-l)else none|.dG=>(dO 0 l h).map λ_=>.dG|.bJ=>(dO 0 l h).map λ_=>.bJ|_=>none
def Kc:V->Zl
 |.fsl ..|.hsl ..|.dG|.bJ=>true|_=>false
def jZ(cells:Zu):aZ (Nat×Nat)->Zu->a_ Zu
 |[],[]=>some cells|(off,size)::pl,v::vs=>
  if v.cells.length≠size||off+v.cells.length>cells.length then none
  else jZ (cells.take off++v.cells++cells.drop (off+v.cells.length)) pl vs
 |_,_=>none
def mN:V->a_ V
 |.fsl _ xs=>some (.int .i64 xs.length)|.hsl _ _ _ len=>some (.int .i64 len)|.dG=>some (.int .i64 0)|.bJ=>some (.int .i64 0)|_=>none
def G9:V->a_ V
 |.bJ|.dG=>some (.int .i64 0)|_=>none
def bn(N:Nat->Zk):ud->Zu->a_ V
 |.id,[x]=>some x
 |.pick,[.bool t,a,b]=>some (if t then a else b)
 |.nilc,[x]=>Jg x
 |.bin k e op,[x,y]=>gq k e op x y
 |.not,[.bool b]=>some (.bool !b)
 |.neg,[.int k n]=>some (.int k (k.wrap (0-n)))
 |.conv k,[.int _ n]=>some (.int k (k.wrap n))
 |.fieldAddr off,[p]=>gJ off p
 |.field off size agg,[.agg cs]=>(cut cs off size).bind (mk agg)
 |.idxS size,[s,.int _ n]=>kU size s n
 |.idxA len size,[p,.int _ n]=>vF len size p n
 |.idxStr,[.str s,.int _ n]=>if 0<=n then(s[n.toNat]?).map (λb=>.int .u8 b.toNat)else none
 |.idxArr len size agg,[.agg cs,.int _ n]=>if 0<=n/\n<len then(cut cs (n.toNat*size) size).bind (mk agg)else none
 |.sliceStr D G,.str s::J=>(kV D G J).bind λ(l,h)=>(dO s.size l h).map λ(l,h)=>.str (s.extract l h)
 |.slice size D G,v::J=>(kV D G J).bind λ(l,h)=>gM size v l h
 |.slice00,[v,.int _ h,.int _ m]=>if Kc v&&h==0&&m==0 then some .dG else none
 |.build zero pl,vs=>(jZ zero pl vs).map .agg
 |.clo name k,vs=>some (.clo (N name) (vs.take k) (vs.drop k))
 |.ext i,[.tup vs]=>vs[i]?
 |.lenStr,[.str s]=>some (.int .i64 s.size)
 |.lenSl,[v]=>mN v
 |.capSl,[v]=>G9 v
 |.max,[.int k a,.int B b]=>if k=B then some (.int k (if b>a then b else a))else none
 |.max4,[.int k a,.int O b,.int U c,.int W d]=>if k=O/\k=U/\k=W then some (.int k (Bp (Bp (Bp a b) c) d))else none
 |.min,[.int k a,.int B b]=>if k=B then some (.int k (if b<a then b else a))else none
 |.makeC size zero,[.int k n,.int B m]=>if k=.i64/\B=.i64/\0<=n/\n=m/\m<=2147483648/\zero.all V.scalar=true then some (.fsl size (List.replicate n.toNat zero))else none
 |.buildC size len zero idx,vs=>if V.cO vs=true/\idx.length=vs.length then match eY size (List.replicate len zero) (idx.zip vs)with
  |some xs=>if xs.isEmpty=false/\(xs.all λx=>x.all V.scalar)=true then some (.fsl size xs)else none
  |none=>none
  else none
 |.emptyC,[]=>some .dG
 |_,_=>none
inductive wv where|int (k:IntKind)|str|ints (n:Nat)
def B1(E:Env)(t:Zm):a_ wv:=
 match E.cN t with
 |some (.int k)=>some (.int k)|some .str=>some .str|some _=>(E.eqN t).map .ints|none=>none
def oT:wv->V->Zl
 |.int k,.int B _=>k==B|.str,.str _=>true|.ints n,.agg cs=>cs.length==n&&(g_ cs).isSome|_,_=>false
inductive Iz where
 |load(size:Nat)(agg:Bool)|loadF(size:Nat)(agg:Bool)|lookup(kk:wv)(zero:V)(ok:Bool)
def eP(H:bp):Iz->Zu->a_ V
 |.load size agg,[p]=>(eo H p size).bind (mk agg)|.lookup kk z ok,[m,k]=>match l_ H m with
  |some B=>if oT kk k then match iy k B 0 with
   |some (some (_,v))=>some (if ok then .tup [v,.bool true]else v)|some none=>some (if ok then .tup [z,.bool false]else z)|none=>none
   else none
  |none=>none
 |_,_=>none
inductive Mw where
 |alloc(size:Nat)(zero:List V)|box|makeSl(size:Nat)(zero:List V)|buildSl(size len:Nat)(zero:List V)(idx:List Nat)|makeMap
def gT:Mw->Zu->a_ (Ob×Mk)
 |.alloc size zero,[]=>some (.row size [zero],.ptr)|.box,[v]=>if v.cells.all V.one then some (.row v.cells.length [v.cells],.ptr)else none|.makeSl size zero,[.int k n,.int B m]=>if k=.i64/\B=.i64/\0<=n/\n<=m/\m<=2147483648 then some (.row size (List.replicate m.toNat zero),.sl size n.toNat)else none|.buildSl size len zero idx,vs=>if idx.length=vs.length then(eY size (List.replicate len zero) (idx.zip vs)).map λxs=>(.row size xs,.sl size len)else none|.makeMap,[]=>some (.map [],.map)|_,_=>none
inductive IP where
 |store(size:Nat)|storeF(size:Nat)|mapUp(kk:wv)|append(size:Nat)|appMk(size bytes:Nat)(zero:List V)|clear(size:Nat)(zero:List V)
def eV(H:bp):IP->Zu->a_ (V×bp)
 |.store size,[.hptr id el off,v]=>match H[id]?with
  |some (.row es xs)=>match xs[el]?with
   |some cs=>if v.cells.length=size/\off+size<=cs.length/\v.cells.all V.one=true then
    some (.undef,H.set id (.row es (xs.set el (cs.take off++v.cells++cs.drop (off+v.cells.length)))))else none
   |none=>none
  |_=>none
 |.mapUp kk,[.hmap id,k,v]=>match H[id]?with
  |some (.map B)=>if oT kk k then(oG k v B).map λB=>(.undef,H.set id (.map B))else none|_=>none
 |.append size,[s,x]=>match dD H size s,dD H size x with
  |some _,some []=>some (s,H)|some xs,some ys=>if xs.length+ys.length<=2147483648 then(gB H s).map λH1=>(.hsl H.length size 0 (xs.length+ys.length),H1++[.row size (xs++ys)])else none|_,_=>none
 |.appMk size bytes zero,[s,x]=>mkApp H size bytes zero s x|.clear size zero,[v]=>BQ H size zero v|.storeF size,.hptr id el off::v::l=>if l.all (qf id)=true then match H[id]?with
  |some (.row es xs)=>match xs[el]?with
   |some cs=>if v.cells.length=size/\off+size<=cs.length/\v.cells.all V.one=true then
    some (.undef,H.set id (.row es (xs.set el (cs.take off++v.cells++cs.drop (off+v.cells.length)))))else none
   |none=>none
  |_=>none
  else none
 |_,_=>none
inductive K where
 |p(p:ud)|r(r:Iz)|a(a:Mw)|l(l:IP)|c|e(size:Nat)|b
def Tv(E:Env)(t:Zm):a_ KT:=(E.cN t).map TK.tag
def resolve(E:Env)(nm:Zk->a_ Nat):Op->a_ (K×aZ Zr)
 |.move x|.assign x=>some (.p .id,[x])
 |.pick c a b=>some (.p .pick,[c,a,b])
 |.nilCheck x=>some (.p .nilc,[x])
 |.binOp op t x y _=>some (.p (.bin (Tv E t) (E.eqN t) op),[x,y])
 |.unOp .not _ x=>some (.p .not,[x])
 |.unOp .neg _ x=>some (.p .neg,[x])
 |.convert s d x=>match E.tt s,E.tt d with
  |some _,some O=>match O.kind with
   |.int k=>some (.p (.conv k),[x])
   |.str=>match E.cN s with
    |some (.slice e)=>match E.cN e with
     |some (.int .u8)=>some (.b,[x])
     |_=>none
    |_=>none
   |_=>none
  |_,_=>none
 |.fieldAddr s x f=>match E.cN s with
  |some (.struct fs)=>match fs[f]?with
   |some (off,t)=>match E.tt t with
    |some d=>if d.size=0 then none else some (.p (.fieldAddr off),[x])
    |none=>none
   |none=>none
  |_=>none
 |.field s x f=>match E.cN s with
  |some (.struct fs)=>match fs[f]?with
   |some (off,t)=>match E.tt t with
    |some d=>some (.p (.field off d.size d.agg),[x])
    |none=>none
   |none=>none
  |_=>none
 |.indexAddr t x i=>match E.cN t with
  |some (.slice e)=>(E.tt e).map λd=>(.p (.idxS d.size),[x,i])
  |some (.array len e)=>(E.tt e).map λd=>(.p (.idxA len d.size),[x,i])
  |_=>none
 |.index t x i=>match E.cN t with
  |some .str=>some (.p .idxStr,[x,i])
  |some (.array len e)=>(E.tt e).map λd=>(.p (.idxArr len d.size d.agg),[x,i])
  |_=>none
 |.slice t x B D U=>match E.cN t,U with
  |some .str,none=>some (.p (.sliceStr B.isSome D.isSome),x::(B.toList++D.toList))
  |some (.slice e),none=>(E.tt e).map λd=>(.p (.slice d.size B.isSome D.isSome),x::(B.toList++D.toList))
  |some (.slice e),some m=>match E.tt e,B,D with
   |some _,none,some h=>some (.p .slice00,[x,h,m])
   |_,_,_=>none
  |_,_=>none
 |.build t ps=>match E.tt t with
  |some d=>match d.kind with
   |.struct fs=>match mm E fs with
    |some pl=>(ps.toList.mapM λ(q:Nat×Zr)=>pl[q.1]?).map λq=>(K.p (.build d.zero q),ps.toList.map λ(q:Nat×Zr)=>q.2)
    |none=>none
   |.array _ e=>(E.tt e).map λJ=>(K.p (.build d.zero (ps.toList.map λ(q:Nat×Zr)=>(q.1*J.size,J.size))),ps.toList.map λ(q:Nat×Zr)=>q.2)
   |_=>none
  |none=>none
 |.makeFunc (.func f) a b=>(nm f).map λs=>(.p (.clo s a.toList.length),a.toList++b.toList)
 |.extract x i=>some (.p (.ext i),[x])
 |.load t a=>(E.tt t).map λd=>(.r (.load d.size d.agg),[a])
 |.lookup t m k ok=>match E.cN t with
  |some (.map G W)=>match E.tt W,B1 E G with
   |some d,some kk=>(mk d.agg d.zero).map λz=>(.r (.lookup kk z ok),[m,k])
   |_,_=>none
  |_=>none
 |.alloc t=>(E.tt t).map λd=>(.a (.alloc d.size d.zero),[])
 |.box _ x=>some (.a .box,[x])
 |.makeSlice t l c=>match E.cN t with
  |some (.slice e)=>match E.tt e with
   |some d=>if d.bytes<=4096 then some (.a (.makeSl d.size d.zero),[l,c])else none
   |none=>none
  |_=>none
 |.buildSlice t len ps=>match E.cN t with
  |some (.slice e)=>match E.tt e with
   |some d=>if len*d.size<=16777216 then some (.a (.buildSl d.size len d.zero (ps.toList.map (·.1))),ps.toList.map (·.2))else none
   |none=>none
  |_=>none
 |.makeMap _ none=>some (.a .makeMap,[])
 |.store t a x=>(E.tt t).map λd=>(.l (.store d.size),[a,x])
 |.mapUpdate t m k x|.insert t m k x=>match E.cN t with
  |some (.map G _)=>(B1 E G).map λkk=>(.l (.mapUp kk),[m,k,x])
  |_=>none
 |.call {callee:=.builtin .append,args,argTypes}=>match argTypes.toList,args.toList with
  |[t,Y],[s,x]=>match E.cN t,E.cN Y with
   |some (.slice e),some (.slice _)=>match E.tt e with
    |some d=>if d.bytes<=4096/\0<d.bytes then some (.l (.append d.size),[s,x])else none
    |none=>none
   |some (.slice e),some (.int _)=>(E.tt e).map λd=>(.l (.appMk d.size d.bytes d.zero),[s,x])
   |_,_=>none
  |_,_=>none
 |.call {callee:=.builtin .len,args,argTypes}=>match argTypes[0]?,args.toList with
  |some t,[x]=>match E.cN t with
   |some .str=>some (.p .lenStr,[x])
   |some (.slice _)=>some (.p .lenSl,[x])
   |_=>none
  |_,_=>none
 |.call {callee:=.builtin .cap,args,argTypes}=>match argTypes[0]?,args.toList with
  |some t,[x]=>match E.cN t with
   |some (.slice _)=>some (.p .capSl,[x])
   |_=>none
  |_,_=>none
 |.call {callee:=.builtin .clear,args,argTypes}=>match argTypes[0]?,args.toList with
  |some t,[x]=>match E.cN t with
   |some (.slice e)=>(E.tt e).map λd=>(.l (.clear d.size d.zero),[x])
   |_=>none
  |_,_=>none
 |.panic _=>some (.p .bad,[])
 |.makeInterface ..=>some (.p .bad,[])
 |.call {callee:=.builtin .max,args,..}=>match args.toList with
  |[x,y]=>some (.p .max,[x,y])
  |[x,y,z,t]=>some (.p .max4,[x,y,z,t])
  |_=>none
 |.call {callee:=.builtin .min,args,..}=>match args.toList with
  |[x,y]=>some (.p .min,[x,y])
  |_=>none
 |.call {callee:=.value f,args,..}=>some (.c,f::args.toList)
 |_=>none
section
variable{E:Env}{nm:Zk->a_ Nat}{N:Nat->Zk}{F:Zo}
def nr{x:Zr}{vs:Zu}(h:fA F [x]=some vs):∃a,ev F x=some a/\vs=[a]:=by simp[fA]at h;grind
def iH{x:Zr}{l:aZ Zr}{vs:Zu}(h:fA F (x::l)=some vs):∃a az,ev F x=some a/\fA F l=some az/\vs=a::az:=by simp[fA]at h;grind
def pq{vs:Zu}(h:fA F []=some vs):vs=[]:=by simp[fA]at h;grind
def rJ{x y:Zr}{vs:Zu}(h:fA F [x,y]=some vs):∃a b,ev F x=some a/\ev F y=some b/\vs=[a,b]:=by obtain⟨a,az,u,t,rfl⟩:=iH h;obtain⟨b,w,rfl⟩:=nr t;grind
def Gk{x y z:Zr}{vs:Zu}(h:fA F [x,y,z]=some vs):∃a b c,ev F x=some a/\ev F y=some b/\ev F z=some c/\vs=[a,b,c]:=by obtain⟨a,az,u,t,rfl⟩:=iH h;obtain⟨b,c,w,d,rfl⟩:=rJ t;grind
def JD{l m:aZ Zr}{vs:Zu}(h:fA F (l++m)=some vs):∃az B,fA F l=some az/\fA F m=some B/\vs=az++B:=by induction l generalizing vs with|nil=>exact⟨[],vs,rfl,h,rfl⟩|cons x l t=>obtain⟨a,az,u,w,rfl⟩:=iH h;obtain⟨b,c,z,d,rfl⟩:=t w;refine⟨a::b,c,?_,d,rfl⟩;simp[fA,u,z]
def JB{l:aZ Zr}{vs:Zu}(h:fA F l=some vs):vs.length=l.length:=by induction l generalizing vs with|nil=>rw[pq h];rfl|cons x l t=>obtain⟨a,az,_,u,rfl⟩:=iH h;grind
def z6(E:Env)(N:Nat->Zk)(F:Zo)(op:Op)(vs:Zu):K->Prop
 |.p p=>c_ op=.pure/\∀v,bn N p vs=some v->bP E F op=some v|.r r=>c_ op=.read/\∀H v,eP H r vs=some v->dW E F H op=some v|.a a=>c_ op=.alloc/\∀x,gT a vs=some x->eM E F op=some x|.l l=>c_ op=.loud/\∀H x,eV H l vs=some x->c8 E F H op=some x|.e _=>False|.b=>c_ op=.pure/\∃x,vs=[x]/\∀H ys l,dD H 1 x=some ys->o9 ys=some l->bP E F op=none/\evalConv E F H op=some (.str (Jb l))|.c=>c_ op=.call/\∃f az,vs=f::az/\jx F op=(match f with|.clo g a b=>some (.fn g,a++az++b)|.yld id=>some (.yld id,az)|_=>none)
def Hr(place:Nat->a_ (Nat×Nat)):∀(ps:aZ (Nat×Zr))(q:aZ (Nat×Nat))(vs:Zu)(cells cs:Zu),(ps.mapM λ(x:Nat×Zr)=>place x.1)=some q->
 fA F (ps.map λ(x:Nat×Zr)=>x.2)=some vs->jZ cells q vs=some cs->∃B,lE F ps=some B/\tf place cells B=some cs:=by
 intro ps
 induction ps with
 |nil=>
  intro q vs cells cs b c h;simp at b;subst b;have:=pq (by simpa using c);subst this
  simp[jZ]at h;subst h;exact⟨[],rfl,rfl⟩
 |cons p ps z=>
  intro q vs cells cs b c h;have⟨i,x⟩:=p;simp only[List.mapM_cons,Option.pure_def,Option.bind_eq_bind,ζg,ζa]at b;obtain⟨pl,t,C,u,rfl⟩:=b;obtain⟨a,az,D,w,rfl⟩:=iH (by simpa using c)
  simp only[jZ]at h;split at h
  .simp_all
  have⟨B,d,G⟩:=z C az _ cs u w h;refine⟨(i,a)::B,by simp[lE,D,d],?_⟩
  simp[tf,t]
  grind
def K5:∀(ps:aZ (Nat×Zr))(vs:Zu),fA F (ps.map λ(x:Nat×Zr)=>x.2)=some vs->lE F ps=some ((ps.map λ(x:Nat×Zr)=>x.1).zip vs):=by intro ps;induction ps with|nil=>simp[lE]|cons p ps u=>intro vs b;obtain⟨a,az,w,t,rfl⟩:=iH (by simpa using b);simp[lE,w,u az t]
def Hp{G D:a_ Zr}{vs:Zu}{l h:Z6}(c:fA F (G.toList++D.toList)=some vs)(B:kV G.isSome D.isSome vs=some (l,h)):jt F G=some l/\jt F D=some h:=by
 cases G with
 |none=>cases D with|none=>have:=pq (by simpa using c);subst this;obtain⟨rfl,rfl⟩:=B;exact⟨rfl,rfl⟩|some y=>obtain⟨b,t,rfl⟩:=nr (by simpa using c);cases b<;>simp[kV]at B;obtain⟨rfl,rfl⟩:=B;simp[jt,t]
 |some x=>cases D with|none=>obtain⟨b,t,rfl⟩:=nr (by simpa using c);cases b<;>simp[kV]at B;obtain⟨rfl,rfl⟩:=B;simp[jt,t]|some y=>obtain⟨a,b,u,t,rfl⟩:=rJ (by simpa using c);cases a<;>cases b<;>simp[kV]at B;obtain⟨rfl,rfl⟩:=B;simp[jt,u,t]
def y_{t:Zm}{kk:wv}{k:V}(h:B1 E t=some kk)(a:oT kk k=true):zT E t k=true:=by unfold B1 at h;unfold zT;cases w:E.cN t with|none=>grind|some z=>rw[w]at h;have b:(E.eqN t).map wv.ints=some kk->∃n u,E.eqN t=some n/\k=.agg u/\(u.length==n&&(g_ u).isSome)=true:=(by intro h;simp at h;obtain⟨n,B,rfl⟩:=h;cases k<;>simp[oT]at a<;>first|grind|grind);cases z with|int C=>simp at h;subst h;cases k<;>simp[oT]at a;grind|str=>simp at h;subst h;cases k<;>simp[oT]at a;rfl|_=>obtain⟨n,u,c,rfl,D⟩:=b h;simp_all
def iV(hN:∀f s,nm f=some s->N s=f){op:Op}{k:K}{os:aZ Zr}{vs:Zu}(h:resolve E nm op=some (k,os))(j:fA F os=some vs):z6 E N F op vs k:=by
 cases op with
 |move x=>obtain⟨rfl,rfl⟩:=h;obtain⟨a,w,rfl⟩:=nr j;exact⟨rfl,λv g=>by simpa[bn,bP,w]using g⟩|assign x=>obtain⟨rfl,rfl⟩:=h;obtain⟨a,w,rfl⟩:=nr j;exact⟨rfl,λv g=>by simpa[bn,bP,w]using g⟩|pick c a b=>simp[resolve]at h;obtain⟨rfl,rfl⟩:=h;obtain⟨x,y,z,hx,hy,U,rfl⟩:=Gk j;refine⟨rfl,λv g=>?_⟩;cases x<;>simp[bn]at g;rename_i t;subst g;cases t<;>simp[bP,hx,hy,U]|nilCheck x=>simp[resolve]at h;obtain⟨rfl,rfl⟩:=h;obtain⟨a,w,rfl⟩:=nr j;refine⟨rfl,λv g=>?_⟩;cases a<;>simp[bn,Jg]at g<;>subst g<;>simp[bP,w]|binOp ai t x y yt=>simp only[resolve,ζa,ζc]at h;obtain⟨rfl,rfl⟩:=h;obtain⟨a,b,w,G,rfl⟩:=rJ j;exact⟨rfl,λv g=>by simp only[bP,w,G,Qx];exact g⟩|unOp u t x=>cases u with|not=>simp only[resolve,ζa,ζc]at h;obtain⟨rfl,rfl⟩:=h;obtain⟨a,w,rfl⟩:=nr j;refine⟨rfl,λv g=>?_⟩;cases a<;>simp[bn]at g;subst g;simp[bP,w]|neg=>simp only[resolve,ζa,ζc]at h;obtain⟨rfl,rfl⟩:=h;obtain⟨a,w,rfl⟩:=nr j;refine⟨rfl,λv g=>?_⟩;cases a<;>simp[bn]at g;subst g;simp[bP,w]|_=>simp[resolve]at h
 |convert s d x=>
  simp only[resolve]at h;split at h
  .rename_i sd td P C;split at h;rename_i k n;simp only[ζa,ζc]at h;obtain⟨rfl,rfl⟩:=h;obtain⟨a,w,rfl⟩:=nr j;refine⟨rfl,λv g=>?_⟩;cases a<;>simp[bn]at g;subst g;simp[bP,w,P,C,n]
   .rename_i n;split at h
    .rename_i e he;split at h
     .rename_i hu;simp only[ζa,ζc]at h;obtain⟨rfl,rfl⟩:=h;obtain⟨a,w,rfl⟩:=nr j;refine⟨rfl,a,rfl,λH ys l o J=>?_⟩;have ab:E.cN d=some .str:=(by unfold Env.cN;rw[C,map_some,n]);refine⟨?_,by simp only[evalConv,he,ab,w,hu,o,J,ζb,map_some]⟩;simp only[bP,P,C,w];cases a<;>first|rfl|(simp only[dD]at o;cases o)
     simp at h
    simp at h
   simp at h
  simp at h
 |fieldAddr s x f=>simp only[resolve]at h;split at h;rename_i fs n;split at h;rename_i off t W;split at h;rename_i d C;split at h;simp at h;rename_i U;simp only[ζa,ζc]at h;obtain⟨rfl,rfl⟩:=h;obtain⟨a,w,rfl⟩:=nr j;refine⟨rfl,λv g=>?_⟩;simp only[bP,w,n,W,C,if_neg U];simp only[bn,gJ]at g;cases a<;>simp at g⊢ <;>exact g;simp at h;simp at h;simp at h|field s x f=>
  simp only[resolve]at h;split at h
  .rename_i fs n;split at h
   .rename_i off t W;split at h
    .rename_i d C;simp only[ζa,ζc]at h;obtain⟨rfl,rfl⟩:=h;obtain⟨a,w,rfl⟩:=nr j;refine⟨rfl,λv g=>?_⟩;cases a<;>simp only[bn]at g<;>first|(simp only[bP,w,n,W,C];exact g)|simp at g
    simp at h
   simp at h
  simp at h
 |indexAddr t x i=>
  simp only[resolve]at h;split at h
  .rename_i e n;simp only[ζf,ζc]at h;obtain⟨d,C,rfl,rfl⟩:=h;obtain⟨a,b,w,G,rfl⟩:=rJ j;refine⟨rfl,λv g=>?_⟩;(cases b<;>simp only[bn]at g<;>first|simp at g;done|skip);simp only[bP,w,G,n,C];unfold kU at g;exact g
  .rename_i len e n;simp only[ζf,ζc]at h;obtain⟨d,C,rfl,rfl⟩:=h;obtain⟨a,b,w,G,rfl⟩:=rJ j;refine⟨rfl,λv g=>?_⟩;(cases b<;>simp only[bn]at g<;>first|simp at g;done|skip);simp only[bP,w,G,n,C];unfold vF at g;exact g
  simp at h
 |index t x i=>
  simp only[resolve]at h;split at h
  .rename_i n;simp only[ζa,ζc]at h;obtain⟨rfl,rfl⟩:=h;obtain⟨a,b,w,G,rfl⟩:=rJ j;refine⟨rfl,λv g=>?_⟩;(cases a<;>cases b<;>simp only[bn]at g<;>first|simp at g;done|skip);simp only[bP,w,G,n];exact g
  .rename_i len e n;simp only[ζf,ζc]at h;obtain⟨d,C,rfl,rfl⟩:=h;obtain⟨a,b,w,G,rfl⟩:=rJ j;refine⟨rfl,λv g=>?_⟩;(cases a<;>cases b<;>simp only[bn]at g<;>first|simp at g;done|skip);simp only[bP,w,G,n,C];exact g
  simp at h
 |slice t x lo hi mx=>
  simp only[resolve]at h;split at h
  .rename_i n;simp only[ζa,ζc]at h;obtain⟨rfl,rfl⟩:=h;obtain⟨a,bs,w,G,rfl⟩:=iH j;refine⟨rfl,λv g=>?_⟩;(cases a<;>simp only[bn]at g<;>first|simp at g;done|skip);have⟨⟨l,h⟩,X,g⟩:=ζg.1 g;have⟨o,J⟩:=Hp G X;have R:jt F none=some none:=rfl;simp only[bP,w,n,o,J,R];exact g
  rename_i e n;simp only[ζf,ζc]at h;obtain⟨d,C,rfl,rfl⟩:=h;obtain⟨a,bs,w,G,rfl⟩:=iH j;refine⟨rfl,λv g=>?_⟩;simp only[bn]at g;have⟨⟨l,h⟩,X,g⟩:=ζg.1 g;have⟨o,J⟩:=Hp G X;have R:jt F none=some none:=rfl;simp only[bP,w,n,o,J,R,C];cases a<;>exact g
  .rename_i e m n;split at h
   .rename_i d hh C;simp only[ζa,ζc]at h;obtain⟨rfl,rfl⟩:=h;obtain⟨a,b,c,w,G,A,rfl⟩:=Gk j;refine⟨rfl,λv g=>?_⟩;(cases b<;>cases c<;>simp only[bn]at g<;>first|simp at g;done|skip);rename_i k1 n1 k2 n2;split at g;rename_i T;simp only[ζh,beq_iff_eq]at T;obtain⟨⟨o,rfl⟩,rfl⟩:=T;have m1:jt F none=some none:=rfl;have m2:jt F (some hh)=some (some 0):=(by simp[jt,G]);have m3:jt F (some m)=some (some 0):=(by simp[jt,A]);simp only[bP,w,n,m1,m2,m3,C];cases a<;>simp[Kc]at o<;>exact g;simp at g
   simp at h
  simp at h
 |build t ps=>
  simp only[resolve]at h;split at h;rename_i d C;split at h;rename_i fs n;split at h;rename_i pl ad;simp only[ζf,ζc]at h;obtain⟨q,hq,rfl,rfl⟩:=h;refine⟨rfl,λv g=>?_⟩;simp only[bn,ζf]at g;obtain⟨cs,Y,rfl⟩:=g;have⟨ws,w1,w2⟩:=Hr (λi=>pl[i]?) _ q vs _ cs hq j Y;simp only[bP,C,w1,n,ad,w2,map_some];simp at h;rename_i len e n;simp only[ζf,ζc]at h;obtain⟨M,ae,rfl,rfl⟩:=h;refine⟨rfl,λv g=>?_⟩;simp only[bn,ζf]at g;obtain⟨cs,Y,rfl⟩:=g;have⟨ws,w1,w2⟩:=Hr (λi=>some (i*M.size,M.size)) ps.toList (ps.toList.map λq=>(q.1*M.size,M.size)) vs _ cs (by
   generalize ps.toList=l
   induction l with
   |nil=>rfl|cons x l ih=>simp[List.mapM_cons,ih]) j Y
  simp only[bP,C,w1,n,ae,w2,map_some];simp at h;simp at h
 |makeFunc f a b=>cases f with|func f=>simp only[resolve,ζf,ζc]at h;obtain⟨s,P,rfl,rfl⟩:=h;obtain⟨az,bs,w,G,rfl⟩:=JD j;refine⟨rfl,λv g=>?_⟩;simp only[bn,ζa]at g;subst g;simp only[bP,w,G,hN f s P];rw[<-JB w];simp|_=>simp[resolve]at h
 |extract x i=>simp only[resolve,ζa,ζc]at h;obtain⟨rfl,rfl⟩:=h;obtain⟨a,w,rfl⟩:=nr j;refine⟨rfl,λv g=>?_⟩;(cases a<;>simp only[bn]at g<;>first|simp at g;done|skip);simp only[bP,w];exact g|load t x=>simp only[resolve,ζf,ζc]at h;obtain⟨d,C,rfl,rfl⟩:=h;obtain⟨a,w,rfl⟩:=nr j;exact⟨rfl,λH v g=>by simp only[dW,C,w];exact g⟩|lookup t m k ok=>simp only[resolve]at h;split at h;rename_i kt et n;split at h;rename_i d kk C L;simp only[ζf,ζc]at h;obtain⟨z,U,rfl,rfl⟩:=h;obtain⟨a,b,w,G,rfl⟩:=rJ j;refine⟨rfl,λH v g=>?_⟩;simp only[eP]at g;split at g;rename_i aa O;split at g;rename_i Q;simp only[dW,n,w,G,C,O,y_ L Q,if_true,U];split at g;(next W=>rw[W];exact g);(next W=>rw[W];exact g);simp at g;simp at g;simp at g;simp at h;simp at h|alloc t=>simp only[resolve,ζf,ζc]at h;obtain⟨d,C,rfl,rfl⟩:=h;have:=pq j;subst this;exact⟨rfl,λx g=>by simpa[gT,eM,C]using g⟩|box t x=>simp only[resolve,ζa,ζc]at h;obtain⟨rfl,rfl⟩:=h;obtain⟨a,w,rfl⟩:=nr j;exact⟨rfl,λx g=>by simp only[eM,w];exact g⟩|makeSlice t l c=>
  simp only[resolve]at h;split at h
  .rename_i e n;split at h
   .rename_i d C;split at h
    .rename_i S;simp only[ζa,ζc]at h;obtain⟨rfl,rfl⟩:=h;obtain⟨a,b,w,G,rfl⟩:=rJ j;refine⟨rfl,λx g=>?_⟩;(cases a<;>cases b<;>simp only[gT]at g<;>first|simp at g;done|skip);rename_i k1 n1 k2 n2;split at g;(next A=>simp only[eM,n,w,G,C];rw[if_pos ⟨A.1,A.2.1,A.2.2.1,A.2.2.2.1,A.2.2.2.2,S⟩];exact g);simp at g
    simp at h
   simp at h
  simp at h
 |buildSlice t len ps=>simp only[resolve]at h;split at h;rename_i e n;split at h;rename_i d C;split at h;rename_i S;simp only[ζa,ζc]at h;obtain⟨rfl,rfl⟩:=h;refine⟨rfl,λx g=>?_⟩;have U:=K5 _ _ j;simp only[gT]at g;split at g;simp only[eM,n,U,C,if_pos S];exact g;simp at g;simp at h;simp at h;simp at h|makeMap t r=>cases r with|none=>simp only[resolve,ζa,ζc]at h;obtain⟨rfl,rfl⟩:=h;have:=pq j;subst this;exact⟨rfl,λx g=>by simpa[gT,eM]using g⟩|some r=>simp[resolve]at h
 |store t p x=>simp only[resolve,ζf,ζc]at h;obtain⟨d,C,rfl,rfl⟩:=h;obtain⟨a,b,w,G,rfl⟩:=rJ j;refine⟨rfl,λH v g=>?_⟩;(cases a<;>simp only[eV]at g<;>first|simp at g;done|skip);simp only[c8,C,w,G];exact g|mapUpdate t m k x=>
  simp only[resolve]at h;split at h
  .rename_i kt et n;simp only[ζf,ζc]at h;obtain⟨kk,L,rfl,rfl⟩:=h;obtain⟨a,b,c,w,G,A,rfl⟩:=Gk j;refine⟨rfl,λH v g=>?_⟩;(cases a<;>simp only[eV]at g<;>first|simp at g;done|skip);simp only[c8,n,w,G,A];split at g;rename_i aa O;split at g;(next Q=>rw[O];simp only[y_ L Q,if_true];exact g);simp at g;simp at g
  simp at h
 |insert t m k x=>
  simp only[resolve]at h;split at h
  .rename_i kt et n;simp only[ζf,ζc]at h;obtain⟨kk,L,rfl,rfl⟩:=h;obtain⟨a,b,c,w,G,A,rfl⟩:=Gk j;refine⟨rfl,λH v g=>?_⟩;(cases a<;>simp only[eV]at g<;>first|simp at g;done|skip);simp only[c8,n,w,G,A];split at g;rename_i aa O;split at g;(next Q=>rw[O];simp only[y_ L Q,if_true];exact g);simp at g;simp at g
  simp at h
 |call c=>
  have⟨callee,args,aj⟩:=c
  cases callee with
  |value f=>simp only[resolve,ζa,ζc]at h;obtain⟨rfl,rfl⟩:=h;obtain⟨a,az,w,has,rfl⟩:=iH j;refine⟨rfl,a,az,rfl,?_⟩;simp only[jx,w,has];cases a<;>rfl|builtin b=>
   cases b with
   |append=>simp only[resolve]at h;split at h;rename_i t t' s x I B;split at h;rename_i e e' n Z;split at h;rename_i d C;split at h;rename_i S;simp only[ζa,ζc]at h;obtain⟨rfl,rfl⟩:=h;obtain⟨a,b,w,G,rfl⟩:=rJ j;refine⟨rfl,λH v g=>?_⟩;have D:fA F args.toList=some [a,b]:=(by rw[B];exact j);simp only[c8,I,D,n,Z,C];simp only[eV]at g;split at g;(next o J=>rw[o,J];exact g);rename_i xs ys af o J;rw[o,J];split at g;rename_i ah;simp only[if_pos (show xs.length+ys.length<=2147483648/\d.bytes<=4096/\0<d.bytes from⟨ah,S⟩)];(cases ys with|nil=>exact absurd rfl af|cons y ys=>exact g);simp at g;simp at g;simp at h;simp at h;rename_i e kk n Z;simp only[ζf,ζc]at h;obtain⟨d,C,rfl,rfl⟩:=h;obtain⟨a,b,w,G,rfl⟩:=rJ j;refine⟨rfl,λH v g=>?_⟩;have D:fA F args.toList=some [a,b]:=(by rw[B];exact j);simp only[c8,I,D,n,Z,C];exact g;simp at h;simp at h|cap=>
    simp only[resolve]at h;split at h
    .rename_i t x I B;split at h
     .rename_i e n;simp only[ζa,ζc]at h;obtain⟨rfl,rfl⟩:=h;obtain⟨a,w,rfl⟩:=nr j;have D:fA F args.toList=some [a]:=(by rw[B];exact j);refine⟨rfl,λx g=>?_⟩;simp only[bP,I,D,n];simp only[bn]at g;cases a<;>simp only[G9]at g<;>first|(simp at g;done)|exact g
     simp at h
    simp at h
   |clear=>simp only[resolve]at h;split at h;rename_i t x I B;split at h;rename_i e n;simp only[ζf,ζc]at h;obtain⟨d,C,rfl,rfl⟩:=h;obtain⟨a,w,rfl⟩:=nr j;have D:fA F args.toList=some [a]:=(by rw[B];exact j);refine⟨rfl,λH v g=>?_⟩;simp only[c8,I,D,n,C];exact g;simp at h;simp at h|len=>
    simp only[resolve]at h;split at h
    .rename_i t x I B;split at h
     .rename_i n;simp only[ζa,ζc]at h;obtain⟨rfl,rfl⟩:=h;obtain⟨a,w,rfl⟩:=nr j;have D:fA F args.toList=some [a]:=(by rw[B];exact j);refine⟨rfl,λv g=>?_⟩;(cases a<;>simp only[bn]at g<;>first|simp at g;done|skip);simp only[bP,D,I,n];exact g
     rename_i e n;simp only[ζa,ζc]at h;obtain⟨rfl,rfl⟩:=h;obtain⟨a,w,rfl⟩:=nr j;have D:fA F args.toList=some [a]:=by rw[B];exact j
     refine⟨rfl,λv g=>?_⟩;simp only[bP,D,I,n];simp only[bn,mN]at g;cases a<;>simp at g⊢ <;>exact g;simp at h
    simp at h
   |max=>
    simp only[resolve]at h;split at h
    .rename_i x y B;simp only[ζa,ζc]at h;obtain⟨rfl,rfl⟩:=h;obtain⟨a,b,w,G,rfl⟩:=rJ j;have D:fA F args.toList=some [a,b]:=(by rw[B];exact j);refine⟨rfl,λv g=>?_⟩;(cases a<;>cases b<;>simp only[bn]at g<;>first|simp at g;done|skip);simp only[bP,D];exact g
    .rename_i x y z t B;simp only[ζa,ζc]at h;obtain⟨rfl,rfl⟩:=h;obtain⟨a,ak,w,J,rfl⟩:=iH j;obtain⟨b,c,d,G,A,C,rfl⟩:=Gk J;have D:fA F args.toList=some [a,b,c,d]:=(by rw[B];exact j);refine⟨rfl,λv g=>?_⟩;(cases a<;>cases b<;>simp only[bn]at g<;>first|simp at g;done|skip);(cases c<;>cases d<;>simp only[bn]at g<;>first|simp at g;done|skip);simp only[bP,D];exact g
    simp at h
   |min=>
    simp only[resolve]at h;split at h
    .rename_i x y B;simp only[ζa,ζc]at h;obtain⟨rfl,rfl⟩:=h;obtain⟨a,b,w,G,rfl⟩:=rJ j;have D:fA F args.toList=some [a,b]:=(by rw[B];exact j);refine⟨rfl,λv g=>?_⟩;(cases a<;>cases b<;>simp only[bn]at g<;>first|simp at g;done|skip);simp only[bP,D];exact g
    simp at h
   |_=>simp[resolve]at h
  |_=>simp[resolve]at h
 |panic x=>simp only[resolve,ζa,ζc]at h;obtain⟨rfl,rfl⟩:=h;have:=pq j;subst this;exact⟨rfl,λx g=>by simp[bn]at g⟩|makeInterface t x=>simp only[resolve,ζa,ζc]at h;obtain⟨rfl,rfl⟩:=h;have:=pq j;subst this;exact⟨rfl,λx g=>by simp[bn]at g⟩|_=>simp[resolve]at h
end
structure zq(c c':dw):Prop where
 lv:c.lv<=c'.lv
 go:∀x a H r,c x a H=some r->c' x a H=some r
section
variable{E:Env}{c c':dw}{n:Nat}{ops:Zz}{F F':Zo}{H H':bp}
def Gd{f:Zk}{args:Zu}{y:V}(B:b8 c f args H=some y):∃az,borrows c.lv H args=some az:=by
 unfold b8 at B;split at B;next az h=>exact⟨az,h⟩
 cases B
def CU(D:c.lv<=c'.lv){f:Zk}(h:∀a H r,c (.fn f) a H=some r->c' (.fn f) a H=some r){args:Zu}{y:V}(B:b8 c f args H=some y):b8 c' f args H=some y:=by
 unfold b8 at B⊢;split at B;rename_i az t;rw[rI D t];split at B;rename_i b;simp only;rw[h _ _ _ b];split at B;next u=>simp only;rw[qV D u];exact B
 cases B;simp at B;simp at B
def mR(h:zq c c'){f:Zk}{args:Zu}{y:V}(B:b8 c f args H=some y):b8 c' f args H=some y:=CU h.lv (λ_ _ _=>h.go _ _ _ _) B
def lT(B:c.lv<=c'.lv){f:Zk}{args:Zu}{y:V}(D:b8 c f args H=some y):cM (cg c'.lv H) args=cM (cg c.lv H) args:=by have⟨az,h⟩:=Gd D;exact xL B h
def CS(D:c.lv<=c'.lv){f:Zk}(h:∀a H r,c (.fn f) a H=some r->c' (.fn f) a H=some r){args:Zu}{r:V×bp}(B:jW c f args H=some r):jW c' f args H=some r:=by
 unfold jW at B⊢;split at B;rename_i az t;rw[rI D t];split at B;next b=>simp only;rw[h _ _ _ b];exact B
 simp at B;simp at B
def FN(h:zq c c'){f:Zk}{args:Zu}{r:V×bp}(B:jW c f args H=some r):jW c' f args H=some r:=CS h.lv (λ_ _ _=>h.go _ _ _ _) B
def zd(h:zq c c'){f:Zk}{args:Zu}{r:V×bp}(B:eO E c f args H=some r):eO E c' f args H=some r:=by
 unfold eO at B⊢;split;next t=>rw[if_pos t]at B;exact FN h B
 rename_i t;rw[if_neg t]at B;exact h.go _ _ _ _ B
def zF(O:c.lv<=c'.lv){f:Zk}{args:Zu}{y G:V}{b:Nat}(a:b8 c f args (H.take b)=none)(B:b8 c f args H=some y)(D:b8 c' f args (H.take b)=some G):False:=by
 unfold b8 at a B D;split at D;rename_i az has;split at B;rename_i C t;have e:=mZ (λx y z I J=>HH (H2:=H.take b) c.lv c'.lv x y z I J λid u=>by
  rw[getElem?_take]at u⊢;split at u
  next w=>rw[if_pos w]
  cases u) t has
 have L:borrows c.lv H args=some az:=me (AE c.lv) e;rw[L]at t;cases t;rw[show borrows c.lv (H.take b) args=some az from e]at a;simp only at a;rw[a]at B;simp at B;simp at B;simp at D
def LS(h:zq c c'){place:a_ (Nat×Nat)}{op:Op}{r:V×bp}(B:dm E c ops place F H op=some r):dm E c' ops place F H op=some r:=by
 unfold dm at B⊢;split at B;exact B;exact B;exact B;exact B;split at B;rename_i f args z;split at B;rename_i a;rw[if_pos a];split at B;exact zd h B;skip;split at B;next w=>rw[if_pos w];exact zd h B
 simp at B;rename_i a;rw[if_neg a];split at B;skip;split at B;next y t=>rw[mR h t,lT h.lv t];exact B
 simp at B;rename_i b i;skip;split at B;next y t=>rw[mR h t,lT h.lv t];exact B
 rename_i u;split at B;rename_i w;split at B;rename_i y t;cases C:b8 c' f args (take b H)with|some D=>exact(zF h.lv u t C).elim|none=>simp only[if_pos w,mR h t,lT h.lv t];exact B
 simp at B;simp at B;rename_i id args z;split at B;exact h.go _ _ _ _ B;skip;split at B;next w=>rw[if_pos w];exact h.go _ _ _ _ B
 simp at B;simp at B
def B4(h:zq c c'){place:a_ (Nat×Nat)}{o:Oper}{r:Zo×bp}(B:fW E c n ops place o F H=some r):fW E c' n ops place o F H=some r:=by
 unfold fW at B⊢;split at B;rename_i t;rw[if_pos t];split at B;next v H1 u=>rw[LS h u];exact B
 simp at B;rename_i t;rw[if_neg t];exact B
def AR(h:zq c c'){r:Zo×bp}:∀(l:Zz){F:Zo}{H:bp},lC E c n ops l F H=some r->lC E c' n ops l F H=some r
 |[],_,_,B=>B|o::l,F,H,B=>by simp only[lC]at B⊢;split at B;(next F1 H1 D=>rw[B4 h D];exact AR h l B);simp at B
def AT(h:zq c c'){base:Nat}{r:Zo×bp}:∀(l:Zv){F:Zo}{H:bp},jy E c n ops base l F H=some r->jy E c' n ops base l F H=some r
 |[],_,_,B=>B|i::l,F,H,B=>by simp only[jy]at B⊢;split at B;split at B;(next F1 H1 D=>rw[B4 h D];exact AT h l B);simp at B;simp at B
def Dz(h:zq c c'){B:Zl}{r:Zo×bp}(D:ji E c n ops B F H=some r):ji E c' n ops B F H=some r:=by
 unfold ji at D⊢;split;rename_i t;rw[if_pos t]at D;split at D;next u=>rw[if_pos u];exact AT h _ D
 simp at D;rename_i t;rw[if_neg t]at D;exact AR h _ D
def xT{s O:Zo->bp->a_ (Out×Zo×bp)}(h:∀F H r,s F H=some r->O F H=some r):∀(k D:Nat),k<=D->∀{F H r},j9 s k F H=some r->j9 O D F H=some r
 |0,_,_,F,H,r,B=>by simp[j9]at B|k+1,0,hk,F,H,r,B=>Za|k+1,D+1,hk,F,H,r,B=>by simp only[j9]at B⊢;split at B;(next F1 H1 U=>rw[h _ _ _ U];exact xT h k D Za B);rename_i G;rw[h _ _ _ B];split;(next F1 H1 J=>cases J;exact absurd B (G _ _));rfl
def zy(h:zq c c'){lf B:Nat}(O:lf<=B)(ro:Zl)(e:Nat):∀(code:Code){F:Zo}{H:bp}{r:Out×Zo×bp},exec E c lf ro e code F H=some r->exec E c' B ro e code F H=some r:=by intro code;induction code with|skip=>intro F H r u;exact u|label l=>intro F H r u;exact u|region id ops L=>intro F H r u;simp only[exec,ζf]at u⊢;obtain⟨x,Q,rfl⟩:=u;exact⟨x,Dz h Q,rfl⟩|seq a b z C=>intro F H r u;simp only[exec]at u⊢;split at u;(next F1 H1 d=>rw[z d];exact C u);rename_i D;rw[z u];split;(next G=>cases G;exact absurd u (D _ _));rfl|cond x a b z C=>intro F H r u;simp only[exec]at u⊢;split at u;rename_i t U;split at u;(next I=>subst I;simp only[if_true];exact z u);rename_i I;rw[if_neg I];exact C u;simp at u|block id a J=>intro F H r u;simp only[exec]at u⊢;split at u;(next S F1 H1 d=>rw[J d];exact u);rename_i D;rw[J u];split;(next G=>cases G;exact absurd u (D _ _ _));rfl|loop a J=>intro F H r u;simp only[exec]at u⊢;exact xT (λF H r f=>J f) lf B O u|rangeFunc g W X Y _ _=>intro F H r u;simp only[exec]at u⊢;split at u;split at u;(next T H1 i=>rw[h.go _ _ _ _ i];exact u);simp at u;simp at u|exit id=>intro F H r u;exact u|ret=>intro F H r u;exact u|scope a _=>intro F H r u;simp[exec]at u|goto l=>intro F H r u;simp[exec]at u|refuse w=>intro F H r u;simp[exec]at u
def GB(E:Env):∀n,zq (run E n) (run E (n+1)):=by intro n;induction n with|zero=>exact⟨le_succ _,λx a H r h=>(by cases h)⟩|succ n t=>refine⟨le_succ _,λx a H r h=>?_⟩;rw[E4]at h⊢;cases x with|fn f=>rw[jm]at h⊢;split at h;rename_i T L;split at h;rename_i z;rw[if_pos z];split at h;simp at h;rename_i o F1 H1 B O;rw[zy t (le_succ n) _ _ _ O];(cases o with|exit id=>exact(B id rfl).elim|norm=>exact h|ret=>exact h);simp at h;simp at h;split at h;(next C=>rw[if_pos C];exact BL t.lv (λg args y _ Q=>mR t Q) h);rename_i C;rw[if_neg C];exact h|yld id=>rw[jm]at h⊢;split at h;rename_i b J;split at h;rename_i S;split at h;rename_i u;split at h;rename_i U H2 D;split at h;rename_i r2 G;split at h;rename_i w;split at h;(next o W X I=>simp only[if_pos u,zy t (le_succ n) _ _ _ D,G,w,zy t (le_succ n) _ _ _ I];exact h);simp at h;simp at h;simp at h;simp at h;simp at h;simp at h;simp at h
def l8(E:Env){n m:Nat}(h:n<=m):zq (run E n) (run E m):=by induction h with|refl=>exact⟨le_refl _,λ_ _ _ _ h=>h⟩|step _ t=>exact⟨le_trans t.lv (GB E _).lv,λx a H r h=>(GB E _).go x a H r (t.go x a H r h)⟩
def mV(E:Env):∀n,(run E n).lv=n
 |0=>rfl|_+1=>rfl
end
def JF(P:Program)(f:Zk):a_ FI:=(P.funcs[f]?).bind λfn=>fn.body.map λb=>⟨fn.ntmps,fn.results.toList,b⟩
def Ar(P:Program):Zl:=P.funcs.toList.all λfn=> !(fn.name== "runtime.NumGoroutine")
def Qz{P:Program}(h:Ar P=true){f:Zk}{fi:FI}(B:JF P f=some fi):∃fn,P.funcs[f]?=some fn/\fn.body=some fi.body/\fn.ntmps=fi.ntmps/\fn.results.toList=fi.results/\(fn.name== "runtime.NumGoroutine")=false:=by unfold JF at B;have⟨fn,h1,u⟩:=ζg.1 B;obtain⟨b,w,rfl⟩:=ζf.1 u;refine⟨fn,h1,w,rfl,rfl,?_⟩;unfold Ar at h;rw[List.all_eq_true]at h;have z:=h fn (by obtain⟨t,rfl⟩:=Array.getElem?_eq_some_iff.1 h1;exact Array.mem_toList_iff.2 (Array.getElem_mem t));simpa using z
def BH(P:Program)(shut keep own:Zv)(two:aZ (Nat×Nat))(B:Zk->Zl)(known:Zk->Zu->a_ V):Env where
 tt:=vj P
 ft f:=if shut.contains f then none else JF P f
 keep:=keep.contains
 own:=own.contains
 eqN t:=lk two t
 sort:=B
 known:=known
def Gn{P:Program}{shut keep own:Zv}{two:aZ (Nat×Nat)}{B:Zk->Zl}{known:Zk->Zu->a_ V}(h:Ar P=true)(D:∀p∈two,uY P p.1 p.2):eD P (BH P shut keep own two B known)where
 tt t d h:=h
 ft f w u:=by change(if shut.contains f then none else JF P f)=some w at u;split at u;cases u;exact Qz h u
 eqN t n z:=D (t,n) (LD z)
section
variable{P:Program}{I:ct}{μ:Mu}{H:bp}{w:World}{n:Nat}
variable{f A S e:Nat}{fn:Func}{bytes i1 i2 i3 i4 t1 t2 t6 t7:Nat}{p1 p2 p3 p4 p5 p6 p7:String}{e1 e2 e3 e4 e5 e6 e7:Array Edge}
end
end Go.VE
namespace Go.VE
variable[bV]
variable{P:Program}
def FF(a:Zy)(j:Nat):(ic a)[j]?=(a[j]?).map (Value.int .i64):=by simp[ic]
def DW{i:Zm}{a b:Zy}{n:Nat}(G:a.length=n)(J:b.length=n)(D:vj P i=some ⟨1,8,[.int .i64 0],.int .i64⟩)(B:P.underlying i=some (.int .i64))(d:Nat)(w:World):
 ∀(m k:Nat),k+m=n->(eqItems (d+1) i 1 (ic a) (ic b) (range' k m)).run P w=.ok (a.drop k==b.drop k) w
 |0,k,h=>by have c:a.drop k=[]:=List.drop_eq_nil_of_le Za;have I:b.drop k=[]:=List.drop_eq_nil_of_le Za;simp[eqItems,c,I]|m+1,k,h=>by have t:k<a.length:=Za;have u:k<b.length:=Za;have pa:(part i (ic a) (k*1)).run P w=.ok (.int .i64 a[k]) w:=qF D (by rw[FF,mul_one];simp[t]);have L:(part i (ic b) (k*1)).run P w=.ok (.int .i64 b[k]) w:=qF D (by rw[FF,mul_one];simp[u]);have q:(equalIn (d+1) i (.int .i64 a[k]) (.int .i64 b[k])).run P w=.ok (a[k]==b[k]) w:=AO d _ _ B;have O:=DW G J D B d w m (k+1) Za;have z:=List.drop_eq_getElem_cons t;have C:=List.drop_eq_getElem_cons u;simp only[List.range'_succ,eqItems,run_bind,pa,L,q,andThen_ok];by_cases e:a[k]=b[k];rw[z,C,List.cons_beq_cons,e];simp only[beq_self_eq_true,Bool.not_true,Bool.true_and,if_false,Bool.false_eq_true];exact O;have:(a[k]==b[k])=false:=(by simpa using e);rw[z,C,List.cons_beq_cons,this];simp only[Bool.not_false,if_true,Bool.false_and,run_pure]
def FH{i:Zm}{a:Zy}{n:Nat}(e:Zl)(J:a.length=n)(D:vj P i=some ⟨1,8,[.int .i64 0],.int .i64⟩)(B:P.underlying i=some (.int .i64))(d:Nat)(w:World):
 ∀(m k:Nat),k+m=n->(forIn (range' k m) PUnit.unit (λj(_:PUnit)=>do
  let s<-sizeOf i
  let v<-part i (ic a) (j*s)
  checkKey e (d+1) i v
  pure (ForInStep.yield PUnit.unit)):Sem PUnit).run P w=.ok PUnit.unit w
 |0,k,h=>Zc|m+1,k,h=>by have G:k<a.length:=Za;have pa:(part i (ic a) (k*1)).run P w=.ok (.int .i64 a[k]) w:=qF D (by rw[FF,mul_one];simp[G]);have u:(sizeOf i).run P w=.ok 1 w:=(oV.Jf D).jT;have q:(checkKey e (d+1) i (.int .i64 a[k])).run P w=.ok () w:=yw d e _ B;have t:=FH e J D B d w m (k+1) Za;simp only[List.range'_succ,List.forIn_cons,run_bind,u,pa,q,andThen_ok,run_pure]at t⊢;exact t
def uY.arr{t i:Zm}{n:Nat}(c:P.underlying t=some (.array n i))(O:vj P i=some ⟨1,8,[.int .i64 0],.int .i64⟩)(J:P.underlying i=some (.int .i64))(d:P.eqGuardType P.depth t=false):uY P t n:=by
 have⟨S,z,B,Q,_⟩:=(oV.Jf O).info;have C:P.cellsOf i=1:=by unfold Program.cellsOf;simp[B,Q]
 have D:∀(w:World)(a b:Zy),a.length=n->b.length=n->(equal t (.agg (ic a)) (.agg (ic b))).run P w=.ok (a==b) w:=by intro w a b G I;show(equalIn (9999+1) t _ _).run P w=_;rw[run_equalIn_array w 9999 _ _ c B,C,List.range_eq_range'];simpa using DW G I O J 9998 w n 0 Za
 have L:∀(op:BinOp)(p q:Zr)(w:World)(u v:Array Zp),(eqGuard op t p q (.agg u) (.agg v)).run P w=.ok () w:=by intro op p q w u v;unfold eqGuard;cases op<;>simp[run_bind,run_program,andThen,d]
 refine⟨?_,?_,D,?_,⟨_,c,.inl ⟨_,_,rfl⟩⟩⟩;intro w p q a b G I;rw[run_bind,L,andThen_ok];show(do pure (Value.bool (<-equal t (.agg (ic a)) (.agg (ic b)))):Sem Zp).run P w=_;rw[run_bind,D _ _ _ G I];rfl;intro w p q a b G I;rw[run_bind,L,andThen_ok];show(do pure (Value.bool (!(<-equal t (.agg (ic a)) (.agg (ic b))))):Sem Zp).run P w=_;rw[run_bind,D _ _ _ G I];rfl;intro w e a G;show(checkKey e (9999+1) t _).run P w=_;unfold checkKey;simp only[run_bind,dH c,andThen_ok];have:=FH e G O J 9998 w n 0 Za;simp only[Std.Legacy.Range.forIn_eq_forIn_range',Std.Legacy.Range.size,Nat.sub_zero,Nat.add_one_sub_one,Nat.div_one];rw[show(9998+1:Nat)=9999 from rfl]at this;rw[this];rfl
end Go.VE
namespace Go.VE
variable[bV]
structure CR(E:Env)(c c':dw):Prop where
 lv:c.lv<=c'.lv
 Mr:∀f args H y,E.keep f=false->b8 c f args H=some y->b8 c' f args H=some y
 dir:∀f args H r,E.keep f=true->c (.fn f) args H=some r->c' (.fn f) args H=some r
 yld:∀id args H r,c (.yld id) args H=some r->c' (.yld id) args H=some r
 rng:∀f args H r,H≠[]->c (.fn f) args H=some r->c' (.fn f) args H=some r
section
variable{E:Env}{c c':dw}{n:Nat}{ops:Zz}{F F':Zo}{H H':bp}
def Hz(h:CR E c c'){f:Zk}{args:Zu}{r:V×bp}(a:E.keep f=true)(B:jW c f args H=some r):jW c' f args H=some r:=CS h.lv (λ_ _ _=>h.dir _ _ _ _ a) B
def AK(h:CR E c c'){f:Zk}{args:Zu}{r:V×bp}(a:E.keep f=true)(B:eO E c f args H=some r):eO E c' f args H=some r:=by
 unfold eO at B⊢;split;next t=>rw[if_pos t]at B;exact Hz h a B
 rename_i t;rw[if_neg t]at B;exact h.dir _ _ _ _ a B
def AD{place:a_ (Nat×Nat)}{f:Zk}(h:kH E ops place f=true):E.keep f=true:=by unfold kH at h;grind
def CR.any(h:CR E c c'){f:Zk}{args:Zu}{H:bp}{y:V}(B:b8 c f args H=some y):b8 c' f args H=some y:=by cases a:E.keep f with|false=>exact h.Mr _ _ _ _ a B|true=>exact CU h.lv (λ_ _ _=>h.dir _ _ _ _ a) B
def NR(h:CR E c c'){place:a_ (Nat×Nat)}{op:Op}{r:V×bp}(B:dm E c ops place F H op=some r):dm E c' ops place F H op=some r:=by
 unfold dm at B⊢;split at B;omega;omega;omega;omega;split at B;rename_i f args z;split at B;rename_i a;rw[if_pos a];split at B;exact AK h (AD a) B;split at B;next w=>rw[if_pos w];exact AK h (AD a) B
 grind;rename_i a;rw[if_neg a];split at B;split at B;next y t=>rw[h.any t,lT h.lv t];exact B
 grind;rename_i b i;split at B;next y t=>rw[h.any t,lT h.lv t];exact B
 rename_i u;split at B;rename_i w;split at B;rename_i y t;cases C:b8 c' f args (take b H)with|some D=>exact(zF h.lv u t C).elim|none=>simp only[if_pos w,h.any t,lT h.lv t];exact B
 grind;grind;split at B;exact h.yld _ _ _ _ B;split at B;next w=>rw[if_pos w];exact h.yld _ _ _ _ B
 grind;grind
def DC(h:CR E c c'){place:a_ (Nat×Nat)}{o:Oper}{r:Zo×bp}(B:fW E c n ops place o F H=some r):fW E c' n ops place o F H=some r:=by
 unfold fW at B⊢;split at B;rename_i t;rw[if_pos t];split at B;next v H1 u=>rw[NR h u];omega
 grind;grind
def Cy(h:CR E c c'){r:Zo×bp}:∀(l:Zz){F:Zo}{H:bp},lC E c n ops l F H=some r->lC E c' n ops l F H=some r
 |[],_,_,B=>B|o::l,F,H,B=>by simp[lC]at B⊢;split at B;(next F1 H1 D=>rw[DC h D];exact Cy h l B);grind
def Cc(h:CR E c c'){base:Nat}{r:Zo×bp}:∀(l:Zv){F:Zo}{H:bp},jy E c n ops base l F H=some r->jy E c' n ops base l F H=some r
 |[],_,_,B=>B|i::l,F,H,B=>by simp[jy]at B⊢;split at B;split at B;(next F1 H1 D=>rw[DC h D];exact Cc h l B);grind;grind
def EP(h:CR E c c'){B:Zl}{r:Zo×bp}(D:ji E c n ops B F H=some r):ji E c' n ops B F H=some r:=by
 unfold ji at D⊢;split;rename_i t;rw[if_pos t]at D;split at D;next u=>rw[if_pos u];exact Cc h _ D
 grind;rename_i t;rw[if_neg t]at D;exact Cy h _ D
def A7(h:CR E c c'){lf B:Nat}(G:lf<=B)(ro:Zl)(d:Nat):∀(code:Code){F:Zo}{H:bp}{r:Out×Zo×bp},exec E c lf ro d code F H=some r->exec E c' B ro d code F H=some r:=by intro code;induction code with|skip=>intro F H r t;exact t|label l=>intro F H r t;exact t|region id ops C=>intro F H r t;simp only[exec,ζf]at t⊢;obtain⟨x,I,rfl⟩:=t;exact⟨x,EP h I,rfl⟩|seq a b u z=>intro F H r t;simp[exec]at t⊢;grind|cond x a b u z=>intro F H r t;simp[exec]at t⊢;grind|block id a D=>intro F H r t;simp[exec]at t⊢;grind|loop a D=>intro F H r t;exact xT (λF H r e=>D e) lf B G t|rangeFunc g L O Q _ _=>intro F H r t;simp[exec]at t⊢;split at t;split at t;(next J H1 f=>rw[h.rng _ _ _ _ Zc f];omega);grind;grind|exit id=>intro F H r t;exact t|ret=>intro F H r t;exact t|scope a _=>intro F H r t;simp[exec]at t|goto l=>intro F H r t;simp[exec]at t|refuse w=>intro F H r t;simp[exec]at t
def yQ(h:CR E c c'){n m:Nat}(D:n<=m){x:Callee}{a:Zu}{r:V×bp}(B:jm E c n x a H=some r):jm E c' m x a H=some r:=by cases x with|fn f=>rw[jm]at B⊢;split at B;split at B;rename_i G;split at B;simp_all;rename_i o F1 H1 I J;rw[A7 h D _ _ _ J];grind;grind;grind;split at B;(next L=>rw[if_pos L];exact BL h.lv (λg args y b O=>h.Mr _ _ _ _ b O) B);grind|yld id=>rw[jm]at B⊢;split at B;split at B;split at B;rename_i t;split at B;rename_i Q H2 w;split at B;rename_i r2 z;split at B;rename_i u;split at B;(next o S T C=>simp only[if_pos t,A7 h D _ _ _ w,z,u,A7 h D _ _ _ C];omega);grind;grind;grind;grind;grind;grind;grind
mutual
def V.same:Nat->V->V->Zl
 |0,_,_=>false|_+1,.bool a,.bool b=>a==b|_+1,.int k a,.int l b=>decide (k=l)&&decide (a=b)|_+1,.str a,.str b=>decide (a.data.toList=b.data.toList)|_+1,.bJ,.bJ=>true|_+1,.dG,.dG=>true|_+1,.gP,.gP=>true|_+1,.gb,.gb=>true|_+1,.ri,.ri=>true|n+1,.agg a,.agg b=>V.qm n a b|n+1,.tup a,.tup b=>V.qm n a b|n+1,.fptr a,.fptr b=>V.qm n a b|n+1,.fsl e a,.fsl B b=>beq e B&&V.yR n a b|n+1,.clo f a b,.clo D a' G=>beq f D&&V.qm n a a'&&V.qm n b G|_+1,_,_=>false
def V.qm:Nat->Zu->Zu->Zl
 |0,_,_=>false|_+1,[],[]=>true|n+1,a::r,b::s=>V.same n a b&&V.qm n r s|_+1,_,_=>false
def V.yR:Nat->Zt->Zt->Zl
 |0,_,_=>false|_+1,[],[]=>true|n+1,a::r,b::s=>V.qm n a b&&V.yR n r s|_+1,_,_=>false
end
def PJ:∀n,(∀a b,V.same n a b=true->a=b)/\(∀a b,V.qm n a b=true->a=b)/\(∀a b,V.yR n a b=true->a=b):=by
 intro n
 induction n with
 |zero=>exact⟨λa b h=>by simp[V.same]at h,λa b h=>by simp[V.qm]at h,λa b h=>by simp[V.yR]at h⟩|succ n t=>
  have⟨i1,i2,i3⟩:=t;refine⟨λa b h=>?_,λa b h=>?_,λa b h=>?_⟩
  .cases a<;>cases b<;>simp only[V.same,ζh,decide_eq_true_eq,Bool.false_eq_true]at h<;>first|rfl|grind|skip
   all_goals first
    |grind|grind|grind|(rw[Nat.eq_of_beq_eq_true h.1,i3 _ _ h.2])|(rw[Nat.eq_of_beq_eq_true h.1.1,i2 _ _ h.1.2,i2 _ _ h.2])|(congr 1;exact ByteArray.ext (ext' h))
  .cases a<;>cases b<;>simp[V.qm]at h<;>first|rfl|grind|grind
  cases a<;>cases b<;>simp[V.yR]at h<;>first|rfl|grind|grind
structure kT where
 f:FuncId
 az:List V
 y:V
def xA:aZ kT->Zk->Zu->a_ V
 |[],_,_=>none|k::r,f,az=>bif beq k.f f&&V.qm 1000 k.az az then some k.y else xA r f az
def A8:∀{l:aZ kT}{f:Zk}{az:Zu}{y:V},xA l f az=some y->∃k∈l,k.f=f/\k.az=az/\k.y=y
 |[],_,_,_,h=>by simp[xA]at h|k::r,f,az,y,h=>by unfold xA at h;cases B:beq k.f f&&V.qm 1000 k.az az with|true=>simp only[ζh]at B;exact⟨k,mem_cons_self ..,Nat.eq_of_beq_eq_true B.1,(PJ 1000).2.1 _ _ B.2,Zd⟩|false=>rw[B]at h;have⟨q,a,D⟩:=A8 h;grind
def EX(E:Env)(l:aZ kT)(c:dw)(n:Nat):Callee->Zu->bp->a_ (V×bp)
 |.fn f,az,[]=>match xA l f az with
  |some y=>some (y,[])|none=>jm E c n (.fn f) az []
 |x,az,H=>jm E c n x az H
def runM(E:Env)(l:aZ kT):Nat->dw
 |0=>⟨0,λ_ _ _=>none⟩|n+1=>⟨n+1,EX E l (runM E l n) n⟩
def Qh(E:Env)(l:aZ kT):∀n,(runM E l n).lv=n
 |0=>rfl|_+1=>rfl
def Lp{l:aZ kT}{n:Nat}{x:Callee}{a:Zu}{H:bp}:runM E l (n+1) x a H=EX E l (runM E l n) n x a H:=rfl
def uK(E:Env)(n:Nat)(k:kT):Prop:=∃r H1,run E n (.fn k.f) k.az []=some (r,H1)/\borrow n H1 r=some k.y
structure uG(E:Env)(k:kT):Prop where
 keep:E.keep k.f=false
 cl:k.y.closed=true
 at_:∃n,uK E n k
def uK.le{n m:Nat}{k:kT}(h:uK E n k)(B:n<=m):uK E m k:=by have⟨r,H1,a,t⟩:=h;exact⟨r,H1,(l8 E B).go _ _ _ _ a,qV B t⟩
def zl:∀{l:aZ kT},(∀k∈l,uG E k)->∃N,∀k∈l,uK E N k
 |[],_=>⟨0,Zc⟩|k::r,h=>by have⟨N,B⟩:=zl (λq a=>h q (mem_cons_of_mem _ a));have⟨n,t⟩:=(h k (mem_cons_self ..)).at_;refine⟨max N n,λq a=>?_⟩;rcases mem_cons.1 a with rfl|a;exact t.le (Nat.le_max_right ..);exact(B q a).le (Nat.le_max_left ..)
def yx{l:aZ kT}{x:Callee}{az:Zu}(h:H≠[]\/(∃id,x=.yld id)\/∃f,x=.fn f/\xA l f az=none):runM E l (n+1) x az H=jm E (runM E l n) n x az H:=by
 rcases h with h|⟨id,rfl⟩|⟨f,rfl,h⟩;cases x with|yld id=>rfl|fn f=>cases H with|nil=>exact absurd rfl h|cons a r=>rfl
 rfl;cases H with|nil=>rw[Lp,EX,h]|cons a r=>rfl
def IX{l:aZ kT}{N:Nat}(B:∀k∈l,uG E k)(D:∀k∈l,uK E N k):∀n,CR E (runM E l n) (run E (N+n)):=by intro n;induction n with|zero=>refine⟨Nat.zero_le _,λf args H y _ h=>?_,λf args H r _ h=>(by cases h),λid args H r h=>(by cases h),λf args H r _ h=>(by cases h)⟩;unfold b8 at h;split at h;cases h;cases h|succ n G=>have up:∀{x:Callee}{az:Zu}{H:bp}{r:V×bp},jm E (runM E l n) n x az H=some r->run E (N+(n+1)) x az H=some r:=λh=>(by rw[show N+(n+1)=(N+n)+1 from rfl,E4];exact yQ G (le_add_left ..) h);have u:(runM E l (n+1)).lv<=(run E (N+(n+1))).lv:=(by rw[Qh,mV];exact le_add_left ..);refine⟨u,λf args H y b h=>?_,λf args H r b h=>?_,λid args H r h=>?_,λf args H r z h=>?_⟩;unfold b8 at h⊢;split at h;rename_i az has;rw[rI u has];split at h;rename_i r H1 a;(cases w:xA l f az with|none=>rw[yx (.inr (.inr ⟨f,rfl,w⟩))]at a;simp only;rw[up a];split at h;(next L I=>simp only;rw[qV u I];exact h);cases h|some O=>rw[Lp,EX,w]at a;obtain⟨rfl,rfl⟩:=a;obtain⟨k,t,rfl,rfl,rfl⟩:=A8 w;have ok:=B k t;have⟨r1,H2,c,J⟩:=(D k t).le (Nat.le_add_right N (n+1));rw[jM _ _ ok.cl]at h;simp only[c,mV,J];exact h);cases h;cases h;by_cases w:H≠[]\/(∃id,(Callee.fn f)=.yld id)\/∃C,Callee.fn f=.fn C/\xA l C args=none;rw[yx w]at h;exact up h;(cases d:xA l f args with|none=>grind|some y=>obtain⟨k,t,rfl,_,_⟩:=A8 d;rw[(B k t).keep]at b;cases b);exact up h;rw[yx (.inl z)]at h;exact up h
def Sf(E:Env)(l:aZ kT)(n:Nat)(k:kT):a_ V:=
 match jm E (runM E l n) n (.fn k.f) k.az []with
 |some (r,H1)=>borrow n H1 r|none=>none
def MI{l:aZ kT}(B:∀k∈l,uG E k){k:kT}(h:(Sf E l n k,k.y.closed,E.keep k.f)=(some k.y,true,false)):uG E k:=by simp at h;have⟨N,t⟩:=zl B;refine⟨h.2.2,h.2.1,N+n+1,?_⟩;have a:=h.1;unfold Sf at a;split at a;rename_i r H1 u;refine⟨r,H1,?_,qV Za a⟩;exact yQ (IX B t n) (le_add_left ..) u;grind
def O7(E:Env)(l:aZ kT)(n:Nat)(f:Zk)(az:Zu):Zl:=
 match jm E (runM E l n) n (.fn f) az []with
 |some (.bool b,_)=>b|_=>false
def JJ{l:aZ kT}(B:∀k∈l,uG E k){f:Zk}{az:Zu}(h:O7 E l n f az=true):∃n H1,run E n (.fn f) az []=some (.bool true,H1):=by
 have⟨N,t⟩:=zl B;unfold O7 at h;split at h;next b H1 u=>subst h;exact⟨N+n+1,H1,(yQ (IX B t n) (le_add_left ..) u)⟩
 simp_all
end
end Go.VE
