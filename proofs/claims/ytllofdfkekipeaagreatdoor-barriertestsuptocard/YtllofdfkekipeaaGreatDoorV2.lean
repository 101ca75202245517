/-
 The engine: operations of the loaded code on values without a heap; a run of it is a run of the program.
-/
import Derived.Shelf.SlSortCmp.NoneTotal
import Derived.RangeFuncLeaves
import Derived.Laws.StructEq
import Derived.ChangeKeysEq
import Derived.Test.YtllofdfkekipeaaGreatDoorV1
set_option linter.all false
open Nat(beq le_add_left le_refl le_succ mul_one)
open List(finRange getElem?_map getElem?_take length length_eq_one_iff mem_cons mem_cons_of_mem mem_cons_self mem_map range' replicate take)
open Option(map_some)
open Go.Sem(run_bind run_pure)
open Go.Result(andThen andThen_ok)
open Go.Instr(checkKey loadAt sliceAt storeAt sureAddr)
open Go.Op(bytesLess eqItems equal equalIn)
open BitVec(ofInt)
open Go.Builtin(copy_ firstCells lenOf)
namespace Go.VE
variable[bT]
section
variable{P:Program}{E:Env}{I I':cn}{μ μ':Mu}{H H':bl}{n B:Nat}{F F':Zo}{a:Act}{w w':World}
def Az(s:cO I μ H w){id:Nat}{r:ve}(h:H[id]?=some (.loop r)):∃p l,μ id=some p/\I p.b=none/\w.heap[p.b]?=some (.loop l)/\vg I μ r l:=s.obs id _ h
def HN{p:aZ Out}(B:p≠some .norm):(p.bind kQ=none->p.getD .norm=.norm)/\(∀c,p.bind kQ=some c->(c=.ret/\p.getD .norm=.ret)\/∃id,c=.exit id/\p.getD .norm=.exit id):=by cases p with|none=>grind|some o=>cases o with|norm=>grind|ret=>exact⟨by simp[kQ],by simp[kQ]⟩|exit id=>exact⟨by simp[kQ],by simp[kQ]⟩
def Is{call:dg}(hc:kL P call){g:Zr}{ps:Array Tmp}{assign body:Code}{o:Out}{lf:Nat}
 (h:exec E call lf false n (.rangeFunc g ps assign body) F H=some (o,F',H'))(r:eE I μ n F a.tmps)(s:cO I μ H w)(m:jR B a.defers w)(hB:B<=w.heap.size):
 (Code.rangeFunc g ps assign body).wpIn (fr none) 0 P (Post B n I μ H w o F' H') a w:=by
 cases A:ev F g with
 |none=>simp[exec,A]at h|some gv=>
 cases gv with
 |clo f x y=>
  simp[exec,A]at h;split at h
  .rename_i an H2 O;split at h
   .rename_i r2 G;have Y:r2.st≠.busy/\r2.pend.getD .norm=o/\F=F'/\H2.set H.length .dead=H':=by
     grind
    obtain⟨Y,rfl,rfl,rfl⟩:=Y;have⟨u,v,eg,hu,hv⟩:=(dh r A).jQ;refine wpIn_rangeFunc λC _=>?_
    have Z:∀b,b<w.heap.size->(w.alloc (.deferred (some []))).heap[b]?=w.heap[b]?:=λb hb=>jq _ b hb
    have K:=s.kept Z;have ae:Step I μ H w I μ H (w.alloc (.deferred (some []))):=Step.kept Z Zc rfl ⟨rfl,rfl,le_refl _⟩ (λa _=>Mc (qV rfl) a)
    have af:vg I μ ⟨.ready,none,F,n,ps.toList,assign,body⟩ {state:=.ready,pending:=none,fn:=C,tmps:=a.tmps,params:=ps,assign,body,defers:=w.heap.size}:=⟨trivial,rfl,Zc,r,rfl,rfl,rfl⟩
    have⟨R,st2⟩:=K.push (ob:=.loop ⟨.ready,none,F,n,ps.toList,assign,body⟩)
     (o:=.loop {state:=.ready,pending:=none,fn:=C,tmps:=a.tmps,params:=ps,assign,body,defers:=w.heap.size}) (p:=⟨w.heap.size+1,0,0,0⟩) Zc
     ⟨_,_,Mu.fS _ _ _,by have:=K.yh;simp_all,by have:=kF (w:=w.alloc (.deferred (some []))) (.loop {state:=.ready,pending:=none,fn:=C,tmps:=a.tmps,params:=ps,assign,body,defers:=w.heap.size});simp_all,
      af.mono (cn.le_refl _) (Mu.qw (K.dom _ (le_refl _)))⟩
    have Q:=(hu.mono (cn.le_refl _) st2.mu).append (.cons (.yld H.length ⟨w.heap.size+1,0,0,0⟩ (Mu.fS _ _ _)) (hv.mono (cn.le_refl _) st2.mu))
    have⟨hf,J⟩:=hc.fn f _ _ _ _ O;refine⟨w.heap.size+1,[{target:=.collected w.heap.size,args:=#[]}],((w.alloc (.deferred (some []))).alloc (.loop {state:=.ready,pending:=none,fn:=C,tmps:=a.tmps,params:=ps,assign,body,defers:=w.heap.size})),{target:=.fn (.func f) v,args:=u++#[.func (.yield (w.heap.size+1)) #[] #[]]},((w.alloc (.deferred (some []))).alloc (.loop {state:=.ready,pending:=none,fn:=C,tmps:=a.tmps,params:=ps,assign,body,defers:=w.heap.size})),f,u++#[.func (.yield (w.heap.size+1)) #[] #[]]++v,((w.alloc (.deferred (some []))).alloc (.loop {state:=.ready,pending:=none,fn:=C,tmps:=a.tmps,params:=ps,assign,body,defers:=w.heap.size})),
     run_enterLoop_outer C a.tmps ps assign body,?_,λ_ _=>trivial,?_,λh=>by simp[fr]at h,?_⟩
    .simp[resolve];rw[eg];simp[Deferred.ofValue,Act.eval]
    .exact wV hf _
    have aa:=J _ _ _ _ R Q;have S:(u.toList++.func (.yield (w.heap.size+1)) #[] #[]::v.toList).toArray=u++#[.func (.yield (w.heap.size+1)) #[] #[]]++v:=Zd
    rw[S]at aa;refine aa.mono ?_;rintro e j ⟨am,V,M,rfl,_,N,T⟩;have⟨p,l,g1,g2,g3,g4⟩:=Az N G;have hp:p=⟨w.heap.size+1,0,0,0⟩:=by have:=T.mu _ _ (Mu.fS μ H.length ⟨w.heap.size+1,0,0,0⟩);grind
    subst hp;have L:l.state≠.busy:=by intro he;have:=g4.st;rw[he]at this;cases ah:r2.st<;>rw[ah]at this<;>simp[Bg.is]at this;grind
    refine⟨l.pending,_,run_endLoop g3 L,?_⟩;have⟨s4,ai⟩:=N.kill G;have U:¬gY M (H2.set H.length .dead) (w.heap.size+1):=by rintro⟨id,q,ob,i,t,W,h4⟩;by_cases e:id=H.length;subst e;rw[List.getElem?_set_self (ζe.1 G).1]at i;cases i;simp[Ob.live]at t;rw[List.getElem?_set_ne (Ne.symm e)]at i;exact e (N.inj id H.length ob _ q _ i G t rfl W g1 h4)
    have s5:cO V M (H2.set H.length .dead) (fK j (w.heap.size+1) (.loop {l with state:=.exhausted})):=s4.Ai _ g2 U;have st:=Step.trans K ae (Step.trans R st2 (Step.trans N T ai));have aj:Step I μ H w V M (H2.set H.length .dead) (fK j (w.heap.size+1) (.loop {l with state:=.exhausted})):=st.after _ Za
    have m2:jR B ({target:=.collected w.heap.size,args:=#[]}::a.defers) ((w.alloc (.deferred (some []))).alloc (.loop {state:=.ready,pending:=none,fn:=C,tmps:=a.tmps,params:=ps,assign,body,defers:=w.heap.size})):=by refine⟨?_,?_⟩;intro d k;rcases mem_cons.1 k with rfl|k;refine⟨w.heap.size,rfl,hB,?_⟩;rw[jq _ _ Zc];exact kF _;have⟨q,i,t,W⟩:=m.all d k;have X:=(Array.getElem?_eq_some_iff.1 W).1;refine⟨q,i,t,?_⟩;rw[jq _ _ (by simp;omega),jq _ _ X];exact W;refine List.Pairwise.cons ?_ m.apart;intro d k q X ab;have⟨q2,i,t,W⟩:=m.all d k;have:=(Array.getElem?_eq_some_iff.1 W).1;cases X;rw[i]at ab;cases ab;omega
    have m3:=m2.step R T;have m5:jR B ({target:=.collected w.heap.size,args:=#[]}::a.defers) (fK j (w.heap.size+1) (.loop {l with state:=.exhausted})):=m3.Ai (λq X e=>by subst e;rw[g3]at X;cases X)
    have ak:=st.le;have al:=st.mu;have z:∀D:Out,r2.pend.getD .norm=D->Post B n I μ H w D F (H2.set H.length .dead) D.Gq {a with defers:=[{target:=.collected w.heap.size,args:=#[]}]++a.defers} (fK j (w.heap.size+1) (.loop {l with state:=.exhausted})):=λD _=>⟨rfl,⟨V,M,r.mono ak al,s5,aj⟩,m5⟩
    obtain⟨W5,ad⟩:∃W5,j.putObj (w.heap.size+1) (.loop {l with state:=.exhausted})=W5:=⟨_,rfl⟩;have z:∀D:Out,r2.pend.getD .norm=D->Post B n I μ H w D F (H2.set H.length .dead) D.Gq {a with defers:=[{target:=.collected w.heap.size,args:=#[]}]++a.defers} W5:=by intro D ho;rw[<-ad];exact z D ho
    rw[ad];have⟨k1,k2⟩:=HN g4.pendOk;rw[g4.pend]
    cases hj:r2.pend.bind kQ with
    |none=>rw[k1 hj];exact z .norm (k1 hj)|some c=>
     rcases k2 c hj with⟨rfl,e⟩|⟨id,rfl,e⟩
     .rw[e];exact wpIn_ret (z .ret e)
     rw[e];exact wpIn_exit (z (.exit id) e)
   grind
  grind
 |_=>simp[exec,A]at h
def xX(d:eG P E)(f:P.follows .mixedOrders=true){call:dg}(hc:kL P call)(lf:Nat)(ro:aZ Nat)(U:Zl)(k:U=ro.isSome)(n:Nat):
 ∀(c:Code)(I:cn)(μ:Mu)(F:Zo)(H:bl)(a:Act)(w:World)(o:Out)(F':Zo)(H':bl),exec E call lf U n c F H=some (o,F',H')->eE I μ n F a.tmps->cO I μ H w->
  jR B a.defers w->B<=w.heap.size->c.wpIn (fr ro) 0 P (Post B n I μ H w o F' H') a w:=by
 intro c
 induction c with
 |skip=>intro I μ F H a w o F' H' h r s m _;obtain⟨rfl,rfl,rfl⟩:=h;exact wpIn_skip ⟨rfl,⟨I,μ,r,s,.refl _ _ _ _⟩,m⟩|label l=>intro I μ F H a w o F' H' h r s m _;obtain⟨rfl,rfl,rfl⟩:=h;exact wpIn_label ⟨rfl,⟨I,μ,r,s,.refl _ _ _ _⟩,m⟩|region id ops X=>
  intro I μ F H a w o F' H' h r s m _;simp only[exec,ζf]at h;obtain⟨⟨p,H2⟩,h,rfl,rfl,rfl⟩:=h;refine FM d f hc ro h r s (λa' I' μ' w' b z C Y=>⟨rfl,⟨I',μ',b,C,Y⟩,?_⟩)
  rw[z];exact m.step s Y
 |seq x y D G=>
  intro I μ F H a w o F' H' h r s m u;simp[exec]at h;refine wpIn_seq ?_;split at h
  next F1 H1 b=>refine wpIn_mono (D I μ F H a w _ F1 H1 b r s m u) ?_;rintro e a1 J ⟨rfl,⟨I1,i,r1,Z,L⟩,m1⟩;refine wpIn_mono (G I1 i F1 H1 a1 J o F' H' h r1 Z m1 (Nat.le_trans u L.size)) ?_;intro e q v j;exact Post.mono Z L j
  refine wpIn_mono (D I μ F H a w o F' H' h r s m u) ?_;rintro e a1 J ⟨rfl,z,C⟩
  cases o with
  |norm=>grind|exit id=>exact⟨rfl,z,C⟩|ret=>exact⟨rfl,z,C⟩
 |cond c x y D G=>
  intro I μ F H a w o F' H' h r s m u;simp[exec]at h;split at h
  .rename_i t S;have T:=(dh r S).q9;refine wpIn_cond T ?_
   grind
  grind
 |block id c Q=>
  intro I μ F H a w o F' H' h r s m u;simp[exec]at h;refine wpIn_block ?_;split at h
  .rename_i O F1 H1 b;refine wpIn_mono (Q I μ F H a w _ F1 H1 b r s m u) ?_;rintro e a1 J ⟨rfl,z,C⟩;show Exit.inBlock id _ (.exit O) a1 J;unfold Exit.inBlock;split at h
   next W=>obtain⟨rfl,rfl,rfl⟩:=h;simp[W];exact⟨rfl,z,C⟩
   rename_i W;obtain⟨rfl,rfl,rfl⟩:=h;simp[W];exact⟨rfl,z,C⟩
  refine wpIn_mono (Q I μ F H a w o F' H' h r s m u) ?_;rintro e a1 J ⟨rfl,z,C⟩
  cases o with
  |norm=>exact⟨rfl,z,C⟩|exit O=>grind|ret=>exact⟨rfl,z,C⟩
 |loop c Q=>intro I μ F H a w o F' H' h r s m u;exact KY (λI μ F H a w o F' H' h r s m u=>Q I μ F H a w o F' H' h r s m u) h r s m u|rangeFunc g ps assign body _ _=>
  intro I μ F H a w o F' H' h r s m u
  cases U with
  |true=>simp[exec]at h|false=>
   cases ro with
   |none=>exact Is hc h r s m u|some l=>simp_all
 |exit id=>intro I μ F H a w o F' H' h r s m _;obtain⟨rfl,rfl,rfl⟩:=h;exact wpIn_exit ⟨rfl,⟨I,μ,r,s,.refl _ _ _ _⟩,m⟩|ret=>intro I μ F H a w o F' H' h r s m _;obtain⟨rfl,rfl,rfl⟩:=h;exact wpIn_ret ⟨rfl,⟨I,μ,r,s,.refl _ _ _ _⟩,m⟩|scope body _=>intro I μ F H a w o F' H' h;simp[exec]at h|goto l=>intro I μ F H a w o F' H' h;simp[exec]at h|refuse ab=>intro I μ F H a w o F' H' h;simp[exec]at h
end
end Go.VE
namespace Go.VE
variable[bT]
def rA{f g:V->aZ V}(h:∀x y,f x=some y->g x=some y):∀{l:Zu}{r:Zu},gV f l=some r->gV g l=some r
 |[],_,hr=>hr|x::l,r,hr=>by simp only[gV]at hr⊢;split at hr;(next y s a B=>rw[h _ _ a,rA h B];exact hr);cases hr
def FP{f g:V->aZ V}(h:∀x y,f x=some y->g x=some y):∀{l:Zt}{r:Zt},lz f l=some r->lz g l=some r
 |[],_,hr=>hr|x::l,r,hr=>by simp only[lz]at hr⊢;split at hr;(next y s a B=>rw[rA h a,FP h B];exact hr);cases hr
def Gc{f g:V->aZ V}(h:∀x y,f x=some y->g x=some y):∀{l:aY (V×V)}{r:aY (V×V)},lp f l=some r->lp g l=some r
 |[],_,hr=>hr|(k,x)::l,r,hr=>by simp only[lp]at hr⊢;split at hr;(next y s u a B G=>rw[h _ _ a,h _ _ B,Gc h G];exact hr);cases hr
def Iu{H:bl}:∀(n:Nat)(x y:V),borrow n H x=some y->borrow (n+1) H x=some y:=by intro n;induction n with|zero=>intro x y h;simp only[borrow]at h;split at h;(next hc=>rw[jb _ _ hc];exact h);cases h|succ n w=>intro x y h;unfold borrow at h⊢;split;(next hc=>rw[if_pos hc]at h;exact h);rename_i hc;rw[if_neg hc]at h;cases x with|hsl id es off len=>simp only at h⊢;split at h;split at h;(next q=>rw[if_pos q];have⟨r,c,u⟩:=ζf.1 h;rw[FP w c];exact congrArg some u);cases h;cases h|hptr id el off=>simp only at h⊢;split at h;split at h;split at h;(next q=>rw[if_pos q];have⟨r,c,u⟩:=ζf.1 h;rw[rA w c];exact congrArg some u);cases h;cases h;cases h|hmap id=>simp only at h⊢;split at h;have⟨r,c,u⟩:=ζf.1 h;rw[Gc w c];exact congrArg some u;cases h|clo f a b=>simp only at h⊢;split at h;(next c u=>rw[rA w c,rA w u];exact h);cases h|agg z=>simp only at h⊢;have⟨r,c,u⟩:=ζf.1 h;rw[rA w c];exact congrArg some u|tup z=>simp only at h⊢;have⟨r,c,u⟩:=ζf.1 h;rw[rA w c];exact congrArg some u|_=>cases h
def rF{H:bl}{n m:Nat}(h:n<=m){x y:V}(B:borrow n H x=some y):borrow m H x=some y:=by induction h with|refl=>exact B|step _ u=>exact Iu _ _ _ u
def sE{H:bl}{n m:Nat}(h:n<=m){l r:Zu}(B:borrows n H l=some r):borrows m H l=some r:=rA (λ_ _=>rF h) B
def BI{f g:V->Zv}:∀{l:Zu},(∀x∈l,f x=g x)->cN f l=cN g l
 |[],_=>rfl|x::l,h=>by simp only[cN];rw[h x (mem_cons_self ..),BI λy B=>h y (mem_cons_of_mem _ B)]
def pU{f:V->aZ V}:∀{l r:Zu},gV f l=some r->∀x∈l,∃y,f x=some y
 |[],_,_,x,b=>by cases b|a::l,r,h,x,b=>by simp only[gV]at h;split at h;rename_i y s c B;rcases mem_cons.1 b with rfl|b;exact⟨y,c⟩;exact pU B x b;cases h
def EY{f:V->aZ V}:∀{l r:Zt},lz f l=some r->∀c∈l,∀x∈c,∃y,f x=some y
 |[],_,_,x,B=>by cases B|a::l,r,h,c,hc=>by simp only[lz]at h;split at h;rename_i y s b G;rcases mem_cons.1 hc with rfl|hc;exact pU b;exact EY G c hc;cases h
def zN{f:V->aZ V}:∀{l r:aY (V×V)},lp f l=some r->∀c∈l,(∃y,f c.1=some y)/\∃y,f c.2=some y
 |[],_,_,x,B=>by cases B|(k,a)::l,r,h,c,hc=>by simp only[lp]at h;split at h;rename_i y s u b G J;rcases mem_cons.1 hc with rfl|hc;exact⟨⟨y,b⟩,s,G⟩;exact zN J c hc;cases h
def J7{H:bl}:∀(n:Nat)(x y:V),borrow n H x=some y->b8 (n+1) H x=b8 n H x:=by
 intro n
 induction n with
 |zero=>intro x y h;simp only[borrow]at h;split at h;(next hc=>simp[b8,hc]);cases h|succ n J=>
  intro x y h;have u:∀l:Zu,(∀x∈l,∃y,borrow n H x=some y)->cN (b8 (n+1) H) l=cN (b8 n H) l:=λl L=>BI λx w=>by have⟨y,O⟩:=L x w;exact J x y O
  unfold borrow at h;rw[b8.eq_def (n+1+1),b8.eq_def (n+1)];simp only;split;rfl;rename_i hc;rw[if_neg hc]at h
  cases x with
  |hsl id es off len=>simp only at h⊢;cases e:(H[id]?).bind Ob.rows with|none=>rfl|some q=>have⟨C,Q⟩:=q;rw[e]at h;simp only at h⊢;split at h;have⟨r,d,z⟩:=ζf.1 h;rw[u _ λx w=>by have⟨c,hc,D⟩:=List.mem_flatten.1 w;exact EY d c hc x D];cases h
  |hptr id el off=>simp only at h⊢;cases e:(H[id]?).bind Ob.rows with|none=>rfl|some q=>have⟨C,Q⟩:=q;rw[e]at h;simp only at h⊢;split at h;rename_i I G;split at h;have⟨r,d,z⟩:=ζf.1 h;rw[u _ λx w=>pU d x (by rw[G]at w;exact w)];cases h;cases h
  |hmap id=>
   simp only at h⊢;split at h;rename_i B g;have⟨r,d,z⟩:=ζf.1 h;skip;rw[u (B.map (·.1)) λx w=>by obtain⟨c,hc,rfl⟩:=mem_map.1 w;exact(zN d c hc).1,
    u (B.map (·.2)) λx w=>by obtain⟨c,hc,rfl⟩:=mem_map.1 w;exact(zN d c hc).2]
   cases h
  |clo f a b=>simp only at h⊢;split at h;(next d z=>rw[u _ (pU d),u _ (pU z)]);cases h|agg I=>simp only at h⊢;have⟨r,d,z⟩:=ζf.1 h;exact u _ (pU d)|tup I=>simp only at h⊢;have⟨r,d,z⟩:=ζf.1 h;exact u _ (pU d)|_=>rfl
def OP{H:bl}{n m:Nat}(h:n<=m){x y:V}(B:borrow n H x=some y):b8 m H x=b8 n H x:=by induction h with|refl=>rfl|step h u=>rw[J7 _ _ _ (rF h B),u]
def yp{H:bl}{n m:Nat}(h:n<=m){l r:Zu}(B:borrows n H l=some r):cN (b8 m H) l=cN (b8 n H) l:=BI λx u=>by have⟨y,w⟩:=pU B x u;exact OP h w
def nO{f g h:V->aZ V}(k:∀x y z,f x=some y->g x=some z->h x=some z):∀{l r s:Zu},gV f l=some r->gV g l=some s->gV h l=some s
 |[],_,_,_,B=>B|x::l,r,s,hr,B=>by simp only[gV]at hr B⊢;split at hr;rename_i a G;split at B;(next J O=>rw[k _ _ _ a J,nO k G O];exact B);cases B;cases hr
def CQ{f g h:V->aZ V}(k:∀x y z,f x=some y->g x=some z->h x=some z):∀{l r s:Zt},lz f l=some r->lz g l=some s->lz h l=some s
 |[],_,_,_,B=>B|x::l,r,s,hr,B=>by simp only[lz]at hr B⊢;split at hr;rename_i a G;split at B;(next J O=>rw[nO k a J,CQ k G O];exact B);cases B;cases hr
def CZ{f g h:V->aZ V}(k:∀x y z,f x=some y->g x=some z->h x=some z):∀{l r s:aY (V×V)},lp f l=some r->lp g l=some s->lp h l=some s
 |[],_,_,_,B=>B|(a,x)::l,r,s,hr,B=>by simp only[lp]at hr B⊢;split at hr;rename_i b G J;split at B;(next O U W=>rw[k _ _ _ b O,k _ _ _ G U,CZ k J W];exact B);cases B;cases hr
def Ik{H H2:bl}:∀(n m:Nat)(x y z:V),borrow n H x=some y->borrow m H2 x=some z->(∀id:Nat,(H2[id]?).isSome=true->H2[id]?=H[id]?)->borrow n H2 x=some z:=by intro n;induction n with|zero=>intro m x y z h k _;simp only[borrow]at h;split at h;(next hc=>rw[jb _ _ hc]at k⊢;exact k);cases h|succ n G=>intro m x y z h k w;by_cases hc:x.closed=true;rw[jb _ _ hc]at k⊢;exact k;cases m with|zero=>simp only[borrow,if_neg hc]at k;cases k|succ m=>have u:∀x y z,borrow n H x=some y->borrow m H2 x=some z->borrow n H2 x=some z:=λx y z a b=>G m x y z a b w;unfold borrow at h k⊢;rw[if_neg hc]at h k⊢;have row:∀id q,(H2[id]?).bind Ob.rows=some q->(H[id]?).bind Ob.rows=some q:=λid q B=>(by rw[<-w id (by cases C:H2[id]?with|none=>rw[C]at B;cases B|some _=>rfl)];exact B);cases x with|hsl id es off len=>simp only at h k⊢;split at k;rename_i d;rw[row _ _ d]at h;simp only at h;split at k;(next q=>rw[if_pos q]at h⊢;have⟨r,c,_⟩:=ζf.1 h;have⟨s,k1,k2⟩:=ζf.1 k;rw[CQ u c k1];exact congrArg some k2);cases k;cases k|hptr id el off=>simp only at h k⊢;split at k;rename_i d;rw[row _ _ d]at h;simp only at h;split at k;rename_i D;rw[D]at h;simp only at h;split at k;(next q=>rw[if_pos q]at h⊢;have⟨r,c,_⟩:=ζf.1 h;have⟨s,k1,k2⟩:=ζf.1 k;rw[nO u c k1];exact congrArg some k2);cases k;cases k;cases k|hmap id=>simp only at h k⊢;split at k;rename_i d;rw[<-w id (by rw[d];rfl),d]at h;simp only at h;have⟨r,c,_⟩:=ζf.1 h;have⟨s,k1,k2⟩:=ζf.1 k;rw[CZ u c k1];exact congrArg some k2;cases k|clo f a b=>simp only at h k⊢;split at h;rename_i c C;split at k;(next k1 k2=>rw[nO u c k1,nO u C k2];exact k);cases k;cases h|agg I=>simp only at h k⊢;have⟨r,c,_⟩:=ζf.1 h;have⟨s,k1,k2⟩:=ζf.1 k;rw[nO u c k1];exact congrArg some k2|tup I=>simp only at h k⊢;have⟨r,c,_⟩:=ζf.1 h;have⟨s,k1,k2⟩:=ζf.1 k;rw[nO u c k1];exact congrArg some k2|_=>cases h
end Go.VE
namespace Go.VE
variable[bT]
open Go.Proofs Go.Sort
structure AF(P:Program)(f:FuncId):Prop where
 ok:xM P f
 zero:∀(p:Option Addr)(cap:Nat)(fv:Value)(w:World),Calls P f #[.slice p 0 cap,fv] w λe w'=>e=.returned (.tuple #[])/\w'=w
 all:∀{α:Type}[Inhabited α](enc:α->Value)(_:OneCell enc)(cf:α->α->Int)(_:SWO (ltOf cf))(g:Nat)(cb:Array Value)(blk off cap:Nat)(d:Array α)(w:World)
  (_:∀args w,(callFunc g args).run P w=.ok (.enter g args) w)(_:CmpLays1 P g cb enc cf blk off d.size w)(_:Holds enc w blk off d)(_:blk<w.heap.size)(_:d.size<4611686018427387904),
  Calls P f #[.slice (some ⟨blk,off,none⟩) d.size cap,.func (.func g) #[] cb] w λe w'=>e=.returned (.tuple #[])/\∃n os,w'=sortWorld enc w blk off n (pdq (ltOf cf) d 0 d.size (Lib.bitLen d.size) true true) os
def Jb{α:Type}[Inhabited α](lt:α->α->Zl):∀(k i:Nat)(d:Array α),Gi lt k i d=insOuter lt 0 (i+k) i d
 |0,i,d=>by rw[insOuter];simp[Gi]|k+1,i,d=>by rw[insOuter,Gi,Jb lt k];grind
def BX(n:Nat)(lt:Fin (n+1)->Fin (n+1)->Zl):qe n lt=pdq lt (finRange (n+1)).toArray 0 (n+1) (Lib.bitLen (n+1)) true true:=by unfold qe;split;rw[pdq,if_pos Za,insertionSort,Jb,Nat.add_comm 1 n];rfl
def p_{n:Nat}{t:Fin (n+1)->Fin (n+1)->Z6}(h:Au t=true):(∀i j,∃c,t i j=some c)/\SWO (oU t):=by have u:∀(p:Fin (n+1)->Zl),(finRange (n+1)).all p=true->∀i,p i=true:=λp h i=>List.all_eq_true.1 h i (List.mem_finRange i);have d:=λi=>u _ h i;simp only[ζh,Bool.not_eq_true']at d;have w:=λi j=>u _ (d i).2 j;simp only[ζh]at w;have z:=λi j k=>u _ (w i j).2 k;refine⟨λi j=>Option.isSome_iff_exists.1 (w i j).1,λi=>(d i).1,λi j k a b=>?_,λi j k a b=>?_⟩;have:=z i j k;grind;grind
section
variable{P:Program}{I I':cn}{μ μ':Mu}{H H':bl}{w w':World}
def Ep(w:World)(os:Array Obj)(b:Nat)(h:b<w.heap.size):(grow w os).heap[b]?=w.heap[b]?:=by unfold grow;grind
theorem Calls.fr{f:Zk}{args:Array Zp}{R:Ending->World->Prop}(h:Calls P f args w R):CallsIn (fr none) 0 P f args w R:=callsIn_wide.2 h
def CallsIn.un{f:Zk}{args:Array Zp}{R:Ending->World->Prop}(h:CallsIn (fr none) 0 P f args w R):Calls P f args w R:=callsIn_wide.1 h
def Ox{p:Pl}{c:Array Zp}{xs:Zt}(B:p.es=1)(G:c.size=p.sz)(g:p.o+xs.length<=c.size)
 (h:∀(i:Nat)x,xs[i]?=some x->∃v u,x=[v]/\V.one v=true/\c[p.o+i]?=some u/\bD I μ v u):fT I μ p c 1 xs:=by
 have d:∀x∈xs,x.length=1:=λx w=>by have⟨i,C⟩:=List.getElem?_of_mem w;grind
 have D:xs.flatten.length=xs.length:=by rw[fJ d,mul_one]
 refine⟨B,G,d,λx w y J=>?_,Za,⟨?_,λj a b f L=>?_⟩⟩
 .have⟨i,C⟩:=List.getElem?_of_mem w
  grind
 .grind
 have z:j<xs.length:=by have:=(ζe.1 f).1;omega
 have⟨v,u,e,_,O,Q⟩:=h j xs[j] (by simp[z])
 have:=vq d (i:=j) (j:=0) (x:=xs[j]) (by simp[z]) (by rw[e];rfl)
 simp_all
def vr{p:Pl}{c:Array Zp}{xs:Zt}(r:fT I μ p c 1 xs)(i:Nat){x:Zu}(h:xs[i]?=some x):∃v u,x=[v]/\V.one v=true/\c[p.o+i]?=some u/\bD I μ v u:=by
 have w:=List.mem_of_getElem? h;obtain⟨v,rfl⟩:=length_eq_one_iff.1 (r.o6 x w);have B:=(ζe.1 h).1;have z:=by have:=r.room;omega
 refine⟨v,c[p.o+i],rfl,r.one _ w v Zc,Ze,?_⟩;exact r.idx (j:=0) h rfl Ze
def RZ{α:Type}[Inhabited α](enc:α->Zp)(a o m:Nat)(B:Array α)(os:Array Obj){b:Nat}(J:b<w.heap.size)(G:b≠a):(sortWorld enc w a o m B os).heap[b]?=w.heap[b]?:=by unfold sortWorld;rw[Ep _ _ _ Ze];simp[putRow,mapBlock,Sort.ahead,Array.getElem?_modify,if_neg (Ne.symm G)]
def Ip{α:Type}[Inhabited α](enc:α->Zp){a:Nat}(o m:Nat)(B:Array α){c:Array Zp}{el:Zm}(h:w.heap[a]?=some (.cells c el)):
 putRow enc (Sort.ahead w m) a o B=fK (Sort.ahead w m) a (.cells (Sort.putCells enc o B c) el):=by
 unfold putRow mapBlock fK Sort.ahead
 congr 1
 have⟨z,e⟩:=Array.getElem?_eq_some_iff.1 h;apply Array.ext
 .simp
 intro i b C
 by_cases u:i=a
 .subst u;simp[Array.getElem_modify,e,onCells]
 grind
def Step.grown(st:Step I (λ_=>none) [] w I' μ' H' w'):∃q os,w'=grow (w.drewN q) os:=by
 refine⟨w'.drawn-w.drawn,w'.heap.extract w.heap.size w'.heap.size,?_⟩;have z:w'.heap=w.heap++w'.heap.extract w.heap.size w'.heap.size:=by apply Array.ext_getElem?;intro i;by_cases u:i<w.heap.size;rw[Array.getElem?_append_left u];exact st.frame i u (by rintro⟨id,p,ob,h,_⟩;simp at h);rw[Array.getElem?_append_right Za];simp[Array.getElem?_extract];by_cases D:i<w'.heap.size;rw[if_pos Za];congr 1;omega;rw[if_neg Za,Array.getElem?_eq_none Za]
 have a:=st.os;have B:=st.out.out;have C:=st.out.tape;have G:=st.out.dr;unfold grow World.drewN;cases w';simp only at *;subst a B C;simp[World.mk.injEq];exact⟨z,Za⟩
def JP{call B:dg}{g:Zk}{J G:Zu}{n:Nat}(h:∀args y,bW call g args []=some y->bW B g args []=some y){i j:Fin (n+1)}{z:Int}(O:iP call g J G n i j=some z):iP B g J G n i j=some z:=by unfold iP at O⊢;grind
def C2{keep:Zk->Zl}{call B:dg}(G:call.lv<=B.lv)(h:∀g args y,keep g=false->bW call g args []=some y->bW B g args []=some y){args:Zu}{r:V×bl}(b:qb keep call args H=some r):qb keep B args H=some r:=by
 unfold qb at b⊢;split at b;split at b;omega;omega;split at b;omega;split at b;rename_i n g cb _ O S I;split at b;rename_i u;split at b;rename_i J w D C;rw[sE G D,sE G C];split at b;rename_i Q;have e:iP B g J w n=iP call g J w n:=by funext i j;have⟨z,L⟩:=(p_ Q).1 i j;rw[L];exact JP (λa y=>h g a y u.2.2.2.2) L
 grind;simp_all;simp_all;simp_all;simp_all;simp_all;simp_all;simp_all
set_option maxHeartbeats 1000000 in
def Rw{call:dg}(hc:kL P call){f:Zk}(hs:AF P f){args:Zu}{r:V}{keep:Zk->Zl}(h:qb keep call args H=some (r,H'))(s:cO I μ H w){vs:aY Zp}(hv:cF I μ args vs):
 CallsIn (fr none) 0 P f vs.toArray w (w_ I μ H w r H'):=by
 unfold qb at h;split at h
 .rename_i sv cv;obtain⟨v1,r1,rfl,M,aD⟩:=hv.cons_inv;obtain⟨v2,r2,rfl,aE,aF⟩:=aD.cons_inv;obtain rfl:=aF.uZ;have U:∀p l,v1=.slice p 0 l->CallsIn (fr none) 0 P f [v1,v2].toArray w (w_ I μ H w .undef H):=by
   rintro p l rfl;refine Calls.fr ((hs.zero p l v2 w).mono ?_);rintro e w' ⟨rfl,rfl⟩;exact⟨_,I,μ,rfl,bD.undef _ _,s,Step.refl _ _ _ _⟩
  split at h
  .cases h;exact U none 0 M.lT
  .cases h;have⟨a,e⟩:=M.rU;exact U a 0 e
  .rename_i id es off len;split at h
   .cases h;rcases M.lY with⟨p,l,_,_,_,_,e⟩|⟨_,a,e⟩
    .exact U _ l e
    exact U _ 0 e
   .rename_i n g cb;split at h
    .rename_i aT Q L;split at h
     .rename_i al;obtain⟨rfl,rfl,aR,hn,_⟩:=al;split at h
      .rename_i Z D aG aq;split at h
       .rename_i ar;cases h;have⟨p,c,el,N,hI,J,S⟩:=s.obs id _ L;rcases M.lY with⟨q,l,hq,aU,aS,aH,rfl⟩|⟨h0,_⟩
        .rw[N]at hq;cases hq;obtain⟨va,F,rfl,hva,au⟩:=aE.jQ;have av:va=#[]:=by have:=hva.uZ;simpa using this
         subst av;have am:=(ζe.1 L).1;have⟨t,_⟩:=s.kill L;generalize hT:cN (b8 call.lv (H.set id .dead)) (((Q.drop off).take (n+1)).flatten++cb)=T;have aI:plus I μ (H.set id .dead) w T p.b=none:=by cases B:plus I μ (H.set id .dead) w T p.b with|none=>rfl|some x=>exfalso;rcases yf (by rw[B];rfl)with h|⟨aw,p',ob,_,g1,g2,g3,g4⟩;rw[hI]at h;cases h;have ax:aw≠id:=(by rintro rfl;rw[List.getElem?_set_self am]at g1;cases g1;simp[Ob.live]at g2);rw[List.getElem?_set_ne (Ne.symm ax)]at g1;exact ax (s.inj aw id ob (.row 1 Q) p' p g1 L g2 rfl g3 N g4)
         let enc:Fin (n+1)->Zp:=λi=>(c[p.o+off*1+i.1]?).getD undef
         have K:∀i:Fin (n+1),∃v,Q[off+i.1]?=some [v]/\V.one v=true/\bD I μ v (enc i)/\c[p.o+off*1+i.1]?=some (enc i):=λi=>by have⟨v,u,e1,e2,e3,e4⟩:=vr S (off+i.1) (x:=Q[off+i.1]' Za) Zc;have e5:c[p.o+off*1+i.1]?=some u:=(by rw[<-e3];congr 1;omega);have e6:enc i=u:=(by show(c[p.o+off*1+i.1]?).getD undef=u;rw[e5];rfl);exact⟨v,by rw[<-e1];simp,e2,by rw[e6];exact e4,by rw[e5,e6]⟩
         have h1:OneCell enc:=λi=>by have⟨v,_,e2,e3,_⟩:=K i;exact e3.one e2
         have⟨ay,ae⟩:=p_ ar;have⟨aV,aJ⟩:=iL aG;have⟨aK,aL⟩:=iL aq;have aA:∀x∈(Q.drop off).take (n+1),x.length=1:=λx B=>S.o6 x (List.mem_of_mem_drop (List.mem_of_mem_take B))
         have W:∀(i:Fin (n+1))u,Z[i.1]?=some u->eF (plus I μ (H.set id .dead) w T) u (enc i):=λi u hu=>by have⟨x,B,an⟩:=aJ i.1 u hu;have⟨v,e1,_,e3,_⟩:=K i;have e4:((Q.drop off).take (n+1))[i.1]?=some [v]:=(by rw[getElem?_take,if_pos i.2,List.getElem?_drop];exact e1);have e5:=vq (es:=1) aA (i:=i.1) (j:=0) e4 rfl;have e5:((Q.drop off).take (n+1)).flatten[i.1]?=some v:=(by simpa using e5);rw[e5]at B;cases B;refine(uh t T call.lv _ u _ an (λk A=>?_) e3).1;rw[<-hT];exact jX (List.mem_append_left _ (List.mem_of_getElem? e5)) A
         have ab:cF (plus I μ (H.set id .dead) w T) (λ_=>none) D F.toList:=by refine⟨aK.trans au.1,λj a b k1 k2=>?_⟩;have⟨x,B,an⟩:=aL j a k1;refine .c _ _ (uh t T call.lv x a b an (λk A=>?_) (au.2 j x b B k2)).1;rw[<-hT];exact jX (List.mem_append_right _ (List.mem_of_getElem? B)) A
         have af:=(Array.getElem?_eq_some_iff.1 J).1
         let d:Array (Fin (n+1)):=(finRange (n+1)).toArray
         have ao:d.size=n+1:=by simp[d]
         have hd:∀j:Fin (n+1),d[j.1]! =j:=λj=>by simp[d,getElem!_pos]
         have hg:∀i j:Fin (n+1),∃z,iP call g Z D n i j=some z/\∃a b,Z[i.1]?=some a/\Z[j.1]?=some b/\bW call g (a::b::D) []=some (.int .i64 z):=λi j=>by have⟨z,R⟩:=ay i j;have X:=R;unfold iP at X;split at X;rename_i a b E Y;split at X;(next z' C=>cases X;exact⟨z,R,a,b,E,Y,C⟩);cases X;cases X
         have aM:xM P g:=by have⟨z,_,a,b,E,Y,C⟩:=hg 0 0;have s0:cO (plus I μ (H.set id .dead) w T) (λ_=>none) [] w:=⟨λ_ _=>rfl,tv t T,Zc,Zc,t.gl.mono (oM _ _ _ _ _)⟩;exact(B4 hc C s0 (.cons (.c _ _ (W 0 a E)) (.cons (.c _ _ (W 0 b Y)) ab))).1
         have key:=hs.all enc h1 (λi j=>(iP call g Z D n i j).getD 0) ae g F p.b (p.o+off*1) l d w (λargs w=>wV aM args) (by
          intro m os G aW i j;have⟨z,R,a,b,E,Y,C⟩:=hg i j;have s0:cO (plus I μ (H.set id .dead) w T) (λ_=>none) [] (sortWorld enc w p.b (p.o+off*1) m G os):=⟨λ_ _=>rfl,λb x Y=>IC.rN (tv t T b x Y) (RZ enc p.b _ m G os (IC.uM (tv t T b x Y)) (by rintro rfl;rw[aI]at Y;cases Y)),Zc,Zc,t.gl.mono (oM _ _ _ _ _)⟩
          have:=CallsIn.un (B4 hc C s0 (vs:=enc i::enc j::F.toList) (.cons (.c _ _ (W i a E)) (.cons (.c _ _ (W j b Y)) ab))).2;rw[show(enc i::enc j::F.toList).toArray=#[enc i,enc j]++F by apply Array.ext';simp]at this
          refine this.mono ?_;rintro e w' ⟨u,I1,μ1,rfl,hu,s1,st⟩;exact⟨by rw[hu.fu];show _=Ending.returned (.int .i64 ((iP call g Z D n i j).getD 0));rw[R];rfl,st.grown⟩) (by
          intro j hj;have aB:j<n+1:=Za
          have⟨v,_,_,_,e4⟩:=K ⟨j,aB⟩;rw[hd ⟨j,aB⟩];exact⟨by rw[qm J];exact e4,by simp[World.frozen?,J]⟩) af Za
         rw[ao]at key;refine Calls.fr (key.mono ?_);rintro e w' ⟨rfl,m,os,rfl⟩;have aN:ltOf (λi j=>(iP call g Z D n i j).getD 0)=oU (iP call g Z D n):=rfl
         rw[aN,BX];have ah:=pdq_sorts (oU (iP call g Z D n)) ae d 0 d.size (Lib.bitLen d.size) true true (Nat.zero_le _) (le_refl _) (Or.inl rfl);rw[ao]at ah;have O:=ah.1.1;change w_ I μ H w .undef (H.set id (.row 1 (qN Q off n (pdq (oU (iP call g Z D n)) d 0 (n+1) (Lib.bitLen (n+1)) true true).toList))) _ _;generalize pdq (oU (iP call g Z D n)) d 0 (n+1) (Lib.bitLen (n+1)) true true=G at O;rw[ao]at O;unfold sortWorld;rw[Ip enc _ m G J];have s1:cO I μ H (Sort.ahead w m):=s.oC rfl;have aO:Step I μ H w I μ H (Sort.ahead w m):=Step.oC rfl rfl ⟨rfl,rfl,Nat.le_add_right _ _⟩;have ai:(Sort.putCells enc (p.o+off*1) G c).size=c.size:=by simp[Sort.putCells]
         have aj:∀i:Nat,(i<p.o+off*1\/p.o+off*1+(n+1)<=i)->(Sort.putCells enc (p.o+off*1) G c)[i]?=c[i]?:=λi hi=>by simp only[Sort.putCells,Array.getElem?_mapIdx];rw[O];cases c[i]?with|none=>rfl|some y=>simp only[map_some];rw[if_neg Za]
         have ap:∀i:Fin (n+1),(Sort.putCells enc (p.o+off*1) G c)[p.o+off*1+i.1]?=some (enc G[i.1]!):=λi=>by have⟨v,_,_,_,e4⟩:=K i;simp only[Sort.putCells,Array.getElem?_mapIdx,e4,map_some];rw[if_pos ⟨Za,by rw[O];omega⟩];congr 3;omega
         have aC:=S.room;have aP:(qN Q off n G.toList).length=Q.length:=by simp[qN,O];omega
         have⟨s2,st2⟩:=s1.write (o:=.cells (Sort.putCells enc (p.o+off*1) G c) el) (ob':=.row 1 (qN Q off n G.toList)) L rfl N
          ⟨p,_,el,N,hI,gG _ af,Ox S.es_eq (by rw[ai];exact S.sz) (by rw[aP,ai];omega) λi x B=>by
           unfold qN at B
           by_cases c1:i<off
           .rw[List.append_assoc,List.getElem?_append_left (by simp;omega),getElem?_take,if_pos c1]at B
            have⟨v,u,e1,e2,e3,e4⟩:=vr S i B;exact⟨v,u,e1,e2,by rw[aj _ Za];exact e3,e4⟩
           by_cases c2:i<off+(n+1)
           .rw[List.getElem?_append_left (by simp[O];omega),List.getElem?_append_right (by simp;omega)]at B
            have ak:i-off<G.size:=Za
            have e0:(Q.take off).length=off:=by simp;omega
            simp only[e0,getElem?_map,Array.getElem?_toList]at B;rw[Array.getElem?_eq_getElem ak]at B;simp only[map_some,ζa]at B;have⟨v,e1,e2,e3,e4⟩:=K G[i-off];rw[e1]at B;simp only[Option.getD_some]at B;refine⟨v,enc G[i-off],B.symm,e2,?_,e3⟩;have:=ap ⟨i-off,Za⟩
            simp only[getElem!_pos G (i-off) ak]at this;rw[<-this];congr 1;omega
           rw[List.getElem?_append_right (by simp[O];omega),List.getElem?_drop]at B
           have e0:off+(n+1)+(i-((Q.take off)++G.toList.map (λi=>(Q[off+i.1]?).getD [])).length)=i:=by simp[O];omega
           rw[e0]at B;have⟨v,u,e1,e2,e3,e4⟩:=vr S i B;exact⟨v,u,e1,e2,by rw[aj _ Za];exact e3,e4⟩⟩
         have A:∀b,b<(fK (Sort.ahead w m) p.b (.cells (Sort.putCells enc (p.o+off*1) G c) el)).heap.size->(grow (fK (Sort.ahead w m) p.b (.cells (Sort.putCells enc (p.o+off*1) G c) el)) os).heap[b]?=(fK (Sort.ahead w m) p.b (.cells (Sort.putCells enc (p.o+off*1) G c) el)).heap[b]?:=λb Y=>Ep _ _ _ Y
         have aQ:=Step.kept (I:=I) (μ:=μ) (H:=H.set id (.row 1 (qN Q off n G.toList))) A (by simp[grow]) rfl ⟨rfl,rfl,le_refl _⟩ (λa E h=>by unfold World.frozen? at h⊢;rw[A _ E];exact h)
         exact⟨_,I,μ,rfl,bD.undef _ _,s2.kept A,Step.trans s1 aO (Step.trans s2 st2 aQ)⟩
        cases h0
       cases h
      cases h
     cases h
    cases h
   cases h
  cases h
 cases h
end
def vt(P:Program)(f:Zk)(args:Zu)(y:V):Prop:=xM P f/\∀I μ H w u,cO I μ H w->cF I μ args u->CallsIn (fr none) 0 P f u.toArray w (w_ I μ H w y H)
def LS{P:Program}{call:dg}(hc:kL P call){f:Zk}{b:Zl}{H':bl}(h:call (.fn f) [] []=some (.bool b,H')):vt P f [] (.bool b):=by
 have u:∀H,bW call f [] H=some (.bool b):=by intro H;unfold bW;rw[show borrows call.lv H []=some []from rfl];simp only[h,jb _ H' (show(V.bool b).closed=true from rfl)];rfl
 refine⟨?_,λI μ H w z s a=>(B4 hc (u H) s a).2⟩;have⟨c,_⟩:=hc.fn _ _ _ _ _ h;omega
structure Uz(P:Program)(E:Env):Prop where
 sort:∀f,E.sort f=true->AF P f
 known:∀f args y,E.known f args=some y->vt P f args y
end Go.VE
namespace Go.VE
variable[bT]
section
variable{P:Program}{E:Env}{I I':cn}{μ μ':Mu}{H H':bl}{n B:Nat}{F F':Zo}{a:Act}{w w':World}
def Jj:∀(F:Zo)(t:Nat),F.length<=t->get F t=.undef
 |[],_,_=>rfl|_::_,0,h=>Ze|_::r,i+1,h=>Jj r i Zd
def Gp:∀(F:Zo)(t:Nat)(x:V),F[t]?=some x->get F t=x
 |[],_,_,h=>Ze|_::_,0,_,h=>by simpa[get]using h|_::r,i+1,x,h=>Gp r i x Zd
def Ls(b:tT I){args:Zu}{vs:aY Zp}{a:Nat}(h:cF I μ args vs)(B:args.length<=a):
 eE I μ a args (vs.toArray++Array.replicate (a-vs.toArray.size) undef):=by
 have u:=h.1;refine⟨Ze,λt=>?_,b⟩
 by_cases C:t<args.length
 .have h1:args[t]?=some args[t]:=by simp_all
  have w:t<vs.length:=Za
  have z:vs[t]?=some vs[t]:=Ze
  rw[Gp _ _ _ h1];have:(vs.toArray++Array.replicate (a-vs.toArray.size) undef).getD t undef=vs[t]:=by rw[Array.getD_eq_getD_getElem?,Array.getElem?_append_left Zd];simp_all
  rw[this];exact h.2 t _ _ h1 z
 rw[Jj _ _ Za]
 have:(vs.toArray++Array.replicate (a-vs.toArray.size) undef).getD t undef=undef:=by rw[Array.getD_eq_getD_getElem?,Array.getElem?_append_right Ze,Array.getElem?_replicate];grind
 rw[this];exact bD.undef _ _
def Oq(r:eE I μ n F a.tmps){t:Nat}{x:V}{v:Zp}(B:t<n)(h:bD I μ x v):eE I μ n (set F t x) (a.tmps.setIfInBounds t v):=by have:=eE.put (dst:=some t) r h (F':=set F t x) (by simp[jM,B]);simpa[Act.put]using this
def AU:∀(ps:Zv)(xs:Zu)(vs:aY Zp)(F:Zo)(tmps:Array Zp),eE I μ n F tmps->cF I μ xs vs->ps.all (·<n)=true->
 eE I μ n (xm ps xs F) ((ps.zip vs).foldl (λtmps(t,a)=>tmps.setIfInBounds t a) tmps)
 |[],_,_,F,tmps,r,_,_=>by simpa[xm]using r|t::ps,[],[],F,tmps,r,_,_=>by simpa[xm]using r|t::ps,[],v::vs,F,tmps,r,h,_=>by have:=h.1;grind|t::ps,x::xs,[],F,tmps,r,h,_=>by have:=h.1;grind|t::ps,x::xs,v::vs,F,tmps,r,h,u=>by simp only[List.all_cons,ζh,decide_eq_true_eq]at u;have c:=h.2 0 x v rfl rfl;have w:cF I μ xs vs:=⟨by have:=h.1;grind,λj a b d z=>h.2 (j+1) a b Zd Zd⟩;exact AU ps xs vs _ _ (Oq (a:={tmps:=tmps,defers:=[]}) r u.1 c) w u.2
def Hv{α β:Type}(g:α->Sem β):∀(l:aY α)(w:World)(B:aY β),B.length=l.length->(∀(j:Nat)x y,l[j]?=some x->B[j]?=some y->(g x).run P w=.ok y w)->(l.mapM g).run P w=.ok B w
 |[],w,[],_,_=>Zc|[],w,_::_,h,_=>Ze|_::_,w,[],h,_=>Ze|x::l,w,y::B,h,hg=>by have c:=hg 0 x y rfl rfl;have u:=Hv g l w B Zd (λj a b d z=>hg (j+1) a b Zd Zd);simp_all
def Ka(tmps:Array Zp):ResultVar->Sem Zp
 |.tmp t=>pure (tmps.getD t undef)|.cell a t=>do loadVar t (<-asAddr (tmps.getD a undef))
def JG(fn:Func)(tmps:Array Zp):results fn tmps=(fn.results.mapM (Ka tmps) >>= λvs=>pure (if h:vs.size=1 then vs[0]else .tuple vs)):=by congr 1
def Lv(W:eG P E){fn:Func}{tmps:Array Zp}(r:eE I μ n F tmps)(s:cO I μ H w){vs:Zu}(h:iq E F H fn.results.toList=some vs):
 ∃u,(results fn tmps).run P w=.ok u w/\bD I μ (result vs) u:=by
 have key:∀(l:aY ResultVar)(vs:Zu),iq E F H l=some vs->∃z:aY Zp,z.length=l.length/\cF I μ vs z/\
  ∀(j:Nat)x y,l[j]?=some x->z[j]?=some y->(Ka tmps x).run P w=.ok y w:=by
  intro l
  induction l with
  |nil=>intro vs h;simp[iq]at h;subst h;exact⟨[],rfl,.nil,Zc⟩|cons x l U=>
   intro vs h
   cases x with
   |tmp t=>
    simp only[iq,ζf]at h;obtain⟨D,h,rfl⟩:=h;have⟨z,a,C,Q⟩:=U D h;refine⟨tmps.getD t undef::z,Ze,.cons (r.2 t) C,?_⟩
    intro j x y J L
    cases j with
    |zero=>simp at J L;subst J;subst L;simp[Ka]|succ j=>grind
   |cell p t=>
    simp only[iq]at h;split at h
    .rename_i d D X S;simp only[ζf]at h;obtain⟨v,b,rfl⟩:=h;have⟨z,a,C,Q⟩:=U D S;have⟨u,_,c,Y,T,G⟩:=C7 W s X (r.2 p) b;refine⟨u::z,Ze,.cons c C,?_⟩
     intro j x y J L
     cases j with
     |zero=>
      simp only[List.getElem?_cons_zero,ζa]at J L;subst J;subst L;have e:(do loadVar t (<-asAddr (tmps.getD p undef))).run P w=(loadVar t Y).run P w:=by rw[run_bind,T];rfl
      exact e.trans G
     |succ j=>grind
    grind
 have⟨z,a,C,Q⟩:=key _ _ h;have g:=Hv _ fn.results.toList w z a Q;have Z:(fn.results.mapM (Ka tmps)).run P w=.ok z.toArray w:=by rw[Array.mapM_eq_mapM_toList];simp_all
 have O:z.length=vs.length:=C.1.symm;rw[JG,run_bind,Z]
 by_cases B:z.length=1
 .obtain⟨u,rfl⟩:=length_eq_one_iff.1 B;obtain⟨v,rfl⟩:=length_eq_one_iff.1 (O▸B);exact⟨u,Zc,by simpa[result]using C.2 0 v u rfl rfl⟩
 refine⟨.tuple z.toArray,Ze,?_⟩
 have f:result vs=.tup vs:=by match vs,O with|[],_=>rfl|[_],h=>exact absurd h B|_::_::_,_=>rfl
 rw[f];exact .tup _ _ (by simpa using C.1) (by simpa using C.2)
def MD(J:eG P E){fn:Func}{tmps:Array Zp}{vs:Zu}(h:iq E F H' fn.results.toList=some vs)(U:w.heap.size<=B):∀(ds:aY Deferred)(w':World),
 eE I' μ' n F tmps->cO I' μ' H' w'->Step I μ H w I' μ' H' w'->jR B ds w'->
 LeavesInM (fr none) 0 P fn tmps (w_ I μ H w (result vs) H') ds .returning w':=by
 intro ds
 induction ds with
 |nil=>intro w' r s st m;have⟨u,b,c⟩:=Lv J r s h;exact⟨u,b,u,I',μ',rfl,c,s,st⟩|cons d ds L=>
  intro w' r s st m;have⟨q,a,T,D⟩:=m.all d Zc
  refine⟨Zc,.inl ⟨q,_,a,run_takeDeferred D,?_⟩⟩
  have z:=ue s D;have O:=SC s D Zc Zc
  have m':jR B ds w':=⟨λd Q=>m.all d (mem_cons_of_mem _ Q),(List.pairwise_cons.1 m.apart).2⟩
  refine L (fK w' q (.deferred none)) r (s.Ai _ O z) (st.after _ Za) ⟨λG C=>?_,m'.apart⟩
  have⟨S,g1,g2,g3⟩:=m'.all G C;refine⟨S,g1,g2,?_⟩;rw[fh _ ?_];exact g3;rintro rfl;exact(List.pairwise_cons.1 m.apart).1 G C _ a g1
def Dq(o:Out):(kQ o).isNone=(o==.norm):=by cases o<;>simp[kQ]<;>rfl
def D3(U:eG P E)(j:P.follows .mixedOrders=true)(b:Uz P E):∀n,kL P (run E n):=by
 intro n;induction n with|zero=>exact⟨λ_ _ _ _ _ h=>(by cases h),λ_ _ _ _ _ h=>(by cases h)⟩|succ n C=>
  constructor;intro f args H r H' h;rw[FH]at h;simp[jD]at h;split at h;rename_i J V;have⟨fn,m,hb,ae,T,L⟩:=U.ft f J V;refine⟨⟨fn,m,Ze,L⟩,?_⟩;intro I μ w B s a;split at h;rename_i u;have t:∀o F' H2 rs,exec E (run E n) n false J.ntmps J.body args H=some (o,F',H2)->(∀id,o≠.exit id)->iq E F' H2 J.results=some rs->CallsIn (fr none) 0 P f B.toArray w (w_ I μ H w (result rs) H2):=by intro o F' H2 rs hx al hr;refine callsIn_of_wp_marks m hb trivial ?_;rw[ae];have c:=Ls s.gl a u;have:=xX U j C n none false rfl J.ntmps J.body I μ args H {tmps:=B.toArray++Array.replicate (J.ntmps-B.toArray.size) undef,defers:=[]} w o F' H2 hx c s ⟨Zc,.nil⟩ (le_refl _);refine wpIn_mono this ?_;rintro e a1 W ⟨rfl,⟨I1,y,r1,S,z⟩,m1⟩;have d:=MD U (by rw[T];omega) (le_refl _) a1.defers W r1 S z m1;cases o with|norm=>exact d|ret=>exact d|exit id=>grind
  split at h;simp_all;simp at h;grind;grind;grind;split at h;next A=>exact⟨(b.sort f A).ok,λI μ w B s a=>Rw C (b.sort f A) h s a⟩
  have⟨yy,F,h⟩:=ζf.1 h;cases h;exact⟨(b.known f args _ F).1,λI μ w B s a=>(b.known f args _ F).2 I μ H w B s a⟩;intro id args H r H' h I μ w B p s a hp;rw[FH]at h;simp only[jD]at h;split at h
  .rename_i rec X;split at h
   .split at h
    .rename_i u;split at h
     .rename_i F2 H2 af;split at h
      .rename_i r2 Y;split at h
       .rename_i Z;split at h
        .rename_i o F4 H4 ah;split at h
         .rename_i r4 aa;obtain⟨rfl,rfl⟩:=h;have⟨q,l,g1,g2,g3,g4⟩:=Az s X;rw[hp]at g1;cases g1;have ai:l.params.size=rec.params.length:=by have:=congrArg length g4.params;grind
          have aj:B.toArray.size=l.params.size:=by rw[ai,<-u.1];simpa using a.1.symm
          refine⟨p.b,l.fn,_,l.assign,l.body,run_yield g3 aj,?_⟩;refine roundIn_of_wpIn trivial ?_;have O:(l.params.zip B.toArray).foldl (λtmps x=>tmps.setIfInBounds x.1 x.2) l.tmps=(rec.params.zip B).foldl (λtmps x=>tmps.setIfInBounds x.1 x.2) l.tmps:=by rw[<-Array.foldl_toList,Array.toList_zip,g4.params]
          have c:=AU rec.params args B rec.frame l.tmps g4.frame a u.2;rw[<-O]at c;have W:=xX U j C n (some p.b) true rfl rec.nt rec.assign I μ _ H {tmps:=_,defers:=[]} w _ _ _ af c s ⟨Zc,.nil⟩ (le_refl _);rw[g4.assign,g4.body];refine wpIn_mono W ?_;rintro e a1 W ⟨rfl,⟨I1,y,r1,S,z⟩,m1⟩;have⟨q,g,k1,k2,k3,k4⟩:=Az S Y;rw[z.mu _ _ hp]at k1;cases k1;have D:g.state=.ready:=by have:=k4.st;rw[Z]at this;cases d:g.state<;>rw[d]at this<;>simp[Bg.is]at this
          refine⟨_,run_beginRound k3 D,?_⟩;have G:=z.mu _ _ hp;have⟨K,st2⟩:=S.write (ob':=.loop {r2 with st:=.busy}) Y rfl G
           ⟨p,{g with state:=.busy},G,k2,gG _ (Array.getElem?_eq_some_iff.1 k3).1,⟨trivial,k4.pend,k4.pendOk,k4.frame,k4.params,k4.assign,k4.body⟩⟩
          have m2:=m1.step S st2;have w2:=xX U j C n (some p.b) true rfl rec.nt rec.body I1 y F2 _ a1 (fK W p.b (.loop {g with state:=.busy})) o F4 H4 ah r1 K m2 (by rw[rJ];exact z.size);refine wpIn_mono w2 ?_;rintro e a3 w3 ⟨rfl,⟨I3,μ3,r3,k,Q⟩,m3⟩;have⟨q,l4,M,j2,N,i⟩:=Az k aa;rw[Q.mu _ _ G]at M;cases M;have R:=Q.mu _ _ G;have fin:∃v w',(Instr.endRound p.b (kQ o)).run P w3=.ok v w'/\w_ I μ H w (.bool (o==.norm)) (H4.set id (.loop {r4 with st:=(if o==.norm then .ready else .done),pend:=(if o==.norm then none else some o)})) (.returned v) w':=by
           refine⟨_,_,run_endRound (kQ o) N,?_⟩;have⟨s4,ak⟩:=k.write (ob':=.loop {r4 with st:=(if o==.norm then .ready else .done),pend:=(if o==.norm then none else some o)}) aa rfl R
            ⟨p,{l4 with state:=if(kQ o).isNone then .ready else .done,pending:=kQ o},R,j2,gG _ (Array.getElem?_eq_some_iff.1 N).1,⟨by cases o<;>exact trivial,by cases o<;>rfl,by cases o<;>simp,i.frame,i.params,i.assign,i.body⟩⟩
           refine⟨_,I3,μ3,rfl,?_,s4,Step.trans S z (Step.trans K st2 (Step.trans k Q ak))⟩;rw[Dq];exact .c _ _ (.bool _)
          cases o with|norm=>exact fin|ret=>exact fin|exit id=>exact fin
         grind
        grind
       grind
      grind
     grind
    grind
   grind
  grind
end
end Go.VE
namespace Go.VE
variable[bT]
variable{P:Program}
def oh.CL{t:Zm}{d:TD}(h:tn P t=some d):oh P t d:=eG.ty (E:={tt:=tn P,ft:=λ_=>none,keep:=λ_=>false,own:=λ_=>false,eqN:=λ_=>none,sort:=λ_=>false}) ⟨λ_ _ h=>h,Zc,Zc⟩ h
def qX{i:Zm}{cs:Array Zp}{o:Nat}{v:Zp}{w:World}(B:tn P i=some ⟨1,8,[.int .i64 0],.int .i64⟩)(h:cs[o]?=some v):(part i cs o).run P w=.ok v w:=by unfold part;simp[run_bind,(oh.CL B).Cg,andThen,TD.agg,h]
def tw{a:Zx}(h:a.length=2):∃x y,a=[x,y]:=by match a,h with|[x,y],_=>exact⟨x,y,rfl⟩
def Aa(d:Nat)(e:Zl){i:Zm}(x:Int){w:World}(B:P.underlying i=some (.int .i64)):(checkKey e (d+1) i (.int .i64 x)).run P w=.ok () w:=by simp only[checkKey,run_bind,dn B,andThen_ok,run_pure]
def Hu(d:Nat)(e:Zl){t i:Zm}{f g:Field}(x y:Int){w:World}(hu:P.underlying t=some (.struct #[f,g]))(J:f.type=i)(hg:g.type=i)(of:f.offset=0)(O:g.offset=1)(nf:f.name≠ "_")(U:g.name≠ "_")
 (G:tn P i=some ⟨1,8,[.int .i64 0],.int .i64⟩)(B:P.underlying i=some (.int .i64)):(checkKey e (d+1+1) t (.agg (ic [x,y]))).run P w=.ok () w:=by
 have u:∀w,(part i (ic [x,y]) 0).run P w=.ok (.int .i64 x) w:=λw=>qX G rfl
 have p1:∀w,(part i (ic [x,y]) 1).run P w=.ok (.int .i64 y) w:=λw=>qX G rfl
 have q:∀(x:Int)w,(checkKey e (d+1) i (.int .i64 x)).run P w=.ok () w:=λx w=>Aa d e x B
 unfold checkKey;simp only[run_bind,dn hu,andThen_ok];rw[<-Array.forIn_toList];simp only[List.forIn_cons,List.forIn_nil,run_bind,J,hg,of,O,nf,U,ne_eq,not_false_eq_true,if_true,u,p1,q,andThen_ok,run_pure]
def s9.two{t i:Zm}{f g:Field}(hu:P.underlying t=some (.struct #[f,g]))(W:f.type=i)(hg:g.type=i)(of:f.offset=0)(Y:g.offset=1)(nf:f.name≠ "_")(ng:g.name≠ "_")
 (U:tn P i=some ⟨1,8,[.int .i64 0],.int .i64⟩)(G:P.underlying i=some (.int .i64))(hs:P.stoodInHeld t=false)(hq:P.eqGuardType P.depth t=false):s9 P t 2:=by
 have I:P.fieldsOf t=#[f,g]:=by unfold Program.fieldsOf;rw[hu]
 have B:∀(w:World)(x y z u:Int),(equal t (.agg (ic [x,y])) (.agg (ic [z,u]))).run P w=.ok ([x,y]==[z,u]) w:=by intro w x y z u;show(equalIn (9999+1) t _ _).run P w=_;rw[run_equalIn_struct w 9999 t _ _ (by rw[I];exact hu) hs,I];have Q:∀(x y:Int)w,(part i (ic [x,y]) 0).run P w=.ok (.int .i64 x) w:=λx y w=>qX U rfl;have p1:∀(x y:Int)w,(part i (ic [x,y]) 1).run P w=.ok (.int .i64 y) w:=λx y w=>qX U rfl;have q:∀(x y:Int)w,(equalIn 9999 i (.int .i64 x) (.int .i64 y)).run P w=.ok (x==y) w:=λx y w=>AW 9998 x y G;simp only[Op.eqFields,W,hg,of,Y,nf,ng,ne_eq,not_false_eq_true,if_true,run_bind,Q,q,andThen_ok];by_cases C:x=z;by_cases J:y=u;subst C;subst J;simp[run_bind,p1,q,andThen];subst C;have:(y==u)=false:=(by simpa using J);simp[run_bind,p1,q,andThen,this];have:(x==z)=false:=(by simpa using C);simp[this]
 have L:∀(op:BinOp)(p q:Zr)(w:World)(u v:Array Zp),(eqGuard op t p q (.agg u) (.agg v)).run P w=.ok () w:=by intro op p q w u v;unfold eqGuard;cases op<;>simp[run_bind,run_program,andThen,hq]
 refine⟨?_,?_,?_,?_,⟨_,hu,.inr ⟨_,rfl⟩⟩⟩
 .intro w p q a b D O;obtain⟨x,y,rfl⟩:=tw D;obtain⟨z,u,rfl⟩:=tw O;rw[run_bind,L,andThen_ok];show(do pure (Value.bool (<-equal t (.agg (ic [x,y])) (.agg (ic [z,u])))):Sem Zp).run P w=_
  rw[run_bind,B];rfl
 .intro w p q a b D O;obtain⟨x,y,rfl⟩:=tw D;obtain⟨z,u,rfl⟩:=tw O;rw[run_bind,L,andThen_ok];show(do pure (Value.bool (!(<-equal t (.agg (ic [x,y])) (.agg (ic [z,u]))))):Sem Zp).run P w=_
  rw[run_bind,B];rfl
 .intro w a b D O;obtain⟨x,y,rfl⟩:=tw D;obtain⟨z,u,rfl⟩:=tw O;exact B w x y z u
 intro w e a D;obtain⟨x,y,rfl⟩:=tw D;exact Hu 9998 e x y hu W hg of Y nf ng U G
def lk{α:Type}:aY (Nat×α)->Nat->aZ α
 |[],_=>none|(k,v)::r,n=>bif beq k n then some v else lk r n
def Nn{α:Type}:∀{l:aY (Nat×α)}{n:Nat}{v:α},lk l n=some v->(n,v)∈l
 |[],_,_,h=>by simp[lk]at h|(k,x)::r,n,v,h=>by simp only[lk]at h;cases a:beq k n with|true=>rw[a]at h;simp only[cond_true,ζa]at h;have:=Nat.eq_of_beq_eq_true a;subst this;subst h;simp|false=>rw[a]at h;exact mem_cons_of_mem _ (Nn h)
end Go.VE
namespace Go.VE
variable[bT]
inductive KT where|bool|str|slice|ptr|map|int|other
 deriving DecidableEq
def TK.tag:TK->KT
 |.bool=>.bool|.int _=>.int|.str=>.str|.ptr _=>.ptr|.slice _=>.slice|.map ..=>.map|_=>.other
def oO(k:KT)(x y:V):aZ Zl:=
 match k,x,y with
 |.slice,.bG,.bG=>some true|.slice,.fsl ..,.bG=>some false|.slice,.hsl ..,.bG=>some false|.ptr,.gW,.gW=>some true|.ptr,.fptr _,.gW=>some false|.ptr,.hptr ..,.gW=>some false|.map,.fV,.fV=>some true|.map,.fmap _,.fV=>some false|.map,.hmap _,.fV=>some false|_,_,_=>none
def lg(k:aZ KT)(e:aZ Nat)(op:BinOp)(x y:V):aZ V:=
 match x,y with
 |.int k a,.int u b=>
  match op with
  |.shl=>if b<0 then none else some (.int k (k.wrap (a*2 ^ (min b.toNat k.bits))))|.shr=>if b<0 then none else some (.int k (a.fdiv (2 ^ (min b.toNat k.bits))))|_=>if k=u then
   match op with
   |.add=>some (.int k (k.wrap (a+b)))|.sub=>some (.int k (k.wrap (a-b)))|.mul=>some (.int k (k.wrap (a*b)))|.quo=>if b=0 then none else some (.int k (k.wrap (a.tdiv b)))|.rem=>if b=0 then none else some (.int k (a.tmod b))|.and=>some (.int k (k.wrap (ofInt k.bits a &&& ofInt k.bits b).toNat))|.or=>some (.int k (k.wrap (ofInt k.bits a ||| ofInt k.bits b).toNat))|.xor=>some (.int k (k.wrap (ofInt k.bits a ^^^ ofInt k.bits b).toNat))|.andNot=>some (.int k (k.wrap (ofInt k.bits a &&& ~~~ ofInt k.bits b).toNat))|op=>(oP op a b).map .bool
   else none
 |.str a,.str b=>
  match op with
  |.add=>if((a.size+b.size:Nat):Int)>IntKind.i64.max then none else some (.str (a++b))|.eql=>some (.bool (a.toList==b.toList))|.neq=>some (.bool !(a.toList==b.toList))|.lss=>some (.bool (bytesLess a.toList b.toList))|.leq=>some (.bool (bytesLess a.toList b.toList||a.toList==b.toList))|.gtr=>some (.bool !(bytesLess a.toList b.toList||a.toList==b.toList))|.geq=>some (.bool !(bytesLess a.toList b.toList))|_=>none
 |.bool a,.bool b=>
  match k,op with
  |some .bool,.eql=>some (.bool (a==b))|some .bool,.neq=>some (.bool !(a==b))|_,_=>none
 |.agg a,.agg b=>
  match e,op with
  |some n,.eql=>if a.length=n then(kH a b).map .bool else none|some n,.neq=>if a.length=n then(kH a b).map (λt=>.bool !t)else none|_,_=>none
 |x,y=>
  match k,op with
  |some k,.eql=>(oO k x y).map .bool|some k,.neq=>(oO k x y).map λt=>.bool !t|_,_=>none
def K0(k:TK)(x y:V):uo k x y=oO k.tag x y:=by cases k<;>cases y<;>(try rfl)<;>cases x<;>rfl
def RD(E:Env)(op:BinOp)(t:Zm)(x y:V):HH E op t x y=lg ((E.kindOf t).map TK.tag) (E.eqN t) op x y:=by
 unfold HH;split;rfl;rfl;cases b:E.kindOf t with|none=>rfl|some k=>cases k<;>cases op<;>rfl
 rfl;rename_i a u w z
 cases b:E.kindOf t with
 |none=>rw[lg.eq_29 _ _ _ _ _ a u w z Zc Zc]|some k=>
  simp only[K0];cases op<;>first
   |exact(lg.eq_27 _ _ _ _ a u w z).symm|exact(lg.eq_28 _ _ _ _ a u w z).symm|(rw[lg.eq_29 _ _ _ _ _ a u w z Zc Zc])
inductive uG where
 |id|pick|nilc
 |bin(k:Option KT)(e:Option Nat)(op:BinOp)
 |not|neg
 |conv(k:IntKind)
 |fieldAddr(off:Nat)
 |field(off size:Nat)(agg:Bool)
 |idxS(size:Nat)
 |idxA(len size:Nat)
 |idxStr
 |idxArr(len size:Nat)(agg:Bool)
 |sliceStr(lo hi:Bool)
 |slice(size:Nat)(lo hi:Bool)
 |slice00
 |build(zero:List V)(pl:List (Nat×Nat))
 |clo(name:Nat)(k:Nat)
 |ext(i:Nat)
 |lenStr|lenSl|capSl|max|min|bad|max4
 |makeC(size:Nat)(zero:List V)
 |buildC(size len:Nat)(zero:List V)(idx:List Nat)
 |emptyC
def Ke:V->aZ V
 |.hptr id el off=>some (.hptr id el off)|.fptr cs=>some (.fptr cs)|.clo f a b=>some (.clo f a b)|_=>none
def lq(off:Nat):V->aZ V
 |.fptr cs=>if off<=cs.length then some (.fptr (cs.drop off))else none|.hptr id el o=>some (.hptr id el (o+off))|_=>none
def lu(size:Nat)(s:V)(n:Int):aZ V:=
 if n<0 then none else match s with
 |.fsl es u=>if es=size then(u[n.toNat]?).map .fptr else none|.hsl id es off len=>if es=size/\n.toNat<len then some (.hptr id (off+n.toNat) 0)else none|_=>none
def wz(len size:Nat)(p:V)(n:Int):aZ V:=
 if 0<=n/\n<len then match p with
  |.fptr u=>if n.toNat*size<=u.length then some (.fptr (u.drop (n.toNat*size)))else none|.hptr id el o=>some (.hptr id el (o+n.toNat*size))|_=>none
 else none
def me:Zl->Zl->Zu->aZ (Z6×Z6)
 |false,false,[]=>some (none,none)|true,false,[.int _ l]=>some (some l,none)|false,true,[.int _ h]=>some (none,some h)|true,true,[.int _ l,.int _ h]=>some (some l,some h)|_,_,_=>none
def g_(size:Nat)(v:V)(l h:Z6):aZ V:=
 match v with
 |.fsl es u=>if es=size then(dR u.length l h).map λ(l,h)=>.fsl es ((u.take h).drop l)else none|.hsl id es off len=>if es=size then(dR len l h).map λ(l,h)=>.hsl id es (off+l) (h-l)else none|.dw=>(dR 0 l h).map λ_=>.dw|.bG=>(dR 0 l h).map λ_=>.bG|_=>none
def Kb:V->Zl
 |.fsl ..|.hsl ..|.dw|.bG=>true|_=>false
def kn(cells:Zu):aY (Nat×Nat)->Zu->aZ Zu
 |[],[]=>some cells|(off,size)::pl,v::vs=>
  if v.cells.length≠size||off+v.cells.length>cells.length then none
  else kn (cells.take off++v.cells++cells.drop (off+v.cells.length)) pl vs
 |_,_=>none
def mH:V->aZ V
 |.fsl _ xs=>some (.int .i64 xs.length)|.hsl _ _ _ len=>some (.int .i64 len)|.dw=>some (.int .i64 0)|.bG=>some (.int .i64 0)|_=>none
def FN:V->aZ V
 |.bG|.dw=>some (.int .i64 0)|_=>none
def bJ(N:Nat->Zk):uG->Zu->aZ V
 |.id,[x]=>some x
 |.pick,[.bool t,a,b]=>some (if t then a else b)
 |.nilc,[x]=>Ke x
 |.bin k e op,[x,y]=>lg k e op x y
 |.not,[.bool b]=>some (.bool !b)
 |.neg,[.int k n]=>some (.int k (k.wrap (0-n)))
 |.conv k,[.int _ n]=>some (.int k (k.wrap n))
 |.fieldAddr off,[p]=>lq off p
 |.field off size agg,[.agg cs]=>(cut cs off size).bind (mk agg)
 |.idxS size,[s,.int _ n]=>lu size s n
 |.idxA len size,[p,.int _ n]=>wz len size p n
 |.idxStr,[.str s,.int _ n]=>if 0<=n then(s[n.toNat]?).map (λb=>.int .u8 b.toNat)else none
 |.idxArr len size agg,[.agg cs,.int _ n]=>if 0<=n/\n<len then(cut cs (n.toNat*size) size).bind (mk agg)else none
 |.sliceStr G J,.str s::O=>(me G J O).bind λ(l,h)=>(dR s.size l h).map λ(l,h)=>.str (s.extract l h)
 |.slice size G J,v::O=>(me G J O).bind λ(l,h)=>g_ size v l h
 |.slice00,[v,.int _ h,.int _ m]=>if Kb v&&h==0&&m==0 then some .dw else none
 |.build zero pl,vs=>(kn zero pl vs).map .agg
 |.clo name k,vs=>some (.clo (N name) (vs.take k) (vs.drop k))
 |.ext i,[.tup vs]=>vs[i]?
 |.lenStr,[.str s]=>some (.int .i64 s.size)
 |.lenSl,[v]=>mH v
 |.capSl,[v]=>FN v
 |.max,[.int k a,.int B b]=>if k=B then some (.int k (if b>a then b else a))else none
 |.max4,[.int k a,.int k1 b,.int k2 c,.int k3 d]=>if k=k1/\k=k2/\k=k3 then some (.int k (Bo (Bo (Bo a b) c) d))else none
 |.min,[.int k a,.int B b]=>if k=B then some (.int k (if b<a then b else a))else none
 |.makeC size zero,[.int k n,.int B m]=>if k=.i64/\B=.i64/\0<=n/\n=m/\m<=2147483648/\zero.all V.scalar=true then some (.fsl size (replicate n.toNat zero))else none
 |.buildC size len zero idx,vs=>if V.cG vs=true/\idx.length=vs.length then match eS size (replicate len zero) (idx.zip vs)with
  |some xs=>if xs.isEmpty=false/\(xs.all λx=>x.all V.scalar)=true then some (.fsl size xs)else none
  |none=>none
  else none
 |.emptyC,[]=>some .dw
 |_,_=>none
inductive vE where|int (k:IntKind)|str|ints (n:Nat)
def CD(E:Env)(t:Zm):aZ vE:=
 match E.kindOf t with
 |some (.int k)=>some (.int k)|some .str=>some .str|some _=>(E.eqN t).map .ints|none=>none
def pL:vE->V->Zl
 |.int k,.int B _=>k==B|.str,.str _=>true|.ints n,.agg cs=>cs.length==n&&(hG cs).isSome|_,_=>false
inductive IL where
 |load(size:Nat)(agg:Bool)|loadF(size:Nat)(agg:Bool)|lookup(kk:vE)(zero:V)(ok:Bool)
def dS(H:bl):IL->Zu->aZ V
 |.load size agg,[p]=>(ec H p size).bind (mk agg)|.lookup kk z ok,[m,k]=>match mA H m with
  |some B=>if pL kk k then match gT k B 0 with
   |some (some (_,v))=>some (if ok then .tup [v,.bool true]else v)|some none=>some (if ok then .tup [z,.bool false]else z)|none=>none
   else none
  |none=>none
 |_,_=>none
inductive Mx where
 |alloc(size:Nat)(zero:List V)|box|makeSl(size:Nat)(zero:List V)|buildSl(size len:Nat)(zero:List V)(idx:List Nat)|makeMap
def iM:Mx->Zu->aZ (Ob×Mk)
 |.alloc size zero,[]=>some (.row size [zero],.ptr)|.box,[v]=>if v.cells.all V.one then some (.row v.cells.length [v.cells],.ptr)else none|.makeSl size zero,[.int k n,.int B m]=>if k=.i64/\B=.i64/\0<=n/\n<=m/\m<=2147483648 then some (.row size (replicate m.toNat zero),.sl size n.toNat)else none|.buildSl size len zero idx,vs=>if idx.length=vs.length then(eS size (replicate len zero) (idx.zip vs)).map λxs=>(.row size xs,.sl size len)else none|.makeMap,[]=>some (.map [],.map)|_,_=>none
inductive IJ where
 |store(size:Nat)|storeF(size:Nat)|mapUp(kk:vE)|append(size:Nat)|appMk(size bytes:Nat)(zero:List V)|clear(size:Nat)(zero:List V)
def eY(H:bl):IJ->Zu->aZ (V×bl)
 |.store size,[.hptr id el off,v]=>match H[id]?with
  |some (.row es xs)=>match xs[el]?with
   |some cs=>if v.cells.length=size/\off+size<=cs.length/\v.cells.all V.one=true then
    some (.undef,H.set id (.row es (xs.set el (cs.take off++v.cells++cs.drop (off+v.cells.length)))))else none
   |none=>none
  |_=>none
 |.mapUp kk,[.hmap id,k,v]=>match H[id]?with
  |some (.map B)=>if pL kk k then(pE k v B).map λB=>(.undef,H.set id (.map B))else none|_=>none
 |.append size,[s,x]=>match dz H size s,dz H size x with
  |some _,some []=>some (s,H)|some xs,some ys=>if xs.length+ys.length<=2147483648 then(gF H s).map λH1=>(.hsl H.length size 0 (xs.length+ys.length),H1++[.row size (xs++ys)])else none|_,_=>none
 |.appMk size bytes zero,[s,x]=>mkApp H size bytes zero s x|.clear size zero,[v]=>CE H size zero v|.storeF size,.hptr id el off::v::l=>if l.all (nK id)=true then match H[id]?with
  |some (.row es xs)=>match xs[el]?with
   |some cs=>if v.cells.length=size/\off+size<=cs.length/\v.cells.all V.one=true then
    some (.undef,H.set id (.row es (xs.set el (cs.take off++v.cells++cs.drop (off+v.cells.length)))))else none
   |none=>none
  |_=>none
  else none
 |_,_=>none
inductive K where
 |p(p:uG)|r(r:IL)|a(a:Mx)|l(l:IJ)|c|e(size:Nat)|b
def Vs(E:Env)(t:Zm):aZ KT:=(E.kindOf t).map TK.tag
def resolve(E:Env)(nm:Zk->aZ Nat):Op->aZ (K×aY Zr)
 |.move x|.assign x=>some (.p .id,[x])
 |.pick c a b=>some (.p .pick,[c,a,b])
 |.nilCheck x=>some (.p .nilc,[x])
 |.binOp op t x y _=>some (.p (.bin (Vs E t) (E.eqN t) op),[x,y])
 |.unOp .not _ x=>some (.p .not,[x])
 |.unOp .neg _ x=>some (.p .neg,[x])
 |.convert s d x=>match E.tt s,E.tt d with
  |some _,some U=>match U.kind with
   |.int k=>some (.p (.conv k),[x])
   |.str=>match E.kindOf s with
    |some (.slice e)=>match E.kindOf e with
     |some (.int .u8)=>some (.b,[x])
     |_=>none
    |_=>none
   |_=>none
  |_,_=>none
 |.fieldAddr s x f=>match E.kindOf s with
  |some (.struct fs)=>match fs[f]?with
   |some (off,t)=>match E.tt t with
    |some d=>if d.size=0 then none else some (.p (.fieldAddr off),[x])
    |none=>none
   |none=>none
  |_=>none
 |.field s x f=>match E.kindOf s with
  |some (.struct fs)=>match fs[f]?with
   |some (off,t)=>match E.tt t with
    |some d=>some (.p (.field off d.size d.agg),[x])
    |none=>none
   |none=>none
  |_=>none
 |.indexAddr t x i=>match E.kindOf t with
  |some (.slice e)=>(E.tt e).map λd=>(.p (.idxS d.size),[x,i])
  |some (.array len e)=>(E.tt e).map λd=>(.p (.idxA len d.size),[x,i])
  |_=>none
 |.index t x i=>match E.kindOf t with
  |some .str=>some (.p .idxStr,[x,i])
  |some (.array len e)=>(E.tt e).map λd=>(.p (.idxArr len d.size d.agg),[x,i])
  |_=>none
 |.slice t x B G W=>match E.kindOf t,W with
  |some .str,none=>some (.p (.sliceStr B.isSome G.isSome),x::(B.toList++G.toList))
  |some (.slice e),none=>(E.tt e).map λd=>(.p (.slice d.size B.isSome G.isSome),x::(B.toList++G.toList))
  |some (.slice e),some m=>match E.tt e,B,G with
   |some _,none,some h=>some (.p .slice00,[x,h,m])
   |_,_,_=>none
  |_,_=>none
 |.build t ps=>match E.tt t with
  |some d=>match d.kind with
   |.struct fs=>match mZ E fs with
    |some pl=>(ps.toList.mapM λ(q:Nat×Zr)=>pl[q.1]?).map λq=>(K.p (.build d.zero q),ps.toList.map λ(q:Nat×Zr)=>q.2)
    |none=>none
   |.array _ e=>(E.tt e).map λO=>(K.p (.build d.zero (ps.toList.map λ(q:Nat×Zr)=>(q.1*O.size,O.size))),ps.toList.map λ(q:Nat×Zr)=>q.2)
   |_=>none
  |none=>none
 |.makeFunc (.func f) a b=>(nm f).map λs=>(.p (.clo s a.toList.length),a.toList++b.toList)
 |.extract x i=>some (.p (.ext i),[x])
 |.load t a=>(E.tt t).map λd=>(.r (.load d.size d.agg),[a])
 |.lookup t m k ok=>match E.kindOf t with
  |some (.map J Y)=>match E.tt Y,CD E J with
   |some d,some kk=>(mk d.agg d.zero).map λz=>(.r (.lookup kk z ok),[m,k])
   |_,_=>none
  |_=>none
 |.alloc t=>(E.tt t).map λd=>(.a (.alloc d.size d.zero),[])
 |.box _ x=>some (.a .box,[x])
 |.makeSlice t l c=>match E.kindOf t with
  |some (.slice e)=>match E.tt e with
   |some d=>if d.bytes<=4096 then some (.a (.makeSl d.size d.zero),[l,c])else none
   |none=>none
  |_=>none
 |.buildSlice t len ps=>match E.kindOf t with
  |some (.slice e)=>match E.tt e with
   |some d=>if len*d.size<=16777216 then some (.a (.buildSl d.size len d.zero (ps.toList.map (·.1))),ps.toList.map (·.2))else none
   |none=>none
  |_=>none
 |.makeMap _ none=>some (.a .makeMap,[])
 |.store t a x=>(E.tt t).map λd=>(.l (.store d.size),[a,x])
 |.mapUpdate t m k x|.insert t m k x=>match E.kindOf t with
  |some (.map J _)=>(CD E J).map λkk=>(.l (.mapUp kk),[m,k,x])
  |_=>none
 |.call {callee:=.builtin .append,args,argTypes}=>match argTypes.toList,args.toList with
  |[t,t'],[s,x]=>match E.kindOf t,E.kindOf t' with
   |some (.slice e),some (.slice _)=>match E.tt e with
    |some d=>if d.bytes<=4096/\0<d.bytes then some (.l (.append d.size),[s,x])else none
    |none=>none
   |some (.slice e),some (.int _)=>(E.tt e).map λd=>(.l (.appMk d.size d.bytes d.zero),[s,x])
   |_,_=>none
  |_,_=>none
 |.call {callee:=.builtin .len,args,argTypes}=>match argTypes[0]?,args.toList with
  |some t,[x]=>match E.kindOf t with
   |some .str=>some (.p .lenStr,[x])
   |some (.slice _)=>some (.p .lenSl,[x])
   |_=>none
  |_,_=>none
 |.call {callee:=.builtin .cap,args,argTypes}=>match argTypes[0]?,args.toList with
  |some t,[x]=>match E.kindOf t with
   |some (.slice _)=>some (.p .capSl,[x])
   |_=>none
  |_,_=>none
 |.call {callee:=.builtin .clear,args,argTypes}=>match argTypes[0]?,args.toList with
  |some t,[x]=>match E.kindOf t with
   |some (.slice e)=>(E.tt e).map λd=>(.l (.clear d.size d.zero),[x])
   |_=>none
  |_,_=>none
 |.panic _=>some (.p .bad,[])
 |.makeInterface ..=>some (.p .bad,[])
 |.call {callee:=.builtin .max,args,..}=>match args.toList with
  |[x,y]=>some (.p .max,[x,y])
  |[x,y,z,t]=>some (.p .max4,[x,y,z,t])
  |_=>none
 |.call {callee:=.builtin .min,args,..}=>match args.toList with
  |[x,y]=>some (.p .min,[x,y])
  |_=>none
 |.call {callee:=.value f,args,..}=>some (.c,f::args.toList)
 |_=>none
section
variable{E:Env}{nm:Zk->aZ Nat}{N:Nat->Zk}{F:Zo}
def nY{x:Zr}{vs:Zu}(h:fH F [x]=some vs):∃a,ev F x=some a/\vs=[a]:=by simp[fH]at h;grind
def iG{x:Zr}{l:aY Zr}{vs:Zu}(h:fH F (x::l)=some vs):∃a az,ev F x=some a/\fH F l=some az/\vs=a::az:=by simp[fH]at h;grind
def pX{vs:Zu}(h:fH F []=some vs):vs=[]:=by simp[fH]at h;grind
def sN{x y:Zr}{vs:Zu}(h:fH F [x,y]=some vs):∃a b,ev F x=some a/\ev F y=some b/\vs=[a,b]:=by obtain⟨a,az,w,u,rfl⟩:=iG h;obtain⟨b,z,rfl⟩:=nY u;grind
def GM{x y z:Zr}{vs:Zu}(h:fH F [x,y,z]=some vs):∃a b c,ev F x=some a/\ev F y=some b/\ev F z=some c/\vs=[a,b,c]:=by obtain⟨a,az,w,u,rfl⟩:=iG h;obtain⟨b,c,B,hc,rfl⟩:=sN u;grind
def JZ{l m:aY Zr}{vs:Zu}(h:fH F (l++m)=some vs):∃az B,fH F l=some az/\fH F m=some B/\vs=az++B:=by induction l generalizing vs with|nil=>exact⟨[],vs,rfl,h,rfl⟩|cons x l u=>obtain⟨a,az,w,z,rfl⟩:=iG h;obtain⟨b,c,C,hc,rfl⟩:=u z;refine⟨a::b,c,?_,hc,rfl⟩;simp[fH,w,C]
def KH{l:aY Zr}{vs:Zu}(h:fH F l=some vs):vs.length=l.length:=by induction l generalizing vs with|nil=>rw[pX h];rfl|cons x l u=>obtain⟨a,az,_,w,rfl⟩:=iG h;grind
def AI(E:Env)(N:Nat->Zk)(F:Zo)(op:Op)(vs:Zu):K->Prop
 |.p p=>cE op=.pure/\∀v,bJ N p vs=some v->bK E F op=some v|.r r=>cE op=.read/\∀H v,dS H r vs=some v->dQ E F H op=some v|.a a=>cE op=.alloc/\∀x,iM a vs=some x->eP E F op=some x|.l l=>cE op=.loud/\∀H x,eY H l vs=some x->cw E F H op=some x|.e _=>False|.b=>cE op=.pure/\∃x,vs=[x]/\∀H ys l,dz H 1 x=some ys->kY ys=some l->bK E F op=none/\evalConv E F H op=some (.str (lF l))|.c=>cE op=.call/\∃f az,vs=f::az/\jK F op=(match f with|.clo g a b=>some (.fn g,a++az++b)|.yld id=>some (.yld id,az)|_=>none)
def Ga(place:Nat->aZ (Nat×Nat)):∀(ps:aY (Nat×Zr))(q:aY (Nat×Nat))(vs:Zu)(cells cs:Zu),(ps.mapM λ(x:Nat×Zr)=>place x.1)=some q->
 fH F (ps.map λ(x:Nat×Zr)=>x.2)=some vs->kn cells q vs=some cs->∃B,l_ F ps=some B/\tO place cells B=some cs:=by
 intro ps
 induction ps with
 |nil=>
  intro q vs cells cs u b h;simp at u;subst u;have:=pX (by simpa using b);subst this
  simp[kn]at h;subst h;exact⟨[],rfl,rfl⟩
 |cons p ps D=>
  intro q vs cells cs u b h;have⟨i,x⟩:=p;simp only[List.mapM_cons,Option.pure_def,Option.bind_eq_bind,ζg,ζa]at u;obtain⟨pl,w,G,z,rfl⟩:=u;obtain⟨a,az,I,C,rfl⟩:=iG (by simpa using b)
  simp only[kn]at h;split at h
  .simp_all
  have⟨B,c,J⟩:=D G az _ cs z C h;refine⟨(i,a)::B,by simp[l_,I,c],?_⟩
  simp[tO,w]
  grind
def MP:∀(ps:aY (Nat×Zr))(vs:Zu),fH F (ps.map λ(x:Nat×Zr)=>x.2)=some vs->l_ F ps=some ((ps.map λ(x:Nat×Zr)=>x.1).zip vs):=by intro ps;induction ps with|nil=>simp[l_]|cons p ps w=>intro vs b;obtain⟨a,az,z,u,rfl⟩:=iG (by simpa using b);simp[l_,z,w az u]
def GF{J G:aZ Zr}{vs:Zu}{l h:Z6}(c:fH F (J.toList++G.toList)=some vs)(B:me J.isSome G.isSome vs=some (l,h)):jP F J=some l/\jP F G=some h:=by
 cases J with
 |none=>cases G with|none=>have:=pX (by simpa using c);subst this;obtain⟨rfl,rfl⟩:=B;exact⟨rfl,rfl⟩|some y=>obtain⟨b,u,rfl⟩:=nY (by simpa using c);cases b<;>simp[me]at B;obtain⟨rfl,rfl⟩:=B;simp[jP,u]
 |some x=>cases G with|none=>obtain⟨b,u,rfl⟩:=nY (by simpa using c);cases b<;>simp[me]at B;obtain⟨rfl,rfl⟩:=B;simp[jP,u]|some y=>obtain⟨a,b,w,u,rfl⟩:=sN (by simpa using c);cases a<;>cases b<;>simp[me]at B;obtain⟨rfl,rfl⟩:=B;simp[jP,w,u]
def zj{t:Zm}{kk:vE}{k:V}(h:CD E t=some kk)(a:pL kk k=true):wh E t k=true:=by unfold CD at h;unfold wh;cases w:E.kindOf t with|none=>grind|some z=>rw[w]at h;have b:(E.eqN t).map vE.ints=some kk->∃n u,E.eqN t=some n/\k=.agg u/\(u.length==n&&(hG u).isSome)=true:=(by intro h;simp at h;obtain⟨n,B,rfl⟩:=h;cases k<;>simp[pL]at a<;>first|grind|grind);cases z with|int C=>simp at h;subst h;cases k<;>simp[pL]at a;grind|str=>simp at h;subst h;cases k<;>simp[pL]at a;rfl|_=>obtain⟨n,u,c,rfl,D⟩:=b h;simp_all
def iY(hN:∀f s,nm f=some s->N s=f){op:Op}{k:K}{os:aY Zr}{vs:Zu}(h:resolve E nm op=some (k,os))(g:fH F os=some vs):AI E N F op vs k:=by
 cases op with
 |move x=>obtain⟨rfl,rfl⟩:=h;obtain⟨a,B,rfl⟩:=nY g;exact⟨rfl,λv w=>by simpa[bJ,bK,B]using w⟩|assign x=>obtain⟨rfl,rfl⟩:=h;obtain⟨a,B,rfl⟩:=nY g;exact⟨rfl,λv w=>by simpa[bJ,bK,B]using w⟩|pick c a b=>simp[resolve]at h;obtain⟨rfl,rfl⟩:=h;obtain⟨x,y,z,hx,hy,W,rfl⟩:=GM g;refine⟨rfl,λv w=>?_⟩;cases x<;>simp[bJ]at w;rename_i t;subst w;cases t<;>simp[bK,hx,hy,W]|nilCheck x=>simp[resolve]at h;obtain⟨rfl,rfl⟩:=h;obtain⟨a,B,rfl⟩:=nY g;refine⟨rfl,λv w=>?_⟩;cases a<;>simp[bJ,Ke]at w<;>subst w<;>simp[bK,B]|binOp aj t x y yt=>simp only[resolve,ζa,ζc]at h;obtain⟨rfl,rfl⟩:=h;obtain⟨a,b,B,I,rfl⟩:=sN g;exact⟨rfl,λv w=>by simp only[bK,B,I,RD];exact w⟩|unOp u t x=>cases u with|not=>simp only[resolve,ζa,ζc]at h;obtain⟨rfl,rfl⟩:=h;obtain⟨a,B,rfl⟩:=nY g;refine⟨rfl,λv w=>?_⟩;cases a<;>simp[bJ]at w;subst w;simp[bK,B]|neg=>simp only[resolve,ζa,ζc]at h;obtain⟨rfl,rfl⟩:=h;obtain⟨a,B,rfl⟩:=nY g;refine⟨rfl,λv w=>?_⟩;cases a<;>simp[bJ]at w;subst w;simp[bK,B]|_=>simp[resolve]at h
 |convert s d x=>
  simp only[resolve]at h;split at h
  .rename_i sd td A D;split at h;rename_i k j;simp only[ζa,ζc]at h;obtain⟨rfl,rfl⟩:=h;obtain⟨a,B,rfl⟩:=nY g;refine⟨rfl,λv w=>?_⟩;cases a<;>simp[bJ]at w;subst w;simp[bK,B,A,D,j]
   .rename_i j;split at h
    .rename_i e he;split at h
     .rename_i hu;simp only[ζa,ζc]at h;obtain⟨rfl,rfl⟩:=h;obtain⟨a,B,rfl⟩:=nY g;refine⟨rfl,a,rfl,λH ys l n L=>?_⟩;have ad:E.kindOf d=some .str:=(by unfold Env.kindOf;rw[D,map_some,j]);refine⟨?_,by simp only[evalConv,he,ad,B,hu,n,L,ζb,map_some]⟩;simp only[bK,A,D,B];cases a<;>first|rfl|(simp only[dz]at n;cases n)
     simp at h
    simp at h
   simp at h
  simp at h
 |fieldAddr s x f=>simp only[resolve]at h;split at h;rename_i fs j;split at h;rename_i off t X;split at h;rename_i d D;split at h;simp at h;rename_i W;simp only[ζa,ζc]at h;obtain⟨rfl,rfl⟩:=h;obtain⟨a,B,rfl⟩:=nY g;refine⟨rfl,λv w=>?_⟩;simp only[bK,B,j,X,D,if_neg W];simp only[bJ,lq]at w;cases a<;>simp at w⊢ <;>exact w;simp at h;simp at h;simp at h|field s x f=>
  simp only[resolve]at h;split at h
  .rename_i fs j;split at h
   .rename_i off t X;split at h
    .rename_i d D;simp only[ζa,ζc]at h;obtain⟨rfl,rfl⟩:=h;obtain⟨a,B,rfl⟩:=nY g;refine⟨rfl,λv w=>?_⟩;cases a<;>simp only[bJ]at w<;>first|(simp only[bK,B,j,X,D];exact w)|simp at w
    simp at h
   simp at h
  simp at h
 |indexAddr t x i=>
  simp only[resolve]at h;split at h
  .rename_i e j;simp only[ζf,ζc]at h;obtain⟨d,D,rfl,rfl⟩:=h;obtain⟨a,b,B,I,rfl⟩:=sN g;refine⟨rfl,λv w=>?_⟩;(cases b<;>simp only[bJ]at w<;>first|simp at w;done|skip);simp only[bK,B,I,j,D];unfold lu at w;exact w
  .rename_i len e j;simp only[ζf,ζc]at h;obtain⟨d,D,rfl,rfl⟩:=h;obtain⟨a,b,B,I,rfl⟩:=sN g;refine⟨rfl,λv w=>?_⟩;(cases b<;>simp only[bJ]at w<;>first|simp at w;done|skip);simp only[bK,B,I,j,D];unfold wz at w;exact w
  simp at h
 |index t x i=>
  simp only[resolve]at h;split at h
  .rename_i j;simp only[ζa,ζc]at h;obtain⟨rfl,rfl⟩:=h;obtain⟨a,b,B,I,rfl⟩:=sN g;refine⟨rfl,λv w=>?_⟩;(cases a<;>cases b<;>simp only[bJ]at w<;>first|simp at w;done|skip);simp only[bK,B,I,j];exact w
  .rename_i len e j;simp only[ζf,ζc]at h;obtain⟨d,D,rfl,rfl⟩:=h;obtain⟨a,b,B,I,rfl⟩:=sN g;refine⟨rfl,λv w=>?_⟩;(cases a<;>cases b<;>simp only[bJ]at w<;>first|simp at w;done|skip);simp only[bK,B,I,j,D];exact w
  simp at h
 |slice t x lo hi mx=>
  simp only[resolve]at h;split at h
  .rename_i j;simp only[ζa,ζc]at h;obtain⟨rfl,rfl⟩:=h;obtain⟨a,bs,B,I,rfl⟩:=iG g;refine⟨rfl,λv w=>?_⟩;(cases a<;>simp only[bJ]at w<;>first|simp at w;done|skip);have⟨⟨l,h⟩,Y,w⟩:=ζg.1 w;have⟨n,L⟩:=GF I Y;have M:jP F none=some none:=rfl;simp only[bK,B,j,n,L,M];exact w
  rename_i e j;simp only[ζf,ζc]at h;obtain⟨d,D,rfl,rfl⟩:=h;obtain⟨a,bs,B,I,rfl⟩:=iG g;refine⟨rfl,λv w=>?_⟩;simp only[bJ]at w;have⟨⟨l,h⟩,Y,w⟩:=ζg.1 w;have⟨n,L⟩:=GF I Y;have M:jP F none=some none:=rfl;simp only[bK,B,j,n,L,M,D];cases a<;>exact w
  .rename_i e m j;split at h
   .rename_i d hh D;simp only[ζa,ζc]at h;obtain⟨rfl,rfl⟩:=h;obtain⟨a,b,c,B,I,hc,rfl⟩:=GM g;refine⟨rfl,λv w=>?_⟩;(cases b<;>cases c<;>simp only[bJ]at w<;>first|simp at w;done|skip);rename_i k1 n1 k2 n2;split at w;rename_i U;simp only[ζh,beq_iff_eq]at U;obtain⟨⟨n,rfl⟩,rfl⟩:=U;have m1:jP F none=some none:=rfl;have m2:jP F (some hh)=some (some 0):=(by simp[jP,I]);have m3:jP F (some m)=some (some 0):=(by simp[jP,hc]);simp only[bK,B,j,m1,m2,m3,D];cases a<;>simp[Kb]at n<;>exact w;simp at w
   simp at h
  simp at h
 |build t ps=>
  simp only[resolve]at h;split at h;rename_i d D;split at h;rename_i fs j;split at h;rename_i pl ae;simp only[ζf,ζc]at h;obtain⟨q,hq,rfl,rfl⟩:=h;refine⟨rfl,λv w=>?_⟩;simp only[bJ,ζf]at w;obtain⟨cs,Z,rfl⟩:=w;have⟨ws,P,R⟩:=Ga (λi=>pl[i]?) _ q vs _ cs hq g Z;simp only[bK,D,P,j,ae,R,map_some];simp at h;rename_i len e j;simp only[ζf,ζc]at h;obtain⟨o,af,rfl,rfl⟩:=h;refine⟨rfl,λv w=>?_⟩;simp only[bJ,ζf]at w;obtain⟨cs,Z,rfl⟩:=w;have⟨ws,P,R⟩:=Ga (λi=>some (i*o.size,o.size)) ps.toList (ps.toList.map λq=>(q.1*o.size,o.size)) vs _ cs (by
   generalize ps.toList=l
   induction l with
   |nil=>rfl|cons x l ih=>simp[List.mapM_cons,ih]) g Z
  simp only[bK,D,P,j,af,R,map_some];simp at h;simp at h
 |makeFunc f a b=>cases f with|func f=>simp only[resolve,ζf,ζc]at h;obtain⟨s,A,rfl,rfl⟩:=h;obtain⟨az,bs,B,I,rfl⟩:=JZ g;refine⟨rfl,λv w=>?_⟩;simp only[bJ,ζa]at w;subst w;simp only[bK,B,I,hN f s A];rw[<-KH B];simp|_=>simp[resolve]at h
 |extract x i=>simp only[resolve,ζa,ζc]at h;obtain⟨rfl,rfl⟩:=h;obtain⟨a,B,rfl⟩:=nY g;refine⟨rfl,λv w=>?_⟩;(cases a<;>simp only[bJ]at w<;>first|simp at w;done|skip);simp only[bK,B];exact w|load t x=>simp only[resolve,ζf,ζc]at h;obtain⟨d,D,rfl,rfl⟩:=h;obtain⟨a,B,rfl⟩:=nY g;exact⟨rfl,λH v w=>by simp only[dQ,D,B];exact w⟩|lookup t m k ok=>simp only[resolve]at h;split at h;rename_i kt et j;split at h;rename_i d kk D O;simp only[ζf,ζc]at h;obtain⟨z,W,rfl,rfl⟩:=h;obtain⟨a,b,B,I,rfl⟩:=sN g;refine⟨rfl,λH v w=>?_⟩;simp only[dS]at w;split at w;rename_i ab Q;split at w;rename_i S;simp only[dQ,j,B,I,D,Q,zj O S,if_true,W];split at w;(next X=>rw[X];exact w);(next X=>rw[X];exact w);simp at w;simp at w;simp at w;simp at h;simp at h|alloc t=>simp only[resolve,ζf,ζc]at h;obtain⟨d,D,rfl,rfl⟩:=h;have:=pX g;subst this;exact⟨rfl,λx w=>by simpa[iM,eP,D]using w⟩|box t x=>simp only[resolve,ζa,ζc]at h;obtain⟨rfl,rfl⟩:=h;obtain⟨a,B,rfl⟩:=nY g;exact⟨rfl,λx w=>by simp only[eP,B];exact w⟩|makeSlice t l c=>
  simp only[resolve]at h;split at h
  .rename_i e j;split at h
   .rename_i d D;split at h
    .rename_i T;simp only[ζa,ζc]at h;obtain⟨rfl,rfl⟩:=h;obtain⟨a,b,B,I,rfl⟩:=sN g;refine⟨rfl,λx w=>?_⟩;(cases a<;>cases b<;>simp only[iM]at w<;>first|simp at w;done|skip);rename_i k1 n1 k2 n2;split at w;(next hc=>simp only[eP,j,B,I,D];rw[if_pos ⟨hc.1,hc.2.1,hc.2.2.1,hc.2.2.2.1,hc.2.2.2.2,T⟩];exact w);simp at w
    simp at h
   simp at h
  simp at h
 |buildSlice t len ps=>simp only[resolve]at h;split at h;rename_i e j;split at h;rename_i d D;split at h;rename_i T;simp only[ζa,ζc]at h;obtain⟨rfl,rfl⟩:=h;refine⟨rfl,λx w=>?_⟩;have W:=MP _ _ g;simp only[iM]at w;split at w;simp only[eP,j,W,D,if_pos T];exact w;simp at w;simp at h;simp at h;simp at h|makeMap t r=>cases r with|none=>simp only[resolve,ζa,ζc]at h;obtain⟨rfl,rfl⟩:=h;have:=pX g;subst this;exact⟨rfl,λx w=>by simpa[iM,eP]using w⟩|some r=>simp[resolve]at h
 |store t p x=>simp only[resolve,ζf,ζc]at h;obtain⟨d,D,rfl,rfl⟩:=h;obtain⟨a,b,B,I,rfl⟩:=sN g;refine⟨rfl,λH v w=>?_⟩;(cases a<;>simp only[eY]at w<;>first|simp at w;done|skip);simp only[cw,D,B,I];exact w|mapUpdate t m k x=>
  simp only[resolve]at h;split at h
  .rename_i kt et j;simp only[ζf,ζc]at h;obtain⟨kk,O,rfl,rfl⟩:=h;obtain⟨a,b,c,B,I,hc,rfl⟩:=GM g;refine⟨rfl,λH v w=>?_⟩;(cases a<;>simp only[eY]at w<;>first|simp at w;done|skip);simp only[cw,j,B,I,hc];split at w;rename_i ab Q;split at w;(next S=>rw[Q];simp only[zj O S,if_true];exact w);simp at w;simp at w
  simp at h
 |insert t m k x=>
  simp only[resolve]at h;split at h
  .rename_i kt et j;simp only[ζf,ζc]at h;obtain⟨kk,O,rfl,rfl⟩:=h;obtain⟨a,b,c,B,I,hc,rfl⟩:=GM g;refine⟨rfl,λH v w=>?_⟩;(cases a<;>simp only[eY]at w<;>first|simp at w;done|skip);simp only[cw,j,B,I,hc];split at w;rename_i ab Q;split at w;(next S=>rw[Q];simp only[zj O S,if_true];exact w);simp at w;simp at w
  simp at h
 |call c=>
  have⟨callee,args,ak⟩:=c
  cases callee with
  |value f=>simp only[resolve,ζa,ζc]at h;obtain⟨rfl,rfl⟩:=h;obtain⟨a,az,B,has,rfl⟩:=iG g;refine⟨rfl,a,az,rfl,?_⟩;simp only[jK,B,has];cases a<;>rfl|builtin b=>
   cases b with
   |append=>simp only[resolve]at h;split at h;rename_i t t' s x J C;split at h;rename_i e e' j aa;split at h;rename_i d D;split at h;rename_i T;simp only[ζa,ζc]at h;obtain⟨rfl,rfl⟩:=h;obtain⟨a,b,B,I,rfl⟩:=sN g;refine⟨rfl,λH v w=>?_⟩;have G:fH F args.toList=some [a,b]:=(by rw[C];exact g);simp only[cw,J,G,j,aa,D];simp only[eY]at w;split at w;(next n L=>rw[n,L];exact w);rename_i xs ys ah n L;rw[n,L];split at w;rename_i ai;simp only[if_pos (show xs.length+ys.length<=2147483648/\d.bytes<=4096/\0<d.bytes from⟨ai,T⟩)];(cases ys with|nil=>exact absurd rfl ah|cons y ys=>exact w);simp at w;simp at w;simp at h;simp at h;rename_i e kk j aa;simp only[ζf,ζc]at h;obtain⟨d,D,rfl,rfl⟩:=h;obtain⟨a,b,B,I,rfl⟩:=sN g;refine⟨rfl,λH v w=>?_⟩;have G:fH F args.toList=some [a,b]:=(by rw[C];exact g);simp only[cw,J,G,j,aa,D];exact w;simp at h;simp at h|cap=>
    simp only[resolve]at h;split at h
    .rename_i t x J C;split at h
     .rename_i e j;simp only[ζa,ζc]at h;obtain⟨rfl,rfl⟩:=h;obtain⟨a,B,rfl⟩:=nY g;have G:fH F args.toList=some [a]:=(by rw[C];exact g);refine⟨rfl,λx w=>?_⟩;simp only[bK,J,G,j];simp only[bJ]at w;cases a<;>simp only[FN]at w<;>first|(simp at w;done)|exact w
     simp at h
    simp at h
   |clear=>simp only[resolve]at h;split at h;rename_i t x J C;split at h;rename_i e j;simp only[ζf,ζc]at h;obtain⟨d,D,rfl,rfl⟩:=h;obtain⟨a,B,rfl⟩:=nY g;have G:fH F args.toList=some [a]:=(by rw[C];exact g);refine⟨rfl,λH v w=>?_⟩;simp only[cw,J,G,j,D];exact w;simp at h;simp at h|len=>
    simp only[resolve]at h;split at h
    .rename_i t x J C;split at h
     .rename_i j;simp only[ζa,ζc]at h;obtain⟨rfl,rfl⟩:=h;obtain⟨a,B,rfl⟩:=nY g;have G:fH F args.toList=some [a]:=(by rw[C];exact g);refine⟨rfl,λv w=>?_⟩;(cases a<;>simp only[bJ]at w<;>first|simp at w;done|skip);simp only[bK,G,J,j];exact w
     rename_i e j;simp only[ζa,ζc]at h;obtain⟨rfl,rfl⟩:=h;obtain⟨a,B,rfl⟩:=nY g;have G:fH F args.toList=some [a]:=by rw[C];exact g
     refine⟨rfl,λv w=>?_⟩;simp only[bK,G,J,j];simp only[bJ,mH]at w;cases a<;>simp at w⊢ <;>exact w;simp at h
    simp at h
   |max=>
    simp only[resolve]at h;split at h
    .rename_i x y C;simp only[ζa,ζc]at h;obtain⟨rfl,rfl⟩:=h;obtain⟨a,b,B,I,rfl⟩:=sN g;have G:fH F args.toList=some [a,b]:=(by rw[C];exact g);refine⟨rfl,λv w=>?_⟩;(cases a<;>cases b<;>simp only[bJ]at w<;>first|simp at w;done|skip);simp only[bK,G];exact w
    .rename_i x y z t C;simp only[ζa,ζc]at h;obtain⟨rfl,rfl⟩:=h;obtain⟨a,al,B,L,rfl⟩:=iG g;obtain⟨b,c,d,I,hc,D,rfl⟩:=GM L;have G:fH F args.toList=some [a,b,c,d]:=(by rw[C];exact g);refine⟨rfl,λv w=>?_⟩;(cases a<;>cases b<;>simp only[bJ]at w<;>first|simp at w;done|skip);(cases c<;>cases d<;>simp only[bJ]at w<;>first|simp at w;done|skip);simp only[bK,G];exact w
    simp at h
   |min=>
    simp only[resolve]at h;split at h
    .rename_i x y C;simp only[ζa,ζc]at h;obtain⟨rfl,rfl⟩:=h;obtain⟨a,b,B,I,rfl⟩:=sN g;have G:fH F args.toList=some [a,b]:=(by rw[C];exact g);refine⟨rfl,λv w=>?_⟩;(cases a<;>cases b<;>simp only[bJ]at w<;>first|simp at w;done|skip);simp only[bK,G];exact w
    simp at h
   |_=>simp[resolve]at h
  |_=>simp[resolve]at h
 |panic x=>simp only[resolve,ζa,ζc]at h;obtain⟨rfl,rfl⟩:=h;have:=pX g;subst this;exact⟨rfl,λx w=>by simp[bJ]at w⟩|makeInterface t x=>simp only[resolve,ζa,ζc]at h;obtain⟨rfl,rfl⟩:=h;have:=pX g;subst this;exact⟨rfl,λx w=>by simp[bJ]at w⟩|_=>simp[resolve]at h
end
structure zf(c c':dg):Prop where
 lv:c.lv<=c'.lv
 go:∀x a H r,c x a H=some r->c' x a H=some r
section
variable{E:Env}{c c':dg}{n:Nat}{ops:Zz}{F F':Zo}{H H':bl}
def HX{f:Zk}{args:Zu}{y:V}(B:bW c f args H=some y):∃az,borrows c.lv H args=some az:=by
 unfold bW at B;split at B;next az h=>exact⟨az,h⟩
 cases B
def C1(G:c.lv<=c'.lv){f:Zk}(h:∀a H r,c (.fn f) a H=some r->c' (.fn f) a H=some r){args:Zu}{y:V}(B:bW c f args H=some y):bW c' f args H=some y:=by
 unfold bW at B⊢;split at B;rename_i az u;rw[sE G u];split at B;rename_i hc;simp only;rw[h _ _ _ hc];split at B;next w=>simp only;rw[rF G w];exact B
 cases B;simp at B;simp at B
def nv(h:zf c c'){f:Zk}{args:Zu}{y:V}(B:bW c f args H=some y):bW c' f args H=some y:=C1 h.lv (λ_ _ _=>h.go _ _ _ _) B
def mG(B:c.lv<=c'.lv){f:Zk}{args:Zu}{y:V}(G:bW c f args H=some y):cN (b8 c'.lv H) args=cN (b8 c.lv H) args:=by have⟨az,h⟩:=HX G;exact yp B h
def Ck(G:c.lv<=c'.lv){f:Zk}(h:∀a H r,c (.fn f) a H=some r->c' (.fn f) a H=some r){args:Zu}{r:V×bl}(B:j_ c f args H=some r):j_ c' f args H=some r:=by
 unfold j_ at B⊢;split at B;rename_i az u;rw[sE G u];split at B;next hc=>simp only;rw[h _ _ _ hc];exact B
 simp at B;simp at B
def Gk(h:zf c c'){f:Zk}{args:Zu}{r:V×bl}(B:j_ c f args H=some r):j_ c' f args H=some r:=Ck h.lv (λ_ _ _=>h.go _ _ _ _) B
def y_(h:zf c c'){f:Zk}{args:Zu}{r:V×bl}(B:fc E c f args H=some r):fc E c' f args H=some r:=by
 unfold fc at B⊢;split;next u=>rw[if_pos u]at B;exact Gk h B
 rename_i u;rw[if_neg u]at B;exact h.go _ _ _ _ B
def zP(O:c.lv<=c'.lv){f:Zk}{args:Zu}{y J:V}{b:Nat}(a:bW c f args (H.take b)=none)(B:bW c f args H=some y)(G:bW c' f args (H.take b)=some J):False:=by
 unfold bW at a B G;split at G;rename_i az d;split at B;rename_i D u;have e:=nO (λx y z k1 k2=>Ik (H2:=H.take b) c.lv c'.lv x y z k1 k2 λid w=>by
  rw[getElem?_take]at w⊢;split at w
  next C=>rw[if_pos C]
  cases w) u d
 have I:borrows c.lv H args=some az:=sB (Bi c.lv) e;rw[I]at u;cases u;rw[show borrows c.lv (H.take b) args=some az from e]at a;simp only at a;rw[a]at B;simp at B;simp at B;simp at G
def Mr(h:zf c c'){place:aZ (Nat×Nat)}{op:Op}{r:V×bl}(B:cK E c ops place F H op=some r):cK E c' ops place F H op=some r:=by
 unfold cK at B⊢;split at B;exact B;exact B;exact B;exact B;split at B
 .rename_i f args C;split at B;rotate_left;cases B;rename_i D;rw[if_pos D];unfold dY at B⊢;split at B;rename_i a;rw[if_pos a];split at B;exact y_ h B;skip;split at B;(next z=>rw[if_pos z];exact y_ h B);simp at B;rename_i a;rw[if_neg a];split at B;skip;split at B;(next y u=>rw[nv h u,mG h.lv u];exact B);simp at B;rename_i b i;skip;split at B;(next y u=>rw[nv h u,mG h.lv u];exact B);rename_i w;split at B;rename_i z;split at B;rename_i y u;(cases G:bW c' f args (take b H)with|some I=>exact(zP h.lv w u G).elim|none=>simp only[if_pos z,nv h u,mG h.lv u];exact B);simp at B;simp at B
 rename_i id args C;split at B;exact h.go _ _ _ _ B;skip;split at B;next z=>rw[if_pos z];exact h.go _ _ _ _ B
 simp at B;simp at B
def CI(h:zf c c'){place:aZ (Nat×Nat)}{o:Oper}{r:Zo×bl}(B:gm E c n ops place o F H=some r):gm E c' n ops place o F H=some r:=by
 unfold gm at B⊢;split at B;rename_i u;rw[if_pos u];split at B;next v H1 w=>rw[Mr h w];exact B
 simp at B;rename_i u;rw[if_neg u];exact B
def A5(h:zf c c'){r:Zo×bl}:∀(l:Zz){F:Zo}{H:bl},lZ E c n ops l F H=some r->lZ E c' n ops l F H=some r
 |[],_,_,B=>B|o::l,F,H,B=>by simp only[lZ]at B⊢;split at B;(next F1 H1 G=>rw[CI h G];exact A5 h l B);simp at B
def A3(h:zf c c'){base:Nat}{r:Zo×bl}:∀(l:Zv){F:Zo}{H:bl},jJ E c n ops base l F H=some r->jJ E c' n ops base l F H=some r
 |[],_,_,B=>B|i::l,F,H,B=>by simp only[jJ]at B⊢;split at B;split at B;(next F1 H1 G=>rw[CI h G];exact A3 h l B);simp at B;simp at B
def DD(h:zf c c'){B:Zl}{r:Zo×bl}(G:js E c n ops B F H=some r):js E c' n ops B F H=some r:=by
 unfold js at G⊢;split;rename_i u;rw[if_pos u]at G;split at G;next w=>rw[if_pos w];exact A3 h _ G
 simp at G;rename_i u;rw[if_neg u]at G;exact A5 h _ G
def x_{s U:Zo->bl->aZ (Out×Zo×bl)}(h:∀F H r,s F H=some r->U F H=some r):∀(k G:Nat),k<=G->∀{F H r},kz s k F H=some r->kz U G F H=some r
 |0,_,_,F,H,r,B=>by simp[kz]at B|k+1,0,hk,F,H,r,B=>Za|k+1,G+1,hk,F,H,r,B=>by simp only[kz]at B⊢;split at B;(next F1 H1 W=>rw[h _ _ _ W];exact x_ h k G Za B);rename_i J;rw[h _ _ _ B];split;(next F1 H1 O=>cases O;exact absurd B (J _ _));rfl
def zc(h:zf c c'){lf B:Nat}(O:lf<=B)(ro:Zl)(e:Nat):∀(code:Code){F:Zo}{H:bl}{r:Out×Zo×bl},exec E c lf ro e code F H=some r->exec E c' B ro e code F H=some r:=by intro code;induction code with|skip=>intro F H r u;exact u|label l=>intro F H r u;exact u|region id ops L=>intro F H r u;simp only[exec,ζf]at u⊢;obtain⟨x,Q,rfl⟩:=u;exact⟨x,DD h Q,rfl⟩|seq a b z C=>intro F H r u;simp only[exec]at u⊢;split at u;(next F1 H1 d=>rw[z d];exact C u);rename_i D;rw[z u];split;(next G=>cases G;exact absurd u (D _ _));rfl|cond x a b z C=>intro F H r u;simp only[exec]at u⊢;split at u;rename_i t U;split at u;(next I=>subst I;simp only[if_true];exact z u);rename_i I;rw[if_neg I];exact C u;simp at u|block id a J=>intro F H r u;simp only[exec]at u⊢;split at u;(next S F1 H1 d=>rw[J d];exact u);rename_i D;rw[J u];split;(next G=>cases G;exact absurd u (D _ _ _));rfl|loop a J=>intro F H r u;simp only[exec]at u⊢;exact x_ (λF H r f=>J f) lf B O u|rangeFunc g ps W X _ _=>intro F H r u;simp only[exec]at u⊢;split at u;split at u;(next T H1 hc=>rw[h.go _ _ _ _ hc];exact u);simp at u;simp at u|exit id=>intro F H r u;exact u|ret=>intro F H r u;exact u|scope a _=>intro F H r u;simp[exec]at u|goto l=>intro F H r u;simp[exec]at u|refuse w=>intro F H r u;simp[exec]at u
def Hp(E:Env):∀n,zf (run E n) (run E (n+1)):=by intro n;induction n with|zero=>exact⟨le_succ _,λx a H r h=>(by cases h)⟩|succ n u=>refine⟨le_succ _,λx a H r h=>?_⟩;rw[FH]at h⊢;cases x with|fn f=>rw[jD]at h⊢;split at h;rename_i U O;split at h;rename_i B;rw[if_pos B];split at h;simp at h;rename_i o F1 H1 C Q;rw[zc u (le_succ n) _ _ _ Q];(cases o with|exit id=>exact(C id rfl).elim|norm=>exact h|ret=>exact h);simp at h;simp at h;split at h;(next D=>rw[if_pos D];exact C2 u.lv (λg args y _ S=>nv u S) h);rename_i D;rw[if_neg D];exact h|yld id=>rw[jD]at h⊢;split at h;rename_i b L;split at h;rename_i T;split at h;rename_i w;split at h;rename_i W H2 G;split at h;rename_i r2 I;split at h;rename_i z;split at h;(next o X Y J=>simp only[if_pos w,zc u (le_succ n) _ _ _ G,I,z,zc u (le_succ n) _ _ _ J];exact h);simp at h;simp at h;simp at h;simp at h;simp at h;simp at h;simp at h
def nC(E:Env){n m:Nat}(h:n<=m):zf (run E n) (run E m):=by induction h with|refl=>exact⟨le_refl _,λ_ _ _ _ h=>h⟩|step _ u=>exact⟨Nat.le_trans u.lv (Hp E _).lv,λx a H r h=>(Hp E _).go x a H r (u.go x a H r h)⟩
def nE(E:Env):∀n,(run E n).lv=n
 |0=>rfl|_+1=>rfl
end
def Km(P:Program)(f:Zk):aZ FI:=(P.funcs[f]?).bind λfn=>fn.body.map λb=>⟨fn.ntmps,fn.results.toList,b⟩
def AK(P:Program):Zl:=P.funcs.toList.all λfn=> !(fn.name== "runtime.NumGoroutine")
def SZ{P:Program}(h:AK P=true){f:Zk}{fi:FI}(B:Km P f=some fi):∃fn,P.funcs[f]?=some fn/\fn.body=some fi.body/\fn.ntmps=fi.ntmps/\fn.results.toList=fi.results/\(fn.name== "runtime.NumGoroutine")=false:=by unfold Km at B;have⟨fn,h1,w⟩:=ζg.1 B;obtain⟨b,z,rfl⟩:=ζf.1 w;refine⟨fn,h1,z,rfl,rfl,?_⟩;unfold AK at h;rw[List.all_eq_true]at h;have C:=h fn (by obtain⟨u,rfl⟩:=Array.getElem?_eq_some_iff.1 h1;exact Array.mem_toList_iff.2 (Array.getElem_mem u));simpa using C
def CG(P:Program)(shut keep own:Zv)(two:aY (Nat×Nat))(a:Zk->Zl)(known:Zk->Zu->aZ V):Env where
 tt:=tn P
 ft f:=if shut.contains f then none else Km P f
 keep:=keep.contains
 own:=own.contains
 eqN t:=lk two t
 sort:=a
 known:=known
def Hq{P:Program}{shut keep own:Zv}{two:aY (Nat×Nat)}{a:Zk->Zl}{known:Zk->Zu->aZ V}(h:AK P=true)(B:∀p∈two,s9 P p.1 p.2):eG P (CG P shut keep own two a known)where
 tt t d h:=h
 ft f w u:=by change(if shut.contains f then none else Km P f)=some w at u;split at u;cases u;exact SZ h u
 eqN t n z:=B (t,n) (Nn z)
def qc:Zt->aZ Zx
 |[]=>some []|[.int .i64 n]::r=>(qc r).map (n::·)|_=>none
def nq(n:Nat)(l:Zx):Zx:=l.take n++replicate (n-l.length) 0
def xO(n:Nat)(l:Zx):Zu:=(nq n l).map (V.int .i64)
def uy(n:Nat):Zu->aZ V
 |[.bG]=>some (.agg (xO n []))|[.dw]=>some (.agg (xO n []))|[.fsl 1 xs]=>(qc xs).map λl=>.agg (xO n l)|_=>none
def AV:∀{xs:Zt}{l:Zx},qc xs=some l->l.length=xs.length/\∀(i:Nat)(k:Int),l[i]?=some k->xs[i]?=some [V.int .i64 k]
 |[],l,h=>by cases h;grind|x::xs,l,h=>by unfold qc at h;split at h;grind;rename_i n r B;obtain⟨rfl,rfl⟩:=B;obtain⟨u,a,rfl⟩:=ζf.1 h;have⟨w,z⟩:=AV a;grind;simp_all
structure Ua(w:World)(v:Value)(l:List Int):Prop where
 at_:∃a cap,v=.slice a l.length cap/\(a=none->l=[])/\∀ad,a=some ad->l=[]\/∃c el fr,ad.spot=none/\w.heap[ad.block]?=some (.cells c el fr)/\ad.off+l.length<=c.size/\(c.toList.drop ad.off).take l.length=l.map (Value.int .i64)
section
variable{P:Program}{I:cn}{μ:Mu}{H:bl}{w:World}{n:Nat}
def Tz(s:cO I μ H w){x:V}{v:Zp}{y:V}(f:bD I μ x v)(B:uy n [x]=some y):∃l,Ua w v l/\y=.agg (xO n l):=by
 have hc:=by cases f with|c _ _ h=>omega|_=>simp[uy]at B
 unfold uy at B;split at B;next u=>obtain⟨rfl,_⟩:=u;cases hc;cases B;exact⟨[],⟨⟨none,0,rfl,λ_=>rfl,λz h=>by cases h⟩⟩,rfl⟩
 next u=>obtain⟨rfl,_⟩:=u;cases hc;cases B;exact⟨[],⟨⟨_,0,rfl,λ_=>rfl,λz h=>.inl rfl⟩⟩,rfl⟩
 rename_i W u;obtain⟨rfl,_⟩:=u;obtain⟨l,L,rfl⟩:=ζf.1 B;have⟨d,O⟩:=AV L;refine⟨l,?_,rfl⟩;cases hc with|fsl0 _ a cap=>have:=List.length_eq_zero_iff.1 d;subst this;exact⟨⟨_,cap,rfl,λ_=>rfl,λz h=>.inl rfl⟩⟩|fsl _ _ b o cap c Q J hu X Y hr=>refine⟨⟨_,cap,(by rw[d]),(λh=>by cases h),λz C=>.inr ?_⟩⟩;cases C;have⟨el,fr,S⟩:=s.imm b _ Q;refine⟨c,el,fr,rfl,S,Zd,?_⟩;refine List.ext_getElem? λi=>?_;rw[getElem?_take,getElem?_map];by_cases T:i<l.length;have U:=O i _ (ζd T);have D:o+i<c.size:=(by grind);have G:c[o+i*1+0]?=some c[o+i]:=(by simp[D]);have:=hr i 0 _ _ _ U rfl G;have e:c[o+i]=.int .i64 l[i]:=(by generalize c[o+i]=q at this⊢;cases this;rfl);grind;grind
 simp_all
def OY{v:Zp}{l:Zx}(h:Ua w v l){w':World}(d:∀b,b<w.heap.size->w'.heap[b]?=w.heap[b]?)(n:Nat):
 (lenOf v).run P w'=.ok l.length w'/\(firstCells 1 (Nat.min l.length n) v).run P w'=.ok ((l.take n).map (Value.int .i64)).toArray w':=by
 obtain⟨a,e,rfl,f,g⟩:=h.at_;refine⟨by simp[lenOf],?_⟩
 cases a with
 |none=>rw[f rfl];simp[firstCells]|some B=>
  rcases g B rfl with rfl|⟨c,el,fr,C,hc,z,D⟩
  .simp[firstCells,loadCells,loadCellsFrom]
  have⟨b,o,I⟩:=B;simp only at C hc z D;subst C;have G:=(Array.getElem?_eq_some_iff.1 hc).1;have u:=qm (by rw[d b G];omega)
  have J:Nat.min l.length n<=l.length:=Nat.min_le_left _ _;simp[firstCells];rw[u5 u (.inl Za)]
  have:(c.toList.drop o).take (Nat.min l.length n)=((c.toList.drop o).take l.length).take n:=by rw[List.take_take];congr 1;exact Nat.min_comm _ _
  simp_all
variable{f A S e:Nat}{fn:Func}{bytes i1 i2 i3 i4 t1 t2 t6 t7:Nat}{p1 p2 p3 p4 p5 p6 p7:String}{e1 e2 e3 e4 e5 e6 e7:Array Edge}
def xe{o:Oper}{a:Act}{w w':World}{K:Act->World->Prop}{Q:Exit->Act->World->Prop}{v:Zp}(B:∀c,o.op≠.defer c)
 (h:(execOp a.eval o).run P w=.ok (.value v) w')(G:K (a.put o.dst v) w'):o.wpIn (fr none) 0 P a w K Q:=by
 refine⟨λ_ _=>trivial,?_⟩
 show o.uponIn (fr none) 0 P a K Q ((o.semAt none a.eval).run P w);rw[Oper.semAt_eq none a.eval o B,h,Oper.uponIn_value];omega
def TX{o:Oper}{a:Act}{w w':World}{K:Act->World->Prop}{Q:Exit->Act->World->Prop}(B:∀c,o.op≠.defer c)
 (h:(execOp a.eval o).run P w=.ok .skip w')(G:K (a.put o.dst undef) w'):o.wpIn (fr none) 0 P a w K Q:=by
 refine⟨λ_ _=>trivial,?_⟩
 show o.uponIn (fr none) 0 P a K Q ((o.semAt none a.eval).run P w);rw[Oper.semAt_eq none a.eval o B,h,Oper.uponIn_skip];omega
def TZ{o:Oper}{id:Nat}{a:Act}{w:World}{Q:Exit->Act->World->Prop}(b:o.guard=none)(h:o.wpIn (fr none) 0 P a w (Q .normal) Q):(Code.region id #[o] false).wpIn (fr none) 0 P Q a w:=by refine wpIn_region ?_;simpa[wpOpsIn,Region.wanted,b]using h
def WN{o o2:Oper}{id:Nat}{a:Act}{w:World}{Q:Exit->Act->World->Prop}(b:o.guard=none)(B:o2.guard=none)(h:o.wpIn (fr none) 0 P a w (λa w=>o2.wpIn (fr none) 0 P a w (Q .normal) Q) Q):(Code.region id #[o,o2] false).wpIn (fr none) 0 P Q a w:=by refine wpIn_region ?_;show wpOpsIn _ _ _ _ _ [0,1] _ _;simpa[wpOpsIn,Region.wanted,b,B]using h
def Wz{o o2 o3:Oper}{id:Nat}{a:Act}{w:World}{Q:Exit->Act->World->Prop}(b:o.guard=none)(B:o2.guard=none)(G:o3.guard=none)
 (h:o.wpIn (fr none) 0 P a w (λa w=>o2.wpIn (fr none) 0 P a w (λa w=>o3.wpIn (fr none) 0 P a w (Q .normal) Q) Q) Q):(Code.region id #[o,o2,o3] false).wpIn (fr none) 0 P Q a w:=by
 refine wpIn_region ?_;show wpOpsIn _ _ _ _ _ [0,1,2] _ _;simpa[wpOpsIn,Region.wanted,b,B,G]using h
def Sq(hf:P.funcs[f]?=some fn)
 (hb:fn.body=some (.seq (.region i1 #[⟨some 2,.alloc A,t1,p1,e1,none⟩] false) (.seq (.region i2 #[⟨some 3,.alloc A,t2,p2,e2,none⟩] false)
  (.seq (.region i3 #[⟨some 4,.slice A (.tmp 3) none none none,S,p3,e3,none⟩,⟨some 5,.move (.tmp 0),S,p4,e4,none⟩,⟨some 6,.call {callee:=.builtin .copy,args:=#[.tmp 4,.tmp 5],argTypes:=#[S,S]},t6,p5,e5,none⟩] false)
  (.seq (.region i4 #[⟨some 7,.load A (.tmp 3),A,p6,e6,none⟩,⟨none,.store A (.tmp 2) (.tmp 7),t7,p7,e7,none⟩] false) .ret)))))
 (aB:fn.ntmps=8)(hr:fn.results=#[.cell 2 A])(ah:(fn.name== "runtime.NumGoroutine")=false)
 (hA:P.underlying A=some (.array n e))(hS:P.underlying S=some (.slice e))(he:tn P e=some ⟨1,8,[.int .i64 0],.int .i64⟩)(aC:tn P A=some ⟨n,bytes,replicate n (.int .i64 0),.array n e⟩):
 ∀args y,uy n args=some y->vt P f args y:=by
 intro args y hy;refine⟨⟨fn,hf,by simp[hb],ah⟩,λI μ H w vs s hv=>?_⟩
 obtain⟨x,rfl⟩:∃x,args=[x]:=by match args,hy with|[],h=>simp[uy]at h|[x],_=>exact⟨x,rfl⟩|_::_::_,h=>simp[uy]at h
 obtain⟨v,rfl⟩:=length_eq_one_iff.1 (hv.1.symm);obtain⟨l,am,rfl⟩:=Tz s (hv.2 0 x v rfl rfl) hy;have tA:=oh.CL aC;have te:=oh.CL he;obtain⟨z,hz,an,aL,aM⟩:=tA.zq;have T:z.cells.size=n:=by have:=(an (λ_=>none) (λ_=>none)).1;simp at this;omega
 have key:∀u,bD (λ_=>none) (λ_=>none) (.int .i64 0) u->u=.int .i64 0:=λu h=>by cases h with|c _ _ h=>cases h;rfl
 have aD:z.cells.toList=replicate n (.int .i64 0):=by refine List.ext_getElem? λi=>?_;by_cases hi:i<n;have h2:=(an (λ_=>none) (λ_=>none)).2 i (.int .i64 0) (z.cells[i]' Za) (by simp[hi]) Zc;rw[List.getElem?_replicate,if_pos hi];have:=key _ h2;simp[this,T,hi];rw[List.getElem?_eq_none (by simp;omega),List.getElem?_eq_none (by simp;omega)]
 have D:∀w,(Instr.alloc A true (.tuple #[])).run P w=.ok (.pointer (some ⟨w.heap.size,0,none⟩)) (w.alloc (.cells z.cells A)):=by intro w;unfold Instr.alloc;simp[run_bind,hz,andThen_ok,Du,run_pure]
 have ad:(w.alloc (.cells z.cells A)).heap.size=w.heap.size+1:=Zc
 generalize L:(w.alloc (.cells z.cells A)).alloc (.cells z.cells A)=C;have ao:C.heap.size=w.heap.size+2:=by subst L;simp
 have ap:∀b,b<w.heap.size->C.heap[b]?=w.heap[b]?:=by intro b hb;subst L;rw[jq _ _ Za,jq _ _ hb]
 have aE:C.heap[w.heap.size]?=some (.cells z.cells A):=by subst L;rw[jq _ _ Za,kF]
 have aF:C.heap[w.heap.size+1]?=some (.cells z.cells A):=by subst L;rw[<-ad,kF]
 have ai:C.os=w.os/\C.output=w.output/\C.tape=w.tape/\C.drawn=w.drawn:=by subst L;exact⟨rfl,rfl,rfl,rfl⟩
 have aG:∀a,(sliceAt A (.pointer (some a)) none none none).run P C=.ok (.slice (some (if n=0 then a else a.add 0)) n n) C:=by intro a;unfold sliceAt;simp[VE.dn hA,sureAddr,Instr.sliceBounds,te.iw]
 have aH:(if n=0 then⟨w.heap.size+1,0,none⟩else(⟨w.heap.size+1,0,none⟩:Addr).add 0)=⟨w.heap.size+1,0,none⟩:=by split<;>rfl
 obtain⟨aq,W⟩:=OY (P:=P) am ap n;have ar:∀(vs:aY Zp)c,(∀v∈vs,∃k,v=.int c k)->∀v∈vs,v.oneCell'=true:=λvs c h v hv=>by obtain⟨k,rfl⟩:=h v hv;rfl
 obtain⟨X,ae,au⟩:=ot (o:=0) ((l.take n).map (Value.int .i64)) 0 C z.cells aF (ar _ .i64 (by intro v hv;obtain⟨k,_,rfl⟩:=mem_map.1 hv;exact⟨k,rfl⟩)) (by simp[T];omega)
 generalize O:fK C (w.heap.size+1) (.cells X A)=G at ae;have aj:(copy_ #[S,S] t6 #[.slice (some ⟨w.heap.size+1,0,none⟩) n n,v]).run P C=.ok (goInt (Nat.min l.length n)) G:=by unfold copy_;simp[VE.dn hS,te.iw,aq,W];rw[<-List.map_take,ae];rfl
 have av:∀ρ:Zr->Zp,ρ (.tmp 4)=.slice (some ⟨w.heap.size+1,0,none⟩) n n->ρ (.tmp 5)=v->
  (execOp ρ ⟨some 6,.call {callee:=.builtin .copy,args:=#[.tmp 4,.tmp 5],argTypes:=#[S,S]},t6,p5,e5,none⟩).run P C=.ok (.value (goInt (Nat.min l.length n))) G:=by
  intro ρ h4 h5;simp only[execOp,Go.resolve,run_bind,run_pure,andThen_ok,invoke,builtin];have:#[Operand.tmp 4,Operand.tmp 5].map ρ=#[.slice (some ⟨w.heap.size+1,0,none⟩) n n,v]:=by simp[h4,h5]
  rw[this,aj];rfl
 have U:X.toList=(nq n l).map (Value.int .i64):=by rw[au];simp[nq,aD];omega
 have B:X.size=n:=by have:=congrArg length au;simp[T]at this;omega
 have aw:G.heap[w.heap.size+1]?=some (.cells X A):=by subst O;exact gG _ Za
 have ax:G.heap[w.heap.size]?=some (.cells z.cells A):=by subst O;rw[fh _ Za];exact aE
 have ak:(loadAt A (.pointer (some ⟨w.heap.size+1,0,none⟩))).run P G=.ok (.agg X) G:=by unfold loadAt loadVar;have:=u5 (P:=P) (o:=0) (m:=n) (qm aw) (.inl Za);have e:((X.toList.drop 0).take n).toArray=X:=(by rw[List.drop_zero,List.take_of_length_le (by simp[B])]);rw[e]at this;have ha:(isAgg A).run P G=.ok true G:=tA.Cg;simp[sureAddr,ha,tA.iw,this]
 obtain⟨Q,af,aI⟩:=ot (P:=P) (o:=0) X.toList 0 G z.cells ax (ar _ .i64 (by rw[U];intro v hv;obtain⟨k,_,rfl⟩:=mem_map.1 hv;exact⟨k,rfl⟩)) (by simp[T,B])
 have ay:Q=X:=by apply Array.toList_inj.1;rw[aI];simp[B,T]
 subst ay;generalize Y:fK G w.heap.size (.cells Q A)=J at af;have Z:(storeAt A (.pointer (some ⟨w.heap.size,0,none⟩)) (.agg Q)).run P G=.ok () J:=by unfold storeAt storeVar;simp[sureAddr,tA.iw,Value.cells,B,af]
 have aA:J.heap[w.heap.size]?=some (.cells Q A):=by subst Y;exact gG _ (by subst O;simp[rJ];omega)
 refine callsIn_of_wp_marks hf hb trivial ?_;rw[aB];have e0:[v].toArray++Array.replicate (8-[v].toArray.size) undef=#[v,undef,undef,undef,undef,undef,undef,undef]:=rfl;refine wpIn_seq (TZ rfl (xe Zc (dI (D w)) ?_))
 refine wpIn_seq (TZ rfl (xe Zc (dI (D _)) ?_))
 rw[L,ad];show Code.wpIn _ _ _ _ _ {tmps:=#[v,undef,.pointer (some ⟨w.heap.size,0,none⟩),.pointer (some ⟨w.heap.size+1,0,none⟩),undef,undef,undef,undef],defers:=[]} C;refine wpIn_seq (Wz rfl rfl rfl (xe Zc (dI (aG _)) ?_))
 rw[aH];refine xe Zc rfl ?_
 refine xe Zc (av _ rfl rfl) ?_
 refine wpIn_seq (WN rfl rfl (xe Zc (dI ak) ?_))
 show Oper.wpIn _ _ _ _ {tmps:=#[v,undef,.pointer (some ⟨w.heap.size,0,none⟩),.pointer (some ⟨w.heap.size+1,0,none⟩),.slice (some ⟨w.heap.size+1,0,none⟩) n n,v,goInt (Nat.min l.length n),.agg Q],defers:=[]} G _ _;refine TX Zc (w':=J) ?_ ?_
 .show (do storeAt A (.pointer (some ⟨w.heap.size,0,none⟩)) (.agg Q);pure Next.skip).run P G=_
  simp[Z]
 show Code.wpIn _ _ _ _ _ {tmps:=#[v,undef,.pointer (some ⟨w.heap.size,0,none⟩),.pointer (some ⟨w.heap.size+1,0,none⟩),.slice (some ⟨w.heap.size+1,0,none⟩) n n,v,goInt (Nat.min l.length n),.agg Q],defers:=[]} J;refine wpIn_ret ?_;have aJ:∀b,b<w.heap.size->G.heap[b]?=w.heap[b]?:=by intro b hb;subst O;rw[fh _ Za,ap b hb]
 have al:∀b,b<w.heap.size->J.heap[b]?=w.heap[b]?:=by intro b hb;subst Y;rw[fh _ Za,aJ b hb]
 have aK:w.heap.size<=J.heap.size:=by subst Y;subst O;simp[rJ,ao]
 have aa:J.os=w.os/\J.output=w.output/\J.tape=w.tape/\J.drawn=w.drawn:=by subst Y;subst O;exact ai
 have ab:(loadVar A ⟨w.heap.size,0,none⟩).run P J=.ok (.agg Q) J:=by unfold loadVar;have:=u5 (P:=P) (o:=0) (m:=n) (qm aA) (.inl Za);have e:((Q.toList.drop 0).take n).toArray=Q:=(by rw[List.drop_zero,List.take_of_length_le (by simp[B])]);rw[e]at this;have ha:(isAgg A).run P J=.ok true J:=tA.Cg;simp[ha,tA.iw,this]
 refine⟨.agg Q,?_,.agg Q,I,μ,rfl,.c _ _ (.agg _ _ ?_ ?_),s.kept al,Step.kept al aK aa.1 ⟨aa.2.1,aa.2.2.1,by rw[aa.2.2.2];exact le_refl _⟩ ?_⟩
 .simp[results,hr,asAddr,ab]
 .have:=congrArg length U;simpa[xO]using this.symm
 .intro j x y hx hy;have h1:Q.toList[j]?=some y:=by simpa using hy
  rw[U]at h1;simp only[xO,getElem?_map]at hx h1
  cases hp:(nq n l)[j]?with
  |none=>rw[hp]at hx;cases hx|some k=>rw[hp]at hx h1;cases hx;cases h1;exact .int _ _
 intro a ha h;unfold World.frozen? at h⊢;rw[al _ ha];exact h
end
end Go.VE
namespace Go.VE
variable[bT]
variable{P:Program}
def Gl(a:Zx)(j:Nat):(ic a)[j]?=(a[j]?).map (Value.int .i64):=by simp[ic]
def E8{i:Zm}{a b:Zx}{n:Nat}(J:a.length=n)(O:b.length=n)(G:tn P i=some ⟨1,8,[.int .i64 0],.int .i64⟩)(B:P.underlying i=some (.int .i64))(d:Nat)(w:World):
 ∀(m k:Nat),k+m=n->(eqItems (d+1) i 1 (ic a) (ic b) (range' k m)).run P w=.ok (a.drop k==b.drop k) w
 |0,k,h=>by have c:a.drop k=[]:=List.drop_eq_nil_of_le Za;have I:b.drop k=[]:=List.drop_eq_nil_of_le Za;simp[eqItems,c,I]|m+1,k,h=>by have u:k<a.length:=Za;have z:k<b.length:=Za;have pa:(part i (ic a) (k*1)).run P w=.ok (.int .i64 a[k]) w:=qX G (by rw[Gl,mul_one];simp[u]);have L:(part i (ic b) (k*1)).run P w=.ok (.int .i64 b[k]) w:=qX G (by rw[Gl,mul_one];simp[z]);have q:(equalIn (d+1) i (.int .i64 a[k]) (.int .i64 b[k])).run P w=.ok (a[k]==b[k]) w:=AW d _ _ B;have Q:=E8 J O G B d w m (k+1) Za;have C:=List.drop_eq_getElem_cons u;have D:=List.drop_eq_getElem_cons z;simp only[List.range'_succ,eqItems,run_bind,pa,L,q,andThen_ok];by_cases e:a[k]=b[k];rw[C,D,List.cons_beq_cons,e];simp only[beq_self_eq_true,Bool.not_true,Bool.true_and,if_false,Bool.false_eq_true];exact Q;have:(a[k]==b[k])=false:=(by simpa using e);rw[C,D,List.cons_beq_cons,this];simp only[Bool.not_false,if_true,Bool.false_and,run_pure]
def HP{i:Zm}{a:Zx}{n:Nat}(e:Zl)(O:a.length=n)(G:tn P i=some ⟨1,8,[.int .i64 0],.int .i64⟩)(B:P.underlying i=some (.int .i64))(d:Nat)(w:World):
 ∀(m k:Nat),k+m=n->(forIn (range' k m) PUnit.unit (λj(_:PUnit)=>do
  let s<-sizeOf i
  let v<-part i (ic a) (j*s)
  checkKey e (d+1) i v
  pure (ForInStep.yield PUnit.unit)):Sem PUnit).run P w=.ok PUnit.unit w
 |0,k,h=>Zc|m+1,k,h=>by have J:k<a.length:=Za;have pa:(part i (ic a) (k*1)).run P w=.ok (.int .i64 a[k]) w:=qX G (by rw[Gl,mul_one];simp[J]);have z:(sizeOf i).run P w=.ok 1 w:=(oh.CL G).iw;have q:(checkKey e (d+1) i (.int .i64 a[k])).run P w=.ok () w:=Aa d e _ B;have u:=HP e O G B d w m (k+1) Za;simp only[List.range'_succ,List.forIn_cons,run_bind,z,pa,q,andThen_ok,run_pure]at u⊢;exact u
def s9.arr{t i:Zm}{n:Nat}(c:P.underlying t=some (.array n i))(O:tn P i=some ⟨1,8,[.int .i64 0],.int .i64⟩)(J:P.underlying i=some (.int .i64))(U:P.eqGuardType P.depth t=false):s9 P t n:=by
 have⟨S,z,B,Q,_⟩:=(oh.CL O).info;have C:P.cellsOf i=1:=by unfold Program.cellsOf;simp[B,Q]
 have D:∀(w:World)(a b:Zx),a.length=n->b.length=n->(equal t (.agg (ic a)) (.agg (ic b))).run P w=.ok (a==b) w:=by intro w a b G I;show(equalIn (9999+1) t _ _).run P w=_;rw[run_equalIn_array w 9999 _ _ c B,C,List.range_eq_range'];simpa using E8 G I O J 9998 w n 0 Za
 have L:∀(op:BinOp)(p q:Zr)(w:World)(u v:Array Zp),(eqGuard op t p q (.agg u) (.agg v)).run P w=.ok () w:=by intro op p q w u v;unfold eqGuard;cases op<;>simp[run_bind,run_program,andThen,U]
 refine⟨?_,?_,D,?_,⟨_,c,.inl ⟨_,_,rfl⟩⟩⟩;intro w p q a b G I;rw[run_bind,L,andThen_ok];show(do pure (Value.bool (<-equal t (.agg (ic a)) (.agg (ic b)))):Sem Zp).run P w=_;rw[run_bind,D _ _ _ G I];rfl;intro w p q a b G I;rw[run_bind,L,andThen_ok];show(do pure (Value.bool (!(<-equal t (.agg (ic a)) (.agg (ic b))))):Sem Zp).run P w=_;rw[run_bind,D _ _ _ G I];rfl;intro w e a G;show(checkKey e (9999+1) t _).run P w=_;unfold checkKey;simp only[run_bind,dn c,andThen_ok];have:=HP e G O J 9998 w n 0 Za;simp only[Std.Legacy.Range.forIn_eq_forIn_range',Std.Legacy.Range.size,Nat.sub_zero,Nat.add_one_sub_one,Nat.div_one];rw[show(9998+1:Nat)=9999 from rfl]at this;rw[this];rfl
end Go.VE
namespace Go.VE
variable[bT]
structure CR(E:Env)(c c':dg):Prop where
 lv:c.lv<=c'.lv
 L0:∀f args H y,E.keep f=false->bW c f args H=some y->bW c' f args H=some y
 dir:∀f args H r,E.keep f=true->c (.fn f) args H=some r->c' (.fn f) args H=some r
 yld:∀id args H r,c (.yld id) args H=some r->c' (.yld id) args H=some r
 rng:∀f args H r,H≠[]->c (.fn f) args H=some r->c' (.fn f) args H=some r
section
variable{E:Env}{c c':dg}{n:Nat}{ops:Zz}{F F':Zo}{H H':bl}
def IG(h:CR E c c'){f:Zk}{args:Zu}{r:V×bl}(a:E.keep f=true)(B:j_ c f args H=some r):j_ c' f args H=some r:=Ck h.lv (λ_ _ _=>h.dir _ _ _ _ a) B
def Bc(h:CR E c c'){f:Zk}{args:Zu}{r:V×bl}(a:E.keep f=true)(B:fc E c f args H=some r):fc E c' f args H=some r:=by
 unfold fc at B⊢;split;next u=>rw[if_pos u]at B;exact IG h a B
 rename_i u;rw[if_neg u]at B;exact h.dir _ _ _ _ a B
def A6{place:aZ (Nat×Nat)}{f:Zk}(h:kG E ops place f=true):E.keep f=true:=by unfold kG at h;grind
def CR.any(h:CR E c c'){f:Zk}{args:Zu}{H:bl}{y:V}(B:bW c f args H=some y):bW c' f args H=some y:=by cases a:E.keep f with|false=>exact h.L0 _ _ _ _ a B|true=>exact C1 h.lv (λ_ _ _=>h.dir _ _ _ _ a) B
def N2(h:CR E c c'){place:aZ (Nat×Nat)}{op:Op}{r:V×bl}(B:cK E c ops place F H op=some r):cK E c' ops place F H op=some r:=by
 unfold cK at B⊢;split at B;omega;omega;omega;omega;split at B
 .rename_i f args D;split at B;rotate_left;cases B;rename_i C;rw[if_pos C];unfold dY at B⊢;split at B;rename_i a;rw[if_pos a];split at B;exact Bc h (A6 a) B;split at B;(next z=>rw[if_pos z];exact Bc h (A6 a) B);grind;rename_i a;rw[if_neg a];split at B;split at B;(next y u=>rw[h.any u,mG h.lv u];exact B);grind;rename_i b i;split at B;(next y u=>rw[h.any u,mG h.lv u];exact B);rename_i w;split at B;rename_i z;split at B;rename_i y u;(cases G:bW c' f args (take b H)with|some I=>exact(zP h.lv w u G).elim|none=>simp only[if_pos z,h.any u,mG h.lv u];exact B);grind;grind
 split at B;exact h.yld _ _ _ _ B;split at B;next z=>rw[if_pos z];exact h.yld _ _ _ _ B
 grind;grind
def ET(h:CR E c c'){place:aZ (Nat×Nat)}{o:Oper}{r:Zo×bl}(B:gm E c n ops place o F H=some r):gm E c' n ops place o F H=some r:=by
 unfold gm at B⊢;split at B;rename_i u;rw[if_pos u];split at B;next v H1 w=>rw[N2 h w];omega
 grind;grind
def CU(h:CR E c c'){r:Zo×bl}:∀(l:Zz){F:Zo}{H:bl},lZ E c n ops l F H=some r->lZ E c' n ops l F H=some r
 |[],_,_,B=>B|o::l,F,H,B=>by simp[lZ]at B⊢;split at B;(next F1 H1 G=>rw[ET h G];exact CU h l B);grind
def CF(h:CR E c c'){base:Nat}{r:Zo×bl}:∀(l:Zv){F:Zo}{H:bl},jJ E c n ops base l F H=some r->jJ E c' n ops base l F H=some r
 |[],_,_,B=>B|i::l,F,H,B=>by simp[jJ]at B⊢;split at B;split at B;(next F1 H1 G=>rw[ET h G];exact CF h l B);grind;grind
def Fk(h:CR E c c'){B:Zl}{r:Zo×bl}(G:js E c n ops B F H=some r):js E c' n ops B F H=some r:=by
 unfold js at G⊢;split;rename_i u;rw[if_pos u]at G;split at G;next w=>rw[if_pos w];exact CF h _ G
 grind;rename_i u;rw[if_neg u]at G;exact CU h _ G
def Bu(h:CR E c c'){lf B:Nat}(J:lf<=B)(ro:Zl)(d:Nat):∀(code:Code){F:Zo}{H:bl}{r:Out×Zo×bl},exec E c lf ro d code F H=some r->exec E c' B ro d code F H=some r:=by intro code;induction code with|skip=>intro F H r u;exact u|label l=>intro F H r u;exact u|region id ops D=>intro F H r u;simp only[exec,ζf]at u⊢;obtain⟨x,I,rfl⟩:=u;exact⟨x,Fk h I,rfl⟩|seq a b z C=>intro F H r u;simp[exec]at u⊢;grind|cond x a b z C=>intro F H r u;simp[exec]at u⊢;grind|block id a G=>intro F H r u;simp[exec]at u⊢;grind|loop a G=>intro F H r u;exact x_ (λF H r e=>G e) lf B J u|rangeFunc g ps O Q _ _=>intro F H r u;simp[exec]at u⊢;split at u;split at u;(next L H1 hc=>rw[h.rng _ _ _ _ Zc hc];omega);grind;grind|exit id=>intro F H r u;exact u|ret=>intro F H r u;exact u|scope a _=>intro F H r u;simp[exec]at u|goto l=>intro F H r u;simp[exec]at u|refuse w=>intro F H r u;simp[exec]at u
def zV(h:CR E c c'){n m:Nat}(G:n<=m){x:Callee}{a:Zu}{r:V×bl}(B:jD E c n x a H=some r):jD E c' m x a H=some r:=by cases x with|fn f=>rw[jD]at B⊢;split at B;split at B;rename_i I;split at B;simp_all;rename_i o F1 H1 J L;rw[Bu h G _ _ _ L];grind;grind;grind;split at B;(next O=>rw[if_pos O];exact C2 h.lv (λg args y b Q=>h.L0 _ _ _ _ b Q) B);grind|yld id=>rw[jD]at B⊢;split at B;split at B;split at B;rename_i u;split at B;rename_i S H2 z;split at B;rename_i r2 C;split at B;rename_i w;split at B;(next o T U D=>simp only[if_pos u,Bu h G _ _ _ z,C,w,Bu h G _ _ _ D];omega);grind;grind;grind;grind;grind;grind;grind
mutual
def V.same:Nat->V->V->Zl
 |0,_,_=>false|_+1,.bool a,.bool b=>a==b|_+1,.int k a,.int l b=>decide (k=l)&&decide (a=b)|_+1,.str a,.str b=>decide (a.data.toList=b.data.toList)|_+1,.bG,.bG=>true|_+1,.dw,.dw=>true|_+1,.gW,.gW=>true|_+1,.fV,.fV=>true|_+1,.rB,.rB=>true|n+1,.agg a,.agg b=>V.o5 n a b|n+1,.tup a,.tup b=>V.o5 n a b|n+1,.fptr a,.fptr b=>V.o5 n a b|n+1,.fsl e a,.fsl B b=>beq e B&&V.zu n a b|n+1,.clo f a b,.clo G a' J=>beq f G&&V.o5 n a a'&&V.o5 n b J|_+1,_,_=>false
def V.o5:Nat->Zu->Zu->Zl
 |0,_,_=>false|_+1,[],[]=>true|n+1,a::r,b::s=>V.same n a b&&V.o5 n r s|_+1,_,_=>false
def V.zu:Nat->Zt->Zt->Zl
 |0,_,_=>false|_+1,[],[]=>true|n+1,a::r,b::s=>V.o5 n a b&&V.zu n r s|_+1,_,_=>false
end
def SE:∀n,(∀a b,V.same n a b=true->a=b)/\(∀a b,V.o5 n a b=true->a=b)/\(∀a b,V.zu n a b=true->a=b):=by
 intro n
 induction n with
 |zero=>exact⟨λa b h=>by simp[V.same]at h,λa b h=>by simp[V.o5]at h,λa b h=>by simp[V.zu]at h⟩|succ n u=>
  have⟨i1,i2,i3⟩:=u;refine⟨λa b h=>?_,λa b h=>?_,λa b h=>?_⟩
  .cases a<;>cases b<;>simp only[V.same,ζh,decide_eq_true_eq,Bool.false_eq_true]at h<;>first|rfl|grind|skip
   all_goals first
    |grind|grind|grind|(rw[Nat.eq_of_beq_eq_true h.1,i3 _ _ h.2])|(rw[Nat.eq_of_beq_eq_true h.1.1,i2 _ _ h.1.2,i2 _ _ h.2])|(congr 1;exact ByteArray.ext (Array.ext' h))
  .cases a<;>cases b<;>simp[V.o5]at h<;>first|rfl|grind|grind
  cases a<;>cases b<;>simp[V.zu]at h<;>first|rfl|grind|grind
structure gZ where
 f:FuncId
 az:List V
 y:V
def yg:aY gZ->Zk->Zu->aZ V
 |[],_,_=>none|k::r,f,az=>bif beq k.f f&&V.o5 1000 k.az az then some k.y else yg r f az
def BM:∀{l:aY gZ}{f:Zk}{az:Zu}{y:V},yg l f az=some y->∃k∈l,k.f=f/\k.az=az/\k.y=y
 |[],_,_,_,h=>by simp[yg]at h|k::r,f,az,y,h=>by unfold yg at h;cases B:beq k.f f&&V.o5 1000 k.az az with|true=>simp only[ζh]at B;exact⟨k,mem_cons_self ..,Nat.eq_of_beq_eq_true B.1,(SE 1000).2.1 _ _ B.2,Zd⟩|false=>rw[B]at h;have⟨q,a,G⟩:=BM h;grind
def FG(E:Env)(l:aY gZ)(c:dg)(n:Nat):Callee->Zu->bl->aZ (V×bl)
 |.fn f,az,[]=>match yg l f az with
  |some y=>some (y,[])|none=>jD E c n (.fn f) az []
 |x,az,H=>jD E c n x az H
def runM(E:Env)(l:aY gZ):Nat->dg
 |0=>⟨0,λ_ _ _=>none⟩|n+1=>⟨n+1,FG E l (runM E l n) n⟩
def RW(E:Env)(l:aY gZ):∀n,(runM E l n).lv=n
 |0=>rfl|_+1=>rfl
def M5{l:aY gZ}{n:Nat}{x:Callee}{a:Zu}{H:bl}:runM E l (n+1) x a H=FG E l (runM E l n) n x a H:=rfl
def vf(E:Env)(n:Nat)(k:gZ):Prop:=∃r H1,run E n (.fn k.f) k.az []=some (r,H1)/\borrow n H1 r=some k.y
structure kg(E:Env)(k:gZ):Prop where
 keep:E.keep k.f=false
 cl:k.y.closed=true
 at_:∃n,vf E n k
def vf.le{n m:Nat}{k:gZ}(h:vf E n k)(B:n<=m):vf E m k:=by have⟨r,H1,a,u⟩:=h;exact⟨r,H1,(nC E B).go _ _ _ _ a,rF B u⟩
def yO:∀{l:aY gZ},(∀k∈l,kg E k)->∃N,∀k∈l,vf E N k
 |[],_=>⟨0,Zc⟩|k::r,h=>by have⟨N,B⟩:=yO (λq a=>h q (mem_cons_of_mem _ a));have⟨n,u⟩:=(h k (mem_cons_self ..)).at_;refine⟨max N n,λq a=>?_⟩;rcases mem_cons.1 a with rfl|a;exact u.le (Nat.le_max_right ..);exact(B q a).le (Nat.le_max_left ..)
def z8{l:aY gZ}{x:Callee}{az:Zu}(h:H≠[]\/(∃id,x=.yld id)\/∃f,x=.fn f/\yg l f az=none):runM E l (n+1) x az H=jD E (runM E l n) n x az H:=by
 rcases h with h|⟨id,rfl⟩|⟨f,rfl,h⟩;cases x with|yld id=>rfl|fn f=>cases H with|nil=>exact absurd rfl h|cons a r=>rfl
 rfl;cases H with|nil=>rw[M5,FG,h]|cons a r=>rfl
def Jt{l:aY gZ}{N:Nat}(G:∀k∈l,kg E k)(J:∀k∈l,vf E N k):∀n,CR E (runM E l n) (run E (N+n)):=by intro n;induction n with|zero=>refine⟨Nat.zero_le _,λf args H y _ h=>?_,λf args H r _ h=>(by cases h),λid args H r h=>(by cases h),λf args H r _ h=>(by cases h)⟩;unfold bW at h;split at h;cases h;cases h|succ n D=>have up:∀{x:Callee}{az:Zu}{H:bl}{r:V×bl},jD E (runM E l n) n x az H=some r->run E (N+(n+1)) x az H=some r:=λh=>(by rw[show N+(n+1)=(N+n)+1 from rfl,FH];exact zV D (le_add_left ..) h);have w:(runM E l (n+1)).lv<=(run E (N+(n+1))).lv:=(by rw[RW,nE];exact le_add_left ..);refine⟨w,λf args H y a h=>?_,λf args H r a h=>?_,λid args H r h=>?_,λf args H r B h=>?_⟩;unfold bW at h⊢;split at h;rename_i az b;rw[sE w b];split at h;rename_i r H1 hc;(cases z:yg l f az with|none=>rw[z8 (.inr (.inr ⟨f,rfl,z⟩))]at hc;simp only;rw[up hc];split at h;(next Q I=>simp only;rw[rF w I];exact h);cases h|some S=>rw[M5,FG,z]at hc;obtain⟨rfl,rfl⟩:=hc;obtain⟨k,u,rfl,rfl,rfl⟩:=BM z;have ok:=G k u;have⟨r1,H2,c,L⟩:=(J k u).le (Nat.le_add_right N (n+1));rw[jb _ _ ok.cl]at h;simp only[c,nE,L];exact h);cases h;cases h;by_cases z:H≠[]\/(∃id,(Callee.fn f)=.yld id)\/∃C,Callee.fn f=.fn C/\yg l C args=none;rw[z8 z]at h;exact up h;(cases O:yg l f args with|none=>grind|some y=>obtain⟨k,u,rfl,_,_⟩:=BM O;rw[(G k u).keep]at a;cases a);exact up h;rw[z8 (.inl B)]at h;exact up h
def TY(E:Env)(l:aY gZ)(n:Nat)(k:gZ):aZ V:=
 match jD E (runM E l n) n (.fn k.f) k.az []with
 |some (r,H1)=>borrow n H1 r|none=>none
def mW{l:aY gZ}(B:∀k∈l,kg E k){k:gZ}(h:(TY E l n k,k.y.closed,E.keep k.f)=(some k.y,true,false)):kg E k:=by simp at h;have⟨N,u⟩:=yO B;refine⟨h.2.2,h.2.1,N+n+1,?_⟩;have a:=h.1;unfold TY at a;split at a;rename_i r H1 w;refine⟨r,H1,?_,rF Za a⟩;exact zV (Jt B u n) (le_add_left ..) w;grind
def Qw(E:Env)(l:aY gZ)(n:Nat)(f:Zk)(az:Zu):Zl:=
 match jD E (runM E l n) n (.fn f) az []with
 |some (.bool b,_)=>b|_=>false
def JV{l:aY gZ}(B:∀k∈l,kg E k){f:Zk}{az:Zu}(h:Qw E l n f az=true):∃n H1,run E n (.fn f) az []=some (.bool true,H1):=by
 have⟨N,u⟩:=yO B;unfold Qw at h;split at h;next b H1 w=>subst h;exact⟨N+n+1,H1,(zV (Jt B u n) (le_add_left ..) w)⟩
 simp_all
end
end Go.VE
