/-
 The engine: runs of it are runs of the program.
-/
import Derived.Shelf.SlSortCmp.NoneTotal
import Derived.Laws.StructEq
import Derived.ChangeKeysEq
import Derived.Test.YtimppgndlmehbaaGreatV1
set_option linter.all false
namespace Go.VE
variable [bX]
section
variable {P:Program} {E:Env} {I I':b_} {μ μ':Mu} {H H':bl} {n B:Nat} {F F':Frame} {a:Act} {w w':World}
theorem Ah (s:cM I μ H w) {id:Nat} {r:vk} (h:H[id]? = some (.loop r)):∃p l,μ id=some p/\I p.b=none/\w.heap[p.b]? = some (.loop l)/\vi I μ r l:=s.obs id _ h
theorem FE {p:Option Out} (B:p≠some .norm):(p.bind kU=none->p.getD .norm=.norm)/\(∀c,p.bind kU=some c->(c=.ret/\p.getD .norm=.ret)\/∃id,c=.exit id/\p.getD .norm=.exit id):=by
 cases p with
 | none=>grind
 | some o=>
  cases o with
  | norm=>grind
  | ret=>exact⟨by simp[kU],by simp[kU]⟩
  | exit id=>exact⟨by simp[kU],by simp[kU]⟩
theorem HR {call:dn} (hc:kG P call) {g:Operand} {ps:Array Tmp} {assign body:Code} {o:Out} {lf:Nat}
 (h:exec E call lf false n (.rangeFunc g ps assign body) F H=some (o,F',H')) (r:ei I μ n F a.tmps) (s:cM I μ H w) (m:jw B a.defers w) (hB:B<=w.heap.size) :
 (Code.rangeFunc g ps assign body).wpIn (fr none) 0 P (Post B n I μ H w o F' H') a w:=by
 cases hg:ev F g with
 | none=>simp[exec,hg]at h
 | some gv=>
 cases gv with
 | clo f x y=>
  simp[exec,hg]at h;split at h
  .rename_i am H2 J;split at h
   .rename_i r2 C;have W:r2.st≠.busy/\r2.pend.getD .norm=o/\F=F'/\H2.set H.length .dead=H':=by
     grind
    obtain⟨W,rfl,rfl,rfl⟩:=W;obtain⟨u,v,eg,hu,hv⟩:=(dg r hg).kP;refine wpIn_rangeFunc λz _=>?_
    have X:∀b,b<w.heap.size->(w.alloc (.deferred (some []))).heap[b]? = w.heap[b]? := λb hb=>js _ b hb
    have s1  := s.kept X;have ad:Step I μ H w I μ H (w.alloc (.deferred (some []))):=Step.kept X (by simp) rfl ⟨rfl,rfl,Nat.le_refl _⟩ (λa _=>Lg (qV rfl) a)
    have ae:vi I μ ⟨.ready,none,F,n,ps.toList,assign,body⟩ { state:=.ready,pending:=none,fn:=z,tmps:=a.tmps,params:=ps,assign,body,defers:=w.heap.size }:=
     ⟨trivial,rfl,by simp,r,rfl,rfl,rfl⟩
    obtain⟨s2,st2⟩:=s1.push (ob:=.loop ⟨.ready,none,F,n,ps.toList,assign,body⟩)
     (o:=.loop { state:=.ready,pending:=none,fn:=z,tmps:=a.tmps,params:=ps,assign,body,defers:=w.heap.size }) (p:=⟨w.heap.size+1,0,0,0⟩) (by simp)
     ⟨_,_,Mu.gf _ _ _,by have:=s1.yE;simp_all,by have:=kF (w:=w.alloc (.deferred (some []))) (.loop { state:=.ready,pending:=none,fn:=z,tmps:=a.tmps,params:=ps,assign,body,defers:=w.heap.size });simp_all,
      ae.mono (b_.le_refl _) (Mu.qq (s1.dom _ (Nat.le_refl _)))⟩
    have L :=
     (hu.mono (b_.le_refl _) st2.mu).append (.cons (.yld H.length ⟨w.heap.size+1,0,0,0⟩ (Mu.gf _ _ _)) (hv.mono (b_.le_refl _) st2.mu))
    obtain⟨hf,D⟩:=hc.fn f _ _ _ _ J;refine⟨w.heap.size+1,[{ target:=.collected w.heap.size,args:=#[] }],((w.alloc (.deferred (some []))).alloc (.loop { state:=.ready,pending:=none,fn:=z,tmps:=a.tmps,params:=ps,assign,body,defers:=w.heap.size })),{ target:=.fn (.func f) v,args:=u++#[.func (.yield (w.heap.size+1)) #[] #[]] },((w.alloc (.deferred (some []))).alloc (.loop { state:=.ready,pending:=none,fn:=z,tmps:=a.tmps,params:=ps,assign,body,defers:=w.heap.size })),f,u++#[.func (.yield (w.heap.size+1)) #[] #[]]++v,((w.alloc (.deferred (some []))).alloc (.loop { state:=.ready,pending:=none,fn:=z,tmps:=a.tmps,params:=ps,assign,body,defers:=w.heap.size })),
     run_enterLoop_outer z a.tmps ps assign body,?_,λ_ _=>trivial,?_,λh=>by simp[fr]at h,?_⟩
    .simp[resolve];rw[eg];simp[Deferred.ofValue,Act.eval]
    .exact xe hf _
    .have Y:=D _ _ _ _ s2 L;have O:(u.toList++.func (.yield (w.heap.size+1)) #[] #[]::v.toList).toArray=u++#[.func (.yield (w.heap.size+1)) #[] #[]]++v:=by grind
     rw[O]at Y;refine Y.mono ?_;rintro e Z ⟨al,I3,μ3,rfl,_,s3,Q⟩;obtain⟨p,l,g1,g2,g3,g4⟩:=Ah s3 C;have hp:p=⟨w.heap.size+1,0,0,0⟩:=by
      have:=Q.mu _ _ (Mu.gf μ H.length ⟨w.heap.size+1,0,0,0⟩)
      grind
     subst hp;have G:l.state≠.busy:=by
      intro he;have:=g4.st;rw[he]at this;cases af:r2.st <;> rw[af]at this <;> simp[AS.is]at this
      grind
     refine⟨l.pending,_,run_endLoop g3 G,?_⟩;obtain⟨s4,ah⟩:=s3.kill C;have S:¬iq μ3 (H2.set H.length .dead) (w.heap.size+1):=by
      rintro⟨id,q,ob,h1,h2,T,h4⟩
      by_cases e:id=H.length
      .subst e;rw[List.getElem?_set_self (ζe.1 C).1]at h1;cases h1;simp[Ob.live]at h2
      .rw[List.getElem?_set_ne (Ne.symm e)]at h1;exact e (s3.inj id H.length ob _ q _ h1 C h2 rfl T g1 h4)
     have s5:cM I3 μ3 (H2.set H.length .dead) (fF Z (w.heap.size+1) (.loop { l with state:=.exhausted })):=s4.Ap _ g2 S;have st  := Step.trans s1 ad (Step.trans s2 st2 (Step.trans s3 Q ah));have ai:Step I μ H w I3 μ3 (H2.set H.length .dead) (fF Z (w.heap.size+1) (.loop { l with state:=.exhausted })):=st.after _ (by omega)
     have m2:jw B ({ target:=.collected w.heap.size,args:=#[] }::a.defers) ((w.alloc (.deferred (some []))).alloc (.loop { state:=.ready,pending:=none,fn:=z,tmps:=a.tmps,params:=ps,assign,body,defers:=w.heap.size })):=by
      refine⟨?_,?_⟩
      .intro d hd;rcases List.mem_cons.1 hd with rfl|hd
       .refine⟨w.heap.size,rfl,hB,?_⟩;rw[js _ _ (by simp)];exact kF _
       .obtain⟨q,h1,h2,T⟩:=m.all d hd;have U:=(Array.getElem?_eq_some_iff.1 T).1;refine⟨q,h1,h2,?_⟩;rw[js _ _ (by simp;omega),js _ _ U];exact T
      .refine List.Pairwise.cons ?_ m.apart;intro d hd q U aa;obtain⟨q2,h1,h2,T⟩:=m.all d hd;have:=(Array.getElem?_eq_some_iff.1 T).1;cases U;rw[h1]at aa;cases aa;omega
     have m3:=m2.step s2 Q;have m5:jw B ({ target:=.collected w.heap.size,args:=#[] }::a.defers) (fF Z (w.heap.size+1) (.loop { l with state:=.exhausted })):=
      m3.Ap (λq U e=>by subst e;rw[g3]at U;cases U)
     have aj  := st.le;have ak  := st.mu;have t:∀A:Out,r2.pend.getD .norm=A->Post B n I μ H w A F (H2.set H.length .dead) A.FZ { a with defers:=[{ target:=.collected w.heap.size,args:=#[] }]++a.defers } (fF Z (w.heap.size+1) (.loop { l with state:=.exhausted })):=
      λA _=>⟨rfl,⟨I3,μ3,r.mono aj ak,s5,ai⟩,m5⟩
     obtain⟨W5,ab⟩:∃W5,Z.putObj (w.heap.size+1) (.loop { l with state:=.exhausted })=W5:=⟨_,rfl⟩;have t:∀A:Out,r2.pend.getD .norm=A->Post B n I μ H w A F (H2.set H.length .dead) A.FZ { a with defers:=[{ target:=.collected w.heap.size,args:=#[] }]++a.defers } W5:=by
      intro A ho;rw[<-ab];exact t A ho
     rw[ab];obtain⟨k1,k2⟩:=FE g4.pendOk;rw[g4.pend]
     cases hj:r2.pend.bind kU with
     | none=>rw[k1 hj];exact t .norm (k1 hj)
     | some c=>
      rcases k2 c hj with⟨rfl,e⟩|⟨id,rfl,e⟩
      .rw[e];exact wpIn_ret (t .ret e)
      .rw[e];exact wpIn_exit (t (.exit id) e)
   grind
  grind
 | _=>simp[exec,hg]at h
theorem xP (Y:eH P E) (hm:P.follows .mixedOrders=true) {call:dn} (hc:kG P call) (lf:Nat) (ro:Option Nat) (U:Bool) (aa:U=ro.isSome) (n:Nat) :
 ∀(c:Code) (I:b_) (μ:Mu) (F:Frame) (H:bl) (a:Act) (w:World) (o:Out) (F':Frame) (H':bl),exec E call lf U n c F H=some (o,F',H')->ei I μ n F a.tmps->cM I μ H w ->
  jw B a.defers w->B<=w.heap.size->c.wpIn (fr ro) 0 P (Post B n I μ H w o F' H') a w:=by
 intro c
 induction c with
 | skip=>
  intro I μ F H a w o F' H' h r s m _;obtain⟨rfl,rfl,rfl⟩:=h;exact wpIn_skip ⟨rfl,⟨I,μ,r,s,.refl _ _ _ _⟩,m⟩
 | label l=>
  intro I μ F H a w o F' H' h r s m _;obtain⟨rfl,rfl,rfl⟩:=h;exact wpIn_label ⟨rfl,⟨I,μ,r,s,.refl _ _ _ _⟩,m⟩
 | region id ops W=>
  intro I μ F H a w o F' H' h r s m _;simp only[exec,ζf]at h;obtain⟨⟨F2,H2⟩,h,rfl,rfl,rfl⟩:=h;refine FM Y hm hc ro h r s (λa' I' μ' w' h1 u z X=>⟨rfl,⟨I',μ',h1,z,X⟩,?_⟩)
  rw[u];exact m.step s X
 | seq x y A C=>
  intro I μ F H a w o F' H' h r s m q;simp[exec]at h;refine wpIn_seq ?_;split at h
  .rename_i F1 H1 h1;refine wpIn_mono (A I μ F H a w _ F1 H1 h1 r s m q) ?_;rintro e D G ⟨rfl,⟨I1,Z,r1,s1,J⟩,m1⟩;refine wpIn_mono (C I1 Z F1 H1 D G o F' H' h r1 s1 m1 (Nat.le_trans q J.size)) ?_;intro e a2 w2 hp;exact Post.mono s1 J hp
  .refine wpIn_mono (A I μ F H a w o F' H' h r s m q) ?_;rintro e D G ⟨rfl,u,z⟩
   cases o with
   | norm=>grind
   | exit id=>exact⟨rfl,u,z⟩
   | ret=>exact⟨rfl,u,z⟩
 | cond c x y A C=>
  intro I μ F H a w o F' H' h r s m q;simp[exec]at h;split at h
  .rename_i t Q;have S:=(dg r Q).qY;refine wpIn_cond S ?_
   grind
  grind
 | block id c O=>
  intro I μ F H a w o F' H' h r s m q;simp[exec]at h;refine wpIn_block ?_;split at h
  .rename_i L F1 H1 h1;refine wpIn_mono (O I μ F H a w _ F1 H1 h1 r s m q) ?_;rintro e D G ⟨rfl,u,z⟩;show Exit.inBlock id _ (.exit L) D G;unfold Exit.inBlock;split at h
   .rename_i T;obtain⟨rfl,rfl,rfl⟩:=h;simp[T];exact⟨rfl,u,z⟩
   .rename_i T;obtain⟨rfl,rfl,rfl⟩:=h;simp[T];exact⟨rfl,u,z⟩
  .refine wpIn_mono (O I μ F H a w o F' H' h r s m q) ?_;rintro e D G ⟨rfl,u,z⟩
   cases o with
   | norm=>exact⟨rfl,u,z⟩
   | exit L=>grind
   | ret=>exact⟨rfl,u,z⟩
 | loop c O=>
  intro I μ F H a w o F' H' h r s m q;exact I6 (λI μ F H a w o F' H' h r s m q=>O I μ F H a w o F' H' h r s m q) h r s m q
 | rangeFunc g ps assign body _ _=>
  intro I μ F H a w o F' H' h r s m q
  cases U with
  | true=>simp[exec]at h
  | false=>
   cases ro with
   | none=>exact HR hc h r s m q
   | some l=>simp_all
 | exit id=>
  intro I μ F H a w o F' H' h r s m _;obtain⟨rfl,rfl,rfl⟩:=h;exact wpIn_exit ⟨rfl,⟨I,μ,r,s,.refl _ _ _ _⟩,m⟩
 | ret=>
  intro I μ F H a w o F' H' h r s m _;obtain⟨rfl,rfl,rfl⟩:=h;exact wpIn_ret ⟨rfl,⟨I,μ,r,s,.refl _ _ _ _⟩,m⟩
 | scope body _=>intro I μ F H a w o F' H' h;simp[exec]at h
 | goto l=>intro I μ F H a w o F' H' h;simp[exec]at h
 | refuse ab=>intro I μ F H a w o F' H' h;simp[exec]at h
end
end Go.VE
namespace Go.VE
variable [bX]
open Go.Proofs Go.Sort
structure An (P:Program) (f:FuncId):Prop where
 ok:yh P f
 zero:∀(p:Option Addr) (cap:Nat) (fv:Value) (w:World),Calls P f #[.slice p 0 cap,fv] w λe w'=>e=.returned (.tuple #[])/\w'=w
 all:∀{α:Type} [Inhabited α] (enc:α->Value) (_:OneCell enc) (cf:α->α->Int) (_:SWO (ltOf cf)) (g:Nat) (cb:Array Value) (blk off cap:Nat) (d:Array α) (w:World)
  (_:∀args w,(callFunc g args).run P w=.ok (.enter g args) w) (_:CmpLays1 P g cb enc cf blk off d.size w) (_:Holds enc w blk off d) (_:blk<w.heap.size) (_:d.size<4611686018427387904),
  Calls P f #[.slice (some ⟨blk,off,none⟩) d.size cap,.func (.func g) #[] cb] w λe w'=>
   e=.returned (.tuple #[])/\∃n os,w'=sortWorld enc w blk off n (pdq (ltOf cf) d 0 d.size (Lib.bitLen d.size) true true) os
theorem IQ {α:Type} [Inhabited α] (lt:α->α->Bool):∀(k i:Nat) (d:Array α),FW lt k i d=insOuter lt 0 (i+k) i d
 | 0,i,d=>by rw[insOuter];simp[FW]
 | k+1,i,d=>by
  rw[insOuter,FW,IQ lt k]
  grind
theorem MR (n:Nat) (lt:Fin (n+1)->Fin (n+1)->Bool):Kg n lt=pdq lt (List.finRange (n+1)).toArray 0 (n+1) (Lib.bitLen (n+1)) true true:=by
 unfold Kg;split
 .rw[pdq,if_pos (by omega),insertionSort,IQ,Nat.add_comm 1 n]
 .rfl
theorem CK {n:Nat} {t:Fin (n+1)->Fin (n+1)->Option Int} (h:OT t=true):(∀i j,∃c,t i j=some c)/\SWO (xB t):=by
 have q:∀(p:Fin (n+1)->Bool),(List.finRange (n+1)).all p=true->∀i,p i=true:=λp h i=>List.all_eq_true.1 h i (List.mem_finRange i)
 have h1:=λi=>q _ h i
 simp only[ζh,Bool.not_eq_true']at h1;have u:=λi j=>q _ (h1 i).2 j
 simp only[ζh]at u;have w:=λi j k=>q _ (u i j).2 k
 refine⟨λi j=>Option.isSome_iff_exists.1 (u i j).1,λi=>(h1 i).1,λi j k a b=>?_,λi j k a b=>?_⟩
 .have:=w i j k;grind
 grind
section
variable {P:Program} {I I':b_} {μ μ':Mu} {H H':bl} {w w':World}
theorem Ef (w:World) (os:Array Obj) (b:Nat) (h:b<w.heap.size):(grow w os).heap[b]? = w.heap[b]? := by
 unfold grow;grind
theorem Calls.fr {f:FuncId} {args:Array Value} {R:Ending->World->Prop} (h:Calls P f args w R):CallsIn (fr none) 0 P f args w R:=callsIn_wide.2 h
theorem CallsIn.un {f:FuncId} {args:Array Value} {R:Ending->World->Prop} (h:CallsIn (fr none) 0 P f args w R):Calls P f args w R:=callsIn_wide.1 h
theorem Nq {p:Pl} {c:Array Value} {xs:List (List V)} (B:p.es=1) (D:c.size=p.sz) (hr:p.o+xs.length<=c.size)
 (h:∀(i:Nat) x,xs[i]? = some x->∃v u,x=[v]/\V.one v=true/\c[p.o+i]? = some u/\bM I μ v u):gj I μ p c 1 xs:=by
 have hu:∀x∈xs,x.length=1:=λx q=>by
  obtain⟨i,w⟩:=List.getElem?_of_mem q
  grind
 have z:xs.flatten.length=xs.length:=by rw[fK hu,Nat.mul_one]
 refine⟨B,D,hu,λx q y A=>?_,by omega,⟨?_,λj a b h1 C=>?_⟩⟩
 .obtain⟨i,w⟩:=List.getElem?_of_mem q
  grind
 .grind
 .have t:j<xs.length:=by have:=(ζe.1 h1).1;omega
  obtain⟨v,u,e,_,G,H⟩:=h j xs[j] (by simp[t])
  have:=vO  hu (i:=j) (j:=0) (x:=xs[j])  (by simp[t]) (by rw[e];rfl)
  simp_all
theorem vR {p:Pl} {c:Array Value} {xs:List (List V)} (r:gj I μ p c 1 xs) (i:Nat) {x:List V} (h:xs[i]? = some x):∃v u,x=[v]/\V.one v=true/\c[p.o+i]? = some u/\bM I μ v u:=by
 have q:=List.mem_of_getElem? h;obtain⟨v,rfl⟩:=List.length_eq_one_iff.1 (r.oW x q);have w:=(ζe.1 h).1;have t  := by have:=r.room;omega
 refine⟨v,c[p.o+i],rfl,r.one _ q v (by simp),by simp_all,?_⟩
 exact r.idx  (j:=0) h rfl (by simp_all)
theorem Rs {α:Type} [Inhabited α] (enc:α->Value) (blk o m:Nat) (B:Array α) (os:Array Obj) {b:Nat} (G:b<w.heap.size) (D:b≠blk):(sortWorld enc w blk o m B os).heap[b]? = w.heap[b]? := by
 unfold sortWorld;rw[Ef _ _ _ (by simp_all)]
 simp[putRow,mapBlock,Sort.ahead,Array.getElem?_modify,if_neg (Ne.symm D)]
theorem HB {α:Type} [Inhabited α] (enc:α->Value) {blk:Nat} (o m:Nat) (B:Array α) {c:Array Value} {el:TypeId} (h:w.heap[blk]? = some (.cells c el)) :
 putRow enc (Sort.ahead w m) blk o B=fF (Sort.ahead w m) blk (.cells (Sort.putCells enc o B c) el):=by
 unfold putRow mapBlock fF Sort.ahead
 congr 1
 obtain⟨t,e⟩:=Array.getElem?_eq_some_iff.1 h;apply Array.ext
 .simp
 .intro i h1 u
  by_cases q:i=blk
  .subst q;simp[Array.getElem_modify,e,onCells]
  grind
theorem Step.grown (st:Step I (λ_=>none) [] w I' μ' H' w'):∃q os,w'=grow (w.drewN q) os:=by
 refine⟨w'.drawn-w.drawn,w'.heap.extract w.heap.size w'.heap.size,?_⟩;have u:w'.heap=w.heap++w'.heap.extract w.heap.size w'.heap.size:=by
  apply Array.ext_getElem?;intro i
  by_cases t:i<w.heap.size
  .rw[Array.getElem?_append_left t];exact st.frame i t (by rintro⟨id,p,ob,h,_⟩;simp at h)
  .rw[Array.getElem?_append_right (by omega)]
   simp[Array.getElem?_extract]
   by_cases B:i<w'.heap.size
   .rw[if_pos (by omega)];congr 1;omega
   .rw[if_neg (by omega),Array.getElem?_eq_none (by omega)]
 have h1:=st.os;have z:=st.out.out;have A:=st.out.tape;have C:=st.out.dr;unfold grow World.drewN;cases w';simp only at *;subst h1 z A;simp[World.mk.injEq];exact⟨u,by omega⟩
theorem Jg {call B:dn} {g:FuncId} {G D:List V} {n:Nat} (h:∀args y,cz call g args []=some y->cz B g args []=some y) {i j:Fin (n+1)} {z:Int} (J:j7 call g G D n i j=some z):j7 B g G D n i j=some z:=by
 unfold j7 at J ⊢
 grind
theorem BO {keep:FuncId->Bool} {call B:dn} (h:∀g args y,keep g=false->cz call g args []=some y->cz B g args []=some y) {args:List V} {r:V×bl} (hr:tq keep call args H=some r):tq keep B args H=some r:=by
 unfold tq at hr ⊢;split at hr
 .split at hr
  .omega
  .omega
  .split at hr
   .omega
   .split at hr
    .rename_i n g cb _ D J u;split at hr
     .rename_i q;split at hr
      .rename_i w t G A;split at hr
       .rename_i I;have e:j7 B g w t n=j7 call g w t n:=by
         funext i j
         obtain⟨z,C⟩:=(CK I).1 i j;rw[C];exact Jg (λa y=>h g a y q.2.2.2.2) C
        grind
       simp_all
      simp_all
     simp_all
    simp_all
   simp_all
  simp_all
 simp_all
set_option maxHeartbeats 1000000 in
theorem PO {call:dn} (hc:kG P call) {f:FuncId} (hs:An P f) {args:List V} {r:V} {keep:FuncId->Bool} (h:tq keep call args H=some (r,H')) (s:cM I μ H w) {vs:List Value} (hv:cB I μ args vs) :
 CallsIn (fr none) 0 P f vs.toArray w (xu I μ H w r H'):=by
 unfold tq at h;split at h
 .rename_i sv cv;obtain⟨v1,r1,rfl,aa,aB⟩:=hv.cons_inv;obtain⟨v2,r2,rfl,aC,aD⟩:=aB.cons_inv;obtain rfl:=aD.vj;have Q:∀p cap,v1=.slice p 0 cap->CallsIn (fr none) 0 P f [v1,v2].toArray w (xu I μ H w .undef H):=by
   rintro p cap rfl;refine Calls.fr ((hs.zero p cap v2 w).mono ?_);rintro e w' ⟨rfl,rfl⟩;exact⟨_,I,μ,rfl,bM.undef _ _,s,Step.refl _ _ _ _⟩
  split at h
  .cases h;exact Q none 0 aa.lS
  .cases h;obtain⟨a,e⟩:=aa.rP;exact Q a 0 e
  .rename_i id es off len;split at h
   .cases h;rcases aa.lV with⟨p,cap,_,_,_,_,e⟩|⟨_,a,e⟩
    .exact Q _ cap e
    .exact Q _ 0 e
   .rename_i n g cb;split at h
    .rename_i aR L G;split at h
     .rename_i aj;obtain⟨rfl,rfl,aP,hn,_⟩:=aj;split at h
      .rename_i X B aE ao;split at h
       .rename_i ap;cases h;obtain⟨p,c,el,hp,hI,D,O⟩:=s.obs id _ G;rcases aa.lV with⟨q,cap,hq,aS,aQ,aF,rfl⟩|⟨h0,_⟩
        .rw[hp]at hq;cases hq;obtain⟨va,vb,rfl,hva,aq⟩:=aC.kP;have ar:va=#[]:=by have:=hva.vj;simpa using this
         subst ar;have ak:=(ζe.1 G).1;obtain⟨sk,_⟩:=s.kill G;generalize hT:dx (cr 8 (H.set id .dead)) (((L.drop off).take (n+1)).flatten++cb)=T;have aG:plus I μ (H.set id .dead) w T p.b=none:=by
          cases t:plus I μ (H.set id .dead) w T p.b with
          | none=>rfl
          | some x=>
           exfalso;rcases yz (by rw[t];rfl)with h|⟨au,p',ob,_,g1,g2,g3,g4⟩
           .rw[hI]at h;cases h
           .have av:au≠id:=by
             rintro rfl;rw[List.getElem?_set_self ak]at g1;cases g1;simp[Ob.live]at g2
            rw[List.getElem?_set_ne (Ne.symm av)]at g1;exact av (s.inj au id ob (.row 1 L) p' p g1 G g2 rfl g3 hp g4)
         let enc:Fin (n+1)->Value:=λi=>(c[p.o+off*1+i.1]?).getD undef
         have Y:∀i:Fin (n+1),∃v,L[off+i.1]? = some [v]/\V.one v=true/\bM I μ v (enc i)/\c[p.o+off*1+i.1]? = some (enc i):=λi=>by
          obtain⟨v,u,e1,e2,e3,e4⟩:=vR O (off+i.1) (x:=L[off+i.1]'(by omega)) (by simp)
          have e5:c[p.o+off*1+i.1]? = some u:=by rw[<-e3];congr 1;omega
          have e6:enc i=u:=by show (c[p.o+off*1+i.1]?).getD undef=u;rw[e5];rfl
          exact⟨v,by rw[<-e1];simp,e2,by rw[e6];exact e4,by rw[e5,e6]⟩
         have h1:OneCell enc:=λi=>by obtain⟨v,_,e2,e3,_⟩:=Y i;exact e3.one e2
         obtain⟨aw,ab⟩:=CK ap;obtain⟨aT,aH⟩:=jC aE;obtain⟨aI,aJ⟩:=jC ao;have ax:∀x∈(L.drop off).take (n+1),x.length=1:=λx t=>O.oW x (List.mem_of_mem_drop (List.mem_of_mem_take t))
         have S:∀(i:Fin (n+1)) u,X[i.1]? = some u->eE (plus I μ (H.set id .dead) w T) u (enc i):=λi u hu=>by
          obtain⟨x,t,al⟩:=aH i.1 u hu;obtain⟨v,e1,_,e3,_⟩:=Y i;have e4:((L.drop off).take (n+1))[i.1]? = some [v]:=by
           rw[List.getElem?_take,if_pos i.2,List.getElem?_drop];exact e1
          have e5:=vO (es:=1) ax (i:=i.1) (j:=0) e4 rfl;have e5:((L.drop off).take (n+1)).flatten[i.1]? = some v:=by simpa using e5
          rw[e5]at t;cases t;refine(uq sk T 8 _ u _ al (λk hk=>?_) e3).1
          rw[<-hT];exact j9 (List.mem_append_left _ (List.mem_of_getElem? e5)) hk
         have Z:cB (plus I μ (H.set id .dead) w T) (λ_=>none) B vb.toList:=by
          refine⟨aI.trans aq.1,λj a b k1 k2=>?_⟩
          obtain⟨x,t,al⟩:=aJ j a k1;refine .c _ _ (uq sk T 8 x a b al (λk hk=>?_) (aq.2 j x b t k2)).1
          rw[<-hT];exact j9 (List.mem_append_right _ (List.mem_of_getElem? t)) hk
         have ad:=(Array.getElem?_eq_some_iff.1 D).1
         let d:Array (Fin (n+1)):=(List.finRange (n+1)).toArray
         have am:d.size=n+1:=by simp[d]
         have hd:∀j:Fin (n+1),d[j.1]! = j:=λj=>by simp[d,getElem!_pos]
         have hg:∀i j:Fin (n+1),∃z,j7 call g X B n i j=some z/\∃a b,X[i.1]? = some a/\X[j.1]? = some b/\cz call g (a::b::B) []=some (.int .i64 z):=λi j=>by
          obtain⟨z,hz⟩:=aw i j;have U:=hz;unfold j7 at U;split at U
          .rename_i a b ha W;split at U
           .rename_i z' A;cases U;exact⟨z,hz,a,b,ha,W,A⟩
           .cases U
          .cases U
         have aK:yh P g:=by
          obtain⟨z,_,a,b,ha,W,A⟩:=hg 0 0;have s0:cM (plus I μ (H.set id .dead) w T) (λ_=>none) [] w:=⟨λ_ _=>rfl,sS sk T,by simp,by simp,sk.gl.mono (oH _ _ _ _ _)⟩
          exact(Co hc A s0 (.cons (.c _ _ (S 0 a ha)) (.cons (.c _ _ (S 0 b W)) Z))).1
         have key:=hs.all enc h1 (λi j=>(j7 call g X B n i j).getD 0) ab g vb p.b (p.o+off*1) cap d w (λargs w=>xe aK args) (by
          intro m os C aU i j;obtain⟨z,hz,a,b,ha,W,A⟩:=hg i j;have s0:cM (plus I μ (H.set id .dead) w T) (λ_=>none) [] (sortWorld enc w p.b (p.o+off*1) m C os):=
           ⟨λ_ _=>rfl,λb x W=>IC.rG (sS sk T b x W) (Rs enc p.b _ m C os (IC.tR (sS sk T b x W)) (by rintro rfl;rw[aG]at W;cases W)),by simp,by simp,sk.gl.mono (oH _ _ _ _ _)⟩
          have:=CallsIn.un (Co hc A s0 (vs:=enc i::enc j::vb.toList) (.cons (.c _ _ (S i a ha)) (.cons (.c _ _ (S j b W)) Z))).2;rw[show (enc i::enc j::vb.toList).toArray=#[enc i,enc j]++vb by apply Array.ext';simp]at this
          refine this.mono ?_;rintro e w' ⟨u,I1,μ1,rfl,hu,s1,st⟩;exact⟨by rw[hu.fN];show _=Ending.returned (.int .i64 ((j7 call g X B n i j).getD 0));rw[hz];rfl,st.grown⟩) (by
          intro j hj;have ay:j<n+1:=by omega
          obtain⟨v,_,_,_,e4⟩:=Y ⟨j,ay⟩;rw[hd ⟨j,ay⟩];exact⟨by rw[pY D];exact e4,by simp[World.frozen?,D]⟩) ad (by omega)
         rw[am]at key;refine Calls.fr (key.mono ?_);rintro e w' ⟨rfl,m,os,rfl⟩;have aL:ltOf (λi j=>(j7 call g X B n i j).getD 0)=xB (j7 call g X B n):=rfl
         rw[aL,MR];have ae:=pdq_sorts (xB (j7 call g X B n)) ab d 0 d.size (Lib.bitLen d.size) true true (Nat.zero_le _) (Nat.le_refl _) (Or.inl rfl);rw[am]at ae;have J:=ae.1.1;change xu I μ H w .undef (H.set id (.row 1 (yo L off n (pdq (xB (j7 call g X B n)) d 0 (n+1) (Lib.bitLen (n+1)) true true).toList))) _ _;generalize pdq (xB (j7 call g X B n)) d 0 (n+1) (Lib.bitLen (n+1)) true true=C at J;rw[am]at J;unfold sortWorld;rw[HB enc _ m C D];have s1:cM I μ H (Sort.ahead w m):=s.oG rfl;have aM:Step I μ H w I μ H (Sort.ahead w m):=Step.oG rfl rfl ⟨rfl,rfl,Nat.le_add_right _ _⟩;have af:(Sort.putCells enc (p.o+off*1) C c).size=c.size:=by simp[Sort.putCells]
         have ah:∀i:Nat,(i<p.o+off*1\/p.o+off*1+(n+1)<=i)->(Sort.putCells enc (p.o+off*1) C c)[i]? = c[i]? := λi hi=>by
          simp only[Sort.putCells,Array.getElem?_mapIdx];rw[J]
          cases c[i]? with
          | none=>rfl
          | some y=>simp only[Option.map_some];rw[if_neg (by omega)]
         have an:∀i:Fin (n+1),(Sort.putCells enc (p.o+off*1) C c)[p.o+off*1+i.1]? = some (enc C[i.1]!):=λi=>by
          obtain⟨v,_,_,_,e4⟩:=Y i;simp only[Sort.putCells,Array.getElem?_mapIdx,e4,Option.map_some];rw[if_pos ⟨by omega,by rw[J];omega⟩]
          congr 3;omega
         have aA:=O.room;have aN:(yo L off n C.toList).length=L.length:=by simp[yo,J];omega
         obtain⟨s2,st2⟩:=s1.write (o:=.cells (Sort.putCells enc (p.o+off*1) C c) el) (ob':=.row 1 (yo L off n C.toList)) G rfl hp
          ⟨p,_,el,hp,hI,gn _ ad,Nq O.es_eq (by rw[af];exact O.sz) (by rw[aN,af];omega) λi x t=>by
           unfold yo at t
           by_cases c1:i<off
           .rw[List.append_assoc,List.getElem?_append_left (by simp;omega),List.getElem?_take,if_pos c1]at t
            obtain⟨v,u,e1,e2,e3,e4⟩:=vR O i t;exact⟨v,u,e1,e2,by rw[ah _ (by omega)];exact e3,e4⟩
           .by_cases c2:i<off+(n+1)
            .rw[List.getElem?_append_left (by simp[J];omega),List.getElem?_append_right (by simp;omega)]at t
             have ai:i-off<C.size:=by omega
             have e0:(L.take off).length=off:=by simp;omega
             simp only[e0,List.getElem?_map,Array.getElem?_toList]at t;rw[Array.getElem?_eq_getElem ai]at t;simp only[Option.map_some,ζa]at t;obtain⟨v,e1,e2,e3,e4⟩:=Y C[i-off];rw[e1]at t;simp only[Option.getD_some]at t;refine⟨v,enc C[i-off],t.symm,e2,?_,e3⟩;have:=an ⟨i-off,by omega⟩
             simp only[getElem!_pos C (i-off) ai]at this;rw[<-this];congr 1;omega
            .rw[List.getElem?_append_right (by simp[J];omega),List.getElem?_drop]at t
             have e0:off+(n+1)+(i-((L.take off)++C.toList.map (λi=>(L[off+i.1]?).getD [])).length)=i:=by simp[J];omega
             rw[e0]at t;obtain⟨v,u,e1,e2,e3,e4⟩:=vR O i t;exact⟨v,u,e1,e2,by rw[ah _ (by omega)];exact e3,e4⟩⟩
         have hk:∀b,b<(fF (Sort.ahead w m) p.b (.cells (Sort.putCells enc (p.o+off*1) C c) el)).heap.size->(grow (fF (Sort.ahead w m) p.b (.cells (Sort.putCells enc (p.o+off*1) C c) el)) os).heap[b]? = (fF (Sort.ahead w m) p.b (.cells (Sort.putCells enc (p.o+off*1) C c) el)).heap[b]? := λb W=>Ef _ _ _ W
         have aO:=Step.kept (I:=I) (μ:=μ) (H:=H.set id (.row 1 (yo L off n C.toList))) hk (by simp[grow]) rfl ⟨rfl,rfl,Nat.le_refl _⟩ (λa ha h=>by unfold World.frozen? at h ⊢;rw[hk _ ha];exact h)
         exact⟨_,I,μ,rfl,bM.undef _ _,s2.kept hk,Step.trans s1 aM (Step.trans s2 st2 aO)⟩
        .cases h0
       .cases h
      .cases h
     .cases h
    .cases h
   .cases h
  .cases h
 .cases h
end
def vN (P:Program) (f:FuncId) (args:List V) (y:V):Prop:=yh P f/\∀I μ H w q,cM I μ H w->cB I μ args q->CallsIn (fr none) 0 P f q.toArray w (xu I μ H w y H)
theorem Lc {P:Program} {call:dn} (hc:kG P call) {f:FuncId} {b:Bool} {H':bl} (h:call (.fn f) [] []=some (.bool b,H')):vN P f [] (.bool b):=by
 have q:∀H,cz call f [] H=some (.bool b):=by
  intro H;unfold cz;rw[show borrows 8 H []=some []from rfl];simp[h];rfl
 refine⟨?_,λI μ H w t s hv=>(Co hc (q H) s hv).2⟩
 obtain⟨h1,_⟩:=hc.fn _ _ _ _ _ h;omega
structure Tw (P:Program) (E:Env):Prop where
 sort:∀f,E.sort f=true->An P f
 known:∀f args y,E.known f args=some y->vN P f args y
end Go.VE
namespace Go.VE
variable [bX]
section
variable {P:Program} {E:Env} {I I':b_} {μ μ':Mu} {H H':bl} {n B:Nat} {F F':Frame} {a:Act} {w w':World}
theorem Ij:∀(F:Frame) (t:Nat),F.length<=t->get F t=.undef
 | [],_,_=>rfl
 | _::_,0,h=>by simp_all
 | _::r,i+1,h=>Ij r i (by grind)
theorem GB:∀(F:Frame) (t:Nat) (x:V),F[t]? = some x->get F t=x
 | [],_,_,h=>by simp_all
 | _::_,0,_,h=>by simpa [get]using h
 | _::r,i+1,x,h=>GB r i x (by grind)
theorem Jw (hg:uV I) {args:List V} {vs:List Value} {nt:Nat} (h:cB I μ args vs) (B:args.length<=nt) :
 ei I μ nt args (vs.toArray++Array.replicate (nt-vs.toArray.size) undef):=by
 have q  := h.1;refine⟨by simp_all,λt=>?_,hg⟩
 by_cases z:t<args.length
 .have h1:args[t]? = some args[t]:=by simp_all
  have u:t<vs.length:=by omega
  have w:vs[t]? = some vs[t]:=by simp_all
  rw[GB _ _ _ h1];have:(vs.toArray++Array.replicate (nt-vs.toArray.size) undef).getD t undef=vs[t]:=by
   rw[Array.getD_eq_getD_getElem?,Array.getElem?_append_left (by grind)]
   simp_all
  rw[this];exact h.2 t _ _ h1 w
 .rw[Ij _ _ (by omega)]
  have:(vs.toArray++Array.replicate (nt-vs.toArray.size) undef).getD t undef=undef:=by
   rw[Array.getD_eq_getD_getElem?,Array.getElem?_append_right (by simp_all),Array.getElem?_replicate]
   grind
  rw[this];exact bM.undef _ _
theorem Oq (r:ei I μ n F a.tmps) {t:Nat} {x:V} {v:Value} (B:t<n) (h:bM I μ x v):ei I μ n (set F t x) (a.tmps.setIfInBounds t v):=by
 have:=ei.put  (dst:=some t) r h (F':=set F t x) (by simp[jW,B])
 simpa [Act.put]using this
theorem AZ:∀(ps:List Nat) (xs:List V) (vs:List Value) (F:Frame) (tmps:Array Value),ei I μ n F tmps->cB I μ xs vs->ps.all (·<n)=true ->
 ei I μ n (vw ps xs F) ((ps.zip vs).foldl (λtmps (t,a)=>tmps.setIfInBounds t a) tmps)
 | [],_,_,F,tmps,r,_,_=>by simpa [vw]using r
 | t::ps,[],[],F,tmps,r,_,_=>by simpa [vw]using r
 | t::ps,[],v::vs,F,tmps,r,h,_=>by have:=h.1;grind
 | t::ps,x::xs,[],F,tmps,r,h,_=>by have:=h.1;grind
 | t::ps,x::xs,v::vs,F,tmps,r,h,q=>by
  simp only[List.all_cons,ζh,decide_eq_true_eq]at q;have h0  := h.2 0 x v rfl rfl;have u:cB I μ xs vs:=⟨by have:=h.1;grind,λj a b h1 w=>h.2 (j+1) a b (by grind) (by grind)⟩
  exact AZ ps xs vs _ _ (Oq (a:={ tmps:=tmps,defers:=[] }) r q.1 h0) u q.2
theorem FA {α β:Type} (g:α->Sem β):∀(l:List α) (w:World) (B:List β),B.length=l.length->(∀(j:Nat) x y,l[j]? = some x->B[j]? = some y->(g x).run P w=.ok y w)->(l.mapM g).run P w=.ok B w
 | [],w,[],_,_=>by simp
 | [],w,_::_,h,_=>by simp_all
 | _::_,w,[],h,_=>by simp_all
 | x::l,w,y::B,h,hg=>by
  have h0:=hg 0 x y rfl rfl;have q:=FA g l w B (by grind) (λj a b h1 t=>hg (j+1) a b (by grind) (by grind))
  simp_all
def Kj (tmps:Array Value):ResultVar->Sem Value
 | .tmp t=>pure (tmps.getD t undef)
 | .cell a t=>do loadVar t (<-asAddr (tmps.getD a undef))
theorem JL (fn:Func) (tmps:Array Value):results fn tmps=(fn.results.mapM (Kj tmps) >>= λvs=>pure (if h:vs.size=1 then vs[0]else .tuple vs)):=by
 congr 1
theorem Jl (U:eH P E) {fn:Func} {tmps:Array Value} (r:ei I μ n F tmps) (s:cM I μ H w) {vs:List V} (h:gR E F H fn.results.toList=some vs) :
 ∃u,(results fn tmps).run P w=.ok u w/\bM I μ (result vs) u:=by
 have key:∀(l:List ResultVar) (vs:List V),gR E F H l=some vs->∃q:List Value,q.length=l.length/\cB I μ vs q /\
  ∀(j:Nat) x y,l[j]? = some x->q[j]? = some y->(Kj tmps x).run P w=.ok y w:=by
  intro l
  induction l with
  | nil=>intro vs h;simp[gR]at h;subst h;exact⟨[],rfl,.nil,by simp⟩
  | cons x l S=>
   intro vs h
   cases x with
   | tmp t=>
    simp only[gR,ζf]at h;obtain⟨B,h,rfl⟩:=h;obtain⟨q,h1,A,L⟩:=S B h;refine⟨tmps.getD t undef::q,by simp_all,.cons (r.2 t) A,?_⟩
    intro j x y D G
    cases j with
    | zero=>simp at D G;subst D;subst G;simp[Kj]
    | succ j=>grind
   | cell p t=>
    simp only[gR]at h;split at h
    .rename_i d B T O;simp only[ζf]at h;obtain⟨v,hv,rfl⟩:=h;obtain⟨q,h1,A,L⟩:=S B O;obtain⟨u,_,hu,W,Q,C⟩:=Cd U s T (r.2 p) hv;refine⟨u::q,by simp_all,.cons hu A,?_⟩
     intro j x y D G
     cases j with
     | zero=>
      simp only[List.getElem?_cons_zero,ζa]at D G;subst D;subst G;have e:(do loadVar t (<-asAddr (tmps.getD p undef))).run P w=(loadVar t W).run P w:=by rw[Sem.run_bind,Q];rfl
      exact e.trans C
     | succ j=>grind
    grind
 obtain⟨q,h1,A,L⟩:=key _ _ h;have Y:=FA  _ fn.results.toList w q h1 L;have X:(fn.results.mapM (Kj tmps)).run P w=.ok q.toArray w:=by
  rw[Array.mapM_eq_mapM_toList];simp_all
 have J:q.length=vs.length:=A.1.symm;rw[JL,Sem.run_bind,X]
 by_cases z:q.length=1
 .obtain⟨u,rfl⟩:=List.length_eq_one_iff.1 z;obtain⟨v,rfl⟩:=List.length_eq_one_iff.1 (J▸z);exact⟨u,by simp,by simpa [result]using A.2 0 v u rfl rfl⟩
 .refine⟨.tuple q.toArray,by simp_all,?_⟩
  have hr:result vs=.tup vs:=by
   match vs,J with
   | [],_=>rfl
   | [_],h=>exact absurd h z
   | _::_::_,_=>rfl
  rw[hr];exact .tup _ _ (by simpa using A.1) (by simpa using A.2)
theorem K_ (D:eH P E) {fn:Func} {tmps:Array Value} {vs:List V} (h:gR E F H' fn.results.toList=some vs) (U:w.heap.size<=B):∀(ds:List Deferred) (w':World),
 ei I' μ' n F tmps->cM I' μ' H' w'->Step I μ H w I' μ' H' w'->jw B ds w' ->
 LeavesInM (fr none) 0 P fn tmps (xu I μ H w (result vs) H') ds .returning w':=by
 intro ds
 induction ds with
 | nil=>
  intro w' r s st m;obtain⟨u,hu,hv⟩:=Jl D r s h;exact⟨u,hu,u,I',μ',rfl,hv,s,st⟩
 | cons d ds G=>
  intro w' r s st m;obtain⟨q,h1,Q,A⟩:=m.all d (by simp)
  refine⟨by simp,.inl ⟨q,_,h1,run_takeDeferred A,?_⟩⟩
  have t:=uk s A;have J:=Q3 s A (by simp) (by simp)
  have m':jw B ds w':=⟨λd L=>m.all d (List.mem_cons_of_mem _ L),(List.pairwise_cons.1 m.apart).2⟩
  refine G (fF w' q (.deferred none)) r (s.Ap _ J t) (st.after _ (by omega)) ⟨λC z=>?_,m'.apart⟩
  obtain⟨O,g1,g2,g3⟩:=m'.all C z;refine⟨O,g1,g2,?_⟩;rw[eU _ ?_];exact g3;rintro rfl;exact(List.pairwise_cons.1 m.apart).1 C z _ h1 g1
theorem Dk (o:Out):(kU o).isNone=(o==.norm):=by
 cases o <;> simp[kU] <;> rfl
theorem DT (O:eH P E) (hm:P.follows .mixedOrders=true) (hS:Tw P E):∀n,kG P (run E n):=by
 intro n
 induction n with
 | zero=>exact⟨λ_ _ _ _ _ h=>by simp[run]at h,λ_ _ _ _ _ h=>by simp[run]at h⟩
 | succ n A=>
  constructor
  .intro f args H r H' h;simp[run]at h;split at h
   .rename_i D aa;obtain⟨fn,hf,hb,ab,Q,G⟩:=O.ft f D aa;refine⟨⟨fn,hf,by simp_all,G⟩,?_⟩
    intro I μ w z s hv;split at h
    .rename_i t;have main:∀o F' H2 rs,exec E (run E n) n false D.ntmps D.body args H=some (o,F',H2)->(∀id,o≠.exit id)->gR E F' H2 D.results=some rs->CallsIn (fr none) 0 P f z.toArray w (xu I μ H w (result rs) H2):=by
      intro o F' H2 rs hx aj hr;refine callsIn_of_wp_marks hf hb trivial ?_;rw[ab];have Z:=Jw s.gl hv t;have:=xP  O hm A n none false rfl D.ntmps D.body I μ args H { tmps:=z.toArray++Array.replicate (D.ntmps-z.toArray.size) undef,defers:=[] } w o F' H2 hx Z s ⟨by simp,.nil⟩ (Nat.le_refl _)
      refine wpIn_mono this ?_;rintro e a1 S ⟨rfl,⟨I1,μ1,r1,s1,u⟩,m1⟩;have hl:=K_  O  (by rw[Q];omega) (Nat.le_refl _) a1.defers S r1 s1 u m1
      cases o with
      | norm=>exact hl
      | ret=>exact hl
      | exit id=>grind
     split at h
     .simp_all
     .simp  at h
      grind
     grind
    grind
   .split at h
    .rename_i hs;exact⟨(hS.sort f hs).ok,λI μ w z s hv=>PO A (hS.sort f hs) h s hv⟩
    .obtain⟨yy,he,h⟩:=ζf.1 h;cases h;exact⟨(hS.known f args _ he).1,λI μ w z s hv=>(hS.known f args _ he).2 I μ H w z s hv⟩
  .intro id args H r H' h I μ w z p s hv hp;simp only[run]at h;split at h
   .rename_i rec T;split at h
    .split at h
     .rename_i t;split at h
      .rename_i F2 H2 ad;split at h
       .rename_i r2 U;split at h
        .rename_i W;split at h
         .rename_i o F4 H4 ae;split at h
          .rename_i r4 X;obtain⟨rfl,rfl⟩:=h;obtain⟨q,l,g1,g2,g3,g4⟩:=Ah s T;rw[hp]at g1;cases g1;have af:l.params.size=rec.params.length:=by have:=congrArg List.length g4.params;grind
           have ah:z.toArray.size=l.params.size:=by
            rw[af,<-t.1];simpa using hv.1.symm
           refine⟨p.b,l.fn,_,l.assign,l.body,run_yield g3 ah,?_⟩;refine roundIn_of_wpIn trivial ?_;have J:(l.params.zip z.toArray).foldl (λtmps x=>tmps.setIfInBounds x.1 x.2) l.tmps=(rec.params.zip z).foldl (λtmps x=>tmps.setIfInBounds x.1 x.2) l.tmps:=by
            rw[<-Array.foldl_toList,Array.toList_zip,g4.params]
           have Z:=AZ rec.params args z rec.frame l.tmps g4.frame hv t.2;rw[<-J]at Z;have S:=xP  O hm A n (some p.b) true rfl rec.nt rec.assign I μ _ H { tmps:=_,defers:=[] } w _ _ _ ad Z s ⟨by simp,.nil⟩ (Nat.le_refl _)
           rw[g4.assign,g4.body];refine wpIn_mono S ?_;rintro e a1 S ⟨rfl,⟨I1,μ1,r1,s1,u⟩,m1⟩;obtain⟨q,l2,k1,k2,k3,k4⟩:=Ah s1 U;rw[u.mu _ _ hp]at k1;cases k1;have B:l2.state=.ready:=by
            have:=k4.st;rw[W]at this;cases hl:l2.state <;> rw[hl]at this <;> simp[AS.is]at this
           refine⟨_,run_beginRound k3 B,?_⟩;have C  := u.mu _ _ hp;obtain⟨s2,st2⟩:=s1.write  (ob':=.loop { r2 with st:=.busy }) U rfl C
            ⟨p,{ l2 with state:=.busy },C,k2,gn _ (Array.getElem?_eq_some_iff.1 k3).1,⟨trivial,k4.pend,k4.pendOk,k4.frame,k4.params,k4.assign,k4.body⟩⟩
           have m2  := m1.step s1 st2;have w2:=xP  O hm A n (some p.b) true rfl rec.nt rec.body I1 μ1 F2 _ a1 (fF S p.b (.loop { l2 with state:=.busy })) o F4 H4 ae r1 s2 m2 (by rw[rQ];exact u.size)
           refine wpIn_mono w2 ?_;rintro e a3 w3 ⟨rfl,⟨I3,μ3,r3,s3,L⟩,m3⟩;obtain⟨q,l4,j1,j2,j3,j4⟩:=Ah s3 X;rw[L.mu _ _ C]at j1;cases j1;have Y  := L.mu _ _ C;have fin:∃v w',(Instr.endRound p.b (kU o)).run P w3=.ok v w'/\xu I μ H w (.bool (o==.norm)) (H4.set id (.loop { r4 with st:=(if o==.norm then .ready else .done),pend:=(if o==.norm then none else some o) })) (.returned v) w':=by
            refine⟨_,_,run_endRound (kU o) j3,?_⟩;obtain⟨s4,ai⟩:=s3.write  (ob':=.loop { r4 with st:=(if o==.norm then .ready else .done),pend:=(if o==.norm then none else some o) }) X rfl Y
             ⟨p,{ l4 with state:=if(kU o).isNone then .ready else .done,pending:=kU o },Y,j2,gn _ (Array.getElem?_eq_some_iff.1 j3).1,⟨by cases o <;> exact trivial,by cases o <;> rfl,by cases o <;> simp,j4.frame,j4.params,j4.assign,j4.body⟩⟩
            refine⟨_,I3,μ3,rfl,?_,s4,Step.trans s1 u (Step.trans s2 st2 (Step.trans s3 L ai))⟩;rw[Dk];exact .c _ _ (.bool _)
           cases o with
           | norm=>exact fin
           | ret=>exact fin
           | exit id=>exact fin
          grind
         grind
        grind
       grind
      grind
     grind
    grind
   grind
end
end Go.VE
namespace Go.VE
variable [bX]
variable {P:Program}
theorem nT.B3 {t:TypeId} {d:TD} (h:tG P t=some d):nT P t d:=
 eH.ty (E:={ tt:=tG P,ft:=λ_=>none,keep:=λ_=>false,own:=λ_=>false,eqN:=λ_=>none,sort:=λ_=>false }) ⟨λ_ _ h=>h,by simp,by simp⟩ h
theorem q9 {i:TypeId} {cs:Array Value} {o:Nat} {v:Value} {w:World} (B:tG P i=some ⟨1,8,[.int .i64 0],.int .i64⟩) (h:cs[o]? = some v):(part i cs o).run P w=.ok v w:=by
 unfold part;simp[Sem.run_bind,(nT.B3 B).Cm,Result.andThen,TD.agg,h]
theorem sY {a:List Int} (h:a.length=2):∃x y,a=[x,y]:=by
 match a,h with
 | [x,y],_=>exact⟨x,y,rfl⟩
theorem zX (d:Nat) (e:Bool) {i:TypeId} (x:Int) {w:World} (B:P.underlying i=some (.int .i64)):(Instr.checkKey e (d+1) i (.int .i64 x)).run P w=.ok () w:=by
 simp only[Instr.checkKey,Sem.run_bind,dy B,Result.andThen_ok,Sem.run_pure]
theorem GQ (d:Nat) (e:Bool) {t i:TypeId} {f g:Field} (x y:Int) {w:World} (hu:P.underlying t=some (.struct #[f,g])) (G:f.type=i) (hg:g.type=i) (of:f.offset=0) (J:g.offset=1) (nf:f.name ≠ "_") (O:g.name ≠ "_")
 (D:tG P i=some ⟨1,8,[.int .i64 0],.int .i64⟩) (B:P.underlying i=some (.int .i64)):(Instr.checkKey e (d+1+1) t (.agg (ic [x,y]))).run P w=.ok () w:=by
 have u:∀w,(part i (ic [x,y]) 0).run P w=.ok (.int .i64 x) w:=λw=>q9 D rfl
 have p1:∀w,(part i (ic [x,y]) 1).run P w=.ok (.int .i64 y) w:=λw=>q9 D rfl
 have q:∀(x:Int) w,(Instr.checkKey e (d+1) i (.int .i64 x)).run P w=.ok () w:=λx w=>zX d e x B
 unfold Instr.checkKey;simp only[Sem.run_bind,dy hu,Result.andThen_ok];rw[<-Array.forIn_toList];simp only[List.forIn_cons,List.forIn_nil,Sem.run_bind,G,hg,of,J,nf,O,ne_eq,not_false_eq_true,if_true,u,p1,q,Result.andThen_ok,Sem.run_pure]
theorem ta.two {t i:TypeId} {f g:Field} (hu:P.underlying t=some (.struct #[f,g])) (U:f.type=i) (hg:g.type=i) (of:f.offset=0) (W:g.offset=1) (nf:f.name ≠ "_") (Y:g.name ≠ "_")
 (O:tG P i=some ⟨1,8,[.int .i64 0],.int .i64⟩) (D:P.underlying i=some (.int .i64)) (hs:P.stoodInHeld t=false) (hq:P.eqGuardType P.depth t=false):ta P t 2:=by
 have G:P.fieldsOf t=#[f,g]:=by unfold Program.fieldsOf;rw[hu]
 have A:∀(w:World) (x y z u:Int),(Op.equal t (.agg (ic [x,y])) (.agg (ic [z,u]))).run P w=.ok ([x,y]==[z,u]) w:=by
  intro w x y z u;show (Op.equalIn (9999+1) t _ _).run P w=_;rw[run_equalIn_struct w 9999 t _ _ (by rw[G];exact hu) hs,G]
  have L:∀(x y:Int) w,(part i (ic [x,y]) 0).run P w=.ok (.int .i64 x) w:=λx y w=>q9 O rfl
  have p1:∀(x y:Int) w,(part i (ic [x,y]) 1).run P w=.ok (.int .i64 y) w:=λx y w=>q9 O rfl
  have q:∀(x y:Int) w,(Op.equalIn 9999 i (.int .i64 x) (.int .i64 y)).run P w=.ok (x==y) w:=λx y w=>A2 9998 x y D
  simp only[Op.eqFields,U,hg,of,W,nf,Y,ne_eq,not_false_eq_true,if_true,Sem.run_bind,L,q,Result.andThen_ok]
  by_cases B:x=z
  .by_cases H:y=u
   .subst B;subst H;simp[Sem.run_bind,p1,q,Result.andThen]
   .subst B;have:(y==u)=false:=by simpa using H
    simp[Sem.run_bind,p1,q,Result.andThen,this]
  .have:(x==z)=false:=by simpa using B
   simp[this]
 have I:∀(op:BinOp) (p q:Operand) (w:World) (u v:Array Value),(eqGuard op t p q (.agg u) (.agg v)).run P w=.ok () w:=by
  intro op p q w u v;unfold eqGuard;cases op <;> simp[Sem.run_bind,run_program,Result.andThen,hq]
 refine⟨?_,?_,?_,?_,⟨_,hu,.inr ⟨_,rfl⟩⟩⟩
 .intro w p q a b C J;obtain⟨x,y,rfl⟩:=sY C;obtain⟨z,u,rfl⟩:=sY J;rw[Sem.run_bind,I,Result.andThen_ok];show (do pure (Value.bool (<-Op.equal t (.agg (ic [x,y])) (.agg (ic [z,u])))):Sem Value).run P w=_
  rw[Sem.run_bind,A];rfl
 .intro w p q a b C J;obtain⟨x,y,rfl⟩:=sY C;obtain⟨z,u,rfl⟩:=sY J;rw[Sem.run_bind,I,Result.andThen_ok];show (do pure (Value.bool (!(<-Op.equal t (.agg (ic [x,y])) (.agg (ic [z,u]))))):Sem Value).run P w=_
  rw[Sem.run_bind,A];rfl
 .intro w a b C J;obtain⟨x,y,rfl⟩:=sY C;obtain⟨z,u,rfl⟩:=sY J;exact A w x y z u
 .intro w e a C;obtain⟨x,y,rfl⟩:=sY C;exact GQ 9998 e x y hu U hg of W nf Y O D
def lk {α:Type}:List (Nat×α)->Nat->Option α
 | [],_=>none
 | (k,v)::r,n=>bif Nat.beq k n then some v else lk r n
theorem Lx {α:Type}:∀{l:List (Nat×α)} {n:Nat} {v:α},lk l n=some v->(n,v)∈l
 | [],_,_,h=>by simp[lk]at h
 | (k,x)::r,n,v,h=>by
  simp only[lk]at h
  cases hk:Nat.beq k n with
  | true=>
   rw[hk]at h;simp only[cond_true,ζa]at h;have:=Nat.eq_of_beq_eq_true hk;subst this;subst h;simp
  | false=>rw[hk]at h;exact List.mem_cons_of_mem _ (Lx h)
end Go.VE
namespace Go.VE
variable [bX]
inductive KT where|bool|str|slice|ptr|map|int|other
 deriving DecidableEq
def TK.tag:TK->KT
 | .bool=>.bool
 | .int _=>.int
 | .str=>.str
 | .ptr _=>.ptr
 | .slice _=>.slice
 | .map ..=>.map
 | _=>.other
def oF (k:KT) (x y:V):Option Bool:=
 match k,x,y with
 | .slice,.bH,.bH=>some true
 | .slice,.fsl ..,.bH=>some false
 | .slice,.hsl ..,.bH=>some false
 | .ptr,.gV,.gV=>some true
 | .ptr,.fptr _,.gV=>some false
 | .ptr,.hptr ..,.gV=>some false
 | .map,.gw,.gw=>some true
 | .map,.fmap _,.gw=>some false
 | .map,.hmap _,.gw=>some false
 | _,_,_=>none
def hU (k:Option KT) (e:Option Nat) (op:BinOp) (x y:V):Option V:=
 match x,y with
 | .int k a,.int q b=>
  match op with
  | .shl=>if b<0 then none else some (.int k (k.wrap (a*2 ^ (min b.toNat k.bits))))
  | .shr=>if b<0 then none else some (.int k (a.fdiv (2 ^ (min b.toNat k.bits))))
  | _=>if k=q then
   match op with
   | .add=>some (.int k (k.wrap (a+b)))
   | .sub=>some (.int k (k.wrap (a-b)))
   | .mul=>some (.int k (k.wrap (a*b)))
   | .quo=>if b=0 then none else some (.int k (k.wrap (a.tdiv b)))
   | .rem=>if b=0 then none else some (.int k (a.tmod b))
   | .and=>some (.int k (k.wrap (BitVec.ofInt k.bits a &&& BitVec.ofInt k.bits b).toNat))
   | .or=>some (.int k (k.wrap (BitVec.ofInt k.bits a ||| BitVec.ofInt k.bits b).toNat))
   | .xor=>some (.int k (k.wrap (BitVec.ofInt k.bits a ^^^ BitVec.ofInt k.bits b).toNat))
   | .andNot=>some (.int k (k.wrap (BitVec.ofInt k.bits a &&& ~~~ BitVec.ofInt k.bits b).toNat))
   | op=>(nZ op a b).map .bool
   else none
 | .str a,.str b=>
  match op with
  | .add=>if((a.size+b.size:Nat):Int)>IntKind.i64.max then none else some (.str (a++b))
  | .eql=>some (.bool (a.toList==b.toList))
  | .neq=>some (.bool !(a.toList==b.toList))
  | .lss=>some (.bool (Op.bytesLess a.toList b.toList))
  | .leq=>some (.bool (Op.bytesLess a.toList b.toList||a.toList==b.toList))
  | .gtr=>some (.bool !(Op.bytesLess a.toList b.toList||a.toList==b.toList))
  | .geq=>some (.bool !(Op.bytesLess a.toList b.toList))
  | _=>none
 | .bool a,.bool b=>
  match k,op with
  | some .bool,.eql=>some (.bool (a==b))
  | some .bool,.neq=>some (.bool !(a==b))
  | _,_=>none
 | .agg a,.agg b=>
  match e,op with
  | some n,.eql=>if a.length=n then(kD a b).map .bool else none
  | some n,.neq=>if a.length=n then(kD a b).map (λt=>.bool !t)else none
  | _,_=>none
 | x,y=>
  match k,op with
  | some k,.eql=>(oF k x y).map .bool
  | some k,.neq=>(oF k x y).map λt=>.bool !t
  | _,_=>none
theorem Jv (k:TK) (x y:V):uA k x y=oF k.tag x y:=by
 cases k <;> cases y <;> (try rfl) <;> cases x <;> rfl
theorem Q5 (E:Env) (op:BinOp) (t:TypeId) (x y:V):Hq E op t x y=hU ((E.dB t).map TK.tag) (E.eqN t) op x y:=by
 unfold Hq;split
 .rfl
 .rfl
 .cases hk:E.dB t with
  | none=>rfl
  | some k=>cases k <;> cases op <;> rfl
 .rfl
 .rename_i h1 q u w
  cases hk:E.dB t with
  | none=>rw[hU.eq_29 _ _ _ _ _ h1 q u w (by simp) (by simp)]
  | some k=>
   simp only[Jv];cases op <;> first
    | exact(hU.eq_27 _ _ _ _ h1 q u w).symm
    | exact(hU.eq_28 _ _ _ _ h1 q u w).symm
    | (rw[hU.eq_29 _ _ _ _ _ h1 q u w (by simp) (by simp)])
inductive uP where
 | id|pick|nilc
 | bin (k:Option KT) (e:Option Nat) (op:BinOp)
 | not|neg
 | conv (k:IntKind)
 | fieldAddr (off:Nat)
 | field (off size:Nat) (agg:Bool)
 | idxS (size:Nat)
 | idxA (len size:Nat)
 | idxStr
 | idxArr (len size:Nat) (agg:Bool)
 | sliceStr (lo hi:Bool)
 | slice (size:Nat) (lo hi:Bool)
 | slice00
 | build (zero:List V) (pl:List (Nat×Nat))
 | clo (name:Nat) (k:Nat)
 | ext (i:Nat)
 | lenStr|lenSl|capSl|max|min|bad|max4
 | makeC (size:Nat) (zero:List V)
 | emptyC
def Kr:V->Option V
 | .hptr id el off=>some (.hptr id el off)
 | .fptr cs=>some (.fptr cs)
 | .clo f a b=>some (.clo f a b)
 | _=>none
def gZ (off:Nat):V->Option V
 | .fptr cs=>if off<=cs.length then some (.fptr (cs.drop off))else none
 | .hptr id el o=>some (.hptr id el (o+off))
 | _=>none
def lG (size:Nat) (s:V) (n:Int):Option V:=
 if n<0 then none else match s with
 | .fsl es q=>if es=size then(q[n.toNat]?).map .fptr else none
 | .hsl id es off len=>if es=size/\n.toNat<len then some (.hptr id (off+n.toNat) 0)else none
 | _=>none
def wm (len size:Nat) (p:V) (n:Int):Option V:=
 if 0<=n/\n<len then match p with
  | .fptr q=>if n.toNat*size<=q.length then some (.fptr (q.drop (n.toNat*size)))else none
  | .hptr id el o=>some (.hptr id el (o+n.toNat*size))
  | _=>none
 else none
def lC:Bool->Bool->List V->Option (Option Int×Option Int)
 | false,false,[]=>some (none,none)
 | true,false,[.int _ l]=>some (some l,none)
 | false,true,[.int _ h]=>some (none,some h)
 | true,true,[.int _ l,.int _ h]=>some (some l,some h)
 | _,_,_=>none
def hG (size:Nat) (v:V) (l h:Option Int):Option V:=
 match v with
 | .fsl es q=>if es=size then(dN q.length l h).map λ(l,h)=>.fsl es ((q.take h).drop l)else none
 | .hsl id es off len=>if es=size then(dN len l h).map λ(l,h)=>.hsl id es (off+l) (h-l)else none
 | .c9=>(dN 0 l h).map λ_=>.c9
 | .bH=>(dN 0 l h).map λ_=>.bH
 | _=>none
def IY:V->Bool
 | .fsl ..|.hsl ..|.c9|.bH=>true
 | _=>false
def kB (cells:List V):List (Nat×Nat)->List V->Option (List V)
 | [],[]=>some cells
 | (off,size)::pl,v::vs=>
  if v.cells.length≠size||off+v.cells.length>cells.length then none
  else kB (cells.take off++v.cells++cells.drop (off+v.cells.length)) pl vs
 | _,_=>none
def og:V->Option V
 | .fsl _ xs=>some (.int .i64 xs.length)
 | .hsl _ _ _ len=>some (.int .i64 len)
 | .c9=>some (.int .i64 0)
 | .bH=>some (.int .i64 0)
 | _=>none
def Ff:V->Option V
 | .bH|.c9=>some (.int .i64 0)
 | _=>none
def bh (N:Nat->FuncId):uP->List V->Option V
 | .id,[x]=>some x
 | .pick,[.bool t,a,b]=>some (if t then a else b)
 | .nilc,[x]=>Kr x
 | .bin k e op,[x,y]=>hU k e op x y
 | .not,[.bool b]=>some (.bool !b)
 | .neg,[.int k n]=>some (.int k (k.wrap (0-n)))
 | .conv k,[.int _ n]=>some (.int k (k.wrap n))
 | .fieldAddr off,[p]=>gZ off p
 | .field off size agg,[.agg cs]=>(cut cs off size).bind (mk agg)
 | .idxS size,[s,.int _ n]=>lG size s n
 | .idxA len size,[p,.int _ n]=>wm len size p n
 | .idxStr,[.str s,.int _ n]=>if 0<=n then(s[n.toNat]?).map (λb=>.int .u8 b.toNat)else none
 | .idxArr len size agg,[.agg cs,.int _ n]=>if 0<=n/\n<len then(cut cs (n.toNat*size) size).bind (mk agg)else none
 | .sliceStr D G,.str s::J=>(lC D G J).bind λ(l,h)=>(dN s.size l h).map λ(l,h)=>.str (s.extract l h)
 | .slice size D G,v::J=>(lC D G J).bind λ(l,h)=>hG size v l h
 | .slice00,[v,.int _ h,.int _ m]=>if IY v&&h==0&&m==0 then some .c9 else none
 | .build zero pl,vs=>(kB zero pl vs).map .agg
 | .clo name k,vs=>some (.clo (N name) (vs.take k) (vs.drop k))
 | .ext i,[.tup vs]=>vs[i]?
 | .lenStr,[.str s]=>some (.int .i64 s.size)
 | .lenSl,[v]=>og v
 | .capSl,[v]=>Ff v
 | .max,[.int k a,.int B b]=>if k=B then some (.int k (if b>a then b else a))else none
 | .max4,[.int k a,.int k1 b,.int k2 c,.int k3 d]=>if k=k1/\k=k2/\k=k3 then some (.int k (Bd (Bd (Bd a b) c) d))else none
 | .min,[.int k a,.int B b]=>if k=B then some (.int k (if b<a then b else a))else none
 | .makeC size zero,[.int k n,.int B m]=>if k=.i64/\B=.i64/\0<=n/\n=m/\m<=2147483648/\zero.all V.scalar=true then some (.fsl size (List.replicate n.toNat zero))else none
 | .emptyC,[]=>some .c9
 | _,_=>none
inductive wR where|int (k:IntKind)|str|ints (n:Nat)
def CN (E:Env) (t:TypeId):Option wR:=
 match E.dB t with
 | some (.int k)=>some (.int k)
 | some .str=>some .str
 | some _=>(E.eqN t).map .ints
 | none=>none
def pL:wR->V->Bool
 | .int k,.int B _=>k==B
 | .str,.str _=>true
 | .ints n,.agg cs=>cs.length==n&&(iC cs).isSome
 | _,_=>false
inductive Ii where
 | load (size:Nat) (agg:Bool)
 | loadF (size:Nat) (agg:Bool)
 | lookup (kk:wR) (zero:V) (ok:Bool)
def eS (H:bl):Ii->List V->Option V
 | .load size agg,[p]=>(dY H p size).bind (mk agg)
 | .lookup kk z ok,[m,k]=>match mC H m with
  | some B=>if pL kk k then match iL k B 0 with
   | some (some (_,v))=>some (if ok then .tup [v,.bool true]else v)
   | some none=>some (if ok then .tup [z,.bool false]else z)
   | none=>none
   else none
  | none=>none
 | _,_=>none
inductive Lh where
 | alloc (size:Nat) (zero:List V)
 | box
 | makeSl (size:Nat) (zero:List V)
 | buildSl (size len:Nat) (zero:List V) (idx:List Nat)
 | makeMap
def iZ:Lh->List V->Option (Ob×Mk)
 | .alloc size zero,[]=>some (.row size [zero],.ptr)
 | .box,[v]=>if v.cells.all V.one then some (.row v.cells.length [v.cells],.ptr)else none
 | .makeSl size zero,[.int k n,.int B m]=>if k=.i64/\B=.i64/\0<=n/\n<=m/\m<=2147483648 then some (.row size (List.replicate m.toNat zero),.sl size n.toNat)else none
 | .buildSl size len zero idx,vs=>if idx.length=vs.length then(gE size (List.replicate len zero) (idx.zip vs)).map λxs=>(.row size xs,.sl size len)else none
 | .makeMap,[]=>some (.map [],.map)
 | _,_=>none
inductive Il where
 | store (size:Nat)
 | storeF (size:Nat)
 | mapUp (kk:wR)
 | append (size:Nat)
 | appMk (size bytes:Nat) (zero:List V)
 | clear (size:Nat) (zero:List V)
def eY (H:bl):Il->List V->Option (V×bl)
 | .store size,[.hptr id el off,v]=>match H[id]? with
  | some (.row es xs)=>match xs[el]? with
   | some cs=>if v.cells.length=size/\off+size<=cs.length/\v.cells.all V.one=true then
    some (.undef,H.set id (.row es (xs.set el (cs.take off++v.cells++cs.drop (off+v.cells.length)))))else none
   | none=>none
  | _=>none
 | .mapUp kk,[.hmap id,k,v]=>match H[id]? with
  | some (.map B)=>if pL kk k then(pG k v B).map λB=>(.undef,H.set id (.map B))else none
  | _=>none
 | .append size,[s,x]=>match dM H size s,dM H size x with
  | some _,some []=>some (s,H)
  | some xs,some ys=>if xs.length+ys.length<=2147483648 then(gQ H s).map λH1=>(.hsl H.length size 0 (xs.length+ys.length),H1++[.row size (xs++ys)])else none
  | _,_=>none
 | .appMk size bytes zero,[s,x]=>mkApp H size bytes zero s x
 | .clear size zero,[v]=>Cq H size zero v
 | .storeF size,.hptr id el off::v::l=>if l.all (qn id)=true then match H[id]? with
  | some (.row es xs)=>match xs[el]? with
   | some cs=>if v.cells.length=size/\off+size<=cs.length/\v.cells.all V.one=true then
    some (.undef,H.set id (.row es (xs.set el (cs.take off++v.cells++cs.drop (off+v.cells.length)))))else none
   | none=>none
  | _=>none
  else none
 | _,_=>none
inductive K where
 | p (p:uP)
 | r (r:Ii)
 | a (a:Lh)
 | l (l:Il)
 | c
 | e (size:Nat)
def Uj (E:Env) (t:TypeId):Option KT:=(E.dB t).map TK.tag
def resolve (E:Env) (nm:FuncId->Option Nat):Op->Option (K×List Operand)
 | .move x|.assign x=>some (.p .id,[x])
 | .pick c a b=>some (.p .pick,[c,a,b])
 | .nilCheck x=>some (.p .nilc,[x])
 | .binOp op t x y _=>some (.p (.bin (Uj E t) (E.eqN t) op),[x,y])
 | .unOp .not _ x=>some (.p .not,[x])
 | .unOp .neg _ x=>some (.p .neg,[x])
 | .convert s d x=>match E.tt s,E.tt d with
  | some _,some O=>match O.kind with
   | .int k=>some (.p (.conv k),[x])
   | _=>none
  | _,_=>none
 | .fieldAddr s x f=>match E.dB s with
  | some (.struct fs)=>match fs[f]? with
   | some (off,t)=>match E.tt t with
    | some d=>if d.size=0 then none else some (.p (.fieldAddr off),[x])
    | none=>none
   | none=>none
  | _=>none
 | .field s x f=>match E.dB s with
  | some (.struct fs)=>match fs[f]? with
   | some (off,t)=>match E.tt t with
    | some d=>some (.p (.field off d.size d.agg),[x])
    | none=>none
   | none=>none
  | _=>none
 | .indexAddr t x i=>match E.dB t with
  | some (.slice e)=>(E.tt e).map λd=>(.p (.idxS d.size),[x,i])
  | some (.array len e)=>(E.tt e).map λd=>(.p (.idxA len d.size),[x,i])
  | _=>none
 | .index t x i=>match E.dB t with
  | some .str=>some (.p .idxStr,[x,i])
  | some (.array len e)=>(E.tt e).map λd=>(.p (.idxArr len d.size d.agg),[x,i])
  | _=>none
 | .slice t x B D U=>match E.dB t,U with
  | some .str,none=>some (.p (.sliceStr B.isSome D.isSome),x::(B.toList++D.toList))
  | some (.slice e),none=>(E.tt e).map λd=>(.p (.slice d.size B.isSome D.isSome),x::(B.toList++D.toList))
  | some (.slice e),some m=>match E.tt e,B,D with
   | some _,none,some h=>some (.p .slice00,[x,h,m])
   | _,_,_=>none
  | _,_=>none
 | .build t ps=>match E.tt t with
  | some d=>match d.kind with
   | .struct fs=>match mT E fs with
    | some pl=>(ps.toList.mapM λ(q:Nat×Operand)=>pl[q.1]?).map λq=>(K.p (.build d.zero q),ps.toList.map λ(q:Nat×Operand)=>q.2)
    | none=>none
   | .array _ e=>(E.tt e).map λJ=>(K.p (.build d.zero (ps.toList.map λ(q:Nat×Operand)=>(q.1*J.size,J.size))),ps.toList.map λ(q:Nat×Operand)=>q.2)
   | _=>none
  | none=>none
 | .makeFunc (.func f) a b=>(nm f).map λs=>(.p (.clo s a.toList.length),a.toList++b.toList)
 | .extract x i=>some (.p (.ext i),[x])
 | .load t a=>(E.tt t).map λd=>(.r (.load d.size d.agg),[a])
 | .lookup t m k ok=>match E.dB t with
  | some (.map G W)=>match E.tt W,CN E G with
   | some d,some kk=>(mk d.agg d.zero).map λz=>(.r (.lookup kk z ok),[m,k])
   | _,_=>none
  | _=>none
 | .alloc t=>(E.tt t).map λd=>(.a (.alloc d.size d.zero),[])
 | .box _ x=>some (.a .box,[x])
 | .makeSlice t l c=>match E.dB t with
  | some (.slice e)=>match E.tt e with
   | some d=>if d.bytes<=4096 then some (.a (.makeSl d.size d.zero),[l,c])else none
   | none=>none
  | _=>none
 | .buildSlice t len ps=>match E.dB t with
  | some (.slice e)=>match E.tt e with
   | some d=>if len*d.size<=16777216 then some (.a (.buildSl d.size len d.zero (ps.toList.map (·.1))),ps.toList.map (·.2))else none
   | none=>none
  | _=>none
 | .makeMap _ none=>some (.a .makeMap,[])
 | .store t a x=>(E.tt t).map λd=>(.l (.store d.size),[a,x])
 | .mapUpdate t m k x|.insert t m k x=>match E.dB t with
  | some (.map G _)=>(CN E G).map λkk=>(.l (.mapUp kk),[m,k,x])
  | _=>none
 | .call { callee:=.builtin .append,args,argTypes }=>match argTypes.toList,args.toList with
  | [t,Y],[s,x]=>match E.dB t,E.dB Y with
   | some (.slice e),some (.slice _)=>match E.tt e with
    | some d=>if d.bytes<=4096/\0<d.bytes then some (.l (.append d.size),[s,x])else none
    | none=>none
   | some (.slice e),some (.int _)=>(E.tt e).map λd=>(.l (.appMk d.size d.bytes d.zero),[s,x])
   | _,_=>none
  | _,_=>none
 | .call { callee:=.builtin .len,args,argTypes }=>match argTypes[0]?,args.toList with
  | some t,[x]=>match E.dB t with
   | some .str=>some (.p .lenStr,[x])
   | some (.slice _)=>some (.p .lenSl,[x])
   | _=>none
  | _,_=>none
 | .call { callee:=.builtin .cap,args,argTypes }=>match argTypes[0]?,args.toList with
  | some t,[x]=>match E.dB t with
   | some (.slice _)=>some (.p .capSl,[x])
   | _=>none
  | _,_=>none
 | .call { callee:=.builtin .clear,args,argTypes }=>match argTypes[0]?,args.toList with
  | some t,[x]=>match E.dB t with
   | some (.slice e)=>(E.tt e).map λd=>(.l (.clear d.size d.zero),[x])
   | _=>none
  | _,_=>none
 | .panic _=>some (.p .bad,[])
 | .makeInterface ..=>some (.p .bad,[])
 | .call { callee:=.builtin .max,args,.. }=>match args.toList with
  | [x,y]=>some (.p .max,[x,y])
  | [x,y,z,t]=>some (.p .max4,[x,y,z,t])
  | _=>none
 | .call { callee:=.builtin .min,args,.. }=>match args.toList with
  | [x,y]=>some (.p .min,[x,y])
  | _=>none
 | .call { callee:=.value f,args,.. }=>some (.c,f::args.toList)
 | _=>none
end Go.VE
namespace Go.VE
variable [bX]
section
variable {E:Env} {nm:FuncId->Option Nat} {N:Nat->FuncId} {F:Frame}
theorem oM {x:Operand} {vs:List V} (h:fI F [x]=some vs):∃a,ev F x=some a/\vs=[a]:=by
 simp[fI]at h
 grind
theorem iW {x:Operand} {l:List Operand} {vs:List V} (h:fI F (x::l)=some vs):∃a az,ev F x=some a/\fI F l=some az/\vs=a::az:=by
 simp[fI]at h
 grind
theorem qd {vs:List V} (h:fI F []=some vs):vs=[]:=by simp[fI]at h;grind
theorem sK {x y:Operand} {vs:List V} (h:fI F [x,y]=some vs):∃a b,ev F x=some a/\ev F y=some b/\vs=[a,b]:=by
 obtain⟨a,az,t,q,rfl⟩:=iW h;obtain⟨b,u,rfl⟩:=oM q
 grind
theorem Gi {x y z:Operand} {vs:List V} (h:fI F [x,y,z]=some vs):∃a b c,ev F x=some a/\ev F y=some b/\ev F z=some c/\vs=[a,b,c]:=by
 obtain⟨a,az,t,q,rfl⟩:=iW h;obtain⟨b,c,u,hc,rfl⟩:=sK q
 grind
theorem Kp {l m:List Operand} {vs:List V} (h:fI F (l++m)=some vs):∃az B,fI F l=some az/\fI F m=some B/\vs=az++B:=by
 induction l generalizing vs with
 | nil=>exact⟨[],vs,rfl,h,rfl⟩
 | cons x l q=>
  obtain⟨a,az,t,u,rfl⟩:=iW h;obtain⟨b,c,w,hc,rfl⟩:=q u;refine⟨a::b,c,?_,hc,rfl⟩;simp[fI,t,w]
theorem JY {l:List Operand} {vs:List V} (h:fI F l=some vs):vs.length=l.length:=by
 induction l generalizing vs with
 | nil=>rw[qd h];rfl
 | cons x l q=>obtain⟨a,az,_,t,rfl⟩:=iW h;grind
def B4 (E:Env) (N:Nat->FuncId) (F:Frame) (op:Op) (vs:List V):K->Prop
 | .p p=>cV op=.pure/\∀v,bh N p vs=some v->bR E F op=some v
 | .r r=>cV op=.read/\∀H v,eS H r vs=some v->dO E F H op=some v
 | .a a=>cV op=.alloc/\∀x,iZ a vs=some x->eN E F op=some x
 | .l l=>cV op=.loud/\∀H x,eY H l vs=some x->cO E F H op=some x
 | .e _=>False
 | .c=>cV op=.call/\∃f az,vs=f::az/\jS F op=(match f with|.clo g a b=>some (.fn g,a++az++b)|.yld id=>some (.yld id,az)|_=>none)
theorem G5 (place:Nat->Option (Nat×Nat)):∀(ps:List (Nat×Operand)) (q:List (Nat×Nat)) (vs:List V) (cells cs:List V),(ps.mapM λ(x:Nat×Operand)=>place x.1)=some q ->
 fI F (ps.map λ(x:Nat×Operand)=>x.2)=some vs->kB cells q vs=some cs->∃B,mb F ps=some B/\tS place cells B=some cs:=by
 intro ps
 induction ps with
 | nil=>
  intro q vs cells cs t hv h;simp  at t;subst t;have:=qd (by simpa using hv);subst this
  simp[kB]at h;subst h;exact⟨[],rfl,rfl⟩
 | cons p ps A=>
  intro q vs cells cs t hv h;obtain⟨i,x⟩:=p;simp only[List.mapM_cons,Option.pure_def,Option.bind_eq_bind,ζg,ζa]at t;obtain⟨pl,u,C,w,rfl⟩:=t;obtain⟨a,az,D,z,rfl⟩:=iW (by simpa using hv)
  simp only[kB]at h;split at h
  .simp_all
  .obtain⟨B,h1,G⟩:=A C az _ cs w z h;refine⟨(i,a)::B,by simp[mb,D,h1],?_⟩
   simp[tS,u]
   grind
theorem LW:∀(ps:List (Nat×Operand)) (vs:List V),fI F (ps.map λ(x:Nat×Operand)=>x.2)=some vs->mb F ps=some ((ps.map λ(x:Nat×Operand)=>x.1).zip vs):=by
 intro ps
 induction ps with
 | nil=>simp[mb]
 | cons p ps t=>
  intro vs hv;obtain⟨a,az,u,q,rfl⟩:=iW (by simpa using hv)
  simp[mb,u,t az q]
theorem GO {G D:Option Operand} {vs:List V} {l h:Option Int} (hv:fI F (G.toList++D.toList)=some vs) (B:lC G.isSome D.isSome vs=some (l,h)):jM F G=some l/\jM F D=some h:=by
 cases G with
 | none=>
  cases D with
  | none=>
   have:=qd (by simpa using hv);subst this;obtain⟨rfl,rfl⟩:=B;exact⟨rfl,rfl⟩
  | some y=>
   obtain⟨b,q,rfl⟩:=oM (by simpa using hv)
   cases b <;> simp[lC]at B;obtain⟨rfl,rfl⟩:=B;simp[jM,q]
 | some x=>
  cases D with
  | none=>
   obtain⟨b,q,rfl⟩:=oM (by simpa using hv)
   cases b <;> simp[lC]at B;obtain⟨rfl,rfl⟩:=B;simp[jM,q]
  | some y=>
   obtain⟨a,b,t,q,rfl⟩:=sK (by simpa using hv)
   cases a <;> cases b <;> simp[lC]at B;obtain⟨rfl,rfl⟩:=B;simp[jM,t,q]
theorem zG {t:TypeId} {kk:wR} {k:V} (h:CN E t=some kk) (hk:pL kk k=true):wq E t k=true:=by
 unfold CN at h;unfold wq
 cases u:E.dB t with
 | none=>grind
 | some w=>
  rw[u]at h;have gen:(E.eqN t).map wR.ints=some kk->∃n q,E.eqN t=some n/\k=.agg q/\(q.length==n&&(iC q).isSome)=true:=by
   intro h;simp  at h;obtain⟨n,z,rfl⟩:=h;cases k <;> simp[pL]at hk <;> first|grind|grind
  cases w with
  | int A=>
   simp  at h;subst h;cases k <;> simp[pL]at hk
   grind
  | str=>
   simp  at h;subst h;cases k <;> simp[pL]at hk;rfl
  | _=>
   obtain⟨n,q,h1,rfl,B⟩:=gen h;simp_all
theorem kA (hN:∀f s,nm f=some s->N s=f) {op:Op} {k:K} {os:List Operand} {vs:List V} (h:resolve E nm op=some (k,os)) (hv:fI F os=some vs):B4 E N F op vs k:=by
 cases op with
 | move x=>
  obtain⟨rfl,rfl⟩:=h;obtain⟨a,B,rfl⟩:=oM hv;exact⟨rfl,λv w=>by simpa [bh,bR,B]using w⟩
 | assign x=>
  obtain⟨rfl,rfl⟩:=h;obtain⟨a,B,rfl⟩:=oM hv;exact⟨rfl,λv w=>by simpa [bh,bR,B]using w⟩
 | pick c a b=>
  simp[resolve]at h;obtain⟨rfl,rfl⟩:=h;obtain⟨x,y,z,hx,hy,U,rfl⟩:=Gi hv;refine⟨rfl,λv w=>?_⟩
  cases x <;> simp[bh]at w;rename_i t;subst w;cases t <;> simp[bR,hx,hy,U]
 | nilCheck x=>
  simp[resolve]at h;obtain⟨rfl,rfl⟩:=h;obtain⟨a,B,rfl⟩:=oM hv;refine⟨rfl,λv w=>?_⟩
  cases a <;> simp[bh,Kr]at w <;> subst w <;> simp[bR,B]
 | binOp ah t x y yt=>
  simp only[resolve,ζa,ζc]at h;obtain⟨rfl,rfl⟩:=h;obtain⟨a,b,B,G,rfl⟩:=sK hv;exact⟨rfl,λv w=>by simp only[bR,B,G,Q5];exact w⟩
 | unOp u t x=>
  cases u with
  | not=>
   simp only[resolve,ζa,ζc]at h;obtain⟨rfl,rfl⟩:=h;obtain⟨a,B,rfl⟩:=oM hv;refine⟨rfl,λv w=>?_⟩
   cases a <;> simp[bh]at w;subst w;simp[bR,B]
  | neg=>
   simp only[resolve,ζa,ζc]at h;obtain⟨rfl,rfl⟩:=h;obtain⟨a,B,rfl⟩:=oM hv;refine⟨rfl,λv w=>?_⟩
   cases a <;> simp[bh]at w;subst w;simp[bR,B]
  | _=>simp[resolve]at h
 | convert s d x=>
  simp only[resolve]at h;split at h
  .rename_i sd td hs C;split at h
   .rename_i k hk;simp only[ζa,ζc]at h;obtain⟨rfl,rfl⟩:=h;obtain⟨a,B,rfl⟩:=oM hv;refine⟨rfl,λv w=>?_⟩
    cases a <;> simp[bh]at w;subst w;simp[bR,B,hs,C,hk]
   .simp at h
  .simp at h
 | fieldAddr s x f=>
  simp only[resolve]at h;split at h
  .rename_i fs hk;split at h
   .rename_i off t W;split at h
    .rename_i d C;split at h
     .simp at h
     .rename_i U;simp only[ζa,ζc]at h;obtain⟨rfl,rfl⟩:=h;obtain⟨a,B,rfl⟩:=oM hv;refine⟨rfl,λv w=>?_⟩
      simp only[bR,B,hk,W,C,if_neg U];simp only[bh,gZ]at w;cases a <;> simp at w ⊢ <;> exact w
    .simp at h
   .simp at h
  .simp at h
 | field s x f=>
  simp only[resolve]at h;split at h
  .rename_i fs hk;split at h
   .rename_i off t W;split at h
    .rename_i d C;simp only[ζa,ζc]at h;obtain⟨rfl,rfl⟩:=h;obtain⟨a,B,rfl⟩:=oM hv;refine⟨rfl,λv w=>?_⟩
     cases a <;> simp only[bh]at w <;> first|(simp only[bR,B,hk,W,C];exact w)|simp at w
    .simp at h
   .simp at h
  .simp at h
 | indexAddr t x i=>
  simp only[resolve]at h;split at h
  .rename_i e hk;simp only[ζf,ζc]at h;obtain⟨d,C,rfl,rfl⟩:=h;obtain⟨a,b,B,G,rfl⟩:=sK hv;refine⟨rfl,λv w=>?_⟩
   cases b <;> simp only[bh]at w <;> first|simp at w;done|skip
   simp only[bR,B,G,hk,C];unfold lG at w;exact w
  .rename_i len e hk;simp only[ζf,ζc]at h;obtain⟨d,C,rfl,rfl⟩:=h;obtain⟨a,b,B,G,rfl⟩:=sK hv;refine⟨rfl,λv w=>?_⟩
   cases b <;> simp only[bh]at w <;> first|simp at w;done|skip
   simp only[bR,B,G,hk,C];unfold wm at w;exact w
  .simp at h
 | index t x i=>
  simp only[resolve]at h;split at h
  .rename_i hk;simp only[ζa,ζc]at h;obtain⟨rfl,rfl⟩:=h;obtain⟨a,b,B,G,rfl⟩:=sK hv;refine⟨rfl,λv w=>?_⟩
   cases a <;> cases b <;> simp only[bh]at w <;> first|simp at w;done|skip
   simp only[bR,B,G,hk];exact w
  .rename_i len e hk;simp only[ζf,ζc]at h;obtain⟨d,C,rfl,rfl⟩:=h;obtain⟨a,b,B,G,rfl⟩:=sK hv;refine⟨rfl,λv w=>?_⟩
   cases a <;> cases b <;> simp only[bh]at w <;> first|simp at w;done|skip
   simp only[bR,B,G,hk,C];exact w
  .simp at h
 | slice t x lo hi mx=>
  simp only[resolve]at h;split at h
  .rename_i hk;simp only[ζa,ζc]at h;obtain⟨rfl,rfl⟩:=h;obtain⟨a,bs,B,G,rfl⟩:=iW hv;refine⟨rfl,λv w=>?_⟩
   cases a <;> simp only[bh]at w <;> first|simp at w;done|skip
   obtain⟨⟨l,h⟩,X,w⟩:=ζg.1 w;obtain⟨h1,S⟩:=GO G X;have hm:jM F none=some none:=rfl;simp only[bR,B,hk,h1,S,hm];exact w
  .rename_i e hk;simp only[ζf,ζc]at h;obtain⟨d,C,rfl,rfl⟩:=h;obtain⟨a,bs,B,G,rfl⟩:=iW hv;refine⟨rfl,λv w=>?_⟩
   simp only[bh]at w;obtain⟨⟨l,h⟩,X,w⟩:=ζg.1 w;obtain⟨h1,S⟩:=GO G X;have hm:jM F none=some none:=rfl;simp only[bR,B,hk,h1,S,hm,C];cases a <;> exact w
  .rename_i e m hk;split at h
   .rename_i d hh C;simp only[ζa,ζc]at h;obtain⟨rfl,rfl⟩:=h;obtain⟨a,b,c,B,G,hc,rfl⟩:=Gi hv;refine⟨rfl,λv w=>?_⟩
    cases b <;> cases c <;> simp only[bh]at w <;> first|simp at w;done|skip
    rename_i k1 n1 k2 n2;split at w
    .rename_i T;simp only[ζh,beq_iff_eq]at T;obtain⟨⟨h1,rfl⟩,rfl⟩:=T;have m1:jM F none=some none:=rfl;have m2:jM F (some hh)=some (some 0):=by simp[jM,G]
     have m3:jM F (some m)=some (some 0):=by simp[jM,hc]
     simp only[bR,B,hk,m1,m2,m3,C];cases a <;> simp[IY]at h1 <;> exact w
    .simp at w
   .simp at h
  .simp at h
 | build t ps=>
  simp only[resolve]at h;split at h
  .rename_i d C;split at h
   .rename_i fs hk;split at h
    .rename_i pl ab;simp only[ζf,ζc]at h;obtain⟨q,hq,rfl,rfl⟩:=h;refine⟨rfl,λv w=>?_⟩
     simp only[bh,ζf]at w;obtain⟨cs,Y,rfl⟩:=w;obtain⟨ws,w1,w2⟩:=G5 (λi=>pl[i]?) _ q vs _ cs hq hv Y
     simp only[bR,C,w1,hk,ab,w2,Option.map_some]
    .simp at h
   .rename_i len e hk;simp only[ζf,ζc]at h;obtain⟨de,ad,rfl,rfl⟩:=h;refine⟨rfl,λv w=>?_⟩
    simp only[bh,ζf]at w;obtain⟨cs,Y,rfl⟩:=w;obtain⟨ws,w1,w2⟩:=G5 (λi=>some (i*de.size,de.size)) ps.toList (ps.toList.map λq=>(q.1*de.size,de.size)) vs _ cs (by
     generalize ps.toList=l
     induction l with
     | nil=>rfl
     | cons x l ih=>simp[List.mapM_cons,ih]) hv Y
    simp only[bR,C,w1,hk,ad,w2,Option.map_some]
   .simp at h
  .simp at h
 | makeFunc f a b=>
  cases f with
  | func f=>
   simp only[resolve,ζf,ζc]at h;obtain⟨s,hs,rfl,rfl⟩:=h;obtain⟨az,bs,B,G,rfl⟩:=Kp hv;refine⟨rfl,λv w=>?_⟩
   simp only[bh,ζa]at w;subst w;simp only[bR,B,G,hN f s hs];rw[<-JY B];simp
  | _=>simp[resolve]at h
 | extract x i=>
  simp only[resolve,ζa,ζc]at h;obtain⟨rfl,rfl⟩:=h;obtain⟨a,B,rfl⟩:=oM hv;refine⟨rfl,λv w=>?_⟩
  cases a <;> simp only[bh]at w <;> first|simp at w;done|skip
  simp only[bR,B];exact w
 | load t x=>
  simp only[resolve,ζf,ζc]at h;obtain⟨d,C,rfl,rfl⟩:=h;obtain⟨a,B,rfl⟩:=oM hv;exact⟨rfl,λH v w=>by simp only[dO,C,B];exact w⟩
 | lookup t m k ok=>
  simp only[resolve]at h;split at h
  .rename_i kt et hk;split at h
   .rename_i d kk C J;simp only[ζf,ζc]at h;obtain⟨z,U,rfl,rfl⟩:=h;obtain⟨a,b,B,G,rfl⟩:=sK hv;refine⟨rfl,λH v w=>?_⟩
    simp only[eS]at w;split at w
    .rename_i aa L;split at w
     .rename_i O;simp only[dO,hk,B,G,C,L,zG J O,if_true,U];split at w
      .rename_i W;rw[W];exact w
      .rename_i W;rw[W];exact w
      .simp at w
     .simp at w
    .simp at w
   .simp at h
  .simp at h
 | alloc t=>
  simp only[resolve,ζf,ζc]at h;obtain⟨d,C,rfl,rfl⟩:=h;have:=qd hv;subst this;exact⟨rfl,λx w=>by simpa [iZ,eN,C]using w⟩
 | box t x=>
  simp only[resolve,ζa,ζc]at h;obtain⟨rfl,rfl⟩:=h;obtain⟨a,B,rfl⟩:=oM hv;exact⟨rfl,λx w=>by simp only[eN,B];exact w⟩
 | makeSlice t l c=>
  simp only[resolve]at h;split at h
  .rename_i e hk;split at h
   .rename_i d C;split at h
    .rename_i Q;simp only[ζa,ζc]at h;obtain⟨rfl,rfl⟩:=h;obtain⟨a,b,B,G,rfl⟩:=sK hv;refine⟨rfl,λx w=>?_⟩
     cases a <;> cases b <;> simp only[iZ]at w <;> first|simp at w;done|skip
     rename_i k1 n1 k2 n2;split at w
     .rename_i hc;simp only[eN,hk,B,G,C];rw[if_pos ⟨hc.1,hc.2.1,hc.2.2.1,hc.2.2.2.1,hc.2.2.2.2,Q⟩];exact w
     .simp at w
    .simp at h
   .simp at h
  .simp at h
 | buildSlice t len ps=>
  simp only[resolve]at h;split at h
  .rename_i e hk;split at h
   .rename_i d C;split at h
    .rename_i Q;simp only[ζa,ζc]at h;obtain⟨rfl,rfl⟩:=h;refine⟨rfl,λx w=>?_⟩
     have U:=LW _ _ hv;simp only[iZ]at w;split at w
     .simp only[eN,hk,U,C,if_pos Q];exact w
     .simp at w
    .simp at h
   .simp at h
  .simp at h
 | makeMap t r=>
  cases r with
  | none=>
   simp only[resolve,ζa,ζc]at h;obtain⟨rfl,rfl⟩:=h;have:=qd hv;subst this;exact⟨rfl,λx w=>by simpa [iZ,eN]using w⟩
  | some r=>simp[resolve]at h
 | store t p x=>
  simp only[resolve,ζf,ζc]at h;obtain⟨d,C,rfl,rfl⟩:=h;obtain⟨a,b,B,G,rfl⟩:=sK hv;refine⟨rfl,λH v w=>?_⟩
  cases a <;> simp only[eY]at w <;> first|simp at w;done|skip
  simp only[cO,C,B,G];exact w
 | mapUpdate t m k x=>
  simp only[resolve]at h;split at h
  .rename_i kt et hk;simp only[ζf,ζc]at h;obtain⟨kk,J,rfl,rfl⟩:=h;obtain⟨a,b,c,B,G,hc,rfl⟩:=Gi hv;refine⟨rfl,λH v w=>?_⟩
   cases a <;> simp only[eY]at w <;> first|simp at w;done|skip
   simp only[cO,hk,B,G,hc];split at w
   .rename_i aa L;split at w
    .rename_i O;rw[L];simp only[zG J O,if_true];exact w
    .simp at w
   .simp at w
  .simp at h
 | insert t m k x=>
  simp only[resolve]at h;split at h
  .rename_i kt et hk;simp only[ζf,ζc]at h;obtain⟨kk,J,rfl,rfl⟩:=h;obtain⟨a,b,c,B,G,hc,rfl⟩:=Gi hv;refine⟨rfl,λH v w=>?_⟩
   cases a <;> simp only[eY]at w <;> first|simp at w;done|skip
   simp only[cO,hk,B,G,hc];split at w
   .rename_i aa L;split at w
    .rename_i O;rw[L];simp only[zG J O,if_true];exact w
    .simp at w
   .simp at w
  .simp at h
 | call c=>
  obtain⟨callee,args,ai⟩:=c
  cases callee with
  | value f=>
   simp only[resolve,ζa,ζc]at h;obtain⟨rfl,rfl⟩:=h;obtain⟨a,az,B,has,rfl⟩:=iW hv;refine⟨rfl,a,az,rfl,?_⟩;simp only[jS,B,has];cases a <;> rfl
  | builtin b=>
   cases b with
   | append=>
    simp only[resolve]at h;split at h
    .rename_i t t' s x I A;split at h
     .rename_i e e' hk Z;split at h
      .rename_i d C;split at h
       .rename_i Q;simp only[ζa,ζc]at h;obtain⟨rfl,rfl⟩:=h;obtain⟨a,b,B,G,rfl⟩:=sK hv;refine⟨rfl,λH v w=>?_⟩
        have D:fI F args.toList=some [a,b]:=by rw[A];exact hv
        simp only[cO,I,D,hk,Z,C];simp only[eY]at w;split at w
        .rename_i h1 S;rw[h1,S];exact w
        .rename_i xs ys ae h1 S;rw[h1,S];split at w
         .rename_i af;simp only[if_pos (show xs.length+ys.length<=2147483648/\d.bytes<=4096/\0<d.bytes from⟨af,Q⟩)]
          cases ys with
          | nil=>exact absurd rfl ae
          | cons y ys=>exact w
         .simp at w
        .simp at w
       .simp at h
      .simp at h
     .rename_i e kk hk Z;simp only[ζf,ζc]at h;obtain⟨d,C,rfl,rfl⟩:=h;obtain⟨a,b,B,G,rfl⟩:=sK hv;refine⟨rfl,λH v w=>?_⟩
      have D:fI F args.toList=some [a,b]:=by rw[A];exact hv
      simp only[cO,I,D,hk,Z,C];exact w
     .simp at h
    .simp at h
   | cap=>
    simp only[resolve]at h;split at h
    .rename_i t x I A;split at h
     .rename_i e hk;simp only[ζa,ζc]at h;obtain⟨rfl,rfl⟩:=h;obtain⟨a,B,rfl⟩:=oM hv;have D:fI F args.toList=some [a]:=by rw[A];exact hv
      refine⟨rfl,λx w=>?_⟩
      simp only[bR,I,D,hk];simp only[bh]at w;cases a <;> simp only[Ff]at w <;> first|(simp at w;done)|exact w
     .simp at h
    .simp at h
   | clear=>
    simp only[resolve]at h;split at h
    .rename_i t x I A;split at h
     .rename_i e hk;simp only[ζf,ζc]at h;obtain⟨d,C,rfl,rfl⟩:=h;obtain⟨a,B,rfl⟩:=oM hv;have D:fI F args.toList=some [a]:=by rw[A];exact hv
      refine⟨rfl,λH v w=>?_⟩
      simp only[cO,I,D,hk,C];exact w
     .simp at h
    .simp at h
   | len=>
    simp only[resolve]at h;split at h
    .rename_i t x I A;split at h
     .rename_i hk;simp only[ζa,ζc]at h;obtain⟨rfl,rfl⟩:=h;obtain⟨a,B,rfl⟩:=oM hv;have D:fI F args.toList=some [a]:=by rw[A];exact hv
      refine⟨rfl,λv w=>?_⟩
      cases a <;> simp only[bh]at w <;> first|simp at w;done|skip
      simp only[bR,D,I,hk];exact w
     .rename_i e hk;simp only[ζa,ζc]at h;obtain⟨rfl,rfl⟩:=h;obtain⟨a,B,rfl⟩:=oM hv;have D:fI F args.toList=some [a]:=by rw[A];exact hv
      refine⟨rfl,λv w=>?_⟩
      simp only[bR,D,I,hk];simp only[bh,og]at w;cases a <;> simp at w ⊢ <;> exact w
     .simp at h
    .simp at h
   | max=>
    simp only[resolve]at h;split at h
    .rename_i x y A;simp only[ζa,ζc]at h;obtain⟨rfl,rfl⟩:=h;obtain⟨a,b,B,G,rfl⟩:=sK hv;have D:fI F args.toList=some [a,b]:=by rw[A];exact hv
     refine⟨rfl,λv w=>?_⟩
     cases a <;> cases b <;> simp only[bh]at w <;> first|simp at w;done|skip
     simp only[bR,D];exact w
    .rename_i x y z t A;simp only[ζa,ζc]at h;obtain⟨rfl,rfl⟩:=h;obtain⟨a,aj,B,S,rfl⟩:=iW hv;obtain⟨b,c,d,G,hc,C,rfl⟩:=Gi S;have D:fI F args.toList=some [a,b,c,d]:=by rw[A];exact hv
     refine⟨rfl,λv w=>?_⟩
     cases a <;> cases b <;> simp only[bh]at w <;> first|simp at w;done|skip
     cases c <;> cases d <;> simp only[bh]at w <;> first|simp at w;done|skip
     simp only[bR,D];exact w
    .simp at h
   | min=>
    simp only[resolve]at h;split at h
    .rename_i x y A;simp only[ζa,ζc]at h;obtain⟨rfl,rfl⟩:=h;obtain⟨a,b,B,G,rfl⟩:=sK hv;have D:fI F args.toList=some [a,b]:=by rw[A];exact hv
     refine⟨rfl,λv w=>?_⟩
     cases a <;> cases b <;> simp only[bh]at w <;> first|simp at w;done|skip
     simp only[bR,D];exact w
    .simp at h
   | _=>simp[resolve]at h
  | _=>simp[resolve]at h
 | panic x=>
  simp only[resolve,ζa,ζc]at h;obtain⟨rfl,rfl⟩:=h;have:=qd hv;subst this;exact⟨rfl,λx w=>by simp[bh]at w⟩
 | makeInterface t x=>
  simp only[resolve,ζa,ζc]at h;obtain⟨rfl,rfl⟩:=h;have:=qd hv;subst this;exact⟨rfl,λx w=>by simp[bh]at w⟩
 | _=>simp[resolve]at h
end
end Go.VE
namespace Go.VE
variable [bX]
def zH (c c':dn):Prop:=∀x a H r,c x a H=some r->c' x a H=some r
section
variable {E:Env} {c c':dn} {n:Nat} {ops:List Oper} {F F':Frame} {H H':bl}
theorem sF (h:zH c c') {f:FuncId} {args:List V} {y:V} (B:cz c f args H=some y):cz c' f args H=some y:=by
 unfold cz at B ⊢;split at B
 .split at B
  .rename_i hc;rw[h _ _ _ _ hc];exact B
  .simp at B
 .simp at B
theorem GC (h:zH c c') {f:FuncId} {args:List V} {r:V×bl} (B:kW c f args H=some r):kW c' f args H=some r:=by
 unfold kW at B ⊢;split at B
 .split at B
  .rename_i hc;rw[h _ _ _ _ hc];exact B
  .simp at B
 .simp at B
theorem zF (h:zH c c') {f:FuncId} {args:List V} {r:V×bl} (B:e9 E c f args H=some r):e9 E c' f args H=some r:=by
 unfold e9 at B ⊢;split
 .rename_i q;rw[if_pos q]at B;exact GC h B
 .rename_i q;rw[if_neg q]at B;exact h _ _ _ _ B
theorem zW {f:FuncId} {args:List V} {y G:V} {b:Nat} (h1:cz c f args (H.take b)=none) (B:cz c f args H=some y) (D:cz c' f args (H.take b)=some G):False:=by
 unfold cz at h1 B D;split at D
 .rename_i az has;have q:borrows 8 H args=some az:=mG (AX 8) has;rw[q]at B;rw[has]at h1;simp only at h1 B;rw[h1]at B;simp at B
 .simp at D
theorem KU (h:zH c c') {place:Option (Nat×Nat)} {op:Op} {r:V×bl} (B:c8 E c ops place F H op=some r):c8 E c' ops place F H op=some r:=by
 unfold c8 at B ⊢;split at B
 .exact B
 .exact B
 .exact B
 .exact B
 .split at B
  .rename_i f args w;split at B
   .rename_i hk;rw[if_pos hk];split at B
    .exact zF h B
    .skip
     split at B
     .rename_i u;rw[if_pos u];exact zF h B
     .simp at B
   .rename_i hk;rw[if_neg hk];split at B
    .skip
     split at B
     .rename_i y t;rw[sF h t];exact B
     .simp at B
    .rename_i b i
     skip
     split at B
     .rename_i y t;rw[sF h t];exact B
     .rename_i q;split at B
      .rename_i u;split at B
       .rename_i y t
        cases z:cz c' f args (List.take b H)with
        | some A=>exact(zW q t z).elim
        | none=>simp only[if_pos u,sF h t];exact B
       .simp at B
      .simp at B
  .rename_i id args w;split at B
   .exact h _ _ _ _ B
   .skip
    split at B
    .rename_i u;rw[if_pos u];exact h _ _ _ _ B
    .simp at B
  .simp at B
theorem CC (h:zH c c') {place:Option (Nat×Nat)} {o:Oper} {r:Frame×bl} (B:gu E c n ops place o F H=some r):gu E c' n ops place o F H=some r:=by
 unfold gu at B ⊢;split at B
 .rename_i q;rw[if_pos q];split at B
  .rename_i v H1 t;rw[KU h t];exact B
  .simp at B
 .rename_i q;rw[if_neg q];exact B
theorem AH (h:zH c c') {r:Frame×bl}:∀(l:List Oper) {F:Frame} {H:bl},mh E c n ops l F H=some r->mh E c' n ops l F H=some r
 | [],_,_,B=>B
 | o::l,F,H,B=>by
  simp only[mh]at B ⊢;split at B
  .rename_i F1 H1 D;rw[CC h D];exact AH h l B
  .simp at B
theorem AK (h:zH c c') {base:Nat} {r:Frame×bl}:∀(l:List Nat) {F:Frame} {H:bl},jQ E c n ops base l F H=some r->jQ E c' n ops base l F H=some r
 | [],_,_,B=>B
 | i::l,F,H,B=>by
  simp only[jQ]at B ⊢;split at B
  .split at B
   .rename_i F1 H1 D;rw[CC h D];exact AK h l B
   .simp at B
  .simp at B
theorem CW (h:zH c c') {B:Bool} {r:Frame×bl} (D:jt E c n ops B F H=some r):jt E c' n ops B F H=some r:=by
 unfold jt at D ⊢;split
 .rename_i q;rw[if_pos q]at D;split at D
  .rename_i t;rw[if_pos t];exact AK h _ D
  .simp at D
 .rename_i q;rw[if_neg q]at D;exact AH h _ D
theorem yB {s O:Frame->bl->Option (Out×Frame×bl)} (h:∀F H r,s F H=some r->O F H=some r):∀(k D:Nat),k<=D->∀{F H r},ku s k F H=some r->ku O D F H=some r
 | 0,_,_,F,H,r,B=>by simp[ku]at B
 | k+1,0,hk,F,H,r,B=>by omega
 | k+1,D+1,hk,F,H,r,B=>by
  simp only[ku]at B ⊢;split at B
  .rename_i F1 H1 U;rw[h _ _ _ U];exact yB h k D (by omega) B
  .rename_i G;rw[h _ _ _ B];split
   .rename_i F1 H1 J;cases J;exact absurd B (G _ _)
   .rfl
theorem zQ (h:zH c c') {lf B:Nat} (J:lf<=B) (ro:Bool) (nt:Nat):∀(code:Code) {F:Frame} {H:bl} {r:Out×Frame×bl},exec E c lf ro nt code F H=some r->exec E c' B ro nt code F H=some r:=by
 intro code
 induction code with
 | skip=>intro F H r q;exact q
 | label l=>intro F H r q;exact q
 | region id ops I=>
  intro F H r q;simp only[exec,ζf]at q ⊢;obtain⟨x,L,rfl⟩:=q;exact⟨x,CW h L,rfl⟩
 | seq a b u z=>
  intro F H r q;simp only[exec]at q ⊢;split at q
  .rename_i F1 H1 h1;rw[u h1];exact z q
  .rename_i A;rw[u q];split
   .rename_i C;cases C;exact absurd q (A _ _)
   .rfl
 | cond x a b u z=>
  intro F H r q;simp only[exec]at q ⊢;split at q
  .rename_i t S;split at q
   .rename_i D;subst D;simp only[if_true];exact u q
   .rename_i D;rw[if_neg D];exact z q
  .simp at q
 | block id a G=>
  intro F H r q;simp only[exec]at q ⊢;split at q
  .rename_i O F1 H1 h1;rw[G h1];exact q
  .rename_i A;rw[G q];split
   .rename_i C;cases C;exact absurd q (A _ _ _)
   .rfl
 | loop a G=>
  intro F H r q;simp only[exec]at q ⊢;exact yB (λF H r hr=>G hr) lf B J q
 | rangeFunc g T U W _ _=>
  intro F H r q;simp only[exec]at q ⊢;split at q
  .split at q
   .rename_i Q H1 hc;rw[h _ _ _ _ hc];exact q
   .simp at q
  .simp at q
 | exit id=>intro F H r q;exact q
 | ret=>intro F H r q;exact q
 | scope a _=>intro F H r q;simp[exec]at q
 | goto l=>intro F H r q;simp[exec]at q
 | refuse w=>intro F H r q;simp[exec]at q
theorem NB (E:Env):∀n,zH (run E n) (run E (n+1)):=by
 intro n
 induction n with
 | zero=>intro x a H r h;simp[run]at h
 | succ n u=>
  intro x a H r h
  cases x with
  | fn f=>
   rw[run]at h ⊢;split at h
   .rename_i Q I;split at h
    .rename_i w;rw[if_pos w];split at h
     .simp at h
     .rename_i o F1 H1 z J;rw[zQ u (Nat.le_succ n) _ _ _ J]
      cases o with
      | exit id=>exact(z id rfl).elim
      | norm=>exact h
      | ret=>exact h
     .simp at h
    .simp at h
   .split at h
    .rename_i A;rw[if_pos A];exact BO (λg args y _ L=>sF u L) h
    .rename_i A;rw[if_neg A];exact h
  | yld id=>
   rw[run]at h ⊢;split at h
   .rename_i rec G;split at h
    .rename_i O;split at h
     .rename_i q;split at h
      .rename_i S H2 B;split at h
       .rename_i r2 C;split at h
        .rename_i t;split at h
         .rename_i o T U D;simp only[if_pos q,zQ u (Nat.le_succ n) _ _ _ B,C,t,zQ u (Nat.le_succ n) _ _ _ D];exact h
         .simp at h
        .simp at h
       .simp at h
      .simp at h
     .simp at h
    .simp at h
   .simp at h
theorem pK (E:Env) {n m:Nat} (h:n<=m):zH (run E n) (run E m):=by
 induction h with
 | refl=>exact λ_ _ _ _ h=>h
 | step _ q=>exact λx a H r h=>NB E _ x a H r (q x a H r h)
end
end Go.VE
namespace Go.VE
variable [bX]
def JQ (P:Program) (f:FuncId):Option FI:=(P.funcs[f]?).bind λfn=>fn.body.map λb=>⟨fn.ntmps,fn.results.toList,b⟩
def Ak (P:Program):Bool:=P.funcs.toList.all λfn => !(fn.name == "runtime.NumGoroutine")
theorem PU {P:Program} (h:Ak P=true) {f:FuncId} {fi:FI} (B:JQ P f=some fi):∃fn,P.funcs[f]? = some fn/\fn.body=some fi.body/\fn.ntmps=fi.ntmps/\fn.results.toList=fi.results/\(fn.name == "runtime.NumGoroutine")=false:=by
 unfold JQ at B;obtain⟨fn,h1,t⟩:=ζg.1 B;obtain⟨b,u,rfl⟩:=ζf.1 t;refine⟨fn,h1,u,rfl,rfl,?_⟩;unfold Ak at h;rw[List.all_eq_true]at h;have w:=h fn (by
  obtain⟨q,rfl⟩:=Array.getElem?_eq_some_iff.1 h1;exact Array.mem_toList_iff.2 (Array.getElem_mem q))
 simpa using w
def Cw (P:Program) (shut keep own:List Nat) (two:List (Nat×Nat)) (srt:FuncId->Bool) (known:FuncId->List V->Option V):Env where
 tt:=tG P
 ft f:=if shut.contains f then none else JQ P f
 keep:=keep.contains
 own:=own.contains
 eqN t:=lk two t
 sort:=srt
 known:=known
theorem Fk {P:Program} {shut keep own:List Nat} {two:List (Nat×Nat)} {srt:FuncId->Bool} {known:FuncId->List V->Option V} (h:Ak P=true) (B:∀p∈two,ta P p.1 p.2):eH P (Cw P shut keep own two srt known) where
 tt t d h:=h
 ft f u q:=by
  change (if shut.contains f then none else JQ P f)=some u at q;split at q
  .cases q
  .exact PU h q
 eqN t n w:=B (t,n) (Lx w)
end Go.VE
namespace Go.VE
variable [bX]
def Al:List (List V)->Option (List Int)
 | []=>some []
 | [.int .i64 n]::r=>(Al r).map (n::·)
 | _=>none
def E9 (n:Nat) (l:List Int):List Int:=l.take n++List.replicate (n-l.length) 0
def C5 (n:Nat) (l:List Int):List V:=(E9 n l).map (V.int .i64)
def wS (n:Nat):List V->Option V
 | [.bH]=>some (.agg (C5 n []))
 | [.c9]=>some (.agg (C5 n []))
 | [.fsl 1 xs]=>(Al xs).map λl=>.agg (C5 n l)
 | _=>none
theorem AU:∀{xs:List (List V)} {l:List Int},Al xs=some l->l.length=xs.length/\∀(i:Nat) (k:Int),l[i]? = some k->xs[i]? = some [V.int .i64 k]
 | [],l,h=>by cases h;grind
 | x::xs,l,h=>by
  unfold Al at h;split at h
  .grind
  .rename_i n r B;obtain⟨rfl,rfl⟩:=B;obtain⟨q,h1,rfl⟩:=ζf.1 h;obtain⟨t,u⟩:=AU h1
   grind
  simp_all
structure Tq (w:World) (v:Value) (l:List Int):Prop where
 at_:∃a cap,v=.slice a l.length cap/\(a=none->l=[])/\∀ad,a=some ad->l=[]\/∃c el fr,ad.spot=none/\w.heap[ad.block]? = some (.cells c el fr)/\ad.off+l.length<=c.size/\(c.toList.drop ad.off).take l.length=l.map (Value.int .i64)
section
variable {P:Program} {I:b_} {μ:Mu} {H:bl} {w:World} {n:Nat}
theorem Tg (s:cM I μ H w) {x:V} {v:Value} {y:V} (hv:bM I μ x v) (B:wS n [x]=some y):∃l,Tq w v l/\y=.agg (C5 n l):=by
 have hc  := by
  cases hv with
  | c _ _ h=>omega
  | _=>simp[wS]at B
 unfold wS at B;split at B
 .rename_i t;obtain⟨rfl,_⟩:=t;cases hc;cases B;exact⟨[],⟨⟨none,0,rfl,λ_=>rfl,λu h=>by cases h⟩⟩,rfl⟩
 .rename_i t;obtain⟨rfl,_⟩:=t;cases hc;cases B;exact⟨[],⟨⟨_,0,rfl,λ_=>rfl,λu h=>.inl rfl⟩⟩,rfl⟩
 .rename_i T t;obtain⟨rfl,_⟩:=t;obtain⟨l,G,rfl⟩:=ζf.1 B;obtain⟨h1,J⟩:=AU G;refine⟨l,?_,rfl⟩
  cases hc with
  | fsl0 _ a cap=>
   have  := List.length_eq_zero_iff.1 h1;subst this;exact⟨⟨_,cap,rfl,λ_=>rfl,λu h=>.inl rfl⟩⟩
  | fsl _ _ b o cap c L D hu U W hr=>
   refine⟨⟨_,cap,(by rw[h1]),(λh=>by cases h),λu z=>.inr ?_⟩⟩
   cases z;obtain⟨el,fr,O⟩:=s.imm b _ L;refine⟨c,el,fr,rfl,O,by grind,?_⟩
   refine List.ext_getElem? λi=>?_
   rw[List.getElem?_take,List.getElem?_map]
   by_cases Q:i<l.length
   .have S:=J i _ (ζd Q);have A:o+i<c.size:=by grind
    have C:c[o+i*1+0]? = some c[o+i]:=by simp[A]
    have:=hr i 0 _ _ _ S rfl C;have e:c[o+i]=.int .i64 l[i]:=by
     generalize c[o+i]=q at this ⊢;cases this;rfl
    grind
   grind
 simp_all
theorem Nb {v:Value} {l:List Int} (h:Tq w v l) {w':World} (hk:∀b,b<w.heap.size->w'.heap[b]? = w.heap[b]?) (n:Nat) :
 (Builtin.lenOf v).run P w'=.ok l.length w'/\(Builtin.firstCells 1 (Nat.min l.length n) v).run P w'=.ok ((l.take n).map (Value.int .i64)).toArray w':=by
 obtain⟨a,cap,rfl,h0,h1⟩:=h.at_;refine⟨by simp[Builtin.lenOf],?_⟩
 cases a with
 | none=>rw[h0 rfl];simp[Builtin.firstCells]
 | some u=>
  rcases h1 u rfl with rfl|⟨c,el,fr,z,hc,t,A⟩
  .simp[Builtin.firstCells,loadCells,loadCellsFrom]
  .obtain⟨b,o,C⟩:=u;simp only at z hc t A;subst z;have B  := (Array.getElem?_eq_some_iff.1 hc).1;have q  := pY (by rw[hk b B];omega)
   have D:Nat.min l.length n<=l.length:=Nat.min_le_left _ _;simp[Builtin.firstCells];rw[vg q (.inl (by omega))]
   have:(c.toList.drop o).take (Nat.min l.length n)=((c.toList.drop o).take l.length).take n:=by
    rw[List.take_take];congr 1;exact Nat.min_comm _ _
   simp_all
variable {f A S e:Nat} {fn:Func} {bytes i1 i2 i3 i4 t1 t2 t6 t7:Nat} {p1 p2 p3 p4 p5 p6 p7:String} {e1 e2 e3 e4 e5 e6 e7:Array Edge}
theorem xH {o:Oper} {a:Act} {w w':World} {K:Act->World->Prop} {Q:Exit->Act->World->Prop} {v:Value} (B:∀c,o.op≠.defer c)
 (h:(execOp a.eval o).run P w=.ok (.value v) w') (D:K (a.put o.dst v) w'):o.wpIn (fr none) 0 P a w K Q:=by
 refine⟨λ_ _=>trivial,?_⟩
 show o.uponIn (fr none) 0 P a K Q ((o.semAt none a.eval).run P w);rw[Oper.semAt_eq none a.eval o B,h,Oper.uponIn_value];omega
theorem Tr {o:Oper} {a:Act} {w w':World} {K:Act->World->Prop} {Q:Exit->Act->World->Prop} (B:∀c,o.op≠.defer c)
 (h:(execOp a.eval o).run P w=.ok .skip w') (D:K (a.put o.dst undef) w'):o.wpIn (fr none) 0 P a w K Q:=by
 refine⟨λ_ _=>trivial,?_⟩
 show o.uponIn (fr none) 0 P a K Q ((o.semAt none a.eval).run P w);rw[Oper.semAt_eq none a.eval o B,h,Oper.uponIn_skip];omega
theorem To {o:Oper} {id:Nat} {a:Act} {w:World} {Q:Exit->Act->World->Prop} (hg:o.guard=none) (h:o.wpIn (fr none) 0 P a w (Q .normal) Q):(Code.region id #[o] false).wpIn (fr none) 0 P Q a w:=by
 refine wpIn_region ?_;simpa [wpOpsIn,Region.wanted,hg]using h
theorem VC {o o2:Oper} {id:Nat} {a:Act} {w:World} {Q:Exit->Act->World->Prop} (hg:o.guard=none) (B:o2.guard=none) (h:o.wpIn (fr none) 0 P a w (λa w=>o2.wpIn (fr none) 0 P a w (Q .normal) Q) Q):(Code.region id #[o,o2] false).wpIn (fr none) 0 P Q a w:=by
 refine wpIn_region ?_;show wpOpsIn _ _ _ _ _ [0,1] _ _;simpa [wpOpsIn,Region.wanted,hg,B]using h
theorem VP {o o2 o3:Oper} {id:Nat} {a:Act} {w:World} {Q:Exit->Act->World->Prop} (hg:o.guard=none) (B:o2.guard=none) (D:o3.guard=none)
 (h:o.wpIn (fr none) 0 P a w (λa w=>o2.wpIn (fr none) 0 P a w (λa w=>o3.wpIn (fr none) 0 P a w (Q .normal) Q) Q) Q):(Code.region id #[o,o2,o3] false).wpIn (fr none) 0 P Q a w:=by
 refine wpIn_region ?_;show wpOpsIn _ _ _ _ _ [0,1,2] _ _;simpa [wpOpsIn,Region.wanted,hg,B,D]using h
theorem Qc (hf:P.funcs[f]? = some fn)
 (hb:fn.body=some (.seq (.region i1 #[⟨some 2,.alloc A,t1,p1,e1,none⟩] false) (.seq (.region i2 #[⟨some 3,.alloc A,t2,p2,e2,none⟩] false)
  (.seq (.region i3 #[⟨some 4,.slice A (.tmp 3) none none none,S,p3,e3,none⟩,⟨some 5,.move (.tmp 0),S,p4,e4,none⟩,⟨some 6,.call { callee:=.builtin .copy,args:=#[.tmp 4,.tmp 5],argTypes:=#[S,S] },t6,p5,e5,none⟩] false)
  (.seq (.region i4 #[⟨some 7,.load A (.tmp 3),A,p6,e6,none⟩,⟨none,.store A (.tmp 2) (.tmp 7),t7,p7,e7,none⟩] false) .ret)))))
 (ay:fn.ntmps=8) (hr:fn.results=#[.cell 2 A]) (ae:(fn.name == "runtime.NumGoroutine")=false)
 (hA:P.underlying A=some (.array n e)) (hS:P.underlying S=some (.slice e)) (he:tG P e=some ⟨1,8,[.int .i64 0],.int .i64⟩) (aA:tG P A=some ⟨n,bytes,List.replicate n (.int .i64 0),.array n e⟩) :
 ∀args y,wS n args=some y->vN P f args y:=by
 intro args y hy;refine⟨⟨fn,hf,by simp[hb],ae⟩,λI μ H w vs s hv=>?_⟩
 obtain⟨x,rfl⟩:∃x,args=[x]:=by
  match args,hy with
  | [],h=>simp[wS]at h
  | [x],_=>exact⟨x,rfl⟩
  | _::_::_,h=>simp[wS]at h
 obtain⟨v,rfl⟩:=List.length_eq_one_iff.1 (hv.1.symm);obtain⟨l,ak,rfl⟩:=Tg s (hv.2 0 x v rfl rfl) hy;have tA:=nT.B3 aA;have te:=nT.B3 he;obtain⟨z,hz,al,aJ,aK⟩:=tA.z8;have O:z.cells.size=n:=by have:=(al (λ_=>none) (λ_=>none)).1;simp at this;omega
 have key:∀u,bM (λ_=>none) (λ_=>none) (.int .i64 0) u->u=.int .i64 0:=λu h=>by cases h with|c _ _ h=>cases h;rfl
 have aB:z.cells.toList=List.replicate n (.int .i64 0):=by
  refine List.ext_getElem? λi=>?_
  by_cases hi:i<n
  .have h2:=(al (λ_=>none) (λ_=>none)).2 i (.int .i64 0) (z.cells[i]'(by omega)) (by simp[hi]) (by simp)
   rw[List.getElem?_replicate,if_pos hi];have  := key _ h2;simp[this,O,hi]
  .rw[List.getElem?_eq_none (by simp;omega),List.getElem?_eq_none (by simp;omega)]
 have B:∀w,(Instr.alloc A true (.tuple #[])).run P w=.ok (.pointer (some ⟨w.heap.size,0,none⟩)) (w.alloc (.cells z.cells A)):=by
  intro w;unfold Instr.alloc;simp[Sem.run_bind,hz,Result.andThen_ok,C1,Sem.run_pure]
 have aa:(w.alloc (.cells z.cells A)).heap.size=w.heap.size+1:=by simp
 generalize G:(w.alloc (.cells z.cells A)).alloc (.cells z.cells A)=t;have am:t.heap.size=w.heap.size+2:=by subst G;simp
 have an:∀b,b<w.heap.size->t.heap[b]? = w.heap[b]? := by
  intro b hb;subst G;rw[js _ _ (by omega),js _ _ hb]
 have aC:t.heap[w.heap.size]? = some (.cells z.cells A):=by subst G;rw[js _ _ (by omega),kF]
 have aD:t.heap[w.heap.size+1]? = some (.cells z.cells A):=by subst G;rw[<-aa,kF]
 have af:t.os=w.os/\t.output=w.output/\t.tape=w.tape/\t.drawn=w.drawn:=by subst G;exact⟨rfl,rfl,rfl,rfl⟩
 have aE:∀a,(Instr.sliceAt A (.pointer (some a)) none none none).run P t=.ok (.slice (some (if n=0 then a else a.add 0)) n n) t:=by
  intro a;unfold Instr.sliceAt;simp[VE.dy hA,Instr.sureAddr,Instr.sliceBounds,te.iF]
 have aF:(if n=0 then ⟨w.heap.size+1,0,none⟩else(⟨w.heap.size+1,0,none⟩:Addr).add 0)=⟨w.heap.size+1,0,none⟩:=by split <;> rfl
 obtain⟨ao,T⟩:=Nb (P:=P) ak an n;have ap:∀(vs:List Value) c,(∀v∈vs,∃k,v=.int c k)->∀v∈vs,v.oneCell'=true:=λvs c h v hv=>by obtain⟨k,rfl⟩:=h v hv;rfl
 obtain⟨U,ab,aq⟩:=om  (o:=0) ((l.take n).map (Value.int .i64)) 0 t z.cells aD (ap _ .i64 (by intro v hv;obtain⟨k,_,rfl⟩:=List.mem_map.1 hv;exact⟨k,rfl⟩)) (by simp[O];omega)
 generalize J:fF t (w.heap.size+1) (.cells U A)=C at ab;have ah:(Builtin.copy_ #[S,S] t6 #[.slice (some ⟨w.heap.size+1,0,none⟩) n n,v]).run P t=.ok (goInt (Nat.min l.length n)) C:=by
  unfold Builtin.copy_;simp[VE.dy hS,te.iF,ao,T];rw[<-List.map_take,ab];rfl
 have ar:∀ρ:Operand->Value,ρ (.tmp 4)=.slice (some ⟨w.heap.size+1,0,none⟩) n n->ρ (.tmp 5)=v ->
  (execOp ρ ⟨some 6,.call { callee:=.builtin .copy,args:=#[.tmp 4,.tmp 5],argTypes:=#[S,S] },t6,p5,e5,none⟩).run P t=.ok (.value (goInt (Nat.min l.length n))) C:=by
  intro ρ h4 h5;simp only[execOp,Go.resolve,Sem.run_bind,Sem.run_pure,Result.andThen_ok,invoke,builtin];have:#[Operand.tmp 4,Operand.tmp 5].map ρ=#[.slice (some ⟨w.heap.size+1,0,none⟩) n n,v]:=by simp[h4,h5]
  rw[this,ah];rfl
 have Q:U.toList=(E9 n l).map (Value.int .i64):=by
  rw[aq];simp[E9,aB];omega
 have q:U.size=n:=by have:=congrArg List.length aq;simp[O]at this;omega
 have au:C.heap[w.heap.size+1]? = some (.cells U A):=by subst J;exact gn _ (by omega)
 have av:C.heap[w.heap.size]? = some (.cells z.cells A):=by subst J;rw[eU _ (by omega)];exact aC
 have ai:(Instr.loadAt A (.pointer (some ⟨w.heap.size+1,0,none⟩))).run P C=.ok (.agg U) C:=by
  unfold Instr.loadAt loadVar;have:=vg (P:=P)   (o:=0) (m:=n)  (pY au) (.inl (by omega))
  have e:((U.toList.drop 0).take n).toArray=U:=by rw[List.drop_zero,List.take_of_length_le (by simp[q])]
  rw[e]at this;have ha:(isAgg A).run P C=.ok true C:=tA.Cm;simp[Instr.sureAddr,ha,tA.iF,this]
 obtain⟨L,ad,aG⟩:=om (P:=P) (o:=0) U.toList 0 C z.cells av (ap _ .i64 (by rw[Q];intro v hv;obtain⟨k,_,rfl⟩:=List.mem_map.1 hv;exact⟨k,rfl⟩)) (by simp[O,q])
 have aw:L=U:=by
  apply Array.toList_inj.1;rw[aG];simp[q,O]
 subst aw;generalize W:fF C w.heap.size (.cells L A)=D at ad;have X:(Instr.storeAt A (.pointer (some ⟨w.heap.size,0,none⟩)) (.agg L)).run P C=.ok () D:=by
  unfold Instr.storeAt storeVar;simp[Instr.sureAddr,tA.iF,Value.cells,q,ad]
 have ax:D.heap[w.heap.size]? = some (.cells L A):=by subst W;exact gn _ (by subst J;simp[rQ];omega)
 refine callsIn_of_wp_marks hf hb trivial ?_;rw[ay];have e0:[v].toArray++Array.replicate (8-[v].toArray.size) undef=#[v,undef,undef,undef,undef,undef,undef,undef]:=rfl;refine wpIn_seq (To rfl (xH (by simp) (dL (B w)) ?_))
 refine wpIn_seq (To rfl (xH (by simp) (dL (B _)) ?_))
 rw[G,aa];show Code.wpIn _ _ _ _ _ { tmps:=#[v,undef,.pointer (some ⟨w.heap.size,0,none⟩),.pointer (some ⟨w.heap.size+1,0,none⟩),undef,undef,undef,undef],defers:=[] } t;refine wpIn_seq (VP rfl rfl rfl (xH (by simp) (dL (aE _)) ?_))
 rw[aF];refine xH (by simp)  rfl ?_
 refine xH (by simp) (ar _ rfl rfl) ?_
 refine wpIn_seq (VC rfl rfl (xH (by simp) (dL ai) ?_))
 show Oper.wpIn _ _ _ _ { tmps:=#[v,undef,.pointer (some ⟨w.heap.size,0,none⟩),.pointer (some ⟨w.heap.size+1,0,none⟩),.slice (some ⟨w.heap.size+1,0,none⟩) n n,v,goInt (Nat.min l.length n),.agg L],defers:=[] } C _ _;refine Tr (by simp) (w':=D) ?_ ?_
 .show (do Instr.storeAt A (.pointer (some ⟨w.heap.size,0,none⟩)) (.agg L);pure Next.skip).run P C=_
  simp[X]
 show Code.wpIn _ _ _ _ _ { tmps:=#[v,undef,.pointer (some ⟨w.heap.size,0,none⟩),.pointer (some ⟨w.heap.size+1,0,none⟩),.slice (some ⟨w.heap.size+1,0,none⟩) n n,v,goInt (Nat.min l.length n),.agg L],defers:=[] } D;refine wpIn_ret ?_;have aH:∀b,b<w.heap.size->C.heap[b]? = w.heap[b]? := by
  intro b hb;subst J;rw[eU _ (by omega),an b hb]
 have aj:∀b,b<w.heap.size->D.heap[b]? = w.heap[b]? := by
  intro b hb;subst W;rw[eU _ (by omega),aH b hb]
 have aI:w.heap.size<=D.heap.size:=by subst W;subst J;simp[rQ,am]
 have Y:D.os=w.os/\D.output=w.output/\D.tape=w.tape/\D.drawn=w.drawn:=by subst W;subst J;exact af
 have Z:(loadVar A ⟨w.heap.size,0,none⟩).run P D=.ok (.agg L) D:=by
  unfold loadVar;have:=vg (P:=P)   (o:=0) (m:=n)  (pY ax) (.inl (by omega))
  have e:((L.toList.drop 0).take n).toArray=L:=by rw[List.drop_zero,List.take_of_length_le (by simp[q])]
  rw[e]at this;have ha:(isAgg A).run P D=.ok true D:=tA.Cm;simp[ha,tA.iF,this]
 refine⟨.agg L,?_,.agg L,I,μ,rfl,.c _ _ (.agg _ _ ?_ ?_),s.kept aj,Step.kept aj aI Y.1 ⟨Y.2.1,Y.2.2.1,by rw[Y.2.2.2];exact Nat.le_refl _⟩ ?_⟩
 .simp[results,hr,asAddr,Z]
 .have:=congrArg List.length Q;simpa [C5]using this.symm
 .intro j x y hx hy;have h1:L.toList[j]? = some y:=by simpa using hy
  rw[Q]at h1;simp only[C5,List.getElem?_map]at hx h1
  cases hp:(E9 n l)[j]? with
  | none=>rw[hp]at hx;cases hx
  | some k=>rw[hp]at hx h1;cases hx;cases h1;exact .int _ _
 .intro a ha h;unfold World.frozen? at h ⊢;rw[aj _ ha];exact h
end
end Go.VE
namespace Go.VE
variable [bX]
variable {P:Program}
theorem Fi (a:List Int) (j:Nat):(ic a)[j]? = (a[j]?).map (Value.int .i64):=by simp[ic]
theorem DB {i:TypeId} {a b:List Int} {n:Nat} (G:a.length=n) (J:b.length=n) (D:tG P i=some ⟨1,8,[.int .i64 0],.int .i64⟩) (B:P.underlying i=some (.int .i64)) (d:Nat) (w:World) :
 ∀(m k:Nat),k+m=n->(Op.eqItems (d+1) i 1 (ic a) (ic b) (List.range' k m)).run P w=.ok (a.drop k==b.drop k) w
 | 0,k,h=>by
  have h1:a.drop k=[]:=List.drop_eq_nil_of_le (by omega)
  have C:b.drop k=[]:=List.drop_eq_nil_of_le (by omega)
  simp[Op.eqItems,h1,C]
 | m+1,k,h=>by
  have t:k<a.length:=by omega
  have u:k<b.length:=by omega
  have pa:(part i (ic a) (k*1)).run P w=.ok (.int .i64 a[k]) w:=q9 D (by rw[Fi,Nat.mul_one];simp[t])
  have H:(part i (ic b) (k*1)).run P w=.ok (.int .i64 b[k]) w:=q9 D (by rw[Fi,Nat.mul_one];simp[u])
  have q:(Op.equalIn (d+1) i (.int .i64 a[k]) (.int .i64 b[k])).run P w=.ok (a[k]==b[k]) w:=A2 d _ _ B;have I:=DB G J D B d w m (k+1) (by omega)
  have z:=List.drop_eq_getElem_cons t;have A:=List.drop_eq_getElem_cons u;simp only[List.range'_succ,Op.eqItems,Sem.run_bind,pa,H,q,Result.andThen_ok]
  by_cases e:a[k]=b[k]
  .rw[z,A,List.cons_beq_cons,e];simp only[beq_self_eq_true,Bool.not_true,Bool.true_and,if_false,Bool.false_eq_true];exact I
  .have:(a[k]==b[k])=false:=by simpa using e
   rw[z,A,List.cons_beq_cons,this];simp only[Bool.not_false,if_true,Bool.false_and,Sem.run_pure]
theorem GZ {i:TypeId} {a:List Int} {n:Nat} (e:Bool) (J:a.length=n) (D:tG P i=some ⟨1,8,[.int .i64 0],.int .i64⟩) (B:P.underlying i=some (.int .i64)) (d:Nat) (w:World) :
 ∀(m k:Nat),k+m=n->(forIn (List.range' k m) PUnit.unit (λj (_:PUnit)=>do
  let s <-sizeOf i
  let v <-part i (ic a) (j*s)
  Instr.checkKey e (d+1) i v
  pure (ForInStep.yield PUnit.unit)):Sem PUnit).run P w=.ok PUnit.unit w
 | 0,k,h=>by simp
 | m+1,k,h=>by
  have G:k<a.length:=by omega
  have pa:(part i (ic a) (k*1)).run P w=.ok (.int .i64 a[k]) w:=q9 D (by rw[Fi,Nat.mul_one];simp[G])
  have u:(sizeOf i).run P w=.ok 1 w:=(nT.B3 D).iF;have q:(Instr.checkKey e (d+1) i (.int .i64 a[k])).run P w=.ok () w:=zX d e _ B;have t:=GZ e J D B d w m (k+1) (by omega)
  simp only[List.range'_succ,List.forIn_cons,Sem.run_bind,u,pa,q,Result.andThen_ok,Sem.run_pure]at t ⊢;exact t
theorem ta.arr {t i:TypeId} {n:Nat} (hu:P.underlying t=some (.array n i)) (J:tG P i=some ⟨1,8,[.int .i64 0],.int .i64⟩) (G:P.underlying i=some (.int .i64)) (O:P.eqGuardType P.depth t=false):ta P t n:=by
 obtain⟨Q,z,A,L,_⟩:=(nT.B3 J).info;have B:P.cellsOf i=1:=by unfold Program.cellsOf;simp[A,L]
 have C:∀(w:World) (a b:List Int),a.length=n->b.length=n->(Op.equal t (.agg (ic a)) (.agg (ic b))).run P w=.ok (a==b) w:=by
  intro w a b D H;show (Op.equalIn (9999+1) t _ _).run P w=_;rw[run_equalIn_array w 9999 _ _ hu A,B,List.range_eq_range'];simpa using DB D H J G 9998 w n 0 (by omega)
 have I:∀(op:BinOp) (p q:Operand) (w:World) (u v:Array Value),(eqGuard op t p q (.agg u) (.agg v)).run P w=.ok () w:=by
  intro op p q w u v;unfold eqGuard;cases op <;> simp[Sem.run_bind,run_program,Result.andThen,O]
 refine⟨?_,?_,C,?_,⟨_,hu,.inl ⟨_,_,rfl⟩⟩⟩
 .intro w p q a b D H;rw[Sem.run_bind,I,Result.andThen_ok];show (do pure (Value.bool (<-Op.equal t (.agg (ic a)) (.agg (ic b)))):Sem Value).run P w=_
  rw[Sem.run_bind,C _ _ _ D H];rfl
 .intro w p q a b D H;rw[Sem.run_bind,I,Result.andThen_ok];show (do pure (Value.bool (!(<-Op.equal t (.agg (ic a)) (.agg (ic b))))):Sem Value).run P w=_
  rw[Sem.run_bind,C _ _ _ D H];rfl
 .intro w e a D;show (Instr.checkKey e (9999+1) t _).run P w=_;unfold Instr.checkKey;simp only[Sem.run_bind,dy hu,Result.andThen_ok];have:=GZ e D J G 9998 w n 0 (by omega)
  simp only[Std.Legacy.Range.forIn_eq_forIn_range',Std.Legacy.Range.size,Nat.sub_zero,Nat.add_one_sub_one,Nat.div_one];rw[show (9998+1:Nat)=9999 from rfl]at this;rw[this];rfl
end Go.VE
namespace Go.VE
variable [bX]
structure CR (E:Env) (c c':dn):Prop where
 Sm:∀f args H y,E.keep f=false->cz c f args H=some y->cz c' f args H=some y
 dir:∀f args H r,E.keep f=true->c (.fn f) args H=some r->c' (.fn f) args H=some r
 yld:∀id args H r,c (.yld id) args H=some r->c' (.yld id) args H=some r
 rng:∀f args H r,H≠[]->c (.fn f) args H=some r->c' (.fn f) args H=some r
section
variable {E:Env} {c c':dn} {n:Nat} {ops:List Oper} {F F':Frame} {H H':bl}
theorem HQ (h:CR E c c') {f:FuncId} {args:List V} {r:V×bl} (hk:E.keep f=true) (B:kW c f args H=some r):kW c' f args H=some r:=by
 unfold kW at B ⊢;split at B
 .split at B
  .rename_i hc;rw[h.dir _ _ _ _ hk hc];omega
  grind
 grind
theorem AL (h:CR E c c') {f:FuncId} {args:List V} {r:V×bl} (hk:E.keep f=true) (B:e9 E c f args H=some r):e9 E c' f args H=some r:=by
 unfold e9 at B ⊢;split
 .rename_i q;rw[if_pos q]at B;exact HQ h hk B
 .rename_i q;rw[if_neg q]at B;exact h.dir _ _ _ _ hk B
theorem A0 {place:Option (Nat×Nat)} {f:FuncId} (h:kE E ops place f=true):E.keep f=true:=by
 unfold kE at h;grind
theorem CR.any (h:CR E c c') {f:FuncId} {args:List V} {H:bl} {y:V} (B:cz c f args H=some y):cz c' f args H=some y:=by
 cases hk:E.keep f with
 | false=>exact h.Sm _ _ _ _ hk B
 | true=>
  unfold cz at B ⊢;split at B
  .split at B
   .rename_i hc;rw[h.dir _ _ _ _ hk hc];omega
   simp_all
  simp_all
theorem NI (h:CR E c c') {place:Option (Nat×Nat)} {op:Op} {r:V×bl} (B:c8 E c ops place F H op=some r):c8 E c' ops place F H op=some r:=by
 unfold c8 at B ⊢;split at B
 .omega
 .omega
 .omega
 .omega
 .split at B
  .rename_i f args w;split at B
   .rename_i hk;rw[if_pos hk];split at B
    .exact AL h (A0 hk) B
    .split at B
     .rename_i u;rw[if_pos u];exact AL h (A0 hk) B
     grind
   .rename_i hk;rw[if_neg hk];split at B
    .split at B
     .rename_i y t;rw[h.any t];omega
     grind
    .rename_i b i;split at B
     .rename_i y t;rw[h.any t];omega
     .rename_i q;split at B
      .rename_i u;split at B
       .rename_i y t
        cases z:cz c' f args (List.take b H)with
        | some A=>exact(zW q t z).elim
        | none=>simp only[if_pos u,h.any t];omega
       grind
      grind
  .split at B
   .exact h.yld _ _ _ _ B
   .split at B
    .rename_i u;rw[if_pos u];exact h.yld _ _ _ _ B
    grind
  grind
theorem D8 (h:CR E c c') {place:Option (Nat×Nat)} {o:Oper} {r:Frame×bl} (B:gu E c n ops place o F H=some r):gu E c' n ops place o F H=some r:=by
 unfold gu at B ⊢;split at B
 .rename_i q;rw[if_pos q];split at B
  .rename_i v H1 t;rw[NI h t];omega
  grind
 grind
theorem Ca (h:CR E c c') {r:Frame×bl}:∀(l:List Oper) {F:Frame} {H:bl},mh E c n ops l F H=some r->mh E c' n ops l F H=some r
 | [],_,_,B=>B
 | o::l,F,H,B=>by
  simp[mh]at B ⊢;split at B
  .rename_i F1 H1 D;rw[D8 h D];exact Ca h l B
  grind
theorem Cy (h:CR E c c') {base:Nat} {r:Frame×bl}:∀(l:List Nat) {F:Frame} {H:bl},jQ E c n ops base l F H=some r->jQ E c' n ops base l F H=some r
 | [],_,_,B=>B
 | i::l,F,H,B=>by
  simp[jQ]at B ⊢;split at B
  .split at B
   .rename_i F1 H1 D;rw[D8 h D];exact Cy h l B
   grind
  grind
theorem EE (h:CR E c c') {B:Bool} {r:Frame×bl} (D:jt E c n ops B F H=some r):jt E c' n ops B F H=some r:=by
 unfold jt at D ⊢;split
 .rename_i q;rw[if_pos q]at D;split at D
  .rename_i t;rw[if_pos t];exact Cy h _ D
  grind
 .rename_i q;rw[if_neg q]at D;exact Ca h _ D
theorem Br (h:CR E c c') {lf B:Nat} (D:lf<=B) (ro:Bool) (nt:Nat):∀(code:Code) {F:Frame} {H:bl} {r:Out×Frame×bl},exec E c lf ro nt code F H=some r->exec E c' B ro nt code F H=some r:=by
 intro code
 induction code with
 | skip=>intro F H r q;exact q
 | label l=>intro F H r q;exact q
 | region id ops z=>
  intro F H r q;simp only[exec,ζf]at q ⊢;obtain⟨x,C,rfl⟩:=q;exact⟨x,EE h C,rfl⟩
 | seq a b t u=>
  intro F H r q;simp[exec]at q ⊢
  grind
 | cond x a b t u=>
  intro F H r q;simp[exec]at q ⊢
  grind
 | block id a A=>
  intro F H r q;simp[exec]at q ⊢
  grind
 | loop a A=>
  intro F H r q;exact yB (λF H r hr=>A hr) lf B D q
 | rangeFunc g I J L _ _=>
  intro F H r q;simp[exec]at q ⊢;split at q
  .split at q
   .rename_i G H1 hc;rw[h.rng _ _ _ _ (by simp) hc];omega
   grind
  grind
 | exit id=>intro F H r q;exact q
 | ret=>intro F H r q;exact q
 | scope a _=>intro F H r q;simp[exec]at q
 | goto l=>intro F H r q;simp[exec]at q
 | refuse w=>intro F H r q;simp[exec]at q
def sj (E:Env) (c:dn) (n:Nat):dn
 | .fn f,args,H=>match E.ft f with
  | some fi=>if args.length<=fi.ntmps then
   match exec E c n false fi.ntmps fi.body args H with
   | some (.exit _,_,_)=>none
   | some (_,F',H')=>(gR E F' H' fi.results).map λvs=>(result vs,H')
   | none=>none
   else none
  | none=>if E.sort f then tq E.keep c args H else(E.known f args).map λy=>(y,H)
 | .yld id,args,H=>match H[id]? with
  | some (.loop r)=>match r.st with
   | .ready=>if args.length=r.params.length/\r.params.all (·<r.nt)then
    match exec E c n true r.nt r.assign (vw r.params args r.frame) H with
    | some (.norm,D,H2)=>match H2[id]? with
     | some (.loop r2)=>match r2.st with
      | .ready=>match exec E c n true r.nt r.body D (H2.set id (.loop { r2 with st:=.busy }))with
       | some (o,_,B)=>match B[id]? with
        | some (.loop r4)=>some (.bool (o==.norm),B.set id (.loop { r4 with st:=(if o==.norm then .ready else .done),pend:=(if o==.norm then none else some o) }))
        | _=>none
       | none=>none
      | _=>none
     | _=>none
    | _=>none
    else none
   | _=>none
  | _=>none
theorem OG (E:Env) (n:Nat):run E (n+1)=sj E (run E n) n:=by
 funext x a H
 cases x with
 | fn f=>rfl
 | yld id=>rfl
theorem zj (h:CR E c c') {n m:Nat} (D:n<=m) {x:Callee} {a:List V} {r:V×bl} (B:sj E c n x a H=some r):sj E c' m x a H=some r:=by
 cases x with
 | fn f=>
  rw[sj]at B ⊢;split at B
  .split at B
   .rename_i A;split at B
    .simp_all
    .rename_i o F1 H1 C G;rw[Br h D _ _ _ G]
     grind
    grind
   grind
  .split at B
   .rename_i I;rw[if_pos I];exact BO (λg args y hk J=>h.Sm _ _ _ _ hk J) B
   grind
 | yld id=>
  rw[sj]at B ⊢;split at B
  .split at B
   .split at B
    .rename_i q;split at B
     .rename_i L H2 u;split at B
      .rename_i r2 w;split at B
       .rename_i t;split at B
        .rename_i o O Q z;simp only[if_pos q,Br h D _ _ _ u,w,t,Br h D _ _ _ z];omega
        grind
       grind
      grind
     grind
    grind
   grind
  grind
mutual
def V.same:Nat->V->V->Bool
 | 0,_,_=>false
 | _+1,.bool a,.bool b=>a==b
 | _+1,.int k a,.int l b=>decide (k=l)&&decide (a=b)
 | _+1,.str a,.str b=>decide (a.data.toList=b.data.toList)
 | _+1,.bH,.bH=>true
 | _+1,.c9,.c9=>true
 | _+1,.gV,.gV=>true
 | _+1,.gw,.gw=>true
 | _+1,.rI,.rI=>true
 | n+1,.agg a,.agg b=>V.qJ n a b
 | n+1,.tup a,.tup b=>V.qJ n a b
 | n+1,.fptr a,.fptr b=>V.qJ n a b
 | n+1,.fsl e a,.fsl B b=>Nat.beq e B&&V.zk n a b
 | n+1,.clo f a b,.clo D a' G=>Nat.beq f D&&V.qJ n a a'&&V.qJ n b G
 | _+1,_,_=>false
def V.qJ:Nat->List V->List V->Bool
 | 0,_,_=>false
 | _+1,[],[]=>true
 | n+1,a::r,b::s=>V.same n a b&&V.qJ n r s
 | _+1,_,_=>false
def V.zk:Nat->List (List V)->List (List V)->Bool
 | 0,_,_=>false
 | _+1,[],[]=>true
 | n+1,a::r,b::s=>V.qJ n a b&&V.zk n r s
 | _+1,_,_=>false
end
theorem Qe:∀n,(∀a b,V.same n a b=true->a=b)/\(∀a b,V.qJ n a b=true->a=b)/\(∀a b,V.zk n a b=true->a=b):=by
 intro n
 induction n with
 | zero=>exact⟨λa b h=>by simp[V.same]at h,λa b h=>by simp[V.qJ]at h,λa b h=>by simp[V.zk]at h⟩
 | succ n q=>
  obtain⟨i1,i2,i3⟩:=q;refine⟨λa b h=>?_,λa b h=>?_,λa b h=>?_⟩
  .cases a <;> cases b <;> simp only[V.same,ζh,decide_eq_true_eq,Bool.false_eq_true]at h <;> first|rfl|grind|skip
   all_goals first
    | grind
    | grind
    | grind
    | (rw[Nat.eq_of_beq_eq_true h.1,i3 _ _ h.2])
    | (rw[Nat.eq_of_beq_eq_true h.1.1,i2 _ _ h.1.2,i2 _ _ h.2])
    | (congr 1;exact ByteArray.ext (Array.ext' h))
  .cases a <;> cases b <;> simp[V.qJ]at h <;> first|rfl|grind|grind
  .cases a <;> cases b <;> simp[V.zk]at h <;> first|rfl|grind|grind
structure jT where
 f:FuncId
 az:List V
 y:V
def yF:List jT->FuncId->List V->Option V
 | [],_,_=>none
 | k::r,f,az=>bif Nat.beq k.f f&&V.qJ 1000 k.az az then some k.y else yF r f az
theorem Ba:∀{l:List jT} {f:FuncId} {az:List V} {y:V},yF l f az=some y->∃k∈l,k.f=f/\k.az=az/\k.y=y
 | [],_,_,_,h=>by simp[yF]at h
 | k::r,f,az,y,h=>by
  unfold yF at h
  cases B:Nat.beq k.f f&&V.qJ 1000 k.az az with
  | true=>
   simp only[ζh]at B;exact⟨k,List.mem_cons_self ..,Nat.eq_of_beq_eq_true B.1,(Qe 1000).2.1 _ _ B.2,by grind⟩
  | false=>
   rw[B]at h;obtain⟨q,h1,D⟩:=Ba h
   grind
def runM (E:Env) (l:List jT):Nat->dn
 | 0,_,_,_=>none
 | n+1,.fn f,az,[]=>match yF l f az with
  | some y=>some (y,[])
  | none=>sj E (runM E l n) n (.fn f) az []
 | n+1,x,az,H=>sj E (runM E l n) n x az H
def vm (E:Env) (n:Nat) (k:jT):Prop:=∃r H1,run E n (.fn k.f) k.az []=some (r,H1)/\borrow 8 H1 r=some k.y
structure lU (E:Env) (k:jT):Prop where
 keep:E.keep k.f=false
 self:borrow 8 [] k.y=some k.y
 cl:k.y.closed=true
 at_:∃n,vm E n k
theorem vm.le {n m:Nat} {k:jT} (h:vm E n k) (B:n<=m):vm E m k:=by
 obtain⟨r,H1,h1,q⟩:=h;exact⟨r,H1,pK E B _ _ _ _ h1,q⟩
theorem zf:∀{l:List jT},(∀k∈l,lU E k)->∃N,∀k∈l,vm E N k
 | [],_=>⟨0,by simp⟩
 | k::r,h=>by
  obtain⟨N,B⟩:=zf (λq hq=>h q (List.mem_cons_of_mem _ hq))
  obtain⟨n,t⟩:=(h k (List.mem_cons_self ..)).at_;refine⟨max N n,λq hq=>?_⟩
  rcases List.mem_cons.1 hq with rfl|hq
  .exact t.le (Nat.le_max_right ..)
  .exact(B q hq).le (Nat.le_max_left ..)
theorem zU {l:List jT} {x:Callee} {az:List V} (h:H≠[]\/(∃id,x=.yld id)\/∃f,x=.fn f/\yF l f az=none):runM E l (n+1) x az H=sj E (runM E l n) n x az H:=by
 rcases h with h|⟨id,rfl⟩|⟨f,rfl,h⟩
 .cases x with
  | yld id=>rw[runM];simp
  | fn f=>
   cases H with
   | nil=>grind
   | cons a r=>rw[runM];simp
 .rw[runM];simp
 .cases H with
  | nil=>rw[runM,h]
  | cons a r=>rw[runM];simp
theorem It {l:List jT} {N:Nat} (B:∀k∈l,lU E k) (D:∀k∈l,vm E N k):∀n,CR E (runM E l n) (run E (N+n)):=by
 intro n
 induction n with
 | zero=>
  refine⟨λf args H y _ h=>?_,λf args H r _ h=>by simp[runM]at h,λid args H r h=>by simp[runM]at h,λf args H r _ h=>by simp[runM]at h⟩
  unfold cz at h;split at h
  .simp[runM]at h
  grind
 | succ n z=>
  have up:∀{x:Callee} {az:List V} {H:bl} {r:V×bl},sj E (runM E l n) n x az H=some r->run E (N+(n+1)) x az H=some r:=λh=>by
   rw[show N+(n+1)=(N+n)+1 from rfl,OG];exact zj z (Nat.le_add_left ..) h
  refine⟨λf args H y hk h=>?_,λf args H r hk h=>?_,λid args H r h=>?_,λf args H r u h=>?_⟩
  .unfold cz at h ⊢;split at h
   .rename_i az has;split at h
    .rename_i r H1 hc
     cases t:yF l f az with
     | none=>
      rw[zU (.inr (.inr ⟨f,rfl,t⟩))]at hc
      grind
     | some C=>
      rw[runM,t]at hc;obtain⟨rfl,rfl⟩:=hc;obtain⟨k,q,rfl,rfl,rfl⟩:=Ba t;have ok:=B k q;obtain⟨r1,H2,h1,G⟩:=(D k q).le (Nat.le_add_right N (n+1));rw[ok.self]at h
      grind
    grind
   grind
  .by_cases t:H≠[]\/(∃id,(Callee.fn f)=.yld id)\/∃w,Callee.fn f=.fn w/\yF l w args=none
   .rw[zU t]at h;exact up h
   .cases A:yF l f args with
    | none=>grind
    | some y=>
     obtain⟨k,q,rfl,_,_⟩:=Ba A;rw[(B k q).keep]at hk;cases hk
  .exact up h
  .rw[zU (.inl u)]at h;exact up h
def TJ (E:Env) (l:List jT) (n:Nat) (k:jT):Option V:=
 match sj E (runM E l n) n (.fn k.f) k.az []with
 | some (r,H1)=>borrow 8 H1 r
 | none=>none
theorem pO {l:List jT} (B:∀k∈l,lU E k) {k:jT} (h:(TJ E l n k,borrow 8 [] k.y,k.y.closed,E.keep k.f)=(some k.y,some k.y,true,false)):lU E k:=by
 simp  at h;obtain⟨N,q⟩:=zf B;refine⟨h.2.2.2,h.2.1,h.2.2.1,N+n+1,?_⟩;have h1:=h.1;unfold TJ at h1;split at h1
 .rename_i r H1 t;refine⟨r,H1,?_,h1⟩;exact zj (It B q n) (Nat.le_add_left ..) t
 grind
def Pj (E:Env) (l:List jT) (n:Nat) (f:FuncId) (az:List V):Bool:=
 match sj E (runM E l n) n (.fn f) az []with
 | some (.bool b,_)=>b
 | _=>false
theorem JA {l:List jT} (B:∀k∈l,lU E k) {f:FuncId} {az:List V} (h:Pj E l n f az=true):∃n H1,run E n (.fn f) az []=some (.bool true,H1):=by
 obtain⟨N,q⟩:=zf B;unfold Pj at h;split at h
 .rename_i b H1 t;subst h;exact⟨N+n+1,H1,(zj (It B q n) (Nat.le_add_left ..) t)⟩
 simp_all
end
end Go.VE
