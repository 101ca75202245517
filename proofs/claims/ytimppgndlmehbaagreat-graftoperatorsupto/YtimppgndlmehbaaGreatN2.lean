/-
 The second layer: named objects.
-/
import Derived.Test.YtimppgndlmehbaaGreatN1
set_option linter.all false
namespace Go.VE
variable [bX]
abbrev rU:=FuncId->Option RF
def zK (E:Env) (f:FuncId) (az:List V) (y:V):Prop:=∃n z H' Z,run E n (.fn f) az []=some (z,H')/\FR H' Z y z/\(∀id,Z id->(bp H' id).isSome=true)/\Deep H' Z
structure wF (S:Sys) (T:rU):Prop where
 fn:∀f rf,T f=some rf->∃fi nm,S.E.ft f=some fi/\(∀g s,nm g=some s->S.N s=g)/\xT S.E nm fi rf
 yM:∀f az y,S.yM f az=some y->zK S.E f az y
 prm:∀f q,S.prm f=some q->pN S.E f q
def NT (S:Sys) (f:FuncId) (svs:List SV) (B:iV):Option (List SV×iV):=
 if S.E.keep f then none else match dG svs,B with
  | some az,[]=>(S.yM f az).map λy=>([.v y],[])
  | _,_=>none
noncomputable def lu (S:Sys) (T:rU):Nat->cq
 | 0=>λ_ _ _=>none
 | n+1=>λf svs B=>match T f with
  | some rf=>oR S (lu S T n) rf svs B
  | none=>NT S f svs B
section
variable {ν ν' ν2:Nu} {Z Z':Nat->Prop} {st st' st2:St} {m m':Tb bP} {F F':Frame} {H H' H1:bl} {S:Sys} {c c':cq} {X:CX} {J:JT} {T:rU}
theorem AD (r:R ν Z st F H) {nm:FuncId->Option Nat}:∀{B:List ResultVar} {rs:List RV} {l:List SV},B.mapM (AA S.E)=some rs->nW st rs=some l->∃ys,gR S.E F H B=some ys/\b8 ν st.m H Z l ys
 | [],rs,l,hc,h=>by
  simp  at hc;subst hc;simp[nW]at h;subst h;exact⟨[],rfl,.nil⟩
 | rv::B,rs,l,hc,h=>by
  simp[ζg]at hc;obtain⟨x,D,ys,G,rfl⟩:=hc
  cases rv with
  | tmp t=>
   simp[AA]at D;subst D;simp[nW]at h;split at h
   .rename_i v A h1 q;simp  at h;subst h;obtain⟨u,e1,e2⟩:=AD r (nm:=nm) G q;exact⟨get F t::u,by simp[gR,e1],.cons (r.slot t v h1) e2⟩
   grind
  | cell a t=>
   simp[AA]at D;obtain⟨d,C,rfl⟩:=D;simp[nW]at h;split at h
   .rename_i v A h1 q;simp  at h;subst h;obtain⟨p,I,h1⟩:=ζg.1 h1;obtain⟨u,e1,e2⟩:=AD r (nm:=nm) G q;obtain⟨y,g1,g2⟩:=vC (λs a e=>by cases e) (λkk z ok e=>by cases e) (b8.cons (r.slot a p I) .nil) (λJ _ ob w=>r.obj J ob w) h1
    simp[eS]at g1;exact⟨y::u,by simp[gR,C,e1,g1],.cons g2 e2⟩
   grind
theorem Hw (G:∀f q,S.prm f=some q->pN S.E f q) (J:kO S c) (O:∀f a b xs,S.items f a b=some xs->iA S f a b xs) {f:FuncId} {fi:FI} {nm:FuncId->Option Nat} {rf:RF} (D:S.E.ft f=some fi) (U:∀g s,nm g=some s->S.N s=g) (hr:xT S.E nm fi rf)
 {svs:List SV} {B:iV} {rs:List SV} {m1:iV} (h:oR S c rf svs B=some (rs,m1)) {args:List V} (r:R ν Z (start svs B) args H) (W:b8 ν B H Z svs args) :
 ∃n y H' ν' Z' st' F' ys,run S.E n (.fn f) args H=some (y,H')/\y=result ys/\st'.m=m1/\b8 ν' m1 H' Z' rs ys/\R ν' Z' st' F' H'/\Ev (λ_=>False) ν Z (start svs B) H ν' Z' st' H':=by
 obtain⟨hc,w,z⟩:=hr;unfold oR at h;split at h
 .have key:∀o st',cA S c rf.body (start svs B)=some (o,st')->(∀id,o≠.exit id)->(nW st' rf.rs).map (λrs=>(rs,st'.m))=some (rs,m1) ->
   ∃n y H' ν' Z' st' F' ys,run S.E n (.fn f) args H=some (y,H')/\y=result ys/\st'.m=m1/\b8 ν' m1 H' Z' rs ys/\R ν' Z' st' F' H'/\Ev (λ_=>False) ν Z (start svs B) H ν' Z' st' H':=λo st' A ho u=>by
   obtain⟨l,h1,e⟩:=ζf.1 u;obtain⟨rfl,rfl⟩:=e;obtain⟨n,F',H',ν',Z',e1,e2,e3,e4⟩:=ID  ⟨rfl,U,G⟩ J O rf.body false fi.body hc _ _ _ A (um (fS ν (start svs B).m) Z H) ν Z args H um.yc r (um.refl r);obtain⟨ys,p1,p2⟩:=AD (nm:=nm) e2 w h1;obtain⟨_,C,I,L,Q,T⟩:=e3;refine⟨n+1,result ys,H',ν',Z',st',F',ys,?_,rfl,rfl,p2,e2,⟨C,λi h1 X Y _=>I i h1 X Y,L,λi h=>(Q i h).imp (λh=>h) .inr,λi h=>(T i h).imp (λh=>h) (.imp (λh=>h) .inr),e4.pin,e4.pins⟩⟩
   have t:args.length<=fi.ntmps:=by rw[<-W.1,<-z];omega
   simp[run,D,if_pos t,e1 n (Nat.le_refl _)]
   grind
  grind
 grind
theorem FR.emp {x y:V} (D:∀id,¬Z id) (r:FR H Z x y):x=y:=by
 have z:∀{a t:List V},a.length=t.length->(∀(j:Nat) u v,a[j]? = some u->t[j]? = some v->u=v)->a=t:=λ{a t} h1 w=>by
  apply List.ext_getElem h1;intro i p q;exact w i _ _ (ζd p) (ζd q)
 induction r with
 | same x h=>rfl
 | fsl es A id off B h=>grind
 | fptr A id el off es B C h=>grind
 | clo f a b t G h1 w _ _ i1 i2=>rw[z h1 i1,z w i2]
 | agg a t h1 _ i1=>grind
 | tup a t h1 _ i1=>grind
theorem b8.emp (B:∀id,¬Z id):∀{xs ys:List V},b8 ν m H Z (xs.map .v) ys->xs=ys
 | [],ys,h=>h.cU.symm
 | x::xs,ys,h=>by
  obtain⟨y,ys,rfl,h1,D⟩:=h.inv;rw[FR.emp B h1.fr,b8.emp B D]
theorem A1 (B:wF S T) (J:∀f a b xs,S.items f a b=some xs->iA S f a b xs):∀n,kO S (lu S T n)
 | 0=>λf svs U rs m1 h=>by simp[lu]at h
 | n+1=>λf svs U rs m1 h ν Z args H O r D=>by
  simp[lu]at h;split at h
  .rename_i rf G;obtain⟨fi,nm,h1,W,Y⟩:=B.fn f rf G;exact Hw B.prm (A1 B J n) J h1 W Y h r D
  .unfold NT at h;split at h
   .simp_all
   .split at h
    .rename_i az I;obtain⟨y,L,e⟩:=ζf.1 h;obtain⟨rfl,rfl⟩:=e;obtain⟨k,z,H',Q,t,u,w,Eo⟩:=B.yM f az y L;rcases O with O|rfl
     .grind
     have C:∀id,¬Z id:=λid A=>by have:=r.zrow id A;simp[bp]at this
     have q  := by
      rw[rN I]at D;exact(b8.emp C D).symm
     subst q;refine⟨k,z,H',λ_=>(0,0),Q,⟨[],[],[],[],true,0⟩,[],[z],t,rfl,rfl,b8.cons (.v y z u) .nil,?_,?_⟩
     .exact⟨λs sv h=>by simp[bk]at h,λd ob h=>by simp[bk]at h,λd d' ob X h=>by simp[bk]at h,λd ob h=>by simp[bk]at h,w,Eo⟩
     .exact⟨Nat.zero_le _,λid h=>by simp_all,λid h=>absurd h (C id),λid h=>by grind,λid h=>.inr (.inr (.inr (Nat.zero_le _))),λd h=>by simp[start]at h,rfl⟩
    grind
abbrev Jf:=List ((FuncId×List SV×iV)×(List SV×iV))
def CL (c:cq) (L:Jf):Prop:=∀p∈L,c p.1.1 p.1.2.1 p.1.2.2=some p.2
def Fin {α:Type} (c:cq) (f:cq->Option α) (r:α):Prop:=∃L:Jf,CL c L/\∀c',CL c' L->f c'=some r
theorem Fin.pure {α:Type} {f:cq->Option α} {r:α} (h:∀c',f c'=some r):Fin c f r:=⟨[],λp q=>by simp_all,λc' _=>h c'⟩
theorem Fin.bind {α β:Type} {f:cq->Option α} {r:α} {g:cq->Option β} {q:β} (h1:Fin c f r) (B:cq->α->Option β) (D:Fin c (λc=>B c r) q) (hg:∀c',f c'=some r->g c'=B c' r):Fin c g q:=by
 obtain⟨L1,u,w⟩:=h1;obtain⟨L2,z,A⟩:=D;refine⟨L1++L2,λp t=>(List.mem_append.1 t).elim (u p) (z p),λc' hc=>?_⟩
 rw[hg c' (w c' λp t=>hc p (List.mem_append_left _ t))]
 exact A c' λp t=>hc p (List.mem_append_right _ t)
theorem Fin.call {f:FuncId} {svs:List SV} {B:iV} {r:List SV×iV} (h:c f svs B=some r):Fin c (λc=>c f svs B) r:=
 ⟨[((f,svs,B),r)],λp q=>by grind,λc' hc=>hc ((f,svs,B),r) (by simp)⟩
theorem DR {dst:Option Nat} {dr now:Bool} {old:List SV->Bool} {f:FuncId} {args:List SV} {r:SV×St} (h:iY S c dst dr now old f args st=some r):Fin c (λc=>iY S c dst dr now old f args st) r:=by
 have h0:=h;unfold iY at h;split at h
 .split at h
  .split at h
   .split at h
    .split at h
     .split at h
      .rename_i rs m' hc;refine(Fin.call hc).bind (λc' q=>iY S c dst dr now old f args st) (.pure λ_=>h0) (λc' t=>?_)
       unfold iY
       grind
      grind
     grind
    grind
   .split at h
    .simp_all
    .split at h
     .refine .pure λc'=>?_
      unfold iY
      grind
     .split at h
      .split at h
       .rename_i rs m' hc;refine(Fin.call hc).bind (λc' q=>iY S c dst dr now old f args st) (.pure λ_=>h0) (λc' t=>?_)
        unfold iY
        grind
       grind
      grind
  grind
 .rename_i hk;split at h
  .rename_i az u;split at h
   .rename_i w;split at h
    .rename_i rs m' hc;refine(Fin.call hc).bind (λc' q=>iY S c dst dr now old f args st) (.pure λ_=>h0) (λc' t=>?_)
     unfold iY;simp[hk,u,w,hc,t]
    grind
   grind
  grind
theorem Qn {dr:Bool} {fr:List Nat} {o:RO} {r:SV×St} (h:mm S c dr fr o st=some r):Fin c (λc=>mm S c dr fr o st) r:=by
 have h0:=h;unfold mm at h;split at h
 .rename_i w t;split at h
  .refine .pure λc'=>?_
   have h1:=h0;unfold mm at h1 ⊢;rename_i hk;simp only[t,hk]at h1 ⊢;exact h1
  .refine .pure λc'=>?_
   have h1:=h0;unfold mm at h1 ⊢;rename_i z hk;simp only[t,hk]at h1 ⊢;exact h1
  .refine .pure λc'=>?_
   have h1:=h0;unfold mm at h1 ⊢;rename_i hk;simp only[t,hk]at h1 ⊢;exact h1
  .refine .pure λc'=>?_
   have h1:=h0;unfold mm at h1 ⊢;rename_i hk;simp only[t,hk]at h1 ⊢;exact h1
  .refine .pure λc'=>?_
   have h1:=h0;unfold mm at h1 ⊢;rename_i hk;simp only[t,hk]at h1 ⊢;exact h1
  .rename_i hk;split at h
   .refine(DR h).bind (λ_ q=>some q) (.pure λ_=>rfl) (λc' u=>?_)
    unfold mm;simp only[t,hk,u]
   .refine(DR h).bind (λ_ q=>some q) (.pure λ_=>rfl) (λc' u=>?_)
    unfold mm;simp only[t,hk,u]
   .simp at h
  .refine .pure λc'=>?_
   have h1:=h0;unfold mm at h1 ⊢;rename_i hk;simp only[t,hk]at h1 ⊢;exact h1
 .simp at h
theorem P8 {dr:Bool} {fr:List Nat} {o:RO} {r:St} (h:fA S c dr fr o st=some r):Fin c (λc=>fA S c dr fr o st) r:=by
 unfold fA at h;split at h
 .split at h
  .refine .pure λc'=>?_
   unfold fA
   grind
  .obtain⟨q,t,e⟩:=ζf.1 h;refine(Qn t).bind (λ_ q=>some (cZ q.2 o.dst q.1)) (.pure λ_=>by simp_all) (λc' u=>?_)
   unfold fA
   grind
 .refine .pure λc'=>?_
  unfold fA
  grind
 grind
theorem Bu {dr:Bool}:∀{l:List RO} {fr:List Nat} {st r:St},mR S c dr fr l st=some r->Fin c (λc=>mR S c dr fr l st) r
 | [],fr,st,r,h=>.pure λ_=>h
 | o::l,fr,st,r,h=>by
  simp[mR]at h;split at h
  .rename_i D B;obtain⟨G,hg,B⟩:=ζg.1 B;exact(P8 B).bind (λc' q=>mR S c' dr (if dr then qD fr o.strip else fr) l (oS o.dead q)) (Bu h) (λc' t=>by simp[mR,hg,t])
  grind
theorem DZ {f:cq->St->Option (Out×St)} (D:∀st r,f c st=some r->Fin c (λc=>f c st) r):∀{k:Nat} {st:St} {r:Out×St},ji (f c) k st=some r->Fin c (λc=>ji (f c) k st) r
 | 0,st,r,h=>by simp[ji]at h
 | k+1,st,r,h=>by
  simp[ji]at h;split at h
  .rename_i G J;exact(D st _ J).bind (λc' q=>ji (f c') k G) (DZ D h) (λc' B=>by simp[ji,B])
  .refine(D st r h).bind (λ_ q=>some q) (.pure λ_=>rfl) (λc' B=>?_)
   simp[ji,B]
   grind
theorem DV {f:cq->List V->Tb bP->Option (Out×Tb bP)} (D:∀x m r,f c x m=some r->Fin c (λc=>f c x m) r):∀{xs:List (List V)} {m:Tb bP} {r:Out×Tb bP},qb (f c) xs m=some r->Fin c (λc=>qb (f c) xs m) r
 | [],m,r,h=>.pure λ_=>h
 | x::xs,m,r,h=>by
  simp[qb]at h;split at h
  .rename_i m1 G;exact(D x m _ G).bind (λc' q=>qb (f c') xs m1) (DV D h) (λc' B=>by simp[qb,B])
  .refine(D x m r h).bind (λ_ q=>some q) (.pure λ_=>rfl) (λc' B=>?_)
   simp[qb,B]
   grind
theorem Ls:∀{rc:RC} {st:St} {r:Out×St},cA S c rc st=some r->Fin c (λc=>cA S c rc st) r:=by
 intro rc
 induction rc with
 | skip=>exact λh=>.pure λ_=>h
 | exit id=>exact λh=>.pure λ_=>h
 | ret=>exact λh=>.pure λ_=>h
 | ops l=>
  intro st r h;simp only[cA]at h ⊢;obtain⟨q,C,e⟩:=ζf.1 h;exact(Bu C).bind (λ_ q=>some (.norm,q)) (.pure λ_=>by simp_all) (λc' u=>by grind)
 | oO l=>
  intro st r h;simp only[cA]at h ⊢;obtain⟨q,C,e⟩:=ζf.1 h;exact(Bu C).bind (λ_ q=>some (.norm,q)) (.pure λ_=>by simp_all) (λc' u=>by grind)
 | seq a b t A=>
  intro st r h;simp[cA]at h ⊢;split at h
  .rename_i w B;exact(t B).bind (λc' q=>cA S c' b w) (A h) (λc' u=>by grind)
  .rename_i B;refine(t h).bind (λ_ q=>some q) (.pure λ_=>rfl) (λc' u=>?_)
   grind
 | cond x a b t A=>
  intro st r h;simp[cA]at h ⊢
  grind
 | block id a t=>
  intro st r h;simp[cA]at h ⊢;split at h
  .rename_i D w B;exact(t B).bind (λc' q=>if D=id then some (.norm,w)else some (.exit D,w)) (.pure λ_=>h) (λc' u=>by grind)
  .refine(t h).bind (λ_ q=>some q) (.pure λ_=>rfl) (λc' u=>?_)
   grind
 | loop a t=>
  intro st r h;obtain⟨k,hk⟩:=mD.1 h;refine(DZ  (λst r h=>t h) hk).bind (λ_ q=>some q) (.pure λ_=>rfl) (λc' u=>?_)
  exact mD.2 ⟨k,u⟩
 | each g H a b t A=>
  intro st r h;simp only[cA]at h ⊢;split at h
  .split at h
   .obtain⟨q,C,e⟩:=ζf.1 h;refine(DV (f:=λc=>iT H (cA S c a) (cA S c b) st) (λz m r h=>?_) C).bind (λ_ q=>some (q.1,{ st with m:=q.2 })) (.pure λ_=>by simp_all) (λc' u=>by grind)
    unfold iT at h;split at h
    .split at h
     .rename_i w h1;obtain⟨I,G,e2⟩:=ζf.1 h;refine(t h1).bind (λc' q=>(cA S c' b w).map λ(o,st2)=>(o,st2.m)) ((A G).bind (λ_ q=>some (q.1,q.2.m)) (.pure λ_=>by simp_all) (λc' u=>by grind)) (λc' u=>?_)
      unfold iT
      grind
     grind
    grind
   grind
  grind
 | gh x a t=>
  intro st r h;simp[cA]at h ⊢;obtain⟨w,h1,J⟩:=ζg.1 h
  grind
 | hg a x t=>
  intro st r h;simp[cA]at h ⊢;split at h
  .rename_i w B;exact(t B).bind (λc' q=>(ghost x w).map λst=>(.norm,st)) (.pure λ_=>h) (λc' u=>by grind)
  .refine(t h).bind (λ_ q=>some q) (.pure λ_=>rfl) (λc' u=>?_)
   grind
theorem z7 {rf:RF} {svs:List SV} {B:iV} {r:List SV×iV} (h:oR S c rf svs B=some r):Fin c (λc=>oR S c rf svs B) r:=by
 have h0:=h;unfold oR at h;split at h
 .split at h
  .simp_all
  .rename_i o st t u;refine(Ls u).bind (λc' q=>oR S c rf svs B) (.pure λ_=>h0) (λc' w=>?_)
   unfold oR
   grind
  grind
 grind
theorem CH:∀{n:Nat} {f:FuncId} {svs:List SV} {B:iV} {r:List SV×iV},lu S T n f svs B=some r->lu S T (n+1) f svs B=some r
 | 0,f,svs,B,r,h=>by simp[lu]at h
 | n+1,f,svs,B,r,h=>by
  simp[lu]at h;rw[lu];split at h
  .rename_i rf D;obtain⟨L,h1,G⟩:=z7 h;simp[D];exact G _ λp q=>CH (h1 p q)
  grind
theorem Bx {n k:Nat} (h:n<=k) {f:FuncId} {svs:List SV} {B:iV} {r:List SV×iV} (D:lu S T n f svs B=some r):lu S T k f svs B=some r:=by
 induction h with
 | refl=>omega
 | step _ q=>exact CH q
open Classical in
noncomputable def eO (S:Sys) (T:rU):cq:=λf q t=>if h:∃n r,lu S T n f q t=some r then some (Classical.choose (Classical.choose_spec h))else none
theorem rB {f:FuncId} {svs:List SV} {B:iV} {r:List SV×iV}:eO S T f svs B=some r↔∃n,lu S T n f svs B=some r:=by
 unfold eO;constructor
 .intro h;split at h
  .grind
  grind
 .rintro⟨k,hk⟩;have q:∃n r,lu S T n f svs B=some r:=⟨k,r,hk⟩;have t:=Classical.choose_spec (Classical.choose_spec q);have u:=Bx (Nat.le_max_left (Classical.choose q) k) t;have w:=Bx (Nat.le_max_right (Classical.choose q) k) hk
  grind
theorem IZ {L:Jf} (h:CL (eO S T) L):∃n,∀k,n<=k->CL (lu S T k) L:=by
 induction L with
 | nil=>exact⟨0,λk _ p hp=>by simp_all⟩
 | cons q L t=>
  obtain⟨u,h1⟩:=rB.1 (h q (by simp))
  obtain⟨w,z⟩:=t λp hp=>h p (List.mem_cons_of_mem _ hp)
  refine⟨max u w,λk hk p hp=>?_⟩
  rcases List.mem_cons.1 hp with rfl|hp
  .exact Bx (Nat.le_trans (Nat.le_max_left _ _) hk) h1
  .exact z k (Nat.le_trans (Nat.le_max_right _ _) hk) p hp
theorem D9 {f:FuncId} {az:List V} {y:V} (B:T f=none) (hk:S.E.keep f=false) (h:S.yM f az=some y):eO S T f (az.map .v) []=some ([.v y],[]):=by
 refine rB.2 ⟨1,?_⟩;have q:dG (az.map .v)=some az:=by
  clear h
  induction az with
  | nil=>rfl
  | cons a l t=>simp only[List.map_cons,dG,t];rfl
 simp only[lu,B,NT,hk,q,h];rfl
theorem yd {f:FuncId} {rf:RF} (D:T f=some rf) (svs:List SV) (B:iV):eO S T f svs B=oR S (eO S T) rf svs B:=by
 cases h:oR S (eO S T) rf svs B with
 | some r=>
  obtain⟨L,h1,t⟩:=z7 h;obtain⟨n,q⟩:=IZ h1;refine rB.2 ⟨n+1,?_⟩;simp[lu,D]
  grind
 | none=>
  cases t:eO S T f svs B with
  | none=>rfl
  | some r=>
   obtain⟨n,q⟩:=rB.1 t
   cases n with
   | zero=>simp[lu]at q
   | succ n=>
    simp[lu,D]at q;obtain⟨L,u,w⟩:=z7 q;have A:=w (eO S T) λp z=>rB.2 ⟨n,u p z⟩
    grind
theorem wL (B:wF S T) (D:∀f a b xs,S.items f a b=some xs->iA S f a b xs):kO S (eO S T):=λf q t rs u h=>by
 obtain⟨n,w⟩:=rB.1 h;exact A1 B D n f q t rs u w
theorem Qf (U:∀f q,S.prm f=some q->pN S.E f q) (W:kO S c) {f:FuncId} {fi:FI} {nm:FuncId->Option Nat} {rf:RF} (Y:∀f a b xs,S.items f a b=some xs->iA S f a b xs) (D:S.E.ft f=some fi) (hN:∀g s,nm g=some s->S.N s=g) (hr:xT S.E nm fi rf) {a b:List V} {xs:List (List V)}
 (O:a.length+1+b.length<=rf.na) (G:rf.rs=[])
 (h:∀B more,(more=true/\B=xs\/more=false/\B≠[]/\∃r,xs=B++r)->∀yid,∃o st',cA S c rf.body { g:=xh 0 (a.map .v++.yl yid::b.map .v),m:=[],pin:=[],want:=B,more:=more,yid:=yid }=some (o,st')/\(∀id,o≠.exit id)/\st'.want=[]/\st'.m=st'.m) :
 iA S f a b xs:=by
 intro B more L yid J y Z z A H Q T X hd j;obtain⟨o,st',h1,h2,h3,_⟩:=h B more L yid;obtain⟨hc,u,C⟩:=hr;have I:b8 (λ_=>(0,0)) [] H Z (a.map .v++.yl yid::b.map .v) (z++.yld yid::A):=(b8.qM Q).append (.cons (.yl yid) (b8.qM T))
 have r0:R (λ_=>(0,0)) Z { g:=xh 0 (a.map .v++.yl yid::b.map .v),m:=[],pin:=[],want:=B,more:=more,yid:=yid } (z++.yld yid::A) H:=
  ⟨w5 I,λd ob h=>by simp[bk]at h,λd d' ob aa h=>by simp[bk]at h,λd ob h=>by simp[bk]at h,X,hd⟩
 obtain⟨n,F',H',ν',Z',e1,e2,e3,e4⟩:=ID  ⟨rfl,hN,U⟩ W Y rf.body false fi.body hc _ _ _ h1 J _ Z _ H y r0 (by
  refine y.wP _ _ _ _ _ _ _ j (Nat.le_refl _) (λ_ _ _ _=>rfl) (λi w=>⟨w,rfl⟩) (λi w=>?_) (λi w=>.inl w)
  obtain⟨d,ob,h,_⟩:=w;simp[bk]at h)
 rw[h3]at e3;rw[G]at u;obtain⟨ys,p1,p2⟩:=AD (nm:=nm)   e2 u rfl;refine⟨n+1,result ys,H',_,Z',λk hk=>?_,e3⟩
 have t:(z++V.yld yid::A).length<=fi.ntmps:=by rw[<-I.1,<-C];simp;omega
 cases k with
 | zero=>omega
 | succ k=>
  simp[run,D,if_pos t,e1 k (by omega)]
  grind
theorem QY (B:wF S T) (D:∀f a b xs,S.items f a b=some xs->iA S f a b xs) {f:FuncId} {az:List V} (hg:V.cE az=true) {y:V} {m':iV} (h:eO S T f (az.map .v) []=some ([.v y],m')) (G:y.scalar=true) :
 ∃n H',run S.E n (.fn f) az []=some (y,H'):=by
 obtain⟨q,r1⟩:=wI hg;obtain⟨n,w,H2,ν',Z',st',F',t,h1,rfl,A,u,C,_⟩:=wL B D f _ _ _ _ h _ _ az [] (.inr rfl) q r1;obtain⟨z,t,rfl,e1,e2⟩:=u.inv;rw[e2.cU]at h1;have:=(e1.fr.scalar).1 G;subst this;exact⟨n,H2,h1⟩
end
end Go.VE
