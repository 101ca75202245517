/-
 The second layer: named objects in the place of rows; texts, calls, iterators.
-/
import Derived.Test.YtimppgndlmehbaaGreatN1
set_option linter.all false
namespace Go.VE
variable [aW]
abbrev qg:=FuncId->Option RF
def Af (E:Env) (f:FuncId) (az:List V) (y:V):Prop:=∃n z H' Z,run E n (.fn f) az []=some (z,H')/\FR H' Z y z/\(∀id,Z id->(au H' id).isSome=true)/\Deep H' Z
structure uU (S:Sys) (T:qg):Prop where
 fn:∀f rf,T f=some rf->∃fi nm,S.E.ft f=some fi/\(∀g s,nm g=some s->S.N s=g)/\wQ S.E nm fi rf
 xI:∀f az y,S.xI f az=some y->Af S.E f az y
 prm:∀f q,S.prm f=some q->pW S.E f q
def LN (S:Sys) (f:FuncId) (svs:List SV) (m0:gI):Option (List SV×gI):=
 if S.E.keep f then none else match cG svs,m0 with
  | some az,[]=>(S.xI f az).map λy=>([.v y],[])
  | _,_=>none
noncomputable def jW (S:Sys) (T:qg):Nat->br
 | 0=>λ_ _ _=>none
 | n+1=>λf svs m0=>match T f with
  | some rf=>nE S (jW S T n) rf svs m0
  | none=>LN S f svs m0
section
variable {ν ν' ν2:Nu} {Z Z':Nat->Prop} {st st' st2:St} {m m':Tb aM} {F F':Frame} {H H' H1:ak} {S:Sys} {c c':br} {X:CX} {J:JT} {T:qg}
theorem zo (r:R ν Z st F H) {nm:FuncId->Option Nat}:∀{rvs:List ResultVar} {rs:List RV} {l:List SV},rvs.mapM (zz S.E)=some rs->mJ st rs=some l->∃ys,ig S.E F H rvs=some ys/\aZ ν st.m H Z l ys
 | [],rs,l,hc,h=>by
  simp only[List.mapM_nil,Option.pure_def,ζa]at hc;subst hc;simp only[mJ,ζa]at h;subst h;exact⟨[],rfl,.nil⟩
 | rv::rvs,rs,l,hc,h=>by
  simp only[List.mapM_cons,Option.pure_def,Option.bind_eq_bind,ζg,ζa]at hc;obtain⟨x,hx,ys,hy,rfl⟩:=hc
  cases rv with
  | tmp t=>
   simp only[zz,ζa]at hx;subst hx;simp only[mJ]at h;split at h
   .rename_i v vs h1 h2;simp only[ζa]at h;subst h;obtain⟨zs,e1,e2⟩:=zo r (nm:=nm) hy h2;exact⟨get F t::zs,by simp only[ig,e1,Option.map_some],.cons (r.slot t v h1) e2⟩
   .simp at h
  | cell a t=>
   simp only[zz,ζf]at hx;obtain⟨d,hd,rfl⟩:=hx;simp only[mJ]at h;split at h
   .rename_i v vs h1 h2;simp only[ζa]at h;subst h;obtain⟨p,hp,h1⟩:=ζg.1 h1;obtain⟨zs,e1,e2⟩:=zo r (nm:=nm) hy h2;obtain⟨y,g1,g2⟩:=uo (λs a e=>by cases e) (λkk z ok e=>by cases e) (aZ.cons (r.slot a p hp) .nil) (λd' _ ob hob=>r.obj d' ob hob) h1
    simp only[dB]at g1;exact⟨y::zs,by simp only[ig,hd,e1,g1,Option.map_some],.cons g2 e2⟩
   .simp at h
theorem Gc (hP:∀f q,S.prm f=some q->pW S.E f q) (hS:jF S c) (hI:∀f a b xs,S.items f a b=some xs->gm S f a b xs) {f:FuncId} {fi:FI} {nm:FuncId->Option Nat} {rf:RF} (hft:S.E.ft f=some fi) (hN:∀g s,nm g=some s->S.N s=g) (hr:wQ S.E nm fi rf)
 {svs:List SV} {m0:gI} {rs:List SV} {m1:gI} (h:nE S c rf svs m0=some (rs,m1)) {args:List V} (r:R ν Z (start svs m0) args H) (hl:aZ ν m0 H Z svs args) :
 ∃n y H' ν' Z' st' F' ys,run S.E n (.fn f) args H=some (y,H')/\y=result ys/\st'.m=m1/\aZ ν' m1 H' Z' rs ys/\R ν' Z' st' F' H'/\Ev (λ_=>False) ν Z (start svs m0) H ν' Z' st' H':=by
 obtain⟨hc,hrs,hna⟩:=hr;unfold nE at h;split at h
 .rename_i hlen;have key:∀o st',bD S c rf.body (start svs m0)=some (o,st')->(∀id,o≠.exit id)->(mJ st' rf.rs).map (λrs=>(rs,st'.m))=some (rs,m1) ->
   ∃n y H' ν' Z' st' F' ys,run S.E n (.fn f) args H=some (y,H')/\y=result ys/\st'.m=m1/\aZ ν' m1 H' Z' rs ys/\R ν' Z' st' F' H'/\Ev (λ_=>False) ν Z (start svs m0) H ν' Z' st' H':=λo st' hs ho hres=>by
   obtain⟨l,h1,e⟩:=ζf.1 hres;simp only[ζc]at e;obtain⟨rfl,rfl⟩:=e;obtain⟨n,F',H',ν',Z',e1,e2,e3,e4⟩:=Hj (X:=⟨S.E,nm,fi.ntmps⟩) ⟨rfl,hN,hP⟩ hS hI rf.body false fi.body hc _ _ _ hs (s9 (eC ν (start svs m0).m) Z H) ν Z args H s9.yc r (s9.refl r);obtain⟨ys,p1,p2⟩:=zo (nm:=nm) e2 hrs h1;obtain⟨_,q2,q3,q4,q5,q6⟩:=e3;refine⟨n+1,result ys,H',ν',Z',st',F',ys,?_,rfl,rfl,p2,e2,⟨q2,λi h1 h2 h3 _=>q3 i h1 h2 h3,q4,λi h=>(q5 i h).imp (λh=>h) .inr,λi h=>(q6 i h).imp (λh=>h) (.imp (λh=>h) .inr),e4.pin,e4.pins⟩⟩
   have hargs:args.length<=fi.ntmps:=by rw[<-hl.1,<-hna];exact hlen
   simp only[run,hft,if_pos hargs,e1 n (Nat.le_refl _)]
   cases o with
   | exit id=>exact absurd rfl (ho id)
   | norm=>simp only[p1,Option.map_some]
   | ret=>simp only[p1,Option.map_some]
  split at h
  .simp at h
  .rename_i o st' hne hs;exact key o st' hs (λid e=>by subst e;exact hne id rfl) h
  .simp at h
 .simp at h
theorem FR.emp {x y:V} (hz:∀id,¬Z id) (r:FR H Z x y):x=y:=by
 have hl:∀{a a':List V},a.length=a'.length->(∀(j:Nat) u v,a[j]? = some u->a'[j]? = some v->u=v)->a=a':=λ{a a'} h1 h2=>by
  apply List.ext_getElem h1;intro i p q;exact h2 i _ _ (ζd p) (ζd q)
 induction r with
 | same x h=>rfl
 | fsl es xs id off ys h=>exact absurd h (hz _)
 | fptr xs id el off es ys cs h=>exact absurd h (hz _)
 | clo f a b a' b' h1 h2 _ _ i1 i2=>rw[hl h1 i1,hl h2 i2]
 | agg a a' h1 _ i1=>rw[hl h1 i1]
 | tup a a' h1 _ i1=>rw[hl h1 i1]
theorem aZ.emp (hz:∀id,¬Z id):∀{xs ys:List V},aZ ν m H Z (xs.map .v) ys->xs=ys
 | [],ys,h=>h.bZ.symm
 | x::xs,ys,h=>by
  obtain⟨y,ys,rfl,h1,h2⟩:=h.inv;rw[FR.emp hz h1.fr,aZ.emp hz h2]
theorem zZ (hT:uU S T) (hI:∀f a b xs,S.items f a b=some xs->gm S f a b xs):∀n,jF S (jW S T n)
 | 0=>λf svs m0 rs m1 h=>by simp[jW]at h
 | n+1=>λf svs m0 rs m1 h ν Z args H hH r hl=>by
  simp only[jW]at h;split at h
  .rename_i rf hrf;obtain⟨fi,nm,h1,h2,h3⟩:=hT.fn f rf hrf;exact Gc hT.prm (zZ hT hI n) hI h1 h2 h3 h r hl
  .unfold LN at h;split at h
   .simp at h
   .rename_i hk;split at h
    .rename_i az ha;obtain⟨y,hy,e⟩:=ζf.1 h;simp only[ζc]at e;obtain⟨rfl,rfl⟩:=e;obtain⟨k,z,H',Z1,hrun,hfr,hz1,CI⟩:=hT.xI f az y hy;rcases hH with hH|rfl
     .exact absurd hH hk
     have hz:∀id,¬Z id:=λid hid=>by have:=r.zrow id hid;simp[au]at this
     have hargs:args=az:=by
      rw[qw ha]at hl;exact(aZ.emp hz hl).symm
     subst hargs;refine⟨k,z,H',λ_=>(0,0),Z1,⟨[],[],[],[],true,0⟩,[],[z],hrun,rfl,rfl,aZ.cons (.v y z hfr) .nil,?_,?_⟩
     .exact⟨λs sv h=>by simp[ai]at h,λd ob h=>by simp[ai]at h,λd d' ob ob' h=>by simp[ai]at h,λd ob h=>by simp[ai]at h,hz1,CI⟩
     .exact⟨Nat.zero_le _,λid h=>by simp at h,λid h=>absurd h (hz id),λid h=>by obtain⟨d,ob,h,_⟩:=h;simp[ai]at h,λid h=>.inr (.inr (.inr (Nat.zero_le _))),λd h=>by simp[start]at h,rfl⟩
    .simp at h
abbrev Ix:=List ((FuncId×List SV×gI)×(List SV×gI))
def BN (c:br) (L:Ix):Prop:=∀p∈L,c p.1.1 p.1.2.1 p.1.2.2=some p.2
def Fin {α:Type} (c:br) (f:br->Option α) (r:α):Prop:=∃L:Ix,BN c L/\∀c',BN c' L->f c'=some r
theorem Fin.pure {α:Type} {f:br->Option α} {r:α} (h:∀c',f c'=some r):Fin c f r:=⟨[],λp hp=>by simp at hp,λc' _=>h c'⟩
theorem Fin.bind {α β:Type} {f:br->Option α} {r:α} {g:br->Option β} {q:β} (h1:Fin c f r) (g':br->α->Option β) (h2:Fin c (λc=>g' c r) q) (hg:∀c',f c'=some r->g c'=g' c' r):Fin c g q:=by
 obtain⟨L1,a1,b1⟩:=h1;obtain⟨L2,a2,b2⟩:=h2;refine⟨L1++L2,λp hp=>(List.mem_append.1 hp).elim (a1 p) (a2 p),λc' hc=>?_⟩
 rw[hg c' (b1 c' λp hp=>hc p (List.mem_append_left _ hp))]
 exact b2 c' λp hp=>hc p (List.mem_append_right _ hp)
theorem Fin.call {f:FuncId} {svs:List SV} {m0:gI} {r:List SV×gI} (h:c f svs m0=some r):Fin c (λc=>c f svs m0) r:=
 ⟨[((f,svs,m0),r)],λp hp=>by simp at hp;subst hp;exact h,λc' hc=>hc ((f,svs,m0),r) (by simp)⟩
theorem CQ {dst:Option Nat} {dr now:Bool} {old:List SV->Bool} {f:FuncId} {args:List SV} {r:SV×St} (h:iI S c dst dr now old f args st=some r):Fin c (λc=>iI S c dst dr now old f args st) r:=by
 have h0:=h;unfold iI at h;split at h
 .rename_i hk;split at h
  .rename_i hn;split at h
   .rename_i ho;split at h
    .rename_i az hs;split at h
     .rename_i hl;split at h
      .rename_i rs m' hc;refine(Fin.call hc).bind (λc' q=>iI S c dst dr now old f args st) (.pure λ_=>h0) (λc' hc'=>?_)
       unfold iI;simp only[hk,hn,ho,if_true,hs,hl,hc,hc']
      .simp at h
     .simp at h
    .simp at h
   .rename_i ho;split at h
    .simp at h
    .rename_i hd;split at h
     .rename_i q hq;refine .pure λc'=>?_
      unfold iI;simp only[hk,hn,ho,if_true,hd,hq,Bool.false_eq_true,if_false];exact h
     .rename_i hq;split at h
      .rename_i os hh;split at h
       .rename_i rs m' hc;refine(Fin.call hc).bind (λc' q=>iI S c dst dr now old f args st) (.pure λ_=>h0) (λc' hc'=>?_)
        unfold iI;simp only[hk,hn,ho,if_true,hd,hq,hh,hc,hc',Bool.false_eq_true,if_false]
       .simp at h
      .simp at h
  .simp at h
 .rename_i hk;split at h
  .rename_i az hs;split at h
   .rename_i hl;split at h
    .rename_i rs m' hc;refine(Fin.call hc).bind (λc' q=>iI S c dst dr now old f args st) (.pure λ_=>h0) (λc' hc'=>?_)
     unfold iI;simp only[hk,if_false,hs,hl,if_true,hc,hc',Bool.false_eq_true]
    .simp at h
   .simp at h
  .simp at h
theorem Om {dr:Bool} {fr:List Nat} {o:RO} {r:SV×St} (h:kL S c dr fr o st=some r):Fin c (λc=>kL S c dr fr o st) r:=by
 have h0:=h;unfold kL at h;split at h
 .rename_i svs hs;split at h
  .refine .pure λc'=>?_
   have h1:=h0;unfold kL at h1 ⊢;rename_i hk;simp only[hs,hk]at h1 ⊢;exact h1
  .refine .pure λc'=>?_
   have h1:=h0;unfold kL at h1 ⊢;rename_i hne hk;simp only[hs,hk]at h1 ⊢;exact h1
  .refine .pure λc'=>?_
   have h1:=h0;unfold kL at h1 ⊢;rename_i hk;simp only[hs,hk]at h1 ⊢;exact h1
  .refine .pure λc'=>?_
   have h1:=h0;unfold kL at h1 ⊢;rename_i hk;simp only[hs,hk]at h1 ⊢;exact h1
  .refine .pure λc'=>?_
   have h1:=h0;unfold kL at h1 ⊢;rename_i hk;simp only[hs,hk]at h1 ⊢;exact h1
  .rename_i hk;split at h
   .refine(CQ h).bind (λ_ q=>some q) (.pure λ_=>rfl) (λc' hc'=>?_)
    unfold kL;simp only[hs,hk,hc']
   .refine(CQ h).bind (λ_ q=>some q) (.pure λ_=>rfl) (λc' hc'=>?_)
    unfold kL;simp only[hs,hk,hc']
   .simp at h
  .refine .pure λc'=>?_
   have h1:=h0;unfold kL at h1 ⊢;rename_i hk;simp only[hs,hk]at h1 ⊢;exact h1
 .simp at h
theorem Pg {dr:Bool} {fr:List Nat} {o:RO} {r:St} (h:dQ S c dr fr o st=some r):Fin c (λc=>dQ S c dr fr o st) r:=by
 have h0:=h;unfold dQ at h;split at h
 .rename_i hw;split at h
  .rename_i id vs hy;refine .pure λc'=>?_
   unfold dQ;simp only[hw,hy];exact h
  .rename_i hy;obtain⟨q,hq,e⟩:=ζf.1 h;refine(Om hq).bind (λ_ q=>some (b7 q.2 o.dst q.1)) (.pure λ_=>by rw[<-e]) (λc' hc'=>?_)
   unfold dQ;simp only[hw,hy,hc',Option.map_some]
 .rename_i hw;refine .pure λc'=>?_
  unfold dQ;simp only[hw];exact h
 .simp at h
theorem Ao {dr:Bool}:∀{l:List RO} {fr:List Nat} {st r:St},lB S c dr fr l st=some r->Fin c (λc=>lB S c dr fr l st) r
 | [],fr,st,r,h=>.pure λ_=>h
 | o::l,fr,st,r,h=>by
  simp only[lB]at h;split at h
  .rename_i st1 hs;obtain⟨stg,hg,hs⟩:=ζg.1 hs;exact(Pg hs).bind (λc' q=>lB S c' dr (if dr then o6 fr o.strip else fr) l (nL o.dead q)) (Ao h) (λc' hc'=>by simp only[lB,hg,ζb,hc'])
  .simp at h
theorem C_ {f:br->St->Option (Out×St)} (hf:∀st r,f c st=some r->Fin c (λc=>f c st) r):∀{k:Nat} {st:St} {r:Out×St},gZ (f c) k st=some r->Fin c (λc=>gZ (f c) k st) r
 | 0,st,r,h=>by simp[gZ]at h
 | k+1,st,r,h=>by
  simp only[gZ]at h;split at h
  .rename_i st1 hs;exact(hf st _ hs).bind (λc' q=>gZ (f c') k st1) (C_ hf h) (λc' hc'=>by simp only[gZ,hc'])
  .rename_i hs;refine(hf st r h).bind (λ_ q=>some q) (.pure λ_=>rfl) (λc' hc'=>?_)
   obtain⟨o,st'⟩:=r;simp only[gZ,hc'];cases o <;> first|exact absurd h (hs st')|rfl
theorem Dc {f:br->List V->Tb aM->Option (Out×Tb aM)} (hf:∀x m r,f c x m=some r->Fin c (λc=>f c x m) r):∀{xs:List (List V)} {m:Tb aM} {r:Out×Tb aM},oN (f c) xs m=some r->Fin c (λc=>oN (f c) xs m) r
 | [],m,r,h=>.pure λ_=>h
 | x::xs,m,r,h=>by
  simp only[oN]at h;split at h
  .rename_i m1 hs;exact(hf x m _ hs).bind (λc' q=>oN (f c') xs m1) (Dc hf h) (λc' hc'=>by simp only[oN,hc'])
  .rename_i hs;refine(hf x m r h).bind (λ_ q=>some q) (.pure λ_=>rfl) (λc' hc'=>?_)
   obtain⟨o,st'⟩:=r;simp only[oN,hc'];cases o <;> first|exact absurd h (hs st')|rfl
theorem KN:∀{rc:RC} {st:St} {r:Out×St},bD S c rc st=some r->Fin c (λc=>bD S c rc st) r:=by
 intro rc
 induction rc with
 | skip=>exact λh=>.pure λ_=>h
 | exit id=>exact λh=>.pure λ_=>h
 | ret=>exact λh=>.pure λ_=>h
 | ops l=>
  intro st r h;simp only[bD]at h ⊢;obtain⟨q,hq,e⟩:=ζf.1 h;exact(Ao hq).bind (λ_ q=>some (.norm,q)) (.pure λ_=>by rw[<-e]) (λc' hc'=>by simp only[hc',Option.map_some])
 | nH l=>
  intro st r h;simp only[bD]at h ⊢;obtain⟨q,hq,e⟩:=ζf.1 h;exact(Ao hq).bind (λ_ q=>some (.norm,q)) (.pure λ_=>by rw[<-e]) (λc' hc'=>by simp only[hc',Option.map_some])
 | seq a b iha ihb=>
  intro st r h;simp only[bD]at h ⊢;split at h
  .rename_i st1 hs;exact(iha hs).bind (λc' q=>bD S c' b st1) (ihb h) (λc' hc'=>by simp only[hc'])
  .rename_i hs;refine(iha h).bind (λ_ q=>some q) (.pure λ_=>rfl) (λc' hc'=>?_)
   obtain⟨o,st'⟩:=r;simp only[hc'];cases o <;> first|exact absurd h (hs st')|rfl
 | cond x a b iha ihb=>
  intro st r h;simp only[bD]at h ⊢;split at h
  .rename_i t ht;split at h
   .rename_i hb;simp only[hb,if_true];exact iha h
   .rename_i hb;simp only[hb];exact ihb h
  .simp at h
 | block id a iha=>
  intro st r h;simp only[bD]at h ⊢;split at h
  .rename_i id2 st1 hs;exact(iha hs).bind (λc' q=>if id2=id then some (.norm,st1)else some (.exit id2,st1)) (.pure λ_=>h) (λc' hc'=>by simp only[hc'])
  .rename_i hs;refine(iha h).bind (λ_ q=>some q) (.pure λ_=>rfl) (λc' hc'=>?_)
   obtain⟨o,st'⟩:=r;simp only[hc'];cases o <;> first|exact absurd h (hs _ st')|rfl
 | loop a iha=>
  intro st r h;simp only[bD]at h ⊢;obtain⟨k,hk⟩:=lg.1 h;refine(C_ (f:=λc=>bD S c a) (λst r h=>iha h) hk).bind (λ_ q=>some q) (.pure λ_=>rfl) (λc' hc'=>?_)
  exact lg.2 ⟨k,hc'⟩
 | each g ps a b iha ihb=>
  intro st r h;simp only[bD]at h ⊢;split at h
  .rename_i f x y hs;split at h
   .rename_i xs hi;obtain⟨q,hq,e⟩:=ζf.1 h;refine(Dc (f:=λc=>gJ ps (bD S c a) (bD S c b) st) (λz m r h=>?_) hq).bind (λ_ q=>some (q.1,{ st with m:=q.2 })) (.pure λ_=>by rw[<-e]) (λc' hc'=>by simp only[hc',Option.map_some])
    unfold gJ at h;split at h
    .rename_i hl;split at h
     .rename_i st1 h1;obtain⟨q2,hq2,e2⟩:=ζf.1 h;refine(iha h1).bind (λc' q=>(bD S c' b st1).map λ(o,st2)=>(o,st2.m)) ((ihb hq2).bind (λ_ q=>some (q.1,q.2.m)) (.pure λ_=>by rw[<-e2]) (λc' hc'=>by simp only[hc',Option.map_some])) (λc' hc'=>?_)
      unfold gJ;simp only[if_pos hl,hc']
     .simp at h
    .simp at h
   .simp at h
  .simp at h
 | gh x a iha=>
  intro st r h;simp only[bD]at h ⊢;obtain⟨st1,h1,h2⟩:=ζg.1 h;rw[h1];exact iha h2
 | hg a x iha=>
  intro st r h;simp only[bD]at h ⊢;split at h
  .rename_i st1 hs;exact(iha hs).bind (λc' q=>(ghost x st1).map λst=>(.norm,st)) (.pure λ_=>h) (λc' hc'=>by simp only[hc'])
  .rename_i hs;refine(iha h).bind (λ_ q=>some q) (.pure λ_=>rfl) (λc' hc'=>?_)
   obtain⟨o,st'⟩:=r;simp only[hc'];cases o <;> first|exact absurd h (hs st')|rfl
theorem yo {rf:RF} {svs:List SV} {m0:gI} {r:List SV×gI} (h:nE S c rf svs m0=some r):Fin c (λc=>nE S c rf svs m0) r:=by
 have h0:=h;unfold nE at h;split at h
 .rename_i hl;split at h
  .simp at h
  .rename_i o st hne hs;refine(KN hs).bind (λc' q=>nE S c rf svs m0) (.pure λ_=>h0) (λc' hc'=>?_)
   unfold nE;simp only[if_pos hl,hc',hs]
  .simp at h
 .simp at h
theorem Bi:∀{n:Nat} {f:FuncId} {svs:List SV} {m0:gI} {r:List SV×gI},jW S T n f svs m0=some r->jW S T (n+1) f svs m0=some r
 | 0,f,svs,m0,r,h=>by simp[jW]at h
 | n+1,f,svs,m0,r,h=>by
  simp only[jW]at h;rw[jW];split at h
  .rename_i rf hrf;obtain⟨L,h1,h2⟩:=yo h;simp only[hrf];exact h2 _ λp hp=>Bi (h1 p hp)
  .rename_i hrf;simp only[hrf];exact h
theorem Aj {n k:Nat} (h:n<=k) {f:FuncId} {svs:List SV} {m0:gI} {r:List SV×gI} (hn:jW S T n f svs m0=some r):jW S T k f svs m0=some r:=by
 induction h with
 | refl=>exact hn
 | step _ ih=>exact Bi ih
open Classical in
noncomputable def dA (S:Sys) (T:qg):br:=λf svs m0=>if h:∃n r,jW S T n f svs m0=some r then some (Classical.choose (Classical.choose_spec h))else none
theorem qt {f:FuncId} {svs:List SV} {m0:gI} {r:List SV×gI}:dA S T f svs m0=some r↔∃n,jW S T n f svs m0=some r:=by
 unfold dA;constructor
 .intro h;split at h
  .rename_i hx;simp only[ζa]at h;exact⟨_,by rw[<-h];exact Classical.choose_spec (Classical.choose_spec hx)⟩
  .simp at h
 .rintro⟨k,hk⟩;have hx:∃n r,jW S T n f svs m0=some r:=⟨k,r,hk⟩;rw[dif_pos hx];have h2:=Classical.choose_spec (Classical.choose_spec hx);have h3:=Aj (Nat.le_max_left (Classical.choose hx) k) h2;have h4:=Aj (Nat.le_max_right (Classical.choose hx) k) hk;rw[h3]at h4;exact h4
theorem IP {L:Ix} (h:BN (dA S T) L):∃n,∀k,n<=k->BN (jW S T k) L:=by
 induction L with
 | nil=>exact⟨0,λk _ p hp=>by simp at hp⟩
 | cons q L ih=>
  obtain⟨n1,h1⟩:=qt.1 (h q (by simp))
  obtain⟨n2,h2⟩:=ih λp hp=>h p (List.mem_cons_of_mem _ hp)
  refine⟨max n1 n2,λk hk p hp=>?_⟩
  rcases List.mem_cons.1 hp with rfl|hp
  .exact Aj (Nat.le_trans (Nat.le_max_left _ _) hk) h1
  .exact h2 k (Nat.le_trans (Nat.le_max_right _ _) hk) p hp
theorem Db {f:FuncId} {az:List V} {y:V} (hT:T f=none) (hk:S.E.keep f=false) (h:S.xI f az=some y):dA S T f (az.map .v) []=some ([.v y],[]):=by
 refine qt.2 ⟨1,?_⟩;have ha:cG (az.map .v)=some az:=by
  clear h
  induction az with
  | nil=>rfl
  | cons a l ih=>simp only[List.map_cons,cG,ih];rfl
 simp only[jW,hT,LN,hk,ha,h];rfl
theorem wV {f:FuncId} {rf:RF} (hT:T f=some rf) (svs:List SV) (m0:gI):dA S T f svs m0=nE S (dA S T) rf svs m0:=by
 cases h:nE S (dA S T) rf svs m0 with
 | some r=>
  obtain⟨L,h1,h2⟩:=yo h;obtain⟨n,hn⟩:=IP h1;refine qt.2 ⟨n+1,?_⟩;simp only[jW,hT];exact h2 _ (hn n (Nat.le_refl _))
 | none=>
  cases h2:dA S T f svs m0 with
  | none=>rfl
  | some r=>
   obtain⟨n,hn⟩:=qt.1 h2
   cases n with
   | zero=>simp[jW]at hn
   | succ n=>
    simp only[jW,hT]at hn;obtain⟨L,h3,h4⟩:=yo hn;have h5:=h4 (dA S T) λp hp=>qt.2 ⟨n,h3 p hp⟩
    dsimp only at h5;rw[h5]at h;cases h
theorem vr (hT:uU S T) (hI:∀f a b xs,S.items f a b=some xs->gm S f a b xs):jF S (dA S T):=λf svs m0 rs m1 h=>by
 obtain⟨n,hn⟩:=qt.1 h;exact zZ hT hI n f svs m0 rs m1 hn
theorem PV (hP:∀f q,S.prm f=some q->pW S.E f q) (hS:jF S c) {f:FuncId} {fi:FI} {nm:FuncId->Option Nat} {rf:RF} (hI:∀f a b xs,S.items f a b=some xs->gm S f a b xs) (hft:S.E.ft f=some fi) (hN:∀g s,nm g=some s->S.N s=g) (hr:wQ S.E nm fi rf) {a b:List V} {xs:List (List V)}
 (hlen:a.length+1+b.length<=rf.na) (hrs:rf.rs=[])
 (h:∀ws more,(more=true/\ws=xs\/more=false/\ws≠[]/\∃r,xs=ws++r)->∀yid,∃o st',bD S c rf.body { g:=vt 0 (a.map .v++.yl yid::b.map .v),m:=[],pin:=[],want:=ws,more:=more,yid:=yid }=some (o,st')/\(∀id,o≠.exit id)/\st'.want=[]/\st'.m=st'.m) :
 gm S f a b xs:=by
 intro ws more hw yid J y Z a' b' H ha hb hz hd j;obtain⟨o,st',h1,h2,h3,_⟩:=h ws more hw yid;obtain⟨hc,hrr,hna⟩:=hr;have hl:aZ (λ_=>(0,0)) [] H Z (a.map .v++.yl yid::b.map .v) (a'++.yld yid::b'):=(aZ.pF ha).append (.cons (.yl yid) (aZ.pF hb))
 have r0:R (λ_=>(0,0)) Z { g:=vt 0 (a.map .v++.yl yid::b.map .v),m:=[],pin:=[],want:=ws,more:=more,yid:=yid } (a'++.yld yid::b') H:=
  ⟨vF hl,λd ob h=>by simp[ai]at h,λd d' ob ob' h=>by simp[ai]at h,λd ob h=>by simp[ai]at h,hz,hd⟩
 obtain⟨n,F',H',ν',Z',e1,e2,e3,e4⟩:=Hj (X:=⟨S.E,nm,fi.ntmps⟩) ⟨rfl,hN,hP⟩ hS hI rf.body false fi.body hc _ _ _ h1 J _ Z _ H y r0 (by
  refine y.vq _ _ _ _ _ _ _ j (Nat.le_refl _) (λ_ _ _ _=>rfl) (λi hi=>⟨hi,rfl⟩) (λi hi=>?_) (λi hi=>.inl hi)
  obtain⟨d,ob,h,_⟩:=hi;simp[ai]at h)
 rw[h3]at e3;rw[hrs]at hrr;obtain⟨ys,p1,p2⟩:=zo (nm:=nm) (rs:=[]) (l:=[]) e2 hrr rfl;refine⟨n+1,result ys,H',_,Z',λk hk=>?_,e3⟩
 have hargs:(a'++V.yld yid::b').length<=fi.ntmps:=by rw[<-hl.1,<-hna];simp;omega
 cases k with
 | zero=>omega
 | succ k=>
  simp only[run,hft,if_pos hargs,e1 k (by omega)]
  cases o with
  | exit id=>exact absurd rfl (h2 id)
  | norm=>simp only[p1,Option.map_some]
  | ret=>simp only[p1,Option.map_some]
theorem PD (hT:uU S T) (hI:∀f a b xs,S.items f a b=some xs->gm S f a b xs) {f:FuncId} {az:List V} (hg:V.bL az=true) {y:V} {m':gI} (h:dA S T f (az.map .v) []=some ([.v y],m')) (hy:y.scalar=true) :
 ∃n H',run S.E n (.fn f) az []=some (y,H'):=by
 obtain⟨r0,r1⟩:=u6 hg;obtain⟨n,y',H2,ν',Z',st',F',zs,h1,rfl,h3,h4,h5,_⟩:=vr hT hI f _ _ _ _ h _ _ az [] (.inr rfl) r0 r1;obtain⟨z,zs,rfl,e1,e2⟩:=h4.inv;rw[e2.bZ]at h1;have:=(e1.fr.scalar).1 hy;subst this;exact⟨n,H2,h1⟩
end
end Go.VE
