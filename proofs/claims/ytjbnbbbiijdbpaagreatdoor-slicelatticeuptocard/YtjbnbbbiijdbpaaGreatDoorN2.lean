/-
 The second layer: named objects in the place of rows; texts, calls, iterators.
-/
import Derived.Test.YtjbnbbbiijdbpaaGreatDoorN1
set_option linter.all false
namespace Go.VE
variable [aX]
abbrev pJ:=FuncId→Option RF
def yZ (E:Env) (f:FuncId) (az:List V) (y:V):Prop:=∃n z H' Z,run E n (.fn f) az []=some (z,H')∧FR H' Z y z∧(∀id,Z id→(ax H' id).isSome=true)∧Deep H' Z
structure s9 (S:Sys) (T:pJ):Prop where
 fn:∀f rf,T f=some rf→∃fi nm,S.E.ft f=some fi∧(∀g s,nm g=some s→S.N s=g)∧vw S.E nm fi rf
 vF:∀f az y,S.vF f az=some y→yZ S.E f az y
 prm:∀f q,S.prm f=some q→nL S.E f q
def LD (S:Sys) (f:FuncId) (svs:List SV) (m0:fZ):Option (List SV×fZ):=
 if S.E.keep f then none else match dg svs,m0 with
  | some az,[]=>(S.vF f az).map fun y=>([.v y],[])
  | _,_=>none
noncomputable def iZ (S:Sys) (T:pJ):Nat→bE
 | 0=>fun _ _ _=>none
 | n+1=>fun f svs m0=>match T f with
  | some rf=>nv S (iZ S T n) rf svs m0
  | none=>LD S f svs m0
section
variable {ν ν' ν2:Nu} {Z Z':Nat→Prop} {st st' st2:St} {m m':Tb aQ} {F F':Frame} {H H' H1:aq} {S:Sys} {c c':bE} {X:CX} {J:JT} {T:pJ}
theorem xw (r:R ν Z st F H) {nm:FuncId→Option Nat}:∀{rvs:List ResultVar} {rs:List RV} {l:List SV},rvs.mapM (xN S.E)=some rs→mN st rs=some l→∃ys,gp S.E F H rvs=some ys∧bh ν st.m H Z l ys
 | [],rs,l,hc,h=>by
  simp only[List.mapM_nil,Option.pure_def,ζa]at hc;subst hc;simp only[mN,ζa]at h;subst h;exact⟨[],rfl,.nil⟩
 | rv::rvs,rs,l,hc,h=>by
  simp only[List.mapM_cons,Option.pure_def,Option.bind_eq_bind,ζg,ζa]at hc;obtain⟨x,hx,ys,hy,rfl⟩:=hc
  cases rv with
  | tmp t=>
   simp only[xN,ζa]at hx;subst hx;simp only[mN]at h;split at h
   ·rename_i v vs h1 h2;simp only[ζa]at h;subst h;obtain⟨zs,e1,e2⟩:=xw r (nm:=nm) hy h2;exact⟨get F t::zs,by simp only[gp,e1,Option.map_some],.cons (r.slot t v h1) e2⟩
   ·simp at h
  | cell a t=>
   simp only[xN,ζf]at hx;obtain⟨d,hd,rfl⟩:=hx;simp only[mN]at h;split at h
   ·rename_i v vs h1 h2;simp only[ζa]at h;subst h;obtain⟨p,hp,h1⟩:=ζg.1 h1;obtain⟨zs,e1,e2⟩:=xw r (nm:=nm) hy h2;obtain⟨y,g1,g2⟩:=vA (fun kk z ok e=>by cases e) (bh.cons (r.slot a p hp) .nil) (fun d' _ ob hob=>r.obj d' ob hob) h1
    simp only[dD]at g1;exact⟨y::zs,by simp only[gp,hd,e1,g1,Option.map_some],.cons g2 e2⟩
   ·simp at h
theorem Ew (hP:∀f q,S.prm f=some q→nL S.E f q) (hS:iV S c) (hI:∀f a b xs,S.items f a b=some xs→fE S f a b xs) {f:FuncId} {fi:FI} {nm:FuncId→Option Nat} {rf:RF} (hft:S.E.ft f=some fi) (hN:∀g s,nm g=some s→S.N s=g) (hr:vw S.E nm fi rf)
 {svs:List SV} {m0:fZ} {rs:List SV} {m1:fZ} (h:nv S c rf svs m0=some (rs,m1)) {args:List V} (r:R ν Z (start svs m0) args H) (hl:bh ν m0 H Z svs args) :
 ∃n y H' ν' Z' st' F' ys,run S.E n (.fn f) args H=some (y,H')∧y=result ys∧st'.m=m1∧bh ν' m1 H' Z' rs ys∧R ν' Z' st' F' H'∧Ev (fun _=>False) ν Z (start svs m0) H ν' Z' st' H':=by
 obtain⟨hc,hrs,hna⟩:=hr;unfold nv at h;split at h
 ·rename_i hlen;have key:∀o st',br S c rf.body (start svs m0)=some (o,st')→(∀id,o≠.exit id)→(mN st' rf.rs).map (fun rs=>(rs,st'.m))=some (rs,m1) →
   ∃n y H' ν' Z' st' F' ys,run S.E n (.fn f) args H=some (y,H')∧y=result ys∧st'.m=m1∧bh ν' m1 H' Z' rs ys∧R ν' Z' st' F' H'∧Ev (fun _=>False) ν Z (start svs m0) H ν' Z' st' H':=fun o st' hs ho hres=>by
   obtain⟨l,h1,e⟩:=ζf.1 hres;simp only[ζc]at e;obtain⟨rfl,rfl⟩:=e;obtain⟨n,F',H',ν',Z',e1,e2,e3,e4⟩:=EW (X:=⟨S.E,nm,fi.ntmps⟩) ⟨rfl,hN,hP⟩ hS hI rf.body false fi.body hc _ _ _ hs (qL (dP ν (start svs m0).m) Z H) ν Z args H qL.yc r (qL.refl r);obtain⟨ys,p1,p2⟩:=xw (nm:=nm) e2 hrs h1;obtain⟨_,q2,q3,q4,q5,q6⟩:=e3;refine⟨n+1,result ys,H',ν',Z',st',F',ys,?_,rfl,rfl,p2,e2,⟨q2,fun i h1 h2 h3 _=>q3 i h1 h2 h3,q4,fun i h=>(q5 i h).imp (fun h=>h) .inr,fun i h=>(q6 i h).imp (fun h=>h) (.imp (fun h=>h) .inr),e4.pin,e4.pins⟩⟩
   have hargs:args.length≤fi.ntmps:=by rw[←hl.1,←hna];exact hlen
   simp only[run,hft,if_pos hargs,e1 n (Nat.le_refl _)]
   cases o with
   | exit id=>exact absurd rfl (ho id)
   | norm=>simp only[p1,Option.map_some]
   | ret=>simp only[p1,Option.map_some]
  split at h
  ·simp at h
  ·rename_i o st' hne hs;exact key o st' hs (fun id e=>by subst e;exact hne id rfl) h
  ·simp at h
 ·simp at h
theorem FR.emp {x y:V} (hz:∀id,¬Z id) (r:FR H Z x y):x=y:=by
 have hl:∀{a a':List V},a.length=a'.length→(∀(j:Nat) u v,a[j]? = some u→a'[j]? = some v→u=v)→a=a':=fun {a a'} h1 h2=>by
  apply List.ext_getElem h1;intro i p q;exact h2 i _ _ (ζd p) (ζd q)
 induction r with
 | same x h=>rfl
 | fsl es xs id off ys h=>exact absurd h (hz _)
 | fptr xs id el off es ys cs h=>exact absurd h (hz _)
 | clo f a b a' b' h1 h2 _ _ i1 i2=>rw[hl h1 i1,hl h2 i2]
 | agg a a' h1 _ i1=>rw[hl h1 i1]
 | tup a a' h1 _ i1=>rw[hl h1 i1]
theorem bh.emp (hz:∀id,¬Z id):∀{xs ys:List V},bh ν m H Z (xs.map .v) ys→xs=ys
 | [],ys,h=>h.b8.symm
 | x::xs,ys,h=>by
  obtain⟨y,ys,rfl,h1,h2⟩:=h.inv;rw[FR.emp hz h1.fr,bh.emp hz h2]
theorem yp (hT:s9 S T) (hI:∀f a b xs,S.items f a b=some xs→fE S f a b xs):∀n,iV S (iZ S T n)
 | 0=>fun f svs m0 rs m1 h=>by simp[iZ]at h
 | n+1=>fun f svs m0 rs m1 h ν Z args H hH r hl=>by
  simp only[iZ]at h;split at h
  ·rename_i rf hrf;obtain⟨fi,nm,h1,h2,h3⟩:=hT.fn f rf hrf;exact Ew hT.prm (yp hT hI n) hI h1 h2 h3 h r hl
  ·unfold LD at h;split at h
   ·simp at h
   ·rename_i hk;split at h
    ·rename_i az ha;obtain⟨y,hy,e⟩:=ζf.1 h;simp only[ζc]at e;obtain⟨rfl,rfl⟩:=e;obtain⟨k,z,H',Z1,hrun,hfr,hz1,Bw⟩:=hT.vF f az y hy;rcases hH with hH|rfl
     ·exact absurd hH hk
     have hz:∀id,¬Z id:=fun id hid=>by have:=r.zrow id hid;simp[ax]at this
     have hargs:args=az:=by
      rw[qQ ha]at hl;exact(bh.emp hz hl).symm
     subst hargs;refine⟨k,z,H',fun _=>(0,0),Z1,⟨[],[],[],[],true,0⟩,[],[z],hrun,rfl,rfl,bh.cons (.v y z hfr) .nil,?_,?_⟩
     ·exact⟨fun s sv h=>by simp[an]at h,fun d ob h=>by simp[an]at h,fun d d' ob ob' h=>by simp[an]at h,fun d ob h=>by simp[an]at h,hz1,Bw⟩
     ·exact⟨Nat.zero_le _,fun id h=>by simp at h,fun id h=>absurd h (hz id),fun id h=>by obtain⟨d,ob,h,_⟩:=h;simp[an]at h,fun id h=>.inr (.inr (.inr (Nat.zero_le _))),fun d h=>by simp[start]at h,rfl⟩
    ·simp at h
abbrev G1:=List ((FuncId×List SV×fZ)×(List SV×fZ))
def zk (c:bE) (L:G1):Prop:=∀p∈L,c p.1.1 p.1.2.1 p.1.2.2=some p.2
def Fin {α:Type} (c:bE) (f:bE→Option α) (r:α):Prop:=∃L:G1,zk c L∧∀c',zk c' L→f c'=some r
theorem Fin.pure {α:Type} {f:bE→Option α} {r:α} (h:∀c',f c'=some r):Fin c f r:=⟨[],fun p hp=>by simp at hp,fun c' _=>h c'⟩
theorem Fin.bind {α β:Type} {f:bE→Option α} {r:α} {g:bE→Option β} {q:β} (h1:Fin c f r) (g':bE→α→Option β) (h2:Fin c (fun c=>g' c r) q) (hg:∀c',f c'=some r→g c'=g' c' r):Fin c g q:=by
 obtain⟨L1,a1,b1⟩:=h1;obtain⟨L2,a2,b2⟩:=h2;refine⟨L1++L2,fun p hp=>(List.mem_append.1 hp).elim (a1 p) (a2 p),fun c' hc=>?_⟩
 rw[hg c' (b1 c' fun p hp=>hc p (List.mem_append_left _ hp))]
 exact b2 c' fun p hp=>hc p (List.mem_append_right _ hp)
theorem Fin.call {f:FuncId} {svs:List SV} {m0:fZ} {r:List SV×fZ} (h:c f svs m0=some r):Fin c (fun c=>c f svs m0) r:=
 ⟨[((f,svs,m0),r)],fun p hp=>by simp at hp;subst hp;exact h,fun c' hc=>hc ((f,svs,m0),r) (by simp)⟩
theorem Bj {dst:Option Nat} {dr now:Bool} {old:List SV→Bool} {f:FuncId} {args:List SV} {r:SV×St} (h:h_ S c dst dr now old f args st=some r):Fin c (fun c=>h_ S c dst dr now old f args st) r:=by
 have h0:=h;unfold h_ at h;split at h
 ·rename_i hk;split at h
  ·rename_i hn;split at h
   ·rename_i ho;split at h
    ·rename_i az hs;split at h
     ·rename_i hl;split at h
      ·rename_i rs m' hc;refine(Fin.call hc).bind (fun c' q=>h_ S c dst dr now old f args st) (.pure fun _=>h0) (fun c' hc'=>?_)
       unfold h_;simp only[hk,hn,ho,if_true,hs,hl,hc,hc']
      ·simp at h
     ·simp at h
    ·simp at h
   ·rename_i ho;split at h
    ·simp at h
    ·rename_i hd;split at h
     ·rename_i q hq;refine .pure fun c'=>?_
      unfold h_;simp only[hk,hn,ho,if_true,hd,hq,Bool.false_eq_true,if_false];exact h
     ·rename_i hq;split at h
      ·rename_i os hh;split at h
       ·rename_i rs m' hc;refine(Fin.call hc).bind (fun c' q=>h_ S c dst dr now old f args st) (.pure fun _=>h0) (fun c' hc'=>?_)
        unfold h_;simp only[hk,hn,ho,if_true,hd,hq,hh,hc,hc',Bool.false_eq_true,if_false]
       ·simp at h
      ·simp at h
  ·simp at h
 ·rename_i hk;split at h
  ·rename_i az hs;split at h
   ·rename_i hl;split at h
    ·rename_i rs m' hc;refine(Fin.call hc).bind (fun c' q=>h_ S c dst dr now old f args st) (.pure fun _=>h0) (fun c' hc'=>?_)
     unfold h_;simp only[hk,if_false,hs,hl,if_true,hc,hc',Bool.false_eq_true]
    ·simp at h
   ·simp at h
  ·simp at h
theorem OU {dr:Bool} {fr:List Nat} {o:RO} {r:SV×St} (h:lB S c dr fr o st=some r):Fin c (fun c=>lB S c dr fr o st) r:=by
 have h0:=h;unfold lB at h;split at h
 ·rename_i svs hs;split at h
  ·refine .pure fun c'=>?_
   have h1:=h0;unfold lB at h1 ⊢;rename_i hk;simp only[hs,hk]at h1 ⊢;exact h1
  ·refine .pure fun c'=>?_
   have h1:=h0;unfold lB at h1 ⊢;rename_i hne hk;simp only[hs,hk]at h1 ⊢;exact h1
  ·refine .pure fun c'=>?_
   have h1:=h0;unfold lB at h1 ⊢;rename_i hk;simp only[hs,hk]at h1 ⊢;exact h1
  ·refine .pure fun c'=>?_
   have h1:=h0;unfold lB at h1 ⊢;rename_i hk;simp only[hs,hk]at h1 ⊢;exact h1
  ·refine .pure fun c'=>?_
   have h1:=h0;unfold lB at h1 ⊢;rename_i hk;simp only[hs,hk]at h1 ⊢;exact h1
  ·rename_i hk;split at h
   ·refine(Bj h).bind (fun _ q=>some q) (.pure fun _=>rfl) (fun c' hc'=>?_)
    unfold lB;simp only[hs,hk,hc']
   ·refine(Bj h).bind (fun _ q=>some q) (.pure fun _=>rfl) (fun c' hc'=>?_)
    unfold lB;simp only[hs,hk,hc']
   ·simp at h
 ·simp at h
theorem Pg {dr:Bool} {fr:List Nat} {o:RO} {r:St} (h:dZ S c dr fr o st=some r):Fin c (fun c=>dZ S c dr fr o st) r:=by
 have h0:=h;unfold dZ at h;split at h
 ·rename_i hw;split at h
  ·rename_i id vs hy;refine .pure fun c'=>?_
   unfold dZ;simp only[hw,hy];exact h
  ·rename_i hy;obtain⟨q,hq,e⟩:=ζf.1 h;refine(OU hq).bind (fun _ q=>some (cr q.2 o.dst q.1)) (.pure fun _=>by rw[←e]) (fun c' hc'=>?_)
   unfold dZ;simp only[hw,hy,hc',Option.map_some]
 ·rename_i hw;refine .pure fun c'=>?_
  unfold dZ;simp only[hw];exact h
 ·simp at h
theorem zc {dr:Bool}:∀{l:List RO} {fr:List Nat} {st r:St},jR S c dr fr l st=some r→Fin c (fun c=>jR S c dr fr l st) r
 | [],fr,st,r,h=>.pure fun _=>h
 | o::l,fr,st,r,h=>by
  simp only[jR]at h;split at h
  ·rename_i st1 hs;obtain⟨stg,hg,hs⟩:=ζg.1 hs;exact(Pg hs).bind (fun c' q=>jR S c' dr (if dr then m_ fr o.strip else fr) l (lM o.dead q)) (zc h) (fun c' hc'=>by simp only[jR,hg,ζb,hc'])
  ·simp at h
theorem B2 {f:bE→St→Option (Out×St)} (hf:∀st r,f c st=some r→Fin c (fun c=>f c st) r):∀{k:Nat} {st:St} {r:Out×St},gm (f c) k st=some r→Fin c (fun c=>gm (f c) k st) r
 | 0,st,r,h=>by simp[gm]at h
 | k+1,st,r,h=>by
  simp only[gm]at h;split at h
  ·rename_i st1 hs;exact(hf st _ hs).bind (fun c' q=>gm (f c') k st1) (B2 hf h) (fun c' hc'=>by simp only[gm,hc'])
  ·rename_i hs;refine(hf st r h).bind (fun _ q=>some q) (.pure fun _=>rfl) (fun c' hc'=>?_)
   obtain⟨o,st'⟩:=r;simp only[gm,hc'];cases o <;> first|exact absurd h (hs st')|rfl
theorem BY {f:bE→List V→Tb aQ→Option (Out×Tb aQ)} (hf:∀x m r,f c x m=some r→Fin c (fun c=>f c x m) r):∀{xs:List (List V)} {m:Tb aQ} {r:Out×Tb aQ},lH (f c) xs m=some r→Fin c (fun c=>lH (f c) xs m) r
 | [],m,r,h=>.pure fun _=>h
 | x::xs,m,r,h=>by
  simp only[lH]at h;split at h
  ·rename_i m1 hs;exact(hf x m _ hs).bind (fun c' q=>lH (f c') xs m1) (BY hf h) (fun c' hc'=>by simp only[lH,hc'])
  ·rename_i hs;refine(hf x m r h).bind (fun _ q=>some q) (.pure fun _=>rfl) (fun c' hc'=>?_)
   obtain⟨o,st'⟩:=r;simp only[lH,hc'];cases o <;> first|exact absurd h (hs st')|rfl
theorem IZ:∀{rc:RC} {st:St} {r:Out×St},br S c rc st=some r→Fin c (fun c=>br S c rc st) r:=by
 intro rc
 induction rc with
 | skip=>exact fun h=>.pure fun _=>h
 | exit id=>exact fun h=>.pure fun _=>h
 | ret=>exact fun h=>.pure fun _=>h
 | ops l=>
  intro st r h;simp only[br]at h ⊢;obtain⟨q,hq,e⟩:=ζf.1 h;exact(zc hq).bind (fun _ q=>some (.norm,q)) (.pure fun _=>by rw[←e]) (fun c' hc'=>by simp only[hc',Option.map_some])
 | lK l=>
  intro st r h;simp only[br]at h ⊢;obtain⟨q,hq,e⟩:=ζf.1 h;exact(zc hq).bind (fun _ q=>some (.norm,q)) (.pure fun _=>by rw[←e]) (fun c' hc'=>by simp only[hc',Option.map_some])
 | seq a b iha ihb=>
  intro st r h;simp only[br]at h ⊢;split at h
  ·rename_i st1 hs;exact(iha hs).bind (fun c' q=>br S c' b st1) (ihb h) (fun c' hc'=>by simp only[hc'])
  ·rename_i hs;refine(iha h).bind (fun _ q=>some q) (.pure fun _=>rfl) (fun c' hc'=>?_)
   obtain⟨o,st'⟩:=r;simp only[hc'];cases o <;> first|exact absurd h (hs st')|rfl
 | cond x a b iha ihb=>
  intro st r h;simp only[br]at h ⊢;split at h
  ·rename_i t ht;split at h
   ·rename_i hb;simp only[hb,if_true];exact iha h
   ·rename_i hb;simp only[hb];exact ihb h
  ·simp at h
 | block id a iha=>
  intro st r h;simp only[br]at h ⊢;split at h
  ·rename_i id2 st1 hs;exact(iha hs).bind (fun c' q=>if id2=id then some (.norm,st1)else some (.exit id2,st1)) (.pure fun _=>h) (fun c' hc'=>by simp only[hc'])
  ·rename_i hs;refine(iha h).bind (fun _ q=>some q) (.pure fun _=>rfl) (fun c' hc'=>?_)
   obtain⟨o,st'⟩:=r;simp only[hc'];cases o <;> first|exact absurd h (hs _ st')|rfl
 | loop a iha=>
  intro st r h;simp only[br]at h ⊢;obtain⟨k,hk⟩:=jK.1 h;refine(B2 (f:=fun c=>br S c a) (fun st r h=>iha h) hk).bind (fun _ q=>some q) (.pure fun _=>rfl) (fun c' hc'=>?_)
  exact jK.2 ⟨k,hc'⟩
 | each g ps a b iha ihb=>
  intro st r h;simp only[br]at h ⊢;split at h
  ·rename_i f x y hs;split at h
   ·rename_i xs hi;obtain⟨q,hq,e⟩:=ζf.1 h;refine(BY (f:=fun c=>fR ps (br S c a) (br S c b) st) (fun z m r h=>?_) hq).bind (fun _ q=>some (q.1,{ st with m:=q.2 })) (.pure fun _=>by rw[←e]) (fun c' hc'=>by simp only[hc',Option.map_some])
    unfold fR at h;split at h
    ·rename_i hl;split at h
     ·rename_i st1 h1;obtain⟨q2,hq2,e2⟩:=ζf.1 h;refine(iha h1).bind (fun c' q=>(br S c' b st1).map fun (o,st2)=>(o,st2.m)) ((ihb hq2).bind (fun _ q=>some (q.1,q.2.m)) (.pure fun _=>by rw[←e2]) (fun c' hc'=>by simp only[hc',Option.map_some])) (fun c' hc'=>?_)
      unfold fR;simp only[if_pos hl,hc']
     ·simp at h
    ·simp at h
   ·simp at h
  ·simp at h
 | gh x a iha=>
  intro st r h;simp only[br]at h ⊢;obtain⟨st1,h1,h2⟩:=ζg.1 h;rw[h1];exact iha h2
 | hg a x iha=>
  intro st r h;simp only[br]at h ⊢;split at h
  ·rename_i st1 hs;exact(iha hs).bind (fun c' q=>(ghost x st1).map fun st=>(.norm,st)) (.pure fun _=>h) (fun c' hc'=>by simp only[hc'])
  ·rename_i hs;refine(iha h).bind (fun _ q=>some q) (.pure fun _=>rfl) (fun c' hc'=>?_)
   obtain⟨o,st'⟩:=r;simp only[hc'];cases o <;> first|exact absurd h (hs st')|rfl
theorem wE {rf:RF} {svs:List SV} {m0:fZ} {r:List SV×fZ} (h:nv S c rf svs m0=some r):Fin c (fun c=>nv S c rf svs m0) r:=by
 have h0:=h;unfold nv at h;split at h
 ·rename_i hl;split at h
  ·simp at h
  ·rename_i o st hne hs;refine(IZ hs).bind (fun c' q=>nv S c rf svs m0) (.pure fun _=>h0) (fun c' hc'=>?_)
   unfold nv;simp only[if_pos hl,hc',hs]
  ·simp at h
 ·simp at h
theorem As:∀{n:Nat} {f:FuncId} {svs:List SV} {m0:fZ} {r:List SV×fZ},iZ S T n f svs m0=some r→iZ S T (n+1) f svs m0=some r
 | 0,f,svs,m0,r,h=>by simp[iZ]at h
 | n+1,f,svs,m0,r,h=>by
  simp only[iZ]at h;rw[iZ];split at h
  ·rename_i rf hrf;obtain⟨L,h1,h2⟩:=wE h;simp only[hrf];exact h2 _ fun p hp=>As (h1 p hp)
  ·rename_i hrf;simp only[hrf];exact h
theorem yX {n k:Nat} (h:n≤k) {f:FuncId} {svs:List SV} {m0:fZ} {r:List SV×fZ} (hn:iZ S T n f svs m0=some r):iZ S T k f svs m0=some r:=by
 induction h with
 | refl=>exact hn
 | step _ ih=>exact As ih
open Classical in
noncomputable def dU (S:Sys) (T:pJ):bE:=fun f svs m0=>if h:∃n r,iZ S T n f svs m0=some r then some (Classical.choose (Classical.choose_spec h))else none
theorem ow {f:FuncId} {svs:List SV} {m0:fZ} {r:List SV×fZ}:dU S T f svs m0=some r↔∃n,iZ S T n f svs m0=some r:=by
 unfold dU;constructor
 ·intro h;split at h
  ·rename_i hx;simp only[ζa]at h;exact⟨_,by rw[←h];exact Classical.choose_spec (Classical.choose_spec hx)⟩
  ·simp at h
 ·rintro⟨k,hk⟩;have hx:∃n r,iZ S T n f svs m0=some r:=⟨k,r,hk⟩;rw[dif_pos hx];have h2:=Classical.choose_spec (Classical.choose_spec hx);have h3:=yX (Nat.le_max_left (Classical.choose hx) k) h2;have h4:=yX (Nat.le_max_right (Classical.choose hx) k) hk;rw[h3]at h4;exact h4
theorem FW {L:G1} (h:zk (dU S T) L):∃n,∀k,n≤k→zk (iZ S T k) L:=by
 induction L with
 | nil=>exact⟨0,fun k _ p hp=>by simp at hp⟩
 | cons q L ih=>
  obtain⟨n1,h1⟩:=ow.1 (h q (by simp))
  obtain⟨n2,h2⟩:=ih fun p hp=>h p (List.mem_cons_of_mem _ hp)
  refine⟨max n1 n2,fun k hk p hp=>?_⟩
  rcases List.mem_cons.1 hp with rfl|hp
  ·exact yX (Nat.le_trans (Nat.le_max_left _ _) hk) h1
  ·exact h2 k (Nat.le_trans (Nat.le_max_right _ _) hk) p hp
theorem Bk {f:FuncId} {az:List V} {y:V} (hT:T f=none) (hk:S.E.keep f=false) (h:S.vF f az=some y):dU S T f (az.map .v) []=some ([.v y],[]):=by
 refine ow.2 ⟨1,?_⟩;have ha:dg (az.map .v)=some az:=by
  clear h
  induction az with
  | nil=>rfl
  | cons a l ih=>simp only[List.map_cons,dg,ih];rfl
 simp only[iZ,hT,LD,hk,ha,h];rfl
theorem D3 {f:FuncId} {rf:RF} (hT:T f=some rf) (svs:List SV) (m0:fZ):dU S T f svs m0=nv S (dU S T) rf svs m0:=by
 cases h:nv S (dU S T) rf svs m0 with
 | some r=>
  obtain⟨L,h1,h2⟩:=wE h;obtain⟨n,hn⟩:=FW h1;refine ow.2 ⟨n+1,?_⟩;simp only[iZ,hT];exact h2 _ (hn n (Nat.le_refl _))
 | none=>
  cases h2:dU S T f svs m0 with
  | none=>rfl
  | some r=>
   obtain⟨n,hn⟩:=ow.1 h2
   cases n with
   | zero=>simp[iZ]at hn
   | succ n=>
    simp only[iZ,hT]at hn;obtain⟨L,h3,h4⟩:=wE hn;have h5:=h4 (dU S T) fun p hp=>ow.2 ⟨n,h3 p hp⟩
    dsimp only at h5;rw[h5]at h;cases h
theorem uc (hT:s9 S T) (hI:∀f a b xs,S.items f a b=some xs→fE S f a b xs):iV S (dU S T):=fun f svs m0 rs m1 h=>by
 obtain⟨n,hn⟩:=ow.1 h;exact yp hT hI n f svs m0 rs m1 hn
theorem PB (hP:∀f q,S.prm f=some q→nL S.E f q) (hS:iV S c) {f:FuncId} {fi:FI} {nm:FuncId→Option Nat} {rf:RF} (hI:∀f a b xs,S.items f a b=some xs→fE S f a b xs) (hft:S.E.ft f=some fi) (hN:∀g s,nm g=some s→S.N s=g) (hr:vw S.E nm fi rf) {a b:List V} {xs:List (List V)}
 (hlen:a.length+1+b.length≤rf.na) (hrs:rf.rs=[])
 (h:∀ws more,(more=true∧ws=xs∨more=false∧ws≠[]∧∃r,xs=ws++r)→∀yid,∃o st',br S c rf.body { g:=ue 0 (a.map .v++.yl yid::b.map .v),m:=[],pin:=[],want:=ws,more:=more,yid:=yid }=some (o,st')∧(∀id,o≠.exit id)∧st'.want=[]∧st'.m=st'.m) :
 fE S f a b xs:=by
 intro ws more hw yid J y Z a' b' H ha hb hz hd j;obtain⟨o,st',h1,h2,h3,_⟩:=h ws more hw yid;obtain⟨hc,hrr,hna⟩:=hr;have hl:bh (fun _=>(0,0)) [] H Z (a.map .v++.yl yid::b.map .v) (a'++.yld yid::b'):=(bh.qB ha).append (.cons (.yl yid) (bh.qB hb))
 have r0:R (fun _=>(0,0)) Z { g:=ue 0 (a.map .v++.yl yid::b.map .v),m:=[],pin:=[],want:=ws,more:=more,yid:=yid } (a'++.yld yid::b') H:=
  ⟨t_ hl,fun d ob h=>by simp[an]at h,fun d d' ob ob' h=>by simp[an]at h,fun d ob h=>by simp[an]at h,hz,hd⟩
 obtain⟨n,F',H',ν',Z',e1,e2,e3,e4⟩:=EW (X:=⟨S.E,nm,fi.ntmps⟩) ⟨rfl,hN,hP⟩ hS hI rf.body false fi.body hc _ _ _ h1 J _ Z _ H y r0 (by
  refine y.tJ _ _ _ _ _ _ _ j (Nat.le_refl _) (fun _ _ _ _=>rfl) (fun i hi=>⟨hi,rfl⟩) (fun i hi=>?_) (fun i hi=>.inl hi)
  obtain⟨d,ob,h,_⟩:=hi;simp[an]at h)
 rw[h3]at e3;rw[hrs]at hrr;obtain⟨ys,p1,p2⟩:=xw (nm:=nm) (rs:=[]) (l:=[]) e2 hrr rfl;refine⟨n+1,result ys,H',_,Z',fun k hk=>?_,e3⟩
 have hargs:(a'++V.yld yid::b').length≤fi.ntmps:=by rw[←hl.1,←hna];simp;omega
 cases k with
 | zero=>omega
 | succ k=>
  simp only[run,hft,if_pos hargs,e1 k (by omega)]
  cases o with
  | exit id=>exact absurd rfl (h2 id)
  | norm=>simp only[p1,Option.map_some]
  | ret=>simp only[p1,Option.map_some]
theorem NN (hT:s9 S T) (hI:∀f a b xs,S.items f a b=some xs→fE S f a b xs) {f:FuncId} {az:List V} (hg:V.bH az=true) {y:V} {m':fZ} (h:dU S T f (az.map .v) []=some ([.v y],m')) (hy:y.scalar=true) :
 ∃n H',run S.E n (.fn f) az []=some (y,H'):=by
 obtain⟨r0,r1⟩:=tv hg;obtain⟨n,y',H2,ν',Z',st',F',zs,h1,rfl,h3,h4,h5,_⟩:=uc hT hI f _ _ _ _ h _ _ az [] (.inr rfl) r0 r1;obtain⟨z,zs,rfl,e1,e2⟩:=h4.inv;rw[e2.b8]at h1;have:=(e1.fr.scalar).1 hy;subst this;exact⟨n,H2,h1⟩
end
end Go.VE
