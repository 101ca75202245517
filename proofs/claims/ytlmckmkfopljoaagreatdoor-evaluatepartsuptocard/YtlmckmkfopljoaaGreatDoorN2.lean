/-
 The second layer: named objects in the place of rows; texts, calls, iterators.
-/
import Derived.Test.YtlmckmkfopljoaaGreatDoorN1
set_option linter.all false
namespace Go.VE
variable [bK]
def jf (st:St):List RV->Option (List SV)
 | []=>some []
 | .s n::r=>match a_ st.g n,jf st r with
  | some x,some l=>some (x::l)
  | _,_=>none
 | .ld n size agg::r=>match (a_ st.g n).bind λp=>nu st.m (.load size agg) [p],jf st r with
  | some x,some l=>some (x::l)
  | _,_=>none
noncomputable def l9 (S:Sys) (c:bN) (rf:RF) (svs:List SV) (u:c9):Option (List SV×c9):=
 if svs.length<=rf.na then
  match cu S c rf.body (start svs u)with
  | some (.exit _,_)=>none
  | some (_,st)=>(jf st rf.rs).map λrs=>(rs,st.m)
  | none=>none
 else none
def zw (E:Env):ResultVar->Option RV
 | .tmp t=>some (.s t)
 | .cell a t=>(E.tt t).map λd=>.ld a d.size d.agg
def uW (E:Env) (nm:FuncId->Option Nat) (fi:FI) (rf:RF):Prop:=
 bF ⟨E,nm,fi.ntmps⟩ false fi.body=some (erase rf.body)/\fi.results.mapM (zw E)=some rf.rs/\rf.na=fi.ntmps
section
variable {ν ν' ν2:Nu} {Z Z':Nat->Prop} {st st' st2:St} {m m':Tb bB} {F F':Frame} {H H' H1:bf} {S:Sys} {c:bN} {X:CX} {J:JT}
theorem GV (gd:Good X S) (hS:gY S c) (hI:∀f a b xs,S.items f a b=some xs->eR S f a b xs):∀(rc:RC) (ro:Bool) (code:Code),bF X ro code=some (erase rc)->qf X S ro code (cu S c rc):=by
 intro rc
 induction rc with
 | skip=>
  intro ro code hc st o st' h J ν Z F H y r j;obtain⟨rfl,rfl⟩:=h;simp[erase]at hc;have:∀k,exec S.E (run S.E k) k ro X.nt code F H=some (.norm,F,H):=λk=>by
   cases code with
   | skip=>rfl
   | label _=>rfl
   | region id ops w=>
    simp[bF]at hc;split at hc
    .simp_all
    simp_all
   | seq a b=>simp[bF]at hc;grind
   | cond x a b=>simp[bF]at hc;grind
   | block id b=>simp only[bF]at hc;simp_all
   | loop b=>simp only[bF]at hc;simp_all
   | rangeFunc g ps W Y=>
    simp[bF]at hc
    grind
   | _=>simp[bF]at hc
  exact⟨0,F,H,ν,Z,λk _=>this k,r,j,.refl⟩
 | ops l=>
  intro ro code hc;simp[erase]at hc
  cases code with
  | region id ops w=>
   simp[bF]at hc;split at hc
   .simp_all
   rename_i hd;obtain⟨l',hl,e⟩:=ζf.1 hc;cases e;intro st o st' h J ν Z F H y r j;obtain⟨z,h1,e⟩:=ζf.1 h;obtain⟨rfl,rfl⟩:=e;obtain⟨n,F',H',ν',Z',e1,e2,e3,e4⟩:=Kn gd hS _ hl h1 y r j;refine⟨n,F',H',ν',Z',λk hk=>?_,e2,e3,e4⟩
   simp[exec,iA,hd,e1 k hk]
  | seq a b=>simp[bF]at hc;grind
  | cond x a b=>simp[bF]at hc;grind
  | block id b=>simp only[bF]at hc;simp_all
  | loop b=>obtain⟨_,_,e⟩:=ζf.1 hc;cases e
  | rangeFunc g ps W Y=>
   simp only[bF]at hc;split at hc
   .simp at hc
   split at hc <;> simp at hc
  | _=>simp[bF]at hc
 | qm l=>
  intro ro code hc;simp[erase]at hc
  cases code with
  | region id ops w=>
   simp only[bF]at hc;split at hc
   .rename_i hd;subst hd;split at hc
    next ab=>obtain⟨l',hl,e⟩:=ζf.1 hc;cases e;have:=JV (ro:=ro) (id:=id) gd hS hl ab;intro st o st' h;exact this st o st' h
    simp at hc
   obtain⟨_,_,e⟩:=ζf.1 hc;cases e
  | seq a b=>simp[bF]at hc;split at hc <;> simp at hc
  | cond x a b=>simp[bF]at hc;split at hc <;> simp at hc
  | block id b=>obtain⟨_,_,e⟩:=ζf.1 hc;cases e
  | loop b=>obtain⟨_,_,e⟩:=ζf.1 hc;cases e
  | rangeFunc g ps W Y=>
   simp only[bF]at hc;split at hc
   .simp at hc
   split at hc <;> simp at hc
  | _=>simp[bF]at hc
 | seq a b u T=>
  intro ro code hc;simp[erase]at hc
  cases code with
  | seq ca cb=>
   simp[bF]at hc;split at hc
   .rename_i xa xb U hb;simp[RC.seq.injEq]at hc;obtain⟨rfl,rfl⟩:=hc;intro st o st' h J ν Z F H y r j;simp[cu]at h;split at h
    .rename_i z hs;obtain⟨I,F1,H1,B,C,L,O,Q,D⟩:=u ro ca U st .norm z hs J ν Z F H y r j;obtain⟨n2,F2,H2,ν2,Z2,b1,b2,b3,b4⟩:=T ro cb hb z o st' h J B C F1 H1 (by rw[D.more,D.yid];exact y) O Q
     refine⟨max I n2,F2,H2,ν2,Z2,λq G=>?_,b2,b3,D.trans b4⟩
     simp[exec,L q (Nat.le_trans (Nat.le_max_left _ _) G)];exact b1 q (Nat.le_trans (Nat.le_max_right _ _) G)
    rename_i hs;obtain⟨I,F1,H1,B,C,L,O,Q,D⟩:=u ro ca U st o st' h J ν Z F H y r j;refine⟨I,F1,H1,B,C,λq G=>?_,O,Q,D⟩
    simp[exec,L q G];cases o <;> first|exact absurd h (hs st')|rfl
   simp at hc
  | region id ops w=>
   simp[bF]at hc;split at hc
   .split at hc
    .obtain⟨_,_,e⟩:=ζf.1 hc;cases e
    simp at hc
   obtain⟨_,_,e⟩:=ζf.1 hc;cases e
  | cond x a b=>simp[bF]at hc;split at hc <;> simp at hc
  | block id b=>simp only[bF]at hc;obtain⟨_,_,e⟩:=ζf.1 hc;cases e
  | loop b=>simp only[bF]at hc;obtain⟨_,_,e⟩:=ζf.1 hc;cases e
  | rangeFunc g ps W Y=>
   simp only[bF]at hc;split at hc
   .simp at hc
   split at hc <;> simp at hc
  | _=>simp[bF]at hc
 | cond x a b u T=>
  intro ro code hc;simp[erase]at hc
  cases code with
  | cond g ca cb=>
   simp[bF]at hc;split at hc
   .rename_i xg xa xb hg U hb;simp[RC.cond.injEq]at hc;obtain⟨rfl,rfl,rfl⟩:=hc;intro st o st' h J ν Z F H y r j;simp[cu]at h;split at h
    .rename_i t ht;obtain⟨yv,hy,ry⟩:=BZ gd.N r.slot hg ht;rw[ry.fr.bool]at hy;split at h
     .rename_i hb;obtain⟨I,F1,H1,B,C,L,O,Q,D⟩:=u ro ca U st o st' h J ν Z F H y r j;refine⟨I,F1,H1,B,C,λq G=>?_,O,Q,D⟩
      simp[exec,hy,hb];exact L q G
     rename_i hb;obtain⟨I,F1,H1,B,C,L,O,Q,D⟩:=T ro cb (by assumption) st o st' h J ν Z F H y r j
     refine⟨I,F1,H1,B,C,λq G=>?_,O,Q,D⟩
     simp[exec,hy,hb];exact L q G
    simp at h
   simp at hc
  | region id ops w=>
   simp[bF]at hc;split at hc
   .split at hc
    .obtain⟨_,_,e⟩:=ζf.1 hc;cases e
    simp at hc
   obtain⟨_,_,e⟩:=ζf.1 hc;cases e
  | seq a b=>simp[bF]at hc;split at hc <;> simp at hc
  | block id b=>simp only[bF]at hc;obtain⟨_,_,e⟩:=ζf.1 hc;cases e
  | loop b=>simp only[bF]at hc;obtain⟨_,_,e⟩:=ζf.1 hc;cases e
  | rangeFunc g ps W Y=>
   simp only[bF]at hc;split at hc
   .simp at hc
   split at hc <;> simp at hc
  | _=>simp[bF]at hc
 | block id a u=>
  intro ro code hc;simp[erase]at hc
  cases code with
  | block ad ca=>
   simp only[bF]at hc;obtain⟨xa,U,e⟩:=ζf.1 hc;simp[RC.block.injEq]at e;obtain⟨rfl,rfl⟩:=e;intro st o st' h J ν Z F H y r j;simp[cu]at h;split at h
   .rename_i ae z hs;obtain⟨I,F1,H1,B,C,L,O,Q,D⟩:=u ro ca U st (.exit ae) z hs J ν Z F H y r j;split at h
    .rename_i e;simp  at h;obtain⟨rfl,rfl⟩:=h;refine⟨I,F1,H1,B,C,λq G=>?_,O,Q,D⟩
     simp[exec,L q G,if_pos e]
    rename_i e;simp  at h;obtain⟨rfl,rfl⟩:=h;refine⟨I,F1,H1,B,C,λq G=>?_,O,Q,D⟩
    simp[exec,L q G,if_neg e]
   rename_i hs;obtain⟨I,F1,H1,B,C,L,O,Q,D⟩:=u ro ca U st o st' h J ν Z F H y r j;refine⟨I,F1,H1,B,C,λq G=>?_,O,Q,D⟩
   simp[exec,L q G];cases o <;> first|exact absurd h (hs _ st')|rfl
  | region id ops w=>
   simp[bF]at hc;split at hc
   .split at hc
    .obtain⟨_,_,e⟩:=ζf.1 hc;cases e
    simp at hc
   obtain⟨_,_,e⟩:=ζf.1 hc;cases e
  | seq a b=>simp[bF]at hc;split at hc <;> simp at hc
  | cond x a b=>simp[bF]at hc;split at hc <;> simp at hc
  | loop b=>simp only[bF]at hc;obtain⟨_,_,e⟩:=ζf.1 hc;cases e
  | rangeFunc g ps W Y=>
   simp only[bF]at hc;split at hc
   .simp at hc
   split at hc <;> simp at hc
  | _=>simp[bF]at hc
 | loop a u=>
  intro ro code hc;simp[erase]at hc
  cases code with
  | loop ca=>
   simp only[bF]at hc;obtain⟨xa,U,e⟩:=ζf.1 hc;simp[RC.loop.injEq]at e;subst e;have:=OM (u ro ca U);intro st o st' h;simp[cu]at h;exact this st o st' h
  | region id ops w=>
   simp[bF]at hc;split at hc
   .split at hc
    .obtain⟨_,_,e⟩:=ζf.1 hc;cases e
    simp at hc
   obtain⟨_,_,e⟩:=ζf.1 hc;cases e
  | seq a b=>simp[bF]at hc;split at hc <;> simp at hc
  | cond x a b=>simp[bF]at hc;split at hc <;> simp at hc
  | block id b=>simp only[bF]at hc;obtain⟨_,_,e⟩:=ζf.1 hc;cases e
  | rangeFunc g ps W Y=>
   simp only[bF]at hc;split at hc
   .simp at hc
   split at hc <;> simp at hc
  | _=>simp[bF]at hc
 | each x ps a b u T=>
  intro ro code hc;simp[erase]at hc
  cases code with
  | rangeFunc g ah W Y=>
   simp only[bF]at hc;split at hc
   .simp at hc
   rename_i aa;simp only[Bool.or_eq_true,not_or,Bool.not_eq_true,Bool.not_eq_false']at aa;obtain⟨rfl,af⟩:=aa;split at hc
   next xg xa xb hg U hb=>simp[RC.each.injEq]at hc;obtain⟨rfl,rfl,rfl,rfl⟩:=hc;have:=PD gd hI af hg (u true W U) (T true Y hb);intro st o st' h;simp only[cu]at h;exact this st o st' h
   simp at hc
  | region id ops w=>
   simp only[bF]at hc;split at hc
   .split at hc
    .obtain⟨_,_,e⟩:=ζf.1 hc;cases e
    simp at hc
   obtain⟨_,_,e⟩:=ζf.1 hc;cases e
  | seq a b=>simp only[bF]at hc;split at hc <;> simp at hc
  | cond x a b=>simp only[bF]at hc;split at hc <;> simp at hc
  | block id b=>simp only[bF]at hc;obtain⟨_,_,e⟩:=ζf.1 hc;cases e
  | loop b=>simp only[bF]at hc;obtain⟨_,_,e⟩:=ζf.1 hc;cases e
  | _=>simp[bF]at hc
 | exit id=>
  intro ro code hc st o st' h J ν Z F H y r j;simp only[cu,ζa,ζc]at h;obtain⟨rfl,rfl⟩:=h;simp only[erase]at hc;have:∀k,exec S.E (run S.E k) k ro X.nt code F H=some (.exit id,F,H):=λk=>by
   cases code with
   | exit ad=>simp only[bF,ζa,RC.exit.injEq]at hc;subst hc;rfl
   | region id ops w=>
    simp only[bF]at hc;split at hc
    .split at hc
     .obtain⟨_,_,e⟩:=ζf.1 hc;cases e
     simp at hc
    obtain⟨_,_,e⟩:=ζf.1 hc;cases e
   | seq a b=>simp only[bF]at hc;split at hc <;> simp at hc
   | cond x a b=>simp only[bF]at hc;split at hc <;> simp at hc
   | block id b=>simp only[bF]at hc;obtain⟨_,_,e⟩:=ζf.1 hc;cases e
   | loop b=>simp only[bF]at hc;obtain⟨_,_,e⟩:=ζf.1 hc;cases e
   | rangeFunc g ps W Y=>
    simp only[bF]at hc;split at hc
    .simp at hc
    split at hc <;> simp at hc
   | _=>simp[bF]at hc
  exact⟨0,F,H,ν,Z,λk _=>this k,r,j,.refl⟩
 | ret=>
  intro ro code hc st o st' h J ν Z F H y r j;simp only[cu,ζa,ζc]at h;obtain⟨rfl,rfl⟩:=h;simp only[erase]at hc;have:∀k,exec S.E (run S.E k) k ro X.nt code F H=some (.ret,F,H):=λk=>by
   cases code with
   | ret=>rfl
   | region id ops w=>
    simp only[bF]at hc;split at hc
    .split at hc
     .obtain⟨_,_,e⟩:=ζf.1 hc;cases e
     simp at hc
    obtain⟨_,_,e⟩:=ζf.1 hc;cases e
   | seq a b=>simp only[bF]at hc;split at hc <;> simp at hc
   | cond x a b=>simp only[bF]at hc;split at hc <;> simp at hc
   | block id b=>simp only[bF]at hc;obtain⟨_,_,e⟩:=ζf.1 hc;cases e
   | loop b=>simp only[bF]at hc;obtain⟨_,_,e⟩:=ζf.1 hc;cases e
   | rangeFunc g ps W Y=>
    simp only[bF]at hc;split at hc
    .simp at hc
    split at hc <;> simp at hc
   | _=>simp[bF]at hc
  exact⟨0,F,H,ν,Z,λk _=>this k,r,j,.refl⟩
 | gh x a u=>
  intro ro code hc;simp only[erase]at hc;intro st o st' h J ν Z F H y r j;simp only[cu]at h;obtain⟨z,h1,h2⟩:=ζg.1 h;obtain⟨B,C,g1,g2,g3⟩:=Fix.ghost r y j h1;obtain⟨n,F',H',ν',Z',e1,e2,e3,e4⟩:=u ro code hc z o st' h2 J B C F H (by rw[g3.more,g3.yid];exact y) g1 g2
  exact⟨n,F',H',ν',Z',e1,e2,e3,g3.trans e4⟩
 | hg a x u=>
  intro ro code hc;simp only[erase]at hc;intro st o st' h J ν Z F H y r j;simp only[cu]at h;split at h
  .rename_i z hs;obtain⟨st2,h1,e⟩:=ζf.1 h;simp only[ζc]at e;obtain⟨rfl,rfl⟩:=e;obtain⟨n,F',H',ν',Z',e1,e2,e3,e4⟩:=u ro code hc st .norm z hs J ν Z F H y r j;obtain⟨B,C,g1,g2,g3⟩:=Fix.ghost e2 (by rw[e4.more,e4.yid];exact y) e3 h1
   exact⟨n,F',H',B,C,e1,g1,g2,e4.trans g3⟩
  exact u ro code hc st o st' h J ν Z F H y r j
end
end Go.VE
namespace Go.VE
variable [bK]
abbrev oQ:=FuncId->Option RF
def Cx (E:Env) (f:FuncId) (az:List V) (y:V):Prop:=∃n z H' Z,run E n (.fn f) az []=some (z,H')/\FR H' Z y z/\(∀id,Z id->(bl H' id).isSome=true)/\Deep H' Z
structure uI (S:Sys) (T:oQ):Prop where
 fn:∀f rf,T f=some rf->∃fi nm,S.E.ft f=some fi/\(∀g s,nm g=some s->S.N s=g)/\uW S.E nm fi rf
 xq:∀f az y,S.xq f az=some y->Cx S.E f az y
 prm:∀f q,S.prm f=some q->nS S.E f q
def Lp (S:Sys) (f:FuncId) (svs:List SV) (u:c9):Option (List SV×c9):=
 if S.E.keep f then none else match dn svs,u with
  | some az,[]=>(S.xq f az).map λy=>([.v y],[])
  | _,_=>none
noncomputable def jY (S:Sys) (T:oQ):Nat->bN
 | 0=>λ_ _ _=>none
 | n+1=>λf svs u=>match T f with
  | some rf=>l9 S (jY S T n) rf svs u
  | none=>Lp S f svs u
section
variable {ν ν' ν2:Nu} {Z Z':Nat->Prop} {st st' st2:St} {m m':Tb bB} {F F':Frame} {H H' H1:bf} {S:Sys} {c c':bN} {X:CX} {J:JT} {T:oQ}
theorem zd (r:R ν Z st F H) {nm:FuncId->Option Nat}:∀{u:List ResultVar} {rs:List RV} {l:List SV},u.mapM (zw S.E)=some rs->jf st rs=some l->∃ys,iO S.E F H u=some ys/\bO ν st.m H Z l ys
 | [],rs,l,hc,h=>by
  simp  at hc;subst hc;simp[jf]at h;subst h;exact⟨[],rfl,.nil⟩
 | rv::u,rs,l,hc,h=>by
  simp[ζg]at hc;obtain⟨x,B,ys,G,rfl⟩:=hc
  cases rv with
  | tmp t=>
   simp[zw]at B;subst B;simp[jf]at h;split at h
   next v I h1 w=>simp  at h;subst h;obtain⟨C,e1,e2⟩:=zd r (nm:=nm) G w;exact⟨get F t::C,by simp[iO,e1],.cons (r.slot t v h1) e2⟩
   grind
  | cell a t=>
   simp[zw]at B;obtain⟨d,hd,rfl⟩:=B;simp[jf]at h;split at h
   .rename_i v I h1 w;simp  at h;subst h;obtain⟨p,J,h1⟩:=ζg.1 h1;obtain⟨C,e1,e2⟩:=zd r (nm:=nm) G w;obtain⟨y,g1,g2⟩:=tZ (λs a e=>by cases e) (λkk z ok e=>by cases e) (bO.cons (r.slot a p J) .nil) (λL _ ob D=>r.obj L ob D) h1
    simp[fS]at g1;exact⟨y::C,by simp[iO,hd,e1,g1],.cons g2 e2⟩
   grind
theorem Gj (G:∀f q,S.prm f=some q->nS S.E f q) (hS:gY S c) (J:∀f a b xs,S.items f a b=some xs->eR S f a b xs) {f:FuncId} {fi:FI} {nm:FuncId->Option Nat} {rf:RF} (B:S.E.ft f=some fi) (T:∀g s,nm g=some s->S.N s=g) (hr:uW S.E nm fi rf)
 {svs:List SV} {u:c9} {rs:List SV} {m1:c9} (h:l9 S c rf svs u=some (rs,m1)) {args:List V} (r:R ν Z (start svs u) args H) (U:bO ν u H Z svs args) :
 ∃n y H' ν' Z' st' F' ys,run S.E n (.fn f) args H=some (y,H')/\y=result ys/\st'.m=m1/\bO ν' m1 H' Z' rs ys/\R ν' Z' st' F' H'/\Ev (λ_=>False) ν Z (start svs u) H ν' Z' st' H':=by
 obtain⟨hc,C,D⟩:=hr;unfold l9 at h;split at h
 .have key:∀o st',cu S c rf.body (start svs u)=some (o,st')->(∀id,o≠.exit id)->(jf st' rf.rs).map (λrs=>(rs,st'.m))=some (rs,m1) ->
   ∃n y H' ν' Z' st' F' ys,run S.E n (.fn f) args H=some (y,H')/\y=result ys/\st'.m=m1/\bO ν' m1 H' Z' rs ys/\R ν' Z' st' F' H'/\Ev (λ_=>False) ν Z (start svs u) H ν' Z' st' H':=λo st' I ho z=>by
   obtain⟨l,h1,e⟩:=ζf.1 z;obtain⟨rfl,rfl⟩:=e;obtain⟨n,F',H',ν',Z',e1,e2,e3,e4⟩:=GV  ⟨rfl,T,G⟩ hS J rf.body false fi.body hc _ _ _ I (rZ (eM ν (start svs u).m) Z H) ν Z args H rZ.yc r (rZ.refl r);obtain⟨ys,p1,p2⟩:=zd (nm:=nm) e2 C h1;obtain⟨_,L,O,Q,W,X⟩:=e3;refine⟨n+1,result ys,H',ν',Z',st',F',ys,?_,rfl,rfl,p2,e2,⟨L,λi h1 Y h3 _=>O i h1 Y h3,Q,λi h=>(W i h).imp (λh=>h) .inr,λi h=>(X i h).imp (λh=>h) (.imp (λh=>h) .inr),e4.pin,e4.pins⟩⟩
   have w:args.length<=fi.ntmps:=by rw[<-U.1,<-D];omega
   simp[run,jH,B,if_pos w,e1 n (Nat.le_refl _)]
   grind
  grind
 grind
theorem FR.emp {x y:V} (G:∀id,¬Z id) (r:FR H Z x y):x=y:=by
 have B:∀{a w:List V},a.length=w.length->(∀(j:Nat) u v,a[j]? = some u->w[j]? = some v->u=v)->a=w:=λ{a w} h1 z=>by
  apply List.ext_getElem h1;intro i p q;exact z i _ _ (ζd p) (ζd q)
 induction r with
 | same x h=>rfl
 | fsl es C id off D h=>grind
 | fptr C id el off es D cs h=>grind
 | clo f a b w I h1 z _ _ i1 i2=>rw[B h1 i1,B z i2]
 | agg a w h1 _ i1=>grind
 | tup a w h1 _ i1=>grind
theorem bO.emp (u:∀id,¬Z id):∀{xs ys:List V},bO ν m H Z (xs.map .v) ys->xs=ys
 | [],ys,h=>h.c6.symm
 | x::xs,ys,h=>by
  obtain⟨y,ys,rfl,h1,z⟩:=h.inv;rw[FR.emp u h1.fr,bO.emp u z]
theorem zF (B:uI S T) (U:∀f a b xs,S.items f a b=some xs->eR S f a b xs):∀n,gY S (jY S T n)
 | 0=>λf svs Y rs m1 h=>by simp[jY]at h
 | n+1=>λf svs Y rs m1 h ν Z args H W r D=>by
  simp[jY]at h;split at h
  next rf G=>obtain⟨fi,nm,h1,h2,h3⟩:=B.fn f rf G;exact Gj B.prm (zF B U n) U h1 h2 h3 h r D
  unfold Lp at h;split at h
  .simp_all
  split at h
  .rename_i az O;obtain⟨y,Q,e⟩:=ζf.1 h;obtain⟨rfl,rfl⟩:=e;obtain⟨k,z,H',X,w,C,I,s7⟩:=B.xq f az y Q;rcases W with W|rfl
   .grind
   have L:∀id,¬Z id:=λid J=>by have:=r.zrow id J;simp[bl]at this
   have u  := by
    rw[sC O]at D;exact(bO.emp L D).symm
   subst u;refine⟨k,z,H',λ_=>(0,0),X,⟨[],[],[],[],true,0⟩,[],[z],w,rfl,rfl,bO.cons (.v y z C) .nil,?_,?_⟩
   .exact⟨λs sv h=>by simp[a_]at h,λd ob h=>by simp[a_]at h,λd d' ob aa h=>by simp[a_]at h,λd ob h=>by simp[a_]at h,I,s7⟩
   exact⟨Nat.zero_le _,λid h=>by simp_all,λid h=>absurd h (L id),λid h=>by grind,λid h=>.inr (.inr (.inr (Nat.zero_le _))),λd h=>by simp[start]at h,rfl⟩
  grind
abbrev HT:=List ((FuncId×List SV×c9)×(List SV×c9))
def AW (c:bN) (L:HT):Prop:=∀p∈L,c p.1.1 p.1.2.1 p.1.2.2=some p.2
def Fin {α:Type} (c:bN) (f:bN->Option α) (r:α):Prop:=∃L:HT,AW c L/\∀c',AW c' L->f c'=some r
theorem Fin.pure {α:Type} {f:bN->Option α} {r:α} (h:∀c',f c'=some r):Fin c f r:=⟨[],λp u=>by simp_all,λc' _=>h c'⟩
theorem Fin.bind {α β:Type} {f:bN->Option α} {r:α} {g:bN->Option β} {q:β} (h1:Fin c f r) (z:bN->α->Option β) (B:Fin c (λc=>z c r) q) (hg:∀c',f c'=some r->g c'=z c' r):Fin c g q:=by
 obtain⟨w,C,D⟩:=h1;obtain⟨G,I,J⟩:=B;refine⟨w++G,λp u=>(List.mem_append.1 u).elim (C p) (I p),λc' hc=>?_⟩
 rw[hg c' (D c' λp u=>hc p (List.mem_append_left _ u))]
 exact J c' λp u=>hc p (List.mem_append_right _ u)
theorem Fin.call {f:FuncId} {svs:List SV} {u:c9} {r:List SV×c9} (h:c f svs u=some r):Fin c (λc=>c f svs u) r:=
 ⟨[((f,svs,u),r)],λp w=>by grind,λc' hc=>hc ((f,svs,u),r) Zc⟩
theorem C7 {dst:Option Nat} {dr now:Bool} {old:List SV->Bool} {f:FuncId} {args:List SV} {r:SV×St} (h:fe S c dst dr now old f args st=some r):Fin c (λc=>fe S c dst dr now old f args st) r:=by
 have w:=h;unfold fe at h;split at h
 .split at h
  .split at h
   .split at h
    .split at h
     .rename_i rs m' hc;refine(Fin.call hc).bind (λc' q=>fe S c dst dr now old f args st) (.pure λ_=>w) (λc' u=>?_)
      unfold fe
      grind
     grind
    grind
   rename_i z;split at h
   .rename_i q B;refine .pure λc'=>?_
    unfold fe;simp_all
   rename_i B;split at h
   .rename_i os G;split at h
    .rename_i rs m' hc;refine(Fin.call hc).bind (λc' q=>fe S c dst dr now old f args st) (.pure λ_=>w) (λc' u=>?_)
     unfold fe
     clear h w
     simp[*]
    grind
   grind
  grind
 rename_i hk;split at h
 .rename_i az C;split at h
  .rename_i D;split at h
   .rename_i rs m' hc;refine(Fin.call hc).bind (λc' q=>fe S c dst dr now old f args st) (.pure λ_=>w) (λc' u=>?_)
    unfold fe;simp[hk,C,D,hc,u]
   grind
  grind
 grind
theorem N_ {dr:Bool} {fr:List Nat} {o:RO} {r:SV×St} (h:kM S c dr fr o st=some r):Fin c (λc=>kM S c dr fr o st) r:=by
 have w:=h;unfold kM at h;split at h
 .rename_i B u;split at h
  .refine .pure λc'=>?_
   have h1:=w;unfold kM at h1 ⊢;rename_i hk;simp only[u,hk]at h1 ⊢;exact h1
  .refine .pure λc'=>?_
   have h1:=w;unfold kM at h1 ⊢;rename_i C hk;simp only[u,hk]at h1 ⊢;exact h1
  .refine .pure λc'=>?_
   have h1:=w;unfold kM at h1 ⊢;rename_i hk;simp only[u,hk]at h1 ⊢;exact h1
  .refine .pure λc'=>?_
   have h1:=w;unfold kM at h1 ⊢;rename_i hk;simp only[u,hk]at h1 ⊢;exact h1
  .refine .pure λc'=>?_
   have h1:=w;unfold kM at h1 ⊢;rename_i hk;simp only[u,hk]at h1 ⊢;exact h1
  .rename_i hk;split at h
   .refine(C7 h).bind (λ_ q=>some q) (.pure λ_=>rfl) (λc' z=>?_)
    unfold kM;simp only[u,hk,z]
   .refine(C7 h).bind (λ_ q=>some q) (.pure λ_=>rfl) (λc' z=>?_)
    unfold kM;simp only[u,hk,z]
   simp at h
  .refine .pure λc'=>?_
   have h1:=w;unfold kM at h1 ⊢;rename_i hk;simp only[u,hk]at h1 ⊢;exact h1
  refine .pure λc'=>?_
  have h1:=w;unfold kM at h1 ⊢;rename_i hk;simp only[u,hk]at h1 ⊢;exact h1
 simp at h
theorem OX {dr:Bool} {fr:List Nat} {o:RO} {r:St} (h:eT S c dr fr o st=some r):Fin c (λc=>eT S c dr fr o st) r:=by
 unfold eT at h;split at h
 .split at h
  .refine .pure λc'=>?_
   unfold eT
   grind
  obtain⟨q,u,e⟩:=ζf.1 h;refine(N_ u).bind (λ_ q=>some (cU q.2 o.dst q.1)) (.pure λ_=>by simp_all) (λc' w=>?_)
  unfold eT
  grind
 .refine .pure λc'=>?_
  unfold eT
  grind
 grind
theorem AA {dr:Bool}:∀{l:List RO} {fr:List Nat} {st r:St},lP S c dr fr l st=some r->Fin c (λc=>lP S c dr fr l st) r
 | [],fr,st,r,h=>.pure λ_=>h
 | o::l,fr,st,r,h=>by
  simp[lP]at h;split at h
  next z u=>obtain⟨B,hg,u⟩:=ζg.1 u;exact(OX u).bind (λc' q=>lP S c' dr (if dr then oP fr o.strip else fr) l (nD o.dead q)) (AA h) (λc' w=>by simp[lP,hg,w])
  grind
theorem Dl {f:bN->St->Option (Out×St)} (z:∀st r,f c st=some r->Fin c (λc=>f c st) r):∀{k:Nat} {st:St} {r:Out×St},h_ (f c) k st=some r->Fin c (λc=>h_ (f c) k st) r
 | 0,st,r,h=>by simp[h_]at h
 | k+1,st,r,h=>by
  simp[h_]at h;split at h
  next B D=>exact(z st _ D).bind (λc' q=>h_ (f c') k B) (Dl z h) (λc' u=>by simp[h_,u])
  refine(z st r h).bind (λ_ q=>some q) (.pure λ_=>rfl) (λc' u=>?_)
  simp[h_,u]
  grind
theorem Dh {f:bN->List V->Tb bB->Option (Out×Tb bB)} (z:∀x m r,f c x m=some r->Fin c (λc=>f c x m) r):∀{xs:List (List V)} {m:Tb bB} {r:Out×Tb bB},oH (f c) xs m=some r->Fin c (λc=>oH (f c) xs m) r
 | [],m,r,h=>.pure λ_=>h
 | x::xs,m,r,h=>by
  simp[oH]at h;split at h
  next m1 B=>exact(z x m _ B).bind (λc' q=>oH (f c') xs m1) (Dh z h) (λc' u=>by simp[oH,u])
  refine(z x m r h).bind (λ_ q=>some q) (.pure λ_=>rfl) (λc' u=>?_)
  simp[oH,u]
  grind
theorem Js:∀{rc:RC} {st:St} {r:Out×St},cu S c rc st=some r->Fin c (λc=>cu S c rc st) r:=by
 intro rc
 induction rc with
 | skip=>exact λh=>.pure λ_=>h
 | exit id=>exact λh=>.pure λ_=>h
 | ret=>exact λh=>.pure λ_=>h
 | ops l=>
  intro st r h;simp only[cu]at h ⊢;obtain⟨q,G,e⟩:=ζf.1 h;exact(AA G).bind (λ_ q=>some (.norm,q)) (.pure λ_=>by simp_all) (λc' w=>by grind)
 | qm l=>
  intro st r h;simp only[cu]at h ⊢;obtain⟨q,G,e⟩:=ζf.1 h;exact(AA G).bind (λ_ q=>some (.norm,q)) (.pure λ_=>by simp_all) (λc' w=>by grind)
 | seq a b u C=>
  intro st r h;simp[cu]at h ⊢;split at h
  next B D=>exact(u D).bind (λc' q=>cu S c' b B) (C h) (λc' w=>by grind)
  rename_i D;refine(u h).bind (λ_ q=>some q) (.pure λ_=>rfl) (λc' w=>?_)
  grind
 | cond x a b u C=>
  intro st r h;simp[cu]at h ⊢
  grind
 | block id a u=>
  intro st r h;simp[cu]at h ⊢;split at h
  next I B D=>exact(u D).bind (λc' q=>if I=id then some (.norm,B)else some (.exit I,B)) (.pure λ_=>h) (λc' w=>by grind)
  refine(u h).bind (λ_ q=>some q) (.pure λ_=>rfl) (λc' w=>?_)
  grind
 | loop a u=>
  intro st r h;obtain⟨k,hk⟩:=kX.1 h;refine(Dl  (λst r h=>u h) hk).bind (λ_ q=>some q) (.pure λ_=>rfl) (λc' w=>?_)
  exact kX.2 ⟨k,w⟩
 | each g L a b u C=>
  intro st r h;simp only[cu]at h ⊢;split at h
  .split at h
   .obtain⟨q,G,e⟩:=ζf.1 h;refine(Dh (f:=λc=>gP L (cu S c a) (cu S c b) st) (λz m r h=>?_) G).bind (λ_ q=>some (q.1,{ st with m:=q.2 })) (.pure λ_=>by simp_all) (λc' w=>by grind)
    unfold gP at h;split at h
    .split at h
     .rename_i B h1;obtain⟨O,J,e2⟩:=ζf.1 h;refine(u h1).bind (λc' q=>(cu S c' b B).map λ(o,st2)=>(o,st2.m)) ((C J).bind (λ_ q=>some (q.1,q.2.m)) (.pure λ_=>by simp_all) (λc' w=>by grind)) (λc' w=>?_)
      unfold gP
      grind
     grind
    grind
   grind
  grind
 | gh x a u=>
  intro st r h;simp[cu]at h ⊢;obtain⟨B,h1,Q⟩:=ζg.1 h
  grind
 | hg a x u=>
  intro st r h;simp[cu]at h ⊢;split at h
  next B D=>exact(u D).bind (λc' q=>(ghost x B).map λst=>(.norm,st)) (.pure λ_=>h) (λc' w=>by grind)
  refine(u h).bind (λ_ q=>some q) (.pure λ_=>rfl) (λc' w=>?_)
  grind
theorem yL {rf:RF} {svs:List SV} {u:c9} {r:List SV×c9} (h:l9 S c rf svs u=some r):Fin c (λc=>l9 S c rf svs u) r:=by
 have w:=h;unfold l9 at h;split at h
 .split at h
  .simp_all
  .rename_i o st z B;refine(Js B).bind (λc' q=>l9 S c rf svs u) (.pure λ_=>w) (λc' C=>?_)
   unfold l9
   grind
  grind
 grind
theorem BH:∀{n:Nat} {f:FuncId} {svs:List SV} {u:c9} {r:List SV×c9},jY S T n f svs u=some r->jY S T (n+1) f svs u=some r
 | 0,f,svs,u,r,h=>by simp[jY]at h
 | n+1,f,svs,u,r,h=>by
  simp[jY]at h;rw[jY];split at h
  next rf z=>obtain⟨L,h1,B⟩:=yL h;simp[z];exact B _ λp w=>BH (h1 p w)
  grind
theorem Ad {n k:Nat} (h:n<=k) {f:FuncId} {svs:List SV} {u:c9} {r:List SV×c9} (z:jY S T n f svs u=some r):jY S T k f svs u=some r:=by
 induction h with
 | refl=>omega
 | step _ w=>exact BH w
open Classical in
noncomputable def dI (S:Sys) (T:oQ):bN:=λf u w=>if h:∃n r,jY S T n f u w=some r then some (Classical.choose (Classical.choose_spec h))else none
theorem pX {f:FuncId} {svs:List SV} {u:c9} {r:List SV×c9}:dI S T f svs u=some r↔∃n,jY S T n f svs u=some r:=by
 unfold dI;constructor
 .intro h;split at h
  .grind
  grind
 rintro⟨k,hk⟩;have w:∃n r,jY S T n f svs u=some r:=⟨k,r,hk⟩;have z:=Classical.choose_spec (Classical.choose_spec w);have B:=Ad (Nat.le_max_left (Classical.choose w) k) z;have C:=Ad (Nat.le_max_right (Classical.choose w) k) hk
 grind
theorem HV {L:HT} (h:AW (dI S T) L):∃n,∀k,n<=k->AW (jY S T k) L:=by
 induction L with
 | nil=>exact⟨0,λk _ p hp=>by simp_all⟩
 | cons q L u=>
  obtain⟨w,h1⟩:=pX.1 (h q Zc)
  obtain⟨z,B⟩:=u λp hp=>h p (List.mem_cons_of_mem _ hp)
  refine⟨max w z,λk hk p hp=>?_⟩
  rcases List.mem_cons.1 hp with rfl|hp
  .exact Ad (Nat.le_trans (Nat.le_max_left _ _) hk) h1
  exact B k (Nat.le_trans (Nat.le_max_right _ _) hk) p hp
theorem JX {f:FuncId} {az:List V} {y:V} (u:T f=none) (hk:S.E.keep f=false) (h:S.xq f az=some y):dI S T f (az.map .v) []=some ([.v y],[]):=by
 refine pX.2 ⟨1,?_⟩;have w:dn (az.map .v)=some az:=by
  clear h
  induction az with
  | nil=>rfl
  | cons a l z=>simp only[List.map_cons,dn,z];rfl
 simp only[jY,u,Lp,hk,w,h];rfl
theorem qO {f:FuncId} {rf:RF} (z:T f=some rf) (svs:List SV) (u:c9):dI S T f svs u=l9 S (dI S T) rf svs u:=by
 cases h:l9 S (dI S T) rf svs u with
 | some r=>
  obtain⟨L,h1,B⟩:=yL h;obtain⟨n,w⟩:=HV h1;refine pX.2 ⟨n+1,?_⟩;simp[jY,z]
  grind
 | none=>
  cases B:dI S T f svs u with
  | none=>rfl
  | some r=>
   obtain⟨n,w⟩:=pX.1 B
   cases n with
   | zero=>simp[jY]at w
   | succ n=>
    simp[jY,z]at w;obtain⟨L,C,D⟩:=yL w;have I:=D (dI S T) λp G=>pX.2 ⟨n,C p G⟩
    grind
theorem vr (z:uI S T) (B:∀f a b xs,S.items f a b=some xs->eR S f a b xs):gY S (dI S T):=λf u w rs C h=>by
 obtain⟨n,D⟩:=pX.1 h;exact zF z B n f u w rs C D
theorem Hq (U:∀f q,S.prm f=some q->nS S.E f q) (hS:gY S c) {f:FuncId} {fi:FI} {nm:FuncId->Option Nat} {rf:RF} (W:∀f a b xs,S.items f a b=some xs->eR S f a b xs) (B:S.E.ft f=some fi) (Y:∀g s,nm g=some s->S.N s=g) (hr:uW S.E nm fi rf) {a b:List V} {xs:List (List V)}
 (T:a.length+1+b.length<=rf.na) (D:rf.rs=[])
 (h:∀u more,(more=true/\u=xs\/more=false/\u≠[]/\∃r,xs=u++r)->∀yid,∃o st',cu S c rf.body { g:=sS 0 (a.map .v++.yl yid::b.map .v),m:=[],pin:=[],want:=u,more:=more,yid:=yid }=some (o,st')/\(∀id,o≠.exit id)/\st'.want=[]/\st'.m=st'.m) :
 eR S f a b xs:=by
 intro u more O yid J y Z C G H Q X hz hd j;obtain⟨o,st',h1,h2,h3,_⟩:=h u more O yid;obtain⟨hc,z,I⟩:=hr;have L:bO (λ_=>(0,0)) [] H Z (a.map .v++.yl yid::b.map .v) (C++.yld yid::G):=(bO.o7 Q).append (.cons (.yl yid) (bO.o7 X))
 have r0:R (λ_=>(0,0)) Z { g:=sS 0 (a.map .v++.yl yid::b.map .v),m:=[],pin:=[],want:=u,more:=more,yid:=yid } (C++.yld yid::G) H:=
  ⟨vg L,λd ob h=>by simp[a_]at h,λd d' ob aa h=>by simp[a_]at h,λd ob h=>by simp[a_]at h,hz,hd⟩
 obtain⟨n,F',H',ν',Z',e1,e2,e3,e4⟩:=GV  ⟨rfl,Y,U⟩ hS W rf.body false fi.body hc _ _ _ h1 J _ Z _ H y r0 (by
  refine y.uz _ _ _ _ _ _ _ j (Nat.le_refl _) (λ_ _ _ _=>rfl) (λi hi=>⟨hi,rfl⟩) (λi hi=>?_) (λi hi=>.inl hi)
  obtain⟨d,ob,h,_⟩:=hi;simp[a_]at h)
 rw[h3]at e3;rw[D]at z;obtain⟨ys,p1,p2⟩:=zd (nm:=nm)   e2 z rfl;refine⟨n+1,result ys,H',_,Z',λk hk=>?_,e3⟩
 have w:(C++V.yld yid::G).length<=fi.ntmps:=by rw[<-L.1,<-I];simp;omega
 cases k with
 | zero=>omega
 | succ k=>
  simp[run,jH,B,if_pos w,e1 k Za]
  grind
theorem OB (u:uI S T) (B:∀f a b xs,S.items f a b=some xs->eR S f a b xs) {f:FuncId} {az:List V} (hg:V.cH az=true) {y:V} {m':c9} (h:dI S T f (az.map .v) []=some ([.v y],m')) (D:y.scalar=true) :
 ∃n H',run S.E n (.fn f) az []=some (y,H'):=by
 obtain⟨w,r1⟩:=xU hg;obtain⟨n,I,H2,ν',Z',st',F',C,h1,rfl,J,G,L,_⟩:=vr u B f _ _ _ _ h _ _ az [] (.inr rfl) w r1;obtain⟨z,C,rfl,e1,e2⟩:=G.inv;rw[e2.c6]at h1;have:=(e1.fr.scalar).1 D;subst this;exact⟨n,H2,h1⟩
end
end Go.VE
