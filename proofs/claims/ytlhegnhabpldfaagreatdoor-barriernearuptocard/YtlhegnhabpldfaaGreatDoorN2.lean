/-
 The second layer: named objects in the place of rows; texts, calls, iterators.
-/
import Derived.Test.YtlhegnhabpldfaaGreatDoorN1
set_option linter.all false
namespace Go.VE
variable [bV]
def kP (st:St):List RV->Option (List SV)
 | []=>some []
 | .s n::r=>match bh st.g n,kP st r with
  | some x,some l=>some (x::l)
  | _,_=>none
 | .ld n size agg::r=>match (bh st.g n).bind λp=>mh st.m (.load size agg) [p],kP st r with
  | some x,some l=>some (x::l)
  | _,_=>none
noncomputable def mB (S:Sys) (c:ck) (rf:RF) (svs:List SV) (B:dZ):Option (List SV×dZ):=
 if svs.length<=rf.na then
  match cH S c rf.body (start svs B)with
  | some (.exit _,_)=>none
  | some (_,st)=>(kP st rf.rs).map λrs=>(rs,st.m)
  | none=>none
 else none
def z8 (E:Env):ResultVar->Option RV
 | .tmp t=>some (.s t)
 | .cell a t=>(E.tt t).map λd=>.ld a d.size d.agg
def xR (E:Env) (nm:FuncId->Option Nat) (fi:FI) (rf:RF):Prop:=
 bQ ⟨E,nm,fi.ntmps⟩ false fi.body=some (erase rf.body)/\fi.results.mapM (z8 E)=some rf.rs/\rf.na=fi.ntmps
section
variable {ν ν' ν2:Nu} {Z Z':Nat->Prop} {st st' st2:St} {m m':Tb bG} {F F':Frame} {H H' H1:bl} {S:Sys} {c:ck} {X:CX} {J:JT}
theorem IU (gd:Good X S) (hS:jo S c) (hI:∀f a b xs,S.items f a b=some xs->fH S f a b xs):∀(rc:RC) (ro:Bool) (code:Code),bQ X ro code=some (erase rc)->rO X S ro code (cH S c rc):=by
 intro rc
 induction rc with
 | skip=>
  intro ro code hc st o st' h J ν Z F H y r j;obtain⟨rfl,rfl⟩:=h;simp[erase]at hc;have:∀k,exec S.E (run S.E k) k ro X.nt code F H=some (.norm,F,H):=λk=>by
   cases code with
   | skip=>rfl
   | label _=>rfl
   | region id ops w=>
    simp[bQ]at hc;split at hc
    .simp_all
    simp_all
   | seq a b=>simp[bQ]at hc;grind
   | cond x a b=>simp[bQ]at hc;grind
   | block id b=>simp only[bQ]at hc;simp_all
   | loop b=>simp only[bQ]at hc;simp_all
   | rangeFunc g ps U W=>
    simp[bQ]at hc
    grind
   | _=>simp[bQ]at hc
  exact⟨0,F,H,ν,Z,λk _=>this k,r,j,.refl⟩
 | ops l=>
  intro ro code hc;simp[erase]at hc
  cases code with
  | region id ops w=>
   simp[bQ]at hc;split at hc
   .simp_all
   rename_i hd;obtain⟨l',hl,e⟩:=ζf.1 hc;cases e;intro st o st' h J ν Z F H y r j;obtain⟨z,h1,e⟩:=ζf.1 h;obtain⟨rfl,rfl⟩:=e;obtain⟨n,F',H',ν',Z',e1,e2,e3,e4⟩:=Mr gd hS _ hl h1 y r j;refine⟨n,F',H',ν',Z',λk hk=>?_,e2,e3,e4⟩
   simp[exec,jk,hd,e1 k hk]
  | seq a b=>simp[bQ]at hc;grind
  | cond x a b=>simp[bQ]at hc;grind
  | block id b=>simp only[bQ]at hc;simp_all
  | loop b=>obtain⟨_,_,e⟩:=ζf.1 hc;cases e
  | rangeFunc g ps U W=>
   simp only[bQ]at hc;split at hc
   .simp at hc
   split at hc <;> simp at hc
  | _=>simp[bQ]at hc
 | oQ l=>
  intro ro code hc;simp[erase]at hc
  cases code with
  | region id ops w=>
   simp only[bQ]at hc;split at hc
   .rename_i hd;subst hd;split at hc
    next ab=>obtain⟨l',hl,e⟩:=ζf.1 hc;cases e;have:=LC (ro:=ro) (id:=id) gd hS hl ab;intro st o st' h;exact this st o st' h
    simp at hc
   obtain⟨_,_,e⟩:=ζf.1 hc;cases e
  | seq a b=>simp[bQ]at hc;split at hc <;> simp at hc
  | cond x a b=>simp[bQ]at hc;split at hc <;> simp at hc
  | block id b=>obtain⟨_,_,e⟩:=ζf.1 hc;cases e
  | loop b=>obtain⟨_,_,e⟩:=ζf.1 hc;cases e
  | rangeFunc g ps U W=>
   simp only[bQ]at hc;split at hc
   .simp at hc
   split at hc <;> simp at hc
  | _=>simp[bQ]at hc
 | seq a b u Q=>
  intro ro code hc;simp[erase]at hc
  cases code with
  | seq Y cb=>
   simp[bQ]at hc;split at hc
   .rename_i xa xb T hb;simp[RC.seq.injEq]at hc;obtain⟨rfl,rfl⟩:=hc;intro st o st' h J ν Z F H y r j;simp[cH]at h;split at h
    .rename_i z hs;obtain⟨I,F1,H1,B,C,a1,L,O,D⟩:=u ro Y T st .norm z hs J ν Z F H y r j;obtain⟨n2,F2,H2,ν2,Z2,b1,b2,b3,b4⟩:=Q ro cb hb z o st' h J B C F1 H1 (by rw[D.more,D.yid];exact y) L O
     refine⟨max I n2,F2,H2,ν2,Z2,λq G=>?_,b2,b3,D.trans b4⟩
     simp[exec,a1 q (Nat.le_trans (Nat.le_max_left _ _) G)];exact b1 q (Nat.le_trans (Nat.le_max_right _ _) G)
    rename_i hs;obtain⟨I,F1,H1,B,C,a1,L,O,D⟩:=u ro Y T st o st' h J ν Z F H y r j;refine⟨I,F1,H1,B,C,λq G=>?_,L,O,D⟩
    simp[exec,a1 q G];cases o <;> first|exact absurd h (hs st')|rfl
   simp at hc
  | region id ops w=>
   simp[bQ]at hc;split at hc
   .split at hc
    .obtain⟨_,_,e⟩:=ζf.1 hc;cases e
    simp at hc
   obtain⟨_,_,e⟩:=ζf.1 hc;cases e
  | cond x a b=>simp[bQ]at hc;split at hc <;> simp at hc
  | block id b=>simp only[bQ]at hc;obtain⟨_,_,e⟩:=ζf.1 hc;cases e
  | loop b=>simp only[bQ]at hc;obtain⟨_,_,e⟩:=ζf.1 hc;cases e
  | rangeFunc g ps U W=>
   simp only[bQ]at hc;split at hc
   .simp at hc
   split at hc <;> simp at hc
  | _=>simp[bQ]at hc
 | cond x a b u Q=>
  intro ro code hc;simp[erase]at hc
  cases code with
  | cond g Y cb=>
   simp[bQ]at hc;split at hc
   .rename_i xg xa xb hg T hb;simp[RC.cond.injEq]at hc;obtain⟨rfl,rfl,rfl⟩:=hc;intro st o st' h J ν Z F H y r j;simp[cH]at h;split at h
    .rename_i t ht;obtain⟨yv,hy,ry⟩:=Dy gd.N r.slot hg ht;rw[ry.fr.bool]at hy;split at h
     .rename_i hb;obtain⟨I,F1,H1,B,C,a1,L,O,D⟩:=u ro Y T st o st' h J ν Z F H y r j;refine⟨I,F1,H1,B,C,λq G=>?_,L,O,D⟩
      simp[exec,hy,hb];exact a1 q G
     rename_i hb;obtain⟨I,F1,H1,B,C,a1,L,O,D⟩:=Q ro cb (by assumption) st o st' h J ν Z F H y r j
     refine⟨I,F1,H1,B,C,λq G=>?_,L,O,D⟩
     simp[exec,hy,hb];exact a1 q G
    simp at h
   simp at hc
  | region id ops w=>
   simp[bQ]at hc;split at hc
   .split at hc
    .obtain⟨_,_,e⟩:=ζf.1 hc;cases e
    simp at hc
   obtain⟨_,_,e⟩:=ζf.1 hc;cases e
  | seq a b=>simp[bQ]at hc;split at hc <;> simp at hc
  | block id b=>simp only[bQ]at hc;obtain⟨_,_,e⟩:=ζf.1 hc;cases e
  | loop b=>simp only[bQ]at hc;obtain⟨_,_,e⟩:=ζf.1 hc;cases e
  | rangeFunc g ps U W=>
   simp only[bQ]at hc;split at hc
   .simp at hc
   split at hc <;> simp at hc
  | _=>simp[bQ]at hc
 | block id a u=>
  intro ro code hc;simp[erase]at hc
  cases code with
  | block ad Y=>
   simp only[bQ]at hc;obtain⟨xa,T,e⟩:=ζf.1 hc;simp[RC.block.injEq]at e;obtain⟨rfl,rfl⟩:=e;intro st o st' h J ν Z F H y r j;simp[cH]at h;split at h
   .rename_i ae z hs;obtain⟨I,F1,H1,B,C,a1,L,O,D⟩:=u ro Y T st (.exit ae) z hs J ν Z F H y r j;split at h
    .rename_i e;simp  at h;obtain⟨rfl,rfl⟩:=h;refine⟨I,F1,H1,B,C,λq G=>?_,L,O,D⟩
     simp[exec,a1 q G,if_pos e]
    rename_i e;simp  at h;obtain⟨rfl,rfl⟩:=h;refine⟨I,F1,H1,B,C,λq G=>?_,L,O,D⟩
    simp[exec,a1 q G,if_neg e]
   rename_i hs;obtain⟨I,F1,H1,B,C,a1,L,O,D⟩:=u ro Y T st o st' h J ν Z F H y r j;refine⟨I,F1,H1,B,C,λq G=>?_,L,O,D⟩
   simp[exec,a1 q G];cases o <;> first|exact absurd h (hs _ st')|rfl
  | region id ops w=>
   simp[bQ]at hc;split at hc
   .split at hc
    .obtain⟨_,_,e⟩:=ζf.1 hc;cases e
    simp at hc
   obtain⟨_,_,e⟩:=ζf.1 hc;cases e
  | seq a b=>simp[bQ]at hc;split at hc <;> simp at hc
  | cond x a b=>simp[bQ]at hc;split at hc <;> simp at hc
  | loop b=>simp only[bQ]at hc;obtain⟨_,_,e⟩:=ζf.1 hc;cases e
  | rangeFunc g ps U W=>
   simp only[bQ]at hc;split at hc
   .simp at hc
   split at hc <;> simp at hc
  | _=>simp[bQ]at hc
 | loop a u=>
  intro ro code hc;simp[erase]at hc
  cases code with
  | loop Y=>
   simp only[bQ]at hc;obtain⟨xa,T,e⟩:=ζf.1 hc;simp[RC.loop.injEq]at e;subst e;have:=RS (u ro Y T);intro st o st' h;simp[cH]at h;exact this st o st' h
  | region id ops w=>
   simp[bQ]at hc;split at hc
   .split at hc
    .obtain⟨_,_,e⟩:=ζf.1 hc;cases e
    simp at hc
   obtain⟨_,_,e⟩:=ζf.1 hc;cases e
  | seq a b=>simp[bQ]at hc;split at hc <;> simp at hc
  | cond x a b=>simp[bQ]at hc;split at hc <;> simp at hc
  | block id b=>simp only[bQ]at hc;obtain⟨_,_,e⟩:=ζf.1 hc;cases e
  | rangeFunc g ps U W=>
   simp only[bQ]at hc;split at hc
   .simp at hc
   split at hc <;> simp at hc
  | _=>simp[bQ]at hc
 | each x ps a b u Q=>
  intro ro code hc;simp[erase]at hc
  cases code with
  | rangeFunc g ah U W=>
   simp only[bQ]at hc;split at hc
   .simp at hc
   rename_i aa;simp only[Bool.or_eq_true,not_or,Bool.not_eq_true,Bool.not_eq_false']at aa;obtain⟨rfl,af⟩:=aa;split at hc
   next xg xa xb hg T hb=>simp[RC.each.injEq]at hc;obtain⟨rfl,rfl,rfl,rfl⟩:=hc;have:=RZ gd hI af hg (u true U T) (Q true W hb);intro st o st' h;simp only[cH]at h;exact this st o st' h
   simp at hc
  | region id ops w=>
   simp only[bQ]at hc;split at hc
   .split at hc
    .obtain⟨_,_,e⟩:=ζf.1 hc;cases e
    simp at hc
   obtain⟨_,_,e⟩:=ζf.1 hc;cases e
  | seq a b=>simp only[bQ]at hc;split at hc <;> simp at hc
  | cond x a b=>simp only[bQ]at hc;split at hc <;> simp at hc
  | block id b=>simp only[bQ]at hc;obtain⟨_,_,e⟩:=ζf.1 hc;cases e
  | loop b=>simp only[bQ]at hc;obtain⟨_,_,e⟩:=ζf.1 hc;cases e
  | _=>simp[bQ]at hc
 | exit id=>
  intro ro code hc st o st' h J ν Z F H y r j;simp only[cH,ζa,ζc]at h;obtain⟨rfl,rfl⟩:=h;simp only[erase]at hc;have:∀k,exec S.E (run S.E k) k ro X.nt code F H=some (.exit id,F,H):=λk=>by
   cases code with
   | exit ad=>simp only[bQ,ζa,RC.exit.injEq]at hc;subst hc;rfl
   | region id ops w=>
    simp only[bQ]at hc;split at hc
    .split at hc
     .obtain⟨_,_,e⟩:=ζf.1 hc;cases e
     simp at hc
    obtain⟨_,_,e⟩:=ζf.1 hc;cases e
   | seq a b=>simp only[bQ]at hc;split at hc <;> simp at hc
   | cond x a b=>simp only[bQ]at hc;split at hc <;> simp at hc
   | block id b=>simp only[bQ]at hc;obtain⟨_,_,e⟩:=ζf.1 hc;cases e
   | loop b=>simp only[bQ]at hc;obtain⟨_,_,e⟩:=ζf.1 hc;cases e
   | rangeFunc g ps U W=>
    simp only[bQ]at hc;split at hc
    .simp at hc
    split at hc <;> simp at hc
   | _=>simp[bQ]at hc
  exact⟨0,F,H,ν,Z,λk _=>this k,r,j,.refl⟩
 | ret=>
  intro ro code hc st o st' h J ν Z F H y r j;simp only[cH,ζa,ζc]at h;obtain⟨rfl,rfl⟩:=h;simp only[erase]at hc;have:∀k,exec S.E (run S.E k) k ro X.nt code F H=some (.ret,F,H):=λk=>by
   cases code with
   | ret=>rfl
   | region id ops w=>
    simp only[bQ]at hc;split at hc
    .split at hc
     .obtain⟨_,_,e⟩:=ζf.1 hc;cases e
     simp at hc
    obtain⟨_,_,e⟩:=ζf.1 hc;cases e
   | seq a b=>simp only[bQ]at hc;split at hc <;> simp at hc
   | cond x a b=>simp only[bQ]at hc;split at hc <;> simp at hc
   | block id b=>simp only[bQ]at hc;obtain⟨_,_,e⟩:=ζf.1 hc;cases e
   | loop b=>simp only[bQ]at hc;obtain⟨_,_,e⟩:=ζf.1 hc;cases e
   | rangeFunc g ps U W=>
    simp only[bQ]at hc;split at hc
    .simp at hc
    split at hc <;> simp at hc
   | _=>simp[bQ]at hc
  exact⟨0,F,H,ν,Z,λk _=>this k,r,j,.refl⟩
 | gh x a u=>
  intro ro code hc;simp only[erase]at hc;intro st o st' h J ν Z F H y r j;simp only[cH]at h;obtain⟨z,h1,h2⟩:=ζg.1 h;obtain⟨B,C,g1,g2,g3⟩:=Fix.ghost r y j h1;obtain⟨n,F',H',ν',Z',e1,e2,e3,e4⟩:=u ro code hc z o st' h2 J B C F H (by rw[g3.more,g3.yid];exact y) g1 g2
  exact⟨n,F',H',ν',Z',e1,e2,e3,g3.trans e4⟩
 | hg a x u=>
  intro ro code hc;simp only[erase]at hc;intro st o st' h J ν Z F H y r j;simp only[cH]at h;split at h
  .rename_i z hs;obtain⟨st2,h1,e⟩:=ζf.1 h;simp only[ζc]at e;obtain⟨rfl,rfl⟩:=e;obtain⟨n,F',H',ν',Z',e1,e2,e3,e4⟩:=u ro code hc st .norm z hs J ν Z F H y r j;obtain⟨B,C,g1,g2,g3⟩:=Fix.ghost e2 (by rw[e4.more,e4.yid];exact y) e3 h1
   exact⟨n,F',H',B,C,e1,g1,g2,e4.trans g3⟩
  exact u ro code hc st o st' h J ν Z F H y r j
end
end Go.VE
namespace Go.VE
variable [bV]
abbrev pI:=FuncId->Option RF
def wK (E:Env) (f:FuncId) (az:List V) (y:V):Prop:=∃n z H' Z,run E n (.fn f) az []=some (z,H')/\FR H' Z y z/\(∀id,Z id->(bp H' id).isSome=true)/\Deep H' Z
structure qH (S:Sys) (T:pI):Prop where
 fn:∀f rf,T f=some rf->∃fi nm,S.E.ft f=some fi/\(∀g s,nm g=some s->S.N s=g)/\xR S.E nm fi rf
 yB:∀f az y,S.yB f az=some y->wK S.E f az y
 prm:∀f q,S.prm f=some q->oa S.E f q
def Ny (S:Sys) (f:FuncId) (svs:List SV) (B:dZ):Option (List SV×dZ):=
 if S.E.keep f then none else match dw svs,B with
  | some az,[]=>(S.yB f az).map λy=>([.v y],[])
  | _,_=>none
noncomputable def k_ (S:Sys) (T:pI):Nat->ck
 | 0=>λ_ _ _=>none
 | n+1=>λf svs B=>match T f with
  | some rf=>mB S (k_ S T n) rf svs B
  | none=>Ny S f svs B
section
variable {ν ν' ν2:Nu} {Z Z':Nat->Prop} {st st' st2:St} {m m':Tb bG} {F F':Frame} {H H' H1:bl} {S:Sys} {c c':ck} {X:CX} {J:JT} {T:pI}
theorem As (r:R ν Z st F H) {nm:FuncId->Option Nat}:∀{B:List ResultVar} {rs:List RV} {l:List SV},B.mapM (z8 S.E)=some rs->kP st rs=some l->∃ys,iq S.E F H B=some ys/\b_ ν st.m H Z l ys
 | [],rs,l,hc,h=>by
  simp  at hc;subst hc;simp[kP]at h;subst h;exact⟨[],rfl,.nil⟩
 | rv::B,rs,l,hc,h=>by
  simp[ζg]at hc;obtain⟨x,D,ys,G,rfl⟩:=hc
  cases rv with
  | tmp t=>
   simp[z8]at D;subst D;simp[kP]at h;split at h
   next v I h1 u=>simp  at h;subst h;obtain⟨w,e1,e2⟩:=As r (nm:=nm) G u;exact⟨get F t::w,by simp[iq,e1],.cons (r.slot t v h1) e2⟩
   grind
  | cell a t=>
   simp[z8]at D;obtain⟨d,J,rfl⟩:=D;simp[kP]at h;split at h
   .rename_i v I h1 u;simp  at h;subst h;obtain⟨p,L,h1⟩:=ζg.1 h1;obtain⟨w,e1,e2⟩:=As r (nm:=nm) G u;obtain⟨y,g1,g2⟩:=vk (λs a e=>by cases e) (λkk z ok e=>by cases e) (b_.cons (r.slot a p L) .nil) (λO _ ob C=>r.obj O ob C) h1
    simp[eR]at g1;exact⟨y::w,by simp[iq,J,e1,g1],.cons g2 e2⟩
   grind
theorem HT (G:∀f q,S.prm f=some q->oa S.E f q) (J:jo S c) (O:∀f a b xs,S.items f a b=some xs->fH S f a b xs) {f:FuncId} {fi:FI} {nm:FuncId->Option Nat} {rf:RF} (D:S.E.ft f=some fi) (U:∀g s,nm g=some s->S.N s=g) (hr:xR S.E nm fi rf)
 {svs:List SV} {B:dZ} {rs:List SV} {m1:dZ} (h:mB S c rf svs B=some (rs,m1)) {args:List V} (r:R ν Z (start svs B) args H) (W:b_ ν B H Z svs args) :
 ∃n y H' ν' Z' st' F' ys,run S.E n (.fn f) args H=some (y,H')/\y=result ys/\st'.m=m1/\b_ ν' m1 H' Z' rs ys/\R ν' Z' st' F' H'/\Ev (λ_=>False) ν Z (start svs B) H ν' Z' st' H':=by
 obtain⟨hc,z,C⟩:=hr;unfold mB at h;split at h
 .have key:∀o st',cH S c rf.body (start svs B)=some (o,st')->(∀id,o≠.exit id)->(kP st' rf.rs).map (λrs=>(rs,st'.m))=some (rs,m1) ->
   ∃n y H' ν' Z' st' F' ys,run S.E n (.fn f) args H=some (y,H')/\y=result ys/\st'.m=m1/\b_ ν' m1 H' Z' rs ys/\R ν' Z' st' F' H'/\Ev (λ_=>False) ν Z (start svs B) H ν' Z' st' H':=λo st' I ho w=>by
   obtain⟨l,h1,e⟩:=ζf.1 w;obtain⟨rfl,rfl⟩:=e;obtain⟨n,F',H',ν',Z',e1,e2,e3,e4⟩:=IU  ⟨rfl,U,G⟩ J O rf.body false fi.body hc _ _ _ I (tM (fA ν (start svs B).m) Z H) ν Z args H tM.yc r (tM.refl r);obtain⟨ys,p1,p2⟩:=As (nm:=nm) e2 z h1;obtain⟨_,L,Q,T,X,Y⟩:=e3;refine⟨n+1,result ys,H',ν',Z',st',F',ys,?_,rfl,rfl,p2,e2,⟨L,λi h1 h2 h3 _=>Q i h1 h2 h3,T,λi h=>(X i h).imp (λh=>h) .inr,λi h=>(Y i h).imp (λh=>h) (.imp (λh=>h) .inr),e4.pin,e4.pins⟩⟩
   have u:args.length<=fi.ntmps:=by rw[<-W.1,<-C];omega
   simp[run,jx,D,if_pos u,e1 n (Nat.le_refl _)]
   grind
  grind
 grind
theorem FR.emp {x y:V} (G:∀id,¬Z id) (r:FR H Z x y):x=y:=by
 have B:∀{a w:List V},a.length=w.length->(∀(j:Nat) u v,a[j]? = some u->w[j]? = some v->u=v)->a=w:=λ{a w} h1 z=>by
  apply List.ext_getElem h1;intro i p q;exact z i _ _ (ζd p) (ζd q)
 induction r with
 | same x h=>rfl
 | fsl es C id off D h=>grind
 | fptr C id el off es D I h=>grind
 | clo f a b w J h1 z _ _ i1 i2=>rw[B h1 i1,B z i2]
 | agg a w h1 _ i1=>grind
 | tup a w h1 _ i1=>grind
theorem b_.emp (B:∀id,¬Z id):∀{xs ys:List V},b_ ν m H Z (xs.map .v) ys->xs=ys
 | [],ys,h=>h.cW.symm
 | x::xs,ys,h=>by
  obtain⟨y,ys,rfl,h1,D⟩:=h.inv;rw[FR.emp B h1.fr,b_.emp B D]
theorem AV (B:qH S T) (O:∀f a b xs,S.items f a b=some xs->fH S f a b xs):∀n,jo S (k_ S T n)
 | 0=>λf svs W rs m1 h=>by simp[k_]at h
 | n+1=>λf svs W rs m1 h ν Z args H U r D=>by
  simp[k_]at h;split at h
  next rf G=>obtain⟨fi,nm,h1,Y,h3⟩:=B.fn f rf G;exact HT B.prm (AV B O n) O h1 Y h3 h r D
  unfold Ny at h;split at h
  .simp_all
  split at h
  .rename_i az Q;obtain⟨y,X,e⟩:=ζf.1 h;obtain⟨rfl,rfl⟩:=e;obtain⟨k,z,H',Z1,w,C,I,iN⟩:=B.yB f az y X;rcases U with U|rfl
   .grind
   have L:∀id,¬Z id:=λid J=>by have:=r.zrow id J;simp[bp]at this
   have u  := by
    rw[tX Q]at D;exact(b_.emp L D).symm
   subst u;refine⟨k,z,H',λ_=>(0,0),Z1,⟨[],[],[],[],true,0⟩,[],[z],w,rfl,rfl,b_.cons (.v y z C) .nil,?_,?_⟩
   .exact⟨λs sv h=>by simp[bh]at h,λd ob h=>by simp[bh]at h,λd d' ob aa h=>by simp[bh]at h,λd ob h=>by simp[bh]at h,I,iN⟩
   exact⟨Nat.zero_le _,λid h=>by simp_all,λid h=>absurd h (L id),λid h=>by grind,λid h=>.inr (.inr (.inr (Nat.zero_le _))),λd h=>by simp[start]at h,rfl⟩
  grind
abbrev JF:=List ((FuncId×List SV×dZ)×(List SV×dZ))
def BV (c:ck) (L:JF):Prop:=∀p∈L,c p.1.1 p.1.2.1 p.1.2.2=some p.2
def Fin {α:Type} (c:ck) (f:ck->Option α) (r:α):Prop:=∃L:JF,BV c L/\∀c',BV c' L->f c'=some r
theorem Fin.pure {α:Type} {f:ck->Option α} {r:α} (h:∀c',f c'=some r):Fin c f r:=⟨[],λp u=>by simp_all,λc' _=>h c'⟩
theorem Fin.bind {α β:Type} {f:ck->Option α} {r:α} {g:ck->Option β} {q:β} (h1:Fin c f r) (B:ck->α->Option β) (D:Fin c (λc=>B c r) q) (hg:∀c',f c'=some r->g c'=B c' r):Fin c g q:=by
 obtain⟨L1,a1,w⟩:=h1;obtain⟨L2,z,C⟩:=D;refine⟨L1++L2,λp u=>(List.mem_append.1 u).elim (a1 p) (z p),λc' hc=>?_⟩
 rw[hg c' (w c' λp u=>hc p (List.mem_append_left _ u))]
 exact C c' λp u=>hc p (List.mem_append_right _ u)
theorem Fin.call {f:FuncId} {svs:List SV} {B:dZ} {r:List SV×dZ} (h:c f svs B=some r):Fin c (λc=>c f svs B) r:=
 ⟨[((f,svs,B),r)],λp u=>by grind,λc' hc=>hc ((f,svs,B),r) Zc⟩
theorem EO {dst:Option Nat} {dr now:Bool} {old:List SV->Bool} {f:FuncId} {args:List SV} {r:SV×St} (h:fP S c dst dr now old f args st=some r):Fin c (λc=>fP S c dst dr now old f args st) r:=by
 have h0:=h;unfold fP at h;split at h
 .split at h
  .split at h
   .split at h
    .split at h
     .rename_i rs m' hc;refine(Fin.call hc).bind (λc' q=>fP S c dst dr now old f args st) (.pure λ_=>h0) (λc' u=>?_)
      unfold fP
      grind
     grind
    grind
   rename_i w;split at h
   .rename_i q z;refine .pure λc'=>?_
    unfold fP;simp_all
   rename_i z;split at h
   .rename_i os D;split at h
    .rename_i rs m' hc;refine(Fin.call hc).bind (λc' q=>fP S c dst dr now old f args st) (.pure λ_=>h0) (λc' u=>?_)
     unfold fP
     clear h h0
     simp[*]
    grind
   grind
  split at h
  .split at h
   .split at h
    .rename_i rs m' hc;refine(Fin.call hc).bind (λc' q=>fP S c dst dr now old f args st) (.pure λ_=>h0) (λc' u=>?_)
     unfold fP;simp_all
    grind
   grind
  grind
 rename_i hk;split at h
 .rename_i az B;split at h
  .rename_i C;split at h
   .rename_i rs m' hc;refine(Fin.call hc).bind (λc' q=>fP S c dst dr now old f args st) (.pure λ_=>h0) (λc' u=>?_)
    unfold fP;simp[hk,B,C,hc,u]
   grind
  grind
 grind
theorem Rq {dr:Bool} {fr:List Nat} {o:RO} {r:SV×St} (h:mb S c dr fr o st=some r):Fin c (λc=>mb S c dr fr o st) r:=by
 have h0:=h;unfold mb at h;split at h
 .rename_i z u;split at h
  .refine .pure λc'=>?_
   have h1:=h0;unfold mb at h1 ⊢;rename_i hk;simp only[u,hk]at h1 ⊢;exact h1
  .refine .pure λc'=>?_
   have h1:=h0;unfold mb at h1 ⊢;rename_i B hk;simp only[u,hk]at h1 ⊢;exact h1
  .refine .pure λc'=>?_
   have h1:=h0;unfold mb at h1 ⊢;rename_i hk;simp only[u,hk]at h1 ⊢;exact h1
  .refine .pure λc'=>?_
   have h1:=h0;unfold mb at h1 ⊢;rename_i hk;simp only[u,hk]at h1 ⊢;exact h1
  .refine .pure λc'=>?_
   have h1:=h0;unfold mb at h1 ⊢;rename_i hk;simp only[u,hk]at h1 ⊢;exact h1
  .rename_i hk;split at h
   .refine(EO h).bind (λ_ q=>some q) (.pure λ_=>rfl) (λc' w=>?_)
    unfold mb;simp only[u,hk,w]
   .refine(EO h).bind (λ_ q=>some q) (.pure λ_=>rfl) (λc' w=>?_)
    unfold mb;simp only[u,hk,w]
   simp at h
  .refine .pure λc'=>?_
   have h1:=h0;unfold mb at h1 ⊢;rename_i hk;simp only[u,hk]at h1 ⊢;exact h1
  refine .pure λc'=>?_
  have h1:=h0;unfold mb at h1 ⊢;rename_i hk;simp only[u,hk]at h1 ⊢;exact h1
 simp at h
theorem RG {dr:Bool} {fr:List Nat} {o:RO} {r:St} (h:fK S c dr fr o st=some r):Fin c (λc=>fK S c dr fr o st) r:=by
 unfold fK at h;split at h
 .split at h
  .refine .pure λc'=>?_
   unfold fK
   grind
  obtain⟨q,u,e⟩:=ζf.1 h;refine(Rq u).bind (λ_ q=>some (dg q.2 o.dst q.1)) (.pure λ_=>by simp_all) (λc' w=>?_)
  unfold fK
  grind
 .refine .pure λc'=>?_
  unfold fK
  grind
 grind
theorem Be {dr:Bool}:∀{l:List RO} {fr:List Nat} {st r:St},mM S c dr fr l st=some r->Fin c (λc=>mM S c dr fr l st) r
 | [],fr,st,r,h=>.pure λ_=>h
 | o::l,fr,st,r,h=>by
  simp[mM]at h;split at h
  next D B=>obtain⟨G,hg,B⟩:=ζg.1 B;exact(RG B).bind (λc' q=>mM S c' dr (if dr then qj fr o.strip else fr) l (oL o.dead q)) (Be h) (λc' u=>by simp[mM,hg,u])
  grind
theorem EG {f:ck->St->Option (Out×St)} (D:∀st r,f c st=some r->Fin c (λc=>f c st) r):∀{k:Nat} {st:St} {r:Out×St},jc (f c) k st=some r->Fin c (λc=>jc (f c) k st) r
 | 0,st,r,h=>by simp[jc]at h
 | k+1,st,r,h=>by
  simp[jc]at h;split at h
  next G J=>exact(D st _ J).bind (λc' q=>jc (f c') k G) (EG D h) (λc' B=>by simp[jc,B])
  refine(D st r h).bind (λ_ q=>some q) (.pure λ_=>rfl) (λc' B=>?_)
  simp[jc,B]
  grind
theorem DR {f:ck->List V->Tb bG->Option (Out×Tb bG)} (D:∀x m r,f c x m=some r->Fin c (λc=>f c x m) r):∀{xs:List (List V)} {m:Tb bG} {r:Out×Tb bG},pX (f c) xs m=some r->Fin c (λc=>pX (f c) xs m) r
 | [],m,r,h=>.pure λ_=>h
 | x::xs,m,r,h=>by
  simp[pX]at h;split at h
  next m1 G=>exact(D x m _ G).bind (λc' q=>pX (f c') xs m1) (DR D h) (λc' B=>by simp[pX,B])
  refine(D x m r h).bind (λ_ q=>some q) (.pure λ_=>rfl) (λc' B=>?_)
  simp[pX,B]
  grind
theorem LR:∀{rc:RC} {st:St} {r:Out×St},cH S c rc st=some r->Fin c (λc=>cH S c rc st) r:=by
 intro rc
 induction rc with
 | skip=>exact λh=>.pure λ_=>h
 | exit id=>exact λh=>.pure λ_=>h
 | ret=>exact λh=>.pure λ_=>h
 | ops l=>
  intro st r h;simp only[cH]at h ⊢;obtain⟨q,G,e⟩:=ζf.1 h;exact(Be G).bind (λ_ q=>some (.norm,q)) (.pure λ_=>by simp_all) (λc' w=>by grind)
 | oQ l=>
  intro st r h;simp only[cH]at h ⊢;obtain⟨q,G,e⟩:=ζf.1 h;exact(Be G).bind (λ_ q=>some (.norm,q)) (.pure λ_=>by simp_all) (λc' w=>by grind)
 | seq a b u C=>
  intro st r h;simp[cH]at h ⊢;split at h
  next B D=>exact(u D).bind (λc' q=>cH S c' b B) (C h) (λc' w=>by grind)
  rename_i D;refine(u h).bind (λ_ q=>some q) (.pure λ_=>rfl) (λc' w=>?_)
  grind
 | cond x a b u C=>
  intro st r h;simp[cH]at h ⊢
  grind
 | block id a u=>
  intro st r h;simp[cH]at h ⊢;split at h
  next I B D=>exact(u D).bind (λc' q=>if I=id then some (.norm,B)else some (.exit I,B)) (.pure λ_=>h) (λc' w=>by grind)
  refine(u h).bind (λ_ q=>some q) (.pure λ_=>rfl) (λc' w=>?_)
  grind
 | loop a u=>
  intro st r h;obtain⟨k,hk⟩:=mH.1 h;refine(EG  (λst r h=>u h) hk).bind (λ_ q=>some q) (.pure λ_=>rfl) (λc' w=>?_)
  exact mH.2 ⟨k,w⟩
 | each g ps a b u C=>
  intro st r h;simp only[cH]at h ⊢;split at h
  .split at h
   .obtain⟨q,G,e⟩:=ζf.1 h;refine(DR (f:=λc=>iK ps (cH S c a) (cH S c b) st) (λz m r h=>?_) G).bind (λ_ q=>some (q.1,{ st with m:=q.2 })) (.pure λ_=>by simp_all) (λc' w=>by grind)
    unfold iK at h;split at h
    .split at h
     .rename_i B h1;obtain⟨L,J,e2⟩:=ζf.1 h;refine(u h1).bind (λc' q=>(cH S c' b B).map λ(o,st2)=>(o,st2.m)) ((C J).bind (λ_ q=>some (q.1,q.2.m)) (.pure λ_=>by simp_all) (λc' w=>by grind)) (λc' w=>?_)
      unfold iK
      grind
     grind
    grind
   grind
  grind
 | gh x a u=>
  intro st r h;simp[cH]at h ⊢;obtain⟨B,h1,O⟩:=ζg.1 h
  grind
 | hg a x u=>
  intro st r h;simp[cH]at h ⊢;split at h
  next B D=>exact(u D).bind (λc' q=>(ghost x B).map λst=>(.norm,st)) (.pure λ_=>h) (λc' w=>by grind)
  refine(u h).bind (λ_ q=>some q) (.pure λ_=>rfl) (λc' w=>?_)
  grind
theorem y_ {rf:RF} {svs:List SV} {B:dZ} {r:List SV×dZ} (h:mB S c rf svs B=some r):Fin c (λc=>mB S c rf svs B) r:=by
 have h0:=h;unfold mB at h;split at h
 .split at h
  .simp_all
  .rename_i o st u w;refine(LR w).bind (λc' q=>mB S c rf svs B) (.pure λ_=>h0) (λc' z=>?_)
   unfold mB
   grind
  grind
 grind
theorem B1:∀{n:Nat} {f:FuncId} {svs:List SV} {B:dZ} {r:List SV×dZ},k_ S T n f svs B=some r->k_ S T (n+1) f svs B=some r
 | 0,f,svs,B,r,h=>by simp[k_]at h
 | n+1,f,svs,B,r,h=>by
  simp[k_]at h;rw[k_];split at h
  next rf D=>obtain⟨L,h1,G⟩:=y_ h;simp[D];exact G _ λp u=>B1 (h1 p u)
  grind
theorem BM {n k:Nat} (h:n<=k) {f:FuncId} {svs:List SV} {B:dZ} {r:List SV×dZ} (D:k_ S T n f svs B=some r):k_ S T k f svs B=some r:=by
 induction h with
 | refl=>omega
 | step _ u=>exact B1 u
open Classical in
noncomputable def c_ (S:Sys) (T:pI):ck:=λf u w=>if h:∃n r,k_ S T n f u w=some r then some (Classical.choose (Classical.choose_spec h))else none
theorem rG {f:FuncId} {svs:List SV} {B:dZ} {r:List SV×dZ}:c_ S T f svs B=some r↔∃n,k_ S T n f svs B=some r:=by
 unfold c_;constructor
 .intro h;split at h
  .grind
  grind
 rintro⟨k,hk⟩;have u:∃n r,k_ S T n f svs B=some r:=⟨k,r,hk⟩;have w:=Classical.choose_spec (Classical.choose_spec u);have z:=BM (Nat.le_max_left (Classical.choose u) k) w;have C:=BM (Nat.le_max_right (Classical.choose u) k) hk
 grind
theorem KY {L:JF} (h:BV (c_ S T) L):∃n,∀k,n<=k->BV (k_ S T k) L:=by
 induction L with
 | nil=>exact⟨0,λk _ p hp=>by simp_all⟩
 | cons q L u=>
  obtain⟨w,h1⟩:=rG.1 (h q Zc)
  obtain⟨z,B⟩:=u λp hp=>h p (List.mem_cons_of_mem _ hp)
  refine⟨max w z,λk hk p hp=>?_⟩
  rcases List.mem_cons.1 hp with rfl|hp
  .exact BM (Nat.le_trans (Nat.le_max_left _ _) hk) h1
  exact B k (Nat.le_trans (Nat.le_max_right _ _) hk) p hp
theorem DW {f:FuncId} {az:List V} {y:V} (B:T f=none) (hk:S.E.keep f=false) (h:S.yB f az=some y):c_ S T f (az.map .v) []=some ([.v y],[]):=by
 refine rG.2 ⟨1,?_⟩;have u:dw (az.map .v)=some az:=by
  clear h
  induction az with
  | nil=>rfl
  | cons a l w=>simp only[List.map_cons,dw,w];rfl
 simp only[k_,B,Ny,hk,u,h];rfl
theorem qQ {f:FuncId} {rf:RF} (D:T f=some rf) (svs:List SV) (B:dZ):c_ S T f svs B=mB S (c_ S T) rf svs B:=by
 cases h:mB S (c_ S T) rf svs B with
 | some r=>
  obtain⟨L,h1,w⟩:=y_ h;obtain⟨n,u⟩:=KY h1;refine rG.2 ⟨n+1,?_⟩;simp[k_,D]
  grind
 | none=>
  cases w:c_ S T f svs B with
  | none=>rfl
  | some r=>
   obtain⟨n,u⟩:=rG.1 w
   cases n with
   | zero=>simp[k_]at u
   | succ n=>
    simp[k_,D]at u;obtain⟨L,z,C⟩:=y_ u;have I:=C (c_ S T) λp G=>rG.2 ⟨n,z p G⟩
    grind
theorem vZ (B:qH S T) (D:∀f a b xs,S.items f a b=some xs->fH S f a b xs):jo S (c_ S T):=λf u w rs z h=>by
 obtain⟨n,C⟩:=rG.1 h;exact AV B D n f u w rs z C
theorem R5 (U:∀f q,S.prm f=some q->oa S.E f q) (W:jo S c) {f:FuncId} {fi:FI} {nm:FuncId->Option Nat} {rf:RF} (Y:∀f a b xs,S.items f a b=some xs->fH S f a b xs) (D:S.E.ft f=some fi) (hN:∀g s,nm g=some s->S.N s=g) (hr:xR S.E nm fi rf) {a b:List V} {xs:List (List V)}
 (O:a.length+1+b.length<=rf.na) (G:rf.rs=[])
 (h:∀B more,(more=true/\B=xs\/more=false/\B≠[]/\∃r,xs=B++r)->∀yid,∃o st',cH S c rf.body { g:=wI 0 (a.map .v++.yl yid::b.map .v),m:=[],pin:=[],want:=B,more:=more,yid:=yid }=some (o,st')/\(∀id,o≠.exit id)/\st'.want=[]/\st'.m=st'.m) :
 fH S f a b xs:=by
 intro B more T yid J y Z C I H X hb hz hd j;obtain⟨o,st',h1,h2,h3,_⟩:=h B more T yid;obtain⟨hc,w,L⟩:=hr;have Q:b_ (λ_=>(0,0)) [] H Z (a.map .v++.yl yid::b.map .v) (C++.yld yid::I):=(b_.qC X).append (.cons (.yl yid) (b_.qC hb))
 have r0:R (λ_=>(0,0)) Z { g:=wI 0 (a.map .v++.yl yid::b.map .v),m:=[],pin:=[],want:=B,more:=more,yid:=yid } (C++.yld yid::I) H:=
  ⟨wm Q,λd ob h=>by simp[bh]at h,λd d' ob aa h=>by simp[bh]at h,λd ob h=>by simp[bh]at h,hz,hd⟩
 obtain⟨n,F',H',ν',Z',e1,e2,e3,e4⟩:=IU  ⟨rfl,hN,U⟩ W Y rf.body false fi.body hc _ _ _ h1 J _ Z _ H y r0 (by
  refine y.wL _ _ _ _ _ _ _ j (Nat.le_refl _) (λ_ _ _ _=>rfl) (λi z=>⟨z,rfl⟩) (λi z=>?_) (λi z=>.inl z)
  obtain⟨d,ob,h,_⟩:=z;simp[bh]at h)
 rw[h3]at e3;rw[G]at w;obtain⟨ys,p1,p2⟩:=As (nm:=nm)   e2 w rfl;refine⟨n+1,result ys,H',_,Z',λk hk=>?_,e3⟩
 have u:(C++V.yld yid::I).length<=fi.ntmps:=by rw[<-Q.1,<-L];simp;omega
 cases k with
 | zero=>omega
 | succ k=>
  simp[run,jx,D,if_pos u,e1 k Za]
  grind
theorem Sd (B:qH S T) (D:∀f a b xs,S.items f a b=some xs->fH S f a b xs) {f:FuncId} {az:List V} (hg:V.cA az=true) {y:V} {m':dZ} (h:c_ S T f (az.map .v) []=some ([.v y],m')) (G:y.scalar=true) :
 ∃n H',run S.E n (.fn f) az []=some (y,H'):=by
 obtain⟨u,r1⟩:=vw hg;obtain⟨n,I,H2,ν',Z',st',F',w,h1,rfl,J,C,L,_⟩:=vZ B D f _ _ _ _ h _ _ az [] (.inr rfl) u r1;obtain⟨z,w,rfl,e1,e2⟩:=C.inv;rw[e2.cW]at h1;have:=(e1.fr.scalar).1 G;subst this;exact⟨n,H2,h1⟩
end
end Go.VE
