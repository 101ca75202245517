/-
 The second layer: named objects in the place of rows; texts, calls, iterators.
-/
import Derived.Test.YtlmckmkfopljoaaGreatDoorN1
set_option linter.all false
namespace Go.VE
variable [bN]
def jB (st:St):List RV->Option (List SV)
 | []=>some []
 | .s n::r=>match a_ st.g n,jB st r with
  | some x,some l=>some (x::l)
  | _,_=>none
 | .ld n size agg::r=>match (a_ st.g n).bind λp=>nZ st.m (.load size agg) [p],jB st r with
  | some x,some l=>some (x::l)
  | _,_=>none
noncomputable def mD (S:Sys) (c:bS) (rf:RF) (svs:List SV) (B:c7):Option (List SV×c7):=
 if svs.length<=rf.na then
  match cu S c rf.body (start svs B)with
  | some (.exit _,_)=>none
  | some (_,st)=>(jB st rf.rs).map λrs=>(rs,st.m)
  | none=>none
 else none
def Ae (E:Env):ResultVar->Option RV
 | .tmp t=>some (.s t)
 | .cell a t=>(E.tt t).map λd=>.ld a d.size d.agg
def vO (E:Env) (nm:FuncId->Option Nat) (fi:FI) (rf:RF):Prop:=
 bJ ⟨E,nm,fi.ntmps⟩ false fi.body=some (erase rf.body)/\fi.results.mapM (Ae E)=some rf.rs/\rf.na=fi.ntmps
section
variable {ν ν' ν2:Nu} {Z Z':Nat->Prop} {st st' st2:St} {m m':Tb bu} {F F':Frame} {H H' H1:bf} {S:Sys} {c:bS} {X:CX} {J:JT}
theorem Iq (gd:Good X S) (hS:iy S c) (hI:∀f a b xs,S.items f a b=some xs->dZ S f a b xs):∀(rc:RC) (ro:Bool) (code:Code),bJ X ro code=some (erase rc)->rD X S ro code (cu S c rc):=by
 intro rc
 induction rc with
 | skip=>
  intro ro code hc st o st' h J ν Z F H y r j;obtain⟨rfl,rfl⟩:=h;simp[erase]at hc;have:∀k,exec S.E (run S.E k) k ro X.nt code F H=some (.norm,F,H):=λk=>by
   cases code with
   | skip=>rfl
   | label _=>rfl
   | region id ops w=>
    simp[bJ]at hc;split at hc
    .simp_all
    simp_all
   | seq a b=>simp[bJ]at hc;grind
   | cond x a b=>simp[bJ]at hc;grind
   | block id b=>simp only[bJ]at hc;simp_all
   | loop b=>simp only[bJ]at hc;simp_all
   | rangeFunc g Y U W=>
    simp[bJ]at hc
    grind
   | _=>simp[bJ]at hc
  exact⟨0,F,H,ν,Z,λk _=>this k,r,j,.refl⟩
 | ops l=>
  intro ro code hc;simp[erase]at hc
  cases code with
  | region id ops w=>
   simp[bJ]at hc;split at hc
   .simp_all
   .rename_i hd;obtain⟨l',hl,e⟩:=ζf.1 hc;cases e;intro st o st' h J ν Z F H y r j;obtain⟨z,h1,e⟩:=ζf.1 h;obtain⟨rfl,rfl⟩:=e;obtain⟨n,F',H',ν',Z',e1,e2,e3,e4⟩:=KR gd hS _ hl h1 y r j;refine⟨n,F',H',ν',Z',λk hk=>?_,e2,e3,e4⟩
    simp[exec,iU,hd,e1 k hk]
  | seq a b=>simp[bJ]at hc;grind
  | cond x a b=>simp[bJ]at hc;grind
  | block id b=>simp only[bJ]at hc;simp_all
  | loop b=>obtain⟨_,_,e⟩:=ζf.1 hc;cases e
  | rangeFunc g Y U W=>
   simp only[bJ]at hc;split at hc
   .simp at hc
   .split at hc <;> simp at hc
  | _=>simp[bJ]at hc
 | ru l=>
  intro ro code hc;simp[erase]at hc
  cases code with
  | region id ops w=>
   simp only[bJ]at hc;split at hc
   .rename_i hd;subst hd;split at hc
    .rename_i ab;obtain⟨l',hl,e⟩:=ζf.1 hc;cases e;have:=LP (ro:=ro) (id:=id) gd hS hl ab;intro st o st' h;exact this st o st' h
    .simp at hc
   .obtain⟨_,_,e⟩:=ζf.1 hc;cases e
  | seq a b=>simp[bJ]at hc;split at hc <;> simp at hc
  | cond x a b=>simp[bJ]at hc;split at hc <;> simp at hc
  | block id b=>obtain⟨_,_,e⟩:=ζf.1 hc;cases e
  | loop b=>obtain⟨_,_,e⟩:=ζf.1 hc;cases e
  | rangeFunc g Y U W=>
   simp only[bJ]at hc;split at hc
   .simp at hc
   .split at hc <;> simp at hc
  | _=>simp[bJ]at hc
 | seq a b u Q=>
  intro ro code hc;simp[erase]at hc
  cases code with
  | seq ca cb=>
   simp[bJ]at hc;split at hc
   .rename_i xa xb T hb;simp[RC.seq.injEq]at hc;obtain⟨rfl,rfl⟩:=hc;intro st o st' h J ν Z F H y r j;simp[cu]at h;split at h
    .rename_i z hs;obtain⟨G,F1,H1,A,B,I,L,O,C⟩:=u ro ca T st .norm z hs J ν Z F H y r j;obtain⟨n2,F2,H2,ν2,Z2,b1,b2,b3,b4⟩:=Q ro cb hb z o st' h J A B F1 H1 (by rw[C.more,C.yid];exact y) L O
     refine⟨max G n2,F2,H2,ν2,Z2,λq D=>?_,b2,b3,C.trans b4⟩
     simp[exec,I q (Nat.le_trans (Nat.le_max_left _ _) D)];exact b1 q (Nat.le_trans (Nat.le_max_right _ _) D)
    .rename_i hs;obtain⟨G,F1,H1,A,B,I,L,O,C⟩:=u ro ca T st o st' h J ν Z F H y r j;refine⟨G,F1,H1,A,B,λq D=>?_,L,O,C⟩
     simp[exec,I q D];cases o <;> first|exact absurd h (hs st')|rfl
   .simp at hc
  | region id ops w=>
   simp[bJ]at hc;split at hc
   .split at hc
    .obtain⟨_,_,e⟩:=ζf.1 hc;cases e
    .simp at hc
   .obtain⟨_,_,e⟩:=ζf.1 hc;cases e
  | cond x a b=>simp[bJ]at hc;split at hc <;> simp at hc
  | block id b=>simp only[bJ]at hc;obtain⟨_,_,e⟩:=ζf.1 hc;cases e
  | loop b=>simp only[bJ]at hc;obtain⟨_,_,e⟩:=ζf.1 hc;cases e
  | rangeFunc g Y U W=>
   simp only[bJ]at hc;split at hc
   .simp at hc
   .split at hc <;> simp at hc
  | _=>simp[bJ]at hc
 | cond x a b u Q=>
  intro ro code hc;simp[erase]at hc
  cases code with
  | cond g ca cb=>
   simp[bJ]at hc;split at hc
   .rename_i xg xa xb hg T hb;simp[RC.cond.injEq]at hc;obtain⟨rfl,rfl,rfl⟩:=hc;intro st o st' h J ν Z F H y r j;simp[cu]at h;split at h
    .rename_i t ht;obtain⟨yv,hy,ry⟩:=CJ gd.N r.slot hg ht;rw[ry.fr.bool]at hy;split at h
     .rename_i hb;obtain⟨G,F1,H1,A,B,I,L,O,C⟩:=u ro ca T st o st' h J ν Z F H y r j;refine⟨G,F1,H1,A,B,λq D=>?_,L,O,C⟩
      simp[exec,hy,hb];exact I q D
     .rename_i hb;obtain⟨G,F1,H1,A,B,I,L,O,C⟩:=Q ro cb (by assumption) st o st' h J ν Z F H y r j
      refine⟨G,F1,H1,A,B,λq D=>?_,L,O,C⟩
      simp[exec,hy,hb];exact I q D
    .simp at h
   .simp at hc
  | region id ops w=>
   simp[bJ]at hc;split at hc
   .split at hc
    .obtain⟨_,_,e⟩:=ζf.1 hc;cases e
    .simp at hc
   .obtain⟨_,_,e⟩:=ζf.1 hc;cases e
  | seq a b=>simp[bJ]at hc;split at hc <;> simp at hc
  | block id b=>simp only[bJ]at hc;obtain⟨_,_,e⟩:=ζf.1 hc;cases e
  | loop b=>simp only[bJ]at hc;obtain⟨_,_,e⟩:=ζf.1 hc;cases e
  | rangeFunc g Y U W=>
   simp only[bJ]at hc;split at hc
   .simp at hc
   .split at hc <;> simp at hc
  | _=>simp[bJ]at hc
 | block id a u=>
  intro ro code hc;simp[erase]at hc
  cases code with
  | block ad ca=>
   simp only[bJ]at hc;obtain⟨xa,T,e⟩:=ζf.1 hc;simp[RC.block.injEq]at e;obtain⟨rfl,rfl⟩:=e;intro st o st' h J ν Z F H y r j;simp[cu]at h;split at h
   .rename_i ae z hs;obtain⟨G,F1,H1,A,B,I,L,O,C⟩:=u ro ca T st (.exit ae) z hs J ν Z F H y r j;split at h
    .rename_i e;simp  at h;obtain⟨rfl,rfl⟩:=h;refine⟨G,F1,H1,A,B,λq D=>?_,L,O,C⟩
     simp[exec,I q D,if_pos e]
    .rename_i e;simp  at h;obtain⟨rfl,rfl⟩:=h;refine⟨G,F1,H1,A,B,λq D=>?_,L,O,C⟩
     simp[exec,I q D,if_neg e]
   .rename_i hs;obtain⟨G,F1,H1,A,B,I,L,O,C⟩:=u ro ca T st o st' h J ν Z F H y r j;refine⟨G,F1,H1,A,B,λq D=>?_,L,O,C⟩
    simp[exec,I q D];cases o <;> first|exact absurd h (hs _ st')|rfl
  | region id ops w=>
   simp[bJ]at hc;split at hc
   .split at hc
    .obtain⟨_,_,e⟩:=ζf.1 hc;cases e
    .simp at hc
   .obtain⟨_,_,e⟩:=ζf.1 hc;cases e
  | seq a b=>simp[bJ]at hc;split at hc <;> simp at hc
  | cond x a b=>simp[bJ]at hc;split at hc <;> simp at hc
  | loop b=>simp only[bJ]at hc;obtain⟨_,_,e⟩:=ζf.1 hc;cases e
  | rangeFunc g Y U W=>
   simp only[bJ]at hc;split at hc
   .simp at hc
   .split at hc <;> simp at hc
  | _=>simp[bJ]at hc
 | loop a u=>
  intro ro code hc;simp[erase]at hc
  cases code with
  | loop ca=>
   simp only[bJ]at hc;obtain⟨xa,T,e⟩:=ζf.1 hc;simp[RC.loop.injEq]at e;subst e;have:=RH (u ro ca T);intro st o st' h;simp[cu]at h;exact this st o st' h
  | region id ops w=>
   simp[bJ]at hc;split at hc
   .split at hc
    .obtain⟨_,_,e⟩:=ζf.1 hc;cases e
    .simp at hc
   .obtain⟨_,_,e⟩:=ζf.1 hc;cases e
  | seq a b=>simp[bJ]at hc;split at hc <;> simp at hc
  | cond x a b=>simp[bJ]at hc;split at hc <;> simp at hc
  | block id b=>simp only[bJ]at hc;obtain⟨_,_,e⟩:=ζf.1 hc;cases e
  | rangeFunc g Y U W=>
   simp only[bJ]at hc;split at hc
   .simp at hc
   .split at hc <;> simp at hc
  | _=>simp[bJ]at hc
 | each x Y a b u Q=>
  intro ro code hc;simp[erase]at hc
  cases code with
  | rangeFunc g ah U W=>
   simp only[bJ]at hc;split at hc
   .simp at hc
   .rename_i aa;simp only[Bool.or_eq_true,not_or,Bool.not_eq_true,Bool.not_eq_false']at aa;obtain⟨rfl,af⟩:=aa;split at hc
    .rename_i xg xa xb hg T hb;simp[RC.each.injEq]at hc;obtain⟨rfl,rfl,rfl,rfl⟩:=hc;have:=Rk gd hI af hg (u true U T) (Q true W hb);intro st o st' h;simp only[cu]at h;exact this st o st' h
    .simp at hc
  | region id ops w=>
   simp only[bJ]at hc;split at hc
   .split at hc
    .obtain⟨_,_,e⟩:=ζf.1 hc;cases e
    .simp at hc
   .obtain⟨_,_,e⟩:=ζf.1 hc;cases e
  | seq a b=>simp only[bJ]at hc;split at hc <;> simp at hc
  | cond x a b=>simp only[bJ]at hc;split at hc <;> simp at hc
  | block id b=>simp only[bJ]at hc;obtain⟨_,_,e⟩:=ζf.1 hc;cases e
  | loop b=>simp only[bJ]at hc;obtain⟨_,_,e⟩:=ζf.1 hc;cases e
  | _=>simp[bJ]at hc
 | exit id=>
  intro ro code hc st o st' h J ν Z F H y r j;simp only[cu,ζa,ζc]at h;obtain⟨rfl,rfl⟩:=h;simp only[erase]at hc;have:∀k,exec S.E (run S.E k) k ro X.nt code F H=some (.exit id,F,H):=λk=>by
   cases code with
   | exit ad=>simp only[bJ,ζa,RC.exit.injEq]at hc;subst hc;rfl
   | region id ops w=>
    simp only[bJ]at hc;split at hc
    .split at hc
     .obtain⟨_,_,e⟩:=ζf.1 hc;cases e
     .simp at hc
    .obtain⟨_,_,e⟩:=ζf.1 hc;cases e
   | seq a b=>simp only[bJ]at hc;split at hc <;> simp at hc
   | cond x a b=>simp only[bJ]at hc;split at hc <;> simp at hc
   | block id b=>simp only[bJ]at hc;obtain⟨_,_,e⟩:=ζf.1 hc;cases e
   | loop b=>simp only[bJ]at hc;obtain⟨_,_,e⟩:=ζf.1 hc;cases e
   | rangeFunc g Y U W=>
    simp only[bJ]at hc;split at hc
    .simp at hc
    .split at hc <;> simp at hc
   | _=>simp[bJ]at hc
  exact⟨0,F,H,ν,Z,λk _=>this k,r,j,.refl⟩
 | ret=>
  intro ro code hc st o st' h J ν Z F H y r j;simp only[cu,ζa,ζc]at h;obtain⟨rfl,rfl⟩:=h;simp only[erase]at hc;have:∀k,exec S.E (run S.E k) k ro X.nt code F H=some (.ret,F,H):=λk=>by
   cases code with
   | ret=>rfl
   | region id ops w=>
    simp only[bJ]at hc;split at hc
    .split at hc
     .obtain⟨_,_,e⟩:=ζf.1 hc;cases e
     .simp at hc
    .obtain⟨_,_,e⟩:=ζf.1 hc;cases e
   | seq a b=>simp only[bJ]at hc;split at hc <;> simp at hc
   | cond x a b=>simp only[bJ]at hc;split at hc <;> simp at hc
   | block id b=>simp only[bJ]at hc;obtain⟨_,_,e⟩:=ζf.1 hc;cases e
   | loop b=>simp only[bJ]at hc;obtain⟨_,_,e⟩:=ζf.1 hc;cases e
   | rangeFunc g Y U W=>
    simp only[bJ]at hc;split at hc
    .simp at hc
    .split at hc <;> simp at hc
   | _=>simp[bJ]at hc
  exact⟨0,F,H,ν,Z,λk _=>this k,r,j,.refl⟩
 | gh x a u=>
  intro ro code hc;simp only[erase]at hc;intro st o st' h J ν Z F H y r j;simp only[cu]at h;obtain⟨z,h1,h2⟩:=ζg.1 h;obtain⟨A,B,g1,g2,g3⟩:=Fix.ghost r y j h1;obtain⟨n,F',H',ν',Z',e1,e2,e3,e4⟩:=u ro code hc z o st' h2 J A B F H (by rw[g3.more,g3.yid];exact y) g1 g2
  exact⟨n,F',H',ν',Z',e1,e2,e3,g3.trans e4⟩
 | hg a x u=>
  intro ro code hc;simp only[erase]at hc;intro st o st' h J ν Z F H y r j;simp only[cu]at h;split at h
  .rename_i z hs;obtain⟨st2,h1,e⟩:=ζf.1 h;simp only[ζc]at e;obtain⟨rfl,rfl⟩:=e;obtain⟨n,F',H',ν',Z',e1,e2,e3,e4⟩:=u ro code hc st .norm z hs J ν Z F H y r j;obtain⟨A,B,g1,g2,g3⟩:=Fix.ghost e2 (by rw[e4.more,e4.yid];exact y) e3 h1
   exact⟨n,F',H',A,B,e1,g1,g2,e4.trans g3⟩
  .exact u ro code hc st o st' h J ν Z F H y r j
end
end Go.VE
namespace Go.VE
variable [bN]
abbrev pF:=FuncId->Option RF
def Bc (E:Env) (f:FuncId) (az:List V) (y:V):Prop:=∃n z H' Z,run E n (.fn f) az []=some (z,H')/\FR H' Z y z/\(∀id,Z id->(bl H' id).isSome=true)/\Deep H' Z
structure qb (S:Sys) (T:pF):Prop where
 fn:∀f rf,T f=some rf->∃fi nm,S.E.ft f=some fi/\(∀g s,nm g=some s->S.N s=g)/\vO S.E nm fi rf
 wL:∀f az y,S.wL f az=some y->Bc S.E f az y
 prm:∀f q,S.prm f=some q->mb S.E f q
def OE (S:Sys) (f:FuncId) (svs:List SV) (B:c7):Option (List SV×c7):=
 if S.E.keep f then none else match cZ svs,B with
  | some az,[]=>(S.wL f az).map λy=>([.v y],[])
  | _,_=>none
noncomputable def kG (S:Sys) (T:pF):Nat->bS
 | 0=>λ_ _ _=>none
 | n+1=>λf svs B=>match T f with
  | some rf=>mD S (kG S T n) rf svs B
  | none=>OE S f svs B
section
variable {ν ν' ν2:Nu} {Z Z':Nat->Prop} {st st' st2:St} {m m':Tb bu} {F F':Frame} {H H' H1:bf} {S:Sys} {c c':bS} {X:CX} {J:JT} {T:pF}
theorem zX (r:R ν Z st F H) {nm:FuncId->Option Nat}:∀{B:List ResultVar} {rs:List RV} {l:List SV},B.mapM (Ae S.E)=some rs->jB st rs=some l->∃ys,gN S.E F H B=some ys/\bT ν st.m H Z l ys
 | [],rs,l,hc,h=>by
  simp  at hc;subst hc;simp[jB]at h;subst h;exact⟨[],rfl,.nil⟩
 | rv::B,rs,l,hc,h=>by
  simp[ζg]at hc;obtain⟨x,D,ys,G,rfl⟩:=hc
  cases rv with
  | tmp t=>
   simp[Ae]at D;subst D;simp[jB]at h;split at h
   .rename_i v C h1 u;simp  at h;subst h;obtain⟨w,e1,e2⟩:=zX r (nm:=nm) G u;exact⟨get F t::w,by simp[gN,e1],.cons (r.slot t v h1) e2⟩
   grind
  | cell a t=>
   simp[Ae]at D;obtain⟨d,hd,rfl⟩:=D;simp[jB]at h;split at h
   .rename_i v C h1 u;simp  at h;subst h;obtain⟨p,I,h1⟩:=ζg.1 h1;obtain⟨w,e1,e2⟩:=zX r (nm:=nm) G u;obtain⟨y,g1,g2⟩:=uZ (λs a e=>by cases e) (λkk z ok e=>by cases e) (bT.cons (r.slot a p I) .nil) (λJ _ ob A=>r.obj J ob A) h1
    simp[ga]at g1;exact⟨y::w,by simp[gN,hd,e1,g1],.cons g2 e2⟩
   grind
theorem HG (hP:∀f q,S.prm f=some q->mb S.E f q) (hS:iy S c) (G:∀f a b xs,S.items f a b=some xs->dZ S f a b xs) {f:FuncId} {fi:FI} {nm:FuncId->Option Nat} {rf:RF} (D:S.E.ft f=some fi) (J:∀g s,nm g=some s->S.N s=g) (hr:vO S.E nm fi rf)
 {svs:List SV} {B:c7} {rs:List SV} {m1:c7} (h:mD S c rf svs B=some (rs,m1)) {args:List V} (r:R ν Z (start svs B) args H) (T:bT ν B H Z svs args) :
 ∃n y H' ν' Z' st' F' ys,run S.E n (.fn f) args H=some (y,H')/\y=result ys/\st'.m=m1/\bT ν' m1 H' Z' rs ys/\R ν' Z' st' F' H'/\Ev (λ_=>False) ν Z (start svs B) H ν' Z' st' H':=by
 obtain⟨hc,z,A⟩:=hr;unfold mD at h;split at h
 .have key:∀o st',cu S c rf.body (start svs B)=some (o,st')->(∀id,o≠.exit id)->(jB st' rf.rs).map (λrs=>(rs,st'.m))=some (rs,m1) ->
   ∃n y H' ν' Z' st' F' ys,run S.E n (.fn f) args H=some (y,H')/\y=result ys/\st'.m=m1/\bT ν' m1 H' Z' rs ys/\R ν' Z' st' F' H'/\Ev (λ_=>False) ν Z (start svs B) H ν' Z' st' H':=λo st' C Y w=>by
   obtain⟨l,h1,e⟩:=ζf.1 w;obtain⟨rfl,rfl⟩:=e;obtain⟨n,F',H',ν',Z',e1,e2,e3,e4⟩:=Iq  ⟨rfl,J,hP⟩ hS G rf.body false fi.body hc _ _ _ C (tw (eT ν (start svs B).m) Z H) ν Z args H tw.yc r (tw.refl r);obtain⟨ys,p1,p2⟩:=zX (nm:=nm) e2 z h1;obtain⟨_,I,L,O,Q,U⟩:=e3;refine⟨n+1,result ys,H',ν',Z',st',F',ys,?_,rfl,rfl,p2,e2,⟨I,λi h1 W X _=>L i h1 W X,O,λi h=>(Q i h).imp (λh=>h) .inr,λi h=>(U i h).imp (λh=>h) (.imp (λh=>h) .inr),e4.pin,e4.pins⟩⟩
   have u:args.length<=fi.ntmps:=by rw[<-T.1,<-A];omega
   simp[run,i_,D,if_pos u,e1 n (Nat.le_refl _)]
   grind
  grind
 grind
theorem FR.emp {x y:V} (D:∀id,¬Z id) (r:FR H Z x y):x=y:=by
 have A:∀{a w:List V},a.length=w.length->(∀(j:Nat) u v,a[j]? = some u->w[j]? = some v->u=v)->a=w:=λ{a w} h1 z=>by
  apply List.ext_getElem h1;intro i p q;exact z i _ _ (ζd p) (ζd q)
 induction r with
 | same x h=>rfl
 | fsl es B id off C h=>grind
 | fptr B id el off es C cs h=>grind
 | clo f a b w G h1 z _ _ i1 i2=>rw[A h1 i1,A z i2]
 | agg a w h1 _ i1=>grind
 | tup a w h1 _ i1=>grind
theorem bT.emp (B:∀id,¬Z id):∀{xs ys:List V},bT ν m H Z (xs.map .v) ys->xs=ys
 | [],ys,h=>h.cO.symm
 | x::xs,ys,h=>by
  obtain⟨y,ys,rfl,h1,D⟩:=h.inv;rw[FR.emp B h1.fr,bT.emp B D]
theorem Az (B:qb S T) (J:∀f a b xs,S.items f a b=some xs->dZ S f a b xs):∀n,iy S (kG S T n)
 | 0=>λf svs W rs m1 h=>by simp[kG]at h
 | n+1=>λf svs W rs m1 h ν Z args H U r D=>by
  simp[kG]at h;split at h
  .rename_i rf G;obtain⟨fi,nm,h1,Y,h3⟩:=B.fn f rf G;exact HG B.prm (Az B J n) J h1 Y h3 h r D
  .unfold OE at h;split at h
   .simp_all
   .split at h
    .rename_i az O;obtain⟨y,Q,e⟩:=ζf.1 h;obtain⟨rfl,rfl⟩:=e;obtain⟨k,z,H',X,w,A,C,iA⟩:=B.wL f az y Q;rcases U with U|rfl
     .grind
     have L:∀id,¬Z id:=λid I=>by have:=r.zrow id I;simp[bl]at this
     have u  := by
      rw[tJ O]at D;exact(bT.emp L D).symm
     subst u;refine⟨k,z,H',λ_=>(0,0),X,⟨[],[],[],[],true,0⟩,[],[z],w,rfl,rfl,bT.cons (.v y z A) .nil,?_,?_⟩
     .exact⟨λs sv h=>by simp[a_]at h,λd ob h=>by simp[a_]at h,λd d' ob aa h=>by simp[a_]at h,λd ob h=>by simp[a_]at h,C,iA⟩
     .exact⟨Nat.zero_le _,λid h=>by simp_all,λid h=>absurd h (L id),λid h=>by grind,λid h=>.inr (.inr (.inr (Nat.zero_le _))),λd h=>by simp[start]at h,rfl⟩
    grind
abbrev Kn:=List ((FuncId×List SV×c7)×(List SV×c7))
def B4 (c:bS) (L:Kn):Prop:=∀p∈L,c p.1.1 p.1.2.1 p.1.2.2=some p.2
def Fin {α:Type} (c:bS) (f:bS->Option α) (r:α):Prop:=∃L:Kn,B4 c L/\∀c',B4 c' L->f c'=some r
theorem Fin.pure {α:Type} {f:bS->Option α} {r:α} (h:∀c',f c'=some r):Fin c f r:=⟨[],λp u=>by simp_all,λc' _=>h c'⟩
theorem Fin.bind {α β:Type} {f:bS->Option α} {r:α} {g:bS->Option β} {q:β} (h1:Fin c f r) (B:bS->α->Option β) (D:Fin c (λc=>B c r) q) (hg:∀c',f c'=some r->g c'=B c' r):Fin c g q:=by
 obtain⟨w,z,A⟩:=h1;obtain⟨C,G,I⟩:=D;refine⟨w++C,λp u=>(List.mem_append.1 u).elim (z p) (G p),λc' hc=>?_⟩
 rw[hg c' (A c' λp u=>hc p (List.mem_append_left _ u))]
 exact I c' λp u=>hc p (List.mem_append_right _ u)
theorem Fin.call {f:FuncId} {svs:List SV} {B:c7} {r:List SV×c7} (h:c f svs B=some r):Fin c (λc=>c f svs B) r:=
 ⟨[((f,svs,B),r)],λp u=>by grind,λc' hc=>hc ((f,svs,B),r) (by simp)⟩
theorem DC {dst:Option Nat} {dr now:Bool} {old:List SV->Bool} {f:FuncId} {args:List SV} {r:SV×St} (h:eB S c dst dr now old f args st=some r):Fin c (λc=>eB S c dst dr now old f args st) r:=by
 have w:=h;unfold eB at h;split at h
 .split at h
  .split at h
   .split at h
    .split at h
     .rename_i rs m' hc;refine(Fin.call hc).bind (λc' q=>eB S c dst dr now old f args st) (.pure λ_=>w) (λc' u=>?_)
      unfold eB
      grind
     grind
    grind
   .rename_i z;split at h
    .rename_i q A;refine .pure λc'=>?_
     unfold eB;simp_all
    .rename_i A;split at h
     .rename_i os D;split at h
      .rename_i rs m' hc;refine(Fin.call hc).bind (λc' q=>eB S c dst dr now old f args st) (.pure λ_=>w) (λc' u=>?_)
       unfold eB
       clear h w
       simp[*]
      grind
     grind
  grind
 .rename_i hk;split at h
  .rename_i az B;split at h
   .rename_i C;split at h
    .rename_i rs m' hc;refine(Fin.call hc).bind (λc' q=>eB S c dst dr now old f args st) (.pure λ_=>w) (λc' u=>?_)
     unfold eB;simp[hk,B,C,hc,u]
    grind
   grind
  grind
theorem Rm {dr:Bool} {fr:List Nat} {o:RO} {r:SV×St} (h:lH S c dr fr o st=some r):Fin c (λc=>lH S c dr fr o st) r:=by
 have w:=h;unfold lH at h;split at h
 .rename_i A u;split at h
  .refine .pure λc'=>?_
   have h1:=w;unfold lH at h1 ⊢;rename_i hk;simp only[u,hk]at h1 ⊢;exact h1
  .refine .pure λc'=>?_
   have h1:=w;unfold lH at h1 ⊢;rename_i B hk;simp only[u,hk]at h1 ⊢;exact h1
  .refine .pure λc'=>?_
   have h1:=w;unfold lH at h1 ⊢;rename_i hk;simp only[u,hk]at h1 ⊢;exact h1
  .refine .pure λc'=>?_
   have h1:=w;unfold lH at h1 ⊢;rename_i hk;simp only[u,hk]at h1 ⊢;exact h1
  .refine .pure λc'=>?_
   have h1:=w;unfold lH at h1 ⊢;rename_i hk;simp only[u,hk]at h1 ⊢;exact h1
  .rename_i hk;split at h
   .refine(DC h).bind (λ_ q=>some q) (.pure λ_=>rfl) (λc' z=>?_)
    unfold lH;simp only[u,hk,z]
   .refine(DC h).bind (λ_ q=>some q) (.pure λ_=>rfl) (λc' z=>?_)
    unfold lH;simp only[u,hk,z]
   .simp at h
  .refine .pure λc'=>?_
   have h1:=w;unfold lH at h1 ⊢;rename_i hk;simp only[u,hk]at h1 ⊢;exact h1
  .refine .pure λc'=>?_
   have h1:=w;unfold lH at h1 ⊢;rename_i hk;simp only[u,hk]at h1 ⊢;exact h1
 .simp at h
theorem Qs {dr:Bool} {fr:List Nat} {o:RO} {r:St} (h:eZ S c dr fr o st=some r):Fin c (λc=>eZ S c dr fr o st) r:=by
 unfold eZ at h;split at h
 .split at h
  .refine .pure λc'=>?_
   unfold eZ
   grind
  .obtain⟨q,u,e⟩:=ζf.1 h;refine(Rm u).bind (λ_ q=>some (cT q.2 o.dst q.1)) (.pure λ_=>by simp_all) (λc' w=>?_)
   unfold eZ
   grind
 .refine .pure λc'=>?_
  unfold eZ
  grind
 grind
theorem A3 {dr:Bool}:∀{l:List RO} {fr:List Nat} {st r:St},me S c dr fr l st=some r->Fin c (λc=>me S c dr fr l st) r
 | [],fr,st,r,h=>.pure λ_=>h
 | o::l,fr,st,r,h=>by
  simp[me]at h;split at h
  .rename_i D B;obtain⟨G,hg,B⟩:=ζg.1 B;exact(Qs B).bind (λc' q=>me S c' dr (if dr then pO fr o.strip else fr) l (og o.dead q)) (A3 h) (λc' u=>by simp[me,hg,u])
  grind
theorem Ea {f:bS->St->Option (Out×St)} (D:∀st r,f c st=some r->Fin c (λc=>f c st) r):∀{k:Nat} {st:St} {r:Out×St},iH (f c) k st=some r->Fin c (λc=>iH (f c) k st) r
 | 0,st,r,h=>by simp[iH]at h
 | k+1,st,r,h=>by
  simp[iH]at h;split at h
  .rename_i G J;exact(D st _ J).bind (λc' q=>iH (f c') k G) (Ea D h) (λc' B=>by simp[iH,B])
  .refine(D st r h).bind (λ_ q=>some q) (.pure λ_=>rfl) (λc' B=>?_)
   simp[iH,B]
   grind
theorem DI {f:bS->List V->Tb bu->Option (Out×Tb bu)} (D:∀x m r,f c x m=some r->Fin c (λc=>f c x m) r):∀{xs:List (List V)} {m:Tb bu} {r:Out×Tb bu},oV (f c) xs m=some r->Fin c (λc=>oV (f c) xs m) r
 | [],m,r,h=>.pure λ_=>h
 | x::xs,m,r,h=>by
  simp[oV]at h;split at h
  .rename_i m1 G;exact(D x m _ G).bind (λc' q=>oV (f c') xs m1) (DI D h) (λc' B=>by simp[oV,B])
  .refine(D x m r h).bind (λ_ q=>some q) (.pure λ_=>rfl) (λc' B=>?_)
   simp[oV,B]
   grind
theorem MQ:∀{rc:RC} {st:St} {r:Out×St},cu S c rc st=some r->Fin c (λc=>cu S c rc st) r:=by
 intro rc
 induction rc with
 | skip=>exact λh=>.pure λ_=>h
 | exit id=>exact λh=>.pure λ_=>h
 | ret=>exact λh=>.pure λ_=>h
 | ops l=>
  intro st r h;simp only[cu]at h ⊢;obtain⟨q,D,e⟩:=ζf.1 h;exact(A3 D).bind (λ_ q=>some (.norm,q)) (.pure λ_=>by simp_all) (λc' w=>by grind)
 | ru l=>
  intro st r h;simp only[cu]at h ⊢;obtain⟨q,D,e⟩:=ζf.1 h;exact(A3 D).bind (λ_ q=>some (.norm,q)) (.pure λ_=>by simp_all) (λc' w=>by grind)
 | seq a b u B=>
  intro st r h;simp[cu]at h ⊢;split at h
  .rename_i A C;exact(u C).bind (λc' q=>cu S c' b A) (B h) (λc' w=>by grind)
  .rename_i C;refine(u h).bind (λ_ q=>some q) (.pure λ_=>rfl) (λc' w=>?_)
   grind
 | cond x a b u B=>
  intro st r h;simp[cu]at h ⊢
  grind
 | block id a u=>
  intro st r h;simp[cu]at h ⊢;split at h
  .rename_i G A C;exact(u C).bind (λc' q=>if G=id then some (.norm,A)else some (.exit G,A)) (.pure λ_=>h) (λc' w=>by grind)
  .refine(u h).bind (λ_ q=>some q) (.pure λ_=>rfl) (λc' w=>?_)
   grind
 | loop a u=>
  intro st r h;obtain⟨k,hk⟩:=lR.1 h;refine(Ea  (λst r h=>u h) hk).bind (λ_ q=>some q) (.pure λ_=>rfl) (λc' w=>?_)
  exact lR.2 ⟨k,w⟩
 | each g J a b u B=>
  intro st r h;simp only[cu]at h ⊢;split at h
  .split at h
   .obtain⟨q,D,e⟩:=ζf.1 h;refine(DI (f:=λc=>hG J (cu S c a) (cu S c b) st) (λz m r h=>?_) D).bind (λ_ q=>some (q.1,{ st with m:=q.2 })) (.pure λ_=>by simp_all) (λc' w=>by grind)
    unfold hG at h;split at h
    .split at h
     .rename_i A h1;obtain⟨L,I,e2⟩:=ζf.1 h;refine(u h1).bind (λc' q=>(cu S c' b A).map λ(o,st2)=>(o,st2.m)) ((B I).bind (λ_ q=>some (q.1,q.2.m)) (.pure λ_=>by simp_all) (λc' w=>by grind)) (λc' w=>?_)
      unfold hG
      grind
     grind
    grind
   grind
  grind
 | gh x a u=>
  intro st r h;simp[cu]at h ⊢;obtain⟨A,h1,O⟩:=ζg.1 h
  grind
 | hg a x u=>
  intro st r h;simp[cu]at h ⊢;split at h
  .rename_i A C;exact(u C).bind (λc' q=>(ghost x A).map λst=>(.norm,st)) (.pure λ_=>h) (λc' w=>by grind)
  .refine(u h).bind (λ_ q=>some q) (.pure λ_=>rfl) (λc' w=>?_)
   grind
theorem yO {rf:RF} {svs:List SV} {B:c7} {r:List SV×c7} (h:mD S c rf svs B=some r):Fin c (λc=>mD S c rf svs B) r:=by
 have u:=h;unfold mD at h;split at h
 .split at h
  .simp_all
  .rename_i o st w z;refine(MQ z).bind (λc' q=>mD S c rf svs B) (.pure λ_=>u) (λc' A=>?_)
   unfold mD
   grind
  grind
 grind
theorem Cb:∀{n:Nat} {f:FuncId} {svs:List SV} {B:c7} {r:List SV×c7},kG S T n f svs B=some r->kG S T (n+1) f svs B=some r
 | 0,f,svs,B,r,h=>by simp[kG]at h
 | n+1,f,svs,B,r,h=>by
  simp[kG]at h;rw[kG];split at h
  .rename_i rf D;obtain⟨L,h1,G⟩:=yO h;simp[D];exact G _ λp u=>Cb (h1 p u)
  grind
theorem AZ {n k:Nat} (h:n<=k) {f:FuncId} {svs:List SV} {B:c7} {r:List SV×c7} (D:kG S T n f svs B=some r):kG S T k f svs B=some r:=by
 induction h with
 | refl=>omega
 | step _ u=>exact Cb u
open Classical in
noncomputable def cU (S:Sys) (T:pF):bS:=λf u w=>if h:∃n r,kG S T n f u w=some r then some (Classical.choose (Classical.choose_spec h))else none
theorem qO {f:FuncId} {svs:List SV} {B:c7} {r:List SV×c7}:cU S T f svs B=some r↔∃n,kG S T n f svs B=some r:=by
 unfold cU;constructor
 .intro h;split at h
  .grind
  grind
 .rintro⟨k,hk⟩;have u:∃n r,kG S T n f svs B=some r:=⟨k,r,hk⟩;have w:=Classical.choose_spec (Classical.choose_spec u);have z:=AZ (Nat.le_max_left (Classical.choose u) k) w;have A:=AZ (Nat.le_max_right (Classical.choose u) k) hk
  grind
theorem J8 {L:Kn} (h:B4 (cU S T) L):∃n,∀k,n<=k->B4 (kG S T k) L:=by
 induction L with
 | nil=>exact⟨0,λk _ p hp=>by simp_all⟩
 | cons q L u=>
  obtain⟨w,h1⟩:=qO.1 (h q (by simp))
  obtain⟨z,A⟩:=u λp hp=>h p (List.mem_cons_of_mem _ hp)
  refine⟨max w z,λk hk p hp=>?_⟩
  rcases List.mem_cons.1 hp with rfl|hp
  .exact AZ (Nat.le_trans (Nat.le_max_left _ _) hk) h1
  .exact A k (Nat.le_trans (Nat.le_max_right _ _) hk) p hp
theorem Ed {f:FuncId} {az:List V} {y:V} (B:T f=none) (hk:S.E.keep f=false) (h:S.wL f az=some y):cU S T f (az.map .v) []=some ([.v y],[]):=by
 refine qO.2 ⟨1,?_⟩;have u:cZ (az.map .v)=some az:=by
  clear h
  induction az with
  | nil=>rfl
  | cons a l w=>simp only[List.map_cons,cZ,w];rfl
 simp only[kG,B,OE,hk,u,h];rfl
theorem sn {f:FuncId} {rf:RF} (D:T f=some rf) (svs:List SV) (B:c7):cU S T f svs B=mD S (cU S T) rf svs B:=by
 cases h:mD S (cU S T) rf svs B with
 | some r=>
  obtain⟨L,h1,w⟩:=yO h;obtain⟨n,u⟩:=J8 h1;refine qO.2 ⟨n+1,?_⟩;simp[kG,D]
  grind
 | none=>
  cases w:cU S T f svs B with
  | none=>rfl
  | some r=>
   obtain⟨n,u⟩:=qO.1 w
   cases n with
   | zero=>simp[kG]at u
   | succ n=>
    simp[kG,D]at u;obtain⟨L,z,A⟩:=yO u;have G:=A (cU S T) λp C=>qO.2 ⟨n,z p C⟩
    grind
theorem vV (B:qb S T) (D:∀f a b xs,S.items f a b=some xs->dZ S f a b xs):iy S (cU S T):=λf u w rs z h=>by
 obtain⟨n,A⟩:=qO.1 h;exact Az B D n f u w rs z A
theorem IF (hP:∀f q,S.prm f=some q->mb S.E f q) (hS:iy S c) {f:FuncId} {fi:FI} {nm:FuncId->Option Nat} {rf:RF} (U:∀f a b xs,S.items f a b=some xs->dZ S f a b xs) (D:S.E.ft f=some fi) (W:∀g s,nm g=some s->S.N s=g) (hr:vO S.E nm fi rf) {a b:List V} {xs:List (List V)}
 (T:a.length+1+b.length<=rf.na) (G:rf.rs=[])
 (h:∀B more,(more=true/\B=xs\/more=false/\B≠[]/\∃r,xs=B++r)->∀yid,∃o st',cu S c rf.body { g:=tS 0 (a.map .v++.yl yid::b.map .v),m:=[],pin:=[],want:=B,more:=more,yid:=yid }=some (o,st')/\(∀id,o≠.exit id)/\st'.want=[]/\st'.m=st'.m) :
 dZ S f a b xs:=by
 intro B more L yid J y Z z A H O Q X hd j;obtain⟨o,st',h1,h2,Y,_⟩:=h B more L yid;obtain⟨hc,w,C⟩:=hr;have I:bT (λ_=>(0,0)) [] H Z (a.map .v++.yl yid::b.map .v) (z++.yld yid::A):=(bT.p8 O).append (.cons (.yl yid) (bT.p8 Q))
 have r0:R (λ_=>(0,0)) Z { g:=tS 0 (a.map .v++.yl yid::b.map .v),m:=[],pin:=[],want:=B,more:=more,yid:=yid } (z++.yld yid::A) H:=
  ⟨vU I,λd ob h=>by simp[a_]at h,λd d' ob aa h=>by simp[a_]at h,λd ob h=>by simp[a_]at h,X,hd⟩
 obtain⟨n,F',H',ν',Z',e1,e2,e3,e4⟩:=Iq  ⟨rfl,W,hP⟩ hS U rf.body false fi.body hc _ _ _ h1 J _ Z _ H y r0 (by
  refine y.uQ _ _ _ _ _ _ _ j (Nat.le_refl _) (λ_ _ _ _=>rfl) (λi hi=>⟨hi,rfl⟩) (λi hi=>?_) (λi hi=>.inl hi)
  obtain⟨d,ob,h,_⟩:=hi;simp[a_]at h)
 rw[Y]at e3;rw[G]at w;obtain⟨ys,p1,p2⟩:=zX (nm:=nm)   e2 w rfl;refine⟨n+1,result ys,H',_,Z',λk hk=>?_,e3⟩
 have u:(z++V.yld yid::A).length<=fi.ntmps:=by rw[<-I.1,<-C];simp;omega
 cases k with
 | zero=>omega
 | succ k=>
  simp[run,i_,D,if_pos u,e1 k (by omega)]
  grind
theorem QO (B:qb S T) (D:∀f a b xs,S.items f a b=some xs->dZ S f a b xs) {f:FuncId} {az:List V} (hg:V.cD az=true) {y:V} {m':c7} (h:cU S T f (az.map .v) []=some ([.v y],m')) (G:y.scalar=true) :
 ∃n H',run S.E n (.fn f) az []=some (y,H'):=by
 obtain⟨u,r1⟩:=zK hg;obtain⟨n,C,H2,ν',Z',st',F',w,h1,rfl,I,A,J,_⟩:=vV B D f _ _ _ _ h _ _ az [] (.inr rfl) u r1;obtain⟨z,w,rfl,e1,e2⟩:=A.inv;rw[e2.cO]at h1;have:=(e1.fr.scalar).1 G;subst this;exact⟨n,H2,h1⟩
end
end Go.VE
