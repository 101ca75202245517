/-
 The second layer: named objects in the place of rows; texts, calls, iterators.
-/
import Derived.Test.YtmkkeeoahodfhaaGreatDoorN1
set_option linter.all false
namespace Go.VE
variable [bN]
def kV (st:St):List RV->Option (List SV)
 | []=>some []
 | .s n::r=>match bg st.g n,kV st r with
  | some x,some l=>some (x::l)
  | _,_=>none
 | .ld n size agg::r=>match (bg st.g n).bind λp=>lB st.m (.load size agg) [p],kV st r with
  | some x,some l=>some (x::l)
  | _,_=>none
noncomputable def mY (S:Sys) (c:cg) (rf:RF) (svs:List SV) (B:eW):Option (List SV×eW):=
 if svs.length<=rf.na then
  match cu S c rf.body (start svs B)with
  | some (.exit _,_)=>none
  | some (_,st)=>(kV st rf.rs).map λrs=>(rs,st.m)
  | none=>none
 else none
def zk (E:Env):ResultVar->Option RV
 | .tmp t=>some (.s t)
 | .cell a t=>(E.tt t).map λd=>.ld a d.size d.agg
def wz (E:Env) (nm:FuncId->Option Nat) (fi:FI) (rf:RF):Prop:=
 bH ⟨E,nm,fi.ntmps⟩ false fi.body=some (erase rf.body)/\fi.results.mapM (zk E)=some rf.rs/\rf.na=fi.ntmps
section
variable {ν ν' ν2:Nu} {Z Z':Nat->Prop} {st st' st2:St} {m m':Tb bD} {F F':Frame} {H H' H1:bf} {S:Sys} {c:cg} {X:CX} {J:JT}
theorem He (gd:Good X S) (hS:jG S c) (hI:∀f a b xs,S.items f a b=some xs->eU S f a b xs):∀(rc:RC) (ro:Bool) (code:Code),bH X ro code=some (erase rc)->q_ X S ro code (cu S c rc):=by
 intro rc
 induction rc with
 | skip=>
  intro ro code hc st o st' h J ν Z F H y r j;obtain⟨rfl,rfl⟩:=h;simp[erase]at hc;have:∀k,exec S.E (run S.E k) k ro X.nt code F H=some (.norm,F,H):=λk=>by
   cases code with
   | skip=>rfl
   | label _=>rfl
   | region id ops w=>
    simp[bH]at hc;split at hc
    .simp_all
    simp_all
   | seq a b=>simp[bH]at hc;grind
   | cond x a b=>simp[bH]at hc;grind
   | block id b=>simp only[bH]at hc;simp_all
   | loop b=>simp only[bH]at hc;simp_all
   | rangeFunc g ps T U=>
    simp[bH]at hc
    grind
   | _=>simp[bH]at hc
  exact⟨0,F,H,ν,Z,λk _=>this k,r,j,.refl⟩
 | ops l=>
  intro ro code hc;simp[erase]at hc
  cases code with
  | region id ops w=>
   simp[bH]at hc;split at hc
   .simp_all
   .rename_i hd;obtain⟨l',hl,e⟩:=ζf.1 hc;cases e;intro st o st' h J ν Z F H y r j;obtain⟨z,h1,e⟩:=ζf.1 h;obtain⟨rfl,rfl⟩:=e;obtain⟨n,F',H',ν',Z',e1,e2,e3,e4⟩:=KM gd hS _ hl h1 y r j;refine⟨n,F',H',ν',Z',λk hk=>?_,e2,e3,e4⟩
    simp[exec,iL,hd,e1 k hk]
  | seq a b=>simp[bH]at hc;grind
  | cond x a b=>simp[bH]at hc;grind
  | block id b=>simp only[bH]at hc;simp_all
  | loop b=>obtain⟨_,_,e⟩:=ζf.1 hc;cases e
  | rangeFunc g ps T U=>
   simp only[bH]at hc;split at hc
   .simp at hc
   .split at hc <;> simp at hc
  | _=>simp[bH]at hc
 | nR l=>
  intro ro code hc;simp[erase]at hc
  cases code with
  | region id ops w=>
   simp only[bH]at hc;split at hc
   .rename_i hd;subst hd;split at hc
    .rename_i ab;obtain⟨l',hl,e⟩:=ζf.1 hc;cases e;have:=KV (ro:=ro) (id:=id) gd hS hl ab;intro st o st' h;exact this st o st' h
    .simp at hc
   .obtain⟨_,_,e⟩:=ζf.1 hc;cases e
  | seq a b=>simp[bH]at hc;split at hc <;> simp at hc
  | cond x a b=>simp[bH]at hc;split at hc <;> simp at hc
  | block id b=>obtain⟨_,_,e⟩:=ζf.1 hc;cases e
  | loop b=>obtain⟨_,_,e⟩:=ζf.1 hc;cases e
  | rangeFunc g ps T U=>
   simp only[bH]at hc;split at hc
   .simp at hc
   .split at hc <;> simp at hc
  | _=>simp[bH]at hc
 | seq a b u O=>
  intro ro code hc;simp[erase]at hc
  cases code with
  | seq W cb=>
   simp[bH]at hc;split at hc
   .rename_i xa xb Q hb;simp[RC.seq.injEq]at hc;obtain⟨rfl,rfl⟩:=hc;intro st o st' h J ν Z F H y r j;simp[cu]at h;split at h
    .rename_i z Y;obtain⟨G,F1,H1,A,B,a1,I,L,C⟩:=u ro W Q st .norm z Y J ν Z F H y r j;obtain⟨n2,F2,H2,ν2,Z2,b1,b2,b3,b4⟩:=O ro cb hb z o st' h J A B F1 H1 (by rw[C.more,C.yid];exact y) I L
     refine⟨max G n2,F2,H2,ν2,Z2,λq D=>?_,b2,b3,C.trans b4⟩
     simp[exec,a1 q (Nat.le_trans (Nat.le_max_left _ _) D)];exact b1 q (Nat.le_trans (Nat.le_max_right _ _) D)
    .rename_i Y;obtain⟨G,F1,H1,A,B,a1,I,L,C⟩:=u ro W Q st o st' h J ν Z F H y r j;refine⟨G,F1,H1,A,B,λq D=>?_,I,L,C⟩
     simp[exec,a1 q D];cases o <;> first|exact absurd h (Y st')|rfl
   .simp at hc
  | region id ops w=>
   simp[bH]at hc;split at hc
   .split at hc
    .obtain⟨_,_,e⟩:=ζf.1 hc;cases e
    .simp at hc
   .obtain⟨_,_,e⟩:=ζf.1 hc;cases e
  | cond x a b=>simp[bH]at hc;split at hc <;> simp at hc
  | block id b=>simp only[bH]at hc;obtain⟨_,_,e⟩:=ζf.1 hc;cases e
  | loop b=>simp only[bH]at hc;obtain⟨_,_,e⟩:=ζf.1 hc;cases e
  | rangeFunc g ps T U=>
   simp only[bH]at hc;split at hc
   .simp at hc
   .split at hc <;> simp at hc
  | _=>simp[bH]at hc
 | cond x a b u O=>
  intro ro code hc;simp[erase]at hc
  cases code with
  | cond g W cb=>
   simp[bH]at hc;split at hc
   .rename_i xg xa xb hg Q hb;simp[RC.cond.injEq]at hc;obtain⟨rfl,rfl,rfl⟩:=hc;intro st o st' h J ν Z F H y r j;simp[cu]at h;split at h
    .rename_i t ht;obtain⟨yv,hy,ry⟩:=Cd gd.N r.slot hg ht;rw[ry.fr.bool]at hy;split at h
     .rename_i hb;obtain⟨G,F1,H1,A,B,a1,I,L,C⟩:=u ro W Q st o st' h J ν Z F H y r j;refine⟨G,F1,H1,A,B,λq D=>?_,I,L,C⟩
      simp[exec,hy,hb];exact a1 q D
     .rename_i hb;obtain⟨G,F1,H1,A,B,a1,I,L,C⟩:=O ro cb (by assumption) st o st' h J ν Z F H y r j
      refine⟨G,F1,H1,A,B,λq D=>?_,I,L,C⟩
      simp[exec,hy,hb];exact a1 q D
    .simp at h
   .simp at hc
  | region id ops w=>
   simp[bH]at hc;split at hc
   .split at hc
    .obtain⟨_,_,e⟩:=ζf.1 hc;cases e
    .simp at hc
   .obtain⟨_,_,e⟩:=ζf.1 hc;cases e
  | seq a b=>simp[bH]at hc;split at hc <;> simp at hc
  | block id b=>simp only[bH]at hc;obtain⟨_,_,e⟩:=ζf.1 hc;cases e
  | loop b=>simp only[bH]at hc;obtain⟨_,_,e⟩:=ζf.1 hc;cases e
  | rangeFunc g ps T U=>
   simp only[bH]at hc;split at hc
   .simp at hc
   .split at hc <;> simp at hc
  | _=>simp[bH]at hc
 | block id a u=>
  intro ro code hc;simp[erase]at hc
  cases code with
  | block ad W=>
   simp only[bH]at hc;obtain⟨xa,Q,e⟩:=ζf.1 hc;simp[RC.block.injEq]at e;obtain⟨rfl,rfl⟩:=e;intro st o st' h J ν Z F H y r j;simp[cu]at h;split at h
   .rename_i ae z Y;obtain⟨G,F1,H1,A,B,a1,I,L,C⟩:=u ro W Q st (.exit ae) z Y J ν Z F H y r j;split at h
    .rename_i e;simp  at h;obtain⟨rfl,rfl⟩:=h;refine⟨G,F1,H1,A,B,λq D=>?_,I,L,C⟩
     simp[exec,a1 q D,if_pos e]
    .rename_i e;simp  at h;obtain⟨rfl,rfl⟩:=h;refine⟨G,F1,H1,A,B,λq D=>?_,I,L,C⟩
     simp[exec,a1 q D,if_neg e]
   .rename_i Y;obtain⟨G,F1,H1,A,B,a1,I,L,C⟩:=u ro W Q st o st' h J ν Z F H y r j;refine⟨G,F1,H1,A,B,λq D=>?_,I,L,C⟩
    simp[exec,a1 q D];cases o <;> first|exact absurd h (Y _ st')|rfl
  | region id ops w=>
   simp[bH]at hc;split at hc
   .split at hc
    .obtain⟨_,_,e⟩:=ζf.1 hc;cases e
    .simp at hc
   .obtain⟨_,_,e⟩:=ζf.1 hc;cases e
  | seq a b=>simp[bH]at hc;split at hc <;> simp at hc
  | cond x a b=>simp[bH]at hc;split at hc <;> simp at hc
  | loop b=>simp only[bH]at hc;obtain⟨_,_,e⟩:=ζf.1 hc;cases e
  | rangeFunc g ps T U=>
   simp only[bH]at hc;split at hc
   .simp at hc
   .split at hc <;> simp at hc
  | _=>simp[bH]at hc
 | loop a u=>
  intro ro code hc;simp[erase]at hc
  cases code with
  | loop W=>
   simp only[bH]at hc;obtain⟨xa,Q,e⟩:=ζf.1 hc;simp[RC.loop.injEq]at e;subst e;have:=Qn (u ro W Q);intro st o st' h;simp[cu]at h;exact this st o st' h
  | region id ops w=>
   simp[bH]at hc;split at hc
   .split at hc
    .obtain⟨_,_,e⟩:=ζf.1 hc;cases e
    .simp at hc
   .obtain⟨_,_,e⟩:=ζf.1 hc;cases e
  | seq a b=>simp[bH]at hc;split at hc <;> simp at hc
  | cond x a b=>simp[bH]at hc;split at hc <;> simp at hc
  | block id b=>simp only[bH]at hc;obtain⟨_,_,e⟩:=ζf.1 hc;cases e
  | rangeFunc g ps T U=>
   simp only[bH]at hc;split at hc
   .simp at hc
   .split at hc <;> simp at hc
  | _=>simp[bH]at hc
 | each x ps a b u O=>
  intro ro code hc;simp[erase]at hc
  cases code with
  | rangeFunc g ah T U=>
   simp only[bH]at hc;split at hc
   .simp at hc
   .rename_i aa;simp only[Bool.or_eq_true,not_or,Bool.not_eq_true,Bool.not_eq_false']at aa;obtain⟨rfl,af⟩:=aa;split at hc
    .rename_i xg xa xb hg Q hb;simp[RC.each.injEq]at hc;obtain⟨rfl,rfl,rfl,rfl⟩:=hc;have:=Qj gd hI af hg (u true T Q) (O true U hb);intro st o st' h;simp only[cu]at h;exact this st o st' h
    .simp at hc
  | region id ops w=>
   simp only[bH]at hc;split at hc
   .split at hc
    .obtain⟨_,_,e⟩:=ζf.1 hc;cases e
    .simp at hc
   .obtain⟨_,_,e⟩:=ζf.1 hc;cases e
  | seq a b=>simp only[bH]at hc;split at hc <;> simp at hc
  | cond x a b=>simp only[bH]at hc;split at hc <;> simp at hc
  | block id b=>simp only[bH]at hc;obtain⟨_,_,e⟩:=ζf.1 hc;cases e
  | loop b=>simp only[bH]at hc;obtain⟨_,_,e⟩:=ζf.1 hc;cases e
  | _=>simp[bH]at hc
 | exit id=>
  intro ro code hc st o st' h J ν Z F H y r j;simp only[cu,ζa,ζc]at h;obtain⟨rfl,rfl⟩:=h;simp only[erase]at hc;have:∀k,exec S.E (run S.E k) k ro X.nt code F H=some (.exit id,F,H):=λk=>by
   cases code with
   | exit ad=>simp only[bH,ζa,RC.exit.injEq]at hc;subst hc;rfl
   | region id ops w=>
    simp only[bH]at hc;split at hc
    .split at hc
     .obtain⟨_,_,e⟩:=ζf.1 hc;cases e
     .simp at hc
    .obtain⟨_,_,e⟩:=ζf.1 hc;cases e
   | seq a b=>simp only[bH]at hc;split at hc <;> simp at hc
   | cond x a b=>simp only[bH]at hc;split at hc <;> simp at hc
   | block id b=>simp only[bH]at hc;obtain⟨_,_,e⟩:=ζf.1 hc;cases e
   | loop b=>simp only[bH]at hc;obtain⟨_,_,e⟩:=ζf.1 hc;cases e
   | rangeFunc g ps T U=>
    simp only[bH]at hc;split at hc
    .simp at hc
    .split at hc <;> simp at hc
   | _=>simp[bH]at hc
  exact⟨0,F,H,ν,Z,λk _=>this k,r,j,.refl⟩
 | ret=>
  intro ro code hc st o st' h J ν Z F H y r j;simp only[cu,ζa,ζc]at h;obtain⟨rfl,rfl⟩:=h;simp only[erase]at hc;have:∀k,exec S.E (run S.E k) k ro X.nt code F H=some (.ret,F,H):=λk=>by
   cases code with
   | ret=>rfl
   | region id ops w=>
    simp only[bH]at hc;split at hc
    .split at hc
     .obtain⟨_,_,e⟩:=ζf.1 hc;cases e
     .simp at hc
    .obtain⟨_,_,e⟩:=ζf.1 hc;cases e
   | seq a b=>simp only[bH]at hc;split at hc <;> simp at hc
   | cond x a b=>simp only[bH]at hc;split at hc <;> simp at hc
   | block id b=>simp only[bH]at hc;obtain⟨_,_,e⟩:=ζf.1 hc;cases e
   | loop b=>simp only[bH]at hc;obtain⟨_,_,e⟩:=ζf.1 hc;cases e
   | rangeFunc g ps T U=>
    simp only[bH]at hc;split at hc
    .simp at hc
    .split at hc <;> simp at hc
   | _=>simp[bH]at hc
  exact⟨0,F,H,ν,Z,λk _=>this k,r,j,.refl⟩
 | gh x a u=>
  intro ro code hc;simp only[erase]at hc;intro st o st' h J ν Z F H y r j;simp only[cu]at h;obtain⟨z,h1,h2⟩:=ζg.1 h;obtain⟨A,B,g1,g2,g3⟩:=Fix.ghost r y j h1;obtain⟨n,F',H',ν',Z',e1,e2,e3,e4⟩:=u ro code hc z o st' h2 J A B F H (by rw[g3.more,g3.yid];exact y) g1 g2
  exact⟨n,F',H',ν',Z',e1,e2,e3,g3.trans e4⟩
 | hg a x u=>
  intro ro code hc;simp only[erase]at hc;intro st o st' h J ν Z F H y r j;simp only[cu]at h;split at h
  .rename_i z Y;obtain⟨st2,h1,e⟩:=ζf.1 h;simp only[ζc]at e;obtain⟨rfl,rfl⟩:=e;obtain⟨n,F',H',ν',Z',e1,e2,e3,e4⟩:=u ro code hc st .norm z Y J ν Z F H y r j;obtain⟨A,B,g1,g2,g3⟩:=Fix.ghost e2 (by rw[e4.more,e4.yid];exact y) e3 h1
   exact⟨n,F',H',A,B,e1,g1,g2,e4.trans g3⟩
  .exact u ro code hc st o st' h J ν Z F H y r j
end
end Go.VE
namespace Go.VE
variable [bN]
abbrev pF:=FuncId->Option RF
def vz (E:Env) (f:FuncId) (az:List V) (y:V):Prop:=∃n z H' Z,run E n (.fn f) az []=some (z,H')/\FR H' Z y z/\(∀id,Z id->(bk H' id).isSome=true)/\Deep H' Z
structure pP (S:Sys) (T:pF):Prop where
 fn:∀f rf,T f=some rf->∃fi nm,S.E.ft f=some fi/\(∀g s,nm g=some s->S.N s=g)/\wz S.E nm fi rf
 xq:∀f az y,S.xq f az=some y->vz S.E f az y
 prm:∀f q,S.prm f=some q->mU S.E f q
def L_ (S:Sys) (f:FuncId) (svs:List SV) (B:eW):Option (List SV×eW):=
 if S.E.keep f then none else match dn svs,B with
  | some az,[]=>(S.xq f az).map λy=>([.v y],[])
  | _,_=>none
noncomputable def j8 (S:Sys) (T:pF):Nat->cg
 | 0=>λ_ _ _=>none
 | n+1=>λf svs B=>match T f with
  | some rf=>mY S (j8 S T n) rf svs B
  | none=>L_ S f svs B
section
variable {ν ν' ν2:Nu} {Z Z':Nat->Prop} {st st' st2:St} {m m':Tb bD} {F F':Frame} {H H' H1:bf} {S:Sys} {c c':cg} {X:CX} {J:JT} {T:pF}
theorem zc (r:R ν Z st F H) {nm:FuncId->Option Nat}:∀{B:List ResultVar} {rs:List RV} {l:List SV},B.mapM (zk S.E)=some rs->kV st rs=some l->∃ys,gG S.E F H B=some ys/\bX ν st.m H Z l ys
 | [],rs,l,hc,h=>by
  simp  at hc;subst hc;simp[kV]at h;subst h;exact⟨[],rfl,.nil⟩
 | rv::B,rs,l,hc,h=>by
  simp[ζg]at hc;obtain⟨x,D,ys,G,rfl⟩:=hc
  cases rv with
  | tmp t=>
   simp[zk]at D;subst D;simp[kV]at h;split at h
   .rename_i v C h1 u;simp  at h;subst h;obtain⟨w,e1,e2⟩:=zc r (nm:=nm) G u;exact⟨get F t::w,by simp[gG,e1],.cons (r.slot t v h1) e2⟩
   grind
  | cell a t=>
   simp[zk]at D;obtain⟨d,I,rfl⟩:=D;simp[kV]at h;split at h
   .rename_i v C h1 u;simp  at h;subst h;obtain⟨p,J,h1⟩:=ζg.1 h1;obtain⟨w,e1,e2⟩:=zc r (nm:=nm) G u;obtain⟨y,g1,g2⟩:=uo (λs a e=>by cases e) (λkk z ok e=>by cases e) (bX.cons (r.slot a p J) .nil) (λL _ ob A=>r.obj L ob A) h1
    simp[ey]at g1;exact⟨y::w,by simp[gG,I,e1,g1],.cons g2 e2⟩
   grind
theorem GP (G:∀f q,S.prm f=some q->mU S.E f q) (J:jG S c) (O:∀f a b xs,S.items f a b=some xs->eU S f a b xs) {f:FuncId} {fi:FI} {nm:FuncId->Option Nat} {rf:RF} (D:S.E.ft f=some fi) (U:∀g s,nm g=some s->S.N s=g) (hr:wz S.E nm fi rf)
 {svs:List SV} {B:eW} {rs:List SV} {m1:eW} (h:mY S c rf svs B=some (rs,m1)) {args:List V} (r:R ν Z (start svs B) args H) (W:bX ν B H Z svs args) :
 ∃n y H' ν' Z' st' F' ys,run S.E n (.fn f) args H=some (y,H')/\y=result ys/\st'.m=m1/\bX ν' m1 H' Z' rs ys/\R ν' Z' st' F' H'/\Ev (λ_=>False) ν Z (start svs B) H ν' Z' st' H':=by
 obtain⟨hc,w,z⟩:=hr;unfold mY at h;split at h
 .have key:∀o st',cu S c rf.body (start svs B)=some (o,st')->(∀id,o≠.exit id)->(kV st' rf.rs).map (λrs=>(rs,st'.m))=some (rs,m1) ->
   ∃n y H' ν' Z' st' F' ys,run S.E n (.fn f) args H=some (y,H')/\y=result ys/\st'.m=m1/\bX ν' m1 H' Z' rs ys/\R ν' Z' st' F' H'/\Ev (λ_=>False) ν Z (start svs B) H ν' Z' st' H':=λo st' A ho u=>by
   obtain⟨l,h1,e⟩:=ζf.1 u;obtain⟨rfl,rfl⟩:=e;obtain⟨n,F',H',ν',Z',e1,e2,e3,e4⟩:=He  ⟨rfl,U,G⟩ J O rf.body false fi.body hc _ _ _ A (sO (fm ν (start svs B).m) Z H) ν Z args H sO.yc r (sO.refl r);obtain⟨ys,p1,p2⟩:=zc (nm:=nm) e2 w h1;obtain⟨_,C,I,L,Q,T⟩:=e3;refine⟨n+1,result ys,H',ν',Z',st',F',ys,?_,rfl,rfl,p2,e2,⟨C,λi h1 X Y _=>I i h1 X Y,L,λi h=>(Q i h).imp (λh=>h) .inr,λi h=>(T i h).imp (λh=>h) (.imp (λh=>h) .inr),e4.pin,e4.pins⟩⟩
   have t:args.length<=fi.ntmps:=by rw[<-W.1,<-z];omega
   simp[run,iR,D,if_pos t,e1 n (Nat.le_refl _)]
   grind
  grind
 grind
theorem FR.emp {x y:V} (D:∀id,¬Z id) (r:FR H Z x y):x=y:=by
 have z:∀{a t:List V},a.length=t.length->(∀(j:Nat) u v,a[j]? = some u->t[j]? = some v->u=v)->a=t:=λ{a t} h1 w=>by
  apply List.ext_getElem h1;intro i p q;exact w i _ _ (ζd p) (ζd q)
 induction r with
 | same x h=>rfl
 | fsl es A id off B h=>grind
 | fptr A id el off es B C h=>grind
 | clo f a b t G h1 w _ _ i1 i2=>rw[z h1 i1,z w i2]
 | agg a t h1 _ i1=>grind
 | tup a t h1 _ i1=>grind
theorem bX.emp (B:∀id,¬Z id):∀{xs ys:List V},bX ν m H Z (xs.map .v) ys->xs=ys
 | [],ys,h=>h.cK.symm
 | x::xs,ys,h=>by
  obtain⟨y,ys,rfl,h1,D⟩:=h.inv;rw[FR.emp B h1.fr,bX.emp B D]
theorem zS (B:pP S T) (J:∀f a b xs,S.items f a b=some xs->eU S f a b xs):∀n,jG S (j8 S T n)
 | 0=>λf svs U rs m1 h=>by simp[j8]at h
 | n+1=>λf svs U rs m1 h ν Z args H O r D=>by
  simp[j8]at h;split at h
  .rename_i rf G;obtain⟨fi,nm,h1,W,Y⟩:=B.fn f rf G;exact GP B.prm (zS B J n) J h1 W Y h r D
  .unfold L_ at h;split at h
   .simp_all
   .split at h
    .rename_i az L;obtain⟨y,Q,e⟩:=ζf.1 h;obtain⟨rfl,rfl⟩:=e;obtain⟨k,z,H',X,u,w,A,iY⟩:=B.xq f az y Q;rcases O with O|rfl
     .grind
     have I:∀id,¬Z id:=λid C=>by have:=r.zrow id C;simp[bk]at this
     have t  := by
      rw[qg L]at D;exact(bX.emp I D).symm
     subst t;refine⟨k,z,H',λ_=>(0,0),X,⟨[],[],[],[],true,0⟩,[],[z],u,rfl,rfl,bX.cons (.v y z w) .nil,?_,?_⟩
     .exact⟨λs sv h=>by simp[bg]at h,λd ob h=>by simp[bg]at h,λd d' ob aa h=>by simp[bg]at h,λd ob h=>by simp[bg]at h,A,iY⟩
     .exact⟨Nat.zero_le _,λid h=>by simp_all,λid h=>absurd h (I id),λid h=>by grind,λid h=>.inr (.inr (.inr (Nat.zero_le _))),λd h=>by simp[start]at h,rfl⟩
    grind
abbrev IM:=List ((FuncId×List SV×eW)×(List SV×eW))
def Bn (c:cg) (L:IM):Prop:=∀p∈L,c p.1.1 p.1.2.1 p.1.2.2=some p.2
def Fin {α:Type} (c:cg) (f:cg->Option α) (r:α):Prop:=∃L:IM,Bn c L/\∀c',Bn c' L->f c'=some r
theorem Fin.pure {α:Type} {f:cg->Option α} {r:α} (h:∀c',f c'=some r):Fin c f r:=⟨[],λp t=>by simp_all,λc' _=>h c'⟩
theorem Fin.bind {α β:Type} {f:cg->Option α} {r:α} {g:cg->Option β} {q:β} (h1:Fin c f r) (B:cg->α->Option β) (D:Fin c (λc=>B c r) q) (hg:∀c',f c'=some r->g c'=B c' r):Fin c g q:=by
 obtain⟨L1,a1,u⟩:=h1;obtain⟨L2,w,z⟩:=D;refine⟨L1++L2,λp t=>(List.mem_append.1 t).elim (a1 p) (w p),λc' hc=>?_⟩
 rw[hg c' (u c' λp t=>hc p (List.mem_append_left _ t))]
 exact z c' λp t=>hc p (List.mem_append_right _ t)
theorem Fin.call {f:FuncId} {svs:List SV} {B:eW} {r:List SV×eW} (h:c f svs B=some r):Fin c (λc=>c f svs B) r:=
 ⟨[((f,svs,B),r)],λp t=>by grind,λc' hc=>hc ((f,svs,B),r) (by simp)⟩
theorem Dh {dst:Option Nat} {dr now:Bool} {old:List SV->Bool} {f:FuncId} {args:List SV} {r:SV×St} (h:gz S c dst dr now old f args st=some r):Fin c (λc=>gz S c dst dr now old f args st) r:=by
 have h0:=h;unfold gz at h;split at h
 .split at h
  .split at h
   .split at h
    .split at h
     .rename_i rs m' hc;refine(Fin.call hc).bind (λc' q=>gz S c dst dr now old f args st) (.pure λ_=>h0) (λc' t=>?_)
      unfold gz
      grind
     grind
    grind
   .split at h
    .simp_all
    .split at h
     .refine .pure λc'=>?_
      unfold gz
      grind
     .split at h
      .split at h
       .rename_i rs m' hc;refine(Fin.call hc).bind (λc' q=>gz S c dst dr now old f args st) (.pure λ_=>h0) (λc' t=>?_)
        unfold gz
        grind
       grind
      grind
  grind
 .rename_i hk;split at h
  .rename_i az u;split at h
   .rename_i w;split at h
    .rename_i rs m' hc;refine(Fin.call hc).bind (λc' q=>gz S c dst dr now old f args st) (.pure λ_=>h0) (λc' t=>?_)
     unfold gz;simp[hk,u,w,hc,t]
    grind
   grind
  grind
theorem Qr {dr:Bool} {fr:List Nat} {o:RO} {r:SV×St} (h:kT S c dr fr o st=some r):Fin c (λc=>kT S c dr fr o st) r:=by
 have h0:=h;unfold kT at h;split at h
 .rename_i w t;split at h
  .refine .pure λc'=>?_
   have h1:=h0;unfold kT at h1 ⊢;rename_i hk;simp only[t,hk]at h1 ⊢;exact h1
  .refine .pure λc'=>?_
   have h1:=h0;unfold kT at h1 ⊢;rename_i z hk;simp only[t,hk]at h1 ⊢;exact h1
  .refine .pure λc'=>?_
   have h1:=h0;unfold kT at h1 ⊢;rename_i hk;simp only[t,hk]at h1 ⊢;exact h1
  .refine .pure λc'=>?_
   have h1:=h0;unfold kT at h1 ⊢;rename_i hk;simp only[t,hk]at h1 ⊢;exact h1
  .refine .pure λc'=>?_
   have h1:=h0;unfold kT at h1 ⊢;rename_i hk;simp only[t,hk]at h1 ⊢;exact h1
  .rename_i hk;split at h
   .refine(Dh h).bind (λ_ q=>some q) (.pure λ_=>rfl) (λc' u=>?_)
    unfold kT;simp only[t,hk,u]
   .refine(Dh h).bind (λ_ q=>some q) (.pure λ_=>rfl) (λc' u=>?_)
    unfold kT;simp only[t,hk,u]
   .simp at h
  .refine .pure λc'=>?_
   have h1:=h0;unfold kT at h1 ⊢;rename_i hk;simp only[t,hk]at h1 ⊢;exact h1
  .refine .pure λc'=>?_
   have h1:=h0;unfold kT at h1 ⊢;rename_i hk;simp only[t,hk]at h1 ⊢;exact h1
 .simp at h
theorem PY {dr:Bool} {fr:List Nat} {o:RO} {r:St} (h:fe S c dr fr o st=some r):Fin c (λc=>fe S c dr fr o st) r:=by
 unfold fe at h;split at h
 .split at h
  .refine .pure λc'=>?_
   unfold fe
   grind
  .obtain⟨q,t,e⟩:=ζf.1 h;refine(Qr t).bind (λ_ q=>some (cZ q.2 o.dst q.1)) (.pure λ_=>by simp_all) (λc' u=>?_)
   unfold fe
   grind
 .refine .pure λc'=>?_
  unfold fe
  grind
 grind
theorem AF {dr:Bool}:∀{l:List RO} {fr:List Nat} {st r:St},lM S c dr fr l st=some r->Fin c (λc=>lM S c dr fr l st) r
 | [],fr,st,r,h=>.pure λ_=>h
 | o::l,fr,st,r,h=>by
  simp[lM]at h;split at h
  .rename_i D B;obtain⟨G,hg,B⟩:=ζg.1 B;exact(PY B).bind (λc' q=>lM S c' dr (if dr then pK fr o.strip else fr) l (n9 o.dead q)) (AF h) (λc' t=>by simp[lM,hg,t])
  grind
theorem Db {f:cg->St->Option (Out×St)} (D:∀st r,f c st=some r->Fin c (λc=>f c st) r):∀{k:Nat} {st:St} {r:Out×St},iB (f c) k st=some r->Fin c (λc=>iB (f c) k st) r
 | 0,st,r,h=>by simp[iB]at h
 | k+1,st,r,h=>by
  simp[iB]at h;split at h
  .rename_i G J;exact(D st _ J).bind (λc' q=>iB (f c') k G) (Db D h) (λc' B=>by simp[iB,B])
  .refine(D st r h).bind (λ_ q=>some q) (.pure λ_=>rfl) (λc' B=>?_)
   simp[iB,B]
   grind
theorem C9 {f:cg->List V->Tb bD->Option (Out×Tb bD)} (D:∀x m r,f c x m=some r->Fin c (λc=>f c x m) r):∀{xs:List (List V)} {m:Tb bD} {r:Out×Tb bD},oT (f c) xs m=some r->Fin c (λc=>oT (f c) xs m) r
 | [],m,r,h=>.pure λ_=>h
 | x::xs,m,r,h=>by
  simp[oT]at h;split at h
  .rename_i m1 G;exact(D x m _ G).bind (λc' q=>oT (f c') xs m1) (C9 D h) (λc' B=>by simp[oT,B])
  .refine(D x m r h).bind (λ_ q=>some q) (.pure λ_=>rfl) (λc' B=>?_)
   simp[oT,B]
   grind
theorem Kb:∀{rc:RC} {st:St} {r:Out×St},cu S c rc st=some r->Fin c (λc=>cu S c rc st) r:=by
 intro rc
 induction rc with
 | skip=>exact λh=>.pure λ_=>h
 | exit id=>exact λh=>.pure λ_=>h
 | ret=>exact λh=>.pure λ_=>h
 | ops l=>
  intro st r h;simp only[cu]at h ⊢;obtain⟨q,C,e⟩:=ζf.1 h;exact(AF C).bind (λ_ q=>some (.norm,q)) (.pure λ_=>by simp_all) (λc' u=>by grind)
 | nR l=>
  intro st r h;simp only[cu]at h ⊢;obtain⟨q,C,e⟩:=ζf.1 h;exact(AF C).bind (λ_ q=>some (.norm,q)) (.pure λ_=>by simp_all) (λc' u=>by grind)
 | seq a b t A=>
  intro st r h;simp[cu]at h ⊢;split at h
  .rename_i w B;exact(t B).bind (λc' q=>cu S c' b w) (A h) (λc' u=>by grind)
  .rename_i B;refine(t h).bind (λ_ q=>some q) (.pure λ_=>rfl) (λc' u=>?_)
   grind
 | cond x a b t A=>
  intro st r h;simp[cu]at h ⊢
  grind
 | block id a t=>
  intro st r h;simp[cu]at h ⊢;split at h
  .rename_i D w B;exact(t B).bind (λc' q=>if D=id then some (.norm,w)else some (.exit D,w)) (.pure λ_=>h) (λc' u=>by grind)
  .refine(t h).bind (λ_ q=>some q) (.pure λ_=>rfl) (λc' u=>?_)
   grind
 | loop a t=>
  intro st r h;obtain⟨k,hk⟩:=kZ.1 h;refine(Db  (λst r h=>t h) hk).bind (λ_ q=>some q) (.pure λ_=>rfl) (λc' u=>?_)
  exact kZ.2 ⟨k,u⟩
 | each g ps a b t A=>
  intro st r h;simp only[cu]at h ⊢;split at h
  .split at h
   .obtain⟨q,C,e⟩:=ζf.1 h;refine(C9 (f:=λc=>hG ps (cu S c a) (cu S c b) st) (λz m r h=>?_) C).bind (λ_ q=>some (q.1,{ st with m:=q.2 })) (.pure λ_=>by simp_all) (λc' u=>by grind)
    unfold hG at h;split at h
    .split at h
     .rename_i w h1;obtain⟨I,G,e2⟩:=ζf.1 h;refine(t h1).bind (λc' q=>(cu S c' b w).map λ(o,st2)=>(o,st2.m)) ((A G).bind (λ_ q=>some (q.1,q.2.m)) (.pure λ_=>by simp_all) (λc' u=>by grind)) (λc' u=>?_)
      unfold hG
      grind
     grind
    grind
   grind
  grind
 | gh x a t=>
  intro st r h;simp[cu]at h ⊢;obtain⟨w,h1,J⟩:=ζg.1 h
  grind
 | hg a x t=>
  intro st r h;simp[cu]at h ⊢;split at h
  .rename_i w B;exact(t B).bind (λc' q=>(ghost x w).map λst=>(.norm,st)) (.pure λ_=>h) (λc' u=>by grind)
  .refine(t h).bind (λ_ q=>some q) (.pure λ_=>rfl) (λc' u=>?_)
   grind
theorem xC {rf:RF} {svs:List SV} {B:eW} {r:List SV×eW} (h:mY S c rf svs B=some r):Fin c (λc=>mY S c rf svs B) r:=by
 have h0:=h;unfold mY at h;split at h
 .split at h
  .simp_all
  .rename_i o st t u;refine(Kb u).bind (λc' q=>mY S c rf svs B) (.pure λ_=>h0) (λc' w=>?_)
   unfold mY
   grind
  grind
 grind
theorem BQ:∀{n:Nat} {f:FuncId} {svs:List SV} {B:eW} {r:List SV×eW},j8 S T n f svs B=some r->j8 S T (n+1) f svs B=some r
 | 0,f,svs,B,r,h=>by simp[j8]at h
 | n+1,f,svs,B,r,h=>by
  simp[j8]at h;rw[j8];split at h
  .rename_i rf D;obtain⟨L,h1,G⟩:=xC h;simp[D];exact G _ λp t=>BQ (h1 p t)
  grind
theorem AB {n k:Nat} (h:n<=k) {f:FuncId} {svs:List SV} {B:eW} {r:List SV×eW} (D:j8 S T n f svs B=some r):j8 S T k f svs B=some r:=by
 induction h with
 | refl=>omega
 | step _ t=>exact BQ t
open Classical in
noncomputable def c8 (S:Sys) (T:pF):cg:=λf t u=>if h:∃n r,j8 S T n f t u=some r then some (Classical.choose (Classical.choose_spec h))else none
theorem qH {f:FuncId} {svs:List SV} {B:eW} {r:List SV×eW}:c8 S T f svs B=some r↔∃n,j8 S T n f svs B=some r:=by
 unfold c8;constructor
 .intro h;split at h
  .grind
  grind
 .rintro⟨k,hk⟩;have t:∃n r,j8 S T n f svs B=some r:=⟨k,r,hk⟩;have u:=Classical.choose_spec (Classical.choose_spec t);have w:=AB (Nat.le_max_left (Classical.choose t) k) u;have z:=AB (Nat.le_max_right (Classical.choose t) k) hk
  grind
theorem IU {L:IM} (h:Bn (c8 S T) L):∃n,∀k,n<=k->Bn (j8 S T k) L:=by
 induction L with
 | nil=>exact⟨0,λk _ p hp=>by simp_all⟩
 | cons q L t=>
  obtain⟨u,h1⟩:=qH.1 (h q (by simp))
  obtain⟨w,z⟩:=t λp hp=>h p (List.mem_cons_of_mem _ hp)
  refine⟨max u w,λk hk p hp=>?_⟩
  rcases List.mem_cons.1 hp with rfl|hp
  .exact AB (Nat.le_trans (Nat.le_max_left _ _) hk) h1
  .exact z k (Nat.le_trans (Nat.le_max_right _ _) hk) p hp
theorem CK {f:FuncId} {az:List V} {y:V} (B:T f=none) (hk:S.E.keep f=false) (h:S.xq f az=some y):c8 S T f (az.map .v) []=some ([.v y],[]):=by
 refine qH.2 ⟨1,?_⟩;have t:dn (az.map .v)=some az:=by
  clear h
  induction az with
  | nil=>rfl
  | cons a l u=>simp only[List.map_cons,dn,u];rfl
 simp only[j8,B,L_,hk,t,h];rfl
theorem ue {f:FuncId} {rf:RF} (D:T f=some rf) (svs:List SV) (B:eW):c8 S T f svs B=mY S (c8 S T) rf svs B:=by
 cases h:mY S (c8 S T) rf svs B with
 | some r=>
  obtain⟨L,h1,u⟩:=xC h;obtain⟨n,t⟩:=IU h1;refine qH.2 ⟨n+1,?_⟩;simp[j8,D]
  grind
 | none=>
  cases u:c8 S T f svs B with
  | none=>rfl
  | some r=>
   obtain⟨n,t⟩:=qH.1 u
   cases n with
   | zero=>simp[j8]at t
   | succ n=>
    simp[j8,D]at t;obtain⟨L,w,z⟩:=xC t;have C:=z (c8 S T) λp A=>qH.2 ⟨n,w p A⟩
    grind
theorem vg (B:pP S T) (D:∀f a b xs,S.items f a b=some xs->eU S f a b xs):jG S (c8 S T):=λf t u rs w h=>by
 obtain⟨n,z⟩:=qH.1 h;exact zS B D n f t u rs w z
theorem Qe (U:∀f q,S.prm f=some q->mU S.E f q) (W:jG S c) {f:FuncId} {fi:FI} {nm:FuncId->Option Nat} {rf:RF} (Y:∀f a b xs,S.items f a b=some xs->eU S f a b xs) (D:S.E.ft f=some fi) (hN:∀g s,nm g=some s->S.N s=g) (hr:wz S.E nm fi rf) {a b:List V} {xs:List (List V)}
 (O:a.length+1+b.length<=rf.na) (G:rf.rs=[])
 (h:∀B more,(more=true/\B=xs\/more=false/\B≠[]/\∃r,xs=B++r)->∀yid,∃o st',cu S c rf.body { g:=vw 0 (a.map .v++.yl yid::b.map .v),m:=[],pin:=[],want:=B,more:=more,yid:=yid }=some (o,st')/\(∀id,o≠.exit id)/\st'.want=[]/\st'.m=st'.m) :
 eU S f a b xs:=by
 intro B more L yid J y Z z A H Q T X hd j;obtain⟨o,st',h1,h2,h3,_⟩:=h B more L yid;obtain⟨hc,u,C⟩:=hr;have I:bX (λ_=>(0,0)) [] H Z (a.map .v++.yl yid::b.map .v) (z++.yld yid::A):=(bX.pW Q).append (.cons (.yl yid) (bX.pW T))
 have r0:R (λ_=>(0,0)) Z { g:=vw 0 (a.map .v++.yl yid::b.map .v),m:=[],pin:=[],want:=B,more:=more,yid:=yid } (z++.yld yid::A) H:=
  ⟨vB I,λd ob h=>by simp[bg]at h,λd d' ob aa h=>by simp[bg]at h,λd ob h=>by simp[bg]at h,X,hd⟩
 obtain⟨n,F',H',ν',Z',e1,e2,e3,e4⟩:=He  ⟨rfl,hN,U⟩ W Y rf.body false fi.body hc _ _ _ h1 J _ Z _ H y r0 (by
  refine y.vl _ _ _ _ _ _ _ j (Nat.le_refl _) (λ_ _ _ _=>rfl) (λi w=>⟨w,rfl⟩) (λi w=>?_) (λi w=>.inl w)
  obtain⟨d,ob,h,_⟩:=w;simp[bg]at h)
 rw[h3]at e3;rw[G]at u;obtain⟨ys,p1,p2⟩:=zc (nm:=nm)   e2 u rfl;refine⟨n+1,result ys,H',_,Z',λk hk=>?_,e3⟩
 have t:(z++V.yld yid::A).length<=fi.ntmps:=by rw[<-I.1,<-C];simp;omega
 cases k with
 | zero=>omega
 | succ k=>
  simp[run,iR,D,if_pos t,e1 k (by omega)]
  grind
theorem Pn (B:pP S T) (D:∀f a b xs,S.items f a b=some xs->eU S f a b xs) {f:FuncId} {az:List V} (hg:V.cq az=true) {y:V} {m':eW} (h:c8 S T f (az.map .v) []=some ([.v y],m')) (G:y.scalar=true) :
 ∃n H',run S.E n (.fn f) az []=some (y,H'):=by
 obtain⟨t,r1⟩:=uR hg;obtain⟨n,A,H2,ν',Z',st',F',u,h1,rfl,C,w,I,_⟩:=vg B D f _ _ _ _ h _ _ az [] (.inr rfl) t r1;obtain⟨z,u,rfl,e1,e2⟩:=w.inv;rw[e2.cK]at h1;have:=(e1.fr.scalar).1 G;subst this;exact⟨n,H2,h1⟩
end
end Go.VE
