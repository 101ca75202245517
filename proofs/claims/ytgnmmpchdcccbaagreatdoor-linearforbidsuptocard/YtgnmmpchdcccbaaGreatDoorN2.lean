/-
 The second layer: named objects in the place of rows; texts, calls, iterators.
-/
import Derived.Test.YtgnmmpchdcccbaaGreatDoorN1
set_option linter.all false
noncomputable section
open Classical(choose_spec)
namespace Go.VE
variable[bX]
def l8(st:St):aX RV->aY SW
 |[]=>some []|.s n::r=>match bl st.g n,l8 st r with
  |some x,some l=>some (x::l)|_,_=>none
 |.ld n size agg::r=>match(bl st.g n).bind λp=>pX st.m (.load size agg) [p],l8 st r with
  |some x,some l=>some (x::l)|_,_=>none
def oV(S:Sys)(c:cm)(rf:RF)(svs:SW)(B:dI):aY (SW×dI):=
 if svs.length<=rf.na then
  match cN S c rf.body (start svs B)with
  |some (.exit _,_)=>none|some (_,st)=>(l8 st rf.rs).map λrs=>(rs,st.m)|none=>none
 else none
def Dg(E:Env):ResultVar->aY RV
 |.tmp t=>some (.s t)|.cell a t=>(E.tt t).map λd=>.ld a d.size d.agg
def zO(E:Env)(nm:Y'->aY Nat)(fi:FI)(rf:RF):Prop:=bS ⟨E,nm,fi.ntmps⟩ false fi.body=some (erase rf.body)/\fi.results.mapM (Dg E)=some rf.rs/\rf.na=fi.ntmps
section
variable{ν ν' ν2:Nu}{Z Z':Nat->Prop}{st st' st2:St}{m m':Tb bJ}{F F':WP}{H H' H1:bn}{S:Sys}{c:cm}{X:CX}{J:JT}
theorem Oe (gd:Good X S) (hS:ku S c) (hI:∀f a b xs,S.items f a b=some xs->eU S f a b xs):∀(rc:RC) (ro:Bool) (code:Code),bS X ro code=some (erase rc)->vn X S ro code (cN S c rc):=by
 intro rc
 induction rc with
 | skip=>
  intro ro code hc st o st' h J ν Z F H y r j;obtain⟨rfl,rfl⟩:=h;simp[erase]at hc;have:∀k,exec S.E (run S.E k) k ro X.nt code F H=some (.norm,F,H):=λk=>by
   cases code with
   | skip=>rfl
   | label _=>rfl
   | region id ops w=>
    simp[bS]at hc;split at hc
    .simp_all
    simp_all
   | seq a b=>simp[bS]at hc;grind
   | cond x a b=>simp[bS]at hc;grind
   | block id b=>simp only[bS]at hc;simp_all
   | loop b=>simp only[bS]at hc;simp_all
   | rangeFunc g ps O Q=>
    simp[bS]at hc
    grind
   | _=>simp[bS]at hc
  exact⟨0,F,H,ν,Z,λk _=>this k,r,j,.refl⟩
 | ops l=>
  intro ro code hc;simp[erase]at hc
  cases code with
  | region id ops w=>
   simp[bS]at hc;split at hc
   .simp_all
   rename_i hd;obtain⟨l',hl,e⟩:=ζf.1 hc;cases e;intro st o st' h J ν Z F H y r j;obtain⟨z,h1,e⟩:=ζf.1 h;obtain⟨rfl,rfl⟩:=e;obtain⟨n,F',H',ν',Z',e1,e2,e3,e4⟩:=R5 gd hS _ hl h1 y r j;refine⟨n,F',H',ν',Z',λk hk=>?_,e2,e3,e4⟩
   simp[exec,lp,hd,e1 k hk]
  | seq a b=>simp[bS]at hc;grind
  | cond x a b=>simp[bS]at hc;grind
  | block id b=>simp only[bS]at hc;simp_all
  | loop b=>obtain⟨_,_,e⟩:=ζf.1 hc;cases e
  | rangeFunc g ps O Q=>
   simp only[bS]at hc;split at hc
   .simp at hc
   split at hc <;> simp at hc
  | _=>simp[bS]at hc
 | rK l=>
  intro ro code hc;simp[erase]at hc
  cases code with
  | region id ops w=>
   simp only[bS]at hc;split at hc
   .rename_i hd;subst hd;split at hc
    next aa=>obtain⟨l',hl,e⟩:=ζf.1 hc;cases e;have:=Sg (ro:=ro) (id:=id) gd hS hl aa;intro st o st' h;exact this st o st' h
    simp at hc
   obtain⟨_,_,e⟩:=ζf.1 hc;cases e
  | seq a b=>simp[bS]at hc;split at hc <;> simp at hc
  | cond x a b=>simp[bS]at hc;split at hc <;> simp at hc
  | block id b=>obtain⟨_,_,e⟩:=ζf.1 hc;cases e
  | loop b=>obtain⟨_,_,e⟩:=ζf.1 hc;cases e
  | rangeFunc g ps O Q=>
   simp only[bS]at hc;split at hc
   .simp at hc
   split at hc <;> simp at hc
  | _=>simp[bS]at hc
 | seq a b u I=>
  intro ro code hc;simp[erase]at hc
  cases code with
  | seq T cb=>
   simp[bS]at hc;split at hc
   .rename_i xa xb L W;simp[RC.seq.injEq]at hc;obtain⟨rfl,rfl⟩:=hc;intro st o st' h J ν Z F H y r j;simp[cN]at h;split at h
    .rename_i z U;obtain⟨G,F1,H1,B,C,a1,a2,a3,a4⟩:=u ro T L st .norm z U J ν Z F H y r j;obtain⟨n2,F2,H2,ν2,Z2,b1,b2,b3,b4⟩:=I ro cb W z o st' h J B C F1 H1 (by rw[a4.more,a4.yid];exact y) a2 a3
     refine⟨max G n2,F2,H2,ν2,Z2,λq D=>?_,b2,b3,a4.trans b4⟩
     simp[exec,a1 q (Nat.le_trans (Nat.le_max_left _ _) D)];exact b1 q (Nat.le_trans (Nat.le_max_right _ _) D)
    rename_i U;obtain⟨G,F1,H1,B,C,a1,a2,a3,a4⟩:=u ro T L st o st' h J ν Z F H y r j;refine⟨G,F1,H1,B,C,λq D=>?_,a2,a3,a4⟩
    simp[exec,a1 q D];cases o <;> first|exact absurd h (U st')|rfl
   simp at hc
  | region id ops w=>
   simp[bS]at hc;split at hc
   .split at hc
    .obtain⟨_,_,e⟩:=ζf.1 hc;cases e
    simp at hc
   obtain⟨_,_,e⟩:=ζf.1 hc;cases e
  | cond x a b=>simp[bS]at hc;split at hc <;> simp at hc
  | block id b=>simp only[bS]at hc;obtain⟨_,_,e⟩:=ζf.1 hc;cases e
  | loop b=>simp only[bS]at hc;obtain⟨_,_,e⟩:=ζf.1 hc;cases e
  | rangeFunc g ps O Q=>
   simp only[bS]at hc;split at hc
   .simp at hc
   split at hc <;> simp at hc
  | _=>simp[bS]at hc
 | cond x a b u I=>
  intro ro code hc;simp[erase]at hc
  cases code with
  | cond g T cb=>
   simp[bS]at hc;split at hc
   .rename_i xg xa xb hg L W;simp[RC.cond.injEq]at hc;obtain⟨rfl,rfl,rfl⟩:=hc;intro st o st' h J ν Z F H y r j;simp[cN]at h;split at h
    .rename_i t ht;obtain⟨yv,hy,ry⟩:=Hr gd.N r.slot hg ht;rw[ry.fr.bool]at hy;split at h
     .rename_i W;obtain⟨G,F1,H1,B,C,a1,a2,a3,a4⟩:=u ro T L st o st' h J ν Z F H y r j;refine⟨G,F1,H1,B,C,λq D=>?_,a2,a3,a4⟩
      simp[exec,hy,W];exact a1 q D
     rename_i W;obtain⟨G,F1,H1,B,C,a1,a2,a3,a4⟩:=I ro cb (by assumption) st o st' h J ν Z F H y r j
     refine⟨G,F1,H1,B,C,λq D=>?_,a2,a3,a4⟩
     simp[exec,hy,W];exact a1 q D
    simp at h
   simp at hc
  | region id ops w=>
   simp[bS]at hc;split at hc
   .split at hc
    .obtain⟨_,_,e⟩:=ζf.1 hc;cases e
    simp at hc
   obtain⟨_,_,e⟩:=ζf.1 hc;cases e
  | seq a b=>simp[bS]at hc;split at hc <;> simp at hc
  | block id b=>simp only[bS]at hc;obtain⟨_,_,e⟩:=ζf.1 hc;cases e
  | loop b=>simp only[bS]at hc;obtain⟨_,_,e⟩:=ζf.1 hc;cases e
  | rangeFunc g ps O Q=>
   simp only[bS]at hc;split at hc
   .simp at hc
   split at hc <;> simp at hc
  | _=>simp[bS]at hc
 | block id a u=>
  intro ro code hc;simp[erase]at hc
  cases code with
  | block ab T=>
   simp only[bS]at hc;obtain⟨xa,L,e⟩:=ζf.1 hc;simp[RC.block.injEq]at e;obtain⟨rfl,rfl⟩:=e;intro st o st' h J ν Z F H y r j;simp[cN]at h;split at h
   .rename_i ad z U;obtain⟨G,F1,H1,B,C,a1,a2,a3,a4⟩:=u ro T L st (.exit ad) z U J ν Z F H y r j;split at h
    .rename_i e;simp  at h;obtain⟨rfl,rfl⟩:=h;refine⟨G,F1,H1,B,C,λq D=>?_,a2,a3,a4⟩
     simp[exec,a1 q D,if_pos e]
    rename_i e;simp  at h;obtain⟨rfl,rfl⟩:=h;refine⟨G,F1,H1,B,C,λq D=>?_,a2,a3,a4⟩
    simp[exec,a1 q D,if_neg e]
   rename_i U;obtain⟨G,F1,H1,B,C,a1,a2,a3,a4⟩:=u ro T L st o st' h J ν Z F H y r j;refine⟨G,F1,H1,B,C,λq D=>?_,a2,a3,a4⟩
   simp[exec,a1 q D];cases o <;> first|exact absurd h (U _ st')|rfl
  | region id ops w=>
   simp[bS]at hc;split at hc
   .split at hc
    .obtain⟨_,_,e⟩:=ζf.1 hc;cases e
    simp at hc
   obtain⟨_,_,e⟩:=ζf.1 hc;cases e
  | seq a b=>simp[bS]at hc;split at hc <;> simp at hc
  | cond x a b=>simp[bS]at hc;split at hc <;> simp at hc
  | loop b=>simp only[bS]at hc;obtain⟨_,_,e⟩:=ζf.1 hc;cases e
  | rangeFunc g ps O Q=>
   simp only[bS]at hc;split at hc
   .simp at hc
   split at hc <;> simp at hc
  | _=>simp[bS]at hc
 | loop a u=>
  intro ro code hc;simp[erase]at hc
  cases code with
  | loop T=>
   simp only[bS]at hc;obtain⟨xa,L,e⟩:=ζf.1 hc;simp[RC.loop.injEq]at e;subst e;have:=XM (u ro T L);intro st o st' h;simp[cN]at h;exact this st o st' h
  | region id ops w=>
   simp[bS]at hc;split at hc
   .split at hc
    .obtain⟨_,_,e⟩:=ζf.1 hc;cases e
    simp at hc
   obtain⟨_,_,e⟩:=ζf.1 hc;cases e
  | seq a b=>simp[bS]at hc;split at hc <;> simp at hc
  | cond x a b=>simp[bS]at hc;split at hc <;> simp at hc
  | block id b=>simp only[bS]at hc;obtain⟨_,_,e⟩:=ζf.1 hc;cases e
  | rangeFunc g ps O Q=>
   simp only[bS]at hc;split at hc
   .simp at hc
   split at hc <;> simp at hc
  | _=>simp[bS]at hc
 | each x ps a b u I=>
  intro ro code hc;simp[erase]at hc
  cases code with
  | rangeFunc g af O Q=>
   simp only[bS]at hc;split at hc
   .simp at hc
   rename_i Y;simp only[Bool.or_eq_true,not_or,Bool.not_eq_true,Bool.not_eq_false']at Y;obtain⟨rfl,ae⟩:=Y;split at hc
   next xg xa xb hg L W=>simp[RC.each.injEq]at hc;obtain⟨rfl,rfl,rfl,rfl⟩:=hc;have:=Xm gd hI ae hg (u true O L) (I true Q W);intro st o st' h;simp only[cN]at h;exact this st o st' h
   simp at hc
  | region id ops w=>
   simp only[bS]at hc;split at hc
   .split at hc
    .obtain⟨_,_,e⟩:=ζf.1 hc;cases e
    simp at hc
   obtain⟨_,_,e⟩:=ζf.1 hc;cases e
  | seq a b=>simp only[bS]at hc;split at hc <;> simp at hc
  | cond x a b=>simp only[bS]at hc;split at hc <;> simp at hc
  | block id b=>simp only[bS]at hc;obtain⟨_,_,e⟩:=ζf.1 hc;cases e
  | loop b=>simp only[bS]at hc;obtain⟨_,_,e⟩:=ζf.1 hc;cases e
  | _=>simp[bS]at hc
 | exit id=>
  intro ro code hc st o st' h J ν Z F H y r j;simp only[cN,ζa,ζc]at h;obtain⟨rfl,rfl⟩:=h;simp only[erase]at hc;have:∀k,exec S.E (run S.E k) k ro X.nt code F H=some (.exit id,F,H):=λk=>by
   cases code with
   | exit ab=>simp only[bS,ζa,RC.exit.injEq]at hc;subst hc;rfl
   | region id ops w=>
    simp only[bS]at hc;split at hc
    .split at hc
     .obtain⟨_,_,e⟩:=ζf.1 hc;cases e
     simp at hc
    obtain⟨_,_,e⟩:=ζf.1 hc;cases e
   | seq a b=>simp only[bS]at hc;split at hc <;> simp at hc
   | cond x a b=>simp only[bS]at hc;split at hc <;> simp at hc
   | block id b=>simp only[bS]at hc;obtain⟨_,_,e⟩:=ζf.1 hc;cases e
   | loop b=>simp only[bS]at hc;obtain⟨_,_,e⟩:=ζf.1 hc;cases e
   | rangeFunc g ps O Q=>
    simp only[bS]at hc;split at hc
    .simp at hc
    split at hc <;> simp at hc
   | _=>simp[bS]at hc
  exact⟨0,F,H,ν,Z,λk _=>this k,r,j,.refl⟩
 | ret=>
  intro ro code hc st o st' h J ν Z F H y r j;simp only[cN,ζa,ζc]at h;obtain⟨rfl,rfl⟩:=h;simp only[erase]at hc;have:∀k,exec S.E (run S.E k) k ro X.nt code F H=some (.ret,F,H):=λk=>by
   cases code with
   | ret=>rfl
   | region id ops w=>
    simp only[bS]at hc;split at hc
    .split at hc
     .obtain⟨_,_,e⟩:=ζf.1 hc;cases e
     simp at hc
    obtain⟨_,_,e⟩:=ζf.1 hc;cases e
   | seq a b=>simp only[bS]at hc;split at hc <;> simp at hc
   | cond x a b=>simp only[bS]at hc;split at hc <;> simp at hc
   | block id b=>simp only[bS]at hc;obtain⟨_,_,e⟩:=ζf.1 hc;cases e
   | loop b=>simp only[bS]at hc;obtain⟨_,_,e⟩:=ζf.1 hc;cases e
   | rangeFunc g ps O Q=>
    simp only[bS]at hc;split at hc
    .simp at hc
    split at hc <;> simp at hc
   | _=>simp[bS]at hc
  exact⟨0,F,H,ν,Z,λk _=>this k,r,j,.refl⟩
 | gh x a u=>
  intro ro code hc;simp only[erase]at hc;intro st o st' h J ν Z F H y r j;simp only[cN]at h;obtain⟨z,h1,h2⟩:=ζg.1 h;obtain⟨B,C,g1,g2,g3⟩:=Fix.ghost r y j h1;obtain⟨n,F',H',ν',Z',e1,e2,e3,e4⟩:=u ro code hc z o st' h2 J B C F H (by rw[g3.more,g3.yid];exact y) g1 g2
  exact⟨n,F',H',ν',Z',e1,e2,e3,g3.trans e4⟩
 | hg a x u=>
  intro ro code hc;simp only[erase]at hc;intro st o st' h J ν Z F H y r j;simp only[cN]at h;split at h
  .rename_i z U;obtain⟨st2,h1,e⟩:=ζf.1 h;simp only[ζc]at e;obtain⟨rfl,rfl⟩:=e;obtain⟨n,F',H',ν',Z',e1,e2,e3,e4⟩:=u ro code hc st .norm z U J ν Z F H y r j;obtain⟨B,C,g1,g2,g3⟩:=Fix.ghost e2 (by rw[e4.more,e4.yid];exact y) e3 h1
   exact⟨n,F',H',B,C,e1,g1,g2,e4.trans g3⟩
  exact u ro code hc st o st' h J ν Z F H y r j
end
end Go.VE
namespace Go.VE
variable[bX]
abbrev sH:=FuncId->aY RF
def CI(E:Env)(f:Y')(az:So)(y:V):Prop:=∃n z H' Z,run E n (.fn f) az []=some (z,H')/\FR H' Z y z/\(∀id,Z id->(br H' id).isSome=true)/\Deep H' Z
structure sR(S:Sys)(T:sH):Prop where
 fn:∀f rf,T f=some rf->∃fi nm,S.E.ft f=some fi/\(∀g s,nm g=some s->S.N s=g)/\zO S.E nm fi rf
 zo:∀f az y,S.zo f az=some y->CI S.E f az y
 prm:∀f q,S.prm f=some q->pK S.E f q
def TA(S:Sys)(f:Y')(svs:SW)(B:dI):aY (SW×dI):=
 if S.E.keep f then none else match dz svs,B with
  |some az,[]=>(S.zo f az).map λy=>([.v y],[])|_,_=>none
def nT(S:Sys)(T:sH):Nat->cm
 |0=>λ_ _ _=>none|n+1=>λf svs B=>match T f with
  |some rf=>oV S (nT S T n) rf svs B|none=>TA S f svs B
section
variable{ν ν' ν2:Nu}{Z Z':Nat->Prop}{st st' st2:St}{m m':Tb bJ}{F F':WP}{H H' H1:bn}{S:Sys}{c c':cm}{X:CX}{J:JT}{T:sH}
def Dz(r:R ν Z st F H){nm:Y'->aY Nat}:∀{B:aX ResultVar}{rs:aX RV}{l:SW},B.mapM (Dg S.E)=some rs->l8 st rs=some l->∃ys,jD S.E F H B=some ys/\cn ν st.m H Z l ys
 |[],rs,l,hc,h=>by simp at hc;subst hc;simp[l8]at h;subst h;exact⟨[],rfl,.nil⟩|rv::B,rs,l,hc,h=>by simp[ζg]at hc;obtain⟨x,D,ys,G,rfl⟩:=hc;cases rv with|tmp t=>simp[Dg]at D;subst D;simp[l8]at h;split at h;(next v I b u=>simp at h;subst h;have⟨w,e1,e2⟩:=Dz r (nm:=nm) G u;exact⟨get F t::w,by simp[jD,e1],.cons (r.slot t v b) e2⟩);grind|cell a t=>simp[Dg]at D;obtain⟨d,hd,rfl⟩:=D;simp[l8]at h;split at h;rename_i v I b u;simp at h;subst h;have⟨p,J,b⟩:=ζg.1 b;have⟨w,e1,e2⟩:=Dz r (nm:=nm) G u;have⟨y,g1,g2⟩:=yG (λs a e=>by cases e) (λkk z ok e=>by cases e) (cn.cons (r.slot a p J) .nil) (λL _ ob C=>r.obj L ob C) b;simp[ey]at g1;exact⟨y::w,by simp[jD,hd,e1,g1],.cons g2 e2⟩;grind
def Ms(G:∀f q,S.prm f=some q->pK S.E f q)(j:ku S c)(J:∀f a b xs,S.items f a b=some xs->eU S f a b xs){f:Y'}{fi:FI}{nm:Y'->aY Nat}{rf:RF}(D:S.E.ft f=some fi)(U:∀g s,nm g=some s->S.N s=g)(k:zO S.E nm fi rf)
 {svs:SW}{B:dI}{rs:SW}{m1:dI}(h:oV S c rf svs B=some (rs,m1)){args:So}(r:R ν Z (start svs B) args H)(W:cn ν B H Z svs args):
 ∃n y H' ν' Z' st' F' ys,run S.E n (.fn f) args H=some (y,H')/\y=result ys/\st'.m=m1/\cn ν' m1 H' Z' rs ys/\R ν' Z' st' F' H'/\Ev (λ_=>False) ν Z (start svs B) H ν' Z' st' H':=by
 have⟨m,z,C⟩:=k;unfold oV at h;split at h
 .have key:∀o st',cN S c rf.body (start svs B)=some (o,st')->(∀id,o≠.exit id)->(l8 st' rf.rs).map (λrs=>(rs,st'.m))=some (rs,m1)->
   ∃n y H' ν' Z' st' F' ys,run S.E n (.fn f) args H=some (y,H')/\y=result ys/\st'.m=m1/\cn ν' m1 H' Z' rs ys/\R ν' Z' st' F' H'/\Ev (λ_=>False) ν Z (start svs B) H ν' Z' st' H':=λo st' I t w=>by
   have⟨l,d,e⟩:=ζf.1 w;obtain⟨rfl,rfl⟩:=e;have⟨n,F',H',ν',Z',e1,e2,e3,e4⟩:=Oe ⟨rfl,U,G⟩ j J rf.body false fi.body m _ _ _ I (xq (gy ν (start svs B).m) Z H) ν Z args H xq.yc r (xq.refl r);have⟨ys,p1,p2⟩:=Dz (nm:=nm) e2 z d;have⟨_,L,O,Q,T,X⟩:=e3;refine⟨n+1,result ys,H',ν',Z',st',F',ys,?_,rfl,rfl,p2,e2,⟨L,λi d Y p _=>O i d Y p,Q,λi h=>(T i h).imp (λh=>h) .inr,λi h=>(X i h).imp (λh=>h) (.imp (λh=>h) .inr),e4.pin,e4.pins⟩⟩
   have u:args.length<=fi.ntmps:=by rw[<-W.1,<-C];omega
   simp[run,lP,D,if_pos u,e1 n (Nat.le_refl _)]
   grind
  grind
 grind
def FR.emp{x y:V}(G:∀id,¬Z id)(r:FR H Z x y):x=y:=by
 have B:∀{a w:So},a.length=w.length->(∀(j:Nat)u v,a[j]?=some u->w[j]?=some v->u=v)->a=w:=λ{a w}h1 z=>by apply List.ext_getElem h1;intro i p q;exact z i _ _ (ζd p) (ζd q)
 induction r with|same x h=>rfl|fsl es C id off D h=>grind|fptr C id el off es D cs h=>grind|clo f a b w I h1 z _ _ i1 i2=>rw[B h1 i1,B z i2]|agg a w h1 _ i1=>grind|tup a w h1 _ i1=>grind
def cn.emp(B:∀id,¬Z id):∀{xs ys:So},cn ν m H Z (xs.map .v) ys->xs=ys
 |[],ys,h=>h.dg.symm|x::xs,ys,h=>by obtain⟨y,ys,rfl,a,D⟩:=h.inv;rw[FR.emp B a.fr,cn.emp B D]
def D2(B:sR S T)(U:∀f a b xs,S.items f a b=some xs->eU S f a b xs):∀n,ku S (nT S T n)
 |0=>λf svs Y rs m1 h=>by simp[nT]at h|n+1=>λf svs Y rs m1 h ν Z args H W r D=>by simp[nT]at h;split at h;(next rf G=>have⟨fi,nm,c,g,i⟩:=B.fn f rf G;exact Ms B.prm (D2 B U n) U c g i h r D);unfold TA at h;split at h;simp_all;split at h;rename_i az O;have⟨y,Q,e⟩:=ζf.1 h;obtain⟨rfl,rfl⟩:=e;have⟨k,z,H',X,w,C,I,kA⟩:=B.zo f az y Q;rcases W with W|rfl;grind;have L:∀id,¬Z id:=λid J=>(by have:=r.zrow id J;simp[br]at this);have u:=(by rw[wZ O]at D;exact(cn.emp L D).symm);subst u;refine⟨k,z,H',λ_=>(0,0),X,⟨[],[],[],[],true,0⟩,[],[z],w,rfl,rfl,cn.cons (.v y z C) .nil,?_,?_⟩;exact⟨λs sv h=>by simp[bl]at h,λd ob h=>by simp[bl]at h,λd j ob l h=>by simp[bl]at h,λd ob h=>by simp[bl]at h,I,kA⟩;exact⟨Nat.zero_le _,λid h=>Zad,λid h=>absurd h (L id),λid h=>Zac,λid h=>.inr (.inr (.inr (Nat.zero_le _))),λd h=>by simp[start]at h,rfl⟩;grind
abbrev OZ:=aX ((FuncId×aX SV×dI)×(aX SV×dI))
def Fe(c:cm)(L:OZ):Prop:=∀p∈L,c p.1.1 p.1.2.1 p.1.2.2=some p.2
def Fin{α:Type}(c:cm)(f:cm->aY α)(r:α):Prop:=∃L:OZ,Fe c L/\∀c',Fe c' L->f c'=some r
def Fin.pure{α:Type}{f:cm->aY α}{r:α}(h:∀c',f c'=some r):Fin c f r:=⟨[],λp u=>Zad,λc' _=>h c'⟩
def Fin.bind{α β:Type}{f:cm->aY α}{r:α}{g:cm->aY β}{q:β}(b:Fin c f r)(B:cm->α->aY β)(D:Fin c (λc=>B c r) q)(d:∀c',f c'=some r->g c'=B c' r):Fin c g q:=by have⟨L1,a1,w⟩:=b;have⟨L2,a2,z⟩:=D;refine⟨L1++L2,λp u=>(List.mem_append.1 u).elim (a1 p) (a2 p),λc' a=>?_⟩;rw[d c' (w c' λp u=>a p (List.mem_append_left _ u))];exact z c' λp u=>a p (List.mem_append_right _ u)
def Fin.call{f:Y'}{svs:SW}{B:dI}{r:SW×dI}(h:c f svs B=some r):Fin c (λc=>c f svs B) r:=⟨[((f,svs,B),r)],λp u=>Zac,λc' a=>a ((f,svs,B),r) Zab⟩
def Il{dst:aY Nat}{dr now:X'}{old:SW->X'}{f:Y'}{args:SW}{r:SV×St}(h:fN S c dst dr now old f args st=some r):Fin c (λc=>fN S c dst dr now old f args st) r:=by have b:=h;unfold fN at h;split at h;split at h;split at h;split at h;split at h;rename_i rs m' a;refine(Fin.call a).bind (λc' q=>fN S c dst dr now old f args st) (.pure λ_=>b) (λc' u=>?_);unfold fN;grind;grind;grind;rename_i w;split at h;rename_i q z;refine .pure λc'=>?_;unfold fN;simp_all;rename_i z;split at h;rename_i os D;split at h;rename_i rs m' a;refine(Fin.call a).bind (λc' q=>fN S c dst dr now old f args st) (.pure λ_=>b) (λc' u=>?_);unfold fN;clear h b;simp[*];grind;grind;split at h;split at h;split at h;rename_i rs m' a;refine(Fin.call a).bind (λc' q=>fN S c dst dr now old f args st) (.pure λ_=>b) (λc' u=>?_);unfold fN;simp_all;grind;grind;grind;rename_i d;split at h;rename_i az B;split at h;rename_i C;split at h;rename_i rs m' a;refine(Fin.call a).bind (λc' q=>fN S c dst dr now old f args st) (.pure λ_=>b) (λc' u=>?_);unfold fN;simp[d,B,C,a,u];grind;grind;grind
def Yl{dr:X'}{fr:ST}{o:RO}{r:SV×St}(h:nX S c dr fr o st=some r):Fin c (λc=>nX S c dr fr o st) r:=by have d:=h;unfold nX at h;split at h;rename_i z u;split at h;refine .pure λc'=>?_;have a:=d;unfold nX at a⊢;rename_i b;simp only[u,b]at a⊢;exact a;refine .pure λc'=>?_;have a:=d;unfold nX at a⊢;rename_i B b;simp only[u,b]at a⊢;exact a;refine .pure λc'=>?_;have a:=d;unfold nX at a⊢;rename_i b;simp only[u,b]at a⊢;exact a;refine .pure λc'=>?_;have a:=d;unfold nX at a⊢;rename_i b;simp only[u,b]at a⊢;exact a;refine .pure λc'=>?_;have a:=d;unfold nX at a⊢;rename_i b;simp only[u,b]at a⊢;exact a;rename_i b;split at h;refine(Il h).bind (λ_ q=>some q) (.pure λ_=>rfl) (λc' w=>?_);unfold nX;simp only[u,b,w];refine(Il h).bind (λ_ q=>some q) (.pure λ_=>rfl) (λc' w=>?_);unfold nX;simp only[u,b,w];simp at h;refine .pure λc'=>?_;have a:=d;unfold nX at a⊢;rename_i b;simp only[u,b]at a⊢;exact a;refine .pure λc'=>?_;have a:=d;unfold nX at a⊢;rename_i b;simp only[u,b]at a⊢;exact a;simp at h
def Yt{dr:X'}{fr:ST}{o:RO}{r:St}(h:gp S c dr fr o st=some r):Fin c (λc=>gp S c dr fr o st) r:=by unfold gp at h;split at h;split at h;refine .pure λc'=>?_;unfold gp;grind;have⟨q,u,e⟩:=ζf.1 h;refine(Yl u).bind (λ_ q=>some (cW q.2 o.dst q.1)) (.pure λ_=>Zad) (λc' w=>?_);unfold gp;grind;refine .pure λc'=>?_;unfold gp;grind;grind
def El{dr:X'}:∀{l:R0}{fr:ST}{st r:St},pL S c dr fr l st=some r->Fin c (λc=>pL S c dr fr l st) r
 |[],fr,st,r,h=>.pure λ_=>h|o::l,fr,st,r,h=>by simp[pL]at h;split at h;(next D B=>have⟨G,a,B⟩:=ζg.1 B;exact(Yt B).bind (λc' q=>pL S c' dr (if dr then tB fr o.strip else fr) l (rG o.dead q)) (El h) (λc' u=>by simp[pL,a,u]));grind
def I_{f:cm->St->aY (Out×St)}(D:∀st r,f c st=some r->Fin c (λc=>f c st) r):∀{k:Nat}{st:St}{r:Out×St},kH (f c) k st=some r->Fin c (λc=>kH (f c) k st) r
 |0,st,r,h=>by simp[kH]at h|k+1,st,r,h=>by simp[kH]at h;split at h;(next G J=>exact(D st _ J).bind (λc' q=>kH (f c') k G) (I_ D h) (λc' B=>by simp[kH,B]));refine(D st r h).bind (λ_ q=>some q) (.pure λ_=>rfl) (λc' B=>?_);simp[kH,B];grind
def I8{f:cm->So->Tb bJ->aY (Out×Tb bJ)}(D:∀x m r,f c x m=some r->Fin c (λc=>f c x m) r):∀{xs:S'}{m:Tb bJ}{r:Out×Tb bJ},s8 (f c) xs m=some r->Fin c (λc=>s8 (f c) xs m) r
 |[],m,r,h=>.pure λ_=>h|x::xs,m,r,h=>by simp[s8]at h;split at h;(next m1 G=>exact(D x m _ G).bind (λc' q=>s8 (f c') xs m1) (I8 D h) (λc' B=>by simp[s8,B]));refine(D x m r h).bind (λ_ q=>some q) (.pure λ_=>rfl) (λc' B=>?_);simp[s8,B];grind
def RJ:∀{d:RC}{st:St}{r:Out×St},cN S c d st=some r->Fin c (λc=>cN S c d st) r:=by intro d;induction d with|skip=>exactλh=>.pure λ_=>h|exit id=>exactλh=>.pure λ_=>h|ret=>exactλh=>.pure λ_=>h|ops l=>intro st r h;simp only[cN]at h⊢;have⟨q,G,e⟩:=ζf.1 h;exact(El G).bind (λ_ q=>some (.norm,q)) (.pure λ_=>Zad) (λc' w=>Zac)|rK l=>intro st r h;simp only[cN]at h⊢;have⟨q,G,e⟩:=ζf.1 h;exact(El G).bind (λ_ q=>some (.norm,q)) (.pure λ_=>Zad) (λc' w=>Zac)|seq a b u C=>intro st r h;simp[cN]at h⊢;split at h;(next B D=>exact(u D).bind (λc' q=>cN S c' b B) (C h) (λc' w=>Zac));rename_i D;refine(u h).bind (λ_ q=>some q) (.pure λ_=>rfl) (λc' w=>?_);grind|cond x a b u C=>intro st r h;simp[cN]at h⊢;grind|block id a u=>intro st r h;simp[cN]at h⊢;split at h;(next I B D=>exact(u D).bind (λc' q=>if I=id then some (.norm,B)else some (.exit I,B)) (.pure λ_=>h) (λc' w=>Zac));refine(u h).bind (λ_ q=>some q) (.pure λ_=>rfl) (λc' w=>?_);grind|loop a u=>intro st r h;have⟨k,j⟩:=oW.1 h;refine(I_ (λst r h=>u h) j).bind (λ_ q=>some q) (.pure λ_=>rfl) (λc' w=>?_);exact oW.2 ⟨k,w⟩|each g ps a b u C=>intro st r h;simp only[cN]at h⊢;split at h;split at h;have⟨q,G,e⟩:=ζf.1 h;refine(I8 (f:=λc=>jT ps (cN S c a) (cN S c b) st) (λz m r h=>?_) G).bind (λ_ q=>some (q.1,{st with m:=q.2})) (.pure λ_=>Zad) (λc' w=>Zac);unfold jT at h;split at h;split at h;rename_i B i;have⟨L,J,e2⟩:=ζf.1 h;refine(u i).bind (λc' q=>(cN S c' b B).map λ(o,st2)=>(o,st2.m)) ((C J).bind (λ_ q=>some (q.1,q.2.m)) (.pure λ_=>Zad) (λc' w=>Zac)) (λc' w=>?_);unfold jT;grind;grind;grind;grind;grind|gh x a u=>intro st r h;simp[cN]at h⊢;have⟨B,i,O⟩:=ζg.1 h;grind|hg a x u=>intro st r h;simp[cN]at h⊢;split at h;(next B D=>exact(u D).bind (λc' q=>(ghost x B).map λst=>(.norm,st)) (.pure λ_=>h) (λc' w=>Zac));refine(u h).bind (λ_ q=>some q) (.pure λ_=>rfl) (λc' w=>?_);grind
def Ct{rf:RF}{svs:SW}{B:dI}{r:SW×dI}(h:oV S c rf svs B=some r):Fin c (λc=>oV S c rf svs B) r:=by have a:=h;unfold oV at h;split at h;split at h;simp_all;rename_i o st u w;refine(RJ w).bind (λc' q=>oV S c rf svs B) (.pure λ_=>a) (λc' z=>?_);unfold oV;grind;grind;grind
def FL:∀{n:Nat}{f:Y'}{svs:SW}{B:dI}{r:SW×dI},nT S T n f svs B=some r->nT S T (n+1) f svs B=some r
 |0,f,svs,B,r,h=>by simp[nT]at h|n+1,f,svs,B,r,h=>by simp[nT]at h;rw[nT];split at h;(next rf D=>have⟨L,a,G⟩:=Ct h;simp[D];exact G _ λp u=>FL (a p u));grind
def Ew{n k:Nat}(h:n<=k){f:Y'}{svs:SW}{B:dI}{r:SW×dI}(D:nT S T n f svs B=some r):nT S T k f svs B=some r:=by induction h with|refl=>omega|step _ u=>exact FL u
open Classical in
def di(S:Sys)(T:sH):cm:=λf u w=>if h:∃n r,nT S T n f u w=some r then some (Classical.choose (choose_spec h))else none
def uu{f:Y'}{svs:SW}{B:dI}{r:SW×dI}:di S T f svs B=some r↔∃n,nT S T n f svs B=some r:=by unfold di;constructor;intro h;split at h;grind;grind;rintro⟨k,a⟩;have u:∃n r,nT S T n f svs B=some r:=⟨k,r,a⟩;have w:=choose_spec (choose_spec u);have z:=Ew (Nat.le_max_left (Classical.choose u) k) w;have C:=Ew (Nat.le_max_right (Classical.choose u) k) a;grind
def O9{L:OZ}(h:Fe (di S T) L):∃n,∀k,n<=k->Fe (nT S T k) L:=by induction L with|nil=>exact⟨0,λk _ p hp=>Zad⟩|cons q L u=>have⟨w,b⟩:=uu.1 (h q Zab);have⟨z,B⟩:=u λp hp=>h p (List.mem_cons_of_mem _ hp);refine⟨max w z,λk a p hp=>?_⟩;rcases List.mem_cons.1 hp with rfl|hp;exact Ew (Nat.le_trans (Nat.le_max_left _ _) a) b;exact B k (Nat.le_trans (Nat.le_max_right _ _) a) p hp
def IA{f:Y'}{az:So}{y:V}(B:T f=none)(b:S.E.keep f=false)(h:S.zo f az=some y):di S T f (az.map .v) []=some ([.v y],[]):=by
 refine uu.2 ⟨1,?_⟩;have u:dz (az.map .v)=some az:=by clear h;induction az with|nil=>rfl|cons a l w=>simp only[List.map_cons,dz,w];rfl
 simp only[nT,B,TA,b,u,h];rfl
def tY{f:Y'}{rf:RF}(D:T f=some rf)(svs:SW)(B:dI):di S T f svs B=oV S (di S T) rf svs B:=by cases h:oV S (di S T) rf svs B with|some r=>have⟨L,a,w⟩:=Ct h;have⟨n,u⟩:=O9 a;refine uu.2 ⟨n+1,?_⟩;simp[nT,D];grind|none=>cases w:di S T f svs B with|none=>rfl|some r=>have⟨n,u⟩:=uu.1 w;cases n with|zero=>simp[nT]at u|succ n=>simp[nT,D]at u;have⟨L,z,C⟩:=Ct u;have I:=C (di S T) λp G=>uu.2 ⟨n,z p G⟩;grind
def wB(B:sR S T)(D:∀f a b xs,S.items f a b=some xs->eU S f a b xs):ku S (di S T):=λf u w rs z h=>by have⟨n,C⟩:=uu.1 h;exact D2 B D n f u w rs z C
def NM(W:∀f q,S.prm f=some q->pK S.E f q)(l:ku S c){f:Y'}{fi:FI}{nm:Y'->aY Nat}{rf:RF}(Y:∀f a b xs,S.items f a b=some xs->eU S f a b xs)(D:S.E.ft f=some fi)(p:∀g s,nm g=some s->S.N s=g)(t:zO S.E nm fi rf){a b:So}{xs:S'}
 (U:a.length+1+b.length<=rf.na)(G:rf.rs=[])
 (h:∀B more,(more=true/\B=xs\/more=false/\B≠[]/\∃r,xs=B++r)->∀yid,∃o st',cN S c rf.body {g:=xD 0 (a.map .v++.yl yid::b.map .v),m:=[],pin:=[],want:=B,more:=more,yid:=yid}=some (o,st')/\(∀id,o≠.exit id)/\st'.want=[]/\st'.m=st'.m):
 eU S f a b xs:=by
 intro B more O yid J y Z z C H Q T X hd j;have⟨o,st',v,F,x,_⟩:=h B more O yid;have⟨A,w,I⟩:=t;have L:cn (λ_=>(0,0)) [] H Z (a.map .v++.yl yid::b.map .v) (z++.yld yid::C):=(cn.tU Q).append (.cons (.yl yid) (cn.tU T))
 have E:R (λ_=>(0,0)) Z {g:=xD 0 (a.map .v++.yl yid::b.map .v),m:=[],pin:=[],want:=B,more:=more,yid:=yid} (z++.yld yid::C) H:=⟨zZ L,λd ob h=>by simp[bl]at h,λd K ob M h=>by simp[bl]at h,λd ob h=>by simp[bl]at h,X,hd⟩
 have⟨n,F',H',ν',Z',e1,e2,e3,e4⟩:=Oe ⟨rfl,p,W⟩ l Y rf.body false fi.body A _ _ _ v J _ Z _ H y E (by
  refine y.yT _ _ _ _ _ _ _ j (Nat.le_refl _) (λ_ _ _ _=>rfl) (λi e=>⟨e,rfl⟩) (λi e=>?_) (λi e=>.inl e)
  have⟨d,ob,h,_⟩:=e;simp[bl]at h)
 rw[x]at e3;rw[G]at w;have⟨ys,p1,p2⟩:=Dz (nm:=nm) e2 w rfl;refine⟨n+1,result ys,H',_,Z',λk N=>?_,e3⟩
 have u:(z++V.yld yid::C).length<=fi.ntmps:=by rw[<-L.1,<-I];simp;omega
 cases k with
 |zero=>omega|succ k=>
  simp[run,lP,D,if_pos u,e1 k Zaa]
  grind
def Xy(B:sR S T)(D:∀f a b xs,S.items f a b=some xs->eU S f a b xs){f:Y'}{az:So}(d:V.cH az=true){y:V}{m':dI}(h:di S T f (az.map .v) []=some ([.v y],m'))(G:y.scalar=true):
 ∃n H',run S.E n (.fn f) az []=some (y,H'):=by
 have⟨u,r1⟩:=zM d;obtain⟨n,I,H2,ν',Z',st',F',w,c,rfl,J,C,L,_⟩:=wB B D f _ _ _ _ h _ _ az [] (.inr rfl) u r1;obtain⟨z,w,rfl,e1,e2⟩:=C.inv;rw[e2.dg]at c;have:=(e1.fr.scalar).1 G;subst this;exact⟨n,H2,c⟩
end
end Go.VE
