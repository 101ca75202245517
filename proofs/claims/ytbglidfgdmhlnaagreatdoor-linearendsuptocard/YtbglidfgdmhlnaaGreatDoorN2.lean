/- Objects, calls. -/
import Derived.Test.YtbglidfgdmhlnaaGreatDoorN1
set_option linter.all false
noncomputable section
open Classical(choose_spec)
namespace Go.VE
variable[bX]
def mh(st:St):aX RV->aY SW
 |[]=>some []|.s n::r=>match bl st.g n,mh st r with
  |some x,some l=>some (x::l)|_,_=>none
 |.ld n size agg::r=>match(bl st.g n).bind λp=>qe st.m (.load size agg) [p],mh st r with
  |some x,some l=>some (x::l)|_,_=>none
def o8(S:Sys)(c:cn)(rf:RF)(svs:SW)(B:dM):aY (SW×dM):=
 if svs.length<=rf.na then
  match cN S c rf.body (start svs B)with
  |some (.exit _,_)=>none|some (_,st)=>(mh st rf.rs).map λrs=>(rs,st.m)|none=>none
 else none
def DF(E:Env):ResultVar->aY RV
 |.tmp t=>some (.s t)|.cell a t=>(E.tt t).map λd=>.ld a d.size d.agg
def zL(E:Env)(nm:Y'->aY Nat)(fi:FI)(rf:RF):Prop:=bR ⟨E,nm,fi.ntmps⟩ false fi.body=some (erase rf.body)/\fi.results.mapM (DF E)=some rf.rs/\rf.na=fi.ntmps
section
variable{ν ν' ν2:Nu}{Z Z':Nat->Prop}{st st' st2:St}{m m':Tb bH}{F F':WP}{H H' H1:bn}{S:Sys}{c:cn}{X:CX}{J:JT}
theorem Od (gd:Good X S) (hS:kI S c) (hI:∀f a b xs,S.items f a b=some xs->eW S f a b xs):∀(rc:RC) (ro:Bool) (code:Code),bR X ro code=some (erase rc)->vr X S ro code (cN S c rc):=by
 intro rc
 induction rc with
 | skip=>
  intro ro code hc st o st' h J ν Z F H y r j;obtain⟨rfl,rfl⟩:=h;simp[erase]at hc;have:∀k,exec S.E (run S.E k) k ro X.nt code F H=some (.norm,F,H):=λk=>by
   cases code with
   | skip=>rfl
   | label _=>rfl
   | region id ops w=>
    simp[bR]at hc;split at hc
    .simp_all
    simp_all
   | seq a b=>simp[bR]at hc;grind
   | cond x a b=>simp[bR]at hc;grind
   | block id b=>simp only[bR]at hc;simp_all
   | loop b=>simp only[bR]at hc;simp_all
   | rangeFunc g ps O Q=>
    simp[bR]at hc
    grind
   | _=>simp[bR]at hc
  exact⟨0,F,H,ν,Z,λk _=>this k,r,j,.refl⟩
 | ops l=>
  intro ro code hc;simp[erase]at hc
  cases code with
  | region id ops w=>
   simp[bR]at hc;split at hc
   .simp_all
   rename_i hd;obtain⟨l',hl,e⟩:=ζf.1 hc;cases e;intro st o st' h J ν Z F H y r j;obtain⟨z,h1,e⟩:=ζf.1 h;obtain⟨rfl,rfl⟩:=e;obtain⟨n,F',H',ν',Z',e1,e2,e3,e4⟩:=Sa gd hS _ hl h1 y r j;refine⟨n,F',H',ν',Z',λk hk=>?_,e2,e3,e4⟩
   simp[exec,lB,hd,e1 k hk]
  | seq a b=>simp[bR]at hc;grind
  | cond x a b=>simp[bR]at hc;grind
  | block id b=>simp only[bR]at hc;simp_all
  | loop b=>obtain⟨_,_,e⟩:=ζf.1 hc;cases e
  | rangeFunc g ps O Q=>
   simp only[bR]at hc;split at hc
   .simp at hc
   split at hc <;> simp at hc
  | _=>simp[bR]at hc
 | sq l=>
  intro ro code hc;simp[erase]at hc
  cases code with
  | region id ops w=>
   simp only[bR]at hc;split at hc
   .rename_i hd;subst hd;split at hc
    next aa=>obtain⟨l',hl,e⟩:=ζf.1 hc;cases e;have:=RZ (ro:=ro) (id:=id) gd hS hl aa;intro st o st' h;exact this st o st' h
    simp at hc
   obtain⟨_,_,e⟩:=ζf.1 hc;cases e
  | seq a b=>simp[bR]at hc;split at hc <;> simp at hc
  | cond x a b=>simp[bR]at hc;split at hc <;> simp at hc
  | block id b=>obtain⟨_,_,e⟩:=ζf.1 hc;cases e
  | loop b=>obtain⟨_,_,e⟩:=ζf.1 hc;cases e
  | rangeFunc g ps O Q=>
   simp only[bR]at hc;split at hc
   .simp at hc
   split at hc <;> simp at hc
  | _=>simp[bR]at hc
 | seq a b u I=>
  intro ro code hc;simp[erase]at hc
  cases code with
  | seq T cb=>
   simp[bR]at hc;split at hc
   .rename_i xa xb L W;simp[RC.seq.injEq]at hc;obtain⟨rfl,rfl⟩:=hc;intro st o st' h J ν Z F H y r j;simp[cN]at h;split at h
    .rename_i z U;obtain⟨G,F1,H1,B,C,a1,a2,a3,a4⟩:=u ro T L st .norm z U J ν Z F H y r j;obtain⟨n2,F2,H2,ν2,Z2,b1,b2,b3,b4⟩:=I ro cb W z o st' h J B C F1 H1 (by rw[a4.more,a4.yid];exact y) a2 a3
     refine⟨max G n2,F2,H2,ν2,Z2,λq D=>?_,b2,b3,a4.trans b4⟩
     simp[exec,a1 q (Nat.le_trans (Nat.le_max_left _ _) D)];exact b1 q (Nat.le_trans (Nat.le_max_right _ _) D)
    rename_i U;obtain⟨G,F1,H1,B,C,a1,a2,a3,a4⟩:=u ro T L st o st' h J ν Z F H y r j;refine⟨G,F1,H1,B,C,λq D=>?_,a2,a3,a4⟩
    simp[exec,a1 q D];cases o <;> first|exact absurd h (U st')|rfl
   simp at hc
  | region id ops w=>
   simp[bR]at hc;split at hc
   .split at hc
    .obtain⟨_,_,e⟩:=ζf.1 hc;cases e
    simp at hc
   obtain⟨_,_,e⟩:=ζf.1 hc;cases e
  | cond x a b=>simp[bR]at hc;split at hc <;> simp at hc
  | block id b=>simp only[bR]at hc;obtain⟨_,_,e⟩:=ζf.1 hc;cases e
  | loop b=>simp only[bR]at hc;obtain⟨_,_,e⟩:=ζf.1 hc;cases e
  | rangeFunc g ps O Q=>
   simp only[bR]at hc;split at hc
   .simp at hc
   split at hc <;> simp at hc
  | _=>simp[bR]at hc
 | cond x a b u I=>
  intro ro code hc;simp[erase]at hc
  cases code with
  | cond g T cb=>
   simp[bR]at hc;split at hc
   .rename_i xg xa xb hg L W;simp[RC.cond.injEq]at hc;obtain⟨rfl,rfl,rfl⟩:=hc;intro st o st' h J ν Z F H y r j;simp[cN]at h;split at h
    .rename_i t ht;obtain⟨yv,hy,ry⟩:=Hr gd.N r.slot hg ht;rw[ry.fr.bool]at hy;split at h
     .rename_i W;obtain⟨G,F1,H1,B,C,a1,a2,a3,a4⟩:=u ro T L st o st' h J ν Z F H y r j;refine⟨G,F1,H1,B,C,λq D=>?_,a2,a3,a4⟩
      simp[exec,hy,W];exact a1 q D
     rename_i W;obtain⟨G,F1,H1,B,C,a1,a2,a3,a4⟩:=I ro cb (by assumption) st o st' h J ν Z F H y r j
     refine⟨G,F1,H1,B,C,λq D=>?_,a2,a3,a4⟩
     simp[exec,hy,W];exact a1 q D
    simp at h
   simp at hc
  | region id ops w=>
   simp[bR]at hc;split at hc
   .split at hc
    .obtain⟨_,_,e⟩:=ζf.1 hc;cases e
    simp at hc
   obtain⟨_,_,e⟩:=ζf.1 hc;cases e
  | seq a b=>simp[bR]at hc;split at hc <;> simp at hc
  | block id b=>simp only[bR]at hc;obtain⟨_,_,e⟩:=ζf.1 hc;cases e
  | loop b=>simp only[bR]at hc;obtain⟨_,_,e⟩:=ζf.1 hc;cases e
  | rangeFunc g ps O Q=>
   simp only[bR]at hc;split at hc
   .simp at hc
   split at hc <;> simp at hc
  | _=>simp[bR]at hc
 | block id a u=>
  intro ro code hc;simp[erase]at hc
  cases code with
  | block ab T=>
   simp only[bR]at hc;obtain⟨xa,L,e⟩:=ζf.1 hc;simp[RC.block.injEq]at e;obtain⟨rfl,rfl⟩:=e;intro st o st' h J ν Z F H y r j;simp[cN]at h;split at h
   .rename_i ad z U;obtain⟨G,F1,H1,B,C,a1,a2,a3,a4⟩:=u ro T L st (.exit ad) z U J ν Z F H y r j;split at h
    .rename_i e;simp  at h;obtain⟨rfl,rfl⟩:=h;refine⟨G,F1,H1,B,C,λq D=>?_,a2,a3,a4⟩
     simp[exec,a1 q D,if_pos e]
    rename_i e;simp  at h;obtain⟨rfl,rfl⟩:=h;refine⟨G,F1,H1,B,C,λq D=>?_,a2,a3,a4⟩
    simp[exec,a1 q D,if_neg e]
   rename_i U;obtain⟨G,F1,H1,B,C,a1,a2,a3,a4⟩:=u ro T L st o st' h J ν Z F H y r j;refine⟨G,F1,H1,B,C,λq D=>?_,a2,a3,a4⟩
   simp[exec,a1 q D];cases o <;> first|exact absurd h (U _ st')|rfl
  | region id ops w=>
   simp[bR]at hc;split at hc
   .split at hc
    .obtain⟨_,_,e⟩:=ζf.1 hc;cases e
    simp at hc
   obtain⟨_,_,e⟩:=ζf.1 hc;cases e
  | seq a b=>simp[bR]at hc;split at hc <;> simp at hc
  | cond x a b=>simp[bR]at hc;split at hc <;> simp at hc
  | loop b=>simp only[bR]at hc;obtain⟨_,_,e⟩:=ζf.1 hc;cases e
  | rangeFunc g ps O Q=>
   simp only[bR]at hc;split at hc
   .simp at hc
   split at hc <;> simp at hc
  | _=>simp[bR]at hc
 | loop a u=>
  intro ro code hc;simp[erase]at hc
  cases code with
  | loop T=>
   simp only[bR]at hc;obtain⟨xa,L,e⟩:=ζf.1 hc;simp[RC.loop.injEq]at e;subst e;have:=Xo (u ro T L);intro st o st' h;simp[cN]at h;exact this st o st' h
  | region id ops w=>
   simp[bR]at hc;split at hc
   .split at hc
    .obtain⟨_,_,e⟩:=ζf.1 hc;cases e
    simp at hc
   obtain⟨_,_,e⟩:=ζf.1 hc;cases e
  | seq a b=>simp[bR]at hc;split at hc <;> simp at hc
  | cond x a b=>simp[bR]at hc;split at hc <;> simp at hc
  | block id b=>simp only[bR]at hc;obtain⟨_,_,e⟩:=ζf.1 hc;cases e
  | rangeFunc g ps O Q=>
   simp only[bR]at hc;split at hc
   .simp at hc
   split at hc <;> simp at hc
  | _=>simp[bR]at hc
 | each x ps a b u I=>
  intro ro code hc;simp[erase]at hc
  cases code with
  | rangeFunc g af O Q=>
   simp only[bR]at hc;split at hc
   .simp at hc
   rename_i Y;simp only[Bool.or_eq_true,not_or,Bool.not_eq_true,Bool.not_eq_false']at Y;obtain⟨rfl,ae⟩:=Y;split at hc
   next xg xa xb hg L W=>simp[RC.each.injEq]at hc;obtain⟨rfl,rfl,rfl,rfl⟩:=hc;have:=YL gd hI ae hg (u true O L) (I true Q W);intro st o st' h;simp only[cN]at h;exact this st o st' h
   simp at hc
  | region id ops w=>
   simp only[bR]at hc;split at hc
   .split at hc
    .obtain⟨_,_,e⟩:=ζf.1 hc;cases e
    simp at hc
   obtain⟨_,_,e⟩:=ζf.1 hc;cases e
  | seq a b=>simp only[bR]at hc;split at hc <;> simp at hc
  | cond x a b=>simp only[bR]at hc;split at hc <;> simp at hc
  | block id b=>simp only[bR]at hc;obtain⟨_,_,e⟩:=ζf.1 hc;cases e
  | loop b=>simp only[bR]at hc;obtain⟨_,_,e⟩:=ζf.1 hc;cases e
  | _=>simp[bR]at hc
 | exit id=>
  intro ro code hc st o st' h J ν Z F H y r j;simp only[cN,ζa,ζc]at h;obtain⟨rfl,rfl⟩:=h;simp only[erase]at hc;have:∀k,exec S.E (run S.E k) k ro X.nt code F H=some (.exit id,F,H):=λk=>by
   cases code with
   | exit ab=>simp only[bR,ζa,RC.exit.injEq]at hc;subst hc;rfl
   | region id ops w=>
    simp only[bR]at hc;split at hc
    .split at hc
     .obtain⟨_,_,e⟩:=ζf.1 hc;cases e
     simp at hc
    obtain⟨_,_,e⟩:=ζf.1 hc;cases e
   | seq a b=>simp only[bR]at hc;split at hc <;> simp at hc
   | cond x a b=>simp only[bR]at hc;split at hc <;> simp at hc
   | block id b=>simp only[bR]at hc;obtain⟨_,_,e⟩:=ζf.1 hc;cases e
   | loop b=>simp only[bR]at hc;obtain⟨_,_,e⟩:=ζf.1 hc;cases e
   | rangeFunc g ps O Q=>
    simp only[bR]at hc;split at hc
    .simp at hc
    split at hc <;> simp at hc
   | _=>simp[bR]at hc
  exact⟨0,F,H,ν,Z,λk _=>this k,r,j,.refl⟩
 | ret=>
  intro ro code hc st o st' h J ν Z F H y r j;simp only[cN,ζa,ζc]at h;obtain⟨rfl,rfl⟩:=h;simp only[erase]at hc;have:∀k,exec S.E (run S.E k) k ro X.nt code F H=some (.ret,F,H):=λk=>by
   cases code with
   | ret=>rfl
   | region id ops w=>
    simp only[bR]at hc;split at hc
    .split at hc
     .obtain⟨_,_,e⟩:=ζf.1 hc;cases e
     simp at hc
    obtain⟨_,_,e⟩:=ζf.1 hc;cases e
   | seq a b=>simp only[bR]at hc;split at hc <;> simp at hc
   | cond x a b=>simp only[bR]at hc;split at hc <;> simp at hc
   | block id b=>simp only[bR]at hc;obtain⟨_,_,e⟩:=ζf.1 hc;cases e
   | loop b=>simp only[bR]at hc;obtain⟨_,_,e⟩:=ζf.1 hc;cases e
   | rangeFunc g ps O Q=>
    simp only[bR]at hc;split at hc
    .simp at hc
    split at hc <;> simp at hc
   | _=>simp[bR]at hc
  exact⟨0,F,H,ν,Z,λk _=>this k,r,j,.refl⟩
 | gh x a u=>
  intro ro code hc;simp only[erase]at hc;intro st o st' h J ν Z F H y r j;simp only[cN]at h;obtain⟨z,h1,h2⟩:=ζg.1 h;obtain⟨B,C,g1,g2,g3⟩:=Fix.ghost r y j h1;obtain⟨n,F',H',ν',Z',e1,e2,e3,e4⟩:=u ro code hc z o st' h2 J B C F H (by rw[g3.more,g3.yid];exact y) g1 g2
  exact⟨n,F',H',ν',Z',e1,e2,e3,g3.trans e4⟩
 | hg a x u=>
  intro ro code hc;simp only[erase]at hc;intro st o st' h J ν Z F H y r j;simp only[cN]at h;split at h
  .rename_i z U;obtain⟨st2,h1,e⟩:=ζf.1 h;simp only[ζc]at e;obtain⟨rfl,rfl⟩:=e;obtain⟨n,F',H',ν',Z',e1,e2,e3,e4⟩:=u ro code hc st .norm z U J ν Z F H y r j;obtain⟨B,C,g1,g2,g3⟩:=Fix.ghost e2 (by rw[e4.more,e4.yid];exact y) e3 h1
   exact⟨n,F',H',B,C,e1,g1,g2,e4.trans g3⟩
  exact u ro code hc st o st' h J ν Z F H y r j
end
end Go.VE
namespace Go.VE
variable[bX]
abbrev sQ:=FuncId->aY RF
def Cp(E:Env)(f:Y')(az:So)(y:V):Prop:=∃n z H' Z,run E n (.fn f) az []=some (z,H')/\FR H' Z y z/\(∀id,Z id->(bu H' id).isSome=true)/\Deep H' Z
structure s_(S:Sys)(T:sQ):Prop where
 fn:∀f rf,T f=some rf->∃fi nm,S.E.ft f=some fi/\(∀g s,nm g=some s->S.N s=g)/\zL S.E nm fi rf
 zu:∀f az y,S.zu f az=some y->Cp S.E f az y
 prm:∀f q,S.prm f=some q->pV S.E f q
def T9(S:Sys)(f:Y')(svs:SW)(B:dM):aY (SW×dM):=
 if S.E.keep f then none else match dA svs,B with
  |some az,[]=>(S.zu f az).map λy=>([.v y],[])|_,_=>none
def n9(S:Sys)(T:sQ):Nat->cn
 |0=>λ_ _ _=>none|n+1=>λf svs B=>match T f with
  |some rf=>o8 S (n9 S T n) rf svs B|none=>T9 S f svs B
section
variable{ν ν' ν2:Nu}{Z Z':Nat->Prop}{st st' st2:St}{m m':Tb bH}{F F':WP}{H H' H1:bn}{S:Sys}{c c':cn}{X:CX}{J:JT}{T:sQ}
def DT(r:R ν Z st F H){nm:Y'->aY Nat}:∀{B:aX ResultVar}{rs:aX RV}{l:SW},B.mapM (DF S.E)=some rs->mh st rs=some l->∃ys,jJ S.E F H B=some ys/\cq ν st.m H Z l ys
 |[],rs,l,hc,h=>by simp at hc;subst hc;simp[mh]at h;subst h;exact⟨[],rfl,.nil⟩|rv::B,rs,l,hc,h=>by simp[ζg]at hc;obtain⟨x,D,ys,G,rfl⟩:=hc;cases rv with|tmp t=>simp[DF]at D;subst D;simp[mh]at h;split at h;(next v I b u=>simp at h;subst h;have⟨w,e1,e2⟩:=DT r (nm:=nm) G u;exact⟨get F t::w,by simp[jJ,e1],.cons (r.slot t v b) e2⟩);grind|cell a t=>simp[DF]at D;obtain⟨d,hd,rfl⟩:=D;simp[mh]at h;split at h;rename_i v I b u;simp at h;subst h;have⟨p,J,b⟩:=ζg.1 b;have⟨w,e1,e2⟩:=DT r (nm:=nm) G u;have⟨y,g1,g2⟩:=yX (λs a e=>by cases e) (λkk z ok e=>by cases e) (cq.cons (r.slot a p J) .nil) (λL _ ob C=>r.obj L ob C) b;simp[eE]at g1;exact⟨y::w,by simp[jJ,hd,e1,g1],.cons g2 e2⟩;grind
def MW(G:∀f q,S.prm f=some q->pV S.E f q)(j:kI S c)(J:∀f a b xs,S.items f a b=some xs->eW S f a b xs){f:Y'}{fi:FI}{nm:Y'->aY Nat}{rf:RF}(D:S.E.ft f=some fi)(U:∀g s,nm g=some s->S.N s=g)(k:zL S.E nm fi rf)
 {svs:SW}{B:dM}{rs:SW}{m1:dM}(h:o8 S c rf svs B=some (rs,m1)){args:So}(r:R ν Z (start svs B) args H)(W:cq ν B H Z svs args):
 ∃n y H' ν' Z' st' F' ys,run S.E n (.fn f) args H=some (y,H')/\y=result ys/\st'.m=m1/\cq ν' m1 H' Z' rs ys/\R ν' Z' st' F' H'/\Ev (λ_=>False) ν Z (start svs B) H ν' Z' st' H':=by
 have⟨m,z,C⟩:=k;unfold o8 at h;split at h
 .have key:∀o st',cN S c rf.body (start svs B)=some (o,st')->(∀id,o≠.exit id)->(mh st' rf.rs).map (λrs=>(rs,st'.m))=some (rs,m1)->
   ∃n y H' ν' Z' st' F' ys,run S.E n (.fn f) args H=some (y,H')/\y=result ys/\st'.m=m1/\cq ν' m1 H' Z' rs ys/\R ν' Z' st' F' H'/\Ev (λ_=>False) ν Z (start svs B) H ν' Z' st' H':=λo st' I t w=>by
   have⟨l,d,e⟩:=ζf.1 w;obtain⟨rfl,rfl⟩:=e;have⟨n,F',H',ν',Z',e1,e2,e3,e4⟩:=Od ⟨rfl,U,G⟩ j J rf.body false fi.body m _ _ _ I (xq (gE ν (start svs B).m) Z H) ν Z args H xq.yc r (xq.refl r);have⟨ys,p1,p2⟩:=DT (nm:=nm) e2 z d;have⟨_,L,O,Q,T,X⟩:=e3;refine⟨n+1,result ys,H',ν',Z',st',F',ys,?_,rfl,rfl,p2,e2,⟨L,λi d Y p _=>O i d Y p,Q,λi h=>(T i h).imp (λh=>h) .inr,λi h=>(X i h).imp (λh=>h) (.imp (λh=>h) .inr),e4.pin,e4.pins⟩⟩
   have u:args.length<=fi.ntmps:=by rw[<-W.1,<-C];omega
   simp[run,lN,D,if_pos u,e1 n (Nat.le_refl _)]
   grind
  grind
 grind
def FR.emp{x y:V}(G:∀id,¬Z id)(r:FR H Z x y):x=y:=by
 have B:∀{a w:So},a.length=w.length->(∀(j:Nat)u v,a[j]?=some u->w[j]?=some v->u=v)->a=w:=λ{a w}h1 z=>by apply List.ext_getElem h1;intro i p q;exact z i _ _ (ζd p) (ζd q)
 induction r with|same x h=>rfl|fsl es C id off D h=>grind|fptr C id el off es D cs h=>grind|clo f a b w I h1 z _ _ i1 i2=>rw[B h1 i1,B z i2]|agg a w h1 _ i1=>grind|tup a w h1 _ i1=>grind
def cq.emp(B:∀id,¬Z id):∀{xs ys:So},cq ν m H Z (xs.map .v) ys->xs=ys
 |[],ys,h=>h.dh.symm|x::xs,ys,h=>by obtain⟨y,ys,rfl,a,D⟩:=h.inv;rw[FR.emp B a.fr,cq.emp B D]
def Ee(B:s_ S T)(U:∀f a b xs,S.items f a b=some xs->eW S f a b xs):∀n,kI S (n9 S T n)
 |0=>λf svs Y rs m1 h=>by simp[n9]at h|n+1=>λf svs Y rs m1 h ν Z args H W r D=>by simp[n9]at h;split at h;(next rf G=>have⟨fi,nm,c,g,i⟩:=B.fn f rf G;exact MW B.prm (Ee B U n) U c g i h r D);unfold T9 at h;split at h;simp_all;split at h;rename_i az O;have⟨y,Q,e⟩:=ζf.1 h;obtain⟨rfl,rfl⟩:=e;have⟨k,z,H',X,w,C,I,kO⟩:=B.zu f az y Q;rcases W with W|rfl;grind;have L:∀id,¬Z id:=λid J=>(by have:=r.zrow id J;simp[bu]at this);have u:=(by rw[xB O]at D;exact(cq.emp L D).symm);subst u;refine⟨k,z,H',λ_=>(0,0),X,⟨[],[],[],[],true,0⟩,[],[z],w,rfl,rfl,cq.cons (.v y z C) .nil,?_,?_⟩;exact⟨λs sv h=>by simp[bl]at h,λd ob h=>by simp[bl]at h,λd j ob l h=>by simp[bl]at h,λd ob h=>by simp[bl]at h,I,kO⟩;exact⟨Nat.zero_le _,λid h=>Zad,λid h=>absurd h (L id),λid h=>Zac,λid h=>.inr (.inr (.inr (Nat.zero_le _))),λd h=>by simp[start]at h,rfl⟩;grind
abbrev Qu:=aX ((FuncId×aX SV×dM)×(aX SV×dM))
def GW(c:cn)(L:Qu):Prop:=∀p∈L,c p.1.1 p.1.2.1 p.1.2.2=some p.2
def Fin{α:Type}(c:cn)(f:cn->aY α)(r:α):Prop:=∃L:Qu,GW c L/\∀c',GW c' L->f c'=some r
def Fin.pure{α:Type}{f:cn->aY α}{r:α}(h:∀c',f c'=some r):Fin c f r:=⟨[],λp u=>Zad,λc' _=>h c'⟩
def Fin.bind{α β:Type}{f:cn->aY α}{r:α}{g:cn->aY β}{q:β}(b:Fin c f r)(B:cn->α->aY β)(D:Fin c (λc=>B c r) q)(d:∀c',f c'=some r->g c'=B c' r):Fin c g q:=by have⟨L1,a1,w⟩:=b;have⟨L2,a2,z⟩:=D;refine⟨L1++L2,λp u=>(List.mem_append.1 u).elim (a1 p) (a2 p),λc' a=>?_⟩;rw[d c' (w c' λp u=>a p (List.mem_append_left _ u))];exact z c' λp u=>a p (List.mem_append_right _ u)
def Fin.call{f:Y'}{svs:SW}{B:dM}{r:SW×dM}(h:c f svs B=some r):Fin c (λc=>c f svs B) r:=⟨[((f,svs,B),r)],λp u=>Zac,λc' a=>a ((f,svs,B),r) Zab⟩
def Jx{dst:aY Nat}{dr now:X'}{old:SW->X'}{f:Y'}{args:SW}{r:SV×St}(h:fT S c dst dr now old f args st=some r):Fin c (λc=>fT S c dst dr now old f args st) r:=by have b:=h;unfold fT at h;split at h;split at h;split at h;split at h;split at h;rename_i rs m' a;refine(Fin.call a).bind (λc' q=>fT S c dst dr now old f args st) (.pure λ_=>b) (λc' u=>?_);unfold fT;grind;grind;grind;rename_i w;split at h;rename_i q z;refine .pure λc'=>?_;unfold fT;simp_all;rename_i z;split at h;rename_i os D;split at h;rename_i rs m' a;refine(Fin.call a).bind (λc' q=>fT S c dst dr now old f args st) (.pure λ_=>b) (λc' u=>?_);unfold fT;clear h b;simp[*];grind;grind;split at h;split at h;split at h;rename_i rs m' a;refine(Fin.call a).bind (λc' q=>fT S c dst dr now old f args st) (.pure λ_=>b) (λc' u=>?_);unfold fT;simp_all;grind;grind;grind;rename_i d;split at h;rename_i az B;split at h;rename_i C;split at h;rename_i rs m' a;refine(Fin.call a).bind (λc' q=>fT S c dst dr now old f args st) (.pure λ_=>b) (λc' u=>?_);unfold fT;simp[d,B,C,a,u];grind;grind;grind
def XT{dr:X'}{fr:ST}{o:RO}{r:SV×St}(h:og S c dr fr o st=some r):Fin c (λc=>og S c dr fr o st) r:=by have d:=h;unfold og at h;split at h;rename_i z u;split at h;refine .pure λc'=>?_;have a:=d;unfold og at a⊢;rename_i b;simp only[u,b]at a⊢;exact a;refine .pure λc'=>?_;have a:=d;unfold og at a⊢;rename_i B b;simp only[u,b]at a⊢;exact a;refine .pure λc'=>?_;have a:=d;unfold og at a⊢;rename_i b;simp only[u,b]at a⊢;exact a;refine .pure λc'=>?_;have a:=d;unfold og at a⊢;rename_i b;simp only[u,b]at a⊢;exact a;refine .pure λc'=>?_;have a:=d;unfold og at a⊢;rename_i b;simp only[u,b]at a⊢;exact a;rename_i b;split at h;refine(Jx h).bind (λ_ q=>some q) (.pure λ_=>rfl) (λc' w=>?_);unfold og;simp only[u,b,w];refine(Jx h).bind (λ_ q=>some q) (.pure λ_=>rfl) (λc' w=>?_);unfold og;simp only[u,b,w];simp at h;refine .pure λc'=>?_;have a:=d;unfold og at a⊢;rename_i b;simp only[u,b]at a⊢;exact a;refine .pure λc'=>?_;have a:=d;unfold og at a⊢;rename_i b;simp only[u,b]at a⊢;exact a;simp at h
def YT{dr:X'}{fr:ST}{o:RO}{r:St}(h:gz S c dr fr o st=some r):Fin c (λc=>gz S c dr fr o st) r:=by unfold gz at h;split at h;split at h;refine .pure λc'=>?_;unfold gz;grind;have⟨q,u,e⟩:=ζf.1 h;refine(XT u).bind (λ_ q=>some (cV q.2 o.dst q.1)) (.pure λ_=>Zad) (λc' w=>?_);unfold gz;grind;refine .pure λc'=>?_;unfold gz;grind;grind
def Ey{dr:X'}:∀{l:R0}{fr:ST}{st r:St},pN S c dr fr l st=some r->Fin c (λc=>pN S c dr fr l st) r
 |[],fr,st,r,h=>.pure λ_=>h|o::l,fr,st,r,h=>by simp[pN]at h;split at h;(next D B=>have⟨G,a,B⟩:=ζg.1 B;exact(YT B).bind (λc' q=>pN S c' dr (if dr then tM fr o.strip else fr) l (rZ o.dead q)) (Ey h) (λc' u=>by simp[pN,a,u]));grind
def IG{f:cn->St->aY (Out×St)}(D:∀st r,f c st=some r->Fin c (λc=>f c st) r):∀{k:Nat}{st:St}{r:Out×St},kP (f c) k st=some r->Fin c (λc=>kP (f c) k st) r
 |0,st,r,h=>by simp[kP]at h|k+1,st,r,h=>by simp[kP]at h;split at h;(next G J=>exact(D st _ J).bind (λc' q=>kP (f c') k G) (IG D h) (λc' B=>by simp[kP,B]));refine(D st r h).bind (λ_ q=>some q) (.pure λ_=>rfl) (λc' B=>?_);simp[kP,B];grind
def Ie{f:cn->So->Tb bH->aY (Out×Tb bH)}(D:∀x m r,f c x m=some r->Fin c (λc=>f c x m) r):∀{xs:S'}{m:Tb bH}{r:Out×Tb bH},tD (f c) xs m=some r->Fin c (λc=>tD (f c) xs m) r
 |[],m,r,h=>.pure λ_=>h|x::xs,m,r,h=>by simp[tD]at h;split at h;(next m1 G=>exact(D x m _ G).bind (λc' q=>tD (f c') xs m1) (Ie D h) (λc' B=>by simp[tD,B]));refine(D x m r h).bind (λ_ q=>some q) (.pure λ_=>rfl) (λc' B=>?_);simp[tD,B];grind
def RN:∀{d:RC}{st:St}{r:Out×St},cN S c d st=some r->Fin c (λc=>cN S c d st) r:=by intro d;induction d with|skip=>exactλh=>.pure λ_=>h|exit id=>exactλh=>.pure λ_=>h|ret=>exactλh=>.pure λ_=>h|ops l=>intro st r h;simp only[cN]at h⊢;have⟨q,G,e⟩:=ζf.1 h;exact(Ey G).bind (λ_ q=>some (.norm,q)) (.pure λ_=>Zad) (λc' w=>Zac)|sq l=>intro st r h;simp only[cN]at h⊢;have⟨q,G,e⟩:=ζf.1 h;exact(Ey G).bind (λ_ q=>some (.norm,q)) (.pure λ_=>Zad) (λc' w=>Zac)|seq a b u C=>intro st r h;simp[cN]at h⊢;split at h;(next B D=>exact(u D).bind (λc' q=>cN S c' b B) (C h) (λc' w=>Zac));rename_i D;refine(u h).bind (λ_ q=>some q) (.pure λ_=>rfl) (λc' w=>?_);grind|cond x a b u C=>intro st r h;simp[cN]at h⊢;grind|block id a u=>intro st r h;simp[cN]at h⊢;split at h;(next I B D=>exact(u D).bind (λc' q=>if I=id then some (.norm,B)else some (.exit I,B)) (.pure λ_=>h) (λc' w=>Zac));refine(u h).bind (λ_ q=>some q) (.pure λ_=>rfl) (λc' w=>?_);grind|loop a u=>intro st r h;have⟨k,j⟩:=pe.1 h;refine(IG (λst r h=>u h) j).bind (λ_ q=>some q) (.pure λ_=>rfl) (λc' w=>?_);exact pe.2 ⟨k,w⟩|each g ps a b u C=>intro st r h;simp only[cN]at h⊢;split at h;split at h;have⟨q,G,e⟩:=ζf.1 h;refine(Ie (f:=λc=>j7 ps (cN S c a) (cN S c b) st) (λz m r h=>?_) G).bind (λ_ q=>some (q.1,{st with m:=q.2})) (.pure λ_=>Zad) (λc' w=>Zac);unfold j7 at h;split at h;split at h;rename_i B i;have⟨L,J,e2⟩:=ζf.1 h;refine(u i).bind (λc' q=>(cN S c' b B).map λ(o,st2)=>(o,st2.m)) ((C J).bind (λ_ q=>some (q.1,q.2.m)) (.pure λ_=>Zad) (λc' w=>Zac)) (λc' w=>?_);unfold j7;grind;grind;grind;grind;grind|gh x a u=>intro st r h;simp[cN]at h⊢;have⟨B,i,O⟩:=ζg.1 h;grind|hg a x u=>intro st r h;simp[cN]at h⊢;split at h;(next B D=>exact(u D).bind (λc' q=>(ghost x B).map λst=>(.norm,st)) (.pure λ_=>h) (λc' w=>Zac));refine(u h).bind (λ_ q=>some q) (.pure λ_=>rfl) (λc' w=>?_);grind
def BZ{rf:RF}{svs:SW}{B:dM}{r:SW×dM}(h:o8 S c rf svs B=some r):Fin c (λc=>o8 S c rf svs B) r:=by have a:=h;unfold o8 at h;split at h;split at h;simp_all;rename_i o st u w;refine(RN w).bind (λc' q=>o8 S c rf svs B) (.pure λ_=>a) (λc' z=>?_);unfold o8;grind;grind;grind
def GS:∀{n:Nat}{f:Y'}{svs:SW}{B:dM}{r:SW×dM},n9 S T n f svs B=some r->n9 S T (n+1) f svs B=some r
 |0,f,svs,B,r,h=>by simp[n9]at h|n+1,f,svs,B,r,h=>by simp[n9]at h;rw[n9];split at h;(next rf D=>have⟨L,a,G⟩:=BZ h;simp[D];exact G _ λp u=>GS (a p u));grind
def EY{n k:Nat}(h:n<=k){f:Y'}{svs:SW}{B:dM}{r:SW×dM}(D:n9 S T n f svs B=some r):n9 S T k f svs B=some r:=by induction h with|refl=>omega|step _ u=>exact GS u
open Classical in
def dm(S:Sys)(T:sQ):cn:=λf u w=>if h:∃n r,n9 S T n f u w=some r then some (Classical.choose (choose_spec h))else none
def uN{f:Y'}{svs:SW}{B:dM}{r:SW×dM}:dm S T f svs B=some r↔∃n,n9 S T n f svs B=some r:=by unfold dm;constructor;intro h;split at h;grind;grind;rintro⟨k,a⟩;have u:∃n r,n9 S T n f svs B=some r:=⟨k,r,a⟩;have w:=choose_spec (choose_spec u);have z:=EY (Nat.le_max_left (Classical.choose u) k) w;have C:=EY (Nat.le_max_right (Classical.choose u) k) a;grind
def PA{L:Qu}(h:GW (dm S T) L):∃n,∀k,n<=k->GW (n9 S T k) L:=by induction L with|nil=>exact⟨0,λk _ p hp=>Zad⟩|cons q L u=>have⟨w,b⟩:=uN.1 (h q Zab);have⟨z,B⟩:=u λp hp=>h p (List.mem_cons_of_mem _ hp);refine⟨max w z,λk a p hp=>?_⟩;rcases List.mem_cons.1 hp with rfl|hp;exact EY (Nat.le_trans (Nat.le_max_left _ _) a) b;exact B k (Nat.le_trans (Nat.le_max_right _ _) a) p hp
def H7{f:Y'}{az:So}{y:V}(B:T f=none)(b:S.E.keep f=false)(h:S.zu f az=some y):dm S T f (az.map .v) []=some ([.v y],[]):=by
 refine uN.2 ⟨1,?_⟩;have u:dA (az.map .v)=some az:=by clear h;induction az with|nil=>rfl|cons a l w=>simp only[List.map_cons,dA,w];rfl
 simp only[n9,B,T9,b,u,h];rfl
def uA{f:Y'}{rf:RF}(D:T f=some rf)(svs:SW)(B:dM):dm S T f svs B=o8 S (dm S T) rf svs B:=by cases h:o8 S (dm S T) rf svs B with|some r=>have⟨L,a,w⟩:=BZ h;have⟨n,u⟩:=PA a;refine uN.2 ⟨n+1,?_⟩;simp[n9,D];grind|none=>cases w:dm S T f svs B with|none=>rfl|some r=>have⟨n,u⟩:=uN.1 w;cases n with|zero=>simp[n9]at u|succ n=>simp[n9,D]at u;have⟨L,z,C⟩:=BZ u;have I:=C (dm S T) λp G=>uN.2 ⟨n,z p G⟩;grind
def wP(B:s_ S T)(D:∀f a b xs,S.items f a b=some xs->eW S f a b xs):kI S (dm S T):=λf u w rs z h=>by have⟨n,C⟩:=uN.1 h;exact Ee B D n f u w rs z C
def NV(W:∀f q,S.prm f=some q->pV S.E f q)(l:kI S c){f:Y'}{fi:FI}{nm:Y'->aY Nat}{rf:RF}(Y:∀f a b xs,S.items f a b=some xs->eW S f a b xs)(D:S.E.ft f=some fi)(p:∀g s,nm g=some s->S.N s=g)(t:zL S.E nm fi rf){a b:So}{xs:S'}
 (U:a.length+1+b.length<=rf.na)(G:rf.rs=[])
 (h:∀B more,(more=true/\B=xs\/more=false/\B≠[]/\∃r,xs=B++r)->∀yid,∃o st',cN S c rf.body {g:=xP 0 (a.map .v++.yl yid::b.map .v),m:=[],pin:=[],want:=B,more:=more,yid:=yid}=some (o,st')/\(∀id,o≠.exit id)/\st'.want=[]/\st'.m=st'.m):
 eW S f a b xs:=by
 intro B more O yid J y Z z C H Q T X hd j;have⟨o,st',v,F,x,_⟩:=h B more O yid;have⟨A,w,I⟩:=t;have L:cq (λ_=>(0,0)) [] H Z (a.map .v++.yl yid::b.map .v) (z++.yld yid::C):=(cq.ud Q).append (.cons (.yl yid) (cq.ud T))
 have E:R (λ_=>(0,0)) Z {g:=xP 0 (a.map .v++.yl yid::b.map .v),m:=[],pin:=[],want:=B,more:=more,yid:=yid} (z++.yld yid::C) H:=⟨Af L,λd ob h=>by simp[bl]at h,λd K ob M h=>by simp[bl]at h,λd ob h=>by simp[bl]at h,X,hd⟩
 have⟨n,F',H',ν',Z',e1,e2,e3,e4⟩:=Od ⟨rfl,p,W⟩ l Y rf.body false fi.body A _ _ _ v J _ Z _ H y E (by
  refine y.zl _ _ _ _ _ _ _ j (Nat.le_refl _) (λ_ _ _ _=>rfl) (λi e=>⟨e,rfl⟩) (λi e=>?_) (λi e=>.inl e)
  have⟨d,ob,h,_⟩:=e;simp[bl]at h)
 rw[x]at e3;rw[G]at w;have⟨ys,p1,p2⟩:=DT (nm:=nm) e2 w rfl;refine⟨n+1,result ys,H',_,Z',λk N=>?_,e3⟩
 have u:(z++V.yld yid::C).length<=fi.ntmps:=by rw[<-L.1,<-I];simp;omega
 cases k with
 |zero=>omega|succ k=>
  simp[run,lN,D,if_pos u,e1 k Zaa]
  grind
def Xf(B:s_ S T)(D:∀f a b xs,S.items f a b=some xs->eW S f a b xs){f:Y'}{az:So}(d:V.cG az=true){y:V}{m':dM}(h:dm S T f (az.map .v) []=some ([.v y],m'))(G:y.scalar=true):
 ∃n H',run S.E n (.fn f) az []=some (y,H'):=by
 have⟨u,r1⟩:=zT d;obtain⟨n,I,H2,ν',Z',st',F',w,c,rfl,J,C,L,_⟩:=wP B D f _ _ _ _ h _ _ az [] (.inr rfl) u r1;obtain⟨z,w,rfl,e1,e2⟩:=C.inv;rw[e2.dh]at c;have:=(e1.fr.scalar).1 G;subst this;exact⟨n,H2,c⟩
end
end Go.VE
