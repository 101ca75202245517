/-
 The second layer: named objects in the place of rows; texts, calls, iterators.
-/
import Derived.Test.YtlmckmkfopljoaaGreatDoorN1
set_option linter.all false
open Nat(le_max_left le_max_right le_refl le_trans)
open Classical(choose_spec)
namespace Go.VE
variable[b_]
section
variable{ν ν' ν2:Nu}{Z Z':Nat->Prop}{st st' st2:St}{m m':Tb bP}{F F':WP}{H H' H1:bq}{S:Sys}{c:cm}{X:CX}{J:JT}
def PF(gd:Good X S)(m:jV S c){ro:X'}{id:Nat}{ops:Array Oper}{l:ST}(p:mw X true ops.toList 0 ops.toList=some (l.map RO.strip))(hd:(xR ops.toList&&Bq ops.toList)=true):
 uz X S ro (.region id ops true) (λst=>(oB S c true [] l st).map λst=>(.norm,st)):=by
 intro st o st' h J ν Z F H y r j;have⟨G,f,e⟩:=ζf.1 h;simp only[ζc]at e;obtain⟨rfl,rfl⟩:=e;generalize w:(if s8 ops.toList then H++List.replicate ops.toList.length .free else H)=H0;generalize g:(if s8 ops.toList then ops.toList.length else 0)=k;have u:∀i,i<H.length->H0[i]?=H[i]?:=λi a=>by rw[<-w];split;exact List.getElem?_append_left a;rfl
 have z:H.length<=H0.length:=by rw[<-w];split<;>simp
 have I:R ν Z st F H0:=r.heap (λi a=>u i (r.lt a)) (λi a=>by unfold bz;rw[u i (r.xH a)])
 have B:∀q,0<=q->q<k->H0[H.length+q]?=some .free:=λq _ C=>by rw[<-g]at C;split at C;rename_i D;rw[<-w,if_pos D,List.getElem?_append_right Zaa];simp only[Nat.add_sub_cancel_left];rw[List.getElem?_replicate,if_pos C];omega
 have⟨n,F',H',ν',e1,e2,e3,e4,e5⟩:=Pt gd m (ops:=ops.toList) (b:=H.length) (k:=k) (λD=>by rw[<-g,if_pos D]) ops.toList.length (i:=0) (fr:=[]) Zaa (by simpa using p) f I z
  ⟨λd ob hd L _=>r.lt ⟨d,ob,hd,L,rfl⟩,λi a=>r.xH a⟩ B
 refine⟨n,F',H',ν',Z,λq C=>?_,e2,?_,e5⟩
 .simp only[exec,kF,if_true,hd,ζf,ζc,true_and];refine⟨(F',H'),?_,rfl,rfl⟩;rw[w];have:=e1 q C;rw[List.range_eq_range'];exact this
 rw[e4];refine y.xM _ _ _ _ _ _ _ j (le_trans z e3.len) (λi f O Q=>by rw[e3.same i Zaa O Q Zaa,u i f]) (λi a=>⟨a,by rw[(e3.rows i a).2];unfold bz;rw[u i (r.xH a)]⟩) (λi a=>?_) (λi a=>.inl a)
 rcases e3.own i a with h|h|h
 .exact .inl h
 .exact .inr h
 exact .inr Zaa
def Wd{ro:X'}{code:Code}{f:St->a_ (Out×St)}(U:uz X S ro code f):uz X S ro (.loop code) (p8 f):=by
 intro st o st' h J ν Z F H y r j;have⟨k,a⟩:=oa.1 h;have key:∀k st ν Z F H,kn f k st=some (o,st')->Yc S J st.more st.yid->R ν Z st F H->J st.want (gq ν st.m) Z H->
  ∃n F' H' ν' Z',(∀q,n<=q->∀u,k<=u->lW (exec S.E (run S.E q) q ro X.nt code) u F H=some (o,F',H'))/\R ν' Z' st' F' H'/\J st'.want (gq ν' st'.m) Z' H'/\Fix ν st ν' st':=by
  intro k
  induction k with
  |zero=>intro st ν Z F H h;simp[kn]at h|succ k W=>
   intro st ν Z F H h y r j;simp only[kn]at h;split at h
   .rename_i z C;have⟨D,F1,H1,G,I,L,O,Q,B⟩:=U st .norm z C J ν Z F H y r j;have⟨Y,b,H2,ν2,Z2,c,d,g,i⟩:=W z G I F1 H1 h (by rw[B.more,B.yid];exact y) O Q
    refine⟨max D Y,b,H2,ν2,Z2,λq w u T=>?_,d,g,B.trans i⟩
    cases u with
    |zero=>omega|succ u=>simp only[lW,L q (le_trans (le_max_left _ _) w)];exact c q (le_trans (le_max_right _ _) w) u Zaa
   rename_i C;have⟨D,F1,H1,G,I,L,O,Q,B⟩:=U st o st' h J ν Z F H y r j;have l:o≠.norm:=λe=>by subst e;exact C st' h
   refine⟨D,F1,H1,G,I,λq w u T=>?_,O,Q,B⟩
   cases u with
   |zero=>omega|succ u=>simp only[lW,L q w];cases o<;>first|exact absurd rfl l|rfl
 have⟨n,F',H',ν',Z',e1,e2,e3,e4⟩:=key k st ν Z F H a y r j;refine⟨max n k,F',H',ν',Z',λq w=>?_,e2,e3,e4⟩;simp only[exec];exact e1 q (le_trans (le_max_left _ _) w) q (le_trans (le_max_right _ _) w)
def V5(gd:Good X S)(hI:∀f a b xs,S.items f a b=some xs->eF S f a b xs){g:UV}{ps:Array Tmp}{U W:Code}{x:Arg}{A B:St->a_ (Out×St)}
 (ab:ps.toList.all (·<X.nt)=true)(hx:qz X.nm g=some x)(hA:uz X S true U A)(hB:uz X S true W B):
 uz X S false (.rangeFunc g ps U W) (λst=>match si S.N st.g x with
 |some (.v (.clo f x y))=>match S.items f x y with
  |some xs=>(rR (jL ps.toList A B st) xs st.m).map λ(o,m)=>(o,{st with m:=m})|none=>none
 |_=>none):=by
 intro st o st' h J ν Z F H y r j;dsimp only at h;split at h
 .rename_i f a b ad;split at h
  .rename_i xs ae;have⟨⟨s,t⟩,hE,e⟩:=ζf.1 h;simp only[ζc]at e;obtain⟨rfl,rfl⟩:=e;have⟨yv,hy,ry⟩:=Fp gd.N r.slot hx ad;obtain⟨a',b',rfl,ra,rb⟩:=ry.fr.lq;have⟨P,more,Q,hR⟩:=Ej hE;generalize I:(⟨.ready,none,F,X.nt,ps.toList,U,W⟩:xd)=u;have z:∀i,i<H.length->(H++[Ob.loop u])[i]?=H[i]?:=λi c=>List.getElem?_append_left c
   have C:∀i,Z i->bz (H++[Ob.loop u]) i=bz H i:=λi c=>by unfold bz;rw[z i (r.xH c)]
   have r0:R ν Z (TY st st.m) F (H++[Ob.loop u]):=by have:=r.heap (H':=H++[Ob.loop u]) (λi c=>z i (r.lt c)) C;exact⟨this.slot,this.obj,this.inj,this.apart,this.zrow,this.deep⟩
   have D:∀i,Z i->Z i/\bz (H++[Ob.loop u]) i=bz H i:=λi c=>⟨c,C i c⟩
   have j0:JI X st F ν (gq ν st.m) Z H H.length ps.toList U W (jL ps.toList A B st) s t more P (λ_=>False) Z (H++[Ob.loop u]):=by refine⟨st.m,ν,Z,u,r0,⟨rfl,Zab,λi l _ _=>z i l,λi c=>⟨c,C i c⟩,λi c=>.inl c,λi c=>.inl c⟩,λi c=>c.elim,λi c=>⟨λv=>?_,Nat.ne_of_lt (r.xH c),.inl c⟩,λv=>absurd (r.lt v) Zab,λhz=>absurd (r.xH hz) Zab,le_refl _,Zab,?_,λd _ af h=>⟨af,h,rfl,.refl _⟩,.inl ⟨hR,?_,?_⟩⟩;obtain⟨d,ob,g1,g2,rfl⟩:=v;exact r.apart d ob g1 g2 c;subst I;exact⟨rfl,rfl,rfl,rfl,rfl⟩;subst I;rfl;subst I;rfl
   have ah:Yc S (JI X st F ν (gq ν st.m) Z H H.length ps.toList U W (jL ps.toList A B st) s t more) more H.length:=⟨λw O Z1 H1 O' Z' H' E l Y p K h5=>JI.xM E l Y p K h5,λx1 aj O Z1 H1 args E l Y p K=>JI.yield S hA hB ab E l Y p K⟩
   have⟨n,yy,H',O',Z',e1,e2⟩:=hI f a b xs ae P more Q H.length _ ah Z a' b' (H++[Ob.loop u]) (ra.mono D) (rb.mono D) (λi c=>by rw[C i c];exact r.zrow i c) (r.deep.mono C) j0
   have⟨m1,νb,V,M,r1,⟨_,k2,k3,N,k5,k6⟩,_,_,l1,l2,l3,l4,_,l6,l7⟩:=e2;have aa:m1=t/\(M.st=.ready\/M.st=.done)/\M.pend.getD .norm=s:=by rcases l7 with⟨g1,g2,g3⟩|⟨_,g1,g2,g3⟩;(cases g1 with|nil hn=>exact⟨rfl,.inl g2,by rw[g3,hn];rfl⟩);exact⟨g1,.inr g2,by rw[g3];rfl⟩
   obtain⟨rfl,k,T⟩:=aa;have ak:H.length<H'.length:=(ζe.1 l4).1;have G:∀i,i≠H.length->(H'.set H.length .dead)[i]?=H'[i]?:=λi ai=>by rw[List.getElem?_set,if_neg (Ne.symm ai)]
   have L:∀i,V i->bz (H'.set H.length .dead) i=bz H' i:=λi c=>by unfold bz;rw[G i λe=>l2 (e▸c)]
   have r2:=r1.heap (H':=H'.set H.length .dead) (λi c=>G i λe=>l1 (e▸c)) L
   refine⟨n,F,H'.set H.length .dead,νb,V,λq hq=>?_,⟨r2.slot,r2.obj,r2.inj,r2.apart,r2.zrow,r2.deep⟩,?_,⟨λd hd=>l6 d (List.mem_append_left _ hd),rfl,rfl,rfl⟩⟩
   .simp only[exec,hy];rw[I,e1 q hq];simp only[l4];rcases k with k|k<;>rw[k]<;>simp only[T]
   refine y.xM _ _ _ _ _ _ _ j (by simp only[List.length_set];omega) (λi l Y p=>by rw[G i Zaa,k3 i l Y p]) (λi c=>⟨(N i c).1,by rw[L i (N i c).1,(N i c).2]⟩) k5 k6
  simp at h
 simp at h
end
end Go.VE
namespace Go.VE
variable[b_]
def lI(st:St):aZ RV->a_ So
 |[]=>some []|.s n::r=>match bp st.g n,lI st r with
  |some x,some l=>some (x::l)|_,_=>none
 |.ld n size agg::r=>match(bp st.g n).bind λp=>qD st.m (.load size agg) [p],lI st r with
  |some x,some l=>some (x::l)|_,_=>none
noncomputable def ot(S:Sys)(c:cm)(rf:RF)(svs:So)(B:dK):a_ (So×dK):=
 if svs.length<=rf.na then
  match cR S c rf.body (start svs B)with
  |some (.exit _,_)=>none|some (_,st)=>(lI st rf.rs).map λrs=>(rs,st.m)|none=>none
 else none
def Cy(E:Env):ResultVar->a_ RV
 |.tmp t=>some (.s t)|.cell a t=>(E.tt t).map λd=>.ld a d.size d.agg
def yg(E:Env)(nm:Y'->a_ Nat)(fi:FI)(rf:RF):Prop:=bU ⟨E,nm,fi.ntmps⟩ false fi.body=some (erase rf.body)/\fi.results.mapM (Cy E)=some rf.rs/\rf.na=fi.ntmps
section
variable{ν ν' ν2:Nu}{Z Z':Nat->Prop}{st st' st2:St}{m m':Tb bP}{F F':WP}{H H' H1:bq}{S:Sys}{c:cm}{X:CX}{J:JT}
theorem LR (gd:Good X S) (hS:jV S c) (hI:∀f a b xs,S.items f a b=some xs->eF S f a b xs):∀(rc:RC) (ro:Bool) (code:Code),bU X ro code=some (erase rc)->uz X S ro code (cR S c rc):=by
 intro rc
 induction rc with
 | skip=>
  intro ro code hc st o st' h J ν Z F H y r j;obtain⟨rfl,rfl⟩:=h;simp[erase]at hc;have:∀k,exec S.E (run S.E k) k ro X.nt code F H=some (.norm,F,H):=λk=>by
   cases code with
   | skip=>rfl
   | label _=>rfl
   | region id ops w=>
    simp[bU]at hc;split at hc
    .simp_all
    simp_all
   | seq a b=>simp[bU]at hc;grind
   | cond x a b=>simp[bU]at hc;grind
   | block id b=>simp only[bU]at hc;simp_all
   | loop b=>simp only[bU]at hc;simp_all
   | rangeFunc g ps W Y=>
    simp[bU]at hc
    grind
   | _=>simp[bU]at hc
  exact⟨0,F,H,ν,Z,λk _=>this k,r,j,.refl⟩
 | ops l=>
  intro ro code hc;simp[erase]at hc
  cases code with
  | region id ops w=>
   simp[bU]at hc;split at hc
   .simp_all
   rename_i hd;obtain⟨l',hl,e⟩:=ζf.1 hc;cases e;intro st o st' h J ν Z F H y r j;obtain⟨z,h1,e⟩:=ζf.1 h;obtain⟨rfl,rfl⟩:=e;obtain⟨n,F',H',ν',Z',e1,e2,e3,e4⟩:=Qb gd hS _ hl h1 y r j;refine⟨n,F',H',ν',Z',λk hk=>?_,e2,e3,e4⟩
   simp[exec,kF,hd,e1 k hk]
  | seq a b=>simp[bU]at hc;grind
  | cond x a b=>simp[bU]at hc;grind
  | block id b=>simp only[bU]at hc;simp_all
  | loop b=>obtain⟨_,_,e⟩:=ζf.1 hc;cases e
  | rangeFunc g ps W Y=>
   simp only[bU]at hc;split at hc
   .simp at hc
   split at hc <;> simp at hc
  | _=>simp[bU]at hc
 | qB l=>
  intro ro code hc;simp[erase]at hc
  cases code with
  | region id ops w=>
   simp only[bU]at hc;split at hc
   .rename_i hd;subst hd;split at hc
    next ab=>obtain⟨l',hl,e⟩:=ζf.1 hc;cases e;have:=PF (ro:=ro) (id:=id) gd hS hl ab;intro st o st' h;exact this st o st' h
    simp at hc
   obtain⟨_,_,e⟩:=ζf.1 hc;cases e
  | seq a b=>simp[bU]at hc;split at hc <;> simp at hc
  | cond x a b=>simp[bU]at hc;split at hc <;> simp at hc
  | block id b=>obtain⟨_,_,e⟩:=ζf.1 hc;cases e
  | loop b=>obtain⟨_,_,e⟩:=ζf.1 hc;cases e
  | rangeFunc g ps W Y=>
   simp only[bU]at hc;split at hc
   .simp at hc
   split at hc <;> simp at hc
  | _=>simp[bU]at hc
 | seq a b u T=>
  intro ro code hc;simp[erase]at hc
  cases code with
  | seq ca cb=>
   simp[bU]at hc;split at hc
   .rename_i xa xb U hb;simp[RC.seq.injEq]at hc;obtain⟨rfl,rfl⟩:=hc;intro st o st' h J ν Z F H y r j;simp[cR]at h;split at h
    .rename_i z hs;obtain⟨I,F1,H1,B,C,L,O,Q,D⟩:=u ro ca U st .norm z hs J ν Z F H y r j;obtain⟨n2,F2,H2,ν2,Z2,b1,b2,b3,b4⟩:=T ro cb hb z o st' h J B C F1 H1 (by rw[D.more,D.yid];exact y) O Q
     refine⟨max I n2,F2,H2,ν2,Z2,λq G=>?_,b2,b3,D.trans b4⟩
     simp[exec,L q (Nat.le_trans (Nat.le_max_left _ _) G)];exact b1 q (Nat.le_trans (Nat.le_max_right _ _) G)
    rename_i hs;obtain⟨I,F1,H1,B,C,L,O,Q,D⟩:=u ro ca U st o st' h J ν Z F H y r j;refine⟨I,F1,H1,B,C,λq G=>?_,O,Q,D⟩
    simp[exec,L q G];cases o <;> first|exact absurd h (hs st')|rfl
   simp at hc
  | region id ops w=>
   simp[bU]at hc;split at hc
   .split at hc
    .obtain⟨_,_,e⟩:=ζf.1 hc;cases e
    simp at hc
   obtain⟨_,_,e⟩:=ζf.1 hc;cases e
  | cond x a b=>simp[bU]at hc;split at hc <;> simp at hc
  | block id b=>simp only[bU]at hc;obtain⟨_,_,e⟩:=ζf.1 hc;cases e
  | loop b=>simp only[bU]at hc;obtain⟨_,_,e⟩:=ζf.1 hc;cases e
  | rangeFunc g ps W Y=>
   simp only[bU]at hc;split at hc
   .simp at hc
   split at hc <;> simp at hc
  | _=>simp[bU]at hc
 | cond x a b u T=>
  intro ro code hc;simp[erase]at hc
  cases code with
  | cond g ca cb=>
   simp[bU]at hc;split at hc
   .rename_i xg xa xb hg U hb;simp[RC.cond.injEq]at hc;obtain⟨rfl,rfl,rfl⟩:=hc;intro st o st' h J ν Z F H y r j;simp[cR]at h;split at h
    .rename_i t ht;obtain⟨yv,hy,ry⟩:=Fp gd.N r.slot hg ht;rw[ry.fr.bool]at hy;split at h
     .rename_i hb;obtain⟨I,F1,H1,B,C,L,O,Q,D⟩:=u ro ca U st o st' h J ν Z F H y r j;refine⟨I,F1,H1,B,C,λq G=>?_,O,Q,D⟩
      simp[exec,hy,hb];exact L q G
     rename_i hb;obtain⟨I,F1,H1,B,C,L,O,Q,D⟩:=T ro cb (by assumption) st o st' h J ν Z F H y r j
     refine⟨I,F1,H1,B,C,λq G=>?_,O,Q,D⟩
     simp[exec,hy,hb];exact L q G
    simp at h
   simp at hc
  | region id ops w=>
   simp[bU]at hc;split at hc
   .split at hc
    .obtain⟨_,_,e⟩:=ζf.1 hc;cases e
    simp at hc
   obtain⟨_,_,e⟩:=ζf.1 hc;cases e
  | seq a b=>simp[bU]at hc;split at hc <;> simp at hc
  | block id b=>simp only[bU]at hc;obtain⟨_,_,e⟩:=ζf.1 hc;cases e
  | loop b=>simp only[bU]at hc;obtain⟨_,_,e⟩:=ζf.1 hc;cases e
  | rangeFunc g ps W Y=>
   simp only[bU]at hc;split at hc
   .simp at hc
   split at hc <;> simp at hc
  | _=>simp[bU]at hc
 | block id a u=>
  intro ro code hc;simp[erase]at hc
  cases code with
  | block ad ca=>
   simp only[bU]at hc;obtain⟨xa,U,e⟩:=ζf.1 hc;simp[RC.block.injEq]at e;obtain⟨rfl,rfl⟩:=e;intro st o st' h J ν Z F H y r j;simp[cR]at h;split at h
   .rename_i ae z hs;obtain⟨I,F1,H1,B,C,L,O,Q,D⟩:=u ro ca U st (.exit ae) z hs J ν Z F H y r j;split at h
    .rename_i e;simp  at h;obtain⟨rfl,rfl⟩:=h;refine⟨I,F1,H1,B,C,λq G=>?_,O,Q,D⟩
     simp[exec,L q G,if_pos e]
    rename_i e;simp  at h;obtain⟨rfl,rfl⟩:=h;refine⟨I,F1,H1,B,C,λq G=>?_,O,Q,D⟩
    simp[exec,L q G,if_neg e]
   rename_i hs;obtain⟨I,F1,H1,B,C,L,O,Q,D⟩:=u ro ca U st o st' h J ν Z F H y r j;refine⟨I,F1,H1,B,C,λq G=>?_,O,Q,D⟩
   simp[exec,L q G];cases o <;> first|exact absurd h (hs _ st')|rfl
  | region id ops w=>
   simp[bU]at hc;split at hc
   .split at hc
    .obtain⟨_,_,e⟩:=ζf.1 hc;cases e
    simp at hc
   obtain⟨_,_,e⟩:=ζf.1 hc;cases e
  | seq a b=>simp[bU]at hc;split at hc <;> simp at hc
  | cond x a b=>simp[bU]at hc;split at hc <;> simp at hc
  | loop b=>simp only[bU]at hc;obtain⟨_,_,e⟩:=ζf.1 hc;cases e
  | rangeFunc g ps W Y=>
   simp only[bU]at hc;split at hc
   .simp at hc
   split at hc <;> simp at hc
  | _=>simp[bU]at hc
 | loop a u=>
  intro ro code hc;simp[erase]at hc
  cases code with
  | loop ca=>
   simp only[bU]at hc;obtain⟨xa,U,e⟩:=ζf.1 hc;simp[RC.loop.injEq]at e;subst e;have:=Wd (u ro ca U);intro st o st' h;simp[cR]at h;exact this st o st' h
  | region id ops w=>
   simp[bU]at hc;split at hc
   .split at hc
    .obtain⟨_,_,e⟩:=ζf.1 hc;cases e
    simp at hc
   obtain⟨_,_,e⟩:=ζf.1 hc;cases e
  | seq a b=>simp[bU]at hc;split at hc <;> simp at hc
  | cond x a b=>simp[bU]at hc;split at hc <;> simp at hc
  | block id b=>simp only[bU]at hc;obtain⟨_,_,e⟩:=ζf.1 hc;cases e
  | rangeFunc g ps W Y=>
   simp only[bU]at hc;split at hc
   .simp at hc
   split at hc <;> simp at hc
  | _=>simp[bU]at hc
 | each x ps a b u T=>
  intro ro code hc;simp[erase]at hc
  cases code with
  | rangeFunc g ah W Y=>
   simp only[bU]at hc;split at hc
   .simp at hc
   rename_i aa;simp only[Bool.or_eq_true,not_or,Bool.not_eq_true,Bool.not_eq_false']at aa;obtain⟨rfl,af⟩:=aa;split at hc
   next xg xa xb hg U hb=>simp[RC.each.injEq]at hc;obtain⟨rfl,rfl,rfl,rfl⟩:=hc;have:=V5 gd hI af hg (u true W U) (T true Y hb);intro st o st' h;simp only[cR]at h;exact this st o st' h
   simp at hc
  | region id ops w=>
   simp only[bU]at hc;split at hc
   .split at hc
    .obtain⟨_,_,e⟩:=ζf.1 hc;cases e
    simp at hc
   obtain⟨_,_,e⟩:=ζf.1 hc;cases e
  | seq a b=>simp only[bU]at hc;split at hc <;> simp at hc
  | cond x a b=>simp only[bU]at hc;split at hc <;> simp at hc
  | block id b=>simp only[bU]at hc;obtain⟨_,_,e⟩:=ζf.1 hc;cases e
  | loop b=>simp only[bU]at hc;obtain⟨_,_,e⟩:=ζf.1 hc;cases e
  | _=>simp[bU]at hc
 | exit id=>
  intro ro code hc st o st' h J ν Z F H y r j;simp only[cR,ζa,ζc]at h;obtain⟨rfl,rfl⟩:=h;simp only[erase]at hc;have:∀k,exec S.E (run S.E k) k ro X.nt code F H=some (.exit id,F,H):=λk=>by
   cases code with
   | exit ad=>simp only[bU,ζa,RC.exit.injEq]at hc;subst hc;rfl
   | region id ops w=>
    simp only[bU]at hc;split at hc
    .split at hc
     .obtain⟨_,_,e⟩:=ζf.1 hc;cases e
     simp at hc
    obtain⟨_,_,e⟩:=ζf.1 hc;cases e
   | seq a b=>simp only[bU]at hc;split at hc <;> simp at hc
   | cond x a b=>simp only[bU]at hc;split at hc <;> simp at hc
   | block id b=>simp only[bU]at hc;obtain⟨_,_,e⟩:=ζf.1 hc;cases e
   | loop b=>simp only[bU]at hc;obtain⟨_,_,e⟩:=ζf.1 hc;cases e
   | rangeFunc g ps W Y=>
    simp only[bU]at hc;split at hc
    .simp at hc
    split at hc <;> simp at hc
   | _=>simp[bU]at hc
  exact⟨0,F,H,ν,Z,λk _=>this k,r,j,.refl⟩
 | ret=>
  intro ro code hc st o st' h J ν Z F H y r j;simp only[cR,ζa,ζc]at h;obtain⟨rfl,rfl⟩:=h;simp only[erase]at hc;have:∀k,exec S.E (run S.E k) k ro X.nt code F H=some (.ret,F,H):=λk=>by
   cases code with
   | ret=>rfl
   | region id ops w=>
    simp only[bU]at hc;split at hc
    .split at hc
     .obtain⟨_,_,e⟩:=ζf.1 hc;cases e
     simp at hc
    obtain⟨_,_,e⟩:=ζf.1 hc;cases e
   | seq a b=>simp only[bU]at hc;split at hc <;> simp at hc
   | cond x a b=>simp only[bU]at hc;split at hc <;> simp at hc
   | block id b=>simp only[bU]at hc;obtain⟨_,_,e⟩:=ζf.1 hc;cases e
   | loop b=>simp only[bU]at hc;obtain⟨_,_,e⟩:=ζf.1 hc;cases e
   | rangeFunc g ps W Y=>
    simp only[bU]at hc;split at hc
    .simp at hc
    split at hc <;> simp at hc
   | _=>simp[bU]at hc
  exact⟨0,F,H,ν,Z,λk _=>this k,r,j,.refl⟩
 | gh x a u=>
  intro ro code hc;simp only[erase]at hc;intro st o st' h J ν Z F H y r j;simp only[cR]at h;obtain⟨z,h1,h2⟩:=ζg.1 h;obtain⟨B,C,g1,g2,g3⟩:=Fix.ghost r y j h1;obtain⟨n,F',H',ν',Z',e1,e2,e3,e4⟩:=u ro code hc z o st' h2 J B C F H (by rw[g3.more,g3.yid];exact y) g1 g2
  exact⟨n,F',H',ν',Z',e1,e2,e3,g3.trans e4⟩
 | hg a x u=>
  intro ro code hc;simp only[erase]at hc;intro st o st' h J ν Z F H y r j;simp only[cR]at h;split at h
  .rename_i z hs;obtain⟨st2,h1,e⟩:=ζf.1 h;simp only[ζc]at e;obtain⟨rfl,rfl⟩:=e;obtain⟨n,F',H',ν',Z',e1,e2,e3,e4⟩:=u ro code hc st .norm z hs J ν Z F H y r j;obtain⟨B,C,g1,g2,g3⟩:=Fix.ghost e2 (by rw[e4.more,e4.yid];exact y) e3 h1
   exact⟨n,F',H',B,C,e1,g1,g2,e4.trans g3⟩
  exact u ro code hc st o st' h J ν Z F H y r j
end
abbrev rD:=FuncId->a_ RF
def AX(E:Env)(f:Y')(az:T2)(y:V):Prop:=∃n z H' Z,run E n (.fn f) az []=some (z,H')/\FR H' Z y z/\(∀id,Z id->(bz H' id).isSome=true)/\Deep H' Z
structure rS(S:Sys)(T:rD):Prop where
 fn:∀f rf,T f=some rf->∃fi nm,S.E.ft f=some fi/\(∀g s,nm g=some s->S.N s=g)/\yg S.E nm fi rf
 yB:∀f az y,S.yB f az=some y->AX S.E f az y
 prm:∀f q,S.prm f=some q->oD S.E f q
def Rk(S:Sys)(f:Y')(svs:So)(B:dK):a_ (So×dK):=
 if S.E.keep f then none else match dI svs,B with
  |some az,[]=>(S.yB f az).map λy=>([.v y],[])|_,_=>none
noncomputable def mQ(S:Sys)(T:rD):Nat->cm
 |0=>λ_ _ _=>none|n+1=>λf svs B=>match T f with
  |some rf=>ot S (mQ S T n) rf svs B|none=>Rk S f svs B
section
variable{ν ν' ν2:Nu}{Z Z':Nat->Prop}{st st' st2:St}{m m':Tb bP}{F F':WP}{H H' H1:bq}{S:Sys}{c c':cm}{X:CX}{J:JT}{T:rD}
def Cm(r:R ν Z st F H){nm:Y'->a_ Nat}:∀{B:aZ ResultVar}{rs:aZ RV}{l:So},B.mapM (Cy S.E)=some rs->lI st rs=some l->∃ys,jk S.E F H B=some ys/\cn ν st.m H Z l ys
 |[],rs,l,hc,h=>by simp at hc;subst hc;simp[lI]at h;subst h;exact⟨[],rfl,.nil⟩|rv::B,rs,l,hc,h=>by simp[ζg]at hc;obtain⟨x,D,ys,G,rfl⟩:=hc;cases rv with|tmp t=>simp[Cy]at D;subst D;simp[lI]at h;split at h;(next v I b u=>simp at h;subst h;have⟨w,e1,e2⟩:=Cm r (nm:=nm) G u;exact⟨get F t::w,by simp[jk,e1],.cons (r.slot t v b) e2⟩);grind|cell a t=>simp[Cy]at D;obtain⟨d,hd,rfl⟩:=D;simp[lI]at h;split at h;rename_i v I b u;simp at h;subst h;have⟨p,J,b⟩:=ζg.1 b;have⟨w,e1,e2⟩:=Cm r (nm:=nm) G u;have⟨y,g1,g2⟩:=xK (λs a e=>by cases e) (λkk z ok e=>by cases e) (cn.cons (r.slot a p J) .nil) (λL _ ob C=>r.obj L ob C) b;simp[fH]at g1;exact⟨y::w,by simp[jk,hd,e1,g1],.cons g2 e2⟩;grind
def KW(G:∀f q,S.prm f=some q->oD S.E f q)(j:jV S c)(J:∀f a b xs,S.items f a b=some xs->eF S f a b xs){f:Y'}{fi:FI}{nm:Y'->a_ Nat}{rf:RF}(D:S.E.ft f=some fi)(U:∀g s,nm g=some s->S.N s=g)(k:yg S.E nm fi rf)
 {svs:So}{B:dK}{rs:So}{m1:dK}(h:ot S c rf svs B=some (rs,m1)){args:T2}(r:R ν Z (start svs B) args H)(W:cn ν B H Z svs args):
 ∃n y H' ν' Z' st' F' ys,run S.E n (.fn f) args H=some (y,H')/\y=result ys/\st'.m=m1/\cn ν' m1 H' Z' rs ys/\R ν' Z' st' F' H'/\Ev (λ_=>False) ν Z (start svs B) H ν' Z' st' H':=by
 have⟨m,z,C⟩:=k;unfold ot at h;split at h
 .have key:∀o st',cR S c rf.body (start svs B)=some (o,st')->(∀id,o≠.exit id)->(lI st' rf.rs).map (λrs=>(rs,st'.m))=some (rs,m1)->
   ∃n y H' ν' Z' st' F' ys,run S.E n (.fn f) args H=some (y,H')/\y=result ys/\st'.m=m1/\cn ν' m1 H' Z' rs ys/\R ν' Z' st' F' H'/\Ev (λ_=>False) ν Z (start svs B) H ν' Z' st' H':=λo st' I t w=>by
   have⟨l,d,e⟩:=ζf.1 w;obtain⟨rfl,rfl⟩:=e;have⟨n,F',H',ν',Z',e1,e2,e3,e4⟩:=LR ⟨rfl,U,G⟩ j J rf.body false fi.body m _ _ _ I (vX (gq ν (start svs B).m) Z H) ν Z args H vX.yc r (vX.refl r);have⟨ys,p1,p2⟩:=Cm (nm:=nm) e2 z d;have⟨_,L,O,Q,T,X⟩:=e3;refine⟨n+1,result ys,H',ν',Z',st',F',ys,?_,rfl,rfl,p2,e2,⟨L,λi d Y p _=>O i d Y p,Q,λi h=>(T i h).imp (λh=>h) .inr,λi h=>(X i h).imp (λh=>h) (.imp (λh=>h) .inr),e4.pin,e4.pins⟩⟩
   have u:args.length<=fi.ntmps:=by rw[<-W.1,<-C];omega
   simp[run,kY,D,if_pos u,e1 n (le_refl _)]
   grind
  grind
 grind
def FR.emp{x y:V}(G:∀id,¬Z id)(r:FR H Z x y):x=y:=by
 have B:∀{a w:T2},a.length=w.length->(∀(j:Nat)u v,a[j]?=some u->w[j]?=some v->u=v)->a=w:=λ{a w}h1 z=>by apply List.ext_getElem h1;intro i p q;exact z i _ _ (ζd p) (ζd q)
 induction r with|same x h=>rfl|fsl es C id off D h=>grind|fptr C id el off es D cs h=>grind|clo f a b w I h1 z _ _ i1 i2=>rw[B h1 i1,B z i2]|agg a w h1 _ i1=>grind|tup a w h1 _ i1=>grind
def cn.emp(B:∀id,¬Z id):∀{xs ys:T2},cn ν m H Z (xs.map .v) ys->xs=ys
 |[],ys,h=>h.dc.symm|x::xs,ys,h=>by obtain⟨y,ys,rfl,a,D⟩:=h.inv;rw[FR.emp B a.fr,cn.emp B D]
def CZ(B:rS S T)(U:∀f a b xs,S.items f a b=some xs->eF S f a b xs):∀n,jV S (mQ S T n)
 |0=>λf svs Y rs m1 h=>by simp[mQ]at h|n+1=>λf svs Y rs m1 h ν Z args H W r D=>by simp[mQ]at h;split at h;(next rf G=>have⟨fi,nm,c,g,i⟩:=B.fn f rf G;exact KW B.prm (CZ B U n) U c g i h r D);unfold Rk at h;split at h;simp_all;split at h;rename_i az O;have⟨y,Q,e⟩:=ζf.1 h;obtain⟨rfl,rfl⟩:=e;have⟨k,z,H',X,w,C,I,j8⟩:=B.yB f az y Q;rcases W with W|rfl;grind;have L:∀id,¬Z id:=λid J=>(by have:=r.zrow id J;simp[bz]at this);have u:=(by rw[v7 O]at D;exact(cn.emp L D).symm);subst u;refine⟨k,z,H',λ_=>(0,0),X,⟨[],[],[],[],true,0⟩,[],[z],w,rfl,rfl,cn.cons (.v y z C) .nil,?_,?_⟩;exact⟨λs sv h=>by simp[bp]at h,λd ob h=>by simp[bp]at h,λd j ob l h=>by simp[bp]at h,λd ob h=>by simp[bp]at h,I,j8⟩;exact⟨Nat.zero_le _,λid h=>Zad,λid h=>absurd h (L id),λid h=>Zac,λid h=>.inr (.inr (.inr (Nat.zero_le _))),λd h=>by simp[start]at h,rfl⟩;grind
abbrev Nd:=aZ ((FuncId×aZ SV×dK)×(aZ SV×dK))
def D8(c:cm)(L:Nd):Prop:=∀p∈L,c p.1.1 p.1.2.1 p.1.2.2=some p.2
def Fin{α:Type}(c:cm)(f:cm->a_ α)(r:α):Prop:=∃L:Nd,D8 c L/\∀c',D8 c' L->f c'=some r
def Fin.pure{α:Type}{f:cm->a_ α}{r:α}(h:∀c',f c'=some r):Fin c f r:=⟨[],λp u=>Zad,λc' _=>h c'⟩
def Fin.bind{α β:Type}{f:cm->a_ α}{r:α}{g:cm->a_ β}{q:β}(b:Fin c f r)(B:cm->α->a_ β)(D:Fin c (λc=>B c r) q)(d:∀c',f c'=some r->g c'=B c' r):Fin c g q:=by have⟨L1,w,z⟩:=b;have⟨L2,C,G⟩:=D;refine⟨L1++L2,λp u=>(List.mem_append.1 u).elim (w p) (C p),λc' a=>?_⟩;rw[d c' (z c' λp u=>a p (List.mem_append_left _ u))];exact G c' λp u=>a p (List.mem_append_right _ u)
def Fin.call{f:Y'}{svs:So}{B:dK}{r:So×dK}(h:c f svs B=some r):Fin c (λc=>c f svs B) r:=⟨[((f,svs,B),r)],λp u=>Zac,λc' a=>a ((f,svs,B),r) Zab⟩
def Hp{dst:a_ Nat}{dr now:X'}{old:So->X'}{f:Y'}{args:So}{r:SV×St}(h:fc S c dst dr now old f args st=some r):Fin c (λc=>fc S c dst dr now old f args st) r:=by have b:=h;unfold fc at h;split at h;split at h;split at h;split at h;split at h;rename_i rs m' a;refine(Fin.call a).bind (λc' q=>fc S c dst dr now old f args st) (.pure λ_=>b) (λc' u=>?_);unfold fc;grind;grind;grind;rename_i w;split at h;rename_i q z;refine .pure λc'=>?_;unfold fc;simp_all;rename_i z;split at h;rename_i os D;split at h;rename_i rs m' a;refine(Fin.call a).bind (λc' q=>fc S c dst dr now old f args st) (.pure λ_=>b) (λc' u=>?_);unfold fc;clear h b;simp[*];grind;grind;split at h;split at h;split at h;rename_i rs m' a;refine(Fin.call a).bind (λc' q=>fc S c dst dr now old f args st) (.pure λ_=>b) (λc' u=>?_);unfold fc;simp_all;grind;grind;grind;rename_i d;split at h;rename_i az B;split at h;rename_i C;split at h;rename_i rs m' a;refine(Fin.call a).bind (λc' q=>fc S c dst dr now old f args st) (.pure λ_=>b) (λc' u=>?_);unfold fc;simp[d,B,C,a,u];grind;grind;grind
def Ug{dr:X'}{fr:S'}{o:RO}{r:SV×St}(h:nN S c dr fr o st=some r):Fin c (λc=>nN S c dr fr o st) r:=by have d:=h;unfold nN at h;split at h;rename_i z u;split at h;refine .pure λc'=>?_;have a:=d;unfold nN at a⊢;rename_i b;simp only[u,b]at a⊢;exact a;refine .pure λc'=>?_;have a:=d;unfold nN at a⊢;rename_i B b;simp only[u,b]at a⊢;exact a;refine .pure λc'=>?_;have a:=d;unfold nN at a⊢;rename_i b;simp only[u,b]at a⊢;exact a;refine .pure λc'=>?_;have a:=d;unfold nN at a⊢;rename_i b;simp only[u,b]at a⊢;exact a;refine .pure λc'=>?_;have a:=d;unfold nN at a⊢;rename_i b;simp only[u,b]at a⊢;exact a;rename_i b;split at h;refine(Hp h).bind (λ_ q=>some q) (.pure λ_=>rfl) (λc' w=>?_);unfold nN;simp only[u,b,w];refine(Hp h).bind (λ_ q=>some q) (.pure λ_=>rfl) (λc' w=>?_);unfold nN;simp only[u,b,w];simp at h;refine .pure λc'=>?_;have a:=d;unfold nN at a⊢;rename_i b;simp only[u,b]at a⊢;exact a;refine .pure λc'=>?_;have a:=d;unfold nN at a⊢;rename_i b;simp only[u,b]at a⊢;exact a;simp at h
def VQ{dr:X'}{fr:S'}{o:RO}{r:St}(h:gA S c dr fr o st=some r):Fin c (λc=>gA S c dr fr o st) r:=by unfold gA at h;split at h;split at h;refine .pure λc'=>?_;unfold gA;grind;have⟨q,u,e⟩:=ζf.1 h;refine(Ug u).bind (λ_ q=>some (dy q.2 o.dst q.1)) (.pure λ_=>Zad) (λc' w=>?_);unfold gA;grind;refine .pure λc'=>?_;unfold gA;grind;grind
def DC{dr:X'}:∀{l:ST}{fr:S'}{st r:St},oB S c dr fr l st=some r->Fin c (λc=>oB S c dr fr l st) r
 |[],fr,st,r,h=>.pure λ_=>h|o::l,fr,st,r,h=>by simp[oB]at h;split at h;(next D B=>have⟨G,a,B⟩:=ζg.1 B;exact(VQ B).bind (λc' q=>oB S c' dr (if dr then sC fr o.strip else fr) l (qG o.dead q)) (DC h) (λc' u=>by simp[oB,a,u]));grind
def GL{f:cm->St->a_ (Out×St)}(D:∀st r,f c st=some r->Fin c (λc=>f c st) r):∀{k:Nat}{st:St}{r:Out×St},kn (f c) k st=some r->Fin c (λc=>kn (f c) k st) r
 |0,st,r,h=>by simp[kn]at h|k+1,st,r,h=>by simp[kn]at h;split at h;(next G J=>exact(D st _ J).bind (λc' q=>kn (f c') k G) (GL D h) (λc' B=>by simp[kn,B]));refine(D st r h).bind (λ_ q=>some q) (.pure λ_=>rfl) (λc' B=>?_);simp[kn,B];grind
def GO{f:cm->T2->Tb bP->a_ (Out×Tb bP)}(D:∀x m r,f c x m=some r->Fin c (λc=>f c x m) r):∀{xs:T'}{m:Tb bP}{r:Out×Tb bP},rR (f c) xs m=some r->Fin c (λc=>rR (f c) xs m) r
 |[],m,r,h=>.pure λ_=>h|x::xs,m,r,h=>by simp[rR]at h;split at h;(next m1 G=>exact(D x m _ G).bind (λc' q=>rR (f c') xs m1) (GO D h) (λc' B=>by simp[rR,B]));refine(D x m r h).bind (λ_ q=>some q) (.pure λ_=>rfl) (λc' B=>?_);simp[rR,B];grind
def OA:∀{d:RC}{st:St}{r:Out×St},cR S c d st=some r->Fin c (λc=>cR S c d st) r:=by intro d;induction d with|skip=>exactλh=>.pure λ_=>h|exit id=>exactλh=>.pure λ_=>h|ret=>exactλh=>.pure λ_=>h|ops l=>intro st r h;simp only[cR]at h⊢;have⟨q,G,e⟩:=ζf.1 h;exact(DC G).bind (λ_ q=>some (.norm,q)) (.pure λ_=>Zad) (λc' w=>Zac)|qB l=>intro st r h;simp only[cR]at h⊢;have⟨q,G,e⟩:=ζf.1 h;exact(DC G).bind (λ_ q=>some (.norm,q)) (.pure λ_=>Zad) (λc' w=>Zac)|seq a b u C=>intro st r h;simp[cR]at h⊢;split at h;(next B D=>exact(u D).bind (λc' q=>cR S c' b B) (C h) (λc' w=>Zac));rename_i D;refine(u h).bind (λ_ q=>some q) (.pure λ_=>rfl) (λc' w=>?_);grind|cond x a b u C=>intro st r h;simp[cR]at h⊢;grind|block id a u=>intro st r h;simp[cR]at h⊢;split at h;(next I B D=>exact(u D).bind (λc' q=>if I=id then some (.norm,B)else some (.exit I,B)) (.pure λ_=>h) (λc' w=>Zac));refine(u h).bind (λ_ q=>some q) (.pure λ_=>rfl) (λc' w=>?_);grind|loop a u=>intro st r h;have⟨k,j⟩:=oa.1 h;refine(GL (λst r h=>u h) j).bind (λ_ q=>some q) (.pure λ_=>rfl) (λc' w=>?_);exact oa.2 ⟨k,w⟩|each g L a b u C=>intro st r h;simp only[cR]at h⊢;split at h;split at h;have⟨q,G,e⟩:=ζf.1 h;refine(GO (f:=λc=>jL L (cR S c a) (cR S c b) st) (λz m r h=>?_) G).bind (λ_ q=>some (q.1,{st with m:=q.2})) (.pure λ_=>Zad) (λc' w=>Zac);unfold jL at h;split at h;split at h;rename_i B i;have⟨O,J,e2⟩:=ζf.1 h;refine(u i).bind (λc' q=>(cR S c' b B).map λ(o,st2)=>(o,st2.m)) ((C J).bind (λ_ q=>some (q.1,q.2.m)) (.pure λ_=>Zad) (λc' w=>Zac)) (λc' w=>?_);unfold jL;grind;grind;grind;grind;grind|gh x a u=>intro st r h;simp[cR]at h⊢;have⟨B,i,Q⟩:=ζg.1 h;grind|hg a x u=>intro st r h;simp[cR]at h⊢;split at h;(next B D=>exact(u D).bind (λc' q=>(ghost x B).map λst=>(.norm,st)) (.pure λ_=>h) (λc' w=>Zac));refine(u h).bind (λ_ q=>some q) (.pure λ_=>rfl) (λc' w=>?_);grind
def Bc{rf:RF}{svs:So}{B:dK}{r:So×dK}(h:ot S c rf svs B=some r):Fin c (λc=>ot S c rf svs B) r:=by have a:=h;unfold ot at h;split at h;split at h;simp_all;rename_i o st u w;refine(OA w).bind (λc' q=>ot S c rf svs B) (.pure λ_=>a) (λc' z=>?_);unfold ot;grind;grind;grind
def Em:∀{n:Nat}{f:Y'}{svs:So}{B:dK}{r:So×dK},mQ S T n f svs B=some r->mQ S T (n+1) f svs B=some r
 |0,f,svs,B,r,h=>by simp[mQ]at h|n+1,f,svs,B,r,h=>by simp[mQ]at h;rw[mQ];split at h;(next rf D=>have⟨L,a,G⟩:=Bc h;simp[D];exact G _ λp u=>Em (a p u));grind
def Dq{n k:Nat}(h:n<=k){f:Y'}{svs:So}{B:dK}{r:So×dK}(D:mQ S T n f svs B=some r):mQ S T k f svs B=some r:=by induction h with|refl=>omega|step _ u=>exact Em u
open Classical in
noncomputable def dh(S:Sys)(T:rD):cm:=λf u w=>if h:∃n r,mQ S T n f u w=some r then some (Classical.choose (choose_spec h))else none
def tS{f:Y'}{svs:So}{B:dK}{r:So×dK}:dh S T f svs B=some r↔∃n,mQ S T n f svs B=some r:=by unfold dh;constructor;intro h;split at h;grind;grind;rintro⟨k,a⟩;have u:∃n r,mQ S T n f svs B=some r:=⟨k,r,a⟩;have w:=choose_spec (choose_spec u);have z:=Dq (le_max_left (Classical.choose u) k) w;have C:=Dq (le_max_right (Classical.choose u) k) a;grind
def MO{L:Nd}(h:D8 (dh S T) L):∃n,∀k,n<=k->D8 (mQ S T k) L:=by induction L with|nil=>exact⟨0,λk _ p hp=>Zad⟩|cons q L u=>have⟨w,b⟩:=tS.1 (h q Zab);have⟨z,B⟩:=u λp hp=>h p (List.mem_cons_of_mem _ hp);refine⟨max w z,λk a p hp=>?_⟩;rcases List.mem_cons.1 hp with rfl|hp;exact Dq (le_trans (le_max_left _ _) a) b;exact B k (le_trans (le_max_right _ _) a) p hp
def HE{f:Y'}{az:T2}{y:V}(B:T f=none)(b:S.E.keep f=false)(h:S.yB f az=some y):dh S T f (az.map .v) []=some ([.v y],[]):=by
 refine tS.2 ⟨1,?_⟩;have u:dI (az.map .v)=some az:=by clear h;induction az with|nil=>rfl|cons a l w=>simp only[List.map_cons,dI,w];rfl
 simp only[mQ,B,Rk,b,u,h];rfl
def ta{f:Y'}{rf:RF}(D:T f=some rf)(svs:So)(B:dK):dh S T f svs B=ot S (dh S T) rf svs B:=by cases h:ot S (dh S T) rf svs B with|some r=>have⟨L,a,w⟩:=Bc h;have⟨n,u⟩:=MO a;refine tS.2 ⟨n+1,?_⟩;simp[mQ,D];grind|none=>cases w:dh S T f svs B with|none=>rfl|some r=>have⟨n,u⟩:=tS.1 w;cases n with|zero=>simp[mQ]at u|succ n=>simp[mQ,D]at u;have⟨L,z,C⟩:=Bc u;have I:=C (dh S T) λp G=>tS.2 ⟨n,z p G⟩;grind
def vC(B:rS S T)(D:∀f a b xs,S.items f a b=some xs->eF S f a b xs):jV S (dh S T):=λf u w rs z h=>by have⟨n,C⟩:=tS.1 h;exact CZ B D n f u w rs z C
def Mg(W:∀f q,S.prm f=some q->oD S.E f q)(l:jV S c){f:Y'}{fi:FI}{nm:Y'->a_ Nat}{rf:RF}(Y:∀f a b xs,S.items f a b=some xs->eF S f a b xs)(D:S.E.ft f=some fi)(p:∀g s,nm g=some s->S.N s=g)(t:yg S.E nm fi rf){a b:T2}{xs:T'}
 (U:a.length+1+b.length<=rf.na)(G:rf.rs=[])
 (h:∀B more,(more=true/\B=xs\/more=false/\B≠[]/\∃r,xs=B++r)->∀yid,∃o st',cR S c rf.body {g:=wm 0 (a.map .v++.yl yid::b.map .v),m:=[],pin:=[],want:=B,more:=more,yid:=yid}=some (o,st')/\(∀id,o≠.exit id)/\st'.want=[]/\st'.m=st'.m):
 eF S f a b xs:=by
 intro B more O yid J y Z z C H Q T X hd j;have⟨o,st',v,F,x,_⟩:=h B more O yid;have⟨A,w,I⟩:=t;have L:cn (λ_=>(0,0)) [] H Z (a.map .v++.yl yid::b.map .v) (z++.yld yid::C):=(cn.sS Q).append (.cons (.yl yid) (cn.sS T))
 have E:R (λ_=>(0,0)) Z {g:=wm 0 (a.map .v++.yl yid::b.map .v),m:=[],pin:=[],want:=B,more:=more,yid:=yid} (z++.yld yid::C) H:=⟨yQ L,λd ob h=>by simp[bp]at h,λd K ob M h=>by simp[bp]at h,λd ob h=>by simp[bp]at h,X,hd⟩
 have⟨n,F',H',ν',Z',e1,e2,e3,e4⟩:=LR ⟨rfl,p,W⟩ l Y rf.body false fi.body A _ _ _ v J _ Z _ H y E (by
  refine y.xM _ _ _ _ _ _ _ j (le_refl _) (λ_ _ _ _=>rfl) (λi e=>⟨e,rfl⟩) (λi e=>?_) (λi e=>.inl e)
  have⟨d,ob,h,_⟩:=e;simp[bp]at h)
 rw[x]at e3;rw[G]at w;have⟨ys,p1,p2⟩:=Cm (nm:=nm) e2 w rfl;refine⟨n+1,result ys,H',_,Z',λk N=>?_,e3⟩
 have u:(z++V.yld yid::C).length<=fi.ntmps:=by rw[<-L.1,<-I];simp;omega
 cases k with
 |zero=>omega|succ k=>
  simp[run,kY,D,if_pos u,e1 k Zaa]
  grind
def Vb(B:rS S T)(D:∀f a b xs,S.items f a b=some xs->eF S f a b xs){f:Y'}{az:T2}(d:V.cK az=true){y:V}{m':dK}(h:dh S T f (az.map .v) []=some ([.v y],m'))(G:y.scalar=true):
 ∃n H',run S.E n (.fn f) az []=some (y,H'):=by
 have⟨u,r1⟩:=yp d;obtain⟨n,I,H2,ν',Z',st',F',w,c,rfl,J,C,L,_⟩:=vC B D f _ _ _ _ h _ _ az [] (.inr rfl) u r1;obtain⟨z,w,rfl,e1,e2⟩:=C.inv;rw[e2.dc]at c;have:=(e1.fr.scalar).1 G;subst this;exact⟨n,H2,c⟩
end
end Go.VE
