/-
 The second layer: named objects in the place of rows; texts, calls, iterators.
-/
import Derived.Test.YtcknkjopbmmcjaaGreatDoorN1
set_option linter.all false
noncomputable section
open Nat(le_max_left le_max_right le_refl le_trans)
open Classical(choose_spec)
namespace Go.VE
variable[b_]
section
variable{ν ν' ν2:Nu}{Z Z':Nat->Prop}{st st' st2:St}{m m':Tb bN}{F F':WP}{H H' H1:bp}{S:Sys}{c:cr}{X:CX}{J:JT}
def Qr(gd:Good X S)(g:j8 S c){ro:X'}{id:Nat}{ops:Array Oper}{l:Rd}(m:mP X true ops.toList 0 ops.toList=some (l.map RO.strip))(hd:(yg ops.toList&&By ops.toList)=true):
 uE X S ro (.region id ops true) (λst=>(oT S c true [] l st).map λst=>(.norm,st)):=by
 intro st o st' h J ν Z F H y r j;have⟨G,a,e⟩:=ζf.1 h;simp only[ζc]at e;obtain⟨rfl,rfl⟩:=e;generalize w:(if tK ops.toList then H++List.replicate ops.toList.length .free else H)=H0;generalize f:(if tK ops.toList then ops.toList.length else 0)=k;have u:∀i,i<H.length->H0[i]?=H[i]?:=λi hi=>by rw[<-w];split;exact List.getElem?_append_left hi;rfl
 have z:H.length<=H0.length:=by rw[<-w];split<;>simp
 have I:R ν Z st F H0:=r.heap (λi hi=>u i (r.lt hi)) (λi hi=>by unfold bt;rw[u i (r.yw hi)])
 have B:∀q,0<=q->q<k->H0[H.length+q]?=some .free:=λq _ C=>by rw[<-f]at C;split at C;rename_i D;rw[<-w,if_pos D,List.getElem?_append_right Zaa];simp only[Nat.add_sub_cancel_left];rw[List.getElem?_replicate,if_pos C];omega
 have⟨n,F',H',ν',e1,e2,e3,e4,e5⟩:=Rb gd g (ops:=ops.toList) (b:=H.length) (k:=k) (λD=>by rw[<-f,if_pos D]) ops.toList.length (i:=0) (fr:=[]) Zaa (by simpa using m) a I z
  ⟨λd ob hd L _=>r.lt ⟨d,ob,hd,L,rfl⟩,λi hi=>r.yw hi⟩ B
 refine⟨n,F',H',ν',Z,λq C=>?_,e2,?_,e5⟩
 .simp only[exec,kK,if_true,hd,ζf,ζc,true_and];refine⟨(F',H'),?_,rfl,rfl⟩;rw[w];have:=e1 q C;rw[List.range_eq_range'];exact this
 rw[e4];refine y.yf _ _ _ _ _ _ _ j (le_trans z e3.len) (λi a O Q=>by rw[e3.same i Zaa O Q Zaa,u i a]) (λi hi=>⟨hi,by rw[(e3.rows i hi).2];unfold bt;rw[u i (r.yw hi)]⟩) (λi hi=>?_) (λi hi=>.inl hi)
 rcases e3.own i hi with h|h|h
 .exact .inl h
 .exact .inr h
 exact .inr Zaa
def WR{ro:X'}{code:Code}{f:St->a_ (Out×St)}(U:uE X S ro code f):uE X S ro (.loop code) (qp f):=by
 intro st o st' h J ν Z F H y r j;have⟨k,a⟩:=oH.1 h;have key:∀k st ν Z F H,ko f k st=some (o,st')->Yc S J st.more st.yid->R ν Z st F H->J st.want (gB ν st.m) Z H->
  ∃n F' H' ν' Z',(∀q,n<=q->∀u,k<=u->mo (exec S.E (run S.E q) q ro X.nt code) u F H=some (o,F',H'))/\R ν' Z' st' F' H'/\J st'.want (gB ν' st'.m) Z' H'/\Fix ν st ν' st':=by
  intro k
  induction k with
  |zero=>intro st ν Z F H h;simp[ko]at h|succ k L=>
   intro st ν Z F H h y r j;simp only[ko]at h;split at h
   .rename_i z B;have⟨C,F1,H1,D,G,a1,a2,a3,a4⟩:=U st .norm z B J ν Z F H y r j;have⟨O,Q,H2,ν2,Z2,T,W,Y,b⟩:=L z D G F1 H1 h (by rw[a4.more,a4.yid];exact y) a2 a3
    refine⟨max C O,Q,H2,ν2,Z2,λq w u I=>?_,W,Y,a4.trans b⟩
    cases u with
    |zero=>omega|succ u=>simp only[mo,a1 q (le_trans (le_max_left _ _) w)];exact T q (le_trans (le_max_right _ _) w) u Zaa
   rename_i B;have⟨C,F1,H1,D,G,a1,a2,a3,a4⟩:=U st o st' h J ν Z F H y r j;have c:o≠.norm:=λe=>by subst e;exact B st' h
   refine⟨C,F1,H1,D,G,λq w u I=>?_,a2,a3,a4⟩
   cases u with
   |zero=>omega|succ u=>simp only[mo,a1 q w];cases o<;>first|exact absurd rfl c|rfl
 have⟨n,F',H',ν',Z',e1,e2,e3,e4⟩:=key k st ν Z F H a y r j;refine⟨max n k,F',H',ν',Z',λq w=>?_,e2,e3,e4⟩;simp only[exec];exact e1 q (le_trans (le_max_left _ _) w) q (le_trans (le_max_right _ _) w)
def Wo(gd:Good X S)(V:∀f a b xs,S.items f a b=some xs->eZ S f a b xs){g:UV}{ps:Array Tmp}{U W:Code}{x:Arg}{A B:St->a_ (Out×St)}
 (ab:ps.toList.all (·<X.nt)=true)(hx:qQ X.nm g=some x)(hA:uE X S true U A)(hB:uE X S true W B):
 uE X S false (.rangeFunc g ps U W) (λst=>match sR S.N st.g x with
 |some (.v (.clo f x y))=>match S.items f x y with
  |some xs=>(sL (jN ps.toList A B st) xs st.m).map λ(o,m)=>(o,{st with m:=m})|none=>none
 |_=>none):=by
 intro st o st' h J ν Z F H y r j;dsimp only at h;split at h
 .rename_i f a b ad;split at h
  .rename_i xs ae;have⟨⟨p,s⟩,hE,e⟩:=ζf.1 h;simp only[ζc]at e;obtain⟨rfl,rfl⟩:=e;have⟨yv,hy,ry⟩:=GP gd.N r.slot hx ad;obtain⟨a',b',rfl,ra,rb⟩:=ry.fr.lG;have⟨M,more,Q,hR⟩:=EZ hE;generalize I:(⟨.ready,none,F,X.nt,ps.toList,U,W⟩:xS)=u;have z:∀i,i<H.length->(H++[Ob.loop u])[i]?=H[i]?:=λi hi=>List.getElem?_append_left hi
   have C:∀i,Z i->bt (H++[Ob.loop u]) i=bt H i:=λi hi=>by unfold bt;rw[z i (r.yw hi)]
   have r0:R ν Z (UX st st.m) F (H++[Ob.loop u]):=by have:=r.heap (H':=H++[Ob.loop u]) (λi hi=>z i (r.lt hi)) C;exact⟨this.slot,this.obj,this.inj,this.apart,this.zrow,this.deep⟩
   have D:∀i,Z i->Z i/\bt (H++[Ob.loop u]) i=bt H i:=λi hi=>⟨hi,C i hi⟩
   have j0:JI X st F ν (gB ν st.m) Z H H.length ps.toList U W (jN ps.toList A B st) p s more M (λ_=>False) Z (H++[Ob.loop u]):=by refine⟨st.m,ν,Z,u,r0,⟨rfl,Zab,λi k _ _=>z i k,λi hi=>⟨hi,C i hi⟩,λi hi=>.inl hi,λi hi=>.inl hi⟩,λi hi=>hi.elim,λi hi=>⟨λt=>?_,Nat.ne_of_lt (r.yw hi),.inl hi⟩,λt=>absurd (r.lt t) Zab,λhz=>absurd (r.yw hz) Zab,le_refl _,Zab,?_,λd _ af h=>⟨af,h,rfl,.refl _⟩,.inl ⟨hR,?_,?_⟩⟩;obtain⟨d,ob,g1,g2,rfl⟩:=t;exact r.apart d ob g1 g2 hi;subst I;exact⟨rfl,rfl,rfl,rfl,rfl⟩;subst I;rfl;subst I;rfl
   have ah:Yc S (JI X st F ν (gB ν st.m) Z H H.length ps.toList U W (jN ps.toList A B st) p s more) more H.length:=⟨λw O Z1 H1 O' Z' H' v k Y l E h5=>JI.yf v k Y l E h5,λx1 aj O Z1 H1 args v k Y l E=>JI.yield S hA hB ab v k Y l E⟩
   have⟨n,yy,H',O',Z',e1,e2⟩:=V f a b xs ae M more Q H.length _ ah Z a' b' (H++[Ob.loop u]) (ra.mono D) (rb.mono D) (λi hi=>by rw[C i hi];exact r.zrow i hi) (r.deep.mono C) j0
   have⟨m1,νb,N,K,r1,⟨_,k2,k3,k4,k5,k6⟩,_,_,l1,l2,l3,P,_,l6,l7⟩:=e2;have aa:m1=s/\(K.st=.ready\/K.st=.done)/\K.pend.getD .norm=p:=by rcases l7 with⟨g1,g2,g3⟩|⟨_,g1,g2,g3⟩;(cases g1 with|nil hn=>exact⟨rfl,.inl g2,by rw[g3,hn];rfl⟩);exact⟨g1,.inr g2,by rw[g3];rfl⟩
   obtain⟨rfl,c,T⟩:=aa;have ak:H.length<H'.length:=(ζe.1 P).1;have G:∀i,i≠H.length->(H'.set H.length .dead)[i]?=H'[i]?:=λi ai=>by rw[List.getElem?_set,if_neg (Ne.symm ai)]
   have L:∀i,N i->bt (H'.set H.length .dead) i=bt H' i:=λi hi=>by unfold bt;rw[G i λe=>l2 (e▸hi)]
   have r2:=r1.heap (H':=H'.set H.length .dead) (λi hi=>G i λe=>l1 (e▸hi)) L
   refine⟨n,F,H'.set H.length .dead,νb,N,λq hq=>?_,⟨r2.slot,r2.obj,r2.inj,r2.apart,r2.zrow,r2.deep⟩,?_,⟨λd hd=>l6 d (List.mem_append_left _ hd),rfl,rfl,rfl⟩⟩
   .simp only[exec,hy];rw[I,e1 q hq];simp only[P];rcases c with c|c<;>rw[c]<;>simp only[T]
   refine y.yf _ _ _ _ _ _ _ j (by simp only[List.length_set];omega) (λi k Y l=>by rw[G i Zaa,k3 i k Y l]) (λi hi=>⟨(k4 i hi).1,by rw[L i (k4 i hi).1,(k4 i hi).2]⟩) k5 k6
  simp at h
 simp at h
end
end Go.VE
namespace Go.VE
variable[b_]
def lS(st:St):aZ RV->a_ SW
 |[]=>some []|.s n::r=>match bn st.g n,lS st r with
  |some x,some l=>some (x::l)|_,_=>none
 |.ld n size agg::r=>match(bn st.g n).bind λp=>pq st.m (.load size agg) [p],lS st r with
  |some x,some l=>some (x::l)|_,_=>none
def oM(S:Sys)(c:cr)(rf:RF)(svs:SW)(B:dO):a_ (SW×dO):=
 if svs.length<=rf.na then
  match cU S c rf.body (start svs B)with
  |some (.exit _,_)=>none|some (_,st)=>(lS st rf.rs).map λrs=>(rs,st.m)|none=>none
 else none
def C5(E:Env):ResultVar->a_ RV
 |.tmp t=>some (.s t)|.cell a t=>(E.tt t).map λd=>.ld a d.size d.agg
def zd(E:Env)(nm:Y'->a_ Nat)(fi:FI)(rf:RF):Prop:=bX ⟨E,nm,fi.ntmps⟩ false fi.body=some (erase rf.body)/\fi.results.mapM (C5 E)=some rf.rs/\rf.na=fi.ntmps
section
variable{ν ν' ν2:Nu}{Z Z':Nat->Prop}{st st' st2:St}{m m':Tb bN}{F F':WP}{H H' H1:bp}{S:Sys}{c:cr}{X:CX}{J:JT}
theorem NS (gd:Good X S) (hS:j8 S c) (hI:∀f a b xs,S.items f a b=some xs->eZ S f a b xs):∀(rc:RC) (ro:Bool) (code:Code),bX X ro code=some (erase rc)->uE X S ro code (cU S c rc):=by
 intro rc
 induction rc with
 | skip=>
  intro ro code hc st o st' h J ν Z F H y r j;obtain⟨rfl,rfl⟩:=h;simp[erase]at hc;have:∀k,exec S.E (run S.E k) k ro X.nt code F H=some (.norm,F,H):=λk=>by
   cases code with
   | skip=>rfl
   | label _=>rfl
   | region id ops w=>
    simp[bX]at hc;split at hc
    .simp_all
    simp_all
   | seq a b=>simp[bX]at hc;grind
   | cond x a b=>simp[bX]at hc;grind
   | block id b=>simp only[bX]at hc;simp_all
   | loop b=>simp only[bX]at hc;simp_all
   | rangeFunc g ps O Q=>
    simp[bX]at hc
    grind
   | _=>simp[bX]at hc
  exact⟨0,F,H,ν,Z,λk _=>this k,r,j,.refl⟩
 | ops l=>
  intro ro code hc;simp[erase]at hc
  cases code with
  | region id ops w=>
   simp[bX]at hc;split at hc
   .simp_all
   rename_i hd;obtain⟨l',hl,e⟩:=ζf.1 hc;cases e;intro st o st' h J ν Z F H y r j;obtain⟨z,h1,e⟩:=ζf.1 h;obtain⟨rfl,rfl⟩:=e;obtain⟨n,F',H',ν',Z',e1,e2,e3,e4⟩:=Rz gd hS _ hl h1 y r j;refine⟨n,F',H',ν',Z',λk hk=>?_,e2,e3,e4⟩
   simp[exec,kK,hd,e1 k hk]
  | seq a b=>simp[bX]at hc;grind
  | cond x a b=>simp[bX]at hc;grind
  | block id b=>simp only[bX]at hc;simp_all
  | loop b=>obtain⟨_,_,e⟩:=ζf.1 hc;cases e
  | rangeFunc g ps O Q=>
   simp only[bX]at hc;split at hc
   .simp at hc
   split at hc <;> simp at hc
  | _=>simp[bX]at hc
 | qZ l=>
  intro ro code hc;simp[erase]at hc
  cases code with
  | region id ops w=>
   simp only[bX]at hc;split at hc
   .rename_i hd;subst hd;split at hc
    next aa=>obtain⟨l',hl,e⟩:=ζf.1 hc;cases e;have:=Qr (ro:=ro) (id:=id) gd hS hl aa;intro st o st' h;exact this st o st' h
    simp at hc
   obtain⟨_,_,e⟩:=ζf.1 hc;cases e
  | seq a b=>simp[bX]at hc;split at hc <;> simp at hc
  | cond x a b=>simp[bX]at hc;split at hc <;> simp at hc
  | block id b=>obtain⟨_,_,e⟩:=ζf.1 hc;cases e
  | loop b=>obtain⟨_,_,e⟩:=ζf.1 hc;cases e
  | rangeFunc g ps O Q=>
   simp only[bX]at hc;split at hc
   .simp at hc
   split at hc <;> simp at hc
  | _=>simp[bX]at hc
 | seq a b u I=>
  intro ro code hc;simp[erase]at hc
  cases code with
  | seq T cb=>
   simp[bX]at hc;split at hc
   .rename_i xa xb L W;simp[RC.seq.injEq]at hc;obtain⟨rfl,rfl⟩:=hc;intro st o st' h J ν Z F H y r j;simp[cU]at h;split at h
    .rename_i z U;obtain⟨G,F1,H1,B,C,a1,a2,a3,a4⟩:=u ro T L st .norm z U J ν Z F H y r j;obtain⟨n2,F2,H2,ν2,Z2,b1,b2,b3,b4⟩:=I ro cb W z o st' h J B C F1 H1 (by rw[a4.more,a4.yid];exact y) a2 a3
     refine⟨max G n2,F2,H2,ν2,Z2,λq D=>?_,b2,b3,a4.trans b4⟩
     simp[exec,a1 q (Nat.le_trans (Nat.le_max_left _ _) D)];exact b1 q (Nat.le_trans (Nat.le_max_right _ _) D)
    rename_i U;obtain⟨G,F1,H1,B,C,a1,a2,a3,a4⟩:=u ro T L st o st' h J ν Z F H y r j;refine⟨G,F1,H1,B,C,λq D=>?_,a2,a3,a4⟩
    simp[exec,a1 q D];cases o <;> first|exact absurd h (U st')|rfl
   simp at hc
  | region id ops w=>
   simp[bX]at hc;split at hc
   .split at hc
    .obtain⟨_,_,e⟩:=ζf.1 hc;cases e
    simp at hc
   obtain⟨_,_,e⟩:=ζf.1 hc;cases e
  | cond x a b=>simp[bX]at hc;split at hc <;> simp at hc
  | block id b=>simp only[bX]at hc;obtain⟨_,_,e⟩:=ζf.1 hc;cases e
  | loop b=>simp only[bX]at hc;obtain⟨_,_,e⟩:=ζf.1 hc;cases e
  | rangeFunc g ps O Q=>
   simp only[bX]at hc;split at hc
   .simp at hc
   split at hc <;> simp at hc
  | _=>simp[bX]at hc
 | cond x a b u I=>
  intro ro code hc;simp[erase]at hc
  cases code with
  | cond g T cb=>
   simp[bX]at hc;split at hc
   .rename_i xg xa xb hg L W;simp[RC.cond.injEq]at hc;obtain⟨rfl,rfl,rfl⟩:=hc;intro st o st' h J ν Z F H y r j;simp[cU]at h;split at h
    .rename_i t ht;obtain⟨yv,hy,ry⟩:=GP gd.N r.slot hg ht;rw[ry.fr.bool]at hy;split at h
     .rename_i W;obtain⟨G,F1,H1,B,C,a1,a2,a3,a4⟩:=u ro T L st o st' h J ν Z F H y r j;refine⟨G,F1,H1,B,C,λq D=>?_,a2,a3,a4⟩
      simp[exec,hy,W];exact a1 q D
     rename_i W;obtain⟨G,F1,H1,B,C,a1,a2,a3,a4⟩:=I ro cb (by assumption) st o st' h J ν Z F H y r j
     refine⟨G,F1,H1,B,C,λq D=>?_,a2,a3,a4⟩
     simp[exec,hy,W];exact a1 q D
    simp at h
   simp at hc
  | region id ops w=>
   simp[bX]at hc;split at hc
   .split at hc
    .obtain⟨_,_,e⟩:=ζf.1 hc;cases e
    simp at hc
   obtain⟨_,_,e⟩:=ζf.1 hc;cases e
  | seq a b=>simp[bX]at hc;split at hc <;> simp at hc
  | block id b=>simp only[bX]at hc;obtain⟨_,_,e⟩:=ζf.1 hc;cases e
  | loop b=>simp only[bX]at hc;obtain⟨_,_,e⟩:=ζf.1 hc;cases e
  | rangeFunc g ps O Q=>
   simp only[bX]at hc;split at hc
   .simp at hc
   split at hc <;> simp at hc
  | _=>simp[bX]at hc
 | block id a u=>
  intro ro code hc;simp[erase]at hc
  cases code with
  | block ab T=>
   simp only[bX]at hc;obtain⟨xa,L,e⟩:=ζf.1 hc;simp[RC.block.injEq]at e;obtain⟨rfl,rfl⟩:=e;intro st o st' h J ν Z F H y r j;simp[cU]at h;split at h
   .rename_i ad z U;obtain⟨G,F1,H1,B,C,a1,a2,a3,a4⟩:=u ro T L st (.exit ad) z U J ν Z F H y r j;split at h
    .rename_i e;simp  at h;obtain⟨rfl,rfl⟩:=h;refine⟨G,F1,H1,B,C,λq D=>?_,a2,a3,a4⟩
     simp[exec,a1 q D,if_pos e]
    rename_i e;simp  at h;obtain⟨rfl,rfl⟩:=h;refine⟨G,F1,H1,B,C,λq D=>?_,a2,a3,a4⟩
    simp[exec,a1 q D,if_neg e]
   rename_i U;obtain⟨G,F1,H1,B,C,a1,a2,a3,a4⟩:=u ro T L st o st' h J ν Z F H y r j;refine⟨G,F1,H1,B,C,λq D=>?_,a2,a3,a4⟩
   simp[exec,a1 q D];cases o <;> first|exact absurd h (U _ st')|rfl
  | region id ops w=>
   simp[bX]at hc;split at hc
   .split at hc
    .obtain⟨_,_,e⟩:=ζf.1 hc;cases e
    simp at hc
   obtain⟨_,_,e⟩:=ζf.1 hc;cases e
  | seq a b=>simp[bX]at hc;split at hc <;> simp at hc
  | cond x a b=>simp[bX]at hc;split at hc <;> simp at hc
  | loop b=>simp only[bX]at hc;obtain⟨_,_,e⟩:=ζf.1 hc;cases e
  | rangeFunc g ps O Q=>
   simp only[bX]at hc;split at hc
   .simp at hc
   split at hc <;> simp at hc
  | _=>simp[bX]at hc
 | loop a u=>
  intro ro code hc;simp[erase]at hc
  cases code with
  | loop T=>
   simp only[bX]at hc;obtain⟨xa,L,e⟩:=ζf.1 hc;simp[RC.loop.injEq]at e;subst e;have:=WR (u ro T L);intro st o st' h;simp[cU]at h;exact this st o st' h
  | region id ops w=>
   simp[bX]at hc;split at hc
   .split at hc
    .obtain⟨_,_,e⟩:=ζf.1 hc;cases e
    simp at hc
   obtain⟨_,_,e⟩:=ζf.1 hc;cases e
  | seq a b=>simp[bX]at hc;split at hc <;> simp at hc
  | cond x a b=>simp[bX]at hc;split at hc <;> simp at hc
  | block id b=>simp only[bX]at hc;obtain⟨_,_,e⟩:=ζf.1 hc;cases e
  | rangeFunc g ps O Q=>
   simp only[bX]at hc;split at hc
   .simp at hc
   split at hc <;> simp at hc
  | _=>simp[bX]at hc
 | each x ps a b u I=>
  intro ro code hc;simp[erase]at hc
  cases code with
  | rangeFunc g af O Q=>
   simp only[bX]at hc;split at hc
   .simp at hc
   rename_i Y;simp only[Bool.or_eq_true,not_or,Bool.not_eq_true,Bool.not_eq_false']at Y;obtain⟨rfl,ae⟩:=Y;split at hc
   next xg xa xb hg L W=>simp[RC.each.injEq]at hc;obtain⟨rfl,rfl,rfl,rfl⟩:=hc;have:=Wo gd hI ae hg (u true O L) (I true Q W);intro st o st' h;simp only[cU]at h;exact this st o st' h
   simp at hc
  | region id ops w=>
   simp only[bX]at hc;split at hc
   .split at hc
    .obtain⟨_,_,e⟩:=ζf.1 hc;cases e
    simp at hc
   obtain⟨_,_,e⟩:=ζf.1 hc;cases e
  | seq a b=>simp only[bX]at hc;split at hc <;> simp at hc
  | cond x a b=>simp only[bX]at hc;split at hc <;> simp at hc
  | block id b=>simp only[bX]at hc;obtain⟨_,_,e⟩:=ζf.1 hc;cases e
  | loop b=>simp only[bX]at hc;obtain⟨_,_,e⟩:=ζf.1 hc;cases e
  | _=>simp[bX]at hc
 | exit id=>
  intro ro code hc st o st' h J ν Z F H y r j;simp only[cU,ζa,ζc]at h;obtain⟨rfl,rfl⟩:=h;simp only[erase]at hc;have:∀k,exec S.E (run S.E k) k ro X.nt code F H=some (.exit id,F,H):=λk=>by
   cases code with
   | exit ab=>simp only[bX,ζa,RC.exit.injEq]at hc;subst hc;rfl
   | region id ops w=>
    simp only[bX]at hc;split at hc
    .split at hc
     .obtain⟨_,_,e⟩:=ζf.1 hc;cases e
     simp at hc
    obtain⟨_,_,e⟩:=ζf.1 hc;cases e
   | seq a b=>simp only[bX]at hc;split at hc <;> simp at hc
   | cond x a b=>simp only[bX]at hc;split at hc <;> simp at hc
   | block id b=>simp only[bX]at hc;obtain⟨_,_,e⟩:=ζf.1 hc;cases e
   | loop b=>simp only[bX]at hc;obtain⟨_,_,e⟩:=ζf.1 hc;cases e
   | rangeFunc g ps O Q=>
    simp only[bX]at hc;split at hc
    .simp at hc
    split at hc <;> simp at hc
   | _=>simp[bX]at hc
  exact⟨0,F,H,ν,Z,λk _=>this k,r,j,.refl⟩
 | ret=>
  intro ro code hc st o st' h J ν Z F H y r j;simp only[cU,ζa,ζc]at h;obtain⟨rfl,rfl⟩:=h;simp only[erase]at hc;have:∀k,exec S.E (run S.E k) k ro X.nt code F H=some (.ret,F,H):=λk=>by
   cases code with
   | ret=>rfl
   | region id ops w=>
    simp only[bX]at hc;split at hc
    .split at hc
     .obtain⟨_,_,e⟩:=ζf.1 hc;cases e
     simp at hc
    obtain⟨_,_,e⟩:=ζf.1 hc;cases e
   | seq a b=>simp only[bX]at hc;split at hc <;> simp at hc
   | cond x a b=>simp only[bX]at hc;split at hc <;> simp at hc
   | block id b=>simp only[bX]at hc;obtain⟨_,_,e⟩:=ζf.1 hc;cases e
   | loop b=>simp only[bX]at hc;obtain⟨_,_,e⟩:=ζf.1 hc;cases e
   | rangeFunc g ps O Q=>
    simp only[bX]at hc;split at hc
    .simp at hc
    split at hc <;> simp at hc
   | _=>simp[bX]at hc
  exact⟨0,F,H,ν,Z,λk _=>this k,r,j,.refl⟩
 | gh x a u=>
  intro ro code hc;simp only[erase]at hc;intro st o st' h J ν Z F H y r j;simp only[cU]at h;obtain⟨z,h1,h2⟩:=ζg.1 h;obtain⟨B,C,g1,g2,g3⟩:=Fix.ghost r y j h1;obtain⟨n,F',H',ν',Z',e1,e2,e3,e4⟩:=u ro code hc z o st' h2 J B C F H (by rw[g3.more,g3.yid];exact y) g1 g2
  exact⟨n,F',H',ν',Z',e1,e2,e3,g3.trans e4⟩
 | hg a x u=>
  intro ro code hc;simp only[erase]at hc;intro st o st' h J ν Z F H y r j;simp only[cU]at h;split at h
  .rename_i z U;obtain⟨st2,h1,e⟩:=ζf.1 h;simp only[ζc]at e;obtain⟨rfl,rfl⟩:=e;obtain⟨n,F',H',ν',Z',e1,e2,e3,e4⟩:=u ro code hc st .norm z U J ν Z F H y r j;obtain⟨B,C,g1,g2,g3⟩:=Fix.ghost e2 (by rw[e4.more,e4.yid];exact y) e3 h1
   exact⟨n,F',H',B,C,e1,g1,g2,e4.trans g3⟩
  exact u ro code hc st o st' h J ν Z F H y r j
end
abbrev rG:=FuncId->a_ RF
def Cm(E:Env)(f:Y')(az:So)(y:V):Prop:=∃n z H' Z,run E n (.fn f) az []=some (z,H')/\FR H' Z y z/\(∀id,Z id->(bt H' id).isSome=true)/\Deep H' Z
structure rV(S:Sys)(T:rG):Prop where
 fn:∀f rf,T f=some rf->∃fi nm,S.E.ft f=some fi/\(∀g s,nm g=some s->S.N s=g)/\zd S.E nm fi rf
 yR:∀f az y,S.yR f az=some y->Cm S.E f az y
 prm:∀f q,S.prm f=some q->oU S.E f q
def Ta(S:Sys)(f:Y')(svs:SW)(B:dO):a_ (SW×dO):=
 if S.E.keep f then none else match dG svs,B with
  |some az,[]=>(S.yR f az).map λy=>([.v y],[])|_,_=>none
def nk(S:Sys)(T:rG):Nat->cr
 |0=>λ_ _ _=>none|n+1=>λf svs B=>match T f with
  |some rf=>oM S (nk S T n) rf svs B|none=>Ta S f svs B
section
variable{ν ν' ν2:Nu}{Z Z':Nat->Prop}{st st' st2:St}{m m':Tb bN}{F F':WP}{H H' H1:bp}{S:Sys}{c c':cr}{X:CX}{J:JT}{T:rG}
def C8(r:R ν Z st F H){nm:Y'->a_ Nat}:∀{B:aZ ResultVar}{rs:aZ RV}{l:SW},B.mapM (C5 S.E)=some rs->lS st rs=some l->∃ys,js S.E F H B=some ys/\ct ν st.m H Z l ys
 |[],rs,l,hc,h=>by simp at hc;subst hc;simp[lS]at h;subst h;exact⟨[],rfl,.nil⟩|rv::B,rs,l,hc,h=>by simp[ζg]at hc;obtain⟨x,D,ys,G,rfl⟩:=hc;cases rv with|tmp t=>simp[C5]at D;subst D;simp[lS]at h;split at h;(next v I b u=>simp at h;subst h;have⟨w,e1,e2⟩:=C8 r (nm:=nm) G u;exact⟨get F t::w,by simp[js,e1],.cons (r.slot t v b) e2⟩);grind|cell a t=>simp[C5]at D;obtain⟨d,hd,rfl⟩:=D;simp[lS]at h;split at h;rename_i v I b u;simp at h;subst h;have⟨p,J,b⟩:=ζg.1 b;have⟨w,e1,e2⟩:=C8 r (nm:=nm) G u;have⟨y,g1,g2⟩:=x_ (λs a e=>by cases e) (λkk z ok e=>by cases e) (ct.cons (r.slot a p J) .nil) (λL _ ob C=>r.obj L ob C) b;simp[fE]at g1;exact⟨y::w,by simp[js,hd,e1,g1],.cons g2 e2⟩;grind
def Mq(j:∀f q,S.prm f=some q->oU S.E f q)(k:j8 S c)(G:∀f a b xs,S.items f a b=some xs->eZ S f a b xs){f:Y'}{fi:FI}{nm:Y'->a_ Nat}{rf:RF}(D:S.E.ft f=some fi)(J:∀g s,nm g=some s->S.N s=g)(m:zd S.E nm fi rf)
 {svs:SW}{B:dO}{rs:SW}{m1:dO}(h:oM S c rf svs B=some (rs,m1)){args:So}(r:R ν Z (start svs B) args H)(U:ct ν B H Z svs args):
 ∃n y H' ν' Z' st' F' ys,run S.E n (.fn f) args H=some (y,H')/\y=result ys/\st'.m=m1/\ct ν' m1 H' Z' rs ys/\R ν' Z' st' F' H'/\Ev (λ_=>False) ν Z (start svs B) H ν' Z' st' H':=by
 have⟨p,z,C⟩:=m;unfold oM at h;split at h
 .have key:∀o st',cU S c rf.body (start svs B)=some (o,st')->(∀id,o≠.exit id)->(lS st' rf.rs).map (λrs=>(rs,st'.m))=some (rs,m1)->
   ∃n y H' ν' Z' st' F' ys,run S.E n (.fn f) args H=some (y,H')/\y=result ys/\st'.m=m1/\ct ν' m1 H' Z' rs ys/\R ν' Z' st' F' H'/\Ev (λ_=>False) ν Z (start svs B) H ν' Z' st' H':=λo st' I t w=>by
   have⟨l,d,e⟩:=ζf.1 w;obtain⟨rfl,rfl⟩:=e;have⟨n,F',H',ν',Z',e1,e2,e3,e4⟩:=NS ⟨rfl,J,j⟩ k G rf.body false fi.body p _ _ _ I (wL (gB ν (start svs B).m) Z H) ν Z args H wL.yc r (wL.refl r);have⟨ys,p1,p2⟩:=C8 (nm:=nm) e2 z d;have⟨_,L,O,Q,T,W⟩:=e3;refine⟨n+1,result ys,H',ν',Z',st',F',ys,?_,rfl,rfl,p2,e2,⟨L,λi d X Y _=>O i d X Y,Q,λi h=>(T i h).imp (λh=>h) .inr,λi h=>(W i h).imp (λh=>h) (.imp (λh=>h) .inr),e4.pin,e4.pins⟩⟩
   have u:args.length<=fi.ntmps:=by rw[<-U.1,<-C];omega
   simp[run,lg,D,if_pos u,e1 n (le_refl _)]
   grind
  grind
 grind
def FR.emp{x y:V}(G:∀id,¬Z id)(r:FR H Z x y):x=y:=by
 have B:∀{a w:So},a.length=w.length->(∀(j:Nat)u v,a[j]?=some u->w[j]?=some v->u=v)->a=w:=λ{a w}h1 z=>by apply List.ext_getElem h1;intro i p q;exact z i _ _ (ζd p) (ζd q)
 induction r with|same x h=>rfl|fsl es C id off D h=>grind|fptr C id el off es D cs h=>grind|clo f a b w I h1 z _ _ i1 i2=>rw[B h1 i1,B z i2]|agg a w h1 _ i1=>grind|tup a w h1 _ i1=>grind
def ct.emp(B:∀id,¬Z id):∀{xs ys:So},ct ν m H Z (xs.map .v) ys->xs=ys
 |[],ys,h=>h.dh.symm|x::xs,ys,h=>by obtain⟨y,ys,rfl,a,D⟩:=h.inv;rw[FR.emp B a.fr,ct.emp B D]
def Dt(B:rV S T)(U:∀f a b xs,S.items f a b=some xs->eZ S f a b xs):∀n,j8 S (nk S T n)
 |0=>λf svs Y rs m1 h=>by simp[nk]at h|n+1=>λf svs Y rs m1 h ν Z args H W r D=>by simp[nk]at h;split at h;(next rf G=>have⟨fi,nm,c,g,i⟩:=B.fn f rf G;exact Mq B.prm (Dt B U n) U c g i h r D);unfold Ta at h;split at h;simp_all;split at h;rename_i az O;have⟨y,Q,e⟩:=ζf.1 h;obtain⟨rfl,rfl⟩:=e;have⟨k,z,H',X,w,C,I,jy⟩:=B.yR f az y Q;rcases W with W|rfl;grind;have L:∀id,¬Z id:=λid J=>(by have:=r.zrow id J;simp[bt]at this);have u:=(by rw[wk O]at D;exact(ct.emp L D).symm);subst u;refine⟨k,z,H',λ_=>(0,0),X,⟨[],[],[],[],true,0⟩,[],[z],w,rfl,rfl,ct.cons (.v y z C) .nil,?_,?_⟩;exact⟨λs sv h=>by simp[bn]at h,λd ob h=>by simp[bn]at h,λd j ob l h=>by simp[bn]at h,λd ob h=>by simp[bn]at h,I,jy⟩;exact⟨Nat.zero_le _,λid h=>Zad,λid h=>absurd h (L id),λid h=>Zac,λid h=>.inr (.inr (.inr (Nat.zero_le _))),λd h=>by simp[start]at h,rfl⟩;grind
abbrev PD:=aZ ((FuncId×aZ SV×dO)×(aZ SV×dO))
def FU(c:cr)(L:PD):Prop:=∀p∈L,c p.1.1 p.1.2.1 p.1.2.2=some p.2
def Fin{α:Type}(c:cr)(f:cr->a_ α)(r:α):Prop:=∃L:PD,FU c L/\∀c',FU c' L->f c'=some r
def Fin.pure{α:Type}{f:cr->a_ α}{r:α}(h:∀c',f c'=some r):Fin c f r:=⟨[],λp u=>Zad,λc' _=>h c'⟩
def Fin.bind{α β:Type}{f:cr->a_ α}{r:α}{g:cr->a_ β}{q:β}(b:Fin c f r)(B:cr->α->a_ β)(D:Fin c (λc=>B c r) q)(d:∀c',f c'=some r->g c'=B c' r):Fin c g q:=by have⟨L1,a1,w⟩:=b;have⟨L2,a2,z⟩:=D;refine⟨L1++L2,λp u=>(List.mem_append.1 u).elim (a1 p) (a2 p),λc' a=>?_⟩;rw[d c' (w c' λp u=>a p (List.mem_append_left _ u))];exact z c' λp u=>a p (List.mem_append_right _ u)
def Fin.call{f:Y'}{svs:SW}{B:dO}{r:SW×dO}(h:c f svs B=some r):Fin c (λc=>c f svs B) r:=⟨[((f,svs,B),r)],λp u=>Zac,λc' a=>a ((f,svs,B),r) Zab⟩
def Im{dst:a_ Nat}{dr now:X'}{old:SW->X'}{f:Y'}{args:SW}{r:SV×St}(h:fP S c dst dr now old f args st=some r):Fin c (λc=>fP S c dst dr now old f args st) r:=by have b:=h;unfold fP at h;split at h;split at h;split at h;split at h;split at h;rename_i rs m' a;refine(Fin.call a).bind (λc' q=>fP S c dst dr now old f args st) (.pure λ_=>b) (λc' u=>?_);unfold fP;grind;grind;grind;rename_i w;split at h;rename_i q z;refine .pure λc'=>?_;unfold fP;simp_all;rename_i z;split at h;rename_i os D;split at h;rename_i rs m' a;refine(Fin.call a).bind (λc' q=>fP S c dst dr now old f args st) (.pure λ_=>b) (λc' u=>?_);unfold fP;clear h b;simp[*];grind;grind;split at h;split at h;split at h;rename_i rs m' a;refine(Fin.call a).bind (λc' q=>fP S c dst dr now old f args st) (.pure λ_=>b) (λc' u=>?_);unfold fP;simp_all;grind;grind;grind;rename_i d;split at h;rename_i az B;split at h;rename_i C;split at h;rename_i rs m' a;refine(Fin.call a).bind (λc' q=>fP S c dst dr now old f args st) (.pure λ_=>b) (λc' u=>?_);unfold fP;simp[d,B,C,a,u];grind;grind;grind
def Xn{dr:X'}{fr:ST}{o:RO}{r:SV×St}(h:nG S c dr fr o st=some r):Fin c (λc=>nG S c dr fr o st) r:=by have d:=h;unfold nG at h;split at h;rename_i z u;split at h;refine .pure λc'=>?_;have a:=d;unfold nG at a⊢;rename_i b;simp only[u,b]at a⊢;exact a;refine .pure λc'=>?_;have a:=d;unfold nG at a⊢;rename_i B b;simp only[u,b]at a⊢;exact a;refine .pure λc'=>?_;have a:=d;unfold nG at a⊢;rename_i b;simp only[u,b]at a⊢;exact a;refine .pure λc'=>?_;have a:=d;unfold nG at a⊢;rename_i b;simp only[u,b]at a⊢;exact a;refine .pure λc'=>?_;have a:=d;unfold nG at a⊢;rename_i b;simp only[u,b]at a⊢;exact a;rename_i b;split at h;refine(Im h).bind (λ_ q=>some q) (.pure λ_=>rfl) (λc' w=>?_);unfold nG;simp only[u,b,w];refine(Im h).bind (λ_ q=>some q) (.pure λ_=>rfl) (λc' w=>?_);unfold nG;simp only[u,b,w];simp at h;refine .pure λc'=>?_;have a:=d;unfold nG at a⊢;rename_i b;simp only[u,b]at a⊢;exact a;refine .pure λc'=>?_;have a:=d;unfold nG at a⊢;rename_i b;simp only[u,b]at a⊢;exact a;simp at h
def XJ{dr:X'}{fr:ST}{o:RO}{r:St}(h:gx S c dr fr o st=some r):Fin c (λc=>gx S c dr fr o st) r:=by unfold gx at h;split at h;split at h;refine .pure λc'=>?_;unfold gx;grind;have⟨q,u,e⟩:=ζf.1 h;refine(Xn u).bind (λ_ q=>some (c8 q.2 o.dst q.1)) (.pure λ_=>Zad) (λc' w=>?_);unfold gx;grind;refine .pure λc'=>?_;unfold gx;grind;grind
def Ec{dr:X'}:∀{l:Rd}{fr:ST}{st r:St},oT S c dr fr l st=some r->Fin c (λc=>oT S c dr fr l st) r
 |[],fr,st,r,h=>.pure λ_=>h|o::l,fr,st,r,h=>by simp[oT]at h;split at h;(next D B=>have⟨G,a,B⟩:=ζg.1 B;exact(XJ B).bind (λc' q=>oT S c' dr (if dr then sZ fr o.strip else fr) l (qR o.dead q)) (Ec h) (λc' u=>by simp[oT,a,u]));grind
def HX{f:cr->St->a_ (Out×St)}(D:∀st r,f c st=some r->Fin c (λc=>f c st) r):∀{k:Nat}{st:St}{r:Out×St},ko (f c) k st=some r->Fin c (λc=>ko (f c) k st) r
 |0,st,r,h=>by simp[ko]at h|k+1,st,r,h=>by simp[ko]at h;split at h;(next G J=>exact(D st _ J).bind (λc' q=>ko (f c') k G) (HX D h) (λc' B=>by simp[ko,B]));refine(D st r h).bind (λ_ q=>some q) (.pure λ_=>rfl) (λc' B=>?_);simp[ko,B];grind
def Iq{f:cr->So->Tb bN->a_ (Out×Tb bN)}(D:∀x m r,f c x m=some r->Fin c (λc=>f c x m) r):∀{xs:S'}{m:Tb bN}{r:Out×Tb bN},sL (f c) xs m=some r->Fin c (λc=>sL (f c) xs m) r
 |[],m,r,h=>.pure λ_=>h|x::xs,m,r,h=>by simp[sL]at h;split at h;(next m1 G=>exact(D x m _ G).bind (λc' q=>sL (f c') xs m1) (Iq D h) (λc' B=>by simp[sL,B]));refine(D x m r h).bind (λ_ q=>some q) (.pure λ_=>rfl) (λc' B=>?_);simp[sL,B];grind
def Q8:∀{d:RC}{st:St}{r:Out×St},cU S c d st=some r->Fin c (λc=>cU S c d st) r:=by intro d;induction d with|skip=>exactλh=>.pure λ_=>h|exit id=>exactλh=>.pure λ_=>h|ret=>exactλh=>.pure λ_=>h|ops l=>intro st r h;simp only[cU]at h⊢;have⟨q,G,e⟩:=ζf.1 h;exact(Ec G).bind (λ_ q=>some (.norm,q)) (.pure λ_=>Zad) (λc' w=>Zac)|qZ l=>intro st r h;simp only[cU]at h⊢;have⟨q,G,e⟩:=ζf.1 h;exact(Ec G).bind (λ_ q=>some (.norm,q)) (.pure λ_=>Zad) (λc' w=>Zac)|seq a b u C=>intro st r h;simp[cU]at h⊢;split at h;(next B D=>exact(u D).bind (λc' q=>cU S c' b B) (C h) (λc' w=>Zac));rename_i D;refine(u h).bind (λ_ q=>some q) (.pure λ_=>rfl) (λc' w=>?_);grind|cond x a b u C=>intro st r h;simp[cU]at h⊢;grind|block id a u=>intro st r h;simp[cU]at h⊢;split at h;(next I B D=>exact(u D).bind (λc' q=>if I=id then some (.norm,B)else some (.exit I,B)) (.pure λ_=>h) (λc' w=>Zac));refine(u h).bind (λ_ q=>some q) (.pure λ_=>rfl) (λc' w=>?_);grind|loop a u=>intro st r h;have⟨k,j⟩:=oH.1 h;refine(HX (λst r h=>u h) j).bind (λ_ q=>some q) (.pure λ_=>rfl) (λc' w=>?_);exact oH.2 ⟨k,w⟩|each g ps a b u C=>intro st r h;simp only[cU]at h⊢;split at h;split at h;have⟨q,G,e⟩:=ζf.1 h;refine(Iq (f:=λc=>jN ps (cU S c a) (cU S c b) st) (λz m r h=>?_) G).bind (λ_ q=>some (q.1,{st with m:=q.2})) (.pure λ_=>Zad) (λc' w=>Zac);unfold jN at h;split at h;split at h;rename_i B i;have⟨L,J,e2⟩:=ζf.1 h;refine(u i).bind (λc' q=>(cU S c' b B).map λ(o,st2)=>(o,st2.m)) ((C J).bind (λ_ q=>some (q.1,q.2.m)) (.pure λ_=>Zad) (λc' w=>Zac)) (λc' w=>?_);unfold jN;grind;grind;grind;grind;grind|gh x a u=>intro st r h;simp[cU]at h⊢;have⟨B,i,O⟩:=ζg.1 h;grind|hg a x u=>intro st r h;simp[cU]at h⊢;split at h;(next B D=>exact(u D).bind (λc' q=>(ghost x B).map λst=>(.norm,st)) (.pure λ_=>h) (λc' w=>Zac));refine(u h).bind (λ_ q=>some q) (.pure λ_=>rfl) (λc' w=>?_);grind
def BY{rf:RF}{svs:SW}{B:dO}{r:SW×dO}(h:oM S c rf svs B=some r):Fin c (λc=>oM S c rf svs B) r:=by have a:=h;unfold oM at h;split at h;split at h;simp_all;rename_i o st u w;refine(Q8 w).bind (λc' q=>oM S c rf svs B) (.pure λ_=>a) (λc' z=>?_);unfold oM;grind;grind;grind
def Fu:∀{n:Nat}{f:Y'}{svs:SW}{B:dO}{r:SW×dO},nk S T n f svs B=some r->nk S T (n+1) f svs B=some r
 |0,f,svs,B,r,h=>by simp[nk]at h|n+1,f,svs,B,r,h=>by simp[nk]at h;rw[nk];split at h;(next rf D=>have⟨L,a,G⟩:=BY h;simp[D];exact G _ λp u=>Fu (a p u));grind
def Ez{n k:Nat}(h:n<=k){f:Y'}{svs:SW}{B:dO}{r:SW×dO}(D:nk S T n f svs B=some r):nk S T k f svs B=some r:=by induction h with|refl=>omega|step _ u=>exact Fu u
open Classical in
def dw(S:Sys)(T:rG):cr:=λf u w=>if h:∃n r,nk S T n f u w=some r then some (Classical.choose (choose_spec h))else none
def um{f:Y'}{svs:SW}{B:dO}{r:SW×dO}:dw S T f svs B=some r↔∃n,nk S T n f svs B=some r:=by unfold dw;constructor;intro h;split at h;grind;grind;rintro⟨k,a⟩;have u:∃n r,nk S T n f svs B=some r:=⟨k,r,a⟩;have w:=choose_spec (choose_spec u);have z:=Ez (le_max_left (Classical.choose u) k) w;have C:=Ez (le_max_right (Classical.choose u) k) a;grind
def Pq{L:PD}(h:FU (dw S T) L):∃n,∀k,n<=k->FU (nk S T k) L:=by induction L with|nil=>exact⟨0,λk _ p hp=>Zad⟩|cons q L u=>have⟨w,b⟩:=um.1 (h q Zab);have⟨z,B⟩:=u λp hp=>h p (List.mem_cons_of_mem _ hp);refine⟨max w z,λk a p hp=>?_⟩;rcases List.mem_cons.1 hp with rfl|hp;exact Ez (le_trans (le_max_left _ _) a) b;exact B k (le_trans (le_max_right _ _) a) p hp
def Ir{f:Y'}{az:So}{y:V}(B:T f=none)(b:S.E.keep f=false)(h:S.yR f az=some y):dw S T f (az.map .v) []=some ([.v y],[]):=by
 refine um.2 ⟨1,?_⟩;have u:dG (az.map .v)=some az:=by clear h;induction az with|nil=>rfl|cons a l w=>simp only[List.map_cons,dG,w];rfl
 simp only[nk,B,Ta,b,u,h];rfl
def tG{f:Y'}{rf:RF}(D:T f=some rf)(svs:SW)(B:dO):dw S T f svs B=oM S (dw S T) rf svs B:=by cases h:oM S (dw S T) rf svs B with|some r=>have⟨L,a,w⟩:=BY h;have⟨n,u⟩:=Pq a;refine um.2 ⟨n+1,?_⟩;simp[nk,D];grind|none=>cases w:dw S T f svs B with|none=>rfl|some r=>have⟨n,u⟩:=um.1 w;cases n with|zero=>simp[nk]at u|succ n=>simp[nk,D]at u;have⟨L,z,C⟩:=BY u;have I:=C (dw S T) λp G=>um.2 ⟨n,z p G⟩;grind
def vR(B:rV S T)(D:∀f a b xs,S.items f a b=some xs->eZ S f a b xs):j8 S (dw S T):=λf u w rs z h=>by have⟨n,C⟩:=um.1 h;exact Dt B D n f u w rs z C
def M6(e:∀f q,S.prm f=some q->oU S.E f q)(l:j8 S c){f:Y'}{fi:FI}{nm:Y'->a_ Nat}{rf:RF}(W:∀f a b xs,S.items f a b=some xs->eZ S f a b xs)(D:S.E.ft f=some fi)(Y:∀g s,nm g=some s->S.N s=g)(p:zd S.E nm fi rf){a b:So}{xs:S'}
 (U:a.length+1+b.length<=rf.na)(G:rf.rs=[])
 (h:∀B more,(more=true/\B=xs\/more=false/\B≠[]/\∃r,xs=B++r)->∀yid,∃o st',cU S c rf.body {g:=wU 0 (a.map .v++.yl yid::b.map .v),m:=[],pin:=[],want:=B,more:=more,yid:=yid}=some (o,st')/\(∀id,o≠.exit id)/\st'.want=[]/\st'.m=st'.m):
 eZ S f a b xs:=by
 intro B more O yid J y Z z C H Q T X hd j;have⟨o,st',t,E,v,_⟩:=h B more O yid;have⟨x,w,I⟩:=p;have L:ct (λ_=>(0,0)) [] H Z (a.map .v++.yl yid::b.map .v) (z++.yld yid::C):=(ct.tu Q).append (.cons (.yl yid) (ct.tu T))
 have A:R (λ_=>(0,0)) Z {g:=wU 0 (a.map .v++.yl yid::b.map .v),m:=[],pin:=[],want:=B,more:=more,yid:=yid} (z++.yld yid::C) H:=⟨zH L,λd ob h=>by simp[bn]at h,λd F ob K h=>by simp[bn]at h,λd ob h=>by simp[bn]at h,X,hd⟩
 have⟨n,F',H',ν',Z',e1,e2,e3,e4⟩:=NS ⟨rfl,Y,e⟩ l W rf.body false fi.body x _ _ _ t J _ Z _ H y A (by
  refine y.yf _ _ _ _ _ _ _ j (le_refl _) (λ_ _ _ _=>rfl) (λi hi=>⟨hi,rfl⟩) (λi hi=>?_) (λi hi=>.inl hi)
  have⟨d,ob,h,_⟩:=hi;simp[bn]at h)
 rw[v]at e3;rw[G]at w;have⟨ys,p1,p2⟩:=C8 (nm:=nm) e2 w rfl;refine⟨n+1,result ys,H',_,Z',λk M=>?_,e3⟩
 have u:(z++V.yld yid::C).length<=fi.ntmps:=by rw[<-L.1,<-I];simp;omega
 cases k with
 |zero=>omega|succ k=>
  simp[run,lg,D,if_pos u,e1 k Zaa]
  grind
def V9(B:rV S T)(D:∀f a b xs,S.items f a b=some xs->eZ S f a b xs){f:Y'}{az:So}(d:V.cM az=true){y:V}{m':dO}(h:dw S T f (az.map .v) []=some ([.v y],m'))(G:y.scalar=true):
 ∃n H',run S.E n (.fn f) az []=some (y,H'):=by
 have⟨u,r1⟩:=zo d;obtain⟨n,I,H2,ν',Z',st',F',w,c,rfl,J,C,L,_⟩:=vR B D f _ _ _ _ h _ _ az [] (.inr rfl) u r1;obtain⟨z,w,rfl,e1,e2⟩:=C.inv;rw[e2.dh]at c;have:=(e1.fr.scalar).1 G;subst this;exact⟨n,H2,c⟩
end
end Go.VE
