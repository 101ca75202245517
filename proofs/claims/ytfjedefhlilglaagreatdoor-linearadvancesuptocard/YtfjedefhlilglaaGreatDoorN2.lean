/-
 The second layer: named objects in the place of rows; texts, calls, iterators.
-/
import Derived.Test.YtfjedefhlilglaaGreatDoorN1
set_option linter.all false
open Nat(le_max_left le_max_right le_refl le_trans)
open Classical(choose_spec)
namespace Go.VE
variable[b8]
section
variable{ν ν' ν2:Nu}{Z Z':Nat->Prop}{st st' st2:St}{m m':Tb bM}{F F':WP}{H H' H1:bp}{S:Sys}{c:cm}{X:CX}{J:JT}
def PB(gd:Good X S)(g:jQ S c){ro:X'}{id:Nat}{ops:Array Oper}{l:SW}(m:mb X true ops.toList 0 ops.toList=some (l.map RO.strip))(hd:(xW ops.toList&&BU ops.toList)=true):
 ue X S ro (.region id ops true) (λst=>(oE S c true [] l st).map λst=>(.norm,st)):=by
 intro st o st' h J ν Z F H y r j;have⟨G,a,e⟩:=ζf.1 h;simp only[ζc]at e;obtain⟨rfl,rfl⟩:=e;generalize w:(if tn ops.toList then H++List.replicate ops.toList.length .free else H)=H0;generalize f:(if tn ops.toList then ops.toList.length else 0)=k;have u:∀i,i<H.length->H0[i]?=H[i]?:=λi hi=>by rw[<-w];split;exact List.getElem?_append_left hi;rfl
 have z:H.length<=H0.length:=by rw[<-w];split<;>simp
 have I:R ν Z st F H0:=r.heap (λi hi=>u i (r.lt hi)) (λi hi=>by unfold bt;rw[u i (r.xM hi)])
 have B:∀q,0<=q->q<k->H0[H.length+q]?=some .free:=λq _ C=>by rw[<-f]at C;split at C;rename_i D;rw[<-w,if_pos D,List.getElem?_append_right Zaa];simp only[Nat.add_sub_cancel_left];rw[List.getElem?_replicate,if_pos C];omega
 have⟨n,F',H',ν',e1,e2,e3,e4,e5⟩:=Q4 gd g (ops:=ops.toList) (b:=H.length) (k:=k) (λD=>by rw[<-f,if_pos D]) ops.toList.length (i:=0) (fr:=[]) Zaa (by simpa using m) a I z
  ⟨λd ob hd L _=>r.lt ⟨d,ob,hd,L,rfl⟩,λi hi=>r.xM hi⟩ B
 refine⟨n,F',H',ν',Z,λq C=>?_,e2,?_,e5⟩
 .simp only[exec,kq,if_true,hd,ζf,ζc,true_and];refine⟨(F',H'),?_,rfl,rfl⟩;rw[w];have:=e1 q C;rw[List.range_eq_range'];exact this
 rw[e4];refine y.xY _ _ _ _ _ _ _ j (le_trans z e3.len) (λi a O Q=>by rw[e3.same i Zaa O Q Zaa,u i a]) (λi hi=>⟨hi,by rw[(e3.rows i hi).2];unfold bt;rw[u i (r.xM hi)]⟩) (λi hi=>?_) (λi hi=>.inl hi)
 rcases e3.own i hi with h|h|h
 .exact .inl h
 .exact .inr h
 exact .inr Zaa
def VV{ro:X'}{code:Code}{f:St->a_ (Out×St)}(U:ue X S ro code f):ue X S ro (.loop code) (pW f):=by
 intro st o st' h J ν Z F H y r j;have⟨k,a⟩:=oq.1 h;have key:∀k st ν Z F H,jZ f k st=some (o,st')->Yc S J st.more st.yid->R ν Z st F H->J st.want (gm ν st.m) Z H->
  ∃n F' H' ν' Z',(∀q,n<=q->∀u,k<=u->lQ (exec S.E (run S.E q) q ro X.nt code) u F H=some (o,F',H'))/\R ν' Z' st' F' H'/\J st'.want (gm ν' st'.m) Z' H'/\Fix ν st ν' st':=by
  intro k
  induction k with
  |zero=>intro st ν Z F H h;simp[jZ]at h|succ k L=>
   intro st ν Z F H h y r j;simp only[jZ]at h;split at h
   .rename_i z B;have⟨C,F1,H1,D,G,a1,a2,a3,a4⟩:=U st .norm z B J ν Z F H y r j;have⟨O,Q,H2,ν2,Z2,T,W,Y,b⟩:=L z D G F1 H1 h (by rw[a4.more,a4.yid];exact y) a2 a3
    refine⟨max C O,Q,H2,ν2,Z2,λq w u I=>?_,W,Y,a4.trans b⟩
    cases u with
    |zero=>omega|succ u=>simp only[lQ,a1 q (le_trans (le_max_left _ _) w)];exact T q (le_trans (le_max_right _ _) w) u Zaa
   rename_i B;have⟨C,F1,H1,D,G,a1,a2,a3,a4⟩:=U st o st' h J ν Z F H y r j;have c:o≠.norm:=λe=>by subst e;exact B st' h
   refine⟨C,F1,H1,D,G,λq w u I=>?_,a2,a3,a4⟩
   cases u with
   |zero=>omega|succ u=>simp only[lQ,a1 q w];cases o<;>first|exact absurd rfl c|rfl
 have⟨n,F',H',ν',Z',e1,e2,e3,e4⟩:=key k st ν Z F H a y r j;refine⟨max n k,F',H',ν',Z',λq w=>?_,e2,e3,e4⟩;simp only[exec];exact e1 q (le_trans (le_max_left _ _) w) q (le_trans (le_max_right _ _) w)
def Wv(gd:Good X S)(V:∀f a b xs,S.items f a b=some xs->eS S f a b xs){g:UV}{ps:Array Tmp}{U W:Code}{x:Arg}{A B:St->a_ (Out×St)}
 (ab:ps.toList.all (·<X.nt)=true)(hx:qy X.nm g=some x)(hA:ue X S true U A)(hB:ue X S true W B):
 ue X S false (.rangeFunc g ps U W) (λst=>match sy S.N st.g x with
 |some (.v (.clo f x y))=>match S.items f x y with
  |some xs=>(rD (jx ps.toList A B st) xs st.m).map λ(o,m)=>(o,{st with m:=m})|none=>none
 |_=>none):=by
 intro st o st' h J ν Z F H y r j;dsimp only at h;split at h
 .rename_i f a b ad;split at h
  .rename_i xs ae;have⟨⟨p,s⟩,hE,e⟩:=ζf.1 h;simp only[ζc]at e;obtain⟨rfl,rfl⟩:=e;have⟨yv,hy,ry⟩:=FU gd.N r.slot hx ad;obtain⟨a',b',rfl,ra,rb⟩:=ry.fr.kU;have⟨M,more,Q,hR⟩:=EL hE;generalize I:(⟨.ready,none,F,X.nt,ps.toList,U,W⟩:xB)=u;have z:∀i,i<H.length->(H++[Ob.loop u])[i]?=H[i]?:=λi hi=>List.getElem?_append_left hi
   have C:∀i,Z i->bt (H++[Ob.loop u]) i=bt H i:=λi hi=>by unfold bt;rw[z i (r.xM hi)]
   have r0:R ν Z (UN st st.m) F (H++[Ob.loop u]):=by have:=r.heap (H':=H++[Ob.loop u]) (λi hi=>z i (r.lt hi)) C;exact⟨this.slot,this.obj,this.inj,this.apart,this.zrow,this.deep⟩
   have D:∀i,Z i->Z i/\bt (H++[Ob.loop u]) i=bt H i:=λi hi=>⟨hi,C i hi⟩
   have j0:JI X st F ν (gm ν st.m) Z H H.length ps.toList U W (jx ps.toList A B st) p s more M (λ_=>False) Z (H++[Ob.loop u]):=by refine⟨st.m,ν,Z,u,r0,⟨rfl,Zab,λi k _ _=>z i k,λi hi=>⟨hi,C i hi⟩,λi hi=>.inl hi,λi hi=>.inl hi⟩,λi hi=>hi.elim,λi hi=>⟨λt=>?_,Nat.ne_of_lt (r.xM hi),.inl hi⟩,λt=>absurd (r.lt t) Zab,λhz=>absurd (r.xM hz) Zab,le_refl _,Zab,?_,λd _ af h=>⟨af,h,rfl,.refl _⟩,.inl ⟨hR,?_,?_⟩⟩;obtain⟨d,ob,g1,g2,rfl⟩:=t;exact r.apart d ob g1 g2 hi;subst I;exact⟨rfl,rfl,rfl,rfl,rfl⟩;subst I;rfl;subst I;rfl
   have ah:Yc S (JI X st F ν (gm ν st.m) Z H H.length ps.toList U W (jx ps.toList A B st) p s more) more H.length:=⟨λw O Z1 H1 O' Z' H' v k Y l E h5=>JI.xY v k Y l E h5,λx1 aj O Z1 H1 args v k Y l E=>JI.yield S hA hB ab v k Y l E⟩
   have⟨n,yy,H',O',Z',e1,e2⟩:=V f a b xs ae M more Q H.length _ ah Z a' b' (H++[Ob.loop u]) (ra.mono D) (rb.mono D) (λi hi=>by rw[C i hi];exact r.zrow i hi) (r.deep.mono C) j0
   have⟨m1,νb,N,K,r1,⟨_,k2,k3,k4,k5,k6⟩,_,_,l1,l2,l3,P,_,l6,l7⟩:=e2;have aa:m1=s/\(K.st=.ready\/K.st=.done)/\K.pend.getD .norm=p:=by rcases l7 with⟨g1,g2,g3⟩|⟨_,g1,g2,g3⟩;(cases g1 with|nil hn=>exact⟨rfl,.inl g2,by rw[g3,hn];rfl⟩);exact⟨g1,.inr g2,by rw[g3];rfl⟩
   obtain⟨rfl,c,T⟩:=aa;have ak:H.length<H'.length:=(ζe.1 P).1;have G:∀i,i≠H.length->(H'.set H.length .dead)[i]?=H'[i]?:=λi ai=>by rw[List.getElem?_set,if_neg (Ne.symm ai)]
   have L:∀i,N i->bt (H'.set H.length .dead) i=bt H' i:=λi hi=>by unfold bt;rw[G i λe=>l2 (e▸hi)]
   have r2:=r1.heap (H':=H'.set H.length .dead) (λi hi=>G i λe=>l1 (e▸hi)) L
   refine⟨n,F,H'.set H.length .dead,νb,N,λq hq=>?_,⟨r2.slot,r2.obj,r2.inj,r2.apart,r2.zrow,r2.deep⟩,?_,⟨λd hd=>l6 d (List.mem_append_left _ hd),rfl,rfl,rfl⟩⟩
   .simp only[exec,hy];rw[I,e1 q hq];simp only[P];rcases c with c|c<;>rw[c]<;>simp only[T]
   refine y.xY _ _ _ _ _ _ _ j (by simp only[List.length_set];omega) (λi k Y l=>by rw[G i Zaa,k3 i k Y l]) (λi hi=>⟨(k4 i hi).1,by rw[L i (k4 i hi).1,(k4 i hi).2]⟩) k5 k6
  simp at h
 simp at h
end
end Go.VE
namespace Go.VE
variable[b8]
def lg(st:St):aZ RV->a_ So
 |[]=>some []|.s n::r=>match bn st.g n,lg st r with
  |some x,some l=>some (x::l)|_,_=>none
 |.ld n size agg::r=>match(bn st.g n).bind λp=>oN st.m (.load size agg) [p],lg st r with
  |some x,some l=>some (x::l)|_,_=>none
noncomputable def oh(S:Sys)(c:cm)(rf:RF)(svs:So)(B:dK):a_ (So×dK):=
 if svs.length<=rf.na then
  match cR S c rf.body (start svs B)with
  |some (.exit _,_)=>none|some (_,st)=>(lg st rf.rs).map λrs=>(rs,st.m)|none=>none
 else none
def CM(E:Env):ResultVar->a_ RV
 |.tmp t=>some (.s t)|.cell a t=>(E.tt t).map λd=>.ld a d.size d.agg
def yx(E:Env)(nm:Y'->a_ Nat)(fi:FI)(rf:RF):Prop:=bW ⟨E,nm,fi.ntmps⟩ false fi.body=some (erase rf.body)/\fi.results.mapM (CM E)=some rf.rs/\rf.na=fi.ntmps
section
variable{ν ν' ν2:Nu}{Z Z':Nat->Prop}{st st' st2:St}{m m':Tb bM}{F F':WP}{H H' H1:bp}{S:Sys}{c:cm}{X:CX}{J:JT}
theorem MU (gd:Good X S) (hS:jQ S c) (hI:∀f a b xs,S.items f a b=some xs->eS S f a b xs):∀(rc:RC) (ro:Bool) (code:Code),bW X ro code=some (erase rc)->ue X S ro code (cR S c rc):=by
 intro rc
 induction rc with
 | skip=>
  intro ro code hc st o st' h J ν Z F H y r j;obtain⟨rfl,rfl⟩:=h;simp[erase]at hc;have:∀k,exec S.E (run S.E k) k ro X.nt code F H=some (.norm,F,H):=λk=>by
   cases code with
   | skip=>rfl
   | label _=>rfl
   | region id ops w=>
    simp[bW]at hc;split at hc
    .simp_all
    simp_all
   | seq a b=>simp[bW]at hc;grind
   | cond x a b=>simp[bW]at hc;grind
   | block id b=>simp only[bW]at hc;simp_all
   | loop b=>simp only[bW]at hc;simp_all
   | rangeFunc g ps O Q=>
    simp[bW]at hc
    grind
   | _=>simp[bW]at hc
  exact⟨0,F,H,ν,Z,λk _=>this k,r,j,.refl⟩
 | ops l=>
  intro ro code hc;simp[erase]at hc
  cases code with
  | region id ops w=>
   simp[bW]at hc;split at hc
   .simp_all
   rename_i hd;obtain⟨l',hl,e⟩:=ζf.1 hc;cases e;intro st o st' h J ν Z F H y r j;obtain⟨z,h1,e⟩:=ζf.1 h;obtain⟨rfl,rfl⟩:=e;obtain⟨n,F',H',ν',Z',e1,e2,e3,e4⟩:=Rx gd hS _ hl h1 y r j;refine⟨n,F',H',ν',Z',λk hk=>?_,e2,e3,e4⟩
   simp[exec,kq,hd,e1 k hk]
  | seq a b=>simp[bW]at hc;grind
  | cond x a b=>simp[bW]at hc;grind
  | block id b=>simp only[bW]at hc;simp_all
  | loop b=>obtain⟨_,_,e⟩:=ζf.1 hc;cases e
  | rangeFunc g ps O Q=>
   simp only[bW]at hc;split at hc
   .simp at hc
   split at hc <;> simp at hc
  | _=>simp[bW]at hc
 | qK l=>
  intro ro code hc;simp[erase]at hc
  cases code with
  | region id ops w=>
   simp only[bW]at hc;split at hc
   .rename_i hd;subst hd;split at hc
    next aa=>obtain⟨l',hl,e⟩:=ζf.1 hc;cases e;have:=PB (ro:=ro) (id:=id) gd hS hl aa;intro st o st' h;exact this st o st' h
    simp at hc
   obtain⟨_,_,e⟩:=ζf.1 hc;cases e
  | seq a b=>simp[bW]at hc;split at hc <;> simp at hc
  | cond x a b=>simp[bW]at hc;split at hc <;> simp at hc
  | block id b=>obtain⟨_,_,e⟩:=ζf.1 hc;cases e
  | loop b=>obtain⟨_,_,e⟩:=ζf.1 hc;cases e
  | rangeFunc g ps O Q=>
   simp only[bW]at hc;split at hc
   .simp at hc
   split at hc <;> simp at hc
  | _=>simp[bW]at hc
 | seq a b u I=>
  intro ro code hc;simp[erase]at hc
  cases code with
  | seq T cb=>
   simp[bW]at hc;split at hc
   .rename_i xa xb L W;simp[RC.seq.injEq]at hc;obtain⟨rfl,rfl⟩:=hc;intro st o st' h J ν Z F H y r j;simp[cR]at h;split at h
    .rename_i z U;obtain⟨G,F1,H1,B,C,a1,a2,a3,a4⟩:=u ro T L st .norm z U J ν Z F H y r j;obtain⟨n2,F2,H2,ν2,Z2,b1,b2,b3,b4⟩:=I ro cb W z o st' h J B C F1 H1 (by rw[a4.more,a4.yid];exact y) a2 a3
     refine⟨max G n2,F2,H2,ν2,Z2,λq D=>?_,b2,b3,a4.trans b4⟩
     simp[exec,a1 q (Nat.le_trans (Nat.le_max_left _ _) D)];exact b1 q (Nat.le_trans (Nat.le_max_right _ _) D)
    rename_i U;obtain⟨G,F1,H1,B,C,a1,a2,a3,a4⟩:=u ro T L st o st' h J ν Z F H y r j;refine⟨G,F1,H1,B,C,λq D=>?_,a2,a3,a4⟩
    simp[exec,a1 q D];cases o <;> first|exact absurd h (U st')|rfl
   simp at hc
  | region id ops w=>
   simp[bW]at hc;split at hc
   .split at hc
    .obtain⟨_,_,e⟩:=ζf.1 hc;cases e
    simp at hc
   obtain⟨_,_,e⟩:=ζf.1 hc;cases e
  | cond x a b=>simp[bW]at hc;split at hc <;> simp at hc
  | block id b=>simp only[bW]at hc;obtain⟨_,_,e⟩:=ζf.1 hc;cases e
  | loop b=>simp only[bW]at hc;obtain⟨_,_,e⟩:=ζf.1 hc;cases e
  | rangeFunc g ps O Q=>
   simp only[bW]at hc;split at hc
   .simp at hc
   split at hc <;> simp at hc
  | _=>simp[bW]at hc
 | cond x a b u I=>
  intro ro code hc;simp[erase]at hc
  cases code with
  | cond g T cb=>
   simp[bW]at hc;split at hc
   .rename_i xg xa xb hg L W;simp[RC.cond.injEq]at hc;obtain⟨rfl,rfl,rfl⟩:=hc;intro st o st' h J ν Z F H y r j;simp[cR]at h;split at h
    .rename_i t ht;obtain⟨yv,hy,ry⟩:=FU gd.N r.slot hg ht;rw[ry.fr.bool]at hy;split at h
     .rename_i W;obtain⟨G,F1,H1,B,C,a1,a2,a3,a4⟩:=u ro T L st o st' h J ν Z F H y r j;refine⟨G,F1,H1,B,C,λq D=>?_,a2,a3,a4⟩
      simp[exec,hy,W];exact a1 q D
     rename_i W;obtain⟨G,F1,H1,B,C,a1,a2,a3,a4⟩:=I ro cb (by assumption) st o st' h J ν Z F H y r j
     refine⟨G,F1,H1,B,C,λq D=>?_,a2,a3,a4⟩
     simp[exec,hy,W];exact a1 q D
    simp at h
   simp at hc
  | region id ops w=>
   simp[bW]at hc;split at hc
   .split at hc
    .obtain⟨_,_,e⟩:=ζf.1 hc;cases e
    simp at hc
   obtain⟨_,_,e⟩:=ζf.1 hc;cases e
  | seq a b=>simp[bW]at hc;split at hc <;> simp at hc
  | block id b=>simp only[bW]at hc;obtain⟨_,_,e⟩:=ζf.1 hc;cases e
  | loop b=>simp only[bW]at hc;obtain⟨_,_,e⟩:=ζf.1 hc;cases e
  | rangeFunc g ps O Q=>
   simp only[bW]at hc;split at hc
   .simp at hc
   split at hc <;> simp at hc
  | _=>simp[bW]at hc
 | block id a u=>
  intro ro code hc;simp[erase]at hc
  cases code with
  | block ab T=>
   simp only[bW]at hc;obtain⟨xa,L,e⟩:=ζf.1 hc;simp[RC.block.injEq]at e;obtain⟨rfl,rfl⟩:=e;intro st o st' h J ν Z F H y r j;simp[cR]at h;split at h
   .rename_i ad z U;obtain⟨G,F1,H1,B,C,a1,a2,a3,a4⟩:=u ro T L st (.exit ad) z U J ν Z F H y r j;split at h
    .rename_i e;simp  at h;obtain⟨rfl,rfl⟩:=h;refine⟨G,F1,H1,B,C,λq D=>?_,a2,a3,a4⟩
     simp[exec,a1 q D,if_pos e]
    rename_i e;simp  at h;obtain⟨rfl,rfl⟩:=h;refine⟨G,F1,H1,B,C,λq D=>?_,a2,a3,a4⟩
    simp[exec,a1 q D,if_neg e]
   rename_i U;obtain⟨G,F1,H1,B,C,a1,a2,a3,a4⟩:=u ro T L st o st' h J ν Z F H y r j;refine⟨G,F1,H1,B,C,λq D=>?_,a2,a3,a4⟩
   simp[exec,a1 q D];cases o <;> first|exact absurd h (U _ st')|rfl
  | region id ops w=>
   simp[bW]at hc;split at hc
   .split at hc
    .obtain⟨_,_,e⟩:=ζf.1 hc;cases e
    simp at hc
   obtain⟨_,_,e⟩:=ζf.1 hc;cases e
  | seq a b=>simp[bW]at hc;split at hc <;> simp at hc
  | cond x a b=>simp[bW]at hc;split at hc <;> simp at hc
  | loop b=>simp only[bW]at hc;obtain⟨_,_,e⟩:=ζf.1 hc;cases e
  | rangeFunc g ps O Q=>
   simp only[bW]at hc;split at hc
   .simp at hc
   split at hc <;> simp at hc
  | _=>simp[bW]at hc
 | loop a u=>
  intro ro code hc;simp[erase]at hc
  cases code with
  | loop T=>
   simp only[bW]at hc;obtain⟨xa,L,e⟩:=ζf.1 hc;simp[RC.loop.injEq]at e;subst e;have:=VV (u ro T L);intro st o st' h;simp[cR]at h;exact this st o st' h
  | region id ops w=>
   simp[bW]at hc;split at hc
   .split at hc
    .obtain⟨_,_,e⟩:=ζf.1 hc;cases e
    simp at hc
   obtain⟨_,_,e⟩:=ζf.1 hc;cases e
  | seq a b=>simp[bW]at hc;split at hc <;> simp at hc
  | cond x a b=>simp[bW]at hc;split at hc <;> simp at hc
  | block id b=>simp only[bW]at hc;obtain⟨_,_,e⟩:=ζf.1 hc;cases e
  | rangeFunc g ps O Q=>
   simp only[bW]at hc;split at hc
   .simp at hc
   split at hc <;> simp at hc
  | _=>simp[bW]at hc
 | each x ps a b u I=>
  intro ro code hc;simp[erase]at hc
  cases code with
  | rangeFunc g af O Q=>
   simp only[bW]at hc;split at hc
   .simp at hc
   rename_i Y;simp only[Bool.or_eq_true,not_or,Bool.not_eq_true,Bool.not_eq_false']at Y;obtain⟨rfl,ae⟩:=Y;split at hc
   next xg xa xb hg L W=>simp[RC.each.injEq]at hc;obtain⟨rfl,rfl,rfl,rfl⟩:=hc;have:=Wv gd hI ae hg (u true O L) (I true Q W);intro st o st' h;simp only[cR]at h;exact this st o st' h
   simp at hc
  | region id ops w=>
   simp only[bW]at hc;split at hc
   .split at hc
    .obtain⟨_,_,e⟩:=ζf.1 hc;cases e
    simp at hc
   obtain⟨_,_,e⟩:=ζf.1 hc;cases e
  | seq a b=>simp only[bW]at hc;split at hc <;> simp at hc
  | cond x a b=>simp only[bW]at hc;split at hc <;> simp at hc
  | block id b=>simp only[bW]at hc;obtain⟨_,_,e⟩:=ζf.1 hc;cases e
  | loop b=>simp only[bW]at hc;obtain⟨_,_,e⟩:=ζf.1 hc;cases e
  | _=>simp[bW]at hc
 | exit id=>
  intro ro code hc st o st' h J ν Z F H y r j;simp only[cR,ζa,ζc]at h;obtain⟨rfl,rfl⟩:=h;simp only[erase]at hc;have:∀k,exec S.E (run S.E k) k ro X.nt code F H=some (.exit id,F,H):=λk=>by
   cases code with
   | exit ab=>simp only[bW,ζa,RC.exit.injEq]at hc;subst hc;rfl
   | region id ops w=>
    simp only[bW]at hc;split at hc
    .split at hc
     .obtain⟨_,_,e⟩:=ζf.1 hc;cases e
     simp at hc
    obtain⟨_,_,e⟩:=ζf.1 hc;cases e
   | seq a b=>simp only[bW]at hc;split at hc <;> simp at hc
   | cond x a b=>simp only[bW]at hc;split at hc <;> simp at hc
   | block id b=>simp only[bW]at hc;obtain⟨_,_,e⟩:=ζf.1 hc;cases e
   | loop b=>simp only[bW]at hc;obtain⟨_,_,e⟩:=ζf.1 hc;cases e
   | rangeFunc g ps O Q=>
    simp only[bW]at hc;split at hc
    .simp at hc
    split at hc <;> simp at hc
   | _=>simp[bW]at hc
  exact⟨0,F,H,ν,Z,λk _=>this k,r,j,.refl⟩
 | ret=>
  intro ro code hc st o st' h J ν Z F H y r j;simp only[cR,ζa,ζc]at h;obtain⟨rfl,rfl⟩:=h;simp only[erase]at hc;have:∀k,exec S.E (run S.E k) k ro X.nt code F H=some (.ret,F,H):=λk=>by
   cases code with
   | ret=>rfl
   | region id ops w=>
    simp only[bW]at hc;split at hc
    .split at hc
     .obtain⟨_,_,e⟩:=ζf.1 hc;cases e
     simp at hc
    obtain⟨_,_,e⟩:=ζf.1 hc;cases e
   | seq a b=>simp only[bW]at hc;split at hc <;> simp at hc
   | cond x a b=>simp only[bW]at hc;split at hc <;> simp at hc
   | block id b=>simp only[bW]at hc;obtain⟨_,_,e⟩:=ζf.1 hc;cases e
   | loop b=>simp only[bW]at hc;obtain⟨_,_,e⟩:=ζf.1 hc;cases e
   | rangeFunc g ps O Q=>
    simp only[bW]at hc;split at hc
    .simp at hc
    split at hc <;> simp at hc
   | _=>simp[bW]at hc
  exact⟨0,F,H,ν,Z,λk _=>this k,r,j,.refl⟩
 | gh x a u=>
  intro ro code hc;simp only[erase]at hc;intro st o st' h J ν Z F H y r j;simp only[cR]at h;obtain⟨z,h1,h2⟩:=ζg.1 h;obtain⟨B,C,g1,g2,g3⟩:=Fix.ghost r y j h1;obtain⟨n,F',H',ν',Z',e1,e2,e3,e4⟩:=u ro code hc z o st' h2 J B C F H (by rw[g3.more,g3.yid];exact y) g1 g2
  exact⟨n,F',H',ν',Z',e1,e2,e3,g3.trans e4⟩
 | hg a x u=>
  intro ro code hc;simp only[erase]at hc;intro st o st' h J ν Z F H y r j;simp only[cR]at h;split at h
  .rename_i z U;obtain⟨st2,h1,e⟩:=ζf.1 h;simp only[ζc]at e;obtain⟨rfl,rfl⟩:=e;obtain⟨n,F',H',ν',Z',e1,e2,e3,e4⟩:=u ro code hc st .norm z U J ν Z F H y r j;obtain⟨B,C,g1,g2,g3⟩:=Fix.ghost e2 (by rw[e4.more,e4.yid];exact y) e3 h1
   exact⟨n,F',H',B,C,e1,g1,g2,e4.trans g3⟩
  exact u ro code hc st o st' h J ν Z F H y r j
end
abbrev qN:=FuncId->a_ RF
def BF(E:Env)(f:Y')(az:T2)(y:V):Prop:=∃n z H' Z,run E n (.fn f) az []=some (z,H')/\FR H' Z y z/\(∀id,Z id->(bt H' id).isSome=true)/\Deep H' Z
structure rJ(S:Sys)(T:qN):Prop where
 fn:∀f rf,T f=some rf->∃fi nm,S.E.ft f=some fi/\(∀g s,nm g=some s->S.N s=g)/\yx S.E nm fi rf
 yH:∀f az y,S.yH f az=some y->BF S.E f az y
 prm:∀f q,S.prm f=some q->nr S.E f q
def Uj(S:Sys)(f:Y')(svs:So)(B:dK):a_ (So×dK):=
 if S.E.keep f then none else match dB svs,B with
  |some az,[]=>(S.yH f az).map λy=>([.v y],[])|_,_=>none
noncomputable def mJ(S:Sys)(T:qN):Nat->cm
 |0=>λ_ _ _=>none|n+1=>λf svs B=>match T f with
  |some rf=>oh S (mJ S T n) rf svs B|none=>Uj S f svs B
section
variable{ν ν' ν2:Nu}{Z Z':Nat->Prop}{st st' st2:St}{m m':Tb bM}{F F':WP}{H H' H1:bp}{S:Sys}{c c':cm}{X:CX}{J:JT}{T:qN}
def CT(r:R ν Z st F H){nm:Y'->a_ Nat}:∀{B:aZ ResultVar}{rs:aZ RV}{l:So},B.mapM (CM S.E)=some rs->lg st rs=some l->∃ys,iK S.E F H B=some ys/\cn ν st.m H Z l ys
 |[],rs,l,hc,h=>by simp at hc;subst hc;simp[lg]at h;subst h;exact⟨[],rfl,.nil⟩|rv::B,rs,l,hc,h=>by simp[ζg]at hc;obtain⟨x,D,ys,G,rfl⟩:=hc;cases rv with|tmp t=>simp[CM]at D;subst D;simp[lg]at h;split at h;(next v I b u=>simp at h;subst h;have⟨w,e1,e2⟩:=CT r (nm:=nm) G u;exact⟨get F t::w,by simp[iK,e1],.cons (r.slot t v b) e2⟩);grind|cell a t=>simp[CM]at D;obtain⟨d,hd,rfl⟩:=D;simp[lg]at h;split at h;rename_i v I b u;simp at h;subst h;have⟨p,J,b⟩:=ζg.1 b;have⟨w,e1,e2⟩:=CT r (nm:=nm) G u;have⟨y,g1,g2⟩:=xL (λs a e=>by cases e) (λkk z ok e=>by cases e) (cn.cons (r.slot a p J) .nil) (λL _ ob C=>r.obj L ob C) b;simp[fA]at g1;exact⟨y::w,by simp[iK,hd,e1,g1],.cons g2 e2⟩;grind
def L4(G:∀f q,S.prm f=some q->nr S.E f q)(j:jQ S c)(J:∀f a b xs,S.items f a b=some xs->eS S f a b xs){f:Y'}{fi:FI}{nm:Y'->a_ Nat}{rf:RF}(D:S.E.ft f=some fi)(U:∀g s,nm g=some s->S.N s=g)(k:yx S.E nm fi rf)
 {svs:So}{B:dK}{rs:So}{m1:dK}(h:oh S c rf svs B=some (rs,m1)){args:T2}(r:R ν Z (start svs B) args H)(W:cn ν B H Z svs args):
 ∃n y H' ν' Z' st' F' ys,run S.E n (.fn f) args H=some (y,H')/\y=result ys/\st'.m=m1/\cn ν' m1 H' Z' rs ys/\R ν' Z' st' F' H'/\Ev (λ_=>False) ν Z (start svs B) H ν' Z' st' H':=by
 have⟨m,z,C⟩:=k;unfold oh at h;split at h
 .have key:∀o st',cR S c rf.body (start svs B)=some (o,st')->(∀id,o≠.exit id)->(lg st' rf.rs).map (λrs=>(rs,st'.m))=some (rs,m1)->
   ∃n y H' ν' Z' st' F' ys,run S.E n (.fn f) args H=some (y,H')/\y=result ys/\st'.m=m1/\cn ν' m1 H' Z' rs ys/\R ν' Z' st' F' H'/\Ev (λ_=>False) ν Z (start svs B) H ν' Z' st' H':=λo st' I t w=>by
   have⟨l,d,e⟩:=ζf.1 w;obtain⟨rfl,rfl⟩:=e;have⟨n,F',H',ν',Z',e1,e2,e3,e4⟩:=MU ⟨rfl,U,G⟩ j J rf.body false fi.body m _ _ _ I (vS (gm ν (start svs B).m) Z H) ν Z args H vS.yc r (vS.refl r);have⟨ys,p1,p2⟩:=CT (nm:=nm) e2 z d;have⟨_,L,O,Q,T,X⟩:=e3;refine⟨n+1,result ys,H',ν',Z',st',F',ys,?_,rfl,rfl,p2,e2,⟨L,λi d Y p _=>O i d Y p,Q,λi h=>(T i h).imp (λh=>h) .inr,λi h=>(X i h).imp (λh=>h) (.imp (λh=>h) .inr),e4.pin,e4.pins⟩⟩
   have u:args.length<=fi.ntmps:=by rw[<-W.1,<-C];omega
   simp[run,kB,D,if_pos u,e1 n (le_refl _)]
   grind
  grind
 grind
def FR.emp{x y:V}(G:∀id,¬Z id)(r:FR H Z x y):x=y:=by
 have B:∀{a w:T2},a.length=w.length->(∀(j:Nat)u v,a[j]?=some u->w[j]?=some v->u=v)->a=w:=λ{a w}h1 z=>by apply List.ext_getElem h1;intro i p q;exact z i _ _ (ζd p) (ζd q)
 induction r with|same x h=>rfl|fsl es C id off D h=>grind|fptr C id el off es D cs h=>grind|clo f a b w I h1 z _ _ i1 i2=>rw[B h1 i1,B z i2]|agg a w h1 _ i1=>grind|tup a w h1 _ i1=>grind
def cn.emp(B:∀id,¬Z id):∀{xs ys:T2},cn ν m H Z (xs.map .v) ys->xs=ys
 |[],ys,h=>h.dg.symm|x::xs,ys,h=>by obtain⟨y,ys,rfl,a,D⟩:=h.inv;rw[FR.emp B a.fr,cn.emp B D]
def Dd(B:rJ S T)(U:∀f a b xs,S.items f a b=some xs->eS S f a b xs):∀n,jQ S (mJ S T n)
 |0=>λf svs Y rs m1 h=>by simp[mJ]at h|n+1=>λf svs Y rs m1 h ν Z args H W r D=>by simp[mJ]at h;split at h;(next rf G=>have⟨fi,nm,c,g,i⟩:=B.fn f rf G;exact L4 B.prm (Dd B U n) U c g i h r D);unfold Uj at h;split at h;simp_all;split at h;rename_i az O;have⟨y,Q,e⟩:=ζf.1 h;obtain⟨rfl,rfl⟩:=e;have⟨k,z,H',X,w,C,I,jL⟩:=B.yH f az y Q;rcases W with W|rfl;grind;have L:∀id,¬Z id:=λid J=>(by have:=r.zrow id J;simp[bt]at this);have u:=(by rw[wm O]at D;exact(cn.emp L D).symm);subst u;refine⟨k,z,H',λ_=>(0,0),X,⟨[],[],[],[],true,0⟩,[],[z],w,rfl,rfl,cn.cons (.v y z C) .nil,?_,?_⟩;exact⟨λs sv h=>by simp[bn]at h,λd ob h=>by simp[bn]at h,λd j ob l h=>by simp[bn]at h,λd ob h=>by simp[bn]at h,I,jL⟩;exact⟨Nat.zero_le _,λid h=>Zad,λid h=>absurd h (L id),λid h=>Zac,λid h=>.inr (.inr (.inr (Nat.zero_le _))),λd h=>by simp[start]at h,rfl⟩;grind
abbrev NF:=aZ ((FuncId×aZ SV×dK)×(aZ SV×dK))
def EV(c:cm)(L:NF):Prop:=∀p∈L,c p.1.1 p.1.2.1 p.1.2.2=some p.2
def Fin{α:Type}(c:cm)(f:cm->a_ α)(r:α):Prop:=∃L:NF,EV c L/\∀c',EV c' L->f c'=some r
def Fin.pure{α:Type}{f:cm->a_ α}{r:α}(h:∀c',f c'=some r):Fin c f r:=⟨[],λp u=>Zad,λc' _=>h c'⟩
def Fin.bind{α β:Type}{f:cm->a_ α}{r:α}{g:cm->a_ β}{q:β}(b:Fin c f r)(B:cm->α->a_ β)(D:Fin c (λc=>B c r) q)(d:∀c',f c'=some r->g c'=B c' r):Fin c g q:=by have⟨L1,a1,w⟩:=b;have⟨L2,a2,z⟩:=D;refine⟨L1++L2,λp u=>(List.mem_append.1 u).elim (a1 p) (a2 p),λc' a=>?_⟩;rw[d c' (w c' λp u=>a p (List.mem_append_left _ u))];exact z c' λp u=>a p (List.mem_append_right _ u)
def Fin.call{f:Y'}{svs:So}{B:dK}{r:So×dK}(h:c f svs B=some r):Fin c (λc=>c f svs B) r:=⟨[((f,svs,B),r)],λp u=>Zac,λc' a=>a ((f,svs,B),r) Zab⟩
def Hj{dst:a_ Nat}{dr now:X'}{old:So->X'}{f:Y'}{args:So}{r:SV×St}(h:fu S c dst dr now old f args st=some r):Fin c (λc=>fu S c dst dr now old f args st) r:=by have b:=h;unfold fu at h;split at h;split at h;split at h;split at h;split at h;rename_i rs m' a;refine(Fin.call a).bind (λc' q=>fu S c dst dr now old f args st) (.pure λ_=>b) (λc' u=>?_);unfold fu;grind;grind;grind;rename_i w;split at h;rename_i q z;refine .pure λc'=>?_;unfold fu;simp_all;rename_i z;split at h;rename_i os D;split at h;rename_i rs m' a;refine(Fin.call a).bind (λc' q=>fu S c dst dr now old f args st) (.pure λ_=>b) (λc' u=>?_);unfold fu;clear h b;simp[*];grind;grind;split at h;split at h;split at h;rename_i rs m' a;refine(Fin.call a).bind (λc' q=>fu S c dst dr now old f args st) (.pure λ_=>b) (λc' u=>?_);unfold fu;simp_all;grind;grind;grind;rename_i d;split at h;rename_i az B;split at h;rename_i C;split at h;rename_i rs m' a;refine(Fin.call a).bind (λc' q=>fu S c dst dr now old f args st) (.pure λ_=>b) (λc' u=>?_);unfold fu;simp[d,B,C,a,u];grind;grind;grind
def We{dr:X'}{fr:S'}{o:RO}{r:SV×St}(h:mV S c dr fr o st=some r):Fin c (λc=>mV S c dr fr o st) r:=by have d:=h;unfold mV at h;split at h;rename_i z u;split at h;refine .pure λc'=>?_;have a:=d;unfold mV at a⊢;rename_i b;simp only[u,b]at a⊢;exact a;refine .pure λc'=>?_;have a:=d;unfold mV at a⊢;rename_i B b;simp only[u,b]at a⊢;exact a;refine .pure λc'=>?_;have a:=d;unfold mV at a⊢;rename_i b;simp only[u,b]at a⊢;exact a;refine .pure λc'=>?_;have a:=d;unfold mV at a⊢;rename_i b;simp only[u,b]at a⊢;exact a;refine .pure λc'=>?_;have a:=d;unfold mV at a⊢;rename_i b;simp only[u,b]at a⊢;exact a;rename_i b;split at h;refine(Hj h).bind (λ_ q=>some q) (.pure λ_=>rfl) (λc' w=>?_);unfold mV;simp only[u,b,w];refine(Hj h).bind (λ_ q=>some q) (.pure λ_=>rfl) (λc' w=>?_);unfold mV;simp only[u,b,w];simp at h;refine .pure λc'=>?_;have a:=d;unfold mV at a⊢;rename_i b;simp only[u,b]at a⊢;exact a;refine .pure λc'=>?_;have a:=d;unfold mV at a⊢;rename_i b;simp only[u,b]at a⊢;exact a;simp at h
def Xd{dr:X'}{fr:S'}{o:RO}{r:St}(h:f_ S c dr fr o st=some r):Fin c (λc=>f_ S c dr fr o st) r:=by unfold f_ at h;split at h;split at h;refine .pure λc'=>?_;unfold f_;grind;have⟨q,u,e⟩:=ζf.1 h;refine(We u).bind (λ_ q=>some (cW q.2 o.dst q.1)) (.pure λ_=>Zad) (λc' w=>?_);unfold f_;grind;refine .pure λc'=>?_;unfold f_;grind;grind
def D5{dr:X'}:∀{l:SW}{fr:S'}{st r:St},oE S c dr fr l st=some r->Fin c (λc=>oE S c dr fr l st) r
 |[],fr,st,r,h=>.pure λ_=>h|o::l,fr,st,r,h=>by simp[oE]at h;split at h;(next D B=>have⟨G,a,B⟩:=ζg.1 B;exact(Xd B).bind (λc' q=>oE S c' dr (if dr then sK fr o.strip else fr) l (qM o.dead q)) (D5 h) (λc' u=>by simp[oE,a,u]));grind
def Hi{f:cm->St->a_ (Out×St)}(D:∀st r,f c st=some r->Fin c (λc=>f c st) r):∀{k:Nat}{st:St}{r:Out×St},jZ (f c) k st=some r->Fin c (λc=>jZ (f c) k st) r
 |0,st,r,h=>by simp[jZ]at h|k+1,st,r,h=>by simp[jZ]at h;split at h;(next G J=>exact(D st _ J).bind (λc' q=>jZ (f c') k G) (Hi D h) (λc' B=>by simp[jZ,B]));refine(D st r h).bind (λ_ q=>some q) (.pure λ_=>rfl) (λc' B=>?_);simp[jZ,B];grind
def G7{f:cm->T2->Tb bM->a_ (Out×Tb bM)}(D:∀x m r,f c x m=some r->Fin c (λc=>f c x m) r):∀{xs:T'}{m:Tb bM}{r:Out×Tb bM},rD (f c) xs m=some r->Fin c (λc=>rD (f c) xs m) r
 |[],m,r,h=>.pure λ_=>h|x::xs,m,r,h=>by simp[rD]at h;split at h;(next m1 G=>exact(D x m _ G).bind (λc' q=>rD (f c') xs m1) (G7 D h) (λc' B=>by simp[rD,B]));refine(D x m r h).bind (λ_ q=>some q) (.pure λ_=>rfl) (λc' B=>?_);simp[rD,B];grind
def PF:∀{d:RC}{st:St}{r:Out×St},cR S c d st=some r->Fin c (λc=>cR S c d st) r:=by intro d;induction d with|skip=>exactλh=>.pure λ_=>h|exit id=>exactλh=>.pure λ_=>h|ret=>exactλh=>.pure λ_=>h|ops l=>intro st r h;simp only[cR]at h⊢;have⟨q,G,e⟩:=ζf.1 h;exact(D5 G).bind (λ_ q=>some (.norm,q)) (.pure λ_=>Zad) (λc' w=>Zac)|qK l=>intro st r h;simp only[cR]at h⊢;have⟨q,G,e⟩:=ζf.1 h;exact(D5 G).bind (λ_ q=>some (.norm,q)) (.pure λ_=>Zad) (λc' w=>Zac)|seq a b u C=>intro st r h;simp[cR]at h⊢;split at h;(next B D=>exact(u D).bind (λc' q=>cR S c' b B) (C h) (λc' w=>Zac));rename_i D;refine(u h).bind (λ_ q=>some q) (.pure λ_=>rfl) (λc' w=>?_);grind|cond x a b u C=>intro st r h;simp[cR]at h⊢;grind|block id a u=>intro st r h;simp[cR]at h⊢;split at h;(next I B D=>exact(u D).bind (λc' q=>if I=id then some (.norm,B)else some (.exit I,B)) (.pure λ_=>h) (λc' w=>Zac));refine(u h).bind (λ_ q=>some q) (.pure λ_=>rfl) (λc' w=>?_);grind|loop a u=>intro st r h;have⟨k,j⟩:=oq.1 h;refine(Hi (λst r h=>u h) j).bind (λ_ q=>some q) (.pure λ_=>rfl) (λc' w=>?_);exact oq.2 ⟨k,w⟩|each g ps a b u C=>intro st r h;simp only[cR]at h⊢;split at h;split at h;have⟨q,G,e⟩:=ζf.1 h;refine(G7 (f:=λc=>jx ps (cR S c a) (cR S c b) st) (λz m r h=>?_) G).bind (λ_ q=>some (q.1,{st with m:=q.2})) (.pure λ_=>Zad) (λc' w=>Zac);unfold jx at h;split at h;split at h;rename_i B i;have⟨L,J,e2⟩:=ζf.1 h;refine(u i).bind (λc' q=>(cR S c' b B).map λ(o,st2)=>(o,st2.m)) ((C J).bind (λ_ q=>some (q.1,q.2.m)) (.pure λ_=>Zad) (λc' w=>Zac)) (λc' w=>?_);unfold jx;grind;grind;grind;grind;grind|gh x a u=>intro st r h;simp[cR]at h⊢;have⟨B,i,O⟩:=ζg.1 h;grind|hg a x u=>intro st r h;simp[cR]at h⊢;split at h;(next B D=>exact(u D).bind (λc' q=>(ghost x B).map λst=>(.norm,st)) (.pure λ_=>h) (λc' w=>Zac));refine(u h).bind (λ_ q=>some q) (.pure λ_=>rfl) (λc' w=>?_);grind
def Bk{rf:RF}{svs:So}{B:dK}{r:So×dK}(h:oh S c rf svs B=some r):Fin c (λc=>oh S c rf svs B) r:=by have a:=h;unfold oh at h;split at h;split at h;simp_all;rename_i o st u w;refine(PF w).bind (λc' q=>oh S c rf svs B) (.pure λ_=>a) (λc' z=>?_);unfold oh;grind;grind;grind
def FA:∀{n:Nat}{f:Y'}{svs:So}{B:dK}{r:So×dK},mJ S T n f svs B=some r->mJ S T (n+1) f svs B=some r
 |0,f,svs,B,r,h=>by simp[mJ]at h|n+1,f,svs,B,r,h=>by simp[mJ]at h;rw[mJ];split at h;(next rf D=>have⟨L,a,G⟩:=Bk h;simp[D];exact G _ λp u=>FA (a p u));grind
def D8{n k:Nat}(h:n<=k){f:Y'}{svs:So}{B:dK}{r:So×dK}(D:mJ S T n f svs B=some r):mJ S T k f svs B=some r:=by induction h with|refl=>omega|step _ u=>exact FA u
open Classical in
noncomputable def dm(S:Sys)(T:qN):cm:=λf u w=>if h:∃n r,mJ S T n f u w=some r then some (Classical.choose (choose_spec h))else none
def tC{f:Y'}{svs:So}{B:dK}{r:So×dK}:dm S T f svs B=some r↔∃n,mJ S T n f svs B=some r:=by unfold dm;constructor;intro h;split at h;grind;grind;rintro⟨k,a⟩;have u:∃n r,mJ S T n f svs B=some r:=⟨k,r,a⟩;have w:=choose_spec (choose_spec u);have z:=D8 (le_max_left (Classical.choose u) k) w;have C:=D8 (le_max_right (Classical.choose u) k) a;grind
def OC{L:NF}(h:EV (dm S T) L):∃n,∀k,n<=k->EV (mJ S T k) L:=by induction L with|nil=>exact⟨0,λk _ p hp=>Zad⟩|cons q L u=>have⟨w,b⟩:=tC.1 (h q Zab);have⟨z,B⟩:=u λp hp=>h p (List.mem_cons_of_mem _ hp);refine⟨max w z,λk a p hp=>?_⟩;rcases List.mem_cons.1 hp with rfl|hp;exact D8 (le_trans (le_max_left _ _) a) b;exact B k (le_trans (le_max_right _ _) a) p hp
def Hr{f:Y'}{az:T2}{y:V}(B:T f=none)(b:S.E.keep f=false)(h:S.yH f az=some y):dm S T f (az.map .v) []=some ([.v y],[]):=by
 refine tC.2 ⟨1,?_⟩;have u:dB (az.map .v)=some az:=by clear h;induction az with|nil=>rfl|cons a l w=>simp only[List.map_cons,dB,w];rfl
 simp only[mJ,B,Uj,b,u,h];rfl
def tu{f:Y'}{rf:RF}(D:T f=some rf)(svs:So)(B:dK):dm S T f svs B=oh S (dm S T) rf svs B:=by cases h:oh S (dm S T) rf svs B with|some r=>have⟨L,a,w⟩:=Bk h;have⟨n,u⟩:=OC a;refine tC.2 ⟨n+1,?_⟩;simp[mJ,D];grind|none=>cases w:dm S T f svs B with|none=>rfl|some r=>have⟨n,u⟩:=tC.1 w;cases n with|zero=>simp[mJ]at u|succ n=>simp[mJ,D]at u;have⟨L,z,C⟩:=Bk u;have I:=C (dm S T) λp G=>tC.2 ⟨n,z p G⟩;grind
def vM(B:rJ S T)(D:∀f a b xs,S.items f a b=some xs->eS S f a b xs):jQ S (dm S T):=λf u w rs z h=>by have⟨n,C⟩:=tC.1 h;exact Dd B D n f u w rs z C
def MB(W:∀f q,S.prm f=some q->nr S.E f q)(e:jQ S c){f:Y'}{fi:FI}{nm:Y'->a_ Nat}{rf:RF}(Y:∀f a b xs,S.items f a b=some xs->eS S f a b xs)(D:S.E.ft f=some fi)(l:∀g s,nm g=some s->S.N s=g)(p:yx S.E nm fi rf){a b:T2}{xs:T'}
 (U:a.length+1+b.length<=rf.na)(G:rf.rs=[])
 (h:∀B more,(more=true/\B=xs\/more=false/\B≠[]/\∃r,xs=B++r)->∀yid,∃o st',cR S c rf.body {g:=wH 0 (a.map .v++.yl yid::b.map .v),m:=[],pin:=[],want:=B,more:=more,yid:=yid}=some (o,st')/\(∀id,o≠.exit id)/\st'.want=[]/\st'.m=st'.m):
 eS S f a b xs:=by
 intro B more O yid J y Z z C H Q T X hd j;have⟨o,st',t,E,v,_⟩:=h B more O yid;have⟨x,w,I⟩:=p;have L:cn (λ_=>(0,0)) [] H Z (a.map .v++.yl yid::b.map .v) (z++.yld yid::C):=(cn.sS Q).append (.cons (.yl yid) (cn.sS T))
 have A:R (λ_=>(0,0)) Z {g:=wH 0 (a.map .v++.yl yid::b.map .v),m:=[],pin:=[],want:=B,more:=more,yid:=yid} (z++.yld yid::C) H:=⟨zm L,λd ob h=>by simp[bn]at h,λd F ob K h=>by simp[bn]at h,λd ob h=>by simp[bn]at h,X,hd⟩
 have⟨n,F',H',ν',Z',e1,e2,e3,e4⟩:=MU ⟨rfl,l,W⟩ e Y rf.body false fi.body x _ _ _ t J _ Z _ H y A (by
  refine y.xY _ _ _ _ _ _ _ j (le_refl _) (λ_ _ _ _=>rfl) (λi hi=>⟨hi,rfl⟩) (λi hi=>?_) (λi hi=>.inl hi)
  have⟨d,ob,h,_⟩:=hi;simp[bn]at h)
 rw[v]at e3;rw[G]at w;have⟨ys,p1,p2⟩:=CT (nm:=nm) e2 w rfl;refine⟨n+1,result ys,H',_,Z',λk M=>?_,e3⟩
 have u:(z++V.yld yid::C).length<=fi.ntmps:=by rw[<-L.1,<-I];simp;omega
 cases k with
 |zero=>omega|succ k=>
  simp[run,kB,D,if_pos u,e1 k Zaa]
  grind
def VB(B:rJ S T)(D:∀f a b xs,S.items f a b=some xs->eS S f a b xs){f:Y'}{az:T2}(d:V.cI az=true){y:V}{m':dK}(h:dm S T f (az.map .v) []=some ([.v y],m'))(G:y.scalar=true):
 ∃n H',run S.E n (.fn f) az []=some (y,H'):=by
 have⟨u,r1⟩:=yI d;obtain⟨n,I,H2,ν',Z',st',F',w,c,rfl,J,C,L,_⟩:=vM B D f _ _ _ _ h _ _ az [] (.inr rfl) u r1;obtain⟨z,w,rfl,e1,e2⟩:=C.inv;rw[e2.dg]at c;have:=(e1.fr.scalar).1 G;subst this;exact⟨n,H2,c⟩
end
end Go.VE
