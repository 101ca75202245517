/-
 The second layer: named objects in the place of rows; texts, calls, iterators.
-/
import Derived.Test.YtllofdfkekipeaaGreatDoorN1
set_option linter.all false
noncomputable section
open Nat(le_max_left le_max_right le_refl le_trans)
open Classical(choose_spec)
namespace Go.VE
variable[bT]
section
variable{ν ν' ν2:Nu}{Z Z':Nat->Prop}{st st' st2:St}{m m':Tb bE}{F F':Zo}{H H' H1:bl}{S:Sys}{c:bZ}{X:CX}{J:JT}
def LG(gd:Good X S)(O:jt S c){ro:Zl}{id:Nat}{ops:Array Oper}{l:Zy}(hc:kM X true ops.toList 0 ops.toList=some (l.map RO.strip))(G:(vi ops.toList&&Ad ops.toList)=true):
 sn X S ro (.region id ops true) (λst=>(mY S c true [] l st).map λst=>(.norm,st)):=by
 intro st o st' h J ν Z F H y r j;have⟨L,a,e⟩:=ζf.1 h;simp only[ζc]at e;obtain⟨rfl,rfl⟩:=e;generalize z:(if qY ops.toList then H++List.replicate ops.toList.length .free else H)=H0;generalize f:(if qY ops.toList then ops.toList.length else 0)=k;have w:∀i,i<H.length->H0[i]?=H[i]?:=λi u=>by rw[<-z];split;exact List.getElem?_append_left u;rfl
 have B:H.length<=H0.length:=by rw[<-z];split<;>simp
 have Q:R ν Z st F H0:=r.heap (λi u=>w i (r.lt u)) (λi u=>by unfold bq;rw[w i (r.vw u)])
 have C:∀q,0<=q->q<k->H0[H.length+q]?=some .free:=λq _ D=>by rw[<-f]at D;split at D;rename_i I;rw[<-z,if_pos I,List.getElem?_append_right Za];simp only[Nat.add_sub_cancel_left];rw[List.getElem?_replicate,if_pos D];omega
 have⟨n,F',H',ν',e1,e2,e3,e4,e5⟩:=Ni gd O (ops:=ops.toList) (b:=H.length) (k:=k) (λI=>by rw[<-f,if_pos I]) ops.toList.length (i:=0) (fr:=[]) Za (by simpa using hc) a Q B
  ⟨λd ob G T _=>r.lt ⟨d,ob,G,T,rfl⟩,λi u=>r.vw u⟩ C
 refine⟨n,F',H',ν',Z,λq D=>?_,e2,?_,e5⟩
 .simp only[exec,js,if_true,G,ζf,ζc,true_and];refine⟨(F',H'),?_,rfl,rfl⟩;rw[z];have:=e1 q D;rw[List.range_eq_range'];exact this
 rw[e4];refine y.wR _ _ _ _ _ _ _ j (le_trans B e3.len) (λi a U W=>by rw[e3.same i Za U W Za,w i a]) (λi u=>⟨u,by rw[(e3.rows i u).2];unfold bq;rw[w i (r.vw u)]⟩) (λi u=>?_) (λi u=>.inl u)
 rcases e3.own i u with h|h|h
 .exact .inl h
 .exact .inr h
 exact .inr Za
def SD{ro:Zl}{code:Code}{f:St->aZ (Out×St)}(U:sn X S ro code f):sn X S ro (.loop code) (oa f):=by
 intro st o st' h J ν Z F H y r j;have⟨k,a⟩:=mM.1 h;have key:∀k st ν Z F H,iX f k st=some (o,st')->Yc S J st.more st.yid->R ν Z st F H->J st.want (fq ν st.m) Z H->
  ∃n F' H' ν' Z',(∀q,n<=q->∀u,k<=u->kz (exec S.E (run S.E q) q ro X.nt code) u F H=some (o,F',H'))/\R ν' Z' st' F' H'/\J st'.want (fq ν' st'.m) Z' H'/\Fix ν st ν' st':=by
  intro k
  induction k with
  |zero=>intro st ν Z F H h;simp[iX]at h|succ k T=>
   intro st ν Z F H h y r j;simp only[iX]at h;split at h
   .rename_i z C;have⟨D,F1,H1,G,I,a1,L,O,B⟩:=U st .norm z C J ν Z F H y r j;have⟨W,Y,H2,ν2,Z2,b,c,d,g⟩:=T z G I F1 H1 h (by rw[B.more,B.yid];exact y) L O
    refine⟨max D W,Y,H2,ν2,Z2,λq w u Q=>?_,c,d,B.trans g⟩
    cases u with
    |zero=>omega|succ u=>simp only[kz,a1 q (le_trans (le_max_left _ _) w)];exact b q (le_trans (le_max_right _ _) w) u Za
   rename_i C;have⟨D,F1,H1,G,I,a1,L,O,B⟩:=U st o st' h J ν Z F H y r j;have i:o≠.norm:=λe=>by subst e;exact C st' h
   refine⟨D,F1,H1,G,I,λq w u Q=>?_,L,O,B⟩
   cases u with
   |zero=>omega|succ u=>simp only[kz,a1 q w];cases o<;>first|exact absurd rfl i|rfl
 have⟨n,F',H',ν',Z',e1,e2,e3,e4⟩:=key k st ν Z F H a y r j;refine⟨max n k,F',H',ν',Z',λq w=>?_,e2,e3,e4⟩;simp only[exec];exact e1 q (le_trans (le_max_left _ _) w) q (le_trans (le_max_right _ _) w)
def Rh(gd:Good X S)(hI:∀f a b xs,S.items f a b=some xs->fE S f a b xs){g:Zr}{ps:Array Tmp}{W Y:Code}{x:Arg}{A B:St->aZ (Out×St)}
 (ab:ps.toList.all (·<X.nt)=true)(hx:oQ X.nm g=some x)(hA:sn X S true W A)(hB:sn X S true Y B):
 sn X S false (.rangeFunc g ps W Y) (λst=>match qt S.N st.g x with
 |some (.v (.clo f x y))=>match S.items f x y with
  |some xs=>(qi (iJ ps.toList A B st) xs st.m).map λ(o,m)=>(o,{st with m:=m})|none=>none
 |_=>none):=by
 intro st o st' h J ν Z F H y r j;dsimp only at h;split at h
 .rename_i f a b ad;split at h
  .rename_i xs ae;have⟨⟨s,t⟩,hE,e⟩:=ζf.1 h;simp only[ζc]at e;obtain⟨rfl,rfl⟩:=e;have⟨yv,hy,ry⟩:=D0 gd.N r.slot hx ad;obtain⟨a',b',rfl,ra,rb⟩:=ry.fr.jQ;have⟨N,more,T,hR⟩:=B5 hE;generalize L:(⟨.ready,none,F,X.nt,ps.toList,W,Y⟩:ve)=z;have C:∀i,i<H.length->(H++[Ob.loop z])[i]?=H[i]?:=λi u=>List.getElem?_append_left u
   have D:∀i,Z i->bq (H++[Ob.loop z]) i=bq H i:=λi u=>by unfold bq;rw[C i (r.vw u)]
   have r0:R ν Z (Qf st st.m) F (H++[Ob.loop z]):=by have:=r.heap (H':=H++[Ob.loop z]) (λi u=>C i (r.lt u)) D;exact⟨this.slot,this.obj,this.inj,this.apart,this.zrow,this.deep⟩
   have G:∀i,Z i->Z i/\bq (H++[Ob.loop z]) i=bq H i:=λi u=>⟨u,D i u⟩
   have j0:JI X st F ν (fq ν st.m) Z H H.length ps.toList W Y (iJ ps.toList A B st) s t more N (λ_=>False) Z (H++[Ob.loop z]):=by refine⟨st.m,ν,Z,z,r0,⟨rfl,Zc,λi k _ _=>C i k,λi u=>⟨u,D i u⟩,λi u=>.inl u,λi u=>.inl u⟩,λi u=>u.elim,λi u=>⟨λv=>?_,Nat.ne_of_lt (r.vw u),.inl u⟩,λv=>absurd (r.lt v) Zc,λhz=>absurd (r.vw hz) Zc,le_refl _,Zc,?_,λd _ af h=>⟨af,h,rfl,.refl _⟩,.inl ⟨hR,?_,?_⟩⟩;obtain⟨d,ob,g1,g2,rfl⟩:=v;exact r.apart d ob g1 g2 u;subst L;exact⟨rfl,rfl,rfl,rfl,rfl⟩;subst L;rfl;subst L;rfl
   have ah:Yc S (JI X st F ν (fq ν st.m) Z H H.length ps.toList W Y (iJ ps.toList A B st) s t more) more H.length:=⟨λw O Z1 H1 O' Z' H' E k l p K h5=>JI.wR E k l p K h5,λx1 aj O Z1 H1 args E k l p K=>JI.yield S hA hB ab E k l p K⟩
   have⟨n,yy,H',O',Z',e1,e2⟩:=hI f a b xs ae N more T H.length _ ah Z a' b' (H++[Ob.loop z]) (ra.mono G) (rb.mono G) (λi u=>by rw[D i u];exact r.zrow i u) (r.deep.mono D) j0
   have⟨m1,νb,P,M,r1,⟨_,k2,k3,k4,k5,k6⟩,_,_,l1,l2,l3,V,_,l6,l7⟩:=e2;have aa:m1=t/\(M.st=.ready\/M.st=.done)/\M.pend.getD .norm=s:=by rcases l7 with⟨g1,g2,g3⟩|⟨_,g1,g2,g3⟩;(cases g1 with|nil hn=>exact⟨rfl,.inl g2,by rw[g3,hn];rfl⟩);exact⟨g1,.inr g2,by rw[g3];rfl⟩
   obtain⟨rfl,c,U⟩:=aa;have ak:H.length<H'.length:=(ζe.1 V).1;have I:∀i,i≠H.length->(H'.set H.length .dead)[i]?=H'[i]?:=λi ai=>by rw[List.getElem?_set,if_neg (Ne.symm ai)]
   have Q:∀i,P i->bq (H'.set H.length .dead) i=bq H' i:=λi u=>by unfold bq;rw[I i λe=>l2 (e▸u)]
   have r2:=r1.heap (H':=H'.set H.length .dead) (λi u=>I i λe=>l1 (e▸u)) Q
   refine⟨n,F,H'.set H.length .dead,νb,P,λq hq=>?_,⟨r2.slot,r2.obj,r2.inj,r2.apart,r2.zrow,r2.deep⟩,?_,⟨λd hd=>l6 d (List.mem_append_left _ hd),rfl,rfl,rfl⟩⟩
   .simp only[exec,hy];rw[L,e1 q hq];simp only[V];rcases c with c|c<;>rw[c]<;>simp only[U]
   refine y.wR _ _ _ _ _ _ _ j (by simp only[List.length_set];omega) (λi k l p=>by rw[I i Za,k3 i k l p]) (λi u=>⟨(k4 i u).1,by rw[Q i (k4 i u).1,(k4 i u).2]⟩) k5 k6
  simp at h
 simp at h
end
end Go.VE
namespace Go.VE
variable[bT]
def kR(st:St):aY RV->aZ Zw
 |[]=>some []|.s n::r=>match bh st.g n,kR st r with
  |some x,some l=>some (x::l)|_,_=>none
 |.ld n size agg::r=>match(bh st.g n).bind λp=>mo st.m (.load size agg) [p],kR st r with
  |some x,some l=>some (x::l)|_,_=>none
def mJ(S:Sys)(c:bZ)(rf:RF)(svs:Zw)(B:dP):aZ (Zw×dP):=
 if svs.length<=rf.na then
  match cA S c rf.body (start svs B)with
  |some (.exit _,_)=>none|some (_,st)=>(kR st rf.rs).map λrs=>(rs,st.m)|none=>none
 else none
def Aw(E:Env):ResultVar->aZ RV
 |.tmp t=>some (.s t)|.cell a t=>(E.tt t).map λd=>.ld a d.size d.agg
def xK(E:Env)(nm:Zk->aZ Nat)(fi:FI)(rf:RF):Prop:=bL ⟨E,nm,fi.ntmps⟩ false fi.body=some (erase rf.body)/\fi.results.mapM (Aw E)=some rf.rs/\rf.na=fi.ntmps
section
variable{ν ν' ν2:Nu}{Z Z':Nat->Prop}{st st' st2:St}{m m':Tb bE}{F F':Zo}{H H' H1:bl}{S:Sys}{c:bZ}{X:CX}{J:JT}
theorem Jc (gd:Good X S) (hS:jt S c) (hI:∀f a b xs,S.items f a b=some xs->fE S f a b xs):∀(rc:RC) (ro:Bool) (code:Code),bL X ro code=some (erase rc)->sn X S ro code (cA S c rc):=by
 intro rc
 induction rc with
 | skip=>
  intro ro code hc st o st' h J ν Z F H y r j;obtain⟨rfl,rfl⟩:=h;simp[erase]at hc;have:∀k,exec S.E (run S.E k) k ro X.nt code F H=some (.norm,F,H):=λk=>by
   cases code with
   | skip=>rfl
   | label _=>rfl
   | region id ops w=>
    simp[bL]at hc;split at hc
    .simp_all
    simp_all
   | seq a b=>simp[bL]at hc;grind
   | cond x a b=>simp[bL]at hc;grind
   | block id b=>simp only[bL]at hc;simp_all
   | loop b=>simp only[bL]at hc;simp_all
   | rangeFunc g ps U W=>
    simp[bL]at hc
    grind
   | _=>simp[bL]at hc
  exact⟨0,F,H,ν,Z,λk _=>this k,r,j,.refl⟩
 | ops l=>
  intro ro code hc;simp[erase]at hc
  cases code with
  | region id ops w=>
   simp[bL]at hc;split at hc
   .simp_all
   rename_i hd;obtain⟨l',hl,e⟩:=ζf.1 hc;cases e;intro st o st' h J ν Z F H y r j;obtain⟨z,h1,e⟩:=ζf.1 h;obtain⟨rfl,rfl⟩:=e;obtain⟨n,F',H',ν',Z',e1,e2,e3,e4⟩:=M8 gd hS _ hl h1 y r j;refine⟨n,F',H',ν',Z',λk hk=>?_,e2,e3,e4⟩
   simp[exec,js,hd,e1 k hk]
  | seq a b=>simp[bL]at hc;grind
  | cond x a b=>simp[bL]at hc;grind
  | block id b=>simp only[bL]at hc;simp_all
  | loop b=>obtain⟨_,_,e⟩:=ζf.1 hc;cases e
  | rangeFunc g ps U W=>
   simp only[bL]at hc;split at hc
   .simp at hc
   split at hc <;> simp at hc
  | _=>simp[bL]at hc
 | oS l=>
  intro ro code hc;simp[erase]at hc
  cases code with
  | region id ops w=>
   simp only[bL]at hc;split at hc
   .rename_i hd;subst hd;split at hc
    next ab=>obtain⟨l',hl,e⟩:=ζf.1 hc;cases e;have:=LG (ro:=ro) (id:=id) gd hS hl ab;intro st o st' h;exact this st o st' h
    simp at hc
   obtain⟨_,_,e⟩:=ζf.1 hc;cases e
  | seq a b=>simp[bL]at hc;split at hc <;> simp at hc
  | cond x a b=>simp[bL]at hc;split at hc <;> simp at hc
  | block id b=>obtain⟨_,_,e⟩:=ζf.1 hc;cases e
  | loop b=>obtain⟨_,_,e⟩:=ζf.1 hc;cases e
  | rangeFunc g ps U W=>
   simp only[bL]at hc;split at hc
   .simp at hc
   split at hc <;> simp at hc
  | _=>simp[bL]at hc
 | seq a b u Q=>
  intro ro code hc;simp[erase]at hc
  cases code with
  | seq Y cb=>
   simp[bL]at hc;split at hc
   .rename_i xa xb T hb;simp[RC.seq.injEq]at hc;obtain⟨rfl,rfl⟩:=hc;intro st o st' h J ν Z F H y r j;simp[cA]at h;split at h
    .rename_i z hs;obtain⟨I,F1,H1,B,C,a1,L,O,D⟩:=u ro Y T st .norm z hs J ν Z F H y r j;obtain⟨n2,F2,H2,ν2,Z2,b1,b2,b3,b4⟩:=Q ro cb hb z o st' h J B C F1 H1 (by rw[D.more,D.yid];exact y) L O
     refine⟨max I n2,F2,H2,ν2,Z2,λq G=>?_,b2,b3,D.trans b4⟩
     simp[exec,a1 q (Nat.le_trans (Nat.le_max_left _ _) G)];exact b1 q (Nat.le_trans (Nat.le_max_right _ _) G)
    rename_i hs;obtain⟨I,F1,H1,B,C,a1,L,O,D⟩:=u ro Y T st o st' h J ν Z F H y r j;refine⟨I,F1,H1,B,C,λq G=>?_,L,O,D⟩
    simp[exec,a1 q G];cases o <;> first|exact absurd h (hs st')|rfl
   simp at hc
  | region id ops w=>
   simp[bL]at hc;split at hc
   .split at hc
    .obtain⟨_,_,e⟩:=ζf.1 hc;cases e
    simp at hc
   obtain⟨_,_,e⟩:=ζf.1 hc;cases e
  | cond x a b=>simp[bL]at hc;split at hc <;> simp at hc
  | block id b=>simp only[bL]at hc;obtain⟨_,_,e⟩:=ζf.1 hc;cases e
  | loop b=>simp only[bL]at hc;obtain⟨_,_,e⟩:=ζf.1 hc;cases e
  | rangeFunc g ps U W=>
   simp only[bL]at hc;split at hc
   .simp at hc
   split at hc <;> simp at hc
  | _=>simp[bL]at hc
 | cond x a b u Q=>
  intro ro code hc;simp[erase]at hc
  cases code with
  | cond g Y cb=>
   simp[bL]at hc;split at hc
   .rename_i xg xa xb hg T hb;simp[RC.cond.injEq]at hc;obtain⟨rfl,rfl,rfl⟩:=hc;intro st o st' h J ν Z F H y r j;simp[cA]at h;split at h
    .rename_i t ht;obtain⟨yv,hy,ry⟩:=D0 gd.N r.slot hg ht;rw[ry.fr.bool]at hy;split at h
     .rename_i hb;obtain⟨I,F1,H1,B,C,a1,L,O,D⟩:=u ro Y T st o st' h J ν Z F H y r j;refine⟨I,F1,H1,B,C,λq G=>?_,L,O,D⟩
      simp[exec,hy,hb];exact a1 q G
     rename_i hb;obtain⟨I,F1,H1,B,C,a1,L,O,D⟩:=Q ro cb (by assumption) st o st' h J ν Z F H y r j
     refine⟨I,F1,H1,B,C,λq G=>?_,L,O,D⟩
     simp[exec,hy,hb];exact a1 q G
    simp at h
   simp at hc
  | region id ops w=>
   simp[bL]at hc;split at hc
   .split at hc
    .obtain⟨_,_,e⟩:=ζf.1 hc;cases e
    simp at hc
   obtain⟨_,_,e⟩:=ζf.1 hc;cases e
  | seq a b=>simp[bL]at hc;split at hc <;> simp at hc
  | block id b=>simp only[bL]at hc;obtain⟨_,_,e⟩:=ζf.1 hc;cases e
  | loop b=>simp only[bL]at hc;obtain⟨_,_,e⟩:=ζf.1 hc;cases e
  | rangeFunc g ps U W=>
   simp only[bL]at hc;split at hc
   .simp at hc
   split at hc <;> simp at hc
  | _=>simp[bL]at hc
 | block id a u=>
  intro ro code hc;simp[erase]at hc
  cases code with
  | block ad Y=>
   simp only[bL]at hc;obtain⟨xa,T,e⟩:=ζf.1 hc;simp[RC.block.injEq]at e;obtain⟨rfl,rfl⟩:=e;intro st o st' h J ν Z F H y r j;simp[cA]at h;split at h
   .rename_i ae z hs;obtain⟨I,F1,H1,B,C,a1,L,O,D⟩:=u ro Y T st (.exit ae) z hs J ν Z F H y r j;split at h
    .rename_i e;simp  at h;obtain⟨rfl,rfl⟩:=h;refine⟨I,F1,H1,B,C,λq G=>?_,L,O,D⟩
     simp[exec,a1 q G,if_pos e]
    rename_i e;simp  at h;obtain⟨rfl,rfl⟩:=h;refine⟨I,F1,H1,B,C,λq G=>?_,L,O,D⟩
    simp[exec,a1 q G,if_neg e]
   rename_i hs;obtain⟨I,F1,H1,B,C,a1,L,O,D⟩:=u ro Y T st o st' h J ν Z F H y r j;refine⟨I,F1,H1,B,C,λq G=>?_,L,O,D⟩
   simp[exec,a1 q G];cases o <;> first|exact absurd h (hs _ st')|rfl
  | region id ops w=>
   simp[bL]at hc;split at hc
   .split at hc
    .obtain⟨_,_,e⟩:=ζf.1 hc;cases e
    simp at hc
   obtain⟨_,_,e⟩:=ζf.1 hc;cases e
  | seq a b=>simp[bL]at hc;split at hc <;> simp at hc
  | cond x a b=>simp[bL]at hc;split at hc <;> simp at hc
  | loop b=>simp only[bL]at hc;obtain⟨_,_,e⟩:=ζf.1 hc;cases e
  | rangeFunc g ps U W=>
   simp only[bL]at hc;split at hc
   .simp at hc
   split at hc <;> simp at hc
  | _=>simp[bL]at hc
 | loop a u=>
  intro ro code hc;simp[erase]at hc
  cases code with
  | loop Y=>
   simp only[bL]at hc;obtain⟨xa,T,e⟩:=ζf.1 hc;simp[RC.loop.injEq]at e;subst e;have:=SD (u ro Y T);intro st o st' h;simp[cA]at h;exact this st o st' h
  | region id ops w=>
   simp[bL]at hc;split at hc
   .split at hc
    .obtain⟨_,_,e⟩:=ζf.1 hc;cases e
    simp at hc
   obtain⟨_,_,e⟩:=ζf.1 hc;cases e
  | seq a b=>simp[bL]at hc;split at hc <;> simp at hc
  | cond x a b=>simp[bL]at hc;split at hc <;> simp at hc
  | block id b=>simp only[bL]at hc;obtain⟨_,_,e⟩:=ζf.1 hc;cases e
  | rangeFunc g ps U W=>
   simp only[bL]at hc;split at hc
   .simp at hc
   split at hc <;> simp at hc
  | _=>simp[bL]at hc
 | each x ps a b u Q=>
  intro ro code hc;simp[erase]at hc
  cases code with
  | rangeFunc g ah U W=>
   simp only[bL]at hc;split at hc
   .simp at hc
   rename_i aa;simp only[Bool.or_eq_true,not_or,Bool.not_eq_true,Bool.not_eq_false']at aa;obtain⟨rfl,af⟩:=aa;split at hc
   next xg xa xb hg T hb=>simp[RC.each.injEq]at hc;obtain⟨rfl,rfl,rfl,rfl⟩:=hc;have:=Rh gd hI af hg (u true U T) (Q true W hb);intro st o st' h;simp only[cA]at h;exact this st o st' h
   simp at hc
  | region id ops w=>
   simp only[bL]at hc;split at hc
   .split at hc
    .obtain⟨_,_,e⟩:=ζf.1 hc;cases e
    simp at hc
   obtain⟨_,_,e⟩:=ζf.1 hc;cases e
  | seq a b=>simp only[bL]at hc;split at hc <;> simp at hc
  | cond x a b=>simp only[bL]at hc;split at hc <;> simp at hc
  | block id b=>simp only[bL]at hc;obtain⟨_,_,e⟩:=ζf.1 hc;cases e
  | loop b=>simp only[bL]at hc;obtain⟨_,_,e⟩:=ζf.1 hc;cases e
  | _=>simp[bL]at hc
 | exit id=>
  intro ro code hc st o st' h J ν Z F H y r j;simp only[cA,ζa,ζc]at h;obtain⟨rfl,rfl⟩:=h;simp only[erase]at hc;have:∀k,exec S.E (run S.E k) k ro X.nt code F H=some (.exit id,F,H):=λk=>by
   cases code with
   | exit ad=>simp only[bL,ζa,RC.exit.injEq]at hc;subst hc;rfl
   | region id ops w=>
    simp only[bL]at hc;split at hc
    .split at hc
     .obtain⟨_,_,e⟩:=ζf.1 hc;cases e
     simp at hc
    obtain⟨_,_,e⟩:=ζf.1 hc;cases e
   | seq a b=>simp only[bL]at hc;split at hc <;> simp at hc
   | cond x a b=>simp only[bL]at hc;split at hc <;> simp at hc
   | block id b=>simp only[bL]at hc;obtain⟨_,_,e⟩:=ζf.1 hc;cases e
   | loop b=>simp only[bL]at hc;obtain⟨_,_,e⟩:=ζf.1 hc;cases e
   | rangeFunc g ps U W=>
    simp only[bL]at hc;split at hc
    .simp at hc
    split at hc <;> simp at hc
   | _=>simp[bL]at hc
  exact⟨0,F,H,ν,Z,λk _=>this k,r,j,.refl⟩
 | ret=>
  intro ro code hc st o st' h J ν Z F H y r j;simp only[cA,ζa,ζc]at h;obtain⟨rfl,rfl⟩:=h;simp only[erase]at hc;have:∀k,exec S.E (run S.E k) k ro X.nt code F H=some (.ret,F,H):=λk=>by
   cases code with
   | ret=>rfl
   | region id ops w=>
    simp only[bL]at hc;split at hc
    .split at hc
     .obtain⟨_,_,e⟩:=ζf.1 hc;cases e
     simp at hc
    obtain⟨_,_,e⟩:=ζf.1 hc;cases e
   | seq a b=>simp only[bL]at hc;split at hc <;> simp at hc
   | cond x a b=>simp only[bL]at hc;split at hc <;> simp at hc
   | block id b=>simp only[bL]at hc;obtain⟨_,_,e⟩:=ζf.1 hc;cases e
   | loop b=>simp only[bL]at hc;obtain⟨_,_,e⟩:=ζf.1 hc;cases e
   | rangeFunc g ps U W=>
    simp only[bL]at hc;split at hc
    .simp at hc
    split at hc <;> simp at hc
   | _=>simp[bL]at hc
  exact⟨0,F,H,ν,Z,λk _=>this k,r,j,.refl⟩
 | gh x a u=>
  intro ro code hc;simp only[erase]at hc;intro st o st' h J ν Z F H y r j;simp only[cA]at h;obtain⟨z,h1,h2⟩:=ζg.1 h;obtain⟨B,C,g1,g2,g3⟩:=Fix.ghost r y j h1;obtain⟨n,F',H',ν',Z',e1,e2,e3,e4⟩:=u ro code hc z o st' h2 J B C F H (by rw[g3.more,g3.yid];exact y) g1 g2
  exact⟨n,F',H',ν',Z',e1,e2,e3,g3.trans e4⟩
 | hg a x u=>
  intro ro code hc;simp only[erase]at hc;intro st o st' h J ν Z F H y r j;simp only[cA]at h;split at h
  .rename_i z hs;obtain⟨st2,h1,e⟩:=ζf.1 h;simp only[ζc]at e;obtain⟨rfl,rfl⟩:=e;obtain⟨n,F',H',ν',Z',e1,e2,e3,e4⟩:=u ro code hc st .norm z hs J ν Z F H y r j;obtain⟨B,C,g1,g2,g3⟩:=Fix.ghost e2 (by rw[e4.more,e4.yid];exact y) e3 h1
   exact⟨n,F',H',B,C,e1,g1,g2,e4.trans g3⟩
  exact u ro code hc st o st' h J ν Z F H y r j
end
abbrev pR:=FuncId->aZ RF
def wD(E:Env)(f:Zk)(az:Zu)(y:V):Prop:=∃n z H' Z,run E n (.fn f) az []=some (z,H')/\FR H' Z y z/\(∀id,Z id->(bq H' id).isSome=true)/\Deep H' Z
structure qK(S:Sys)(T:pR):Prop where
 fn:∀f rf,T f=some rf->∃fi nm,S.E.ft f=some fi/\(∀g s,nm g=some s->S.N s=g)/\xK S.E nm fi rf
 yG:∀f az y,S.yG f az=some y->wD S.E f az y
 prm:∀f q,S.prm f=some q->nW S.E f q
def OF(S:Sys)(f:Zk)(svs:Zw)(B:dP):aZ (Zw×dP):=
 if S.E.keep f then none else match di svs,B with
  |some az,[]=>(S.yG f az).map λy=>([.v y],[])|_,_=>none
def lC(S:Sys)(T:pR):Nat->bZ
 |0=>λ_ _ _=>none|n+1=>λf svs B=>match T f with
  |some rf=>mJ S (lC S T n) rf svs B|none=>OF S f svs B
section
variable{ν ν' ν2:Nu}{Z Z':Nat->Prop}{st st' st2:St}{m m':Tb bE}{F F':Zo}{H H' H1:bl}{S:Sys}{c c':bZ}{X:CX}{J:JT}{T:pR}
def AR(r:R ν Z st F H){nm:Zk->aZ Nat}:∀{B:aY ResultVar}{rs:aY RV}{l:Zw},B.mapM (Aw S.E)=some rs->kR st rs=some l->∃ys,iq S.E F H B=some ys/\bY ν st.m H Z l ys
 |[],rs,l,hc,h=>by simp at hc;subst hc;simp[kR]at h;subst h;exact⟨[],rfl,.nil⟩|rv::B,rs,l,hc,h=>by simp[ζg]at hc;obtain⟨x,G,ys,J,rfl⟩:=hc;cases rv with|tmp t=>simp[Aw]at G;subst G;simp[kR]at h;split at h;(next v D b u=>simp at h;subst h;have⟨w,e1,e2⟩:=AR r (nm:=nm) J u;exact⟨get F t::w,by simp[iq,e1],.cons (r.slot t v b) e2⟩);grind|cell a t=>simp[Aw]at G;obtain⟨d,I,rfl⟩:=G;simp[kR]at h;split at h;rename_i v D b u;simp at h;subst h;have⟨p,L,b⟩:=ζg.1 b;have⟨w,e1,e2⟩:=AR r (nm:=nm) J u;have⟨y,g1,g2⟩:=vH (λs a e=>by cases e) (λkk z ok e=>by cases e) (bY.cons (r.slot a p L) .nil) (λO _ ob C=>r.obj O ob C) b;simp[dS]at g1;exact⟨y::w,by simp[iq,I,e1,g1],.cons g2 e2⟩;grind
def Io(J:∀f q,S.prm f=some q->nW S.E f q)(O:jt S c)(U:∀f a b xs,S.items f a b=some xs->fE S f a b xs){f:Zk}{fi:FI}{nm:Zk->aZ Nat}{rf:RF}(G:S.E.ft f=some fi)(W:∀g s,nm g=some s->S.N s=g)(j:xK S.E nm fi rf)
 {svs:Zw}{B:dP}{rs:Zw}{m1:dP}(h:mJ S c rf svs B=some (rs,m1)){args:Zu}(r:R ν Z (start svs B) args H)(Y:bY ν B H Z svs args):
 ∃n y H' ν' Z' st' F' ys,run S.E n (.fn f) args H=some (y,H')/\y=result ys/\st'.m=m1/\bY ν' m1 H' Z' rs ys/\R ν' Z' st' F' H'/\Ev (λ_=>False) ν Z (start svs B) H ν' Z' st' H':=by
 have⟨hc,z,C⟩:=j;unfold mJ at h;split at h
 .have key:∀o st',cA S c rf.body (start svs B)=some (o,st')->(∀id,o≠.exit id)->(kR st' rf.rs).map (λrs=>(rs,st'.m))=some (rs,m1)->
   ∃n y H' ν' Z' st' F' ys,run S.E n (.fn f) args H=some (y,H')/\y=result ys/\st'.m=m1/\bY ν' m1 H' Z' rs ys/\R ν' Z' st' F' H'/\Ev (λ_=>False) ν Z (start svs B) H ν' Z' st' H':=λo st' D p w=>by
   have⟨l,d,e⟩:=ζf.1 w;obtain⟨rfl,rfl⟩:=e;have⟨n,F',H',ν',Z',e1,e2,e3,e4⟩:=Jc ⟨rfl,W,J⟩ O U rf.body false fi.body hc _ _ _ D (tY (fq ν (start svs B).m) Z H) ν Z args H tY.yc r (tY.refl r);have⟨ys,p1,p2⟩:=AR (nm:=nm) e2 z d;have⟨_,I,L,Q,T,X⟩:=e3;refine⟨n+1,result ys,H',ν',Z',st',F',ys,?_,rfl,rfl,p2,e2,⟨I,λi d k m _=>L i d k m,Q,λi h=>(T i h).imp (λh=>h) .inr,λi h=>(X i h).imp (λh=>h) (.imp (λh=>h) .inr),e4.pin,e4.pins⟩⟩
   have u:args.length<=fi.ntmps:=by rw[<-Y.1,<-C];omega
   simp[run,jD,G,if_pos u,e1 n (le_refl _)]
   grind
  grind
 grind
def FR.emp{x y:V}(G:∀id,¬Z id)(r:FR H Z x y):x=y:=by
 have B:∀{a w:Zu},a.length=w.length->(∀(j:Nat)u v,a[j]?=some u->w[j]?=some v->u=v)->a=w:=λ{a w}h1 z=>by apply List.ext_getElem h1;intro i p q;exact z i _ _ (ζd p) (ζd q)
 induction r with|same x h=>rfl|fsl es C id off D h=>grind|fptr C id el off es D I h=>grind|clo f a b w J h1 z _ _ i1 i2=>rw[B h1 i1,B z i2]|agg a w h1 _ i1=>grind|tup a w h1 _ i1=>grind
def bY.emp(B:∀id,¬Z id):∀{xs ys:Zu},bY ν m H Z (xs.map .v) ys->xs=ys
 |[],ys,h=>h.cQ.symm|x::xs,ys,h=>by obtain⟨y,ys,rfl,a,G⟩:=h.inv;rw[FR.emp B a.fr,bY.emp B G]
def Bj(B:qK S T)(O:∀f a b xs,S.items f a b=some xs->fE S f a b xs):∀n,jt S (lC S T n)
 |0=>λf svs W rs m1 h=>by simp[lC]at h|n+1=>λf svs W rs m1 h ν Z args H U r G=>by simp[lC]at h;split at h;(next rf J=>have⟨fi,nm,c,Y,g⟩:=B.fn f rf J;exact Io B.prm (Bj B O n) O c Y g h r G);unfold OF at h;split at h;simp_all;split at h;rename_i az Q;have⟨y,X,e⟩:=ζf.1 h;obtain⟨rfl,rfl⟩:=e;have⟨k,z,H',i,w,C,D,jd⟩:=B.yG f az y X;rcases U with U|rfl;grind;have L:∀id,¬Z id:=λid I=>(by have:=r.zrow id I;simp[bq]at this);have u:=(by rw[uf Q]at G;exact(bY.emp L G).symm);subst u;refine⟨k,z,H',λ_=>(0,0),i,⟨[],[],[],[],true,0⟩,[],[z],w,rfl,rfl,bY.cons (.v y z C) .nil,?_,?_⟩;exact⟨λs sv h=>by simp[bh]at h,λd ob h=>by simp[bh]at h,λd j ob l h=>by simp[bh]at h,λd ob h=>by simp[bh]at h,D,jd⟩;exact⟨Nat.zero_le _,λid h=>Ze,λid h=>absurd h (L id),λid h=>Zd,λid h=>.inr (.inr (.inr (Nat.zero_le _))),λd h=>by simp[start]at h,rfl⟩;grind
abbrev JB:=aY ((FuncId×aY SV×dP)×(aY SV×dP))
def CK(c:bZ)(L:JB):Prop:=∀p∈L,c p.1.1 p.1.2.1 p.1.2.2=some p.2
def Fin{α:Type}(c:bZ)(f:bZ->aZ α)(r:α):Prop:=∃L:JB,CK c L/\∀c',CK c' L->f c'=some r
def Fin.pure{α:Type}{f:bZ->aZ α}{r:α}(h:∀c',f c'=some r):Fin c f r:=⟨[],λp u=>Ze,λc' _=>h c'⟩
def Fin.bind{α β:Type}{f:bZ->aZ α}{r:α}{g:bZ->aZ β}{q:β}(a:Fin c f r)(B:bZ->α->aZ β)(G:Fin c (λc=>B c r) q)(b:∀c',f c'=some r->g c'=B c' r):Fin c g q:=by have⟨L1,a1,w⟩:=a;have⟨L2,z,C⟩:=G;refine⟨L1++L2,λp u=>(List.mem_append.1 u).elim (a1 p) (z p),λc' hc=>?_⟩;rw[b c' (w c' λp u=>hc p (List.mem_append_left _ u))];exact C c' λp u=>hc p (List.mem_append_right _ u)
def Fin.call{f:Zk}{svs:Zw}{B:dP}{r:Zw×dP}(h:c f svs B=some r):Fin c (λc=>c f svs B) r:=⟨[((f,svs,B),r)],λp u=>Zd,λc' hc=>hc ((f,svs,B),r) Zc⟩
def Ed{dst:aZ Nat}{dr now:Zl}{old:Zw->Zl}{f:Zk}{args:Zw}{r:SV×St}(h:gj S c dst dr now old f args st=some r):Fin c (λc=>gj S c dst dr now old f args st) r:=by have a:=h;unfold gj at h;split at h;split at h;split at h;split at h;split at h;rename_i rs m' hc;refine(Fin.call hc).bind (λc' q=>gj S c dst dr now old f args st) (.pure λ_=>a) (λc' u=>?_);unfold gj;grind;grind;grind;rename_i w;split at h;rename_i q z;refine .pure λc'=>?_;unfold gj;simp_all;rename_i z;split at h;rename_i os D;split at h;rename_i rs m' hc;refine(Fin.call hc).bind (λc' q=>gj S c dst dr now old f args st) (.pure λ_=>a) (λc' u=>?_);unfold gj;clear h a;simp[*];grind;grind;split at h;split at h;split at h;rename_i rs m' hc;refine(Fin.call hc).bind (λc' q=>gj S c dst dr now old f args st) (.pure λ_=>a) (λc' u=>?_);unfold gj;simp_all;grind;grind;grind;rename_i b;split at h;rename_i az B;split at h;rename_i C;split at h;rename_i rs m' hc;refine(Fin.call hc).bind (λc' q=>gj S c dst dr now old f args st) (.pure λ_=>a) (λc' u=>?_);unfold gj;simp[b,B,C,hc,u];grind;grind;grind
def RQ{dr:Zl}{fr:Zv}{o:RO}{r:SV×St}(h:lN S c dr fr o st=some r):Fin c (λc=>lN S c dr fr o st) r:=by have d:=h;unfold lN at h;split at h;rename_i z u;split at h;refine .pure λc'=>?_;have a:=d;unfold lN at a⊢;rename_i b;simp only[u,b]at a⊢;exact a;refine .pure λc'=>?_;have a:=d;unfold lN at a⊢;rename_i B b;simp only[u,b]at a⊢;exact a;refine .pure λc'=>?_;have a:=d;unfold lN at a⊢;rename_i b;simp only[u,b]at a⊢;exact a;refine .pure λc'=>?_;have a:=d;unfold lN at a⊢;rename_i b;simp only[u,b]at a⊢;exact a;refine .pure λc'=>?_;have a:=d;unfold lN at a⊢;rename_i b;simp only[u,b]at a⊢;exact a;rename_i b;split at h;refine(Ed h).bind (λ_ q=>some q) (.pure λ_=>rfl) (λc' w=>?_);unfold lN;simp only[u,b,w];refine(Ed h).bind (λ_ q=>some q) (.pure λ_=>rfl) (λc' w=>?_);unfold lN;simp only[u,b,w];simp at h;refine .pure λc'=>?_;have a:=d;unfold lN at a⊢;rename_i b;simp only[u,b]at a⊢;exact a;refine .pure λc'=>?_;have a:=d;unfold lN at a⊢;rename_i b;simp only[u,b]at a⊢;exact a;simp at h
def Sd{dr:Zl}{fr:Zv}{o:RO}{r:St}(h:fG S c dr fr o st=some r):Fin c (λc=>fG S c dr fr o st) r:=by unfold fG at h;split at h;split at h;refine .pure λc'=>?_;unfold fG;grind;have⟨q,u,e⟩:=ζf.1 h;refine(RQ u).bind (λ_ q=>some (c6 q.2 o.dst q.1)) (.pure λ_=>Ze) (λc' w=>?_);unfold fG;grind;refine .pure λc'=>?_;unfold fG;grind;grind
def BC{dr:Zl}:∀{l:Zy}{fr:Zv}{st r:St},mY S c dr fr l st=some r->Fin c (λc=>mY S c dr fr l st) r
 |[],fr,st,r,h=>.pure λ_=>h|o::l,fr,st,r,h=>by simp[mY]at h;split at h;(next G B=>have⟨J,a,B⟩:=ζg.1 B;exact(Sd B).bind (λc' q=>mY S c' dr (if dr then qE fr o.strip else fr) l (oZ o.dead q)) (BC h) (λc' u=>by simp[mY,a,u]));grind
def Ew{f:bZ->St->aZ (Out×St)}(G:∀st r,f c st=some r->Fin c (λc=>f c st) r):∀{k:Nat}{st:St}{r:Out×St},iX (f c) k st=some r->Fin c (λc=>iX (f c) k st) r
 |0,st,r,h=>by simp[iX]at h|k+1,st,r,h=>by simp[iX]at h;split at h;(next J O=>exact(G st _ O).bind (λc' q=>iX (f c') k J) (Ew G h) (λc' B=>by simp[iX,B]));refine(G st r h).bind (λ_ q=>some q) (.pure λ_=>rfl) (λc' B=>?_);simp[iX,B];grind
def El{f:bZ->Zu->Tb bE->aZ (Out×Tb bE)}(G:∀x m r,f c x m=some r->Fin c (λc=>f c x m) r):∀{xs:Zt}{m:Tb bE}{r:Out×Tb bE},qi (f c) xs m=some r->Fin c (λc=>qi (f c) xs m) r
 |[],m,r,h=>.pure λ_=>h|x::xs,m,r,h=>by simp[qi]at h;split at h;(next m1 J=>exact(G x m _ J).bind (λc' q=>qi (f c') xs m1) (El G h) (λc' B=>by simp[qi,B]));refine(G x m r h).bind (λ_ q=>some q) (.pure λ_=>rfl) (λc' B=>?_);simp[qi,B];grind
def Mi:∀{d:RC}{st:St}{r:Out×St},cA S c d st=some r->Fin c (λc=>cA S c d st) r:=by intro d;induction d with|skip=>exactλh=>.pure λ_=>h|exit id=>exactλh=>.pure λ_=>h|ret=>exactλh=>.pure λ_=>h|ops l=>intro st r h;simp only[cA]at h⊢;have⟨q,G,e⟩:=ζf.1 h;exact(BC G).bind (λ_ q=>some (.norm,q)) (.pure λ_=>Ze) (λc' w=>Zd)|oS l=>intro st r h;simp only[cA]at h⊢;have⟨q,G,e⟩:=ζf.1 h;exact(BC G).bind (λ_ q=>some (.norm,q)) (.pure λ_=>Ze) (λc' w=>Zd)|seq a b u C=>intro st r h;simp[cA]at h⊢;split at h;(next B D=>exact(u D).bind (λc' q=>cA S c' b B) (C h) (λc' w=>Zd));rename_i D;refine(u h).bind (λ_ q=>some q) (.pure λ_=>rfl) (λc' w=>?_);grind|cond x a b u C=>intro st r h;simp[cA]at h⊢;grind|block id a u=>intro st r h;simp[cA]at h⊢;split at h;(next I B D=>exact(u D).bind (λc' q=>if I=id then some (.norm,B)else some (.exit I,B)) (.pure λ_=>h) (λc' w=>Zd));refine(u h).bind (λ_ q=>some q) (.pure λ_=>rfl) (λc' w=>?_);grind|loop a u=>intro st r h;have⟨k,j⟩:=mM.1 h;refine(Ew (λst r h=>u h) j).bind (λ_ q=>some q) (.pure λ_=>rfl) (λc' w=>?_);exact mM.2 ⟨k,w⟩|each g ps a b u C=>intro st r h;simp only[cA]at h⊢;split at h;split at h;have⟨q,G,e⟩:=ζf.1 h;refine(El (f:=λc=>iJ ps (cA S c a) (cA S c b) st) (λz m r h=>?_) G).bind (λ_ q=>some (q.1,{st with m:=q.2})) (.pure λ_=>Ze) (λc' w=>Zd);unfold iJ at h;split at h;split at h;rename_i B i;have⟨L,J,e2⟩:=ζf.1 h;refine(u i).bind (λc' q=>(cA S c' b B).map λ(o,st2)=>(o,st2.m)) ((C J).bind (λ_ q=>some (q.1,q.2.m)) (.pure λ_=>Ze) (λc' w=>Zd)) (λc' w=>?_);unfold iJ;grind;grind;grind;grind;grind|gh x a u=>intro st r h;simp[cA]at h⊢;have⟨B,i,O⟩:=ζg.1 h;grind|hg a x u=>intro st r h;simp[cA]at h⊢;split at h;(next B D=>exact(u D).bind (λc' q=>(ghost x B).map λst=>(.norm,st)) (.pure λ_=>h) (λc' w=>Zd));refine(u h).bind (λ_ q=>some q) (.pure λ_=>rfl) (λc' w=>?_);grind
def z7{rf:RF}{svs:Zw}{B:dP}{r:Zw×dP}(h:mJ S c rf svs B=some r):Fin c (λc=>mJ S c rf svs B) r:=by have a:=h;unfold mJ at h;split at h;split at h;simp_all;rename_i o st u w;refine(Mi w).bind (λc' q=>mJ S c rf svs B) (.pure λ_=>a) (λc' z=>?_);unfold mJ;grind;grind;grind
def Cp:∀{n:Nat}{f:Zk}{svs:Zw}{B:dP}{r:Zw×dP},lC S T n f svs B=some r->lC S T (n+1) f svs B=some r
 |0,f,svs,B,r,h=>by simp[lC]at h|n+1,f,svs,B,r,h=>by simp[lC]at h;rw[lC];split at h;(next rf G=>have⟨L,a,J⟩:=z7 h;simp[G];exact J _ λp u=>Cp (a p u));grind
def Bt{n k:Nat}(h:n<=k){f:Zk}{svs:Zw}{B:dP}{r:Zw×dP}(G:lC S T n f svs B=some r):lC S T k f svs B=some r:=by induction h with|refl=>omega|step _ u=>exact Cp u
open Classical in
def cW(S:Sys)(T:pR):bZ:=λf u w=>if h:∃n r,lC S T n f u w=some r then some (Classical.choose (choose_spec h))else none
def rP{f:Zk}{svs:Zw}{B:dP}{r:Zw×dP}:cW S T f svs B=some r↔∃n,lC S T n f svs B=some r:=by unfold cW;constructor;intro h;split at h;grind;grind;rintro⟨k,a⟩;have u:∃n r,lC S T n f svs B=some r:=⟨k,r,a⟩;have w:=choose_spec (choose_spec u);have z:=Bt (le_max_left (Classical.choose u) k) w;have C:=Bt (le_max_right (Classical.choose u) k) a;grind
def KE{L:JB}(h:CK (cW S T) L):∃n,∀k,n<=k->CK (lC S T k) L:=by induction L with|nil=>exact⟨0,λk _ p a=>Ze⟩|cons q L u=>have⟨w,c⟩:=rP.1 (h q Zc);have⟨z,B⟩:=u λp a=>h p (List.mem_cons_of_mem _ a);refine⟨max w z,λk b p a=>?_⟩;rcases List.mem_cons.1 a with rfl|a;exact Bt (le_trans (le_max_left _ _) b) c;exact B k (le_trans (le_max_right _ _) b) p a
def E0{f:Zk}{az:Zu}{y:V}(B:T f=none)(b:S.E.keep f=false)(h:S.yG f az=some y):cW S T f (az.map .v) []=some ([.v y],[]):=by
 refine rP.2 ⟨1,?_⟩;have u:di (az.map .v)=some az:=by clear h;induction az with|nil=>rfl|cons a l w=>simp only[List.map_cons,di,w];rfl
 simp only[lC,B,OF,b,u,h];rfl
def q_{f:Zk}{rf:RF}(G:T f=some rf)(svs:Zw)(B:dP):cW S T f svs B=mJ S (cW S T) rf svs B:=by cases h:mJ S (cW S T) rf svs B with|some r=>have⟨L,a,w⟩:=z7 h;have⟨n,u⟩:=KE a;refine rP.2 ⟨n+1,?_⟩;simp[lC,G];grind|none=>cases w:cW S T f svs B with|none=>rfl|some r=>have⟨n,u⟩:=rP.1 w;cases n with|zero=>simp[lC]at u|succ n=>simp[lC,G]at u;have⟨L,z,C⟩:=z7 u;have I:=C (cW S T) λp D=>rP.2 ⟨n,z p D⟩;grind
def wC(B:qK S T)(G:∀f a b xs,S.items f a b=some xs->fE S f a b xs):jt S (cW S T):=λf u w rs z h=>by have⟨n,C⟩:=rP.1 h;exact Bj B G n f u w rs z C
def Sn(W:∀f q,S.prm f=some q->nW S.E f q)(Y:jt S c){f:Zk}{fi:FI}{nm:Zk->aZ Nat}{rf:RF}(e:∀f a b xs,S.items f a b=some xs->fE S f a b xs)(G:S.E.ft f=some fi)(l:∀g s,nm g=some s->S.N s=g)(p:xK S.E nm fi rf){a b:Zu}{xs:Zt}
 (U:a.length+1+b.length<=rf.na)(O:rf.rs=[])
 (h:∀B more,(more=true/\B=xs\/more=false/\B≠[]/\∃r,xs=B++r)->∀yid,∃o st',cA S c rf.body {g:=wT 0 (a.map .v++.yl yid::b.map .v),m:=[],pin:=[],want:=B,more:=more,yid:=yid}=some (o,st')/\(∀id,o≠.exit id)/\st'.want=[]/\st'.m=st'.m):
 fE S f a b xs:=by
 intro B more Q yid J y Z C D H T X t v j;have⟨o,st',x,F,A,_⟩:=h B more Q yid;have⟨hc,w,I⟩:=p;have L:bY (λ_=>(0,0)) [] H Z (a.map .v++.yl yid::b.map .v) (C++.yld yid::D):=(bY.qJ T).append (.cons (.yl yid) (bY.qJ X))
 have E:R (λ_=>(0,0)) Z {g:=wT 0 (a.map .v++.yl yid::b.map .v),m:=[],pin:=[],want:=B,more:=more,yid:=yid} (C++.yld yid::D) H:=⟨wA L,λd ob h=>by simp[bh]at h,λd K ob M h=>by simp[bh]at h,λd ob h=>by simp[bh]at h,t,v⟩
 have⟨n,F',H',ν',Z',e1,e2,e3,e4⟩:=Jc ⟨rfl,l,W⟩ Y e rf.body false fi.body hc _ _ _ x J _ Z _ H y E (by
  refine y.wR _ _ _ _ _ _ _ j (le_refl _) (λ_ _ _ _=>rfl) (λi z=>⟨z,rfl⟩) (λi z=>?_) (λi z=>.inl z)
  have⟨d,ob,h,_⟩:=z;simp[bh]at h)
 rw[A]at e3;rw[O]at w;have⟨ys,p1,p2⟩:=AR (nm:=nm) e2 w rfl;refine⟨n+1,result ys,H',_,Z',λk N=>?_,e3⟩
 have u:(C++V.yld yid::D).length<=fi.ntmps:=by rw[<-L.1,<-I];simp;omega
 cases k with
 |zero=>omega|succ k=>
  simp[run,jD,G,if_pos u,e1 k Za]
  grind
def R2(B:qK S T)(G:∀f a b xs,S.items f a b=some xs->fE S f a b xs){f:Zk}{az:Zu}(d:V.cr az=true){y:V}{m':dP}(h:cW S T f (az.map .v) []=some ([.v y],m'))(J:y.scalar=true):
 ∃n H',run S.E n (.fn f) az []=some (y,H'):=by
 have⟨u,r1⟩:=vO d;obtain⟨n,D,H2,ν',Z',st',F',w,c,rfl,I,C,L,_⟩:=wC B G f _ _ _ _ h _ _ az [] (.inr rfl) u r1;obtain⟨z,w,rfl,e1,e2⟩:=C.inv;rw[e2.cQ]at c;have:=(e1.fr.scalar).1 J;subst this;exact⟨n,H2,c⟩
end
end Go.VE
