/-
 The second layer: named objects in the place of rows; texts, calls, iterators.
-/
import Derived.Test.YtfgojpmjdgnieaaGreatDoorN1
set_option linter.all false
noncomputable section
open Nat(le_max_left le_max_right le_refl le_trans)
open Classical(choose_spec)
namespace Go.VE
variable[bV]
section
variable{ν ν' ν2:Nu}{Z Z':Nat->Prop}{st st' st2:St}{m m':Tb bN}{F F':Zo}{H H' H1:bC}{S:Sys}{c:cg}{X:CX}{J:JT}
def KA(gd:Good X S)(O:jh S c){ro:Zl}{id:Nat}{ops:Array Oper}{l:Zx}(g:ki X true ops.toList 0 ops.toList=some (l.map RO.strip))(G:(uA ops.toList&&xJ ops.toList)=true):
 rQ X S ro (.region id ops true) (λst=>(mg S c true [] l st).map λst=>(.norm,st)):=by
 intro st o st' h J ν Z F H y r j;have⟨L,a,e⟩:=ζf.1 h;simp only[ζc]at e;obtain⟨rfl,rfl⟩:=e;generalize z:(if qt ops.toList then H++List.replicate ops.toList.length .free else H)=H0;generalize f:(if qt ops.toList then ops.toList.length else 0)=k;have w:∀i,i<H.length->H0[i]?=H[i]?:=λi u=>by rw[<-z];split;exact List.getElem?_append_left u;rfl
 have B:H.length<=H0.length:=by rw[<-z];split<;>simp
 have Q:R ν Z st F H0:=r.heap (λi u=>w i (r.lt u)) (λi u=>by unfold bD;rw[w i (r.uD u)])
 have C:∀q,0<=q->q<k->H0[H.length+q]?=some .free:=λq _ D=>by rw[<-f]at D;split at D;rename_i I;rw[<-z,if_pos I,List.getElem?_append_right Za];simp only[Nat.add_sub_cancel_left];rw[List.getElem?_replicate,if_pos D];omega
 have⟨n,F',H',ν',e1,e2,e3,e4,e5⟩:=KV gd O (ops:=ops.toList) (b:=H.length) (k:=k) (λI=>by rw[<-f,if_pos I]) ops.toList.length (i:=0) (fr:=[]) Za (by simpa using g) a Q B
  ⟨λd ob G T _=>r.lt ⟨d,ob,G,T,rfl⟩,λi u=>r.uD u⟩ C
 refine⟨n,F',H',ν',Z,λq D=>?_,e2,?_,e5⟩
 .simp only[exec,jf,if_true,G,ζf,ζc,true_and];refine⟨(F',H'),?_,rfl,rfl⟩;rw[z];have:=e1 q D;rw[List.range_eq_range'];exact this
 rw[e4];refine y.vO _ _ _ _ _ _ _ j (le_trans B e3.len) (λi a U W=>by rw[e3.same i Za U W Za,w i a]) (λi u=>⟨u,by rw[(e3.rows i u).2];unfold bD;rw[w i (r.uD u)]⟩) (λi u=>?_) (λi u=>.inl u)
 rcases e3.own i u with h|h|h
 .exact .inl h
 .exact .inr h
 exact .inr Za
def Qh{ro:Zl}{code:Code}{f:St->bt (Out×St)}(U:rQ X S ro code f):rQ X S ro (.loop code) (nq f):=by
 intro st o st' h J ν Z F H y r j;have⟨k,a⟩:=lR.1 h;have key:∀k st ν Z F H,iT f k st=some (o,st')->Yc S J st.more st.yid->R ν Z st F H->J st.want (e9 ν st.m) Z H->
  ∃n F' H' ν' Z',(∀q,n<=q->∀u,k<=u->jU (exec S.E (run S.E q) q ro X.nt code) u F H=some (o,F',H'))/\R ν' Z' st' F' H'/\J st'.want (e9 ν' st'.m) Z' H'/\Fix ν st ν' st':=by
  intro k
  induction k with
  |zero=>intro st ν Z F H h;simp[iT]at h|succ k Q=>
   intro st ν Z F H h y r j;simp only[iT]at h;split at h
   .rename_i z C;have⟨D,F1,H1,G,I,a1,a2,L,B⟩:=U st .norm z C J ν Z F H y r j;have⟨T,W,H2,ν2,Z2,Y,b,c,d⟩:=Q z G I F1 H1 h (by rw[B.more,B.yid];exact y) a2 L
    refine⟨max D T,W,H2,ν2,Z2,λq w u O=>?_,b,c,B.trans d⟩
    cases u with
    |zero=>omega|succ u=>simp only[jU,a1 q (le_trans (le_max_left _ _) w)];exact Y q (le_trans (le_max_right _ _) w) u Za
   rename_i C;have⟨D,F1,H1,G,I,a1,a2,L,B⟩:=U st o st' h J ν Z F H y r j;have g:o≠.norm:=λe=>by subst e;exact C st' h
   refine⟨D,F1,H1,G,I,λq w u O=>?_,a2,L,B⟩
   cases u with
   |zero=>omega|succ u=>simp only[jU,a1 q w];cases o<;>first|exact absurd rfl g|rfl
 have⟨n,F',H',ν',Z',e1,e2,e3,e4⟩:=key k st ν Z F H a y r j;refine⟨max n k,F',H',ν',Z',λq w=>?_,e2,e3,e4⟩;simp only[exec];exact e1 q (le_trans (le_max_left _ _) w) q (le_trans (le_max_right _ _) w)
def Qx(gd:Good X S)(hI:∀f a b xs,S.items f a b=some xs->fm S f a b xs){g:Zr}{ps:Array Tmp}{W Y:Code}{x:Arg}{A B:St->bt (Out×St)}
 (ab:ps.toList.all (·<X.nt)=true)(hx:oq X.nm g=some x)(hA:rQ X S true W A)(hB:rQ X S true Y B):
 rQ X S false (.rangeFunc g ps W Y) (λst=>match pT S.N st.g x with
 |some (.v (.clo f x y))=>match S.items f x y with
  |some xs=>(pE (iA ps.toList A B st) xs st.m).map λ(o,m)=>(o,{st with m:=m})|none=>none
 |_=>none):=by
 intro st o st' h J ν Z F H y r j;dsimp only at h;split at h
 .rename_i f a b ad;split at h
  .rename_i xs ae;have⟨⟨s,t⟩,hE,e⟩:=ζf.1 h;simp only[ζc]at e;obtain⟨rfl,rfl⟩:=e;have⟨yv,hy,ry⟩:=Cy gd.N r.slot hx ad;obtain⟨a',b',rfl,ra,rb⟩:=ry.fr.jD;have⟨N,more,T,hR⟩:=Co hE;generalize L:(⟨.ready,none,F,X.nt,ps.toList,W,Y⟩:uw)=z;have C:∀i,i<H.length->(H++[Ob.loop z])[i]?=H[i]?:=λi u=>List.getElem?_append_left u
   have D:∀i,Z i->bD (H++[Ob.loop z]) i=bD H i:=λi u=>by unfold bD;rw[C i (r.uD u)]
   have r0:R ν Z (OV st st.m) F (H++[Ob.loop z]):=by have:=r.heap (H':=H++[Ob.loop z]) (λi u=>C i (r.lt u)) D;exact⟨this.slot,this.obj,this.inj,this.apart,this.zrow,this.deep⟩
   have G:∀i,Z i->Z i/\bD (H++[Ob.loop z]) i=bD H i:=λi u=>⟨u,D i u⟩
   have j0:JI X st F ν (e9 ν st.m) Z H H.length ps.toList W Y (iA ps.toList A B st) s t more N (λ_=>False) Z (H++[Ob.loop z]):=by refine⟨st.m,ν,Z,z,r0,⟨rfl,Zc,λi k _ _=>C i k,λi u=>⟨u,D i u⟩,λi u=>.inl u,λi u=>.inl u⟩,λi u=>u.elim,λi u=>⟨λv=>?_,Nat.ne_of_lt (r.uD u),.inl u⟩,λv=>absurd (r.lt v) Zc,λhz=>absurd (r.uD hz) Zc,le_refl _,Zc,?_,λd _ af h=>⟨af,h,rfl,.refl _⟩,.inl ⟨hR,?_,?_⟩⟩;obtain⟨d,ob,g1,g2,rfl⟩:=v;exact r.apart d ob g1 g2 u;subst L;exact⟨rfl,rfl,rfl,rfl,rfl⟩;subst L;rfl;subst L;rfl
   have ah:Yc S (JI X st F ν (e9 ν st.m) Z H H.length ps.toList W Y (iA ps.toList A B st) s t more) more H.length:=⟨λw O Z1 H1 O' Z' H' E k l p K h5=>JI.vO E k l p K h5,λx1 aj O Z1 H1 args E k l p K=>JI.yield S hA hB ab E k l p K⟩
   have⟨n,yy,H',O',Z',e1,e2⟩:=hI f a b xs ae N more T H.length _ ah Z a' b' (H++[Ob.loop z]) (ra.mono G) (rb.mono G) (λi u=>by rw[D i u];exact r.zrow i u) (r.deep.mono D) j0
   have⟨m1,νb,P,M,r1,⟨_,k2,k3,k4,k5,k6⟩,_,_,l1,l2,l3,V,_,l6,l7⟩:=e2;have aa:m1=t/\(M.st=.ready\/M.st=.done)/\M.pend.getD .norm=s:=by rcases l7 with⟨g1,g2,g3⟩|⟨_,g1,g2,g3⟩;(cases g1 with|nil hn=>exact⟨rfl,.inl g2,by rw[g3,hn];rfl⟩);exact⟨g1,.inr g2,by rw[g3];rfl⟩
   obtain⟨rfl,c,U⟩:=aa;have ak:H.length<H'.length:=(ζe.1 V).1;have I:∀i,i≠H.length->(H'.set H.length .dead)[i]?=H'[i]?:=λi ai=>by rw[List.getElem?_set,if_neg (Ne.symm ai)]
   have Q:∀i,P i->bD (H'.set H.length .dead) i=bD H' i:=λi u=>by unfold bD;rw[I i λe=>l2 (e▸u)]
   have r2:=r1.heap (H':=H'.set H.length .dead) (λi u=>I i λe=>l1 (e▸u)) Q
   refine⟨n,F,H'.set H.length .dead,νb,P,λq hq=>?_,⟨r2.slot,r2.obj,r2.inj,r2.apart,r2.zrow,r2.deep⟩,?_,⟨λd hd=>l6 d (List.mem_append_left _ hd),rfl,rfl,rfl⟩⟩
   .simp only[exec,hy];rw[L,e1 q hq];simp only[V];rcases c with c|c<;>rw[c]<;>simp only[U]
   refine y.vO _ _ _ _ _ _ _ j (by simp only[List.length_set];omega) (λi k l p=>by rw[I i Za,k3 i k l p]) (λi u=>⟨(k4 i u).1,by rw[Q i (k4 i u).1,(k4 i u).2]⟩) k5 k6
  simp at h
 simp at h
end
end Go.VE
namespace Go.VE
variable[bV]
def kj(st:St):a_ RV->bt Zw
 |[]=>some []|.s n::r=>match bB st.g n,kj st r with
  |some x,some l=>some (x::l)|_,_=>none
 |.ld n size agg::r=>match(bB st.g n).bind λp=>oJ st.m (.load size agg) [p],kj st r with
  |some x,some l=>some (x::l)|_,_=>none
def l8(S:Sys)(c:cg)(rf:RF)(svs:Zw)(B:dQ):bt (Zw×dQ):=
 if svs.length<=rf.na then
  match cM S c rf.body (start svs B)with
  |some (.exit _,_)=>none|some (_,st)=>(kj st rf.rs).map λrs=>(rs,st.m)|none=>none
 else none
def zk(E:Env):ResultVar->bt RV
 |.tmp t=>some (.s t)|.cell a t=>(E.tt t).map λd=>.ld a d.size d.agg
def xx(E:Env)(nm:Zk->bt Nat)(fi:FI)(rf:RF):Prop:=bQ ⟨E,nm,fi.ntmps⟩ false fi.body=some (erase rf.body)/\fi.results.mapM (zk E)=some rf.rs/\rf.na=fi.ntmps
section
variable{ν ν' ν2:Nu}{Z Z':Nat->Prop}{st st' st2:St}{m m':Tb bN}{F F':Zo}{H H' H1:bC}{S:Sys}{c:cg}{X:CX}{J:JT}
theorem HA (gd:Good X S) (hS:jh S c) (hI:∀f a b xs,S.items f a b=some xs->fm S f a b xs):∀(rc:RC) (ro:Bool) (code:Code),bQ X ro code=some (erase rc)->rQ X S ro code (cM S c rc):=by
 intro rc
 induction rc with
 | skip=>
  intro ro code hc st o st' h J ν Z F H y r j;obtain⟨rfl,rfl⟩:=h;simp[erase]at hc;have:∀k,exec S.E (run S.E k) k ro X.nt code F H=some (.norm,F,H):=λk=>by
   cases code with
   | skip=>rfl
   | label _=>rfl
   | region id ops w=>
    simp[bQ]at hc;split at hc
    .simp_all
    simp_all
   | seq a b=>simp[bQ]at hc;grind
   | cond x a b=>simp[bQ]at hc;grind
   | block id b=>simp only[bQ]at hc;simp_all
   | loop b=>simp only[bQ]at hc;simp_all
   | rangeFunc g ps T U=>
    simp[bQ]at hc
    grind
   | _=>simp[bQ]at hc
  exact⟨0,F,H,ν,Z,λk _=>this k,r,j,.refl⟩
 | ops l=>
  intro ro code hc;simp[erase]at hc
  cases code with
  | region id ops w=>
   simp[bQ]at hc;split at hc
   .simp_all
   rename_i hd;obtain⟨l',hl,e⟩:=ζf.1 hc;cases e;intro st o st' h J ν Z F H y r j;obtain⟨z,h1,e⟩:=ζf.1 h;obtain⟨rfl,rfl⟩:=e;obtain⟨n,F',H',ν',Z',e1,e2,e3,e4⟩:=KP gd hS _ hl h1 y r j;refine⟨n,F',H',ν',Z',λk hk=>?_,e2,e3,e4⟩
   simp[exec,jf,hd,e1 k hk]
  | seq a b=>simp[bQ]at hc;grind
  | cond x a b=>simp[bQ]at hc;grind
  | block id b=>simp only[bQ]at hc;simp_all
  | loop b=>obtain⟨_,_,e⟩:=ζf.1 hc;cases e
  | rangeFunc g ps T U=>
   simp only[bQ]at hc;split at hc
   .simp at hc
   split at hc <;> simp at hc
  | _=>simp[bQ]at hc
 | oG l=>
  intro ro code hc;simp[erase]at hc
  cases code with
  | region id ops w=>
   simp only[bQ]at hc;split at hc
   .rename_i hd;subst hd;split at hc
    next ab=>obtain⟨l',hl,e⟩:=ζf.1 hc;cases e;have:=KA (ro:=ro) (id:=id) gd hS hl ab;intro st o st' h;exact this st o st' h
    simp at hc
   obtain⟨_,_,e⟩:=ζf.1 hc;cases e
  | seq a b=>simp[bQ]at hc;split at hc <;> simp at hc
  | cond x a b=>simp[bQ]at hc;split at hc <;> simp at hc
  | block id b=>obtain⟨_,_,e⟩:=ζf.1 hc;cases e
  | loop b=>obtain⟨_,_,e⟩:=ζf.1 hc;cases e
  | rangeFunc g ps T U=>
   simp only[bQ]at hc;split at hc
   .simp at hc
   split at hc <;> simp at hc
  | _=>simp[bQ]at hc
 | seq a b u O=>
  intro ro code hc;simp[erase]at hc
  cases code with
  | seq W cb=>
   simp[bQ]at hc;split at hc
   .rename_i xa xb Q hb;simp[RC.seq.injEq]at hc;obtain⟨rfl,rfl⟩:=hc;intro st o st' h J ν Z F H y r j;simp[cM]at h;split at h
    .rename_i z Y;obtain⟨I,F1,H1,B,C,a1,a2,L,D⟩:=u ro W Q st .norm z Y J ν Z F H y r j;obtain⟨n2,F2,H2,ν2,Z2,b1,b2,b3,b4⟩:=O ro cb hb z o st' h J B C F1 H1 (by rw[D.more,D.yid];exact y) a2 L
     refine⟨max I n2,F2,H2,ν2,Z2,λq G=>?_,b2,b3,D.trans b4⟩
     simp[exec,a1 q (Nat.le_trans (Nat.le_max_left _ _) G)];exact b1 q (Nat.le_trans (Nat.le_max_right _ _) G)
    rename_i Y;obtain⟨I,F1,H1,B,C,a1,a2,L,D⟩:=u ro W Q st o st' h J ν Z F H y r j;refine⟨I,F1,H1,B,C,λq G=>?_,a2,L,D⟩
    simp[exec,a1 q G];cases o <;> first|exact absurd h (Y st')|rfl
   simp at hc
  | region id ops w=>
   simp[bQ]at hc;split at hc
   .split at hc
    .obtain⟨_,_,e⟩:=ζf.1 hc;cases e
    simp at hc
   obtain⟨_,_,e⟩:=ζf.1 hc;cases e
  | cond x a b=>simp[bQ]at hc;split at hc <;> simp at hc
  | block id b=>simp only[bQ]at hc;obtain⟨_,_,e⟩:=ζf.1 hc;cases e
  | loop b=>simp only[bQ]at hc;obtain⟨_,_,e⟩:=ζf.1 hc;cases e
  | rangeFunc g ps T U=>
   simp only[bQ]at hc;split at hc
   .simp at hc
   split at hc <;> simp at hc
  | _=>simp[bQ]at hc
 | cond x a b u O=>
  intro ro code hc;simp[erase]at hc
  cases code with
  | cond g W cb=>
   simp[bQ]at hc;split at hc
   .rename_i xg xa xb hg Q hb;simp[RC.cond.injEq]at hc;obtain⟨rfl,rfl,rfl⟩:=hc;intro st o st' h J ν Z F H y r j;simp[cM]at h;split at h
    .rename_i t ht;obtain⟨yv,hy,ry⟩:=Cy gd.N r.slot hg ht;rw[ry.fr.bool]at hy;split at h
     .rename_i hb;obtain⟨I,F1,H1,B,C,a1,a2,L,D⟩:=u ro W Q st o st' h J ν Z F H y r j;refine⟨I,F1,H1,B,C,λq G=>?_,a2,L,D⟩
      simp[exec,hy,hb];exact a1 q G
     rename_i hb;obtain⟨I,F1,H1,B,C,a1,a2,L,D⟩:=O ro cb (by assumption) st o st' h J ν Z F H y r j
     refine⟨I,F1,H1,B,C,λq G=>?_,a2,L,D⟩
     simp[exec,hy,hb];exact a1 q G
    simp at h
   simp at hc
  | region id ops w=>
   simp[bQ]at hc;split at hc
   .split at hc
    .obtain⟨_,_,e⟩:=ζf.1 hc;cases e
    simp at hc
   obtain⟨_,_,e⟩:=ζf.1 hc;cases e
  | seq a b=>simp[bQ]at hc;split at hc <;> simp at hc
  | block id b=>simp only[bQ]at hc;obtain⟨_,_,e⟩:=ζf.1 hc;cases e
  | loop b=>simp only[bQ]at hc;obtain⟨_,_,e⟩:=ζf.1 hc;cases e
  | rangeFunc g ps T U=>
   simp only[bQ]at hc;split at hc
   .simp at hc
   split at hc <;> simp at hc
  | _=>simp[bQ]at hc
 | block id a u=>
  intro ro code hc;simp[erase]at hc
  cases code with
  | block ad W=>
   simp only[bQ]at hc;obtain⟨xa,Q,e⟩:=ζf.1 hc;simp[RC.block.injEq]at e;obtain⟨rfl,rfl⟩:=e;intro st o st' h J ν Z F H y r j;simp[cM]at h;split at h
   .rename_i ae z Y;obtain⟨I,F1,H1,B,C,a1,a2,L,D⟩:=u ro W Q st (.exit ae) z Y J ν Z F H y r j;split at h
    .rename_i e;simp  at h;obtain⟨rfl,rfl⟩:=h;refine⟨I,F1,H1,B,C,λq G=>?_,a2,L,D⟩
     simp[exec,a1 q G,if_pos e]
    rename_i e;simp  at h;obtain⟨rfl,rfl⟩:=h;refine⟨I,F1,H1,B,C,λq G=>?_,a2,L,D⟩
    simp[exec,a1 q G,if_neg e]
   rename_i Y;obtain⟨I,F1,H1,B,C,a1,a2,L,D⟩:=u ro W Q st o st' h J ν Z F H y r j;refine⟨I,F1,H1,B,C,λq G=>?_,a2,L,D⟩
   simp[exec,a1 q G];cases o <;> first|exact absurd h (Y _ st')|rfl
  | region id ops w=>
   simp[bQ]at hc;split at hc
   .split at hc
    .obtain⟨_,_,e⟩:=ζf.1 hc;cases e
    simp at hc
   obtain⟨_,_,e⟩:=ζf.1 hc;cases e
  | seq a b=>simp[bQ]at hc;split at hc <;> simp at hc
  | cond x a b=>simp[bQ]at hc;split at hc <;> simp at hc
  | loop b=>simp only[bQ]at hc;obtain⟨_,_,e⟩:=ζf.1 hc;cases e
  | rangeFunc g ps T U=>
   simp only[bQ]at hc;split at hc
   .simp at hc
   split at hc <;> simp at hc
  | _=>simp[bQ]at hc
 | loop a u=>
  intro ro code hc;simp[erase]at hc
  cases code with
  | loop W=>
   simp only[bQ]at hc;obtain⟨xa,Q,e⟩:=ζf.1 hc;simp[RC.loop.injEq]at e;subst e;have:=Qh (u ro W Q);intro st o st' h;simp[cM]at h;exact this st o st' h
  | region id ops w=>
   simp[bQ]at hc;split at hc
   .split at hc
    .obtain⟨_,_,e⟩:=ζf.1 hc;cases e
    simp at hc
   obtain⟨_,_,e⟩:=ζf.1 hc;cases e
  | seq a b=>simp[bQ]at hc;split at hc <;> simp at hc
  | cond x a b=>simp[bQ]at hc;split at hc <;> simp at hc
  | block id b=>simp only[bQ]at hc;obtain⟨_,_,e⟩:=ζf.1 hc;cases e
  | rangeFunc g ps T U=>
   simp only[bQ]at hc;split at hc
   .simp at hc
   split at hc <;> simp at hc
  | _=>simp[bQ]at hc
 | each x ps a b u O=>
  intro ro code hc;simp[erase]at hc
  cases code with
  | rangeFunc g ah T U=>
   simp only[bQ]at hc;split at hc
   .simp at hc
   rename_i aa;simp only[Bool.or_eq_true,not_or,Bool.not_eq_true,Bool.not_eq_false']at aa;obtain⟨rfl,af⟩:=aa;split at hc
   next xg xa xb hg Q hb=>simp[RC.each.injEq]at hc;obtain⟨rfl,rfl,rfl,rfl⟩:=hc;have:=Qx gd hI af hg (u true T Q) (O true U hb);intro st o st' h;simp only[cM]at h;exact this st o st' h
   simp at hc
  | region id ops w=>
   simp only[bQ]at hc;split at hc
   .split at hc
    .obtain⟨_,_,e⟩:=ζf.1 hc;cases e
    simp at hc
   obtain⟨_,_,e⟩:=ζf.1 hc;cases e
  | seq a b=>simp only[bQ]at hc;split at hc <;> simp at hc
  | cond x a b=>simp only[bQ]at hc;split at hc <;> simp at hc
  | block id b=>simp only[bQ]at hc;obtain⟨_,_,e⟩:=ζf.1 hc;cases e
  | loop b=>simp only[bQ]at hc;obtain⟨_,_,e⟩:=ζf.1 hc;cases e
  | _=>simp[bQ]at hc
 | exit id=>
  intro ro code hc st o st' h J ν Z F H y r j;simp only[cM,ζa,ζc]at h;obtain⟨rfl,rfl⟩:=h;simp only[erase]at hc;have:∀k,exec S.E (run S.E k) k ro X.nt code F H=some (.exit id,F,H):=λk=>by
   cases code with
   | exit ad=>simp only[bQ,ζa,RC.exit.injEq]at hc;subst hc;rfl
   | region id ops w=>
    simp only[bQ]at hc;split at hc
    .split at hc
     .obtain⟨_,_,e⟩:=ζf.1 hc;cases e
     simp at hc
    obtain⟨_,_,e⟩:=ζf.1 hc;cases e
   | seq a b=>simp only[bQ]at hc;split at hc <;> simp at hc
   | cond x a b=>simp only[bQ]at hc;split at hc <;> simp at hc
   | block id b=>simp only[bQ]at hc;obtain⟨_,_,e⟩:=ζf.1 hc;cases e
   | loop b=>simp only[bQ]at hc;obtain⟨_,_,e⟩:=ζf.1 hc;cases e
   | rangeFunc g ps T U=>
    simp only[bQ]at hc;split at hc
    .simp at hc
    split at hc <;> simp at hc
   | _=>simp[bQ]at hc
  exact⟨0,F,H,ν,Z,λk _=>this k,r,j,.refl⟩
 | ret=>
  intro ro code hc st o st' h J ν Z F H y r j;simp only[cM,ζa,ζc]at h;obtain⟨rfl,rfl⟩:=h;simp only[erase]at hc;have:∀k,exec S.E (run S.E k) k ro X.nt code F H=some (.ret,F,H):=λk=>by
   cases code with
   | ret=>rfl
   | region id ops w=>
    simp only[bQ]at hc;split at hc
    .split at hc
     .obtain⟨_,_,e⟩:=ζf.1 hc;cases e
     simp at hc
    obtain⟨_,_,e⟩:=ζf.1 hc;cases e
   | seq a b=>simp only[bQ]at hc;split at hc <;> simp at hc
   | cond x a b=>simp only[bQ]at hc;split at hc <;> simp at hc
   | block id b=>simp only[bQ]at hc;obtain⟨_,_,e⟩:=ζf.1 hc;cases e
   | loop b=>simp only[bQ]at hc;obtain⟨_,_,e⟩:=ζf.1 hc;cases e
   | rangeFunc g ps T U=>
    simp only[bQ]at hc;split at hc
    .simp at hc
    split at hc <;> simp at hc
   | _=>simp[bQ]at hc
  exact⟨0,F,H,ν,Z,λk _=>this k,r,j,.refl⟩
 | gh x a u=>
  intro ro code hc;simp only[erase]at hc;intro st o st' h J ν Z F H y r j;simp only[cM]at h;obtain⟨z,h1,h2⟩:=ζg.1 h;obtain⟨B,C,g1,g2,g3⟩:=Fix.ghost r y j h1;obtain⟨n,F',H',ν',Z',e1,e2,e3,e4⟩:=u ro code hc z o st' h2 J B C F H (by rw[g3.more,g3.yid];exact y) g1 g2
  exact⟨n,F',H',ν',Z',e1,e2,e3,g3.trans e4⟩
 | hg a x u=>
  intro ro code hc;simp only[erase]at hc;intro st o st' h J ν Z F H y r j;simp only[cM]at h;split at h
  .rename_i z Y;obtain⟨st2,h1,e⟩:=ζf.1 h;simp only[ζc]at e;obtain⟨rfl,rfl⟩:=e;obtain⟨n,F',H',ν',Z',e1,e2,e3,e4⟩:=u ro code hc st .norm z Y J ν Z F H y r j;obtain⟨B,C,g1,g2,g3⟩:=Fix.ghost e2 (by rw[e4.more,e4.yid];exact y) e3 h1
   exact⟨n,F',H',B,C,e1,g1,g2,e4.trans g3⟩
  exact u ro code hc st o st' h J ν Z F H y r j
end
abbrev oN:=FuncId->bt RF
def yh(E:Env)(f:Zk)(az:Zu)(y:V):Prop:=∃n z H' Z,run E n (.fn f) az []=some (z,H')/\FR H' Z y z/\(∀id,Z id->(bD H' id).isSome=true)/\Deep H' Z
structure qq(S:Sys)(T:oN):Prop where
 fn:∀f rf,T f=some rf->∃fi nm,S.E.ft f=some fi/\(∀g s,nm g=some s->S.N s=g)/\xx S.E nm fi rf
 xC:∀f az y,S.xC f az=some y->yh S.E f az y
 prm:∀f q,S.prm f=some q->nN S.E f q
def Nf(S:Sys)(f:Zk)(svs:Zw)(B:dQ):bt (Zw×dQ):=
 if S.E.keep f then none else match dA svs,B with
  |some az,[]=>(S.xC f az).map λy=>([.v y],[])|_,_=>none
def kL(S:Sys)(T:oN):Nat->cg
 |0=>λ_ _ _=>none|n+1=>λf svs B=>match T f with
  |some rf=>l8 S (kL S T n) rf svs B|none=>Nf S f svs B
section
variable{ν ν' ν2:Nu}{Z Z':Nat->Prop}{st st' st2:St}{m m':Tb bN}{F F':Zo}{H H' H1:bC}{S:Sys}{c c':cg}{X:CX}{J:JT}{T:oN}
def zn(r:R ν Z st F H){nm:Zk->bt Nat}:∀{B:a_ ResultVar}{rs:a_ RV}{l:Zw},B.mapM (zk S.E)=some rs->kj st rs=some l->∃ys,gT S.E F H B=some ys/\b7 ν st.m H Z l ys
 |[],rs,l,hc,h=>by simp at hc;subst hc;simp[kj]at h;subst h;exact⟨[],rfl,.nil⟩|rv::B,rs,l,hc,h=>by simp[ζg]at hc;obtain⟨x,D,ys,G,rfl⟩:=hc;cases rv with|tmp t=>simp[zk]at D;subst D;simp[kj]at h;split at h;(next v I b u=>simp at h;subst h;have⟨w,e1,e2⟩:=zn r (nm:=nm) G u;exact⟨get F t::w,by simp[gT,e1],.cons (r.slot t v b) e2⟩);grind|cell a t=>simp[zk]at D;obtain⟨d,J,rfl⟩:=D;simp[kj]at h;split at h;rename_i v I b u;simp at h;subst h;have⟨p,L,b⟩:=ζg.1 b;have⟨w,e1,e2⟩:=zn r (nm:=nm) G u;have⟨y,g1,g2⟩:=uG (λs a e=>by cases e) (λkk z ok e=>by cases e) (b7.cons (r.slot a p L) .nil) (λO _ ob C=>r.obj O ob C) b;simp[dZ]at g1;exact⟨y::w,by simp[gT,J,e1,g1],.cons g2 e2⟩;grind
def G4(G:∀f q,S.prm f=some q->nN S.E f q)(J:jh S c)(O:∀f a b xs,S.items f a b=some xs->fm S f a b xs){f:Zk}{fi:FI}{nm:Zk->bt Nat}{rf:RF}(D:S.E.ft f=some fi)(U:∀g s,nm g=some s->S.N s=g)(j:xx S.E nm fi rf)
 {svs:Zw}{B:dQ}{rs:Zw}{m1:dQ}(h:l8 S c rf svs B=some (rs,m1)){args:Zu}(r:R ν Z (start svs B) args H)(W:b7 ν B H Z svs args):
 ∃n y H' ν' Z' st' F' ys,run S.E n (.fn f) args H=some (y,H')/\y=result ys/\st'.m=m1/\b7 ν' m1 H' Z' rs ys/\R ν' Z' st' F' H'/\Ev (λ_=>False) ν Z (start svs B) H ν' Z' st' H':=by
 have⟨k,z,C⟩:=j;unfold l8 at h;split at h
 .have key:∀o st',cM S c rf.body (start svs B)=some (o,st')->(∀id,o≠.exit id)->(kj st' rf.rs).map (λrs=>(rs,st'.m))=some (rs,m1)->
   ∃n y H' ν' Z' st' F' ys,run S.E n (.fn f) args H=some (y,H')/\y=result ys/\st'.m=m1/\b7 ν' m1 H' Z' rs ys/\R ν' Z' st' F' H'/\Ev (λ_=>False) ν Z (start svs B) H ν' Z' st' H':=λo st' I t w=>by
   have⟨l,d,e⟩:=ζf.1 w;obtain⟨rfl,rfl⟩:=e;have⟨n,F',H',ν',Z',e1,e2,e3,e4⟩:=HA ⟨rfl,U,G⟩ J O rf.body false fi.body k _ _ _ I (tc (e9 ν (start svs B).m) Z H) ν Z args H tc.yc r (tc.refl r);have⟨ys,p1,p2⟩:=zn (nm:=nm) e2 z d;have⟨_,L,Q,T,X,Y⟩:=e3;refine⟨n+1,result ys,H',ν',Z',st',F',ys,?_,rfl,rfl,p2,e2,⟨L,λi d m p _=>Q i d m p,T,λi h=>(X i h).imp (λh=>h) .inr,λi h=>(Y i h).imp (λh=>h) (.imp (λh=>h) .inr),e4.pin,e4.pins⟩⟩
   have u:args.length<=fi.ntmps:=by rw[<-W.1,<-C];omega
   simp[run,jv,D,if_pos u,e1 n (le_refl _)]
   grind
  grind
 grind
def FR.emp{x y:V}(G:∀id,¬Z id)(r:FR H Z x y):x=y:=by
 have B:∀{a w:Zu},a.length=w.length->(∀(j:Nat)u v,a[j]?=some u->w[j]?=some v->u=v)->a=w:=λ{a w}h1 z=>by apply List.ext_getElem h1;intro i p q;exact z i _ _ (ζd p) (ζd q)
 induction r with|same x h=>rfl|fsl es C id off D h=>grind|fptr C id el off es D I h=>grind|clo f a b w J h1 z _ _ i1 i2=>rw[B h1 i1,B z i2]|agg a w h1 _ i1=>grind|tup a w h1 _ i1=>grind
def b7.emp(B:∀id,¬Z id):∀{xs ys:Zu},b7 ν m H Z (xs.map .v) ys->xs=ys
 |[],ys,h=>h.c8.symm|x::xs,ys,h=>by obtain⟨y,ys,rfl,a,D⟩:=h.inv;rw[FR.emp B a.fr,b7.emp B D]
def z7(B:qq S T)(O:∀f a b xs,S.items f a b=some xs->fm S f a b xs):∀n,jh S (kL S T n)
 |0=>λf svs W rs m1 h=>by simp[kL]at h|n+1=>λf svs W rs m1 h ν Z args H U r D=>by simp[kL]at h;split at h;(next rf G=>have⟨fi,nm,c,Y,g⟩:=B.fn f rf G;exact G4 B.prm (z7 B O n) O c Y g h r D);unfold Nf at h;split at h;simp_all;split at h;rename_i az Q;have⟨y,X,e⟩:=ζf.1 h;obtain⟨rfl,rfl⟩:=e;have⟨k,z,H',i,w,C,I,iW⟩:=B.xC f az y X;rcases U with U|rfl;grind;have L:∀id,¬Z id:=λid J=>(by have:=r.zrow id J;simp[bD]at this);have u:=(by rw[ta Q]at D;exact(b7.emp L D).symm);subst u;refine⟨k,z,H',λ_=>(0,0),i,⟨[],[],[],[],true,0⟩,[],[z],w,rfl,rfl,b7.cons (.v y z C) .nil,?_,?_⟩;exact⟨λs sv h=>by simp[bB]at h,λd ob h=>by simp[bB]at h,λd j ob l h=>by simp[bB]at h,λd ob h=>by simp[bB]at h,I,iW⟩;exact⟨Nat.zero_le _,λid h=>Ze,λid h=>absurd h (L id),λid h=>Zd,λid h=>.inr (.inr (.inr (Nat.zero_le _))),λd h=>by simp[start]at h,rfl⟩;grind
abbrev JR:=a_ ((FuncId×a_ SV×dQ)×(a_ SV×dQ))
def Bj(c:cg)(L:JR):Prop:=∀p∈L,c p.1.1 p.1.2.1 p.1.2.2=some p.2
def Fin{α:Type}(c:cg)(f:cg->bt α)(r:α):Prop:=∃L:JR,Bj c L/\∀c',Bj c' L->f c'=some r
def Fin.pure{α:Type}{f:cg->bt α}{r:α}(h:∀c',f c'=some r):Fin c f r:=⟨[],λp u=>Ze,λc' _=>h c'⟩
def Fin.bind{α β:Type}{f:cg->bt α}{r:α}{g:cg->bt β}{q:β}(b:Fin c f r)(B:cg->α->bt β)(D:Fin c (λc=>B c r) q)(d:∀c',f c'=some r->g c'=B c' r):Fin c g q:=by have⟨L1,a1,w⟩:=b;have⟨L2,a2,z⟩:=D;refine⟨L1++L2,λp u=>(List.mem_append.1 u).elim (a1 p) (a2 p),λc' a=>?_⟩;rw[d c' (w c' λp u=>a p (List.mem_append_left _ u))];exact z c' λp u=>a p (List.mem_append_right _ u)
def Fin.call{f:Zk}{svs:Zw}{B:dQ}{r:Zw×dQ}(h:c f svs B=some r):Fin c (λc=>c f svs B) r:=⟨[((f,svs,B),r)],λp u=>Zd,λc' a=>a ((f,svs,B),r) Zc⟩
def DG{dst:bt Nat}{dr now:Zl}{old:Zw->Zl}{f:Zk}{args:Zw}{r:SV×St}(h:fV S c dst dr now old f args st=some r):Fin c (λc=>fV S c dst dr now old f args st) r:=by have b:=h;unfold fV at h;split at h;split at h;split at h;split at h;split at h;rename_i rs m' a;refine(Fin.call a).bind (λc' q=>fV S c dst dr now old f args st) (.pure λ_=>b) (λc' u=>?_);unfold fV;grind;grind;grind;rename_i w;split at h;rename_i q z;refine .pure λc'=>?_;unfold fV;simp_all;rename_i z;split at h;rename_i os D;split at h;rename_i rs m' a;refine(Fin.call a).bind (λc' q=>fV S c dst dr now old f args st) (.pure λ_=>b) (λc' u=>?_);unfold fV;clear h b;simp[*];grind;grind;split at h;split at h;split at h;rename_i rs m' a;refine(Fin.call a).bind (λc' q=>fV S c dst dr now old f args st) (.pure λ_=>b) (λc' u=>?_);unfold fV;simp_all;grind;grind;grind;rename_i d;split at h;rename_i az B;split at h;rename_i C;split at h;rename_i rs m' a;refine(Fin.call a).bind (λc' q=>fV S c dst dr now old f args st) (.pure λ_=>b) (λc' u=>?_);unfold fV;simp[d,B,C,a,u];grind;grind;grind
def Qs{dr:Zl}{fr:Zv}{o:RO}{r:SV×St}(h:kN S c dr fr o st=some r):Fin c (λc=>kN S c dr fr o st) r:=by have d:=h;unfold kN at h;split at h;rename_i z u;split at h;refine .pure λc'=>?_;have a:=d;unfold kN at a⊢;rename_i b;simp only[u,b]at a⊢;exact a;refine .pure λc'=>?_;have a:=d;unfold kN at a⊢;rename_i B b;simp only[u,b]at a⊢;exact a;refine .pure λc'=>?_;have a:=d;unfold kN at a⊢;rename_i b;simp only[u,b]at a⊢;exact a;refine .pure λc'=>?_;have a:=d;unfold kN at a⊢;rename_i b;simp only[u,b]at a⊢;exact a;refine .pure λc'=>?_;have a:=d;unfold kN at a⊢;rename_i b;simp only[u,b]at a⊢;exact a;rename_i b;split at h;refine(DG h).bind (λ_ q=>some q) (.pure λ_=>rfl) (λc' w=>?_);unfold kN;simp only[u,b,w];refine(DG h).bind (λ_ q=>some q) (.pure λ_=>rfl) (λc' w=>?_);unfold kN;simp only[u,b,w];simp at h;refine .pure λc'=>?_;have a:=d;unfold kN at a⊢;rename_i b;simp only[u,b]at a⊢;exact a;refine .pure λc'=>?_;have a:=d;unfold kN at a⊢;rename_i b;simp only[u,b]at a⊢;exact a;simp at h
def PK{dr:Zl}{fr:Zv}{o:RO}{r:St}(h:fq S c dr fr o st=some r):Fin c (λc=>fq S c dr fr o st) r:=by unfold fq at h;split at h;split at h;refine .pure λc'=>?_;unfold fq;grind;have⟨q,u,e⟩:=ζf.1 h;refine(Qs u).bind (λ_ q=>some (dy q.2 o.dst q.1)) (.pure λ_=>Ze) (λc' w=>?_);unfold fq;grind;refine .pure λc'=>?_;unfold fq;grind;grind
def AQ{dr:Zl}:∀{l:Zx}{fr:Zv}{st r:St},mg S c dr fr l st=some r->Fin c (λc=>mg S c dr fr l st) r
 |[],fr,st,r,h=>.pure λ_=>h|o::l,fr,st,r,h=>by simp[mg]at h;split at h;(next D B=>have⟨G,a,B⟩:=ζg.1 B;exact(PK B).bind (λc' q=>mg S c' dr (if dr then p_ fr o.strip else fr) l (ou o.dead q)) (AQ h) (λc' u=>by simp[mg,a,u]));grind
def DM{f:cg->St->bt (Out×St)}(D:∀st r,f c st=some r->Fin c (λc=>f c st) r):∀{k:Nat}{st:St}{r:Out×St},iT (f c) k st=some r->Fin c (λc=>iT (f c) k st) r
 |0,st,r,h=>by simp[iT]at h|k+1,st,r,h=>by simp[iT]at h;split at h;(next G J=>exact(D st _ J).bind (λc' q=>iT (f c') k G) (DM D h) (λc' B=>by simp[iT,B]));refine(D st r h).bind (λ_ q=>some q) (.pure λ_=>rfl) (λc' B=>?_);simp[iT,B];grind
def C5{f:cg->Zu->Tb bN->bt (Out×Tb bN)}(D:∀x m r,f c x m=some r->Fin c (λc=>f c x m) r):∀{xs:Zt}{m:Tb bN}{r:Out×Tb bN},pE (f c) xs m=some r->Fin c (λc=>pE (f c) xs m) r
 |[],m,r,h=>.pure λ_=>h|x::xs,m,r,h=>by simp[pE]at h;split at h;(next m1 G=>exact(D x m _ G).bind (λc' q=>pE (f c') xs m1) (C5 D h) (λc' B=>by simp[pE,B]));refine(D x m r h).bind (λ_ q=>some q) (.pure λ_=>rfl) (λc' B=>?_);simp[pE,B];grind
def Lm:∀{d:RC}{st:St}{r:Out×St},cM S c d st=some r->Fin c (λc=>cM S c d st) r:=by intro d;induction d with|skip=>exactλh=>.pure λ_=>h|exit id=>exactλh=>.pure λ_=>h|ret=>exactλh=>.pure λ_=>h|ops l=>intro st r h;simp only[cM]at h⊢;have⟨q,G,e⟩:=ζf.1 h;exact(AQ G).bind (λ_ q=>some (.norm,q)) (.pure λ_=>Ze) (λc' w=>Zd)|oG l=>intro st r h;simp only[cM]at h⊢;have⟨q,G,e⟩:=ζf.1 h;exact(AQ G).bind (λ_ q=>some (.norm,q)) (.pure λ_=>Ze) (λc' w=>Zd)|seq a b u C=>intro st r h;simp[cM]at h⊢;split at h;(next B D=>exact(u D).bind (λc' q=>cM S c' b B) (C h) (λc' w=>Zd));rename_i D;refine(u h).bind (λ_ q=>some q) (.pure λ_=>rfl) (λc' w=>?_);grind|cond x a b u C=>intro st r h;simp[cM]at h⊢;grind|block id a u=>intro st r h;simp[cM]at h⊢;split at h;(next I B D=>exact(u D).bind (λc' q=>if I=id then some (.norm,B)else some (.exit I,B)) (.pure λ_=>h) (λc' w=>Zd));refine(u h).bind (λ_ q=>some q) (.pure λ_=>rfl) (λc' w=>?_);grind|loop a u=>intro st r h;have⟨k,j⟩:=lR.1 h;refine(DM (λst r h=>u h) j).bind (λ_ q=>some q) (.pure λ_=>rfl) (λc' w=>?_);exact lR.2 ⟨k,w⟩|each g ps a b u C=>intro st r h;simp only[cM]at h⊢;split at h;split at h;have⟨q,G,e⟩:=ζf.1 h;refine(C5 (f:=λc=>iA ps (cM S c a) (cM S c b) st) (λz m r h=>?_) G).bind (λ_ q=>some (q.1,{st with m:=q.2})) (.pure λ_=>Ze) (λc' w=>Zd);unfold iA at h;split at h;split at h;rename_i B i;have⟨L,J,e2⟩:=ζf.1 h;refine(u i).bind (λc' q=>(cM S c' b B).map λ(o,st2)=>(o,st2.m)) ((C J).bind (λ_ q=>some (q.1,q.2.m)) (.pure λ_=>Ze) (λc' w=>Zd)) (λc' w=>?_);unfold iA;grind;grind;grind;grind;grind|gh x a u=>intro st r h;simp[cM]at h⊢;have⟨B,i,O⟩:=ζg.1 h;grind|hg a x u=>intro st r h;simp[cM]at h⊢;split at h;(next B D=>exact(u D).bind (λc' q=>(ghost x B).map λst=>(.norm,st)) (.pure λ_=>h) (λc' w=>Zd));refine(u h).bind (λ_ q=>some q) (.pure λ_=>rfl) (λc' w=>?_);grind
def y8{rf:RF}{svs:Zw}{B:dQ}{r:Zw×dQ}(h:l8 S c rf svs B=some r):Fin c (λc=>l8 S c rf svs B) r:=by have a:=h;unfold l8 at h;split at h;split at h;simp_all;rename_i o st u w;refine(Lm w).bind (λc' q=>l8 S c rf svs B) (.pure λ_=>a) (λc' z=>?_);unfold l8;grind;grind;grind
def Ci:∀{n:Nat}{f:Zk}{svs:Zw}{B:dQ}{r:Zw×dQ},kL S T n f svs B=some r->kL S T (n+1) f svs B=some r
 |0,f,svs,B,r,h=>by simp[kL]at h|n+1,f,svs,B,r,h=>by simp[kL]at h;rw[kL];split at h;(next rf D=>have⟨L,a,G⟩:=y8 h;simp[D];exact G _ λp u=>Ci (a p u));grind
def AE{n k:Nat}(h:n<=k){f:Zk}{svs:Zw}{B:dQ}{r:Zw×dQ}(D:kL S T n f svs B=some r):kL S T k f svs B=some r:=by induction h with|refl=>omega|step _ u=>exact Ci u
open Classical in
def dg(S:Sys)(T:oN):cg:=λf u w=>if h:∃n r,kL S T n f u w=some r then some (Classical.choose (choose_spec h))else none
def rj{f:Zk}{svs:Zw}{B:dQ}{r:Zw×dQ}:dg S T f svs B=some r↔∃n,kL S T n f svs B=some r:=by unfold dg;constructor;intro h;split at h;grind;grind;rintro⟨k,a⟩;have u:∃n r,kL S T n f svs B=some r:=⟨k,r,a⟩;have w:=choose_spec (choose_spec u);have z:=AE (le_max_left (Classical.choose u) k) w;have C:=AE (le_max_right (Classical.choose u) k) a;grind
def JV{L:JR}(h:Bj (dg S T) L):∃n,∀k,n<=k->Bj (kL S T k) L:=by induction L with|nil=>exact⟨0,λk _ p a=>Ze⟩|cons q L u=>have⟨w,c⟩:=rj.1 (h q Zc);have⟨z,B⟩:=u λp a=>h p (List.mem_cons_of_mem _ a);refine⟨max w z,λk b p a=>?_⟩;rcases List.mem_cons.1 a with rfl|a;exact AE (le_trans (le_max_left _ _) b) c;exact B k (le_trans (le_max_right _ _) b) p a
def Dd{f:Zk}{az:Zu}{y:V}(B:T f=none)(b:S.E.keep f=false)(h:S.xC f az=some y):dg S T f (az.map .v) []=some ([.v y],[]):=by
 refine rj.2 ⟨1,?_⟩;have u:dA (az.map .v)=some az:=by clear h;induction az with|nil=>rfl|cons a l w=>simp only[List.map_cons,dA,w];rfl
 simp only[kL,B,Nf,b,u,h];rfl
def qA{f:Zk}{rf:RF}(D:T f=some rf)(svs:Zw)(B:dQ):dg S T f svs B=l8 S (dg S T) rf svs B:=by cases h:l8 S (dg S T) rf svs B with|some r=>have⟨L,a,w⟩:=y8 h;have⟨n,u⟩:=JV a;refine rj.2 ⟨n+1,?_⟩;simp[kL,D];grind|none=>cases w:dg S T f svs B with|none=>rfl|some r=>have⟨n,u⟩:=rj.1 w;cases n with|zero=>simp[kL]at u|succ n=>simp[kL,D]at u;have⟨L,z,C⟩:=y8 u;have I:=C (dg S T) λp G=>rj.2 ⟨n,z p G⟩;grind
def vH(B:qq S T)(D:∀f a b xs,S.items f a b=some xs->fm S f a b xs):jh S (dg S T):=λf u w rs z h=>by have⟨n,C⟩:=rj.1 h;exact z7 B D n f u w rs z C
def Qy(U:∀f q,S.prm f=some q->nN S.E f q)(W:jh S c){f:Zk}{fi:FI}{nm:Zk->bt Nat}{rf:RF}(Y:∀f a b xs,S.items f a b=some xs->fm S f a b xs)(D:S.E.ft f=some fi)(e:∀g s,nm g=some s->S.N s=g)(l:xx S.E nm fi rf){a b:Zu}{xs:Zt}
 (O:a.length+1+b.length<=rf.na)(G:rf.rs=[])
 (h:∀B more,(more=true/\B=xs\/more=false/\B≠[]/\∃r,xs=B++r)->∀yid,∃o st',cM S c rf.body {g:=vC 0 (a.map .v++.yl yid::b.map .v),m:=[],pin:=[],want:=B,more:=more,yid:=yid}=some (o,st')/\(∀id,o≠.exit id)/\st'.want=[]/\st'.m=st'.m):
 fm S f a b xs:=by
 intro B more T yid J y Z C I H X p t v j;have⟨o,st',x,K,A,_⟩:=h B more T yid;have⟨E,w,L⟩:=l;have Q:b7 (λ_=>(0,0)) [] H Z (a.map .v++.yl yid::b.map .v) (C++.yld yid::I):=(b7.qm X).append (.cons (.yl yid) (b7.qm p))
 have F:R (λ_=>(0,0)) Z {g:=vC 0 (a.map .v++.yl yid::b.map .v),m:=[],pin:=[],want:=B,more:=more,yid:=yid} (C++.yld yid::I) H:=⟨vI Q,λd ob h=>by simp[bB]at h,λd M ob N h=>by simp[bB]at h,λd ob h=>by simp[bB]at h,t,v⟩
 have⟨n,F',H',ν',Z',e1,e2,e3,e4⟩:=HA ⟨rfl,e,U⟩ W Y rf.body false fi.body E _ _ _ x J _ Z _ H y F (by
  refine y.vO _ _ _ _ _ _ _ j (le_refl _) (λ_ _ _ _=>rfl) (λi z=>⟨z,rfl⟩) (λi z=>?_) (λi z=>.inl z)
  have⟨d,ob,h,_⟩:=z;simp[bB]at h)
 rw[A]at e3;rw[G]at w;have⟨ys,p1,p2⟩:=zn (nm:=nm) e2 w rfl;refine⟨n+1,result ys,H',_,Z',λk P=>?_,e3⟩
 have u:(C++V.yld yid::I).length<=fi.ntmps:=by rw[<-Q.1,<-L];simp;omega
 cases k with
 |zero=>omega|succ k=>
  simp[run,jv,D,if_pos u,e1 k Za]
  grind
def Qw(B:qq S T)(D:∀f a b xs,S.items f a b=some xs->fm S f a b xs){f:Zk}{az:Zu}(d:V.cG az=true){y:V}{m':dQ}(h:dg S T f (az.map .v) []=some ([.v y],m'))(G:y.scalar=true):
 ∃n H',run S.E n (.fn f) az []=some (y,H'):=by
 have⟨u,r1⟩:=ve d;obtain⟨n,I,H2,ν',Z',st',F',w,c,rfl,J,C,L,_⟩:=vH B D f _ _ _ _ h _ _ az [] (.inr rfl) u r1;obtain⟨z,w,rfl,e1,e2⟩:=C.inv;rw[e2.c8]at c;have:=(e1.fr.scalar).1 G;subst this;exact⟨n,H2,c⟩
end
end Go.VE
