/-
 The second layer: named objects in the place of rows; texts, calls, iterators.
-/
import Derived.Test.YtbhedaipfioknaaGreatN1
set_option linter.all false
noncomputable section
open Nat(le_max_left le_max_right le_refl le_trans)
open Classical(choose_spec)
namespace Go.VE
variable[bV]
section
variable{ν ν' ν2:Nu}{Z Z':Nat->Prop}{st st' st2:St}{m m':Tb bK}{F F':Zo}{H H' H1:bp}{S:Sys}{c:b9}{X:CX}{J:JT}
def LN(gd:Good X S)(G:je S c){ro:Zl}{id:Nat}{ops:Array Oper}{l:Zx}(m:kz X true ops.toList 0 ops.toList=some (l.map RO.strip))(D:(uR ops.toList&&zo ops.toList)=true):
 rE X S ro (.region id ops true) (λst=>(mA S c true [] l st).map λst=>(.norm,st)):=by
 intro st o st' h J ν Z F H y r j;have⟨I,f,e⟩:=ζf.1 h;simp only[ζc]at e;obtain⟨rfl,rfl⟩:=e;generalize w:(if qA ops.toList then H++List.replicate ops.toList.length .free else H)=H0;generalize g:(if qA ops.toList then ops.toList.length else 0)=k;have u:∀i,i<H.length->H0[i]?=H[i]?:=λi t=>by rw[<-w];split;exact List.getElem?_append_left t;rfl
 have z:H.length<=H0.length:=by rw[<-w];split<;>simp
 have L:R ν Z st F H0:=r.heap (λi t=>u i (r.lt t)) (λi t=>by unfold br;rw[u i (r.vq t)])
 have B:∀q,0<=q->q<k->H0[H.length+q]?=some .free:=λq _ a=>by rw[<-g]at a;split at a;rename_i C;rw[<-w,if_pos C,List.getElem?_append_right Za];simp only[Nat.add_sub_cancel_left];rw[List.getElem?_replicate,if_pos a];omega
 have⟨n,F',H',ν',e1,e2,e3,e4,e5⟩:=Ls gd G (ops:=ops.toList) (b:=H.length) (k:=k) (λC=>by rw[<-g,if_pos C]) ops.toList.length (i:=0) (fr:=[]) Za (by simpa using m) f L z
  ⟨λd ob D O _=>r.lt ⟨d,ob,D,O,rfl⟩,λi t=>r.vq t⟩ B
 refine⟨n,F',H',ν',Z,λq a=>?_,e2,?_,e5⟩
 .simp only[exec,ji,if_true,D,ζf,ζc,true_and];refine⟨(F',H'),?_,rfl,rfl⟩;rw[w];have:=e1 q a;rw[List.range_eq_range'];exact this
 rw[e4];refine y.wz _ _ _ _ _ _ _ j (le_trans z e3.len) (λi f Q T=>by rw[e3.same i Za Q T Za,u i f]) (λi t=>⟨t,by rw[(e3.rows i t).2];unfold br;rw[u i (r.vq t)]⟩) (λi t=>?_) (λi t=>.inl t)
 rcases e3.own i t with h|h|h
 .exact .inl h
 .exact .inr h
 exact .inr Za
def Qq{ro:Zl}{code:Code}{f:St->a_ (Out×St)}(O:rE X S ro code f):rE X S ro (.loop code) (nK f):=by
 intro st o st' h J ν Z F H y r j;have⟨k,b⟩:=lW.1 h;have key:∀k st ν Z F H,iY f k st=some (o,st')->Yc S J st.more st.yid->R ν Z st F H->J st.want (fc ν st.m) Z H->
  ∃n F' H' ν' Z',(∀q,n<=q->∀lf,k<=lf->j9 (exec S.E (run S.E q) q ro X.nt code) lf F H=some (o,F',H'))/\R ν' Z' st' F' H'/\J st'.want (fc ν' st'.m) Z' H'/\Fix ν st ν' st':=by
  intro k
  induction k with
  |zero=>intro st ν Z F H h;simp[iY]at h|succ k Q=>
   intro st ν Z F H h y r j;simp only[iY]at h;split at h
   .rename_i t w;have⟨z,F1,H1,B,C,D,G,I,u⟩:=O st .norm t w J ν Z F H y r j;have⟨T,U,H2,ν2,Z2,W,Y,c,d⟩:=Q t B C F1 H1 h (by rw[u.more,u.yid];exact y) G I
    refine⟨max z T,U,H2,ν2,Z2,λq a lf L=>?_,Y,c,u.trans d⟩
    cases lf with
    |zero=>omega|succ lf=>simp only[j9,D q (le_trans (le_max_left _ _) a)];exact W q (le_trans (le_max_right _ _) a) lf Za
   rename_i w;have⟨z,F1,H1,B,C,D,G,I,u⟩:=O st o st' h J ν Z F H y r j;have g:o≠.norm:=λe=>by subst e;exact w st' h
   refine⟨z,F1,H1,B,C,λq a lf L=>?_,G,I,u⟩
   cases lf with
   |zero=>omega|succ lf=>simp only[j9,D q a];cases o<;>first|exact absurd rfl g|rfl
 have⟨n,F',H',ν',Z',e1,e2,e3,e4⟩:=key k st ν Z F H b y r j;refine⟨max n k,F',H',ν',Z',λq a=>?_,e2,e3,e4⟩;simp only[exec];exact e1 q (le_trans (le_max_left _ _) a) q (le_trans (le_max_right _ _) a)
def Q2(gd:Good X S)(hI:∀f a b xs,S.items f a b=some xs->fu S f a b xs){g:Zr}{ps:Array Tmp}{U W:Code}{x:Arg}{A B:St->a_ (Out×St)}
 (ab:ps.toList.all (·<X.nt)=true)(hx:oe X.nm g=some x)(hA:rE X S true U A)(hB:rE X S true W B):
 rE X S false (.rangeFunc g ps U W) (λst=>match pW S.N st.g x with
 |some (.v (.clo f x y))=>match S.items f x y with
  |some xs=>(pJ (iJ ps.toList A B st) xs st.m).map λ(o,m)=>(o,{st with m:=m})|none=>none
 |_=>none):=by
 intro st o st' h J ν Z F H y r j;dsimp only at h;split at h
 .rename_i f a b ad;split at h
  .rename_i xs ae;have⟨⟨p,s⟩,hE,e⟩:=ζf.1 h;simp only[ζc]at e;obtain⟨rfl,rfl⟩:=e;have⟨yv,hy,ry⟩:=Du gd.N r.slot hx ad;obtain⟨a',b',rfl,ra,rb⟩:=ry.fr.jI;have⟨P,more,Q,hR⟩:=Cn hE;generalize I:(⟨.ready,none,F,X.nt,ps.toList,U,W⟩:uH)=u;have z:∀i,i<H.length->(H++[Ob.loop u])[i]?=H[i]?:=λi t=>List.getElem?_append_left t
   have C:∀i,Z i->br (H++[Ob.loop u]) i=br H i:=λi t=>by unfold br;rw[z i (r.vq t)]
   have r0:R ν Z (OX st st.m) F (H++[Ob.loop u]):=by have:=r.heap (H':=H++[Ob.loop u]) (λi t=>z i (r.lt t)) C;exact⟨this.slot,this.obj,this.inj,this.apart,this.zrow,this.deep⟩
   have D:∀i,Z i->Z i/\br (H++[Ob.loop u]) i=br H i:=λi t=>⟨t,C i t⟩
   have j0:JI X st F ν (fc ν st.m) Z H H.length ps.toList U W (iJ ps.toList A B st) p s more P (λ_=>False) Z (H++[Ob.loop u]):=by refine⟨st.m,ν,Z,u,r0,⟨rfl,Zc,λi k _ _=>z i k,λi t=>⟨t,C i t⟩,λi t=>.inl t,λi t=>.inl t⟩,λi t=>t.elim,λi t=>⟨λv=>?_,Nat.ne_of_lt (r.vq t),.inl t⟩,λv=>absurd (r.lt v) Zc,λhz=>absurd (r.vq hz) Zc,le_refl _,Zc,?_,λd _ af h=>⟨af,h,rfl,.refl _⟩,.inl ⟨hR,?_,?_⟩⟩;obtain⟨d,ob,g1,g2,rfl⟩:=v;exact r.apart d ob g1 g2 t;subst I;exact⟨rfl,rfl,rfl,rfl,rfl⟩;subst I;rfl;subst I;rfl
   have ah:Yc S (JI X st F ν (fc ν st.m) Z H H.length ps.toList U W (iJ ps.toList A B st) p s more) more H.length:=⟨λw O Z1 H1 O' Z' H' E k Y l K h5=>JI.wz E k Y l K h5,λx1 aj O Z1 H1 args E k Y l K=>JI.yield S hA hB ab E k Y l K⟩
   have⟨n,yy,H',O',Z',e1,e2⟩:=hI f a b xs ae P more Q H.length _ ah Z a' b' (H++[Ob.loop u]) (ra.mono D) (rb.mono D) (λi t=>by rw[C i t];exact r.zrow i t) (r.deep.mono C) j0
   have⟨m1,νb,V,M,r1,⟨_,k2,k3,N,k5,k6⟩,_,_,l1,l2,l3,l4,_,l6,l7⟩:=e2;have aa:m1=s/\(M.st=.ready\/M.st=.done)/\M.pend.getD .norm=p:=by rcases l7 with⟨g1,g2,g3⟩|⟨_,g1,g2,g3⟩;(cases g1 with|nil hn=>exact⟨rfl,.inl g2,by rw[g3,hn];rfl⟩);exact⟨g1,.inr g2,by rw[g3];rfl⟩
   obtain⟨rfl,c,T⟩:=aa;have ak:H.length<H'.length:=(ζe.1 l4).1;have G:∀i,i≠H.length->(H'.set H.length .dead)[i]?=H'[i]?:=λi ai=>by rw[List.getElem?_set,if_neg (Ne.symm ai)]
   have L:∀i,V i->br (H'.set H.length .dead) i=br H' i:=λi t=>by unfold br;rw[G i λe=>l2 (e▸t)]
   have r2:=r1.heap (H':=H'.set H.length .dead) (λi t=>G i λe=>l1 (e▸t)) L
   refine⟨n,F,H'.set H.length .dead,νb,V,λq hq=>?_,⟨r2.slot,r2.obj,r2.inj,r2.apart,r2.zrow,r2.deep⟩,?_,⟨λd hd=>l6 d (List.mem_append_left _ hd),rfl,rfl,rfl⟩⟩
   .simp only[exec,hy];rw[I,e1 q hq];simp only[l4];rcases c with c|c<;>rw[c]<;>simp only[T]
   refine y.wz _ _ _ _ _ _ _ j (by simp only[List.length_set];omega) (λi k Y l=>by rw[G i Za,k3 i k Y l]) (λi t=>⟨(N i t).1,by rw[L i (N i t).1,(N i t).2]⟩) k5 k6
  simp at h
 simp at h
end
end Go.VE
namespace Go.VE
variable[bV]
def kD(st:St):aZ RV->a_ Zw
 |[]=>some []|.s n::r=>match bl st.g n,kD st r with
  |some x,some l=>some (x::l)|_,_=>none
 |.ld n size agg::r=>match(bl st.g n).bind λp=>ow st.m (.load size agg) [p],kD st r with
  |some x,some l=>some (x::l)|_,_=>none
def lU(S:Sys)(c:b9)(rf:RF)(svs:Zw)(B:dV):a_ (Zw×dV):=
 if svs.length<=rf.na then
  match cI S c rf.body (start svs B)with
  |some (.exit _,_)=>none|some (_,st)=>(kD st rf.rs).map λrs=>(rs,st.m)|none=>none
 else none
def Aq(E:Env):ResultVar->a_ RV
 |.tmp t=>some (.s t)|.cell a t=>(E.tt t).map λd=>.ld a d.size d.agg
def xh(E:Env)(nm:Zk->a_ Nat)(fi:FI)(rf:RF):Prop:=bQ ⟨E,nm,fi.ntmps⟩ false fi.body=some (erase rf.body)/\fi.results.mapM (Aq E)=some rf.rs/\rf.na=fi.ntmps
section
variable{ν ν' ν2:Nu}{Z Z':Nat->Prop}{st st' st2:St}{m m':Tb bK}{F F':Zo}{H H' H1:bp}{S:Sys}{c:b9}{X:CX}{J:JT}
theorem IN (gd:Good X S) (hS:je S c) (hI:∀f a b xs,S.items f a b=some xs->fu S f a b xs):∀(rc:RC) (ro:Bool) (code:Code),bQ X ro code=some (erase rc)->rE X S ro code (cI S c rc):=by
 intro rc
 induction rc with
 | skip=>
  intro ro code hc st o st' h J ν Z F H y r j;obtain⟨rfl,rfl⟩:=h;simp[erase]at hc;have:∀k,exec S.E (run S.E k) k ro X.nt code F H=some (.norm,F,H):=λk=>by
   cases code with
   | skip=>rfl
   | label _=>rfl
   | region id ops w=>
    simp[bQ]at hc;split at hc
    .simp_all
    simp_all
   | seq a b=>simp[bQ]at hc;grind
   | cond x a b=>simp[bQ]at hc;grind
   | block id b=>simp only[bQ]at hc;simp_all
   | loop b=>simp only[bQ]at hc;simp_all
   | rangeFunc g Y U W=>
    simp[bQ]at hc
    grind
   | _=>simp[bQ]at hc
  exact⟨0,F,H,ν,Z,λk _=>this k,r,j,.refl⟩
 | ops l=>
  intro ro code hc;simp[erase]at hc
  cases code with
  | region id ops w=>
   simp[bQ]at hc;split at hc
   .simp_all
   rename_i hd;obtain⟨l',hl,e⟩:=ζf.1 hc;cases e;intro st o st' h J ν Z F H y r j;obtain⟨z,h1,e⟩:=ζf.1 h;obtain⟨rfl,rfl⟩:=e;obtain⟨n,F',H',ν',Z',e1,e2,e3,e4⟩:=K3 gd hS _ hl h1 y r j;refine⟨n,F',H',ν',Z',λk hk=>?_,e2,e3,e4⟩
   simp[exec,ji,hd,e1 k hk]
  | seq a b=>simp[bQ]at hc;grind
  | cond x a b=>simp[bQ]at hc;grind
  | block id b=>simp only[bQ]at hc;simp_all
  | loop b=>obtain⟨_,_,e⟩:=ζf.1 hc;cases e
  | rangeFunc g Y U W=>
   simp only[bQ]at hc;split at hc
   .simp at hc
   split at hc <;> simp at hc
  | _=>simp[bQ]at hc
 | ox l=>
  intro ro code hc;simp[erase]at hc
  cases code with
  | region id ops w=>
   simp only[bQ]at hc;split at hc
   .rename_i hd;subst hd;split at hc
    next ab=>obtain⟨l',hl,e⟩:=ζf.1 hc;cases e;have:=LN (ro:=ro) (id:=id) gd hS hl ab;intro st o st' h;exact this st o st' h
    simp at hc
   obtain⟨_,_,e⟩:=ζf.1 hc;cases e
  | seq a b=>simp[bQ]at hc;split at hc <;> simp at hc
  | cond x a b=>simp[bQ]at hc;split at hc <;> simp at hc
  | block id b=>obtain⟨_,_,e⟩:=ζf.1 hc;cases e
  | loop b=>obtain⟨_,_,e⟩:=ζf.1 hc;cases e
  | rangeFunc g Y U W=>
   simp only[bQ]at hc;split at hc
   .simp at hc
   split at hc <;> simp at hc
  | _=>simp[bQ]at hc
 | seq a b u Q=>
  intro ro code hc;simp[erase]at hc
  cases code with
  | seq ca cb=>
   simp[bQ]at hc;split at hc
   .rename_i xa xb T hb;simp[RC.seq.injEq]at hc;obtain⟨rfl,rfl⟩:=hc;intro st o st' h J ν Z F H y r j;simp[cI]at h;split at h
    .rename_i z hs;obtain⟨G,F1,H1,B,C,I,L,O,D⟩:=u ro ca T st .norm z hs J ν Z F H y r j;obtain⟨n2,F2,H2,ν2,Z2,b1,b2,b3,b4⟩:=Q ro cb hb z o st' h J B C F1 H1 (by rw[D.more,D.yid];exact y) L O
     refine⟨max G n2,F2,H2,ν2,Z2,λq hq=>?_,b2,b3,D.trans b4⟩
     simp[exec,I q (Nat.le_trans (Nat.le_max_left _ _) hq)];exact b1 q (Nat.le_trans (Nat.le_max_right _ _) hq)
    rename_i hs;obtain⟨G,F1,H1,B,C,I,L,O,D⟩:=u ro ca T st o st' h J ν Z F H y r j;refine⟨G,F1,H1,B,C,λq hq=>?_,L,O,D⟩
    simp[exec,I q hq];cases o <;> first|exact absurd h (hs st')|rfl
   simp at hc
  | region id ops w=>
   simp[bQ]at hc;split at hc
   .split at hc
    .obtain⟨_,_,e⟩:=ζf.1 hc;cases e
    simp at hc
   obtain⟨_,_,e⟩:=ζf.1 hc;cases e
  | cond x a b=>simp[bQ]at hc;split at hc <;> simp at hc
  | block id b=>simp only[bQ]at hc;obtain⟨_,_,e⟩:=ζf.1 hc;cases e
  | loop b=>simp only[bQ]at hc;obtain⟨_,_,e⟩:=ζf.1 hc;cases e
  | rangeFunc g Y U W=>
   simp only[bQ]at hc;split at hc
   .simp at hc
   split at hc <;> simp at hc
  | _=>simp[bQ]at hc
 | cond x a b u Q=>
  intro ro code hc;simp[erase]at hc
  cases code with
  | cond g ca cb=>
   simp[bQ]at hc;split at hc
   .rename_i xg xa xb hg T hb;simp[RC.cond.injEq]at hc;obtain⟨rfl,rfl,rfl⟩:=hc;intro st o st' h J ν Z F H y r j;simp[cI]at h;split at h
    .rename_i t ht;obtain⟨yv,hy,ry⟩:=Du gd.N r.slot hg ht;rw[ry.fr.bool]at hy;split at h
     .rename_i hb;obtain⟨G,F1,H1,B,C,I,L,O,D⟩:=u ro ca T st o st' h J ν Z F H y r j;refine⟨G,F1,H1,B,C,λq hq=>?_,L,O,D⟩
      simp[exec,hy,hb];exact I q hq
     rename_i hb;obtain⟨G,F1,H1,B,C,I,L,O,D⟩:=Q ro cb (by assumption) st o st' h J ν Z F H y r j
     refine⟨G,F1,H1,B,C,λq hq=>?_,L,O,D⟩
     simp[exec,hy,hb];exact I q hq
    simp at h
   simp at hc
  | region id ops w=>
   simp[bQ]at hc;split at hc
   .split at hc
    .obtain⟨_,_,e⟩:=ζf.1 hc;cases e
    simp at hc
   obtain⟨_,_,e⟩:=ζf.1 hc;cases e
  | seq a b=>simp[bQ]at hc;split at hc <;> simp at hc
  | block id b=>simp only[bQ]at hc;obtain⟨_,_,e⟩:=ζf.1 hc;cases e
  | loop b=>simp only[bQ]at hc;obtain⟨_,_,e⟩:=ζf.1 hc;cases e
  | rangeFunc g Y U W=>
   simp only[bQ]at hc;split at hc
   .simp at hc
   split at hc <;> simp at hc
  | _=>simp[bQ]at hc
 | block id a u=>
  intro ro code hc;simp[erase]at hc
  cases code with
  | block ad ca=>
   simp only[bQ]at hc;obtain⟨xa,T,e⟩:=ζf.1 hc;simp[RC.block.injEq]at e;obtain⟨rfl,rfl⟩:=e;intro st o st' h J ν Z F H y r j;simp[cI]at h;split at h
   .rename_i ae z hs;obtain⟨G,F1,H1,B,C,I,L,O,D⟩:=u ro ca T st (.exit ae) z hs J ν Z F H y r j;split at h
    .rename_i e;simp  at h;obtain⟨rfl,rfl⟩:=h;refine⟨G,F1,H1,B,C,λq hq=>?_,L,O,D⟩
     simp[exec,I q hq,if_pos e]
    rename_i e;simp  at h;obtain⟨rfl,rfl⟩:=h;refine⟨G,F1,H1,B,C,λq hq=>?_,L,O,D⟩
    simp[exec,I q hq,if_neg e]
   rename_i hs;obtain⟨G,F1,H1,B,C,I,L,O,D⟩:=u ro ca T st o st' h J ν Z F H y r j;refine⟨G,F1,H1,B,C,λq hq=>?_,L,O,D⟩
   simp[exec,I q hq];cases o <;> first|exact absurd h (hs _ st')|rfl
  | region id ops w=>
   simp[bQ]at hc;split at hc
   .split at hc
    .obtain⟨_,_,e⟩:=ζf.1 hc;cases e
    simp at hc
   obtain⟨_,_,e⟩:=ζf.1 hc;cases e
  | seq a b=>simp[bQ]at hc;split at hc <;> simp at hc
  | cond x a b=>simp[bQ]at hc;split at hc <;> simp at hc
  | loop b=>simp only[bQ]at hc;obtain⟨_,_,e⟩:=ζf.1 hc;cases e
  | rangeFunc g Y U W=>
   simp only[bQ]at hc;split at hc
   .simp at hc
   split at hc <;> simp at hc
  | _=>simp[bQ]at hc
 | loop a u=>
  intro ro code hc;simp[erase]at hc
  cases code with
  | loop ca=>
   simp only[bQ]at hc;obtain⟨xa,T,e⟩:=ζf.1 hc;simp[RC.loop.injEq]at e;subst e;have:=Qq (u ro ca T);intro st o st' h;simp[cI]at h;exact this st o st' h
  | region id ops w=>
   simp[bQ]at hc;split at hc
   .split at hc
    .obtain⟨_,_,e⟩:=ζf.1 hc;cases e
    simp at hc
   obtain⟨_,_,e⟩:=ζf.1 hc;cases e
  | seq a b=>simp[bQ]at hc;split at hc <;> simp at hc
  | cond x a b=>simp[bQ]at hc;split at hc <;> simp at hc
  | block id b=>simp only[bQ]at hc;obtain⟨_,_,e⟩:=ζf.1 hc;cases e
  | rangeFunc g Y U W=>
   simp only[bQ]at hc;split at hc
   .simp at hc
   split at hc <;> simp at hc
  | _=>simp[bQ]at hc
 | each x Y a b u Q=>
  intro ro code hc;simp[erase]at hc
  cases code with
  | rangeFunc g ah U W=>
   simp only[bQ]at hc;split at hc
   .simp at hc
   rename_i aa;simp only[Bool.or_eq_true,not_or,Bool.not_eq_true,Bool.not_eq_false']at aa;obtain⟨rfl,af⟩:=aa;split at hc
   next xg xa xb hg T hb=>simp[RC.each.injEq]at hc;obtain⟨rfl,rfl,rfl,rfl⟩:=hc;have:=Q2 gd hI af hg (u true U T) (Q true W hb);intro st o st' h;simp only[cI]at h;exact this st o st' h
   simp at hc
  | region id ops w=>
   simp only[bQ]at hc;split at hc
   .split at hc
    .obtain⟨_,_,e⟩:=ζf.1 hc;cases e
    simp at hc
   obtain⟨_,_,e⟩:=ζf.1 hc;cases e
  | seq a b=>simp only[bQ]at hc;split at hc <;> simp at hc
  | cond x a b=>simp only[bQ]at hc;split at hc <;> simp at hc
  | block id b=>simp only[bQ]at hc;obtain⟨_,_,e⟩:=ζf.1 hc;cases e
  | loop b=>simp only[bQ]at hc;obtain⟨_,_,e⟩:=ζf.1 hc;cases e
  | _=>simp[bQ]at hc
 | exit id=>
  intro ro code hc st o st' h J ν Z F H y r j;simp only[cI,ζa,ζc]at h;obtain⟨rfl,rfl⟩:=h;simp only[erase]at hc;have:∀k,exec S.E (run S.E k) k ro X.nt code F H=some (.exit id,F,H):=λk=>by
   cases code with
   | exit ad=>simp only[bQ,ζa,RC.exit.injEq]at hc;subst hc;rfl
   | region id ops w=>
    simp only[bQ]at hc;split at hc
    .split at hc
     .obtain⟨_,_,e⟩:=ζf.1 hc;cases e
     simp at hc
    obtain⟨_,_,e⟩:=ζf.1 hc;cases e
   | seq a b=>simp only[bQ]at hc;split at hc <;> simp at hc
   | cond x a b=>simp only[bQ]at hc;split at hc <;> simp at hc
   | block id b=>simp only[bQ]at hc;obtain⟨_,_,e⟩:=ζf.1 hc;cases e
   | loop b=>simp only[bQ]at hc;obtain⟨_,_,e⟩:=ζf.1 hc;cases e
   | rangeFunc g Y U W=>
    simp only[bQ]at hc;split at hc
    .simp at hc
    split at hc <;> simp at hc
   | _=>simp[bQ]at hc
  exact⟨0,F,H,ν,Z,λk _=>this k,r,j,.refl⟩
 | ret=>
  intro ro code hc st o st' h J ν Z F H y r j;simp only[cI,ζa,ζc]at h;obtain⟨rfl,rfl⟩:=h;simp only[erase]at hc;have:∀k,exec S.E (run S.E k) k ro X.nt code F H=some (.ret,F,H):=λk=>by
   cases code with
   | ret=>rfl
   | region id ops w=>
    simp only[bQ]at hc;split at hc
    .split at hc
     .obtain⟨_,_,e⟩:=ζf.1 hc;cases e
     simp at hc
    obtain⟨_,_,e⟩:=ζf.1 hc;cases e
   | seq a b=>simp only[bQ]at hc;split at hc <;> simp at hc
   | cond x a b=>simp only[bQ]at hc;split at hc <;> simp at hc
   | block id b=>simp only[bQ]at hc;obtain⟨_,_,e⟩:=ζf.1 hc;cases e
   | loop b=>simp only[bQ]at hc;obtain⟨_,_,e⟩:=ζf.1 hc;cases e
   | rangeFunc g Y U W=>
    simp only[bQ]at hc;split at hc
    .simp at hc
    split at hc <;> simp at hc
   | _=>simp[bQ]at hc
  exact⟨0,F,H,ν,Z,λk _=>this k,r,j,.refl⟩
 | gh x a u=>
  intro ro code hc;simp only[erase]at hc;intro st o st' h J ν Z F H y r j;simp only[cI]at h;obtain⟨z,h1,h2⟩:=ζg.1 h;obtain⟨B,C,g1,g2,g3⟩:=Fix.ghost r y j h1;obtain⟨n,F',H',ν',Z',e1,e2,e3,e4⟩:=u ro code hc z o st' h2 J B C F H (by rw[g3.more,g3.yid];exact y) g1 g2
  exact⟨n,F',H',ν',Z',e1,e2,e3,g3.trans e4⟩
 | hg a x u=>
  intro ro code hc;simp only[erase]at hc;intro st o st' h J ν Z F H y r j;simp only[cI]at h;split at h
  .rename_i z hs;obtain⟨st2,h1,e⟩:=ζf.1 h;simp only[ζc]at e;obtain⟨rfl,rfl⟩:=e;obtain⟨n,F',H',ν',Z',e1,e2,e3,e4⟩:=u ro code hc st .norm z hs J ν Z F H y r j;obtain⟨B,C,g1,g2,g3⟩:=Fix.ghost e2 (by rw[e4.more,e4.yid];exact y) e3 h1
   exact⟨n,F',H',B,C,e1,g1,g2,e4.trans g3⟩
  exact u ro code hc st o st' h J ν Z F H y r j
end
abbrev oR:=FuncId->a_ RF
def zh(E:Env)(f:Zk)(az:Zu)(y:V):Prop:=∃n z H' Z,run E n (.fn f) az []=some (z,H')/\FR H' Z y z/\(∀id,Z id->(br H' id).isSome=true)/\Deep H' Z
structure qj(S:Sys)(T:oR):Prop where
 fn:∀f rf,T f=some rf->∃fi nm,S.E.ft f=some fi/\(∀g s,nm g=some s->S.N s=g)/\xh S.E nm fi rf
 yf:∀f az y,S.yf f az=some y->zh S.E f az y
 prm:∀f q,S.prm f=some q->mw S.E f q
def Nl(S:Sys)(f:Zk)(svs:Zw)(B:dV):a_ (Zw×dV):=
 if S.E.keep f then none else match dy svs,B with
  |some az,[]=>(S.yf f az).map λy=>([.v y],[])|_,_=>none
def kN(S:Sys)(T:oR):Nat->b9
 |0=>λ_ _ _=>none|n+1=>λf svs B=>match T f with
  |some rf=>lU S (kN S T n) rf svs B|none=>Nl S f svs B
section
variable{ν ν' ν2:Nu}{Z Z':Nat->Prop}{st st' st2:St}{m m':Tb bK}{F F':Zo}{H H' H1:bp}{S:Sys}{c c':b9}{X:CX}{J:JT}{T:oR}
def z7(r:R ν Z st F H){nm:Zk->a_ Nat}:∀{B:aZ ResultVar}{rs:aZ RV}{l:Zw},B.mapM (Aq S.E)=some rs->kD st rs=some l->∃ys,gG S.E F H B=some ys/\bY ν st.m H Z l ys
 |[],rs,l,hc,h=>by simp at hc;subst hc;simp[kD]at h;subst h;exact⟨[],rfl,.nil⟩|rv::B,rs,l,hc,h=>by simp[ζg]at hc;obtain⟨x,D,ys,G,rfl⟩:=hc;cases rv with|tmp t=>simp[Aq]at D;subst D;simp[kD]at h;split at h;(next v I b u=>simp at h;subst h;have⟨w,e1,e2⟩:=z7 r (nm:=nm) G u;exact⟨get F t::w,by simp[gG,e1],.cons (r.slot t v b) e2⟩);grind|cell a t=>simp[Aq]at D;obtain⟨d,J,rfl⟩:=D;simp[kD]at h;split at h;rename_i v I b u;simp at h;subst h;have⟨p,c,b⟩:=ζg.1 b;have⟨w,e1,e2⟩:=z7 r (nm:=nm) G u;have⟨y,g1,g2⟩:=vi (λs a e=>by cases e) (λkk z ok e=>by cases e) (bY.cons (r.slot a p c) .nil) (λL _ ob C=>r.obj L ob C) b;simp[eP]at g1;exact⟨y::w,by simp[gG,J,e1,g1],.cons g2 e2⟩;grind
def HY(G:∀f q,S.prm f=some q->mw S.E f q)(J:je S c)(O:∀f a b xs,S.items f a b=some xs->fu S f a b xs){f:Zk}{fi:FI}{nm:Zk->a_ Nat}{rf:RF}(D:S.E.ft f=some fi)(U:∀g s,nm g=some s->S.N s=g)(j:xh S.E nm fi rf)
 {svs:Zw}{B:dV}{rs:Zw}{m1:dV}(h:lU S c rf svs B=some (rs,m1)){args:Zu}(r:R ν Z (start svs B) args H)(W:bY ν B H Z svs args):
 ∃n y H' ν' Z' st' F' ys,run S.E n (.fn f) args H=some (y,H')/\y=result ys/\st'.m=m1/\bY ν' m1 H' Z' rs ys/\R ν' Z' st' F' H'/\Ev (λ_=>False) ν Z (start svs B) H ν' Z' st' H':=by
 have⟨k,w,z⟩:=j;unfold lU at h;split at h
 .have key:∀o st',cI S c rf.body (start svs B)=some (o,st')->(∀id,o≠.exit id)->(kD st' rf.rs).map (λrs=>(rs,st'.m))=some (rs,m1)->
   ∃n y H' ν' Z' st' F' ys,run S.E n (.fn f) args H=some (y,H')/\y=result ys/\st'.m=m1/\bY ν' m1 H' Z' rs ys/\R ν' Z' st' F' H'/\Ev (λ_=>False) ν Z (start svs B) H ν' Z' st' H':=λo st' C p u=>by
   have⟨l,d,e⟩:=ζf.1 u;obtain⟨rfl,rfl⟩:=e;have⟨n,F',H',ν',Z',e1,e2,e3,e4⟩:=IN ⟨rfl,U,G⟩ J O rf.body false fi.body k _ _ _ C (tu (fc ν (start svs B).m) Z H) ν Z args H tu.yc r (tu.refl r);have⟨ys,p1,p2⟩:=z7 (nm:=nm) e2 w d;have⟨_,I,L,Q,T,X⟩:=e3;refine⟨n+1,result ys,H',ν',Z',st',F',ys,?_,rfl,rfl,p2,e2,⟨I,λi d Y m _=>L i d Y m,Q,λi h=>(T i h).imp (λh=>h) .inr,λi h=>(X i h).imp (λh=>h) (.imp (λh=>h) .inr),e4.pin,e4.pins⟩⟩
   have t:args.length<=fi.ntmps:=by rw[<-W.1,<-z];omega
   simp[run,jm,D,if_pos t,e1 n (le_refl _)]
   grind
  grind
 grind
def FR.emp{x y:V}(D:∀id,¬Z id)(r:FR H Z x y):x=y:=by
 have z:∀{a t:Zu},a.length=t.length->(∀(j:Nat)u v,a[j]?=some u->t[j]?=some v->u=v)->a=t:=λ{a t}h1 w=>by apply List.ext_getElem h1;intro i p q;exact w i _ _ (ζd p) (ζd q)
 induction r with|same x h=>rfl|fsl es B id off C h=>grind|fptr B id el off es C G h=>grind|clo f a b t I h1 w _ _ i1 i2=>rw[z h1 i1,z w i2]|agg a t h1 _ i1=>grind|tup a t h1 _ i1=>grind
def bY.emp(B:∀id,¬Z id):∀{xs ys:Zu},bY ν m H Z (xs.map .v) ys->xs=ys
 |[],ys,h=>h.cU.symm|x::xs,ys,h=>by obtain⟨y,ys,rfl,a,D⟩:=h.inv;rw[FR.emp B a.fr,bY.emp B D]
def AH(B:qj S T)(J:∀f a b xs,S.items f a b=some xs->fu S f a b xs):∀n,je S (kN S T n)
 |0=>λf svs U rs m1 h=>by simp[kN]at h|n+1=>λf svs U rs m1 h ν Z args H O r D=>by simp[kN]at h;split at h;(next rf G=>have⟨fi,nm,c,W,Y⟩:=B.fn f rf G;exact HY B.prm (AH B J n) J c W Y h r D);unfold Nl at h;split at h;simp_all;split at h;rename_i az Q;have⟨y,X,e⟩:=ζf.1 h;obtain⟨rfl,rfl⟩:=e;have⟨k,z,H',g,u,w,C,iZ⟩:=B.yf f az y X;rcases O with O|rfl;grind;have L:∀id,¬Z id:=λid I=>(by have:=r.zrow id I;simp[br]at this);have t:=(by rw[tD Q]at D;exact(bY.emp L D).symm);subst t;refine⟨k,z,H',λ_=>(0,0),g,⟨[],[],[],[],true,0⟩,[],[z],u,rfl,rfl,bY.cons (.v y z w) .nil,?_,?_⟩;exact⟨λs sv h=>by simp[bl]at h,λd ob h=>by simp[bl]at h,λd i ob j h=>by simp[bl]at h,λd ob h=>by simp[bl]at h,C,iZ⟩;exact⟨Nat.zero_le _,λid h=>Ze,λid h=>absurd h (L id),λid h=>Zd,λid h=>.inr (.inr (.inr (Nat.zero_le _))),λd h=>by simp[start]at h,rfl⟩;grind
abbrev Km:=aZ ((FuncId×aZ SV×dV)×(aZ SV×dV))
def BF(c:b9)(L:Km):Prop:=∀p∈L,c p.1.1 p.1.2.1 p.1.2.2=some p.2
def Fin{α:Type}(c:b9)(f:b9->a_ α)(r:α):Prop:=∃L:Km,BF c L/\∀c',BF c' L->f c'=some r
def Fin.pure{α:Type}{f:b9->a_ α}{r:α}(h:∀c',f c'=some r):Fin c f r:=⟨[],λp a=>Ze,λc' _=>h c'⟩
def Fin.bind{α β:Type}{f:b9->a_ α}{r:α}{g:b9->a_ β}{q:β}(d:Fin c f r)(B:b9->α->a_ β)(D:Fin c (λc=>B c r) q)(e:∀c',f c'=some r->g c'=B c' r):Fin c g q:=by have⟨L1,t,u⟩:=d;have⟨L2,w,z⟩:=D;refine⟨L1++L2,λp a=>(List.mem_append.1 a).elim (t p) (w p),λc' b=>?_⟩;rw[e c' (u c' λp a=>b p (List.mem_append_left _ a))];exact z c' λp a=>b p (List.mem_append_right _ a)
def Fin.call{f:Zk}{svs:Zw}{B:dV}{r:Zw×dV}(h:c f svs B=some r):Fin c (λc=>c f svs B) r:=⟨[((f,svs,B),r)],λp b=>Zd,λc' a=>a ((f,svs,B),r) Zc⟩
def Ea{dst:a_ Nat}{dr now:Zl}{old:Zw->Zl}{f:Zk}{args:Zw}{r:SV×St}(h:fF S c dst dr now old f args st=some r):Fin c (λc=>fF S c dst dr now old f args st) r:=by have b:=h;unfold fF at h;split at h;split at h;split at h;split at h;split at h;rename_i rs m' a;refine(Fin.call a).bind (λc' q=>fF S c dst dr now old f args st) (.pure λ_=>b) (λc' t=>?_);unfold fF;grind;grind;grind;rename_i u;split at h;rename_i q d;refine .pure λc'=>?_;unfold fF;simp_all;rename_i d;split at h;rename_i os B;split at h;rename_i rs m' a;refine(Fin.call a).bind (λc' q=>fF S c dst dr now old f args st) (.pure λ_=>b) (λc' t=>?_);unfold fF;clear h b;simp[*];grind;grind;split at h;split at h;split at h;rename_i rs m' a;refine(Fin.call a).bind (λc' q=>fF S c dst dr now old f args st) (.pure λ_=>b) (λc' t=>?_);unfold fF;simp_all;grind;grind;grind;rename_i e;split at h;rename_i az w;split at h;rename_i z;split at h;rename_i rs m' a;refine(Fin.call a).bind (λc' q=>fF S c dst dr now old f args st) (.pure λ_=>b) (λc' t=>?_);unfold fF;simp[e,w,z,a,t];grind;grind;grind
def Qb{dr:Zl}{fr:Zv}{o:RO}{r:SV×St}(h:lN S c dr fr o st=some r):Fin c (λc=>lN S c dr fr o st) r:=by have d:=h;unfold lN at h;split at h;rename_i w t;split at h;refine .pure λc'=>?_;have a:=d;unfold lN at a⊢;rename_i b;simp only[t,b]at a⊢;exact a;refine .pure λc'=>?_;have a:=d;unfold lN at a⊢;rename_i z b;simp only[t,b]at a⊢;exact a;refine .pure λc'=>?_;have a:=d;unfold lN at a⊢;rename_i b;simp only[t,b]at a⊢;exact a;refine .pure λc'=>?_;have a:=d;unfold lN at a⊢;rename_i b;simp only[t,b]at a⊢;exact a;refine .pure λc'=>?_;have a:=d;unfold lN at a⊢;rename_i b;simp only[t,b]at a⊢;exact a;rename_i b;split at h;refine(Ea h).bind (λ_ q=>some q) (.pure λ_=>rfl) (λc' u=>?_);unfold lN;simp only[t,b,u];refine(Ea h).bind (λ_ q=>some q) (.pure λ_=>rfl) (λc' u=>?_);unfold lN;simp only[t,b,u];simp at h;refine .pure λc'=>?_;have a:=d;unfold lN at a⊢;rename_i b;simp only[t,b]at a⊢;exact a;refine .pure λc'=>?_;have a:=d;unfold lN at a⊢;rename_i b;simp only[t,b]at a⊢;exact a;simp at h
def PD{dr:Zl}{fr:Zv}{o:RO}{r:St}(h:fq S c dr fr o st=some r):Fin c (λc=>fq S c dr fr o st) r:=by unfold fq at h;split at h;split at h;refine .pure λc'=>?_;unfold fq;grind;have⟨q,a,e⟩:=ζf.1 h;refine(Qb a).bind (λ_ q=>some (dh q.2 o.dst q.1)) (.pure λ_=>Ze) (λc' t=>?_);unfold fq;grind;refine .pure λc'=>?_;unfold fq;grind;grind
def AV{dr:Zl}:∀{l:Zx}{fr:Zv}{st r:St},mA S c dr fr l st=some r->Fin c (λc=>mA S c dr fr l st) r
 |[],fr,st,r,h=>.pure λ_=>h|o::l,fr,st,r,h=>by simp[mA]at h;split at h;(next D B=>have⟨G,a,B⟩:=ζg.1 B;exact(PD B).bind (λc' q=>mA S c' dr (if dr then p_ fr o.strip else fr) l (oE o.dead q)) (AV h) (λc' t=>by simp[mA,a,t]));grind
def Eb{f:b9->St->a_ (Out×St)}(D:∀st r,f c st=some r->Fin c (λc=>f c st) r):∀{k:Nat}{st:St}{r:Out×St},iY (f c) k st=some r->Fin c (λc=>iY (f c) k st) r
 |0,st,r,h=>by simp[iY]at h|k+1,st,r,h=>by simp[iY]at h;split at h;(next G J=>exact(D st _ J).bind (λc' q=>iY (f c') k G) (Eb D h) (λc' B=>by simp[iY,B]));refine(D st r h).bind (λ_ q=>some q) (.pure λ_=>rfl) (λc' B=>?_);simp[iY,B];grind
def D3{f:b9->Zu->Tb bK->a_ (Out×Tb bK)}(D:∀x m r,f c x m=some r->Fin c (λc=>f c x m) r):∀{xs:Zt}{m:Tb bK}{r:Out×Tb bK},pJ (f c) xs m=some r->Fin c (λc=>pJ (f c) xs m) r
 |[],m,r,h=>.pure λ_=>h|x::xs,m,r,h=>by simp[pJ]at h;split at h;(next m1 G=>exact(D x m _ G).bind (λc' q=>pJ (f c') xs m1) (D3 D h) (λc' B=>by simp[pJ,B]));refine(D x m r h).bind (λ_ q=>some q) (.pure λ_=>rfl) (λc' B=>?_);simp[pJ,B];grind
def K4:∀{i:RC}{st:St}{r:Out×St},cI S c i st=some r->Fin c (λc=>cI S c i st) r:=by intro i;induction i with|skip=>exactλh=>.pure λ_=>h|exit id=>exactλh=>.pure λ_=>h|ret=>exactλh=>.pure λ_=>h|ops l=>intro st r h;simp only[cI]at h⊢;have⟨q,d,e⟩:=ζf.1 h;exact(AV d).bind (λ_ q=>some (.norm,q)) (.pure λ_=>Ze) (λc' u=>Zd)|ox l=>intro st r h;simp only[cI]at h⊢;have⟨q,d,e⟩:=ζf.1 h;exact(AV d).bind (λ_ q=>some (.norm,q)) (.pure λ_=>Ze) (λc' u=>Zd)|seq a b t B=>intro st r h;simp[cI]at h⊢;split at h;(next w C=>exact(t C).bind (λc' q=>cI S c' b w) (B h) (λc' u=>Zd));rename_i C;refine(t h).bind (λ_ q=>some q) (.pure λ_=>rfl) (λc' u=>?_);grind|cond x a b t B=>intro st r h;simp[cI]at h⊢;grind|block id a t=>intro st r h;simp[cI]at h⊢;split at h;(next D w C=>exact(t C).bind (λc' q=>if D=id then some (.norm,w)else some (.exit D,w)) (.pure λ_=>h) (λc' u=>Zd));refine(t h).bind (λ_ q=>some q) (.pure λ_=>rfl) (λc' u=>?_);grind|loop a t=>intro st r h;have⟨k,n⟩:=lW.1 h;refine(Eb (λst r h=>t h) n).bind (λ_ q=>some q) (.pure λ_=>rfl) (λc' u=>?_);exact lW.2 ⟨k,u⟩|each g I a b t B=>intro st r h;simp only[cI]at h⊢;split at h;split at h;have⟨q,d,e⟩:=ζf.1 h;refine(D3 (f:=λc=>iJ I (cI S c a) (cI S c b) st) (λz m r h=>?_) d).bind (λ_ q=>some (q.1,{st with m:=q.2})) (.pure λ_=>Ze) (λc' u=>Zd);unfold iJ at h;split at h;split at h;rename_i w j;have⟨J,G,e2⟩:=ζf.1 h;refine(t j).bind (λc' q=>(cI S c' b w).map λ(o,st2)=>(o,st2.m)) ((B G).bind (λ_ q=>some (q.1,q.2.m)) (.pure λ_=>Ze) (λc' u=>Zd)) (λc' u=>?_);unfold iJ;grind;grind;grind;grind;grind|gh x a t=>intro st r h;simp[cI]at h⊢;have⟨w,j,L⟩:=ζg.1 h;grind|hg a x t=>intro st r h;simp[cI]at h⊢;split at h;(next w C=>exact(t C).bind (λc' q=>(ghost x w).map λst=>(.norm,st)) (.pure λ_=>h) (λc' u=>Zd));refine(t h).bind (λ_ q=>some q) (.pure λ_=>rfl) (λc' u=>?_);grind
def yD{rf:RF}{svs:Zw}{B:dV}{r:Zw×dV}(h:lU S c rf svs B=some r):Fin c (λc=>lU S c rf svs B) r:=by have a:=h;unfold lU at h;split at h;split at h;simp_all;rename_i o st t u;refine(K4 u).bind (λc' q=>lU S c rf svs B) (.pure λ_=>a) (λc' w=>?_);unfold lU;grind;grind;grind
def CB:∀{n:Nat}{f:Zk}{svs:Zw}{B:dV}{r:Zw×dV},kN S T n f svs B=some r->kN S T (n+1) f svs B=some r
 |0,f,svs,B,r,h=>by simp[kN]at h|n+1,f,svs,B,r,h=>by simp[kN]at h;rw[kN];split at h;(next rf D=>have⟨L,a,G⟩:=yD h;simp[D];exact G _ λp b=>CB (a p b));grind
def A1{n k:Nat}(h:n<=k){f:Zk}{svs:Zw}{B:dV}{r:Zw×dV}(D:kN S T n f svs B=some r):kN S T k f svs B=some r:=by induction h with|refl=>omega|step _ t=>exact CB t
open Classical in
def c7(S:Sys)(T:oR):b9:=λf t u=>if h:∃n r,kN S T n f t u=some r then some (Classical.choose (choose_spec h))else none
def ru{f:Zk}{svs:Zw}{B:dV}{r:Zw×dV}:c7 S T f svs B=some r↔∃n,kN S T n f svs B=some r:=by unfold c7;constructor;intro h;split at h;grind;grind;rintro⟨k,a⟩;have t:∃n r,kN S T n f svs B=some r:=⟨k,r,a⟩;have u:=choose_spec (choose_spec t);have w:=A1 (le_max_left (Classical.choose t) k) u;have z:=A1 (le_max_right (Classical.choose t) k) a;grind
def Ks{L:Km}(h:BF (c7 S T) L):∃n,∀k,n<=k->BF (kN S T k) L:=by induction L with|nil=>exact⟨0,λk _ p a=>Ze⟩|cons q L t=>have⟨u,c⟩:=ru.1 (h q Zc);have⟨w,z⟩:=t λp a=>h p (List.mem_cons_of_mem _ a);refine⟨max u w,λk b p a=>?_⟩;rcases List.mem_cons.1 a with rfl|a;exact A1 (le_trans (le_max_left _ _) b) c;exact z k (le_trans (le_max_right _ _) b) p a
def DE{f:Zk}{az:Zu}{y:V}(B:T f=none)(b:S.E.keep f=false)(h:S.yf f az=some y):c7 S T f (az.map .v) []=some ([.v y],[]):=by
 refine ru.2 ⟨1,?_⟩;have t:dy (az.map .v)=some az:=by clear h;induction az with|nil=>rfl|cons a l u=>simp only[List.map_cons,dy,u];rfl
 simp only[kN,B,Nl,b,t,h];rfl
def qD{f:Zk}{rf:RF}(D:T f=some rf)(svs:Zw)(B:dV):c7 S T f svs B=lU S (c7 S T) rf svs B:=by cases h:lU S (c7 S T) rf svs B with|some r=>have⟨L,a,u⟩:=yD h;have⟨n,t⟩:=Ks a;refine ru.2 ⟨n+1,?_⟩;simp[kN,D];grind|none=>cases u:c7 S T f svs B with|none=>rfl|some r=>have⟨n,t⟩:=ru.1 u;cases n with|zero=>simp[kN]at t|succ n=>simp[kN,D]at t;have⟨L,w,z⟩:=yD t;have C:=z (c7 S T) λp b=>ru.2 ⟨n,w p b⟩;grind
def vY(B:qj S T)(D:∀f a b xs,S.items f a b=some xs->fu S f a b xs):je S (c7 S T):=λf t u rs w h=>by have⟨n,z⟩:=ru.1 h;exact AH B D n f t u rs w z
def QI(U:∀f q,S.prm f=some q->mw S.E f q)(W:je S c){f:Zk}{fi:FI}{nm:Zk->a_ Nat}{rf:RF}(Y:∀f a b xs,S.items f a b=some xs->fu S f a b xs)(D:S.E.ft f=some fi)(e:∀g s,nm g=some s->S.N s=g)(l:xh S.E nm fi rf){a b:Zu}{xs:Zt}
 (O:a.length+1+b.length<=rf.na)(G:rf.rs=[])
 (h:∀B more,(more=true/\B=xs\/more=false/\B≠[]/\∃r,xs=B++r)->∀yid,∃o st',cI S c rf.body {g:=vW 0 (a.map .v++.yl yid::b.map .v),m:=[],pin:=[],want:=B,more:=more,yid:=yid}=some (o,st')/\(∀id,o≠.exit id)/\st'.want=[]/\st'.m=st'.m):
 fu S f a b xs:=by
 intro B more Q yid J y Z z C H T X p v j;have⟨o,st',x,K,A,_⟩:=h B more Q yid;have⟨E,u,I⟩:=l;have L:bY (λ_=>(0,0)) [] H Z (a.map .v++.yl yid::b.map .v) (z++.yld yid::C):=(bY.qu T).append (.cons (.yl yid) (bY.qu X))
 have F:R (λ_=>(0,0)) Z {g:=vW 0 (a.map .v++.yl yid::b.map .v),m:=[],pin:=[],want:=B,more:=more,yid:=yid} (z++.yld yid::C) H:=⟨v8 L,λd ob h=>by simp[bl]at h,λd M ob N h=>by simp[bl]at h,λd ob h=>by simp[bl]at h,p,v⟩
 have⟨n,F',H',ν',Z',e1,e2,e3,e4⟩:=IN ⟨rfl,e,U⟩ W Y rf.body false fi.body E _ _ _ x J _ Z _ H y F (by
  refine y.wz _ _ _ _ _ _ _ j (le_refl _) (λ_ _ _ _=>rfl) (λi w=>⟨w,rfl⟩) (λi w=>?_) (λi w=>.inl w)
  have⟨d,ob,h,_⟩:=w;simp[bl]at h)
 rw[A]at e3;rw[G]at u;have⟨ys,p1,p2⟩:=z7 (nm:=nm) e2 u rfl;refine⟨n+1,result ys,H',_,Z',λk P=>?_,e3⟩
 have t:(z++V.yld yid::C).length<=fi.ntmps:=by rw[<-L.1,<-I];simp;omega
 cases k with
 |zero=>omega|succ k=>
  simp[run,jm,D,if_pos t,e1 k Za]
  grind
def PL(B:qj S T)(D:∀f a b xs,S.items f a b=some xs->fu S f a b xs){f:Zk}{az:Zu}(d:V.cE az=true){y:V}{m':dV}(h:c7 S T f (az.map .v) []=some ([.v y],m'))(G:y.scalar=true):
 ∃n H',run S.E n (.fn f) az []=some (y,H'):=by
 have⟨t,r1⟩:=vM d;obtain⟨n,C,H2,ν',Z',st',F',u,c,rfl,I,w,J,_⟩:=vY B D f _ _ _ _ h _ _ az [] (.inr rfl) t r1;obtain⟨z,u,rfl,e1,e2⟩:=w.inv;rw[e2.cU]at c;have:=(e1.fr.scalar).1 G;subst this;exact⟨n,H2,c⟩
end
end Go.VE
