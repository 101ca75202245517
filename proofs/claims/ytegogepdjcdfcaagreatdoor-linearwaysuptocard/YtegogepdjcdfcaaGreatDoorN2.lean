/- Objects, calls. -/
import Derived.Test.YtegogepdjcdfcaaGreatDoorN1
set_option linter.all false
open Option renaming some→M,some→_j,none→J,none→_p,bind→H,bind→_n
open Bool renaming true→U,true→_m,false→O,false→_o
open Decidable renaming decide→_r
open List renaming length→W,length→_l
open Go.IntKind renaming i64→N,i64→_q
open Option renaming map_some→A?
open Bool renaming false_eq_true→v?,or_eq_true→q!
open Nat renaming le_max_left→l!,le_max_right→j!,le_refl→y?,le_trans→W?
open Classical renaming choose_spec→S?
noncomputable section
open Nat(le)
open Nat(le)
open Nat(le)
open Nat(le)
namespace Go.VE
variable[bZ]
def gI(N:Nat->Y')(g:Tb SV)(o:RO):aY (Nat×Rd):=
 match o.k,bU N g o.az with
 |.c,M (.yl id::u)=>M (id,u)|_,_=>_p
open Classical in
def gz(S:Sys)(c:cg)(dr:X')(fr:ST)(o:RO)(st:St):aY St:=
 match wanted st.g o.gd with
 |some U=>match gI S.N st.g o with
  |some (id,z)=>if dr then _p else match c6 z,st.want with
   |some B,w::u=>if B=w/\id=st.yid then M (cQ {st with want:=u} o.dst (.v (.bool (st.more|| !u.isEmpty))))else _p|_,_=>_p
  |none=>(oa S c dr fr o st).map λ(x,e?)=>cQ e? o.dst x
 |some O=>M (cQ st o.dst (.v .undef))|none=>_p
def RO.strip(o:RO):RO:={o with dead:=[],pre:=[]}
def rz:Pi->St->aY St
 |[],st=>M st|x::r,st=>_n (ghost x st) (rz r)
def Dl:Gh->X'
 |.keep ..=>U|.drop _=>U|_=>O
def Ff(dr:X')(l:Pi)(st:St):aY St:=if dr then(if l.all Dl then rz l st else _p)else rz l st
def su(ds:ST)(st:St):St:={st with g:=ql ds st.g}
def pS(S:Sys)(c:cg)(dr:X'):ST->R0->St->aY St
 |_,[],st=>M st|fr,o::r,st=>match(Ff dr o.pre st).bind (gz S c dr fr o.strip)with
  |some e?=>pS S c dr (if dr then tW fr o.strip else fr) r (su o.dead e?)|none=>_p
abbrev JT:=aX (aX V)->(Nat->Prop)->(Nat->Prop)->bl->Prop
structure Yc(S:Sys)(J:JT)(more:Bool)(yid:Nat):Prop where
 zK:∀w O Z H O' Z' H',J w O Z H->H.length<=H'.length->(∀i,i<H.length->¬O i->¬Z i->H'[i]?=H[i]?)->(∀i,Z i->Z' i/\bt H' i=bt H i)->
  (∀i,O' i->O i\/H.length<=i)->(∀i,Z' i->Z i\/O i\/H.length<=i)->J w O' Z' H'
 yield:∀x ws O Z H args,J (x::ws) O Z H->dB H Z x args->(∀i,Z i->(bt H i).isSome=true)->Deep H Z->(∀i,O i->¬Z i/\i<H.length)->
  ∃n H',run S.E n (.yld yid) args H=some (.bool (more|| !ws.isEmpty),H')/\J ws O Z H'/\H.length<=H'.length/\(∀i,O i->H'[i]?=H[i]?)/\(∀i,Z i->bt H' i=bt H i)
structure Fix(ν:Nu)(st:St)(ν':Nu)(e?:St):Prop where
 pin:∀d∈st.pin,∀l?,bk e?.m d=some l?->∃ob,bk st.m d=some ob/\ν' d=ν d/\sameShape ob l?
 pins:e?.pin=st.pin
 more:e?.more=st.more
 yid:e?.yid=st.yid
section
variable{Rv:Nat->Prop}{ν ν' ν2:Nu}{Z Z':Nat->Prop}{st e? st2:St}{m m':Tb bE}{F F':WP}{H H' H1:bl}{S:Sys}{c:cg}{X:CX}{J:JT}
def Fix.refl:Fix ν st ν st:=⟨λ_ _ u h=>⟨u,h,Y,.refl _⟩,Y,Y,Y⟩
def Fix.trans(a:Fix ν st ν' e?)(b:Fix ν' e? ν2 st2):Fix ν st ν2 st2:=
 ⟨λd hd u h=>by
  have⟨w,c,B,z⟩:=b.pin d (by rw[a.pins];omega) u h
  have⟨ob,k1,k2,k3⟩:=a.pin d hd w c;exact⟨ob,k1,p?,k3.trans z⟩,by rw[b.pins,a.pins],by rw[b.more,a.more],by rw[b.yid,a.yid]⟩
def Ev.beside(y:Yc S J st.more st.yid)(a:Ev (λ_=>False) ν Z st H ν' Z' e? H')(B:e?.want=st.want)(j:J st.want (fN ν st.m) Z H):J e?.want (fN ν' e?.m) Z' H':=by
 rw[B];exact y.zK _ _ _ _ _ _ _ j a.len (λi b u w=>a.same i b u w (λh=>h)) a.rows (λi h=>(a.own i h).imp (λh=>h) (λh=>h.elim (λh=>h.elim) (λh=>h)))
  (λi h=>(a.frz i h).imp (λh=>h) (λh=>h.imp (λh=>h) (λh=>h.elim (λh=>h.elim) (λh=>h))))
def yH(D:∀s sv,bk st.g s=M sv->cV ν m H Z sv (get F s)){ops:QP}{o:Oper}{gd:aY (Nat×X')}(a:EY ops o=M gd){t:X'}(B:wanted st.g gd=M t):gZ ops F o=t:=by unfold EY at a;unfold gZ;cases u:o.guard with|none=>rw[u]at a;simp at a;simp[wanted]at B;grind|some C=>rw[u]at a;obtain⟨d,hd,rfl⟩:=ζf.1 a;simp[hd];simp[wanted]at B;split at B;(next c b=>simp at B;subst B;rw[(D d _ b).fr.bool]);rename_i x G b;simp at B;subst B;have w:=(D d _ b).fr;split;rename_i c z;rw[z]at w;cases w;grind;rfl;grind
def JA{dst:aY Nat}{size:Nat}{s x sv:SV}(h:CZ st dst size s x=M (sv,e?)):e?.want=st.want/\e?.pin=st.pin/\e?.more=st.more/\e?.yid=st.yid:=by unfold CZ at h;dsimp only at h;(repeat' split at h)<;>cases h;exact⟨Y,Y,Y,Y⟩
def Ph{x:Gh}(h:ghost x st=M e?):e?.want=st.want/\e?.more=st.more/\e?.yid=st.yid:=by
 unfold Go.VE.ghost Dn Km HD at h;(repeat' split at h)<;>first|grind|skip
 all_goals
  unfold D1 at h;split at h
  .split at h
   .have⟨_,_,h⟩:=ζg.1 h;obtain⟨_,_,rfl⟩:=ζf.1 h;exact⟨Y,Y,Y⟩
   cases h
  .cases h;exact⟨Y,Y,Y⟩
  cases h
def TB{q:G0}{dst:aY Nat}{args:Rd}{sv:SV}(h:Cr q dst args st=M (sv,e?)):e?.want=st.want/\e?.pin=st.pin/\e?.more=st.more/\e?.yid=st.yid:=by unfold Cr at h;grind
def Un{dr:X'}{fr:ST}{ro:RO}{sv:SV}(h:oa S c dr fr ro st=M (sv,e?)):e?.want=st.want/\e?.pin=st.pin/\e?.more=st.more/\e?.yid=st.yid:=by
 unfold oa at h;split at h
 .split at h;split at h;split at h;simp at h;unfold Di at h;split at h;split at h;have⟨_,_,h⟩:=ζg.1 h;have⟨_,_,h⟩:=ζg.1 h;dsimp only at h;split at h;simp only[ζa,ζc]at h;obtain⟨_,rfl⟩:=h;exact⟨Y,Y,Y,Y⟩;simp at h;simp at h;simp at h;have⟨_,_,e⟩:=ζf.1 h;simp only[ζc]at e;obtain⟨_,rfl⟩:=e;exact⟨Y,Y,Y,Y⟩;have⟨_,_,e⟩:=ζf.1 h;simp only[ζc]at e;obtain⟨_,rfl⟩:=e;exact⟨Y,Y,Y,Y⟩;split at h;have⟨_,_,e⟩:=ζf.1 h;simp only[ζc]at e;obtain⟨_,rfl⟩:=e;exact⟨Y,Y,Y,Y⟩;simp at h;split at h;split at h;have⟨_,_,e⟩:=ζf.1 h;simp only[ζc]at e;obtain⟨_,rfl⟩:=e;exact⟨Y,Y,Y,Y⟩;simp at h;simp at h
  .split at h
   .unfold mZ at h;((repeat' split at h)<;>first|exact JA h|(simp at h;done)|(simp only[ζa,ζc]at h;obtain⟨_,rfl⟩:=h;exact⟨Y,Y,Y,Y⟩)|(have⟨_,_,e⟩:=ζf.1 h;simp only[ζc]at e;obtain⟨_,rfl⟩:=e;exact⟨Y,Y,Y,Y⟩)|skip);dsimp only at h;(repeat' split at h)<;>first|(simp at h;done)|(simp only[ζa,ζc]at h;obtain⟨_,rfl⟩:=h;exact⟨Y,Y,Y,Y⟩)
   simp at h
  .have hc:∀{dst dr now old f args},fD S c dst dr now old f args st=M (sv,e?)->e?.want=st.want/\e?.pin=st.pin/\e?.more=st.more/\e?.yid=st.yid:=(by intro dst dr now old f args h;unfold fD at h;(repeat' split at h)<;>first|exact TB h|(have⟨_,_,e⟩:=ζf.1 h;simp only[ζc]at e;obtain⟨_,rfl⟩:=e;exact⟨Y,Y,Y,Y⟩)|(simp at h;done)|(simp only[ζa,ζc]at h;obtain⟨_,rfl⟩:=h;exact⟨Y,Y,Y,Y⟩));split at h;exact hc h;exact hc h;simp at h
  split at h;simp at h;split at h;have⟨_,_,h⟩:=ζg.1 h;have⟨_,_,e⟩:=ζf.1 h;simp only[ζc]at e;obtain⟨_,rfl⟩:=e;exact⟨Y,Y,Y,Y⟩;simp at h;have w:∀{dst l u},mZ st dst l u=M (sv,e?)->e?.want=st.want/\e?.pin=st.pin/\e?.more=st.more/\e?.yid=st.yid:=by intro dst l u h;unfold mZ at h;((repeat' split at h)<;>first|exact JA h|(simp at h;done)|(simp only[ζa,ζc]at h;obtain⟨_,rfl⟩:=h;exact⟨Y,Y,Y,Y⟩)|(have⟨_,_,e⟩:=ζf.1 h;simp only[ζc]at e;obtain⟨_,rfl⟩:=e;exact⟨Y,Y,Y,Y⟩)|skip);all_goals (dsimp only at h;(repeat' split at h)<;>first|(simp at h;done)|(simp only[ζa,ζc]at h;obtain⟨_,rfl⟩:=h;exact⟨Y,Y,Y,Y⟩))
  split at h;exact w h;exact w h;simp at h
 simp at h
def DK(r:R ν Z st F H){a:Nat}{dst:aY Nat}(hd:BC a dst=U){sv:SV}{y:V}(h:cV ν st.m H Z sv y):∃F',lQ a F dst y=M F'/\R ν Z (cQ st dst sv) F' H:=by cases dst with|none=>exact⟨F,rfl,r⟩|some d=>have:=(by simpa[BC]using hd);exact⟨set F d y,by simp[lQ,L' this],r.put h⟩
def GW(st:St)(dst:aY Nat)(sv:SV):(cQ st dst sv).m=st.m/\(cQ st dst sv).want=st.want/\(cQ st dst sv).pin=st.pin/\(cQ st dst sv).more=st.more/\(cQ st dst sv).yid=st.yid:=by cases dst<;>exact⟨Y,Y,Y,Y,Y⟩
def OX(gd:Good X S)(m:j7 S c){ops:QP}{place:aY (Nat×Nat)}{dr:X'}{fr:ST}{i:Nat}(G:dr=place.isSome)(p:∀b j,place=M (b,j)->j=i)
 (a:∀b j,place=M (b,j)->b<=_l H/\Old b fr ν Z st.m)
 {o:Oper}{ro:RO}(f:oM X dr ops i o=M ro)(J:∀b j,place=M (b,j)->ops[j]?=M o)(D:∀b j,place=M (b,j)->cO o.op=.alloc->H[b+j]?=M .free)
 (r:R ν Z st F H)(B:gI S.N st.g ro=_p\/dr=U)(h:gz S c dr fr ro st=M e?):
 ∃n F' H' ν' Z',(∀k,n<=k->iM S.E (run S.E k) X.nt ops place o F H=M (F',H'))/\R ν' Z' e? F' H'/\Ev (λid=>∃b j,place=M (b,j)/\id=b+j) ν Z st H ν' Z' e? H'/\
  (dr=U->Z'=Z/\Kept (BW ro) ν st.m ν' e?.m)/\e?.want=st.want/\Fix ν st ν' e?:=by
 have I:=f;obtain⟨u,g,now,k,az,l,rfl⟩:=GP f;unfold gz at h;split at h
 .rename_i L;have w:=yH r.slot l L;have t:(oa S c dr fr ⟨o.dst,g,now,k,az,[],[]⟩ st).map (λ(x,e?)=>cQ e? o.dst x)=M e?:=by
   split at h
   .rename_i id vs C;rcases B with B|B
    .rw[B]at C;cases C
    subst B;simp at h
   exact h
  obtain⟨⟨x,A⟩,hd,rfl⟩:=ζf.1 t;have⟨n,y,H',ν',Z',e1,e2,e3,e4,e5⟩:=abe gd m G p a I J D r hd;have⟨W,T,P,q⟩:=Un hd;have⟨F',e,Q⟩:=DK e2 u e3;have⟨p1,p2,p3,p4,p5⟩:=GW A o.dst x;refine⟨n,F',H',ν',Z',λk s=>?_,Q,?_,λhd=>⟨(e5 hd).1,by rw[p1];exact(e5 hd).2⟩,by rw[p2,W],⟨λd hd=>by rw[p1];exact e4.pin d hd,by rw[p3,T],by rw[p4,P],by rw[p5,q]⟩⟩
  .unfold iM;simp only[w,N',e1 k s,e,A?]
  exact⟨e4.len,e4.same,e4.rows,λid h=>e4.own id (by rw[p1]at h;exact h),e4.frz,λd hd=>by rw[p1];exact e4.pin d hd,by rw[p3,T]⟩
 .rename_i L;have w:=yH r.slot l L;simp only[ζa]at h;subst h;have⟨F',e,Q⟩:=DK r u (.v V.undef V.undef (.same _ Y));have⟨p1,p2,p3,p4,p5⟩:=GW st o.dst (.v .undef);refine⟨0,F',H,ν,Z,λk _=>?_,Q,?_,λ_=>⟨Y,by rw[p1];exact .refl⟩,p2,⟨λd hd=>by rw[p1];exactλz h=>⟨z,h,Y,.refl _⟩,p3,p4,p5⟩⟩
  .unfold iM;simp only[w,v?,_a,e,A?]
  exact⟨y? _,λ_ _ _ _ _=>rfl,λ_ h=>⟨h,Y⟩,λ_ h=>.inl (by rw[p1]at h;exact h),λ_ h=>.inl h,λd hd=>by rw[p1];exactλz h=>⟨z,h,Y,.refl _⟩,p3⟩
 simp at h
def Vq(gd:Good X S)(y:Yc S J st.more st.yid){ops:QP}{fr:ST}{i:Nat}{o:Oper}{ro:RO}(a:oM X O ops i o=M ro)
 (r:R ν Z st F H)(j:J st.want (fN ν st.m) Z H){id:Nat}{vs:Rd}(B:gI S.N st.g ro=M (id,vs))(D:wanted st.g ro.gd=M U)(h:gz S c O fr ro st=M e?):
 ∃n F' H',(∀k,n<=k->iM S.E (run S.E k) X.nt ops _p o F H=M (F',H'))/\R ν Z e? F' H'/\J e?.want (fN ν e?.m) Z H'/\Fix ν st ν e?:=by
 unfold oM at a;simp only[Bool.false_and,v?,_a,Bool.not_false,Bool.and_true]at a;split at a
 .rename_i C;split at a
  .rename_i g k os hg hr;split at a
   .obtain⟨az,a__,rfl⟩:=ζf.1 a;unfold gz at h;simp only at D;have L:=yH r.slot hg D;rw[D]at h;simp only[B,v?,_a]at h;unfold gI at B;split at B
    .rename_i W Y b G;simp only[ζa,ζc]at B;obtain⟨rfl,rfl⟩:=B;simp only at b G;subst b;have⟨ys,b__,rs⟩:=qU gd.N r.slot a__ G;have⟨g1,E,K,e1,e2⟩:=kW gd.N hr b__;have⟨w,P,f,r1,r2⟩:=rs.inv;rw[f]at e1;simp only[List.cons.injEq]at e1;obtain⟨rfl,rfl⟩:=e1;cases r1;simp only at e2;split at h
     .rename_i xs x I hx u;split at h
      .rename_i z;obtain⟨rfl,rfl⟩:=z;simp only[ζa]at h;subst h;rw[u]at j;have⟨n,H',p1,p2,p3,p4,p5⟩:=y.yield _ _ _ _ _ _ j (r2.c6 hx) r.zrow r.deep (λi e=>⟨by obtain⟨d,ob,j,l,m,rfl⟩:=e;exact r.apart d ob j l m,r.lt e⟩)
       have r3:R ν Z st F H':=r.heap p4 p5;have r4:R ν Z {st with want:=I} F H':=⟨r3.slot,r3.obj,r3.inj,r3.apart,r3.zrow,r3.deep⟩;have⟨F',p,q⟩:=DK (st:={st with want:=I}) r4 C (sv:=.v (.bool (st.more|| !I.isEmpty))) (.v _ _ (.same _ _k));have⟨T,s,t,v,A⟩:=GW {st with want:=I} o.dst (.v (.bool (st.more|| !I.isEmpty)));refine⟨n,F',H',λk b=>?_,q,by rw[T,s];exact p2,⟨λd hd=>by rw[T];exactλQ h=>⟨Q,h,_k,.refl _⟩,t,v,A⟩⟩
       unfold iM cZ;rw[g1,e2];simp only[L,N',(qy S.E b).go _ _ _ _ p1,p,A?]
      simp at h
     simp at h
    simp at B
   simp at a
  simp at a
 simp at a
def nh(X:CX)(B:X')(ops:QP):Nat->QP->aY R0
 |_,[]=>M []|i,o::r=>match oM X B ops i o,nh X B ops (i+1) r with
  |some ro,M rs=>M (ro::rs)|_,_=>_p
def R.BJ(r:R ν Z st F H)(ds:ST):R ν Z (su ds st) F H:=r.less (λs w u=>qZ u) (λd ob hd=>hd)
def Fix.BJ{ds:ST}(f:Fix ν (su ds st) ν' e?):Fix ν st ν' e?:=⟨f.pin,f.pins,f.more,f.yid⟩
def Fix.ghost(r:R ν Z st F H)(y:Yc S J st.more st.yid)(j:J st.want (fN ν st.m) Z H){x:Gh}(h:ghost x st=M e?):∃ν' Z',R ν' Z' e? F H/\J e?.want (fN ν' e?.m) Z' H/\Fix ν st ν' e?:=by have⟨ν',Z',a,u⟩:=Va (Rv:=λ_=>False) r h;have w:=Ph h;exact⟨ν',Z',a,u.beside y w.1 j,⟨u.pin,u.pins,w.2.1,w.2.2⟩⟩
def Fix.quiet(r:R ν Z st F H):∀{l:Pi}{e?:St},l.all Dl=U->Go.VE.rz l st=M e?->R ν Z e? F H/\Ev Rv ν Z st H ν Z e? H/\e?.want=st.want/\Fix ν st ν e?/\∀d ob,bk e?.m d=M ob->bk st.m d=M ob:=by intro l;induction l generalizing st with|nil=>intro e? _ h;simp[Go.VE.rz]at h;subst h;exact⟨r,.refl,rfl,.refl,λ_ _ h=>h⟩|cons x l C=>intro e? z h;simp only[List.all_cons,ζh]at z;have⟨D,a,G⟩:=ζg.1 h;have key:∃g m,D={st with g:=g,m:=m}/\(∀s u,bk g s=M u->bk st.g s=M u)/\∀d ob,bk m d=M ob->bk st.m d=M ob:=(by cases x with|keep gs L=>simp[Go.VE.ghost]at a;split at a;(next g m b I=>simp at a;subst a;exact⟨g,m,Y,λs u B=>tu b B,λd ob hd=>tu I hd⟩);grind|drop ds=>simp[Go.VE.ghost]at a;subst a;exact⟨_,st.m,rfl,λs u B=>qZ B,λ_ _ h=>h⟩|_=>simp[Dl]at z);obtain⟨g,m,rfl,J,w⟩:=key;have⟨a1,a2,a3,a4,a5⟩:=C (r.less J w) z.2 G;exact⟨a1,(Ev.less w).trans a2,a3,Fix.trans (e?:={st with g:=g,m:=m}) ⟨λd _ ob h=>⟨ob,w d ob h,Y,.refl _⟩,Y,Y,Y⟩ a4,λd ob h=>w d ob (a5 d ob h)⟩
def Fix.rz:∀{l:Pi}{ν:Nu}{Z:Nat->Prop}{st e?:St},R ν Z st F H->Yc S J st.more st.yid->J st.want (fN ν st.m) Z H->rz l st=M e?->∃ν' Z',R ν' Z' e? F H/\J e?.want (fN ν' e?.m) Z' H/\Fix ν st ν' e?
 |[],ν,Z,st,e?,r,y,j,h=>by simp[Go.VE.rz]at h;subst h;exact⟨ν,Z,r,j,.refl⟩|x::l,ν,Z,st,e?,r,y,j,h=>by have⟨B,b,D⟩:=ζg.1 h;have⟨C,G,r1,u,a⟩:=Fix.ghost r y j b;have⟨ν2,Z2,r2,w,z⟩:=Fix.rz r1 (by rw[a.more,a.yid];omega) u D;exact⟨ν2,Z2,r2,w,a.trans z⟩
def VS(gd:Good X S)(e:j7 S c){ops:QP}{fr:ST}{i:Nat}{o:Oper}{ro:RO}{B:St}(a:oM X O ops i o=M ro)(y:Yc S J st.more st.yid)(r:R ν Z st F H)(j:J st.want (fN ν st.m) Z H)(G:gz S c O fr ro st=M B):
 ∃n F' H' ν' Z',(∀k,n<=k->iM S.E (run S.E k) X.nt ops _p o F H=M (F',H'))/\R ν' Z' B F' H'/\J B.want (fN ν' B.m) Z' H'/\Fix ν st ν' B:=by
 by_cases L:wanted st.g ro.gd=M U
 .cases C:gI S.N st.g ro with
  |none=>
   have⟨n,F',H',ν',Z',e1,e2,e3,e4,e5,e6⟩:=OX gd e (place:=_p) Y (λb j h=>by cases h) (λb j h=>by cases h) a (λb j h=>by cases h) (λb j h=>by cases h) r (.inl C) G
   exact⟨n,F',H',ν',Z',e1,e2,(e3.weak (λid⟨b,j,h,_⟩=>by cases h)).beside y e5 j,e6⟩
  |some p=>have⟨id,T⟩:=p;have⟨n,F',H',e1,e2,e3,e4⟩:=Vq gd y a r j C L G;exact⟨n,F',H',ν,Z,e1,e2,e3,e4⟩
 have u:gz S c O fr ro st=M B:=G;have t:gI S.N st.g {ro with az:=[]}=_p:=by unfold gI;simp[bU]
 obtain⟨n,F',H',ν',Z',e1,e2,e3,e4,e5,e6⟩:∃n F' H' ν' Z',(∀k,n<=k->iM S.E (run S.E k) X.nt ops _p o F H=M (F',H'))/\R ν' Z' B F' H'/\Ev (λ_=>False) ν Z st H ν' Z' B H'/\True/\B.want=st.want/\Fix ν st ν' B:=by unfold gz at u;split at u;(next w=>exact _e w L);rename_i w;simp only[ζa]at u;subst u;unfold oM at a;simp only[Bool.false_and,v?,_a,Bool.not_false,Bool.and_true]at a;split at a;rename_i D;split at a;rename_i g k os f m;split at a;obtain⟨az,q,rfl⟩:=ζf.1 a;have I:=yH r.slot f w;have⟨F',l,Q⟩:=DK r D (.v V.undef V.undef (.same _ Y));have⟨p1,p2,p3,p4,p5⟩:=GW st o.dst (.v .undef);refine⟨0,F',H,ν,Z,λk _=>?_,Q,?_,trivial,p2,⟨λd hd=>by rw[p1];exactλz h=>⟨z,h,Y,.refl _⟩,p3,p4,p5⟩⟩;unfold iM;simp only[I,v?,_a,l,A?];exact⟨y? _,λ_ _ _ _ _=>rfl,λ_ h=>⟨h,Y⟩,λ_ h=>.inl (by rw[p1]at h;exact h),λ_ h=>.inl h,λd hd=>by rw[p1];exactλz h=>⟨z,h,Y,.refl _⟩,p3⟩;simp at a;simp at a;simp at a;simp at u
 exact⟨n,F',H',ν',Z',e1,e2,e3.beside y e5 j,e6⟩
def Sv(gd:Good X S)(d:j7 S c){ops:QP}{fr:ST}:∀(i?:QP){i:Nat}{B:R0}{ν:Nu}{Z:Nat->Prop}{st e?:St}{F:WP}{H:bl},nh X O ops i i?=M (B.map RO.strip)->pS S c O fr B st=M e?->
 Yc S J st.more st.yid->R ν Z st F H->J st.want (fN ν st.m) Z H->
 ∃n F' H' ν' Z',(∀k,n<=k->oy S.E (run S.E k) X.nt ops i? F H=M (F',H'))/\R ν' Z' e? F' H'/\J e?.want (fN ν' e?.m) Z' H'/\Fix ν st ν' e?
 |[],i,B,ν,Z,st,e?,F,H,hc,h,y,r,j=>by simp only[nh,ζa]at hc;have:=List.map_eq_nil_iff.1 hc.symm;subst this;simp[pS]at h;subst h;exact⟨0,F,H,ν,Z,λ_ _=>rfl,r,j,.refl⟩|o::i?,i,B,ν,Z,st,e?,F,H,hc,h,y,r,j=>by simp[nh]at hc;split at hc;rename_i Q rs f T;obtain⟨u,w,rfl,C,D⟩:∃u w,B=u::w/\Q=u.strip/\rs=w.map RO.strip:=(by cases B with|nil=>simp_all|cons a b=>grind);subst D;simp[pS,<-C]at h;split at h;rename_i z G;have⟨P,I,G⟩:=ζg.1 G;have⟨v,x,g,W,L⟩:=Fix.rz r y j I;have⟨Y,F1,H1,A,E,a1,a2,a3,a__⟩:=VS gd d f (by rw[L.more,L.yid];omega) g W G;have a4:=L.trans a__;have⟨l,m,H2,ν2,Z2,p,q,s,t⟩:=Sv gd d i? T h (by show Yc S J z.more z.yid;rw[a4.more,a4.yid];omega) (R.BJ a2 u.dead) a3;refine⟨max Y l,m,H2,ν2,Z2,λk e=>?_,q,s,a4.trans (Fix.BJ t)⟩;simp[oy,a1 k (W? (l! _ _) e),p k (W? (j! _ _) e)];grind;grind
def Old.next{b:Nat}{fr:ST}{o:RO}(h:Old b fr ν Z m)(a:Kept (BW o) ν m ν' m'):Old b (tW fr o) ν' Z m':=by refine⟨λd ob j hd C u=>?_,h.2⟩;have w:d∉fr:=λJ=>u (by unfold tW;grind);have z:BW o≠M d:=λe=>u (by unfold tW;grind);obtain⟨B,c,-,-,D⟩:=a d ob z hd;have⟨G,I⟩:=D j C;rw[I];exact h.1 d B j c G w
def Ht(r:R ν Z st F H){id:Nat}(h:fN ν st.m id):H[id]?≠M .free:=by obtain⟨d,ob,j,a,u,rfl⟩:=h;exact(r.obj d ob a).free u
def Rb(r:R ν Z st F H){id:Nat}(h:Z id):H[id]?≠M .free:=λe=>by have:=r.zrow id h;unfold bt at this;rw[e]at this;simp[Ob.rows]at this
def Ev.BJ{ds:ST}(e:Ev Rv ν Z (su ds st) H ν' Z' e? H'):Ev Rv ν Z st H ν' Z' e? H':=⟨e.len,e.same,e.rows,e.own,e.frz,e.pin,e.pins⟩
def S7(gd:Good X S)(g:j7 S c){ops:QP}{b k:Nat}(G:uH ops=U->k=ops.length):∀(len:Nat){i:Nat}{B:R0}{fr:ST}{ν:Nu}{Z:Nat->Prop}{st e?:St}{F:WP}{H:bl},
 i+len=ops.length->nh X U ops i (ops.drop i)=M (B.map RO.strip)->pS S c U fr B st=M e?->R ν Z st F H->b<=H.length->Old b fr ν Z st.m->(∀j,i<=j->j<k->H[b+j]?=M .free)->
 ∃n F' H' ν',(∀q,n<=q->lV S.E (run S.E q) X.nt ops b (List.range' i len) F H=M (F',H'))/\R ν' Z e? F' H'/\Ev (λid=>b<=id) ν Z st H ν' Z e? H'/\e?.want=st.want/\Fix ν st ν' e?
 |0,i,B,fr,ν,Z,st,e?,F,H,hl,hc,h,r,hb,J,hf=>by rw[List.drop_of_length_le c?]at hc;simp only[nh,ζa]at hc;have:B=[]:=List.map_eq_nil_iff.1 hc.symm;subst this;simp[pS]at h;subst h;exact⟨0,F,H,ν,λ_ _=>rfl,r,.refl,rfl,.refl⟩|len+1,i,B,fr,ν,Z,st,e?,F,H,hl,hc,h,r,hb,J,hf=>by
  have l:i<ops.length:=c?;have m:=ζd l;rw[List.drop_eq_getElem_cons l]at hc;simp[nh]at hc;split at hc
  .rename_i ro rs h1 h2;obtain⟨u,w,rfl,Q,T⟩:∃u w,B=u::w/\ro=u.strip/\rs=w.map RO.strip:=by cases B with|nil=>simp_all|cons a b=>grind
   subst T;simp only[pS,<-Q]at h;split at h
   .rename_i ab b__;obtain⟨W,z,b__⟩:=ζg.1 b__;simp only[Ff,N']at z;split at z;rotate_left;simp_all;rename_i L;obtain⟨f,o,p,s,t⟩:=Fix.quiet r L z;have J:Old b fr ν Z W.m:=⟨λd ob j hd=>J.1 d ob j (t d ob hd),J.2⟩;obtain⟨v,F1,H1,V,Z1,a1,a2,a3,a4,a5,a6⟩:=OX gd g (place:=M (b,i)) rfl (λc__ j e=>h?) (λc__ j e=>h?) h1 (λc__ j e=>h?) (λc__ j e ad=>by
     have:uH ops=U:=by
      unfold uH
      grind
     grind) f (.inr rfl) b__
    obtain⟨rfl,C⟩:=a4 rfl;have I:=a3.weak λid⟨c__,j,e,h⟩=>by cases e;omega
    obtain⟨x,y,H2,ν2,A,E,K,a__,d__⟩:=S7 gd g G len c? h2 h (R.BJ a2 u.dead) (W? hb a3.len) (J.next C) (λj ae Y=>by have D:=hf j c? Y;have P:=(ζe.1 D).1;rw[I.same (b+j) P (λh=>Ht f h D) (λh=>Rb f h D) c?];omega);refine⟨max v x,y,H2,ν2,λq L=>?_,E,o.trans ((I.weak λid e=>c?).trans (Ev.BJ K)),by rw[a__,<-p];exact a5,s.trans (a6.trans (Fix.BJ d__))⟩;simp[List.range'_succ,lV,m,a1 q (W? (l! _ _) L),A q (W? (j! _ _) L)]
   grind
  grind
end
end Go.VE
namespace Go.VE
variable[bZ]
def bQ(X:CX):X'->Code->aY RC
 |_,.skip=>M .skip|_,.label _=>M .skip|_,.region _ ops B=>
  if B then(if zD ops.toList&&Cn ops.toList then(nh X U ops.toList 0 ops.toList).map .vm else _p)
  else(nh X O ops.toList 0 ops.toList).map .ops
 |ro,.seq a b=>match bQ X ro a,bQ X ro b with
  |some a,M b=>M (.seq a b)|_,_=>_p
 |ro,.cond c a b=>match rP X.nm c,bQ X ro a,bQ X ro b with
  |some x,M a,M b=>M (.cond x a b)|_,_,_=>_p
 |ro,.block id c=>(bQ X ro c).map (.block id)|ro,.loop c=>(bQ X ro c).map .loop|ro,.rangeFunc g ps D G=>
  if ro|| !(ps.toList.all (·<X.nt))then _p else
  match rP X.nm g,bQ X U D,bQ X U G with
  |some x,M a,M b=>M (.each x ps.toList a b)|_,_,_=>_p
 |_,.exit id=>M (.exit id)|_,.ret=>M .ret|_,_=>_p
def erase:RC->RC
 |.seq a b=>.seq (erase a) (erase b)|.cond x a b=>.cond x (erase a) (erase b)|.block id c=>.block id (erase c)|.loop c=>.loop (erase c)|.each g ps a b=>.each g ps (erase a) (erase b)|.gh _ c=>erase c|.hg c _=>erase c|.ops l=>.ops (l.map RO.strip)|.vm l=>.vm (l.map RO.strip)|c=>c
def kR(step:St->aY (Out×St)):Nat->St->aY (Out×St)
 |0,_=>_p|k+1,st=>match step st with
  |some (.norm,e?)=>kR step k e?|r=>r
open Classical in
def ri(step:St->aY (Out×St))(st:St):aY (Out×St):=if h:∃k r,kR step k st=M r then M (Classical.choose (S? h))else _p
def BA{step:St->aY (Out×St)}:∀{k B:Nat}{st:St}{r:Out×St},k<=B->kR step k st=M r->kR step B st=M r
 |0,_,_,_,_,h=>by simp[kR]at h|k+1,0,_,_,hk,_=>c?|k+1,B+1,st,r,hk,h=>by simp only[kR]at h⊢;split at h;(next e? D=>rw[BA (Nat.le_of_succ_le_succ hk) h]);exact h
def pn{step:St->aY (Out×St)}{st:St}{r:Out×St}:ri step st=M r↔∃k,kR step k st=M r:=by
 unfold ri;constructor;intro h;split at h;next u=>simp only[ζa]at h;exact⟨_,by rw[<-h];exact S? (S? u)⟩
 simp at h;rintro⟨k,a⟩;have u:∃k r,kR step k st=M r:=⟨k,r,a⟩;rw[dif_pos u];have z:=S? (S? u);have B:=BA (l! (Classical.choose u) k) z;have w:=BA (j! (Classical.choose u) k) a;rw[B]at w;exact w
def kf(ps:ST)(A B:St->aY (Out×St))(st:St)(x:So)(m:Tb bE):aY (Out×Tb bE):=
 if W x=W ps then
  match A {g:=zT st.g ps (x.map .v),m:=m,pin:=st.pin++sy st.g,want:=[],more:=U,yid:=0}with
  |some (.norm,u)=>(B u).map λ(o,st2)=>(o,st2.m)|_=>_p
 else _p
def tA(step:So->Tb bE->aY (Out×Tb bE)):S'->Tb bE->aY (Out×Tb bE)
 |[],m=>M (.norm,m)|x::xs,m=>match step x m with
  |some (.norm,m')=>tA step xs m'|r=>r
def cI(S:Sys)(c:cg):RC->St->aY (Out×St)
 |.skip,st=>M (.norm,st)|.ops l,st=>(pS S c O [] l st).map λst=>(.norm,st)|.vm l,st=>(pS S c U [] l st).map λst=>(.norm,st)|.seq a b,st=>match cI S c a st with
  |some (.norm,e?)=>cI S c b e?|r=>r
 |.cond x a b,st=>match tM S.N st.g x with
  |some (.v (.bool t))=>if t then cI S c a st else cI S c b st|_=>_p
 |.block id a,st=>match cI S c a st with
  |some (.exit B,e?)=>if B=id then M (.norm,e?)else M (.exit B,e?)|r=>r
 |.loop a,st=>ri (cI S c a) st|.each g ps a b,st=>match tM S.N st.g g with
  |some (.v (.clo f x y))=>match S.items f x y with
   |some xs=>(tA (kf ps (cI S c a) (cI S c b) st) xs st.m).map λ(o,m)=>(o,{st with m:=m})|none=>_p
  |_=>_p
 |.exit id,st=>M (.exit id,st)|.ret,st=>M (.ret,st)|.gh x a,st=>_n (ghost x st) (cI S c a)|.hg a x,st=>match cI S c a st with
  |some (.norm,e?)=>(ghost x e?).map λst=>(.norm,st)|r=>r
def fm(S:Sys)(f:Y')(a b:So)(xs:S'):Prop:=∀u more,(more=U/\u=xs\/more=O/\u≠[]/\∃r,xs=u++r)->∀yid J,Yc S J more yid->∀Z w z H,dB H Z a w->dB H Z b z->(∀i,Z i->(bt H i).isSome=U)->Deep H Z->J u (λ_=>False) Z H->∃n y H' B Z',(∀k,n<=k->run S.E k (.fn f) (w++.yld yid::z) H=M (y,H'))/\J [] B Z' H'
section
variable{ν ν' ν2:Nu}{Z Z':Nat->Prop}{st e? st2:St}{m m':Tb bE}{F F':WP}{H H' H1:bl}{S:Sys}{c:cg}{X:CX}{J:JT}
end
inductive z_(step:List V->Tb bE->Option (Out×Tb bE))(o:Out)(mf:Tb bE):List (List V)->Bool->Tb bE->Prop
 |nil(h:o=.norm):z_ step o mf [] true mf|next(x:List V)(ws:List (List V))(more:Bool)(m m1:Tb bE)(h:step x m=some (.norm,m1))(r:z_ step o mf ws more m1):z_ step o mf (x::ws) more m|last(x:List V)(m:Tb bE)(h:step x m=some (o,mf))(ho:o≠.norm):z_ step o mf [x] false m
def FN{step:So->Tb bE->aY (Out×Tb bE)}{o:Out}{D:Tb bE}:∀{xs:S'}{m:Tb bE},tA step xs m=M (o,D)->
 ∃B more,(more=U/\B=xs\/more=O/\B≠[]/\∃r,xs=B++r)/\z_ step o D B more m
 |[],m,h=>by obtain⟨rfl,rfl⟩:=h;exact⟨[],U,.inl ⟨rfl,rfl⟩,.nil rfl⟩|x::xs,m,h=>by simp[tA]at h;split at h;rename_i m' u;have⟨B,more,b,a⟩:=FN h;refine⟨x::B,more,?_,.next x B more m m' u a⟩;grind;refine⟨[x],O,.inr ⟨Y,f?,xs,Y⟩,.last x m h λe=>?_⟩;simp_all
def x8(O0 Z0:Nat->Prop)(H0:bl):JT:=λw d Z H=>w=[]/\W H0<=W H/\(∀i,i<W H0->¬O0 i->¬Z0 i->H[i]?=H0[i]?)/\(∀i,Z0 i->Z i/\bt H i=bt H0 i)/\(∀i,d i->O0 i\/W H0<=i)/\(∀i,Z i->Z0 i\/O0 i\/W H0<=i)
section
variable{ν ν' ν2:Nu}{Z Z':Nat->Prop}{st e? st2:St}{m m':Tb bE}{F F':WP}{H H' H1:bl}{S:Sys}{c:cg}{X:CX}{J:JT}{O0 Z0:Nat->Prop}{H0:bl}
def x8.zK{w:S'}{O Z B Z':Nat->Prop}{H H':bl}(j:x8 O0 Z0 H0 w O Z H)(D:W H<=W H')(G:∀i,i<W H->¬O i->¬Z i->H'[i]?=H[i]?)(a:∀i,Z i->Z' i/\bt H' i=bt H i)
 (J:∀i,B i->O i\/W H<=i)(T:∀i,Z' i->Z i\/O i\/W H<=i):x8 O0 Z0 H0 w B Z' H':=by
 have⟨u,z,I,C,L,Q⟩:=j;refine⟨u,W? z D,λi b S d=>?_,λi h=>⟨(a i (C i h).1).1,h?⟩,λi h=>?_,λi h=>?_⟩
 .grind
 .grind
 grind
def x8.yc{more:X'}{yid:Nat}:Yc S (x8 O0 Z0 H0) more yid where
 zK:=λ_ _ _ _ _ _ _ j a u w z B=>j.zK a u w z B
 yield:=λx C d Z H args j=>by have⟨h,_⟩:=j;cases h
def x8.refl(r:R ν Z st F H):x8 (fN ν st.m) Z H [] (fN ν st.m) Z H:=⟨Y,y? _,λ_ _ _ _=>rfl,λi h=>⟨h,Y⟩,λi h=>.inl h,λi h=>.inl h⟩
mutual
def FF{d:Nat}:∀{sv:SV},sv.cM d=U->d∈sv.names
 |.v _,h=>by simp[SV.cM]at h|.own e,h=>by simp[SV.cM]at h;simp[SV.names,h]|.ptr e _,h=>by simp[SV.cM]at h;simp[SV.names,h]|.el e _ _,h=>by simp[SV.cM]at h;simp[SV.names,h]|.mp e,h=>by simp[SV.cM]at h;simp[SV.names,h]|.clo f a b,h=>by simp only[SV.cM,q!]at h;simp only[SV.names,List.mem_append];exact h.imp tS tS|.tup l,h=>by simp only[SV.cM]at h;simp only[SV.names];exact tS h|.agg l,h=>by simp only[SV.cM]at h;simp only[SV.names];exact tS h|.yl _,h=>by simp[SV.cM]at h
def tS{d:Nat}:∀{l:Rd},SV.dK d l=U->d∈SV.zp l
 |[],h=>by simp[SV.dK]at h|x::r,h=>by simp only[SV.dK,q!]at h;simp only[SV.zp,List.mem_append];exact h.imp FF tS
end
def Et{d:Nat}:∀{g:Tb SV}{s:Nat}{sv:SV},bk g s=M sv->sv.cM d=U->d∈sy g
 |[],s,sv,h,_=>by simp[bk]at h|(k,x)::r,s,sv,h,B=>by simp[bk]at h;simp[sy];split at h;simp at h;subst h;exact .inl (FF B);exact .inr (Et h B)
def R.adx(r:R ν Z st F H){Z2:Nat->Prop}(f:∀i,Z2 i->¬fN ν st.m i)(G:∀i,Z2 i->(bt H i).isSome=U)(J:Deep H Z2):R ν (λi=>Z i\/Z2 i) st F H:=by have w:∀i,Z i->(Z i\/Z2 i)/\bt H i=bt H i:=λi h=>⟨.inl h,Y⟩;have z:∀i,Z2 i->(Z i\/Z2 i)/\bt H i=bt H i:=λi h=>⟨.inr h,Y⟩;refine⟨λs I L=>(r.slot s I L).mono w λe _=>ko ν st.m e,λd ob hd=>c8.mono w Y (λ_ _=>rfl) (λe _=>ko ν st.m e) (r.obj d ob hd),r.inj,λd ob j hd C b=>?_,λi a=>?_,⟨λid es D a hr c hc u hu=>?_⟩⟩;rcases b with b|b;exact r.apart d ob j hd C b;exact f _ b ⟨d,ob,j,hd,C,Y⟩;exact a.elim (r.zrow i) (G i);rcases a with a|a;have⟨x,B⟩:=r.deep.row id es D a hr c hc u hu;exact⟨x,B.mono w⟩;have⟨x,B⟩:=J.row id es D a hr c hc u hu;exact⟨x,B.mono z⟩
def R.abm:∀{ps:ST}{xs:So}{vs:So}{g:Tb SV}{F:WP},R ν Z {st with g:=g} F H->dB H Z xs vs->W xs=W ps->R ν Z {st with g:=zT g ps (xs.map .v)} (A6 ps vs F) H
 |[],xs,vs,g,F,r,h,B=>by have:=List.length_eq_zero_iff.1 B;subst this;exact r|p::ps,[],vs,g,F,r,h,B=>p?|p::ps,x::xs,vs,g,F,r,h,B=>by obtain⟨w,z,rfl,a,u⟩:=h.inv;exact R.abm (ps:=ps) (r.put (.v _ _ a)) u h?
def vl(X:CX)(S:Sys)(ro:X')(code:Code)(B:St->aY (Out×St)):Prop:=∀st o e?,B st=M (o,e?)->∀(J:JT)ν Z F H,Yc S J st.more st.yid->R ν Z st F H->J st.want (fN ν st.m) Z H->∃n F' H' ν' Z',(∀k,n<=k->exec S.E (run S.E k) k ro X.nt code F H=M (o,F',H'))/\R ν' Z' e? F' H'/\J e?.want (fN ν' e?.m) Z' H'/\Fix ν st ν' e?
def XB(st:St)(m:Tb bE):St:={g:=st.g,m:=m,pin:=st.pin++sy st.g,want:=[],more:=U,yid:=0}
def JI(X:CX)(st:St)(F:WP)(ν:Nu)(O0 Z0:Nat->Prop)(H0:bl)(B:Nat)(ps:ST)(J T:Code)(step:So->Tb bE->aY (Out×Tb bE))(o:Out)(G:Tb bE)(more:X'):JT:=λw g Z H=>∃m z D u,R z D (XB st m) F H/\x8 O0 Z0 H0 [] (fN z m) D H/\(∀i,g i->¬fN z m i/\¬D i/\i≠B/\W H0<=i)/\(∀i,Z i->¬fN z m i/\i≠B/\(Z0 i\/W H0<=i))/\¬fN z m B/\¬D B/\W H0<=B/\H[B]?=M (.loop u)/\(u.frame=F/\u.nt=X.nt/\u.params=ps/\u.assign=J/\u.body=T)/\(∀d∈st.pin++sy st.g,∀C,bk m d=M C->∃ob,bk st.m d=M ob/\z d=ν d/\sameShape ob C)/\((z_ step o G w more m/\u.st=.ready/\u.pend=_p)\/(w=[]/\m=G/\u.st=.done/\u.pend=M o))
def JI.zK{w:S'}{O Z G Z':Nat->Prop}{H H':bl}{B:Nat}{ps:ST}{J T:Code}{step:So->Tb bE->aY (Out×Tb bE)}{o:Out}{A:Tb bE}{more:X'}
 (j:JI X st F ν O0 Z0 H0 B ps J T step o A more w O Z H)(P:W H<=W H')(D:∀i,i<W H->¬O i->¬Z i->H'[i]?=H[i]?)(x:∀i,Z i->Z' i/\bt H' i=bt H i)
 (Y:∀i,G i->O i\/W H<=i)(e:∀i,Z' i->Z i\/O i\/W H<=i):JI X st F ν O0 Z0 H0 B ps J T step o A more w G Z' H':=by
 have⟨m,S,I,f,r,g,b,c,k,l,n,p,q,s,t⟩:=j;have u:=λi a=>D i (r.lt a) (λh=>(b i h).1 a) (λh=>(c i h).1 a)
 have z:∀i,I i->bt H' i=bt H i:=λi a=>by by_cases C:Z i;grind;unfold bt;rw[D i (r.xK a) (λh=>(b i h).2.1 a) C]
 have y:=(ζe.1 p).1;refine⟨m,S,I,f,r.heap u z,?_,λi h=>?_,λi h=>?_,k,l,n,?_,q,s,t⟩
 .have⟨j1,L,j3,j4,j5,j6⟩:=g;refine⟨j1,W? L P,λi d v Q=>?_,λi h=>⟨(j4 i h).1,h?⟩,j5,j6⟩
  rw[D i (Nat.lt_of_lt_of_le d L) (λh=>by have:=(b i h).2.2.2;omega) (λh=>by rcases(c i h).2.2 with h|h;exact Q h;omega),j3 i d v Q]
 .rcases Y i h with h|h
  .exact b i h
  exact⟨λa=>_e (r.lt a) c?,λa=>_e (r.xK a) c?,c?,c?⟩
 .rcases e i h with h|h|h
  .exact c i h
  .exact⟨(b i h).1,(b i h).2.2.1,.inr (b i h).2.2.2⟩
  exact⟨λa=>_e (r.lt a) c?,c?,.inr c?⟩
 grind
def JI.yield(S:Sys){A B:St->aY (Out×St)}{N P:Code}(hA:vl X S U N A)(hB:vl X S U P B){D:Nat}{ps:ST}(ax:ps.all (·<X.nt)=U){o:Out}{q:Tb bE}{more:X'}
 {x:So}{g:S'}{O Z:Nat->Prop}{H:bl}{args:So}(j:JI X st F ν O0 Z0 H0 D ps N P (kf ps A B st) o q more (x::g) O Z H)
 (hx:dB H Z x args)(an:∀i,Z i->(bt H i).isSome=U)(ay:Deep H Z)(aA:∀i,O i->¬Z i/\i<_l H):
 ∃n H',run S.E n (.yld D) args H=M (.bool (more|| !g.isEmpty),H')/\JI X st F ν O0 Z0 H0 D ps N P (kf ps A B st) o q more g O Z H'/\_l H<=_l H'/\(∀i,O i->H'[i]?=H[i]?)/\(∀i,Z i->bt H' i=bt H i):=by
 have⟨m,t,k,f,r,ej,d1,v,l1,l2,l3,l4,⟨q1,q2,q3,q4,q5⟩,l6,l7⟩:=j;have aB:z_ (kf ps A B st) o q (x::g) more m/\f.st=.ready/\f.pend=_p:=by grind
 have⟨hE,T,aC⟩:=aB;have b__:∃y m1,kf ps A B st x m=M (y,m1)/\(y=.norm/\z_ (kf ps A B st) o q g more m1/\(more|| !g.isEmpty)=U\/y≠.norm/\y=o/\m1=q/\g=[]/\more=_o):=by cases hE with|next _ _ _ _ m1 h hr=>refine⟨.norm,m1,h,.inl ⟨_k,hr,?_⟩⟩;cases hr<;>simp|last _ _ h ho=>grind
 have⟨y,m1,w,ab⟩:=b__;unfold kf at w;split at w
 .rename_i ad;split at w
  .rename_i ah aD;have⟨⟨z,st2⟩,aE,e⟩:=ζf.1 w;simp at e;obtain⟨rfl,rfl⟩:=e;have aF:=(ζe.1 l4).1;have r1:=r.adx (λi a=>(v i a).1) an ay
   have aG:dB H (λi=>k i\/Z i) x args:=hx.mono λi a=>⟨.inr a,_k⟩
   have r2:=R.abm (st:=XB st m) r1 aG ad;have⟨nA,F2,H2,ν2,Z2,a1,a2,a3,a4⟩:=hA _ _ _ aD (x8 (fN t m) (λi=>k i\/Z i) H) t _ _ H x8.yc r2 (x8.refl r1)
   have⟨b1,b2,b3,b4,E,b6⟩:=a3;have ai:¬(k D\/Z D):=λh=>h.elim l2 λh=>(v D h).2.1 rfl
   have ao:H2[D]?=M (.loop f):=by rw[b3 D aF l1 ai];omega
   have ae:D<_l H2:=c?
   have W:¬fN ν2 ah.m D:=λh=>(E D h).elim l1 λh=>c?
   have aj:¬Z2 D:=λh=>by rcases b6 D h with h|h|h;exact ai h;exact l1 h;omega
   have u:∀(ob:Ob)(Hh:bl)(i:Nat),i≠D->(Hh.set D ob)[i]?=Hh[i]?:=λob Hh i Y=>by rw[List.getElem?_set,M' (Ne.symm Y)]
   have r3:R ν2 Z2 ah F2 (H2.set D (.loop {f with st:=.busy})):=a2.heap (λi a=>u _ _ i λe=>W (e▸a)) (λi a=>by unfold bt;rw[u _ _ i λe=>aj (e▸a)])
   have⟨nB,F4,c,K,l,c1,c2,c3,c4⟩:=hB _ _ _ aE (x8 (fN ν2 ah.m) Z2 (H2.set D (.loop {f with st:=.busy}))) ν2 Z2 F2 _ x8.yc r3 (by
    rw[b1];exact x8.refl r3)
   have⟨_,g2,g3,g4,g5,g6⟩:=c3;simp at g2 g3 g5 g6;have ap:c[D]?=M (.loop {f with st:=.busy}):=by rw[g3 D ae W aj,List.getElem?_set_self ae]
   have aq:D<_l c:=c?
   have ar:=λh=>(g5 D h).elim W λh=>c?
   have au:¬l D:=λh=>by rcases g6 D h with h|h|h;exact aj h;exact W h;omega
   generalize a__:({f with st:=(if z==.norm then Eu.ready else Eu.done),pend:=(if z==.norm then _p else M z)}:yZ)=G;have r5:R K l st2 F4 (c.set D (.loop G)):=c2.heap (λi a=>u _ _ i λe=>ar (e▸a)) (λi a=>by unfold bt;rw[u _ _ i λe=>au (e▸a)])
   have L:_l H<=_l (c.set D (.loop G)):=by simp;omega
   have ak:∀i,i<_l H->i≠D->¬fN t m i->¬(k i\/Z i)->(c.set D (.loop G))[i]?=H[i]?:=λi b J I p=>by rw[u _ _ i J,g3 i c? (λh=>(E i h).elim I λh=>c?) (λh=>by rcases b6 i h with h|h|h;exact p h;exact I h;omega),u _ _ i J,b3 i b I p]
   have C:∀i,(k i\/Z i)->l i/\bt (c.set D (.loop G)) i=bt H i:=λi a=>by have Y:i≠D:=λe=>ai (e▸a);have⟨t1,t2⟩:=b4 i a;have⟨t3,t4⟩:=g4 i t1;refine⟨t3,?_⟩;rw[<-t2];have:bt (H2.set D (.loop {f with st:=.busy})) i=bt H2 i:=(by unfold bt;rw[u _ _ i Y]);rw[<-this,<-t4];unfold bt;rw[u _ _ i Y]
   have Q:∀i,fN K st2.m i->fN t m i\/_l H<=i:=λi a=>by rcases g5 i a with h|h;exact E i h;exact .inr c?
   have af:∀i,l i->(k i\/Z i)\/fN t m i\/_l H<=i:=λi a=>by rcases g6 i a with h|h|h;exact b6 i h;rcases E i h with h|h;exact .inr (.inl h);exact .inr (.inr h);exact .inr (.inr c?)
   have fx:=a4.trans c4;have r6:R K l (XB st st2.m) F (c.set D (.loop G)):=⟨λs sv hs=>(r.slot s sv hs).mono (λi a=>C i (.inl a)) λd hd al am=>fx.pin d (List.mem_append_right _ (Et hs hd)) al am,r5.obj,r5.inj,r5.apart,r5.zrow,r5.deep⟩
   have av:run S.E (max nA nB+1) (.yld D) args H=M (.bool (z==.norm),c.set D (.loop G)):=by simp only[run,lI,l4];rw[L' (by rw[q3];exact⟨by rw[<-hx.1];exact ad,by rw[q2];exact ax⟩)];rw[q1,q2,q3,q4,q5];rw[a1 _ (l! _ _)];simp only[ao,T];rw[c1 _ (j! _ _)];simp only[ap];rw[<-a__]
   refine⟨max nA nB+1,c.set D (.loop G),?_,⟨st2.m,K,l,G,r6,?_,λi a=>?_,λi a=>?_,ar,au,l3,?_,?_,λd hd al am=>?_,?_⟩,L,λi a=>?_,λi a=>(C i (.inr a)).2⟩
   .rw[av];rcases ab with⟨b,_,I⟩|⟨b,_,_,p,h5⟩
    .rw[b,I];rfl
    rw[p,h5]
    cases aH:z with
    |norm=>exact _e aH b|_=>rfl
   .have⟨j1,j2,j3,j4,j5,j6⟩:=ej;refine⟨_k,W? j2 L,λi b J I=>?_,λi h=>⟨(C i (.inl (j4 i h).1)).1,by rw[(C i (.inl (j4 i h).1)).2,(j4 i h).2]⟩,λi h=>?_,λi h=>?_⟩
    .rw[ak i c? c? (λh=>by rcases j5 i h with h|h;exact J h;omega) (λh=>by
      rcases h with h|h
      .rcases j6 i h with h|h|h;exact I h;exact J h;omega
      rcases(v i h).2.2 with h|h;exact I h;omega),j3 i b J I]
    .rcases Q i h with h|h
     .exact j5 i h
     exact .inr c?
    rcases af i h with(h|h)|h|h
    .exact j6 i h
    .rcases (v i h).2.2 with h|h;exact .inl h;exact .inr (.inr h)
    .rcases j5 i h with h|h;exact .inr (.inl h);exact .inr (.inr h)
    exact .inr (.inr c?)
   .have⟨t1,t2⟩:=aA i a;have⟨t3,t4,t5,t6⟩:=d1 i a;refine⟨λh=>(Q i h).elim t3 λh=>c?,λh=>?_,t5,t6⟩
    rcases af i h with(h|h)|h|h
    .exact t4 h
    .exact t1 h
    .exact t3 h
    omega
   .have⟨t1,t2,t3⟩:=v i a;have aJ:i<_l H:=by
     have:=an i a;unfold bt at this
     cases hh:H[i]?with
     |none=>rw[hh]at this;simp at this|some _=>exact(ζe.1 hh).1
    exact⟨λh=>(Q i h).elim t1 λh=>c?,t2,t3⟩
   .rw[List.getElem?_set_self aq]
   .subst a__;exact⟨q1,q2,q3,q4,q5⟩
   .have⟨aI,b,J,I⟩:=fx.pin d hd al am;have⟨ob,k1,k2,k3⟩:=l6 d hd aI b;exact⟨ob,k1,by rw[J,k2],k3.trans I⟩
   .rcases ab with⟨b,J,I⟩|⟨b,J,I,p,h5⟩
    .left;subst b;subst a__;exact⟨J,_k,_k⟩
    right;subst a__;have hb:¬(z==Out.norm)=U:=by simpa using b
    refine⟨p,I,?_,?_⟩
    .show (if(z==Out.norm)=U then Eu.ready else Eu.done)=Eu.done;rw[M' hb]
    show(if(z==Out.norm)=U then _p else M z)=M o;rw[M' hb,J]
   grind
  grind
 grind
end
section
variable{ν ν' ν2:Nu}{Z Z':Nat->Prop}{st e? st2:St}{m m':Tb bE}{F F':WP}{H H' H1:bl}{S:Sys}{c:cg}{X:CX}{J:JT}
def Ti(gd:Good X S)(m:j7 S c){ro:X'}{id:Nat}{ops:Array Oper}{l:R0}(p:nh X U ops.toList 0 ops.toList=M (l.map RO.strip))(hd:(zD ops.toList&&Cn ops.toList)=U):
 vl X S ro (.region id ops U) (λst=>(pS S c U [] l st).map λst=>(.norm,st)):=by
 intro st o e? h J ν Z F H y r j;have⟨G,f,e⟩:=ζf.1 h;simp only[ζc]at e;obtain⟨rfl,rfl⟩:=e;generalize w:(if uH ops.toList then H++List.replicate (W ops.toList) .free else H)=H0;generalize g:(if uH ops.toList then W ops.toList else 0)=k;have u:∀i,i<W H->H0[i]?=H[i]?:=λi a=>by rw[<-w];split;exact List.getElem?_append_left a;rfl
 have z:W H<=W H0:=by rw[<-w];split<;>simp
 have I:R ν Z st F H0:=r.heap (λi a=>u i (r.lt a)) (λi a=>by unfold bt;rw[u i (r.xK a)])
 have B:∀q,0<=q->q<k->H0[W H+q]?=M .free:=λq _ C=>by rw[<-g]at C;split at C;rename_i D;rw[<-w,L' D,List.getElem?_append_right c?];simp only[Nat.add_sub_cancel_left];rw[List.getElem?_replicate,L' C];omega
 have⟨n,F',H',ν',e1,e2,e3,e4,e5⟩:=S7 gd m (ops:=ops.toList) (b:=W H) (k:=k) (λD=>by rw[<-g,L' D]) (W ops.toList) (i:=0) (fr:=[]) c? (by simpa using p) f I z
  ⟨λd ob j hd L _=>r.lt ⟨d,ob,j,hd,L,Y⟩,λi a=>r.xK a⟩ B
 refine⟨n,F',H',ν',Z,λq C=>?_,e2,?_,e5⟩
 .simp only[exec,lF,N',hd,ζf,ζc,true_and];refine⟨(F',H'),?_,Y,Y⟩;rw[w];have:=e1 q C;rw[List.range_eq_range'];exact this
 rw[e4];refine y.zK _ _ _ _ _ _ _ j (W? z e3.len) (λi f t Q=>by rw[e3.same i c? t Q c?,u i f]) (λi a=>⟨a,by rw[(e3.rows i a).2];unfold bt;rw[u i (r.xK a)]⟩) (λi a=>?_) (λi a=>.inl a)
 rcases e3.own i a with h|h|h
 .exact .inl h
 .exact .inr h
 exact .inr c?
def Zt{ro:X'}{code:Code}{f:St->aY (Out×St)}(T:vl X S ro code f):vl X S ro (.loop code) (ri f):=by
 intro st o e? h J ν Z F H y r j;have⟨k,a⟩:=pn.1 h;have key:∀k st ν Z F H,kR f k st=M (o,e?)->Yc S J st.more st.yid->R ν Z st F H->J st.want (fN ν st.m) Z H->
  ∃n F' H' ν' Z',(∀q,n<=q->∀u,k<=u->mG (exec S.E (run S.E q) q ro X.nt code) u F H=M (o,F',H'))/\R ν' Z' e? F' H'/\J e?.want (fN ν' e?.m) Z' H'/\Fix ν st ν' e?:=by
  intro k
  induction k with
  |zero=>intro st ν Z F H h;simp[kR]at h|succ k L=>
   intro st ν Z F H h y r j;simp only[kR]at h;split at h
   .rename_i z B;have⟨C,F1,H1,D,G,a1,a2,a3,a4⟩:=T st .norm z B J ν Z F H y r j;have⟨g,Q,H2,ν2,Z2,d,t,i,b⟩:=L z D G F1 H1 h (by rw[a4.more,a4.yid];exact y) a2 a3
    refine⟨max C g,Q,H2,ν2,Z2,λq w u I=>?_,t,i,a4.trans b⟩
    cases u with
    |zero=>omega|succ u=>simp only[mG,a1 q (W? (l! _ _) w)];exact d q (W? (j! _ _) w) u c?
   rename_i B;have⟨C,F1,H1,D,G,a1,a2,a3,a4⟩:=T st o e? h J ν Z F H y r j;have c:o≠.norm:=λe=>by subst e;exact B e? h
   refine⟨C,F1,H1,D,G,λq w u I=>?_,a2,a3,a4⟩
   cases u with
   |zero=>omega|succ u=>simp only[mG,a1 q w];cases o<;>first|exact _e Y c|rfl
 have⟨n,F',H',ν',Z',e1,e2,e3,e4⟩:=key k st ν Z F H a y r j;refine⟨max n k,F',H',ν',Z',λq w=>?_,e2,e3,e4⟩;simp only[exec];exact e1 q (W? (l! _ _) w) q (W? (j! _ _) w)
def aaa(gd:Good X S)(hI:∀f a b xs,S.items f a b=M xs->fm S f a b xs){g:UV}{ps:Array Tmp}{b__ W:Code}{x:Arg}{A B:St->aY (Out×St)}
 (ab:ps.toList.all (·<X.nt)=U)(hx:rP X.nm g=M x)(hA:vl X S U b__ A)(hB:vl X S U W B):
 vl X S O (.rangeFunc g ps b__ W) (λst=>match tM S.N st.g x with
 |some (.v (.clo f x y))=>match S.items f x y with
  |some xs=>(tA (kf ps.toList A B st) xs st.m).map λ(o,m)=>(o,{st with m:=m})|none=>_p
 |_=>_p):=by
 intro st o e? h J ν Z F H y r j;dsimp only at h;split at h
 .rename_i f a b ad;split at h
  .rename_i xs ae;obtain⟨⟨s,t⟩,hE,e⟩:=ζf.1 h;simp only[ζc]at e;obtain⟨rfl,rfl⟩:=e;obtain⟨yv,hy,ry⟩:=H7 gd.N r.slot hx ad;obtain⟨a',b',rfl,ra,rb⟩:=ry.fr.mc;obtain⟨N,more,Q,hR⟩:=FN hE;generalize I:(⟨.ready,_p,F,X.nt,ps.toList,b__,W⟩:yZ)=u;have z:∀i,i<H.length->(H++[Ob.loop u])[i]?=H[i]?:=λi c=>List.getElem?_append_left c
   have C:∀i,Z i->bt (H++[Ob.loop u]) i=bt H i:=λi c=>by unfold bt;rw[z i (r.xK c)]
   have r0:R ν Z (XB st st.m) F (H++[Ob.loop u]):=by have:=r.heap (H':=H++[Ob.loop u]) (λi c=>z i (r.lt c)) C;exact⟨this.slot,this.obj,this.inj,this.apart,this.zrow,this.deep⟩
   have D:∀i,Z i->Z i/\bt (H++[Ob.loop u]) i=bt H i:=λi c=>⟨c,C i c⟩
   have j0:JI X st F ν (fN ν st.m) Z H H.length ps.toList b__ W (kf ps.toList A B st) s t more N (λ_=>False) Z (H++[Ob.loop u]):=by refine⟨st.m,ν,Z,u,r0,⟨rfl,f?,λi l _ _=>z i l,λi c=>⟨c,C i c⟩,λi c=>.inl c,λi c=>.inl c⟩,λi c=>c.elim,λi c=>⟨λv=>?_,Nat.ne_of_lt (r.xK c),.inl c⟩,λv=>_e (r.lt v) f?,λhz=>_e (r.xK hz) f?,y? _,f?,?_,λd _ af h=>⟨af,h,rfl,.refl _⟩,.inl ⟨hR,?_,?_⟩⟩;obtain⟨d,ob,j,g1,g2,rfl⟩:=v;exact r.apart d ob j g1 g2 c;subst I;exact⟨rfl,rfl,rfl,rfl,rfl⟩;subst I;rfl;subst I;rfl
   have ah:Yc S (JI X st F ν (fN ν st.m) Z H H.length ps.toList b__ W (kf ps.toList A B st) s t more) more H.length:=⟨λw c__ Z1 H1 O' Z' H' E l Y p K h5=>JI.zK E l Y p K h5,λx1 aj c__ Z1 H1 args E l Y p K=>JI.yield S hA hB ab E l Y p K⟩
   obtain⟨n,yy,H',O',Z',e1,e2⟩:=hI f a b xs ae N more Q H.length _ ah Z a' b' (H++[Ob.loop u]) (ra.mono D) (rb.mono D) (λi c=>by rw[C i c];exact r.zrow i c) (r.deep.mono C) j0
   obtain⟨m1,νb,P,a__,r1,⟨_,k2,k3,k4,k5,k6⟩,_,_,l1,l2,l3,V,_,l6,l7⟩:=e2;have aa:m1=t/\(a__.st=.ready\/a__.st=.done)/\a__.pend.getD .norm=s:=by rcases l7 with⟨g1,g2,g3⟩|⟨_,g1,g2,g3⟩;(cases g1 with|nil hn=>exact⟨rfl,.inl g2,by rw[g3,hn];rfl⟩);exact⟨g1,.inr g2,by rw[g3];rfl⟩
   obtain⟨rfl,k,T⟩:=aa;have ak:H.length<H'.length:=(ζe.1 V).1;have G:∀i,i≠H.length->(H'.set H.length .dead)[i]?=H'[i]?:=λi ai=>by rw[List.getElem?_set,M' (Ne.symm ai)]
   have L:∀i,P i->bt (H'.set H.length .dead) i=bt H' i:=λi c=>by unfold bt;rw[G i λe=>l2 (e▸c)]
   have r2:=r1.heap (H':=H'.set H.length .dead) (λi c=>G i λe=>l1 (e▸c)) L
   refine⟨n,F,H'.set H.length .dead,νb,P,λq hq=>?_,⟨r2.slot,r2.obj,r2.inj,r2.apart,r2.zrow,r2.deep⟩,?_,⟨λd hd=>l6 d (List.mem_append_left _ hd),rfl,rfl,rfl⟩⟩
   .simp only[exec,hy];rw[I,e1 q hq];simp only[V];rcases k with k|k<;>rw[k]<;>simp only[T]
   refine y.zK _ _ _ _ _ _ _ j (by simp only[List.length_set];omega) (λi l Y p=>by rw[G i c?,k3 i l Y p]) (λi c=>⟨(k4 i c).1,by rw[L i (k4 i c).1,(k4 i c).2]⟩) k5 k6
  simp at h
 simp at h
end
def kY(st:St):Ps->aY Rd
 |[]=>M []|.s n::r=>match bk st.g n,kY st r with
  |some x,M l=>M (x::l)|_,_=>_p
 |.ld n size agg::r=>match(bk st.g n).bind λp=>qe st.m (.load size agg) [p],kY st r with
  |some x,M l=>M (x::l)|_,_=>_p
def pP(S:Sys)(c:cg)(rf:RF)(m?:Rd)(B:dF):aY (Rd×dF):=
 if W m?<=rf.na then
  match cI S c rf.body (start m? B)with
  |some (.exit _,_)=>_p|some (_,st)=>(kY st rf.rs).map λrs=>(rs,st.m)|none=>_p
 else _p
def DP(E:Env):ResultVar->aY RV
 |.tmp t=>M (.s t)|.cell a t=>(E.tt t).map λd=>.ld a d.size d.agg
def Ao(E:Env)(nm:Y'->aY Nat)(fi:FI)(rf:RF):Prop:=bQ ⟨E,nm,fi.ntmps⟩ O fi.body=M (erase rf.body)/\fi.results.mapM (DP E)=M rf.rs/\rf.na=fi.ntmps
section
variable{ν ν' ν2:Nu}{Z Z':Nat->Prop}{st e? st2:St}{m m':Tb bE}{F F':WP}{H H' H1:bl}{S:Sys}{c:cg}{X:CX}{J:JT}
theorem OR (gd:Good X S) (hS:j7 S c) (hI:∀f a b xs,S.items f a b=some xs->fm S f a b xs):∀(rc:RC) (ro:Bool) (code:Code),bQ X ro code=some (erase rc)->vl X S ro code (cI S c rc):=by
 intro rc
 induction rc with
 | skip=>
  intro ro code hc st o e? h J ν Z F H y r j;obtain⟨rfl,rfl⟩:=h;simp[erase]at hc;have:∀k,exec S.E (run S.E k) k ro X.nt code F H=some (.norm,F,H):=λk=>by
   cases code with
   | skip=>rfl
   | label _=>rfl
   | region id ops w=>
    simp[bQ]at hc;split at hc
    .simp_all
    simp_all
   | seq a b=>simp[bQ]at hc;grind
   | cond x a b=>simp[bQ]at hc;grind
   | block id b=>simp only[bQ]at hc;simp_all
   | loop b=>simp only[bQ]at hc;simp_all
   | rangeFunc g ps i Q=>
    simp[bQ]at hc
    grind
   | _=>simp[bQ]at hc
  exact⟨0,F,H,ν,Z,λk _=>this k,r,j,.refl⟩
 | ops l=>
  intro ro code hc;simp[erase]at hc
  cases code with
  | region id ops w=>
   simp[bQ]at hc;split at hc
   .simp_all
   rename_i hd;obtain⟨l',hl,e⟩:=ζf.1 hc;cases e;intro st o e? h J ν Z F H y r j;obtain⟨z,h1,e⟩:=ζf.1 h;obtain⟨rfl,rfl⟩:=e;obtain⟨n,F',H',ν',Z',e1,e2,e3,e4⟩:=Sv gd hS _ hl h1 y r j;refine⟨n,F',H',ν',Z',λk hk=>?_,e2,e3,e4⟩
   simp[exec,lF,hd,e1 k hk]
  | seq a b=>simp[bQ]at hc;grind
  | cond x a b=>simp[bQ]at hc;grind
  | block id b=>simp only[bQ]at hc;simp_all
  | loop b=>obtain⟨_,_,e⟩:=ζf.1 hc;cases e
  | rangeFunc g ps i Q=>
   simp only[bQ]at hc;split at hc
   .simp at hc
   split at hc <;> simp at hc
  | _=>simp[bQ]at hc
 | vm l=>
  intro ro code hc;simp[erase]at hc
  cases code with
  | region id ops w=>
   simp only[bQ]at hc;split at hc
   .rename_i hd;subst hd;split at hc
    next aa=>obtain⟨l',hl,e⟩:=ζf.1 hc;cases e;have:=Ti (ro:=ro) (id:=id) gd hS hl aa;intro st o e? h;exact this st o e? h
    simp at hc
   obtain⟨_,_,e⟩:=ζf.1 hc;cases e
  | seq a b=>simp[bQ]at hc;split at hc <;> simp at hc
  | cond x a b=>simp[bQ]at hc;split at hc <;> simp at hc
  | block id b=>obtain⟨_,_,e⟩:=ζf.1 hc;cases e
  | loop b=>obtain⟨_,_,e⟩:=ζf.1 hc;cases e
  | rangeFunc g ps i Q=>
   simp only[bQ]at hc;split at hc
   .simp at hc
   split at hc <;> simp at hc
  | _=>simp[bQ]at hc
 | seq a b u I=>
  intro ro code hc;simp[erase]at hc
  cases code with
  | seq T cb=>
   simp[bQ]at hc;split at hc
   .rename_i xa xb L W;simp[RC.seq.injEq]at hc;obtain⟨rfl,rfl⟩:=hc;intro st o e? h J ν Z F H y r j;simp[cI]at h;split at h
    .rename_i z d;obtain⟨G,F1,H1,B,C,a1,a2,a3,a4⟩:=u ro T L st .norm z d J ν Z F H y r j;obtain⟨n2,F2,H2,ν2,Z2,b1,b2,b3,b4⟩:=I ro cb W z o e? h J B C F1 H1 (by rw[a4.more,a4.yid];exact y) a2 a3
     refine⟨max G n2,F2,H2,ν2,Z2,λq D=>?_,b2,b3,a4.trans b4⟩
     simp[exec,a1 q (Nat.le_trans (Nat.le_max_left _ _) D)];exact b1 q (Nat.le_trans (Nat.le_max_right _ _) D)
    rename_i d;obtain⟨G,F1,H1,B,C,a1,a2,a3,a4⟩:=u ro T L st o e? h J ν Z F H y r j;refine⟨G,F1,H1,B,C,λq D=>?_,a2,a3,a4⟩
    simp[exec,a1 q D];cases o <;> first|exact _e h (d e?)|rfl
   simp at hc
  | region id ops w=>
   simp[bQ]at hc;split at hc
   .split at hc
    .obtain⟨_,_,e⟩:=ζf.1 hc;cases e
    simp at hc
   obtain⟨_,_,e⟩:=ζf.1 hc;cases e
  | cond x a b=>simp[bQ]at hc;split at hc <;> simp at hc
  | block id b=>simp only[bQ]at hc;obtain⟨_,_,e⟩:=ζf.1 hc;cases e
  | loop b=>simp only[bQ]at hc;obtain⟨_,_,e⟩:=ζf.1 hc;cases e
  | rangeFunc g ps i Q=>
   simp only[bQ]at hc;split at hc
   .simp at hc
   split at hc <;> simp at hc
  | _=>simp[bQ]at hc
 | cond x a b u I=>
  intro ro code hc;simp[erase]at hc
  cases code with
  | cond g T cb=>
   simp[bQ]at hc;split at hc
   .rename_i xg xa xb hg L W;simp[RC.cond.injEq]at hc;obtain⟨rfl,rfl,rfl⟩:=hc;intro st o e? h J ν Z F H y r j;simp[cI]at h;split at h
    .rename_i t ht;obtain⟨yv,hy,ry⟩:=H7 gd.N r.slot hg ht;rw[ry.fr.bool]at hy;split at h
     .rename_i W;obtain⟨G,F1,H1,B,C,a1,a2,a3,a4⟩:=u ro T L st o e? h J ν Z F H y r j;refine⟨G,F1,H1,B,C,λq D=>?_,a2,a3,a4⟩
      simp[exec,hy,W];exact a1 q D
     rename_i W;obtain⟨G,F1,H1,B,C,a1,a2,a3,a4⟩:=I ro cb (by assumption) st o e? h J ν Z F H y r j
     refine⟨G,F1,H1,B,C,λq D=>?_,a2,a3,a4⟩
     simp[exec,hy,W];exact a1 q D
    simp at h
   simp at hc
  | region id ops w=>
   simp[bQ]at hc;split at hc
   .split at hc
    .obtain⟨_,_,e⟩:=ζf.1 hc;cases e
    simp at hc
   obtain⟨_,_,e⟩:=ζf.1 hc;cases e
  | seq a b=>simp[bQ]at hc;split at hc <;> simp at hc
  | block id b=>simp only[bQ]at hc;obtain⟨_,_,e⟩:=ζf.1 hc;cases e
  | loop b=>simp only[bQ]at hc;obtain⟨_,_,e⟩:=ζf.1 hc;cases e
  | rangeFunc g ps i Q=>
   simp only[bQ]at hc;split at hc
   .simp at hc
   split at hc <;> simp at hc
  | _=>simp[bQ]at hc
 | block id a u=>
  intro ro code hc;simp[erase]at hc
  cases code with
  | block ab T=>
   simp only[bQ]at hc;obtain⟨xa,L,e⟩:=ζf.1 hc;simp[RC.block.injEq]at e;obtain⟨rfl,rfl⟩:=e;intro st o e? h J ν Z F H y r j;simp[cI]at h;split at h
   .rename_i ad z d;obtain⟨G,F1,H1,B,C,a1,a2,a3,a4⟩:=u ro T L st (.exit ad) z d J ν Z F H y r j;split at h
    .rename_i e;simp  at h;obtain⟨rfl,rfl⟩:=h;refine⟨G,F1,H1,B,C,λq D=>?_,a2,a3,a4⟩
     simp[exec,a1 q D,L' e]
    rename_i e;simp  at h;obtain⟨rfl,rfl⟩:=h;refine⟨G,F1,H1,B,C,λq D=>?_,a2,a3,a4⟩
    simp[exec,a1 q D,M' e]
   rename_i d;obtain⟨G,F1,H1,B,C,a1,a2,a3,a4⟩:=u ro T L st o e? h J ν Z F H y r j;refine⟨G,F1,H1,B,C,λq D=>?_,a2,a3,a4⟩
   simp[exec,a1 q D];cases o <;> first|exact _e h (d _ e?)|rfl
  | region id ops w=>
   simp[bQ]at hc;split at hc
   .split at hc
    .obtain⟨_,_,e⟩:=ζf.1 hc;cases e
    simp at hc
   obtain⟨_,_,e⟩:=ζf.1 hc;cases e
  | seq a b=>simp[bQ]at hc;split at hc <;> simp at hc
  | cond x a b=>simp[bQ]at hc;split at hc <;> simp at hc
  | loop b=>simp only[bQ]at hc;obtain⟨_,_,e⟩:=ζf.1 hc;cases e
  | rangeFunc g ps i Q=>
   simp only[bQ]at hc;split at hc
   .simp at hc
   split at hc <;> simp at hc
  | _=>simp[bQ]at hc
 | loop a u=>
  intro ro code hc;simp[erase]at hc
  cases code with
  | loop T=>
   simp only[bQ]at hc;obtain⟨xa,L,e⟩:=ζf.1 hc;simp[RC.loop.injEq]at e;subst e;have:=Zt (u ro T L);intro st o e? h;simp[cI]at h;exact this st o e? h
  | region id ops w=>
   simp[bQ]at hc;split at hc
   .split at hc
    .obtain⟨_,_,e⟩:=ζf.1 hc;cases e
    simp at hc
   obtain⟨_,_,e⟩:=ζf.1 hc;cases e
  | seq a b=>simp[bQ]at hc;split at hc <;> simp at hc
  | cond x a b=>simp[bQ]at hc;split at hc <;> simp at hc
  | block id b=>simp only[bQ]at hc;obtain⟨_,_,e⟩:=ζf.1 hc;cases e
  | rangeFunc g ps i Q=>
   simp only[bQ]at hc;split at hc
   .simp at hc
   split at hc <;> simp at hc
  | _=>simp[bQ]at hc
 | each x ps a b u I=>
  intro ro code hc;simp[erase]at hc
  cases code with
  | rangeFunc g af i Q=>
   simp only[bQ]at hc;split at hc
   .simp at hc
   rename_i Y;simp only[Bool.or_eq_true,not_or,Bool.not_eq_true,Bool.not_eq_false']at Y;obtain⟨rfl,ae⟩:=Y;split at hc
   next xg xa xb hg L W=>simp[RC.each.injEq]at hc;obtain⟨rfl,rfl,rfl,rfl⟩:=hc;have:=aaa gd hI ae hg (u true i L) (I true Q W);intro st o e? h;simp only[cI]at h;exact this st o e? h
   simp at hc
  | region id ops w=>
   simp only[bQ]at hc;split at hc
   .split at hc
    .obtain⟨_,_,e⟩:=ζf.1 hc;cases e
    simp at hc
   obtain⟨_,_,e⟩:=ζf.1 hc;cases e
  | seq a b=>simp only[bQ]at hc;split at hc <;> simp at hc
  | cond x a b=>simp only[bQ]at hc;split at hc <;> simp at hc
  | block id b=>simp only[bQ]at hc;obtain⟨_,_,e⟩:=ζf.1 hc;cases e
  | loop b=>simp only[bQ]at hc;obtain⟨_,_,e⟩:=ζf.1 hc;cases e
  | _=>simp[bQ]at hc
 | exit id=>
  intro ro code hc st o e? h J ν Z F H y r j;simp only[cI,ζa,ζc]at h;obtain⟨rfl,rfl⟩:=h;simp only[erase]at hc;have:∀k,exec S.E (run S.E k) k ro X.nt code F H=some (.exit id,F,H):=λk=>by
   cases code with
   | exit ab=>simp only[bQ,ζa,RC.exit.injEq]at hc;subst hc;rfl
   | region id ops w=>
    simp only[bQ]at hc;split at hc
    .split at hc
     .obtain⟨_,_,e⟩:=ζf.1 hc;cases e
     simp at hc
    obtain⟨_,_,e⟩:=ζf.1 hc;cases e
   | seq a b=>simp only[bQ]at hc;split at hc <;> simp at hc
   | cond x a b=>simp only[bQ]at hc;split at hc <;> simp at hc
   | block id b=>simp only[bQ]at hc;obtain⟨_,_,e⟩:=ζf.1 hc;cases e
   | loop b=>simp only[bQ]at hc;obtain⟨_,_,e⟩:=ζf.1 hc;cases e
   | rangeFunc g ps i Q=>
    simp only[bQ]at hc;split at hc
    .simp at hc
    split at hc <;> simp at hc
   | _=>simp[bQ]at hc
  exact⟨0,F,H,ν,Z,λk _=>this k,r,j,.refl⟩
 | ret=>
  intro ro code hc st o e? h J ν Z F H y r j;simp only[cI,ζa,ζc]at h;obtain⟨rfl,rfl⟩:=h;simp only[erase]at hc;have:∀k,exec S.E (run S.E k) k ro X.nt code F H=some (.ret,F,H):=λk=>by
   cases code with
   | ret=>rfl
   | region id ops w=>
    simp only[bQ]at hc;split at hc
    .split at hc
     .obtain⟨_,_,e⟩:=ζf.1 hc;cases e
     simp at hc
    obtain⟨_,_,e⟩:=ζf.1 hc;cases e
   | seq a b=>simp only[bQ]at hc;split at hc <;> simp at hc
   | cond x a b=>simp only[bQ]at hc;split at hc <;> simp at hc
   | block id b=>simp only[bQ]at hc;obtain⟨_,_,e⟩:=ζf.1 hc;cases e
   | loop b=>simp only[bQ]at hc;obtain⟨_,_,e⟩:=ζf.1 hc;cases e
   | rangeFunc g ps i Q=>
    simp only[bQ]at hc;split at hc
    .simp at hc
    split at hc <;> simp at hc
   | _=>simp[bQ]at hc
  exact⟨0,F,H,ν,Z,λk _=>this k,r,j,.refl⟩
 | gh x a u=>
  intro ro code hc;simp only[erase]at hc;intro st o e? h J ν Z F H y r j;simp only[cI]at h;obtain⟨z,h1,h2⟩:=ζg.1 h;obtain⟨B,C,g1,g2,g3⟩:=Fix.ghost r y j h1;obtain⟨n,F',H',ν',Z',e1,e2,e3,e4⟩:=u ro code hc z o e? h2 J B C F H (by rw[g3.more,g3.yid];exact y) g1 g2
  exact⟨n,F',H',ν',Z',e1,e2,e3,g3.trans e4⟩
 | hg a x u=>
  intro ro code hc;simp only[erase]at hc;intro st o e? h J ν Z F H y r j;simp only[cI]at h;split at h
  .rename_i z d;obtain⟨st2,h1,e⟩:=ζf.1 h;simp only[ζc]at e;obtain⟨rfl,rfl⟩:=e;obtain⟨n,F',H',ν',Z',e1,e2,e3,e4⟩:=u ro code hc st .norm z d J ν Z F H y r j;obtain⟨B,C,g1,g2,g3⟩:=Fix.ghost e2 (by rw[e4.more,e4.yid];exact y) e3 h1
   exact⟨n,F',H',B,C,e1,g1,g2,e4.trans g3⟩
  exact u ro code hc st o e? h J ν Z F H y r j
end
abbrev sP:=FuncId->aY RF
def E3(E:Env)(f:Y')(az:So)(y:V):Prop:=∃n z H' Z,run E n (.fn f) az []=M (z,H')/\FR H' Z y z/\(∀id,Z id->(bt H' id).isSome=U)/\Deep H' Z
structure uf(S:Sys)(T:sP):Prop where
 fn:∀f rf,T f=some rf->∃fi nm,S.E.ft f=some fi/\(∀g s,nm g=some s->S.N s=g)/\Ao S.E nm fi rf
 AQ:∀f az y,S.AQ f az=some y->E3 S.E f az y
 prm:∀f q,S.prm f=some q->oE S.E f q
def Vc(S:Sys)(f:Y')(m?:Rd)(B:dF):aY (Rd×dF):=
 if S.E.keep f then _p else match c6 m?,B with
  |some az,[]=>(S.AQ f az).map λy=>([.v y],[])|_,_=>_p
def nN(S:Sys)(T:sP):Nat->cg
 |0=>λ_ _ _=>_p|n+1=>λf m? B=>match T f with
  |some rf=>pP S (nN S T n) rf m? B|none=>Vc S f m? B
section
variable{ν ν' ν2:Nu}{Z Z':Nat->Prop}{st e? st2:St}{m m':Tb bE}{F F':WP}{H H' H1:bl}{S:Sys}{c c':cg}{X:CX}{J:JT}{T:sP}
def DS(r:R ν Z st F H){nm:Y'->aY Nat}:∀{B:aX ResultVar}{rs:Ps}{l:Rd},B.mapM (DP S.E)=M rs->kY st rs=M l->∃ys,jm S.E F H B=M ys/\cn ν st.m H Z l ys
 |[],rs,l,hc,h=>by simp at hc;subst hc;simp[kY]at h;subst h;exact⟨[],rfl,.nil⟩|rv::B,rs,l,hc,h=>by simp[ζg]at hc;obtain⟨x,D,ys,G,rfl⟩:=hc;cases rv with|tmp t=>simp[DP]at D;subst D;simp[kY]at h;split at h;(next v I b u=>simp at h;subst h;have⟨w,e1,e2⟩:=DS r (nm:=nm) G u;exact⟨get F t::w,by simp[jm,e1],.cons (r.slot t v b) e2⟩);grind|cell a t=>simp[DP]at D;obtain⟨d,hd,rfl⟩:=D;simp[kY]at h;split at h;rename_i v I b u;simp at h;subst h;have⟨p,J,b⟩:=ζg.1 b;have⟨w,e1,e2⟩:=DS r (nm:=nm) G u;have⟨y,g1,g2⟩:=zF (λs a e=>by cases e) (λkk z ok e=>by cases e) (cn.cons (r.slot a p J) .nil) (λL _ ob C=>r.obj L ob C) b;simp[fS]at g1;exact⟨y::w,by simp[jm,hd,e1,g1],.cons g2 e2⟩;grind
def N0(G:∀f q,S.prm f=M q->oE S.E f q)(j:j7 S c)(J:∀f a b xs,S.items f a b=M xs->fm S f a b xs){f:Y'}{fi:FI}{nm:Y'->aY Nat}{rf:RF}(D:S.E.ft f=M fi)(T:∀g s,nm g=M s->S.N s=g)(k:Ao S.E nm fi rf)
 {m?:Rd}{B:dF}{rs:Rd}{m1:dF}(h:pP S c rf m? B=M (rs,m1)){args:So}(r:R ν Z (start m? B) args H)(A:cn ν B H Z m? args):
 ∃n y H' ν' Z' e? F' ys,run S.E n (.fn f) args H=M (y,H')/\y=result ys/\e?.m=m1/\cn ν' m1 H' Z' rs ys/\R ν' Z' e? F' H'/\Ev (λ_=>False) ν Z (start m? B) H ν' Z' e? H':=by
 have⟨m,z,C⟩:=k;unfold pP at h;split at h
 .have key:∀o e?,cI S c rf.body (start m? B)=M (o,e?)->(∀id,o≠.exit id)->(kY e? rf.rs).map (λrs=>(rs,e?.m))=M (rs,m1)->
   ∃n y H' ν' Z' e? F' ys,run S.E n (.fn f) args H=M (y,H')/\y=result ys/\e?.m=m1/\cn ν' m1 H' Z' rs ys/\R ν' Z' e? F' H'/\Ev (λ_=>False) ν Z (start m? B) H ν' Z' e? H':=λo e? I t w=>by
   have⟨l,d,e⟩:=ζf.1 w;obtain⟨rfl,rfl⟩:=e;have⟨n,F',H',ν',Z',e1,e2,e3,e4⟩:=OR ⟨_k,T,G⟩ j J rf.body O fi.body m _ _ _ I (x8 (fN ν (start m? B).m) Z H) ν Z args H x8.yc r (x8.refl r);have⟨ys,p1,p2⟩:=DS (nm:=nm) e2 z d;have⟨_,L,P,Q,W,X⟩:=e3;refine⟨n+1,result ys,H',ν',Z',e?,F',ys,?_,_k,_k,p2,e2,⟨L,λi d Y p _=>P i d Y p,Q,λi h=>(W i h).imp (λh=>h) .inr,λi h=>(X i h).imp (λh=>h) (.imp (λh=>h) .inr),e4.pin,e4.pins⟩⟩
   have u:_l args<=fi.ntmps:=by rw[<-A.1,<-C];omega
   simp[run,lI,D,L' u,e1 n (y? _)]
   grind
  grind
 grind
def FR.emp{x y:V}(G:∀id,¬Z id)(r:FR H Z x y):x=y:=by
 have B:∀{a w:So},W a=W w->(∀(j:Nat)u v,a[j]?=M u->w[j]?=M v->u=v)->a=w:=λ{a w}h1 z=>by apply List.ext_getElem h1;intro i p q;exact z i _ _ (ζd p) (ζd q)
 induction r with|same x h=>rfl|fsl es C id off D h=>grind|fptr C id el off es D cs h=>grind|clo f a b w I h1 z _ _ i1 i2=>rw[B h1 i1,B z i2]|agg a w h1 _ i1=>grind|tup a w h1 _ i1=>grind
def cn.emp(B:∀id,¬Z id):∀{xs ys:So},cn ν m H Z (xs.map .v) ys->xs=ys
 |[],ys,h=>h.cW.symm|x::xs,ys,h=>by obtain⟨y,ys,rfl,a,D⟩:=h.inv;rw[FR.emp B a.fr,cn.emp B D]
def Em(B:uf S T)(q:∀f a b xs,S.items f a b=M xs->fm S f a b xs):∀n,j7 S (nN S T n)
 |0=>λf m? A rs m1 h=>by simp[nN]at h|n+1=>λf m? A rs m1 h ν Z args H P r D=>by simp[nN]at h;split at h;(next rf G=>have⟨fi,nm,c,g,i⟩:=B.fn f rf G;exact N0 B.prm (Em B q n) q c g i h r D);unfold Vc at h;split at h;simp_all;split at h;rename_i az t;have⟨y,Q,e⟩:=ζf.1 h;obtain⟨rfl,rfl⟩:=e;have⟨k,z,H',X,w,C,I,kE⟩:=B.AQ f az y Q;rcases P with P|rfl;grind;have L:∀id,¬Z id:=λid J=>(by have:=r.zrow id J;simp[bt]at this);have u:=(by rw[xW t]at D;exact(cn.emp L D).symm);subst u;refine⟨k,z,H',⟨λ_=>(0,0),λ_ _=>0⟩,X,⟨[],[],[],[],U,0⟩,[],[z],w,Y,Y,cn.cons (.v y z C) .nil,?_,?_⟩;exact⟨λs sv h=>by simp[bk]at h,λd ob h=>by simp[bk]at h,λd l ob m j o h=>by simp[bk]at h,λd ob j h=>by simp[bk]at h,I,kE⟩;exact⟨Nat.zero_le _,λid h=>p?,λid h=>_e h (L id),λid h=>h?,λid h=>.inr (.inr (.inr (Nat.zero_le _))),λd h=>by simp[start]at h,Y⟩;grind
abbrev P9:=aX ((FuncId×aX SV×dF)×(aX SV×dF))
def FY(c:cg)(L:P9):Prop:=∀p∈L,c p.1.1 p.1.2.1 p.1.2.2=M p.2
def Fin{α:Type}(c:cg)(f:cg->aY α)(r:α):Prop:=∃L:P9,FY c L/\∀c',FY c' L->f c'=M r
def Fin.pure{α:Type}{f:cg->aY α}{r:α}(h:∀c',f c'=M r):Fin c f r:=⟨[],λp u=>p?,λc' _=>h c'⟩
def Fin.bind{α β:Type}{f:cg->aY α}{r:α}{g:cg->aY β}{q:β}(b:Fin c f r)(B:cg->α->aY β)(D:Fin c (λc=>B c r) q)(d:∀c',f c'=M r->g c'=B c' r):Fin c g q:=by have⟨w,a1,z⟩:=b;have⟨C,a2,G⟩:=D;refine⟨w++C,λp u=>(List.mem_append.1 u).elim (a1 p) (a2 p),λc' a=>?_⟩;rw[d c' (z c' λp u=>a p (List.mem_append_left _ u))];exact G c' λp u=>a p (List.mem_append_right _ u)
def Fin.call{f:Y'}{m?:Rd}{B:dF}{r:Rd×dF}(h:c f m? B=M r):Fin c (λc=>c f m? B) r:=⟨[((f,m?,B),r)],λp u=>h?,λc' a=>a ((f,m?,B),r) f?⟩
def Jf{dst:aY Nat}{dr now:X'}{old:Rd->X'}{f:Y'}{args:Rd}{r:SV×St}(h:fD S c dst dr now old f args st=M r):Fin c (λc=>fD S c dst dr now old f args st) r:=by have w:=h;unfold fD at h;split at h;split at h;split at h;split at h;split at h;rename_i rs m' a;refine(Fin.call a).bind (λc' q=>fD S c dst dr now old f args st) (.pure λ_=>w) (λc' u=>?_);unfold fD;grind;grind;grind;rename_i z;split at h;rename_i q B;refine .pure λc'=>?_;unfold fD;simp_all;rename_i B;split at h;rename_i os G;split at h;rename_i rs m' a;refine(Fin.call a).bind (λc' q=>fD S c dst dr now old f args st) (.pure λ_=>w) (λc' u=>?_);unfold fD;clear h w;simp[*];grind;grind;split at h;split at h;split at h;rename_i rs m' a;refine(Fin.call a).bind (λc' q=>fD S c dst dr now old f args st) (.pure λ_=>w) (λc' u=>?_);unfold fD;simp_all;grind;grind;grind;rename_i b;split at h;rename_i az C;split at h;rename_i D;split at h;rename_i rs m' a;refine(Fin.call a).bind (λc' q=>fD S c dst dr now old f args st) (.pure λ_=>w) (λc' u=>?_);unfold fD;simp[b,C,D,a,u];grind;grind;grind
def YK{dr:X'}{fr:ST}{o:RO}{r:SV×St}(h:oa S c dr fr o st=M r):Fin c (λc=>oa S c dr fr o st) r:=by have w:=h;unfold oa at h;split at h;rename_i B u;split at h;refine .pure λc'=>?_;have a:=w;unfold oa at a⊢;rename_i b;simp only[u,b]at a⊢;exact a;refine .pure λc'=>?_;have a:=w;unfold oa at a⊢;rename_i C b;simp only[u,b]at a⊢;exact a;refine .pure λc'=>?_;have a:=w;unfold oa at a⊢;rename_i b;simp only[u,b]at a⊢;exact a;refine .pure λc'=>?_;have a:=w;unfold oa at a⊢;rename_i b;simp only[u,b]at a⊢;exact a;refine .pure λc'=>?_;have a:=w;unfold oa at a⊢;rename_i b;simp only[u,b]at a⊢;exact a;rename_i b;split at h;refine(Jf h).bind (λ_ q=>M q) (.pure λ_=>rfl) (λc' z=>?_);unfold oa;simp only[u,b,z];refine(Jf h).bind (λ_ q=>M q) (.pure λ_=>rfl) (λc' z=>?_);unfold oa;simp only[u,b,z];simp at h;refine .pure λc'=>?_;have a:=w;unfold oa at a⊢;rename_i b;simp only[u,b]at a⊢;exact a;refine .pure λc'=>?_;have a:=w;unfold oa at a⊢;rename_i b;simp only[u,b]at a⊢;exact a;simp at h
def ZC{dr:X'}{fr:ST}{o:RO}{r:St}(h:gz S c dr fr o st=M r):Fin c (λc=>gz S c dr fr o st) r:=by unfold gz at h;split at h;split at h;refine .pure λc'=>?_;unfold gz;grind;have⟨q,u,e⟩:=ζf.1 h;refine(YK u).bind (λ_ q=>M (cQ q.2 o.dst q.1)) (.pure λ_=>p?) (λc' w=>?_);unfold gz;grind;refine .pure λc'=>?_;unfold gz;grind;grind
def Fz{dr:X'}:∀{l:R0}{fr:ST}{st r:St},pS S c dr fr l st=M r->Fin c (λc=>pS S c dr fr l st) r
 |[],fr,st,r,h=>.pure λ_=>h|o::l,fr,st,r,h=>by simp[pS]at h;split at h;(next D B=>have⟨G,a,B⟩:=ζg.1 B;exact(ZC B).bind (λc' q=>pS S c' dr (if dr then tW fr o.strip else fr) l (su o.dead q)) (Fz h) (λc' u=>by simp[pS,a,u]));grind
def JG{f:cg->St->aY (Out×St)}(D:∀st r,f c st=M r->Fin c (λc=>f c st) r):∀{k:Nat}{st:St}{r:Out×St},kR (f c) k st=M r->Fin c (λc=>kR (f c) k st) r
 |0,st,r,h=>by simp[kR]at h|k+1,st,r,h=>by simp[kR]at h;split at h;(next G J=>exact(D st _ J).bind (λc' q=>kR (f c') k G) (JG D h) (λc' B=>by simp[kR,B]));refine(D st r h).bind (λ_ q=>M q) (.pure λ_=>rfl) (λc' B=>?_);simp[kR,B];grind
def Iu{f:cg->So->Tb bE->aY (Out×Tb bE)}(D:∀x m r,f c x m=M r->Fin c (λc=>f c x m) r):∀{xs:S'}{m:Tb bE}{r:Out×Tb bE},tA (f c) xs m=M r->Fin c (λc=>tA (f c) xs m) r
 |[],m,r,h=>.pure λ_=>h|x::xs,m,r,h=>by simp[tA]at h;split at h;(next m1 G=>exact(D x m _ G).bind (λc' q=>tA (f c') xs m1) (Iu D h) (λc' B=>by simp[tA,B]));refine(D x m r h).bind (λ_ q=>M q) (.pure λ_=>rfl) (λc' B=>?_);simp[tA,B];grind
def Tv:∀{d:RC}{st:St}{r:Out×St},cI S c d st=M r->Fin c (λc=>cI S c d st) r:=by intro d;induction d with|skip=>exactλh=>.pure λ_=>h|exit id=>exactλh=>.pure λ_=>h|ret=>exactλh=>.pure λ_=>h|ops l=>intro st r h;simp only[cI]at h⊢;have⟨q,G,e⟩:=ζf.1 h;exact(Fz G).bind (λ_ q=>M (.norm,q)) (.pure λ_=>p?) (λc' w=>h?)|vm l=>intro st r h;simp only[cI]at h⊢;have⟨q,G,e⟩:=ζf.1 h;exact(Fz G).bind (λ_ q=>M (.norm,q)) (.pure λ_=>p?) (λc' w=>h?)|seq a b u C=>intro st r h;simp[cI]at h⊢;split at h;(next B D=>exact(u D).bind (λc' q=>cI S c' b B) (C h) (λc' w=>h?));rename_i D;refine(u h).bind (λ_ q=>M q) (.pure λ_=>rfl) (λc' w=>?_);grind|cond x a b u C=>intro st r h;simp[cI]at h⊢;grind|block id a u=>intro st r h;simp[cI]at h⊢;split at h;(next I B D=>exact(u D).bind (λc' q=>if I=id then M (.norm,B)else M (.exit I,B)) (.pure λ_=>h) (λc' w=>h?));refine(u h).bind (λ_ q=>M q) (.pure λ_=>rfl) (λc' w=>?_);grind|loop a u=>intro st r h;have⟨k,j⟩:=pn.1 h;refine(JG (λst r h=>u h) j).bind (λ_ q=>M q) (.pure λ_=>rfl) (λc' w=>?_);exact pn.2 ⟨k,w⟩|each g ps a b u C=>intro st r h;simp only[cI]at h⊢;split at h;split at h;have⟨q,G,e⟩:=ζf.1 h;refine(Iu (f:=λc=>kf ps (cI S c a) (cI S c b) st) (λz m r h=>?_) G).bind (λ_ q=>M (q.1,{st with m:=q.2})) (.pure λ_=>p?) (λc' w=>h?);unfold kf at h;split at h;split at h;rename_i B i;have⟨L,J,e2⟩:=ζf.1 h;refine(u i).bind (λc' q=>(cI S c' b B).map λ(o,st2)=>(o,st2.m)) ((C J).bind (λ_ q=>M (q.1,q.2.m)) (.pure λ_=>p?) (λc' w=>h?)) (λc' w=>?_);unfold kf;grind;grind;grind;grind;grind|gh x a u=>intro st r h;simp[cI]at h⊢;have⟨B,i,t⟩:=ζg.1 h;grind|hg a x u=>intro st r h;simp[cI]at h⊢;split at h;(next B D=>exact(u D).bind (λc' q=>(ghost x B).map λst=>(.norm,st)) (.pure λ_=>h) (λc' w=>h?));refine(u h).bind (λ_ q=>M q) (.pure λ_=>rfl) (λc' w=>?_);grind
def Co{rf:RF}{m?:Rd}{B:dF}{r:Rd×dF}(h:pP S c rf m? B=M r):Fin c (λc=>pP S c rf m? B) r:=by have u:=h;unfold pP at h;split at h;split at h;simp_all;rename_i o st w z;refine(Tv z).bind (λc' q=>pP S c rf m? B) (.pure λ_=>u) (λc' C=>?_);unfold pP;grind;grind;grind
def GA:∀{n:Nat}{f:Y'}{m?:Rd}{B:dF}{r:Rd×dF},nN S T n f m? B=M r->nN S T (n+1) f m? B=M r
 |0,f,m?,B,r,h=>by simp[nN]at h|n+1,f,m?,B,r,h=>by simp[nN]at h;rw[nN];split at h;(next rf D=>have⟨L,a,G⟩:=Co h;simp[D];exact G _ λp u=>GA (a p u));grind
def Fe{n k:Nat}(h:n<=k){f:Y'}{m?:Rd}{B:dF}{r:Rd×dF}(D:nN S T n f m? B=M r):nN S T k f m? B=M r:=by induction h with|refl=>omega|step _ u=>exact GA u
open Classical in
def dg(S:Sys)(T:sP):cg:=λf u w=>if h:∃n r,nN S T n f u w=M r then M (Classical.choose (S? h))else _p
def uR{f:Y'}{m?:Rd}{B:dF}{r:Rd×dF}:dg S T f m? B=M r↔∃n,nN S T n f m? B=M r:=by unfold dg;constructor;intro h;split at h;grind;grind;rintro⟨k,a⟩;have u:∃n r,nN S T n f m? B=M r:=⟨k,r,a⟩;have w:=S? (S? u);have z:=Fe (l! (Classical.choose u) k) w;have C:=Fe (j! (Classical.choose u) k) a;grind
def QE{L:P9}(h:FY (dg S T) L):∃n,∀k,n<=k->FY (nN S T k) L:=by induction L with|nil=>exact⟨0,λk _ p hp=>p?⟩|cons q L u=>have⟨w,b⟩:=uR.1 (h q f?);have⟨z,B⟩:=u λp hp=>h p (List.mem_cons_of_mem _ hp);refine⟨max w z,λk a p hp=>?_⟩;rcases List.mem_cons.1 hp with rfl|hp;exact Fe (W? (l! _ _) a) b;exact B k (W? (j! _ _) a) p hp
def Jc{f:Y'}{az:So}{y:V}(B:T f=_p)(b:S.E.keep f=O)(h:S.AQ f az=M y):dg S T f (az.map .v) []=M ([.v y],[]):=by
 refine uR.2 ⟨1,?_⟩;have u:c6 (az.map .v)=M az:=by clear h;induction az with|nil=>rfl|cons a l w=>simp only[List.map_cons,c6,w];rfl
 simp only[nN,B,Vc,b,u,h];rfl
def uB{f:Y'}{rf:RF}(D:T f=M rf)(m?:Rd)(B:dF):dg S T f m? B=pP S (dg S T) rf m? B:=by cases h:pP S (dg S T) rf m? B with|some r=>have⟨L,a,w⟩:=Co h;have⟨n,u⟩:=QE a;refine uR.2 ⟨n+1,?_⟩;simp[nN,D];grind|none=>cases w:dg S T f m? B with|none=>rfl|some r=>have⟨n,u⟩:=uR.1 w;cases n with|zero=>simp[nN]at u|succ n=>simp[nN,D]at u;have⟨L,z,C⟩:=Co u;have I:=C (dg S T) λp G=>uR.2 ⟨n,z p G⟩;grind
def Az(B:uf S T)(D:∀f a b xs,S.items f a b=M xs->fm S f a b xs):j7 S (dg S T):=λf u w rs z h=>by have⟨n,C⟩:=uR.1 h;exact Em B D n f u w rs z C
def N8(b__:∀f q,S.prm f=M q->oE S.E f q)(l:j7 S c){f:Y'}{fi:FI}{nm:Y'->aY Nat}{rf:RF}(W:∀f a b xs,S.items f a b=M xs->fm S f a b xs)(D:S.E.ft f=M fi)(Y:∀g s,nm g=M s->S.N s=g)(p:Ao S.E nm fi rf){a b:So}{xs:S'}
 (T:_l a+1+_l b<=rf.na)(G:rf.rs=[])
 (h:∀B more,(more=U/\B=xs\/more=O/\B≠[]/\∃r,xs=B++r)->∀yid,∃o e?,cI S c rf.body {g:=yf 0 (a.map .v++.yl yid::b.map .v),m:=[],pin:=[],want:=B,more:=more,yid:=yid}=M (o,e?)/\(∀id,o≠.exit id)/\e?.want=[]/\e?.m=e?.m):
 fm S f a b xs:=by
 intro B more c__ yid J y Z z C H Q X t hd j;have⟨o,e?,v,F,x,_⟩:=h B more c__ yid;have⟨A,w,I⟩:=p;have L:cn ⟨λ_=>(0,0),λ_ _=>0⟩ [] H Z (a.map .v++.yl yid::b.map .v) (z++.yld yid::C):=(cn.tv Q).append (.cons (.yl yid) (cn.tv X))
 have E:R ⟨λ_=>(0,0),λ_ _=>0⟩ Z {g:=yf 0 (a.map .v++.yl yid::b.map .v),m:=[],pin:=[],want:=B,more:=more,yid:=yid} (z++.yld yid::C) H:=⟨AB L,λd ob h=>by simp[bk]at h,λd K ob a__ j N h=>by simp[bk]at h,λd ob j h=>by simp[bk]at h,t,hd⟩
 have⟨n,F',H',ν',Z',e1,e2,e3,e4⟩:=OR ⟨_k,Y,b__⟩ l W rf.body O fi.body A _ _ _ v J _ Z _ H y E (by
  refine y.zK _ _ _ _ _ _ _ j (y? _) (λ_ _ _ _=>rfl) (λi e=>⟨e,_k⟩) (λi e=>?_) (λi e=>.inl e)
  have⟨d,ob,j,h,_⟩:=e;simp[bk]at h)
 rw[x]at e3;rw[G]at w;have⟨ys,p1,p2⟩:=DS (nm:=nm) e2 w _k;refine⟨n+1,result ys,H',_,Z',λk P=>?_,e3⟩
 have u:_l (z++V.yld yid::C)<=fi.ntmps:=by rw[<-L.1,<-I];simp;omega
 cases k with
 |zero=>omega|succ k=>
  simp[run,lI,D,L' u,e1 k c?]
  grind
def ZO(B:uf S T)(D:∀f a b xs,S.items f a b=M xs->fm S f a b xs){f:Y'}{az:So}(d:V.cT az=U){y:V}{m':dF}(h:dg S T f (az.map .v) []=M ([.v y],m'))(G:y.scalar=U):
 ∃n H',run S.E n (.fn f) az []=M (y,H'):=by
 have⟨u,r1⟩:=Dh d;obtain⟨n,I,H2,ν',Z',e?,F',w,c,rfl,J,C,L,_⟩:=Az B D f _ _ _ _ h _ _ az [] (.inr Y) u r1;obtain⟨z,w,rfl,e1,e2⟩:=C.inv;rw[e2.cW]at c;have:=(e1.fr.scalar).1 G;subst this;exact⟨n,H2,c⟩
end
end Go.VE
