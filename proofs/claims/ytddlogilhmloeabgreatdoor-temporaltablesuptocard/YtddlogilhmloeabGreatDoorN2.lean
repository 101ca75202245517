/- Objects, calls. -/
import Derived.Test.YtddlogilhmloeabGreatDoorN1
set_option linter.all false
open Option renaming some→M,some→_k,none→J,none→_q,bind→H,bind→_o
open Bool renaming true→U,true→_n,false→O,false→_p
open Decidable renaming decide→_s
open List renaming length→W,length→_m
open Go.IntKind renaming i64→N,i64→_r
open Option renaming map_some→A?
open Bool renaming false_eq_true→v?,or_eq_true→p!
open Nat renaming le_max_left→k!,le_max_right→i!,le_refl→x?,le_trans→V?
open Classical renaming choose_spec→S?
noncomputable section
open Nat(le)
open Nat(le)
open Nat(le)
open Nat(le)
namespace Go.VE
variable[b7]
def ij(N:Nat->Y')(g:Tb SV)(o:RO):aX (Nat×SW):=
 match o.k,b9 N g o.az with
 |.c,M (.yl id::u)=>M (id,u)|_,_=>_q
open Classical in
def gT(S:Sys)(c:b_)(dr:X')(fr:ST)(o:RO)(st:St):aX St:=
 match wanted st.g o.gd with
 |some U=>match ij S.N st.g o with
  |some (id,z)=>if dr then _q else match dG z,st.want with
   |some B,w::u=>if B=w/\id=st.yid then M (dA {st with want:=u} o.dst (.v (.bool (st.more|| !u.isEmpty))))else _q|_,_=>_q
  |none=>(ox S c dr fr o st).map λ(x,e?)=>dA e? o.dst x
 |some O=>M (dA st o.dst (.v .undef))|none=>_q
def RO.strip(o:RO):RO:={o with dead:=[],pre:=[]}
def rN:Pi->St->aX St
 |[],st=>M st|x::r,st=>_o (ghost x st) (rN r)
def Dw:Gh->X'
 |.keep ..=>U|.drop _=>U|_=>O
def Fh(dr:X')(l:Pi)(st:St):aX St:=if dr then(if l.all Dw then rN l st else _q)else rN l st
def su(ds:ST)(st:St):St:={st with g:=sj ds st.g}
def qf(S:Sys)(c:b_)(dr:X'):ST->R0->St->aX St
 |_,[],st=>M st|fr,o::r,st=>match(Fh dr o.pre st).bind (gT S c dr fr o.strip)with
  |some e?=>qf S c dr (if dr then tX fr o.strip else fr) r (su o.dead e?)|none=>_q
abbrev JT:=aY (aY V)->(Nat->Prop)->(Nat->Prop)->bt->Prop
structure Yc(S:Sys)(J:JT)(more:Bool)(yid:Nat):Prop where
 zG:∀w O Z H O' Z' H',J w O Z H->H.length<=H'.length->(∀i,i<H.length->¬O i->¬Z i->H'[i]?=H[i]?)->(∀i,Z i->Z' i/\bz H' i=bz H i)->
  (∀i,O' i->O i\/H.length<=i)->(∀i,Z' i->Z i\/O i\/H.length<=i)->J w O' Z' H'
 yield:∀x ws O Z H args,J (x::ws) O Z H->dL H Z x args->(∀i,Z i->(bz H i).isSome=true)->Deep H Z->(∀i,O i->¬Z i/\i<H.length)->
  ∃n H',run S.E n (.yld yid) args H=some (.bool (more|| !ws.isEmpty),H')/\J ws O Z H'/\H.length<=H'.length/\(∀i,O i->H'[i]?=H[i]?)/\(∀i,Z i->bz H' i=bz H i)
structure Fix(ν:Nu)(st:St)(ν':Nu)(e?:St):Prop where
 pin:∀d∈st.pin,∀l?,bk e?.m d=some l?->∃ob,bk st.m d=some ob/\ν' d=ν d/\sameShape ob l?
 pins:e?.pin=st.pin
 more:e?.more=st.more
 yid:e?.yid=st.yid
section
variable{Rv:Nat->Prop}{ν ν' ν2:Nu}{Z Z':Nat->Prop}{st e? st2:St}{m m':Tb bG}{F F':WP}{H H' H1:bt}{S:Sys}{c:b_}{X:CX}{J:JT}
def Fix.refl:Fix ν st ν st:=⟨λ_ _ u h=>⟨u,h,Y,.refl _⟩,Y,Y,Y⟩
def Fix.trans(a:Fix ν st ν' e?)(b:Fix ν' e? ν2 st2):Fix ν st ν2 st2:=
 ⟨λd hd u h=>by
  have⟨w,c,B,z⟩:=b.pin d (by rw[a.pins];omega) u h
  have⟨ob,k1,k2,k3⟩:=a.pin d hd w c;exact⟨ob,k1,o?,k3.trans z⟩,by rw[b.pins,a.pins],by rw[b.more,a.more],by rw[b.yid,a.yid]⟩
def Ev.beside(y:Yc S J st.more st.yid)(a:Ev (λ_=>False) ν Z st H ν' Z' e? H')(B:e?.want=st.want)(j:J st.want (gj ν st.m) Z H):J e?.want (gj ν' e?.m) Z' H':=by
 rw[B];exact y.zG _ _ _ _ _ _ _ j a.len (λi b u w=>a.same i b u w (λh=>h)) a.rows (λi h=>(a.own i h).imp (λh=>h) (λh=>h.elim (λh=>h.elim) (λh=>h)))
  (λi h=>(a.frz i h).imp (λh=>h) (λh=>h.imp (λh=>h) (λh=>h.elim (λh=>h.elim) (λh=>h))))
def yH(D:∀s sv,bk st.g s=M sv->di ν m H Z sv (get F s)){ops:QP}{o:Oper}{gd:aX (Nat×X')}(a:EK ops o=M gd){t:X'}(B:wanted st.g gd=M t):iA ops F o=t:=by unfold EK at a;unfold iA;cases u:o.guard with|none=>rw[u]at a;simp at a;simp[wanted]at B;grind|some C=>rw[u]at a;obtain⟨d,hd,rfl⟩:=ζf.1 a;simp[hd];simp[wanted]at B;split at B;(next c b=>simp at B;subst B;rw[(D d _ b).fr.bool]);rename_i x G b;simp at B;subst B;have w:=(D d _ b).fr;split;rename_i c z;rw[z]at w;cases w;grind;rfl;grind
def Jb{dst:aX Nat}{size:Nat}{s x sv:SV}(h:Cs st dst size s x=M (sv,e?)):e?.want=st.want/\e?.pin=st.pin/\e?.more=st.more/\e?.yid=st.yid:=by unfold Cs at h;dsimp only at h;(repeat' split at h)<;>cases h;exact⟨Y,Y,Y,Y⟩
def Qb{x:Gh}(h:ghost x st=M e?):e?.want=st.want/\e?.more=st.more/\e?.yid=st.yid:=by
 unfold Go.VE.ghost Dx DJ HV at h;(repeat' split at h)<;>first|grind|skip
 all_goals
  unfold DV at h;split at h
  .split at h
   .have⟨_,_,h⟩:=ζg.1 h;obtain⟨_,_,rfl⟩:=ζf.1 h;exact⟨Y,Y,Y⟩
   cases h
  .cases h;exact⟨Y,Y,Y⟩
  cases h
def S9{q:JW}{dst:aX Nat}{args:SW}{sv:SV}(h:Fu q dst args st=M (sv,e?)):e?.want=st.want/\e?.pin=st.pin/\e?.more=st.more/\e?.yid=st.yid:=by unfold Fu at h;grind
def Uv{dr:X'}{fr:ST}{ro:RO}{sv:SV}(h:ox S c dr fr ro st=M (sv,e?)):e?.want=st.want/\e?.pin=st.pin/\e?.more=st.more/\e?.yid=st.yid:=by
 unfold ox at h;split at h
 .split at h;split at h;split at h;simp at h;unfold Di at h;split at h;split at h;have⟨_,_,h⟩:=ζg.1 h;have⟨_,_,h⟩:=ζg.1 h;dsimp only at h;split at h;simp only[ζa,ζc]at h;obtain⟨_,rfl⟩:=h;exact⟨Y,Y,Y,Y⟩;simp at h;simp at h;simp at h;have⟨_,_,e⟩:=ζf.1 h;simp only[ζc]at e;obtain⟨_,rfl⟩:=e;exact⟨Y,Y,Y,Y⟩;have⟨_,_,e⟩:=ζf.1 h;simp only[ζc]at e;obtain⟨_,rfl⟩:=e;exact⟨Y,Y,Y,Y⟩;split at h;have⟨_,_,e⟩:=ζf.1 h;simp only[ζc]at e;obtain⟨_,rfl⟩:=e;exact⟨Y,Y,Y,Y⟩;simp at h;split at h;split at h;have⟨_,_,e⟩:=ζf.1 h;simp only[ζc]at e;obtain⟨_,rfl⟩:=e;exact⟨Y,Y,Y,Y⟩;simp at h;simp at h
  .split at h
   .unfold mO at h;((repeat' split at h)<;>first|exact Jb h|(simp at h;done)|(simp only[ζa,ζc]at h;obtain⟨_,rfl⟩:=h;exact⟨Y,Y,Y,Y⟩)|(have⟨_,_,e⟩:=ζf.1 h;simp only[ζc]at e;obtain⟨_,rfl⟩:=e;exact⟨Y,Y,Y,Y⟩)|skip);dsimp only at h;(repeat' split at h)<;>first|(simp at h;done)|(simp only[ζa,ζc]at h;obtain⟨_,rfl⟩:=h;exact⟨Y,Y,Y,Y⟩)
   simp at h
  .have hc:∀{dst dr now old f args},e_ S c dst dr now old f args st=M (sv,e?)->e?.want=st.want/\e?.pin=st.pin/\e?.more=st.more/\e?.yid=st.yid:=(by intro dst dr now old f args h;unfold e_ at h;(repeat' split at h)<;>first|exact S9 h|(have⟨_,_,e⟩:=ζf.1 h;simp only[ζc]at e;obtain⟨_,rfl⟩:=e;exact⟨Y,Y,Y,Y⟩)|(simp at h;done)|(simp only[ζa,ζc]at h;obtain⟨_,rfl⟩:=h;exact⟨Y,Y,Y,Y⟩));split at h;exact hc h;exact hc h;simp at h
  split at h;simp at h;split at h;have⟨_,_,h⟩:=ζg.1 h;have⟨_,_,e⟩:=ζf.1 h;simp only[ζc]at e;obtain⟨_,rfl⟩:=e;exact⟨Y,Y,Y,Y⟩;simp at h;have w:∀{dst l u},mO st dst l u=M (sv,e?)->e?.want=st.want/\e?.pin=st.pin/\e?.more=st.more/\e?.yid=st.yid:=by intro dst l u h;unfold mO at h;((repeat' split at h)<;>first|exact Jb h|(simp at h;done)|(simp only[ζa,ζc]at h;obtain⟨_,rfl⟩:=h;exact⟨Y,Y,Y,Y⟩)|(have⟨_,_,e⟩:=ζf.1 h;simp only[ζc]at e;obtain⟨_,rfl⟩:=e;exact⟨Y,Y,Y,Y⟩)|skip);all_goals (dsimp only at h;(repeat' split at h)<;>first|(simp at h;done)|(simp only[ζa,ζc]at h;obtain⟨_,rfl⟩:=h;exact⟨Y,Y,Y,Y⟩))
  split at h;exact w h;exact w h;simp at h
 simp at h
def DG(r:R ν Z st F H){a:Nat}{dst:aX Nat}(hd:Bq a dst=U){sv:SV}{y:V}(h:di ν st.m H Z sv y):∃F',lY a F dst y=M F'/\R ν Z (dA st dst sv) F' H:=by cases dst with|none=>exact⟨F,rfl,r⟩|some d=>have:=(by simpa[Bq]using hd);exact⟨set F d y,by simp[lY,L' this],r.put h⟩
def GH(st:St)(dst:aX Nat)(sv:SV):(dA st dst sv).m=st.m/\(dA st dst sv).want=st.want/\(dA st dst sv).pin=st.pin/\(dA st dst sv).more=st.more/\(dA st dst sv).yid=st.yid:=by cases dst<;>exact⟨Y,Y,Y,Y,Y⟩
def OV(gd:Good X S)(m:kz S c){ops:QP}{place:aX (Nat×Nat)}{dr:X'}{fr:ST}{i:Nat}(G:dr=place.isSome)(hi:∀b j,place=M (b,j)->j=i)
 (a:∀b j,place=M (b,j)->b<=_m H/\Old b fr ν Z st.m)
 {o:Oper}{ro:RO}(f:oV X dr ops i o=M ro)(J:∀b j,place=M (b,j)->ops[j]?=M o)(D:∀b j,place=M (b,j)->c7 o.op=.alloc->H[b+j]?=M .free)
 (r:R ν Z st F H)(B:ij S.N st.g ro=_q\/dr=U)(h:gT S c dr fr ro st=M e?):
 ∃n F' H' ν' Z',(∀k,n<=k->iY S.E (run S.E k) X.nt ops place o F H=M (F',H'))/\R ν' Z' e? F' H'/\Ev (λid=>∃b j,place=M (b,j)/\id=b+j) ν Z st H ν' Z' e? H'/\
  (dr=U->Z'=Z/\Kept (Bl ro) ν st.m ν' e?.m)/\e?.want=st.want/\Fix ν st ν' e?:=by
 have I:=f;obtain⟨u,g,now,k,az,l,rfl⟩:=Hr f;unfold gT at h;split at h
 .rename_i L;have w:=yH r.slot l L;have t:(ox S c dr fr ⟨o.dst,g,now,k,az,[],[]⟩ st).map (λ(x,e?)=>dA e? o.dst x)=M e?:=by
   split at h
   .rename_i id vs C;rcases B with B|B
    .rw[B]at C;cases C
    subst B;simp at h
   exact h
  obtain⟨⟨x,A⟩,hd,rfl⟩:=ζf.1 t;have⟨n,y,H',ν',Z',e1,e2,e3,e4,e5⟩:=abu gd m G hi a I J D r hd;have⟨W,T,P,p⟩:=Uv hd;have⟨F',e,Q⟩:=DG e2 u e3;have⟨p1,p2,p3,p4,p5⟩:=GH A o.dst x;refine⟨n,F',H',ν',Z',λk q=>?_,Q,?_,λhd=>⟨(e5 hd).1,by rw[p1];exact(e5 hd).2⟩,by rw[p2,W],⟨λd hd=>by rw[p1];exact e4.pin d hd,by rw[p3,T],by rw[p4,P],by rw[p5,p]⟩⟩
  .unfold iY;simp only[w,N',e1 k q,e,A?]
  exact⟨e4.len,e4.same,e4.rows,λid h=>e4.own id (by rw[p1]at h;exact h),e4.frz,λd hd=>by rw[p1];exact e4.pin d hd,by rw[p3,T]⟩
 .rename_i L;have w:=yH r.slot l L;simp only[ζa]at h;subst h;have⟨F',e,Q⟩:=DG r u (.v V.undef V.undef (.same _ Y));have⟨p1,p2,p3,p4,p5⟩:=GH st o.dst (.v .undef);refine⟨0,F',H,ν,Z,λk _=>?_,Q,?_,λ_=>⟨Y,by rw[p1];exact .refl⟩,p2,⟨λd hd=>by rw[p1];exactλz h=>⟨z,h,Y,.refl _⟩,p3,p4,p5⟩⟩
  .unfold iY;simp only[w,v?,_a,e,A?]
  exact⟨x? _,λ_ _ _ _ _=>rfl,λ_ h=>⟨h,Y⟩,λ_ h=>.inl (by rw[p1]at h;exact h),λ_ h=>.inl h,λd hd=>by rw[p1];exactλz h=>⟨z,h,Y,.refl _⟩,p3⟩
 simp at h
def Wv(gd:Good X S)(y:Yc S J st.more st.yid){ops:QP}{fr:ST}{i:Nat}{o:Oper}{ro:RO}(a:oV X O ops i o=M ro)
 (r:R ν Z st F H)(j:J st.want (gj ν st.m) Z H){id:Nat}{vs:SW}(B:ij S.N st.g ro=M (id,vs))(D:wanted st.g ro.gd=M U)(h:gT S c O fr ro st=M e?):
 ∃n F' H',(∀k,n<=k->iY S.E (run S.E k) X.nt ops _q o F H=M (F',H'))/\R ν Z e? F' H'/\J e?.want (gj ν e?.m) Z H'/\Fix ν st ν e?:=by
 unfold oV at a;simp only[Bool.false_and,v?,_a,Bool.not_false,Bool.and_true]at a;split at a
 .rename_i C;split at a
  .rename_i g k os hg hr;split at a
   .obtain⟨az,P,rfl⟩:=ζf.1 a;unfold gT at h;simp only at D;have L:=yH r.slot hg D;rw[D]at h;simp only[B,v?,_a]at h;unfold ij at B;split at B
    .rename_i W Y b G;simp only[ζa,ζc]at B;obtain⟨rfl,rfl⟩:=B;simp only at b G;subst b;have⟨ys,a__,rs⟩:=rA gd.N r.slot P G;have⟨g1,A,E,e1,e2⟩:=kY gd.N hr a__;have⟨w,K,e,r1,r2⟩:=rs.inv;rw[e]at e1;simp only[List.cons.injEq]at e1;obtain⟨rfl,rfl⟩:=e1;cases r1;simp only at e2;split at h
     .rename_i xs x I hx u;split at h
      .rename_i z;obtain⟨rfl,rfl⟩:=z;simp only[ζa]at h;subst h;rw[u]at j;have⟨n,H',p1,p2,p3,p4,p5⟩:=y.yield _ _ _ _ _ _ j (r2.dG hx) r.zrow r.deep (λi hi=>⟨by obtain⟨d,ob,j,f,l,rfl⟩:=hi;exact r.apart d ob j f l,r.lt hi⟩)
       have r3:R ν Z st F H':=r.heap p4 p5;have r4:R ν Z {st with want:=I} F H':=⟨r3.slot,r3.obj,r3.inj,r3.apart,r3.zrow,r3.deep⟩;have⟨F',m,p⟩:=DG (st:={st with want:=I}) r4 C (sv:=.v (.bool (st.more|| !I.isEmpty))) (.v _ _ (.same _ _l));have⟨T,q,s,t,v⟩:=GH {st with want:=I} o.dst (.v (.bool (st.more|| !I.isEmpty)));refine⟨n,F',H',λk b=>?_,p,by rw[T,q];exact p2,⟨λd hd=>by rw[T];exactλQ h=>⟨Q,h,_l,.refl _⟩,s,t,v⟩⟩
       unfold iY dw;rw[g1,e2];simp only[L,N',(rL S.E b).go _ _ _ _ p1,m,A?]
      simp at h
     simp at h
    simp at B
   simp at a
  simp at a
 simp at a
def nJ(X:CX)(B:X')(ops:QP):Nat->QP->aX R0
 |_,[]=>M []|i,o::r=>match oV X B ops i o,nJ X B ops (i+1) r with
  |some ro,M rs=>M (ro::rs)|_,_=>_q
def R.Br(r:R ν Z st F H)(ds:ST):R ν Z (su ds st) F H:=r.less (λs w u=>qZ u) (λd ob hd=>hd)
def Fix.Br{ds:ST}(f:Fix ν (su ds st) ν' e?):Fix ν st ν' e?:=⟨f.pin,f.pins,f.more,f.yid⟩
def Fix.ghost(r:R ν Z st F H)(y:Yc S J st.more st.yid)(j:J st.want (gj ν st.m) Z H){x:Gh}(h:ghost x st=M e?):∃ν' Z',R ν' Z' e? F H/\J e?.want (gj ν' e?.m) Z' H/\Fix ν st ν' e?:=by have⟨ν',Z',a,u⟩:=V2 (Rv:=λ_=>False) r h;have w:=Qb h;exact⟨ν',Z',a,u.beside y w.1 j,⟨u.pin,u.pins,w.2.1,w.2.2⟩⟩
def Fix.quiet(r:R ν Z st F H):∀{l:Pi}{e?:St},l.all Dw=U->Go.VE.rN l st=M e?->R ν Z e? F H/\Ev Rv ν Z st H ν Z e? H/\e?.want=st.want/\Fix ν st ν e?/\∀d ob,bk e?.m d=M ob->bk st.m d=M ob:=by intro l;induction l generalizing st with|nil=>intro e? _ h;simp[Go.VE.rN]at h;subst h;exact⟨r,.refl,rfl,.refl,λ_ _ h=>h⟩|cons x l C=>intro e? z h;simp only[List.all_cons,ζh]at z;have⟨D,a,G⟩:=ζg.1 h;have key:∃g m,D={st with g:=g,m:=m}/\(∀s u,bk g s=M u->bk st.g s=M u)/\∀d ob,bk m d=M ob->bk st.m d=M ob:=(by cases x with|keep gs S=>simp[Go.VE.ghost]at a;split at a;(next g m b I=>simp at a;subst a;exact⟨g,m,Y,λs u B=>tG b B,λd ob hd=>tG I hd⟩);grind|drop ds=>simp[Go.VE.ghost]at a;subst a;exact⟨_,st.m,rfl,λs u B=>qZ B,λ_ _ h=>h⟩|_=>simp[Dw]at z);obtain⟨g,m,rfl,J,w⟩:=key;have⟨a1,a2,L,i,Q⟩:=C (r.less J w) z.2 G;exact⟨a1,(Ev.less w).trans a2,L,Fix.trans (e?:={st with g:=g,m:=m}) ⟨λd _ ob h=>⟨ob,w d ob h,Y,.refl _⟩,Y,Y,Y⟩ i,λd ob h=>w d ob (Q d ob h)⟩
def Fix.rN:∀{l:Pi}{ν:Nu}{Z:Nat->Prop}{st e?:St},R ν Z st F H->Yc S J st.more st.yid->J st.want (gj ν st.m) Z H->rN l st=M e?->∃ν' Z',R ν' Z' e? F H/\J e?.want (gj ν' e?.m) Z' H/\Fix ν st ν' e?
 |[],ν,Z,st,e?,r,y,j,h=>by simp[Go.VE.rN]at h;subst h;exact⟨ν,Z,r,j,.refl⟩|x::l,ν,Z,st,e?,r,y,j,h=>by have⟨B,b,D⟩:=ζg.1 h;have⟨C,G,r1,u,a⟩:=Fix.ghost r y j b;have⟨ν2,Z2,r2,w,z⟩:=Fix.rN r1 (by rw[a.more,a.yid];omega) u D;exact⟨ν2,Z2,r2,w,a.trans z⟩
def VW(gd:Good X S)(e:kz S c){ops:QP}{fr:ST}{i:Nat}{o:Oper}{ro:RO}{B:St}(a:oV X O ops i o=M ro)(y:Yc S J st.more st.yid)(r:R ν Z st F H)(j:J st.want (gj ν st.m) Z H)(G:gT S c O fr ro st=M B):
 ∃n F' H' ν' Z',(∀k,n<=k->iY S.E (run S.E k) X.nt ops _q o F H=M (F',H'))/\R ν' Z' B F' H'/\J B.want (gj ν' B.m) Z' H'/\Fix ν st ν' B:=by
 by_cases L:wanted st.g ro.gd=M U
 .cases C:ij S.N st.g ro with
  |none=>
   have⟨n,F',H',ν',Z',e1,e2,e3,e4,e5,e6⟩:=OV gd e (place:=_q) Y (λb j h=>by cases h) (λb j h=>by cases h) a (λb j h=>by cases h) (λb j h=>by cases h) r (.inl C) G
   exact⟨n,F',H',ν',Z',e1,e2,(e3.weak (λid⟨b,j,h,_⟩=>by cases h)).beside y e5 j,e6⟩
  |some p=>have⟨id,T⟩:=p;have⟨n,F',H',e1,e2,e3,e4⟩:=Wv gd y a r j C L G;exact⟨n,F',H',ν,Z,e1,e2,e3,e4⟩
 have u:gT S c O fr ro st=M B:=G;have t:ij S.N st.g {ro with az:=[]}=_q:=by unfold ij;simp[b9]
 obtain⟨n,F',H',ν',Z',e1,e2,e3,e4,e5,e6⟩:∃n F' H' ν' Z',(∀k,n<=k->iY S.E (run S.E k) X.nt ops _q o F H=M (F',H'))/\R ν' Z' B F' H'/\Ev (λ_=>False) ν Z st H ν' Z' B H'/\True/\B.want=st.want/\Fix ν st ν' B:=by unfold gT at u;split at u;(next w=>exact _e w L);rename_i w;simp only[ζa]at u;subst u;unfold oV at a;simp only[Bool.false_and,v?,_a,Bool.not_false,Bool.and_true]at a;split at a;rename_i D;split at a;rename_i g k os f m;split at a;obtain⟨az,q,rfl⟩:=ζf.1 a;have I:=yH r.slot f w;have⟨F',l,Q⟩:=DG r D (.v V.undef V.undef (.same _ Y));have⟨p1,p2,p3,p4,p5⟩:=GH st o.dst (.v .undef);refine⟨0,F',H,ν,Z,λk _=>?_,Q,?_,trivial,p2,⟨λd hd=>by rw[p1];exactλz h=>⟨z,h,Y,.refl _⟩,p3,p4,p5⟩⟩;unfold iY;simp only[I,v?,_a,l,A?];exact⟨x? _,λ_ _ _ _ _=>rfl,λ_ h=>⟨h,Y⟩,λ_ h=>.inl (by rw[p1]at h;exact h),λ_ h=>.inl h,λd hd=>by rw[p1];exactλz h=>⟨z,h,Y,.refl _⟩,p3⟩;simp at a;simp at a;simp at a;simp at u
 exact⟨n,F',H',ν',Z',e1,e2,e3.beside y e5 j,e6⟩
def R5(gd:Good X S)(d:kz S c){ops:QP}{fr:ST}:∀(i?:QP){i:Nat}{B:R0}{ν:Nu}{Z:Nat->Prop}{st e?:St}{F:WP}{H:bt},nJ X O ops i i?=M (B.map RO.strip)->qf S c O fr B st=M e?->
 Yc S J st.more st.yid->R ν Z st F H->J st.want (gj ν st.m) Z H->
 ∃n F' H' ν' Z',(∀k,n<=k->oQ S.E (run S.E k) X.nt ops i? F H=M (F',H'))/\R ν' Z' e? F' H'/\J e?.want (gj ν' e?.m) Z' H'/\Fix ν st ν' e?
 |[],i,B,ν,Z,st,e?,F,H,hc,h,y,r,j=>by simp only[nJ,ζa]at hc;have:=List.map_eq_nil_iff.1 hc.symm;subst this;simp[qf]at h;subst h;exact⟨0,F,H,ν,Z,λ_ _=>rfl,r,j,.refl⟩|o::i?,i,B,ν,Z,st,e?,F,H,hc,h,y,r,j=>by simp[nJ]at hc;split at hc;rename_i T rs f P;obtain⟨u,w,rfl,C,D⟩:∃u w,B=u::w/\T=u.strip/\rs=w.map RO.strip:=(by cases B with|nil=>simp_all|cons a b=>grind);subst D;simp[qf,<-C]at h;split at h;rename_i z G;have⟨W,I,G⟩:=ζg.1 G;have⟨x,A,g,Y,L⟩:=Fix.rN r y j I;have⟨l,F1,H1,E,K,a1,a2,a3,a__⟩:=VW gd d f (by rw[L.more,L.yid];omega) g Y G;have Q:=L.trans a__;have⟨m,p,H2,ν2,Z2,q,s,t,v⟩:=R5 gd d i? P h (by show Yc S J z.more z.yid;rw[Q.more,Q.yid];omega) (R.Br a2 u.dead) a3;refine⟨max l m,p,H2,ν2,Z2,λk e=>?_,s,t,Q.trans (Fix.Br v)⟩;simp[oQ,a1 k (V? (k! _ _) e),q k (V? (i! _ _) e)];grind;grind
def Old.next{b:Nat}{fr:ST}{o:RO}(h:Old b fr ν Z m)(a:Kept (Bl o) ν m ν' m'):Old b (tX fr o) ν' Z m':=by refine⟨λd ob j hd C u=>?_,h.2⟩;have w:d∉fr:=λJ=>u (by unfold tX;grind);have z:Bl o≠M d:=λe=>u (by unfold tX;grind);obtain⟨B,c,-,-,D⟩:=a d ob z hd;have⟨G,I⟩:=D j C;rw[I];exact h.1 d B j c G w
def It(r:R ν Z st F H){id:Nat}(h:gj ν st.m id):H[id]?≠M .free:=by obtain⟨d,ob,j,a,u,rfl⟩:=h;exact(r.obj d ob a).free u
def QW(r:R ν Z st F H){id:Nat}(h:Z id):H[id]?≠M .free:=λe=>by have:=r.zrow id h;unfold bz at this;rw[e]at this;simp[Ob.rows]at this
def Ev.Br{ds:ST}(e:Ev Rv ν Z (su ds st) H ν' Z' e? H'):Ev Rv ν Z st H ν' Z' e? H':=⟨e.len,e.same,e.rows,e.own,e.frz,e.pin,e.pins⟩
def To(gd:Good X S)(g:kz S c){ops:QP}{b k:Nat}(G:uK ops=U->k=ops.length):∀(len:Nat){i:Nat}{B:R0}{fr:ST}{ν:Nu}{Z:Nat->Prop}{st e?:St}{F:WP}{H:bt},
 i+len=ops.length->nJ X U ops i (ops.drop i)=M (B.map RO.strip)->qf S c U fr B st=M e?->R ν Z st F H->b<=H.length->Old b fr ν Z st.m->(∀j,i<=j->j<k->H[b+j]?=M .free)->
 ∃n F' H' ν',(∀q,n<=q->mw S.E (run S.E q) X.nt ops b (List.range' i len) F H=M (F',H'))/\R ν' Z e? F' H'/\Ev (λid=>b<=id) ν Z st H ν' Z e? H'/\e?.want=st.want/\Fix ν st ν' e?
 |0,i,B,fr,ν,Z,st,e?,F,H,hl,hc,h,r,hb,J,hf=>by rw[List.drop_of_length_le a?]at hc;simp only[nJ,ζa]at hc;have:B=[]:=List.map_eq_nil_iff.1 hc.symm;subst this;simp[qf]at h;subst h;exact⟨0,F,H,ν,λ_ _=>rfl,r,.refl,rfl,.refl⟩|len+1,i,B,fr,ν,Z,st,e?,F,H,hl,hc,h,r,hb,J,hf=>by
  have hi:i<ops.length:=a?;have l:=ζd hi;rw[List.drop_eq_getElem_cons hi]at hc;simp[nJ]at hc;split at hc
  .rename_i ro rs h1 h2;obtain⟨u,w,rfl,Q,T⟩:∃u w,B=u::w/\ro=u.strip/\rs=w.map RO.strip:=by cases B with|nil=>simp_all|cons a b=>grind
   subst T;simp only[qf,<-Q]at h;split at h
   .rename_i ab b__;obtain⟨W,z,b__⟩:=ζg.1 b__;simp only[Fh,N']at z;split at z;rotate_left;simp_all;rename_i L;obtain⟨f,m,o,p,s⟩:=Fix.quiet r L z;have J:Old b fr ν Z W.m:=⟨λd ob j hd=>J.1 d ob j (s d ob hd),J.2⟩;obtain⟨t,F1,H1,V,Z1,a1,a2,a3,a4,a5,v⟩:=OV gd g (place:=M (b,i)) rfl (λc__ j e=>g?) (λc__ j e=>g?) h1 (λc__ j e=>g?) (λc__ j e ad=>by
     have:uK ops=U:=by
      unfold uK
      grind
     grind) f (.inr rfl) b__
    obtain⟨rfl,C⟩:=a4 rfl;have I:=a3.weak λid⟨c__,j,e,h⟩=>by cases e;omega
    obtain⟨x,y,H2,ν2,A,E,K,a__,d__⟩:=To gd g G len a? h2 h (R.Br a2 u.dead) (V? hb a3.len) (J.next C) (λj ae Y=>by have D:=hf j a? Y;have P:=(ζe.1 D).1;rw[I.same (b+j) P (λh=>It f h D) (λh=>QW f h D) a?];omega);refine⟨max t x,y,H2,ν2,λq L=>?_,E,m.trans ((I.weak λid e=>a?).trans (Ev.Br K)),by rw[a__,<-o];exact a5,p.trans (v.trans (Fix.Br d__))⟩;simp[List.range'_succ,mw,l,a1 q (V? (k! _ _) L),A q (V? (i! _ _) L)]
   grind
  grind
end
end Go.VE
namespace Go.VE
variable[b7]
def bV(X:CX):X'->Code->aX RC
 |_,.skip=>M .skip|_,.label _=>M .skip|_,.region _ ops B=>
  if B then(if zi ops.toList&&Cz ops.toList then(nJ X U ops.toList 0 ops.toList).map .vJ else _q)
  else(nJ X O ops.toList 0 ops.toList).map .ops
 |ro,.seq a b=>match bV X ro a,bV X ro b with
  |some a,M b=>M (.seq a b)|_,_=>_q
 |ro,.cond c a b=>match si X.nm c,bV X ro a,bV X ro b with
  |some x,M a,M b=>M (.cond x a b)|_,_,_=>_q
 |ro,.block id c=>(bV X ro c).map (.block id)|ro,.loop c=>(bV X ro c).map .loop|ro,.rangeFunc g ps D G=>
  if ro|| !(ps.toList.all (·<X.nt))then _q else
  match si X.nm g,bV X U D,bV X U G with
  |some x,M a,M b=>M (.each x ps.toList a b)|_,_,_=>_q
 |_,.exit id=>M (.exit id)|_,.ret=>M .ret|_,_=>_q
def erase:RC->RC
 |.seq a b=>.seq (erase a) (erase b)|.cond x a b=>.cond x (erase a) (erase b)|.block id c=>.block id (erase c)|.loop c=>.loop (erase c)|.each g ps a b=>.each g ps (erase a) (erase b)|.gh _ c=>erase c|.hg c _=>erase c|.ops l=>.ops (l.map RO.strip)|.vJ l=>.vJ (l.map RO.strip)|c=>c
def k_(step:St->aX (Out×St)):Nat->St->aX (Out×St)
 |0,_=>_q|k+1,st=>match step st with
  |some (.norm,e?)=>k_ step k e?|r=>r
open Classical in
def ri(step:St->aX (Out×St))(st:St):aX (Out×St):=if h:∃k r,k_ step k st=M r then M (Classical.choose (S? h))else _q
def BT{step:St->aX (Out×St)}:∀{k B:Nat}{st:St}{r:Out×St},k<=B->k_ step k st=M r->k_ step B st=M r
 |0,_,_,_,_,h=>by simp[k_]at h|k+1,0,_,_,hk,_=>a?|k+1,B+1,st,r,hk,h=>by simp only[k_]at h⊢;split at h;(next e? D=>rw[BT (Nat.le_of_succ_le_succ hk) h]);exact h
def pX{step:St->aX (Out×St)}{st:St}{r:Out×St}:ri step st=M r↔∃k,k_ step k st=M r:=by
 unfold ri;constructor;intro h;split at h;next u=>simp only[ζa]at h;exact⟨_,by rw[<-h];exact S? (S? u)⟩
 simp at h;rintro⟨k,a⟩;have u:∃k r,k_ step k st=M r:=⟨k,r,a⟩;rw[dif_pos u];have z:=S? (S? u);have B:=BT (k! (Classical.choose u) k) z;have w:=BT (i! (Classical.choose u) k) a;rw[B]at w;exact w
def kD(ps:ST)(A B:St->aX (Out×St))(st:St)(x:So)(m:Tb bG):aX (Out×Tb bG):=
 if W x=W ps then
  match A {g:=zN st.g ps (x.map .v),m:=m,pin:=st.pin++sN st.g,want:=[],more:=U,yid:=0}with
  |some (.norm,u)=>(B u).map λ(o,st2)=>(o,st2.m)|_=>_q
 else _q
def tu(step:So->Tb bG->aX (Out×Tb bG)):S'->Tb bG->aX (Out×Tb bG)
 |[],m=>M (.norm,m)|x::xs,m=>match step x m with
  |some (.norm,m')=>tu step xs m'|r=>r
def cV(S:Sys)(c:b_):RC->St->aX (Out×St)
 |.skip,st=>M (.norm,st)|.ops l,st=>(qf S c O [] l st).map λst=>(.norm,st)|.vJ l,st=>(qf S c U [] l st).map λst=>(.norm,st)|.seq a b,st=>match cV S c a st with
  |some (.norm,e?)=>cV S c b e?|r=>r
 |.cond x a b,st=>match tO S.N st.g x with
  |some (.v (.bool t))=>if t then cV S c a st else cV S c b st|_=>_q
 |.block id a,st=>match cV S c a st with
  |some (.exit B,e?)=>if B=id then M (.norm,e?)else M (.exit B,e?)|r=>r
 |.loop a,st=>ri (cV S c a) st|.each g ps a b,st=>match tO S.N st.g g with
  |some (.v (.clo f x y))=>match S.items f x y with
   |some xs=>(tu (kD ps (cV S c a) (cV S c b) st) xs st.m).map λ(o,m)=>(o,{st with m:=m})|none=>_q
  |_=>_q
 |.exit id,st=>M (.exit id,st)|.ret,st=>M (.ret,st)|.gh x a,st=>_o (ghost x st) (cV S c a)|.hg a x,st=>match cV S c a st with
  |some (.norm,e?)=>(ghost x e?).map λst=>(.norm,st)|r=>r
def fM(S:Sys)(f:Y')(a b:So)(xs:S'):Prop:=∀u more,(more=U/\u=xs\/more=O/\u≠[]/\∃r,xs=u++r)->∀yid J,Yc S J more yid->∀Z w z H,dL H Z a w->dL H Z b z->(∀i,Z i->(bz H i).isSome=U)->Deep H Z->J u (λ_=>False) Z H->∃n y H' B Z',(∀k,n<=k->run S.E k (.fn f) (w++.yld yid::z) H=M (y,H'))/\J [] B Z' H'
section
variable{ν ν' ν2:Nu}{Z Z':Nat->Prop}{st e? st2:St}{m m':Tb bG}{F F':WP}{H H' H1:bt}{S:Sys}{c:b_}{X:CX}{J:JT}
end
inductive Ad(step:List V->Tb bG->Option (Out×Tb bG))(o:Out)(mf:Tb bG):List (List V)->Bool->Tb bG->Prop
 |nil(h:o=.norm):Ad step o mf [] true mf|next(x:List V)(ws:List (List V))(more:Bool)(m m1:Tb bG)(h:step x m=some (.norm,m1))(r:Ad step o mf ws more m1):Ad step o mf (x::ws) more m|last(x:List V)(m:Tb bG)(h:step x m=some (o,mf))(ho:o≠.norm):Ad step o mf [x] false m
def FK{step:So->Tb bG->aX (Out×Tb bG)}{o:Out}{D:Tb bG}:∀{xs:S'}{m:Tb bG},tu step xs m=M (o,D)->
 ∃B more,(more=U/\B=xs\/more=O/\B≠[]/\∃r,xs=B++r)/\Ad step o D B more m
 |[],m,h=>by obtain⟨rfl,rfl⟩:=h;exact⟨[],U,.inl ⟨rfl,rfl⟩,.nil rfl⟩|x::xs,m,h=>by simp[tu]at h;split at h;rename_i m' u;have⟨B,more,b,a⟩:=FK h;refine⟨x::B,more,?_,.next x B more m m' u a⟩;grind;refine⟨[x],O,.inr ⟨Y,f?,xs,Y⟩,.last x m h λe=>?_⟩;simp_all
def xR(O0 Z0:Nat->Prop)(H0:bt):JT:=λw d Z H=>w=[]/\W H0<=W H/\(∀i,i<W H0->¬O0 i->¬Z0 i->H[i]?=H0[i]?)/\(∀i,Z0 i->Z i/\bz H i=bz H0 i)/\(∀i,d i->O0 i\/W H0<=i)/\(∀i,Z i->Z0 i\/O0 i\/W H0<=i)
section
variable{ν ν' ν2:Nu}{Z Z':Nat->Prop}{st e? st2:St}{m m':Tb bG}{F F':WP}{H H' H1:bt}{S:Sys}{c:b_}{X:CX}{J:JT}{O0 Z0:Nat->Prop}{H0:bt}
def xR.zG{w:S'}{O Z B Z':Nat->Prop}{H H':bt}(j:xR O0 Z0 H0 w O Z H)(D:W H<=W H')(G:∀i,i<W H->¬O i->¬Z i->H'[i]?=H[i]?)(a:∀i,Z i->Z' i/\bz H' i=bz H i)
 (J:∀i,B i->O i\/W H<=i)(T:∀i,Z' i->Z i\/O i\/W H<=i):xR O0 Z0 H0 w B Z' H':=by
 have⟨u,z,I,C,L,Q⟩:=j;refine⟨u,V? z D,λi b S d=>?_,λi h=>⟨(a i (C i h).1).1,g?⟩,λi h=>?_,λi h=>?_⟩
 .grind
 .grind
 grind
def xR.yc{more:X'}{yid:Nat}:Yc S (xR O0 Z0 H0) more yid where
 zG:=λ_ _ _ _ _ _ _ j a u w z B=>j.zG a u w z B
 yield:=λx C d Z H args j=>by have⟨h,_⟩:=j;cases h
def xR.refl(r:R ν Z st F H):xR (gj ν st.m) Z H [] (gj ν st.m) Z H:=⟨Y,x? _,λ_ _ _ _=>rfl,λi h=>⟨h,Y⟩,λi h=>.inl h,λi h=>.inl h⟩
mutual
def FW{d:Nat}:∀{sv:SV},sv.cZ d=U->d∈sv.names
 |.v _,h=>by simp[SV.cZ]at h|.own e,h=>by simp[SV.cZ]at h;simp[SV.names,h]|.ptr e _,h=>by simp[SV.cZ]at h;simp[SV.names,h]|.el e _ _,h=>by simp[SV.cZ]at h;simp[SV.names,h]|.mp e,h=>by simp[SV.cZ]at h;simp[SV.names,h]|.clo f a b,h=>by simp only[SV.cZ,p!]at h;simp only[SV.names,List.mem_append];exact h.imp tT tT|.tup l,h=>by simp only[SV.cZ]at h;simp only[SV.names];exact tT h|.agg l,h=>by simp only[SV.cZ]at h;simp only[SV.names];exact tT h|.yl _,h=>by simp[SV.cZ]at h
def tT{d:Nat}:∀{l:SW},SV.dX d l=U->d∈SV.zD l
 |[],h=>by simp[SV.dX]at h|x::r,h=>by simp only[SV.dX,p!]at h;simp only[SV.zD,List.mem_append];exact h.imp FW tT
end
def En{d:Nat}:∀{g:Tb SV}{s:Nat}{sv:SV},bk g s=M sv->sv.cZ d=U->d∈sN g
 |[],s,sv,h,_=>by simp[bk]at h|(k,x)::r,s,sv,h,B=>by simp[bk]at h;simp[sN];split at h;simp at h;subst h;exact .inl (FW B);exact .inr (En h B)
def R.acC(r:R ν Z st F H){Z2:Nat->Prop}(b:∀i,Z2 i->¬gj ν st.m i)(G:∀i,Z2 i->(bz H i).isSome=U)(J:Deep H Z2):R ν (λi=>Z i\/Z2 i) st F H:=by have w:∀i,Z i->(Z i\/Z2 i)/\bz H i=bz H i:=λi h=>⟨.inl h,Y⟩;have z:∀i,Z2 i->(Z i\/Z2 i)/\bz H i=bz H i:=λi h=>⟨.inr h,Y⟩;refine⟨λs I L=>(r.slot s I L).mono w λe _=>kJ ν st.m e,λd ob hd=>dy.mono w Y (λ_ _=>rfl) (λe _=>kJ ν st.m e) (r.obj d ob hd),r.inj,λd ob j hd C a=>?_,λi hi=>?_,⟨λid es D hi hr c hc u hu=>?_⟩⟩;rcases a with a|a;exact r.apart d ob j hd C a;exact b _ a ⟨d,ob,j,hd,C,Y⟩;exact hi.elim (r.zrow i) (G i);rcases hi with hi|hi;have⟨x,B⟩:=r.deep.row id es D hi hr c hc u hu;exact⟨x,B.mono w⟩;have⟨x,B⟩:=J.row id es D hi hr c hc u hu;exact⟨x,B.mono z⟩
def R.aaS:∀{ps:ST}{xs:So}{vs:So}{g:Tb SV}{F:WP},R ν Z {st with g:=g} F H->dL H Z xs vs->W xs=W ps->R ν Z {st with g:=zN g ps (xs.map .v)} (AV ps vs F) H
 |[],xs,vs,g,F,r,h,B=>by have:=List.length_eq_zero_iff.1 B;subst this;exact r|p::ps,[],vs,g,F,r,h,B=>o?|p::ps,x::xs,vs,g,F,r,h,B=>by obtain⟨w,z,rfl,a,u⟩:=h.inv;exact R.aaS (ps:=ps) (r.put (.v _ _ a)) u g?
def vw(X:CX)(S:Sys)(ro:X')(code:Code)(B:St->aX (Out×St)):Prop:=∀st o e?,B st=M (o,e?)->∀(J:JT)ν Z F H,Yc S J st.more st.yid->R ν Z st F H->J st.want (gj ν st.m) Z H->∃n F' H' ν' Z',(∀k,n<=k->exec S.E (run S.E k) k ro X.nt code F H=M (o,F',H'))/\R ν' Z' e? F' H'/\J e?.want (gj ν' e?.m) Z' H'/\Fix ν st ν' e?
def Xg(st:St)(m:Tb bG):St:={g:=st.g,m:=m,pin:=st.pin++sN st.g,want:=[],more:=U,yid:=0}
def JI(X:CX)(st:St)(F:WP)(ν:Nu)(O0 Z0:Nat->Prop)(H0:bt)(B:Nat)(ps:ST)(J T:Code)(step:So->Tb bG->aX (Out×Tb bG))(o:Out)(G:Tb bG)(more:X'):JT:=λw g Z H=>∃m z D u,R z D (Xg st m) F H/\xR O0 Z0 H0 [] (gj z m) D H/\(∀i,g i->¬gj z m i/\¬D i/\i≠B/\W H0<=i)/\(∀i,Z i->¬gj z m i/\i≠B/\(Z0 i\/W H0<=i))/\¬gj z m B/\¬D B/\W H0<=B/\H[B]?=M (.loop u)/\(u.frame=F/\u.nt=X.nt/\u.params=ps/\u.assign=J/\u.body=T)/\(∀d∈st.pin++sN st.g,∀C,bk m d=M C->∃ob,bk st.m d=M ob/\z d=ν d/\sameShape ob C)/\((Ad step o G w more m/\u.st=.ready/\u.pend=_q)\/(w=[]/\m=G/\u.st=.done/\u.pend=M o))
def JI.zG{w:S'}{O Z G Z':Nat->Prop}{H H':bt}{B:Nat}{ps:ST}{J T:Code}{step:So->Tb bG->aX (Out×Tb bG)}{o:Out}{y:Tb bG}{more:X'}
 (j:JI X st F ν O0 Z0 H0 B ps J T step o y more w O Z H)(A:W H<=W H')(D:∀i,i<W H->¬O i->¬Z i->H'[i]?=H[i]?)(v:∀i,Z i->Z' i/\bz H' i=bz H i)
 (P:∀i,G i->O i\/W H<=i)(d:∀i,Z' i->Z i\/O i\/W H<=i):JI X st F ν O0 Z0 H0 B ps J T step o y more w G Z' H':=by
 have⟨m,S,I,e,r,f,a,b,g,k,l,n,p,q,s⟩:=j;have u:=λi hi=>D i (r.lt hi) (λh=>(a i h).1 hi) (λh=>(b i h).1 hi)
 have z:∀i,I i->bz H' i=bz H i:=λi hi=>by by_cases C:Z i;grind;unfold bz;rw[D i (r.xD hi) (λh=>(a i h).2.1 hi) C]
 have x:=(ζe.1 n).1;refine⟨m,S,I,e,r.heap u z,?_,λi h=>?_,λi h=>?_,g,k,l,?_,p,q,s⟩
 .have⟨j1,L,j3,j4,j5,j6⟩:=f;refine⟨j1,V? L A,λi c t Q=>?_,λi h=>⟨(j4 i h).1,g?⟩,j5,j6⟩
  rw[D i (Nat.lt_of_lt_of_le c L) (λh=>by have:=(a i h).2.2.2;omega) (λh=>by rcases(b i h).2.2 with h|h;exact Q h;omega),j3 i c t Q]
 .rcases P i h with h|h
  .exact a i h
  exact⟨λhi=>_e (r.lt hi) a?,λhi=>_e (r.xD hi) a?,a?,a?⟩
 .rcases d i h with h|h|h
  .exact b i h
  .exact⟨(a i h).1,(a i h).2.2.1,.inr (a i h).2.2.2⟩
  exact⟨λhi=>_e (r.lt hi) a?,a?,.inr a?⟩
 grind
def JI.yield(S:Sys){A B:St->aX (Out×St)}{M N:Code}(hA:vw X S U M A)(hB:vw X S U N B){D:Nat}{ps:ST}(ax:ps.all (·<X.nt)=U){o:Out}{p:Tb bG}{more:X'}
 {x:So}{f:S'}{O Z:Nat->Prop}{H:bt}{args:So}(j:JI X st F ν O0 Z0 H0 D ps M N (kD ps A B st) o p more (x::f) O Z H)
 (hx:dL H Z x args)(an:∀i,Z i->(bz H i).isSome=U)(ay:Deep H Z)(aA:∀i,O i->¬Z i/\i<_m H):
 ∃n H',run S.E n (.yld D) args H=_k (.bool (more|| !f.isEmpty),H')/\JI X st F ν O0 Z0 H0 D ps M N (kD ps A B st) o p more f O Z H'/\_m H<=_m H'/\(∀i,O i->H'[i]?=H[i]?)/\(∀i,Z i->bz H' i=bz H i):=by
 have⟨m,q,g,c,r,ej,d1,t,P,l2,l3,l4,⟨q1,q2,q3,q4,q5⟩,l6,l7⟩:=j;have aB:Ad (kD ps A B st) o p (x::f) more m/\c.st=.ready/\c.pend=_q:=by grind
 have⟨hE,T,aC⟩:=aB;have a__:∃v m1,kD ps A B st x m=_k (v,m1)/\(v=.norm/\Ad (kD ps A B st) o p f more m1/\(more|| !f.isEmpty)=U\/v≠.norm/\v=o/\m1=p/\f=[]/\more=_p):=by cases hE with|next _ _ _ _ m1 h hr=>refine⟨.norm,m1,h,.inl ⟨_l,hr,?_⟩⟩;cases hr<;>simp|last _ _ h ho=>grind
 have⟨v,m1,w,ab⟩:=a__;unfold kD at w;split at w
 .rename_i ad;split at w
  .rename_i ah aD;have⟨⟨z,st2⟩,aE,e⟩:=ζf.1 w;simp at e;obtain⟨rfl,rfl⟩:=e;have aF:=(ζe.1 l4).1;have r1:=r.acC (λi hi=>(t i hi).1) an ay
   have aG:dL H (λi=>g i\/Z i) x args:=hx.mono λi hi=>⟨.inr hi,_l⟩
   have r2:=R.aaS (st:=Xg st m) r1 aG ad;have⟨nA,F2,H2,ν2,Z2,a1,a2,a3,a4⟩:=hA _ _ _ aD (xR (gj q m) (λi=>g i\/Z i) H) q _ _ H xR.yc r2 (xR.refl r1)
   have⟨b1,b2,b3,b4,y,b6⟩:=a3;have ai:¬(g D\/Z D):=λh=>h.elim l2 λh=>(t D h).2.1 rfl
   have ao:H2[D]?=_k (.loop c):=by rw[b3 D aF P ai];omega
   have ae:D<_m H2:=a?
   have W:¬gj ν2 ah.m D:=λh=>(y D h).elim P λh=>a?
   have aj:¬Z2 D:=λh=>by rcases b6 D h with h|h|h;exact ai h;exact P h;omega
   have u:∀(ob:Ob)(Hh:bt)(i:Nat),i≠D->(Hh.set D ob)[i]?=Hh[i]?:=λob Hh i Y=>by rw[List.getElem?_set,M' (Ne.symm Y)]
   have r3:R ν2 Z2 ah F2 (H2.set D (.loop {c with st:=.busy})):=a2.heap (λi hi=>u _ _ i λe=>W (e▸hi)) (λi hi=>by unfold bz;rw[u _ _ i λe=>aj (e▸hi)])
   have⟨nB,F4,b,E,k,c1,c2,c3,c4⟩:=hB _ _ _ aE (xR (gj ν2 ah.m) Z2 (H2.set D (.loop {c with st:=.busy}))) ν2 Z2 F2 _ xR.yc r3 (by
    rw[b1];exact xR.refl r3)
   have⟨_,g2,g3,g4,g5,g6⟩:=c3;simp at g2 g3 g5 g6;have ap:b[D]?=_k (.loop {c with st:=.busy}):=by rw[g3 D ae W aj,List.getElem?_set_self ae]
   have aq:D<_m b:=a?
   have ar:=λh=>(g5 D h).elim W λh=>a?
   have au:¬k D:=λh=>by rcases g6 D h with h|h|h;exact aj h;exact W h;omega
   generalize K:({c with st:=(if z==.norm then EB.ready else EB.done),pend:=(if z==.norm then _q else _k z)}:yS)=G;have r5:R E k st2 F4 (b.set D (.loop G)):=c2.heap (λi hi=>u _ _ i λe=>ar (e▸hi)) (λi hi=>by unfold bz;rw[u _ _ i λe=>au (e▸hi)])
   have L:_m H<=_m (b.set D (.loop G)):=by simp;omega
   have ak:∀i,i<_m H->i≠D->¬gj q m i->¬(g i\/Z i)->(b.set D (.loop G))[i]?=H[i]?:=λi a J I l=>by rw[u _ _ i J,g3 i a? (λh=>(y i h).elim I λh=>a?) (λh=>by rcases b6 i h with h|h|h;exact l h;exact I h;omega),u _ _ i J,b3 i a I l]
   have C:∀i,(g i\/Z i)->k i/\bz (b.set D (.loop G)) i=bz H i:=λi hi=>by have Y:i≠D:=λe=>ai (e▸hi);have⟨t1,t2⟩:=b4 i hi;have⟨t3,t4⟩:=g4 i t1;refine⟨t3,?_⟩;rw[<-t2];have:bz (H2.set D (.loop {c with st:=.busy})) i=bz H2 i:=(by unfold bz;rw[u _ _ i Y]);rw[<-this,<-t4];unfold bz;rw[u _ _ i Y]
   have Q:∀i,gj E st2.m i->gj q m i\/_m H<=i:=λi hi=>by rcases g5 i hi with h|h;exact y i h;exact .inr a?
   have af:∀i,k i->(g i\/Z i)\/gj q m i\/_m H<=i:=λi hi=>by rcases g6 i hi with h|h|h;exact b6 i h;rcases y i h with h|h;exact .inr (.inl h);exact .inr (.inr h);exact .inr (.inr a?)
   have fx:=a4.trans c4;have r6:R E k (Xg st st2.m) F (b.set D (.loop G)):=⟨λs sv hs=>(r.slot s sv hs).mono (λi hi=>C i (.inl hi)) λd hd al am=>fx.pin d (List.mem_append_right _ (En hs hd)) al am,r5.obj,r5.inj,r5.apart,r5.zrow,r5.deep⟩
   have av:run S.E (max nA nB+1) (.yld D) args H=_k (.bool (z==.norm),b.set D (.loop G)):=by simp only[run,mc,l4];rw[L' (by rw[q3];exact⟨by rw[<-hx.1];exact ad,by rw[q2];exact ax⟩)];rw[q1,q2,q3,q4,q5];rw[a1 _ (k! _ _)];simp only[ao,T];rw[c1 _ (i! _ _)];simp only[ap];rw[<-K]
   refine⟨max nA nB+1,b.set D (.loop G),?_,⟨st2.m,E,k,G,r6,?_,λi hi=>?_,λi hi=>?_,ar,au,l3,?_,?_,λd hd al am=>?_,?_⟩,L,λi hi=>?_,λi hi=>(C i (.inr hi)).2⟩
   .rw[av];rcases ab with⟨a,_,I⟩|⟨a,_,_,l,h5⟩
    .rw[a,I];rfl
    rw[l,h5]
    cases aH:z with
    |norm=>exact _e aH a|_=>rfl
   .have⟨j1,j2,j3,j4,j5,j6⟩:=ej;refine⟨_l,V? j2 L,λi a J I=>?_,λi h=>⟨(C i (.inl (j4 i h).1)).1,by rw[(C i (.inl (j4 i h).1)).2,(j4 i h).2]⟩,λi h=>?_,λi h=>?_⟩
    .rw[ak i a? a? (λh=>by rcases j5 i h with h|h;exact J h;omega) (λh=>by
      rcases h with h|h
      .rcases j6 i h with h|h|h;exact I h;exact J h;omega
      rcases(t i h).2.2 with h|h;exact I h;omega),j3 i a J I]
    .rcases Q i h with h|h
     .exact j5 i h
     exact .inr a?
    rcases af i h with(h|h)|h|h
    .exact j6 i h
    .rcases (t i h).2.2 with h|h;exact .inl h;exact .inr (.inr h)
    .rcases j5 i h with h|h;exact .inr (.inl h);exact .inr (.inr h)
    exact .inr (.inr a?)
   .have⟨t1,t2⟩:=aA i hi;have⟨t3,t4,t5,t6⟩:=d1 i hi;refine⟨λh=>(Q i h).elim t3 λh=>a?,λh=>?_,t5,t6⟩
    rcases af i h with(h|h)|h|h
    .exact t4 h
    .exact t1 h
    .exact t3 h
    omega
   .have⟨t1,t2,t3⟩:=t i hi;have aJ:i<_m H:=by
     have:=an i hi;unfold bz at this
     cases hh:H[i]?with
     |none=>rw[hh]at this;simp at this|some _=>exact(ζe.1 hh).1
    exact⟨λh=>(Q i h).elim t1 λh=>a?,t2,t3⟩
   .rw[List.getElem?_set_self aq]
   .subst K;exact⟨q1,q2,q3,q4,q5⟩
   .have⟨aI,a,J,I⟩:=fx.pin d hd al am;have⟨ob,k1,k2,k3⟩:=l6 d hd aI a;exact⟨ob,k1,by rw[J,k2],k3.trans I⟩
   .rcases ab with⟨a,J,I⟩|⟨a,J,I,l,h5⟩
    .left;subst a;subst K;exact⟨J,_l,_l⟩
    right;subst K;have hb:¬(z==Out.norm)=U:=by simpa using a
    refine⟨l,I,?_,?_⟩
    .show (if(z==Out.norm)=U then EB.ready else EB.done)=EB.done;rw[M' hb]
    show(if(z==Out.norm)=U then _q else _k z)=_k o;rw[M' hb,J]
   grind
  grind
 grind
end
section
variable{ν ν' ν2:Nu}{Z Z':Nat->Prop}{st e? st2:St}{m m':Tb bG}{F F':WP}{H H' H1:bt}{S:Sys}{c:b_}{X:CX}{J:JT}
def TO(gd:Good X S)(g:kz S c){ro:X'}{id:Nat}{ops:Array Oper}{l:R0}(m:nJ X U ops.toList 0 ops.toList=M (l.map RO.strip))(hd:(zi ops.toList&&Cz ops.toList)=U):
 vw X S ro (.region id ops U) (λst=>(qf S c U [] l st).map λst=>(.norm,st)):=by
 intro st o e? h J ν Z F H y r j;have⟨G,a,e⟩:=ζf.1 h;simp only[ζc]at e;obtain⟨rfl,rfl⟩:=e;generalize w:(if uK ops.toList then H++List.replicate (W ops.toList) .free else H)=H0;generalize f:(if uK ops.toList then W ops.toList else 0)=k;have u:∀i,i<W H->H0[i]?=H[i]?:=λi hi=>by rw[<-w];split;exact List.getElem?_append_left hi;rfl
 have z:W H<=W H0:=by rw[<-w];split<;>simp
 have I:R ν Z st F H0:=r.heap (λi hi=>u i (r.lt hi)) (λi hi=>by unfold bz;rw[u i (r.xD hi)])
 have B:∀q,0<=q->q<k->H0[W H+q]?=M .free:=λq _ C=>by rw[<-f]at C;split at C;rename_i D;rw[<-w,L' D,List.getElem?_append_right a?];simp only[Nat.add_sub_cancel_left];rw[List.getElem?_replicate,L' C];omega
 have⟨n,F',H',ν',e1,e2,e3,e4,e5⟩:=To gd g (ops:=ops.toList) (b:=W H) (k:=k) (λD=>by rw[<-f,L' D]) (W ops.toList) (i:=0) (fr:=[]) a? (by simpa using m) a I z
  ⟨λd ob j hd L _=>r.lt ⟨d,ob,j,hd,L,Y⟩,λi hi=>r.xD hi⟩ B
 refine⟨n,F',H',ν',Z,λq C=>?_,e2,?_,e5⟩
 .simp only[exec,lN,N',hd,ζf,ζc,true_and];refine⟨(F',H'),?_,Y,Y⟩;rw[w];have:=e1 q C;rw[List.range_eq_range'];exact this
 rw[e4];refine y.zG _ _ _ _ _ _ _ j (V? z e3.len) (λi a t Q=>by rw[e3.same i a? t Q a?,u i a]) (λi hi=>⟨hi,by rw[(e3.rows i hi).2];unfold bz;rw[u i (r.xD hi)]⟩) (λi hi=>?_) (λi hi=>.inl hi)
 rcases e3.own i hi with h|h|h
 .exact .inl h
 .exact .inr h
 exact .inr a?
def ZO{ro:X'}{code:Code}{f:St->aX (Out×St)}(T:vw X S ro code f):vw X S ro (.loop code) (ri f):=by
 intro st o e? h J ν Z F H y r j;have⟨k,a⟩:=pX.1 h;have key:∀k st ν Z F H,k_ f k st=M (o,e?)->Yc S J st.more st.yid->R ν Z st F H->J st.want (gj ν st.m) Z H->
  ∃n F' H' ν' Z',(∀q,n<=q->∀u,k<=u->mZ (exec S.E (run S.E q) q ro X.nt code) u F H=M (o,F',H'))/\R ν' Z' e? F' H'/\J e?.want (gj ν' e?.m) Z' H'/\Fix ν st ν' e?:=by
  intro k
  induction k with
  |zero=>intro st ν Z F H h;simp[k_]at h|succ k Q=>
   intro st ν Z F H h y r j;simp only[k_]at h;split at h
   .rename_i z C;have⟨D,F1,H1,G,I,a1,a2,L,B⟩:=T st .norm z C J ν Z F H y r j;have⟨i,P,H2,ν2,Z2,A,b,c,d⟩:=Q z G I F1 H1 h (by rw[B.more,B.yid];exact y) a2 L
    refine⟨max D i,P,H2,ν2,Z2,λq w u t=>?_,b,c,B.trans d⟩
    cases u with
    |zero=>omega|succ u=>simp only[mZ,a1 q (V? (k! _ _) w)];exact A q (V? (i! _ _) w) u a?
   rename_i C;have⟨D,F1,H1,G,I,a1,a2,L,B⟩:=T st o e? h J ν Z F H y r j;have g:o≠.norm:=λe=>by subst e;exact C e? h
   refine⟨D,F1,H1,G,I,λq w u t=>?_,a2,L,B⟩
   cases u with
   |zero=>omega|succ u=>simp only[mZ,a1 q w];cases o<;>first|exact _e Y g|rfl
 have⟨n,F',H',ν',Z',e1,e2,e3,e4⟩:=key k st ν Z F H a y r j;refine⟨max n k,F',H',ν',Z',λq w=>?_,e2,e3,e4⟩;simp only[exec];exact e1 q (V? (k! _ _) w) q (V? (i! _ _) w)
def ZP(gd:Good X S)(V:∀f a b xs,S.items f a b=M xs->fM S f a b xs){g:UV}{ps:Array Tmp}{b__ W:Code}{x:Arg}{A B:St->aX (Out×St)}
 (ab:ps.toList.all (·<X.nt)=U)(hx:si X.nm g=M x)(hA:vw X S U b__ A)(hB:vw X S U W B):
 vw X S O (.rangeFunc g ps b__ W) (λst=>match tO S.N st.g x with
 |some (.v (.clo f x y))=>match S.items f x y with
  |some xs=>(tu (kD ps.toList A B st) xs st.m).map λ(o,m)=>(o,{st with m:=m})|none=>_q
 |_=>_q):=by
 intro st o e? h J ν Z F H y r j;dsimp only at h;split at h
 .rename_i f a b ad;split at h
  .rename_i xs ae;obtain⟨⟨p,s⟩,hE,e⟩:=ζf.1 h;simp only[ζc]at e;obtain⟨rfl,rfl⟩:=e;obtain⟨yv,hy,ry⟩:=HI gd.N r.slot hx ad;obtain⟨a',b',rfl,ra,rb⟩:=ry.fr.mC;obtain⟨a__,more,Q,hR⟩:=FK hE;generalize I:(⟨.ready,_q,F,X.nt,ps.toList,b__,W⟩:yS)=u;have z:∀i,i<H.length->(H++[Ob.loop u])[i]?=H[i]?:=λi hi=>List.getElem?_append_left hi
   have C:∀i,Z i->bz (H++[Ob.loop u]) i=bz H i:=λi hi=>by unfold bz;rw[z i (r.xD hi)]
   have r0:R ν Z (Xg st st.m) F (H++[Ob.loop u]):=by have:=r.heap (H':=H++[Ob.loop u]) (λi hi=>z i (r.lt hi)) C;exact⟨this.slot,this.obj,this.inj,this.apart,this.zrow,this.deep⟩
   have D:∀i,Z i->Z i/\bz (H++[Ob.loop u]) i=bz H i:=λi hi=>⟨hi,C i hi⟩
   have j0:JI X st F ν (gj ν st.m) Z H H.length ps.toList b__ W (kD ps.toList A B st) p s more a__ (λ_=>False) Z (H++[Ob.loop u]):=by refine⟨st.m,ν,Z,u,r0,⟨rfl,f?,λi k _ _=>z i k,λi hi=>⟨hi,C i hi⟩,λi hi=>.inl hi,λi hi=>.inl hi⟩,λi hi=>hi.elim,λi hi=>⟨λt=>?_,Nat.ne_of_lt (r.xD hi),.inl hi⟩,λt=>_e (r.lt t) f?,λhz=>_e (r.xD hz) f?,x? _,f?,?_,λd _ af h=>⟨af,h,rfl,.refl _⟩,.inl ⟨hR,?_,?_⟩⟩;obtain⟨d,ob,j,g1,g2,rfl⟩:=t;exact r.apart d ob j g1 g2 hi;subst I;exact⟨rfl,rfl,rfl,rfl,rfl⟩;subst I;rfl;subst I;rfl
   have ah:Yc S (JI X st F ν (gj ν st.m) Z H H.length ps.toList b__ W (kD ps.toList A B st) p s more) more H.length:=⟨λw c__ Z1 H1 O' Z' H' v k Y l E h5=>JI.zG v k Y l E h5,λx1 aj c__ Z1 H1 args v k Y l E=>JI.yield S hA hB ab v k Y l E⟩
   obtain⟨n,yy,H',O',Z',e1,e2⟩:=V f a b xs ae a__ more Q H.length _ ah Z a' b' (H++[Ob.loop u]) (ra.mono D) (rb.mono D) (λi hi=>by rw[C i hi];exact r.zrow i hi) (r.deep.mono C) j0
   obtain⟨m1,νb,N,K,r1,⟨_,k2,k3,k4,k5,k6⟩,_,_,l1,l2,l3,P,_,l6,l7⟩:=e2;have aa:m1=s/\(K.st=.ready\/K.st=.done)/\K.pend.getD .norm=p:=by rcases l7 with⟨g1,g2,g3⟩|⟨_,g1,g2,g3⟩;(cases g1 with|nil hn=>exact⟨rfl,.inl g2,by rw[g3,hn];rfl⟩);exact⟨g1,.inr g2,by rw[g3];rfl⟩
   obtain⟨rfl,c,T⟩:=aa;have ak:H.length<H'.length:=(ζe.1 P).1;have G:∀i,i≠H.length->(H'.set H.length .dead)[i]?=H'[i]?:=λi ai=>by rw[List.getElem?_set,M' (Ne.symm ai)]
   have L:∀i,N i->bz (H'.set H.length .dead) i=bz H' i:=λi hi=>by unfold bz;rw[G i λe=>l2 (e▸hi)]
   have r2:=r1.heap (H':=H'.set H.length .dead) (λi hi=>G i λe=>l1 (e▸hi)) L
   refine⟨n,F,H'.set H.length .dead,νb,N,λq hq=>?_,⟨r2.slot,r2.obj,r2.inj,r2.apart,r2.zrow,r2.deep⟩,?_,⟨λd hd=>l6 d (List.mem_append_left _ hd),rfl,rfl,rfl⟩⟩
   .simp only[exec,hy];rw[I,e1 q hq];simp only[P];rcases c with c|c<;>rw[c]<;>simp only[T]
   refine y.zG _ _ _ _ _ _ _ j (by simp only[List.length_set];omega) (λi k Y l=>by rw[G i a?,k3 i k Y l]) (λi hi=>⟨(k4 i hi).1,by rw[L i (k4 i hi).1,(k4 i hi).2]⟩) k5 k6
  simp at h
 simp at h
end
def lz(st:St):aY RV->aX SW
 |[]=>M []|.s n::r=>match bk st.g n,lz st r with
  |some x,M l=>M (x::l)|_,_=>_q
 |.ld n size agg::r=>match(bk st.g n).bind λp=>sn st.m (.load size agg) [p],lz st r with
  |some x,M l=>M (x::l)|_,_=>_q
def pM(S:Sys)(c:b_)(rf:RF)(m?:SW)(B:dN):aX (SW×dN):=
 if W m?<=rf.na then
  match cV S c rf.body (start m? B)with
  |some (.exit _,_)=>_q|some (_,st)=>(lz st rf.rs).map λrs=>(rs,st.m)|none=>_q
 else _q
def DT(E:Env):ResultVar->aX RV
 |.tmp t=>M (.s t)|.cell a t=>(E.tt t).map λd=>.ld a d.size d.agg
def Aj(E:Env)(nm:Y'->aX Nat)(fi:FI)(rf:RF):Prop:=bV ⟨E,nm,fi.ntmps⟩ O fi.body=M (erase rf.body)/\fi.results.mapM (DT E)=M rf.rs/\rf.na=fi.ntmps
section
variable{ν ν' ν2:Nu}{Z Z':Nat->Prop}{st e? st2:St}{m m':Tb bG}{F F':WP}{H H' H1:bt}{S:Sys}{c:b_}{X:CX}{J:JT}
theorem OP (gd:Good X S) (hS:kz S c) (hI:∀f a b xs,S.items f a b=some xs->fM S f a b xs):∀(rc:RC) (ro:Bool) (code:Code),bV X ro code=some (erase rc)->vw X S ro code (cV S c rc):=by
 intro rc
 induction rc with
 | skip=>
  intro ro code hc st o e? h J ν Z F H y r j;obtain⟨rfl,rfl⟩:=h;simp[erase]at hc;have:∀k,exec S.E (run S.E k) k ro X.nt code F H=some (.norm,F,H):=λk=>by
   cases code with
   | skip=>rfl
   | label _=>rfl
   | region id ops w=>
    simp[bV]at hc;split at hc
    .simp_all
    simp_all
   | seq a b=>simp[bV]at hc;grind
   | cond x a b=>simp[bV]at hc;grind
   | block id b=>simp only[bV]at hc;simp_all
   | loop b=>simp only[bV]at hc;simp_all
   | rangeFunc g ps T d=>
    simp[bV]at hc
    grind
   | _=>simp[bV]at hc
  exact⟨0,F,H,ν,Z,λk _=>this k,r,j,.refl⟩
 | ops l=>
  intro ro code hc;simp[erase]at hc
  cases code with
  | region id ops w=>
   simp[bV]at hc;split at hc
   .simp_all
   rename_i hd;obtain⟨l',hl,e⟩:=ζf.1 hc;cases e;intro st o e? h J ν Z F H y r j;obtain⟨z,h1,e⟩:=ζf.1 h;obtain⟨rfl,rfl⟩:=e;obtain⟨n,F',H',ν',Z',e1,e2,e3,e4⟩:=R5 gd hS _ hl h1 y r j;refine⟨n,F',H',ν',Z',λk hk=>?_,e2,e3,e4⟩
   simp[exec,lN,hd,e1 k hk]
  | seq a b=>simp[bV]at hc;grind
  | cond x a b=>simp[bV]at hc;grind
  | block id b=>simp only[bV]at hc;simp_all
  | loop b=>obtain⟨_,_,e⟩:=ζf.1 hc;cases e
  | rangeFunc g ps T d=>
   simp only[bV]at hc;split at hc
   .simp at hc
   split at hc <;> simp at hc
  | _=>simp[bV]at hc
 | vJ l=>
  intro ro code hc;simp[erase]at hc
  cases code with
  | region id ops w=>
   simp only[bV]at hc;split at hc
   .rename_i hd;subst hd;split at hc
    next ab=>obtain⟨l',hl,e⟩:=ζf.1 hc;cases e;have:=TO (ro:=ro) (id:=id) gd hS hl ab;intro st o e? h;exact this st o e? h
    simp at hc
   obtain⟨_,_,e⟩:=ζf.1 hc;cases e
  | seq a b=>simp[bV]at hc;split at hc <;> simp at hc
  | cond x a b=>simp[bV]at hc;split at hc <;> simp at hc
  | block id b=>obtain⟨_,_,e⟩:=ζf.1 hc;cases e
  | loop b=>obtain⟨_,_,e⟩:=ζf.1 hc;cases e
  | rangeFunc g ps T d=>
   simp only[bV]at hc;split at hc
   .simp at hc
   split at hc <;> simp at hc
  | _=>simp[bV]at hc
 | seq a b u i=>
  intro ro code hc;simp[erase]at hc
  cases code with
  | seq W cb=>
   simp[bV]at hc;split at hc
   .rename_i xa xb Q hb;simp[RC.seq.injEq]at hc;obtain⟨rfl,rfl⟩:=hc;intro st o e? h J ν Z F H y r j;simp[cV]at h;split at h
    .rename_i z Y;obtain⟨I,F1,H1,B,C,a1,a2,L,D⟩:=u ro W Q st .norm z Y J ν Z F H y r j;obtain⟨n2,F2,H2,ν2,Z2,b1,b2,b3,b4⟩:=i ro cb hb z o e? h J B C F1 H1 (by rw[D.more,D.yid];exact y) a2 L
     refine⟨max I n2,F2,H2,ν2,Z2,λq G=>?_,b2,b3,D.trans b4⟩
     simp[exec,a1 q (Nat.le_trans (Nat.le_max_left _ _) G)];exact b1 q (Nat.le_trans (Nat.le_max_right _ _) G)
    rename_i Y;obtain⟨I,F1,H1,B,C,a1,a2,L,D⟩:=u ro W Q st o e? h J ν Z F H y r j;refine⟨I,F1,H1,B,C,λq G=>?_,a2,L,D⟩
    simp[exec,a1 q G];cases o <;> first|exact _e h (Y e?)|rfl
   simp at hc
  | region id ops w=>
   simp[bV]at hc;split at hc
   .split at hc
    .obtain⟨_,_,e⟩:=ζf.1 hc;cases e
    simp at hc
   obtain⟨_,_,e⟩:=ζf.1 hc;cases e
  | cond x a b=>simp[bV]at hc;split at hc <;> simp at hc
  | block id b=>simp only[bV]at hc;obtain⟨_,_,e⟩:=ζf.1 hc;cases e
  | loop b=>simp only[bV]at hc;obtain⟨_,_,e⟩:=ζf.1 hc;cases e
  | rangeFunc g ps T d=>
   simp only[bV]at hc;split at hc
   .simp at hc
   split at hc <;> simp at hc
  | _=>simp[bV]at hc
 | cond x a b u i=>
  intro ro code hc;simp[erase]at hc
  cases code with
  | cond g W cb=>
   simp[bV]at hc;split at hc
   .rename_i xg xa xb hg Q hb;simp[RC.cond.injEq]at hc;obtain⟨rfl,rfl,rfl⟩:=hc;intro st o e? h J ν Z F H y r j;simp[cV]at h;split at h
    .rename_i t ht;obtain⟨yv,hy,ry⟩:=HI gd.N r.slot hg ht;rw[ry.fr.bool]at hy;split at h
     .rename_i hb;obtain⟨I,F1,H1,B,C,a1,a2,L,D⟩:=u ro W Q st o e? h J ν Z F H y r j;refine⟨I,F1,H1,B,C,λq G=>?_,a2,L,D⟩
      simp[exec,hy,hb];exact a1 q G
     rename_i hb;obtain⟨I,F1,H1,B,C,a1,a2,L,D⟩:=i ro cb (by assumption) st o e? h J ν Z F H y r j
     refine⟨I,F1,H1,B,C,λq G=>?_,a2,L,D⟩
     simp[exec,hy,hb];exact a1 q G
    simp at h
   simp at hc
  | region id ops w=>
   simp[bV]at hc;split at hc
   .split at hc
    .obtain⟨_,_,e⟩:=ζf.1 hc;cases e
    simp at hc
   obtain⟨_,_,e⟩:=ζf.1 hc;cases e
  | seq a b=>simp[bV]at hc;split at hc <;> simp at hc
  | block id b=>simp only[bV]at hc;obtain⟨_,_,e⟩:=ζf.1 hc;cases e
  | loop b=>simp only[bV]at hc;obtain⟨_,_,e⟩:=ζf.1 hc;cases e
  | rangeFunc g ps T d=>
   simp only[bV]at hc;split at hc
   .simp at hc
   split at hc <;> simp at hc
  | _=>simp[bV]at hc
 | block id a u=>
  intro ro code hc;simp[erase]at hc
  cases code with
  | block ad W=>
   simp only[bV]at hc;obtain⟨xa,Q,e⟩:=ζf.1 hc;simp[RC.block.injEq]at e;obtain⟨rfl,rfl⟩:=e;intro st o e? h J ν Z F H y r j;simp[cV]at h;split at h
   .rename_i ae z Y;obtain⟨I,F1,H1,B,C,a1,a2,L,D⟩:=u ro W Q st (.exit ae) z Y J ν Z F H y r j;split at h
    .rename_i e;simp  at h;obtain⟨rfl,rfl⟩:=h;refine⟨I,F1,H1,B,C,λq G=>?_,a2,L,D⟩
     simp[exec,a1 q G,L' e]
    rename_i e;simp  at h;obtain⟨rfl,rfl⟩:=h;refine⟨I,F1,H1,B,C,λq G=>?_,a2,L,D⟩
    simp[exec,a1 q G,M' e]
   rename_i Y;obtain⟨I,F1,H1,B,C,a1,a2,L,D⟩:=u ro W Q st o e? h J ν Z F H y r j;refine⟨I,F1,H1,B,C,λq G=>?_,a2,L,D⟩
   simp[exec,a1 q G];cases o <;> first|exact _e h (Y _ e?)|rfl
  | region id ops w=>
   simp[bV]at hc;split at hc
   .split at hc
    .obtain⟨_,_,e⟩:=ζf.1 hc;cases e
    simp at hc
   obtain⟨_,_,e⟩:=ζf.1 hc;cases e
  | seq a b=>simp[bV]at hc;split at hc <;> simp at hc
  | cond x a b=>simp[bV]at hc;split at hc <;> simp at hc
  | loop b=>simp only[bV]at hc;obtain⟨_,_,e⟩:=ζf.1 hc;cases e
  | rangeFunc g ps T d=>
   simp only[bV]at hc;split at hc
   .simp at hc
   split at hc <;> simp at hc
  | _=>simp[bV]at hc
 | loop a u=>
  intro ro code hc;simp[erase]at hc
  cases code with
  | loop W=>
   simp only[bV]at hc;obtain⟨xa,Q,e⟩:=ζf.1 hc;simp[RC.loop.injEq]at e;subst e;have:=ZO (u ro W Q);intro st o e? h;simp[cV]at h;exact this st o e? h
  | region id ops w=>
   simp[bV]at hc;split at hc
   .split at hc
    .obtain⟨_,_,e⟩:=ζf.1 hc;cases e
    simp at hc
   obtain⟨_,_,e⟩:=ζf.1 hc;cases e
  | seq a b=>simp[bV]at hc;split at hc <;> simp at hc
  | cond x a b=>simp[bV]at hc;split at hc <;> simp at hc
  | block id b=>simp only[bV]at hc;obtain⟨_,_,e⟩:=ζf.1 hc;cases e
  | rangeFunc g ps T d=>
   simp only[bV]at hc;split at hc
   .simp at hc
   split at hc <;> simp at hc
  | _=>simp[bV]at hc
 | each x ps a b u i=>
  intro ro code hc;simp[erase]at hc
  cases code with
  | rangeFunc g ah T d=>
   simp only[bV]at hc;split at hc
   .simp at hc
   rename_i aa;simp only[Bool.or_eq_true,not_or,Bool.not_eq_true,Bool.not_eq_false']at aa;obtain⟨rfl,af⟩:=aa;split at hc
   next xg xa xb hg Q hb=>simp[RC.each.injEq]at hc;obtain⟨rfl,rfl,rfl,rfl⟩:=hc;have:=ZP gd hI af hg (u true T Q) (i true d hb);intro st o e? h;simp only[cV]at h;exact this st o e? h
   simp at hc
  | region id ops w=>
   simp only[bV]at hc;split at hc
   .split at hc
    .obtain⟨_,_,e⟩:=ζf.1 hc;cases e
    simp at hc
   obtain⟨_,_,e⟩:=ζf.1 hc;cases e
  | seq a b=>simp only[bV]at hc;split at hc <;> simp at hc
  | cond x a b=>simp only[bV]at hc;split at hc <;> simp at hc
  | block id b=>simp only[bV]at hc;obtain⟨_,_,e⟩:=ζf.1 hc;cases e
  | loop b=>simp only[bV]at hc;obtain⟨_,_,e⟩:=ζf.1 hc;cases e
  | _=>simp[bV]at hc
 | exit id=>
  intro ro code hc st o e? h J ν Z F H y r j;simp only[cV,ζa,ζc]at h;obtain⟨rfl,rfl⟩:=h;simp only[erase]at hc;have:∀k,exec S.E (run S.E k) k ro X.nt code F H=some (.exit id,F,H):=λk=>by
   cases code with
   | exit ad=>simp only[bV,ζa,RC.exit.injEq]at hc;subst hc;rfl
   | region id ops w=>
    simp only[bV]at hc;split at hc
    .split at hc
     .obtain⟨_,_,e⟩:=ζf.1 hc;cases e
     simp at hc
    obtain⟨_,_,e⟩:=ζf.1 hc;cases e
   | seq a b=>simp only[bV]at hc;split at hc <;> simp at hc
   | cond x a b=>simp only[bV]at hc;split at hc <;> simp at hc
   | block id b=>simp only[bV]at hc;obtain⟨_,_,e⟩:=ζf.1 hc;cases e
   | loop b=>simp only[bV]at hc;obtain⟨_,_,e⟩:=ζf.1 hc;cases e
   | rangeFunc g ps T d=>
    simp only[bV]at hc;split at hc
    .simp at hc
    split at hc <;> simp at hc
   | _=>simp[bV]at hc
  exact⟨0,F,H,ν,Z,λk _=>this k,r,j,.refl⟩
 | ret=>
  intro ro code hc st o e? h J ν Z F H y r j;simp only[cV,ζa,ζc]at h;obtain⟨rfl,rfl⟩:=h;simp only[erase]at hc;have:∀k,exec S.E (run S.E k) k ro X.nt code F H=some (.ret,F,H):=λk=>by
   cases code with
   | ret=>rfl
   | region id ops w=>
    simp only[bV]at hc;split at hc
    .split at hc
     .obtain⟨_,_,e⟩:=ζf.1 hc;cases e
     simp at hc
    obtain⟨_,_,e⟩:=ζf.1 hc;cases e
   | seq a b=>simp only[bV]at hc;split at hc <;> simp at hc
   | cond x a b=>simp only[bV]at hc;split at hc <;> simp at hc
   | block id b=>simp only[bV]at hc;obtain⟨_,_,e⟩:=ζf.1 hc;cases e
   | loop b=>simp only[bV]at hc;obtain⟨_,_,e⟩:=ζf.1 hc;cases e
   | rangeFunc g ps T d=>
    simp only[bV]at hc;split at hc
    .simp at hc
    split at hc <;> simp at hc
   | _=>simp[bV]at hc
  exact⟨0,F,H,ν,Z,λk _=>this k,r,j,.refl⟩
 | gh x a u=>
  intro ro code hc;simp only[erase]at hc;intro st o e? h J ν Z F H y r j;simp only[cV]at h;obtain⟨z,h1,h2⟩:=ζg.1 h;obtain⟨B,C,g1,g2,g3⟩:=Fix.ghost r y j h1;obtain⟨n,F',H',ν',Z',e1,e2,e3,e4⟩:=u ro code hc z o e? h2 J B C F H (by rw[g3.more,g3.yid];exact y) g1 g2
  exact⟨n,F',H',ν',Z',e1,e2,e3,g3.trans e4⟩
 | hg a x u=>
  intro ro code hc;simp only[erase]at hc;intro st o e? h J ν Z F H y r j;simp only[cV]at h;split at h
  .rename_i z Y;obtain⟨st2,h1,e⟩:=ζf.1 h;simp only[ζc]at e;obtain⟨rfl,rfl⟩:=e;obtain⟨n,F',H',ν',Z',e1,e2,e3,e4⟩:=u ro code hc st .norm z Y J ν Z F H y r j;obtain⟨B,C,g1,g2,g3⟩:=Fix.ghost e2 (by rw[e4.more,e4.yid];exact y) e3 h1
   exact⟨n,F',H',B,C,e1,g1,g2,e4.trans g3⟩
  exact u ro code hc st o e? h J ν Z F H y r j
end
abbrev sY:=FuncId->aX RF
def Ft(E:Env)(f:Y')(az:So)(y:V):Prop:=∃n z H' Z,run E n (.fn f) az []=M (z,H')/\FR H' Z y z/\(∀id,Z id->(bz H' id).isSome=U)/\Deep H' Z
structure uk(S:Sys)(T:sY):Prop where
 fn:∀f rf,T f=some rf->∃fi nm,S.E.ft f=some fi/\(∀g s,nm g=some s->S.N s=g)/\Aj S.E nm fi rf
 A8:∀f az y,S.A8 f az=some y->Ft S.E f az y
 prm:∀f q,S.prm f=some q->qa S.E f q
def UD(S:Sys)(f:Y')(m?:SW)(B:dN):aX (SW×dN):=
 if S.E.keep f then _q else match dG m?,B with
  |some az,[]=>(S.A8 f az).map λy=>([.v y],[])|_,_=>_q
def oa(S:Sys)(T:sY):Nat->b_
 |0=>λ_ _ _=>_q|n+1=>λf m? B=>match T f with
  |some rf=>pM S (oa S T n) rf m? B|none=>UD S f m? B
section
variable{ν ν' ν2:Nu}{Z Z':Nat->Prop}{st e? st2:St}{m m':Tb bG}{F F':WP}{H H' H1:bt}{S:Sys}{c c':b_}{X:CX}{J:JT}{T:sY}
def D5(r:R ν Z st F H){nm:Y'->aX Nat}:∀{B:aY ResultVar}{rs:aY RV}{l:SW},B.mapM (DT S.E)=M rs->lz st rs=M l->∃ys,jS S.E F H B=M ys/\cr ν st.m H Z l ys
 |[],rs,l,hc,h=>by simp at hc;subst hc;simp[lz]at h;subst h;exact⟨[],rfl,.nil⟩|rv::B,rs,l,hc,h=>by simp[ζg]at hc;obtain⟨x,D,ys,G,rfl⟩:=hc;cases rv with|tmp t=>simp[DT]at D;subst D;simp[lz]at h;split at h;(next v I b u=>simp at h;subst h;have⟨w,e1,e2⟩:=D5 r (nm:=nm) G u;exact⟨get F t::w,by simp[jS,e1],.cons (r.slot t v b) e2⟩);grind|cell a t=>simp[DT]at D;obtain⟨d,hd,rfl⟩:=D;simp[lz]at h;split at h;rename_i v I b u;simp at h;subst h;have⟨p,J,b⟩:=ζg.1 b;have⟨w,e1,e2⟩:=D5 r (nm:=nm) G u;have⟨y,g1,g2⟩:=ze (λs a e=>by cases e) (λkk z ok e=>by cases e) (cr.cons (r.slot a p J) .nil) (λL _ ob C=>r.obj L ob C) b;simp[gI]at g1;exact⟨y::w,by simp[jS,hd,e1,g1],.cons g2 e2⟩;grind
def Nl(G:∀f q,S.prm f=M q->qa S.E f q)(j:kz S c)(J:∀f a b xs,S.items f a b=M xs->fM S f a b xs){f:Y'}{fi:FI}{nm:Y'->aX Nat}{rf:RF}(D:S.E.ft f=M fi)(T:∀g s,nm g=M s->S.N s=g)(k:Aj S.E nm fi rf)
 {m?:SW}{B:dN}{rs:SW}{m1:dN}(h:pM S c rf m? B=M (rs,m1)){args:So}(r:R ν Z (start m? B) args H)(A:cr ν B H Z m? args):
 ∃n y H' ν' Z' e? F' ys,run S.E n (.fn f) args H=M (y,H')/\y=result ys/\e?.m=m1/\cr ν' m1 H' Z' rs ys/\R ν' Z' e? F' H'/\Ev (λ_=>False) ν Z (start m? B) H ν' Z' e? H':=by
 have⟨m,z,C⟩:=k;unfold pM at h;split at h
 .have key:∀o e?,cV S c rf.body (start m? B)=M (o,e?)->(∀id,o≠.exit id)->(lz e? rf.rs).map (λrs=>(rs,e?.m))=M (rs,m1)->
   ∃n y H' ν' Z' e? F' ys,run S.E n (.fn f) args H=M (y,H')/\y=result ys/\e?.m=m1/\cr ν' m1 H' Z' rs ys/\R ν' Z' e? F' H'/\Ev (λ_=>False) ν Z (start m? B) H ν' Z' e? H':=λo e? I t w=>by
   have⟨l,d,e⟩:=ζf.1 w;obtain⟨rfl,rfl⟩:=e;have⟨n,F',H',ν',Z',e1,e2,e3,e4⟩:=OP ⟨_l,T,G⟩ j J rf.body O fi.body m _ _ _ I (xR (gj ν (start m? B).m) Z H) ν Z args H xR.yc r (xR.refl r);have⟨ys,p1,p2⟩:=D5 (nm:=nm) e2 z d;have⟨_,L,P,Q,W,X⟩:=e3;refine⟨n+1,result ys,H',ν',Z',e?,F',ys,?_,_l,_l,p2,e2,⟨L,λi d Y p _=>P i d Y p,Q,λi h=>(W i h).imp (λh=>h) .inr,λi h=>(X i h).imp (λh=>h) (.imp (λh=>h) .inr),e4.pin,e4.pins⟩⟩
   have u:_m args<=fi.ntmps:=by rw[<-A.1,<-C];omega
   simp[run,mc,D,L' u,e1 n (x? _)]
   grind
  grind
 grind
def FR.emp{x y:V}(G:∀id,¬Z id)(r:FR H Z x y):x=y:=by
 have B:∀{a w:So},W a=W w->(∀(j:Nat)u v,a[j]?=M u->w[j]?=M v->u=v)->a=w:=λ{a w}h1 z=>by apply List.ext_getElem h1;intro i p q;exact z i _ _ (ζd p) (ζd q)
 induction r with|same x h=>rfl|fsl es C id off D h=>grind|fptr C id el off es D cs h=>grind|clo f a b w I h1 z _ _ i1 i2=>rw[B h1 i1,B z i2]|agg a w h1 _ i1=>grind|tup a w h1 _ i1=>grind
def cr.emp(B:∀id,¬Z id):∀{xs ys:So},cr ν m H Z (xs.map .v) ys->xs=ys
 |[],ys,h=>h.dx.symm|x::xs,ys,h=>by obtain⟨y,ys,rfl,a,D⟩:=h.inv;rw[FR.emp B a.fr,cr.emp B D]
def Ei(B:uk S T)(q:∀f a b xs,S.items f a b=M xs->fM S f a b xs):∀n,kz S (oa S T n)
 |0=>λf m? A rs m1 h=>by simp[oa]at h|n+1=>λf m? A rs m1 h ν Z args H P r D=>by simp[oa]at h;split at h;(next rf G=>have⟨fi,nm,c,g,i⟩:=B.fn f rf G;exact Nl B.prm (Ei B q n) q c g i h r D);unfold UD at h;split at h;simp_all;split at h;rename_i az t;have⟨y,Q,e⟩:=ζf.1 h;obtain⟨rfl,rfl⟩:=e;have⟨k,z,H',X,w,C,I,kU⟩:=B.A8 f az y Q;rcases P with P|rfl;grind;have L:∀id,¬Z id:=λid J=>(by have:=r.zrow id J;simp[bz]at this);have u:=(by rw[x8 t]at D;exact(cr.emp L D).symm);subst u;refine⟨k,z,H',⟨λ_=>(0,0),λ_ _=>0⟩,X,⟨[],[],[],[],U,0⟩,[],[z],w,Y,Y,cr.cons (.v y z C) .nil,?_,?_⟩;exact⟨λs sv h=>by simp[bk]at h,λd ob h=>by simp[bk]at h,λd l ob m j o h=>by simp[bk]at h,λd ob j h=>by simp[bk]at h,I,kU⟩;exact⟨Nat.zero_le _,λid h=>o?,λid h=>_e h (L id),λid h=>g?,λid h=>.inr (.inr (.inr (Nat.zero_le _))),λd h=>by simp[start]at h,Y⟩;grind
abbrev Rg:=aY ((FuncId×aY SV×dN)×(aY SV×dN))
def Gs(c:b_)(L:Rg):Prop:=∀p∈L,c p.1.1 p.1.2.1 p.1.2.2=M p.2
def Fin{α:Type}(c:b_)(f:b_->aX α)(r:α):Prop:=∃L:Rg,Gs c L/\∀c',Gs c' L->f c'=M r
def Fin.pure{α:Type}{f:b_->aX α}{r:α}(h:∀c',f c'=M r):Fin c f r:=⟨[],λp u=>o?,λc' _=>h c'⟩
def Fin.bind{α β:Type}{f:b_->aX α}{r:α}{g:b_->aX β}{q:β}(b:Fin c f r)(B:b_->α->aX β)(D:Fin c (λc=>B c r) q)(d:∀c',f c'=M r->g c'=B c' r):Fin c g q:=by have⟨w,a1,z⟩:=b;have⟨C,a2,G⟩:=D;refine⟨w++C,λp u=>(List.mem_append.1 u).elim (a1 p) (a2 p),λc' a=>?_⟩;rw[d c' (z c' λp u=>a p (List.mem_append_left _ u))];exact G c' λp u=>a p (List.mem_append_right _ u)
def Fin.call{f:Y'}{m?:SW}{B:dN}{r:SW×dN}(h:c f m? B=M r):Fin c (λc=>c f m? B) r:=⟨[((f,m?,B),r)],λp u=>g?,λc' a=>a ((f,m?,B),r) f?⟩
def Jr{dst:aX Nat}{dr now:X'}{old:SW->X'}{f:Y'}{args:SW}{r:SV×St}(h:e_ S c dst dr now old f args st=M r):Fin c (λc=>e_ S c dst dr now old f args st) r:=by have w:=h;unfold e_ at h;split at h;split at h;split at h;split at h;split at h;rename_i rs m' a;refine(Fin.call a).bind (λc' q=>e_ S c dst dr now old f args st) (.pure λ_=>w) (λc' u=>?_);unfold e_;grind;grind;grind;rename_i z;split at h;rename_i q B;refine .pure λc'=>?_;unfold e_;simp_all;rename_i B;split at h;rename_i os G;split at h;rename_i rs m' a;refine(Fin.call a).bind (λc' q=>e_ S c dst dr now old f args st) (.pure λ_=>w) (λc' u=>?_);unfold e_;clear h w;simp[*];grind;grind;split at h;split at h;split at h;rename_i rs m' a;refine(Fin.call a).bind (λc' q=>e_ S c dst dr now old f args st) (.pure λ_=>w) (λc' u=>?_);unfold e_;simp_all;grind;grind;grind;rename_i b;split at h;rename_i az C;split at h;rename_i D;split at h;rename_i rs m' a;refine(Fin.call a).bind (λc' q=>e_ S c dst dr now old f args st) (.pure λ_=>w) (λc' u=>?_);unfold e_;simp[b,C,D,a,u];grind;grind;grind
def Yr{dr:X'}{fr:ST}{o:RO}{r:SV×St}(h:ox S c dr fr o st=M r):Fin c (λc=>ox S c dr fr o st) r:=by have w:=h;unfold ox at h;split at h;rename_i B u;split at h;refine .pure λc'=>?_;have a:=w;unfold ox at a⊢;rename_i b;simp only[u,b]at a⊢;exact a;refine .pure λc'=>?_;have a:=w;unfold ox at a⊢;rename_i C b;simp only[u,b]at a⊢;exact a;refine .pure λc'=>?_;have a:=w;unfold ox at a⊢;rename_i b;simp only[u,b]at a⊢;exact a;refine .pure λc'=>?_;have a:=w;unfold ox at a⊢;rename_i b;simp only[u,b]at a⊢;exact a;refine .pure λc'=>?_;have a:=w;unfold ox at a⊢;rename_i b;simp only[u,b]at a⊢;exact a;rename_i b;split at h;refine(Jr h).bind (λ_ q=>M q) (.pure λ_=>rfl) (λc' z=>?_);unfold ox;simp only[u,b,z];refine(Jr h).bind (λ_ q=>M q) (.pure λ_=>rfl) (λc' z=>?_);unfold ox;simp only[u,b,z];simp at h;refine .pure λc'=>?_;have a:=w;unfold ox at a⊢;rename_i b;simp only[u,b]at a⊢;exact a;refine .pure λc'=>?_;have a:=w;unfold ox at a⊢;rename_i b;simp only[u,b]at a⊢;exact a;simp at h
def Yk{dr:X'}{fr:ST}{o:RO}{r:St}(h:gT S c dr fr o st=M r):Fin c (λc=>gT S c dr fr o st) r:=by unfold gT at h;split at h;split at h;refine .pure λc'=>?_;unfold gT;grind;have⟨q,u,e⟩:=ζf.1 h;refine(Yr u).bind (λ_ q=>M (dA q.2 o.dst q.1)) (.pure λ_=>o?) (λc' w=>?_);unfold gT;grind;refine .pure λc'=>?_;unfold gT;grind;grind
def Fv{dr:X'}:∀{l:R0}{fr:ST}{st r:St},qf S c dr fr l st=M r->Fin c (λc=>qf S c dr fr l st) r
 |[],fr,st,r,h=>.pure λ_=>h|o::l,fr,st,r,h=>by simp[qf]at h;split at h;(next D B=>have⟨G,a,B⟩:=ζg.1 B;exact(Yk B).bind (λc' q=>qf S c' dr (if dr then tX fr o.strip else fr) l (su o.dead q)) (Fv h) (λc' u=>by simp[qf,a,u]));grind
def I9{f:b_->St->aX (Out×St)}(D:∀st r,f c st=M r->Fin c (λc=>f c st) r):∀{k:Nat}{st:St}{r:Out×St},k_ (f c) k st=M r->Fin c (λc=>k_ (f c) k st) r
 |0,st,r,h=>by simp[k_]at h|k+1,st,r,h=>by simp[k_]at h;split at h;(next G J=>exact(D st _ J).bind (λc' q=>k_ (f c') k G) (I9 D h) (λc' B=>by simp[k_,B]));refine(D st r h).bind (λ_ q=>M q) (.pure λ_=>rfl) (λc' B=>?_);simp[k_,B];grind
def JU{f:b_->So->Tb bG->aX (Out×Tb bG)}(D:∀x m r,f c x m=M r->Fin c (λc=>f c x m) r):∀{xs:S'}{m:Tb bG}{r:Out×Tb bG},tu (f c) xs m=M r->Fin c (λc=>tu (f c) xs m) r
 |[],m,r,h=>.pure λ_=>h|x::xs,m,r,h=>by simp[tu]at h;split at h;(next m1 G=>exact(D x m _ G).bind (λc' q=>tu (f c') xs m1) (JU D h) (λc' B=>by simp[tu,B]));refine(D x m r h).bind (λ_ q=>M q) (.pure λ_=>rfl) (λc' B=>?_);simp[tu,B];grind
def Tu:∀{d:RC}{st:St}{r:Out×St},cV S c d st=M r->Fin c (λc=>cV S c d st) r:=by intro d;induction d with|skip=>exactλh=>.pure λ_=>h|exit id=>exactλh=>.pure λ_=>h|ret=>exactλh=>.pure λ_=>h|ops l=>intro st r h;simp only[cV]at h⊢;have⟨q,G,e⟩:=ζf.1 h;exact(Fv G).bind (λ_ q=>M (.norm,q)) (.pure λ_=>o?) (λc' w=>g?)|vJ l=>intro st r h;simp only[cV]at h⊢;have⟨q,G,e⟩:=ζf.1 h;exact(Fv G).bind (λ_ q=>M (.norm,q)) (.pure λ_=>o?) (λc' w=>g?)|seq a b u C=>intro st r h;simp[cV]at h⊢;split at h;(next B D=>exact(u D).bind (λc' q=>cV S c' b B) (C h) (λc' w=>g?));rename_i D;refine(u h).bind (λ_ q=>M q) (.pure λ_=>rfl) (λc' w=>?_);grind|cond x a b u C=>intro st r h;simp[cV]at h⊢;grind|block id a u=>intro st r h;simp[cV]at h⊢;split at h;(next I B D=>exact(u D).bind (λc' q=>if I=id then M (.norm,B)else M (.exit I,B)) (.pure λ_=>h) (λc' w=>g?));refine(u h).bind (λ_ q=>M q) (.pure λ_=>rfl) (λc' w=>?_);grind|loop a u=>intro st r h;have⟨k,j⟩:=pX.1 h;refine(I9 (λst r h=>u h) j).bind (λ_ q=>M q) (.pure λ_=>rfl) (λc' w=>?_);exact pX.2 ⟨k,w⟩|each g ps a b u C=>intro st r h;simp only[cV]at h⊢;split at h;split at h;have⟨q,G,e⟩:=ζf.1 h;refine(JU (f:=λc=>kD ps (cV S c a) (cV S c b) st) (λz m r h=>?_) G).bind (λ_ q=>M (q.1,{st with m:=q.2})) (.pure λ_=>o?) (λc' w=>g?);unfold kD at h;split at h;split at h;rename_i B i;have⟨L,J,e2⟩:=ζf.1 h;refine(u i).bind (λc' q=>(cV S c' b B).map λ(o,st2)=>(o,st2.m)) ((C J).bind (λ_ q=>M (q.1,q.2.m)) (.pure λ_=>o?) (λc' w=>g?)) (λc' w=>?_);unfold kD;grind;grind;grind;grind;grind|gh x a u=>intro st r h;simp[cV]at h⊢;have⟨B,i,t⟩:=ζg.1 h;grind|hg a x u=>intro st r h;simp[cV]at h⊢;split at h;(next B D=>exact(u D).bind (λc' q=>(ghost x B).map λst=>(.norm,st)) (.pure λ_=>h) (λc' w=>g?));refine(u h).bind (λ_ q=>M q) (.pure λ_=>rfl) (λc' w=>?_);grind
def Cp{rf:RF}{m?:SW}{B:dN}{r:SW×dN}(h:pM S c rf m? B=M r):Fin c (λc=>pM S c rf m? B) r:=by have u:=h;unfold pM at h;split at h;split at h;simp_all;rename_i o st w z;refine(Tu z).bind (λc' q=>pM S c rf m? B) (.pure λ_=>u) (λc' C=>?_);unfold pM;grind;grind;grind
def GQ:∀{n:Nat}{f:Y'}{m?:SW}{B:dN}{r:SW×dN},oa S T n f m? B=M r->oa S T (n+1) f m? B=M r
 |0,f,m?,B,r,h=>by simp[oa]at h|n+1,f,m?,B,r,h=>by simp[oa]at h;rw[oa];split at h;(next rf D=>have⟨L,a,G⟩:=Cp h;simp[D];exact G _ λp u=>GQ (a p u));grind
def Fs{n k:Nat}(h:n<=k){f:Y'}{m?:SW}{B:dN}{r:SW×dN}(D:oa S T n f m? B=M r):oa S T k f m? B=M r:=by induction h with|refl=>omega|step _ u=>exact GQ u
open Classical in
def dB(S:Sys)(T:sY):b_:=λf u w=>if h:∃n r,oa S T n f u w=M r then M (Classical.choose (S? h))else _q
def vk{f:Y'}{m?:SW}{B:dN}{r:SW×dN}:dB S T f m? B=M r↔∃n,oa S T n f m? B=M r:=by unfold dB;constructor;intro h;split at h;grind;grind;rintro⟨k,a⟩;have u:∃n r,oa S T n f m? B=M r:=⟨k,r,a⟩;have w:=S? (S? u);have z:=Fs (k! (Classical.choose u) k) w;have C:=Fs (i! (Classical.choose u) k) a;grind
def Rk{L:Rg}(h:Gs (dB S T) L):∃n,∀k,n<=k->Gs (oa S T k) L:=by induction L with|nil=>exact⟨0,λk _ p hp=>o?⟩|cons q L u=>have⟨w,b⟩:=vk.1 (h q f?);have⟨z,B⟩:=u λp hp=>h p (List.mem_cons_of_mem _ hp);refine⟨max w z,λk a p hp=>?_⟩;rcases List.mem_cons.1 hp with rfl|hp;exact Fs (V? (k! _ _) a) b;exact B k (V? (i! _ _) a) p hp
def Jf{f:Y'}{az:So}{y:V}(B:T f=_q)(b:S.E.keep f=O)(h:S.A8 f az=M y):dB S T f (az.map .v) []=M ([.v y],[]):=by
 refine vk.2 ⟨1,?_⟩;have u:dG (az.map .v)=M az:=by clear h;induction az with|nil=>rfl|cons a l w=>simp only[List.map_cons,dG,w];rfl
 simp only[oa,B,UD,b,u,h];rfl
def uy{f:Y'}{rf:RF}(D:T f=M rf)(m?:SW)(B:dN):dB S T f m? B=pM S (dB S T) rf m? B:=by cases h:pM S (dB S T) rf m? B with|some r=>have⟨L,a,w⟩:=Cp h;have⟨n,u⟩:=Rk a;refine vk.2 ⟨n+1,?_⟩;simp[oa,D];grind|none=>cases w:dB S T f m? B with|none=>rfl|some r=>have⟨n,u⟩:=vk.1 w;cases n with|zero=>simp[oa]at u|succ n=>simp[oa,D]at u;have⟨L,z,C⟩:=Cp u;have I:=C (dB S T) λp G=>vk.2 ⟨n,z p G⟩;grind
def Ao(B:uk S T)(D:∀f a b xs,S.items f a b=M xs->fM S f a b xs):kz S (dB S T):=λf u w rs z h=>by have⟨n,C⟩:=vk.1 h;exact Ei B D n f u w rs z C
def OD(a__:∀f q,S.prm f=M q->qa S.E f q)(e:kz S c){f:Y'}{fi:FI}{nm:Y'->aX Nat}{rf:RF}(W:∀f a b xs,S.items f a b=M xs->fM S f a b xs)(D:S.E.ft f=M fi)(Y:∀g s,nm g=M s->S.N s=g)(l:Aj S.E nm fi rf){a b:So}{xs:S'}
 (T:_m a+1+_m b<=rf.na)(G:rf.rs=[])
 (h:∀B more,(more=U/\B=xs\/more=O/\B≠[]/\∃r,xs=B++r)->∀yid,∃o e?,cV S c rf.body {g:=ye 0 (a.map .v++.yl yid::b.map .v),m:=[],pin:=[],want:=B,more:=more,yid:=yid}=M (o,e?)/\(∀id,o≠.exit id)/\e?.want=[]/\e?.m=e?.m):
 fM S f a b xs:=by
 intro B more b__ yid J y Z z C H Q X p hd j;have⟨o,e?,t,E,v,_⟩:=h B more b__ yid;have⟨x,w,I⟩:=l;have L:cr ⟨λ_=>(0,0),λ_ _=>0⟩ [] H Z (a.map .v++.yl yid::b.map .v) (z++.yld yid::C):=(cr.tg Q).append (.cons (.yl yid) (cr.tg X))
 have A:R ⟨λ_=>(0,0),λ_ _=>0⟩ Z {g:=ye 0 (a.map .v++.yl yid::b.map .v),m:=[],pin:=[],want:=B,more:=more,yid:=yid} (z++.yld yid::C) H:=⟨AJ L,λd ob h=>by simp[bk]at h,λd F ob K j P h=>by simp[bk]at h,λd ob j h=>by simp[bk]at h,p,hd⟩
 have⟨n,F',H',ν',Z',e1,e2,e3,e4⟩:=OP ⟨_l,Y,a__⟩ e W rf.body O fi.body x _ _ _ t J _ Z _ H y A (by
  refine y.zG _ _ _ _ _ _ _ j (x? _) (λ_ _ _ _=>rfl) (λi hi=>⟨hi,_l⟩) (λi hi=>?_) (λi hi=>.inl hi)
  have⟨d,ob,j,h,_⟩:=hi;simp[bk]at h)
 rw[v]at e3;rw[G]at w;have⟨ys,p1,p2⟩:=D5 (nm:=nm) e2 w _l;refine⟨n+1,result ys,H',_,Z',λk N=>?_,e3⟩
 have u:_m (z++V.yld yid::C)<=fi.ntmps:=by rw[<-L.1,<-I];simp;omega
 cases k with
 |zero=>omega|succ k=>
  simp[run,mc,D,L' u,e1 k a?]
  grind
def YV(B:uk S T)(D:∀f a b xs,S.items f a b=M xs->fM S f a b xs){f:Y'}{az:So}(d:V.c_ az=U){y:V}{m':dN}(h:dB S T f (az.map .v) []=M ([.v y],m'))(G:y.scalar=U):
 ∃n H',run S.E n (.fn f) az []=M (y,H'):=by
 have⟨u,r1⟩:=Cr d;obtain⟨n,I,H2,ν',Z',e?,F',w,c,rfl,J,C,L,_⟩:=Ao B D f _ _ _ _ h _ _ az [] (.inr Y) u r1;obtain⟨z,w,rfl,e1,e2⟩:=C.inv;rw[e2.dx]at c;have:=(e1.fr.scalar).1 G;subst this;exact⟨n,H2,c⟩
end
end Go.VE
