/- Objects, calls. -/
import Derived.Test.YtddlogilhmloeadGreatDoorN1
set_option linter.all false
open Option renaming some→M,some→_h,none→G,none→_n,bind→H,bind→_l
open Bool renaming true→O,true→_k,false→U,false→_m
open Decidable renaming decide→_p
open List renaming length→W,length→_j
open Go.IntKind renaming i64→Z,i64→_o
open Option renaming map_some→B?
open Bool renaming false_eq_true→v?,or_eq_true→g!
open Nat renaming le_max_left→p!,le_max_right→n!,le_refl→z?,le_trans→U?
open Classical renaming choose_spec→W?
noncomputable section
open Nat(le)
open Nat(le)
open Nat(le)
open Nat(le)
namespace Go.VE
variable[b8]
def gL(N:Nat->Y')(g:Tb SV)(o:RO):aY (Nat×R'):=
 match o.k,bW N g o.az with
 |.c,M (.yl id::u)=>M (id,u)|_,_=>G
open Classical in
def gA(S:Sys)(c:cg)(dr:X')(fr:ST)(o:RO)(st:St):aY St:=
 match wanted st.g o.gd with
 |some O=>match gL S.N st.g o with
  |some (id,z)=>if dr then G else match dw z,st.want with
   |some B,w::u=>if B=w/\id=st.yid then M (c8 {st with want:=u} o.dst (.v (.bool (st.more|| !u.isEmpty))))else G|_,_=>G
  |none=>(oa S c dr fr o st).map λ(x,e?)=>c8 e? o.dst x
 |some U=>M (c8 st o.dst (.v .undef))|none=>G
def RO.strip(o:RO):RO:={o with dead:=[],pre:=[]}
def qN:QR->St->aY St
 |[],st=>M st|x::r,st=>_l (ghost x st) (qN r)
def CK:Gh->X'
 |.keep ..=>O|.drop _=>O|_=>U
def Fe(dr:X')(l:QR)(st:St):aY St:=if dr then(if l.all CK then qN l st else G)else qN l st
def rJ(ds:ST)(st:St):St:={st with g:=rB ds st.g}
def pO(S:Sys)(c:cg)(dr:X'):ST->Rd->St->aY St
 |_,[],st=>M st|fr,o::r,st=>match(Fe dr o.pre st).bind (gA S c dr fr o.strip)with
  |some e?=>pO S c dr (if dr then tW fr o.strip else fr) r (rJ o.dead e?)|none=>G
abbrev JT:=aX (aX V)->(Nat->Prop)->(Nat->Prop)->bl->Prop
structure Yc(S:Sys)(J:JT)(more:Bool)(yid:Nat):Prop where
 ze:∀w O Z H O' Z' H',J w O Z H->H.length<=H'.length->(∀i,i<H.length->¬O i->¬Z i->H'[i]?=H[i]?)->(∀i,Z i->Z' i/\bn H' i=bn H i)->
  (∀i,O' i->O i\/H.length<=i)->(∀i,Z' i->Z i\/O i\/H.length<=i)->J w O' Z' H'
 yield:∀x ws O Z H args,J (x::ws) O Z H->dJ H Z x args->(∀i,Z i->(bn H i).isSome=true)->Deep H Z->(∀i,O i->¬Z i/\i<H.length)->
  ∃n H',run S.E n (.yld yid) args H=some (.bool (more|| !ws.isEmpty),H')/\J ws O Z H'/\H.length<=H'.length/\(∀i,O i->H'[i]?=H[i]?)/\(∀i,Z i->bn H' i=bn H i)
structure Fix(ν:Nu)(st:St)(ν':Nu)(e?:St):Prop where
 pin:∀d∈st.pin,∀l?,bh e?.m d=some l?->∃ob,bh st.m d=some ob/\ν' d=ν d/\sameShape ob l?
 pins:e?.pin=st.pin
 more:e?.more=st.more
 yid:e?.yid=st.yid
section
variable{Rv:Nat->Prop}{ν ν' ν2:Nu}{Z Z':Nat->Prop}{st e? st2:St}{m m':Tb bD}{F F':WP}{H H' H1:bl}{S:Sys}{c:cg}{X:CX}{J:JT}
def Fix.refl:Fix ν st ν st:=⟨λ_ _ u h=>⟨u,h,Y,.refl _⟩,Y,Y,Y⟩
def Fix.trans(a:Fix ν st ν' e?)(b:Fix ν' e? ν2 st2):Fix ν st ν2 st2:=
 ⟨λd hd u h=>by
  have⟨w,c,B,z⟩:=b.pin d (by rw[a.pins];omega) u h
  have⟨ob,k1,k2,k3⟩:=a.pin d hd w c;exact⟨ob,k1,o?,k3.trans z⟩,by rw[b.pins,a.pins],by rw[b.more,a.more],by rw[b.yid,a.yid]⟩
def Ev.beside(y:Yc S J st.more st.yid)(a:Ev (λ_=>False) ν Z st H ν' Z' e? H')(B:e?.want=st.want)(j:J st.want (fU ν st.m) Z H):J e?.want (fU ν' e?.m) Z' H':=by
 rw[B];exact y.ze _ _ _ _ _ _ _ j a.len (λi b u w=>a.same i b u w (λh=>h)) a.rows (λi h=>(a.own i h).imp (λh=>h) (λh=>h.elim (λh=>h.elim) (λh=>h)))
  (λi h=>(a.frz i h).imp (λh=>h) (λh=>h.imp (λh=>h) (λh=>h.elim (λh=>h.elim) (λh=>h))))
def yE(D:∀s sv,bh st.g s=M sv->dg ν m H Z sv (get F s)){ops:R0}{o:Oper}{gd:aY (Nat×X')}(a:Fv ops o=M gd){t:X'}(B:wanted st.g gd=M t):gV ops F o=t:=by unfold Fv at a;unfold gV;cases u:o.guard with|none=>rw[u]at a;simp at a;simp[wanted]at B;grind|some C=>rw[u]at a;obtain⟨d,hd,rfl⟩:=ζf.1 a;simp[hd];simp[wanted]at B;split at B;(next c b=>simp at B;subst B;rw[(D d _ b).fr.bool]);rename_i x g b;simp at B;subst B;have w:=(D d _ b).fr;split;rename_i c z;rw[z]at w;cases w;grind;rfl;grind
def JD{dst:aY Nat}{size:Nat}{s x sv:SV}(h:Dq st dst size s x=M (sv,e?)):e?.want=st.want/\e?.pin=st.pin/\e?.more=st.more/\e?.yid=st.yid:=by unfold Dq at h;dsimp only at h;(repeat' split at h)<;>cases h;exact⟨Y,Y,Y,Y⟩
def PN{x:Gh}(h:ghost x st=M e?):e?.want=st.want/\e?.more=st.more/\e?.yid=st.yid:=by
 unfold Go.VE.ghost C2 Kk HH at h;(repeat' split at h)<;>first|grind|skip
 all_goals
  unfold DC at h;split at h
  .split at h
   .have⟨_,_,h⟩:=ζg.1 h;obtain⟨_,_,rfl⟩:=ζf.1 h;exact⟨Y,Y,Y⟩
   cases h
  .cases h;exact⟨Y,Y,Y⟩
  cases h
def SY{q:JA}{dst:aY Nat}{args:R'}{sv:SV}(h:EJ q dst args st=M (sv,e?)):e?.want=st.want/\e?.pin=st.pin/\e?.more=st.more/\e?.yid=st.yid:=by unfold EJ at h;grind
def Ui{dr:X'}{fr:ST}{ro:RO}{sv:SV}(h:oa S c dr fr ro st=M (sv,e?)):e?.want=st.want/\e?.pin=st.pin/\e?.more=st.more/\e?.yid=st.yid:=by
 unfold oa at h;split at h
 .split at h;split at h;split at h;simp at h;unfold Du at h;split at h;split at h;have⟨_,_,h⟩:=ζg.1 h;have⟨_,_,h⟩:=ζg.1 h;dsimp only at h;split at h;simp only[ζa,ζc]at h;obtain⟨_,rfl⟩:=h;exact⟨Y,Y,Y,Y⟩;simp at h;simp at h;simp at h;have⟨_,_,e⟩:=ζf.1 h;simp only[ζc]at e;obtain⟨_,rfl⟩:=e;exact⟨Y,Y,Y,Y⟩;have⟨_,_,e⟩:=ζf.1 h;simp only[ζc]at e;obtain⟨_,rfl⟩:=e;exact⟨Y,Y,Y,Y⟩;split at h;have⟨_,_,e⟩:=ζf.1 h;simp only[ζc]at e;obtain⟨_,rfl⟩:=e;exact⟨Y,Y,Y,Y⟩;simp at h;split at h;split at h;have⟨_,_,e⟩:=ζf.1 h;simp only[ζc]at e;obtain⟨_,rfl⟩:=e;exact⟨Y,Y,Y,Y⟩;simp at h;simp at h
  .split at h
   .unfold mM at h;((repeat' split at h)<;>first|exact JD h|(simp at h;done)|(simp only[ζa,ζc]at h;obtain⟨_,rfl⟩:=h;exact⟨Y,Y,Y,Y⟩)|(have⟨_,_,e⟩:=ζf.1 h;simp only[ζc]at e;obtain⟨_,rfl⟩:=e;exact⟨Y,Y,Y,Y⟩)|skip);dsimp only at h;(repeat' split at h)<;>first|(simp at h;done)|(simp only[ζa,ζc]at h;obtain⟨_,rfl⟩:=h;exact⟨Y,Y,Y,Y⟩)
   simp at h
  .have hc:∀{dst dr now u f args},eU S c dst dr now u f args st=M (sv,e?)->e?.want=st.want/\e?.pin=st.pin/\e?.more=st.more/\e?.yid=st.yid:=(by intro dst dr now u f args h;unfold eU at h;(repeat' split at h)<;>first|exact SY h|(have⟨_,_,e⟩:=ζf.1 h;simp only[ζc]at e;obtain⟨_,rfl⟩:=e;exact⟨Y,Y,Y,Y⟩)|(simp at h;done)|(simp only[ζa,ζc]at h;obtain⟨_,rfl⟩:=h;exact⟨Y,Y,Y,Y⟩));split at h;exact hc h;exact hc h;simp at h
  split at h;simp at h;split at h;have⟨_,_,h⟩:=ζg.1 h;have⟨_,_,e⟩:=ζf.1 h;simp only[ζc]at e;obtain⟨_,rfl⟩:=e;exact⟨Y,Y,Y,Y⟩;simp at h;have z:∀{dst l w},mM st dst l w=M (sv,e?)->e?.want=st.want/\e?.pin=st.pin/\e?.more=st.more/\e?.yid=st.yid:=by intro dst l w h;unfold mM at h;((repeat' split at h)<;>first|exact JD h|(simp at h;done)|(simp only[ζa,ζc]at h;obtain⟨_,rfl⟩:=h;exact⟨Y,Y,Y,Y⟩)|(have⟨_,_,e⟩:=ζf.1 h;simp only[ζc]at e;obtain⟨_,rfl⟩:=e;exact⟨Y,Y,Y,Y⟩)|skip);all_goals (dsimp only at h;(repeat' split at h)<;>first|(simp at h;done)|(simp only[ζa,ζc]at h;obtain⟨_,rfl⟩:=h;exact⟨Y,Y,Y,Y⟩))
  split at h;exact z h;exact z h;simp at h
 simp at h
def DY(r:R ν Z st F H){a:Nat}{dst:aY Nat}(hd:BS a dst=O){sv:SV}{y:V}(h:dg ν st.m H Z sv y):∃F',lQ a F dst y=M F'/\R ν Z (c8 st dst sv) F' H:=by cases dst with|none=>exact⟨F,rfl,r⟩|some d=>have:=(by simpa[BS]using hd);exact⟨set F d y,by simp[lQ,J0 this],r.put h⟩
def Hj(st:St)(dst:aY Nat)(sv:SV):(c8 st dst sv).m=st.m/\(c8 st dst sv).want=st.want/\(c8 st dst sv).pin=st.pin/\(c8 st dst sv).more=st.more/\(c8 st dst sv).yid=st.yid:=by cases dst<;>exact⟨Y,Y,Y,Y,Y⟩
def Ou(gd:Good X S)(m:jT S c){ops:R0}{place:aY (Nat×Nat)}{dr:X'}{fr:ST}{i:Nat}(J:dr=place.isSome)(hi:∀b j,place=M (b,j)->j=i)
 (a:∀b j,place=M (b,j)->b<=_j H/\Old b fr ν Z st.m)
 {o:Oper}{ro:RO}(f:oF X dr ops i o=M ro)(T:∀b j,place=M (b,j)->ops[j]?=M o)(D:∀b j,place=M (b,j)->cV o.op=.alloc->H[b+j]?=M .free)
 (r:R ν Z st F H)(B:gL S.N st.g ro=G\/dr=O)(h:gA S c dr fr ro st=M e?):
 ∃n F' H' ν' Z',(∀k,n<=k->iI S.E (run S.E k) X.nt ops place o F H=M (F',H'))/\R ν' Z' e? F' H'/\Ev (λid=>∃b j,place=M (b,j)/\id=b+j) ν Z st H ν' Z' e? H'/\
  (dr=O->Z'=Z/\Kept (BM ro) ν st.m ν' e?.m)/\e?.want=st.want/\Fix ν st ν' e?:=by
 have t:=f;obtain⟨u,g,now,k,az,l,rfl⟩:=FL f;unfold gA at h;split at h
 .rename_i I;have w:=yE r.slot l I;have N:(oa S c dr fr ⟨o.dst,g,now,k,az,[],[]⟩ st).map (λ(x,e?)=>c8 e? o.dst x)=M e?:=by
   split at h
   .rename_i id vs C;rcases B with B|B
    .rw[B]at C;cases C
    subst B;simp at h
   exact h
  obtain⟨⟨x,L⟩,hd,rfl⟩:=ζf.1 N;have⟨n,y,H',ν',Z',e1,e2,e3,e4,e5⟩:=abO gd m J hi a t T D r hd;have⟨W,Q,P,p⟩:=Ui hd;have⟨F',e,A⟩:=DY e2 u e3;have⟨p1,p2,p3,p4,p5⟩:=Hj L o.dst x;refine⟨n,F',H',ν',Z',λk q=>?_,A,?_,λhd=>⟨(e5 hd).1,by rw[p1];exact(e5 hd).2⟩,by rw[p2,W],⟨λd hd=>by rw[p1];exact e4.pin d hd,by rw[p3,Q],by rw[p4,P],by rw[p5,p]⟩⟩
  .unfold iI;simp only[w,L',e1 k q,e,B?]
  exact⟨e4.len,e4.same,e4.rows,λid h=>e4.own id (by rw[p1]at h;exact h),e4.frz,λd hd=>by rw[p1];exact e4.pin d hd,by rw[p3,Q]⟩
 .rename_i I;have w:=yE r.slot l I;simp only[ζa]at h;subst h;have⟨F',e,A⟩:=DY r u (.v V.undef V.undef (.same _ Y));have⟨p1,p2,p3,p4,p5⟩:=Hj st o.dst (.v .undef);refine⟨0,F',H,ν,Z,λk _=>?_,A,?_,λ_=>⟨Y,by rw[p1];exact .refl⟩,p2,⟨λd hd=>by rw[p1];exactλz h=>⟨z,h,Y,.refl _⟩,p3,p4,p5⟩⟩
  .unfold iI;simp only[w,v?,M',e,B?]
  exact⟨z? _,λ_ _ _ _ _=>rfl,λ_ h=>⟨h,Y⟩,λ_ h=>.inl (by rw[p1]at h;exact h),λ_ h=>.inl h,λd hd=>by rw[p1];exactλz h=>⟨z,h,Y,.refl _⟩,p3⟩
 simp at h
def T8(gd:Good X S)(y:Yc S J st.more st.yid){ops:R0}{fr:ST}{i:Nat}{o:Oper}{ro:RO}(a:oF X U ops i o=M ro)
 (r:R ν Z st F H)(j:J st.want (fU ν st.m) Z H){id:Nat}{vs:R'}(B:gL S.N st.g ro=M (id,vs))(D:wanted st.g ro.gd=M O)(h:gA S c U fr ro st=M e?):
 ∃n F' H',(∀k,n<=k->iI S.E (run S.E k) X.nt ops G o F H=M (F',H'))/\R ν Z e? F' H'/\J e?.want (fU ν e?.m) Z H'/\Fix ν st ν e?:=by
 unfold oF at a;simp only[Bool.false_and,v?,M',Bool.not_false,Bool.and_true]at a;split at a
 .rename_i C;split at a
  .rename_i g k os hg hr;split at a
   .obtain⟨az,a__,rfl⟩:=ζf.1 a;unfold gA at h;simp only at D;have L:=yE r.slot hg D;rw[D]at h;simp only[B,v?,M']at h;unfold gL at B;split at B
    .rename_i W Y b N;simp only[ζa,ζc]at B;obtain⟨rfl,rfl⟩:=B;simp only at b N;subst b;have⟨ys,P,rs⟩:=qJ gd.N r.slot a__ N;have⟨g1,A,E,e1,e2⟩:=kL gd.N hr P;have⟨w,K,e,r1,r2⟩:=rs.inv;rw[e]at e1;simp only[List.cons.injEq]at e1;obtain⟨rfl,rfl⟩:=e1;cases r1;simp only at e2;split at h
     .rename_i xs x I hx u;split at h
      .rename_i z;obtain⟨rfl,rfl⟩:=z;simp only[ζa]at h;subst h;rw[u]at j;have⟨n,H',p1,p2,p3,p4,p5⟩:=y.yield _ _ _ _ _ _ j (r2.dw hx) r.zrow r.deep (λi hi=>⟨by obtain⟨d,ob,j,f,l,rfl⟩:=hi;exact r.apart d ob j f l,r.lt hi⟩)
       have r3:R ν Z st F H':=r.heap p4 p5;have r4:R ν Z {st with want:=I} F H':=⟨r3.slot,r3.obj,r3.inj,r3.apart,r3.zrow,r3.deep⟩;have⟨F',m,p⟩:=DY (st:={st with want:=I}) r4 C (sv:=.v (.bool (st.more|| !I.isEmpty))) (.v _ _ (.same _ _i));have⟨T,q,s,t,v⟩:=Hj {st with want:=I} o.dst (.v (.bool (st.more|| !I.isEmpty)));refine⟨n,F',H',λk b=>?_,p,by rw[T,q];exact p2,⟨λd hd=>by rw[T];exactλQ h=>⟨Q,h,_i,.refl _⟩,s,t,v⟩⟩
       unfold iI dn;rw[g1,e2];simp only[L,L',(qT S.E b).go _ _ _ _ p1,m,B?]
      simp at h
     simp at h
    simp at B
   simp at a
  simp at a
 simp at a
def ni(X:CX)(B:X')(ops:R0):Nat->R0->aY Rd
 |_,[]=>M []|i,o::r=>match oF X B ops i o,ni X B ops (i+1) r with
  |some ro,M rs=>M (ro::rs)|_,_=>G
def R.BK(r:R ν Z st F H)(ds:ST):R ν Z (rJ ds st) F H:=r.less (λs w u=>qA u) (λd ob hd=>hd)
def Fix.BK{ds:ST}(f:Fix ν (rJ ds st) ν' e?):Fix ν st ν' e?:=⟨f.pin,f.pins,f.more,f.yid⟩
def Fix.ghost(r:R ν Z st F H)(y:Yc S J st.more st.yid)(j:J st.want (fU ν st.m) Z H){x:Gh}(h:ghost x st=M e?):∃ν' Z',R ν' Z' e? F H/\J e?.want (fU ν' e?.m) Z' H/\Fix ν st ν' e?:=by have⟨ν',Z',a,u⟩:=Wa (Rv:=λ_=>False) r h;have w:=PN h;exact⟨ν',Z',a,u.beside y w.1 j,⟨u.pin,u.pins,w.2.1,w.2.2⟩⟩
def Fix.quiet(r:R ν Z st F H):∀{l:QR}{e?:St},l.all CK=O->Go.VE.qN l st=M e?->R ν Z e? F H/\Ev Rv ν Z st H ν Z e? H/\e?.want=st.want/\Fix ν st ν e?/\∀d ob,bh e?.m d=M ob->bh st.m d=M ob:=by intro l;induction l generalizing st with|nil=>intro e? _ h;simp[Go.VE.qN]at h;subst h;exact⟨r,.refl,rfl,.refl,λ_ _ h=>h⟩|cons x l C=>intro e? z h;simp only[List.all_cons,ζh]at z;have⟨D,a,i⟩:=ζg.1 h;have key:∃g m,D={st with g:=g,m:=m}/\(∀s u,bh g s=M u->bh st.g s=M u)/\∀d ob,bh m d=M ob->bh st.m d=M ob:=(by cases x with|keep gs T=>simp[Go.VE.ghost]at a;split at a;(next g m b I=>simp at a;subst a;exact⟨g,m,Y,λs u B=>sZ b B,λd ob hd=>sZ I hd⟩);grind|drop ds=>simp[Go.VE.ghost]at a;subst a;exact⟨_,st.m,rfl,λs u B=>qA B,λ_ _ h=>h⟩|_=>simp[CK]at z);obtain⟨g,m,rfl,J,w⟩:=key;have⟨a1,L,j,Q,S⟩:=C (r.less J w) z.2 i;exact⟨a1,(Ev.less w).trans L,j,Fix.trans (e?:={st with g:=g,m:=m}) ⟨λd _ ob h=>⟨ob,w d ob h,Y,.refl _⟩,Y,Y,Y⟩ Q,λd ob h=>w d ob (S d ob h)⟩
def Fix.qN:∀{l:QR}{ν:Nu}{Z:Nat->Prop}{st e?:St},R ν Z st F H->Yc S J st.more st.yid->J st.want (fU ν st.m) Z H->qN l st=M e?->∃ν' Z',R ν' Z' e? F H/\J e?.want (fU ν' e?.m) Z' H/\Fix ν st ν' e?
 |[],ν,Z,st,e?,r,y,j,h=>by simp[Go.VE.qN]at h;subst h;exact⟨ν,Z,r,j,.refl⟩|x::l,ν,Z,st,e?,r,y,j,h=>by have⟨B,b,D⟩:=ζg.1 h;have⟨C,d,r1,u,a⟩:=Fix.ghost r y j b;have⟨ν2,Z2,r2,w,z⟩:=Fix.qN r1 (by rw[a.more,a.yid];omega) u D;exact⟨ν2,Z2,r2,w,a.trans z⟩
def U0(gd:Good X S)(e:jT S c){ops:R0}{fr:ST}{i:Nat}{o:Oper}{ro:RO}{B:St}(a:oF X U ops i o=M ro)(y:Yc S J st.more st.yid)(r:R ν Z st F H)(j:J st.want (fU ν st.m) Z H)(T:gA S c U fr ro st=M B):
 ∃n F' H' ν' Z',(∀k,n<=k->iI S.E (run S.E k) X.nt ops G o F H=M (F',H'))/\R ν' Z' B F' H'/\J B.want (fU ν' B.m) Z' H'/\Fix ν st ν' B:=by
 by_cases I:wanted st.g ro.gd=M O
 .cases C:gL S.N st.g ro with
  |none=>
   have⟨n,F',H',ν',Z',e1,e2,e3,e4,e5,e6⟩:=Ou gd e (place:=G) Y (λb j h=>by cases h) (λb j h=>by cases h) a (λb j h=>by cases h) (λb j h=>by cases h) r (.inl C) T
   exact⟨n,F',H',ν',Z',e1,e2,(e3.weak (λid⟨b,j,h,_⟩=>by cases h)).beside y e5 j,e6⟩
  |some p=>have⟨id,Q⟩:=p;have⟨n,F',H',e1,e2,e3,e4⟩:=T8 gd y a r j C I T;exact⟨n,F',H',ν,Z,e1,e2,e3,e4⟩
 have u:gA S c U fr ro st=M B:=T;have L:gL S.N st.g {ro with az:=[]}=G:=by unfold gL;simp[bW]
 obtain⟨n,F',H',ν',Z',e1,e2,e3,e4,e5,e6⟩:∃n F' H' ν' Z',(∀k,n<=k->iI S.E (run S.E k) X.nt ops G o F H=M (F',H'))/\R ν' Z' B F' H'/\Ev (λ_=>False) ν Z st H ν' Z' B H'/\True/\B.want=st.want/\Fix ν st ν' B:=by unfold gA at u;split at u;(next w=>exact _c w I);rename_i w;simp only[ζa]at u;subst u;unfold oF at a;simp only[Bool.false_and,v?,M',Bool.not_false,Bool.and_true]at a;split at a;rename_i D;split at a;rename_i g k os f m;split at a;obtain⟨az,A,rfl⟩:=ζf.1 a;have q:=yE r.slot f w;have⟨F',l,t⟩:=DY r D (.v V.undef V.undef (.same _ Y));have⟨p1,p2,p3,p4,p5⟩:=Hj st o.dst (.v .undef);refine⟨0,F',H,ν,Z,λk _=>?_,t,?_,trivial,p2,⟨λd hd=>by rw[p1];exactλz h=>⟨z,h,Y,.refl _⟩,p3,p4,p5⟩⟩;unfold iI;simp only[q,v?,M',l,B?];exact⟨z? _,λ_ _ _ _ _=>rfl,λ_ h=>⟨h,Y⟩,λ_ h=>.inl (by rw[p1]at h;exact h),λ_ h=>.inl h,λd hd=>by rw[p1];exactλz h=>⟨z,h,Y,.refl _⟩,p3⟩;simp at a;simp at a;simp at a;simp at u
 exact⟨n,F',H',ν',Z',e1,e2,e3.beside y e5 j,e6⟩
def Su(gd:Good X S)(d:jT S c){ops:R0}{fr:ST}:∀(h?:R0){i:Nat}{B:Rd}{ν:Nu}{Z:Nat->Prop}{st e?:St}{F:WP}{H:bl},ni X U ops i h?=M (B.map RO.strip)->pO S c U fr B st=M e?->
 Yc S J st.more st.yid->R ν Z st F H->J st.want (fU ν st.m) Z H->
 ∃n F' H' ν' Z',(∀k,n<=k->ov S.E (run S.E k) X.nt ops h? F H=M (F',H'))/\R ν' Z' e? F' H'/\J e?.want (fU ν' e?.m) Z' H'/\Fix ν st ν' e?
 |[],i,B,ν,Z,st,e?,F,H,hc,h,y,r,j=>by simp only[ni,ζa]at hc;have:=List.map_eq_nil_iff.1 hc.symm;subst this;simp[pO]at h;subst h;exact⟨0,F,H,ν,Z,λ_ _=>rfl,r,j,.refl⟩|o::h?,i,B,ν,Z,st,e?,F,H,hc,h,y,r,j=>by simp[ni]at hc;split at hc;rename_i T rs f b__;obtain⟨u,w,rfl,C,D⟩:∃u w,B=u::w/\T=u.strip/\rs=w.map RO.strip:=(by cases B with|nil=>simp_all|cons a b=>grind);subst D;simp[pO,<-C]at h;split at h;rename_i z P;have⟨W,I,P⟩:=ζg.1 P;have⟨A,E,g,Y,L⟩:=Fix.qN r y j I;have⟨l,F1,H1,K,N,a1,m,a3,a__⟩:=U0 gd d f (by rw[L.more,L.yid];omega) g Y P;have Q:=L.trans a__;have⟨p,q,H2,ν2,Z2,s,t,v,x⟩:=Su gd d h? b__ h (by show Yc S J z.more z.yid;rw[Q.more,Q.yid];omega) (R.BK m u.dead) a3;refine⟨max l p,q,H2,ν2,Z2,λk e=>?_,t,v,Q.trans (Fix.BK x)⟩;simp[ov,a1 k (U? (p! _ _) e),s k (U? (n! _ _) e)];grind;grind
def Old.next{b:Nat}{fr:ST}{o:RO}(h:Old b fr ν Z m)(a:Kept (BM o) ν m ν' m'):Old b (tW fr o) ν' Z m':=by refine⟨λd ob j hd C u=>?_,h.2⟩;have w:d∉fr:=λJ=>u (by unfold tW;grind);have z:BM o≠M d:=λe=>u (by unfold tW;grind);obtain⟨B,c,-,-,D⟩:=a d ob z hd;have⟨g,I⟩:=D j C;rw[I];exact h.1 d B j c g w
def H6(r:R ν Z st F H){id:Nat}(h:fU ν st.m id):H[id]?≠M .free:=by obtain⟨d,ob,j,a,u,rfl⟩:=h;exact(r.obj d ob a).free u
def QY(r:R ν Z st F H){id:Nat}(h:Z id):H[id]?≠M .free:=λe=>by have:=r.zrow id h;unfold bn at this;rw[e]at this;simp[Ob.rows]at this
def Ev.BK{ds:ST}(e:Ev Rv ν Z (rJ ds st) H ν' Z' e? H'):Ev Rv ν Z st H ν' Z' e? H':=⟨e.len,e.same,e.rows,e.own,e.frz,e.pin,e.pins⟩
def Td(gd:Good X S)(g:jT S c){ops:R0}{b k:Nat}(J:uw ops=O->k=ops.length):∀(len:Nat){i:Nat}{B:Rd}{fr:ST}{ν:Nu}{Z:Nat->Prop}{st e?:St}{F:WP}{H:bl},
 i+len=ops.length->ni X O ops i (ops.drop i)=M (B.map RO.strip)->pO S c O fr B st=M e?->R ν Z st F H->b<=H.length->Old b fr ν Z st.m->(∀j,i<=j->j<k->H[b+j]?=M .free)->
 ∃n F' H' ν',(∀q,n<=q->lR S.E (run S.E q) X.nt ops b (List.range' i len) F H=M (F',H'))/\R ν' Z e? F' H'/\Ev (λid=>b<=id) ν Z st H ν' Z e? H'/\e?.want=st.want/\Fix ν st ν' e?
 |0,i,B,fr,ν,Z,st,e?,F,H,hl,hc,h,r,hb,T,hf=>by rw[List.drop_of_length_le c?]at hc;simp only[ni,ζa]at hc;have:B=[]:=List.map_eq_nil_iff.1 hc.symm;subst this;simp[pO]at h;subst h;exact⟨0,F,H,ν,λ_ _=>rfl,r,.refl,rfl,.refl⟩|len+1,i,B,fr,ν,Z,st,e?,F,H,hl,hc,h,r,hb,T,hf=>by
  have hi:i<ops.length:=c?;have l:=ζd hi;rw[List.drop_eq_getElem_cons hi]at hc;simp[ni]at hc;split at hc
  .rename_i ro rs h1 h2;obtain⟨u,w,rfl,c__,Q⟩:∃u w,B=u::w/\ro=u.strip/\rs=w.map RO.strip:=by cases B with|nil=>simp_all|cons a b=>grind
   subst Q;simp only[pO,<-c__]at h;split at h
   .rename_i ab d__;obtain⟨W,z,d__⟩:=ζg.1 d__;simp only[Fe,L']at z;split at z;rotate_left;simp_all;rename_i I;obtain⟨f,m,o,p,s⟩:=Fix.quiet r I z;have T:Old b fr ν Z W.m:=⟨λd ob j hd=>T.1 d ob j (s d ob hd),T.2⟩;obtain⟨t,F1,H1,ν1,Z1,a1,v,a3,a4,a5,x⟩:=Ou gd g (place:=M (b,i)) rfl (λL j e=>g?) (λL j e=>g?) h1 (λL j e=>g?) (λL j e ad=>by
     have:uw ops=O:=by
      unfold uw
      grind
     grind) f (.inr rfl) d__
    obtain⟨rfl,C⟩:=a4 rfl;have b__:=a3.weak λid⟨L,j,e,h⟩=>by cases e;omega
    obtain⟨y,A,H2,ν2,E,K,a__,N,P⟩:=Td gd g J len c? h2 h (R.BK v u.dead) (U? hb a3.len) (T.next C) (λj ae Y=>by have D:=hf j c? Y;have V:=(ζe.1 D).1;rw[b__.same (b+j) V (λh=>H6 f h D) (λh=>QY f h D) c?];omega);refine⟨max t y,A,H2,ν2,λq I=>?_,K,m.trans ((b__.weak λid e=>c?).trans (Ev.BK a__)),by rw[N,<-o];exact a5,p.trans (x.trans (Fix.BK P))⟩;simp[List.range'_succ,lR,l,a1 q (U? (p! _ _) I),E q (U? (n! _ _) I)]
   grind
  grind
end
end Go.VE
namespace Go.VE
variable[b8]
def bT(X:CX):X'->Code->aY RC
 |_,.skip=>M .skip|_,.label _=>M .skip|_,.region _ ops B=>
  if B then(if zg ops.toList&&C6 ops.toList then(ni X O ops.toList 0 ops.toList).map .vI else G)
  else(ni X U ops.toList 0 ops.toList).map .ops
 |ro,.seq a b=>match bT X ro a,bT X ro b with
  |some a,M b=>M (.seq a b)|_,_=>G
 |ro,.cond c a b=>match rq X.nm c,bT X ro a,bT X ro b with
  |some x,M a,M b=>M (.cond x a b)|_,_,_=>G
 |ro,.block id c=>(bT X ro c).map (.block id)|ro,.loop c=>(bT X ro c).map .loop|ro,.rangeFunc g ps D J=>
  if ro|| !(ps.toList.all (·<X.nt))then G else
  match rq X.nm g,bT X O D,bT X O J with
  |some x,M a,M b=>M (.each x ps.toList a b)|_,_,_=>G
 |_,.exit id=>M (.exit id)|_,.ret=>M .ret|_,_=>G
def erase:RC->RC
 |.seq a b=>.seq (erase a) (erase b)|.cond x a b=>.cond x (erase a) (erase b)|.block id c=>.block id (erase c)|.loop c=>.loop (erase c)|.each g ps a b=>.each g ps (erase a) (erase b)|.gh _ c=>erase c|.hg c _=>erase c|.ops l=>.ops (l.map RO.strip)|.vI l=>.vI (l.map RO.strip)|c=>c
def kI(step:St->aY (Out×St)):Nat->St->aY (Out×St)
 |0,_=>G|k+1,st=>match step st with
  |some (.norm,e?)=>kI step k e?|r=>r
open Classical in
def qC(step:St->aY (Out×St))(st:St):aY (Out×St):=if h:∃k r,kI step k st=M r then M (Classical.choose (W? h))else G
def B6{step:St->aY (Out×St)}:∀{k B:Nat}{st:St}{r:Out×St},k<=B->kI step k st=M r->kI step B st=M r
 |0,_,_,_,_,h=>by simp[kI]at h|k+1,0,_,_,hk,_=>c?|k+1,B+1,st,r,hk,h=>by simp only[kI]at h⊢;split at h;(next e? D=>rw[B6 (Nat.le_of_succ_le_succ hk) h]);exact h
def oU{step:St->aY (Out×St)}{st:St}{r:Out×St}:qC step st=M r↔∃k,kI step k st=M r:=by
 unfold qC;constructor;intro h;split at h;next u=>simp only[ζa]at h;exact⟨_,by rw[<-h];exact W? (W? u)⟩
 simp at h;rintro⟨k,a⟩;have u:∃k r,kI step k st=M r:=⟨k,r,a⟩;rw[dif_pos u];have z:=W? (W? u);have B:=B6 (p! (Classical.choose u) k) z;have w:=B6 (n! (Classical.choose u) k) a;rw[B]at w;exact w
def jV(ps:ST)(A B:St->aY (Out×St))(st:St)(x:So)(m:Tb bD):aY (Out×Tb bD):=
 if W x=W ps then
  match A {g:=Al st.g ps (x.map .v),m:=m,pin:=st.pin++sB st.g,want:=[],more:=O,yid:=0}with
  |some (.norm,u)=>(B u).map λ(o,st2)=>(o,st2.m)|_=>G
 else G
def tg(step:So->Tb bD->aY (Out×Tb bD)):S'->Tb bD->aY (Out×Tb bD)
 |[],m=>M (.norm,m)|x::xs,m=>match step x m with
  |some (.norm,m')=>tg step xs m'|r=>r
def cT(S:Sys)(c:cg):RC->St->aY (Out×St)
 |.skip,st=>M (.norm,st)|.ops l,st=>(pO S c U [] l st).map λst=>(.norm,st)|.vI l,st=>(pO S c O [] l st).map λst=>(.norm,st)|.seq a b,st=>match cT S c a st with
  |some (.norm,e?)=>cT S c b e?|r=>r
 |.cond x a b,st=>match tN S.N st.g x with
  |some (.v (.bool t))=>if t then cT S c a st else cT S c b st|_=>G
 |.block id a,st=>match cT S c a st with
  |some (.exit B,e?)=>if B=id then M (.norm,e?)else M (.exit B,e?)|r=>r
 |.loop a,st=>qC (cT S c a) st|.each g ps a b,st=>match tN S.N st.g g with
  |some (.v (.clo f x y))=>match S.items f x y with
   |some xs=>(tg (jV ps (cT S c a) (cT S c b) st) xs st.m).map λ(o,m)=>(o,{st with m:=m})|none=>G
  |_=>G
 |.exit id,st=>M (.exit id,st)|.ret,st=>M (.ret,st)|.gh x a,st=>_l (ghost x st) (cT S c a)|.hg a x,st=>match cT S c a st with
  |some (.norm,e?)=>(ghost x e?).map λst=>(.norm,st)|r=>r
def fF(S:Sys)(f:Y')(a b:So)(xs:S'):Prop:=∀u more,(more=O/\u=xs\/more=U/\u≠[]/\∃r,xs=u++r)->∀yid J,Yc S J more yid->∀Z w z H,dJ H Z a w->dJ H Z b z->(∀i,Z i->(bn H i).isSome=O)->Deep H Z->J u (λ_=>False) Z H->∃n y H' B Z',(∀k,n<=k->run S.E k (.fn f) (w++.yld yid::z) H=M (y,H'))/\J [] B Z' H'
section
variable{ν ν' ν2:Nu}{Z Z':Nat->Prop}{st e? st2:St}{m m':Tb bD}{F F':WP}{H H' H1:bl}{S:Sys}{c:cg}{X:CX}{J:JT}
end
inductive zU(step:List V->Tb bD->Option (Out×Tb bD))(o:Out)(mf:Tb bD):List (List V)->Bool->Tb bD->Prop
 |nil(h:o=.norm):zU step o mf [] true mf|next(x:List V)(ws:List (List V))(more:Bool)(m m1:Tb bD)(h:step x m=some (.norm,m1))(r:zU step o mf ws more m1):zU step o mf (x::ws) more m|last(x:List V)(m:Tb bD)(h:step x m=some (o,mf))(ho:o≠.norm):zU step o mf [x] false m
def GZ{step:So->Tb bD->aY (Out×Tb bD)}{o:Out}{D:Tb bD}:∀{xs:S'}{m:Tb bD},tg step xs m=M (o,D)->
 ∃B more,(more=O/\B=xs\/more=U/\B≠[]/\∃r,xs=B++r)/\zU step o D B more m
 |[],m,h=>by obtain⟨rfl,rfl⟩:=h;exact⟨[],O,.inl ⟨rfl,rfl⟩,.nil rfl⟩|x::xs,m,h=>by simp[tg]at h;split at h;rename_i m' u;have⟨B,more,b,a⟩:=GZ h;refine⟨x::B,more,?_,.next x B more m m' u a⟩;grind;refine⟨[x],U,.inr ⟨Y,f?,xs,Y⟩,.last x m h λe=>?_⟩;simp_all
def xC(O0 Z0:Nat->Prop)(H0:bl):JT:=λw d Z H=>w=[]/\W H0<=W H/\(∀i,i<W H0->¬O0 i->¬Z0 i->H[i]?=H0[i]?)/\(∀i,Z0 i->Z i/\bn H i=bn H0 i)/\(∀i,d i->O0 i\/W H0<=i)/\(∀i,Z i->Z0 i\/O0 i\/W H0<=i)
section
variable{ν ν' ν2:Nu}{Z Z':Nat->Prop}{st e? st2:St}{m m':Tb bD}{F F':WP}{H H' H1:bl}{S:Sys}{c:cg}{X:CX}{J:JT}{O0 Z0:Nat->Prop}{H0:bl}
def xC.ze{w:S'}{O Z B Z':Nat->Prop}{H H':bl}(j:xC O0 Z0 H0 w O Z H)(D:W H<=W H')(J:∀i,i<W H->¬O i->¬Z i->H'[i]?=H[i]?)(a:∀i,Z i->Z' i/\bn H' i=bn H i)
 (T:∀i,B i->O i\/W H<=i)(g:∀i,Z' i->Z i\/O i\/W H<=i):xC O0 Z0 H0 w B Z' H':=by
 have⟨u,z,d,C,I,L⟩:=j;refine⟨u,U? z D,λi b Q S=>?_,λi h=>⟨(a i (C i h).1).1,g?⟩,λi h=>?_,λi h=>?_⟩
 .grind
 .grind
 grind
def xC.yc{more:X'}{yid:Nat}:Yc S (xC O0 Z0 H0) more yid where
 ze:=λ_ _ _ _ _ _ _ j a u w z B=>j.ze a u w z B
 yield:=λx C d Z H args j=>by have⟨h,_⟩:=j;cases h
def xC.refl(r:R ν Z st F H):xC (fU ν st.m) Z H [] (fU ν st.m) Z H:=⟨Y,z? _,λ_ _ _ _=>rfl,λi h=>⟨h,Y⟩,λi h=>.inl h,λi h=>.inl h⟩
mutual
def FG{d:Nat}:∀{sv:SV},sv.cR d=O->d∈sv.names
 |.v _,h=>by simp[SV.cR]at h|.own e,h=>by simp[SV.cR]at h;simp[SV.names,h]|.ptr e _,h=>by simp[SV.cR]at h;simp[SV.names,h]|.el e _ _,h=>by simp[SV.cR]at h;simp[SV.names,h]|.mp e,h=>by simp[SV.cR]at h;simp[SV.names,h]|.clo f a b,h=>by simp only[SV.cR,g!]at h;simp only[SV.names,List.mem_append];exact h.imp tR tR|.tup l,h=>by simp only[SV.cR]at h;simp only[SV.names];exact tR h|.agg l,h=>by simp only[SV.cR]at h;simp only[SV.names];exact tR h|.yl _,h=>by simp[SV.cR]at h
def tR{d:Nat}:∀{l:R'},SV.dL d l=O->d∈SV.zI l
 |[],h=>by simp[SV.dL]at h|x::r,h=>by simp only[SV.dL,g!]at h;simp only[SV.zI,List.mem_append];exact h.imp FG tR
end
def Ei{d:Nat}:∀{g:Tb SV}{s:Nat}{sv:SV},bh g s=M sv->sv.cR d=O->d∈sB g
 |[],s,sv,h,_=>by simp[bh]at h|(k,x)::r,s,sv,h,B=>by simp[bh]at h;simp[sB];split at h;simp at h;subst h;exact .inl (FG B);exact .inr (Ei h B)
def R.ab7(r:R ν Z st F H){Z2:Nat->Prop}(b:∀i,Z2 i->¬fU ν st.m i)(J:∀i,Z2 i->(bn H i).isSome=O)(T:Deep H Z2):R ν (λi=>Z i\/Z2 i) st F H:=by have w:∀i,Z i->(Z i\/Z2 i)/\bn H i=bn H i:=λi h=>⟨.inl h,Y⟩;have z:∀i,Z2 i->(Z i\/Z2 i)/\bn H i=bn H i:=λi h=>⟨.inr h,Y⟩;refine⟨λs g I=>(r.slot s g I).mono w λe _=>j9 ν st.m e,λd ob hd=>dx.mono w Y (λ_ _=>rfl) (λe _=>j9 ν st.m e) (r.obj d ob hd),r.inj,λd ob j hd C a=>?_,λi hi=>?_,⟨λid es D hi hr c hc u hu=>?_⟩⟩;rcases a with a|a;exact r.apart d ob j hd C a;exact b _ a ⟨d,ob,j,hd,C,Y⟩;exact hi.elim (r.zrow i) (J i);rcases hi with hi|hi;have⟨x,B⟩:=r.deep.row id es D hi hr c hc u hu;exact⟨x,B.mono w⟩;have⟨x,B⟩:=T.row id es D hi hr c hc u hu;exact⟨x,B.mono z⟩
def R.abr:∀{ps:ST}{xs:So}{vs:So}{g:Tb SV}{F:WP},R ν Z {st with g:=g} F H->dJ H Z xs vs->W xs=W ps->R ν Z {st with g:=Al g ps (xs.map .v)} (Bc ps vs F) H
 |[],xs,vs,g,F,r,h,B=>by have:=List.length_eq_zero_iff.1 B;subst this;exact r|p::ps,[],vs,g,F,r,h,B=>o?|p::ps,x::xs,vs,g,F,r,h,B=>by obtain⟨w,z,rfl,a,u⟩:=h.inv;exact R.abr (ps:=ps) (r.put (.v _ _ a)) u g?
def vO(X:CX)(S:Sys)(ro:X')(code:Code)(B:St->aY (Out×St)):Prop:=∀st o e?,B st=M (o,e?)->∀(J:JT)ν Z F H,Yc S J st.more st.yid->R ν Z st F H->J st.want (fU ν st.m) Z H->∃n F' H' ν' Z',(∀k,n<=k->exec S.E (run S.E k) k ro X.nt code F H=M (o,F',H'))/\R ν' Z' e? F' H'/\J e?.want (fU ν' e?.m) Z' H'/\Fix ν st ν' e?
def WN(st:St)(m:Tb bD):St:={g:=st.g,m:=m,pin:=st.pin++sB st.g,want:=[],more:=O,yid:=0}
def JI(X:CX)(st:St)(F:WP)(ν:Nu)(O0 Z0:Nat->Prop)(H0:bl)(B:Nat)(ps:ST)(T h:Code)(step:So->Tb bD->aY (Out×Tb bD))(o:Out)(J:Tb bD)(more:X'):JT:=λw g Z H=>∃m z D u,R z D (WN st m) F H/\xC O0 Z0 H0 [] (fU z m) D H/\(∀i,g i->¬fU z m i/\¬D i/\i≠B/\W H0<=i)/\(∀i,Z i->¬fU z m i/\i≠B/\(Z0 i\/W H0<=i))/\¬fU z m B/\¬D B/\W H0<=B/\H[B]?=M (.loop u)/\(u.frame=F/\u.nt=X.nt/\u.params=ps/\u.assign=T/\u.body=h)/\(∀d∈st.pin++sB st.g,∀C,bh m d=M C->∃ob,bh st.m d=M ob/\z d=ν d/\sameShape ob C)/\((zU step o J w more m/\u.st=.ready/\u.pend=G)\/(w=[]/\m=J/\u.st=.done/\u.pend=M o))
def JI.ze{w:S'}{O Z J Z':Nat->Prop}{H H':bl}{B:Nat}{ps:ST}{T A:Code}{step:So->Tb bD->aY (Out×Tb bD)}{o:Out}{N:Tb bD}{more:X'}
 (j:JI X st F ν O0 Z0 H0 B ps T A step o N more w O Z H)(P:W H<=W H')(D:∀i,i<W H->¬O i->¬Z i->H'[i]?=H[i]?)(v:∀i,Z i->Z' i/\bn H' i=bn H i)
 (d:∀i,J i->O i\/W H<=i)(e:∀i,Z' i->Z i\/O i\/W H<=i):JI X st F ν O0 Z0 H0 B ps T A step o N more w J Z' H':=by
 have⟨m,Q,y,S,r,f,a,b,g,k,l,n,p,q,s⟩:=j;have u:=λi hi=>D i (r.lt hi) (λh=>(a i h).1 hi) (λh=>(b i h).1 hi)
 have z:∀i,y i->bn H' i=bn H i:=λi hi=>by by_cases C:Z i;grind;unfold bn;rw[D i (r.xT hi) (λh=>(a i h).2.1 hi) C]
 have x:=(ζe.1 n).1;refine⟨m,Q,y,S,r.heap u z,?_,λi h=>?_,λi h=>?_,g,k,l,?_,p,q,s⟩
 .have⟨j1,I,j3,j4,j5,j6⟩:=f;refine⟨j1,U? I P,λi c t L=>?_,λi h=>⟨(j4 i h).1,g?⟩,j5,j6⟩
  rw[D i (Nat.lt_of_lt_of_le c I) (λh=>by have:=(a i h).2.2.2;omega) (λh=>by rcases(b i h).2.2 with h|h;exact L h;omega),j3 i c t L]
 .rcases d i h with h|h
  .exact a i h
  exact⟨λhi=>_c (r.lt hi) c?,λhi=>_c (r.xT hi) c?,c?,c?⟩
 .rcases e i h with h|h|h
  .exact b i h
  .exact⟨(a i h).1,(a i h).2.2.1,.inr (a i h).2.2.2⟩
  exact⟨λhi=>_c (r.lt hi) c?,c?,.inr c?⟩
 grind
def JI.yield(S:Sys){A B:St->aY (Out×St)}{M N:Code}(hA:vO X S _k M A)(hB:vO X S _k N B){D:Nat}{ps:ST}(ax:ps.all (·<X.nt)=_k){o:Out}{p:Tb bD}{more:X'}
 {x:So}{f:S'}{O Z:Nat->Prop}{H:bl}{args:So}(j:JI X st F ν O0 Z0 H0 D ps M N (jV ps A B st) o p more (x::f) O Z H)
 (hx:dJ H Z x args)(an:∀i,Z i->(bn H i).isSome=_k)(ay:Deep H Z)(aA:∀i,O i->¬Z i/\i<_j H):
 ∃n H',run S.E n (.yld D) args H=_h (.bool (more|| !f.isEmpty),H')/\JI X st F ν O0 Z0 H0 D ps M N (jV ps A B st) o p more f O Z H'/\_j H<=_j H'/\(∀i,O i->H'[i]?=H[i]?)/\(∀i,Z i->bn H' i=bn H i):=by
 have⟨m,q,g,c,r,ej,d1,t,P,l2,l3,l4,⟨q1,q2,q3,q4,q5⟩,l6,l7⟩:=j;have aB:zU (jV ps A B st) o p (x::f) more m/\c.st=.ready/\c.pend=G:=by grind
 have⟨hE,T,aC⟩:=aB;have b__:∃v m1,jV ps A B st x m=_h (v,m1)/\(v=.norm/\zU (jV ps A B st) o p f more m1/\(more|| !f.isEmpty)=_k\/v≠.norm/\v=o/\m1=p/\f=[]/\more=U):=by cases hE with|next _ _ _ _ m1 h hr=>refine⟨.norm,m1,h,.inl ⟨_i,hr,?_⟩⟩;cases hr<;>simp|last _ _ h ho=>grind
 have⟨v,m1,w,ab⟩:=b__;unfold jV at w;split at w
 .rename_i ad;split at w
  .rename_i ah aD;have⟨⟨z,st2⟩,aE,e⟩:=ζf.1 w;simp at e;obtain⟨rfl,rfl⟩:=e;have aF:=(ζe.1 l4).1;have r1:=r.ab7 (λi hi=>(t i hi).1) an ay
   have aG:dJ H (λi=>g i\/Z i) x args:=hx.mono λi hi=>⟨.inr hi,_i⟩
   have r2:=R.abr (st:=WN st m) r1 aG ad;have⟨nA,F2,H2,ν2,Z2,a1,a2,a3,a4⟩:=hA _ _ _ aD (xC (fU q m) (λi=>g i\/Z i) H) q _ _ H xC.yc r2 (xC.refl r1)
   have⟨b1,b2,b3,b4,y,b6⟩:=a3;have ai:¬(g D\/Z D):=λh=>h.elim l2 λh=>(t D h).2.1 rfl
   have ao:H2[D]?=_h (.loop c):=by rw[b3 D aF P ai];omega
   have ae:D<_j H2:=c?
   have W:¬fU ν2 ah.m D:=λh=>(y D h).elim P λh=>c?
   have aj:¬Z2 D:=λh=>by rcases b6 D h with h|h|h;exact ai h;exact P h;omega
   have u:∀(ob:Ob)(Hh:bl)(i:Nat),i≠D->(Hh.set D ob)[i]?=Hh[i]?:=λob Hh i Y=>by rw[List.getElem?_set,K' (Ne.symm Y)]
   have r3:R ν2 Z2 ah F2 (H2.set D (.loop {c with st:=.busy})):=a2.heap (λi hi=>u _ _ i λe=>W (e▸hi)) (λi hi=>by unfold bn;rw[u _ _ i λe=>aj (e▸hi)])
   have⟨nB,F4,b,E,k,c1,c2,c3,c4⟩:=hB _ _ _ aE (xC (fU ν2 ah.m) Z2 (H2.set D (.loop {c with st:=.busy}))) ν2 Z2 F2 _ xC.yc r3 (by
    rw[b1];exact xC.refl r3)
   have⟨_,g2,g3,g4,g5,g6⟩:=c3;simp at g2 g3 g5 g6;have ap:b[D]?=_h (.loop {c with st:=.busy}):=by rw[g3 D ae W aj,List.getElem?_set_self ae]
   have aq:D<_j b:=c?
   have ar:=λh=>(g5 D h).elim W λh=>c?
   have au:¬k D:=λh=>by rcases g6 D h with h|h|h;exact aj h;exact W h;omega
   generalize K:({c with st:=(if z==.norm then El.ready else El.done),pend:=(if z==.norm then G else _h z)}:yZ)=a__;have r5:R E k st2 F4 (b.set D (.loop a__)):=c2.heap (λi hi=>u _ _ i λe=>ar (e▸hi)) (λi hi=>by unfold bn;rw[u _ _ i λe=>au (e▸hi)])
   have L:_j H<=_j (b.set D (.loop a__)):=by simp;omega
   have ak:∀i,i<_j H->i≠D->¬fU q m i->¬(g i\/Z i)->(b.set D (.loop a__))[i]?=H[i]?:=λi a J I l=>by rw[u _ _ i J,g3 i c? (λh=>(y i h).elim I λh=>c?) (λh=>by rcases b6 i h with h|h|h;exact l h;exact I h;omega),u _ _ i J,b3 i a I l]
   have C:∀i,(g i\/Z i)->k i/\bn (b.set D (.loop a__)) i=bn H i:=λi hi=>by have Y:i≠D:=λe=>ai (e▸hi);have⟨t1,t2⟩:=b4 i hi;have⟨t3,t4⟩:=g4 i t1;refine⟨t3,?_⟩;rw[<-t2];have:bn (H2.set D (.loop {c with st:=.busy})) i=bn H2 i:=(by unfold bn;rw[u _ _ i Y]);rw[<-this,<-t4];unfold bn;rw[u _ _ i Y]
   have Q:∀i,fU E st2.m i->fU q m i\/_j H<=i:=λi hi=>by rcases g5 i hi with h|h;exact y i h;exact .inr c?
   have af:∀i,k i->(g i\/Z i)\/fU q m i\/_j H<=i:=λi hi=>by rcases g6 i hi with h|h|h;exact b6 i h;rcases y i h with h|h;exact .inr (.inl h);exact .inr (.inr h);exact .inr (.inr c?)
   have fx:=a4.trans c4;have r6:R E k (WN st st2.m) F (b.set D (.loop a__)):=⟨λs sv hs=>(r.slot s sv hs).mono (λi hi=>C i (.inl hi)) λd hd al am=>fx.pin d (List.mem_append_right _ (Ei hs hd)) al am,r5.obj,r5.inj,r5.apart,r5.zrow,r5.deep⟩
   have av:run S.E (max nA nB+1) (.yld D) args H=_h (.bool (z==.norm),b.set D (.loop a__)):=by simp only[run,lz,l4];rw[J0 (by rw[q3];exact⟨by rw[<-hx.1];exact ad,by rw[q2];exact ax⟩)];rw[q1,q2,q3,q4,q5];rw[a1 _ (p! _ _)];simp only[ao,T];rw[c1 _ (n! _ _)];simp only[ap];rw[<-K]
   refine⟨max nA nB+1,b.set D (.loop a__),?_,⟨st2.m,E,k,a__,r6,?_,λi hi=>?_,λi hi=>?_,ar,au,l3,?_,?_,λd hd al am=>?_,?_⟩,L,λi hi=>?_,λi hi=>(C i (.inr hi)).2⟩
   .rw[av];rcases ab with⟨a,_,I⟩|⟨a,_,_,l,h5⟩
    .rw[a,I];rfl
    rw[l,h5]
    cases aH:z with
    |norm=>exact _c aH a|_=>rfl
   .have⟨j1,j2,j3,j4,j5,j6⟩:=ej;refine⟨_i,U? j2 L,λi a J I=>?_,λi h=>⟨(C i (.inl (j4 i h).1)).1,by rw[(C i (.inl (j4 i h).1)).2,(j4 i h).2]⟩,λi h=>?_,λi h=>?_⟩
    .rw[ak i c? c? (λh=>by rcases j5 i h with h|h;exact J h;omega) (λh=>by
      rcases h with h|h
      .rcases j6 i h with h|h|h;exact I h;exact J h;omega
      rcases(t i h).2.2 with h|h;exact I h;omega),j3 i a J I]
    .rcases Q i h with h|h
     .exact j5 i h
     exact .inr c?
    rcases af i h with(h|h)|h|h
    .exact j6 i h
    .rcases (t i h).2.2 with h|h;exact .inl h;exact .inr (.inr h)
    .rcases j5 i h with h|h;exact .inr (.inl h);exact .inr (.inr h)
    exact .inr (.inr c?)
   .have⟨t1,t2⟩:=aA i hi;have⟨t3,t4,t5,t6⟩:=d1 i hi;refine⟨λh=>(Q i h).elim t3 λh=>c?,λh=>?_,t5,t6⟩
    rcases af i h with(h|h)|h|h
    .exact t4 h
    .exact t1 h
    .exact t3 h
    omega
   .have⟨t1,t2,t3⟩:=t i hi;have aJ:i<_j H:=by
     have:=an i hi;unfold bn at this
     cases hh:H[i]?with
     |none=>rw[hh]at this;simp at this|some _=>exact(ζe.1 hh).1
    exact⟨λh=>(Q i h).elim t1 λh=>c?,t2,t3⟩
   .rw[List.getElem?_set_self aq]
   .subst K;exact⟨q1,q2,q3,q4,q5⟩
   .have⟨aI,a,J,I⟩:=fx.pin d hd al am;have⟨ob,k1,k2,k3⟩:=l6 d hd aI a;exact⟨ob,k1,by rw[J,k2],k3.trans I⟩
   .rcases ab with⟨a,J,I⟩|⟨a,J,I,l,h5⟩
    .left;subst a;subst K;exact⟨J,_i,_i⟩
    right;subst K;have hb:¬(z==Out.norm)=_k:=by simpa using a
    refine⟨l,I,?_,?_⟩
    .show (if(z==Out.norm)=_k then El.ready else El.done)=El.done;rw[K' hb]
    show(if(z==Out.norm)=_k then G else _h z)=_h o;rw[K' hb,J]
   grind
  grind
 grind
end
section
variable{ν ν' ν2:Nu}{Z Z':Nat->Prop}{st e? st2:St}{m m':Tb bD}{F F':WP}{H H' H1:bl}{S:Sys}{c:cg}{X:CX}{J:JT}
def TC(gd:Good X S)(g:jT S c){ro:X'}{id:Nat}{ops:Array Oper}{l:Rd}(m:ni X O ops.toList 0 ops.toList=M (l.map RO.strip))(hd:(zg ops.toList&&C6 ops.toList)=O):
 vO X S ro (.region id ops O) (λst=>(pO S c O [] l st).map λst=>(.norm,st)):=by
 intro st o e? h J ν Z F H y r j;have⟨t,a,e⟩:=ζf.1 h;simp only[ζc]at e;obtain⟨rfl,rfl⟩:=e;generalize w:(if uw ops.toList then H++List.replicate (W ops.toList) .free else H)=H0;generalize f:(if uw ops.toList then W ops.toList else 0)=k;have u:∀i,i<W H->H0[i]?=H[i]?:=λi hi=>by rw[<-w];split;exact List.getElem?_append_left hi;rfl
 have z:W H<=W H0:=by rw[<-w];split<;>simp
 have I:R ν Z st F H0:=r.heap (λi hi=>u i (r.lt hi)) (λi hi=>by unfold bn;rw[u i (r.xT hi)])
 have B:∀q,0<=q->q<k->H0[W H+q]?=M .free:=λq _ C=>by rw[<-f]at C;split at C;rename_i D;rw[<-w,J0 D,List.getElem?_append_right c?];simp only[Nat.add_sub_cancel_left];rw[List.getElem?_replicate,J0 C];omega
 have⟨n,F',H',ν',e1,e2,e3,e4,e5⟩:=Td gd g (ops:=ops.toList) (b:=W H) (k:=k) (λD=>by rw[<-f,J0 D]) (W ops.toList) (i:=0) (fr:=[]) c? (by simpa using m) a I z
  ⟨λd ob j hd L _=>r.lt ⟨d,ob,j,hd,L,Y⟩,λi hi=>r.xT hi⟩ B
 refine⟨n,F',H',ν',Z,λq C=>?_,e2,?_,e5⟩
 .simp only[exec,kX,L',hd,ζf,ζc,true_and];refine⟨(F',H'),?_,Y,Y⟩;rw[w];have:=e1 q C;rw[List.range_eq_range'];exact this
 rw[e4];refine y.ze _ _ _ _ _ _ _ j (U? z e3.len) (λi a A Q=>by rw[e3.same i c? A Q c?,u i a]) (λi hi=>⟨hi,by rw[(e3.rows i hi).2];unfold bn;rw[u i (r.xT hi)]⟩) (λi hi=>?_) (λi hi=>.inl hi)
 rcases e3.own i hi with h|h|h
 .exact .inl h
 .exact .inr h
 exact .inr c?
def ZA{ro:X'}{code:Code}{f:St->aY (Out×St)}(T:vO X S ro code f):vO X S ro (.loop code) (qC f):=by
 intro st o e? h J ν Z F H y r j;have⟨k,a⟩:=oU.1 h;have key:∀k st ν Z F H,kI f k st=M (o,e?)->Yc S J st.more st.yid->R ν Z st F H->J st.want (fU ν st.m) Z H->
  ∃n F' H' ν' Z',(∀q,n<=q->∀u,k<=u->mL (exec S.E (run S.E q) q ro X.nt code) u F H=M (o,F',H'))/\R ν' Z' e? F' H'/\J e?.want (fU ν' e?.m) Z' H'/\Fix ν st ν' e?:=by
  intro k
  induction k with
  |zero=>intro st ν Z F H h;simp[kI]at h|succ k N=>
   intro st ν Z F H h y r j;simp only[kI]at h;split at h
   .rename_i z C;have⟨D,F1,H1,t,I,a1,L,A,B⟩:=T st .norm z C J ν Z F H y r j;have⟨W,P,H2,ν2,Z2,b,c,d,g⟩:=N z t I F1 H1 h (by rw[B.more,B.yid];exact y) L A
    refine⟨max D W,P,H2,ν2,Z2,λq w u Q=>?_,c,d,B.trans g⟩
    cases u with
    |zero=>omega|succ u=>simp only[mL,a1 q (U? (p! _ _) w)];exact b q (U? (n! _ _) w) u c?
   rename_i C;have⟨D,F1,H1,t,I,a1,L,A,B⟩:=T st o e? h J ν Z F H y r j;have i:o≠.norm:=λe=>by subst e;exact C e? h
   refine⟨D,F1,H1,t,I,λq w u Q=>?_,L,A,B⟩
   cases u with
   |zero=>omega|succ u=>simp only[mL,a1 q w];cases o<;>first|exact _c Y i|rfl
 have⟨n,F',H',ν',Z',e1,e2,e3,e4⟩:=key k st ν Z F H a y r j;refine⟨max n k,F',H',ν',Z',λq w=>?_,e2,e3,e4⟩;simp only[exec];exact e1 q (U? (p! _ _) w) q (U? (n! _ _) w)
def Yp(gd:Good X S)(V:∀f a b xs,S.items f a b=M xs->fF S f a b xs){g:UV}{ps:Array Tmp}{d__ W:Code}{x:Arg}{A B:St->aY (Out×St)}
 (ab:ps.toList.all (·<X.nt)=O)(hx:rq X.nm g=M x)(hA:vO X S O d__ A)(hB:vO X S O W B):
 vO X S U (.rangeFunc g ps d__ W) (λst=>match tN S.N st.g x with
 |some (.v (.clo f x y))=>match S.items f x y with
  |some xs=>(tg (jV ps.toList A B st) xs st.m).map λ(o,m)=>(o,{st with m:=m})|none=>G
 |_=>G):=by
 intro st o e? h J ν Z F H y r j;dsimp only at h;split at h
 .rename_i f a b ad;split at h
  .rename_i xs ae;have⟨⟨p,s⟩,hE,e⟩:=ζf.1 h;simp only[ζc]at e;obtain⟨rfl,rfl⟩:=e;have⟨yv,hy,ry⟩:=HQ gd.N r.slot hx ad;obtain⟨a',b',rfl,ra,rb⟩:=ry.fr.l_;have⟨a__,more,Q,hR⟩:=GZ hE;generalize I:(⟨.ready,G,F,X.nt,ps.toList,d__,W⟩:yZ)=u;have z:∀i,i<_j H->(H++[Ob.loop u])[i]?=H[i]?:=λi hi=>List.getElem?_append_left hi
   have C:∀i,Z i->bn (H++[Ob.loop u]) i=bn H i:=λi hi=>by unfold bn;rw[z i (r.xT hi)]
   have r0:R ν Z (WN st st.m) F (H++[Ob.loop u]):=by have:=r.heap (H':=H++[Ob.loop u]) (λi hi=>z i (r.lt hi)) C;exact⟨this.slot,this.obj,this.inj,this.apart,this.zrow,this.deep⟩
   have D:∀i,Z i->Z i/\bn (H++[Ob.loop u]) i=bn H i:=λi hi=>⟨hi,C i hi⟩
   have j0:JI X st F ν (fU ν st.m) Z H (_j H) ps.toList d__ W (jV ps.toList A B st) p s more a__ (λ_=>False) Z (H++[Ob.loop u]):=by refine⟨st.m,ν,Z,u,r0,⟨_i,f?,λi k _ _=>z i k,λi hi=>⟨hi,C i hi⟩,λi hi=>.inl hi,λi hi=>.inl hi⟩,λi hi=>hi.elim,λi hi=>⟨λt=>?_,Nat.ne_of_lt (r.xT hi),.inl hi⟩,λt=>_c (r.lt t) f?,λhz=>_c (r.xT hz) f?,z? _,f?,?_,λd _ af h=>⟨af,h,_i,.refl _⟩,.inl ⟨hR,?_,?_⟩⟩;obtain⟨d,ob,j,g1,g2,rfl⟩:=t;exact r.apart d ob j g1 g2 hi;subst I;exact⟨_i,_i,_i,_i,_i⟩;subst I;rfl;subst I;rfl
   have ah:Yc S (JI X st F ν (fU ν st.m) Z H (_j H) ps.toList d__ W (jV ps.toList A B st) p s more) more (_j H):=⟨λw c__ Z1 H1 O' Z' H' v k Y l E h5=>JI.ze v k Y l E h5,λx1 aj c__ Z1 H1 args v k Y l E=>JI.yield S hA hB ab v k Y l E⟩
   have⟨n,yy,H',O',Z',e1,e2⟩:=V f a b xs ae a__ more Q (_j H) _ ah Z a' b' (H++[Ob.loop u]) (ra.mono D) (rb.mono D) (λi hi=>by rw[C i hi];exact r.zrow i hi) (r.deep.mono C) j0
   have⟨m1,νb,N,K,r1,⟨_,k2,k3,k4,k5,k6⟩,_,_,l1,l2,l3,P,_,l6,l7⟩:=e2;have aa:m1=s/\(K.st=.ready\/K.st=.done)/\K.pend.getD .norm=p:=by rcases l7 with⟨g1,g2,g3⟩|⟨_,g1,g2,g3⟩;(cases g1 with|nil hn=>exact⟨_i,.inl g2,by rw[g3,hn];rfl⟩);exact⟨g1,.inr g2,by rw[g3];rfl⟩
   obtain⟨rfl,c,T⟩:=aa;have ak:_j H<_j H':=(ζe.1 P).1;have b__:∀i,i≠_j H->(H'.set (_j H) .dead)[i]?=H'[i]?:=λi ai=>by rw[List.getElem?_set,K' (Ne.symm ai)]
   have L:∀i,N i->bn (H'.set (_j H) .dead) i=bn H' i:=λi hi=>by unfold bn;rw[b__ i λe=>l2 (e▸hi)]
   have r2:=r1.heap (H':=H'.set (_j H) .dead) (λi hi=>b__ i λe=>l1 (e▸hi)) L
   refine⟨n,F,H'.set (_j H) .dead,νb,N,λq hq=>?_,⟨r2.slot,r2.obj,r2.inj,r2.apart,r2.zrow,r2.deep⟩,?_,⟨λd hd=>l6 d (List.mem_append_left _ hd),_i,_i,_i⟩⟩
   .simp only[exec,hy];rw[I,e1 q hq];simp only[P];rcases c with c|c<;>rw[c]<;>simp only[T]
   refine y.ze _ _ _ _ _ _ _ j (by simp only[List.length_set];omega) (λi k Y l=>by rw[b__ i c?,k3 i k Y l]) (λi hi=>⟨(k4 i hi).1,by rw[L i (k4 i hi).1,(k4 i hi).2]⟩) k5 k6
  simp at h
 simp at h
end
def kS(st:St):Pi->aY R'
 |[]=>M []|.s n::r=>match bh st.g n,kS st r with
  |some x,M l=>M (x::l)|_,_=>G
 |.ld n size agg::r=>match(bh st.g n).bind λp=>oG st.m (.load size agg) [p],kS st r with
  |some x,M l=>M (x::l)|_,_=>G
def o9(S:Sys)(c:cg)(rf:RF)(m?:R')(B:dK):aY (R'×dK):=
 if W m?<=rf.na then
  match cT S c rf.body (start m? B)with
  |some (.exit _,_)=>G|some (_,st)=>(kS st rf.rs).map λrs=>(rs,st.m)|none=>G
 else G
def D3(E:Env):ResultVar->aY RV
 |.tmp t=>M (.s t)|.cell a t=>(E.tt t).map λd=>.ld a d.size d.agg
def zP(E:Env)(nm:Y'->aY Nat)(fi:FI)(rf:RF):Prop:=bT ⟨E,nm,fi.ntmps⟩ U fi.body=M (erase rf.body)/\fi.results.mapM (D3 E)=M rf.rs/\rf.na=fi.ntmps
section
variable{ν ν' ν2:Nu}{Z Z':Nat->Prop}{st e? st2:St}{m m':Tb bD}{F F':WP}{H H' H1:bl}{S:Sys}{c:cg}{X:CX}{J:JT}
theorem Ox (gd:Good X S) (hS:jT S c) (hI:∀f a b xs,S.items f a b=some xs->fF S f a b xs):∀(rc:RC) (ro:Bool) (code:Code),bT X ro code=some (erase rc)->vO X S ro code (cT S c rc):=by
 intro rc
 induction rc with
 | skip=>
  intro ro code hc st o e? h J ν Z F H y r j;obtain⟨rfl,rfl⟩:=h;simp[erase]at hc;have:∀k,exec S.E (run S.E k) k ro X.nt code F H=some (.norm,F,H):=λk=>by
   cases code with
   | skip=>rfl
   | label _=>rfl
   | region id ops w=>
    simp[bT]at hc;split at hc
    .simp_all
    simp_all
   | seq a b=>simp[bT]at hc;grind
   | cond x a b=>simp[bT]at hc;grind
   | block id b=>simp only[bT]at hc;simp_all
   | loop b=>simp only[bT]at hc;simp_all
   | rangeFunc g ps A W=>
    simp[bT]at hc
    grind
   | _=>simp[bT]at hc
  exact⟨0,F,H,ν,Z,λk _=>this k,r,j,.refl⟩
 | ops l=>
  intro ro code hc;simp[erase]at hc
  cases code with
  | region id ops w=>
   simp[bT]at hc;split at hc
   .simp_all
   rename_i hd;obtain⟨l',hl,e⟩:=ζf.1 hc;cases e;intro st o e? h J ν Z F H y r j;obtain⟨z,h1,e⟩:=ζf.1 h;obtain⟨rfl,rfl⟩:=e;obtain⟨n,F',H',ν',Z',e1,e2,e3,e4⟩:=Su gd hS _ hl h1 y r j;refine⟨n,F',H',ν',Z',λk hk=>?_,e2,e3,e4⟩
   simp[exec,kX,hd,e1 k hk]
  | seq a b=>simp[bT]at hc;grind
  | cond x a b=>simp[bT]at hc;grind
  | block id b=>simp only[bT]at hc;simp_all
  | loop b=>obtain⟨_,_,e⟩:=ζf.1 hc;cases e
  | rangeFunc g ps A W=>
   simp only[bT]at hc;split at hc
   .simp at hc
   split at hc <;> simp at hc
  | _=>simp[bT]at hc
 | vI l=>
  intro ro code hc;simp[erase]at hc
  cases code with
  | region id ops w=>
   simp only[bT]at hc;split at hc
   .rename_i hd;subst hd;split at hc
    next ab=>obtain⟨l',hl,e⟩:=ζf.1 hc;cases e;have:=TC (ro:=ro) (id:=id) gd hS hl ab;intro st o e? h;exact this st o e? h
    simp at hc
   obtain⟨_,_,e⟩:=ζf.1 hc;cases e
  | seq a b=>simp[bT]at hc;split at hc <;> simp at hc
  | cond x a b=>simp[bT]at hc;split at hc <;> simp at hc
  | block id b=>obtain⟨_,_,e⟩:=ζf.1 hc;cases e
  | loop b=>obtain⟨_,_,e⟩:=ζf.1 hc;cases e
  | rangeFunc g ps A W=>
   simp only[bT]at hc;split at hc
   .simp at hc
   split at hc <;> simp at hc
  | _=>simp[bT]at hc
 | seq a b u Q=>
  intro ro code hc;simp[erase]at hc
  cases code with
  | seq Y cb=>
   simp[bT]at hc;split at hc
   .rename_i xa xb T hb;simp[RC.seq.injEq]at hc;obtain⟨rfl,rfl⟩:=hc;intro st o e? h J ν Z F H y r j;simp[cT]at h;split at h
    .rename_i z hs;obtain⟨I,F1,H1,B,C,a1,L,i,D⟩:=u ro Y T st .norm z hs J ν Z F H y r j;obtain⟨n2,F2,H2,ν2,Z2,b1,b2,b3,b4⟩:=Q ro cb hb z o e? h J B C F1 H1 (by rw[D.more,D.yid];exact y) L i
     refine⟨max I n2,F2,H2,ν2,Z2,λq d=>?_,b2,b3,D.trans b4⟩
     simp[exec,a1 q (Nat.le_trans (Nat.le_max_left _ _) d)];exact b1 q (Nat.le_trans (Nat.le_max_right _ _) d)
    rename_i hs;obtain⟨I,F1,H1,B,C,a1,L,i,D⟩:=u ro Y T st o e? h J ν Z F H y r j;refine⟨I,F1,H1,B,C,λq d=>?_,L,i,D⟩
    simp[exec,a1 q d];cases o <;> first|exact _c h (hs e?)|rfl
   simp at hc
  | region id ops w=>
   simp[bT]at hc;split at hc
   .split at hc
    .obtain⟨_,_,e⟩:=ζf.1 hc;cases e
    simp at hc
   obtain⟨_,_,e⟩:=ζf.1 hc;cases e
  | cond x a b=>simp[bT]at hc;split at hc <;> simp at hc
  | block id b=>simp only[bT]at hc;obtain⟨_,_,e⟩:=ζf.1 hc;cases e
  | loop b=>simp only[bT]at hc;obtain⟨_,_,e⟩:=ζf.1 hc;cases e
  | rangeFunc g ps A W=>
   simp only[bT]at hc;split at hc
   .simp at hc
   split at hc <;> simp at hc
  | _=>simp[bT]at hc
 | cond x a b u Q=>
  intro ro code hc;simp[erase]at hc
  cases code with
  | cond g Y cb=>
   simp[bT]at hc;split at hc
   .rename_i xg xa xb hg T hb;simp[RC.cond.injEq]at hc;obtain⟨rfl,rfl,rfl⟩:=hc;intro st o e? h J ν Z F H y r j;simp[cT]at h;split at h
    .rename_i t ht;obtain⟨yv,hy,ry⟩:=HQ gd.N r.slot hg ht;rw[ry.fr.bool]at hy;split at h
     .rename_i hb;obtain⟨I,F1,H1,B,C,a1,L,i,D⟩:=u ro Y T st o e? h J ν Z F H y r j;refine⟨I,F1,H1,B,C,λq d=>?_,L,i,D⟩
      simp[exec,hy,hb];exact a1 q d
     rename_i hb;obtain⟨I,F1,H1,B,C,a1,L,i,D⟩:=Q ro cb (by assumption) st o e? h J ν Z F H y r j
     refine⟨I,F1,H1,B,C,λq d=>?_,L,i,D⟩
     simp[exec,hy,hb];exact a1 q d
    simp at h
   simp at hc
  | region id ops w=>
   simp[bT]at hc;split at hc
   .split at hc
    .obtain⟨_,_,e⟩:=ζf.1 hc;cases e
    simp at hc
   obtain⟨_,_,e⟩:=ζf.1 hc;cases e
  | seq a b=>simp[bT]at hc;split at hc <;> simp at hc
  | block id b=>simp only[bT]at hc;obtain⟨_,_,e⟩:=ζf.1 hc;cases e
  | loop b=>simp only[bT]at hc;obtain⟨_,_,e⟩:=ζf.1 hc;cases e
  | rangeFunc g ps A W=>
   simp only[bT]at hc;split at hc
   .simp at hc
   split at hc <;> simp at hc
  | _=>simp[bT]at hc
 | block id a u=>
  intro ro code hc;simp[erase]at hc
  cases code with
  | block ad Y=>
   simp only[bT]at hc;obtain⟨xa,T,e⟩:=ζf.1 hc;simp[RC.block.injEq]at e;obtain⟨rfl,rfl⟩:=e;intro st o e? h J ν Z F H y r j;simp[cT]at h;split at h
   .rename_i ae z hs;obtain⟨I,F1,H1,B,C,a1,L,i,D⟩:=u ro Y T st (.exit ae) z hs J ν Z F H y r j;split at h
    .rename_i e;simp  at h;obtain⟨rfl,rfl⟩:=h;refine⟨I,F1,H1,B,C,λq d=>?_,L,i,D⟩
     simp[exec,a1 q d,J0 e]
    rename_i e;simp  at h;obtain⟨rfl,rfl⟩:=h;refine⟨I,F1,H1,B,C,λq d=>?_,L,i,D⟩
    simp[exec,a1 q d,K' e]
   rename_i hs;obtain⟨I,F1,H1,B,C,a1,L,i,D⟩:=u ro Y T st o e? h J ν Z F H y r j;refine⟨I,F1,H1,B,C,λq d=>?_,L,i,D⟩
   simp[exec,a1 q d];cases o <;> first|exact _c h (hs _ e?)|rfl
  | region id ops w=>
   simp[bT]at hc;split at hc
   .split at hc
    .obtain⟨_,_,e⟩:=ζf.1 hc;cases e
    simp at hc
   obtain⟨_,_,e⟩:=ζf.1 hc;cases e
  | seq a b=>simp[bT]at hc;split at hc <;> simp at hc
  | cond x a b=>simp[bT]at hc;split at hc <;> simp at hc
  | loop b=>simp only[bT]at hc;obtain⟨_,_,e⟩:=ζf.1 hc;cases e
  | rangeFunc g ps A W=>
   simp only[bT]at hc;split at hc
   .simp at hc
   split at hc <;> simp at hc
  | _=>simp[bT]at hc
 | loop a u=>
  intro ro code hc;simp[erase]at hc
  cases code with
  | loop Y=>
   simp only[bT]at hc;obtain⟨xa,T,e⟩:=ζf.1 hc;simp[RC.loop.injEq]at e;subst e;have:=ZA (u ro Y T);intro st o e? h;simp[cT]at h;exact this st o e? h
  | region id ops w=>
   simp[bT]at hc;split at hc
   .split at hc
    .obtain⟨_,_,e⟩:=ζf.1 hc;cases e
    simp at hc
   obtain⟨_,_,e⟩:=ζf.1 hc;cases e
  | seq a b=>simp[bT]at hc;split at hc <;> simp at hc
  | cond x a b=>simp[bT]at hc;split at hc <;> simp at hc
  | block id b=>simp only[bT]at hc;obtain⟨_,_,e⟩:=ζf.1 hc;cases e
  | rangeFunc g ps A W=>
   simp only[bT]at hc;split at hc
   .simp at hc
   split at hc <;> simp at hc
  | _=>simp[bT]at hc
 | each x ps a b u Q=>
  intro ro code hc;simp[erase]at hc
  cases code with
  | rangeFunc g ah A W=>
   simp only[bT]at hc;split at hc
   .simp at hc
   rename_i aa;simp only[Bool.or_eq_true,not_or,Bool.not_eq_true,Bool.not_eq_false']at aa;obtain⟨rfl,af⟩:=aa;split at hc
   next xg xa xb hg T hb=>simp[RC.each.injEq]at hc;obtain⟨rfl,rfl,rfl,rfl⟩:=hc;have:=Yp gd hI af hg (u true A T) (Q true W hb);intro st o e? h;simp only[cT]at h;exact this st o e? h
   simp at hc
  | region id ops w=>
   simp only[bT]at hc;split at hc
   .split at hc
    .obtain⟨_,_,e⟩:=ζf.1 hc;cases e
    simp at hc
   obtain⟨_,_,e⟩:=ζf.1 hc;cases e
  | seq a b=>simp only[bT]at hc;split at hc <;> simp at hc
  | cond x a b=>simp only[bT]at hc;split at hc <;> simp at hc
  | block id b=>simp only[bT]at hc;obtain⟨_,_,e⟩:=ζf.1 hc;cases e
  | loop b=>simp only[bT]at hc;obtain⟨_,_,e⟩:=ζf.1 hc;cases e
  | _=>simp[bT]at hc
 | exit id=>
  intro ro code hc st o e? h J ν Z F H y r j;simp only[cT,ζa,ζc]at h;obtain⟨rfl,rfl⟩:=h;simp only[erase]at hc;have:∀k,exec S.E (run S.E k) k ro X.nt code F H=some (.exit id,F,H):=λk=>by
   cases code with
   | exit ad=>simp only[bT,ζa,RC.exit.injEq]at hc;subst hc;rfl
   | region id ops w=>
    simp only[bT]at hc;split at hc
    .split at hc
     .obtain⟨_,_,e⟩:=ζf.1 hc;cases e
     simp at hc
    obtain⟨_,_,e⟩:=ζf.1 hc;cases e
   | seq a b=>simp only[bT]at hc;split at hc <;> simp at hc
   | cond x a b=>simp only[bT]at hc;split at hc <;> simp at hc
   | block id b=>simp only[bT]at hc;obtain⟨_,_,e⟩:=ζf.1 hc;cases e
   | loop b=>simp only[bT]at hc;obtain⟨_,_,e⟩:=ζf.1 hc;cases e
   | rangeFunc g ps A W=>
    simp only[bT]at hc;split at hc
    .simp at hc
    split at hc <;> simp at hc
   | _=>simp[bT]at hc
  exact⟨0,F,H,ν,Z,λk _=>this k,r,j,.refl⟩
 | ret=>
  intro ro code hc st o e? h J ν Z F H y r j;simp only[cT,ζa,ζc]at h;obtain⟨rfl,rfl⟩:=h;simp only[erase]at hc;have:∀k,exec S.E (run S.E k) k ro X.nt code F H=some (.ret,F,H):=λk=>by
   cases code with
   | ret=>rfl
   | region id ops w=>
    simp only[bT]at hc;split at hc
    .split at hc
     .obtain⟨_,_,e⟩:=ζf.1 hc;cases e
     simp at hc
    obtain⟨_,_,e⟩:=ζf.1 hc;cases e
   | seq a b=>simp only[bT]at hc;split at hc <;> simp at hc
   | cond x a b=>simp only[bT]at hc;split at hc <;> simp at hc
   | block id b=>simp only[bT]at hc;obtain⟨_,_,e⟩:=ζf.1 hc;cases e
   | loop b=>simp only[bT]at hc;obtain⟨_,_,e⟩:=ζf.1 hc;cases e
   | rangeFunc g ps A W=>
    simp only[bT]at hc;split at hc
    .simp at hc
    split at hc <;> simp at hc
   | _=>simp[bT]at hc
  exact⟨0,F,H,ν,Z,λk _=>this k,r,j,.refl⟩
 | gh x a u=>
  intro ro code hc;simp only[erase]at hc;intro st o e? h J ν Z F H y r j;simp only[cT]at h;obtain⟨z,h1,h2⟩:=ζg.1 h;obtain⟨B,C,g1,g2,g3⟩:=Fix.ghost r y j h1;obtain⟨n,F',H',ν',Z',e1,e2,e3,e4⟩:=u ro code hc z o e? h2 J B C F H (by rw[g3.more,g3.yid];exact y) g1 g2
  exact⟨n,F',H',ν',Z',e1,e2,e3,g3.trans e4⟩
 | hg a x u=>
  intro ro code hc;simp only[erase]at hc;intro st o e? h J ν Z F H y r j;simp only[cT]at h;split at h
  .rename_i z hs;obtain⟨st2,h1,e⟩:=ζf.1 h;simp only[ζc]at e;obtain⟨rfl,rfl⟩:=e;obtain⟨n,F',H',ν',Z',e1,e2,e3,e4⟩:=u ro code hc st .norm z hs J ν Z F H y r j;obtain⟨B,C,g1,g2,g3⟩:=Fix.ghost e2 (by rw[e4.more,e4.yid];exact y) e3 h1
   exact⟨n,F',H',B,C,e1,g1,g2,e4.trans g3⟩
  exact u ro code hc st o e? h J ν Z F H y r j
end
abbrev rW:=FuncId->aY RF
def Bx(E:Env)(f:Y')(az:So)(y:V):Prop:=∃n z H' Z,run E n (.fn f) az []=M (z,H')/\FR H' Z y z/\(∀id,Z id->(bn H' id).isSome=O)/\Deep H' Z
structure ud(S:Sys)(T:rW):Prop where
 fn:∀f rf,T f=some rf->∃fi nm,S.E.ft f=some fi/\(∀g s,nm g=some s->S.N s=g)/\zP S.E nm fi rf
 A2:∀f az y,S.A2 f az=some y->Bx S.E f az y
 prm:∀f q,S.prm f=some q->pJ S.E f q
def VD(S:Sys)(f:Y')(m?:R')(B:dK):aY (R'×dK):=
 if S.E.keep f then G else match dw m?,B with
  |some az,[]=>(S.A2 f az).map λy=>([.v y],[])|_,_=>G
def nS(S:Sys)(T:rW):Nat->cg
 |0=>λ_ _ _=>G|n+1=>λf m? B=>match T f with
  |some rf=>o9 S (nS S T n) rf m? B|none=>VD S f m? B
section
variable{ν ν' ν2:Nu}{Z Z':Nat->Prop}{st e? st2:St}{m m':Tb bD}{F F':WP}{H H' H1:bl}{S:Sys}{c c':cg}{X:CX}{J:JT}{T:rW}
def DT(r:R ν Z st F H){nm:Y'->aY Nat}:∀{B:aX ResultVar}{rs:Pi}{l:R'},B.mapM (D3 S.E)=M rs->kS st rs=M l->∃ys,jt S.E F H B=M ys/\ct ν st.m H Z l ys
 |[],rs,l,hc,h=>by simp at hc;subst hc;simp[kS]at h;subst h;exact⟨[],rfl,.nil⟩|rv::B,rs,l,hc,h=>by simp[ζg]at hc;obtain⟨x,D,ys,J,rfl⟩:=hc;cases rv with|tmp t=>simp[D3]at D;subst D;simp[kS]at h;split at h;(next v g b u=>simp at h;subst h;have⟨w,e1,e2⟩:=DT r (nm:=nm) J u;exact⟨get F t::w,by simp[jt,e1],.cons (r.slot t v b) e2⟩);grind|cell a t=>simp[D3]at D;obtain⟨d,hd,rfl⟩:=D;simp[kS]at h;split at h;rename_i v g b u;simp at h;subst h;have⟨p,I,b⟩:=ζg.1 b;have⟨w,e1,e2⟩:=DT r (nm:=nm) J u;have⟨y,g1,g2⟩:=zA (λs a e=>by cases e) (λkk z ok e=>by cases e) (ct.cons (r.slot a p I) .nil) (λL _ ob C=>r.obj L ob C) b;simp[fW]at g1;exact⟨y::w,by simp[jt,hd,e1,g1],.cons g2 e2⟩;grind
def M6(J:∀f q,S.prm f=M q->pJ S.E f q)(j:jT S c)(T:∀f a b xs,S.items f a b=M xs->fF S f a b xs){f:Y'}{fi:FI}{nm:Y'->aY Nat}{rf:RF}(D:S.E.ft f=M fi)(P:∀g s,nm g=M s->S.N s=g)(k:zP S.E nm fi rf)
 {m?:R'}{B:dK}{rs:R'}{m1:dK}(h:o9 S c rf m? B=M (rs,m1)){args:So}(r:R ν Z (start m? B) args H)(W:ct ν B H Z m? args):
 ∃n y H' ν' Z' e? F' ys,run S.E n (.fn f) args H=M (y,H')/\y=result ys/\e?.m=m1/\ct ν' m1 H' Z' rs ys/\R ν' Z' e? F' H'/\Ev (λ_=>False) ν Z (start m? B) H ν' Z' e? H':=by
 have⟨m,z,C⟩:=k;unfold o9 at h;split at h
 .have key:∀o e?,cT S c rf.body (start m? B)=M (o,e?)->(∀id,o≠.exit id)->(kS e? rf.rs).map (λrs=>(rs,e?.m))=M (rs,m1)->
   ∃n y H' ν' Z' e? F' ys,run S.E n (.fn f) args H=M (y,H')/\y=result ys/\e?.m=m1/\ct ν' m1 H' Z' rs ys/\R ν' Z' e? F' H'/\Ev (λ_=>False) ν Z (start m? B) H ν' Z' e? H':=λo e? A t w=>by
   have⟨l,d,e⟩:=ζf.1 w;obtain⟨rfl,rfl⟩:=e;have⟨n,F',H',ν',Z',e1,e2,e3,e4⟩:=Ox ⟨_i,P,J⟩ j T rf.body U fi.body m _ _ _ A (xC (fU ν (start m? B).m) Z H) ν Z args H xC.yc r (xC.refl r);have⟨ys,p1,p2⟩:=DT (nm:=nm) e2 z d;have⟨_,I,L,N,Q,X⟩:=e3;refine⟨n+1,result ys,H',ν',Z',e?,F',ys,?_,_i,_i,p2,e2,⟨I,λi d Y p _=>L i d Y p,N,λi h=>(Q i h).imp (λh=>h) .inr,λi h=>(X i h).imp (λh=>h) (.imp (λh=>h) .inr),e4.pin,e4.pins⟩⟩
   have u:_j args<=fi.ntmps:=by rw[<-W.1,<-C];omega
   simp[run,lz,D,J0 u,e1 n (z? _)]
   grind
  grind
 grind
def FR.emp{x y:V}(J:∀id,¬Z id)(r:FR H Z x y):x=y:=by
 have B:∀{a w:So},W a=W w->(∀(j:Nat)u v,a[j]?=M u->w[j]?=M v->u=v)->a=w:=λ{a w}h1 z=>by apply List.ext_getElem h1;intro i p q;exact z i _ _ (ζd p) (ζd q)
 induction r with|same x h=>rfl|fsl es C id off D h=>grind|fptr C id el off es D cs h=>grind|clo f a b w d h1 z _ _ i1 i2=>rw[B h1 i1,B z i2]|agg a w h1 _ i1=>grind|tup a w h1 _ i1=>grind
def ct.emp(B:∀id,¬Z id):∀{xs ys:So},ct ν m H Z (xs.map .v) ys->xs=ys
 |[],ys,h=>h.dm.symm|x::xs,ys,h=>by obtain⟨y,ys,rfl,a,D⟩:=h.inv;rw[FR.emp B a.fr,ct.emp B D]
def Ef(B:ud S T)(A:∀f a b xs,S.items f a b=M xs->fF S f a b xs):∀n,jT S (nS S T n)
 |0=>λf m? N rs m1 h=>by simp[nS]at h|n+1=>λf m? N rs m1 h ν Z args H P r D=>by simp[nS]at h;split at h;(next rf J=>have⟨fi,nm,c,g,i⟩:=B.fn f rf J;exact M6 B.prm (Ef B A n) A c g i h r D);unfold VD at h;split at h;simp_all;split at h;rename_i az t;have⟨y,Q,e⟩:=ζf.1 h;obtain⟨rfl,rfl⟩:=e;have⟨k,z,H',X,w,C,q,kE⟩:=B.A2 f az y Q;rcases P with P|rfl;grind;have L:∀id,¬Z id:=λid I=>(by have:=r.zrow id I;simp[bn]at this);have u:=(by rw[xZ t]at D;exact(ct.emp L D).symm);subst u;refine⟨k,z,H',⟨λ_=>(0,0),λ_ _=>0⟩,X,⟨[],[],[],[],O,0⟩,[],[z],w,Y,Y,ct.cons (.v y z C) .nil,?_,?_⟩;exact⟨λs sv h=>by simp[bh]at h,λd ob h=>by simp[bh]at h,λd l ob m j o h=>by simp[bh]at h,λd ob j h=>by simp[bh]at h,q,kE⟩;exact⟨Nat.zero_le _,λid h=>o?,λid h=>_c h (L id),λid h=>g?,λid h=>.inr (.inr (.inr (Nat.zero_le _))),λd h=>by simp[start]at h,Y⟩;grind
abbrev OZ:=aX ((FuncId×aX SV×dK)×(aX SV×dK))
def GN(c:cg)(L:OZ):Prop:=∀p∈L,c p.1.1 p.1.2.1 p.1.2.2=M p.2
def Fin{α:Type}(c:cg)(f:cg->aY α)(r:α):Prop:=∃L:OZ,GN c L/\∀c',GN c' L->f c'=M r
def Fin.pure{α:Type}{f:cg->aY α}{r:α}(h:∀c',f c'=M r):Fin c f r:=⟨[],λp u=>o?,λc' _=>h c'⟩
def Fin.bind{α β:Type}{f:cg->aY α}{r:α}{g:cg->aY β}{q:β}(b:Fin c f r)(B:cg->α->aY β)(D:Fin c (λc=>B c r) q)(d:∀c',f c'=M r->g c'=B c' r):Fin c g q:=by have⟨w,a1,z⟩:=b;have⟨C,h,I⟩:=D;refine⟨w++C,λp u=>(List.mem_append.1 u).elim (a1 p) (h p),λc' a=>?_⟩;rw[d c' (z c' λp u=>a p (List.mem_append_left _ u))];exact I c' λp u=>a p (List.mem_append_right _ u)
def Fin.call{f:Y'}{m?:R'}{B:dK}{r:R'×dK}(h:c f m? B=M r):Fin c (λc=>c f m? B) r:=⟨[((f,m?,B),r)],λp u=>g?,λc' a=>a ((f,m?,B),r) f?⟩
def IT{dst:aY Nat}{dr now:X'}{old:R'->X'}{f:Y'}{args:R'}{r:SV×St}(h:eU S c dst dr now old f args st=M r):Fin c (λc=>eU S c dst dr now old f args st) r:=by have w:=h;unfold eU at h;split at h;split at h;split at h;split at h;split at h;rename_i rs m' a;refine(Fin.call a).bind (λc' q=>eU S c dst dr now old f args st) (.pure λ_=>w) (λc' u=>?_);unfold eU;grind;grind;grind;rename_i z;split at h;rename_i q B;refine .pure λc'=>?_;unfold eU;simp_all;rename_i B;split at h;rename_i os d;split at h;rename_i rs m' a;refine(Fin.call a).bind (λc' q=>eU S c dst dr now old f args st) (.pure λ_=>w) (λc' u=>?_);unfold eU;clear h w;simp[*];grind;grind;split at h;split at h;split at h;rename_i rs m' a;refine(Fin.call a).bind (λc' q=>eU S c dst dr now old f args st) (.pure λ_=>w) (λc' u=>?_);unfold eU;simp_all;grind;grind;grind;rename_i b;split at h;rename_i az C;split at h;rename_i D;split at h;rename_i rs m' a;refine(Fin.call a).bind (λc' q=>eU S c dst dr now old f args st) (.pure λ_=>w) (λc' u=>?_);unfold eU;simp[b,C,D,a,u];grind;grind;grind
def XZ{dr:X'}{fr:ST}{o:RO}{r:SV×St}(h:oa S c dr fr o st=M r):Fin c (λc=>oa S c dr fr o st) r:=by have w:=h;unfold oa at h;split at h;rename_i B u;split at h;refine .pure λc'=>?_;have a:=w;unfold oa at a⊢;rename_i b;simp only[u,b]at a⊢;exact a;refine .pure λc'=>?_;have a:=w;unfold oa at a⊢;rename_i C b;simp only[u,b]at a⊢;exact a;refine .pure λc'=>?_;have a:=w;unfold oa at a⊢;rename_i b;simp only[u,b]at a⊢;exact a;refine .pure λc'=>?_;have a:=w;unfold oa at a⊢;rename_i b;simp only[u,b]at a⊢;exact a;refine .pure λc'=>?_;have a:=w;unfold oa at a⊢;rename_i b;simp only[u,b]at a⊢;exact a;rename_i b;split at h;refine(IT h).bind (λ_ q=>M q) (.pure λ_=>rfl) (λc' z=>?_);unfold oa;simp only[u,b,z];refine(IT h).bind (λ_ q=>M q) (.pure λ_=>rfl) (λc' z=>?_);unfold oa;simp only[u,b,z];simp at h;refine .pure λc'=>?_;have a:=w;unfold oa at a⊢;rename_i b;simp only[u,b]at a⊢;exact a;refine .pure λc'=>?_;have a:=w;unfold oa at a⊢;rename_i b;simp only[u,b]at a⊢;exact a;simp at h
def Y_{dr:X'}{fr:ST}{o:RO}{r:St}(h:gA S c dr fr o st=M r):Fin c (λc=>gA S c dr fr o st) r:=by unfold gA at h;split at h;split at h;refine .pure λc'=>?_;unfold gA;grind;have⟨q,u,e⟩:=ζf.1 h;refine(XZ u).bind (λ_ q=>M (c8 q.2 o.dst q.1)) (.pure λ_=>o?) (λc' w=>?_);unfold gA;grind;refine .pure λc'=>?_;unfold gA;grind;grind
def EI{dr:X'}:∀{l:Rd}{fr:ST}{st r:St},pO S c dr fr l st=M r->Fin c (λc=>pO S c dr fr l st) r
 |[],fr,st,r,h=>.pure λ_=>h|o::l,fr,st,r,h=>by simp[pO]at h;split at h;(next D B=>have⟨J,a,B⟩:=ζg.1 B;exact(Y_ B).bind (λc' q=>pO S c' dr (if dr then tW fr o.strip else fr) l (rJ o.dead q)) (EI h) (λc' u=>by simp[pO,a,u]));grind
def I4{f:cg->St->aY (Out×St)}(D:∀st r,f c st=M r->Fin c (λc=>f c st) r):∀{k:Nat}{st:St}{r:Out×St},kI (f c) k st=M r->Fin c (λc=>kI (f c) k st) r
 |0,st,r,h=>by simp[kI]at h|k+1,st,r,h=>by simp[kI]at h;split at h;(next J T=>exact(D st _ T).bind (λc' q=>kI (f c') k J) (I4 D h) (λc' B=>by simp[kI,B]));refine(D st r h).bind (λ_ q=>M q) (.pure λ_=>rfl) (λc' B=>?_);simp[kI,B];grind
def I5{f:cg->So->Tb bD->aY (Out×Tb bD)}(D:∀x m r,f c x m=M r->Fin c (λc=>f c x m) r):∀{xs:S'}{m:Tb bD}{r:Out×Tb bD},tg (f c) xs m=M r->Fin c (λc=>tg (f c) xs m) r
 |[],m,r,h=>.pure λ_=>h|x::xs,m,r,h=>by simp[tg]at h;split at h;(next m1 J=>exact(D x m _ J).bind (λc' q=>tg (f c') xs m1) (I5 D h) (λc' B=>by simp[tg,B]));refine(D x m r h).bind (λ_ q=>M q) (.pure λ_=>rfl) (λc' B=>?_);simp[tg,B];grind
def Rp:∀{d:RC}{st:St}{r:Out×St},cT S c d st=M r->Fin c (λc=>cT S c d st) r:=by intro d;induction d with|skip=>exactλh=>.pure λ_=>h|exit id=>exactλh=>.pure λ_=>h|ret=>exactλh=>.pure λ_=>h|ops l=>intro st r h;simp only[cT]at h⊢;have⟨q,t,e⟩:=ζf.1 h;exact(EI t).bind (λ_ q=>M (.norm,q)) (.pure λ_=>o?) (λc' w=>g?)|vI l=>intro st r h;simp only[cT]at h⊢;have⟨q,t,e⟩:=ζf.1 h;exact(EI t).bind (λ_ q=>M (.norm,q)) (.pure λ_=>o?) (λc' w=>g?)|seq a b u C=>intro st r h;simp[cT]at h⊢;split at h;(next B D=>exact(u D).bind (λc' q=>cT S c' b B) (C h) (λc' w=>g?));rename_i D;refine(u h).bind (λ_ q=>M q) (.pure λ_=>rfl) (λc' w=>?_);grind|cond x a b u C=>intro st r h;simp[cT]at h⊢;grind|block id a u=>intro st r h;simp[cT]at h⊢;split at h;(next I B D=>exact(u D).bind (λc' q=>if I=id then M (.norm,B)else M (.exit I,B)) (.pure λ_=>h) (λc' w=>g?));refine(u h).bind (λ_ q=>M q) (.pure λ_=>rfl) (λc' w=>?_);grind|loop a u=>intro st r h;have⟨k,j⟩:=oU.1 h;refine(I4 (λst r h=>u h) j).bind (λ_ q=>M q) (.pure λ_=>rfl) (λc' w=>?_);exact oU.2 ⟨k,w⟩|each g ps a b u C=>intro st r h;simp only[cT]at h⊢;split at h;split at h;have⟨q,t,e⟩:=ζf.1 h;refine(I5 (f:=λc=>jV ps (cT S c a) (cT S c b) st) (λz m r h=>?_) t).bind (λ_ q=>M (q.1,{st with m:=q.2})) (.pure λ_=>o?) (λc' w=>g?);unfold jV at h;split at h;split at h;rename_i B i;have⟨L,J,e2⟩:=ζf.1 h;refine(u i).bind (λc' q=>(cT S c' b B).map λ(o,st2)=>(o,st2.m)) ((C J).bind (λ_ q=>M (q.1,q.2.m)) (.pure λ_=>o?) (λc' w=>g?)) (λc' w=>?_);unfold jV;grind;grind;grind;grind;grind|gh x a u=>intro st r h;simp[cT]at h⊢;have⟨B,i,y⟩:=ζg.1 h;grind|hg a x u=>intro st r h;simp[cT]at h⊢;split at h;(next B D=>exact(u D).bind (λc' q=>(ghost x B).map λst=>(.norm,st)) (.pure λ_=>h) (λc' w=>g?));refine(u h).bind (λ_ q=>M q) (.pure λ_=>rfl) (λc' w=>?_);grind
def CN{rf:RF}{m?:R'}{B:dK}{r:R'×dK}(h:o9 S c rf m? B=M r):Fin c (λc=>o9 S c rf m? B) r:=by have u:=h;unfold o9 at h;split at h;split at h;simp_all;rename_i o st w z;refine(Rp z).bind (λc' q=>o9 S c rf m? B) (.pure λ_=>u) (λc' C=>?_);unfold o9;grind;grind;grind
def Gn:∀{n:Nat}{f:Y'}{m?:R'}{B:dK}{r:R'×dK},nS S T n f m? B=M r->nS S T (n+1) f m? B=M r
 |0,f,m?,B,r,h=>by simp[nS]at h|n+1,f,m?,B,r,h=>by simp[nS]at h;rw[nS];split at h;(next rf D=>have⟨L,a,J⟩:=CN h;simp[D];exact J _ λp u=>Gn (a p u));grind
def E0{n k:Nat}(h:n<=k){f:Y'}{m?:R'}{B:dK}{r:R'×dK}(D:nS S T n f m? B=M r):nS S T k f m? B=M r:=by induction h with|refl=>omega|step _ u=>exact Gn u
open Classical in
def dB(S:Sys)(T:rW):cg:=λf u w=>if h:∃n r,nS S T n f u w=M r then M (Classical.choose (W? h))else G
def vh{f:Y'}{m?:R'}{B:dK}{r:R'×dK}:dB S T f m? B=M r↔∃n,nS S T n f m? B=M r:=by unfold dB;constructor;intro h;split at h;grind;grind;rintro⟨k,a⟩;have u:∃n r,nS S T n f m? B=M r:=⟨k,r,a⟩;have w:=W? (W? u);have z:=E0 (p! (Classical.choose u) k) w;have C:=E0 (n! (Classical.choose u) k) a;grind
def Qy{L:OZ}(h:GN (dB S T) L):∃n,∀k,n<=k->GN (nS S T k) L:=by induction L with|nil=>exact⟨0,λk _ p hp=>o?⟩|cons q L u=>have⟨w,b⟩:=vh.1 (h q f?);have⟨z,B⟩:=u λp hp=>h p (List.mem_cons_of_mem _ hp);refine⟨max w z,λk a p hp=>?_⟩;rcases List.mem_cons.1 hp with rfl|hp;exact E0 (U? (p! _ _) a) b;exact B k (U? (n! _ _) a) p hp
def Is{f:Y'}{az:So}{y:V}(B:T f=G)(b:S.E.keep f=U)(h:S.A2 f az=M y):dB S T f (az.map .v) []=M ([.v y],[]):=by
 refine vh.2 ⟨1,?_⟩;have u:dw (az.map .v)=M az:=by clear h;induction az with|nil=>rfl|cons a l w=>simp only[List.map_cons,dw,w];rfl
 simp only[nS,B,VD,b,u,h];rfl
def uP{f:Y'}{rf:RF}(D:T f=M rf)(m?:R')(B:dK):dB S T f m? B=o9 S (dB S T) rf m? B:=by cases h:o9 S (dB S T) rf m? B with|some r=>have⟨L,a,w⟩:=CN h;have⟨n,u⟩:=Qy a;refine vh.2 ⟨n+1,?_⟩;simp[nS,D];grind|none=>cases w:dB S T f m? B with|none=>rfl|some r=>have⟨n,u⟩:=vh.1 w;cases n with|zero=>simp[nS]at u|succ n=>simp[nS,D]at u;have⟨L,z,C⟩:=CN u;have I:=C (dB S T) λp d=>vh.2 ⟨n,z p d⟩;grind
def Ar(B:ud S T)(D:∀f a b xs,S.items f a b=M xs->fF S f a b xs):jT S (dB S T):=λf u w rs z h=>by have⟨n,C⟩:=vh.1 h;exact Ef B D n f u w rs z C
def Oa(W:∀f q,S.prm f=M q->pJ S.E f q)(e:jT S c){f:Y'}{fi:FI}{nm:Y'->aY Nat}{rf:RF}(Y:∀f a b xs,S.items f a b=M xs->fF S f a b xs)(D:S.E.ft f=M fi)(l:∀g s,nm g=M s->S.N s=g)(p:zP S.E nm fi rf){a b:So}{xs:S'}
 (c__:_j a+1+_j b<=rf.na)(T:rf.rs=[])
 (h:∀B more,(more=O/\B=xs\/more=U/\B≠[]/\∃r,xs=B++r)->∀yid,∃o e?,cT S c rf.body {g:=yz 0 (a.map .v++.yl yid::b.map .v),m:=[],pin:=[],want:=B,more:=more,yid:=yid}=M (o,e?)/\(∀id,o≠.exit id)/\e?.want=[]/\e?.m=e?.m):
 fF S f a b xs:=by
 intro B more L yid J y Z z C H b__ Q X hd j;have⟨o,e?,t,E,v,_⟩:=h B more L yid;have⟨x,w,a__⟩:=p;have I:ct ⟨λ_=>(0,0),λ_ _=>0⟩ [] H Z (a.map .v++.yl yid::b.map .v) (z++.yld yid::C):=(ct.tE b__).append (.cons (.yl yid) (ct.tE Q))
 have A:R ⟨λ_=>(0,0),λ_ _=>0⟩ Z {g:=yz 0 (a.map .v++.yl yid::b.map .v),m:=[],pin:=[],want:=B,more:=more,yid:=yid} (z++.yld yid::C) H:=⟨AI I,λd ob h=>by simp[bh]at h,λd F ob K j P h=>by simp[bh]at h,λd ob j h=>by simp[bh]at h,X,hd⟩
 have⟨n,F',H',ν',Z',e1,e2,e3,e4⟩:=Ox ⟨_i,l,W⟩ e Y rf.body U fi.body x _ _ _ t J _ Z _ H y A (by
  refine y.ze _ _ _ _ _ _ _ j (z? _) (λ_ _ _ _=>rfl) (λi hi=>⟨hi,_i⟩) (λi hi=>?_) (λi hi=>.inl hi)
  have⟨d,ob,j,h,_⟩:=hi;simp[bh]at h)
 rw[v]at e3;rw[T]at w;have⟨ys,p1,p2⟩:=DT (nm:=nm) e2 w _i;refine⟨n+1,result ys,H',_,Z',λk N=>?_,e3⟩
 have u:_j (z++V.yld yid::C)<=fi.ntmps:=by rw[<-I.1,<-a__];simp;omega
 cases k with
 |zero=>omega|succ k=>
  simp[run,lz,D,J0 u,e1 k c?]
  grind
def YQ(B:ud S T)(D:∀f a b xs,S.items f a b=M xs->fF S f a b xs){f:Y'}{az:So}(d:V.cN az=O){y:V}{m':dK}(h:dB S T f (az.map .v) []=M ([.v y],m'))(J:y.scalar=O):
 ∃n H',run S.E n (.fn f) az []=M (y,H'):=by
 have⟨u,r1⟩:=Cy d;obtain⟨n,g,H2,ν',Z',e?,F',w,c,rfl,I,C,L,_⟩:=Ar B D f _ _ _ _ h _ _ az [] (.inr Y) u r1;obtain⟨z,w,rfl,e1,e2⟩:=C.inv;rw[e2.dm]at c;have:=(e1.fr.scalar).1 J;subst this;exact⟨n,H2,c⟩
end
end Go.VE
