/- Objects, calls. -/
import Derived.Test.YtjlclfccbcbibaaGreatDoorN1
set_option linter.all false
noncomputable section
open Option(map_some)
open Bool(false_eq_true or_eq_true)
open Nat(le_max_left le_max_right le_refl le_trans)
open Classical(choose_spec)
namespace Go.VE
variable[bT]
def fV(N:Nat->Y')(g:Tb SV)(o:RO):aY (Nat×ST):=
 match o.k,bW N g o.az with
 |.c,some (.yl id::u)=>some (id,u)|_,_=>none
open Classical in
def fH(S:Sys)(c:bX)(dr:X')(fr:So)(o:RO)(st:St):aY St:=
 match wanted st.g o.gd with
 |some true=>match fV S.N st.g o with
  |some (id,z)=>if dr then none else match dy z,st.want with
   |some B,w::u=>if B=w/\id=st.yid then some (dn {st with want:=u} o.dst (.v (.bool (st.more|| !u.isEmpty))))else none|_,_=>none
  |none=>(mH S c dr fr o st).map λ(x,st')=>dn st' o.dst x
 |some false=>some (dn st o.dst (.v .undef))|none=>none
def RO.strip(o:RO):RO:={o with dead:=[],pre:=[]}
def pJ:QQ->St->aY St
 |[],st=>some st|x::r,st=>(ghost x st).bind (pJ r)
def BE:Gh->X'
 |.keep ..=>true|.drop _=>true|_=>false
def DC(dr:X')(l:QQ)(st:St):aY St:=if dr then(if l.all BE then pJ l st else none)else pJ l st
def ql(ds:So)(st:St):St:={st with g:=qp ds st.g}
def n5(S:Sys)(c:bX)(dr:X'):So->R'->St->aY St
 |_,[],st=>some st|fr,o::r,st=>match(DC dr o.pre st).bind (fH S c dr fr o.strip)with
  |some st'=>n5 S c dr (if dr then sj fr o.strip else fr) r (ql o.dead st')|none=>none
abbrev JT:=aX (aX V)->(Nat->Prop)->(Nat->Prop)->bk->Prop
structure Yc(S:Sys)(J:JT)(more:Bool)(yid:Nat):Prop where
 xR:∀w O Z H O' Z' H',J w O Z H->H.length<=H'.length->(∀i,i<H.length->¬O i->¬Z i->H'[i]?=H[i]?)->(∀i,Z i->Z' i/\bn H' i=bn H i)->
  (∀i,O' i->O i\/H.length<=i)->(∀i,Z' i->Z i\/O i\/H.length<=i)->J w O' Z' H'
 yield:∀x ws O Z H args,J (x::ws) O Z H->dz H Z x args->(∀i,Z i->(bn H i).isSome=true)->Deep H Z->(∀i,O i->¬Z i/\i<H.length)->
  ∃n H',run S.E n (.yld yid) args H=some (.bool (more|| !ws.isEmpty),H')/\J ws O Z H'/\H.length<=H'.length/\(∀i,O i->H'[i]?=H[i]?)/\(∀i,Z i->bn H' i=bn H i)
structure Fix(ν:Nu)(st:St)(ν':Nu)(st':St):Prop where
 pin:∀d∈st.pin,∀ob',bh st'.m d=some ob'->∃ob,bh st.m d=some ob/\ν' d=ν d/\sameShape ob ob'
 pins:st'.pin=st.pin
 more:st'.more=st.more
 yid:st'.yid=st.yid
section
variable{Rv:Nat->Prop}{ν ν' ν2:Nu}{Z Z':Nat->Prop}{st st' st2:St}{m m':Tb bB}{F F':WF}{H H' H1:bk}{S:Sys}{c:bX}{X:CX}{J:JT}
def Fix.refl:Fix ν st ν st:=⟨λ_ _ u h=>⟨u,h,rfl,.refl _⟩,rfl,rfl,rfl⟩
def Fix.trans(a:Fix ν st ν' st')(b:Fix ν' st' ν2 st2):Fix ν st ν2 st2:=
 ⟨λd hd u h=>by
  have⟨w,c,B,z⟩:=b.pin d (by rw[a.pins];omega) u h
  have⟨ob,k1,k2,k3⟩:=a.pin d hd w c;exact⟨ob,k1,Zad,k3.trans z⟩,by rw[b.pins,a.pins],by rw[b.more,a.more],by rw[b.yid,a.yid]⟩
def Ev.beside(y:Yc S J st.more st.yid)(a:Ev (λ_=>False) ν Z st H ν' Z' st' H')(B:st'.want=st.want)(j:J st.want (eZ ν st.m) Z H):J st'.want (eZ ν' st'.m) Z' H':=by
 rw[B];exact y.xR _ _ _ _ _ _ _ j a.len (λi b u w=>a.same i b u w (λh=>h)) a.rows (λi h=>(a.own i h).imp (λh=>h) (λh=>h.elim (λh=>h.elim) (λh=>h)))
  (λi h=>(a.frz i h).imp (λh=>h) (λh=>h.imp (λh=>h) (λh=>h.elim (λh=>h.elim) (λh=>h))))
def wT(D:∀s sv,bh st.g s=some sv->c6 ν m H Z sv (get F s)){ops:Rd}{o:Oper}{gd:aY (Nat×X')}(a:Db ops o=some gd){t:X'}(B:wanted st.g gd=some t):gj ops F o=t:=by unfold Db at a;unfold gj;cases u:o.guard with|none=>rw[u]at a;simp at a;simp[wanted]at B;grind|some C=>rw[u]at a;obtain⟨d,hd,rfl⟩:=ζf.1 a;simp[hd];simp[wanted]at B;split at B;(next c b=>simp at B;subst B;rw[(D d _ b).fr.bool]);rename_i x G b;simp at B;subst B;have w:=(D d _ b).fr;split;rename_i c z;rw[z]at w;cases w;grind;rfl;grind
def Hq{dst:aY Nat}{size:Nat}{s x sv:SV}(h:KI st dst size s x=some (sv,st')):st'.want=st.want/\st'.pin=st.pin/\st'.more=st.more/\st'.yid=st.yid:=by unfold KI at h;dsimp only at h;(repeat' split at h)<;>cases h;exact⟨rfl,rfl,rfl,rfl⟩
def Ni{x:Gh}(h:ghost x st=some st'):st'.want=st.want/\st'.more=st.more/\st'.yid=st.yid:=by
 unfold Go.VE.ghost Bu Ic NC at h;(repeat' split at h)<;>first|grind|skip
 all_goals
  unfold Ih at h;split at h
  .split at h
   .have⟨_,_,h⟩:=ζg.1 h;obtain⟨_,_,rfl⟩:=ζf.1 h;exact⟨rfl,rfl,rfl⟩
   cases h
  cases h
def PS{q:Hu}{dst:aY Nat}{args:ST}{sv:SV}(h:Dp q dst args st=some (sv,st')):st'.want=st.want/\st'.pin=st.pin/\st'.more=st.more/\st'.yid=st.yid:=by unfold Dp at h;grind
def Sz{dr:X'}{fr:So}{ro:RO}{sv:SV}(h:mH S c dr fr ro st=some (sv,st')):st'.want=st.want/\st'.pin=st.pin/\st'.more=st.more/\st'.yid=st.yid:=by
 unfold mH at h;split at h
 .split at h;split at h;split at h;simp at h;unfold BO at h;split at h;split at h;have⟨_,_,h⟩:=ζg.1 h;have⟨_,_,h⟩:=ζg.1 h;dsimp only at h;split at h;simp only[ζa,ζc]at h;obtain⟨_,rfl⟩:=h;exact⟨rfl,rfl,rfl,rfl⟩;simp at h;simp at h;simp at h;have⟨_,_,e⟩:=ζf.1 h;simp only[ζc]at e;obtain⟨_,rfl⟩:=e;exact⟨rfl,rfl,rfl,rfl⟩;have⟨_,_,e⟩:=ζf.1 h;simp only[ζc]at e;obtain⟨_,rfl⟩:=e;exact⟨rfl,rfl,rfl,rfl⟩;split at h;have⟨_,_,e⟩:=ζf.1 h;simp only[ζc]at e;obtain⟨_,rfl⟩:=e;exact⟨rfl,rfl,rfl,rfl⟩;simp at h;split at h;split at h;have⟨_,_,e⟩:=ζf.1 h;simp only[ζc]at e;obtain⟨_,rfl⟩:=e;exact⟨rfl,rfl,rfl,rfl⟩;simp at h;simp at h
  .split at h
   .unfold nh at h;((repeat' split at h)<;>first|exact Hq h|(simp at h;done)|(simp only[ζa,ζc]at h;obtain⟨_,rfl⟩:=h;exact⟨rfl,rfl,rfl,rfl⟩)|(have⟨_,_,e⟩:=ζf.1 h;simp only[ζc]at e;obtain⟨_,rfl⟩:=e;exact⟨rfl,rfl,rfl,rfl⟩)|skip);dsimp only at h;(repeat' split at h)<;>first|(simp at h;done)|(simp only[ζa,ζc]at h;obtain⟨_,rfl⟩:=h;exact⟨rfl,rfl,rfl,rfl⟩)
   simp at h
  .have hc:∀{dst dr now old f args},eo S c dst dr now old f args st=some (sv,st')->st'.want=st.want/\st'.pin=st.pin/\st'.more=st.more/\st'.yid=st.yid:=(by intro dst dr now old f args h;unfold eo at h;(repeat' split at h)<;>first|exact PS h|(have⟨_,_,e⟩:=ζf.1 h;simp only[ζc]at e;obtain⟨_,rfl⟩:=e;exact⟨rfl,rfl,rfl,rfl⟩)|(simp at h;done)|(simp only[ζa,ζc]at h;obtain⟨_,rfl⟩:=h;exact⟨rfl,rfl,rfl,rfl⟩));split at h;exact hc h;exact hc h;simp at h
  split at h;simp at h;split at h;have⟨_,_,h⟩:=ζg.1 h;have⟨_,_,e⟩:=ζf.1 h;simp only[ζc]at e;obtain⟨_,rfl⟩:=e;exact⟨rfl,rfl,rfl,rfl⟩;simp at h;have w:∀{dst l u},nh st dst l u=some (sv,st')->st'.want=st.want/\st'.pin=st.pin/\st'.more=st.more/\st'.yid=st.yid:=by intro dst l u h;unfold nh at h;((repeat' split at h)<;>first|exact Hq h|(simp at h;done)|(simp only[ζa,ζc]at h;obtain⟨_,rfl⟩:=h;exact⟨rfl,rfl,rfl,rfl⟩)|(have⟨_,_,e⟩:=ζf.1 h;simp only[ζc]at e;obtain⟨_,rfl⟩:=e;exact⟨rfl,rfl,rfl,rfl⟩)|skip);all_goals (dsimp only at h;(repeat' split at h)<;>first|(simp at h;done)|(simp only[ζa,ζc]at h;obtain⟨_,rfl⟩:=h;exact⟨rfl,rfl,rfl,rfl⟩))
  split at h;exact w h;exact w h;simp at h
 simp at h
def Cu(r:R ν Z st F H){a:Nat}{dst:aY Nat}(hd:Ag a dst=true){sv:SV}{y:V}(h:c6 ν st.m H Z sv y):∃F',kJ a F dst y=some F'/\R ν Z (dn st dst sv) F' H:=by cases dst with|none=>exact⟨F,rfl,r⟩|some d=>have:=(by simpa[Ag]using hd);exact⟨set F d y,by simp[kJ,if_pos this],r.put h⟩
def Eu(st:St)(dst:aY Nat)(sv:SV):(dn st dst sv).m=st.m/\(dn st dst sv).want=st.want/\(dn st dst sv).pin=st.pin/\(dn st dst sv).more=st.more/\(dn st dst sv).yid=st.yid:=by cases dst<;>exact⟨rfl,rfl,rfl,rfl,rfl⟩
def Mr(gd:Good X S)(m:jg S c){ops:Rd}{place:aY (Nat×Nat)}{dr:X'}{fr:So}{i:Nat}(G:dr=place.isSome)(hi:∀b j,place=some (b,j)->j=i)
 (a:∀b j,place=some (b,j)->b<=H.length/\Old b fr ν Z st.m)
 {o:Oper}{ro:RO}(f:ng X dr ops i o=some ro)(J:∀b j,place=some (b,j)->ops[j]?=some o)(D:∀b j,place=some (b,j)->cT o.op=.alloc->H[b+j]?=some .free)
 (r:R ν Z st F H)(B:fV S.N st.g ro=none\/dr=true)(h:fH S c dr fr ro st=some st'):
 ∃n F' H' ν' Z',(∀k,n<=k->gQ S.E (run S.E k) X.nt ops place o F H=some (F',H'))/\R ν' Z' st' F' H'/\Ev (λid=>∃b j,place=some (b,j)/\id=b+j) ν Z st H ν' Z' st' H'/\
  (dr=true->Z'=Z/\Kept (Au ro) ν st.m ν' st'.m)/\st'.want=st.want/\Fix ν st ν' st':=by
 have I:=f;obtain⟨u,g,now,k,az,l,rfl⟩:=DS f;unfold fH at h;split at h
 .rename_i L;have w:=wT r.slot l L;have U:(mH S c dr fr ⟨o.dst,g,now,k,az,[],[]⟩ st).map (λ(x,st')=>dn st' o.dst x)=some st':=by
   split at h
   .rename_i id vs C;rcases B with B|B
    .rw[B]at C;cases C
    subst B;simp at h
   exact h
  obtain⟨⟨x,O⟩,hd,rfl⟩:=ζf.1 U;have⟨n,y,H',ν',Z',e1,e2,e3,e4,e5⟩:=WW gd m G hi a I J D r hd;have⟨W,T,Y,p⟩:=Sz hd;have⟨F',e,Q⟩:=Cu e2 u e3;have⟨p1,p2,p3,p4,p5⟩:=Eu O o.dst x;refine⟨n,F',H',ν',Z',λk q=>?_,Q,?_,λhd=>⟨(e5 hd).1,by rw[p1];exact(e5 hd).2⟩,by rw[p2,W],⟨λd hd=>by rw[p1];exact e4.pin d hd,by rw[p3,T],by rw[p4,Y],by rw[p5,p]⟩⟩
  .unfold gQ;simp only[w,if_true,e1 k q,e,map_some]
  exact⟨e4.len,e4.same,e4.rows,λid h=>e4.own id (by rw[p1]at h;exact h),e4.frz,λd hd=>by rw[p1];exact e4.pin d hd,by rw[p3,T]⟩
 .rename_i L;have w:=wT r.slot l L;simp only[ζa]at h;subst h;have⟨F',e,Q⟩:=Cu r u (.v V.undef V.undef (.same _ rfl));have⟨p1,p2,p3,p4,p5⟩:=Eu st o.dst (.v .undef);refine⟨0,F',H,ν,Z,λk _=>?_,Q,?_,λ_=>⟨rfl,by rw[p1];exact .refl⟩,p2,⟨λd hd=>by rw[p1];exactλz h=>⟨z,h,rfl,.refl _⟩,p3,p4,p5⟩⟩
  .unfold gQ;simp only[w,false_eq_true,if_false,e,map_some]
  exact⟨le_refl _,λ_ _ _ _ _=>rfl,λ_ h=>⟨h,rfl⟩,λ_ h=>.inl (by rw[p1]at h;exact h),λ_ h=>.inl h,λd hd=>by rw[p1];exactλz h=>⟨z,h,rfl,.refl _⟩,p3⟩
 simp at h
def Rq(gd:Good X S)(y:Yc S J st.more st.yid){ops:Rd}{fr:So}{i:Nat}{o:Oper}{ro:RO}(a:ng X false ops i o=some ro)
 (r:R ν Z st F H)(j:J st.want (eZ ν st.m) Z H){id:Nat}{vs:ST}(B:fV S.N st.g ro=some (id,vs))(D:wanted st.g ro.gd=some true)(h:fH S c false fr ro st=some st'):
 ∃n F' H',(∀k,n<=k->gQ S.E (run S.E k) X.nt ops none o F H=some (F',H'))/\R ν Z st' F' H'/\J st'.want (eZ ν st'.m) Z H'/\Fix ν st ν st':=by
 unfold ng at a;simp only[Bool.false_and,false_eq_true,if_false,Bool.not_false,Bool.and_true]at a;split at a
 .rename_i C;split at a
  .rename_i g k os hg hr;split at a
   .obtain⟨az,U,rfl⟩:=ζf.1 a;unfold fH at h;simp only at D;have L:=wT r.slot hg D;rw[D]at h;simp only[B,false_eq_true,if_false]at h;unfold fV at B;split at B
    .rename_i W Y b G;simp only[ζa,ζc]at B;obtain⟨rfl,rfl⟩:=B;simp only at b G;subst b;have⟨ys,O,rs⟩:=pE gd.N r.slot U G;have⟨g1,A,E,e1,e2⟩:=jI gd.N hr O;have⟨w,K,e,r1,r2⟩:=rs.inv;rw[e]at e1;simp only[List.cons.injEq]at e1;obtain⟨rfl,rfl⟩:=e1;cases r1;simp only at e2;split at h
     .rename_i xs x I hx u;split at h
      .rename_i z;obtain⟨rfl,rfl⟩:=z;simp only[ζa]at h;subst h;rw[u]at j;have⟨n,H',p1,p2,p3,p4,p5⟩:=y.yield _ _ _ _ _ _ j (r2.dy hx) r.zrow r.deep (λi hi=>⟨by obtain⟨d,ob,j,f,l,rfl⟩:=hi;exact r.apart d ob j f l,r.lt hi⟩)
       have r3:R ν Z st F H':=r.heap p4 p5;have r4:R ν Z {st with want:=I} F H':=⟨r3.slot,r3.obj,r3.inj,r3.apart,r3.zrow,r3.deep⟩;have⟨F',m,p⟩:=Cu (st:={st with want:=I}) r4 C (sv:=.v (.bool (st.more|| !I.isEmpty))) (.v _ _ (.same _ rfl));have⟨T,q,s,t,v⟩:=Eu {st with want:=I} o.dst (.v (.bool (st.more|| !I.isEmpty)));refine⟨n,F',H',λk b=>?_,p,by rw[T,q];exact p2,⟨λd hd=>by rw[T];exactλQ h=>⟨Q,h,rfl,.refl _⟩,s,t,v⟩⟩
       unfold gQ c_;rw[g1,e2];simp only[L,if_true,(pT S.E b).go _ _ _ _ p1,m,map_some]
      simp at h
     simp at h
    simp at B
   simp at a
  simp at a
 simp at a
def lU(X:CX)(B:X')(ops:Rd):Nat->Rd->aY R'
 |_,[]=>some []|i,o::r=>match ng X B ops i o,lU X B ops (i+1) r with
  |some ro,some rs=>some (ro::rs)|_,_=>none
def R.Az(r:R ν Z st F H)(ds:So):R ν Z (ql ds st) F H:=r.less (λs w u=>pz u) (λd ob hd=>hd)
def Fix.Az{ds:So}(f:Fix ν (ql ds st) ν' st'):Fix ν st ν' st':=⟨f.pin,f.pins,f.more,f.yid⟩
def Fix.ghost(r:R ν Z st F H)(y:Yc S J st.more st.yid)(j:J st.want (eZ ν st.m) Z H){x:Gh}(h:ghost x st=some st'):∃ν' Z',R ν' Z' st' F H/\J st'.want (eZ ν' st'.m) Z' H/\Fix ν st ν' st':=by have⟨ν',Z',a,u⟩:=Ry (Rv:=λ_=>False) r h;have w:=Ni h;exact⟨ν',Z',a,u.beside y w.1 j,⟨u.pin,u.pins,w.2.1,w.2.2⟩⟩
def Fix.quiet(r:R ν Z st F H):∀{l:QQ}{st':St},l.all BE=true->Go.VE.pJ l st=some st'->R ν Z st' F H/\Ev Rv ν Z st H ν Z st' H/\st'.want=st.want/\Fix ν st ν st'/\∀d ob,bh st'.m d=some ob->bh st.m d=some ob:=by intro l;induction l generalizing st with|nil=>intro st' _ h;simp[Go.VE.pJ]at h;subst h;exact⟨r,.refl,rfl,.refl,λ_ _ h=>h⟩|cons x l C=>intro st' z h;simp only[List.all_cons,ζh]at z;have⟨D,a,G⟩:=ζg.1 h;have key:∃g m,D={st with g:=g,m:=m}/\(∀s u,bh g s=some u->bh st.g s=some u)/\∀d ob,bh m d=some ob->bh st.m d=some ob:=(by cases x with|keep gs S=>simp[Go.VE.ghost]at a;split at a;(next g m b I=>simp at a;subst a;exact⟨g,m,rfl,λs u B=>rz b B,λd ob hd=>rz I hd⟩);grind|drop ds=>simp[Go.VE.ghost]at a;subst a;exact⟨_,st.m,rfl,λs u B=>pz B,λ_ _ h=>h⟩|_=>simp[BE]at z);obtain⟨g,m,rfl,J,w⟩:=key;have⟨a1,a2,L,O,Q⟩:=C (r.less J w) z.2 G;exact⟨a1,(Ev.less w).trans a2,L,Fix.trans (st':={st with g:=g,m:=m}) ⟨λd _ ob h=>⟨ob,w d ob h,rfl,.refl _⟩,rfl,rfl,rfl⟩ O,λd ob h=>w d ob (Q d ob h)⟩
def Fix.pJ:∀{l:QQ}{ν:Nu}{Z:Nat->Prop}{st st':St},R ν Z st F H->Yc S J st.more st.yid->J st.want (eZ ν st.m) Z H->pJ l st=some st'->∃ν' Z',R ν' Z' st' F H/\J st'.want (eZ ν' st'.m) Z' H/\Fix ν st ν' st'
 |[],ν,Z,st,st',r,y,j,h=>by simp[Go.VE.pJ]at h;subst h;exact⟨ν,Z,r,j,.refl⟩|x::l,ν,Z,st,st',r,y,j,h=>by have⟨B,b,D⟩:=ζg.1 h;have⟨C,G,r1,u,a⟩:=Fix.ghost r y j b;have⟨ν2,Z2,r2,w,z⟩:=Fix.pJ r1 (by rw[a.more,a.yid];omega) u D;exact⟨ν2,Z2,r2,w,a.trans z⟩
def R8(gd:Good X S)(e:jg S c){ops:Rd}{fr:So}{i:Nat}{o:Oper}{ro:RO}{B:St}(a:ng X false ops i o=some ro)(y:Yc S J st.more st.yid)(r:R ν Z st F H)(j:J st.want (eZ ν st.m) Z H)(G:fH S c false fr ro st=some B):
 ∃n F' H' ν' Z',(∀k,n<=k->gQ S.E (run S.E k) X.nt ops none o F H=some (F',H'))/\R ν' Z' B F' H'/\J B.want (eZ ν' B.m) Z' H'/\Fix ν st ν' B:=by
 by_cases L:wanted st.g ro.gd=some true
 .cases C:fV S.N st.g ro with
  |none=>
   have⟨n,F',H',ν',Z',e1,e2,e3,e4,e5,e6⟩:=Mr gd e (place:=none) rfl (λb j h=>by cases h) (λb j h=>by cases h) a (λb j h=>by cases h) (λb j h=>by cases h) r (.inl C) G
   exact⟨n,F',H',ν',Z',e1,e2,(e3.weak (λid⟨b,j,h,_⟩=>by cases h)).beside y e5 j,e6⟩
  |some p=>have⟨id,T⟩:=p;have⟨n,F',H',e1,e2,e3,e4⟩:=Rq gd y a r j C L G;exact⟨n,F',H',ν,Z,e1,e2,e3,e4⟩
 have u:fH S c false fr ro st=some B:=G;have O:fV S.N st.g {ro with az:=[]}=none:=by unfold fV;simp[bW]
 obtain⟨n,F',H',ν',Z',e1,e2,e3,e4,e5,e6⟩:∃n F' H' ν' Z',(∀k,n<=k->gQ S.E (run S.E k) X.nt ops none o F H=some (F',H'))/\R ν' Z' B F' H'/\Ev (λ_=>False) ν Z st H ν' Z' B H'/\True/\B.want=st.want/\Fix ν st ν' B:=by unfold fH at u;split at u;(next w=>exact absurd w L);rename_i w;simp only[ζa]at u;subst u;unfold ng at a;simp only[Bool.false_and,false_eq_true,if_false,Bool.not_false,Bool.and_true]at a;split at a;rename_i D;split at a;rename_i g k os f m;split at a;obtain⟨az,U,rfl⟩:=ζf.1 a;have I:=wT r.slot f w;have⟨F',l,Q⟩:=Cu r D (.v V.undef V.undef (.same _ rfl));have⟨p1,p2,p3,p4,p5⟩:=Eu st o.dst (.v .undef);refine⟨0,F',H,ν,Z,λk _=>?_,Q,?_,trivial,p2,⟨λd hd=>by rw[p1];exactλz h=>⟨z,h,rfl,.refl _⟩,p3,p4,p5⟩⟩;unfold gQ;simp only[I,false_eq_true,if_false,l,map_some];exact⟨le_refl _,λ_ _ _ _ _=>rfl,λ_ h=>⟨h,rfl⟩,λ_ h=>.inl (by rw[p1]at h;exact h),λ_ h=>.inl h,λd hd=>by rw[p1];exactλz h=>⟨z,h,rfl,.refl _⟩,p3⟩;simp at a;simp at a;simp at a;simp at u
 exact⟨n,F',H',ν',Z',e1,e2,e3.beside y e5 j,e6⟩
def PD(gd:Good X S)(d:jg S c){ops:Rd}{fr:So}:∀(rest:Rd){i:Nat}{B:R'}{ν:Nu}{Z:Nat->Prop}{st st':St}{F:WF}{H:bk},lU X false ops i rest=some (B.map RO.strip)->n5 S c false fr B st=some st'->
 Yc S J st.more st.yid->R ν Z st F H->J st.want (eZ ν st.m) Z H->
 ∃n F' H' ν' Z',(∀k,n<=k->mU S.E (run S.E k) X.nt ops rest F H=some (F',H'))/\R ν' Z' st' F' H'/\J st'.want (eZ ν' st'.m) Z' H'/\Fix ν st ν' st'
 |[],i,B,ν,Z,st,st',F,H,hc,h,y,r,j=>by simp only[lU,ζa]at hc;have:=List.map_eq_nil_iff.1 hc.symm;subst this;simp[n5]at h;subst h;exact⟨0,F,H,ν,Z,λ_ _=>rfl,r,j,.refl⟩|o::rest,i,B,ν,Z,st,st',F,H,hc,h,y,r,j=>by simp[lU]at hc;split at hc;rename_i T rs f U;obtain⟨u,w,rfl,C,D⟩:∃u w,B=u::w/\T=u.strip/\rs=w.map RO.strip:=(by cases B with|nil=>simp_all|cons a b=>grind);subst D;simp[n5,<-C]at h;split at h;rename_i z G;have⟨W,I,G⟩:=ζg.1 G;have⟨x,A,g,Y,L⟩:=Fix.pJ r y j I;have⟨l,F1,H1,E,K,a1,a2,a3,O⟩:=R8 gd d f (by rw[L.more,L.yid];omega) g Y G;have Q:=L.trans O;have⟨m,p,H2,ν2,Z2,q,s,t,v⟩:=PD gd d rest U h (by show Yc S J z.more z.yid;rw[Q.more,Q.yid];omega) (R.Az a2 u.dead) a3;refine⟨max l m,p,H2,ν2,Z2,λk e=>?_,s,t,Q.trans (Fix.Az v)⟩;simp[mU,a1 k (le_trans (le_max_left _ _) e),q k (le_trans (le_max_right _ _) e)];grind;grind
def Old.next{b:Nat}{fr:So}{o:RO}(h:Old b fr ν Z m)(a:Kept (Au o) ν m ν' m'):Old b (sj fr o) ν' Z m':=by refine⟨λd ob j hd C u=>?_,h.2⟩;have w:d∉fr:=λJ=>u (by unfold sj;grind);have z:Au o≠some d:=λe=>u (by unfold sj;grind);obtain⟨B,c,-,-,D⟩:=a d ob z hd;have⟨G,I⟩:=D j C;rw[I];exact h.1 d B j c G w
def Ft(r:R ν Z st F H){id:Nat}(h:eZ ν st.m id):H[id]?≠some .free:=by obtain⟨d,ob,j,a,u,rfl⟩:=h;exact(r.obj d ob a).free u
def Nf(r:R ν Z st F H){id:Nat}(h:Z id):H[id]?≠some .free:=λe=>by have:=r.zrow id h;unfold bn at this;rw[e]at this;simp[Ob.rows]at this
def Ev.Az{ds:So}(e:Ev Rv ν Z (ql ds st) H ν' Z' st' H'):Ev Rv ν Z st H ν' Z' st' H':=⟨e.len,e.same,e.rows,e.own,e.frz,e.pin,e.pins⟩
def QD(gd:Good X S)(g:jg S c){ops:Rd}{b k:Nat}(G:sV ops=true->k=ops.length):∀(len:Nat){i:Nat}{B:R'}{fr:So}{ν:Nu}{Z:Nat->Prop}{st st':St}{F:WF}{H:bk},
 i+len=ops.length->lU X true ops i (ops.drop i)=some (B.map RO.strip)->n5 S c true fr B st=some st'->R ν Z st F H->b<=H.length->Old b fr ν Z st.m->(∀j,i<=j->j<k->H[b+j]?=some .free)->
 ∃n F' H' ν',(∀q,n<=q->kF S.E (run S.E q) X.nt ops b (List.range' i len) F H=some (F',H'))/\R ν' Z st' F' H'/\Ev (λid=>b<=id) ν Z st H ν' Z st' H'/\st'.want=st.want/\Fix ν st ν' st'
 |0,i,B,fr,ν,Z,st,st',F,H,hl,hc,h,r,hb,J,hf=>by rw[List.drop_of_length_le Zaa]at hc;simp only[lU,ζa]at hc;have:B=[]:=List.map_eq_nil_iff.1 hc.symm;subst this;simp[n5]at h;subst h;exact⟨0,F,H,ν,λ_ _=>rfl,r,.refl,rfl,.refl⟩|len+1,i,B,fr,ν,Z,st,st',F,H,hl,hc,h,r,hb,J,hf=>by
  have hi:i<ops.length:=Zaa;have l:=ζd hi;rw[List.drop_eq_getElem_cons hi]at hc;simp[lU]at hc;split at hc
  .rename_i ro rs h1 h2;obtain⟨u,w,rfl,Q,T⟩:∃u w,B=u::w/\ro=u.strip/\rs=w.map RO.strip:=by cases B with|nil=>simp_all|cons a b=>grind
   subst T;simp only[n5,<-Q]at h;split at h
   .rename_i ab U;obtain⟨W,z,U⟩:=ζg.1 U;simp only[DC,if_true]at z;split at z;rotate_left;simp_all;rename_i L;obtain⟨f,m,o,p,s⟩:=Fix.quiet r L z;have J:Old b fr ν Z W.m:=⟨λd ob j hd=>J.1 d ob j (s d ob hd),J.2⟩;obtain⟨t,F1,H1,V,Z1,a1,a2,a3,a4,a5,v⟩:=Mr gd g (place:=some (b,i)) rfl (λO j e=>Zac) (λO j e=>Zac) h1 (λO j e=>Zac) (λO j e ad=>by
     have:sV ops=true:=by
      unfold sV
      grind
     grind) f (.inr rfl) U
    obtain⟨rfl,C⟩:=a4 rfl;have I:=a3.weak λid⟨O,j,e,h⟩=>by cases e;omega
    obtain⟨x,y,H2,ν2,A,E,K,M,N⟩:=QD gd g G len Zaa h2 h (R.Az a2 u.dead) (le_trans hb a3.len) (J.next C) (λj ae Y=>by have D:=hf j Zaa Y;have P:=(ζe.1 D).1;rw[I.same (b+j) P (λh=>Ft f h D) (λh=>Nf f h D) Zaa];omega);refine⟨max t x,y,H2,ν2,λq L=>?_,E,m.trans ((I.weak λid e=>Zaa).trans (Ev.Az K)),by rw[M,<-o];exact a5,p.trans (v.trans (Fix.Az N))⟩;simp[List.range'_succ,kF,l,a1 q (le_trans (le_max_left _ _) L),A q (le_trans (le_max_right _ _) L)]
   grind
  grind
end
end Go.VE
namespace Go.VE
variable[bT]
def bM(X:CX):X'->Code->aY RC
 |_,.skip=>some .skip|_,.label _=>some .skip|_,.region _ ops B=>
  if B then(if xK ops.toList&&Bt ops.toList then(lU X true ops.toList 0 ops.toList).map .ua else none)
  else(lU X false ops.toList 0 ops.toList).map .ops
 |ro,.seq a b=>match bM X ro a,bM X ro b with
  |some a,some b=>some (.seq a b)|_,_=>none
 |ro,.cond c a b=>match qd X.nm c,bM X ro a,bM X ro b with
  |some x,some a,some b=>some (.cond x a b)|_,_,_=>none
 |ro,.block id c=>(bM X ro c).map (.block id)|ro,.loop c=>(bM X ro c).map .loop|ro,.rangeFunc g ps D G=>
  if ro|| !(ps.toList.all (·<X.nt))then none else
  match qd X.nm g,bM X true D,bM X true G with
  |some x,some a,some b=>some (.each x ps.toList a b)|_,_,_=>none
 |_,.exit id=>some (.exit id)|_,.ret=>some .ret|_,_=>none
def erase:RC->RC
 |.seq a b=>.seq (erase a) (erase b)|.cond x a b=>.cond x (erase a) (erase b)|.block id c=>.block id (erase c)|.loop c=>.loop (erase c)|.each g ps a b=>.each g ps (erase a) (erase b)|.gh _ c=>erase c|.hg c _=>erase c|.ops l=>.ops (l.map RO.strip)|.ua l=>.ua (l.map RO.strip)|c=>c
def jL(step:St->aY (Out×St)):Nat->St->aY (Out×St)
 |0,_=>none|k+1,st=>match step st with
  |some (.norm,st')=>jL step k st'|r=>r
open Classical in
def pH(step:St->aY (Out×St))(st:St):aY (Out×St):=if h:∃k r,jL step k st=some r then some (Classical.choose (choose_spec h))else none
def Am{step:St->aY (Out×St)}:∀{k B:Nat}{st:St}{r:Out×St},k<=B->jL step k st=some r->jL step B st=some r
 |0,_,_,_,_,h=>by simp[jL]at h|k+1,0,_,_,hk,_=>Zaa|k+1,B+1,st,r,hk,h=>by simp only[jL]at h⊢;split at h;(next st' D=>rw[Am (Nat.le_of_succ_le_succ hk) h]);exact h
def nW{step:St->aY (Out×St)}{st:St}{r:Out×St}:pH step st=some r↔∃k,jL step k st=some r:=by
 unfold pH;constructor;intro h;split at h;next u=>simp only[ζa]at h;exact⟨_,by rw[<-h];exact choose_spec (choose_spec u)⟩
 simp at h;rintro⟨k,a⟩;have u:∃k r,jL step k st=some r:=⟨k,r,a⟩;rw[dif_pos u];have z:=choose_spec (choose_spec u);have B:=Am (le_max_left (Classical.choose u) k) z;have w:=Am (le_max_right (Classical.choose u) k) a;rw[B]at w;exact w
def jh(ps:So)(A B:St->aY (Out×St))(st:St)(x:S')(m:Tb bB):aY (Out×Tb bB):=
 if x.length=ps.length then
  match A {g:=ye st.g ps (x.map .v),m:=m,pin:=st.pin++qE st.g,want:=[],more:=true,yid:=0}with
  |some (.norm,u)=>(B u).map λ(o,st2)=>(o,st2.m)|_=>none
 else none
def ri(step:S'->Tb bB->aY (Out×Tb bB)):T2->Tb bB->aY (Out×Tb bB)
 |[],m=>some (.norm,m)|x::xs,m=>match step x m with
  |some (.norm,m')=>ri step xs m'|r=>r
def cN(S:Sys)(c:bX):RC->St->aY (Out×St)
 |.skip,st=>some (.norm,st)|.ops l,st=>(n5 S c false [] l st).map λst=>(.norm,st)|.ua l,st=>(n5 S c true [] l st).map λst=>(.norm,st)|.seq a b,st=>match cN S c a st with
  |some (.norm,st')=>cN S c b st'|r=>r
 |.cond x a b,st=>match rU S.N st.g x with
  |some (.v (.bool t))=>if t then cN S c a st else cN S c b st|_=>none
 |.block id a,st=>match cN S c a st with
  |some (.exit B,st')=>if B=id then some (.norm,st')else some (.exit B,st')|r=>r
 |.loop a,st=>pH (cN S c a) st|.each g ps a b,st=>match rU S.N st.g g with
  |some (.v (.clo f x y))=>match S.items f x y with
   |some xs=>(ri (jh ps (cN S c a) (cN S c b) st) xs st.m).map λ(o,m)=>(o,{st with m:=m})|none=>none
  |_=>none
 |.exit id,st=>some (.exit id,st)|.ret,st=>some (.ret,st)|.gh x a,st=>(ghost x st).bind (cN S c a)|.hg a x,st=>match cN S c a st with
  |some (.norm,st')=>(ghost x st').map λst=>(.norm,st)|r=>r
def eP(S:Sys)(f:Y')(a b:S')(xs:T2):Prop:=∀u more,(more=true/\u=xs\/more=false/\u≠[]/\∃r,xs=u++r)->∀yid J,Yc S J more yid->∀Z w z H,dz H Z a w->dz H Z b z->(∀i,Z i->(bn H i).isSome=true)->Deep H Z->J u (λ_=>False) Z H->∃n y H' B Z',(∀k,n<=k->run S.E k (.fn f) (w++.yld yid::z) H=some (y,H'))/\J [] B Z' H'
section
variable{ν ν' ν2:Nu}{Z Z':Nat->Prop}{st st' st2:St}{m m':Tb bB}{F F':WF}{H H' H1:bk}{S:Sys}{c:bX}{X:CX}{J:JT}
end
inductive ym(step:List V->Tb bB->Option (Out×Tb bB))(o:Out)(mf:Tb bB):List (List V)->Bool->Tb bB->Prop
 |nil(h:o=.norm):ym step o mf [] true mf|next(x:List V)(ws:List (List V))(more:Bool)(m m1:Tb bB)(h:step x m=some (.norm,m1))(r:ym step o mf ws more m1):ym step o mf (x::ws) more m|last(x:List V)(m:Tb bB)(h:step x m=some (o,mf))(ho:o≠.norm):ym step o mf [x] false m
def D1{step:S'->Tb bB->aY (Out×Tb bB)}{o:Out}{D:Tb bB}:∀{xs:T2}{m:Tb bB},ri step xs m=some (o,D)->
 ∃B more,(more=true/\B=xs\/more=false/\B≠[]/\∃r,xs=B++r)/\ym step o D B more m
 |[],m,h=>by obtain⟨rfl,rfl⟩:=h;exact⟨[],true,.inl ⟨rfl,rfl⟩,.nil rfl⟩|x::xs,m,h=>by simp[ri]at h;split at h;rename_i m' u;have⟨B,more,b,a⟩:=D1 h;refine⟨x::B,more,?_,.next x B more m m' u a⟩;grind;refine⟨[x],false,.inr ⟨rfl,Zab,xs,rfl⟩,.last x m h λe=>?_⟩;simp_all
def wj(O0 Z0:Nat->Prop)(H0:bk):JT:=λw O Z H=>w=[]/\H0.length<=H.length/\(∀i,i<H0.length->¬O0 i->¬Z0 i->H[i]?=H0[i]?)/\(∀i,Z0 i->Z i/\bn H i=bn H0 i)/\(∀i,O i->O0 i\/H0.length<=i)/\(∀i,Z i->Z0 i\/O0 i\/H0.length<=i)
section
variable{ν ν' ν2:Nu}{Z Z':Nat->Prop}{st st' st2:St}{m m':Tb bB}{F F':WF}{H H' H1:bk}{S:Sys}{c:bX}{X:CX}{J:JT}{O0 Z0:Nat->Prop}{H0:bk}
def wj.xR{w:T2}{O Z B Z':Nat->Prop}{H H':bk}(j:wj O0 Z0 H0 w O Z H)(D:H.length<=H'.length)(G:∀i,i<H.length->¬O i->¬Z i->H'[i]?=H[i]?)(a:∀i,Z i->Z' i/\bn H' i=bn H i)
 (J:∀i,B i->O i\/H.length<=i)(T:∀i,Z' i->Z i\/O i\/H.length<=i):wj O0 Z0 H0 w B Z' H':=by
 have⟨u,z,I,C,L,Q⟩:=j;refine⟨u,le_trans z D,λi b S U=>?_,λi h=>⟨(a i (C i h).1).1,Zac⟩,λi h=>?_,λi h=>?_⟩
 .grind
 .grind
 grind
def wj.yc{more:X'}{yid:Nat}:Yc S (wj O0 Z0 H0) more yid where
 xR:=λ_ _ _ _ _ _ _ j a u w z B=>j.xR a u w z B
 yield:=λx C O Z H args j=>by have⟨h,_⟩:=j;cases h
def wj.refl(r:R ν Z st F H):wj (eZ ν st.m) Z H [] (eZ ν st.m) Z H:=⟨rfl,le_refl _,λ_ _ _ _=>rfl,λi h=>⟨h,rfl⟩,λi h=>.inl h,λi h=>.inl h⟩
mutual
def DU{d:Nat}:∀{sv:SV},sv.cM d=true->d∈sv.names
 |.v _,h=>by simp[SV.cM]at h|.own e,h=>by simp[SV.cM]at h;simp[SV.names,h]|.ptr e _,h=>by simp[SV.cM]at h;simp[SV.names,h]|.el e _ _,h=>by simp[SV.cM]at h;simp[SV.names,h]|.mp e,h=>by simp[SV.cM]at h;simp[SV.names,h]|.clo f a b,h=>by simp only[SV.cM,or_eq_true]at h;simp only[SV.names,List.mem_append];exact h.imp rX rX|.tup l,h=>by simp only[SV.cM]at h;simp only[SV.names];exact rX h|.agg l,h=>by simp only[SV.cM]at h;simp only[SV.names];exact rX h|.yl _,h=>by simp[SV.cM]at h
def rX{d:Nat}:∀{l:ST},SV.dF d l=true->d∈SV.xL l
 |[],h=>by simp[SV.dF]at h|x::r,h=>by simp only[SV.dF,or_eq_true]at h;simp only[SV.xL,List.mem_append];exact h.imp DU rX
end
def Cz{d:Nat}:∀{g:Tb SV}{s:Nat}{sv:SV},bh g s=some sv->sv.cM d=true->d∈qE g
 |[],s,sv,h,_=>by simp[bh]at h|(k,x)::r,s,sv,h,B=>by simp[bh]at h;simp[qE];split at h;simp at h;subst h;exact .inl (DU B);exact .inr (Cz h B)
def R.Y8(r:R ν Z st F H){Z2:Nat->Prop}(b:∀i,Z2 i->¬eZ ν st.m i)(G:∀i,Z2 i->(bn H i).isSome=true)(J:Deep H Z2):R ν (λi=>Z i\/Z2 i) st F H:=by have w:∀i,Z i->(Z i\/Z2 i)/\bn H i=bn H i:=λi h=>⟨.inl h,rfl⟩;have z:∀i,Z2 i->(Z i\/Z2 i)/\bn H i=bn H i:=λi h=>⟨.inr h,rfl⟩;refine⟨λs I L=>(r.slot s I L).mono w λe _=>jt ν st.m e,λd ob hd=>dg.mono w rfl (λ_ _=>rfl) (λe _=>jt ν st.m e) (r.obj d ob hd),r.inj,λd ob j hd C a=>?_,λi hi=>?_,⟨λid es D hi hr c hc u hu=>?_⟩⟩;rcases a with a|a;exact r.apart d ob j hd C a;exact b _ a ⟨d,ob,j,hd,C,rfl⟩;exact hi.elim (r.zrow i) (G i);rcases hi with hi|hi;have⟨x,B⟩:=r.deep.row id es D hi hr c hc u hu;exact⟨x,B.mono w⟩;have⟨x,B⟩:=J.row id es D hi hr c hc u hu;exact⟨x,B.mono z⟩
def R.XZ:∀{ps:So}{xs:S'}{vs:S'}{g:Tb SV}{F:WF},R ν Z {st with g:=g} F H->dz H Z xs vs->xs.length=ps.length->R ν Z {st with g:=ye g ps (xs.map .v)} (zD ps vs F) H
 |[],xs,vs,g,F,r,h,B=>by have:=List.length_eq_zero_iff.1 B;subst this;exact r|p::ps,[],vs,g,F,r,h,B=>Zad|p::ps,x::xs,vs,g,F,r,h,B=>by obtain⟨w,z,rfl,a,u⟩:=h.inv;exact R.XZ (ps:=ps) (r.put (.v _ _ a)) u Zac
def uy(X:CX)(S:Sys)(ro:X')(code:Code)(B:St->aY (Out×St)):Prop:=∀st o st',B st=some (o,st')->∀(J:JT)ν Z F H,Yc S J st.more st.yid->R ν Z st F H->J st.want (eZ ν st.m) Z H->∃n F' H' ν' Z',(∀k,n<=k->exec S.E (run S.E k) k ro X.nt code F H=some (o,F',H'))/\R ν' Z' st' F' H'/\J st'.want (eZ ν' st'.m) Z' H'/\Fix ν st ν' st'
def TM(st:St)(m:Tb bB):St:={g:=st.g,m:=m,pin:=st.pin++qE st.g,want:=[],more:=true,yid:=0}
def JI(X:CX)(st:St)(F:WF)(ν:Nu)(O0 Z0:Nat->Prop)(H0:bk)(B:Nat)(ps:So)(J T:Code)(step:S'->Tb bB->aY (Out×Tb bB))(o:Out)(G:Tb bB)(more:X'):JT:=λw O Z H=>∃m z D u,R z D (TM st m) F H/\wj O0 Z0 H0 [] (eZ z m) D H/\(∀i,O i->¬eZ z m i/\¬D i/\i≠B/\H0.length<=i)/\(∀i,Z i->¬eZ z m i/\i≠B/\(Z0 i\/H0.length<=i))/\¬eZ z m B/\¬D B/\H0.length<=B/\H[B]?=some (.loop u)/\(u.frame=F/\u.nt=X.nt/\u.params=ps/\u.assign=J/\u.body=T)/\(∀d∈st.pin++qE st.g,∀C,bh m d=some C->∃ob,bh st.m d=some ob/\z d=ν d/\sameShape ob C)/\((ym step o G w more m/\u.st=.ready/\u.pend=none)\/(w=[]/\m=G/\u.st=.done/\u.pend=some o))
def JI.xR{w:T2}{O Z G Z':Nat->Prop}{H H':bk}{B:Nat}{ps:So}{J T:Code}{step:S'->Tb bB->aY (Out×Tb bB)}{o:Out}{U:Tb bB}{more:X'}
 (j:JI X st F ν O0 Z0 H0 B ps J T step o U more w O Z H)(W:H.length<=H'.length)(D:∀i,i<H.length->¬O i->¬Z i->H'[i]?=H[i]?)(v:∀i,Z i->Z' i/\bn H' i=bn H i)
 (Y:∀i,G i->O i\/H.length<=i)(d:∀i,Z' i->Z i\/O i\/H.length<=i):JI X st F ν O0 Z0 H0 B ps J T step o U more w G Z' H':=by
 have⟨m,S,I,e,r,f,a,b,g,k,l,n,p,q,s⟩:=j;have u:=λi hi=>D i (r.lt hi) (λh=>(a i h).1 hi) (λh=>(b i h).1 hi)
 have z:∀i,I i->bn H' i=bn H i:=λi hi=>by by_cases C:Z i;grind;unfold bn;rw[D i (r.vQ hi) (λh=>(a i h).2.1 hi) C]
 have x:=(ζe.1 n).1;refine⟨m,S,I,e,r.heap u z,?_,λi h=>?_,λi h=>?_,g,k,l,?_,p,q,s⟩
 .have⟨j1,L,j3,j4,j5,j6⟩:=f;refine⟨j1,le_trans L W,λi c t Q=>?_,λi h=>⟨(j4 i h).1,Zac⟩,j5,j6⟩
  rw[D i (Nat.lt_of_lt_of_le c L) (λh=>by have:=(a i h).2.2.2;omega) (λh=>by rcases(b i h).2.2 with h|h;exact Q h;omega),j3 i c t Q]
 .rcases Y i h with h|h
  .exact a i h
  exact⟨λhi=>absurd (r.lt hi) Zaa,λhi=>absurd (r.vQ hi) Zaa,Zaa,Zaa⟩
 .rcases d i h with h|h|h
  .exact b i h
  .exact⟨(a i h).1,(a i h).2.2.1,.inr (a i h).2.2.2⟩
  exact⟨λhi=>absurd (r.lt hi) Zaa,Zaa,.inr Zaa⟩
 grind
def JI.yield(S:Sys){A B:St->aY (Out×St)}{M N:Code}(hA:uy X S true M A)(hB:uy X S true N B){D:Nat}{ps:So}(ax:ps.all (·<X.nt)=true){o:Out}{p:Tb bB}{more:X'}
 {x:S'}{f:T2}{O Z:Nat->Prop}{H:bk}{args:S'}(j:JI X st F ν O0 Z0 H0 D ps M N (jh ps A B st) o p more (x::f) O Z H)
 (hx:dz H Z x args)(an:∀i,Z i->(bn H i).isSome=true)(ay:Deep H Z)(aA:∀i,O i->¬Z i/\i<H.length):
 ∃n H',run S.E n (.yld D) args H=some (.bool (more|| !f.isEmpty),H')/\JI X st F ν O0 Z0 H0 D ps M N (jh ps A B st) o p more f O Z H'/\H.length<=H'.length/\(∀i,O i->H'[i]?=H[i]?)/\(∀i,Z i->bn H' i=bn H i):=by
 have⟨m,q,g,c,r,ej,d1,t,P,l2,l3,l4,⟨q1,q2,q3,q4,q5⟩,l6,l7⟩:=j;have aB:ym (jh ps A B st) o p (x::f) more m/\c.st=.ready/\c.pend=none:=by grind
 have⟨hE,T,aC⟩:=aB;have U:∃v m1,jh ps A B st x m=some (v,m1)/\(v=.norm/\ym (jh ps A B st) o p f more m1/\(more|| !f.isEmpty)=true\/v≠.norm/\v=o/\m1=p/\f=[]/\more=false):=by cases hE with|next _ _ _ _ m1 h hr=>refine⟨.norm,m1,h,.inl ⟨rfl,hr,?_⟩⟩;cases hr<;>simp|last _ _ h ho=>grind
 have⟨v,m1,w,ab⟩:=U;unfold jh at w;split at w
 .rename_i ad;split at w
  .rename_i ah aD;have⟨⟨z,st2⟩,aE,e⟩:=ζf.1 w;simp at e;obtain⟨rfl,rfl⟩:=e;have aF:=(ζe.1 l4).1;have r1:=r.Y8 (λi hi=>(t i hi).1) an ay
   have aG:dz H (λi=>g i\/Z i) x args:=hx.mono λi hi=>⟨.inr hi,rfl⟩
   have r2:=R.XZ (st:=TM st m) r1 aG ad;have⟨nA,F2,H2,ν2,Z2,a1,a2,a3,a4⟩:=hA _ _ _ aD (wj (eZ q m) (λi=>g i\/Z i) H) q _ _ H wj.yc r2 (wj.refl r1)
   have⟨b1,b2,b3,b4,y,b6⟩:=a3;have ai:¬(g D\/Z D):=λh=>h.elim l2 λh=>(t D h).2.1 rfl
   have ao:H2[D]?=some (.loop c):=by rw[b3 D aF P ai];omega
   have ae:D<H2.length:=Zaa
   have W:¬eZ ν2 ah.m D:=λh=>(y D h).elim P λh=>Zaa
   have aj:¬Z2 D:=λh=>by rcases b6 D h with h|h|h;exact ai h;exact P h;omega
   have u:∀(ob:Ob)(Hh:bk)(i:Nat),i≠D->(Hh.set D ob)[i]?=Hh[i]?:=λob Hh i Y=>by rw[List.getElem?_set,if_neg (Ne.symm Y)]
   have r3:R ν2 Z2 ah F2 (H2.set D (.loop {c with st:=.busy})):=a2.heap (λi hi=>u _ _ i λe=>W (e▸hi)) (λi hi=>by unfold bn;rw[u _ _ i λe=>aj (e▸hi)])
   have⟨nB,F4,b,E,k,c1,c2,c3,c4⟩:=hB _ _ _ aE (wj (eZ ν2 ah.m) Z2 (H2.set D (.loop {c with st:=.busy}))) ν2 Z2 F2 _ wj.yc r3 (by
    rw[b1];exact wj.refl r3)
   have⟨_,g2,g3,g4,g5,g6⟩:=c3;simp at g2 g3 g5 g6;have ap:b[D]?=some (.loop {c with st:=.busy}):=by rw[g3 D ae W aj,List.getElem?_set_self ae]
   have aq:D<b.length:=Zaa
   have ar:=λh=>(g5 D h).elim W λh=>Zaa
   have au:¬k D:=λh=>by rcases g6 D h with h|h|h;exact aj h;exact W h;omega
   generalize K:({c with st:=(if z==.norm then CA.ready else CA.done),pend:=(if z==.norm then none else some z)}:xw)=G;have r5:R E k st2 F4 (b.set D (.loop G)):=c2.heap (λi hi=>u _ _ i λe=>ar (e▸hi)) (λi hi=>by unfold bn;rw[u _ _ i λe=>au (e▸hi)])
   have L:H.length<=(b.set D (.loop G)).length:=by simp;omega
   have ak:∀i,i<H.length->i≠D->¬eZ q m i->¬(g i\/Z i)->(b.set D (.loop G))[i]?=H[i]?:=λi a J I l=>by rw[u _ _ i J,g3 i Zaa (λh=>(y i h).elim I λh=>Zaa) (λh=>by rcases b6 i h with h|h|h;exact l h;exact I h;omega),u _ _ i J,b3 i a I l]
   have C:∀i,(g i\/Z i)->k i/\bn (b.set D (.loop G)) i=bn H i:=λi hi=>by have Y:i≠D:=λe=>ai (e▸hi);have⟨t1,t2⟩:=b4 i hi;have⟨t3,t4⟩:=g4 i t1;refine⟨t3,?_⟩;rw[<-t2];have:bn (H2.set D (.loop {c with st:=.busy})) i=bn H2 i:=(by unfold bn;rw[u _ _ i Y]);rw[<-this,<-t4];unfold bn;rw[u _ _ i Y]
   have Q:∀i,eZ E st2.m i->eZ q m i\/H.length<=i:=λi hi=>by rcases g5 i hi with h|h;exact y i h;exact .inr Zaa
   have af:∀i,k i->(g i\/Z i)\/eZ q m i\/H.length<=i:=λi hi=>by rcases g6 i hi with h|h|h;exact b6 i h;rcases y i h with h|h;exact .inr (.inl h);exact .inr (.inr h);exact .inr (.inr Zaa)
   have fx:=a4.trans c4;have r6:R E k (TM st st2.m) F (b.set D (.loop G)):=⟨λs sv hs=>(r.slot s sv hs).mono (λi hi=>C i (.inl hi)) λd hd al am=>fx.pin d (List.mem_append_right _ (Cz hs hd)) al am,r5.obj,r5.inj,r5.apart,r5.zrow,r5.deep⟩
   have av:run S.E (max nA nB+1) (.yld D) args H=some (.bool (z==.norm),b.set D (.loop G)):=by simp only[run,ku,l4];rw[if_pos (by rw[q3];exact⟨by rw[<-hx.1];exact ad,by rw[q2];exact ax⟩)];rw[q1,q2,q3,q4,q5];rw[a1 _ (le_max_left _ _)];simp only[ao,T];rw[c1 _ (le_max_right _ _)];simp only[ap];rw[<-K]
   refine⟨max nA nB+1,b.set D (.loop G),?_,⟨st2.m,E,k,G,r6,?_,λi hi=>?_,λi hi=>?_,ar,au,l3,?_,?_,λd hd al am=>?_,?_⟩,L,λi hi=>?_,λi hi=>(C i (.inr hi)).2⟩
   .rw[av];rcases ab with⟨a,_,I⟩|⟨a,_,_,l,h5⟩
    .rw[a,I];rfl
    rw[l,h5]
    cases aH:z with
    |norm=>exact absurd aH a|_=>rfl
   .have⟨j1,j2,j3,j4,j5,j6⟩:=ej;refine⟨rfl,le_trans j2 L,λi a J I=>?_,λi h=>⟨(C i (.inl (j4 i h).1)).1,by rw[(C i (.inl (j4 i h).1)).2,(j4 i h).2]⟩,λi h=>?_,λi h=>?_⟩
    .rw[ak i Zaa Zaa (λh=>by rcases j5 i h with h|h;exact J h;omega) (λh=>by
      rcases h with h|h
      .rcases j6 i h with h|h|h;exact I h;exact J h;omega
      rcases(t i h).2.2 with h|h;exact I h;omega),j3 i a J I]
    .rcases Q i h with h|h
     .exact j5 i h
     exact .inr Zaa
    rcases af i h with(h|h)|h|h
    .exact j6 i h
    .rcases (t i h).2.2 with h|h;exact .inl h;exact .inr (.inr h)
    .rcases j5 i h with h|h;exact .inr (.inl h);exact .inr (.inr h)
    exact .inr (.inr Zaa)
   .have⟨t1,t2⟩:=aA i hi;have⟨t3,t4,t5,t6⟩:=d1 i hi;refine⟨λh=>(Q i h).elim t3 λh=>Zaa,λh=>?_,t5,t6⟩
    rcases af i h with(h|h)|h|h
    .exact t4 h
    .exact t1 h
    .exact t3 h
    omega
   .have⟨t1,t2,t3⟩:=t i hi;have aJ:i<H.length:=by
     have:=an i hi;unfold bn at this
     cases hh:H[i]?with
     |none=>rw[hh]at this;simp at this|some _=>exact(ζe.1 hh).1
    exact⟨λh=>(Q i h).elim t1 λh=>Zaa,t2,t3⟩
   .rw[List.getElem?_set_self aq]
   .subst K;exact⟨q1,q2,q3,q4,q5⟩
   .have⟨aI,a,J,I⟩:=fx.pin d hd al am;have⟨ob,k1,k2,k3⟩:=l6 d hd aI a;exact⟨ob,k1,by rw[J,k2],k3.trans I⟩
   .rcases ab with⟨a,J,I⟩|⟨a,J,I,l,h5⟩
    .left;subst a;subst K;exact⟨J,rfl,rfl⟩
    right;subst K;have hb:¬(z==Out.norm)=true:=by simpa using a
    refine⟨l,I,?_,?_⟩
    .show (if(z==Out.norm)=true then CA.ready else CA.done)=CA.done;rw[if_neg hb]
    show(if(z==Out.norm)=true then none else some z)=some o;rw[if_neg hb,J]
   grind
  grind
 grind
end
section
variable{ν ν' ν2:Nu}{Z Z':Nat->Prop}{st st' st2:St}{m m':Tb bB}{F F':WF}{H H' H1:bk}{S:Sys}{c:bX}{X:CX}{J:JT}
def PA(gd:Good X S)(g:jg S c){ro:X'}{id:Nat}{ops:Array Oper}{l:R'}(m:lU X true ops.toList 0 ops.toList=some (l.map RO.strip))(hd:(xK ops.toList&&Bt ops.toList)=true):
 uy X S ro (.region id ops true) (λst=>(n5 S c true [] l st).map λst=>(.norm,st)):=by
 intro st o st' h J ν Z F H y r j;have⟨G,a,e⟩:=ζf.1 h;simp only[ζc]at e;obtain⟨rfl,rfl⟩:=e;generalize w:(if sV ops.toList then H++List.replicate ops.toList.length .free else H)=H0;generalize f:(if sV ops.toList then ops.toList.length else 0)=k;have u:∀i,i<H.length->H0[i]?=H[i]?:=λi hi=>by rw[<-w];split;exact List.getElem?_append_left hi;rfl
 have z:H.length<=H0.length:=by rw[<-w];split<;>simp
 have I:R ν Z st F H0:=r.heap (λi hi=>u i (r.lt hi)) (λi hi=>by unfold bn;rw[u i (r.vQ hi)])
 have B:∀q,0<=q->q<k->H0[H.length+q]?=some .free:=λq _ C=>by rw[<-f]at C;split at C;rename_i D;rw[<-w,if_pos D,List.getElem?_append_right Zaa];simp only[Nat.add_sub_cancel_left];rw[List.getElem?_replicate,if_pos C];omega
 have⟨n,F',H',ν',e1,e2,e3,e4,e5⟩:=QD gd g (ops:=ops.toList) (b:=H.length) (k:=k) (λD=>by rw[<-f,if_pos D]) ops.toList.length (i:=0) (fr:=[]) Zaa (by simpa using m) a I z
  ⟨λd ob j hd L _=>r.lt ⟨d,ob,j,hd,L,rfl⟩,λi hi=>r.vQ hi⟩ B
 refine⟨n,F',H',ν',Z,λq C=>?_,e2,?_,e5⟩
 .simp only[exec,j8,if_true,hd,ζf,ζc,true_and];refine⟨(F',H'),?_,rfl,rfl⟩;rw[w];have:=e1 q C;rw[List.range_eq_range'];exact this
 rw[e4];refine y.xR _ _ _ _ _ _ _ j (le_trans z e3.len) (λi a O Q=>by rw[e3.same i Zaa O Q Zaa,u i a]) (λi hi=>⟨hi,by rw[(e3.rows i hi).2];unfold bn;rw[u i (r.vQ hi)]⟩) (λi hi=>?_) (λi hi=>.inl hi)
 rcases e3.own i hi with h|h|h
 .exact .inl h
 .exact .inr h
 exact .inr Zaa
def U0{ro:X'}{code:Code}{f:St->aY (Out×St)}(T:uy X S ro code f):uy X S ro (.loop code) (pH f):=by
 intro st o st' h J ν Z F H y r j;have⟨k,a⟩:=nW.1 h;have key:∀k st ν Z F H,jL f k st=some (o,st')->Yc S J st.more st.yid->R ν Z st F H->J st.want (eZ ν st.m) Z H->
  ∃n F' H' ν' Z',(∀q,n<=q->∀u,k<=u->lF (exec S.E (run S.E q) q ro X.nt code) u F H=some (o,F',H'))/\R ν' Z' st' F' H'/\J st'.want (eZ ν' st'.m) Z' H'/\Fix ν st ν' st':=by
  intro k
  induction k with
  |zero=>intro st ν Z F H h;simp[jL]at h|succ k Q=>
   intro st ν Z F H h y r j;simp only[jL]at h;split at h
   .rename_i z C;have⟨D,F1,H1,G,I,a1,a2,L,B⟩:=T st .norm z C J ν Z F H y r j;have⟨U,W,H2,ν2,Z2,Y,b,c,d⟩:=Q z G I F1 H1 h (by rw[B.more,B.yid];exact y) a2 L
    refine⟨max D U,W,H2,ν2,Z2,λq w u O=>?_,b,c,B.trans d⟩
    cases u with
    |zero=>omega|succ u=>simp only[lF,a1 q (le_trans (le_max_left _ _) w)];exact Y q (le_trans (le_max_right _ _) w) u Zaa
   rename_i C;have⟨D,F1,H1,G,I,a1,a2,L,B⟩:=T st o st' h J ν Z F H y r j;have g:o≠.norm:=λe=>by subst e;exact C st' h
   refine⟨D,F1,H1,G,I,λq w u O=>?_,a2,L,B⟩
   cases u with
   |zero=>omega|succ u=>simp only[lF,a1 q w];cases o<;>first|exact absurd rfl g|rfl
 have⟨n,F',H',ν',Z',e1,e2,e3,e4⟩:=key k st ν Z F H a y r j;refine⟨max n k,F',H',ν',Z',λq w=>?_,e2,e3,e4⟩;simp only[exec];exact e1 q (le_trans (le_max_left _ _) w) q (le_trans (le_max_right _ _) w)
def U9(gd:Good X S)(V:∀f a b xs,S.items f a b=some xs->eP S f a b xs){g:U'}{ps:Array Tmp}{U W:Code}{x:Arg}{A B:St->aY (Out×St)}
 (ab:ps.toList.all (·<X.nt)=true)(hx:qd X.nm g=some x)(hA:uy X S true U A)(hB:uy X S true W B):
 uy X S false (.rangeFunc g ps U W) (λst=>match rU S.N st.g x with
 |some (.v (.clo f x y))=>match S.items f x y with
  |some xs=>(ri (jh ps.toList A B st) xs st.m).map λ(o,m)=>(o,{st with m:=m})|none=>none
 |_=>none):=by
 intro st o st' h J ν Z F H y r j;dsimp only at h;split at h
 .rename_i f a b ad;split at h
  .rename_i xs ae;have⟨⟨p,s⟩,hE,e⟩:=ζf.1 h;simp only[ζc]at e;obtain⟨rfl,rfl⟩:=e;have⟨yv,hy,ry⟩:=Fu gd.N r.slot hx ad;obtain⟨a',b',rfl,ra,rb⟩:=ry.fr.kS;have⟨M,more,Q,hR⟩:=D1 hE;generalize I:(⟨.ready,none,F,X.nt,ps.toList,U,W⟩:xw)=u;have z:∀i,i<H.length->(H++[Ob.loop u])[i]?=H[i]?:=λi hi=>List.getElem?_append_left hi
   have C:∀i,Z i->bn (H++[Ob.loop u]) i=bn H i:=λi hi=>by unfold bn;rw[z i (r.vQ hi)]
   have r0:R ν Z (TM st st.m) F (H++[Ob.loop u]):=by have:=r.heap (H':=H++[Ob.loop u]) (λi hi=>z i (r.lt hi)) C;exact⟨this.slot,this.obj,this.inj,this.apart,this.zrow,this.deep⟩
   have D:∀i,Z i->Z i/\bn (H++[Ob.loop u]) i=bn H i:=λi hi=>⟨hi,C i hi⟩
   have j0:JI X st F ν (eZ ν st.m) Z H H.length ps.toList U W (jh ps.toList A B st) p s more M (λ_=>False) Z (H++[Ob.loop u]):=by refine⟨st.m,ν,Z,u,r0,⟨rfl,Zab,λi k _ _=>z i k,λi hi=>⟨hi,C i hi⟩,λi hi=>.inl hi,λi hi=>.inl hi⟩,λi hi=>hi.elim,λi hi=>⟨λt=>?_,Nat.ne_of_lt (r.vQ hi),.inl hi⟩,λt=>absurd (r.lt t) Zab,λhz=>absurd (r.vQ hz) Zab,le_refl _,Zab,?_,λd _ af h=>⟨af,h,rfl,.refl _⟩,.inl ⟨hR,?_,?_⟩⟩;obtain⟨d,ob,j,g1,g2,rfl⟩:=t;exact r.apart d ob j g1 g2 hi;subst I;exact⟨rfl,rfl,rfl,rfl,rfl⟩;subst I;rfl;subst I;rfl
   have ah:Yc S (JI X st F ν (eZ ν st.m) Z H H.length ps.toList U W (jh ps.toList A B st) p s more) more H.length:=⟨λw O Z1 H1 O' Z' H' v k Y l E h5=>JI.xR v k Y l E h5,λx1 aj O Z1 H1 args v k Y l E=>JI.yield S hA hB ab v k Y l E⟩
   have⟨n,yy,H',O',Z',e1,e2⟩:=V f a b xs ae M more Q H.length _ ah Z a' b' (H++[Ob.loop u]) (ra.mono D) (rb.mono D) (λi hi=>by rw[C i hi];exact r.zrow i hi) (r.deep.mono C) j0
   have⟨m1,νb,N,K,r1,⟨_,k2,k3,k4,k5,k6⟩,_,_,l1,l2,l3,P,_,l6,l7⟩:=e2;have aa:m1=s/\(K.st=.ready\/K.st=.done)/\K.pend.getD .norm=p:=by rcases l7 with⟨g1,g2,g3⟩|⟨_,g1,g2,g3⟩;(cases g1 with|nil hn=>exact⟨rfl,.inl g2,by rw[g3,hn];rfl⟩);exact⟨g1,.inr g2,by rw[g3];rfl⟩
   obtain⟨rfl,c,T⟩:=aa;have ak:H.length<H'.length:=(ζe.1 P).1;have G:∀i,i≠H.length->(H'.set H.length .dead)[i]?=H'[i]?:=λi ai=>by rw[List.getElem?_set,if_neg (Ne.symm ai)]
   have L:∀i,N i->bn (H'.set H.length .dead) i=bn H' i:=λi hi=>by unfold bn;rw[G i λe=>l2 (e▸hi)]
   have r2:=r1.heap (H':=H'.set H.length .dead) (λi hi=>G i λe=>l1 (e▸hi)) L
   refine⟨n,F,H'.set H.length .dead,νb,N,λq hq=>?_,⟨r2.slot,r2.obj,r2.inj,r2.apart,r2.zrow,r2.deep⟩,?_,⟨λd hd=>l6 d (List.mem_append_left _ hd),rfl,rfl,rfl⟩⟩
   .simp only[exec,hy];rw[I,e1 q hq];simp only[P];rcases c with c|c<;>rw[c]<;>simp only[T]
   refine y.xR _ _ _ _ _ _ _ j (by simp only[List.length_set];omega) (λi k Y l=>by rw[G i Zaa,k3 i k Y l]) (λi hi=>⟨(k4 i hi).1,by rw[L i (k4 i hi).1,(k4 i hi).2]⟩) k5 k6
  simp at h
 simp at h
end
def jP(st:St):QR->aY ST
 |[]=>some []|.s n::r=>match bh st.g n,jP st r with
  |some x,some l=>some (x::l)|_,_=>none
 |.ld n size agg::r=>match(bh st.g n).bind λp=>qt st.m (.load size agg) [p],jP st r with
  |some x,some l=>some (x::l)|_,_=>none
def nN(S:Sys)(c:bX)(rf:RF)(svs:ST)(B:dB):aY (ST×dB):=
 if svs.length<=rf.na then
  match cN S c rf.body (start svs B)with
  |some (.exit _,_)=>none|some (_,st)=>(jP st rf.rs).map λrs=>(rs,st.m)|none=>none
 else none
def Cr(E:Env):ResultVar->aY RV
 |.tmp t=>some (.s t)|.cell a t=>(E.tt t).map λd=>.ld a d.size d.agg
def yC(E:Env)(nm:Y'->aY Nat)(fi:FI)(rf:RF):Prop:=bM ⟨E,nm,fi.ntmps⟩ false fi.body=some (erase rf.body)/\fi.results.mapM (Cr E)=some rf.rs/\rf.na=fi.ntmps
section
variable{ν ν' ν2:Nu}{Z Z':Nat->Prop}{st st' st2:St}{m m':Tb bB}{F F':WF}{H H' H1:bk}{S:Sys}{c:bX}{X:CX}{J:JT}
theorem LH (gd:Good X S) (hS:jg S c) (hI:∀f a b xs,S.items f a b=some xs->eP S f a b xs):∀(rc:RC) (ro:Bool) (code:Code),bM X ro code=some (erase rc)->uy X S ro code (cN S c rc):=by
 intro rc
 induction rc with
 | skip=>
  intro ro code hc st o st' h J ν Z F H y r j;obtain⟨rfl,rfl⟩:=h;simp[erase]at hc;have:∀k,exec S.E (run S.E k) k ro X.nt code F H=some (.norm,F,H):=λk=>by
   cases code with
   | skip=>rfl
   | label _=>rfl
   | region id ops w=>
    simp[bM]at hc;split at hc
    .simp_all
    simp_all
   | seq a b=>simp[bM]at hc;grind
   | cond x a b=>simp[bM]at hc;grind
   | block id b=>simp only[bM]at hc;simp_all
   | loop b=>simp only[bM]at hc;simp_all
   | rangeFunc g ps T U=>
    simp[bM]at hc
    grind
   | _=>simp[bM]at hc
  exact⟨0,F,H,ν,Z,λk _=>this k,r,j,.refl⟩
 | ops l=>
  intro ro code hc;simp[erase]at hc
  cases code with
  | region id ops w=>
   simp[bM]at hc;split at hc
   .simp_all
   rename_i hd;obtain⟨l',hl,e⟩:=ζf.1 hc;cases e;intro st o st' h J ν Z F H y r j;obtain⟨z,h1,e⟩:=ζf.1 h;obtain⟨rfl,rfl⟩:=e;obtain⟨n,F',H',ν',Z',e1,e2,e3,e4⟩:=PD gd hS _ hl h1 y r j;refine⟨n,F',H',ν',Z',λk hk=>?_,e2,e3,e4⟩
   simp[exec,j8,hd,e1 k hk]
  | seq a b=>simp[bM]at hc;grind
  | cond x a b=>simp[bM]at hc;grind
  | block id b=>simp only[bM]at hc;simp_all
  | loop b=>obtain⟨_,_,e⟩:=ζf.1 hc;cases e
  | rangeFunc g ps T U=>
   simp only[bM]at hc;split at hc
   .simp at hc
   split at hc <;> simp at hc
  | _=>simp[bM]at hc
 | ua l=>
  intro ro code hc;simp[erase]at hc
  cases code with
  | region id ops w=>
   simp only[bM]at hc;split at hc
   .rename_i hd;subst hd;split at hc
    next ab=>obtain⟨l',hl,e⟩:=ζf.1 hc;cases e;have:=PA (ro:=ro) (id:=id) gd hS hl ab;intro st o st' h;exact this st o st' h
    simp at hc
   obtain⟨_,_,e⟩:=ζf.1 hc;cases e
  | seq a b=>simp[bM]at hc;split at hc <;> simp at hc
  | cond x a b=>simp[bM]at hc;split at hc <;> simp at hc
  | block id b=>obtain⟨_,_,e⟩:=ζf.1 hc;cases e
  | loop b=>obtain⟨_,_,e⟩:=ζf.1 hc;cases e
  | rangeFunc g ps T U=>
   simp only[bM]at hc;split at hc
   .simp at hc
   split at hc <;> simp at hc
  | _=>simp[bM]at hc
 | seq a b u O=>
  intro ro code hc;simp[erase]at hc
  cases code with
  | seq W cb=>
   simp[bM]at hc;split at hc
   .rename_i xa xb Q hb;simp[RC.seq.injEq]at hc;obtain⟨rfl,rfl⟩:=hc;intro st o st' h J ν Z F H y r j;simp[cN]at h;split at h
    .rename_i z Y;obtain⟨I,F1,H1,B,C,a1,a2,L,D⟩:=u ro W Q st .norm z Y J ν Z F H y r j;obtain⟨n2,F2,H2,ν2,Z2,b1,b2,b3,b4⟩:=O ro cb hb z o st' h J B C F1 H1 (by rw[D.more,D.yid];exact y) a2 L
     refine⟨max I n2,F2,H2,ν2,Z2,λq G=>?_,b2,b3,D.trans b4⟩
     simp[exec,a1 q (Nat.le_trans (Nat.le_max_left _ _) G)];exact b1 q (Nat.le_trans (Nat.le_max_right _ _) G)
    rename_i Y;obtain⟨I,F1,H1,B,C,a1,a2,L,D⟩:=u ro W Q st o st' h J ν Z F H y r j;refine⟨I,F1,H1,B,C,λq G=>?_,a2,L,D⟩
    simp[exec,a1 q G];cases o <;> first|exact absurd h (Y st')|rfl
   simp at hc
  | region id ops w=>
   simp[bM]at hc;split at hc
   .split at hc
    .obtain⟨_,_,e⟩:=ζf.1 hc;cases e
    simp at hc
   obtain⟨_,_,e⟩:=ζf.1 hc;cases e
  | cond x a b=>simp[bM]at hc;split at hc <;> simp at hc
  | block id b=>simp only[bM]at hc;obtain⟨_,_,e⟩:=ζf.1 hc;cases e
  | loop b=>simp only[bM]at hc;obtain⟨_,_,e⟩:=ζf.1 hc;cases e
  | rangeFunc g ps T U=>
   simp only[bM]at hc;split at hc
   .simp at hc
   split at hc <;> simp at hc
  | _=>simp[bM]at hc
 | cond x a b u O=>
  intro ro code hc;simp[erase]at hc
  cases code with
  | cond g W cb=>
   simp[bM]at hc;split at hc
   .rename_i xg xa xb hg Q hb;simp[RC.cond.injEq]at hc;obtain⟨rfl,rfl,rfl⟩:=hc;intro st o st' h J ν Z F H y r j;simp[cN]at h;split at h
    .rename_i t ht;obtain⟨yv,hy,ry⟩:=Fu gd.N r.slot hg ht;rw[ry.fr.bool]at hy;split at h
     .rename_i hb;obtain⟨I,F1,H1,B,C,a1,a2,L,D⟩:=u ro W Q st o st' h J ν Z F H y r j;refine⟨I,F1,H1,B,C,λq G=>?_,a2,L,D⟩
      simp[exec,hy,hb];exact a1 q G
     rename_i hb;obtain⟨I,F1,H1,B,C,a1,a2,L,D⟩:=O ro cb (by assumption) st o st' h J ν Z F H y r j
     refine⟨I,F1,H1,B,C,λq G=>?_,a2,L,D⟩
     simp[exec,hy,hb];exact a1 q G
    simp at h
   simp at hc
  | region id ops w=>
   simp[bM]at hc;split at hc
   .split at hc
    .obtain⟨_,_,e⟩:=ζf.1 hc;cases e
    simp at hc
   obtain⟨_,_,e⟩:=ζf.1 hc;cases e
  | seq a b=>simp[bM]at hc;split at hc <;> simp at hc
  | block id b=>simp only[bM]at hc;obtain⟨_,_,e⟩:=ζf.1 hc;cases e
  | loop b=>simp only[bM]at hc;obtain⟨_,_,e⟩:=ζf.1 hc;cases e
  | rangeFunc g ps T U=>
   simp only[bM]at hc;split at hc
   .simp at hc
   split at hc <;> simp at hc
  | _=>simp[bM]at hc
 | block id a u=>
  intro ro code hc;simp[erase]at hc
  cases code with
  | block ad W=>
   simp only[bM]at hc;obtain⟨xa,Q,e⟩:=ζf.1 hc;simp[RC.block.injEq]at e;obtain⟨rfl,rfl⟩:=e;intro st o st' h J ν Z F H y r j;simp[cN]at h;split at h
   .rename_i ae z Y;obtain⟨I,F1,H1,B,C,a1,a2,L,D⟩:=u ro W Q st (.exit ae) z Y J ν Z F H y r j;split at h
    .rename_i e;simp  at h;obtain⟨rfl,rfl⟩:=h;refine⟨I,F1,H1,B,C,λq G=>?_,a2,L,D⟩
     simp[exec,a1 q G,if_pos e]
    rename_i e;simp  at h;obtain⟨rfl,rfl⟩:=h;refine⟨I,F1,H1,B,C,λq G=>?_,a2,L,D⟩
    simp[exec,a1 q G,if_neg e]
   rename_i Y;obtain⟨I,F1,H1,B,C,a1,a2,L,D⟩:=u ro W Q st o st' h J ν Z F H y r j;refine⟨I,F1,H1,B,C,λq G=>?_,a2,L,D⟩
   simp[exec,a1 q G];cases o <;> first|exact absurd h (Y _ st')|rfl
  | region id ops w=>
   simp[bM]at hc;split at hc
   .split at hc
    .obtain⟨_,_,e⟩:=ζf.1 hc;cases e
    simp at hc
   obtain⟨_,_,e⟩:=ζf.1 hc;cases e
  | seq a b=>simp[bM]at hc;split at hc <;> simp at hc
  | cond x a b=>simp[bM]at hc;split at hc <;> simp at hc
  | loop b=>simp only[bM]at hc;obtain⟨_,_,e⟩:=ζf.1 hc;cases e
  | rangeFunc g ps T U=>
   simp only[bM]at hc;split at hc
   .simp at hc
   split at hc <;> simp at hc
  | _=>simp[bM]at hc
 | loop a u=>
  intro ro code hc;simp[erase]at hc
  cases code with
  | loop W=>
   simp only[bM]at hc;obtain⟨xa,Q,e⟩:=ζf.1 hc;simp[RC.loop.injEq]at e;subst e;have:=U0 (u ro W Q);intro st o st' h;simp[cN]at h;exact this st o st' h
  | region id ops w=>
   simp[bM]at hc;split at hc
   .split at hc
    .obtain⟨_,_,e⟩:=ζf.1 hc;cases e
    simp at hc
   obtain⟨_,_,e⟩:=ζf.1 hc;cases e
  | seq a b=>simp[bM]at hc;split at hc <;> simp at hc
  | cond x a b=>simp[bM]at hc;split at hc <;> simp at hc
  | block id b=>simp only[bM]at hc;obtain⟨_,_,e⟩:=ζf.1 hc;cases e
  | rangeFunc g ps T U=>
   simp only[bM]at hc;split at hc
   .simp at hc
   split at hc <;> simp at hc
  | _=>simp[bM]at hc
 | each x ps a b u O=>
  intro ro code hc;simp[erase]at hc
  cases code with
  | rangeFunc g ah T U=>
   simp only[bM]at hc;split at hc
   .simp at hc
   rename_i aa;simp only[Bool.or_eq_true,not_or,Bool.not_eq_true,Bool.not_eq_false']at aa;obtain⟨rfl,af⟩:=aa;split at hc
   next xg xa xb hg Q hb=>simp[RC.each.injEq]at hc;obtain⟨rfl,rfl,rfl,rfl⟩:=hc;have:=U9 gd hI af hg (u true T Q) (O true U hb);intro st o st' h;simp only[cN]at h;exact this st o st' h
   simp at hc
  | region id ops w=>
   simp only[bM]at hc;split at hc
   .split at hc
    .obtain⟨_,_,e⟩:=ζf.1 hc;cases e
    simp at hc
   obtain⟨_,_,e⟩:=ζf.1 hc;cases e
  | seq a b=>simp only[bM]at hc;split at hc <;> simp at hc
  | cond x a b=>simp only[bM]at hc;split at hc <;> simp at hc
  | block id b=>simp only[bM]at hc;obtain⟨_,_,e⟩:=ζf.1 hc;cases e
  | loop b=>simp only[bM]at hc;obtain⟨_,_,e⟩:=ζf.1 hc;cases e
  | _=>simp[bM]at hc
 | exit id=>
  intro ro code hc st o st' h J ν Z F H y r j;simp only[cN,ζa,ζc]at h;obtain⟨rfl,rfl⟩:=h;simp only[erase]at hc;have:∀k,exec S.E (run S.E k) k ro X.nt code F H=some (.exit id,F,H):=λk=>by
   cases code with
   | exit ad=>simp only[bM,ζa,RC.exit.injEq]at hc;subst hc;rfl
   | region id ops w=>
    simp only[bM]at hc;split at hc
    .split at hc
     .obtain⟨_,_,e⟩:=ζf.1 hc;cases e
     simp at hc
    obtain⟨_,_,e⟩:=ζf.1 hc;cases e
   | seq a b=>simp only[bM]at hc;split at hc <;> simp at hc
   | cond x a b=>simp only[bM]at hc;split at hc <;> simp at hc
   | block id b=>simp only[bM]at hc;obtain⟨_,_,e⟩:=ζf.1 hc;cases e
   | loop b=>simp only[bM]at hc;obtain⟨_,_,e⟩:=ζf.1 hc;cases e
   | rangeFunc g ps T U=>
    simp only[bM]at hc;split at hc
    .simp at hc
    split at hc <;> simp at hc
   | _=>simp[bM]at hc
  exact⟨0,F,H,ν,Z,λk _=>this k,r,j,.refl⟩
 | ret=>
  intro ro code hc st o st' h J ν Z F H y r j;simp only[cN,ζa,ζc]at h;obtain⟨rfl,rfl⟩:=h;simp only[erase]at hc;have:∀k,exec S.E (run S.E k) k ro X.nt code F H=some (.ret,F,H):=λk=>by
   cases code with
   | ret=>rfl
   | region id ops w=>
    simp only[bM]at hc;split at hc
    .split at hc
     .obtain⟨_,_,e⟩:=ζf.1 hc;cases e
     simp at hc
    obtain⟨_,_,e⟩:=ζf.1 hc;cases e
   | seq a b=>simp only[bM]at hc;split at hc <;> simp at hc
   | cond x a b=>simp only[bM]at hc;split at hc <;> simp at hc
   | block id b=>simp only[bM]at hc;obtain⟨_,_,e⟩:=ζf.1 hc;cases e
   | loop b=>simp only[bM]at hc;obtain⟨_,_,e⟩:=ζf.1 hc;cases e
   | rangeFunc g ps T U=>
    simp only[bM]at hc;split at hc
    .simp at hc
    split at hc <;> simp at hc
   | _=>simp[bM]at hc
  exact⟨0,F,H,ν,Z,λk _=>this k,r,j,.refl⟩
 | gh x a u=>
  intro ro code hc;simp only[erase]at hc;intro st o st' h J ν Z F H y r j;simp only[cN]at h;obtain⟨z,h1,h2⟩:=ζg.1 h;obtain⟨B,C,g1,g2,g3⟩:=Fix.ghost r y j h1;obtain⟨n,F',H',ν',Z',e1,e2,e3,e4⟩:=u ro code hc z o st' h2 J B C F H (by rw[g3.more,g3.yid];exact y) g1 g2
  exact⟨n,F',H',ν',Z',e1,e2,e3,g3.trans e4⟩
 | hg a x u=>
  intro ro code hc;simp only[erase]at hc;intro st o st' h J ν Z F H y r j;simp only[cN]at h;split at h
  .rename_i z Y;obtain⟨st2,h1,e⟩:=ζf.1 h;simp only[ζc]at e;obtain⟨rfl,rfl⟩:=e;obtain⟨n,F',H',ν',Z',e1,e2,e3,e4⟩:=u ro code hc st .norm z Y J ν Z F H y r j;obtain⟨B,C,g1,g2,g3⟩:=Fix.ghost e2 (by rw[e4.more,e4.yid];exact y) e3 h1
   exact⟨n,F',H',B,C,e1,g1,g2,e4.trans g3⟩
  exact u ro code hc st o st' h J ν Z F H y r j
end
abbrev qv:=FuncId->aY RF
def C3(E:Env)(f:Y')(az:S')(y:V):Prop:=∃n z H' Z,run E n (.fn f) az []=some (z,H')/\FR H' Z y z/\(∀id,Z id->(bn H' id).isSome=true)/\Deep H' Z
structure sJ(S:Sys)(T:qv):Prop where
 fn:∀f rf,T f=some rf->∃fi nm,S.E.ft f=some fi/\(∀g s,nm g=some s->S.N s=g)/\yC S.E nm fi rf
 zC:∀f az y,S.zC f az=some y->C3 S.E f az y
 prm:∀f q,S.prm f=some q->nZ S.E f q
def R5(S:Sys)(f:Y')(svs:ST)(B:dB):aY (ST×dB):=
 if S.E.keep f then none else match dy svs,B with
  |some az,[]=>(S.zC f az).map λy=>([.v y],[])|_,_=>none
def mA(S:Sys)(T:qv):Nat->bX
 |0=>λ_ _ _=>none|n+1=>λf svs B=>match T f with
  |some rf=>nN S (mA S T n) rf svs B|none=>R5 S f svs B
section
variable{ν ν' ν2:Nu}{Z Z':Nat->Prop}{st st' st2:St}{m m':Tb bB}{F F':WF}{H H' H1:bk}{S:Sys}{c c':bX}{X:CX}{J:JT}{T:qv}
def B5(r:R ν Z st F H){nm:Y'->aY Nat}:∀{B:aX ResultVar}{rs:QR}{l:ST},B.mapM (Cr S.E)=some rs->jP st rs=some l->∃ys,iR S.E F H B=some ys/\b7 ν st.m H Z l ys
 |[],rs,l,hc,h=>by simp at hc;subst hc;simp[jP]at h;subst h;exact⟨[],rfl,.nil⟩|rv::B,rs,l,hc,h=>by simp[ζg]at hc;obtain⟨x,D,ys,G,rfl⟩:=hc;cases rv with|tmp t=>simp[Cr]at D;subst D;simp[jP]at h;split at h;(next v I b u=>simp at h;subst h;have⟨w,e1,e2⟩:=B5 r (nm:=nm) G u;exact⟨get F t::w,by simp[iR,e1],.cons (r.slot t v b) e2⟩);grind|cell a t=>simp[Cr]at D;obtain⟨d,hd,rfl⟩:=D;simp[jP]at h;split at h;rename_i v I b u;simp at h;subst h;have⟨p,J,b⟩:=ζg.1 b;have⟨w,e1,e2⟩:=B5 r (nm:=nm) G u;have⟨y,g1,g2⟩:=xC (λs a e=>by cases e) (λkk z ok e=>by cases e) (b7.cons (r.slot a p J) .nil) (λL _ ob C=>r.obj L ob C) b;simp[fq]at g1;exact⟨y::w,by simp[iR,hd,e1,g1],.cons g2 e2⟩;grind
def Lo(G:∀f q,S.prm f=some q->nZ S.E f q)(j:jg S c)(J:∀f a b xs,S.items f a b=some xs->eP S f a b xs){f:Y'}{fi:FI}{nm:Y'->aY Nat}{rf:RF}(D:S.E.ft f=some fi)(T:∀g s,nm g=some s->S.N s=g)(k:yC S.E nm fi rf)
 {svs:ST}{B:dB}{rs:ST}{m1:dB}(h:nN S c rf svs B=some (rs,m1)){args:S'}(r:R ν Z (start svs B) args H)(U:b7 ν B H Z svs args):
 ∃n y H' ν' Z' st' F' ys,run S.E n (.fn f) args H=some (y,H')/\y=result ys/\st'.m=m1/\b7 ν' m1 H' Z' rs ys/\R ν' Z' st' F' H'/\Ev (λ_=>False) ν Z (start svs B) H ν' Z' st' H':=by
 have⟨m,z,C⟩:=k;unfold nN at h;split at h
 .have key:∀o st',cN S c rf.body (start svs B)=some (o,st')->(∀id,o≠.exit id)->(jP st' rf.rs).map (λrs=>(rs,st'.m))=some (rs,m1)->
   ∃n y H' ν' Z' st' F' ys,run S.E n (.fn f) args H=some (y,H')/\y=result ys/\st'.m=m1/\b7 ν' m1 H' Z' rs ys/\R ν' Z' st' F' H'/\Ev (λ_=>False) ν Z (start svs B) H ν' Z' st' H':=λo st' I t w=>by
   have⟨l,d,e⟩:=ζf.1 w;obtain⟨rfl,rfl⟩:=e;have⟨n,F',H',ν',Z',e1,e2,e3,e4⟩:=LH ⟨rfl,T,G⟩ j J rf.body false fi.body m _ _ _ I (wj (eZ ν (start svs B).m) Z H) ν Z args H wj.yc r (wj.refl r);have⟨ys,p1,p2⟩:=B5 (nm:=nm) e2 z d;have⟨_,L,O,Q,W,X⟩:=e3;refine⟨n+1,result ys,H',ν',Z',st',F',ys,?_,rfl,rfl,p2,e2,⟨L,λi d Y p _=>O i d Y p,Q,λi h=>(W i h).imp (λh=>h) .inr,λi h=>(X i h).imp (λh=>h) (.imp (λh=>h) .inr),e4.pin,e4.pins⟩⟩
   have u:args.length<=fi.ntmps:=by rw[<-U.1,<-C];omega
   simp[run,ku,D,if_pos u,e1 n (le_refl _)]
   grind
  grind
 grind
def FR.emp{x y:V}(G:∀id,¬Z id)(r:FR H Z x y):x=y:=by
 have B:∀{a w:S'},a.length=w.length->(∀(j:Nat)u v,a[j]?=some u->w[j]?=some v->u=v)->a=w:=λ{a w}h1 z=>by apply List.ext_getElem h1;intro i p q;exact z i _ _ (ζd p) (ζd q)
 induction r with|same x h=>rfl|fsl es C id off D h=>grind|fptr C id el off es D cs h=>grind|clo f a b w I h1 z _ _ i1 i2=>rw[B h1 i1,B z i2]|agg a w h1 _ i1=>grind|tup a w h1 _ i1=>grind
def b7.emp(B:∀id,¬Z id):∀{xs ys:S'},b7 ν m H Z (xs.map .v) ys->xs=ys
 |[],ys,h=>h.c9.symm|x::xs,ys,h=>by obtain⟨y,ys,rfl,a,D⟩:=h.inv;rw[FR.emp B a.fr,b7.emp B D]
def CD(B:sJ S T)(U:∀f a b xs,S.items f a b=some xs->eP S f a b xs):∀n,jg S (mA S T n)
 |0=>λf svs Y rs m1 h=>by simp[mA]at h|n+1=>λf svs Y rs m1 h ν Z args H W r D=>by simp[mA]at h;split at h;(next rf G=>have⟨fi,nm,c,g,i⟩:=B.fn f rf G;exact Lo B.prm (CD B U n) U c g i h r D);unfold R5 at h;split at h;simp_all;split at h;rename_i az O;have⟨y,Q,e⟩:=ζf.1 h;obtain⟨rfl,rfl⟩:=e;have⟨k,z,H',X,w,C,I,jE⟩:=B.zC f az y Q;rcases W with W|rfl;grind;have L:∀id,¬Z id:=λid J=>(by have:=r.zrow id J;simp[bn]at this);have u:=(by rw[vV O]at D;exact(b7.emp L D).symm);subst u;refine⟨k,z,H',⟨λ_=>(0,0),λ_ _=>0⟩,X,⟨[],[],[],[],true,0⟩,[],[z],w,rfl,rfl,b7.cons (.v y z C) .nil,?_,?_⟩;exact⟨λs sv h=>by simp[bh]at h,λd ob h=>by simp[bh]at h,λd l ob m j o h=>by simp[bh]at h,λd ob j h=>by simp[bh]at h,I,jE⟩;exact⟨Nat.zero_le _,λid h=>Zad,λid h=>absurd h (L id),λid h=>Zac,λid h=>.inr (.inr (.inr (Nat.zero_le _))),λd h=>by simp[start]at h,rfl⟩;grind
abbrev Nc:=aX ((FuncId×aX SV×dB)×(aX SV×dB))
def EK(c:bX)(L:Nc):Prop:=∀p∈L,c p.1.1 p.1.2.1 p.1.2.2=some p.2
def Fin{α:Type}(c:bX)(f:bX->aY α)(r:α):Prop:=∃L:Nc,EK c L/\∀c',EK c' L->f c'=some r
def Fin.pure{α:Type}{f:bX->aY α}{r:α}(h:∀c',f c'=some r):Fin c f r:=⟨[],λp u=>Zad,λc' _=>h c'⟩
def Fin.bind{α β:Type}{f:bX->aY α}{r:α}{g:bX->aY β}{q:β}(b:Fin c f r)(B:bX->α->aY β)(D:Fin c (λc=>B c r) q)(d:∀c',f c'=some r->g c'=B c' r):Fin c g q:=by have⟨w,a1,z⟩:=b;have⟨C,a2,G⟩:=D;refine⟨w++C,λp u=>(List.mem_append.1 u).elim (a1 p) (a2 p),λc' a=>?_⟩;rw[d c' (z c' λp u=>a p (List.mem_append_left _ u))];exact G c' λp u=>a p (List.mem_append_right _ u)
def Fin.call{f:Y'}{svs:ST}{B:dB}{r:ST×dB}(h:c f svs B=some r):Fin c (λc=>c f svs B) r:=⟨[((f,svs,B),r)],λp u=>Zac,λc' a=>a ((f,svs,B),r) Zab⟩
def Hs{dst:aY Nat}{dr now:X'}{old:ST->X'}{f:Y'}{args:ST}{r:SV×St}(h:eo S c dst dr now old f args st=some r):Fin c (λc=>eo S c dst dr now old f args st) r:=by have w:=h;unfold eo at h;split at h;split at h;split at h;split at h;split at h;rename_i rs m' a;refine(Fin.call a).bind (λc' q=>eo S c dst dr now old f args st) (.pure λ_=>w) (λc' u=>?_);unfold eo;grind;grind;grind;rename_i z;split at h;rename_i q B;refine .pure λc'=>?_;unfold eo;simp_all;rename_i B;split at h;rename_i os G;split at h;rename_i rs m' a;refine(Fin.call a).bind (λc' q=>eo S c dst dr now old f args st) (.pure λ_=>w) (λc' u=>?_);unfold eo;clear h w;simp[*];grind;grind;split at h;split at h;split at h;rename_i rs m' a;refine(Fin.call a).bind (λc' q=>eo S c dst dr now old f args st) (.pure λ_=>w) (λc' u=>?_);unfold eo;simp_all;grind;grind;grind;rename_i b;split at h;rename_i az C;split at h;rename_i D;split at h;rename_i rs m' a;refine(Fin.call a).bind (λc' q=>eo S c dst dr now old f args st) (.pure λ_=>w) (λc' u=>?_);unfold eo;simp[b,C,D,a,u];grind;grind;grind
def UJ{dr:X'}{fr:So}{o:RO}{r:SV×St}(h:mH S c dr fr o st=some r):Fin c (λc=>mH S c dr fr o st) r:=by have w:=h;unfold mH at h;split at h;rename_i B u;split at h;refine .pure λc'=>?_;have a:=w;unfold mH at a⊢;rename_i b;simp only[u,b]at a⊢;exact a;refine .pure λc'=>?_;have a:=w;unfold mH at a⊢;rename_i C b;simp only[u,b]at a⊢;exact a;refine .pure λc'=>?_;have a:=w;unfold mH at a⊢;rename_i b;simp only[u,b]at a⊢;exact a;refine .pure λc'=>?_;have a:=w;unfold mH at a⊢;rename_i b;simp only[u,b]at a⊢;exact a;refine .pure λc'=>?_;have a:=w;unfold mH at a⊢;rename_i b;simp only[u,b]at a⊢;exact a;rename_i b;split at h;refine(Hs h).bind (λ_ q=>some q) (.pure λ_=>rfl) (λc' z=>?_);unfold mH;simp only[u,b,z];refine(Hs h).bind (λ_ q=>some q) (.pure λ_=>rfl) (λc' z=>?_);unfold mH;simp only[u,b,z];simp at h;refine .pure λc'=>?_;have a:=w;unfold mH at a⊢;rename_i b;simp only[u,b]at a⊢;exact a;refine .pure λc'=>?_;have a:=w;unfold mH at a⊢;rename_i b;simp only[u,b]at a⊢;exact a;simp at h
def Wg{dr:X'}{fr:So}{o:RO}{r:St}(h:fH S c dr fr o st=some r):Fin c (λc=>fH S c dr fr o st) r:=by unfold fH at h;split at h;split at h;refine .pure λc'=>?_;unfold fH;grind;have⟨q,u,e⟩:=ζf.1 h;refine(UJ u).bind (λ_ q=>some (dn q.2 o.dst q.1)) (.pure λ_=>Zad) (λc' w=>?_);unfold fH;grind;refine .pure λc'=>?_;unfold fH;grind;grind
def DM{dr:X'}:∀{l:R'}{fr:So}{st r:St},n5 S c dr fr l st=some r->Fin c (λc=>n5 S c dr fr l st) r
 |[],fr,st,r,h=>.pure λ_=>h|o::l,fr,st,r,h=>by simp[n5]at h;split at h;(next D B=>have⟨G,a,B⟩:=ζg.1 B;exact(Wg B).bind (λc' q=>n5 S c' dr (if dr then sj fr o.strip else fr) l (ql o.dead q)) (DM h) (λc' u=>by simp[n5,a,u]));grind
def Gs{f:bX->St->aY (Out×St)}(D:∀st r,f c st=some r->Fin c (λc=>f c st) r):∀{k:Nat}{st:St}{r:Out×St},jL (f c) k st=some r->Fin c (λc=>jL (f c) k st) r
 |0,st,r,h=>by simp[jL]at h|k+1,st,r,h=>by simp[jL]at h;split at h;(next G J=>exact(D st _ J).bind (λc' q=>jL (f c') k G) (Gs D h) (λc' B=>by simp[jL,B]));refine(D st r h).bind (λ_ q=>some q) (.pure λ_=>rfl) (λc' B=>?_);simp[jL,B];grind
def GO{f:bX->S'->Tb bB->aY (Out×Tb bB)}(D:∀x m r,f c x m=some r->Fin c (λc=>f c x m) r):∀{xs:T2}{m:Tb bB}{r:Out×Tb bB},ri (f c) xs m=some r->Fin c (λc=>ri (f c) xs m) r
 |[],m,r,h=>.pure λ_=>h|x::xs,m,r,h=>by simp[ri]at h;split at h;(next m1 G=>exact(D x m _ G).bind (λc' q=>ri (f c') xs m1) (GO D h) (λc' B=>by simp[ri,B]));refine(D x m r h).bind (λ_ q=>some q) (.pure λ_=>rfl) (λc' B=>?_);simp[ri,B];grind
def Qz:∀{d:RC}{st:St}{r:Out×St},cN S c d st=some r->Fin c (λc=>cN S c d st) r:=by intro d;induction d with|skip=>exactλh=>.pure λ_=>h|exit id=>exactλh=>.pure λ_=>h|ret=>exactλh=>.pure λ_=>h|ops l=>intro st r h;simp only[cN]at h⊢;have⟨q,G,e⟩:=ζf.1 h;exact(DM G).bind (λ_ q=>some (.norm,q)) (.pure λ_=>Zad) (λc' w=>Zac)|ua l=>intro st r h;simp only[cN]at h⊢;have⟨q,G,e⟩:=ζf.1 h;exact(DM G).bind (λ_ q=>some (.norm,q)) (.pure λ_=>Zad) (λc' w=>Zac)|seq a b u C=>intro st r h;simp[cN]at h⊢;split at h;(next B D=>exact(u D).bind (λc' q=>cN S c' b B) (C h) (λc' w=>Zac));rename_i D;refine(u h).bind (λ_ q=>some q) (.pure λ_=>rfl) (λc' w=>?_);grind|cond x a b u C=>intro st r h;simp[cN]at h⊢;grind|block id a u=>intro st r h;simp[cN]at h⊢;split at h;(next I B D=>exact(u D).bind (λc' q=>if I=id then some (.norm,B)else some (.exit I,B)) (.pure λ_=>h) (λc' w=>Zac));refine(u h).bind (λ_ q=>some q) (.pure λ_=>rfl) (λc' w=>?_);grind|loop a u=>intro st r h;have⟨k,j⟩:=nW.1 h;refine(Gs (λst r h=>u h) j).bind (λ_ q=>some q) (.pure λ_=>rfl) (λc' w=>?_);exact nW.2 ⟨k,w⟩|each g ps a b u C=>intro st r h;simp only[cN]at h⊢;split at h;split at h;have⟨q,G,e⟩:=ζf.1 h;refine(GO (f:=λc=>jh ps (cN S c a) (cN S c b) st) (λz m r h=>?_) G).bind (λ_ q=>some (q.1,{st with m:=q.2})) (.pure λ_=>Zad) (λc' w=>Zac);unfold jh at h;split at h;split at h;rename_i B i;have⟨L,J,e2⟩:=ζf.1 h;refine(u i).bind (λc' q=>(cN S c' b B).map λ(o,st2)=>(o,st2.m)) ((C J).bind (λ_ q=>some (q.1,q.2.m)) (.pure λ_=>Zad) (λc' w=>Zac)) (λc' w=>?_);unfold jh;grind;grind;grind;grind;grind|gh x a u=>intro st r h;simp[cN]at h⊢;have⟨B,i,O⟩:=ζg.1 h;grind|hg a x u=>intro st r h;simp[cN]at h⊢;split at h;(next B D=>exact(u D).bind (λc' q=>(ghost x B).map λst=>(.norm,st)) (.pure λ_=>h) (λc' w=>Zac));refine(u h).bind (λ_ q=>some q) (.pure λ_=>rfl) (λc' w=>?_);grind
def BF{rf:RF}{svs:ST}{B:dB}{r:ST×dB}(h:nN S c rf svs B=some r):Fin c (λc=>nN S c rf svs B) r:=by have u:=h;unfold nN at h;split at h;split at h;simp_all;rename_i o st w z;refine(Qz z).bind (λc' q=>nN S c rf svs B) (.pure λ_=>u) (λc' C=>?_);unfold nN;grind;grind;grind
def D9:∀{n:Nat}{f:Y'}{svs:ST}{B:dB}{r:ST×dB},mA S T n f svs B=some r->mA S T (n+1) f svs B=some r
 |0,f,svs,B,r,h=>by simp[mA]at h|n+1,f,svs,B,r,h=>by simp[mA]at h;rw[mA];split at h;(next rf D=>have⟨L,a,G⟩:=BF h;simp[D];exact G _ λp u=>D9 (a p u));grind
def Ds{n k:Nat}(h:n<=k){f:Y'}{svs:ST}{B:dB}{r:ST×dB}(D:mA S T n f svs B=some r):mA S T k f svs B=some r:=by induction h with|refl=>omega|step _ u=>exact D9 u
open Classical in
def dm(S:Sys)(T:qv):bX:=λf u w=>if h:∃n r,mA S T n f u w=some r then some (Classical.choose (choose_spec h))else none
def tn{f:Y'}{svs:ST}{B:dB}{r:ST×dB}:dm S T f svs B=some r↔∃n,mA S T n f svs B=some r:=by unfold dm;constructor;intro h;split at h;grind;grind;rintro⟨k,a⟩;have u:∃n r,mA S T n f svs B=some r:=⟨k,r,a⟩;have w:=choose_spec (choose_spec u);have z:=Ds (le_max_left (Classical.choose u) k) w;have C:=Ds (le_max_right (Classical.choose u) k) a;grind
def N4{L:Nc}(h:EK (dm S T) L):∃n,∀k,n<=k->EK (mA S T k) L:=by induction L with|nil=>exact⟨0,λk _ p hp=>Zad⟩|cons q L u=>have⟨w,b⟩:=tn.1 (h q Zab);have⟨z,B⟩:=u λp hp=>h p (List.mem_cons_of_mem _ hp);refine⟨max w z,λk a p hp=>?_⟩;rcases List.mem_cons.1 hp with rfl|hp;exact Ds (le_trans (le_max_left _ _) a) b;exact B k (le_trans (le_max_right _ _) a) p hp
def GY{f:Y'}{az:S'}{y:V}(B:T f=none)(b:S.E.keep f=false)(h:S.zC f az=some y):dm S T f (az.map .v) []=some ([.v y],[]):=by
 refine tn.2 ⟨1,?_⟩;have u:dy (az.map .v)=some az:=by clear h;induction az with|nil=>rfl|cons a l w=>simp only[List.map_cons,dy,w];rfl
 simp only[mA,B,R5,b,u,h];rfl
def sX{f:Y'}{rf:RF}(D:T f=some rf)(svs:ST)(B:dB):dm S T f svs B=nN S (dm S T) rf svs B:=by cases h:nN S (dm S T) rf svs B with|some r=>have⟨L,a,w⟩:=BF h;have⟨n,u⟩:=N4 a;refine tn.2 ⟨n+1,?_⟩;simp[mA,D];grind|none=>cases w:dm S T f svs B with|none=>rfl|some r=>have⟨n,u⟩:=tn.1 w;cases n with|zero=>simp[mA]at u|succ n=>simp[mA,D]at u;have⟨L,z,C⟩:=BF u;have I:=C (dm S T) λp G=>tn.2 ⟨n,z p G⟩;grind
def yZ(B:sJ S T)(D:∀f a b xs,S.items f a b=some xs->eP S f a b xs):jg S (dm S T):=λf u w rs z h=>by have⟨n,C⟩:=tn.1 h;exact CD B D n f u w rs z C
def LA(U:∀f q,S.prm f=some q->nZ S.E f q)(e:jg S c){f:Y'}{fi:FI}{nm:Y'->aY Nat}{rf:RF}(W:∀f a b xs,S.items f a b=some xs->eP S f a b xs)(D:S.E.ft f=some fi)(Y:∀g s,nm g=some s->S.N s=g)(l:yC S.E nm fi rf){a b:S'}{xs:T2}
 (T:a.length+1+b.length<=rf.na)(G:rf.rs=[])
 (h:∀B more,(more=true/\B=xs\/more=false/\B≠[]/\∃r,xs=B++r)->∀yid,∃o st',cN S c rf.body {g:=wL 0 (a.map .v++.yl yid::b.map .v),m:=[],pin:=[],want:=B,more:=more,yid:=yid}=some (o,st')/\(∀id,o≠.exit id)/\st'.want=[]/\st'.m=st'.m):
 eP S f a b xs:=by
 intro B more O yid J y Z z C H Q X p hd j;have⟨o,st',t,E,v,_⟩:=h B more O yid;have⟨x,w,I⟩:=l;have L:b7 ⟨λ_=>(0,0),λ_ _=>0⟩ [] H Z (a.map .v++.yl yid::b.map .v) (z++.yld yid::C):=(b7.rG Q).append (.cons (.yl yid) (b7.rG X))
 have A:R ⟨λ_=>(0,0),λ_ _=>0⟩ Z {g:=wL 0 (a.map .v++.yl yid::b.map .v),m:=[],pin:=[],want:=B,more:=more,yid:=yid} (z++.yld yid::C) H:=⟨yW L,λd ob h=>by simp[bh]at h,λd F ob K j M h=>by simp[bh]at h,λd ob j h=>by simp[bh]at h,p,hd⟩
 have⟨n,F',H',ν',Z',e1,e2,e3,e4⟩:=LH ⟨rfl,Y,U⟩ e W rf.body false fi.body x _ _ _ t J _ Z _ H y A (by
  refine y.xR _ _ _ _ _ _ _ j (le_refl _) (λ_ _ _ _=>rfl) (λi hi=>⟨hi,rfl⟩) (λi hi=>?_) (λi hi=>.inl hi)
  have⟨d,ob,j,h,_⟩:=hi;simp[bh]at h)
 rw[v]at e3;rw[G]at w;have⟨ys,p1,p2⟩:=B5 (nm:=nm) e2 w rfl;refine⟨n+1,result ys,H',_,Z',λk N=>?_,e3⟩
 have u:(z++V.yld yid::C).length<=fi.ntmps:=by rw[<-L.1,<-I];simp;omega
 cases k with
 |zero=>omega|succ k=>
  simp[run,ku,D,if_pos u,e1 k Zaa]
  grind
def Wn(B:sJ S T)(D:∀f a b xs,S.items f a b=some xs->eP S f a b xs){f:Y'}{az:S'}(d:V.cQ az=true){y:V}{m':dB}(h:dm S T f (az.map .v) []=some ([.v y],m'))(G:y.scalar=true):
 ∃n H',run S.E n (.fn f) az []=some (y,H'):=by
 have⟨u,r1⟩:=BT d;obtain⟨n,I,H2,ν',Z',st',F',w,c,rfl,J,C,L,_⟩:=yZ B D f _ _ _ _ h _ _ az [] (.inr rfl) u r1;obtain⟨z,w,rfl,e1,e2⟩:=C.inv;rw[e2.c9]at c;have:=(e1.fr.scalar).1 G;subst this;exact⟨n,H2,c⟩
end
end Go.VE
