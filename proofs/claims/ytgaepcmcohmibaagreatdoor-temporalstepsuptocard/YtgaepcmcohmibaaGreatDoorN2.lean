/- Objects, calls. -/
import Derived.Test.YtgaepcmcohmibaaGreatDoorN1
set_option linter.all false
noncomputable section
open Option(map_some)
open Bool(false_eq_true or_eq_true)
open Nat(le_max_left le_max_right le_refl le_trans)
open Classical(choose_spec)
namespace Go.VE
variable[bL]
def fE(N:Nat->Zk)(g:Tb SV)(o:RO):aY (Nat×Zw):=
 match o.k,bV N g o.az with
 |.c,some (.yl id::u)=>some (id,u)|_,_=>none
open Classical in
def fc(S:Sys)(c:bU)(dr:Zl)(fr:Zv)(o:RO)(st:St):aY St:=
 match wanted st.g o.gd with
 |some true=>match fE S.N st.g o with
  |some (id,z)=>if dr then none else match dh z,st.want with
   |some B,w::u=>if B=w/\id=st.yid then some (cZ {st with want:=u} o.dst (.v (.bool (st.more|| !u.isEmpty))))else none|_,_=>none
  |none=>(kS S c dr fr o st).map λ(x,st')=>cZ st' o.dst x
 |some false=>some (cZ st o.dst (.v .undef))|none=>none
def RO.strip(o:RO):RO:={o with dead:=[],pre:=[]}
def nH:Z5->St->aY St
 |[],st=>some st|x::r,st=>(ghost x st).bind (nH r)
def xo:Gh->Zl
 |.keep ..=>true|.drop _=>true|_=>false
def AL(dr:Zl)(l:Z5)(st:St):aY St:=if dr then(if l.all xo then nH l st else none)else nH l st
def nZ(ds:Zv)(st:St):St:={st with g:=oc ds st.g}
def mg(S:Sys)(c:bU)(dr:Zl):Zv->Zy->St->aY St
 |_,[],st=>some st|fr,o::r,st=>match(AL dr o.pre st).bind (fc S c dr fr o.strip)with
  |some st'=>mg S c dr (if dr then pW fr o.strip else fr) r (nZ o.dead st')|none=>none
abbrev JT:=aX (aX V)->(Nat->Prop)->(Nat->Prop)->bh->Prop
structure Yc(S:Sys)(J:JT)(more:Bool)(yid:Nat):Prop where
 vt:∀w O Z H O' Z' H',J w O Z H->H.length<=H'.length->(∀i,i<H.length->¬O i->¬Z i->H'[i]?=H[i]?)->(∀i,Z i->Z' i/\bk H' i=bk H i)->
  (∀i,O' i->O i\/H.length<=i)->(∀i,Z' i->Z i\/O i\/H.length<=i)->J w O' Z' H'
 yield:∀x ws O Z H args,J (x::ws) O Z H->cV H Z x args->(∀i,Z i->(bk H i).isSome=true)->Deep H Z->(∀i,O i->¬Z i/\i<H.length)->
  ∃n H',run S.E n (.yld yid) args H=some (.bool (more|| !ws.isEmpty),H')/\J ws O Z H'/\H.length<=H'.length/\(∀i,O i->H'[i]?=H[i]?)/\(∀i,Z i->bk H' i=bk H i)
structure Fix(ν:Nu)(st:St)(ν':Nu)(st':St):Prop where
 pin:∀d∈st.pin,∀ob',bg st'.m d=some ob'->∃ob,bg st.m d=some ob/\ν' d=ν d/\sameShape ob ob'
 pins:st'.pin=st.pin
 more:st'.more=st.more
 yid:st'.yid=st.yid
section
variable{Rv:Nat->Prop}{ν ν' ν2:Nu}{Z Z':Nat->Prop}{st st' st2:St}{m m':Tb bq}{F F':Zo}{H H' H1:bh}{S:Sys}{c:bU}{X:CX}{J:JT}
def Fix.refl:Fix ν st ν st:=⟨λ_ _ u h=>⟨u,h,rfl,.refl _⟩,rfl,rfl,rfl⟩
def Fix.trans(a:Fix ν st ν' st')(b:Fix ν' st' ν2 st2):Fix ν st ν2 st2:=
 ⟨λd z u h=>by
  have⟨w,c,C,B⟩:=b.pin d (by rw[a.pins];omega) u h
  have⟨ob,k1,k2,k3⟩:=a.pin d z w c;exact⟨ob,k1,Ze,k3.trans B⟩,by rw[b.pins,a.pins],by rw[b.more,a.more],by rw[b.yid,a.yid]⟩
def Ev.beside(y:Yc S J st.more st.yid)(a:Ev (λ_=>False) ν Z st H ν' Z' st' H')(B:st'.want=st.want)(j:J st.want (eB ν st.m) Z H):J st'.want (eB ν' st'.m) Z' H':=by
 rw[B];exact y.vt _ _ _ _ _ _ _ j a.len (λi b u w=>a.same i b u w (λh=>h)) a.rows (λi h=>(a.own i h).imp (λh=>h) (λh=>h.elim (λh=>h.elim) (λh=>h)))
  (λi h=>(a.frz i h).imp (λh=>h) (λh=>h.imp (λh=>h) (λh=>h.elim (λh=>h.elim) (λh=>h))))
def tY(D:∀s sv,bg st.g s=some sv->cG ν m H Z sv (get F s)){ops:Zz}{o:Oper}{gd:aY (Nat×Zl)}(a:Af ops o=some gd){t:Zl}(B:wanted st.g gd=some t):fA ops F o=t:=by unfold Af at a;unfold fA;cases u:o.guard with|none=>rw[u]at a;simp at a;simp[wanted]at B;grind|some G=>rw[u]at a;obtain⟨d,C,rfl⟩:=ζf.1 a;simp[C];simp[wanted]at B;split at B;(next c b=>simp at B;subst B;rw[(D d _ b).fr.bool]);rename_i x I b;simp at B;subst B;have w:=(D d _ b).fr;split;rename_i c z;rw[z]at w;cases w;grind;rfl;grind
def Dn{dst:aY Nat}{size:Nat}{s x sv:SV}(h:yg st dst size s x=some (sv,st')):st'.want=st.want/\st'.pin=st.pin/\st'.more=st.more/\st'.yid=st.yid:=by unfold yg at h;dsimp only at h;(repeat' split at h)<;>cases h;exact⟨rfl,rfl,rfl,rfl⟩
def IU{x:Gh}(h:ghost x st=some st'):st'.want=st.want/\st'.more=st.more/\st'.yid=st.yid:=by
 unfold Go.VE.ghost xL zb CW at h;(repeat' split at h)<;>first|grind|skip
 all_goals
  unfold zo at h;split at h
  .split at h
   .have⟨_,_,h⟩:=ζg.1 h;obtain⟨_,_,rfl⟩:=ζf.1 h;exact⟨rfl,rfl,rfl⟩
   cases h
  cases h
def K7{q:Dz}{dst:aY Nat}{args:Zw}{sv:SV}(h:AM q dst args st=some (sv,st')):st'.want=st.want/\st'.pin=st.pin/\st'.more=st.more/\st'.yid=st.yid:=by unfold AM at h;grind
def NA{dr:Zl}{fr:Zv}{ro:RO}{sv:SV}(h:kS S c dr fr ro st=some (sv,st')):st'.want=st.want/\st'.pin=st.pin/\st'.more=st.more/\st'.yid=st.yid:=by
 unfold kS at h;split at h
 .split at h;split at h;split at h;simp at h;unfold ye at h;split at h;split at h;have⟨_,_,h⟩:=ζg.1 h;have⟨_,_,h⟩:=ζg.1 h;dsimp only at h;split at h;simp only[ζa,ζc]at h;obtain⟨_,rfl⟩:=h;exact⟨rfl,rfl,rfl,rfl⟩;simp at h;simp at h;simp at h;have⟨_,_,e⟩:=ζf.1 h;simp only[ζc]at e;obtain⟨_,rfl⟩:=e;exact⟨rfl,rfl,rfl,rfl⟩;have⟨_,_,e⟩:=ζf.1 h;simp only[ζc]at e;obtain⟨_,rfl⟩:=e;exact⟨rfl,rfl,rfl,rfl⟩;split at h;have⟨_,_,e⟩:=ζf.1 h;simp only[ζc]at e;obtain⟨_,rfl⟩:=e;exact⟨rfl,rfl,rfl,rfl⟩;simp at h;split at h;split at h;have⟨_,_,e⟩:=ζf.1 h;simp only[ζc]at e;obtain⟨_,rfl⟩:=e;exact⟨rfl,rfl,rfl,rfl⟩;simp at h;simp at h
  .split at h
   .unfold jG at h;((repeat' split at h)<;>first|exact Dn h|(simp at h;done)|(simp only[ζa,ζc]at h;obtain⟨_,rfl⟩:=h;exact⟨rfl,rfl,rfl,rfl⟩)|(have⟨_,_,e⟩:=ζf.1 h;simp only[ζc]at e;obtain⟨_,rfl⟩:=e;exact⟨rfl,rfl,rfl,rfl⟩)|skip);dsimp only at h;(repeat' split at h)<;>first|(simp at h;done)|(simp only[ζa,ζc]at h;obtain⟨_,rfl⟩:=h;exact⟨rfl,rfl,rfl,rfl⟩)
   simp at h
  .have hc:∀{dst dr now u f args},gy S c dst dr now u f args st=some (sv,st')->st'.want=st.want/\st'.pin=st.pin/\st'.more=st.more/\st'.yid=st.yid:=(by intro dst dr now u f args h;unfold gy at h;(repeat' split at h)<;>first|exact K7 h|(have⟨_,_,e⟩:=ζf.1 h;simp only[ζc]at e;obtain⟨_,rfl⟩:=e;exact⟨rfl,rfl,rfl,rfl⟩)|(simp at h;done)|(simp only[ζa,ζc]at h;obtain⟨_,rfl⟩:=h;exact⟨rfl,rfl,rfl,rfl⟩));split at h;exact hc h;exact hc h;simp at h
  split at h;simp at h;split at h;have⟨_,_,h⟩:=ζg.1 h;have⟨_,_,e⟩:=ζf.1 h;simp only[ζc]at e;obtain⟨_,rfl⟩:=e;exact⟨rfl,rfl,rfl,rfl⟩;simp at h;have z:∀{dst l w},jG st dst l w=some (sv,st')->st'.want=st.want/\st'.pin=st.pin/\st'.more=st.more/\st'.yid=st.yid:=by intro dst l w h;unfold jG at h;((repeat' split at h)<;>first|exact Dn h|(simp at h;done)|(simp only[ζa,ζc]at h;obtain⟨_,rfl⟩:=h;exact⟨rfl,rfl,rfl,rfl⟩)|(have⟨_,_,e⟩:=ζf.1 h;simp only[ζc]at e;obtain⟨_,rfl⟩:=e;exact⟨rfl,rfl,rfl,rfl⟩)|skip);all_goals (dsimp only at h;(repeat' split at h)<;>first|(simp at h;done)|(simp only[ζa,ζc]at h;obtain⟨_,rfl⟩:=h;exact⟨rfl,rfl,rfl,rfl⟩))
  split at h;exact z h;exact z h;simp at h
 simp at h
def zy(r:R ν Z st F H){a:Nat}{dst:aY Nat}(B:wE a dst=true){sv:SV}{y:V}(h:cG ν st.m H Z sv y):∃F',jl a F dst y=some F'/\R ν Z (cZ st dst sv) F' H:=by cases dst with|none=>exact⟨F,rfl,r⟩|some d=>have:=(by simpa[wE]using B);exact⟨set F d y,by simp[jl,if_pos this],r.put h⟩
def BF(st:St)(dst:aY Nat)(sv:SV):(cZ st dst sv).m=st.m/\(cZ st dst sv).want=st.want/\(cZ st dst sv).pin=st.pin/\(cZ st dst sv).more=st.more/\(cZ st dst sv).yid=st.yid:=by cases dst<;>exact⟨rfl,rfl,rfl,rfl,rfl⟩
def HU(gd:Good X S)(W:iY S c){ops:Zz}{place:aY (Nat×Nat)}{dr:Zl}{fr:Zv}{i:Nat}(J:dr=place.isSome)(Y:∀b j,place=some (b,j)->j=i)
 (a:∀b j,place=some (b,j)->b<=H.length/\Old b fr ν Z st.m)
 {o:Oper}{ro:RO}(f:lF X dr ops i o=some ro)(O:∀b j,place=some (b,j)->ops[j]?=some o)(D:∀b j,place=some (b,j)->cz o.op=.alloc->H[b+j]?=some .free)
 (r:R ν Z st F H)(B:fE S.N st.g ro=none\/dr=true)(h:fc S c dr fr ro st=some st'):
 ∃n F' H' ν' Z',(∀k,n<=k->fT S.E (run S.E k) X.nt ops place o F H=some (F',H'))/\R ν' Z' st' F' H'/\Ev (λid=>∃b j,place=some (b,j)/\id=b+j) ν Z st H ν' Z' st' H'/\
  (dr=true->Z'=Z/\Kept (w5 ro) ν st.m ν' st'.m)/\st'.want=st.want/\Fix ν st ν' st':=by
 have I:=f;obtain⟨w,g,now,k,az,l,rfl⟩:=BZ f;unfold fc at h;split at h
 .rename_i L;have z:=tY r.slot l L;have m:(kS S c dr fr ⟨o.dst,g,now,k,az,[],[]⟩ st).map (λ(x,st')=>cZ st' o.dst x)=some st':=by
   split at h
   .rename_i id vs G;rcases B with B|B
    .rw[B]at G;cases G
    subst B;simp at h
   exact h
  obtain⟨⟨x,Q⟩,u,rfl⟩:=ζf.1 m;have⟨n,y,H',ν',Z',e1,e2,e3,e4,e5⟩:=SK gd W J Y a I O D r u;have⟨p,U,q,s⟩:=NA u;have⟨F',e,T⟩:=zy e2 w e3;have⟨p1,p2,p3,p4,p5⟩:=BF Q o.dst x;refine⟨n,F',H',ν',Z',λk t=>?_,T,?_,λu=>⟨(e5 u).1,by rw[p1];exact(e5 u).2⟩,by rw[p2,p],⟨λd u=>by rw[p1];exact e4.pin d u,by rw[p3,U],by rw[p4,q],by rw[p5,s]⟩⟩
  .unfold fT;simp only[z,if_true,e1 k t,e,map_some]
  exact⟨e4.len,e4.same,e4.rows,λid h=>e4.own id (by rw[p1]at h;exact h),e4.frz,λd u=>by rw[p1];exact e4.pin d u,by rw[p3,U]⟩
 .rename_i L;have z:=tY r.slot l L;simp only[ζa]at h;subst h;have⟨F',e,T⟩:=zy r w (.v V.undef V.undef (.same _ rfl));have⟨p1,p2,p3,p4,p5⟩:=BF st o.dst (.v .undef);refine⟨0,F',H,ν,Z,λk _=>?_,T,?_,λ_=>⟨rfl,by rw[p1];exact .refl⟩,p2,⟨λd u=>by rw[p1];exactλC h=>⟨C,h,rfl,.refl _⟩,p3,p4,p5⟩⟩
  .unfold fT;simp only[z,false_eq_true,if_false,e,map_some]
  exact⟨le_refl _,λ_ _ _ _ _=>rfl,λ_ h=>⟨h,rfl⟩,λ_ h=>.inl (by rw[p1]at h;exact h),λ_ h=>.inl h,λd u=>by rw[p1];exactλC h=>⟨C,h,rfl,.refl _⟩,p3⟩
 simp at h
def M0(gd:Good X S)(y:Yc S J st.more st.yid){ops:Zz}{fr:Zv}{i:Nat}{o:Oper}{ro:RO}(a:lF X false ops i o=some ro)
 (r:R ν Z st F H)(j:J st.want (eB ν st.m) Z H){id:Nat}{vs:Zw}(B:fE S.N st.g ro=some (id,vs))(D:wanted st.g ro.gd=some true)(h:fc S c false fr ro st=some st'):
 ∃n F' H',(∀k,n<=k->fT S.E (run S.E k) X.nt ops none o F H=some (F',H'))/\R ν Z st' F' H'/\J st'.want (eB ν st'.m) Z H'/\Fix ν st ν st':=by
 unfold lF at a;simp only[Bool.false_and,false_eq_true,if_false,Bool.not_false,Bool.and_true]at a;split at a
 .rename_i C;split at a
  .rename_i g k os hg hr;split at a
   .obtain⟨az,W,rfl⟩:=ζf.1 a;unfold fc at h;simp only at D;have L:=tY r.slot hg D;rw[D]at h;simp only[B,false_eq_true,if_false]at h;unfold fE at B;split at B
    .rename_i Y aa b G;simp only[ζa,ζc]at B;obtain⟨rfl,rfl⟩:=B;simp only at b G;subst b;have⟨ys,O,rs⟩:=nv gd.N r.slot W G;have⟨g1,A,E,e1,e2⟩:=iM gd.N hr O;have⟨w,K,e,r1,r2⟩:=rs.inv;rw[e]at e1;simp only[List.cons.injEq]at e1;obtain⟨rfl,rfl⟩:=e1;cases r1;simp only at e2;split at h
     .rename_i xs x I hx u;split at h
      .rename_i z;obtain⟨rfl,rfl⟩:=z;simp only[ζa]at h;subst h;rw[u]at j;have⟨n,H',p1,p2,p3,p4,p5⟩:=y.yield _ _ _ _ _ _ j (r2.dh hx) r.zrow r.deep (λi T=>⟨by obtain⟨d,ob,j,f,l,rfl⟩:=T;exact r.apart d ob j f l,r.lt T⟩)
       have r3:R ν Z st F H':=r.heap p4 p5;have r4:R ν Z {st with want:=I} F H':=⟨r3.slot,r3.obj,r3.inj,r3.apart,r3.zrow,r3.deep⟩;have⟨F',m,p⟩:=zy (st:={st with want:=I}) r4 C (sv:=.v (.bool (st.more|| !I.isEmpty))) (.v _ _ (.same _ rfl));have⟨U,q,s,t,v⟩:=BF {st with want:=I} o.dst (.v (.bool (st.more|| !I.isEmpty)));refine⟨n,F',H',λk b=>?_,p,by rw[U,q];exact p2,⟨λd M=>by rw[U];exactλQ h=>⟨Q,h,rfl,.refl _⟩,s,t,v⟩⟩
       unfold fT cE;rw[g1,e2];simp only[L,if_true,(nL S.E b).go _ _ _ _ p1,m,map_some]
      simp at h
     simp at h
    simp at B
   simp at a
  simp at a
 simp at a
def j_(X:CX)(B:Zl)(ops:Zz):Nat->Zz->aY Zy
 |_,[]=>some []|i,o::r=>match lF X B ops i o,j_ X B ops (i+1) r with
  |some ro,some rs=>some (ro::rs)|_,_=>none
def R.v_(r:R ν Z st F H)(ds:Zv):R ν Z (nZ ds st) F H:=r.less (λs z u=>nG u) (λd ob w=>w)
def Fix.v_{ds:Zv}(f:Fix ν (nZ ds st) ν' st'):Fix ν st ν' st':=⟨f.pin,f.pins,f.more,f.yid⟩
def Fix.ghost(r:R ν Z st F H)(y:Yc S J st.more st.yid)(j:J st.want (eB ν st.m) Z H){x:Gh}(h:ghost x st=some st'):∃ν' Z',R ν' Z' st' F H/\J st'.want (eB ν' st'.m) Z' H/\Fix ν st ν' st':=by have⟨ν',Z',a,u⟩:=MV (Rv:=λ_=>False) r h;have w:=IU h;exact⟨ν',Z',a,u.beside y w.1 j,⟨u.pin,u.pins,w.2.1,w.2.2⟩⟩
def Fix.quiet(r:R ν Z st F H):∀{l:Z5}{st':St},l.all xo=true->Go.VE.nH l st=some st'->R ν Z st' F H/\Ev Rv ν Z st H ν Z st' H/\st'.want=st.want/\Fix ν st ν st'/\∀d ob,bg st'.m d=some ob->bg st.m d=some ob:=by intro l;induction l generalizing st with|nil=>intro st' _ h;simp[Go.VE.nH]at h;subst h;exact⟨r,.refl,rfl,.refl,λ_ _ h=>h⟩|cons x l C=>intro st' z h;simp only[List.all_cons,ζh]at z;have⟨D,a,G⟩:=ζg.1 h;have key:∃g m,D={st with g:=g,m:=m}/\(∀s u,bg g s=some u->bg st.g s=some u)/\∀d ob,bg m d=some ob->bg st.m d=some ob:=(by cases x with|keep gs T=>simp[Go.VE.ghost]at a;split at a;(next g m b I=>simp at a;subst a;exact⟨g,m,rfl,λs u B=>oZ b B,λd ob J=>oZ I J⟩);grind|drop ds=>simp[Go.VE.ghost]at a;subst a;exact⟨_,st.m,rfl,λs u B=>nG B,λ_ _ h=>h⟩|_=>simp[xo]at z);obtain⟨g,m,rfl,L,w⟩:=key;have⟨a1,a2,O,Q,S⟩:=C (r.less L w) z.2 G;exact⟨a1,(Ev.less w).trans a2,O,Fix.trans (st':={st with g:=g,m:=m}) ⟨λd _ ob h=>⟨ob,w d ob h,rfl,.refl _⟩,rfl,rfl,rfl⟩ Q,λd ob h=>w d ob (S d ob h)⟩
def Fix.nH:∀{l:Z5}{ν:Nu}{Z:Nat->Prop}{st st':St},R ν Z st F H->Yc S J st.more st.yid->J st.want (eB ν st.m) Z H->nH l st=some st'->∃ν' Z',R ν' Z' st' F H/\J st'.want (eB ν' st'.m) Z' H/\Fix ν st ν' st'
 |[],ν,Z,st,st',r,y,j,h=>by simp[Go.VE.nH]at h;subst h;exact⟨ν,Z,r,j,.refl⟩|x::l,ν,Z,st,st',r,y,j,h=>by have⟨B,b,D⟩:=ζg.1 h;have⟨C,G,r1,u,a⟩:=Fix.ghost r y j b;have⟨ν2,Z2,r2,w,z⟩:=Fix.nH r1 (by rw[a.more,a.yid];omega) u D;exact⟨ν2,Z2,r2,w,a.trans z⟩
def Oe(gd:Good X S)(O:iY S c){ops:Zz}{fr:Zv}{i:Nat}{o:Oper}{ro:RO}{B:St}(a:lF X false ops i o=some ro)(y:Yc S J st.more st.yid)(r:R ν Z st F H)(j:J st.want (eB ν st.m) Z H)(G:fc S c false fr ro st=some B):
 ∃n F' H' ν' Z',(∀k,n<=k->fT S.E (run S.E k) X.nt ops none o F H=some (F',H'))/\R ν' Z' B F' H'/\J B.want (eB ν' B.m) Z' H'/\Fix ν st ν' B:=by
 by_cases L:wanted st.g ro.gd=some true
 .cases C:fE S.N st.g ro with
  |none=>
   have⟨n,F',H',ν',Z',e1,e2,e3,e4,e5,e6⟩:=HU gd O (place:=none) rfl (λb j h=>by cases h) (λb j h=>by cases h) a (λb j h=>by cases h) (λb j h=>by cases h) r (.inl C) G
   exact⟨n,F',H',ν',Z',e1,e2,(e3.weak (λid⟨b,j,h,_⟩=>by cases h)).beside y e5 j,e6⟩
  |some p=>have⟨id,W⟩:=p;have⟨n,F',H',e1,e2,e3,e4⟩:=M0 gd y a r j C L G;exact⟨n,F',H',ν,Z,e1,e2,e3,e4⟩
 have u:fc S c false fr ro st=some B:=G;have Q:fE S.N st.g {ro with az:=[]}=none:=by unfold fE;simp[bV]
 obtain⟨n,F',H',ν',Z',e1,e2,e3,e4,e5,e6⟩:∃n F' H' ν' Z',(∀k,n<=k->fT S.E (run S.E k) X.nt ops none o F H=some (F',H'))/\R ν' Z' B F' H'/\Ev (λ_=>False) ν Z st H ν' Z' B H'/\True/\B.want=st.want/\Fix ν st ν' B:=by unfold fc at u;split at u;(next w=>exact absurd w L);rename_i w;simp only[ζa]at u;subst u;unfold lF at a;simp only[Bool.false_and,false_eq_true,if_false,Bool.not_false,Bool.and_true]at a;split at a;rename_i D;split at a;rename_i g k os e l;split at a;obtain⟨az,Y,rfl⟩:=ζf.1 a;have I:=tY r.slot e w;have⟨F',f,T⟩:=zy r D (.v V.undef V.undef (.same _ rfl));have⟨p1,p2,p3,p4,p5⟩:=BF st o.dst (.v .undef);refine⟨0,F',H,ν,Z,λk _=>?_,T,?_,trivial,p2,⟨λd U=>by rw[p1];exactλz h=>⟨z,h,rfl,.refl _⟩,p3,p4,p5⟩⟩;unfold fT;simp only[I,false_eq_true,if_false,f,map_some];exact⟨le_refl _,λ_ _ _ _ _=>rfl,λ_ h=>⟨h,rfl⟩,λ_ h=>.inl (by rw[p1]at h;exact h),λ_ h=>.inl h,λd U=>by rw[p1];exactλz h=>⟨z,h,rfl,.refl _⟩,p3⟩;simp at a;simp at a;simp at a;simp at u
 exact⟨n,F',H',ν',Z',e1,e2,e3.beside y e5 j,e6⟩
def LC(gd:Good X S)(T:iY S c){ops:Zz}{fr:Zv}:∀(rest:Zz){i:Nat}{B:Zy}{ν:Nu}{Z:Nat->Prop}{st st':St}{F:Zo}{H:bh},j_ X false ops i rest=some (B.map RO.strip)->mg S c false fr B st=some st'->
 Yc S J st.more st.yid->R ν Z st F H->J st.want (eB ν st.m) Z H->
 ∃n F' H' ν' Z',(∀k,n<=k->lu S.E (run S.E k) X.nt ops rest F H=some (F',H'))/\R ν' Z' st' F' H'/\J st'.want (eB ν' st'.m) Z' H'/\Fix ν st ν' st'
 |[],i,B,ν,Z,st,st',F,H,hc,h,y,r,j=>by simp only[j_,ζa]at hc;have:=List.map_eq_nil_iff.1 hc.symm;subst this;simp[mg]at h;subst h;exact⟨0,F,H,ν,Z,λ_ _=>rfl,r,j,.refl⟩|o::rest,i,B,ν,Z,st,st',F,H,hc,h,y,r,j=>by simp[j_]at hc;split at hc;rename_i U rs e W;obtain⟨u,w,rfl,C,D⟩:∃u w,B=u::w/\U=u.strip/\rs=w.map RO.strip:=(by cases B with|nil=>simp_all|cons a b=>grind);subst D;simp[mg,<-C]at h;split at h;rename_i z G;have⟨Y,I,G⟩:=ζg.1 G;have⟨x,A,f,g,L⟩:=Fix.nH r y j I;have⟨l,F1,H1,E,K,a1,a2,a3,O⟩:=Oe gd T e (by rw[L.more,L.yid];omega) f g G;have Q:=L.trans O;have⟨m,p,H2,ν2,Z2,q,s,t,v⟩:=LC gd T rest W h (by show Yc S J z.more z.yid;rw[Q.more,Q.yid];omega) (R.v_ a2 u.dead) a3;refine⟨max l m,p,H2,ν2,Z2,λk d=>?_,s,t,Q.trans (Fix.v_ v)⟩;simp[lu,a1 k (le_trans (le_max_left _ _) d),q k (le_trans (le_max_right _ _) d)];grind;grind
def Old.next{b:Nat}{fr:Zv}{o:RO}(h:Old b fr ν Z m)(a:Kept (w5 o) ν m ν' m'):Old b (pW fr o) ν' Z m':=by refine⟨λd ob j C D u=>?_,h.2⟩;have w:d∉fr:=λL=>u (by unfold pW;grind);have z:w5 o≠some d:=λe=>u (by unfold pW;grind);obtain⟨B,c,-,-,G⟩:=a d ob z C;have⟨I,J⟩:=G j D;rw[J];exact h.1 d B j c I w
def Cw(r:R ν Z st F H){id:Nat}(h:eB ν st.m id):H[id]?≠some .free:=by obtain⟨d,ob,j,a,u,rfl⟩:=h;exact(r.obj d ob a).free u
def Kc(r:R ν Z st F H){id:Nat}(h:Z id):H[id]?≠some .free:=λe=>by have:=r.zrow id h;unfold bk at this;rw[e]at this;simp[Ob.rows]at this
def Ev.v_{ds:Zv}(e:Ev Rv ν Z (nZ ds st) H ν' Z' st' H'):Ev Rv ν Z st H ν' Z' st' H':=⟨e.len,e.same,e.rows,e.own,e.frz,e.pin,e.pins⟩
def LG(gd:Good X S)(g:iY S c){ops:Zz}{b k:Nat}(G:qv ops=true->k=ops.length):∀(len:Nat){i:Nat}{B:Zy}{fr:Zv}{ν:Nu}{Z:Nat->Prop}{st st':St}{F:Zo}{H:bh},
 i+len=ops.length->j_ X true ops i (ops.drop i)=some (B.map RO.strip)->mg S c true fr B st=some st'->R ν Z st F H->b<=H.length->Old b fr ν Z st.m->(∀j,i<=j->j<k->H[b+j]?=some .free)->
 ∃n F' H' ν',(∀q,n<=q->jm S.E (run S.E q) X.nt ops b (List.range' i len) F H=some (F',H'))/\R ν' Z st' F' H'/\Ev (λid=>b<=id) ν Z st H ν' Z st' H'/\st'.want=st.want/\Fix ν st ν' st'
 |0,i,B,fr,ν,Z,st,st',F,H,hl,hc,h,r,hb,J,hf=>by rw[List.drop_of_length_le Za]at hc;simp only[j_,ζa]at hc;have:B=[]:=List.map_eq_nil_iff.1 hc.symm;subst this;simp[mg]at h;subst h;exact⟨0,F,H,ν,λ_ _=>rfl,r,.refl,rfl,.refl⟩|len+1,i,B,fr,ν,Z,st,st',F,H,hl,hc,h,r,hb,J,hf=>by
  have l:i<ops.length:=Za;have m:=ζd l;rw[List.drop_eq_getElem_cons l]at hc;simp[j_]at hc;split at hc
  .rename_i ro rs h1 h2;obtain⟨u,w,rfl,Q,T⟩:∃u w,B=u::w/\ro=u.strip/\rs=w.map RO.strip:=by cases B with|nil=>simp_all|cons a b=>grind
   subst T;simp only[mg,<-Q]at h;split at h
   .rename_i ab U;obtain⟨W,z,U⟩:=ζg.1 U;simp only[AL,if_true]at z;split at z;rotate_left;simp_all;rename_i L;obtain⟨f,o,p,s,t⟩:=Fix.quiet r L z;have J:Old b fr ν Z W.m:=⟨λd ob j v=>J.1 d ob j (t d ob v),J.2⟩;obtain⟨x,F1,H1,ν1,Z1,a1,a2,a3,a4,a5,y⟩:=HU gd g (place:=some (b,i)) rfl (λO j e=>Zd) (λO j e=>Zd) h1 (λO j e=>Zd) (λO j e ad=>by
     have:qv ops=true:=by
      unfold qv
      grind
     grind) f (.inr rfl) U
    obtain⟨rfl,C⟩:=a4 rfl;have I:=a3.weak λid⟨O,j,e,h⟩=>by cases e;omega
    obtain⟨A,E,H2,ν2,K,M,N,P,V⟩:=LG gd g G len Za h2 h (R.v_ a2 u.dead) (le_trans hb a3.len) (J.next C) (λj ae Y=>by have D:=hf j Za Y;have aa:=(ζe.1 D).1;rw[I.same (b+j) aa (λh=>Cw f h D) (λh=>Kc f h D) Za];omega);refine⟨max x A,E,H2,ν2,λq L=>?_,M,o.trans ((I.weak λid e=>Za).trans (Ev.v_ N)),by rw[P,<-p];exact a5,s.trans (y.trans (Fix.v_ V))⟩;simp[List.range'_succ,jm,m,a1 q (le_trans (le_max_left _ _) L),K q (le_trans (le_max_right _ _) L)]
   grind
  grind
end
end Go.VE
namespace Go.VE
variable[bL]
def bG(X:CX):Zl->Code->aY RC
 |_,.skip=>some .skip|_,.label _=>some .skip|_,.region _ ops B=>
  if B then(if uD ops.toList&&yI ops.toList then(j_ X true ops.toList 0 ops.toList).map .rH else none)
  else(j_ X false ops.toList 0 ops.toList).map .ops
 |ro,.seq a b=>match bG X ro a,bG X ro b with
  |some a,some b=>some (.seq a b)|_,_=>none
 |ro,.cond c a b=>match nX X.nm c,bG X ro a,bG X ro b with
  |some x,some a,some b=>some (.cond x a b)|_,_,_=>none
 |ro,.block id c=>(bG X ro c).map (.block id)|ro,.loop c=>(bG X ro c).map .loop|ro,.rangeFunc g ps D G=>
  if ro|| !(ps.toList.all (·<X.nt))then none else
  match nX X.nm g,bG X true D,bG X true G with
  |some x,some a,some b=>some (.each x ps.toList a b)|_,_,_=>none
 |_,.exit id=>some (.exit id)|_,.ret=>some .ret|_,_=>none
def erase:RC->RC
 |.seq a b=>.seq (erase a) (erase b)|.cond x a b=>.cond x (erase a) (erase b)|.block id c=>.block id (erase c)|.loop c=>.loop (erase c)|.each g ps a b=>.each g ps (erase a) (erase b)|.gh _ c=>erase c|.hg c _=>erase c|.ops l=>.ops (l.map RO.strip)|.rH l=>.rH (l.map RO.strip)|c=>c
def iN(step:St->aY (Out×St)):Nat->St->aY (Out×St)
 |0,_=>none|k+1,st=>match step st with
  |some (.norm,st')=>iN step k st'|r=>r
open Classical in
def nh(step:St->aY (Out×St))(st:St):aY (Out×St):=if h:∃k r,iN step k st=some r then some (Classical.choose (choose_spec h))else none
def wF{step:St->aY (Out×St)}:∀{k B:Nat}{st:St}{r:Out×St},k<=B->iN step k st=some r->iN step B st=some r
 |0,_,_,_,_,h=>by simp[iN]at h|k+1,0,_,_,hk,_=>Za|k+1,B+1,st,r,hk,h=>by simp only[iN]at h⊢;split at h;(next st' D=>rw[wF (Nat.le_of_succ_le_succ hk) h]);exact h
def lR{step:St->aY (Out×St)}{st:St}{r:Out×St}:nh step st=some r↔∃k,iN step k st=some r:=by
 unfold nh;constructor;intro h;split at h;next u=>simp only[ζa]at h;exact⟨_,by rw[<-h];exact choose_spec (choose_spec u)⟩
 simp at h;rintro⟨k,a⟩;have u:∃k r,iN step k st=some r:=⟨k,r,a⟩;rw[dif_pos u];have z:=choose_spec (choose_spec u);have B:=wF (le_max_left (Classical.choose u) k) z;have w:=wF (le_max_right (Classical.choose u) k) a;rw[B]at w;exact w
def iz(ps:Zv)(A B:St->aY (Out×St))(st:St)(x:Zu)(m:Tb bq):aY (Out×Tb bq):=
 if x.length=ps.length then
  match A {g:=u7 st.g ps (x.map .v),m:=m,pin:=st.pin++oD st.g,want:=[],more:=true,yid:=0}with
  |some (.norm,u)=>(B u).map λ(o,st2)=>(o,st2.m)|_=>none
 else none
def o_(step:Zu->Tb bq->aY (Out×Tb bq)):Zt->Tb bq->aY (Out×Tb bq)
 |[],m=>some (.norm,m)|x::xs,m=>match step x m with
  |some (.norm,m')=>o_ step xs m'|r=>r
def cw(S:Sys)(c:bU):RC->St->aY (Out×St)
 |.skip,st=>some (.norm,st)|.ops l,st=>(mg S c false [] l st).map λst=>(.norm,st)|.rH l,st=>(mg S c true [] l st).map λst=>(.norm,st)|.seq a b,st=>match cw S c a st with
  |some (.norm,st')=>cw S c b st'|r=>r
 |.cond x a b,st=>match pM S.N st.g x with
  |some (.v (.bool t))=>if t then cw S c a st else cw S c b st|_=>none
 |.block id a,st=>match cw S c a st with
  |some (.exit B,st')=>if B=id then some (.norm,st')else some (.exit B,st')|r=>r
 |.loop a,st=>nh (cw S c a) st|.each g ps a b,st=>match pM S.N st.g g with
  |some (.v (.clo f x y))=>match S.items f x y with
   |some xs=>(o_ (iz ps (cw S c a) (cw S c b) st) xs st.m).map λ(o,m)=>(o,{st with m:=m})|none=>none
  |_=>none
 |.exit id,st=>some (.exit id,st)|.ret,st=>some (.ret,st)|.gh x a,st=>(ghost x st).bind (cw S c a)|.hg a x,st=>match cw S c a st with
  |some (.norm,st')=>(ghost x st').map λst=>(.norm,st)|r=>r
def fF(S:Sys)(f:Zk)(a b:Zu)(xs:Zt):Prop:=∀u more,(more=true/\u=xs\/more=false/\u≠[]/\∃r,xs=u++r)->∀yid J,Yc S J more yid->∀Z w z H,cV H Z a w->cV H Z b z->(∀i,Z i->(bk H i).isSome=true)->Deep H Z->J u (λ_=>False) Z H->∃n y H' B Z',(∀k,n<=k->run S.E k (.fn f) (w++.yld yid::z) H=some (y,H'))/\J [] B Z' H'
section
variable{ν ν' ν2:Nu}{Z Z':Nat->Prop}{st st' st2:St}{m m':Tb bq}{F F':Zo}{H H' H1:bh}{S:Sys}{c:bU}{X:CX}{J:JT}
end
inductive vc(step:List V->Tb bq->Option (Out×Tb bq))(o:Out)(mf:Tb bq):List (List V)->Bool->Tb bq->Prop
 |nil(h:o=.norm):vc step o mf [] true mf|next(x:List V)(ws:List (List V))(more:Bool)(m m1:Tb bq)(h:step x m=some (.norm,m1))(r:vc step o mf ws more m1):vc step o mf (x::ws) more m|last(x:List V)(m:Tb bq)(h:step x m=some (o,mf))(ho:o≠.norm):vc step o mf [x] false m
def Bp{step:Zu->Tb bq->aY (Out×Tb bq)}{o:Out}{D:Tb bq}:∀{xs:Zt}{m:Tb bq},o_ step xs m=some (o,D)->
 ∃B more,(more=true/\B=xs\/more=false/\B≠[]/\∃r,xs=B++r)/\vc step o D B more m
 |[],m,h=>by obtain⟨rfl,rfl⟩:=h;exact⟨[],true,.inl ⟨rfl,rfl⟩,.nil rfl⟩|x::xs,m,h=>by simp[o_]at h;split at h;rename_i m' u;have⟨B,more,b,a⟩:=Bp h;refine⟨x::B,more,?_,.next x B more m m' u a⟩;grind;refine⟨[x],false,.inr ⟨rfl,Zc,xs,rfl⟩,.last x m h λe=>?_⟩;simp_all
def th(O0 Z0:Nat->Prop)(H0:bh):JT:=λw O Z H=>w=[]/\H0.length<=H.length/\(∀i,i<H0.length->¬O0 i->¬Z0 i->H[i]?=H0[i]?)/\(∀i,Z0 i->Z i/\bk H i=bk H0 i)/\(∀i,O i->O0 i\/H0.length<=i)/\(∀i,Z i->Z0 i\/O0 i\/H0.length<=i)
section
variable{ν ν' ν2:Nu}{Z Z':Nat->Prop}{st st' st2:St}{m m':Tb bq}{F F':Zo}{H H' H1:bh}{S:Sys}{c:bU}{X:CX}{J:JT}{O0 Z0:Nat->Prop}{H0:bh}
def th.vt{w:Zt}{O Z B Z':Nat->Prop}{H H':bh}(j:th O0 Z0 H0 w O Z H)(D:H.length<=H'.length)(G:∀i,i<H.length->¬O i->¬Z i->H'[i]?=H[i]?)(a:∀i,Z i->Z' i/\bk H' i=bk H i)
 (J:∀i,B i->O i\/H.length<=i)(T:∀i,Z' i->Z i\/O i\/H.length<=i):th O0 Z0 H0 w B Z' H':=by
 have⟨u,z,I,C,L,Q⟩:=j;refine⟨u,le_trans z D,λi b S U=>?_,λi h=>⟨(a i (C i h).1).1,Zd⟩,λi h=>?_,λi h=>?_⟩
 .grind
 .grind
 grind
def th.yc{more:Zl}{yid:Nat}:Yc S (th O0 Z0 H0) more yid where
 vt:=λ_ _ _ _ _ _ _ j a u w z B=>j.vt a u w z B
 yield:=λx C O Z H args j=>by have⟨h,_⟩:=j;cases h
def th.refl(r:R ν Z st F H):th (eB ν st.m) Z H [] (eB ν st.m) Z H:=⟨rfl,le_refl _,λ_ _ _ _=>rfl,λi h=>⟨h,rfl⟩,λi h=>.inl h,λi h=>.inl h⟩
mutual
def Cb{d:Nat}:∀{sv:SV},sv.cu d=true->d∈sv.names
 |.v _,h=>by simp[SV.cu]at h|.own e,h=>by simp[SV.cu]at h;simp[SV.names,h]|.ptr e _,h=>by simp[SV.cu]at h;simp[SV.names,h]|.el e _ _,h=>by simp[SV.cu]at h;simp[SV.names,h]|.mp e,h=>by simp[SV.cu]at h;simp[SV.names,h]|.clo f a b,h=>by simp only[SV.cu,or_eq_true]at h;simp only[SV.names,List.mem_append];exact h.imp pZ pZ|.tup l,h=>by simp only[SV.cu]at h;simp only[SV.names];exact pZ h|.agg l,h=>by simp only[SV.cu]at h;simp only[SV.names];exact pZ h|.yl _,h=>by simp[SV.cu]at h
def pZ{d:Nat}:∀{l:Zw},SV.c_ d l=true->d∈SV.uJ l
 |[],h=>by simp[SV.c_]at h|x::r,h=>by simp only[SV.c_,or_eq_true]at h;simp only[SV.uJ,List.mem_append];exact h.imp Cb pZ
end
def zQ{d:Nat}:∀{g:Tb SV}{s:Nat}{sv:SV},bg g s=some sv->sv.cu d=true->d∈oD g
 |[],s,sv,h,_=>by simp[bg]at h|(k,x)::r,s,sv,h,B=>by simp[bg]at h;simp[oD];split at h;simp at h;subst h;exact .inl (Cb B);exact .inr (zQ h B)
def R.Un(r:R ν Z st F H){Z2:Nat->Prop}(f:∀i,Z2 i->¬eB ν st.m i)(J:∀i,Z2 i->(bk H i).isSome=true)(O:Deep H Z2):R ν (λi=>Z i\/Z2 i) st F H:=by have z:∀i,Z i->(Z i\/Z2 i)/\bk H i=bk H i:=λi h=>⟨.inl h,rfl⟩;have B:∀i,Z2 i->(Z i\/Z2 i)/\bk H i=bk H i:=λi h=>⟨.inr h,rfl⟩;refine⟨λs I L=>(r.slot s I L).mono z λe _=>iC ν st.m e,λd ob w=>cI.mono z rfl (λ_ _=>rfl) (λe _=>iC ν st.m e) (r.obj d ob w),r.inj,λd ob j w D b=>?_,λi a=>?_,⟨λid es G a hr c hc u hu=>?_⟩⟩;rcases b with b|b;exact r.apart d ob j w D b;exact f _ b ⟨d,ob,j,w,D,rfl⟩;exact a.elim (r.zrow i) (J i);rcases a with a|a;have⟨x,C⟩:=r.deep.row id es G a hr c hc u hu;exact⟨x,C.mono z⟩;have⟨x,C⟩:=O.row id es G a hr c hc u hu;exact⟨x,C.mono B⟩
def R.Sk:∀{ps:Zv}{xs:Zu}{vs:Zu}{g:Tb SV}{F:Zo},R ν Z {st with g:=g} F H->cV H Z xs vs->xs.length=ps.length->R ν Z {st with g:=u7 g ps (xs.map .v)} (vQ ps vs F) H
 |[],xs,vs,g,F,r,h,B=>by have:=List.length_eq_zero_iff.1 B;subst this;exact r|p::ps,[],vs,g,F,r,h,B=>Ze|p::ps,x::xs,vs,g,F,r,h,B=>by obtain⟨w,z,rfl,a,u⟩:=h.inv;exact R.Sk (ps:=ps) (r.put (.v _ _ a)) u Zd
def rq(X:CX)(S:Sys)(ro:Zl)(code:Code)(B:St->aY (Out×St)):Prop:=∀st o st',B st=some (o,st')->∀(J:JT)ν Z F H,Yc S J st.more st.yid->R ν Z st F H->J st.want (eB ν st.m) Z H->∃n F' H' ν' Z',(∀k,n<=k->exec S.E (run S.E k) k ro X.nt code F H=some (o,F',H'))/\R ν' Z' st' F' H'/\J st'.want (eB ν' st'.m) Z' H'/\Fix ν st ν' st'
def PI(st:St)(m:Tb bq):St:={g:=st.g,m:=m,pin:=st.pin++oD st.g,want:=[],more:=true,yid:=0}
def JI(X:CX)(st:St)(F:Zo)(ν:Nu)(O0 Z0:Nat->Prop)(H0:bh)(B:Nat)(ps:Zv)(J T:Code)(step:Zu->Tb bq->aY (Out×Tb bq))(o:Out)(G:Tb bq)(more:Zl):JT:=λw O Z H=>∃m z D u,R z D (PI st m) F H/\th O0 Z0 H0 [] (eB z m) D H/\(∀i,O i->¬eB z m i/\¬D i/\i≠B/\H0.length<=i)/\(∀i,Z i->¬eB z m i/\i≠B/\(Z0 i\/H0.length<=i))/\¬eB z m B/\¬D B/\H0.length<=B/\H[B]?=some (.loop u)/\(u.frame=F/\u.nt=X.nt/\u.params=ps/\u.assign=J/\u.body=T)/\(∀d∈st.pin++oD st.g,∀C,bg m d=some C->∃ob,bg st.m d=some ob/\z d=ν d/\sameShape ob C)/\((vc step o G w more m/\u.st=.ready/\u.pend=none)\/(w=[]/\m=G/\u.st=.done/\u.pend=some o))
def JI.vt{w:Zt}{O Z J Z':Nat->Prop}{H H':bh}{B:Nat}{ps:Zv}{T U:Code}{step:Zu->Tb bq->aY (Out×Tb bq)}{o:Out}{W:Tb bq}{more:Zl}
 (j:JI X st F ν O0 Z0 H0 B ps T U step o W more w O Z H)(Y:H.length<=H'.length)(D:∀i,i<H.length->¬O i->¬Z i->H'[i]?=H[i]?)(x:∀i,Z i->Z' i/\bk H' i=bk H i)
 (d:∀i,J i->O i\/H.length<=i)(e:∀i,Z' i->Z i\/O i\/H.length<=i):JI X st F ν O0 Z0 H0 B ps T U step o W more w J Z' H':=by
 have⟨m,S,I,f,r,g,a,b,k,l,n,p,q,s,t⟩:=j;have z:=λi u=>D i (r.lt u) (λh=>(a i h).1 u) (λh=>(b i h).1 u)
 have C:∀i,I i->bk H' i=bk H i:=λi u=>by by_cases G:Z i;grind;unfold bk;rw[D i (r.tv u) (λh=>(a i h).2.1 u) G]
 have y:=(ζe.1 p).1;refine⟨m,S,I,f,r.heap z C,?_,λi h=>?_,λi h=>?_,k,l,n,?_,q,s,t⟩
 .have⟨j1,L,j3,j4,j5,j6⟩:=g;refine⟨j1,le_trans L Y,λi c v Q=>?_,λi h=>⟨(j4 i h).1,Zd⟩,j5,j6⟩
  rw[D i (Nat.lt_of_lt_of_le c L) (λh=>by have:=(a i h).2.2.2;omega) (λh=>by rcases(b i h).2.2 with h|h;exact Q h;omega),j3 i c v Q]
 .rcases d i h with h|h
  .exact a i h
  exact⟨λu=>absurd (r.lt u) Za,λu=>absurd (r.tv u) Za,Za,Za⟩
 .rcases e i h with h|h|h
  .exact b i h
  .exact⟨(a i h).1,(a i h).2.2.1,.inr (a i h).2.2.2⟩
  exact⟨λu=>absurd (r.lt u) Za,Za,.inr Za⟩
 grind
def JI.yield(S:Sys){A B:St->aY (Out×St)}{P bw:Code}(hA:rq X S true P A)(hB:rq X S true bw B){D:Nat}{ps:Zv}(ay:ps.all (·<X.nt)=true){o:Out}{p:Tb bq}{more:Zl}
 {x:Zu}{f:Zt}{O Z:Nat->Prop}{H:bh}{args:Zu}(j:JI X st F ν O0 Z0 H0 D ps P bw (iz ps A B st) o p more (x::f) O Z H)
 (hx:cV H Z x args)(ao:∀i,Z i->(bk H i).isSome=true)(aA:Deep H Z)(aB:∀i,O i->¬Z i/\i<H.length):
 ∃n H',run S.E n (.yld D) args H=some (.bool (more|| !f.isEmpty),H')/\JI X st F ν O0 Z0 H0 D ps P bw (iz ps A B st) o p more f O Z H'/\H.length<=H'.length/\(∀i,O i->H'[i]?=H[i]?)/\(∀i,Z i->bk H' i=bk H i):=by
 have⟨m,q,g,c,r,ej,d1,t,l1,l2,l3,l4,⟨q1,q2,q3,q4,q5⟩,l6,l7⟩:=j;have aC:vc (iz ps A B st) o p (x::f) more m/\c.st=.ready/\c.pend=none:=by grind
 have⟨hE,U,aD⟩:=aC;have W:∃v m1,iz ps A B st x m=some (v,m1)/\(v=.norm/\vc (iz ps A B st) o p f more m1/\(more|| !f.isEmpty)=true\/v≠.norm/\v=o/\m1=p/\f=[]/\more=false):=by cases hE with|next _ _ _ _ m1 h hr=>refine⟨.norm,m1,h,.inl ⟨rfl,hr,?_⟩⟩;cases hr<;>simp|last _ _ h ho=>grind
 have⟨v,m1,z,ad⟩:=W;unfold iz at z;split at z
 .rename_i ae;split at z
  .rename_i ai aE;have⟨⟨C,st2⟩,aF,e⟩:=ζf.1 z;simp at e;obtain⟨rfl,rfl⟩:=e;have aG:=(ζe.1 l4).1;have r1:=r.Un (λi u=>(t i u).1) ao aA
   have aH:cV H (λi=>g i\/Z i) x args:=hx.mono λi u=>⟨.inr u,rfl⟩
   have r2:=R.Sk (st:=PI st m) r1 aH ae;have⟨nA,F2,H2,ν2,Z2,a1,a2,a3,a4⟩:=hA _ _ _ aE (th (eB q m) (λi=>g i\/Z i) H) q _ _ H th.yc r2 (th.refl r1)
   have⟨b1,b2,b3,b4,y,b6⟩:=a3;have aj:¬(g D\/Z D):=λh=>h.elim l2 λh=>(t D h).2.1 rfl
   have ap:H2[D]?=some (.loop c):=by rw[b3 D aG l1 aj];omega
   have af:D<H2.length:=Za
   have Y:¬eB ν2 ai.m D:=λh=>(y D h).elim l1 λh=>Za
   have ak:¬Z2 D:=λh=>by rcases b6 D h with h|h|h;exact aj h;exact l1 h;omega
   have w:∀(ob:Ob)(Hh:bh)(i:Nat),i≠D->(Hh.set D ob)[i]?=Hh[i]?:=λob Hh i E=>by rw[List.getElem?_set,if_neg (Ne.symm E)]
   have r3:R ν2 Z2 ai F2 (H2.set D (.loop {c with st:=.busy})):=a2.heap (λi u=>w _ _ i λe=>Y (e▸u)) (λi u=>by unfold bk;rw[w _ _ i λe=>ak (e▸u)])
   have⟨nB,F4,b,K,k,c1,c2,c3,c4⟩:=hB _ _ _ aF (th (eB ν2 ai.m) Z2 (H2.set D (.loop {c with st:=.busy}))) ν2 Z2 F2 _ th.yc r3 (by
    rw[b1];exact th.refl r3)
   have⟨_,g2,g3,g4,g5,g6⟩:=c3;simp at g2 g3 g5 g6;have aq:b[D]?=some (.loop {c with st:=.busy}):=by rw[g3 D af Y ak,List.getElem?_set_self af]
   have ar:D<b.length:=Za
   have au:=λh=>(g5 D h).elim Y λh=>Za
   have av:¬k D:=λh=>by rcases g6 D h with h|h|h;exact ak h;exact Y h;omega
   generalize M:({c with st:=(if C==.norm then z8.ready else z8.done),pend:=(if C==.norm then none else some C)}:uo)=I;have r5:R K k st2 F4 (b.set D (.loop I)):=c2.heap (λi u=>w _ _ i λe=>au (e▸u)) (λi u=>by unfold bk;rw[w _ _ i λe=>av (e▸u)])
   have Q:H.length<=(b.set D (.loop I)).length:=by simp;omega
   have al:∀i,i<H.length->i≠D->¬eB q m i->¬(g i\/Z i)->(b.set D (.loop I))[i]?=H[i]?:=λi a L J l=>by rw[w _ _ i L,g3 i Za (λh=>(y i h).elim J λh=>Za) (λh=>by rcases b6 i h with h|h|h;exact l h;exact J h;omega),w _ _ i L,b3 i a J l]
   have G:∀i,(g i\/Z i)->k i/\bk (b.set D (.loop I)) i=bk H i:=λi u=>by have E:i≠D:=λe=>aj (e▸u);have⟨t1,t2⟩:=b4 i u;have⟨t3,t4⟩:=g4 i t1;refine⟨t3,?_⟩;rw[<-t2];have:bk (H2.set D (.loop {c with st:=.busy})) i=bk H2 i:=(by unfold bk;rw[w _ _ i E]);rw[<-this,<-t4];unfold bk;rw[w _ _ i E]
   have T:∀i,eB K st2.m i->eB q m i\/H.length<=i:=λi u=>by rcases g5 i u with h|h;exact y i h;exact .inr Za
   have ah:∀i,k i->(g i\/Z i)\/eB q m i\/H.length<=i:=λi u=>by rcases g6 i u with h|h|h;exact b6 i h;rcases y i h with h|h;exact .inr (.inl h);exact .inr (.inr h);exact .inr (.inr Za)
   have fx:=a4.trans c4;have r6:R K k (PI st st2.m) F (b.set D (.loop I)):=⟨λs sv hs=>(r.slot s sv hs).mono (λi u=>G i (.inl u)) λd N am an=>fx.pin d (List.mem_append_right _ (zQ hs N)) am an,r5.obj,r5.inj,r5.apart,r5.zrow,r5.deep⟩
   have ax:run S.E (max nA nB+1) (.yld D) args H=some (.bool (C==.norm),b.set D (.loop I)):=by simp only[run,jo,l4];rw[if_pos (by rw[q3];exact⟨by rw[<-hx.1];exact ae,by rw[q2];exact ay⟩)];rw[q1,q2,q3,q4,q5];rw[a1 _ (le_max_left _ _)];simp only[ap,U];rw[c1 _ (le_max_right _ _)];simp only[aq];rw[<-M]
   refine⟨max nA nB+1,b.set D (.loop I),?_,⟨st2.m,K,k,I,r6,?_,λi u=>?_,λi u=>?_,au,av,l3,?_,?_,λd N am an=>?_,?_⟩,Q,λi u=>?_,λi u=>(G i (.inr u)).2⟩
   .rw[ax];rcases ad with⟨a,_,J⟩|⟨a,_,_,l,h5⟩
    .rw[a,J];rfl
    rw[l,h5]
    cases aI:C with
    |norm=>exact absurd aI a|_=>rfl
   .have⟨j1,j2,j3,j4,j5,j6⟩:=ej;refine⟨rfl,le_trans j2 Q,λi a L J=>?_,λi h=>⟨(G i (.inl (j4 i h).1)).1,by rw[(G i (.inl (j4 i h).1)).2,(j4 i h).2]⟩,λi h=>?_,λi h=>?_⟩
    .rw[al i Za Za (λh=>by rcases j5 i h with h|h;exact L h;omega) (λh=>by
      rcases h with h|h
      .rcases j6 i h with h|h|h;exact J h;exact L h;omega
      rcases(t i h).2.2 with h|h;exact J h;omega),j3 i a L J]
    .rcases T i h with h|h
     .exact j5 i h
     exact .inr Za
    rcases ah i h with(h|h)|h|h
    .exact j6 i h
    .rcases (t i h).2.2 with h|h;exact .inl h;exact .inr (.inr h)
    .rcases j5 i h with h|h;exact .inr (.inl h);exact .inr (.inr h)
    exact .inr (.inr Za)
   .have⟨t1,t2⟩:=aB i u;have⟨t3,t4,t5,t6⟩:=d1 i u;refine⟨λh=>(T i h).elim t3 λh=>Za,λh=>?_,t5,t6⟩
    rcases ah i h with(h|h)|h|h
    .exact t4 h
    .exact t1 h
    .exact t3 h
    omega
   .have⟨t1,t2,t3⟩:=t i u;have aK:i<H.length:=by
     have:=ao i u;unfold bk at this
     cases hh:H[i]?with
     |none=>rw[hh]at this;simp at this|some _=>exact(ζe.1 hh).1
    exact⟨λh=>(T i h).elim t1 λh=>Za,t2,t3⟩
   .rw[List.getElem?_set_self ar]
   .subst M;exact⟨q1,q2,q3,q4,q5⟩
   .have⟨aJ,a,L,J⟩:=fx.pin d N am an;have⟨ob,k1,k2,k3⟩:=l6 d N aJ a;exact⟨ob,k1,by rw[L,k2],k3.trans J⟩
   .rcases ad with⟨a,L,J⟩|⟨a,L,J,l,h5⟩
    .left;subst a;subst M;exact⟨L,rfl,rfl⟩
    right;subst M;have hb:¬(C==Out.norm)=true:=by simpa using a
    refine⟨l,J,?_,?_⟩
    .show (if(C==Out.norm)=true then z8.ready else z8.done)=z8.done;rw[if_neg hb]
    show(if(C==Out.norm)=true then none else some C)=some o;rw[if_neg hb,L]
   grind
  grind
 grind
end
section
variable{ν ν' ν2:Nu}{Z Z':Nat->Prop}{st st' st2:St}{m m':Tb bq}{F F':Zo}{H H' H1:bh}{S:Sys}{c:bU}{X:CX}{J:JT}
def Mf(gd:Good X S)(O:iY S c){ro:Zl}{id:Nat}{ops:Array Oper}{l:Zy}(g:j_ X true ops.toList 0 ops.toList=some (l.map RO.strip))(G:(uD ops.toList&&yI ops.toList)=true):
 rq X S ro (.region id ops true) (λst=>(mg S c true [] l st).map λst=>(.norm,st)):=by
 intro st o st' h J ν Z F H y r j;have⟨L,a,e⟩:=ζf.1 h;simp only[ζc]at e;obtain⟨rfl,rfl⟩:=e;generalize z:(if qv ops.toList then H++List.replicate ops.toList.length .free else H)=H0;generalize f:(if qv ops.toList then ops.toList.length else 0)=k;have w:∀i,i<H.length->H0[i]?=H[i]?:=λi u=>by rw[<-z];split;exact List.getElem?_append_left u;rfl
 have B:H.length<=H0.length:=by rw[<-z];split<;>simp
 have Q:R ν Z st F H0:=r.heap (λi u=>w i (r.lt u)) (λi u=>by unfold bk;rw[w i (r.tv u)])
 have C:∀q,0<=q->q<k->H0[H.length+q]?=some .free:=λq _ D=>by rw[<-f]at D;split at D;rename_i I;rw[<-z,if_pos I,List.getElem?_append_right Za];simp only[Nat.add_sub_cancel_left];rw[List.getElem?_replicate,if_pos D];omega
 have⟨n,F',H',ν',e1,e2,e3,e4,e5⟩:=LG gd O (ops:=ops.toList) (b:=H.length) (k:=k) (λI=>by rw[<-f,if_pos I]) ops.toList.length (i:=0) (fr:=[]) Za (by simpa using g) a Q B
  ⟨λd ob j G T _=>r.lt ⟨d,ob,j,G,T,rfl⟩,λi u=>r.tv u⟩ C
 refine⟨n,F',H',ν',Z,λq D=>?_,e2,?_,e5⟩
 .simp only[exec,jb,if_true,G,ζf,ζc,true_and];refine⟨(F',H'),?_,rfl,rfl⟩;rw[z];have:=e1 q D;rw[List.range_eq_range'];exact this
 rw[e4];refine y.vt _ _ _ _ _ _ _ j (le_trans B e3.len) (λi a U W=>by rw[e3.same i Za U W Za,w i a]) (λi u=>⟨u,by rw[(e3.rows i u).2];unfold bk;rw[w i (r.tv u)]⟩) (λi u=>?_) (λi u=>.inl u)
 rcases e3.own i u with h|h|h
 .exact .inl h
 .exact .inr h
 exact .inr Za
def PU{ro:Zl}{code:Code}{f:St->aY (Out×St)}(T:rq X S ro code f):rq X S ro (.loop code) (nh f):=by
 intro st o st' h J ν Z F H y r j;have⟨k,a⟩:=lR.1 h;have key:∀k st ν Z F H,iN f k st=some (o,st')->Yc S J st.more st.yid->R ν Z st F H->J st.want (eB ν st.m) Z H->
  ∃n F' H' ν' Z',(∀q,n<=q->∀u,k<=u->jQ (exec S.E (run S.E q) q ro X.nt code) u F H=some (o,F',H'))/\R ν' Z' st' F' H'/\J st'.want (eB ν' st'.m) Z' H'/\Fix ν st ν' st':=by
  intro k
  induction k with
  |zero=>intro st ν Z F H h;simp[iN]at h|succ k Q=>
   intro st ν Z F H h y r j;simp only[iN]at h;split at h
   .rename_i z C;have⟨D,F1,H1,G,I,a1,a2,L,B⟩:=T st .norm z C J ν Z F H y r j;have⟨U,W,H2,ν2,Z2,Y,b,c,d⟩:=Q z G I F1 H1 h (by rw[B.more,B.yid];exact y) a2 L
    refine⟨max D U,W,H2,ν2,Z2,λq w u O=>?_,b,c,B.trans d⟩
    cases u with
    |zero=>omega|succ u=>simp only[jQ,a1 q (le_trans (le_max_left _ _) w)];exact Y q (le_trans (le_max_right _ _) w) u Za
   rename_i C;have⟨D,F1,H1,G,I,a1,a2,L,B⟩:=T st o st' h J ν Z F H y r j;have g:o≠.norm:=λe=>by subst e;exact C st' h
   refine⟨D,F1,H1,G,I,λq w u O=>?_,a2,L,B⟩
   cases u with
   |zero=>omega|succ u=>simp only[jQ,a1 q w];cases o<;>first|exact absurd rfl g|rfl
 have⟨n,F',H',ν',Z',e1,e2,e3,e4⟩:=key k st ν Z F H a y r j;refine⟨max n k,F',H',ν',Z',λq w=>?_,e2,e3,e4⟩;simp only[exec];exact e1 q (le_trans (le_max_left _ _) w) q (le_trans (le_max_right _ _) w)
def PN(gd:Good X S)(hI:∀f a b xs,S.items f a b=some xs->fF S f a b xs){g:Zr}{ps:Array Tmp}{W Y:Code}{x:Arg}{A B:St->aY (Out×St)}
 (ab:ps.toList.all (·<X.nt)=true)(hx:nX X.nm g=some x)(hA:rq X S true W A)(hB:rq X S true Y B):
 rq X S false (.rangeFunc g ps W Y) (λst=>match pM S.N st.g x with
 |some (.v (.clo f x y))=>match S.items f x y with
  |some xs=>(o_ (iz ps.toList A B st) xs st.m).map λ(o,m)=>(o,{st with m:=m})|none=>none
 |_=>none):=by
 intro st o st' h J ν Z F H y r j;dsimp only at h;split at h
 .rename_i f a b ad;split at h
  .rename_i xs ae;have⟨⟨s,t⟩,hE,e⟩:=ζf.1 h;simp only[ζc]at e;obtain⟨rfl,rfl⟩:=e;have⟨yv,hy,ry⟩:=CG gd.N r.slot hx ad;obtain⟨a',b',rfl,ra,rb⟩:=ry.fr.jy;have⟨N,more,T,hR⟩:=Bp hE;generalize L:(⟨.ready,none,F,X.nt,ps.toList,W,Y⟩:uo)=z;have C:∀i,i<H.length->(H++[Ob.loop z])[i]?=H[i]?:=λi u=>List.getElem?_append_left u
   have D:∀i,Z i->bk (H++[Ob.loop z]) i=bk H i:=λi u=>by unfold bk;rw[C i (r.tv u)]
   have r0:R ν Z (PI st st.m) F (H++[Ob.loop z]):=by have:=r.heap (H':=H++[Ob.loop z]) (λi u=>C i (r.lt u)) D;exact⟨this.slot,this.obj,this.inj,this.apart,this.zrow,this.deep⟩
   have G:∀i,Z i->Z i/\bk (H++[Ob.loop z]) i=bk H i:=λi u=>⟨u,D i u⟩
   have j0:JI X st F ν (eB ν st.m) Z H H.length ps.toList W Y (iz ps.toList A B st) s t more N (λ_=>False) Z (H++[Ob.loop z]):=by refine⟨st.m,ν,Z,z,r0,⟨rfl,Zc,λi k _ _=>C i k,λi u=>⟨u,D i u⟩,λi u=>.inl u,λi u=>.inl u⟩,λi u=>u.elim,λi u=>⟨λv=>?_,Nat.ne_of_lt (r.tv u),.inl u⟩,λv=>absurd (r.lt v) Zc,λhz=>absurd (r.tv hz) Zc,le_refl _,Zc,?_,λd _ af h=>⟨af,h,rfl,.refl _⟩,.inl ⟨hR,?_,?_⟩⟩;obtain⟨d,ob,j,g1,g2,rfl⟩:=v;exact r.apart d ob j g1 g2 u;subst L;exact⟨rfl,rfl,rfl,rfl,rfl⟩;subst L;rfl;subst L;rfl
   have ah:Yc S (JI X st F ν (eB ν st.m) Z H H.length ps.toList W Y (iz ps.toList A B st) s t more) more H.length:=⟨λw O Z1 H1 O' Z' H' E k l p K h5=>JI.vt E k l p K h5,λx1 aj O Z1 H1 args E k l p K=>JI.yield S hA hB ab E k l p K⟩
   have⟨n,yy,H',O',Z',e1,e2⟩:=hI f a b xs ae N more T H.length _ ah Z a' b' (H++[Ob.loop z]) (ra.mono G) (rb.mono G) (λi u=>by rw[D i u];exact r.zrow i u) (r.deep.mono D) j0
   have⟨m1,νb,P,M,r1,⟨_,k2,k3,k4,k5,k6⟩,_,_,l1,l2,l3,V,_,l6,l7⟩:=e2;have aa:m1=t/\(M.st=.ready\/M.st=.done)/\M.pend.getD .norm=s:=by rcases l7 with⟨g1,g2,g3⟩|⟨_,g1,g2,g3⟩;(cases g1 with|nil hn=>exact⟨rfl,.inl g2,by rw[g3,hn];rfl⟩);exact⟨g1,.inr g2,by rw[g3];rfl⟩
   obtain⟨rfl,c,U⟩:=aa;have ak:H.length<H'.length:=(ζe.1 V).1;have I:∀i,i≠H.length->(H'.set H.length .dead)[i]?=H'[i]?:=λi ai=>by rw[List.getElem?_set,if_neg (Ne.symm ai)]
   have Q:∀i,P i->bk (H'.set H.length .dead) i=bk H' i:=λi u=>by unfold bk;rw[I i λe=>l2 (e▸u)]
   have r2:=r1.heap (H':=H'.set H.length .dead) (λi u=>I i λe=>l1 (e▸u)) Q
   refine⟨n,F,H'.set H.length .dead,νb,P,λq hq=>?_,⟨r2.slot,r2.obj,r2.inj,r2.apart,r2.zrow,r2.deep⟩,?_,⟨λd hd=>l6 d (List.mem_append_left _ hd),rfl,rfl,rfl⟩⟩
   .simp only[exec,hy];rw[L,e1 q hq];simp only[V];rcases c with c|c<;>rw[c]<;>simp only[U]
   refine y.vt _ _ _ _ _ _ _ j (by simp only[List.length_set];omega) (λi k l p=>by rw[I i Za,k3 i k l p]) (λi u=>⟨(k4 i u).1,by rw[Q i (k4 i u).1,(k4 i u).2]⟩) k5 k6
  simp at h
 simp at h
end
def ki(st:St):aX RV->aY Zw
 |[]=>some []|.s n::r=>match bg st.g n,ki st r with
  |some x,some l=>some (x::l)|_,_=>none
 |.ld n size agg::r=>match(bg st.g n).bind λp=>og st.m (.load size agg) [p],ki st r with
  |some x,some l=>some (x::l)|_,_=>none
def mB(S:Sys)(c:bU)(rf:RF)(svs:Zw)(B:dF):aY (Zw×dF):=
 if svs.length<=rf.na then
  match cw S c rf.body (start svs B)with
  |some (.exit _,_)=>none|some (_,st)=>(ki st rf.rs).map λrs=>(rs,st.m)|none=>none
 else none
def yZ(E:Env):ResultVar->aY RV
 |.tmp t=>some (.s t)|.cell a t=>(E.tt t).map λd=>.ld a d.size d.agg
def wB(E:Env)(nm:Zk->aY Nat)(fi:FI)(rf:RF):Prop:=bG ⟨E,nm,fi.ntmps⟩ false fi.body=some (erase rf.body)/\fi.results.mapM (yZ E)=some rf.rs/\rf.na=fi.ntmps
section
variable{ν ν' ν2:Nu}{Z Z':Nat->Prop}{st st' st2:St}{m m':Tb bq}{F F':Zo}{H H' H1:bh}{S:Sys}{c:bU}{X:CX}{J:JT}
theorem HN (gd:Good X S) (hS:iY S c) (hI:∀f a b xs,S.items f a b=some xs->fF S f a b xs):∀(rc:RC) (ro:Bool) (code:Code),bG X ro code=some (erase rc)->rq X S ro code (cw S c rc):=by
 intro rc
 induction rc with
 | skip=>
  intro ro code hc st o st' h J ν Z F H y r j;obtain⟨rfl,rfl⟩:=h;simp[erase]at hc;have:∀k,exec S.E (run S.E k) k ro X.nt code F H=some (.norm,F,H):=λk=>by
   cases code with
   | skip=>rfl
   | label _=>rfl
   | region id ops w=>
    simp[bG]at hc;split at hc
    .simp_all
    simp_all
   | seq a b=>simp[bG]at hc;grind
   | cond x a b=>simp[bG]at hc;grind
   | block id b=>simp only[bG]at hc;simp_all
   | loop b=>simp only[bG]at hc;simp_all
   | rangeFunc g ps T U=>
    simp[bG]at hc
    grind
   | _=>simp[bG]at hc
  exact⟨0,F,H,ν,Z,λk _=>this k,r,j,.refl⟩
 | ops l=>
  intro ro code hc;simp[erase]at hc
  cases code with
  | region id ops w=>
   simp[bG]at hc;split at hc
   .simp_all
   rename_i hd;obtain⟨l',hl,e⟩:=ζf.1 hc;cases e;intro st o st' h J ν Z F H y r j;obtain⟨z,h1,e⟩:=ζf.1 h;obtain⟨rfl,rfl⟩:=e;obtain⟨n,F',H',ν',Z',e1,e2,e3,e4⟩:=LC gd hS _ hl h1 y r j;refine⟨n,F',H',ν',Z',λk hk=>?_,e2,e3,e4⟩
   simp[exec,jb,hd,e1 k hk]
  | seq a b=>simp[bG]at hc;grind
  | cond x a b=>simp[bG]at hc;grind
  | block id b=>simp only[bG]at hc;simp_all
  | loop b=>obtain⟨_,_,e⟩:=ζf.1 hc;cases e
  | rangeFunc g ps T U=>
   simp only[bG]at hc;split at hc
   .simp at hc
   split at hc <;> simp at hc
  | _=>simp[bG]at hc
 | rH l=>
  intro ro code hc;simp[erase]at hc
  cases code with
  | region id ops w=>
   simp only[bG]at hc;split at hc
   .rename_i hd;subst hd;split at hc
    next ab=>obtain⟨l',hl,e⟩:=ζf.1 hc;cases e;have:=Mf (ro:=ro) (id:=id) gd hS hl ab;intro st o st' h;exact this st o st' h
    simp at hc
   obtain⟨_,_,e⟩:=ζf.1 hc;cases e
  | seq a b=>simp[bG]at hc;split at hc <;> simp at hc
  | cond x a b=>simp[bG]at hc;split at hc <;> simp at hc
  | block id b=>obtain⟨_,_,e⟩:=ζf.1 hc;cases e
  | loop b=>obtain⟨_,_,e⟩:=ζf.1 hc;cases e
  | rangeFunc g ps T U=>
   simp only[bG]at hc;split at hc
   .simp at hc
   split at hc <;> simp at hc
  | _=>simp[bG]at hc
 | seq a b u O=>
  intro ro code hc;simp[erase]at hc
  cases code with
  | seq W cb=>
   simp[bG]at hc;split at hc
   .rename_i xa xb Q hb;simp[RC.seq.injEq]at hc;obtain⟨rfl,rfl⟩:=hc;intro st o st' h J ν Z F H y r j;simp[cw]at h;split at h
    .rename_i z Y;obtain⟨I,F1,H1,B,C,a1,a2,L,D⟩:=u ro W Q st .norm z Y J ν Z F H y r j;obtain⟨n2,F2,H2,ν2,Z2,b1,b2,b3,b4⟩:=O ro cb hb z o st' h J B C F1 H1 (by rw[D.more,D.yid];exact y) a2 L
     refine⟨max I n2,F2,H2,ν2,Z2,λq G=>?_,b2,b3,D.trans b4⟩
     simp[exec,a1 q (Nat.le_trans (Nat.le_max_left _ _) G)];exact b1 q (Nat.le_trans (Nat.le_max_right _ _) G)
    rename_i Y;obtain⟨I,F1,H1,B,C,a1,a2,L,D⟩:=u ro W Q st o st' h J ν Z F H y r j;refine⟨I,F1,H1,B,C,λq G=>?_,a2,L,D⟩
    simp[exec,a1 q G];cases o <;> first|exact absurd h (Y st')|rfl
   simp at hc
  | region id ops w=>
   simp[bG]at hc;split at hc
   .split at hc
    .obtain⟨_,_,e⟩:=ζf.1 hc;cases e
    simp at hc
   obtain⟨_,_,e⟩:=ζf.1 hc;cases e
  | cond x a b=>simp[bG]at hc;split at hc <;> simp at hc
  | block id b=>simp only[bG]at hc;obtain⟨_,_,e⟩:=ζf.1 hc;cases e
  | loop b=>simp only[bG]at hc;obtain⟨_,_,e⟩:=ζf.1 hc;cases e
  | rangeFunc g ps T U=>
   simp only[bG]at hc;split at hc
   .simp at hc
   split at hc <;> simp at hc
  | _=>simp[bG]at hc
 | cond x a b u O=>
  intro ro code hc;simp[erase]at hc
  cases code with
  | cond g W cb=>
   simp[bG]at hc;split at hc
   .rename_i xg xa xb hg Q hb;simp[RC.cond.injEq]at hc;obtain⟨rfl,rfl,rfl⟩:=hc;intro st o st' h J ν Z F H y r j;simp[cw]at h;split at h
    .rename_i t ht;obtain⟨yv,hy,ry⟩:=CG gd.N r.slot hg ht;rw[ry.fr.bool]at hy;split at h
     .rename_i hb;obtain⟨I,F1,H1,B,C,a1,a2,L,D⟩:=u ro W Q st o st' h J ν Z F H y r j;refine⟨I,F1,H1,B,C,λq G=>?_,a2,L,D⟩
      simp[exec,hy,hb];exact a1 q G
     rename_i hb;obtain⟨I,F1,H1,B,C,a1,a2,L,D⟩:=O ro cb (by assumption) st o st' h J ν Z F H y r j
     refine⟨I,F1,H1,B,C,λq G=>?_,a2,L,D⟩
     simp[exec,hy,hb];exact a1 q G
    simp at h
   simp at hc
  | region id ops w=>
   simp[bG]at hc;split at hc
   .split at hc
    .obtain⟨_,_,e⟩:=ζf.1 hc;cases e
    simp at hc
   obtain⟨_,_,e⟩:=ζf.1 hc;cases e
  | seq a b=>simp[bG]at hc;split at hc <;> simp at hc
  | block id b=>simp only[bG]at hc;obtain⟨_,_,e⟩:=ζf.1 hc;cases e
  | loop b=>simp only[bG]at hc;obtain⟨_,_,e⟩:=ζf.1 hc;cases e
  | rangeFunc g ps T U=>
   simp only[bG]at hc;split at hc
   .simp at hc
   split at hc <;> simp at hc
  | _=>simp[bG]at hc
 | block id a u=>
  intro ro code hc;simp[erase]at hc
  cases code with
  | block ad W=>
   simp only[bG]at hc;obtain⟨xa,Q,e⟩:=ζf.1 hc;simp[RC.block.injEq]at e;obtain⟨rfl,rfl⟩:=e;intro st o st' h J ν Z F H y r j;simp[cw]at h;split at h
   .rename_i ae z Y;obtain⟨I,F1,H1,B,C,a1,a2,L,D⟩:=u ro W Q st (.exit ae) z Y J ν Z F H y r j;split at h
    .rename_i e;simp  at h;obtain⟨rfl,rfl⟩:=h;refine⟨I,F1,H1,B,C,λq G=>?_,a2,L,D⟩
     simp[exec,a1 q G,if_pos e]
    rename_i e;simp  at h;obtain⟨rfl,rfl⟩:=h;refine⟨I,F1,H1,B,C,λq G=>?_,a2,L,D⟩
    simp[exec,a1 q G,if_neg e]
   rename_i Y;obtain⟨I,F1,H1,B,C,a1,a2,L,D⟩:=u ro W Q st o st' h J ν Z F H y r j;refine⟨I,F1,H1,B,C,λq G=>?_,a2,L,D⟩
   simp[exec,a1 q G];cases o <;> first|exact absurd h (Y _ st')|rfl
  | region id ops w=>
   simp[bG]at hc;split at hc
   .split at hc
    .obtain⟨_,_,e⟩:=ζf.1 hc;cases e
    simp at hc
   obtain⟨_,_,e⟩:=ζf.1 hc;cases e
  | seq a b=>simp[bG]at hc;split at hc <;> simp at hc
  | cond x a b=>simp[bG]at hc;split at hc <;> simp at hc
  | loop b=>simp only[bG]at hc;obtain⟨_,_,e⟩:=ζf.1 hc;cases e
  | rangeFunc g ps T U=>
   simp only[bG]at hc;split at hc
   .simp at hc
   split at hc <;> simp at hc
  | _=>simp[bG]at hc
 | loop a u=>
  intro ro code hc;simp[erase]at hc
  cases code with
  | loop W=>
   simp only[bG]at hc;obtain⟨xa,Q,e⟩:=ζf.1 hc;simp[RC.loop.injEq]at e;subst e;have:=PU (u ro W Q);intro st o st' h;simp[cw]at h;exact this st o st' h
  | region id ops w=>
   simp[bG]at hc;split at hc
   .split at hc
    .obtain⟨_,_,e⟩:=ζf.1 hc;cases e
    simp at hc
   obtain⟨_,_,e⟩:=ζf.1 hc;cases e
  | seq a b=>simp[bG]at hc;split at hc <;> simp at hc
  | cond x a b=>simp[bG]at hc;split at hc <;> simp at hc
  | block id b=>simp only[bG]at hc;obtain⟨_,_,e⟩:=ζf.1 hc;cases e
  | rangeFunc g ps T U=>
   simp only[bG]at hc;split at hc
   .simp at hc
   split at hc <;> simp at hc
  | _=>simp[bG]at hc
 | each x ps a b u O=>
  intro ro code hc;simp[erase]at hc
  cases code with
  | rangeFunc g ah T U=>
   simp only[bG]at hc;split at hc
   .simp at hc
   rename_i aa;simp only[Bool.or_eq_true,not_or,Bool.not_eq_true,Bool.not_eq_false']at aa;obtain⟨rfl,af⟩:=aa;split at hc
   next xg xa xb hg Q hb=>simp[RC.each.injEq]at hc;obtain⟨rfl,rfl,rfl,rfl⟩:=hc;have:=PN gd hI af hg (u true T Q) (O true U hb);intro st o st' h;simp only[cw]at h;exact this st o st' h
   simp at hc
  | region id ops w=>
   simp only[bG]at hc;split at hc
   .split at hc
    .obtain⟨_,_,e⟩:=ζf.1 hc;cases e
    simp at hc
   obtain⟨_,_,e⟩:=ζf.1 hc;cases e
  | seq a b=>simp only[bG]at hc;split at hc <;> simp at hc
  | cond x a b=>simp only[bG]at hc;split at hc <;> simp at hc
  | block id b=>simp only[bG]at hc;obtain⟨_,_,e⟩:=ζf.1 hc;cases e
  | loop b=>simp only[bG]at hc;obtain⟨_,_,e⟩:=ζf.1 hc;cases e
  | _=>simp[bG]at hc
 | exit id=>
  intro ro code hc st o st' h J ν Z F H y r j;simp only[cw,ζa,ζc]at h;obtain⟨rfl,rfl⟩:=h;simp only[erase]at hc;have:∀k,exec S.E (run S.E k) k ro X.nt code F H=some (.exit id,F,H):=λk=>by
   cases code with
   | exit ad=>simp only[bG,ζa,RC.exit.injEq]at hc;subst hc;rfl
   | region id ops w=>
    simp only[bG]at hc;split at hc
    .split at hc
     .obtain⟨_,_,e⟩:=ζf.1 hc;cases e
     simp at hc
    obtain⟨_,_,e⟩:=ζf.1 hc;cases e
   | seq a b=>simp only[bG]at hc;split at hc <;> simp at hc
   | cond x a b=>simp only[bG]at hc;split at hc <;> simp at hc
   | block id b=>simp only[bG]at hc;obtain⟨_,_,e⟩:=ζf.1 hc;cases e
   | loop b=>simp only[bG]at hc;obtain⟨_,_,e⟩:=ζf.1 hc;cases e
   | rangeFunc g ps T U=>
    simp only[bG]at hc;split at hc
    .simp at hc
    split at hc <;> simp at hc
   | _=>simp[bG]at hc
  exact⟨0,F,H,ν,Z,λk _=>this k,r,j,.refl⟩
 | ret=>
  intro ro code hc st o st' h J ν Z F H y r j;simp only[cw,ζa,ζc]at h;obtain⟨rfl,rfl⟩:=h;simp only[erase]at hc;have:∀k,exec S.E (run S.E k) k ro X.nt code F H=some (.ret,F,H):=λk=>by
   cases code with
   | ret=>rfl
   | region id ops w=>
    simp only[bG]at hc;split at hc
    .split at hc
     .obtain⟨_,_,e⟩:=ζf.1 hc;cases e
     simp at hc
    obtain⟨_,_,e⟩:=ζf.1 hc;cases e
   | seq a b=>simp only[bG]at hc;split at hc <;> simp at hc
   | cond x a b=>simp only[bG]at hc;split at hc <;> simp at hc
   | block id b=>simp only[bG]at hc;obtain⟨_,_,e⟩:=ζf.1 hc;cases e
   | loop b=>simp only[bG]at hc;obtain⟨_,_,e⟩:=ζf.1 hc;cases e
   | rangeFunc g ps T U=>
    simp only[bG]at hc;split at hc
    .simp at hc
    split at hc <;> simp at hc
   | _=>simp[bG]at hc
  exact⟨0,F,H,ν,Z,λk _=>this k,r,j,.refl⟩
 | gh x a u=>
  intro ro code hc;simp only[erase]at hc;intro st o st' h J ν Z F H y r j;simp only[cw]at h;obtain⟨z,h1,h2⟩:=ζg.1 h;obtain⟨B,C,g1,g2,g3⟩:=Fix.ghost r y j h1;obtain⟨n,F',H',ν',Z',e1,e2,e3,e4⟩:=u ro code hc z o st' h2 J B C F H (by rw[g3.more,g3.yid];exact y) g1 g2
  exact⟨n,F',H',ν',Z',e1,e2,e3,g3.trans e4⟩
 | hg a x u=>
  intro ro code hc;simp only[erase]at hc;intro st o st' h J ν Z F H y r j;simp only[cw]at h;split at h
  .rename_i z Y;obtain⟨st2,h1,e⟩:=ζf.1 h;simp only[ζc]at e;obtain⟨rfl,rfl⟩:=e;obtain⟨n,F',H',ν',Z',e1,e2,e3,e4⟩:=u ro code hc st .norm z Y J ν Z F H y r j;obtain⟨B,C,g1,g2,g3⟩:=Fix.ghost e2 (by rw[e4.more,e4.yid];exact y) e3 h1
   exact⟨n,F',H',B,C,e1,g1,g2,e4.trans g3⟩
  exact u ro code hc st o st' h J ν Z F H y r j
end
abbrev pI:=FuncId->aY RF
def Aq(E:Env)(f:Zk)(az:Zu)(y:V):Prop:=∃n z H' Z,run E n (.fn f) az []=some (z,H')/\FR H' Z y z/\(∀id,Z id->(bk H' id).isSome=true)/\Deep H' Z
structure q_(S:Sys)(T:pI):Prop where
 fn:∀f rf,T f=some rf->∃fi nm,S.E.ft f=some fi/\(∀g s,nm g=some s->S.N s=g)/\wB S.E nm fi rf
 xE:∀f az y,S.xE f az=some y->Aq S.E f az y
 prm:∀f q,S.prm f=some q->nq S.E f q
def OC(S:Sys)(f:Zk)(svs:Zw)(B:dF):aY (Zw×dF):=
 if S.E.keep f then none else match dh svs,B with
  |some az,[]=>(S.xE f az).map λy=>([.v y],[])|_,_=>none
def kH(S:Sys)(T:pI):Nat->bU
 |0=>λ_ _ _=>none|n+1=>λf svs B=>match T f with
  |some rf=>mB S (kH S T n) rf svs B|none=>OC S f svs B
section
variable{ν ν' ν2:Nu}{Z Z':Nat->Prop}{st st' st2:St}{m m':Tb bq}{F F':Zo}{H H' H1:bh}{S:Sys}{c c':bU}{X:CX}{J:JT}{T:pI}
def yW(r:R ν Z st F H){nm:Zk->aY Nat}:∀{B:aX ResultVar}{rs:aX RV}{l:Zw},B.mapM (yZ S.E)=some rs->ki st rs=some l->∃ys,gX S.E F H B=some ys/\bT ν st.m H Z l ys
 |[],rs,l,hc,h=>by simp at hc;subst hc;simp[ki]at h;subst h;exact⟨[],rfl,.nil⟩|rv::B,rs,l,hc,h=>by simp[ζg]at hc;obtain⟨x,D,ys,G,rfl⟩:=hc;cases rv with|tmp t=>simp[yZ]at D;subst D;simp[ki]at h;split at h;(next v I b u=>simp at h;subst h;have⟨w,e1,e2⟩:=yW r (nm:=nm) G u;exact⟨get F t::w,by simp[gX,e1],.cons (r.slot t v b) e2⟩);grind|cell a t=>simp[yZ]at D;obtain⟨d,J,rfl⟩:=D;simp[ki]at h;split at h;rename_i v I b u;simp at h;subst h;have⟨p,L,b⟩:=ζg.1 b;have⟨w,e1,e2⟩:=yW r (nm:=nm) G u;have⟨y,g1,g2⟩:=uH (λs a e=>by cases e) (λkk z ok e=>by cases e) (bT.cons (r.slot a p L) .nil) (λO _ ob C=>r.obj O ob C) b;simp[eG]at g1;exact⟨y::w,by simp[gX,J,e1,g1],.cons g2 e2⟩;grind
def Ho(G:∀f q,S.prm f=some q->nq S.E f q)(J:iY S c)(O:∀f a b xs,S.items f a b=some xs->fF S f a b xs){f:Zk}{fi:FI}{nm:Zk->aY Nat}{rf:RF}(D:S.E.ft f=some fi)(T:∀g s,nm g=some s->S.N s=g)(j:wB S.E nm fi rf)
 {svs:Zw}{B:dF}{rs:Zw}{m1:dF}(h:mB S c rf svs B=some (rs,m1)){args:Zu}(r:R ν Z (start svs B) args H)(U:bT ν B H Z svs args):
 ∃n y H' ν' Z' st' F' ys,run S.E n (.fn f) args H=some (y,H')/\y=result ys/\st'.m=m1/\bT ν' m1 H' Z' rs ys/\R ν' Z' st' F' H'/\Ev (λ_=>False) ν Z (start svs B) H ν' Z' st' H':=by
 have⟨k,z,C⟩:=j;unfold mB at h;split at h
 .have key:∀o st',cw S c rf.body (start svs B)=some (o,st')->(∀id,o≠.exit id)->(ki st' rf.rs).map (λrs=>(rs,st'.m))=some (rs,m1)->
   ∃n y H' ν' Z' st' F' ys,run S.E n (.fn f) args H=some (y,H')/\y=result ys/\st'.m=m1/\bT ν' m1 H' Z' rs ys/\R ν' Z' st' F' H'/\Ev (λ_=>False) ν Z (start svs B) H ν' Z' st' H':=λo st' I t w=>by
   have⟨l,d,e⟩:=ζf.1 w;obtain⟨rfl,rfl⟩:=e;have⟨n,F',H',ν',Z',e1,e2,e3,e4⟩:=HN ⟨rfl,T,G⟩ J O rf.body false fi.body k _ _ _ I (th (eB ν (start svs B).m) Z H) ν Z args H th.yc r (th.refl r);have⟨ys,p1,p2⟩:=yW (nm:=nm) e2 z d;have⟨_,L,Q,W,X,Y⟩:=e3;refine⟨n+1,result ys,H',ν',Z',st',F',ys,?_,rfl,rfl,p2,e2,⟨L,λi d m p _=>Q i d m p,W,λi h=>(X i h).imp (λh=>h) .inr,λi h=>(Y i h).imp (λh=>h) (.imp (λh=>h) .inr),e4.pin,e4.pins⟩⟩
   have u:args.length<=fi.ntmps:=by rw[<-U.1,<-C];omega
   simp[run,jo,D,if_pos u,e1 n (le_refl _)]
   grind
  grind
 grind
def FR.emp{x y:V}(G:∀id,¬Z id)(r:FR H Z x y):x=y:=by
 have B:∀{a w:Zu},a.length=w.length->(∀(j:Nat)u v,a[j]?=some u->w[j]?=some v->u=v)->a=w:=λ{a w}h1 z=>by apply List.ext_getElem h1;intro i p q;exact z i _ _ (ζd p) (ζd q)
 induction r with|same x h=>rfl|fsl es C id off D h=>grind|fptr C id el off es D I h=>grind|clo f a b w J h1 z _ _ i1 i2=>rw[B h1 i1,B z i2]|agg a w h1 _ i1=>grind|tup a w h1 _ i1=>grind
def bT.emp(B:∀id,¬Z id):∀{xs ys:Zu},bT ν m H Z (xs.map .v) ys->xs=ys
 |[],ys,h=>h.cF.symm|x::xs,ys,h=>by obtain⟨y,ys,rfl,a,D⟩:=h.inv;rw[FR.emp B a.fr,bT.emp B D]
def z7(B:q_ S T)(O:∀f a b xs,S.items f a b=some xs->fF S f a b xs):∀n,iY S (kH S T n)
 |0=>λf svs W rs m1 h=>by simp[kH]at h|n+1=>λf svs W rs m1 h ν Z args H U r D=>by simp[kH]at h;split at h;(next rf G=>have⟨fi,nm,c,Y,g⟩:=B.fn f rf G;exact Ho B.prm (z7 B O n) O c Y g h r D);unfold OC at h;split at h;simp_all;split at h;rename_i az Q;have⟨y,X,e⟩:=ζf.1 h;obtain⟨rfl,rfl⟩:=e;have⟨k,z,H',i,w,C,I,iR⟩:=B.xE f az y X;rcases U with U|rfl;grind;have L:∀id,¬Z id:=λid J=>(by have:=r.zrow id J;simp[bk]at this);have u:=(by rw[tw Q]at D;exact(bT.emp L D).symm);subst u;refine⟨k,z,H',⟨λ_=>(0,0),λ_ _=>0⟩,i,⟨[],[],[],[],true,0⟩,[],[z],w,rfl,rfl,bT.cons (.v y z C) .nil,?_,?_⟩;exact⟨λs sv h=>by simp[bg]at h,λd ob h=>by simp[bg]at h,λd l ob m j o h=>by simp[bg]at h,λd ob j h=>by simp[bg]at h,I,iR⟩;exact⟨Nat.zero_le _,λid h=>Ze,λid h=>absurd h (L id),λid h=>Zd,λid h=>.inr (.inr (.inr (Nat.zero_le _))),λd h=>by simp[start]at h,rfl⟩;grind
abbrev Ks:=aX ((FuncId×aX SV×dF)×(aX SV×dF))
def Cg(c:bU)(L:Ks):Prop:=∀p∈L,c p.1.1 p.1.2.1 p.1.2.2=some p.2
def Fin{α:Type}(c:bU)(f:bU->aY α)(r:α):Prop:=∃L:Ks,Cg c L/\∀c',Cg c' L->f c'=some r
def Fin.pure{α:Type}{f:bU->aY α}{r:α}(h:∀c',f c'=some r):Fin c f r:=⟨[],λp u=>Ze,λc' _=>h c'⟩
def Fin.bind{α β:Type}{f:bU->aY α}{r:α}{g:bU->aY β}{q:β}(b:Fin c f r)(B:bU->α->aY β)(D:Fin c (λc=>B c r) q)(d:∀c',f c'=some r->g c'=B c' r):Fin c g q:=by have⟨w,a1,z⟩:=b;have⟨C,a2,G⟩:=D;refine⟨w++C,λp u=>(List.mem_append.1 u).elim (a1 p) (a2 p),λc' a=>?_⟩;rw[d c' (z c' λp u=>a p (List.mem_append_left _ u))];exact G c' λp u=>a p (List.mem_append_right _ u)
def Fin.call{f:Zk}{svs:Zw}{B:dF}{r:Zw×dF}(h:c f svs B=some r):Fin c (λc=>c f svs B) r:=⟨[((f,svs,B),r)],λp u=>Zd,λc' a=>a ((f,svs,B),r) Zc⟩
def Ds{dst:aY Nat}{dr now:Zl}{old:Zw->Zl}{f:Zk}{args:Zw}{r:SV×St}(h:gy S c dst dr now old f args st=some r):Fin c (λc=>gy S c dst dr now old f args st) r:=by have w:=h;unfold gy at h;split at h;split at h;split at h;split at h;split at h;rename_i rs m' a;refine(Fin.call a).bind (λc' q=>gy S c dst dr now old f args st) (.pure λ_=>w) (λc' u=>?_);unfold gy;grind;grind;grind;rename_i z;split at h;rename_i q B;refine .pure λc'=>?_;unfold gy;simp_all;rename_i B;split at h;rename_i os G;split at h;rename_i rs m' a;refine(Fin.call a).bind (λc' q=>gy S c dst dr now old f args st) (.pure λ_=>w) (λc' u=>?_);unfold gy;clear h w;simp[*];grind;grind;split at h;split at h;split at h;rename_i rs m' a;refine(Fin.call a).bind (λc' q=>gy S c dst dr now old f args st) (.pure λ_=>w) (λc' u=>?_);unfold gy;simp_all;grind;grind;grind;rename_i b;split at h;rename_i az C;split at h;rename_i D;split at h;rename_i rs m' a;refine(Fin.call a).bind (λc' q=>gy S c dst dr now old f args st) (.pure λ_=>w) (λc' u=>?_);unfold gy;simp[b,C,D,a,u];grind;grind;grind
def P4{dr:Zl}{fr:Zv}{o:RO}{r:SV×St}(h:kS S c dr fr o st=some r):Fin c (λc=>kS S c dr fr o st) r:=by have w:=h;unfold kS at h;split at h;rename_i B u;split at h;refine .pure λc'=>?_;have a:=w;unfold kS at a⊢;rename_i b;simp only[u,b]at a⊢;exact a;refine .pure λc'=>?_;have a:=w;unfold kS at a⊢;rename_i C b;simp only[u,b]at a⊢;exact a;refine .pure λc'=>?_;have a:=w;unfold kS at a⊢;rename_i b;simp only[u,b]at a⊢;exact a;refine .pure λc'=>?_;have a:=w;unfold kS at a⊢;rename_i b;simp only[u,b]at a⊢;exact a;refine .pure λc'=>?_;have a:=w;unfold kS at a⊢;rename_i b;simp only[u,b]at a⊢;exact a;rename_i b;split at h;refine(Ds h).bind (λ_ q=>some q) (.pure λ_=>rfl) (λc' z=>?_);unfold kS;simp only[u,b,z];refine(Ds h).bind (λ_ q=>some q) (.pure λ_=>rfl) (λc' z=>?_);unfold kS;simp only[u,b,z];simp at h;refine .pure λc'=>?_;have a:=w;unfold kS at a⊢;rename_i b;simp only[u,b]at a⊢;exact a;refine .pure λc'=>?_;have a:=w;unfold kS at a⊢;rename_i b;simp only[u,b]at a⊢;exact a;simp at h
def P8{dr:Zl}{fr:Zv}{o:RO}{r:St}(h:fc S c dr fr o st=some r):Fin c (λc=>fc S c dr fr o st) r:=by unfold fc at h;split at h;split at h;refine .pure λc'=>?_;unfold fc;grind;have⟨q,u,e⟩:=ζf.1 h;refine(P4 u).bind (λ_ q=>some (cZ q.2 o.dst q.1)) (.pure λ_=>Ze) (λc' w=>?_);unfold fc;grind;refine .pure λc'=>?_;unfold fc;grind;grind
def AU{dr:Zl}:∀{l:Zy}{fr:Zv}{st r:St},mg S c dr fr l st=some r->Fin c (λc=>mg S c dr fr l st) r
 |[],fr,st,r,h=>.pure λ_=>h|o::l,fr,st,r,h=>by simp[mg]at h;split at h;(next D B=>have⟨G,a,B⟩:=ζg.1 B;exact(P8 B).bind (λc' q=>mg S c' dr (if dr then pW fr o.strip else fr) l (nZ o.dead q)) (AU h) (λc' u=>by simp[mg,a,u]));grind
def DS{f:bU->St->aY (Out×St)}(D:∀st r,f c st=some r->Fin c (λc=>f c st) r):∀{k:Nat}{st:St}{r:Out×St},iN (f c) k st=some r->Fin c (λc=>iN (f c) k st) r
 |0,st,r,h=>by simp[iN]at h|k+1,st,r,h=>by simp[iN]at h;split at h;(next G J=>exact(D st _ J).bind (λc' q=>iN (f c') k G) (DS D h) (λc' B=>by simp[iN,B]));refine(D st r h).bind (λ_ q=>some q) (.pure λ_=>rfl) (λc' B=>?_);simp[iN,B];grind
def DT{f:bU->Zu->Tb bq->aY (Out×Tb bq)}(D:∀x m r,f c x m=some r->Fin c (λc=>f c x m) r):∀{xs:Zt}{m:Tb bq}{r:Out×Tb bq},o_ (f c) xs m=some r->Fin c (λc=>o_ (f c) xs m) r
 |[],m,r,h=>.pure λ_=>h|x::xs,m,r,h=>by simp[o_]at h;split at h;(next m1 G=>exact(D x m _ G).bind (λc' q=>o_ (f c') xs m1) (DT D h) (λc' B=>by simp[o_,B]));refine(D x m r h).bind (λ_ q=>some q) (.pure λ_=>rfl) (λc' B=>?_);simp[o_,B];grind
def LJ:∀{d:RC}{st:St}{r:Out×St},cw S c d st=some r->Fin c (λc=>cw S c d st) r:=by intro d;induction d with|skip=>exactλh=>.pure λ_=>h|exit id=>exactλh=>.pure λ_=>h|ret=>exactλh=>.pure λ_=>h|ops l=>intro st r h;simp only[cw]at h⊢;have⟨q,G,e⟩:=ζf.1 h;exact(AU G).bind (λ_ q=>some (.norm,q)) (.pure λ_=>Ze) (λc' w=>Zd)|rH l=>intro st r h;simp only[cw]at h⊢;have⟨q,G,e⟩:=ζf.1 h;exact(AU G).bind (λ_ q=>some (.norm,q)) (.pure λ_=>Ze) (λc' w=>Zd)|seq a b u C=>intro st r h;simp[cw]at h⊢;split at h;(next B D=>exact(u D).bind (λc' q=>cw S c' b B) (C h) (λc' w=>Zd));rename_i D;refine(u h).bind (λ_ q=>some q) (.pure λ_=>rfl) (λc' w=>?_);grind|cond x a b u C=>intro st r h;simp[cw]at h⊢;grind|block id a u=>intro st r h;simp[cw]at h⊢;split at h;(next I B D=>exact(u D).bind (λc' q=>if I=id then some (.norm,B)else some (.exit I,B)) (.pure λ_=>h) (λc' w=>Zd));refine(u h).bind (λ_ q=>some q) (.pure λ_=>rfl) (λc' w=>?_);grind|loop a u=>intro st r h;have⟨k,j⟩:=lR.1 h;refine(DS (λst r h=>u h) j).bind (λ_ q=>some q) (.pure λ_=>rfl) (λc' w=>?_);exact lR.2 ⟨k,w⟩|each g ps a b u C=>intro st r h;simp only[cw]at h⊢;split at h;split at h;have⟨q,G,e⟩:=ζf.1 h;refine(DT (f:=λc=>iz ps (cw S c a) (cw S c b) st) (λz m r h=>?_) G).bind (λ_ q=>some (q.1,{st with m:=q.2})) (.pure λ_=>Ze) (λc' w=>Zd);unfold iz at h;split at h;split at h;rename_i B i;have⟨L,J,e2⟩:=ζf.1 h;refine(u i).bind (λc' q=>(cw S c' b B).map λ(o,st2)=>(o,st2.m)) ((C J).bind (λ_ q=>some (q.1,q.2.m)) (.pure λ_=>Ze) (λc' w=>Zd)) (λc' w=>?_);unfold iz;grind;grind;grind;grind;grind|gh x a u=>intro st r h;simp[cw]at h⊢;have⟨B,i,O⟩:=ζg.1 h;grind|hg a x u=>intro st r h;simp[cw]at h⊢;split at h;(next B D=>exact(u D).bind (λc' q=>(ghost x B).map λst=>(.norm,st)) (.pure λ_=>h) (λc' w=>Zd));refine(u h).bind (λ_ q=>some q) (.pure λ_=>rfl) (λc' w=>?_);grind
def xF{rf:RF}{svs:Zw}{B:dF}{r:Zw×dF}(h:mB S c rf svs B=some r):Fin c (λc=>mB S c rf svs B) r:=by have u:=h;unfold mB at h;split at h;split at h;simp_all;rename_i o st w z;refine(LJ z).bind (λc' q=>mB S c rf svs B) (.pure λ_=>u) (λc' C=>?_);unfold mB;grind;grind;grind
def BR:∀{n:Nat}{f:Zk}{svs:Zw}{B:dF}{r:Zw×dF},kH S T n f svs B=some r->kH S T (n+1) f svs B=some r
 |0,f,svs,B,r,h=>by simp[kH]at h|n+1,f,svs,B,r,h=>by simp[kH]at h;rw[kH];split at h;(next rf D=>have⟨L,a,G⟩:=xF h;simp[D];exact G _ λp u=>BR (a p u));grind
def Ac{n k:Nat}(h:n<=k){f:Zk}{svs:Zw}{B:dF}{r:Zw×dF}(D:kH S T n f svs B=some r):kH S T k f svs B=some r:=by induction h with|refl=>omega|step _ u=>exact BR u
open Classical in
def cT(S:Sys)(T:pI):bU:=λf u w=>if h:∃n r,kH S T n f u w=some r then some (Classical.choose (choose_spec h))else none
def qH{f:Zk}{svs:Zw}{B:dF}{r:Zw×dF}:cT S T f svs B=some r↔∃n,kH S T n f svs B=some r:=by unfold cT;constructor;intro h;split at h;grind;grind;rintro⟨k,a⟩;have u:∃n r,kH S T n f svs B=some r:=⟨k,r,a⟩;have w:=choose_spec (choose_spec u);have z:=Ac (le_max_left (Classical.choose u) k) w;have C:=Ac (le_max_right (Classical.choose u) k) a;grind
def JB{L:Ks}(h:Cg (cT S T) L):∃n,∀k,n<=k->Cg (kH S T k) L:=by induction L with|nil=>exact⟨0,λk _ p a=>Ze⟩|cons q L u=>have⟨w,c⟩:=qH.1 (h q Zc);have⟨z,B⟩:=u λp a=>h p (List.mem_cons_of_mem _ a);refine⟨max w z,λk b p a=>?_⟩;rcases List.mem_cons.1 a with rfl|a;exact Ac (le_trans (le_max_left _ _) b) c;exact B k (le_trans (le_max_right _ _) b) p a
def D5{f:Zk}{az:Zu}{y:V}(B:T f=none)(b:S.E.keep f=false)(h:S.xE f az=some y):cT S T f (az.map .v) []=some ([.v y],[]):=by
 refine qH.2 ⟨1,?_⟩;have u:dh (az.map .v)=some az:=by clear h;induction az with|nil=>rfl|cons a l w=>simp only[List.map_cons,dh,w];rfl
 simp only[kH,B,OC,b,u,h];rfl
def sB{f:Zk}{rf:RF}(D:T f=some rf)(svs:Zw)(B:dF):cT S T f svs B=mB S (cT S T) rf svs B:=by cases h:mB S (cT S T) rf svs B with|some r=>have⟨L,a,w⟩:=xF h;have⟨n,u⟩:=JB a;refine qH.2 ⟨n+1,?_⟩;simp[kH,D];grind|none=>cases w:cT S T f svs B with|none=>rfl|some r=>have⟨n,u⟩:=qH.1 w;cases n with|zero=>simp[kH]at u|succ n=>simp[kH,D]at u;have⟨L,z,C⟩:=xF u;have I:=C (cT S T) λp G=>qH.2 ⟨n,z p G⟩;grind
def zO(B:q_ S T)(D:∀f a b xs,S.items f a b=some xs->fF S f a b xs):iY S (cT S T):=λf u w rs z h=>by have⟨n,C⟩:=qH.1 h;exact z7 B D n f u w rs z C
def QB(T:∀f q,S.prm f=some q->nq S.E f q)(U:iY S c){f:Zk}{fi:FI}{nm:Zk->aY Nat}{rf:RF}(W:∀f a b xs,S.items f a b=some xs->fF S f a b xs)(D:S.E.ft f=some fi)(Y:∀g s,nm g=some s->S.N s=g)(e:wB S.E nm fi rf){a b:Zu}{xs:Zt}
 (O:a.length+1+b.length<=rf.na)(G:rf.rs=[])
 (h:∀B more,(more=true/\B=xs\/more=false/\B≠[]/\∃r,xs=B++r)->∀yid,∃o st',cw S c rf.body {g:=vA 0 (a.map .v++.yl yid::b.map .v),m:=[],pin:=[],want:=B,more:=more,yid:=yid}=some (o,st')/\(∀id,o≠.exit id)/\st'.want=[]/\st'.m=st'.m):
 fF S f a b xs:=by
 intro B more X yid J y Z C I H l p t v j;have⟨o,st',x,K,A,_⟩:=h B more X yid;have⟨E,w,L⟩:=e;have Q:bT ⟨λ_=>(0,0),λ_ _=>0⟩ [] H Z (a.map .v++.yl yid::b.map .v) (C++.yld yid::I):=(bT.qc l).append (.cons (.yl yid) (bT.qc p))
 have F:R ⟨λ_=>(0,0),λ_ _=>0⟩ Z {g:=vA 0 (a.map .v++.yl yid::b.map .v),m:=[],pin:=[],want:=B,more:=more,yid:=yid} (C++.yld yid::I) H:=⟨vH Q,λd ob h=>by simp[bg]at h,λd M ob N j P h=>by simp[bg]at h,λd ob j h=>by simp[bg]at h,t,v⟩
 have⟨n,F',H',ν',Z',e1,e2,e3,e4⟩:=HN ⟨rfl,Y,T⟩ U W rf.body false fi.body E _ _ _ x J _ Z _ H y F (by
  refine y.vt _ _ _ _ _ _ _ j (le_refl _) (λ_ _ _ _=>rfl) (λi z=>⟨z,rfl⟩) (λi z=>?_) (λi z=>.inl z)
  have⟨d,ob,j,h,_⟩:=z;simp[bg]at h)
 rw[A]at e3;rw[G]at w;have⟨ys,p1,p2⟩:=yW (nm:=nm) e2 w rfl;refine⟨n+1,result ys,H',_,Z',λk hk=>?_,e3⟩
 have u:(C++V.yld yid::I).length<=fi.ntmps:=by rw[<-Q.1,<-L];simp;omega
 cases k with
 |zero=>omega|succ k=>
  simp[run,jo,D,if_pos u,e1 k Za]
  grind
def Q7(B:q_ S T)(D:∀f a b xs,S.items f a b=some xs->fF S f a b xs){f:Zk}{az:Zu}(d:V.cB az=true){y:V}{m':dF}(h:cT S T f (az.map .v) []=some ([.v y],m'))(G:y.scalar=true):
 ∃n H',run S.E n (.fn f) az []=some (y,H'):=by
 have⟨u,r1⟩:=yM d;obtain⟨n,I,H2,ν',Z',st',F',w,c,rfl,J,C,L,_⟩:=zO B D f _ _ _ _ h _ _ az [] (.inr rfl) u r1;obtain⟨z,w,rfl,e1,e2⟩:=C.inv;rw[e2.cF]at c;have:=(e1.fr.scalar).1 G;subst this;exact⟨n,H2,c⟩
end
end Go.VE
