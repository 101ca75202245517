/-
 The second layer: named objects in the place of rows; texts, calls, iterators.
-/
import Derived.Test.YtegogepdjcdfcacGreatDoorN1
set_option linter.all false
noncomputable section
namespace Go.VE
variable [bO]
def gj (N:Nat->FuncId) (g:Tb SV) (o:RO):bf (Nat×a_ SV):=
 match o.k,bV N g o.az with
 | .c,some (.yl id::t)=>some (id,t)
 | _,_=>none
open Classical in
def fH (S:Sys) (c:bU) (dr:Bool) (fr:a_ Nat) (o:RO) (st:St):bf St:=
 match wanted st.g o.gd with
 | some true=>match gj S.N st.g o with
  | some (id,u)=>if dr then none else match cV u,st.want with
   | some z,w::t=>if z=w/\id=st.yid then some (cZ { st with want:=t } o.dst (.v (.bool (st.more || !t.isEmpty))))else none
   | _,_=>none
  | none=>(lG S c dr fr o st).map λ(x,st')=>cZ st' o.dst x
 | some false=>some (cZ st o.dst (.v .undef))
 | none=>none
def RO.strip (o:RO):RO:={ o with dead:=[],pre:=[] }
def od:a_ Gh->St->bf St
 | [],st=>some st
 | x::r,st=>(ghost x st).bind (od r)
def zb:Gh->Bool
 | .keep ..=>true
 | .drop _=>true
 | _=>false
def BX (dr:Bool) (l:a_ Gh) (st:St):bf St:=if dr then(if l.all zb then od l st else none)else od l st
def oP (ds:a_ Nat) (st:St):St:={ st with g:=oO ds st.g }
def mM (S:Sys) (c:bU) (dr:Bool):a_ Nat->a_ RO->St->bf St
 | _,[],st=>some st
 | fr,o::r,st=>match (BX dr o.pre st).bind (fH S c dr fr o.strip)with
  | some st'=>mM S c dr (if dr then qy fr o.strip else fr) r (oP o.dead st')
  | none=>none
abbrev JT:=a_ (a_ V)->(Nat->Prop)->(Nat->Prop)->bn->Prop
structure Yc (S:Sys) (J:JT) (more:Bool) (yid:Nat):Prop where
 xB:∀w O Z H O' Z' H',J w O Z H->H.length<=H'.length->(∀i,i<H.length->¬O i->¬Z i->H'[i]? = H[i]?)->(∀i,Z i->Z' i/\bq H' i=bq H i) ->
  (∀i,O' i->O i\/H.length<=i)->(∀i,Z' i->Z i\/O i\/H.length<=i)->J w O' Z' H'
 yield:∀x ws O Z H args,J (x::ws) O Z H->c8 H Z x args->(∀i,Z i->(bq H i).isSome=true)->Deep H Z->(∀i,O i->¬Z i/\i<H.length) ->
  ∃n H',run S.E n (.yld yid) args H=some (.bool (more || !ws.isEmpty),H')/\J ws O Z H'/\H.length<=H'.length/\(∀i,O i->H'[i]? = H[i]?)/\(∀i,Z i->bq H' i=bq H i)
structure Fix (ν:Nu) (st:St) (ν':Nu) (st':St):Prop where
 pin:∀d∈st.pin,∀ob',bl st'.m d=some ob'->∃ob,bl st.m d=some ob/\ν' d=ν d/\sameShape ob ob'
 pins:st'.pin=st.pin
 more:st'.more=st.more
 yid:st'.yid=st.yid
section
variable {Rv:Nat->Prop} {ν ν' ν2:Nu} {Z Z':Nat->Prop} {st st' st2:St} {m m':Tb bu} {F F':Frame} {H H' H1:bn} {S:Sys} {c:bU} {X:CX} {J:JT}
theorem Fix.refl:Fix ν st ν st:=⟨λ_ _ t h=>⟨t,h,rfl,.refl _⟩,rfl,rfl,rfl⟩
theorem Fix.trans (a:Fix ν st ν' st') (b:Fix ν' st' ν2 st2):Fix ν st ν2 st2:=
 ⟨λd hd t h=>by
  obtain⟨u,h1,z,w⟩:=b.pin d (by rw[a.pins];omega) t h
  obtain⟨ob,k1,k2,k3⟩:=a.pin d hd u h1;exact⟨ob,k1,by simp_all,k3.trans w⟩,by rw[b.pins,a.pins],by rw[b.more,a.more],by rw[b.yid,a.yid]⟩
theorem Ev.beside (y:Yc S J st.more st.yid) (a:Ev (λ_=>False) ν Z st H ν' Z' st' H') (u:st'.want=st.want) (j:J st.want (eF ν st.m) Z H):J st'.want (eF ν' st'.m) Z' H':=by
 rw[u];exact y.xB _ _ _ _ _ _ _ j a.len (λi h1 t w=>a.same i h1 t w (λh=>h)) a.rows (λi h=>(a.own i h).imp (λh=>h) (λh=>h.elim (λh=>h.elim) (λh=>h)))
  (λi h=>(a.frz i h).imp (λh=>h) (λh=>h.imp (λh=>h) (λh=>h.elim (λh=>h.elim) (λh=>h))))
theorem vf (D:∀s sv,bl st.g s=some sv->cD ν m H Z sv (get F s)) {ops:a_ Oper} {o:Oper} {gd:bf (Nat×Bool)} (hg:BZ ops o=some gd) {t:Bool} (u:wanted st.g gd=some t):fG ops F o=t:=by
 unfold BZ at hg;unfold fG
 cases w:o.guard with
 | none=>
  rw[w]at hg;simp  at hg;simp[wanted]at u;grind
 | some C=>
  rw[w]at hg;obtain⟨d,hd,rfl⟩:=ζf.1 hg;simp[hd];simp[wanted]at u;split at u
  next c hc=>simp  at u;subst u;rw[(D d _ hc).fr.bool]
  .rename_i x G hc;simp  at u;subst u;have z:=(D d _ hc).fr;split
   .rename_i c B;rw[B]at z;cases z
    grind
   rfl
  grind
theorem Du {dst:bf Nat} {size:Nat} {s x sv:SV} (h:ug st dst size s x=some (sv,st')):st'.want=st.want/\st'.pin=st.pin/\st'.more=st.more/\st'.yid=st.yid:=by
 unfold ug at h;dsimp only at h
 (repeat' split at h) <;> cases h
 exact⟨rfl,rfl,rfl,rfl⟩
theorem N4 {d:Nat} (h:vI d st=some st'):st'.want=st.want/\st'.pin=st.pin/\st'.more=st.more/\st'.yid=st.yid:=by
 unfold vI at h
 (repeat' split at h) <;> cases h <;> exact⟨rfl,rfl,rfl,rfl⟩
theorem ES {dst:bf Nat} {size:Nat} {s x sv:SV} (h:vV st dst size s x=some (sv,st')):st'.want=st.want/\st'.pin=st.pin/\st'.more=st.more/\st'.yid=st.yid:=by
 unfold vV at h;split at h
 .split at h
  .split at h
   .rename_i t;have:=N4 t;have:=Du h
    grind
   cases h
  exact Du h
 cases h
theorem L8 {x:Gh} (h:ghost x st=some st'):st'.want=st.want/\st'.more=st.more/\st'.yid=st.yid:=by
 unfold Go.VE.ghost zJ FW vI at h
 (repeat' split at h) <;> first|grind|skip
 all_goals
  unfold AJ at h;split at h
  .split at h
   .obtain⟨_,_,h⟩:=ζg.1 h;obtain⟨_,_,rfl⟩:=ζf.1 h;exact⟨rfl,rfl,rfl⟩
   cases h
  .cases h;exact⟨rfl,rfl,rfl⟩
  cases h
theorem MG {q:ED} {dst:bf Nat} {args:a_ SV} {sv:SV} (h:BL q dst args st=some (sv,st')):st'.want=st.want/\st'.pin=st.pin/\st'.more=st.more/\st'.yid=st.yid:=by
 unfold BL at h
 grind
theorem OR {dr:Bool} {fr:a_ Nat} {ro:RO} {sv:SV} (h:lG S c dr fr ro st=some (sv,st')):st'.want=st.want/\st'.pin=st.pin/\st'.more=st.more/\st'.yid=st.yid:=by
 unfold lG at h;split at h
 .split at h
  .split at h
   .split at h
    .simp at h
    unfold zw at h;split at h
    .split at h
     .obtain⟨_,_,h⟩:=ζg.1 h;obtain⟨_,_,h⟩:=ζg.1 h;dsimp only at h;split at h
      .simp only[ζa,ζc]at h;obtain⟨_,rfl⟩:=h;exact⟨rfl,rfl,rfl,rfl⟩
      simp at h
     simp at h
    simp at h
   obtain⟨_,_,e⟩:=ζf.1 h;simp only[ζc]at e;obtain⟨_,rfl⟩:=e;exact⟨rfl,rfl,rfl,rfl⟩
  .obtain⟨_,_,e⟩:=ζf.1 h;simp only[ζc]at e;obtain⟨_,rfl⟩:=e;exact⟨rfl,rfl,rfl,rfl⟩
  .split at h
   .obtain⟨_,_,e⟩:=ζf.1 h;simp only[ζc]at e;obtain⟨_,rfl⟩:=e;exact⟨rfl,rfl,rfl,rfl⟩
   simp at h
  .split at h
   .split at h
    .obtain⟨_,_,e⟩:=ζf.1 h;simp only[ζc]at e;obtain⟨_,rfl⟩:=e;exact⟨rfl,rfl,rfl,rfl⟩
    simp at h
   simp at h
  .split at h
   .unfold jC at h
    (repeat' split at h) <;> first|exact ES h|(simp at h;done)|(simp only[ζa,ζc]at h;obtain⟨_,rfl⟩:=h;exact⟨rfl,rfl,rfl,rfl⟩)|(obtain⟨_,_,e⟩:=ζf.1 h;simp only[ζc]at e;obtain⟨_,rfl⟩:=e;exact⟨rfl,rfl,rfl,rfl⟩)|skip
    dsimp only at h
    (repeat' split at h) <;> first|(simp at h;done)|(simp only[ζa,ζc]at h;obtain⟨_,rfl⟩:=h;exact⟨rfl,rfl,rfl,rfl⟩)
   simp at h
  .have hc:∀{dst dr now t f args},ey S c dst dr now t f args st=some (sv,st')->st'.want=st.want/\st'.pin=st.pin/\st'.more=st.more/\st'.yid=st.yid:=by
    intro dst dr now t f args h;unfold ey En at h
    (repeat' split at h) <;> first|exact MG h|(obtain⟨_,_,e⟩:=ζf.1 h;simp only[ζc]at e;obtain⟨_,rfl⟩:=e;exact⟨rfl,rfl,rfl,rfl⟩)|(simp at h;done)|(simp only[ζa,ζc]at h;obtain⟨_,rfl⟩:=h;exact⟨rfl,rfl,rfl,rfl⟩)
   split at h
   .exact hc h
   .exact hc h
   simp at h
  .split at h
   .simp at h
   split at h
   .obtain⟨_,_,h⟩:=ζg.1 h;obtain⟨_,_,e⟩:=ζf.1 h;simp only[ζc]at e;obtain⟨_,rfl⟩:=e;exact⟨rfl,rfl,rfl,rfl⟩
   simp at h
  have w:∀{dst l u},jC st dst l u=some (sv,st')->st'.want=st.want/\st'.pin=st.pin/\st'.more=st.more/\st'.yid=st.yid:=by
   intro dst l u h;unfold jC at h
   (repeat' split at h) <;> first|exact ES h|(simp at h;done)|(simp only[ζa,ζc]at h;obtain⟨_,rfl⟩:=h;exact⟨rfl,rfl,rfl,rfl⟩)|(obtain⟨_,_,e⟩:=ζf.1 h;simp only[ζc]at e;obtain⟨_,rfl⟩:=e;exact⟨rfl,rfl,rfl,rfl⟩)|skip
   all_goals (dsimp only at h;(repeat' split at h) <;> first|(simp at h;done)|(simp only[ζa,ζc]at h;obtain⟨_,rfl⟩:=h;exact⟨rfl,rfl,rfl,rfl⟩))
  split at h
  .exact w h
  .exact w h
  simp at h
 simp at h
theorem AE (r:R ν Z st F H) {nt:Nat} {dst:bf Nat} (hd:yD nt dst=true) {sv:SV} {y:V} (h:cD ν st.m H Z sv y):∃F',jt nt F dst y=some F'/\R ν Z (cZ st dst sv) F' H:=by
 cases dst with
 | none=>exact⟨F,rfl,r⟩
 | some d=>
  have  := by simpa [yD]using hd
  exact⟨set F d y,by simp[jt,if_pos this],r.put h⟩
theorem CM (st:St) (dst:bf Nat) (sv:SV):(cZ st dst sv).m=st.m/\(cZ st dst sv).want=st.want/\(cZ st dst sv).pin=st.pin/\(cZ st dst sv).more=st.more/\(cZ st dst sv).yid=st.yid:=by
 cases dst <;> exact⟨rfl,rfl,rfl,rfl,rfl⟩
theorem JF (gd:Good X S) (T:iH S c) {ops:a_ Oper} {place:bf (Nat×Nat)} {dr:Bool} {fr:a_ Nat} {i:Nat} (D:dr=place.isSome) (U:∀b j,place=some (b,j)->j=i)
 (hold:∀b j,place=some (b,j)->b<=H.length/\Old b fr ν Z st.m)
 {o:Oper} {ro:RO} (hc:lZ X dr ops i o=some ro) (G:∀b j,place=some (b,j)->ops[j]? = some o) (B:∀b j,place=some (b,j)->cB o.op=.alloc->H[b+j]? = some .free)
 (r:R ν Z st F H) (u:gj S.N st.g ro=none\/dr=true) (h:fH S c dr fr ro st=some st') :
 ∃n F' H' ν' Z',(∀k,n<=k->fZ S.E (run S.E k) X.nt ops place o F H=some (F',H'))/\R ν' Z' st' F' H'/\Ev (λid=>∃b j,place=some (b,j)/\id=b+j) ν Z st H ν' Z' st' H' /\
  (dr=true->Z'=Z/\Kept (yM ro) ν st.m ν' st'.m)/\st'.want=st.want/\Fix ν st ν' st':=by
 have I:=hc;obtain⟨t,g,now,k,az,hg,rfl⟩:=CH hc;unfold fH at h;split at h
 .rename_i J;have w:=vf r.slot hg J;have W:(lG S c dr fr ⟨o.dst,g,now,k,az,[],[]⟩ st).map (λ(x,st')=>cZ st' o.dst x)=some st':=by
   split at h
   .rename_i id vs C;rcases u with u|u
    .rw[u]at C;cases C
    subst u;simp at h
   exact h
  obtain⟨⟨x,L⟩,hd,rfl⟩:=ζf.1 W;obtain⟨n,y,H',ν',Z',e1,e2,e3,e4,e5⟩:=Ve gd T D U hold I G B r hd;obtain⟨Y,Q,w3,w4⟩:=OR hd;obtain⟨F',f1,O⟩:=AE e2 t e3;obtain⟨p1,p2,p3,p4,p5⟩:=CM L o.dst x;refine⟨n,F',H',ν',Z',λk hk=>?_,O,?_,λhd=>⟨(e5 hd).1,by rw[p1];exact(e5 hd).2⟩,by rw[p2,Y],⟨λd hd=>by rw[p1];exact e4.pin d hd,by rw[p3,Q],by rw[p4,w3],by rw[p5,w4]⟩⟩
  .unfold fZ;simp only[w,if_true,e1 k hk,f1,Option.map_some]
  exact⟨e4.len,e4.same,e4.rows,λid h=>e4.own id (by rw[p1]at h;exact h),e4.frz,λd hd=>by rw[p1];exact e4.pin d hd,by rw[p3,Q]⟩
 .rename_i J;have w:=vf r.slot hg J;simp only[ζa]at h;subst h;obtain⟨F',f1,O⟩:=AE r t (.v V.undef V.undef (.same _ rfl));obtain⟨p1,p2,p3,p4,p5⟩:=CM st o.dst (.v .undef);refine⟨0,F',H,ν,Z,λk _=>?_,O,?_,λ_=>⟨rfl,by rw[p1];exact .refl⟩,p2,⟨λd hd=>by rw[p1];exact λz h=>⟨z,h,rfl,.refl _⟩,p3,p4,p5⟩⟩
  .unfold fZ;simp only[w,Bool.false_eq_true,if_false,f1,Option.map_some]
  exact⟨Nat.le_refl _,λ_ _ _ _ _=>rfl,λ_ h=>⟨h,rfl⟩,λ_ h=>.inl (by rw[p1]at h;exact h),λ_ h=>.inl h,λd hd=>by rw[p1];exact λz h=>⟨z,h,rfl,.refl _⟩,p3⟩
 simp at h
theorem QD (gd:Good X S) (y:Yc S J st.more st.yid) {ops:a_ Oper} {fr:a_ Nat} {i:Nat} {o:Oper} {ro:RO} (hc:lZ X false ops i o=some ro)
 (r:R ν Z st F H) (j:J st.want (eF ν st.m) Z H) {id:Nat} {vs:a_ SV} (u:gj S.N st.g ro=some (id,vs)) (B:wanted st.g ro.gd=some true) (h:fH S c false fr ro st=some st') :
 ∃n F' H',(∀k,n<=k->fZ S.E (run S.E k) X.nt ops none o F H=some (F',H'))/\R ν Z st' F' H'/\J st'.want (eF ν st'.m) Z H'/\Fix ν st ν st':=by
 unfold lZ at hc;simp only[Bool.false_and,Bool.false_eq_true,if_false,Bool.not_false,Bool.and_true]at hc;split at hc
 .rename_i C;split at hc
  .rename_i g k os hg hr;split at hc
   .obtain⟨az,U,rfl⟩:=ζf.1 hc;unfold fH at h;simp only at B;have I:=vf r.slot hg B;rw[B]at h;simp only[u,Bool.false_eq_true,if_false]at h;unfold gj at u;split at u
    .rename_i W Y hk D;simp only[ζa,ζc]at u;obtain⟨rfl,rfl⟩:=u;simp only at hk D;subst hk;obtain⟨ys,L,rs⟩:=oa gd.N r.slot U D;obtain⟨g1,f',aa,e1,e2⟩:=iU gd.N hr L;obtain⟨w,ws,ew,r1,r2⟩:=rs.inv;rw[ew]at e1;simp only[List.cons.injEq]at e1;obtain⟨rfl,rfl⟩:=e1;cases r1;simp only at e2;split at h
     .rename_i xs x G hx t;split at h
      .rename_i z;obtain⟨rfl,rfl⟩:=z;simp only[ζa]at h;subst h;rw[t]at j;obtain⟨n,H',p1,p2,p3,p4,p5⟩:=y.yield _ _ _ _ _ _ j (r2.cV hx) r.zrow r.deep (λi Q=>⟨by obtain⟨d,ob,j,h1,h2,rfl⟩:=Q;exact r.apart d ob j h1 h2,r.lt Q⟩)
       have r3:R ν Z st F H':=r.heap p4 p5;have r4:R ν Z { st with want:=G } F H':=⟨r3.slot,r3.obj,r3.inj,r3.apart,r3.zrow,r3.deep⟩;obtain⟨F',f1,f2⟩:=AE (st:={ st with want:=G }) r4 C (sv:=.v (.bool (st.more || !G.isEmpty))) (.v _ _ (.same _ rfl));obtain⟨T,q2,q3,q4,q5⟩:=CM { st with want:=G } o.dst (.v (.bool (st.more || !G.isEmpty)));refine⟨n,F',H',λk hk=>?_,f2,by rw[T,q2];exact p2,⟨λd hd=>by rw[T];exact λO h=>⟨O,h,rfl,.refl _⟩,q3,q4,q5⟩⟩
       unfold fZ cK;rw[g1,e2];simp only[I,if_true,(qw S.E hk).go _ _ _ _ p1,f1,Option.map_some]
      simp at h
     simp at h
    simp at u
   simp at hc
  simp at hc
 simp at hc
def kF (X:CX) (u:Bool) (ops:a_ Oper):Nat->a_ Oper->bf (a_ RO)
 | _,[]=>some []
 | i,o::r=>match lZ X u ops i o,kF X u ops (i+1) r with
  | some ro,some rs=>some (ro::rs)
  | _,_=>none
theorem R.yG (r:R ν Z st F H) (ds:a_ Nat):R ν Z (oP ds st) F H:=r.less   (λs u t=>nY t) (λd ob hd=>hd)
theorem Fix.yG {ds:a_ Nat} (f:Fix ν (oP ds st) ν' st'):Fix ν st ν' st':=⟨f.pin,f.pins,f.more,f.yid⟩
theorem Fix.ghost (r:R ν Z st F H) (y:Yc S J st.more st.yid) (j:J st.want (eF ν st.m) Z H) {x:Gh} (h:ghost x st=some st'):∃ν' Z',R ν' Z' st' F H/\J st'.want (eF ν' st'.m) Z' H/\Fix ν st ν' st':=by
 obtain⟨ν',Z',h1,t⟩:=Pq (Rv:=λ_=>False) r h
 have u:=L8 h;exact⟨ν',Z',h1,t.beside y u.1 j,⟨t.pin,t.pins,u.2.1,u.2.2⟩⟩
theorem Fix.quiet (r:R ν Z st F H):∀{l:a_ Gh} {st':St},l.all zb=true->Go.VE.od l st=some st'->R ν Z st' F H/\Ev Rv ν Z st H ν Z st' H/\st'.want=st.want/\Fix ν st ν st'/\∀d ob,bl st'.m d=some ob->bl st.m d=some ob:=by
 intro l
 induction l generalizing st with
 | nil=>intro st' _ h;simp[Go.VE.od]at h;subst h;exact⟨r,.refl,rfl,.refl,λ_ _ h=>h⟩
 | cons x l B=>
  intro st' w h;simp only[List.all_cons,ζh]at w;obtain⟨C,h1,D⟩:=ζg.1 h;have key:∃g m,C={ st with g:=g,m:=m }/\(∀s t,bl g s=some t->bl st.g s=some t)/\∀d ob,bl m d=some ob->bl st.m d=some ob:=by
   cases x with
   | keep gs T=>
    simp[Go.VE.ghost]at h1;split at h1
    next g m hg G=>simp  at h1;subst h1;exact⟨g,m,rfl,λs t z=>pQ hg z,λd ob hd=>pQ G hd⟩
    grind
   | drop ds=>
    simp[Go.VE.ghost]at h1;subst h1;exact⟨_,st.m,rfl,λs t z=>nY z,λ_ _ h=>h⟩
   | _=>simp[zb]at w
  obtain⟨g,m,rfl,I,u⟩:=key;obtain⟨J,L,O,Q,S⟩:=B (r.less   I u) w.2 D;exact⟨J,(Ev.less   u).trans L,O,Fix.trans  (st':={ st with g:=g,m:=m }) ⟨λd _ ob h=>⟨ob,u d ob h,rfl,.refl _⟩,rfl,rfl,rfl⟩ Q,λd ob h=>u d ob (S d ob h)⟩
theorem Fix.od:∀{l:a_ Gh} {ν:Nu} {Z:Nat->Prop} {st st':St},R ν Z st F H->Yc S J st.more st.yid->J st.want (eF ν st.m) Z H->od l st=some st'->∃ν' Z',R ν' Z' st' F H/\J st'.want (eF ν' st'.m) Z' H/\Fix ν st ν' st'
 | [],ν,Z,st,st',r,y,j,h=>by simp[Go.VE.od]at h;subst h;exact⟨ν,Z,r,j,.refl⟩
 | x::l,ν,Z,st,st',r,y,j,h=>by
  obtain⟨u,h1,B⟩:=ζg.1 h;obtain⟨C,D,r1,t,f1⟩:=Fix.ghost r y j h1;obtain⟨ν2,Z2,r2,w,z⟩:=Fix.od r1 (by rw[f1.more,f1.yid];omega) t B
  exact⟨ν2,Z2,r2,w,f1.trans z⟩
theorem Qn (gd:Good X S) (O:iH S c) {ops:a_ Oper} {fr:a_ Nat} {i:Nat} {o:Oper} {ro:RO} {u:St} (h1:lZ X false ops i o=some ro) (y:Yc S J st.more st.yid) (r:R ν Z st F H) (j:J st.want (eF ν st.m) Z H) (D:fH S c false fr ro st=some u) :
 ∃n F' H' ν' Z',(∀k,n<=k->fZ S.E (run S.E k) X.nt ops none o F H=some (F',H'))/\R ν' Z' u F' H'/\J u.want (eF ν' u.m) Z' H'/\Fix ν st ν' u:=by
 by_cases I:wanted st.g ro.gd=some true
 .cases B:gj S.N st.g ro with
  | none=>
   obtain⟨n,F',H',ν',Z',e1,e2,e3,e4,e5,e6⟩:=JF gd O (place:=none) rfl (λb j h=>by cases h) (λb j h=>by cases h) h1 (λb j h=>by cases h) (λb j h=>by cases h) r (.inl B) D
   exact⟨n,F',H',ν',Z',e1,e2,(e3.weak (λid ⟨b,j,h,_⟩=>by cases h)).beside y e5 j,e6⟩
  | some p=>
   obtain⟨id,T⟩:=p;obtain⟨n,F',H',e1,e2,e3,e4⟩:=QD gd y h1 r j B I D;exact⟨n,F',H',ν,Z,e1,e2,e3,e4⟩
 have t:fH S c false fr ro st=some u:=D;have L:gj S.N st.g { ro with az:=[] }=none:=by
  unfold gj;simp[bV]
 obtain⟨n,F',H',ν',Z',e1,e2,e3,e4,e5,e6⟩:∃n F' H' ν' Z',(∀k,n<=k->fZ S.E (run S.E k) X.nt ops none o F H=some (F',H'))/\R ν' Z' u F' H'/\Ev (λ_=>False) ν Z st H ν' Z' u H'/\True/\u.want=st.want/\Fix ν st ν' u:=by
  unfold fH at t;split at t
  next w=>exact absurd w I
  .rename_i w;simp only[ζa]at t;subst t;unfold lZ at h1;simp only[Bool.false_and,Bool.false_eq_true,if_false,Bool.not_false,Bool.and_true]at h1;split at h1
   .rename_i C;split at h1
    .rename_i g k os hg hr;split at h1
     .obtain⟨az,U,rfl⟩:=ζf.1 h1;have G:=vf r.slot hg w;obtain⟨F',f1,Q⟩:=AE r C (.v V.undef V.undef (.same _ rfl));obtain⟨p1,p2,p3,p4,p5⟩:=CM st o.dst (.v .undef);refine⟨0,F',H,ν,Z,λk _=>?_,Q,?_,trivial,p2,⟨λd hd=>by rw[p1];exact λz h=>⟨z,h,rfl,.refl _⟩,p3,p4,p5⟩⟩
      .unfold fZ;simp only[G,Bool.false_eq_true,if_false,f1,Option.map_some]
      exact⟨Nat.le_refl _,λ_ _ _ _ _=>rfl,λ_ h=>⟨h,rfl⟩,λ_ h=>.inl (by rw[p1]at h;exact h),λ_ h=>.inl h,λd hd=>by rw[p1];exact λz h=>⟨z,h,rfl,.refl _⟩,p3⟩
     simp at h1
    simp at h1
   simp at h1
  simp at t
 exact⟨n,F',H',ν',Z',e1,e2,e3.beside y e5 j,e6⟩
theorem M6 (gd:Good X S) (T:iH S c) {ops:a_ Oper} {fr:a_ Nat}:∀(rest:a_ Oper) {i:Nat} {u:a_ RO} {ν:Nu} {Z:Nat->Prop} {st st':St} {F:Frame} {H:bn},kF X false ops i rest=some (u.map RO.strip)->mM S c false fr u st=some st' ->
 Yc S J st.more st.yid->R ν Z st F H->J st.want (eF ν st.m) Z H ->
 ∃n F' H' ν' Z',(∀k,n<=k->lQ S.E (run S.E k) X.nt ops rest F H=some (F',H'))/\R ν' Z' st' F' H'/\J st'.want (eF ν' st'.m) Z' H'/\Fix ν st ν' st'
 | [],i,u,ν,Z,st,st',F,H,hc,h,y,r,j=>by
  simp only[kF,ζa]at hc;have  := List.map_eq_nil_iff.1 hc.symm;subst this;simp[mM]at h;subst h;exact⟨0,F,H,ν,Z,λ_ _=>rfl,r,j,.refl⟩
 | o::rest,i,u,ν,Z,st,st',F,H,hc,h,y,r,j=>by
  simp[kF]at hc;split at hc
  .rename_i Q rs h1 U;obtain⟨t,w,rfl,B,C⟩:∃t w,u=t::w/\Q=t.strip/\rs=w.map RO.strip:=by
    cases u with
    | nil=>simp_all
    | cons a b=>grind
   subst C;simp[mM,<-B]at h;split at h
   .rename_i z D;obtain⟨W,G,D⟩:=ζg.1 D;obtain⟨νg,Zg,rg,Y,I⟩:=Fix.od r y j G;obtain⟨n1,F1,H1,ν1,Z1,a1,a2,a3,L⟩:=Qn gd T h1 (by rw[I.more,I.yid];omega) rg Y D
    have O:=I.trans L;obtain⟨n2,F2,H2,ν2,Z2,b1,b2,b3,b4⟩:=M6 gd T rest U h (by show Yc S J z.more z.yid;rw[O.more,O.yid];omega) (R.yG a2 t.dead) a3
    refine⟨max n1 n2,F2,H2,ν2,Z2,λk hk=>?_,b2,b3,O.trans (Fix.yG b4)⟩
    simp[lQ,a1 k (Nat.le_trans (Nat.le_max_left _ _) hk),b1 k (Nat.le_trans (Nat.le_max_right _ _) hk)]
   grind
  grind
theorem Old.next {b:Nat} {fr:a_ Nat} {o:RO} (h:Old b fr ν Z m) (hk:Kept (yM o) ν m ν' m'):Old b (qy fr o) ν' Z m':=by
 refine⟨λd ob j hd B t=>?_,h.2⟩
 have u:d∉fr:=λI=>t (by
  unfold qy
  grind)
 have w:yM o≠some d:=λe=>t (by unfold qy;grind)
 obtain⟨z,h1,-,-,C⟩:=hk d ob w hd;obtain⟨D,G⟩:=C j B;rw[G];exact h.1 d z j h1 D u
theorem D7 (r:R ν Z st F H) {id:Nat} (h:eF ν st.m id):H[id]? ≠ some .free:=by
 obtain⟨d,ob,j,h1,t,rfl⟩:=h;exact(r.obj d ob h1).free t
theorem K5 (r:R ν Z st F H) {id:Nat} (h:Z id):H[id]? ≠ some .free:=λe=>by
 have:=r.zrow id h;unfold bq at this;rw[e]at this;simp[Ob.rows]at this
theorem Ev.yG {ds:a_ Nat} (e:Ev Rv ν Z (oP ds st) H ν' Z' st' H'):Ev Rv ν Z st H ν' Z' st' H':=⟨e.len,e.same,e.rows,e.own,e.frz,e.pin,e.pins⟩
theorem Ml (gd:Good X S) (hS:iH S c) {ops:a_ Oper} {b k:Nat} (D:qY ops=true->k=ops.length):∀(len:Nat) {i:Nat} {u:a_ RO} {fr:a_ Nat} {ν:Nu} {Z:Nat->Prop} {st st':St} {F:Frame} {H:bn},
 i+len=ops.length->kF X true ops i (ops.drop i)=some (u.map RO.strip)->mM S c true fr u st=some st'->R ν Z st F H->b<=H.length->Old b fr ν Z st.m->(∀j,i<=j->j<k->H[b+j]? = some .free) ->
 ∃n F' H' ν',(∀q,n<=q->jE S.E (run S.E q) X.nt ops b (List.range' i len) F H=some (F',H'))/\R ν' Z st' F' H'/\Ev (λid=>b<=id) ν Z st H ν' Z st' H'/\st'.want=st.want/\Fix ν st ν' st'
 | 0,i,u,fr,ν,Z,st,st',F,H,hl,hc,h,r,hb,G,hf=>by
  rw[List.drop_of_length_le Za]at hc
  simp only[kF,ζa]at hc;have:u=[]:=List.map_eq_nil_iff.1 hc.symm;subst this;simp[mM]at h;subst h;exact⟨0,F,H,ν,λ_ _=>rfl,r,.refl,rfl,.refl⟩
 | len+1,i,u,fr,ν,Z,st,st',F,H,hl,hc,h,r,hb,G,hf=>by
  have hi:i<ops.length:=by omega
  have hg  := ζd hi;rw[List.drop_eq_getElem_cons hi]at hc;simp[kF]at hc;split at hc
  .rename_i ro rs h1 h2;obtain⟨t,w,rfl,O,Q⟩:∃t w,u=t::w/\ro=t.strip/\rs=w.map RO.strip:=by
    cases u with
    | nil=>simp_all
    | cons a b=>grind
   subst Q;simp only[mM,<-O]at h;split at h
   .rename_i aa T;obtain⟨U,z,T⟩:=ζg.1 T;simp only[BX,if_true]at z;split at z
    rotate_left
    .simp_all
    rename_i J;obtain⟨rg,eg,wg,fg,sg⟩:=Fix.quiet r J z;have G:Old b fr ν Z U.m:=⟨λd ob j hd=>G.1 d ob j (sg d ob hd),G.2⟩
    obtain⟨n1,F1,H1,ν1,Z1,a1,a2,a3,a4,a5,a6⟩:=JF gd hS (place:=some (b,i))  rfl (λL j e=>by grind) (λL j e=>by grind) h1 (λL j e=>by grind) (λL j e ab=>by
     have:qY ops=true:=by
      unfold qY
      grind
     grind) rg (.inr rfl) T
    obtain⟨rfl,B⟩:=a4 rfl;have I  := a3.weak λid ⟨L,j,e,h⟩=>by cases e;omega
    obtain⟨n2,F2,H2,ν2,b1,b2,b3,b4,b5⟩:=Ml gd hS D len Za h2 h (R.yG a2 t.dead) (Nat.le_trans hb a3.len) (G.next B) (λj ad W=>by
     have C:=hf j Za W
     have Y:=(ζe.1 C).1;rw[I.same (b+j) Y (λh=>D7 rg h C) (λh=>K5 rg h C) Za]
     omega)
    refine⟨max n1 n2,F2,H2,ν2,λq J=>?_,b2,eg.trans ((I.weak λid e=>by omega).trans (Ev.yG b3)),by rw[b4,<-wg];exact a5,fg.trans (a6.trans (Fix.yG b5))⟩
    simp[List.range'_succ,jE,hg,a1 q (Nat.le_trans (Nat.le_max_left _ _) J),b1 q (Nat.le_trans (Nat.le_max_right _ _) J)]
   grind
  grind
end
end Go.VE
namespace Go.VE
variable [bO]
def bK (X:CX):Bool->Code->bf RC
 | _,.skip=>some .skip
 | _,.label _=>some .skip
 | _,.region _ ops u=>
  if u then(if vM ops.toList&&Al ops.toList then(kF X true ops.toList 0 ops.toList).map .sV else none)
  else(kF X false ops.toList 0 ops.toList).map .ops
 | ro,.seq a b=>match bK X ro a,bK X ro b with
  | some a,some b=>some (.seq a b)
  | _,_=>none
 | ro,.cond c a b=>match oG X.nm c,bK X ro a,bK X ro b with
  | some x,some a,some b=>some (.cond x a b)
  | _,_,_=>none
 | ro,.block id c=>(bK X ro c).map (.block id)
 | ro,.loop c=>(bK X ro c).map .loop
 | ro,.rangeFunc g ps B D=>
  if ro || !(ps.toList.all (·<X.nt))then none else
  match oG X.nm g,bK X true B,bK X true D with
  | some x,some a,some b=>some (.each x ps.toList a b)
  | _,_,_=>none
 | _,.exit id=>some (.exit id)
 | _,.ret=>some .ret
 | _,_=>none
def erase:RC->RC
 | .seq a b=>.seq (erase a) (erase b)
 | .cond x a b=>.cond x (erase a) (erase b)
 | .block id c=>.block id (erase c)
 | .loop c=>.loop (erase c)
 | .each g ps a b=>.each g ps (erase a) (erase b)
 | .gh _ c=>erase c
 | .hg c _=>erase c
 | .ops l=>.ops (l.map RO.strip)
 | .sV l=>.sV (l.map RO.strip)
 | c=>c
def iW (step:St->bf (Out×St)):Nat->St->bf (Out×St)
 | 0,_=>none
 | k+1,st=>match step st with
  | some (.norm,st')=>iW step k st'
  | r=>r
open Classical in
def n5 (step:St->bf (Out×St)) (st:St):bf (Out×St):=
 if h:∃k r,iW step k st=some r then some (Classical.choose (Classical.choose_spec h))else none
theorem yw {step:St->bf (Out×St)}:∀{k u:Nat} {st:St} {r:Out×St},k<=u->iW step k st=some r->iW step u st=some r
 | 0,_,_,_,_,h=>by simp[iW]at h
 | k+1,0,_,_,hk,_=>by omega
 | k+1,u+1,st,r,hk,h=>by
  simp only[iW]at h ⊢;split at h
  next st' B=>rw[yw (Nat.le_of_succ_le_succ hk) h]
  exact h
theorem mE {step:St->bf (Out×St)} {st:St} {r:Out×St}:n5 step st=some r↔∃k,iW step k st=some r:=by
 unfold n5;constructor
 .intro h;split at h
  next t=>simp only[ζa]at h;exact⟨_,by rw[<-h];exact Classical.choose_spec (Classical.choose_spec t)⟩
  simp at h
 rintro⟨k,hk⟩;have t:∃k r,iW step k st=some r:=⟨k,r,hk⟩;rw[dif_pos t];have w:=Classical.choose_spec (Classical.choose_spec t);have z:=yw (Nat.le_max_left (Classical.choose t) k) w;have u:=yw (Nat.le_max_right (Classical.choose t) k) hk;rw[z]at u;exact u
def iz (ps:a_ Nat) (A B:St->bf (Out×St)) (st:St) (x:a_ V) (m:Tb bu):bf (Out×Tb bu):=
 if x.length=ps.length then
  match A { g:=wG st.g ps (x.map .v),m:=m,pin:=st.pin++pJ st.g,want:=[],more:=true,yid:=0 } with
  | some (.norm,t)=>(B t).map λ(o,st2)=>(o,st2.m)
  | _=>none
 else none
def qg (step:a_ V->Tb bu->bf (Out×Tb bu)):a_ (a_ V)->Tb bu->bf (Out×Tb bu)
 | [],m=>some (.norm,m)
 | x::xs,m=>match step x m with
  | some (.norm,m')=>qg step xs m'
  | r=>r
def cw (S:Sys) (c:bU):RC->St->bf (Out×St)
 | .skip,st=>some (.norm,st)
 | .ops l,st=>(mM S c false [] l st).map λst=>(.norm,st)
 | .sV l,st=>(mM S c true [] l st).map λst=>(.norm,st)
 | .seq a b,st=>match cw S c a st with
  | some (.norm,st')=>cw S c b st'
  | r=>r
 | .cond x a b,st=>match qj S.N st.g x with
  | some (.v (.bool t))=>if t then cw S c a st else cw S c b st
  | _=>none
 | .block id a,st=>match cw S c a st with
  | some (.exit u,st')=>if u=id then some (.norm,st')else some (.exit u,st')
  | r=>r
 | .loop a,st=>n5 (cw S c a) st
 | .each g ps a b,st=>match qj S.N st.g g with
  | some (.v (.clo f x y))=>match S.items f x y with
   | some xs=>(qg (iz ps (cw S c a) (cw S c b) st) xs st.m).map λ(o,m)=>(o,{ st with m:=m })
   | none=>none
  | _=>none
 | .exit id,st=>some (.exit id,st)
 | .ret,st=>some (.ret,st)
 | .gh x a,st=>(ghost x st).bind (cw S c a)
 | .hg a x,st=>match cw S c a st with
  | some (.norm,st')=>(ghost x st').map λst=>(.norm,st)
  | r=>r
def gI (S:Sys) (f:FuncId) (a b:a_ V) (xs:a_ (a_ V)):Prop:=
 ∀t more,(more=true/\t=xs\/more=false/\t≠[]/\∃r,xs=t++r)->∀yid J,Yc S J more yid->∀Z u w H,c8 H Z a u->c8 H Z b w->(∀i,Z i->(bq H i).isSome=true)->Deep H Z->J t (λ_=>False) Z H ->
  ∃n y H' z Z',(∀k,n<=k->run S.E k (.fn f) (u++.yld yid::w) H=some (y,H'))/\J [] z Z' H'
section
variable {ν ν' ν2:Nu} {Z Z':Nat->Prop} {st st' st2:St} {m m':Tb bu} {F F':Frame} {H H' H1:bn} {S:Sys} {c:bU} {X:CX} {J:JT}
end
inductive wF (step:List V->Tb bu->Option (Out×Tb bu)) (o:Out) (mf:Tb bu):List (List V)->Bool->Tb bu->Prop
 | nil (h:o=.norm):wF step o mf [] true mf
 | next (x:List V) (ws:List (List V)) (more:Bool) (m m1:Tb bu) (h:step x m=some (.norm,m1)) (r:wF step o mf ws more m1):wF step o mf (x::ws) more m
 | last (x:List V) (m:Tb bu) (h:step x m=some (o,mf)) (ho:o≠.norm):wF step o mf [x] false m
theorem Dq {step:a_ V->Tb bu->bf (Out×Tb bu)} {o:Out} {B:Tb bu}:∀{xs:a_ (a_ V)} {m:Tb bu},qg step xs m=some (o,B) ->
 ∃u more,(more=true/\u=xs\/more=false/\u≠[]/\∃r,xs=u++r)/\wF step o B u more m
 | [],m,h=>by
  obtain⟨rfl,rfl⟩:=h;exact⟨[],true,.inl ⟨rfl,rfl⟩,.nil rfl⟩
 | x::xs,m,h=>by
  simp[qg]at h;split at h
  .rename_i m' t;obtain⟨u,more,hc,hr⟩:=Dq h;refine⟨x::u,more,?_,.next x u more m m' t hr⟩
   grind
  refine⟨[x],false,.inr ⟨rfl,by simp,xs,rfl⟩,.last x m h λe=>?_⟩
  simp_all
def uD (O0 Z0:Nat->Prop) (H0:bn):JT:=λw O Z H=>w=[]/\H0.length<=H.length/\(∀i,i<H0.length->¬O0 i->¬Z0 i->H[i]? = H0[i]?)/\(∀i,Z0 i->Z i/\bq H i=bq H0 i) /\
 (∀i,O i->O0 i\/H0.length<=i)/\(∀i,Z i->Z0 i\/O0 i\/H0.length<=i)
section
variable {ν ν' ν2:Nu} {Z Z':Nat->Prop} {st st' st2:St} {m m':Tb bu} {F F':Frame} {H H' H1:bn} {S:Sys} {c:bU} {X:CX} {J:JT} {O0 Z0:Nat->Prop} {H0:bn}
theorem uD.xB {w:a_ (a_ V)} {O Z u Z':Nat->Prop} {H H':bn} (j:uD O0 Z0 H0 w O Z H) (B:H.length<=H'.length) (D:∀i,i<H.length->¬O i->¬Z i->H'[i]? = H[i]?) (hr:∀i,Z i->Z' i/\bq H' i=bq H i)
 (G:∀i,u i->O i\/H.length<=i) (J:∀i,Z' i->Z i\/O i\/H.length<=i):uD O0 Z0 H0 w u Z' H':=by
 obtain⟨t,z,I,C,L,Q⟩:=j;refine⟨t,Nat.le_trans z B,λi h1 S T=>?_,λi h=>⟨(hr i (C i h).1).1,by grind⟩,λi h=>?_,λi h=>?_⟩
 .grind
 .grind
 grind
theorem uD.yc {more:Bool} {yid:Nat}:Yc S (uD O0 Z0 H0) more yid where
 xB:=λ_ _ _ _ _ _ _ j h1 t u w z=>j.xB h1 t u w z
 yield:=λx B O Z H args j=>by obtain⟨h,_⟩:=j;cases h
theorem uD.refl (r:R ν Z st F H):uD (eF ν st.m) Z H [] (eF ν st.m) Z H:=⟨rfl,Nat.le_refl _,λ_ _ _ _=>rfl,λi h=>⟨h,rfl⟩,λi h=>.inl h,λi h=>.inl h⟩
mutual
theorem Ds {d:Nat}:∀{sv:SV},sv.ct d=true->d∈sv.names
 | .v _,h=>by simp[SV.ct]at h
 | .own e,h=>by simp[SV.ct]at h;simp[SV.names,h]
 | .ptr e _,h=>by simp[SV.ct]at h;simp[SV.names,h]
 | .el e _ _,h=>by simp[SV.ct]at h;simp[SV.names,h]
 | .mp e,h=>by simp[SV.ct]at h;simp[SV.names,h]
 | .clo f a b,h=>by
  simp only[SV.ct,Bool.or_eq_true]at h;simp only[SV.names,List.mem_append];exact h.imp qv qv
 | .tup l,h=>by simp only[SV.ct]at h;simp only[SV.names];exact qv h
 | .agg l,h=>by simp only[SV.ct]at h;simp only[SV.names];exact qv h
 | .yl _,h=>by simp[SV.ct]at h
theorem qv {d:Nat}:∀{l:a_ SV},SV.c6 d l=true->d∈SV.vX l
 | [],h=>by simp[SV.c6]at h
 | x::r,h=>by
  simp only[SV.c6,Bool.or_eq_true]at h;simp only[SV.vX,List.mem_append];exact h.imp Ds qv
end
theorem Bi {d:Nat}:∀{g:Tb SV} {s:Nat} {sv:SV},bl g s=some sv->sv.ct d=true->d∈pJ g
 | [],s,sv,h,_=>by simp[bl]at h
 | (k,x)::r,s,sv,h,u=>by
  simp[bl]at h;simp[pJ];split at h
  .simp  at h;subst h;exact .inl (Ds u)
  exact .inr (Bi h u)
theorem R.WC (r:R ν Z st F H) {Z2:Nat->Prop} (h1:∀i,Z2 i->¬eF ν st.m i) (D:∀i,Z2 i->(bq H i).isSome=true) (G:Deep H Z2):R ν (λi=>Z i\/Z2 i) st F H:=by
 have t:∀i,Z i->(Z i\/Z2 i)/\bq H i=bq H i:=λi h=>⟨.inl h,rfl⟩
 have w:∀i,Z2 i->(Z i\/Z2 i)/\bq H i=bq H i:=λi h=>⟨.inr h,rfl⟩
 refine⟨λs I J=>(r.slot s I J).mono t λe _=>iE ν st.m e,λd ob hd=>cM.mono t rfl (λ_ _=>rfl) (λe _=>iE ν st.m e) (r.obj d ob hd),r.inj,λd ob j hd B hh=>?_,λi hi=>?_,⟨λid es C hi hr c hc u hu=>?_⟩⟩
 .rcases hh with hh|hh
  .exact r.apart d ob j hd B hh
  exact h1 _ hh ⟨d,ob,j,hd,B,rfl⟩
 .exact hi.elim (r.zrow i) (D i)
 rcases hi with hi|hi
 .obtain⟨x,z⟩:=r.deep.row id es C hi hr c hc u hu;exact⟨x,z.mono t⟩
 obtain⟨x,z⟩:=G.row id es C hi hr c hc u hu;exact⟨x,z.mono w⟩
theorem R.Ui:∀{ps:a_ Nat} {xs:a_ V} {vs:a_ V} {g:Tb SV} {F:Frame},R ν Z { st with g:=g } F H->c8 H Z xs vs->xs.length=ps.length->R ν Z { st with g:=wG g ps (xs.map .v) } (yd ps vs F) H
 | [],xs,vs,g,F,r,h,u=>by
  have  := List.length_eq_zero_iff.1 u;subst this;exact r
 | p::ps,[],vs,g,F,r,h,u=>by simp_all
 | p::ps,x::xs,vs,g,F,r,h,u=>by
  obtain⟨w,z,rfl,h1,t⟩:=h.inv;exact R.Ui (ps:=ps) (r.put  (.v _ _ h1)) t Zd
def sC (X:CX) (S:Sys) (ro:Bool) (code:Code) (u:St->bf (Out×St)):Prop:=
 ∀st o st',u st=some (o,st')->∀(J:JT) ν Z F H,Yc S J st.more st.yid->R ν Z st F H->J st.want (eF ν st.m) Z H ->
  ∃n F' H' ν' Z',(∀k,n<=k->exec S.E (run S.E k) k ro X.nt code F H=some (o,F',H'))/\R ν' Z' st' F' H'/\J st'.want (eF ν' st'.m) Z' H'/\Fix ν st ν' st'
def Rk (st:St) (m:Tb bu):St:={ g:=st.g,m:=m,pin:=st.pin++pJ st.g,want:=[],more:=true,yid:=0 }
def JI (X:CX) (st:St) (F:Frame) (ν:Nu) (O0 Z0:Nat->Prop) (H0:bn) (u:Nat) (ps:a_ Nat) (G J:Code) (step:a_ V->Tb bu->bf (Out×Tb bu)) (o:Out) (D:Tb bu) (more:Bool):JT:=λw O Z H=>
 ∃m z C t,R z C (Rk st m) F H/\uD O0 Z0 H0 [] (eF z m) C H/\(∀i,O i->¬eF z m i/\¬C i/\i≠u/\H0.length<=i)/\(∀i,Z i->¬eF z m i/\i≠u/\(Z0 i\/H0.length<=i)) /\
  ¬eF z m u/\¬C u/\H0.length<=u/\H[u]? = some (.loop t)/\(t.frame=F/\t.nt=X.nt/\t.params=ps/\t.assign=G/\t.body=J) /\
  (∀d∈st.pin++pJ st.g,∀B,bl m d=some B->∃ob,bl st.m d=some ob/\z d=ν d/\sameShape ob B) /\
  ((wF step o D w more m/\t.st=.ready/\t.pend=none)\/(w=[]/\m=D/\t.st=.done/\t.pend=some o))
theorem JI.xB {w:a_ (a_ V)} {O Z G Z':Nat->Prop} {H H':bn} {u:Nat} {ps:a_ Nat} {J T:Code} {step:a_ V->Tb bu->bf (Out×Tb bu)} {o:Out} {U:Tb bu} {more:Bool}
 (j:JI X st F ν O0 Z0 H0 u ps J T step o U more w O Z H) (W:H.length<=H'.length) (B:∀i,i<H.length->¬O i->¬Z i->H'[i]? = H[i]?) (hr:∀i,Z i->Z' i/\bq H' i=bq H i)
 (Y:∀i,G i->O i\/H.length<=i) (hz:∀i,Z' i->Z i\/O i\/H.length<=i):JI X st F ν O0 Z0 H0 u ps J T step o U more w G Z' H':=by
 obtain⟨m,S,I,lr,r,ej,d1,d2,l1,l2,l3,l4,l5,l6,l7⟩:=j;have z  := λi t=>B i (r.lt  t) (λh=>(d1 i h).1 t) (λh=>(d2 i h).1 t)
 have C:∀i,I i->bq H' i=bq H i:=λi t=>by
  by_cases D:Z i
  .grind
  unfold bq;rw[B i (r.uC t) (λh=>(d1 i h).2.1 t) D]
 have aa  := (ζe.1 l4).1;refine⟨m,S,I,lr,r.heap z C,?_,λi h=>?_,λi h=>?_,l1,l2,l3,?_,l5,l6,l7⟩
 .obtain⟨j1,L,j3,j4,j5,j6⟩:=ej;refine⟨j1,Nat.le_trans L W,λi h1 h2 Q=>?_,λi h=>⟨(j4 i h).1,by grind⟩,j5,j6⟩
  rw[B i (Nat.lt_of_lt_of_le h1 L) (λh=>by have:=(d1 i h).2.2.2;omega) (λh=>by rcases (d2 i h).2.2 with h|h;exact Q h;omega),j3 i h1 h2 Q]
 .rcases Y i h with h|h
  .exact d1 i h
  exact⟨λt=>absurd (r.lt  t) Za,λt=>absurd (r.uC t) Za,by omega,by omega⟩
 .rcases hz i h with h|h|h
  .exact d2 i h
  .exact⟨(d1 i h).1,(d1 i h).2.2.1,.inr (d1 i h).2.2.2⟩
  exact⟨λt=>absurd (r.lt  t) Za,by omega,.inr Za⟩
 grind
theorem JI.yield (S:Sys) {A B:St->bf (Out×St)} {aw bw:Code} (hA:sC X S true aw A) (hB:sC X S true bw B) {u:Nat} {ps:a_ Nat} (ax:ps.all (·<X.nt)=true) {o:Out} {mf:Tb bu} {more:Bool}
 {x:a_ V} {ws:a_ (a_ V)} {O Z:Nat->Prop} {H:bn} {args:a_ V} (j:JI X st F ν O0 Z0 H0 u ps aw bw (iz ps A B st) o mf more (x::ws) O Z H)
 (hx:c8 H Z x args) (an:∀i,Z i->(bq H i).isSome=true) (ay:Deep H Z) (aA:∀i,O i->¬Z i/\i<H.length) :
 ∃n H',run S.E n (.yld u) args H=some (.bool (more || !ws.isEmpty),H')/\JI X st F ν O0 Z0 H0 u ps aw bw (iz ps A B st) o mf more ws O Z H'/\H.length<=H'.length/\(∀i,O i->H'[i]? = H[i]?)/\(∀i,Z i->bq H' i=bq H i):=by
 obtain⟨m,νb,Zb,lr,r,ej,d1,d2,l1,l2,l3,l4,⟨q1,q2,q3,q4,q5⟩,l6,l7⟩:=j;have aB:wF (iz ps A B st) o mf (x::ws) more m/\lr.st=.ready/\lr.pend=none:=by
  grind
 obtain⟨hE,T,aC⟩:=aB;have U:∃oo m1,iz ps A B st x m=some (oo,m1)/\(oo=.norm/\wF (iz ps A B st) o mf ws more m1/\(more || !ws.isEmpty)=true\/oo≠.norm/\oo=o/\m1=mf/\ws=[]/\more=false):=by
  cases hE with
  | next _ _ _ _ m1 h hr=>
   refine⟨.norm,m1,h,.inl ⟨rfl,hr,?_⟩⟩;cases hr <;> simp
  | last _ _ h ho=>grind
 obtain⟨oo,m1,z,ab⟩:=U;unfold iz at z;split at z
 .rename_i ad;split at z
  .rename_i ah aD;obtain⟨⟨C,st2⟩,aE,e⟩:=ζf.1 z;simp  at e;obtain⟨rfl,rfl⟩:=e;have aF  := (ζe.1 l4).1;have r1  := r.WC (λi t=>(d2 i t).1) an ay
   have aG:c8 H (λi=>Zb i\/Z i) x args:=hx.mono λi t=>⟨.inr t,rfl⟩
   have r2:=R.Ui (st:=Rk st m) r1 aG ad;obtain⟨nA,F2,H2,ν2,Z2,a1,a2,a3,a4⟩:=hA _ _ _ aD (uD (eF νb m) (λi=>Zb i\/Z i) H) νb _ _ H uD.yc r2 (uD.refl  r1)
   obtain⟨b1,b2,b3,b4,b5,b6⟩:=a3;have ai:¬(Zb u\/Z u):=λh=>h.elim l2 λh=>(d2 u h).2.1 rfl
   have ao:H2[u]? = some (.loop lr):=by rw[b3 u aF l1 ai];omega
   have ae:u<H2.length:=by omega
   have W:¬eF ν2 ah.m u:=λh=>(b5 u h).elim l1 λh=>by omega
   have aj:¬Z2 u:=λh=>by rcases b6 u h with h|h|h;exact ai h;exact l1 h;omega
   have w:∀(ob:Ob) (Hh:bn) (i:Nat),i≠u->(Hh.set u ob)[i]? = Hh[i]? := λob Hh i Y=>by rw[List.getElem?_set,if_neg (Ne.symm Y)]
   have r3:R ν2 Z2 ah F2 (H2.set u (.loop { lr with st:=.busy })):=a2.heap (λi t=>w _ _ i λe=>W (e▸t)) (λi t=>by unfold bq;rw[w _ _ i λe=>aj (e▸t)])
   obtain⟨nB,F4,H4,ν4,Z4,c1,c2,c3,c4⟩:=hB _ _ _ aE (uD (eF ν2 ah.m) Z2 (H2.set u (.loop { lr with st:=.busy }))) ν2 Z2 F2 _ uD.yc r3 (by
    rw[b1];exact uD.refl r3)
   obtain⟨_,g2,g3,g4,g5,g6⟩:=c3;simp  at g2 g3 g5 g6;have ap:H4[u]? = some (.loop { lr with st:=.busy }):=by rw[g3 u ae W aj,List.getElem?_set_self ae]
   have aq:u<H4.length:=by omega
   have ar  := λh=>(g5 u h).elim W λh=>by omega
   have au:¬Z4 u:=λh=>by rcases g6 u h with h|h|h;exact aj h;exact W h;omega
   generalize aa:({ lr with st:=(if C==.norm then Bk.ready else Bk.done),pend:=(if C==.norm then none else some C) }:vC)=G;have r5:R ν4 Z4 st2 F4 (H4.set u (.loop G)):=c2.heap (λi t=>w _ _ i λe=>ar (e▸t)) (λi t=>by unfold bq;rw[w _ _ i λe=>au (e▸t)])
   have L:H.length<=(H4.set u (.loop G)).length:=by simp ;omega
   have ak:∀i,i<H.length->i≠u->¬eF νb m i->¬(Zb i\/Z i)->(H4.set u (.loop G))[i]? = H[i]? := λi h1 J I h4=>by
    rw[w _ _ i J,g3 i Za (λh=>(b5 i h).elim I λh=>by omega) (λh=>by rcases b6 i h with h|h|h;exact h4 h;exact I h;omega),w _ _ i J,b3 i h1 I h4]
   have D:∀i,(Zb i\/Z i)->Z4 i/\bq (H4.set u (.loop G)) i=bq H i:=λi t=>by
    have Y:i≠u:=λe=>ai (e▸t)
    obtain⟨t1,t2⟩:=b4 i t;obtain⟨t3,t4⟩:=g4 i t1;refine⟨t3,?_⟩;rw[<-t2];have:bq (H2.set u (.loop { lr with st:=.busy })) i=bq H2 i:=by unfold bq;rw[w _ _ i Y]
    rw[<-this,<-t4];unfold bq;rw[w _ _ i Y]
   have Q:∀i,eF ν4 st2.m i->eF νb m i\/H.length<=i:=λi t=>by
    rcases g5 i t with h|h
    .exact b5 i h
    exact .inr Za
   have af:∀i,Z4 i->(Zb i\/Z i)\/eF νb m i\/H.length<=i:=λi t=>by
    rcases g6 i t with h|h|h
    .exact b6 i h
    .rcases b5 i h with h|h
     .exact .inr (.inl h)
     exact .inr (.inr h)
    exact .inr (.inr Za)
   have fx:=a4.trans c4;have r6:R ν4 Z4 (Rk st st2.m) F (H4.set u (.loop G)):=⟨λs sv hs=>(r.slot s sv hs).mono (λi t=>D i (.inl t)) λd hd al am=>fx.pin d (List.mem_append_right _ (Bi hs hd)) al am,r5.obj,r5.inj,r5.apart,r5.zrow,r5.deep⟩
   have av:run S.E (max nA nB+1) (.yld u) args H=some (.bool (C==.norm),H4.set u (.loop G)):=by
    simp only[run,iR,l4];rw[if_pos (by rw[q3];exact⟨by rw[<-hx.1];exact ad,by rw[q2];exact ax⟩)]
    rw[q1,q2,q3,q4,q5];rw[a1 _ (Nat.le_max_left _ _)];simp only[ao,T];rw[c1 _ (Nat.le_max_right _ _)];simp only[ap];rw[<-aa]
   refine⟨max nA nB+1,H4.set u (.loop G),?_,⟨st2.m,ν4,Z4,G,r6,?_,λi t=>?_,λi t=>?_,ar,au,l3,?_,?_,λd hd al am=>?_,?_⟩,L,λi t=>?_,λi t=>(D i (.inr t)).2⟩
   .rw[av];rcases ab with⟨h1,_,I⟩|⟨h1,_,_,h4,h5⟩
    .rw[h1,I];rfl
    rw[h4,h5]
    cases aH:C with
    | norm=>exact absurd aH h1
    | _=>rfl
   .obtain⟨j1,j2,j3,j4,j5,j6⟩:=ej;refine⟨rfl,Nat.le_trans j2 L,λi h1 J I=>?_,λi h=>⟨(D i (.inl (j4 i h).1)).1,by rw[(D i (.inl (j4 i h).1)).2,(j4 i h).2]⟩,λi h=>?_,λi h=>?_⟩
    .rw[ak i Za Za (λh=>by rcases j5 i h with h|h;exact J h;omega) (λh=>by
      rcases h with h|h
      .rcases j6 i h with h|h|h;exact I h;exact J h;omega
      rcases (d2 i h).2.2 with h|h;exact I h;omega),j3 i h1 J I]
    .rcases Q i h with h|h
     .exact j5 i h
     exact .inr Za
    rcases af i h with (h|h)|h|h
    .exact j6 i h
    .rcases (d2 i h).2.2 with h|h;exact .inl h;exact .inr (.inr h)
    .rcases j5 i h with h|h;exact .inr (.inl h);exact .inr (.inr h)
    exact .inr (.inr Za)
   .obtain⟨t1,t2⟩:=aA i t;obtain⟨t3,t4,t5,t6⟩:=d1 i t;refine⟨λh=>(Q i h).elim t3 λh=>by omega,λh=>?_,t5,t6⟩
    rcases af i h with (h|h)|h|h
    .exact t4 h
    .exact t1 h
    .exact t3 h
    omega
   .obtain⟨t1,t2,t3⟩:=d2 i t;have aJ:i<H.length:=by
     have:=an i t;unfold bq at this
     cases hh:H[i]? with
     | none=>rw[hh]at this;simp at this
     | some _=>exact(ζe.1 hh).1
    exact⟨λh=>(Q i h).elim t1 λh=>by omega,t2,t3⟩
   .rw[List.getElem?_set_self aq]
   .subst aa;exact⟨q1,q2,q3,q4,q5⟩
   .obtain⟨aI,h1,J,I⟩:=fx.pin d hd al am;obtain⟨ob,k1,k2,k3⟩:=l6 d hd aI h1;exact⟨ob,k1,by rw[J,k2],k3.trans I⟩
   .rcases ab with⟨h1,J,I⟩|⟨h1,J,I,h4,h5⟩
    .left;subst h1;subst aa;exact⟨J,rfl,rfl⟩
    right;subst aa;have hb:¬(C==Out.norm)=true:=by simpa using h1
    refine⟨h4,I,?_,?_⟩
    .show (if(C==Out.norm)=true then Bk.ready else Bk.done)=Bk.done;rw[if_neg hb]
    show (if(C==Out.norm)=true then none else some C)=some o;rw[if_neg hb,J]
   grind
  grind
 grind
end
section
variable {ν ν' ν2:Nu} {Z Z':Nat->Prop} {st st' st2:St} {m m':Tb bu} {F F':Frame} {H H' H1:bn} {S:Sys} {c:bU} {X:CX} {J:JT}
theorem MJ (gd:Good X S) (G:iH S c) {ro:Bool} {id:Nat} {ops:Array Oper} {l:a_ RO} (hc:kF X true ops.toList 0 ops.toList=some (l.map RO.strip)) (hd:(vM ops.toList&&Al ops.toList)=true) :
 sC X S ro (.region id ops true) (λst=>(mM S c true [] l st).map λst=>(.norm,st)):=by
 intro st o st' h J ν Z F H y r j;obtain⟨I,h1,e⟩:=ζf.1 h;simp only[ζc]at e;obtain⟨rfl,rfl⟩:=e;generalize w:(if qY ops.toList then H++List.replicate ops.toList.length .free else H)=H0;generalize hk:(if qY ops.toList then ops.toList.length else 0)=k;have u:∀i,i<H.length->H0[i]? = H[i]? := λi t=>by
  rw[<-w];split
  .exact List.getElem?_append_left t
  rfl
 have z:H.length<=H0.length:=by rw[<-w];split <;> simp
 have L:R ν Z st F H0:=r.heap (λi t=>u i (r.lt t)) (λi t=>by unfold bq;rw[u i (r.uC t)])
 have B:∀q,0<=q->q<k->H0[H.length+q]? = some .free:=λq _ C=>by
  rw[<-hk]at C;split at C
  .rename_i D;rw[<-w,if_pos D,List.getElem?_append_right Za]
   simp only[Nat.add_sub_cancel_left];rw[List.getElem?_replicate,if_pos C]
  omega
 obtain⟨n,F',H',ν',e1,e2,e3,e4,e5⟩:=Ml gd G (ops:=ops.toList) (b:=H.length) (k:=k) (λD=>by rw[<-hk,if_pos D]) ops.toList.length (i:=0) (fr:=[]) Za (by simpa using hc) h1 L z
  ⟨λd ob j hd O _=>r.lt ⟨d,ob,j,hd,O,rfl⟩,λi t=>r.uC t⟩ B
 refine⟨n,F',H',ν',Z,λq C=>?_,e2,?_,e5⟩
 .simp only[exec,jf,if_true,hd,ζf,ζc,true_and];refine⟨(F',H'),?_,rfl,rfl⟩;rw[w];have:=e1 q C;rw[List.range_eq_range'];exact this
 rw[e4];refine y.xB _ _ _ _ _ _ _ j (Nat.le_trans z e3.len) (λi h1 Q T=>by rw[e3.same i Za Q T Za,u i h1]) (λi t=>⟨t,by rw[(e3.rows i t).2];unfold bq;rw[u i (r.uC t)]⟩) (λi t=>?_) (λi t=>.inl t)
 rcases e3.own i t with h|h|h
 .exact .inl h
 .exact .inr h
 exact .inr Za
theorem Ss {ro:Bool} {code:Code} {f:St->bf (Out×St)} (T:sC X S ro code f):sC X S ro (.loop code) (n5 f):=by
 intro st o st' h J ν Z F H y r j;obtain⟨k,hk⟩:=mE.1 h;have key:∀k st ν Z F H,iW f k st=some (o,st')->Yc S J st.more st.yid->R ν Z st F H->J st.want (eF ν st.m) Z H ->
  ∃n F' H' ν' Z',(∀q,n<=q->∀lf,k<=lf->j_ (exec S.E (run S.E q) q ro X.nt code) lf F H=some (o,F',H'))/\R ν' Z' st' F' H'/\J st'.want (eF ν' st'.m) Z' H'/\Fix ν st ν' st':=by
  intro k
  induction k with
  | zero=>intro st ν Z F H h;simp[iW]at h
  | succ k Q=>
   intro st ν Z F H h y r j;simp only[iW]at h;split at h
   .rename_i u z;obtain⟨B,F1,H1,C,D,G,I,L,w⟩:=T st .norm u z J ν Z F H y r j;obtain⟨U,W,H2,ν2,Z2,Y,b2,b3,b4⟩:=Q u C D F1 H1 h (by rw[w.more,w.yid];exact y) I L
    refine⟨max B U,W,H2,ν2,Z2,λq t lf O=>?_,b2,b3,w.trans b4⟩
    cases lf with
    | zero=>omega
    | succ lf=>
     simp only[j_,G q (Nat.le_trans (Nat.le_max_left _ _) t)];exact Y q (Nat.le_trans (Nat.le_max_right _ _) t) lf Za
   rename_i z;obtain⟨B,F1,H1,C,D,G,I,L,w⟩:=T st o st' h J ν Z F H y r j;have ho:o≠.norm:=λe=>by subst e;exact z st' h
   refine⟨B,F1,H1,C,D,λq t lf O=>?_,I,L,w⟩
   cases lf with
   | zero=>omega
   | succ lf=>
    simp only[j_,G q t];cases o <;> first|exact absurd rfl ho|rfl
 obtain⟨n,F',H',ν',Z',e1,e2,e3,e4⟩:=key k st ν Z F H hk y r j;refine⟨max n k,F',H',ν',Z',λq t=>?_,e2,e3,e4⟩
 simp only[exec];exact e1 q (Nat.le_trans (Nat.le_max_left _ _) t) q (Nat.le_trans (Nat.le_max_right _ _) t)
theorem Tn (gd:Good X S) (hI:∀f a b xs,S.items f a b=some xs->gI S f a b xs) {g:Operand} {ps:Array Tmp} {U W:Code} {x:Arg} {A B:St->bf (Out×St)}
 (ab:ps.toList.all (·<X.nt)=true) (hx:oG X.nm g=some x) (hA:sC X S true U A) (hB:sC X S true W B) :
 sC X S false (.rangeFunc g ps U W) (λst=>match qj S.N st.g x with
 | some (.v (.clo f x y))=>match S.items f x y with
  | some xs=>(qg (iz ps.toList A B st) xs st.m).map λ(o,m)=>(o,{ st with m:=m })
  | none=>none
 | _=>none):=by
 intro st o st' h J ν Z F H y r j;dsimp only at h;split at h
 .rename_i f a b ad;split at h
  .rename_i xs ae;obtain⟨⟨oo,mf⟩,hE,e⟩:=ζf.1 h;simp only[ζc]at e;obtain⟨rfl,rfl⟩:=e;obtain⟨yv,hy,ry⟩:=DR gd.N r.slot hx ad;obtain⟨a',b',rfl,ra,rb⟩:=ry.fr.jU;obtain⟨ws,more,Q,hR⟩:=Dq hE;generalize I:(⟨.ready,none,F,X.nt,ps.toList,U,W⟩:vC)=u;have z:∀i,i<H.length->(H++[Ob.loop u])[i]? = H[i]? := λi t=>List.getElem?_append_left t
   have C:∀i,Z i->bq (H++[Ob.loop u]) i=bq H i:=λi t=>by unfold bq;rw[z i (r.uC t)]
   have r0:R ν Z (Rk st st.m) F (H++[Ob.loop u]):=by
    have:=r.heap (H':=H++[Ob.loop u]) (λi t=>z i (r.lt t)) C
    exact⟨this.slot,this.obj,this.inj,this.apart,this.zrow,this.deep⟩
   have D:∀i,Z i->Z i/\bq (H++[Ob.loop u]) i=bq H i:=λi t=>⟨t,C i t⟩
   have j0:JI X st F ν (eF ν st.m) Z H H.length ps.toList U W (iz ps.toList A B st) oo mf more ws (λ_=>False) Z (H++[Ob.loop u]):=by
    refine⟨st.m,ν,Z,u,r0,⟨rfl,by simp,λi h1 _ _=>z i h1,λi t=>⟨t,C i t⟩,λi t=>.inl t,λi t=>.inl t⟩,λi t=>t.elim,λi t=>⟨λho=>?_,Nat.ne_of_lt (r.uC t),.inl t⟩,λho=>absurd (r.lt ho) Zc,λhz=>absurd (r.uC hz) Zc,Nat.le_refl _,by simp,?_,λd _ af h=>⟨af,h,rfl,.refl _⟩,.inl ⟨hR,?_,?_⟩⟩
    .obtain⟨d,ob,j,g1,g2,rfl⟩:=ho;exact r.apart d ob j g1 g2 t
    .subst I;exact⟨rfl,rfl,rfl,rfl,rfl⟩
    .subst I;rfl
    subst I;rfl
   have ah:Yc S (JI X st F ν (eF ν st.m) Z H H.length ps.toList U W (iz ps.toList A B st) oo mf more) more H.length:=
    ⟨λw O Z1 H1 O' Z' H' jj h1 Y h3 h4 h5=>JI.xB jj h1 Y h3 h4 h5,λx1 aj O Z1 H1 args jj h1 Y h3 h4=>JI.yield S hA hB ab jj h1 Y h3 h4⟩
   obtain⟨n,yy,H',O',Z',e1,e2⟩:=hI f a b xs ae ws more Q H.length _ ah Z a' b' (H++[Ob.loop u]) (ra.mono D) (rb.mono D) (λi t=>by rw[C i t];exact r.zrow i t) (r.deep.mono C) j0
   obtain⟨m1,νb,Zb,lr,r1,⟨_,k2,k3,k4,k5,k6⟩,_,_,l1,l2,l3,l4,_,l6,l7⟩:=e2;have aa:m1=mf/\(lr.st=.ready\/lr.st=.done)/\lr.pend.getD .norm=oo:=by
    rcases l7 with⟨g1,g2,g3⟩|⟨_,g1,g2,g3⟩
    .cases g1 with
     | nil hn=>
      exact⟨rfl,.inl g2,by rw[g3,hn];rfl⟩
    exact⟨g1,.inr g2,by rw[g3];rfl⟩
   obtain⟨rfl,hst,T⟩:=aa;have ak:H.length<H'.length:=(ζe.1 l4).1;have G:∀i,i≠H.length->(H'.set H.length .dead)[i]? = H'[i]? := λi ai=>by rw[List.getElem?_set,if_neg (Ne.symm ai)]
   have L:∀i,Zb i->bq (H'.set H.length .dead) i=bq H' i:=λi t=>by unfold bq;rw[G i λe=>l2 (e▸t)]
   have r2:=r1.heap (H':=H'.set H.length .dead) (λi t=>G i λe=>l1 (e▸t)) L
   refine⟨n,F,H'.set H.length .dead,νb,Zb,λq hq=>?_,⟨r2.slot,r2.obj,r2.inj,r2.apart,r2.zrow,r2.deep⟩,?_,⟨λd hd=>l6 d (List.mem_append_left _ hd),rfl,rfl,rfl⟩⟩
   .simp only[exec,hy];rw[I,e1 q hq];simp only[l4];rcases hst with hst|hst <;> rw[hst] <;> simp only[T]
   refine y.xB _ _ _ _ _ _ _ j (by simp only[List.length_set];omega) (λi h1 Y h3=>by rw[G i Za,k3 i h1 Y h3]) (λi t=>⟨(k4 i t).1,by rw[L i (k4 i t).1,(k4 i t).2]⟩) k5 k6
  simp at h
 simp at h
end
def i_ (st:St):a_ RV->bf (a_ SV)
 | []=>some []
 | .s n::r=>match bl st.g n,i_ st r with
  | some x,some l=>some (x::l)
  | _,_=>none
 | .ld n size agg::r=>match (bl st.g n).bind λp=>oI st.m (.load size agg) [p],i_ st r with
  | some x,some l=>some (x::l)
  | _,_=>none
def mB (S:Sys) (c:bU) (rf:RF) (svs:a_ SV) (u:c7):bf (a_ SV×c7):=
 if svs.length<=rf.na then
  match cw S c rf.body (start svs u)with
  | some (.exit _,_)=>none
  | some (_,st)=>(i_ st rf.rs).map λrs=>(rs,st.m)
  | none=>none
 else none
def A1 (E:Env):ResultVar->bf RV
 | .tmp t=>some (.s t)
 | .cell a t=>(E.tt t).map λd=>.ld a d.size d.agg
def yS (E:Env) (nm:FuncId->bf Nat) (fi:FI) (rf:RF):Prop:=
 bK ⟨E,nm,fi.ntmps⟩ false fi.body=some (erase rf.body)/\fi.results.mapM (A1 E)=some rf.rs/\rf.na=fi.ntmps
section
variable {ν ν' ν2:Nu} {Z Z':Nat->Prop} {st st' st2:St} {m m':Tb bu} {F F':Frame} {H H' H1:bn} {S:Sys} {c:bU} {X:CX} {J:JT}
theorem JJ (gd:Good X S) (hS:iH S c) (hI:∀f a b xs,S.items f a b=some xs->gI S f a b xs):∀(rc:RC) (ro:Bool) (code:Code),bK X ro code=some (erase rc)->sC X S ro code (cw S c rc):=by
 intro rc
 induction rc with
 | skip=>
  intro ro code hc st o st' h J ν Z F H y r j;obtain⟨rfl,rfl⟩:=h;simp[erase]at hc;have:∀k,exec S.E (run S.E k) k ro X.nt code F H=some (.norm,F,H):=λk=>by
   cases code with
   | skip=>rfl
   | label _=>rfl
   | region id ops w=>
    simp[bK]at hc;split at hc
    .simp_all
    simp_all
   | seq a b=>simp[bK]at hc;grind
   | cond x a b=>simp[bK]at hc;grind
   | block id b=>simp only[bK]at hc;simp_all
   | loop b=>simp only[bK]at hc;simp_all
   | rangeFunc g ps W Y=>
    simp[bK]at hc
    grind
   | _=>simp[bK]at hc
  exact⟨0,F,H,ν,Z,λk _=>this k,r,j,.refl⟩
 | ops l=>
  intro ro code hc;simp[erase]at hc
  cases code with
  | region id ops w=>
   simp[bK]at hc;split at hc
   .simp_all
   rename_i hd;obtain⟨l',hl,e⟩:=ζf.1 hc;cases e;intro st o st' h J ν Z F H y r j;obtain⟨z,h1,e⟩:=ζf.1 h;obtain⟨rfl,rfl⟩:=e;obtain⟨n,F',H',ν',Z',e1,e2,e3,e4⟩:=M6 gd hS _ hl h1 y r j;refine⟨n,F',H',ν',Z',λk hk=>?_,e2,e3,e4⟩
   simp[exec,jf,hd,e1 k hk]
  | seq a b=>simp[bK]at hc;grind
  | cond x a b=>simp[bK]at hc;grind
  | block id b=>simp only[bK]at hc;simp_all
  | loop b=>obtain⟨_,_,e⟩:=ζf.1 hc;cases e
  | rangeFunc g ps W Y=>
   simp only[bK]at hc;split at hc
   .simp at hc
   split at hc <;> simp at hc
  | _=>simp[bK]at hc
 | sV l=>
  intro ro code hc;simp[erase]at hc
  cases code with
  | region id ops w=>
   simp only[bK]at hc;split at hc
   .rename_i hd;subst hd;split at hc
    next ab=>obtain⟨l',hl,e⟩:=ζf.1 hc;cases e;have:=MJ (ro:=ro) (id:=id) gd hS hl ab;intro st o st' h;exact this st o st' h
    simp at hc
   obtain⟨_,_,e⟩:=ζf.1 hc;cases e
  | seq a b=>simp[bK]at hc;split at hc <;> simp at hc
  | cond x a b=>simp[bK]at hc;split at hc <;> simp at hc
  | block id b=>obtain⟨_,_,e⟩:=ζf.1 hc;cases e
  | loop b=>obtain⟨_,_,e⟩:=ζf.1 hc;cases e
  | rangeFunc g ps W Y=>
   simp only[bK]at hc;split at hc
   .simp at hc
   split at hc <;> simp at hc
  | _=>simp[bK]at hc
 | seq a b u T=>
  intro ro code hc;simp[erase]at hc
  cases code with
  | seq ca cb=>
   simp[bK]at hc;split at hc
   .rename_i xa xb U hb;simp[RC.seq.injEq]at hc;obtain⟨rfl,rfl⟩:=hc;intro st o st' h J ν Z F H y r j;simp[cw]at h;split at h
    .rename_i z hs;obtain⟨I,F1,H1,B,C,L,O,Q,D⟩:=u ro ca U st .norm z hs J ν Z F H y r j;obtain⟨n2,F2,H2,ν2,Z2,b1,b2,b3,b4⟩:=T ro cb hb z o st' h J B C F1 H1 (by rw[D.more,D.yid];exact y) O Q
     refine⟨max I n2,F2,H2,ν2,Z2,λq G=>?_,b2,b3,D.trans b4⟩
     simp[exec,L q (Nat.le_trans (Nat.le_max_left _ _) G)];exact b1 q (Nat.le_trans (Nat.le_max_right _ _) G)
    rename_i hs;obtain⟨I,F1,H1,B,C,L,O,Q,D⟩:=u ro ca U st o st' h J ν Z F H y r j;refine⟨I,F1,H1,B,C,λq G=>?_,O,Q,D⟩
    simp[exec,L q G];cases o <;> first|exact absurd h (hs st')|rfl
   simp at hc
  | region id ops w=>
   simp[bK]at hc;split at hc
   .split at hc
    .obtain⟨_,_,e⟩:=ζf.1 hc;cases e
    simp at hc
   obtain⟨_,_,e⟩:=ζf.1 hc;cases e
  | cond x a b=>simp[bK]at hc;split at hc <;> simp at hc
  | block id b=>simp only[bK]at hc;obtain⟨_,_,e⟩:=ζf.1 hc;cases e
  | loop b=>simp only[bK]at hc;obtain⟨_,_,e⟩:=ζf.1 hc;cases e
  | rangeFunc g ps W Y=>
   simp only[bK]at hc;split at hc
   .simp at hc
   split at hc <;> simp at hc
  | _=>simp[bK]at hc
 | cond x a b u T=>
  intro ro code hc;simp[erase]at hc
  cases code with
  | cond g ca cb=>
   simp[bK]at hc;split at hc
   .rename_i xg xa xb hg U hb;simp[RC.cond.injEq]at hc;obtain⟨rfl,rfl,rfl⟩:=hc;intro st o st' h J ν Z F H y r j;simp[cw]at h;split at h
    .rename_i t ht;obtain⟨yv,hy,ry⟩:=DR gd.N r.slot hg ht;rw[ry.fr.bool]at hy;split at h
     .rename_i hb;obtain⟨I,F1,H1,B,C,L,O,Q,D⟩:=u ro ca U st o st' h J ν Z F H y r j;refine⟨I,F1,H1,B,C,λq G=>?_,O,Q,D⟩
      simp[exec,hy,hb];exact L q G
     rename_i hb;obtain⟨I,F1,H1,B,C,L,O,Q,D⟩:=T ro cb (by assumption) st o st' h J ν Z F H y r j
     refine⟨I,F1,H1,B,C,λq G=>?_,O,Q,D⟩
     simp[exec,hy,hb];exact L q G
    simp at h
   simp at hc
  | region id ops w=>
   simp[bK]at hc;split at hc
   .split at hc
    .obtain⟨_,_,e⟩:=ζf.1 hc;cases e
    simp at hc
   obtain⟨_,_,e⟩:=ζf.1 hc;cases e
  | seq a b=>simp[bK]at hc;split at hc <;> simp at hc
  | block id b=>simp only[bK]at hc;obtain⟨_,_,e⟩:=ζf.1 hc;cases e
  | loop b=>simp only[bK]at hc;obtain⟨_,_,e⟩:=ζf.1 hc;cases e
  | rangeFunc g ps W Y=>
   simp only[bK]at hc;split at hc
   .simp at hc
   split at hc <;> simp at hc
  | _=>simp[bK]at hc
 | block id a u=>
  intro ro code hc;simp[erase]at hc
  cases code with
  | block ad ca=>
   simp only[bK]at hc;obtain⟨xa,U,e⟩:=ζf.1 hc;simp[RC.block.injEq]at e;obtain⟨rfl,rfl⟩:=e;intro st o st' h J ν Z F H y r j;simp[cw]at h;split at h
   .rename_i ae z hs;obtain⟨I,F1,H1,B,C,L,O,Q,D⟩:=u ro ca U st (.exit ae) z hs J ν Z F H y r j;split at h
    .rename_i e;simp  at h;obtain⟨rfl,rfl⟩:=h;refine⟨I,F1,H1,B,C,λq G=>?_,O,Q,D⟩
     simp[exec,L q G,if_pos e]
    rename_i e;simp  at h;obtain⟨rfl,rfl⟩:=h;refine⟨I,F1,H1,B,C,λq G=>?_,O,Q,D⟩
    simp[exec,L q G,if_neg e]
   rename_i hs;obtain⟨I,F1,H1,B,C,L,O,Q,D⟩:=u ro ca U st o st' h J ν Z F H y r j;refine⟨I,F1,H1,B,C,λq G=>?_,O,Q,D⟩
   simp[exec,L q G];cases o <;> first|exact absurd h (hs _ st')|rfl
  | region id ops w=>
   simp[bK]at hc;split at hc
   .split at hc
    .obtain⟨_,_,e⟩:=ζf.1 hc;cases e
    simp at hc
   obtain⟨_,_,e⟩:=ζf.1 hc;cases e
  | seq a b=>simp[bK]at hc;split at hc <;> simp at hc
  | cond x a b=>simp[bK]at hc;split at hc <;> simp at hc
  | loop b=>simp only[bK]at hc;obtain⟨_,_,e⟩:=ζf.1 hc;cases e
  | rangeFunc g ps W Y=>
   simp only[bK]at hc;split at hc
   .simp at hc
   split at hc <;> simp at hc
  | _=>simp[bK]at hc
 | loop a u=>
  intro ro code hc;simp[erase]at hc
  cases code with
  | loop ca=>
   simp only[bK]at hc;obtain⟨xa,U,e⟩:=ζf.1 hc;simp[RC.loop.injEq]at e;subst e;have:=Ss (u ro ca U);intro st o st' h;simp[cw]at h;exact this st o st' h
  | region id ops w=>
   simp[bK]at hc;split at hc
   .split at hc
    .obtain⟨_,_,e⟩:=ζf.1 hc;cases e
    simp at hc
   obtain⟨_,_,e⟩:=ζf.1 hc;cases e
  | seq a b=>simp[bK]at hc;split at hc <;> simp at hc
  | cond x a b=>simp[bK]at hc;split at hc <;> simp at hc
  | block id b=>simp only[bK]at hc;obtain⟨_,_,e⟩:=ζf.1 hc;cases e
  | rangeFunc g ps W Y=>
   simp only[bK]at hc;split at hc
   .simp at hc
   split at hc <;> simp at hc
  | _=>simp[bK]at hc
 | each x ps a b u T=>
  intro ro code hc;simp[erase]at hc
  cases code with
  | rangeFunc g ah W Y=>
   simp only[bK]at hc;split at hc
   .simp at hc
   rename_i aa;simp only[Bool.or_eq_true,not_or,Bool.not_eq_true,Bool.not_eq_false']at aa;obtain⟨rfl,af⟩:=aa;split at hc
   next xg xa xb hg U hb=>simp[RC.each.injEq]at hc;obtain⟨rfl,rfl,rfl,rfl⟩:=hc;have:=Tn gd hI af hg (u true W U) (T true Y hb);intro st o st' h;simp only[cw]at h;exact this st o st' h
   simp at hc
  | region id ops w=>
   simp only[bK]at hc;split at hc
   .split at hc
    .obtain⟨_,_,e⟩:=ζf.1 hc;cases e
    simp at hc
   obtain⟨_,_,e⟩:=ζf.1 hc;cases e
  | seq a b=>simp only[bK]at hc;split at hc <;> simp at hc
  | cond x a b=>simp only[bK]at hc;split at hc <;> simp at hc
  | block id b=>simp only[bK]at hc;obtain⟨_,_,e⟩:=ζf.1 hc;cases e
  | loop b=>simp only[bK]at hc;obtain⟨_,_,e⟩:=ζf.1 hc;cases e
  | _=>simp[bK]at hc
 | exit id=>
  intro ro code hc st o st' h J ν Z F H y r j;simp only[cw,ζa,ζc]at h;obtain⟨rfl,rfl⟩:=h;simp only[erase]at hc;have:∀k,exec S.E (run S.E k) k ro X.nt code F H=some (.exit id,F,H):=λk=>by
   cases code with
   | exit ad=>simp only[bK,ζa,RC.exit.injEq]at hc;subst hc;rfl
   | region id ops w=>
    simp only[bK]at hc;split at hc
    .split at hc
     .obtain⟨_,_,e⟩:=ζf.1 hc;cases e
     simp at hc
    obtain⟨_,_,e⟩:=ζf.1 hc;cases e
   | seq a b=>simp only[bK]at hc;split at hc <;> simp at hc
   | cond x a b=>simp only[bK]at hc;split at hc <;> simp at hc
   | block id b=>simp only[bK]at hc;obtain⟨_,_,e⟩:=ζf.1 hc;cases e
   | loop b=>simp only[bK]at hc;obtain⟨_,_,e⟩:=ζf.1 hc;cases e
   | rangeFunc g ps W Y=>
    simp only[bK]at hc;split at hc
    .simp at hc
    split at hc <;> simp at hc
   | _=>simp[bK]at hc
  exact⟨0,F,H,ν,Z,λk _=>this k,r,j,.refl⟩
 | ret=>
  intro ro code hc st o st' h J ν Z F H y r j;simp only[cw,ζa,ζc]at h;obtain⟨rfl,rfl⟩:=h;simp only[erase]at hc;have:∀k,exec S.E (run S.E k) k ro X.nt code F H=some (.ret,F,H):=λk=>by
   cases code with
   | ret=>rfl
   | region id ops w=>
    simp only[bK]at hc;split at hc
    .split at hc
     .obtain⟨_,_,e⟩:=ζf.1 hc;cases e
     simp at hc
    obtain⟨_,_,e⟩:=ζf.1 hc;cases e
   | seq a b=>simp only[bK]at hc;split at hc <;> simp at hc
   | cond x a b=>simp only[bK]at hc;split at hc <;> simp at hc
   | block id b=>simp only[bK]at hc;obtain⟨_,_,e⟩:=ζf.1 hc;cases e
   | loop b=>simp only[bK]at hc;obtain⟨_,_,e⟩:=ζf.1 hc;cases e
   | rangeFunc g ps W Y=>
    simp only[bK]at hc;split at hc
    .simp at hc
    split at hc <;> simp at hc
   | _=>simp[bK]at hc
  exact⟨0,F,H,ν,Z,λk _=>this k,r,j,.refl⟩
 | gh x a u=>
  intro ro code hc;simp only[erase]at hc;intro st o st' h J ν Z F H y r j;simp only[cw]at h;obtain⟨z,h1,h2⟩:=ζg.1 h;obtain⟨B,C,g1,g2,g3⟩:=Fix.ghost r y j h1;obtain⟨n,F',H',ν',Z',e1,e2,e3,e4⟩:=u ro code hc z o st' h2 J B C F H (by rw[g3.more,g3.yid];exact y) g1 g2
  exact⟨n,F',H',ν',Z',e1,e2,e3,g3.trans e4⟩
 | hg a x u=>
  intro ro code hc;simp only[erase]at hc;intro st o st' h J ν Z F H y r j;simp only[cw]at h;split at h
  .rename_i z hs;obtain⟨st2,h1,e⟩:=ζf.1 h;simp only[ζc]at e;obtain⟨rfl,rfl⟩:=e;obtain⟨n,F',H',ν',Z',e1,e2,e3,e4⟩:=u ro code hc st .norm z hs J ν Z F H y r j;obtain⟨B,C,g1,g2,g3⟩:=Fix.ghost e2 (by rw[e4.more,e4.yid];exact y) e3 h1
   exact⟨n,F',H',B,C,e1,g1,g2,e4.trans g3⟩
  exact u ro code hc st o st' h J ν Z F H y r j
end
abbrev pe:=FuncId->bf RF
def zC (E:Env) (f:FuncId) (az:a_ V) (y:V):Prop:=∃n z H' Z,run E n (.fn f) az []=some (z,H')/\FR H' Z y z/\(∀id,Z id->(bq H' id).isSome=true)/\Deep H' Z
structure vq (S:Sys) (T:pe):Prop where
 fn:∀f rf,T f=some rf->∃fi nm,S.E.ft f=some fi/\(∀g s,nm g=some s->S.N s=g)/\yS S.E nm fi rf
 zR:∀f az y,S.zR f az=some y->zC S.E f az y
 prm:∀f q,S.prm f=some q->n9 S.E f q
def Qu (S:Sys) (f:FuncId) (svs:a_ SV) (u:c7):bf (a_ SV×c7):=
 if S.E.keep f then none else match cV svs,u with
  | some az,[]=>(S.zR f az).map λy=>([.v y],[])
  | _,_=>none
def kZ (S:Sys) (T:pe):Nat->bU
 | 0=>λ_ _ _=>none
 | n+1=>λf svs u=>match T f with
  | some rf=>mB S (kZ S T n) rf svs u
  | none=>Qu S f svs u
section
variable {ν ν' ν2:Nu} {Z Z':Nat->Prop} {st st' st2:St} {m m':Tb bu} {F F':Frame} {H H' H1:bn} {S:Sys} {c c':bU} {X:CX} {J:JT} {T:pe}
theorem AF (r:R ν Z st F H) {nm:FuncId->bf Nat}:∀{u:a_ ResultVar} {rs:a_ RV} {l:a_ SV},u.mapM (A1 S.E)=some rs->i_ st rs=some l->∃ys,iY S.E F H u=some ys/\bW ν st.m H Z l ys
 | [],rs,l,hc,h=>by
  simp  at hc;subst hc;simp[i_]at h;subst h;exact⟨[],rfl,.nil⟩
 | rv::u,rs,l,hc,h=>by
  simp[ζg]at hc;obtain⟨x,B,ys,G,rfl⟩:=hc
  cases rv with
  | tmp t=>
   simp[A1]at B;subst B;simp[i_]at h;split at h
   next v I h1 w=>simp  at h;subst h;obtain⟨C,e1,e2⟩:=AF r (nm:=nm) G w;exact⟨get F t::C,by simp[iY,e1],.cons (r.slot t v h1) e2⟩
   grind
  | cell a t=>
   simp[A1]at B;obtain⟨d,hd,rfl⟩:=B;simp[i_]at h;split at h
   .rename_i v I h1 w;simp  at h;subst h;obtain⟨p,J,h1⟩:=ζg.1 h1;obtain⟨C,e1,e2⟩:=AF r (nm:=nm) G w;obtain⟨y,g1,g2⟩:=vS (λs a e=>by cases e) (λkk z ok e=>by cases e) (bW.cons (r.slot a p J) .nil) (λL _ ob D=>r.obj L ob D) h1
    simp[eP]at g1;exact⟨y::C,by simp[iY,hd,e1,g1],.cons g2 e2⟩
   grind
theorem I6 (D:∀f q,S.prm f=some q->n9 S.E f q) (G:iH S c) (J:∀f a b xs,S.items f a b=some xs->gI S f a b xs) {f:FuncId} {fi:FI} {nm:FuncId->bf Nat} {rf:RF} (B:S.E.ft f=some fi) (O:∀g s,nm g=some s->S.N s=g) (hr:yS S.E nm fi rf)
 {svs:a_ SV} {u:c7} {rs:a_ SV} {m1:c7} (h:mB S c rf svs u=some (rs,m1)) {args:a_ V} (r:R ν Z (start svs u) args H) (T:bW ν u H Z svs args) :
 ∃n y H' ν' Z' st' F' ys,run S.E n (.fn f) args H=some (y,H')/\y=result ys/\st'.m=m1/\bW ν' m1 H' Z' rs ys/\R ν' Z' st' F' H'/\Ev (λ_=>False) ν Z (start svs u) H ν' Z' st' H':=by
 obtain⟨hc,z,C⟩:=hr;unfold mB at h;split at h
 .have key:∀o st',cw S c rf.body (start svs u)=some (o,st')->(∀id,o≠.exit id)->(i_ st' rf.rs).map (λrs=>(rs,st'.m))=some (rs,m1) ->
   ∃n y H' ν' Z' st' F' ys,run S.E n (.fn f) args H=some (y,H')/\y=result ys/\st'.m=m1/\bW ν' m1 H' Z' rs ys/\R ν' Z' st' F' H'/\Ev (λ_=>False) ν Z (start svs u) H ν' Z' st' H':=λo st' I ho w=>by
   obtain⟨l,h1,e⟩:=ζf.1 w;obtain⟨rfl,rfl⟩:=e;obtain⟨n,F',H',ν',Z',e1,e2,e3,e4⟩:=JJ  ⟨rfl,O,D⟩ G J rf.body false fi.body hc _ _ _ I (uD (eF ν (start svs u).m) Z H) ν Z args H uD.yc r (uD.refl r);obtain⟨ys,p1,p2⟩:=AF (nm:=nm) e2 z h1;obtain⟨_,L,Q,U,W,X⟩:=e3;refine⟨n+1,result ys,H',ν',Z',st',F',ys,?_,rfl,rfl,p2,e2,⟨L,λi h1 Y h3 _=>Q i h1 Y h3,U,λi h=>(W i h).imp (λh=>h) .inr,λi h=>(X i h).imp (λh=>h) (.imp (λh=>h) .inr),e4.pin,e4.pins⟩⟩
   have t:args.length<=fi.ntmps:=by rw[<-T.1,<-C];omega
   simp[run,iR,B,if_pos t,e1 n (Nat.le_refl _)]
   grind
  grind
 grind
theorem FR.emp {x y:V} (D:∀id,¬Z id) (r:FR H Z x y):x=y:=by
 have z:∀{a t:a_ V},a.length=t.length->(∀(j:Nat) u v,a[j]? = some u->t[j]? = some v->u=v)->a=t:=λ{a t} h1 w=>by
  apply List.ext_getElem h1;intro i p q;exact w i _ _ (ζd p) (ζd q)
 induction r with
 | same x h=>rfl
 | fsl es B id off C h=>grind
 | fptr B id el off es C cs h=>grind
 | clo f a b t G h1 w _ _ i1 i2=>rw[z h1 i1,z w i2]
 | agg a t h1 _ i1=>grind
 | tup a t h1 _ i1=>grind
theorem bW.emp (u:∀id,¬Z id):∀{xs ys:a_ V},bW ν m H Z (xs.map .v) ys->xs=ys
 | [],ys,h=>h.cT.symm
 | x::xs,ys,h=>by
  obtain⟨y,ys,rfl,h1,B⟩:=h.inv;rw[FR.emp u h1.fr,bW.emp u B]
theorem A8 (B:vq S T) (J:∀f a b xs,S.items f a b=some xs->gI S f a b xs):∀n,iH S (kZ S T n)
 | 0=>λf svs U rs m1 h=>by simp[kZ]at h
 | n+1=>λf svs U rs m1 h ν Z args H O r D=>by
  simp[kZ]at h;split at h
  next rf G=>obtain⟨fi,nm,h1,W,Y⟩:=B.fn f rf G;exact I6 B.prm (A8 B J n) J h1 W Y h r D
  unfold Qu at h;split at h
  .simp_all
  split at h
  .rename_i az Q;obtain⟨y,X,e⟩:=ζf.1 h;obtain⟨rfl,rfl⟩:=e;obtain⟨k,z,H',Z1,u,w,C,jx⟩:=B.zR f az y X;rcases O with O|rfl
   .grind
   have L:∀id,¬Z id:=λid I=>by have:=r.zrow id I;simp[bq]at this
   have t  := by
    rw[uz Q]at D;exact(bW.emp L D).symm
   subst t;refine⟨k,z,H',⟨λ_=>(0,0),λ_ _=>0⟩,Z1,⟨[],[],[],[],true,0⟩,[],[z],u,rfl,rfl,bW.cons (.v y z w) .nil,?_,?_⟩
   .exact⟨λs sv h=>by simp[bl]at h,λd ob h=>by simp[bl]at h,λd d' ob aa j j' h=>by simp[bl]at h,λd ob j h=>by simp[bl]at h,C,jx⟩
   exact⟨Nat.zero_le _,λid h=>by simp_all,λid h=>absurd h (L id),λid h=>by grind,λid h=>.inr (.inr (.inr (Nat.zero_le _))),λd h=>by simp[start]at h,rfl⟩
  grind
abbrev Lq:=a_ ((FuncId×a_ SV×c7)×(a_ SV×c7))
def Df (c:bU) (L:Lq):Prop:=∀p∈L,c p.1.1 p.1.2.1 p.1.2.2=some p.2
def Fin {α:Type} (c:bU) (f:bU->bf α) (r:α):Prop:=∃L:Lq,Df c L/\∀c',Df c' L->f c'=some r
theorem Fin.pure {α:Type} {f:bU->bf α} {r:α} (h:∀c',f c'=some r):Fin c f r:=⟨[],λp t=>by simp_all,λc' _=>h c'⟩
theorem Fin.bind {α β:Type} {f:bU->bf α} {r:α} {g:bU->bf β} {q:β} (h1:Fin c f r) (u:bU->α->bf β) (B:Fin c (λc=>u c r) q) (hg:∀c',f c'=some r->g c'=u c' r):Fin c g q:=by
 obtain⟨w,z,C⟩:=h1;obtain⟨D,G,I⟩:=B;refine⟨w++D,λp t=>(List.mem_append.1 t).elim (z p) (G p),λc' hc=>?_⟩
 rw[hg c' (C c' λp t=>hc p (List.mem_append_left _ t))]
 exact I c' λp t=>hc p (List.mem_append_right _ t)
theorem Fin.call {f:FuncId} {svs:a_ SV} {u:c7} {r:a_ SV×c7} (h:c f svs u=some r):Fin c (λc=>c f svs u) r:=
 ⟨[((f,svs,u),r)],λp t=>by grind,λc' hc=>hc ((f,svs,u),r) Zc⟩
theorem FB {dst:bf Nat} {dr now:Bool} {old:a_ SV->Bool} {f:FuncId} {args:a_ SV} {r:SV×St} (h:ey S c dst dr now old f args st=some r):Fin c (λc=>ey S c dst dr now old f args st) r:=by
 have u:=h;unfold ey at h;split at h
 .split at h
  .split at h
   .split at h
    .split at h
     .rename_i rs m' hc;refine(Fin.call hc).bind (λc' q=>ey S c dst dr now old f args st) (.pure λ_=>u) (λc' t=>?_)
      unfold ey
      grind
     grind
    grind
   rename_i z;split at h
   .rename_i w;unfold En at h;split at h
    .rename_i az B;split at h
     .rename_i rs m' hc;refine(Fin.call hc).bind (λc' q=>ey S c dst dr now old f args st) (.pure λ_=>u) (λc' t=>?_)
      unfold ey En;simp_all
     cases h
    cases h
   rename_i w;split at h
   .rename_i q C;refine .pure λc'=>?_
    unfold ey;simp_all
   rename_i C;split at h
   .rename_i os G;split at h
    .rename_i rs m' hc;refine(Fin.call hc).bind (λc' q=>ey S c dst dr now old f args st) (.pure λ_=>u) (λc' t=>?_)
     unfold ey
     clear h u
     simp[*]
    grind
   grind
  split at h
  .split at h
   .split at h
    .rename_i rs m' hc;refine(Fin.call hc).bind (λc' q=>ey S c dst dr now old f args st) (.pure λ_=>u) (λc' t=>?_)
     unfold ey;simp_all
    grind
   grind
  grind
 rename_i hk;split at h
 .rename_i az B;split at h
  .rename_i D;split at h
   .rename_i rs m' hc;refine(Fin.call hc).bind (λc' q=>ey S c dst dr now old f args st) (.pure λ_=>u) (λc' t=>?_)
    unfold ey;simp[hk,B,D,hc,t]
   grind
  grind
 grind
theorem SE {dr:Bool} {fr:a_ Nat} {o:RO} {r:SV×St} (h:lG S c dr fr o st=some r):Fin c (λc=>lG S c dr fr o st) r:=by
 have u:=h;unfold lG at h;split at h
 .rename_i z t;split at h
  .refine .pure λc'=>?_
   have h1:=u;unfold lG at h1 ⊢;rename_i hk;simp only[t,hk]at h1 ⊢;exact h1
  .refine .pure λc'=>?_
   have h1:=u;unfold lG at h1 ⊢;rename_i B hk;simp only[t,hk]at h1 ⊢;exact h1
  .refine .pure λc'=>?_
   have h1:=u;unfold lG at h1 ⊢;rename_i hk;simp only[t,hk]at h1 ⊢;exact h1
  .refine .pure λc'=>?_
   have h1:=u;unfold lG at h1 ⊢;rename_i hk;simp only[t,hk]at h1 ⊢;exact h1
  .refine .pure λc'=>?_
   have h1:=u;unfold lG at h1 ⊢;rename_i hk;simp only[t,hk]at h1 ⊢;exact h1
  .rename_i hk;split at h
   .refine(FB h).bind (λ_ q=>some q) (.pure λ_=>rfl) (λc' w=>?_)
    unfold lG;simp only[t,hk,w]
   .refine(FB h).bind (λ_ q=>some q) (.pure λ_=>rfl) (λc' w=>?_)
    unfold lG;simp only[t,hk,w]
   simp at h
  .refine .pure λc'=>?_
   have h1:=u;unfold lG at h1 ⊢;rename_i hk;simp only[t,hk]at h1 ⊢;exact h1
  refine .pure λc'=>?_
  have h1:=u;unfold lG at h1 ⊢;rename_i hk;simp only[t,hk]at h1 ⊢;exact h1
 simp at h
theorem Si {dr:Bool} {fr:a_ Nat} {o:RO} {r:St} (h:fH S c dr fr o st=some r):Fin c (λc=>fH S c dr fr o st) r:=by
 unfold fH at h;split at h
 .split at h
  .refine .pure λc'=>?_
   unfold fH
   grind
  obtain⟨q,t,e⟩:=ζf.1 h;refine(SE t).bind (λ_ q=>some (cZ q.2 o.dst q.1)) (.pure λ_=>by simp_all) (λc' u=>?_)
  unfold fH
  grind
 .refine .pure λc'=>?_
  unfold fH
  grind
 grind
theorem BU {dr:Bool}:∀{l:a_ RO} {fr:a_ Nat} {st r:St},mM S c dr fr l st=some r->Fin c (λc=>mM S c dr fr l st) r
 | [],fr,st,r,h=>.pure λ_=>h
 | o::l,fr,st,r,h=>by
  simp[mM]at h;split at h
  next B u=>obtain⟨D,hg,u⟩:=ζg.1 u;exact(Si u).bind (λc' q=>mM S c' dr (if dr then qy fr o.strip else fr) l (oP o.dead q)) (BU h) (λc' t=>by simp[mM,hg,t])
  grind
theorem EI {f:bU->St->bf (Out×St)} (B:∀st r,f c st=some r->Fin c (λc=>f c st) r):∀{k:Nat} {st:St} {r:Out×St},iW (f c) k st=some r->Fin c (λc=>iW (f c) k st) r
 | 0,st,r,h=>by simp[iW]at h
 | k+1,st,r,h=>by
  simp[iW]at h;split at h
  next D G=>exact(B st _ G).bind (λc' q=>iW (f c') k D) (EI B h) (λc' u=>by simp[iW,u])
  refine(B st r h).bind (λ_ q=>some q) (.pure λ_=>rfl) (λc' u=>?_)
  simp[iW,u]
  grind
theorem Ff {f:bU->a_ V->Tb bu->bf (Out×Tb bu)} (B:∀x m r,f c x m=some r->Fin c (λc=>f c x m) r):∀{xs:a_ (a_ V)} {m:Tb bu} {r:Out×Tb bu},qg (f c) xs m=some r->Fin c (λc=>qg (f c) xs m) r
 | [],m,r,h=>.pure λ_=>h
 | x::xs,m,r,h=>by
  simp[qg]at h;split at h
  next m1 D=>exact(B x m _ D).bind (λc' q=>qg (f c') xs m1) (Ff B h) (λc' u=>by simp[qg,u])
  refine(B x m r h).bind (λ_ q=>some q) (.pure λ_=>rfl) (λc' u=>?_)
  simp[qg,u]
  grind
theorem MA:∀{rc:RC} {st:St} {r:Out×St},cw S c rc st=some r->Fin c (λc=>cw S c rc st) r:=by
 intro rc
 induction rc with
 | skip=>exact λh=>.pure λ_=>h
 | exit id=>exact λh=>.pure λ_=>h
 | ret=>exact λh=>.pure λ_=>h
 | ops l=>
  intro st r h;simp only[cw]at h ⊢;obtain⟨q,D,e⟩:=ζf.1 h;exact(BU D).bind (λ_ q=>some (.norm,q)) (.pure λ_=>by simp_all) (λc' u=>by grind)
 | sV l=>
  intro st r h;simp only[cw]at h ⊢;obtain⟨q,D,e⟩:=ζf.1 h;exact(BU D).bind (λ_ q=>some (.norm,q)) (.pure λ_=>by simp_all) (λc' u=>by grind)
 | seq a b t B=>
  intro st r h;simp[cw]at h ⊢;split at h
  next w C=>exact(t C).bind (λc' q=>cw S c' b w) (B h) (λc' u=>by grind)
  rename_i C;refine(t h).bind (λ_ q=>some q) (.pure λ_=>rfl) (λc' u=>?_)
  grind
 | cond x a b t B=>
  intro st r h;simp[cw]at h ⊢
  grind
 | block id a t=>
  intro st r h;simp[cw]at h ⊢;split at h
  next G w C=>exact(t C).bind (λc' q=>if G=id then some (.norm,w)else some (.exit G,w)) (.pure λ_=>h) (λc' u=>by grind)
  refine(t h).bind (λ_ q=>some q) (.pure λ_=>rfl) (λc' u=>?_)
  grind
 | loop a t=>
  intro st r h;obtain⟨k,hk⟩:=mE.1 h;refine(EI  (λst r h=>t h) hk).bind (λ_ q=>some q) (.pure λ_=>rfl) (λc' u=>?_)
  exact mE.2 ⟨k,u⟩
 | each g J a b t B=>
  intro st r h;simp only[cw]at h ⊢;split at h
  .split at h
   .obtain⟨q,D,e⟩:=ζf.1 h;refine(Ff (f:=λc=>iz J (cw S c a) (cw S c b) st) (λz m r h=>?_) D).bind (λ_ q=>some (q.1,{ st with m:=q.2 })) (.pure λ_=>by simp_all) (λc' u=>by grind)
    unfold iz at h;split at h
    .split at h
     .rename_i w h1;obtain⟨L,I,e2⟩:=ζf.1 h;refine(t h1).bind (λc' q=>(cw S c' b w).map λ(o,st2)=>(o,st2.m)) ((B I).bind (λ_ q=>some (q.1,q.2.m)) (.pure λ_=>by simp_all) (λc' u=>by grind)) (λc' u=>?_)
      unfold iz
      grind
     grind
    grind
   grind
  grind
 | gh x a t=>
  intro st r h;simp[cw]at h ⊢;obtain⟨w,h1,O⟩:=ζg.1 h
  grind
 | hg a x t=>
  intro st r h;simp[cw]at h ⊢;split at h
  next w C=>exact(t C).bind (λc' q=>(ghost x w).map λst=>(.norm,st)) (.pure λ_=>h) (λc' u=>by grind)
  refine(t h).bind (λ_ q=>some q) (.pure λ_=>rfl) (λc' u=>?_)
  grind
theorem zT {rf:RF} {svs:a_ SV} {u:c7} {r:a_ SV×c7} (h:mB S c rf svs u=some r):Fin c (λc=>mB S c rf svs u) r:=by
 have t:=h;unfold mB at h;split at h
 .split at h
  .simp_all
  .rename_i o st w z;refine(MA z).bind (λc' q=>mB S c rf svs u) (.pure λ_=>t) (λc' B=>?_)
   unfold mB
   grind
  grind
 grind
theorem DB:∀{n:Nat} {f:FuncId} {svs:a_ SV} {u:c7} {r:a_ SV×c7},kZ S T n f svs u=some r->kZ S T (n+1) f svs u=some r
 | 0,f,svs,u,r,h=>by simp[kZ]at h
 | n+1,f,svs,u,r,h=>by
  simp[kZ]at h;rw[kZ];split at h
  next rf B=>obtain⟨L,h1,D⟩:=zT h;simp[B];exact D _ λp t=>DB (h1 p t)
  grind
theorem BF {n k:Nat} (h:n<=k) {f:FuncId} {svs:a_ SV} {u:c7} {r:a_ SV×c7} (B:kZ S T n f svs u=some r):kZ S T k f svs u=some r:=by
 induction h with
 | refl=>omega
 | step _ t=>exact DB t
open Classical in
def dc (S:Sys) (T:pe):bU:=λf t u=>if h:∃n r,kZ S T n f t u=some r then some (Classical.choose (Classical.choose_spec h))else none
theorem rG {f:FuncId} {svs:a_ SV} {u:c7} {r:a_ SV×c7}:dc S T f svs u=some r↔∃n,kZ S T n f svs u=some r:=by
 unfold dc;constructor
 .intro h;split at h
  .grind
  grind
 rintro⟨k,hk⟩;have t:∃n r,kZ S T n f svs u=some r:=⟨k,r,hk⟩;have w:=Classical.choose_spec (Classical.choose_spec t);have z:=BF (Nat.le_max_left (Classical.choose t) k) w;have B:=BF (Nat.le_max_right (Classical.choose t) k) hk
 grind
theorem Km {L:Lq} (h:Df (dc S T) L):∃n,∀k,n<=k->Df (kZ S T k) L:=by
 induction L with
 | nil=>exact⟨0,λk _ p hp=>by simp_all⟩
 | cons q L t=>
  obtain⟨u,h1⟩:=rG.1 (h q Zc)
  obtain⟨w,z⟩:=t λp hp=>h p (List.mem_cons_of_mem _ hp)
  refine⟨max u w,λk hk p hp=>?_⟩
  rcases List.mem_cons.1 hp with rfl|hp
  .exact BF (Nat.le_trans (Nat.le_max_left _ _) hk) h1
  exact z k (Nat.le_trans (Nat.le_max_right _ _) hk) p hp
theorem EF {f:FuncId} {az:a_ V} {y:V} (u:T f=none) (hk:S.E.keep f=false) (h:S.zR f az=some y):dc S T f (az.map .v) []=some ([.v y],[]):=by
 refine rG.2 ⟨1,?_⟩;have t:cV (az.map .v)=some az:=by
  clear h
  induction az with
  | nil=>rfl
  | cons a l w=>simp only[List.map_cons,cV,w];rfl
 simp only[kZ,u,Qu,hk,t,h];rfl
theorem qT {f:FuncId} {rf:RF} (B:T f=some rf) (svs:a_ SV) (u:c7):dc S T f svs u=mB S (dc S T) rf svs u:=by
 cases h:mB S (dc S T) rf svs u with
 | some r=>
  obtain⟨L,h1,w⟩:=zT h;obtain⟨n,t⟩:=Km h1;refine rG.2 ⟨n+1,?_⟩;simp[kZ,B]
  grind
 | none=>
  cases w:dc S T f svs u with
  | none=>rfl
  | some r=>
   obtain⟨n,t⟩:=rG.1 w
   cases n with
   | zero=>simp[kZ]at t
   | succ n=>
    simp[kZ,B]at t;obtain⟨L,z,C⟩:=zT t;have G:=C (dc S T) λp D=>rG.2 ⟨n,z p D⟩
    grind
theorem Bh (u:vq S T) (B:∀f a b xs,S.items f a b=some xs->gI S f a b xs):iH S (dc S T):=λf t w rs z h=>by
 obtain⟨n,C⟩:=rG.1 h;exact A8 u B n f t w rs z C
theorem TE (T:∀f q,S.prm f=some q->n9 S.E f q) (U:iH S c) {f:FuncId} {fi:FI} {nm:FuncId->bf Nat} {rf:RF} (W:∀f a b xs,S.items f a b=some xs->gI S f a b xs) (B:S.E.ft f=some fi) (Y:∀g s,nm g=some s->S.N s=g) (hr:yS S.E nm fi rf) {a b:a_ V} {xs:a_ (a_ V)}
 (O:a.length+1+b.length<=rf.na) (D:rf.rs=[])
 (h:∀u more,(more=true/\u=xs\/more=false/\u≠[]/\∃r,xs=u++r)->∀yid,∃o st',cw S c rf.body { g:=xD 0 (a.map .v++.yl yid::b.map .v),m:=[],pin:=[],want:=u,more:=more,yid:=yid }=some (o,st')/\(∀id,o≠.exit id)/\st'.want=[]/\st'.m=st'.m) :
 gI S f a b xs:=by
 intro u more Q yid J y Z C G H X hb hz hd j;obtain⟨o,st',h1,h2,h3,_⟩:=h u more Q yid;obtain⟨hc,w,I⟩:=hr;have L:bW ⟨λ_=>(0,0),λ_ _=>0⟩ [] H Z (a.map .v++.yl yid::b.map .v) (C++.yld yid::G):=(bW.p_ X).append (.cons (.yl yid) (bW.p_ hb))
 have r0:R ⟨λ_=>(0,0),λ_ _=>0⟩ Z { g:=xD 0 (a.map .v++.yl yid::b.map .v),m:=[],pin:=[],want:=u,more:=more,yid:=yid } (C++.yld yid::G) H:=
  ⟨xy L,λd ob h=>by simp[bl]at h,λd d' ob aa j j' h=>by simp[bl]at h,λd ob j h=>by simp[bl]at h,hz,hd⟩
 obtain⟨n,F',H',ν',Z',e1,e2,e3,e4⟩:=JJ  ⟨rfl,Y,T⟩ U W rf.body false fi.body hc _ _ _ h1 J _ Z _ H y r0 (by
  refine y.xB _ _ _ _ _ _ _ j (Nat.le_refl _) (λ_ _ _ _=>rfl) (λi z=>⟨z,rfl⟩) (λi z=>?_) (λi z=>.inl z)
  obtain⟨d,ob,j,h,_⟩:=z;simp[bl]at h)
 rw[h3]at e3;rw[D]at w;obtain⟨ys,p1,p2⟩:=AF (nm:=nm)   e2 w rfl;refine⟨n+1,result ys,H',_,Z',λk hk=>?_,e3⟩
 have t:(C++V.yld yid::G).length<=fi.ntmps:=by rw[<-L.1,<-I];simp;omega
 cases k with
 | zero=>omega
 | succ k=>
  simp[run,iR,B,if_pos t,e1 k Za]
  grind
theorem Tq (u:vq S T) (B:∀f a b xs,S.items f a b=some xs->gI S f a b xs) {f:FuncId} {az:a_ V} (hg:V.cQ az=true) {y:V} {m':c7} (h:dc S T f (az.map .v) []=some ([.v y],m')) (D:y.scalar=true) :
 ∃n H',run S.E n (.fn f) az []=some (y,H'):=by
 obtain⟨t,r1⟩:=zL hg;obtain⟨n,G,H2,ν',Z',st',F',w,h1,rfl,I,C,J,_⟩:=Bh u B f _ _ _ _ h _ _ az [] (.inr rfl) t r1;obtain⟨z,w,rfl,e1,e2⟩:=C.inv;rw[e2.cT]at h1;have:=(e1.fr.scalar).1 D;subst this;exact⟨n,H2,h1⟩
end
end Go.VE
