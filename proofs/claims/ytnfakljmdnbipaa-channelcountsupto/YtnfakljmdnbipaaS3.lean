/-
 By hand, part 2: what comes of a piece of code, if calls may go deep enough.
-/
import Derived.Test.YtnfakljmdnbipaaN2
import Derived.Test.YtnfakljmdnbipaaS2
set_option linter.all false
namespace Go.VE
abbrev Cf:=Fo×List Fm×St
section
variable (S:Sys) (c:ck) {β:Type} (Q:Out×St→Option β)
noncomputable abbrev au (cf:Cf):Option β:=rn S c Q cf.1 cf.2.1 cf.2.2
noncomputable def pF (n:Nat) (cf:Cf):Cf:=(gx S c n cf.1 cf.2.1 cf.2.2).getD cf
structure Af where
 dr:Bool
 fr:List Nat
 d:Option Nat
 gd:Option (Nat×Bool)
 now:Bool
 k:K
 as:List Arg
 dd:List Nat
 l:List RO
 fs:List Fm
 st:St
noncomputable def iD (n:Nat) (cf:Cf):Option Af:=match gx S c n cf.1 cf.2.1 cf.2.2 with
 | some (.ops dr fr (⟨d,gd,now,k,as,dd,[]⟩::l),fs,st)=>match wanted st.g gd with
  | some true=>some ⟨dr,fr,d,gd,now,k,as,dd,l,fs,st⟩
  | _=>none
 | _=>none
noncomputable def nx (n:Nat) (cf:Cf) (φ:Af→St):Cf:=match iD S c n cf with
 | some p=>(.ops p.dr (if p.dr then(match p.k with|.p _|.r _=>p.fr|_=>match p.d with|some d=>d::p.fr|none=>p.fr)else p.fr) p.l,p.fs,kL p.dd (φ p))
 | none=>cf
end
def pB (s:Nat) (b:Bool) (cf:Cf):Cf:=(cf.1,cf.2.1,{ cf.2.2 with g:=bl cf.2.2.g s (.v (.bool b)) })
def jmp (k:Nat) (fr:List Nat) (cf:Cf) (st:St):Cf:=match cf with
 | (.ops dr _ l,fs,_)=>(.ops dr fr (l.drop k),fs,st)
 | _=>(.rt,[],st)
def bD:RC→List Nat→List Fm→St→Cf
 | c,[],fs,st=>(.rc c,fs,st)
 | .seq a b,i::p,fs,st=>if i=0 then bD a p (.seq b::fs) st else bD b p fs st
 | .cond _ a b,i::p,fs,st=>if i=0 then bD a p fs st else bD b p fs st
 | .block id c,_::p,fs,st=>bD c p (.blk id::fs) st
 | .gh _ c,_::p,fs,st=>bD c p fs st
 | .hg c g,_::p,fs,st=>bD c p (.gst g::fs) st
 | .loop c,_::p,_,st=>bD c p [] st
 | .each _ _ _ b,_::p,_,st=>bD b p [] st
 | c,_,fs,st=>(.rc c,fs,st)
def bL (B:RC) (pa:List Nat):RC:=match (bD B pa [] (ai [] [])).1 with|.rc (.loop c)=>c|_=>.skip
def iA (B:RC) (pa:List Nat):Arg×List Nat×RC×RC:=match (bD B pa [] (ai [] [])).1 with|.rc (.each g ps a b)=>(g,ps,a,b)|_=>(.s 0,[],.skip,.skip)
section
variable {S:Sys} {c:ck} {β γ δ α:Type} {Q:Out×St→Option β} {e:γ→Option β} {cf:Cf}
theorem gS {n:Nat} {p:Af} (h:iD S c n cf=some p):gx S c n cf.1 cf.2.1 cf.2.2=some (.ops p.dr p.fr (⟨p.d,p.gd,p.now,p.k,p.as,p.dd,[]⟩::p.l),p.fs,p.st)∧wanted p.st.g p.gd=some true:=by
 unfold iD at h;split at h
 ·rename_i h1;split at h
  ·rename_i h2;cases h;exact⟨h1,h2⟩
  ·cases h
 ·cases h
theorem v_ {n:Nat} {m:Option δ} {φ:δ→Af→St} {f:δ→Option γ} {p:Af} (hp:iD S c n cf=some p) (hs:Le (m.bind fun x=>some (φ x p)) (eR S c p.dr p.fr ⟨p.d,none,p.now,p.k,p.as,[],[]⟩ p.st))
 (h:∀x,m=some x→Le ((f x).bind e) (au S c Q (nx S c n cf (φ x)))):Le ((m.bind f).bind e) (au S c Q cf):=by
 obtain⟨h1,h2⟩:=gS hp;refine zu h1 rfl h2 hs fun x hx => ?_
 have:=h x hx;simp only[nx,hp]at this;exact this
theorem zh {n:Nat} {m:Option β} {φ:Af→St} {p:Af} (hp:iD S c n cf=some p) (hs:eR S c p.dr p.fr ⟨p.d,none,p.now,p.k,p.as,[],[]⟩ p.st=some (φ p))
 (h:Le m (au S c Q (nx S c n cf φ))):Le m (au S c Q cf):=by
 obtain⟨h1,h2⟩:=gS hp;refine mA h1 rfl h2 hs ?_;simp only[nx,hp]at h;exact h
theorem gy {α β:Type} {o:Option α} {f:α→β} {b:β} (h:o.map f=some b):∃a,o=some a∧f a=b:=Zh.1 h
theorem o6 {α:Type}:∀{g:Tb α} {n:Nat} {v:α},ak g n=some v→bl g n v=g
 | [],n,v,h=>by cases h
 | (k,x)::r,n,v,h=>by
  simp only[ak]at h;simp only[bl];split
  ·rename_i e;rw[if_pos e]at h;cases h;subst e;rfl
  ·rename_i e;rw[if_neg e]at h;rw[o6 h]
theorem bZ (n:Nat) {m:Option β} {cf':Cf} (h:Le m (au S c Q cf')) (hL:gx S c n cf.1 cf.2.1 cf.2.2=some cf':=by kernel_rfl):Le m (au S c Q cf):=Cz hL h
theorem aG (n s:Nat) {t:Bool} {x y:Option γ} (ha:Le (x.bind e) (au S c Q (pB s true (pF S c n cf)))) (hb:Le (y.bind e) (au S c Q (pB s false (pF S c n cf))))
 (hL:(gx S c n cf.1 cf.2.1 cf.2.2).map (fun p=>ak p.2.2.g s)=some (some (.v (.bool t))):=by kernel_rfl):Le ((ao t x y).bind e) (au S c Q cf):=by
 obtain⟨p,hp,hv⟩:=gy hL;have hg:pF S c n cf=p:=by unfold pF;rw[hp];rfl
 rw[hg]at ha hb;refine Cz hp ?_;cases t
 ·have:pB s false p=p:=by unfold pB;rw[o6 hv]
  rw[this]at hb;exact hb
 ·have:pB s true p=p:=by unfold pB;rw[o6 hv]
  rw[this]at ha;exact ha
theorem dy (n s:Nat) {t:Bool} {x y:Option γ} (ha:Le (x.bind e) (au S c Q (pB s false (pF S c n cf)))) (hb:Le (y.bind e) (au S c Q (pB s true (pF S c n cf))))
 (hL:(gx S c n cf.1 cf.2.1 cf.2.2).map (fun p=>ak p.2.2.g s)=some (some (.v (.bool (!t)))):=by kernel_rfl):Le ((ao t x y).bind e) (au S c Q cf):=by
 obtain⟨p,hp,hv⟩:=gy hL;have hg:pF S c n cf=p:=by unfold pF;rw[hp];rfl
 rw[hg]at ha hb;refine Cz hp ?_;cases t
 ·have:pB s true p=p:=by unfold pB;rw[show V.bool true=V.bool (!false)from rfl,o6 hv]
  rw[this]at hb;exact hb
 ·have:pB s false p=p:=by unfold pB;rw[show V.bool false=V.bool (!true)from rfl,o6 hv]
  rw[this]at ha;exact ha
theorem aY (n k:Nat) (fr:List Nat) (st:δ→St) {m:Option δ} {f:δ→Option γ} (h2:Le (m.bind fun r=>au S c Q (jmp k fr (pF S c n cf) (st r))) (au S c Q cf))
 (h1:∀r,Le ((f r).bind e) (au S c Q (jmp k fr (pF S c n cf) (st r)))):Le ((m.bind f).bind e) (au S c Q cf):=P9 _ h2 h1
theorem aC (n:Nat) {r:δ} {k:δ→Cf} (hL:gx S c n cf.1 cf.2.1 cf.2.2=some (k r):=by kernel_rfl):Le ((some r).bind fun r=>au S c Q (k r)) (au S c Q cf):=Vw (e:=fun r=>au S c Q (k r)) hL rfl
theorem ah {r:γ} {L:Option β} (h:L=e r:=by kernel_rfl):Le ((some r).bind e) L:=Le.of_eq h
theorem cu {σ ε ρ:Type} {B:RC} {pa:List Nat} {step:σ→Option (Fw σ ε ρ)} (eσ:σ→St) (eε:ε→Nat×St) (eρ:ρ→St) {s:σ} {fx:ε→Option γ} {fr:ρ→Option γ} {st:St}
 (h:∀s,Le ((step s).bind fun w=>some (Fw.out eσ eε eρ w)) (au S c some (.rc (bL B pa),[],eσ s)))
 (hx:∀x,Le ((fx x).bind e) (au S c Q (.ex (eε x).1,(bD B pa [] st).2.1,(eε x).2))) (hr:∀b,Le ((fr b).bind e) (Q (.ret,eρ b)))
 (hL:bD B pa [] st=(.rc (.loop (bL B pa)),(bD B pa [] st).2.1,eσ s):=by kernel_rfl):Le (((bh step s).bind (Fw.elim fx fr)).bind e) (au S c Q (bD B pa [] st)):=
 Mf (n:=0) (fo:=(bD B pa [] st).1) (fs0:=(bD B pa [] st).2.1) (st:=(bD B pa [] st).2.2) (congrArg some hL) h hx hr
theorem AT {σ ε ρ:Type} {B:RC} {pa:List Nat} {f:FuncId} {x y:List V} {items:List α} {eI:α→List V} {step:α→σ→Option (Fw σ ε ρ)} (gt:Tb SV) (eσ:σ→Tb aL) (eε:ε→Nat×Tb aL) (eρ:ρ→Tb aL) {s:σ} {fn:σ→Option γ} {fx:ε→Option γ} {fr:ρ→Option γ} {st:St}
 (hi:S.items f x y=some (items.map eI))
 (h:∀x s,Le ((step x s).bind fun w=>some (Fw.lx eσ eε eρ w)) (au S c (nN S c (iA B pa).2.2.2) (.rc (iA B pa).2.2.1,[],⟨ri gt (iA B pa).2.1 ((eI x).map .v),eσ s,kU gt,[],true,0⟩)))
 (hn:∀s,Le ((fn s).bind e) (au S c Q (.nx,(bD B pa [] st).2.1,ai gt (eσ s)))) (hx:∀x,Le ((fx x).bind e) (au S c Q (.ex (eε x).1,(bD B pa [] st).2.1,ai gt (eε x).2))) (hr:∀b,Le ((fr b).bind e) (Q (.ret,ai gt (eρ b))))
 (hl:∀x,(eI x).length=(iA B pa).2.1.length:=by intro _;rfl) (hg:mD S.N gt (iA B pa).1=some (.v (.clo f x y)):=by kernel_rfl)
 (hL:bD B pa [] st=(.rc (.each (iA B pa).1 (iA B pa).2.1 (iA B pa).2.2.1 (iA B pa).2.2.2),(bD B pa [] st).2.1,ai gt (eσ s)):=by kernel_rfl):Le (((jZ step items s).bind (Fw.qV fn fx fr)).bind e) (au S c Q (bD B pa [] st)):=
 Mj (n:=0) (fo:=(bD B pa [] st).1) (fs0:=(bD B pa [] st).2.1) (st:=(bD B pa [] st).2.2) (congrArg some hL) hg hi hl h hn hx hr
theorem yZ (n:Nat) {b:RC} {m:Option (Out×Tb aL)} (h:Le m (au S c lx (.rc b,[],(pF S c n cf).2.2))) (hL:gx S c n cf.1 cf.2.1 cf.2.2=some (.nx,[],(pF S c n cf).2.2):=by kernel_rfl):Le m (au S c (nN S c b) cf):=LS hL h
theorem Ud (n:Nat) {o:Option α} (A:Option α→St) {f:α→Option γ} (h2:∀x,o=some x→Le ((f x).bind e) (au S c Q ((pF S c n cf).1,(pF S c n cf).2.1,A (some x))))
 (hL:gx S c n cf.1 cf.2.1 cf.2.2=some ((pF S c n cf).1,(pF S c n cf).2.1,A o):=by kernel_rfl):Le ((o.bind f).bind e) (au S c Q cf):=PD hL h2
theorem aR.dA {S:Sys} {T:ql} (rf:RF) {fn:FuncId} {A:α→List V} {E:δ→List V} {p:α→Option δ} (h:∀z,Le ((p z).bind fun r=>some (E r)) (au S (fJ S T) (c6 rf.rs) (.rc rf.body,[],start ((A z).map .v) [])))
 (s:∀r,(result (E r)).scalar=true:=by intro r;kernel_rfl) (hT:T fn=some rf:=by kernel_rfl) (hk:S.E.keep fn=false:=by kernel_rfl) (hn:∀z,(A z).length≤rf.na:=by intro z;exact Nat.le_of_ble_eq_true rfl)
 (l:∀z,V.dc 8 (A z)=true:=by intro z;simp) (r:∀r,V.lvl 8 (result (E r))=true:=by intro r;simp):aR S (fJ S T) fn A E p true where
 k:=hk
 h z:=KX hT (hn z) (h z)
 l:=l
 r:=r
 s _:=s
theorem aR.yF {S:Sys} {T:ql} (rf:RF) {fn:FuncId} {A:α→List V} {E:δ→List V} {p:α→Option δ} (h:∀z,Le ((p z).bind fun r=>some (E r)) (au S (fJ S T) (c6 rf.rs) (.rc rf.body,[],start ((A z).map .v) [])))
 (hT:T fn=some rf:=by kernel_rfl) (hk:S.E.keep fn=false:=by kernel_rfl) (hn:∀z,(A z).length≤rf.na:=by intro z;exact Nat.le_of_ble_eq_true rfl)
 (l:∀z,V.dc 8 (A z)=true:=by intro z;simp) (r:∀r,V.lvl 8 (result (E r))=true:=by intro r;simp):aR S (fJ S T) fn A E p false where
 k:=hk
 h z:=KX hT (hn z) (h z)
 l:=l
 r:=r
 s h:=by cases h
theorem aR.SG {S:Sys} {T:ql} [aE δ] {f:FuncId} {A:α→List V} {p:α→Option δ} (hT:T f=none) (hk:S.E.keep f=false) (ho:∀z r,p z=some r→S.tI f (A z)=some (enc r))
 (l:∀z,V.dc 8 (A z)=true:=by intro z;simp) (hr:∀r:δ,V.lvl 8 (result [enc r])=true:=by intro r;simp):aR S (fJ S T) f A (fun r=>[enc r]) p false where
 k:=hk
 h z:=by
  intro y hy;obtain⟨r,h1,h2⟩:=Zi.1 hy;cases h2;have h:=zW hT hk (ho z r h1);unfold jQ;rw[h];exact uD 8 [enc r]
 l:=l
 r:=hr
 s h:=by cases h
def EO:K→Option BinOp
 | .p (.bin _ _ o)=>some o
 | _=>none
theorem Kj {k:K} {o:BinOp} (h:EO k=some o):∃t u,k=.p (.bin t u o):=by
 cases k with
 | p p=>cases p <;> simp[EO]at h;subst h;exact⟨_,_,rfl⟩
 | _=>simp[EO]at h
def Kw:K→Option (Nat×Nat×List Nat)
 | .a (.buildSl sz ln _ ix)=>some (sz,ln,ix)
 | _=>none
theorem LL {k:K} {r:Nat×Nat×List Nat} (h:Kw k=some r):∃z,k=.a (.buildSl r.1 r.2.1 z r.2.2):=by
 unfold Kw at h;split at h
 ·cases h;exact⟨_,rfl⟩
 ·cases h
def MV:K→Option (List V)
 | .a (.alloc _ zero)=>some zero
 | _=>none
theorem MU {k:K} {z:List V} (h:MV k=some z):∃n,k=.a (.alloc n z):=by
 unfold MV at h;split at h
 ·cases h;exact⟨_,rfl⟩
 ·cases h
section
variable [aE α]
theorem Oo (k:IntKind) (n:Nat) {s:Sl α} {i:Int} {f:α→Option γ} (h:∀x,idx s i=some x→Le ((f x).bind e) (au S c Q (nx S c n cf fun p=>cO p.st p.d (cp x))))
 (hL:(iD S c n cf).map (fun p=>(p.k,bu S.N p.st.g p.as))=some (.p (.idxS (aE.size α)),some [.v (cU s),.v (.int k i)]):=by kernel_rfl):Le (((idx s i).bind f).bind e) (au S c Q cf):=by
 obtain⟨p,hp,hv⟩:=gy hL;simp only[Zd]at hv;refine v_ hp ?_ h;rw[hv.1];exact Le.of_eq (IK hv.2 rfl)
theorem bH (n:Nat) {s:Sl α} {i:Int} {f:α→Option γ} (h:∀x,idx s i=some x→Le ((f x).bind e) (au S c Q (nx S c n cf fun p=>cO p.st p.d (cp x))))
 (hL:(iD S c n cf).map (fun p=>(p.k,bu S.N p.st.g p.as))=some (.p (.idxS (aE.size α)),some [.v (cU s),.v (.int .i64 i)]):=by kernel_rfl):Le (((idx s i).bind f).bind e) (au S c Q cf):=Oo .i64 n h hL
theorem tn (k:IntKind) (n u:Nat) {s:Sl α} {i:Int} {f:Nat→Option γ} (h:∀x,s.lW i=some x→Le ((f x).bind e) (au S c Q (nx S c n cf fun p=>cO p.st p.d (.el u x 0))))
 (hL:(iD S c n cf).map (fun p=>(p.k,bu S.N p.st.g p.as,ak p.st.m u))=some (.p (.idxS (aE.size α)),some [.own u,.v (.int k i)],some (dF s)):=by kernel_rfl):Le (((s.lW i).bind f).bind e) (au S c Q cf):=by
 obtain⟨p,hp,hv⟩:=gy hL;simp only[Zd]at hv;refine v_ hp ?_ h;rw[hv.1];exact Le.of_eq (Qe hv.2.1 hv.2.2 rfl)
theorem zD (n u o sz:Nat) (a:Bool) (v:α→V) {s:Sl α} {i:Nat} {f:α→Option γ} (h:∀x,s.get i=some x→Le ((f x).bind e) (au S c Q (nx S c n cf fun p=>cO p.st p.d (.v (v x)))))
 (hL:(iD S c n cf).map (fun p=>(p.k,bu S.N p.st.g p.as,ak p.st.m u,(!p.dr||p.now||eO p.fr [.el u i o])))=some (.r (.load sz a),some [.el u i o],some (dF s),true):=by kernel_rfl) (hv:∀x:α,(cut (cells x) o sz).bind (mk a)=some (v x):=by intro _;rfl):Le (((s.get i).bind f).bind e) (au S c Q cf):=by
 obtain⟨p,hp,hv'⟩:=gy hL;simp only[Zd]at hv';refine v_ hp ?_ h;rw[hv'.1];exact Le.of_eq (MR hv'.2.1 hv'.2.2.2 hv'.2.2.1 hv)
theorem G7 (n u:Nat) (x:V) {s:Sl α} {i:Nat} {a:α} {f:Sl α→Option γ} (h:∀s',s.put i a=some s'→Le ((f s').bind e) (au S c Q (nx S c n cf fun p=>cO { p.st with m:=bl p.st.m u (dF s') } p.d (.v .undef))))
 (hL:(iD S c n cf).map (fun p=>(p.k,bu S.N p.st.g p.as,ak p.st.m u,(!p.dr||p.now),x.cells))=some (.l (.store (aE.size α)),some [.el u i 0,.v x],some (dF s),true,cells a):=by kernel_rfl):Le (((s.put i a).bind f).bind e) (au S c Q cf):=by
 obtain⟨p,hp,hv⟩:=gy hL;simp only[Zd]at hv;refine v_ hp ?_ h;rw[hv.1];exact Le.of_eq (JP hv.2.1 hv.2.2.2.1 hv.2.2.1 hv.2.2.2.2 rfl)
theorem Ls (n u:Nat) {i:Int} {z:α} {f:Sl α→Option γ} (h:∀s',pz i z=some s'→Le ((f s').bind e) (au S c Q (nx S c n cf fun p=>{ p.st with g:=bl p.st.g u (.own u),m:=bl p.st.m u (dF s') })))
 (hL:(iD S c n cf).map (fun p=>(p.d,p.k,bu S.N p.st.g p.as,p.st.new u))=some (some u,.a (.makeSl (aE.size α) (cells z)),some [.v (.int .i64 i),.v (.int .i64 i)],true):=by kernel_rfl):Le (((pz i z).bind f).bind e) (au S c Q cf):=by
 obtain⟨p,hp,hv⟩:=gy hL;simp only[Zd]at hv;refine v_ hp ?_ h;rw[hv.1,hv.2.1];exact Le.of_eq (M4 hv.2.2.1 rfl rfl hv.2.2.2)
theorem tu (n o w u:Nat) {s:Sl α} {x:α} {f:Sl α→Option γ} (h:∀s',gI s x=some s'→Le ((f s').bind e) (au S c Q (nx S c n cf fun p=>{ p.st with g:=bl p.st.g u (.own u),m:=bl (fN o p.st.m) u (dF s') })))
 (hL:(iD S c n cf).map (fun p=>(p.d,p.k,bu S.N p.st.g p.as,(!p.dr||p.now),ak p.st.m o,ak p.st.m w,St.new { p.st with m:=fN o p.st.m } u))=some (some u,.l (.append (aE.size α)),some [.own o,.own w],true,some (dF s),some (dF (.row [x])),true):=by kernel_rfl):Le (((gI s x).bind f).bind e) (au S c Q cf):=by
 obtain⟨p,hp,hv⟩:=gy hL;simp only[Zd]at hv;refine v_ hp ?_ h;rw[hv.1,hv.2.1];exact Le.of_eq (QX hv.2.2.1 hv.2.2.2.1 hv.2.2.2.2.1 hv.2.2.2.2.2.1 rfl hv.2.2.2.2.2.2)
theorem Jf (n w u:Nat) (v:V) (x:α) {m:Option β} (h:Le m (au S c Q (nx S c n cf fun p=>{ p.st with g:=bl p.st.g u (.own u),m:=bl p.st.m u (dF (.row [x])) }))) (hv:v=.ay∨v=.dY:=by first|exact .inl rfl|exact .inr rfl)
 (hL:(iD S c n cf).map (fun p=>(p.d,p.k,bu S.N p.st.g p.as,(!p.dr||p.now),ak p.st.m w,p.st.new u))=some (some u,.l (.append (aE.size α)),some [.v v,.own w],true,some (dF (.row [x])),true):=by kernel_rfl):Le m (au S c Q cf):=by
 obtain⟨p,hp,hq⟩:=gy hL;simp only[Zd]at hq;refine zh hp ?_ h;rw[hq.1,hq.2.1];exact KI hv hq.2.2.1 hq.2.2.2.1 hq.2.2.2.2.1 rfl hq.2.2.2.2.2
theorem bK (n:Nat) (s:Sl α) {m:Option β} (h:Le m (au S c Q (nx S c n cf fun p=>cO p.st p.d (.v (.int .i64 s.l.length)))))
 (hL:(iD S c n cf).map (fun p=>(p.k,bu S.N p.st.g p.as))=some (.p .lenSl,some [.v (cU s)]):=by kernel_rfl):Le m (au S c Q cf):=by
 obtain⟨p,hp,hv⟩:=gy hL;simp only[Zd]at hv;refine zh hp ?_ h;rw[hv.1];exact I5 hv.2
theorem EL (n u:Nat) (s:Sl α) {m:Option β} (h:Le m (au S c Q (nx S c n cf fun p=>cO p.st p.d (.v (.int .i64 s.l.length)))))
 (hL:(iD S c n cf).map (fun p=>(p.k,bu S.N p.st.g p.as,ak p.st.m u))=some (.p .lenSl,some [.own u],some (dF s)):=by kernel_rfl):Le m (au S c Q cf):=by
 obtain⟨p,hp,hv⟩:=gy hL;simp only[Zd]at hv;refine zh hp ?_ h;rw[hv.1];exact KC hv.2.1 hv.2.2
theorem EP (n:Nat) (lo hi:Bool) (bs:List V) {s:Sl α} {a b:Option Int} {f:Sl α→Option γ} (h:∀x,g_ s a b=some x→Le ((f x).bind e) (au S c Q (nx S c n cf fun p=>cO p.st p.d (.v (cU x)))))
 (hL:(iD S c n cf).map (fun p=>(p.k,bu S.N p.st.g p.as,jS lo hi bs))=some (.p (.slice (aE.size α) lo hi),some (.v (cU s)::bs.map .v),some (a,b)):=by kernel_rfl):Le (((g_ s a b).bind f).bind e) (au S c Q cf):=by
 obtain⟨p,hp,hv⟩:=gy hL;simp only[Zd]at hv;obtain⟨h1,h2⟩:=gS hp;obtain⟨dr,fr,d,gd,now,k,as,dd,l,fs,st⟩:=p;obtain⟨rfl,h3,h4⟩:=hv;exact Vx n dr fr (⟨d,gd,now,.p (.slice (aE.size α) lo hi),as,dd,[]⟩::l) fs st lo hi bs (sz:=aE.size α) rfl (by(try dsimp only at *);simp only[h1,h2,h3,h4]) fun s' hs=>by
  have:=h s' hs;simp only[nx,hp]at this;exact this
theorem O4 (n:Nat) (lo hi:Bool) (u t:Nat) (bs:List V) {s:Sl α} {a b:Option Int} {f:Sl α→Option γ} (h:∀x,kn s a b=some x→Le ((f x).bind e) (au S c Q (nx S c n cf fun p=>{ p.st with g:=bl p.st.g t (.own t),m:=bl (fN u p.st.m) t (dF x) })))
 (hL:(iD S c n cf).map (fun p=>(p.d,p.k,p.dr,bu S.N p.st.g p.as,jS lo hi bs,ak p.st.m u,St.new { p.st with m:=fN u p.st.m } t))=some (some t,.p (.slice (aE.size α) lo hi),false,some (.own u::bs.map .v),some (a,b),some (dF s),true):=by kernel_rfl):Le (((kn s a b).bind f).bind e) (au S c Q cf):=by
 obtain⟨p,hp,hv⟩:=gy hL;simp only[Zd]at hv;obtain⟨h1,h2⟩:=gS hp;obtain⟨dr,fr,d,gd,now,k,as,dd,l,fs,st⟩:=p;obtain⟨rfl,rfl,rfl,h3,h4,h5,h6⟩:=hv;exact Qb n fr (⟨some t,gd,now,.p (.slice (aE.size α) lo hi),as,dd,[]⟩::l) fs st lo hi u bs (sz:=aE.size α) rfl h6 (by(try dsimp only at *);simp only[h1,h2,h3,h4,h5]) fun s' hs=>by
  have:=h s' hs;simp only[nx,hp]at this;exact this
theorem dJ (n u:Nat) (x:α) {m:Option β} (h:Le m (au S c Q (nx S c n cf fun p=>{ p.st with g:=bl p.st.g u (.ptr u 0),m:=bl p.st.m u (bx x) })))
 (hL:(iD S c n cf).map (fun p=>(p.d,p.k,bu S.N p.st.g p.as,p.st.new u))=some (some u,.a .box,some [cv x],true):=by kernel_rfl):Le m (au S c Q cf):=by
 obtain⟨p,hp,hv⟩:=gy hL;simp only[Zd]at hv;refine zh hp ?_ h;rw[hv.1,hv.2.1,yG,hv.2.2.1];simp only[Zc,hv.2.2.2,if_true,kT,kR,mR]
def RL (u o sz:Nat) (xs:List SV) (p:Af):St:=match ak p.st.m u with
 | some (.box cs)=>cO { p.st with m:=bl p.st.m u (.box (cs.take o++xs++cs.drop (o+sz))) } p.d (.v .undef)
 | _=>p.st
theorem kZ (n u o:Nat) (x:α) {m:Option β} (h:Le m (au S c Q (nx S c n cf (RL u o (aE.size α) ((cells x).map .v)))))
 (hL:(iD S c n cf).map (fun p=>(p.k,bu S.N p.st.g p.as,(!p.dr||p.now),match ak p.st.m u with|some (.box cs)=>Nat.ble (o+aE.size α) cs.length|_=>false))=some (.l (.store (aE.size α)),some [.ptr u o,cv x],true,true):=by kernel_rfl):Le m (au S c Q cf):=by
 obtain⟨p,hp,hv⟩:=gy hL;simp only[Zd]at hv;refine zh hp ?_ h;obtain⟨h1,h2,h3,h4⟩:=hv;split at h4
 ·rename_i cs hcs;have h9:=Nat.le_of_ble_eq_true h4;rw[h1,s9,h2];simp only[Zc,h3,if_true,kI,hcs,mH,kR,fE,mR,h9,and_self,Option.map_some,RL]
 ·cases h4
theorem KO (n u:Nat) (xs:List α) {m:Option β} (h:Le m (au S c Q (nx S c n cf fun p=>{ p.st with g:=bl p.st.g u (.own u),m:=bl p.st.m u (dF (.row xs)) })))
 (hL:(iD S c n cf).map (fun p=>(p.d,Kw p.k,bu S.N p.st.g p.as,p.st.new u))=some (some u,some (aE.size α,xs.length,List.range' 0 xs.length),some ((xs.map enc).map .v),true):=by kernel_rfl):Le m (au S c Q cf):=by
 obtain⟨p,hp,hv⟩:=gy hL;simp only[Zd]at hv;obtain⟨h1,h2⟩:=gS hp;obtain⟨dr,fr,d,gd,now,k,as,dd,l,fs,st⟩:=p;obtain⟨rfl,h5,h3,h4⟩:=hv;obtain⟨z,rfl⟩:=LL h5;exact Wi n dr fr (⟨some u,gd,now,.a (.buildSl (aE.size α) xs.length z (List.range' 0 xs.length)),as,dd,[]⟩::l) fs st xs rfl h4 (by(try dsimp only at *);simp only[h1,h2,h3]) (by
  simp only[nx,hp]at h;exact h)
theorem Ve (n:Nat) (x:α) (vs z:List V) (pl:List (Nat×Nat)) {m:Option β} (hp':iO z pl vs=some (cells x)) (ha:aE.agg α=true) (h:Le m (au S c Q (nx S c n cf fun p=>cO p.st p.d (cv x))))
 (hL:(iD S c n cf).map (fun p=>(p.k,bu S.N p.st.g p.as))=some (.p (.build z pl),some (vs.map .v)):=by kernel_rfl):Le m (au S c Q cf):=by
 obtain⟨p,hp,hv⟩:=gy hL;simp only[Zd]at hv;obtain⟨h1,h2⟩:=gS hp;obtain⟨dr,fr,d,gd,now,k,as,dd,l,fs,st⟩:=p;obtain⟨rfl,h3⟩:=hv;exact VP n dr fr (⟨d,gd,now,.p (.build z pl),as,dd,[]⟩::l) fs st x vs rfl hp' ha (by(try dsimp only at *);simp only[h1,h2,h3]) (by
  simp only[nx,hp]at h;exact h)
end
theorem Vl (n:Nat) (k':IntKind) {k:IntKind} {a b:Int} {f:Int→Option γ} (h:∀x,tj k a b=some x→Le ((f x).bind e) (au S c Q (nx S c n cf fun p=>cO p.st p.d (.v (.int k x)))))
 (hL:(iD S c n cf).map (fun p=>(EO p.k,bu S.N p.st.g p.as))=some (some .shr,some [.v (.int k a),.v (.int k' b)]):=by kernel_rfl):Le (((tj k a b).bind f).bind e) (au S c Q cf):=by
 obtain⟨p,hp,hv⟩:=gy hL;simp only[Zd]at hv;obtain⟨t,u,hk⟩:=Kj hv.1;refine v_ hp ?_ h;rw[hk];exact Le.of_eq (QW hv.2)
theorem uv (n:Nat) (k:IntKind) {a:ByteArray} {b:Int} {f:Int→Option γ} (h:∀x,gP a b=some x→Le ((f x).bind e) (au S c Q (nx S c n cf fun p=>cO p.st p.d (.v (.int .u8 x)))))
 (hL:(iD S c n cf).map (fun p=>(p.k,bu S.N p.st.g p.as))=some (.p .idxStr,some [.v (.str a),.v (.int k b)]):=by kernel_rfl):Le (((gP a b).bind f).bind e) (au S c Q cf):=by
 obtain⟨p,hp,hv⟩:=gy hL;simp only[Zd]at hv;refine v_ hp ?_ h;rw[hv.1];exact Le.of_eq (HK hv.2)
section
variable {A:α→List V} {E:δ→List V} {pl:α→Option δ} {fn:FuncId} {sc:Bool}
theorem aV (n:Nat) (F:aR S c fn A E pl sc) (z:α) {f:δ→Option γ} (h:∀x,pl z=some x→Le ((f x).bind e) (au S c Q (nx S c n cf fun p=>cO p.st p.d (.v (result (E x))))))
 (hL:(iD S c n cf).map (fun p=>(p.k,(bu S.N p.st.g p.as).bind qf,(!p.dr||p.now||gY p.st.m p.fr [])))=some (.c,some (fn,(A z).map .v),true):=by kernel_rfl):Le (((pl z).bind f).bind e) (au S c Q cf):=by
 obtain⟨p,hp,hv⟩:=gy hL;simp only[Zd]at hv;obtain⟨h3,h4,h5⟩:=hv;obtain⟨svs,g1,g2⟩:=Zi.1 h4;have hnil:∀d (vs:List V),SV.c_ d (vs.map .v)=false:=fun d vs=>by
  induction vs with
  | nil=>rfl
  | cons a l ih=>simp only[List.map_cons,SV.c_,SV.cz,ih,Bool.or_self]
 have ho:(!p.dr||p.now||gY p.st.m p.fr ((A z).map .v))=true:=by
  have:gY p.st.m p.fr ((A z).map .v)=gY p.st.m p.fr []:=by unfold gY;simp only[hnil];rfl
  rw[this];exact h5
 refine v_ hp ?_ h;rw[h3];exact BB (F.h z) F.k g1 g2 (BO _ _ _) (F.l z) ho (fun r=>by rw[F.r,nT];simp)
theorem jE (n:Nat) (F:aR S c fn A E pl true) (z:α) {f:δ→Option γ} (h:∀x,pl z=some x→Le ((f x).bind e) (au S c Q (nx S c n cf fun p=>cO p.st p.d (.v (result (E x))))))
 (hL:(iD S c n cf).map (fun p=>(p.k,((bu S.N p.st.g p.as).bind qf).bind fun q=>(kW (gT p.st.m 8) q.2).map fun vs=>(q.1,vs,((!p.dr||p.now)||gY p.st.m p.fr q.2))))=some (.c,some (fn,A z,true)):=by kernel_rfl):Le (((pl z).bind f).bind e) (au S c Q cf):=by
 obtain⟨p,hp,hv⟩:=gy hL;simp only[Zd]at hv;obtain⟨h3,h4⟩:=hv;obtain⟨q,g1,g2⟩:=Zi.1 h4;obtain⟨svs,g3,g4⟩:=Zi.1 g1;obtain⟨vs,g5,g6⟩:=Zh.1 g2;simp only[Zd]at g6;obtain⟨e1,rfl,e3⟩:=g6;refine v_ hp ?_ h;rw[h3];exact BB (F.h z) F.k g3 (by rw[g4,←e1]) g5 (F.l z) e3 (fun r=>by rw[F.r,F.s rfl];rfl)
end
section
variable {N:Nat} [aE α]
theorem Jd (n:Nat) (k:IntKind) {a:bt N α} {i:Int} {f:α→Option γ} (h:∀x,a.at i=some x→Le ((f x).bind e) (au S c Q (nx S c n cf fun p=>cO p.st p.d (.v (.fptr (pa a i))))))
 (hL:(iD S c n cf).map (fun p=>(p.k,bu S.N p.st.g p.as))=some (.p (.idxA N (aE.size α)),some [cp a,.v (.int k i)]):=by kernel_rfl):Le (((a.at i).bind f).bind e) (au S c Q cf):=by
 obtain⟨p,hp,hv⟩:=gy hL;simp only[Zd]at hv;obtain⟨h1,h2⟩:=gS hp;obtain⟨dr,fr,d,gd,now,k',as,dd,l,fs,st⟩:=p;obtain⟨rfl,h3⟩:=hv;exact Ng n dr fr (⟨d,gd,now,.p (.idxA N (aE.size α)),as,dd,[]⟩::l) fs st k (sz:=aE.size α) (ln:=N) rfl (by(try dsimp only at *);simp only[h1,h2,h3]) fun x hx=>by
  have:=h x hx;simp only[nx,hp]at this;exact this
theorem G_ (n k:Nat) (a:bt N α) (i:Int) (o:Nat) (x:α) (hx:a.at i=some x) {m:Option β} (h:Le m (au S c Q (nx S c n cf fun p=>cO p.st p.d (.v (.fptr ((pa a i).drop (o+k)))))))
 (hL:(iD S c n cf).map (fun p=>(p.k,bu S.N p.st.g p.as,Nat.ble (o+k) (aE.size α)))=some (.p (.fieldAddr k),some [.v (.fptr ((pa a i).drop o))],true):=by kernel_rfl):Le m (au S c Q cf):=by
 obtain⟨p,hp,hv⟩:=gy hL;simp only[Zd]at hv;obtain⟨h1,h2⟩:=gS hp;obtain⟨dr,fr,d,gd,now,k',as,dd,l,fs,st⟩:=p;obtain⟨rfl,h3,h4⟩:=hv;exact Tw n dr fr (⟨d,gd,now,.p (.fieldAddr k),as,dd,[]⟩::l) fs st a i o x hx rfl (by(try dsimp only at *);simp only[h1,h2,h3,h4]) (by
  simp only[nx,hp]at h;exact h)
theorem IQ (n sz:Nat) (ag:Bool) (a:bt N α) (i:Int) (o:Nat) (x:α) (hx:a.at i=some x) (v:V) (hv:(cut (cells x) o sz).bind (mk ag)=some v) {m:Option β} (h:Le m (au S c Q (nx S c n cf fun p=>cO p.st p.d (.v v))))
 (hL:(iD S c n cf).map (fun p=>(p.k,bu S.N p.st.g p.as))=some (.r (.load sz ag),some [.v (.fptr ((pa a i).drop o))]):=by kernel_rfl):Le m (au S c Q cf):=by
 obtain⟨p,hp,hv'⟩:=gy hL;simp only[Zd]at hv';obtain⟨h1,h2⟩:=gS hp;obtain⟨dr,fr,d,gd,now,k',as,dd,l,fs,st⟩:=p;obtain⟨rfl,h3⟩:=hv';exact PM n dr fr (⟨d,gd,now,.r (.load sz ag),as,dd,[]⟩::l) fs st a i o x hx hv v rfl (by(try dsimp only at *);simp only[h1,h2,h3]) (by
  simp only[nx,hp]at h;exact h)
theorem Ms (n u:Nat) (st:St) (cs:List SV) {m:Option β} (h4:st.new u=true) (h:Le m (au S c Q (nx S c n cf fun _=>{ st with g:=bl st.g u (.ptr u 0),m:=bl st.m u (.box cs) })))
 (hL:(iD S c n cf).map (fun p=>(p.d,(MV p.k).map (fun z=>z.map SV.v),bu S.N p.st.g p.as,p.st))=some (some u,some cs,some [],st):=by kernel_rfl):Le m (au S c Q cf):=by
 obtain⟨p,hp,hv⟩:=gy hL;simp only[Zd]at hv;obtain⟨z,hz,hz2⟩:=gy hv.2.1;obtain⟨k,hk⟩:=MU hz;refine zh hp ?_ h;rw[hv.1,hk,yG,hv.2.2.1,hv.2.2.2];simp only[Zc,h4,if_true,kT,hz2]
theorem AW (n:Nat) (k:IntKind) (u:Nat) {a:bt N α} {i:Int} {f:α→Option γ} (h:∀x,a.at i=some x→Le ((f x).bind e) (au S c Q (nx S c n cf fun p=>cO p.st p.d (.ptr u (i.toNat*aE.size α+0)))))
 (hL:(iD S c n cf).map (fun p=>(p.k,bu S.N p.st.g p.as,ak p.st.m u))=some (.p (.idxA N (aE.size α)),some [.ptr u 0,.v (.int k i)],some (bx a)):=by kernel_rfl):Le (((a.at i).bind f).bind e) (au S c Q cf):=by
 obtain⟨p,hp,hv⟩:=gy hL;simp only[Zd]at hv;obtain⟨h1,h2⟩:=gS hp;obtain⟨dr,fr,d,gd,now,k',as,dd,l,fs,st⟩:=p;obtain⟨rfl,h3,h4⟩:=hv;exact PV n dr fr (⟨d,gd,now,.p (.idxA N (aE.size α)),as,dd,[]⟩::l) fs st k u (sz:=aE.size α) (ln:=N) rfl (by(try dsimp only at *);simp only[h1,h2,h3,h4]) fun x hx=>by
  have:=h x hx;simp only[nx,hp]at this;exact this
theorem IU (n sz:Nat) (ag:Bool) (u:Nat) (a:bt N α) (i:Int) (o:Nat) (x:α) (hx:a.at i=some x) (v:V) (hv:(cut (cells x) o sz).bind (mk ag)=some v) {m:Option β} (h:Le m (au S c Q (nx S c n cf fun p=>cO p.st p.d (.v v))))
 (hL:(iD S c n cf).map (fun p=>(p.k,bu S.N p.st.g p.as,ak p.st.m u,(!p.dr||p.now||eO p.fr [.ptr u 0])))=some (.r (.load sz ag),some [.ptr u (i.toNat*aE.size α+o)],some (bx a),true):=by kernel_rfl):Le m (au S c Q cf):=by
 obtain⟨p,hp,hv'⟩:=gy hL;simp only[Zd]at hv';obtain⟨h1,h2⟩:=gS hp;obtain⟨dr,fr,d,gd,now,k',as,dd,l,fs,st⟩:=p;obtain⟨rfl,h3,h4,h5⟩:=hv';exact P5 n dr fr (⟨d,gd,now,.r (.load sz ag),as,dd,[]⟩::l) fs st u a i o x hx hv v rfl (by(try dsimp only at *);simp only[h1,h2,h3,h4,h5]) (by
  simp only[nx,hp]at h;exact h)
theorem IV (n sz u:Nat) (a:bt N α) (i:Int) (o:Nat) (x:α) (hx:a.at i=some x) (y:α) (v:V) (hy:cells y=(cells x).take o++v.cells++(cells x).drop (o+sz)) {m:Option β} (h:Le m (au S c Q (nx S c n cf fun p=>cO { p.st with m:=bl p.st.m u (bx (a.set i y)) } p.d (.v .undef))))
 (hL:(iD S c n cf).map (fun p=>(p.k,bu S.N p.st.g p.as,ak p.st.m u,(!p.dr||p.now),v.cells.length,v.cells.all V.one,Nat.ble (o+sz) (aE.size α)))=some (.l (.store sz),some [.ptr u (i.toNat*aE.size α+o),.v v],some (bx a),true,sz,true,true):=by kernel_rfl):Le m (au S c Q cf):=by
 obtain⟨p,hp,hv'⟩:=gy hL;simp only[Zd]at hv';obtain⟨h1,h2⟩:=gS hp;obtain⟨dr,fr,d,gd,now,k',as,dd,l,fs,st⟩:=p;obtain⟨rfl,h3,h4,h5,h6,h7,h8⟩:=hv';exact Pa n dr fr (⟨d,gd,now,.l (.store sz),as,dd,[]⟩::l) fs st u a i o x hx y v hy rfl (by(try dsimp only at *);simp only[h1,h2,h3,h4,h5,h6,h7,h8]) (by
  simp only[nx,hp]at h;exact h)
end
section
variable {κ ν:Type} [aE κ] [DecidableEq κ] [Key κ] [aE ν]
theorem Oj (n u:Nat) (mp:Mo κ ν) (k:κ) (z:ν) {m:Option β} (h:Le m (au S c Q (nx S c n cf fun p=>cO p.st p.d (cv (zj mp k z)))))
 (hL:(iD S c n cf).map (fun p=>(p.k,bu S.N p.st.g p.as,ak p.st.m u,(!p.dr||p.now||eO p.fr [.mp u,cv k])))=some (.r (.lookup (Key.kk κ) (enc z) false),some [.mp u,cv k],some (mG mp),true):=by kernel_rfl):Le m (au S c Q cf):=by
 obtain⟨p,hp,hv⟩:=gy hL;simp only[Zd]at hv;obtain⟨h1,h2⟩:=gS hp;obtain⟨dr,fr,d,gd,now,k',as,dd,l,fs,st⟩:=p;obtain⟨rfl,h3,h4,h5⟩:=hv;exact OC n dr fr (⟨d,gd,now,.r (.lookup (Key.kk κ) (enc z) false),as,dd,[]⟩::l) fs st u mp k z rfl (by(try dsimp only at *);simp only[h1,h2,h3,h4,h5]) (by
  simp only[nx,hp]at h;exact h)
theorem TY (n u:Nat) (mp:Mo κ ν) (k:κ) (v:ν) {m:Option β} (h:Le m (au S c Q (nx S c n cf fun p=>cO { p.st with m:=bl p.st.m u (mG (mO mp k v)) } p.d (.v .undef))))
 (hL:(iD S c n cf).map (fun p=>(p.k,bu S.N p.st.g p.as,ak p.st.m u,(!p.dr||p.now)))=some (.l (.mapUp (Key.kk κ)),some [.mp u,cv k,cv v],some (mG mp),true):=by kernel_rfl):Le m (au S c Q cf):=by
 obtain⟨p,hp,hv'⟩:=gy hL;simp only[Zd]at hv';obtain⟨h1,h2⟩:=gS hp;obtain⟨dr,fr,d,gd,now,k',as,dd,l,fs,st⟩:=p;obtain⟨rfl,h3,h4,h5⟩:=hv';exact Vm n dr fr (⟨d,gd,now,.l (.mapUp (Key.kk κ)),as,dd,[]⟩::l) fs st u mp k v rfl (by(try dsimp only at *);simp only[h1,h2,h3,h4,h5]) (by
  simp only[nx,hp]at h;exact h)
end
theorem PK (n:Nat) (st:St) {rs:List RV} {e:γ→Option (List V)} {r:γ} (svs:List SV) {ys:List V} (h2:kW (gT st.m 8) svs=some ys) (h3:e r=some ys)
 (h:(gx S c n cf.1 cf.2.1 cf.2.2).map (fun q=>(q.1,q.2.2,lX q.2.2 rs))=some (.rt,st,some svs):=by kernel_rfl):Le ((some r).bind e) (au S c (c6 rs) cf):=by
 obtain⟨⟨fo,fs,st'⟩,hp,hv⟩:=gy h;simp only[Zd]at hv;obtain⟨rfl,rfl,h5⟩:=hv;exact NP n svs h2 (by rw[hp,h5]) h3
end
end Go.VE
namespace Go.VE
def bJ (N:Nat→FuncId) (F:Frame):Arg→V
 | .s n=>get F n
 | .k c=>c
 | .f s=>.clo (N s) [] []
def cP (E:Env) (N:Nat→FuncId) (call:dN) (b:Option Nat) (now:Bool) (k:K) (vs:List V) (H:an):Option (V×an):=
 match k,b with
 | .p p,_=>(aI N p vs).map fun v=>(v,H)
 | .r r,none=>(fu H r vs).map fun v=>(v,H)
 | .r r,some b=>(fu (H.take b) r vs).map fun v=>(v,H)
 | .a a,none=>(iM a vs).map fun x=>(x.2.val H.length,H++[x.1])
 | .l l,none=>gA H l vs
 | .l (.store n),some _=>if now then gA H (.store n) vs else none
 | .c,none=>match vs with
  | .clo g a c::av=>if E.keep g then e7 E call g (a++av++c) H else none
  | _=>none
 | _,_=>none
def br (F:Frame):Option Nat→V→Frame
 | none,_=>F
 | some d,v=>set F d v
def e_ (E:Env) (N:Nat→FuncId) (call:dN) (b:Option Nat):List RO→Frame→an→Option (Frame×an)
 | [],F,H=>some (F,H)
 | o::r,F,H=>match o.gd with
  | none=>match cP E N call b o.now o.k (o.as.map (bJ N F)) H with
   | some (v,H')=>e_ E N call b r (br F o.dst v) H'
   | none=>none
  | some _=>none
section
variable {X:CX} {N:Nat→FuncId} {call:dN} {F F':Frame} {H H':an}
theorem C6 (hN:∀f s,X.nm f=some s→N s=f) {o:Operand} {x:Arg} (h:lZ X.nm o=some x):ev F o=some (bJ N F x):=by
 cases o with
 | tmp t=>simp only[lZ,Za]at h;subst h;rfl
 | const w=>
  simp only[lZ]at h;split at h
  ·rename_i c hc;split at h
   ·simp only[Za]at h;subst h;exact hc
   ·simp at h
  ·simp at h
 | func f=>
  simp only[lZ]at h;obtain⟨s,hs,rfl⟩:=Zh.1 h;show some (V.clo f [] [])=some (.clo (N s) [] []);rw[hN f s hs]
 | global _=>simp[lZ]at h
theorem wE (hN:∀f s,X.nm f=some s→N s=f):∀{os:List Operand} {av:List Arg},os.mapM (lZ X.nm)=some av→fP F os=some (av.map (bJ N F))
 | [],av,h=>by simp only[List.mapM_nil,Option.pure_def,Za]at h;subst h;rfl
 | o::os,av,h=>by
  simp only[List.mapM_cons,Option.pure_def,Option.bind_eq_bind,Zi,Za]at h;obtain⟨x,hx,xs,hxs,rfl⟩:=h;simp only[fP,C6 hN hx,wE hN hxs,List.map_cons]
theorem uO (hN:∀f s,X.nm f=some s→N s=f) {draw:Bool} {ops:List Oper} {i:Nat} {o:Oper} {ro:RO} (h:j7 X draw ops i o=some ro) (hg:ro.gd=none) :
 o.dst=ro.dst∧u_ X.nt o.dst=true∧eZ ops F o=true∧((DW X.E N F o.op (ro.as.map (bJ N F)) ro.k∧ro.now=(draw&&eJ ops i))∨∃n,ro.k=.l (.storeF n)):=by
 unfold j7 at h;split at h
 ·rename_i hd;split at h
  ·rename_i gd k os hgd hr;split at h
   ·obtain⟨av,ha,rfl⟩:=Zh.1 h;simp only at hg;subst hg;refine⟨rfl,hd,?_,?_⟩
    ·unfold eZ;unfold Eh at hgd
     cases hgo:o.guard with
     | none=>rfl
     | some jb=>
      rw[hgo]at hgd;obtain⟨j,b⟩:=jb;obtain⟨d,_,e⟩:=Zh.1 hgd;cases e
    ·rcases tg draw ops i k os with e|⟨_,_,n,a,l,os',_,_,_,e⟩
     ·rw[e]at ha ⊢;exact .inl ⟨nL hN hr (wE hN ha),rfl⟩
     ·rw[e];exact .inr ⟨n,rfl⟩
   ·simp at h
  ·simp at h
 ·simp at h
theorem Cb {nt:Nat} {dst:Option Nat} (h:u_ nt dst=true) (v:V):g9 nt F dst v=some (br F dst v):=by
 cases dst with
 | none=>rfl
 | some d=>simp only[u_,decide_eq_true_eq]at h;simp only[g9,if_pos h,br]
theorem Lj (hN:∀f s,X.nm f=some s→N s=f) {ops:List Oper} {i:Nat} {o:Oper} {ro:RO} (h:j7 X false ops i o=some ro) (hg:ro.gd=none) {v:V} (hv:cP X.E N call none ro.now ro.k (ro.as.map (bJ N F)) H=some (v,H')) :
 eW X.E call X.nt ops none o F H=some (br F ro.dst v,H'):=by
 obtain⟨h1,h2,h3,h4⟩:=uO (F:=F) hN h hg;have hd:dL X.E call ops none F H o.op=some (v,H'):=by
  rcases h4 with⟨h4,_⟩|⟨n,h4⟩
  ·generalize hk:ro.k=k at hv h4;generalize ro.as.map (bJ N F)=vs at hv h4;unfold dL
   cases k with
   | p p=>
    obtain⟨c,e⟩:=h4;obtain⟨w,hw,he⟩:=Zh.1 hv;rw[c];simp only[e w hw,Option.map_some];rw[he]
   | r r=>
    obtain⟨c,e⟩:=h4;obtain⟨w,hw,he⟩:=Zh.1 hv;rw[c];simp only[e H w hw,Option.map_some];rw[he]
   | a a=>
    obtain⟨c,e⟩:=h4;obtain⟨⟨ob,m⟩,hw,he⟩:=Zh.1 hv;rw[c];simp only[e _ hw];exact congrArg some he
   | l l=>
    obtain⟨c,e⟩:=h4;rw[c];exact e H _ hv
   | c=>
    obtain⟨c,f,av,rfl,e⟩:=h4;rw[c];simp only[cP]at hv;split at hv
    ·rename_i g a b as' heq;simp only[List.cons.injEq]at heq;obtain⟨rfl,rfl⟩:=heq;split at hv
     ·rename_i hk2;simp only[e,hk2,if_true];exact hv
     ·simp at hv
    ·simp at hv
  ·rw[h4]at hv;exfalso;have:∀ops i k os,(rG false ops i k os).1=k:=fun _ _ _ _=>rfl
   unfold j7 at h;split at h
   ·split at h
    ·rename_i gd k os hgd hr;split at h
     ·obtain⟨av,ha,rfl⟩:=Zh.1 h;simp only[this]at h4;subst h4;unfold resolve at hr
      (repeat' split at hr) <;> first|(simp at hr;done)|(obtain⟨_,_,e⟩:=Zh.1 hr;simp at e;done)
     ·simp at h
    ·simp at h
   ·first|(simp at h;done)|contradiction
 unfold eW;rw[h3,if_pos rfl,hd];simp only[h1,Cb (h1▸h2),Option.map_some]
theorem Cg (hN:∀f s,X.nm f=some s→N s=f) {ops:List Oper}:∀(rest:List Oper) {i:Nat} {ros:List RO} {F:Frame} {H:an},jn X false ops i rest=some ros→e_ X.E N call none ros F H=some (F',H')→i_ X.E call X.nt ops rest F H=some (F',H')
 | [],i,ros,F,H,hc,h=>by
  simp only[jn,Za]at hc;subst hc;exact h
 | o::rest,i,ros,F,H,hc,h=>by
  simp only[jn]at hc;split at hc
  ·rename_i ro rs h1 h2;simp only[Za]at hc;subst hc;simp only[e_]at h;split at h
   ·rename_i hg;split at h
    ·rename_i v H1 hv;simp only[i_,Lj hN h1 hg hv];exact Cg hN rest h2 h
    ·simp at h
   ·simp at h
  ·simp at hc
theorem KD (hN:∀f s,X.nm f=some s→N s=f) {ops:List Oper} {b i:Nat} {o:Oper} {ro:RO} (h:j7 X true ops i o=some ro) (hg:ro.gd=none) {v:V} (hv:cP X.E N call (some b) ro.now ro.k (ro.as.map (bJ N F)) H=some (v,H')) :
 eW X.E call X.nt ops (some (b,i)) o F H=some (br F ro.dst v,H'):=by
 obtain⟨h1,h2,h3,h4⟩:=uO (F:=F) hN h hg;have hd:dL X.E call ops (some (b,i)) F H o.op=some (v,H'):=by
  rcases h4 with⟨h4,hnow⟩|⟨n,h4⟩
  ·generalize hk:ro.k=k at hv h4;generalize ro.as.map (bJ N F)=vs at hv h4;unfold dL
   cases k with
   | p p=>
    obtain⟨c,e⟩:=h4;obtain⟨w,hw,he⟩:=Zh.1 hv;rw[c];simp only[e w hw,Option.map_some];rw[he]
   | r r=>
    obtain⟨c,e⟩:=h4;obtain⟨w,hw,he⟩:=Zh.1 hv;rw[c];simp only[e _ w hw];rw[he]
   | a a=>simp[cP]at hv
   | l l=>
    obtain⟨c,e⟩:=h4
    cases l with
    | store n=>
     simp only[cP]at hv;split at hv
     ·rename_i hn;rw[hnow,Bool.true_and]at hn;rw[c];simp only[hn,Bool.true_or,if_true];exact e H _ hv
     ·simp at hv
    | _=>simp[cP]at hv
   | c=>simp[cP]at hv
  ·rw[h4]at hv;simp[cP]at hv
 unfold eW;rw[h3,if_pos rfl,hd];simp only[h1,Cb (h1▸h2),Option.map_some]
theorem BE (hN:∀f s,X.nm f=some s→N s=f) {ops:List Oper} {b:Nat}:∀(rest:List Oper) {i:Nat} {ros:List RO} {F:Frame} {H:an},ops.drop i=rest→jn X true ops i rest=some ros→e_ X.E N call (some b) ros F H=some (F',H') →
 gE X.E call X.nt ops b (List.range' i rest.length) F H=some (F',H')
 | [],i,ros,F,H,_,hc,h=>by
  simp only[jn,Za]at hc;subst hc;exact h
 | o::rest,i,ros,F,H,hd,hc,h=>by
  simp only[jn]at hc;split at hc
  ·rename_i ro rs h1 h2;simp only[Za]at hc;subst hc;simp only[e_]at h;split at h
   ·rename_i hg;split at h
    ·rename_i v H1 hv;have ho:ops[i]? = some o:=by
      have:(ops.drop i)[0]? = some o:=by rw[hd];rfl
      rwa [List.getElem?_drop,Nat.add_zero]at this
     have hd':ops.drop (i+1)=rest:=by
      rw[←List.drop_drop,hd];rfl
     simp only[List.length_cons,List.range'_succ,gE,ho,KD hN h1 hg hv];exact BE hN rest hd' h2 h
    ·simp at h
   ·simp at h
  ·simp at hc
def vi (l:List RO):Bool:=l.all fun o=>(match o.k with|.a _=>false|_=>true)&&o.gd.isNone
theorem yb (hN:∀f s,X.nm f=some s→N s=f) {ops:List Oper}:∀(rest:List Oper) {i:Nat} {ros:List RO},jn X true ops i rest=some ros→vi ros=true→rest.any (fun o=>eG o.op==.alloc)=false
 | [],_,_,_,_=>rfl
 | o::rest,i,ros,hc,hn=>by
  simp only[jn]at hc;split at hc
  ·rename_i ro rs h1 h2;simp only[Za]at hc;subst hc;simp only[vi,List.all_cons,Zj,Option.isNone_iff_eq_none]at hn;obtain⟨_,_,_,h4⟩:=uO (F:=[]) hN h1 hn.1.2;rw[List.any_cons,yb hN rest h2 hn.2,Bool.or_false];rcases h4 with⟨h4,_⟩|⟨n,h4⟩
   ·cases hk:ro.k with
    | p p=>rw[hk]at h4;rw[h4.1];rfl
    | r p=>rw[hk]at h4;rw[h4.1];rfl
    | a p=>have:=hn.1.1;rw[hk]at this;cases this
    | l p=>rw[hk]at h4;rw[h4.1];rfl
    | c=>rw[hk]at h4;rw[h4.1];rfl
   ·
    unfold j7 at h1;split at h1
    ·split at h1
     ·rename_i gd k os hgd hr;split at h1
      ·obtain⟨av,ha,rfl⟩:=Zh.1 h1;rcases tg true ops i k os with e|⟨_,_,m,a,l,os',rfl,rfl,_,e⟩
       ·simp only[e]at h4;subst h4;unfold resolve at hr
        (repeat' split at hr) <;> first|(simp at hr;done)|(obtain⟨_,_,e⟩:=Zh.1 hr;simp at e;done)
       ·rw[e]at ha;obtain⟨v1,v2,g1,_,_⟩:=zl (F:=[]) (wE (N:=N) hN ha);have:=(nL hN hr g1).1;rw[this];rfl
      ·simp at h1
     ·simp at h1
    ·first|(simp at h1;done)|contradiction
  ·simp at hc
def fY (E:Env) (N:Nat→FuncId) (call:dN) (lf:Nat):RC→Frame→an→Option (Out×Frame×an)
 | .skip,F,H=>some (.norm,F,H)
 | .ops l,F,H=>(e_ E N call none l F H).map fun x=>(.norm,x.1,x.2)
 | .gb l,F,H=>if vi l then(e_ E N call (some H.length) l F H).map fun x=>(.norm,x.1,x.2)else none
 | .seq a b,F,H=>match fY E N call lf a F H with
  | some (.norm,F',H')=>fY E N call lf b F' H'
  | r=>r
 | .cond x a b,F,H=>match bJ N F x with
  | .bool t=>if t then fY E N call lf a F H else fY E N call lf b F H
  | _=>none
 | .block id c,F,H=>match fY E N call lf c F H with
  | some (.exit id',F',H')=>if id'=id then some (.norm,F',H')else some (.exit id',F',H')
  | r=>r
 | .loop c,F,H=>iu (fY E N call lf c) lf F H
 | .exit id,F,H=>some (.exit id,F,H)
 | .ret,F,H=>some (.ret,F,H)
 | _,_,_=>none
theorem Bd {f g:Frame→an→Option (Out×Frame×an)} (h:∀F H r,f F H=some r→g F H=some r):∀(k:Nat) (F:Frame) (H:an) (r:Out×Frame×an),iu f k F H=some r→iu g k F H=some r
 | 0,F,H,r,hr=>by simp[iu]at hr
 | k+1,F,H,r,hr=>by
  simp only[iu]at hr ⊢
  cases hf:f F H with
  | none=>rw[hf]at hr;simp at hr
  | some q=>
   rw[hf]at hr;rw[h F H q hf];obtain⟨o,F1,H1⟩:=q
   cases o with
   | norm=>exact Bd h k F1 H1 r hr
   | exit _=>exact hr
   | ret=>exact hr
theorem Ii (hN:∀f s,X.nm f=some s→N s=f) {lf:Nat}:∀(rc:RC) (code:Code) (F:Frame) (H:an) (r:Out×Frame×an),aP X false code=some rc→fY X.E N call lf rc F H=some r→exec X.E call lf false X.nt code F H=some r:=by
 intro rc
 induction rc with
 | skip=>
  intro code F H r hc h;simp only[fY,Za]at h;subst h
  cases code with
  | skip=>rfl
  | label _=>rfl
  | region id ops draw=>simp only[aP]at hc;(repeat' split at hc) <;> first|(simp at hc;done)|(obtain⟨_,_,e⟩:=Zh.1 hc;cases e)
  | _=>simp only[aP]at hc;(repeat' split at hc) <;> first|(simp at hc;done)|(obtain⟨_,_,e⟩:=Zh.1 hc;cases e)|cases hc
 | ops l=>
  intro code F H r hc h
  cases code with
  | region id ops draw=>
   simp only[aP]at hc;split at hc
   ·split at hc
    ·obtain⟨_,_,e⟩:=Zh.1 hc;cases e
    ·simp at hc
   ·rename_i hd;obtain⟨l',hl,e⟩:=Zh.1 hc;cases e;simp only[fY]at h;obtain⟨⟨F',H'⟩,hv,rfl⟩:=Zh.1 h;simp only[exec,gG,hd];rw[if_neg (by simp),Cg hN _ hl hv];rfl
  | _=>simp only[aP]at hc;(repeat' split at hc) <;> first|(simp at hc;done)|(obtain⟨_,_,e⟩:=Zh.1 hc;cases e)|cases hc
 | gb l=>
  intro code F H r hc h
  cases code with
  | region id ops draw=>
   simp only[aP]at hc;split at hc
   ·rename_i hd;split at hc
    ·rename_i hok;obtain⟨l',hl,e⟩:=Zh.1 hc;cases e;simp only[fY]at h;split at h
     ·rename_i hn;obtain⟨⟨F',H'⟩,hv,rfl⟩:=Zh.1 h;have ha:mK ops.toList=false:=yb hN _ hl hn;have:=BE hN ops.toList (i:=0) rfl hl hv;rw[←List.range_eq_range']at this;simp only[exec,gG,hd,hok,if_true,ha,Bool.false_eq_true,if_false,this];rfl
     ·simp at h
    ·simp at hc
   ·obtain⟨_,_,e⟩:=Zh.1 hc;cases e
  | _=>simp only[aP]at hc;(repeat' split at hc) <;> first|(simp at hc;done)|(obtain⟨_,_,e⟩:=Zh.1 hc;cases e)|cases hc
 | seq a b iha ihb=>
  intro code F H r hc h
  cases code with
  | seq a' b'=>
   simp only[aP]at hc;split at hc
   ·rename_i x y hx hy;cases hc;simp only[fY]at h;simp only[exec]
    cases hva:fY X.E N call lf a F H with
    | none=>rw[hva]at h;simp at h
    | some q=>
     rw[hva]at h;rw[iha a' F H q hx hva];obtain⟨o,F1,H1⟩:=q
     cases o with
     | norm=>exact ihb b' F1 H1 r hy h
     | exit _=>exact h
     | ret=>exact h
   ·simp at hc
  | region id ops draw=>simp only[aP]at hc;(repeat' split at hc) <;> first|(simp at hc;done)|(obtain⟨_,_,e⟩:=Zh.1 hc;cases e)
  | _=>simp only[aP]at hc;(repeat' split at hc) <;> first|(simp at hc;done)|(obtain⟨_,_,e⟩:=Zh.1 hc;cases e)|cases hc
 | cond x a b iha ihb=>
  intro code F H r hc h
  cases code with
  | cond c a' b'=>
   simp only[aP]at hc;split at hc
   ·rename_i x' y z hx hy hz;cases hc;simp only[fY]at h;simp only[exec,C6 (F:=F) hN hx];split at h
    ·rename_i t ht;rw[ht]
     cases t with
     | true=>simp only[if_true]at h ⊢;exact iha a' F H r hy h
     | false=>simp only[Bool.false_eq_true,if_false]at h ⊢;exact ihb b' F H r hz h
    ·simp at h
   ·simp at hc
  | region id ops draw=>simp only[aP]at hc;(repeat' split at hc) <;> first|(simp at hc;done)|(obtain⟨_,_,e⟩:=Zh.1 hc;cases e)
  | _=>simp only[aP]at hc;(repeat' split at hc) <;> first|(simp at hc;done)|(obtain⟨_,_,e⟩:=Zh.1 hc;cases e)|cases hc
 | block id c ih=>
  intro code F H r hc h
  cases code with
  | block id' c'=>
   simp only[aP]at hc;obtain⟨x,hx,e⟩:=Zh.1 hc;cases e;simp only[fY]at h;simp only[exec]
   cases hva:fY X.E N call lf c F H with
   | none=>rw[hva]at h;simp at h
   | some q=>
    rw[hva]at h;rw[ih c' F H q hx hva];exact h
  | region id ops draw=>simp only[aP]at hc;(repeat' split at hc) <;> first|(simp at hc;done)|(obtain⟨_,_,e⟩:=Zh.1 hc;cases e)
  | _=>simp only[aP]at hc;(repeat' split at hc) <;> first|(simp at hc;done)|(obtain⟨_,_,e⟩:=Zh.1 hc;cases e)|cases hc
 | loop c ih=>
  intro code F H r hc h
  cases code with
  | loop c'=>
   simp only[aP]at hc;obtain⟨x,hx,e⟩:=Zh.1 hc;cases e;simp only[fY]at h;simp only[exec];exact Bd (fun F H r hr=>ih c' F H r hx hr) lf F H r h
  | region id ops draw=>simp only[aP]at hc;(repeat' split at hc) <;> first|(simp at hc;done)|(obtain⟨_,_,e⟩:=Zh.1 hc;cases e)
  | _=>simp only[aP]at hc;(repeat' split at hc) <;> first|(simp at hc;done)|(obtain⟨_,_,e⟩:=Zh.1 hc;cases e)|cases hc
 | exit id=>
  intro code F H r hc h
  cases code with
  | exit id'=>simp only[aP,Za,RC.exit.injEq]at hc;subst hc;exact h
  | region id ops draw=>simp only[aP]at hc;(repeat' split at hc) <;> first|(simp at hc;done)|(obtain⟨_,_,e⟩:=Zh.1 hc;cases e)
  | _=>simp only[aP]at hc;(repeat' split at hc) <;> first|(simp at hc;done)|(obtain⟨_,_,e⟩:=Zh.1 hc;cases e)|cases hc
 | ret=>
  intro code F H r hc h
  cases code with
  | ret=>exact h
  | region id ops draw=>simp only[aP]at hc;(repeat' split at hc) <;> first|(simp at hc;done)|(obtain⟨_,_,e⟩:=Zh.1 hc;cases e)
  | _=>simp only[aP]at hc;(repeat' split at hc) <;> first|(simp at hc;done)|(obtain⟨_,_,e⟩:=Zh.1 hc;cases e)|cases hc
 | _=>intro code F H r hc h;simp[fY]at h
end
end Go.VE
namespace Go.VE
def Ex (E:Env) (N:Nat→FuncId) (rc:RC) (F:Frame) (H:an) (o:Out) (F':Frame) (H':an):Prop:=
 ∃n,∀k,n≤k→fY E N (run E k) k rc F H=some (o,F',H')
def pE (E:Env) (N:Nat→FuncId) (rc:RC) (F:Frame) (H:an) (o:Out) (F':Frame) (H':an):Prop:=
 ∃n,∀k,n≤k→∀lf,n≤lf→iu (fY E N (run E k) k rc) lf F H=some (o,F',H')
section
variable {E:Env} {N:Nat→FuncId} {a b c:RC} {F F1 F':Frame} {H H1 H':an} {o:Out} {x:Arg} {id:Nat}
theorem Ex.ops {l:List RO} (h:∃n,∀k,n≤k→e_ E N (run E k) none l F H=some (F',H')):Ex E N (.ops l) F H .norm F' H':=
 let ⟨n,h⟩:=h;⟨n,fun k hk=>by simp only[fY,h k hk,Option.map_some]⟩
theorem Ex.jU {l:List RO} (h:∀call,e_ E N call none l F H=some (F',H')):Ex E N (.ops l) F H .norm F' H':=Ex.ops ⟨0,fun k _=>h _⟩
theorem Ex.gb {l:List RO} (hn:vi l=true) (h:∀call,e_ E N call (some H.length) l F H=some (F',H')):Ex E N (.gb l) F H .norm F' H':=
 ⟨0,fun k _=>by simp only[fY,hn,if_true,h,Option.map_some]⟩
theorem Ex.skip:Ex E N .skip F H .norm F H:=⟨0,fun _ _=>rfl⟩
theorem Ex.exit:Ex E N (.exit id) F H (.exit id) F H:=⟨0,fun _ _=>rfl⟩
theorem Ex.ret:Ex E N .ret F H .ret F H:=⟨0,fun _ _=>rfl⟩
theorem Ex.seq (h1:Ex E N a F H .norm F1 H1) (h2:Ex E N b F1 H1 o F' H'):Ex E N (.seq a b) F H o F' H':=by
 obtain⟨n,h1⟩:=h1;obtain⟨m,h2⟩:=h2;exact⟨max n m,fun k hk=>by simp only[fY,h1 k (by omega)];exact h2 k (by omega)⟩
theorem Ex.DD (h1:Ex E N a F H o F' H') (ho:o≠.norm):Ex E N (.seq a b) F H o F' H':=by
 obtain⟨n,h1⟩:=h1;refine⟨n,fun k hk => ?_⟩
 simp only[fY,h1 k hk];cases o <;> first|exact absurd rfl ho|rfl
theorem Ex.xq (hx:bJ N F x=.bool true) (h:Ex E N a F H o F' H'):Ex E N (.cond x a b) F H o F' H':=by
 obtain⟨n,h⟩:=h;exact⟨n,fun k hk=>by simp only[fY,hx,if_true,h k hk]⟩
theorem Ex.AR (hx:bJ N F x=.bool false) (h:Ex E N b F H o F' H'):Ex E N (.cond x a b) F H o F' H':=by
 obtain⟨n,h⟩:=h;exact⟨n,fun k hk=>by simp only[fY,hx,Bool.false_eq_true,if_false,h k hk]⟩
theorem Ex.block (h:Ex E N c F H .norm F' H'):Ex E N (.block id c) F H .norm F' H':=by
 obtain⟨n,h⟩:=h;exact⟨n,fun k hk=>by simp only[fY,h k hk]⟩
theorem Ex.yT (h:Ex E N c F H (.exit id) F' H'):Ex E N (.block id c) F H .norm F' H':=by
 obtain⟨n,h⟩:=h;exact⟨n,fun k hk=>by simp only[fY,h k hk,if_true]⟩
theorem Ex.loop (h:pE E N c F H o F' H'):Ex E N (.loop c) F H o F' H':=by
 obtain⟨n,h⟩:=h;exact⟨n,fun k hk=>h k hk k hk⟩
theorem pE.step (h1:Ex E N c F H .norm F1 H1) (h2:pE E N c F1 H1 o F' H'):pE E N c F H o F' H':=by
 obtain⟨n,h1⟩:=h1;obtain⟨m,h2⟩:=h2;refine⟨max n m+1,fun k hk lf hl => ?_⟩
 cases lf with
 | zero=>omega
 | succ lf=>simp only[iu,h1 k (by omega)];exact h2 k (by omega) lf (by omega)
theorem pE.stop (h1:Ex E N c F H o F' H') (ho:o≠.norm):pE E N c F H o F' H':=by
 obtain⟨n,h1⟩:=h1;refine⟨n+1,fun k hk lf hl => ?_⟩
 cases lf with
 | zero=>omega
 | succ lf=>
  simp only[iu,h1 k (by omega)]
  cases o <;> first|exact absurd rfl ho|rfl
end
theorem Ex.run {E:Env} {nm:FuncId→Option Nat} {N:Nat→FuncId} (hN:∀f s,nm f=some s→N s=f) {f:FuncId} {fi:FI} {rc:RC} (hf:E.ft f=some fi) (hc:aP ⟨E,nm,fi.ntmps⟩ false fi.body=some rc) {args:List V} (ha:args.length≤fi.ntmps) {H H':an} {F':Frame}
 (h:Ex E N rc args H .ret F' H') {vs:List V} (hr:gD E F' H' fi.results=some vs):∃n,run E n (.fn f) args H=some (result vs,H'):=by
 obtain⟨n,h⟩:=h;refine⟨n+1,?_⟩;have:=Ii (X:=⟨E,nm,fi.ntmps⟩) (call:=Go.VE.run E n) hN (lf:=n) rc fi.body args H _ hc (h n (Nat.le_refl _));simp only[Go.VE.run,hf,if_pos ha,this,hr,Option.map_some]
@[simp] theorem aX (F:Frame) (i j:Nat) (v:V):get (set F i v) j=if i=j then v else get F j:=by
 split
 ·rename_i h;subst h;exact xG F i v
 ·rename_i h;exact lF F v h
def refs:List Nat→List (List V)→List (List V)
 | id::ids,r::rs=>[V.hsl id 1 0 r.length]::refs ids rs
 | _,_=>[]
def gn (r:List V):List (List V):=r.map fun u=>[u]
structure jd (H:an) (w:V) (o:Nat) (ids:List Nat) (rows:List (List V)):Prop where
 v:w=if rows=[]then .ay else .hsl o 1 0 rows.length
 ob:rows≠[]→H[o]? = some (.row 1 (refs ids rows))
 len:ids.length=rows.length
 r:∀(i id:Nat) (r:List V),ids[i]? = some id→rows[i]? = some r→H[id]? = some (.row 1 (gn r))
 nd:ids.Nodup
 ne:rows≠[]→o∉ids
theorem nY:∀{ids:List Nat} {rows:List (List V)},ids.length=rows.length→(refs ids rows).length=rows.length
 | [],[],_=>rfl
 | _::ids,_::rows,h=>by simp only[refs,List.length_cons,nY (ids:=ids) (rows:=rows) (by simpa using h)]
theorem Cr:∀{ids:List Nat} {rows:List (List V)} (id:Nat) (r:List V),ids.length=rows.length→refs (ids++[id]) (rows++[r])=refs ids rows++[[V.hsl id 1 0 r.length]]
 | [],[],_,_,_=>rfl
 | _::ids,_::rows,id,r,h=>by simp only[refs,List.cons_append,Cr (ids:=ids) (rows:=rows) id r (by simpa using h)]
theorem wL:∀{ids:List Nat} {rows:List (List V)} {i id:Nat} {r:List V},ids[i]? = some id→rows[i]? = some r→(refs ids rows)[i]? = some [V.hsl id 1 0 r.length]
 | [],_,_,_,_,h,_=>by simp at h
 | _::_,[],_,_,_,_,h=>by simp at h
 | a::ids,b::rows,0,id,r,h1,h2=>by simp at h1 h2;subst h1 h2;rfl
 | a::ids,b::rows,i+1,id,r,h1,h2=>by simpa [refs]using wL (ids:=ids) (rows:=rows) (i:=i) (by simpa using h1) (by simpa using h2)
theorem Bf:∀{ids:List Nat} {rows:List (List V)} {i:Nat} {r r':List V},rows[i]? = some r→r'.length=r.length→refs ids (rows.set i r')=refs ids rows
 | [],_,_,_,_,_,_=>by simp[refs]
 | _::_,[],_,_,_,_,_=>by simp[refs]
 | a::ids,b::rows,0,r,r',h,hl=>by simp at h;subst h;simp only[List.set_cons_zero,refs,hl]
 | a::ids,b::rows,i+1,r,r',h,hl=>by simp only[List.set_cons_succ,refs,Bf (ids:=ids) (rows:=rows) (i:=i) (by simpa using h) hl]
section
variable {H H':an} {v:V} {o:Nat} {ids:List Nat} {rows:List (List V)}
theorem jd.nil (H:an) (o:Nat):jd H .ay o [] []:=⟨rfl,fun h=>absurd rfl h,rfl,fun i id r h=>by simp at h,.nil,fun h=>absurd rfl h⟩
theorem jd.heap (n:jd H v o ids rows) (ho:rows≠[]→H'[o]? = H[o]?) (hi:∀id∈ids,H'[id]? = H[id]?):jd H' v o ids rows:=
 ⟨n.v,fun h=>by rw[ho h];exact n.ob h,n.len,fun i id r h1 h2=>by rw[hi id (List.mem_of_getElem? h1)];exact n.r i id r h1 h2,n.nd,n.ne⟩
theorem jd.lt (n:jd H v o ids rows):(rows≠[]→o<H.length)∧∀id∈ids,id<H.length:=by
 refine⟨fun h=>(Zf.1 (n.ob h)).1,fun id hid => ?_⟩
 obtain⟨i,hi⟩:=List.getElem?_of_mem hid;have hl:=(Zf.1 hi).1;have:=n.r i id _ hi (Ze (show i<rows.length from n.len▸hl));exact(Zf.1 this).1
theorem jd.more (n:jd H v o ids rows) (X:an):jd (H++X) v o ids rows:=
 n.heap (fun h=>List.getElem?_append_left (n.lt.1 h)) fun id hid=>List.getElem?_append_left (n.lt.2 id hid)
theorem jd.push (n:jd H v o ids rows) (r:List V) (hl:rows.length+1≤2147483648) :
 ∃H',gA (H++[.row 1 (gn r)]++[.row 1 [[.hsl H.length 1 0 r.length]]]) (.append 1) [v,.hsl (H.length+1) 1 0 1]=some (.hsl (H.length+2) 1 0 (rows.length+1),H') ∧
  jd H' (.hsl (H.length+2) 1 0 (rows.length+1)) (H.length+2) (ids++[H.length]) (rows++[r])∧H.length≤H'.length∧(∀id,id<H.length→id≠o∨rows=[]→H'[id]? = H[id]?):=by
 generalize hH2:H++[.row 1 (gn r)]++[.row 1 [[.hsl H.length 1 0 r.length]]]=H2;have hlen:H2.length=H.length+2:=by subst hH2;simp
 have hlo:∀id,id<H.length→H2[id]? = H[id]? := fun id h=>by
  subst hH2;rw[List.append_assoc,List.getElem?_append_left h]
 have h1:H2[H.length]? = some (.row 1 (gn r)):=by subst hH2;simp
 have h2:H2[H.length+1]? = some (.row 1 [[.hsl H.length 1 0 r.length]]):=by subst hH2;simp
 have hv:=n.v;have e2:ec H2 1 (.hsl (H.length+1) 1 0 1)=some [[.hsl H.length 1 0 r.length]]:=by
  simp[ec,h2,Ob.rows]
 by_cases hr:rows=[]
 ·subst hr;rw[if_pos rfl]at hv;subst hv;have:ids=[]:=List.eq_nil_of_length_eq_zero n.len;subst this;refine⟨H2++[.row 1 [[.hsl H.length 1 0 r.length]]],?_,⟨by simp,fun _=>by rw[←hlen];simp[refs],rfl,fun i id r' hi hr' => ?_,by simp,fun _=>by simp⟩,by simp[hlen];omega,fun id hid _ => ?_⟩
  ·have e1:ec H2 1 .ay=some []:=rfl;simp only[gA,e1,e2,iE,List.length_nil,List.length_singleton,Option.map_some,hlen];simp
  ·cases i with
   | zero=>
    simp at hi hr';subst hi hr';rw[List.getElem?_append_left (by omega)];exact h1
   | succ i=>simp at hi
  ·rw[List.getElem?_append_left (by omega)];exact hlo id hid
 ·rw[if_neg hr]at hv;subst hv;have ho:=n.ob hr;have hol:=n.lt.1 hr;have e1:ec H2 1 (.hsl o 1 0 rows.length)=some (refs ids rows):=by
   simp only[ec,if_true,hlo o hol,ho,Zc,Ob.rows,nY n.len,Nat.zero_add,Nat.le_refl,List.drop_zero];rw[List.take_of_length_le (by rw[nY n.len];exact Nat.le_refl _)]
  have eg:iE H2 (.hsl o 1 0 rows.length)=some (H2.set o .dead):=by
   simp only[iE,hlo o hol,ho]
  have hset:∀id,id≠o→(H2.set o Ob.dead++[Ob.row 1 (refs ids rows++[[.hsl H.length 1 0 r.length]])])[id]? = if id<H2.length then H2[id]? else(H2.set o Ob.dead++[Ob.row 1 (refs ids rows++[[.hsl H.length 1 0 r.length]])])[id]? := fun id hne=>by
   split
   ·rename_i h;rw[List.getElem?_append_left (by simpa using h),List.getElem?_set_ne (Ne.symm hne)]
   ·rfl
  refine⟨H2.set o .dead++[.row 1 (refs ids rows++[[.hsl H.length 1 0 r.length]])],?_,⟨by simp,fun _ => ?_,by simp[n.len],fun i id r' hi hr' => ?_,?_,fun _ hm => ?_⟩,by simp[hlen];omega,fun id hid hne => ?_⟩
  ·simp only[gA,e1,e2,eg,nY n.len,List.length_singleton,hl,if_true,Option.map_some,hlen]
  ·rw[Cr _ _ n.len,←hlen];simp
  ·have hio:id≠o:=by
    rcases Nat.lt_or_ge i ids.length with h|h
    ·rw[List.getElem?_append_left h]at hi;intro e;subst e;exact n.ne hr (List.mem_of_getElem? hi)
    ·have:i=ids.length:=by have:=(Zf.1 hi).1;simp at this;omega
     subst this;simp at hi;subst hi;omega
   rcases Nat.lt_or_ge i ids.length with h|h
   ·rw[List.getElem?_append_left h]at hi;rw[List.getElem?_append_left (by rw[←n.len];exact h)]at hr'
    have hidl:=n.lt.2 id (List.mem_of_getElem? hi);rw[hset id hio,if_pos (by omega),hlo id hidl]
    exact n.r i id r' hi hr'
   ·have:i=ids.length:=by have:=(Zf.1 hi).1;simp at this;omega
    subst this;simp at hi;subst hi;rw[n.len]at hr';simp at hr';subst hr';rw[hset _ hio,if_pos (by omega)];exact h1
  ·rw[List.nodup_append];exact⟨n.nd,by simp,fun a ha b hb=>by simp at hb;subst hb;exact Nat.ne_of_lt (n.lt.2 a ha)⟩
  ·rcases List.mem_append.1 hm with hm|hm
   ·have:=n.lt.2 _ hm;omega
   ·simp at hm
  ·rw[hset id (hne.resolve_right hr),if_pos (by omega)];exact hlo id hid
end
end Go.VE
