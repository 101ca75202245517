/-
 Certificates; functions by hand; readings; plain laws.
-/
import Derived.JoinedCond
import Derived.ReadAgain
import Derived.WalkKit
import Derived.ProofKit
import Derived.OpenShut
import Derived.ChangeSame
import Derived.RowKit3
import Derived.Test.YtdoibkkdaojjpaaGreatV2
import Derived.Test.YtdoibkkdaojjpaaGreatN2
import Derived.Test.YtdoibkkdaojjpaaGreatS1
set_option linter.all false
namespace Go.VE
variable [aY]
abbrev Cf:=Fo×List Fm×St
section
variable (S:Sys) (c:bH) {β:Type} (Q:Out×St->Option β)
noncomputable abbrev bu (cf:Cf):Option β:=rn S c Q cf.1 cf.2.1 cf.2.2
noncomputable def gY (n:Nat) (cf:Cf):Cf:=(fU S c n cf.1 cf.2.1 cf.2.2).getD cf
structure B2 where
 dr:Bool
 fr:List Nat
 d:Option Nat
 gd:Option (Nat×Bool)
 now:Bool
 k:K
 az:List Arg
 dd:List Nat
 l:List RO
 fs:List Fm
 st:St
noncomputable def fC (n:Nat) (cf:Cf):Option B2:=match fU S c n cf.1 cf.2.1 cf.2.2 with
 | some (.ops dr fr (⟨d,gd,now,k,az,dd,[]⟩::l),fs,st)=>match wanted st.g gd with
  | some true=>some ⟨dr,fr,d,gd,now,k,az,dd,l,fs,st⟩
  | _=>none
 | _=>none
noncomputable def nx (n:Nat) (cf:Cf) (φ:B2->St):Cf:=match fC S c n cf with
 | some p=>(.ops p.dr (if p.dr then(match p.k with|.p _|.r _=>p.fr|_=>match p.d with|some d=>d::p.fr|none=>p.fr)else p.fr) p.l,p.fs,nk p.dd (φ p))
 | none=>cf
end
def sG (s:Nat) (b:Bool) (cf:Cf):Cf:=(cf.1,cf.2.1,{ cf.2.2 with g:=aR cf.2.2.g s (.v (.bool b)) })
def jmp (k:Nat) (fr:List Nat) (cf:Cf) (st:St):Cf:=match cf with
 | (.ops dr _ l,fs,_)=>(.ops dr fr (l.drop k),fs,st)
 | _=>(.rt,[],st)
def sA:RC->List Nat->List Fm->St->Cf
 | c,[],fs,st=>(.rc c,fs,st)
 | .seq a b,i::p,fs,st=>if i=0 then sA a p (.seq b::fs) st else sA b p fs st
 | .cond _ a b,i::p,fs,st=>if i=0 then sA a p fs st else sA b p fs st
 | .block id c,_::p,fs,st=>sA c p (.blk id::fs) st
 | .gh _ c,_::p,fs,st=>sA c p fs st
 | .hg c g,_::p,fs,st=>sA c p (.gst g::fs) st
 | .loop c,_::p,_,st=>sA c p [] st
 | .each _ _ _ b,_::p,_,st=>sA b p [] st
 | c,_,fs,st=>(.rc c,fs,st)
section
variable {S:Sys} {c:bH} {β γ δ α:Type} {Q:Out×St->Option β} {e:γ->Option β} {cf:Cf}
theorem gN {n:Nat} {p:B2} (h:fC S c n cf=some p):fU S c n cf.1 cf.2.1 cf.2.2=some (.ops p.dr p.fr (⟨p.d,p.gd,p.now,p.k,p.az,p.dd,[]⟩::p.l),p.fs,p.st)/\wanted p.st.g p.gd=some true:=by
 unfold fC at h;split at h
 .rename_i h1;split at h
  .rename_i h2;cases h;exact⟨h1,h2⟩
  .cases h
 .cases h
theorem tP {n:Nat} {m:Option δ} {φ:δ->B2->St} {f:δ->Option γ} {p:B2} (hp:fC S c n cf=some p) (hs:Le (m.bind λx=>some (φ x p)) (eu S c p.dr p.fr ⟨p.d,none,p.now,p.k,p.az,[],[]⟩ p.st))
 (h:∀x,m=some x->Le ((f x).bind e) (bu S c Q (nx S c n cf (φ x)))):Le ((m.bind f).bind e) (bu S c Q cf):=by
 obtain⟨h1,h2⟩:=gN hp;refine BO h1 rfl h2 hs λx hx=>?_
 have:=h x hx;simp only[nx,hp]at this;exact this
theorem sF {n:Nat} {m:Option β} {φ:B2->St} {p:B2} (hp:fC S c n cf=some p) (hs:eu S c p.dr p.fr ⟨p.d,none,p.now,p.k,p.az,[],[]⟩ p.st=some (φ p))
 (h:Le m (bu S c Q (nx S c n cf φ))):Le m (bu S c Q cf):=by
 obtain⟨h1,h2⟩:=gN hp;refine oZ h1 rfl h2 hs ?_;simp only[nx,hp]at h;exact h
theorem dZ {α β:Type} {o:Option α} {f:α->β} {b:β} (h:o.map f=some b):∃a,o=some a/\f a=b:=ζf.1 h
theorem BX (n:Nat) {m:Option β} {cf':Cf} (h:Le m (bu S c Q cf')) (hL:fU S c n cf.1 cf.2.1 cf.2.2=some cf':=by kernel_rfl):Le m (bu S c Q cf):=BW hL h
theorem aK (n s:Nat) {t:Bool} {x y:Option γ} (ha:Le (x.bind e) (bu S c Q (sG s true (gY S c n cf)))) (hb:Le (y.bind e) (bu S c Q (sG s false (gY S c n cf))))
 (hL:(fU S c n cf.1 cf.2.1 cf.2.2).map (λp=>an p.2.2.g s)=some (some (.v (.bool t))):=by kernel_rfl):Le ((ay t x y).bind e) (bu S c Q cf):=by
 obtain⟨p,hp,hv⟩:=dZ hL;have hg:gY S c n cf=p:=by unfold gY;rw[hp];rfl
 rw[hg]at ha hb;refine BW hp ?_;cases t
 .have:sG s false p=p:=by unfold sG;rw[pP hv]
  rw[this]at hb;exact hb
 .have:sG s true p=p:=by unfold sG;rw[pP hv]
  rw[this]at ha;exact ha
theorem c9 (n s:Nat) {t:Bool} {x y:Option γ} (ha:Le (x.bind e) (bu S c Q (sG s false (gY S c n cf)))) (hb:Le (y.bind e) (bu S c Q (sG s true (gY S c n cf))))
 (hL:(fU S c n cf.1 cf.2.1 cf.2.2).map (λp=>an p.2.2.g s)=some (some (.v (.bool (!t)))):=by kernel_rfl):Le ((ay t x y).bind e) (bu S c Q cf):=by
 obtain⟨p,hp,hv⟩:=dZ hL;have hg:gY S c n cf=p:=by unfold gY;rw[hp];rfl
 rw[hg]at ha hb;refine BW hp ?_;cases t
 .have:sG s true p=p:=by unfold sG;rw[show V.bool true=V.bool (!false)from rfl,pP hv]
  rw[this]at hb;exact hb
 .have:sG s false p=p:=by unfold sG;rw[show V.bool false=V.bool (!true)from rfl,pP hv]
  rw[this]at ha;exact ha
theorem vS (n k:Nat) (fr:List Nat) (st:δ->St) {m:Option δ} {f:δ->Option γ} (h2:Le (m.bind λr=>bu S c Q (jmp k fr (gY S c n cf) (st r))) (bu S c Q cf))
 (h1:∀r,Le ((f r).bind e) (bu S c Q (jmp k fr (gY S c n cf) (st r)))):Le ((m.bind f).bind e) (bu S c Q cf):=Nc _ h2 h1
theorem aJ (n:Nat) {r:δ} {k:δ->Cf} (hL:fU S c n cf.1 cf.2.1 cf.2.2=some (k r):=by kernel_rfl):Le ((some r).bind λr=>bu S c Q (k r)) (bu S c Q cf):=UI (e:=λr=>bu S c Q (k r)) hL rfl
theorem aj {r:γ} {L:Option β} (h:L=e r:=by kernel_rfl):Le ((some r).bind e) L:=Le.of_eq h
theorem Bk (n:Nat) {b:RC} {m:Option (Out×Tb aN)} (h:Le m (bu S c tM (.rc b,[],(gY S c n cf).2.2))) (hL:fU S c n cf.1 cf.2.1 cf.2.2=some (.nx,[],(gY S c n cf).2.2):=by kernel_rfl):Le m (bu S c (vB S c b) cf):=PI hL h
theorem Us (n:Nat) {o:Option α} (A:Option α->St) {f:α->Option γ} (h2:∀x,o=some x->Le ((f x).bind e) (bu S c Q ((gY S c n cf).1,(gY S c n cf).2.1,A (some x))))
 (hL:fU S c n cf.1 cf.2.1 cf.2.2=some ((gY S c n cf).1,(gY S c n cf).2.1,A o):=by kernel_rfl):Le ((o.bind f).bind e) (bu S c Q cf):=R_ hL h2
theorem ji.My {S:Sys} {T:qv} [aD δ] {f:FuncId} {A:α->List V} {p:α->Option δ} (hT:T f=none) (hk:S.E.keep f=false) (ho:∀z r,p z=some r->S.wG f (A z)=some (enc r))
 (l:∀z,V.bU 8 (A z)=true:=by intro z;simp) (hr:∀r:δ,V.lvl 8 (result [enc r])=true:=by intro r;simp):ji S (cz S T) f A (λr=>[enc r]) p false where
 k:=hk
 h z:=by
  intro y hy;obtain⟨r,h1,h2⟩:=ζg.1 hy;cases h2;have h:=Cd hT hk (ho z r h1);unfold kJ;rw[h];exact tV 8 [enc r]
 l:=l
 r:=hr
 s h:=by cases h
def Lj:K->Option BinOp
 | .p (.bin (some .slice) _ o)=>some o
 | _=>none
theorem NR {k:K} {o:BinOp} (h:Lj k=some o):∃u,k=.p (.bin (some .slice) u o):=by
 unfold Lj at h;split at h
 .cases h;exact⟨_,rfl⟩
 .cases h
def QW:K->Option (Nat×Nat×List Nat)
 | .a (.buildSl sz ln _ ix)=>some (sz,ln,ix)
 | _=>none
theorem QA {k:K} {r:Nat×Nat×List Nat} (h:QW k=some r):∃z,k=.a (.buildSl r.1 r.2.1 z r.2.2):=by
 unfold QW at h;split at h
 .cases h;exact⟨_,rfl⟩
 .cases h
def MO:K->Option (List V)
 | .a (.alloc _ zero)=>some zero
 | _=>none
theorem Kz {k:K} {z:List V} (h:MO k=some z):∃n,k=.a (.alloc n z):=by
 unfold MO at h;split at h
 .cases h;exact⟨_,rfl⟩
 .cases h
section
variable [aD α]
theorem Sd (k:IntKind) (n:Nat) {s:Sl α} {i:Int} {f:α->Option γ} (h:∀x,idx s i=some x->Le ((f x).bind e) (bu S c Q (nx S c n cf λp=>bY p.st p.d (cp x))))
 (hL:(fC S c n cf).map (λp=>(p.k,bf S.N p.st.g p.az))=some (.p (.idxS (aD.size α)),some [.v (aZ s),.v (.int k i)]):=by kernel_rfl):Le (((idx s i).bind f).bind e) (bu S c Q cf):=by
 obtain⟨p,hp,hv⟩:=dZ hL;simp only[ζc]at hv;refine tP hp ?_ h;rw[hv.1];exact Le.of_eq (MQ hv.2 rfl)
theorem bh (n:Nat) {s:Sl α} {i:Int} {f:α->Option γ} (h:∀x,idx s i=some x->Le ((f x).bind e) (bu S c Q (nx S c n cf λp=>bY p.st p.d (cp x))))
 (hL:(fC S c n cf).map (λp=>(p.k,bf S.N p.st.g p.az))=some (.p (.idxS (aD.size α)),some [.v (aZ s),.v (.int .i64 i)]):=by kernel_rfl):Le (((idx s i).bind f).bind e) (bu S c Q cf):=Sd .i64 n h hL
theorem me (k:IntKind) (n u:Nat) {s:Sl α} {i:Int} {f:Nat->Option γ} (h:∀x,s.kZ i=some x->Le ((f x).bind e) (bu S c Q (nx S c n cf λp=>bY p.st p.d (.el u x 0))))
 (hL:(fC S c n cf).map (λp=>(p.k,bf S.N p.st.g p.az,an p.st.m u))=some (.p (.idxS (aD.size α)),some [.own u,.v (.int k i)],some (b7 s)):=by kernel_rfl):Le (((s.kZ i).bind f).bind e) (bu S c Q cf):=by
 obtain⟨p,hp,hv⟩:=dZ hL;simp only[ζc]at hv;refine tP hp ?_ h;rw[hv.1];exact Le.of_eq (Sa hv.2.1 hv.2.2 rfl)
theorem sw (n u o sz:Nat) (a:Bool) (v:α->V) {s:Sl α} {i:Nat} {f:α->Option γ} (h:∀x,s.get i=some x->Le ((f x).bind e) (bu S c Q (nx S c n cf λp=>bY p.st p.d (.v (v x)))))
 (hL:(fC S c n cf).map (λp=>(p.k,bf S.N p.st.g p.az,an p.st.m u,(!p.dr||p.now||dF p.fr [.el u i o])))=some (.r (.load sz a),some [.el u i o],some (b7 s),true):=by kernel_rfl) (hv:∀x:α,(cut (cells x) o sz).bind (mk a)=some (v x):=by intro _;rfl):Le (((s.get i).bind f).bind e) (bu S c Q cf):=by
 obtain⟨p,hp,hv'⟩:=dZ hL;simp only[ζc]at hv';refine tP hp ?_ h;rw[hv'.1];exact Le.of_eq (PZ hv'.2.1 hv'.2.2.2 hv'.2.2.1 hv)
theorem z6 (n u:Nat) (x:V) {s:Sl α} {i:Nat} {a:α} {f:Sl α->Option γ} (h:∀s',s.put i a=some s'->Le ((f s').bind e) (bu S c Q (nx S c n cf λp=>bY { p.st with m:=aR p.st.m u (b7 s') } p.d (.v .undef))))
 (hL:(fC S c n cf).map (λp=>(p.k,bf S.N p.st.g p.az,an p.st.m u,(!p.dr||p.now),x.cells))=some (.l (.store (aD.size α)),some [.el u i 0,.v x],some (b7 s),true,cells a):=by kernel_rfl):Le (((s.put i a).bind f).bind e) (bu S c Q cf):=by
 obtain⟨p,hp,hv⟩:=dZ hL;simp only[ζc]at hv;refine tP hp ?_ h;rw[hv.1];exact Le.of_eq (OK hv.2.1 hv.2.2.2.1 hv.2.2.1 hv.2.2.2.2 rfl)
theorem RQ (n u:Nat) {i:Int} {z:α} {f:Sl α->Option γ} (h:∀s',sr i z=some s'->Le ((f s').bind e) (bu S c Q (nx S c n cf λp=>{ p.st with g:=aR p.st.g u (.own u),m:=aR p.st.m u (b7 s') })))
 (hL:(fC S c n cf).map (λp=>(p.d,p.k,bf S.N p.st.g p.az,p.st.new u))=some (some u,.a (.makeSl (aD.size α) (cells z)),some [.v (.int .i64 i),.v (.int .i64 i)],true):=by kernel_rfl):Le (((sr i z).bind f).bind e) (bu S c Q cf):=by
 obtain⟨p,hp,hv⟩:=dZ hL;simp only[ζc]at hv;refine tP hp ?_ h;rw[hv.1,hv.2.1];exact Le.of_eq (PD hv.2.2.1 rfl rfl hv.2.2.2)
theorem qh (n o w u:Nat) {s:Sl α} {x:α} {f:Sl α->Option γ} (h:∀s',ig s x=some s'->Le ((f s').bind e) (bu S c Q (nx S c n cf λp=>{ p.st with g:=aR p.st.g u (.own u),m:=aR (cM o p.st.m) u (b7 s') })))
 (hL:(fC S c n cf).map (λp=>(p.d,p.k,bf S.N p.st.g p.az,(!p.dr||p.now),an p.st.m o,an p.st.m w,St.new { p.st with m:=cM o p.st.m } u))=some (some u,.l (.append (aD.size α)),some [.own o,.own w],true,some (b7 s),some (b7 (.row [x])),true):=by kernel_rfl):Le (((ig s x).bind f).bind e) (bu S c Q cf):=by
 obtain⟨p,hp,hv⟩:=dZ hL;simp only[ζc]at hv;refine tP hp ?_ h;rw[hv.1,hv.2.1];exact Le.of_eq (Sf hv.2.2.1 hv.2.2.2.1 hv.2.2.2.2.1 hv.2.2.2.2.2.1 rfl hv.2.2.2.2.2.2)
theorem Nt (n w u:Nat) (v:V) (x:α) {m:Option β} (h:Le m (bu S c Q (nx S c n cf λp=>{ p.st with g:=aR p.st.g u (.own u),m:=aR p.st.m u (b7 (.row [x])) }))) (hv:v=.aG\/v=.cK:=by first|exact .inl rfl|exact .inr rfl)
 (hL:(fC S c n cf).map (λp=>(p.d,p.k,bf S.N p.st.g p.az,(!p.dr||p.now),an p.st.m w,p.st.new u))=some (some u,.l (.append (aD.size α)),some [.v v,.own w],true,some (b7 (.row [x])),true):=by kernel_rfl):Le m (bu S c Q cf):=by
 obtain⟨p,hp,hq⟩:=dZ hL;simp only[ζc]at hq;refine sF hp ?_ h;rw[hq.1,hq.2.1];exact PY hv hq.2.2.1 hq.2.2.2.1 hq.2.2.2.2.1 rfl hq.2.2.2.2.2
theorem bt (n:Nat) (s:Sl α) {m:Option β} (h:Le m (bu S c Q (nx S c n cf λp=>bY p.st p.d (.v (.int .i64 s.l.length)))))
 (hL:(fC S c n cf).map (λp=>(p.k,bf S.N p.st.g p.az))=some (.p .lenSl,some [.v (aZ s)]):=by kernel_rfl):Le m (bu S c Q cf):=by
 obtain⟨p,hp,hv⟩:=dZ hL;simp only[ζc]at hv;refine sF hp ?_ h;rw[hv.1];exact Ni hv.2
theorem Dj (n u:Nat) (s:Sl α) {m:Option β} (h:Le m (bu S c Q (nx S c n cf λp=>bY p.st p.d (.v (.int .i64 s.l.length)))))
 (hL:(fC S c n cf).map (λp=>(p.k,bf S.N p.st.g p.az,an p.st.m u))=some (.p .lenSl,some [.own u],some (b7 s)):=by kernel_rfl):Le m (bu S c Q cf):=by
 obtain⟨p,hp,hv⟩:=dZ hL;simp only[ζc]at hv;refine sF hp ?_ h;rw[hv.1];exact Qm hv.2.1 hv.2.2
theorem UE (n:Nat) {s:Sl α} {f:Bool->Option γ} (h:∀t,s.isNil=some t->Le ((f t).bind e) (bu S c Q (nx S c n cf λp=>bY p.st p.d (.v (.bool t)))))
 (hL:(fC S c n cf).map (λp=>(Lj p.k,bf S.N p.st.g p.az))=some (some .eql,some [.v (aZ s),.v .aG]):=by kernel_rfl):Le ((s.isNil.bind f).bind e) (bu S c Q cf):=by
 obtain⟨p,hp,hv⟩:=dZ hL;simp only[ζc]at hv;obtain⟨u,hk⟩:=NR hv.1;refine tP hp ?_ h;rw[hk];exact Le.of_eq (Oq hv.2)
theorem BB (n:Nat) (lo hi:Bool) (bs:List V) {s:Sl α} {a b:Option Int} {f:Sl α->Option γ} (h:∀x,eM s a b=some x->Le ((f x).bind e) (bu S c Q (nx S c n cf λp=>bY p.st p.d (.v (aZ x)))))
 (hL:(fC S c n cf).map (λp=>(p.k,bf S.N p.st.g p.az,jy lo hi bs))=some (.p (.slice (aD.size α) lo hi),some (.v (aZ s)::bs.map .v),some (a,b)):=by kernel_rfl):Le (((eM s a b).bind f).bind e) (bu S c Q cf):=by
 obtain⟨p,hp,hv⟩:=dZ hL;simp only[ζc]at hv;obtain⟨h1,h2⟩:=gN hp;obtain⟨dr,fr,d,gd,now,k,az,dd,l,fs,st⟩:=p;obtain⟨rfl,h3,h4⟩:=hv;exact Ux n dr fr (⟨d,gd,now,.p (.slice (aD.size α) lo hi),az,dd,[]⟩::l) fs st lo hi bs (sz:=aD.size α) rfl (by(try dsimp only at *);simp only[h1,h2,h3,h4]) λs' hs=>by
  have:=h s' hs;simp only[nx,hp]at this;exact this
theorem SR (n:Nat) (lo hi:Bool) (u t:Nat) (bs:List V) {s:Sl α} {a b:Option Int} {f:Sl α->Option γ} (h:∀x,mH s a b=some x->Le ((f x).bind e) (bu S c Q (nx S c n cf λp=>{ p.st with g:=aR p.st.g t (.own t),m:=aR (cM u p.st.m) t (b7 x) })))
 (hL:(fC S c n cf).map (λp=>(p.d,p.k,p.dr,bf S.N p.st.g p.az,jy lo hi bs,an p.st.m u,St.new { p.st with m:=cM u p.st.m } t))=some (some t,.p (.slice (aD.size α) lo hi),false,some (.own u::bs.map .v),some (a,b),some (b7 s),true):=by kernel_rfl):Le (((mH s a b).bind f).bind e) (bu S c Q cf):=by
 obtain⟨p,hp,hv⟩:=dZ hL;simp only[ζc]at hv;obtain⟨h1,h2⟩:=gN hp;obtain⟨dr,fr,d,gd,now,k,az,dd,l,fs,st⟩:=p;obtain⟨rfl,rfl,rfl,h3,h4,h5,h6⟩:=hv;exact S5 n fr (⟨some t,gd,now,.p (.slice (aD.size α) lo hi),az,dd,[]⟩::l) fs st lo hi u bs (sz:=aD.size α) rfl h6 (by(try dsimp only at *);simp only[h1,h2,h3,h4,h5]) λs' hs=>by
  have:=h s' hs;simp only[nx,hp]at this;exact this
theorem c_ (n u:Nat) (x:α) {m:Option β} (h:Le m (bu S c Q (nx S c n cf λp=>{ p.st with g:=aR p.st.g u (.ptr u 0),m:=aR p.st.m u (bx x) })))
 (hL:(fC S c n cf).map (λp=>(p.d,p.k,bf S.N p.st.g p.az,p.st.new u))=some (some u,.a .box,some [cv x],true):=by kernel_rfl):Le m (bu S c Q cf):=by
 obtain⟨p,hp,hv⟩:=dZ hL;simp only[ζc]at hv;refine sF hp ?_ h;rw[hv.1,hv.2.1,yu,hv.2.2.1];simp only[ζb,hv.2.2.2,if_true,mG,jd,od]
def NC (u o sz:Nat) (xs:List SV) (p:B2):St:=match an p.st.m u with
 | some (.box cs)=>bY { p.st with m:=aR p.st.m u (.box (cs.take o++xs++cs.drop (o+sz))) } p.d (.v .undef)
 | _=>p.st
theorem kN (n u o:Nat) (x:α) {m:Option β} (h:Le m (bu S c Q (nx S c n cf (NC u o (aD.size α) ((cells x).map .v)))))
 (hL:(fC S c n cf).map (λp=>(p.k,bf S.N p.st.g p.az,(!p.dr||p.now),match an p.st.m u with|some (.box cs)=>Nat.ble (o+aD.size α) cs.length|_=>false))=some (.l (.store (aD.size α)),some [.ptr u o,cv x],true,true):=by kernel_rfl):Le m (bu S c Q cf):=by
 obtain⟨p,hp,hv⟩:=dZ hL;simp only[ζc]at hv;refine sF hp ?_ h;obtain⟨h1,h2,h3,h4⟩:=hv;split at h4
 .rename_i cs hcs;have h9:=Nat.le_of_ble_eq_true h4;rw[h1,s_,h2];simp only[ζb,h3,if_true,mz,hcs,putCells,jd,dN,od,h9,and_self,Option.map_some,NC]
 .cases h4
theorem AT (n u:Nat) (xs:List α) {m:Option β} (h:Le m (bu S c Q (nx S c n cf λp=>{ p.st with g:=aR p.st.g u (.own u),m:=aR p.st.m u (b7 (.row xs)) })))
 (hL:(fC S c n cf).map (λp=>(p.d,QW p.k,bf S.N p.st.g p.az,p.st.new u))=some (some u,some (aD.size α,xs.length,List.range' 0 xs.length),some ((xs.map enc).map .v),true):=by kernel_rfl):Le m (bu S c Q cf):=by
 obtain⟨p,hp,hv⟩:=dZ hL;simp only[ζc]at hv;obtain⟨h1,h2⟩:=gN hp;obtain⟨dr,fr,d,gd,now,k,az,dd,l,fs,st⟩:=p;obtain⟨rfl,h5,h3,h4⟩:=hv;obtain⟨z,rfl⟩:=QA h5;exact UZ n dr fr (⟨some u,gd,now,.a (.buildSl (aD.size α) xs.length z (List.range' 0 xs.length)),az,dd,[]⟩::l) fs st xs rfl h4 (by(try dsimp only at *);simp only[h1,h2,h3]) (by
  simp only[nx,hp]at h;exact h)
theorem PU (n:Nat) (x:α) (vs z:List V) (pl:List (Nat×Nat)) {m:Option β} (hp':i_ z pl vs=some (cells x)) (ha:aD.agg α=true) (h:Le m (bu S c Q (nx S c n cf λp=>bY p.st p.d (cv x))))
 (hL:(fC S c n cf).map (λp=>(p.k,bf S.N p.st.g p.az))=some (.p (.build z pl),some (vs.map .v)):=by kernel_rfl):Le m (bu S c Q cf):=by
 obtain⟨p,hp,hv⟩:=dZ hL;simp only[ζc]at hv;obtain⟨h1,h2⟩:=gN hp;obtain⟨dr,fr,d,gd,now,k,az,dd,l,fs,st⟩:=p;obtain⟨rfl,h3⟩:=hv;exact UB n dr fr (⟨d,gd,now,.p (.build z pl),az,dd,[]⟩::l) fs st x vs rfl hp' ha (by(try dsimp only at *);simp only[h1,h2,h3]) (by
  simp only[nx,hp]at h;exact h)
end
theorem xY (n:Nat) (k:IntKind) {a:ByteArray} {b:Int} {f:Int->Option γ} (h:∀x,iU a b=some x->Le ((f x).bind e) (bu S c Q (nx S c n cf λp=>bY p.st p.d (.v (.int .u8 x)))))
 (hL:(fC S c n cf).map (λp=>(p.k,bf S.N p.st.g p.az))=some (.p .idxStr,some [.v (.str a),.v (.int k b)]):=by kernel_rfl):Le (((iU a b).bind f).bind e) (bu S c Q cf):=by
 obtain⟨p,hp,hv⟩:=dZ hL;simp only[ζc]at hv;refine tP hp ?_ h;rw[hv.1];exact Le.of_eq (LY hv.2)
section
variable {A:α->List V} {E:δ->List V} {pl:α->Option δ} {fn:FuncId} {sc:Bool}
theorem yA (n:Nat) (F:ji S c fn A E pl sc) (z:α) {f:δ->Option γ} (h:∀x,pl z=some x->Le ((f x).bind e) (bu S c Q (nx S c n cf λp=>bY p.st p.d (.v (result (E x))))))
 (hL:(fC S c n cf).map (λp=>(p.k,(bf S.N p.st.g p.az).bind ov,(!p.dr||p.now||fm p.st.m p.fr [])))=some (.c,some (fn,(A z).map .v),true):=by kernel_rfl):Le (((pl z).bind f).bind e) (bu S c Q cf):=by
 obtain⟨p,hp,hv⟩:=dZ hL;simp only[ζc]at hv;obtain⟨h3,h4,h5⟩:=hv;obtain⟨svs,g1,g2⟩:=ζg.1 h4;have hnil:∀d (vs:List V),SV.cw d (vs.map .v)=false:=λd vs=>by
  induction vs with
  | nil=>rfl
  | cons a l ih=>simp only[List.map_cons,SV.cw,SV.bX,ih,Bool.or_self]
 have ho:(!p.dr||p.now||fm p.st.m p.fr ((A z).map .v))=true:=by
  have:fm p.st.m p.fr ((A z).map .v)=fm p.st.m p.fr []:=by unfold fm;simp only[hnil];rfl
  rw[this];exact h5
 refine tP hp ?_ h;rw[h3];exact Eo (F.h z) F.k g1 g2 (EP _ _ _) (F.l z) ho (λr=>by rw[F.r,pn];simp)
theorem RL (n:Nat) (F:ji S c fn A E pl true) (z:α) {f:δ->Option γ} (h:∀x,pl z=some x->Le ((f x).bind e) (bu S c Q (nx S c n cf λp=>bY p.st p.d (.v (result (E x))))))
 (hL:(fC S c n cf).map (λp=>(p.k,((bf S.N p.st.g p.az).bind ov).bind λq=>(mg (gK p.st.m 8) q.2).map λvs=>(q.1,vs,((!p.dr||p.now)||fm p.st.m p.fr q.2))))=some (.c,some (fn,A z,true)):=by kernel_rfl):Le (((pl z).bind f).bind e) (bu S c Q cf):=by
 obtain⟨p,hp,hv⟩:=dZ hL;simp only[ζc]at hv;obtain⟨h3,h4⟩:=hv;obtain⟨q,g1,g2⟩:=ζg.1 h4;obtain⟨svs,g3,g4⟩:=ζg.1 g1;obtain⟨vs,g5,g6⟩:=ζf.1 g2;simp only[ζc]at g6;obtain⟨e1,rfl,e3⟩:=g6;refine tP hp ?_ h;rw[h3];exact Eo (F.h z) F.k g3 (by rw[g4,<-e1]) g5 (F.l z) e3 (λr=>by rw[F.r,F.s rfl];rfl)
end
section
variable {N:Nat} [aD α]
theorem MZ (n:Nat) (k:IntKind) {a:ai N α} {i:Int} {f:α->Option γ} (h:∀x,a.at i=some x->Le ((f x).bind e) (bu S c Q (nx S c n cf λp=>bY p.st p.d (.v (.fptr (pa a i))))))
 (hL:(fC S c n cf).map (λp=>(p.k,bf S.N p.st.g p.az))=some (.p (.idxA N (aD.size α)),some [cp a,.v (.int k i)]):=by kernel_rfl):Le (((a.at i).bind f).bind e) (bu S c Q cf):=by
 obtain⟨p,hp,hv⟩:=dZ hL;simp only[ζc]at hv;obtain⟨h1,h2⟩:=gN hp;obtain⟨dr,fr,d,gd,now,k',az,dd,l,fs,st⟩:=p;obtain⟨rfl,h3⟩:=hv;exact SG n dr fr (⟨d,gd,now,.p (.idxA N (aD.size α)),az,dd,[]⟩::l) fs st k (sz:=aD.size α) (ln:=N) rfl (by(try dsimp only at *);simp only[h1,h2,h3]) λx hx=>by
  have:=h x hx;simp only[nx,hp]at this;exact this
theorem MB (n k:Nat) (a:ai N α) (i:Int) (o:Nat) (x:α) (hx:a.at i=some x) {m:Option β} (h:Le m (bu S c Q (nx S c n cf λp=>bY p.st p.d (.v (.fptr ((pa a i).drop (o+k)))))))
 (hL:(fC S c n cf).map (λp=>(p.k,bf S.N p.st.g p.az,Nat.ble (o+k) (aD.size α)))=some (.p (.fieldAddr k),some [.v (.fptr ((pa a i).drop o))],true):=by kernel_rfl):Le m (bu S c Q cf):=by
 obtain⟨p,hp,hv⟩:=dZ hL;simp only[ζc]at hv;obtain⟨h1,h2⟩:=gN hp;obtain⟨dr,fr,d,gd,now,k',az,dd,l,fs,st⟩:=p;obtain⟨rfl,h3,h4⟩:=hv;exact UJ n dr fr (⟨d,gd,now,.p (.fieldAddr k),az,dd,[]⟩::l) fs st a i o x hx rfl (by(try dsimp only at *);simp only[h1,h2,h3,h4]) (by
  simp only[nx,hp]at h;exact h)
theorem Nh (n sz:Nat) (ag:Bool) (a:ai N α) (i:Int) (o:Nat) (x:α) (hx:a.at i=some x) (v:V) (hv:(cut (cells x) o sz).bind (mk ag)=some v) {m:Option β} (h:Le m (bu S c Q (nx S c n cf λp=>bY p.st p.d (.v v))))
 (hL:(fC S c n cf).map (λp=>(p.k,bf S.N p.st.g p.az))=some (.r (.load sz ag),some [.v (.fptr ((pa a i).drop o))]):=by kernel_rfl):Le m (bu S c Q cf):=by
 obtain⟨p,hp,hv'⟩:=dZ hL;simp only[ζc]at hv';obtain⟨h1,h2⟩:=gN hp;obtain⟨dr,fr,d,gd,now,k',az,dd,l,fs,st⟩:=p;obtain⟨rfl,h3⟩:=hv';exact SN n dr fr (⟨d,gd,now,.r (.load sz ag),az,dd,[]⟩::l) fs st a i o x hx hv v rfl (by(try dsimp only at *);simp only[h1,h2,h3]) (by
  simp only[nx,hp]at h;exact h)
theorem NY (n u:Nat) (st:St) (len:Nat) (z:α) {m:Option β} (h4:st.new u=true) (h:Le m (bu S c Q (nx S c n cf λ_=>{ st with g:=aR st.g u (.ptr u 0),m:=aR st.m u (bx (ai.gw len z)) })))
 (hL:(fC S c n cf).map (λp=>(p.d,MO p.k,bf S.N p.st.g p.az,p.st))=some (some u,some (cells (ai.gw len z)),some [],st):=by kernel_rfl):Le m (bu S c Q cf):=by
 obtain⟨p,hp,hv⟩:=dZ hL;simp only[ζc]at hv;obtain⟨k,hk⟩:=Kz hv.2.1;refine sF hp ?_ h;rw[hv.1,hk,yu,hv.2.2.1,hv.2.2.2];simp only[ζb,h4,if_true,mG]
theorem Rj (n u:Nat) (st:St) (cs:List SV) {m:Option β} (h4:st.new u=true) (h:Le m (bu S c Q (nx S c n cf λ_=>{ st with g:=aR st.g u (.ptr u 0),m:=aR st.m u (.box cs) })))
 (hL:(fC S c n cf).map (λp=>(p.d,(MO p.k).map (λz=>z.map SV.v),bf S.N p.st.g p.az,p.st))=some (some u,some cs,some [],st):=by kernel_rfl):Le m (bu S c Q cf):=by
 obtain⟨p,hp,hv⟩:=dZ hL;simp only[ζc]at hv;obtain⟨z,hz,hz2⟩:=dZ hv.2.1;obtain⟨k,hk⟩:=Kz hz;refine sF hp ?_ h;rw[hv.1,hk,yu,hv.2.2.1,hv.2.2.2];simp only[ζb,h4,if_true,mG,hz2]
theorem js (n:Nat) (k:IntKind) (u:Nat) {a:ai N α} {i:Int} {f:α->Option γ} (h:∀x,a.at i=some x->Le ((f x).bind e) (bu S c Q (nx S c n cf λp=>bY p.st p.d (.ptr u (i.toNat*aD.size α+0)))))
 (hL:(fC S c n cf).map (λp=>(p.k,bf S.N p.st.g p.az,an p.st.m u))=some (.p (.idxA N (aD.size α)),some [.ptr u 0,.v (.int k i)],some (bx a)):=by kernel_rfl):Le (((a.at i).bind f).bind e) (bu S c Q cf):=by
 obtain⟨p,hp,hv⟩:=dZ hL;simp only[ζc]at hv;obtain⟨h1,h2⟩:=gN hp;obtain⟨dr,fr,d,gd,now,k',az,dd,l,fs,st⟩:=p;obtain⟨rfl,h3,h4⟩:=hv;exact Sm n dr fr (⟨d,gd,now,.p (.idxA N (aD.size α)),az,dd,[]⟩::l) fs st k u (sz:=aD.size α) (ln:=N) rfl (by(try dsimp only at *);simp only[h1,h2,h3,h4]) λx hx=>by
  have:=h x hx;simp only[nx,hp]at this;exact this
theorem Nf (n sz:Nat) (ag:Bool) (u:Nat) (a:ai N α) (i:Int) (o:Nat) (x:α) (hx:a.at i=some x) (v:V) (hv:(cut (cells x) o sz).bind (mk ag)=some v) {m:Option β} (h:Le m (bu S c Q (nx S c n cf λp=>bY p.st p.d (.v v))))
 (hL:(fC S c n cf).map (λp=>(p.k,bf S.N p.st.g p.az,an p.st.m u,(!p.dr||p.now||dF p.fr [.ptr u 0])))=some (.r (.load sz ag),some [.ptr u (i.toNat*aD.size α+o)],some (bx a),true):=by kernel_rfl):Le m (bu S c Q cf):=by
 obtain⟨p,hp,hv'⟩:=dZ hL;simp only[ζc]at hv';obtain⟨h1,h2⟩:=gN hp;obtain⟨dr,fr,d,gd,now,k',az,dd,l,fs,st⟩:=p;obtain⟨rfl,h3,h4,h5⟩:=hv';exact Sn n dr fr (⟨d,gd,now,.r (.load sz ag),az,dd,[]⟩::l) fs st u a i o x hx hv v rfl (by(try dsimp only at *);simp only[h1,h2,h3,h4,h5]) (by
  simp only[nx,hp]at h;exact h)
theorem ue (n sz u:Nat) (a:ai N α) (i:Int) (o:Nat) (x:α) (hx:a.at i=some x) (y:α) (v:V) (hy:cells y=(cells x).take o++v.cells++(cells x).drop (o+sz)) {m:Option β} (h:Le m (bu S c Q (nx S c n cf λp=>bY { p.st with m:=aR p.st.m u (bx (a.set i y)) } p.d (.v .undef))))
 (hL:(fC S c n cf).map (λp=>(p.k,bf S.N p.st.g p.az,an p.st.m u,(!p.dr||p.now),v.cells.length,v.cells.all V.one,Nat.ble (o+sz) (aD.size α)))=some (.l (.store sz),some [.ptr u (i.toNat*aD.size α+o),.v v],some (bx a),true,sz,true,true):=by kernel_rfl):Le m (bu S c Q cf):=by
 obtain⟨p,hp,hv'⟩:=dZ hL;simp only[ζc]at hv';obtain⟨h1,h2⟩:=gN hp;obtain⟨dr,fr,d,gd,now,k',az,dd,l,fs,st⟩:=p;obtain⟨rfl,h3,h4,h5,h6,h7,h8⟩:=hv';exact M3 n dr fr (⟨d,gd,now,.l (.store sz),az,dd,[]⟩::l) fs st u a i o x hx y v hy rfl (by(try dsimp only at *);simp only[h1,h2,h3,h4,h5,h6,h7,h8]) (by
  simp only[nx,hp]at h;exact h)
end
section
variable {κ ν:Type} [aD κ] [DecidableEq κ] [Key κ] [aD ν]
theorem Su (n u:Nat) (mp:Mo κ ν) (k:κ) (z:ν) {m:Option β} (h:Le m (bu S c Q (nx S c n cf λp=>bY p.st p.d (cv (nh mp k z)))))
 (hL:(fC S c n cf).map (λp=>(p.k,bf S.N p.st.g p.az,an p.st.m u,(!p.dr||p.now||dF p.fr [.mp u,cv k])))=some (.r (.lookup (Key.kk κ) (enc z) false),some [.mp u,cv k],some (q9 mp),true):=by kernel_rfl):Le m (bu S c Q cf):=by
 obtain⟨p,hp,hv⟩:=dZ hL;simp only[ζc]at hv;obtain⟨h1,h2⟩:=gN hp;obtain⟨dr,fr,d,gd,now,k',az,dd,l,fs,st⟩:=p;obtain⟨rfl,h3,h4,h5⟩:=hv;exact S8 n dr fr (⟨d,gd,now,.r (.lookup (Key.kk κ) (enc z) false),az,dd,[]⟩::l) fs st u mp k z rfl (by(try dsimp only at *);simp only[h1,h2,h3,h4,h5]) (by
  simp only[nx,hp]at h;exact h)
theorem Qb (n u:Nat) (mp:Mo κ ν) (k:κ) (v:ν) {m:Option β} (h:Le m (bu S c Q (nx S c n cf λp=>bY { p.st with m:=aR p.st.m u (q9 (mZ mp k v)) } p.d (.v .undef))))
 (hL:(fC S c n cf).map (λp=>(p.k,bf S.N p.st.g p.az,an p.st.m u,(!p.dr||p.now)))=some (.l (.mapUp (Key.kk κ)),some [.mp u,cv k,cv v],some (q9 mp),true):=by kernel_rfl):Le m (bu S c Q cf):=by
 obtain⟨p,hp,hv'⟩:=dZ hL;simp only[ζc]at hv';obtain⟨h1,h2⟩:=gN hp;obtain⟨dr,fr,d,gd,now,k',az,dd,l,fs,st⟩:=p;obtain⟨rfl,h3,h4,h5⟩:=hv';exact Uz n dr fr (⟨d,gd,now,.l (.mapUp (Key.kk κ)),az,dd,[]⟩::l) fs st u mp k v rfl (by(try dsimp only at *);simp only[h1,h2,h3,h4,h5]) (by
  simp only[nx,hp]at h;exact h)
end
theorem Sq (n:Nat) (st:St) {rs:List RV} {e:γ->Option (List V)} {r:γ} (svs:List SV) {ys:List V} (h2:mg (gK st.m 8) svs=some ys) (h3:e r=some ys)
 (h:(fU S c n cf.1 cf.2.1 cf.2.2).map (λq=>(q.1,q.2.2,oA q.2.2 rs))=some (.rt,st,some svs):=by kernel_rfl):Le ((some r).bind e) (bu S c (pz rs) cf):=by
 obtain⟨⟨fo,fs,st'⟩,hp,hv⟩:=dZ h;simp only[ζc]at hv;obtain⟨rfl,rfl,h5⟩:=hv;exact SM n svs h2 (by rw[hp,h5]) h3
end
end Go.VE
namespace Go.VE
variable [aY]
section
variable {S:Sys} {c:bH} {β γ δ α:Type} [aD α] {Q:Out×St->Option β} {e:γ->Option β} {cf:Cf}
def lU (s x:Sl α):Option (Sl α):=if x.l=[]then some s else if s.l.length+x.l.length<=2147483648 then some (.row (s.l++x.l))else none
theorem N9 (m:Tb aN) (n w:Nat) (x:Sl α) (hn:n=aD.size α) (hw:an m w=some (b7 x)):jm m n (.own w)=some (rows x.l):=by
 rw[BH,hw,yj n x hn]
theorem DN (l:List α):rows l=[]↔l=[]:=by unfold rows;simp
theorem LZ (a b:List α):rows a++rows b=rows (a++b):=by unfold rows;simp
theorem DU (a:List α):(rows a).length=a.length:=by unfold rows;simp
theorem RB {st:St} {dr now:Bool} {fr:List Nat} {az:List Arg} {d n o:Nat} {s x:Sl α} {sx:SV} (hs:bf S.N st.g az=some [.own o,sx]) (hd:(!dr||now)=true) (ho:an st.m o=some (b7 s)) (hx:jm st.m n sx=some (rows x.l)) (hn:n=aD.size α) (hw:St.new { st with m:=cM o st.m } d=true) :
 eu S c dr fr ⟨some d,none,now,.l (.append n),az,[],[]⟩ st=(lU s x).bind λs'=>some { st with g:=aR st.g d (.own d),m:=aR (cM o st.m) d (b7 s') }:=by
 rw[s_,hs];simp only[ζb,hd,if_true,wQ,N9 st.m n o s hn ho,hx];unfold lU
 by_cases h:x.l=[]
 .rw[if_pos h,(DN x.l).2 h];simp only[pq,ho,if_pos hw,ζb];rfl
 .rw[if_neg h];have hr:rows x.l≠[]:=λe=>h ((DN _).1 e)
  have ha:pq st d n (.own o) (some (rows s.l)) (some (rows x.l))=if(rows s.l).length+(rows x.l).length<=2147483648/\z7 (.own o)=true then(if St.new { st with m:=giveUp st.m (.own o) } d then some (.own d,{ st with m:=aR (giveUp st.m (.own o)) d (.sl .row n (rows s.l++rows x.l)) })else none)else none:=by
   unfold pq;generalize rows x.l=r at *
   cases r with
   | nil=>exact absurd rfl hr
   | cons y r=>rfl
  rw[ha,DU,DU,LZ]
  by_cases hl:s.l.length+x.l.length<=2147483648
  .rw[if_pos ⟨hl,rfl⟩,if_pos (show St.new { st with m:=giveUp st.m (.own o) } d=true from hw),if_pos hl];rw[ζb,ζb,hn];rfl
  .rw[if_neg (λk=>hl k.1),if_neg hl];rfl
theorem SK (n o u:Nat) (sx:SV) {s x:Sl α} {f:Sl α->Option γ} (hx:∀p,fC S c n cf=some p->jm p.st.m (aD.size α) sx=some (rows x.l))
 (h:∀s',lU s x=some s'->Le ((f s').bind e) (bu S c Q (nx S c n cf λp=>{ p.st with g:=aR p.st.g u (.own u),m:=aR (cM o p.st.m) u (b7 s') })))
 (hL:(fC S c n cf).map (λp=>(p.d,p.k,bf S.N p.st.g p.az,(!p.dr||p.now),an p.st.m o,St.new { p.st with m:=cM o p.st.m } u))=some (some u,.l (.append (aD.size α)),some [.own o,sx],true,some (b7 s),true):=by kernel_rfl):Le (((lU s x).bind f).bind e) (bu S c Q cf):=by
 obtain⟨p,hp,hv⟩:=dZ hL;simp only[ζc]at hv;refine tP hp ?_ h;rw[hv.1,hv.2.1];exact Le.of_eq (RB hv.2.2.1 hv.2.2.2.1 hv.2.2.2.2.1 (hx p hp) rfl hv.2.2.2.2.2)
theorem GF (m:Tb aN) (x:Sl α):jm m (aD.size α) (.v (aZ x))=some (rows x.l):=by
 cases x <;> simp[aZ,Sl.k,Sl.l,lT,jm,rows]
theorem wN (n o u:Nat) {s x:Sl α} {f:Sl α->Option γ}
 (h:∀s',lU s x=some s'->Le ((f s').bind e) (bu S c Q (nx S c n cf λp=>{ p.st with g:=aR p.st.g u (.own u),m:=aR (cM o p.st.m) u (b7 s') })))
 (hL:(fC S c n cf).map (λp=>(p.d,p.k,bf S.N p.st.g p.az,(!p.dr||p.now),an p.st.m o,St.new { p.st with m:=cM o p.st.m } u))=some (some u,.l (.append (aD.size α)),some [.own o,.v (aZ x)],true,some (b7 s),true):=by kernel_rfl):Le (((lU s x).bind f).bind e) (bu S c Q cf):=
 SK n o u _ (λp _=>GF p.st.m x) h hL
end
end Go.VE
namespace Go.VE
variable [aY]
theorem oQ {α:Type} {l:List α} {i:Nat} {x:α} (h:l[i]? = some x):l.set i x=l:=by
 obtain⟨hi,rfl⟩:=ζe.1 h;exact List.set_getElem_self hi
open Classical in
noncomputable def zU (E:Env) (g:FuncId) (cb:List V) (a b:V):Option V:=
 if h:∃n y,br (run E n) g (a::b::cb) []=some y then some (Classical.choose (Classical.choose_spec h))else none
theorem BZ {E:Env} {g:FuncId} {cb:List V} {a b y:V} (h:zU E g cb a b=some y):∃n,∀k,n<=k->br (run E k) g (a::b::cb) []=some y:=by
 unfold zU at h;split at h
 .rename_i h1;cases h;exact⟨_,λk hk=>lJ (lH E hk) (Classical.choose_spec (Classical.choose_spec h1))⟩
 .cases h
theorem Gk {E:Env} {g:FuncId} {cb:List V} {a b y:V} {n:Nat} (h:br (run E n) g (a::b::cb) []=some y):zU E g cb a b=some y:=by
 have h1:∃n y,br (run E n) g (a::b::cb) []=some y:=⟨n,y,h⟩
 cases hc:zU E g cb a b with
 | none=>unfold zU at hc;rw[dif_pos h1]at hc;cases hc
 | some z=>
  obtain⟨m,hm⟩:=BZ hc;have:=hm _ (Nat.le_max_right n m);rw[lJ (lH E (Nat.le_max_left n m)) h]at this;cases this;rfl
theorem Bt {n:Nat} {p:_root_.Fin n->Nat->Prop} (h:∀i,∃N,∀k,N<=k->p i k):∃N,∀i k,N<=k->p i k:=by
 induction n with
 | zero=>exact⟨0,λi=>i.elim0⟩
 | succ n ih=>
  obtain⟨N,hN⟩:=ih (p:=λi=>p i.succ) λi=>h i.succ
  obtain⟨M,hM⟩:=h 0;refine⟨max N M,λi k hk=>?_⟩
  refine _root_.Fin.cases (hM k (by omega)) (λj=>hN j k (by omega)) i
def hU (x:List V):V:=x.headD .undef
def oV (es:Nat) (xs:List (List V)):Bool:=es==1&&xs.all (λx=>x.length==1&&V.bU 8 x&&x.all V.one)&&decide (xs.length<=2147483648)
theorem vC {es:Nat} {xs:List (List V)} (h:oV es xs=true):es=1/\xs.length<=2147483648/\∀(i:Nat) x,xs[i]? = some x->x=[hU x]/\(hU x).lvl 8=true/\(hU x).one=true:=by
 unfold oV at h;simp only[ζh,beq_iff_eq,List.all_eq_true,decide_eq_true_eq]at h;refine⟨h.1.1,h.2,λi x hx=>?_⟩
 obtain⟨⟨h1,h2⟩,h3⟩:=h.1.2 x (List.mem_of_getElem? hx);obtain⟨u,rfl⟩:=List.length_eq_one_iff.1 h1;simp only[V.bU,Bool.and_true]at h2;exact⟨rfl,h2,h3 u (by simp)⟩
section
variable {H:aq} {Z:Nat->Prop}
theorem I8 {es:Nat} {xs:List (List V)} (h:oV es xs=true) {rs:List (List V)} (hf:eF H Z xs rs):borrows 8 H rs.flatten=some (xs.map hU):=by
 induction xs generalizing rs with
 | nil=>have:=hf.1;simp at this;have:rs=[]:=List.eq_nil_of_length_eq_zero (by simpa using this.symm);subst this;rfl
 | cons x xs ih=>
  obtain⟨h1,h2,h3⟩:=vC h
  cases rs with
  | nil=>have:=hf.1;simp at this
  | cons r rs=>
   obtain⟨e,hl,_⟩:=h3 0 x rfl;have hx:=hf.2 0 x r rfl rfl;rw[e]at hx;obtain⟨u,us,rfl,hu,hus⟩:=hx.inv;rw[hus.bQ];have hxs:oV es xs=true:=by
    unfold oV at h ⊢;simp only[List.all_cons,ζh,List.length_cons,decide_eq_true_eq]at h ⊢;exact⟨⟨h.1.1,h.1.2.2⟩,by omega⟩
   have:=ih hxs (rs:=rs) ⟨by have:=hf.1;simpa using this,λj a b ha hb=>hf.2 (j+1) a b ha hb⟩
   simp only[List.flatten_cons,List.singleton_append,List.map_cons];unfold borrows at this ⊢;simp only[iD,hu.borrow 8 hl,this]
theorem b9.borrows {xs ys:List V} (h:b9 H Z xs ys) (hl:V.bU 8 xs=true):borrows 8 H ys=some xs:=by
 induction xs generalizing ys with
 | nil=>rw[h.bQ];rfl
 | cons x xs ih=>
  obtain⟨y,ys,rfl,h1,h2⟩:=h.inv;simp only[V.bU,ζh]at hl;have:=ih h2 hl.2;unfold Go.VE.borrows at this ⊢;simp only[iD,h1.borrow 8 hl.1,this]
end
noncomputable def qq (E:Env) (g:FuncId) (cb:List V) (a b:V):Option Int:=match zU E g cb a b with|some (.int .i64 c)=>some c|_=>none
theorem Lg {E:Env} {g:FuncId} {cb:List V} {a b:V} {c:Int} (h:qq E g cb a b=some c):∃n,∀k,n<=k->br (run E k) g (a::b::cb) []=some (.int .i64 c):=by
 unfold qq at h;split at h
 .rename_i c' hc;cases h;exact BZ hc
 .cases h
noncomputable def xo (E:Env) (es:Nat) (xs:List (List V)):List V->Option (List (List V))
 | [.clo g [] cb]=>match xs with
  | []=>some []
  | x::l=>if oV es (x::l)&&V.bU 8 cb && !E.keep g then
   let t:_root_.Fin (l.length+1)->_root_.Fin (l.length+1)->Option Int:=λi j=>qq E g cb (hU (((x::l)[i.1]?).getD [])) (hU (((x::l)[j.1]?).getD []))
   if vL t then some ((oe l.length (nu t)).toList.map λi=>((x::l)[i.1]?).getD [])else none
   else none
 | _=>none
noncomputable def o7 (E:Env):CY:=⟨false,xo E⟩
theorem A3 {n:Nat} {lt:_root_.Fin (n+1)->_root_.Fin (n+1)->Bool} (h:Sort.SWO lt):(oe n lt).size=n+1:=by
 rw[zP];have:=(Sort.pdq_sorts lt h (List.finRange (n+1)).toArray 0 (n+1) (Lib.bitLen (n+1)) true true (Nat.zero_le _) (by simp) (Or.inl rfl)).1.1
 simpa using this
theorem ML {E:Env} {f:FuncId} (hk:E.keep f=true) (ho:E.own f=false) (hs:E.sort f=true) (hf:E.ft f=none):mm E f (o7 E) where
 keep:=hk
 own:=ho
 le:=by
  intro es xs vs ys h;simp only[o7,xo]at h;split at h
  .split at h
   .cases h;exact⟨Nat.le_refl _,λ_=>rfl⟩
   .split at h
    .split at h
     .rename_i ht;cases h;have:=A3 (oa ht).2;simp only[List.length_map,Array.length_toList,List.length_cons,this];exact⟨Nat.le_refl _,λ_=>trivial⟩
     .cases h
    .cases h
  .cases h
 none:=by
  intro es vs ys h H Z ws w hw he;simp only[o7,xo]at h;split at h
  .obtain⟨w2,r,rfl,h1,h2⟩:=hw.inv;rw[h2.bQ];refine⟨1,[],λk hk=>?_⟩
   cases k with
   | zero=>omega
   | succ k=>rcases he with rfl|rfl <;> simp[run,hf,hs,mM,o7]
  .cases h
 row:=by
  intro es xs vs ys h H Z ws id off rs hw hid hoff hfr hsol hz;simp only[o7,xo]at h;split at h
  .rename_i g cb;obtain⟨w2,r,rfl,h1,h2⟩:=hw.inv;rw[h2.bQ];obtain⟨a',cb',rfl,ha,hcb⟩:∃a' cb',w2=.clo g a' cb'/\b9 H Z [] a'/\b9 H Z cb cb':=h1.iJ;rw[ha.bQ]at *;split at h
   .cases h;refine⟨1,rs,[],λk hk=>?_,rfl,⟨rfl,λj u v hu=>by simp at hu⟩,hsol⟩
    cases k with
    | zero=>omega
    | succ k=>
     have:H.set id (.row es rs)=H:=oQ hid;simp[run,hf,hs,mM,o7,this]
   .rename_i x l;split at h
    .rename_i hcnd;simp only[ζh,Bool.not_eq_true']at hcnd;obtain⟨⟨c1,c2⟩,c3⟩:=hcnd;obtain⟨rfl,hlen,hel⟩:=vC c1;split at h
     .rename_i ht;cases h;obtain⟨htot,hswo⟩:=oa ht;have hmono:∀i,Z i->Z i/\au (H.set id .dead) i=au H i:=λi hi=>⟨hi,by
       unfold au;rw[List.getElem?_set_ne];rintro rfl;exact hz hi⟩
      have hfr':=hfr.mono hmono;have hus:borrows 8 (H.set id .dead) ((rs.drop off).take (l.length+1)).flatten=some ((x::l).map hU):=I8 c1 hfr';have hcbs:=(hcb.mono hmono).borrows c2;obtain⟨N,hN⟩:=Bt (p:=λi k=>∀j:_root_.Fin (l.length+1),br (run E k) g (hU (((x::l)[i.1]?).getD [])::hU (((x::l)[j.1]?).getD [])::cb) []=some (.int .i64 ((qq E g cb (hU (((x::l)[i.1]?).getD [])) (hU (((x::l)[j.1]?).getD []))).getD 0))) (λi=>by
       obtain⟨N,hN⟩:=Bt (p:=λ(j:_root_.Fin (l.length+1)) k=>br (run E k) g (hU (((x::l)[i.1]?).getD [])::hU (((x::l)[j.1]?).getD [])::cb) []=some (.int .i64 ((qq E g cb (hU (((x::l)[i.1]?).getD [])) (hU (((x::l)[j.1]?).getD []))).getD 0))) (λj=>by
        obtain⟨c,hc⟩:=htot i j;obtain⟨n,hn⟩:=Lg hc;exact⟨n,λk hk=>by rw[hn k hk,hc];rfl⟩)
       exact⟨N,λk hk j=>hN j k hk⟩)
      have htab:∀k,N<=k->gD (run E k) g ((x::l).map hU) cb l.length=λi j=>qq E g cb (hU (((x::l)[i.1]?).getD [])) (hU (((x::l)[j.1]?).getD [])):=λk hk=>by
       funext i j
       obtain⟨c,hc⟩:=htot i j;have e1:∀i:_root_.Fin (l.length+1),((x::l).map hU)[i.1]? = some (hU (((x::l)[i.1]?).getD [])):=λi=>by
        have:i.1<(x::l).length:=i.2;rw[List.getElem?_map,ζd this];rfl
       unfold gD;rw[e1 i,e1 j];simp only[hN i k hk j];rw[hc];rfl
      have hsz:=A3 hswo;generalize hL:(oe l.length (nu λi j:_root_.Fin (l.length+1)=>qq E g cb (hU (((x::l)[i.1]?).getD [])) (hU (((x::l)[j.1]?).getD [])))).toList=L at *
      have hLl:L.length=l.length+1:=by rw[<-hL];simpa using hsz
      simp only[List.length_cons]at hoff hfr hlen;refine⟨N+1,oR rs off l.length L,[],λk hk=>?_,?_,?_,?_⟩
      .cases k with
       | zero=>omega
       | succ k=>
        simp only[run,hf,hs,if_true,mM,hid,o7,Bool.false_eq_true,if_false,List.length_cons];rw[if_pos ⟨trivial,trivial,hoff,by omega,c3⟩,hus,hcbs]
        simp only[htab k (by omega),ht,if_true,hL,List.append_nil]
      .simp[oR,hLl];omega
      .have e:((oR rs off l.length L).drop off).take (L.map λi=>((x::l)[i.1]?).getD []).length=L.map λi=>(rs[off+i.1]?).getD []:=by
        unfold oR;have h0:(rs.take off).length=off:=by simp;omega
        rw[List.append_assoc,List.drop_append_of_le_length (by omega),List.drop_eq_nil_of_le (by omega),List.nil_append,List.length_map,List.take_append_of_le_length (by simp),List.take_of_length_le (by simp)]
       rw[e];refine⟨by simp,λj a b ha hb=>?_⟩
       rw[List.getElem?_map]at ha hb;obtain⟨i,hi,rfl⟩:=ζf.1 ha;rw[hi]at hb;simp only[Option.map_some,ζa]at hb;subst hb;have hilt:i.1<(x::l).length:=i.2;have hr:off+i.1<rs.length:=by have:=i.2;omega
       refine hfr.2 i.1 _ _ (by rw[ζd hilt];rfl) ?_
       rw[List.getElem?_take,if_pos i.2,List.getElem?_drop,ζd hr];rfl
      .intro c hc u hu;unfold oR at hc;rcases List.mem_append.1 hc with hc|hc
       .rcases List.mem_append.1 hc with hc|hc
        .exact hsol c (List.mem_of_mem_take hc) u hu
        .obtain⟨i,_,rfl⟩:=List.mem_map.1 hc;have hr:off+i.1<rs.length:=by have:=i.2;omega
         rw[ζd hr]at hu;exact hsol _ (List.getElem_mem hr) u hu
       .exact hsol c (List.mem_of_mem_drop hc) u hu
     .cases h
    .cases h
  .cases h
end Go.VE
namespace Go.VE
variable [aY]
def aA (N:Nat->FuncId) (F:Frame):Arg->V
 | .s n=>get F n
 | .k c=>c
 | .f s=>.clo (N s) [] []
def aF (E:Env) (N:Nat->FuncId) (call:cq) (b:Option Nat) (now:Bool) (k:K) (vs:List V) (H:aq):Option (V×aq):=
 match k,b with
 | .p p,_=>(ak N p vs).map λv=>(v,H)
 | .r r,none=>(dG H r vs).map λv=>(v,H)
 | .r r,some b=>(dG (H.take b) r vs).map λv=>(v,H)
 | .a a,none=>(iS a vs).map λx=>(x.2.val H.length,H++[x.1])
 | .l l,none=>dK H l vs
 | .l (.store n),some _=>if now then dK H (.store n) vs else none
 | .c,none=>match vs with
  | .clo g a c::av=>if E.keep g then dM E call g (a++av++c) H else match br call g (a++av++c) H with
   | some y=>if y.scalar then some (y,H)else none
   | none=>none
  | _=>none
 | .c,some b=>match vs with
  | .clo g a c::av=>if E.keep g then none else match br call g (a++av++c) (H.take b)with
   | some y=>if y.scalar then some (y,H)else none
   | none=>none
  | _=>none
 | _,_=>none
def ax (F:Frame):Option Nat->V->Frame
 | none,_=>F
 | some d,v=>set F d v
def bF (E:Env) (N:Nat->FuncId) (call:cq) (b:Option Nat):List RO->Frame->aq->Option (Frame×aq)
 | [],F,H=>some (F,H)
 | o::r,F,H=>match o.gd with
  | none=>match aF E N call b o.now o.k (o.az.map (aA N F)) H with
   | some (v,H')=>bF E N call b r (ax F o.dst v) H'
   | none=>none
  | some _=>none
section
variable {X:CX} {N:Nat->FuncId} {call:cq} {F F':Frame} {H H':aq}
theorem Ge (hN:∀f s,X.nm f=some s->N s=f) {o:Operand} {x:Arg} (h:oB X.nm o=some x):ev F o=some (aA N F x):=by
 cases o with
 | tmp t=>simp only[oB,ζa]at h;subst h;rfl
 | const w=>
  simp only[oB]at h;split at h
  .rename_i c hc;split at h
   .simp only[ζa]at h;subst h;exact hc
   .simp at h
  .simp at h
 | func f=>
  simp only[oB]at h;obtain⟨s,hs,rfl⟩:=ζf.1 h;show some (V.clo f [] [])=some (.clo (N s) [] []);rw[hN f s hs]
 | global i=>
  simp only[oB]at h;split at h
  .rename_i c hc;split at h
   .simp only[ζa]at h;subst h;simp only[ev,hc,Option.map_some];rfl
   .simp at h
  .simp at h
theorem zY (hN:∀f s,X.nm f=some s->N s=f):∀{os:List Operand} {av:List Arg},os.mapM (oB X.nm)=some av->eN F os=some (av.map (aA N F))
 | [],av,h=>by simp only[List.mapM_nil,Option.pure_def,ζa]at h;subst h;rfl
 | o::os,av,h=>by
  simp only[List.mapM_cons,Option.pure_def,Option.bind_eq_bind,ζg,ζa]at h;obtain⟨x,hx,xs,hxs,rfl⟩:=h;simp only[eN,Ge hN hx,zY hN hxs,List.map_cons]
theorem xW (hN:∀f s,X.nm f=some s->N s=f) {draw:Bool} {ops:List Oper} {i:Nat} {o:Oper} {ro:RO} (h:kL X draw ops i o=some ro) (hg:ro.gd=none) :
 o.dst=ro.dst/\ym X.nt o.dst=true/\eR ops F o=true/\((GC X.E N F o.op (ro.az.map (aA N F)) ro.k/\ro.now=(draw&&dL ops i))\/∃n,ro.k=.l (.storeF n)):=by
 unfold kL at h;split at h
 .rename_i hd;split at h
  .rename_i gd k os hgd hr;split at h
   .obtain⟨av,ha,rfl⟩:=ζf.1 h;simp only at hg;subst hg;refine⟨rfl,hd,?_,?_⟩
    .unfold eR;unfold G4 at hgd
     cases hgo:o.guard with
     | none=>rfl
     | some jb=>
      rw[hgo]at hgd;obtain⟨j,b⟩:=jb;obtain⟨d,_,e⟩:=ζf.1 hgd;cases e
    .rcases vJ draw ops i k os with e|⟨_,_,n,a,l,os',_,_,_,e⟩
     .rw[e]at ha ⊢;exact .inl ⟨qa hN hr (zY hN ha),rfl⟩
     .rw[e];exact .inr ⟨n,rfl⟩
   .simp at h
  .simp at h
 .simp at h
theorem EX {nt:Nat} {dst:Option Nat} (h:ym nt dst=true) (v:V):iR nt F dst v=some (ax F dst v):=by
 cases dst with
 | none=>rfl
 | some d=>simp only[ym,decide_eq_true_eq]at h;simp only[iR,if_pos h,ax]
theorem Q5 (hN:∀f s,X.nm f=some s->N s=f) {ops:List Oper} {i:Nat} {o:Oper} {ro:RO} (h:kL X false ops i o=some ro) (hg:ro.gd=none) {v:V} (hv:aF X.E N call none ro.now ro.k (ro.az.map (aA N F)) H=some (v,H')) :
 eE X.E call X.nt ops none o F H=some (ax F ro.dst v,H'):=by
 obtain⟨h1,h2,h3,h4⟩:=xW (F:=F) hN h hg;have hd:cN X.E call ops none F H o.op=some (v,H'):=by
  rcases h4 with⟨h4,_⟩|⟨n,h4⟩
  .generalize hk:ro.k=k at hv h4;generalize ro.az.map (aA N F)=vs at hv h4;unfold cN
   cases k with
   | p p=>
    obtain⟨c,e⟩:=h4;obtain⟨w,hw,he⟩:=ζf.1 hv;rw[c];simp only[e w hw,Option.map_some];rw[he]
   | r r=>
    obtain⟨c,e⟩:=h4;obtain⟨w,hw,he⟩:=ζf.1 hv;rw[c];simp only[e H w hw,Option.map_some];rw[he]
   | a a=>
    obtain⟨c,e⟩:=h4;obtain⟨⟨ob,m⟩,hw,he⟩:=ζf.1 hv;rw[c];simp only[e _ hw];exact congrArg some he
   | l l=>
    obtain⟨c,e⟩:=h4;rw[c];exact e H _ hv
   | c=>
    obtain⟨c,f,av,rfl,e⟩:=h4;rw[c];simp only[aF]at hv;split at hv
    .rename_i g a b az' heq;simp only[List.cons.injEq]at heq;obtain⟨rfl,rfl⟩:=heq;split at hv
     .rename_i hk2;simp only[e,j9,hk2,Bool.and_self,if_true];exact hv
     .rename_i hk2;split at hv
      .rename_i y hy;split at hv
       .rename_i hsc;simp only[e,j9,hk2,Bool.false_and,Bool.false_eq_true,if_false,hy,hsc,if_true];exact hv
       .simp at hv
      .simp at hv
    .simp at hv
  .rw[h4]at hv;exfalso;have:∀ops i k os,(uH false ops i k os).1=k:=λ_ _ _ _=>rfl
   unfold kL at h;split at h
   .split at h
    .rename_i gd k os hgd hr;split at h
     .obtain⟨av,ha,rfl⟩:=ζf.1 h;simp only[this]at h4;subst h4;unfold resolve at hr
      (repeat' split at hr) <;> first|(simp at hr;done)|(obtain⟨_,_,e⟩:=ζf.1 hr;simp at e;done)
     .simp at h
    .simp at h
   .first|(simp at h;done)|contradiction
 unfold eE;rw[h3,if_pos rfl,hd];simp only[h1,EX (h1▸h2),Option.map_some]
theorem DT (hN:∀f s,X.nm f=some s->N s=f) {ops:List Oper}:∀(rest:List Oper) {i:Nat} {ros:List RO} {F:Frame} {H:aq},jt X false ops i rest=some ros->bF X.E N call none ros F H=some (F',H')->j7 X.E call X.nt ops rest F H=some (F',H')
 | [],i,ros,F,H,hc,h=>by
  simp only[jt,ζa]at hc;subst hc;exact h
 | o::rest,i,ros,F,H,hc,h=>by
  simp only[jt]at hc;split at hc
  .rename_i ro rs h1 h2;simp only[ζa]at hc;subst hc;simp only[bF]at h;split at h
   .rename_i hg;split at h
    .rename_i v H1 hv;simp only[j7,Q5 hN h1 hg hv];exact DT hN rest h2 h
    .simp at h
   .simp at h
  .simp at hc
theorem Rt (hN:∀f s,X.nm f=some s->N s=f) {ops:List Oper} {b i:Nat} {o:Oper} {ro:RO} (h:kL X true ops i o=some ro) (hg:ro.gd=none) {v:V} (hv:aF X.E N call (some b) ro.now ro.k (ro.az.map (aA N F)) H=some (v,H')) :
 eE X.E call X.nt ops (some (b,i)) o F H=some (ax F ro.dst v,H'):=by
 obtain⟨h1,h2,h3,h4⟩:=xW (F:=F) hN h hg;have hd:cN X.E call ops (some (b,i)) F H o.op=some (v,H'):=by
  rcases h4 with⟨h4,hnow⟩|⟨n,h4⟩
  .generalize hk:ro.k=k at hv h4;generalize ro.az.map (aA N F)=vs at hv h4;unfold cN
   cases k with
   | p p=>
    obtain⟨c,e⟩:=h4;obtain⟨w,hw,he⟩:=ζf.1 hv;rw[c];simp only[e w hw,Option.map_some];rw[he]
   | r r=>
    obtain⟨c,e⟩:=h4;obtain⟨w,hw,he⟩:=ζf.1 hv;rw[c];simp only[e _ w hw];rw[he]
   | a a=>simp[aF]at hv
   | l l=>
    obtain⟨c,e⟩:=h4
    cases l with
    | store n=>
     simp only[aF]at hv;split at hv
     .rename_i hn;rw[hnow,Bool.true_and]at hn;rw[c];simp only[hn,Bool.true_or,if_true];exact e H _ hv
     .simp at hv
    | _=>simp[aF]at hv
   | c=>
    obtain⟨c,f,av,rfl,e⟩:=h4;rw[c];simp only[aF]at hv;split at hv
    .rename_i g a b az' heq;simp only[List.cons.injEq]at heq;obtain⟨rfl,rfl⟩:=heq;split at hv
     .simp at hv
     .rename_i hk2;split at hv
      .rename_i y hy;split at hv
       .rename_i hsc;simp only[e,j9,hk2,Bool.false_and,Bool.false_eq_true,if_false,hy,hsc,if_true];exact hv
       .simp at hv
      .simp at hv
    .simp at hv
  .rw[h4]at hv;simp[aF]at hv
 unfold eE;rw[h3,if_pos rfl,hd];simp only[h1,EX (h1▸h2),Option.map_some]
theorem El (hN:∀f s,X.nm f=some s->N s=f) {ops:List Oper} {b:Nat}:∀(rest:List Oper) {i:Nat} {ros:List RO} {F:Frame} {H:aq},ops.drop i=rest->jt X true ops i rest=some ros->bF X.E N call (some b) ros F H=some (F',H') ->
 gX X.E call X.nt ops b (List.range' i rest.length) F H=some (F',H')
 | [],i,ros,F,H,_,hc,h=>by
  simp only[jt,ζa]at hc;subst hc;exact h
 | o::rest,i,ros,F,H,hd,hc,h=>by
  simp only[jt]at hc;split at hc
  .rename_i ro rs h1 h2;simp only[ζa]at hc;subst hc;simp only[bF]at h;split at h
   .rename_i hg;split at h
    .rename_i v H1 hv;have ho:ops[i]? = some o:=by
      have:(ops.drop i)[0]? = some o:=by rw[hd];rfl
      rwa [List.getElem?_drop,Nat.add_zero]at this
     have hd':ops.drop (i+1)=rest:=by
      rw[<-List.drop_drop,hd];rfl
     simp only[List.length_cons,List.range'_succ,gX,ho,Rt hN h1 hg hv];exact El hN rest hd' h2 h
    .simp at h
   .simp at h
  .simp at hc
def vj (l:List RO):Bool:=l.all λo=>(match o.k with|.a _=>false|_=>true)&&o.gd.isNone
theorem AP (hN:∀f s,X.nm f=some s->N s=f) {ops:List Oper}:∀(rest:List Oper) {i:Nat} {ros:List RO},jt X true ops i rest=some ros->vj ros=true->rest.any (λo=>dz o.op==.alloc)=false
 | [],_,_,_,_=>rfl
 | o::rest,i,ros,hc,hn=>by
  simp only[jt]at hc;split at hc
  .rename_i ro rs h1 h2;simp only[ζa]at hc;subst hc;simp only[vj,List.all_cons,ζh,Option.isNone_iff_eq_none]at hn;obtain⟨_,_,_,h4⟩:=xW (F:=[]) hN h1 hn.1.2;rw[List.any_cons,AP hN rest h2 hn.2,Bool.or_false];rcases h4 with⟨h4,_⟩|⟨n,h4⟩
   .cases hk:ro.k with
    | p p=>rw[hk]at h4;rw[h4.1];rfl
    | r p=>rw[hk]at h4;rw[h4.1];rfl
    | a p=>have:=hn.1.1;rw[hk]at this;cases this
    | l p=>rw[hk]at h4;rw[h4.1];rfl
    | c=>rw[hk]at h4;rw[h4.1];rfl
   .
    unfold kL at h1;split at h1
    .split at h1
     .rename_i gd k os hgd hr;split at h1
      .obtain⟨av,ha,rfl⟩:=ζf.1 h1;rcases vJ true ops i k os with e|⟨_,_,m,a,l,os',rfl,rfl,_,e⟩
       .simp only[e]at h4;subst h4;unfold resolve at hr
        (repeat' split at hr) <;> first|(simp at hr;done)|(obtain⟨_,_,e⟩:=ζf.1 hr;simp at e;done)
       .rw[e]at ha;obtain⟨v1,v2,g1,_,_⟩:=BQ (F:=[]) (zY (N:=N) hN ha);have:=(qa hN hr g1).1;rw[this];rfl
      .simp at h1
     .simp at h1
    .first|(simp at h1;done)|contradiction
  .simp at hc
def fH (E:Env) (N:Nat->FuncId) (call:cq) (lf:Nat):RC->Frame->aq->Option (Out×Frame×aq)
 | .skip,F,H=>some (.norm,F,H)
 | .ops l,F,H=>(bF E N call none l F H).map λx=>(.norm,x.1,x.2)
 | .nq l,F,H=>if vj l then(bF E N call (some H.length) l F H).map λx=>(.norm,x.1,x.2)else none
 | .seq a b,F,H=>match fH E N call lf a F H with
  | some (.norm,F',H')=>fH E N call lf b F' H'
  | r=>r
 | .cond x a b,F,H=>match aA N F x with
  | .bool t=>if t then fH E N call lf a F H else fH E N call lf b F H
  | _=>none
 | .block id c,F,H=>match fH E N call lf c F H with
  | some (.exit id',F',H')=>if id'=id then some (.norm,F',H')else some (.exit id',F',H')
  | r=>r
 | .loop c,F,H=>iX (fH E N call lf c) lf F H
 | .exit id,F,H=>some (.exit id,F,H)
 | .ret,F,H=>some (.ret,F,H)
 | _,_,_=>none
theorem Du {f g:Frame->aq->Option (Out×Frame×aq)} (h:∀F H r,f F H=some r->g F H=some r):∀(k:Nat) (F:Frame) (H:aq) (r:Out×Frame×aq),iX f k F H=some r->iX g k F H=some r
 | 0,F,H,r,hr=>by simp[iX]at hr
 | k+1,F,H,r,hr=>by
  simp only[iX]at hr ⊢
  cases hf:f F H with
  | none=>rw[hf]at hr;simp at hr
  | some q=>
   rw[hf]at hr;rw[h F H q hf];obtain⟨o,F1,H1⟩:=q
   cases o with
   | norm=>exact Du h k F1 H1 r hr
   | exit _=>exact hr
   | ret=>exact hr
theorem Ma (hN:∀f s,X.nm f=some s->N s=f) {lf:Nat}:∀(rc:RC) (code:Code) (F:Frame) (H:aq) (r:Out×Frame×aq),aL X false code=some rc->fH X.E N call lf rc F H=some r->exec X.E call lf false X.nt code F H=some r:=by
 intro rc
 induction rc with
 | skip=>
  intro code F H r hc h;simp only[fH,ζa]at h;subst h
  cases code with
  | skip=>rfl
  | label _=>rfl
  | region id ops draw=>simp only[aL]at hc;(repeat' split at hc) <;> first|(simp at hc;done)|(obtain⟨_,_,e⟩:=ζf.1 hc;cases e)
  | _=>simp only[aL]at hc;(repeat' split at hc) <;> first|(simp at hc;done)|(obtain⟨_,_,e⟩:=ζf.1 hc;cases e)|cases hc
 | ops l=>
  intro code F H r hc h
  cases code with
  | region id ops draw=>
   simp only[aL]at hc;split at hc
   .split at hc
    .obtain⟨_,_,e⟩:=ζf.1 hc;cases e
    .simp at hc
   .rename_i hd;obtain⟨l',hl,e⟩:=ζf.1 hc;cases e;simp only[fH]at h;obtain⟨⟨F',H'⟩,hv,rfl⟩:=ζf.1 h;simp only[exec,gV,hd];rw[if_neg (by simp),DT hN _ hl hv];rfl
  | _=>simp only[aL]at hc;(repeat' split at hc) <;> first|(simp at hc;done)|(obtain⟨_,_,e⟩:=ζf.1 hc;cases e)|cases hc
 | nq l=>
  intro code F H r hc h
  cases code with
  | region id ops draw=>
   simp only[aL]at hc;split at hc
   .rename_i hd;split at hc
    .rename_i hok;obtain⟨l',hl,e⟩:=ζf.1 hc;cases e;simp only[fH]at h;split at h
     .rename_i hn;obtain⟨⟨F',H'⟩,hv,rfl⟩:=ζf.1 h;have ha:pe ops.toList=false:=AP hN _ hl hn;have:=El hN ops.toList (i:=0) rfl hl hv;rw[<-List.range_eq_range']at this;simp only[exec,gV,hd,hok,if_true,ha,Bool.false_eq_true,if_false,this];rfl
     .simp at h
    .simp at hc
   .obtain⟨_,_,e⟩:=ζf.1 hc;cases e
  | _=>simp only[aL]at hc;(repeat' split at hc) <;> first|(simp at hc;done)|(obtain⟨_,_,e⟩:=ζf.1 hc;cases e)|cases hc
 | seq a b iha ihb=>
  intro code F H r hc h
  cases code with
  | seq a' b'=>
   simp only[aL]at hc;split at hc
   .rename_i x y hx hy;cases hc;simp only[fH]at h;simp only[exec]
    cases hva:fH X.E N call lf a F H with
    | none=>rw[hva]at h;simp at h
    | some q=>
     rw[hva]at h;rw[iha a' F H q hx hva];obtain⟨o,F1,H1⟩:=q
     cases o with
     | norm=>exact ihb b' F1 H1 r hy h
     | exit _=>exact h
     | ret=>exact h
   .simp at hc
  | region id ops draw=>simp only[aL]at hc;(repeat' split at hc) <;> first|(simp at hc;done)|(obtain⟨_,_,e⟩:=ζf.1 hc;cases e)
  | _=>simp only[aL]at hc;(repeat' split at hc) <;> first|(simp at hc;done)|(obtain⟨_,_,e⟩:=ζf.1 hc;cases e)|cases hc
 | cond x a b iha ihb=>
  intro code F H r hc h
  cases code with
  | cond c a' b'=>
   simp only[aL]at hc;split at hc
   .rename_i x' y z hx hy hz;cases hc;simp only[fH]at h;simp only[exec,Ge (F:=F) hN hx];split at h
    .rename_i t ht;rw[ht]
     cases t with
     | true=>simp only[if_true]at h ⊢;exact iha a' F H r hy h
     | false=>simp only[Bool.false_eq_true,if_false]at h ⊢;exact ihb b' F H r hz h
    .simp at h
   .simp at hc
  | region id ops draw=>simp only[aL]at hc;(repeat' split at hc) <;> first|(simp at hc;done)|(obtain⟨_,_,e⟩:=ζf.1 hc;cases e)
  | _=>simp only[aL]at hc;(repeat' split at hc) <;> first|(simp at hc;done)|(obtain⟨_,_,e⟩:=ζf.1 hc;cases e)|cases hc
 | block id c ih=>
  intro code F H r hc h
  cases code with
  | block id' c'=>
   simp only[aL]at hc;obtain⟨x,hx,e⟩:=ζf.1 hc;cases e;simp only[fH]at h;simp only[exec]
   cases hva:fH X.E N call lf c F H with
   | none=>rw[hva]at h;simp at h
   | some q=>
    rw[hva]at h;rw[ih c' F H q hx hva];exact h
  | region id ops draw=>simp only[aL]at hc;(repeat' split at hc) <;> first|(simp at hc;done)|(obtain⟨_,_,e⟩:=ζf.1 hc;cases e)
  | _=>simp only[aL]at hc;(repeat' split at hc) <;> first|(simp at hc;done)|(obtain⟨_,_,e⟩:=ζf.1 hc;cases e)|cases hc
 | loop c ih=>
  intro code F H r hc h
  cases code with
  | loop c'=>
   simp only[aL]at hc;obtain⟨x,hx,e⟩:=ζf.1 hc;cases e;simp only[fH]at h;simp only[exec];exact Du (λF H r hr=>ih c' F H r hx hr) lf F H r h
  | region id ops draw=>simp only[aL]at hc;(repeat' split at hc) <;> first|(simp at hc;done)|(obtain⟨_,_,e⟩:=ζf.1 hc;cases e)
  | _=>simp only[aL]at hc;(repeat' split at hc) <;> first|(simp at hc;done)|(obtain⟨_,_,e⟩:=ζf.1 hc;cases e)|cases hc
 | exit id=>
  intro code F H r hc h
  cases code with
  | exit id'=>simp only[aL,ζa,RC.exit.injEq]at hc;subst hc;exact h
  | region id ops draw=>simp only[aL]at hc;(repeat' split at hc) <;> first|(simp at hc;done)|(obtain⟨_,_,e⟩:=ζf.1 hc;cases e)
  | _=>simp only[aL]at hc;(repeat' split at hc) <;> first|(simp at hc;done)|(obtain⟨_,_,e⟩:=ζf.1 hc;cases e)|cases hc
 | ret=>
  intro code F H r hc h
  cases code with
  | ret=>exact h
  | region id ops draw=>simp only[aL]at hc;(repeat' split at hc) <;> first|(simp at hc;done)|(obtain⟨_,_,e⟩:=ζf.1 hc;cases e)
  | _=>simp only[aL]at hc;(repeat' split at hc) <;> first|(simp at hc;done)|(obtain⟨_,_,e⟩:=ζf.1 hc;cases e)|cases hc
 | _=>intro code F H r hc h;simp[fH]at h
end
end Go.VE
namespace Go.VE
variable [aY]
def Ex (E:Env) (N:Nat->FuncId) (rc:RC) (F:Frame) (H:aq) (o:Out) (F':Frame) (H':aq):Prop:=
 ∃n,∀k,n<=k->fH E N (run E k) k rc F H=some (o,F',H')
def jP (E:Env) (N:Nat->FuncId) (rc:RC) (F:Frame) (H:aq) (o:Out) (F':Frame) (H':aq):Prop:=
 ∃n,∀k,n<=k->∀lf,n<=lf->iX (fH E N (run E k) k rc) lf F H=some (o,F',H')
section
variable {E:Env} {N:Nat->FuncId} {a b c:RC} {F F1 F':Frame} {H H1 H':aq} {o:Out} {x:Arg} {id:Nat}
theorem Ex.ops {l:List RO} (h:∃n,∀k,n<=k->bF E N (run E k) none l F H=some (F',H')):Ex E N (.ops l) F H .norm F' H':=
 let ⟨n,h⟩:=h;⟨n,λk hk=>by simp only[fH,h k hk,Option.map_some]⟩
theorem Ex.bS {l:List RO} (h:∀call,bF E N call none l F H=some (F',H')):Ex E N (.ops l) F H .norm F' H':=Ex.ops ⟨0,λk _=>h _⟩
theorem Ex.nq {l:List RO} (hn:vj l=true) (h:∀call,bF E N call (some H.length) l F H=some (F',H')):Ex E N (.nq l) F H .norm F' H':=
 ⟨0,λk _=>by simp only[fH,hn,if_true,h,Option.map_some]⟩
theorem Ex.G2 {l:List RO} (hn:vj l=true) (h:∃n,∀k,n<=k->bF E N (run E k) (some H.length) l F H=some (F',H')):Ex E N (.nq l) F H .norm F' H':=
 let ⟨n,h⟩:=h;⟨n,λk hk=>by simp only[fH,hn,if_true,h k hk,Option.map_some]⟩
theorem Ex.skip:Ex E N .skip F H .norm F H:=⟨0,λ_ _=>rfl⟩
theorem Ex.exit:Ex E N (.exit id) F H (.exit id) F H:=⟨0,λ_ _=>rfl⟩
theorem Ex.ret:Ex E N .ret F H .ret F H:=⟨0,λ_ _=>rfl⟩
theorem Ex.seq (h1:Ex E N a F H .norm F1 H1) (h2:Ex E N b F1 H1 o F' H'):Ex E N (.seq a b) F H o F' H':=by
 obtain⟨n,h1⟩:=h1;obtain⟨m,h2⟩:=h2;exact⟨max n m,λk hk=>by simp only[fH,h1 k (by omega)];exact h2 k (by omega)⟩
theorem Ex.qP (h1:Ex E N a F H o F' H') (ho:o≠.norm):Ex E N (.seq a b) F H o F' H':=by
 obtain⟨n,h1⟩:=h1;refine⟨n,λk hk=>?_⟩
 simp only[fH,h1 k hk];cases o <;> first|exact absurd rfl ho|rfl
theorem Ex.kP (hx:aA N F x=.bool true) (h:Ex E N a F H o F' H'):Ex E N (.cond x a b) F H o F' H':=by
 obtain⟨n,h⟩:=h;exact⟨n,λk hk=>by simp only[fH,hx,if_true,h k hk]⟩
theorem Ex.nv (hx:aA N F x=.bool false) (h:Ex E N b F H o F' H'):Ex E N (.cond x a b) F H o F' H':=by
 obtain⟨n,h⟩:=h;exact⟨n,λk hk=>by simp only[fH,hx,Bool.false_eq_true,if_false,h k hk]⟩
theorem Ex.block (h:Ex E N c F H .norm F' H'):Ex E N (.block id c) F H .norm F' H':=by
 obtain⟨n,h⟩:=h;exact⟨n,λk hk=>by simp only[fH,h k hk]⟩
theorem Ex.rQ (h:Ex E N c F H (.exit id) F' H'):Ex E N (.block id c) F H .norm F' H':=by
 obtain⟨n,h⟩:=h;exact⟨n,λk hk=>by simp only[fH,h k hk,if_true]⟩
theorem Ex.I5 (h:Ex E N c F H .ret F' H'):Ex E N (.block id c) F H .ret F' H':=by
 obtain⟨n,h⟩:=h;exact⟨n,λk hk=>by simp only[fH,h k hk]⟩
theorem Ex.loop (h:jP E N c F H o F' H'):Ex E N (.loop c) F H o F' H':=by
 obtain⟨n,h⟩:=h;exact⟨n,λk hk=>h k hk k hk⟩
theorem jP.step (h1:Ex E N c F H .norm F1 H1) (h2:jP E N c F1 H1 o F' H'):jP E N c F H o F' H':=by
 obtain⟨n,h1⟩:=h1;obtain⟨m,h2⟩:=h2;refine⟨max n m+1,λk hk lf hl=>?_⟩
 cases lf with
 | zero=>omega
 | succ lf=>simp only[iX,h1 k (by omega)];exact h2 k (by omega) lf (by omega)
theorem jP.stop (h1:Ex E N c F H o F' H') (ho:o≠.norm):jP E N c F H o F' H':=by
 obtain⟨n,h1⟩:=h1;refine⟨n+1,λk hk lf hl=>?_⟩
 cases lf with
 | zero=>omega
 | succ lf=>
  simp only[iX,h1 k (by omega)]
  cases o <;> first|exact absurd rfl ho|rfl
end
theorem Ex.run {E:Env} {nm:FuncId->Option Nat} {N:Nat->FuncId} (hN:∀f s,nm f=some s->N s=f) {f:FuncId} {fi:FI} {rc:RC} (hf:E.ft f=some fi) (hc:aL ⟨E,nm,fi.ntmps⟩ false fi.body=some rc) {args:List V} (ha:args.length<=fi.ntmps) {H H':aq} {F':Frame}
 (h:Ex E N rc args H .ret F' H') {vs:List V} (hr:fF E F' H' fi.results=some vs):∃n,run E n (.fn f) args H=some (result vs,H'):=by
 obtain⟨n,h⟩:=h;refine⟨n+1,?_⟩;have:=Ma (X:=⟨E,nm,fi.ntmps⟩) (call:=Go.VE.run E n) hN (lf:=n) rc fi.body args H _ hc (h n (Nat.le_refl _));simp only[Go.VE.run,hf,if_pos ha,this,hr,Option.map_some]
@[simp] theorem aC (F:Frame) (i j:Nat) (v:V):get (set F i v) j=if i=j then v else get F j:=by
 split
 .rename_i h;subst h;exact qd F i v
 .rename_i h;exact fJ F v h
def refs:List Nat->List (List V)->List (List V)
 | id::ids,r::rs=>[V.hsl id 1 0 r.length]::refs ids rs
 | _,_=>[]
def gG (r:List V):List (List V):=r.map λu=>[u]
structure kf (H:aq) (w:V) (o:Nat) (ids:List Nat) (rows:List (List V)):Prop where
 v:w=if rows=[]then .aG else .hsl o 1 0 rows.length
 ob:rows≠[]->H[o]? = some (.row 1 (refs ids rows))
 len:ids.length=rows.length
 r:∀(i id:Nat) (r:List V),ids[i]? = some id->rows[i]? = some r->H[id]? = some (.row 1 (gG r))
 nd:ids.Nodup
 ne:rows≠[]->o∉ids
theorem qS:∀{ids:List Nat} {rows:List (List V)},ids.length=rows.length->(refs ids rows).length=rows.length
 | [],[],_=>rfl
 | _::ids,_::rows,h=>by simp only[refs,List.length_cons,qS (ids:=ids) (rows:=rows) (by simpa using h)]
theorem DX:∀{ids:List Nat} {rows:List (List V)} (id:Nat) (r:List V),ids.length=rows.length->refs (ids++[id]) (rows++[r])=refs ids rows++[[V.hsl id 1 0 r.length]]
 | [],[],_,_,_=>rfl
 | _::ids,_::rows,id,r,h=>by simp only[refs,List.cons_append,DX (ids:=ids) (rows:=rows) id r (by simpa using h)]
theorem zw:∀{ids:List Nat} {rows:List (List V)} {i id:Nat} {r:List V},ids[i]? = some id->rows[i]? = some r->(refs ids rows)[i]? = some [V.hsl id 1 0 r.length]
 | [],_,_,_,_,h,_=>by simp at h
 | _::_,[],_,_,_,_,h=>by simp at h
 | a::ids,b::rows,0,id,r,h1,h2=>by simp at h1 h2;subst h1 h2;rfl
 | a::ids,b::rows,i+1,id,r,h1,h2=>by simpa [refs]using zw (ids:=ids) (rows:=rows) (i:=i) (by simpa using h1) (by simpa using h2)
theorem EL:∀{ids:List Nat} {rows:List (List V)} {i:Nat} {r r':List V},rows[i]? = some r->r'.length=r.length->refs ids (rows.set i r')=refs ids rows
 | [],_,_,_,_,_,_=>by simp[refs]
 | _::_,[],_,_,_,_,_=>by simp[refs]
 | a::ids,b::rows,0,r,r',h,hl=>by simp at h;subst h;simp only[List.set_cons_zero,refs,hl]
 | a::ids,b::rows,i+1,r,r',h,hl=>by simp only[List.set_cons_succ,refs,EL (ids:=ids) (rows:=rows) (i:=i) (by simpa using h) hl]
section
variable {H H':aq} {v:V} {o:Nat} {ids:List Nat} {rows:List (List V)}
theorem kf.nil (H:aq) (o:Nat):kf H .aG o [] []:=⟨rfl,λh=>absurd rfl h,rfl,λi id r h=>by simp at h,.nil,λh=>absurd rfl h⟩
theorem kf.heap (n:kf H v o ids rows) (ho:rows≠[]->H'[o]? = H[o]?) (hi:∀id∈ids,H'[id]? = H[id]?):kf H' v o ids rows:=
 ⟨n.v,λh=>by rw[ho h];exact n.ob h,n.len,λi id r h1 h2=>by rw[hi id (List.mem_of_getElem? h1)];exact n.r i id r h1 h2,n.nd,n.ne⟩
theorem kf.lt (n:kf H v o ids rows):(rows≠[]->o<H.length)/\∀id∈ids,id<H.length:=by
 refine⟨λh=>(ζe.1 (n.ob h)).1,λid hid=>?_⟩
 obtain⟨i,hi⟩:=List.getElem?_of_mem hid;have hl:=(ζe.1 hi).1;have:=n.r i id _ hi (ζd (show i<rows.length from n.len▸hl));exact(ζe.1 this).1
theorem kf.more (n:kf H v o ids rows) (X:aq):kf (H++X) v o ids rows:=
 n.heap (λh=>List.getElem?_append_left (n.lt.1 h)) λid hid=>List.getElem?_append_left (n.lt.2 id hid)
theorem kf.push (n:kf H v o ids rows) (r:List V) (hl:rows.length+1<=2147483648) :
 ∃H',dK (H++[.row 1 (gG r)]++[.row 1 [[.hsl H.length 1 0 r.length]]]) (.append 1) [v,.hsl (H.length+1) 1 0 1]=some (.hsl (H.length+2) 1 0 (rows.length+1),H') /\
  kf H' (.hsl (H.length+2) 1 0 (rows.length+1)) (H.length+2) (ids++[H.length]) (rows++[r])/\H.length<=H'.length/\(∀id,id<H.length->id≠o\/rows=[]->H'[id]? = H[id]?):=by
 generalize hH2:H++[.row 1 (gG r)]++[.row 1 [[.hsl H.length 1 0 r.length]]]=H2;have hlen:H2.length=H.length+2:=by subst hH2;simp
 have hlo:∀id,id<H.length->H2[id]? = H[id]? := λid h=>by
  subst hH2;rw[List.append_assoc,List.getElem?_append_left h]
 have h1:H2[H.length]? = some (.row 1 (gG r)):=by subst hH2;simp
 have h2:H2[H.length+1]? = some (.row 1 [[.hsl H.length 1 0 r.length]]):=by subst hH2;simp
 have hv:=n.v;have e2:cF H2 1 (.hsl (H.length+1) 1 0 1)=some [[.hsl H.length 1 0 r.length]]:=by
  simp[cF,h2,Ob.rows]
 by_cases hr:rows=[]
 .subst hr;rw[if_pos rfl]at hv;subst hv;have:ids=[]:=List.eq_nil_of_length_eq_zero n.len;subst this;refine⟨H2++[.row 1 [[.hsl H.length 1 0 r.length]]],?_,⟨by simp,λ_=>by rw[<-hlen];simp[refs],rfl,λi id r' hi hr'=>?_,by simp,λ_=>by simp⟩,by simp[hlen];omega,λid hid _=>?_⟩
  .have e1:cF H2 1 .aG=some []:=rfl;simp only[dK,e1,e2,gp,List.length_nil,List.length_singleton,Option.map_some,hlen];simp
  .cases i with
   | zero=>
    simp at hi hr';subst hi hr';rw[List.getElem?_append_left (by omega)];exact h1
   | succ i=>simp at hi
  .rw[List.getElem?_append_left (by omega)];exact hlo id hid
 .rw[if_neg hr]at hv;subst hv;have ho:=n.ob hr;have hol:=n.lt.1 hr;have e1:cF H2 1 (.hsl o 1 0 rows.length)=some (refs ids rows):=by
   simp only[cF,if_true,hlo o hol,ho,ζb,Ob.rows,qS n.len,Nat.zero_add,Nat.le_refl,List.drop_zero];rw[List.take_of_length_le (by rw[qS n.len];exact Nat.le_refl _)]
  have eg:gp H2 (.hsl o 1 0 rows.length)=some (H2.set o .dead):=by
   simp only[gp,hlo o hol,ho]
  have hset:∀id,id≠o->(H2.set o Ob.dead++[Ob.row 1 (refs ids rows++[[.hsl H.length 1 0 r.length]])])[id]? = if id<H2.length then H2[id]? else(H2.set o Ob.dead++[Ob.row 1 (refs ids rows++[[.hsl H.length 1 0 r.length]])])[id]? := λid hne=>by
   split
   .rename_i h;rw[List.getElem?_append_left (by simpa using h),List.getElem?_set_ne (Ne.symm hne)]
   .rfl
  refine⟨H2.set o .dead++[.row 1 (refs ids rows++[[.hsl H.length 1 0 r.length]])],?_,⟨by simp,λ_=>?_,by simp[n.len],λi id r' hi hr'=>?_,?_,λ_ hm=>?_⟩,by simp[hlen];omega,λid hid hne=>?_⟩
  .simp only[dK,e1,e2,eg,qS n.len,List.length_singleton,hl,if_true,Option.map_some,hlen]
  .rw[DX _ _ n.len,<-hlen];simp
  .have hio:id≠o:=by
    rcases Nat.lt_or_ge i ids.length with h|h
    .rw[List.getElem?_append_left h]at hi;intro e;subst e;exact n.ne hr (List.mem_of_getElem? hi)
    .have:i=ids.length:=by have:=(ζe.1 hi).1;simp at this;omega
     subst this;simp at hi;subst hi;omega
   rcases Nat.lt_or_ge i ids.length with h|h
   .rw[List.getElem?_append_left h]at hi;rw[List.getElem?_append_left (by rw[<-n.len];exact h)]at hr'
    have hidl:=n.lt.2 id (List.mem_of_getElem? hi);rw[hset id hio,if_pos (by omega),hlo id hidl]
    exact n.r i id r' hi hr'
   .have:i=ids.length:=by have:=(ζe.1 hi).1;simp at this;omega
    subst this;simp at hi;subst hi;rw[n.len]at hr';simp at hr';subst hr';rw[hset _ hio,if_pos (by omega)];exact h1
  .rw[List.nodup_append];exact⟨n.nd,by simp,λa ha b hb=>by simp at hb;subst hb;exact Nat.ne_of_lt (n.lt.2 a ha)⟩
  .rcases List.mem_append.1 hm with hm|hm
   .have:=n.lt.2 _ hm;omega
   .simp at hm
  .rw[hset id (hne.resolve_right hr),if_pos (by omega)];exact hlo id hid
end
end Go.VE
namespace Go.VE
variable [aY]
theorem h_ {E:Env} {N:Nat->FuncId} {F:Frame} {H H1:aq} {call:cq} {b:Option Nat} {o:RO} {l:List RO} {v:V} {r:Frame×aq} (hg:o.gd=none) (hv:aF E N call b o.now o.k (o.az.map (aA N F)) H=some (v,H1)) (h:bF E N call b l (ax F o.dst v) H1=some r):bF E N call b (o::l) F H=some r:=by
 simp only[bF,hg,hv];exact h
theorem vp {E:Env} {N:Nat->FuncId} {F:Frame} {H:aq} {call:cq} {b:Option Nat} {o:RO} {l:List RO} {v:V} {r:Frame×aq} (hg:o.gd=none) (hv:aF E N call b o.now o.k (o.az.map (aA N F)) H=some (v,H)) (h:bF E N call b l (ax F o.dst v) H=some r):bF E N call b (o::l) F H=some r:=h_ hg hv h
theorem cH {E:Env} {N:Nat->FuncId} {F:Frame} {H:aq} {call:cq} {b:Option Nat}:bF E N call b [] F H=some (F,H):=rfl
theorem vw {n:Nat} (h:n<=2147483648):IntKind.wrap .i64 ((n:Int)+1)=((n+1:Nat):Int):=by
 simp[IntKind.wrap,IntKind.bits,IntKind.signed];omega
theorem SD {n:Nat} (h:n<=2147483648):IntKind.wrap .i64 (((n+1:Nat):Int)-1)=(n:Int):=by
 simp[IntKind.wrap,IntKind.bits,IntKind.signed];omega
theorem iz (H:aq):H.take H.length=H:=List.take_length
theorem zy {E:Env} {nm:FuncId->Option Nat} {f:FuncId} {rc:RC} {n:Nat} {rs:List ResultVar} (h:((E.ft f).map λfi=>(aL ⟨E,nm,fi.ntmps⟩ false fi.body,Nat.ble n fi.ntmps,fi.results))=some (some rc,true,rs)) :
 ∃fi,E.ft f=some fi/\aL ⟨E,nm,fi.ntmps⟩ false fi.body=some rc/\n<=fi.ntmps/\fi.results=rs:=by
 obtain⟨fi,h1,h2⟩:=ζf.1 h;simp only[ζc]at h2;exact⟨fi,h1,h2.1,Nat.le_of_ble_eq_true h2.2.1,h2.2.2⟩
theorem Cq {x:V} (h:x.one=true):x.cells=[x]:=by
 cases x <;> first|rfl|(simp[V.one]at h)
theorem Q0 {call:cq} {f:FuncId} {args az:List V} {H:aq} (h:borrows 8 H args=some az) (hc:∀x∈az,x.closed=true):br call f args H=br call f az []:=by
 have:borrows 8 [] az=some az:=by
  clear h
  unfold borrows
  induction az with
  | nil=>rfl
  | cons x l ih=>simp only[iD,cR 8 [] (hc x (by simp)),ih λy hy=>hc y (List.mem_cons_of_mem _ hy)]
 unfold br;rw[h,this]
def kept (t:Nat->Bool) (n:Nat):List Nat:=(List.range n).filter λi=>i==0 || !t i
theorem uc (t:Nat->Bool) (n:Nat):kept t (n+1)=kept t n++if n==0 || !t n then [n]else []:=by
 unfold kept;rw[List.range_succ,List.filter_append,List.filter_cons];rfl
theorem yN (t:Nat->Bool):∀n,(kept t n).length<=n:=λn=>by
 unfold kept;exact Nat.le_trans (List.length_filter_le ..) (by simp)
theorem Gg {t:Nat->Bool} {n i:Nat} (h:i∈kept t n):i<n:=by
 unfold kept at h;exact List.mem_range.1 (List.mem_filter.1 h).1
theorem zK {t:Nat->Bool}:∀n,(∀i,0<i->i<n->t i=false)->kept t n=List.range n
 | 0,_=>rfl
 | n+1,h=>by
  rw[uc,zK n λi h1 h2=>h i h1 (by omega),List.range_succ]
  congr 1
  cases n with
  | zero=>rfl
  | succ n=>rw[h (n+1) (by omega) (by omega)];simp
theorem w_ {t:Nat->Bool} {k:Nat} (h0:0<k) (hk:t k=true):∀n,k<n->(kept t n).length+1<=n
 | 0,h=>by omega
 | n+1,h=>by
  rw[uc]
  by_cases e:n=k
  .subst e;have:(n==0 || !t n)=false:=by simp[hk];omega
   rw[this];have:=yN t n;simp;omega
  .have:=w_ h0 hk n (by omega)
   split <;> simp <;> omega
namespace cmpX
instance {n:Nat}:OfNat Arg n:=⟨.s n⟩
def r1:List RO:=[o1 4 (.k (.aG)) []]
def r2:List RO:=[o1 8 0 [],o2 9 (.p .lenSl) [8] [],o2 10 (.p (.bin (some .int) none .lss)) [9,.k (.int .i64 2)] []]
def r3:List RO:=[o1 11 0 [],o1 4 11 []]
def r4:List RO:=[o1 5 (.k (.int .i64 1)) []]
def r5:List RO:=[o1 12 5 [],o1 13 0 [],o2 14 (.p .lenSl) [13] [],o2 15 (.p (.bin (some .int) none .lss)) [12,14] []]
def on (d:Nat) (k:K) (az:List Arg):RO:=⟨some d,none,true,k,az,[],[]⟩
def r6:List RO:=[o1 18 1 [],o1 19 0 [],o1 20 5 [],o2 21 (.p (.idxS 1)) [19,20] [],o2 22 (.r (.load 1 false)) [21] [],o1 23 0 [],o1 24 5 [],o2 25 (.p (.bin (some .int) none .sub)) [24,.k (.int .i64 1)] [],o2 26 (.p (.idxS 1)) [23,25] [],o2 27 (.r (.load 1 false)) [26] [],on 28 .c [18,22,27]]
def r7:List RO:=[o1 29 0 [],o1 30 5 [],o2 31 (.p (.slice 1 true false)) [29,30] [],o1 6 31 []]
def r8:List RO:=[o1 7 (.k (.int .i64 1)) []]
def r9:List RO:=[o1 32 7 [],o1 33 6 [],o2 34 (.p .lenSl) [33] [],o2 35 (.p (.bin (some .int) none .lss)) [32,34] []]
def AM:List RO:=[o1 38 1 [],o1 39 6 [],o1 40 7 [],o2 41 (.p (.idxS 1)) [39,40] [],o2 42 (.r (.load 1 false)) [41] [],o1 43 6 [],o1 44 7 [],o2 45 (.p (.bin (some .int) none .sub)) [44,.k (.int .i64 1)] [],o2 46 (.p (.idxS 1)) [43,45] [],o2 47 (.r (.load 1 false)) [46] [],on 48 .c [38,42,47],on 49 (.p (.not)) [48]]
def Cl:List RO:=[o1 50 0 [],o1 51 5 [],o1 52 6 [],o1 53 7 [],o2 54 (.p (.idxS 1)) [52,53] [],o2 55 (.r (.load 1 false)) [54] [],o2 56 (.p (.idxS 1)) [50,51] [],⟨none,none,false,.l (.store 1),[56,55],[],[]⟩]
def Ce:List RO:=[o1 57 5 [],o2 58 (.p (.bin (some .int) none .add)) [57,.k (.int .i64 1)] [],o1 5 58 []]
def CI:List RO:=[o1 36 7 [],o2 37 (.p (.bin (some .int) none .add)) [36,.k (.int .i64 1)] [],o1 7 37 []]
def Um:RC:=.seq (.seq (.ops r9) (.cond (.s 35) (.skip) (.exit 2))) (.seq (.block 3 (.seq (.nq AM) (.cond (.s 49) (.seq (.ops Cl) (.ops Ce)) (.skip)))) (.ops CI))
def Bg:List RO:=[o1 59 0 [],o1 60 5 [],o2 61 (.p (.slice 1 true false)) [59,60] [],⟨none,none,false,.l (.clear 1 [.aG]),[61],[],[]⟩]
def Cw:List RO:=[o1 62 0 [],o1 63 5 [],o2 64 (.p (.slice 1 false true)) [62,63] [],o1 4 64 []]
def B1:List RO:=[o1 16 5 [],o2 17 (.p (.bin (some .int) none .add)) [16,.k (.int .i64 1)] [],o1 5 17 []]
def Ns:RC:=.seq (.seq (.ops r5) (.cond (.s 15) (.skip) (.exit 0))) (.seq (.block 1 (.seq (.nq r6) (.cond (.s 28) (.seq (.ops r7) (.seq (.seq (.ops r8) (.block 2 (.loop Um))) (.seq (.ops Bg) (.seq (.ops Cw) (.ret))))) (.skip)))) (.ops B1))
def Kc:List RO:=[o1 65 0 [],o1 4 65 []]
def code:RC:=.seq (.ops r1) (.seq (.seq (.ops r2) (.cond (.s 10) (.seq (.ops r3) (.ret)) (.skip))) (.seq (.seq (.ops r4) (.block 0 (.loop Ns))) (.seq (.ops Kc) (.ret))))
structure Vh (F F':Frame):Prop where
 s0:get F' 0=get F 0
 s1:get F' 1=get F 1
section
variable {E:Env} {N:Nat->FuncId} {F:Frame} {H:aq} {call:cq} {id off L k:Nat}
theorem ld {cur:List (List V)} {el:Nat} {v:V} (h:H[id]? = some (.row 1 cur)) (hv:cur[el]? = some [v]):dG H (.load 1 false) [.hptr id el 0]=some v:=by
 simp[dG,cS,h,Ob.rows,hv,cut,mk]
theorem Nr {i:Nat} (h:i<L):jK 1 (.hsl id 1 off L) (i:Int)=some (.hptr id (off+i) 0):=by
 unfold jK;rw[if_neg (by omega)];simp[h]
theorem x2 (f0:get F 0=.hsl id 1 off L):∃F',(∀call,bF E N call none r2 F H=some (F',H))/\get F' 10=.bool (decide ((L:Int)<2))/\(∀s,s<8->get F' s=get F s):=by
 refine⟨_,λcall=>vp (v:=.hsl id 1 off L) rfl ?_ <| vp (v:=.int .i64 L) rfl ?_ <| vp (v:=.bool (decide ((L:Int)<2))) rfl ?_ cH,?_,?_⟩
 .simp[aF,aA,ak,f0]
 .simp[aF,aA,ak,ax,lE]
 .simp[aF,aA,ak,ax,fG,lK]
 .simp[ax]
 .intro s hs;simp only[ax,aC]
  repeat (rw[if_neg (by omega)])
theorem x5 (f0:get F 0=.hsl id 1 off L) (f5:get F 5=.int .i64 k):∃F',(∀call,bF E N call none r5 F H=some (F',H))/\get F' 15=.bool (decide (k<L))/\(∀s,s<8->get F' s=get F s):=by
 refine⟨_,λcall=>vp (v:=.int .i64 k) rfl ?_ <| vp (v:=.hsl id 1 off L) rfl ?_ <| vp (v:=.int .i64 L) rfl ?_ <| vp (v:=.bool (decide (k<L))) rfl ?_ cH,?_,?_⟩
 .simp[aF,aA,ak,f5]
 .simp[aF,aA,ak,ax,f0]
 .simp[aF,aA,ak,ax,lE]
 .simp[aF,aA,ak,ax,fG,lK]
 .simp[ax]
 .intro s hs;simp only[ax,aC]
  repeat (rw[if_neg (by omega)])
theorem Rf {g:FuncId} {cb:List V} {cur:List (List V)} {o2 L2 i:Nat} {a b:V} {t:Bool} (h:H[id]? = some (.row 1 cur)) (hi:i+1<L2) (hb2:i<=2147483648) (ha:cur[o2+(i+1)]? = some [a]) (hb:cur[o2+i]? = some [b]) (hk:E.keep g=false) (f1:get F 1=.clo g [] cb) :
 (get F 0=.hsl id 1 o2 L2->get F 5=.int .i64 ((i+1:Nat):Int)->∃F',(∀call,br call g (a::b::cb) H=some (.bool t)->bF E N call (some H.length) r6 F H=some (F',H))/\get F' 28=.bool t/\(∀s,s<8->get F' s=get F s)) /\
 (get F 6=.hsl id 1 o2 L2->get F 7=.int .i64 ((i+1:Nat):Int)->∃F',(∀call,br call g (a::b::cb) H=some (.bool t)->bF E N call (some H.length) AM F H=some (F',H))/\get F' 49=.bool (!t)/\(∀s,s<8->get F' s=get F s)):=by
 have hd:=SD hb2;have e1:=ld h ha;have e2:=ld h hb;have i1:=Nr (id:=id) (off:=o2) (L:=L2) hi;have i2:=Nr (id:=id) (off:=o2) (L:=L2) (show i<L2 by omega)
 refine⟨λf0 f5=>⟨_,λcall hc=>vp (v:=.clo g [] cb) rfl ?_ <| vp (v:=.hsl id 1 o2 L2) rfl ?_ <| vp (v:=.int .i64 ((i+1:Nat):Int)) rfl ?_ <| vp (v:=.hptr id (o2+(i+1)) 0) rfl ?_ <| vp (v:=a) rfl ?_ <| vp (v:=.hsl id 1 o2 L2) rfl ?_ <| vp (v:=.int .i64 ((i+1:Nat):Int)) rfl ?_ <|
  vp (v:=.int .i64 (i:Int)) rfl ?_ <| vp (v:=.hptr id (o2+i) 0) rfl ?_ <| vp (v:=b) rfl ?_ <| vp (v:=.bool t) rfl ?_ cH,?_,?_⟩,λf6 f7=>⟨_,λcall hc=>vp (v:=.clo g [] cb) rfl ?_ <| vp (v:=.hsl id 1 o2 L2) rfl ?_ <| vp (v:=.int .i64 ((i+1:Nat):Int)) rfl ?_ <| vp (v:=.hptr id (o2+(i+1)) 0) rfl ?_ <| vp (v:=a) rfl ?_ <| vp (v:=.hsl id 1 o2 L2) rfl ?_ <| vp (v:=.int .i64 ((i+1:Nat):Int)) rfl ?_ <|
  vp (v:=.int .i64 (i:Int)) rfl ?_ <| vp (v:=.hptr id (o2+i) 0) rfl ?_ <| vp (v:=b) rfl ?_ <| vp (v:=.bool t) rfl ?_ <| vp (v:=.bool (!t)) rfl ?_ cH,?_,?_⟩⟩
 .simp[aF,aA,ak,f1]
 .simp[aF,aA,ak,ax,f0]
 .simp only[aF,List.map_cons,List.map_nil,aA,ax,aC,Nat.reduceEqDiff,if_true,if_false,f5,ak];rfl
 .simp only[aF,List.map_cons,List.map_nil,aA,ax,aC,Nat.reduceEqDiff,if_true,if_false,ak];rw[i1];rfl
 .simp only[aF,List.map_cons,List.map_nil,aA,ax,aC,Nat.reduceEqDiff,if_true,if_false,iz];rw[e1];rfl
 .simp[aF,aA,ak,ax,f0]
 .simp only[aF,List.map_cons,List.map_nil,aA,ax,aC,Nat.reduceEqDiff,if_true,if_false,f5,ak];rfl
 .simp only[aF,List.map_cons,List.map_nil,aA,ax,aC,Nat.reduceEqDiff,if_true,if_false,ak,fG,hd];rfl
 .simp only[aF,List.map_cons,List.map_nil,aA,ax,aC,Nat.reduceEqDiff,if_true,if_false,ak];rw[i2];rfl
 .simp only[aF,List.map_cons,List.map_nil,aA,ax,aC,Nat.reduceEqDiff,if_true,if_false,iz];rw[e2];rfl
 .simp only[aF,on,List.map_cons,List.map_nil,aA,ax,aC,Nat.reduceEqDiff,if_true,if_false,iz,hk,Bool.false_eq_true,List.nil_append,List.cons_append,hc,V.scalar]
 .simp[ax,on]
 .intro s hs;simp only[ax,on,aC]
  repeat (rw[if_neg (by omega)])
 .simp[aF,aA,ak,f1]
 .simp[aF,aA,ak,ax,f6]
 .simp only[aF,List.map_cons,List.map_nil,aA,ax,aC,Nat.reduceEqDiff,if_true,if_false,f7,ak];rfl
 .simp only[aF,List.map_cons,List.map_nil,aA,ax,aC,Nat.reduceEqDiff,if_true,if_false,ak];rw[i1];rfl
 .simp only[aF,List.map_cons,List.map_nil,aA,ax,aC,Nat.reduceEqDiff,if_true,if_false,iz];rw[e1];rfl
 .simp[aF,aA,ak,ax,f6]
 .simp only[aF,List.map_cons,List.map_nil,aA,ax,aC,Nat.reduceEqDiff,if_true,if_false,f7,ak];rfl
 .simp only[aF,List.map_cons,List.map_nil,aA,ax,aC,Nat.reduceEqDiff,if_true,if_false,ak,fG,hd];rfl
 .simp only[aF,List.map_cons,List.map_nil,aA,ax,aC,Nat.reduceEqDiff,if_true,if_false,ak];rw[i2];rfl
 .simp only[aF,List.map_cons,List.map_nil,aA,ax,aC,Nat.reduceEqDiff,if_true,if_false,iz];rw[e2];rfl
 .simp only[aF,on,List.map_cons,List.map_nil,aA,ax,aC,Nat.reduceEqDiff,if_true,if_false,iz,hk,Bool.false_eq_true,List.nil_append,List.cons_append,hc,V.scalar]
 .simp[aF,on,aA,ak,ax]
 .simp[ax,on]
 .intro s hs;simp only[ax,on,aC]
  repeat (rw[if_neg (by omega)])
end
end cmpX
end Go.VE
namespace Go.VE
variable [aY]
namespace cmpX
section
variable {E:Env} {N:Nat->FuncId} {F:Frame} {H:aq} {call:cq} {id off L k:Nat}
theorem x7 (f0:get F 0=.hsl id 1 off L) (f5:get F 5=.int .i64 k) (hk:k<=L):∃F',(∀call,bF E N call none r7 F H=some (F',H))/\get F' 6=.hsl id 1 (off+k) (L-k)/\(∀s,s<8->s≠6->get F' s=get F s):=by
 have e:fI 1 (.hsl id 1 off L) (some (k:Int)) none=some (.hsl id 1 (off+k) (L-k)):=by
  unfold fI cD;simp only[if_true,Option.getD_none,Option.getD_some];rw[if_pos (by omega)];simp
 refine⟨_,λcall=>vp (v:=.hsl id 1 off L) rfl ?_ <| vp (v:=.int .i64 k) rfl ?_ <| vp (v:=.hsl id 1 (off+k) (L-k)) rfl ?_ <| vp (v:=.hsl id 1 (off+k) (L-k)) rfl ?_ cH,?_,?_⟩
 .simp[aF,aA,ak,f0]
 .simp[aF,aA,ak,ax,f5]
 .simp only[aF,List.map_cons,List.map_nil,aA,ax,aC,Nat.reduceEqDiff,if_true,if_false,ak,jy,ζb,e,Option.map_some]
 .simp[aF,aA,ak,ax]
 .simp[ax]
 .intro s hs h6;simp only[ax,aC];rw[if_neg (Ne.symm h6)]
  repeat (rw[if_neg (by omega)])
theorem x9 {o2 L2 m:Nat} (f6:get F 6=.hsl id 1 o2 L2) (f7:get F 7=.int .i64 m):∃F',(∀call,bF E N call none r9 F H=some (F',H))/\get F' 35=.bool (decide (m<L2))/\(∀s,s<8->get F' s=get F s):=by
 refine⟨_,λcall=>vp (v:=.int .i64 m) rfl ?_ <| vp (v:=.hsl id 1 o2 L2) rfl ?_ <| vp (v:=.int .i64 L2) rfl ?_ <| vp (v:=.bool (decide (m<L2))) rfl ?_ cH,?_,?_⟩
 .simp[aF,aA,ak,f7]
 .simp[aF,aA,ak,ax,f6]
 .simp[aF,aA,ak,ax,lE]
 .simp[aF,aA,ak,ax,fG,lK]
 .simp[ax]
 .intro s hs;simp only[ax,aC]
  repeat (rw[if_neg (by omega)])
theorem PO {cur:List (List V)} {o2 L2 m p:Nat} {a z:V} (h:H[id]? = some (.row 1 cur)) (f0:get F 0=.hsl id 1 off L) (f5:get F 5=.int .i64 p) (f6:get F 6=.hsl id 1 o2 L2) (f7:get F 7=.int .i64 m) (hm:m<L2) (hp:p<L)
 (ha:cur[o2+m]? = some [a]) (hz:cur[off+p]? = some [z]) (h1:a.one=true) :
 ∃F',(∀call,bF E N call none Cl F H=some (F',H.set id (.row 1 (cur.set (off+p) [a]))))/\(∀s,s<8->get F' s=get F s):=by
 have i1:=Nr (id:=id) (off:=o2) (L:=L2) hm;have i2:=Nr (id:=id) (off:=off) (L:=L) hp;have e1:=ld h ha;have hs:dK H (.store 1) [.hptr id (off+p) 0,a]=some (.undef,H.set id (.row 1 (cur.set (off+p) [a]))):=by
  simp[dK,h,hz,Cq h1,h1]
 refine⟨_,λcall=>vp (v:=.hsl id 1 off L) rfl ?_ <| vp (v:=.int .i64 p) rfl ?_ <| vp (v:=.hsl id 1 o2 L2) rfl ?_ <| vp (v:=.int .i64 m) rfl ?_ <| vp (v:=.hptr id (o2+m) 0) rfl ?_ <| vp (v:=a) rfl ?_ <| vp (v:=.hptr id (off+p) 0) rfl ?_ <| h_ (v:=.undef) (H1:=H.set id (.row 1 (cur.set (off+p) [a]))) rfl ?_ cH,?_⟩
 .simp[aF,aA,ak,f0]
 .simp[aF,aA,ak,ax,f5]
 .simp[aF,aA,ak,ax,f6]
 .simp[aF,aA,ak,ax,f7]
 .simp only[aF,List.map_cons,List.map_nil,aA,ax,aC,Nat.reduceEqDiff,if_true,if_false,ak];rw[i1];rfl
 .simp only[aF,List.map_cons,List.map_nil,aA,ax,aC,Nat.reduceEqDiff,if_true,if_false];rw[e1];rfl
 .simp only[aF,List.map_cons,List.map_nil,aA,ax,aC,Nat.reduceEqDiff,if_true,if_false,ak];rw[i2];rfl
 .simp only[aF,List.map_cons,List.map_nil,aA,ax,aC,Nat.reduceEqDiff,if_true,if_false];exact hs
 .intro s hs;simp only[ax,aC]
  repeat (rw[if_neg (by omega)])
theorem Ib {p:Nat} (hp:p<=2147483648):(get F 5=.int .i64 p->∃F',(∀call,bF E N call none Ce F H=some (F',H))/\get F' 5=.int .i64 ((p+1:Nat):Int)/\(∀s,s<8->s≠5->get F' s=get F s)) /\
 (get F 7=.int .i64 p->∃F',(∀call,bF E N call none CI F H=some (F',H))/\get F' 7=.int .i64 ((p+1:Nat):Int)/\(∀s,s<8->s≠7->get F' s=get F s)) /\
 (get F 5=.int .i64 p->∃F',(∀call,bF E N call none B1 F H=some (F',H))/\get F' 5=.int .i64 ((p+1:Nat):Int)/\(∀s,s<8->s≠5->get F' s=get F s)):=by
 have hb:=vw hp;refine⟨λf=>⟨_,λcall=>vp (v:=.int .i64 p) rfl ?_ <| vp (v:=.int .i64 ((p+1:Nat):Int)) rfl ?_ <| vp (v:=.int .i64 ((p+1:Nat):Int)) rfl ?_ cH,?_,?_⟩,
  λf=>⟨_,λcall=>vp (v:=.int .i64 p) rfl ?_ <| vp (v:=.int .i64 ((p+1:Nat):Int)) rfl ?_ <| vp (v:=.int .i64 ((p+1:Nat):Int)) rfl ?_ cH,?_,?_⟩,
  λf=>⟨_,λcall=>vp (v:=.int .i64 p) rfl ?_ <| vp (v:=.int .i64 ((p+1:Nat):Int)) rfl ?_ <| vp (v:=.int .i64 ((p+1:Nat):Int)) rfl ?_ cH,?_,?_⟩⟩ <;>
 first
 | (simp[aF,aA,ak,f];done)
 | (simp only[aF,List.map_cons,List.map_nil,aA,ax,aC,Nat.reduceEqDiff,if_true,if_false,ak,fG,hb];rfl)
 | (simp[aF,aA,ak,ax];done)
 | (simp[ax];done)
 | (intro s hs h5;simp only[ax,aC];rw[if_neg (Ne.symm h5)];repeat (rw[if_neg (by omega)]))
theorem UX {cur:List (List V)} {p:Nat} (h:H[id]? = some (.row 1 cur)) (f0:get F 0=.hsl id 1 off L) (f5:get F 5=.int .i64 p) (hp:p<L) (hl:off+L<=cur.length) :
 ∃F',(∀call,bF E N call none Bg F H=some (F',H.set id (.row 1 (cur.take (off+p)++List.replicate (L-p) [.aG]++cur.drop (off+L)))))/\(∀s,s<8->get F' s=get F s):=by
 have e:fI 1 (.hsl id 1 off L) (some (p:Int)) none=some (.hsl id 1 (off+p) (L-p)):=by
  unfold fI cD;simp only[if_true,Option.getD_none,Option.getD_some];rw[if_pos (by omega)];simp
 obtain⟨q,hq⟩:∃q,L-p=q+1:=⟨L-p-1,by omega⟩
 have hc:dK H (.clear 1 [.aG]) [.hsl id 1 (off+p) (L-p)]=some (.undef,H.set id (.row 1 (cur.take (off+p)++List.replicate (L-p) [.aG]++cur.drop (off+L)))):=by
  simp only[dK,AQ,if_true,hq,h];rw[if_pos (by omega)]
  congr 6;omega
 refine⟨_,λcall=>vp (v:=.hsl id 1 off L) rfl ?_ <| vp (v:=.int .i64 p) rfl ?_ <| vp (v:=.hsl id 1 (off+p) (L-p)) rfl ?_ <| h_ (v:=.undef) (H1:=H.set id (.row 1 (cur.take (off+p)++List.replicate (L-p) [.aG]++cur.drop (off+L)))) rfl ?_ cH,?_⟩
 .simp[aF,aA,ak,f0]
 .simp[aF,aA,ak,ax,f5]
 .simp only[aF,List.map_cons,List.map_nil,aA,ax,aC,Nat.reduceEqDiff,if_true,if_false,ak,jy,ζb,e,Option.map_some]
 .simp only[aF,List.map_cons,List.map_nil,aA,ax,aC,Nat.reduceEqDiff,if_true,if_false];exact hc
 .intro s hs;simp only[ax,aC]
  repeat (rw[if_neg (by omega)])
theorem Np {p:Nat} (f0:get F 0=.hsl id 1 off L) (f5:get F 5=.int .i64 p) (hp:p<=L):∃F',(∀call,bF E N call none Cw F H=some (F',H))/\get F' 4=.hsl id 1 off p:=by
 have e:fI 1 (.hsl id 1 off L) none (some (p:Int))=some (.hsl id 1 off p):=by
  unfold fI cD;simp only[if_true,Option.getD_none,Option.getD_some];rw[if_pos (by omega)];simp
 refine⟨_,λcall=>vp (v:=.hsl id 1 off L) rfl ?_ <| vp (v:=.int .i64 p) rfl ?_ <| vp (v:=.hsl id 1 off p) rfl ?_ <| vp (v:=.hsl id 1 off p) rfl ?_ cH,?_⟩
 .simp[aF,aA,ak,f0]
 .simp[aF,aA,ak,ax,f5]
 .simp only[aF,List.map_cons,List.map_nil,aA,ax,aC,Nat.reduceEqDiff,if_true,if_false,ak,jy,ζb,e,Option.map_some]
 .simp[aF,aA,ak,ax]
 .simp[ax]
theorem UY:∃F',(∀call,bF E N call none Kc F H=some (F',H))/\get F' 4=get F 0:=
 ⟨_,λcall=>vp (v:=get F 0) rfl (by simp[aF,aA,ak]) <| vp (v:=get F 0) rfl (by simp[aF,aA,ak,ax]) cH,by simp[ax]⟩
theorem MK:∃F',(∀call,bF E N call none r3 F H=some (F',H))/\get F' 4=get F 0:=
 ⟨_,λcall=>vp (v:=get F 0) rfl (by simp[aF,aA,ak]) <| vp (v:=get F 0) rfl (by simp[aF,aA,ak,ax]) cH,by simp[ax]⟩
end
structure De (E:Env) (g:FuncId) (cb:List V) (H:aq) (id off L:Nat) (rs:List (List V)) (A:Nat->V) (t:Nat->Bool):Prop where
 row:H[id]? = some (.row 1 rs)
 len:off+L<=rs.length
 small:L<=2147483648
 at_:∀i,i<L->rs[off+i]? = some [A i]
 one:∀i,i<L->(A i).one=true
 keep:E.keep g=false
 cmp:∃n,∀k,n<=k->∀i,i+1<L->∀cur,br (run E k) g (A (i+1)::A i::cb) (H.set id (.row 1 cur))=some (.bool (t (i+1)))
structure Head (g:FuncId) (cb:List V) (id off L kk m:Nat) (rs:List (List V)) (A:Nat->V) (t:Nat->Bool) (F:Frame) (cur:List (List V)):Prop where
 f0:get F 0=.hsl id 1 off L
 f1:get F 1=.clo g [] cb
 f5:get F 5=.int .i64 ((kept t (kk+m)).length:Nat)
 f6:get F 6=.hsl id 1 (off+kk) (L-kk)
 f7:get F 7=.int .i64 m
 len:cur.length=rs.length
 pre:∀p i,(kept t (kk+m))[p]? = some i->cur[off+p]? = some [A i]
 post:∀i,kk+m<=i+1->i<L->cur[off+i]? = some [A i]
 out:∀j,j<off\/off+L<=j->cur[j]? = rs[j]?
 cell:∀i,i<L->∃j,j<L/\cur[off+i]? = some [A j]
section
variable {E:Env} {N:Nat->FuncId} {g:FuncId} {cb:List V} {H:aq} {id off L kk:Nat} {rs:List (List V)} {A:Nat->V} {t:Nat->Bool}
theorem G8 (X:De E g cb H id off L rs A t) (hkk:0<kk) (hkL:kk<L) (ht:t kk=true):∀(d m:Nat) (F:Frame) (cur:List (List V)),kk+m+d=L->0<m->Head g cb id off L kk m rs A t F cur ->
 ∃F' cur',jP E N Um F (H.set id (.row 1 cur)) (.exit 2) F' (H.set id (.row 1 cur'))/\Head g cb id off L kk (L-kk) rs A t F' cur':=by
 have hidlt:=(ζe.1 X.row).1;have hrow:∀cur,(H.set id (.row 1 cur))[id]? = some (.row 1 cur):=λcur=>List.getElem?_set_self hidlt
 have hsm:=X.small;have hlen:=X.len;intro d
 induction d with
 | zero=>
  intro m F cur he hm h;have em:m=L-kk:=by omega
  subst em;obtain⟨F1,e1,e2,e3⟩:=x9 (E:=E) (N:=N) (H:=H.set id (.row 1 cur)) h.f6 h.f7;refine⟨F1,cur,jP.stop (Ex.qP (Ex.seq (Ex.bS e1) (Ex.nv (by simp[aA,e2]) Ex.exit)) (by simp)) (by simp),?_⟩
  exact⟨by rw[e3 0 (by omega)];exact h.f0,by rw[e3 1 (by omega)];exact h.f1,by rw[e3 5 (by omega)];exact h.f5,by rw[e3 6 (by omega)];exact h.f6,by rw[e3 7 (by omega)];exact h.f7,h.len,h.pre,h.post,h.out,h.cell⟩
 | succ d ih=>
  intro m F cur he hm h;obtain⟨F1,a1,a2,a3⟩:=x9 (E:=E) (N:=N) (H:=H.set id (.row 1 cur)) h.f6 h.f7;have a2':aA N F1 35=.bool true:=by
   show get F1 35=_;rw[a2,decide_eq_true (by omega)]
  obtain⟨m',rfl⟩:∃m',m=m'+1:=⟨m-1,by omega⟩
  obtain⟨n0,hn0⟩:=X.cmp;have c1:cur[off+kk+(m'+1)]? = some [A (kk+m'+1)]:=by
   have:=h.post (kk+m'+1) (by omega) (by omega);rw[<-this];congr 1;omega
  have c2:cur[off+kk+m']? = some [A (kk+m')]:=by
   have:=h.post (kk+m') (by omega) (by omega);rw[<-this];congr 1;omega
  obtain⟨F2,b1,b2,b3⟩:=(Rf (E:=E) (N:=N) (cb:=cb) (g:=g) (i:=m') (L2:=L-kk) (t:=t (kk+m'+1)) (hrow cur) (by omega) (by omega) c1 c2 X.keep (by rw[a3 1 (by omega)];exact h.f1)).2 (by rw[a3 6 (by omega)];exact h.f6) (by rw[a3 7 (by omega)];exact h.f7)
  have b1':∃n,∀k,n<=k->bF E N (run E k) (some (H.set id (.row 1 cur)).length) AM F1 (H.set id (.row 1 cur))=some (F2,H.set id (.row 1 cur)):=⟨n0,λk hk=>b1 _ (hn0 k hk (kk+m') (by omega) cur)⟩
  have hf:∀s,s<8->get F2 s=get F s:=λs hs=>(b3 s hs).trans (a3 s hs)
  have hlenk:(kept t (kk+(m'+1))).length+1<=kk+(m'+1):=w_ hkk ht _ (by omega)
  have hks:kept t (kk+(m'+1)+1)=kept t (kk+(m'+1))++if t (kk+m'+1)then []else [kk+m'+1]:=by
   rw[uc];have:(kk+(m'+1)==0)=false:=by simp
   rw[this,Bool.false_or,show kk+(m'+1)=kk+m'+1 by omega]
   cases t (kk+m'+1) <;> rfl
  have e12:kk+(m'+1+1)=kk+(m'+1)+1:=by omega
  cases htt:t (kk+m'+1)with
  | true=>
   rw[htt]at b2 hks;simp only[if_true,List.append_nil]at hks;obtain⟨F3,q1,q2,q3⟩:=(Ib (E:=E) (N:=N) (F:=F2) (H:=H.set id (.row 1 cur)) (p:=m'+1) (by omega)).2.1 (by rw[hf 7 (by omega)];exact h.f7)
   obtain⟨F',cur',i1,i2⟩:=ih (m'+1+1) F3 cur (by omega) (by omega) ⟨by rw[q3 0 (by omega) (by omega),hf 0 (by omega)];exact h.f0,by rw[q3 1 (by omega) (by omega),hf 1 (by omega)];exact h.f1,
    by rw[q3 5 (by omega) (by omega),hf 5 (by omega),e12,hks];exact h.f5,by rw[q3 6 (by omega) (by omega),hf 6 (by omega)];exact h.f6,q2,h.len,by rw[e12,hks];exact h.pre,λi h1 h2=>h.post i (by omega) h2,h.out,h.cell⟩
   exact⟨F',cur',jP.step (Ex.seq (Ex.seq (Ex.bS a1) (Ex.kP a2' Ex.skip)) (Ex.seq (Ex.block (Ex.seq (Ex.G2 (by decide) b1') (Ex.nv (by simp[aA,b2]) Ex.skip))) (Ex.bS q1))) i1,i2⟩
  | false=>
   rw[htt]at b2 hks;simp only[Bool.false_eq_true,if_false]at hks;generalize hK:(kept t (kk+(m'+1))).length=K at *;obtain⟨_,_,hz⟩:=h.cell K (by omega)
   obtain⟨F3,q1,q2⟩:=PO (E:=E) (N:=N) (F:=F2) (off:=off) (L:=L) (p:=K) (m:=m'+1) (L2:=L-kk) (o2:=off+kk) (a:=A (kk+m'+1)) (hrow cur) (by rw[hf 0 (by omega)];exact h.f0) (by rw[hf 5 (by omega),h.f5,hK]) (by rw[hf 6 (by omega)];exact h.f6) (by rw[hf 7 (by omega)];exact h.f7) (by omega) (by omega) c1 hz (X.one _ (by omega))
   rw[List.set_set]at q1;generalize hcur:cur.set (off+K) [A (kk+m'+1)]=cur2 at q1;have hg:∀j,cur2[j]? = if j=off+K then some [A (kk+m'+1)]else cur[j]? := λj=>by
    rw[<-hcur,List.getElem?_set]
    by_cases e:off+K=j
    .rw[if_pos e,if_pos e.symm,if_pos (by rw[h.len];omega)]
    .rw[if_neg e,if_neg (Ne.symm e)]
   obtain⟨F4,q3,q4,q5⟩:=(Ib (E:=E) (N:=N) (F:=F3) (H:=H.set id (.row 1 cur2)) (p:=K) (by omega)).1 (by rw[q2 5 (by omega),hf 5 (by omega),h.f5,hK])
   have hf4:∀s,s<8->s≠5->get F4 s=get F s:=λs h1 h2=>by rw[q5 s h1 h2,q2 s h1,hf s h1]
   obtain⟨F5,q6,q7,q8⟩:=(Ib (E:=E) (N:=N) (F:=F4) (H:=H.set id (.row 1 cur2)) (p:=m'+1) (by omega)).2.1 (by rw[hf4 7 (by omega) (by omega)];exact h.f7)
   obtain⟨F',cur',i1,i2⟩:=ih (m'+1+1) F5 cur2 (by omega) (by omega) ⟨by rw[q8 0 (by omega) (by omega),hf4 0 (by omega) (by omega)];exact h.f0,by rw[q8 1 (by omega) (by omega),hf4 1 (by omega) (by omega)];exact h.f1,
    by rw[q8 5 (by omega) (by omega),q4,e12,hks,ζi,hK];rfl,by rw[q8 6 (by omega) (by omega),hf4 6 (by omega) (by omega)];exact h.f6,q7,by rw[<-hcur,List.length_set];exact h.len,
    λp i hp=>by
     rw[e12,hks]at hp;rw[hg]
     by_cases e:p=K
     .subst e;rw[<-hK,List.getElem?_append_right (Nat.le_refl _),Nat.sub_self]at hp;cases hp;rw[if_pos rfl]
     .have hpl:p<(kept t (kk+(m'+1))).length:=by
       have:=(ζe.1 hp).1;simp at this;omega
      rw[List.getElem?_append_left hpl]at hp;rw[if_neg (by omega)];exact h.pre p i hp,
    λi h1 h2=>by rw[hg,if_neg (by omega)];exact h.post i (by omega) h2,λj hj=>by rw[hg,if_neg (by omega)];exact h.out j hj,
    λi hi=>by
     rw[hg]
     by_cases e:off+i=off+K
     .rw[if_pos e];exact⟨_,by omega,rfl⟩
     .rw[if_neg e];exact h.cell i hi⟩
   exact⟨F',cur',jP.step (Ex.seq (Ex.seq (Ex.bS a1) (Ex.kP a2' Ex.skip)) (Ex.seq (Ex.block (Ex.seq (Ex.G2 (by decide) b1') (Ex.kP (by simp[aA,b2]) (Ex.seq (Ex.bS q1) (Ex.bS q3))))) (Ex.bS q6))) i1,i2⟩
structure LO (off L:Nat) (rs:List (List V)) (A:Nat->V) (t:Nat->Bool) (rs':List (List V)):Prop where
 len:rs'.length=rs.length
 pre:∀p i,(kept t L)[p]? = some i->rs'[off+p]? = some [A i]
 all:∀c∈rs',c∈rs\/c=[.aG]
theorem GV (X:De E g cb H id off L rs A t):∀(d k:Nat) (F:Frame),k+d=L->0<k->(∀i,0<i->i<k->t i=false)->get F 0=.hsl id 1 off L->get F 1=.clo g [] cb->get F 5=.int .i64 k ->
 (∃F',jP E N Ns F H (.exit 0) F' H/\get F' 0=.hsl id 1 off L/\∀i,0<i->i<L->t i=false) \/
 (∃F' rs',jP E N Ns F H .ret F' (H.set id (.row 1 rs'))/\get F' 4=.hsl id 1 off (kept t L).length/\LO off L rs A t rs'):=by
 have hidlt:=(ζe.1 X.row).1;have hself:H.set id (.row 1 rs)=H:=oQ X.row;have hsm:=X.small;have hlen:=X.len;intro d
 induction d with
 | zero=>
  intro k F he hk hp f0 f1 f5;have ek:k=L:=by omega
  subst ek;obtain⟨F1,e1,e2,e3⟩:=x5 (E:=E) (N:=N) (H:=H) f0 f5;exact .inl ⟨F1,jP.stop (Ex.qP (Ex.seq (Ex.bS e1) (Ex.nv (by simp[aA,e2]) Ex.exit)) (by simp)) (by simp),by rw[e3 0 (by omega)];exact f0,hp⟩
 | succ d ih=>
  intro k F he hk hp f0 f1 f5;obtain⟨F1,a1,a2,a3⟩:=x5 (E:=E) (N:=N) (H:=H) f0 f5;have a2':aA N F1 15=.bool true:=by
   show get F1 15=_;rw[a2,decide_eq_true (by omega)]
  obtain⟨k',rfl⟩:∃k',k=k'+1:=⟨k-1,by omega⟩
  obtain⟨n0,hn0⟩:=X.cmp;obtain⟨F2,b1,b2,b3⟩:=(Rf (E:=E) (N:=N) (cb:=cb) (g:=g) (i:=k') (L2:=L) (t:=t (k'+1)) X.row (by omega) (by omega) (X.at_ _ (by omega)) (X.at_ _ (by omega)) X.keep (by rw[a3 1 (by omega)];exact f1)).1 (by rw[a3 0 (by omega)];exact f0) (by rw[a3 5 (by omega)];exact f5)
  have b1':∃n,∀k,n<=k->bF E N (run E k) (some H.length) r6 F1 H=some (F2,H):=⟨n0,λk hk=>b1 _ (by
   have:=hn0 k hk k' (by omega) rs;rw[hself]at this;exact this)⟩
  have hf:∀s,s<8->get F2 s=get F s:=λs hs=>(b3 s hs).trans (a3 s hs)
  cases htt:t (k'+1)with
  | false=>
   rw[htt]at b2;obtain⟨F3,q1,q2,q3⟩:=(Ib (E:=E) (N:=N) (F:=F2) (H:=H) (p:=k'+1) (by omega)).2.2 (by rw[hf 5 (by omega)];exact f5)
   have hstep:Ex E N Ns F H .norm F3 H:=Ex.seq (Ex.seq (Ex.bS a1) (Ex.kP a2' Ex.skip)) (Ex.seq (Ex.block (Ex.seq (Ex.G2 (by decide) b1') (Ex.nv (by simp[aA,b2]) Ex.skip))) (Ex.bS q1))
   rcases ih (k'+1+1) F3 (by omega) (by omega) (λi h1 h2=>by
    by_cases e:i=k'+1
    .subst e;exact htt
    .exact hp i h1 (by omega)) (by rw[q3 0 (by omega) (by omega),hf 0 (by omega)];exact f0) (by rw[q3 1 (by omega) (by omega),hf 1 (by omega)];exact f1) q2 with⟨F',i1,i2⟩|⟨F',rs',i1,i2⟩
   .exact .inl ⟨F',jP.step hstep i1,i2⟩
   .exact .inr ⟨F',rs',jP.step hstep i1,i2⟩
  | true=>
   rw[htt]at b2;refine .inr ?_;obtain⟨F3,q1,q2,q3⟩:=x7 (E:=E) (N:=N) (F:=F2) (H:=H) (k:=k'+1) (by rw[hf 0 (by omega)];exact f0) (by rw[hf 5 (by omega)];exact f5) (by omega)
   have hrange:kept t (k'+1)=List.range (k'+1):=zK _ hp;have hk1:kept t (k'+1+1)=List.range (k'+1):=by
    rw[uc,hrange,htt];simp
   have q4:∀call,bF E N call none r8 F3 H=some (set F3 7 (.int .i64 1),H):=λcall=>vp (v:=.int .i64 1) rfl (by simp[aF,aA,ak]) cH
   have h0:Head g cb id off L (k'+1) 1 rs A t (set F3 7 (.int .i64 1)) rs:=⟨by rw[fJ _ _ (by omega),q3 0 (by omega) (by omega),hf 0 (by omega)];exact f0,by rw[fJ _ _ (by omega),q3 1 (by omega) (by omega),hf 1 (by omega)];exact f1,
    by rw[fJ _ _ (by omega),q3 5 (by omega) (by omega),hf 5 (by omega),hk1,List.length_range];exact f5,by rw[fJ _ _ (by omega)];exact q2,by rw[qd];rfl,rfl,
    λp i hpi=>by
     rw[hk1]at hpi;obtain⟨h1,h2⟩:=ζe.1 hpi;simp at h1 h2;subst h2;exact X.at_ p (by omega),λi _ h2=>X.at_ i h2,λ_ _=>rfl,λi hi=>⟨i,hi,X.at_ i hi⟩⟩
   obtain⟨F5,cur,l1,l2⟩:=G8 (N:=N) X (by omega) (by omega) htt (L-(k'+1)-1) 1 _ rs (by omega) (by omega) h0
   rw[hself]at l1;have eL:k'+1+(L-(k'+1))=L:=by omega
   have hlessL:=w_ (t:=t) (k:=k'+1) (by omega) htt L (by omega)
   have l5:=l2.f5;have lpre:=l2.pre;rw[eL]at l5 lpre;generalize hK:(kept t L).length=K at *;have hrow:(H.set id (.row 1 cur))[id]? = some (.row 1 cur):=List.getElem?_set_self hidlt;obtain⟨F6,w1,w2⟩:=UX (E:=E) (N:=N) (p:=K) hrow l2.f0 l5 (by omega) (by rw[l2.len];omega)
   rw[List.set_set]at w1;obtain⟨F7,w3,w4⟩:=Np (E:=E) (N:=N) (F:=F6) (H:=H.set id (.row 1 (cur.take (off+K)++List.replicate (L-K) [.aG]++cur.drop (off+L)))) (p:=K) (by rw[w2 0 (by omega)];exact l2.f0) (by rw[w2 5 (by omega)];exact l5) (by omega)
   have hcl:=l2.len;refine⟨F7,cur.take (off+K)++List.replicate (L-K) [.aG]++cur.drop (off+L),jP.stop (Ex.seq (Ex.seq (Ex.bS a1) (Ex.kP a2' Ex.skip)) (Ex.qP (Ex.I5 (Ex.seq (Ex.G2 (by decide) b1') (Ex.kP (by simp[aA,b2]) (Ex.seq (Ex.bS q1) (Ex.seq (Ex.seq (Ex.bS q4) (Ex.rQ (Ex.loop l1))) (Ex.seq (Ex.bS w1) (Ex.seq (Ex.bS w3) Ex.ret))))))) (by simp))) (by simp),w4,?_,λp i hpi=>?_,λc hc=>?_⟩
   .simp;omega
   .have hpl:p<K:=by rw[<-hK];exact(ζe.1 hpi).1
    rw[List.append_assoc,List.getElem?_append_left (by simp;omega),List.getElem?_take,if_pos (by omega)]
    exact lpre p i hpi
   .have hin:∀j x,cur[j]? = some x->x∈rs:=λj x hj=>by
     by_cases ho:j<off\/off+L<=j
     .rw[l2.out j ho]at hj;exact List.mem_of_getElem? hj
     .obtain⟨i,rfl⟩:∃i,j=off+i:=⟨j-off,by omega⟩
      obtain⟨q,hq,hc⟩:=l2.cell i (by omega)
      rw[hc]at hj;cases hj;exact List.mem_of_getElem? (X.at_ q hq)
    rcases List.mem_append.1 hc with hc|hc
    .rcases List.mem_append.1 hc with hc|hc
     .obtain⟨j,hj⟩:=List.getElem?_of_mem (List.mem_of_mem_take hc);exact .inl (hin j c hj)
     .exact .inr (List.eq_of_mem_replicate hc)
    .obtain⟨j,hj⟩:=List.getElem?_of_mem (List.mem_of_mem_drop hc);exact .inl (hin j c hj)
end
end cmpX
end Go.VE
namespace Go.VE
variable [aY]
noncomputable def wz (E:Env) (g:FuncId) (cb:List V) (a b:V):Option Bool:=match zU E g cb a b with|some (.bool c)=>some c|_=>none
theorem P9 {E:Env} {g:FuncId} {cb:List V} {a b:V} {c:Bool} (h:wz E g cb a b=some c):∃n,∀k,n<=k->br (run E k) g (a::b::cb) []=some (.bool c):=by
 unfold wz at h;split at h
 .rename_i c' hc;cases h;exact BZ hc
 .cases h
def jN (xs:List (List V)) (i:Nat):V:=hU ((xs[i]?).getD [])
noncomputable def u7 (E:Env) (es:Nat) (xs:List (List V)):List V->Option (List (List V))
 | [.clo g [] cb]=>if xs.isEmpty then some []else if oV es xs&&V.bU 8 cb && !E.keep g then
  if(List.range xs.length).all λi=>i==0||(wz E g cb (jN xs i) (jN xs (i-1))).isSome then
   some ((kept (λi=>(wz E g cb (jN xs i) (jN xs (i-1))).getD false) xs.length).map λi=>(xs[i]?).getD [])
  else none
  else none
 | _=>none
noncomputable def qg (E:Env):CY:=⟨true,u7 E⟩
namespace cmpX
section
variable {E:Env} {N:Nat->FuncId} {g:FuncId} {cb:List V} {H:aq} {id off L:Nat} {rs:List (List V)} {A:Nat->V} {t:Nat->Bool}
theorem whole (X:De E g cb H id off L rs A t):∃F' rs',Ex E N code [.hsl id 1 off L,.clo g [] cb] H .ret F' (H.set id (.row 1 rs'))/\get F' 4=.hsl id 1 off (kept t L).length/\LO off L rs A t rs':=by
 have hself:H.set id (.row 1 rs)=H:=oQ X.row;have same:(∀i,0<i->i<L->t i=false)->(kept t L).length=L/\LO off L rs A t rs:=λh=>by
  have hk:=zK L h;rw[hk,List.length_range];exact⟨rfl,rfl,λp i hp=>by
   rw[hk]at hp;obtain⟨h1,h2⟩:=ζe.1 hp;simp at h1 h2;subst h2;exact X.at_ p h1,λc hc=>.inl hc⟩
 have g1:∀call,bF E N call none r1 [.hsl id 1 off L,.clo g [] cb] H=some (set [.hsl id 1 off L,.clo g [] cb] 4 .aG,H):=λcall=>vp (v:=.aG) rfl (by simp[aF,aA,ak]) cH
 have k0:get (set [V.hsl id 1 off L,.clo g [] cb] 4 .aG) 0=.hsl id 1 off L:=rfl;have k1:get (set [V.hsl id 1 off L,.clo g [] cb] 4 .aG) 1=.clo g [] cb:=rfl;generalize set [V.hsl id 1 off L,.clo g [] cb] 4 .aG=F0 at *;obtain⟨F1,a1,a2,a3⟩:=x2 (E:=E) (N:=N) (H:=H) k0
 by_cases hL:L<2
 .obtain⟨F2,b1,b2⟩:=MK (E:=E) (N:=N) (F:=F1) (H:=H);obtain⟨e1,e2⟩:=same λi h1 h2=>by omega
  refine⟨F2,rs,?_,by rw[e1,b2,a3 0 (by omega)];exact k0,e2⟩
  rw[hself];exact Ex.seq (Ex.bS g1) (Ex.qP (Ex.seq (Ex.bS a1) (Ex.kP (by show get F1 10=_;rw[a2,decide_eq_true (by omega)]) (Ex.seq (Ex.bS b1) Ex.ret))) (by simp))
 .have g4:∀call,bF E N call none r4 F1 H=some (set F1 5 (.int .i64 1),H):=λcall=>vp (v:=.int .i64 1) rfl (by simp[aF,aA,ak]) cH
  have hc:Ex E N (.seq (.ops r2) (.cond (.s 10) (.seq (.ops r3) (.ret)) (.skip))) F0 H .norm F1 H:=Ex.seq (Ex.bS a1) (Ex.nv (by show get F1 10=_;rw[a2,decide_eq_false (by omega)]) Ex.skip)
  rcases GV (N:=N) X (L-1) 1 (set F1 5 (.int .i64 1)) (by omega) (by omega) (λi h1 h2=>by omega) (by rw[fJ _ _ (by omega),a3 0 (by omega)];exact k0) (by rw[fJ _ _ (by omega),a3 1 (by omega)];exact k1) (by rw[qd];rfl)with⟨F',l1,l2,l3⟩|⟨F',rs',l1,l2,l3⟩
  .obtain⟨F2,b1,b2⟩:=UY (E:=E) (N:=N) (F:=F') (H:=H);obtain⟨e1,e2⟩:=same l3;refine⟨F2,rs,?_,by rw[e1,b2];exact l2,e2⟩
   rw[hself];exact Ex.seq (Ex.bS g1) (Ex.seq hc (Ex.seq (Ex.seq (Ex.bS g4) (Ex.rQ (Ex.loop l1))) (Ex.seq (Ex.bS b1) Ex.ret)))
  .exact⟨F',rs',Ex.seq (Ex.bS g1) (Ex.seq hc (Ex.qP (Ex.seq (Ex.bS g4) (Ex.I5 (Ex.loop l1))) (by simp))),l2,l3⟩
theorem empty {w:V} (c:V) (hw:w=.aG\/w=.cK):∃F',Ex E N code [w,c] H .ret F' H/\get F' 4=w:=by
 have g1:∀call,bF E N call none r1 [w,c] H=some (set [w,c] 4 .aG,H):=λcall=>vp (v:=.aG) rfl (by simp[aF,aA,ak]) cH
 have k0:get (set [w,c] 4 .aG) 0=w:=rfl;generalize set [w,c] 4 .aG=F0 at *;have hl:lE w=some (.int .i64 0):=by rcases hw with rfl|rfl <;> rfl
 have a1:∃F1,(∀call,bF E N call none r2 F0 H=some (F1,H))/\get F1 10=.bool true/\get F1 0=w:=by
  refine⟨_,λcall=>vp (v:=w) rfl ?_ <| vp (v:=.int .i64 0) rfl ?_ <| vp (v:=.bool true) rfl ?_ cH,?_,?_⟩
  .simp[aF,aA,ak,k0]
  .simp[aF,aA,ak,ax,hl]
  .simp[aF,aA,ak,ax,fG,lK]
  .simp[ax]
  .simp[ax,k0]
 obtain⟨F1,a1,a2,a3⟩:=a1;obtain⟨F2,b1,b2⟩:=MK (E:=E) (N:=N) (F:=F1) (H:=H);exact⟨F2,Ex.seq (Ex.bS g1) (Ex.qP (Ex.seq (Ex.bS a1) (Ex.kP a2 (Ex.seq (Ex.bS b1) Ex.ret))) (by simp)),by rw[b2,a3]⟩
end
end cmpX
theorem Mr {E:Env} {f:FuncId} {nm:FuncId->Option Nat} {N:Nat->FuncId} (hN:∀f s,nm f=some s->N s=f) (hk:E.keep f=true) (ho:E.own f=false)
 (hf:∃fi,E.ft f=some fi/\aL ⟨E,nm,fi.ntmps⟩ false fi.body=some cmpX.code/\2<=fi.ntmps/\fi.results=[.tmp 4]):mm E f (qg E):=by
 obtain⟨fi,h1,h2,h3,h4⟩:=hf;have hrun:∀{w c:V} {H H':aq} {F':Frame} {r:V},Ex E N cmpX.code [w,c] H .ret F' H'->get F' 4=r->∃n,∀k,n<=k->run E k (.fn f) [w,c] H=some (r,H'):=λ{w c H H' F' r} hx hr=>by
  obtain⟨n,hn⟩:=Ex.run hN h1 h2 (args:=[w,c]) (by simpa using h3) hx (vs:=[r]) (by rw[h4];simp[fF,hr])
  exact⟨n,λk hk=>lH E hk _ _ _ _ hn⟩
 refine⟨hk,ho,?_,?_,?_⟩
 .intro es xs vs ys h;simp only[qg,u7]at h;refine⟨?_,λe=>by simp[qg]at e⟩
  split at h
  .split at h
   .cases h;simp
   .split at h
    .split at h
     .cases h;simpa using yN _ _
     .cases h
    .cases h
  .cases h
 .intro es vs ys h H Z ws w hw he;simp only[qg,u7]at h;split at h
  .obtain⟨w2,r,rfl,q1,q2⟩:=hw.inv;rw[q2.bQ];obtain⟨F',e1,e2⟩:=cmpX.empty (E:=E) (N:=N) (H:=H) w2 he;obtain⟨n,hn⟩:=hrun e1 e2;exact⟨n,[],λk hk=>by rw[List.append_nil];exact hn k hk⟩
  .cases h
 .intro es xs vs ys h H Z ws id off rs hw hid hoff hfr hsol hz;simp only[qg,u7]at h;split at h
  .rename_i g cb;obtain⟨w2,r,rfl,q1,q2⟩:=hw.inv;rw[q2.bQ];obtain⟨a',cb',rfl,ha,hcb⟩:∃a' cb',w2=.clo g a' cb'/\b9 H Z [] a'/\b9 H Z cb cb':=q1.iJ;rw[ha.bQ]at *;split at h
   .rename_i he;cases h;have:xs=[]:=by simpa using he
    subst this;have e2:∃F',Ex E N cmpX.code [.hsl id es off 0,.clo g [] cb'] H .ret F' H/\get F' 4=.hsl id es off 0:=by
     have g1:∀call,bF E N call none cmpX.r1 [.hsl id es off 0,.clo g [] cb'] H=some (set [.hsl id es off 0,.clo g [] cb'] 4 .aG,H):=λcall=>vp (v:=.aG) rfl (by simp[aF,aA,ak]) cH
     have k0:get (set [V.hsl id es off 0,.clo g [] cb'] 4 .aG) 0=.hsl id es off 0:=rfl;generalize set [V.hsl id es off 0,.clo g [] cb'] 4 .aG=F0 at *;have a1:∃F1,(∀call,bF E N call none cmpX.r2 F0 H=some (F1,H))/\get F1 10=.bool true/\get F1 0=.hsl id es off 0:=by
      refine⟨_,λcall=>vp (v:=.hsl id es off 0) rfl ?_ <| vp (v:=.int .i64 0) rfl ?_ <| vp (v:=.bool true) rfl ?_ cH,?_,?_⟩
      .simp[aF,aA,ak,k0]
      .simp[aF,aA,ak,ax,lE]
      .simp[aF,aA,ak,ax,fG,lK]
      .simp[ax]
      .simp[ax,k0]
     obtain⟨F1,a1,a2,a3⟩:=a1;obtain⟨F2,b1,b2⟩:=cmpX.MK (E:=E) (N:=N) (F:=F1) (H:=H);exact⟨F2,Ex.seq (Ex.bS g1) (Ex.qP (Ex.seq (Ex.bS a1) (Ex.kP a2 (Ex.seq (Ex.bS b1) Ex.ret))) (by simp)),by rw[b2,a3]⟩
    obtain⟨F',e1,e3⟩:=e2;obtain⟨n,hn⟩:=hrun e1 e3;refine⟨n,rs,[],λk hk=>?_,rfl,⟨rfl,λj u v hu=>by simp at hu⟩,hsol⟩
    rw[List.append_nil,oQ hid];exact hn k hk
   .rename_i hne;split at h
    .rename_i hcnd;simp only[ζh,Bool.not_eq_true']at hcnd;obtain⟨⟨c1,c2⟩,c3⟩:=hcnd;obtain⟨rfl,hlen,hel⟩:=vC c1;split at h
     .rename_i hall;cases h;have hcell:∀i,i<xs.length->∃a,rs[off+i]? = some [a]/\FR H Z (jN xs i) a/\(jN xs i).lvl 8=true/\a.one=true:=λi hi=>by
       obtain⟨e,p1,p2⟩:=hel i xs[i] (ζd hi);have hb:off+i<rs.length:=by omega
       have:=hfr.2 i xs[i] rs[off+i] (ζd hi) (by rw[List.getElem?_take,if_pos hi,List.getElem?_drop,ζd hb])
       rw[e]at this;obtain⟨y,ys,e2,r1,r2⟩:=this.inv;rw[r2.bQ]at e2;have e3:jN xs i=hU xs[i]:=by unfold jN;rw[ζd hi];rfl
       exact⟨y,by rw[ζd hb,e2],by rw[e3];exact r1,by rw[e3];exact p1,by rw[r1.one];exact p2⟩
      let A:Nat->V:=λi=>match rs[off+i]? with|some (a::_)=>a|_=>.undef
      have hA:∀i,i<xs.length->rs[off+i]? = some [A i]/\FR H Z (jN xs i) (A i)/\(jN xs i).lvl 8=true/\(A i).one=true:=λi hi=>by
       obtain⟨a,p1,p2,p3,p4⟩:=hcell i hi;have:A i=a:=by show (match rs[off+i]? with|some (a::_)=>a|_=>V.undef)=a;rw[p1]
       rw[this];exact⟨p1,p2,p3,p4⟩
      have hdef:∀i,i+1<xs.length->∃b,wz E g cb (jN xs (i+1)) (jN xs i)=some b:=λi hi=>by
       have:=List.all_eq_true.1 hall (i+1) (List.mem_range.2 hi);simp only[Nat.add_sub_cancel,Bool.or_eq_true]at this;rcases this with h|h
       .simp at h
       .exact Option.isSome_iff_exists.1 h
      have X:cmpX.De E g cb' H id off xs.length rs A (λi=>(wz E g cb (jN xs i) (jN xs (i-1))).getD false):=by
       refine⟨hid,hoff,hlen,λi hi=>(hA i hi).1,λi hi=>(hA i hi).2.2.2,c3,?_⟩
       obtain⟨M,hM⟩:=Bt (n:=xs.length-1) (p:=λi k=>br (run E k) g (jN xs (i.1+1)::jN xs i.1::cb) []=some (.bool ((wz E g cb (jN xs (i.1+1)) (jN xs i.1)).getD false))) (λi=>by
        obtain⟨b,hb⟩:=hdef i.1 (by have:=i.2;omega)
        obtain⟨n,hn⟩:=P9 hb;exact⟨n,λk hk=>by rw[hn k hk,hb];rfl⟩)
       refine⟨M,λk hk i hi cur=>?_⟩
       have hmono:∀j,Z j->Z j/\au (H.set id (.row 1 cur)) j=au H j:=λj hj=>⟨hj,by
        unfold au;rw[List.getElem?_set_ne];rintro rfl;exact hz hj⟩
       have hl:b9 (H.set id (.row 1 cur)) Z (jN xs (i+1)::jN xs i::cb) (A (i+1)::A i::cb'):=.cons ((hA _ hi).2.1.mono hmono) (.cons ((hA i (by omega)).2.1.mono hmono) (hcb.mono hmono))
       have hb:=hl.borrows (by simp only[V.bU,(hA _ hi).2.2.1,(hA i (by omega)).2.2.1,c2,Bool.and_self])
       rw[Q0 hb (λx hx=>?_)]
       .exact hM ⟨i,by omega⟩ k hk
       .obtain⟨j,hj⟩:=List.getElem?_of_mem hx;obtain⟨y,hy,hr⟩:=hl.get hj;exact V.iY hr.good
      obtain⟨F',rs',e1,e2,e3⟩:=cmpX.whole (N:=N) X;obtain⟨n,hn⟩:=hrun e1 e2;refine⟨n,rs',[],λk hk=>?_,e3.len,?_,?_⟩
      .simp only[qg,if_true,List.length_map,List.append_nil];exact hn k hk
      .refine⟨by simp[e3.len];have:=yN (λi=>(wz E g cb (jN xs i) (jN xs (i-1))).getD false) xs.length;omega,λp a b hp hq=>?_⟩
       rw[List.getElem?_map]at hp;obtain⟨i,hi,rfl⟩:=ζf.1 hp;have hil:=Gg (List.mem_of_getElem? hi);have hpl:=(ζe.1 hi).1;rw[List.getElem?_take,if_pos (by simpa using hpl),List.getElem?_drop,e3.pre p i hi]at hq
       cases hq;rw[ζd hil,Option.getD_some];have e4:=(hel i xs[i] (ζd hil)).1;have e5:jN xs i=hU xs[i]:=by unfold jN;rw[ζd hil];rfl
       rw[e4,<-e5];exact .cons (hA i hil).2.1 .nil
      .intro c hc u hu;rcases e3.all c hc with h|rfl
       .exact hsol c h u hu
       .simp at hu;subst hu;exact⟨.aG,.same _ rfl⟩
     .cases h
    .cases h
  .cases h
end Go.VE
namespace Go.VE
variable [aY]
def Sl.re {α:Type} (s:Sl α) (l:List α):Sl α:=match s with|.nil=>.nil|.emp=>.emp|.row _=>.row l|.part _=>.part l
def Sl.qc {α:Type} (s:Sl α) (l:List α):Sl α:=match s with|.nil=>.nil|.emp=>.emp|.row _|.part _=>.part l
noncomputable def vI {α:Type} (s:Sl α) (p:α->α->Option Int):Option (Sl α):=
 match s.l with
 | []=>some s
 | x::l=>if l.length<2147483648 then
  let t:_root_.Fin (l.length+1)->_root_.Fin (l.length+1)->Option Int:=λi j=>p (x::l)[i.1] (x::l)[j.1]
  if vL t then some (s.re ((oe l.length (nu t)).toList.map λi=>(x::l)[i.1]))else none
  else none
def qz {α:Type} (l:List α) (p:α->α->Option Bool) (i:Nat):Option Bool:=match l[i]?,l[i-1]? with|some a,some b=>p a b|_,_=>none
def uX {α:Type} (s:Sl α) (p:α->α->Option Bool):Option (Sl α):=
 if s.l.length<=2147483648/\((List.range s.l.length).all λi=>i==0||(qz s.l p i).isSome)=true then
  some (s.qc ((kept (λi=>(qz s.l p i).getD false) s.l.length).filterMap (s.l[·]?)))
 else none
section
variable {S:Sys} {T:qv} {β γ δ α:Type} {Q:Out×St->Option β} {e:γ->Option β} {cf:Cf}
theorem ji.JW (hT:o6 S T) (hI:∀f a b xs,S.items f a b=some xs->dV S f a b xs) {fn:FuncId} {A:δ->List V} {E:α->List V} {p:δ->Option α} {sc:Bool} (F:ji S (cz S T) fn A E p sc) {z:δ} {r:α} (h:p z=some r) (hg:V.bD (A z)=true) :
 ∃n,br (run S.E n) fn (A z) []=some (result (E r)):=by
 have h1:=F.h z (E r) (by rw[h];rfl)
 unfold kJ at h1;obtain⟨⟨rs,m'⟩,h2,h3⟩:=ζg.1 h1;obtain⟨n,y,H2,e1,e2,e3⟩:=EU (uT hT hI) hg h2 h3 (F.r r);refine⟨n,?_⟩;have hb:borrows 8 [] (A z)=some (A z):=by
  have hc:=V.lM hg;generalize A z=l at hc;unfold borrows
  induction l with
  | nil=>rfl
  | cons x l ih=>
   simp only[V.jo,ζh]at hc;simp only[iD,cR 8 [] hc.1,ih hc.2]
 unfold br;rw[hb];simp only[e1 n (Nat.le_refl _),e2,V.iY e3,if_true]
section
variable [aD α] [Lv 8 α]
theorem AY (h1:aD.size α=1) {l:List α} (hl:l.length<=2147483648):oV (aD.size α) (rows l)=true:=by
 unfold oV;simp only[ζh,beq_iff_eq,List.all_eq_true,decide_eq_true_eq];refine⟨⟨h1,λx hx=>?_⟩,by simpa [rows]using hl⟩
 obtain⟨a,_,rfl⟩:=List.mem_map.1 hx;exact⟨⟨by rw[dN,h1],Lv.lv a⟩,List.all_eq_true.1 (aD.one a)⟩
theorem CV (h1:aD.agg α=false) (a:α):hU (cells a)=enc a:=by
 unfold enc;rw[if_neg (by rw[h1];simp)];rfl
theorem vz (l:List α) (i:Nat) (h:i<l.length):(rows l)[i]? = some (cells l[i]):=by
 unfold rows;rw[List.getElem?_map,ζd h];rfl
theorem O8 (hT:o6 S T) (hI:∀f a b xs,S.items f a b=some xs->dV S f a b xs) {g:FuncId} {p:α->α->Option Int} (F:ji S (cz S T) g (λz:α×α=>[enc z.1,enc z.2]) (λr:Int=>[.int .i64 r]) (λz=>p z.1 z.2) true)
 (h1:aD.size α=1) (ha:aD.agg α=false) {s s':Sl α} (h:vI s p=some s'):xo S.E (aD.size α) (rows s.l) [.clo g [] []]=some (rows s'.l)/\s'.k=s.k:=by
 unfold vI at h;split at h
 .rename_i hs;cases h;rw[hs];exact⟨rfl,rfl⟩
 .rename_i x l hs;split at h
  .rename_i hl;dsimp only at h;split at h
   .rename_i ht;cases h;rw[hs];obtain⟨htot,hswo⟩:=oa ht;have hfl:=AY (α:=α) h1 (l:=x::l) (by simp only[List.length_cons];omega)
    have key:∀m,m=l.length->(if vL (λi j:_root_.Fin (m+1)=>qq S.E g [] (hU (((rows (x::l))[i.1]?).getD [])) (hU (((rows (x::l))[j.1]?).getD [])))then
     some ((oe m (nu (λi j:_root_.Fin (m+1)=>qq S.E g [] (hU (((rows (x::l))[i.1]?).getD [])) (hU (((rows (x::l))[j.1]?).getD []))))).toList.map λi=>((rows (x::l))[i.1]?).getD [])else none) =
     some (rows ((oe l.length (nu λi j:_root_.Fin (l.length+1)=>p (x::l)[i.1] (x::l)[j.1])).toList.map λi=>(x::l)[i.1])):=by
     rintro m rfl;have e1:∀i:_root_.Fin (l.length+1),hU (((rows (x::l))[i.1]?).getD [])=enc (x::l)[i.1]:=λi=>by
      rw[vz (x::l) i.1 i.2,Option.getD_some,CV ha]
     have e2:(λi j:_root_.Fin (l.length+1)=>qq S.E g [] (hU (((rows (x::l))[i.1]?).getD [])) (hU (((rows (x::l))[j.1]?).getD [])))=λi j=>p (x::l)[i.1] (x::l)[j.1]:=by
      funext i j
      obtain⟨z,hz⟩:=htot i j;rw[e1 i,e1 j,hz];obtain⟨n,hn⟩:=F.JW hT hI (z:=((x::l)[i.1],(x::l)[j.1])) hz (by simp only[V.bD,gP,Bool.and_self])
      unfold qq;rw[Gk hn];rfl
     rw[e2,if_pos ht]
     congr 1
     unfold rows;rw[List.map_map];refine List.map_congr_left λi _=>?_
     have:=vz (x::l) i.1 i.2;unfold rows at this;rw[this];rfl
    have hs':(s.re ((oe l.length (nu λi j:_root_.Fin (l.length+1)=>p (x::l)[i.1] (x::l)[j.1])).toList.map λi=>(x::l)[i.1])).l=(oe l.length (nu λi j:_root_.Fin (l.length+1)=>p (x::l)[i.1] (x::l)[j.1])).toList.map (λi=>(x::l)[i.1])/\(s.re ((oe l.length (nu λi j:_root_.Fin (l.length+1)=>p (x::l)[i.1] (x::l)[j.1])).toList.map λi=>(x::l)[i.1])).k=s.k:=by
     cases s <;> simp[Sl.l]at hs <;> exact⟨rfl,rfl⟩
    refine⟨?_,hs'.2⟩;rw[hs'.1,<-key (rows l).length (eC l)];have hc:(oV (aD.size α) (rows (x::l))&&V.bU 8 ([]:List V) && !S.E.keep g)=true:=by
     rw[hfl,F.k];rfl
    have hc':(oV (aD.size α) (cells x::rows l)&&V.bU 8 ([]:List V) && !S.E.keep g)=true:=hc;show (if oV (aD.size α) (cells x::rows l)&&V.bU 8 [] && !S.E.keep g then _ else none)=_;exact(if_pos hc').trans rfl
   .cases h
  .cases h
theorem O9 (hT:o6 S T) (hI:∀f a b xs,S.items f a b=some xs->dV S f a b xs) {g:FuncId} {p:α->α->Option Bool} (F:ji S (cz S T) g (λz:α×α=>[enc z.1,enc z.2]) (λr:Bool=>[.bool r]) (λz=>p z.1 z.2) true)
 (h1:aD.size α=1) (ha:aD.agg α=false) {s s':Sl α} (h:uX s p=some s'):u7 S.E (aD.size α) (rows s.l) [.clo g [] []]=some (rows s'.l)/\s'=s.qc s'.l:=by
 have hcut:∀l:List α,(s.qc l)=s.qc (s.qc l).l:=λl=>by cases s <;> rfl
 refine⟨?_,by
  unfold uX at h;split at h
  .cases h;exact hcut _
  .cases h⟩
 unfold uX at h;split at h
 .rename_i hc;cases h;obtain⟨hl,hall⟩:=hc;have hfl:=AY (α:=α) h1 hl;simp only[u7]
  by_cases he:s.l=[]
  .have:(s.qc ((kept (λi=>(qz s.l p i).getD false) s.l.length).filterMap (s.l[·]?))).l=[]:=by
    cases s <;> simp[Sl.l]at he <;> simp[Sl.qc,Sl.l,he,kept]
   rw[this,he];rfl
  .have hne:(rows s.l).isEmpty=false:=by cases hs:s.l with|nil=>exact absurd hs he|cons a l=>rfl
   rw[hne,if_neg (by simp),hfl,F.k,if_pos (by rfl),eC]
   have e1:∀i,0<i->i<s.l.length->∃b,qz s.l p i=some b/\wz S.E g [] (jN (rows s.l) i) (jN (rows s.l) (i-1))=some b:=λi h0 hi=>by
    have:=List.all_eq_true.1 hall i (List.mem_range.2 hi);simp only[Bool.or_eq_true,beq_iff_eq]at this;obtain⟨b,hb⟩:=Option.isSome_iff_exists.1 (this.resolve_left (by omega))
    refine⟨b,hb,?_⟩;have hi2:i-1<s.l.length:=by omega
    unfold qz at hb;rw[ζd hi,ζd hi2]at hb;have ea:∀j (hj:j<s.l.length),jN (rows s.l) j=enc s.l[j]:=λj hj=>by
     unfold jN;rw[vz _ _ hj,Option.getD_some,CV ha]
    rw[ea i hi,ea (i-1) hi2];obtain⟨n,hn⟩:=F.JW hT hI (z:=(s.l[i],s.l[i-1])) hb (by simp only[V.bD,gP,Bool.and_self])
    unfold wz;rw[Gk hn];rfl
   have e2:((List.range s.l.length).all λi=>i==0||(wz S.E g [] (jN (rows s.l) i) (jN (rows s.l) (i-1))).isSome)=true:=by
    refine List.all_eq_true.2 λi hi=>?_
    by_cases h0:i=0
    .subst h0;rfl
    .obtain⟨b,_,hb⟩:=e1 i (by omega) (List.mem_range.1 hi)
     rw[hb];simp
   rw[if_pos e2];have e3:kept (λi=>(wz S.E g [] (jN (rows s.l) i) (jN (rows s.l) (i-1))).getD false) s.l.length=kept (λi=>(qz s.l p i).getD false) s.l.length:=by
    unfold kept;refine List.filter_congr λi hi=>?_
    by_cases h0:i=0
    .subst h0;rfl
    .obtain⟨b,h3,h4⟩:=e1 i (by omega) (List.mem_range.1 hi)
     simp only[h3,h4]
   rw[e3];have e4:(s.qc ((kept (λi=>(qz s.l p i).getD false) s.l.length).filterMap (s.l[·]?))).l=(kept (λi=>(qz s.l p i).getD false) s.l.length).filterMap (s.l[·]?):=by
    cases s <;> first|rfl|(exact absurd rfl he)
   rw[e4]
   congr 1
   generalize hk:kept (λi=>(qz s.l p i).getD false) s.l.length=ks
   have hlt:∀i∈ks,i<s.l.length:=λi hi=>Gg (hk▸hi)
   clear hk e3 e4
   induction ks with
   | nil=>rfl
   | cons i ks ih=>
    have hi:=hlt i (by simp)
    rw[List.map_cons,ih λj hj=>hlt j (List.mem_cons_of_mem _ hj),vz _ _ hi,List.filterMap_cons,ζd hi]
    rfl
 .cases h
theorem L0 {s s':Sl α} {p:α->α->Option Int} (h:vI s p=some s') (hk:bC s.k=false):s'=s:=by
 cases s <;> simp[Sl.k,bC]at hk <;> simpa [vI,Sl.l]using h.symm
theorem R8 (n d:Nat) (hT:o6 S T) (hI:∀f a b xs,S.items f a b=some xs->dV S f a b xs) {fn g:FuncId} (hp:S.prm fn=some (o7 S.E)) {p:α->α->Option Int}
 (F:ji S (cz S T) g (λz:α×α=>[enc z.1,enc z.2]) (λr:Int=>[.int .i64 r]) (λz=>p z.1 z.2) true) {s:Sl α} {f:Sl α->Option γ}
 (h:∀s',vI s p=some s'->Le ((f s').bind e) (bu S (cz S T) Q (nx S (cz S T) n cf λq=>bY { q.st with m:=aR q.st.m d (b7 s') } q.d (.v .undef))))
 (h1:aD.size α=1:=by rfl) (ha:aD.agg α=false:=by rfl)
 (hL:(fC S (cz S T) n cf).map (λq=>(q.k,bf S.N q.st.g q.az,an q.st.m d,q.dr))=some (.c,some [.v (.clo fn [] []),.own d,.v (.clo g [] [])],some (b7 s),false):=by kernel_rfl):Le (((vI s p).bind f).bind e) (bu S (cz S T) Q cf):=by
 obtain⟨q,hq,hv⟩:=dZ hL;simp only[ζc]at hv;obtain⟨v1,v2,v3,v4⟩:=hv;refine tP hq ?_ h;rw[v1,v4];intro y hy;obtain⟨s',hs',hy⟩:=ζg.1 hy;cases hy;obtain⟨e1,e2⟩:=O8 hT hI F h1 ha hs';have hk:=(hT.prm fn _ hp).keep;have ho:=(hT.prm fn _ hp).own;rw[Dm false _ _ _ _ _ _ fn [.own d,.v (.clo g [] [])] v2 rfl];have hc:fP S (cz S T) q.d false (!false||q.now) (fm q.st.m q.fr) fn [.own d,.v (.clo g [] [])] q.st=some (.v .undef,{ q.st with m:=aR q.st.m d (b7 s') }):=by
  unfold fP;simp only[hk,ho,Bool.not_false,Bool.true_or,if_true,Bool.false_eq_true,if_false,hp,zV,v3,b7,cZ,Option.map_some];have e3:(o7 S.E).go (aD.size α) (rows s.l) [.clo g [] []]=some (rows s'.l):=e1;rw[e3];simp only[o7,Bool.false_eq_true,if_false]
  cases hr:bC s.k with
  | true=>simp only[if_true,e2]
  | false=>have:=L0 hs' hr;subst this;simp
 rw[hc];rfl
theorem SQ (n d t:Nat) (hT:o6 S T) (hI:∀f a b xs,S.items f a b=some xs->dV S f a b xs) {fn g:FuncId} (hp:S.prm fn=some (qg S.E)) {p:α->α->Option Bool}
 (F:ji S (cz S T) g (λz:α×α=>[enc z.1,enc z.2]) (λr:Bool=>[.bool r]) (λz=>p z.1 z.2) true) {s:Sl α} {f:Sl α->Option γ}
 (h:∀s',uX s p=some s'->Le ((f s').bind e) (bu S (cz S T) Q (nx S (cz S T) n cf λq=>{ q.st with g:=aR q.st.g t (.own t),m:=aR (cM d q.st.m) t (b7 s') })))
 (h1:aD.size α=1:=by rfl) (ha:aD.agg α=false:=by rfl)
 (hL:(fC S (cz S T) n cf).map (λq=>(q.k,bf S.N q.st.g q.az,an q.st.m d,q.dr,q.d,St.new { q.st with m:=cM d q.st.m } t))=some (.c,some [.v (.clo fn [] []),.own d,.v (.clo g [] [])],some (b7 s),false,some t,true):=by kernel_rfl):Le (((uX s p).bind f).bind e) (bu S (cz S T) Q cf):=by
 obtain⟨q,hq,hv⟩:=dZ hL;simp only[ζc]at hv;obtain⟨v1,v2,v3,v4,v5,v6⟩:=hv;refine tP hq ?_ h;rw[v1,v4,v5];intro y hy;obtain⟨s',hs',hy⟩:=ζg.1 hy;cases hy;obtain⟨e1,e2⟩:=O9 hT hI F h1 ha hs';have hk:=(hT.prm fn _ hp).keep;have ho:=(hT.prm fn _ hp).own;rw[Dm false _ _ _ _ _ _ fn [.own d,.v (.clo g [] [])] v2 rfl];have hc:fP S (cz S T) (some t) false (!false||q.now) (fm q.st.m q.fr) fn [.own d,.v (.clo g [] [])] q.st=some (.own t,{ q.st with m:=aR (cM d q.st.m) t (b7 s') }):=by
  unfold fP;simp only[hk,ho,Bool.not_false,Bool.true_or,if_true,Bool.false_eq_true,if_false,hp,zV,v3,b7,cZ,Option.map_some];have e3:(qg S.E).go (aD.size α) (rows s.l) [.clo g [] []]=some (rows s'.l):=e1;rw[e3];simp only[qg,if_true,v6];have e4:(if bC s.k=true then aN.sl .part (aD.size α) (rows s'.l)else .sl s.k (aD.size α) (rows s.l))=.sl s'.k (aD.size α) (rows s'.l):=by
   rw[e2];cases s <;> rfl
  rw[e4]
 rw[hc];rfl
end
end
end Go.VE
namespace Go.VE
variable [aY]
section
variable {H H':aq} {w:V} {o:Nat} {ids:List Nat} {rows:List (List V)}
theorem kf.cell (n:kf H w o ids rows) {p j:Nat} {r:List V} {u:V} (hr:rows[p]? = some r) (hu:r[j]? = some u) :
 ∃id,ids[p]? = some id/\jK 1 w (p:Int)=some (.hptr o p 0)/\dG H (.load 1 false) [.hptr o p 0]=some (.hsl id 1 0 r.length)/\jK 1 (.hsl id 1 0 r.length) (j:Int)=some (.hptr id j 0)/\dG H (.load 1 false) [.hptr id j 0]=some u:=by
 have hp:=(ζe.1 hr).1;have hj:=(ζe.1 hu).1;have hne:rows≠[]:=by intro e;subst e;simp at hr
 have hpi:p<ids.length:=by rw[n.len];exact hp
 have hid:=ζd hpi;refine⟨ids[p],hid,?_,?_,?_,?_⟩
 .have:=n.v;rw[if_neg hne]at this;subst this;simp[jK,hp]
 .have h1:=n.ob hne;have h2:=zw hid hr;simp[dG,cS,h1,Ob.rows,h2,cut];rfl
 .simp[jK,hj]
 .have h1:=n.r p _ r hid hr;simp[dG,cS,h1,Ob.rows,gG,hu,cut];rfl
theorem Ki {ids:List Nat} (h:ids.Nodup) {i j:Nat} {a:Nat} (hi:ids[i]? = some a) (hj:ids[j]? = some a):i=j:=by
 have h1:=(ζe.1 hi);have h2:=(ζe.1 hj);obtain⟨h1,e1⟩:=h1;obtain⟨h2,e2⟩:=h2;exact(List.getElem_inj h).1 (e1.trans e2.symm)
theorem kf.set (n:kf H w o ids rows) {p j id:Nat} {r:List V} {u:V} (hr:rows[p]? = some r) (hj:j<r.length) (hid:ids[p]? = some id) (hu:V.one u=true) (hc:u.cells=[u]) :
 ∃H',dK H (.store 1) [.hptr id j 0,u]=some (.undef,H')/\kf H' w o ids (rows.set p (r.set j u))/\H'.length=H.length/\(∀i,i≠id->H'[i]? = H[i]?):=by
 have hp:=(ζe.1 hr).1;have hne:rows≠[]:=by intro e;subst e;simp at hr
 have h1:=n.r p id r hid hr;have hl:id<H.length:=(ζe.1 h1).1;have hset:(gG r).set j [u]=gG (r.set j u):=by simp[gG,List.map_set]
 have hoid:o≠id:=λe=>n.ne hne (e▸List.mem_of_getElem? hid)
 refine⟨H.set id (.row 1 (gG (r.set j u))),?_,⟨?_,λ_=>?_,by simp[n.len],λi id' r' hi hr'=>?_,n.nd,λ_=>n.ne hne⟩,by simp,λi hi=>List.getElem?_set_ne (Ne.symm hi)⟩
 .have h2:(gG r)[j]? = some [r[j]]:=by simp[gG,hj]
  simp only[dK,h1,h2,hc,List.length_singleton,Nat.zero_add,Nat.le_refl,List.all_cons,hu,List.all_nil,Bool.and_self,and_self,if_true,List.take_zero,List.nil_append];rw[<-hset];simp
 .rw[n.v];have:rows.set p (r.set j u)≠[]:=by intro e;apply hne;simpa using e
  rw[if_neg hne,if_neg this,List.length_set]
 .rw[List.getElem?_set_ne (Ne.symm hoid),EL hr (by simp)];exact n.ob hne
 .by_cases e:i=p
  .subst e;rw[hid]at hi;cases hi;rw[List.getElem?_set_self hp]at hr';cases hr';rw[List.getElem?_set_self hl]
  .rw[List.getElem?_set_ne (Ne.symm e)]at hr';have hne':id≠id':=λe'=>e (Ki n.nd (e'▸hi) hid)
   rw[List.getElem?_set_ne hne'];exact n.r i id' r' hi hr'
end
structure iO (H:aq) (w:V) (l:List (List V)) (id:Nat):Prop where
 c:∀c∈l,c.length=2/\c.all V.one=true
 v:(w=.aG/\l=[])\/∃off xs,w=.hsl id 2 off l.length/\H[id]? = some (.row 2 xs)/\off+l.length<=xs.length/\(xs.drop off).take l.length=l
section
variable {H H':aq} {w:V} {l:List (List V)} {id:Nat}
theorem iO.heap (n:iO H w l id) (h:∀off n,w=.hsl id 2 off n->H'[id]? = H[id]?):iO H' w l id:=
 ⟨n.c,n.v.imp (λh=>h) λ⟨off,xs,e1,e2,e3,e4⟩=>⟨off,xs,e1,by rw[h _ _ e1];exact e2,e3,e4⟩⟩
theorem iO.lt (n:iO H w l id) {off m:Nat} (h:w=.hsl id 2 off m):id<H.length:=by
 rcases n.v with⟨e,_⟩|⟨_,xs,_,e2,_⟩
 .rw[e]at h;cases h
 .exact(ζe.1 e2).1
theorem iO.more (n:iO H w l id) (X:aq):iO (H++X) w l id:=n.heap λ_ _ e=>List.getElem?_append_left (n.lt e)
theorem iO.len (n:iO H w l id):lE w=some (.int .i64 l.length):=by
 rcases n.v with⟨rfl,rfl⟩|⟨off,xs,rfl,_⟩ <;> rfl
theorem iO.get (n:iO H w l id) {i:Nat} {c:List V} (hc:l[i]? = some c):∃p,jK 2 w (i:Int)=some p/\dG H (.load 2 true) [p]=some (.agg c):=by
 have hi:=(ζe.1 hc).1;have hcl:=(n.c c (List.mem_of_getElem? hc)).1;rcases n.v with⟨_,rfl⟩|⟨off,xs,rfl,e2,e3,e4⟩
 .simp at hc
 .refine⟨.hptr id (off+i) 0,by simp[jK,hi],?_⟩
  have:xs[off+i]? = some c:=by
   rw[<-e4,List.getElem?_take,if_pos hi,List.getElem?_drop]at hc;exact hc
  simp[dG,cS,e2,Ob.rows,this,cut,<-hcl];rfl
theorem iO.tail {c:List V} (n:iO H w (c::l) id):∃w',fI 2 w (some 1) none=some w'/\iO H w' l id/\∃off m off',w=.hsl id 2 off m/\w'=.hsl id 2 off' l.length:=by
 rcases n.v with⟨_,e⟩|⟨off,xs,rfl,e2,e3,e4⟩
 .cases e
 .refine⟨.hsl id 2 (off+1) l.length,?_,⟨λc hc=>n.c c (List.mem_cons_of_mem _ hc),.inr ⟨off+1,xs,rfl,e2,by simp at e3;omega,?_⟩⟩,⟨_,_,_,rfl,rfl⟩⟩
  .simp[fI,cD];omega
  .have hd:(xs.drop off).drop 1=xs.drop (off+1):=by rw[List.drop_drop]
   rw[<-hd];have:=congrArg (List.drop 1) e4;rw[List.drop_take]at this;simpa using this
theorem iO.push (n:iO H w l id) {c:List V} (hc:c.length=2/\c.all V.one=true) (hl:l.length+1<=2147483648) :
 ∃H',dK (H++[.row 2 [c]]) (.append 2) [w,.hsl H.length 2 0 1]=some (.hsl (H.length+1) 2 0 (l.length+1),H')/\iO H' (.hsl (H.length+1) 2 0 (l.length+1)) (l++[c]) (H.length+1)/\H'.length=H.length+2/\(∀i,i<H.length->(∀off m,w=.hsl id 2 off m->i≠id)->H'[i]? = H[i]?):=by
 have e2:cF (H++[.row 2 [c]]) 2 (.hsl H.length 2 0 1)=some [c]:=by simp[cF,Ob.rows]
 have hcs:∀c'∈l++[c],c'.length=2/\c'.all V.one=true:=λc' h=>by
  rcases List.mem_append.1 h with h|h
  .exact n.c c' h
  .simp at h;subst h;exact hc
 rcases n.v with⟨rfl,rfl⟩|⟨off,xs,rfl,g2,g3,g4⟩
 .have e1:cF (H++[.row 2 [c]]) 2 .aG=some []:=rfl;refine⟨H++[.row 2 [c]]++[.row 2 [c]],?_,⟨hcs,.inr ⟨0,[c],rfl,by simp,by simp,rfl⟩⟩,by simp,λi hi _=>by rw[List.append_assoc,List.getElem?_append_left hi]⟩
  simp only[dK,e1,e2,gp,List.length_nil,List.length_singleton,Option.map_some];simp
 .have hid:=(ζe.1 g2).1;have e1:cF (H++[.row 2 [c]]) 2 (.hsl id 2 off l.length)=some l:=by
   simp only[cF,if_true,List.getElem?_append_left hid,g2,ζb,Ob.rows,g3,g4]
  have eg:gp (H++[.row 2 [c]]) (.hsl id 2 off l.length)=some (List.set (H++[Ob.row 2 [c]]) id Ob.dead):=by
   simp only[gp,List.getElem?_append_left hid,g2]
  refine⟨List.set (H++[Ob.row 2 [c]]) id Ob.dead++[Ob.row 2 (l++[c])],?_,⟨hcs,.inr ⟨0,l++[c],by simp,by simp,by simp,List.take_of_length_le (by simp)⟩⟩,by simp,λi hi h=>?_⟩
  .simp only[dK,e1,e2,eg,List.length_singleton,hl,if_true,Option.map_some,ζi]
  .rw[List.getElem?_append_left (by simp;omega),List.getElem?_set_ne (Ne.symm (h _ _ rfl)),List.getElem?_append_left hi]
end
noncomputable def BN (rs:List RV):Out×St->Option aN
 | (.exit _,_)=>none
 | (_,st)=>(oA st rs).bind λl=>match l with
  | [.own d]=>an st.m d
  | _=>none
theorem Uq {S:Sys} {c:bH} {rs:List RV} {rc:RC} {st:St} {ob:aN} (h:kG S c (BN rs) rc [] st=some ob):∃o st' d,bB S c rc st=some (o,st')/\(∀id,o≠.exit id)/\oA st' rs=some [.own d]/\an st'.m d=some ob:=by
 rw[tn]at h;obtain⟨⟨o,st'⟩,h1,h2⟩:=ζg.1 h;have ho:∀id,o≠.exit id:=by rintro id rfl;simp[BN]at h2
 have h3:(oA st' rs).bind (λl=>match l with|[.own d]=>an st'.m d|_=>none)=some ob:=by
  cases o with
  | exit id=>exact absurd rfl (ho id)
  | norm=>exact h2
  | ret=>exact h2
 obtain⟨l,h4,h5⟩:=ζg.1 h3;split at h5
 .exact⟨o,st',_,h1,ho,h4,h5⟩
 .cases h5
theorem Rr {S:Sys} {T:qv} (hT:o6 S T) (hI:∀f a b xs,S.items f a b=some xs->dV S f a b xs) {f:FuncId} {rf:RF} (hf:T f=some rf) {av:List V} (hg:V.bD av=true) (hn:av.length<=rf.na) {k:Fl} {es:Nat} {xs:List (List V)}
 (hx:∀x∈xs,x.all V.scalar=true) (hk:k=.row\/k=.nil/\xs=[]) (h:kG S (cz S T) (BN rf.rs) rf.body [] (start (av.map .v) [])=some (.sl k es xs)) :
 ∃n y H',run S.E n (.fn f) av []=some (y,H')/\((k=.nil/\y=.aG)\/(∃id,y=.hsl id es 0 xs.length/\H'[id]? = some (.row es xs))):=by
 obtain⟨o,st',d,h1,h2,h3,h4⟩:=Uq h;have hc:cz S T f (av.map .v) []=some ([.own d],st'.m):=by
  rw[zQ hf];unfold nZ;rw[if_pos (by simpa using hn),h1]
  cases o with
  | exit id=>exact absurd rfl (h2 id)
  | norm=>simp only[h3,Option.map_some]
  | ret=>simp only[h3,Option.map_some]
 obtain⟨r0,r1⟩:=tW hg;obtain⟨n,y,H2,ν',Z',st2,F',ys,g1,rfl,g3,g4,g5,_⟩:=uT hT hI f _ _ _ _ hc _ _ av [] (.inr rfl) r0 r1;obtain⟨z,zs,rfl,e1,e2⟩:=g4.inv;have:=e2.bQ;subst this;refine⟨n,_,H2,g1,?_⟩
 cases e1 with
 | own d y hy=>
  obtain⟨k',es',xs',e,hyv⟩:=hy _ h4;cases e;have hob:=g5.obj d _ (by rw[g3];exact h4)
  rcases hk with rfl|⟨rfl,rfl⟩
  .right;simp only[dg,bC,if_true]at hob;obtain⟨ys,q1,q2,q3,q4,q5⟩:=hob;obtain⟨q5,q6⟩:=q5 trivial;rw[q5,List.drop_zero,<-q6,List.take_of_length_le (Nat.le_refl _)]at q3;have:xs=ys:=by
    refine List.ext_getElem q3.1 λi p q=>?_
    have hi:=q3.2 i _ _ (ζd p) (ζd q);refine List.ext_getElem hi.1 λj p' q'=>?_
    have hj:=hi.2 j _ _ (ζd p') (ζd q');exact((hj.scalar).1 (List.all_eq_true.1 (hx _ (List.getElem_mem p)) _ (List.getElem_mem p'))).symm
   subst this;refine⟨(ν' d).1,?_,q1⟩;show result [_]=_;rw[hyv];simp[result,qC,q5]
  .left;exact⟨rfl,by show result [_]=_;rw[hyv];rfl⟩
theorem Ee {E:Env} {f:FuncId} {av:List V} {l:List (List V)} {y:V} {H1:aq} (hk:E.own f=true) (hg:V.bD av=true) (hl:∀c∈l,c.length=2/\c.all V.one=true/\c.all V.scalar=true)
 (hr:∃n,∀k,n<=k->run E k (.fn f) av []=some (y,H1)) (hy:(l=[]/\y=.aG)\/(∃id,y=.hsl id 2 0 l.length/\H1[id]? = some (.row 2 l))) (H:aq) :
 ∃w X id,(∃n,∀k,n<=k->dM E (run E k) f av H=some (w,H++X))/\iO (H++X) w l id/\(∀off m,w=.hsl id 2 off m->id=H.length):=by
 obtain⟨n,hr⟩:=hr;have hb:∀{l:List V},V.bD l=true->borrows 8 H l=some l:=by
  intro l;unfold borrows
  induction l with
  | nil=>intro _;rfl
  | cons a l ih=>
   intro h;have h1:V.good a=true/\V.bD l=true:=by simpa [V.bD]using h
   simp only[iD,cR 8 H (V.iY h1.1),ih h1.2]
 rcases hy with⟨rfl,rfl⟩|⟨id,rfl,hid⟩
 .refine⟨.aG,[],0,⟨n,λk hk'=>?_⟩,⟨λc h=>by simp at h,.inl ⟨rfl,rfl⟩⟩,λoff m h=>by cases h⟩
  simp only[dM,hk,if_true,jv,hb hg,hr k hk',V.scalar,List.append_nil]
 .refine⟨.hsl H.length 2 0 l.length,[.row 2 l],H.length,⟨n,λk hk'=>?_⟩,⟨λc h=>⟨(hl c h).1,(hl c h).2.1⟩,.inr ⟨0,l,rfl,by simp,by simp,by simp⟩⟩,λoff m h=>rfl⟩
  have hs:(l.all λx=>x.all V.scalar)=true:=List.all_eq_true.2 λc h=>(hl c h).2.2
  simp only[dM,hk,if_true,jv,hb hg,hr k hk',V.scalar,Bool.false_eq_true,if_false,oJ,hid,hs,and_self,Option.map_some]
end Go.VE
namespace Go.VE
variable [aY]
def Sl.whole {α:Type} (s:Sl α):Option (Sl α):=match s with|.part _=>none|s=>some s
structure En (S:Sys) (c:bH) {α δ:Type} [aD δ] (fn:FuncId) (A:α->List V) (p:α->Option (Sl δ)):Prop where
 k:S.E.keep fn=true
 o:S.E.own fn=true
 h:∀z s,p z=some s->∃e m',c fn ((A z).map .v) []=some ([.own e],m')/\an m' e=some (b7 s)
 l:∀z,V.bU 8 (A z)=true
 sc:∀x:δ,(cells x).all V.scalar=true
theorem En.mk' {S:Sys} {T:qv} {α δ:Type} [aD δ] (rf:RF) {fn:FuncId} {A:α->List V} {p:α->Option (Sl δ)} (h:∀z,Le ((p z).bind λr=>some (b7 r)) (bu S (cz S T) (BN rf.rs) (.rc rf.body,[],start ((A z).map .v) [])))
 (hT:T fn=some rf:=by kernel_rfl) (hk:S.E.keep fn=true:=by kernel_rfl) (ho:S.E.own fn=true:=by kernel_rfl) (hn:∀z,(A z).length<=rf.na:=by intro z;exact Nat.le_of_ble_eq_true (by kernel_rfl))
 (l:∀z,V.bU 8 (A z)=true:=by intro z;simp) (sc:∀x:δ,(cells x).all V.scalar=true:=by intro x;rfl):En S (cz S T) fn A p where
 k:=hk
 o:=ho
 l:=l
 sc:=sc
 h z s hs:=by
  have h1:=h z (b7 s) (by rw[hs];rfl)
  change kG S (cz S T) (BN rf.rs) rf.body [] (start ((A z).map .v) [])=some (b7 s)at h1;obtain⟨o,st',d,g1,g2,g3,g4⟩:=Uq h1;refine⟨d,st'.m,?_,g4⟩;rw[zQ hT];unfold nZ;rw[if_pos (by simpa using hn z),g1]
  cases o with
  | exit id=>exact absurd rfl (g2 id)
  | norm=>simp only[g3,Option.map_some]
  | ret=>simp only[g3,Option.map_some]
section
variable {S:Sys} {c:bH} {β γ δ α:Type} [aD δ] {Q:Out×St->Option β} {e:γ->Option β} {cf:Cf}
theorem GY (n u:Nat) {fn:FuncId} {A:α->List V} {p:α->Option (Sl δ)} (F:En S c fn A p) (z:α) {f:Sl δ->Option γ}
 (h:∀x,(p z).bind Sl.whole=some x->Le ((f x).bind e) (bu S c Q (nx S c n cf λq=>{ q.st with g:=aR q.st.g u (.own u),m:=aR q.st.m u (b7 x) })))
 (hL:(fC S c n cf).map (λq=>(q.d,q.k,(bf S.N q.st.g q.az).bind ov,(!q.dr||q.now),q.st.new u))=some (some u,.c,some (fn,(A z).map .v),true,true):=by kernel_rfl):Le ((((p z).bind Sl.whole).bind f).bind e) (bu S c Q cf):=by
 obtain⟨q,hq,hv⟩:=dZ hL;simp only[ζc]at hv;obtain⟨v1,v2,v3,v4,v5⟩:=hv;obtain⟨svs,g1,g2⟩:=ζg.1 v3;refine tP hq ?_ h;rw[v1,v2];intro y hy;obtain⟨s',hs',hy⟩:=ζg.1 hy;cases hy;obtain⟨s,hs,hw⟩:=ζg.1 hs';obtain⟨e0,m',hc,hm⟩:=F.h z s hs;rw[Dm q.dr _ _ _ _ _ svs fn ((A z).map .v) g1 g2];have hcall:fP S c (some u) q.dr (!q.dr||q.now) (fm q.st.m q.fr) fn ((A z).map .v) q.st=some (.own u,{ q.st with m:=aR q.st.m u (b7 s') }):=by
  unfold fP;simp only[F.k,F.o,if_true,v4,tV,F.l z,hc,cZ,hm,b7,v5]
  cases s with
  | nil=>cases hw;rfl
  | emp=>cases hw;rfl
  | row l=>
   cases hw;have:mw (rows l)=true:=by
    unfold mw;rw[List.all_eq_true];intro x hx;obtain⟨a,_,rfl⟩:=List.mem_map.1 hx;exact F.sc a
   simp only[Sl.k,Sl.l,cZ,V.bP,this,Bool.and_self,v5,if_true];rfl
  | part l=>cases hw
 rw[hcall];rfl
end
end Go.VE
namespace Go.VE
variable [aY]
structure GD where
 m:Nat
 pre:List (Nat×List Gh)
 nd:List (Nat×List Gh×List Gh)
structure GI where
 m:Nat
 i:Nat
 j:Nat
def Tj {α:Type} (l:List (Nat×List α)) (i:Nat):List α:=match l with
 | []=>[]
 | (k,x)::r=>bif Nat.beq k i then x else Tj r i
def xm (l:List (Nat×List Gh×List Gh)) (i:Nat):List Gh×List Gh:=match l with
 | []=>([],[])
 | (k,x)::r=>bif Nat.beq k i then x else xm r i
def Hv (m:Nat):List Nat->List Nat
 | []=>[]
 | x::l=>bif Nat.beq (m % 2) 1 then x::Hv (m / 2) l else Hv (m / 2) l
def LM:List Arg->List Nat
 | []=>[]
 | .s n::r=>n::LM r
 | _::r=>LM r
def SF (o:RO):List Nat:=(match o.dst with|some d=>[d]|none=>[])++(match o.gd with|some g=>[g.1]|none=>[])++LM o.az
def Uu (G:GD) (s:GI) (o:RO):RO:={ o with dead:=Hv (bif Nat.beq (s.m % 16) 15 then s.m / 16 % 65536 else s.m % 16) (SF o),pre:=Tj G.pre s.i }
def GI.op (s:GI):GI:=⟨bif Nat.beq (s.m % 16) 15 then s.m / 1048576 else s.m / 16,s.i+1,s.j⟩
def xU (G:GD):List RO->GI->List RO×GI
 | [],s=>([],s)
 | o::r,s=>(Uu G s o::(xU G r s.op).1,(xU G r s.op).2)
def xV:List Gh->RC->RC
 | [],c=>c
 | g::l,c=>.gh g (xV l c)
def Jy:List Gh->RC->RC
 | [],c=>c
 | g::l,c=>Jy l (.hg c g)
def GI.nd (s:GI):GI:=⟨s.m,s.i,s.j+1⟩
def gO (G:GD):RC->GI->RC×GI
 | .seq a b,s=>(xV (xm G.nd s.j).1 (.seq (gO G a s.nd).1 (gO G b (gO G a s.nd).2).1),(gO G b (gO G a s.nd).2).2)
 | .cond x a b,s=>(xV (xm G.nd s.j).1 (.cond x (gO G a s.nd).1 (gO G b (gO G a s.nd).2).1),(gO G b (gO G a s.nd).2).2)
 | .block id a,s=>(xV (xm G.nd s.j).1 (.block id (gO G a s.nd).1),(gO G a s.nd).2)
 | .loop a,s=>(xV (xm G.nd s.j).1 (.loop (Jy (xm G.nd s.j).2 (gO G a s.nd).1)),(gO G a s.nd).2)
 | .each g ps a b,s=>(xV (xm G.nd s.j).1 (.each g ps (gO G a s.nd).1 (Jy (xm G.nd s.j).2 (gO G b (gO G a s.nd).2).1)),(gO G b (gO G a s.nd).2).2)
 | .ops l,s=>(xV (xm G.nd s.j).1 (.ops (xU G l s.nd).1),(xU G l s.nd).2)
 | .nq l,s=>(xV (xm G.nd s.j).1 (.nq (xU G l s.nd).1),(xU G l s.nd).2)
 | .gh g c,s=>(.gh g c,s)
 | .hg c g,s=>(.hg c g,s)
 | c,s=>(xV (xm G.nd s.j).1 c,s.nd)
theorem jc (c:RC):∀l,erase (xV l c)=erase c
 | []=>rfl
 | g::l=>by simp only[xV,erase,jc c l]
theorem xJ:∀l (c:RC),erase (Jy l c)=erase c
 | [],c=>rfl
 | g::l,c=>by simp only[Jy,xJ l,erase]
theorem vE (G:GD):∀(l:List RO) s,((xU G l s).1).map RO.strip=l.map RO.strip
 | [],s=>rfl
 | o::r,s=>by simp only[xU,List.map_cons,vE G r];rfl
theorem jG (G:GD):∀(c:RC) s,erase (gO G c s).1=erase c
 | .seq a b,s=>by simp only[gO,jc,erase,jG G a,jG G b]
 | .cond x a b,s=>by simp only[gO,jc,erase,jG G a,jG G b]
 | .block id a,s=>by simp only[gO,jc,erase,jG G a]
 | .loop a,s=>by simp only[gO,jc,erase,xJ,jG G a]
 | .each g ps a b,s=>by simp only[gO,jc,erase,xJ,jG G a,jG G b]
 | .ops l,s=>by simp only[gO,jc,erase,vE]
 | .nq l,s=>by simp only[gO,jc,erase,vE]
 | .gh g c,s=>rfl
 | .hg c g,s=>rfl
 | .skip,s=>by simp only[gO,jc]
 | .ret,s=>by simp only[gO,jc]
 | .exit _,s=>by simp only[gO,jc]
theorem FK {X:CX} {dr:Bool} {ops:List Oper} {i:Nat} {o:Oper} {r:RO} (h:kL X dr ops i o=some r):r.strip=r:=by
 unfold kL at h;split at h
 .split at h
  .split at h
   .obtain⟨az,_,rfl⟩:=ζf.1 h;rfl
   .cases h
  .cases h
 .cases h
theorem u5 {X:CX} {dr:Bool} {ops:List Oper}:∀{l:List Oper} {i:Nat} {r:List RO},jt X dr ops i l=some r->r.map RO.strip=r
 | [],i,r,h=>by cases h;rfl
 | o::l,i,r,h=>by
  simp only[jt]at h;split at h
  .rename_i a b ha hb;cases h;simp only[List.map_cons,FK ha,u5 hb]
  .cases h
theorem FD {X:CX}:∀{c:Code} {ro:Bool} {r:RC},aL X ro c=some r->erase r=r:=by
 intro c
 induction c with
 | region _ ops dr=>
  intro ro r h;simp only[aL]at h;split at h
  .split at h
   .obtain⟨l,h1,rfl⟩:=ζf.1 h;simp only[erase,u5 h1]
   .cases h
  .obtain⟨l,h1,rfl⟩:=ζf.1 h;simp only[erase,u5 h1]
 | seq a b iha ihb=>
  intro ro r h;simp only[aL]at h;split at h
  .rename_i h1 h2;cases h;simp only[erase,iha h1,ihb h2]
  .cases h
 | cond c a b iha ihb=>
  intro ro r h;simp only[aL]at h;split at h
  .rename_i h1 h2;cases h;simp only[erase,iha h1,ihb h2]
  .cases h
 | block id a iha=>
  intro ro r h;simp only[aL]at h;obtain⟨l,h1,rfl⟩:=ζf.1 h;simp only[erase,iha h1]
 | loop a iha=>
  intro ro r h;simp only[aL]at h;obtain⟨l,h1,rfl⟩:=ζf.1 h;simp only[erase,iha h1]
 | rangeFunc g ps a b iha ihb=>
  intro ro r h;simp only[aL]at h;split at h
  .cases h
  .split at h
   .rename_i h1 h2;cases h;simp only[erase,iha h1,ihb h2]
   .cases h
 | _=>intro ro r h;first|cases h;rfl|(simp only[aL]at h;cases h;rfl)|(simp only[aL]at h;cases h)
def Lc (E:Env) (nm:FuncId->Option Nat) (G:FuncId->Option GD):qv:=λf=>
 (G f).bind λg=>(E.ft f).bind λfi=>(aL ⟨E,nm,fi.ntmps⟩ false fi.body).bind λc=>(fi.results.mapM (ya E)).bind λrs=>some ⟨fi.ntmps,rs,(gO g c ⟨g.m,0,0⟩).1⟩
theorem LQ {E:Env} {nm:FuncId->Option Nat} {G:FuncId->Option GD} {f:FuncId} {rf:RF} (h:Lc E nm G f=some rf):∃fi,E.ft f=some fi/\vG E nm fi rf:=by
 unfold Lc at h;obtain⟨g,_,h⟩:=ζg.1 h;obtain⟨fi,h1,h⟩:=ζg.1 h;obtain⟨c,h2,h⟩:=ζg.1 h;obtain⟨rs,h3,h⟩:=ζg.1 h;cases h;exact⟨fi,h1,by rw[h2,jG,FD h2],h3,rfl⟩
theorem yq:∀(g:FuncId) (s:Nat),some g=some s->(λn=>n) s=g:=λ_ _ h=>(Option.some.inj h).symm
def A_ (o:Option RF):RF:=o.getD ⟨0,[],.skip⟩
def tb (T:qv) (f:FuncId):RC:=(A_ (T f)).body
def tr (T:qv) (f:FuncId):List RV:=(A_ (T f)).rs
theorem PJ {o:Option RF} (h:o.isSome=true):o=some (A_ o):=by cases o with
 | none=>cases h
 | some r=>rfl
class mD (δ:Type) where
 e:δ->List V
instance U6 {α:Type} [aD α]:mD α:=⟨λx=>[enc x]⟩
instance U9:mD Unit:=⟨λ_=>[]⟩
instance U7 {α β:Type} [aD α] [mD β]:mD (α×β):=⟨λx=>enc x.1::mD.e x.2⟩
@[simp] theorem UM {α:Type} [aD α] (x:α):mD.e x=[enc x]:=rfl
@[simp] theorem UN (x:Unit):mD.e x=[]:=rfl
@[simp] theorem UL {α β:Type} [aD α] [mD β] (x:α×β):mD.e x=enc x.1::mD.e x.2:=rfl
class Fc (S:Sys) (c:bH) {δ:Type} (m:Option δ) where
 n:FuncId
 az:List V
 E:δ->List V
 sc:Bool
 F:ji S c n (λ_:Unit=>az) E (λ_=>m) sc
section
variable {S:Sys} {T:qv} {δ:Type} {m:Option δ}
theorem ji.Lz {E:δ->List V} (fn:FuncId) (az:List V) (h:Le (m.bind λr=>some (E r)) (bu S (cz S T) (pz (tr T fn)) (.rc (tb T fn),[],start (az.map .v) [])))
 (hT:(T fn).isSome=true) (hk:S.E.keep fn=false) (hn:Nat.ble az.length (A_ (T fn)).na=true)
 (l:V.bU 8 az=true) (r:∀r,V.lvl 8 (result (E r))=true) {sc:Bool} (s:sc=true->∀r,(result (E r)).scalar=true):ji S (cz S T) fn (λ_:Unit=>az) E (λ_=>m) sc where
 k:=hk
 h z:=Ut (PJ hT) (Nat.le_of_ble_eq_true hn) h
 l _:=l
 r:=r
 s:=s
abbrev Fc.NE (E:δ->List V) (fn:FuncId) (az:List V) (h:Le (m.bind λr=>some (E r)) (bu S (cz S T) (pz (tr T fn)) (.rc (tb T fn),[],start (az.map .v) [])))
 (hT:(T fn).isSome=true:=by kernel_rfl) (hk:S.E.keep fn=false:=by kernel_rfl) (hn:Nat.ble az.length (A_ (T fn)).na=true:=by kernel_rfl)
 (l:V.bU 8 az=true:=by simp) (r:∀r,V.lvl 8 (result (E r))=true:=by intro r;simp):Fc S (cz S T) m:=
 ⟨fn,az,E,false,ji.Lz fn az h hT hk hn l r λh=>nomatch h⟩
abbrev Fc.M [mD δ] (fn:FuncId) (az:List V) (h:Le (m.bind λr=>some (mD.e r)) (bu S (cz S T) (pz (tr T fn)) (.rc (tb T fn),[],start (az.map .v) [])))
 (hT:(T fn).isSome=true:=by kernel_rfl) (hk:S.E.keep fn=false:=by kernel_rfl) (hn:Nat.ble az.length (A_ (T fn)).na=true:=by kernel_rfl)
 (l:V.bU 8 az=true:=by simp) (r:∀r:δ,V.lvl 8 (result (mD.e r))=true:=by intro r;simp) (s:∀r:δ,(result (mD.e r)).scalar=true:=by intro r;kernel_rfl):Fc S (cz S T) m:=
 ⟨fn,az,mD.e,true,ji.Lz fn az h hT hk hn l r λ_=>s⟩
abbrev Fc.N [mD δ] (fn:FuncId) (az:List V) (h:Le (m.bind λr=>some (mD.e r)) (bu S (cz S T) (pz (tr T fn)) (.rc (tb T fn),[],start (az.map .v) [])))
 (hT:(T fn).isSome=true:=by kernel_rfl) (hk:S.E.keep fn=false:=by kernel_rfl) (hn:Nat.ble az.length (A_ (T fn)).na=true:=by kernel_rfl)
 (l:V.bU 8 az=true:=by simp) (r:∀r:δ,V.lvl 8 (result (mD.e r))=true:=by intro r;simp):Fc S (cz S T) m:=
 ⟨fn,az,mD.e,false,ji.Lz fn az h hT hk hn l r λh=>nomatch h⟩
end
abbrev Fc.of {S:Sys} {c:bH} {α δ:Type} {p:α->Option δ} {n:FuncId} {A:α->List V} {E:δ->List V} {b:Bool} (z:α) (F:ji S c n A E p b):Fc S c (p z):=⟨n,A z,E,b,⟨F.k,λ_=>F.h z,λ_=>F.l z,F.r,F.s⟩⟩
theorem ji.wI {S:Sys} {c:bH} {α δ:Type} {p:α->Option δ} {n:FuncId} {A:α->List V} {E:δ->List V} {b:Bool} (F:∀z,Fc S c (p z)) (i:α) (hn:∀z,(F z).n=n) (ha:∀z,(F z).az=A z) (hE:∀z,(F z).E=E) (hs:∀z,(F z).sc=b):ji S c n A E p b where
 k:=by rw[<-hn i];exact(F i).F.k
 h z:=by rw[<-hn z,<-ha z,<-hE z];exact(F z).F.h ()
 l z:=by rw[<-ha z];exact(F z).F.l ()
 r:=by rw[<-hE i];exact(F i).F.r
 s:=by rw[<-hs i,<-hE i];exact(F i).F.s
theorem ql.wI {S:Sys} {c:bH} {α δ:Type} {p:α->Option δ} {g:FuncId} {w e:List V} {A:α->List V} {R:δ->List V} {b:Bool} [i:Inhabited α] [F:∀z,Fc S c (p z)] (hn:∀z,(F z).n=g:=by intro _;kernel_rfl) (ha:∀z,(F z).az=w++A z++e:=by intro _;kernel_rfl)
 (hE:∀z,(F z).E=R:=by intro _;kernel_rfl) (hs:∀z,(F z).sc=b:=by intro _;kernel_rfl) (hd:V.bU 7 e=true:=by simp) (hw:V.bU 7 w=true:=by simp):ql S c g w e A R p b:=
 ⟨ji.wI F default hn ha hE hs,hd,hw⟩
section
variable {S:Sys} {c:bH} {β γ δ α:Type} {Q:Out×St->Option β} {e:γ->Option β} {cf:Cf}
theorem uU (n:Nat) {m:Option β} (h:Le m (bu S c Q (gY S c n cf))) (hL:fU S c n cf.1 cf.2.1 cf.2.2=some (gY S c n cf):=by kernel_rfl):Le m (bu S c Q cf):=BW hL h
theorem aT (n:Nat) {m:Option δ} [F:Fc S c m] {f:δ->Option γ} (h:∀x,m=some x->Le ((f x).bind e) (bu S c Q (nx S c n cf λp=>bY p.st p.d (.v (result (F.E x))))))
 (hL:(fC S c n cf).map (λp=>(p.k,(bf S.N p.st.g p.az).bind ov,(!p.dr||p.now||fm p.st.m p.fr [])))=some (.c,some (F.n,F.az.map .v),true):=by kernel_rfl):Le ((m.bind f).bind e) (bu S c Q cf):=yA n F.F () h hL
theorem jh (n:Nat) {m:Option δ} [F:Fc S c m] {f:δ->Option γ} (h:∀x,m=some x->Le ((f x).bind e) (bu S c Q (nx S c n cf λp=>bY p.st p.d (.v (result (F.E x))))))
 (hL:(fC S c n cf).map (λp=>(p.k,((bf S.N p.st.g p.az).bind ov).bind λq=>(mg (gK p.st.m 8) q.2).map λvs=>(q.1,vs,((!p.dr||p.now)||fm p.st.m p.fr q.2))))=some (.c,some (F.n,F.az,true)):=by kernel_rfl) (hs:F.sc=true:=by kernel_rfl):Le ((m.bind f).bind e) (bu S c Q cf):=
 RL n (sc_eq hs F.F) () h hL
where
 sc_eq {b:Bool} {fn:FuncId} {az:List V} {E:δ->List V} {m:Option δ} (h:b=true) (F:ji S c fn (λ_:Unit=>az) E (λ_=>m) b):ji S c fn (λ_:Unit=>az) E (λ_=>m) true:=h▸F
def MV (cf:Cf):RC:=match cf.1 with|.rc (.loop c)=>c|_=>.skip
def A7 (cf:Cf):Arg×List Nat×RC×RC:=match cf.1 with|.rc (.each g ps a b)=>(g,ps,a,b)|_=>(.s 0,[],.skip,.skip)
theorem cO {σ ε ρ:Type} {step:σ->Option (Fw σ ε ρ)} (n:Nat) (eσ:σ->St) (eε:ε->Nat×St) (eρ:ρ->St) {s:σ} {fx:ε->Option γ} {fr:ρ->Option γ}
 (h:∀s,Le ((step s).bind λw=>some (Fw.out eσ eε eρ w)) (bu S c some (.rc (MV (gY S c n cf)),[],eσ s)))
 (hx:∀x,Le ((fx x).bind e) (bu S c Q (.ex (eε x).1,(gY S c n cf).2.1,(eε x).2))) (hr:∀b,Le ((fr b).bind e) (Q (.ret,eρ b)))
 (hL:fU S c n cf.1 cf.2.1 cf.2.2=some (.rc (.loop (MV (gY S c n cf))),(gY S c n cf).2.1,eσ s):=by kernel_rfl):Le (((aX step s).bind (Fw.elim fx fr)).bind e) (bu S c Q cf):=
 I_ hL h hx hr
theorem iq {σ ε:Type} {step:σ->Option (Fw σ ε Empty)} (n:Nat) (eσ:σ->St) (eε:ε->Nat×St) {s:σ} {fx:ε->Option γ} {fr:Empty->Option γ}
 (h:∀s,Le ((step s).bind λw=>some (Fw.out eσ eε (λe=>Empty.elim e) w)) (bu S c some (.rc (MV (gY S c n cf)),[],eσ s)))
 (hx:∀x,Le ((fx x).bind e) (bu S c Q (.ex (eε x).1,(gY S c n cf).2.1,(eε x).2)))
 (hL:fU S c n cf.1 cf.2.1 cf.2.2=some (.rc (.loop (MV (gY S c n cf))),(gY S c n cf).2.1,eσ s):=by kernel_rfl):Le (((aX step s).bind (Fw.elim fx fr)).bind e) (bu S c Q cf):=
 I_ hL h hx λb=>Empty.elim b
theorem Dl {σ ε ρ:Type} {f:FuncId} {x y:List V} {items:List α} {eI:α->List V} {step:α->σ->Option (Fw σ ε ρ)} (n:Nat) (gt:Tb SV) (eσ:σ->Tb aN) (eε:ε->Nat×Tb aN) (eρ:ρ->Tb aN) {s:σ} {fn:σ->Option γ} {fx:ε->Option γ} {fr:ρ->Option γ}
 (hi:S.items f x y=some (items.map eI))
 (h:∀x s,Le ((step x s).bind λw=>some (Fw.tM eσ eε eρ w)) (bu S c (vB S c (A7 (gY S c n cf)).2.2.2) (.rc (A7 (gY S c n cf)).2.2.1,[],⟨uB gt (A7 (gY S c n cf)).2.1 ((eI x).map .v),eσ s,nK gt,[],true,0⟩)))
 (hn:∀s,Le ((fn s).bind e) (bu S c Q (.nx,(gY S c n cf).2.1,aP gt (eσ s)))) (hx:∀x,Le ((fx x).bind e) (bu S c Q (.ex (eε x).1,(gY S c n cf).2.1,aP gt (eε x).2))) (hr:∀b,Le ((fr b).bind e) (Q (.ret,aP gt (eρ b))))
 (hl:∀x,(eI x).length=(A7 (gY S c n cf)).2.1.length:=by intro _;kernel_rfl) (hg:oC S.N gt (A7 (gY S c n cf)).1=some (.v (.clo f x y)):=by kernel_rfl)
 (hL:fU S c n cf.1 cf.2.1 cf.2.2=some (.rc (.each (A7 (gY S c n cf)).1 (A7 (gY S c n cf)).2.1 (A7 (gY S c n cf)).2.2.1 (A7 (gY S c n cf)).2.2.2),(gY S c n cf).2.1,aP gt (eσ s)):=by kernel_rfl):Le (((lZ step items s).bind (Fw.uu fn fx fr)).bind e) (bu S c Q cf):=
 RA hL hg hi hl h hn hx hr
noncomputable def P4 (n k:Nat) (dl:List Nat) (d:Nat) (S:Sys) (c:bH) (cf:Cf) (v:SV):Cf:=jmp k [] (gY S c n cf) { (gY S c n cf).2.2 with g:=aR (uq dl (gY S c n cf).2.2.g) d v }
theorem bG [aD δ] (n k:Nat) (dl:List Nat) (d:Nat) {m:Option δ} {f:δ->Option γ} (h2:Le (m.bind λr=>bu S c Q (P4 n k dl d S c cf (cv r))) (bu S c Q cf))
 (h1:∀r,Le ((f r).bind e) (bu S c Q (P4 n k dl d S c cf (cv r)))):Le ((m.bind f).bind e) (bu S c Q cf):=Nc _ h2 h1
end
end Go.VE
namespace Go.VE
variable [aY]
instance {n:Nat}:DecidableEq (ai n Int):=λa b=>if h:a.l=b.l then .isTrue (by cases a;cases b;cases h;rfl)else .isFalse λe=>h (by rw[e])
theorem sS:∀l:List Int,fS ((l.map (cells (α:=Int))).flatten)=some l
 | []=>rfl
 | a::l=>by
  show fS (.int .i64 a::(l.map (cells (α:=Int))).flatten)=_;simp only[fS,sS l,Option.map_some]
theorem Cy (l:List Int):(l.map (cells (α:=Int))).flatten=l.map (V.int .i64):=by
 induction l with
 | nil=>rfl
 | cons a l ih=>simp only[List.map_cons,List.flatten_cons,ih];rfl
instance {n:Nat}:Key (ai n Int) where
 kk:=.ints n
 ok a:=by
  show ((a.l.map (cells (α:=Int))).flatten.length==n&&(fS (a.l.map (cells (α:=Int))).flatten).isSome)=true;rw[sS,Cy,List.length_map,a.len];simp
 eq a b:=by
  show je (a.l.map (cells (α:=Int))).flatten (b.l.map (cells (α:=Int))).flatten=_;unfold je;rw[sS,sS];simp only[a.len,b.len,if_true]
  congr 1
  rw[Bool.eq_iff_iff,beq_iff_eq,decide_eq_true_iff];exact⟨λh=>by cases a;cases b;cases h;rfl,λh=>by rw[h]⟩
def oD (n:Nat) (s:Sl Int):ai n Int:=⟨sK n s.l,by unfold sK;simp;omega⟩
theorem uG:∀l:List Int,nY (l.map (cells (α:=Int)))=some l
 | []=>rfl
 | a::l=>by
  show nY ([.int .i64 a]::l.map (cells (α:=Int)))=_;simp only[nY,uG l,Option.map_some]
theorem Mx (n:Nat) (s:Sl Int):sy n [enc s]=some (enc (oD n s)):=by
 have e:enc (oD n s)=.agg (wo n s.l):=by
  show V.agg ((oD n s).l.map (cells (α:=Int))).flatten=_;rw[Cy];rfl
 rw[e]
 cases s with
 | nil=>rfl
 | emp=>rfl
 | row l=>
  show ((nY (l.map (cells (α:=Int)))).map λl=>V.agg (wo n l))=_
  rw[uG];rfl
 | part l=>
  show ((nY (l.map (cells (α:=Int)))).map λl=>V.agg (wo n l))=_
  rw[uG];rfl
theorem IA {E:Env} {f:FuncId} {az:List V} {y:V} (hs:V.good y=true) (h:∃n H',run E n (.fn f) az []=some (y,H')):uK E f az y:=by
 obtain⟨n,H',h⟩:=h;exact⟨n,y,H',λ_=>False,h,.same _ hs,λ_ h=>h.elim,⟨λ_ _ _ h=>h.elim⟩⟩
theorem Kq {E:Env} {f:FuncId} {az:List V} {y:V} (h1:E.ft f=none) (h2:E.sort f=false) (h3:E.known f az=some y):run E 1 (.fn f) az []=some (y,[]):=by
 simp only[run,h1,h2,h3];rfl
theorem NM {E:Env} {f n:Nat} (h1:E.ft f=none) (h2:E.sort f=false) (h3:∀az,E.known f az=sy n az) (s:Sl Int):uK E f [enc s] (enc (oD n s)):=
 IA (gP _) ⟨1,[],Kq h1 h2 (by rw[h3,Mx])⟩
end Go.VE
namespace Go.VE
variable [aY]
def yE (m:Tb aN):SV->Bool
 | .v _|.agg _=>true
 | x=>jx m x
def lz:SV->List SV
 | .v x=>x.cells.map .v
 | .agg l=>l
 | x=>[x]
def yB (cells:List SV):List (Nat×Nat)->List SV->Option (List SV)
 | [],[]=>some cells
 | (off,size)::pl,v::vs=>if(lz v).length=size/\off+(lz v).length<=cells.length then yB (cells.take off++lz v++cells.drop (off+(lz v).length)) pl vs else none
 | _,_=>none
theorem IU (cells:List SV):yB cells [] []=some cells:=rfl
theorem AS (cells:List SV) (off size:Nat) (pl:List (Nat×Nat)) (v:SV) (vs:List SV):yB cells ((off,size)::pl) (v::vs) =
 if(lz v).length=size/\off+(lz v).length<=cells.length then yB (cells.take off++lz v++cells.drop (off+(lz v).length)) pl vs else none:=rfl
theorem KO (x:V):lz (.v x)=x.cells.map .v:=rfl
theorem HJ (d:Nat):lz (.own d)=[.own d]:=rfl
theorem JV (d:Nat):lz (.mp d)=[.mp d]:=rfl
theorem GJ (d o:Nat):lz (.ptr d o)=[.ptr d o]:=rfl
theorem LA {m:Tb aN} {v:SV} (h:yE m v=true):u_ m v=some (lz v):=by
 cases v <;> first|rfl|(unfold u_;exact if_pos h)|(simp[yE,jx]at h)
theorem Gz {m:Tb aN}:∀{pl:List (Nat×Nat)} {vs cells l:List SV},vs.all (yE m)=true->yB cells pl vs=some l->qw m cells pl vs=some l
 | [],[],_,_,_,h=>h
 | [],_::_,_,_,_,h=>by cases h
 | _::_,[],_,_,_,h=>by cases h
 | (off,size)::pl,v::vs,cells,l,ha,h=>by
  rw[List.all_cons,ζh]at ha;rw[AS]at h;show (match u_ m v with|some c=>if c.length=size/\off+c.length<=cells.length then qw m (cells.take off++c++cells.drop (off+c.length)) pl vs else none|none=>none)=some l
  rw[LA ha.1];simp only;split at h
  .rename_i hc;rw[if_pos hc];exact Gz ha.2 h
  .cases h
def BS:SV->Bool
 | .v x=>x.one
 | .agg _=>false
 | _=>true
theorem Jh (x:V):BS (.v x)=x.one:=rfl
theorem Ey (d:Nat):BS (.own d)=true:=rfl
theorem Gv (d:Nat):BS (.mp d)=true:=rfl
theorem DP (d o:Nat):BS (.ptr d o)=true:=rfl
theorem Gn {m:Tb aN}:∀{l:List SV},l.all BS=true->l.all (yE m)=true->l.all (uz m)=true
 | [],_,_=>rfl
 | x::l,h,k=>by
  rw[List.all_cons,ζh]at h k ⊢;refine⟨?_,Gn h.2 k.2⟩;cases x <;> first|exact h.1|exact k.1|(have:=h.1;cases this)
section
variable {S:Sys} {c:bH} {β γ δ α:Type} {Q:Out×St->Option β} {e:γ->Option β} {cf:Cf}
theorem Jl {N:Nat->FuncId} {m:Tb aN} {z:List V} {pl:List (Nat×Nat)} {svs l:List SV} (ha:(cZ svs).isNone=true) (h:qw m (z.map .v) pl svs=some l):iF N m (.build z pl) svs=some (.agg l):=by
 unfold iF
 cases hv:cZ svs with
 | some x=>rw[hv]at ha;cases ha
 | none=>
  have:ua N m (.build z pl) svs=(qw m (z.map .v) pl svs).map .agg:=by
   unfold ua;split <;> first|contradiction|(rename_i e _;cases e;rfl)|simp_all
  simp only[this,h,Option.map_some]
theorem SZ (n:Nat) (svs l:List SV) (z:List V) (pl:List (Nat×Nat)) {m:Option β} (hf:yB (z.map .v) pl svs=some l) (h:Le m (bu S c Q (nx S c n cf λp=>bY p.st p.d (.agg l))))
 (hL:(fC S c n cf).map (λp=>(p.k,bf S.N p.st.g p.az,(cZ svs).isNone,svs.all (yE p.st.m)))=some (.p (.build z pl),some svs,true,true):=by kernel_rfl):Le m (bu S c Q cf):=by
 obtain⟨p,hp,hv⟩:=dZ hL;simp only[ζc]at hv;refine sF hp ?_ h;rw[hv.1];exact wX hv.2.1 rfl (Jl hv.2.2.1 (Gz hv.2.2.2 hf))
theorem QX (n u o:Nat) (l:List SV) {m:Option β} (ha:l.all BS=true) (h:Le m (bu S c Q (nx S c n cf (NC u o l.length l))))
 (hL:(fC S c n cf).map (λp=>(p.k,bf S.N p.st.g p.az,(!p.dr||p.now),l.all (yE p.st.m),match an p.st.m u with|some (.box cs)=>Nat.ble (o+l.length) cs.length|_=>false))=some (.l (.store l.length),some [.ptr u o,.agg l],true,true,true):=by kernel_rfl):Le m (bu S c Q cf):=by
 obtain⟨p,hp,hv⟩:=dZ hL;simp only[ζc]at hv;refine sF hp ?_ h;obtain⟨h1,h2,h3,h5,h4⟩:=hv;have hal:=Gn ha h5;split at h4
 .rename_i cs hcs;have h9:=Nat.le_of_ble_eq_true h4;rw[h1,s_,h2];simp only[ζb,h3,if_true,mz,hcs,putCells,hal,h9,and_self,Option.map_some,NC]
 .cases h4
end
section
variable {S:Sys} {c:bH} {β γ δ:Type} {Q:Out×St->Option β} {e:γ->Option β} {cf:Cf} {κ ν:Type} [aD κ] [DecidableEq κ] [Key κ] [aD ν]
structure xw (κ ν:Type) where
 o:Option (Mo κ ν)
 deriving Inhabited
def Kr (m:xw κ ν):V:=match m.o with|none=>.en|some l=>.fmap (jA l)
theorem Kd (m:Mo κ ν):V.qe (jA m)=true:=by
 induction m with
 | nil=>rfl
 | cons x r ih=>show V.qe ((enc x.1,enc x.2)::jA r)=true;simp only[V.qe,gP,ih,Bool.and_self]
instance:aD (xw κ ν) where
 cells m:=[Kr m]
 agg:=false
 size:=1
 len _:=rfl
 good m:=by
  unfold Kr;split
  .rfl
  .simp only[V.bD,V.good,Kd,Bool.and_self]
 one m:=by unfold Kr;split <;> rfl
 plain _:=rfl
theorem LF {n:Nat} [Lv n κ] [Lv n ν] (m:Mo κ ν):V.mY (n+1) (jA m)=true:=by
 induction m with
 | nil=>simp[jA,V.mY]
 | cons x r ih=>show V.mY (n+1) ((enc x.1,enc x.2)::jA r)=true;simp only[V.mY,Gt,ih,Bool.and_self]
instance {n:Nat} [Lv n κ] [Lv n ν]:Lv (n+2) (xw κ ν):=⟨λm=>by
 show V.bU (n+2) [Kr m]=true;rw[fB,gQ,Bool.and_true];unfold Kr;split
 .rfl
 .simp only[V.lvl,LF]⟩
theorem Ox {n:Nat} [Lv n κ] [Lv n ν] (m:xw κ ν):V.lvl (n+2) (enc m)=true:=by
 have h:=Lv.lv (n:=n+2) m;rw[nG rfl,fB,gQ,Bool.and_true]at h;exact h
theorem Bq (m:xw κ ν):V.one (enc m)=true:=by obtain⟨o⟩:=m;cases o <;> rfl
def lV (m:xw κ ν):Mo κ ν:=m.o.getD []
theorem LB (m:xw κ ν):ko [] (enc m)=some (jA (lV m)):=by
 obtain⟨o⟩:=m;cases o <;> rfl
theorem DA (m:xw κ ν) (k:κ) (z:ν) (ok:Bool):dG [] (.lookup (Key.kk κ) (enc z) ok) [enc m,enc k]=some (if ok then .tup [enc (nh (lV m) k z),.bool (zW (lV m) k)]else enc (nh (lV m) k z)):=by
 simp only[dG,LB,Key.ok,if_true];have:=Bx k (lV m) 0;simp only[nh,zW]
 cases hf:fK (enc k) (jA (lV m)) 0 with
 | none=>rw[hf]at this;cases this
 | some r=>
  rw[hf]at this;simp only[Option.map_some,ζa]at this
  cases r with
  | none=>
   cases hm:mq k (lV m)with
   | none=>rfl
   | some w=>rw[hm]at this;cases this
  | some w=>
   cases hm:mq k (lV m)with
   | none=>rw[hm]at this;cases this
   | some w2=>
    rw[hm]at this;simp only[Option.map_some,ζa]at this;simp only[this];rfl
theorem QY (n:Nat) (mp:xw κ ν) (k:κ) (z:ν) {m:Option β} (h:Le m (bu S c Q (nx S c n cf λp=>bY p.st p.d (cv (nh (lV mp) k z)))))
 (hL:(fC S c n cf).map (λp=>(p.k,bf S.N p.st.g p.az))=some (.r (.lookup (Key.kk κ) (enc z) false),some [cv mp,cv k]):=by kernel_rfl):Le m (bu S c Q cf):=by
 obtain⟨p,hp,hv⟩:=dZ hL;simp only[ζc]at hv;refine sF hp ?_ h;rw[hv.1,vK,hv.2];simp only[ζb,dF,Bool.or_true,if_true,kF,DA,Option.map_some];rfl
theorem Oz (n:Nat) (mp:xw κ ν) (k:κ) (z:ν) {m:Option β} (h:Le m (bu S c Q (nx S c n cf λp=>bY p.st p.d (.v (.tup [enc (nh (lV mp) k z),.bool (zW (lV mp) k)])))))
 (hL:(fC S c n cf).map (λp=>(p.k,bf S.N p.st.g p.az))=some (.r (.lookup (Key.kk κ) (enc z) true),some [cv mp,cv k]):=by kernel_rfl):Le m (bu S c Q cf):=by
 obtain⟨p,hp,hv⟩:=dZ hL;simp only[ζc]at hv;refine sF hp ?_ h;rw[hv.1,vK,hv.2];simp only[ζb,dF,Bool.or_true,if_true,kF,DA,Option.map_some]
end
end Go.VE
namespace Go.VE
variable [aY]
theorem ji.scalar {S:Sys} {c:bH} {α δ:Type} {fn:FuncId} {A:α->List V} {E:δ->List V} {p:α->Option δ} {b:Bool} (F:ji S c fn A E p b) (h:∀r,(result (E r)).scalar=true):ji S c fn A E p true:=⟨F.k,F.h,F.l,F.r,λ_=>h⟩
theorem yW:∀l:List Int,V.bP (l.map (cells (α:=Int))).flatten=true
 | []=>rfl
 | x::l=>by
  show V.bP (.int .i64 x::(l.map (cells (α:=Int))).flatten)=true;simp only[V.bP,V.scalar,yW l,Bool.and_self]
theorem Hy {n:Nat} (a:ai n Int):(result [enc a]).scalar=true:=yW a.l
end Go.VE
namespace Go.VE
variable [aY]
section
variable {S:Sys} {c:bH} {β γ δ α:Type} [aD α] {Q:Out×St->Option β} {e:γ->Option β} {cf:Cf}
theorem OF (m:Tb aN) (u:Nat) (x:α) (ha:aD.agg α=true) (h:an m u=some (bx x)):kF m (.load (aD.size α) true) [.ptr u 0]=some (cv x):=by
 have hl:((cells x).map SV.v).length=aD.size α:=by rw[List.length_map,dN]
 simp only[kF,h,List.drop_zero];rw[List.take_of_length_le (by rw[hl];exact Nat.le_refl _)]
 unfold uy;rw[if_pos hl,if_pos rfl,pn];simp only;rw[<-rz ha]
theorem Rl (n u:Nat) (x:α) (ha:aD.agg α=true) {m:Option β} (h:Le m (bu S c Q (nx S c n cf λp=>bY p.st p.d (cv x))))
 (hL:(fC S c n cf).map (λp=>(p.k,bf S.N p.st.g p.az,(!p.dr||p.now||dF p.fr [.ptr u 0]),an p.st.m u))=some (.r (.load (aD.size α) true),some [.ptr u 0],true,some (bx x)):=by kernel_rfl):Le m (bu S c Q cf):=by
 obtain⟨p,hp,hv⟩:=dZ hL;simp only[ζc]at hv;obtain⟨h1,h2,h3,h4⟩:=hv;refine sF hp ?_ h;rw[h1,vK,h2];simp only[ζb,h3,if_true,OF _ u x ha h4]
theorem UD {N:Nat} (a:ai N α) (i:Int) {x:α} (hx:a.at i=some x):(cut (cells a) (i.toNat*aD.size α) (aD.size α)).bind (mk (aD.agg α))=some (enc x):=by
 obtain⟨r,hr⟩:=vh hx;unfold pa at hr;have hl:=dN x;unfold cut;dsimp only;rw[hr,List.take_append_of_le_length (by rw[hl];exact Nat.le_refl _),List.take_of_length_le (by rw[hl];exact Nat.le_refl _),if_pos hl,ζb]
 cases ha:aD.agg α with
 | true=>rw[rz ha];rfl
 | false=>
  rw[nG ha];rfl
theorem NB (n:Nat) (k:IntKind) {N:Nat} {a:ai N α} {i:Int} {f:α->Option γ} (h:∀x,a.at i=some x->Le ((f x).bind e) (bu S c Q (nx S c n cf λp=>bY p.st p.d (cv x))))
 (hL:(fC S c n cf).map (λp=>(p.k,bf S.N p.st.g p.az))=some (.p (.idxArr N (aD.size α) (aD.agg α)),some [cv a,.v (.int k i)]):=by kernel_rfl):Le (((a.at i).bind f).bind e) (bu S c Q cf):=by
 obtain⟨p,hp,hv⟩:=dZ hL;simp only[ζc]at hv;refine tP hp ?_ h;intro y hy;obtain⟨x,hx,hy⟩:=ζg.1 hy;cases hy;obtain⟨g1,g2,_⟩:=ai.sP hx;rw[hv.1];refine wX hv.2 rfl ?_;rw[tH];have:ak S.N (.idxArr N (aD.size α) (aD.agg α)) [enc a,.int k i]=some (enc x):=by
  show (if 0<=i/\i<(N:Int)then(cut (cells a) (i.toNat*aD.size α) (aD.size α)).bind (mk (aD.agg α))else none)=_;rw[if_pos ⟨g1,by omega⟩,UD a i hx]
 rw[this];rfl
theorem rD {ω:Type} [aD ω] (n u:Nat) {N:Nat} (a:ai N α) (i:Int) (o:Nat) (x:α) (hx:a.at i=some x) (y:α) (w:ω) (hy:cells y=(cells x).take o++cells w++(cells x).drop (o+aD.size ω)) {m:Option β} (h:Le m (bu S c Q (nx S c n cf λp=>bY { p.st with m:=aR p.st.m u (bx (a.set i y)) } p.d (.v .undef))))
 (hL:(fC S c n cf).map (λp=>(p.k,bf S.N p.st.g p.az,an p.st.m u,(!p.dr||p.now),Nat.ble (o+aD.size ω) (aD.size α)))=some (.l (.store (aD.size ω)),some [.ptr u (i.toNat*aD.size α+o),cv w],some (bx a),true,true):=by kernel_rfl):Le m (bu S c Q cf):=by
 obtain⟨p,hp,hv'⟩:=dZ hL;simp only[ζc]at hv';obtain⟨h1,h2⟩:=gN hp;obtain⟨dr,fr,d,gd,now,k',az,dd,l,fs,st⟩:=p;obtain⟨rfl,h3,h4,h5,h8⟩:=hv';exact M3 n dr fr (⟨d,gd,now,.l (.store (aD.size ω)),az,dd,[]⟩::l) fs st u a i o x hx y (enc w) (by rw[jd];exact hy) rfl (by(try dsimp only at *);simp only[h1,h2,h3,h4,h5,h8,jd,dN,od]) (by
  simp only[nx,hp]at h;exact h)
end
end Go.VE
namespace Go.VE
variable [aY]
theorem M5 {n:Int} (h0:0<=n) (h:n<=4611686018427387904):IntKind.wrap .i64 n=n:=by
 simp[IntKind.wrap,IntKind.bits,IntKind.signed];omega
namespace catX
instance {n:Nat}:OfNat Arg n:=⟨.s n⟩
def ln:K:=.p .lenSl
def ix:K:=.p (.idxS 1)
def bI (o:BinOp):K:=.p (.bin (some .int) none o)
def ld:K:=.r (.load 1 false)
def g1:List RO:=[o1 4 (.k (.aG)) []]
def g2:List RO:=[o1 5 1 [],o2 6 (bI .lss) [5,.k (.int .i64 0)] []]
def g3:List RO:=[o2 7 (.p (.bad)) [] [],⟨none,none,false,.p .bad,[],[],[]⟩]
def g4:List RO:=[o1 8 1 [],o1 9 0 [],o2 10 (.p (.capSl)) [9] [],o1 11 0 [],o2 12 ln [11] [],o2 13 (bI .sub) [10,12] [],o2 14 (bI .sub) [8,13] [],o1 1 14 []]
def g5:List RO:=[o1 15 1 [],o2 16 (bI .gtr) [15,.k (.int .i64 0)] []]
def g6:List RO:=[o1 17 0 [],o1 18 0 [],o2 19 (.p (.capSl)) [18] [],o2 20 (.p (.slice 1 false true)) [17,19] [],o1 21 1 [],o2 22 (.l (.appMk 1 24 [.aG])) [20,21] [],o1 23 0 [],o2 24 ln [23] [],o2 25 (.p (.slice 1 false true)) [22,24] [],o1 0 25 []]
def g7:List RO:=[o1 26 0 [],o1 4 26 []]
def grow:RC:=.seq (.ops g1) (.seq (.seq (.ops g2) (.cond (.s 6) (.ops g3) (.skip))) (.seq (.seq (.ops g4) (.seq (.ops g5) (.cond (.s 16) (.ops g6) (.skip)))) (.seq (.ops g7) (.ret))))
section
variable {E:Env} {N:Nat->FuncId} {t:Nat}
theorem Od (ht:t<=2147483648):∃F',Ex E N grow [.aG,.int .i64 t] [] .ret F' (if t=0 then []else [.row 1 (List.replicate t [.aG])])/\get F' 4=if t=0 then .aG else .hsl 0 1 0 0:=by
 have e1:∀call,bF E N call none g1 [.aG,.int .i64 t] []=some (set [.aG,.int .i64 t] 4 .aG,[]):=λcall=>vp (v:=.aG) rfl (by simp[aF,aA,ak]) cH
 have k0:get (set [V.aG,.int .i64 t] 4 .aG) 0=.aG:=rfl;have k1:get (set [V.aG,.int .i64 t] 4 .aG) 1=.int .i64 t:=rfl;generalize set [V.aG,.int .i64 t] 4 .aG=F0 at *;have hw:IntKind.wrap .i64 ((t:Int)-0)=t:=by rw[Int.sub_zero];exact M5 (by omega) (by omega)
 have hw0:IntKind.wrap .i64 ((0:Int)-0)=0:=by decide
 have e2:∃F1,(∀call,bF E N call none g2 F0 []=some (F1,[]))/\get F1 6=.bool false/\get F1 0=.aG/\get F1 1=.int .i64 t:=by
  refine⟨_,λcall=>vp (v:=.int .i64 t) rfl ?_ <| vp (v:=.bool false) rfl ?_ cH,?_,?_,?_⟩
  .simp[aF,aA,ak,k1]
  .simp[aF,aA,ak,ax,bI,fG,lK]
  all_goals simp[ax,k0,k1]
 obtain⟨F1,a1,a2,a3,a4⟩:=e2;have e4:∃F2,(∀call,bF E N call none g4 F1 []=some (F2,[]))/\get F2 0=.aG/\get F2 1=.int .i64 t:=by
  refine⟨_,λcall=>vp (v:=.int .i64 t) rfl ?_ <| vp (v:=.aG) rfl ?_ <| vp (v:=.int .i64 0) rfl ?_ <| vp (v:=.aG) rfl ?_ <| vp (v:=.int .i64 0) rfl ?_ <| vp (v:=.int .i64 0) rfl ?_ <| vp (v:=.int .i64 t) rfl ?_ <| vp (v:=.int .i64 t) rfl ?_ cH,?_,?_⟩
  .simp[aF,aA,ak,a4]
  .simp[aF,aA,ak,ax,a3]
  .simp[aF,aA,ak,ax,DR]
  .simp[aF,aA,ak,ax,a3]
  .simp[aF,aA,ak,ax,ln,lE]
  .simp only[aF,List.map_cons,List.map_nil,aA,ax,aC,Nat.reduceEqDiff,if_true,if_false,ak,bI,fG,hw0];rfl
  .simp only[aF,List.map_cons,List.map_nil,aA,ax,aC,Nat.reduceEqDiff,if_true,if_false,ak,bI,fG,hw];rfl
  .simp[aF,aA,ak,ax]
  all_goals simp[ax,a3]
 obtain⟨F2,b1,b2,b3⟩:=e4;have e5:∃F3,(∀call,bF E N call none g5 F2 []=some (F3,[]))/\get F3 16=.bool (decide (t>0))/\get F3 0=.aG/\get F3 1=.int .i64 t:=by
  refine⟨_,λcall=>vp (v:=.int .i64 t) rfl ?_ <| vp (v:=.bool (decide (t>0))) rfl ?_ cH,?_,?_,?_⟩
  .simp[aF,aA,ak,b3]
  .simp[aF,aA,ak,ax,bI,fG,lK]
  all_goals simp[ax,b2,b3]
 obtain⟨F3,c1,c2,c3,c4⟩:=e5;have hc:Ex E N (.seq (.ops g2) (.cond (.s 6) (.ops g3) (.skip))) F0 [] .norm F1 []:=Ex.seq (Ex.bS a1) (Ex.nv a2 Ex.skip);have e7:∀(F:Frame) (H:aq),∃F',(∀call,bF E N call none g7 F H=some (F',H))/\get F' 4=get F 0:=λF H=>
  ⟨_,λcall=>vp (v:=get F 0) rfl (by simp[aF,aA,ak]) <| vp (v:=get F 0) rfl (by simp[aF,aA,ak,ax]) cH,by simp[ax]⟩
 by_cases h0:t=0
 .subst h0;obtain⟨F5,d1,d2⟩:=e7 F3 [];refine⟨F5,?_,by rw[d2,c3];rfl⟩
  exact Ex.seq (Ex.bS e1) (Ex.seq hc (Ex.seq (Ex.seq (Ex.bS b1) (Ex.seq (Ex.bS c1) (Ex.nv c2 Ex.skip))) (Ex.seq (Ex.bS d1) Ex.ret)))
 .have hpos:0<t:=by omega
  have e6:∃F4,(∀call,bF E N call none g6 F3 []=some (F4,[.row 1 (List.replicate t [.aG])]))/\get F4 0=.hsl 0 1 0 0:=by
   refine⟨_,λcall=>vp (v:=.aG) rfl ?_ <| vp (v:=.aG) rfl ?_ <| vp (v:=.int .i64 0) rfl ?_ <| vp (v:=.aG) rfl ?_ <| vp (v:=.int .i64 t) rfl ?_ <| h_ (v:=.hsl 0 1 0 t) (H1:=[.row 1 (List.replicate t [.aG])]) rfl ?_ <| vp (v:=.aG) rfl ?_ <| vp (v:=.int .i64 0) rfl ?_ <| vp (v:=.hsl 0 1 0 0) rfl ?_ <| vp (v:=.hsl 0 1 0 0) rfl ?_ cH,?_⟩
   .simp[aF,aA,ak,c3]
   .simp[aF,aA,ak,ax,c3]
   .simp[aF,aA,ak,ax,DR]
   .simp[aF,aA,ak,ax,jy,fI,cD]
   .simp[aF,aA,ak,ax,c4]
   .simp only[aF,List.map_cons,List.map_nil,aA,ax,aC,Nat.reduceEqDiff,if_true,if_false,dK,mkApp];rw[if_neg (by omega),if_pos ⟨by omega,by omega,by omega,by omega⟩];simp
   .simp[aF,aA,ak,ax,c3]
   .simp[aF,aA,ak,ax,ln,lE]
   .simp[aF,aA,ak,ax,jy,fI,cD]
   .simp[aF,aA,ak,ax]
   .simp[ax]
  obtain⟨F4,q1,q2⟩:=e6;obtain⟨F5,d1,d2⟩:=e7 F4 [.row 1 (List.replicate t [.aG])];rw[if_neg h0,if_neg h0];refine⟨F5,?_,by rw[d2,q2]⟩
  exact Ex.seq (Ex.bS e1) (Ex.seq hc (Ex.seq (Ex.seq (Ex.bS b1) (Ex.seq (Ex.bS c1) (Ex.kP (by show get F3 16=_;rw[c2,decide_eq_true hpos]) (Ex.bS q1)))) (Ex.seq (Ex.bS d1) Ex.ret)))
end
end catX
end Go.VE
namespace Go.VE
variable [aY]
def xR {α:Type} (s:Sl (Sl α)):Sl α:=if(s.l.flatMap Sl.l).length=0 then .nil else .row (s.l.flatMap Sl.l)
namespace catX
def r1:List RO:=[o1 2 (.k (.aG)) []]
def r2:List RO:=[o1 3 (.k (.int .i64 0)) []]
def r3:List RO:=[o1 9 0 [],o2 10 ln [9] [],o1 11 (.k (.int .i64 0)) []]
def r4:List RO:=[o2 12 (bI .lss) [11,10] []]
def r5:List RO:=[o2 13 ix [9,11] [],o2 14 ld [13] [],o1 5 14 []]
def r6:List RO:=[o1 15 3 [],o1 16 5 [],o2 17 ln [16] [],o2 18 (bI .add) [15,17] [],o1 3 18 []]
def r7:List RO:=[o1 19 3 [],o2 20 (bI .lss) [19,.k (.int .i64 0)] []]
def r8:List RO:=[o2 21 (.p (.bad)) [] [],⟨none,none,false,.p .bad,[],[],[]⟩]
def r9:List RO:=[o2 22 (bI .add) [11,.k (.int .i64 1)] [],o1 11 22 []]
def L9:RC:=.seq (.ops r4) (.seq (.cond (.s 12) (.skip) (.exit 0)) (.seq (.block 1 (.seq (.ops r5) (.seq (.ops r6) (.seq (.ops r7) (.cond (.s 20) (.ops r8) (.skip)))))) (.ops r9)))
def AM (gid:Nat):List RO:=[o1 23 3 [],o2 24 .c [.f gid,.k (.aG),23] [],o1 6 24 []]
def Cl:List RO:=[o1 25 0 [],o2 26 ln [25] [],o1 27 (.k (.int .i64 0)) []]
def Ce:List RO:=[o2 28 (bI .lss) [27,26] []]
def CI:List RO:=[o2 29 ix [25,27] [],o2 30 ld [29] [],o1 8 30 []]
def Bg:List RO:=[o1 31 6 [],o1 32 8 [],o2 33 (.l (.append 1)) [31,32] [],o1 6 33 []]
def Cw:List RO:=[o2 34 (bI .add) [27,.k (.int .i64 1)] [],o1 27 34 []]
def T6:RC:=.seq (.ops Ce) (.seq (.cond (.s 28) (.skip) (.exit 2)) (.seq (.block 3 (.seq (.ops CI) (.ops Bg))) (.ops Cw)))
def B1:List RO:=[o1 35 6 [],o1 2 35 []]
def cat (gid:Nat):RC:=.seq (.ops r1) (.seq (.ops r2) (.seq (.seq (.ops r3) (.block 0 (.loop L9))) (.seq (.ops (AM gid)) (.seq (.seq (.ops Cl) (.block 2 (.loop T6))) (.seq (.ops B1) (.ret))))))
section
variable {E:Env} {N:Nat->FuncId} {F:Frame} {H:aq} {α:Type} [aD α] {s:Sl (Sl α)} {i:Nat}
theorem el {u:Sl α} (h:s.l[i]? = some u):jK 1 (aZ s) (i:Int)=some (.fptr [aZ u]):=by
 have:=BI (N:=λn=>n) s .i64 (i:Int) 1 rfl
 simp only[ak]at this;rw[this,show idx s (i:Int)=some u from by unfold idx;rw[if_pos (by omega)];exact h];rfl
theorem Up (s:Sl α):lE (aZ s)=some (.int .i64 s.l.length):=by
 have:=vW (N:=λn=>n) s;simpa only[ak]using this
theorem y3:(get F 0=aZ s->∃F',(∀call,bF E N call none r3 F H=some (F',H))/\get F' 9=aZ s/\get F' 10=.int .i64 s.l.length/\get F' 11=.int .i64 0/\∀j,j<9->get F' j=get F j) /\
 (get F 0=aZ s->∃F',(∀call,bF E N call none Cl F H=some (F',H))/\get F' 25=aZ s/\get F' 26=.int .i64 s.l.length/\get F' 27=.int .i64 0/\∀j,j<9->get F' j=get F j):=by
 have h:=Up s;refine⟨λf0=>⟨_,λcall=>vp (v:=aZ s) rfl ?_ <| vp (v:=.int .i64 s.l.length) rfl ?_ <| vp (v:=.int .i64 0) rfl ?_ cH,?_,?_,?_,?_⟩,λf0=>⟨_,λcall=>vp (v:=aZ s) rfl ?_ <| vp (v:=.int .i64 s.l.length) rfl ?_ <| vp (v:=.int .i64 0) rfl ?_ cH,?_,?_,?_,?_⟩⟩ <;>
 first
 | (simp[aF,aA,ak,f0];done)
 | (simp only[aF,List.map_cons,List.map_nil,aA,ax,aC,Nat.reduceEqDiff,if_true,if_false,ak,ln,h];rfl)
 | (simp[aF,aA,ak,ax];done)
 | (simp[ax];done)
 | (intro j hj;simp only[ax,aC];repeat (rw[if_neg (by omega)]))
theorem y4 {n:Nat}:(get F 11=.int .i64 i->get F 10=.int .i64 n->∃F',(∀call,bF E N call none r4 F H=some (F',H))/\get F' 12=.bool (decide (i<n))/\∀j,j<12->get F' j=get F j) /\
 (get F 27=.int .i64 i->get F 26=.int .i64 n->∃F',(∀call,bF E N call none Ce F H=some (F',H))/\get F' 28=.bool (decide (i<n))/\∀j,j<28->get F' j=get F j):=by
 refine⟨λf f'=>⟨_,λcall=>vp (v:=.bool (decide (i<n))) rfl ?_ cH,?_,?_⟩,λf f'=>⟨_,λcall=>vp (v:=.bool (decide (i<n))) rfl ?_ cH,?_,?_⟩⟩ <;>
 first
 | (simp[aF,aA,ak,ax,bI,fG,lK,f,f'];done)
 | (simp[ax];done)
 | (intro j hj;simp only[ax,aC];repeat (rw[if_neg (by omega)]))
theorem y5 {u:Sl α} (h:s.l[i]? = some u):(get F 9=aZ s->get F 11=.int .i64 i->∃F',(∀call,bF E N call none r5 F H=some (F',H))/\get F' 5=aZ u/\∀j,j<12->j≠5->get F' j=get F j) /\
 (get F 25=aZ s->get F 27=.int .i64 i->∃F',(∀call,bF E N call none CI F H=some (F',H))/\get F' 8=aZ u/\∀j,j<28->j≠8->get F' j=get F j):=by
 have e:=el h;have e2:dG H (.load 1 false) [.fptr [aZ u]]=some (aZ u):=by simp[dG,cS,cut,mk]
 refine⟨λf f'=>⟨_,λcall=>vp (v:=.fptr [aZ u]) rfl ?_ <| vp (v:=aZ u) rfl ?_ <| vp (v:=aZ u) rfl ?_ cH,?_,?_⟩,λf f'=>⟨_,λcall=>vp (v:=.fptr [aZ u]) rfl ?_ <| vp (v:=aZ u) rfl ?_ <| vp (v:=aZ u) rfl ?_ cH,?_,?_⟩⟩ <;>
 first
 | (simp only[aF,List.map_cons,List.map_nil,aA,ax,aC,Nat.reduceEqDiff,if_true,if_false,ak,ix,f,f',e,Option.map_some];done)
 | (simp only[aF,List.map_cons,List.map_nil,aA,ax,aC,Nat.reduceEqDiff,if_true,if_false,ld];rw[e2];rfl)
 | (simp[aF,aA,ak,ax];done)
 | (simp[ax];done)
 | (intro j hj h5;simp only[ax,aC];rw[if_neg (Ne.symm h5)];repeat (rw[if_neg (by omega)]))
theorem y6 {u:Sl α} {t:Nat} (f3:get F 3=.int .i64 t) (f5:get F 5=aZ u) (ht:t+u.l.length<=2147483648):∃F',(∀call,bF E N call none r6 F H=some (F',H))/\get F' 3=.int .i64 ((t+u.l.length:Nat):Int)/\∀j,j<12->j≠3->get F' j=get F j:=by
 have h:=Up u;have hw:IntKind.wrap .i64 ((t:Int)+(u.l.length:Int))=((t+u.l.length:Nat):Int):=by rw[M5 (by omega) (by omega)];simp
 refine⟨_,λcall=>vp (v:=.int .i64 t) rfl ?_ <| vp (v:=aZ u) rfl ?_ <| vp (v:=.int .i64 u.l.length) rfl ?_ <| vp (v:=.int .i64 ((t+u.l.length:Nat):Int)) rfl ?_ <| vp (v:=.int .i64 ((t+u.l.length:Nat):Int)) rfl ?_ cH,?_,?_⟩
 .simp[aF,aA,ak,f3]
 .simp[aF,aA,ak,ax,f5]
 .simp only[aF,List.map_cons,List.map_nil,aA,ax,aC,Nat.reduceEqDiff,if_true,if_false,ak,ln,h];rfl
 .simp only[aF,List.map_cons,List.map_nil,aA,ax,aC,Nat.reduceEqDiff,if_true,if_false,ak,bI,fG,hw];rfl
 .simp[aF,aA,ak,ax]
 .simp[ax]
 .intro j hj h3;simp only[ax,aC];rw[if_neg (Ne.symm h3)]
  repeat (rw[if_neg (by omega)])
theorem y7 {t:Nat} (f3:get F 3=.int .i64 t):∃F',(∀call,bF E N call none r7 F H=some (F',H))/\get F' 20=.bool false/\∀j,j<12->get F' j=get F j:=by
 refine⟨_,λcall=>vp (v:=.int .i64 t) rfl ?_ <| vp (v:=.bool false) rfl ?_ cH,?_,?_⟩
 .simp[aF,aA,ak,f3]
 .simp[aF,aA,ak,ax,bI,fG,lK]
 .simp[ax]
 .intro j hj;simp only[ax,aC]
  repeat (rw[if_neg (by omega)])
theorem y9 (hi:i<=2147483648):(get F 11=.int .i64 i->∃F',(∀call,bF E N call none r9 F H=some (F',H))/\get F' 11=.int .i64 ((i+1:Nat):Int)/\∀j,j<11->get F' j=get F j) /\
 (get F 27=.int .i64 i->∃F',(∀call,bF E N call none Cw F H=some (F',H))/\get F' 27=.int .i64 ((i+1:Nat):Int)/\∀j,j<27->get F' j=get F j):=by
 have hb:=vw hi;refine⟨λf=>⟨_,λcall=>vp (v:=.int .i64 ((i+1:Nat):Int)) rfl ?_ <| vp (v:=.int .i64 ((i+1:Nat):Int)) rfl ?_ cH,?_,?_⟩,λf=>⟨_,λcall=>vp (v:=.int .i64 ((i+1:Nat):Int)) rfl ?_ <| vp (v:=.int .i64 ((i+1:Nat):Int)) rfl ?_ cH,?_,?_⟩⟩ <;>
 first
 | (simp only[aF,List.map_cons,List.map_nil,aA,ax,aC,Nat.reduceEqDiff,if_true,if_false,ak,bI,fG,f,hb];rfl)
 | (simp[aF,aA,ak,ax];done)
 | (simp[ax];done)
 | (intro j hj;simp only[ax,aC];repeat (rw[if_neg (by omega)]))
structure Acc (H:aq) (w:V) (acc:List (List V)):Prop where
 el:cF H 1 w=some acc
 gr:∃H1,gp H w=some H1/\H1.length=H.length
 sh:w=.aG/\acc=[]\/∃id xs,w=.hsl id 1 0 acc.length/\H[id]? = some (.row 1 xs)/\(acc≠[]->xs=acc)
theorem NU (H:aq) (u:Sl α) (h1:aD.size α=1):cF H 1 (aZ u)=some (rows u.l):=by
 cases u <;> simp[aZ,Sl.k,Sl.l,lT,cF,rows,h1]
theorem UW {w:V} {acc:List (List V)} {u:Sl α} (h1:aD.size α=1) (a:Acc H w acc) (f6:get F 6=w) (f8:get F 8=aZ u) (hl:acc.length+u.l.length<=2147483648) :
 ∃F' H' w',(∀call,bF E N call none Bg F H=some (F',H'))/\get F' 6=w'/\Acc H' w' (acc++rows u.l)/\(u.l=[]->w'=w)/\∀j,j<28->j≠6->get F' j=get F j:=by
 have hu:=NU H u h1;have hrl:(rows u.l).length=u.l.length:=by simp[rows]
 have key:∃H' w',dK H (.append 1) [w,aZ u]=some (w',H')/\Acc H' w' (acc++rows u.l)/\(u.l=[]->w'=w):=by
  obtain⟨H1,g1,g2⟩:=a.gr
  cases hr:rows u.l with
  | nil=>exact⟨H,w,by simp only[dK,a.el,hu,hr],by simpa using a,λ_=>rfl⟩
  | cons y ys=>
   have hll:acc.length+(y::ys).length<=2147483648:=by rw[<-hr,hrl];exact hl
   refine⟨H1++[.row 1 (acc++y::ys)],.hsl H.length 1 0 (acc.length+(y::ys).length),by simp only[dK,a.el,hu,hr];rw[if_pos hll,g1];rfl,?_⟩
   have hget:(H1++[Ob.row 1 (acc++y::ys)])[H.length]? = some (.row 1 (acc++y::ys)):=by rw[<-g2];simp
   refine⟨⟨?_,⟨_,by simp only[gp,hget];rfl,by simp⟩,.inr ⟨H.length,acc++y::ys,by simp,hget,λ_=>rfl⟩⟩,λe=>by rw[e]at hr;cases hr⟩
   simp only[cF,hget,ζb,Ob.rows,if_true,Nat.zero_add,List.drop_zero];rw[if_pos (by simp),List.take_of_length_le (by simp)]
 obtain⟨H',w',k1,k2,k3⟩:=key;refine⟨_,H',w',λcall=>vp (v:=w) rfl ?_ <| vp (v:=aZ u) rfl ?_ <| h_ (v:=w') (H1:=H') rfl ?_ <| vp (v:=w') rfl ?_ cH,?_,k2,k3,?_⟩
 .simp[aF,aA,ak,f6]
 .simp[aF,aA,ak,ax,f8]
 .simp only[aF,List.map_cons,List.map_nil,aA,ax,aC,Nat.reduceEqDiff,if_true,if_false];exact k1
 .simp[aF,aA,ak,ax]
 .simp[ax]
 .intro j hj h6;simp only[ax,aC];rw[if_neg (Ne.symm h6)]
  repeat (rw[if_neg (by omega)])
def upto (s:Sl (Sl α)) (i:Nat):List α:=(s.l.take i).flatMap Sl.l
theorem CU {u:Sl α} (h:s.l[i]? = some u):upto s (i+1)=upto s i++u.l:=by
 unfold upto;obtain⟨hi,rfl⟩:=ζe.1 h;rw[List.take_succ_eq_append_getElem hi,List.flatMap_append];simp
theorem FX (s:Sl (Sl α)) (i:Nat):(upto s i).length<=(s.l.flatMap Sl.l).length:=by
 have:s.l.flatMap Sl.l=upto s i++(s.l.drop i).flatMap Sl.l:=by
  unfold upto;rw[<-List.flatMap_append,List.take_append_drop]
 rw[this];simp
theorem U4 (hn:s.l.length<=2147483648) (ht:(s.l.flatMap Sl.l).length<=2147483648):∀(d i:Nat) (F:Frame),i+d=s.l.length->get F 9=aZ s->get F 10=.int .i64 s.l.length->get F 11=.int .i64 i->get F 3=.int .i64 (upto s i).length ->
 ∃F',jP E N L9 F H (.exit 0) F' H/\get F' 3=.int .i64 (s.l.flatMap Sl.l).length/\get F' 0=get F 0:=by
 intro d
 induction d with
 | zero=>
  intro i F hi f9 f10 f11 f3;obtain⟨F1,a1,a2,a3⟩:=(y4 (E:=E) (N:=N) (H:=H) (n:=s.l.length)).1 f11 f10;refine⟨F1,jP.stop (Ex.seq (Ex.bS a1) (Ex.qP (Ex.nv (by show get F1 12=_;rw[a2,decide_eq_false (by omega)]) Ex.exit) (by simp))) (by simp),?_,a3 0 (by omega)⟩
  rw[a3 3 (by omega),f3]
  have:upto s i=s.l.flatMap Sl.l:=by unfold upto;rw[List.take_of_length_le (by omega)]
  rw[this]
 | succ d ih=>
  intro i F hi f9 f10 f11 f3;obtain⟨F1,a1,a2,a3⟩:=(y4 (E:=E) (N:=N) (H:=H) (n:=s.l.length)).1 f11 f10;have hu:s.l[i]? = some s.l[i]:=ζd (by omega)
  obtain⟨F2,b1,b2,b3⟩:=(y5 (E:=E) (N:=N) (F:=F1) (H:=H) hu).1 (by rw[a3 9 (by omega)];exact f9) (by rw[a3 11 (by omega)];exact f11)
  have hle:=FX s (i+1);have hs:=CU hu;rw[hs,ζi]at hle;obtain⟨F3,c1,c2,c3⟩:=y6 (E:=E) (N:=N) (F:=F2) (H:=H) (u:=s.l[i]) (t:=(upto s i).length) (by rw[b3 3 (by omega) (by omega),a3 3 (by omega)];exact f3) b2 (by omega)
  obtain⟨F4,d1,d2,d3⟩:=y7 (E:=E) (N:=N) (F:=F3) (H:=H) c2;have hf:∀j,j<12->j≠3->j≠5->get F4 j=get F j:=λj h1 h2 h3=>by rw[d3 j h1,c3 j h1 h2,b3 j h1 h3,a3 j h1]
  obtain⟨F5,e1,e2,e3⟩:=(y9 (E:=E) (N:=N) (F:=F4) (H:=H) (i:=i) (by omega)).1 (by rw[hf 11 (by omega) (by omega) (by omega)];exact f11)
  obtain⟨F',g1,g2,g3⟩:=ih (i+1) F5 (by omega) (by rw[e3 9 (by omega),hf 9 (by omega) (by omega) (by omega)];exact f9) (by rw[e3 10 (by omega),hf 10 (by omega) (by omega) (by omega)];exact f10) e2 (by rw[e3 3 (by omega),d3 3 (by omega),c2,hs,ζi])
  exact⟨F',jP.step (Ex.seq (Ex.bS a1) (Ex.seq (Ex.kP (by show get F1 12=_;rw[a2,decide_eq_true (by omega)]) Ex.skip) (Ex.seq (Ex.block (Ex.seq (Ex.bS b1) (Ex.seq (Ex.bS c1) (Ex.seq (Ex.bS d1) (Ex.nv d2 Ex.skip))))) (Ex.bS e1)))) g1,g2,by rw[g3,e3 0 (by omega),hf 0 (by omega) (by omega) (by omega)]⟩
theorem UR (h1:aD.size α=1) (hn:s.l.length<=2147483648) (ht:(s.l.flatMap Sl.l).length<=2147483648):∀(d i:Nat) (F:Frame) (H:aq) (w:V),i+d=s.l.length->get F 25=aZ s->get F 26=.int .i64 s.l.length->get F 27=.int .i64 i->get F 6=w->Acc H w (rows (upto s i)) ->
 ∃F' H' w',jP E N T6 F H (.exit 2) F' H'/\get F' 6=w'/\Acc H' w' (rows (s.l.flatMap Sl.l))/\((s.l.flatMap Sl.l).length=0->w'=w):=by
 intro d
 induction d with
 | zero=>
  intro i F H w hi f25 f26 f27 f6 a;obtain⟨F1,a1,a2,a3⟩:=(y4 (E:=E) (N:=N) (H:=H) (n:=s.l.length)).2 f27 f26;have:upto s i=s.l.flatMap Sl.l:=by unfold upto;rw[List.take_of_length_le (by omega)]
  rw[this]at a;exact⟨F1,H,w,jP.stop (Ex.seq (Ex.bS a1) (Ex.qP (Ex.nv (by show get F1 28=_;rw[a2,decide_eq_false (by omega)]) Ex.exit) (by simp))) (by simp),by rw[a3 6 (by omega)];exact f6,a,λ_=>rfl⟩
 | succ d ih=>
  intro i F H w hi f25 f26 f27 f6 a;obtain⟨F1,a1,a2,a3⟩:=(y4 (E:=E) (N:=N) (H:=H) (n:=s.l.length)).2 f27 f26;have hu:s.l[i]? = some s.l[i]:=ζd (by omega)
  obtain⟨F2,b1,b2,b3⟩:=(y5 (E:=E) (N:=N) (F:=F1) (H:=H) hu).2 (by rw[a3 25 (by omega)];exact f25) (by rw[a3 27 (by omega)];exact f27)
  have hle:=FX s (i+1);have hs:=CU hu;rw[hs,ζi]at hle;obtain⟨F3,H',w',c1,c2,c3,c5,c4⟩:=UW (E:=E) (N:=N) (F:=F2) (H:=H) (u:=s.l[i]) h1 a (by rw[b3 6 (by omega) (by omega),a3 6 (by omega)];exact f6) b2 (by simp only[eC];omega)
  have hf:∀j,j<28->j≠6->j≠8->get F3 j=get F j:=λj h1 h2 h3=>by rw[c4 j h1 h2,b3 j h1 h3,a3 j h1]
  obtain⟨F5,e1,e2,e3⟩:=(y9 (E:=E) (N:=N) (F:=F3) (H:=H') (i:=i) (by omega)).2 (by rw[hf 27 (by omega) (by omega) (by omega)];exact f27)
  have hr:rows (upto s i)++rows s.l[i].l=rows (upto s (i+1)):=by rw[hs];simp[rows]
  rw[hr]at c3;obtain⟨F',H2,w2,g1,g2,g3,g4⟩:=ih (i+1) F5 H' w' (by omega) (by rw[e3 25 (by omega),hf 25 (by omega) (by omega) (by omega)];exact f25) (by rw[e3 26 (by omega),hf 26 (by omega) (by omega) (by omega)];exact f26) e2 (by rw[e3 6 (by omega)];exact c2) c3
  exact⟨F',H2,w2,jP.step (Ex.seq (Ex.bS a1) (Ex.seq (Ex.kP (by show get F1 28=_;rw[a2,decide_eq_true (by omega)]) Ex.skip) (Ex.seq (Ex.block (Ex.seq (Ex.bS b1) (Ex.bS c1))) (Ex.bS e1)))) g1,g2,g3,λe=>(g4 e).trans (c5 (List.eq_nil_of_length_eq_zero (by omega)))⟩
end
end catX
theorem OG {E:Env} {f gf:FuncId} {nm:FuncId->Option Nat} {N:Nat->FuncId} {gid:Nat} (hN:∀f s,nm f=some s->N s=f) (hg:N gid=gf) (hgk:E.keep gf=true) (hgo:E.own gf=true)
 (hf:∃fi,E.ft f=some fi/\aL ⟨E,nm,fi.ntmps⟩ false fi.body=some (catX.cat gid)/\2<=fi.ntmps/\fi.results=[.tmp 2])
 (hgf:∃fi,E.ft gf=some fi/\aL ⟨E,nm,fi.ntmps⟩ false fi.body=some catX.grow/\2<=fi.ntmps/\fi.results=[.tmp 4])
 {α:Type} [aD α] (h1:aD.size α=1) (s:Sl (Sl α)) (hn:s.l.length<=2147483648) (ht:(s.l.flatMap Sl.l).length<=2147483648):uK E f [aZ s] (aZ (xR s)):=by
 obtain⟨fi,p1,p2,p3,p4⟩:=hf;obtain⟨gi,q1,q2,q3,q4⟩:=hgf;generalize hT:(s.l.flatMap Sl.l).length=T at *;obtain⟨Fg,hgx,hgr⟩:=catX.Od (E:=E) (N:=N) ht;obtain⟨n0,hn0⟩:=Ex.run hN q1 q2 (args:=[.aG,.int .i64 T]) (by simpa using q3) hgx (vs:=[if T=0 then .aG else .hsl 0 1 0 0]) (by rw[q4];simp[fF,hgr])
 have hgrow:∃w Hg,(∀k,n0<=k->dM E (run E k) gf [.aG,.int .i64 T] []=some (w,Hg))/\catX.Acc Hg w []/\(T=0->w=.aG):=by
  by_cases h0:T=0
  .refine⟨.aG,[],λk hk=>?_,⟨rfl,⟨[],rfl,rfl⟩,.inl ⟨rfl,rfl⟩⟩,λ_=>rfl⟩
   have:=lH E hk _ _ _ _ hn0;rw[if_pos h0,if_pos h0]at this;unfold dM jv;rw[if_pos hgo];simp[borrows,iD,borrow,V.closed,this,result,V.scalar]
  .refine⟨.hsl 0 1 0 0,[.row 1 (List.replicate T [.aG])],λk hk=>?_,⟨by simp[cF,Ob.rows],⟨_,rfl,by simp⟩,.inr ⟨0,_,rfl,rfl,λh=>absurd rfl h⟩⟩,λh=>absurd h h0⟩
   have:=lH E hk _ _ _ _ hn0;rw[if_neg h0,if_neg h0]at this;unfold dM jv;rw[if_pos hgo];simp only[borrows,iD,borrow,V.closed,if_true,this,result,V.scalar,Bool.false_eq_true,if_false,oJ,List.getElem?_cons_zero,true_and];rw[if_pos (by simp[List.all_replicate,V.scalar])]
   simp
 obtain⟨w,Hg,hgc,hga,hgn⟩:=hgrow;have hne:T≠0->rows (s.l.flatMap Sl.l)≠[]:=λh e=>h (by rw[<-hT,<-eC,e];rfl)
 have hgood:∀c∈rows (s.l.flatMap Sl.l),V.bD c=true:=λc hc=>by
  obtain⟨x,_,rfl⟩:=List.mem_map.1 hc;exact aD.good x
 have g1:∀call,bF E N call none catX.r1 [aZ s] []=some (set [aZ s] 2 .aG,[]):=λcall=>vp (v:=.aG) rfl (by simp[aF,aA,ak]) cH
 have k0:get (set [aZ s] 2 .aG) 0=aZ s:=rfl;generalize set [aZ s] 2 .aG=F0 at *;have g2:∀call,bF E N call none catX.r2 F0 []=some (set F0 3 (.int .i64 0),[]):=λcall=>vp (v:=.int .i64 0) rfl (by simp[aF,aA,ak]) cH
 obtain⟨F2,a1,a2,a3,a4,a5⟩:=(catX.y3 (E:=E) (N:=N) (F:=set F0 3 (.int .i64 0)) (H:=[]) (s:=s)).1 (by rw[fJ _ _ (by omega)];exact k0)
 obtain⟨F3,b1,b2,b3⟩:=catX.U4 (E:=E) (N:=N) (H:=[]) hn (by omega) s.l.length 0 F2 (by omega) a2 a3 a4 (by rw[a5 3 (by omega),qd];rfl)
 rw[hT]at b2;have b3':get F3 0=aZ s:=by rw[b3,a5 0 (by omega),fJ _ _ (by omega)];exact k0
 have c1:∃F4,(∃n,∀k,n<=k->bF E N (run E k) none (catX.AM gid) F3 []=some (F4,Hg))/\get F4 6=w/\get F4 0=aZ s:=by
  refine⟨_,⟨n0,λk hk=>vp (v:=.int .i64 T) rfl ?_ <| h_ (v:=w) (H1:=Hg) rfl ?_ <| vp (v:=w) rfl ?_ cH⟩,?_,?_⟩
  .simp[aF,aA,ak,b2]
  .simp only[aF,List.map_cons,List.map_nil,aA,ax,aC,Nat.reduceEqDiff,if_true,if_false,hg,hgk,List.nil_append,List.append_nil];exact hgc k hk
  .simp[aF,aA,ak,ax]
  .simp[ax]
  .simp only[ax,aC,Nat.reduceEqDiff,if_false];exact b3'
 obtain⟨F4,c1,c2,c3⟩:=c1;obtain⟨F5,d1,d2,d3,d4,d5⟩:=(catX.y3 (E:=E) (N:=N) (F:=F4) (H:=Hg) (s:=s)).2 c3;obtain⟨F6,H6,w6,e1,e2,e3,e4⟩:=catX.UR (E:=E) (N:=N) h1 hn (by omega) s.l.length 0 F5 Hg w (by omega) d2 d3 d4 (by rw[d5 6 (by omega)];exact c2) hga
 have f1:∃F7,(∀call,bF E N call none catX.B1 F6 H6=some (F7,H6))/\get F7 2=w6:=
  ⟨_,λcall=>vp (v:=w6) rfl (by simp[aF,aA,ak,e2]) <| vp (v:=w6) rfl (by simp[aF,aA,ak,ax]) cH,by simp[ax]⟩
 obtain⟨F7,f1,f2⟩:=f1;obtain⟨n,hn'⟩:=Ex.run hN p1 p2 (args:=[aZ s]) (by simp;omega) (Ex.seq (Ex.bS g1) (Ex.seq (Ex.bS g2) (Ex.seq (Ex.seq (Ex.bS a1) (Ex.rQ (Ex.loop b1))) (Ex.seq (Ex.ops c1) (Ex.seq (Ex.seq (Ex.bS d1) (Ex.rQ (Ex.loop e1))) (Ex.seq (Ex.bS f1) Ex.ret)))))) (vs:=[w6]) (by rw[p4];simp[fF,f2])
 refine⟨n,w6,H6,λid=>∃m,w6=.hsl id 1 0 m,hn',?_,?_,?_⟩
 .rcases e3.sh with⟨h,h2⟩|⟨id,xs,h,h2,h3⟩
  .have:T=0:=by rw[<-hT,<-eC,h2];rfl
   rw[h];unfold xR;rw[if_pos (by omega)]
   exact .same _ rfl
  .by_cases h0:T=0
   .have:=e4 (by omega)
    rw[hgn h0]at this;rw[this]at h;cases h
   .have hx:=h3 (hne h0);subst hx;unfold xR;rw[if_neg (by omega),h]
    show FR H6 _ (.fsl (aD.size α) (rows (s.l.flatMap Sl.l))) _;rw[h1];exact .fsl 1 _ id 0 _ ⟨_,rfl⟩ (by unfold au;rw[h2];rfl) (by omega) (λi a b ha hb=>by rw[Nat.zero_add]at hb;rw[ha]at hb;cases hb;rfl) (λi j a b u v ha hb hu hv=>by
     rw[Nat.zero_add]at hb;rw[ha]at hb;cases hb;rw[hu]at hv;cases hv;exact .same _ (gz.1 (hgood a (List.mem_of_getElem? ha)) j u hu))
 .rintro id ⟨m,h⟩;rcases e3.sh with⟨h',_⟩|⟨id',xs,h',h2,_⟩
  .rw[h']at h;cases h
  .rw[h']at h;cases h;unfold au;rw[h2];rfl
 .refine⟨λid es ys hz hr c hc u hu=>?_⟩
  obtain⟨m,h⟩:=hz;rcases e3.sh with⟨h',_⟩|⟨id',xs,h',h2,h3⟩
  .rw[h']at h;cases h
  .rw[h']at h;cases h
   by_cases h0:T=0
   .have:=e4 (by omega)
    rw[hgn h0]at this;rw[this]at h';cases h'
   .have hx:=h3 (hne h0);subst hx;unfold au at hr;rw[h2]at hr;cases hr;obtain⟨j,hj⟩:=List.getElem?_of_mem hu;exact⟨u,.same _ (gz.1 (hgood c hc) j u hj)⟩
end Go.VE
namespace Go.VE
variable [aY]
def vY (op:Bool) (x y:Int):Int:=cond op x y
@[simp] theorem S7 (x y:Int):vY true x y=x:=rfl
@[simp] theorem Se (x y:Int):vY false x y=y:=rfl
namespace setX
instance {n:Nat}:OfNat Arg n:=⟨.s n⟩
def fa (k:Nat):K:=.p (.fieldAddr k)
def ld:K:=.r (.load 1 false)
def r1:List RO:=[o2 4 (.a .box) [1] [],o2 5 (.a .box) [2] []]
def r2:List RO:=[o1 6 0 [],o2 7 (fa 0) [4] [],o2 8 ld [7] [],o2 9 (fa 1) [4] [],o2 10 ld [9] [],o2 11 (.p (.idxS 1)) [6,8] [],⟨none,none,false,.l (.store 1),[11,10],[],[]⟩]
def r3:List RO:=[o1 6 0 [],o2 7 (fa 0) [5] [],o2 8 ld [7] [],o2 9 (fa 1) [5] [],o2 10 ld [9] [],o2 11 (.p (.bin (some .int) none .sub)) [10,.k (.int .i64 1)] [],o2 12 (.p (.idxS 1)) [6,8] [],⟨none,none,false,.l (.store 1),[12,11],[],[]⟩]
def code (op:Bool):RC:=.seq (.ops r1) (.ops (if op then r3 else r2))
section
variable {E:Env} {N:Nat->FuncId} {H:aq} {id off L:Nat} {rs:List (List V)}
theorem M8 {h:Nat} {x y:V} {i:Nat} {v:V} (hb:H[h]? = some (.row 2 [[x,y]])) (hv:[x,y][i]? = some v):dG H (.load 1 false) [.hptr h 0 i]=some v:=by
 match i,hv with
 | 0,hv=>cases hv;simp[dG,cS,hb,Ob.rows,cut,mk]
 | 1,hv=>cases hv;simp[dG,cS,hb,Ob.rows,cut,mk]
 | i+2,hv=>simp at hv
theorem whole (op:Bool) {a b c d:Int} (hid:H[id]? = some (.row 1 rs)) (hp:0<=(vY op c a)) (hpl:(vY op c a).toNat<L) {z:V} (hz:rs[off+(vY op c a).toNat]? = some [z]) :
 ∃F' X,Ex E N (code op) [.hsl id 1 off L,.agg [.int .i64 a,.int .i64 b],.agg [.int .i64 c,.int .i64 d]] H .norm F' ((H++X).set id (.row 1 (rs.set (off+(vY op c a).toNat) [.int .i64 (vY op (IntKind.wrap .i64 (d-1)) b)]))):=by
 let X:aq:=[.row 2 [[.int .i64 a,.int .i64 b]],.row 2 [[.int .i64 c,.int .i64 d]]]
 have hlt:=(ζe.1 hid).1;have e1:∃F1,(∀call,bF E N call none r1 [.hsl id 1 off L,.agg [.int .i64 a,.int .i64 b],.agg [.int .i64 c,.int .i64 d]] H=some (F1,H++X))/\get F1 0=.hsl id 1 off L/\get F1 4=.hptr H.length 0 0/\get F1 5=.hptr (H.length+1) 0 0:=by
  refine⟨_,λcall=>h_ (v:=.hptr H.length 0 0) (H1:=H++[.row 2 [[.int .i64 a,.int .i64 b]]]) rfl ?_ <| h_ (v:=.hptr (H.length+1) 0 0) (H1:=H++X) rfl ?_ cH,?_,?_,?_⟩
  .simp[aF,aA,get,iS,V.cells,V.one,Mk.val]
  .simp[aF,aA,get,ax,set,iS,V.cells,V.one,Mk.val,X]
  .simp[ax];rfl
  .simp[ax]
  .simp[ax]
 obtain⟨F1,p1,p2,p3,p4⟩:=e1;have h1:(H++X)[id]? = some (.row 1 rs):=by rw[List.getElem?_append_left hlt];exact hid
 have h2:(H++X)[H.length]? = some (.row 2 [[.int .i64 a,.int .i64 b]]):=by simp[X]
 have h3:(H++X)[H.length+1]? = some (.row 2 [[.int .i64 c,.int .i64 d]]):=by
  rw[List.getElem?_append_right (by omega)];simp[X]
 obtain⟨H1,hH⟩:∃H1,H1=H++X:=⟨_,rfl⟩;rw[<-hH]at h1 h2 h3;rw[<-hH]at p1
 suffices hs:∃F',Ex E N (code op) [.hsl id 1 off L,.agg [.int .i64 a,.int .i64 b],.agg [.int .i64 c,.int .i64 d]] H .norm F' (H1.set id (.row 1 (rs.set (off+(vY op c a).toNat) [.int .i64 (vY op (IntKind.wrap .i64 (d-1)) b)])))by
  obtain⟨F',hF⟩:=hs;exact⟨F',X,by rw[<-hH];exact hF⟩
 have hix:∀p:Int,0<=p->p.toNat<L->jK 1 (.hsl id 1 off L) p=some (.hptr id (off+p.toNat) 0):=λp h0 hl=>by
  unfold jK;rw[if_neg (by omega)];simp[hl]
 have hst:∀(q:Nat) (z v:V),rs[q]? = some [z]->v.one=true->dK H1 (.store 1) [.hptr id q 0,v]=some (.undef,H1.set id (.row 1 (rs.set q [v]))):=λq z v hz hv=>by
  simp[dK,h1,hz,Cq hv,hv]
 cases op with
 | false=>
  simp only[Se]at hp hpl hz ⊢;have l1:=M8 (i:=0) h2 rfl;have l2:=M8 (i:=1) h2 rfl;have e2:∃F2,(∀call,bF E N call none r2 F1 H1=some (F2,H1.set id (.row 1 (rs.set (off+a.toNat) [.int .i64 b])))):=by
   refine⟨_,λcall=>vp (v:=.hsl id 1 off L) rfl ?_ <| vp (v:=.hptr H.length 0 0) rfl ?_ <| vp (v:=.int .i64 a) rfl ?_ <| vp (v:=.hptr H.length 0 1) rfl ?_ <| vp (v:=.int .i64 b) rfl ?_ <| vp (v:=.hptr id (off+a.toNat) 0) rfl ?_ <| h_ (v:=.undef) rfl ?_ cH⟩
   .simp[aF,aA,ak,p2]
   .simp[aF,aA,ak,ax,fa,fL,p3]
   .simp only[aF,List.map_cons,List.map_nil,aA,ax,aC,Nat.reduceEqDiff,if_true,if_false,ld,l1,Option.map_some]
   .simp[aF,aA,ak,ax,fa,fL,p3]
   .simp only[aF,List.map_cons,List.map_nil,aA,ax,aC,Nat.reduceEqDiff,if_true,if_false,ld,l2,Option.map_some]
   .simp only[aF,List.map_cons,List.map_nil,aA,ax,aC,Nat.reduceEqDiff,if_true,if_false,ak,hix a hp hpl,Option.map_some]
   .simp only[aF,List.map_cons,List.map_nil,aA,ax,aC,Nat.reduceEqDiff,if_true,if_false];exact hst _ z _ hz rfl
  obtain⟨F2,q1⟩:=e2;exact⟨F2,Ex.seq (Ex.bS p1) (Ex.bS (l:=_) q1)⟩
 | true=>
  simp only[S7]at hp hpl hz ⊢;have l1:=M8 (i:=0) h3 rfl;have l2:=M8 (i:=1) h3 rfl;have e2:∃F2,(∀call,bF E N call none r3 F1 H1=some (F2,H1.set id (.row 1 (rs.set (off+c.toNat) [.int .i64 (IntKind.wrap .i64 (d-1))])))):=by
   refine⟨_,λcall=>vp (v:=.hsl id 1 off L) rfl ?_ <| vp (v:=.hptr (H.length+1) 0 0) rfl ?_ <| vp (v:=.int .i64 c) rfl ?_ <| vp (v:=.hptr (H.length+1) 0 1) rfl ?_ <| vp (v:=.int .i64 d) rfl ?_ <| vp (v:=.int .i64 (IntKind.wrap .i64 (d-1))) rfl ?_ <| vp (v:=.hptr id (off+c.toNat) 0) rfl ?_ <| h_ (v:=.undef) rfl ?_ cH⟩
   .simp[aF,aA,ak,p2]
   .simp[aF,aA,ak,ax,fa,fL,p4]
   .simp only[aF,List.map_cons,List.map_nil,aA,ax,aC,Nat.reduceEqDiff,if_true,if_false,ld,l1,Option.map_some]
   .simp[aF,aA,ak,ax,fa,fL,p4]
   .simp only[aF,List.map_cons,List.map_nil,aA,ax,aC,Nat.reduceEqDiff,if_true,if_false,ld,l2,Option.map_some]
   .simp[aF,aA,ak,ax,fG]
   .simp only[aF,List.map_cons,List.map_nil,aA,ax,aC,Nat.reduceEqDiff,if_true,if_false,ak,hix c hp hpl,Option.map_some]
   .simp only[aF,List.map_cons,List.map_nil,aA,ax,aC,Nat.reduceEqDiff,if_true,if_false];exact hst _ z _ hz rfl
  obtain⟨F2,q1⟩:=e2;exact⟨F2,Ex.seq (Ex.bS p1) (Ex.bS (l:=_) q1)⟩
end
end setX
structure Vp (S:Sys) {α δ:Type} [aD δ] (g:FuncId) (e:List V) (A:α->List V) (p:Sl δ->α->Option (Sl δ)):Prop where
 f:∃q,S.prm g=some q/\q.part=false/\S.E.keep g=true/\S.E.own g=false/\∀s z s',p s z=some s'->q.go (aD.size δ) (rows s.l) (A z++e)=some (rows s'.l)/\s'=s.re s'.l
 d:V.bU 7 e=true
section
variable {S:Sys} {c:bH} {β γ δ α:Type} [aD δ] {Q:Out×St->Option β} {e:γ->Option β} {cf:Cf}
end
end Go.VE
namespace Go.VE
variable [aY]
def snap (w:World):bz:=λb=>match w.heap[b]? with
 | some (.cells c _ _)=>some (.cells c)
 | some (.map es _)=>some (.map es)
 | _=>none
theorem MH {w:World} (hg:sW (snap w)):bR (snap w) (λ_=>none) [] w where
 dom _ _:=rfl
 imm b x h:=by
  unfold snap at h;split at h
  .rename_i c el fr hh;cases h;exact⟨el,fr,hh⟩
  .rename_i es cl hh;cases h;exact⟨cl,hh⟩
  .cases h
 obs id ob h:=by simp at h
 inj id id' ob ob' p p' h:=by simp at h
 gl:=hg
def eH (I:bz) (xs:List V) (vs:List Value):Prop:=xs.length=vs.length/\∀(j:Nat) a b,xs[j]? = some a->vs[j]? = some b->dA I a b
theorem eH.nil {I:bz}:eH I [] []:=⟨rfl,by simp⟩
theorem eH.one {I:bz} {x:V} {v:Value} (h:dA I x v):eH I [x] [v]:=⟨rfl,λj a b h1 h2=>by
 cases j with
 | zero=>simp at h1 h2;subst h1 h2;exact h
 | succ j=>simp at h1⟩
theorem eH.append {I:bz} {xs ys:List V} {us vs:List Value} (h:eH I xs us) (k:eH I ys vs):eH I (xs++ys) (us++vs):=by
 refine⟨by simp[h.1,k.1],λj a b h1 h2=>?_⟩
 by_cases hj:j<xs.length
 .rw[List.getElem?_append_left hj]at h1;rw[List.getElem?_append_left (by rw[<-h.1];exact hj)]at h2
  exact h.2 j a b h1 h2
 .rw[List.getElem?_append_right (by omega)]at h1
  rw[List.getElem?_append_right (by rw[<-h.1];omega),<-h.1]at h2
  exact k.2 _ a b h1 h2
theorem Ad {α β:Type} {f:α->Option β}:∀{l:List α} {r:List β},l.mapM f=some r->r.length=l.length/\∀(i:Nat) a b,l[i]? = some a->r[i]? = some b->f a=some b
 | [],r,h=>by simp only[List.mapM_nil,Option.pure_def,ζa]at h;subst h;simp
 | x::l,r,h=>by
  simp only[List.mapM_cons,Option.bind_eq_bind,Option.pure_def,ζg,ζa]at h;obtain⟨y,hy,ys,hys,rfl⟩:=h;obtain⟨h1,h2⟩:=Ad hys;refine⟨by simp[h1],λi a b h3 h4=>?_⟩
  cases i with
  | zero=>simp at h3 h4;subst h3 h4;exact hy
  | succ i=>exact h2 i a b (by simpa using h3) (by simpa using h4)
structure tO {H:Type} (b:DataW H->Nat):Prop where
 lit:∀l,1<=b (.lit l)
 str:∀s,s.length+1<=b (.lit (.string s))
 nil:1<=b .nil
 slice:∀es sp,(es.map b).sum+1<=b (.slice es sp)
 agg:∀ps,(ps.map b).sum+1<=b (.agg ps)
class bM (α:Type) where
 wt:α->Nat
 ok:α->Prop
instance:bM Int where
 wt _:=1
 ok n:=-9223372036854775808<=n/\n<=9223372036854775807
instance:bM Bool where
 wt _:=1
 ok _:=True
instance:bM ByteArray where
 wt s:=s.size+1
 ok s:=s.size<=maxLen
instance {α:Type} [bM α]:bM (Sl α) where
 wt s:=(s.l.map bM.wt).sum+1
 ok s:=∀x∈s.l,bM.ok x
class Reads (P:Program) (t:TypeId) (α:Type) [aD α] [bM α]:Prop where
 size:P.cellsOf t=aD.size α
 rd:∀{H:Type} {enc:TypeId×Value->H} {w:World} {base:Nat} {spare:Nat->Bool} {held:Bool} {fuel:Nat} {cs:List Value} {d:DataW H} {ps:List MemPlace},
  DataW.trod enc P w base spare held fuel t cs=some (d,ps)->∃a:α,eH (snap w) (cells a) cs/\bM.ok a/\∀b:DataW H->Nat,tO b->bM.wt a<=b d
 shape:∀{w:World} {r:_root_.Go.Reach} {base:Nat} {v:Value},Value.okWide P w r base t v->if aD.agg α then ∃cs,v=.agg cs else v.cells=#[v]
section
variable {P:Program}
theorem oO {w:World} {r:_root_.Go.Reach} {base:Nat} {t:TypeId} {v:Value} {u:_} (hu:P.underlying t=some u) (h1:∀fs,u≠.struct fs) (h2:∀n e,u≠.array n e) (h:Value.okWide P w r base t v):v.cells=#[v]:=by
 cases v with
 | agg cs=>
  exfalso;unfold Value.okWide at h;rw[hu]at h;split at h
  .rename_i fs heq;cases heq;exact h1 _ rfl
  .rename_i n e heq;cases heq;exact h2 _ _ rfl
  .unfold Cell.okWide at h;rw[hu]at h;split at h <;> first|(simp at *;done)|skip
   unfold Cell.ok at h;rw[hu]at h;cases u <;> simp at h
 | _=>rfl
theorem Reads.int {t:TypeId} (hu:P.underlying t=some (.int .i64)) (hc:P.cellsOf t=1):Reads P t Int where
 size:=hc
 rd {H enc w base spare held fuel cs d ps} h:=by
  cases fuel with
  | zero=>simp[DataW.trod]at h
  | succ fuel=>
   simp only[DataW.trod,hu]at h;split at h <;> first|(simp at h;done)|skip
   .rename_i heq;cases heq
   .rename_i k k' n heq;simp only[ζa,TypeDesc.int.injEq]at heq;split at h
    .rename_i hk;obtain⟨rfl,hw⟩:=hk;subst heq;cases h;exact⟨n,eH.one (.int _ n),show _/\_ by simpa [Lit.wf,IntKind.min,IntKind.max,IntKind.signed,IntKind.bits]using hw,λb hb=>hb.lit _⟩
    .simp at h
   all_goals (rename_i heq;cases heq)
 shape h:=by simp only[show aD.agg Int=false from rfl];exact oO hu (by simp) (by simp) h
theorem Reads.bool {t:TypeId} (hu:P.underlying t=some .bool) (hc:P.cellsOf t=1):Reads P t Bool where
 size:=hc
 rd {H enc w base spare held fuel cs d ps} h:=by
  cases fuel with
  | zero=>simp[DataW.trod]at h
  | succ fuel=>
   simp only[DataW.trod,hu]at h;split at h <;> first|(simp at h;done)|skip
   .rename_i b _;cases h;exact⟨b,eH.one (.bool b),trivial,λb hb=>hb.lit _⟩
   all_goals (rename_i heq;cases heq)
 shape h:=by simp only[show aD.agg Bool=false from rfl];exact oO hu (by simp) (by simp) h
theorem Reads.str {t:TypeId} (hu:P.underlying t=some .string) (hc:P.cellsOf t=1):Reads P t ByteArray where
 size:=hc
 rd {H enc w base spare held fuel cs d ps} h:=by
  cases fuel with
  | zero=>simp[DataW.trod]at h
  | succ fuel=>
   simp only[DataW.trod,hu]at h;split at h <;> first|(simp at h;done)|skip
   all_goals (first|(rename_i heq;cases heq;done)|skip)
   rename_i s _;split at h
   .rename_i hs;cases h;exact⟨s,eH.one (.str s),hs,λb hb=>hb.str _⟩
   .simp at h
 shape h:=by simp only[show aD.agg ByteArray=false from rfl];exact oO hu (by simp) (by simp) h
theorem Mq {w:World} {a:Addr} {n:Nat} {v:Value} (h:w.cell? (a.add n)=some v) (hn:n=0\/True):∃c el fr,w.heap[a.block]? = some (.cells c el fr)/\c[a.off+n]? = some v/\(n=0->a.spot=none):=by
 unfold World.cell? Addr.add at h
 by_cases h0:n=0
 .subst h0;simp only[if_true]at h;split at h
  .rename_i c el fr hh;split at h
   .simp at h
   .rename_i hs;exact⟨c,el,fr,hh,h,λ_=>by simpa using hs⟩
  .simp at h
 .simp only[if_neg h0]at h;split at h
  .rename_i c el fr hh;simp only[Option.isSome_none,Bool.false_eq_true,if_false]at h;exact⟨c,el,fr,hh,h,λe=>absurd e h0⟩
  .simp at h
theorem Reads.sl {t e:TypeId} {α:Type} [aD α] [bM α] [Reads P e α] (hu:P.underlying t=some (.slice e)) (hc:P.cellsOf t=1) (hpos:0<aD.size α):Reads P t (Sl α) where
 size:=hc
 rd {H enc w base spare held fuel cs d ps} h:=by
  cases fuel with
  | zero=>simp[DataW.trod]at h
  | succ fuel=>
   simp only[DataW.trod,hu]at h;split at h <;> first|(simp at h;done)|skip
   all_goals (first|(rename_i heq;cases heq;done)|skip)
   .cases h;exact⟨.nil,eH.one .aG,λx hx=>by simp[Sl.l]at hx,λb hb=>hb.nil⟩
   .rename_i e' a len cap heq;cases heq;split at h
    .rename_i hcap;obtain⟨elems,hel,h⟩:=ζg.1 h;obtain⟨rest,_,h⟩:=ζf.1 h;cases h;obtain⟨hlen,hget⟩:=Ad hel;simp only[List.length_range]at hlen;have hes:P.cellsOf e=aD.size α:=Reads.size (α:=α);have hx:∀i,i<len->∃x:α,∃csi:List Value,w.cells? base (a.add (i*P.cellsOf e)) (P.cellsOf e)=some csi/\eH (snap w) (cells x) csi/\bM.ok x/\∀b:DataW H->Nat,tO b->∀y,elems[i]? = some y->bM.wt x<=b y.1:=λi hi=>by
      have:=hget i i (elems[i]'(by omega)) (by simp[hi]) (ζd (by omega))
      obtain⟨csi,h1,h2⟩:=ζg.1 this;obtain⟨x,hx,hk,hb⟩:=Reads.rd (P:=P) (t:=e) (α:=α) (d:=(elems[i]'(by omega)).1) (ps:=(elems[i]'(by omega)).2) h2
      exact⟨x,csi,h1,hx,hk,λb bo y hy=>by
       rw[ζd (by omega)]at hy;cases hy;exact hb b bo⟩
     have hall:∀n,n<=len->∃xs:List α,xs.length=n/\(∀i x,xs[i]? = some x->∃csi:List Value,w.cells? base (a.add (i*P.cellsOf e)) (P.cellsOf e)=some csi/\eH (snap w) (cells x) csi)/\(∀x∈xs,bM.ok x)/\∀b:DataW H->Nat,tO b->(xs.map bM.wt).sum<=(((elems.take n).map (·.1)).map b).sum:=by
      intro n
      induction n with
      | zero=>intro _;exact⟨[],rfl,by simp,by simp,by simp⟩
      | succ n ih=>
       intro hn;obtain⟨xs,h1,h2,h5,h6⟩:=ih (by omega)
       obtain⟨x,csi,h3,h4,h7,h8⟩:=hx n (by omega)
       refine⟨xs++[x],by simp[h1],λi y hy=>?_,λy hy=>?_,λb bo=>?_⟩
       rotate_left
       .rcases List.mem_append.1 hy with hy|hy
        .exact h5 y hy
        .simp at hy;subst hy;exact h7
       .have k1:=h6 b bo;have k2:=h8 b bo _ (ζd (by omega))
        rw[List.take_succ,ζd (by omega:n<elems.length)]
        simp only[List.map_append,List.sum_append,Option.toList_some,List.map_cons,List.map_nil,List.sum_cons,List.sum_nil];omega
       by_cases hi:i<xs.length
       .rw[List.getElem?_append_left hi]at hy;exact h2 i y hy
       .rw[List.getElem?_append_right (by omega)]at hy
        have:i-xs.length=0:=by
         cases hk:i-xs.length with
         | zero=>rfl
         | succ k=>rw[hk]at hy;simp at hy
        rw[this]at hy;simp at hy;subst hy;have:i=n:=by omega
        subst this;exact⟨csi,h3,h4⟩
     obtain⟨xs,hxl,hxs,hxok,hxw⟩:=hall len (Nat.le_refl _);refine⟨.row xs,eH.one ?_,hxok,λb bo=>?_⟩
     rotate_left
     .have k:=hxw b bo;rw[List.take_of_length_le (by omega)]at k
      have k2:=bo.slice (elems.map (·.1)) (rest.map (·.1));show (xs.map bM.wt).sum+1<=_;omega
     show dA _ (.fsl (aD.size α) (rows xs)) _
     cases hl:xs with
     | nil=>
      subst hl;simp at hxl;subst hxl;exact .fsl0 _ _ _
     | cons x0 xr=>
      rw[<-hl];have hl0:0<len:=by rw[<-hxl,hl];simp
      have hcell:∀i x,xs[i]? = some x->∀j y,(cells x)[j]? = some y->∃v,w.cell? ((a.add (i*aD.size α)).add j)=some v/\dA (snap w) y v:=by
       intro i x hi j y hy;obtain⟨csi,h1,h2⟩:=hxs i x hi;rw[hes]at h1;unfold World.cells? at h1;split at h1
       .obtain⟨g1,g2⟩:=Ad h1;have hj:j<aD.size α:=by rw[<-dN x];exact(ζe.1 hy).1
        obtain⟨v,hv⟩:∃v,csi[j]? = some v:=⟨_,ζd (by rw[g1];simpa using hj)⟩
        exact⟨v,g2 j j v (by simp[hj]) hv,h2.2 j y v hy hv⟩
       .simp at h1
      have hadd:∀i j,(a.add (i*aD.size α)).add j=a.add (i*aD.size α+j)\/True:=λ_ _=>.inr trivial
      have hget2:∀i x,xs[i]? = some x->∀j y,(cells x)[j]? = some y->∃c el fr v,w.heap[a.block]? = some (.cells c el fr)/\c[a.off+i*aD.size α+j]? = some v/\dA (snap w) y v/\(i=0->j=0->a.spot=none):=by
       intro i x hi j y hy;obtain⟨v,h1,h2⟩:=hcell i x hi j y hy;obtain⟨c,el,fr,g1,g2,g3⟩:=Mq h1 (.inr trivial);have hb:(a.add (i*aD.size α)).block=a.block:=by unfold Addr.add;split <;> rfl
       have ho:(a.add (i*aD.size α)).off=a.off+i*aD.size α:=by unfold Addr.add;split <;> simp_all
       rw[hb]at g1;rw[ho]at g2;refine⟨c,el,fr,v,g1,g2,h2,?_⟩;rintro rfl rfl;have:=g3 rfl;simpa [Addr.add]using this
      have h00:∃y,(cells x0)[0]? = some y:=⟨_,ζd (by rw[dN];exact hpos)⟩
      obtain⟨y0,hy0⟩:=h00;obtain⟨c,el,fr,v0,hc1,_,_,hsp⟩:=hget2 0 x0 (by rw[hl];rfl) 0 y0 hy0
      have hsp:=hsp rfl rfl;obtain⟨b,o,sp⟩:=a;simp only at hsp hc1;subst hsp;have hI:snap w b=some (.cells c):=by unfold snap;rw[hc1]
      have hrl:(rows xs).length=len:=by rw[eC,hxl]
      rw[<-hrl];refine .fsl _ _ b o cap c hI (by rw[hrl];exact hcap.2.1) (λr hr=>?_) (λr hr y hy=>?_) ?_ (λi j r y v hr hy hv=>?_)
      .obtain⟨x,_,rfl⟩:=List.mem_map.1 hr;exact dN x
      .obtain⟨x,_,rfl⟩:=List.mem_map.1 hr;exact List.all_eq_true.1 (od x) y hy
      .
       obtain⟨xl,hxl2⟩:∃x,xs[len-1]? = some x:=⟨_,ζd (by omega)⟩
       obtain⟨yl,hyl⟩:∃y,(cells xl)[aD.size α-1]? = some y:=⟨_,ζd (by rw[dN];omega)⟩
       obtain⟨c2,_,_,v2,k1,k2,_,_⟩:=hget2 (len-1) xl hxl2 (aD.size α-1) yl hyl;simp only at k1 k2;rw[hc1]at k1;cases k1;have:=(Array.getElem?_eq_some_iff.1 k2).1;rw[hrl];have e:len*aD.size α=(len-1)*aD.size α+aD.size α:=by
        obtain⟨m,rfl⟩:∃m,len=m+1:=⟨len-1,by omega⟩
        simp[Nat.add_mul]
       omega
      .simp only[rows,List.getElem?_map,ζf]at hr;obtain⟨x,hx1,rfl⟩:=hr;obtain⟨c2,_,_,v2,k1,k2,k3,_⟩:=hget2 i x hx1 j y hy;simp only at k1 k2;rw[hc1]at k1;cases k1;rw[hv]at k2;cases k2;exact k3
    .simp at h
 shape h:=by simp only[show aD.agg (Sl α)=false from rfl];exact oO hu (by simp) (by simp) h
theorem eH.seg {I:bz} {acc xs:List V} {cs:List Value} {o n:Nat} (h:eH I acc (cs.take o)) (k:eH I xs ((cs.drop o).take n)):eH I (acc++xs) (cs.take (o+n)):=by
 rw[List.take_add];exact h.append k
theorem eH.fin {I:bz} {xs:List V} {cs:List Value} {n:Nat} (h:eH I xs (cs.take n)) (hl:cs.length=n):eH I xs cs:=by
 rw[List.take_of_length_le (by omega)]at h;exact h
theorem Reads.st {t:TypeId} {fs:Array Field} {α:Type} [aD α] [bM α] (hu:P.underlying t=some (.struct fs)) (hc:P.cellsOf t=aD.size α) (ha:aD.agg α=true)
 (h:∀{H:Type} {enc:TypeId×Value->H} {w:World} {base:Nat} {spare:Nat->Bool} {held:Bool} {fuel:Nat} {cs:List Value} {l:List (DataW H×List MemPlace)},cs.length=aD.size α ->
  (fs.toList.mapM λf=>DataW.trod enc P w base spare held fuel f.type ((cs.drop f.offset).take (P.cellsOf f.type)))=some l->∃a:α,eH (snap w) (cells a) cs/\bM.ok a/\∀b:DataW H->Nat,tO b->bM.wt a<=((l.map (·.1)).map b).sum+1):Reads P t α where
 size:=hc
 rd {H enc w base spare held fuel cs d ps} hr:=by
  cases fuel with
  | zero=>simp[DataW.trod]at hr
  | succ fuel=>
   simp only[DataW.trod,hu]at hr;split at hr <;> first|(simp at hr;done)|skip
   all_goals (first|(rename_i heq;cases heq;done)|skip)
   rename_i hl;obtain⟨l,h1,h2⟩:=ζf.1 hr;cases h2;obtain⟨a,k1,k2,k3⟩:=h (by rw[hl,hc]) h1
   exact⟨a,k1,k2,λb bo=>Nat.le_trans (k3 b bo) (bo.agg _)⟩
 shape hv:=by
  rw[if_pos ha];unfold Value.okWide at hv;rw[hu]at hv;obtain⟨cs,h1,_⟩:=hv;exact⟨cs,h1⟩
theorem Reads.arg {t:TypeId} {α:Type} [aD α] [bM α] [Reads P t α] {H:Type} {enc':TypeId×Value->H} {w:World} {base:Nat} {spare:Nat->Bool} {held:Bool} {r:_root_.Go.Reach} {b:Nat} {v:Value} {d:DataW H} {ps:List MemPlace}
 (hv:Value.okWide P w r b t v) (h:DataW.Trod enc' P w base spare held t v d ps):∃a:α,aH (snap w) (λ_=>none) (enc a) v/\bM.ok a/\∀b:DataW H->Nat,tO b->bM.wt a<=b d:=by
 obtain⟨fuel,h⟩:=h;obtain⟨a,⟨h1,h2⟩,hok,hwt⟩:=Reads.rd (P:=P) (t:=t) (α:=α) h;have hs:=Reads.shape (P:=P) (t:=t) (α:=α) hv;refine⟨a,?_,hok,hwt⟩
 cases ha:aD.agg α with
 | true=>
  rw[ha,if_pos rfl]at hs;obtain⟨cs,rfl⟩:=hs;rw[rz ha];refine .c _ _ (.agg _ _ (by simpa [Value.cells]using h1) (λj x y hx hy=>h2 j x y hx (by simpa [Value.cells]using hy)))
 | false=>
  rw[ha]at hs;simp only[Bool.false_eq_true,if_false]at hs;rw[hs]at h2;rw[nG ha]at h2;exact .c _ _ (h2 0 _ _ rfl rfl)
end
end Go.VE
namespace Go.VE
variable [aY]
open Go.ChangeShapes Go.WideShapes Go.ChangeAt Go.RowKit
structure D6 (w w':World):Prop where
 kept:w.keptBut w' (λ_=>False)
 fz:∀a:Addr,a.block<w.heap.size->w'.frozen? a=w.frozen? a
theorem Db {I I':bz} {μ':Mu} {H':aq} {w w':World} (s:Step I (λ_=>none) [] w I' μ' H' w'):D6 w w':=by
 have hf:∀b,b<w.heap.size->w'.heap[b]? = w.heap[b]? := λb hb=>s.frame b hb (by rintro⟨id,p,ob,h,_⟩;simp at h)
 refine⟨⟨s.os,s.out.out,λi hi=>?_⟩,λa hb=>?_⟩
 .rw[hf i hi];split
  .rename_i h1 h2;rw[h1]at h2;cases h2;exact⟨rfl,rfl,rfl,λ_ _=>rfl⟩
  .rename_i h1 h2;rw[h1]at h2;cases h2;exact .inr ⟨rfl,rfl⟩
  .rfl
 .unfold World.frozen?;rw[hf _ hb]
theorem ES {P:Program} {call:cq} (hc:jk P call) {f:FuncId} {args:List V} {b:Bool} {H':aq} (h:call (.fn f) args []=some (.bool b,H')) {w:World} {vs:List Value}
 (hw:sW (snap w)) (hv:bJ (snap w) (λ_=>none) args vs):Calls P f vs.toArray w λe w'=>e=.returned (.bool b)/\D6 w w':=by
 intro cs;have k:=((hc.fn f args [] _ H' h).2 (snap w) (λ_=>none) w vs (MH hw) hv)
 obtain⟨e,w',fr,⟨u,I',μ',rfl,hu,_,hs⟩,hcm,h1,h2⟩:=k.2 cs (by simp[Fence.room,fr])
 refine⟨_,w',fr,⟨?_,Db hs⟩,hcm.comes,h1,h2⟩
 cases hu with
 | c _ _ hcr=>cases hcr;rfl
variable {P:Program} {H:Type} {enc:TypeId×Value->H}
theorem C_ {ts:List TypeId} {vs:List Value} {ds:List (DataW H)} {ps:List MemPlace} {w w':World} (hg:D6 w w') (h:DataW.TrodAll enc P w 0 (λ_=>true) true ts vs ds ps):DataW.TrodAll enc P w' 0 (λ_=>true) true ts vs ds ps:=by
 have hcell:∀p:MemPlace,p.block<w.heap.size->w.sameAt w' p:=by
  intro p hp;have k:=hg.kept.2.2 p.block hp
  cases p with
  | cell b off=>
   simp only[World.sameAt,World.cell?];simp only[MemPlace.block]at k hp;split at k
   .rename_i c t fr c' t' fr' h1 h2;rw[h1,h2];simp only;have:=k.2.2.2 off (λx=>x)
    simpa using this
   .rename_i h1 h2;rw[h1,h2]
   .rw[k]
  | map b=>
   simp only[World.sameAt];simp only[MemPlace.block]at k hp;split at k
   .rename_i c t fr c' t' fr' h1 h2;obtain⟨rfl,rfl,h3,h4⟩:=k;rw[h1,h2];have:c'=c:=Array.ext_getElem? λi=>h4 i (λx=>x)
    rw[this]
   .rename_i h1 h2;rcases k with k|⟨rfl,rfl⟩
    .exact k.elim
    .rw[h1,h2]
   .exact k
 induction ts generalizing vs ds ps with
 | nil=>cases vs <;> cases ds <;> simp_all [DataW.TrodAll]
 | cons t ts ih=>
  cases vs with
  | nil=>simp[DataW.TrodAll]at h
  | cons v vs=>
   cases ds with
   | nil=>simp[DataW.TrodAll]at h
   | cons d ds=>
    obtain⟨p,q,⟨n,h1⟩,h2,rfl⟩:=h;exact⟨p,q,⟨n,DataW.trod_carry n _ _ _ h1 λx hx=>hcell x (DataW.trod_lt n _ _ _ h1 x hx)⟩,ih h2,rfl⟩
theorem JR {T:TypeId->Prop} (K:Kids P T) (hz:∀t e,T t->P.underlying t=some (.slice e)->0<P.cellsOf e) {f:Func} {s:ChangeSpec} {apart fresh handsOn again:Bool} {W W':World} {args:Array Value} {ds gs:List (DataW H)} {before:List MemPlace} {tb:TypeId}
 (hT:∀t∈f.params.toList,T t) (hvars:s.vars=[]) (hfn:s.fn H (ds++gs)={ results:=[.lit (.bool true)],args:=ds }) (hrt:f.resultTypes=#[tb]) (hb:P.underlying tb=some .bool)
 (hW:DataW.Whole enc P f.params.toList s.vars apart W args.toList ds gs before) (hg:D6 W W'):s.post enc P f apart fresh handsOn again W args (.bool true) W':=by
 have hW':=hW;obtain⟨p,q,hA,hV,rfl,hfz,hnd⟩:=hW;rw[hvars]at hV;obtain⟨rfl,rfl⟩:=trodVars_none hV;have hr:∀(b:Nat) (sp:Nat->Bool) (hd:Bool),DataW.TrodAll enc P W' b sp hd f.resultTypes.toList ((Value.bool true).resultList f.resultTypes.size) (s.fn H (ds++[])).results []:=λ_ _ _=>by
  rw[hrt,hfn];exact trodAll_cons_mk (shut_bool hb _) trodAll_mk0
 have ha:∀sp:Nat->Bool,(∀x∈p++[],sp x.block=true)->DataW.TrodAll enc P W' 0 sp true f.params.toList args.toList (s.fn H (ds++[])).args p:=λsp hsp=>by
  rw[hfn];exact DataW.TrodAll.respare K hz hT (C_ hg hA) (λx hx=>hsp x (List.mem_append_left _ hx))
 have hv:∀sp:Nat->Bool,DataW.TrodVars enc P W' sp s.vars (s.fn H (ds++[])).vars []:=λsp=>by rw[hfn,hvars];rfl
 have hlt:=λx hx=>hW'.lt x hx
 refine⟨ds,[],p++[],[],p,[],hW',hr _ _ _,ha _ λx hx=>by simpa using hlt x hx,hv _,World.keptBut_mono (λx hx=>hx.elim) hg.kept,λ_=>⟨ok_one hrt rfl (okWide_bool_mk hb _),?_⟩⟩
 refine⟨_,_,[]++p++[],⟨[]++p,[],trodAll_append (ha _ λ_ _=>rfl) (hr _ _ _),hv _,rfl,λb off hx=>?_,λh=>by simpa using hnd h⟩,λx hx _=>by simpa using hx⟩
 have hx':MemPlace.cell b off∈p++[]:=by simpa using hx
 rw[hg.fz _ (hlt _ hx')];exact hfz b off hx'
end Go.VE
namespace Go.VE
variable [aY]
instance:bM U8 where
 wt _:=1
 ok n:=0<=n.v/\n.v<=255
theorem Reads.u8 {P:Program} {t:TypeId} (hu:P.underlying t=some (.int .u8)) (hc:P.cellsOf t=1):Reads P t U8 where
 size:=hc
 rd {H enc w base spare held fuel cs d ps} h:=by
  cases fuel with
  | zero=>simp[DataW.trod]at h
  | succ fuel=>
   simp only[DataW.trod,hu]at h;split at h <;> first|(simp at h;done)|skip
   .rename_i heq;cases heq
   .rename_i k k' n heq;simp only[ζa,TypeDesc.int.injEq]at heq;split at h
    .rename_i hk;obtain⟨rfl,hw⟩:=hk;subst heq;cases h;exact⟨⟨n⟩,eH.one (.int _ n),show _/\_ by simpa [Lit.wf,IntKind.min,IntKind.max,IntKind.signed,IntKind.bits]using hw,λb hb=>hb.lit _⟩
    .simp at h
   all_goals (rename_i heq;cases heq)
 shape h:=by simp only[show aD.agg U8=false from rfl];exact oO hu (by simp) (by simp) h
end Go.VE
namespace Go.VE
variable [aY]
theorem He {m:Tb aN} {n:Nat} {rs:List SV} {b:Bool} (h:bW m n rs=some [.bool b]):rs=[.v (.bool b)]:=by
 cases rs with
 | nil=>cases n <;> simp[bW]at h
 | cons x r=>
  have h1:shut m n x=some (.bool b)/\bW m n r=some []:=by
   unfold bW at h;split at h
   .rename_i y s h1 h2;simp only[ζa,List.cons.injEq]at h;obtain⟨rfl,rfl⟩:=h;exact⟨h1,h2⟩
   .cases h
  have h2:r=[]:=by
   cases r with
   | nil=>rfl
   | cons y r=>
    have:=h1.2;unfold bW at this;split at this <;> simp at this
  subst h2;have h3:=h1.1
  cases x with
  | v y=>unfold shut at h3;simp only[ζa]at h3;rw[h3]
  | own d=>unfold shut at h3;split at h3 <;> simp only[ζa,reduceCtorEq]at h3;rename_i k es xs _;cases k <;> simp[lT]at h3
  | ptr d o=>
   cases n with
   | zero=>simp[shut]at h3
   | succ n=>
    unfold shut at h3;split at h3 <;> try cases h3
    split at h3 <;> try cases h3
    split at h3 <;> cases h3
  | mp d=>unfold shut at h3;split at h3 <;> cases h3
  | clo f a b=>
   cases n with
   | zero=>simp[shut]at h3
   | succ n=>unfold shut at h3;split at h3 <;> cases h3
  | tup l=>
   cases n with
   | zero=>simp[shut]at h3
   | succ n=>unfold shut at h3;obtain⟨_,_,hq⟩:=ζf.1 h3;cases hq
  | _=>cases n <;> simp[shut]at h3
theorem Mb {S:Sys} {T:qv} (hT:o6 S T) (hI:∀f a b xs,S.items f a b=some xs->dV S f a b xs) {f:FuncId} {xs:List V} (hg:V.bD xs=true) (h:kJ (cz S T) f xs=some [.bool true]) :
 ∃n H',run S.E n (.fn f) xs []=some (.bool true,H'):=by
 unfold kJ at h;obtain⟨⟨rs,m⟩,h1,h2⟩:=ζg.1 h;have:=He h2;simp only at this;subst this;exact Ol hT hI hg h1 rfl
theorem HG {S:Sys} {T:qv} {P:Program} (hT:o6 S T) (hI:∀f a b xs,S.items f a b=some xs->dV S f a b xs) (hc:∀n,jk P (run S.E n)) {f:FuncId} {xs:List V} (hg:V.bD xs=true) (h:kJ (cz S T) f xs=some [.bool true])
 {w:World} {args:Array Value} (hw:sW (snap w)) (hv:bJ (snap w) (λ_=>none) xs args.toList):Calls P f args w λe w'=>e=.returned (.bool true)/\D6 w w':=by
 obtain⟨n,H',hr⟩:=Mb hT hI hg h;have:=ES (hc n) hr hw hv;simpa using this
theorem Reads.Nb {P:Program} {t:TypeId} {α:Type} [aD α] [bM α] [Reads P t α] {H:Type} {enc':TypeId×Value->H} {w:World} {base b:Nat} {spare:Nat->Bool} {held:Bool} {v:Value} {d:DataW H} {ps:List MemPlace} {params:Array TypeId} {args:Array Value}
 (hval:∀(j:Nat) t v,params[j]? = some t->args[j]? = some v->Value.okWide P w .any b t v) (j:Nat) (h1:params[j]? = some t) (h2:args[j]? = some v) (h:DataW.Trod enc' P w base spare held t v d ps) :
 ∃a:α,aH (snap w) (λ_=>none) (enc a) v/\bM.ok a/\∀b:DataW H->Nat,tO b->bM.wt a<=b d:=Reads.arg (hval j t v h1 h2) h
end Go.VE
namespace Go.VE
variable [aY]
theorem bN (n:Nat) (h:n<9223372036854775807):IntKind.wrap .i64 ((n:Int)+1)=((n+1:Nat):Int):=by
 simp[IntKind.wrap,IntKind.bits,IntKind.signed];omega
theorem lp (n:Int) (h1:-9223372036854775808<=n) (h2:n<=9223372036854775807):IntKind.wrap .i64 n=n:=by
 simp[IntKind.wrap,IntKind.bits,IntKind.signed];omega
section
variable {α β:Type} {P:β->Prop}
theorem nS (s:Sl α) (i:Nat):idx s (i:Int)=s.l[i]? := by
 unfold idx;rw[if_pos (by omega)];rfl
theorem aV {s:Sl α} {i:Nat} (h:i<s.l.length):idx s (i:Int)=some s.l[i]:=by rw[nS,ζd h]
theorem La {s:Sl α} {i:Int} (h0:0<=i):idx s i=s.l[i.toNat]? := by unfold idx;rw[if_pos h0]
theorem uk (s:Sl α) (i:Nat) (h:i<=s.l.length):∃x,eM s none (some (i:Int))=some x/\x.l=s.l.take i:=by
 unfold eM cD;simp only[Option.getD_none,Option.getD_some];rw[if_pos (by omega)]
 cases s <;> simp[Sl.l]at h ⊢ <;> simp[h]
theorem aM {γ:Type} {a b:γ}:ay true a b=a:=rfl
theorem aW {γ:Type} {a b:γ}:ay false a b=b:=rfl
theorem kr (a b:Bool):ay a (some b) (some false)=some (a&&b):=by cases a <;> rfl
theorem iV (a b:Bool):ay a (some true) (some b)=some (a||b):=by cases a <;> rfl
theorem ri (a:Bool) (x y:β):ay a (some x) (some y)=some (if a then x else y):=by cases a <;> rfl
end
def place {α:Type} (f:α->Bool) (l:List α):Int:=match l.findIdx? f with
 | some i=>i
 | none=>-1
theorem xe {α:Type} {f:α->Bool} {l:List α} {i:Nat} (h:∀j,j<i->∀x,l[j]? = some x->f x=false) (hi:l.length<=i):l.findIdx? f=none:=by
 rw[List.findIdx?_eq_none_iff];intro x hx;obtain⟨j,hj⟩:=List.getElem?_of_mem hx;have:j<l.length:=(ζe.1 hj).1;exact h j (by omega) x hj
theorem Fy {α:Type} {f:α->Bool} {l:List α} {i:Nat} {x:α} (h:∀j,j<i->∀x,l[j]? = some x->f x=false) (hx:l[i]? = some x) (hf:f x=true):l.findIdx? f=some i:=by
 rw[List.findIdx?_eq_some_iff_getElem];obtain⟨hi,rfl⟩:=ζe.1 hx;exact⟨hi,hf,λj hj=>by rw[h j hj _ (ζd (by omega))];simp⟩
theorem r_ {α:Type} {step:Int->Option (Fw Int Unit Int)} {s:Sl α} {p:α->Option Bool} {f:α->Bool} (hp:∀x∈s.l,p x=some (f x)) (hl:s.l.length<9223372036854775807)
 (hs:∀i,step i=ay (decide (i<len s)) ((idx s i).bind λx_1=>(p x_1).bind λx_2=>ay x_2 (some (.r i)) (some (.n (IntKind.wrap .i64 (i+1))))) (some (.x ()))) :
 (aX step 0).bind (Fw.elim (λ_=>some (-1)) (λe=>some e))=some (place f s.l):=by
 refine Wp.eq (gA (λi:Int=>∃n:Nat,i=n/\n<=s.l.length/\∀j,j<n->∀x,s.l[j]? = some x->f x=false) (λi:Int=>s.l.length-i.toNat) ⟨0,rfl,Nat.zero_le _,λj hj=>absurd hj (by omega)⟩ ?_)
 rintro i ⟨n,rfl,hn,hb⟩;rw[hs,bE];refine⟨λh=>?_,λh=>?_⟩
 .have hlt:n<s.l.length:=by simpa [len]using h
  rw[aV hlt,ζb,hp _ (List.getElem_mem hlt),ζb,bE];refine⟨λhf=>?_,λhf=>?_⟩
  .rw[ah];show Wp (some (n:Int)) _;rw[ah];unfold place;rw[Fy hb (ζd hlt) hf]
  .rw[ah];refine⟨⟨n+1,bN n (by omega),by omega,λj hj x hx=>?_⟩,?_⟩
   .by_cases e:j=n
    .subst e;rw[ζd hlt]at hx;cases hx;exact hf
    .exact hb j (by omega) x hx
   .rw[bN n (by omega)];simp;omega
 .have hge:s.l.length<=n:=by simpa [len]using h
  rw[ah];show Wp (some (-1:Int)) _;rw[ah];unfold place;rw[xe hb hge]
theorem ud {α:Type} (f:α->Bool) (l:List α):decide (place f l>=0)=l.any f:=by
 unfold place
 cases h:l.findIdx? f with
 | none=>
  rw[List.findIdx?_eq_none_iff]at h;have:l.any f=false:=by rw[List.any_eq_false];intro x hx;simp[h x hx]
  rw[this];rfl
 | some i=>
  obtain⟨hi,hf,_⟩:=List.findIdx?_eq_some_iff_getElem.1 h;have:l.any f=true:=List.any_eq_true.2 ⟨_,List.getElem_mem hi,hf⟩;rw[this];simp
theorem LS {α σ ε ρ:Type} {step:α->σ->Option (Fw σ ε ρ)} {l:List α} (I:Nat->σ->Prop) (px:ε->Prop) (pr:ρ->Prop) {s:σ} (h0:I 0 s)
 (h:∀i a s,l[i]? = some a->I i s->Wp (step a s) λw=>match w with|.n s'=>I (i+1) s'|.x e=>px e|.r b=>pr b) :
 Wp (lZ step l s) λw=>match w with|.n s'=>I l.length s'|.x e=>px e|.r b=>pr b:=by
 have key:∀(r:List α) (i:Nat) (s:σ),l.drop i=r->i<=l.length->I i s->Wp (lZ step r s) λw=>match w with|.n s'=>I l.length s'|.x e=>px e|.r b=>pr b:=by
  intro r
  induction r with
  | nil=>
   intro i s hd hi hs;have:i=l.length:=by have:=List.drop_eq_nil_iff.1 hd;omega
   subst this;exact⟨_,rfl,hs⟩
  | cons a r ih=>
   intro i s hd hi hs;have hlt:i<l.length:=by
    apply Classical.byContradiction;intro hn;rw[List.drop_eq_nil_of_le (by omega)]at hd;cases hd
   have h2:=List.drop_eq_getElem_cons hlt;rw[h2]at hd;simp only[List.cons.injEq]at hd;obtain⟨w,hw,hp⟩:=h i a s (by rw[ζd hlt,hd.1]) hs
   simp only[lZ,hw,ζb]
   cases w with
   | n s'=>exact ih (i+1) s' hd.2 (by omega) hp
   | x e=>exact⟨_,rfl,hp⟩
   | r b=>exact⟨_,rfl,hp⟩
 exact key l 0 s rfl (Nat.zero_le _) h0
theorem yG {α σ ε ρ γ:Type} {step:α->σ->Option (Fw σ ε ρ)} {l:List α} {fn:σ->Option γ} {fx:ε->Option γ} {fr:ρ->Option γ} {P:γ->Prop} (I:Nat->σ->Prop) {s:σ} (h0:I 0 s)
 (h:∀i a s,l[i]? = some a->I i s->Wp (step a s) λw=>match w with|.n s'=>I (i+1) s'|.x e=>Wp (fx e) P|.r b=>Wp (fr b) P)
 (hn:∀s,I l.length s->Wp (fn s) P):Wp ((lZ step l s).bind (Fw.uu fn fx fr)) P:=by
 rw[eS];refine(LS I _ _ h0 h).mono ?_;intro w hw
 cases w with
 | n s=>exact hn s hw
 | x e=>exact hw
 | r b=>exact hw
end Go.VE
