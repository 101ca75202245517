/-
 Certificates; functions by hand; readings; plain laws.
-/
import Derived.JoinedCond
import Derived.ReadAgain
import Derived.WalkKit
import Derived.ProofKit
import Derived.OpenShut
import Derived.ChangeSame
import Derived.RowKit3
import Derived.Test.YtimppgndlmehbaaGreatV2
import Derived.Test.YtimppgndlmehbaaGreatN2
import Derived.Test.YtimppgndlmehbaaGreatS1
set_option linter.all false
namespace Go.VE
variable [aW]
abbrev Cf:=Fo×List Fm×St
section
variable (S:Sys) (c:br) {β:Type} (Q:Out×St->Option β)
noncomputable abbrev bA (cf:Cf):Option β:=rn S c Q cf.1 cf.2.1 cf.2.2
noncomputable def iz (n:Nat) (cf:Cf):Cf:=(fW S c n cf.1 cf.2.1 cf.2.2).getD cf
structure Dj where
 dr:Bool
 fr:List Nat
 d:Option Nat
 gd:Option (Nat×Bool)
 now:Bool
 k:K
 az:List Arg
 dd:List Nat
 l:List RO
 fs:List Fm
 st:St
noncomputable def gN (n:Nat) (cf:Cf):Option Dj:=match fW S c n cf.1 cf.2.1 cf.2.2 with
 | some (.ops dr fr (⟨d,gd,now,k,az,dd,[]⟩::l),fs,st)=>match wanted st.g gd with
  | some true=>some ⟨dr,fr,d,gd,now,k,az,dd,l,fs,st⟩
  | _=>none
 | _=>none
noncomputable def nx (n:Nat) (cf:Cf) (φ:Dj->St):Cf:=match gN S c n cf with
 | some p=>(.ops p.dr (if p.dr then(match p.k with|.p _|.r _=>p.fr|_=>match p.d with|some d=>d::p.fr|none=>p.fr)else p.fr) p.l,p.fs,nL p.dd (φ p))
 | none=>cf
end
def ta (s:Nat) (b:Bool) (cf:Cf):Cf:=(cf.1,cf.2.1,{ cf.2.2 with g:=aU cf.2.2.g s (.v (.bool b)) })
def jmp (k:Nat) (fr:List Nat) (cf:Cf) (st:St):Cf:=match cf with
 | (.ops dr _ l,fs,_)=>(.ops dr fr (l.drop k),fs,st)
 | _=>(.rt,[],st)
def tv:RC->List Nat->List Fm->St->Cf
 | c,[],fs,st=>(.rc c,fs,st)
 | .seq a b,i::p,fs,st=>if i=0 then tv a p (.seq b::fs) st else tv b p fs st
 | .cond _ a b,i::p,fs,st=>if i=0 then tv a p fs st else tv b p fs st
 | .block id c,_::p,fs,st=>tv c p (.blk id::fs) st
 | .gh _ c,_::p,fs,st=>tv c p fs st
 | .hg c g,_::p,fs,st=>tv c p (.gst g::fs) st
 | .loop c,_::p,_,st=>tv c p [] st
 | .each _ _ _ b,_::p,_,st=>tv b p [] st
 | c,_,fs,st=>(.rc c,fs,st)
section
variable {S:Sys} {c:br} {β γ δ α:Type} {Q:Out×St->Option β} {e:γ->Option β} {cf:Cf}
theorem iU {n:Nat} {p:Dj} (h:gN S c n cf=some p):fW S c n cf.1 cf.2.1 cf.2.2=some (.ops p.dr p.fr (⟨p.d,p.gd,p.now,p.k,p.az,p.dd,[]⟩::p.l),p.fs,p.st)/\wanted p.st.g p.gd=some true:=by
 unfold gN at h
 grind
theorem vX {n:Nat} {m:Option δ} {φ:δ->Dj->St} {f:δ->Option γ} {p:Dj} (hp:gN S c n cf=some p) (hs:Le (m.bind λx=>some (φ x p)) (dQ S c p.dr p.fr ⟨p.d,none,p.now,p.k,p.az,[],[]⟩ p.st))
 (h:∀x,m=some x->Le ((f x).bind e) (bA S c Q (nx S c n cf (φ x)))):Le ((m.bind f).bind e) (bA S c Q cf):=by
 obtain⟨h1,h2⟩:=iU hp;refine Cq h1 rfl h2 hs λx hx=>?_
 have:=h x hx;simp[nx,hp]at this;omega
theorem wU {n:Nat} {m:Option β} {φ:Dj->St} {p:Dj} (hp:gN S c n cf=some p) (hs:dQ S c p.dr p.fr ⟨p.d,none,p.now,p.k,p.az,[],[]⟩ p.st=some (φ p))
 (h:Le m (bA S c Q (nx S c n cf φ))):Le m (bA S c Q cf):=by
 obtain⟨h1,h2⟩:=iU hp;refine pJ h1 rfl h2 hs ?_;simp[nx,hp]at h;omega
theorem fA {α β:Type} {o:Option α} {f:α->β} {b:β} (h:o.map f=some b):∃a,o=some a/\f a=b:=ζf.1 h
theorem Cd (n:Nat) {m:Option β} {cf':Cf} (h:Le m (bA S c Q cf')) (hL:fW S c n cf.1 cf.2.1 cf.2.2=some cf':=by kernel_rfl):Le m (bA S c Q cf):=BY hL h
theorem aC (n s:Nat) {t:Bool} {x y:Option γ} (ha:Le (x.bind e) (bA S c Q (ta s true (iz S c n cf)))) (hb:Le (y.bind e) (bA S c Q (ta s false (iz S c n cf))))
 (hL:(fW S c n cf.1 cf.2.1 cf.2.2).map (λp=>ai p.2.2.g s)=some (some (.v (.bool t))):=by kernel_rfl):Le ((aj t x y).bind e) (bA S c Q cf):=by
 obtain⟨p,hp,hv⟩:=fA hL;have hg:iz S c n cf=p:=by unfold iz;grind
 rw[hg]at ha hb;refine BY hp ?_;cases t
 .have:ta s false p=p:=by unfold ta;rw[qv hv]
  rw[this]at hb;exact hb
 .have:ta s true p=p:=by unfold ta;rw[qv hv]
  rw[this]at ha;exact ha
theorem b9 (n s:Nat) {t:Bool} {x y:Option γ} (ha:Le (x.bind e) (bA S c Q (ta s false (iz S c n cf)))) (hb:Le (y.bind e) (bA S c Q (ta s true (iz S c n cf))))
 (hL:(fW S c n cf.1 cf.2.1 cf.2.2).map (λp=>ai p.2.2.g s)=some (some (.v (.bool (!t)))):=by kernel_rfl):Le ((aj t x y).bind e) (bA S c Q cf):=by
 obtain⟨p,hp,hv⟩:=fA hL;have hg:iz S c n cf=p:=by unfold iz;grind
 rw[hg]at ha hb;refine BY hp ?_;cases t
 .have:ta s true p=p:=by unfold ta;rw[show V.bool true=V.bool (!false)from rfl,qv hv]
  rw[this]at hb;exact hb
 .have:ta s false p=p:=by unfold ta;rw[show V.bool false=V.bool (!true)from rfl,qv hv]
  rw[this]at ha;exact ha
theorem zC (n k:Nat) (fr:List Nat) (st:δ->St) {m:Option δ} {f:δ->Option γ} (h2:Le (m.bind λr=>bA S c Q (jmp k fr (iz S c n cf) (st r))) (bA S c Q cf))
 (h1:∀r,Le ((f r).bind e) (bA S c Q (jmp k fr (iz S c n cf) (st r)))):Le ((m.bind f).bind e) (bA S c Q cf):=NW _ h2 h1
theorem aA (n:Nat) {r:δ} {k:δ->Cf} (hL:fW S c n cf.1 cf.2.1 cf.2.2=some (k r):=by kernel_rfl):Le ((some r).bind λr=>bA S c Q (k r)) (bA S c Q cf):=TJ  hL rfl
theorem af {r:γ} {L:Option β} (h:L=e r:=by kernel_rfl):Le ((some r).bind e) L:=Le.of_eq h
theorem BB (n:Nat) {b:RC} {m:Option (Out×Tb aM)} (h:Le m (bA S c uD (.rc b,[],(iz S c n cf).2.2))) (hL:fW S c n cf.1 cf.2.1 cf.2.2=some (.nx,[],(iz S c n cf).2.2):=by kernel_rfl):Le m (bA S c (wE S c b) cf):=RQ hL h
theorem TB (n:Nat) {o:Option α} (A:Option α->St) {f:α->Option γ} (h2:∀x,o=some x->Le ((f x).bind e) (bA S c Q ((iz S c n cf).1,(iz S c n cf).2.1,A (some x))))
 (hL:fW S c n cf.1 cf.2.1 cf.2.2=some ((iz S c n cf).1,(iz S c n cf).2.1,A o):=by kernel_rfl):Le ((o.bind f).bind e) (bA S c Q cf):=SK hL h2
theorem mm.T0 {S:Sys} {T:qg} [aI δ] {f:FuncId} {A:α->List V} {p:α->Option δ} (hT:T f=none) (hk:S.E.keep f=false) (ho:∀z r,p z=some r->S.xI f (A z)=some (enc r))
 (l:∀z,V.b8 8 (A z)=true:=by intro z;simp) (hr:∀r:δ,V.lvl 8 (result [enc r])=true:=by intro r;simp):mm S (dA S T) f A (λr=>[enc r]) p false where
 k:=hk
 h z:=by
  intro y hy;obtain⟨r,h1,h2⟩:=ζg.1 hy;cases h2;have h:=Db hT hk (ho z r h1);unfold lU;rw[h];exact u7 8 [enc r]
 l:=l
 r:=hr
 s h:=by cases h
def MW:K->Option BinOp
 | .p (.bin (some .slice) _ o)=>some o
 | _=>none
theorem Pm {k:K} {o:BinOp} (h:MW k=some o):∃u,k=.p (.bin (some .slice) u o):=by
 unfold MW at h
 grind
def QE:K->Option (Nat×Nat×List Nat)
 | .a (.buildSl sz ln _ ix)=>some (sz,ln,ix)
 | _=>none
theorem RU {k:K} {r:Nat×Nat×List Nat} (h:QE k=some r):∃z,k=.a (.buildSl r.1 r.2.1 z r.2.2):=by
 unfold QE at h
 grind
def Ra:K->Option (List V)
 | .a (.alloc _ zero)=>some zero
 | _=>none
theorem QX {k:K} {z:List V} (h:Ra k=some z):∃n,k=.a (.alloc n z):=by
 unfold Ra at h
 grind
section
variable [aI α]
theorem Sj (k:IntKind) (n:Nat) {s:Sl α} {i:Int} {f:α->Option γ} (h:∀x,idx s i=some x->Le ((f x).bind e) (bA S c Q (nx S c n cf λp=>b7 p.st p.d (cp x))))
 (hL:(gN S c n cf).map (λp=>(p.k,a_ S.N p.st.g p.az))=some (.p (.idxS (aI.size α)),some [.v (bf s),.v (.int k i)]):=by kernel_rfl):Le (((idx s i).bind f).bind e) (bA S c Q cf):=by
 obtain⟨p,hp,hv⟩:=fA hL;simp  at hv;refine vX hp ?_ h;rw[hv.1];exact Le.of_eq (NU hv.2 rfl)
theorem aS (n:Nat) {s:Sl α} {i:Int} {f:α->Option γ} (h:∀x,idx s i=some x->Le ((f x).bind e) (bA S c Q (nx S c n cf λp=>b7 p.st p.d (cp x))))
 (hL:(gN S c n cf).map (λp=>(p.k,a_ S.N p.st.g p.az))=some (.p (.idxS (aI.size α)),some [.v (bf s),.v (.int .i64 i)]):=by kernel_rfl):Le (((idx s i).bind f).bind e) (bA S c Q cf):=Sj .i64 n h hL
theorem nN (k:IntKind) (n u:Nat) {s:Sl α} {i:Int} {f:Nat->Option γ} (h:∀x,s.mw i=some x->Le ((f x).bind e) (bA S c Q (nx S c n cf λp=>b7 p.st p.d (.el u x 0))))
 (hL:(gN S c n cf).map (λp=>(p.k,a_ S.N p.st.g p.az,ai p.st.m u))=some (.p (.idxS (aI.size α)),some [.own u,.v (.int k i)],some (b_ s)):=by kernel_rfl):Le (((s.mw i).bind f).bind e) (bA S c Q cf):=by
 obtain⟨p,hp,hv⟩:=fA hL;simp  at hv;refine vX hp ?_ h;rw[hv.1];exact Le.of_eq (Sv hv.2.1 hv.2.2 rfl)
theorem uM (n u o sz:Nat) (a:Bool) (v:α->V) {s:Sl α} {i:Nat} {f:α->Option γ} (h:∀x,s.get i=some x->Le ((f x).bind e) (bA S c Q (nx S c n cf λp=>b7 p.st p.d (.v (v x)))))
 (hL:(gN S c n cf).map (λp=>(p.k,a_ S.N p.st.g p.az,ai p.st.m u,(!p.dr||p.now||dN p.fr [.el u i o])))=some (.r (.load sz a),some [.el u i o],some (b_ s),true):=by kernel_rfl) (hv:∀x:α,(cut (cells x) o sz).bind (mk a)=some (v x):=by intro _;rfl):Le (((s.get i).bind f).bind e) (bA S c Q cf):=by
 obtain⟨p,hp,hv'⟩:=fA hL;simp only[ζc]at hv';refine vX hp ?_ h;rw[hv'.1];exact Le.of_eq (Rk hv'.2.1 hv'.2.2.2 hv'.2.2.1 hv)
theorem Cm (n u:Nat) (x:V) {s:Sl α} {i:Nat} {a:α} {f:Sl α->Option γ} (h:∀s',s.put i a=some s'->Le ((f s').bind e) (bA S c Q (nx S c n cf λp=>b7 { p.st with m:=aU p.st.m u (b_ s') } p.d (.v .undef))))
 (hL:(gN S c n cf).map (λp=>(p.k,a_ S.N p.st.g p.az,ai p.st.m u,(!p.dr||p.now),x.cells))=some (.l (.store (aI.size α)),some [.el u i 0,.v x],some (b_ s),true,cells a):=by kernel_rfl):Le (((s.put i a).bind f).bind e) (bA S c Q cf):=by
 obtain⟨p,hp,hv⟩:=fA hL;simp only[ζc]at hv;refine vX hp ?_ h;rw[hv.1];exact Le.of_eq (PW hv.2.1 hv.2.2.2.1 hv.2.2.1 hv.2.2.2.2 rfl)
theorem QG (n u:Nat) {i:Int} {z:α} {f:Sl α->Option γ} (h:∀s',tw i z=some s'->Le ((f s').bind e) (bA S c Q (nx S c n cf λp=>{ p.st with g:=aU p.st.g u (.own u),m:=aU p.st.m u (b_ s') })))
 (hL:(gN S c n cf).map (λp=>(p.d,p.k,a_ S.N p.st.g p.az,p.st.new u))=some (some u,.a (.makeSl (aI.size α) (cells z)),some [.v (.int .i64 i),.v (.int .i64 i)],true):=by kernel_rfl):Le (((tw i z).bind f).bind e) (bA S c Q cf):=by
 obtain⟨p,hp,hv⟩:=fA hL;simp  at hv;refine vX hp ?_ h;rw[hv.1,hv.2.1];exact Le.of_eq (Q4 hv.2.2.1 rfl rfl hv.2.2.2)
theorem oR (n o w u:Nat) {s:Sl α} {x:α} {f:Sl α->Option γ} (h:∀s',fP s x=some s'->Le ((f s').bind e) (bA S c Q (nx S c n cf λp=>{ p.st with g:=aU p.st.g u (.own u),m:=aU (cV o p.st.m) u (b_ s') })))
 (hL:(gN S c n cf).map (λp=>(p.d,p.k,a_ S.N p.st.g p.az,(!p.dr||p.now),ai p.st.m o,ai p.st.m w,St.new { p.st with m:=cV o p.st.m } u))=some (some u,.l (.append (aI.size α)),some [.own o,.own w],true,some (b_ s),some (b_ (.row [x])),true):=by kernel_rfl):Le (((fP s x).bind f).bind e) (bA S c Q cf):=by
 obtain⟨p,hp,hv⟩:=fA hL;simp only[ζc]at hv;refine vX hp ?_ h;rw[hv.1,hv.2.1];exact Le.of_eq (Tc hv.2.2.1 hv.2.2.2.1 hv.2.2.2.2.1 hv.2.2.2.2.2.1 rfl hv.2.2.2.2.2.2)
theorem NO (n w u:Nat) (v:V) (x:α) {m:Option β} (h:Le m (bA S c Q (nx S c n cf λp=>{ p.st with g:=aU p.st.g u (.own u),m:=aU p.st.m u (b_ (.row [x])) }))) (hv:v=.aR\/v=.ck:=by first|exact .inl rfl|exact .inr rfl)
 (hL:(gN S c n cf).map (λp=>(p.d,p.k,a_ S.N p.st.g p.az,(!p.dr||p.now),ai p.st.m w,p.st.new u))=some (some u,.l (.append (aI.size α)),some [.v v,.own w],true,some (b_ (.row [x])),true):=by kernel_rfl):Le m (bA S c Q cf):=by
 obtain⟨p,hp,hq⟩:=fA hL;simp only[ζc]at hq;refine wU hp ?_ h;rw[hq.1,hq.2.1];exact QV hv hq.2.2.1 hq.2.2.2.1 hq.2.2.2.2.1 rfl hq.2.2.2.2.2
theorem aN (n:Nat) (s:Sl α) {m:Option β} (h:Le m (bA S c Q (nx S c n cf λp=>b7 p.st p.d (.v (.int .i64 s.l.length)))))
 (hL:(gN S c n cf).map (λp=>(p.k,a_ S.N p.st.g p.az))=some (.p .lenSl,some [.v (bf s)]):=by kernel_rfl):Le m (bA S c Q cf):=by
 obtain⟨p,hp,hv⟩:=fA hL;simp  at hv;refine wU hp ?_ h;rw[hv.1];exact N7 hv.2
theorem DQ (n u:Nat) (s:Sl α) {m:Option β} (h:Le m (bA S c Q (nx S c n cf λp=>b7 p.st p.d (.v (.int .i64 s.l.length)))))
 (hL:(gN S c n cf).map (λp=>(p.k,a_ S.N p.st.g p.az,ai p.st.m u))=some (.p .lenSl,some [.own u],some (b_ s)):=by kernel_rfl):Le m (bA S c Q cf):=by
 obtain⟨p,hp,hv⟩:=fA hL;simp  at hv;refine wU hp ?_ h;rw[hv.1];exact QA hv.2.1 hv.2.2
theorem TM (n:Nat) {s:Sl α} {f:Bool->Option γ} (h:∀t,s.isNil=some t->Le ((f t).bind e) (bA S c Q (nx S c n cf λp=>b7 p.st p.d (.v (.bool t)))))
 (hL:(gN S c n cf).map (λp=>(MW p.k,a_ S.N p.st.g p.az))=some (some .eql,some [.v (bf s),.v .aR]):=by kernel_rfl):Le ((s.isNil.bind f).bind e) (bA S c Q cf):=by
 obtain⟨p,hp,hv⟩:=fA hL;simp  at hv;obtain⟨u,hk⟩:=Pm hv.1;refine vX hp ?_ h;rw[hk];exact Le.of_eq (OU hv.2)
theorem AH (n:Nat) (lo hi:Bool) (bs:List V) {s:Sl α} {a b:Option Int} {f:Sl α->Option γ} (h:∀x,eO s a b=some x->Le ((f x).bind e) (bA S c Q (nx S c n cf λp=>b7 p.st p.d (.v (bf x)))))
 (hL:(gN S c n cf).map (λp=>(p.k,a_ S.N p.st.g p.az,kM lo hi bs))=some (.p (.slice (aI.size α) lo hi),some (.v (bf s)::bs.map .v),some (a,b)):=by kernel_rfl):Le (((eO s a b).bind f).bind e) (bA S c Q cf):=by
 obtain⟨p,hp,hv⟩:=fA hL;simp  at hv;obtain⟨h1,h2⟩:=iU hp;obtain⟨dr,fr,d,gd,now,k,az,dd,l,fs,st⟩:=p;obtain⟨rfl,h3,h4⟩:=hv;exact TH n dr fr (⟨d,gd,now,.p (.slice (aI.size α) lo hi),az,dd,[]⟩::l) fs st lo hi bs  rfl (by grind) λs' hs=>by
  have:=h s' hs;simp only[nx,hp]at this;omega
theorem SA (n:Nat) (lo hi:Bool) (u t:Nat) (bs:List V) {s:Sl α} {a b:Option Int} {f:Sl α->Option γ} (h:∀x,mU s a b=some x->Le ((f x).bind e) (bA S c Q (nx S c n cf λp=>{ p.st with g:=aU p.st.g t (.own t),m:=aU (cV u p.st.m) t (b_ x) })))
 (hL:(gN S c n cf).map (λp=>(p.d,p.k,p.dr,a_ S.N p.st.g p.az,kM lo hi bs,ai p.st.m u,St.new { p.st with m:=cV u p.st.m } t))=some (some t,.p (.slice (aI.size α) lo hi),false,some (.own u::bs.map .v),some (a,b),some (b_ s),true):=by kernel_rfl):Le (((mU s a b).bind f).bind e) (bA S c Q cf):=by
 obtain⟨p,hp,hv⟩:=fA hL;simp  at hv;obtain⟨h1,h2⟩:=iU hp;obtain⟨dr,fr,d,gd,now,k,az,dd,l,fs,st⟩:=p;obtain⟨rfl,rfl,rfl,h3,h4,h5,h6⟩:=hv;exact Sd n fr (⟨some t,gd,now,.p (.slice (aI.size α) lo hi),az,dd,[]⟩::l) fs st lo hi u bs  rfl h6 (by grind) λs' hs=>by
  have:=h s' hs;simp only[nx,hp]at this;omega
theorem bE (n u:Nat) (x:α) {m:Option β} (h:Le m (bA S c Q (nx S c n cf λp=>{ p.st with g:=aU p.st.g u (.ptr u 0),m:=aU p.st.m u (bx x) })))
 (hL:(gN S c n cf).map (λp=>(p.d,p.k,a_ S.N p.st.g p.az,p.st.new u))=some (some u,.a .box,some [cv x],true):=by kernel_rfl):Le m (bA S c Q cf):=by
 obtain⟨p,hp,hv⟩:=fA hL;simp  at hv;refine wU hp ?_ h;rw[hv.1,hv.2.1,BC,hv.2.2.1];simp only[ζb,hv.2.2.2,if_true,nV,f_,oF]
def Ns (u o sz:Nat) (xs:List SV) (p:Dj):St:=match ai p.st.m u with
 | some (.box cs)=>b7 { p.st with m:=aU p.st.m u (.box (cs.take o++xs++cs.drop (o+sz))) } p.d (.v .undef)
 | _=>p.st
theorem g_ (n u o:Nat) (x:α) {m:Option β} (h:Le m (bA S c Q (nx S c n cf (Ns u o (aI.size α) ((cells x).map .v)))))
 (hL:(gN S c n cf).map (λp=>(p.k,a_ S.N p.st.g p.az,(!p.dr||p.now),match ai p.st.m u with|some (.box cs)=>Nat.ble (o+aI.size α) cs.length|_=>false))=some (.l (.store (aI.size α)),some [.ptr u o,cv x],true,true):=by kernel_rfl):Le m (bA S c Q cf):=by
 obtain⟨p,hp,hv⟩:=fA hL;simp only[ζc]at hv;refine wU hp ?_ h;obtain⟨h1,h2,h3,h4⟩:=hv;split at h4
 .rename_i cs hcs;have h9:=Nat.le_of_ble_eq_true h4;rw[h1,qW,h2];simp only[ζb,h3,if_true,iX,hcs,putCells,f_,eY,oF,h9,and_self,Option.map_some,Ns]
 simp_all
theorem s6 (n u:Nat) (xs:List α) {m:Option β} (h:Le m (bA S c Q (nx S c n cf λp=>{ p.st with g:=aU p.st.g u (.own u),m:=aU p.st.m u (b_ (.row xs)) })))
 (hL:(gN S c n cf).map (λp=>(p.d,QE p.k,a_ S.N p.st.g p.az,p.st.new u))=some (some u,some (aI.size α,xs.length,List.range' 0 xs.length),some ((xs.map enc).map .v),true):=by kernel_rfl):Le m (bA S c Q cf):=by
 obtain⟨p,hp,hv⟩:=fA hL;simp  at hv;obtain⟨h1,h2⟩:=iU hp;obtain⟨dr,fr,d,gd,now,k,az,dd,l,fs,st⟩:=p;obtain⟨rfl,h5,h3,h4⟩:=hv;obtain⟨z,rfl⟩:=RU h5;exact Ue n dr fr (⟨some u,gd,now,.a (.buildSl (aI.size α) xs.length z (List.range' 0 xs.length)),az,dd,[]⟩::l) fs st xs rfl h4 (by grind) (by
  simp[nx,hp]at h;omega)
theorem BV (n:Nat) (x:α) (vs z:List V) (pl:List (Nat×Nat)) {m:Option β} (hp':jt z pl vs=some (cells x)) (ha:aI.agg α=true) (h:Le m (bA S c Q (nx S c n cf λp=>b7 p.st p.d (cv x))))
 (hL:(gN S c n cf).map (λp=>(p.k,a_ S.N p.st.g p.az))=some (.p (.build z pl),some (vs.map .v)):=by kernel_rfl):Le m (bA S c Q cf):=by
 obtain⟨p,hp,hv⟩:=fA hL;simp  at hv;obtain⟨h1,h2⟩:=iU hp;obtain⟨dr,fr,d,gd,now,k,az,dd,l,fs,st⟩:=p;obtain⟨rfl,h3⟩:=hv;exact TV n dr fr (⟨d,gd,now,.p (.build z pl),az,dd,[]⟩::l) fs st x vs rfl hp' ha (by grind) (by
  simp only[nx,hp]at h;omega)
end
theorem yf (n:Nat) (k:IntKind) {a:ByteArray} {b:Int} {f:Int->Option γ} (h:∀x,jy a b=some x->Le ((f x).bind e) (bA S c Q (nx S c n cf λp=>b7 p.st p.d (.v (.int .u8 x)))))
 (hL:(gN S c n cf).map (λp=>(p.k,a_ S.N p.st.g p.az))=some (.p .idxStr,some [.v (.str a),.v (.int k b)]):=by kernel_rfl):Le (((jy a b).bind f).bind e) (bA S c Q cf):=by
 obtain⟨p,hp,hv⟩:=fA hL;simp  at hv;refine vX hp ?_ h;rw[hv.1];exact Le.of_eq (Mx hv.2)
section
variable {A:α->List V} {E:δ->List V} {pl:α->Option δ} {fn:FuncId} {sc:Bool}
theorem qY (n:Nat) (F:mm S c fn A E pl sc) (z:α) {f:δ->Option γ} (h:∀x,pl z=some x->Le ((f x).bind e) (bA S c Q (nx S c n cf λp=>b7 p.st p.d (.v (result (E x))))))
 (hL:(gN S c n cf).map (λp=>(p.k,(a_ S.N p.st.g p.az).bind oM,(!p.dr||p.now||gw p.st.m p.fr [])))=some (.c,some (fn,(A z).map .v),true):=by kernel_rfl):Le (((pl z).bind f).bind e) (bA S c Q cf):=by
 obtain⟨p,hp,hv⟩:=fA hL;simp  at hv;obtain⟨h3,h4,h5⟩:=hv;obtain⟨svs,g1,g2⟩:=ζg.1 h4;have hnil:∀d (vs:List V),SV.cB d (vs.map .v)=false:=λd vs=>by
  induction vs with
  | nil=>rfl
  | cons a l ih=>simp[SV.cB,SV.bT,ih]
 have ho:(!p.dr||p.now||gw p.st.m p.fr ((A z).map .v))=true:=by
  have:gw p.st.m p.fr ((A z).map .v)=gw p.st.m p.fr []:=by unfold gw;simp[hnil];rfl
  grind
 refine vX hp ?_ h;rw[h3];exact E3 (F.h z) F.k g1 g2 (EX _ _ _) (F.l z) ho (λr=>by rw[F.r,rC];simp)
theorem Rn (n:Nat) (F:mm S c fn A E pl true) (z:α) {f:δ->Option γ} (h:∀x,pl z=some x->Le ((f x).bind e) (bA S c Q (nx S c n cf λp=>b7 p.st p.d (.v (result (E x))))))
 (hL:(gN S c n cf).map (λp=>(p.k,((a_ S.N p.st.g p.az).bind oM).bind λq=>(mE (gY p.st.m 8) q.2).map λvs=>(q.1,vs,((!p.dr||p.now)||gw p.st.m p.fr q.2))))=some (.c,some (fn,A z,true)):=by kernel_rfl):Le (((pl z).bind f).bind e) (bA S c Q cf):=by
 obtain⟨p,hp,hv⟩:=fA hL;simp  at hv;obtain⟨h3,h4⟩:=hv;obtain⟨q,g1,g2⟩:=ζg.1 h4;obtain⟨svs,g3,g4⟩:=ζg.1 g1;obtain⟨vs,g5,g6⟩:=ζf.1 g2;simp only[ζc]at g6;obtain⟨e1,rfl,e3⟩:=g6;refine vX hp ?_ h;rw[h3];exact E3 (F.h z) F.k g3 (by grind) g5 (F.l z) e3 (λr=>by rw[F.r,F.s rfl];rfl)
end
section
variable {N:Nat} [aI α]
theorem ND (n:Nat) (k:IntKind) {a:bg N α} {i:Int} {f:α->Option γ} (h:∀x,a.at i=some x->Le ((f x).bind e) (bA S c Q (nx S c n cf λp=>b7 p.st p.d (.v (.fptr (pa a i))))))
 (hL:(gN S c n cf).map (λp=>(p.k,a_ S.N p.st.g p.az))=some (.p (.idxA N (aI.size α)),some [cp a,.v (.int k i)]):=by kernel_rfl):Le (((a.at i).bind f).bind e) (bA S c Q cf):=by
 obtain⟨p,hp,hv⟩:=fA hL;simp  at hv;obtain⟨h1,h2⟩:=iU hp;obtain⟨dr,fr,d,gd,now,k',az,dd,l,fs,st⟩:=p;obtain⟨rfl,h3⟩:=hv;exact Sr n dr fr (⟨d,gd,now,.p (.idxA N (aI.size α)),az,dd,[]⟩::l) fs st k   rfl (by grind) λx hx=>by
  have:=h x hx;simp only[nx,hp]at this;omega
theorem MA (n k:Nat) (a:bg N α) (i:Int) (o:Nat) (x:α) (hx:a.at i=some x) {m:Option β} (h:Le m (bA S c Q (nx S c n cf λp=>b7 p.st p.d (.v (.fptr ((pa a i).drop (o+k)))))))
 (hL:(gN S c n cf).map (λp=>(p.k,a_ S.N p.st.g p.az,Nat.ble (o+k) (aI.size α)))=some (.p (.fieldAddr k),some [.v (.fptr ((pa a i).drop o))],true):=by kernel_rfl):Le m (bA S c Q cf):=by
 obtain⟨p,hp,hv⟩:=fA hL;simp  at hv;obtain⟨h1,h2⟩:=iU hp;obtain⟨dr,fr,d,gd,now,k',az,dd,l,fs,st⟩:=p;obtain⟨rfl,h3,h4⟩:=hv;exact TW n dr fr (⟨d,gd,now,.p (.fieldAddr k),az,dd,[]⟩::l) fs st a i o x hx rfl (by grind) (by
  simp only[nx,hp]at h;omega)
theorem NF (n sz:Nat) (ag:Bool) (a:bg N α) (i:Int) (o:Nat) (x:α) (hx:a.at i=some x) (v:V) (hv:(cut (cells x) o sz).bind (mk ag)=some v) {m:Option β} (h:Le m (bA S c Q (nx S c n cf λp=>b7 p.st p.d (.v v))))
 (hL:(gN S c n cf).map (λp=>(p.k,a_ S.N p.st.g p.az))=some (.r (.load sz ag),some [.v (.fptr ((pa a i).drop o))]):=by kernel_rfl):Le m (bA S c Q cf):=by
 obtain⟨p,hp,hv'⟩:=fA hL;simp  at hv';obtain⟨h1,h2⟩:=iU hp;obtain⟨dr,fr,d,gd,now,k',az,dd,l,fs,st⟩:=p;obtain⟨rfl,h3⟩:=hv';exact Sz n dr fr (⟨d,gd,now,.r (.load sz ag),az,dd,[]⟩::l) fs st a i o x hx hv v rfl (by grind) (by
  simp only[nx,hp]at h;omega)
theorem Qw (n u:Nat) (st:St) (cs:List SV) {m:Option β} (h4:st.new u=true) (h:Le m (bA S c Q (nx S c n cf λ_=>{ st with g:=aU st.g u (.ptr u 0),m:=aU st.m u (.box cs) })))
 (hL:(gN S c n cf).map (λp=>(p.d,(Ra p.k).map (λz=>z.map SV.v),a_ S.N p.st.g p.az,p.st))=some (some u,some cs,some [],st):=by kernel_rfl):Le m (bA S c Q cf):=by
 obtain⟨p,hp,hv⟩:=fA hL;simp only[ζc]at hv;obtain⟨z,hz,hz2⟩:=fA hv.2.1;obtain⟨k,hk⟩:=QX hz;refine wU hp ?_ h;rw[hv.1,hk,BC,hv.2.2.1,hv.2.2.2];simp[h4,nV,hz2]
theorem DL (n:Nat) (k:IntKind) (u:Nat) {a:bg N α} {i:Int} {f:α->Option γ} (h:∀x,a.at i=some x->Le ((f x).bind e) (bA S c Q (nx S c n cf λp=>b7 p.st p.d (.ptr u (i.toNat*aI.size α+0)))))
 (hL:(gN S c n cf).map (λp=>(p.k,a_ S.N p.st.g p.az,ai p.st.m u))=some (.p (.idxA N (aI.size α)),some [.ptr u 0,.v (.int k i)],some (bx a)):=by kernel_rfl):Le (((a.at i).bind f).bind e) (bA S c Q cf):=by
 obtain⟨p,hp,hv⟩:=fA hL;simp  at hv;obtain⟨h1,h2⟩:=iU hp;obtain⟨dr,fr,d,gd,now,k',az,dd,l,fs,st⟩:=p;obtain⟨rfl,h3,h4⟩:=hv;exact R_ n dr fr (⟨d,gd,now,.p (.idxA N (aI.size α)),az,dd,[]⟩::l) fs st k u   rfl (by grind) λx hx=>by
  have:=h x hx;simp only[nx,hp]at this;omega
theorem N2 (n sz:Nat) (ag:Bool) (u:Nat) (a:bg N α) (i:Int) (o:Nat) (x:α) (hx:a.at i=some x) (v:V) (hv:(cut (cells x) o sz).bind (mk ag)=some v) {m:Option β} (h:Le m (bA S c Q (nx S c n cf λp=>b7 p.st p.d (.v v))))
 (hL:(gN S c n cf).map (λp=>(p.k,a_ S.N p.st.g p.az,ai p.st.m u,(!p.dr||p.now||dN p.fr [.ptr u 0])))=some (.r (.load sz ag),some [.ptr u (i.toNat*aI.size α+o)],some (bx a),true):=by kernel_rfl):Le m (bA S c Q cf):=by
 obtain⟨p,hp,hv'⟩:=fA hL;simp  at hv';obtain⟨h1,h2⟩:=iU hp;obtain⟨dr,fr,d,gd,now,k',az,dd,l,fs,st⟩:=p;obtain⟨rfl,h3,h4,h5⟩:=hv';exact S_ n dr fr (⟨d,gd,now,.r (.load sz ag),az,dd,[]⟩::l) fs st u a i o x hx hv v rfl (by grind) (by
  simp only[nx,hp]at h;omega)
end
section
variable {κ ν:Type} [aI κ] [DecidableEq κ] [Key κ] [aI ν]
theorem S4 (n u:Nat) (mp:Mo κ ν) (k:κ) (z:ν) {m:Option β} (h:Le m (bA S c Q (nx S c n cf λp=>b7 p.st p.d (cv (BW mp k z)))))
 (hL:(gN S c n cf).map (λp=>(p.k,a_ S.N p.st.g p.az,ai p.st.m u,(!p.dr||p.now||dN p.fr [.mp u,cv k])))=some (.r (.lookup (Key.kk κ) (enc z) false),some [.mp u,cv k],some (uv mp),true):=by kernel_rfl):Le m (bA S c Q cf):=by
 obtain⟨p,hp,hv⟩:=fA hL;simp  at hv;obtain⟨h1,h2⟩:=iU hp;obtain⟨dr,fr,d,gd,now,k',az,dd,l,fs,st⟩:=p;obtain⟨rfl,h3,h4,h5⟩:=hv;exact S6 n dr fr (⟨d,gd,now,.r (.lookup (Key.kk κ) (enc z) false),az,dd,[]⟩::l) fs st u mp k z rfl (by grind) (by
  simp only[nx,hp]at h;omega)
theorem TN (n u:Nat) (mp:Mo κ ν) (k:κ) (v:ν) {m:Option β} (h:Le m (bA S c Q (nx S c n cf λp=>b7 { p.st with m:=aU p.st.m u (uv (pQ mp k v)) } p.d (.v .undef))))
 (hL:(gN S c n cf).map (λp=>(p.k,a_ S.N p.st.g p.az,ai p.st.m u,(!p.dr||p.now)))=some (.l (.mapUp (Key.kk κ)),some [.mp u,cv k,cv v],some (uv mp),true):=by kernel_rfl):Le m (bA S c Q cf):=by
 obtain⟨p,hp,hv'⟩:=fA hL;simp  at hv';obtain⟨h1,h2⟩:=iU hp;obtain⟨dr,fr,d,gd,now,k',az,dd,l,fs,st⟩:=p;obtain⟨rfl,h3,h4,h5⟩:=hv';exact TG n dr fr (⟨d,gd,now,.l (.mapUp (Key.kk κ)),az,dd,[]⟩::l) fs st u mp k v rfl (by grind) (by
  simp[nx,hp]at h;omega)
end
theorem SL (n:Nat) (st:St) {rs:List RV} {e:γ->Option (List V)} {r:γ} (svs:List SV) {ys:List V} (h2:mE (gY st.m 8) svs=some ys) (h3:e r=some ys)
 (h:(fW S c n cf.1 cf.2.1 cf.2.2).map (λq=>(q.1,q.2.2,mJ q.2.2 rs))=some (.rt,st,some svs):=by kernel_rfl):Le ((some r).bind e) (bA S c (pO rs) cf):=by
 obtain⟨⟨fo,fs,st'⟩,hp,hv⟩:=fA h;simp  at hv;obtain⟨rfl,rfl,h5⟩:=hv;exact SQ n svs h2 (by rw[hp,h5]) h3
end
end Go.VE
namespace Go.VE
variable [aW]
section
variable {S:Sys} {c:br} {β γ δ α:Type} [aI α] {Q:Out×St->Option β} {e:γ->Option β} {cf:Cf}
def jw (s x:Sl α):Option (Sl α):=if x.l=[]then some s else if s.l.length+x.l.length<=2147483648 then some (.row (s.l++x.l))else none
theorem OV (m:Tb aM) (n w:Nat) (x:Sl α) (hn:n=aI.size α) (hw:ai m w=some (b_ x)):jf m n (.own w)=some (rows x.l):=by
 rw[B4,hw,zA n x hn]
theorem wJ (l:List α):rows l=[]↔l=[]:=by unfold rows;simp
theorem D5 (a b:List α):rows a++rows b=rows (a++b):=by unfold rows;simp
theorem wI (a:List α):(rows a).length=a.length:=by unfold rows;simp
theorem Q7 {st:St} {dr now:Bool} {fr:List Nat} {az:List Arg} {d n o:Nat} {s x:Sl α} {sx:SV} (hs:a_ S.N st.g az=some [.own o,sx]) (hd:(!dr||now)=true) (ho:ai st.m o=some (b_ s)) (hx:jf st.m n sx=some (rows x.l)) (hn:n=aI.size α) (hw:St.new { st with m:=cV o st.m } d=true) :
 dQ S c dr fr ⟨some d,none,now,.l (.append n),az,[],[]⟩ st=(jw s x).bind λs'=>some { st with g:=aU st.g d (.own d),m:=aU (cV o st.m) d (b_ s') }:=by
 rw[qW,hs];simp only[ζb,hd,if_true,uS,OV st.m n o s hn ho,hx];unfold jw
 by_cases h:x.l=[]
 .rw[if_pos h,(wJ x.l).2 h];simp only[tu,ho,if_pos hw,ζb];rfl
 .rw[if_neg h];have hr:rows x.l≠[]:=λe=>h ((wJ _).1 e)
  have ha:tu st d n (.own o) (some (rows s.l)) (some (rows x.l))=if(rows s.l).length+(rows x.l).length<=2147483648/\AK (.own o)=true then(if St.new { st with m:=giveUp st.m (.own o) } d then some (.own d,{ st with m:=aU (giveUp st.m (.own o)) d (.sl .row n (rows s.l++rows x.l)) })else none)else none:=by
   unfold tu;generalize rows x.l=r at *
   cases r with
   | nil=>exact absurd rfl hr
   | cons y r=>rfl
  rw[ha,wI,wI,D5]
  by_cases hl:s.l.length+x.l.length<=2147483648
  .rw[if_pos ⟨hl,rfl⟩,if_pos (show St.new { st with m:=giveUp st.m (.own o) } d=true from hw),if_pos hl];rw[ζb,ζb,hn];rfl
  .rw[if_neg (λk=>hl k.1),if_neg hl];rfl
theorem Te (n o u:Nat) (sx:SV) {s x:Sl α} {f:Sl α->Option γ} (hx:∀p,gN S c n cf=some p->jf p.st.m (aI.size α) sx=some (rows x.l))
 (h:∀s',jw s x=some s'->Le ((f s').bind e) (bA S c Q (nx S c n cf λp=>{ p.st with g:=aU p.st.g u (.own u),m:=aU (cV o p.st.m) u (b_ s') })))
 (hL:(gN S c n cf).map (λp=>(p.d,p.k,a_ S.N p.st.g p.az,(!p.dr||p.now),ai p.st.m o,St.new { p.st with m:=cV o p.st.m } u))=some (some u,.l (.append (aI.size α)),some [.own o,sx],true,some (b_ s),true):=by kernel_rfl):Le (((jw s x).bind f).bind e) (bA S c Q cf):=by
 obtain⟨p,hp,hv⟩:=fA hL;simp only[ζc]at hv;refine vX hp ?_ h;rw[hv.1,hv.2.1];exact Le.of_eq (Q7 hv.2.2.1 hv.2.2.2.1 hv.2.2.2.2.1 (hx p hp) rfl hv.2.2.2.2.2)
theorem w5 (m:Tb aM) (x:Sl α):jf m (aI.size α) (.v (bf x))=some (rows x.l):=by
 cases x <;> simp[bf,Sl.k,Sl.l,mq,jf,rows]
theorem ud (n o u:Nat) {s x:Sl α} {f:Sl α->Option γ}
 (h:∀s',jw s x=some s'->Le ((f s').bind e) (bA S c Q (nx S c n cf λp=>{ p.st with g:=aU p.st.g u (.own u),m:=aU (cV o p.st.m) u (b_ s') })))
 (hL:(gN S c n cf).map (λp=>(p.d,p.k,a_ S.N p.st.g p.az,(!p.dr||p.now),ai p.st.m o,St.new { p.st with m:=cV o p.st.m } u))=some (some u,.l (.append (aI.size α)),some [.own o,.v (bf x)],true,some (b_ s),true):=by kernel_rfl):Le (((jw s x).bind f).bind e) (bA S c Q cf):=
 Te n o u _ (λp _=>w5 p.st.m x) h hL
theorem RE {st:St} {dr now:Bool} {fr:List Nat} {az:List Arg} {d:Nat} {s x:Sl α} {sx:SV} (hk:s=.nil\/s=.emp) (hs:a_ S.N st.g az=some [.v (bf s),sx]) (hd:(!dr||now)=true) (hx:jf st.m (aI.size α) sx=some (rows x.l)) (hw:st.new d=true) :
 dQ S c dr fr ⟨some d,none,now,.l (.append (aI.size α)),az,[],[]⟩ st=(jw s x).bind λs'=>some { st with g:=aU st.g d (.own d),m:=aU st.m d (b_ s') }:=by
 rw[qW,hs];simp only[ζb,hd,if_true,uS,w5,hx];unfold jw
 by_cases h:x.l=[]
 .rw[if_pos h,(wJ x.l).2 h];rcases hk with rfl|rfl <;> (simp only[bf,Sl.k,mq,tu,if_pos hw,ζb,Sl.l,rows,List.map_nil];rfl)
 .rw[if_neg h];have hr:rows x.l≠[]:=λe=>h ((wJ _).1 e)
  have hl0:s.l=[]:=by rcases hk with rfl|rfl <;> rfl
  have ha:tu st d (aI.size α) (.v (bf s)) (some (rows s.l)) (some (rows x.l))=if(rows s.l).length+(rows x.l).length<=2147483648/\AK (.v (bf s))=true then(if St.new { st with m:=giveUp st.m (.v (bf s)) } d then some (.own d,{ st with m:=aU (giveUp st.m (.v (bf s))) d (.sl .row (aI.size α) (rows s.l++rows x.l)) })else none)else none:=by
   unfold tu;generalize rows x.l=r at *
   cases r with
   | nil=>exact absurd rfl hr
   | cons y r=>rfl
  rw[ha,wI,wI,D5];have ho:AK (.v (bf s))=true:=by rcases hk with rfl|rfl <;> rfl
  by_cases hl:s.l.length+x.l.length<=2147483648
  .rw[if_pos ⟨hl,ho⟩,if_pos (show St.new { st with m:=giveUp st.m (.v (bf s)) } d=true from hw),if_pos hl];rfl
  .rw[if_neg (λk=>hl k.1),if_neg hl];rfl
end
end Go.VE
namespace Go.VE
variable [aW]
theorem xz {α:Type} {l:List α} {i:Nat} {x:α} (h:l[i]? = some x):l.set i x=l:=by
 obtain⟨hi,rfl⟩:=ζe.1 h;exact List.set_getElem_self hi
open Classical in
def CI (x:List V):V:=x.headD .undef
section
variable {H:ak} {Z:Nat->Prop}
theorem cr.borrows {xs ys:List V} (h:cr H Z xs ys) (hl:V.b8 8 xs=true):borrows 8 H ys=some xs:=by
 induction xs generalizing ys with
 | nil=>rw[h.bZ];rfl
 | cons x xs ih=>
  obtain⟨y,ys,rfl,h1,h2⟩:=h.inv;simp only[V.b8,ζh]at hl;have:=ih h2 hl.2;unfold Go.VE.borrows at this ⊢;simp only[jS,h1.borrow 8 hl.1,this]
end
end Go.VE
namespace Go.VE
variable [aW]
def aF (N:Nat->FuncId) (F:Frame):Arg->V
 | .s n=>get F n
 | .k c=>c
 | .f s=>.clo (N s) [] []
def aT (E:Env) (N:Nat->FuncId) (call:cu) (b:Option Nat) (now:Bool) (k:K) (vs:List V) (H:ak):Option (V×ak):=
 match k,b with
 | .p p,_=>(aq N p vs).map λv=>(v,H)
 | .r r,none=>(dB H r vs).map λv=>(v,H)
 | .r r,some b=>(dB (H.take b) r vs).map λv=>(v,H)
 | .a a,none=>(gL a vs).map λx=>(x.2.val H.length,H++[x.1])
 | .l l,none=>eA H l vs
 | .l (.store n),some _=>if now then eA H (.store n) vs else none
 | .c,none=>match vs with
  | .clo g a c::av=>if E.keep g then eH E call g (a++av++c) H else match bG call g (a++av++c) H with
   | some y=>if y.scalar then some (y,H)else none
   | none=>none
  | _=>none
 | .c,some b=>match vs with
  | .clo g a c::av=>if E.keep g then none else match bG call g (a++av++c) (H.take b)with
   | some y=>if y.scalar then some (y,H)else none
   | none=>none
  | _=>none
 | _,_=>none
def aB (F:Frame):Option Nat->V->Frame
 | none,_=>F
 | some d,v=>set F d v
def bV (E:Env) (N:Nat->FuncId) (call:cu) (b:Option Nat):List RO->Frame->ak->Option (Frame×ak)
 | [],F,H=>some (F,H)
 | o::r,F,H=>match o.gd with
  | none=>match aT E N call b o.now o.k (o.az.map (aF N F)) H with
   | some (v,H')=>bV E N call b r (aB F o.dst v) H'
   | none=>none
  | some _=>none
section
variable {X:CX} {N:Nat->FuncId} {call:cu} {F F':Frame} {H H':ak}
theorem GB (hN:∀f s,X.nm f=some s->N s=f) {o:Operand} {x:Arg} (h:ny X.nm o=some x):ev F o=some (aF N F x):=by
 cases o with
 | tmp t=>simp only[ny,ζa]at h;subst h;rfl
 | const w=>
  simp only[ny]at h;split at h
  .rename_i c hc;split at h
   .simp only[ζa]at h;subst h;exact hc
   .simp at h
  .simp at h
 | func f=>
  simp only[ny]at h;obtain⟨s,hs,rfl⟩:=ζf.1 h;show some (V.clo f [] [])=some (.clo (N s) [] []);rw[hN f s hs]
 | global i=>
  simp only[ny]at h;split at h
  .rename_i c hc;split at h
   .simp only[ζa]at h;subst h;simp only[ev,hc,Option.map_some];rfl
   .simp at h
  .simp at h
theorem xk (hN:∀f s,X.nm f=some s->N s=f):∀{os:List Operand} {av:List Arg},os.mapM (ny X.nm)=some av->d_ F os=some (av.map (aF N F))
 | [],av,h=>by simp only[List.mapM_nil,Option.pure_def,ζa]at h;subst h;rfl
 | o::os,av,h=>by
  simp only[List.mapM_cons,Option.pure_def,Option.bind_eq_bind,ζg,ζa]at h;obtain⟨x,hx,xs,hxs,rfl⟩:=h;simp only[d_,GB hN hx,xk hN hxs,List.map_cons]
theorem ya (hN:∀f s,X.nm f=some s->N s=f) {draw:Bool} {ops:List Oper} {i:Nat} {o:Oper} {ro:RO} (h:lK X draw ops i o=some ro) (hg:ro.gd=none) :
 o.dst=ro.dst/\wW X.nt o.dst=true/\ez ops F o=true/\((Bb X.E N F o.op (ro.az.map (aF N F)) ro.k/\ro.now=(draw&&cA ops i)/\(draw=true->cA ops i=false->∀a',nF ops i a'=[]\/∀t,o.op≠.load t (.tmp a')))\/(∃n,ro.k=.l (.storeF n))\/(∃n a,ro.k=.r (.loadF n a))\/(draw=true/\v_ ops i=true/\bX o.op=.alloc/\(∃p,ro.k=.p p/\(p=.emptyC\/∃a b,p=.makeC a b)/\∀y,aq N p (ro.az.map (aF N F))=some y->pE X.E F o.op=some y))\/∃n,ro.k=.e n):=by
 unfold lK at h;split at h
 .rename_i hd;split at h
  .rename_i gd k os hgd hr;split at h
   .split at h
    .rename_i hcd;simp only[ζh]at hcd;have hw:∀{gd:Option (Nat×Bool)},Ae ops o=some gd->gd=none->ez ops F o=true:=λ{gd} hgd hg=>by
      subst hg;unfold ez;unfold Ae at hgd
      cases hgo:o.guard with
      | none=>rfl
      | some jb=>
       rw[hgo]at hgd;obtain⟨j,b⟩:=jb;obtain⟨d,_,e⟩:=ζf.1 hgd;cases e
     split at h
     .rename_i hop;obtain⟨av,ha,rfl⟩:=ζf.1 h;have hks:=jo hN hr (xk (F:=F) hN ha);exact⟨rfl,hd,hw hgd hg,.inr (.inr (.inr (.inl ⟨hcd.1,hcd.2,hks.1,_,rfl,.inr ⟨_,_,rfl⟩,λy hy=>AU ⟨_,_,_,by assumption⟩ hks hy⟩)))⟩
     .rename_i hop;split at h
      .rename_i hcn;obtain⟨hsz,rfl,rfl⟩:=hcn;obtain⟨av,ha,rfl⟩:=ζf.1 h;have hks:=jo hN hr (xk (F:=F) hN ha);exact⟨rfl,hd,hw hgd hg,.inr (.inr (.inr (.inl ⟨hcd.1,hcd.2,hks.1,_,rfl,.inl rfl,λy hy=>Bm ⟨_,_,_,by assumption⟩ hks hsz hy⟩)))⟩
      .cases h
     .cases h
    obtain⟨av,ha,rfl⟩:=ζf.1 h;simp only at hg;subst hg;refine⟨rfl,hd,?_,?_⟩
    .unfold ez;unfold Ae at hgd
     cases hgo:o.guard with
     | none=>rfl
     | some jb=>
      rw[hgo]at hgd;obtain⟨j,b⟩:=jb;obtain⟨d,_,e⟩:=ζf.1 hgd;cases e
    .rcases A0 draw ops i k os with⟨e,hqr⟩|⟨_,_,n,a,l,os',_,_,_,e⟩|⟨_,_,n,ag,a,_,_,e⟩|⟨_,_,_,n,_,e⟩
     .rw[e]at ha ⊢;refine .inl ⟨jo hN hr (xk hN ha),rfl,λhd hl a'=>?_⟩
      by_cases hp:∃t,o.op=.load t (.tmp a')
      .obtain⟨t,hp⟩:=hp;rw[hp]at hr;simp only[resolve]at hr;obtain⟨d,_,e⟩:=ζf.1 hr;simp only[ζc]at e;exact .inl (hqr _ _ a' hd hl e.1.symm e.2.symm)
      .exact .inr λt h=>hp ⟨t,h⟩
     .rw[e];exact .inr (.inl ⟨n,rfl⟩)
     .rw[e];exact .inr (.inr (.inl ⟨n,ag,rfl⟩))
     .rw[e];exact .inr (.inr (.inr (.inr ⟨n,rfl⟩)))
   .simp at h
  .simp at h
 .simp at h
theorem Ez {nt:Nat} {dst:Option Nat} (h:wW nt dst=true) (v:V):iZ nt F dst v=some (aB F dst v):=by
 cases dst with
 | none=>rfl
 | some d=>simp only[wW,decide_eq_true_eq]at h;simp only[iZ,if_pos h,aB]
theorem Rz (hN:∀f s,X.nm f=some s->N s=f) {ops:List Oper} {i:Nat} {o:Oper} {ro:RO} (h:lK X false ops i o=some ro) (hg:ro.gd=none) {v:V} (hv:aT X.E N call none ro.now ro.k (ro.az.map (aF N F)) H=some (v,H')) :
 eW X.E call X.nt ops none o F H=some (aB F ro.dst v,H'):=by
 obtain⟨h1,h2,h3,h4⟩:=ya (F:=F) hN h hg;have hd:cg X.E call ops none F H o.op=some (v,H'):=by
  rcases h4 with⟨h4,_⟩|⟨n,h4⟩|⟨n,a,h4⟩|⟨h4,_⟩|⟨n,h4⟩
  .generalize hk:ro.k=k at hv h4;generalize ro.az.map (aF N F)=vs at hv h4;unfold cg
   cases k with
   | p p=>
    obtain⟨c,e⟩:=h4;obtain⟨w,hw,he⟩:=ζf.1 hv;rw[c];simp only[e w hw,Option.map_some];rw[he]
   | r r=>
    obtain⟨c,e⟩:=h4;obtain⟨w,hw,he⟩:=ζf.1 hv;rw[c];simp only[e H w hw,Option.map_some];rw[he]
   | a a=>
    obtain⟨c,e⟩:=h4;obtain⟨⟨ob,m⟩,hw,he⟩:=ζf.1 hv;rw[c];simp only[pI,Bool.false_eq_true,if_false,e _ hw];exact congrArg some he
   | l l=>
    obtain⟨c,e⟩:=h4;rw[c];exact e H _ hv
   | e n=>exact h4.elim
   | c=>
    obtain⟨c,f,av,rfl,e⟩:=h4;rw[c];simp only[aT]at hv;split at hv
    .rename_i g a b az' heq;simp only[List.cons.injEq]at heq;obtain⟨rfl,rfl⟩:=heq;split at hv
     .rename_i hk2;simp only[e,jD,hk2,Bool.and_self,if_true];exact hv
     .rename_i hk2;split at hv
      .rename_i y hy;split at hv
       .rename_i hsc;simp only[e,jD,hk2,Bool.false_and,Bool.false_eq_true,if_false,hy,hsc,if_true];exact hv
       .simp at hv
      .simp at hv
    .simp at hv
  .rw[h4]at hv;exfalso;have:∀ops i k os,(vO false ops i k os).1=k:=λ_ _ _ _=>rfl
   unfold lK at h;simp only[Bool.false_and,Bool.false_eq_true,if_false]at h;split at h
   .split at h
    .rename_i gd k os hgd hr;split at h
     .obtain⟨av,ha,rfl⟩:=ζf.1 h;simp only[this]at h4;subst h4;unfold resolve at hr
      (repeat' split at hr) <;> first|(simp at hr;done)|(obtain⟨_,_,e⟩:=ζf.1 hr;simp at e;done)
     .simp at h
    .simp at h
   .first|(simp at h;done)|contradiction
  .rw[h4]at hv;simp[aT,dB]at hv
  .cases h4
  .rw[h4]at hv;simp[aT]at hv
 unfold eW;rw[h3,if_pos rfl,hd];simp only[h1,Ez (h1▸h2),Option.map_some]
theorem D8 (hN:∀f s,X.nm f=some s->N s=f) {ops:List Oper}:∀(rest:List Oper) {i:Nat} {ros:List RO} {F:Frame} {H:ak},jK X false ops i rest=some ros->bV X.E N call none ros F H=some (F',H')->kC X.E call X.nt ops rest F H=some (F',H')
 | [],i,ros,F,H,hc,h=>by
  simp only[jK,ζa]at hc;subst hc;exact h
 | o::rest,i,ros,F,H,hc,h=>by
  simp only[jK]at hc;split at hc
  .rename_i ro rs h1 h2;simp only[ζa]at hc;subst hc;simp only[bV]at h;split at h
   .rename_i hg;split at h
    .rename_i v H1 hv;simp only[kC,Rz hN h1 hg hv];exact D8 hN rest h2 h
    .simp at h
   .simp at h
  .simp at hc
theorem OI {ops:List Oper} {i:Nat} {op:Op} (h:∀t a',op=.load t (.tmp a')->nF ops i a'=[]):lV ops i F op=true:=by
 unfold lV;split
 .rw[h _ _ rfl];rfl
 .rfl
theorem QD (hN:∀f s,X.nm f=some s->N s=f) {ops:List Oper} {b i:Nat} {o:Oper} (ho:ops[i]? = some o) {ro:RO} (h:lK X true ops i o=some ro) (hg:ro.gd=none) {v:V} (hv:aT X.E N call (some b) ro.now ro.k (ro.az.map (aF N F)) H=some (v,H')) :
 eW X.E call X.nt ops (some (b,i)) o F H=some (aB F ro.dst v,H'):=by
 obtain⟨h1,h2,h3,h4⟩:=ya (F:=F) hN h hg;have hd:cg X.E call ops (some (b,i)) F H o.op=some (v,H'):=by
  rcases h4 with⟨h4,hnow,hfar⟩|⟨n,h4⟩|⟨n,a,h4⟩|⟨_,hcd,hcl,p,h4,_,hks⟩|⟨n,h4⟩
  .generalize hk:ro.k=k at hv h4;generalize ro.az.map (aF N F)=vs at hv h4;unfold cg
   cases k with
   | p p=>
    obtain⟨c,e⟩:=h4;obtain⟨w,hw,he⟩:=ζf.1 hv;rw[c];simp only[e w hw,Option.map_some];rw[he]
   | r r=>
    obtain⟨c,e⟩:=h4;obtain⟨w,hw,he⟩:=ζf.1 hv;have hfr:lV ops i F o.op=true:=OI λt a' e=>by
     by_cases hl:cA ops i=true
     .exact Bq ho e hl
     .rcases hfar rfl (by simpa using hl) a' with h|h
      .exact h
      .exact absurd e (h t)
    rw[c];simp only[e _ w hw,hfr,if_true];rw[he]
   | a a=>simp[aT]at hv
   | l l=>
    obtain⟨c,e⟩:=h4
    cases l with
    | store n=>
     simp only[aT]at hv;split at hv
     .rename_i hn;rw[hnow,Bool.true_and]at hn;rw[c];simp only[hn,Bool.true_or,if_true];exact e H _ hv
     .simp at hv
    | _=>simp[aT]at hv
   | e n=>exact h4.elim
   | c=>
    obtain⟨c,f,av,rfl,e⟩:=h4;rw[c];simp only[aT]at hv;split at hv
    .rename_i g a b az' heq;simp only[List.cons.injEq]at heq;obtain⟨rfl,rfl⟩:=heq;split at hv
     .simp at hv
     .rename_i hk2;split at hv
      .rename_i y hy;split at hv
       .rename_i hsc;simp only[e,jD,hk2,Bool.false_and,Bool.false_eq_true,if_false,hy,hsc,if_true];exact hv
       .simp at hv
      .simp at hv
    .simp at hv
  .rw[h4]at hv;simp[aT]at hv
  .rw[h4]at hv;simp[aT,dB]at hv
  .rw[h4]at hv;obtain⟨w,hw,he⟩:=ζf.1 hv;have hcv:=hks w hw;unfold cg;rw[hcl];simp only[pI,hcd,if_true,hcv,Option.map_some];exact congrArg some he
  .rw[h4]at hv;simp[aT]at hv
 unfold eW;rw[h3,if_pos rfl,hd];simp only[h1,Ez (h1▸h2),Option.map_some]
theorem D9 (hN:∀f s,X.nm f=some s->N s=f) {ops:List Oper} {b:Nat}:∀(rest:List Oper) {i:Nat} {ros:List RO} {F:Frame} {H:ak},ops.drop i=rest->jK X true ops i rest=some ros->bV X.E N call (some b) ros F H=some (F',H') ->
 iM X.E call X.nt ops b (List.range' i rest.length) F H=some (F',H')
 | [],i,ros,F,H,_,hc,h=>by
  simp only[jK,ζa]at hc;subst hc;exact h
 | o::rest,i,ros,F,H,hd,hc,h=>by
  simp only[jK]at hc;split at hc
  .rename_i ro rs h1 h2;simp only[ζa]at hc;subst hc;simp only[bV]at h;split at h
   .rename_i hg;split at h
    .rename_i v H1 hv;have ho:ops[i]? = some o:=by
      have:(ops.drop i)[0]? = some o:=by rw[hd];rfl
      rwa [List.getElem?_drop,Nat.add_zero]at this
     have hd':ops.drop (i+1)=rest:=by
      rw[<-List.drop_drop,hd];rfl
     simp only[List.length_cons,List.range'_succ,iM,ho,QD hN ho h1 hg hv];exact D9 hN rest hd' h2 h
    .simp at h
   .simp at h
  .simp at hc
def vU (l:List RO):Bool:=l.all λo=>(match o.k with|.a _|.l (.storeF _)|.r (.loadF ..)|.p (.makeC ..)|.p .emptyC|.e _=>false|_=>true)&&o.gd.isNone
theorem BH (hN:∀f s,X.nm f=some s->N s=f) {ops:List Oper}:∀(rest:List Oper) {i:Nat} {ros:List RO},jK X true ops i rest=some ros->vU ros=true->rest.any (λo=>bX o.op==.alloc)=false
 | [],_,_,_,_=>rfl
 | o::rest,i,ros,hc,hn=>by
  simp only[jK]at hc;split at hc
  .rename_i ro rs h1 h2;simp only[ζa]at hc;subst hc;simp only[vU,List.all_cons,ζh,Option.isNone_iff_eq_none]at hn;obtain⟨_,_,_,h4⟩:=ya (F:=[]) hN h1 hn.1.2;rw[List.any_cons,BH hN rest h2 hn.2,Bool.or_false];rcases h4 with⟨h4,_⟩|⟨n,h4⟩|⟨n,a,h4⟩|⟨_,_,_,p,h4,hpp,_⟩|⟨n,h4⟩
   .cases hk:ro.k with
    | a p=>have:=hn.1.1;rw[hk]at this;cases this
    | e p=>have:=hn.1.1;rw[hk]at this;cases this
    | _=>rw[hk]at h4;rw[h4.1];rfl
   .have:=hn.1.1;rw[h4]at this;cases this
   .have:=hn.1.1;rw[h4]at this;cases this
   .have:=hn.1.1;rw[h4]at this;rcases hpp with rfl|⟨_,_,rfl⟩ <;> cases this
   .have:=hn.1.1;rw[h4]at this;cases this
  .simp at hc
def fJ (E:Env) (N:Nat->FuncId) (call:cu) (lf:Nat):RC->Frame->ak->Option (Out×Frame×ak)
 | .skip,F,H=>some (.norm,F,H)
 | .ops l,F,H=>(bV E N call none l F H).map λx=>(.norm,x.1,x.2)
 | .nH l,F,H=>if vU l then(bV E N call (some H.length) l F H).map λx=>(.norm,x.1,x.2)else none
 | .seq a b,F,H=>match fJ E N call lf a F H with
  | some (.norm,F',H')=>fJ E N call lf b F' H'
  | r=>r
 | .cond x a b,F,H=>match aF N F x with
  | .bool t=>if t then fJ E N call lf a F H else fJ E N call lf b F H
  | _=>none
 | .block id c,F,H=>match fJ E N call lf c F H with
  | some (.exit id',F',H')=>if id'=id then some (.norm,F',H')else some (.exit id',F',H')
  | r=>r
 | .loop c,F,H=>js (fJ E N call lf c) lf F H
 | .exit id,F,H=>some (.exit id,F,H)
 | .ret,F,H=>some (.ret,F,H)
 | _,_,_=>none
theorem Ek {f g:Frame->ak->Option (Out×Frame×ak)} (h:∀F H r,f F H=some r->g F H=some r):∀(k:Nat) (F:Frame) (H:ak) (r:Out×Frame×ak),js f k F H=some r->js g k F H=some r
 | 0,F,H,r,hr=>by simp[js]at hr
 | k+1,F,H,r,hr=>by
  simp only[js]at hr ⊢
  cases hf:f F H with
  | none=>rw[hf]at hr;simp at hr
  | some q=>
   rw[hf]at hr;rw[h F H q hf];obtain⟨o,F1,H1⟩:=q
   cases o with
   | norm=>exact Ek h k F1 H1 r hr
   | exit _=>exact hr
   | ret=>exact hr
theorem LM (hN:∀f s,X.nm f=some s->N s=f) {lf:Nat}:∀(rc:RC) (code:Code) (F:Frame) (H:ak) (r:Out×Frame×ak),aP X false code=some rc->fJ X.E N call lf rc F H=some r->exec X.E call lf false X.nt code F H=some r:=by
 intro rc
 induction rc with
 | skip=>
  intro code F H r hc h;simp only[fJ,ζa]at h;subst h
  cases code with
  | skip=>rfl
  | label _=>rfl
  | region id ops draw=>simp only[aP]at hc;(repeat' split at hc) <;> first|(simp at hc;done)|(obtain⟨_,_,e⟩:=ζf.1 hc;cases e)
  | _=>simp only[aP]at hc;(repeat' split at hc) <;> first|(simp at hc;done)|(obtain⟨_,_,e⟩:=ζf.1 hc;cases e)|cases hc
 | ops l=>
  intro code F H r hc h
  cases code with
  | region id ops draw=>
   simp only[aP]at hc;split at hc
   .split at hc
    .obtain⟨_,_,e⟩:=ζf.1 hc;cases e
    .simp at hc
   .rename_i hd;obtain⟨l',hl,e⟩:=ζf.1 hc;cases e;simp only[fJ]at h;obtain⟨⟨F',H'⟩,hv,rfl⟩:=ζf.1 h;simp only[exec,iB,hd];rw[if_neg (by simp),D8 hN _ hl hv];rfl
  | _=>simp only[aP]at hc;(repeat' split at hc) <;> first|(simp at hc;done)|(obtain⟨_,_,e⟩:=ζf.1 hc;cases e)|cases hc
 | nH l=>
  intro code F H r hc h
  cases code with
  | region id ops draw=>
   simp only[aP]at hc;split at hc
   .rename_i hd;split at hc
    .rename_i hok;obtain⟨l',hl,e⟩:=ζf.1 hc;cases e;simp only[fJ]at h;split at h
     .rename_i hn;obtain⟨⟨F',H'⟩,hv,rfl⟩:=ζf.1 h;have ha:pT ops.toList=false:=BH hN _ hl hn;have:=D9 hN ops.toList (i:=0) rfl hl hv;rw[<-List.range_eq_range']at this;simp only[exec,iB,hd,hok,if_true,ha,Bool.false_eq_true,if_false,this];rfl
     .simp at h
    .simp at hc
   .obtain⟨_,_,e⟩:=ζf.1 hc;cases e
  | _=>simp only[aP]at hc;(repeat' split at hc) <;> first|(simp at hc;done)|(obtain⟨_,_,e⟩:=ζf.1 hc;cases e)|cases hc
 | seq a b iha ihb=>
  intro code F H r hc h
  cases code with
  | seq a' b'=>
   simp only[aP]at hc;split at hc
   .rename_i x y hx hy;cases hc;simp only[fJ]at h;simp only[exec]
    cases hva:fJ X.E N call lf a F H with
    | none=>rw[hva]at h;simp at h
    | some q=>
     rw[hva]at h;rw[iha a' F H q hx hva];obtain⟨o,F1,H1⟩:=q
     cases o with
     | norm=>exact ihb b' F1 H1 r hy h
     | exit _=>exact h
     | ret=>exact h
   .simp at hc
  | region id ops draw=>simp only[aP]at hc;(repeat' split at hc) <;> first|(simp at hc;done)|(obtain⟨_,_,e⟩:=ζf.1 hc;cases e)
  | _=>simp only[aP]at hc;(repeat' split at hc) <;> first|(simp at hc;done)|(obtain⟨_,_,e⟩:=ζf.1 hc;cases e)|cases hc
 | cond x a b iha ihb=>
  intro code F H r hc h
  cases code with
  | cond c a' b'=>
   simp only[aP]at hc;split at hc
   .rename_i x' y z hx hy hz;cases hc;simp only[fJ]at h;simp only[exec,GB (F:=F) hN hx];split at h
    .rename_i t ht;rw[ht]
     cases t with
     | true=>simp only[if_true]at h ⊢;exact iha a' F H r hy h
     | false=>simp only[Bool.false_eq_true,if_false]at h ⊢;exact ihb b' F H r hz h
    .simp at h
   .simp at hc
  | region id ops draw=>simp only[aP]at hc;(repeat' split at hc) <;> first|(simp at hc;done)|(obtain⟨_,_,e⟩:=ζf.1 hc;cases e)
  | _=>simp only[aP]at hc;(repeat' split at hc) <;> first|(simp at hc;done)|(obtain⟨_,_,e⟩:=ζf.1 hc;cases e)|cases hc
 | block id c ih=>
  intro code F H r hc h
  cases code with
  | block id' c'=>
   simp only[aP]at hc;obtain⟨x,hx,e⟩:=ζf.1 hc;cases e;simp only[fJ]at h;simp only[exec]
   cases hva:fJ X.E N call lf c F H with
   | none=>rw[hva]at h;simp at h
   | some q=>
    rw[hva]at h;rw[ih c' F H q hx hva];exact h
  | region id ops draw=>simp only[aP]at hc;(repeat' split at hc) <;> first|(simp at hc;done)|(obtain⟨_,_,e⟩:=ζf.1 hc;cases e)
  | _=>simp only[aP]at hc;(repeat' split at hc) <;> first|(simp at hc;done)|(obtain⟨_,_,e⟩:=ζf.1 hc;cases e)|cases hc
 | loop c ih=>
  intro code F H r hc h
  cases code with
  | loop c'=>
   simp only[aP]at hc;obtain⟨x,hx,e⟩:=ζf.1 hc;cases e;simp only[fJ]at h;simp only[exec];exact Ek (λF H r hr=>ih c' F H r hx hr) lf F H r h
  | region id ops draw=>simp only[aP]at hc;(repeat' split at hc) <;> first|(simp at hc;done)|(obtain⟨_,_,e⟩:=ζf.1 hc;cases e)
  | _=>simp only[aP]at hc;(repeat' split at hc) <;> first|(simp at hc;done)|(obtain⟨_,_,e⟩:=ζf.1 hc;cases e)|cases hc
 | exit id=>
  intro code F H r hc h
  cases code with
  | exit id'=>simp only[aP,ζa,RC.exit.injEq]at hc;subst hc;exact h
  | region id ops draw=>simp only[aP]at hc;(repeat' split at hc) <;> first|(simp at hc;done)|(obtain⟨_,_,e⟩:=ζf.1 hc;cases e)
  | _=>simp only[aP]at hc;(repeat' split at hc) <;> first|(simp at hc;done)|(obtain⟨_,_,e⟩:=ζf.1 hc;cases e)|cases hc
 | ret=>
  intro code F H r hc h
  cases code with
  | ret=>exact h
  | region id ops draw=>simp only[aP]at hc;(repeat' split at hc) <;> first|(simp at hc;done)|(obtain⟨_,_,e⟩:=ζf.1 hc;cases e)
  | _=>simp only[aP]at hc;(repeat' split at hc) <;> first|(simp at hc;done)|(obtain⟨_,_,e⟩:=ζf.1 hc;cases e)|cases hc
 | _=>intro code F H r hc h;simp[fJ]at h
end
end Go.VE
namespace Go.VE
variable [aW]
def Ex (E:Env) (N:Nat->FuncId) (rc:RC) (F:Frame) (H:ak) (o:Out) (F':Frame) (H':ak):Prop:=
 ∃n,∀k,n<=k->fJ E N (run E k) k rc F H=some (o,F',H')
def mB (E:Env) (N:Nat->FuncId) (rc:RC) (F:Frame) (H:ak) (o:Out) (F':Frame) (H':ak):Prop:=
 ∃n,∀k,n<=k->∀lf,n<=lf->js (fJ E N (run E k) k rc) lf F H=some (o,F',H')
section
variable {E:Env} {N:Nat->FuncId} {a b c:RC} {F F1 F':Frame} {H H1 H':ak} {o:Out} {x:Arg} {id:Nat}
theorem Ex.ops {l:List RO} (h:∃n,∀k,n<=k->bV E N (run E k) none l F H=some (F',H')):Ex E N (.ops l) F H .norm F' H':=
 let ⟨n,h⟩:=h;⟨n,λk hk=>by simp only[fJ,h k hk,Option.map_some]⟩
theorem Ex.dy {l:List RO} (h:∀call,bV E N call none l F H=some (F',H')):Ex E N (.ops l) F H .norm F' H':=Ex.ops ⟨0,λk _=>h _⟩
theorem Ex.nH {l:List RO} (hn:vU l=true) (h:∀call,bV E N call (some H.length) l F H=some (F',H')):Ex E N (.nH l) F H .norm F' H':=
 ⟨0,λk _=>by simp only[fJ,hn,if_true,h,Option.map_some]⟩
theorem Ex.IK {l:List RO} (hn:vU l=true) (h:∃n,∀k,n<=k->bV E N (run E k) (some H.length) l F H=some (F',H')):Ex E N (.nH l) F H .norm F' H':=
 let ⟨n,h⟩:=h;⟨n,λk hk=>by simp only[fJ,hn,if_true,h k hk,Option.map_some]⟩
theorem Ex.skip:Ex E N .skip F H .norm F H:=⟨0,λ_ _=>rfl⟩
theorem Ex.exit:Ex E N (.exit id) F H (.exit id) F H:=⟨0,λ_ _=>rfl⟩
theorem Ex.ret:Ex E N .ret F H .ret F H:=⟨0,λ_ _=>rfl⟩
theorem Ex.seq (h1:Ex E N a F H .norm F1 H1) (h2:Ex E N b F1 H1 o F' H'):Ex E N (.seq a b) F H o F' H':=by
 obtain⟨n,h1⟩:=h1;obtain⟨m,h2⟩:=h2;exact⟨max n m,λk hk=>by simp only[fJ,h1 k (by omega)];exact h2 k (by omega)⟩
theorem Ex.vu (h1:Ex E N a F H o F' H') (ho:o≠.norm):Ex E N (.seq a b) F H o F' H':=by
 obtain⟨n,h1⟩:=h1;refine⟨n,λk hk=>?_⟩
 simp only[fJ,h1 k hk];cases o <;> first|exact absurd rfl ho|rfl
theorem Ex.oE (hx:aF N F x=.bool true) (h:Ex E N a F H o F' H'):Ex E N (.cond x a b) F H o F' H':=by
 obtain⟨n,h⟩:=h;exact⟨n,λk hk=>by simp only[fJ,hx,if_true,h k hk]⟩
theorem Ex.tN (hx:aF N F x=.bool false) (h:Ex E N b F H o F' H'):Ex E N (.cond x a b) F H o F' H':=by
 obtain⟨n,h⟩:=h;exact⟨n,λk hk=>by simp only[fJ,hx,Bool.false_eq_true,if_false,h k hk]⟩
theorem Ex.block (h:Ex E N c F H .norm F' H'):Ex E N (.block id c) F H .norm F' H':=by
 obtain⟨n,h⟩:=h;exact⟨n,λk hk=>by simp only[fJ,h k hk]⟩
theorem Ex.wq (h:Ex E N c F H (.exit id) F' H'):Ex E N (.block id c) F H .norm F' H':=by
 obtain⟨n,h⟩:=h;exact⟨n,λk hk=>by simp only[fJ,h k hk,if_true]⟩
theorem Ex.Lh (h:Ex E N c F H .ret F' H'):Ex E N (.block id c) F H .ret F' H':=by
 obtain⟨n,h⟩:=h;exact⟨n,λk hk=>by simp only[fJ,h k hk]⟩
theorem Ex.loop (h:mB E N c F H o F' H'):Ex E N (.loop c) F H o F' H':=by
 obtain⟨n,h⟩:=h;exact⟨n,λk hk=>h k hk k hk⟩
theorem mB.step (h1:Ex E N c F H .norm F1 H1) (h2:mB E N c F1 H1 o F' H'):mB E N c F H o F' H':=by
 obtain⟨n,h1⟩:=h1;obtain⟨m,h2⟩:=h2;refine⟨max n m+1,λk hk lf hl=>?_⟩
 cases lf with
 | zero=>omega
 | succ lf=>simp only[js,h1 k (by omega)];exact h2 k (by omega) lf (by omega)
theorem mB.stop (h1:Ex E N c F H o F' H') (ho:o≠.norm):mB E N c F H o F' H':=by
 obtain⟨n,h1⟩:=h1;refine⟨n+1,λk hk lf hl=>?_⟩
 cases lf with
 | zero=>omega
 | succ lf=>
  simp only[js,h1 k (by omega)]
  cases o <;> first|exact absurd rfl ho|rfl
end
theorem Ex.run {E:Env} {nm:FuncId->Option Nat} {N:Nat->FuncId} (hN:∀f s,nm f=some s->N s=f) {f:FuncId} {fi:FI} {rc:RC} (hf:E.ft f=some fi) (hc:aP ⟨E,nm,fi.ntmps⟩ false fi.body=some rc) {args:List V} (ha:args.length<=fi.ntmps) {H H':ak} {F':Frame}
 (h:Ex E N rc args H .ret F' H') {vs:List V} (hr:ig E F' H' fi.results=some vs):∃n,run E n (.fn f) args H=some (result vs,H'):=by
 obtain⟨n,h⟩:=h;refine⟨n+1,?_⟩;have:=LM (X:=⟨E,nm,fi.ntmps⟩) (call:=Go.VE.run E n) hN (lf:=n) rc fi.body args H _ hc (h n (Nat.le_refl _));simp only[Go.VE.run,hf,if_pos ha,this,hr,Option.map_some]
@[simp] theorem ax (F:Frame) (i j:Nat) (v:V):get (set F i v) j=if i=j then v else get F j:=by
 split
 .rename_i h;subst h;exact tM F i v
 .rename_i h;exact gX F v h
def refs:List Nat->List (List V)->List (List V)
 | id::ids,r::rs=>[V.hsl id 1 0 r.length]::refs ids rs
 | _,_=>[]
def gR (r:List V):List (List V):=r.map λu=>[u]
structure kE (H:ak) (w:V) (o:Nat) (ids:List Nat) (rows:List (List V)):Prop where
 v:w=if rows=[]then .aR else .hsl o 1 0 rows.length
 ob:rows≠[]->H[o]? = some (.row 1 (refs ids rows))
 len:ids.length=rows.length
 r:∀(i id:Nat) (r:List V),ids[i]? = some id->rows[i]? = some r->H[id]? = some (.row 1 (gR r))
 nd:ids.Nodup
 ne:rows≠[]->o∉ids
theorem rL:∀{ids:List Nat} {rows:List (List V)},ids.length=rows.length->(refs ids rows).length=rows.length
 | [],[],_=>rfl
 | _::ids,_::rows,h=>by simp only[refs,List.length_cons,rL (ids:=ids) (rows:=rows) (by simpa using h)]
theorem Eb:∀{ids:List Nat} {rows:List (List V)} (id:Nat) (r:List V),ids.length=rows.length->refs (ids++[id]) (rows++[r])=refs ids rows++[[V.hsl id 1 0 r.length]]
 | [],[],_,_,_=>rfl
 | _::ids,_::rows,id,r,h=>by simp only[refs,List.cons_append,Eb (ids:=ids) (rows:=rows) id r (by simpa using h)]
theorem Aa:∀{ids:List Nat} {rows:List (List V)} {i id:Nat} {r:List V},ids[i]? = some id->rows[i]? = some r->(refs ids rows)[i]? = some [V.hsl id 1 0 r.length]
 | [],_,_,_,_,h,_=>by simp at h
 | _::_,[],_,_,_,_,h=>by simp at h
 | a::ids,b::rows,0,id,r,h1,h2=>by simp at h1 h2;subst h1 h2;rfl
 | a::ids,b::rows,i+1,id,r,h1,h2=>by simpa [refs]using Aa (ids:=ids) (rows:=rows) (i:=i) (by simpa using h1) (by simpa using h2)
theorem FG:∀{ids:List Nat} {rows:List (List V)} {i:Nat} {r r':List V},rows[i]? = some r->r'.length=r.length->refs ids (rows.set i r')=refs ids rows
 | [],_,_,_,_,_,_=>by simp[refs]
 | _::_,[],_,_,_,_,_=>by simp[refs]
 | a::ids,b::rows,0,r,r',h,hl=>by simp at h;subst h;simp only[List.set_cons_zero,refs,hl]
 | a::ids,b::rows,i+1,r,r',h,hl=>by simp only[List.set_cons_succ,refs,FG (ids:=ids) (rows:=rows) (i:=i) (by simpa using h) hl]
section
variable {H H':ak} {v:V} {o:Nat} {ids:List Nat} {rows:List (List V)}
theorem kE.nil (H:ak) (o:Nat):kE H .aR o [] []:=⟨rfl,λh=>absurd rfl h,rfl,λi id r h=>by simp at h,.nil,λh=>absurd rfl h⟩
theorem kE.heap (n:kE H v o ids rows) (ho:rows≠[]->H'[o]? = H[o]?) (hi:∀id∈ids,H'[id]? = H[id]?):kE H' v o ids rows:=
 ⟨n.v,λh=>by rw[ho h];exact n.ob h,n.len,λi id r h1 h2=>by rw[hi id (List.mem_of_getElem? h1)];exact n.r i id r h1 h2,n.nd,n.ne⟩
theorem kE.lt (n:kE H v o ids rows):(rows≠[]->o<H.length)/\∀id∈ids,id<H.length:=by
 refine⟨λh=>(ζe.1 (n.ob h)).1,λid hid=>?_⟩
 obtain⟨i,hi⟩:=List.getElem?_of_mem hid;have hl:=(ζe.1 hi).1;have:=n.r i id _ hi (ζd (show i<rows.length from n.len▸hl));exact(ζe.1 this).1
theorem kE.more (n:kE H v o ids rows) (X:ak):kE (H++X) v o ids rows:=
 n.heap (λh=>List.getElem?_append_left (n.lt.1 h)) λid hid=>List.getElem?_append_left (n.lt.2 id hid)
theorem kE.push (n:kE H v o ids rows) (r:List V) (hl:rows.length+1<=2147483648) :
 ∃H',eA (H++[.row 1 (gR r)]++[.row 1 [[.hsl H.length 1 0 r.length]]]) (.append 1) [v,.hsl (H.length+1) 1 0 1]=some (.hsl (H.length+2) 1 0 (rows.length+1),H') /\
  kE H' (.hsl (H.length+2) 1 0 (rows.length+1)) (H.length+2) (ids++[H.length]) (rows++[r])/\H.length<=H'.length/\(∀id,id<H.length->id≠o\/rows=[]->H'[id]? = H[id]?):=by
 generalize hH2:H++[.row 1 (gR r)]++[.row 1 [[.hsl H.length 1 0 r.length]]]=H2;have hlen:H2.length=H.length+2:=by subst hH2;simp
 have hlo:∀id,id<H.length->H2[id]? = H[id]? := λid h=>by
  subst hH2;rw[List.append_assoc,List.getElem?_append_left h]
 have h1:H2[H.length]? = some (.row 1 (gR r)):=by subst hH2;simp
 have h2:H2[H.length+1]? = some (.row 1 [[.hsl H.length 1 0 r.length]]):=by subst hH2;simp
 have hv:=n.v;have e2:cW H2 1 (.hsl (H.length+1) 1 0 1)=some [[.hsl H.length 1 0 r.length]]:=by
  simp[cW,h2,Ob.rows]
 by_cases hr:rows=[]
 .subst hr;rw[if_pos rfl]at hv;subst hv;have:ids=[]:=List.eq_nil_of_length_eq_zero n.len;subst this;refine⟨H2++[.row 1 [[.hsl H.length 1 0 r.length]]],?_,⟨by simp,λ_=>by rw[<-hlen];simp[refs],rfl,λi id r' hi hr'=>?_,by simp,λ_=>by simp⟩,by simp[hlen];omega,λid hid _=>?_⟩
  .have e1:cW H2 1 .aR=some []:=rfl;simp only[eA,e1,e2,fQ,List.length_nil,List.length_singleton,Option.map_some,hlen];simp
  .cases i with
   | zero=>
    simp at hi hr';subst hi hr';rw[List.getElem?_append_left (by omega)];exact h1
   | succ i=>simp at hi
  .rw[List.getElem?_append_left (by omega)];exact hlo id hid
 .rw[if_neg hr]at hv;subst hv;have ho:=n.ob hr;have hol:=n.lt.1 hr;have e1:cW H2 1 (.hsl o 1 0 rows.length)=some (refs ids rows):=by
   simp only[cW,if_true,hlo o hol,ho,ζb,Ob.rows,rL n.len,Nat.zero_add,Nat.le_refl,List.drop_zero];rw[List.take_of_length_le (by rw[rL n.len];exact Nat.le_refl _)]
  have eg:fQ H2 (.hsl o 1 0 rows.length)=some (H2.set o .dead):=by
   simp only[fQ,hlo o hol,ho]
  have hset:∀id,id≠o->(H2.set o Ob.dead++[Ob.row 1 (refs ids rows++[[.hsl H.length 1 0 r.length]])])[id]? = if id<H2.length then H2[id]? else(H2.set o Ob.dead++[Ob.row 1 (refs ids rows++[[.hsl H.length 1 0 r.length]])])[id]? := λid hne=>by
   split
   .rename_i h;rw[List.getElem?_append_left (by simpa using h),List.getElem?_set_ne (Ne.symm hne)]
   .rfl
  refine⟨H2.set o .dead++[.row 1 (refs ids rows++[[.hsl H.length 1 0 r.length]])],?_,⟨by simp,λ_=>?_,by simp[n.len],λi id r' hi hr'=>?_,?_,λ_ hm=>?_⟩,by simp[hlen];omega,λid hid hne=>?_⟩
  .simp only[eA,e1,e2,eg,rL n.len,List.length_singleton,hl,if_true,Option.map_some,hlen]
  .rw[Eb _ _ n.len,<-hlen];simp
  .have hio:id≠o:=by
    rcases Nat.lt_or_ge i ids.length with h|h
    .rw[List.getElem?_append_left h]at hi;intro e;subst e;exact n.ne hr (List.mem_of_getElem? hi)
    .have:i=ids.length:=by have:=(ζe.1 hi).1;simp at this;omega
     subst this;simp at hi;subst hi;omega
   rcases Nat.lt_or_ge i ids.length with h|h
   .rw[List.getElem?_append_left h]at hi;rw[List.getElem?_append_left (by rw[<-n.len];exact h)]at hr'
    have hidl:=n.lt.2 id (List.mem_of_getElem? hi);rw[hset id hio,if_pos (by omega),hlo id hidl]
    exact n.r i id r' hi hr'
   .have:i=ids.length:=by have:=(ζe.1 hi).1;simp at this;omega
    subst this;simp at hi;subst hi;rw[n.len]at hr';simp at hr';subst hr';rw[hset _ hio,if_pos (by omega)];exact h1
  .rw[List.nodup_append];exact⟨n.nd,by simp,λa ha b hb=>by simp at hb;subst hb;exact Nat.ne_of_lt (n.lt.2 a ha)⟩
  .rcases List.mem_append.1 hm with hm|hm
   .have:=n.lt.2 _ hm;omega
   .simp at hm
  .rw[hset id (hne.resolve_right hr),if_pos (by omega)];exact hlo id hid
end
end Go.VE
namespace Go.VE
variable [aW]
theorem jr {E:Env} {N:Nat->FuncId} {F:Frame} {H H1:ak} {call:cu} {b:Option Nat} {o:RO} {l:List RO} {v:V} {r:Frame×ak} (hg:o.gd=none) (hv:aT E N call b o.now o.k (o.az.map (aF N F)) H=some (v,H1)) (h:bV E N call b l (aB F o.dst v) H1=some r):bV E N call b (o::l) F H=some r:=by
 simp only[bV,hg,hv];exact h
theorem vp {E:Env} {N:Nat->FuncId} {F:Frame} {H:ak} {call:cu} {b:Option Nat} {o:RO} {l:List RO} {v:V} {r:Frame×ak} (hg:o.gd=none) (hv:aT E N call b o.now o.k (o.az.map (aF N F)) H=some (v,H)) (h:bV E N call b l (aB F o.dst v) H=some r):bV E N call b (o::l) F H=some r:=jr hg hv h
theorem dS {E:Env} {N:Nat->FuncId} {F:Frame} {H:ak} {call:cu} {b:Option Nat}:bV E N call b [] F H=some (F,H):=rfl
theorem yR {n:Nat} (h:n<=2147483648):IntKind.wrap .i64 ((n:Int)+1)=((n+1:Nat):Int):=by
 simp[IntKind.wrap,IntKind.bits,IntKind.signed];omega
theorem Sn {n:Nat} (h:n<=2147483648):IntKind.wrap .i64 (((n+1:Nat):Int)-1)=(n:Int):=by
 simp[IntKind.wrap,IntKind.bits,IntKind.signed];omega
theorem iV (H:ak):H.take H.length=H:=List.take_length
theorem C0 {x:V} (h:x.one=true):x.cells=[x]:=by
 cases x <;> first|rfl|(simp[V.one]at h)
def kept (t:Nat->Bool) (n:Nat):List Nat:=(List.range n).filter λi=>i==0 || !t i
theorem vc (t:Nat->Bool) (n:Nat):kept t (n+1)=kept t n++if n==0 || !t n then [n]else []:=by
 unfold kept;rw[List.range_succ,List.filter_append,List.filter_cons];rfl
theorem O4 (t:Nat->Bool):∀n,(kept t n).length<=n:=λn=>by
 unfold kept;exact Nat.le_trans (List.length_filter_le ..) (by simp)
theorem Al {t:Nat->Bool}:∀n,(∀i,0<i->i<n->t i=false)->kept t n=List.range n
 | 0,_=>rfl
 | n+1,h=>by
  rw[vc,Al n λi h1 h2=>h i h1 (by omega),List.range_succ]
  congr 1
  cases n with
  | zero=>rfl
  | succ n=>rw[h (n+1) (by omega) (by omega)];simp
theorem yd {t:Nat->Bool} {k:Nat} (h0:0<k) (hk:t k=true):∀n,k<n->(kept t n).length+1<=n
 | 0,h=>by omega
 | n+1,h=>by
  rw[vc]
  by_cases e:n=k
  .subst e;have:(n==0 || !t n)=false:=by simp[hk];omega
   rw[this];have:=O4 t n;simp;omega
  .have:=yd h0 hk n (by omega)
   split <;> simp <;> omega
namespace cmpX
instance {n:Nat}:OfNat Arg n:=⟨.s n⟩
def r1:List RO:=[o1 4 (.k (.aR)) []]
def r2:List RO:=[o1 8 0 [],o2 9 (.p .lenSl) [8] [],o2 10 (.p (.bin (some .int) none .lss)) [9,.k (.int .i64 2)] []]
def r3:List RO:=[o1 11 0 [],o1 4 11 []]
def r4:List RO:=[o1 5 (.k (.int .i64 1)) []]
def r5:List RO:=[o1 12 5 [],o1 13 0 [],o2 14 (.p .lenSl) [13] [],o2 15 (.p (.bin (some .int) none .lss)) [12,14] []]
def on (d:Nat) (k:K) (az:List Arg):RO:=⟨some d,none,true,k,az,[],[]⟩
def r6:List RO:=[o1 18 1 [],o1 19 0 [],o1 20 5 [],o2 21 (.p (.idxS 1)) [19,20] [],o2 22 (.r (.load 1 false)) [21] [],o1 23 0 [],o1 24 5 [],o2 25 (.p (.bin (some .int) none .sub)) [24,.k (.int .i64 1)] [],o2 26 (.p (.idxS 1)) [23,25] [],o2 27 (.r (.load 1 false)) [26] [],on 28 .c [18,22,27]]
def r7:List RO:=[o1 29 0 [],o1 30 5 [],o2 31 (.p (.slice 1 true false)) [29,30] [],o1 6 31 []]
def r8:List RO:=[o1 7 (.k (.int .i64 1)) []]
def r9:List RO:=[o1 32 7 [],o1 33 6 [],o2 34 (.p .lenSl) [33] [],o2 35 (.p (.bin (some .int) none .lss)) [32,34] []]
def FQ:List RO:=[o1 38 1 [],o1 39 6 [],o1 40 7 [],o2 41 (.p (.idxS 1)) [39,40] [],o2 42 (.r (.load 1 false)) [41] [],o1 43 6 [],o1 44 7 [],o2 45 (.p (.bin (some .int) none .sub)) [44,.k (.int .i64 1)] [],o2 46 (.p (.idxS 1)) [43,45] [],o2 47 (.r (.load 1 false)) [46] [],on 48 .c [38,42,47],on 49 (.p (.not)) [48]]
def Ew:List RO:=[o1 50 0 [],o1 51 5 [],o1 52 6 [],o1 53 7 [],o2 54 (.p (.idxS 1)) [52,53] [],o2 55 (.r (.load 1 false)) [54] [],o2 56 (.p (.idxS 1)) [50,51] [],⟨none,none,false,.l (.store 1),[56,55],[],[]⟩]
def Eo:List RO:=[o1 57 5 [],o2 58 (.p (.bin (some .int) none .add)) [57,.k (.int .i64 1)] [],o1 5 58 []]
def FJ:List RO:=[o1 36 7 [],o2 37 (.p (.bin (some .int) none .add)) [36,.k (.int .i64 1)] [],o1 7 37 []]
def Tv:RC:=.seq (.seq (.ops r9) (.cond (.s 35) (.skip) (.exit 2))) (.seq (.block 3 (.seq (.nH FQ) (.cond (.s 49) (.seq (.ops Ew) (.ops Eo)) (.skip)))) (.ops FJ))
def FF:List RO:=[o1 59 0 [],o1 60 5 [],o2 61 (.p (.slice 1 true false)) [59,60] [],⟨none,none,false,.l (.clear 1 [.aR]),[61],[],[]⟩]
def Hr:List RO:=[o1 62 0 [],o1 63 5 [],o2 64 (.p (.slice 1 false true)) [62,63] [],o1 4 64 []]
def G3:List RO:=[o1 16 5 [],o2 17 (.p (.bin (some .int) none .add)) [16,.k (.int .i64 1)] [],o1 5 17 []]
def NL:RC:=.seq (.seq (.ops r5) (.cond (.s 15) (.skip) (.exit 0))) (.seq (.block 1 (.seq (.nH r6) (.cond (.s 28) (.seq (.ops r7) (.seq (.seq (.ops r8) (.block 2 (.loop Tv))) (.seq (.ops FF) (.seq (.ops Hr) (.ret))))) (.skip)))) (.ops G3))
def K6:List RO:=[o1 65 0 [],o1 4 65 []]
def code:RC:=.seq (.ops r1) (.seq (.seq (.ops r2) (.cond (.s 10) (.seq (.ops r3) (.ret)) (.skip))) (.seq (.seq (.ops r4) (.block 0 (.loop NL))) (.seq (.ops K6) (.ret))))
structure Us (F F':Frame):Prop where
 s0:get F' 0=get F 0
 s1:get F' 1=get F 1
section
variable {E:Env} {N:Nat->FuncId} {F:Frame} {H:ak} {call:cu} {id off L k:Nat}
theorem ld {cur:List (List V)} {el:Nat} {v:V} (h:H[id]? = some (.row 1 cur)) (hv:cur[el]? = some [v]):dB H (.load 1 false) [.hptr id el 0]=some v:=by
 simp[dB,cR,h,Ob.rows,hv,cut,mk]
theorem NQ {i:Nat} (h:i<L):j7 1 (.hsl id 1 off L) (i:Int)=some (.hptr id (off+i) 0):=by
 unfold j7;rw[if_neg (by omega)];simp[h]
theorem x2 (f0:get F 0=.hsl id 1 off L):∃F',(∀call,bV E N call none r2 F H=some (F',H))/\get F' 10=.bool (decide ((L:Int)<2))/\(∀s,s<8->get F' s=get F s):=by
 refine⟨_,λcall=>vp (v:=.hsl id 1 off L) rfl ?_ <| vp (v:=.int .i64 L) rfl ?_ <| vp (v:=.bool (decide ((L:Int)<2))) rfl ?_ dS,?_,?_⟩
 .simp[aT,aF,aq,f0]
 .simp[aT,aF,aq,aB,o_]
 .simp[aT,aF,aq,aB,iQ,oS]
 .simp[aB]
 .intro s hs;simp only[aB,ax]
  repeat (rw[if_neg (by omega)])
theorem x5 (f0:get F 0=.hsl id 1 off L) (f5:get F 5=.int .i64 k):∃F',(∀call,bV E N call none r5 F H=some (F',H))/\get F' 15=.bool (decide (k<L))/\(∀s,s<8->get F' s=get F s):=by
 refine⟨_,λcall=>vp (v:=.int .i64 k) rfl ?_ <| vp (v:=.hsl id 1 off L) rfl ?_ <| vp (v:=.int .i64 L) rfl ?_ <| vp (v:=.bool (decide (k<L))) rfl ?_ dS,?_,?_⟩
 .simp[aT,aF,aq,f5]
 .simp[aT,aF,aq,aB,f0]
 .simp[aT,aF,aq,aB,o_]
 .simp[aT,aF,aq,aB,iQ,oS]
 .simp[aB]
 .intro s hs;simp only[aB,ax]
  repeat (rw[if_neg (by omega)])
theorem Re {g:FuncId} {cb:List V} {cur:List (List V)} {o2 L2 i:Nat} {a b:V} {t:Bool} (h:H[id]? = some (.row 1 cur)) (hi:i+1<L2) (hb2:i<=2147483648) (ha:cur[o2+(i+1)]? = some [a]) (hb:cur[o2+i]? = some [b]) (hk:E.keep g=false) (f1:get F 1=.clo g [] cb) :
 (get F 0=.hsl id 1 o2 L2->get F 5=.int .i64 ((i+1:Nat):Int)->∃F',(∀call,bG call g (a::b::cb) H=some (.bool t)->bV E N call (some H.length) r6 F H=some (F',H))/\get F' 28=.bool t/\(∀s,s<8->get F' s=get F s)) /\
 (get F 6=.hsl id 1 o2 L2->get F 7=.int .i64 ((i+1:Nat):Int)->∃F',(∀call,bG call g (a::b::cb) H=some (.bool t)->bV E N call (some H.length) FQ F H=some (F',H))/\get F' 49=.bool (!t)/\(∀s,s<8->get F' s=get F s)):=by
 have hd:=Sn hb2;have e1:=ld h ha;have e2:=ld h hb;have i1:=NQ (id:=id) (off:=o2) (L:=L2) hi;have i2:=NQ (id:=id) (off:=o2) (L:=L2) (show i<L2 by omega)
 refine⟨λf0 f5=>⟨_,λcall hc=>vp (v:=.clo g [] cb) rfl ?_ <| vp (v:=.hsl id 1 o2 L2) rfl ?_ <| vp (v:=.int .i64 ((i+1:Nat):Int)) rfl ?_ <| vp (v:=.hptr id (o2+(i+1)) 0) rfl ?_ <| vp (v:=a) rfl ?_ <| vp (v:=.hsl id 1 o2 L2) rfl ?_ <| vp (v:=.int .i64 ((i+1:Nat):Int)) rfl ?_ <|
  vp (v:=.int .i64 (i:Int)) rfl ?_ <| vp (v:=.hptr id (o2+i) 0) rfl ?_ <| vp (v:=b) rfl ?_ <| vp (v:=.bool t) rfl ?_ dS,?_,?_⟩,λf6 f7=>⟨_,λcall hc=>vp (v:=.clo g [] cb) rfl ?_ <| vp (v:=.hsl id 1 o2 L2) rfl ?_ <| vp (v:=.int .i64 ((i+1:Nat):Int)) rfl ?_ <| vp (v:=.hptr id (o2+(i+1)) 0) rfl ?_ <| vp (v:=a) rfl ?_ <| vp (v:=.hsl id 1 o2 L2) rfl ?_ <| vp (v:=.int .i64 ((i+1:Nat):Int)) rfl ?_ <|
  vp (v:=.int .i64 (i:Int)) rfl ?_ <| vp (v:=.hptr id (o2+i) 0) rfl ?_ <| vp (v:=b) rfl ?_ <| vp (v:=.bool t) rfl ?_ <| vp (v:=.bool (!t)) rfl ?_ dS,?_,?_⟩⟩
 .simp[aT,aF,aq,f1]
 .simp[aT,aF,aq,aB,f0]
 .simp only[aT,List.map_cons,List.map_nil,aF,aB,ax,Nat.reduceEqDiff,if_true,if_false,f5,aq];rfl
 .simp only[aT,List.map_cons,List.map_nil,aF,aB,ax,Nat.reduceEqDiff,if_true,if_false,aq];rw[i1];rfl
 .simp only[aT,List.map_cons,List.map_nil,aF,aB,ax,Nat.reduceEqDiff,if_true,if_false,iV];rw[e1];rfl
 .simp[aT,aF,aq,aB,f0]
 .simp only[aT,List.map_cons,List.map_nil,aF,aB,ax,Nat.reduceEqDiff,if_true,if_false,f5,aq];rfl
 .simp only[aT,List.map_cons,List.map_nil,aF,aB,ax,Nat.reduceEqDiff,if_true,if_false,aq,iQ,hd];rfl
 .simp only[aT,List.map_cons,List.map_nil,aF,aB,ax,Nat.reduceEqDiff,if_true,if_false,aq];rw[i2];rfl
 .simp only[aT,List.map_cons,List.map_nil,aF,aB,ax,Nat.reduceEqDiff,if_true,if_false,iV];rw[e2];rfl
 .simp only[aT,on,List.map_cons,List.map_nil,aF,aB,ax,Nat.reduceEqDiff,if_true,if_false,iV,hk,Bool.false_eq_true,List.nil_append,List.cons_append,hc,V.scalar]
 .simp[aB,on]
 .intro s hs;simp only[aB,on,ax]
  repeat (rw[if_neg (by omega)])
 .simp[aT,aF,aq,f1]
 .simp[aT,aF,aq,aB,f6]
 .simp only[aT,List.map_cons,List.map_nil,aF,aB,ax,Nat.reduceEqDiff,if_true,if_false,f7,aq];rfl
 .simp only[aT,List.map_cons,List.map_nil,aF,aB,ax,Nat.reduceEqDiff,if_true,if_false,aq];rw[i1];rfl
 .simp only[aT,List.map_cons,List.map_nil,aF,aB,ax,Nat.reduceEqDiff,if_true,if_false,iV];rw[e1];rfl
 .simp[aT,aF,aq,aB,f6]
 .simp only[aT,List.map_cons,List.map_nil,aF,aB,ax,Nat.reduceEqDiff,if_true,if_false,f7,aq];rfl
 .simp only[aT,List.map_cons,List.map_nil,aF,aB,ax,Nat.reduceEqDiff,if_true,if_false,aq,iQ,hd];rfl
 .simp only[aT,List.map_cons,List.map_nil,aF,aB,ax,Nat.reduceEqDiff,if_true,if_false,aq];rw[i2];rfl
 .simp only[aT,List.map_cons,List.map_nil,aF,aB,ax,Nat.reduceEqDiff,if_true,if_false,iV];rw[e2];rfl
 .simp only[aT,on,List.map_cons,List.map_nil,aF,aB,ax,Nat.reduceEqDiff,if_true,if_false,iV,hk,Bool.false_eq_true,List.nil_append,List.cons_append,hc,V.scalar]
 .simp[aT,on,aF,aq,aB]
 .simp[aB,on]
 .intro s hs;simp only[aB,on,ax]
  repeat (rw[if_neg (by omega)])
end
end cmpX
end Go.VE
namespace Go.VE
variable [aW]
namespace cmpX
section
variable {E:Env} {N:Nat->FuncId} {F:Frame} {H:ak} {call:cu} {id off L k:Nat}
theorem x7 (f0:get F 0=.hsl id 1 off L) (f5:get F 5=.int .i64 k) (hk:k<=L):∃F',(∀call,bV E N call none r7 F H=some (F',H))/\get F' 6=.hsl id 1 (off+k) (L-k)/\(∀s,s<8->s≠6->get F' s=get F s):=by
 have e:gC 1 (.hsl id 1 off L) (some k) none=some (.hsl id 1 (off+k) (L-k)):=by
  unfold gC cN
  grind
 refine⟨_,λcall=>vp (v:=.hsl id 1 off L) rfl ?_ <| vp (v:=.int .i64 k) rfl ?_ <| vp (v:=.hsl id 1 (off+k) (L-k)) rfl ?_ <| vp (v:=.hsl id 1 (off+k) (L-k)) rfl ?_ dS,?_,?_⟩
 .simp[aT,aF,aq,f0]
 .simp[aT,aF,aq,aB,f5]
 .simp[aT,aF,aB,ax,aq,kM,e]
 .simp[aT,aF,aq,aB]
 .simp[aB]
 .simp[aB,ax]
  grind
theorem x9 {o2 L2 m:Nat} (f6:get F 6=.hsl id 1 o2 L2) (f7:get F 7=.int .i64 m):∃F',(∀call,bV E N call none r9 F H=some (F',H))/\get F' 35=.bool (decide (m<L2))/\(∀s,s<8->get F' s=get F s):=by
 refine⟨_,λcall=>vp (v:=.int .i64 m) rfl ?_ <| vp (v:=.hsl id 1 o2 L2) rfl ?_ <| vp (v:=.int .i64 L2) rfl ?_ <| vp (v:=.bool (decide (m<L2))) rfl ?_ dS,?_,?_⟩
 .simp[aT,aF,aq,f7]
 .simp[aT,aF,aq,aB,f6]
 .simp[aT,aF,aq,aB,o_]
 .simp[aT,aF,aq,aB,iQ,oS]
 .simp[aB]
 .simp[aB,ax]
  grind
theorem QO {cur:List (List V)} {o2 L2 m p:Nat} {a z:V} (h:H[id]? = some (.row 1 cur)) (f0:get F 0=.hsl id 1 off L) (f5:get F 5=.int .i64 p) (f6:get F 6=.hsl id 1 o2 L2) (f7:get F 7=.int .i64 m) (hm:m<L2) (hp:p<L)
 (ha:cur[o2+m]? = some [a]) (hz:cur[off+p]? = some [z]) (h1:a.one=true) :
 ∃F',(∀call,bV E N call none Ew F H=some (F',H.set id (.row 1 (cur.set (off+p) [a]))))/\(∀s,s<8->get F' s=get F s):=by
 have i1:=NQ (id:=id) (off:=o2)  hm;have i2:=NQ (id:=id) (off:=off)  hp;have e1:=ld h ha;have hs:eA H (.store 1) [.hptr id (off+p) 0,a]=some (.undef,H.set id (.row 1 (cur.set (off+p) [a]))):=by
  simp[eA,h,hz,C0 h1,h1]
 refine⟨_,λcall=>vp (v:=.hsl id 1 off L) rfl ?_ <| vp (v:=.int .i64 p) rfl ?_ <| vp (v:=.hsl id 1 o2 L2) rfl ?_ <| vp (v:=.int .i64 m) rfl ?_ <| vp (v:=.hptr id (o2+m) 0) rfl ?_ <| vp (v:=a) rfl ?_ <| vp (v:=.hptr id (off+p) 0) rfl ?_ <| jr (v:=.undef)  rfl ?_ dS,?_⟩
 .simp[aT,aF,aq,f0]
 .simp[aT,aF,aq,aB,f5]
 .simp[aT,aF,aq,aB,f6]
 .simp[aT,aF,aq,aB,f7]
 .simp[aT,aF,aB,ax,aq];grind
 .simp[aT,aF,aB,ax];grind
 .simp[aT,aF,aB,ax,aq];grind
 .simp[aT,aF,aB,ax];omega
 .simp[aB,ax]
  grind
theorem Ja {p:Nat} (hp:p<=2147483648):(get F 5=.int .i64 p->∃F',(∀call,bV E N call none Eo F H=some (F',H))/\get F' 5=.int .i64 ((p+1:Nat):Int)/\(∀s,s<8->s≠5->get F' s=get F s)) /\
 (get F 7=.int .i64 p->∃F',(∀call,bV E N call none FJ F H=some (F',H))/\get F' 7=.int .i64 ((p+1:Nat):Int)/\(∀s,s<8->s≠7->get F' s=get F s)) /\
 (get F 5=.int .i64 p->∃F',(∀call,bV E N call none G3 F H=some (F',H))/\get F' 5=.int .i64 ((p+1:Nat):Int)/\(∀s,s<8->s≠5->get F' s=get F s)):=by
 have hb:=yR hp;refine⟨λf=>⟨_,λcall=>vp (v:=.int .i64 p) rfl ?_ <| vp (v:=.int .i64 (p+1:Nat)) rfl ?_ <| vp (v:=.int .i64 (p+1:Nat)) rfl ?_ dS,?_,?_⟩,
  λf=>⟨_,λcall=>vp (v:=.int .i64 p) rfl ?_ <| vp (v:=.int .i64 (p+1:Nat)) rfl ?_ <| vp (v:=.int .i64 (p+1:Nat)) rfl ?_ dS,?_,?_⟩,
  λf=>⟨_,λcall=>vp (v:=.int .i64 p) rfl ?_ <| vp (v:=.int .i64 (p+1:Nat)) rfl ?_ <| vp (v:=.int .i64 (p+1:Nat)) rfl ?_ dS,?_,?_⟩⟩ <;>
 first
 | (simp[aT,aF,aq,f];done)
 | (simp only[aT,List.map_cons,List.map_nil,aF,aB,ax,if_true,aq,iQ,hb];rfl)
 | grind
 | (simp[aB];done)
 | (simp[aB,ax];grind)
theorem Ub {cur:List (List V)} {p:Nat} (h:H[id]? = some (.row 1 cur)) (f0:get F 0=.hsl id 1 off L) (f5:get F 5=.int .i64 p) (hp:p<L) (hl:off+L<=cur.length) :
 ∃F',(∀call,bV E N call none FF F H=some (F',H.set id (.row 1 (cur.take (off+p)++List.replicate (L-p) [.aR]++cur.drop (off+L)))))/\(∀s,s<8->get F' s=get F s):=by
 have e:gC 1 (.hsl id 1 off L) (some p) none=some (.hsl id 1 (off+p) (L-p)):=by
  unfold gC cN
  grind
 obtain⟨q,hq⟩:∃q,L-p=q+1:=⟨L-p-1,by omega⟩
 have hc:eA H (.clear 1 [.aR]) [.hsl id 1 (off+p) (L-p)]=some (.undef,H.set id (.row 1 (cur.take (off+p)++List.replicate (L-p) [.aR]++cur.drop (off+L)))):=by
  simp[eA,A4,hq,h]
  grind
 refine⟨_,λcall=>vp (v:=.hsl id 1 off L) rfl ?_ <| vp (v:=.int .i64 p) rfl ?_ <| vp (v:=.hsl id 1 (off+p) (L-p)) rfl ?_ <| jr (v:=.undef)  rfl ?_ dS,?_⟩
 .simp[aT,aF,aq,f0]
 .simp[aT,aF,aq,aB,f5]
 .simp[aT,aF,aB,ax,aq,kM,e]
 .simp only[aT,List.map_cons,List.map_nil,aF,aB,ax,if_true];omega
 .simp[aB,ax]
  grind
theorem N5 {p:Nat} (f0:get F 0=.hsl id 1 off L) (f5:get F 5=.int .i64 p) (hp:p<=L):∃F',(∀call,bV E N call none Hr F H=some (F',H))/\get F' 4=.hsl id 1 off p:=by
 have e:gC 1 (.hsl id 1 off L) none (some p)=some (.hsl id 1 off p):=by
  unfold gC cN
  grind
 refine⟨_,λcall=>vp (v:=.hsl id 1 off L) rfl ?_ <| vp (v:=.int .i64 p) rfl ?_ <| vp (v:=.hsl id 1 off p) rfl ?_ <| vp (v:=.hsl id 1 off p) rfl ?_ dS,?_⟩
 .simp[aT,aF,aq,f0]
 .simp[aT,aF,aq,aB,f5]
 .simp[aT,aF,aB,ax,aq,kM,e]
 .simp[aT,aF,aq,aB]
 .simp[aB]
theorem Uf:∃F',(∀call,bV E N call none K6 F H=some (F',H))/\get F' 4=get F 0:=
 ⟨_,λcall=>vp (v:=get F 0) rfl (by simp[aT,aF,aq]) <| vp (v:=get F 0) rfl (by simp[aT,aF,aq,aB]) dS,by simp[aB]⟩
theorem RN:∃F',(∀call,bV E N call none r3 F H=some (F',H))/\get F' 4=get F 0:=
 ⟨_,λcall=>vp (v:=get F 0) rfl (by simp[aT,aF,aq]) <| vp (v:=get F 0) rfl (by simp[aT,aF,aq,aB]) dS,by simp[aB]⟩
end
structure HD (E:Env) (g:FuncId) (cb:List V) (H:ak) (id off L:Nat) (rs:List (List V)) (A:Nat->V) (t:Nat->Bool):Prop where
 row:H[id]? = some (.row 1 rs)
 len:off+L<=rs.length
 small:L<=2147483648
 at_:∀i,i<L->rs[off+i]? = some [A i]
 one:∀i,i<L->(A i).one=true
 keep:E.keep g=false
 cmp:∃n,∀k,n<=k->∀i,i+1<L->∀cur,bG (run E k) g (A (i+1)::A i::cb) (H.set id (.row 1 cur))=some (.bool (t (i+1)))
structure Head (g:FuncId) (cb:List V) (id off L kk m:Nat) (rs:List (List V)) (A:Nat->V) (t:Nat->Bool) (F:Frame) (cur:List (List V)):Prop where
 f0:get F 0=.hsl id 1 off L
 f1:get F 1=.clo g [] cb
 f5:get F 5=.int .i64 ((kept t (kk+m)).length:Nat)
 f6:get F 6=.hsl id 1 (off+kk) (L-kk)
 f7:get F 7=.int .i64 m
 len:cur.length=rs.length
 pre:∀p i,(kept t (kk+m))[p]? = some i->cur[off+p]? = some [A i]
 post:∀i,kk+m<=i+1->i<L->cur[off+i]? = some [A i]
 out:∀j,j<off\/off+L<=j->cur[j]? = rs[j]?
 cell:∀i,i<L->∃j,j<L/\cur[off+i]? = some [A j]
section
variable {E:Env} {N:Nat->FuncId} {g:FuncId} {cb:List V} {H:ak} {id off L kk:Nat} {rs:List (List V)} {A:Nat->V} {t:Nat->Bool}
theorem HG (X:HD E g cb H id off L rs A t) (hkk:0<kk) (hkL:kk<L) (ht:t kk=true):∀(d m:Nat) (F:Frame) (cur:List (List V)),kk+m+d=L->0<m->Head g cb id off L kk m rs A t F cur ->
 ∃F' cur',mB E N Tv F (H.set id (.row 1 cur)) (.exit 2) F' (H.set id (.row 1 cur'))/\Head g cb id off L kk (L-kk) rs A t F' cur':=by
 have hidlt:=(ζe.1 X.row).1;have hrow:∀cur,(H.set id (.row 1 cur))[id]? = some (.row 1 cur):=λcur=>List.getElem?_set_self hidlt
 have hsm:=X.small;have hlen:=X.len;intro d
 induction d with
 | zero=>
  intro m F cur he hm h;have em:m=L-kk:=by omega
  subst em;obtain⟨F1,e1,e2,e3⟩:=x9    h.f6 h.f7;refine⟨F1,cur,mB.stop (Ex.vu (Ex.seq (Ex.dy e1) (Ex.tN (by simp[aF,e2]) Ex.exit)) (by simp)) (by simp),?_⟩
  exact⟨by rw[e3 0 (by omega)];exact h.f0,by rw[e3 1 (by omega)];exact h.f1,by rw[e3 5 (by omega)];exact h.f5,by rw[e3 6 (by omega)];exact h.f6,by rw[e3 7 (by omega)];exact h.f7,h.len,h.pre,h.post,h.out,h.cell⟩
 | succ d ih=>
  intro m F cur he hm h;obtain⟨F1,a1,a2,a3⟩:=x9    h.f6 h.f7;have a2':aF N F1 35=.bool true:=by
   show get F1 35=_;rw[a2,decide_eq_true (by omega)]
  obtain⟨m',rfl⟩:∃m',m=m'+1:=⟨m-1,by omega⟩
  obtain⟨n0,hn0⟩:=X.cmp;have c1:cur[off+kk+(m'+1)]? = some [A (kk+m'+1)]:=by
   have:=h.post (kk+m'+1) (by omega) (by omega);grind
  have c2:cur[off+kk+m']? = some [A (kk+m')]:=by
   have:=h.post (kk+m') (by omega) (by omega);grind
  obtain⟨F2,b1,b2,b3⟩:=(Re      (L2:=L-kk)  (hrow cur) (by omega) (by omega) c1 c2 X.keep (by rw[a3 1 (by omega)];exact h.f1)).2 (by rw[a3 6 (by omega)];exact h.f6) (by rw[a3 7 (by omega)];exact h.f7)
  have b1':∃n,∀k,n<=k->bV E N (run E k) (some (H.set id (.row 1 cur)).length) FQ F1 (H.set id (.row 1 cur))=some (F2,H.set id (.row 1 cur)):=⟨n0,λk hk=>b1 _ (hn0 k hk (kk+m') (by omega) cur)⟩
  have hf  := λs hs=>(b3 s hs).trans (a3 s hs)
  have hlenk:(kept t (kk+(m'+1))).length+1<=kk+(m'+1):=yd hkk ht _ (by omega)
  have hks:kept t (kk+(m'+1)+1)=kept t (kk+(m'+1))++if t (kk+m'+1)then []else [kk+m'+1]:=by
   rw[vc]
   grind
  have e12:kk+(m'+1+1)=kk+(m'+1)+1:=by omega
  cases htt:t (kk+m'+1)with
  | true=>
   rw[htt]at b2 hks;simp  at hks;obtain⟨F3,q1,q2,q3⟩:=(Ja     (p:=m'+1) (by omega)).2.1 (by rw[hf 7 (by omega)];exact h.f7)
   obtain⟨F',cur',i1,i2⟩:=ih (m'+1+1) F3 cur (by omega) (by omega) ⟨by rw[q3 0 (by omega) (by omega),hf 0 (by omega)];exact h.f0,by rw[q3 1 (by omega) (by omega),hf 1 (by omega)];exact h.f1,
    by rw[q3 5 (by omega) (by omega),hf 5 (by omega),e12,hks];exact h.f5,by rw[q3 6 (by omega) (by omega),hf 6 (by omega)];exact h.f6,q2,h.len,by rw[e12,hks];exact h.pre,λi h1 h2=>h.post i (by omega) h2,h.out,h.cell⟩
   exact⟨F',cur',mB.step (Ex.seq (Ex.seq (Ex.dy a1) (Ex.oE a2' Ex.skip)) (Ex.seq (Ex.block (Ex.seq (Ex.IK (by decide) b1') (Ex.tN (by simp[aF,b2]) Ex.skip))) (Ex.dy q1))) i1,i2⟩
  | false=>
   rw[htt]at b2 hks;generalize hK:(kept t (kk+(m'+1))).length=K at *;obtain⟨_,_,hz⟩:=h.cell K (by omega)
   obtain⟨F3,q1,q2⟩:=QO           (hrow cur) (by rw[hf 0 (by omega)];exact h.f0) (by rw[hf 5 (by omega),h.f5,hK]) (by rw[hf 6 (by omega)];exact h.f6) (by rw[hf 7 (by omega)];exact h.f7) (by omega) (by omega) c1 hz (X.one _ (by omega))
   rw[List.set_set]at q1;generalize hcur:cur.set (off+K) [A (kk+m'+1)]=cur2 at q1;have hg:∀j,cur2[j]? = if j=off+K then some [A (kk+m'+1)]else cur[j]? := λj=>by
    rw[<-hcur,List.getElem?_set]
    by_cases e:off+K=j
    .rw[if_pos e,if_pos e.symm,if_pos (by rw[h.len];omega)]
    .rw[if_neg e,if_neg (Ne.symm e)]
   obtain⟨F4,q3,q4,q5⟩:=(Ja     (p:=K) (by omega)).1 (by rw[q2 5 (by omega),hf 5 (by omega),h.f5,hK])
   have hf4:∀s,s<8->s≠5->get F4 s=get F s:=λs h1 h2=>by rw[q5 s h1 h2,q2 s h1,hf s h1]
   obtain⟨F5,q6,q7,q8⟩:=(Ja     (p:=m'+1) (by omega)).2.1 (by rw[hf4 7 (by omega) (by omega)];exact h.f7)
   obtain⟨F',cur',i1,i2⟩:=ih (m'+1+1) F5 cur2 (by omega) (by omega) ⟨by rw[q8 0 (by omega) (by omega),hf4 0 (by omega) (by omega)];exact h.f0,by rw[q8 1 (by omega) (by omega),hf4 1 (by omega) (by omega)];exact h.f1,
    by rw[q8 5 (by omega) (by omega),q4,e12,hks,ζi,hK];rfl,by rw[q8 6 (by omega) (by omega),hf4 6 (by omega) (by omega)];exact h.f6,q7,by rw[<-hcur,List.length_set];exact h.len,
    λp i hp=>by
     rw[e12,hks]at hp;rw[hg]
     by_cases e:p=K
     .subst e;rw[<-hK,List.getElem?_append_right (Nat.le_refl _),Nat.sub_self]at hp;cases hp;rw[if_pos rfl]
     .have hpl:p<(kept t (kk+(m'+1))).length:=by
       have:=(ζe.1 hp).1;simp at this;omega
      rw[List.getElem?_append_left hpl]at hp;rw[if_neg (by omega)];exact h.pre p i hp,
    λi h1 h2=>by rw[hg,if_neg (by omega)];exact h.post i (by omega) h2,λj hj=>by rw[hg,if_neg (by omega)];exact h.out j hj,
    λi hi=>by
     rw[hg]
     by_cases e:off+i=off+K
     .rw[if_pos e];exact⟨_,by omega,rfl⟩
     .rw[if_neg e];exact h.cell i hi⟩
   exact⟨F',cur',mB.step (Ex.seq (Ex.seq (Ex.dy a1) (Ex.oE a2' Ex.skip)) (Ex.seq (Ex.block (Ex.seq (Ex.IK (by decide) b1') (Ex.oE (by simp[aF,b2]) (Ex.seq (Ex.dy q1) (Ex.dy q3))))) (Ex.dy q6))) i1,i2⟩
structure MS (off L:Nat) (rs:List (List V)) (A:Nat->V) (t:Nat->Bool) (rs':List (List V)):Prop where
 len:rs'.length=rs.length
 pre:∀p i,(kept t L)[p]? = some i->rs'[off+p]? = some [A i]
 all:∀c∈rs',c∈rs\/c=[.aR]
theorem IW (X:HD E g cb H id off L rs A t):∀(d k:Nat) (F:Frame),k+d=L->0<k->(∀i,0<i->i<k->t i=false)->get F 0=.hsl id 1 off L->get F 1=.clo g [] cb->get F 5=.int .i64 k ->
 (∃F',mB E N NL F H (.exit 0) F' H/\get F' 0=.hsl id 1 off L/\∀i,0<i->i<L->t i=false) \/
 (∃F' rs',mB E N NL F H .ret F' (H.set id (.row 1 rs'))/\get F' 4=.hsl id 1 off (kept t L).length/\MS off L rs A t rs'):=by
 have hidlt:=(ζe.1 X.row).1;have hself  := xz X.row;have hsm:=X.small;have hlen:=X.len;intro d
 induction d with
 | zero=>
  intro k F he hk hp f0 f1 f5;have ek:k=L:=by omega
  subst ek;obtain⟨F1,e1,e2,e3⟩:=x5  (N:=N)  f0 f5;exact .inl ⟨F1,mB.stop (Ex.vu (Ex.seq (Ex.dy e1) (Ex.tN (by simp[aF,e2]) Ex.exit)) (by simp)) (by simp),by grind,hp⟩
 | succ d ih=>
  intro k F he hk hp f0 f1 f5;obtain⟨F1,a1,a2,a3⟩:=x5    f0 f5;have a2':aF N F1 15=.bool true:=by
   show get F1 15=_;rw[a2,decide_eq_true (by omega)]
  obtain⟨k',rfl⟩:∃k',k=k'+1:=⟨k-1,by omega⟩
  obtain⟨n0,hn0⟩:=X.cmp;obtain⟨F2,b1,b2,b3⟩:=(Re  (N:=N) (cb:=cb) (g:=g) (i:=k') (L2:=L) (t:=t (k'+1)) X.row (by omega) (by omega) (X.at_ _ (by omega)) (X.at_ _ (by omega)) X.keep (by rw[a3 1 (by omega)];omega)).1 (by grind) (by grind)
  have b1':∃n,∀k,n<=k->bV E N (run E k) (some H.length) r6 F1 H=some (F2,H):=⟨n0,λk hk=>b1 _ (by
   grind)⟩
  have hf  := λs hs=>(b3 s hs).trans (a3 s hs)
  cases htt:t (k'+1)with
  | false=>
   rw[htt]at b2;obtain⟨F3,q1,q2,q3⟩:=(Ja (E:=E)  (F:=F2)  (p:=k'+1) (by omega)).2.2 (by grind)
   have hstep:Ex E N NL F H .norm F3 H:=Ex.seq (Ex.seq (Ex.dy a1) (Ex.oE a2' Ex.skip)) (Ex.seq (Ex.block (Ex.seq (Ex.IK (by decide) b1') (Ex.tN (by simp[aF,b2]) Ex.skip))) (Ex.dy q1))
   rcases ih (k'+1+1) F3 (by omega) (by omega) (λi h1 h2=>by
    grind) (by grind) (by simp_all) q2 with⟨F',i1,i2⟩|⟨F',rs',i1,i2⟩
   .exact .inl ⟨F',mB.step hstep i1,i2⟩
   .exact .inr ⟨F',rs',mB.step hstep i1,i2⟩
  | true=>
   rw[htt]at b2;refine .inr ?_;obtain⟨F3,q1,q2,q3⟩:=x7 (E:=E) (N:=N)  (H:=H) (k:=k'+1) (by rw[hf 0 (by omega)];exact f0) (by rw[hf 5 (by omega)];exact f5) (by omega)
   have hrange:kept t (k'+1)=List.range (k'+1):=Al _ hp;have hk1:kept t (k'+1+1)=List.range (k'+1):=by
    rw[vc,hrange,htt];simp
   have q4:∀call,bV E N call none r8 F3 H=some (set F3 7 (.int .i64 1),H):=λcall=>vp  rfl (by simp[aT,aF,aq]) dS
   have h0:Head g cb id off L (k'+1) 1 rs A t (set F3 7 (.int .i64 1)) rs:=⟨by rw[gX _ _ (by omega),q3 0 (by omega) (by omega),hf 0 (by omega)];exact f0,by rw[gX _ _ (by omega),q3 1 (by omega) (by omega),hf 1 (by omega)];exact f1,
    by rw[gX _ _ (by omega),q3 5 (by omega) (by omega),hf 5 (by omega),hk1,List.length_range];exact f5,by rw[gX _ _ (by omega)];exact q2,by rw[tM];rfl,rfl,
    λp i hpi=>by
     rw[hk1]at hpi;obtain⟨h1,h2⟩:=ζe.1 hpi;simp at h1 h2;subst h2;exact X.at_ p (by omega),λi _ h2=>X.at_ i h2,λ_ _=>rfl,λi hi=>⟨i,hi,X.at_ i hi⟩⟩
   obtain⟨F5,cur,l1,l2⟩:=HG (N:=N) X (by omega) (by omega) htt (L-(k'+1)-1) 1 _ rs (by omega) (by omega) h0
   rw[hself]at l1;have eL:k'+1+(L-(k'+1))=L:=by omega
   have hlessL:=yd (t:=t) (k:=k'+1) (by omega) htt L (by omega)
   have l5:=l2.f5;have lpre:=l2.pre;rw[eL]at l5 lpre;generalize hK:(kept t L).length=K at *;have hrow:(H.set id (.row 1 cur))[id]? = some (.row 1 cur):=List.getElem?_set_self hidlt;obtain⟨F6,w1,w2⟩:=Ub (E:=E) (N:=N) (p:=K) hrow l2.f0 l5 (by omega) (by rw[l2.len];omega)
   rw[List.set_set]at w1;obtain⟨F7,w3,w4⟩:=N5 (E:=E)     (by rw[w2 0 (by omega)];exact l2.f0) (by rw[w2 5 (by omega)];exact l5) (by omega)
   have hcl:=l2.len;refine⟨F7,cur.take (off+K)++List.replicate (L-K) [.aR]++cur.drop (off+L),mB.stop (Ex.seq (Ex.seq (Ex.dy a1) (Ex.oE a2' Ex.skip)) (Ex.vu (Ex.Lh (Ex.seq (Ex.IK (by decide) b1') (Ex.oE (by simp[aF,b2]) (Ex.seq (Ex.dy q1) (Ex.seq (Ex.seq (Ex.dy q4) (Ex.wq (Ex.loop l1))) (Ex.seq (Ex.dy w1) (Ex.seq (Ex.dy w3) Ex.ret))))))) (by simp))) (by simp),w4,?_,λp i hpi=>?_,λc hc=>?_⟩
   .simp;omega
   .have hpl:p<K:=by rw[<-hK];exact(ζe.1 hpi).1
    rw[List.append_assoc,List.getElem?_append_left (by simp;omega),List.getElem?_take,if_pos (by omega)]
    exact lpre p i hpi
   .have hin:∀j x,cur[j]? = some x->x∈rs:=λj x hj=>by
     by_cases ho:j<off\/off+L<=j
     .rw[l2.out j ho]at hj;exact List.mem_of_getElem? hj
     .obtain⟨i,rfl⟩:∃i,j=off+i:=⟨j-off,by omega⟩
      obtain⟨q,hq,hc⟩:=l2.cell i (by omega)
      rw[hc]at hj;cases hj;exact List.mem_of_getElem? (X.at_ q hq)
    rcases List.mem_append.1 hc with hc|hc
    .rcases List.mem_append.1 hc with hc|hc
     .obtain⟨j,hj⟩:=List.getElem?_of_mem (List.mem_of_mem_take hc);exact .inl (hin j c hj)
     .exact .inr (List.eq_of_mem_replicate hc)
    .obtain⟨j,hj⟩:=List.getElem?_of_mem (List.mem_of_mem_drop hc);exact .inl (hin j c hj)
end
end cmpX
end Go.VE
namespace Go.VE
variable [aW]
namespace cmpX
section
variable {E:Env} {N:Nat->FuncId} {g:FuncId} {cb:List V} {H:ak} {id off L:Nat} {rs:List (List V)} {A:Nat->V} {t:Nat->Bool}
theorem whole (X:HD E g cb H id off L rs A t):∃F' rs',Ex E N code [.hsl id 1 off L,.clo g [] cb] H .ret F' (H.set id (.row 1 rs'))/\get F' 4=.hsl id 1 off (kept t L).length/\MS off L rs A t rs':=by
 have hself:H.set id (.row 1 rs)=H:=xz X.row;have same:(∀i,0<i->i<L->t i=false)->(kept t L).length=L/\MS off L rs A t rs:=λh=>by
  have hk:=Al L h;rw[hk,List.length_range];exact⟨rfl,rfl,λp i hp=>by
   rw[hk]at hp;obtain⟨h1,h2⟩:=ζe.1 hp;simp at h1 h2;subst h2;exact X.at_ p h1,λc hc=>.inl hc⟩
 have g1:∀call,bV E N call none r1 [.hsl id 1 off L,.clo g [] cb] H=some (set [.hsl id 1 off L,.clo g [] cb] 4 .aR,H):=λcall=>vp (v:=.aR) rfl (by simp[aT,aF,aq]) dS
 have k0:get (set [V.hsl id 1 off L,.clo g [] cb] 4 .aR) 0=.hsl id 1 off L:=rfl;have k1:get (set [V.hsl id 1 off L,.clo g [] cb] 4 .aR) 1=.clo g [] cb:=rfl;generalize set [V.hsl id 1 off L,.clo g [] cb] 4 .aR=F0 at *;obtain⟨F1,a1,a2,a3⟩:=x2 (E:=E) (N:=N) (H:=H) k0
 by_cases hL:L<2
 .obtain⟨F2,b1,b2⟩:=RN (E:=E) (N:=N) (F:=F1) (H:=H);obtain⟨e1,e2⟩:=same λi h1 h2=>by omega
  refine⟨F2,rs,?_,by rw[e1,b2,a3 0 (by omega)];exact k0,e2⟩
  rw[hself];exact Ex.seq (Ex.dy g1) (Ex.vu (Ex.seq (Ex.dy a1) (Ex.oE (by show get F1 10=_;rw[a2,decide_eq_true (by omega)]) (Ex.seq (Ex.dy b1) Ex.ret))) (by simp))
 .have g4:∀call,bV E N call none r4 F1 H=some (set F1 5 (.int .i64 1),H):=λcall=>vp (v:=.int .i64 1) rfl (by simp[aT,aF,aq]) dS
  have hc:Ex E N (.seq (.ops r2) (.cond (.s 10) (.seq (.ops r3) (.ret)) (.skip))) F0 H .norm F1 H:=Ex.seq (Ex.dy a1) (Ex.tN (by show get F1 10=_;rw[a2,decide_eq_false (by omega)]) Ex.skip)
  rcases IW (N:=N) X (L-1) 1 (set F1 5 (.int .i64 1)) (by omega) (by omega) (λi h1 h2=>by omega) (by rw[gX _ _ (by omega),a3 0 (by omega)];exact k0) (by rw[gX _ _ (by omega),a3 1 (by omega)];exact k1) (by rw[tM];rfl)with⟨F',l1,l2,l3⟩|⟨F',rs',l1,l2,l3⟩
  .obtain⟨F2,b1,b2⟩:=Uf (E:=E) (N:=N) (F:=F') (H:=H);obtain⟨e1,e2⟩:=same l3;refine⟨F2,rs,?_,by rw[e1,b2];exact l2,e2⟩
   rw[hself];exact Ex.seq (Ex.dy g1) (Ex.seq hc (Ex.seq (Ex.seq (Ex.dy g4) (Ex.wq (Ex.loop l1))) (Ex.seq (Ex.dy b1) Ex.ret)))
  .exact⟨F',rs',Ex.seq (Ex.dy g1) (Ex.seq hc (Ex.vu (Ex.seq (Ex.dy g4) (Ex.Lh (Ex.loop l1))) (by simp))),l2,l3⟩
theorem empty {w:V} (c:V) (hw:w=.aR\/w=.ck):∃F',Ex E N code [w,c] H .ret F' H/\get F' 4=w:=by
 have g1:∀call,bV E N call none r1 [w,c] H=some (set [w,c] 4 .aR,H):=λcall=>vp (v:=.aR) rfl (by simp[aT,aF,aq]) dS
 have k0:get (set [w,c] 4 .aR) 0=w:=rfl;generalize set [w,c] 4 .aR=F0 at *;have hl:o_ w=some (.int .i64 0):=by rcases hw with rfl|rfl <;> rfl
 have a1:∃F1,(∀call,bV E N call none r2 F0 H=some (F1,H))/\get F1 10=.bool true/\get F1 0=w:=by
  refine⟨_,λcall=>vp (v:=w) rfl ?_ <| vp (v:=.int .i64 0) rfl ?_ <| vp (v:=.bool true) rfl ?_ dS,?_,?_⟩
  .simp[aT,aF,aq,k0]
  .simp[aT,aF,aq,aB,hl]
  .simp[aT,aF,aq,aB,iQ,oS]
  .simp[aB]
  .simp[aB,k0]
 obtain⟨F1,a1,a2,a3⟩:=a1;obtain⟨F2,b1,b2⟩:=RN (E:=E) (N:=N) (F:=F1) (H:=H);exact⟨F2,Ex.seq (Ex.dy g1) (Ex.vu (Ex.seq (Ex.dy a1) (Ex.oE a2 (Ex.seq (Ex.dy b1) Ex.ret))) (by simp)),by rw[b2,a3]⟩
end
end cmpX
end Go.VE
namespace Go.VE
variable [aW]
def Sl.re {α:Type} (s:Sl α) (l:List α):Sl α:=match s with|.nil=>.nil|.emp=>.emp|.row _=>.row l|.part _=>.part l
section
variable {S:Sys} {T:qg} {β γ δ α:Type} {Q:Out×St->Option β} {e:γ->Option β} {cf:Cf}
theorem mm.QU (hT:uU S T) (hI:∀f a b xs,S.items f a b=some xs->gm S f a b xs) {fn:FuncId} {A:δ->List V} {E:α->List V} {p:δ->Option α} {sc:Bool} (F:mm S (dA S T) fn A E p sc) {z:δ} {r:α} (h:p z=some r) (hg:V.bL (A z)=true) :
 ∃n,bG (run S.E n) fn (A z) []=some (result (E r)):=by
 have h1:=F.h z (E r) (by simp_all)
 obtain⟨⟨rs,m'⟩,h2,h3⟩:=ζg.1 h1;obtain⟨n,y,H2,e1,e2,e3⟩:=Ak (vr hT hI) hg h2 h3 (F.r r);refine⟨n,?_⟩;have hb:borrows 8 [] (A z)=some (A z):=by
  have hc:=V.mg hg;generalize A z=l at hc;unfold borrows
  induction l with
  | nil=>rfl
  | cons x l ih=>
   simp[V.jP]at hc;simp[jS,c6 8 [] hc.1,ih hc.2]
 unfold bG;rw[hb];simp[e1 n (Nat.le_refl _),e2,V.kn e3]
section
variable [aI α] [Lv 8 α]
end
end
end Go.VE
namespace Go.VE
variable [aW]
section
variable {H H':ak} {w:V} {o:Nat} {ids:List Nat} {rows:List (List V)}
theorem kE.cell (n:kE H w o ids rows) {p j:Nat} {r:List V} {u:V} (hr:rows[p]? = some r) (hu:r[j]? = some u) :
 ∃id,ids[p]? = some id/\j7 1 w (p:Int)=some (.hptr o p 0)/\dB H (.load 1 false) [.hptr o p 0]=some (.hsl id 1 0 r.length)/\j7 1 (.hsl id 1 0 r.length) (j:Int)=some (.hptr id j 0)/\dB H (.load 1 false) [.hptr id j 0]=some u:=by
 have hp:=(ζe.1 hr).1;have hj:=(ζe.1 hu).1;have hne:rows≠[]:=by intro e;subst e;simp at hr
 have hpi:p<ids.length:=by rw[n.len];exact hp
 have hid:=ζd hpi;refine⟨ids[p],hid,?_,?_,?_,?_⟩
 .have:=n.v;rw[if_neg hne]at this;subst this;simp[j7,hp]
 .have h1:=n.ob hne;have h2:=Aa hid hr;simp[dB,cR,h1,Ob.rows,h2,cut];rfl
 .simp[j7,hj]
 .have h1:=n.r p _ r hid hr;simp[dB,cR,h1,Ob.rows,gR,hu,cut];rfl
theorem Kx {ids:List Nat} (h:ids.Nodup) {i j:Nat} {a:Nat} (hi:ids[i]? = some a) (hj:ids[j]? = some a):i=j:=by
 have h1:=(ζe.1 hi);have h2:=(ζe.1 hj);obtain⟨h1,e1⟩:=h1;obtain⟨h2,e2⟩:=h2;exact(List.getElem_inj h).1 (e1.trans e2.symm)
theorem kE.set (n:kE H w o ids rows) {p j id:Nat} {r:List V} {u:V} (hr:rows[p]? = some r) (hj:j<r.length) (hid:ids[p]? = some id) (hu:V.one u=true) (hc:u.cells=[u]) :
 ∃H',eA H (.store 1) [.hptr id j 0,u]=some (.undef,H')/\kE H' w o ids (rows.set p (r.set j u))/\H'.length=H.length/\(∀i,i≠id->H'[i]? = H[i]?):=by
 have hp:=(ζe.1 hr).1;have hne:rows≠[]:=by intro e;subst e;simp at hr
 have h1:=n.r p id r hid hr;have hl:id<H.length:=(ζe.1 h1).1;have hset:(gR r).set j [u]=gR (r.set j u):=by simp[gR,List.map_set]
 have hoid:o≠id:=λe=>n.ne hne (e▸List.mem_of_getElem? hid)
 refine⟨H.set id (.row 1 (gR (r.set j u))),?_,⟨?_,λ_=>?_,by simp[n.len],λi id' r' hi hr'=>?_,n.nd,λ_=>n.ne hne⟩,by simp,λi hi=>List.getElem?_set_ne (Ne.symm hi)⟩
 .have h2:(gR r)[j]? = some [r[j]]:=by simp[gR,hj]
  simp only[eA,h1,h2,hc,List.length_singleton,Nat.zero_add,Nat.le_refl,List.all_cons,hu,List.all_nil,Bool.and_self,and_self,if_true,List.take_zero,List.nil_append];rw[<-hset];simp
 .rw[n.v];have:rows.set p (r.set j u)≠[]:=by intro e;apply hne;simpa using e
  rw[if_neg hne,if_neg this,List.length_set]
 .rw[List.getElem?_set_ne (Ne.symm hoid),FG hr (by simp)];exact n.ob hne
 .by_cases e:i=p
  .subst e;rw[hid]at hi;cases hi;rw[List.getElem?_set_self hp]at hr';cases hr';rw[List.getElem?_set_self hl]
  .rw[List.getElem?_set_ne (Ne.symm e)]at hr';have hne':id≠id':=λe'=>e (Kx n.nd (e'▸hi) hid)
   rw[List.getElem?_set_ne hne'];exact n.r i id' r' hi hr'
end
structure jc (H:ak) (w:V) (l:List (List V)) (id:Nat):Prop where
 c:∀c∈l,c.length=2/\c.all V.one=true
 v:(w=.aR/\l=[])\/∃off xs,w=.hsl id 2 off l.length/\H[id]? = some (.row 2 xs)/\off+l.length<=xs.length/\(xs.drop off).take l.length=l
section
variable {H H':ak} {w:V} {l:List (List V)} {id:Nat}
theorem jc.heap (n:jc H w l id) (h:∀off n,w=.hsl id 2 off n->H'[id]? = H[id]?):jc H' w l id:=
 ⟨n.c,n.v.imp (λh=>h) λ⟨off,xs,e1,e2,e3,e4⟩=>⟨off,xs,e1,by rw[h _ _ e1];exact e2,e3,e4⟩⟩
theorem jc.lt (n:jc H w l id) {off m:Nat} (h:w=.hsl id 2 off m):id<H.length:=by
 rcases n.v with⟨e,_⟩|⟨_,xs,_,e2,_⟩
 .rw[e]at h;cases h
 .exact(ζe.1 e2).1
theorem jc.more (n:jc H w l id) (X:ak):jc (H++X) w l id:=n.heap λ_ _ e=>List.getElem?_append_left (n.lt e)
theorem jc.len (n:jc H w l id):o_ w=some (.int .i64 l.length):=by
 rcases n.v with⟨rfl,rfl⟩|⟨off,xs,rfl,_⟩ <;> rfl
theorem jc.get (n:jc H w l id) {i:Nat} {c:List V} (hc:l[i]? = some c):∃p,j7 2 w (i:Int)=some p/\dB H (.load 2 true) [p]=some (.agg c):=by
 have hi:=(ζe.1 hc).1;have hcl:=(n.c c (List.mem_of_getElem? hc)).1;rcases n.v with⟨_,rfl⟩|⟨off,xs,rfl,e2,e3,e4⟩
 .simp at hc
 .refine⟨.hptr id (off+i) 0,by simp[j7,hi],?_⟩
  have:xs[off+i]? = some c:=by
   rw[<-e4,List.getElem?_take,if_pos hi,List.getElem?_drop]at hc;exact hc
  simp[dB,cR,e2,Ob.rows,this,cut,<-hcl];rfl
theorem jc.tail {c:List V} (n:jc H w (c::l) id):∃w',gC 2 w (some 1) none=some w'/\jc H w' l id/\∃off m off',w=.hsl id 2 off m/\w'=.hsl id 2 off' l.length:=by
 rcases n.v with⟨_,e⟩|⟨off,xs,rfl,e2,e3,e4⟩
 .cases e
 .refine⟨.hsl id 2 (off+1) l.length,?_,⟨λc hc=>n.c c (List.mem_cons_of_mem _ hc),.inr ⟨off+1,xs,rfl,e2,by simp at e3;omega,?_⟩⟩,⟨_,_,_,rfl,rfl⟩⟩
  .simp[gC,cN];omega
  .have hd:(xs.drop off).drop 1=xs.drop (off+1):=by rw[List.drop_drop]
   rw[<-hd];have:=congrArg (List.drop 1) e4;rw[List.drop_take]at this;simpa using this
theorem jc.push (n:jc H w l id) {c:List V} (hc:c.length=2/\c.all V.one=true) (hl:l.length+1<=2147483648) :
 ∃H',eA (H++[.row 2 [c]]) (.append 2) [w,.hsl H.length 2 0 1]=some (.hsl (H.length+1) 2 0 (l.length+1),H')/\jc H' (.hsl (H.length+1) 2 0 (l.length+1)) (l++[c]) (H.length+1)/\H'.length=H.length+2/\(∀i,i<H.length->(∀off m,w=.hsl id 2 off m->i≠id)->H'[i]? = H[i]?):=by
 have e2:cW (H++[.row 2 [c]]) 2 (.hsl H.length 2 0 1)=some [c]:=by simp[cW,Ob.rows]
 have hcs:∀c'∈l++[c],c'.length=2/\c'.all V.one=true:=λc' h=>by
  rcases List.mem_append.1 h with h|h
  .exact n.c c' h
  .simp at h;subst h;exact hc
 rcases n.v with⟨rfl,rfl⟩|⟨off,xs,rfl,g2,g3,g4⟩
 .have e1:cW (H++[.row 2 [c]]) 2 .aR=some []:=rfl;refine⟨H++[.row 2 [c]]++[.row 2 [c]],?_,⟨hcs,.inr ⟨0,[c],rfl,by simp,by simp,rfl⟩⟩,by simp,λi hi _=>by rw[List.append_assoc,List.getElem?_append_left hi]⟩
  simp only[eA,e1,e2,fQ,List.length_nil,List.length_singleton,Option.map_some];simp
 .have hid:=(ζe.1 g2).1;have e1:cW (H++[.row 2 [c]]) 2 (.hsl id 2 off l.length)=some l:=by
   simp only[cW,if_true,List.getElem?_append_left hid,g2,ζb,Ob.rows,g3,g4]
  have eg:fQ (H++[.row 2 [c]]) (.hsl id 2 off l.length)=some (List.set (H++[Ob.row 2 [c]]) id Ob.dead):=by
   simp only[fQ,List.getElem?_append_left hid,g2]
  refine⟨List.set (H++[Ob.row 2 [c]]) id Ob.dead++[Ob.row 2 (l++[c])],?_,⟨hcs,.inr ⟨0,l++[c],by simp,by simp,by simp,List.take_of_length_le (by simp)⟩⟩,by simp,λi hi h=>?_⟩
  .simp only[eA,e1,e2,eg,List.length_singleton,hl,if_true,Option.map_some,ζi]
  .rw[List.getElem?_append_left (by simp;omega),List.getElem?_set_ne (Ne.symm (h _ _ rfl)),List.getElem?_append_left hi]
end
noncomputable def B8 (rs:List RV):Out×St->Option aM
 | (.exit _,_)=>none
 | (_,st)=>(mJ st rs).bind λl=>match l with
  | [.own d]=>ai st.m d
  | _=>none
theorem Ti {S:Sys} {c:br} {rs:List RV} {rc:RC} {st:St} {ob:aM} (h:kD S c (B8 rs) rc [] st=some ob):∃o st' d,bD S c rc st=some (o,st')/\(∀id,o≠.exit id)/\mJ st' rs=some [.own d]/\ai st'.m d=some ob:=by
 rw[sq]at h;obtain⟨⟨o,st'⟩,h1,h2⟩:=ζg.1 h;have ho:∀id,o≠.exit id:=by rintro id rfl;simp[B8]at h2
 have h3:(mJ st' rs).bind (λl=>match l with|[.own d]=>ai st'.m d|_=>none)=some ob:=by
  cases o with
  | exit id=>exact absurd rfl (ho id)
  | norm=>exact h2
  | ret=>exact h2
 obtain⟨l,h4,h5⟩:=ζg.1 h3;split at h5
 .exact⟨o,st',_,h1,ho,h4,h5⟩
 .cases h5
theorem QT {S:Sys} {T:qg} (hT:uU S T) (hI:∀f a b xs,S.items f a b=some xs->gm S f a b xs) {f:FuncId} {rf:RF} (hf:T f=some rf) {av:List V} (hg:V.bL av=true) (hn:av.length<=rf.na) {k:Fl} {es:Nat} {xs:List (List V)}
 (hx:∀x∈xs,x.all V.scalar=true) (hk:k=.row\/k=.nil/\xs=[]) (h:kD S (dA S T) (B8 rf.rs) rf.body [] (start (av.map .v) [])=some (.sl k es xs)) :
 ∃n y H',run S.E n (.fn f) av []=some (y,H')/\((k=.nil/\y=.aR)\/(∃id,y=.hsl id es 0 xs.length/\H'[id]? = some (.row es xs))):=by
 obtain⟨o,st',d,h1,h2,h3,h4⟩:=Ti h;have hc:dA S T f (av.map .v) []=some ([.own d],st'.m):=by
  rw[wV hf];unfold nE;rw[if_pos (by simpa using hn),h1]
  cases o with
  | exit id=>exact absurd rfl (h2 id)
  | norm=>simp only[h3,Option.map_some]
  | ret=>simp only[h3,Option.map_some]
 obtain⟨r0,r1⟩:=u6 hg;obtain⟨n,y,H2,ν',Z',st2,F',ys,g1,rfl,g3,g4,g5,_⟩:=vr hT hI f _ _ _ _ hc _ _ av [] (.inr rfl) r0 r1;obtain⟨z,zs,rfl,e1,e2⟩:=g4.inv;have:=e2.bZ;subst this;refine⟨n,_,H2,g1,?_⟩
 cases e1 with
 | own d y hy=>
  obtain⟨k',es',xs',e,hyv⟩:=hy _ h4;cases e;have hob:=g5.obj d _ (by rw[g3];exact h4)
  rcases hk with rfl|⟨rfl,rfl⟩
  .right;simp only[cO,bM,if_true]at hob;obtain⟨ys,q1,q2,q3,q4,q5⟩:=hob;obtain⟨q5,q6⟩:=q5 trivial;rw[q5,List.drop_zero,<-q6,List.take_of_length_le (Nat.le_refl _)]at q3;have:xs=ys:=by
    refine List.ext_getElem q3.1 λi p q=>?_
    have hi:=q3.2 i _ _ (ζd p) (ζd q);refine List.ext_getElem hi.1 λj p' q'=>?_
    have hj:=hi.2 j _ _ (ζd p') (ζd q');exact((hj.scalar).1 (List.all_eq_true.1 (hx _ (List.getElem_mem p)) _ (List.getElem_mem p'))).symm
   subst this;refine⟨(ν' d).1,?_,q1⟩;show result [_]=_;rw[hyv];simp[result,qq,q5]
  .left;exact⟨rfl,by show result [_]=_;rw[hyv];rfl⟩
theorem EN {E:Env} {f:FuncId} {av:List V} {l:List (List V)} {y:V} {H1:ak} (hk:E.own f=true) (hg:V.bL av=true) (hl:∀c∈l,c.length=2/\c.all V.one=true/\c.all V.scalar=true)
 (hr:∃n,∀k,n<=k->run E k (.fn f) av []=some (y,H1)) (hy:(l=[]/\y=.aR)\/(∃id,y=.hsl id 2 0 l.length/\H1[id]? = some (.row 2 l))) (H:ak) :
 ∃w X id,(∃n,∀k,n<=k->eH E (run E k) f av H=some (w,H++X))/\jc (H++X) w l id/\(∀off m,w=.hsl id 2 off m->id=H.length):=by
 obtain⟨n,hr⟩:=hr;have hb:∀{l:List V},V.bL l=true->borrows 8 H l=some l:=by
  intro l;unfold borrows
  induction l with
  | nil=>intro _;rfl
  | cons a l ih=>
   intro h;have h1:V.good a=true/\V.bL l=true:=by simpa [V.bL]using h
   simp only[jS,c6 8 H (V.kn h1.1),ih h1.2]
 rcases hy with⟨rfl,rfl⟩|⟨id,rfl,hid⟩
 .refine⟨.aR,[],0,⟨n,λk hk'=>?_⟩,⟨λc h=>by simp at h,.inl ⟨rfl,rfl⟩⟩,λoff m h=>by cases h⟩
  simp only[eH,hk,if_true,kP,hb hg,hr k hk',V.scalar,List.append_nil]
 .refine⟨.hsl H.length 2 0 l.length,[.row 2 l],H.length,⟨n,λk hk'=>?_⟩,⟨λc h=>⟨(hl c h).1,(hl c h).2.1⟩,.inr ⟨0,l,rfl,by simp,by simp,by simp⟩⟩,λoff m h=>rfl⟩
  have hs:(l.all λx=>x.all V.scalar)=true:=List.all_eq_true.2 λc h=>(hl c h).2.2
  simp only[eH,hk,if_true,kP,hb hg,hr k hk',V.scalar,Bool.false_eq_true,if_false,qV,hid,hs,and_self,Option.map_some]
end Go.VE
namespace Go.VE
variable [aW]
def Sl.whole {α:Type} (s:Sl α):Option (Sl α):=match s with|.part _=>none|s=>some s
structure Ee (S:Sys) (c:br) {α δ:Type} [aI δ] (fn:FuncId) (A:α->List V) (p:α->Option (Sl δ)):Prop where
 k:S.E.keep fn=true
 o:S.E.own fn=true
 h:∀z s,p z=some s->∃e m',c fn ((A z).map .v) []=some ([.own e],m')/\ai m' e=some (b_ s)
 l:∀z,V.b8 8 (A z)=true
 sc:∀x:δ,(cells x).all V.scalar=true
theorem Ee.mk' {S:Sys} {T:qg} {α δ:Type} [aI δ] (rf:RF) {fn:FuncId} {A:α->List V} {p:α->Option (Sl δ)} (h:∀z,Le ((p z).bind λr=>some (b_ r)) (bA S (dA S T) (B8 rf.rs) (.rc rf.body,[],start ((A z).map .v) [])))
 (hT:T fn=some rf:=by kernel_rfl) (hk:S.E.keep fn=true:=by kernel_rfl) (ho:S.E.own fn=true:=by kernel_rfl) (hn:∀z,(A z).length<=rf.na:=by intro z;exact Nat.le_of_ble_eq_true (by kernel_rfl))
 (l:∀z,V.b8 8 (A z)=true:=by intro z;simp) (sc:∀x:δ,(cells x).all V.scalar=true:=by intro x;rfl):Ee S (dA S T) fn A p where
 k:=hk
 o:=ho
 l:=l
 sc:=sc
 h z s hs:=by
  have h1:=h z (b_ s) (by rw[hs];rfl)
  change kD S (dA S T) (B8 rf.rs) rf.body [] (start ((A z).map .v) [])=some (b_ s)at h1;obtain⟨o,st',d,g1,g2,g3,g4⟩:=Ti h1;refine⟨d,st'.m,?_,g4⟩;rw[wV hT];unfold nE;rw[if_pos (by simpa using hn z),g1]
  cases o with
  | exit id=>exact absurd rfl (g2 id)
  | norm=>simp only[g3,Option.map_some]
  | ret=>simp only[g3,Option.map_some]
section
variable {S:Sys} {c:br} {β γ δ α:Type} [aI δ] {Q:Out×St->Option β} {e:γ->Option β} {cf:Cf}
theorem HF (n u:Nat) {fn:FuncId} {A:α->List V} {p:α->Option (Sl δ)} (F:Ee S c fn A p) (z:α) {f:Sl δ->Option γ}
 (h:∀x,(p z).bind Sl.whole=some x->Le ((f x).bind e) (bA S c Q (nx S c n cf λq=>{ q.st with g:=aU q.st.g u (.own u),m:=aU q.st.m u (b_ x) })))
 (hL:(gN S c n cf).map (λq=>(q.d,q.k,(a_ S.N q.st.g q.az).bind oM,(!q.dr||q.now),q.st.new u))=some (some u,.c,some (fn,(A z).map .v),true,true):=by kernel_rfl):Le ((((p z).bind Sl.whole).bind f).bind e) (bA S c Q cf):=by
 obtain⟨q,hq,hv⟩:=fA hL;simp only[ζc]at hv;obtain⟨v1,v2,v3,v4,v5⟩:=hv;obtain⟨svs,g1,g2⟩:=ζg.1 v3;refine vX hq ?_ h;rw[v1,v2];intro y hy;obtain⟨s',hs',hy⟩:=ζg.1 hy;cases hy;obtain⟨s,hs,hw⟩:=ζg.1 hs';obtain⟨e0,m',hc,hm⟩:=F.h z s hs;rw[NY q.dr _ _ _ _ _ svs fn ((A z).map .v) g1 g2];have hcall:iI S c (some u) q.dr (!q.dr||q.now) (gw q.st.m q.fr) fn ((A z).map .v) q.st=some (.own u,{ q.st with m:=aU q.st.m u (b_ s') }):=by
  unfold iI;simp only[F.k,F.o,if_true,v4,u7,F.l z,hc,cG,hm,b_,v5]
  cases s with
  | nil=>cases hw;rfl
  | emp=>cases hw;rfl
  | row l=>
   cases hw;have:mI (rows l)=true:=by
    unfold mI;rw[List.all_eq_true];intro x hx;obtain⟨a,_,rfl⟩:=List.mem_map.1 hx;exact F.sc a
   simp only[Sl.k,Sl.l,cG,V.bQ,this,Bool.and_self,v5,if_true];rfl
  | part l=>cases hw
 rw[hcall];rfl
end
end Go.VE
namespace Go.VE
variable [aW]
structure GD where
 m:Nat
 pre:List (Nat×List Gh)
 nd:List (Nat×List Gh×List Gh)
structure GI where
 m:Nat
 i:Nat
 j:Nat
def Tm {α:Type} (l:List (Nat×List α)) (i:Nat):List α:=match l with
 | []=>[]
 | (k,x)::r=>bif Nat.beq k i then x else Tm r i
def yP (l:List (Nat×List Gh×List Gh)) (i:Nat):List Gh×List Gh:=match l with
 | []=>([],[])
 | (k,x)::r=>bif Nat.beq k i then x else yP r i
def IQ (m:Nat):List Nat->List Nat
 | []=>[]
 | x::l=>bif Nat.beq (m % 2) 1 then x::IQ (m / 2) l else IQ (m / 2) l
def L5:List Arg->List Nat
 | []=>[]
 | .s n::r=>n::L5 r
 | _::r=>L5 r
def SY (o:RO):List Nat:=(match o.dst with|some d=>[d]|none=>[])++(match o.gd with|some g=>[g.1]|none=>[])++L5 o.az
def T3 (G:GD) (s:GI) (o:RO):RO:={ o with dead:=IQ (bif Nat.beq (s.m % 16) 15 then s.m / 16 % 65536 else s.m % 16) (SY o),pre:=Tm G.pre s.i }
def GI.op (s:GI):GI:=⟨bif Nat.beq (s.m % 16) 15 then s.m / 1048576 else s.m / 16,s.i+1,s.j⟩
def yL (G:GD):List RO->GI->List RO×GI
 | [],s=>([],s)
 | o::r,s=>(T3 G s o::(yL G r s.op).1,(yL G r s.op).2)
def xU:List Gh->RC->RC
 | [],c=>c
 | g::l,c=>.gh g (xU l c)
def KH:List Gh->RC->RC
 | [],c=>c
 | g::l,c=>KH l (.hg c g)
def GI.nd (s:GI):GI:=⟨s.m,s.i,s.j+1⟩
def h_ (G:GD):RC->GI->RC×GI
 | .seq a b,s=>(xU (yP G.nd s.j).1 (.seq (h_ G a s.nd).1 (h_ G b (h_ G a s.nd).2).1),(h_ G b (h_ G a s.nd).2).2)
 | .cond x a b,s=>(xU (yP G.nd s.j).1 (.cond x (h_ G a s.nd).1 (h_ G b (h_ G a s.nd).2).1),(h_ G b (h_ G a s.nd).2).2)
 | .block id a,s=>(xU (yP G.nd s.j).1 (.block id (h_ G a s.nd).1),(h_ G a s.nd).2)
 | .loop a,s=>(xU (yP G.nd s.j).1 (.loop (KH (yP G.nd s.j).2 (h_ G a s.nd).1)),(h_ G a s.nd).2)
 | .each g ps a b,s=>(xU (yP G.nd s.j).1 (.each g ps (h_ G a s.nd).1 (KH (yP G.nd s.j).2 (h_ G b (h_ G a s.nd).2).1)),(h_ G b (h_ G a s.nd).2).2)
 | .ops l,s=>(xU (yP G.nd s.j).1 (.ops (yL G l s.nd).1),(yL G l s.nd).2)
 | .nH l,s=>(xU (yP G.nd s.j).1 (.nH (yL G l s.nd).1),(yL G l s.nd).2)
 | .gh g c,s=>(.gh g c,s)
 | .hg c g,s=>(.hg c g,s)
 | c,s=>(xU (yP G.nd s.j).1 c,s.nd)
theorem jv (c:RC):∀l,erase (xU l c)=erase c
 | []=>rfl
 | g::l=>by simp only[xU,erase,jv c l]
theorem yz:∀l (c:RC),erase (KH l c)=erase c
 | [],c=>rfl
 | g::l,c=>by simp only[KH,yz l,erase]
theorem wS (G:GD):∀(l:List RO) s,((yL G l s).1).map RO.strip=l.map RO.strip
 | [],s=>rfl
 | o::r,s=>by simp only[yL,List.map_cons,wS G r];rfl
theorem jV (G:GD):∀(c:RC) s,erase (h_ G c s).1=erase c
 | .seq a b,s=>by simp only[h_,jv,erase,jV G a,jV G b]
 | .cond x a b,s=>by simp only[h_,jv,erase,jV G a,jV G b]
 | .block id a,s=>by simp only[h_,jv,erase,jV G a]
 | .loop a,s=>by simp only[h_,jv,erase,yz,jV G a]
 | .each g ps a b,s=>by simp only[h_,jv,erase,yz,jV G a,jV G b]
 | .ops l,s=>by simp only[h_,jv,erase,wS]
 | .nH l,s=>by simp only[h_,jv,erase,wS]
 | .gh g c,s=>rfl
 | .hg c g,s=>rfl
 | .skip,s=>by simp only[h_,jv]
 | .ret,s=>by simp only[h_,jv]
 | .exit _,s=>by simp only[h_,jv]
theorem Gt {X:CX} {dr:Bool} {ops:List Oper} {i:Nat} {o:Oper} {r:RO} (h:lK X dr ops i o=some r):r.strip=r:=by
 obtain⟨_,_,_,_,_,_,rfl⟩:=AV h;rfl
theorem vM {X:CX} {dr:Bool} {ops:List Oper}:∀{l:List Oper} {i:Nat} {r:List RO},jK X dr ops i l=some r->r.map RO.strip=r
 | [],i,r,h=>by cases h;rfl
 | o::l,i,r,h=>by
  simp only[jK]at h;split at h
  .rename_i a b ha hb;cases h;simp only[List.map_cons,Gt ha,vM hb]
  .cases h
theorem Gb {X:CX}:∀{c:Code} {ro:Bool} {r:RC},aP X ro c=some r->erase r=r:=by
 intro c
 induction c with
 | region _ ops dr=>
  intro ro r h;simp only[aP]at h;split at h
  .split at h
   .obtain⟨l,h1,rfl⟩:=ζf.1 h;simp only[erase,vM h1]
   .cases h
  .obtain⟨l,h1,rfl⟩:=ζf.1 h;simp only[erase,vM h1]
 | seq a b iha ihb=>
  intro ro r h;simp only[aP]at h;split at h
  .rename_i h1 h2;cases h;simp only[erase,iha h1,ihb h2]
  .cases h
 | cond c a b iha ihb=>
  intro ro r h;simp only[aP]at h;split at h
  .rename_i h1 h2;cases h;simp only[erase,iha h1,ihb h2]
  .cases h
 | block id a iha=>
  intro ro r h;simp only[aP]at h;obtain⟨l,h1,rfl⟩:=ζf.1 h;simp only[erase,iha h1]
 | loop a iha=>
  intro ro r h;simp only[aP]at h;obtain⟨l,h1,rfl⟩:=ζf.1 h;simp only[erase,iha h1]
 | rangeFunc g ps a b iha ihb=>
  intro ro r h;simp only[aP]at h;split at h
  .cases h
  .split at h
   .rename_i h1 h2;cases h;simp only[erase,iha h1,ihb h2]
   .cases h
 | _=>intro ro r h;first|cases h;rfl|(simp only[aP]at h;cases h;rfl)|(simp only[aP]at h;cases h)
def LH (E:Env) (nm:FuncId->Option Nat) (G:FuncId->Option GD):qg:=λf=>
 (G f).bind λg=>(E.ft f).bind λfi=>(aP ⟨E,nm,fi.ntmps⟩ false fi.body).bind λc=>(fi.results.mapM (zz E)).bind λrs=>some ⟨fi.ntmps,rs,(h_ g c ⟨g.m,0,0⟩).1⟩
theorem Mp {E:Env} {nm:FuncId->Option Nat} {G:FuncId->Option GD} {f:FuncId} {rf:RF} (h:LH E nm G f=some rf):∃fi,E.ft f=some fi/\wQ E nm fi rf:=by
 unfold LH at h;obtain⟨g,_,h⟩:=ζg.1 h;obtain⟨fi,h1,h⟩:=ζg.1 h;obtain⟨c,h2,h⟩:=ζg.1 h;obtain⟨rs,h3,h⟩:=ζg.1 h;cases h;exact⟨fi,h1,by rw[h2,jV,Gb h2],h3,rfl⟩
theorem B5:∀(g:FuncId) (s:Nat),some g=some s->(λn=>n) s=g:=λ_ _ h=>(Option.some.inj h).symm
def xB (o:Option RF):RF:=o.getD ⟨0,[],.skip⟩
def tb (T:qg) (f:FuncId):RC:=(xB (T f)).body
def tr (T:qg) (f:FuncId):List RV:=(xB (T f)).rs
theorem Ka {o:Option RF} (h:o.isSome=true):o=some (xB o):=by cases o with
 | none=>cases h
 | some r=>rfl
class jm (δ:Type) where
 e:δ->List V
instance Um {α:Type} [aI α]:jm α:=⟨λx=>[enc x]⟩
instance Uq:jm Unit:=⟨λ_=>[]⟩
instance Un {α β:Type} [aI α] [jm β]:jm (α×β):=⟨λx=>enc x.1::jm.e x.2⟩
@[simp] theorem T6 {α:Type} [aI α] (x:α):jm.e x=[enc x]:=rfl
@[simp] theorem T7 (x:Unit):jm.e x=[]:=rfl
@[simp] theorem T5 {α β:Type} [aI α] [jm β] (x:α×β):jm.e x=enc x.1::jm.e x.2:=rfl
class Fc (S:Sys) (c:br) {δ:Type} (m:Option δ) where
 n:FuncId
 az:List V
 E:δ->List V
 sc:Bool
 F:mm S c n (λ_:Unit=>az) E (λ_=>m) sc
section
variable {S:Sys} {T:qg} {δ:Type} {m:Option δ}
theorem mm.LV {E:δ->List V} (fn:FuncId) (az:List V) (h:Le (m.bind λr=>some (E r)) (bA S (dA S T) (pO (tr T fn)) (.rc (tb T fn),[],start (az.map .v) [])))
 (hT:(T fn).isSome=true) (hk:S.E.keep fn=false) (hn:Nat.ble az.length (xB (T fn)).na=true)
 (l:V.b8 8 az=true) (r:∀r,V.lvl 8 (result (E r))=true) {sc:Bool} (s:sc=true->∀r,(result (E r)).scalar=true):mm S (dA S T) fn (λ_:Unit=>az) E (λ_=>m) sc where
 k:=hk
 h z:=TA (Ka hT) (Nat.le_of_ble_eq_true hn) h
 l _:=l
 r:=r
 s:=s
abbrev Fc.NE (E:δ->List V) (fn:FuncId) (az:List V) (h:Le (m.bind λr=>some (E r)) (bA S (dA S T) (pO (tr T fn)) (.rc (tb T fn),[],start (az.map .v) [])))
 (hT:(T fn).isSome=true:=by kernel_rfl) (hk:S.E.keep fn=false:=by kernel_rfl) (hn:Nat.ble az.length (xB (T fn)).na=true:=by kernel_rfl)
 (l:V.b8 8 az=true:=by simp) (r:∀r,V.lvl 8 (result (E r))=true:=by intro r;simp):Fc S (dA S T) m:=
 ⟨fn,az,E,false,mm.LV fn az h hT hk hn l r λh=>nomatch h⟩
abbrev Fc.M [jm δ] (fn:FuncId) (az:List V) (h:Le (m.bind λr=>some (jm.e r)) (bA S (dA S T) (pO (tr T fn)) (.rc (tb T fn),[],start (az.map .v) [])))
 (hT:(T fn).isSome=true:=by kernel_rfl) (hk:S.E.keep fn=false:=by kernel_rfl) (hn:Nat.ble az.length (xB (T fn)).na=true:=by kernel_rfl)
 (l:V.b8 8 az=true:=by simp) (r:∀r:δ,V.lvl 8 (result (jm.e r))=true:=by intro r;simp) (s:∀r:δ,(result (jm.e r)).scalar=true:=by intro r;kernel_rfl):Fc S (dA S T) m:=
 ⟨fn,az,jm.e,true,mm.LV fn az h hT hk hn l r λ_=>s⟩
abbrev Fc.N [jm δ] (fn:FuncId) (az:List V) (h:Le (m.bind λr=>some (jm.e r)) (bA S (dA S T) (pO (tr T fn)) (.rc (tb T fn),[],start (az.map .v) [])))
 (hT:(T fn).isSome=true:=by kernel_rfl) (hk:S.E.keep fn=false:=by kernel_rfl) (hn:Nat.ble az.length (xB (T fn)).na=true:=by kernel_rfl)
 (l:V.b8 8 az=true:=by simp) (r:∀r:δ,V.lvl 8 (result (jm.e r))=true:=by intro r;simp):Fc S (dA S T) m:=
 ⟨fn,az,jm.e,false,mm.LV fn az h hT hk hn l r λh=>nomatch h⟩
end
abbrev Fc.of {S:Sys} {c:br} {α δ:Type} {p:α->Option δ} {n:FuncId} {A:α->List V} {E:δ->List V} {b:Bool} (z:α) (F:mm S c n A E p b):Fc S c (p z):=⟨n,A z,E,b,⟨F.k,λ_=>F.h z,λ_=>F.l z,F.r,F.s⟩⟩
theorem mm.tB {S:Sys} {c:br} {α δ:Type} {p:α->Option δ} {n:FuncId} {A:α->List V} {E:δ->List V} {b:Bool} (F:∀z,Fc S c (p z)) (i:α) (hn:∀z,(F z).n=n) (ha:∀z,(F z).az=A z) (hE:∀z,(F z).E=E) (hs:∀z,(F z).sc=b):mm S c n A E p b where
 k:=by rw[<-hn i];exact(F i).F.k
 h z:=by rw[<-hn z,<-ha z,<-hE z];exact(F z).F.h ()
 l z:=by rw[<-ha z];exact(F z).F.l ()
 r:=by rw[<-hE i];exact(F i).F.r
 s:=by rw[<-hs i,<-hE i];exact(F i).F.s
theorem ki.tB {S:Sys} {c:br} {α δ:Type} {p:α->Option δ} {g:FuncId} {w e:List V} {A:α->List V} {R:δ->List V} {b:Bool} [i:Inhabited α] [F:∀z,Fc S c (p z)] (hn:∀z,(F z).n=g:=by intro _;kernel_rfl) (ha:∀z,(F z).az=w++A z++e:=by intro _;kernel_rfl)
 (hE:∀z,(F z).E=R:=by intro _;kernel_rfl) (hs:∀z,(F z).sc=b:=by intro _;kernel_rfl) (hd:V.b8 7 e=true:=by simp) (hw:V.b8 7 w=true:=by simp):ki S c g w e A R p b:=
 ⟨mm.tB F default hn ha hE hs,hd,hw⟩
section
variable {S:Sys} {c:br} {β γ δ α:Type} {Q:Out×St->Option β} {e:γ->Option β} {cf:Cf}
theorem xP (n:Nat) {m:Option β} (h:Le m (bA S c Q (iz S c n cf))) (hL:fW S c n cf.1 cf.2.1 cf.2.2=some (iz S c n cf):=by kernel_rfl):Le m (bA S c Q cf):=BY hL h
theorem aG (n:Nat) {m:Option δ} [F:Fc S c m] {f:δ->Option γ} (h:∀x,m=some x->Le ((f x).bind e) (bA S c Q (nx S c n cf λp=>b7 p.st p.d (.v (result (F.E x))))))
 (hL:(gN S c n cf).map (λp=>(p.k,(a_ S.N p.st.g p.az).bind oM,(!p.dr||p.now||gw p.st.m p.fr [])))=some (.c,some (F.n,F.az.map .v),true):=by kernel_rfl):Le ((m.bind f).bind e) (bA S c Q cf):=qY n F.F () h hL
theorem fq (n:Nat) {m:Option δ} [F:Fc S c m] {f:δ->Option γ} (h:∀x,m=some x->Le ((f x).bind e) (bA S c Q (nx S c n cf λp=>b7 p.st p.d (.v (result (F.E x))))))
 (hL:(gN S c n cf).map (λp=>(p.k,((a_ S.N p.st.g p.az).bind oM).bind λq=>(mE (gY p.st.m 8) q.2).map λvs=>(q.1,vs,((!p.dr||p.now)||gw p.st.m p.fr q.2))))=some (.c,some (F.n,F.az,true)):=by kernel_rfl) (hs:F.sc=true:=by kernel_rfl):Le ((m.bind f).bind e) (bA S c Q cf):=
 Rn n (sc_eq hs F.F) () h hL
where
 sc_eq {b:Bool} {fn:FuncId} {az:List V} {E:δ->List V} {m:Option δ} (h:b=true) (F:mm S c fn (λ_:Unit=>az) E (λ_=>m) b):mm S c fn (λ_:Unit=>az) E (λ_=>m) true:=h▸F
def N4 (cf:Cf):RC:=match cf.1 with|.rc (.loop c)=>c|_=>.skip
def AX (cf:Cf):Arg×List Nat×RC×RC:=match cf.1 with|.rc (.each g ps a b)=>(g,ps,a,b)|_=>(.s 0,[],.skip,.skip)
theorem bS {σ ε ρ:Type} {step:σ->Option (Fw σ ε ρ)} (n:Nat) (eσ:σ->St) (eε:ε->Nat×St) (eρ:ρ->St) {s:σ} {fx:ε->Option γ} {fr:ρ->Option γ}
 (h:∀s,Le ((step s).bind λw=>some (Fw.out eσ eε eρ w)) (bA S c some (.rc (N4 (iz S c n cf)),[],eσ s)))
 (hx:∀x,Le ((fx x).bind e) (bA S c Q (.ex (eε x).1,(iz S c n cf).2.1,(eε x).2))) (hr:∀b,Le ((fr b).bind e) (Q (.ret,eρ b)))
 (hL:fW S c n cf.1 cf.2.1 cf.2.2=some (.rc (.loop (N4 (iz S c n cf))),(iz S c n cf).2.1,eσ s):=by kernel_rfl):Le (((aK step s).bind (Fw.elim fx fr)).bind e) (bA S c Q cf):=
 Jz hL h hx hr
theorem fL {σ ε:Type} {step:σ->Option (Fw σ ε Empty)} (n:Nat) (eσ:σ->St) (eε:ε->Nat×St) {s:σ} {fx:ε->Option γ} {fr:Empty->Option γ}
 (h:∀s,Le ((step s).bind λw=>some (Fw.out eσ eε (λe=>Empty.elim e) w)) (bA S c some (.rc (N4 (iz S c n cf)),[],eσ s)))
 (hx:∀x,Le ((fx x).bind e) (bA S c Q (.ex (eε x).1,(iz S c n cf).2.1,(eε x).2)))
 (hL:fW S c n cf.1 cf.2.1 cf.2.2=some (.rc (.loop (N4 (iz S c n cf))),(iz S c n cf).2.1,eσ s):=by kernel_rfl):Le (((aK step s).bind (Fw.elim fx fr)).bind e) (bA S c Q cf):=
 Jz hL h hx λb=>Empty.elim b
theorem DJ {σ ε ρ:Type} {f:FuncId} {x y:List V} {items:List α} {eI:α->List V} {step:α->σ->Option (Fw σ ε ρ)} (n:Nat) (gt:Tb SV) (eσ:σ->Tb aM) (eε:ε->Nat×Tb aM) (eρ:ρ->Tb aM) {s:σ} {fn:σ->Option γ} {fx:ε->Option γ} {fr:ρ->Option γ}
 (hi:S.items f x y=some (items.map eI))
 (h:∀x s,Le ((step x s).bind λw=>some (Fw.uD eσ eε eρ w)) (bA S c (wE S c (AX (iz S c n cf)).2.2.2) (.rc (AX (iz S c n cf)).2.2.1,[],⟨vi gt (AX (iz S c n cf)).2.1 ((eI x).map .v),eσ s,oh gt,[],true,0⟩)))
 (hn:∀s,Le ((fn s).bind e) (bA S c Q (.nx,(iz S c n cf).2.1,aH gt (eσ s)))) (hx:∀x,Le ((fx x).bind e) (bA S c Q (.ex (eε x).1,(iz S c n cf).2.1,aH gt (eε x).2))) (hr:∀b,Le ((fr b).bind e) (Q (.ret,aH gt (eρ b))))
 (hl:∀x,(eI x).length=(AX (iz S c n cf)).2.1.length:=by intro _;kernel_rfl) (hg:oT S.N gt (AX (iz S c n cf)).1=some (.v (.clo f x y)):=by kernel_rfl)
 (hL:fW S c n cf.1 cf.2.1 cf.2.2=some (.rc (.each (AX (iz S c n cf)).1 (AX (iz S c n cf)).2.1 (AX (iz S c n cf)).2.2.1 (AX (iz S c n cf)).2.2.2),(iz S c n cf).2.1,aH gt (eσ s)):=by kernel_rfl):Le (((mL step items s).bind (Fw.u5 fn fx fr)).bind e) (bA S c Q cf):=
 QH hL hg hi hl h hn hx hr
noncomputable def QI (n k:Nat) (dl:List Nat) (d:Nat) (S:Sys) (c:br) (cf:Cf) (v:SV):Cf:=jmp k [] (iz S c n cf) { (iz S c n cf).2.2 with g:=aU (lN dl (iz S c n cf).2.2.g) d v }
theorem aX [aI δ] (n k:Nat) (dl:List Nat) (d:Nat) {m:Option δ} {f:δ->Option γ} (h2:Le (m.bind λr=>bA S c Q (QI n k dl d S c cf (cv r))) (bA S c Q cf))
 (h1:∀r,Le ((f r).bind e) (bA S c Q (QI n k dl d S c cf (cv r)))):Le ((m.bind f).bind e) (bA S c Q cf):=NW _ h2 h1
end
end Go.VE
namespace Go.VE
variable [aW]
instance {n:Nat}:DecidableEq (bg n Int):=λa b=>if h:a.l=b.l then .isTrue (by cases a;cases b;cases h;rfl)else .isFalse λe=>h (by rw[e])
theorem tE:∀l:List Int,gj ((l.map (cells (α:=Int))).flatten)=some l
 | []=>rfl
 | a::l=>by
  show gj (.int .i64 a::(l.map (cells (α:=Int))).flatten)=_;simp only[gj,tE l,Option.map_some]
theorem JO (l:List Int):(l.map (cells (α:=Int))).flatten=l.map (V.int .i64):=by
 induction l with
 | nil=>rfl
 | cons a l ih=>simp only[List.map_cons,List.flatten_cons,ih];rfl
instance {n:Nat}:Key (bg n Int) where
 kk:=.ints n
 ok a:=by
  show ((a.l.map (cells (α:=Int))).flatten.length==n&&(gj (a.l.map (cells (α:=Int))).flatten).isSome)=true;rw[tE,JO,List.length_map,a.len];simp
 eq a b:=by
  show jx (a.l.map (cells (α:=Int))).flatten (b.l.map (cells (α:=Int))).flatten=_;unfold jx;rw[tE,tE];simp only[a.len,b.len,if_true]
  congr 1
  rw[Bool.eq_iff_iff,beq_iff_eq,decide_eq_true_iff];exact⟨λh=>by cases a;cases b;cases h;rfl,λh=>by rw[h]⟩
end Go.VE
namespace Go.VE
variable [aW]
def zb (m:Tb aM):SV->Bool
 | .v _|.agg _=>true
 | x=>jN m x
def lW:SV->List SV
 | .v x=>x.cells.map .v
 | .agg l=>l
 | x=>[x]
def y_ (cells:List SV):List (Nat×Nat)->List SV->Option (List SV)
 | [],[]=>some cells
 | (off,size)::pl,v::vs=>if(lW v).length=size/\off+(lW v).length<=cells.length then y_ (cells.take off++lW v++cells.drop (off+(lW v).length)) pl vs else none
 | _,_=>none
theorem JQ (cells:List SV):y_ cells [] []=some cells:=rfl
theorem Bu (cells:List SV) (off size:Nat) (pl:List (Nat×Nat)) (v:SV) (vs:List SV):y_ cells ((off,size)::pl) (v::vs) =
 if(lW v).length=size/\off+(lW v).length<=cells.length then y_ (cells.take off++lW v++cells.drop (off+(lW v).length)) pl vs else none:=rfl
theorem Mb (x:V):lW (.v x)=x.cells.map .v:=rfl
theorem HN (d:Nat):lW (.own d)=[.own d]:=rfl
theorem Ln (d:Nat):lW (.mp d)=[.mp d]:=rfl
theorem IA (d o:Nat):lW (.ptr d o)=[.ptr d o]:=rfl
theorem Mc {m:Tb aM} {v:SV} (h:zb m v=true):vR m v=some (lW v):=by
 cases v <;> first|rfl|(unfold vR;exact if_pos h)|(simp[zb,jN]at h)
theorem GZ {m:Tb aM}:∀{pl:List (Nat×Nat)} {vs cells l:List SV},vs.all (zb m)=true->y_ cells pl vs=some l->qQ m cells pl vs=some l
 | [],[],_,_,_,h=>h
 | [],_::_,_,_,_,h=>by cases h
 | _::_,[],_,_,_,h=>by cases h
 | (off,size)::pl,v::vs,cells,l,ha,h=>by
  rw[List.all_cons,ζh]at ha;rw[Bu]at h;show (match vR m v with|some c=>if c.length=size/\off+c.length<=cells.length then qQ m (cells.take off++c++cells.drop (off+c.length)) pl vs else none|none=>none)=some l
  rw[Mc ha.1];simp only;split at h
  .rename_i hc;rw[if_pos hc];exact GZ ha.2 h
  .cases h
def BZ:SV->Bool
 | .v x=>x.one
 | .agg _=>false
 | _=>true
theorem Ry (x:V):BZ (.v x)=x.one:=rfl
theorem MO (d:Nat):BZ (.own d)=true:=rfl
theorem PL (d:Nat):BZ (.mp d)=true:=rfl
theorem LA (d o:Nat):BZ (.ptr d o)=true:=rfl
theorem GH {m:Tb aM}:∀{l:List SV},l.all BZ=true->l.all (zb m)=true->l.all (vl m)=true
 | [],_,_=>rfl
 | x::l,h,k=>by
  rw[List.all_cons,ζh]at h k ⊢;refine⟨?_,GH h.2 k.2⟩;cases x <;> first|exact h.1|exact k.1|(have:=h.1;cases this)
section
variable {S:Sys} {c:br} {β γ δ α:Type} {Q:Out×St->Option β} {e:γ->Option β} {cf:Cf}
theorem KI {N:Nat->FuncId} {m:Tb aM} {z:List V} {pl:List (Nat×Nat)} {svs l:List SV} (ha:(cG svs).isNone=true) (h:qQ m (z.map .v) pl svs=some l):iK N m (.build z pl) svs=some (.agg l):=by
 unfold iK
 cases hv:cG svs with
 | some x=>rw[hv]at ha;cases ha
 | none=>
  have:vg N m (.build z pl) svs=(qQ m (z.map .v) pl svs).map .agg:=by
   unfold vg;split <;> first|contradiction|(rename_i e _;cases e;rfl)|simp_all
  simp only[this,h,Option.map_some]
theorem SI (n:Nat) (svs l:List SV) (z:List V) (pl:List (Nat×Nat)) {m:Option β} (hf:y_ (z.map .v) pl svs=some l) (h:Le m (bA S c Q (nx S c n cf λp=>b7 p.st p.d (.agg l))))
 (hL:(gN S c n cf).map (λp=>(p.k,a_ S.N p.st.g p.az,(cG svs).isNone,svs.all (zb p.st.m)))=some (.p (.build z pl),some svs,true,true):=by kernel_rfl):Le m (bA S c Q cf):=by
 obtain⟨p,hp,hv⟩:=fA hL;simp only[ζc]at hv;refine wU hp ?_ h;rw[hv.1];exact xT hv.2.1 rfl (KI hv.2.2.1 (GZ hv.2.2.2 hf))
theorem TQ (n u o:Nat) (l:List SV) {m:Option β} (ha:l.all BZ=true) (h:Le m (bA S c Q (nx S c n cf (Ns u o l.length l))))
 (hL:(gN S c n cf).map (λp=>(p.k,a_ S.N p.st.g p.az,(!p.dr||p.now),l.all (zb p.st.m),match ai p.st.m u with|some (.box cs)=>Nat.ble (o+l.length) cs.length|_=>false))=some (.l (.store l.length),some [.ptr u o,.agg l],true,true,true):=by kernel_rfl):Le m (bA S c Q cf):=by
 obtain⟨p,hp,hv⟩:=fA hL;simp only[ζc]at hv;refine wU hp ?_ h;obtain⟨h1,h2,h3,h5,h4⟩:=hv;have hal:=GH ha h5;split at h4
 .rename_i cs hcs;have h9:=Nat.le_of_ble_eq_true h4;rw[h1,qW,h2];simp only[ζb,h3,if_true,iX,hcs,putCells,hal,h9,and_self,Option.map_some,Ns]
 .cases h4
end
section
variable {S:Sys} {c:br} {β γ δ:Type} {Q:Out×St->Option β} {e:γ->Option β} {cf:Cf} {κ ν:Type} [aI κ] [DecidableEq κ] [Key κ] [aI ν]
structure NI (κ ν:Type) where
 o:Option (Mo κ ν)
 deriving Inhabited
def Kd (m:NI κ ν):V:=match m.o with|none=>.eX|some l=>.fmap (kH l)
theorem KW (m:Mo κ ν):V.qU (kH m)=true:=by
 induction m with
 | nil=>rfl
 | cons x r ih=>show V.qU ((enc x.1,enc x.2)::kH r)=true;simp only[V.qU,lz,ih,Bool.and_self]
instance:aI (NI κ ν) where
 cells m:=[Kd m]
 agg:=false
 size:=1
 len _:=rfl
 good m:=by
  unfold Kd;split
  .rfl
  .simp only[V.bL,V.good,KW,Bool.and_self]
 one m:=by unfold Kd;split <;> rfl
 plain _:=rfl
theorem M6 {n:Nat} [Lv n κ] [Lv n ν] (m:Mo κ ν):V.nC (n+1) (kH m)=true:=by
 induction m with
 | nil=>simp[kH,V.nC]
 | cons x r ih=>show V.nC (n+1) ((enc x.1,enc x.2)::kH r)=true;simp only[V.nC,G8,ih,Bool.and_self]
instance {n:Nat} [Lv n κ] [Lv n ν]:Lv (n+2) (NI κ ν):=⟨λm=>by
 show V.b8 (n+2) [Kd m]=true;rw[iF,jR,Bool.and_true];unfold Kd;split
 .rfl
 .simp only[V.lvl,M6]⟩
theorem Po (m:NI κ ν):V.one (enc m)=true:=by obtain⟨o⟩:=m;cases o <;> rfl
end
end Go.VE
namespace Go.VE
variable [aW]
theorem mm.scalar {S:Sys} {c:br} {α δ:Type} {fn:FuncId} {A:α->List V} {E:δ->List V} {p:α->Option δ} {b:Bool} (F:mm S c fn A E p b) (h:∀r,(result (E r)).scalar=true):mm S c fn A E p true:=⟨F.k,F.h,F.l,F.r,λ_=>h⟩
end Go.VE
namespace Go.VE
variable [aW]
section
variable {S:Sys} {c:br} {β γ δ α:Type} [aI α] {Q:Out×St->Option β} {e:γ->Option β} {cf:Cf}
theorem N6 {ω:Type} [aI ω] (n u:Nat) {N:Nat} (a:bg N α) (i:Int) (o:Nat) (x:α) (hx:a.at i=some x) (y:α) (w:ω) (hy:cells y=(cells x).take o++cells w++(cells x).drop (o+aI.size ω)) {m:Option β} (h:Le m (bA S c Q (nx S c n cf λp=>b7 { p.st with m:=aU p.st.m u (bx (a.set i y)) } p.d (.v .undef))))
 (hL:(gN S c n cf).map (λp=>(p.k,a_ S.N p.st.g p.az,ai p.st.m u,(!p.dr||p.now),Nat.ble (o+aI.size ω) (aI.size α)))=some (.l (.store (aI.size ω)),some [.ptr u (i.toNat*aI.size α+o),cv w],some (bx a),true,true):=by kernel_rfl):Le m (bA S c Q cf):=by
 obtain⟨p,hp,hv'⟩:=fA hL;simp only[ζc]at hv';obtain⟨h1,h2⟩:=iU hp;obtain⟨dr,fr,d,gd,now,k',az,dd,l,fs,st⟩:=p;obtain⟨rfl,h3,h4,h5,h8⟩:=hv';exact SG n dr fr (⟨d,gd,now,.l (.store (aI.size ω)),az,dd,[]⟩::l) fs st u a i o x hx y (enc w) (by rw[f_];exact hy) rfl (by(try dsimp only at *);simp only[h1,h2,h3,h4,h5,h8,f_,eY,oF]) (by
  simp only[nx,hp]at h;exact h)
end
end Go.VE
namespace Go.VE
variable [aW]
noncomputable def DO (rs:List RV):Out×St->Option (aM×List V)
 | (.exit _,_)=>none
 | (_,st)=>(mJ st rs).bind λl=>match l with
  | .own d::r=>(ai st.m d).bind λob=>(cG r).map λys=>(ob,ys)
  | _=>none
theorem Hy:∀{l:List SV} {ys:List V},cG l=some ys->l=ys.map .v
 | [],ys,h=>by cases h;rfl
 | .v x::r,ys,h=>by
  simp only[cG]at h;obtain⟨zs,h1,rfl⟩:=ζf.1 h;rw[Hy h1];rfl
 | .own _::_,_,h|.ptr ..::_,_,h|.el ..::_,_,h|.mp _::_,_,h|.clo ..::_,_,h|.tup _::_,_,h|.agg _::_,_,h|.yl _::_,_,h=>by cases h
theorem TP {S:Sys} {c:br} {rs:List RV} {rc:RC} {st:St} {ob:aM} {ys:List V} (h:kD S c (DO rs) rc [] st=some (ob,ys)):∃o st' d,bD S c rc st=some (o,st')/\(∀id,o≠.exit id)/\mJ st' rs=some (.own d::ys.map .v)/\ai st'.m d=some ob:=by
 rw[sq]at h;obtain⟨⟨o,st'⟩,h1,h2⟩:=ζg.1 h;have ho:∀id,o≠.exit id:=by rintro id rfl;simp[DO]at h2
 have h3:(mJ st' rs).bind (λl=>match l with|.own d::r=>(ai st'.m d).bind λob=>(cG r).map λys=>(ob,ys)|_=>none)=some (ob,ys):=by
  cases o with
  | exit id=>exact absurd rfl (ho id)
  | norm=>exact h2
  | ret=>exact h2
 obtain⟨l,h4,h5⟩:=ζg.1 h3;split at h5
 .obtain⟨ob',h6,h7⟩:=ζg.1 h5;obtain⟨zs,h8,h9⟩:=ζf.1 h7;cases h9;exact⟨o,st',_,h1,ho,by rw[h4,Hy h8],h6⟩
 .cases h5
structure Tw (S:Sys) (c:br) {δ ε:Type} [aI δ] [jm ε] (m:Option (Sl δ×ε)) where
 n:FuncId
 az:List V
 k:S.E.keep n=true
 o:S.E.own n=true
 h:∀s r,m=some (s,r)->∃e m',c n (az.map .v) []=some (.own e::(jm.e r).map .v,m')/\ai m' e=some (b_ s)
 l:V.b8 8 az=true
 sc:∀x:δ,(cells x).all V.scalar=true
 sr:∀r:ε,V.bQ (jm.e r)=true
abbrev Tw.mk' {S:Sys} {T:qg} {δ ε:Type} [aI δ] [jm ε] {m:Option (Sl δ×ε)} (fn:FuncId) (az:List V) (h:Le (m.bind λr=>some (b_ r.1,jm.e r.2)) (bA S (dA S T) (DO (tr T fn)) (.rc (tb T fn),[],start (az.map .v) [])))
 (hT:(T fn).isSome=true:=by kernel_rfl) (hk:S.E.keep fn=true:=by kernel_rfl) (ho:S.E.own fn=true:=by kernel_rfl) (hn:Nat.ble az.length (xB (T fn)).na=true:=by kernel_rfl)
 (l:V.b8 8 az=true:=by simp) (sc:∀x:δ,(cells x).all V.scalar=true:=by intro x;rfl) (sr:∀r:ε,V.bQ (jm.e r)=true:=by intro r;rfl):Tw S (dA S T) m where
 n:=fn
 az:=az
 k:=hk
 o:=ho
 l:=l
 sc:=sc
 sr:=sr
 h s r hs:=by
  have hT':=Ka hT;have h1:=h (b_ s,jm.e r) (by rw[hs];rfl)
  change kD S (dA S T) (DO (xB (T fn)).rs) (xB (T fn)).body [] (start (az.map .v) [])=some (b_ s,jm.e r)at h1;obtain⟨o,st',d,g1,g2,g3,g4⟩:=TP h1;refine⟨d,st'.m,?_,g4⟩;rw[wV hT'];unfold nE;rw[if_pos (by simpa using Nat.le_of_ble_eq_true hn),g1]
  cases o with
  | exit id=>exact absurd rfl (g2 id)
  | norm=>simp only[g3,Option.map_some]
  | ret=>simp only[g3,Option.map_some]
section
variable {S:Sys} {c:br} {β γ δ α:Type} {Q:Out×St->Option β} {e:γ->Option β} {cf:Cf}
theorem TF [aI α] (n:Nat) {m:Option β} (h:Le m (bA S c Q (nx S c n cf λp=>b7 p.st p.d (cv (Sl.emp:Sl α)))))
 (hL:(gN S c n cf).map (λp=>(p.k,a_ S.N p.st.g p.az))=some (.p .emptyC,some []):=by kernel_rfl):Le m (bA S c Q cf):=by
 obtain⟨p,hp,hv⟩:=fA hL;simp only[ζc]at hv;refine wU hp ?_ h;rw[hv.1];exact xT hv.2 rfl rfl
theorem S5 [aI α] (n u:Nat) {s x:Sl α} (hk:s=.nil\/s=.emp) {f:Sl α->Option γ}
 (h:∀s',jw s x=some s'->Le ((f s').bind e) (bA S c Q (nx S c n cf λp=>{ p.st with g:=aU p.st.g u (.own u),m:=aU p.st.m u (b_ s') })))
 (hL:(gN S c n cf).map (λp=>(p.d,p.k,a_ S.N p.st.g p.az,p.st.new u))=some (some u,.e (aI.size α),some [.v (bf s),.v (bf x)],true):=by kernel_rfl):Le (((jw s x).bind f).bind e) (bA S c Q cf):=by
 obtain⟨p,hp,hv⟩:=fA hL;simp only[ζc]at hv;refine vX hp ?_ h;rw[hv.1,hv.2.1];have hv':bf s=.aR\/bf s=.ck:=by rcases hk with rfl|rfl <;> first|exact .inl rfl|exact .inr rfl
 refine Le.of_eq ?_;rw[S3 _ _ _ _ _ _ _ _ hv' _ hv.2.2.1];have h1:=RE (S:=S) (c:=c) (dr:=false) (now:=true) (fr:=[]) (az:=p.az) (d:=u) (x:=x) (sx:=.v (bf x)) (st:=p.st) hk hv.2.2.1 rfl (w5 _ x) hv.2.2.2;rw[qW,hv.2.2.1]at h1;simpa using h1
end
end Go.VE
namespace Go.VE
variable [aW]
namespace catX
instance {n:Nat}:OfNat Arg n:=⟨.s n⟩
def ln:K:=.p .lenSl
def ix:K:=.p (.idxS 1)
def bI (o:BinOp):K:=.p (.bin (some .int) none o)
def ld:K:=.r (.load 1 false)
def g1:List RO:=[o1 4 (.k (.aR)) []]
def g2:List RO:=[o1 5 1 [],o2 6 (bI .lss) [5,.k (.int .i64 0)] []]
def g3:List RO:=[o2 7 (.p (.bad)) [] [],⟨none,none,false,.p .bad,[],[],[]⟩]
def g4:List RO:=[o1 8 1 [],o1 9 0 [],o2 10 (.p (.capSl)) [9] [],o1 11 0 [],o2 12 ln [11] [],o2 13 (bI .sub) [10,12] [],o2 14 (bI .sub) [8,13] [],o1 1 14 []]
def g5:List RO:=[o1 15 1 [],o2 16 (bI .gtr) [15,.k (.int .i64 0)] []]
def g6:List RO:=[o1 17 0 [],o1 18 0 [],o2 19 (.p (.capSl)) [18] [],o2 20 (.p (.slice 1 false true)) [17,19] [],o1 21 1 [],o2 22 (.l (.appMk 1 24 [.aR])) [20,21] [],o1 23 0 [],o2 24 ln [23] [],o2 25 (.p (.slice 1 false true)) [22,24] [],o1 0 25 []]
def g7:List RO:=[o1 26 0 [],o1 4 26 []]
def grow:RC:=.seq (.ops g1) (.seq (.seq (.ops g2) (.cond (.s 6) (.ops g3) (.skip))) (.seq (.seq (.ops g4) (.seq (.ops g5) (.cond (.s 16) (.ops g6) (.skip)))) (.seq (.ops g7) (.ret))))
section
variable {E:Env} {N:Nat->FuncId} {t:Nat}
end
end catX
end Go.VE
namespace Go.VE
variable [aW]
namespace catX
def r1:List RO:=[o1 2 (.k (.aR)) []]
def r2:List RO:=[o1 3 (.k (.int .i64 0)) []]
def r3:List RO:=[o1 9 0 [],o2 10 ln [9] [],o1 11 (.k (.int .i64 0)) []]
def r4:List RO:=[o2 12 (bI .lss) [11,10] []]
def r5:List RO:=[o2 13 ix [9,11] [],o2 14 ld [13] [],o1 5 14 []]
def r6:List RO:=[o1 15 3 [],o1 16 5 [],o2 17 ln [16] [],o2 18 (bI .add) [15,17] [],o1 3 18 []]
def r7:List RO:=[o1 19 3 [],o2 20 (bI .lss) [19,.k (.int .i64 0)] []]
def r8:List RO:=[o2 21 (.p (.bad)) [] [],⟨none,none,false,.p .bad,[],[],[]⟩]
def r9:List RO:=[o2 22 (bI .add) [11,.k (.int .i64 1)] [],o1 11 22 []]
def FQ (gid:Nat):List RO:=[o1 23 3 [],o2 24 .c [.f gid,.k (.aR),23] [],o1 6 24 []]
def Ew:List RO:=[o1 25 0 [],o2 26 ln [25] [],o1 27 (.k (.int .i64 0)) []]
def Eo:List RO:=[o2 28 (bI .lss) [27,26] []]
def FJ:List RO:=[o2 29 ix [25,27] [],o2 30 ld [29] [],o1 8 30 []]
def FF:List RO:=[o1 31 6 [],o1 32 8 [],o2 33 (.l (.append 1)) [31,32] [],o1 6 33 []]
def Hr:List RO:=[o2 34 (bI .add) [27,.k (.int .i64 1)] [],o1 27 34 []]
def G3:List RO:=[o1 35 6 [],o1 2 35 []]
section
variable {E:Env} {N:Nat->FuncId} {F:Frame} {H:ak} {α:Type} [aI α] {s:Sl (Sl α)} {i:Nat}
theorem el {u:Sl α} (h:s.l[i]? = some u):j7 1 (bf s) (i:Int)=some (.fptr [bf u]):=by
 have:=Cb (N:=λn=>n) s .i64 (i:Int) 1 rfl
 simp only[aq]at this;rw[this,show idx s (i:Int)=some u from by unfold idx;rw[if_pos (by omega)];exact h];rfl
theorem Ug (s:Sl α):o_ (bf s)=some (.int .i64 s.l.length):=by
 have:=wC (N:=λn=>n) s;simpa only[aq]using this
theorem y3:(get F 0=bf s->∃F',(∀call,bV E N call none r3 F H=some (F',H))/\get F' 9=bf s/\get F' 10=.int .i64 s.l.length/\get F' 11=.int .i64 0/\∀j,j<9->get F' j=get F j) /\
 (get F 0=bf s->∃F',(∀call,bV E N call none Ew F H=some (F',H))/\get F' 25=bf s/\get F' 26=.int .i64 s.l.length/\get F' 27=.int .i64 0/\∀j,j<9->get F' j=get F j):=by
 have h:=Ug s;refine⟨λf0=>⟨_,λcall=>vp (v:=bf s) rfl ?_ <| vp (v:=.int .i64 s.l.length) rfl ?_ <| vp (v:=.int .i64 0) rfl ?_ dS,?_,?_,?_,?_⟩,λf0=>⟨_,λcall=>vp (v:=bf s) rfl ?_ <| vp (v:=.int .i64 s.l.length) rfl ?_ <| vp (v:=.int .i64 0) rfl ?_ dS,?_,?_,?_,?_⟩⟩ <;>
 first
 | (simp[aT,aF,aq,f0];done)
 | (simp only[aT,List.map_cons,List.map_nil,aF,aB,ax,Nat.reduceEqDiff,if_true,if_false,aq,ln,h];rfl)
 | (simp[aT,aF,aq,aB];done)
 | (simp[aB];done)
 | (intro j hj;simp only[aB,ax];repeat (rw[if_neg (by omega)]))
theorem y4 {n:Nat}:(get F 11=.int .i64 i->get F 10=.int .i64 n->∃F',(∀call,bV E N call none r4 F H=some (F',H))/\get F' 12=.bool (decide (i<n))/\∀j,j<12->get F' j=get F j) /\
 (get F 27=.int .i64 i->get F 26=.int .i64 n->∃F',(∀call,bV E N call none Eo F H=some (F',H))/\get F' 28=.bool (decide (i<n))/\∀j,j<28->get F' j=get F j):=by
 refine⟨λf f'=>⟨_,λcall=>vp (v:=.bool (decide (i<n))) rfl ?_ dS,?_,?_⟩,λf f'=>⟨_,λcall=>vp (v:=.bool (decide (i<n))) rfl ?_ dS,?_,?_⟩⟩ <;>
 first
 | (simp[aT,aF,aq,aB,bI,iQ,oS,f,f'];done)
 | (simp[aB];done)
 | (intro j hj;simp only[aB,ax];repeat (rw[if_neg (by omega)]))
theorem y5 {u:Sl α} (h:s.l[i]? = some u):(get F 9=bf s->get F 11=.int .i64 i->∃F',(∀call,bV E N call none r5 F H=some (F',H))/\get F' 5=bf u/\∀j,j<12->j≠5->get F' j=get F j) /\
 (get F 25=bf s->get F 27=.int .i64 i->∃F',(∀call,bV E N call none FJ F H=some (F',H))/\get F' 8=bf u/\∀j,j<28->j≠8->get F' j=get F j):=by
 have e:=el h;have e2:dB H (.load 1 false) [.fptr [bf u]]=some (bf u):=by simp[dB,cR,cut,mk]
 refine⟨λf f'=>⟨_,λcall=>vp (v:=.fptr [bf u]) rfl ?_ <| vp (v:=bf u) rfl ?_ <| vp (v:=bf u) rfl ?_ dS,?_,?_⟩,λf f'=>⟨_,λcall=>vp (v:=.fptr [bf u]) rfl ?_ <| vp (v:=bf u) rfl ?_ <| vp (v:=bf u) rfl ?_ dS,?_,?_⟩⟩ <;>
 first
 | (simp only[aT,List.map_cons,List.map_nil,aF,aB,ax,Nat.reduceEqDiff,if_true,if_false,aq,ix,f,f',e,Option.map_some];done)
 | (simp only[aT,List.map_cons,List.map_nil,aF,aB,ax,Nat.reduceEqDiff,if_true,if_false,ld];rw[e2];rfl)
 | (simp[aT,aF,aq,aB];done)
 | (simp[aB];done)
 | (intro j hj h5;simp only[aB,ax];rw[if_neg (Ne.symm h5)];repeat (rw[if_neg (by omega)]))
structure Acc (H:ak) (w:V) (acc:List (List V)):Prop where
 el:cW H 1 w=some acc
 gr:∃H1,fQ H w=some H1/\H1.length=H.length
 sh:w=.aR/\acc=[]\/∃id xs,w=.hsl id 1 0 acc.length/\H[id]? = some (.row 1 xs)/\(acc≠[]->xs=acc)
def upto (s:Sl (Sl α)) (i:Nat):List α:=(s.l.take i).flatMap Sl.l
end
end catX
end Go.VE
namespace Go.VE
variable [aW]
def wN (op:Bool) (x y:Int):Int:=cond op x y
@[simp] theorem SU (x y:Int):wN true x y=x:=rfl
@[simp] theorem R9 (x y:Int):wN false x y=y:=rfl
namespace setX
instance {n:Nat}:OfNat Arg n:=⟨.s n⟩
def fa (k:Nat):K:=.p (.fieldAddr k)
def ld:K:=.r (.load 1 false)
def r1:List RO:=[o2 4 (.a .box) [1] [],o2 5 (.a .box) [2] []]
def r2:List RO:=[o1 6 0 [],o2 7 (fa 0) [4] [],o2 8 ld [7] [],o2 9 (fa 1) [4] [],o2 10 ld [9] [],o2 11 (.p (.idxS 1)) [6,8] [],⟨none,none,false,.l (.store 1),[11,10],[],[]⟩]
def r3:List RO:=[o1 6 0 [],o2 7 (fa 0) [5] [],o2 8 ld [7] [],o2 9 (fa 1) [5] [],o2 10 ld [9] [],o2 11 (.p (.bin (some .int) none .sub)) [10,.k (.int .i64 1)] [],o2 12 (.p (.idxS 1)) [6,8] [],⟨none,none,false,.l (.store 1),[12,11],[],[]⟩]
def code (op:Bool):RC:=.seq (.ops r1) (.ops (if op then r3 else r2))
section
variable {E:Env} {N:Nat->FuncId} {H:ak} {id off L:Nat} {rs:List (List V)}
theorem N3 {h:Nat} {x y:V} {i:Nat} {v:V} (hb:H[h]? = some (.row 2 [[x,y]])) (hv:[x,y][i]? = some v):dB H (.load 1 false) [.hptr h 0 i]=some v:=by
 match i,hv with
 | 0,hv=>cases hv;simp[dB,cR,hb,Ob.rows,cut,mk]
 | 1,hv=>cases hv;simp[dB,cR,hb,Ob.rows,cut,mk]
 | i+2,hv=>simp at hv
theorem whole (op:Bool) {a b c d:Int} (hid:H[id]? = some (.row 1 rs)) (hp:0<=(wN op c a)) (hpl:(wN op c a).toNat<L) {z:V} (hz:rs[off+(wN op c a).toNat]? = some [z]) :
 ∃F' X,Ex E N (code op) [.hsl id 1 off L,.agg [.int .i64 a,.int .i64 b],.agg [.int .i64 c,.int .i64 d]] H .norm F' ((H++X).set id (.row 1 (rs.set (off+(wN op c a).toNat) [.int .i64 (wN op (IntKind.wrap .i64 (d-1)) b)]))):=by
 let X:ak:=[.row 2 [[.int .i64 a,.int .i64 b]],.row 2 [[.int .i64 c,.int .i64 d]]]
 have hlt:=(ζe.1 hid).1;have e1:∃F1,(∀call,bV E N call none r1 [.hsl id 1 off L,.agg [.int .i64 a,.int .i64 b],.agg [.int .i64 c,.int .i64 d]] H=some (F1,H++X))/\get F1 0=.hsl id 1 off L/\get F1 4=.hptr H.length 0 0/\get F1 5=.hptr (H.length+1) 0 0:=by
  refine⟨_,λcall=>jr (v:=.hptr H.length 0 0) (H1:=H++[.row 2 [[.int .i64 a,.int .i64 b]]]) rfl ?_ <| jr (v:=.hptr (H.length+1) 0 0) (H1:=H++X) rfl ?_ dS,?_,?_,?_⟩
  .simp[aT,aF,get,gL,V.cells,V.one,Mk.val]
  .simp[aT,aF,get,aB,set,gL,V.cells,V.one,Mk.val,X]
  .simp[aB];rfl
  .simp[aB]
  .simp[aB]
 obtain⟨F1,p1,p2,p3,p4⟩:=e1;have h1:(H++X)[id]? = some (.row 1 rs):=by rw[List.getElem?_append_left hlt];exact hid
 have h2:(H++X)[H.length]? = some (.row 2 [[.int .i64 a,.int .i64 b]]):=by simp[X]
 have h3:(H++X)[H.length+1]? = some (.row 2 [[.int .i64 c,.int .i64 d]]):=by
  rw[List.getElem?_append_right (by omega)];simp[X]
 obtain⟨H1,hH⟩:∃H1,H1=H++X:=⟨_,rfl⟩;rw[<-hH]at h1 h2 h3;rw[<-hH]at p1
 suffices hs:∃F',Ex E N (code op) [.hsl id 1 off L,.agg [.int .i64 a,.int .i64 b],.agg [.int .i64 c,.int .i64 d]] H .norm F' (H1.set id (.row 1 (rs.set (off+(wN op c a).toNat) [.int .i64 (wN op (IntKind.wrap .i64 (d-1)) b)])))by
  obtain⟨F',hF⟩:=hs;exact⟨F',X,by rw[<-hH];exact hF⟩
 have hix:∀p:Int,0<=p->p.toNat<L->j7 1 (.hsl id 1 off L) p=some (.hptr id (off+p.toNat) 0):=λp h0 hl=>by
  unfold j7;rw[if_neg (by omega)];simp[hl]
 have hst:∀(q:Nat) (z v:V),rs[q]? = some [z]->v.one=true->eA H1 (.store 1) [.hptr id q 0,v]=some (.undef,H1.set id (.row 1 (rs.set q [v]))):=λq z v hz hv=>by
  simp[eA,h1,hz,C0 hv,hv]
 cases op with
 | false=>
  simp only[R9]at hp hpl hz ⊢;have l1:=N3 (i:=0) h2 rfl;have l2:=N3 (i:=1) h2 rfl;have e2:∃F2,(∀call,bV E N call none r2 F1 H1=some (F2,H1.set id (.row 1 (rs.set (off+a.toNat) [.int .i64 b])))):=by
   refine⟨_,λcall=>vp (v:=.hsl id 1 off L) rfl ?_ <| vp (v:=.hptr H.length 0 0) rfl ?_ <| vp (v:=.int .i64 a) rfl ?_ <| vp (v:=.hptr H.length 0 1) rfl ?_ <| vp (v:=.int .i64 b) rfl ?_ <| vp (v:=.hptr id (off+a.toNat) 0) rfl ?_ <| jr (v:=.undef) rfl ?_ dS⟩
   .simp[aT,aF,aq,p2]
   .simp[aT,aF,aq,aB,fa,fK,p3]
   .simp only[aT,List.map_cons,List.map_nil,aF,aB,ax,Nat.reduceEqDiff,if_true,if_false,ld,l1,Option.map_some]
   .simp[aT,aF,aq,aB,fa,fK,p3]
   .simp only[aT,List.map_cons,List.map_nil,aF,aB,ax,Nat.reduceEqDiff,if_true,if_false,ld,l2,Option.map_some]
   .simp only[aT,List.map_cons,List.map_nil,aF,aB,ax,Nat.reduceEqDiff,if_true,if_false,aq,hix a hp hpl,Option.map_some]
   .simp only[aT,List.map_cons,List.map_nil,aF,aB,ax,Nat.reduceEqDiff,if_true,if_false];exact hst _ z _ hz rfl
  obtain⟨F2,q1⟩:=e2;exact⟨F2,Ex.seq (Ex.dy p1) (Ex.dy (l:=_) q1)⟩
 | true=>
  simp only[SU]at hp hpl hz ⊢;have l1:=N3 (i:=0) h3 rfl;have l2:=N3 (i:=1) h3 rfl;have e2:∃F2,(∀call,bV E N call none r3 F1 H1=some (F2,H1.set id (.row 1 (rs.set (off+c.toNat) [.int .i64 (IntKind.wrap .i64 (d-1))])))):=by
   refine⟨_,λcall=>vp (v:=.hsl id 1 off L) rfl ?_ <| vp (v:=.hptr (H.length+1) 0 0) rfl ?_ <| vp (v:=.int .i64 c) rfl ?_ <| vp (v:=.hptr (H.length+1) 0 1) rfl ?_ <| vp (v:=.int .i64 d) rfl ?_ <| vp (v:=.int .i64 (IntKind.wrap .i64 (d-1))) rfl ?_ <| vp (v:=.hptr id (off+c.toNat) 0) rfl ?_ <| jr (v:=.undef) rfl ?_ dS⟩
   .simp[aT,aF,aq,p2]
   .simp[aT,aF,aq,aB,fa,fK,p4]
   .simp only[aT,List.map_cons,List.map_nil,aF,aB,ax,Nat.reduceEqDiff,if_true,if_false,ld,l1,Option.map_some]
   .simp[aT,aF,aq,aB,fa,fK,p4]
   .simp only[aT,List.map_cons,List.map_nil,aF,aB,ax,Nat.reduceEqDiff,if_true,if_false,ld,l2,Option.map_some]
   .simp[aT,aF,aq,aB,iQ]
   .simp only[aT,List.map_cons,List.map_nil,aF,aB,ax,Nat.reduceEqDiff,if_true,if_false,aq,hix c hp hpl,Option.map_some]
   .simp only[aT,List.map_cons,List.map_nil,aF,aB,ax,Nat.reduceEqDiff,if_true,if_false];exact hst _ z _ hz rfl
  obtain⟨F2,q1⟩:=e2;exact⟨F2,Ex.seq (Ex.dy p1) (Ex.dy (l:=_) q1)⟩
end
end setX
structure UE (S:Sys) {α δ:Type} [aI δ] (g:FuncId) (e:List V) (A:α->List V) (p:Sl δ->α->Option (Sl δ)):Prop where
 f:∃q,S.prm g=some q/\q.part=false/\S.E.keep g=true/\S.E.own g=false/\∀s z s',p s z=some s'->q.go (aI.size δ) (rows s.l) (A z++e)=some (rows s'.l)/\s'=s.re s'.l
 d:V.b8 7 e=true
section
variable {S:Sys} {c:br} {β γ δ α:Type} [aI δ] {Q:Out×St->Option β} {e:γ->Option β} {cf:Cf}
end
end Go.VE
namespace Go.VE
variable [aW]
def snap (w:World):bl:=λb=>match w.heap[b]? with
 | some (.cells c _ _)=>some (.cells c)
 | some (.map es _)=>some (.map es)
 | _=>none
theorem Mr {w:World} (hg:tR (snap w)):bO (snap w) (λ_=>none) [] w where
 dom _ _:=rfl
 imm b x h:=by
  unfold snap at h;split at h
  .rename_i c el fr hh;cases h;exact⟨el,fr,hh⟩
  .rename_i es cl hh;cases h;exact⟨cl,hh⟩
  .cases h
 obs id ob h:=by simp at h
 inj id id' ob ob' p p' h:=by simp at h
 gl:=hg
def dP (I:bl) (xs:List V) (vs:List Value):Prop:=xs.length=vs.length/\∀(j:Nat) a b,xs[j]? = some a->vs[j]? = some b->dc I a b
theorem dP.nil {I:bl}:dP I [] []:=⟨rfl,by simp⟩
theorem dP.one {I:bl} {x:V} {v:Value} (h:dc I x v):dP I [x] [v]:=⟨rfl,λj a b h1 h2=>by
 cases j with
 | zero=>simp at h1 h2;subst h1 h2;exact h
 | succ j=>simp at h1⟩
theorem dP.append {I:bl} {xs ys:List V} {us vs:List Value} (h:dP I xs us) (k:dP I ys vs):dP I (xs++ys) (us++vs):=by
 refine⟨by simp[h.1,k.1],λj a b h1 h2=>?_⟩
 by_cases hj:j<xs.length
 .rw[List.getElem?_append_left hj]at h1;rw[List.getElem?_append_left (by rw[<-h.1];exact hj)]at h2
  exact h.2 j a b h1 h2
 .rw[List.getElem?_append_right (by omega)]at h1
  rw[List.getElem?_append_right (by rw[<-h.1];omega),<-h.1]at h2
  exact k.2 _ a b h1 h2
theorem Ab {α β:Type} {f:α->Option β}:∀{l:List α} {r:List β},l.mapM f=some r->r.length=l.length/\∀(i:Nat) a b,l[i]? = some a->r[i]? = some b->f a=some b
 | [],r,h=>by simp only[List.mapM_nil,Option.pure_def,ζa]at h;subst h;simp
 | x::l,r,h=>by
  simp only[List.mapM_cons,Option.bind_eq_bind,Option.pure_def,ζg,ζa]at h;obtain⟨y,hy,ys,hys,rfl⟩:=h;obtain⟨h1,h2⟩:=Ab hys;refine⟨by simp[h1],λi a b h3 h4=>?_⟩
  cases i with
  | zero=>simp at h3 h4;subst h3 h4;exact hy
  | succ i=>exact h2 i a b (by simpa using h3) (by simpa using h4)
structure uG {H:Type} (b:DataW H->Nat):Prop where
 lit:∀l,1<=b (.lit l)
 str:∀s,s.length+1<=b (.lit (.string s))
 nil:1<=b .nil
 slice:∀es sp,(es.map b).sum+1<=b (.slice es sp)
 agg:∀ps,(ps.map b).sum+1<=b (.agg ps)
class bB (α:Type) where
 wt:α->Nat
 ok:α->Prop
instance:bB Int where
 wt _:=1
 ok n:=-9223372036854775808<=n/\n<=9223372036854775807
instance:bB Bool where
 wt _:=1
 ok _:=True
instance:bB ByteArray where
 wt s:=s.size+1
 ok s:=s.size<=maxLen
instance {α:Type} [bB α]:bB (Sl α) where
 wt s:=(s.l.map bB.wt).sum+1
 ok s:=(∀x∈s.l,bB.ok x)/\s≠.emp
class Reads (P:Program) (t:TypeId) (α:Type) [aI α] [bB α]:Prop where
 size:P.cellsOf t=aI.size α
 rd:∀{H:Type} {enc:TypeId×Value->H} {w:World} {base:Nat} {spare:Nat->Bool} {held:Bool} {fuel:Nat} {cs:List Value} {d:DataW H} {ps:List MemPlace},
  DataW.trod enc P w base spare held fuel t cs=some (d,ps)->∃a:α,dP (snap w) (cells a) cs/\bB.ok a/\∀b:DataW H->Nat,uG b->bB.wt a<=b d
 shape:∀{w:World} {r:_root_.Go.Reach} {base:Nat} {v:Value},Value.okWide P w r base t v->if aI.agg α then ∃cs,v=.agg cs else v.cells=#[v]
section
variable {P:Program}
theorem o9 {w:World} {r:_root_.Go.Reach} {base:Nat} {t:TypeId} {v:Value} {u:_} (hu:P.underlying t=some u) (h1:∀fs,u≠.struct fs) (h2:∀n e,u≠.array n e) (h:Value.okWide P w r base t v):v.cells=#[v]:=by
 cases v with
 | agg cs=>
  exfalso;unfold Value.okWide at h;rw[hu]at h;split at h
  .rename_i fs heq;cases heq;exact h1 _ rfl
  .rename_i n e heq;cases heq;exact h2 _ _ rfl
  .unfold Cell.okWide at h;rw[hu]at h;split at h <;> first|(simp at *;done)|skip
   unfold Cell.ok at h;rw[hu]at h;cases u <;> simp at h
 | _=>rfl
theorem Reads.int {t:TypeId} (hu:P.underlying t=some (.int .i64)) (hc:P.cellsOf t=1):Reads P t Int where
 size:=hc
 rd {H enc w base spare held fuel cs d ps} h:=by
  cases fuel with
  | zero=>simp[DataW.trod]at h
  | succ fuel=>
   simp only[DataW.trod,hu]at h;split at h <;> first|(simp at h;done)|skip
   .rename_i heq;cases heq
   .rename_i k k' n heq;simp only[ζa,TypeDesc.int.injEq]at heq;split at h
    .rename_i hk;obtain⟨rfl,hw⟩:=hk;subst heq;cases h;exact⟨n,dP.one (.int _ n),show _/\_ by simpa [Lit.wf,IntKind.min,IntKind.max,IntKind.signed,IntKind.bits]using hw,λb hb=>hb.lit _⟩
    .simp at h
   all_goals (rename_i heq;cases heq)
 shape h:=by simp only[show aI.agg Int=false from rfl];exact o9 hu (by simp) (by simp) h
theorem Reads.bool {t:TypeId} (hu:P.underlying t=some .bool) (hc:P.cellsOf t=1):Reads P t Bool where
 size:=hc
 rd {H enc w base spare held fuel cs d ps} h:=by
  cases fuel with
  | zero=>simp[DataW.trod]at h
  | succ fuel=>
   simp only[DataW.trod,hu]at h;split at h <;> first|(simp at h;done)|skip
   .rename_i b _;cases h;exact⟨b,dP.one (.bool b),trivial,λb hb=>hb.lit _⟩
   all_goals (rename_i heq;cases heq)
 shape h:=by simp only[show aI.agg Bool=false from rfl];exact o9 hu (by simp) (by simp) h
theorem Reads.str {t:TypeId} (hu:P.underlying t=some .string) (hc:P.cellsOf t=1):Reads P t ByteArray where
 size:=hc
 rd {H enc w base spare held fuel cs d ps} h:=by
  cases fuel with
  | zero=>simp[DataW.trod]at h
  | succ fuel=>
   simp only[DataW.trod,hu]at h;split at h <;> first|(simp at h;done)|skip
   all_goals (first|(rename_i heq;cases heq;done)|skip)
   rename_i s _;split at h
   .rename_i hs;cases h;exact⟨s,dP.one (.str s),hs,λb hb=>hb.str _⟩
   .simp at h
 shape h:=by simp only[show aI.agg ByteArray=false from rfl];exact o9 hu (by simp) (by simp) h
theorem LW {w:World} {a:Addr} {n:Nat} {v:Value} (h:w.cell? (a.add n)=some v) (hn:n=0\/True):∃c el fr,w.heap[a.block]? = some (.cells c el fr)/\c[a.off+n]? = some v/\(n=0->a.spot=none):=by
 unfold World.cell? Addr.add at h
 by_cases h0:n=0
 .subst h0;simp only[if_true]at h;split at h
  .rename_i c el fr hh;split at h
   .simp at h
   .rename_i hs;exact⟨c,el,fr,hh,h,λ_=>by simpa using hs⟩
  .simp at h
 .simp only[if_neg h0]at h;split at h
  .rename_i c el fr hh;simp only[Option.isSome_none,Bool.false_eq_true,if_false]at h;exact⟨c,el,fr,hh,h,λe=>absurd e h0⟩
  .simp at h
theorem Reads.sl {t e:TypeId} {α:Type} [aI α] [bB α] [Reads P e α] (hu:P.underlying t=some (.slice e)) (hc:P.cellsOf t=1) (hpos:0<aI.size α):Reads P t (Sl α) where
 size:=hc
 rd {H enc w base spare held fuel cs d ps} h:=by
  cases fuel with
  | zero=>simp[DataW.trod]at h
  | succ fuel=>
   simp only[DataW.trod,hu]at h;split at h <;> first|(simp at h;done)|skip
   all_goals (first|(rename_i heq;cases heq;done)|skip)
   .cases h;exact⟨.nil,dP.one .aR,⟨λx hx=>by simp[Sl.l]at hx,by simp⟩,λb hb=>hb.nil⟩
   .rename_i e' a len cap heq;cases heq;split at h
    .rename_i hcap;obtain⟨elems,hel,h⟩:=ζg.1 h;obtain⟨rest,_,h⟩:=ζf.1 h;cases h;obtain⟨hlen,hget⟩:=Ab hel;simp only[List.length_range]at hlen;have hes:P.cellsOf e=aI.size α:=Reads.size (α:=α);have hx:∀i,i<len->∃x:α,∃csi:List Value,w.cells? base (a.add (i*P.cellsOf e)) (P.cellsOf e)=some csi/\dP (snap w) (cells x) csi/\bB.ok x/\∀b:DataW H->Nat,uG b->∀y,elems[i]? = some y->bB.wt x<=b y.1:=λi hi=>by
      have:=hget i i (elems[i]'(by omega)) (by simp[hi]) (ζd (by omega))
      obtain⟨csi,h1,h2⟩:=ζg.1 this;obtain⟨x,hx,hk,hb⟩:=Reads.rd (P:=P) (t:=e) (α:=α) (d:=(elems[i]'(by omega)).1) (ps:=(elems[i]'(by omega)).2) h2
      exact⟨x,csi,h1,hx,hk,λb bo y hy=>by
       rw[ζd (by omega)]at hy;cases hy;exact hb b bo⟩
     have hall:∀n,n<=len->∃xs:List α,xs.length=n/\(∀i x,xs[i]? = some x->∃csi:List Value,w.cells? base (a.add (i*P.cellsOf e)) (P.cellsOf e)=some csi/\dP (snap w) (cells x) csi)/\(∀x∈xs,bB.ok x)/\∀b:DataW H->Nat,uG b->(xs.map bB.wt).sum<=(((elems.take n).map (·.1)).map b).sum:=by
      intro n
      induction n with
      | zero=>intro _;exact⟨[],rfl,by simp,by simp,by simp⟩
      | succ n ih=>
       intro hn;obtain⟨xs,h1,h2,h5,h6⟩:=ih (by omega)
       obtain⟨x,csi,h3,h4,h7,h8⟩:=hx n (by omega)
       refine⟨xs++[x],by simp[h1],λi y hy=>?_,λy hy=>?_,λb bo=>?_⟩
       rotate_left
       .rcases List.mem_append.1 hy with hy|hy
        .exact h5 y hy
        .simp at hy;subst hy;exact h7
       .have k1:=h6 b bo;have k2:=h8 b bo _ (ζd (by omega))
        rw[List.take_succ,ζd (by omega:n<elems.length)]
        simp only[List.map_append,List.sum_append,Option.toList_some,List.map_cons,List.map_nil,List.sum_cons,List.sum_nil];omega
       by_cases hi:i<xs.length
       .rw[List.getElem?_append_left hi]at hy;exact h2 i y hy
       .rw[List.getElem?_append_right (by omega)]at hy
        have:i-xs.length=0:=by
         cases hk:i-xs.length with
         | zero=>rfl
         | succ k=>rw[hk]at hy;simp at hy
        rw[this]at hy;simp at hy;subst hy;have:i=n:=by omega
        subst this;exact⟨csi,h3,h4⟩
     obtain⟨xs,hxl,hxs,hxok,hxw⟩:=hall len (Nat.le_refl _);refine⟨.row xs,dP.one ?_,⟨hxok,by simp⟩,λb bo=>?_⟩
     rotate_left
     .have k:=hxw b bo;rw[List.take_of_length_le (by omega)]at k
      have k2:=bo.slice (elems.map (·.1)) (rest.map (·.1));show (xs.map bB.wt).sum+1<=_;omega
     show dc _ (.fsl (aI.size α) (rows xs)) _
     cases hl:xs with
     | nil=>
      subst hl;simp at hxl;subst hxl;exact .fsl0 _ _ _
     | cons x0 xr=>
      rw[<-hl];have hl0:0<len:=by rw[<-hxl,hl];simp
      have hcell:∀i x,xs[i]? = some x->∀j y,(cells x)[j]? = some y->∃v,w.cell? ((a.add (i*aI.size α)).add j)=some v/\dc (snap w) y v:=by
       intro i x hi j y hy;obtain⟨csi,h1,h2⟩:=hxs i x hi;rw[hes]at h1;unfold World.cells? at h1;split at h1
       .obtain⟨g1,g2⟩:=Ab h1;have hj:j<aI.size α:=by rw[<-eY x];exact(ζe.1 hy).1
        obtain⟨v,hv⟩:∃v,csi[j]? = some v:=⟨_,ζd (by rw[g1];simpa using hj)⟩
        exact⟨v,g2 j j v (by simp[hj]) hv,h2.2 j y v hy hv⟩
       .simp at h1
      have hadd:∀i j,(a.add (i*aI.size α)).add j=a.add (i*aI.size α+j)\/True:=λ_ _=>.inr trivial
      have hget2:∀i x,xs[i]? = some x->∀j y,(cells x)[j]? = some y->∃c el fr v,w.heap[a.block]? = some (.cells c el fr)/\c[a.off+i*aI.size α+j]? = some v/\dc (snap w) y v/\(i=0->j=0->a.spot=none):=by
       intro i x hi j y hy;obtain⟨v,h1,h2⟩:=hcell i x hi j y hy;obtain⟨c,el,fr,g1,g2,g3⟩:=LW h1 (.inr trivial);have hb:(a.add (i*aI.size α)).block=a.block:=by unfold Addr.add;split <;> rfl
       have ho:(a.add (i*aI.size α)).off=a.off+i*aI.size α:=by unfold Addr.add;split <;> simp_all
       rw[hb]at g1;rw[ho]at g2;refine⟨c,el,fr,v,g1,g2,h2,?_⟩;rintro rfl rfl;have:=g3 rfl;simpa [Addr.add]using this
      have h00:∃y,(cells x0)[0]? = some y:=⟨_,ζd (by rw[eY];exact hpos)⟩
      obtain⟨y0,hy0⟩:=h00;obtain⟨c,el,fr,v0,hc1,_,_,hsp⟩:=hget2 0 x0 (by rw[hl];rfl) 0 y0 hy0
      have hsp:=hsp rfl rfl;obtain⟨b,o,sp⟩:=a;simp only at hsp hc1;subst hsp;have hI:snap w b=some (.cells c):=by unfold snap;rw[hc1]
      have hrl:(rows xs).length=len:=by rw[jq,hxl]
      rw[<-hrl];refine .fsl _ _ b o cap c hI (by rw[hrl];exact hcap.2.1) (λr hr=>?_) (λr hr y hy=>?_) ?_ (λi j r y v hr hy hv=>?_)
      .obtain⟨x,_,rfl⟩:=List.mem_map.1 hr;exact eY x
      .obtain⟨x,_,rfl⟩:=List.mem_map.1 hr;exact List.all_eq_true.1 (oF x) y hy
      .
       obtain⟨xl,hxl2⟩:∃x,xs[len-1]? = some x:=⟨_,ζd (by omega)⟩
       obtain⟨yl,hyl⟩:∃y,(cells xl)[aI.size α-1]? = some y:=⟨_,ζd (by rw[eY];omega)⟩
       obtain⟨c2,_,_,v2,k1,k2,_,_⟩:=hget2 (len-1) xl hxl2 (aI.size α-1) yl hyl;simp only at k1 k2;rw[hc1]at k1;cases k1;have:=(Array.getElem?_eq_some_iff.1 k2).1;rw[hrl];have e:len*aI.size α=(len-1)*aI.size α+aI.size α:=by
        obtain⟨m,rfl⟩:∃m,len=m+1:=⟨len-1,by omega⟩
        simp[Nat.add_mul]
       omega
      .simp only[rows,List.getElem?_map,ζf]at hr;obtain⟨x,hx1,rfl⟩:=hr;obtain⟨c2,_,_,v2,k1,k2,k3,_⟩:=hget2 i x hx1 j y hy;simp only at k1 k2;rw[hc1]at k1;cases k1;rw[hv]at k2;cases k2;exact k3
    .simp at h
 shape h:=by simp only[show aI.agg (Sl α)=false from rfl];exact o9 hu (by simp) (by simp) h
theorem dP.seg {I:bl} {acc xs:List V} {cs:List Value} {o n:Nat} (h:dP I acc (cs.take o)) (k:dP I xs ((cs.drop o).take n)):dP I (acc++xs) (cs.take (o+n)):=by
 rw[List.take_add];exact h.append k
theorem dP.fin {I:bl} {xs:List V} {cs:List Value} {n:Nat} (h:dP I xs (cs.take n)) (hl:cs.length=n):dP I xs cs:=by
 rw[List.take_of_length_le (by omega)]at h;exact h
theorem Reads.st {t:TypeId} {fs:Array Field} {α:Type} [aI α] [bB α] (hu:P.underlying t=some (.struct fs)) (hc:P.cellsOf t=aI.size α) (ha:aI.agg α=true)
 (h:∀{H:Type} {enc:TypeId×Value->H} {w:World} {base:Nat} {spare:Nat->Bool} {held:Bool} {fuel:Nat} {cs:List Value} {l:List (DataW H×List MemPlace)},cs.length=aI.size α ->
  (fs.toList.mapM λf=>DataW.trod enc P w base spare held fuel f.type ((cs.drop f.offset).take (P.cellsOf f.type)))=some l->∃a:α,dP (snap w) (cells a) cs/\bB.ok a/\∀b:DataW H->Nat,uG b->bB.wt a<=((l.map (·.1)).map b).sum+1):Reads P t α where
 size:=hc
 rd {H enc w base spare held fuel cs d ps} hr:=by
  cases fuel with
  | zero=>simp[DataW.trod]at hr
  | succ fuel=>
   simp only[DataW.trod,hu]at hr;split at hr <;> first|(simp at hr;done)|skip
   all_goals (first|(rename_i heq;cases heq;done)|skip)
   rename_i hl;obtain⟨l,h1,h2⟩:=ζf.1 hr;cases h2;obtain⟨a,k1,k2,k3⟩:=h (by rw[hl,hc]) h1
   exact⟨a,k1,k2,λb bo=>Nat.le_trans (k3 b bo) (bo.agg _)⟩
 shape hv:=by
  rw[if_pos ha];unfold Value.okWide at hv;rw[hu]at hv;obtain⟨cs,h1,_⟩:=hv;exact⟨cs,h1⟩
theorem Reads.arg {t:TypeId} {α:Type} [aI α] [bB α] [Reads P t α] {H:Type} {enc':TypeId×Value->H} {w:World} {base:Nat} {spare:Nat->Bool} {held:Bool} {r:_root_.Go.Reach} {b:Nat} {v:Value} {d:DataW H} {ps:List MemPlace}
 (hv:Value.okWide P w r b t v) (h:DataW.Trod enc' P w base spare held t v d ps):∃a:α,aJ (snap w) (λ_=>none) (enc a) v/\bB.ok a/\∀b:DataW H->Nat,uG b->bB.wt a<=b d:=by
 obtain⟨fuel,h⟩:=h;obtain⟨a,⟨h1,h2⟩,hok,hwt⟩:=Reads.rd (P:=P) (t:=t) (α:=α) h;have hs:=Reads.shape (P:=P) (t:=t) (α:=α) hv;refine⟨a,?_,hok,hwt⟩
 cases ha:aI.agg α with
 | true=>
  rw[ha,if_pos rfl]at hs;obtain⟨cs,rfl⟩:=hs;rw[vS ha];refine .c _ _ (.agg _ _ (by simpa [Value.cells]using h1) (λj x y hx hy=>h2 j x y hx (by simpa [Value.cells]using hy)))
 | false=>
  rw[ha]at hs;simp only[Bool.false_eq_true,if_false]at hs;rw[hs]at h2;rw[sY ha]at h2;exact .c _ _ (h2 0 _ _ rfl rfl)
end
end Go.VE
namespace Go.VE
variable [aW]
open Go.ChangeShapes Go.WideShapes Go.ChangeAt Go.RowKit
structure E6 (w w':World):Prop where
 kept:w.keptBut w' (λ_=>False)
 fz:∀a:Addr,a.block<w.heap.size->w'.frozen? a=w.frozen? a
theorem DH {I I':bl} {μ':Mu} {H':ak} {w w':World} (s:Step I (λ_=>none) [] w I' μ' H' w'):E6 w w':=by
 have hf:∀b,b<w.heap.size->w'.heap[b]? = w.heap[b]? := λb hb=>s.frame b hb (by rintro⟨id,p,ob,h,_⟩;simp at h)
 refine⟨⟨s.os,s.out.out,λi hi=>?_⟩,λa hb=>?_⟩
 .rw[hf i hi];split
  .rename_i h1 h2;rw[h1]at h2;cases h2;exact⟨rfl,rfl,rfl,λ_ _=>rfl⟩
  .rename_i h1 h2;rw[h1]at h2;cases h2;exact .inr ⟨rfl,rfl⟩
  .rfl
 .unfold World.frozen?;rw[hf _ hb]
theorem Eg {P:Program} {call:cu} (hc:jH P call) {f:FuncId} {args:List V} {b:Bool} {H':ak} (h:call (.fn f) args []=some (.bool b,H')) {w:World} {vs:List Value}
 (hw:tR (snap w)) (hv:bF (snap w) (λ_=>none) args vs):Calls P f vs.toArray w λe w'=>e=.returned (.bool b)/\E6 w w':=by
 intro cs;have k:=((hc.fn f args [] _ H' h).2 (snap w) (λ_=>none) w vs (Mr hw) hv)
 obtain⟨e,w',fr,⟨u,I',μ',rfl,hu,_,hs⟩,hcm,h1,h2⟩:=k.2 cs (by simp[Fence.room,fr])
 refine⟨_,w',fr,⟨?_,DH hs⟩,hcm.comes,h1,h2⟩
 cases hu with
 | c _ _ hcr=>cases hcr;rfl
variable {P:Program} {H:Type} {enc:TypeId×Value->H}
theorem DD {ts:List TypeId} {vs:List Value} {ds:List (DataW H)} {ps:List MemPlace} {w w':World} (hg:E6 w w') (h:DataW.TrodAll enc P w 0 (λ_=>true) true ts vs ds ps):DataW.TrodAll enc P w' 0 (λ_=>true) true ts vs ds ps:=by
 have hcell:∀p:MemPlace,p.block<w.heap.size->w.sameAt w' p:=by
  intro p hp;have k:=hg.kept.2.2 p.block hp
  cases p with
  | cell b off=>
   simp only[World.sameAt,World.cell?];simp only[MemPlace.block]at k hp;split at k
   .rename_i c t fr c' t' fr' h1 h2;rw[h1,h2];simp only;have:=k.2.2.2 off (λx=>x)
    simpa using this
   .rename_i h1 h2;rw[h1,h2]
   .rw[k]
  | map b=>
   simp only[World.sameAt];simp only[MemPlace.block]at k hp;split at k
   .rename_i c t fr c' t' fr' h1 h2;obtain⟨rfl,rfl,h3,h4⟩:=k;rw[h1,h2];have:c'=c:=Array.ext_getElem? λi=>h4 i (λx=>x)
    rw[this]
   .rename_i h1 h2;rcases k with k|⟨rfl,rfl⟩
    .exact k.elim
    .rw[h1,h2]
   .exact k
 induction ts generalizing vs ds ps with
 | nil=>cases vs <;> cases ds <;> simp_all [DataW.TrodAll]
 | cons t ts ih=>
  cases vs with
  | nil=>simp[DataW.TrodAll]at h
  | cons v vs=>
   cases ds with
   | nil=>simp[DataW.TrodAll]at h
   | cons d ds=>
    obtain⟨p,q,⟨n,h1⟩,h2,rfl⟩:=h;exact⟨p,q,⟨n,DataW.trod_carry n _ _ _ h1 λx hx=>hcell x (DataW.trod_lt n _ _ _ h1 x hx)⟩,ih h2,rfl⟩
theorem JA {T:TypeId->Prop} (K:Kids P T) (hz:∀t e,T t->P.underlying t=some (.slice e)->0<P.cellsOf e) {f:Func} {s:ChangeSpec} {apart fresh handsOn again:Bool} {W W':World} {args:Array Value} {ds gs:List (DataW H)} {before:List MemPlace} {tb:TypeId}
 (hT:∀t∈f.params.toList,T t) (hvars:s.vars=[]) (hfn:s.fn H (ds++gs)={ results:=[.lit (.bool true)],args:=ds }) (hrt:f.resultTypes=#[tb]) (hb:P.underlying tb=some .bool)
 (hW:DataW.Whole enc P f.params.toList s.vars apart W args.toList ds gs before) (hg:E6 W W'):s.post enc P f apart fresh handsOn again W args (.bool true) W':=by
 have hW':=hW;obtain⟨p,q,hA,hV,rfl,hfz,hnd⟩:=hW;rw[hvars]at hV;obtain⟨rfl,rfl⟩:=trodVars_none hV;have hr:∀(b:Nat) (sp:Nat->Bool) (hd:Bool),DataW.TrodAll enc P W' b sp hd f.resultTypes.toList ((Value.bool true).resultList f.resultTypes.size) (s.fn H (ds++[])).results []:=λ_ _ _=>by
  rw[hrt,hfn];exact trodAll_cons_mk (shut_bool hb _) trodAll_mk0
 have ha:∀sp:Nat->Bool,(∀x∈p++[],sp x.block=true)->DataW.TrodAll enc P W' 0 sp true f.params.toList args.toList (s.fn H (ds++[])).args p:=λsp hsp=>by
  rw[hfn];exact DataW.TrodAll.respare K hz hT (DD hg hA) (λx hx=>hsp x (List.mem_append_left _ hx))
 have hv:∀sp:Nat->Bool,DataW.TrodVars enc P W' sp s.vars (s.fn H (ds++[])).vars []:=λsp=>by rw[hfn,hvars];rfl
 have hlt:=λx hx=>hW'.lt x hx
 refine⟨ds,[],p++[],[],p,[],hW',hr _ _ _,ha _ λx hx=>by simpa using hlt x hx,hv _,World.keptBut_mono (λx hx=>hx.elim) hg.kept,λ_=>⟨ok_one hrt rfl (okWide_bool_mk hb _),?_⟩⟩
 refine⟨_,_,[]++p++[],⟨[]++p,[],trodAll_append (ha _ λ_ _=>rfl) (hr _ _ _),hv _,rfl,λb off hx=>?_,λh=>by simpa using hnd h⟩,λx hx _=>by simpa using hx⟩
 have hx':MemPlace.cell b off∈p++[]:=by simpa using hx
 rw[hg.fz _ (hlt _ hx')];exact hfz b off hx'
end Go.VE
namespace Go.VE
variable [aW]
instance:bB U8 where
 wt _:=1
 ok n:=0<=n.v/\n.v<=255
theorem Reads.u8 {P:Program} {t:TypeId} (hu:P.underlying t=some (.int .u8)) (hc:P.cellsOf t=1):Reads P t U8 where
 size:=hc
 rd {H enc w base spare held fuel cs d ps} h:=by
  cases fuel with
  | zero=>simp[DataW.trod]at h
  | succ fuel=>
   simp only[DataW.trod,hu]at h;split at h <;> first|(simp at h;done)|skip
   .rename_i heq;cases heq
   .rename_i k k' n heq;simp only[ζa,TypeDesc.int.injEq]at heq;split at h
    .rename_i hk;obtain⟨rfl,hw⟩:=hk;subst heq;cases h;exact⟨⟨n⟩,dP.one (.int _ n),show _/\_ by simpa [Lit.wf,IntKind.min,IntKind.max,IntKind.signed,IntKind.bits]using hw,λb hb=>hb.lit _⟩
    .simp at h
   all_goals (rename_i heq;cases heq)
 shape h:=by simp only[show aI.agg U8=false from rfl];exact o9 hu (by simp) (by simp) h
end Go.VE
namespace Go.VE
variable [aW]
theorem Il {m:Tb aM} {n:Nat} {rs:List SV} {b:Bool} (h:bN m n rs=some [.bool b]):rs=[.v (.bool b)]:=by
 cases rs with
 | nil=>cases n <;> simp[bN]at h
 | cons x r=>
  have h1:shut m n x=some (.bool b)/\bN m n r=some []:=by
   unfold bN at h;split at h
   .rename_i y s h1 h2;simp only[ζa,List.cons.injEq]at h;obtain⟨rfl,rfl⟩:=h;exact⟨h1,h2⟩
   .cases h
  have h2:r=[]:=by
   cases r with
   | nil=>rfl
   | cons y r=>
    have:=h1.2;unfold bN at this;split at this <;> simp at this
  subst h2;have h3:=h1.1
  cases x with
  | v y=>unfold shut at h3;simp only[ζa]at h3;rw[h3]
  | own d=>unfold shut at h3;split at h3 <;> simp only[ζa,reduceCtorEq]at h3;rename_i k es xs _;cases k <;> simp[mq]at h3
  | ptr d o=>
   cases n with
   | zero=>simp[shut]at h3
   | succ n=>
    unfold shut at h3;split at h3 <;> try cases h3
    split at h3 <;> try cases h3
    split at h3 <;> cases h3
  | mp d=>unfold shut at h3;split at h3 <;> cases h3
  | clo f a b=>
   cases n with
   | zero=>simp[shut]at h3
   | succ n=>unfold shut at h3;split at h3 <;> cases h3
  | tup l=>
   cases n with
   | zero=>simp[shut]at h3
   | succ n=>unfold shut at h3;obtain⟨_,_,hq⟩:=ζf.1 h3;cases hq
  | _=>cases n <;> simp[shut]at h3
theorem MU {S:Sys} {T:qg} (hT:uU S T) (hI:∀f a b xs,S.items f a b=some xs->gm S f a b xs) {f:FuncId} {xs:List V} (hg:V.bL xs=true) (h:lU (dA S T) f xs=some [.bool true]) :
 ∃n H',run S.E n (.fn f) xs []=some (.bool true,H'):=by
 unfold lU at h;obtain⟨⟨rs,m⟩,h1,h2⟩:=ζg.1 h;have:=Il h2;simp only at this;subst this;exact PD hT hI hg h1 rfl
theorem Io {S:Sys} {T:qg} {P:Program} (hT:uU S T) (hI:∀f a b xs,S.items f a b=some xs->gm S f a b xs) (hc:∀n,jH P (run S.E n)) {f:FuncId} {xs:List V} (hg:V.bL xs=true) (h:lU (dA S T) f xs=some [.bool true])
 {w:World} {args:Array Value} (hw:tR (snap w)) (hv:bF (snap w) (λ_=>none) xs args.toList):Calls P f args w λe w'=>e=.returned (.bool true)/\E6 w w':=by
 obtain⟨n,H',hr⟩:=MU hT hI hg h;have:=Eg (hc n) hr hw hv;simpa using this
theorem Reads.Jl {P:Program} {t:TypeId} {α:Type} [aI α] [bB α] [Reads P t α] {H:Type} {enc':TypeId×Value->H} {w:World} {base b:Nat} {spare:Nat->Bool} {held:Bool} {v:Value} {d:DataW H} {ps:List MemPlace} {params:Array TypeId} {args:Array Value}
 (hval:∀(j:Nat) t v,params[j]? = some t->args[j]? = some v->Value.okWide P w .any b t v) (j:Nat) (h1:params[j]? = some t) (h2:args[j]? = some v) (h:DataW.Trod enc' P w base spare held t v d ps) :
 ∃a:α,aJ (snap w) (λ_=>none) (enc a) v/\bB.ok a/\∀b:DataW H->Nat,uG b->bB.wt a<=b d:=Reads.arg (hval j t v h1 h2) h
end Go.VE
namespace Go.VE
variable [aW]
theorem bq (n:Nat) (h:n<9223372036854775807):IntKind.wrap .i64 ((n:Int)+1)=((n+1:Nat):Int):=by
 simp[IntKind.wrap,IntKind.bits,IntKind.signed];omega
theorem pH (n:Int) (h1:-9223372036854775808<=n) (h2:n<=9223372036854775807):IntKind.wrap .i64 n=n:=by
 simp[IntKind.wrap,IntKind.bits,IntKind.signed];omega
section
variable {α β:Type} {P:β->Prop}
theorem qZ (s:Sl α) (i:Nat):idx s (i:Int)=s.l[i]? := by
 unfold idx;rw[if_pos (by omega)];rfl
theorem aD {s:Sl α} {i:Nat} (h:i<s.l.length):idx s (i:Int)=some s.l[i]:=by rw[qZ,ζd h]
theorem Rh {s:Sl α} {i:Int} (h0:0<=i):idx s i=s.l[i.toNat]? := by unfold idx;rw[if_pos h0]
theorem qd (s:Sl α) (i:Nat) (h:i<=s.l.length):∃x,eO s none (some (i:Int))=some x/\x.l=s.l.take i:=by
 unfold eO cN;simp only[Option.getD_none,Option.getD_some];rw[if_pos (by omega)]
 cases s <;> simp[Sl.l]at h ⊢ <;> simp[h]
theorem aL {γ:Type} {a b:γ}:aj true a b=a:=rfl
theorem aQ {γ:Type} {a b:γ}:aj false a b=b:=rfl
theorem kQ (a b:Bool):aj a (some b) (some false)=some (a&&b):=by cases a <;> rfl
theorem iA (a b:Bool):aj a (some true) (some b)=some (a||b):=by cases a <;> rfl
theorem rG (a:Bool) (x y:β):aj a (some x) (some y)=some (if a then x else y):=by cases a <;> rfl
end
def place {α:Type} (f:α->Bool) (l:List α):Int:=match l.findIdx? f with
 | some i=>i
 | none=>-1
theorem xM {α:Type} {f:α->Bool} {l:List α} {i:Nat} (h:∀j,j<i->∀x,l[j]? = some x->f x=false) (hi:l.length<=i):l.findIdx? f=none:=by
 rw[List.findIdx?_eq_none_iff];intro x hx;obtain⟨j,hj⟩:=List.getElem?_of_mem hx;have:j<l.length:=(ζe.1 hj).1;exact h j (by omega) x hj
theorem FZ {α:Type} {f:α->Bool} {l:List α} {i:Nat} {x:α} (h:∀j,j<i->∀x,l[j]? = some x->f x=false) (hx:l[i]? = some x) (hf:f x=true):l.findIdx? f=some i:=by
 rw[List.findIdx?_eq_some_iff_getElem];obtain⟨hi,rfl⟩:=ζe.1 hx;exact⟨hi,hf,λj hj=>by rw[h j hj _ (ζd (by omega))];simp⟩
theorem oe {α:Type} {step:Int->Option (Fw Int Unit Int)} {s:Sl α} {p:α->Option Bool} {f:α->Bool} (hp:∀x∈s.l,p x=some (f x)) (hl:s.l.length<9223372036854775807)
 (hs:∀i,step i=aj (decide (i<len s)) ((idx s i).bind λx_1=>(p x_1).bind λx_2=>aj x_2 (some (.r i)) (some (.n (IntKind.wrap .i64 (i+1))))) (some (.x ()))) :
 (aK step 0).bind (Fw.elim (λ_=>some (-1)) (λe=>some e))=some (place f s.l):=by
 refine Wp.eq (dI (λi:Int=>∃n:Nat,i=n/\n<=s.l.length/\∀j,j<n->∀x,s.l[j]? = some x->f x=false) (λi:Int=>s.l.length-i.toNat) ⟨0,rfl,Nat.zero_le _,λj hj=>absurd hj (by omega)⟩ ?_)
 rintro i ⟨n,rfl,hn,hb⟩;rw[hs,bh];refine⟨λh=>?_,λh=>?_⟩
 .have hlt:n<s.l.length:=by simpa [len]using h
  rw[aD hlt,ζb,hp _ (List.getElem_mem hlt),ζb,bh];refine⟨λhf=>?_,λhf=>?_⟩
  .rw[ah];show Wp (some (n:Int)) _;rw[ah];unfold place;rw[FZ hb (ζd hlt) hf]
  .rw[ah];refine⟨⟨n+1,bq n (by omega),by omega,λj hj x hx=>?_⟩,?_⟩
   .by_cases e:j=n
    .subst e;rw[ζd hlt]at hx;cases hx;exact hf
    .exact hb j (by omega) x hx
   .rw[bq n (by omega)];simp;omega
 .have hge:s.l.length<=n:=by simpa [len]using h
  rw[ah];show Wp (some (-1:Int)) _;rw[ah];unfold place;rw[xM hb hge]
theorem nQ {α:Type} (f:α->Bool) (l:List α):decide (place f l>=0)=l.any f:=by
 unfold place
 cases h:l.findIdx? f with
 | none=>
  rw[List.findIdx?_eq_none_iff]at h;have:l.any f=false:=by rw[List.any_eq_false];intro x hx;simp[h x hx]
  rw[this];rfl
 | some i=>
  obtain⟨hi,hf,_⟩:=List.findIdx?_eq_some_iff_getElem.1 h;have:l.any f=true:=List.any_eq_true.2 ⟨_,List.getElem_mem hi,hf⟩;rw[this];simp
theorem Lt {α σ ε ρ:Type} {step:α->σ->Option (Fw σ ε ρ)} {l:List α} (I:Nat->σ->Prop) (px:ε->Prop) (pr:ρ->Prop) {s:σ} (h0:I 0 s)
 (h:∀i a s,l[i]? = some a->I i s->Wp (step a s) λw=>match w with|.n s'=>I (i+1) s'|.x e=>px e|.r b=>pr b) :
 Wp (mL step l s) λw=>match w with|.n s'=>I l.length s'|.x e=>px e|.r b=>pr b:=by
 have key:∀(r:List α) (i:Nat) (s:σ),l.drop i=r->i<=l.length->I i s->Wp (mL step r s) λw=>match w with|.n s'=>I l.length s'|.x e=>px e|.r b=>pr b:=by
  intro r
  induction r with
  | nil=>
   intro i s hd hi hs;have:i=l.length:=by have:=List.drop_eq_nil_iff.1 hd;omega
   subst this;exact⟨_,rfl,hs⟩
  | cons a r ih=>
   intro i s hd hi hs;have hlt:i<l.length:=by
    apply Classical.byContradiction;intro hn;rw[List.drop_eq_nil_of_le (by omega)]at hd;cases hd
   have h2:=List.drop_eq_getElem_cons hlt;rw[h2]at hd;simp only[List.cons.injEq]at hd;obtain⟨w,hw,hp⟩:=h i a s (by rw[ζd hlt,hd.1]) hs
   simp only[mL,hw,ζb]
   cases w with
   | n s'=>exact ih (i+1) s' hd.2 (by omega) hp
   | x e=>exact⟨_,rfl,hp⟩
   | r b=>exact⟨_,rfl,hp⟩
 exact key l 0 s rfl (Nat.zero_le _) h0
theorem zg {α σ ε ρ γ:Type} {step:α->σ->Option (Fw σ ε ρ)} {l:List α} {fn:σ->Option γ} {fx:ε->Option γ} {fr:ρ->Option γ} {P:γ->Prop} (I:Nat->σ->Prop) {s:σ} (h0:I 0 s)
 (h:∀i a s,l[i]? = some a->I i s->Wp (step a s) λw=>match w with|.n s'=>I (i+1) s'|.x e=>Wp (fx e) P|.r b=>Wp (fr b) P)
 (hn:∀s,I l.length s->Wp (fn s) P):Wp ((mL step l s).bind (Fw.u5 fn fx fr)) P:=by
 rw[eB];refine(Lt I _ _ h0 h).mono ?_;intro w hw
 cases w with
 | n s=>exact hn s hw
 | x e=>exact hw
 | r b=>exact hw
end Go.VE
