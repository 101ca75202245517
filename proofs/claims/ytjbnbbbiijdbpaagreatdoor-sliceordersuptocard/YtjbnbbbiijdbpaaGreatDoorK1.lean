/-
 Certificates; functions by hand; readings; plain laws.
-/
import Derived.JoinedCond
import Derived.ReadAgain
import Derived.WalkKit
import Derived.ProofKit
import Derived.OpenShut
import Derived.ChangeSame
import Derived.RowKit3
import Derived.Lib.LaidTab
import Derived.Test.YtjbnbbbiijdbpaaGreatDoorV2
import Derived.Test.YtjbnbbbiijdbpaaGreatDoorN2
import Derived.Test.YtjbnbbbiijdbpaaGreatDoorS1
set_option linter.all false
namespace Go.VE
variable [aW]
abbrev Cf:=Fo×List Fm×St
section
variable (S:Sys) (c:bD) {β:Type} (Q:Out×St→Option β)
noncomputable abbrev bL (cf:Cf):Option β:=rn S c Q cf.1 cf.2.1 cf.2.2
noncomputable def gu (n:Nat) (cf:Cf):Cf:=(fF S c n cf.1 cf.2.1 cf.2.2).getD cf
structure BD where
 dr:Bool
 fr:List Nat
 d:Option Nat
 gd:Option (Nat×Bool)
 now:Bool
 k:K
 az:List Arg
 dd:List Nat
 l:List RO
 fs:List Fm
 st:St
noncomputable def iI (n:Nat) (cf:Cf):Option BD:=match fF S c n cf.1 cf.2.1 cf.2.2 with
 | some (.ops dr fr (⟨d,gd,now,k,az,dd,[]⟩::l),fs,st)=>match wanted st.g gd with
  | some true=>some ⟨dr,fr,d,gd,now,k,az,dd,l,fs,st⟩
  | _=>none
 | _=>none
noncomputable def nx (n:Nat) (cf:Cf) (φ:BD→St):Cf:=match iI S c n cf with
 | some p=>(.ops p.dr (if p.dr then(match p.k with|.p _|.r _=>p.fr|_=>match p.d with|some d=>d::p.fr|none=>p.fr)else p.fr) p.l,p.fs,lz p.dd (φ p))
 | none=>cf
end
def qX (s:Nat) (b:Bool) (cf:Cf):Cf:=(cf.1,cf.2.1,{ cf.2.2 with g:=aV cf.2.2.g s (.v (.bool b)) })
def jmp (k:Nat) (fr:List Nat) (cf:Cf) (st:St):Cf:=match cf with
 | (.ops dr _ l,fs,_)=>(.ops dr fr (l.drop k),fs,st)
 | _=>(.rt,[],st)
def qY:RC→List Nat→List Fm→St→Cf
 | c,[],fs,st=>(.rc c,fs,st)
 | .seq a b,i::p,fs,st=>if i=0 then qY a p (.seq b::fs) st else qY b p fs st
 | .cond _ a b,i::p,fs,st=>if i=0 then qY a p fs st else qY b p fs st
 | .block id c,_::p,fs,st=>qY c p (.blk id::fs) st
 | .gh _ c,_::p,fs,st=>qY c p fs st
 | .hg c g,_::p,fs,st=>qY c p (.gst g::fs) st
 | .loop c,_::p,_,st=>qY c p [] st
 | .each _ _ _ b,_::p,_,st=>qY b p [] st
 | c,_,fs,st=>(.rc c,fs,st)
section
variable {S:Sys} {c:bD} {β γ δ α:Type} {Q:Out×St→Option β} {e:γ→Option β} {cf:Cf}
theorem ij {n:Nat} {p:BD} (h:iI S c n cf=some p):fF S c n cf.1 cf.2.1 cf.2.2=some (.ops p.dr p.fr (⟨p.d,p.gd,p.now,p.k,p.az,p.dd,[]⟩::p.l),p.fs,p.st)∧wanted p.st.g p.gd=some true:=by
 unfold iI at h;split at h
 ·rename_i h1;split at h
  ·rename_i h2;cases h;exact⟨h1,h2⟩
  ·cases h
 ·cases h
theorem Ai {n:Nat} {m:Option δ} {φ:δ→BD→St} {f:δ→Option γ} {p:BD} (hp:iI S c n cf=some p) (hs:Le (m.bind fun x=>some (φ x p)) (dW S c p.dr p.fr ⟨p.d,none,p.now,p.k,p.az,[],[]⟩ p.st))
 (h:∀x,m=some x→Le ((f x).bind e) (bL S c Q (nx S c n cf (φ x)))):Le ((m.bind f).bind e) (bL S c Q cf):=by
 obtain⟨h1,h2⟩:=ij hp;refine A4 h1 rfl h2 hs fun x hx=>?_
 have:=h x hx;simp only[nx,hp]at this;exact this
theorem AF {n:Nat} {m:Option β} {φ:BD→St} {p:BD} (hp:iI S c n cf=some p) (hs:dW S c p.dr p.fr ⟨p.d,none,p.now,p.k,p.az,[],[]⟩ p.st=some (φ p))
 (h:Le m (bL S c Q (nx S c n cf φ))):Le m (bL S c Q cf):=by
 obtain⟨h1,h2⟩:=ij hp;refine oH h1 rfl h2 hs ?_;simp only[nx,hp]at h;exact h
theorem gC {α β:Type} {o:Option α} {f:α→β} {b:β} (h:o.map f=some b):∃a,o=some a∧f a=b:=ζf.1 h
theorem AN (n:Nat) {m:Option β} {cf':Cf} (h:Le m (bL S c Q cf')) (hL:fF S c n cf.1 cf.2.1 cf.2.2=some cf':=by kernel_rfl):Le m (bL S c Q cf):=AG hL h
theorem aJ (n s:Nat) {t:Bool} {x y:Option γ} (ha:Le (x.bind e) (bL S c Q (qX s true (gu S c n cf)))) (hb:Le (y.bind e) (bL S c Q (qX s false (gu S c n cf))))
 (hL:(fF S c n cf.1 cf.2.1 cf.2.2).map (fun p=>an p.2.2.g s)=some (some (.v (.bool t))):=by kernel_rfl):Le ((au t x y).bind e) (bL S c Q cf):=by
 obtain⟨p,hp,hv⟩:=gC hL;have hg:gu S c n cf=p:=by unfold gu;rw[hp];rfl
 rw[hg]at ha hb;refine AG hp ?_;cases t
 ·have:qX s false p=p:=by unfold qX;rw[nV hv]
  rw[this]at hb;exact hb
 ·have:qX s true p=p:=by unfold qX;rw[nV hv]
  rw[this]at ha;exact ha
theorem cB (n s:Nat) {t:Bool} {x y:Option γ} (ha:Le (x.bind e) (bL S c Q (qX s false (gu S c n cf)))) (hb:Le (y.bind e) (bL S c Q (qX s true (gu S c n cf))))
 (hL:(fF S c n cf.1 cf.2.1 cf.2.2).map (fun p=>an p.2.2.g s)=some (some (.v (.bool (!t)))):=by kernel_rfl):Le ((au t x y).bind e) (bL S c Q cf):=by
 obtain⟨p,hp,hv⟩:=gC hL;have hg:gu S c n cf=p:=by unfold gu;rw[hp];rfl
 rw[hg]at ha hb;refine AG hp ?_;cases t
 ·have:qX s true p=p:=by unfold qX;rw[show V.bool true=V.bool (!false)from rfl,nV hv]
  rw[this]at hb;exact hb
 ·have:qX s false p=p:=by unfold qX;rw[show V.bool false=V.bool (!true)from rfl,nV hv]
  rw[this]at ha;exact ha
theorem V4 (n k:Nat) (fr:List Nat) (st:δ→St) {m:Option δ} {f:δ→Option γ} (h2:Le (m.bind fun r=>bL S c Q (jmp k fr (gu S c n cf) (st r))) (bL S c Q cf))
 (h1:∀r,Le ((f r).bind e) (bL S c Q (jmp k fr (gu S c n cf) (st r)))):Le ((m.bind f).bind e) (bL S c Q cf):=L_ _ h2 h1
theorem aC (n:Nat) {r:δ} {k:δ→Cf} (hL:fF S c n cf.1 cf.2.1 cf.2.2=some (k r):=by kernel_rfl):Le ((some r).bind fun r=>bL S c Q (k r)) (bL S c Q cf):=YK (e:=fun r=>bL S c Q (k r)) hL rfl
theorem aj {r:γ} {L:Option β} (h:L=e r:=by kernel_rfl):Le ((some r).bind e) L:=Le.of_eq h
theorem zD (n:Nat) {b:RC} {m:Option (Out×Tb aP)} (h:Le m (bL S c sE (.rc b,[],(gu S c n cf).2.2))) (hL:fF S c n cf.1 cf.2.1 cf.2.2=some (.nx,[],(gu S c n cf).2.2):=by kernel_rfl):Le m (bL S c (uW S c b) cf):=Vo hL h
theorem YT (n:Nat) {o:Option α} (A:Option α→St) {f:α→Option γ} (h2:∀x,o=some x→Le ((f x).bind e) (bL S c Q ((gu S c n cf).1,(gu S c n cf).2.1,A (some x))))
 (hL:fF S c n cf.1 cf.2.1 cf.2.2=some ((gu S c n cf).1,(gu S c n cf).2.1,A o):=by kernel_rfl):Le ((o.bind f).bind e) (bL S c Q cf):=Wh hL h2
theorem lG.YH {S:Sys} {T:pq} [aI δ] {f:FuncId} {A:α→List V} {p:α→Option δ} (hT:T f=none) (hk:S.E.keep f=false) (ho:∀z r,p z=some r→S.vz f (A z)=some (enc r))
 (l:∀z,V.cg 8 (A z)=true:=by intro z;simp) (hr:∀r:δ,V.lvl 8 (result [enc r])=true:=by intro r;simp):lG S (dP S T) f A (fun r=>[enc r]) p false where
 k:=hk
 h z:=by
  intro y hy;obtain⟨r,h1,h2⟩:=ζg.1 hy;cases h2;have h:=Bm hT hk (ho z r h1);unfold jR;rw[h];exact we 8 [enc r]
 l:=l
 r:=hr
 s h:=by cases h
def QE:K→Option (Nat×Nat×List Nat)
 | .a (.buildSl sz ln _ ix)=>some (sz,ln,ix)
 | _=>none
theorem S_ {k:K} {r:Nat×Nat×List Nat} (h:QE k=some r):∃z,k=.a (.buildSl r.1 r.2.1 z r.2.2):=by
 unfold QE at h;split at h
 ·cases h;exact⟨_,rfl⟩
 ·cases h
def Q8:K→Option (List V)
 | .a (.alloc _ zero)=>some zero
 | _=>none
theorem R6 {k:K} {z:List V} (h:Q8 k=some z):∃n,k=.a (.alloc n z):=by
 unfold Q8 at h;split at h
 ·cases h;exact⟨_,rfl⟩
 ·cases h
section
variable [aI α]
theorem WA (k:IntKind) (n:Nat) {s:Sl α} {i:Int} {f:α→Option γ} (h:∀x,idx s i=some x→Le ((f x).bind e) (bL S c Q (nx S c n cf fun p=>cr p.st p.d (cp x))))
 (hL:(iI S c n cf).map (fun p=>(p.k,bh S.N p.st.g p.az))=some (.p (.idxS (aI.size α)),some [.v (bu s),.v (.int k i)]):=by kernel_rfl):Le (((idx s i).bind f).bind e) (bL S c Q cf):=by
 obtain⟨p,hp,hv⟩:=gC hL;simp only[ζc]at hv;refine Ai hp ?_ h;rw[hv.1];exact Le.of_eq (Ms hv.2 rfl)
theorem br (n:Nat) {s:Sl α} {i:Int} {f:α→Option γ} (h:∀x,idx s i=some x→Le ((f x).bind e) (bL S c Q (nx S c n cf fun p=>cr p.st p.d (cp x))))
 (hL:(iI S c n cf).map (fun p=>(p.k,bh S.N p.st.g p.az))=some (.p (.idxS (aI.size α)),some [.v (bu s),.v (.int .i64 i)]):=by kernel_rfl):Le (((idx s i).bind f).bind e) (bL S c Q cf):=WA .i64 n h hL
theorem u6 (k:IntKind) (n u:Nat) {s:Sl α} {i:Int} {f:Nat→Option γ} (h:∀x,s.pz i=some x→Le ((f x).bind e) (bL S c Q (nx S c n cf fun p=>cr p.st p.d (.el u x 0))))
 (hL:(iI S c n cf).map (fun p=>(p.k,bh S.N p.st.g p.az,an p.st.m u))=some (.p (.idxS (aI.size α)),some [.own u,.v (.int k i)],some (cN s)):=by kernel_rfl):Le (((s.pz i).bind f).bind e) (bL S c Q cf):=by
 obtain⟨p,hp,hv⟩:=gC hL;simp only[ζc]at hv;refine Ai hp ?_ h;rw[hv.1];exact Le.of_eq (WO hv.2.1 hv.2.2 rfl)
theorem yD (n u o sz:Nat) (a:Bool) (v:α→V) {s:Sl α} {i:Nat} {f:α→Option γ} (h:∀x,s.get i=some x→Le ((f x).bind e) (bL S c Q (nx S c n cf fun p=>cr p.st p.d (.v (v x)))))
 (hL:(iI S c n cf).map (fun p=>(p.k,bh S.N p.st.g p.az,an p.st.m u,(!p.dr||p.now||dR p.fr [.el u i o])))=some (.r (.load sz a),some [.el u i o],some (cN s),true):=by kernel_rfl) (hv:∀x:α,(cut (cells x) o sz).bind (mk a)=some (v x):=by intro _;rfl):Le (((s.get i).bind f).bind e) (bL S c Q cf):=by
 obtain⟨p,hp,hv'⟩:=gC hL;simp only[ζc]at hv';refine Ai hp ?_ h;rw[hv'.1];exact Le.of_eq (Uh hv'.2.1 hv'.2.2.2 hv'.2.2.1 hv)
theorem Rg (n u:Nat) (x:V) {s:Sl α} {i:Nat} {a:α} {f:Sl α→Option γ} (h:∀s',s.put i a=some s'→Le ((f s').bind e) (bL S c Q (nx S c n cf fun p=>cr { p.st with m:=aV p.st.m u (cN s') } p.d (.v .undef))))
 (hL:(iI S c n cf).map (fun p=>(p.k,bh S.N p.st.g p.az,an p.st.m u,(!p.dr||p.now),x.cells))=some (.l (.store (aI.size α)),some [.el u i 0,.v x],some (cN s),true,cells a):=by kernel_rfl):Le (((s.put i a).bind f).bind e) (bL S c Q cf):=by
 obtain⟨p,hp,hv⟩:=gC hL;simp only[ζc]at hv;refine Ai hp ?_ h;rw[hv.1];exact Le.of_eq (PW hv.2.1 hv.2.2.2.1 hv.2.2.1 hv.2.2.2.2 rfl)
theorem Zi (n u:Nat) {i:Int} {z:α} {f:Sl α→Option γ} (h:∀s',vQ i z=some s'→Le ((f s').bind e) (bL S c Q (nx S c n cf fun p=>{ p.st with g:=aV p.st.g u (.own u),m:=aV p.st.m u (cN s') })))
 (hL:(iI S c n cf).map (fun p=>(p.d,p.k,bh S.N p.st.g p.az,p.st.new u))=some (some u,.a (.makeSl (aI.size α) (cells z)),some [.v (.int .i64 i),.v (.int .i64 i)],true):=by kernel_rfl):Le (((vQ i z).bind f).bind e) (bL S c Q cf):=by
 obtain⟨p,hp,hv⟩:=gC hL;simp only[ζc]at hv;refine Ai hp ?_ h;rw[hv.1,hv.2.1];exact Le.of_eq (Ug hv.2.2.1 rfl rfl hv.2.2.2)
theorem DO (n o w u:Nat) {s:Sl α} {x:α} {f:Sl α→Option γ} (h:∀s',kH s x=some s'→Le ((f s').bind e) (bL S c Q (nx S c n cf fun p=>{ p.st with g:=aV p.st.g u (.own u),m:=aV (dh o p.st.m) u (cN s') })))
 (hL:(iI S c n cf).map (fun p=>(p.d,p.k,bh S.N p.st.g p.az,(!p.dr||p.now),an p.st.m o,an p.st.m w,St.new { p.st with m:=dh o p.st.m } u))=some (some u,.l (.append (aI.size α)),some [.own o,.own w],true,some (cN s),some (cN (.row [x])),true):=by kernel_rfl):Le (((kH s x).bind f).bind e) (bL S c Q cf):=by
 obtain⟨p,hp,hv⟩:=gC hL;simp only[ζc]at hv;refine Ai hp ?_ h;rw[hv.1,hv.2.1];exact Le.of_eq (WJ hv.2.2.1 hv.2.2.2.1 hv.2.2.2.2.1 hv.2.2.2.2.2.1 rfl hv.2.2.2.2.2.2)
theorem LW (n w u:Nat) (v:V) (x:α) {m:Option β} (h:Le m (bL S c Q (nx S c n cf fun p=>{ p.st with g:=aV p.st.g u (.own u),m:=aV p.st.m u (cN (.row [x])) }))) (hv:v=.aF∨v=.cC:=by first|exact .inl rfl|exact .inr rfl)
 (hL:(iI S c n cf).map (fun p=>(p.d,p.k,bh S.N p.st.g p.az,(!p.dr||p.now),an p.st.m w,p.st.new u))=some (some u,.l (.append (aI.size α)),some [.v v,.own w],true,some (cN (.row [x])),true):=by kernel_rfl):Le m (bL S c Q cf):=by
 obtain⟨p,hp,hq⟩:=gC hL;simp only[ζc]at hq;refine AF hp ?_ h;rw[hq.1,hq.2.1];exact QA hv hq.2.2.1 hq.2.2.2.1 hq.2.2.2.2.1 rfl hq.2.2.2.2.2
theorem aZ (n:Nat) (s:Sl α) {m:Option β} (h:Le m (bL S c Q (nx S c n cf fun p=>cr p.st p.d (.v (.int .i64 s.l.length)))))
 (hL:(iI S c n cf).map (fun p=>(p.k,bh S.N p.st.g p.az))=some (.p .lenSl,some [.v (bu s)]):=by kernel_rfl):Le m (bL S c Q cf):=by
 obtain⟨p,hp,hv⟩:=gC hL;simp only[ζc]at hv;refine AF hp ?_ h;rw[hv.1];exact LN hv.2
theorem G1 (n u:Nat) (s:Sl α) {m:Option β} (h:Le m (bL S c Q (nx S c n cf fun p=>cr p.st p.d (.v (.int .i64 s.l.length)))))
 (hL:(iI S c n cf).map (fun p=>(p.k,bh S.N p.st.g p.az,an p.st.m u))=some (.p .lenSl,some [.own u],some (cN s)):=by kernel_rfl):Le m (bL S c Q cf):=by
 obtain⟨p,hp,hv⟩:=gC hL;simp only[ζc]at hv;refine AF hp ?_ h;rw[hv.1];exact RB hv.2.1 hv.2.2
theorem FQ (n:Nat) (lo hi:Bool) (bs:List V) {s:Sl α} {a b:Option Int} {f:Sl α→Option γ} (h:∀x,gz s a b=some x→Le ((f x).bind e) (bL S c Q (nx S c n cf fun p=>cr p.st p.d (.v (bu x)))))
 (hL:(iI S c n cf).map (fun p=>(p.k,bh S.N p.st.g p.az,jo lo hi bs))=some (.p (.slice (aI.size α) lo hi),some (.v (bu s)::bs.map .v),some (a,b)):=by kernel_rfl):Le (((gz s a b).bind f).bind e) (bL S c Q cf):=by
 obtain⟨p,hp,hv⟩:=gC hL;simp only[ζc]at hv;obtain⟨h1,h2⟩:=ij hp;obtain⟨dr,fr,d,gd,now,k,az,dd,l,fs,st⟩:=p;obtain⟨rfl,h3,h4⟩:=hv;exact YJ n dr fr (⟨d,gd,now,.p (.slice (aI.size α) lo hi),az,dd,[]⟩::l) fs st lo hi bs (sz:=aI.size α) rfl (by(try dsimp only at *);simp only[h1,h2,h3,h4]) fun s' hs=>by
  have:=h s' hs;simp only[nx,hp]at this;exact this
theorem Wt (n:Nat) (lo hi:Bool) (u t:Nat) (bs:List V) {s:Sl α} {a b:Option Int} {f:Sl α→Option γ} (h:∀x,kV s a b=some x→Le ((f x).bind e) (bL S c Q (nx S c n cf fun p=>{ p.st with g:=aV p.st.g t (.own t),m:=aV (dh u p.st.m) t (cN x) })))
 (hL:(iI S c n cf).map (fun p=>(p.d,p.k,p.dr,bh S.N p.st.g p.az,jo lo hi bs,an p.st.m u,St.new { p.st with m:=dh u p.st.m } t))=some (some t,.p (.slice (aI.size α) lo hi),false,some (.own u::bs.map .v),some (a,b),some (cN s),true):=by kernel_rfl):Le (((kV s a b).bind f).bind e) (bL S c Q cf):=by
 obtain⟨p,hp,hv⟩:=gC hL;simp only[ζc]at hv;obtain⟨h1,h2⟩:=ij hp;obtain⟨dr,fr,d,gd,now,k,az,dd,l,fs,st⟩:=p;obtain⟨rfl,rfl,rfl,h3,h4,h5,h6⟩:=hv;exact V8 n fr (⟨some t,gd,now,.p (.slice (aI.size α) lo hi),az,dd,[]⟩::l) fs st lo hi u bs (sz:=aI.size α) rfl h6 (by(try dsimp only at *);simp only[h1,h2,h3,h4,h5]) fun s' hs=>by
  have:=h s' hs;simp only[nx,hp]at this;exact this
theorem bY (n u:Nat) (x:α) {m:Option β} (h:Le m (bL S c Q (nx S c n cf fun p=>{ p.st with g:=aV p.st.g u (.ptr u 0),m:=aV p.st.m u (bx x) })))
 (hL:(iI S c n cf).map (fun p=>(p.d,p.k,bh S.N p.st.g p.az,p.st.new u))=some (some u,.a .box,some [cv x],true):=by kernel_rfl):Le m (bL S c Q cf):=by
 obtain⟨p,hp,hv⟩:=gC hL;simp only[ζc]at hv;refine AF hp ?_ h;rw[hv.1,hv.2.1,z6,hv.2.2.1];simp only[ζb,hv.2.2.2,if_true,mm,ow,nX]
def WT (u o sz:Nat) (xs:List SV) (p:BD):St:=match an p.st.m u with
 | some (.box cs)=>cr { p.st with m:=aV p.st.m u (.box (cs.take o++xs++cs.drop (o+sz))) } p.d (.v .undef)
 | _=>p.st
theorem ou (n u o:Nat) (x:α) {m:Option β} (h:Le m (bL S c Q (nx S c n cf (WT u o (aI.size α) ((cells x).map .v)))))
 (hL:(iI S c n cf).map (fun p=>(p.k,bh S.N p.st.g p.az,(!p.dr||p.now),match an p.st.m u with|some (.box cs)=>Nat.ble (o+aI.size α) cs.length|_=>false))=some (.l (.store (aI.size α)),some [.ptr u o,cv x],true,true):=by kernel_rfl):Le m (bL S c Q cf):=by
 obtain⟨p,hp,hv⟩:=gC hL;simp only[ζc]at hv;refine AF hp ?_ h;obtain⟨h1,h2,h3,h4⟩:=hv;split at h4
 ·rename_i cs hcs;have h9:=Nat.le_of_ble_eq_true h4;rw[h1,uJ,h2];simp only[ζb,h3,if_true,lF,hcs,putCells,ow,eR,nX,h9,and_self,Option.map_some,WT]
 ·cases h4
theorem Zo (n u:Nat) (xs:List α) {m:Option β} (h:Le m (bL S c Q (nx S c n cf fun p=>{ p.st with g:=aV p.st.g u (.own u),m:=aV p.st.m u (cN (.row xs)) })))
 (hL:(iI S c n cf).map (fun p=>(p.d,QE p.k,bh S.N p.st.g p.az,p.st.new u))=some (some u,some (aI.size α,xs.length,List.range' 0 xs.length),some ((xs.map enc).map .v),true):=by kernel_rfl):Le m (bL S c Q cf):=by
 obtain⟨p,hp,hv⟩:=gC hL;simp only[ζc]at hv;obtain⟨h1,h2⟩:=ij hp;obtain⟨dr,fr,d,gd,now,k,az,dd,l,fs,st⟩:=p;obtain⟨rfl,h5,h3,h4⟩:=hv;obtain⟨z,rfl⟩:=S_ h5;exact Zj n dr fr (⟨some u,gd,now,.a (.buildSl (aI.size α) xs.length z (List.range' 0 xs.length)),az,dd,[]⟩::l) fs st xs rfl h4 (by(try dsimp only at *);simp only[h1,h2,h3]) (by
  simp only[nx,hp]at h;exact h)
end
theorem vY (n:Nat) (k:IntKind) {a:ByteArray} {b:Int} {f:Int→Option γ} (h:∀x,gM a b=some x→Le ((f x).bind e) (bL S c Q (nx S c n cf fun p=>cr p.st p.d (.v (.int .u8 x)))))
 (hL:(iI S c n cf).map (fun p=>(p.k,bh S.N p.st.g p.az))=some (.p .idxStr,some [.v (.str a),.v (.int k b)]):=by kernel_rfl):Le (((gM a b).bind f).bind e) (bL S c Q cf):=by
 obtain⟨p,hp,hv⟩:=gC hL;simp only[ζc]at hv;refine Ai hp ?_ h;rw[hv.1];exact Le.of_eq (JM hv.2)
section
variable {A:α→List V} {E:δ→List V} {pl:α→Option δ} {fn:FuncId} {sc:Bool}
theorem tq (n:Nat) (F:lG S c fn A E pl sc) (z:α) {f:δ→Option γ} (h:∀x,pl z=some x→Le ((f x).bind e) (bL S c Q (nx S c n cf fun p=>cr p.st p.d (.v (result (E x))))))
 (hL:(iI S c n cf).map (fun p=>(p.k,(bh S.N p.st.g p.az).bind n_,(!p.dr||p.now||fR p.st.m p.fr [])))=some (.c,some (fn,(A z).map .v),true):=by kernel_rfl):Le (((pl z).bind f).bind e) (bL S c Q cf):=by
 obtain⟨p,hp,hv⟩:=gC hL;simp only[ζc]at hv;obtain⟨h3,h4,h5⟩:=hv;obtain⟨svs,g1,g2⟩:=ζg.1 h4;have hnil:∀d (vs:List V),SV.cz d (vs.map .v)=false:=fun d vs=>by
  induction vs with
  | nil=>rfl
  | cons a l ih=>simp only[List.map_cons,SV.cz,SV.bV,ih,Bool.or_self]
 have ho:(!p.dr||p.now||fR p.st.m p.fr ((A z).map .v))=true:=by
  have:fR p.st.m p.fr ((A z).map .v)=fR p.st.m p.fr []:=by unfold fR;simp only[hnil];rfl
  rw[this];exact h5
 refine Ai hp ?_ h;rw[h3];exact CL (F.h z) F.k g1 g2 (C5 _ _ _) (F.l z) ho (fun r=>by rw[F.r,sx];simp)
theorem R9 (n:Nat) (F:lG S c fn A E pl true) (z:α) {f:δ→Option γ} (h:∀x,pl z=some x→Le ((f x).bind e) (bL S c Q (nx S c n cf fun p=>cr p.st p.d (.v (result (E x))))))
 (hL:(iI S c n cf).map (fun p=>(p.k,((bh S.N p.st.g p.az).bind n_).bind fun q=>(lq (gB p.st.m 8) q.2).map fun vs=>(q.1,vs,((!p.dr||p.now)||fR p.st.m p.fr q.2))))=some (.c,some (fn,A z,true)):=by kernel_rfl):Le (((pl z).bind f).bind e) (bL S c Q cf):=by
 obtain⟨p,hp,hv⟩:=gC hL;simp only[ζc]at hv;obtain⟨h3,h4⟩:=hv;obtain⟨q,g1,g2⟩:=ζg.1 h4;obtain⟨svs,g3,g4⟩:=ζg.1 g1;obtain⟨vs,g5,g6⟩:=ζf.1 g2;simp only[ζc]at g6;obtain⟨e1,rfl,e3⟩:=g6;refine Ai hp ?_ h;rw[h3];exact CL (F.h z) F.k g3 (by rw[g4,←e1]) g5 (F.l z) e3 (fun r=>by rw[F.r,F.s rfl];rfl)
end
section
variable {N:Nat} [aI α]
theorem LK (n:Nat) (k:IntKind) {a:bp N α} {i:Int} {f:α→Option γ} (h:∀x,a.at i=some x→Le ((f x).bind e) (bL S c Q (nx S c n cf fun p=>cr p.st p.d (.v (.fptr (pa a i))))))
 (hL:(iI S c n cf).map (fun p=>(p.k,bh S.N p.st.g p.az))=some (.p (.idxA N (aI.size α)),some [cp a,.v (.int k i)]):=by kernel_rfl):Le (((a.at i).bind f).bind e) (bL S c Q cf):=by
 obtain⟨p,hp,hv⟩:=gC hL;simp only[ζc]at hv;obtain⟨h1,h2⟩:=ij hp;obtain⟨dr,fr,d,gd,now,k',az,dd,l,fs,st⟩:=p;obtain⟨rfl,h3⟩:=hv;exact V6 n dr fr (⟨d,gd,now,.p (.idxA N (aI.size α)),az,dd,[]⟩::l) fs st k (sz:=aI.size α) (ln:=N) rfl (by(try dsimp only at *);simp only[h1,h2,h3]) fun x hx=>by
  have:=h x hx;simp only[nx,hp]at this;exact this
theorem JF (n k:Nat) (a:bp N α) (i:Int) (o:Nat) (x:α) (hx:a.at i=some x) {m:Option β} (h:Le m (bL S c Q (nx S c n cf fun p=>cr p.st p.d (.v (.fptr ((pa a i).drop (o+k)))))))
 (hL:(iI S c n cf).map (fun p=>(p.k,bh S.N p.st.g p.az,Nat.ble (o+k) (aI.size α)))=some (.p (.fieldAddr k),some [.v (.fptr ((pa a i).drop o))],true):=by kernel_rfl):Le m (bL S c Q cf):=by
 obtain⟨p,hp,hv⟩:=gC hL;simp only[ζc]at hv;obtain⟨h1,h2⟩:=ij hp;obtain⟨dr,fr,d,gd,now,k',az,dd,l,fs,st⟩:=p;obtain⟨rfl,h3,h4⟩:=hv;exact YE n dr fr (⟨d,gd,now,.p (.fieldAddr k),az,dd,[]⟩::l) fs st a i o x hx rfl (by(try dsimp only at *);simp only[h1,h2,h3,h4]) (by
  simp only[nx,hp]at h;exact h)
theorem LL (n sz:Nat) (ag:Bool) (a:bp N α) (i:Int) (o:Nat) (x:α) (hx:a.at i=some x) (v:V) (hv:(cut (cells x) o sz).bind (mk ag)=some v) {m:Option β} (h:Le m (bL S c Q (nx S c n cf fun p=>cr p.st p.d (.v v))))
 (hL:(iI S c n cf).map (fun p=>(p.k,bh S.N p.st.g p.az))=some (.r (.load sz ag),some [.v (.fptr ((pa a i).drop o))]):=by kernel_rfl):Le m (bL S c Q cf):=by
 obtain⟨p,hp,hv'⟩:=gC hL;simp only[ζc]at hv';obtain⟨h1,h2⟩:=ij hp;obtain⟨dr,fr,d,gd,now,k',az,dd,l,fs,st⟩:=p;obtain⟨rfl,h3⟩:=hv';exact WI n dr fr (⟨d,gd,now,.r (.load sz ag),az,dd,[]⟩::l) fs st a i o x hx hv v rfl (by(try dsimp only at *);simp only[h1,h2,h3]) (by
  simp only[nx,hp]at h;exact h)
theorem Tf (n u:Nat) (st:St) (cs:List SV) {m:Option β} (h4:st.new u=true) (h:Le m (bL S c Q (nx S c n cf fun _=>{ st with g:=aV st.g u (.ptr u 0),m:=aV st.m u (.box cs) })))
 (hL:(iI S c n cf).map (fun p=>(p.d,(Q8 p.k).map (fun z=>z.map SV.v),bh S.N p.st.g p.az,p.st))=some (some u,some cs,some [],st):=by kernel_rfl):Le m (bL S c Q cf):=by
 obtain⟨p,hp,hv⟩:=gC hL;simp only[ζc]at hv;obtain⟨z,hz,hz2⟩:=gC hv.2.1;obtain⟨k,hk⟩:=R6 hz;refine AF hp ?_ h;rw[hv.1,hk,z6,hv.2.2.1,hv.2.2.2];simp only[ζb,h4,if_true,mm,hz2]
theorem Cb (n:Nat) (k:IntKind) (u:Nat) {a:bp N α} {i:Int} {f:α→Option γ} (h:∀x,a.at i=some x→Le ((f x).bind e) (bL S c Q (nx S c n cf fun p=>cr p.st p.d (.ptr u (i.toNat*aI.size α+0)))))
 (hL:(iI S c n cf).map (fun p=>(p.k,bh S.N p.st.g p.az,an p.st.m u))=some (.p (.idxA N (aI.size α)),some [.ptr u 0,.v (.int k i)],some (bx a)):=by kernel_rfl):Le (((a.at i).bind f).bind e) (bL S c Q cf):=by
 obtain⟨p,hp,hv⟩:=gC hL;simp only[ζc]at hv;obtain⟨h1,h2⟩:=ij hp;obtain⟨dr,fr,d,gd,now,k',az,dd,l,fs,st⟩:=p;obtain⟨rfl,h3,h4⟩:=hv;exact Wl n dr fr (⟨d,gd,now,.p (.idxA N (aI.size α)),az,dd,[]⟩::l) fs st k u (sz:=aI.size α) (ln:=N) rfl (by(try dsimp only at *);simp only[h1,h2,h3,h4]) fun x hx=>by
  have:=h x hx;simp only[nx,hp]at this;exact this
theorem LP (n sz:Nat) (ag:Bool) (u:Nat) (a:bp N α) (i:Int) (o:Nat) (x:α) (hx:a.at i=some x) (v:V) (hv:(cut (cells x) o sz).bind (mk ag)=some v) {m:Option β} (h:Le m (bL S c Q (nx S c n cf fun p=>cr p.st p.d (.v v))))
 (hL:(iI S c n cf).map (fun p=>(p.k,bh S.N p.st.g p.az,an p.st.m u,(!p.dr||p.now||dR p.fr [.ptr u 0])))=some (.r (.load sz ag),some [.ptr u (i.toNat*aI.size α+o)],some (bx a),true):=by kernel_rfl):Le m (bL S c Q cf):=by
 obtain⟨p,hp,hv'⟩:=gC hL;simp only[ζc]at hv';obtain⟨h1,h2⟩:=ij hp;obtain⟨dr,fr,d,gd,now,k',az,dd,l,fs,st⟩:=p;obtain⟨rfl,h3,h4,h5⟩:=hv';exact VP n dr fr (⟨d,gd,now,.r (.load sz ag),az,dd,[]⟩::l) fs st u a i o x hx hv v rfl (by(try dsimp only at *);simp only[h1,h2,h3,h4,h5]) (by
  simp only[nx,hp]at h;exact h)
theorem L8 (n sz u:Nat) (a:bp N α) (i:Int) (o:Nat) (x:α) (hx:a.at i=some x) (y:α) (v:V) (hy:cells y=(cells x).take o++v.cells++(cells x).drop (o+sz)) {m:Option β} (h:Le m (bL S c Q (nx S c n cf fun p=>cr { p.st with m:=aV p.st.m u (bx (a.set i y)) } p.d (.v .undef))))
 (hL:(iI S c n cf).map (fun p=>(p.k,bh S.N p.st.g p.az,an p.st.m u,(!p.dr||p.now),v.cells.length,v.cells.all V.one,Nat.ble (o+sz) (aI.size α)))=some (.l (.store sz),some [.ptr u (i.toNat*aI.size α+o),.v v],some (bx a),true,sz,true,true):=by kernel_rfl):Le m (bL S c Q cf):=by
 obtain⟨p,hp,hv'⟩:=gC hL;simp only[ζc]at hv';obtain⟨h1,h2⟩:=ij hp;obtain⟨dr,fr,d,gd,now,k',az,dd,l,fs,st⟩:=p;obtain⟨rfl,h3,h4,h5,h6,h7,h8⟩:=hv';exact V3 n dr fr (⟨d,gd,now,.l (.store sz),az,dd,[]⟩::l) fs st u a i o x hx y v hy rfl (by(try dsimp only at *);simp only[h1,h2,h3,h4,h5,h6,h7,h8]) (by
  simp only[nx,hp]at h;exact h)
end
section
variable {κ ν:Type} [aI κ] [DecidableEq κ] [Key κ] [aI ν]
theorem Wj (n u:Nat) (mp:Mo κ ν) (k:κ) (z:ν) {m:Option β} (h:Le m (bL S c Q (nx S c n cf fun p=>cr p.st p.d (cv (Ay mp k z)))))
 (hL:(iI S c n cf).map (fun p=>(p.k,bh S.N p.st.g p.az,an p.st.m u,(!p.dr||p.now||dR p.fr [.mp u,cv k])))=some (.r (.lookup (Key.kk κ) (enc z) false),some [.mp u,cv k],some (r_ mp),true):=by kernel_rfl):Le m (bL S c Q cf):=by
 obtain⟨p,hp,hv⟩:=gC hL;simp only[ζc]at hv;obtain⟨h1,h2⟩:=ij hp;obtain⟨dr,fr,d,gd,now,k',az,dd,l,fs,st⟩:=p;obtain⟨rfl,h3,h4,h5⟩:=hv;exact VY n dr fr (⟨d,gd,now,.r (.lookup (Key.kk κ) (enc z) false),az,dd,[]⟩::l) fs st u mp k z rfl (by(try dsimp only at *);simp only[h1,h2,h3,h4,h5]) (by
  simp only[nx,hp]at h;exact h)
theorem YU (n u:Nat) (mp:Mo κ ν) (k:κ) (v:ν) {m:Option β} (h:Le m (bL S c Q (nx S c n cf fun p=>cr { p.st with m:=aV p.st.m u (r_ (nH mp k v)) } p.d (.v .undef))))
 (hL:(iI S c n cf).map (fun p=>(p.k,bh S.N p.st.g p.az,an p.st.m u,(!p.dr||p.now)))=some (.l (.mapUp (Key.kk κ)),some [.mp u,cv k,cv v],some (r_ mp),true):=by kernel_rfl):Le m (bL S c Q cf):=by
 obtain⟨p,hp,hv'⟩:=gC hL;simp only[ζc]at hv';obtain⟨h1,h2⟩:=ij hp;obtain⟨dr,fr,d,gd,now,k',az,dd,l,fs,st⟩:=p;obtain⟨rfl,h3,h4,h5⟩:=hv';exact YA n dr fr (⟨d,gd,now,.l (.mapUp (Key.kk κ)),az,dd,[]⟩::l) fs st u mp k v rfl (by(try dsimp only at *);simp only[h1,h2,h3,h4,h5]) (by
  simp only[nx,hp]at h;exact h)
end
theorem Wf (n:Nat) (st:St) {rs:List RV} {e:γ→Option (List V)} {r:γ} (svs:List SV) {ys:List V} (h2:lq (gB st.m 8) svs=some ys) (h3:e r=some ys)
 (h:(fF S c n cf.1 cf.2.1 cf.2.2).map (fun q=>(q.1,q.2.2,mR q.2.2 rs))=some (.rt,st,some svs):=by kernel_rfl):Le ((some r).bind e) (bL S c (nJ rs) cf):=by
 obtain⟨⟨fo,fs,st'⟩,hp,hv⟩:=gC h;simp only[ζc]at hv;obtain⟨rfl,rfl,h5⟩:=hv;exact WC n svs h2 (by rw[hp,h5]) h3
end
end Go.VE
namespace Go.VE
variable [aW]
section
variable {S:Sys} {c:bD} {β γ δ α:Type} [aI α] {Q:Out×St→Option β} {e:γ→Option β} {cf:Cf}
def RN (s x:Sl α):Option (Sl α):=if x.l=[]then some s else if s.l.length+x.l.length≤2147483648 then some (.row (s.l++x.l))else none
end
end Go.VE
namespace Go.VE
variable [aW]
theorem vq {α:Type} {l:List α} {i:Nat} {x:α} (h:l[i]? = some x):l.set i x=l:=by
 obtain⟨hi,rfl⟩:=ζe.1 h;exact List.set_getElem_self hi
open Classical in
def A9 (x:List V):V:=x.headD .undef
section
variable {H:aq} {Z:Nat→Prop}
theorem b8.borrows {xs ys:List V} (h:b8 H Z xs ys) (hl:V.cg 8 xs=true):borrows 8 H ys=some xs:=by
 induction xs generalizing ys with
 | nil=>rw[h.b7];rfl
 | cons x xs ih=>
  obtain⟨y,ys,rfl,h1,h2⟩:=h.inv;simp only[V.cg,ζh]at hl;have:=ih h2 hl.2;unfold Go.VE.borrows at this ⊢;simp only[iP,h1.borrow 8 hl.1,this]
end
end Go.VE
namespace Go.VE
variable [aW]
def aD (N:Nat→FuncId) (F:Frame):Arg→V
 | .s n=>get F n
 | .k c=>c
 | .f s=>.clo (N s) [] []
def aR (E:Env) (N:Nat→FuncId) (call:b9) (b:Option Nat) (now:Bool) (k:K) (vs:List V) (H:aq):Option (V×aq):=
 match k,b with
 | .p p,_=>(ay N p vs).map fun v=>(v,H)
 | .r r,none=>(dx H r vs).map fun v=>(v,H)
 | .r r,some b=>(dx (H.take b) r vs).map fun v=>(v,H)
 | .a a,none=>(iy a vs).map fun x=>(x.2.val H.length,H++[x.1])
 | .l l,none=>dS H l vs
 | .l (.store n),some _=>if now then dS H (.store n) vs else none
 | .c,none=>match vs with
  | .clo g a c::av=>if E.keep g then dX E call g (a++av++c) H else match bE call g (a++av++c) H with
   | some y=>if y.scalar then some (y,H)else none
   | none=>none
  | _=>none
 | .c,some b=>match vs with
  | .clo g a c::av=>if E.keep g then none else match bE call g (a++av++c) (H.take b)with
   | some y=>if y.scalar then some (y,H)else none
   | none=>none
  | _=>none
 | _,_=>none
def aB (F:Frame):Option Nat→V→Frame
 | none,_=>F
 | some d,v=>set F d v
def bP (E:Env) (N:Nat→FuncId) (call:b9) (b:Option Nat):List RO→Frame→aq→Option (Frame×aq)
 | [],F,H=>some (F,H)
 | o::r,F,H=>match o.gd with
  | none=>match aR E N call b o.now o.k (o.az.map (aD N F)) H with
   | some (v,H')=>bP E N call b r (aB F o.dst v) H'
   | none=>none
  | some _=>none
section
variable {X:CX} {N:Nat→FuncId} {call:b9} {F F':Frame} {H H':aq}
theorem Fh (hN:∀f s,X.nm f=some s→N s=f) {o:Operand} {x:Arg} (h:mU X.nm o=some x):ev F o=some (aD N F x):=by
 cases o with
 | tmp t=>simp only[mU,ζa]at h;subst h;rfl
 | const w=>
  simp only[mU]at h;split at h
  ·rename_i c hc;split at h
   ·simp only[ζa]at h;subst h;exact hc
   ·simp at h
  ·simp at h
 | func f=>
  simp only[mU]at h;obtain⟨s,hs,rfl⟩:=ζf.1 h;show some (V.clo f [] [])=some (.clo (N s) [] []);rw[hN f s hs]
 | global i=>
  simp only[mU]at h;split at h
  ·rename_i c hc;split at h
   ·simp only[ζa]at h;subst h;simp only[ev,hc,Option.map_some];rfl
   ·simp at h
  ·simp at h
theorem yZ (hN:∀f s,X.nm f=some s→N s=f):∀{os:List Operand} {av:List Arg},os.mapM (mU X.nm)=some av→eD F os=some (av.map (aD N F))
 | [],av,h=>by simp only[List.mapM_nil,Option.pure_def,ζa]at h;subst h;rfl
 | o::os,av,h=>by
  simp only[List.mapM_cons,Option.pure_def,Option.bind_eq_bind,ζg,ζa]at h;obtain⟨x,hx,xs,hxs,rfl⟩:=h;simp only[eD,Fh hN hx,yZ hN hxs,List.map_cons]
theorem vD (hN:∀f s,X.nm f=some s→N s=f) {draw:Bool} {ops:List Oper} {i:Nat} {o:Oper} {ro:RO} (h:jJ X draw ops i o=some ro) (hg:ro.gd=none) :
 o.dst=ro.dst∧w8 X.nt o.dst=true∧en ops F o=true∧((FL X.E N F o.op (ro.az.map (aD N F)) ro.k∧ro.now=(draw&&dA ops i))∨∃n,ro.k=.l (.storeF n)):=by
 unfold jJ at h;split at h
 ·rename_i hd;split at h
  ·rename_i gd k os hgd hr;split at h
   ·obtain⟨av,ha,rfl⟩:=ζf.1 h;simp only at hg;subst hg;refine⟨rfl,hd,?_,?_⟩
    ·unfold en;unfold G4 at hgd
     cases hgo:o.guard with
     | none=>rfl
     | some jb=>
      rw[hgo]at hgd;obtain⟨j,b⟩:=jb;obtain⟨d,_,e⟩:=ζf.1 hgd;cases e
    ·rcases uV draw ops i k os with e|⟨_,_,n,a,l,os',_,_,_,e⟩
     ·rw[e]at ha ⊢;exact .inl ⟨pe hN hr (yZ hN ha),rfl⟩
     ·rw[e];exact .inr ⟨n,rfl⟩
   ·simp at h
  ·simp at h
 ·simp at h
theorem DW {nt:Nat} {dst:Option Nat} (h:w8 nt dst=true) (v:V):hG nt F dst v=some (aB F dst v):=by
 cases dst with
 | none=>rfl
 | some d=>simp only[w8,decide_eq_true_eq]at h;simp only[hG,if_pos h,aB]
theorem SY (hN:∀f s,X.nm f=some s→N s=f) {ops:List Oper} {i:Nat} {o:Oper} {ro:RO} (h:jJ X false ops i o=some ro) (hg:ro.gd=none) {v:V} (hv:aR X.E N call none ro.now ro.k (ro.az.map (aD N F)) H=some (v,H')) :
 dZ X.E call X.nt ops none o F H=some (aB F ro.dst v,H'):=by
 obtain⟨h1,h2,h3,h4⟩:=vD (F:=F) hN h hg;have hd:cS X.E call ops none F H o.op=some (v,H'):=by
  rcases h4 with⟨h4,_⟩|⟨n,h4⟩
  ·generalize hk:ro.k=k at hv h4;generalize ro.az.map (aD N F)=vs at hv h4;unfold cS
   cases k with
   | p p=>
    obtain⟨c,e⟩:=h4;obtain⟨w,hw,he⟩:=ζf.1 hv;rw[c];simp only[e w hw,Option.map_some];rw[he]
   | r r=>
    obtain⟨c,e⟩:=h4;obtain⟨w,hw,he⟩:=ζf.1 hv;rw[c];simp only[e H w hw,Option.map_some];rw[he]
   | a a=>
    obtain⟨c,e⟩:=h4;obtain⟨⟨ob,m⟩,hw,he⟩:=ζf.1 hv;rw[c];simp only[e _ hw];exact congrArg some he
   | l l=>
    obtain⟨c,e⟩:=h4;rw[c];exact e H _ hv
   | c=>
    obtain⟨c,f,av,rfl,e⟩:=h4;rw[c];simp only[aR]at hv;split at hv
    ·rename_i g a b az' heq;simp only[List.cons.injEq]at heq;obtain⟨rfl,rfl⟩:=heq;split at hv
     ·rename_i hk2;simp only[e,jq,hk2,Bool.and_self,if_true];exact hv
     ·rename_i hk2;split at hv
      ·rename_i y hy;split at hv
       ·rename_i hsc;simp only[e,jq,hk2,Bool.false_and,Bool.false_eq_true,if_false,hy,hsc,if_true];exact hv
       ·simp at hv
      ·simp at hv
    ·simp at hv
  ·rw[h4]at hv;exfalso;have:∀ops i k os,(tM false ops i k os).1=k:=fun _ _ _ _=>rfl
   unfold jJ at h;split at h
   ·split at h
    ·rename_i gd k os hgd hr;split at h
     ·obtain⟨av,ha,rfl⟩:=ζf.1 h;simp only[this]at h4;subst h4;unfold resolve at hr
      (repeat' split at hr) <;> first|(simp at hr;done)|(obtain⟨_,_,e⟩:=ζf.1 hr;simp at e;done)
     ·simp at h
    ·simp at h
   ·first|(simp at h;done)|contradiction
 unfold dZ;rw[h3,if_pos rfl,hd];simp only[h1,DW (h1▸h2),Option.map_some]
theorem Dd (hN:∀f s,X.nm f=some s→N s=f) {ops:List Oper}:∀(rest:List Oper) {i:Nat} {ros:List RO} {F:Frame} {H:aq},iO X false ops i rest=some ros→bP X.E N call none ros F H=some (F',H')→jw X.E call X.nt ops rest F H=some (F',H')
 | [],i,ros,F,H,hc,h=>by
  simp only[iO,ζa]at hc;subst hc;exact h
 | o::rest,i,ros,F,H,hc,h=>by
  simp only[iO]at hc;split at hc
  ·rename_i ro rs h1 h2;simp only[ζa]at hc;subst hc;simp only[bP]at h;split at h
   ·rename_i hg;split at h
    ·rename_i v H1 hv;simp only[jw,SY hN h1 hg hv];exact Dd hN rest h2 h
    ·simp at h
   ·simp at h
  ·simp at hc
theorem Rm (hN:∀f s,X.nm f=some s→N s=f) {ops:List Oper} {b i:Nat} {o:Oper} {ro:RO} (h:jJ X true ops i o=some ro) (hg:ro.gd=none) {v:V} (hv:aR X.E N call (some b) ro.now ro.k (ro.az.map (aD N F)) H=some (v,H')) :
 dZ X.E call X.nt ops (some (b,i)) o F H=some (aB F ro.dst v,H'):=by
 obtain⟨h1,h2,h3,h4⟩:=vD (F:=F) hN h hg;have hd:cS X.E call ops (some (b,i)) F H o.op=some (v,H'):=by
  rcases h4 with⟨h4,hnow⟩|⟨n,h4⟩
  ·generalize hk:ro.k=k at hv h4;generalize ro.az.map (aD N F)=vs at hv h4;unfold cS
   cases k with
   | p p=>
    obtain⟨c,e⟩:=h4;obtain⟨w,hw,he⟩:=ζf.1 hv;rw[c];simp only[e w hw,Option.map_some];rw[he]
   | r r=>
    obtain⟨c,e⟩:=h4;obtain⟨w,hw,he⟩:=ζf.1 hv;rw[c];simp only[e _ w hw];rw[he]
   | a a=>simp[aR]at hv
   | l l=>
    obtain⟨c,e⟩:=h4
    cases l with
    | store n=>
     simp only[aR]at hv;split at hv
     ·rename_i hn;rw[hnow,Bool.true_and]at hn;rw[c];simp only[hn,Bool.true_or,if_true];exact e H _ hv
     ·simp at hv
    | _=>simp[aR]at hv
   | c=>
    obtain⟨c,f,av,rfl,e⟩:=h4;rw[c];simp only[aR]at hv;split at hv
    ·rename_i g a b az' heq;simp only[List.cons.injEq]at heq;obtain⟨rfl,rfl⟩:=heq;split at hv
     ·simp at hv
     ·rename_i hk2;split at hv
      ·rename_i y hy;split at hv
       ·rename_i hsc;simp only[e,jq,hk2,Bool.false_and,Bool.false_eq_true,if_false,hy,hsc,if_true];exact hv
       ·simp at hv
      ·simp at hv
    ·simp at hv
  ·rw[h4]at hv;simp[aR]at hv
 unfold dZ;rw[h3,if_pos rfl,hd];simp only[h1,DW (h1▸h2),Option.map_some]
theorem DA (hN:∀f s,X.nm f=some s→N s=f) {ops:List Oper} {b:Nat}:∀(rest:List Oper) {i:Nat} {ros:List RO} {F:Frame} {H:aq},ops.drop i=rest→iO X true ops i rest=some ros→bP X.E N call (some b) ros F H=some (F',H') →
 gx X.E call X.nt ops b (List.range' i rest.length) F H=some (F',H')
 | [],i,ros,F,H,_,hc,h=>by
  simp only[iO,ζa]at hc;subst hc;exact h
 | o::rest,i,ros,F,H,hd,hc,h=>by
  simp only[iO]at hc;split at hc
  ·rename_i ro rs h1 h2;simp only[ζa]at hc;subst hc;simp only[bP]at h;split at h
   ·rename_i hg;split at h
    ·rename_i v H1 hv;have ho:ops[i]? = some o:=by
      have:(ops.drop i)[0]? = some o:=by rw[hd];rfl
      rwa [List.getElem?_drop,Nat.add_zero]at this
     have hd':ops.drop (i+1)=rest:=by
      rw[←List.drop_drop,hd];rfl
     simp only[List.length_cons,List.range'_succ,gx,ho,Rm hN h1 hg hv];exact DA hN rest hd' h2 h
    ·simp at h
   ·simp at h
  ·simp at hc
def um (l:List RO):Bool:=l.all fun o=>(match o.k with|.a _=>false|_=>true)&&o.gd.isNone
theorem zY (hN:∀f s,X.nm f=some s→N s=f) {ops:List Oper}:∀(rest:List Oper) {i:Nat} {ros:List RO},iO X true ops i rest=some ros→um ros=true→rest.any (fun o=>dG o.op==.alloc)=false
 | [],_,_,_,_=>rfl
 | o::rest,i,ros,hc,hn=>by
  simp only[iO]at hc;split at hc
  ·rename_i ro rs h1 h2;simp only[ζa]at hc;subst hc;simp only[um,List.all_cons,ζh,Option.isNone_iff_eq_none]at hn;obtain⟨_,_,_,h4⟩:=vD (F:=[]) hN h1 hn.1.2;rw[List.any_cons,zY hN rest h2 hn.2,Bool.or_false];rcases h4 with⟨h4,_⟩|⟨n,h4⟩
   ·cases hk:ro.k with
    | p p=>rw[hk]at h4;rw[h4.1];rfl
    | r p=>rw[hk]at h4;rw[h4.1];rfl
    | a p=>have:=hn.1.1;rw[hk]at this;cases this
    | l p=>rw[hk]at h4;rw[h4.1];rfl
    | c=>rw[hk]at h4;rw[h4.1];rfl
   ·
    unfold jJ at h1;split at h1
    ·split at h1
     ·rename_i gd k os hgd hr;split at h1
      ·obtain⟨av,ha,rfl⟩:=ζf.1 h1;rcases uV true ops i k os with e|⟨_,_,m,a,l,os',rfl,rfl,_,e⟩
       ·simp only[e]at h4;subst h4;unfold resolve at hr
        (repeat' split at hr) <;> first|(simp at hr;done)|(obtain⟨_,_,e⟩:=ζf.1 hr;simp at e;done)
       ·rw[e]at ha;obtain⟨v1,v2,g1,_,_⟩:=A3 (F:=[]) (yZ (N:=N) hN ha);have:=(pe hN hr g1).1;rw[this];rfl
      ·simp at h1
     ·simp at h1
    ·first|(simp at h1;done)|contradiction
  ·simp at hc
def eY (E:Env) (N:Nat→FuncId) (call:b9) (lf:Nat):RC→Frame→aq→Option (Out×Frame×aq)
 | .skip,F,H=>some (.norm,F,H)
 | .ops l,F,H=>(bP E N call none l F H).map fun x=>(.norm,x.1,x.2)
 | .lM l,F,H=>if um l then(bP E N call (some H.length) l F H).map fun x=>(.norm,x.1,x.2)else none
 | .seq a b,F,H=>match eY E N call lf a F H with
  | some (.norm,F',H')=>eY E N call lf b F' H'
  | r=>r
 | .cond x a b,F,H=>match aD N F x with
  | .bool t=>if t then eY E N call lf a F H else eY E N call lf b F H
  | _=>none
 | .block id c,F,H=>match eY E N call lf c F H with
  | some (.exit id',F',H')=>if id'=id then some (.norm,F',H')else some (.exit id',F',H')
  | r=>r
 | .loop c,F,H=>iw (eY E N call lf c) lf F H
 | .exit id,F,H=>some (.exit id,F,H)
 | .ret,F,H=>some (.ret,F,H)
 | _,_,_=>none
theorem Cz {f g:Frame→aq→Option (Out×Frame×aq)} (h:∀F H r,f F H=some r→g F H=some r):∀(k:Nat) (F:Frame) (H:aq) (r:Out×Frame×aq),iw f k F H=some r→iw g k F H=some r
 | 0,F,H,r,hr=>by simp[iw]at hr
 | k+1,F,H,r,hr=>by
  simp only[iw]at hr ⊢
  cases hf:f F H with
  | none=>rw[hf]at hr;simp at hr
  | some q=>
   rw[hf]at hr;rw[h F H q hf];obtain⟨o,F1,H1⟩:=q
   cases o with
   | norm=>exact Cz h k F1 H1 r hr
   | exit _=>exact hr
   | ret=>exact hr
theorem Ke (hN:∀f s,X.nm f=some s→N s=f) {lf:Nat}:∀(rc:RC) (code:Code) (F:Frame) (H:aq) (r:Out×Frame×aq),aM X false code=some rc→eY X.E N call lf rc F H=some r→exec X.E call lf false X.nt code F H=some r:=by
 intro rc
 induction rc with
 | skip=>
  intro code F H r hc h;simp only[eY,ζa]at h;subst h
  cases code with
  | skip=>rfl
  | label _=>rfl
  | region id ops draw=>simp only[aM]at hc;(repeat' split at hc) <;> first|(simp at hc;done)|(obtain⟨_,_,e⟩:=ζf.1 hc;cases e)
  | _=>simp only[aM]at hc;(repeat' split at hc) <;> first|(simp at hc;done)|(obtain⟨_,_,e⟩:=ζf.1 hc;cases e)|cases hc
 | ops l=>
  intro code F H r hc h
  cases code with
  | region id ops draw=>
   simp only[aM]at hc;split at hc
   ·split at hc
    ·obtain⟨_,_,e⟩:=ζf.1 hc;cases e
    ·simp at hc
   ·rename_i hd;obtain⟨l',hl,e⟩:=ζf.1 hc;cases e;simp only[eY]at h;obtain⟨⟨F',H'⟩,hv,rfl⟩:=ζf.1 h;simp only[exec,gw,hd];rw[if_neg (by simp),Dd hN _ hl hv];rfl
  | _=>simp only[aM]at hc;(repeat' split at hc) <;> first|(simp at hc;done)|(obtain⟨_,_,e⟩:=ζf.1 hc;cases e)|cases hc
 | lM l=>
  intro code F H r hc h
  cases code with
  | region id ops draw=>
   simp only[aM]at hc;split at hc
   ·rename_i hd;split at hc
    ·rename_i hok;obtain⟨l',hl,e⟩:=ζf.1 hc;cases e;simp only[eY]at h;split at h
     ·rename_i hn;obtain⟨⟨F',H'⟩,hv,rfl⟩:=ζf.1 h;have ha:nR ops.toList=false:=zY hN _ hl hn;have:=DA hN ops.toList (i:=0) rfl hl hv;rw[←List.range_eq_range']at this;simp only[exec,gw,hd,hok,if_true,ha,Bool.false_eq_true,if_false,this];rfl
     ·simp at h
    ·simp at hc
   ·obtain⟨_,_,e⟩:=ζf.1 hc;cases e
  | _=>simp only[aM]at hc;(repeat' split at hc) <;> first|(simp at hc;done)|(obtain⟨_,_,e⟩:=ζf.1 hc;cases e)|cases hc
 | seq a b iha ihb=>
  intro code F H r hc h
  cases code with
  | seq a' b'=>
   simp only[aM]at hc;split at hc
   ·rename_i x y hx hy;cases hc;simp only[eY]at h;simp only[exec]
    cases hva:eY X.E N call lf a F H with
    | none=>rw[hva]at h;simp at h
    | some q=>
     rw[hva]at h;rw[iha a' F H q hx hva];obtain⟨o,F1,H1⟩:=q
     cases o with
     | norm=>exact ihb b' F1 H1 r hy h
     | exit _=>exact h
     | ret=>exact h
   ·simp at hc
  | region id ops draw=>simp only[aM]at hc;(repeat' split at hc) <;> first|(simp at hc;done)|(obtain⟨_,_,e⟩:=ζf.1 hc;cases e)
  | _=>simp only[aM]at hc;(repeat' split at hc) <;> first|(simp at hc;done)|(obtain⟨_,_,e⟩:=ζf.1 hc;cases e)|cases hc
 | cond x a b iha ihb=>
  intro code F H r hc h
  cases code with
  | cond c a' b'=>
   simp only[aM]at hc;split at hc
   ·rename_i x' y z hx hy hz;cases hc;simp only[eY]at h;simp only[exec,Fh (F:=F) hN hx];split at h
    ·rename_i t ht;rw[ht]
     cases t with
     | true=>simp only[if_true]at h ⊢;exact iha a' F H r hy h
     | false=>simp only[Bool.false_eq_true,if_false]at h ⊢;exact ihb b' F H r hz h
    ·simp at h
   ·simp at hc
  | region id ops draw=>simp only[aM]at hc;(repeat' split at hc) <;> first|(simp at hc;done)|(obtain⟨_,_,e⟩:=ζf.1 hc;cases e)
  | _=>simp only[aM]at hc;(repeat' split at hc) <;> first|(simp at hc;done)|(obtain⟨_,_,e⟩:=ζf.1 hc;cases e)|cases hc
 | block id c ih=>
  intro code F H r hc h
  cases code with
  | block id' c'=>
   simp only[aM]at hc;obtain⟨x,hx,e⟩:=ζf.1 hc;cases e;simp only[eY]at h;simp only[exec]
   cases hva:eY X.E N call lf c F H with
   | none=>rw[hva]at h;simp at h
   | some q=>
    rw[hva]at h;rw[ih c' F H q hx hva];exact h
  | region id ops draw=>simp only[aM]at hc;(repeat' split at hc) <;> first|(simp at hc;done)|(obtain⟨_,_,e⟩:=ζf.1 hc;cases e)
  | _=>simp only[aM]at hc;(repeat' split at hc) <;> first|(simp at hc;done)|(obtain⟨_,_,e⟩:=ζf.1 hc;cases e)|cases hc
 | loop c ih=>
  intro code F H r hc h
  cases code with
  | loop c'=>
   simp only[aM]at hc;obtain⟨x,hx,e⟩:=ζf.1 hc;cases e;simp only[eY]at h;simp only[exec];exact Cz (fun F H r hr=>ih c' F H r hx hr) lf F H r h
  | region id ops draw=>simp only[aM]at hc;(repeat' split at hc) <;> first|(simp at hc;done)|(obtain⟨_,_,e⟩:=ζf.1 hc;cases e)
  | _=>simp only[aM]at hc;(repeat' split at hc) <;> first|(simp at hc;done)|(obtain⟨_,_,e⟩:=ζf.1 hc;cases e)|cases hc
 | exit id=>
  intro code F H r hc h
  cases code with
  | exit id'=>simp only[aM,ζa,RC.exit.injEq]at hc;subst hc;exact h
  | region id ops draw=>simp only[aM]at hc;(repeat' split at hc) <;> first|(simp at hc;done)|(obtain⟨_,_,e⟩:=ζf.1 hc;cases e)
  | _=>simp only[aM]at hc;(repeat' split at hc) <;> first|(simp at hc;done)|(obtain⟨_,_,e⟩:=ζf.1 hc;cases e)|cases hc
 | ret=>
  intro code F H r hc h
  cases code with
  | ret=>exact h
  | region id ops draw=>simp only[aM]at hc;(repeat' split at hc) <;> first|(simp at hc;done)|(obtain⟨_,_,e⟩:=ζf.1 hc;cases e)
  | _=>simp only[aM]at hc;(repeat' split at hc) <;> first|(simp at hc;done)|(obtain⟨_,_,e⟩:=ζf.1 hc;cases e)|cases hc
 | _=>intro code F H r hc h;simp[eY]at h
end
end Go.VE
namespace Go.VE
variable [aW]
def Ex (E:Env) (N:Nat→FuncId) (rc:RC) (F:Frame) (H:aq) (o:Out) (F':Frame) (H':aq):Prop:=
 ∃n,∀k,n≤k→eY E N (run E k) k rc F H=some (o,F',H')
def kr (E:Env) (N:Nat→FuncId) (rc:RC) (F:Frame) (H:aq) (o:Out) (F':Frame) (H':aq):Prop:=
 ∃n,∀k,n≤k→∀lf,n≤lf→iw (eY E N (run E k) k rc) lf F H=some (o,F',H')
section
variable {E:Env} {N:Nat→FuncId} {a b c:RC} {F F1 F':Frame} {H H1 H':aq} {o:Out} {x:Arg} {id:Nat}
theorem Ex.ops {l:List RO} (h:∃n,∀k,n≤k→bP E N (run E k) none l F H=some (F',H')):Ex E N (.ops l) F H .norm F' H':=
 let ⟨n,h⟩:=h;⟨n,fun k hk=>by simp only[eY,h k hk,Option.map_some]⟩
theorem Ex.c8 {l:List RO} (h:∀call,bP E N call none l F H=some (F',H')):Ex E N (.ops l) F H .norm F' H':=Ex.ops ⟨0,fun k _=>h _⟩
theorem Ex.lM {l:List RO} (hn:um l=true) (h:∀call,bP E N call (some H.length) l F H=some (F',H')):Ex E N (.lM l) F H .norm F' H':=
 ⟨0,fun k _=>by simp only[eY,hn,if_true,h,Option.map_some]⟩
theorem Ex.Hu {l:List RO} (hn:um l=true) (h:∃n,∀k,n≤k→bP E N (run E k) (some H.length) l F H=some (F',H')):Ex E N (.lM l) F H .norm F' H':=
 let ⟨n,h⟩:=h;⟨n,fun k hk=>by simp only[eY,hn,if_true,h k hk,Option.map_some]⟩
theorem Ex.skip:Ex E N .skip F H .norm F H:=⟨0,fun _ _=>rfl⟩
theorem Ex.exit:Ex E N (.exit id) F H (.exit id) F H:=⟨0,fun _ _=>rfl⟩
theorem Ex.ret:Ex E N .ret F H .ret F H:=⟨0,fun _ _=>rfl⟩
theorem Ex.seq (h1:Ex E N a F H .norm F1 H1) (h2:Ex E N b F1 H1 o F' H'):Ex E N (.seq a b) F H o F' H':=by
 obtain⟨n,h1⟩:=h1;obtain⟨m,h2⟩:=h2;exact⟨max n m,fun k hk=>by simp only[eY,h1 k (by omega)];exact h2 k (by omega)⟩
theorem Ex.tS (h1:Ex E N a F H o F' H') (ho:o≠.norm):Ex E N (.seq a b) F H o F' H':=by
 obtain⟨n,h1⟩:=h1;refine⟨n,fun k hk=>?_⟩
 simp only[eY,h1 k hk];cases o <;> first|exact absurd rfl ho|rfl
theorem Ex.mq (hx:aD N F x=.bool true) (h:Ex E N a F H o F' H'):Ex E N (.cond x a b) F H o F' H':=by
 obtain⟨n,h⟩:=h;exact⟨n,fun k hk=>by simp only[eY,hx,if_true,h k hk]⟩
theorem Ex.rH (hx:aD N F x=.bool false) (h:Ex E N b F H o F' H'):Ex E N (.cond x a b) F H o F' H':=by
 obtain⟨n,h⟩:=h;exact⟨n,fun k hk=>by simp only[eY,hx,Bool.false_eq_true,if_false,h k hk]⟩
theorem Ex.block (h:Ex E N c F H .norm F' H'):Ex E N (.block id c) F H .norm F' H':=by
 obtain⟨n,h⟩:=h;exact⟨n,fun k hk=>by simp only[eY,h k hk]⟩
theorem Ex.t_ (h:Ex E N c F H (.exit id) F' H'):Ex E N (.block id c) F H .norm F' H':=by
 obtain⟨n,h⟩:=h;exact⟨n,fun k hk=>by simp only[eY,h k hk,if_true]⟩
theorem Ex.IM (h:Ex E N c F H .ret F' H'):Ex E N (.block id c) F H .ret F' H':=by
 obtain⟨n,h⟩:=h;exact⟨n,fun k hk=>by simp only[eY,h k hk]⟩
theorem Ex.loop (h:kr E N c F H o F' H'):Ex E N (.loop c) F H o F' H':=by
 obtain⟨n,h⟩:=h;exact⟨n,fun k hk=>h k hk k hk⟩
theorem kr.step (h1:Ex E N c F H .norm F1 H1) (h2:kr E N c F1 H1 o F' H'):kr E N c F H o F' H':=by
 obtain⟨n,h1⟩:=h1;obtain⟨m,h2⟩:=h2;refine⟨max n m+1,fun k hk lf hl=>?_⟩
 cases lf with
 | zero=>omega
 | succ lf=>simp only[iw,h1 k (by omega)];exact h2 k (by omega) lf (by omega)
theorem kr.stop (h1:Ex E N c F H o F' H') (ho:o≠.norm):kr E N c F H o F' H':=by
 obtain⟨n,h1⟩:=h1;refine⟨n+1,fun k hk lf hl=>?_⟩
 cases lf with
 | zero=>omega
 | succ lf=>
  simp only[iw,h1 k (by omega)]
  cases o <;> first|exact absurd rfl ho|rfl
end
theorem Ex.run {E:Env} {nm:FuncId→Option Nat} {N:Nat→FuncId} (hN:∀f s,nm f=some s→N s=f) {f:FuncId} {fi:FI} {rc:RC} (hf:E.ft f=some fi) (hc:aM ⟨E,nm,fi.ntmps⟩ false fi.body=some rc) {args:List V} (ha:args.length≤fi.ntmps) {H H':aq} {F':Frame}
 (h:Ex E N rc args H .ret F' H') {vs:List V} (hr:gp E F' H' fi.results=some vs):∃n,run E n (.fn f) args H=some (result vs,H'):=by
 obtain⟨n,h⟩:=h;refine⟨n+1,?_⟩;have:=Ke (X:=⟨E,nm,fi.ntmps⟩) (call:=Go.VE.run E n) hN (lf:=n) rc fi.body args H _ hc (h n (Nat.le_refl _));simp only[Go.VE.run,hf,if_pos ha,this,hr,Option.map_some]
@[simp] theorem aA (F:Frame) (i j:Nat) (v:V):get (set F i v) j=if i=j then v else get F j:=by
 split
 ·rename_i h;subst h;exact rF F i v
 ·rename_i h;exact gi F v h
def refs:List Nat→List (List V)→List (List V)
 | id::ids,r::rs=>[V.hsl id 1 0 r.length]::refs ids rs
 | _,_=>[]
def f_ (r:List V):List (List V):=r.map fun u=>[u]
structure jr (H:aq) (w:V) (o:Nat) (ids:List Nat) (rows:List (List V)):Prop where
 v:w=if rows=[]then .aF else .hsl o 1 0 rows.length
 ob:rows≠[]→H[o]? = some (.row 1 (refs ids rows))
 len:ids.length=rows.length
 r:∀(i id:Nat) (r:List V),ids[i]? = some id→rows[i]? = some r→H[id]? = some (.row 1 (f_ r))
 nd:ids.Nodup
 ne:rows≠[]→o∉ids
theorem pM:∀{ids:List Nat} {rows:List (List V)},ids.length=rows.length→(refs ids rows).length=rows.length
 | [],[],_=>rfl
 | _::ids,_::rows,h=>by simp only[refs,List.length_cons,pM (ids:=ids) (rows:=rows) (by simpa using h)]
theorem CD:∀{ids:List Nat} {rows:List (List V)} (id:Nat) (r:List V),ids.length=rows.length→refs (ids++[id]) (rows++[r])=refs ids rows++[[V.hsl id 1 0 r.length]]
 | [],[],_,_,_=>rfl
 | _::ids,_::rows,id,r,h=>by simp only[refs,List.cons_append,CD (ids:=ids) (rows:=rows) id r (by simpa using h)]
theorem yF:∀{ids:List Nat} {rows:List (List V)} {i id:Nat} {r:List V},ids[i]? = some id→rows[i]? = some r→(refs ids rows)[i]? = some [V.hsl id 1 0 r.length]
 | [],_,_,_,_,h,_=>by simp at h
 | _::_,[],_,_,_,_,h=>by simp at h
 | a::ids,b::rows,0,id,r,h1,h2=>by simp at h1 h2;subst h1 h2;rfl
 | a::ids,b::rows,i+1,id,r,h1,h2=>by simpa [refs]using yF (ids:=ids) (rows:=rows) (i:=i) (by simpa using h1) (by simpa using h2)
theorem CV:∀{ids:List Nat} {rows:List (List V)} {i:Nat} {r r':List V},rows[i]? = some r→r'.length=r.length→refs ids (rows.set i r')=refs ids rows
 | [],_,_,_,_,_,_=>by simp[refs]
 | _::_,[],_,_,_,_,_=>by simp[refs]
 | a::ids,b::rows,0,r,r',h,hl=>by simp at h;subst h;simp only[List.set_cons_zero,refs,hl]
 | a::ids,b::rows,i+1,r,r',h,hl=>by simp only[List.set_cons_succ,refs,CV (ids:=ids) (rows:=rows) (i:=i) (by simpa using h) hl]
section
variable {H H':aq} {v:V} {o:Nat} {ids:List Nat} {rows:List (List V)}
theorem jr.nil (H:aq) (o:Nat):jr H .aF o [] []:=⟨rfl,fun h=>absurd rfl h,rfl,fun i id r h=>by simp at h,.nil,fun h=>absurd rfl h⟩
theorem jr.heap (n:jr H v o ids rows) (ho:rows≠[]→H'[o]? = H[o]?) (hi:∀id∈ids,H'[id]? = H[id]?):jr H' v o ids rows:=
 ⟨n.v,fun h=>by rw[ho h];exact n.ob h,n.len,fun i id r h1 h2=>by rw[hi id (List.mem_of_getElem? h1)];exact n.r i id r h1 h2,n.nd,n.ne⟩
theorem jr.lt (n:jr H v o ids rows):(rows≠[]→o<H.length)∧∀id∈ids,id<H.length:=by
 refine⟨fun h=>(ζe.1 (n.ob h)).1,fun id hid=>?_⟩
 obtain⟨i,hi⟩:=List.getElem?_of_mem hid;have hl:=(ζe.1 hi).1;have:=n.r i id _ hi (ζd (show i<rows.length from n.len▸hl));exact(ζe.1 this).1
theorem jr.more (n:jr H v o ids rows) (X:aq):jr (H++X) v o ids rows:=
 n.heap (fun h=>List.getElem?_append_left (n.lt.1 h)) fun id hid=>List.getElem?_append_left (n.lt.2 id hid)
theorem jr.push (n:jr H v o ids rows) (r:List V) (hl:rows.length+1≤2147483648) :
 ∃H',dS (H++[.row 1 (f_ r)]++[.row 1 [[.hsl H.length 1 0 r.length]]]) (.append 1) [v,.hsl (H.length+1) 1 0 1]=some (.hsl (H.length+2) 1 0 (rows.length+1),H') ∧
  jr H' (.hsl (H.length+2) 1 0 (rows.length+1)) (H.length+2) (ids++[H.length]) (rows++[r])∧H.length≤H'.length∧(∀id,id<H.length→id≠o∨rows=[]→H'[id]? = H[id]?):=by
 generalize hH2:H++[.row 1 (f_ r)]++[.row 1 [[.hsl H.length 1 0 r.length]]]=H2;have hlen:H2.length=H.length+2:=by subst hH2;simp
 have hlo:∀id,id<H.length→H2[id]? = H[id]? := fun id h=>by
  subst hH2;rw[List.append_assoc,List.getElem?_append_left h]
 have h1:H2[H.length]? = some (.row 1 (f_ r)):=by subst hH2;simp
 have h2:H2[H.length+1]? = some (.row 1 [[.hsl H.length 1 0 r.length]]):=by subst hH2;simp
 have hv:=n.v;have e2:dg H2 1 (.hsl (H.length+1) 1 0 1)=some [[.hsl H.length 1 0 r.length]]:=by
  simp[dg,h2,Ob.rows]
 by_cases hr:rows=[]
 ·subst hr;rw[if_pos rfl]at hv;subst hv;have:ids=[]:=List.eq_nil_of_length_eq_zero n.len;subst this;refine⟨H2++[.row 1 [[.hsl H.length 1 0 r.length]]],?_,⟨by simp,fun _=>by rw[←hlen];simp[refs],rfl,fun i id r' hi hr'=>?_,by simp,fun _=>by simp⟩,by simp[hlen];omega,fun id hid _=>?_⟩
  ·have e1:dg H2 1 .aF=some []:=rfl;simp only[dS,e1,e2,iq,List.length_nil,List.length_singleton,Option.map_some,hlen];simp
  ·cases i with
   | zero=>
    simp at hi hr';subst hi hr';rw[List.getElem?_append_left (by omega)];exact h1
   | succ i=>simp at hi
  ·rw[List.getElem?_append_left (by omega)];exact hlo id hid
 ·rw[if_neg hr]at hv;subst hv;have ho:=n.ob hr;have hol:=n.lt.1 hr;have e1:dg H2 1 (.hsl o 1 0 rows.length)=some (refs ids rows):=by
   simp only[dg,if_true,hlo o hol,ho,ζb,Ob.rows,pM n.len,Nat.zero_add,Nat.le_refl,List.drop_zero];rw[List.take_of_length_le (by rw[pM n.len];exact Nat.le_refl _)]
  have eg:iq H2 (.hsl o 1 0 rows.length)=some (H2.set o .dead):=by
   simp only[iq,hlo o hol,ho]
  have hset:∀id,id≠o→(H2.set o Ob.dead++[Ob.row 1 (refs ids rows++[[.hsl H.length 1 0 r.length]])])[id]? = if id<H2.length then H2[id]? else(H2.set o Ob.dead++[Ob.row 1 (refs ids rows++[[.hsl H.length 1 0 r.length]])])[id]? := fun id hne=>by
   split
   ·rename_i h;rw[List.getElem?_append_left (by simpa using h),List.getElem?_set_ne (Ne.symm hne)]
   ·rfl
  refine⟨H2.set o .dead++[.row 1 (refs ids rows++[[.hsl H.length 1 0 r.length]])],?_,⟨by simp,fun _=>?_,by simp[n.len],fun i id r' hi hr'=>?_,?_,fun _ hm=>?_⟩,by simp[hlen];omega,fun id hid hne=>?_⟩
  ·simp only[dS,e1,e2,eg,pM n.len,List.length_singleton,hl,if_true,Option.map_some,hlen]
  ·rw[CD _ _ n.len,←hlen];simp
  ·have hio:id≠o:=by
    rcases Nat.lt_or_ge i ids.length with h|h
    ·rw[List.getElem?_append_left h]at hi;intro e;subst e;exact n.ne hr (List.mem_of_getElem? hi)
    ·have:i=ids.length:=by have:=(ζe.1 hi).1;simp at this;omega
     subst this;simp at hi;subst hi;omega
   rcases Nat.lt_or_ge i ids.length with h|h
   ·rw[List.getElem?_append_left h]at hi;rw[List.getElem?_append_left (by rw[←n.len];exact h)]at hr'
    have hidl:=n.lt.2 id (List.mem_of_getElem? hi);rw[hset id hio,if_pos (by omega),hlo id hidl]
    exact n.r i id r' hi hr'
   ·have:i=ids.length:=by have:=(ζe.1 hi).1;simp at this;omega
    subst this;simp at hi;subst hi;rw[n.len]at hr';simp at hr';subst hr';rw[hset _ hio,if_pos (by omega)];exact h1
  ·rw[List.nodup_append];exact⟨n.nd,by simp,fun a ha b hb=>by simp at hb;subst hb;exact Nat.ne_of_lt (n.lt.2 a ha)⟩
  ·rcases List.mem_append.1 hm with hm|hm
   ·have:=n.lt.2 _ hm;omega
   ·simp at hm
  ·rw[hset id (hne.resolve_right hr),if_pos (by omega)];exact hlo id hid
end
end Go.VE
namespace Go.VE
variable [aW]
theorem iA {E:Env} {N:Nat→FuncId} {F:Frame} {H H1:aq} {call:b9} {b:Option Nat} {o:RO} {l:List RO} {v:V} {r:Frame×aq} (hg:o.gd=none) (hv:aR E N call b o.now o.k (o.az.map (aD N F)) H=some (v,H1)) (h:bP E N call b l (aB F o.dst v) H1=some r):bP E N call b (o::l) F H=some r:=by
 simp only[bP,hg,hv];exact h
theorem vp {E:Env} {N:Nat→FuncId} {F:Frame} {H:aq} {call:b9} {b:Option Nat} {o:RO} {l:List RO} {v:V} {r:Frame×aq} (hg:o.gd=none) (hv:aR E N call b o.now o.k (o.az.map (aD N F)) H=some (v,H)) (h:bP E N call b l (aB F o.dst v) H=some r):bP E N call b (o::l) F H=some r:=iA hg hv h
theorem dL {E:Env} {N:Nat→FuncId} {F:Frame} {H:aq} {call:b9} {b:Option Nat}:bP E N call b [] F H=some (F,H):=rfl
theorem wH {n:Nat} (h:n≤2147483648):IntKind.wrap .i64 ((n:Int)+1)=((n+1:Nat):Int):=by
 simp[IntKind.wrap,IntKind.bits,IntKind.signed];omega
theorem Wk {n:Nat} (h:n≤2147483648):IntKind.wrap .i64 (((n+1:Nat):Int)-1)=(n:Int):=by
 simp[IntKind.wrap,IntKind.bits,IntKind.signed];omega
theorem gH (H:aq):H.take H.length=H:=List.take_length
theorem BP {x:V} (h:x.one=true):x.cells=[x]:=by
 cases x <;> first|rfl|(simp[V.one]at h)
def kept (t:Nat→Bool) (n:Nat):List Nat:=(List.range n).filter fun i=>i==0 || !t i
theorem tc (t:Nat→Bool) (n:Nat):kept t (n+1)=kept t n++if n==0 || !t n then [n]else []:=by
 unfold kept;rw[List.range_succ,List.filter_append,List.filter_cons];rfl
theorem ES (t:Nat→Bool):∀n,(kept t n).length≤n:=fun n=>by
 unfold kept;exact Nat.le_trans (List.length_filter_le ..) (by simp)
theorem y6 {t:Nat→Bool}:∀n,(∀i,0<i→i<n→t i=false)→kept t n=List.range n
 | 0,_=>rfl
 | n+1,h=>by
  rw[tc,y6 n fun i h1 h2=>h i h1 (by omega),List.range_succ]
  congr 1
  cases n with
  | zero=>rfl
  | succ n=>rw[h (n+1) (by omega) (by omega)];simp
theorem wA {t:Nat→Bool} {k:Nat} (h0:0<k) (hk:t k=true):∀n,k<n→(kept t n).length+1≤n
 | 0,h=>by omega
 | n+1,h=>by
  rw[tc]
  by_cases e:n=k
  ·subst e;have:(n==0 || !t n)=false:=by simp[hk];omega
   rw[this];have:=ES t n;simp;omega
  ·have:=wA h0 hk n (by omega)
   split <;> simp <;> omega
namespace cmpX
instance {n:Nat}:OfNat Arg n:=⟨.s n⟩
def r1:List RO:=[o1 4 (.k (.aF)) []]
def r2:List RO:=[o1 8 0 [],o2 9 (.p .lenSl) [8] [],o2 10 (.p (.bin (some .int) none .lss)) [9,.k (.int .i64 2)] []]
def r3:List RO:=[o1 11 0 [],o1 4 11 []]
def r4:List RO:=[o1 5 (.k (.int .i64 1)) []]
def r5:List RO:=[o1 12 5 [],o1 13 0 [],o2 14 (.p .lenSl) [13] [],o2 15 (.p (.bin (some .int) none .lss)) [12,14] []]
def on (d:Nat) (k:K) (az:List Arg):RO:=⟨some d,none,true,k,az,[],[]⟩
def r6:List RO:=[o1 18 1 [],o1 19 0 [],o1 20 5 [],o2 21 (.p (.idxS 1)) [19,20] [],o2 22 (.r (.load 1 false)) [21] [],o1 23 0 [],o1 24 5 [],o2 25 (.p (.bin (some .int) none .sub)) [24,.k (.int .i64 1)] [],o2 26 (.p (.idxS 1)) [23,25] [],o2 27 (.r (.load 1 false)) [26] [],on 28 .c [18,22,27]]
def r7:List RO:=[o1 29 0 [],o1 30 5 [],o2 31 (.p (.slice 1 true false)) [29,30] [],o1 6 31 []]
def r8:List RO:=[o1 7 (.k (.int .i64 1)) []]
def r9:List RO:=[o1 32 7 [],o1 33 6 [],o2 34 (.p .lenSl) [33] [],o2 35 (.p (.bin (some .int) none .lss)) [32,34] []]
def CH:List RO:=[o1 38 1 [],o1 39 6 [],o1 40 7 [],o2 41 (.p (.idxS 1)) [39,40] [],o2 42 (.r (.load 1 false)) [41] [],o1 43 6 [],o1 44 7 [],o2 45 (.p (.bin (some .int) none .sub)) [44,.k (.int .i64 1)] [],o2 46 (.p (.idxS 1)) [43,45] [],o2 47 (.r (.load 1 false)) [46] [],on 48 .c [38,42,47],on 49 (.p (.not)) [48]]
def DX:List RO:=[o1 50 0 [],o1 51 5 [],o1 52 6 [],o1 53 7 [],o2 54 (.p (.idxS 1)) [52,53] [],o2 55 (.r (.load 1 false)) [54] [],o2 56 (.p (.idxS 1)) [50,51] [],⟨none,none,false,.l (.store 1),[56,55],[],[]⟩]
def CA:List RO:=[o1 57 5 [],o2 58 (.p (.bin (some .int) none .add)) [57,.k (.int .i64 1)] [],o1 5 58 []]
def DP:List RO:=[o1 36 7 [],o2 37 (.p (.bin (some .int) none .add)) [36,.k (.int .i64 1)] [],o1 7 37 []]
def XQ:RC:=.seq (.seq (.ops r9) (.cond (.s 35) (.skip) (.exit 2))) (.seq (.block 3 (.seq (.lM CH) (.cond (.s 49) (.seq (.ops DX) (.ops CA)) (.skip)))) (.ops DP))
def Cs:List RO:=[o1 59 0 [],o1 60 5 [],o2 61 (.p (.slice 1 true false)) [59,60] [],⟨none,none,false,.l (.clear 1 [.aF]),[61],[],[]⟩]
def Fb:List RO:=[o1 62 0 [],o1 63 5 [],o2 64 (.p (.slice 1 false true)) [62,63] [],o1 4 64 []]
def r16:List RO:=[o1 16 5 [],o2 17 (.p (.bin (some .int) none .add)) [16,.k (.int .i64 1)] [],o1 5 17 []]
def Mt:RC:=.seq (.seq (.ops r5) (.cond (.s 15) (.skip) (.exit 0))) (.seq (.block 1 (.seq (.lM r6) (.cond (.s 28) (.seq (.ops r7) (.seq (.seq (.ops r8) (.block 2 (.loop XQ))) (.seq (.ops Cs) (.seq (.ops Fb) (.ret))))) (.skip)))) (.ops r16))
def Jn:List RO:=[o1 65 0 [],o1 4 65 []]
def code:RC:=.seq (.ops r1) (.seq (.seq (.ops r2) (.cond (.s 10) (.seq (.ops r3) (.ret)) (.skip))) (.seq (.seq (.ops r4) (.block 0 (.loop Mt))) (.seq (.ops Jn) (.ret))))
structure ZN (F F':Frame):Prop where
 s0:get F' 0=get F 0
 s1:get F' 1=get F 1
section
variable {E:Env} {N:Nat→FuncId} {F:Frame} {H:aq} {call:b9} {id off L k:Nat}
theorem ld {cur:List (List V)} {el:Nat} {v:V} (h:H[id]? = some (.row 1 cur)) (hv:cur[el]? = some [v]):dx H (.load 1 false) [.hptr id el 0]=some v:=by
 simp[dx,cG,h,Ob.rows,hv,cut,mk]
theorem Mr {i:Nat} (h:i<L):iV 1 (.hsl id 1 off L) (i:Int)=some (.hptr id (off+i) 0):=by
 unfold iV;rw[if_neg (by omega)];simp[h]
theorem x2 (f0:get F 0=.hsl id 1 off L):∃F',(∀call,bP E N call none r2 F H=some (F',H))∧get F' 10=.bool (decide ((L:Int)<2))∧(∀s,s<8→get F' s=get F s):=by
 refine⟨_,fun call=>vp (v:=.hsl id 1 off L) rfl ?_ <| vp (v:=.int .i64 L) rfl ?_ <| vp (v:=.bool (decide ((L:Int)<2))) rfl ?_ dL,?_,?_⟩
 ·simp[aR,aD,ay,f0]
 ·simp[aR,aD,ay,aB,nh]
 ·simp[aR,aD,ay,aB,gL,mS]
 ·simp[aB]
 ·intro s hs;simp only[aB,aA]
  repeat (rw[if_neg (by omega)])
theorem x5 (f0:get F 0=.hsl id 1 off L) (f5:get F 5=.int .i64 k):∃F',(∀call,bP E N call none r5 F H=some (F',H))∧get F' 15=.bool (decide (k<L))∧(∀s,s<8→get F' s=get F s):=by
 refine⟨_,fun call=>vp (v:=.int .i64 k) rfl ?_ <| vp (v:=.hsl id 1 off L) rfl ?_ <| vp (v:=.int .i64 L) rfl ?_ <| vp (v:=.bool (decide (k<L))) rfl ?_ dL,?_,?_⟩
 ·simp[aR,aD,ay,f5]
 ·simp[aR,aD,ay,aB,f0]
 ·simp[aR,aD,ay,aB,nh]
 ·simp[aR,aD,ay,aB,gL,mS]
 ·simp[aB]
 ·intro s hs;simp only[aB,aA]
  repeat (rw[if_neg (by omega)])
theorem Vi {g:FuncId} {cb:List V} {cur:List (List V)} {o2 L2 i:Nat} {a b:V} {t:Bool} (h:H[id]? = some (.row 1 cur)) (hi:i+1<L2) (hb2:i≤2147483648) (ha:cur[o2+(i+1)]? = some [a]) (hb:cur[o2+i]? = some [b]) (hk:E.keep g=false) (f1:get F 1=.clo g [] cb) :
 (get F 0=.hsl id 1 o2 L2→get F 5=.int .i64 ((i+1:Nat):Int)→∃F',(∀call,bE call g (a::b::cb) H=some (.bool t)→bP E N call (some H.length) r6 F H=some (F',H))∧get F' 28=.bool t∧(∀s,s<8→get F' s=get F s)) ∧
 (get F 6=.hsl id 1 o2 L2→get F 7=.int .i64 ((i+1:Nat):Int)→∃F',(∀call,bE call g (a::b::cb) H=some (.bool t)→bP E N call (some H.length) CH F H=some (F',H))∧get F' 49=.bool (!t)∧(∀s,s<8→get F' s=get F s)):=by
 have hd:=Wk hb2;have e1:=ld h ha;have e2:=ld h hb;have i1:=Mr (id:=id) (off:=o2) (L:=L2) hi;have i2:=Mr (id:=id) (off:=o2) (L:=L2) (show i<L2 by omega)
 refine⟨fun f0 f5=>⟨_,fun call hc=>vp (v:=.clo g [] cb) rfl ?_ <| vp (v:=.hsl id 1 o2 L2) rfl ?_ <| vp (v:=.int .i64 ((i+1:Nat):Int)) rfl ?_ <| vp (v:=.hptr id (o2+(i+1)) 0) rfl ?_ <| vp (v:=a) rfl ?_ <| vp (v:=.hsl id 1 o2 L2) rfl ?_ <| vp (v:=.int .i64 ((i+1:Nat):Int)) rfl ?_ <|
  vp (v:=.int .i64 (i:Int)) rfl ?_ <| vp (v:=.hptr id (o2+i) 0) rfl ?_ <| vp (v:=b) rfl ?_ <| vp (v:=.bool t) rfl ?_ dL,?_,?_⟩,fun f6 f7=>⟨_,fun call hc=>vp (v:=.clo g [] cb) rfl ?_ <| vp (v:=.hsl id 1 o2 L2) rfl ?_ <| vp (v:=.int .i64 ((i+1:Nat):Int)) rfl ?_ <| vp (v:=.hptr id (o2+(i+1)) 0) rfl ?_ <| vp (v:=a) rfl ?_ <| vp (v:=.hsl id 1 o2 L2) rfl ?_ <| vp (v:=.int .i64 ((i+1:Nat):Int)) rfl ?_ <|
  vp (v:=.int .i64 (i:Int)) rfl ?_ <| vp (v:=.hptr id (o2+i) 0) rfl ?_ <| vp (v:=b) rfl ?_ <| vp (v:=.bool t) rfl ?_ <| vp (v:=.bool (!t)) rfl ?_ dL,?_,?_⟩⟩
 ·simp[aR,aD,ay,f1]
 ·simp[aR,aD,ay,aB,f0]
 ·simp only[aR,List.map_cons,List.map_nil,aD,aB,aA,Nat.reduceEqDiff,if_true,if_false,f5,ay];rfl
 ·simp only[aR,List.map_cons,List.map_nil,aD,aB,aA,Nat.reduceEqDiff,if_true,if_false,ay];rw[i1];rfl
 ·simp only[aR,List.map_cons,List.map_nil,aD,aB,aA,Nat.reduceEqDiff,if_true,if_false,gH];rw[e1];rfl
 ·simp[aR,aD,ay,aB,f0]
 ·simp only[aR,List.map_cons,List.map_nil,aD,aB,aA,Nat.reduceEqDiff,if_true,if_false,f5,ay];rfl
 ·simp only[aR,List.map_cons,List.map_nil,aD,aB,aA,Nat.reduceEqDiff,if_true,if_false,ay,gL,hd];rfl
 ·simp only[aR,List.map_cons,List.map_nil,aD,aB,aA,Nat.reduceEqDiff,if_true,if_false,ay];rw[i2];rfl
 ·simp only[aR,List.map_cons,List.map_nil,aD,aB,aA,Nat.reduceEqDiff,if_true,if_false,gH];rw[e2];rfl
 ·simp only[aR,on,List.map_cons,List.map_nil,aD,aB,aA,Nat.reduceEqDiff,if_true,if_false,gH,hk,Bool.false_eq_true,List.nil_append,List.cons_append,hc,V.scalar]
 ·simp[aB,on]
 ·intro s hs;simp only[aB,on,aA]
  repeat (rw[if_neg (by omega)])
 ·simp[aR,aD,ay,f1]
 ·simp[aR,aD,ay,aB,f6]
 ·simp only[aR,List.map_cons,List.map_nil,aD,aB,aA,Nat.reduceEqDiff,if_true,if_false,f7,ay];rfl
 ·simp only[aR,List.map_cons,List.map_nil,aD,aB,aA,Nat.reduceEqDiff,if_true,if_false,ay];rw[i1];rfl
 ·simp only[aR,List.map_cons,List.map_nil,aD,aB,aA,Nat.reduceEqDiff,if_true,if_false,gH];rw[e1];rfl
 ·simp[aR,aD,ay,aB,f6]
 ·simp only[aR,List.map_cons,List.map_nil,aD,aB,aA,Nat.reduceEqDiff,if_true,if_false,f7,ay];rfl
 ·simp only[aR,List.map_cons,List.map_nil,aD,aB,aA,Nat.reduceEqDiff,if_true,if_false,ay,gL,hd];rfl
 ·simp only[aR,List.map_cons,List.map_nil,aD,aB,aA,Nat.reduceEqDiff,if_true,if_false,ay];rw[i2];rfl
 ·simp only[aR,List.map_cons,List.map_nil,aD,aB,aA,Nat.reduceEqDiff,if_true,if_false,gH];rw[e2];rfl
 ·simp only[aR,on,List.map_cons,List.map_nil,aD,aB,aA,Nat.reduceEqDiff,if_true,if_false,gH,hk,Bool.false_eq_true,List.nil_append,List.cons_append,hc,V.scalar]
 ·simp[aR,on,aD,ay,aB]
 ·simp[aB,on]
 ·intro s hs;simp only[aB,on,aA]
  repeat (rw[if_neg (by omega)])
end
end cmpX
end Go.VE
namespace Go.VE
variable [aW]
namespace cmpX
section
variable {E:Env} {N:Nat→FuncId} {F:Frame} {H:aq} {call:b9} {id off L k:Nat}
theorem x7 (f0:get F 0=.hsl id 1 off L) (f5:get F 5=.int .i64 k) (hk:k≤L):∃F',(∀call,bP E N call none r7 F H=some (F',H))∧get F' 6=.hsl id 1 (off+k) (L-k)∧(∀s,s<8→s≠6→get F' s=get F s):=by
 have e:fL 1 (.hsl id 1 off L) (some (k:Int)) none=some (.hsl id 1 (off+k) (L-k)):=by
  unfold fL cE;simp only[if_true,Option.getD_none,Option.getD_some];rw[if_pos (by omega)];simp
 refine⟨_,fun call=>vp (v:=.hsl id 1 off L) rfl ?_ <| vp (v:=.int .i64 k) rfl ?_ <| vp (v:=.hsl id 1 (off+k) (L-k)) rfl ?_ <| vp (v:=.hsl id 1 (off+k) (L-k)) rfl ?_ dL,?_,?_⟩
 ·simp[aR,aD,ay,f0]
 ·simp[aR,aD,ay,aB,f5]
 ·simp only[aR,List.map_cons,List.map_nil,aD,aB,aA,Nat.reduceEqDiff,if_true,if_false,ay,jo,ζb,e,Option.map_some]
 ·simp[aR,aD,ay,aB]
 ·simp[aB]
 ·intro s hs h6;simp only[aB,aA];rw[if_neg (Ne.symm h6)]
  repeat (rw[if_neg (by omega)])
theorem x9 {o2 L2 m:Nat} (f6:get F 6=.hsl id 1 o2 L2) (f7:get F 7=.int .i64 m):∃F',(∀call,bP E N call none r9 F H=some (F',H))∧get F' 35=.bool (decide (m<L2))∧(∀s,s<8→get F' s=get F s):=by
 refine⟨_,fun call=>vp (v:=.int .i64 m) rfl ?_ <| vp (v:=.hsl id 1 o2 L2) rfl ?_ <| vp (v:=.int .i64 L2) rfl ?_ <| vp (v:=.bool (decide (m<L2))) rfl ?_ dL,?_,?_⟩
 ·simp[aR,aD,ay,f7]
 ·simp[aR,aD,ay,aB,f6]
 ·simp[aR,aD,ay,aB,nh]
 ·simp[aR,aD,ay,aB,gL,mS]
 ·simp[aB]
 ·intro s hs;simp only[aB,aA]
  repeat (rw[if_neg (by omega)])
theorem QW {cur:List (List V)} {o2 L2 m p:Nat} {a z:V} (h:H[id]? = some (.row 1 cur)) (f0:get F 0=.hsl id 1 off L) (f5:get F 5=.int .i64 p) (f6:get F 6=.hsl id 1 o2 L2) (f7:get F 7=.int .i64 m) (hm:m<L2) (hp:p<L)
 (ha:cur[o2+m]? = some [a]) (hz:cur[off+p]? = some [z]) (h1:a.one=true) :
 ∃F',(∀call,bP E N call none DX F H=some (F',H.set id (.row 1 (cur.set (off+p) [a]))))∧(∀s,s<8→get F' s=get F s):=by
 have i1:=Mr (id:=id) (off:=o2) (L:=L2) hm;have i2:=Mr (id:=id) (off:=off) (L:=L) hp;have e1:=ld h ha;have hs:dS H (.store 1) [.hptr id (off+p) 0,a]=some (.undef,H.set id (.row 1 (cur.set (off+p) [a]))):=by
  simp[dS,h,hz,BP h1,h1]
 refine⟨_,fun call=>vp (v:=.hsl id 1 off L) rfl ?_ <| vp (v:=.int .i64 p) rfl ?_ <| vp (v:=.hsl id 1 o2 L2) rfl ?_ <| vp (v:=.int .i64 m) rfl ?_ <| vp (v:=.hptr id (o2+m) 0) rfl ?_ <| vp (v:=a) rfl ?_ <| vp (v:=.hptr id (off+p) 0) rfl ?_ <| iA (v:=.undef) (H1:=H.set id (.row 1 (cur.set (off+p) [a]))) rfl ?_ dL,?_⟩
 ·simp[aR,aD,ay,f0]
 ·simp[aR,aD,ay,aB,f5]
 ·simp[aR,aD,ay,aB,f6]
 ·simp[aR,aD,ay,aB,f7]
 ·simp only[aR,List.map_cons,List.map_nil,aD,aB,aA,Nat.reduceEqDiff,if_true,if_false,ay];rw[i1];rfl
 ·simp only[aR,List.map_cons,List.map_nil,aD,aB,aA,Nat.reduceEqDiff,if_true,if_false];rw[e1];rfl
 ·simp only[aR,List.map_cons,List.map_nil,aD,aB,aA,Nat.reduceEqDiff,if_true,if_false,ay];rw[i2];rfl
 ·simp only[aR,List.map_cons,List.map_nil,aD,aB,aA,Nat.reduceEqDiff,if_true,if_false];exact hs
 ·intro s hs;simp only[aB,aA]
  repeat (rw[if_neg (by omega)])
theorem G8 {p:Nat} (hp:p≤2147483648):(get F 5=.int .i64 p→∃F',(∀call,bP E N call none CA F H=some (F',H))∧get F' 5=.int .i64 ((p+1:Nat):Int)∧(∀s,s<8→s≠5→get F' s=get F s)) ∧
 (get F 7=.int .i64 p→∃F',(∀call,bP E N call none DP F H=some (F',H))∧get F' 7=.int .i64 ((p+1:Nat):Int)∧(∀s,s<8→s≠7→get F' s=get F s)) ∧
 (get F 5=.int .i64 p→∃F',(∀call,bP E N call none r16 F H=some (F',H))∧get F' 5=.int .i64 ((p+1:Nat):Int)∧(∀s,s<8→s≠5→get F' s=get F s)):=by
 have hb:=wH hp;refine⟨fun f=>⟨_,fun call=>vp (v:=.int .i64 p) rfl ?_ <| vp (v:=.int .i64 ((p+1:Nat):Int)) rfl ?_ <| vp (v:=.int .i64 ((p+1:Nat):Int)) rfl ?_ dL,?_,?_⟩,
  fun f=>⟨_,fun call=>vp (v:=.int .i64 p) rfl ?_ <| vp (v:=.int .i64 ((p+1:Nat):Int)) rfl ?_ <| vp (v:=.int .i64 ((p+1:Nat):Int)) rfl ?_ dL,?_,?_⟩,
  fun f=>⟨_,fun call=>vp (v:=.int .i64 p) rfl ?_ <| vp (v:=.int .i64 ((p+1:Nat):Int)) rfl ?_ <| vp (v:=.int .i64 ((p+1:Nat):Int)) rfl ?_ dL,?_,?_⟩⟩ <;>
 first
 | (simp[aR,aD,ay,f];done)
 | (simp only[aR,List.map_cons,List.map_nil,aD,aB,aA,Nat.reduceEqDiff,if_true,if_false,ay,gL,hb];rfl)
 | (simp[aR,aD,ay,aB];done)
 | (simp[aB];done)
 | (intro s hs h5;simp only[aB,aA];rw[if_neg (Ne.symm h5)];repeat (rw[if_neg (by omega)]))
theorem Zd {cur:List (List V)} {p:Nat} (h:H[id]? = some (.row 1 cur)) (f0:get F 0=.hsl id 1 off L) (f5:get F 5=.int .i64 p) (hp:p<L) (hl:off+L≤cur.length) :
 ∃F',(∀call,bP E N call none Cs F H=some (F',H.set id (.row 1 (cur.take (off+p)++List.replicate (L-p) [.aF]++cur.drop (off+L)))))∧(∀s,s<8→get F' s=get F s):=by
 have e:fL 1 (.hsl id 1 off L) (some (p:Int)) none=some (.hsl id 1 (off+p) (L-p)):=by
  unfold fL cE;simp only[if_true,Option.getD_none,Option.getD_some];rw[if_pos (by omega)];simp
 obtain⟨q,hq⟩:∃q,L-p=q+1:=⟨L-p-1,by omega⟩
 have hc:dS H (.clear 1 [.aF]) [.hsl id 1 (off+p) (L-p)]=some (.undef,H.set id (.row 1 (cur.take (off+p)++List.replicate (L-p) [.aF]++cur.drop (off+L)))):=by
  simp only[dS,zL,if_true,hq,h];rw[if_pos (by omega)]
  congr 6;omega
 refine⟨_,fun call=>vp (v:=.hsl id 1 off L) rfl ?_ <| vp (v:=.int .i64 p) rfl ?_ <| vp (v:=.hsl id 1 (off+p) (L-p)) rfl ?_ <| iA (v:=.undef) (H1:=H.set id (.row 1 (cur.take (off+p)++List.replicate (L-p) [.aF]++cur.drop (off+L)))) rfl ?_ dL,?_⟩
 ·simp[aR,aD,ay,f0]
 ·simp[aR,aD,ay,aB,f5]
 ·simp only[aR,List.map_cons,List.map_nil,aD,aB,aA,Nat.reduceEqDiff,if_true,if_false,ay,jo,ζb,e,Option.map_some]
 ·simp only[aR,List.map_cons,List.map_nil,aD,aB,aA,Nat.reduceEqDiff,if_true,if_false];exact hc
 ·intro s hs;simp only[aB,aA]
  repeat (rw[if_neg (by omega)])
theorem Mm {p:Nat} (f0:get F 0=.hsl id 1 off L) (f5:get F 5=.int .i64 p) (hp:p≤L):∃F',(∀call,bP E N call none Fb F H=some (F',H))∧get F' 4=.hsl id 1 off p:=by
 have e:fL 1 (.hsl id 1 off L) none (some (p:Int))=some (.hsl id 1 off p):=by
  unfold fL cE;simp only[if_true,Option.getD_none,Option.getD_some];rw[if_pos (by omega)];simp
 refine⟨_,fun call=>vp (v:=.hsl id 1 off L) rfl ?_ <| vp (v:=.int .i64 p) rfl ?_ <| vp (v:=.hsl id 1 off p) rfl ?_ <| vp (v:=.hsl id 1 off p) rfl ?_ dL,?_⟩
 ·simp[aR,aD,ay,f0]
 ·simp[aR,aD,ay,aB,f5]
 ·simp only[aR,List.map_cons,List.map_nil,aD,aB,aA,Nat.reduceEqDiff,if_true,if_false,ay,jo,ζb,e,Option.map_some]
 ·simp[aR,aD,ay,aB]
 ·simp[aB]
theorem Zn:∃F',(∀call,bP E N call none Jn F H=some (F',H))∧get F' 4=get F 0:=
 ⟨_,fun call=>vp (v:=get F 0) rfl (by simp[aR,aD,ay]) <| vp (v:=get F 0) rfl (by simp[aR,aD,ay,aB]) dL,by simp[aB]⟩
theorem Td:∃F',(∀call,bP E N call none r3 F H=some (F',H))∧get F' 4=get F 0:=
 ⟨_,fun call=>vp (v:=get F 0) rfl (by simp[aR,aD,ay]) <| vp (v:=get F 0) rfl (by simp[aR,aD,ay,aB]) dL,by simp[aB]⟩
end
structure Gg (E:Env) (g:FuncId) (cb:List V) (H:aq) (id off L:Nat) (rs:List (List V)) (A:Nat→V) (t:Nat→Bool):Prop where
 row:H[id]? = some (.row 1 rs)
 len:off+L≤rs.length
 small:L≤2147483648
 at_:∀i,i<L→rs[off+i]? = some [A i]
 one:∀i,i<L→(A i).one=true
 keep:E.keep g=false
 cmp:∃n,∀k,n≤k→∀i,i+1<L→∀cur,bE (run E k) g (A (i+1)::A i::cb) (H.set id (.row 1 cur))=some (.bool (t (i+1)))
structure Head (g:FuncId) (cb:List V) (id off L kk m:Nat) (rs:List (List V)) (A:Nat→V) (t:Nat→Bool) (F:Frame) (cur:List (List V)):Prop where
 f0:get F 0=.hsl id 1 off L
 f1:get F 1=.clo g [] cb
 f5:get F 5=.int .i64 ((kept t (kk+m)).length:Nat)
 f6:get F 6=.hsl id 1 (off+kk) (L-kk)
 f7:get F 7=.int .i64 m
 len:cur.length=rs.length
 pre:∀p i,(kept t (kk+m))[p]? = some i→cur[off+p]? = some [A i]
 post:∀i,kk+m≤i+1→i<L→cur[off+i]? = some [A i]
 out:∀j,j<off∨off+L≤j→cur[j]? = rs[j]?
 cell:∀i,i<L→∃j,j<L∧cur[off+i]? = some [A j]
section
variable {E:Env} {N:Nat→FuncId} {g:FuncId} {cb:List V} {H:aq} {id off L kk:Nat} {rs:List (List V)} {A:Nat→V} {t:Nat→Bool}
theorem GK (X:Gg E g cb H id off L rs A t) (hkk:0<kk) (hkL:kk<L) (ht:t kk=true):∀(d m:Nat) (F:Frame) (cur:List (List V)),kk+m+d=L→0<m→Head g cb id off L kk m rs A t F cur →
 ∃F' cur',kr E N XQ F (H.set id (.row 1 cur)) (.exit 2) F' (H.set id (.row 1 cur'))∧Head g cb id off L kk (L-kk) rs A t F' cur':=by
 have hidlt:=(ζe.1 X.row).1;have hrow:∀cur,(H.set id (.row 1 cur))[id]? = some (.row 1 cur):=fun cur=>List.getElem?_set_self hidlt
 have hsm:=X.small;have hlen:=X.len;intro d
 induction d with
 | zero=>
  intro m F cur he hm h;have em:m=L-kk:=by omega
  subst em;obtain⟨F1,e1,e2,e3⟩:=x9 (E:=E) (N:=N) (H:=H.set id (.row 1 cur)) h.f6 h.f7;refine⟨F1,cur,kr.stop (Ex.tS (Ex.seq (Ex.c8 e1) (Ex.rH (by simp[aD,e2]) Ex.exit)) (by simp)) (by simp),?_⟩
  exact⟨by rw[e3 0 (by omega)];exact h.f0,by rw[e3 1 (by omega)];exact h.f1,by rw[e3 5 (by omega)];exact h.f5,by rw[e3 6 (by omega)];exact h.f6,by rw[e3 7 (by omega)];exact h.f7,h.len,h.pre,h.post,h.out,h.cell⟩
 | succ d ih=>
  intro m F cur he hm h;obtain⟨F1,a1,a2,a3⟩:=x9 (E:=E) (N:=N) (H:=H.set id (.row 1 cur)) h.f6 h.f7;have a2':aD N F1 35=.bool true:=by
   show get F1 35=_;rw[a2,decide_eq_true (by omega)]
  obtain⟨m',rfl⟩:∃m',m=m'+1:=⟨m-1,by omega⟩
  obtain⟨n0,hn0⟩:=X.cmp;have c1:cur[off+kk+(m'+1)]? = some [A (kk+m'+1)]:=by
   have:=h.post (kk+m'+1) (by omega) (by omega);rw[←this];congr 1;omega
  have c2:cur[off+kk+m']? = some [A (kk+m')]:=by
   have:=h.post (kk+m') (by omega) (by omega);rw[←this];congr 1;omega
  obtain⟨F2,b1,b2,b3⟩:=(Vi (E:=E) (N:=N) (cb:=cb) (g:=g) (i:=m') (L2:=L-kk) (t:=t (kk+m'+1)) (hrow cur) (by omega) (by omega) c1 c2 X.keep (by rw[a3 1 (by omega)];exact h.f1)).2 (by rw[a3 6 (by omega)];exact h.f6) (by rw[a3 7 (by omega)];exact h.f7)
  have b1':∃n,∀k,n≤k→bP E N (run E k) (some (H.set id (.row 1 cur)).length) CH F1 (H.set id (.row 1 cur))=some (F2,H.set id (.row 1 cur)):=⟨n0,fun k hk=>b1 _ (hn0 k hk (kk+m') (by omega) cur)⟩
  have hf:∀s,s<8→get F2 s=get F s:=fun s hs=>(b3 s hs).trans (a3 s hs)
  have hlenk:(kept t (kk+(m'+1))).length+1≤kk+(m'+1):=wA hkk ht _ (by omega)
  have hks:kept t (kk+(m'+1)+1)=kept t (kk+(m'+1))++if t (kk+m'+1)then []else [kk+m'+1]:=by
   rw[tc];have:(kk+(m'+1)==0)=false:=by simp
   rw[this,Bool.false_or,show kk+(m'+1)=kk+m'+1 by omega]
   cases t (kk+m'+1) <;> rfl
  have e12:kk+(m'+1+1)=kk+(m'+1)+1:=by omega
  cases htt:t (kk+m'+1)with
  | true=>
   rw[htt]at b2 hks;simp only[if_true,List.append_nil]at hks;obtain⟨F3,q1,q2,q3⟩:=(G8 (E:=E) (N:=N) (F:=F2) (H:=H.set id (.row 1 cur)) (p:=m'+1) (by omega)).2.1 (by rw[hf 7 (by omega)];exact h.f7)
   obtain⟨F',cur',i1,i2⟩:=ih (m'+1+1) F3 cur (by omega) (by omega) ⟨by rw[q3 0 (by omega) (by omega),hf 0 (by omega)];exact h.f0,by rw[q3 1 (by omega) (by omega),hf 1 (by omega)];exact h.f1,
    by rw[q3 5 (by omega) (by omega),hf 5 (by omega),e12,hks];exact h.f5,by rw[q3 6 (by omega) (by omega),hf 6 (by omega)];exact h.f6,q2,h.len,by rw[e12,hks];exact h.pre,fun i h1 h2=>h.post i (by omega) h2,h.out,h.cell⟩
   exact⟨F',cur',kr.step (Ex.seq (Ex.seq (Ex.c8 a1) (Ex.mq a2' Ex.skip)) (Ex.seq (Ex.block (Ex.seq (Ex.Hu (by decide) b1') (Ex.rH (by simp[aD,b2]) Ex.skip))) (Ex.c8 q1))) i1,i2⟩
  | false=>
   rw[htt]at b2 hks;simp only[Bool.false_eq_true,if_false]at hks;generalize hK:(kept t (kk+(m'+1))).length=K at *;obtain⟨_,_,hz⟩:=h.cell K (by omega)
   obtain⟨F3,q1,q2⟩:=QW (E:=E) (N:=N) (F:=F2) (off:=off) (L:=L) (p:=K) (m:=m'+1) (L2:=L-kk) (o2:=off+kk) (a:=A (kk+m'+1)) (hrow cur) (by rw[hf 0 (by omega)];exact h.f0) (by rw[hf 5 (by omega),h.f5,hK]) (by rw[hf 6 (by omega)];exact h.f6) (by rw[hf 7 (by omega)];exact h.f7) (by omega) (by omega) c1 hz (X.one _ (by omega))
   rw[List.set_set]at q1;generalize hcur:cur.set (off+K) [A (kk+m'+1)]=cur2 at q1;have hg:∀j,cur2[j]? = if j=off+K then some [A (kk+m'+1)]else cur[j]? := fun j=>by
    rw[←hcur,List.getElem?_set]
    by_cases e:off+K=j
    ·rw[if_pos e,if_pos e.symm,if_pos (by rw[h.len];omega)]
    ·rw[if_neg e,if_neg (Ne.symm e)]
   obtain⟨F4,q3,q4,q5⟩:=(G8 (E:=E) (N:=N) (F:=F3) (H:=H.set id (.row 1 cur2)) (p:=K) (by omega)).1 (by rw[q2 5 (by omega),hf 5 (by omega),h.f5,hK])
   have hf4:∀s,s<8→s≠5→get F4 s=get F s:=fun s h1 h2=>by rw[q5 s h1 h2,q2 s h1,hf s h1]
   obtain⟨F5,q6,q7,q8⟩:=(G8 (E:=E) (N:=N) (F:=F4) (H:=H.set id (.row 1 cur2)) (p:=m'+1) (by omega)).2.1 (by rw[hf4 7 (by omega) (by omega)];exact h.f7)
   obtain⟨F',cur',i1,i2⟩:=ih (m'+1+1) F5 cur2 (by omega) (by omega) ⟨by rw[q8 0 (by omega) (by omega),hf4 0 (by omega) (by omega)];exact h.f0,by rw[q8 1 (by omega) (by omega),hf4 1 (by omega) (by omega)];exact h.f1,
    by rw[q8 5 (by omega) (by omega),q4,e12,hks,ζi,hK];rfl,by rw[q8 6 (by omega) (by omega),hf4 6 (by omega) (by omega)];exact h.f6,q7,by rw[←hcur,List.length_set];exact h.len,
    fun p i hp=>by
     rw[e12,hks]at hp;rw[hg]
     by_cases e:p=K
     ·subst e;rw[←hK,List.getElem?_append_right (Nat.le_refl _),Nat.sub_self]at hp;cases hp;rw[if_pos rfl]
     ·have hpl:p<(kept t (kk+(m'+1))).length:=by
       have:=(ζe.1 hp).1;simp at this;omega
      rw[List.getElem?_append_left hpl]at hp;rw[if_neg (by omega)];exact h.pre p i hp,
    fun i h1 h2=>by rw[hg,if_neg (by omega)];exact h.post i (by omega) h2,fun j hj=>by rw[hg,if_neg (by omega)];exact h.out j hj,
    fun i hi=>by
     rw[hg]
     by_cases e:off+i=off+K
     ·rw[if_pos e];exact⟨_,by omega,rfl⟩
     ·rw[if_neg e];exact h.cell i hi⟩
   exact⟨F',cur',kr.step (Ex.seq (Ex.seq (Ex.c8 a1) (Ex.mq a2' Ex.skip)) (Ex.seq (Ex.block (Ex.seq (Ex.Hu (by decide) b1') (Ex.mq (by simp[aD,b2]) (Ex.seq (Ex.c8 q1) (Ex.c8 q3))))) (Ex.c8 q6))) i1,i2⟩
structure JQ (off L:Nat) (rs:List (List V)) (A:Nat→V) (t:Nat→Bool) (rs':List (List V)):Prop where
 len:rs'.length=rs.length
 pre:∀p i,(kept t L)[p]? = some i→rs'[off+p]? = some [A i]
 all:∀c∈rs',c∈rs∨c=[.aF]
theorem G0 (X:Gg E g cb H id off L rs A t):∀(d k:Nat) (F:Frame),k+d=L→0<k→(∀i,0<i→i<k→t i=false)→get F 0=.hsl id 1 off L→get F 1=.clo g [] cb→get F 5=.int .i64 k →
 (∃F',kr E N Mt F H (.exit 0) F' H∧get F' 0=.hsl id 1 off L∧∀i,0<i→i<L→t i=false) ∨
 (∃F' rs',kr E N Mt F H .ret F' (H.set id (.row 1 rs'))∧get F' 4=.hsl id 1 off (kept t L).length∧JQ off L rs A t rs'):=by
 have hidlt:=(ζe.1 X.row).1;have hself:H.set id (.row 1 rs)=H:=vq X.row;have hsm:=X.small;have hlen:=X.len;intro d
 induction d with
 | zero=>
  intro k F he hk hp f0 f1 f5;have ek:k=L:=by omega
  subst ek;obtain⟨F1,e1,e2,e3⟩:=x5 (E:=E) (N:=N) (H:=H) f0 f5;exact .inl ⟨F1,kr.stop (Ex.tS (Ex.seq (Ex.c8 e1) (Ex.rH (by simp[aD,e2]) Ex.exit)) (by simp)) (by simp),by rw[e3 0 (by omega)];exact f0,hp⟩
 | succ d ih=>
  intro k F he hk hp f0 f1 f5;obtain⟨F1,a1,a2,a3⟩:=x5 (E:=E) (N:=N) (H:=H) f0 f5;have a2':aD N F1 15=.bool true:=by
   show get F1 15=_;rw[a2,decide_eq_true (by omega)]
  obtain⟨k',rfl⟩:∃k',k=k'+1:=⟨k-1,by omega⟩
  obtain⟨n0,hn0⟩:=X.cmp;obtain⟨F2,b1,b2,b3⟩:=(Vi (E:=E) (N:=N) (cb:=cb) (g:=g) (i:=k') (L2:=L) (t:=t (k'+1)) X.row (by omega) (by omega) (X.at_ _ (by omega)) (X.at_ _ (by omega)) X.keep (by rw[a3 1 (by omega)];exact f1)).1 (by rw[a3 0 (by omega)];exact f0) (by rw[a3 5 (by omega)];exact f5)
  have b1':∃n,∀k,n≤k→bP E N (run E k) (some H.length) r6 F1 H=some (F2,H):=⟨n0,fun k hk=>b1 _ (by
   have:=hn0 k hk k' (by omega) rs;rw[hself]at this;exact this)⟩
  have hf:∀s,s<8→get F2 s=get F s:=fun s hs=>(b3 s hs).trans (a3 s hs)
  cases htt:t (k'+1)with
  | false=>
   rw[htt]at b2;obtain⟨F3,q1,q2,q3⟩:=(G8 (E:=E) (N:=N) (F:=F2) (H:=H) (p:=k'+1) (by omega)).2.2 (by rw[hf 5 (by omega)];exact f5)
   have hstep:Ex E N Mt F H .norm F3 H:=Ex.seq (Ex.seq (Ex.c8 a1) (Ex.mq a2' Ex.skip)) (Ex.seq (Ex.block (Ex.seq (Ex.Hu (by decide) b1') (Ex.rH (by simp[aD,b2]) Ex.skip))) (Ex.c8 q1))
   rcases ih (k'+1+1) F3 (by omega) (by omega) (fun i h1 h2=>by
    by_cases e:i=k'+1
    ·subst e;exact htt
    ·exact hp i h1 (by omega)) (by rw[q3 0 (by omega) (by omega),hf 0 (by omega)];exact f0) (by rw[q3 1 (by omega) (by omega),hf 1 (by omega)];exact f1) q2 with⟨F',i1,i2⟩|⟨F',rs',i1,i2⟩
   ·exact .inl ⟨F',kr.step hstep i1,i2⟩
   ·exact .inr ⟨F',rs',kr.step hstep i1,i2⟩
  | true=>
   rw[htt]at b2;refine .inr ?_;obtain⟨F3,q1,q2,q3⟩:=x7 (E:=E) (N:=N) (F:=F2) (H:=H) (k:=k'+1) (by rw[hf 0 (by omega)];exact f0) (by rw[hf 5 (by omega)];exact f5) (by omega)
   have hrange:kept t (k'+1)=List.range (k'+1):=y6 _ hp;have hk1:kept t (k'+1+1)=List.range (k'+1):=by
    rw[tc,hrange,htt];simp
   have q4:∀call,bP E N call none r8 F3 H=some (set F3 7 (.int .i64 1),H):=fun call=>vp (v:=.int .i64 1) rfl (by simp[aR,aD,ay]) dL
   have h0:Head g cb id off L (k'+1) 1 rs A t (set F3 7 (.int .i64 1)) rs:=⟨by rw[gi _ _ (by omega),q3 0 (by omega) (by omega),hf 0 (by omega)];exact f0,by rw[gi _ _ (by omega),q3 1 (by omega) (by omega),hf 1 (by omega)];exact f1,
    by rw[gi _ _ (by omega),q3 5 (by omega) (by omega),hf 5 (by omega),hk1,List.length_range];exact f5,by rw[gi _ _ (by omega)];exact q2,by rw[rF];rfl,rfl,
    fun p i hpi=>by
     rw[hk1]at hpi;obtain⟨h1,h2⟩:=ζe.1 hpi;simp at h1 h2;subst h2;exact X.at_ p (by omega),fun i _ h2=>X.at_ i h2,fun _ _=>rfl,fun i hi=>⟨i,hi,X.at_ i hi⟩⟩
   obtain⟨F5,cur,l1,l2⟩:=GK (N:=N) X (by omega) (by omega) htt (L-(k'+1)-1) 1 _ rs (by omega) (by omega) h0
   rw[hself]at l1;have eL:k'+1+(L-(k'+1))=L:=by omega
   have hlessL:=wA (t:=t) (k:=k'+1) (by omega) htt L (by omega)
   have l5:=l2.f5;have lpre:=l2.pre;rw[eL]at l5 lpre;generalize hK:(kept t L).length=K at *;have hrow:(H.set id (.row 1 cur))[id]? = some (.row 1 cur):=List.getElem?_set_self hidlt;obtain⟨F6,w1,w2⟩:=Zd (E:=E) (N:=N) (p:=K) hrow l2.f0 l5 (by omega) (by rw[l2.len];omega)
   rw[List.set_set]at w1;obtain⟨F7,w3,w4⟩:=Mm (E:=E) (N:=N) (F:=F6) (H:=H.set id (.row 1 (cur.take (off+K)++List.replicate (L-K) [.aF]++cur.drop (off+L)))) (p:=K) (by rw[w2 0 (by omega)];exact l2.f0) (by rw[w2 5 (by omega)];exact l5) (by omega)
   have hcl:=l2.len;refine⟨F7,cur.take (off+K)++List.replicate (L-K) [.aF]++cur.drop (off+L),kr.stop (Ex.seq (Ex.seq (Ex.c8 a1) (Ex.mq a2' Ex.skip)) (Ex.tS (Ex.IM (Ex.seq (Ex.Hu (by decide) b1') (Ex.mq (by simp[aD,b2]) (Ex.seq (Ex.c8 q1) (Ex.seq (Ex.seq (Ex.c8 q4) (Ex.t_ (Ex.loop l1))) (Ex.seq (Ex.c8 w1) (Ex.seq (Ex.c8 w3) Ex.ret))))))) (by simp))) (by simp),w4,?_,fun p i hpi=>?_,fun c hc=>?_⟩
   ·simp;omega
   ·have hpl:p<K:=by rw[←hK];exact(ζe.1 hpi).1
    rw[List.append_assoc,List.getElem?_append_left (by simp;omega),List.getElem?_take,if_pos (by omega)]
    exact lpre p i hpi
   ·have hin:∀j x,cur[j]? = some x→x∈rs:=fun j x hj=>by
     by_cases ho:j<off∨off+L≤j
     ·rw[l2.out j ho]at hj;exact List.mem_of_getElem? hj
     ·obtain⟨i,rfl⟩:∃i,j=off+i:=⟨j-off,by omega⟩
      obtain⟨q,hq,hc⟩:=l2.cell i (by omega)
      rw[hc]at hj;cases hj;exact List.mem_of_getElem? (X.at_ q hq)
    rcases List.mem_append.1 hc with hc|hc
    ·rcases List.mem_append.1 hc with hc|hc
     ·obtain⟨j,hj⟩:=List.getElem?_of_mem (List.mem_of_mem_take hc);exact .inl (hin j c hj)
     ·exact .inr (List.eq_of_mem_replicate hc)
    ·obtain⟨j,hj⟩:=List.getElem?_of_mem (List.mem_of_mem_drop hc);exact .inl (hin j c hj)
end
end cmpX
end Go.VE
namespace Go.VE
variable [aW]
namespace cmpX
section
variable {E:Env} {N:Nat→FuncId} {g:FuncId} {cb:List V} {H:aq} {id off L:Nat} {rs:List (List V)} {A:Nat→V} {t:Nat→Bool}
theorem whole (X:Gg E g cb H id off L rs A t):∃F' rs',Ex E N code [.hsl id 1 off L,.clo g [] cb] H .ret F' (H.set id (.row 1 rs'))∧get F' 4=.hsl id 1 off (kept t L).length∧JQ off L rs A t rs':=by
 have hself:H.set id (.row 1 rs)=H:=vq X.row;have same:(∀i,0<i→i<L→t i=false)→(kept t L).length=L∧JQ off L rs A t rs:=fun h=>by
  have hk:=y6 L h;rw[hk,List.length_range];exact⟨rfl,rfl,fun p i hp=>by
   rw[hk]at hp;obtain⟨h1,h2⟩:=ζe.1 hp;simp at h1 h2;subst h2;exact X.at_ p h1,fun c hc=>.inl hc⟩
 have g1:∀call,bP E N call none r1 [.hsl id 1 off L,.clo g [] cb] H=some (set [.hsl id 1 off L,.clo g [] cb] 4 .aF,H):=fun call=>vp (v:=.aF) rfl (by simp[aR,aD,ay]) dL
 have k0:get (set [V.hsl id 1 off L,.clo g [] cb] 4 .aF) 0=.hsl id 1 off L:=rfl;have k1:get (set [V.hsl id 1 off L,.clo g [] cb] 4 .aF) 1=.clo g [] cb:=rfl;generalize set [V.hsl id 1 off L,.clo g [] cb] 4 .aF=F0 at *;obtain⟨F1,a1,a2,a3⟩:=x2 (E:=E) (N:=N) (H:=H) k0
 by_cases hL:L<2
 ·obtain⟨F2,b1,b2⟩:=Td (E:=E) (N:=N) (F:=F1) (H:=H);obtain⟨e1,e2⟩:=same fun i h1 h2=>by omega
  refine⟨F2,rs,?_,by rw[e1,b2,a3 0 (by omega)];exact k0,e2⟩
  rw[hself];exact Ex.seq (Ex.c8 g1) (Ex.tS (Ex.seq (Ex.c8 a1) (Ex.mq (by show get F1 10=_;rw[a2,decide_eq_true (by omega)]) (Ex.seq (Ex.c8 b1) Ex.ret))) (by simp))
 ·have g4:∀call,bP E N call none r4 F1 H=some (set F1 5 (.int .i64 1),H):=fun call=>vp (v:=.int .i64 1) rfl (by simp[aR,aD,ay]) dL
  have hc:Ex E N (.seq (.ops r2) (.cond (.s 10) (.seq (.ops r3) (.ret)) (.skip))) F0 H .norm F1 H:=Ex.seq (Ex.c8 a1) (Ex.rH (by show get F1 10=_;rw[a2,decide_eq_false (by omega)]) Ex.skip)
  rcases G0 (N:=N) X (L-1) 1 (set F1 5 (.int .i64 1)) (by omega) (by omega) (fun i h1 h2=>by omega) (by rw[gi _ _ (by omega),a3 0 (by omega)];exact k0) (by rw[gi _ _ (by omega),a3 1 (by omega)];exact k1) (by rw[rF];rfl)with⟨F',l1,l2,l3⟩|⟨F',rs',l1,l2,l3⟩
  ·obtain⟨F2,b1,b2⟩:=Zn (E:=E) (N:=N) (F:=F') (H:=H);obtain⟨e1,e2⟩:=same l3;refine⟨F2,rs,?_,by rw[e1,b2];exact l2,e2⟩
   rw[hself];exact Ex.seq (Ex.c8 g1) (Ex.seq hc (Ex.seq (Ex.seq (Ex.c8 g4) (Ex.t_ (Ex.loop l1))) (Ex.seq (Ex.c8 b1) Ex.ret)))
  ·exact⟨F',rs',Ex.seq (Ex.c8 g1) (Ex.seq hc (Ex.tS (Ex.seq (Ex.c8 g4) (Ex.IM (Ex.loop l1))) (by simp))),l2,l3⟩
theorem empty {w:V} (c:V) (hw:w=.aF∨w=.cC):∃F',Ex E N code [w,c] H .ret F' H∧get F' 4=w:=by
 have g1:∀call,bP E N call none r1 [w,c] H=some (set [w,c] 4 .aF,H):=fun call=>vp (v:=.aF) rfl (by simp[aR,aD,ay]) dL
 have k0:get (set [w,c] 4 .aF) 0=w:=rfl;generalize set [w,c] 4 .aF=F0 at *;have hl:nh w=some (.int .i64 0):=by rcases hw with rfl|rfl <;> rfl
 have a1:∃F1,(∀call,bP E N call none r2 F0 H=some (F1,H))∧get F1 10=.bool true∧get F1 0=w:=by
  refine⟨_,fun call=>vp (v:=w) rfl ?_ <| vp (v:=.int .i64 0) rfl ?_ <| vp (v:=.bool true) rfl ?_ dL,?_,?_⟩
  ·simp[aR,aD,ay,k0]
  ·simp[aR,aD,ay,aB,hl]
  ·simp[aR,aD,ay,aB,gL,mS]
  ·simp[aB]
  ·simp[aB,k0]
 obtain⟨F1,a1,a2,a3⟩:=a1;obtain⟨F2,b1,b2⟩:=Td (E:=E) (N:=N) (F:=F1) (H:=H);exact⟨F2,Ex.seq (Ex.c8 g1) (Ex.tS (Ex.seq (Ex.c8 a1) (Ex.mq a2 (Ex.seq (Ex.c8 b1) Ex.ret))) (by simp)),by rw[b2,a3]⟩
end
end cmpX
end Go.VE
namespace Go.VE
variable [aW]
def Sl.re {α:Type} (s:Sl α) (l:List α):Sl α:=match s with|.nil=>.nil|.emp=>.emp|.row _=>.row l|.part _=>.part l
def Sl.Hx {α:Type} (s:Sl α) (l:List α):Sl α:=match s with|.nil=>.nil|.emp=>.emp|.row _|.part _=>.part l
noncomputable def Rl {α:Type} (s:Sl α) (p:α→α→Option Int):Option (Sl α):=
 match s.l with
 | []=>some s
 | x::l=>if l.length<2147483648 then
  let t:_root_.Fin (l.length+1)→_root_.Fin (l.length+1)→Option Int:=fun i j=>p (x::l)[i.1] (x::l)[j.1]
  if zx t then some (s.re ((zc l.length (qK t)).toList.map fun i=>(x::l)[i.1]))else none
  else none
def zf {α:Type} (l:List α) (p:α→α→Option Bool) (i:Nat):Option Bool:=match l[i]?,l[i-1]? with|some a,some b=>p a b|_,_=>none
def UL {α:Type} (s:Sl α) (p:α→α→Option Bool):Option (Sl α):=
 if s.l.length≤2147483648∧((List.range s.l.length).all fun i=>i==0||(zf s.l p i).isSome)=true then
  some (s.Hx ((kept (fun i=>(zf s.l p i).getD false) s.l.length).filterMap (s.l[·]?)))
 else none
section
variable {S:Sys} {T:pq} {β γ δ α:Type} {Q:Out×St→Option β} {e:γ→Option β} {cf:Cf}
theorem lG.US (hT:ta S T) (hI:∀f a b xs,S.items f a b=some xs→fq S f a b xs) {fn:FuncId} {A:δ→List V} {E:α→List V} {p:δ→Option α} {sc:Bool} (F:lG S (dP S T) fn A E p sc) {z:δ} {r:α} (h:p z=some r) (hg:V.bF (A z)=true) :
 ∃n,bE (run S.E n) fn (A z) []=some (result (E r)):=by
 have h1:=F.h z (E r) (by rw[h];rfl)
 unfold jR at h1;obtain⟨⟨rs,m'⟩,h2,h3⟩:=ζg.1 h1;obtain⟨n,y,H2,e1,e2,e3⟩:=Db (tT hT hI) hg h2 h3 (F.r r);refine⟨n,?_⟩;have hb:borrows 8 [] (A z)=some (A z):=by
  have hc:=V.kn hg;generalize A z=l at hc;unfold borrows
  induction l with
  | nil=>rfl
  | cons x l ih=>
   simp only[V.iH,ζh]at hc;simp only[iP,c7 8 [] hc.1,ih hc.2]
 unfold bE;rw[hb];simp only[e1 n (Nat.le_refl _),e2,V.iZ e3,if_true]
section
variable [aI α] [Lv 8 α]
end
end
end Go.VE
namespace Go.VE
variable [aW]
section
variable {H H':aq} {w:V} {o:Nat} {ids:List Nat} {rows:List (List V)}
theorem jr.cell (n:jr H w o ids rows) {p j:Nat} {r:List V} {u:V} (hr:rows[p]? = some r) (hu:r[j]? = some u) :
 ∃id,ids[p]? = some id∧iV 1 w (p:Int)=some (.hptr o p 0)∧dx H (.load 1 false) [.hptr o p 0]=some (.hsl id 1 0 r.length)∧iV 1 (.hsl id 1 0 r.length) (j:Int)=some (.hptr id j 0)∧dx H (.load 1 false) [.hptr id j 0]=some u:=by
 have hp:=(ζe.1 hr).1;have hj:=(ζe.1 hu).1;have hne:rows≠[]:=by intro e;subst e;simp at hr
 have hpi:p<ids.length:=by rw[n.len];exact hp
 have hid:=ζd hpi;refine⟨ids[p],hid,?_,?_,?_,?_⟩
 ·have:=n.v;rw[if_neg hne]at this;subst this;simp[iV,hp]
 ·have h1:=n.ob hne;have h2:=yF hid hr;simp[dx,cG,h1,Ob.rows,h2,cut];rfl
 ·simp[iV,hj]
 ·have h1:=n.r p _ r hid hr;simp[dx,cG,h1,Ob.rows,f_,hu,cut];rfl
theorem I8 {ids:List Nat} (h:ids.Nodup) {i j:Nat} {a:Nat} (hi:ids[i]? = some a) (hj:ids[j]? = some a):i=j:=by
 have h1:=(ζe.1 hi);have h2:=(ζe.1 hj);obtain⟨h1,e1⟩:=h1;obtain⟨h2,e2⟩:=h2;exact(List.getElem_inj h).1 (e1.trans e2.symm)
theorem jr.set (n:jr H w o ids rows) {p j id:Nat} {r:List V} {u:V} (hr:rows[p]? = some r) (hj:j<r.length) (hid:ids[p]? = some id) (hu:V.one u=true) (hc:u.cells=[u]) :
 ∃H',dS H (.store 1) [.hptr id j 0,u]=some (.undef,H')∧jr H' w o ids (rows.set p (r.set j u))∧H'.length=H.length∧(∀i,i≠id→H'[i]? = H[i]?):=by
 have hp:=(ζe.1 hr).1;have hne:rows≠[]:=by intro e;subst e;simp at hr
 have h1:=n.r p id r hid hr;have hl:id<H.length:=(ζe.1 h1).1;have hset:(f_ r).set j [u]=f_ (r.set j u):=by simp[f_,List.map_set]
 have hoid:o≠id:=fun e=>n.ne hne (e▸List.mem_of_getElem? hid)
 refine⟨H.set id (.row 1 (f_ (r.set j u))),?_,⟨?_,fun _=>?_,by simp[n.len],fun i id' r' hi hr'=>?_,n.nd,fun _=>n.ne hne⟩,by simp,fun i hi=>List.getElem?_set_ne (Ne.symm hi)⟩
 ·have h2:(f_ r)[j]? = some [r[j]]:=by simp[f_,hj]
  simp only[dS,h1,h2,hc,List.length_singleton,Nat.zero_add,Nat.le_refl,List.all_cons,hu,List.all_nil,Bool.and_self,and_self,if_true,List.take_zero,List.nil_append];rw[←hset];simp
 ·rw[n.v];have:rows.set p (r.set j u)≠[]:=by intro e;apply hne;simpa using e
  rw[if_neg hne,if_neg this,List.length_set]
 ·rw[List.getElem?_set_ne (Ne.symm hoid),CV hr (by simp)];exact n.ob hne
 ·by_cases e:i=p
  ·subst e;rw[hid]at hi;cases hi;rw[List.getElem?_set_self hp]at hr';cases hr';rw[List.getElem?_set_self hl]
  ·rw[List.getElem?_set_ne (Ne.symm e)]at hr';have hne':id≠id':=fun e'=>e (I8 n.nd (e'▸hi) hid)
   rw[List.getElem?_set_ne hne'];exact n.r i id' r' hi hr'
end
structure g_ (H:aq) (w:V) (l:List (List V)) (id:Nat):Prop where
 c:∀c∈l,c.length=2∧c.all V.one=true
 v:(w=.aF∧l=[])∨∃off xs,w=.hsl id 2 off l.length∧H[id]? = some (.row 2 xs)∧off+l.length≤xs.length∧(xs.drop off).take l.length=l
section
variable {H H':aq} {w:V} {l:List (List V)} {id:Nat}
theorem g_.heap (n:g_ H w l id) (h:∀off n,w=.hsl id 2 off n→H'[id]? = H[id]?):g_ H' w l id:=
 ⟨n.c,n.v.imp (fun h=>h) fun⟨off,xs,e1,e2,e3,e4⟩=>⟨off,xs,e1,by rw[h _ _ e1];exact e2,e3,e4⟩⟩
theorem g_.lt (n:g_ H w l id) {off m:Nat} (h:w=.hsl id 2 off m):id<H.length:=by
 rcases n.v with⟨e,_⟩|⟨_,xs,_,e2,_⟩
 ·rw[e]at h;cases h
 ·exact(ζe.1 e2).1
theorem g_.more (n:g_ H w l id) (X:aq):g_ (H++X) w l id:=n.heap fun _ _ e=>List.getElem?_append_left (n.lt e)
theorem g_.len (n:g_ H w l id):nh w=some (.int .i64 l.length):=by
 rcases n.v with⟨rfl,rfl⟩|⟨off,xs,rfl,_⟩ <;> rfl
theorem g_.get (n:g_ H w l id) {i:Nat} {c:List V} (hc:l[i]? = some c):∃p,iV 2 w (i:Int)=some p∧dx H (.load 2 true) [p]=some (.agg c):=by
 have hi:=(ζe.1 hc).1;have hcl:=(n.c c (List.mem_of_getElem? hc)).1;rcases n.v with⟨_,rfl⟩|⟨off,xs,rfl,e2,e3,e4⟩
 ·simp at hc
 ·refine⟨.hptr id (off+i) 0,by simp[iV,hi],?_⟩
  have:xs[off+i]? = some c:=by
   rw[←e4,List.getElem?_take,if_pos hi,List.getElem?_drop]at hc;exact hc
  simp[dx,cG,e2,Ob.rows,this,cut,←hcl];rfl
theorem g_.tail {c:List V} (n:g_ H w (c::l) id):∃w',fL 2 w (some 1) none=some w'∧g_ H w' l id∧∃off m off',w=.hsl id 2 off m∧w'=.hsl id 2 off' l.length:=by
 rcases n.v with⟨_,e⟩|⟨off,xs,rfl,e2,e3,e4⟩
 ·cases e
 ·refine⟨.hsl id 2 (off+1) l.length,?_,⟨fun c hc=>n.c c (List.mem_cons_of_mem _ hc),.inr ⟨off+1,xs,rfl,e2,by simp at e3;omega,?_⟩⟩,⟨_,_,_,rfl,rfl⟩⟩
  ·simp[fL,cE];omega
  ·have hd:(xs.drop off).drop 1=xs.drop (off+1):=by rw[List.drop_drop]
   rw[←hd];have:=congrArg (List.drop 1) e4;rw[List.drop_take]at this;simpa using this
theorem g_.push (n:g_ H w l id) {c:List V} (hc:c.length=2∧c.all V.one=true) (hl:l.length+1≤2147483648) :
 ∃H',dS (H++[.row 2 [c]]) (.append 2) [w,.hsl H.length 2 0 1]=some (.hsl (H.length+1) 2 0 (l.length+1),H')∧g_ H' (.hsl (H.length+1) 2 0 (l.length+1)) (l++[c]) (H.length+1)∧H'.length=H.length+2∧(∀i,i<H.length→(∀off m,w=.hsl id 2 off m→i≠id)→H'[i]? = H[i]?):=by
 have e2:dg (H++[.row 2 [c]]) 2 (.hsl H.length 2 0 1)=some [c]:=by simp[dg,Ob.rows]
 have hcs:∀c'∈l++[c],c'.length=2∧c'.all V.one=true:=fun c' h=>by
  rcases List.mem_append.1 h with h|h
  ·exact n.c c' h
  ·simp at h;subst h;exact hc
 rcases n.v with⟨rfl,rfl⟩|⟨off,xs,rfl,g2,g3,g4⟩
 ·have e1:dg (H++[.row 2 [c]]) 2 .aF=some []:=rfl;refine⟨H++[.row 2 [c]]++[.row 2 [c]],?_,⟨hcs,.inr ⟨0,[c],rfl,by simp,by simp,rfl⟩⟩,by simp,fun i hi _=>by rw[List.append_assoc,List.getElem?_append_left hi]⟩
  simp only[dS,e1,e2,iq,List.length_nil,List.length_singleton,Option.map_some];simp
 ·have hid:=(ζe.1 g2).1;have e1:dg (H++[.row 2 [c]]) 2 (.hsl id 2 off l.length)=some l:=by
   simp only[dg,if_true,List.getElem?_append_left hid,g2,ζb,Ob.rows,g3,g4]
  have eg:iq (H++[.row 2 [c]]) (.hsl id 2 off l.length)=some (List.set (H++[Ob.row 2 [c]]) id Ob.dead):=by
   simp only[iq,List.getElem?_append_left hid,g2]
  refine⟨List.set (H++[Ob.row 2 [c]]) id Ob.dead++[Ob.row 2 (l++[c])],?_,⟨hcs,.inr ⟨0,l++[c],by simp,by simp,by simp,List.take_of_length_le (by simp)⟩⟩,by simp,fun i hi h=>?_⟩
  ·simp only[dS,e1,e2,eg,List.length_singleton,hl,if_true,Option.map_some,ζi]
  ·rw[List.getElem?_append_left (by simp;omega),List.getElem?_set_ne (Ne.symm (h _ _ rfl)),List.getElem?_append_left hi]
end
noncomputable def GL (rs:List RV):Out×St→Option aP
 | (.exit _,_)=>none
 | (_,st)=>(mR st rs).bind fun l=>match l with
  | [.own d]=>an st.m d
  | _=>none
theorem Zr {S:Sys} {c:bD} {rs:List RV} {rc:RC} {st:St} {ob:aP} (h:jX S c (GL rs) rc [] st=some ob):∃o st' d,bn S c rc st=some (o,st')∧(∀id,o≠.exit id)∧mR st' rs=some [.own d]∧an st'.m d=some ob:=by
 rw[rU]at h;obtain⟨⟨o,st'⟩,h1,h2⟩:=ζg.1 h;have ho:∀id,o≠.exit id:=by rintro id rfl;simp[GL]at h2
 have h3:(mR st' rs).bind (fun l=>match l with|[.own d]=>an st'.m d|_=>none)=some ob:=by
  cases o with
  | exit id=>exact absurd rfl (ho id)
  | norm=>exact h2
  | ret=>exact h2
 obtain⟨l,h4,h5⟩:=ζg.1 h3;split at h5
 ·exact⟨o,st',_,h1,ho,h4,h5⟩
 ·cases h5
theorem SF {S:Sys} {T:pq} (hT:ta S T) (hI:∀f a b xs,S.items f a b=some xs→fq S f a b xs) {f:FuncId} {rf:RF} (hf:T f=some rf) {av:List V} (hg:V.bF av=true) (hn:av.length≤rf.na) {k:Fl} {es:Nat} {xs:List (List V)}
 (hx:∀x∈xs,x.all V.scalar=true) (hk:k=.row∨k=.nil∧xs=[]) (h:jX S (dP S T) (GL rf.rs) rf.body [] (start (av.map .v) [])=some (.sl k es xs)) :
 ∃n y H',run S.E n (.fn f) av []=some (y,H')∧((k=.nil∧y=.aF)∨(∃id,y=.hsl id es 0 xs.length∧H'[id]? = some (.row es xs))):=by
 obtain⟨o,st',d,h1,h2,h3,h4⟩:=Zr h;have hc:dP S T f (av.map .v) []=some ([.own d],st'.m):=by
  rw[CQ hf];unfold nD;rw[if_pos (by simpa using hn),h1]
  cases o with
  | exit id=>exact absurd rfl (h2 id)
  | norm=>simp only[h3,Option.map_some]
  | ret=>simp only[h3,Option.map_some]
 obtain⟨r0,r1⟩:=s_ hg;obtain⟨n,y,H2,ν',Z',st2,F',ys,g1,rfl,g3,g4,g5,_⟩:=tT hT hI f _ _ _ _ hc _ _ av [] (.inr rfl) r0 r1;obtain⟨z,zs,rfl,e1,e2⟩:=g4.inv;have:=e2.b7;subst this;refine⟨n,_,H2,g1,?_⟩
 cases e1 with
 | own d y hy=>
  obtain⟨k',es',xs',e,hyv⟩:=hy _ h4;cases e;have hob:=g5.obj d _ (by rw[g3];exact h4)
  rcases hk with rfl|⟨rfl,rfl⟩
  ·right;simp only[cO,bC,if_true]at hob;obtain⟨ys,q1,q2,q3,q4,q5⟩:=hob;obtain⟨q5,q6⟩:=q5 trivial;rw[q5,List.drop_zero,←q6,List.take_of_length_le (Nat.le_refl _)]at q3;have:xs=ys:=by
    refine List.ext_getElem q3.1 fun i p q=>?_
    have hi:=q3.2 i _ _ (ζd p) (ζd q);refine List.ext_getElem hi.1 fun j p' q'=>?_
    have hj:=hi.2 j _ _ (ζd p') (ζd q');exact((hj.scalar).1 (List.all_eq_true.1 (hx _ (List.getElem_mem p)) _ (List.getElem_mem p'))).symm
   subst this;refine⟨(ν' d).1,?_,q1⟩;show result [_]=_;rw[hyv];simp[result,pF,q5]
  ·left;exact⟨rfl,by show result [_]=_;rw[hyv];rfl⟩
theorem C0 {E:Env} {f:FuncId} {av:List V} {l:List (List V)} {y:V} {H1:aq} (hk:E.own f=true) (hg:V.bF av=true) (hl:∀c∈l,c.length=2∧c.all V.one=true∧c.all V.scalar=true)
 (hr:∃n,∀k,n≤k→run E k (.fn f) av []=some (y,H1)) (hy:(l=[]∧y=.aF)∨(∃id,y=.hsl id 2 0 l.length∧H1[id]? = some (.row 2 l))) (H:aq) :
 ∃w X id,(∃n,∀k,n≤k→dX E (run E k) f av H=some (w,H++X))∧g_ (H++X) w l id∧(∀off m,w=.hsl id 2 off m→id=H.length):=by
 obtain⟨n,hr⟩:=hr;have hb:∀{l:List V},V.bF l=true→borrows 8 H l=some l:=by
  intro l;unfold borrows
  induction l with
  | nil=>intro _;rfl
  | cons a l ih=>
   intro h;have h1:V.good a=true∧V.bF l=true:=by simpa [V.bF]using h
   simp only[iP,c7 8 H (V.iZ h1.1),ih h1.2]
 rcases hy with⟨rfl,rfl⟩|⟨id,rfl,hid⟩
 ·refine⟨.aF,[],0,⟨n,fun k hk'=>?_⟩,⟨fun c h=>by simp at h,.inl ⟨rfl,rfl⟩⟩,fun off m h=>by cases h⟩
  simp only[dX,hk,if_true,jB,hb hg,hr k hk',V.scalar,List.append_nil]
 ·refine⟨.hsl H.length 2 0 l.length,[.row 2 l],H.length,⟨n,fun k hk'=>?_⟩,⟨fun c h=>⟨(hl c h).1,(hl c h).2.1⟩,.inr ⟨0,l,rfl,by simp,by simp,by simp⟩⟩,fun off m h=>rfl⟩
  have hs:(l.all fun x=>x.all V.scalar)=true:=List.all_eq_true.2 fun c h=>(hl c h).2.2
  simp only[dX,hk,if_true,jB,hb hg,hr k hk',V.scalar,Bool.false_eq_true,if_false,oM,hid,hs,and_self,Option.map_some]
end Go.VE
namespace Go.VE
variable [aW]
def Sl.whole {α:Type} (s:Sl α):Option (Sl α):=match s with|.part _=>none|s=>some s
structure ZM (S:Sys) (c:bD) {α δ:Type} [aI δ] (fn:FuncId) (A:α→List V) (p:α→Option (Sl δ)):Prop where
 k:S.E.keep fn=true
 o:S.E.own fn=true
 h:∀z s,p z=some s→∃e m',c fn ((A z).map .v) []=some ([.own e],m')∧an m' e=some (cN s)
 l:∀z,V.cg 8 (A z)=true
 sc:∀x:δ,(cells x).all V.scalar=true
section
variable {S:Sys} {c:bD} {β γ δ α:Type} [aI δ] {Q:Out×St→Option β} {e:γ→Option β} {cf:Cf}
end
end Go.VE
namespace Go.VE
variable [aW]
structure GD where
 m:Nat
 pre:List (Nat×List Gh)
 nd:List (Nat×List Gh×List Gh)
structure GI where
 m:Nat
 i:Nat
 j:Nat
def WS {α:Type} (l:List (Nat×List α)) (i:Nat):List α:=match l with
 | []=>[]
 | (k,x)::r=>bif Nat.beq k i then x else WS r i
def wI (l:List (Nat×List Gh×List Gh)) (i:Nat):List Gh×List Gh:=match l with
 | []=>([],[])
 | (k,x)::r=>bif Nat.beq k i then x else wI r i
def FK (m:Nat):List Nat→List Nat
 | []=>[]
 | x::l=>bif Nat.beq (m % 2) 1 then x::FK (m / 2) l else FK (m / 2) l
def J8:List Arg→List Nat
 | []=>[]
 | .s n::r=>n::J8 r
 | _::r=>J8 r
def WM (o:RO):List Nat:=(match o.dst with|some d=>[d]|none=>[])++(match o.gd with|some g=>[g.1]|none=>[])++J8 o.az
def YO (G:GD) (s:GI) (o:RO):RO:={ o with dead:=FK (bif Nat.beq (s.m % 16) 15 then s.m / 16 % 65536 else s.m % 16) (WM o),pre:=WS G.pre s.i }
def GI.op (s:GI):GI:=⟨bif Nat.beq (s.m % 16) 15 then s.m / 1048576 else s.m / 16,s.i+1,s.j⟩
def vP (G:GD):List RO→GI→List RO×GI
 | [],s=>([],s)
 | o::r,s=>(YO G s o::(vP G r s.op).1,(vP G r s.op).2)
def wz:List Gh→RC→RC
 | [],c=>c
 | g::l,c=>.gh g (wz l c)
def Ih:List Gh→RC→RC
 | [],c=>c
 | g::l,c=>Ih l (.hg c g)
def GI.nd (s:GI):GI:=⟨s.m,s.i,s.j+1⟩
def gm (G:GD):RC→GI→RC×GI
 | .seq a b,s=>(wz (wI G.nd s.j).1 (.seq (gm G a s.nd).1 (gm G b (gm G a s.nd).2).1),(gm G b (gm G a s.nd).2).2)
 | .cond x a b,s=>(wz (wI G.nd s.j).1 (.cond x (gm G a s.nd).1 (gm G b (gm G a s.nd).2).1),(gm G b (gm G a s.nd).2).2)
 | .block id a,s=>(wz (wI G.nd s.j).1 (.block id (gm G a s.nd).1),(gm G a s.nd).2)
 | .loop a,s=>(wz (wI G.nd s.j).1 (.loop (Ih (wI G.nd s.j).2 (gm G a s.nd).1)),(gm G a s.nd).2)
 | .each g ps a b,s=>(wz (wI G.nd s.j).1 (.each g ps (gm G a s.nd).1 (Ih (wI G.nd s.j).2 (gm G b (gm G a s.nd).2).1)),(gm G b (gm G a s.nd).2).2)
 | .ops l,s=>(wz (wI G.nd s.j).1 (.ops (vP G l s.nd).1),(vP G l s.nd).2)
 | .lM l,s=>(wz (wI G.nd s.j).1 (.lM (vP G l s.nd).1),(vP G l s.nd).2)
 | .gh g c,s=>(.gh g c,s)
 | .hg c g,s=>(.hg c g,s)
 | c,s=>(wz (wI G.nd s.j).1 c,s.nd)
theorem iC (c:RC):∀l,erase (wz l c)=erase c
 | []=>rfl
 | g::l=>by simp only[wz,erase,iC c l]
theorem wW:∀l (c:RC),erase (Ih l c)=erase c
 | [],c=>rfl
 | g::l,c=>by simp only[Ih,wW l,erase]
theorem uN (G:GD):∀(l:List RO) s,((vP G l s).1).map RO.strip=l.map RO.strip
 | [],s=>rfl
 | o::r,s=>by simp only[vP,List.map_cons,uN G r];rfl
theorem iW (G:GD):∀(c:RC) s,erase (gm G c s).1=erase c
 | .seq a b,s=>by simp only[gm,iC,erase,iW G a,iW G b]
 | .cond x a b,s=>by simp only[gm,iC,erase,iW G a,iW G b]
 | .block id a,s=>by simp only[gm,iC,erase,iW G a]
 | .loop a,s=>by simp only[gm,iC,erase,wW,iW G a]
 | .each g ps a b,s=>by simp only[gm,iC,erase,wW,iW G a,iW G b]
 | .ops l,s=>by simp only[gm,iC,erase,uN]
 | .lM l,s=>by simp only[gm,iC,erase,uN]
 | .gh g c,s=>rfl
 | .hg c g,s=>rfl
 | .skip,s=>by simp only[gm,iC]
 | .ret,s=>by simp only[gm,iC]
 | .exit _,s=>by simp only[gm,iC]
theorem D4 {X:CX} {dr:Bool} {ops:List Oper} {i:Nat} {o:Oper} {r:RO} (h:jJ X dr ops i o=some r):r.strip=r:=by
 unfold jJ at h;split at h
 ·split at h
  ·split at h
   ·obtain⟨az,_,rfl⟩:=ζf.1 h;rfl
   ·cases h
  ·cases h
 ·cases h
theorem tQ {X:CX} {dr:Bool} {ops:List Oper}:∀{l:List Oper} {i:Nat} {r:List RO},iO X dr ops i l=some r→r.map RO.strip=r
 | [],i,r,h=>by cases h;rfl
 | o::l,i,r,h=>by
  simp only[iO]at h;split at h
  ·rename_i a b ha hb;cases h;simp only[List.map_cons,D4 ha,tQ hb]
  ·cases h
theorem Ec {X:CX}:∀{c:Code} {ro:Bool} {r:RC},aM X ro c=some r→erase r=r:=by
 intro c
 induction c with
 | region _ ops dr=>
  intro ro r h;simp only[aM]at h;split at h
  ·split at h
   ·obtain⟨l,h1,rfl⟩:=ζf.1 h;simp only[erase,tQ h1]
   ·cases h
  ·obtain⟨l,h1,rfl⟩:=ζf.1 h;simp only[erase,tQ h1]
 | seq a b iha ihb=>
  intro ro r h;simp only[aM]at h;split at h
  ·rename_i h1 h2;cases h;simp only[erase,iha h1,ihb h2]
  ·cases h
 | cond c a b iha ihb=>
  intro ro r h;simp only[aM]at h;split at h
  ·rename_i h1 h2;cases h;simp only[erase,iha h1,ihb h2]
  ·cases h
 | block id a iha=>
  intro ro r h;simp only[aM]at h;obtain⟨l,h1,rfl⟩:=ζf.1 h;simp only[erase,iha h1]
 | loop a iha=>
  intro ro r h;simp only[aM]at h;obtain⟨l,h1,rfl⟩:=ζf.1 h;simp only[erase,iha h1]
 | rangeFunc g ps a b iha ihb=>
  intro ro r h;simp only[aM]at h;split at h
  ·cases h
  ·split at h
   ·rename_i h1 h2;cases h;simp only[erase,iha h1,ihb h2]
   ·cases h
 | _=>intro ro r h;first|cases h;rfl|(simp only[aM]at h;cases h;rfl)|(simp only[aM]at h;cases h)
def JA (E:Env) (nm:FuncId→Option Nat) (G:FuncId→Option GD):pq:=fun f=>
 (G f).bind fun g=>(E.ft f).bind fun fi=>(aM ⟨E,nm,fi.ntmps⟩ false fi.body).bind fun c=>(fi.results.mapM (xH E)).bind fun rs=>some ⟨fi.ntmps,rs,(gm g c ⟨g.m,0,0⟩).1⟩
theorem Jy {E:Env} {nm:FuncId→Option Nat} {G:FuncId→Option GD} {f:FuncId} {rf:RF} (h:JA E nm G f=some rf):∃fi,E.ft f=some fi∧uM E nm fi rf:=by
 unfold JA at h;obtain⟨g,_,h⟩:=ζg.1 h;obtain⟨fi,h1,h⟩:=ζg.1 h;obtain⟨c,h2,h⟩:=ζg.1 h;obtain⟨rs,h3,h⟩:=ζg.1 h;cases h;exact⟨fi,h1,by rw[h2,iW,Ec h2],h3,rfl⟩
theorem AK:∀(g:FuncId) (s:Nat),some g=some s→(fun n=>n) s=g:=fun _ _ h=>(Option.some.inj h).symm
def BA (o:Option RF):RF:=o.getD ⟨0,[],.skip⟩
def tb (T:pq) (f:FuncId):RC:=(BA (T f)).body
def tr (T:pq) (f:FuncId):List RV:=(BA (T f)).rs
theorem Q9 {o:Option RF} (h:o.isSome=true):o=some (BA o):=by cases o with
 | none=>cases h
 | some r=>rfl
class kL (δ:Type) where
 e:δ→List V
instance Zw {α:Type} [aI α]:kL α:=⟨fun x=>[enc x]⟩
instance Zu:kL Unit:=⟨fun _=>[]⟩
instance Zx {α β:Type} [aI α] [kL β]:kL (α×β):=⟨fun x=>enc x.1::kL.e x.2⟩
@[simp] theorem Y7 {α:Type} [aI α] (x:α):kL.e x=[enc x]:=rfl
@[simp] theorem Y5 (x:Unit):kL.e x=[]:=rfl
@[simp] theorem Y6 {α β:Type} [aI α] [kL β] (x:α×β):kL.e x=enc x.1::kL.e x.2:=rfl
class Fc (S:Sys) (c:bD) {δ:Type} (m:Option δ) where
 n:FuncId
 az:List V
 E:δ→List V
 sc:Bool
 F:lG S c n (fun _:Unit=>az) E (fun _=>m) sc
section
variable {S:Sys} {T:pq} {δ:Type} {m:Option δ}
theorem lG.Kk {E:δ→List V} (fn:FuncId) (az:List V) (h:Le (m.bind fun r=>some (E r)) (bL S (dP S T) (nJ (tr T fn)) (.rc (tb T fn),[],start (az.map .v) [])))
 (hT:(T fn).isSome=true) (hk:S.E.keep fn=false) (hn:Nat.ble az.length (BA (T fn)).na=true)
 (l:V.cg 8 az=true) (r:∀r,V.lvl 8 (result (E r))=true) {sc:Bool} (s:sc=true→∀r,(result (E r)).scalar=true):lG S (dP S T) fn (fun _:Unit=>az) E (fun _=>m) sc where
 k:=hk
 h z:=YX (Q9 hT) (Nat.le_of_ble_eq_true hn) h
 l _:=l
 r:=r
 s:=s
abbrev Fc.NE (E:δ→List V) (fn:FuncId) (az:List V) (h:Le (m.bind fun r=>some (E r)) (bL S (dP S T) (nJ (tr T fn)) (.rc (tb T fn),[],start (az.map .v) [])))
 (hT:(T fn).isSome=true:=by kernel_rfl) (hk:S.E.keep fn=false:=by kernel_rfl) (hn:Nat.ble az.length (BA (T fn)).na=true:=by kernel_rfl)
 (l:V.cg 8 az=true:=by simp) (r:∀r,V.lvl 8 (result (E r))=true:=by intro r;simp):Fc S (dP S T) m:=
 ⟨fn,az,E,false,lG.Kk fn az h hT hk hn l r fun h=>nomatch h⟩
abbrev Fc.M [kL δ] (fn:FuncId) (az:List V) (h:Le (m.bind fun r=>some (kL.e r)) (bL S (dP S T) (nJ (tr T fn)) (.rc (tb T fn),[],start (az.map .v) [])))
 (hT:(T fn).isSome=true:=by kernel_rfl) (hk:S.E.keep fn=false:=by kernel_rfl) (hn:Nat.ble az.length (BA (T fn)).na=true:=by kernel_rfl)
 (l:V.cg 8 az=true:=by simp) (r:∀r:δ,V.lvl 8 (result (kL.e r))=true:=by intro r;simp) (s:∀r:δ,(result (kL.e r)).scalar=true:=by intro r;kernel_rfl):Fc S (dP S T) m:=
 ⟨fn,az,kL.e,true,lG.Kk fn az h hT hk hn l r fun _=>s⟩
abbrev Fc.N [kL δ] (fn:FuncId) (az:List V) (h:Le (m.bind fun r=>some (kL.e r)) (bL S (dP S T) (nJ (tr T fn)) (.rc (tb T fn),[],start (az.map .v) [])))
 (hT:(T fn).isSome=true:=by kernel_rfl) (hk:S.E.keep fn=false:=by kernel_rfl) (hn:Nat.ble az.length (BA (T fn)).na=true:=by kernel_rfl)
 (l:V.cg 8 az=true:=by simp) (r:∀r:δ,V.lvl 8 (result (kL.e r))=true:=by intro r;simp):Fc S (dP S T) m:=
 ⟨fn,az,kL.e,false,lG.Kk fn az h hT hk hn l r fun h=>nomatch h⟩
end
abbrev Fc.of {S:Sys} {c:bD} {α δ:Type} {p:α→Option δ} {n:FuncId} {A:α→List V} {E:δ→List V} {b:Bool} (z:α) (F:lG S c n A E p b):Fc S c (p z):=⟨n,A z,E,b,⟨F.k,fun _=>F.h z,fun _=>F.l z,F.r,F.s⟩⟩
theorem lG.rm {S:Sys} {c:bD} {α δ:Type} {p:α→Option δ} {n:FuncId} {A:α→List V} {E:δ→List V} {b:Bool} (F:∀z,Fc S c (p z)) (i:α) (hn:∀z,(F z).n=n) (ha:∀z,(F z).az=A z) (hE:∀z,(F z).E=E) (hs:∀z,(F z).sc=b):lG S c n A E p b where
 k:=by rw[←hn i];exact(F i).F.k
 h z:=by rw[←hn z,←ha z,←hE z];exact(F z).F.h ()
 l z:=by rw[←ha z];exact(F z).F.l ()
 r:=by rw[←hE i];exact(F i).F.r
 s:=by rw[←hs i,←hE i];exact(F i).F.s
theorem ji.rm {S:Sys} {c:bD} {α δ:Type} {p:α→Option δ} {g:FuncId} {e:List V} {A:α→List V} {R:δ→List V} [i:Inhabited α] [F:∀z,Fc S c (p z)] (hn:∀z,(F z).n=g:=by intro _;kernel_rfl) (ha:∀z,(F z).az=A z++e:=by intro _;kernel_rfl)
 (hE:∀z,(F z).E=R:=by intro _;kernel_rfl) (hs:∀z,(F z).sc=true:=by intro _;kernel_rfl) (hd:V.cg 7 e=true:=by simp):ji S c g e A R p:=
 ⟨lG.rm F default hn ha hE hs,hd⟩
section
variable {S:Sys} {c:bD} {β γ δ α:Type} {Q:Out×St→Option β} {e:γ→Option β} {cf:Cf}
theorem Az (n:Nat) {m:Option β} (h:Le m (bL S c Q (gu S c n cf))) (hL:fF S c n cf.1 cf.2.1 cf.2.2=some (gu S c n cf):=by kernel_rfl):Le m (bL S c Q cf):=AG hL h
theorem aK (n:Nat) {m:Option δ} [F:Fc S c m] {f:δ→Option γ} (h:∀x,m=some x→Le ((f x).bind e) (bL S c Q (nx S c n cf fun p=>cr p.st p.d (.v (result (F.E x))))))
 (hL:(iI S c n cf).map (fun p=>(p.k,(bh S.N p.st.g p.az).bind n_,(!p.dr||p.now||fR p.st.m p.fr [])))=some (.c,some (F.n,F.az.map .v),true):=by kernel_rfl):Le ((m.bind f).bind e) (bL S c Q cf):=tq n F.F () h hL
theorem h_ (n:Nat) {m:Option δ} [F:Fc S c m] {f:δ→Option γ} (h:∀x,m=some x→Le ((f x).bind e) (bL S c Q (nx S c n cf fun p=>cr p.st p.d (.v (result (F.E x))))))
 (hL:(iI S c n cf).map (fun p=>(p.k,((bh S.N p.st.g p.az).bind n_).bind fun q=>(lq (gB p.st.m 8) q.2).map fun vs=>(q.1,vs,((!p.dr||p.now)||fR p.st.m p.fr q.2))))=some (.c,some (F.n,F.az,true)):=by kernel_rfl) (hs:F.sc=true:=by kernel_rfl):Le ((m.bind f).bind e) (bL S c Q cf):=
 R9 n (sc_eq hs F.F) () h hL
where
 sc_eq {b:Bool} {fn:FuncId} {az:List V} {E:δ→List V} {m:Option δ} (h:b=true) (F:lG S c fn (fun _:Unit=>az) E (fun _=>m) b):lG S c fn (fun _:Unit=>az) E (fun _=>m) true:=h▸F
def L6 (cf:Cf):RC:=match cf.1 with|.rc (.loop c)=>c|_=>.skip
def zk (cf:Cf):Arg×List Nat×RC×RC:=match cf.1 with|.rc (.each g ps a b)=>(g,ps,a,b)|_=>(.s 0,[],.skip,.skip)
theorem ck {σ ε ρ:Type} {step:σ→Option (Fw σ ε ρ)} (n:Nat) (eσ:σ→St) (eε:ε→Nat×St) (eρ:ρ→St) {s:σ} {fx:ε→Option γ} {fr:ρ→Option γ}
 (h:∀s,Le ((step s).bind fun w=>some (Fw.out eσ eε eρ w)) (bL S c some (.rc (L6 (gu S c n cf)),[],eσ s)))
 (hx:∀x,Le ((fx x).bind e) (bL S c Q (.ex (eε x).1,(gu S c n cf).2.1,(eε x).2))) (hr:∀b,Le ((fr b).bind e) (Q (.ret,eρ b)))
 (hL:fF S c n cf.1 cf.2.1 cf.2.2=some (.rc (.loop (L6 (gu S c n cf))),(gu S c n cf).2.1,eσ s):=by kernel_rfl):Le (((aX step s).bind (Fw.elim fx fr)).bind e) (bL S c Q cf):=
 HP hL h hx hr
theorem vN {σ ε:Type} {step:σ→Option (Fw σ ε Empty)} (n:Nat) (eσ:σ→St) (eε:ε→Nat×St) {s:σ} {fx:ε→Option γ} {fr:Empty→Option γ}
 (h:∀s,Le ((step s).bind fun w=>some (Fw.out eσ eε (fun e=>Empty.elim e) w)) (bL S c some (.rc (L6 (gu S c n cf)),[],eσ s)))
 (hx:∀x,Le ((fx x).bind e) (bL S c Q (.ex (eε x).1,(gu S c n cf).2.1,(eε x).2)))
 (hL:fF S c n cf.1 cf.2.1 cf.2.2=some (.rc (.loop (L6 (gu S c n cf))),(gu S c n cf).2.1,eσ s):=by kernel_rfl):Le (((aX step s).bind (Fw.elim fx fr)).bind e) (bL S c Q cf):=
 HP hL h hx fun b=>Empty.elim b
theorem Cl {σ ε ρ:Type} {f:FuncId} {x y:List V} {items:List α} {eI:α→List V} {step:α→σ→Option (Fw σ ε ρ)} (n:Nat) (gt:Tb SV) (eσ:σ→Tb aP) (eε:ε→Nat×Tb aP) (eρ:ρ→Tb aP) {s:σ} {fn:σ→Option γ} {fx:ε→Option γ} {fr:ρ→Option γ}
 (hi:S.items f x y=some (items.map eI))
 (h:∀x s,Le ((step x s).bind fun w=>some (Fw.sE eσ eε eρ w)) (bL S c (uW S c (zk (gu S c n cf)).2.2.2) (.rc (zk (gu S c n cf)).2.2.1,[],⟨s7 gt (zk (gu S c n cf)).2.1 ((eI x).map .v),eσ s,lZ gt,[],true,0⟩)))
 (hn:∀s,Le ((fn s).bind e) (bL S c Q (.nx,(gu S c n cf).2.1,aS gt (eσ s)))) (hx:∀x,Le ((fx x).bind e) (bL S c Q (.ex (eε x).1,(gu S c n cf).2.1,aS gt (eε x).2))) (hr:∀b,Le ((fr b).bind e) (Q (.ret,aS gt (eρ b))))
 (hl:∀x,(eI x).length=(zk (gu S c n cf)).2.1.length:=by intro _;kernel_rfl) (hg:mT S.N gt (zk (gu S c n cf)).1=some (.v (.clo f x y)):=by kernel_rfl)
 (hL:fF S c n cf.1 cf.2.1 cf.2.2=some (.rc (.each (zk (gu S c n cf)).1 (zk (gu S c n cf)).2.1 (zk (gu S c n cf)).2.2.1 (zk (gu S c n cf)).2.2.2),(gu S c n cf).2.1,aS gt (eσ s)):=by kernel_rfl):Le (((kK step items s).bind (Fw.tg fn fx fr)).bind e) (bL S c Q cf):=
 UQ hL hg hi hl h hn hx hr
noncomputable def Vk (n k:Nat) (dl:List Nat) (d:Nat) (S:Sys) (c:bD) (cf:Cf) (v:SV):Cf:=jmp k [] (gu S c n cf) { (gu S c n cf).2.2 with g:=aV (s9 dl (gu S c n cf).2.2.g) d v }
theorem aU [aI δ] (n k:Nat) (dl:List Nat) (d:Nat) {m:Option δ} {f:δ→Option γ} (h2:Le (m.bind fun r=>bL S c Q (Vk n k dl d S c cf (cv r))) (bL S c Q cf))
 (h1:∀r,Le ((f r).bind e) (bL S c Q (Vk n k dl d S c cf (cv r)))):Le ((m.bind f).bind e) (bL S c Q cf):=L_ _ h2 h1
end
end Go.VE
namespace Go.VE
variable [aW]
namespace catX
instance {n:Nat}:OfNat Arg n:=⟨.s n⟩
def ln:K:=.p .lenSl
def ix:K:=.p (.idxS 1)
def bI (o:BinOp):K:=.p (.bin (some .int) none o)
def ld:K:=.r (.load 1 false)
def g1:List RO:=[o1 4 (.k (.aF)) []]
def g2:List RO:=[o1 5 1 [],o2 6 (bI .lss) [5,.k (.int .i64 0)] []]
def g3:List RO:=[o2 7 (.p (.bad)) [] [],⟨none,none,false,.p .bad,[],[],[]⟩]
def g4:List RO:=[o1 8 1 [],o1 9 0 [],o2 10 (.p (.capSl)) [9] [],o1 11 0 [],o2 12 ln [11] [],o2 13 (bI .sub) [10,12] [],o2 14 (bI .sub) [8,13] [],o1 1 14 []]
def g5:List RO:=[o1 15 1 [],o2 16 (bI .gtr) [15,.k (.int .i64 0)] []]
def g6:List RO:=[o1 17 0 [],o1 18 0 [],o2 19 (.p (.capSl)) [18] [],o2 20 (.p (.slice 1 false true)) [17,19] [],o1 21 1 [],o2 22 (.l (.appMk 1 24 [.aF])) [20,21] [],o1 23 0 [],o2 24 ln [23] [],o2 25 (.p (.slice 1 false true)) [22,24] [],o1 0 25 []]
def g7:List RO:=[o1 26 0 [],o1 4 26 []]
def grow:RC:=.seq (.ops g1) (.seq (.seq (.ops g2) (.cond (.s 6) (.ops g3) (.skip))) (.seq (.seq (.ops g4) (.seq (.ops g5) (.cond (.s 16) (.ops g6) (.skip)))) (.seq (.ops g7) (.ret))))
section
variable {E:Env} {N:Nat→FuncId} {t:Nat}
end
end catX
end Go.VE
namespace Go.VE
variable [aW]
namespace catX
def r1:List RO:=[o1 2 (.k (.aF)) []]
def r2:List RO:=[o1 3 (.k (.int .i64 0)) []]
def r3:List RO:=[o1 9 0 [],o2 10 ln [9] [],o1 11 (.k (.int .i64 0)) []]
def r4:List RO:=[o2 12 (bI .lss) [11,10] []]
def r5:List RO:=[o2 13 ix [9,11] [],o2 14 ld [13] [],o1 5 14 []]
def r6:List RO:=[o1 15 3 [],o1 16 5 [],o2 17 ln [16] [],o2 18 (bI .add) [15,17] [],o1 3 18 []]
def r7:List RO:=[o1 19 3 [],o2 20 (bI .lss) [19,.k (.int .i64 0)] []]
def r8:List RO:=[o2 21 (.p (.bad)) [] [],⟨none,none,false,.p .bad,[],[],[]⟩]
def r9:List RO:=[o2 22 (bI .add) [11,.k (.int .i64 1)] [],o1 11 22 []]
def CH (gid:Nat):List RO:=[o1 23 3 [],o2 24 .c [.f gid,.k (.aF),23] [],o1 6 24 []]
def DX:List RO:=[o1 25 0 [],o2 26 ln [25] [],o1 27 (.k (.int .i64 0)) []]
def CA:List RO:=[o2 28 (bI .lss) [27,26] []]
def DP:List RO:=[o2 29 ix [25,27] [],o2 30 ld [29] [],o1 8 30 []]
def Cs:List RO:=[o1 31 6 [],o1 32 8 [],o2 33 (.l (.append 1)) [31,32] [],o1 6 33 []]
def Fb:List RO:=[o2 34 (bI .add) [27,.k (.int .i64 1)] [],o1 27 34 []]
def r16:List RO:=[o1 35 6 [],o1 2 35 []]
section
variable {E:Env} {N:Nat→FuncId} {F:Frame} {H:aq} {α:Type} [aI α] {s:Sl (Sl α)} {i:Nat}
theorem el {u:Sl α} (h:s.l[i]? = some u):iV 1 (bu s) (i:Int)=some (.fptr [bu u]):=by
 have:=A0 (N:=fun n=>n) s .i64 (i:Int) 1 rfl
 simp only[ay]at this;rw[this,show idx s (i:Int)=some u from by unfold idx;rw[if_pos (by omega)];exact h];rfl
theorem Zh (s:Sl α):nh (bu s)=some (.int .i64 s.l.length):=by
 have:=vc (N:=fun n=>n) s;simpa only[ay]using this
theorem y3:(get F 0=bu s→∃F',(∀call,bP E N call none r3 F H=some (F',H))∧get F' 9=bu s∧get F' 10=.int .i64 s.l.length∧get F' 11=.int .i64 0∧∀j,j<9→get F' j=get F j) ∧
 (get F 0=bu s→∃F',(∀call,bP E N call none DX F H=some (F',H))∧get F' 25=bu s∧get F' 26=.int .i64 s.l.length∧get F' 27=.int .i64 0∧∀j,j<9→get F' j=get F j):=by
 have h:=Zh s;refine⟨fun f0=>⟨_,fun call=>vp (v:=bu s) rfl ?_ <| vp (v:=.int .i64 s.l.length) rfl ?_ <| vp (v:=.int .i64 0) rfl ?_ dL,?_,?_,?_,?_⟩,fun f0=>⟨_,fun call=>vp (v:=bu s) rfl ?_ <| vp (v:=.int .i64 s.l.length) rfl ?_ <| vp (v:=.int .i64 0) rfl ?_ dL,?_,?_,?_,?_⟩⟩ <;>
 first
 | (simp[aR,aD,ay,f0];done)
 | (simp only[aR,List.map_cons,List.map_nil,aD,aB,aA,Nat.reduceEqDiff,if_true,if_false,ay,ln,h];rfl)
 | (simp[aR,aD,ay,aB];done)
 | (simp[aB];done)
 | (intro j hj;simp only[aB,aA];repeat (rw[if_neg (by omega)]))
theorem y4 {n:Nat}:(get F 11=.int .i64 i→get F 10=.int .i64 n→∃F',(∀call,bP E N call none r4 F H=some (F',H))∧get F' 12=.bool (decide (i<n))∧∀j,j<12→get F' j=get F j) ∧
 (get F 27=.int .i64 i→get F 26=.int .i64 n→∃F',(∀call,bP E N call none CA F H=some (F',H))∧get F' 28=.bool (decide (i<n))∧∀j,j<28→get F' j=get F j):=by
 refine⟨fun f f'=>⟨_,fun call=>vp (v:=.bool (decide (i<n))) rfl ?_ dL,?_,?_⟩,fun f f'=>⟨_,fun call=>vp (v:=.bool (decide (i<n))) rfl ?_ dL,?_,?_⟩⟩ <;>
 first
 | (simp[aR,aD,ay,aB,bI,gL,mS,f,f'];done)
 | (simp[aB];done)
 | (intro j hj;simp only[aB,aA];repeat (rw[if_neg (by omega)]))
theorem y5 {u:Sl α} (h:s.l[i]? = some u):(get F 9=bu s→get F 11=.int .i64 i→∃F',(∀call,bP E N call none r5 F H=some (F',H))∧get F' 5=bu u∧∀j,j<12→j≠5→get F' j=get F j) ∧
 (get F 25=bu s→get F 27=.int .i64 i→∃F',(∀call,bP E N call none DP F H=some (F',H))∧get F' 8=bu u∧∀j,j<28→j≠8→get F' j=get F j):=by
 have e:=el h;have e2:dx H (.load 1 false) [.fptr [bu u]]=some (bu u):=by simp[dx,cG,cut,mk]
 refine⟨fun f f'=>⟨_,fun call=>vp (v:=.fptr [bu u]) rfl ?_ <| vp (v:=bu u) rfl ?_ <| vp (v:=bu u) rfl ?_ dL,?_,?_⟩,fun f f'=>⟨_,fun call=>vp (v:=.fptr [bu u]) rfl ?_ <| vp (v:=bu u) rfl ?_ <| vp (v:=bu u) rfl ?_ dL,?_,?_⟩⟩ <;>
 first
 | (simp only[aR,List.map_cons,List.map_nil,aD,aB,aA,Nat.reduceEqDiff,if_true,if_false,ay,ix,f,f',e,Option.map_some];done)
 | (simp only[aR,List.map_cons,List.map_nil,aD,aB,aA,Nat.reduceEqDiff,if_true,if_false,ld];rw[e2];rfl)
 | (simp[aR,aD,ay,aB];done)
 | (simp[aB];done)
 | (intro j hj h5;simp only[aB,aA];rw[if_neg (Ne.symm h5)];repeat (rw[if_neg (by omega)]))
structure Acc (H:aq) (w:V) (acc:List (List V)):Prop where
 el:dg H 1 w=some acc
 gr:∃H1,iq H w=some H1∧H1.length=H.length
 sh:w=.aF∧acc=[]∨∃id xs,w=.hsl id 1 0 acc.length∧H[id]? = some (.row 1 xs)∧(acc≠[]→xs=acc)
def upto (s:Sl (Sl α)) (i:Nat):List α:=(s.l.take i).flatMap Sl.l
end
end catX
end Go.VE
namespace Go.VE
variable [aW]
def uB (op:Bool) (x y:Int):Int:=cond op x y
@[simp] theorem WN (x y:Int):uB true x y=x:=rfl
@[simp] theorem Wx (x y:Int):uB false x y=y:=rfl
namespace setX
instance {n:Nat}:OfNat Arg n:=⟨.s n⟩
def fa (k:Nat):K:=.p (.fieldAddr k)
def ld:K:=.r (.load 1 false)
def r1:List RO:=[o2 4 (.a .box) [1] [],o2 5 (.a .box) [2] []]
def r2:List RO:=[o1 6 0 [],o2 7 (fa 0) [4] [],o2 8 ld [7] [],o2 9 (fa 1) [4] [],o2 10 ld [9] [],o2 11 (.p (.idxS 1)) [6,8] [],⟨none,none,false,.l (.store 1),[11,10],[],[]⟩]
def r3:List RO:=[o1 6 0 [],o2 7 (fa 0) [5] [],o2 8 ld [7] [],o2 9 (fa 1) [5] [],o2 10 ld [9] [],o2 11 (.p (.bin (some .int) none .sub)) [10,.k (.int .i64 1)] [],o2 12 (.p (.idxS 1)) [6,8] [],⟨none,none,false,.l (.store 1),[12,11],[],[]⟩]
def code (op:Bool):RC:=.seq (.ops r1) (.ops (if op then r3 else r2))
section
variable {E:Env} {N:Nat→FuncId} {H:aq} {id off L:Nat} {rs:List (List V)}
theorem Mq {h:Nat} {x y:V} {i:Nat} {v:V} (hb:H[h]? = some (.row 2 [[x,y]])) (hv:[x,y][i]? = some v):dx H (.load 1 false) [.hptr h 0 i]=some v:=by
 match i,hv with
 | 0,hv=>cases hv;simp[dx,cG,hb,Ob.rows,cut,mk]
 | 1,hv=>cases hv;simp[dx,cG,hb,Ob.rows,cut,mk]
 | i+2,hv=>simp at hv
theorem whole (op:Bool) {a b c d:Int} (hid:H[id]? = some (.row 1 rs)) (hp:0≤(uB op c a)) (hpl:(uB op c a).toNat<L) {z:V} (hz:rs[off+(uB op c a).toNat]? = some [z]) :
 ∃F' X,Ex E N (code op) [.hsl id 1 off L,.agg [.int .i64 a,.int .i64 b],.agg [.int .i64 c,.int .i64 d]] H .norm F' ((H++X).set id (.row 1 (rs.set (off+(uB op c a).toNat) [.int .i64 (uB op (IntKind.wrap .i64 (d-1)) b)]))):=by
 let X:aq:=[.row 2 [[.int .i64 a,.int .i64 b]],.row 2 [[.int .i64 c,.int .i64 d]]]
 have hlt:=(ζe.1 hid).1;have e1:∃F1,(∀call,bP E N call none r1 [.hsl id 1 off L,.agg [.int .i64 a,.int .i64 b],.agg [.int .i64 c,.int .i64 d]] H=some (F1,H++X))∧get F1 0=.hsl id 1 off L∧get F1 4=.hptr H.length 0 0∧get F1 5=.hptr (H.length+1) 0 0:=by
  refine⟨_,fun call=>iA (v:=.hptr H.length 0 0) (H1:=H++[.row 2 [[.int .i64 a,.int .i64 b]]]) rfl ?_ <| iA (v:=.hptr (H.length+1) 0 0) (H1:=H++X) rfl ?_ dL,?_,?_,?_⟩
  ·simp[aR,aD,get,iy,V.cells,V.one,Mk.val]
  ·simp[aR,aD,get,aB,set,iy,V.cells,V.one,Mk.val,X]
  ·simp[aB];rfl
  ·simp[aB]
  ·simp[aB]
 obtain⟨F1,p1,p2,p3,p4⟩:=e1;have h1:(H++X)[id]? = some (.row 1 rs):=by rw[List.getElem?_append_left hlt];exact hid
 have h2:(H++X)[H.length]? = some (.row 2 [[.int .i64 a,.int .i64 b]]):=by simp[X]
 have h3:(H++X)[H.length+1]? = some (.row 2 [[.int .i64 c,.int .i64 d]]):=by
  rw[List.getElem?_append_right (by omega)];simp[X]
 obtain⟨H1,hH⟩:∃H1,H1=H++X:=⟨_,rfl⟩;rw[←hH]at h1 h2 h3;rw[←hH]at p1
 suffices hs:∃F',Ex E N (code op) [.hsl id 1 off L,.agg [.int .i64 a,.int .i64 b],.agg [.int .i64 c,.int .i64 d]] H .norm F' (H1.set id (.row 1 (rs.set (off+(uB op c a).toNat) [.int .i64 (uB op (IntKind.wrap .i64 (d-1)) b)])))by
  obtain⟨F',hF⟩:=hs;exact⟨F',X,by rw[←hH];exact hF⟩
 have hix:∀p:Int,0≤p→p.toNat<L→iV 1 (.hsl id 1 off L) p=some (.hptr id (off+p.toNat) 0):=fun p h0 hl=>by
  unfold iV;rw[if_neg (by omega)];simp[hl]
 have hst:∀(q:Nat) (z v:V),rs[q]? = some [z]→v.one=true→dS H1 (.store 1) [.hptr id q 0,v]=some (.undef,H1.set id (.row 1 (rs.set q [v]))):=fun q z v hz hv=>by
  simp[dS,h1,hz,BP hv,hv]
 cases op with
 | false=>
  simp only[Wx]at hp hpl hz ⊢;have l1:=Mq (i:=0) h2 rfl;have l2:=Mq (i:=1) h2 rfl;have e2:∃F2,(∀call,bP E N call none r2 F1 H1=some (F2,H1.set id (.row 1 (rs.set (off+a.toNat) [.int .i64 b])))):=by
   refine⟨_,fun call=>vp (v:=.hsl id 1 off L) rfl ?_ <| vp (v:=.hptr H.length 0 0) rfl ?_ <| vp (v:=.int .i64 a) rfl ?_ <| vp (v:=.hptr H.length 0 1) rfl ?_ <| vp (v:=.int .i64 b) rfl ?_ <| vp (v:=.hptr id (off+a.toNat) 0) rfl ?_ <| iA (v:=.undef) rfl ?_ dL⟩
   ·simp[aR,aD,ay,p2]
   ·simp[aR,aD,ay,aB,fa,eZ,p3]
   ·simp only[aR,List.map_cons,List.map_nil,aD,aB,aA,Nat.reduceEqDiff,if_true,if_false,ld,l1,Option.map_some]
   ·simp[aR,aD,ay,aB,fa,eZ,p3]
   ·simp only[aR,List.map_cons,List.map_nil,aD,aB,aA,Nat.reduceEqDiff,if_true,if_false,ld,l2,Option.map_some]
   ·simp only[aR,List.map_cons,List.map_nil,aD,aB,aA,Nat.reduceEqDiff,if_true,if_false,ay,hix a hp hpl,Option.map_some]
   ·simp only[aR,List.map_cons,List.map_nil,aD,aB,aA,Nat.reduceEqDiff,if_true,if_false];exact hst _ z _ hz rfl
  obtain⟨F2,q1⟩:=e2;exact⟨F2,Ex.seq (Ex.c8 p1) (Ex.c8 (l:=_) q1)⟩
 | true=>
  simp only[WN]at hp hpl hz ⊢;have l1:=Mq (i:=0) h3 rfl;have l2:=Mq (i:=1) h3 rfl;have e2:∃F2,(∀call,bP E N call none r3 F1 H1=some (F2,H1.set id (.row 1 (rs.set (off+c.toNat) [.int .i64 (IntKind.wrap .i64 (d-1))])))):=by
   refine⟨_,fun call=>vp (v:=.hsl id 1 off L) rfl ?_ <| vp (v:=.hptr (H.length+1) 0 0) rfl ?_ <| vp (v:=.int .i64 c) rfl ?_ <| vp (v:=.hptr (H.length+1) 0 1) rfl ?_ <| vp (v:=.int .i64 d) rfl ?_ <| vp (v:=.int .i64 (IntKind.wrap .i64 (d-1))) rfl ?_ <| vp (v:=.hptr id (off+c.toNat) 0) rfl ?_ <| iA (v:=.undef) rfl ?_ dL⟩
   ·simp[aR,aD,ay,p2]
   ·simp[aR,aD,ay,aB,fa,eZ,p4]
   ·simp only[aR,List.map_cons,List.map_nil,aD,aB,aA,Nat.reduceEqDiff,if_true,if_false,ld,l1,Option.map_some]
   ·simp[aR,aD,ay,aB,fa,eZ,p4]
   ·simp only[aR,List.map_cons,List.map_nil,aD,aB,aA,Nat.reduceEqDiff,if_true,if_false,ld,l2,Option.map_some]
   ·simp[aR,aD,ay,aB,gL]
   ·simp only[aR,List.map_cons,List.map_nil,aD,aB,aA,Nat.reduceEqDiff,if_true,if_false,ay,hix c hp hpl,Option.map_some]
   ·simp only[aR,List.map_cons,List.map_nil,aD,aB,aA,Nat.reduceEqDiff,if_true,if_false];exact hst _ z _ hz rfl
  obtain⟨F2,q1⟩:=e2;exact⟨F2,Ex.seq (Ex.c8 p1) (Ex.c8 (l:=_) q1)⟩
end
end setX
structure ZR (S:Sys) {α δ:Type} [aI δ] (g:FuncId) (e:List V) (A:α→List V) (p:Sl δ→α→Option (Sl δ)):Prop where
 f:∃q,S.prm g=some q∧q.part=false∧S.E.keep g=true∧S.E.own g=false∧∀s z s',p s z=some s'→q.go (aI.size δ) (rows s.l) (A z++e)=some (rows s'.l)∧s'=s.re s'.l
 d:V.cg 7 e=true
section
variable {S:Sys} {c:bD} {β γ δ α:Type} [aI δ] {Q:Out×St→Option β} {e:γ→Option β} {cf:Cf}
end
end Go.VE
namespace Go.VE
variable [aW]
def snap (w:World):bf:=fun b=>match w.heap[b]? with
 | some (.cells c _ _)=>some (.cells c)
 | some (.map es _)=>some (.map es)
 | _=>none
theorem Lt {w:World} (hg:qn (snap w)):bJ (snap w) (fun _=>none) [] w where
 dom _ _:=rfl
 imm b x h:=by
  unfold snap at h;split at h
  ·rename_i c el fr hh;cases h;exact⟨el,fr,hh⟩
  ·rename_i es cl hh;cases h;exact⟨cl,hh⟩
  ·cases h
 obs id ob h:=by simp at h
 inj id id' ob ob' p p' h:=by simp at h
 gl:=hg
def dF (I:bf) (xs:List V) (vs:List Value):Prop:=xs.length=vs.length∧∀(j:Nat) a b,xs[j]? = some a→vs[j]? = some b→cW I a b
theorem dF.nil {I:bf}:dF I [] []:=⟨rfl,by simp⟩
theorem dF.one {I:bf} {x:V} {v:Value} (h:cW I x v):dF I [x] [v]:=⟨rfl,fun j a b h1 h2=>by
 cases j with
 | zero=>simp at h1 h2;subst h1 h2;exact h
 | succ j=>simp at h1⟩
theorem dF.append {I:bf} {xs ys:List V} {us vs:List Value} (h:dF I xs us) (k:dF I ys vs):dF I (xs++ys) (us++vs):=by
 refine⟨by simp[h.1,k.1],fun j a b h1 h2=>?_⟩
 by_cases hj:j<xs.length
 ·rw[List.getElem?_append_left hj]at h1;rw[List.getElem?_append_left (by rw[←h.1];exact hj)]at h2
  exact h.2 j a b h1 h2
 ·rw[List.getElem?_append_right (by omega)]at h1
  rw[List.getElem?_append_right (by rw[←h.1];omega),←h.1]at h2
  exact k.2 _ a b h1 h2
theorem y8 {α β:Type} {f:α→Option β}:∀{l:List α} {r:List β},l.mapM f=some r→r.length=l.length∧∀(i:Nat) a b,l[i]? = some a→r[i]? = some b→f a=some b
 | [],r,h=>by simp only[List.mapM_nil,Option.pure_def,ζa]at h;subst h;simp
 | x::l,r,h=>by
  simp only[List.mapM_cons,Option.bind_eq_bind,Option.pure_def,ζg,ζa]at h;obtain⟨y,hy,ys,hys,rfl⟩:=h;obtain⟨h1,h2⟩:=y8 hys;refine⟨by simp[h1],fun i a b h3 h4=>?_⟩
  cases i with
  | zero=>simp at h3 h4;subst h3 h4;exact hy
  | succ i=>exact h2 i a b (by simpa using h3) (by simpa using h4)
structure sN {H:Type} (b:DataW H→Nat):Prop where
 lit:∀l,1≤b (.lit l)
 str:∀s,s.length+1≤b (.lit (.string s))
 nil:1≤b .nil
 slice:∀es sp,(es.map b).sum+1≤b (.slice es sp)
 agg:∀ps,(ps.map b).sum+1≤b (.agg ps)
class bt (α:Type) where
 wt:α→Nat
 ok:α→Prop
instance:bt Int where
 wt _:=1
 ok n:=-9223372036854775808≤n∧n≤9223372036854775807
instance:bt Bool where
 wt _:=1
 ok _:=True
instance:bt ByteArray where
 wt s:=s.size+1
 ok s:=s.size≤maxLen
instance {α:Type} [bt α]:bt (Sl α) where
 wt s:=(s.l.map bt.wt).sum+1
 ok s:=∀x∈s.l,bt.ok x
class Reads (P:Program) (t:TypeId) (α:Type) [aI α] [bt α]:Prop where
 size:P.cellsOf t=aI.size α
 rd:∀{H:Type} {enc:TypeId×Value→H} {w:World} {base:Nat} {spare:Nat→Bool} {held:Bool} {fuel:Nat} {cs:List Value} {d:DataW H} {ps:List MemPlace},
  DataW.trod enc P w base spare held fuel t cs=some (d,ps)→∃a:α,dF (snap w) (cells a) cs∧bt.ok a∧∀b:DataW H→Nat,sN b→bt.wt a≤b d
 shape:∀{w:World} {r:_root_.Go.Reach} {base:Nat} {v:Value},Value.okWide P w r base t v→if aI.agg α then ∃cs,v=.agg cs else v.cells=#[v]
section
variable {P:Program}
theorem mX {w:World} {r:_root_.Go.Reach} {base:Nat} {t:TypeId} {v:Value} {u:_} (hu:P.underlying t=some u) (h1:∀fs,u≠.struct fs) (h2:∀n e,u≠.array n e) (h:Value.okWide P w r base t v):v.cells=#[v]:=by
 cases v with
 | agg cs=>
  exfalso;unfold Value.okWide at h;rw[hu]at h;split at h
  ·rename_i fs heq;cases heq;exact h1 _ rfl
  ·rename_i n e heq;cases heq;exact h2 _ _ rfl
  ·unfold Cell.okWide at h;rw[hu]at h;split at h <;> first|(simp at *;done)|skip
   unfold Cell.ok at h;rw[hu]at h;cases u <;> simp at h
 | _=>rfl
theorem Reads.int {t:TypeId} (hu:P.underlying t=some (.int .i64)) (hc:P.cellsOf t=1):Reads P t Int where
 size:=hc
 rd {H enc w base spare held fuel cs d ps} h:=by
  cases fuel with
  | zero=>simp[DataW.trod]at h
  | succ fuel=>
   simp only[DataW.trod,hu]at h;split at h <;> first|(simp at h;done)|skip
   ·rename_i heq;cases heq
   ·rename_i k k' n heq;simp only[ζa,TypeDesc.int.injEq]at heq;split at h
    ·rename_i hk;obtain⟨rfl,hw⟩:=hk;subst heq;cases h;exact⟨n,dF.one (.int _ n),show _∧_ by simpa [Lit.wf,IntKind.min,IntKind.max,IntKind.signed,IntKind.bits]using hw,fun b hb=>hb.lit _⟩
    ·simp at h
   all_goals (rename_i heq;cases heq)
 shape h:=by simp only[show aI.agg Int=false from rfl];exact mX hu (by simp) (by simp) h
theorem Reads.bool {t:TypeId} (hu:P.underlying t=some .bool) (hc:P.cellsOf t=1):Reads P t Bool where
 size:=hc
 rd {H enc w base spare held fuel cs d ps} h:=by
  cases fuel with
  | zero=>simp[DataW.trod]at h
  | succ fuel=>
   simp only[DataW.trod,hu]at h;split at h <;> first|(simp at h;done)|skip
   ·rename_i b _;cases h;exact⟨b,dF.one (.bool b),trivial,fun b hb=>hb.lit _⟩
   all_goals (rename_i heq;cases heq)
 shape h:=by simp only[show aI.agg Bool=false from rfl];exact mX hu (by simp) (by simp) h
theorem Reads.str {t:TypeId} (hu:P.underlying t=some .string) (hc:P.cellsOf t=1):Reads P t ByteArray where
 size:=hc
 rd {H enc w base spare held fuel cs d ps} h:=by
  cases fuel with
  | zero=>simp[DataW.trod]at h
  | succ fuel=>
   simp only[DataW.trod,hu]at h;split at h <;> first|(simp at h;done)|skip
   all_goals (first|(rename_i heq;cases heq;done)|skip)
   rename_i s _;split at h
   ·rename_i hs;cases h;exact⟨s,dF.one (.str s),hs,fun b hb=>hb.str _⟩
   ·simp at h
 shape h:=by simp only[show aI.agg ByteArray=false from rfl];exact mX hu (by simp) (by simp) h
theorem LB {w:World} {a:Addr} {n:Nat} {v:Value} (h:w.cell? (a.add n)=some v) (hn:n=0∨True):∃c el fr,w.heap[a.block]? = some (.cells c el fr)∧c[a.off+n]? = some v∧(n=0→a.spot=none):=by
 unfold World.cell? Addr.add at h
 by_cases h0:n=0
 ·subst h0;simp only[if_true]at h;split at h
  ·rename_i c el fr hh;split at h
   ·simp at h
   ·rename_i hs;exact⟨c,el,fr,hh,h,fun _=>by simpa using hs⟩
  ·simp at h
 ·simp only[if_neg h0]at h;split at h
  ·rename_i c el fr hh;simp only[Option.isSome_none,Bool.false_eq_true,if_false]at h;exact⟨c,el,fr,hh,h,fun e=>absurd e h0⟩
  ·simp at h
theorem Reads.sl {t e:TypeId} {α:Type} [aI α] [bt α] [Reads P e α] (hu:P.underlying t=some (.slice e)) (hc:P.cellsOf t=1) (hpos:0<aI.size α):Reads P t (Sl α) where
 size:=hc
 rd {H enc w base spare held fuel cs d ps} h:=by
  cases fuel with
  | zero=>simp[DataW.trod]at h
  | succ fuel=>
   simp only[DataW.trod,hu]at h;split at h <;> first|(simp at h;done)|skip
   all_goals (first|(rename_i heq;cases heq;done)|skip)
   ·cases h;exact⟨.nil,dF.one .aF,fun x hx=>by simp[Sl.l]at hx,fun b hb=>hb.nil⟩
   ·rename_i e' a len cap heq;cases heq;split at h
    ·rename_i hcap;obtain⟨elems,hel,h⟩:=ζg.1 h;obtain⟨rest,_,h⟩:=ζf.1 h;cases h;obtain⟨hlen,hget⟩:=y8 hel;simp only[List.length_range]at hlen;have hes:P.cellsOf e=aI.size α:=Reads.size (α:=α);have hx:∀i,i<len→∃x:α,∃csi:List Value,w.cells? base (a.add (i*P.cellsOf e)) (P.cellsOf e)=some csi∧dF (snap w) (cells x) csi∧bt.ok x∧∀b:DataW H→Nat,sN b→∀y,elems[i]? = some y→bt.wt x≤b y.1:=fun i hi=>by
      have:=hget i i (elems[i]'(by omega)) (by simp[hi]) (ζd (by omega))
      obtain⟨csi,h1,h2⟩:=ζg.1 this;obtain⟨x,hx,hk,hb⟩:=Reads.rd (P:=P) (t:=e) (α:=α) (d:=(elems[i]'(by omega)).1) (ps:=(elems[i]'(by omega)).2) h2
      exact⟨x,csi,h1,hx,hk,fun b bo y hy=>by
       rw[ζd (by omega)]at hy;cases hy;exact hb b bo⟩
     have hall:∀n,n≤len→∃xs:List α,xs.length=n∧(∀i x,xs[i]? = some x→∃csi:List Value,w.cells? base (a.add (i*P.cellsOf e)) (P.cellsOf e)=some csi∧dF (snap w) (cells x) csi)∧(∀x∈xs,bt.ok x)∧∀b:DataW H→Nat,sN b→(xs.map bt.wt).sum≤(((elems.take n).map (·.1)).map b).sum:=by
      intro n
      induction n with
      | zero=>intro _;exact⟨[],rfl,by simp,by simp,by simp⟩
      | succ n ih=>
       intro hn;obtain⟨xs,h1,h2,h5,h6⟩:=ih (by omega)
       obtain⟨x,csi,h3,h4,h7,h8⟩:=hx n (by omega)
       refine⟨xs++[x],by simp[h1],fun i y hy=>?_,fun y hy=>?_,fun b bo=>?_⟩
       rotate_left
       ·rcases List.mem_append.1 hy with hy|hy
        ·exact h5 y hy
        ·simp at hy;subst hy;exact h7
       ·have k1:=h6 b bo;have k2:=h8 b bo _ (ζd (by omega))
        rw[List.take_succ,ζd (by omega:n<elems.length)]
        simp only[List.map_append,List.sum_append,Option.toList_some,List.map_cons,List.map_nil,List.sum_cons,List.sum_nil];omega
       by_cases hi:i<xs.length
       ·rw[List.getElem?_append_left hi]at hy;exact h2 i y hy
       ·rw[List.getElem?_append_right (by omega)]at hy
        have:i-xs.length=0:=by
         cases hk:i-xs.length with
         | zero=>rfl
         | succ k=>rw[hk]at hy;simp at hy
        rw[this]at hy;simp at hy;subst hy;have:i=n:=by omega
        subst this;exact⟨csi,h3,h4⟩
     obtain⟨xs,hxl,hxs,hxok,hxw⟩:=hall len (Nat.le_refl _);refine⟨.row xs,dF.one ?_,hxok,fun b bo=>?_⟩
     rotate_left
     ·have k:=hxw b bo;rw[List.take_of_length_le (by omega)]at k
      have k2:=bo.slice (elems.map (·.1)) (rest.map (·.1));show (xs.map bt.wt).sum+1≤_;omega
     show cW _ (.fsl (aI.size α) (rows xs)) _
     cases hl:xs with
     | nil=>
      subst hl;simp at hxl;subst hxl;exact .fsl0 _ _ _
     | cons x0 xr=>
      rw[←hl];have hl0:0<len:=by rw[←hxl,hl];simp
      have hcell:∀i x,xs[i]? = some x→∀j y,(cells x)[j]? = some y→∃v,w.cell? ((a.add (i*aI.size α)).add j)=some v∧cW (snap w) y v:=by
       intro i x hi j y hy;obtain⟨csi,h1,h2⟩:=hxs i x hi;rw[hes]at h1;unfold World.cells? at h1;split at h1
       ·obtain⟨g1,g2⟩:=y8 h1;have hj:j<aI.size α:=by rw[←eR x];exact(ζe.1 hy).1
        obtain⟨v,hv⟩:∃v,csi[j]? = some v:=⟨_,ζd (by rw[g1];simpa using hj)⟩
        exact⟨v,g2 j j v (by simp[hj]) hv,h2.2 j y v hy hv⟩
       ·simp at h1
      have hadd:∀i j,(a.add (i*aI.size α)).add j=a.add (i*aI.size α+j)∨True:=fun _ _=>.inr trivial
      have hget2:∀i x,xs[i]? = some x→∀j y,(cells x)[j]? = some y→∃c el fr v,w.heap[a.block]? = some (.cells c el fr)∧c[a.off+i*aI.size α+j]? = some v∧cW (snap w) y v∧(i=0→j=0→a.spot=none):=by
       intro i x hi j y hy;obtain⟨v,h1,h2⟩:=hcell i x hi j y hy;obtain⟨c,el,fr,g1,g2,g3⟩:=LB h1 (.inr trivial);have hb:(a.add (i*aI.size α)).block=a.block:=by unfold Addr.add;split <;> rfl
       have ho:(a.add (i*aI.size α)).off=a.off+i*aI.size α:=by unfold Addr.add;split <;> simp_all
       rw[hb]at g1;rw[ho]at g2;refine⟨c,el,fr,v,g1,g2,h2,?_⟩;rintro rfl rfl;have:=g3 rfl;simpa [Addr.add]using this
      have h00:∃y,(cells x0)[0]? = some y:=⟨_,ζd (by rw[eR];exact hpos)⟩
      obtain⟨y0,hy0⟩:=h00;obtain⟨c,el,fr,v0,hc1,_,_,hsp⟩:=hget2 0 x0 (by rw[hl];rfl) 0 y0 hy0
      have hsp:=hsp rfl rfl;obtain⟨b,o,sp⟩:=a;simp only at hsp hc1;subst hsp;have hI:snap w b=some (.cells c):=by unfold snap;rw[hc1]
      have hrl:(rows xs).length=len:=by rw[iz,hxl]
      rw[←hrl];refine .fsl _ _ b o cap c hI (by rw[hrl];exact hcap.2.1) (fun r hr=>?_) (fun r hr y hy=>?_) ?_ (fun i j r y v hr hy hv=>?_)
      ·obtain⟨x,_,rfl⟩:=List.mem_map.1 hr;exact eR x
      ·obtain⟨x,_,rfl⟩:=List.mem_map.1 hr;exact List.all_eq_true.1 (nX x) y hy
      ·
       obtain⟨xl,hxl2⟩:∃x,xs[len-1]? = some x:=⟨_,ζd (by omega)⟩
       obtain⟨yl,hyl⟩:∃y,(cells xl)[aI.size α-1]? = some y:=⟨_,ζd (by rw[eR];omega)⟩
       obtain⟨c2,_,_,v2,k1,k2,_,_⟩:=hget2 (len-1) xl hxl2 (aI.size α-1) yl hyl;simp only at k1 k2;rw[hc1]at k1;cases k1;have:=(Array.getElem?_eq_some_iff.1 k2).1;rw[hrl];have e:len*aI.size α=(len-1)*aI.size α+aI.size α:=by
        obtain⟨m,rfl⟩:∃m,len=m+1:=⟨len-1,by omega⟩
        simp[Nat.add_mul]
       omega
      ·simp only[rows,List.getElem?_map,ζf]at hr;obtain⟨x,hx1,rfl⟩:=hr;obtain⟨c2,_,_,v2,k1,k2,k3,_⟩:=hget2 i x hx1 j y hy;simp only at k1 k2;rw[hc1]at k1;cases k1;rw[hv]at k2;cases k2;exact k3
    ·simp at h
 shape h:=by simp only[show aI.agg (Sl α)=false from rfl];exact mX hu (by simp) (by simp) h
theorem dF.seg {I:bf} {acc xs:List V} {cs:List Value} {o n:Nat} (h:dF I acc (cs.take o)) (k:dF I xs ((cs.drop o).take n)):dF I (acc++xs) (cs.take (o+n)):=by
 rw[List.take_add];exact h.append k
theorem dF.fin {I:bf} {xs:List V} {cs:List Value} {n:Nat} (h:dF I xs (cs.take n)) (hl:cs.length=n):dF I xs cs:=by
 rw[List.take_of_length_le (by omega)]at h;exact h
theorem Reads.st {t:TypeId} {fs:Array Field} {α:Type} [aI α] [bt α] (hu:P.underlying t=some (.struct fs)) (hc:P.cellsOf t=aI.size α) (ha:aI.agg α=true)
 (h:∀{H:Type} {enc:TypeId×Value→H} {w:World} {base:Nat} {spare:Nat→Bool} {held:Bool} {fuel:Nat} {cs:List Value} {l:List (DataW H×List MemPlace)},cs.length=aI.size α →
  (fs.toList.mapM fun f=>DataW.trod enc P w base spare held fuel f.type ((cs.drop f.offset).take (P.cellsOf f.type)))=some l→∃a:α,dF (snap w) (cells a) cs∧bt.ok a∧∀b:DataW H→Nat,sN b→bt.wt a≤((l.map (·.1)).map b).sum+1):Reads P t α where
 size:=hc
 rd {H enc w base spare held fuel cs d ps} hr:=by
  cases fuel with
  | zero=>simp[DataW.trod]at hr
  | succ fuel=>
   simp only[DataW.trod,hu]at hr;split at hr <;> first|(simp at hr;done)|skip
   all_goals (first|(rename_i heq;cases heq;done)|skip)
   rename_i hl;obtain⟨l,h1,h2⟩:=ζf.1 hr;cases h2;obtain⟨a,k1,k2,k3⟩:=h (by rw[hl,hc]) h1
   exact⟨a,k1,k2,fun b bo=>Nat.le_trans (k3 b bo) (bo.agg _)⟩
 shape hv:=by
  rw[if_pos ha];unfold Value.okWide at hv;rw[hu]at hv;obtain⟨cs,h1,_⟩:=hv;exact⟨cs,h1⟩
theorem Reads.arg {t:TypeId} {α:Type} [aI α] [bt α] [Reads P t α] {H:Type} {enc':TypeId×Value→H} {w:World} {base:Nat} {spare:Nat→Bool} {held:Bool} {r:_root_.Go.Reach} {b:Nat} {v:Value} {d:DataW H} {ps:List MemPlace}
 (hv:Value.okWide P w r b t v) (h:DataW.Trod enc' P w base spare held t v d ps):∃a:α,aL (snap w) (fun _=>none) (enc a) v∧bt.ok a∧∀b:DataW H→Nat,sN b→bt.wt a≤b d:=by
 obtain⟨fuel,h⟩:=h;obtain⟨a,⟨h1,h2⟩,hok,hwt⟩:=Reads.rd (P:=P) (t:=t) (α:=α) h;have hs:=Reads.shape (P:=P) (t:=t) (α:=α) hv;refine⟨a,?_,hok,hwt⟩
 cases ha:aI.agg α with
 | true=>
  rw[ha,if_pos rfl]at hs;obtain⟨cs,rfl⟩:=hs;rw[w5 ha];refine .c _ _ (.agg _ _ (by simpa [Value.cells]using h1) (fun j x y hx hy=>h2 j x y hx (by simpa [Value.cells]using hy)))
 | false=>
  rw[ha]at hs;simp only[Bool.false_eq_true,if_false]at hs;rw[hs]at h2;rw[qE ha]at h2;exact .c _ _ (h2 0 _ _ rfl rfl)
end
end Go.VE
namespace Go.VE
variable [aW]
open Go.ChangeShapes Go.WideShapes Go.ChangeAt Go.RowKit
structure Cu (w w':World):Prop where
 kept:w.keptBut w' (fun _=>False)
 fz:∀a:Addr,a.block<w.heap.size→w'.frozen? a=w.frozen? a
theorem BW {I I':bf} {μ':Mu} {H':aq} {w w':World} (s:Step I (fun _=>none) [] w I' μ' H' w'):Cu w w':=by
 have hf:∀b,b<w.heap.size→w'.heap[b]? = w.heap[b]? := fun b hb=>s.frame b hb (by rintro⟨id,p,ob,h,_⟩;simp at h)
 refine⟨⟨s.os,s.out.out,fun i hi=>?_⟩,fun a hb=>?_⟩
 ·rw[hf i hi];split
  ·rename_i h1 h2;rw[h1]at h2;cases h2;exact⟨rfl,rfl,rfl,fun _ _=>rfl⟩
  ·rename_i h1 h2;rw[h1]at h2;cases h2;exact .inr ⟨rfl,rfl⟩
  ·rfl
 ·unfold World.frozen?;rw[hf _ hb]
theorem DV {P:Program} {call:b9} (hc:iD P call) {f:FuncId} {args:List V} {b:Bool} {H':aq} (h:call (.fn f) args []=some (.bool b,H')) {w:World} {vs:List Value}
 (hw:qn (snap w)) (hv:bB (snap w) (fun _=>none) args vs):Calls P f vs.toArray w fun e w'=>e=.returned (.bool b)∧Cu w w':=by
 intro cs;have k:=((hc.fn f args [] _ H' h).2 (snap w) (fun _=>none) w vs (Lt hw) hv)
 obtain⟨e,w',fr,⟨u,I',μ',rfl,hu,_,hs⟩,hcm,h1,h2⟩:=k.2 cs (by simp[Fence.room,fr])
 refine⟨_,w',fr,⟨?_,BW hs⟩,hcm.comes,h1,h2⟩
 cases hu with
 | c _ _ hcr=>cases hcr;rfl
variable {P:Program} {H:Type} {enc:TypeId×Value→H}
theorem B3 {ts:List TypeId} {vs:List Value} {ds:List (DataW H)} {ps:List MemPlace} {w w':World} (hg:Cu w w') (h:DataW.TrodAll enc P w 0 (fun _=>true) true ts vs ds ps):DataW.TrodAll enc P w' 0 (fun _=>true) true ts vs ds ps:=by
 have hcell:∀p:MemPlace,p.block<w.heap.size→w.sameAt w' p:=by
  intro p hp;have k:=hg.kept.2.2 p.block hp
  cases p with
  | cell b off=>
   simp only[World.sameAt,World.cell?];simp only[MemPlace.block]at k hp;split at k
   ·rename_i c t fr c' t' fr' h1 h2;rw[h1,h2];simp only;have:=k.2.2.2 off (fun x=>x)
    simpa using this
   ·rename_i h1 h2;rw[h1,h2]
   ·rw[k]
  | map b=>
   simp only[World.sameAt];simp only[MemPlace.block]at k hp;split at k
   ·rename_i c t fr c' t' fr' h1 h2;obtain⟨rfl,rfl,h3,h4⟩:=k;rw[h1,h2];have:c'=c:=Array.ext_getElem? fun i=>h4 i (fun x=>x)
    rw[this]
   ·rename_i h1 h2;rcases k with k|⟨rfl,rfl⟩
    ·exact k.elim
    ·rw[h1,h2]
   ·exact k
 induction ts generalizing vs ds ps with
 | nil=>cases vs <;> cases ds <;> simp_all [DataW.TrodAll]
 | cons t ts ih=>
  cases vs with
  | nil=>simp[DataW.TrodAll]at h
  | cons v vs=>
   cases ds with
   | nil=>simp[DataW.TrodAll]at h
   | cons d ds=>
    obtain⟨p,q,⟨n,h1⟩,h2,rfl⟩:=h;exact⟨p,q,⟨n,DataW.trod_carry n _ _ _ h1 fun x hx=>hcell x (DataW.trod_lt n _ _ _ h1 x hx)⟩,ih h2,rfl⟩
theorem Il {T:TypeId→Prop} (K:Kids P T) (hz:∀t e,T t→P.underlying t=some (.slice e)→0<P.cellsOf e) {f:Func} {s:ChangeSpec} {apart fresh handsOn again:Bool} {W W':World} {args:Array Value} {ds gs:List (DataW H)} {before:List MemPlace} {tb:TypeId}
 (hT:∀t∈f.params.toList,T t) (hvars:s.vars=[]) (hfn:s.fn H (ds++gs)={ results:=[.lit (.bool true)],args:=ds }) (hrt:f.resultTypes=#[tb]) (hb:P.underlying tb=some .bool)
 (hW:DataW.Whole enc P f.params.toList s.vars apart W args.toList ds gs before) (hg:Cu W W'):s.post enc P f apart fresh handsOn again W args (.bool true) W':=by
 have hW':=hW;obtain⟨p,q,hA,hV,rfl,hfz,hnd⟩:=hW;rw[hvars]at hV;obtain⟨rfl,rfl⟩:=trodVars_none hV;have hr:∀(b:Nat) (sp:Nat→Bool) (hd:Bool),DataW.TrodAll enc P W' b sp hd f.resultTypes.toList ((Value.bool true).resultList f.resultTypes.size) (s.fn H (ds++[])).results []:=fun _ _ _=>by
  rw[hrt,hfn];exact trodAll_cons_mk (shut_bool hb _) trodAll_mk0
 have ha:∀sp:Nat→Bool,(∀x∈p++[],sp x.block=true)→DataW.TrodAll enc P W' 0 sp true f.params.toList args.toList (s.fn H (ds++[])).args p:=fun sp hsp=>by
  rw[hfn];exact DataW.TrodAll.respare K hz hT (B3 hg hA) (fun x hx=>hsp x (List.mem_append_left _ hx))
 have hv:∀sp:Nat→Bool,DataW.TrodVars enc P W' sp s.vars (s.fn H (ds++[])).vars []:=fun sp=>by rw[hfn,hvars];rfl
 have hlt:=fun x hx=>hW'.lt x hx
 refine⟨ds,[],p++[],[],p,[],hW',hr _ _ _,ha _ fun x hx=>by simpa using hlt x hx,hv _,World.keptBut_mono (fun x hx=>hx.elim) hg.kept,fun _=>⟨ok_one hrt rfl (okWide_bool_mk hb _),?_⟩⟩
 refine⟨_,_,[]++p++[],⟨[]++p,[],trodAll_append (ha _ fun _ _=>rfl) (hr _ _ _),hv _,rfl,fun b off hx=>?_,fun h=>by simpa using hnd h⟩,fun x hx _=>by simpa using hx⟩
 have hx':MemPlace.cell b off∈p++[]:=by simpa using hx
 rw[hg.fz _ (hlt _ hx')];exact hfz b off hx'
end Go.VE
namespace Go.VE
variable [aW]
instance:bt U8 where
 wt _:=1
 ok n:=0≤n.v∧n.v≤255
theorem Reads.u8 {P:Program} {t:TypeId} (hu:P.underlying t=some (.int .u8)) (hc:P.cellsOf t=1):Reads P t U8 where
 size:=hc
 rd {H enc w base spare held fuel cs d ps} h:=by
  cases fuel with
  | zero=>simp[DataW.trod]at h
  | succ fuel=>
   simp only[DataW.trod,hu]at h;split at h <;> first|(simp at h;done)|skip
   ·rename_i heq;cases heq
   ·rename_i k k' n heq;simp only[ζa,TypeDesc.int.injEq]at heq;split at h
    ·rename_i hk;obtain⟨rfl,hw⟩:=hk;subst heq;cases h;exact⟨⟨n⟩,dF.one (.int _ n),show _∧_ by simpa [Lit.wf,IntKind.min,IntKind.max,IntKind.signed,IntKind.bits]using hw,fun b hb=>hb.lit _⟩
    ·simp at h
   all_goals (rename_i heq;cases heq)
 shape h:=by simp only[show aI.agg U8=false from rfl];exact mX hu (by simp) (by simp) h
end Go.VE
namespace Go.VE
variable [aW]
theorem F9 {m:Tb aP} {n:Nat} {rs:List SV} {b:Bool} (h:bQ m n rs=some [.bool b]):rs=[.v (.bool b)]:=by
 cases rs with
 | nil=>cases n <;> simp[bQ]at h
 | cons x r=>
  have h1:shut m n x=some (.bool b)∧bQ m n r=some []:=by
   unfold bQ at h;split at h
   ·rename_i y s h1 h2;simp only[ζa,List.cons.injEq]at h;obtain⟨rfl,rfl⟩:=h;exact⟨h1,h2⟩
   ·cases h
  have h2:r=[]:=by
   cases r with
   | nil=>rfl
   | cons y r=>
    have:=h1.2;unfold bQ at this;split at this <;> simp at this
  subst h2;have h3:=h1.1
  cases x with
  | v y=>unfold shut at h3;simp only[ζa]at h3;rw[h3]
  | own d=>unfold shut at h3;split at h3 <;> simp only[ζa,reduceCtorEq]at h3;rename_i k es xs _;cases k <;> simp[lC]at h3
  | ptr d o=>
   cases n with
   | zero=>simp[shut]at h3
   | succ n=>
    unfold shut at h3;split at h3 <;> try cases h3
    split at h3 <;> try cases h3
    split at h3 <;> cases h3
  | mp d=>unfold shut at h3;split at h3 <;> cases h3
  | clo f a b=>
   cases n with
   | zero=>simp[shut]at h3
   | succ n=>unfold shut at h3;split at h3 <;> cases h3
  | tup l=>
   cases n with
   | zero=>simp[shut]at h3
   | succ n=>unfold shut at h3;obtain⟨_,_,hq⟩:=ζf.1 h3;cases hq
  | _=>cases n <;> simp[shut]at h3
theorem KX {S:Sys} {T:pq} (hT:ta S T) (hI:∀f a b xs,S.items f a b=some xs→fq S f a b xs) {f:FuncId} {xs:List V} (hg:V.bF xs=true) (h:jR (dP S T) f xs=some [.bool true]) :
 ∃n H',run S.E n (.fn f) xs []=some (.bool true,H'):=by
 unfold jR at h;obtain⟨⟨rs,m⟩,h1,h2⟩:=ζg.1 h;have:=F9 h2;simp only at this;subst this;exact PE hT hI hg h1 rfl
theorem Gi {S:Sys} {T:pq} {P:Program} (hT:ta S T) (hI:∀f a b xs,S.items f a b=some xs→fq S f a b xs) (hc:∀n,iD P (run S.E n)) {f:FuncId} {xs:List V} (hg:V.bF xs=true) (h:jR (dP S T) f xs=some [.bool true])
 {w:World} {args:Array Value} (hw:qn (snap w)) (hv:bB (snap w) (fun _=>none) xs args.toList):Calls P f args w fun e w'=>e=.returned (.bool true)∧Cu w w':=by
 obtain⟨n,H',hr⟩:=KX hT hI hg h;have:=DV (hc n) hr hw hv;simpa using this
theorem Reads.GY {P:Program} {t:TypeId} {α:Type} [aI α] [bt α] [Reads P t α] {H:Type} {enc':TypeId×Value→H} {w:World} {base b:Nat} {spare:Nat→Bool} {held:Bool} {v:Value} {d:DataW H} {ps:List MemPlace} {params:Array TypeId} {args:Array Value}
 (hval:∀(j:Nat) t v,params[j]? = some t→args[j]? = some v→Value.okWide P w .any b t v) (j:Nat) (h1:params[j]? = some t) (h2:args[j]? = some v) (h:DataW.Trod enc' P w base spare held t v d ps) :
 ∃a:α,aL (snap w) (fun _=>none) (enc a) v∧bt.ok a∧∀b:DataW H→Nat,sN b→bt.wt a≤b d:=Reads.arg (hval j t v h1 h2) h
end Go.VE
namespace Go.VE
theorem JS {w:World} {g:Nat} {l:List Int} (h:∀i,i<l.length→w.cell? ⟨g,i,none⟩=some (.int .i64 (l.getD i 0))) (h0:0<l.length):cW (snap w) (.fptr (l.map (V.int .i64))) (.pointer (some ⟨g,0,none⟩)):=by
 have h1:=h 0 h0;unfold World.cell? at h1;split at h1
 ·rename_i c t fr hh;have hs:snap w g=some (.cells c):=by unfold snap;simp only at hh;rw[hh]
  have hc:∀i,w.cell? ⟨g,i,none⟩=c[i]? := fun i=>by unfold World.cell?;simp only at hh ⊢;rw[hh];rfl
  refine .fptr _ _ _ c hs ?_ ?_
  ·rw[Nat.zero_add,List.length_map];have:=h (l.length-1) (by omega)
   rw[hc]at this;have:=(Array.getElem?_eq_some_iff.1 this).1;omega
  ·intro j y v hy hv;rw[Nat.zero_add,←hc]at hv;rw[List.getElem?_map]at hy;obtain⟨z,hz,rfl⟩:=ζf.1 hy;have hj:=(ζe.1 hz).1;rw[h j hj]at hv;cases hv;have:l.getD j 0=z:=by simp[List.getD,hz]
   rw[this];exact .int _ _
 ·cases h1
end Go.VE
namespace Go.VE
variable [aW]
theorem bW (n:Nat) (h:n<9223372036854775807):IntKind.wrap .i64 ((n:Int)+1)=((n+1:Nat):Int):=by
 simp[IntKind.wrap,IntKind.bits,IntKind.signed];omega
theorem mw (n:Int) (h1:-9223372036854775808≤n) (h2:n≤9223372036854775807):IntKind.wrap .i64 n=n:=by
 simp[IntKind.wrap,IntKind.bits,IntKind.signed];omega
section
variable {α β:Type} {P:β→Prop}
theorem o8 (s:Sl α) (i:Nat):idx s (i:Int)=s.l[i]? := by
 unfold idx;rw[if_pos (by omega)];rfl
theorem aQ {s:Sl α} {i:Nat} (h:i<s.l.length):idx s (i:Int)=some s.l[i]:=by rw[o8,ζd h]
theorem QD {s:Sl α} {i:Int} (h0:0≤i):idx s i=s.l[i.toNat]? := by unfold idx;rw[if_pos h0]
theorem lP (s:Sl α) (i:Nat) (h:i≤s.l.length):∃x,gz s none (some (i:Int))=some x∧x.l=s.l.take i:=by
 unfold gz cE;simp only[Option.getD_none,Option.getD_some];rw[if_pos (by omega)]
 cases s <;> simp[Sl.l]at h ⊢ <;> simp[h]
theorem a_ {γ:Type} {a b:γ}:au true a b=a:=rfl
theorem bM {γ:Type} {a b:γ}:au false a b=b:=rfl
theorem fP (a b:Bool):au a (some b) (some false)=some (a&&b):=by cases a <;> rfl
theorem eW (a b:Bool):au a (some true) (some b)=some (a||b):=by cases a <;> rfl
theorem jh (a:Bool) (x y:β):au a (some x) (some y)=some (if a then x else y):=by cases a <;> rfl
end
def place {α:Type} (f:α→Bool) (l:List α):Int:=match l.findIdx? f with
 | some i=>i
 | none=>-1
theorem wS {α:Type} {f:α→Bool} {l:List α} {i:Nat} (h:∀j,j<i→∀x,l[j]? = some x→f x=false) (hi:l.length≤i):l.findIdx? f=none:=by
 rw[List.findIdx?_eq_none_iff];intro x hx;obtain⟨j,hj⟩:=List.getElem?_of_mem hx;have:j<l.length:=(ζe.1 hj).1;exact h j (by omega) x hj
theorem xY {α:Type} {f:α→Bool} {l:List α} {i:Nat} {x:α} (h:∀j,j<i→∀x,l[j]? = some x→f x=false) (hx:l[i]? = some x) (hf:f x=true):l.findIdx? f=some i:=by
 rw[List.findIdx?_eq_some_iff_getElem];obtain⟨hi,rfl⟩:=ζe.1 hx;exact⟨hi,hf,fun j hj=>by rw[h j hj _ (ζd (by omega))];simp⟩
theorem od {α:Type} {step:Int→Option (Fw Int Unit Int)} {s:Sl α} {p:α→Option Bool} {f:α→Bool} (hp:∀x∈s.l,p x=some (f x)) (hl:s.l.length<9223372036854775807)
 (hs:∀i,step i=au (decide (i<len s)) ((idx s i).bind fun x_1=>(p x_1).bind fun x_2=>au x_2 (some (.r i)) (some (.n (IntKind.wrap .i64 (i+1))))) (some (.x ()))) :
 (aX step 0).bind (Fw.elim (fun _=>some (-1)) (fun e=>some e))=some (place f s.l):=by
 refine Wp.eq (c6 (fun i:Int=>∃n:Nat,i=n∧n≤s.l.length∧∀j,j<n→∀x,s.l[j]? = some x→f x=false) (fun i:Int=>s.l.length-i.toNat) ⟨0,rfl,Nat.zero_le _,fun j hj=>absurd hj (by omega)⟩ ?_)
 rintro i ⟨n,rfl,hn,hb⟩;rw[hs,aT];refine⟨fun h=>?_,fun h=>?_⟩
 ·have hlt:n<s.l.length:=by simpa [len]using h
  rw[aQ hlt,ζb,hp _ (List.getElem_mem hlt),ζb,aT];refine⟨fun hf=>?_,fun hf=>?_⟩
  ·rw[ai];show Wp (some (n:Int)) _;rw[ai];unfold place;rw[xY hb (ζd hlt) hf]
  ·rw[ai];refine⟨⟨n+1,bW n (by omega),by omega,fun j hj x hx=>?_⟩,?_⟩
   ·by_cases e:j=n
    ·subst e;rw[ζd hlt]at hx;cases hx;exact hf
    ·exact hb j (by omega) x hx
   ·rw[bW n (by omega)];simp;omega
 ·have hge:s.l.length≤n:=by simpa [len]using h
  rw[ai];show Wp (some (-1:Int)) _;rw[ai];unfold place;rw[wS hb hge]
theorem nZ {α:Type} (f:α→Bool) (l:List α):decide (place f l≥0)=l.any f:=by
 unfold place
 cases h:l.findIdx? f with
 | none=>
  rw[List.findIdx?_eq_none_iff]at h;have:l.any f=false:=by rw[List.any_eq_false];intro x hx;simp[h x hx]
  rw[this];rfl
 | some i=>
  obtain⟨hi,hf,_⟩:=List.findIdx?_eq_some_iff_getElem.1 h;have:l.any f=true:=List.any_eq_true.2 ⟨_,List.getElem_mem hi,hf⟩;rw[this];simp
theorem KV {α σ ε ρ:Type} {step:α→σ→Option (Fw σ ε ρ)} {l:List α} (I:Nat→σ→Prop) (px:ε→Prop) (pr:ρ→Prop) {s:σ} (h0:I 0 s)
 (h:∀i a s,l[i]? = some a→I i s→Wp (step a s) fun w=>match w with|.n s'=>I (i+1) s'|.x e=>px e|.r b=>pr b) :
 Wp (kK step l s) fun w=>match w with|.n s'=>I l.length s'|.x e=>px e|.r b=>pr b:=by
 have key:∀(r:List α) (i:Nat) (s:σ),l.drop i=r→i≤l.length→I i s→Wp (kK step r s) fun w=>match w with|.n s'=>I l.length s'|.x e=>px e|.r b=>pr b:=by
  intro r
  induction r with
  | nil=>
   intro i s hd hi hs;have:i=l.length:=by have:=List.drop_eq_nil_iff.1 hd;omega
   subst this;exact⟨_,rfl,hs⟩
  | cons a r ih=>
   intro i s hd hi hs;have hlt:i<l.length:=by
    apply Classical.byContradiction;intro hn;rw[List.drop_eq_nil_of_le (by omega)]at hd;cases hd
   have h2:=List.drop_eq_getElem_cons hlt;rw[h2]at hd;simp only[List.cons.injEq]at hd;obtain⟨w,hw,hp⟩:=h i a s (by rw[ζd hlt,hd.1]) hs
   simp only[kK,hw,ζb]
   cases w with
   | n s'=>exact ih (i+1) s' hd.2 (by omega) hp
   | x e=>exact⟨_,rfl,hp⟩
   | r b=>exact⟨_,rfl,hp⟩
 exact key l 0 s rfl (Nat.zero_le _) h0
theorem uj {α σ ε ρ γ:Type} {step:α→σ→Option (Fw σ ε ρ)} {l:List α} {fn:σ→Option γ} {fx:ε→Option γ} {fr:ρ→Option γ} {P:γ→Prop} (I:Nat→σ→Prop) {s:σ} (h0:I 0 s)
 (h:∀i a s,l[i]? = some a→I i s→Wp (step a s) fun w=>match w with|.n s'=>I (i+1) s'|.x e=>Wp (fx e) P|.r b=>Wp (fr b) P)
 (hn:∀s,I l.length s→Wp (fn s) P):Wp ((kK step l s).bind (Fw.tg fn fx fr)) P:=by
 rw[dQ];refine(KV I _ _ h0 h).mono ?_;intro w hw
 cases w with
 | n s=>exact hn s hw
 | x e=>exact hw
 | r b=>exact hw
end Go.VE
