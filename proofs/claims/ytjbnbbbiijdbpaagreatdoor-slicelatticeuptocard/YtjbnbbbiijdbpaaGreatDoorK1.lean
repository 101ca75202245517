/-
 Certificates; functions by hand; readings; plain laws.
-/
import Derived.JoinedCond
import Derived.ReadAgain
import Derived.WalkKit
import Derived.ProofKit
import Derived.OpenShut
import Derived.ChangeSame
import Derived.RowKit3
import Derived.Lib.LaidTab
import Derived.Test.YtjbnbbbiijdbpaaGreatDoorV2
import Derived.Test.YtjbnbbbiijdbpaaGreatDoorN2
import Derived.Test.YtjbnbbbiijdbpaaGreatDoorS1
set_option linter.all false
namespace Go.VE
variable [aX]
abbrev Cf:=Fo×List Fm×St
section
variable (S:Sys) (c:bE) {β:Type} (Q:Out×St→Option β)
noncomputable abbrev bN (cf:Cf):Option β:=rn S c Q cf.1 cf.2.1 cf.2.2
noncomputable def gz (n:Nat) (cf:Cf):Cf:=(fI S c n cf.1 cf.2.1 cf.2.2).getD cf
structure Bq where
 dr:Bool
 fr:List Nat
 d:Option Nat
 gd:Option (Nat×Bool)
 now:Bool
 k:K
 az:List Arg
 dd:List Nat
 l:List RO
 fs:List Fm
 st:St
noncomputable def iJ (n:Nat) (cf:Cf):Option Bq:=match fI S c n cf.1 cf.2.1 cf.2.2 with
 | some (.ops dr fr (⟨d,gd,now,k,az,dd,[]⟩::l),fs,st)=>match wanted st.g gd with
  | some true=>some ⟨dr,fr,d,gd,now,k,az,dd,l,fs,st⟩
  | _=>none
 | _=>none
noncomputable def nx (n:Nat) (cf:Cf) (φ:Bq→St):Cf:=match iJ S c n cf with
 | some p=>(.ops p.dr (if p.dr then(match p.k with|.p _|.r _=>p.fr|_=>match p.d with|some d=>d::p.fr|none=>p.fr)else p.fr) p.l,p.fs,lM p.dd (φ p))
 | none=>cf
end
def rA (s:Nat) (b:Bool) (cf:Cf):Cf:=(cf.1,cf.2.1,{ cf.2.2 with g:=aV cf.2.2.g s (.v (.bool b)) })
def jmp (k:Nat) (fr:List Nat) (cf:Cf) (st:St):Cf:=match cf with
 | (.ops dr _ l,fs,_)=>(.ops dr fr (l.drop k),fs,st)
 | _=>(.rt,[],st)
def ru:RC→List Nat→List Fm→St→Cf
 | c,[],fs,st=>(.rc c,fs,st)
 | .seq a b,i::p,fs,st=>if i=0 then ru a p (.seq b::fs) st else ru b p fs st
 | .cond _ a b,i::p,fs,st=>if i=0 then ru a p fs st else ru b p fs st
 | .block id c,_::p,fs,st=>ru c p (.blk id::fs) st
 | .gh _ c,_::p,fs,st=>ru c p fs st
 | .hg c g,_::p,fs,st=>ru c p (.gst g::fs) st
 | .loop c,_::p,_,st=>ru c p [] st
 | .each _ _ _ b,_::p,_,st=>ru b p [] st
 | c,_,fs,st=>(.rc c,fs,st)
section
variable {S:Sys} {c:bE} {β γ δ α:Type} {Q:Out×St→Option β} {e:γ→Option β} {cf:Cf}
theorem iu {n:Nat} {p:Bq} (h:iJ S c n cf=some p):fI S c n cf.1 cf.2.1 cf.2.2=some (.ops p.dr p.fr (⟨p.d,p.gd,p.now,p.k,p.az,p.dd,[]⟩::p.l),p.fs,p.st)∧wanted p.st.g p.gd=some true:=by
 unfold iJ at h;split at h
 ·rename_i h1;split at h
  ·rename_i h2;cases h;exact⟨h1,h2⟩
  ·cases h
 ·cases h
theorem Am {n:Nat} {m:Option δ} {φ:δ→Bq→St} {f:δ→Option γ} {p:Bq} (hp:iJ S c n cf=some p) (hs:Le (m.bind fun x=>some (φ x p)) (dZ S c p.dr p.fr ⟨p.d,none,p.now,p.k,p.az,[],[]⟩ p.st))
 (h:∀x,m=some x→Le ((f x).bind e) (bN S c Q (nx S c n cf (φ x)))):Le ((m.bind f).bind e) (bN S c Q cf):=by
 obtain⟨h1,h2⟩:=iu hp;refine AY h1 rfl h2 hs fun x hx=>?_
 have:=h x hx;simp only[nx,hp]at this;exact this
theorem AT {n:Nat} {m:Option β} {φ:Bq→St} {p:Bq} (hp:iJ S c n cf=some p) (hs:dZ S c p.dr p.fr ⟨p.d,none,p.now,p.k,p.az,[],[]⟩ p.st=some (φ p))
 (h:Le m (bN S c Q (nx S c n cf φ))):Le m (bN S c Q cf):=by
 obtain⟨h1,h2⟩:=iu hp;refine pq h1 rfl h2 hs ?_;simp only[nx,hp]at h;exact h
theorem gE {α β:Type} {o:Option α} {f:α→β} {b:β} (h:o.map f=some b):∃a,o=some a∧f a=b:=ζf.1 h
theorem AH (n:Nat) {m:Option β} {cf':Cf} (h:Le m (bN S c Q cf')) (hL:fI S c n cf.1 cf.2.1 cf.2.2=some cf':=by kernel_rfl):Le m (bN S c Q cf):=AV hL h
theorem aJ (n s:Nat) {t:Bool} {x y:Option γ} (ha:Le (x.bind e) (bN S c Q (rA s true (gz S c n cf)))) (hb:Le (y.bind e) (bN S c Q (rA s false (gz S c n cf))))
 (hL:(fI S c n cf.1 cf.2.1 cf.2.2).map (fun p=>an p.2.2.g s)=some (some (.v (.bool t))):=by kernel_rfl):Le ((au t x y).bind e) (bN S c Q cf):=by
 obtain⟨p,hp,hv⟩:=gE hL;have hg:gz S c n cf=p:=by unfold gz;rw[hp];rfl
 rw[hg]at ha hb;refine AV hp ?_;cases t
 ·have:rA s false p=p:=by unfold rA;rw[nS hv]
  rw[this]at hb;exact hb
 ·have:rA s true p=p:=by unfold rA;rw[nS hv]
  rw[this]at ha;exact ha
theorem cG (n s:Nat) {t:Bool} {x y:Option γ} (ha:Le (x.bind e) (bN S c Q (rA s false (gz S c n cf)))) (hb:Le (y.bind e) (bN S c Q (rA s true (gz S c n cf))))
 (hL:(fI S c n cf.1 cf.2.1 cf.2.2).map (fun p=>an p.2.2.g s)=some (some (.v (.bool (!t)))):=by kernel_rfl):Le ((au t x y).bind e) (bN S c Q cf):=by
 obtain⟨p,hp,hv⟩:=gE hL;have hg:gz S c n cf=p:=by unfold gz;rw[hp];rfl
 rw[hg]at ha hb;refine AV hp ?_;cases t
 ·have:rA s true p=p:=by unfold rA;rw[show V.bool true=V.bool (!false)from rfl,nS hv]
  rw[this]at hb;exact hb
 ·have:rA s false p=p:=by unfold rA;rw[show V.bool false=V.bool (!true)from rfl,nS hv]
  rw[this]at ha;exact ha
theorem WZ (n k:Nat) (fr:List Nat) (st:δ→St) {m:Option δ} {f:δ→Option γ} (h2:Le (m.bind fun r=>bN S c Q (jmp k fr (gz S c n cf) (st r))) (bN S c Q cf))
 (h1:∀r,Le ((f r).bind e) (bN S c Q (jmp k fr (gz S c n cf) (st r)))):Le ((m.bind f).bind e) (bN S c Q cf):=LY _ h2 h1
theorem aA (n:Nat) {r:δ} {k:δ→Cf} (hL:fI S c n cf.1 cf.2.1 cf.2.2=some (k r):=by kernel_rfl):Le ((some r).bind fun r=>bN S c Q (k r)) (bN S c Q cf):=Zl (e:=fun r=>bN S c Q (k r)) hL rfl
theorem aj {r:γ} {L:Option β} (h:L=e r:=by kernel_rfl):Le ((some r).bind e) L:=Le.of_eq h
theorem Ab (n:Nat) {b:RC} {m:Option (Out×Tb aQ)} (h:Le m (bN S c sO (.rc b,[],(gz S c n cf).2.2))) (hL:fI S c n cf.1 cf.2.1 cf.2.2=some (.nx,[],(gz S c n cf).2.2):=by kernel_rfl):Le m (bN S c (uR S c b) cf):=UN hL h
theorem Y4 (n:Nat) {o:Option α} (A:Option α→St) {f:α→Option γ} (h2:∀x,o=some x→Le ((f x).bind e) (bN S c Q ((gz S c n cf).1,(gz S c n cf).2.1,A (some x))))
 (hL:fI S c n cf.1 cf.2.1 cf.2.2=some ((gz S c n cf).1,(gz S c n cf).2.1,A o):=by kernel_rfl):Le ((o.bind f).bind e) (bN S c Q cf):=Wn hL h2
theorem lE.Y6 {S:Sys} {T:pJ} [aI δ] {f:FuncId} {A:α→List V} {p:α→Option δ} (hT:T f=none) (hk:S.E.keep f=false) (ho:∀z r,p z=some r→S.vF f (A z)=some (enc r))
 (l:∀z,V.ck 8 (A z)=true:=by intro z;simp) (hr:∀r:δ,V.lvl 8 (result [enc r])=true:=by intro r;simp):lE S (dU S T) f A (fun r=>[enc r]) p false where
 k:=hk
 h z:=by
  intro y hy;obtain⟨r,h1,h2⟩:=ζg.1 hy;cases h2;have h:=Bk hT hk (ho z r h1);unfold jJ;rw[h];exact wq 8 [enc r]
 l:=l
 r:=hr
 s h:=by cases h
def SA:K→Option (Nat×Nat×List Nat)
 | .a (.buildSl sz ln _ ix)=>some (sz,ln,ix)
 | _=>none
theorem Uk {k:K} {r:Nat×Nat×List Nat} (h:SA k=some r):∃z,k=.a (.buildSl r.1 r.2.1 z r.2.2):=by
 unfold SA at h;split at h
 ·cases h;exact⟨_,rfl⟩
 ·cases h
def TQ:K→Option (List V)
 | .a (.alloc _ zero)=>some zero
 | _=>none
theorem Vo {k:K} {z:List V} (h:TQ k=some z):∃n,k=.a (.alloc n z):=by
 unfold TQ at h;split at h
 ·cases h;exact⟨_,rfl⟩
 ·cases h
section
variable [aI α]
theorem WS (k:IntKind) (n:Nat) {s:Sl α} {i:Int} {f:α→Option γ} (h:∀x,idx s i=some x→Le ((f x).bind e) (bN S c Q (nx S c n cf fun p=>cr p.st p.d (cp x))))
 (hL:(iJ S c n cf).map (fun p=>(p.k,bp S.N p.st.g p.az))=some (.p (.idxS (aI.size α)),some [.v (bz s),.v (.int k i)]):=by kernel_rfl):Le (((idx s i).bind f).bind e) (bN S c Q cf):=by
 obtain⟨p,hp,hv⟩:=gE hL;simp only[ζc]at hv;refine Am hp ?_ h;rw[hv.1];exact Le.of_eq (L9 hv.2 rfl)
theorem bn (n:Nat) {s:Sl α} {i:Int} {f:α→Option γ} (h:∀x,idx s i=some x→Le ((f x).bind e) (bN S c Q (nx S c n cf fun p=>cr p.st p.d (cp x))))
 (hL:(iJ S c n cf).map (fun p=>(p.k,bp S.N p.st.g p.az))=some (.p (.idxS (aI.size α)),some [.v (bz s),.v (.int .i64 i)]):=by kernel_rfl):Le (((idx s i).bind f).bind e) (bN S c Q cf):=WS .i64 n h hL
theorem tU (k:IntKind) (n u:Nat) {s:Sl α} {i:Int} {f:Nat→Option γ} (h:∀x,s.oR i=some x→Le ((f x).bind e) (bN S c Q (nx S c n cf fun p=>cr p.st p.d (.el u x 0))))
 (hL:(iJ S c n cf).map (fun p=>(p.k,bp S.N p.st.g p.az,an p.st.m u))=some (.p (.idxS (aI.size α)),some [.own u,.v (.int k i)],some (cR s)):=by kernel_rfl):Le (((s.oR i).bind f).bind e) (bN S c Q cf):=by
 obtain⟨p,hp,hv⟩:=gE hL;simp only[ζc]at hv;refine Am hp ?_ h;rw[hv.1];exact Le.of_eq (Wd hv.2.1 hv.2.2 rfl)
theorem za (n u o sz:Nat) (a:Bool) (v:α→V) {s:Sl α} {i:Nat} {f:α→Option γ} (h:∀x,s.get i=some x→Le ((f x).bind e) (bN S c Q (nx S c n cf fun p=>cr p.st p.d (.v (v x)))))
 (hL:(iJ S c n cf).map (fun p=>(p.k,bp S.N p.st.g p.az,an p.st.m u,(!p.dr||p.now||dV p.fr [.el u i o])))=some (.r (.load sz a),some [.el u i o],some (cR s),true):=by kernel_rfl) (hv:∀x:α,(cut (cells x) o sz).bind (mk a)=some (v x):=by intro _;rfl):Le (((s.get i).bind f).bind e) (bN S c Q cf):=by
 obtain⟨p,hp,hv'⟩:=gE hL;simp only[ζc]at hv';refine Am hp ?_ h;rw[hv'.1];exact Le.of_eq (Vx hv'.2.1 hv'.2.2.2 hv'.2.2.1 hv)
theorem KR (n u:Nat) (x:V) {s:Sl α} {i:Nat} {a:α} {f:Sl α→Option γ} (h:∀s',s.put i a=some s'→Le ((f s').bind e) (bN S c Q (nx S c n cf fun p=>cr { p.st with m:=aV p.st.m u (cR s') } p.d (.v .undef))))
 (hL:(iJ S c n cf).map (fun p=>(p.k,bp S.N p.st.g p.az,an p.st.m u,(!p.dr||p.now),x.cells))=some (.l (.store (aI.size α)),some [.el u i 0,.v x],some (cR s),true,cells a):=by kernel_rfl):Le (((s.put i a).bind f).bind e) (bN S c Q cf):=by
 obtain⟨p,hp,hv⟩:=gE hL;simp only[ζc]at hv;refine Am hp ?_ h;rw[hv.1];exact Le.of_eq (M6 hv.2.1 hv.2.2.2.1 hv.2.2.1 hv.2.2.2.2 rfl)
theorem XA (n u:Nat) {i:Int} {z:α} {f:Sl α→Option γ} (h:∀s',sV i z=some s'→Le ((f s').bind e) (bN S c Q (nx S c n cf fun p=>{ p.st with g:=aV p.st.g u (.own u),m:=aV p.st.m u (cR s') })))
 (hL:(iJ S c n cf).map (fun p=>(p.d,p.k,bp S.N p.st.g p.az,p.st.new u))=some (some u,.a (.makeSl (aI.size α) (cells z)),some [.v (.int .i64 i),.v (.int .i64 i)],true):=by kernel_rfl):Le (((sV i z).bind f).bind e) (bN S c Q cf):=by
 obtain⟨p,hp,hv⟩:=gE hL;simp only[ζc]at hv;refine Am hp ?_ h;rw[hv.1,hv.2.1];exact Le.of_eq (Vj hv.2.2.1 rfl rfl hv.2.2.2)
theorem CT (n o w u:Nat) {s:Sl α} {x:α} {f:Sl α→Option γ} (h:∀s',kB s x=some s'→Le ((f s').bind e) (bN S c Q (nx S c n cf fun p=>{ p.st with g:=aV p.st.g u (.own u),m:=aV (dm o p.st.m) u (cR s') })))
 (hL:(iJ S c n cf).map (fun p=>(p.d,p.k,bp S.N p.st.g p.az,(!p.dr||p.now),an p.st.m o,an p.st.m w,St.new { p.st with m:=dm o p.st.m } u))=some (some u,.l (.append (aI.size α)),some [.own o,.own w],true,some (cR s),some (cR (.row [x])),true):=by kernel_rfl):Le (((kB s x).bind f).bind e) (bN S c Q cf):=by
 obtain⟨p,hp,hv⟩:=gE hL;simp only[ζc]at hv;refine Am hp ?_ h;rw[hv.1,hv.2.1];exact Le.of_eq (W0 hv.2.2.1 hv.2.2.2.1 hv.2.2.2.2.1 hv.2.2.2.2.2.1 rfl hv.2.2.2.2.2.2)
theorem MF (n w u:Nat) (v:V) (x:α) {m:Option β} (h:Le m (bN S c Q (nx S c n cf fun p=>{ p.st with g:=aV p.st.g u (.own u),m:=aV p.st.m u (cR (.row [x])) }))) (hv:v=.aG∨v=.cC:=by first|exact .inl rfl|exact .inr rfl)
 (hL:(iJ S c n cf).map (fun p=>(p.d,p.k,bp S.N p.st.g p.az,(!p.dr||p.now),an p.st.m w,p.st.new u))=some (some u,.l (.append (aI.size α)),some [.v v,.own w],true,some (cR (.row [x])),true):=by kernel_rfl):Le m (bN S c Q cf):=by
 obtain⟨p,hp,hq⟩:=gE hL;simp only[ζc]at hq;refine AT hp ?_ h;rw[hq.1,hq.2.1];exact VL hv hq.2.2.1 hq.2.2.2.1 hq.2.2.2.2.1 rfl hq.2.2.2.2.2
theorem aZ (n:Nat) (s:Sl α) {m:Option β} (h:Le m (bN S c Q (nx S c n cf fun p=>cr p.st p.d (.v (.int .i64 s.l.length)))))
 (hL:(iJ S c n cf).map (fun p=>(p.k,bp S.N p.st.g p.az))=some (.p .lenSl,some [.v (bz s)]):=by kernel_rfl):Le m (bN S c Q cf):=by
 obtain⟨p,hp,hv⟩:=gE hL;simp only[ζc]at hv;refine AT hp ?_ h;rw[hv.1];exact Mf hv.2
theorem HC (n u:Nat) (s:Sl α) {m:Option β} (h:Le m (bN S c Q (nx S c n cf fun p=>cr p.st p.d (.v (.int .i64 s.l.length)))))
 (hL:(iJ S c n cf).map (fun p=>(p.k,bp S.N p.st.g p.az,an p.st.m u))=some (.p .lenSl,some [.own u],some (cR s)):=by kernel_rfl):Le m (bN S c Q cf):=by
 obtain⟨p,hp,hv⟩:=gE hL;simp only[ζc]at hv;refine AT hp ?_ h;rw[hv.1];exact VF hv.2.1 hv.2.2
theorem Ge (n:Nat) (lo hi:Bool) (bs:List V) {s:Sl α} {a b:Option Int} {f:Sl α→Option γ} (h:∀x,gy s a b=some x→Le ((f x).bind e) (bN S c Q (nx S c n cf fun p=>cr p.st p.d (.v (bz x)))))
 (hL:(iJ S c n cf).map (fun p=>(p.k,bp S.N p.st.g p.az,jy lo hi bs))=some (.p (.slice (aI.size α) lo hi),some (.v (bz s)::bs.map .v),some (a,b)):=by kernel_rfl):Le (((gy s a b).bind f).bind e) (bN S c Q cf):=by
 obtain⟨p,hp,hv⟩:=gE hL;simp only[ζc]at hv;obtain⟨h1,h2⟩:=iu hp;obtain⟨dr,fr,d,gd,now,k,az,dd,l,fs,st⟩:=p;obtain⟨rfl,h3,h4⟩:=hv;exact YY n dr fr (⟨d,gd,now,.p (.slice (aI.size α) lo hi),az,dd,[]⟩::l) fs st lo hi bs (sz:=aI.size α) rfl (by(try dsimp only at *);simp only[h1,h2,h3,h4]) fun s' hs=>by
  have:=h s' hs;simp only[nx,hp]at this;exact this
theorem Xe (n:Nat) (lo hi:Bool) (u t:Nat) (bs:List V) {s:Sl α} {a b:Option Int} {f:Sl α→Option γ} (h:∀x,kN s a b=some x→Le ((f x).bind e) (bN S c Q (nx S c n cf fun p=>{ p.st with g:=aV p.st.g t (.own t),m:=aV (dm u p.st.m) t (cR x) })))
 (hL:(iJ S c n cf).map (fun p=>(p.d,p.k,p.dr,bp S.N p.st.g p.az,jy lo hi bs,an p.st.m u,St.new { p.st with m:=dm u p.st.m } t))=some (some t,.p (.slice (aI.size α) lo hi),false,some (.own u::bs.map .v),some (a,b),some (cR s),true):=by kernel_rfl):Le (((kN s a b).bind f).bind e) (bN S c Q cf):=by
 obtain⟨p,hp,hv⟩:=gE hL;simp only[ζc]at hv;obtain⟨h1,h2⟩:=iu hp;obtain⟨dr,fr,d,gd,now,k,az,dd,l,fs,st⟩:=p;obtain⟨rfl,rfl,rfl,h3,h4,h5,h6⟩:=hv;exact We n fr (⟨some t,gd,now,.p (.slice (aI.size α) lo hi),az,dd,[]⟩::l) fs st lo hi u bs (sz:=aI.size α) rfl h6 (by(try dsimp only at *);simp only[h1,h2,h3,h4,h5]) fun s' hs=>by
  have:=h s' hs;simp only[nx,hp]at this;exact this
theorem ct (n u:Nat) (x:α) {m:Option β} (h:Le m (bN S c Q (nx S c n cf fun p=>{ p.st with g:=aV p.st.g u (.ptr u 0),m:=aV p.st.m u (bx x) })))
 (hL:(iJ S c n cf).map (fun p=>(p.d,p.k,bp S.N p.st.g p.az,p.st.new u))=some (some u,.a .box,some [cv x],true):=by kernel_rfl):Le m (bN S c Q cf):=by
 obtain⟨p,hp,hv⟩:=gE hL;simp only[ζc]at hv;refine AT hp ?_ h;rw[hv.1,hv.2.1,zU,hv.2.2.1];simp only[ζb,hv.2.2.2,if_true,lU,ox,nV]
def XU (u o sz:Nat) (xs:List SV) (p:Bq):St:=match an p.st.m u with
 | some (.box cs)=>cr { p.st with m:=aV p.st.m u (.box (cs.take o++xs++cs.drop (o+sz))) } p.d (.v .undef)
 | _=>p.st
theorem ov (n u o:Nat) (x:α) {m:Option β} (h:Le m (bN S c Q (nx S c n cf (XU u o (aI.size α) ((cells x).map .v)))))
 (hL:(iJ S c n cf).map (fun p=>(p.k,bp S.N p.st.g p.az,(!p.dr||p.now),match an p.st.m u with|some (.box cs)=>Nat.ble (o+aI.size α) cs.length|_=>false))=some (.l (.store (aI.size α)),some [.ptr u o,cv x],true,true):=by kernel_rfl):Le m (bN S c Q cf):=by
 obtain⟨p,hp,hv⟩:=gE hL;simp only[ζc]at hv;refine AT hp ?_ h;obtain⟨h1,h2,h3,h4⟩:=hv;split at h4
 ·rename_i cs hcs;have h9:=Nat.le_of_ble_eq_true h4;rw[h1,vv,h2];simp only[ζb,h3,if_true,lI,hcs,putCells,ox,eV,nV,h9,and_self,Option.map_some,XU]
 ·cases h4
theorem XN (n u:Nat) (xs:List α) {m:Option β} (h:Le m (bN S c Q (nx S c n cf fun p=>{ p.st with g:=aV p.st.g u (.own u),m:=aV p.st.m u (cR (.row xs)) })))
 (hL:(iJ S c n cf).map (fun p=>(p.d,SA p.k,bp S.N p.st.g p.az,p.st.new u))=some (some u,some (aI.size α,xs.length,List.range' 0 xs.length),some ((xs.map enc).map .v),true):=by kernel_rfl):Le m (bN S c Q cf):=by
 obtain⟨p,hp,hv⟩:=gE hL;simp only[ζc]at hv;obtain⟨h1,h2⟩:=iu hp;obtain⟨dr,fr,d,gd,now,k,az,dd,l,fs,st⟩:=p;obtain⟨rfl,h5,h3,h4⟩:=hv;obtain⟨z,rfl⟩:=Uk h5;exact ZE n dr fr (⟨some u,gd,now,.a (.buildSl (aI.size α) xs.length z (List.range' 0 xs.length)),az,dd,[]⟩::l) fs st xs rfl h4 (by(try dsimp only at *);simp only[h1,h2,h3]) (by
  simp only[nx,hp]at h;exact h)
end
theorem vQ (n:Nat) (k:IntKind) {a:ByteArray} {b:Int} {f:Int→Option γ} (h:∀x,gO a b=some x→Le ((f x).bind e) (bN S c Q (nx S c n cf fun p=>cr p.st p.d (.v (.int .u8 x)))))
 (hL:(iJ S c n cf).map (fun p=>(p.k,bp S.N p.st.g p.az))=some (.p .idxStr,some [.v (.str a),.v (.int k b)]):=by kernel_rfl):Le (((gO a b).bind f).bind e) (bN S c Q cf):=by
 obtain⟨p,hp,hv⟩:=gE hL;simp only[ζc]at hv;refine Am hp ?_ h;rw[hv.1];exact Le.of_eq (Ll hv.2)
section
variable {A:α→List V} {E:δ→List V} {pl:α→Option δ} {fn:FuncId} {sc:Bool}
theorem rN (n:Nat) (F:lE S c fn A E pl sc) (z:α) {f:δ→Option γ} (h:∀x,pl z=some x→Le ((f x).bind e) (bN S c Q (nx S c n cf fun p=>cr p.st p.d (.v (result (E x))))))
 (hL:(iJ S c n cf).map (fun p=>(p.k,(bp S.N p.st.g p.az).bind oD,(!p.dr||p.now||fU p.st.m p.fr [])))=some (.c,some (fn,(A z).map .v),true):=by kernel_rfl):Le (((pl z).bind f).bind e) (bN S c Q cf):=by
 obtain⟨p,hp,hv⟩:=gE hL;simp only[ζc]at hv;obtain⟨h3,h4,h5⟩:=hv;obtain⟨svs,g1,g2⟩:=ζg.1 h4;have hnil:∀d (vs:List V),SV.cA d (vs.map .v)=false:=fun d vs=>by
  induction vs with
  | nil=>rfl
  | cons a l ih=>simp only[List.map_cons,SV.cA,SV.bW,ih,Bool.or_self]
 have ho:(!p.dr||p.now||fU p.st.m p.fr ((A z).map .v))=true:=by
  have:fU p.st.m p.fr ((A z).map .v)=fU p.st.m p.fr []:=by unfold fU;simp only[hnil];rfl
  rw[this];exact h5
 refine Am hp ?_ h;rw[h3];exact C1 (F.h z) F.k g1 g2 (Dh _ _ _) (F.l z) ho (fun r=>by rw[F.r,sB];simp)
theorem Rw (n:Nat) (F:lE S c fn A E pl true) (z:α) {f:δ→Option γ} (h:∀x,pl z=some x→Le ((f x).bind e) (bN S c Q (nx S c n cf fun p=>cr p.st p.d (.v (result (E x))))))
 (hL:(iJ S c n cf).map (fun p=>(p.k,((bp S.N p.st.g p.az).bind oD).bind fun q=>(lu (gD p.st.m 8) q.2).map fun vs=>(q.1,vs,((!p.dr||p.now)||fU p.st.m p.fr q.2))))=some (.c,some (fn,A z,true)):=by kernel_rfl):Le (((pl z).bind f).bind e) (bN S c Q cf):=by
 obtain⟨p,hp,hv⟩:=gE hL;simp only[ζc]at hv;obtain⟨h3,h4⟩:=hv;obtain⟨q,g1,g2⟩:=ζg.1 h4;obtain⟨svs,g3,g4⟩:=ζg.1 g1;obtain⟨vs,g5,g6⟩:=ζf.1 g2;simp only[ζc]at g6;obtain⟨e1,rfl,e3⟩:=g6;refine Am hp ?_ h;rw[h3];exact C1 (F.h z) F.k g3 (by rw[g4,←e1]) g5 (F.l z) e3 (fun r=>by rw[F.r,F.s rfl];rfl)
end
section
variable {N:Nat} [aI α]
theorem Mz (n:Nat) (k:IntKind) {a:bq N α} {i:Int} {f:α→Option γ} (h:∀x,a.at i=some x→Le ((f x).bind e) (bN S c Q (nx S c n cf fun p=>cr p.st p.d (.v (.fptr (pa a i))))))
 (hL:(iJ S c n cf).map (fun p=>(p.k,bp S.N p.st.g p.az))=some (.p (.idxA N (aI.size α)),some [cp a,.v (.int k i)]):=by kernel_rfl):Le (((a.at i).bind f).bind e) (bN S c Q cf):=by
 obtain⟨p,hp,hv⟩:=gE hL;simp only[ζc]at hv;obtain⟨h1,h2⟩:=iu hp;obtain⟨dr,fr,d,gd,now,k',az,dd,l,fs,st⟩:=p;obtain⟨rfl,h3⟩:=hv;exact Wv n dr fr (⟨d,gd,now,.p (.idxA N (aI.size α)),az,dd,[]⟩::l) fs st k (sz:=aI.size α) (ln:=N) rfl (by(try dsimp only at *);simp only[h1,h2,h3]) fun x hx=>by
  have:=h x hx;simp only[nx,hp]at this;exact this
theorem Lf (n k:Nat) (a:bq N α) (i:Int) (o:Nat) (x:α) (hx:a.at i=some x) {m:Option β} (h:Le m (bN S c Q (nx S c n cf fun p=>cr p.st p.d (.v (.fptr ((pa a i).drop (o+k)))))))
 (hL:(iJ S c n cf).map (fun p=>(p.k,bp S.N p.st.g p.az,Nat.ble (o+k) (aI.size α)))=some (.p (.fieldAddr k),some [.v (.fptr ((pa a i).drop o))],true):=by kernel_rfl):Le m (bN S c Q cf):=by
 obtain⟨p,hp,hv⟩:=gE hL;simp only[ζc]at hv;obtain⟨h1,h2⟩:=iu hp;obtain⟨dr,fr,d,gd,now,k',az,dd,l,fs,st⟩:=p;obtain⟨rfl,h3,h4⟩:=hv;exact Y_ n dr fr (⟨d,gd,now,.p (.fieldAddr k),az,dd,[]⟩::l) fs st a i o x hx rfl (by(try dsimp only at *);simp only[h1,h2,h3,h4]) (by
  simp only[nx,hp]at h;exact h)
theorem MC (n sz:Nat) (ag:Bool) (a:bq N α) (i:Int) (o:Nat) (x:α) (hx:a.at i=some x) (v:V) (hv:(cut (cells x) o sz).bind (mk ag)=some v) {m:Option β} (h:Le m (bN S c Q (nx S c n cf fun p=>cr p.st p.d (.v v))))
 (hL:(iJ S c n cf).map (fun p=>(p.k,bp S.N p.st.g p.az))=some (.r (.load sz ag),some [.v (.fptr ((pa a i).drop o))]):=by kernel_rfl):Le m (bN S c Q cf):=by
 obtain⟨p,hp,hv'⟩:=gE hL;simp only[ζc]at hv';obtain⟨h1,h2⟩:=iu hp;obtain⟨dr,fr,d,gd,now,k',az,dd,l,fs,st⟩:=p;obtain⟨rfl,h3⟩:=hv';exact WX n dr fr (⟨d,gd,now,.r (.load sz ag),az,dd,[]⟩::l) fs st a i o x hx hv v rfl (by(try dsimp only at *);simp only[h1,h2,h3]) (by
  simp only[nx,hp]at h;exact h)
theorem S9 (n u:Nat) (st:St) (cs:List SV) {m:Option β} (h4:st.new u=true) (h:Le m (bN S c Q (nx S c n cf fun _=>{ st with g:=aV st.g u (.ptr u 0),m:=aV st.m u (.box cs) })))
 (hL:(iJ S c n cf).map (fun p=>(p.d,(TQ p.k).map (fun z=>z.map SV.v),bp S.N p.st.g p.az,p.st))=some (some u,some cs,some [],st):=by kernel_rfl):Le m (bN S c Q cf):=by
 obtain⟨p,hp,hv⟩:=gE hL;simp only[ζc]at hv;obtain⟨z,hz,hz2⟩:=gE hv.2.1;obtain⟨k,hk⟩:=Vo hz;refine AT hp ?_ h;rw[hv.1,hk,zU,hv.2.2.1,hv.2.2.2];simp only[ζb,h4,if_true,lU,hz2]
theorem Ce (n:Nat) (k:IntKind) (u:Nat) {a:bq N α} {i:Int} {f:α→Option γ} (h:∀x,a.at i=some x→Le ((f x).bind e) (bN S c Q (nx S c n cf fun p=>cr p.st p.d (.ptr u (i.toNat*aI.size α+0)))))
 (hL:(iJ S c n cf).map (fun p=>(p.k,bp S.N p.st.g p.az,an p.st.m u))=some (.p (.idxA N (aI.size α)),some [.ptr u 0,.v (.int k i)],some (bx a)):=by kernel_rfl):Le (((a.at i).bind f).bind e) (bN S c Q cf):=by
 obtain⟨p,hp,hv⟩:=gE hL;simp only[ζc]at hv;obtain⟨h1,h2⟩:=iu hp;obtain⟨dr,fr,d,gd,now,k',az,dd,l,fs,st⟩:=p;obtain⟨rfl,h3,h4⟩:=hv;exact Wh n dr fr (⟨d,gd,now,.p (.idxA N (aI.size α)),az,dd,[]⟩::l) fs st k u (sz:=aI.size α) (ln:=N) rfl (by(try dsimp only at *);simp only[h1,h2,h3,h4]) fun x hx=>by
  have:=h x hx;simp only[nx,hp]at this;exact this
theorem L6 (n sz:Nat) (ag:Bool) (u:Nat) (a:bq N α) (i:Int) (o:Nat) (x:α) (hx:a.at i=some x) (v:V) (hv:(cut (cells x) o sz).bind (mk ag)=some v) {m:Option β} (h:Le m (bN S c Q (nx S c n cf fun p=>cr p.st p.d (.v v))))
 (hL:(iJ S c n cf).map (fun p=>(p.k,bp S.N p.st.g p.az,an p.st.m u,(!p.dr||p.now||dV p.fr [.ptr u 0])))=some (.r (.load sz ag),some [.ptr u (i.toNat*aI.size α+o)],some (bx a),true):=by kernel_rfl):Le m (bN S c Q cf):=by
 obtain⟨p,hp,hv'⟩:=gE hL;simp only[ζc]at hv';obtain⟨h1,h2⟩:=iu hp;obtain⟨dr,fr,d,gd,now,k',az,dd,l,fs,st⟩:=p;obtain⟨rfl,h3,h4,h5⟩:=hv';exact Wg n dr fr (⟨d,gd,now,.r (.load sz ag),az,dd,[]⟩::l) fs st u a i o x hx hv v rfl (by(try dsimp only at *);simp only[h1,h2,h3,h4,h5]) (by
  simp only[nx,hp]at h;exact h)
theorem MH (n sz u:Nat) (a:bq N α) (i:Int) (o:Nat) (x:α) (hx:a.at i=some x) (y:α) (v:V) (hy:cells y=(cells x).take o++v.cells++(cells x).drop (o+sz)) {m:Option β} (h:Le m (bN S c Q (nx S c n cf fun p=>cr { p.st with m:=aV p.st.m u (bx (a.set i y)) } p.d (.v .undef))))
 (hL:(iJ S c n cf).map (fun p=>(p.k,bp S.N p.st.g p.az,an p.st.m u,(!p.dr||p.now),v.cells.length,v.cells.all V.one,Nat.ble (o+sz) (aI.size α)))=some (.l (.store sz),some [.ptr u (i.toNat*aI.size α+o),.v v],some (bx a),true,sz,true,true):=by kernel_rfl):Le m (bN S c Q cf):=by
 obtain⟨p,hp,hv'⟩:=gE hL;simp only[ζc]at hv';obtain⟨h1,h2⟩:=iu hp;obtain⟨dr,fr,d,gd,now,k',az,dd,l,fs,st⟩:=p;obtain⟨rfl,h3,h4,h5,h6,h7,h8⟩:=hv';exact WN n dr fr (⟨d,gd,now,.l (.store sz),az,dd,[]⟩::l) fs st u a i o x hx y v hy rfl (by(try dsimp only at *);simp only[h1,h2,h3,h4,h5,h6,h7,h8]) (by
  simp only[nx,hp]at h;exact h)
end
section
variable {κ ν:Type} [aI κ] [DecidableEq κ] [Key κ] [aI ν]
theorem Ws (n u:Nat) (mp:Mo κ ν) (k:κ) (z:ν) {m:Option β} (h:Le m (bN S c Q (nx S c n cf fun p=>cr p.st p.d (cv (AB mp k z)))))
 (hL:(iJ S c n cf).map (fun p=>(p.k,bp S.N p.st.g p.az,an p.st.m u,(!p.dr||p.now||dV p.fr [.mp u,cv k])))=some (.r (.lookup (Key.kk κ) (enc z) false),some [.mp u,cv k],some (sy mp),true):=by kernel_rfl):Le m (bN S c Q cf):=by
 obtain⟨p,hp,hv⟩:=gE hL;simp only[ζc]at hv;obtain⟨h1,h2⟩:=iu hp;obtain⟨dr,fr,d,gd,now,k',az,dd,l,fs,st⟩:=p;obtain⟨rfl,h3,h4,h5⟩:=hv;exact V8 n dr fr (⟨d,gd,now,.r (.lookup (Key.kk κ) (enc z) false),az,dd,[]⟩::l) fs st u mp k z rfl (by(try dsimp only at *);simp only[h1,h2,h3,h4,h5]) (by
  simp only[nx,hp]at h;exact h)
theorem Za (n u:Nat) (mp:Mo κ ν) (k:κ) (v:ν) {m:Option β} (h:Le m (bN S c Q (nx S c n cf fun p=>cr { p.st with m:=aV p.st.m u (sy (nK mp k v)) } p.d (.v .undef))))
 (hL:(iJ S c n cf).map (fun p=>(p.k,bp S.N p.st.g p.az,an p.st.m u,(!p.dr||p.now)))=some (.l (.mapUp (Key.kk κ)),some [.mp u,cv k,cv v],some (sy mp),true):=by kernel_rfl):Le m (bN S c Q cf):=by
 obtain⟨p,hp,hv'⟩:=gE hL;simp only[ζc]at hv';obtain⟨h1,h2⟩:=iu hp;obtain⟨dr,fr,d,gd,now,k',az,dd,l,fs,st⟩:=p;obtain⟨rfl,h3,h4,h5⟩:=hv';exact Zm n dr fr (⟨d,gd,now,.l (.mapUp (Key.kk κ)),az,dd,[]⟩::l) fs st u mp k v rfl (by(try dsimp only at *);simp only[h1,h2,h3,h4,h5]) (by
  simp only[nx,hp]at h;exact h)
end
theorem WQ (n:Nat) (st:St) {rs:List RV} {e:γ→Option (List V)} {r:γ} (svs:List SV) {ys:List V} (h2:lu (gD st.m 8) svs=some ys) (h3:e r=some ys)
 (h:(fI S c n cf.1 cf.2.1 cf.2.2).map (fun q=>(q.1,q.2.2,mN q.2.2 rs))=some (.rt,st,some svs):=by kernel_rfl):Le ((some r).bind e) (bN S c (nQ rs) cf):=by
 obtain⟨⟨fo,fs,st'⟩,hp,hv⟩:=gE h;simp only[ζc]at hv;obtain⟨rfl,rfl,h5⟩:=hv;exact V_ n svs h2 (by rw[hp,h5]) h3
end
end Go.VE
namespace Go.VE
variable [aX]
section
variable {S:Sys} {c:bE} {β γ δ α:Type} [aI α] {Q:Out×St→Option β} {e:γ→Option β} {cf:Cf}
def VC (s x:Sl α):Option (Sl α):=if x.l=[]then some s else if s.l.length+x.l.length≤2147483648 then some (.row (s.l++x.l))else none
end
end Go.VE
namespace Go.VE
variable [aX]
theorem vD {α:Type} {l:List α} {i:Nat} {x:α} (h:l[i]? = some x):l.set i x=l:=by
 obtain⟨hi,rfl⟩:=ζe.1 h;exact List.set_getElem_self hi
open Classical in
def Bw (x:List V):V:=x.headD .undef
section
variable {H:aq} {Z:Nat→Prop}
theorem b9.borrows {xs ys:List V} (h:b9 H Z xs ys) (hl:V.ck 8 xs=true):borrows 8 H ys=some xs:=by
 induction xs generalizing ys with
 | nil=>rw[h.b8];rfl
 | cons x xs ih=>
  obtain⟨y,ys,rfl,h1,h2⟩:=h.inv;simp only[V.ck,ζh]at hl;have:=ih h2 hl.2;unfold Go.VE.borrows at this ⊢;simp only[iR,h1.borrow 8 hl.1,this]
end
end Go.VE
namespace Go.VE
variable [aX]
def aF (N:Nat→FuncId) (F:Frame):Arg→V
 | .s n=>get F n
 | .k c=>c
 | .f s=>.clo (N s) [] []
def aS (E:Env) (N:Nat→FuncId) (call:b_) (b:Option Nat) (now:Bool) (k:K) (vs:List V) (H:aq):Option (V×aq):=
 match k,b with
 | .p p,_=>(ay N p vs).map fun v=>(v,H)
 | .r r,none=>(dD H r vs).map fun v=>(v,H)
 | .r r,some b=>(dD (H.take b) r vs).map fun v=>(v,H)
 | .a a,none=>(iz a vs).map fun x=>(x.2.val H.length,H++[x.1])
 | .l l,none=>dW H l vs
 | .l (.store n),some _=>if now then dW H (.store n) vs else none
 | .c,none=>match vs with
  | .clo g a c::av=>if E.keep g then d_ E call g (a++av++c) H else match bF call g (a++av++c) H with
   | some y=>if y.scalar then some (y,H)else none
   | none=>none
  | _=>none
 | .c,some b=>match vs with
  | .clo g a c::av=>if E.keep g then none else match bF call g (a++av++c) (H.take b)with
   | some y=>if y.scalar then some (y,H)else none
   | none=>none
  | _=>none
 | _,_=>none
def aC (F:Frame):Option Nat→V→Frame
 | none,_=>F
 | some d,v=>set F d v
def bO (E:Env) (N:Nat→FuncId) (call:b_) (b:Option Nat):List RO→Frame→aq→Option (Frame×aq)
 | [],F,H=>some (F,H)
 | o::r,F,H=>match o.gd with
  | none=>match aS E N call b o.now o.k (o.az.map (aF N F)) H with
   | some (v,H')=>bO E N call b r (aC F o.dst v) H'
   | none=>none
  | some _=>none
section
variable {X:CX} {N:Nat→FuncId} {call:b_} {F F':Frame} {H H':aq}
theorem Fp (hN:∀f s,X.nm f=some s→N s=f) {o:Operand} {x:Arg} (h:mP X.nm o=some x):ev F o=some (aF N F x):=by
 cases o with
 | tmp t=>simp only[mP,ζa]at h;subst h;rfl
 | const w=>
  simp only[mP]at h;split at h
  ·rename_i c hc;split at h
   ·simp only[ζa]at h;subst h;exact hc
   ·simp at h
  ·simp at h
 | func f=>
  simp only[mP]at h;obtain⟨s,hs,rfl⟩:=ζf.1 h;show some (V.clo f [] [])=some (.clo (N s) [] []);rw[hN f s hs]
 | global i=>
  simp only[mP]at h;split at h
  ·rename_i c hc;split at h
   ·simp only[ζa]at h;subst h;simp only[ev,hc,Option.map_some];rfl
   ·simp at h
  ·simp at h
theorem yS (hN:∀f s,X.nm f=some s→N s=f):∀{os:List Operand} {av:List Arg},os.mapM (mP X.nm)=some av→eF F os=some (av.map (aF N F))
 | [],av,h=>by simp only[List.mapM_nil,Option.pure_def,ζa]at h;subst h;rfl
 | o::os,av,h=>by
  simp only[List.mapM_cons,Option.pure_def,Option.bind_eq_bind,ζg,ζa]at h;obtain⟨x,hx,xs,hxs,rfl⟩:=h;simp only[eF,Fp hN hx,yS hN hxs,List.map_cons]
theorem vX (hN:∀f s,X.nm f=some s→N s=f) {draw:Bool} {ops:List Oper} {i:Nat} {o:Oper} {ro:RO} (h:jM X draw ops i o=some ro) (hg:ro.gd=none) :
 o.dst=ro.dst∧xm X.nt o.dst=true∧ez ops F o=true∧((FZ X.E N F o.op (ro.az.map (aF N F)) ro.k∧ro.now=(draw&&dG ops i))∨∃n,ro.k=.l (.storeF n)):=by
 unfold jM at h;split at h
 ·rename_i hd;split at h
  ·rename_i gd k os hgd hr;split at h
   ·obtain⟨av,ha,rfl⟩:=ζf.1 h;simp only at hg;subst hg;refine⟨rfl,hd,?_,?_⟩
    ·unfold ez;unfold Hq at hgd
     cases hgo:o.guard with
     | none=>rfl
     | some jb=>
      rw[hgo]at hgd;obtain⟨j,b⟩:=jb;obtain⟨d,_,e⟩:=ζf.1 hgd;cases e
    ·rcases ve draw ops i k os with e|⟨_,_,n,a,l,os',_,_,_,e⟩
     ·rw[e]at ha ⊢;exact .inl ⟨oS hN hr (yS hN ha),rfl⟩
     ·rw[e];exact .inr ⟨n,rfl⟩
   ·simp at h
  ·simp at h
 ·simp at h
theorem Dr {nt:Nat} {dst:Option Nat} (h:xm nt dst=true) (v:V):hU nt F dst v=some (aC F dst v):=by
 cases dst with
 | none=>rfl
 | some d=>simp only[xm,decide_eq_true_eq]at h;simp only[hU,if_pos h,aC]
theorem U7 (hN:∀f s,X.nm f=some s→N s=f) {ops:List Oper} {i:Nat} {o:Oper} {ro:RO} (h:jM X false ops i o=some ro) (hg:ro.gd=none) {v:V} (hv:aS X.E N call none ro.now ro.k (ro.az.map (aF N F)) H=some (v,H')) :
 en X.E call X.nt ops none o F H=some (aC F ro.dst v,H'):=by
 obtain⟨h1,h2,h3,h4⟩:=vX (F:=F) hN h hg;have hd:cT X.E call ops none F H o.op=some (v,H'):=by
  rcases h4 with⟨h4,_⟩|⟨n,h4⟩
  ·generalize hk:ro.k=k at hv h4;generalize ro.az.map (aF N F)=vs at hv h4;unfold cT
   cases k with
   | p p=>
    obtain⟨c,e⟩:=h4;obtain⟨w,hw,he⟩:=ζf.1 hv;rw[c];simp only[e w hw,Option.map_some];rw[he]
   | r r=>
    obtain⟨c,e⟩:=h4;obtain⟨w,hw,he⟩:=ζf.1 hv;rw[c];simp only[e H w hw,Option.map_some];rw[he]
   | a a=>
    obtain⟨c,e⟩:=h4;obtain⟨⟨ob,m⟩,hw,he⟩:=ζf.1 hv;rw[c];simp only[e _ hw];exact congrArg some he
   | l l=>
    obtain⟨c,e⟩:=h4;rw[c];exact e H _ hv
   | c=>
    obtain⟨c,f,av,rfl,e⟩:=h4;rw[c];simp only[aS]at hv;split at hv
    ·rename_i g a b az' heq;simp only[List.cons.injEq]at heq;obtain⟨rfl,rfl⟩:=heq;split at hv
     ·rename_i hk2;simp only[e,jq,hk2,Bool.and_self,if_true];exact hv
     ·rename_i hk2;split at hv
      ·rename_i y hy;split at hv
       ·rename_i hsc;simp only[e,jq,hk2,Bool.false_and,Bool.false_eq_true,if_false,hy,hsc,if_true];exact hv
       ·simp at hv
      ·simp at hv
    ·simp at hv
  ·rw[h4]at hv;exfalso;have:∀ops i k os,(tR false ops i k os).1=k:=fun _ _ _ _=>rfl
   unfold jM at h;split at h
   ·split at h
    ·rename_i gd k os hgd hr;split at h
     ·obtain⟨av,ha,rfl⟩:=ζf.1 h;simp only[this]at h4;subst h4;unfold resolve at hr
      (repeat' split at hr) <;> first|(simp at hr;done)|(obtain⟨_,_,e⟩:=ζf.1 hr;simp at e;done)
     ·simp at h
    ·simp at h
   ·first|(simp at h;done)|contradiction
 unfold en;rw[h3,if_pos rfl,hd];simp only[h1,Dr (h1▸h2),Option.map_some]
theorem CW (hN:∀f s,X.nm f=some s→N s=f) {ops:List Oper}:∀(rest:List Oper) {i:Nat} {ros:List RO} {F:Frame} {H:aq},iO X false ops i rest=some ros→bO X.E N call none ros F H=some (F',H')→jr X.E call X.nt ops rest F H=some (F',H')
 | [],i,ros,F,H,hc,h=>by
  simp only[iO,ζa]at hc;subst hc;exact h
 | o::rest,i,ros,F,H,hc,h=>by
  simp only[iO]at hc;split at hc
  ·rename_i ro rs h1 h2;simp only[ζa]at hc;subst hc;simp only[bO]at h;split at h
   ·rename_i hg;split at h
    ·rename_i v H1 hv;simp only[jr,U7 hN h1 hg hv];exact CW hN rest h2 h
    ·simp at h
   ·simp at h
  ·simp at hc
theorem QI (hN:∀f s,X.nm f=some s→N s=f) {ops:List Oper} {b i:Nat} {o:Oper} {ro:RO} (h:jM X true ops i o=some ro) (hg:ro.gd=none) {v:V} (hv:aS X.E N call (some b) ro.now ro.k (ro.az.map (aF N F)) H=some (v,H')) :
 en X.E call X.nt ops (some (b,i)) o F H=some (aC F ro.dst v,H'):=by
 obtain⟨h1,h2,h3,h4⟩:=vX (F:=F) hN h hg;have hd:cT X.E call ops (some (b,i)) F H o.op=some (v,H'):=by
  rcases h4 with⟨h4,hnow⟩|⟨n,h4⟩
  ·generalize hk:ro.k=k at hv h4;generalize ro.az.map (aF N F)=vs at hv h4;unfold cT
   cases k with
   | p p=>
    obtain⟨c,e⟩:=h4;obtain⟨w,hw,he⟩:=ζf.1 hv;rw[c];simp only[e w hw,Option.map_some];rw[he]
   | r r=>
    obtain⟨c,e⟩:=h4;obtain⟨w,hw,he⟩:=ζf.1 hv;rw[c];simp only[e _ w hw];rw[he]
   | a a=>simp[aS]at hv
   | l l=>
    obtain⟨c,e⟩:=h4
    cases l with
    | store n=>
     simp only[aS]at hv;split at hv
     ·rename_i hn;rw[hnow,Bool.true_and]at hn;rw[c];simp only[hn,Bool.true_or,if_true];exact e H _ hv
     ·simp at hv
    | _=>simp[aS]at hv
   | c=>
    obtain⟨c,f,av,rfl,e⟩:=h4;rw[c];simp only[aS]at hv;split at hv
    ·rename_i g a b az' heq;simp only[List.cons.injEq]at heq;obtain⟨rfl,rfl⟩:=heq;split at hv
     ·simp at hv
     ·rename_i hk2;split at hv
      ·rename_i y hy;split at hv
       ·rename_i hsc;simp only[e,jq,hk2,Bool.false_and,Bool.false_eq_true,if_false,hy,hsc,if_true];exact hv
       ·simp at hv
      ·simp at hv
    ·simp at hv
  ·rw[h4]at hv;simp[aS]at hv
 unfold en;rw[h3,if_pos rfl,hd];simp only[h1,Dr (h1▸h2),Option.map_some]
theorem DQ (hN:∀f s,X.nm f=some s→N s=f) {ops:List Oper} {b:Nat}:∀(rest:List Oper) {i:Nat} {ros:List RO} {F:Frame} {H:aq},ops.drop i=rest→iO X true ops i rest=some ros→bO X.E N call (some b) ros F H=some (F',H') →
 gA X.E call X.nt ops b (List.range' i rest.length) F H=some (F',H')
 | [],i,ros,F,H,_,hc,h=>by
  simp only[iO,ζa]at hc;subst hc;exact h
 | o::rest,i,ros,F,H,hd,hc,h=>by
  simp only[iO]at hc;split at hc
  ·rename_i ro rs h1 h2;simp only[ζa]at hc;subst hc;simp only[bO]at h;split at h
   ·rename_i hg;split at h
    ·rename_i v H1 hv;have ho:ops[i]? = some o:=by
      have:(ops.drop i)[0]? = some o:=by rw[hd];rfl
      rwa [List.getElem?_drop,Nat.add_zero]at this
     have hd':ops.drop (i+1)=rest:=by
      rw[←List.drop_drop,hd];rfl
     simp only[List.length_cons,List.range'_succ,gA,ho,QI hN h1 hg hv];exact DQ hN rest hd' h2 h
    ·simp at h
   ·simp at h
  ·simp at hc
def uv (l:List RO):Bool:=l.all fun o=>(match o.k with|.a _=>false|_=>true)&&o.gd.isNone
theorem Ao (hN:∀f s,X.nm f=some s→N s=f) {ops:List Oper}:∀(rest:List Oper) {i:Nat} {ros:List RO},iO X true ops i rest=some ros→uv ros=true→rest.any (fun o=>dL o.op==.alloc)=false
 | [],_,_,_,_=>rfl
 | o::rest,i,ros,hc,hn=>by
  simp only[iO]at hc;split at hc
  ·rename_i ro rs h1 h2;simp only[ζa]at hc;subst hc;simp only[uv,List.all_cons,ζh,Option.isNone_iff_eq_none]at hn;obtain⟨_,_,_,h4⟩:=vX (F:=[]) hN h1 hn.1.2;rw[List.any_cons,Ao hN rest h2 hn.2,Bool.or_false];rcases h4 with⟨h4,_⟩|⟨n,h4⟩
   ·cases hk:ro.k with
    | p p=>rw[hk]at h4;rw[h4.1];rfl
    | r p=>rw[hk]at h4;rw[h4.1];rfl
    | a p=>have:=hn.1.1;rw[hk]at this;cases this
    | l p=>rw[hk]at h4;rw[h4.1];rfl
    | c=>rw[hk]at h4;rw[h4.1];rfl
   ·
    unfold jM at h1;split at h1
    ·split at h1
     ·rename_i gd k os hgd hr;split at h1
      ·obtain⟨av,ha,rfl⟩:=ζf.1 h1;rcases ve true ops i k os with e|⟨_,_,m,a,l,os',rfl,rfl,_,e⟩
       ·simp only[e]at h4;subst h4;unfold resolve at hr
        (repeat' split at hr) <;> first|(simp at hr;done)|(obtain⟨_,_,e⟩:=ζf.1 hr;simp at e;done)
       ·rw[e]at ha;obtain⟨v1,v2,g1,_,_⟩:=AL (F:=[]) (yS (N:=N) hN ha);have:=(oS hN hr g1).1;rw[this];rfl
      ·simp at h1
     ·simp at h1
    ·first|(simp at h1;done)|contradiction
  ·simp at hc
def e8 (E:Env) (N:Nat→FuncId) (call:b_) (lf:Nat):RC→Frame→aq→Option (Out×Frame×aq)
 | .skip,F,H=>some (.norm,F,H)
 | .ops l,F,H=>(bO E N call none l F H).map fun x=>(.norm,x.1,x.2)
 | .lK l,F,H=>if uv l then(bO E N call (some H.length) l F H).map fun x=>(.norm,x.1,x.2)else none
 | .seq a b,F,H=>match e8 E N call lf a F H with
  | some (.norm,F',H')=>e8 E N call lf b F' H'
  | r=>r
 | .cond x a b,F,H=>match aF N F x with
  | .bool t=>if t then e8 E N call lf a F H else e8 E N call lf b F H
  | _=>none
 | .block id c,F,H=>match e8 E N call lf c F H with
  | some (.exit id',F',H')=>if id'=id then some (.norm,F',H')else some (.exit id',F',H')
  | r=>r
 | .loop c,F,H=>iA (e8 E N call lf c) lf F H
 | .exit id,F,H=>some (.exit id,F,H)
 | .ret,F,H=>some (.ret,F,H)
 | _,_,_=>none
theorem DF {f g:Frame→aq→Option (Out×Frame×aq)} (h:∀F H r,f F H=some r→g F H=some r):∀(k:Nat) (F:Frame) (H:aq) (r:Out×Frame×aq),iA f k F H=some r→iA g k F H=some r
 | 0,F,H,r,hr=>by simp[iA]at hr
 | k+1,F,H,r,hr=>by
  simp only[iA]at hr ⊢
  cases hf:f F H with
  | none=>rw[hf]at hr;simp at hr
  | some q=>
   rw[hf]at hr;rw[h F H q hf];obtain⟨o,F1,H1⟩:=q
   cases o with
   | norm=>exact DF h k F1 H1 r hr
   | exit _=>exact hr
   | ret=>exact hr
theorem Ln (hN:∀f s,X.nm f=some s→N s=f) {lf:Nat}:∀(rc:RC) (code:Code) (F:Frame) (H:aq) (r:Out×Frame×aq),aN X false code=some rc→e8 X.E N call lf rc F H=some r→exec X.E call lf false X.nt code F H=some r:=by
 intro rc
 induction rc with
 | skip=>
  intro code F H r hc h;simp only[e8,ζa]at h;subst h
  cases code with
  | skip=>rfl
  | label _=>rfl
  | region id ops draw=>simp only[aN]at hc;(repeat' split at hc) <;> first|(simp at hc;done)|(obtain⟨_,_,e⟩:=ζf.1 hc;cases e)
  | _=>simp only[aN]at hc;(repeat' split at hc) <;> first|(simp at hc;done)|(obtain⟨_,_,e⟩:=ζf.1 hc;cases e)|cases hc
 | ops l=>
  intro code F H r hc h
  cases code with
  | region id ops draw=>
   simp only[aN]at hc;split at hc
   ·split at hc
    ·obtain⟨_,_,e⟩:=ζf.1 hc;cases e
    ·simp at hc
   ·rename_i hd;obtain⟨l',hl,e⟩:=ζf.1 hc;cases e;simp only[e8]at h;obtain⟨⟨F',H'⟩,hv,rfl⟩:=ζf.1 h;simp only[exec,gB,hd];rw[if_neg (by simp),CW hN _ hl hv];rfl
  | _=>simp only[aN]at hc;(repeat' split at hc) <;> first|(simp at hc;done)|(obtain⟨_,_,e⟩:=ζf.1 hc;cases e)|cases hc
 | lK l=>
  intro code F H r hc h
  cases code with
  | region id ops draw=>
   simp only[aN]at hc;split at hc
   ·rename_i hd;split at hc
    ·rename_i hok;obtain⟨l',hl,e⟩:=ζf.1 hc;cases e;simp only[e8]at h;split at h
     ·rename_i hn;obtain⟨⟨F',H'⟩,hv,rfl⟩:=ζf.1 h;have ha:nH ops.toList=false:=Ao hN _ hl hn;have:=DQ hN ops.toList (i:=0) rfl hl hv;rw[←List.range_eq_range']at this;simp only[exec,gB,hd,hok,if_true,ha,Bool.false_eq_true,if_false,this];rfl
     ·simp at h
    ·simp at hc
   ·obtain⟨_,_,e⟩:=ζf.1 hc;cases e
  | _=>simp only[aN]at hc;(repeat' split at hc) <;> first|(simp at hc;done)|(obtain⟨_,_,e⟩:=ζf.1 hc;cases e)|cases hc
 | seq a b iha ihb=>
  intro code F H r hc h
  cases code with
  | seq a' b'=>
   simp only[aN]at hc;split at hc
   ·rename_i x y hx hy;cases hc;simp only[e8]at h;simp only[exec]
    cases hva:e8 X.E N call lf a F H with
    | none=>rw[hva]at h;simp at h
    | some q=>
     rw[hva]at h;rw[iha a' F H q hx hva];obtain⟨o,F1,H1⟩:=q
     cases o with
     | norm=>exact ihb b' F1 H1 r hy h
     | exit _=>exact h
     | ret=>exact h
   ·simp at hc
  | region id ops draw=>simp only[aN]at hc;(repeat' split at hc) <;> first|(simp at hc;done)|(obtain⟨_,_,e⟩:=ζf.1 hc;cases e)
  | _=>simp only[aN]at hc;(repeat' split at hc) <;> first|(simp at hc;done)|(obtain⟨_,_,e⟩:=ζf.1 hc;cases e)|cases hc
 | cond x a b iha ihb=>
  intro code F H r hc h
  cases code with
  | cond c a' b'=>
   simp only[aN]at hc;split at hc
   ·rename_i x' y z hx hy hz;cases hc;simp only[e8]at h;simp only[exec,Fp (F:=F) hN hx];split at h
    ·rename_i t ht;rw[ht]
     cases t with
     | true=>simp only[if_true]at h ⊢;exact iha a' F H r hy h
     | false=>simp only[Bool.false_eq_true,if_false]at h ⊢;exact ihb b' F H r hz h
    ·simp at h
   ·simp at hc
  | region id ops draw=>simp only[aN]at hc;(repeat' split at hc) <;> first|(simp at hc;done)|(obtain⟨_,_,e⟩:=ζf.1 hc;cases e)
  | _=>simp only[aN]at hc;(repeat' split at hc) <;> first|(simp at hc;done)|(obtain⟨_,_,e⟩:=ζf.1 hc;cases e)|cases hc
 | block id c ih=>
  intro code F H r hc h
  cases code with
  | block id' c'=>
   simp only[aN]at hc;obtain⟨x,hx,e⟩:=ζf.1 hc;cases e;simp only[e8]at h;simp only[exec]
   cases hva:e8 X.E N call lf c F H with
   | none=>rw[hva]at h;simp at h
   | some q=>
    rw[hva]at h;rw[ih c' F H q hx hva];exact h
  | region id ops draw=>simp only[aN]at hc;(repeat' split at hc) <;> first|(simp at hc;done)|(obtain⟨_,_,e⟩:=ζf.1 hc;cases e)
  | _=>simp only[aN]at hc;(repeat' split at hc) <;> first|(simp at hc;done)|(obtain⟨_,_,e⟩:=ζf.1 hc;cases e)|cases hc
 | loop c ih=>
  intro code F H r hc h
  cases code with
  | loop c'=>
   simp only[aN]at hc;obtain⟨x,hx,e⟩:=ζf.1 hc;cases e;simp only[e8]at h;simp only[exec];exact DF (fun F H r hr=>ih c' F H r hx hr) lf F H r h
  | region id ops draw=>simp only[aN]at hc;(repeat' split at hc) <;> first|(simp at hc;done)|(obtain⟨_,_,e⟩:=ζf.1 hc;cases e)
  | _=>simp only[aN]at hc;(repeat' split at hc) <;> first|(simp at hc;done)|(obtain⟨_,_,e⟩:=ζf.1 hc;cases e)|cases hc
 | exit id=>
  intro code F H r hc h
  cases code with
  | exit id'=>simp only[aN,ζa,RC.exit.injEq]at hc;subst hc;exact h
  | region id ops draw=>simp only[aN]at hc;(repeat' split at hc) <;> first|(simp at hc;done)|(obtain⟨_,_,e⟩:=ζf.1 hc;cases e)
  | _=>simp only[aN]at hc;(repeat' split at hc) <;> first|(simp at hc;done)|(obtain⟨_,_,e⟩:=ζf.1 hc;cases e)|cases hc
 | ret=>
  intro code F H r hc h
  cases code with
  | ret=>exact h
  | region id ops draw=>simp only[aN]at hc;(repeat' split at hc) <;> first|(simp at hc;done)|(obtain⟨_,_,e⟩:=ζf.1 hc;cases e)
  | _=>simp only[aN]at hc;(repeat' split at hc) <;> first|(simp at hc;done)|(obtain⟨_,_,e⟩:=ζf.1 hc;cases e)|cases hc
 | _=>intro code F H r hc h;simp[e8]at h
end
end Go.VE
namespace Go.VE
variable [aX]
def Ex (E:Env) (N:Nat→FuncId) (rc:RC) (F:Frame) (H:aq) (o:Out) (F':Frame) (H':aq):Prop:=
 ∃n,∀k,n≤k→e8 E N (run E k) k rc F H=some (o,F',H')
def ku (E:Env) (N:Nat→FuncId) (rc:RC) (F:Frame) (H:aq) (o:Out) (F':Frame) (H':aq):Prop:=
 ∃n,∀k,n≤k→∀lf,n≤lf→iA (e8 E N (run E k) k rc) lf F H=some (o,F',H')
section
variable {E:Env} {N:Nat→FuncId} {a b c:RC} {F F1 F':Frame} {H H1 H':aq} {o:Out} {x:Arg} {id:Nat}
theorem Ex.ops {l:List RO} (h:∃n,∀k,n≤k→bO E N (run E k) none l F H=some (F',H')):Ex E N (.ops l) F H .norm F' H':=
 let ⟨n,h⟩:=h;⟨n,fun k hk=>by simp only[e8,h k hk,Option.map_some]⟩
theorem Ex.dc {l:List RO} (h:∀call,bO E N call none l F H=some (F',H')):Ex E N (.ops l) F H .norm F' H':=Ex.ops ⟨0,fun k _=>h _⟩
theorem Ex.lK {l:List RO} (hn:uv l=true) (h:∀call,bO E N call (some H.length) l F H=some (F',H')):Ex E N (.lK l) F H .norm F' H':=
 ⟨0,fun k _=>by simp only[e8,hn,if_true,h,Option.map_some]⟩
theorem Ex.GG {l:List RO} (hn:uv l=true) (h:∃n,∀k,n≤k→bO E N (run E k) (some H.length) l F H=some (F',H')):Ex E N (.lK l) F H .norm F' H':=
 let ⟨n,h⟩:=h;⟨n,fun k hk=>by simp only[e8,hn,if_true,h k hk,Option.map_some]⟩
theorem Ex.skip:Ex E N .skip F H .norm F H:=⟨0,fun _ _=>rfl⟩
theorem Ex.exit:Ex E N (.exit id) F H (.exit id) F H:=⟨0,fun _ _=>rfl⟩
theorem Ex.ret:Ex E N .ret F H .ret F H:=⟨0,fun _ _=>rfl⟩
theorem Ex.seq (h1:Ex E N a F H .norm F1 H1) (h2:Ex E N b F1 H1 o F' H'):Ex E N (.seq a b) F H o F' H':=by
 obtain⟨n,h1⟩:=h1;obtain⟨m,h2⟩:=h2;exact⟨max n m,fun k hk=>by simp only[e8,h1 k (by omega)];exact h2 k (by omega)⟩
theorem Ex.tN (h1:Ex E N a F H o F' H') (ho:o≠.norm):Ex E N (.seq a b) F H o F' H':=by
 obtain⟨n,h1⟩:=h1;refine⟨n,fun k hk=>?_⟩
 simp only[e8,h1 k hk];cases o <;> first|exact absurd rfl ho|rfl
theorem Ex.mD (hx:aF N F x=.bool true) (h:Ex E N a F H o F' H'):Ex E N (.cond x a b) F H o F' H':=by
 obtain⟨n,h⟩:=h;exact⟨n,fun k hk=>by simp only[e8,hx,if_true,h k hk]⟩
theorem Ex.rD (hx:aF N F x=.bool false) (h:Ex E N b F H o F' H'):Ex E N (.cond x a b) F H o F' H':=by
 obtain⟨n,h⟩:=h;exact⟨n,fun k hk=>by simp only[e8,hx,Bool.false_eq_true,if_false,h k hk]⟩
theorem Ex.block (h:Ex E N c F H .norm F' H'):Ex E N (.block id c) F H .norm F' H':=by
 obtain⟨n,h⟩:=h;exact⟨n,fun k hk=>by simp only[e8,h k hk]⟩
theorem Ex.uk (h:Ex E N c F H (.exit id) F' H'):Ex E N (.block id c) F H .norm F' H':=by
 obtain⟨n,h⟩:=h;exact⟨n,fun k hk=>by simp only[e8,h k hk,if_true]⟩
theorem Ex.HT (h:Ex E N c F H .ret F' H'):Ex E N (.block id c) F H .ret F' H':=by
 obtain⟨n,h⟩:=h;exact⟨n,fun k hk=>by simp only[e8,h k hk]⟩
theorem Ex.loop (h:ku E N c F H o F' H'):Ex E N (.loop c) F H o F' H':=by
 obtain⟨n,h⟩:=h;exact⟨n,fun k hk=>h k hk k hk⟩
theorem ku.step (h1:Ex E N c F H .norm F1 H1) (h2:ku E N c F1 H1 o F' H'):ku E N c F H o F' H':=by
 obtain⟨n,h1⟩:=h1;obtain⟨m,h2⟩:=h2;refine⟨max n m+1,fun k hk lf hl=>?_⟩
 cases lf with
 | zero=>omega
 | succ lf=>simp only[iA,h1 k (by omega)];exact h2 k (by omega) lf (by omega)
theorem ku.stop (h1:Ex E N c F H o F' H') (ho:o≠.norm):ku E N c F H o F' H':=by
 obtain⟨n,h1⟩:=h1;refine⟨n+1,fun k hk lf hl=>?_⟩
 cases lf with
 | zero=>omega
 | succ lf=>
  simp only[iA,h1 k (by omega)]
  cases o <;> first|exact absurd rfl ho|rfl
end
theorem Ex.run {E:Env} {nm:FuncId→Option Nat} {N:Nat→FuncId} (hN:∀f s,nm f=some s→N s=f) {f:FuncId} {fi:FI} {rc:RC} (hf:E.ft f=some fi) (hc:aN ⟨E,nm,fi.ntmps⟩ false fi.body=some rc) {args:List V} (ha:args.length≤fi.ntmps) {H H':aq} {F':Frame}
 (h:Ex E N rc args H .ret F' H') {vs:List V} (hr:gp E F' H' fi.results=some vs):∃n,run E n (.fn f) args H=some (result vs,H'):=by
 obtain⟨n,h⟩:=h;refine⟨n+1,?_⟩;have:=Ln (X:=⟨E,nm,fi.ntmps⟩) (call:=Go.VE.run E n) hN (lf:=n) rc fi.body args H _ hc (h n (Nat.le_refl _));simp only[Go.VE.run,hf,if_pos ha,this,hr,Option.map_some]
@[simp] theorem aB (F:Frame) (i j:Nat) (v:V):get (set F i v) j=if i=j then v else get F j:=by
 split
 ·rename_i h;subst h;exact rK F i v
 ·rename_i h;exact gj F v h
def refs:List Nat→List (List V)→List (List V)
 | id::ids,r::rs=>[V.hsl id 1 0 r.length]::refs ids rs
 | _,_=>[]
def gf (r:List V):List (List V):=r.map fun u=>[u]
structure jw (H:aq) (w:V) (o:Nat) (ids:List Nat) (rows:List (List V)):Prop where
 v:w=if rows=[]then .aG else .hsl o 1 0 rows.length
 ob:rows≠[]→H[o]? = some (.row 1 (refs ids rows))
 len:ids.length=rows.length
 r:∀(i id:Nat) (r:List V),ids[i]? = some id→rows[i]? = some r→H[id]? = some (.row 1 (gf r))
 nd:ids.Nodup
 ne:rows≠[]→o∉ids
theorem pS:∀{ids:List Nat} {rows:List (List V)},ids.length=rows.length→(refs ids rows).length=rows.length
 | [],[],_=>rfl
 | _::ids,_::rows,h=>by simp only[refs,List.length_cons,pS (ids:=ids) (rows:=rows) (by simpa using h)]
theorem DP:∀{ids:List Nat} {rows:List (List V)} (id:Nat) (r:List V),ids.length=rows.length→refs (ids++[id]) (rows++[r])=refs ids rows++[[V.hsl id 1 0 r.length]]
 | [],[],_,_,_=>rfl
 | _::ids,_::rows,id,r,h=>by simp only[refs,List.cons_append,DP (ids:=ids) (rows:=rows) id r (by simpa using h)]
theorem yH:∀{ids:List Nat} {rows:List (List V)} {i id:Nat} {r:List V},ids[i]? = some id→rows[i]? = some r→(refs ids rows)[i]? = some [V.hsl id 1 0 r.length]
 | [],_,_,_,_,h,_=>by simp at h
 | _::_,[],_,_,_,_,h=>by simp at h
 | a::ids,b::rows,0,id,r,h1,h2=>by simp at h1 h2;subst h1 h2;rfl
 | a::ids,b::rows,i+1,id,r,h1,h2=>by simpa [refs]using yH (ids:=ids) (rows:=rows) (i:=i) (by simpa using h1) (by simpa using h2)
theorem CO:∀{ids:List Nat} {rows:List (List V)} {i:Nat} {r r':List V},rows[i]? = some r→r'.length=r.length→refs ids (rows.set i r')=refs ids rows
 | [],_,_,_,_,_,_=>by simp[refs]
 | _::_,[],_,_,_,_,_=>by simp[refs]
 | a::ids,b::rows,0,r,r',h,hl=>by simp at h;subst h;simp only[List.set_cons_zero,refs,hl]
 | a::ids,b::rows,i+1,r,r',h,hl=>by simp only[List.set_cons_succ,refs,CO (ids:=ids) (rows:=rows) (i:=i) (by simpa using h) hl]
section
variable {H H':aq} {v:V} {o:Nat} {ids:List Nat} {rows:List (List V)}
theorem jw.nil (H:aq) (o:Nat):jw H .aG o [] []:=⟨rfl,fun h=>absurd rfl h,rfl,fun i id r h=>by simp at h,.nil,fun h=>absurd rfl h⟩
theorem jw.heap (n:jw H v o ids rows) (ho:rows≠[]→H'[o]? = H[o]?) (hi:∀id∈ids,H'[id]? = H[id]?):jw H' v o ids rows:=
 ⟨n.v,fun h=>by rw[ho h];exact n.ob h,n.len,fun i id r h1 h2=>by rw[hi id (List.mem_of_getElem? h1)];exact n.r i id r h1 h2,n.nd,n.ne⟩
theorem jw.lt (n:jw H v o ids rows):(rows≠[]→o<H.length)∧∀id∈ids,id<H.length:=by
 refine⟨fun h=>(ζe.1 (n.ob h)).1,fun id hid=>?_⟩
 obtain⟨i,hi⟩:=List.getElem?_of_mem hid;have hl:=(ζe.1 hi).1;have:=n.r i id _ hi (ζd (show i<rows.length from n.len▸hl));exact(ζe.1 this).1
theorem jw.more (n:jw H v o ids rows) (X:aq):jw (H++X) v o ids rows:=
 n.heap (fun h=>List.getElem?_append_left (n.lt.1 h)) fun id hid=>List.getElem?_append_left (n.lt.2 id hid)
theorem jw.push (n:jw H v o ids rows) (r:List V) (hl:rows.length+1≤2147483648) :
 ∃H',dW (H++[.row 1 (gf r)]++[.row 1 [[.hsl H.length 1 0 r.length]]]) (.append 1) [v,.hsl (H.length+1) 1 0 1]=some (.hsl (H.length+2) 1 0 (rows.length+1),H') ∧
  jw H' (.hsl (H.length+2) 1 0 (rows.length+1)) (H.length+2) (ids++[H.length]) (rows++[r])∧H.length≤H'.length∧(∀id,id<H.length→id≠o∨rows=[]→H'[id]? = H[id]?):=by
 generalize hH2:H++[.row 1 (gf r)]++[.row 1 [[.hsl H.length 1 0 r.length]]]=H2;have hlen:H2.length=H.length+2:=by subst hH2;simp
 have hlo:∀id,id<H.length→H2[id]? = H[id]? := fun id h=>by
  subst hH2;rw[List.append_assoc,List.getElem?_append_left h]
 have h1:H2[H.length]? = some (.row 1 (gf r)):=by subst hH2;simp
 have h2:H2[H.length+1]? = some (.row 1 [[.hsl H.length 1 0 r.length]]):=by subst hH2;simp
 have hv:=n.v;have e2:di H2 1 (.hsl (H.length+1) 1 0 1)=some [[.hsl H.length 1 0 r.length]]:=by
  simp[di,h2,Ob.rows]
 by_cases hr:rows=[]
 ·subst hr;rw[if_pos rfl]at hv;subst hv;have:ids=[]:=List.eq_nil_of_length_eq_zero n.len;subst this;refine⟨H2++[.row 1 [[.hsl H.length 1 0 r.length]]],?_,⟨by simp,fun _=>by rw[←hlen];simp[refs],rfl,fun i id r' hi hr'=>?_,by simp,fun _=>by simp⟩,by simp[hlen];omega,fun id hid _=>?_⟩
  ·have e1:di H2 1 .aG=some []:=rfl;simp only[dW,e1,e2,iq,List.length_nil,List.length_singleton,Option.map_some,hlen];simp
  ·cases i with
   | zero=>
    simp at hi hr';subst hi hr';rw[List.getElem?_append_left (by omega)];exact h1
   | succ i=>simp at hi
  ·rw[List.getElem?_append_left (by omega)];exact hlo id hid
 ·rw[if_neg hr]at hv;subst hv;have ho:=n.ob hr;have hol:=n.lt.1 hr;have e1:di H2 1 (.hsl o 1 0 rows.length)=some (refs ids rows):=by
   simp only[di,if_true,hlo o hol,ho,ζb,Ob.rows,pS n.len,Nat.zero_add,Nat.le_refl,List.drop_zero];rw[List.take_of_length_le (by rw[pS n.len];exact Nat.le_refl _)]
  have eg:iq H2 (.hsl o 1 0 rows.length)=some (H2.set o .dead):=by
   simp only[iq,hlo o hol,ho]
  have hset:∀id,id≠o→(H2.set o Ob.dead++[Ob.row 1 (refs ids rows++[[.hsl H.length 1 0 r.length]])])[id]? = if id<H2.length then H2[id]? else(H2.set o Ob.dead++[Ob.row 1 (refs ids rows++[[.hsl H.length 1 0 r.length]])])[id]? := fun id hne=>by
   split
   ·rename_i h;rw[List.getElem?_append_left (by simpa using h),List.getElem?_set_ne (Ne.symm hne)]
   ·rfl
  refine⟨H2.set o .dead++[.row 1 (refs ids rows++[[.hsl H.length 1 0 r.length]])],?_,⟨by simp,fun _=>?_,by simp[n.len],fun i id r' hi hr'=>?_,?_,fun _ hm=>?_⟩,by simp[hlen];omega,fun id hid hne=>?_⟩
  ·simp only[dW,e1,e2,eg,pS n.len,List.length_singleton,hl,if_true,Option.map_some,hlen]
  ·rw[DP _ _ n.len,←hlen];simp
  ·have hio:id≠o:=by
    rcases Nat.lt_or_ge i ids.length with h|h
    ·rw[List.getElem?_append_left h]at hi;intro e;subst e;exact n.ne hr (List.mem_of_getElem? hi)
    ·have:i=ids.length:=by have:=(ζe.1 hi).1;simp at this;omega
     subst this;simp at hi;subst hi;omega
   rcases Nat.lt_or_ge i ids.length with h|h
   ·rw[List.getElem?_append_left h]at hi;rw[List.getElem?_append_left (by rw[←n.len];exact h)]at hr'
    have hidl:=n.lt.2 id (List.mem_of_getElem? hi);rw[hset id hio,if_pos (by omega),hlo id hidl]
    exact n.r i id r' hi hr'
   ·have:i=ids.length:=by have:=(ζe.1 hi).1;simp at this;omega
    subst this;simp at hi;subst hi;rw[n.len]at hr';simp at hr';subst hr';rw[hset _ hio,if_pos (by omega)];exact h1
  ·rw[List.nodup_append];exact⟨n.nd,by simp,fun a ha b hb=>by simp at hb;subst hb;exact Nat.ne_of_lt (n.lt.2 a ha)⟩
  ·rcases List.mem_append.1 hm with hm|hm
   ·have:=n.lt.2 _ hm;omega
   ·simp at hm
  ·rw[hset id (hne.resolve_right hr),if_pos (by omega)];exact hlo id hid
end
end Go.VE
namespace Go.VE
variable [aX]
theorem iB {E:Env} {N:Nat→FuncId} {F:Frame} {H H1:aq} {call:b_} {b:Option Nat} {o:RO} {l:List RO} {v:V} {r:Frame×aq} (hg:o.gd=none) (hv:aS E N call b o.now o.k (o.az.map (aF N F)) H=some (v,H1)) (h:bO E N call b l (aC F o.dst v) H1=some r):bO E N call b (o::l) F H=some r:=by
 simp only[bO,hg,hv];exact h
theorem vp {E:Env} {N:Nat→FuncId} {F:Frame} {H:aq} {call:b_} {b:Option Nat} {o:RO} {l:List RO} {v:V} {r:Frame×aq} (hg:o.gd=none) (hv:aS E N call b o.now o.k (o.az.map (aF N F)) H=some (v,H)) (h:bO E N call b l (aC F o.dst v) H=some r):bO E N call b (o::l) F H=some r:=iB hg hv h
theorem dN {E:Env} {N:Nat→FuncId} {F:Frame} {H:aq} {call:b_} {b:Option Nat}:bO E N call b [] F H=some (F,H):=rfl
theorem vM {n:Nat} (h:n≤2147483648):IntKind.wrap .i64 ((n:Int)+1)=((n+1:Nat):Int):=by
 simp[IntKind.wrap,IntKind.bits,IntKind.signed];omega
theorem V9 {n:Nat} (h:n≤2147483648):IntKind.wrap .i64 (((n+1:Nat):Int)-1)=(n:Int):=by
 simp[IntKind.wrap,IntKind.bits,IntKind.signed];omega
theorem gH (H:aq):H.take H.length=H:=List.take_length
theorem Bt {x:V} (h:x.one=true):x.cells=[x]:=by
 cases x <;> first|rfl|(simp[V.one]at h)
def kept (t:Nat→Bool) (n:Nat):List Nat:=(List.range n).filter fun i=>i==0 || !t i
theorem ta (t:Nat→Bool) (n:Nat):kept t (n+1)=kept t n++if n==0 || !t n then [n]else []:=by
 unfold kept;rw[List.range_succ,List.filter_append,List.filter_cons];rfl
theorem E4 (t:Nat→Bool):∀n,(kept t n).length≤n:=fun n=>by
 unfold kept;exact Nat.le_trans (List.length_filter_le ..) (by simp)
theorem zh {t:Nat→Bool}:∀n,(∀i,0<i→i<n→t i=false)→kept t n=List.range n
 | 0,_=>rfl
 | n+1,h=>by
  rw[ta,zh n fun i h1 h2=>h i h1 (by omega),List.range_succ]
  congr 1
  cases n with
  | zero=>rfl
  | succ n=>rw[h (n+1) (by omega) (by omega)];simp
theorem wR {t:Nat→Bool} {k:Nat} (h0:0<k) (hk:t k=true):∀n,k<n→(kept t n).length+1≤n
 | 0,h=>by omega
 | n+1,h=>by
  rw[ta]
  by_cases e:n=k
  ·subst e;have:(n==0 || !t n)=false:=by simp[hk];omega
   rw[this];have:=E4 t n;simp;omega
  ·have:=wR h0 hk n (by omega)
   split <;> simp <;> omega
namespace cmpX
instance {n:Nat}:OfNat Arg n:=⟨.s n⟩
def r1:List RO:=[o1 4 (.k (.aG)) []]
def r2:List RO:=[o1 8 0 [],o2 9 (.p .lenSl) [8] [],o2 10 (.p (.bin (some .int) none .lss)) [9,.k (.int .i64 2)] []]
def r3:List RO:=[o1 11 0 [],o1 4 11 []]
def r4:List RO:=[o1 5 (.k (.int .i64 1)) []]
def r5:List RO:=[o1 12 5 [],o1 13 0 [],o2 14 (.p .lenSl) [13] [],o2 15 (.p (.bin (some .int) none .lss)) [12,14] []]
def on (d:Nat) (k:K) (az:List Arg):RO:=⟨some d,none,true,k,az,[],[]⟩
def r6:List RO:=[o1 18 1 [],o1 19 0 [],o1 20 5 [],o2 21 (.p (.idxS 1)) [19,20] [],o2 22 (.r (.load 1 false)) [21] [],o1 23 0 [],o1 24 5 [],o2 25 (.p (.bin (some .int) none .sub)) [24,.k (.int .i64 1)] [],o2 26 (.p (.idxS 1)) [23,25] [],o2 27 (.r (.load 1 false)) [26] [],on 28 .c [18,22,27]]
def r7:List RO:=[o1 29 0 [],o1 30 5 [],o2 31 (.p (.slice 1 true false)) [29,30] [],o1 6 31 []]
def r8:List RO:=[o1 7 (.k (.int .i64 1)) []]
def r9:List RO:=[o1 32 7 [],o1 33 6 [],o2 34 (.p .lenSl) [33] [],o2 35 (.p (.bin (some .int) none .lss)) [32,34] []]
def CS:List RO:=[o1 38 1 [],o1 39 6 [],o1 40 7 [],o2 41 (.p (.idxS 1)) [39,40] [],o2 42 (.r (.load 1 false)) [41] [],o1 43 6 [],o1 44 7 [],o2 45 (.p (.bin (some .int) none .sub)) [44,.k (.int .i64 1)] [],o2 46 (.p (.idxS 1)) [43,45] [],o2 47 (.r (.load 1 false)) [46] [],on 48 .c [38,42,47],on 49 (.p (.not)) [48]]
def D4:List RO:=[o1 50 0 [],o1 51 5 [],o1 52 6 [],o1 53 7 [],o2 54 (.p (.idxS 1)) [52,53] [],o2 55 (.r (.load 1 false)) [54] [],o2 56 (.p (.idxS 1)) [50,51] [],⟨none,none,false,.l (.store 1),[56,55],[],[]⟩]
def CP:List RO:=[o1 57 5 [],o2 58 (.p (.bin (some .int) none .add)) [57,.k (.int .i64 1)] [],o1 5 58 []]
def D1:List RO:=[o1 36 7 [],o2 37 (.p (.bin (some .int) none .add)) [36,.k (.int .i64 1)] [],o1 7 37 []]
def X5:RC:=.seq (.seq (.ops r9) (.cond (.s 35) (.skip) (.exit 2))) (.seq (.block 3 (.seq (.lK CS) (.cond (.s 49) (.seq (.ops D4) (.ops CP)) (.skip)))) (.ops D1))
def Cy:List RO:=[o1 59 0 [],o1 60 5 [],o2 61 (.p (.slice 1 true false)) [59,60] [],⟨none,none,false,.l (.clear 1 [.aG]),[61],[],[]⟩]
def FA:List RO:=[o1 62 0 [],o1 63 5 [],o2 64 (.p (.slice 1 false true)) [62,63] [],o1 4 64 []]
def r16:List RO:=[o1 16 5 [],o2 17 (.p (.bin (some .int) none .add)) [16,.k (.int .i64 1)] [],o1 5 17 []]
def Mt:RC:=.seq (.seq (.ops r5) (.cond (.s 15) (.skip) (.exit 0))) (.seq (.block 1 (.seq (.lK r6) (.cond (.s 28) (.seq (.ops r7) (.seq (.seq (.ops r8) (.block 2 (.loop X5))) (.seq (.ops Cy) (.seq (.ops FA) (.ret))))) (.skip)))) (.ops r16))
def IE:List RO:=[o1 65 0 [],o1 4 65 []]
def code:RC:=.seq (.ops r1) (.seq (.seq (.ops r2) (.cond (.s 10) (.seq (.ops r3) (.ret)) (.skip))) (.seq (.seq (.ops r4) (.block 0 (.loop Mt))) (.seq (.ops IE) (.ret))))
structure Z9 (F F':Frame):Prop where
 s0:get F' 0=get F 0
 s1:get F' 1=get F 1
section
variable {E:Env} {N:Nat→FuncId} {F:Frame} {H:aq} {call:b_} {id off L k:Nat}
theorem ld {cur:List (List V)} {el:Nat} {v:V} (h:H[id]? = some (.row 1 cur)) (hv:cur[el]? = some [v]):dD H (.load 1 false) [.hptr id el 0]=some v:=by
 simp[dD,cM,h,Ob.rows,hv,cut,mk]
theorem MB {i:Nat} (h:i<L):i_ 1 (.hsl id 1 off L) (i:Int)=some (.hptr id (off+i) 0):=by
 unfold i_;rw[if_neg (by omega)];simp[h]
theorem x2 (f0:get F 0=.hsl id 1 off L):∃F',(∀call,bO E N call none r2 F H=some (F',H))∧get F' 10=.bool (decide ((L:Int)<2))∧(∀s,s<8→get F' s=get F s):=by
 refine⟨_,fun call=>vp (v:=.hsl id 1 off L) rfl ?_ <| vp (v:=.int .i64 L) rfl ?_ <| vp (v:=.bool (decide ((L:Int)<2))) rfl ?_ dN,?_,?_⟩
 ·simp[aS,aF,ay,f0]
 ·simp[aS,aF,ay,aC,nj]
 ·simp[aS,aF,ay,aC,gP,mQ]
 ·simp[aC]
 ·intro s hs;simp only[aC,aB]
  repeat (rw[if_neg (by omega)])
theorem x5 (f0:get F 0=.hsl id 1 off L) (f5:get F 5=.int .i64 k):∃F',(∀call,bO E N call none r5 F H=some (F',H))∧get F' 15=.bool (decide (k<L))∧(∀s,s<8→get F' s=get F s):=by
 refine⟨_,fun call=>vp (v:=.int .i64 k) rfl ?_ <| vp (v:=.hsl id 1 off L) rfl ?_ <| vp (v:=.int .i64 L) rfl ?_ <| vp (v:=.bool (decide (k<L))) rfl ?_ dN,?_,?_⟩
 ·simp[aS,aF,ay,f5]
 ·simp[aS,aF,ay,aC,f0]
 ·simp[aS,aF,ay,aC,nj]
 ·simp[aS,aF,ay,aC,gP,mQ]
 ·simp[aC]
 ·intro s hs;simp only[aC,aB]
  repeat (rw[if_neg (by omega)])
theorem Ug {g:FuncId} {cb:List V} {cur:List (List V)} {o2 L2 i:Nat} {a b:V} {t:Bool} (h:H[id]? = some (.row 1 cur)) (hi:i+1<L2) (hb2:i≤2147483648) (ha:cur[o2+(i+1)]? = some [a]) (hb:cur[o2+i]? = some [b]) (hk:E.keep g=false) (f1:get F 1=.clo g [] cb) :
 (get F 0=.hsl id 1 o2 L2→get F 5=.int .i64 ((i+1:Nat):Int)→∃F',(∀call,bF call g (a::b::cb) H=some (.bool t)→bO E N call (some H.length) r6 F H=some (F',H))∧get F' 28=.bool t∧(∀s,s<8→get F' s=get F s)) ∧
 (get F 6=.hsl id 1 o2 L2→get F 7=.int .i64 ((i+1:Nat):Int)→∃F',(∀call,bF call g (a::b::cb) H=some (.bool t)→bO E N call (some H.length) CS F H=some (F',H))∧get F' 49=.bool (!t)∧(∀s,s<8→get F' s=get F s)):=by
 have hd:=V9 hb2;have e1:=ld h ha;have e2:=ld h hb;have i1:=MB (id:=id) (off:=o2) (L:=L2) hi;have i2:=MB (id:=id) (off:=o2) (L:=L2) (show i<L2 by omega)
 refine⟨fun f0 f5=>⟨_,fun call hc=>vp (v:=.clo g [] cb) rfl ?_ <| vp (v:=.hsl id 1 o2 L2) rfl ?_ <| vp (v:=.int .i64 ((i+1:Nat):Int)) rfl ?_ <| vp (v:=.hptr id (o2+(i+1)) 0) rfl ?_ <| vp (v:=a) rfl ?_ <| vp (v:=.hsl id 1 o2 L2) rfl ?_ <| vp (v:=.int .i64 ((i+1:Nat):Int)) rfl ?_ <|
  vp (v:=.int .i64 (i:Int)) rfl ?_ <| vp (v:=.hptr id (o2+i) 0) rfl ?_ <| vp (v:=b) rfl ?_ <| vp (v:=.bool t) rfl ?_ dN,?_,?_⟩,fun f6 f7=>⟨_,fun call hc=>vp (v:=.clo g [] cb) rfl ?_ <| vp (v:=.hsl id 1 o2 L2) rfl ?_ <| vp (v:=.int .i64 ((i+1:Nat):Int)) rfl ?_ <| vp (v:=.hptr id (o2+(i+1)) 0) rfl ?_ <| vp (v:=a) rfl ?_ <| vp (v:=.hsl id 1 o2 L2) rfl ?_ <| vp (v:=.int .i64 ((i+1:Nat):Int)) rfl ?_ <|
  vp (v:=.int .i64 (i:Int)) rfl ?_ <| vp (v:=.hptr id (o2+i) 0) rfl ?_ <| vp (v:=b) rfl ?_ <| vp (v:=.bool t) rfl ?_ <| vp (v:=.bool (!t)) rfl ?_ dN,?_,?_⟩⟩
 ·simp[aS,aF,ay,f1]
 ·simp[aS,aF,ay,aC,f0]
 ·simp only[aS,List.map_cons,List.map_nil,aF,aC,aB,Nat.reduceEqDiff,if_true,if_false,f5,ay];rfl
 ·simp only[aS,List.map_cons,List.map_nil,aF,aC,aB,Nat.reduceEqDiff,if_true,if_false,ay];rw[i1];rfl
 ·simp only[aS,List.map_cons,List.map_nil,aF,aC,aB,Nat.reduceEqDiff,if_true,if_false,gH];rw[e1];rfl
 ·simp[aS,aF,ay,aC,f0]
 ·simp only[aS,List.map_cons,List.map_nil,aF,aC,aB,Nat.reduceEqDiff,if_true,if_false,f5,ay];rfl
 ·simp only[aS,List.map_cons,List.map_nil,aF,aC,aB,Nat.reduceEqDiff,if_true,if_false,ay,gP,hd];rfl
 ·simp only[aS,List.map_cons,List.map_nil,aF,aC,aB,Nat.reduceEqDiff,if_true,if_false,ay];rw[i2];rfl
 ·simp only[aS,List.map_cons,List.map_nil,aF,aC,aB,Nat.reduceEqDiff,if_true,if_false,gH];rw[e2];rfl
 ·simp only[aS,on,List.map_cons,List.map_nil,aF,aC,aB,Nat.reduceEqDiff,if_true,if_false,gH,hk,Bool.false_eq_true,List.nil_append,List.cons_append,hc,V.scalar]
 ·simp[aC,on]
 ·intro s hs;simp only[aC,on,aB]
  repeat (rw[if_neg (by omega)])
 ·simp[aS,aF,ay,f1]
 ·simp[aS,aF,ay,aC,f6]
 ·simp only[aS,List.map_cons,List.map_nil,aF,aC,aB,Nat.reduceEqDiff,if_true,if_false,f7,ay];rfl
 ·simp only[aS,List.map_cons,List.map_nil,aF,aC,aB,Nat.reduceEqDiff,if_true,if_false,ay];rw[i1];rfl
 ·simp only[aS,List.map_cons,List.map_nil,aF,aC,aB,Nat.reduceEqDiff,if_true,if_false,gH];rw[e1];rfl
 ·simp[aS,aF,ay,aC,f6]
 ·simp only[aS,List.map_cons,List.map_nil,aF,aC,aB,Nat.reduceEqDiff,if_true,if_false,f7,ay];rfl
 ·simp only[aS,List.map_cons,List.map_nil,aF,aC,aB,Nat.reduceEqDiff,if_true,if_false,ay,gP,hd];rfl
 ·simp only[aS,List.map_cons,List.map_nil,aF,aC,aB,Nat.reduceEqDiff,if_true,if_false,ay];rw[i2];rfl
 ·simp only[aS,List.map_cons,List.map_nil,aF,aC,aB,Nat.reduceEqDiff,if_true,if_false,gH];rw[e2];rfl
 ·simp only[aS,on,List.map_cons,List.map_nil,aF,aC,aB,Nat.reduceEqDiff,if_true,if_false,gH,hk,Bool.false_eq_true,List.nil_append,List.cons_append,hc,V.scalar]
 ·simp[aS,on,aF,ay,aC]
 ·simp[aC,on]
 ·intro s hs;simp only[aC,on,aB]
  repeat (rw[if_neg (by omega)])
end
end cmpX
end Go.VE
namespace Go.VE
variable [aX]
namespace cmpX
section
variable {E:Env} {N:Nat→FuncId} {F:Frame} {H:aq} {call:b_} {id off L k:Nat}
theorem x7 (f0:get F 0=.hsl id 1 off L) (f5:get F 5=.int .i64 k) (hk:k≤L):∃F',(∀call,bO E N call none r7 F H=some (F',H))∧get F' 6=.hsl id 1 (off+k) (L-k)∧(∀s,s<8→s≠6→get F' s=get F s):=by
 have e:fP 1 (.hsl id 1 off L) (some (k:Int)) none=some (.hsl id 1 (off+k) (L-k)):=by
  unfold fP cE;simp only[if_true,Option.getD_none,Option.getD_some];rw[if_pos (by omega)];simp
 refine⟨_,fun call=>vp (v:=.hsl id 1 off L) rfl ?_ <| vp (v:=.int .i64 k) rfl ?_ <| vp (v:=.hsl id 1 (off+k) (L-k)) rfl ?_ <| vp (v:=.hsl id 1 (off+k) (L-k)) rfl ?_ dN,?_,?_⟩
 ·simp[aS,aF,ay,f0]
 ·simp[aS,aF,ay,aC,f5]
 ·simp only[aS,List.map_cons,List.map_nil,aF,aC,aB,Nat.reduceEqDiff,if_true,if_false,ay,jy,ζb,e,Option.map_some]
 ·simp[aS,aF,ay,aC]
 ·simp[aC]
 ·intro s hs h6;simp only[aC,aB];rw[if_neg (Ne.symm h6)]
  repeat (rw[if_neg (by omega)])
theorem x9 {o2 L2 m:Nat} (f6:get F 6=.hsl id 1 o2 L2) (f7:get F 7=.int .i64 m):∃F',(∀call,bO E N call none r9 F H=some (F',H))∧get F' 35=.bool (decide (m<L2))∧(∀s,s<8→get F' s=get F s):=by
 refine⟨_,fun call=>vp (v:=.int .i64 m) rfl ?_ <| vp (v:=.hsl id 1 o2 L2) rfl ?_ <| vp (v:=.int .i64 L2) rfl ?_ <| vp (v:=.bool (decide (m<L2))) rfl ?_ dN,?_,?_⟩
 ·simp[aS,aF,ay,f7]
 ·simp[aS,aF,ay,aC,f6]
 ·simp[aS,aF,ay,aC,nj]
 ·simp[aS,aF,ay,aC,gP,mQ]
 ·simp[aC]
 ·intro s hs;simp only[aC,aB]
  repeat (rw[if_neg (by omega)])
theorem T0 {cur:List (List V)} {o2 L2 m p:Nat} {a z:V} (h:H[id]? = some (.row 1 cur)) (f0:get F 0=.hsl id 1 off L) (f5:get F 5=.int .i64 p) (f6:get F 6=.hsl id 1 o2 L2) (f7:get F 7=.int .i64 m) (hm:m<L2) (hp:p<L)
 (ha:cur[o2+m]? = some [a]) (hz:cur[off+p]? = some [z]) (h1:a.one=true) :
 ∃F',(∀call,bO E N call none D4 F H=some (F',H.set id (.row 1 (cur.set (off+p) [a]))))∧(∀s,s<8→get F' s=get F s):=by
 have i1:=MB (id:=id) (off:=o2) (L:=L2) hm;have i2:=MB (id:=id) (off:=off) (L:=L) hp;have e1:=ld h ha;have hs:dW H (.store 1) [.hptr id (off+p) 0,a]=some (.undef,H.set id (.row 1 (cur.set (off+p) [a]))):=by
  simp[dW,h,hz,Bt h1,h1]
 refine⟨_,fun call=>vp (v:=.hsl id 1 off L) rfl ?_ <| vp (v:=.int .i64 p) rfl ?_ <| vp (v:=.hsl id 1 o2 L2) rfl ?_ <| vp (v:=.int .i64 m) rfl ?_ <| vp (v:=.hptr id (o2+m) 0) rfl ?_ <| vp (v:=a) rfl ?_ <| vp (v:=.hptr id (off+p) 0) rfl ?_ <| iB (v:=.undef) (H1:=H.set id (.row 1 (cur.set (off+p) [a]))) rfl ?_ dN,?_⟩
 ·simp[aS,aF,ay,f0]
 ·simp[aS,aF,ay,aC,f5]
 ·simp[aS,aF,ay,aC,f6]
 ·simp[aS,aF,ay,aC,f7]
 ·simp only[aS,List.map_cons,List.map_nil,aF,aC,aB,Nat.reduceEqDiff,if_true,if_false,ay];rw[i1];rfl
 ·simp only[aS,List.map_cons,List.map_nil,aF,aC,aB,Nat.reduceEqDiff,if_true,if_false];rw[e1];rfl
 ·simp only[aS,List.map_cons,List.map_nil,aF,aC,aB,Nat.reduceEqDiff,if_true,if_false,ay];rw[i2];rfl
 ·simp only[aS,List.map_cons,List.map_nil,aF,aC,aB,Nat.reduceEqDiff,if_true,if_false];exact hs
 ·intro s hs;simp only[aC,aB]
  repeat (rw[if_neg (by omega)])
theorem HA {p:Nat} (hp:p≤2147483648):(get F 5=.int .i64 p→∃F',(∀call,bO E N call none CP F H=some (F',H))∧get F' 5=.int .i64 ((p+1:Nat):Int)∧(∀s,s<8→s≠5→get F' s=get F s)) ∧
 (get F 7=.int .i64 p→∃F',(∀call,bO E N call none D1 F H=some (F',H))∧get F' 7=.int .i64 ((p+1:Nat):Int)∧(∀s,s<8→s≠7→get F' s=get F s)) ∧
 (get F 5=.int .i64 p→∃F',(∀call,bO E N call none r16 F H=some (F',H))∧get F' 5=.int .i64 ((p+1:Nat):Int)∧(∀s,s<8→s≠5→get F' s=get F s)):=by
 have hb:=vM hp;refine⟨fun f=>⟨_,fun call=>vp (v:=.int .i64 p) rfl ?_ <| vp (v:=.int .i64 ((p+1:Nat):Int)) rfl ?_ <| vp (v:=.int .i64 ((p+1:Nat):Int)) rfl ?_ dN,?_,?_⟩,
  fun f=>⟨_,fun call=>vp (v:=.int .i64 p) rfl ?_ <| vp (v:=.int .i64 ((p+1:Nat):Int)) rfl ?_ <| vp (v:=.int .i64 ((p+1:Nat):Int)) rfl ?_ dN,?_,?_⟩,
  fun f=>⟨_,fun call=>vp (v:=.int .i64 p) rfl ?_ <| vp (v:=.int .i64 ((p+1:Nat):Int)) rfl ?_ <| vp (v:=.int .i64 ((p+1:Nat):Int)) rfl ?_ dN,?_,?_⟩⟩ <;>
 first
 | (simp[aS,aF,ay,f];done)
 | (simp only[aS,List.map_cons,List.map_nil,aF,aC,aB,Nat.reduceEqDiff,if_true,if_false,ay,gP,hb];rfl)
 | (simp[aS,aF,ay,aC];done)
 | (simp[aC];done)
 | (intro s hs h5;simp only[aC,aB];rw[if_neg (Ne.symm h5)];repeat (rw[if_neg (by omega)]))
theorem ZH {cur:List (List V)} {p:Nat} (h:H[id]? = some (.row 1 cur)) (f0:get F 0=.hsl id 1 off L) (f5:get F 5=.int .i64 p) (hp:p<L) (hl:off+L≤cur.length) :
 ∃F',(∀call,bO E N call none Cy F H=some (F',H.set id (.row 1 (cur.take (off+p)++List.replicate (L-p) [.aG]++cur.drop (off+L)))))∧(∀s,s<8→get F' s=get F s):=by
 have e:fP 1 (.hsl id 1 off L) (some (p:Int)) none=some (.hsl id 1 (off+p) (L-p)):=by
  unfold fP cE;simp only[if_true,Option.getD_none,Option.getD_some];rw[if_pos (by omega)];simp
 obtain⟨q,hq⟩:∃q,L-p=q+1:=⟨L-p-1,by omega⟩
 have hc:dW H (.clear 1 [.aG]) [.hsl id 1 (off+p) (L-p)]=some (.undef,H.set id (.row 1 (cur.take (off+p)++List.replicate (L-p) [.aG]++cur.drop (off+L)))):=by
  simp only[dW,Ar,if_true,hq,h];rw[if_pos (by omega)]
  congr 6;omega
 refine⟨_,fun call=>vp (v:=.hsl id 1 off L) rfl ?_ <| vp (v:=.int .i64 p) rfl ?_ <| vp (v:=.hsl id 1 (off+p) (L-p)) rfl ?_ <| iB (v:=.undef) (H1:=H.set id (.row 1 (cur.take (off+p)++List.replicate (L-p) [.aG]++cur.drop (off+L)))) rfl ?_ dN,?_⟩
 ·simp[aS,aF,ay,f0]
 ·simp[aS,aF,ay,aC,f5]
 ·simp only[aS,List.map_cons,List.map_nil,aF,aC,aB,Nat.reduceEqDiff,if_true,if_false,ay,jy,ζb,e,Option.map_some]
 ·simp only[aS,List.map_cons,List.map_nil,aF,aC,aB,Nat.reduceEqDiff,if_true,if_false];exact hc
 ·intro s hs;simp only[aC,aB]
  repeat (rw[if_neg (by omega)])
theorem L4 {p:Nat} (f0:get F 0=.hsl id 1 off L) (f5:get F 5=.int .i64 p) (hp:p≤L):∃F',(∀call,bO E N call none FA F H=some (F',H))∧get F' 4=.hsl id 1 off p:=by
 have e:fP 1 (.hsl id 1 off L) none (some (p:Int))=some (.hsl id 1 off p):=by
  unfold fP cE;simp only[if_true,Option.getD_none,Option.getD_some];rw[if_pos (by omega)];simp
 refine⟨_,fun call=>vp (v:=.hsl id 1 off L) rfl ?_ <| vp (v:=.int .i64 p) rfl ?_ <| vp (v:=.hsl id 1 off p) rfl ?_ <| vp (v:=.hsl id 1 off p) rfl ?_ dN,?_⟩
 ·simp[aS,aF,ay,f0]
 ·simp[aS,aF,ay,aC,f5]
 ·simp only[aS,List.map_cons,List.map_nil,aF,aC,aB,Nat.reduceEqDiff,if_true,if_false,ay,jy,ζb,e,Option.map_some]
 ·simp[aS,aF,ay,aC]
 ·simp[aC]
theorem ZL:∃F',(∀call,bO E N call none IE F H=some (F',H))∧get F' 4=get F 0:=
 ⟨_,fun call=>vp (v:=get F 0) rfl (by simp[aS,aF,ay]) <| vp (v:=get F 0) rfl (by simp[aS,aF,ay,aC]) dN,by simp[aC]⟩
theorem Vt:∃F',(∀call,bO E N call none r3 F H=some (F',H))∧get F' 4=get F 0:=
 ⟨_,fun call=>vp (v:=get F 0) rfl (by simp[aS,aF,ay]) <| vp (v:=get F 0) rfl (by simp[aS,aF,ay,aC]) dN,by simp[aC]⟩
end
structure GZ (E:Env) (g:FuncId) (cb:List V) (H:aq) (id off L:Nat) (rs:List (List V)) (A:Nat→V) (t:Nat→Bool):Prop where
 row:H[id]? = some (.row 1 rs)
 len:off+L≤rs.length
 small:L≤2147483648
 at_:∀i,i<L→rs[off+i]? = some [A i]
 one:∀i,i<L→(A i).one=true
 keep:E.keep g=false
 cmp:∃n,∀k,n≤k→∀i,i+1<L→∀cur,bF (run E k) g (A (i+1)::A i::cb) (H.set id (.row 1 cur))=some (.bool (t (i+1)))
structure Head (g:FuncId) (cb:List V) (id off L kk m:Nat) (rs:List (List V)) (A:Nat→V) (t:Nat→Bool) (F:Frame) (cur:List (List V)):Prop where
 f0:get F 0=.hsl id 1 off L
 f1:get F 1=.clo g [] cb
 f5:get F 5=.int .i64 ((kept t (kk+m)).length:Nat)
 f6:get F 6=.hsl id 1 (off+kk) (L-kk)
 f7:get F 7=.int .i64 m
 len:cur.length=rs.length
 pre:∀p i,(kept t (kk+m))[p]? = some i→cur[off+p]? = some [A i]
 post:∀i,kk+m≤i+1→i<L→cur[off+i]? = some [A i]
 out:∀j,j<off∨off+L≤j→cur[j]? = rs[j]?
 cell:∀i,i<L→∃j,j<L∧cur[off+i]? = some [A j]
section
variable {E:Env} {N:Nat→FuncId} {g:FuncId} {cb:List V} {H:aq} {id off L kk:Nat} {rs:List (List V)} {A:Nat→V} {t:Nat→Bool}
theorem F_ (X:GZ E g cb H id off L rs A t) (hkk:0<kk) (hkL:kk<L) (ht:t kk=true):∀(d m:Nat) (F:Frame) (cur:List (List V)),kk+m+d=L→0<m→Head g cb id off L kk m rs A t F cur →
 ∃F' cur',ku E N X5 F (H.set id (.row 1 cur)) (.exit 2) F' (H.set id (.row 1 cur'))∧Head g cb id off L kk (L-kk) rs A t F' cur':=by
 have hidlt:=(ζe.1 X.row).1;have hrow:∀cur,(H.set id (.row 1 cur))[id]? = some (.row 1 cur):=fun cur=>List.getElem?_set_self hidlt
 have hsm:=X.small;have hlen:=X.len;intro d
 induction d with
 | zero=>
  intro m F cur he hm h;have em:m=L-kk:=by omega
  subst em;obtain⟨F1,e1,e2,e3⟩:=x9 (E:=E) (N:=N) (H:=H.set id (.row 1 cur)) h.f6 h.f7;refine⟨F1,cur,ku.stop (Ex.tN (Ex.seq (Ex.dc e1) (Ex.rD (by simp[aF,e2]) Ex.exit)) (by simp)) (by simp),?_⟩
  exact⟨by rw[e3 0 (by omega)];exact h.f0,by rw[e3 1 (by omega)];exact h.f1,by rw[e3 5 (by omega)];exact h.f5,by rw[e3 6 (by omega)];exact h.f6,by rw[e3 7 (by omega)];exact h.f7,h.len,h.pre,h.post,h.out,h.cell⟩
 | succ d ih=>
  intro m F cur he hm h;obtain⟨F1,a1,a2,a3⟩:=x9 (E:=E) (N:=N) (H:=H.set id (.row 1 cur)) h.f6 h.f7;have a2':aF N F1 35=.bool true:=by
   show get F1 35=_;rw[a2,decide_eq_true (by omega)]
  obtain⟨m',rfl⟩:∃m',m=m'+1:=⟨m-1,by omega⟩
  obtain⟨n0,hn0⟩:=X.cmp;have c1:cur[off+kk+(m'+1)]? = some [A (kk+m'+1)]:=by
   have:=h.post (kk+m'+1) (by omega) (by omega);rw[←this];congr 1;omega
  have c2:cur[off+kk+m']? = some [A (kk+m')]:=by
   have:=h.post (kk+m') (by omega) (by omega);rw[←this];congr 1;omega
  obtain⟨F2,b1,b2,b3⟩:=(Ug (E:=E) (N:=N) (cb:=cb) (g:=g) (i:=m') (L2:=L-kk) (t:=t (kk+m'+1)) (hrow cur) (by omega) (by omega) c1 c2 X.keep (by rw[a3 1 (by omega)];exact h.f1)).2 (by rw[a3 6 (by omega)];exact h.f6) (by rw[a3 7 (by omega)];exact h.f7)
  have b1':∃n,∀k,n≤k→bO E N (run E k) (some (H.set id (.row 1 cur)).length) CS F1 (H.set id (.row 1 cur))=some (F2,H.set id (.row 1 cur)):=⟨n0,fun k hk=>b1 _ (hn0 k hk (kk+m') (by omega) cur)⟩
  have hf:∀s,s<8→get F2 s=get F s:=fun s hs=>(b3 s hs).trans (a3 s hs)
  have hlenk:(kept t (kk+(m'+1))).length+1≤kk+(m'+1):=wR hkk ht _ (by omega)
  have hks:kept t (kk+(m'+1)+1)=kept t (kk+(m'+1))++if t (kk+m'+1)then []else [kk+m'+1]:=by
   rw[ta];have:(kk+(m'+1)==0)=false:=by simp
   rw[this,Bool.false_or,show kk+(m'+1)=kk+m'+1 by omega]
   cases t (kk+m'+1) <;> rfl
  have e12:kk+(m'+1+1)=kk+(m'+1)+1:=by omega
  cases htt:t (kk+m'+1)with
  | true=>
   rw[htt]at b2 hks;simp only[if_true,List.append_nil]at hks;obtain⟨F3,q1,q2,q3⟩:=(HA (E:=E) (N:=N) (F:=F2) (H:=H.set id (.row 1 cur)) (p:=m'+1) (by omega)).2.1 (by rw[hf 7 (by omega)];exact h.f7)
   obtain⟨F',cur',i1,i2⟩:=ih (m'+1+1) F3 cur (by omega) (by omega) ⟨by rw[q3 0 (by omega) (by omega),hf 0 (by omega)];exact h.f0,by rw[q3 1 (by omega) (by omega),hf 1 (by omega)];exact h.f1,
    by rw[q3 5 (by omega) (by omega),hf 5 (by omega),e12,hks];exact h.f5,by rw[q3 6 (by omega) (by omega),hf 6 (by omega)];exact h.f6,q2,h.len,by rw[e12,hks];exact h.pre,fun i h1 h2=>h.post i (by omega) h2,h.out,h.cell⟩
   exact⟨F',cur',ku.step (Ex.seq (Ex.seq (Ex.dc a1) (Ex.mD a2' Ex.skip)) (Ex.seq (Ex.block (Ex.seq (Ex.GG (by decide) b1') (Ex.rD (by simp[aF,b2]) Ex.skip))) (Ex.dc q1))) i1,i2⟩
  | false=>
   rw[htt]at b2 hks;simp only[Bool.false_eq_true,if_false]at hks;generalize hK:(kept t (kk+(m'+1))).length=K at *;obtain⟨_,_,hz⟩:=h.cell K (by omega)
   obtain⟨F3,q1,q2⟩:=T0 (E:=E) (N:=N) (F:=F2) (off:=off) (L:=L) (p:=K) (m:=m'+1) (L2:=L-kk) (o2:=off+kk) (a:=A (kk+m'+1)) (hrow cur) (by rw[hf 0 (by omega)];exact h.f0) (by rw[hf 5 (by omega),h.f5,hK]) (by rw[hf 6 (by omega)];exact h.f6) (by rw[hf 7 (by omega)];exact h.f7) (by omega) (by omega) c1 hz (X.one _ (by omega))
   rw[List.set_set]at q1;generalize hcur:cur.set (off+K) [A (kk+m'+1)]=cur2 at q1;have hg:∀j,cur2[j]? = if j=off+K then some [A (kk+m'+1)]else cur[j]? := fun j=>by
    rw[←hcur,List.getElem?_set]
    by_cases e:off+K=j
    ·rw[if_pos e,if_pos e.symm,if_pos (by rw[h.len];omega)]
    ·rw[if_neg e,if_neg (Ne.symm e)]
   obtain⟨F4,q3,q4,q5⟩:=(HA (E:=E) (N:=N) (F:=F3) (H:=H.set id (.row 1 cur2)) (p:=K) (by omega)).1 (by rw[q2 5 (by omega),hf 5 (by omega),h.f5,hK])
   have hf4:∀s,s<8→s≠5→get F4 s=get F s:=fun s h1 h2=>by rw[q5 s h1 h2,q2 s h1,hf s h1]
   obtain⟨F5,q6,q7,q8⟩:=(HA (E:=E) (N:=N) (F:=F4) (H:=H.set id (.row 1 cur2)) (p:=m'+1) (by omega)).2.1 (by rw[hf4 7 (by omega) (by omega)];exact h.f7)
   obtain⟨F',cur',i1,i2⟩:=ih (m'+1+1) F5 cur2 (by omega) (by omega) ⟨by rw[q8 0 (by omega) (by omega),hf4 0 (by omega) (by omega)];exact h.f0,by rw[q8 1 (by omega) (by omega),hf4 1 (by omega) (by omega)];exact h.f1,
    by rw[q8 5 (by omega) (by omega),q4,e12,hks,ζi,hK];rfl,by rw[q8 6 (by omega) (by omega),hf4 6 (by omega) (by omega)];exact h.f6,q7,by rw[←hcur,List.length_set];exact h.len,
    fun p i hp=>by
     rw[e12,hks]at hp;rw[hg]
     by_cases e:p=K
     ·subst e;rw[←hK,List.getElem?_append_right (Nat.le_refl _),Nat.sub_self]at hp;cases hp;rw[if_pos rfl]
     ·have hpl:p<(kept t (kk+(m'+1))).length:=by
       have:=(ζe.1 hp).1;simp at this;omega
      rw[List.getElem?_append_left hpl]at hp;rw[if_neg (by omega)];exact h.pre p i hp,
    fun i h1 h2=>by rw[hg,if_neg (by omega)];exact h.post i (by omega) h2,fun j hj=>by rw[hg,if_neg (by omega)];exact h.out j hj,
    fun i hi=>by
     rw[hg]
     by_cases e:off+i=off+K
     ·rw[if_pos e];exact⟨_,by omega,rfl⟩
     ·rw[if_neg e];exact h.cell i hi⟩
   exact⟨F',cur',ku.step (Ex.seq (Ex.seq (Ex.dc a1) (Ex.mD a2' Ex.skip)) (Ex.seq (Ex.block (Ex.seq (Ex.GG (by decide) b1') (Ex.mD (by simp[aF,b2]) (Ex.seq (Ex.dc q1) (Ex.dc q3))))) (Ex.dc q6))) i1,i2⟩
structure Kq (off L:Nat) (rs:List (List V)) (A:Nat→V) (t:Nat→Bool) (rs':List (List V)):Prop where
 len:rs'.length=rs.length
 pre:∀p i,(kept t L)[p]? = some i→rs'[off+p]? = some [A i]
 all:∀c∈rs',c∈rs∨c=[.aG]
theorem HE (X:GZ E g cb H id off L rs A t):∀(d k:Nat) (F:Frame),k+d=L→0<k→(∀i,0<i→i<k→t i=false)→get F 0=.hsl id 1 off L→get F 1=.clo g [] cb→get F 5=.int .i64 k →
 (∃F',ku E N Mt F H (.exit 0) F' H∧get F' 0=.hsl id 1 off L∧∀i,0<i→i<L→t i=false) ∨
 (∃F' rs',ku E N Mt F H .ret F' (H.set id (.row 1 rs'))∧get F' 4=.hsl id 1 off (kept t L).length∧Kq off L rs A t rs'):=by
 have hidlt:=(ζe.1 X.row).1;have hself:H.set id (.row 1 rs)=H:=vD X.row;have hsm:=X.small;have hlen:=X.len;intro d
 induction d with
 | zero=>
  intro k F he hk hp f0 f1 f5;have ek:k=L:=by omega
  subst ek;obtain⟨F1,e1,e2,e3⟩:=x5 (E:=E) (N:=N) (H:=H) f0 f5;exact .inl ⟨F1,ku.stop (Ex.tN (Ex.seq (Ex.dc e1) (Ex.rD (by simp[aF,e2]) Ex.exit)) (by simp)) (by simp),by rw[e3 0 (by omega)];exact f0,hp⟩
 | succ d ih=>
  intro k F he hk hp f0 f1 f5;obtain⟨F1,a1,a2,a3⟩:=x5 (E:=E) (N:=N) (H:=H) f0 f5;have a2':aF N F1 15=.bool true:=by
   show get F1 15=_;rw[a2,decide_eq_true (by omega)]
  obtain⟨k',rfl⟩:∃k',k=k'+1:=⟨k-1,by omega⟩
  obtain⟨n0,hn0⟩:=X.cmp;obtain⟨F2,b1,b2,b3⟩:=(Ug (E:=E) (N:=N) (cb:=cb) (g:=g) (i:=k') (L2:=L) (t:=t (k'+1)) X.row (by omega) (by omega) (X.at_ _ (by omega)) (X.at_ _ (by omega)) X.keep (by rw[a3 1 (by omega)];exact f1)).1 (by rw[a3 0 (by omega)];exact f0) (by rw[a3 5 (by omega)];exact f5)
  have b1':∃n,∀k,n≤k→bO E N (run E k) (some H.length) r6 F1 H=some (F2,H):=⟨n0,fun k hk=>b1 _ (by
   have:=hn0 k hk k' (by omega) rs;rw[hself]at this;exact this)⟩
  have hf:∀s,s<8→get F2 s=get F s:=fun s hs=>(b3 s hs).trans (a3 s hs)
  cases htt:t (k'+1)with
  | false=>
   rw[htt]at b2;obtain⟨F3,q1,q2,q3⟩:=(HA (E:=E) (N:=N) (F:=F2) (H:=H) (p:=k'+1) (by omega)).2.2 (by rw[hf 5 (by omega)];exact f5)
   have hstep:Ex E N Mt F H .norm F3 H:=Ex.seq (Ex.seq (Ex.dc a1) (Ex.mD a2' Ex.skip)) (Ex.seq (Ex.block (Ex.seq (Ex.GG (by decide) b1') (Ex.rD (by simp[aF,b2]) Ex.skip))) (Ex.dc q1))
   rcases ih (k'+1+1) F3 (by omega) (by omega) (fun i h1 h2=>by
    by_cases e:i=k'+1
    ·subst e;exact htt
    ·exact hp i h1 (by omega)) (by rw[q3 0 (by omega) (by omega),hf 0 (by omega)];exact f0) (by rw[q3 1 (by omega) (by omega),hf 1 (by omega)];exact f1) q2 with⟨F',i1,i2⟩|⟨F',rs',i1,i2⟩
   ·exact .inl ⟨F',ku.step hstep i1,i2⟩
   ·exact .inr ⟨F',rs',ku.step hstep i1,i2⟩
  | true=>
   rw[htt]at b2;refine .inr ?_;obtain⟨F3,q1,q2,q3⟩:=x7 (E:=E) (N:=N) (F:=F2) (H:=H) (k:=k'+1) (by rw[hf 0 (by omega)];exact f0) (by rw[hf 5 (by omega)];exact f5) (by omega)
   have hrange:kept t (k'+1)=List.range (k'+1):=zh _ hp;have hk1:kept t (k'+1+1)=List.range (k'+1):=by
    rw[ta,hrange,htt];simp
   have q4:∀call,bO E N call none r8 F3 H=some (set F3 7 (.int .i64 1),H):=fun call=>vp (v:=.int .i64 1) rfl (by simp[aS,aF,ay]) dN
   have h0:Head g cb id off L (k'+1) 1 rs A t (set F3 7 (.int .i64 1)) rs:=⟨by rw[gj _ _ (by omega),q3 0 (by omega) (by omega),hf 0 (by omega)];exact f0,by rw[gj _ _ (by omega),q3 1 (by omega) (by omega),hf 1 (by omega)];exact f1,
    by rw[gj _ _ (by omega),q3 5 (by omega) (by omega),hf 5 (by omega),hk1,List.length_range];exact f5,by rw[gj _ _ (by omega)];exact q2,by rw[rK];rfl,rfl,
    fun p i hpi=>by
     rw[hk1]at hpi;obtain⟨h1,h2⟩:=ζe.1 hpi;simp at h1 h2;subst h2;exact X.at_ p (by omega),fun i _ h2=>X.at_ i h2,fun _ _=>rfl,fun i hi=>⟨i,hi,X.at_ i hi⟩⟩
   obtain⟨F5,cur,l1,l2⟩:=F_ (N:=N) X (by omega) (by omega) htt (L-(k'+1)-1) 1 _ rs (by omega) (by omega) h0
   rw[hself]at l1;have eL:k'+1+(L-(k'+1))=L:=by omega
   have hlessL:=wR (t:=t) (k:=k'+1) (by omega) htt L (by omega)
   have l5:=l2.f5;have lpre:=l2.pre;rw[eL]at l5 lpre;generalize hK:(kept t L).length=K at *;have hrow:(H.set id (.row 1 cur))[id]? = some (.row 1 cur):=List.getElem?_set_self hidlt;obtain⟨F6,w1,w2⟩:=ZH (E:=E) (N:=N) (p:=K) hrow l2.f0 l5 (by omega) (by rw[l2.len];omega)
   rw[List.set_set]at w1;obtain⟨F7,w3,w4⟩:=L4 (E:=E) (N:=N) (F:=F6) (H:=H.set id (.row 1 (cur.take (off+K)++List.replicate (L-K) [.aG]++cur.drop (off+L)))) (p:=K) (by rw[w2 0 (by omega)];exact l2.f0) (by rw[w2 5 (by omega)];exact l5) (by omega)
   have hcl:=l2.len;refine⟨F7,cur.take (off+K)++List.replicate (L-K) [.aG]++cur.drop (off+L),ku.stop (Ex.seq (Ex.seq (Ex.dc a1) (Ex.mD a2' Ex.skip)) (Ex.tN (Ex.HT (Ex.seq (Ex.GG (by decide) b1') (Ex.mD (by simp[aF,b2]) (Ex.seq (Ex.dc q1) (Ex.seq (Ex.seq (Ex.dc q4) (Ex.uk (Ex.loop l1))) (Ex.seq (Ex.dc w1) (Ex.seq (Ex.dc w3) Ex.ret))))))) (by simp))) (by simp),w4,?_,fun p i hpi=>?_,fun c hc=>?_⟩
   ·simp;omega
   ·have hpl:p<K:=by rw[←hK];exact(ζe.1 hpi).1
    rw[List.append_assoc,List.getElem?_append_left (by simp;omega),List.getElem?_take,if_pos (by omega)]
    exact lpre p i hpi
   ·have hin:∀j x,cur[j]? = some x→x∈rs:=fun j x hj=>by
     by_cases ho:j<off∨off+L≤j
     ·rw[l2.out j ho]at hj;exact List.mem_of_getElem? hj
     ·obtain⟨i,rfl⟩:∃i,j=off+i:=⟨j-off,by omega⟩
      obtain⟨q,hq,hc⟩:=l2.cell i (by omega)
      rw[hc]at hj;cases hj;exact List.mem_of_getElem? (X.at_ q hq)
    rcases List.mem_append.1 hc with hc|hc
    ·rcases List.mem_append.1 hc with hc|hc
     ·obtain⟨j,hj⟩:=List.getElem?_of_mem (List.mem_of_mem_take hc);exact .inl (hin j c hj)
     ·exact .inr (List.eq_of_mem_replicate hc)
    ·obtain⟨j,hj⟩:=List.getElem?_of_mem (List.mem_of_mem_drop hc);exact .inl (hin j c hj)
end
end cmpX
end Go.VE
namespace Go.VE
variable [aX]
namespace cmpX
section
variable {E:Env} {N:Nat→FuncId} {g:FuncId} {cb:List V} {H:aq} {id off L:Nat} {rs:List (List V)} {A:Nat→V} {t:Nat→Bool}
theorem whole (X:GZ E g cb H id off L rs A t):∃F' rs',Ex E N code [.hsl id 1 off L,.clo g [] cb] H .ret F' (H.set id (.row 1 rs'))∧get F' 4=.hsl id 1 off (kept t L).length∧Kq off L rs A t rs':=by
 have hself:H.set id (.row 1 rs)=H:=vD X.row;have same:(∀i,0<i→i<L→t i=false)→(kept t L).length=L∧Kq off L rs A t rs:=fun h=>by
  have hk:=zh L h;rw[hk,List.length_range];exact⟨rfl,rfl,fun p i hp=>by
   rw[hk]at hp;obtain⟨h1,h2⟩:=ζe.1 hp;simp at h1 h2;subst h2;exact X.at_ p h1,fun c hc=>.inl hc⟩
 have g1:∀call,bO E N call none r1 [.hsl id 1 off L,.clo g [] cb] H=some (set [.hsl id 1 off L,.clo g [] cb] 4 .aG,H):=fun call=>vp (v:=.aG) rfl (by simp[aS,aF,ay]) dN
 have k0:get (set [V.hsl id 1 off L,.clo g [] cb] 4 .aG) 0=.hsl id 1 off L:=rfl;have k1:get (set [V.hsl id 1 off L,.clo g [] cb] 4 .aG) 1=.clo g [] cb:=rfl;generalize set [V.hsl id 1 off L,.clo g [] cb] 4 .aG=F0 at *;obtain⟨F1,a1,a2,a3⟩:=x2 (E:=E) (N:=N) (H:=H) k0
 by_cases hL:L<2
 ·obtain⟨F2,b1,b2⟩:=Vt (E:=E) (N:=N) (F:=F1) (H:=H);obtain⟨e1,e2⟩:=same fun i h1 h2=>by omega
  refine⟨F2,rs,?_,by rw[e1,b2,a3 0 (by omega)];exact k0,e2⟩
  rw[hself];exact Ex.seq (Ex.dc g1) (Ex.tN (Ex.seq (Ex.dc a1) (Ex.mD (by show get F1 10=_;rw[a2,decide_eq_true (by omega)]) (Ex.seq (Ex.dc b1) Ex.ret))) (by simp))
 ·have g4:∀call,bO E N call none r4 F1 H=some (set F1 5 (.int .i64 1),H):=fun call=>vp (v:=.int .i64 1) rfl (by simp[aS,aF,ay]) dN
  have hc:Ex E N (.seq (.ops r2) (.cond (.s 10) (.seq (.ops r3) (.ret)) (.skip))) F0 H .norm F1 H:=Ex.seq (Ex.dc a1) (Ex.rD (by show get F1 10=_;rw[a2,decide_eq_false (by omega)]) Ex.skip)
  rcases HE (N:=N) X (L-1) 1 (set F1 5 (.int .i64 1)) (by omega) (by omega) (fun i h1 h2=>by omega) (by rw[gj _ _ (by omega),a3 0 (by omega)];exact k0) (by rw[gj _ _ (by omega),a3 1 (by omega)];exact k1) (by rw[rK];rfl)with⟨F',l1,l2,l3⟩|⟨F',rs',l1,l2,l3⟩
  ·obtain⟨F2,b1,b2⟩:=ZL (E:=E) (N:=N) (F:=F') (H:=H);obtain⟨e1,e2⟩:=same l3;refine⟨F2,rs,?_,by rw[e1,b2];exact l2,e2⟩
   rw[hself];exact Ex.seq (Ex.dc g1) (Ex.seq hc (Ex.seq (Ex.seq (Ex.dc g4) (Ex.uk (Ex.loop l1))) (Ex.seq (Ex.dc b1) Ex.ret)))
  ·exact⟨F',rs',Ex.seq (Ex.dc g1) (Ex.seq hc (Ex.tN (Ex.seq (Ex.dc g4) (Ex.HT (Ex.loop l1))) (by simp))),l2,l3⟩
theorem empty {w:V} (c:V) (hw:w=.aG∨w=.cC):∃F',Ex E N code [w,c] H .ret F' H∧get F' 4=w:=by
 have g1:∀call,bO E N call none r1 [w,c] H=some (set [w,c] 4 .aG,H):=fun call=>vp (v:=.aG) rfl (by simp[aS,aF,ay]) dN
 have k0:get (set [w,c] 4 .aG) 0=w:=rfl;generalize set [w,c] 4 .aG=F0 at *;have hl:nj w=some (.int .i64 0):=by rcases hw with rfl|rfl <;> rfl
 have a1:∃F1,(∀call,bO E N call none r2 F0 H=some (F1,H))∧get F1 10=.bool true∧get F1 0=w:=by
  refine⟨_,fun call=>vp (v:=w) rfl ?_ <| vp (v:=.int .i64 0) rfl ?_ <| vp (v:=.bool true) rfl ?_ dN,?_,?_⟩
  ·simp[aS,aF,ay,k0]
  ·simp[aS,aF,ay,aC,hl]
  ·simp[aS,aF,ay,aC,gP,mQ]
  ·simp[aC]
  ·simp[aC,k0]
 obtain⟨F1,a1,a2,a3⟩:=a1;obtain⟨F2,b1,b2⟩:=Vt (E:=E) (N:=N) (F:=F1) (H:=H);exact⟨F2,Ex.seq (Ex.dc g1) (Ex.tN (Ex.seq (Ex.dc a1) (Ex.mD a2 (Ex.seq (Ex.dc b1) Ex.ret))) (by simp)),by rw[b2,a3]⟩
end
end cmpX
end Go.VE
namespace Go.VE
variable [aX]
def Sl.re {α:Type} (s:Sl α) (l:List α):Sl α:=match s with|.nil=>.nil|.emp=>.emp|.row _=>.row l|.part _=>.part l
def Sl.Gn {α:Type} (s:Sl α) (l:List α):Sl α:=match s with|.nil=>.nil|.emp=>.emp|.row _|.part _=>.part l
noncomputable def VO {α:Type} (s:Sl α) (p:α→α→Option Int):Option (Sl α):=
 match s.l with
 | []=>some s
 | x::l=>if l.length<2147483648 then
  let t:_root_.Fin (l.length+1)→_root_.Fin (l.length+1)→Option Int:=fun i j=>p (x::l)[i.1] (x::l)[j.1]
  if Av t then some (s.re ((An l.length (qW t)).toList.map fun i=>(x::l)[i.1]))else none
  else none
def zN {α:Type} (l:List α) (p:α→α→Option Bool) (i:Nat):Option Bool:=match l[i]?,l[i-1]? with|some a,some b=>p a b|_,_=>none
def Tp {α:Type} (s:Sl α) (p:α→α→Option Bool):Option (Sl α):=
 if s.l.length≤2147483648∧((List.range s.l.length).all fun i=>i==0||(zN s.l p i).isSome)=true then
  some (s.Gn ((kept (fun i=>(zN s.l p i).getD false) s.l.length).filterMap (s.l[·]?)))
 else none
section
variable {S:Sys} {T:pJ} {β γ δ α:Type} {Q:Out×St→Option β} {e:γ→Option β} {cf:Cf}
theorem lE.SQ (hT:s9 S T) (hI:∀f a b xs,S.items f a b=some xs→fE S f a b xs) {fn:FuncId} {A:δ→List V} {E:α→List V} {p:δ→Option α} {sc:Bool} (F:lE S (dU S T) fn A E p sc) {z:δ} {r:α} (h:p z=some r) (hg:V.bH (A z)=true) :
 ∃n,bF (run S.E n) fn (A z) []=some (result (E r)):=by
 have h1:=F.h z (E r) (by rw[h];rfl)
 unfold jJ at h1;obtain⟨⟨rs,m'⟩,h2,h3⟩:=ζg.1 h1;obtain⟨n,y,H2,e1,e2,e3⟩:=Dt (uc hT hI) hg h2 h3 (F.r r);refine⟨n,?_⟩;have hb:borrows 8 [] (A z)=some (A z):=by
  have hc:=V.kf hg;generalize A z=l at hc;unfold borrows
  induction l with
  | nil=>rfl
  | cons x l ih=>
   simp only[V.iI,ζh]at hc;simp only[iR,c9 8 [] hc.1,ih hc.2]
 unfold bF;rw[hb];simp only[e1 n (Nat.le_refl _),e2,V.je e3,if_true]
section
variable [aI α] [Lv 8 α]
end
end
end Go.VE
namespace Go.VE
variable [aX]
section
variable {H H':aq} {w:V} {o:Nat} {ids:List Nat} {rows:List (List V)}
theorem jw.cell (n:jw H w o ids rows) {p j:Nat} {r:List V} {u:V} (hr:rows[p]? = some r) (hu:r[j]? = some u) :
 ∃id,ids[p]? = some id∧i_ 1 w (p:Int)=some (.hptr o p 0)∧dD H (.load 1 false) [.hptr o p 0]=some (.hsl id 1 0 r.length)∧i_ 1 (.hsl id 1 0 r.length) (j:Int)=some (.hptr id j 0)∧dD H (.load 1 false) [.hptr id j 0]=some u:=by
 have hp:=(ζe.1 hr).1;have hj:=(ζe.1 hu).1;have hne:rows≠[]:=by intro e;subst e;simp at hr
 have hpi:p<ids.length:=by rw[n.len];exact hp
 have hid:=ζd hpi;refine⟨ids[p],hid,?_,?_,?_,?_⟩
 ·have:=n.v;rw[if_neg hne]at this;subst this;simp[i_,hp]
 ·have h1:=n.ob hne;have h2:=yH hid hr;simp[dD,cM,h1,Ob.rows,h2,cut];rfl
 ·simp[i_,hj]
 ·have h1:=n.r p _ r hid hr;simp[dD,cM,h1,Ob.rows,gf,hu,cut];rfl
theorem Jl {ids:List Nat} (h:ids.Nodup) {i j:Nat} {a:Nat} (hi:ids[i]? = some a) (hj:ids[j]? = some a):i=j:=by
 have h1:=(ζe.1 hi);have h2:=(ζe.1 hj);obtain⟨h1,e1⟩:=h1;obtain⟨h2,e2⟩:=h2;exact(List.getElem_inj h).1 (e1.trans e2.symm)
theorem jw.set (n:jw H w o ids rows) {p j id:Nat} {r:List V} {u:V} (hr:rows[p]? = some r) (hj:j<r.length) (hid:ids[p]? = some id) (hu:V.one u=true) (hc:u.cells=[u]) :
 ∃H',dW H (.store 1) [.hptr id j 0,u]=some (.undef,H')∧jw H' w o ids (rows.set p (r.set j u))∧H'.length=H.length∧(∀i,i≠id→H'[i]? = H[i]?):=by
 have hp:=(ζe.1 hr).1;have hne:rows≠[]:=by intro e;subst e;simp at hr
 have h1:=n.r p id r hid hr;have hl:id<H.length:=(ζe.1 h1).1;have hset:(gf r).set j [u]=gf (r.set j u):=by simp[gf,List.map_set]
 have hoid:o≠id:=fun e=>n.ne hne (e▸List.mem_of_getElem? hid)
 refine⟨H.set id (.row 1 (gf (r.set j u))),?_,⟨?_,fun _=>?_,by simp[n.len],fun i id' r' hi hr'=>?_,n.nd,fun _=>n.ne hne⟩,by simp,fun i hi=>List.getElem?_set_ne (Ne.symm hi)⟩
 ·have h2:(gf r)[j]? = some [r[j]]:=by simp[gf,hj]
  simp only[dW,h1,h2,hc,List.length_singleton,Nat.zero_add,Nat.le_refl,List.all_cons,hu,List.all_nil,Bool.and_self,and_self,if_true,List.take_zero,List.nil_append];rw[←hset];simp
 ·rw[n.v];have:rows.set p (r.set j u)≠[]:=by intro e;apply hne;simpa using e
  rw[if_neg hne,if_neg this,List.length_set]
 ·rw[List.getElem?_set_ne (Ne.symm hoid),CO hr (by simp)];exact n.ob hne
 ·by_cases e:i=p
  ·subst e;rw[hid]at hi;cases hi;rw[List.getElem?_set_self hp]at hr';cases hr';rw[List.getElem?_set_self hl]
  ·rw[List.getElem?_set_ne (Ne.symm e)]at hr';have hne':id≠id':=fun e'=>e (Jl n.nd (e'▸hi) hid)
   rw[List.getElem?_set_ne hne'];exact n.r i id' r' hi hr'
end
structure gZ (H:aq) (w:V) (l:List (List V)) (id:Nat):Prop where
 c:∀c∈l,c.length=2∧c.all V.one=true
 v:(w=.aG∧l=[])∨∃off xs,w=.hsl id 2 off l.length∧H[id]? = some (.row 2 xs)∧off+l.length≤xs.length∧(xs.drop off).take l.length=l
section
variable {H H':aq} {w:V} {l:List (List V)} {id:Nat}
theorem gZ.heap (n:gZ H w l id) (h:∀off n,w=.hsl id 2 off n→H'[id]? = H[id]?):gZ H' w l id:=
 ⟨n.c,n.v.imp (fun h=>h) fun⟨off,xs,e1,e2,e3,e4⟩=>⟨off,xs,e1,by rw[h _ _ e1];exact e2,e3,e4⟩⟩
theorem gZ.lt (n:gZ H w l id) {off m:Nat} (h:w=.hsl id 2 off m):id<H.length:=by
 rcases n.v with⟨e,_⟩|⟨_,xs,_,e2,_⟩
 ·rw[e]at h;cases h
 ·exact(ζe.1 e2).1
theorem gZ.more (n:gZ H w l id) (X:aq):gZ (H++X) w l id:=n.heap fun _ _ e=>List.getElem?_append_left (n.lt e)
theorem gZ.len (n:gZ H w l id):nj w=some (.int .i64 l.length):=by
 rcases n.v with⟨rfl,rfl⟩|⟨off,xs,rfl,_⟩ <;> rfl
theorem gZ.get (n:gZ H w l id) {i:Nat} {c:List V} (hc:l[i]? = some c):∃p,i_ 2 w (i:Int)=some p∧dD H (.load 2 true) [p]=some (.agg c):=by
 have hi:=(ζe.1 hc).1;have hcl:=(n.c c (List.mem_of_getElem? hc)).1;rcases n.v with⟨_,rfl⟩|⟨off,xs,rfl,e2,e3,e4⟩
 ·simp at hc
 ·refine⟨.hptr id (off+i) 0,by simp[i_,hi],?_⟩
  have:xs[off+i]? = some c:=by
   rw[←e4,List.getElem?_take,if_pos hi,List.getElem?_drop]at hc;exact hc
  simp[dD,cM,e2,Ob.rows,this,cut,←hcl];rfl
theorem gZ.tail {c:List V} (n:gZ H w (c::l) id):∃w',fP 2 w (some 1) none=some w'∧gZ H w' l id∧∃off m off',w=.hsl id 2 off m∧w'=.hsl id 2 off' l.length:=by
 rcases n.v with⟨_,e⟩|⟨off,xs,rfl,e2,e3,e4⟩
 ·cases e
 ·refine⟨.hsl id 2 (off+1) l.length,?_,⟨fun c hc=>n.c c (List.mem_cons_of_mem _ hc),.inr ⟨off+1,xs,rfl,e2,by simp at e3;omega,?_⟩⟩,⟨_,_,_,rfl,rfl⟩⟩
  ·simp[fP,cE];omega
  ·have hd:(xs.drop off).drop 1=xs.drop (off+1):=by rw[List.drop_drop]
   rw[←hd];have:=congrArg (List.drop 1) e4;rw[List.drop_take]at this;simpa using this
theorem gZ.push (n:gZ H w l id) {c:List V} (hc:c.length=2∧c.all V.one=true) (hl:l.length+1≤2147483648) :
 ∃H',dW (H++[.row 2 [c]]) (.append 2) [w,.hsl H.length 2 0 1]=some (.hsl (H.length+1) 2 0 (l.length+1),H')∧gZ H' (.hsl (H.length+1) 2 0 (l.length+1)) (l++[c]) (H.length+1)∧H'.length=H.length+2∧(∀i,i<H.length→(∀off m,w=.hsl id 2 off m→i≠id)→H'[i]? = H[i]?):=by
 have e2:di (H++[.row 2 [c]]) 2 (.hsl H.length 2 0 1)=some [c]:=by simp[di,Ob.rows]
 have hcs:∀c'∈l++[c],c'.length=2∧c'.all V.one=true:=fun c' h=>by
  rcases List.mem_append.1 h with h|h
  ·exact n.c c' h
  ·simp at h;subst h;exact hc
 rcases n.v with⟨rfl,rfl⟩|⟨off,xs,rfl,g2,g3,g4⟩
 ·have e1:di (H++[.row 2 [c]]) 2 .aG=some []:=rfl;refine⟨H++[.row 2 [c]]++[.row 2 [c]],?_,⟨hcs,.inr ⟨0,[c],rfl,by simp,by simp,rfl⟩⟩,by simp,fun i hi _=>by rw[List.append_assoc,List.getElem?_append_left hi]⟩
  simp only[dW,e1,e2,iq,List.length_nil,List.length_singleton,Option.map_some];simp
 ·have hid:=(ζe.1 g2).1;have e1:di (H++[.row 2 [c]]) 2 (.hsl id 2 off l.length)=some l:=by
   simp only[di,if_true,List.getElem?_append_left hid,g2,ζb,Ob.rows,g3,g4]
  have eg:iq (H++[.row 2 [c]]) (.hsl id 2 off l.length)=some (List.set (H++[Ob.row 2 [c]]) id Ob.dead):=by
   simp only[iq,List.getElem?_append_left hid,g2]
  refine⟨List.set (H++[Ob.row 2 [c]]) id Ob.dead++[Ob.row 2 (l++[c])],?_,⟨hcs,.inr ⟨0,l++[c],by simp,by simp,by simp,List.take_of_length_le (by simp)⟩⟩,by simp,fun i hi h=>?_⟩
  ·simp only[dW,e1,e2,eg,List.length_singleton,hl,if_true,Option.map_some,ζi]
  ·rw[List.getElem?_append_left (by simp;omega),List.getElem?_set_ne (Ne.symm (h _ _ rfl)),List.getElem?_append_left hi]
end
noncomputable def FM (rs:List RV):Out×St→Option aQ
 | (.exit _,_)=>none
 | (_,st)=>(mN st rs).bind fun l=>match l with
  | [.own d]=>an st.m d
  | _=>none
theorem ZC {S:Sys} {c:bE} {rs:List RV} {rc:RC} {st:St} {ob:aQ} (h:jW S c (FM rs) rc [] st=some ob):∃o st' d,br S c rc st=some (o,st')∧(∀id,o≠.exit id)∧mN st' rs=some [.own d]∧an st'.m d=some ob:=by
 rw[rW]at h;obtain⟨⟨o,st'⟩,h1,h2⟩:=ζg.1 h;have ho:∀id,o≠.exit id:=by rintro id rfl;simp[FM]at h2
 have h3:(mN st' rs).bind (fun l=>match l with|[.own d]=>an st'.m d|_=>none)=some ob:=by
  cases o with
  | exit id=>exact absurd rfl (ho id)
  | norm=>exact h2
  | ret=>exact h2
 obtain⟨l,h4,h5⟩:=ζg.1 h3;split at h5
 ·exact⟨o,st',_,h1,ho,h4,h5⟩
 ·cases h5
theorem Vb {S:Sys} {T:pJ} (hT:s9 S T) (hI:∀f a b xs,S.items f a b=some xs→fE S f a b xs) {f:FuncId} {rf:RF} (hf:T f=some rf) {av:List V} (hg:V.bH av=true) (hn:av.length≤rf.na) {k:Fl} {es:Nat} {xs:List (List V)}
 (hx:∀x∈xs,x.all V.scalar=true) (hk:k=.row∨k=.nil∧xs=[]) (h:jW S (dU S T) (FM rf.rs) rf.body [] (start (av.map .v) [])=some (.sl k es xs)) :
 ∃n y H',run S.E n (.fn f) av []=some (y,H')∧((k=.nil∧y=.aG)∨(∃id,y=.hsl id es 0 xs.length∧H'[id]? = some (.row es xs))):=by
 obtain⟨o,st',d,h1,h2,h3,h4⟩:=ZC h;have hc:dU S T f (av.map .v) []=some ([.own d],st'.m):=by
  rw[D3 hf];unfold nv;rw[if_pos (by simpa using hn),h1]
  cases o with
  | exit id=>exact absurd rfl (h2 id)
  | norm=>simp only[h3,Option.map_some]
  | ret=>simp only[h3,Option.map_some]
 obtain⟨r0,r1⟩:=tv hg;obtain⟨n,y,H2,ν',Z',st2,F',ys,g1,rfl,g3,g4,g5,_⟩:=uc hT hI f _ _ _ _ hc _ _ av [] (.inr rfl) r0 r1;obtain⟨z,zs,rfl,e1,e2⟩:=g4.inv;have:=e2.b8;subst this;refine⟨n,_,H2,g1,?_⟩
 cases e1 with
 | own d y hy=>
  obtain⟨k',es',xs',e,hyv⟩:=hy _ h4;cases e;have hob:=g5.obj d _ (by rw[g3];exact h4)
  rcases hk with rfl|⟨rfl,rfl⟩
  ·right;simp only[cS,bD,if_true]at hob;obtain⟨ys,q1,q2,q3,q4,q5⟩:=hob;obtain⟨q5,q6⟩:=q5 trivial;rw[q5,List.drop_zero,←q6,List.take_of_length_le (Nat.le_refl _)]at q3;have:xs=ys:=by
    refine List.ext_getElem q3.1 fun i p q=>?_
    have hi:=q3.2 i _ _ (ζd p) (ζd q);refine List.ext_getElem hi.1 fun j p' q'=>?_
    have hj:=hi.2 j _ _ (ζd p') (ζd q');exact((hj.scalar).1 (List.all_eq_true.1 (hx _ (List.getElem_mem p)) _ (List.getElem_mem p'))).symm
   subst this;refine⟨(ν' d).1,?_,q1⟩;show result [_]=_;rw[hyv];simp[result,pI,q5]
  ·left;exact⟨rfl,by show result [_]=_;rw[hyv];rfl⟩
theorem DA {E:Env} {f:FuncId} {av:List V} {l:List (List V)} {y:V} {H1:aq} (hk:E.own f=true) (hg:V.bH av=true) (hl:∀c∈l,c.length=2∧c.all V.one=true∧c.all V.scalar=true)
 (hr:∃n,∀k,n≤k→run E k (.fn f) av []=some (y,H1)) (hy:(l=[]∧y=.aG)∨(∃id,y=.hsl id 2 0 l.length∧H1[id]? = some (.row 2 l))) (H:aq) :
 ∃w X id,(∃n,∀k,n≤k→d_ E (run E k) f av H=some (w,H++X))∧gZ (H++X) w l id∧(∀off m,w=.hsl id 2 off m→id=H.length):=by
 obtain⟨n,hr⟩:=hr;have hb:∀{l:List V},V.bH l=true→borrows 8 H l=some l:=by
  intro l;unfold borrows
  induction l with
  | nil=>intro _;rfl
  | cons a l ih=>
   intro h;have h1:V.good a=true∧V.bH l=true:=by simpa [V.bH]using h
   simp only[iR,c9 8 H (V.je h1.1),ih h1.2]
 rcases hy with⟨rfl,rfl⟩|⟨id,rfl,hid⟩
 ·refine⟨.aG,[],0,⟨n,fun k hk'=>?_⟩,⟨fun c h=>by simp at h,.inl ⟨rfl,rfl⟩⟩,fun off m h=>by cases h⟩
  simp only[d_,hk,if_true,jD,hb hg,hr k hk',V.scalar,List.append_nil]
 ·refine⟨.hsl H.length 2 0 l.length,[.row 2 l],H.length,⟨n,fun k hk'=>?_⟩,⟨fun c h=>⟨(hl c h).1,(hl c h).2.1⟩,.inr ⟨0,l,rfl,by simp,by simp,by simp⟩⟩,fun off m h=>rfl⟩
  have hs:(l.all fun x=>x.all V.scalar)=true:=List.all_eq_true.2 fun c h=>(hl c h).2.2
  simp only[d_,hk,if_true,jD,hb hg,hr k hk',V.scalar,Bool.false_eq_true,if_false,o5,hid,hs,and_self,Option.map_some]
end Go.VE
namespace Go.VE
variable [aX]
def Sl.whole {α:Type} (s:Sl α):Option (Sl α):=match s with|.part _=>none|s=>some s
structure Z6 (S:Sys) (c:bE) {α δ:Type} [aI δ] (fn:FuncId) (A:α→List V) (p:α→Option (Sl δ)):Prop where
 k:S.E.keep fn=true
 o:S.E.own fn=true
 h:∀z s,p z=some s→∃e m',c fn ((A z).map .v) []=some ([.own e],m')∧an m' e=some (cR s)
 l:∀z,V.ck 8 (A z)=true
 sc:∀x:δ,(cells x).all V.scalar=true
section
variable {S:Sys} {c:bE} {β γ δ α:Type} [aI δ] {Q:Out×St→Option β} {e:γ→Option β} {cf:Cf}
end
end Go.VE
namespace Go.VE
variable [aX]
structure GD where
 m:Nat
 pre:List (Nat×List Gh)
 nd:List (Nat×List Gh×List Gh)
structure GI where
 m:Nat
 i:Nat
 j:Nat
def YO {α:Type} (l:List (Nat×List α)) (i:Nat):List α:=match l with
 | []=>[]
 | (k,x)::r=>bif Nat.beq k i then x else YO r i
def wN (l:List (Nat×List Gh×List Gh)) (i:Nat):List Gh×List Gh:=match l with
 | []=>([],[])
 | (k,x)::r=>bif Nat.beq k i then x else wN r i
def FT (m:Nat):List Nat→List Nat
 | []=>[]
 | x::l=>bif Nat.beq (m % 2) 1 then x::FT (m / 2) l else FT (m / 2) l
def Kk:List Arg→List Nat
 | []=>[]
 | .s n::r=>n::Kk r
 | _::r=>Kk r
def Wt (o:RO):List Nat:=(match o.dst with|some d=>[d]|none=>[])++(match o.gd with|some g=>[g.1]|none=>[])++Kk o.az
def Zj (G:GD) (s:GI) (o:RO):RO:={ o with dead:=FT (bif Nat.beq (s.m % 16) 15 then s.m / 16 % 65536 else s.m % 16) (Wt o),pre:=YO G.pre s.i }
def GI.op (s:GI):GI:=⟨bif Nat.beq (s.m % 16) 15 then s.m / 1048576 else s.m / 16,s.i+1,s.j⟩
def vW (G:GD):List RO→GI→List RO×GI
 | [],s=>([],s)
 | o::r,s=>(Zj G s o::(vW G r s.op).1,(vW G r s.op).2)
def vR:List Gh→RC→RC
 | [],c=>c
 | g::l,c=>.gh g (vR l c)
def IK:List Gh→RC→RC
 | [],c=>c
 | g::l,c=>IK l (.hg c g)
def GI.nd (s:GI):GI:=⟨s.m,s.i,s.j+1⟩
def gq (G:GD):RC→GI→RC×GI
 | .seq a b,s=>(vR (wN G.nd s.j).1 (.seq (gq G a s.nd).1 (gq G b (gq G a s.nd).2).1),(gq G b (gq G a s.nd).2).2)
 | .cond x a b,s=>(vR (wN G.nd s.j).1 (.cond x (gq G a s.nd).1 (gq G b (gq G a s.nd).2).1),(gq G b (gq G a s.nd).2).2)
 | .block id a,s=>(vR (wN G.nd s.j).1 (.block id (gq G a s.nd).1),(gq G a s.nd).2)
 | .loop a,s=>(vR (wN G.nd s.j).1 (.loop (IK (wN G.nd s.j).2 (gq G a s.nd).1)),(gq G a s.nd).2)
 | .each g ps a b,s=>(vR (wN G.nd s.j).1 (.each g ps (gq G a s.nd).1 (IK (wN G.nd s.j).2 (gq G b (gq G a s.nd).2).1)),(gq G b (gq G a s.nd).2).2)
 | .ops l,s=>(vR (wN G.nd s.j).1 (.ops (vW G l s.nd).1),(vW G l s.nd).2)
 | .lK l,s=>(vR (wN G.nd s.j).1 (.lK (vW G l s.nd).1),(vW G l s.nd).2)
 | .gh g c,s=>(.gh g c,s)
 | .hg c g,s=>(.hg c g,s)
 | c,s=>(vR (wN G.nd s.j).1 c,s.nd)
theorem iE (c:RC):∀l,erase (vR l c)=erase c
 | []=>rfl
 | g::l=>by simp only[vR,erase,iE c l]
theorem wW:∀l (c:RC),erase (IK l c)=erase c
 | [],c=>rfl
 | g::l,c=>by simp only[IK,wW l,erase]
theorem uJ (G:GD):∀(l:List RO) s,((vW G l s).1).map RO.strip=l.map RO.strip
 | [],s=>rfl
 | o::r,s=>by simp only[vW,List.map_cons,uJ G r];rfl
theorem ja (G:GD):∀(c:RC) s,erase (gq G c s).1=erase c
 | .seq a b,s=>by simp only[gq,iE,erase,ja G a,ja G b]
 | .cond x a b,s=>by simp only[gq,iE,erase,ja G a,ja G b]
 | .block id a,s=>by simp only[gq,iE,erase,ja G a]
 | .loop a,s=>by simp only[gq,iE,erase,wW,ja G a]
 | .each g ps a b,s=>by simp only[gq,iE,erase,wW,ja G a,ja G b]
 | .ops l,s=>by simp only[gq,iE,erase,uJ]
 | .lK l,s=>by simp only[gq,iE,erase,uJ]
 | .gh g c,s=>rfl
 | .hg c g,s=>rfl
 | .skip,s=>by simp only[gq,iE]
 | .ret,s=>by simp only[gq,iE]
 | .exit _,s=>by simp only[gq,iE]
theorem Ea {X:CX} {dr:Bool} {ops:List Oper} {i:Nat} {o:Oper} {r:RO} (h:jM X dr ops i o=some r):r.strip=r:=by
 unfold jM at h;split at h
 ·split at h
  ·split at h
   ·obtain⟨az,_,rfl⟩:=ζf.1 h;rfl
   ·cases h
  ·cases h
 ·cases h
theorem tV {X:CX} {dr:Bool} {ops:List Oper}:∀{l:List Oper} {i:Nat} {r:List RO},iO X dr ops i l=some r→r.map RO.strip=r
 | [],i,r,h=>by cases h;rfl
 | o::l,i,r,h=>by
  simp only[iO]at h;split at h
  ·rename_i a b ha hb;cases h;simp only[List.map_cons,Ea ha,tV hb]
  ·cases h
theorem Ei {X:CX}:∀{c:Code} {ro:Bool} {r:RC},aN X ro c=some r→erase r=r:=by
 intro c
 induction c with
 | region _ ops dr=>
  intro ro r h;simp only[aN]at h;split at h
  ·split at h
   ·obtain⟨l,h1,rfl⟩:=ζf.1 h;simp only[erase,tV h1]
   ·cases h
  ·obtain⟨l,h1,rfl⟩:=ζf.1 h;simp only[erase,tV h1]
 | seq a b iha ihb=>
  intro ro r h;simp only[aN]at h;split at h
  ·rename_i h1 h2;cases h;simp only[erase,iha h1,ihb h2]
  ·cases h
 | cond c a b iha ihb=>
  intro ro r h;simp only[aN]at h;split at h
  ·rename_i h1 h2;cases h;simp only[erase,iha h1,ihb h2]
  ·cases h
 | block id a iha=>
  intro ro r h;simp only[aN]at h;obtain⟨l,h1,rfl⟩:=ζf.1 h;simp only[erase,iha h1]
 | loop a iha=>
  intro ro r h;simp only[aN]at h;obtain⟨l,h1,rfl⟩:=ζf.1 h;simp only[erase,iha h1]
 | rangeFunc g ps a b iha ihb=>
  intro ro r h;simp only[aN]at h;split at h
  ·cases h
  ·split at h
   ·rename_i h1 h2;cases h;simp only[erase,iha h1,ihb h2]
   ·cases h
 | _=>intro ro r h;first|cases h;rfl|(simp only[aN]at h;cases h;rfl)|(simp only[aN]at h;cases h)
def Lx (E:Env) (nm:FuncId→Option Nat) (G:FuncId→Option GD):pJ:=fun f=>
 (G f).bind fun g=>(E.ft f).bind fun fi=>(aN ⟨E,nm,fi.ntmps⟩ false fi.body).bind fun c=>(fi.results.mapM (xN E)).bind fun rs=>some ⟨fi.ntmps,rs,(gq g c ⟨g.m,0,0⟩).1⟩
theorem Lg {E:Env} {nm:FuncId→Option Nat} {G:FuncId→Option GD} {f:FuncId} {rf:RF} (h:Lx E nm G f=some rf):∃fi,E.ft f=some fi∧vw E nm fi rf:=by
 unfold Lx at h;obtain⟨g,_,h⟩:=ζg.1 h;obtain⟨fi,h1,h⟩:=ζg.1 h;obtain⟨c,h2,h⟩:=ζg.1 h;obtain⟨rs,h3,h⟩:=ζg.1 h;cases h;exact⟨fi,h1,by rw[h2,ja,Ei h2],h3,rfl⟩
theorem A9:∀(g:FuncId) (s:Nat),some g=some s→(fun n=>n) s=g:=fun _ _ h=>(Option.some.inj h).symm
def BO (o:Option RF):RF:=o.getD ⟨0,[],.skip⟩
def tb (T:pJ) (f:FuncId):RC:=(BO (T f)).body
def tr (T:pJ) (f:FuncId):List RV:=(BO (T f)).rs
theorem Vh {o:Option RF} (h:o.isSome=true):o=some (BO o):=by cases o with
 | none=>cases h
 | some r=>rfl
class kA (δ:Type) where
 e:δ→List V
instance ZP {α:Type} [aI α]:kA α:=⟨fun x=>[enc x]⟩
instance ZO:kA Unit:=⟨fun _=>[]⟩
instance ZN {α β:Type} [aI α] [kA β]:kA (α×β):=⟨fun x=>enc x.1::kA.e x.2⟩
@[simp] theorem Zy {α:Type} [aI α] (x:α):kA.e x=[enc x]:=rfl
@[simp] theorem Zo (x:Unit):kA.e x=[]:=rfl
@[simp] theorem Zn {α β:Type} [aI α] [kA β] (x:α×β):kA.e x=enc x.1::kA.e x.2:=rfl
class Fc (S:Sys) (c:bE) {δ:Type} (m:Option δ) where
 n:FuncId
 az:List V
 E:δ→List V
 sc:Bool
 F:lE S c n (fun _:Unit=>az) E (fun _=>m) sc
section
variable {S:Sys} {T:pJ} {δ:Type} {m:Option δ}
theorem lE.LP {E:δ→List V} (fn:FuncId) (az:List V) (h:Le (m.bind fun r=>some (E r)) (bN S (dU S T) (nQ (tr T fn)) (.rc (tb T fn),[],start (az.map .v) [])))
 (hT:(T fn).isSome=true) (hk:S.E.keep fn=false) (hn:Nat.ble az.length (BO (T fn)).na=true)
 (l:V.ck 8 az=true) (r:∀r,V.lvl 8 (result (E r))=true) {sc:Bool} (s:sc=true→∀r,(result (E r)).scalar=true):lE S (dU S T) fn (fun _:Unit=>az) E (fun _=>m) sc where
 k:=hk
 h z:=Zk (Vh hT) (Nat.le_of_ble_eq_true hn) h
 l _:=l
 r:=r
 s:=s
abbrev Fc.NE (E:δ→List V) (fn:FuncId) (az:List V) (h:Le (m.bind fun r=>some (E r)) (bN S (dU S T) (nQ (tr T fn)) (.rc (tb T fn),[],start (az.map .v) [])))
 (hT:(T fn).isSome=true:=by kernel_rfl) (hk:S.E.keep fn=false:=by kernel_rfl) (hn:Nat.ble az.length (BO (T fn)).na=true:=by kernel_rfl)
 (l:V.ck 8 az=true:=by simp) (r:∀r,V.lvl 8 (result (E r))=true:=by intro r;simp):Fc S (dU S T) m:=
 ⟨fn,az,E,false,lE.LP fn az h hT hk hn l r fun h=>nomatch h⟩
abbrev Fc.M [kA δ] (fn:FuncId) (az:List V) (h:Le (m.bind fun r=>some (kA.e r)) (bN S (dU S T) (nQ (tr T fn)) (.rc (tb T fn),[],start (az.map .v) [])))
 (hT:(T fn).isSome=true:=by kernel_rfl) (hk:S.E.keep fn=false:=by kernel_rfl) (hn:Nat.ble az.length (BO (T fn)).na=true:=by kernel_rfl)
 (l:V.ck 8 az=true:=by simp) (r:∀r:δ,V.lvl 8 (result (kA.e r))=true:=by intro r;simp) (s:∀r:δ,(result (kA.e r)).scalar=true:=by intro r;kernel_rfl):Fc S (dU S T) m:=
 ⟨fn,az,kA.e,true,lE.LP fn az h hT hk hn l r fun _=>s⟩
abbrev Fc.N [kA δ] (fn:FuncId) (az:List V) (h:Le (m.bind fun r=>some (kA.e r)) (bN S (dU S T) (nQ (tr T fn)) (.rc (tb T fn),[],start (az.map .v) [])))
 (hT:(T fn).isSome=true:=by kernel_rfl) (hk:S.E.keep fn=false:=by kernel_rfl) (hn:Nat.ble az.length (BO (T fn)).na=true:=by kernel_rfl)
 (l:V.ck 8 az=true:=by simp) (r:∀r:δ,V.lvl 8 (result (kA.e r))=true:=by intro r;simp):Fc S (dU S T) m:=
 ⟨fn,az,kA.e,false,lE.LP fn az h hT hk hn l r fun h=>nomatch h⟩
end
abbrev Fc.of {S:Sys} {c:bE} {α δ:Type} {p:α→Option δ} {n:FuncId} {A:α→List V} {E:δ→List V} {b:Bool} (z:α) (F:lE S c n A E p b):Fc S c (p z):=⟨n,A z,E,b,⟨F.k,fun _=>F.h z,fun _=>F.l z,F.r,F.s⟩⟩
theorem lE.qT {S:Sys} {c:bE} {α δ:Type} {p:α→Option δ} {n:FuncId} {A:α→List V} {E:δ→List V} {b:Bool} (F:∀z,Fc S c (p z)) (i:α) (hn:∀z,(F z).n=n) (ha:∀z,(F z).az=A z) (hE:∀z,(F z).E=E) (hs:∀z,(F z).sc=b):lE S c n A E p b where
 k:=by rw[←hn i];exact(F i).F.k
 h z:=by rw[←hn z,←ha z,←hE z];exact(F z).F.h ()
 l z:=by rw[←ha z];exact(F z).F.l ()
 r:=by rw[←hE i];exact(F i).F.r
 s:=by rw[←hs i,←hE i];exact(F i).F.s
theorem iW.qT {S:Sys} {c:bE} {α δ:Type} {p:α→Option δ} {g:FuncId} {e:List V} {A:α→List V} {R:δ→List V} [i:Inhabited α] [F:∀z,Fc S c (p z)] (hn:∀z,(F z).n=g:=by intro _;kernel_rfl) (ha:∀z,(F z).az=A z++e:=by intro _;kernel_rfl)
 (hE:∀z,(F z).E=R:=by intro _;kernel_rfl) (hs:∀z,(F z).sc=true:=by intro _;kernel_rfl) (hd:V.ck 7 e=true:=by simp):iW S c g e A R p:=
 ⟨lE.qT F default hn ha hE hs,hd⟩
section
variable {S:Sys} {c:bE} {β γ δ α:Type} {Q:Out×St→Option β} {e:γ→Option β} {cf:Cf}
theorem AQ (n:Nat) {m:Option β} (h:Le m (bN S c Q (gz S c n cf))) (hL:fI S c n cf.1 cf.2.1 cf.2.2=some (gz S c n cf):=by kernel_rfl):Le m (bN S c Q cf):=AV hL h
theorem aK (n:Nat) {m:Option δ} [F:Fc S c m] {f:δ→Option γ} (h:∀x,m=some x→Le ((f x).bind e) (bN S c Q (nx S c n cf fun p=>cr p.st p.d (.v (result (F.E x))))))
 (hL:(iJ S c n cf).map (fun p=>(p.k,(bp S.N p.st.g p.az).bind oD,(!p.dr||p.now||fU p.st.m p.fr [])))=some (.c,some (F.n,F.az.map .v),true):=by kernel_rfl):Le ((m.bind f).bind e) (bN S c Q cf):=rN n F.F () h hL
theorem iU (n:Nat) {m:Option δ} [F:Fc S c m] {f:δ→Option γ} (h:∀x,m=some x→Le ((f x).bind e) (bN S c Q (nx S c n cf fun p=>cr p.st p.d (.v (result (F.E x))))))
 (hL:(iJ S c n cf).map (fun p=>(p.k,((bp S.N p.st.g p.az).bind oD).bind fun q=>(lu (gD p.st.m 8) q.2).map fun vs=>(q.1,vs,((!p.dr||p.now)||fU p.st.m p.fr q.2))))=some (.c,some (F.n,F.az,true)):=by kernel_rfl) (hs:F.sc=true:=by kernel_rfl):Le ((m.bind f).bind e) (bN S c Q cf):=
 Rw n (sc_eq hs F.F) () h hL
where
 sc_eq {b:Bool} {fn:FuncId} {az:List V} {E:δ→List V} {m:Option δ} (h:b=true) (F:lE S c fn (fun _:Unit=>az) E (fun _=>m) b):lE S c fn (fun _:Unit=>az) E (fun _=>m) true:=h▸F
def MG (cf:Cf):RC:=match cf.1 with|.rc (.loop c)=>c|_=>.skip
def zO (cf:Cf):Arg×List Nat×RC×RC:=match cf.1 with|.rc (.each g ps a b)=>(g,ps,a,b)|_=>(.s 0,[],.skip,.skip)
theorem cq {σ ε ρ:Type} {step:σ→Option (Fw σ ε ρ)} (n:Nat) (eσ:σ→St) (eε:ε→Nat×St) (eρ:ρ→St) {s:σ} {fx:ε→Option γ} {fr:ρ→Option γ}
 (h:∀s,Le ((step s).bind fun w=>some (Fw.out eσ eε eρ w)) (bN S c some (.rc (MG (gz S c n cf)),[],eσ s)))
 (hx:∀x,Le ((fx x).bind e) (bN S c Q (.ex (eε x).1,(gz S c n cf).2.1,(eε x).2))) (hr:∀b,Le ((fr b).bind e) (Q (.ret,eρ b)))
 (hL:fI S c n cf.1 cf.2.1 cf.2.2=some (.rc (.loop (MG (gz S c n cf))),(gz S c n cf).2.1,eσ s):=by kernel_rfl):Le (((aW step s).bind (Fw.elim fx fr)).bind e) (bN S c Q cf):=
 Ji hL h hx hr
theorem uB {σ ε:Type} {step:σ→Option (Fw σ ε Empty)} (n:Nat) (eσ:σ→St) (eε:ε→Nat×St) {s:σ} {fx:ε→Option γ} {fr:Empty→Option γ}
 (h:∀s,Le ((step s).bind fun w=>some (Fw.out eσ eε (fun e=>Empty.elim e) w)) (bN S c some (.rc (MG (gz S c n cf)),[],eσ s)))
 (hx:∀x,Le ((fx x).bind e) (bN S c Q (.ex (eε x).1,(gz S c n cf).2.1,(eε x).2)))
 (hL:fI S c n cf.1 cf.2.1 cf.2.2=some (.rc (.loop (MG (gz S c n cf))),(gz S c n cf).2.1,eσ s):=by kernel_rfl):Le (((aW step s).bind (Fw.elim fx fr)).bind e) (bN S c Q cf):=
 Ji hL h hx fun b=>Empty.elim b
theorem Cp {σ ε ρ:Type} {f:FuncId} {x y:List V} {items:List α} {eI:α→List V} {step:α→σ→Option (Fw σ ε ρ)} (n:Nat) (gt:Tb SV) (eσ:σ→Tb aQ) (eε:ε→Nat×Tb aQ) (eρ:ρ→Tb aQ) {s:σ} {fn:σ→Option γ} {fx:ε→Option γ} {fr:ρ→Option γ}
 (hi:S.items f x y=some (items.map eI))
 (h:∀x s,Le ((step x s).bind fun w=>some (Fw.sO eσ eε eρ w)) (bN S c (uR S c (zO (gz S c n cf)).2.2.2) (.rc (zO (gz S c n cf)).2.2.1,[],⟨tE gt (zO (gz S c n cf)).2.1 ((eI x).map .v),eσ s,lV gt,[],true,0⟩)))
 (hn:∀s,Le ((fn s).bind e) (bN S c Q (.nx,(gz S c n cf).2.1,aR gt (eσ s)))) (hx:∀x,Le ((fx x).bind e) (bN S c Q (.ex (eε x).1,(gz S c n cf).2.1,aR gt (eε x).2))) (hr:∀b,Le ((fr b).bind e) (Q (.ret,aR gt (eρ b))))
 (hl:∀x,(eI x).length=(zO (gz S c n cf)).2.1.length:=by intro _;kernel_rfl) (hg:mR S.N gt (zO (gz S c n cf)).1=some (.v (.clo f x y)):=by kernel_rfl)
 (hL:fI S c n cf.1 cf.2.1 cf.2.2=some (.rc (.each (zO (gz S c n cf)).1 (zO (gz S c n cf)).2.1 (zO (gz S c n cf)).2.2.1 (zO (gz S c n cf)).2.2.2),(gz S c n cf).2.1,aR gt (eσ s)):=by kernel_rfl):Le (((kH step items s).bind (Fw.tH fn fx fr)).bind e) (bN S c Q cf):=
 Rp hL hg hi hl h hn hx hr
noncomputable def Q0 (n k:Nat) (dl:List Nat) (d:Nat) (S:Sys) (c:bE) (cf:Cf) (v:SV):Cf:=jmp k [] (gz S c n cf) { (gz S c n cf).2.2 with g:=aV (s6 dl (gz S c n cf).2.2.g) d v }
theorem aT [aI δ] (n k:Nat) (dl:List Nat) (d:Nat) {m:Option δ} {f:δ→Option γ} (h2:Le (m.bind fun r=>bN S c Q (Q0 n k dl d S c cf (cv r))) (bN S c Q cf))
 (h1:∀r,Le ((f r).bind e) (bN S c Q (Q0 n k dl d S c cf (cv r)))):Le ((m.bind f).bind e) (bN S c Q cf):=LY _ h2 h1
end
end Go.VE
namespace Go.VE
variable [aX]
namespace catX
instance {n:Nat}:OfNat Arg n:=⟨.s n⟩
def ln:K:=.p .lenSl
def ix:K:=.p (.idxS 1)
def bI (o:BinOp):K:=.p (.bin (some .int) none o)
def ld:K:=.r (.load 1 false)
def g1:List RO:=[o1 4 (.k (.aG)) []]
def g2:List RO:=[o1 5 1 [],o2 6 (bI .lss) [5,.k (.int .i64 0)] []]
def g3:List RO:=[o2 7 (.p (.bad)) [] [],⟨none,none,false,.p .bad,[],[],[]⟩]
def g4:List RO:=[o1 8 1 [],o1 9 0 [],o2 10 (.p (.capSl)) [9] [],o1 11 0 [],o2 12 ln [11] [],o2 13 (bI .sub) [10,12] [],o2 14 (bI .sub) [8,13] [],o1 1 14 []]
def g5:List RO:=[o1 15 1 [],o2 16 (bI .gtr) [15,.k (.int .i64 0)] []]
def g6:List RO:=[o1 17 0 [],o1 18 0 [],o2 19 (.p (.capSl)) [18] [],o2 20 (.p (.slice 1 false true)) [17,19] [],o1 21 1 [],o2 22 (.l (.appMk 1 24 [.aG])) [20,21] [],o1 23 0 [],o2 24 ln [23] [],o2 25 (.p (.slice 1 false true)) [22,24] [],o1 0 25 []]
def g7:List RO:=[o1 26 0 [],o1 4 26 []]
def grow:RC:=.seq (.ops g1) (.seq (.seq (.ops g2) (.cond (.s 6) (.ops g3) (.skip))) (.seq (.seq (.ops g4) (.seq (.ops g5) (.cond (.s 16) (.ops g6) (.skip)))) (.seq (.ops g7) (.ret))))
section
variable {E:Env} {N:Nat→FuncId} {t:Nat}
end
end catX
end Go.VE
namespace Go.VE
variable [aX]
namespace catX
def r1:List RO:=[o1 2 (.k (.aG)) []]
def r2:List RO:=[o1 3 (.k (.int .i64 0)) []]
def r3:List RO:=[o1 9 0 [],o2 10 ln [9] [],o1 11 (.k (.int .i64 0)) []]
def r4:List RO:=[o2 12 (bI .lss) [11,10] []]
def r5:List RO:=[o2 13 ix [9,11] [],o2 14 ld [13] [],o1 5 14 []]
def r6:List RO:=[o1 15 3 [],o1 16 5 [],o2 17 ln [16] [],o2 18 (bI .add) [15,17] [],o1 3 18 []]
def r7:List RO:=[o1 19 3 [],o2 20 (bI .lss) [19,.k (.int .i64 0)] []]
def r8:List RO:=[o2 21 (.p (.bad)) [] [],⟨none,none,false,.p .bad,[],[],[]⟩]
def r9:List RO:=[o2 22 (bI .add) [11,.k (.int .i64 1)] [],o1 11 22 []]
def CS (gid:Nat):List RO:=[o1 23 3 [],o2 24 .c [.f gid,.k (.aG),23] [],o1 6 24 []]
def D4:List RO:=[o1 25 0 [],o2 26 ln [25] [],o1 27 (.k (.int .i64 0)) []]
def CP:List RO:=[o2 28 (bI .lss) [27,26] []]
def D1:List RO:=[o2 29 ix [25,27] [],o2 30 ld [29] [],o1 8 30 []]
def Cy:List RO:=[o1 31 6 [],o1 32 8 [],o2 33 (.l (.append 1)) [31,32] [],o1 6 33 []]
def FA:List RO:=[o2 34 (bI .add) [27,.k (.int .i64 1)] [],o1 27 34 []]
def r16:List RO:=[o1 35 6 [],o1 2 35 []]
section
variable {E:Env} {N:Nat→FuncId} {F:Frame} {H:aq} {α:Type} [aI α] {s:Sl (Sl α)} {i:Nat}
theorem el {u:Sl α} (h:s.l[i]? = some u):i_ 1 (bz s) (i:Int)=some (.fptr [bz u]):=by
 have:=AN (N:=fun n=>n) s .i64 (i:Int) 1 rfl
 simp only[ay]at this;rw[this,show idx s (i:Int)=some u from by unfold idx;rw[if_pos (by omega)];exact h];rfl
theorem Zz (s:Sl α):nj (bz s)=some (.int .i64 s.l.length):=by
 have:=vB (N:=fun n=>n) s;simpa only[ay]using this
theorem y3:(get F 0=bz s→∃F',(∀call,bO E N call none r3 F H=some (F',H))∧get F' 9=bz s∧get F' 10=.int .i64 s.l.length∧get F' 11=.int .i64 0∧∀j,j<9→get F' j=get F j) ∧
 (get F 0=bz s→∃F',(∀call,bO E N call none D4 F H=some (F',H))∧get F' 25=bz s∧get F' 26=.int .i64 s.l.length∧get F' 27=.int .i64 0∧∀j,j<9→get F' j=get F j):=by
 have h:=Zz s;refine⟨fun f0=>⟨_,fun call=>vp (v:=bz s) rfl ?_ <| vp (v:=.int .i64 s.l.length) rfl ?_ <| vp (v:=.int .i64 0) rfl ?_ dN,?_,?_,?_,?_⟩,fun f0=>⟨_,fun call=>vp (v:=bz s) rfl ?_ <| vp (v:=.int .i64 s.l.length) rfl ?_ <| vp (v:=.int .i64 0) rfl ?_ dN,?_,?_,?_,?_⟩⟩ <;>
 first
 | (simp[aS,aF,ay,f0];done)
 | (simp only[aS,List.map_cons,List.map_nil,aF,aC,aB,Nat.reduceEqDiff,if_true,if_false,ay,ln,h];rfl)
 | (simp[aS,aF,ay,aC];done)
 | (simp[aC];done)
 | (intro j hj;simp only[aC,aB];repeat (rw[if_neg (by omega)]))
theorem y4 {n:Nat}:(get F 11=.int .i64 i→get F 10=.int .i64 n→∃F',(∀call,bO E N call none r4 F H=some (F',H))∧get F' 12=.bool (decide (i<n))∧∀j,j<12→get F' j=get F j) ∧
 (get F 27=.int .i64 i→get F 26=.int .i64 n→∃F',(∀call,bO E N call none CP F H=some (F',H))∧get F' 28=.bool (decide (i<n))∧∀j,j<28→get F' j=get F j):=by
 refine⟨fun f f'=>⟨_,fun call=>vp (v:=.bool (decide (i<n))) rfl ?_ dN,?_,?_⟩,fun f f'=>⟨_,fun call=>vp (v:=.bool (decide (i<n))) rfl ?_ dN,?_,?_⟩⟩ <;>
 first
 | (simp[aS,aF,ay,aC,bI,gP,mQ,f,f'];done)
 | (simp[aC];done)
 | (intro j hj;simp only[aC,aB];repeat (rw[if_neg (by omega)]))
theorem y5 {u:Sl α} (h:s.l[i]? = some u):(get F 9=bz s→get F 11=.int .i64 i→∃F',(∀call,bO E N call none r5 F H=some (F',H))∧get F' 5=bz u∧∀j,j<12→j≠5→get F' j=get F j) ∧
 (get F 25=bz s→get F 27=.int .i64 i→∃F',(∀call,bO E N call none D1 F H=some (F',H))∧get F' 8=bz u∧∀j,j<28→j≠8→get F' j=get F j):=by
 have e:=el h;have e2:dD H (.load 1 false) [.fptr [bz u]]=some (bz u):=by simp[dD,cM,cut,mk]
 refine⟨fun f f'=>⟨_,fun call=>vp (v:=.fptr [bz u]) rfl ?_ <| vp (v:=bz u) rfl ?_ <| vp (v:=bz u) rfl ?_ dN,?_,?_⟩,fun f f'=>⟨_,fun call=>vp (v:=.fptr [bz u]) rfl ?_ <| vp (v:=bz u) rfl ?_ <| vp (v:=bz u) rfl ?_ dN,?_,?_⟩⟩ <;>
 first
 | (simp only[aS,List.map_cons,List.map_nil,aF,aC,aB,Nat.reduceEqDiff,if_true,if_false,ay,ix,f,f',e,Option.map_some];done)
 | (simp only[aS,List.map_cons,List.map_nil,aF,aC,aB,Nat.reduceEqDiff,if_true,if_false,ld];rw[e2];rfl)
 | (simp[aS,aF,ay,aC];done)
 | (simp[aC];done)
 | (intro j hj h5;simp only[aC,aB];rw[if_neg (Ne.symm h5)];repeat (rw[if_neg (by omega)]))
structure Acc (H:aq) (w:V) (acc:List (List V)):Prop where
 el:di H 1 w=some acc
 gr:∃H1,iq H w=some H1∧H1.length=H.length
 sh:w=.aG∧acc=[]∨∃id xs,w=.hsl id 1 0 acc.length∧H[id]? = some (.row 1 xs)∧(acc≠[]→xs=acc)
def upto (s:Sl (Sl α)) (i:Nat):List α:=(s.l.take i).flatMap Sl.l
end
end catX
end Go.VE
namespace Go.VE
variable [aX]
def vo (op:Bool) (x y:Int):Int:=cond op x y
@[simp] theorem WY (x y:Int):vo true x y=x:=rfl
@[simp] theorem WR (x y:Int):vo false x y=y:=rfl
namespace setX
instance {n:Nat}:OfNat Arg n:=⟨.s n⟩
def fa (k:Nat):K:=.p (.fieldAddr k)
def ld:K:=.r (.load 1 false)
def r1:List RO:=[o2 4 (.a .box) [1] [],o2 5 (.a .box) [2] []]
def r2:List RO:=[o1 6 0 [],o2 7 (fa 0) [4] [],o2 8 ld [7] [],o2 9 (fa 1) [4] [],o2 10 ld [9] [],o2 11 (.p (.idxS 1)) [6,8] [],⟨none,none,false,.l (.store 1),[11,10],[],[]⟩]
def r3:List RO:=[o1 6 0 [],o2 7 (fa 0) [5] [],o2 8 ld [7] [],o2 9 (fa 1) [5] [],o2 10 ld [9] [],o2 11 (.p (.bin (some .int) none .sub)) [10,.k (.int .i64 1)] [],o2 12 (.p (.idxS 1)) [6,8] [],⟨none,none,false,.l (.store 1),[12,11],[],[]⟩]
def code (op:Bool):RC:=.seq (.ops r1) (.ops (if op then r3 else r2))
section
variable {E:Env} {N:Nat→FuncId} {H:aq} {id off L:Nat} {rs:List (List V)}
theorem Mx {h:Nat} {x y:V} {i:Nat} {v:V} (hb:H[h]? = some (.row 2 [[x,y]])) (hv:[x,y][i]? = some v):dD H (.load 1 false) [.hptr h 0 i]=some v:=by
 match i,hv with
 | 0,hv=>cases hv;simp[dD,cM,hb,Ob.rows,cut,mk]
 | 1,hv=>cases hv;simp[dD,cM,hb,Ob.rows,cut,mk]
 | i+2,hv=>simp at hv
theorem whole (op:Bool) {a b c d:Int} (hid:H[id]? = some (.row 1 rs)) (hp:0≤(vo op c a)) (hpl:(vo op c a).toNat<L) {z:V} (hz:rs[off+(vo op c a).toNat]? = some [z]) :
 ∃F' X,Ex E N (code op) [.hsl id 1 off L,.agg [.int .i64 a,.int .i64 b],.agg [.int .i64 c,.int .i64 d]] H .norm F' ((H++X).set id (.row 1 (rs.set (off+(vo op c a).toNat) [.int .i64 (vo op (IntKind.wrap .i64 (d-1)) b)]))):=by
 let X:aq:=[.row 2 [[.int .i64 a,.int .i64 b]],.row 2 [[.int .i64 c,.int .i64 d]]]
 have hlt:=(ζe.1 hid).1;have e1:∃F1,(∀call,bO E N call none r1 [.hsl id 1 off L,.agg [.int .i64 a,.int .i64 b],.agg [.int .i64 c,.int .i64 d]] H=some (F1,H++X))∧get F1 0=.hsl id 1 off L∧get F1 4=.hptr H.length 0 0∧get F1 5=.hptr (H.length+1) 0 0:=by
  refine⟨_,fun call=>iB (v:=.hptr H.length 0 0) (H1:=H++[.row 2 [[.int .i64 a,.int .i64 b]]]) rfl ?_ <| iB (v:=.hptr (H.length+1) 0 0) (H1:=H++X) rfl ?_ dN,?_,?_,?_⟩
  ·simp[aS,aF,get,iz,V.cells,V.one,Mk.val]
  ·simp[aS,aF,get,aC,set,iz,V.cells,V.one,Mk.val,X]
  ·simp[aC];rfl
  ·simp[aC]
  ·simp[aC]
 obtain⟨F1,p1,p2,p3,p4⟩:=e1;have h1:(H++X)[id]? = some (.row 1 rs):=by rw[List.getElem?_append_left hlt];exact hid
 have h2:(H++X)[H.length]? = some (.row 2 [[.int .i64 a,.int .i64 b]]):=by simp[X]
 have h3:(H++X)[H.length+1]? = some (.row 2 [[.int .i64 c,.int .i64 d]]):=by
  rw[List.getElem?_append_right (by omega)];simp[X]
 obtain⟨H1,hH⟩:∃H1,H1=H++X:=⟨_,rfl⟩;rw[←hH]at h1 h2 h3;rw[←hH]at p1
 suffices hs:∃F',Ex E N (code op) [.hsl id 1 off L,.agg [.int .i64 a,.int .i64 b],.agg [.int .i64 c,.int .i64 d]] H .norm F' (H1.set id (.row 1 (rs.set (off+(vo op c a).toNat) [.int .i64 (vo op (IntKind.wrap .i64 (d-1)) b)])))by
  obtain⟨F',hF⟩:=hs;exact⟨F',X,by rw[←hH];exact hF⟩
 have hix:∀p:Int,0≤p→p.toNat<L→i_ 1 (.hsl id 1 off L) p=some (.hptr id (off+p.toNat) 0):=fun p h0 hl=>by
  unfold i_;rw[if_neg (by omega)];simp[hl]
 have hst:∀(q:Nat) (z v:V),rs[q]? = some [z]→v.one=true→dW H1 (.store 1) [.hptr id q 0,v]=some (.undef,H1.set id (.row 1 (rs.set q [v]))):=fun q z v hz hv=>by
  simp[dW,h1,hz,Bt hv,hv]
 cases op with
 | false=>
  simp only[WR]at hp hpl hz ⊢;have l1:=Mx (i:=0) h2 rfl;have l2:=Mx (i:=1) h2 rfl;have e2:∃F2,(∀call,bO E N call none r2 F1 H1=some (F2,H1.set id (.row 1 (rs.set (off+a.toNat) [.int .i64 b])))):=by
   refine⟨_,fun call=>vp (v:=.hsl id 1 off L) rfl ?_ <| vp (v:=.hptr H.length 0 0) rfl ?_ <| vp (v:=.int .i64 a) rfl ?_ <| vp (v:=.hptr H.length 0 1) rfl ?_ <| vp (v:=.int .i64 b) rfl ?_ <| vp (v:=.hptr id (off+a.toNat) 0) rfl ?_ <| iB (v:=.undef) rfl ?_ dN⟩
   ·simp[aS,aF,ay,p2]
   ·simp[aS,aF,ay,aC,fa,e9,p3]
   ·simp only[aS,List.map_cons,List.map_nil,aF,aC,aB,Nat.reduceEqDiff,if_true,if_false,ld,l1,Option.map_some]
   ·simp[aS,aF,ay,aC,fa,e9,p3]
   ·simp only[aS,List.map_cons,List.map_nil,aF,aC,aB,Nat.reduceEqDiff,if_true,if_false,ld,l2,Option.map_some]
   ·simp only[aS,List.map_cons,List.map_nil,aF,aC,aB,Nat.reduceEqDiff,if_true,if_false,ay,hix a hp hpl,Option.map_some]
   ·simp only[aS,List.map_cons,List.map_nil,aF,aC,aB,Nat.reduceEqDiff,if_true,if_false];exact hst _ z _ hz rfl
  obtain⟨F2,q1⟩:=e2;exact⟨F2,Ex.seq (Ex.dc p1) (Ex.dc (l:=_) q1)⟩
 | true=>
  simp only[WY]at hp hpl hz ⊢;have l1:=Mx (i:=0) h3 rfl;have l2:=Mx (i:=1) h3 rfl;have e2:∃F2,(∀call,bO E N call none r3 F1 H1=some (F2,H1.set id (.row 1 (rs.set (off+c.toNat) [.int .i64 (IntKind.wrap .i64 (d-1))])))):=by
   refine⟨_,fun call=>vp (v:=.hsl id 1 off L) rfl ?_ <| vp (v:=.hptr (H.length+1) 0 0) rfl ?_ <| vp (v:=.int .i64 c) rfl ?_ <| vp (v:=.hptr (H.length+1) 0 1) rfl ?_ <| vp (v:=.int .i64 d) rfl ?_ <| vp (v:=.int .i64 (IntKind.wrap .i64 (d-1))) rfl ?_ <| vp (v:=.hptr id (off+c.toNat) 0) rfl ?_ <| iB (v:=.undef) rfl ?_ dN⟩
   ·simp[aS,aF,ay,p2]
   ·simp[aS,aF,ay,aC,fa,e9,p4]
   ·simp only[aS,List.map_cons,List.map_nil,aF,aC,aB,Nat.reduceEqDiff,if_true,if_false,ld,l1,Option.map_some]
   ·simp[aS,aF,ay,aC,fa,e9,p4]
   ·simp only[aS,List.map_cons,List.map_nil,aF,aC,aB,Nat.reduceEqDiff,if_true,if_false,ld,l2,Option.map_some]
   ·simp[aS,aF,ay,aC,gP]
   ·simp only[aS,List.map_cons,List.map_nil,aF,aC,aB,Nat.reduceEqDiff,if_true,if_false,ay,hix c hp hpl,Option.map_some]
   ·simp only[aS,List.map_cons,List.map_nil,aF,aC,aB,Nat.reduceEqDiff,if_true,if_false];exact hst _ z _ hz rfl
  obtain⟨F2,q1⟩:=e2;exact⟨F2,Ex.seq (Ex.dc p1) (Ex.dc (l:=_) q1)⟩
end
end setX
structure FnM (S:Sys) {α δ:Type} [aI δ] (g:FuncId) (e:List V) (A:α→List V) (p:Sl δ→α→Option (Sl δ)):Prop where
 f:∃q,S.prm g=some q∧q.part=false∧S.E.keep g=true∧S.E.own g=false∧∀s z s',p s z=some s'→q.go (aI.size δ) (rows s.l) (A z++e)=some (rows s'.l)∧s'=s.re s'.l
 d:V.ck 7 e=true
section
variable {S:Sys} {c:bE} {β γ δ α:Type} [aI δ] {Q:Out×St→Option β} {e:γ→Option β} {cf:Cf}
end
end Go.VE
namespace Go.VE
variable [aX]
def snap (w:World):bf:=fun b=>match w.heap[b]? with
 | some (.cells c _ _)=>some (.cells c)
 | some (.map es _)=>some (.map es)
 | _=>none
theorem JB {w:World} (hg:qw (snap w)):bL (snap w) (fun _=>none) [] w where
 dom _ _:=rfl
 imm b x h:=by
  unfold snap at h;split at h
  ·rename_i c el fr hh;cases h;exact⟨el,fr,hh⟩
  ·rename_i es cl hh;cases h;exact⟨cl,hh⟩
  ·cases h
 obs id ob h:=by simp at h
 inj id id' ob ob' p p' h:=by simp at h
 gl:=hg
def dJ (I:bf) (xs:List V) (vs:List Value):Prop:=xs.length=vs.length∧∀(j:Nat) a b,xs[j]? = some a→vs[j]? = some b→c6 I a b
theorem dJ.nil {I:bf}:dJ I [] []:=⟨rfl,by simp⟩
theorem dJ.one {I:bf} {x:V} {v:Value} (h:c6 I x v):dJ I [x] [v]:=⟨rfl,fun j a b h1 h2=>by
 cases j with
 | zero=>simp at h1 h2;subst h1 h2;exact h
 | succ j=>simp at h1⟩
theorem dJ.append {I:bf} {xs ys:List V} {us vs:List Value} (h:dJ I xs us) (k:dJ I ys vs):dJ I (xs++ys) (us++vs):=by
 refine⟨by simp[h.1,k.1],fun j a b h1 h2=>?_⟩
 by_cases hj:j<xs.length
 ·rw[List.getElem?_append_left hj]at h1;rw[List.getElem?_append_left (by rw[←h.1];exact hj)]at h2
  exact h.2 j a b h1 h2
 ·rw[List.getElem?_append_right (by omega)]at h1
  rw[List.getElem?_append_right (by rw[←h.1];omega),←h.1]at h2
  exact k.2 _ a b h1 h2
theorem zd {α β:Type} {f:α→Option β}:∀{l:List α} {r:List β},l.mapM f=some r→r.length=l.length∧∀(i:Nat) a b,l[i]? = some a→r[i]? = some b→f a=some b
 | [],r,h=>by simp only[List.mapM_nil,Option.pure_def,ζa]at h;subst h;simp
 | x::l,r,h=>by
  simp only[List.mapM_cons,Option.bind_eq_bind,Option.pure_def,ζg,ζa]at h;obtain⟨y,hy,ys,hys,rfl⟩:=h;obtain⟨h1,h2⟩:=zd hys;refine⟨by simp[h1],fun i a b h3 h4=>?_⟩
  cases i with
  | zero=>simp at h3 h4;subst h3 h4;exact hy
  | succ i=>exact h2 i a b (by simpa using h3) (by simpa using h4)
structure sC {H:Type} (b:DataW H→Nat):Prop where
 lit:∀l,1≤b (.lit l)
 str:∀s,s.length+1≤b (.lit (.string s))
 nil:1≤b .nil
 slice:∀es sp,(es.map b).sum+1≤b (.slice es sp)
 agg:∀ps,(ps.map b).sum+1≤b (.agg ps)
class bu (α:Type) where
 wt:α→Nat
 ok:α→Prop
instance:bu Int where
 wt _:=1
 ok n:=-9223372036854775808≤n∧n≤9223372036854775807
instance:bu Bool where
 wt _:=1
 ok _:=True
instance:bu ByteArray where
 wt s:=s.size+1
 ok s:=s.size≤maxLen
instance {α:Type} [bu α]:bu (Sl α) where
 wt s:=(s.l.map bu.wt).sum+1
 ok s:=∀x∈s.l,bu.ok x
class Reads (P:Program) (t:TypeId) (α:Type) [aI α] [bu α]:Prop where
 size:P.cellsOf t=aI.size α
 rd:∀{H:Type} {enc:TypeId×Value→H} {w:World} {base:Nat} {spare:Nat→Bool} {held:Bool} {fuel:Nat} {cs:List Value} {d:DataW H} {ps:List MemPlace},
  DataW.trod enc P w base spare held fuel t cs=some (d,ps)→∃a:α,dJ (snap w) (cells a) cs∧bu.ok a∧∀b:DataW H→Nat,sC b→bu.wt a≤b d
 shape:∀{w:World} {r:_root_.Go.Reach} {base:Nat} {v:Value},Value.okWide P w r base t v→if aI.agg α then ∃cs,v=.agg cs else v.cells=#[v]
section
variable {P:Program}
theorem mV {w:World} {r:_root_.Go.Reach} {base:Nat} {t:TypeId} {v:Value} {u:_} (hu:P.underlying t=some u) (h1:∀fs,u≠.struct fs) (h2:∀n e,u≠.array n e) (h:Value.okWide P w r base t v):v.cells=#[v]:=by
 cases v with
 | agg cs=>
  exfalso;unfold Value.okWide at h;rw[hu]at h;split at h
  ·rename_i fs heq;cases heq;exact h1 _ rfl
  ·rename_i n e heq;cases heq;exact h2 _ _ rfl
  ·unfold Cell.okWide at h;rw[hu]at h;split at h <;> first|(simp at *;done)|skip
   unfold Cell.ok at h;rw[hu]at h;cases u <;> simp at h
 | _=>rfl
theorem Reads.int {t:TypeId} (hu:P.underlying t=some (.int .i64)) (hc:P.cellsOf t=1):Reads P t Int where
 size:=hc
 rd {H enc w base spare held fuel cs d ps} h:=by
  cases fuel with
  | zero=>simp[DataW.trod]at h
  | succ fuel=>
   simp only[DataW.trod,hu]at h;split at h <;> first|(simp at h;done)|skip
   ·rename_i heq;cases heq
   ·rename_i k k' n heq;simp only[ζa,TypeDesc.int.injEq]at heq;split at h
    ·rename_i hk;obtain⟨rfl,hw⟩:=hk;subst heq;cases h;exact⟨n,dJ.one (.int _ n),show _∧_ by simpa [Lit.wf,IntKind.min,IntKind.max,IntKind.signed,IntKind.bits]using hw,fun b hb=>hb.lit _⟩
    ·simp at h
   all_goals (rename_i heq;cases heq)
 shape h:=by simp only[show aI.agg Int=false from rfl];exact mV hu (by simp) (by simp) h
theorem Reads.bool {t:TypeId} (hu:P.underlying t=some .bool) (hc:P.cellsOf t=1):Reads P t Bool where
 size:=hc
 rd {H enc w base spare held fuel cs d ps} h:=by
  cases fuel with
  | zero=>simp[DataW.trod]at h
  | succ fuel=>
   simp only[DataW.trod,hu]at h;split at h <;> first|(simp at h;done)|skip
   ·rename_i b _;cases h;exact⟨b,dJ.one (.bool b),trivial,fun b hb=>hb.lit _⟩
   all_goals (rename_i heq;cases heq)
 shape h:=by simp only[show aI.agg Bool=false from rfl];exact mV hu (by simp) (by simp) h
theorem Reads.str {t:TypeId} (hu:P.underlying t=some .string) (hc:P.cellsOf t=1):Reads P t ByteArray where
 size:=hc
 rd {H enc w base spare held fuel cs d ps} h:=by
  cases fuel with
  | zero=>simp[DataW.trod]at h
  | succ fuel=>
   simp only[DataW.trod,hu]at h;split at h <;> first|(simp at h;done)|skip
   all_goals (first|(rename_i heq;cases heq;done)|skip)
   rename_i s _;split at h
   ·rename_i hs;cases h;exact⟨s,dJ.one (.str s),hs,fun b hb=>hb.str _⟩
   ·simp at h
 shape h:=by simp only[show aI.agg ByteArray=false from rfl];exact mV hu (by simp) (by simp) h
theorem LL {w:World} {a:Addr} {n:Nat} {v:Value} (h:w.cell? (a.add n)=some v) (hn:n=0∨True):∃c el fr,w.heap[a.block]? = some (.cells c el fr)∧c[a.off+n]? = some v∧(n=0→a.spot=none):=by
 unfold World.cell? Addr.add at h
 by_cases h0:n=0
 ·subst h0;simp only[if_true]at h;split at h
  ·rename_i c el fr hh;split at h
   ·simp at h
   ·rename_i hs;exact⟨c,el,fr,hh,h,fun _=>by simpa using hs⟩
  ·simp at h
 ·simp only[if_neg h0]at h;split at h
  ·rename_i c el fr hh;simp only[Option.isSome_none,Bool.false_eq_true,if_false]at h;exact⟨c,el,fr,hh,h,fun e=>absurd e h0⟩
  ·simp at h
theorem Reads.sl {t e:TypeId} {α:Type} [aI α] [bu α] [Reads P e α] (hu:P.underlying t=some (.slice e)) (hc:P.cellsOf t=1) (hpos:0<aI.size α):Reads P t (Sl α) where
 size:=hc
 rd {H enc w base spare held fuel cs d ps} h:=by
  cases fuel with
  | zero=>simp[DataW.trod]at h
  | succ fuel=>
   simp only[DataW.trod,hu]at h;split at h <;> first|(simp at h;done)|skip
   all_goals (first|(rename_i heq;cases heq;done)|skip)
   ·cases h;exact⟨.nil,dJ.one .aG,fun x hx=>by simp[Sl.l]at hx,fun b hb=>hb.nil⟩
   ·rename_i e' a len cap heq;cases heq;split at h
    ·rename_i hcap;obtain⟨elems,hel,h⟩:=ζg.1 h;obtain⟨rest,_,h⟩:=ζf.1 h;cases h;obtain⟨hlen,hget⟩:=zd hel;simp only[List.length_range]at hlen;have hes:P.cellsOf e=aI.size α:=Reads.size (α:=α);have hx:∀i,i<len→∃x:α,∃csi:List Value,w.cells? base (a.add (i*P.cellsOf e)) (P.cellsOf e)=some csi∧dJ (snap w) (cells x) csi∧bu.ok x∧∀b:DataW H→Nat,sC b→∀y,elems[i]? = some y→bu.wt x≤b y.1:=fun i hi=>by
      have:=hget i i (elems[i]'(by omega)) (by simp[hi]) (ζd (by omega))
      obtain⟨csi,h1,h2⟩:=ζg.1 this;obtain⟨x,hx,hk,hb⟩:=Reads.rd (P:=P) (t:=e) (α:=α) (d:=(elems[i]'(by omega)).1) (ps:=(elems[i]'(by omega)).2) h2
      exact⟨x,csi,h1,hx,hk,fun b bo y hy=>by
       rw[ζd (by omega)]at hy;cases hy;exact hb b bo⟩
     have hall:∀n,n≤len→∃xs:List α,xs.length=n∧(∀i x,xs[i]? = some x→∃csi:List Value,w.cells? base (a.add (i*P.cellsOf e)) (P.cellsOf e)=some csi∧dJ (snap w) (cells x) csi)∧(∀x∈xs,bu.ok x)∧∀b:DataW H→Nat,sC b→(xs.map bu.wt).sum≤(((elems.take n).map (·.1)).map b).sum:=by
      intro n
      induction n with
      | zero=>intro _;exact⟨[],rfl,by simp,by simp,by simp⟩
      | succ n ih=>
       intro hn;obtain⟨xs,h1,h2,h5,h6⟩:=ih (by omega)
       obtain⟨x,csi,h3,h4,h7,h8⟩:=hx n (by omega)
       refine⟨xs++[x],by simp[h1],fun i y hy=>?_,fun y hy=>?_,fun b bo=>?_⟩
       rotate_left
       ·rcases List.mem_append.1 hy with hy|hy
        ·exact h5 y hy
        ·simp at hy;subst hy;exact h7
       ·have k1:=h6 b bo;have k2:=h8 b bo _ (ζd (by omega))
        rw[List.take_succ,ζd (by omega:n<elems.length)]
        simp only[List.map_append,List.sum_append,Option.toList_some,List.map_cons,List.map_nil,List.sum_cons,List.sum_nil];omega
       by_cases hi:i<xs.length
       ·rw[List.getElem?_append_left hi]at hy;exact h2 i y hy
       ·rw[List.getElem?_append_right (by omega)]at hy
        have:i-xs.length=0:=by
         cases hk:i-xs.length with
         | zero=>rfl
         | succ k=>rw[hk]at hy;simp at hy
        rw[this]at hy;simp at hy;subst hy;have:i=n:=by omega
        subst this;exact⟨csi,h3,h4⟩
     obtain⟨xs,hxl,hxs,hxok,hxw⟩:=hall len (Nat.le_refl _);refine⟨.row xs,dJ.one ?_,hxok,fun b bo=>?_⟩
     rotate_left
     ·have k:=hxw b bo;rw[List.take_of_length_le (by omega)]at k
      have k2:=bo.slice (elems.map (·.1)) (rest.map (·.1));show (xs.map bu.wt).sum+1≤_;omega
     show c6 _ (.fsl (aI.size α) (rows xs)) _
     cases hl:xs with
     | nil=>
      subst hl;simp at hxl;subst hxl;exact .fsl0 _ _ _
     | cons x0 xr=>
      rw[←hl];have hl0:0<len:=by rw[←hxl,hl];simp
      have hcell:∀i x,xs[i]? = some x→∀j y,(cells x)[j]? = some y→∃v,w.cell? ((a.add (i*aI.size α)).add j)=some v∧c6 (snap w) y v:=by
       intro i x hi j y hy;obtain⟨csi,h1,h2⟩:=hxs i x hi;rw[hes]at h1;unfold World.cells? at h1;split at h1
       ·obtain⟨g1,g2⟩:=zd h1;have hj:j<aI.size α:=by rw[←eV x];exact(ζe.1 hy).1
        obtain⟨v,hv⟩:∃v,csi[j]? = some v:=⟨_,ζd (by rw[g1];simpa using hj)⟩
        exact⟨v,g2 j j v (by simp[hj]) hv,h2.2 j y v hy hv⟩
       ·simp at h1
      have hadd:∀i j,(a.add (i*aI.size α)).add j=a.add (i*aI.size α+j)∨True:=fun _ _=>.inr trivial
      have hget2:∀i x,xs[i]? = some x→∀j y,(cells x)[j]? = some y→∃c el fr v,w.heap[a.block]? = some (.cells c el fr)∧c[a.off+i*aI.size α+j]? = some v∧c6 (snap w) y v∧(i=0→j=0→a.spot=none):=by
       intro i x hi j y hy;obtain⟨v,h1,h2⟩:=hcell i x hi j y hy;obtain⟨c,el,fr,g1,g2,g3⟩:=LL h1 (.inr trivial);have hb:(a.add (i*aI.size α)).block=a.block:=by unfold Addr.add;split <;> rfl
       have ho:(a.add (i*aI.size α)).off=a.off+i*aI.size α:=by unfold Addr.add;split <;> simp_all
       rw[hb]at g1;rw[ho]at g2;refine⟨c,el,fr,v,g1,g2,h2,?_⟩;rintro rfl rfl;have:=g3 rfl;simpa [Addr.add]using this
      have h00:∃y,(cells x0)[0]? = some y:=⟨_,ζd (by rw[eV];exact hpos)⟩
      obtain⟨y0,hy0⟩:=h00;obtain⟨c,el,fr,v0,hc1,_,_,hsp⟩:=hget2 0 x0 (by rw[hl];rfl) 0 y0 hy0
      have hsp:=hsp rfl rfl;obtain⟨b,o,sp⟩:=a;simp only at hsp hc1;subst hsp;have hI:snap w b=some (.cells c):=by unfold snap;rw[hc1]
      have hrl:(rows xs).length=len:=by rw[iy,hxl]
      rw[←hrl];refine .fsl _ _ b o cap c hI (by rw[hrl];exact hcap.2.1) (fun r hr=>?_) (fun r hr y hy=>?_) ?_ (fun i j r y v hr hy hv=>?_)
      ·obtain⟨x,_,rfl⟩:=List.mem_map.1 hr;exact eV x
      ·obtain⟨x,_,rfl⟩:=List.mem_map.1 hr;exact List.all_eq_true.1 (nV x) y hy
      ·
       obtain⟨xl,hxl2⟩:∃x,xs[len-1]? = some x:=⟨_,ζd (by omega)⟩
       obtain⟨yl,hyl⟩:∃y,(cells xl)[aI.size α-1]? = some y:=⟨_,ζd (by rw[eV];omega)⟩
       obtain⟨c2,_,_,v2,k1,k2,_,_⟩:=hget2 (len-1) xl hxl2 (aI.size α-1) yl hyl;simp only at k1 k2;rw[hc1]at k1;cases k1;have:=(Array.getElem?_eq_some_iff.1 k2).1;rw[hrl];have e:len*aI.size α=(len-1)*aI.size α+aI.size α:=by
        obtain⟨m,rfl⟩:∃m,len=m+1:=⟨len-1,by omega⟩
        simp[Nat.add_mul]
       omega
      ·simp only[rows,List.getElem?_map,ζf]at hr;obtain⟨x,hx1,rfl⟩:=hr;obtain⟨c2,_,_,v2,k1,k2,k3,_⟩:=hget2 i x hx1 j y hy;simp only at k1 k2;rw[hc1]at k1;cases k1;rw[hv]at k2;cases k2;exact k3
    ·simp at h
 shape h:=by simp only[show aI.agg (Sl α)=false from rfl];exact mV hu (by simp) (by simp) h
theorem dJ.seg {I:bf} {acc xs:List V} {cs:List Value} {o n:Nat} (h:dJ I acc (cs.take o)) (k:dJ I xs ((cs.drop o).take n)):dJ I (acc++xs) (cs.take (o+n)):=by
 rw[List.take_add];exact h.append k
theorem dJ.fin {I:bf} {xs:List V} {cs:List Value} {n:Nat} (h:dJ I xs (cs.take n)) (hl:cs.length=n):dJ I xs cs:=by
 rw[List.take_of_length_le (by omega)]at h;exact h
theorem Reads.st {t:TypeId} {fs:Array Field} {α:Type} [aI α] [bu α] (hu:P.underlying t=some (.struct fs)) (hc:P.cellsOf t=aI.size α) (ha:aI.agg α=true)
 (h:∀{H:Type} {enc:TypeId×Value→H} {w:World} {base:Nat} {spare:Nat→Bool} {held:Bool} {fuel:Nat} {cs:List Value} {l:List (DataW H×List MemPlace)},cs.length=aI.size α →
  (fs.toList.mapM fun f=>DataW.trod enc P w base spare held fuel f.type ((cs.drop f.offset).take (P.cellsOf f.type)))=some l→∃a:α,dJ (snap w) (cells a) cs∧bu.ok a∧∀b:DataW H→Nat,sC b→bu.wt a≤((l.map (·.1)).map b).sum+1):Reads P t α where
 size:=hc
 rd {H enc w base spare held fuel cs d ps} hr:=by
  cases fuel with
  | zero=>simp[DataW.trod]at hr
  | succ fuel=>
   simp only[DataW.trod,hu]at hr;split at hr <;> first|(simp at hr;done)|skip
   all_goals (first|(rename_i heq;cases heq;done)|skip)
   rename_i hl;obtain⟨l,h1,h2⟩:=ζf.1 hr;cases h2;obtain⟨a,k1,k2,k3⟩:=h (by rw[hl,hc]) h1
   exact⟨a,k1,k2,fun b bo=>Nat.le_trans (k3 b bo) (bo.agg _)⟩
 shape hv:=by
  rw[if_pos ha];unfold Value.okWide at hv;rw[hu]at hv;obtain⟨cs,h1,_⟩:=hv;exact⟨cs,h1⟩
theorem Reads.arg {t:TypeId} {α:Type} [aI α] [bu α] [Reads P t α] {H:Type} {enc':TypeId×Value→H} {w:World} {base:Nat} {spare:Nat→Bool} {held:Bool} {r:_root_.Go.Reach} {b:Nat} {v:Value} {d:DataW H} {ps:List MemPlace}
 (hv:Value.okWide P w r b t v) (h:DataW.Trod enc' P w base spare held t v d ps):∃a:α,aL (snap w) (fun _=>none) (enc a) v∧bu.ok a∧∀b:DataW H→Nat,sC b→bu.wt a≤b d:=by
 obtain⟨fuel,h⟩:=h;obtain⟨a,⟨h1,h2⟩,hok,hwt⟩:=Reads.rd (P:=P) (t:=t) (α:=α) h;have hs:=Reads.shape (P:=P) (t:=t) (α:=α) hv;refine⟨a,?_,hok,hwt⟩
 cases ha:aI.agg α with
 | true=>
  rw[ha,if_pos rfl]at hs;obtain⟨cs,rfl⟩:=hs;rw[xE ha];refine .c _ _ (.agg _ _ (by simpa [Value.cells]using h1) (fun j x y hx hy=>h2 j x y hx (by simpa [Value.cells]using hy)))
 | false=>
  rw[ha]at hs;simp only[Bool.false_eq_true,if_false]at hs;rw[hs]at h2;rw[qU ha]at h2;exact .c _ _ (h2 0 _ _ rfl rfl)
end
end Go.VE
namespace Go.VE
variable [aX]
open Go.ChangeShapes Go.WideShapes Go.ChangeAt Go.RowKit
structure CJ (w w':World):Prop where
 kept:w.keptBut w' (fun _=>False)
 fz:∀a:Addr,a.block<w.heap.size→w'.frozen? a=w.frozen? a
theorem B8 {I I':bf} {μ':Mu} {H':aq} {w w':World} (s:Step I (fun _=>none) [] w I' μ' H' w'):CJ w w':=by
 have hf:∀b,b<w.heap.size→w'.heap[b]? = w.heap[b]? := fun b hb=>s.frame b hb (by rintro⟨id,p,ob,h,_⟩;simp at h)
 refine⟨⟨s.os,s.out.out,fun i hi=>?_⟩,fun a hb=>?_⟩
 ·rw[hf i hi];split
  ·rename_i h1 h2;rw[h1]at h2;cases h2;exact⟨rfl,rfl,rfl,fun _ _=>rfl⟩
  ·rename_i h1 h2;rw[h1]at h2;cases h2;exact .inr ⟨rfl,rfl⟩
  ·rfl
 ·unfold World.frozen?;rw[hf _ hb]
theorem Db {P:Program} {call:b_} (hc:iH P call) {f:FuncId} {args:List V} {b:Bool} {H':aq} (h:call (.fn f) args []=some (.bool b,H')) {w:World} {vs:List Value}
 (hw:qw (snap w)) (hv:bB (snap w) (fun _=>none) args vs):Calls P f vs.toArray w fun e w'=>e=.returned (.bool b)∧CJ w w':=by
 intro cs;have k:=((hc.fn f args [] _ H' h).2 (snap w) (fun _=>none) w vs (JB hw) hv)
 obtain⟨e,w',fr,⟨u,I',μ',rfl,hu,_,hs⟩,hcm,h1,h2⟩:=k.2 cs (by simp[Fence.room,fr])
 refine⟨_,w',fr,⟨?_,B8 hs⟩,hcm.comes,h1,h2⟩
 cases hu with
 | c _ _ hcr=>cases hcr;rfl
variable {P:Program} {H:Type} {enc:TypeId×Value→H}
theorem B6 {ts:List TypeId} {vs:List Value} {ds:List (DataW H)} {ps:List MemPlace} {w w':World} (hg:CJ w w') (h:DataW.TrodAll enc P w 0 (fun _=>true) true ts vs ds ps):DataW.TrodAll enc P w' 0 (fun _=>true) true ts vs ds ps:=by
 have hcell:∀p:MemPlace,p.block<w.heap.size→w.sameAt w' p:=by
  intro p hp;have k:=hg.kept.2.2 p.block hp
  cases p with
  | cell b off=>
   simp only[World.sameAt,World.cell?];simp only[MemPlace.block]at k hp;split at k
   ·rename_i c t fr c' t' fr' h1 h2;rw[h1,h2];simp only;have:=k.2.2.2 off (fun x=>x)
    simpa using this
   ·rename_i h1 h2;rw[h1,h2]
   ·rw[k]
  | map b=>
   simp only[World.sameAt];simp only[MemPlace.block]at k hp;split at k
   ·rename_i c t fr c' t' fr' h1 h2;obtain⟨rfl,rfl,h3,h4⟩:=k;rw[h1,h2];have:c'=c:=Array.ext_getElem? fun i=>h4 i (fun x=>x)
    rw[this]
   ·rename_i h1 h2;rcases k with k|⟨rfl,rfl⟩
    ·exact k.elim
    ·rw[h1,h2]
   ·exact k
 induction ts generalizing vs ds ps with
 | nil=>cases vs <;> cases ds <;> simp_all [DataW.TrodAll]
 | cons t ts ih=>
  cases vs with
  | nil=>simp[DataW.TrodAll]at h
  | cons v vs=>
   cases ds with
   | nil=>simp[DataW.TrodAll]at h
   | cons d ds=>
    obtain⟨p,q,⟨n,h1⟩,h2,rfl⟩:=h;exact⟨p,q,⟨n,DataW.trod_carry n _ _ _ h1 fun x hx=>hcell x (DataW.trod_lt n _ _ _ h1 x hx)⟩,ih h2,rfl⟩
theorem Ja {T:TypeId→Prop} (K:Kids P T) (hz:∀t e,T t→P.underlying t=some (.slice e)→0<P.cellsOf e) {f:Func} {s:ChangeSpec} {apart fresh handsOn again:Bool} {W W':World} {args:Array Value} {ds gs:List (DataW H)} {before:List MemPlace} {tb:TypeId}
 (hT:∀t∈f.params.toList,T t) (hvars:s.vars=[]) (hfn:s.fn H (ds++gs)={ results:=[.lit (.bool true)],args:=ds }) (hrt:f.resultTypes=#[tb]) (hb:P.underlying tb=some .bool)
 (hW:DataW.Whole enc P f.params.toList s.vars apart W args.toList ds gs before) (hg:CJ W W'):s.post enc P f apart fresh handsOn again W args (.bool true) W':=by
 have hW':=hW;obtain⟨p,q,hA,hV,rfl,hfz,hnd⟩:=hW;rw[hvars]at hV;obtain⟨rfl,rfl⟩:=trodVars_none hV;have hr:∀(b:Nat) (sp:Nat→Bool) (hd:Bool),DataW.TrodAll enc P W' b sp hd f.resultTypes.toList ((Value.bool true).resultList f.resultTypes.size) (s.fn H (ds++[])).results []:=fun _ _ _=>by
  rw[hrt,hfn];exact trodAll_cons_mk (shut_bool hb _) trodAll_mk0
 have ha:∀sp:Nat→Bool,(∀x∈p++[],sp x.block=true)→DataW.TrodAll enc P W' 0 sp true f.params.toList args.toList (s.fn H (ds++[])).args p:=fun sp hsp=>by
  rw[hfn];exact DataW.TrodAll.respare K hz hT (B6 hg hA) (fun x hx=>hsp x (List.mem_append_left _ hx))
 have hv:∀sp:Nat→Bool,DataW.TrodVars enc P W' sp s.vars (s.fn H (ds++[])).vars []:=fun sp=>by rw[hfn,hvars];rfl
 have hlt:=fun x hx=>hW'.lt x hx
 refine⟨ds,[],p++[],[],p,[],hW',hr _ _ _,ha _ fun x hx=>by simpa using hlt x hx,hv _,World.keptBut_mono (fun x hx=>hx.elim) hg.kept,fun _=>⟨ok_one hrt rfl (okWide_bool_mk hb _),?_⟩⟩
 refine⟨_,_,[]++p++[],⟨[]++p,[],trodAll_append (ha _ fun _ _=>rfl) (hr _ _ _),hv _,rfl,fun b off hx=>?_,fun h=>by simpa using hnd h⟩,fun x hx _=>by simpa using hx⟩
 have hx':MemPlace.cell b off∈p++[]:=by simpa using hx
 rw[hg.fz _ (hlt _ hx')];exact hfz b off hx'
end Go.VE
namespace Go.VE
variable [aX]
instance:bu U8 where
 wt _:=1
 ok n:=0≤n.v∧n.v≤255
theorem Reads.u8 {P:Program} {t:TypeId} (hu:P.underlying t=some (.int .u8)) (hc:P.cellsOf t=1):Reads P t U8 where
 size:=hc
 rd {H enc w base spare held fuel cs d ps} h:=by
  cases fuel with
  | zero=>simp[DataW.trod]at h
  | succ fuel=>
   simp only[DataW.trod,hu]at h;split at h <;> first|(simp at h;done)|skip
   ·rename_i heq;cases heq
   ·rename_i k k' n heq;simp only[ζa,TypeDesc.int.injEq]at heq;split at h
    ·rename_i hk;obtain⟨rfl,hw⟩:=hk;subst heq;cases h;exact⟨⟨n⟩,dJ.one (.int _ n),show _∧_ by simpa [Lit.wf,IntKind.min,IntKind.max,IntKind.signed,IntKind.bits]using hw,fun b hb=>hb.lit _⟩
    ·simp at h
   all_goals (rename_i heq;cases heq)
 shape h:=by simp only[show aI.agg U8=false from rfl];exact mV hu (by simp) (by simp) h
end Go.VE
namespace Go.VE
variable [aX]
theorem Gu {m:Tb aQ} {n:Nat} {rs:List SV} {b:Bool} (h:bQ m n rs=some [.bool b]):rs=[.v (.bool b)]:=by
 cases rs with
 | nil=>cases n <;> simp[bQ]at h
 | cons x r=>
  have h1:shut m n x=some (.bool b)∧bQ m n r=some []:=by
   unfold bQ at h;split at h
   ·rename_i y s h1 h2;simp only[ζa,List.cons.injEq]at h;obtain⟨rfl,rfl⟩:=h;exact⟨h1,h2⟩
   ·cases h
  have h2:r=[]:=by
   cases r with
   | nil=>rfl
   | cons y r=>
    have:=h1.2;unfold bQ at this;split at this <;> simp at this
  subst h2;have h3:=h1.1
  cases x with
  | v y=>unfold shut at h3;simp only[ζa]at h3;rw[h3]
  | own d=>unfold shut at h3;split at h3 <;> simp only[ζa,reduceCtorEq]at h3;rename_i k es xs _;cases k <;> simp[lC]at h3
  | ptr d o=>
   cases n with
   | zero=>simp[shut]at h3
   | succ n=>
    unfold shut at h3;split at h3 <;> try cases h3
    split at h3 <;> try cases h3
    split at h3 <;> cases h3
  | mp d=>unfold shut at h3;split at h3 <;> cases h3
  | clo f a b=>
   cases n with
   | zero=>simp[shut]at h3
   | succ n=>unfold shut at h3;split at h3 <;> cases h3
  | tup l=>
   cases n with
   | zero=>simp[shut]at h3
   | succ n=>unfold shut at h3;obtain⟨_,_,hq⟩:=ζf.1 h3;cases hq
  | _=>cases n <;> simp[shut]at h3
theorem JW {S:Sys} {T:pJ} (hT:s9 S T) (hI:∀f a b xs,S.items f a b=some xs→fE S f a b xs) {f:FuncId} {xs:List V} (hg:V.bH xs=true) (h:jJ (dU S T) f xs=some [.bool true]) :
 ∃n H',run S.E n (.fn f) xs []=some (.bool true,H'):=by
 unfold jJ at h;obtain⟨⟨rs,m⟩,h1,h2⟩:=ζg.1 h;have:=Gu h2;simp only at this;subst this;exact NN hT hI hg h1 rfl
theorem GY {S:Sys} {T:pJ} {P:Program} (hT:s9 S T) (hI:∀f a b xs,S.items f a b=some xs→fE S f a b xs) (hc:∀n,iH P (run S.E n)) {f:FuncId} {xs:List V} (hg:V.bH xs=true) (h:jJ (dU S T) f xs=some [.bool true])
 {w:World} {args:Array Value} (hw:qw (snap w)) (hv:bB (snap w) (fun _=>none) xs args.toList):Calls P f args w fun e w'=>e=.returned (.bool true)∧CJ w w':=by
 obtain⟨n,H',hr⟩:=JW hT hI hg h;have:=Db (hc n) hr hw hv;simpa using this
theorem Reads.Cq {P:Program} {t:TypeId} {α:Type} [aI α] [bu α] [Reads P t α] {H:Type} {enc':TypeId×Value→H} {w:World} {base b:Nat} {spare:Nat→Bool} {held:Bool} {v:Value} {d:DataW H} {ps:List MemPlace} {params:Array TypeId} {args:Array Value}
 (hval:∀(j:Nat) t v,params[j]? = some t→args[j]? = some v→Value.okWide P w .any b t v) (j:Nat) (h1:params[j]? = some t) (h2:args[j]? = some v) (h:DataW.Trod enc' P w base spare held t v d ps) :
 ∃a:α,aL (snap w) (fun _=>none) (enc a) v∧bu.ok a∧∀b:DataW H→Nat,sC b→bu.wt a≤b d:=Reads.arg (hval j t v h1 h2) h
end Go.VE
namespace Go.VE
theorem K8 {w:World} {g:Nat} {l:List Int} (h:∀i,i<l.length→w.cell? ⟨g,i,none⟩=some (.int .i64 (l.getD i 0))) (h0:0<l.length):c6 (snap w) (.fptr (l.map (V.int .i64))) (.pointer (some ⟨g,0,none⟩)):=by
 have h1:=h 0 h0;unfold World.cell? at h1;split at h1
 ·rename_i c t fr hh;have hs:snap w g=some (.cells c):=by unfold snap;simp only at hh;rw[hh]
  have hc:∀i,w.cell? ⟨g,i,none⟩=c[i]? := fun i=>by unfold World.cell?;simp only at hh ⊢;rw[hh];rfl
  refine .fptr _ _ _ c hs ?_ ?_
  ·rw[Nat.zero_add,List.length_map];have:=h (l.length-1) (by omega)
   rw[hc]at this;have:=(Array.getElem?_eq_some_iff.1 this).1;omega
  ·intro j y v hy hv;rw[Nat.zero_add,←hc]at hv;rw[List.getElem?_map]at hy;obtain⟨z,hz,rfl⟩:=ζf.1 hy;have hj:=(ζe.1 hz).1;rw[h j hj]at hv;cases hv;have:l.getD j 0=z:=by simp[List.getD,hz]
   rw[this];exact .int _ _
 ·cases h1
end Go.VE
namespace Go.VE
variable [aX]
theorem bR (n:Nat) (h:n<9223372036854775807):IntKind.wrap .i64 ((n:Int)+1)=((n+1:Nat):Int):=by
 simp[IntKind.wrap,IntKind.bits,IntKind.signed];omega
theorem mm (n:Int) (h1:-9223372036854775808≤n) (h2:n≤9223372036854775807):IntKind.wrap .i64 n=n:=by
 simp[IntKind.wrap,IntKind.bits,IntKind.signed];omega
section
variable {α β:Type} {P:β→Prop}
theorem o6 (s:Sl α) (i:Nat):idx s (i:Int)=s.l[i]? := by
 unfold idx;rw[if_pos (by omega)];rfl
theorem aO {s:Sl α} {i:Nat} (h:i<s.l.length):idx s (i:Int)=some s.l[i]:=by rw[o6,ζd h]
theorem QJ {s:Sl α} {i:Int} (h0:0≤i):idx s i=s.l[i.toNat]? := by unfold idx;rw[if_pos h0]
theorem lX (s:Sl α) (i:Nat) (h:i≤s.l.length):∃x,gy s none (some (i:Int))=some x∧x.l=s.l.take i:=by
 unfold gy cE;simp only[Option.getD_none,Option.getD_some];rw[if_pos (by omega)]
 cases s <;> simp[Sl.l]at h ⊢ <;> simp[h]
theorem aY {γ:Type} {a b:γ}:au true a b=a:=rfl
theorem bG {γ:Type} {a b:γ}:au false a b=b:=rfl
theorem fS (a b:Bool):au a (some b) (some false)=some (a&&b):=by cases a <;> rfl
theorem fu (a b:Bool):au a (some true) (some b)=some (a||b):=by cases a <;> rfl
theorem js (a:Bool) (x y:β):au a (some x) (some y)=some (if a then x else y):=by cases a <;> rfl
end
def place {α:Type} (f:α→Bool) (l:List α):Int:=match l.findIdx? f with
 | some i=>i
 | none=>-1
theorem wJ {α:Type} {f:α→Bool} {l:List α} {i:Nat} (h:∀j,j<i→∀x,l[j]? = some x→f x=false) (hi:l.length≤i):l.findIdx? f=none:=by
 rw[List.findIdx?_eq_none_iff];intro x hx;obtain⟨j,hj⟩:=List.getElem?_of_mem hx;have:j<l.length:=(ζe.1 hj).1;exact h j (by omega) x hj
theorem yB {α:Type} {f:α→Bool} {l:List α} {i:Nat} {x:α} (h:∀j,j<i→∀x,l[j]? = some x→f x=false) (hx:l[i]? = some x) (hf:f x=true):l.findIdx? f=some i:=by
 rw[List.findIdx?_eq_some_iff_getElem];obtain⟨hi,rfl⟩:=ζe.1 hx;exact⟨hi,hf,fun j hj=>by rw[h j hj _ (ζd (by omega))];simp⟩
theorem n_ {α:Type} {step:Int→Option (Fw Int Unit Int)} {s:Sl α} {p:α→Option Bool} {f:α→Bool} (hp:∀x∈s.l,p x=some (f x)) (hl:s.l.length<9223372036854775807)
 (hs:∀i,step i=au (decide (i<len s)) ((idx s i).bind fun x_1=>(p x_1).bind fun x_2=>au x_2 (some (.r i)) (some (.n (IntKind.wrap .i64 (i+1))))) (some (.x ()))) :
 (aW step 0).bind (Fw.elim (fun _=>some (-1)) (fun e=>some e))=some (place f s.l):=by
 refine Wp.eq (c8 (fun i:Int=>∃n:Nat,i=n∧n≤s.l.length∧∀j,j<n→∀x,s.l[j]? = some x→f x=false) (fun i:Int=>s.l.length-i.toNat) ⟨0,rfl,Nat.zero_le _,fun j hj=>absurd hj (by omega)⟩ ?_)
 rintro i ⟨n,rfl,hn,hb⟩;rw[hs,aU];refine⟨fun h=>?_,fun h=>?_⟩
 ·have hlt:n<s.l.length:=by simpa [len]using h
  rw[aO hlt,ζb,hp _ (List.getElem_mem hlt),ζb,aU];refine⟨fun hf=>?_,fun hf=>?_⟩
  ·rw[ai];show Wp (some (n:Int)) _;rw[ai];unfold place;rw[yB hb (ζd hlt) hf]
  ·rw[ai];refine⟨⟨n+1,bR n (by omega),by omega,fun j hj x hx=>?_⟩,?_⟩
   ·by_cases e:j=n
    ·subst e;rw[ζd hlt]at hx;cases hx;exact hf
    ·exact hb j (by omega) x hx
   ·rw[bR n (by omega)];simp;omega
 ·have hge:s.l.length≤n:=by simpa [len]using h
  rw[ai];show Wp (some (-1:Int)) _;rw[ai];unfold place;rw[wJ hb hge]
theorem ou {α:Type} (f:α→Bool) (l:List α):decide (place f l≥0)=l.any f:=by
 unfold place
 cases h:l.findIdx? f with
 | none=>
  rw[List.findIdx?_eq_none_iff]at h;have:l.any f=false:=by rw[List.any_eq_false];intro x hx;simp[h x hx]
  rw[this];rfl
 | some i=>
  obtain⟨hi,hf,_⟩:=List.findIdx?_eq_some_iff_getElem.1 h;have:l.any f=true:=List.any_eq_true.2 ⟨_,List.getElem_mem hi,hf⟩;rw[this];simp
theorem Lm {α σ ε ρ:Type} {step:α→σ→Option (Fw σ ε ρ)} {l:List α} (I:Nat→σ→Prop) (px:ε→Prop) (pr:ρ→Prop) {s:σ} (h0:I 0 s)
 (h:∀i a s,l[i]? = some a→I i s→Wp (step a s) fun w=>match w with|.n s'=>I (i+1) s'|.x e=>px e|.r b=>pr b) :
 Wp (kH step l s) fun w=>match w with|.n s'=>I l.length s'|.x e=>px e|.r b=>pr b:=by
 have key:∀(r:List α) (i:Nat) (s:σ),l.drop i=r→i≤l.length→I i s→Wp (kH step r s) fun w=>match w with|.n s'=>I l.length s'|.x e=>px e|.r b=>pr b:=by
  intro r
  induction r with
  | nil=>
   intro i s hd hi hs;have:i=l.length:=by have:=List.drop_eq_nil_iff.1 hd;omega
   subst this;exact⟨_,rfl,hs⟩
  | cons a r ih=>
   intro i s hd hi hs;have hlt:i<l.length:=by
    apply Classical.byContradiction;intro hn;rw[List.drop_eq_nil_of_le (by omega)]at hd;cases hd
   have h2:=List.drop_eq_getElem_cons hlt;rw[h2]at hd;simp only[List.cons.injEq]at hd;obtain⟨w,hw,hp⟩:=h i a s (by rw[ζd hlt,hd.1]) hs
   simp only[kH,hw,ζb]
   cases w with
   | n s'=>exact ih (i+1) s' hd.2 (by omega) hp
   | x e=>exact⟨_,rfl,hp⟩
   | r b=>exact⟨_,rfl,hp⟩
 exact key l 0 s rfl (Nat.zero_le _) h0
theorem uF {α σ ε ρ γ:Type} {step:α→σ→Option (Fw σ ε ρ)} {l:List α} {fn:σ→Option γ} {fx:ε→Option γ} {fr:ρ→Option γ} {P:γ→Prop} (I:Nat→σ→Prop) {s:σ} (h0:I 0 s)
 (h:∀i a s,l[i]? = some a→I i s→Wp (step a s) fun w=>match w with|.n s'=>I (i+1) s'|.x e=>Wp (fx e) P|.r b=>Wp (fr b) P)
 (hn:∀s,I l.length s→Wp (fn s) P):Wp ((kH step l s).bind (Fw.tH fn fx fr)) P:=by
 rw[dx];refine(Lm I _ _ h0 h).mono ?_;intro w hw
 cases w with
 | n s=>exact hn s hw
 | x e=>exact hw
 | r b=>exact hw
end Go.VE
