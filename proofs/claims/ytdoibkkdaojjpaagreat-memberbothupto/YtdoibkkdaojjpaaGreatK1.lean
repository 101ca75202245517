/-
 Certificates; functions by hand; readings; plain laws.
-/
import Derived.JoinedCond
import Derived.ReadAgain
import Derived.WalkKit
import Derived.ProofKit
import Derived.OpenShut
import Derived.ChangeSame
import Derived.RowKit3
import Derived.Test.YtdoibkkdaojjpaaGreatV2
import Derived.Test.YtdoibkkdaojjpaaGreatN2
import Derived.Test.YtdoibkkdaojjpaaGreatS1
set_option linter.all false
namespace Go.VE
variable [aS]
abbrev Cf:=Fo×List Fm×St
section
variable (S:Sys) (c:bG) {β:Type} (Q:Out×St->Option β)
noncomputable abbrev bn (cf:Cf):Option β:=rn S c Q cf.1 cf.2.1 cf.2.2
noncomputable def gZ (n:Nat) (cf:Cf):Cf:=(fM S c n cf.1 cf.2.1 cf.2.2).getD cf
structure CZ where
 dr:Bool
 fr:List Nat
 d:Option Nat
 gd:Option (Nat×Bool)
 now:Bool
 k:K
 az:List Arg
 dd:List Nat
 l:List RO
 fs:List Fm
 st:St
noncomputable def eV (n:Nat) (cf:Cf):Option CZ:=match fM S c n cf.1 cf.2.1 cf.2.2 with
 | some (.ops dr fr (⟨d,gd,now,k,az,dd,[]⟩::l),fs,st)=>match wanted st.g gd with
  | some true=>some ⟨dr,fr,d,gd,now,k,az,dd,l,fs,st⟩
  | _=>none
 | _=>none
noncomputable def nx (n:Nat) (cf:Cf) (φ:CZ->St):Cf:=match eV S c n cf with
 | some p=>(.ops p.dr (if p.dr then(match p.k with|.p _|.r _=>p.fr|_=>match p.d with|some d=>d::p.fr|none=>p.fr)else p.fr) p.l,p.fs,nP p.dd (φ p))
 | none=>cf
end
def sQ (s:Nat) (b:Bool) (cf:Cf):Cf:=(cf.1,cf.2.1,{ cf.2.2 with g:=aO cf.2.2.g s (.v (.bool b)) })
def jmp (k:Nat) (fr:List Nat) (cf:Cf) (st:St):Cf:=match cf with
 | (.ops dr _ l,fs,_)=>(.ops dr fr (l.drop k),fs,st)
 | _=>(.rt,[],st)
def sM:RC->List Nat->List Fm->St->Cf
 | c,[],fs,st=>(.rc c,fs,st)
 | .seq a b,i::p,fs,st=>if i=0 then sM a p (.seq b::fs) st else sM b p fs st
 | .cond _ a b,i::p,fs,st=>if i=0 then sM a p fs st else sM b p fs st
 | .block id c,_::p,fs,st=>sM c p (.blk id::fs) st
 | .gh _ c,_::p,fs,st=>sM c p fs st
 | .hg c g,_::p,fs,st=>sM c p (.gst g::fs) st
 | .loop c,_::p,_,st=>sM c p [] st
 | .each _ _ _ b,_::p,_,st=>sM b p [] st
 | c,_,fs,st=>(.rc c,fs,st)
section
variable {S:Sys} {c:bG} {β γ δ α:Type} {Q:Out×St->Option β} {e:γ->Option β} {cf:Cf}
theorem gP {n:Nat} {p:CZ} (h:eV S c n cf=some p):fM S c n cf.1 cf.2.1 cf.2.2=some (.ops p.dr p.fr (⟨p.d,p.gd,p.now,p.k,p.az,p.dd,[]⟩::p.l),p.fs,p.st)/\wanted p.st.g p.gd=some true:=by
 unfold eV at h;split at h
 .rename_i h1;split at h
  .rename_i h2;cases h;exact⟨h1,h2⟩
  .cases h
 .cases h
theorem uu {n:Nat} {m:Option δ} {φ:δ->CZ->St} {f:δ->Option γ} {p:CZ} (hp:eV S c n cf=some p) (hs:Le (m.bind λx=>some (φ x p)) (d_ S c p.dr p.fr ⟨p.d,none,p.now,p.k,p.az,[],[]⟩ p.st))
 (h:∀x,m=some x->Le ((f x).bind e) (bn S c Q (nx S c n cf (φ x)))):Le ((m.bind f).bind e) (bn S c Q cf):=by
 obtain⟨h1,h2⟩:=gP hp;refine Bw h1 rfl h2 hs λx hx=>?_
 have:=h x hx;simp only[nx,hp]at this;exact this
theorem pW {n:Nat} {m:Option β} {φ:CZ->St} {p:CZ} (hp:eV S c n cf=some p) (hs:d_ S c p.dr p.fr ⟨p.d,none,p.now,p.k,p.az,[],[]⟩ p.st=some (φ p))
 (h:Le m (bn S c Q (nx S c n cf φ))):Le m (bn S c Q cf):=by
 obtain⟨h1,h2⟩:=gP hp;refine pI h1 rfl h2 hs ?_;simp only[nx,hp]at h;exact h
theorem dK {α β:Type} {o:Option α} {f:α->β} {b:β} (h:o.map f=some b):∃a,o=some a/\f a=b:=ζf.1 h
theorem BH (n:Nat) {m:Option β} {cf':Cf} (h:Le m (bn S c Q cf')) (hL:fM S c n cf.1 cf.2.1 cf.2.2=some cf':=by kernel_rfl):Le m (bn S c Q cf):=BG hL h
theorem aK (n s:Nat) {t:Bool} {x y:Option γ} (ha:Le (x.bind e) (bn S c Q (sQ s true (gZ S c n cf)))) (hb:Le (y.bind e) (bn S c Q (sQ s false (gZ S c n cf))))
 (hL:(fM S c n cf.1 cf.2.1 cf.2.2).map (λp=>ai p.2.2.g s)=some (some (.v (.bool t))):=by kernel_rfl):Le ((ay t x y).bind e) (bn S c Q cf):=by
 obtain⟨p,hp,hv⟩:=dK hL;have hg:gZ S c n cf=p:=by unfold gZ;rw[hp];rfl
 rw[hg]at ha hb;refine BG hp ?_;cases t
 .have:sQ s false p=p:=by unfold sQ;rw[qo hv]
  rw[this]at hb;exact hb
 .have:sQ s true p=p:=by unfold sQ;rw[qo hv]
  rw[this]at ha;exact ha
theorem dB (n s:Nat) {t:Bool} {x y:Option γ} (ha:Le (x.bind e) (bn S c Q (sQ s false (gZ S c n cf)))) (hb:Le (y.bind e) (bn S c Q (sQ s true (gZ S c n cf))))
 (hL:(fM S c n cf.1 cf.2.1 cf.2.2).map (λp=>ai p.2.2.g s)=some (some (.v (.bool (!t)))):=by kernel_rfl):Le ((ay t x y).bind e) (bn S c Q cf):=by
 obtain⟨p,hp,hv⟩:=dK hL;have hg:gZ S c n cf=p:=by unfold gZ;rw[hp];rfl
 rw[hg]at ha hb;refine BG hp ?_;cases t
 .have:sQ s true p=p:=by unfold sQ;rw[show V.bool true=V.bool (!false)from rfl,qo hv]
  rw[this]at hb;exact hb
 .have:sQ s false p=p:=by unfold sQ;rw[show V.bool false=V.bool (!true)from rfl,qo hv]
  rw[this]at ha;exact ha
theorem M4 (n k:Nat) (fr:List Nat) (st:δ->St) {m:Option δ} {f:δ->Option γ} (h2:Le (m.bind λr=>bn S c Q (jmp k fr (gZ S c n cf) (st r))) (bn S c Q cf))
 (h1:∀r,Le ((f r).bind e) (bn S c Q (jmp k fr (gZ S c n cf) (st r)))):Le ((m.bind f).bind e) (bn S c Q cf):=MR _ h2 h1
theorem aI (n:Nat) {r:δ} {k:δ->Cf} (hL:fM S c n cf.1 cf.2.1 cf.2.2=some (k r):=by kernel_rfl):Le ((some r).bind λr=>bn S c Q (k r)) (bn S c Q cf):=UD (e:=λr=>bn S c Q (k r)) hL rfl
theorem ah {r:γ} {L:Option β} (h:L=e r:=by kernel_rfl):Le ((some r).bind e) L:=Le.of_eq h
theorem A4 (n:Nat) {b:RC} {m:Option (Out×Tb aL)} (h:Le m (bn S c tQ (.rc b,[],(gZ S c n cf).2.2))) (hL:fM S c n cf.1 cf.2.1 cf.2.2=some (.nx,[],(gZ S c n cf).2.2):=by kernel_rfl):Le m (bn S c (vI S c b) cf):=RR hL h
theorem Uu (n:Nat) {o:Option α} (A:Option α->St) {f:α->Option γ} (h2:∀x,o=some x->Le ((f x).bind e) (bn S c Q ((gZ S c n cf).1,(gZ S c n cf).2.1,A (some x))))
 (hL:fM S c n cf.1 cf.2.1 cf.2.2=some ((gZ S c n cf).1,(gZ S c n cf).2.1,A o):=by kernel_rfl):Le ((o.bind f).bind e) (bn S c Q cf):=Su hL h2
theorem jk.L0 {S:Sys} {T:qM} [aA δ] {f:FuncId} {A:α->List V} {p:α->Option δ} (hT:T f=none) (hk:S.E.keep f=false) (ho:∀z r,p z=some r->S.wK f (A z)=some (enc r))
 (l:∀z,V.bU 8 (A z)=true:=by intro z;simp) (hr:∀r:δ,V.lvl 8 (result [enc r])=true:=by intro r;simp):jk S (cz S T) f A (λr=>[enc r]) p false where
 k:=hk
 h z:=by
  intro y hy;obtain⟨r,h1,h2⟩:=ζg.1 hy;cases h2;have h:=CJ hT hk (ho z r h1);unfold kY;rw[h];exact uF 8 [enc r]
 l:=l
 r:=hr
 s h:=by cases h
def Lg:K->Option BinOp
 | .p (.bin (some .slice) _ o)=>some o
 | _=>none
theorem N8 {k:K} {o:BinOp} (h:Lg k=some o):∃u,k=.p (.bin (some .slice) u o):=by
 unfold Lg at h;split at h
 .cases h;exact⟨_,rfl⟩
 .cases h
def Q4:K->Option (Nat×Nat×List Nat)
 | .a (.buildSl sz ln _ ix)=>some (sz,ln,ix)
 | _=>none
theorem PD {k:K} {r:Nat×Nat×List Nat} (h:Q4 k=some r):∃z,k=.a (.buildSl r.1 r.2.1 z r.2.2):=by
 unfold Q4 at h;split at h
 .cases h;exact⟨_,rfl⟩
 .cases h
def Ng:K->Option (List V)
 | .a (.alloc _ zero)=>some zero
 | _=>none
theorem Ju {k:K} {z:List V} (h:Ng k=some z):∃n,k=.a (.alloc n z):=by
 unfold Ng at h;split at h
 .cases h;exact⟨_,rfl⟩
 .cases h
section
variable [aA α]
theorem Sc (k:IntKind) (n:Nat) {s:Sl α} {i:Int} {f:α->Option γ} (h:∀x,idx s i=some x->Le ((f x).bind e) (bn S c Q (nx S c n cf λp=>bV p.st p.d (cp x))))
 (hL:(eV S c n cf).map (λp=>(p.k,aW S.N p.st.g p.az))=some (.p (.idxS (aA.size α)),some [.v (aU s),.v (.int k i)]):=by kernel_rfl):Le (((idx s i).bind f).bind e) (bn S c Q cf):=by
 obtain⟨p,hp,hv⟩:=dK hL;simp only[ζc]at hv;refine uu hp ?_ h;rw[hv.1];exact Le.of_eq (Nq hv.2 rfl)
theorem bC (n:Nat) {s:Sl α} {i:Int} {f:α->Option γ} (h:∀x,idx s i=some x->Le ((f x).bind e) (bn S c Q (nx S c n cf λp=>bV p.st p.d (cp x))))
 (hL:(eV S c n cf).map (λp=>(p.k,aW S.N p.st.g p.az))=some (.p (.idxS (aA.size α)),some [.v (aU s),.v (.int .i64 i)]):=by kernel_rfl):Le (((idx s i).bind f).bind e) (bn S c Q cf):=Sc .i64 n h hL
theorem lK (k:IntKind) (n u:Nat) {s:Sl α} {i:Int} {f:Nat->Option γ} (h:∀x,s.kN i=some x->Le ((f x).bind e) (bn S c Q (nx S c n cf λp=>bV p.st p.d (.el u x 0))))
 (hL:(eV S c n cf).map (λp=>(p.k,aW S.N p.st.g p.az,ai p.st.m u))=some (.p (.idxS (aA.size α)),some [.own u,.v (.int k i)],some (bZ s)):=by kernel_rfl):Le (((s.kN i).bind f).bind e) (bn S c Q cf):=by
 obtain⟨p,hp,hv⟩:=dK hL;simp only[ζc]at hv;refine uu hp ?_ h;rw[hv.1];exact Le.of_eq (Ss hv.2.1 hv.2.2 rfl)
theorem sR (n u o sz:Nat) (a:Bool) (v:α->V) {s:Sl α} {i:Nat} {f:α->Option γ} (h:∀x,s.get i=some x->Le ((f x).bind e) (bn S c Q (nx S c n cf λp=>bV p.st p.d (.v (v x)))))
 (hL:(eV S c n cf).map (λp=>(p.k,aW S.N p.st.g p.az,ai p.st.m u,(!p.dr||p.now||c6 p.fr [.el u i o])))=some (.r (.load sz a),some [.el u i o],some (bZ s),true):=by kernel_rfl) (hv:∀x:α,(cut (cells x) o sz).bind (mk a)=some (v x):=by intro _;rfl):Le (((s.get i).bind f).bind e) (bn S c Q cf):=by
 obtain⟨p,hp,hv'⟩:=dK hL;simp only[ζc]at hv';refine uu hp ?_ h;rw[hv'.1];exact Le.of_eq (Qz hv'.2.1 hv'.2.2.2 hv'.2.2.1 hv)
theorem vM (n u:Nat) (x:V) {s:Sl α} {i:Nat} {a:α} {f:Sl α->Option γ} (h:∀s',s.put i a=some s'->Le ((f s').bind e) (bn S c Q (nx S c n cf λp=>bV { p.st with m:=aO p.st.m u (bZ s') } p.d (.v .undef))))
 (hL:(eV S c n cf).map (λp=>(p.k,aW S.N p.st.g p.az,ai p.st.m u,(!p.dr||p.now),x.cells))=some (.l (.store (aA.size α)),some [.el u i 0,.v x],some (bZ s),true,cells a):=by kernel_rfl):Le (((s.put i a).bind f).bind e) (bn S c Q cf):=by
 obtain⟨p,hp,hv⟩:=dK hL;simp only[ζc]at hv;refine uu hp ?_ h;rw[hv.1];exact Le.of_eq (NR hv.2.1 hv.2.2.2.1 hv.2.2.1 hv.2.2.2.2 rfl)
theorem QS (n u:Nat) {i:Int} {z:α} {f:Sl α->Option γ} (h:∀s',sG i z=some s'->Le ((f s').bind e) (bn S c Q (nx S c n cf λp=>{ p.st with g:=aO p.st.g u (.own u),m:=aO p.st.m u (bZ s') })))
 (hL:(eV S c n cf).map (λp=>(p.d,p.k,aW S.N p.st.g p.az,p.st.new u))=some (some u,.a (.makeSl (aA.size α) (cells z)),some [.v (.int .i64 i),.v (.int .i64 i)],true):=by kernel_rfl):Le (((sG i z).bind f).bind e) (bn S c Q cf):=by
 obtain⟨p,hp,hv⟩:=dK hL;simp only[ζc]at hv;refine uu hp ?_ h;rw[hv.1,hv.2.1];exact Le.of_eq (Q1 hv.2.2.1 rfl rfl hv.2.2.2)
theorem sO (n o w u:Nat) {s:Sl α} {x:α} {f:Sl α->Option γ} (h:∀s',i_ s x=some s'->Le ((f s').bind e) (bn S c Q (nx S c n cf λp=>{ p.st with g:=aO p.st.g u (.own u),m:=aO (cM o p.st.m) u (bZ s') })))
 (hL:(eV S c n cf).map (λp=>(p.d,p.k,aW S.N p.st.g p.az,(!p.dr||p.now),ai p.st.m o,ai p.st.m w,St.new { p.st with m:=cM o p.st.m } u))=some (some u,.l (.append (aA.size α)),some [.own o,.own w],true,some (bZ s),some (bZ (.row [x])),true):=by kernel_rfl):Le (((i_ s x).bind f).bind e) (bn S c Q cf):=by
 obtain⟨p,hp,hv⟩:=dK hL;simp only[ζc]at hv;refine uu hp ?_ h;rw[hv.1,hv.2.1];exact Le.of_eq (Sw hv.2.2.1 hv.2.2.2.1 hv.2.2.2.2.1 hv.2.2.2.2.2.1 rfl hv.2.2.2.2.2.2)
theorem Nw (n w u:Nat) (v:V) (x:α) {m:Option β} (h:Le m (bn S c Q (nx S c n cf λp=>{ p.st with g:=aO p.st.g u (.own u),m:=aO p.st.m u (bZ (.row [x])) }))) (hv:v=.aF\/v=.cI:=by first|exact .inl rfl|exact .inr rfl)
 (hL:(eV S c n cf).map (λp=>(p.d,p.k,aW S.N p.st.g p.az,(!p.dr||p.now),ai p.st.m w,p.st.new u))=some (some u,.l (.append (aA.size α)),some [.v v,.own w],true,some (bZ (.row [x])),true):=by kernel_rfl):Le m (bn S c Q cf):=by
 obtain⟨p,hp,hq⟩:=dK hL;simp only[ζc]at hq;refine pW hp ?_ h;rw[hq.1,hq.2.1];exact PN hv hq.2.2.1 hq.2.2.2.1 hq.2.2.2.2.1 rfl hq.2.2.2.2.2
theorem bB (n:Nat) (s:Sl α) {m:Option β} (h:Le m (bn S c Q (nx S c n cf λp=>bV p.st p.d (.v (.int .i64 s.l.length)))))
 (hL:(eV S c n cf).map (λp=>(p.k,aW S.N p.st.g p.az))=some (.p .lenSl,some [.v (aU s)]):=by kernel_rfl):Le m (bn S c Q cf):=by
 obtain⟨p,hp,hv⟩:=dK hL;simp only[ζc]at hv;refine pW hp ?_ h;rw[hv.1];exact MP hv.2
theorem Dj (n u:Nat) (s:Sl α) {m:Option β} (h:Le m (bn S c Q (nx S c n cf λp=>bV p.st p.d (.v (.int .i64 s.l.length)))))
 (hL:(eV S c n cf).map (λp=>(p.k,aW S.N p.st.g p.az,ai p.st.m u))=some (.p .lenSl,some [.own u],some (bZ s)):=by kernel_rfl):Le m (bn S c Q cf):=by
 obtain⟨p,hp,hv⟩:=dK hL;simp only[ζc]at hv;refine pW hp ?_ h;rw[hv.1];exact Ql hv.2.1 hv.2.2
theorem Q8 (n:Nat) {s:Sl α} {f:Bool->Option γ} (h:∀t,s.isNil=some t->Le ((f t).bind e) (bn S c Q (nx S c n cf λp=>bV p.st p.d (.v (.bool t)))))
 (hL:(eV S c n cf).map (λp=>(Lg p.k,aW S.N p.st.g p.az))=some (some .eql,some [.v (aU s),.v .aF]):=by kernel_rfl):Le ((s.isNil.bind f).bind e) (bn S c Q cf):=by
 obtain⟨p,hp,hv⟩:=dK hL;simp only[ζc]at hv;obtain⟨u,hk⟩:=N8 hv.1;refine uu hp ?_ h;rw[hk];exact Le.of_eq (NK hv.2)
theorem BW (n:Nat) (lo hi:Bool) (bs:List V) {s:Sl α} {a b:Option Int} {f:Sl α->Option γ} (h:∀x,eH s a b=some x->Le ((f x).bind e) (bn S c Q (nx S c n cf λp=>bV p.st p.d (.v (aU x)))))
 (hL:(eV S c n cf).map (λp=>(p.k,aW S.N p.st.g p.az,jK lo hi bs))=some (.p (.slice (aA.size α) lo hi),some (.v (aU s)::bs.map .v),some (a,b)):=by kernel_rfl):Le (((eH s a b).bind f).bind e) (bn S c Q cf):=by
 obtain⟨p,hp,hv⟩:=dK hL;simp only[ζc]at hv;obtain⟨h1,h2⟩:=gP hp;obtain⟨dr,fr,d,gd,now,k,az,dd,l,fs,st⟩:=p;obtain⟨rfl,h3,h4⟩:=hv;exact UH n dr fr (⟨d,gd,now,.p (.slice (aA.size α) lo hi),az,dd,[]⟩::l) fs st lo hi bs (sz:=aA.size α) rfl (by(try dsimp only at *);simp only[h1,h2,h3,h4]) λs' hs=>by
  have:=h s' hs;simp only[nx,hp]at this;exact this
theorem Sk (n:Nat) (lo hi:Bool) (u t:Nat) (bs:List V) {s:Sl α} {a b:Option Int} {f:Sl α->Option γ} (h:∀x,nh s a b=some x->Le ((f x).bind e) (bn S c Q (nx S c n cf λp=>{ p.st with g:=aO p.st.g t (.own t),m:=aO (cM u p.st.m) t (bZ x) })))
 (hL:(eV S c n cf).map (λp=>(p.d,p.k,p.dr,aW S.N p.st.g p.az,jK lo hi bs,ai p.st.m u,St.new { p.st with m:=cM u p.st.m } t))=some (some t,.p (.slice (aA.size α) lo hi),false,some (.own u::bs.map .v),some (a,b),some (bZ s),true):=by kernel_rfl):Le (((nh s a b).bind f).bind e) (bn S c Q cf):=by
 obtain⟨p,hp,hv⟩:=dK hL;simp only[ζc]at hv;obtain⟨h1,h2⟩:=gP hp;obtain⟨dr,fr,d,gd,now,k,az,dd,l,fs,st⟩:=p;obtain⟨rfl,rfl,rfl,h3,h4,h5,h6⟩:=hv;exact Sj n fr (⟨some t,gd,now,.p (.slice (aA.size α) lo hi),az,dd,[]⟩::l) fs st lo hi u bs (sz:=aA.size α) rfl h6 (by(try dsimp only at *);simp only[h1,h2,h3,h4,h5]) λs' hs=>by
  have:=h s' hs;simp only[nx,hp]at this;exact this
theorem dc (n u:Nat) (x:α) {m:Option β} (h:Le m (bn S c Q (nx S c n cf λp=>{ p.st with g:=aO p.st.g u (.ptr u 0),m:=aO p.st.m u (bx x) })))
 (hL:(eV S c n cf).map (λp=>(p.d,p.k,aW S.N p.st.g p.az,p.st.new u))=some (some u,.a .box,some [cv x],true):=by kernel_rfl):Le m (bn S c Q cf):=by
 obtain⟨p,hp,hv⟩:=dK hL;simp only[ζc]at hv;refine pW hp ?_ h;rw[hv.1,hv.2.1,yL,hv.2.2.1];simp only[ζb,hv.2.2.2,if_true,ni,gV,l_]
def M7 (u o sz:Nat) (xs:List SV) (p:CZ):St:=match ai p.st.m u with
 | some (.box cs)=>bV { p.st with m:=aO p.st.m u (.box (cs.take o++xs++cs.drop (o+sz))) } p.d (.v .undef)
 | _=>p.st
theorem me (n u o:Nat) (x:α) {m:Option β} (h:Le m (bn S c Q (nx S c n cf (M7 u o (aA.size α) ((cells x).map .v)))))
 (hL:(eV S c n cf).map (λp=>(p.k,aW S.N p.st.g p.az,(!p.dr||p.now),match ai p.st.m u with|some (.box cs)=>Nat.ble (o+aA.size α) cs.length|_=>false))=some (.l (.store (aA.size α)),some [.ptr u o,cv x],true,true):=by kernel_rfl):Le m (bn S c Q cf):=by
 obtain⟨p,hp,hv⟩:=dK hL;simp only[ζc]at hv;refine pW hp ?_ h;obtain⟨h1,h2,h3,h4⟩:=hv;split at h4
 .rename_i cs hcs;have h9:=Nat.le_of_ble_eq_true h4;rw[h1,qx,h2];simp only[ζb,h3,if_true,lp,hcs,putCells,gV,dh,l_,h9,and_self,Option.map_some,M7]
 .cases h4
theorem CO (n u:Nat) (xs:List α) {m:Option β} (h:Le m (bn S c Q (nx S c n cf λp=>{ p.st with g:=aO p.st.g u (.own u),m:=aO p.st.m u (bZ (.row xs)) })))
 (hL:(eV S c n cf).map (λp=>(p.d,Q4 p.k,aW S.N p.st.g p.az,p.st.new u))=some (some u,some (aA.size α,xs.length,List.range' 0 xs.length),some ((xs.map enc).map .v),true):=by kernel_rfl):Le m (bn S c Q cf):=by
 obtain⟨p,hp,hv⟩:=dK hL;simp only[ζc]at hv;obtain⟨h1,h2⟩:=gP hp;obtain⟨dr,fr,d,gd,now,k,az,dd,l,fs,st⟩:=p;obtain⟨rfl,h5,h3,h4⟩:=hv;obtain⟨z,rfl⟩:=PD h5;exact U0 n dr fr (⟨some u,gd,now,.a (.buildSl (aA.size α) xs.length z (List.range' 0 xs.length)),az,dd,[]⟩::l) fs st xs rfl h4 (by(try dsimp only at *);simp only[h1,h2,h3]) (by
  simp only[nx,hp]at h;exact h)
theorem Px (n:Nat) (x:α) (vs z:List V) (pl:List (Nat×Nat)) {m:Option β} (hp':jd z pl vs=some (cells x)) (ha:aA.agg α=true) (h:Le m (bn S c Q (nx S c n cf λp=>bV p.st p.d (cv x))))
 (hL:(eV S c n cf).map (λp=>(p.k,aW S.N p.st.g p.az))=some (.p (.build z pl),some (vs.map .v)):=by kernel_rfl):Le m (bn S c Q cf):=by
 obtain⟨p,hp,hv⟩:=dK hL;simp only[ζc]at hv;obtain⟨h1,h2⟩:=gP hp;obtain⟨dr,fr,d,gd,now,k,az,dd,l,fs,st⟩:=p;obtain⟨rfl,h3⟩:=hv;exact Ut n dr fr (⟨d,gd,now,.p (.build z pl),az,dd,[]⟩::l) fs st x vs rfl hp' ha (by(try dsimp only at *);simp only[h1,h2,h3]) (by
  simp only[nx,hp]at h;exact h)
end
theorem xK (n:Nat) (k:IntKind) {a:ByteArray} {b:Int} {f:Int->Option γ} (h:∀x,iV a b=some x->Le ((f x).bind e) (bn S c Q (nx S c n cf λp=>bV p.st p.d (.v (.int .u8 x)))))
 (hL:(eV S c n cf).map (λp=>(p.k,aW S.N p.st.g p.az))=some (.p .idxStr,some [.v (.str a),.v (.int k b)]):=by kernel_rfl):Le (((iV a b).bind f).bind e) (bn S c Q cf):=by
 obtain⟨p,hp,hv⟩:=dK hL;simp only[ζc]at hv;refine uu hp ?_ h;rw[hv.1];exact Le.of_eq (L5 hv.2)
section
variable {A:α->List V} {E:δ->List V} {pl:α->Option δ} {fn:FuncId} {sc:Bool}
theorem yM (n:Nat) (F:jk S c fn A E pl sc) (z:α) {f:δ->Option γ} (h:∀x,pl z=some x->Le ((f x).bind e) (bn S c Q (nx S c n cf λp=>bV p.st p.d (.v (result (E x))))))
 (hL:(eV S c n cf).map (λp=>(p.k,(aW S.N p.st.g p.az).bind oN,(!p.dr||p.now||fA p.st.m p.fr [])))=some (.c,some (fn,(A z).map .v),true):=by kernel_rfl):Le (((pl z).bind f).bind e) (bn S c Q cf):=by
 obtain⟨p,hp,hv⟩:=dK hL;simp only[ζc]at hv;obtain⟨h3,h4,h5⟩:=hv;obtain⟨svs,g1,g2⟩:=ζg.1 h4;have hnil:∀d (vs:List V),SV.cu d (vs.map .v)=false:=λd vs=>by
  induction vs with
  | nil=>rfl
  | cons a l ih=>simp only[List.map_cons,SV.cu,SV.bQ,ih,Bool.or_self]
 have ho:(!p.dr||p.now||fA p.st.m p.fr ((A z).map .v))=true:=by
  have:fA p.st.m p.fr ((A z).map .v)=fA p.st.m p.fr []:=by unfold fA;simp only[hnil];rfl
  rw[this];exact h5
 refine uu hp ?_ h;rw[h3];exact D2 (F.h z) F.k g1 g2 (DU _ _ _) (F.l z) ho (λr=>by rw[F.r,pV];simp)
theorem RI (n:Nat) (F:jk S c fn A E pl true) (z:α) {f:δ->Option γ} (h:∀x,pl z=some x->Le ((f x).bind e) (bn S c Q (nx S c n cf λp=>bV p.st p.d (.v (result (E x))))))
 (hL:(eV S c n cf).map (λp=>(p.k,((aW S.N p.st.g p.az).bind oN).bind λq=>(kR (fH p.st.m 8) q.2).map λvs=>(q.1,vs,((!p.dr||p.now)||fA p.st.m p.fr q.2))))=some (.c,some (fn,A z,true)):=by kernel_rfl):Le (((pl z).bind f).bind e) (bn S c Q cf):=by
 obtain⟨p,hp,hv⟩:=dK hL;simp only[ζc]at hv;obtain⟨h3,h4⟩:=hv;obtain⟨q,g1,g2⟩:=ζg.1 h4;obtain⟨svs,g3,g4⟩:=ζg.1 g1;obtain⟨vs,g5,g6⟩:=ζf.1 g2;simp only[ζc]at g6;obtain⟨e1,rfl,e3⟩:=g6;refine uu hp ?_ h;rw[h3];exact D2 (F.h z) F.k g3 (by rw[g4,<-e1]) g5 (F.l z) e3 (λr=>by rw[F.r,F.s rfl];rfl)
end
section
variable {N:Nat} [aA α]
theorem Ns (n:Nat) (k:IntKind) {a:aC N α} {i:Int} {f:α->Option γ} (h:∀x,a.at i=some x->Le ((f x).bind e) (bn S c Q (nx S c n cf λp=>bV p.st p.d (.v (.fptr (pa a i))))))
 (hL:(eV S c n cf).map (λp=>(p.k,aW S.N p.st.g p.az))=some (.p (.idxA N (aA.size α)),some [cp a,.v (.int k i)]):=by kernel_rfl):Le (((a.at i).bind f).bind e) (bn S c Q cf):=by
 obtain⟨p,hp,hv⟩:=dK hL;simp only[ζc]at hv;obtain⟨h1,h2⟩:=gP hp;obtain⟨dr,fr,d,gd,now,k',az,dd,l,fs,st⟩:=p;obtain⟨rfl,h3⟩:=hv;exact S6 n dr fr (⟨d,gd,now,.p (.idxA N (aA.size α)),az,dd,[]⟩::l) fs st k (sz:=aA.size α) (ln:=N) rfl (by(try dsimp only at *);simp only[h1,h2,h3]) λx hx=>by
  have:=h x hx;simp only[nx,hp]at this;exact this
theorem L4 (n k:Nat) (a:aC N α) (i:Int) (o:Nat) (x:α) (hx:a.at i=some x) {m:Option β} (h:Le m (bn S c Q (nx S c n cf λp=>bV p.st p.d (.v (.fptr ((pa a i).drop (o+k)))))))
 (hL:(eV S c n cf).map (λp=>(p.k,aW S.N p.st.g p.az,Nat.ble (o+k) (aA.size α)))=some (.p (.fieldAddr k),some [.v (.fptr ((pa a i).drop o))],true):=by kernel_rfl):Le m (bn S c Q cf):=by
 obtain⟨p,hp,hv⟩:=dK hL;simp only[ζc]at hv;obtain⟨h1,h2⟩:=gP hp;obtain⟨dr,fr,d,gd,now,k',az,dd,l,fs,st⟩:=p;obtain⟨rfl,h3,h4⟩:=hv;exact Ux n dr fr (⟨d,gd,now,.p (.fieldAddr k),az,dd,[]⟩::l) fs st a i o x hx rfl (by(try dsimp only at *);simp only[h1,h2,h3,h4]) (by
  simp only[nx,hp]at h;exact h)
theorem MY (n sz:Nat) (ag:Bool) (a:aC N α) (i:Int) (o:Nat) (x:α) (hx:a.at i=some x) (v:V) (hv:(cut (cells x) o sz).bind (mk ag)=some v) {m:Option β} (h:Le m (bn S c Q (nx S c n cf λp=>bV p.st p.d (.v v))))
 (hL:(eV S c n cf).map (λp=>(p.k,aW S.N p.st.g p.az))=some (.r (.load sz ag),some [.v (.fptr ((pa a i).drop o))]):=by kernel_rfl):Le m (bn S c Q cf):=by
 obtain⟨p,hp,hv'⟩:=dK hL;simp only[ζc]at hv';obtain⟨h1,h2⟩:=gP hp;obtain⟨dr,fr,d,gd,now,k',az,dd,l,fs,st⟩:=p;obtain⟨rfl,h3⟩:=hv';exact SX n dr fr (⟨d,gd,now,.r (.load sz ag),az,dd,[]⟩::l) fs st a i o x hx hv v rfl (by(try dsimp only at *);simp only[h1,h2,h3]) (by
  simp only[nx,hp]at h;exact h)
theorem rK (n u:Nat) (st:St) (len:Nat) (z:α) {m:Option β} (h4:st.new u=true) (h:Le m (bn S c Q (nx S c n cf λ_=>{ st with g:=aO st.g u (.ptr u 0),m:=aO st.m u (bx (aC.fZ len z)) })))
 (hL:(eV S c n cf).map (λp=>(p.d,Ng p.k,aW S.N p.st.g p.az,p.st))=some (some u,some (cells (aC.fZ len z)),some [],st):=by kernel_rfl):Le m (bn S c Q cf):=by
 obtain⟨p,hp,hv⟩:=dK hL;simp only[ζc]at hv;obtain⟨k,hk⟩:=Ju hv.2.1;refine pW hp ?_ h;rw[hv.1,hk,yL,hv.2.2.1,hv.2.2.2];simp only[ζb,h4,if_true,ni]
theorem QZ (n u:Nat) (st:St) (cs:List SV) {m:Option β} (h4:st.new u=true) (h:Le m (bn S c Q (nx S c n cf λ_=>{ st with g:=aO st.g u (.ptr u 0),m:=aO st.m u (.box cs) })))
 (hL:(eV S c n cf).map (λp=>(p.d,(Ng p.k).map (λz=>z.map SV.v),aW S.N p.st.g p.az,p.st))=some (some u,some cs,some [],st):=by kernel_rfl):Le m (bn S c Q cf):=by
 obtain⟨p,hp,hv⟩:=dK hL;simp only[ζc]at hv;obtain⟨z,hz,hz2⟩:=dK hv.2.1;obtain⟨k,hk⟩:=Ju hz;refine pW hp ?_ h;rw[hv.1,hk,yL,hv.2.2.1,hv.2.2.2];simp only[ζb,h4,if_true,ni,hz2]
theorem gL (n:Nat) (k:IntKind) (u:Nat) {a:aC N α} {i:Int} {f:α->Option γ} (h:∀x,a.at i=some x->Le ((f x).bind e) (bn S c Q (nx S c n cf λp=>bV p.st p.d (.ptr u (i.toNat*aA.size α+0)))))
 (hL:(eV S c n cf).map (λp=>(p.k,aW S.N p.st.g p.az,ai p.st.m u))=some (.p (.idxA N (aA.size α)),some [.ptr u 0,.v (.int k i)],some (bx a)):=by kernel_rfl):Le (((a.at i).bind f).bind e) (bn S c Q cf):=by
 obtain⟨p,hp,hv⟩:=dK hL;simp only[ζc]at hv;obtain⟨h1,h2⟩:=gP hp;obtain⟨dr,fr,d,gd,now,k',az,dd,l,fs,st⟩:=p;obtain⟨rfl,h3,h4⟩:=hv;exact Sx n dr fr (⟨d,gd,now,.p (.idxA N (aA.size α)),az,dd,[]⟩::l) fs st k u (sz:=aA.size α) (ln:=N) rfl (by(try dsimp only at *);simp only[h1,h2,h3,h4]) λx hx=>by
  have:=h x hx;simp only[nx,hp]at this;exact this
theorem qQ (n sz:Nat) (ag:Bool) (u:Nat) (a:aC N α) (i:Int) (o:Nat) (x:α) (hx:a.at i=some x) (v:V) (hv:(cut (cells x) o sz).bind (mk ag)=some v) {m:Option β} (h:Le m (bn S c Q (nx S c n cf λp=>bV p.st p.d (.v v))))
 (hL:(eV S c n cf).map (λp=>(p.k,aW S.N p.st.g p.az,ai p.st.m u,(!p.dr||p.now||c6 p.fr [.ptr u 0])))=some (.r (.load sz ag),some [.ptr u (i.toNat*aA.size α+o)],some (bx a),true):=by kernel_rfl):Le m (bn S c Q cf):=by
 obtain⟨p,hp,hv'⟩:=dK hL;simp only[ζc]at hv';obtain⟨h1,h2⟩:=gP hp;obtain⟨dr,fr,d,gd,now,k',az,dd,l,fs,st⟩:=p;obtain⟨rfl,h3,h4,h5⟩:=hv';exact R7 n dr fr (⟨d,gd,now,.r (.load sz ag),az,dd,[]⟩::l) fs st u a i o x hx hv v rfl (by(try dsimp only at *);simp only[h1,h2,h3,h4,h5]) (by
  simp only[nx,hp]at h;exact h)
theorem uf (n sz u:Nat) (a:aC N α) (i:Int) (o:Nat) (x:α) (hx:a.at i=some x) (y:α) (v:V) (hy:cells y=(cells x).take o++v.cells++(cells x).drop (o+sz)) {m:Option β} (h:Le m (bn S c Q (nx S c n cf λp=>bV { p.st with m:=aO p.st.m u (bx (a.set i y)) } p.d (.v .undef))))
 (hL:(eV S c n cf).map (λp=>(p.k,aW S.N p.st.g p.az,ai p.st.m u,(!p.dr||p.now),v.cells.length,v.cells.all V.one,Nat.ble (o+sz) (aA.size α)))=some (.l (.store sz),some [.ptr u (i.toNat*aA.size α+o),.v v],some (bx a),true,sz,true,true):=by kernel_rfl):Le m (bn S c Q cf):=by
 obtain⟨p,hp,hv'⟩:=dK hL;simp only[ζc]at hv';obtain⟨h1,h2⟩:=gP hp;obtain⟨dr,fr,d,gd,now,k',az,dd,l,fs,st⟩:=p;obtain⟨rfl,h3,h4,h5,h6,h7,h8⟩:=hv';exact Np n dr fr (⟨d,gd,now,.l (.store sz),az,dd,[]⟩::l) fs st u a i o x hx y v hy rfl (by(try dsimp only at *);simp only[h1,h2,h3,h4,h5,h6,h7,h8]) (by
  simp only[nx,hp]at h;exact h)
end
section
variable {κ ν:Type} [aA κ] [DecidableEq κ] [Key κ] [aA ν]
theorem SZ (n u:Nat) (mp:Mo κ ν) (k:κ) (z:ν) {m:Option β} (h:Le m (bn S c Q (nx S c n cf λp=>bV p.st p.d (cv (nN mp k z)))))
 (hL:(eV S c n cf).map (λp=>(p.k,aW S.N p.st.g p.az,ai p.st.m u,(!p.dr||p.now||c6 p.fr [.mp u,cv k])))=some (.r (.lookup (Key.kk κ) (enc z) false),some [.mp u,cv k],some (qV mp),true):=by kernel_rfl):Le m (bn S c Q cf):=by
 obtain⟨p,hp,hv⟩:=dK hL;simp only[ζc]at hv;obtain⟨h1,h2⟩:=gP hp;obtain⟨dr,fr,d,gd,now,k',az,dd,l,fs,st⟩:=p;obtain⟨rfl,h3,h4,h5⟩:=hv;exact SG n dr fr (⟨d,gd,now,.r (.lookup (Key.kk κ) (enc z) false),az,dd,[]⟩::l) fs st u mp k z rfl (by(try dsimp only at *);simp only[h1,h2,h3,h4,h5]) (by
  simp only[nx,hp]at h;exact h)
theorem P4 (n u:Nat) (mp:Mo κ ν) (k:κ) (v:ν) {m:Option β} (h:Le m (bn S c Q (nx S c n cf λp=>bV { p.st with m:=aO p.st.m u (qV (nL mp k v)) } p.d (.v .undef))))
 (hL:(eV S c n cf).map (λp=>(p.k,aW S.N p.st.g p.az,ai p.st.m u,(!p.dr||p.now)))=some (.l (.mapUp (Key.kk κ)),some [.mp u,cv k,cv v],some (qV mp),true):=by kernel_rfl):Le m (bn S c Q cf):=by
 obtain⟨p,hp,hv'⟩:=dK hL;simp only[ζc]at hv';obtain⟨h1,h2⟩:=gP hp;obtain⟨dr,fr,d,gd,now,k',az,dd,l,fs,st⟩:=p;obtain⟨rfl,h3,h4,h5⟩:=hv';exact UE n dr fr (⟨d,gd,now,.l (.mapUp (Key.kk κ)),az,dd,[]⟩::l) fs st u mp k v rfl (by(try dsimp only at *);simp only[h1,h2,h3,h4,h5]) (by
  simp only[nx,hp]at h;exact h)
end
theorem SO (n:Nat) (st:St) {rs:List RV} {e:γ->Option (List V)} {r:γ} (svs:List SV) {ys:List V} (h2:kR (fH st.m 8) svs=some ys) (h3:e r=some ys)
 (h:(fM S c n cf.1 cf.2.1 cf.2.2).map (λq=>(q.1,q.2.2,mN q.2.2 rs))=some (.rt,st,some svs):=by kernel_rfl):Le ((some r).bind e) (bn S c (oV rs) cf):=by
 obtain⟨⟨fo,fs,st'⟩,hp,hv⟩:=dK h;simp only[ζc]at hv;obtain⟨rfl,rfl,h5⟩:=hv;exact M6 n svs h2 (by rw[hp,h5]) h3
end
end Go.VE
namespace Go.VE
variable [aS]
section
variable {S:Sys} {c:bG} {β γ δ α:Type} [aA α] {Q:Out×St->Option β} {e:γ->Option β} {cf:Cf}
def kO (s x:Sl α):Option (Sl α):=if x.l=[]then some s else if s.l.length+x.l.length<=2147483648 then some (.row (s.l++x.l))else none
theorem NQ (m:Tb aL) (n w:Nat) (x:Sl α) (hn:n=aA.size α) (hw:ai m w=some (bZ x)):jf m n (.own w)=some (rows x.l):=by
 rw[B4,hw,yG n x hn]
theorem EF (l:List α):rows l=[]↔l=[]:=by unfold rows;simp
theorem L_ (a b:List α):rows a++rows b=rows (a++b):=by unfold rows;simp
theorem DC (a:List α):(rows a).length=a.length:=by unfold rows;simp
theorem Qs {st:St} {dr now:Bool} {fr:List Nat} {az:List Arg} {d n o:Nat} {s x:Sl α} {sx:SV} (hs:aW S.N st.g az=some [.own o,sx]) (hd:(!dr||now)=true) (ho:ai st.m o=some (bZ s)) (hx:jf st.m n sx=some (rows x.l)) (hn:n=aA.size α) (hw:St.new { st with m:=cM o st.m } d=true) :
 d_ S c dr fr ⟨some d,none,now,.l (.append n),az,[],[]⟩ st=(kO s x).bind λs'=>some { st with g:=aO st.g d (.own d),m:=aO (cM o st.m) d (bZ s') }:=by
 rw[qx,hs];simp only[ζb,hd,if_true,xT,NQ st.m n o s hn ho,hx];unfold kO
 by_cases h:x.l=[]
 .rw[if_pos h,(EF x.l).2 h];simp only[qa,ho,if_pos hw,ζb];rfl
 .rw[if_neg h];have hr:rows x.l≠[]:=λe=>h ((EF _).1 e)
  have ha:qa st d n (.own o) (some (rows s.l)) (some (rows x.l))=if(rows s.l).length+(rows x.l).length<=2147483648/\zN (.own o)=true then(if St.new { st with m:=giveUp st.m (.own o) } d then some (.own d,{ st with m:=aO (giveUp st.m (.own o)) d (.sl .row n (rows s.l++rows x.l)) })else none)else none:=by
   unfold qa;generalize rows x.l=r at *
   cases r with
   | nil=>exact absurd rfl hr
   | cons y r=>rfl
  rw[ha,DC,DC,L_]
  by_cases hl:s.l.length+x.l.length<=2147483648
  .rw[if_pos ⟨hl,rfl⟩,if_pos (show St.new { st with m:=giveUp st.m (.own o) } d=true from hw),if_pos hl];rw[ζb,ζb,hn];rfl
  .rw[if_neg (λk=>hl k.1),if_neg hl];rfl
theorem SP (n o u:Nat) (sx:SV) {s x:Sl α} {f:Sl α->Option γ} (hx:∀p,eV S c n cf=some p->jf p.st.m (aA.size α) sx=some (rows x.l))
 (h:∀s',kO s x=some s'->Le ((f s').bind e) (bn S c Q (nx S c n cf λp=>{ p.st with g:=aO p.st.g u (.own u),m:=aO (cM o p.st.m) u (bZ s') })))
 (hL:(eV S c n cf).map (λp=>(p.d,p.k,aW S.N p.st.g p.az,(!p.dr||p.now),ai p.st.m o,St.new { p.st with m:=cM o p.st.m } u))=some (some u,.l (.append (aA.size α)),some [.own o,sx],true,some (bZ s),true):=by kernel_rfl):Le (((kO s x).bind f).bind e) (bn S c Q cf):=by
 obtain⟨p,hp,hv⟩:=dK hL;simp only[ζc]at hv;refine uu hp ?_ h;rw[hv.1,hv.2.1];exact Le.of_eq (Qs hv.2.2.1 hv.2.2.2.1 hv.2.2.2.2.1 (hx p hp) rfl hv.2.2.2.2.2)
theorem Hf (m:Tb aL) (x:Sl α):jf m (aA.size α) (.v (aU x))=some (rows x.l):=by
 cases x <;> simp[aU,Sl.k,Sl.l,mA,jf,rows]
theorem vq (n o u:Nat) {s x:Sl α} {f:Sl α->Option γ}
 (h:∀s',kO s x=some s'->Le ((f s').bind e) (bn S c Q (nx S c n cf λp=>{ p.st with g:=aO p.st.g u (.own u),m:=aO (cM o p.st.m) u (bZ s') })))
 (hL:(eV S c n cf).map (λp=>(p.d,p.k,aW S.N p.st.g p.az,(!p.dr||p.now),ai p.st.m o,St.new { p.st with m:=cM o p.st.m } u))=some (some u,.l (.append (aA.size α)),some [.own o,.v (aU x)],true,some (bZ s),true):=by kernel_rfl):Le (((kO s x).bind f).bind e) (bn S c Q cf):=
 SP n o u _ (λp _=>Hf p.st.m x) h hL
end
end Go.VE
namespace Go.VE
variable [aS]
theorem pJ {α:Type} {l:List α} {i:Nat} {x:α} (h:l[i]? = some x):l.set i x=l:=by
 obtain⟨hi,rfl⟩:=ζe.1 h;exact List.set_getElem_self hi
open Classical in
noncomputable def Ae (E:Env) (g:FuncId) (cb:List V) (a b:V):Option V:=
 if h:∃n y,bl (run E n) g (a::b::cb) []=some y then some (Classical.choose (Classical.choose_spec h))else none
theorem BB {E:Env} {g:FuncId} {cb:List V} {a b y:V} (h:Ae E g cb a b=some y):∃n,∀k,n<=k->bl (run E k) g (a::b::cb) []=some y:=by
 unfold Ae at h;split at h
 .rename_i h1;cases h;exact⟨_,λk hk=>lV (mm E hk) (Classical.choose_spec (Classical.choose_spec h1))⟩
 .cases h
theorem Gj {E:Env} {g:FuncId} {cb:List V} {a b y:V} {n:Nat} (h:bl (run E n) g (a::b::cb) []=some y):Ae E g cb a b=some y:=by
 have h1:∃n y,bl (run E n) g (a::b::cb) []=some y:=⟨n,y,h⟩
 cases hc:Ae E g cb a b with
 | none=>unfold Ae at hc;rw[dif_pos h1]at hc;cases hc
 | some z=>
  obtain⟨m,hm⟩:=BB hc;have:=hm _ (Nat.le_max_right n m);rw[lV (mm E (Nat.le_max_left n m)) h]at this;cases this;rfl
theorem BE {n:Nat} {p:_root_.Fin n->Nat->Prop} (h:∀i,∃N,∀k,N<=k->p i k):∃N,∀i k,N<=k->p i k:=by
 induction n with
 | zero=>exact⟨0,λi=>i.elim0⟩
 | succ n ih=>
  obtain⟨N,hN⟩:=ih (p:=λi=>p i.succ) λi=>h i.succ
  obtain⟨M,hM⟩:=h 0;refine⟨max N M,λi k hk=>?_⟩
  refine _root_.Fin.cases (hM k (by omega)) (λj=>hN j k (by omega)) i
def g_ (x:List V):V:=x.headD .undef
def pG (es:Nat) (xs:List (List V)):Bool:=es==1&&xs.all (λx=>x.length==1&&V.bU 8 x&&x.all V.one)&&decide (xs.length<=2147483648)
theorem wk {es:Nat} {xs:List (List V)} (h:pG es xs=true):es=1/\xs.length<=2147483648/\∀(i:Nat) x,xs[i]? = some x->x=[g_ x]/\(g_ x).lvl 8=true/\(g_ x).one=true:=by
 unfold pG at h;simp only[ζh,beq_iff_eq,List.all_eq_true,decide_eq_true_eq]at h;refine⟨h.1.1,h.2,λi x hx=>?_⟩
 obtain⟨⟨h1,h2⟩,h3⟩:=h.1.2 x (List.mem_of_getElem? hx);obtain⟨u,rfl⟩:=List.length_eq_one_iff.1 h1;simp only[V.bU,Bool.and_true]at h2;exact⟨rfl,h2,h3 u (by simp)⟩
section
variable {H:ak} {Z:Nat->Prop}
theorem Kr {es:Nat} {xs:List (List V)} (h:pG es xs=true) {rs:List (List V)} (hf:eG H Z xs rs):borrows 8 H rs.flatten=some (xs.map g_):=by
 induction xs generalizing rs with
 | nil=>have:=hf.1;simp at this;have:rs=[]:=List.eq_nil_of_length_eq_zero (by simpa using this.symm);subst this;rfl
 | cons x xs ih=>
  obtain⟨h1,h2,h3⟩:=wk h
  cases rs with
  | nil=>have:=hf.1;simp at this
  | cons r rs=>
   obtain⟨e,hl,_⟩:=h3 0 x rfl;have hx:=hf.2 0 x r rfl rfl;rw[e]at hx;obtain⟨u,us,rfl,hu,hus⟩:=hx.inv;rw[hus.bO];have hxs:pG es xs=true:=by
    unfold pG at h ⊢;simp only[List.all_cons,ζh,List.length_cons,decide_eq_true_eq]at h ⊢;exact⟨⟨h.1.1,h.1.2.2⟩,by omega⟩
   have:=ih hxs (rs:=rs) ⟨by have:=hf.1;simpa using this,λj a b ha hb=>hf.2 (j+1) a b ha hb⟩
   simp only[List.flatten_cons,List.singleton_append,List.map_cons];unfold borrows at this ⊢;simp only[iG,hu.borrow 8 hl,this]
theorem b9.borrows {xs ys:List V} (h:b9 H Z xs ys) (hl:V.bU 8 xs=true):borrows 8 H ys=some xs:=by
 induction xs generalizing ys with
 | nil=>rw[h.bO];rfl
 | cons x xs ih=>
  obtain⟨y,ys,rfl,h1,h2⟩:=h.inv;simp only[V.bU,ζh]at hl;have:=ih h2 hl.2;unfold Go.VE.borrows at this ⊢;simp only[iG,h1.borrow 8 hl.1,this]
end
noncomputable def qO (E:Env) (g:FuncId) (cb:List V) (a b:V):Option Int:=match Ae E g cb a b with|some (.int .i64 c)=>some c|_=>none
theorem K3 {E:Env} {g:FuncId} {cb:List V} {a b:V} {c:Int} (h:qO E g cb a b=some c):∃n,∀k,n<=k->bl (run E k) g (a::b::cb) []=some (.int .i64 c):=by
 unfold qO at h;split at h
 .rename_i c' hc;cases h;exact BB hc
 .cases h
noncomputable def xU (E:Env) (es:Nat) (xs:List (List V)):List V->Option (List (List V))
 | [.clo g [] cb]=>match xs with
  | []=>some []
  | x::l=>if pG es (x::l)&&V.bU 8 cb && !E.keep g then
   let t:_root_.Fin (l.length+1)->_root_.Fin (l.length+1)->Option Int:=λi j=>qO E g cb (g_ (((x::l)[i.1]?).getD [])) (g_ (((x::l)[j.1]?).getD []))
   if wo t then some ((ox l.length (nT t)).toList.map λi=>((x::l)[i.1]?).getD [])else none
   else none
 | _=>none
noncomputable def pQ (E:Env):Cq:=⟨false,xU E⟩
theorem A1 {n:Nat} {lt:_root_.Fin (n+1)->_root_.Fin (n+1)->Bool} (h:Sort.SWO lt):(ox n lt).size=n+1:=by
 rw[zD];have:=(Sort.pdq_sorts lt h (List.finRange (n+1)).toArray 0 (n+1) (Lib.bitLen (n+1)) true true (Nat.zero_le _) (by simp) (Or.inl rfl)).1.1
 simpa using this
theorem Lx {E:Env} {f:FuncId} (hk:E.keep f=true) (ho:E.own f=false) (hs:E.sort f=true) (hf:E.ft f=none):mI E f (pQ E) where
 keep:=hk
 own:=ho
 le:=by
  intro es xs vs ys h;simp only[pQ,xU]at h;split at h
  .split at h
   .cases h;exact⟨Nat.le_refl _,λ_=>rfl⟩
   .split at h
    .split at h
     .rename_i ht;cases h;have:=A1 (oH ht).2;simp only[List.length_map,Array.length_toList,List.length_cons,this];exact⟨Nat.le_refl _,λ_=>trivial⟩
     .cases h
    .cases h
  .cases h
 none:=by
  intro es vs ys h H Z ws w hw he;simp only[pQ,xU]at h;split at h
  .obtain⟨w2,r,rfl,h1,h2⟩:=hw.inv;rw[h2.bO];refine⟨1,[],λk hk=>?_⟩
   cases k with
   | zero=>omega
   | succ k=>rcases he with rfl|rfl <;> simp[run,hf,hs,nD,pQ]
  .cases h
 row:=by
  intro es xs vs ys h H Z ws id off rs hw hid hoff hfr hsol hz;simp only[pQ,xU]at h;split at h
  .rename_i g cb;obtain⟨w2,r,rfl,h1,h2⟩:=hw.inv;rw[h2.bO];obtain⟨a',cb',rfl,ha,hcb⟩:∃a' cb',w2=.clo g a' cb'/\b9 H Z [] a'/\b9 H Z cb cb':=h1.iL;rw[ha.bO]at *;split at h
   .cases h;refine⟨1,rs,[],λk hk=>?_,rfl,⟨rfl,λj u v hu=>by simp at hu⟩,hsol⟩
    cases k with
    | zero=>omega
    | succ k=>
     have:H.set id (.row es rs)=H:=pJ hid;simp[run,hf,hs,nD,pQ,this]
   .rename_i x l;split at h
    .rename_i hcnd;simp only[ζh,Bool.not_eq_true']at hcnd;obtain⟨⟨c1,c2⟩,c3⟩:=hcnd;obtain⟨rfl,hlen,hel⟩:=wk c1;split at h
     .rename_i ht;cases h;obtain⟨htot,hswo⟩:=oH ht;have hmono:∀i,Z i->Z i/\an (H.set id .dead) i=an H i:=λi hi=>⟨hi,by
       unfold an;rw[List.getElem?_set_ne];rintro rfl;exact hz hi⟩
      have hfr':=hfr.mono hmono;have hus:borrows 8 (H.set id .dead) ((rs.drop off).take (l.length+1)).flatten=some ((x::l).map g_):=Kr c1 hfr';have hcbs:=(hcb.mono hmono).borrows c2;obtain⟨N,hN⟩:=BE (p:=λi k=>∀j:_root_.Fin (l.length+1),bl (run E k) g (g_ (((x::l)[i.1]?).getD [])::g_ (((x::l)[j.1]?).getD [])::cb) []=some (.int .i64 ((qO E g cb (g_ (((x::l)[i.1]?).getD [])) (g_ (((x::l)[j.1]?).getD []))).getD 0))) (λi=>by
       obtain⟨N,hN⟩:=BE (p:=λ(j:_root_.Fin (l.length+1)) k=>bl (run E k) g (g_ (((x::l)[i.1]?).getD [])::g_ (((x::l)[j.1]?).getD [])::cb) []=some (.int .i64 ((qO E g cb (g_ (((x::l)[i.1]?).getD [])) (g_ (((x::l)[j.1]?).getD []))).getD 0))) (λj=>by
        obtain⟨c,hc⟩:=htot i j;obtain⟨n,hn⟩:=K3 hc;exact⟨n,λk hk=>by rw[hn k hk,hc];rfl⟩)
       exact⟨N,λk hk j=>hN j k hk⟩)
      have htab:∀k,N<=k->gD (run E k) g ((x::l).map g_) cb l.length=λi j=>qO E g cb (g_ (((x::l)[i.1]?).getD [])) (g_ (((x::l)[j.1]?).getD [])):=λk hk=>by
       funext i j
       obtain⟨c,hc⟩:=htot i j;have e1:∀i:_root_.Fin (l.length+1),((x::l).map g_)[i.1]? = some (g_ (((x::l)[i.1]?).getD [])):=λi=>by
        have:i.1<(x::l).length:=i.2;rw[List.getElem?_map,ζd this];rfl
       unfold gD;rw[e1 i,e1 j];simp only[hN i k hk j];rw[hc];rfl
      have hsz:=A1 hswo;generalize hL:(ox l.length (nT λi j:_root_.Fin (l.length+1)=>qO E g cb (g_ (((x::l)[i.1]?).getD [])) (g_ (((x::l)[j.1]?).getD [])))).toList=L at *
      have hLl:L.length=l.length+1:=by rw[<-hL];simpa using hsz
      simp only[List.length_cons]at hoff hfr hlen;refine⟨N+1,pN rs off l.length L,[],λk hk=>?_,?_,?_,?_⟩
      .cases k with
       | zero=>omega
       | succ k=>
        simp only[run,hf,hs,if_true,nD,hid,pQ,Bool.false_eq_true,if_false,List.length_cons];rw[if_pos ⟨trivial,trivial,hoff,by omega,c3⟩,hus,hcbs]
        simp only[htab k (by omega),ht,if_true,hL,List.append_nil]
      .simp[pN,hLl];omega
      .have e:((pN rs off l.length L).drop off).take (L.map λi=>((x::l)[i.1]?).getD []).length=L.map λi=>(rs[off+i.1]?).getD []:=by
        unfold pN;have h0:(rs.take off).length=off:=by simp;omega
        rw[List.append_assoc,List.drop_append_of_le_length (by omega),List.drop_eq_nil_of_le (by omega),List.nil_append,List.length_map,List.take_append_of_le_length (by simp),List.take_of_length_le (by simp)]
       rw[e];refine⟨by simp,λj a b ha hb=>?_⟩
       rw[List.getElem?_map]at ha hb;obtain⟨i,hi,rfl⟩:=ζf.1 ha;rw[hi]at hb;simp only[Option.map_some,ζa]at hb;subst hb;have hilt:i.1<(x::l).length:=i.2;have hr:off+i.1<rs.length:=by have:=i.2;omega
       refine hfr.2 i.1 _ _ (by rw[ζd hilt];rfl) ?_
       rw[List.getElem?_take,if_pos i.2,List.getElem?_drop,ζd hr];rfl
      .intro c hc u hu;unfold pN at hc;rcases List.mem_append.1 hc with hc|hc
       .rcases List.mem_append.1 hc with hc|hc
        .exact hsol c (List.mem_of_mem_take hc) u hu
        .obtain⟨i,_,rfl⟩:=List.mem_map.1 hc;have hr:off+i.1<rs.length:=by have:=i.2;omega
         rw[ζd hr]at hu;exact hsol _ (List.getElem_mem hr) u hu
       .exact hsol c (List.mem_of_mem_drop hc) u hu
     .cases h
    .cases h
  .cases h
end Go.VE
namespace Go.VE
variable [aS]
def au (N:Nat->FuncId) (F:Frame):Arg->V
 | .s n=>get F n
 | .k c=>c
 | .f s=>.clo (N s) [] []
def aD (E:Env) (N:Nat->FuncId) (call:cq) (b:Option Nat) (now:Bool) (k:K) (vs:List V) (H:ak):Option (V×ak):=
 match k,b with
 | .p p,_=>(aj N p vs).map λv=>(v,H)
 | .r r,none=>(dy H r vs).map λv=>(v,H)
 | .r r,some b=>(dy (H.take b) r vs).map λv=>(v,H)
 | .a a,none=>(iT a vs).map λx=>(x.2.val H.length,H++[x.1])
 | .l l,none=>dI H l vs
 | .l (.store n),some _=>if now then dI H (.store n) vs else none
 | .c,none=>match vs with
  | .clo g a c::av=>if E.keep g then dL E call g (a++av++c) H else match bl call g (a++av++c) H with
   | some y=>if y.scalar then some (y,H)else none
   | none=>none
  | _=>none
 | .c,some b=>match vs with
  | .clo g a c::av=>if E.keep g then none else match bl call g (a++av++c) (H.take b)with
   | some y=>if y.scalar then some (y,H)else none
   | none=>none
  | _=>none
 | _,_=>none
def aq (F:Frame):Option Nat->V->Frame
 | none,_=>F
 | some d,v=>set F d v
def bE (E:Env) (N:Nat->FuncId) (call:cq) (b:Option Nat):List RO->Frame->ak->Option (Frame×ak)
 | [],F,H=>some (F,H)
 | o::r,F,H=>match o.gd with
  | none=>match aD E N call b o.now o.k (o.az.map (au N F)) H with
   | some (v,H')=>bE E N call b r (aq F o.dst v) H'
   | none=>none
  | some _=>none
section
variable {X:CX} {N:Nat->FuncId} {call:cq} {F F':Frame} {H H':ak}
theorem Gt (hN:∀f s,X.nm f=some s->N s=f) {o:Operand} {x:Arg} (h:oT X.nm o=some x):ev F o=some (au N F x):=by
 cases o with
 | tmp t=>simp only[oT,ζa]at h;subst h;rfl
 | const w=>
  simp only[oT]at h;split at h
  .rename_i c hc;split at h
   .simp only[ζa]at h;subst h;exact hc
   .simp at h
  .simp at h
 | func f=>
  simp only[oT]at h;obtain⟨s,hs,rfl⟩:=ζf.1 h;show some (V.clo f [] [])=some (.clo (N s) [] []);rw[hN f s hs]
 | global i=>
  simp only[oT]at h;split at h
  .rename_i c hc;split at h
   .simp only[ζa]at h;subst h;simp only[ev,hc,Option.map_some];rfl
   .simp at h
  .simp at h
theorem DZ (hN:∀f s,X.nm f=some s->N s=f):∀{os:List Operand} {av:List Arg},os.mapM (oT X.nm)=some av->ec F os=some (av.map (au N F))
 | [],av,h=>by simp only[List.mapM_nil,Option.pure_def,ζa]at h;subst h;rfl
 | o::os,av,h=>by
  simp only[List.mapM_cons,Option.pure_def,Option.bind_eq_bind,ζg,ζa]at h;obtain⟨x,hx,xs,hxs,rfl⟩:=h;simp only[ec,Gt hN hx,DZ hN hxs,List.map_cons]
theorem xV (hN:∀f s,X.nm f=some s->N s=f) {draw:Bool} {ops:List Oper} {i:Nat} {o:Oper} {ro:RO} (h:lP X draw ops i o=some ro) (hg:ro.gd=none) :
 o.dst=ro.dst/\yh X.nt o.dst=true/\eR ops F o=true/\((G1 X.E N F o.op (ro.az.map (au N F)) ro.k/\ro.now=(draw&&cU ops i)/\(draw=true->cU ops i=false->∀a',nV ops i a'=[]\/∀t,o.op≠.load t (.tmp a')))\/(∃n,ro.k=.l (.storeF n))\/∃n a,ro.k=.r (.loadF n a)):=by
 unfold lP at h;split at h
 .rename_i hd;split at h
  .rename_i gd k os hgd hr;split at h
   .obtain⟨av,ha,rfl⟩:=ζf.1 h;simp only at hg;subst hg;refine⟨rfl,hd,?_,?_⟩
    .unfold eR;unfold Ir at hgd
     cases hgo:o.guard with
     | none=>rfl
     | some jb=>
      rw[hgo]at hgd;obtain⟨j,b⟩:=jb;obtain⟨d,_,e⟩:=ζf.1 hgd;cases e
    .rcases Bl draw ops i k os with⟨e,hqr⟩|⟨_,_,n,a,l,os',_,_,_,e⟩|⟨_,_,n,ag,a,_,_,e⟩
     .rw[e]at ha ⊢;refine .inl ⟨qJ hN hr (DZ hN ha),rfl,λhd hl a'=>?_⟩
      by_cases hp:∃t,o.op=.load t (.tmp a')
      .obtain⟨t,hp⟩:=hp;rw[hp]at hr;simp only[resolve]at hr;obtain⟨d,_,e⟩:=ζf.1 hr;simp only[ζc]at e;exact .inl (hqr _ _ a' hd hl e.1.symm e.2.symm)
      .exact .inr λt h=>hp ⟨t,h⟩
     .rw[e];exact .inr (.inl ⟨n,rfl⟩)
     .rw[e];exact .inr (.inr ⟨n,ag,rfl⟩)
   .simp at h
  .simp at h
 .simp at h
theorem DE {nt:Nat} {dst:Option Nat} (h:yh nt dst=true) (v:V):ij nt F dst v=some (aq F dst v):=by
 cases dst with
 | none=>rfl
 | some d=>simp only[yh,decide_eq_true_eq]at h;simp only[ij,if_pos h,aq]
theorem Ra (hN:∀f s,X.nm f=some s->N s=f) {ops:List Oper} {i:Nat} {o:Oper} {ro:RO} (h:lP X false ops i o=some ro) (hg:ro.gd=none) {v:V} (hv:aD X.E N call none ro.now ro.k (ro.az.map (au N F)) H=some (v,H')) :
 eB X.E call X.nt ops none o F H=some (aq F ro.dst v,H'):=by
 obtain⟨h1,h2,h3,h4⟩:=xV (F:=F) hN h hg;have hd:cK X.E call ops none F H o.op=some (v,H'):=by
  rcases h4 with⟨h4,_⟩|⟨n,h4⟩|⟨n,a,h4⟩
  .generalize hk:ro.k=k at hv h4;generalize ro.az.map (au N F)=vs at hv h4;unfold cK
   cases k with
   | p p=>
    obtain⟨c,e⟩:=h4;obtain⟨w,hw,he⟩:=ζf.1 hv;rw[c];simp only[e w hw,Option.map_some];rw[he]
   | r r=>
    obtain⟨c,e⟩:=h4;obtain⟨w,hw,he⟩:=ζf.1 hv;rw[c];simp only[e H w hw,Option.map_some];rw[he]
   | a a=>
    obtain⟨c,e⟩:=h4;obtain⟨⟨ob,m⟩,hw,he⟩:=ζf.1 hv;rw[c];simp only[e _ hw];exact congrArg some he
   | l l=>
    obtain⟨c,e⟩:=h4;rw[c];exact e H _ hv
   | c=>
    obtain⟨c,f,av,rfl,e⟩:=h4;rw[c];simp only[aD]at hv;split at hv
    .rename_i g a b az' heq;simp only[List.cons.injEq]at heq;obtain⟨rfl,rfl⟩:=heq;split at hv
     .rename_i hk2;simp only[e,ku,hk2,Bool.and_self,if_true];exact hv
     .rename_i hk2;split at hv
      .rename_i y hy;split at hv
       .rename_i hsc;simp only[e,ku,hk2,Bool.false_and,Bool.false_eq_true,if_false,hy,hsc,if_true];exact hv
       .simp at hv
      .simp at hv
    .simp at hv
  .rw[h4]at hv;exfalso;have:∀ops i k os,(tY false ops i k os).1=k:=λ_ _ _ _=>rfl
   unfold lP at h;split at h
   .split at h
    .rename_i gd k os hgd hr;split at h
     .obtain⟨av,ha,rfl⟩:=ζf.1 h;simp only[this]at h4;subst h4;unfold resolve at hr
      (repeat' split at hr) <;> first|(simp at hr;done)|(obtain⟨_,_,e⟩:=ζf.1 hr;simp at e;done)
     .simp at h
    .simp at h
   .first|(simp at h;done)|contradiction
  .rw[h4]at hv;simp[aD,dy]at hv
 unfold eB;rw[h3,if_pos rfl,hd];simp only[h1,DE (h1▸h2),Option.map_some]
theorem EJ (hN:∀f s,X.nm f=some s->N s=f) {ops:List Oper}:∀(rest:List Oper) {i:Nat} {ros:List RO} {F:Frame} {H:ak},jH X false ops i rest=some ros->bE X.E N call none ros F H=some (F',H')->kB X.E call X.nt ops rest F H=some (F',H')
 | [],i,ros,F,H,hc,h=>by
  simp only[jH,ζa]at hc;subst hc;exact h
 | o::rest,i,ros,F,H,hc,h=>by
  simp only[jH]at hc;split at hc
  .rename_i ro rs h1 h2;simp only[ζa]at hc;subst hc;simp only[bE]at h;split at h
   .rename_i hg;split at h
    .rename_i v H1 hv;simp only[kB,Ra hN h1 hg hv];exact EJ hN rest h2 h
    .simp at h
   .simp at h
  .simp at hc
theorem Ox {ops:List Oper} {i:Nat} {op:Op} (h:∀t a',op=.load t (.tmp a')->nV ops i a'=[]):lT ops i F op=true:=by
 unfold lT;split
 .rw[h _ _ rfl];rfl
 .rfl
theorem Q2 (hN:∀f s,X.nm f=some s->N s=f) {ops:List Oper} {b i:Nat} {o:Oper} (ho:ops[i]? = some o) {ro:RO} (h:lP X true ops i o=some ro) (hg:ro.gd=none) {v:V} (hv:aD X.E N call (some b) ro.now ro.k (ro.az.map (au N F)) H=some (v,H')) :
 eB X.E call X.nt ops (some (b,i)) o F H=some (aq F ro.dst v,H'):=by
 obtain⟨h1,h2,h3,h4⟩:=xV (F:=F) hN h hg;have hd:cK X.E call ops (some (b,i)) F H o.op=some (v,H'):=by
  rcases h4 with⟨h4,hnow,hfar⟩|⟨n,h4⟩|⟨n,a,h4⟩
  .generalize hk:ro.k=k at hv h4;generalize ro.az.map (au N F)=vs at hv h4;unfold cK
   cases k with
   | p p=>
    obtain⟨c,e⟩:=h4;obtain⟨w,hw,he⟩:=ζf.1 hv;rw[c];simp only[e w hw,Option.map_some];rw[he]
   | r r=>
    obtain⟨c,e⟩:=h4;obtain⟨w,hw,he⟩:=ζf.1 hv;have hfr:lT ops i F o.op=true:=Ox λt a' e=>by
     by_cases hl:cU ops i=true
     .exact A2 ho e hl
     .rcases hfar rfl (by simpa using hl) a' with h|h
      .exact h
      .exact absurd e (h t)
    rw[c];simp only[e _ w hw,hfr,if_true];rw[he]
   | a a=>simp[aD]at hv
   | l l=>
    obtain⟨c,e⟩:=h4
    cases l with
    | store n=>
     simp only[aD]at hv;split at hv
     .rename_i hn;rw[hnow,Bool.true_and]at hn;rw[c];simp only[hn,Bool.true_or,if_true];exact e H _ hv
     .simp at hv
    | _=>simp[aD]at hv
   | c=>
    obtain⟨c,f,av,rfl,e⟩:=h4;rw[c];simp only[aD]at hv;split at hv
    .rename_i g a b az' heq;simp only[List.cons.injEq]at heq;obtain⟨rfl,rfl⟩:=heq;split at hv
     .simp at hv
     .rename_i hk2;split at hv
      .rename_i y hy;split at hv
       .rename_i hsc;simp only[e,ku,hk2,Bool.false_and,Bool.false_eq_true,if_false,hy,hsc,if_true];exact hv
       .simp at hv
      .simp at hv
    .simp at hv
  .rw[h4]at hv;simp[aD]at hv
  .rw[h4]at hv;simp[aD,dy]at hv
 unfold eB;rw[h3,if_pos rfl,hd];simp only[h1,DE (h1▸h2),Option.map_some]
theorem DN (hN:∀f s,X.nm f=some s->N s=f) {ops:List Oper} {b:Nat}:∀(rest:List Oper) {i:Nat} {ros:List RO} {F:Frame} {H:ak},ops.drop i=rest->jH X true ops i rest=some ros->bE X.E N call (some b) ros F H=some (F',H') ->
 gW X.E call X.nt ops b (List.range' i rest.length) F H=some (F',H')
 | [],i,ros,F,H,_,hc,h=>by
  simp only[jH,ζa]at hc;subst hc;exact h
 | o::rest,i,ros,F,H,hd,hc,h=>by
  simp only[jH]at hc;split at hc
  .rename_i ro rs h1 h2;simp only[ζa]at hc;subst hc;simp only[bE]at h;split at h
   .rename_i hg;split at h
    .rename_i v H1 hv;have ho:ops[i]? = some o:=by
      have:(ops.drop i)[0]? = some o:=by rw[hd];rfl
      rwa [List.getElem?_drop,Nat.add_zero]at this
     have hd':ops.drop (i+1)=rest:=by
      rw[<-List.drop_drop,hd];rfl
     simp only[List.length_cons,List.range'_succ,gW,ho,Q2 hN ho h1 hg hv];exact DN hN rest hd' h2 h
    .simp at h
   .simp at h
  .simp at hc
def vm (l:List RO):Bool:=l.all λo=>(match o.k with|.a _|.l (.storeF _)|.r (.loadF ..)=>false|_=>true)&&o.gd.isNone
theorem AG (hN:∀f s,X.nm f=some s->N s=f) {ops:List Oper}:∀(rest:List Oper) {i:Nat} {ros:List RO},jH X true ops i rest=some ros->vm ros=true->rest.any (λo=>dn o.op==.alloc)=false
 | [],_,_,_,_=>rfl
 | o::rest,i,ros,hc,hn=>by
  simp only[jH]at hc;split at hc
  .rename_i ro rs h1 h2;simp only[ζa]at hc;subst hc;simp only[vm,List.all_cons,ζh,Option.isNone_iff_eq_none]at hn;obtain⟨_,_,_,h4⟩:=xV (F:=[]) hN h1 hn.1.2;rw[List.any_cons,AG hN rest h2 hn.2,Bool.or_false];rcases h4 with⟨h4,_⟩|⟨n,h4⟩|⟨n,a,h4⟩
   .cases hk:ro.k with
    | a p=>have:=hn.1.1;rw[hk]at this;cases this
    | _=>rw[hk]at h4;rw[h4.1];rfl
   .have:=hn.1.1;rw[h4]at this;cases this
   .have:=hn.1.1;rw[h4]at this;cases this
  .simp at hc
def fF (E:Env) (N:Nat->FuncId) (call:cq) (lf:Nat):RC->Frame->ak->Option (Out×Frame×ak)
 | .skip,F,H=>some (.norm,F,H)
 | .ops l,F,H=>(bE E N call none l F H).map λx=>(.norm,x.1,x.2)
 | .mB l,F,H=>if vm l then(bE E N call (some H.length) l F H).map λx=>(.norm,x.1,x.2)else none
 | .seq a b,F,H=>match fF E N call lf a F H with
  | some (.norm,F',H')=>fF E N call lf b F' H'
  | r=>r
 | .cond x a b,F,H=>match au N F x with
  | .bool t=>if t then fF E N call lf a F H else fF E N call lf b F H
  | _=>none
 | .block id c,F,H=>match fF E N call lf c F H with
  | some (.exit id',F',H')=>if id'=id then some (.norm,F',H')else some (.exit id',F',H')
  | r=>r
 | .loop c,F,H=>ja (fF E N call lf c) lf F H
 | .exit id,F,H=>some (.exit id,F,H)
 | .ret,F,H=>some (.ret,F,H)
 | _,_,_=>none
theorem EY {f g:Frame->ak->Option (Out×Frame×ak)} (h:∀F H r,f F H=some r->g F H=some r):∀(k:Nat) (F:Frame) (H:ak) (r:Out×Frame×ak),ja f k F H=some r->ja g k F H=some r
 | 0,F,H,r,hr=>by simp[ja]at hr
 | k+1,F,H,r,hr=>by
  simp only[ja]at hr ⊢
  cases hf:f F H with
  | none=>rw[hf]at hr;simp at hr
  | some q=>
   rw[hf]at hr;rw[h F H q hf];obtain⟨o,F1,H1⟩:=q
   cases o with
   | norm=>exact EY h k F1 H1 r hr
   | exit _=>exact hr
   | ret=>exact hr
theorem LY (hN:∀f s,X.nm f=some s->N s=f) {lf:Nat}:∀(rc:RC) (code:Code) (F:Frame) (H:ak) (r:Out×Frame×ak),aJ X false code=some rc->fF X.E N call lf rc F H=some r->exec X.E call lf false X.nt code F H=some r:=by
 intro rc
 induction rc with
 | skip=>
  intro code F H r hc h;simp only[fF,ζa]at h;subst h
  cases code with
  | skip=>rfl
  | label _=>rfl
  | region id ops draw=>simp only[aJ]at hc;(repeat' split at hc) <;> first|(simp at hc;done)|(obtain⟨_,_,e⟩:=ζf.1 hc;cases e)
  | _=>simp only[aJ]at hc;(repeat' split at hc) <;> first|(simp at hc;done)|(obtain⟨_,_,e⟩:=ζf.1 hc;cases e)|cases hc
 | ops l=>
  intro code F H r hc h
  cases code with
  | region id ops draw=>
   simp only[aJ]at hc;split at hc
   .split at hc
    .obtain⟨_,_,e⟩:=ζf.1 hc;cases e
    .simp at hc
   .rename_i hd;obtain⟨l',hl,e⟩:=ζf.1 hc;cases e;simp only[fF]at h;obtain⟨⟨F',H'⟩,hv,rfl⟩:=ζf.1 h;simp only[exec,gX,hd];rw[if_neg (by simp),EJ hN _ hl hv];rfl
  | _=>simp only[aJ]at hc;(repeat' split at hc) <;> first|(simp at hc;done)|(obtain⟨_,_,e⟩:=ζf.1 hc;cases e)|cases hc
 | mB l=>
  intro code F H r hc h
  cases code with
  | region id ops draw=>
   simp only[aJ]at hc;split at hc
   .rename_i hd;split at hc
    .rename_i hok;obtain⟨l',hl,e⟩:=ζf.1 hc;cases e;simp only[fF]at h;split at h
     .rename_i hn;obtain⟨⟨F',H'⟩,hv,rfl⟩:=ζf.1 h;have ha:pY ops.toList=false:=AG hN _ hl hn;have:=DN hN ops.toList (i:=0) rfl hl hv;rw[<-List.range_eq_range']at this;simp only[exec,gX,hd,hok,if_true,ha,Bool.false_eq_true,if_false,this];rfl
     .simp at h
    .simp at hc
   .obtain⟨_,_,e⟩:=ζf.1 hc;cases e
  | _=>simp only[aJ]at hc;(repeat' split at hc) <;> first|(simp at hc;done)|(obtain⟨_,_,e⟩:=ζf.1 hc;cases e)|cases hc
 | seq a b iha ihb=>
  intro code F H r hc h
  cases code with
  | seq a' b'=>
   simp only[aJ]at hc;split at hc
   .rename_i x y hx hy;cases hc;simp only[fF]at h;simp only[exec]
    cases hva:fF X.E N call lf a F H with
    | none=>rw[hva]at h;simp at h
    | some q=>
     rw[hva]at h;rw[iha a' F H q hx hva];obtain⟨o,F1,H1⟩:=q
     cases o with
     | norm=>exact ihb b' F1 H1 r hy h
     | exit _=>exact h
     | ret=>exact h
   .simp at hc
  | region id ops draw=>simp only[aJ]at hc;(repeat' split at hc) <;> first|(simp at hc;done)|(obtain⟨_,_,e⟩:=ζf.1 hc;cases e)
  | _=>simp only[aJ]at hc;(repeat' split at hc) <;> first|(simp at hc;done)|(obtain⟨_,_,e⟩:=ζf.1 hc;cases e)|cases hc
 | cond x a b iha ihb=>
  intro code F H r hc h
  cases code with
  | cond c a' b'=>
   simp only[aJ]at hc;split at hc
   .rename_i x' y z hx hy hz;cases hc;simp only[fF]at h;simp only[exec,Gt (F:=F) hN hx];split at h
    .rename_i t ht;rw[ht]
     cases t with
     | true=>simp only[if_true]at h ⊢;exact iha a' F H r hy h
     | false=>simp only[Bool.false_eq_true,if_false]at h ⊢;exact ihb b' F H r hz h
    .simp at h
   .simp at hc
  | region id ops draw=>simp only[aJ]at hc;(repeat' split at hc) <;> first|(simp at hc;done)|(obtain⟨_,_,e⟩:=ζf.1 hc;cases e)
  | _=>simp only[aJ]at hc;(repeat' split at hc) <;> first|(simp at hc;done)|(obtain⟨_,_,e⟩:=ζf.1 hc;cases e)|cases hc
 | block id c ih=>
  intro code F H r hc h
  cases code with
  | block id' c'=>
   simp only[aJ]at hc;obtain⟨x,hx,e⟩:=ζf.1 hc;cases e;simp only[fF]at h;simp only[exec]
   cases hva:fF X.E N call lf c F H with
   | none=>rw[hva]at h;simp at h
   | some q=>
    rw[hva]at h;rw[ih c' F H q hx hva];exact h
  | region id ops draw=>simp only[aJ]at hc;(repeat' split at hc) <;> first|(simp at hc;done)|(obtain⟨_,_,e⟩:=ζf.1 hc;cases e)
  | _=>simp only[aJ]at hc;(repeat' split at hc) <;> first|(simp at hc;done)|(obtain⟨_,_,e⟩:=ζf.1 hc;cases e)|cases hc
 | loop c ih=>
  intro code F H r hc h
  cases code with
  | loop c'=>
   simp only[aJ]at hc;obtain⟨x,hx,e⟩:=ζf.1 hc;cases e;simp only[fF]at h;simp only[exec];exact EY (λF H r hr=>ih c' F H r hx hr) lf F H r h
  | region id ops draw=>simp only[aJ]at hc;(repeat' split at hc) <;> first|(simp at hc;done)|(obtain⟨_,_,e⟩:=ζf.1 hc;cases e)
  | _=>simp only[aJ]at hc;(repeat' split at hc) <;> first|(simp at hc;done)|(obtain⟨_,_,e⟩:=ζf.1 hc;cases e)|cases hc
 | exit id=>
  intro code F H r hc h
  cases code with
  | exit id'=>simp only[aJ,ζa,RC.exit.injEq]at hc;subst hc;exact h
  | region id ops draw=>simp only[aJ]at hc;(repeat' split at hc) <;> first|(simp at hc;done)|(obtain⟨_,_,e⟩:=ζf.1 hc;cases e)
  | _=>simp only[aJ]at hc;(repeat' split at hc) <;> first|(simp at hc;done)|(obtain⟨_,_,e⟩:=ζf.1 hc;cases e)|cases hc
 | ret=>
  intro code F H r hc h
  cases code with
  | ret=>exact h
  | region id ops draw=>simp only[aJ]at hc;(repeat' split at hc) <;> first|(simp at hc;done)|(obtain⟨_,_,e⟩:=ζf.1 hc;cases e)
  | _=>simp only[aJ]at hc;(repeat' split at hc) <;> first|(simp at hc;done)|(obtain⟨_,_,e⟩:=ζf.1 hc;cases e)|cases hc
 | _=>intro code F H r hc h;simp[fF]at h
end
end Go.VE
namespace Go.VE
variable [aS]
def Ex (E:Env) (N:Nat->FuncId) (rc:RC) (F:Frame) (H:ak) (o:Out) (F':Frame) (H':ak):Prop:=
 ∃n,∀k,n<=k->fF E N (run E k) k rc F H=some (o,F',H')
def kf (E:Env) (N:Nat->FuncId) (rc:RC) (F:Frame) (H:ak) (o:Out) (F':Frame) (H':ak):Prop:=
 ∃n,∀k,n<=k->∀lf,n<=lf->ja (fF E N (run E k) k rc) lf F H=some (o,F',H')
section
variable {E:Env} {N:Nat->FuncId} {a b c:RC} {F F1 F':Frame} {H H1 H':ak} {o:Out} {x:Arg} {id:Nat}
theorem Ex.ops {l:List RO} (h:∃n,∀k,n<=k->bE E N (run E k) none l F H=some (F',H')):Ex E N (.ops l) F H .norm F' H':=
 let ⟨n,h⟩:=h;⟨n,λk hk=>by simp only[fF,h k hk,Option.map_some]⟩
theorem Ex.bT {l:List RO} (h:∀call,bE E N call none l F H=some (F',H')):Ex E N (.ops l) F H .norm F' H':=Ex.ops ⟨0,λk _=>h _⟩
theorem Ex.mB {l:List RO} (hn:vm l=true) (h:∀call,bE E N call (some H.length) l F H=some (F',H')):Ex E N (.mB l) F H .norm F' H':=
 ⟨0,λk _=>by simp only[fF,hn,if_true,h,Option.map_some]⟩
theorem Ex.GR {l:List RO} (hn:vm l=true) (h:∃n,∀k,n<=k->bE E N (run E k) (some H.length) l F H=some (F',H')):Ex E N (.mB l) F H .norm F' H':=
 let ⟨n,h⟩:=h;⟨n,λk hk=>by simp only[fF,hn,if_true,h k hk,Option.map_some]⟩
theorem Ex.skip:Ex E N .skip F H .norm F H:=⟨0,λ_ _=>rfl⟩
theorem Ex.exit:Ex E N (.exit id) F H (.exit id) F H:=⟨0,λ_ _=>rfl⟩
theorem Ex.ret:Ex E N .ret F H .ret F H:=⟨0,λ_ _=>rfl⟩
theorem Ex.seq (h1:Ex E N a F H .norm F1 H1) (h2:Ex E N b F1 H1 o F' H'):Ex E N (.seq a b) F H o F' H':=by
 obtain⟨n,h1⟩:=h1;obtain⟨m,h2⟩:=h2;exact⟨max n m,λk hk=>by simp only[fF,h1 k (by omega)];exact h2 k (by omega)⟩
theorem Ex.ru (h1:Ex E N a F H o F' H') (ho:o≠.norm):Ex E N (.seq a b) F H o F' H':=by
 obtain⟨n,h1⟩:=h1;refine⟨n,λk hk=>?_⟩
 simp only[fF,h1 k hk];cases o <;> first|exact absurd rfl ho|rfl
theorem Ex.lB (hx:au N F x=.bool true) (h:Ex E N a F H o F' H'):Ex E N (.cond x a b) F H o F' H':=by
 obtain⟨n,h⟩:=h;exact⟨n,λk hk=>by simp only[fF,hx,if_true,h k hk]⟩
theorem Ex.nS (hx:au N F x=.bool false) (h:Ex E N b F H o F' H'):Ex E N (.cond x a b) F H o F' H':=by
 obtain⟨n,h⟩:=h;exact⟨n,λk hk=>by simp only[fF,hx,Bool.false_eq_true,if_false,h k hk]⟩
theorem Ex.block (h:Ex E N c F H .norm F' H'):Ex E N (.block id c) F H .norm F' H':=by
 obtain⟨n,h⟩:=h;exact⟨n,λk hk=>by simp only[fF,h k hk]⟩
theorem Ex.sr (h:Ex E N c F H (.exit id) F' H'):Ex E N (.block id c) F H .norm F' H':=by
 obtain⟨n,h⟩:=h;exact⟨n,λk hk=>by simp only[fF,h k hk,if_true]⟩
theorem Ex.JQ (h:Ex E N c F H .ret F' H'):Ex E N (.block id c) F H .ret F' H':=by
 obtain⟨n,h⟩:=h;exact⟨n,λk hk=>by simp only[fF,h k hk]⟩
theorem Ex.loop (h:kf E N c F H o F' H'):Ex E N (.loop c) F H o F' H':=by
 obtain⟨n,h⟩:=h;exact⟨n,λk hk=>h k hk k hk⟩
theorem kf.step (h1:Ex E N c F H .norm F1 H1) (h2:kf E N c F1 H1 o F' H'):kf E N c F H o F' H':=by
 obtain⟨n,h1⟩:=h1;obtain⟨m,h2⟩:=h2;refine⟨max n m+1,λk hk lf hl=>?_⟩
 cases lf with
 | zero=>omega
 | succ lf=>simp only[ja,h1 k (by omega)];exact h2 k (by omega) lf (by omega)
theorem kf.stop (h1:Ex E N c F H o F' H') (ho:o≠.norm):kf E N c F H o F' H':=by
 obtain⟨n,h1⟩:=h1;refine⟨n+1,λk hk lf hl=>?_⟩
 cases lf with
 | zero=>omega
 | succ lf=>
  simp only[ja,h1 k (by omega)]
  cases o <;> first|exact absurd rfl ho|rfl
end
theorem Ex.run {E:Env} {nm:FuncId->Option Nat} {N:Nat->FuncId} (hN:∀f s,nm f=some s->N s=f) {f:FuncId} {fi:FI} {rc:RC} (hf:E.ft f=some fi) (hc:aJ ⟨E,nm,fi.ntmps⟩ false fi.body=some rc) {args:List V} (ha:args.length<=fi.ntmps) {H H':ak} {F':Frame}
 (h:Ex E N rc args H .ret F' H') {vs:List V} (hr:fC E F' H' fi.results=some vs):∃n,run E n (.fn f) args H=some (result vs,H'):=by
 obtain⟨n,h⟩:=h;refine⟨n+1,?_⟩;have:=LY (X:=⟨E,nm,fi.ntmps⟩) (call:=Go.VE.run E n) hN (lf:=n) rc fi.body args H _ hc (h n (Nat.le_refl _));simp only[Go.VE.run,hf,if_pos ha,this,hr,Option.map_some]
@[simp] theorem ax (F:Frame) (i j:Nat) (v:V):get (set F i v) j=if i=j then v else get F j:=by
 split
 .rename_i h;subst h;exact qH F i v
 .rename_i h;exact fJ F v h
def refs:List Nat->List (List V)->List (List V)
 | id::ids,r::rs=>[V.hsl id 1 0 r.length]::refs ids rs
 | _,_=>[]
def gG (r:List V):List (List V):=r.map λu=>[u]
structure kA (H:ak) (w:V) (o:Nat) (ids:List Nat) (rows:List (List V)):Prop where
 v:w=if rows=[]then .aF else .hsl o 1 0 rows.length
 ob:rows≠[]->H[o]? = some (.row 1 (refs ids rows))
 len:ids.length=rows.length
 r:∀(i id:Nat) (r:List V),ids[i]? = some id->rows[i]? = some r->H[id]? = some (.row 1 (gG r))
 nd:ids.Nodup
 ne:rows≠[]->o∉ids
theorem ri:∀{ids:List Nat} {rows:List (List V)},ids.length=rows.length->(refs ids rows).length=rows.length
 | [],[],_=>rfl
 | _::ids,_::rows,h=>by simp only[refs,List.length_cons,ri (ids:=ids) (rows:=rows) (by simpa using h)]
theorem D9:∀{ids:List Nat} {rows:List (List V)} (id:Nat) (r:List V),ids.length=rows.length->refs (ids++[id]) (rows++[r])=refs ids rows++[[V.hsl id 1 0 r.length]]
 | [],[],_,_,_=>rfl
 | _::ids,_::rows,id,r,h=>by simp only[refs,List.cons_append,D9 (ids:=ids) (rows:=rows) id r (by simpa using h)]
theorem zX:∀{ids:List Nat} {rows:List (List V)} {i id:Nat} {r:List V},ids[i]? = some id->rows[i]? = some r->(refs ids rows)[i]? = some [V.hsl id 1 0 r.length]
 | [],_,_,_,_,h,_=>by simp at h
 | _::_,[],_,_,_,_,h=>by simp at h
 | a::ids,b::rows,0,id,r,h1,h2=>by simp at h1 h2;subst h1 h2;rfl
 | a::ids,b::rows,i+1,id,r,h1,h2=>by simpa [refs]using zX (ids:=ids) (rows:=rows) (i:=i) (by simpa using h1) (by simpa using h2)
theorem ED:∀{ids:List Nat} {rows:List (List V)} {i:Nat} {r r':List V},rows[i]? = some r->r'.length=r.length->refs ids (rows.set i r')=refs ids rows
 | [],_,_,_,_,_,_=>by simp[refs]
 | _::_,[],_,_,_,_,_=>by simp[refs]
 | a::ids,b::rows,0,r,r',h,hl=>by simp at h;subst h;simp only[List.set_cons_zero,refs,hl]
 | a::ids,b::rows,i+1,r,r',h,hl=>by simp only[List.set_cons_succ,refs,ED (ids:=ids) (rows:=rows) (i:=i) (by simpa using h) hl]
section
variable {H H':ak} {v:V} {o:Nat} {ids:List Nat} {rows:List (List V)}
theorem kA.nil (H:ak) (o:Nat):kA H .aF o [] []:=⟨rfl,λh=>absurd rfl h,rfl,λi id r h=>by simp at h,.nil,λh=>absurd rfl h⟩
theorem kA.heap (n:kA H v o ids rows) (ho:rows≠[]->H'[o]? = H[o]?) (hi:∀id∈ids,H'[id]? = H[id]?):kA H' v o ids rows:=
 ⟨n.v,λh=>by rw[ho h];exact n.ob h,n.len,λi id r h1 h2=>by rw[hi id (List.mem_of_getElem? h1)];exact n.r i id r h1 h2,n.nd,n.ne⟩
theorem kA.lt (n:kA H v o ids rows):(rows≠[]->o<H.length)/\∀id∈ids,id<H.length:=by
 refine⟨λh=>(ζe.1 (n.ob h)).1,λid hid=>?_⟩
 obtain⟨i,hi⟩:=List.getElem?_of_mem hid;have hl:=(ζe.1 hi).1;have:=n.r i id _ hi (ζd (show i<rows.length from n.len▸hl));exact(ζe.1 this).1
theorem kA.more (n:kA H v o ids rows) (X:ak):kA (H++X) v o ids rows:=
 n.heap (λh=>List.getElem?_append_left (n.lt.1 h)) λid hid=>List.getElem?_append_left (n.lt.2 id hid)
theorem kA.push (n:kA H v o ids rows) (r:List V) (hl:rows.length+1<=2147483648) :
 ∃H',dI (H++[.row 1 (gG r)]++[.row 1 [[.hsl H.length 1 0 r.length]]]) (.append 1) [v,.hsl (H.length+1) 1 0 1]=some (.hsl (H.length+2) 1 0 (rows.length+1),H') /\
  kA H' (.hsl (H.length+2) 1 0 (rows.length+1)) (H.length+2) (ids++[H.length]) (rows++[r])/\H.length<=H'.length/\(∀id,id<H.length->id≠o\/rows=[]->H'[id]? = H[id]?):=by
 generalize hH2:H++[.row 1 (gG r)]++[.row 1 [[.hsl H.length 1 0 r.length]]]=H2;have hlen:H2.length=H.length+2:=by subst hH2;simp
 have hlo:∀id,id<H.length->H2[id]? = H[id]? := λid h=>by
  subst hH2;rw[List.append_assoc,List.getElem?_append_left h]
 have h1:H2[H.length]? = some (.row 1 (gG r)):=by subst hH2;simp
 have h2:H2[H.length+1]? = some (.row 1 [[.hsl H.length 1 0 r.length]]):=by subst hH2;simp
 have hv:=n.v;have e2:cF H2 1 (.hsl (H.length+1) 1 0 1)=some [[.hsl H.length 1 0 r.length]]:=by
  simp[cF,h2,Ob.rows]
 by_cases hr:rows=[]
 .subst hr;rw[if_pos rfl]at hv;subst hv;have:ids=[]:=List.eq_nil_of_length_eq_zero n.len;subst this;refine⟨H2++[.row 1 [[.hsl H.length 1 0 r.length]]],?_,⟨by simp,λ_=>by rw[<-hlen];simp[refs],rfl,λi id r' hi hr'=>?_,by simp,λ_=>by simp⟩,by simp[hlen];omega,λid hid _=>?_⟩
  .have e1:cF H2 1 .aF=some []:=rfl;simp only[dI,e1,e2,gj,List.length_nil,List.length_singleton,Option.map_some,hlen];simp
  .cases i with
   | zero=>
    simp at hi hr';subst hi hr';rw[List.getElem?_append_left (by omega)];exact h1
   | succ i=>simp at hi
  .rw[List.getElem?_append_left (by omega)];exact hlo id hid
 .rw[if_neg hr]at hv;subst hv;have ho:=n.ob hr;have hol:=n.lt.1 hr;have e1:cF H2 1 (.hsl o 1 0 rows.length)=some (refs ids rows):=by
   simp only[cF,if_true,hlo o hol,ho,ζb,Ob.rows,ri n.len,Nat.zero_add,Nat.le_refl,List.drop_zero];rw[List.take_of_length_le (by rw[ri n.len];exact Nat.le_refl _)]
  have eg:gj H2 (.hsl o 1 0 rows.length)=some (H2.set o .dead):=by
   simp only[gj,hlo o hol,ho]
  have hset:∀id,id≠o->(H2.set o Ob.dead++[Ob.row 1 (refs ids rows++[[.hsl H.length 1 0 r.length]])])[id]? = if id<H2.length then H2[id]? else(H2.set o Ob.dead++[Ob.row 1 (refs ids rows++[[.hsl H.length 1 0 r.length]])])[id]? := λid hne=>by
   split
   .rename_i h;rw[List.getElem?_append_left (by simpa using h),List.getElem?_set_ne (Ne.symm hne)]
   .rfl
  refine⟨H2.set o .dead++[.row 1 (refs ids rows++[[.hsl H.length 1 0 r.length]])],?_,⟨by simp,λ_=>?_,by simp[n.len],λi id r' hi hr'=>?_,?_,λ_ hm=>?_⟩,by simp[hlen];omega,λid hid hne=>?_⟩
  .simp only[dI,e1,e2,eg,ri n.len,List.length_singleton,hl,if_true,Option.map_some,hlen]
  .rw[D9 _ _ n.len,<-hlen];simp
  .have hio:id≠o:=by
    rcases Nat.lt_or_ge i ids.length with h|h
    .rw[List.getElem?_append_left h]at hi;intro e;subst e;exact n.ne hr (List.mem_of_getElem? hi)
    .have:i=ids.length:=by have:=(ζe.1 hi).1;simp at this;omega
     subst this;simp at hi;subst hi;omega
   rcases Nat.lt_or_ge i ids.length with h|h
   .rw[List.getElem?_append_left h]at hi;rw[List.getElem?_append_left (by rw[<-n.len];exact h)]at hr'
    have hidl:=n.lt.2 id (List.mem_of_getElem? hi);rw[hset id hio,if_pos (by omega),hlo id hidl]
    exact n.r i id r' hi hr'
   .have:i=ids.length:=by have:=(ζe.1 hi).1;simp at this;omega
    subst this;simp at hi;subst hi;rw[n.len]at hr';simp at hr';subst hr';rw[hset _ hio,if_pos (by omega)];exact h1
  .rw[List.nodup_append];exact⟨n.nd,by simp,λa ha b hb=>by simp at hb;subst hb;exact Nat.ne_of_lt (n.lt.2 a ha)⟩
  .rcases List.mem_append.1 hm with hm|hm
   .have:=n.lt.2 _ hm;omega
   .simp at hm
  .rw[hset id (hne.resolve_right hr),if_pos (by omega)];exact hlo id hid
end
end Go.VE
namespace Go.VE
variable [aS]
theorem hU {E:Env} {N:Nat->FuncId} {F:Frame} {H H1:ak} {call:cq} {b:Option Nat} {o:RO} {l:List RO} {v:V} {r:Frame×ak} (hg:o.gd=none) (hv:aD E N call b o.now o.k (o.az.map (au N F)) H=some (v,H1)) (h:bE E N call b l (aq F o.dst v) H1=some r):bE E N call b (o::l) F H=some r:=by
 simp only[bE,hg,hv];exact h
theorem vp {E:Env} {N:Nat->FuncId} {F:Frame} {H:ak} {call:cq} {b:Option Nat} {o:RO} {l:List RO} {v:V} {r:Frame×ak} (hg:o.gd=none) (hv:aD E N call b o.now o.k (o.az.map (au N F)) H=some (v,H)) (h:bE E N call b l (aq F o.dst v) H=some r):bE E N call b (o::l) F H=some r:=hU hg hv h
theorem cG {E:Env} {N:Nat->FuncId} {F:Frame} {H:ak} {call:cq} {b:Option Nat}:bE E N call b [] F H=some (F,H):=rfl
theorem vD {n:Nat} (h:n<=2147483648):IntKind.wrap .i64 ((n:Int)+1)=((n+1:Nat):Int):=by
 simp[IntKind.wrap,IntKind.bits,IntKind.signed];omega
theorem Sb {n:Nat} (h:n<=2147483648):IntKind.wrap .i64 (((n+1:Nat):Int)-1)=(n:Int):=by
 simp[IntKind.wrap,IntKind.bits,IntKind.signed];omega
theorem iE (H:ak):H.take H.length=H:=List.take_length
theorem zL {E:Env} {nm:FuncId->Option Nat} {f:FuncId} {rc:RC} {n:Nat} {rs:List ResultVar} (h:((E.ft f).map λfi=>(aJ ⟨E,nm,fi.ntmps⟩ false fi.body,Nat.ble n fi.ntmps,fi.results))=some (some rc,true,rs)) :
 ∃fi,E.ft f=some fi/\aJ ⟨E,nm,fi.ntmps⟩ false fi.body=some rc/\n<=fi.ntmps/\fi.results=rs:=by
 obtain⟨fi,h1,h2⟩:=ζf.1 h;simp only[ζc]at h2;exact⟨fi,h1,h2.1,Nat.le_of_ble_eq_true h2.2.1,h2.2.2⟩
theorem CE {x:V} (h:x.one=true):x.cells=[x]:=by
 cases x <;> first|rfl|(simp[V.one]at h)
theorem Ri {call:cq} {f:FuncId} {args az:List V} {H:ak} (h:borrows 8 H args=some az) (hc:∀x∈az,x.closed=true):bl call f args H=bl call f az []:=by
 have:borrows 8 [] az=some az:=by
  clear h
  unfold borrows
  induction az with
  | nil=>rfl
  | cons x l ih=>simp only[iG,cQ 8 [] (hc x (by simp)),ih λy hy=>hc y (List.mem_cons_of_mem _ hy)]
 unfold bl;rw[h,this]
def kept (t:Nat->Bool) (n:Nat):List Nat:=(List.range n).filter λi=>i==0 || !t i
theorem um (t:Nat->Bool) (n:Nat):kept t (n+1)=kept t n++if n==0 || !t n then [n]else []:=by
 unfold kept;rw[List.range_succ,List.filter_append,List.filter_cons];rfl
theorem yT (t:Nat->Bool):∀n,(kept t n).length<=n:=λn=>by
 unfold kept;exact Nat.le_trans (List.length_filter_le ..) (by simp)
theorem GJ {t:Nat->Bool} {n i:Nat} (h:i∈kept t n):i<n:=by
 unfold kept at h;exact List.mem_range.1 (List.mem_filter.1 h).1
theorem zW {t:Nat->Bool}:∀n,(∀i,0<i->i<n->t i=false)->kept t n=List.range n
 | 0,_=>rfl
 | n+1,h=>by
  rw[um,zW n λi h1 h2=>h i h1 (by omega),List.range_succ]
  congr 1
  cases n with
  | zero=>rfl
  | succ n=>rw[h (n+1) (by omega) (by omega)];simp
theorem xY {t:Nat->Bool} {k:Nat} (h0:0<k) (hk:t k=true):∀n,k<n->(kept t n).length+1<=n
 | 0,h=>by omega
 | n+1,h=>by
  rw[um]
  by_cases e:n=k
  .subst e;have:(n==0 || !t n)=false:=by simp[hk];omega
   rw[this];have:=yT t n;simp;omega
  .have:=xY h0 hk n (by omega)
   split <;> simp <;> omega
namespace cmpX
instance {n:Nat}:OfNat Arg n:=⟨.s n⟩
def r1:List RO:=[o1 4 (.k (.aF)) []]
def r2:List RO:=[o1 8 0 [],o2 9 (.p .lenSl) [8] [],o2 10 (.p (.bin (some .int) none .lss)) [9,.k (.int .i64 2)] []]
def r3:List RO:=[o1 11 0 [],o1 4 11 []]
def r4:List RO:=[o1 5 (.k (.int .i64 1)) []]
def r5:List RO:=[o1 12 5 [],o1 13 0 [],o2 14 (.p .lenSl) [13] [],o2 15 (.p (.bin (some .int) none .lss)) [12,14] []]
def on (d:Nat) (k:K) (az:List Arg):RO:=⟨some d,none,true,k,az,[],[]⟩
def r6:List RO:=[o1 18 1 [],o1 19 0 [],o1 20 5 [],o2 21 (.p (.idxS 1)) [19,20] [],o2 22 (.r (.load 1 false)) [21] [],o1 23 0 [],o1 24 5 [],o2 25 (.p (.bin (some .int) none .sub)) [24,.k (.int .i64 1)] [],o2 26 (.p (.idxS 1)) [23,25] [],o2 27 (.r (.load 1 false)) [26] [],on 28 .c [18,22,27]]
def r7:List RO:=[o1 29 0 [],o1 30 5 [],o2 31 (.p (.slice 1 true false)) [29,30] [],o1 6 31 []]
def r8:List RO:=[o1 7 (.k (.int .i64 1)) []]
def r9:List RO:=[o1 32 7 [],o1 33 6 [],o2 34 (.p .lenSl) [33] [],o2 35 (.p (.bin (some .int) none .lss)) [32,34] []]
def A5:List RO:=[o1 38 1 [],o1 39 6 [],o1 40 7 [],o2 41 (.p (.idxS 1)) [39,40] [],o2 42 (.r (.load 1 false)) [41] [],o1 43 6 [],o1 44 7 [],o2 45 (.p (.bin (some .int) none .sub)) [44,.k (.int .i64 1)] [],o2 46 (.p (.idxS 1)) [43,45] [],o2 47 (.r (.load 1 false)) [46] [],on 48 .c [38,42,47],on 49 (.p (.not)) [48]]
def C8:List RO:=[o1 50 0 [],o1 51 5 [],o1 52 6 [],o1 53 7 [],o2 54 (.p (.idxS 1)) [52,53] [],o2 55 (.r (.load 1 false)) [54] [],o2 56 (.p (.idxS 1)) [50,51] [],⟨none,none,false,.l (.store 1),[56,55],[],[]⟩]
def CS:List RO:=[o1 57 5 [],o2 58 (.p (.bin (some .int) none .add)) [57,.k (.int .i64 1)] [],o1 5 58 []]
def CW:List RO:=[o1 36 7 [],o2 37 (.p (.bin (some .int) none .add)) [36,.k (.int .i64 1)] [],o1 7 37 []]
def T7:RC:=.seq (.seq (.ops r9) (.cond (.s 35) (.skip) (.exit 2))) (.seq (.block 3 (.seq (.mB A5) (.cond (.s 49) (.seq (.ops C8) (.ops CS)) (.skip)))) (.ops CW))
def A9:List RO:=[o1 59 0 [],o1 60 5 [],o2 61 (.p (.slice 1 true false)) [59,60] [],⟨none,none,false,.l (.clear 1 [.aF]),[61],[],[]⟩]
def C1:List RO:=[o1 62 0 [],o1 63 5 [],o2 64 (.p (.slice 1 false true)) [62,63] [],o1 4 64 []]
def CN:List RO:=[o1 16 5 [],o2 17 (.p (.bin (some .int) none .add)) [16,.k (.int .i64 1)] [],o1 5 17 []]
def M3:RC:=.seq (.seq (.ops r5) (.cond (.s 15) (.skip) (.exit 0))) (.seq (.block 1 (.seq (.mB r6) (.cond (.s 28) (.seq (.ops r7) (.seq (.seq (.ops r8) (.block 2 (.loop T7))) (.seq (.ops A9) (.seq (.ops C1) (.ret))))) (.skip)))) (.ops CN))
def JX:List RO:=[o1 65 0 [],o1 4 65 []]
def code:RC:=.seq (.ops r1) (.seq (.seq (.ops r2) (.cond (.s 10) (.seq (.ops r3) (.ret)) (.skip))) (.seq (.seq (.ops r4) (.block 0 (.loop M3))) (.seq (.ops JX) (.ret))))
structure Vg (F F':Frame):Prop where
 s0:get F' 0=get F 0
 s1:get F' 1=get F 1
section
variable {E:Env} {N:Nat->FuncId} {F:Frame} {H:ak} {call:cq} {id off L k:Nat}
theorem ld {cur:List (List V)} {el:Nat} {v:V} (h:H[id]? = some (.row 1 cur)) (hv:cur[el]? = some [v]):dy H (.load 1 false) [.hptr id el 0]=some v:=by
 simp[dy,cN,h,Ob.rows,hv,cut,mk]
theorem MU {i:Nat} (h:i<L):jV 1 (.hsl id 1 off L) (i:Int)=some (.hptr id (off+i) 0):=by
 unfold jV;rw[if_neg (by omega)];simp[h]
theorem x2 (f0:get F 0=.hsl id 1 off L):∃F',(∀call,bE E N call none r2 F H=some (F',H))/\get F' 10=.bool (decide ((L:Int)<2))/\(∀s,s<8->get F' s=get F s):=by
 refine⟨_,λcall=>vp (v:=.hsl id 1 off L) rfl ?_ <| vp (v:=.int .i64 L) rfl ?_ <| vp (v:=.bool (decide ((L:Int)<2))) rfl ?_ cG,?_,?_⟩
 .simp[aD,au,aj,f0]
 .simp[aD,au,aj,aq,mq]
 .simp[aD,au,aj,aq,fB,mh]
 .simp[aq]
 .intro s hs;simp only[aq,ax]
  repeat (rw[if_neg (by omega)])
theorem x5 (f0:get F 0=.hsl id 1 off L) (f5:get F 5=.int .i64 k):∃F',(∀call,bE E N call none r5 F H=some (F',H))/\get F' 15=.bool (decide (k<L))/\(∀s,s<8->get F' s=get F s):=by
 refine⟨_,λcall=>vp (v:=.int .i64 k) rfl ?_ <| vp (v:=.hsl id 1 off L) rfl ?_ <| vp (v:=.int .i64 L) rfl ?_ <| vp (v:=.bool (decide (k<L))) rfl ?_ cG,?_,?_⟩
 .simp[aD,au,aj,f5]
 .simp[aD,au,aj,aq,f0]
 .simp[aD,au,aj,aq,mq]
 .simp[aD,au,aj,aq,fB,mh]
 .simp[aq]
 .intro s hs;simp only[aq,ax]
  repeat (rw[if_neg (by omega)])
theorem Qg {g:FuncId} {cb:List V} {cur:List (List V)} {o2 L2 i:Nat} {a b:V} {t:Bool} (h:H[id]? = some (.row 1 cur)) (hi:i+1<L2) (hb2:i<=2147483648) (ha:cur[o2+(i+1)]? = some [a]) (hb:cur[o2+i]? = some [b]) (hk:E.keep g=false) (f1:get F 1=.clo g [] cb) :
 (get F 0=.hsl id 1 o2 L2->get F 5=.int .i64 ((i+1:Nat):Int)->∃F',(∀call,bl call g (a::b::cb) H=some (.bool t)->bE E N call (some H.length) r6 F H=some (F',H))/\get F' 28=.bool t/\(∀s,s<8->get F' s=get F s)) /\
 (get F 6=.hsl id 1 o2 L2->get F 7=.int .i64 ((i+1:Nat):Int)->∃F',(∀call,bl call g (a::b::cb) H=some (.bool t)->bE E N call (some H.length) A5 F H=some (F',H))/\get F' 49=.bool (!t)/\(∀s,s<8->get F' s=get F s)):=by
 have hd:=Sb hb2;have e1:=ld h ha;have e2:=ld h hb;have i1:=MU (id:=id) (off:=o2) (L:=L2) hi;have i2:=MU (id:=id) (off:=o2) (L:=L2) (show i<L2 by omega)
 refine⟨λf0 f5=>⟨_,λcall hc=>vp (v:=.clo g [] cb) rfl ?_ <| vp (v:=.hsl id 1 o2 L2) rfl ?_ <| vp (v:=.int .i64 ((i+1:Nat):Int)) rfl ?_ <| vp (v:=.hptr id (o2+(i+1)) 0) rfl ?_ <| vp (v:=a) rfl ?_ <| vp (v:=.hsl id 1 o2 L2) rfl ?_ <| vp (v:=.int .i64 ((i+1:Nat):Int)) rfl ?_ <|
  vp (v:=.int .i64 (i:Int)) rfl ?_ <| vp (v:=.hptr id (o2+i) 0) rfl ?_ <| vp (v:=b) rfl ?_ <| vp (v:=.bool t) rfl ?_ cG,?_,?_⟩,λf6 f7=>⟨_,λcall hc=>vp (v:=.clo g [] cb) rfl ?_ <| vp (v:=.hsl id 1 o2 L2) rfl ?_ <| vp (v:=.int .i64 ((i+1:Nat):Int)) rfl ?_ <| vp (v:=.hptr id (o2+(i+1)) 0) rfl ?_ <| vp (v:=a) rfl ?_ <| vp (v:=.hsl id 1 o2 L2) rfl ?_ <| vp (v:=.int .i64 ((i+1:Nat):Int)) rfl ?_ <|
  vp (v:=.int .i64 (i:Int)) rfl ?_ <| vp (v:=.hptr id (o2+i) 0) rfl ?_ <| vp (v:=b) rfl ?_ <| vp (v:=.bool t) rfl ?_ <| vp (v:=.bool (!t)) rfl ?_ cG,?_,?_⟩⟩
 .simp[aD,au,aj,f1]
 .simp[aD,au,aj,aq,f0]
 .simp only[aD,List.map_cons,List.map_nil,au,aq,ax,Nat.reduceEqDiff,if_true,if_false,f5,aj];rfl
 .simp only[aD,List.map_cons,List.map_nil,au,aq,ax,Nat.reduceEqDiff,if_true,if_false,aj];rw[i1];rfl
 .simp only[aD,List.map_cons,List.map_nil,au,aq,ax,Nat.reduceEqDiff,if_true,if_false,iE];rw[e1];rfl
 .simp[aD,au,aj,aq,f0]
 .simp only[aD,List.map_cons,List.map_nil,au,aq,ax,Nat.reduceEqDiff,if_true,if_false,f5,aj];rfl
 .simp only[aD,List.map_cons,List.map_nil,au,aq,ax,Nat.reduceEqDiff,if_true,if_false,aj,fB,hd];rfl
 .simp only[aD,List.map_cons,List.map_nil,au,aq,ax,Nat.reduceEqDiff,if_true,if_false,aj];rw[i2];rfl
 .simp only[aD,List.map_cons,List.map_nil,au,aq,ax,Nat.reduceEqDiff,if_true,if_false,iE];rw[e2];rfl
 .simp only[aD,on,List.map_cons,List.map_nil,au,aq,ax,Nat.reduceEqDiff,if_true,if_false,iE,hk,Bool.false_eq_true,List.nil_append,List.cons_append,hc,V.scalar]
 .simp[aq,on]
 .intro s hs;simp only[aq,on,ax]
  repeat (rw[if_neg (by omega)])
 .simp[aD,au,aj,f1]
 .simp[aD,au,aj,aq,f6]
 .simp only[aD,List.map_cons,List.map_nil,au,aq,ax,Nat.reduceEqDiff,if_true,if_false,f7,aj];rfl
 .simp only[aD,List.map_cons,List.map_nil,au,aq,ax,Nat.reduceEqDiff,if_true,if_false,aj];rw[i1];rfl
 .simp only[aD,List.map_cons,List.map_nil,au,aq,ax,Nat.reduceEqDiff,if_true,if_false,iE];rw[e1];rfl
 .simp[aD,au,aj,aq,f6]
 .simp only[aD,List.map_cons,List.map_nil,au,aq,ax,Nat.reduceEqDiff,if_true,if_false,f7,aj];rfl
 .simp only[aD,List.map_cons,List.map_nil,au,aq,ax,Nat.reduceEqDiff,if_true,if_false,aj,fB,hd];rfl
 .simp only[aD,List.map_cons,List.map_nil,au,aq,ax,Nat.reduceEqDiff,if_true,if_false,aj];rw[i2];rfl
 .simp only[aD,List.map_cons,List.map_nil,au,aq,ax,Nat.reduceEqDiff,if_true,if_false,iE];rw[e2];rfl
 .simp only[aD,on,List.map_cons,List.map_nil,au,aq,ax,Nat.reduceEqDiff,if_true,if_false,iE,hk,Bool.false_eq_true,List.nil_append,List.cons_append,hc,V.scalar]
 .simp[aD,on,au,aj,aq]
 .simp[aq,on]
 .intro s hs;simp only[aq,on,ax]
  repeat (rw[if_neg (by omega)])
end
end cmpX
end Go.VE
namespace Go.VE
variable [aS]
namespace cmpX
section
variable {E:Env} {N:Nat->FuncId} {F:Frame} {H:ak} {call:cq} {id off L k:Nat}
theorem x7 (f0:get F 0=.hsl id 1 off L) (f5:get F 5=.int .i64 k) (hk:k<=L):∃F',(∀call,bE E N call none r7 F H=some (F',H))/\get F' 6=.hsl id 1 (off+k) (L-k)/\(∀s,s<8->s≠6->get F' s=get F s):=by
 have e:fL 1 (.hsl id 1 off L) (some (k:Int)) none=some (.hsl id 1 (off+k) (L-k)):=by
  unfold fL cE;simp only[if_true,Option.getD_none,Option.getD_some];rw[if_pos (by omega)];simp
 refine⟨_,λcall=>vp (v:=.hsl id 1 off L) rfl ?_ <| vp (v:=.int .i64 k) rfl ?_ <| vp (v:=.hsl id 1 (off+k) (L-k)) rfl ?_ <| vp (v:=.hsl id 1 (off+k) (L-k)) rfl ?_ cG,?_,?_⟩
 .simp[aD,au,aj,f0]
 .simp[aD,au,aj,aq,f5]
 .simp only[aD,List.map_cons,List.map_nil,au,aq,ax,Nat.reduceEqDiff,if_true,if_false,aj,jK,ζb,e,Option.map_some]
 .simp[aD,au,aj,aq]
 .simp[aq]
 .intro s hs h6;simp only[aq,ax];rw[if_neg (Ne.symm h6)]
  repeat (rw[if_neg (by omega)])
theorem x9 {o2 L2 m:Nat} (f6:get F 6=.hsl id 1 o2 L2) (f7:get F 7=.int .i64 m):∃F',(∀call,bE E N call none r9 F H=some (F',H))/\get F' 35=.bool (decide (m<L2))/\(∀s,s<8->get F' s=get F s):=by
 refine⟨_,λcall=>vp (v:=.int .i64 m) rfl ?_ <| vp (v:=.hsl id 1 o2 L2) rfl ?_ <| vp (v:=.int .i64 L2) rfl ?_ <| vp (v:=.bool (decide (m<L2))) rfl ?_ cG,?_,?_⟩
 .simp[aD,au,aj,f7]
 .simp[aD,au,aj,aq,f6]
 .simp[aD,au,aj,aq,mq]
 .simp[aD,au,aj,aq,fB,mh]
 .simp[aq]
 .intro s hs;simp only[aq,ax]
  repeat (rw[if_neg (by omega)])
theorem QI {cur:List (List V)} {o2 L2 m p:Nat} {a z:V} (h:H[id]? = some (.row 1 cur)) (f0:get F 0=.hsl id 1 off L) (f5:get F 5=.int .i64 p) (f6:get F 6=.hsl id 1 o2 L2) (f7:get F 7=.int .i64 m) (hm:m<L2) (hp:p<L)
 (ha:cur[o2+m]? = some [a]) (hz:cur[off+p]? = some [z]) (h1:a.one=true) :
 ∃F',(∀call,bE E N call none C8 F H=some (F',H.set id (.row 1 (cur.set (off+p) [a]))))/\(∀s,s<8->get F' s=get F s):=by
 have i1:=MU (id:=id) (off:=o2) (L:=L2) hm;have i2:=MU (id:=id) (off:=off) (L:=L) hp;have e1:=ld h ha;have hs:dI H (.store 1) [.hptr id (off+p) 0,a]=some (.undef,H.set id (.row 1 (cur.set (off+p) [a]))):=by
  simp[dI,h,hz,CE h1,h1]
 refine⟨_,λcall=>vp (v:=.hsl id 1 off L) rfl ?_ <| vp (v:=.int .i64 p) rfl ?_ <| vp (v:=.hsl id 1 o2 L2) rfl ?_ <| vp (v:=.int .i64 m) rfl ?_ <| vp (v:=.hptr id (o2+m) 0) rfl ?_ <| vp (v:=a) rfl ?_ <| vp (v:=.hptr id (off+p) 0) rfl ?_ <| hU (v:=.undef) (H1:=H.set id (.row 1 (cur.set (off+p) [a]))) rfl ?_ cG,?_⟩
 .simp[aD,au,aj,f0]
 .simp[aD,au,aj,aq,f5]
 .simp[aD,au,aj,aq,f6]
 .simp[aD,au,aj,aq,f7]
 .simp only[aD,List.map_cons,List.map_nil,au,aq,ax,Nat.reduceEqDiff,if_true,if_false,aj];rw[i1];rfl
 .simp only[aD,List.map_cons,List.map_nil,au,aq,ax,Nat.reduceEqDiff,if_true,if_false];rw[e1];rfl
 .simp only[aD,List.map_cons,List.map_nil,au,aq,ax,Nat.reduceEqDiff,if_true,if_false,aj];rw[i2];rfl
 .simp only[aD,List.map_cons,List.map_nil,au,aq,ax,Nat.reduceEqDiff,if_true,if_false];exact hs
 .intro s hs;simp only[aq,ax]
  repeat (rw[if_neg (by omega)])
theorem H9 {p:Nat} (hp:p<=2147483648):(get F 5=.int .i64 p->∃F',(∀call,bE E N call none CS F H=some (F',H))/\get F' 5=.int .i64 ((p+1:Nat):Int)/\(∀s,s<8->s≠5->get F' s=get F s)) /\
 (get F 7=.int .i64 p->∃F',(∀call,bE E N call none CW F H=some (F',H))/\get F' 7=.int .i64 ((p+1:Nat):Int)/\(∀s,s<8->s≠7->get F' s=get F s)) /\
 (get F 5=.int .i64 p->∃F',(∀call,bE E N call none CN F H=some (F',H))/\get F' 5=.int .i64 ((p+1:Nat):Int)/\(∀s,s<8->s≠5->get F' s=get F s)):=by
 have hb:=vD hp;refine⟨λf=>⟨_,λcall=>vp (v:=.int .i64 p) rfl ?_ <| vp (v:=.int .i64 ((p+1:Nat):Int)) rfl ?_ <| vp (v:=.int .i64 ((p+1:Nat):Int)) rfl ?_ cG,?_,?_⟩,
  λf=>⟨_,λcall=>vp (v:=.int .i64 p) rfl ?_ <| vp (v:=.int .i64 ((p+1:Nat):Int)) rfl ?_ <| vp (v:=.int .i64 ((p+1:Nat):Int)) rfl ?_ cG,?_,?_⟩,
  λf=>⟨_,λcall=>vp (v:=.int .i64 p) rfl ?_ <| vp (v:=.int .i64 ((p+1:Nat):Int)) rfl ?_ <| vp (v:=.int .i64 ((p+1:Nat):Int)) rfl ?_ cG,?_,?_⟩⟩ <;>
 first
 | (simp[aD,au,aj,f];done)
 | (simp only[aD,List.map_cons,List.map_nil,au,aq,ax,Nat.reduceEqDiff,if_true,if_false,aj,fB,hb];rfl)
 | (simp[aD,au,aj,aq];done)
 | (simp[aq];done)
 | (intro s hs h5;simp only[aq,ax];rw[if_neg (Ne.symm h5)];repeat (rw[if_neg (by omega)]))
theorem UU {cur:List (List V)} {p:Nat} (h:H[id]? = some (.row 1 cur)) (f0:get F 0=.hsl id 1 off L) (f5:get F 5=.int .i64 p) (hp:p<L) (hl:off+L<=cur.length) :
 ∃F',(∀call,bE E N call none A9 F H=some (F',H.set id (.row 1 (cur.take (off+p)++List.replicate (L-p) [.aF]++cur.drop (off+L)))))/\(∀s,s<8->get F' s=get F s):=by
 have e:fL 1 (.hsl id 1 off L) (some (p:Int)) none=some (.hsl id 1 (off+p) (L-p)):=by
  unfold fL cE;simp only[if_true,Option.getD_none,Option.getD_some];rw[if_pos (by omega)];simp
 obtain⟨q,hq⟩:∃q,L-p=q+1:=⟨L-p-1,by omega⟩
 have hc:dI H (.clear 1 [.aF]) [.hsl id 1 (off+p) (L-p)]=some (.undef,H.set id (.row 1 (cur.take (off+p)++List.replicate (L-p) [.aF]++cur.drop (off+L)))):=by
  simp only[dI,AV,if_true,hq,h];rw[if_pos (by omega)]
  congr 6;omega
 refine⟨_,λcall=>vp (v:=.hsl id 1 off L) rfl ?_ <| vp (v:=.int .i64 p) rfl ?_ <| vp (v:=.hsl id 1 (off+p) (L-p)) rfl ?_ <| hU (v:=.undef) (H1:=H.set id (.row 1 (cur.take (off+p)++List.replicate (L-p) [.aF]++cur.drop (off+L)))) rfl ?_ cG,?_⟩
 .simp[aD,au,aj,f0]
 .simp[aD,au,aj,aq,f5]
 .simp only[aD,List.map_cons,List.map_nil,au,aq,ax,Nat.reduceEqDiff,if_true,if_false,aj,jK,ζb,e,Option.map_some]
 .simp only[aD,List.map_cons,List.map_nil,au,aq,ax,Nat.reduceEqDiff,if_true,if_false];exact hc
 .intro s hs;simp only[aq,ax]
  repeat (rw[if_neg (by omega)])
theorem Nc {p:Nat} (f0:get F 0=.hsl id 1 off L) (f5:get F 5=.int .i64 p) (hp:p<=L):∃F',(∀call,bE E N call none C1 F H=some (F',H))/\get F' 4=.hsl id 1 off p:=by
 have e:fL 1 (.hsl id 1 off L) none (some (p:Int))=some (.hsl id 1 off p):=by
  unfold fL cE;simp only[if_true,Option.getD_none,Option.getD_some];rw[if_pos (by omega)];simp
 refine⟨_,λcall=>vp (v:=.hsl id 1 off L) rfl ?_ <| vp (v:=.int .i64 p) rfl ?_ <| vp (v:=.hsl id 1 off p) rfl ?_ <| vp (v:=.hsl id 1 off p) rfl ?_ cG,?_⟩
 .simp[aD,au,aj,f0]
 .simp[aD,au,aj,aq,f5]
 .simp only[aD,List.map_cons,List.map_nil,au,aq,ax,Nat.reduceEqDiff,if_true,if_false,aj,jK,ζb,e,Option.map_some]
 .simp[aD,au,aj,aq]
 .simp[aq]
theorem UW:∃F',(∀call,bE E N call none JX F H=some (F',H))/\get F' 4=get F 0:=
 ⟨_,λcall=>vp (v:=get F 0) rfl (by simp[aD,au,aj]) <| vp (v:=get F 0) rfl (by simp[aD,au,aj,aq]) cG,by simp[aq]⟩
theorem Mc:∃F',(∀call,bE E N call none r3 F H=some (F',H))/\get F' 4=get F 0:=
 ⟨_,λcall=>vp (v:=get F 0) rfl (by simp[aD,au,aj]) <| vp (v:=get F 0) rfl (by simp[aD,au,aj,aq]) cG,by simp[aq]⟩
end
structure Dq (E:Env) (g:FuncId) (cb:List V) (H:ak) (id off L:Nat) (rs:List (List V)) (A:Nat->V) (t:Nat->Bool):Prop where
 row:H[id]? = some (.row 1 rs)
 len:off+L<=rs.length
 small:L<=2147483648
 at_:∀i,i<L->rs[off+i]? = some [A i]
 one:∀i,i<L->(A i).one=true
 keep:E.keep g=false
 cmp:∃n,∀k,n<=k->∀i,i+1<L->∀cur,bl (run E k) g (A (i+1)::A i::cb) (H.set id (.row 1 cur))=some (.bool (t (i+1)))
structure Head (g:FuncId) (cb:List V) (id off L kk m:Nat) (rs:List (List V)) (A:Nat->V) (t:Nat->Bool) (F:Frame) (cur:List (List V)):Prop where
 f0:get F 0=.hsl id 1 off L
 f1:get F 1=.clo g [] cb
 f5:get F 5=.int .i64 ((kept t (kk+m)).length:Nat)
 f6:get F 6=.hsl id 1 (off+kk) (L-kk)
 f7:get F 7=.int .i64 m
 len:cur.length=rs.length
 pre:∀p i,(kept t (kk+m))[p]? = some i->cur[off+p]? = some [A i]
 post:∀i,kk+m<=i+1->i<L->cur[off+i]? = some [A i]
 out:∀j,j<off\/off+L<=j->cur[j]? = rs[j]?
 cell:∀i,i<L->∃j,j<L/\cur[off+i]? = some [A j]
section
variable {E:Env} {N:Nat->FuncId} {g:FuncId} {cb:List V} {H:ak} {id off L kk:Nat} {rs:List (List V)} {A:Nat->V} {t:Nat->Bool}
theorem GZ (X:Dq E g cb H id off L rs A t) (hkk:0<kk) (hkL:kk<L) (ht:t kk=true):∀(d m:Nat) (F:Frame) (cur:List (List V)),kk+m+d=L->0<m->Head g cb id off L kk m rs A t F cur ->
 ∃F' cur',kf E N T7 F (H.set id (.row 1 cur)) (.exit 2) F' (H.set id (.row 1 cur'))/\Head g cb id off L kk (L-kk) rs A t F' cur':=by
 have hidlt:=(ζe.1 X.row).1;have hrow:∀cur,(H.set id (.row 1 cur))[id]? = some (.row 1 cur):=λcur=>List.getElem?_set_self hidlt
 have hsm:=X.small;have hlen:=X.len;intro d
 induction d with
 | zero=>
  intro m F cur he hm h;have em:m=L-kk:=by omega
  subst em;obtain⟨F1,e1,e2,e3⟩:=x9 (E:=E) (N:=N) (H:=H.set id (.row 1 cur)) h.f6 h.f7;refine⟨F1,cur,kf.stop (Ex.ru (Ex.seq (Ex.bT e1) (Ex.nS (by simp[au,e2]) Ex.exit)) (by simp)) (by simp),?_⟩
  exact⟨by rw[e3 0 (by omega)];exact h.f0,by rw[e3 1 (by omega)];exact h.f1,by rw[e3 5 (by omega)];exact h.f5,by rw[e3 6 (by omega)];exact h.f6,by rw[e3 7 (by omega)];exact h.f7,h.len,h.pre,h.post,h.out,h.cell⟩
 | succ d ih=>
  intro m F cur he hm h;obtain⟨F1,a1,a2,a3⟩:=x9 (E:=E) (N:=N) (H:=H.set id (.row 1 cur)) h.f6 h.f7;have a2':au N F1 35=.bool true:=by
   show get F1 35=_;rw[a2,decide_eq_true (by omega)]
  obtain⟨m',rfl⟩:∃m',m=m'+1:=⟨m-1,by omega⟩
  obtain⟨n0,hn0⟩:=X.cmp;have c1:cur[off+kk+(m'+1)]? = some [A (kk+m'+1)]:=by
   have:=h.post (kk+m'+1) (by omega) (by omega);rw[<-this];congr 1;omega
  have c2:cur[off+kk+m']? = some [A (kk+m')]:=by
   have:=h.post (kk+m') (by omega) (by omega);rw[<-this];congr 1;omega
  obtain⟨F2,b1,b2,b3⟩:=(Qg (E:=E) (N:=N) (cb:=cb) (g:=g) (i:=m') (L2:=L-kk) (t:=t (kk+m'+1)) (hrow cur) (by omega) (by omega) c1 c2 X.keep (by rw[a3 1 (by omega)];exact h.f1)).2 (by rw[a3 6 (by omega)];exact h.f6) (by rw[a3 7 (by omega)];exact h.f7)
  have b1':∃n,∀k,n<=k->bE E N (run E k) (some (H.set id (.row 1 cur)).length) A5 F1 (H.set id (.row 1 cur))=some (F2,H.set id (.row 1 cur)):=⟨n0,λk hk=>b1 _ (hn0 k hk (kk+m') (by omega) cur)⟩
  have hf:∀s,s<8->get F2 s=get F s:=λs hs=>(b3 s hs).trans (a3 s hs)
  have hlenk:(kept t (kk+(m'+1))).length+1<=kk+(m'+1):=xY hkk ht _ (by omega)
  have hks:kept t (kk+(m'+1)+1)=kept t (kk+(m'+1))++if t (kk+m'+1)then []else [kk+m'+1]:=by
   rw[um];have:(kk+(m'+1)==0)=false:=by simp
   rw[this,Bool.false_or,show kk+(m'+1)=kk+m'+1 by omega]
   cases t (kk+m'+1) <;> rfl
  have e12:kk+(m'+1+1)=kk+(m'+1)+1:=by omega
  cases htt:t (kk+m'+1)with
  | true=>
   rw[htt]at b2 hks;simp only[if_true,List.append_nil]at hks;obtain⟨F3,q1,q2,q3⟩:=(H9 (E:=E) (N:=N) (F:=F2) (H:=H.set id (.row 1 cur)) (p:=m'+1) (by omega)).2.1 (by rw[hf 7 (by omega)];exact h.f7)
   obtain⟨F',cur',i1,i2⟩:=ih (m'+1+1) F3 cur (by omega) (by omega) ⟨by rw[q3 0 (by omega) (by omega),hf 0 (by omega)];exact h.f0,by rw[q3 1 (by omega) (by omega),hf 1 (by omega)];exact h.f1,
    by rw[q3 5 (by omega) (by omega),hf 5 (by omega),e12,hks];exact h.f5,by rw[q3 6 (by omega) (by omega),hf 6 (by omega)];exact h.f6,q2,h.len,by rw[e12,hks];exact h.pre,λi h1 h2=>h.post i (by omega) h2,h.out,h.cell⟩
   exact⟨F',cur',kf.step (Ex.seq (Ex.seq (Ex.bT a1) (Ex.lB a2' Ex.skip)) (Ex.seq (Ex.block (Ex.seq (Ex.GR (by decide) b1') (Ex.nS (by simp[au,b2]) Ex.skip))) (Ex.bT q1))) i1,i2⟩
  | false=>
   rw[htt]at b2 hks;simp only[Bool.false_eq_true,if_false]at hks;generalize hK:(kept t (kk+(m'+1))).length=K at *;obtain⟨_,_,hz⟩:=h.cell K (by omega)
   obtain⟨F3,q1,q2⟩:=QI (E:=E) (N:=N) (F:=F2) (off:=off) (L:=L) (p:=K) (m:=m'+1) (L2:=L-kk) (o2:=off+kk) (a:=A (kk+m'+1)) (hrow cur) (by rw[hf 0 (by omega)];exact h.f0) (by rw[hf 5 (by omega),h.f5,hK]) (by rw[hf 6 (by omega)];exact h.f6) (by rw[hf 7 (by omega)];exact h.f7) (by omega) (by omega) c1 hz (X.one _ (by omega))
   rw[List.set_set]at q1;generalize hcur:cur.set (off+K) [A (kk+m'+1)]=cur2 at q1;have hg:∀j,cur2[j]? = if j=off+K then some [A (kk+m'+1)]else cur[j]? := λj=>by
    rw[<-hcur,List.getElem?_set]
    by_cases e:off+K=j
    .rw[if_pos e,if_pos e.symm,if_pos (by rw[h.len];omega)]
    .rw[if_neg e,if_neg (Ne.symm e)]
   obtain⟨F4,q3,q4,q5⟩:=(H9 (E:=E) (N:=N) (F:=F3) (H:=H.set id (.row 1 cur2)) (p:=K) (by omega)).1 (by rw[q2 5 (by omega),hf 5 (by omega),h.f5,hK])
   have hf4:∀s,s<8->s≠5->get F4 s=get F s:=λs h1 h2=>by rw[q5 s h1 h2,q2 s h1,hf s h1]
   obtain⟨F5,q6,q7,q8⟩:=(H9 (E:=E) (N:=N) (F:=F4) (H:=H.set id (.row 1 cur2)) (p:=m'+1) (by omega)).2.1 (by rw[hf4 7 (by omega) (by omega)];exact h.f7)
   obtain⟨F',cur',i1,i2⟩:=ih (m'+1+1) F5 cur2 (by omega) (by omega) ⟨by rw[q8 0 (by omega) (by omega),hf4 0 (by omega) (by omega)];exact h.f0,by rw[q8 1 (by omega) (by omega),hf4 1 (by omega) (by omega)];exact h.f1,
    by rw[q8 5 (by omega) (by omega),q4,e12,hks,ζi,hK];rfl,by rw[q8 6 (by omega) (by omega),hf4 6 (by omega) (by omega)];exact h.f6,q7,by rw[<-hcur,List.length_set];exact h.len,
    λp i hp=>by
     rw[e12,hks]at hp;rw[hg]
     by_cases e:p=K
     .subst e;rw[<-hK,List.getElem?_append_right (Nat.le_refl _),Nat.sub_self]at hp;cases hp;rw[if_pos rfl]
     .have hpl:p<(kept t (kk+(m'+1))).length:=by
       have:=(ζe.1 hp).1;simp at this;omega
      rw[List.getElem?_append_left hpl]at hp;rw[if_neg (by omega)];exact h.pre p i hp,
    λi h1 h2=>by rw[hg,if_neg (by omega)];exact h.post i (by omega) h2,λj hj=>by rw[hg,if_neg (by omega)];exact h.out j hj,
    λi hi=>by
     rw[hg]
     by_cases e:off+i=off+K
     .rw[if_pos e];exact⟨_,by omega,rfl⟩
     .rw[if_neg e];exact h.cell i hi⟩
   exact⟨F',cur',kf.step (Ex.seq (Ex.seq (Ex.bT a1) (Ex.lB a2' Ex.skip)) (Ex.seq (Ex.block (Ex.seq (Ex.GR (by decide) b1') (Ex.lB (by simp[au,b2]) (Ex.seq (Ex.bT q1) (Ex.bT q3))))) (Ex.bT q6))) i1,i2⟩
structure Lz (off L:Nat) (rs:List (List V)) (A:Nat->V) (t:Nat->Bool) (rs':List (List V)):Prop where
 len:rs'.length=rs.length
 pre:∀p i,(kept t L)[p]? = some i->rs'[off+p]? = some [A i]
 all:∀c∈rs',c∈rs\/c=[.aF]
theorem Iq (X:Dq E g cb H id off L rs A t):∀(d k:Nat) (F:Frame),k+d=L->0<k->(∀i,0<i->i<k->t i=false)->get F 0=.hsl id 1 off L->get F 1=.clo g [] cb->get F 5=.int .i64 k ->
 (∃F',kf E N M3 F H (.exit 0) F' H/\get F' 0=.hsl id 1 off L/\∀i,0<i->i<L->t i=false) \/
 (∃F' rs',kf E N M3 F H .ret F' (H.set id (.row 1 rs'))/\get F' 4=.hsl id 1 off (kept t L).length/\Lz off L rs A t rs'):=by
 have hidlt:=(ζe.1 X.row).1;have hself:H.set id (.row 1 rs)=H:=pJ X.row;have hsm:=X.small;have hlen:=X.len;intro d
 induction d with
 | zero=>
  intro k F he hk hp f0 f1 f5;have ek:k=L:=by omega
  subst ek;obtain⟨F1,e1,e2,e3⟩:=x5 (E:=E) (N:=N) (H:=H) f0 f5;exact .inl ⟨F1,kf.stop (Ex.ru (Ex.seq (Ex.bT e1) (Ex.nS (by simp[au,e2]) Ex.exit)) (by simp)) (by simp),by rw[e3 0 (by omega)];exact f0,hp⟩
 | succ d ih=>
  intro k F he hk hp f0 f1 f5;obtain⟨F1,a1,a2,a3⟩:=x5 (E:=E) (N:=N) (H:=H) f0 f5;have a2':au N F1 15=.bool true:=by
   show get F1 15=_;rw[a2,decide_eq_true (by omega)]
  obtain⟨k',rfl⟩:∃k',k=k'+1:=⟨k-1,by omega⟩
  obtain⟨n0,hn0⟩:=X.cmp;obtain⟨F2,b1,b2,b3⟩:=(Qg (E:=E) (N:=N) (cb:=cb) (g:=g) (i:=k') (L2:=L) (t:=t (k'+1)) X.row (by omega) (by omega) (X.at_ _ (by omega)) (X.at_ _ (by omega)) X.keep (by rw[a3 1 (by omega)];exact f1)).1 (by rw[a3 0 (by omega)];exact f0) (by rw[a3 5 (by omega)];exact f5)
  have b1':∃n,∀k,n<=k->bE E N (run E k) (some H.length) r6 F1 H=some (F2,H):=⟨n0,λk hk=>b1 _ (by
   have:=hn0 k hk k' (by omega) rs;rw[hself]at this;exact this)⟩
  have hf:∀s,s<8->get F2 s=get F s:=λs hs=>(b3 s hs).trans (a3 s hs)
  cases htt:t (k'+1)with
  | false=>
   rw[htt]at b2;obtain⟨F3,q1,q2,q3⟩:=(H9 (E:=E) (N:=N) (F:=F2) (H:=H) (p:=k'+1) (by omega)).2.2 (by rw[hf 5 (by omega)];exact f5)
   have hstep:Ex E N M3 F H .norm F3 H:=Ex.seq (Ex.seq (Ex.bT a1) (Ex.lB a2' Ex.skip)) (Ex.seq (Ex.block (Ex.seq (Ex.GR (by decide) b1') (Ex.nS (by simp[au,b2]) Ex.skip))) (Ex.bT q1))
   rcases ih (k'+1+1) F3 (by omega) (by omega) (λi h1 h2=>by
    by_cases e:i=k'+1
    .subst e;exact htt
    .exact hp i h1 (by omega)) (by rw[q3 0 (by omega) (by omega),hf 0 (by omega)];exact f0) (by rw[q3 1 (by omega) (by omega),hf 1 (by omega)];exact f1) q2 with⟨F',i1,i2⟩|⟨F',rs',i1,i2⟩
   .exact .inl ⟨F',kf.step hstep i1,i2⟩
   .exact .inr ⟨F',rs',kf.step hstep i1,i2⟩
  | true=>
   rw[htt]at b2;refine .inr ?_;obtain⟨F3,q1,q2,q3⟩:=x7 (E:=E) (N:=N) (F:=F2) (H:=H) (k:=k'+1) (by rw[hf 0 (by omega)];exact f0) (by rw[hf 5 (by omega)];exact f5) (by omega)
   have hrange:kept t (k'+1)=List.range (k'+1):=zW _ hp;have hk1:kept t (k'+1+1)=List.range (k'+1):=by
    rw[um,hrange,htt];simp
   have q4:∀call,bE E N call none r8 F3 H=some (set F3 7 (.int .i64 1),H):=λcall=>vp (v:=.int .i64 1) rfl (by simp[aD,au,aj]) cG
   have h0:Head g cb id off L (k'+1) 1 rs A t (set F3 7 (.int .i64 1)) rs:=⟨by rw[fJ _ _ (by omega),q3 0 (by omega) (by omega),hf 0 (by omega)];exact f0,by rw[fJ _ _ (by omega),q3 1 (by omega) (by omega),hf 1 (by omega)];exact f1,
    by rw[fJ _ _ (by omega),q3 5 (by omega) (by omega),hf 5 (by omega),hk1,List.length_range];exact f5,by rw[fJ _ _ (by omega)];exact q2,by rw[qH];rfl,rfl,
    λp i hpi=>by
     rw[hk1]at hpi;obtain⟨h1,h2⟩:=ζe.1 hpi;simp at h1 h2;subst h2;exact X.at_ p (by omega),λi _ h2=>X.at_ i h2,λ_ _=>rfl,λi hi=>⟨i,hi,X.at_ i hi⟩⟩
   obtain⟨F5,cur,l1,l2⟩:=GZ (N:=N) X (by omega) (by omega) htt (L-(k'+1)-1) 1 _ rs (by omega) (by omega) h0
   rw[hself]at l1;have eL:k'+1+(L-(k'+1))=L:=by omega
   have hlessL:=xY (t:=t) (k:=k'+1) (by omega) htt L (by omega)
   have l5:=l2.f5;have lpre:=l2.pre;rw[eL]at l5 lpre;generalize hK:(kept t L).length=K at *;have hrow:(H.set id (.row 1 cur))[id]? = some (.row 1 cur):=List.getElem?_set_self hidlt;obtain⟨F6,w1,w2⟩:=UU (E:=E) (N:=N) (p:=K) hrow l2.f0 l5 (by omega) (by rw[l2.len];omega)
   rw[List.set_set]at w1;obtain⟨F7,w3,w4⟩:=Nc (E:=E) (N:=N) (F:=F6) (H:=H.set id (.row 1 (cur.take (off+K)++List.replicate (L-K) [.aF]++cur.drop (off+L)))) (p:=K) (by rw[w2 0 (by omega)];exact l2.f0) (by rw[w2 5 (by omega)];exact l5) (by omega)
   have hcl:=l2.len;refine⟨F7,cur.take (off+K)++List.replicate (L-K) [.aF]++cur.drop (off+L),kf.stop (Ex.seq (Ex.seq (Ex.bT a1) (Ex.lB a2' Ex.skip)) (Ex.ru (Ex.JQ (Ex.seq (Ex.GR (by decide) b1') (Ex.lB (by simp[au,b2]) (Ex.seq (Ex.bT q1) (Ex.seq (Ex.seq (Ex.bT q4) (Ex.sr (Ex.loop l1))) (Ex.seq (Ex.bT w1) (Ex.seq (Ex.bT w3) Ex.ret))))))) (by simp))) (by simp),w4,?_,λp i hpi=>?_,λc hc=>?_⟩
   .simp;omega
   .have hpl:p<K:=by rw[<-hK];exact(ζe.1 hpi).1
    rw[List.append_assoc,List.getElem?_append_left (by simp;omega),List.getElem?_take,if_pos (by omega)]
    exact lpre p i hpi
   .have hin:∀j x,cur[j]? = some x->x∈rs:=λj x hj=>by
     by_cases ho:j<off\/off+L<=j
     .rw[l2.out j ho]at hj;exact List.mem_of_getElem? hj
     .obtain⟨i,rfl⟩:∃i,j=off+i:=⟨j-off,by omega⟩
      obtain⟨q,hq,hc⟩:=l2.cell i (by omega)
      rw[hc]at hj;cases hj;exact List.mem_of_getElem? (X.at_ q hq)
    rcases List.mem_append.1 hc with hc|hc
    .rcases List.mem_append.1 hc with hc|hc
     .obtain⟨j,hj⟩:=List.getElem?_of_mem (List.mem_of_mem_take hc);exact .inl (hin j c hj)
     .exact .inr (List.eq_of_mem_replicate hc)
    .obtain⟨j,hj⟩:=List.getElem?_of_mem (List.mem_of_mem_drop hc);exact .inl (hin j c hj)
end
end cmpX
end Go.VE
namespace Go.VE
variable [aS]
noncomputable def wN (E:Env) (g:FuncId) (cb:List V) (a b:V):Option Bool:=match Ae E g cb a b with|some (.bool c)=>some c|_=>none
theorem Rx {E:Env} {g:FuncId} {cb:List V} {a b:V} {c:Bool} (h:wN E g cb a b=some c):∃n,∀k,n<=k->bl (run E k) g (a::b::cb) []=some (.bool c):=by
 unfold wN at h;split at h
 .rename_i c' hc;cases h;exact BB hc
 .cases h
def j_ (xs:List (List V)) (i:Nat):V:=g_ ((xs[i]?).getD [])
noncomputable def vG (E:Env) (es:Nat) (xs:List (List V)):List V->Option (List (List V))
 | [.clo g [] cb]=>if xs.isEmpty then some []else if pG es xs&&V.bU 8 cb && !E.keep g then
  if(List.range xs.length).all λi=>i==0||(wN E g cb (j_ xs i) (j_ xs (i-1))).isSome then
   some ((kept (λi=>(wN E g cb (j_ xs i) (j_ xs (i-1))).getD false) xs.length).map λi=>(xs[i]?).getD [])
  else none
  else none
 | _=>none
noncomputable def qC (E:Env):Cq:=⟨true,vG E⟩
namespace cmpX
section
variable {E:Env} {N:Nat->FuncId} {g:FuncId} {cb:List V} {H:ak} {id off L:Nat} {rs:List (List V)} {A:Nat->V} {t:Nat->Bool}
theorem whole (X:Dq E g cb H id off L rs A t):∃F' rs',Ex E N code [.hsl id 1 off L,.clo g [] cb] H .ret F' (H.set id (.row 1 rs'))/\get F' 4=.hsl id 1 off (kept t L).length/\Lz off L rs A t rs':=by
 have hself:H.set id (.row 1 rs)=H:=pJ X.row;have same:(∀i,0<i->i<L->t i=false)->(kept t L).length=L/\Lz off L rs A t rs:=λh=>by
  have hk:=zW L h;rw[hk,List.length_range];exact⟨rfl,rfl,λp i hp=>by
   rw[hk]at hp;obtain⟨h1,h2⟩:=ζe.1 hp;simp at h1 h2;subst h2;exact X.at_ p h1,λc hc=>.inl hc⟩
 have g1:∀call,bE E N call none r1 [.hsl id 1 off L,.clo g [] cb] H=some (set [.hsl id 1 off L,.clo g [] cb] 4 .aF,H):=λcall=>vp (v:=.aF) rfl (by simp[aD,au,aj]) cG
 have k0:get (set [V.hsl id 1 off L,.clo g [] cb] 4 .aF) 0=.hsl id 1 off L:=rfl;have k1:get (set [V.hsl id 1 off L,.clo g [] cb] 4 .aF) 1=.clo g [] cb:=rfl;generalize set [V.hsl id 1 off L,.clo g [] cb] 4 .aF=F0 at *;obtain⟨F1,a1,a2,a3⟩:=x2 (E:=E) (N:=N) (H:=H) k0
 by_cases hL:L<2
 .obtain⟨F2,b1,b2⟩:=Mc (E:=E) (N:=N) (F:=F1) (H:=H);obtain⟨e1,e2⟩:=same λi h1 h2=>by omega
  refine⟨F2,rs,?_,by rw[e1,b2,a3 0 (by omega)];exact k0,e2⟩
  rw[hself];exact Ex.seq (Ex.bT g1) (Ex.ru (Ex.seq (Ex.bT a1) (Ex.lB (by show get F1 10=_;rw[a2,decide_eq_true (by omega)]) (Ex.seq (Ex.bT b1) Ex.ret))) (by simp))
 .have g4:∀call,bE E N call none r4 F1 H=some (set F1 5 (.int .i64 1),H):=λcall=>vp (v:=.int .i64 1) rfl (by simp[aD,au,aj]) cG
  have hc:Ex E N (.seq (.ops r2) (.cond (.s 10) (.seq (.ops r3) (.ret)) (.skip))) F0 H .norm F1 H:=Ex.seq (Ex.bT a1) (Ex.nS (by show get F1 10=_;rw[a2,decide_eq_false (by omega)]) Ex.skip)
  rcases Iq (N:=N) X (L-1) 1 (set F1 5 (.int .i64 1)) (by omega) (by omega) (λi h1 h2=>by omega) (by rw[fJ _ _ (by omega),a3 0 (by omega)];exact k0) (by rw[fJ _ _ (by omega),a3 1 (by omega)];exact k1) (by rw[qH];rfl)with⟨F',l1,l2,l3⟩|⟨F',rs',l1,l2,l3⟩
  .obtain⟨F2,b1,b2⟩:=UW (E:=E) (N:=N) (F:=F') (H:=H);obtain⟨e1,e2⟩:=same l3;refine⟨F2,rs,?_,by rw[e1,b2];exact l2,e2⟩
   rw[hself];exact Ex.seq (Ex.bT g1) (Ex.seq hc (Ex.seq (Ex.seq (Ex.bT g4) (Ex.sr (Ex.loop l1))) (Ex.seq (Ex.bT b1) Ex.ret)))
  .exact⟨F',rs',Ex.seq (Ex.bT g1) (Ex.seq hc (Ex.ru (Ex.seq (Ex.bT g4) (Ex.JQ (Ex.loop l1))) (by simp))),l2,l3⟩
theorem empty {w:V} (c:V) (hw:w=.aF\/w=.cI):∃F',Ex E N code [w,c] H .ret F' H/\get F' 4=w:=by
 have g1:∀call,bE E N call none r1 [w,c] H=some (set [w,c] 4 .aF,H):=λcall=>vp (v:=.aF) rfl (by simp[aD,au,aj]) cG
 have k0:get (set [w,c] 4 .aF) 0=w:=rfl;generalize set [w,c] 4 .aF=F0 at *;have hl:mq w=some (.int .i64 0):=by rcases hw with rfl|rfl <;> rfl
 have a1:∃F1,(∀call,bE E N call none r2 F0 H=some (F1,H))/\get F1 10=.bool true/\get F1 0=w:=by
  refine⟨_,λcall=>vp (v:=w) rfl ?_ <| vp (v:=.int .i64 0) rfl ?_ <| vp (v:=.bool true) rfl ?_ cG,?_,?_⟩
  .simp[aD,au,aj,k0]
  .simp[aD,au,aj,aq,hl]
  .simp[aD,au,aj,aq,fB,mh]
  .simp[aq]
  .simp[aq,k0]
 obtain⟨F1,a1,a2,a3⟩:=a1;obtain⟨F2,b1,b2⟩:=Mc (E:=E) (N:=N) (F:=F1) (H:=H);exact⟨F2,Ex.seq (Ex.bT g1) (Ex.ru (Ex.seq (Ex.bT a1) (Ex.lB a2 (Ex.seq (Ex.bT b1) Ex.ret))) (by simp)),by rw[b2,a3]⟩
end
end cmpX
theorem Me {E:Env} {f:FuncId} {nm:FuncId->Option Nat} {N:Nat->FuncId} (hN:∀f s,nm f=some s->N s=f) (hk:E.keep f=true) (ho:E.own f=false)
 (hf:∃fi,E.ft f=some fi/\aJ ⟨E,nm,fi.ntmps⟩ false fi.body=some cmpX.code/\2<=fi.ntmps/\fi.results=[.tmp 4]):mI E f (qC E):=by
 obtain⟨fi,h1,h2,h3,h4⟩:=hf;have hrun:∀{w c:V} {H H':ak} {F':Frame} {r:V},Ex E N cmpX.code [w,c] H .ret F' H'->get F' 4=r->∃n,∀k,n<=k->run E k (.fn f) [w,c] H=some (r,H'):=λ{w c H H' F' r} hx hr=>by
  obtain⟨n,hn⟩:=Ex.run hN h1 h2 (args:=[w,c]) (by simpa using h3) hx (vs:=[r]) (by rw[h4];simp[fC,hr])
  exact⟨n,λk hk=>mm E hk _ _ _ _ hn⟩
 refine⟨hk,ho,?_,?_,?_⟩
 .intro es xs vs ys h;simp only[qC,vG]at h;refine⟨?_,λe=>by simp[qC]at e⟩
  split at h
  .split at h
   .cases h;simp
   .split at h
    .split at h
     .cases h;simpa using yT _ _
     .cases h
    .cases h
  .cases h
 .intro es vs ys h H Z ws w hw he;simp only[qC,vG]at h;split at h
  .obtain⟨w2,r,rfl,q1,q2⟩:=hw.inv;rw[q2.bO];obtain⟨F',e1,e2⟩:=cmpX.empty (E:=E) (N:=N) (H:=H) w2 he;obtain⟨n,hn⟩:=hrun e1 e2;exact⟨n,[],λk hk=>by rw[List.append_nil];exact hn k hk⟩
  .cases h
 .intro es xs vs ys h H Z ws id off rs hw hid hoff hfr hsol hz;simp only[qC,vG]at h;split at h
  .rename_i g cb;obtain⟨w2,r,rfl,q1,q2⟩:=hw.inv;rw[q2.bO];obtain⟨a',cb',rfl,ha,hcb⟩:∃a' cb',w2=.clo g a' cb'/\b9 H Z [] a'/\b9 H Z cb cb':=q1.iL;rw[ha.bO]at *;split at h
   .rename_i he;cases h;have:xs=[]:=by simpa using he
    subst this;have e2:∃F',Ex E N cmpX.code [.hsl id es off 0,.clo g [] cb'] H .ret F' H/\get F' 4=.hsl id es off 0:=by
     have g1:∀call,bE E N call none cmpX.r1 [.hsl id es off 0,.clo g [] cb'] H=some (set [.hsl id es off 0,.clo g [] cb'] 4 .aF,H):=λcall=>vp (v:=.aF) rfl (by simp[aD,au,aj]) cG
     have k0:get (set [V.hsl id es off 0,.clo g [] cb'] 4 .aF) 0=.hsl id es off 0:=rfl;generalize set [V.hsl id es off 0,.clo g [] cb'] 4 .aF=F0 at *;have a1:∃F1,(∀call,bE E N call none cmpX.r2 F0 H=some (F1,H))/\get F1 10=.bool true/\get F1 0=.hsl id es off 0:=by
      refine⟨_,λcall=>vp (v:=.hsl id es off 0) rfl ?_ <| vp (v:=.int .i64 0) rfl ?_ <| vp (v:=.bool true) rfl ?_ cG,?_,?_⟩
      .simp[aD,au,aj,k0]
      .simp[aD,au,aj,aq,mq]
      .simp[aD,au,aj,aq,fB,mh]
      .simp[aq]
      .simp[aq,k0]
     obtain⟨F1,a1,a2,a3⟩:=a1;obtain⟨F2,b1,b2⟩:=cmpX.Mc (E:=E) (N:=N) (F:=F1) (H:=H);exact⟨F2,Ex.seq (Ex.bT g1) (Ex.ru (Ex.seq (Ex.bT a1) (Ex.lB a2 (Ex.seq (Ex.bT b1) Ex.ret))) (by simp)),by rw[b2,a3]⟩
    obtain⟨F',e1,e3⟩:=e2;obtain⟨n,hn⟩:=hrun e1 e3;refine⟨n,rs,[],λk hk=>?_,rfl,⟨rfl,λj u v hu=>by simp at hu⟩,hsol⟩
    rw[List.append_nil,pJ hid];exact hn k hk
   .rename_i hne;split at h
    .rename_i hcnd;simp only[ζh,Bool.not_eq_true']at hcnd;obtain⟨⟨c1,c2⟩,c3⟩:=hcnd;obtain⟨rfl,hlen,hel⟩:=wk c1;split at h
     .rename_i hall;cases h;have hcell:∀i,i<xs.length->∃a,rs[off+i]? = some [a]/\FR H Z (j_ xs i) a/\(j_ xs i).lvl 8=true/\a.one=true:=λi hi=>by
       obtain⟨e,p1,p2⟩:=hel i xs[i] (ζd hi);have hb:off+i<rs.length:=by omega
       have:=hfr.2 i xs[i] rs[off+i] (ζd hi) (by rw[List.getElem?_take,if_pos hi,List.getElem?_drop,ζd hb])
       rw[e]at this;obtain⟨y,ys,e2,r1,r2⟩:=this.inv;rw[r2.bO]at e2;have e3:j_ xs i=g_ xs[i]:=by unfold j_;rw[ζd hi];rfl
       exact⟨y,by rw[ζd hb,e2],by rw[e3];exact r1,by rw[e3];exact p1,by rw[r1.one];exact p2⟩
      let A:Nat->V:=λi=>match rs[off+i]? with|some (a::_)=>a|_=>.undef
      have hA:∀i,i<xs.length->rs[off+i]? = some [A i]/\FR H Z (j_ xs i) (A i)/\(j_ xs i).lvl 8=true/\(A i).one=true:=λi hi=>by
       obtain⟨a,p1,p2,p3,p4⟩:=hcell i hi;have:A i=a:=by show (match rs[off+i]? with|some (a::_)=>a|_=>V.undef)=a;rw[p1]
       rw[this];exact⟨p1,p2,p3,p4⟩
      have hdef:∀i,i+1<xs.length->∃b,wN E g cb (j_ xs (i+1)) (j_ xs i)=some b:=λi hi=>by
       have:=List.all_eq_true.1 hall (i+1) (List.mem_range.2 hi);simp only[Nat.add_sub_cancel,Bool.or_eq_true]at this;rcases this with h|h
       .simp at h
       .exact Option.isSome_iff_exists.1 h
      have X:cmpX.Dq E g cb' H id off xs.length rs A (λi=>(wN E g cb (j_ xs i) (j_ xs (i-1))).getD false):=by
       refine⟨hid,hoff,hlen,λi hi=>(hA i hi).1,λi hi=>(hA i hi).2.2.2,c3,?_⟩
       obtain⟨M,hM⟩:=BE (n:=xs.length-1) (p:=λi k=>bl (run E k) g (j_ xs (i.1+1)::j_ xs i.1::cb) []=some (.bool ((wN E g cb (j_ xs (i.1+1)) (j_ xs i.1)).getD false))) (λi=>by
        obtain⟨b,hb⟩:=hdef i.1 (by have:=i.2;omega)
        obtain⟨n,hn⟩:=Rx hb;exact⟨n,λk hk=>by rw[hn k hk,hb];rfl⟩)
       refine⟨M,λk hk i hi cur=>?_⟩
       have hmono:∀j,Z j->Z j/\an (H.set id (.row 1 cur)) j=an H j:=λj hj=>⟨hj,by
        unfold an;rw[List.getElem?_set_ne];rintro rfl;exact hz hj⟩
       have hl:b9 (H.set id (.row 1 cur)) Z (j_ xs (i+1)::j_ xs i::cb) (A (i+1)::A i::cb'):=.cons ((hA _ hi).2.1.mono hmono) (.cons ((hA i (by omega)).2.1.mono hmono) (hcb.mono hmono))
       have hb:=hl.borrows (by simp only[V.bU,(hA _ hi).2.2.1,(hA i (by omega)).2.2.1,c2,Bool.and_self])
       rw[Ri hb (λx hx=>?_)]
       .exact hM ⟨i,by omega⟩ k hk
       .obtain⟨j,hj⟩:=List.getElem?_of_mem hx;obtain⟨y,hy,hr⟩:=hl.get hj;exact V.je hr.good
      obtain⟨F',rs',e1,e2,e3⟩:=cmpX.whole (N:=N) X;obtain⟨n,hn⟩:=hrun e1 e2;refine⟨n,rs',[],λk hk=>?_,e3.len,?_,?_⟩
      .simp only[qC,if_true,List.length_map,List.append_nil];exact hn k hk
      .refine⟨by simp[e3.len];have:=yT (λi=>(wN E g cb (j_ xs i) (j_ xs (i-1))).getD false) xs.length;omega,λp a b hp hq=>?_⟩
       rw[List.getElem?_map]at hp;obtain⟨i,hi,rfl⟩:=ζf.1 hp;have hil:=GJ (List.mem_of_getElem? hi);have hpl:=(ζe.1 hi).1;rw[List.getElem?_take,if_pos (by simpa using hpl),List.getElem?_drop,e3.pre p i hi]at hq
       cases hq;rw[ζd hil,Option.getD_some];have e4:=(hel i xs[i] (ζd hil)).1;have e5:j_ xs i=g_ xs[i]:=by unfold j_;rw[ζd hil];rfl
       rw[e4,<-e5];exact .cons (hA i hil).2.1 .nil
      .intro c hc u hu;rcases e3.all c hc with h|rfl
       .exact hsol c h u hu
       .simp at hu;subst hu;exact⟨.aF,.same _ rfl⟩
     .cases h
    .cases h
  .cases h
end Go.VE
namespace Go.VE
variable [aS]
def Sl.re {α:Type} (s:Sl α) (l:List α):Sl α:=match s with|.nil=>.nil|.emp=>.emp|.row _=>.row l|.part _=>.part l
def Sl.qL {α:Type} (s:Sl α) (l:List α):Sl α:=match s with|.nil=>.nil|.emp=>.emp|.row _|.part _=>.part l
noncomputable def vQ {α:Type} (s:Sl α) (p:α->α->Option Int):Option (Sl α):=
 match s.l with
 | []=>some s
 | x::l=>if l.length<2147483648 then
  let t:_root_.Fin (l.length+1)->_root_.Fin (l.length+1)->Option Int:=λi j=>p (x::l)[i.1] (x::l)[j.1]
  if wo t then some (s.re ((ox l.length (nT t)).toList.map λi=>(x::l)[i.1]))else none
  else none
def qR {α:Type} (l:List α) (p:α->α->Option Bool) (i:Nat):Option Bool:=match l[i]?,l[i-1]? with|some a,some b=>p a b|_,_=>none
def uU {α:Type} (s:Sl α) (p:α->α->Option Bool):Option (Sl α):=
 if s.l.length<=2147483648/\((List.range s.l.length).all λi=>i==0||(qR s.l p i).isSome)=true then
  some (s.qL ((kept (λi=>(qR s.l p i).getD false) s.l.length).filterMap (s.l[·]?)))
 else none
section
variable {S:Sys} {T:qM} {β γ δ α:Type} {Q:Out×St->Option β} {e:γ->Option β} {cf:Cf}
theorem jk.Kk (hT:pO S T) (hI:∀f a b xs,S.items f a b=some xs->dU S f a b xs) {fn:FuncId} {A:δ->List V} {E:α->List V} {p:δ->Option α} {sc:Bool} (F:jk S (cz S T) fn A E p sc) {z:δ} {r:α} (h:p z=some r) (hg:V.bF (A z)=true) :
 ∃n,bl (run S.E n) fn (A z) []=some (result (E r)):=by
 have h1:=F.h z (E r) (by rw[h];rfl)
 unfold kY at h1;obtain⟨⟨rs,m'⟩,h2,h3⟩:=ζg.1 h1;obtain⟨n,y,H2,e1,e2,e3⟩:=E4 (vg hT hI) hg h2 h3 (F.r r);refine⟨n,?_⟩;have hb:borrows 8 [] (A z)=some (A z):=by
  have hc:=V.lU hg;generalize A z=l at hc;unfold borrows
  induction l with
  | nil=>rfl
  | cons x l ih=>
   simp only[V.jF,ζh]at hc;simp only[iG,cQ 8 [] hc.1,ih hc.2]
 unfold bl;rw[hb];simp only[e1 n (Nat.le_refl _),e2,V.je e3,if_true]
section
variable [aA α] [Lv 8 α]
theorem AL (h1:aA.size α=1) {l:List α} (hl:l.length<=2147483648):pG (aA.size α) (rows l)=true:=by
 unfold pG;simp only[ζh,beq_iff_eq,List.all_eq_true,decide_eq_true_eq];refine⟨⟨h1,λx hx=>?_⟩,by simpa [rows]using hl⟩
 obtain⟨a,_,rfl⟩:=List.mem_map.1 hx;exact⟨⟨by rw[dh,h1],Lv.lv a⟩,List.all_eq_true.1 (aA.one a)⟩
theorem CY (h1:aA.agg α=false) (a:α):g_ (cells a)=enc a:=by
 unfold enc;rw[if_neg (by rw[h1];simp)];rfl
theorem vJ (l:List α) (i:Nat) (h:i<l.length):(rows l)[i]? = some (cells l[i]):=by
 unfold rows;rw[List.getElem?_map,ζd h];rfl
theorem OY (hT:pO S T) (hI:∀f a b xs,S.items f a b=some xs->dU S f a b xs) {g:FuncId} {p:α->α->Option Int} (F:jk S (cz S T) g (λz:α×α=>[enc z.1,enc z.2]) (λr:Int=>[.int .i64 r]) (λz=>p z.1 z.2) true)
 (h1:aA.size α=1) (ha:aA.agg α=false) {s s':Sl α} (h:vQ s p=some s'):xU S.E (aA.size α) (rows s.l) [.clo g [] []]=some (rows s'.l)/\s'.k=s.k:=by
 unfold vQ at h;split at h
 .rename_i hs;cases h;rw[hs];exact⟨rfl,rfl⟩
 .rename_i x l hs;split at h
  .rename_i hl;dsimp only at h;split at h
   .rename_i ht;cases h;rw[hs];obtain⟨htot,hswo⟩:=oH ht;have hfl:=AL (α:=α) h1 (l:=x::l) (by simp only[List.length_cons];omega)
    have key:∀m,m=l.length->(if wo (λi j:_root_.Fin (m+1)=>qO S.E g [] (g_ (((rows (x::l))[i.1]?).getD [])) (g_ (((rows (x::l))[j.1]?).getD [])))then
     some ((ox m (nT (λi j:_root_.Fin (m+1)=>qO S.E g [] (g_ (((rows (x::l))[i.1]?).getD [])) (g_ (((rows (x::l))[j.1]?).getD []))))).toList.map λi=>((rows (x::l))[i.1]?).getD [])else none) =
     some (rows ((ox l.length (nT λi j:_root_.Fin (l.length+1)=>p (x::l)[i.1] (x::l)[j.1])).toList.map λi=>(x::l)[i.1])):=by
     rintro m rfl;have e1:∀i:_root_.Fin (l.length+1),g_ (((rows (x::l))[i.1]?).getD [])=enc (x::l)[i.1]:=λi=>by
      rw[vJ (x::l) i.1 i.2,Option.getD_some,CY ha]
     have e2:(λi j:_root_.Fin (l.length+1)=>qO S.E g [] (g_ (((rows (x::l))[i.1]?).getD [])) (g_ (((rows (x::l))[j.1]?).getD [])))=λi j=>p (x::l)[i.1] (x::l)[j.1]:=by
      funext i j
      obtain⟨z,hz⟩:=htot i j;rw[e1 i,e1 j,hz];obtain⟨n,hn⟩:=F.Kk hT hI (z:=((x::l)[i.1],(x::l)[j.1])) hz (by simp only[V.bF,iC,Bool.and_self])
      unfold qO;rw[Gj hn];rfl
     rw[e2,if_pos ht]
     congr 1
     unfold rows;rw[List.map_map];refine List.map_congr_left λi _=>?_
     have:=vJ (x::l) i.1 i.2;unfold rows at this;rw[this];rfl
    have hs':(s.re ((ox l.length (nT λi j:_root_.Fin (l.length+1)=>p (x::l)[i.1] (x::l)[j.1])).toList.map λi=>(x::l)[i.1])).l=(ox l.length (nT λi j:_root_.Fin (l.length+1)=>p (x::l)[i.1] (x::l)[j.1])).toList.map (λi=>(x::l)[i.1])/\(s.re ((ox l.length (nT λi j:_root_.Fin (l.length+1)=>p (x::l)[i.1] (x::l)[j.1])).toList.map λi=>(x::l)[i.1])).k=s.k:=by
     cases s <;> simp[Sl.l]at hs <;> exact⟨rfl,rfl⟩
    refine⟨?_,hs'.2⟩;rw[hs'.1,<-key (rows l).length (eC l)];have hc:(pG (aA.size α) (rows (x::l))&&V.bU 8 ([]:List V) && !S.E.keep g)=true:=by
     rw[hfl,F.k];rfl
    have hc':(pG (aA.size α) (cells x::rows l)&&V.bU 8 ([]:List V) && !S.E.keep g)=true:=hc;show (if pG (aA.size α) (cells x::rows l)&&V.bU 8 [] && !S.E.keep g then _ else none)=_;exact(if_pos hc').trans rfl
   .cases h
  .cases h
theorem NZ (hT:pO S T) (hI:∀f a b xs,S.items f a b=some xs->dU S f a b xs) {g:FuncId} {p:α->α->Option Bool} (F:jk S (cz S T) g (λz:α×α=>[enc z.1,enc z.2]) (λr:Bool=>[.bool r]) (λz=>p z.1 z.2) true)
 (h1:aA.size α=1) (ha:aA.agg α=false) {s s':Sl α} (h:uU s p=some s'):vG S.E (aA.size α) (rows s.l) [.clo g [] []]=some (rows s'.l)/\s'=s.qL s'.l:=by
 have hcut:∀l:List α,(s.qL l)=s.qL (s.qL l).l:=λl=>by cases s <;> rfl
 refine⟨?_,by
  unfold uU at h;split at h
  .cases h;exact hcut _
  .cases h⟩
 unfold uU at h;split at h
 .rename_i hc;cases h;obtain⟨hl,hall⟩:=hc;have hfl:=AL (α:=α) h1 hl;simp only[vG]
  by_cases he:s.l=[]
  .have:(s.qL ((kept (λi=>(qR s.l p i).getD false) s.l.length).filterMap (s.l[·]?))).l=[]:=by
    cases s <;> simp[Sl.l]at he <;> simp[Sl.qL,Sl.l,he,kept]
   rw[this,he];rfl
  .have hne:(rows s.l).isEmpty=false:=by cases hs:s.l with|nil=>exact absurd hs he|cons a l=>rfl
   rw[hne,if_neg (by simp),hfl,F.k,if_pos (by rfl),eC]
   have e1:∀i,0<i->i<s.l.length->∃b,qR s.l p i=some b/\wN S.E g [] (j_ (rows s.l) i) (j_ (rows s.l) (i-1))=some b:=λi h0 hi=>by
    have:=List.all_eq_true.1 hall i (List.mem_range.2 hi);simp only[Bool.or_eq_true,beq_iff_eq]at this;obtain⟨b,hb⟩:=Option.isSome_iff_exists.1 (this.resolve_left (by omega))
    refine⟨b,hb,?_⟩;have hi2:i-1<s.l.length:=by omega
    unfold qR at hb;rw[ζd hi,ζd hi2]at hb;have ea:∀j (hj:j<s.l.length),j_ (rows s.l) j=enc s.l[j]:=λj hj=>by
     unfold j_;rw[vJ _ _ hj,Option.getD_some,CY ha]
    rw[ea i hi,ea (i-1) hi2];obtain⟨n,hn⟩:=F.Kk hT hI (z:=(s.l[i],s.l[i-1])) hb (by simp only[V.bF,iC,Bool.and_self])
    unfold wN;rw[Gj hn];rfl
   have e2:((List.range s.l.length).all λi=>i==0||(wN S.E g [] (j_ (rows s.l) i) (j_ (rows s.l) (i-1))).isSome)=true:=by
    refine List.all_eq_true.2 λi hi=>?_
    by_cases h0:i=0
    .subst h0;rfl
    .obtain⟨b,_,hb⟩:=e1 i (by omega) (List.mem_range.1 hi)
     rw[hb];simp
   rw[if_pos e2];have e3:kept (λi=>(wN S.E g [] (j_ (rows s.l) i) (j_ (rows s.l) (i-1))).getD false) s.l.length=kept (λi=>(qR s.l p i).getD false) s.l.length:=by
    unfold kept;refine List.filter_congr λi hi=>?_
    by_cases h0:i=0
    .subst h0;rfl
    .obtain⟨b,h3,h4⟩:=e1 i (by omega) (List.mem_range.1 hi)
     simp only[h3,h4]
   rw[e3];have e4:(s.qL ((kept (λi=>(qR s.l p i).getD false) s.l.length).filterMap (s.l[·]?))).l=(kept (λi=>(qR s.l p i).getD false) s.l.length).filterMap (s.l[·]?):=by
    cases s <;> first|rfl|(exact absurd rfl he)
   rw[e4]
   congr 1
   generalize hk:kept (λi=>(qR s.l p i).getD false) s.l.length=ks
   have hlt:∀i∈ks,i<s.l.length:=λi hi=>GJ (hk▸hi)
   clear hk e3 e4
   induction ks with
   | nil=>rfl
   | cons i ks ih=>
    have hi:=hlt i (by simp)
    rw[List.map_cons,ih λj hj=>hlt j (List.mem_cons_of_mem _ hj),vJ _ _ hi,List.filterMap_cons,ζd hi]
    rfl
 .cases h
theorem MK {s s':Sl α} {p:α->α->Option Int} (h:vQ s p=some s') (hk:bA s.k=false):s'=s:=by
 cases s <;> simp[Sl.k,bA]at hk <;> simpa [vQ,Sl.l]using h.symm
theorem Sv (n d:Nat) (hT:pO S T) (hI:∀f a b xs,S.items f a b=some xs->dU S f a b xs) {fn g:FuncId} (hp:S.prm fn=some (pQ S.E)) {p:α->α->Option Int}
 (F:jk S (cz S T) g (λz:α×α=>[enc z.1,enc z.2]) (λr:Int=>[.int .i64 r]) (λz=>p z.1 z.2) true) {s:Sl α} {f:Sl α->Option γ}
 (h:∀s',vQ s p=some s'->Le ((f s').bind e) (bn S (cz S T) Q (nx S (cz S T) n cf λq=>bV { q.st with m:=aO q.st.m d (bZ s') } q.d (.v .undef))))
 (h1:aA.size α=1:=by rfl) (ha:aA.agg α=false:=by rfl)
 (hL:(eV S (cz S T) n cf).map (λq=>(q.k,aW S.N q.st.g q.az,ai q.st.m d,q.dr))=some (.c,some [.v (.clo fn [] []),.own d,.v (.clo g [] [])],some (bZ s),false):=by kernel_rfl):Le (((vQ s p).bind f).bind e) (bn S (cz S T) Q cf):=by
 obtain⟨q,hq,hv⟩:=dK hL;simp only[ζc]at hv;obtain⟨v1,v2,v3,v4⟩:=hv;refine uu hq ?_ h;rw[v1,v4];intro y hy;obtain⟨s',hs',hy⟩:=ζg.1 hy;cases hy;obtain⟨e1,e2⟩:=OY hT hI F h1 ha hs';have hk:=(hT.prm fn _ hp).keep;have ho:=(hT.prm fn _ hp).own;rw[Dr false _ _ _ _ _ _ fn [.own d,.v (.clo g [] [])] v2 rfl];have hc:fQ S (cz S T) q.d false (!false||q.now) (fA q.st.m q.fr) fn [.own d,.v (.clo g [] [])] q.st=some (.v .undef,{ q.st with m:=aO q.st.m d (bZ s') }):=by
  unfold fQ;simp only[hk,ho,Bool.not_false,Bool.true_or,if_true,Bool.false_eq_true,if_false,hp,zM,v3,bZ,cV,Option.map_some];have e3:(pQ S.E).go (aA.size α) (rows s.l) [.clo g [] []]=some (rows s'.l):=e1;rw[e3];simp only[pQ,Bool.false_eq_true,if_false]
  cases hr:bA s.k with
  | true=>simp only[if_true,e2]
  | false=>have:=MK hs' hr;subst this;simp
 rw[hc];rfl
theorem SL (n d t:Nat) (hT:pO S T) (hI:∀f a b xs,S.items f a b=some xs->dU S f a b xs) {fn g:FuncId} (hp:S.prm fn=some (qC S.E)) {p:α->α->Option Bool}
 (F:jk S (cz S T) g (λz:α×α=>[enc z.1,enc z.2]) (λr:Bool=>[.bool r]) (λz=>p z.1 z.2) true) {s:Sl α} {f:Sl α->Option γ}
 (h:∀s',uU s p=some s'->Le ((f s').bind e) (bn S (cz S T) Q (nx S (cz S T) n cf λq=>{ q.st with g:=aO q.st.g t (.own t),m:=aO (cM d q.st.m) t (bZ s') })))
 (h1:aA.size α=1:=by rfl) (ha:aA.agg α=false:=by rfl)
 (hL:(eV S (cz S T) n cf).map (λq=>(q.k,aW S.N q.st.g q.az,ai q.st.m d,q.dr,q.d,St.new { q.st with m:=cM d q.st.m } t))=some (.c,some [.v (.clo fn [] []),.own d,.v (.clo g [] [])],some (bZ s),false,some t,true):=by kernel_rfl):Le (((uU s p).bind f).bind e) (bn S (cz S T) Q cf):=by
 obtain⟨q,hq,hv⟩:=dK hL;simp only[ζc]at hv;obtain⟨v1,v2,v3,v4,v5,v6⟩:=hv;refine uu hq ?_ h;rw[v1,v4,v5];intro y hy;obtain⟨s',hs',hy⟩:=ζg.1 hy;cases hy;obtain⟨e1,e2⟩:=NZ hT hI F h1 ha hs';have hk:=(hT.prm fn _ hp).keep;have ho:=(hT.prm fn _ hp).own;rw[Dr false _ _ _ _ _ _ fn [.own d,.v (.clo g [] [])] v2 rfl];have hc:fQ S (cz S T) (some t) false (!false||q.now) (fA q.st.m q.fr) fn [.own d,.v (.clo g [] [])] q.st=some (.own t,{ q.st with m:=aO (cM d q.st.m) t (bZ s') }):=by
  unfold fQ;simp only[hk,ho,Bool.not_false,Bool.true_or,if_true,Bool.false_eq_true,if_false,hp,zM,v3,bZ,cV,Option.map_some];have e3:(qC S.E).go (aA.size α) (rows s.l) [.clo g [] []]=some (rows s'.l):=e1;rw[e3];simp only[qC,if_true,v6];have e4:(if bA s.k=true then aL.sl .part (aA.size α) (rows s'.l)else .sl s.k (aA.size α) (rows s.l))=.sl s'.k (aA.size α) (rows s'.l):=by
   rw[e2];cases s <;> rfl
  rw[e4]
 rw[hc];rfl
end
end
end Go.VE
namespace Go.VE
variable [aS]
section
variable {H H':ak} {w:V} {o:Nat} {ids:List Nat} {rows:List (List V)}
theorem kA.cell (n:kA H w o ids rows) {p j:Nat} {r:List V} {u:V} (hr:rows[p]? = some r) (hu:r[j]? = some u) :
 ∃id,ids[p]? = some id/\jV 1 w (p:Int)=some (.hptr o p 0)/\dy H (.load 1 false) [.hptr o p 0]=some (.hsl id 1 0 r.length)/\jV 1 (.hsl id 1 0 r.length) (j:Int)=some (.hptr id j 0)/\dy H (.load 1 false) [.hptr id j 0]=some u:=by
 have hp:=(ζe.1 hr).1;have hj:=(ζe.1 hu).1;have hne:rows≠[]:=by intro e;subst e;simp at hr
 have hpi:p<ids.length:=by rw[n.len];exact hp
 have hid:=ζd hpi;refine⟨ids[p],hid,?_,?_,?_,?_⟩
 .have:=n.v;rw[if_neg hne]at this;subst this;simp[jV,hp]
 .have h1:=n.ob hne;have h2:=zX hid hr;simp[dy,cN,h1,Ob.rows,h2,cut];rfl
 .simp[jV,hj]
 .have h1:=n.r p _ r hid hr;simp[dy,cN,h1,Ob.rows,gG,hu,cut];rfl
theorem Jb {ids:List Nat} (h:ids.Nodup) {i j:Nat} {a:Nat} (hi:ids[i]? = some a) (hj:ids[j]? = some a):i=j:=by
 have h1:=(ζe.1 hi);have h2:=(ζe.1 hj);obtain⟨h1,e1⟩:=h1;obtain⟨h2,e2⟩:=h2;exact(List.getElem_inj h).1 (e1.trans e2.symm)
theorem kA.set (n:kA H w o ids rows) {p j id:Nat} {r:List V} {u:V} (hr:rows[p]? = some r) (hj:j<r.length) (hid:ids[p]? = some id) (hu:V.one u=true) (hc:u.cells=[u]) :
 ∃H',dI H (.store 1) [.hptr id j 0,u]=some (.undef,H')/\kA H' w o ids (rows.set p (r.set j u))/\H'.length=H.length/\(∀i,i≠id->H'[i]? = H[i]?):=by
 have hp:=(ζe.1 hr).1;have hne:rows≠[]:=by intro e;subst e;simp at hr
 have h1:=n.r p id r hid hr;have hl:id<H.length:=(ζe.1 h1).1;have hset:(gG r).set j [u]=gG (r.set j u):=by simp[gG,List.map_set]
 have hoid:o≠id:=λe=>n.ne hne (e▸List.mem_of_getElem? hid)
 refine⟨H.set id (.row 1 (gG (r.set j u))),?_,⟨?_,λ_=>?_,by simp[n.len],λi id' r' hi hr'=>?_,n.nd,λ_=>n.ne hne⟩,by simp,λi hi=>List.getElem?_set_ne (Ne.symm hi)⟩
 .have h2:(gG r)[j]? = some [r[j]]:=by simp[gG,hj]
  simp only[dI,h1,h2,hc,List.length_singleton,Nat.zero_add,Nat.le_refl,List.all_cons,hu,List.all_nil,Bool.and_self,and_self,if_true,List.take_zero,List.nil_append];rw[<-hset];simp
 .rw[n.v];have:rows.set p (r.set j u)≠[]:=by intro e;apply hne;simpa using e
  rw[if_neg hne,if_neg this,List.length_set]
 .rw[List.getElem?_set_ne (Ne.symm hoid),ED hr (by simp)];exact n.ob hne
 .by_cases e:i=p
  .subst e;rw[hid]at hi;cases hi;rw[List.getElem?_set_self hp]at hr';cases hr';rw[List.getElem?_set_self hl]
  .rw[List.getElem?_set_ne (Ne.symm e)]at hr';have hne':id≠id':=λe'=>e (Jb n.nd (e'▸hi) hid)
   rw[List.getElem?_set_ne hne'];exact n.r i id' r' hi hr'
end
structure iQ (H:ak) (w:V) (l:List (List V)) (id:Nat):Prop where
 c:∀c∈l,c.length=2/\c.all V.one=true
 v:(w=.aF/\l=[])\/∃off xs,w=.hsl id 2 off l.length/\H[id]? = some (.row 2 xs)/\off+l.length<=xs.length/\(xs.drop off).take l.length=l
section
variable {H H':ak} {w:V} {l:List (List V)} {id:Nat}
theorem iQ.heap (n:iQ H w l id) (h:∀off n,w=.hsl id 2 off n->H'[id]? = H[id]?):iQ H' w l id:=
 ⟨n.c,n.v.imp (λh=>h) λ⟨off,xs,e1,e2,e3,e4⟩=>⟨off,xs,e1,by rw[h _ _ e1];exact e2,e3,e4⟩⟩
theorem iQ.lt (n:iQ H w l id) {off m:Nat} (h:w=.hsl id 2 off m):id<H.length:=by
 rcases n.v with⟨e,_⟩|⟨_,xs,_,e2,_⟩
 .rw[e]at h;cases h
 .exact(ζe.1 e2).1
theorem iQ.more (n:iQ H w l id) (X:ak):iQ (H++X) w l id:=n.heap λ_ _ e=>List.getElem?_append_left (n.lt e)
theorem iQ.len (n:iQ H w l id):mq w=some (.int .i64 l.length):=by
 rcases n.v with⟨rfl,rfl⟩|⟨off,xs,rfl,_⟩ <;> rfl
theorem iQ.get (n:iQ H w l id) {i:Nat} {c:List V} (hc:l[i]? = some c):∃p,jV 2 w (i:Int)=some p/\dy H (.load 2 true) [p]=some (.agg c):=by
 have hi:=(ζe.1 hc).1;have hcl:=(n.c c (List.mem_of_getElem? hc)).1;rcases n.v with⟨_,rfl⟩|⟨off,xs,rfl,e2,e3,e4⟩
 .simp at hc
 .refine⟨.hptr id (off+i) 0,by simp[jV,hi],?_⟩
  have:xs[off+i]? = some c:=by
   rw[<-e4,List.getElem?_take,if_pos hi,List.getElem?_drop]at hc;exact hc
  simp[dy,cN,e2,Ob.rows,this,cut,<-hcl];rfl
theorem iQ.tail {c:List V} (n:iQ H w (c::l) id):∃w',fL 2 w (some 1) none=some w'/\iQ H w' l id/\∃off m off',w=.hsl id 2 off m/\w'=.hsl id 2 off' l.length:=by
 rcases n.v with⟨_,e⟩|⟨off,xs,rfl,e2,e3,e4⟩
 .cases e
 .refine⟨.hsl id 2 (off+1) l.length,?_,⟨λc hc=>n.c c (List.mem_cons_of_mem _ hc),.inr ⟨off+1,xs,rfl,e2,by simp at e3;omega,?_⟩⟩,⟨_,_,_,rfl,rfl⟩⟩
  .simp[fL,cE];omega
  .have hd:(xs.drop off).drop 1=xs.drop (off+1):=by rw[List.drop_drop]
   rw[<-hd];have:=congrArg (List.drop 1) e4;rw[List.drop_take]at this;simpa using this
theorem iQ.push (n:iQ H w l id) {c:List V} (hc:c.length=2/\c.all V.one=true) (hl:l.length+1<=2147483648) :
 ∃H',dI (H++[.row 2 [c]]) (.append 2) [w,.hsl H.length 2 0 1]=some (.hsl (H.length+1) 2 0 (l.length+1),H')/\iQ H' (.hsl (H.length+1) 2 0 (l.length+1)) (l++[c]) (H.length+1)/\H'.length=H.length+2/\(∀i,i<H.length->(∀off m,w=.hsl id 2 off m->i≠id)->H'[i]? = H[i]?):=by
 have e2:cF (H++[.row 2 [c]]) 2 (.hsl H.length 2 0 1)=some [c]:=by simp[cF,Ob.rows]
 have hcs:∀c'∈l++[c],c'.length=2/\c'.all V.one=true:=λc' h=>by
  rcases List.mem_append.1 h with h|h
  .exact n.c c' h
  .simp at h;subst h;exact hc
 rcases n.v with⟨rfl,rfl⟩|⟨off,xs,rfl,g2,g3,g4⟩
 .have e1:cF (H++[.row 2 [c]]) 2 .aF=some []:=rfl;refine⟨H++[.row 2 [c]]++[.row 2 [c]],?_,⟨hcs,.inr ⟨0,[c],rfl,by simp,by simp,rfl⟩⟩,by simp,λi hi _=>by rw[List.append_assoc,List.getElem?_append_left hi]⟩
  simp only[dI,e1,e2,gj,List.length_nil,List.length_singleton,Option.map_some];simp
 .have hid:=(ζe.1 g2).1;have e1:cF (H++[.row 2 [c]]) 2 (.hsl id 2 off l.length)=some l:=by
   simp only[cF,if_true,List.getElem?_append_left hid,g2,ζb,Ob.rows,g3,g4]
  have eg:gj (H++[.row 2 [c]]) (.hsl id 2 off l.length)=some (List.set (H++[Ob.row 2 [c]]) id Ob.dead):=by
   simp only[gj,List.getElem?_append_left hid,g2]
  refine⟨List.set (H++[Ob.row 2 [c]]) id Ob.dead++[Ob.row 2 (l++[c])],?_,⟨hcs,.inr ⟨0,l++[c],by simp,by simp,by simp,List.take_of_length_le (by simp)⟩⟩,by simp,λi hi h=>?_⟩
  .simp only[dI,e1,e2,eg,List.length_singleton,hl,if_true,Option.map_some,ζi]
  .rw[List.getElem?_append_left (by simp;omega),List.getElem?_set_ne (Ne.symm (h _ _ rfl)),List.getElem?_append_left hi]
end
noncomputable def B0 (rs:List RV):Out×St->Option aL
 | (.exit _,_)=>none
 | (_,st)=>(mN st rs).bind λl=>match l with
  | [.own d]=>ai st.m d
  | _=>none
theorem Tj {S:Sys} {c:bG} {rs:List RV} {rc:RC} {st:St} {ob:aL} (h:lC S c (B0 rs) rc [] st=some ob):∃o st' d,bz S c rc st=some (o,st')/\(∀id,o≠.exit id)/\mN st' rs=some [.own d]/\ai st'.m d=some ob:=by
 rw[tv]at h;obtain⟨⟨o,st'⟩,h1,h2⟩:=ζg.1 h;have ho:∀id,o≠.exit id:=by rintro id rfl;simp[B0]at h2
 have h3:(mN st' rs).bind (λl=>match l with|[.own d]=>ai st'.m d|_=>none)=some ob:=by
  cases o with
  | exit id=>exact absurd rfl (ho id)
  | norm=>exact h2
  | ret=>exact h2
 obtain⟨l,h4,h5⟩:=ζg.1 h3;split at h5
 .exact⟨o,st',_,h1,ho,h4,h5⟩
 .cases h5
theorem Qk {S:Sys} {T:qM} (hT:pO S T) (hI:∀f a b xs,S.items f a b=some xs->dU S f a b xs) {f:FuncId} {rf:RF} (hf:T f=some rf) {av:List V} (hg:V.bF av=true) (hn:av.length<=rf.na) {k:Fl} {es:Nat} {xs:List (List V)}
 (hx:∀x∈xs,x.all V.scalar=true) (hk:k=.row\/k=.nil/\xs=[]) (h:lC S (cz S T) (B0 rf.rs) rf.body [] (start (av.map .v) [])=some (.sl k es xs)) :
 ∃n y H',run S.E n (.fn f) av []=some (y,H')/\((k=.nil/\y=.aF)\/(∃id,y=.hsl id es 0 xs.length/\H'[id]? = some (.row es xs))):=by
 obtain⟨o,st',d,h1,h2,h3,h4⟩:=Tj h;have hc:cz S T f (av.map .v) []=some ([.own d],st'.m):=by
  rw[zJ hf];unfold oJ;rw[if_pos (by simpa using hn),h1]
  cases o with
  | exit id=>exact absurd rfl (h2 id)
  | norm=>simp only[h3,Option.map_some]
  | ret=>simp only[h3,Option.map_some]
 obtain⟨r0,r1⟩:=uj hg;obtain⟨n,y,H2,ν',Z',st2,F',ys,g1,rfl,g3,g4,g5,_⟩:=vg hT hI f _ _ _ _ hc _ _ av [] (.inr rfl) r0 r1;obtain⟨z,zs,rfl,e1,e2⟩:=g4.inv;have:=e2.bO;subst this;refine⟨n,_,H2,g1,?_⟩
 cases e1 with
 | own d y hy=>
  obtain⟨k',es',xs',e,hyv⟩:=hy _ h4;cases e;have hob:=g5.obj d _ (by rw[g3];exact h4)
  rcases hk with rfl|⟨rfl,rfl⟩
  .right;simp only[cZ,bA,if_true]at hob;obtain⟨ys,q1,q2,q3,q4,q5⟩:=hob;obtain⟨q5,q6⟩:=q5 trivial;rw[q5,List.drop_zero,<-q6,List.take_of_length_le (Nat.le_refl _)]at q3;have:xs=ys:=by
    refine List.ext_getElem q3.1 λi p q=>?_
    have hi:=q3.2 i _ _ (ζd p) (ζd q);refine List.ext_getElem hi.1 λj p' q'=>?_
    have hj:=hi.2 j _ _ (ζd p') (ζd q');exact((hj.scalar).1 (List.all_eq_true.1 (hx _ (List.getElem_mem p)) _ (List.getElem_mem p'))).symm
   subst this;refine⟨(ν' d).1,?_,q1⟩;show result [_]=_;rw[hyv];simp[result,qT,q5]
  .left;exact⟨rfl,by show result [_]=_;rw[hyv];rfl⟩
theorem Er {E:Env} {f:FuncId} {av:List V} {l:List (List V)} {y:V} {H1:ak} (hk:E.own f=true) (hg:V.bF av=true) (hl:∀c∈l,c.length=2/\c.all V.one=true/\c.all V.scalar=true)
 (hr:∃n,∀k,n<=k->run E k (.fn f) av []=some (y,H1)) (hy:(l=[]/\y=.aF)\/(∃id,y=.hsl id 2 0 l.length/\H1[id]? = some (.row 2 l))) (H:ak) :
 ∃w X id,(∃n,∀k,n<=k->dL E (run E k) f av H=some (w,H++X))/\iQ (H++X) w l id/\(∀off m,w=.hsl id 2 off m->id=H.length):=by
 obtain⟨n,hr⟩:=hr;have hb:∀{l:List V},V.bF l=true->borrows 8 H l=some l:=by
  intro l;unfold borrows
  induction l with
  | nil=>intro _;rfl
  | cons a l ih=>
   intro h;have h1:V.good a=true/\V.bF l=true:=by simpa [V.bF]using h
   simp only[iG,cQ 8 H (V.je h1.1),ih h1.2]
 rcases hy with⟨rfl,rfl⟩|⟨id,rfl,hid⟩
 .refine⟨.aF,[],0,⟨n,λk hk'=>?_⟩,⟨λc h=>by simp at h,.inl ⟨rfl,rfl⟩⟩,λoff m h=>by cases h⟩
  simp only[dL,hk,if_true,jG,hb hg,hr k hk',V.scalar,List.append_nil]
 .refine⟨.hsl H.length 2 0 l.length,[.row 2 l],H.length,⟨n,λk hk'=>?_⟩,⟨λc h=>⟨(hl c h).1,(hl c h).2.1⟩,.inr ⟨0,l,rfl,by simp,by simp,by simp⟩⟩,λoff m h=>rfl⟩
  have hs:(l.all λx=>x.all V.scalar)=true:=List.all_eq_true.2 λc h=>(hl c h).2.2
  simp only[dL,hk,if_true,jG,hb hg,hr k hk',V.scalar,Bool.false_eq_true,if_false,oZ,hid,hs,and_self,Option.map_some]
end Go.VE
namespace Go.VE
variable [aS]
def Sl.whole {α:Type} (s:Sl α):Option (Sl α):=match s with|.part _=>none|s=>some s
structure Aa (S:Sys) (c:bG) {α δ:Type} [aA δ] (fn:FuncId) (A:α->List V) (p:α->Option (Sl δ)):Prop where
 k:S.E.keep fn=true
 o:S.E.own fn=true
 h:∀z s,p z=some s->∃e m',c fn ((A z).map .v) []=some ([.own e],m')/\ai m' e=some (bZ s)
 l:∀z,V.bU 8 (A z)=true
 sc:∀x:δ,(cells x).all V.scalar=true
theorem Aa.mk' {S:Sys} {T:qM} {α δ:Type} [aA δ] (rf:RF) {fn:FuncId} {A:α->List V} {p:α->Option (Sl δ)} (h:∀z,Le ((p z).bind λr=>some (bZ r)) (bn S (cz S T) (B0 rf.rs) (.rc rf.body,[],start ((A z).map .v) [])))
 (hT:T fn=some rf:=by kernel_rfl) (hk:S.E.keep fn=true:=by kernel_rfl) (ho:S.E.own fn=true:=by kernel_rfl) (hn:∀z,(A z).length<=rf.na:=by intro z;exact Nat.le_of_ble_eq_true (by kernel_rfl))
 (l:∀z,V.bU 8 (A z)=true:=by intro z;simp) (sc:∀x:δ,(cells x).all V.scalar=true:=by intro x;rfl):Aa S (cz S T) fn A p where
 k:=hk
 o:=ho
 l:=l
 sc:=sc
 h z s hs:=by
  have h1:=h z (bZ s) (by rw[hs];rfl)
  change lC S (cz S T) (B0 rf.rs) rf.body [] (start ((A z).map .v) [])=some (bZ s)at h1;obtain⟨o,st',d,g1,g2,g3,g4⟩:=Tj h1;refine⟨d,st'.m,?_,g4⟩;rw[zJ hT];unfold oJ;rw[if_pos (by simpa using hn z),g1]
  cases o with
  | exit id=>exact absurd rfl (g2 id)
  | norm=>simp only[g3,Option.map_some]
  | ret=>simp only[g3,Option.map_some]
section
variable {S:Sys} {c:bG} {β γ δ α:Type} [aA δ] {Q:Out×St->Option β} {e:γ->Option β} {cf:Cf}
theorem B3 (n u:Nat) {fn:FuncId} {A:α->List V} {p:α->Option (Sl δ)} (F:Aa S c fn A p) (z:α) {f:Sl δ->Option γ}
 (h:∀x,(p z).bind Sl.whole=some x->Le ((f x).bind e) (bn S c Q (nx S c n cf λq=>{ q.st with g:=aO q.st.g u (.own u),m:=aO q.st.m u (bZ x) })))
 (hL:(eV S c n cf).map (λq=>(q.d,q.k,(aW S.N q.st.g q.az).bind oN,(!q.dr||q.now),q.st.new u))=some (some u,.c,some (fn,(A z).map .v),true,true):=by kernel_rfl):Le ((((p z).bind Sl.whole).bind f).bind e) (bn S c Q cf):=by
 obtain⟨q,hq,hv⟩:=dK hL;simp only[ζc]at hv;obtain⟨v1,v2,v3,v4,v5⟩:=hv;obtain⟨svs,g1,g2⟩:=ζg.1 v3;refine uu hq ?_ h;rw[v1,v2];intro y hy;obtain⟨s',hs',hy⟩:=ζg.1 hy;cases hy;obtain⟨s,hs,hw⟩:=ζg.1 hs';obtain⟨e0,m',hc,hm⟩:=F.h z s hs;rw[Dr q.dr _ _ _ _ _ svs fn ((A z).map .v) g1 g2];have hcall:fQ S c (some u) q.dr (!q.dr||q.now) (fA q.st.m q.fr) fn ((A z).map .v) q.st=some (.own u,{ q.st with m:=aO q.st.m u (bZ s') }):=by
  unfold fQ;simp only[F.k,F.o,if_true,v4,uF,F.l z,hc,cV,hm,bZ,v5]
  cases s with
  | nil=>cases hw;rfl
  | emp=>cases hw;rfl
  | row l=>
   cases hw;have:mJ (rows l)=true:=by
    unfold mJ;rw[List.all_eq_true];intro x hx;obtain⟨a,_,rfl⟩:=List.mem_map.1 hx;exact F.sc a
   simp only[Sl.k,Sl.l,cV,V.bu,this,Bool.and_self,v5,if_true];rfl
  | part l=>cases hw
 rw[hcall];rfl
end
end Go.VE
namespace Go.VE
variable [aS]
structure GD where
 m:Nat
 pre:List (Nat×List Gh)
 nd:List (Nat×List Gh×List Gh)
structure GI where
 m:Nat
 i:Nat
 j:Nat
def Ti {α:Type} (l:List (Nat×List α)) (i:Nat):List α:=match l with
 | []=>[]
 | (k,x)::r=>bif Nat.beq k i then x else Ti r i
def xS (l:List (Nat×List Gh×List Gh)) (i:Nat):List Gh×List Gh:=match l with
 | []=>([],[])
 | (k,x)::r=>bif Nat.beq k i then x else xS r i
def HP (m:Nat):List Nat->List Nat
 | []=>[]
 | x::l=>bif Nat.beq (m % 2) 1 then x::HP (m / 2) l else HP (m / 2) l
def MH:List Arg->List Nat
 | []=>[]
 | .s n::r=>n::MH r
 | _::r=>MH r
def SI (o:RO):List Nat:=(match o.dst with|some d=>[d]|none=>[])++(match o.gd with|some g=>[g.1]|none=>[])++MH o.az
def UA (G:GD) (s:GI) (o:RO):RO:={ o with dead:=HP (bif Nat.beq (s.m % 16) 15 then s.m / 16 % 65536 else s.m % 16) (SI o),pre:=Ti G.pre s.i }
def GI.op (s:GI):GI:=⟨bif Nat.beq (s.m % 16) 15 then s.m / 1048576 else s.m / 16,s.i+1,s.j⟩
def wV (G:GD):List RO->GI->List RO×GI
 | [],s=>([],s)
 | o::r,s=>(UA G s o::(wV G r s.op).1,(wV G r s.op).2)
def xM:List Gh->RC->RC
 | [],c=>c
 | g::l,c=>.gh g (xM l c)
def Kn:List Gh->RC->RC
 | [],c=>c
 | g::l,c=>Kn l (.hg c g)
def GI.nd (s:GI):GI:=⟨s.m,s.i,s.j+1⟩
def gO (G:GD):RC->GI->RC×GI
 | .seq a b,s=>(xM (xS G.nd s.j).1 (.seq (gO G a s.nd).1 (gO G b (gO G a s.nd).2).1),(gO G b (gO G a s.nd).2).2)
 | .cond x a b,s=>(xM (xS G.nd s.j).1 (.cond x (gO G a s.nd).1 (gO G b (gO G a s.nd).2).1),(gO G b (gO G a s.nd).2).2)
 | .block id a,s=>(xM (xS G.nd s.j).1 (.block id (gO G a s.nd).1),(gO G a s.nd).2)
 | .loop a,s=>(xM (xS G.nd s.j).1 (.loop (Kn (xS G.nd s.j).2 (gO G a s.nd).1)),(gO G a s.nd).2)
 | .each g ps a b,s=>(xM (xS G.nd s.j).1 (.each g ps (gO G a s.nd).1 (Kn (xS G.nd s.j).2 (gO G b (gO G a s.nd).2).1)),(gO G b (gO G a s.nd).2).2)
 | .ops l,s=>(xM (xS G.nd s.j).1 (.ops (wV G l s.nd).1),(wV G l s.nd).2)
 | .mB l,s=>(xM (xS G.nd s.j).1 (.mB (wV G l s.nd).1),(wV G l s.nd).2)
 | .gh g c,s=>(.gh g c,s)
 | .hg c g,s=>(.hg c g,s)
 | c,s=>(xM (xS G.nd s.j).1 c,s.nd)
theorem js (c:RC):∀l,erase (xM l c)=erase c
 | []=>rfl
 | g::l=>by simp only[xM,erase,js c l]
theorem xD:∀l (c:RC),erase (Kn l c)=erase c
 | [],c=>rfl
 | g::l,c=>by simp only[Kn,xD l,erase]
theorem vL (G:GD):∀(l:List RO) s,((wV G l s).1).map RO.strip=l.map RO.strip
 | [],s=>rfl
 | o::r,s=>by simp only[wV,List.map_cons,vL G r];rfl
theorem jU (G:GD):∀(c:RC) s,erase (gO G c s).1=erase c
 | .seq a b,s=>by simp only[gO,js,erase,jU G a,jU G b]
 | .cond x a b,s=>by simp only[gO,js,erase,jU G a,jU G b]
 | .block id a,s=>by simp only[gO,js,erase,jU G a]
 | .loop a,s=>by simp only[gO,js,erase,xD,jU G a]
 | .each g ps a b,s=>by simp only[gO,js,erase,xD,jU G a,jU G b]
 | .ops l,s=>by simp only[gO,js,erase,vL]
 | .mB l,s=>by simp only[gO,js,erase,vL]
 | .gh g c,s=>rfl
 | .hg c g,s=>rfl
 | .skip,s=>by simp only[gO,js]
 | .ret,s=>by simp only[gO,js]
 | .exit _,s=>by simp only[gO,js]
theorem FL {X:CX} {dr:Bool} {ops:List Oper} {i:Nat} {o:Oper} {r:RO} (h:lP X dr ops i o=some r):r.strip=r:=by
 unfold lP at h;split at h
 .split at h
  .split at h
   .obtain⟨az,_,rfl⟩:=ζf.1 h;rfl
   .cases h
  .cases h
 .cases h
theorem uZ {X:CX} {dr:Bool} {ops:List Oper}:∀{l:List Oper} {i:Nat} {r:List RO},jH X dr ops i l=some r->r.map RO.strip=r
 | [],i,r,h=>by cases h;rfl
 | o::l,i,r,h=>by
  simp only[jH]at h;split at h
  .rename_i a b ha hb;cases h;simp only[List.map_cons,FL ha,uZ hb]
  .cases h
theorem Fs {X:CX}:∀{c:Code} {ro:Bool} {r:RC},aJ X ro c=some r->erase r=r:=by
 intro c
 induction c with
 | region _ ops dr=>
  intro ro r h;simp only[aJ]at h;split at h
  .split at h
   .obtain⟨l,h1,rfl⟩:=ζf.1 h;simp only[erase,uZ h1]
   .cases h
  .obtain⟨l,h1,rfl⟩:=ζf.1 h;simp only[erase,uZ h1]
 | seq a b iha ihb=>
  intro ro r h;simp only[aJ]at h;split at h
  .rename_i h1 h2;cases h;simp only[erase,iha h1,ihb h2]
  .cases h
 | cond c a b iha ihb=>
  intro ro r h;simp only[aJ]at h;split at h
  .rename_i h1 h2;cases h;simp only[erase,iha h1,ihb h2]
  .cases h
 | block id a iha=>
  intro ro r h;simp only[aJ]at h;obtain⟨l,h1,rfl⟩:=ζf.1 h;simp only[erase,iha h1]
 | loop a iha=>
  intro ro r h;simp only[aJ]at h;obtain⟨l,h1,rfl⟩:=ζf.1 h;simp only[erase,iha h1]
 | rangeFunc g ps a b iha ihb=>
  intro ro r h;simp only[aJ]at h;split at h
  .cases h
  .split at h
   .rename_i h1 h2;cases h;simp only[erase,iha h1,ihb h2]
   .cases h
 | _=>intro ro r h;first|cases h;rfl|(simp only[aJ]at h;cases h;rfl)|(simp only[aJ]at h;cases h)
def L6 (E:Env) (nm:FuncId->Option Nat) (G:FuncId->Option GD):qM:=λf=>
 (G f).bind λg=>(E.ft f).bind λfi=>(aJ ⟨E,nm,fi.ntmps⟩ false fi.body).bind λc=>(fi.results.mapM (ym E)).bind λrs=>some ⟨fi.ntmps,rs,(gO g c ⟨g.m,0,0⟩).1⟩
theorem K5 {E:Env} {nm:FuncId->Option Nat} {G:FuncId->Option GD} {f:FuncId} {rf:RF} (h:L6 E nm G f=some rf):∃fi,E.ft f=some fi/\wC E nm fi rf:=by
 unfold L6 at h;obtain⟨g,_,h⟩:=ζg.1 h;obtain⟨fi,h1,h⟩:=ζg.1 h;obtain⟨c,h2,h⟩:=ζg.1 h;obtain⟨rs,h3,h⟩:=ζg.1 h;cases h;exact⟨fi,h1,by rw[h2,jU,Fs h2],h3,rfl⟩
theorem yf:∀(g:FuncId) (s:Nat),some g=some s->(λn=>n) s=g:=λ_ _ h=>(Option.some.inj h).symm
def zy (o:Option RF):RF:=o.getD ⟨0,[],.skip⟩
def tb (T:qM) (f:FuncId):RC:=(zy (T f)).body
def tr (T:qM) (f:FuncId):List RV:=(zy (T f)).rs
theorem P0 {o:Option RF} (h:o.isSome=true):o=some (zy o):=by cases o with
 | none=>cases h
 | some r=>rfl
class lZ (δ:Type) where
 e:δ->List V
instance U5 {α:Type} [aA α]:lZ α:=⟨λx=>[enc x]⟩
instance U3:lZ Unit:=⟨λ_=>[]⟩
instance U7 {α β:Type} [aA α] [lZ β]:lZ (α×β):=⟨λx=>enc x.1::lZ.e x.2⟩
@[simp] theorem UM {α:Type} [aA α] (x:α):lZ.e x=[enc x]:=rfl
@[simp] theorem UK (x:Unit):lZ.e x=[]:=rfl
@[simp] theorem UL {α β:Type} [aA α] [lZ β] (x:α×β):lZ.e x=enc x.1::lZ.e x.2:=rfl
class Fc (S:Sys) (c:bG) {δ:Type} (m:Option δ) where
 n:FuncId
 az:List V
 E:δ->List V
 sc:Bool
 F:jk S c n (λ_:Unit=>az) E (λ_=>m) sc
section
variable {S:Sys} {T:qM} {δ:Type} {m:Option δ}
theorem jk.LD {E:δ->List V} (fn:FuncId) (az:List V) (h:Le (m.bind λr=>some (E r)) (bn S (cz S T) (oV (tr T fn)) (.rc (tb T fn),[],start (az.map .v) [])))
 (hT:(T fn).isSome=true) (hk:S.E.keep fn=false) (hn:Nat.ble az.length (zy (T fn)).na=true)
 (l:V.bU 8 az=true) (r:∀r,V.lvl 8 (result (E r))=true) {sc:Bool} (s:sc=true->∀r,(result (E r)).scalar=true):jk S (cz S T) fn (λ_:Unit=>az) E (λ_=>m) sc where
 k:=hk
 h z:=Us (P0 hT) (Nat.le_of_ble_eq_true hn) h
 l _:=l
 r:=r
 s:=s
abbrev Fc.NE (E:δ->List V) (fn:FuncId) (az:List V) (h:Le (m.bind λr=>some (E r)) (bn S (cz S T) (oV (tr T fn)) (.rc (tb T fn),[],start (az.map .v) [])))
 (hT:(T fn).isSome=true:=by kernel_rfl) (hk:S.E.keep fn=false:=by kernel_rfl) (hn:Nat.ble az.length (zy (T fn)).na=true:=by kernel_rfl)
 (l:V.bU 8 az=true:=by simp) (r:∀r,V.lvl 8 (result (E r))=true:=by intro r;simp):Fc S (cz S T) m:=
 ⟨fn,az,E,false,jk.LD fn az h hT hk hn l r λh=>nomatch h⟩
abbrev Fc.M [lZ δ] (fn:FuncId) (az:List V) (h:Le (m.bind λr=>some (lZ.e r)) (bn S (cz S T) (oV (tr T fn)) (.rc (tb T fn),[],start (az.map .v) [])))
 (hT:(T fn).isSome=true:=by kernel_rfl) (hk:S.E.keep fn=false:=by kernel_rfl) (hn:Nat.ble az.length (zy (T fn)).na=true:=by kernel_rfl)
 (l:V.bU 8 az=true:=by simp) (r:∀r:δ,V.lvl 8 (result (lZ.e r))=true:=by intro r;simp) (s:∀r:δ,(result (lZ.e r)).scalar=true:=by intro r;kernel_rfl):Fc S (cz S T) m:=
 ⟨fn,az,lZ.e,true,jk.LD fn az h hT hk hn l r λ_=>s⟩
abbrev Fc.N [lZ δ] (fn:FuncId) (az:List V) (h:Le (m.bind λr=>some (lZ.e r)) (bn S (cz S T) (oV (tr T fn)) (.rc (tb T fn),[],start (az.map .v) [])))
 (hT:(T fn).isSome=true:=by kernel_rfl) (hk:S.E.keep fn=false:=by kernel_rfl) (hn:Nat.ble az.length (zy (T fn)).na=true:=by kernel_rfl)
 (l:V.bU 8 az=true:=by simp) (r:∀r:δ,V.lvl 8 (result (lZ.e r))=true:=by intro r;simp):Fc S (cz S T) m:=
 ⟨fn,az,lZ.e,false,jk.LD fn az h hT hk hn l r λh=>nomatch h⟩
end
abbrev Fc.of {S:Sys} {c:bG} {α δ:Type} {p:α->Option δ} {n:FuncId} {A:α->List V} {E:δ->List V} {b:Bool} (z:α) (F:jk S c n A E p b):Fc S c (p z):=⟨n,A z,E,b,⟨F.k,λ_=>F.h z,λ_=>F.l z,F.r,F.s⟩⟩
theorem jk.wI {S:Sys} {c:bG} {α δ:Type} {p:α->Option δ} {n:FuncId} {A:α->List V} {E:δ->List V} {b:Bool} (F:∀z,Fc S c (p z)) (i:α) (hn:∀z,(F z).n=n) (ha:∀z,(F z).az=A z) (hE:∀z,(F z).E=E) (hs:∀z,(F z).sc=b):jk S c n A E p b where
 k:=by rw[<-hn i];exact(F i).F.k
 h z:=by rw[<-hn z,<-ha z,<-hE z];exact(F z).F.h ()
 l z:=by rw[<-ha z];exact(F z).F.l ()
 r:=by rw[<-hE i];exact(F i).F.r
 s:=by rw[<-hs i,<-hE i];exact(F i).F.s
theorem qG.wI {S:Sys} {c:bG} {α δ:Type} {p:α->Option δ} {g:FuncId} {w e:List V} {A:α->List V} {R:δ->List V} {b:Bool} [i:Inhabited α] [F:∀z,Fc S c (p z)] (hn:∀z,(F z).n=g:=by intro _;kernel_rfl) (ha:∀z,(F z).az=w++A z++e:=by intro _;kernel_rfl)
 (hE:∀z,(F z).E=R:=by intro _;kernel_rfl) (hs:∀z,(F z).sc=b:=by intro _;kernel_rfl) (hd:V.bU 7 e=true:=by simp) (hw:V.bU 7 w=true:=by simp):qG S c g w e A R p b:=
 ⟨jk.wI F default hn ha hE hs,hd,hw⟩
section
variable {S:Sys} {c:bG} {β γ δ α:Type} {Q:Out×St->Option β} {e:γ->Option β} {cf:Cf}
theorem xm (n:Nat) {m:Option β} (h:Le m (bn S c Q (gZ S c n cf))) (hL:fM S c n cf.1 cf.2.1 cf.2.2=some (gZ S c n cf):=by kernel_rfl):Le m (bn S c Q cf):=BG hL h
theorem aV (n:Nat) {m:Option δ} [F:Fc S c m] {f:δ->Option γ} (h:∀x,m=some x->Le ((f x).bind e) (bn S c Q (nx S c n cf λp=>bV p.st p.d (.v (result (F.E x))))))
 (hL:(eV S c n cf).map (λp=>(p.k,(aW S.N p.st.g p.az).bind oN,(!p.dr||p.now||fA p.st.m p.fr [])))=some (.c,some (F.n,F.az.map .v),true):=by kernel_rfl):Le ((m.bind f).bind e) (bn S c Q cf):=yM n F.F () h hL
theorem jS (n:Nat) {m:Option δ} [F:Fc S c m] {f:δ->Option γ} (h:∀x,m=some x->Le ((f x).bind e) (bn S c Q (nx S c n cf λp=>bV p.st p.d (.v (result (F.E x))))))
 (hL:(eV S c n cf).map (λp=>(p.k,((aW S.N p.st.g p.az).bind oN).bind λq=>(kR (fH p.st.m 8) q.2).map λvs=>(q.1,vs,((!p.dr||p.now)||fA p.st.m p.fr q.2))))=some (.c,some (F.n,F.az,true)):=by kernel_rfl) (hs:F.sc=true:=by kernel_rfl):Le ((m.bind f).bind e) (bn S c Q cf):=
 RI n (sc_eq hs F.F) () h hL
where
 sc_eq {b:Bool} {fn:FuncId} {az:List V} {E:δ->List V} {m:Option δ} (h:b=true) (F:jk S c fn (λ_:Unit=>az) E (λ_=>m) b):jk S c fn (λ_:Unit=>az) E (λ_=>m) true:=h▸F
def MW (cf:Cf):RC:=match cf.1 with|.rc (.loop c)=>c|_=>.skip
def AF (cf:Cf):Arg×List Nat×RC×RC:=match cf.1 with|.rc (.each g ps a b)=>(g,ps,a,b)|_=>(.s 0,[],.skip,.skip)
theorem dA {σ ε ρ:Type} {step:σ->Option (Fw σ ε ρ)} (n:Nat) (eσ:σ->St) (eε:ε->Nat×St) (eρ:ρ->St) {s:σ} {fx:ε->Option γ} {fr:ρ->Option γ}
 (h:∀s,Le ((step s).bind λw=>some (Fw.out eσ eε eρ w)) (bn S c some (.rc (MW (gZ S c n cf)),[],eσ s)))
 (hx:∀x,Le ((fx x).bind e) (bn S c Q (.ex (eε x).1,(gZ S c n cf).2.1,(eε x).2))) (hr:∀b,Le ((fr b).bind e) (Q (.ret,eρ b)))
 (hL:fM S c n cf.1 cf.2.1 cf.2.2=some (.rc (.loop (MW (gZ S c n cf))),(gZ S c n cf).2.1,eσ s):=by kernel_rfl):Le (((aZ step s).bind (Fw.elim fx fr)).bind e) (bn S c Q cf):=
 Jv hL h hx hr
theorem iU {σ ε:Type} {step:σ->Option (Fw σ ε Empty)} (n:Nat) (eσ:σ->St) (eε:ε->Nat×St) {s:σ} {fx:ε->Option γ} {fr:Empty->Option γ}
 (h:∀s,Le ((step s).bind λw=>some (Fw.out eσ eε (λe=>Empty.elim e) w)) (bn S c some (.rc (MW (gZ S c n cf)),[],eσ s)))
 (hx:∀x,Le ((fx x).bind e) (bn S c Q (.ex (eε x).1,(gZ S c n cf).2.1,(eε x).2)))
 (hL:fM S c n cf.1 cf.2.1 cf.2.2=some (.rc (.loop (MW (gZ S c n cf))),(gZ S c n cf).2.1,eσ s):=by kernel_rfl):Le (((aZ step s).bind (Fw.elim fx fr)).bind e) (bn S c Q cf):=
 Jv hL h hx λb=>Empty.elim b
theorem Dl {σ ε ρ:Type} {f:FuncId} {x y:List V} {items:List α} {eI:α->List V} {step:α->σ->Option (Fw σ ε ρ)} (n:Nat) (gt:Tb SV) (eσ:σ->Tb aL) (eε:ε->Nat×Tb aL) (eρ:ρ->Tb aL) {s:σ} {fn:σ->Option γ} {fx:ε->Option γ} {fr:ρ->Option γ}
 (hi:S.items f x y=some (items.map eI))
 (h:∀x s,Le ((step x s).bind λw=>some (Fw.tQ eσ eε eρ w)) (bn S c (vI S c (AF (gZ S c n cf)).2.2.2) (.rc (AF (gZ S c n cf)).2.2.1,[],⟨ue gt (AF (gZ S c n cf)).2.1 ((eI x).map .v),eσ s,ow gt,[],true,0⟩)))
 (hn:∀s,Le ((fn s).bind e) (bn S c Q (.nx,(gZ S c n cf).2.1,aQ gt (eσ s)))) (hx:∀x,Le ((fx x).bind e) (bn S c Q (.ex (eε x).1,(gZ S c n cf).2.1,aQ gt (eε x).2))) (hr:∀b,Le ((fr b).bind e) (Q (.ret,aQ gt (eρ b))))
 (hl:∀x,(eI x).length=(AF (gZ S c n cf)).2.1.length:=by intro _;kernel_rfl) (hg:oS S.N gt (AF (gZ S c n cf)).1=some (.v (.clo f x y)):=by kernel_rfl)
 (hL:fM S c n cf.1 cf.2.1 cf.2.2=some (.rc (.each (AF (gZ S c n cf)).1 (AF (gZ S c n cf)).2.1 (AF (gZ S c n cf)).2.2.1 (AF (gZ S c n cf)).2.2.2),(gZ S c n cf).2.1,aQ gt (eσ s)):=by kernel_rfl):Le (((mG step items s).bind (Fw.uJ fn fx fr)).bind e) (bn S c Q cf):=
 Qp hL hg hi hl h hn hx hr
noncomputable def Rj (n k:Nat) (dl:List Nat) (d:Nat) (S:Sys) (c:bG) (cf:Cf) (v:SV):Cf:=jmp k [] (gZ S c n cf) { (gZ S c n cf).2.2 with g:=aO (uh dl (gZ S c n cf).2.2.g) d v }
theorem br [aA δ] (n k:Nat) (dl:List Nat) (d:Nat) {m:Option δ} {f:δ->Option γ} (h2:Le (m.bind λr=>bn S c Q (Rj n k dl d S c cf (cv r))) (bn S c Q cf))
 (h1:∀r,Le ((f r).bind e) (bn S c Q (Rj n k dl d S c cf (cv r)))):Le ((m.bind f).bind e) (bn S c Q cf):=MR _ h2 h1
end
end Go.VE
namespace Go.VE
variable [aS]
instance {n:Nat}:DecidableEq (aC n Int):=λa b=>if h:a.l=b.l then .isTrue (by cases a;cases b;cases h;rfl)else .isFalse λe=>h (by rw[e])
theorem tg:∀l:List Int,fS ((l.map (cells (α:=Int))).flatten)=some l
 | []=>rfl
 | a::l=>by
  show fS (.int .i64 a::(l.map (cells (α:=Int))).flatten)=_;simp only[fS,tg l,Option.map_some]
theorem C7 (l:List Int):(l.map (cells (α:=Int))).flatten=l.map (V.int .i64):=by
 induction l with
 | nil=>rfl
 | cons a l ih=>simp only[List.map_cons,List.flatten_cons,ih];rfl
instance {n:Nat}:Key (aC n Int) where
 kk:=.ints n
 ok a:=by
  show ((a.l.map (cells (α:=Int))).flatten.length==n&&(fS (a.l.map (cells (α:=Int))).flatten).isSome)=true;rw[tg,C7,List.length_map,a.len];simp
 eq a b:=by
  show ji (a.l.map (cells (α:=Int))).flatten (b.l.map (cells (α:=Int))).flatten=_;unfold ji;rw[tg,tg];simp only[a.len,b.len,if_true]
  congr 1
  rw[Bool.eq_iff_iff,beq_iff_eq,decide_eq_true_iff];exact⟨λh=>by cases a;cases b;cases h;rfl,λh=>by rw[h]⟩
def oR (n:Nat) (s:Sl Int):aC n Int:=⟨th n s.l,by unfold th;simp;omega⟩
theorem u9:∀l:List Int,oG (l.map (cells (α:=Int)))=some l
 | []=>rfl
 | a::l=>by
  show oG ([.int .i64 a]::l.map (cells (α:=Int)))=_;simp only[oG,u9 l,Option.map_some]
theorem Lw (n:Nat) (s:Sl Int):sJ n [enc s]=some (enc (oR n s)):=by
 have e:enc (oR n s)=.agg (vT n s.l):=by
  show V.agg ((oR n s).l.map (cells (α:=Int))).flatten=_;rw[C7];rfl
 rw[e]
 cases s with
 | nil=>rfl
 | emp=>rfl
 | row l=>
  show ((oG (l.map (cells (α:=Int)))).map λl=>V.agg (vT n l))=_
  rw[u9];rfl
 | part l=>
  show ((oG (l.map (cells (α:=Int)))).map λl=>V.agg (vT n l))=_
  rw[u9];rfl
theorem IN {E:Env} {f:FuncId} {az:List V} {y:V} (hs:V.good y=true) (h:∃n H',run E n (.fn f) az []=some (y,H')):ve E f az y:=by
 obtain⟨n,H',h⟩:=h;exact⟨n,y,H',λ_=>False,h,.same _ hs,λ_ h=>h.elim,⟨λ_ _ _ h=>h.elim⟩⟩
theorem I5 {E:Env} {f:FuncId} {az:List V} {y:V} (h1:E.ft f=none) (h2:E.sort f=false) (h3:E.known f az=some y):run E 1 (.fn f) az []=some (y,[]):=by
 simp only[run,h1,h2,h3];rfl
theorem OV {E:Env} {f n:Nat} (h1:E.ft f=none) (h2:E.sort f=false) (h3:∀az,E.known f az=sJ n az) (s:Sl Int):ve E f [enc s] (enc (oR n s)):=
 IN (iC _) ⟨1,[],I5 h1 h2 (by rw[h3,Lw])⟩
end Go.VE
namespace Go.VE
variable [aS]
def yK (m:Tb aL):SV->Bool
 | .v _|.agg _=>true
 | x=>jy m x
def lX:SV->List SV
 | .v x=>x.cells.map .v
 | .agg l=>l
 | x=>[x]
def yq (cells:List SV):List (Nat×Nat)->List SV->Option (List SV)
 | [],[]=>some cells
 | (off,size)::pl,v::vs=>if(lX v).length=size/\off+(lX v).length<=cells.length then yq (cells.take off++lX v++cells.drop (off+(lX v).length)) pl vs else none
 | _,_=>none
theorem Kz (cells:List SV):yq cells [] []=some cells:=rfl
theorem A6 (cells:List SV) (off size:Nat) (pl:List (Nat×Nat)) (v:SV) (vs:List SV):yq cells ((off,size)::pl) (v::vs) =
 if(lX v).length=size/\off+(lX v).length<=cells.length then yq (cells.take off++lX v++cells.drop (off+(lX v).length)) pl vs else none:=rfl
theorem Mt (x:V):lX (.v x)=x.cells.map .v:=rfl
theorem Ic (d:Nat):lX (.own d)=[.own d]:=rfl
theorem JH (d:Nat):lX (.mp d)=[.mp d]:=rfl
theorem G4 (d o:Nat):lX (.ptr d o)=[.ptr d o]:=rfl
theorem Mf {m:Tb aL} {v:SV} (h:yK m v=true):vE m v=some (lX v):=by
 cases v <;> first|rfl|(unfold vE;exact if_pos h)|(simp[yK,jy]at h)
theorem GN {m:Tb aL}:∀{pl:List (Nat×Nat)} {vs cells l:List SV},vs.all (yK m)=true->yq cells pl vs=some l->qE m cells pl vs=some l
 | [],[],_,_,_,h=>h
 | [],_::_,_,_,_,h=>by cases h
 | _::_,[],_,_,_,h=>by cases h
 | (off,size)::pl,v::vs,cells,l,ha,h=>by
  rw[List.all_cons,ζh]at ha;rw[A6]at h;show (match vE m v with|some c=>if c.length=size/\off+c.length<=cells.length then qE m (cells.take off++c++cells.drop (off+c.length)) pl vs else none|none=>none)=some l
  rw[Mf ha.1];simp only;split at h
  .rename_i hc;rw[if_pos hc];exact GN ha.2 h
  .cases h
def Bu:SV->Bool
 | .v x=>x.one
 | .agg _=>false
 | _=>true
theorem JC (x:V):Bu (.v x)=x.one:=rfl
theorem EP (d:Nat):Bu (.own d)=true:=rfl
theorem Gc (d:Nat):Bu (.mp d)=true:=rfl
theorem EE (d o:Nat):Bu (.ptr d o)=true:=rfl
theorem GB {m:Tb aL}:∀{l:List SV},l.all Bu=true->l.all (yK m)=true->l.all (uO m)=true
 | [],_,_=>rfl
 | x::l,h,k=>by
  rw[List.all_cons,ζh]at h k ⊢;refine⟨?_,GB h.2 k.2⟩;cases x <;> first|exact h.1|exact k.1|(have:=h.1;cases this)
section
variable {S:Sys} {c:bG} {β γ δ α:Type} {Q:Out×St->Option β} {e:γ->Option β} {cf:Cf}
theorem Km {N:Nat->FuncId} {m:Tb aL} {z:List V} {pl:List (Nat×Nat)} {svs l:List SV} (ha:(cV svs).isNone=true) (h:qE m (z.map .v) pl svs=some l):iI N m (.build z pl) svs=some (.agg l):=by
 unfold iI
 cases hv:cV svs with
 | some x=>rw[hv]at ha;cases ha
 | none=>
  have:uB N m (.build z pl) svs=(qE m (z.map .v) pl svs).map .agg:=by
   unfold uB;split <;> first|contradiction|(rename_i e _;cases e;rfl)|simp_all
  simp only[this,h,Option.map_some]
theorem S4 (n:Nat) (svs l:List SV) (z:List V) (pl:List (Nat×Nat)) {m:Option β} (hf:yq (z.map .v) pl svs=some l) (h:Le m (bn S c Q (nx S c n cf λp=>bV p.st p.d (.agg l))))
 (hL:(eV S c n cf).map (λp=>(p.k,aW S.N p.st.g p.az,(cV svs).isNone,svs.all (yK p.st.m)))=some (.p (.build z pl),some svs,true,true):=by kernel_rfl):Le m (bn S c Q cf):=by
 obtain⟨p,hp,hv⟩:=dK hL;simp only[ζc]at hv;refine pW hp ?_ h;rw[hv.1];exact Ag hv.2.1 rfl (Km hv.2.2.1 (GN hv.2.2.2 hf))
theorem RT (n u o:Nat) (l:List SV) {m:Option β} (ha:l.all Bu=true) (h:Le m (bn S c Q (nx S c n cf (M7 u o l.length l))))
 (hL:(eV S c n cf).map (λp=>(p.k,aW S.N p.st.g p.az,(!p.dr||p.now),l.all (yK p.st.m),match ai p.st.m u with|some (.box cs)=>Nat.ble (o+l.length) cs.length|_=>false))=some (.l (.store l.length),some [.ptr u o,.agg l],true,true,true):=by kernel_rfl):Le m (bn S c Q cf):=by
 obtain⟨p,hp,hv⟩:=dK hL;simp only[ζc]at hv;refine pW hp ?_ h;obtain⟨h1,h2,h3,h5,h4⟩:=hv;have hal:=GB ha h5;split at h4
 .rename_i cs hcs;have h9:=Nat.le_of_ble_eq_true h4;rw[h1,qx,h2];simp only[ζb,h3,if_true,lp,hcs,putCells,hal,h9,and_self,Option.map_some,M7]
 .cases h4
theorem Iy [aA α] (n u:Nat) (y x:α) {m:Option β} (h:Le m (bn S c Q (nx S c n cf λp=>bV { p.st with m:=aO p.st.m u (bx x) } p.d (.v .undef))))
 (hL:(eV S c n cf).map (λp=>(p.k,aW S.N p.st.g p.az,(!p.dr||p.now),ai p.st.m u))=some (.l (.store (aA.size α)),some [.ptr u 0,cv x],true,some (bx y)):=by kernel_rfl):Le m (bn S c Q cf):=by
 obtain⟨p,hp,hv⟩:=dK hL;simp only[ζc]at hv;refine pW hp ?_ h;obtain⟨h1,h2,h3,h4⟩:=hv;rw[h1,qx,h2];have hl:((cells y).map SV.v).length=aA.size α:=by rw[List.length_map,dh]
 simp only[ζb,h3,if_true,lp,h4,putCells,gV,dh,l_,hl,Nat.zero_add,Nat.le_refl,and_self,Option.map_some,List.take_zero,List.nil_append];rw[List.drop_of_length_le (by rw[hl];exact Nat.le_refl _),List.append_nil]
end
section
variable {S:Sys} {c:bG} {β γ δ:Type} {Q:Out×St->Option β} {e:γ->Option β} {cf:Cf} {κ ν:Type} [aA κ] [DecidableEq κ] [Key κ] [aA ν]
structure xE (κ ν:Type) where
 o:Option (Mo κ ν)
 deriving Inhabited
def IY (m:xE κ ν):V:=match m.o with|none=>.dY|some l=>.fmap (jJ l)
theorem JU (m:Mo κ ν):V.qw (jJ m)=true:=by
 induction m with
 | nil=>rfl
 | cons x r ih=>show V.qw ((enc x.1,enc x.2)::jJ r)=true;simp only[V.qw,iC,ih,Bool.and_self]
instance:aA (xE κ ν) where
 cells m:=[IY m]
 agg:=false
 size:=1
 len _:=rfl
 good m:=by
  unfold IY;split
  .rfl
  .simp only[V.bF,V.good,JU,Bool.and_self]
 one m:=by unfold IY;split <;> rfl
 plain _:=rfl
theorem K8 {n:Nat} [Lv n κ] [Lv n ν] (m:Mo κ ν):V.nK (n+1) (jJ m)=true:=by
 induction m with
 | nil=>simp[jJ,V.nK]
 | cons x r ih=>show V.nK (n+1) ((enc x.1,enc x.2)::jJ r)=true;simp only[V.nK,Gz,ih,Bool.and_self]
instance {n:Nat} [Lv n κ] [Lv n ν]:Lv (n+2) (xE κ ν):=⟨λm=>by
 show V.bU (n+2) [IY m]=true;rw[fT,ig,Bool.and_true];unfold IY;split
 .rfl
 .simp only[V.lvl,K8]⟩
theorem N9 {n:Nat} [Lv n κ] [Lv n ν] (m:xE κ ν):V.lvl (n+2) (enc m)=true:=by
 have h:=Lv.lv (n:=n+2) m;rw[qn rfl,fT,ig,Bool.and_true]at h;exact h
theorem BS (m:xE κ ν):V.one (enc m)=true:=by obtain⟨o⟩:=m;cases o <;> rfl
def mQ (m:xE κ ν):Mo κ ν:=m.o.getD []
theorem Mb (m:xE κ ν):kK [] (enc m)=some (jJ (mQ m)):=by
 obtain⟨o⟩:=m;cases o <;> rfl
theorem Ew (m:xE κ ν) (k:κ) (z:ν) (ok:Bool):dy [] (.lookup (Key.kk κ) (enc z) ok) [enc m,enc k]=some (if ok then .tup [enc (nN (mQ m) k z),.bool (zR (mQ m) k)]else enc (nN (mQ m) k z)):=by
 simp only[dy,Mb,Key.ok,if_true];have:=BR k (mQ m) 0;simp only[nN,zR]
 cases hf:fK (enc k) (jJ (mQ m)) 0 with
 | none=>rw[hf]at this;cases this
 | some r=>
  rw[hf]at this;simp only[Option.map_some,ζa]at this
  cases r with
  | none=>
   cases hm:mM k (mQ m)with
   | none=>rfl
   | some w=>rw[hm]at this;cases this
  | some w=>
   cases hm:mM k (mQ m)with
   | none=>rw[hm]at this;cases this
   | some w2=>
    rw[hm]at this;simp only[Option.map_some,ζa]at this;simp only[this];rfl
theorem RU (n:Nat) (mp:xE κ ν) (k:κ) (z:ν) {m:Option β} (h:Le m (bn S c Q (nx S c n cf λp=>bV p.st p.d (cv (nN (mQ mp) k z)))))
 (hL:(eV S c n cf).map (λp=>(p.k,aW S.N p.st.g p.az))=some (.r (.lookup (Key.kk κ) (enc z) false),some [cv mp,cv k]):=by kernel_rfl):Le m (bn S c Q cf):=by
 obtain⟨p,hp,hv⟩:=dK hL;simp only[ζc]at hv;refine pW hp ?_ h;rw[hv.1,uL,hv.2];simp only[ζb,c6,Bool.or_true,if_true,jc,Ew,Option.map_some];rfl
theorem OB (n:Nat) (mp:xE κ ν) (k:κ) (z:ν) {m:Option β} (h:Le m (bn S c Q (nx S c n cf λp=>bV p.st p.d (.v (.tup [enc (nN (mQ mp) k z),.bool (zR (mQ mp) k)])))))
 (hL:(eV S c n cf).map (λp=>(p.k,aW S.N p.st.g p.az))=some (.r (.lookup (Key.kk κ) (enc z) true),some [cv mp,cv k]):=by kernel_rfl):Le m (bn S c Q cf):=by
 obtain⟨p,hp,hv⟩:=dK hL;simp only[ζc]at hv;refine pW hp ?_ h;rw[hv.1,uL,hv.2];simp only[ζb,c6,Bool.or_true,if_true,jc,Ew,Option.map_some]
end
end Go.VE
namespace Go.VE
variable [aS]
theorem jk.scalar {S:Sys} {c:bG} {α δ:Type} {fn:FuncId} {A:α->List V} {E:δ->List V} {p:α->Option δ} {b:Bool} (F:jk S c fn A E p b) (h:∀r,(result (E r)).scalar=true):jk S c fn A E p true:=⟨F.k,F.h,F.l,F.r,λ_=>h⟩
theorem yV:∀l:List Int,V.bu (l.map (cells (α:=Int))).flatten=true
 | []=>rfl
 | x::l=>by
  show V.bu (.int .i64 x::(l.map (cells (α:=Int))).flatten)=true;simp only[V.bu,V.scalar,yV l,Bool.and_self]
theorem IG {n:Nat} (a:aC n Int):(result [enc a]).scalar=true:=yV a.l
end Go.VE
namespace Go.VE
variable [aS]
section
variable {S:Sys} {c:bG} {β γ δ α:Type} [aA α] {Q:Out×St->Option β} {e:γ->Option β} {cf:Cf}
theorem GC (m:Tb aL) (u:Nat) (x:α) (ha:aA.agg α=true) (h:ai m u=some (bx x)):jc m (.load (aA.size α) true) [.ptr u 0]=some (cv x):=by
 have hl:((cells x).map SV.v).length=aA.size α:=by rw[List.length_map,dh]
 simp only[jc,h,List.drop_zero];rw[List.take_of_length_le (by rw[hl];exact Nat.le_refl _)]
 unfold rV;rw[if_pos hl,if_pos rfl,pV];simp only;rw[<-rE ha]
theorem UF (n u:Nat) (x:α) (ha:aA.agg α=true) {m:Option β} (h:Le m (bn S c Q (nx S c n cf λp=>bV p.st p.d (cv x))))
 (hL:(eV S c n cf).map (λp=>(p.k,aW S.N p.st.g p.az,(!p.dr||p.now||c6 p.fr [.ptr u 0]),ai p.st.m u))=some (.r (.load (aA.size α) true),some [.ptr u 0],true,some (bx x)):=by kernel_rfl):Le m (bn S c Q cf):=by
 obtain⟨p,hp,hv⟩:=dK hL;simp only[ζc]at hv;obtain⟨h1,h2,h3,h4⟩:=hv;refine pW hp ?_ h;rw[h1,uL,h2];simp only[ζb,h3,if_true,GC _ u x ha h4]
theorem Nr {ω:Type} [aA ω] (n u:Nat) {N:Nat} (a:aC N α) (i:Int) (o:Nat) (x:α) (hx:a.at i=some x) (y:α) (w:ω) (hy:cells y=(cells x).take o++cells w++(cells x).drop (o+aA.size ω)) {m:Option β} (h:Le m (bn S c Q (nx S c n cf λp=>bV { p.st with m:=aO p.st.m u (bx (a.set i y)) } p.d (.v .undef))))
 (hL:(eV S c n cf).map (λp=>(p.k,aW S.N p.st.g p.az,ai p.st.m u,(!p.dr||p.now),Nat.ble (o+aA.size ω) (aA.size α)))=some (.l (.store (aA.size ω)),some [.ptr u (i.toNat*aA.size α+o),cv w],some (bx a),true,true):=by kernel_rfl):Le m (bn S c Q cf):=by
 obtain⟨p,hp,hv'⟩:=dK hL;simp only[ζc]at hv';obtain⟨h1,h2⟩:=gP hp;obtain⟨dr,fr,d,gd,now,k',az,dd,l,fs,st⟩:=p;obtain⟨rfl,h3,h4,h5,h8⟩:=hv';exact Np n dr fr (⟨d,gd,now,.l (.store (aA.size ω)),az,dd,[]⟩::l) fs st u a i o x hx y (enc w) (by rw[gV];exact hy) rfl (by(try dsimp only at *);simp only[h1,h2,h3,h4,h5,h8,gV,dh,l_]) (by
  simp only[nx,hp]at h;exact h)
theorem Dw (n sz:Nat) (ag:Bool) (u:Nat) {N:Nat} (a:aC N α) (i:Int) (o:Nat) (x:α) (hx:a.at i=some x) (l:List SV) (v:V) (hv:(cut (cells x) o sz).bind (mk ag)=some v) {m:Option β} (h:Le m (bn S c Q (nx S c n cf λp=>bV p.st p.d (.v v))))
 (hL:(eV S c n cf).map (λp=>(p.k,aW S.N p.st.g p.az,ai p.st.m u,(!p.dr||p.now||c6 p.fr (.ptr u 0::l)),l.all (BA p.st.m u)))=some (.r (.loadF sz ag),some (.ptr u (i.toNat*aA.size α+o)::l),some (bx a),true,true):=by kernel_rfl):Le m (bn S c Q cf):=by
 obtain⟨p,hp,hv'⟩:=dK hL;simp only[ζc]at hv';refine pW hp ?_ h;obtain⟨h1,h2,h3,h4,h5⟩:=hv';have h6:(!p.dr||p.now||c6 p.fr (.ptr u (i.toNat*aA.size α+o)::l))=true:=h4;rw[h1,uL,h2];simp only[ζb,h6,if_true,jc,h5,h3];rw[El hx hv];rfl
theorem Si (n u:Nat) (y x:α) (l:List SV) {m:Option β} (h:Le m (bn S c Q (nx S c n cf λp=>bV { p.st with m:=aO p.st.m u (bx x) } p.d (.v .undef))))
 (hL:(eV S c n cf).map (λp=>(p.k,aW S.N p.st.g p.az,(!p.dr||p.now),ai p.st.m u,l.all (BA p.st.m u)))=some (.l (.storeF (aA.size α)),some (.ptr u 0::cv x::l),true,some (bx y),true):=by kernel_rfl):Le m (bn S c Q cf):=by
 obtain⟨p,hp,hv⟩:=dK hL;simp only[ζc]at hv;refine pW hp ?_ h;obtain⟨h1,h2,h3,h4,h5⟩:=hv;rw[h1,qx,h2];have hl:((cells y).map SV.v).length=aA.size α:=by rw[List.length_map,dh]
 simp only[ζb,h3,if_true,lp,h4,h5,putCells,gV,dh,l_,hl,Nat.zero_add,Nat.le_refl,and_self,Option.map_some,List.take_zero,List.nil_append];rw[List.drop_of_length_le (by rw[hl];exact Nat.le_refl _),List.append_nil]
end
theorem Se {S:Sys} {c:bG} {γ α:Type} [aA α] {cf:Cf} (n s u:Nat) (x:α) (ha:aA.agg α=true) {rs:List RV} (rs':List RV) {e:γ->Option (List V)} {r:γ} (svs:List SV) {ys:List V} (st:St) (h2:kR (fH st.m 8) svs=some ys) (h3:e r=some (enc x::ys))
 (hrs:rs=.ld s (aA.size α) true::rs':=by kernel_rfl)
 (h:(fM S c n cf.1 cf.2.1 cf.2.2).map (λq=>(q.1,q.2.2,ai q.2.2.g s,ai q.2.2.m u,mN q.2.2 rs'))=some (.rt,st,some (.ptr u 0),some (bx x),some svs):=by kernel_rfl):Le ((some r).bind e) (bn S c (oV rs) cf):=by
 subst hrs;obtain⟨⟨fo,fs,st'⟩,hp,hv⟩:=dK h;simp only[ζc]at hv;obtain⟨rfl,rfl,h5,h6,h7⟩:=hv;have hres:mN st' (.ld s (aA.size α) true::rs')=some (cv x::svs):=by simp only[mN,h5,ζb,GC _ u x ha h6,h7]
 have htr:kR (fH st'.m 8) (cv x::svs)=some (enc x::ys):=by
  show ((fH st'.m 8 (cv x)).bind λy=>(kR (fH st'.m 8) svs).bind λl=>some (y::l))=_
  rw[h2];rfl
 exact M6 (fs':=fs) (st:=st') n (cv x::svs) htr (by rw[hp,hres]) h3
theorem Q_ {n:Nat} {α:Type} [aA α] (h:∀x:α,V.bu (cells x)=true) (a:aC n α):V.bu (cells a)=true:=by
 show V.bu ((a.l.map cells).flatten)=true;have app:∀x y:List V,V.bu (x++y)=(V.bu x&&V.bu y):=λx y=>by
  induction x with
  | nil=>rfl
  | cons a x ih=>simp only[List.cons_append,V.bu,ih,Bool.and_assoc]
 generalize a.l=l
 induction l with
 | nil=>rfl
 | cons x l ih=>simp only[List.map_cons,List.flatten_cons,app,h,ih,Bool.and_self]
theorem NC {n:Nat} {α β:Type} [aA α] [aA β] (h:∀x:α,V.bu (cells x)=true) (k:∀x:β,V.scalar (enc x)=true) (r:aC n α×β):(result (lZ.e r)).scalar=true:=by
 show (V.scalar (enc r.1)&&(V.scalar (enc r.2)&&true))=true;rw[k,rE rfl];simp only[V.scalar,Q_ h,Bool.and_self]
end Go.VE
namespace Go.VE
variable [aS]
theorem MS {n:Int} (h0:0<=n) (h:n<=4611686018427387904):IntKind.wrap .i64 n=n:=by
 simp[IntKind.wrap,IntKind.bits,IntKind.signed];omega
namespace catX
instance {n:Nat}:OfNat Arg n:=⟨.s n⟩
def ln:K:=.p .lenSl
def ix:K:=.p (.idxS 1)
def bI (o:BinOp):K:=.p (.bin (some .int) none o)
def ld:K:=.r (.load 1 false)
def g1:List RO:=[o1 4 (.k (.aF)) []]
def g2:List RO:=[o1 5 1 [],o2 6 (bI .lss) [5,.k (.int .i64 0)] []]
def g3:List RO:=[o2 7 (.p (.bad)) [] [],⟨none,none,false,.p .bad,[],[],[]⟩]
def g4:List RO:=[o1 8 1 [],o1 9 0 [],o2 10 (.p (.capSl)) [9] [],o1 11 0 [],o2 12 ln [11] [],o2 13 (bI .sub) [10,12] [],o2 14 (bI .sub) [8,13] [],o1 1 14 []]
def g5:List RO:=[o1 15 1 [],o2 16 (bI .gtr) [15,.k (.int .i64 0)] []]
def g6:List RO:=[o1 17 0 [],o1 18 0 [],o2 19 (.p (.capSl)) [18] [],o2 20 (.p (.slice 1 false true)) [17,19] [],o1 21 1 [],o2 22 (.l (.appMk 1 24 [.aF])) [20,21] [],o1 23 0 [],o2 24 ln [23] [],o2 25 (.p (.slice 1 false true)) [22,24] [],o1 0 25 []]
def g7:List RO:=[o1 26 0 [],o1 4 26 []]
def grow:RC:=.seq (.ops g1) (.seq (.seq (.ops g2) (.cond (.s 6) (.ops g3) (.skip))) (.seq (.seq (.ops g4) (.seq (.ops g5) (.cond (.s 16) (.ops g6) (.skip)))) (.seq (.ops g7) (.ret))))
section
variable {E:Env} {N:Nat->FuncId} {t:Nat}
theorem OI (ht:t<=2147483648):∃F',Ex E N grow [.aF,.int .i64 t] [] .ret F' (if t=0 then []else [.row 1 (List.replicate t [.aF])])/\get F' 4=if t=0 then .aF else .hsl 0 1 0 0:=by
 have e1:∀call,bE E N call none g1 [.aF,.int .i64 t] []=some (set [.aF,.int .i64 t] 4 .aF,[]):=λcall=>vp (v:=.aF) rfl (by simp[aD,au,aj]) cG
 have k0:get (set [V.aF,.int .i64 t] 4 .aF) 0=.aF:=rfl;have k1:get (set [V.aF,.int .i64 t] 4 .aF) 1=.int .i64 t:=rfl;generalize set [V.aF,.int .i64 t] 4 .aF=F0 at *;have hw:IntKind.wrap .i64 ((t:Int)-0)=t:=by rw[Int.sub_zero];exact MS (by omega) (by omega)
 have hw0:IntKind.wrap .i64 ((0:Int)-0)=0:=by decide
 have e2:∃F1,(∀call,bE E N call none g2 F0 []=some (F1,[]))/\get F1 6=.bool false/\get F1 0=.aF/\get F1 1=.int .i64 t:=by
  refine⟨_,λcall=>vp (v:=.int .i64 t) rfl ?_ <| vp (v:=.bool false) rfl ?_ cG,?_,?_,?_⟩
  .simp[aD,au,aj,k1]
  .simp[aD,au,aj,aq,bI,fB,mh]
  all_goals simp[aq,k0,k1]
 obtain⟨F1,a1,a2,a3,a4⟩:=e2;have e4:∃F2,(∀call,bE E N call none g4 F1 []=some (F2,[]))/\get F2 0=.aF/\get F2 1=.int .i64 t:=by
  refine⟨_,λcall=>vp (v:=.int .i64 t) rfl ?_ <| vp (v:=.aF) rfl ?_ <| vp (v:=.int .i64 0) rfl ?_ <| vp (v:=.aF) rfl ?_ <| vp (v:=.int .i64 0) rfl ?_ <| vp (v:=.int .i64 0) rfl ?_ <| vp (v:=.int .i64 t) rfl ?_ <| vp (v:=.int .i64 t) rfl ?_ cG,?_,?_⟩
  .simp[aD,au,aj,a4]
  .simp[aD,au,aj,aq,a3]
  .simp[aD,au,aj,aq,E8]
  .simp[aD,au,aj,aq,a3]
  .simp[aD,au,aj,aq,ln,mq]
  .simp only[aD,List.map_cons,List.map_nil,au,aq,ax,Nat.reduceEqDiff,if_true,if_false,aj,bI,fB,hw0];rfl
  .simp only[aD,List.map_cons,List.map_nil,au,aq,ax,Nat.reduceEqDiff,if_true,if_false,aj,bI,fB,hw];rfl
  .simp[aD,au,aj,aq]
  all_goals simp[aq,a3]
 obtain⟨F2,b1,b2,b3⟩:=e4;have e5:∃F3,(∀call,bE E N call none g5 F2 []=some (F3,[]))/\get F3 16=.bool (decide (t>0))/\get F3 0=.aF/\get F3 1=.int .i64 t:=by
  refine⟨_,λcall=>vp (v:=.int .i64 t) rfl ?_ <| vp (v:=.bool (decide (t>0))) rfl ?_ cG,?_,?_,?_⟩
  .simp[aD,au,aj,b3]
  .simp[aD,au,aj,aq,bI,fB,mh]
  all_goals simp[aq,b2,b3]
 obtain⟨F3,c1,c2,c3,c4⟩:=e5;have hc:Ex E N (.seq (.ops g2) (.cond (.s 6) (.ops g3) (.skip))) F0 [] .norm F1 []:=Ex.seq (Ex.bT a1) (Ex.nS a2 Ex.skip);have e7:∀(F:Frame) (H:ak),∃F',(∀call,bE E N call none g7 F H=some (F',H))/\get F' 4=get F 0:=λF H=>
  ⟨_,λcall=>vp (v:=get F 0) rfl (by simp[aD,au,aj]) <| vp (v:=get F 0) rfl (by simp[aD,au,aj,aq]) cG,by simp[aq]⟩
 by_cases h0:t=0
 .subst h0;obtain⟨F5,d1,d2⟩:=e7 F3 [];refine⟨F5,?_,by rw[d2,c3];rfl⟩
  exact Ex.seq (Ex.bT e1) (Ex.seq hc (Ex.seq (Ex.seq (Ex.bT b1) (Ex.seq (Ex.bT c1) (Ex.nS c2 Ex.skip))) (Ex.seq (Ex.bT d1) Ex.ret)))
 .have hpos:0<t:=by omega
  have e6:∃F4,(∀call,bE E N call none g6 F3 []=some (F4,[.row 1 (List.replicate t [.aF])]))/\get F4 0=.hsl 0 1 0 0:=by
   refine⟨_,λcall=>vp (v:=.aF) rfl ?_ <| vp (v:=.aF) rfl ?_ <| vp (v:=.int .i64 0) rfl ?_ <| vp (v:=.aF) rfl ?_ <| vp (v:=.int .i64 t) rfl ?_ <| hU (v:=.hsl 0 1 0 t) (H1:=[.row 1 (List.replicate t [.aF])]) rfl ?_ <| vp (v:=.aF) rfl ?_ <| vp (v:=.int .i64 0) rfl ?_ <| vp (v:=.hsl 0 1 0 0) rfl ?_ <| vp (v:=.hsl 0 1 0 0) rfl ?_ cG,?_⟩
   .simp[aD,au,aj,c3]
   .simp[aD,au,aj,aq,c3]
   .simp[aD,au,aj,aq,E8]
   .simp[aD,au,aj,aq,jK,fL,cE]
   .simp[aD,au,aj,aq,c4]
   .simp only[aD,List.map_cons,List.map_nil,au,aq,ax,Nat.reduceEqDiff,if_true,if_false,dI,mkApp];rw[if_neg (by omega),if_pos ⟨by omega,by omega,by omega,by omega⟩];simp
   .simp[aD,au,aj,aq,c3]
   .simp[aD,au,aj,aq,ln,mq]
   .simp[aD,au,aj,aq,jK,fL,cE]
   .simp[aD,au,aj,aq]
   .simp[aq]
  obtain⟨F4,q1,q2⟩:=e6;obtain⟨F5,d1,d2⟩:=e7 F4 [.row 1 (List.replicate t [.aF])];rw[if_neg h0,if_neg h0];refine⟨F5,?_,by rw[d2,q2]⟩
  exact Ex.seq (Ex.bT e1) (Ex.seq hc (Ex.seq (Ex.seq (Ex.bT b1) (Ex.seq (Ex.bT c1) (Ex.lB (by show get F3 16=_;rw[c2,decide_eq_true hpos]) (Ex.bT q1)))) (Ex.seq (Ex.bT d1) Ex.ret)))
end
end catX
end Go.VE
namespace Go.VE
variable [aS]
def xu {α:Type} (s:Sl (Sl α)):Sl α:=if(s.l.flatMap Sl.l).length=0 then .nil else .row (s.l.flatMap Sl.l)
namespace catX
def r1:List RO:=[o1 2 (.k (.aF)) []]
def r2:List RO:=[o1 3 (.k (.int .i64 0)) []]
def r3:List RO:=[o1 9 0 [],o2 10 ln [9] [],o1 11 (.k (.int .i64 0)) []]
def r4:List RO:=[o2 12 (bI .lss) [11,10] []]
def r5:List RO:=[o2 13 ix [9,11] [],o2 14 ld [13] [],o1 5 14 []]
def r6:List RO:=[o1 15 3 [],o1 16 5 [],o2 17 ln [16] [],o2 18 (bI .add) [15,17] [],o1 3 18 []]
def r7:List RO:=[o1 19 3 [],o2 20 (bI .lss) [19,.k (.int .i64 0)] []]
def r8:List RO:=[o2 21 (.p (.bad)) [] [],⟨none,none,false,.p .bad,[],[],[]⟩]
def r9:List RO:=[o2 22 (bI .add) [11,.k (.int .i64 1)] [],o1 11 22 []]
def L9:RC:=.seq (.ops r4) (.seq (.cond (.s 12) (.skip) (.exit 0)) (.seq (.block 1 (.seq (.ops r5) (.seq (.ops r6) (.seq (.ops r7) (.cond (.s 20) (.ops r8) (.skip)))))) (.ops r9)))
def A5 (gid:Nat):List RO:=[o1 23 3 [],o2 24 .c [.f gid,.k (.aF),23] [],o1 6 24 []]
def C8:List RO:=[o1 25 0 [],o2 26 ln [25] [],o1 27 (.k (.int .i64 0)) []]
def CS:List RO:=[o2 28 (bI .lss) [27,26] []]
def CW:List RO:=[o2 29 ix [25,27] [],o2 30 ld [29] [],o1 8 30 []]
def A9:List RO:=[o1 31 6 [],o1 32 8 [],o2 33 (.l (.append 1)) [31,32] [],o1 6 33 []]
def C1:List RO:=[o2 34 (bI .add) [27,.k (.int .i64 1)] [],o1 27 34 []]
def Up:RC:=.seq (.ops CS) (.seq (.cond (.s 28) (.skip) (.exit 2)) (.seq (.block 3 (.seq (.ops CW) (.ops A9))) (.ops C1)))
def CN:List RO:=[o1 35 6 [],o1 2 35 []]
def cat (gid:Nat):RC:=.seq (.ops r1) (.seq (.ops r2) (.seq (.seq (.ops r3) (.block 0 (.loop L9))) (.seq (.ops (A5 gid)) (.seq (.seq (.ops C8) (.block 2 (.loop Up))) (.seq (.ops CN) (.ret))))))
section
variable {E:Env} {N:Nat->FuncId} {F:Frame} {H:ak} {α:Type} [aA α] {s:Sl (Sl α)} {i:Nat}
theorem el {u:Sl α} (h:s.l[i]? = some u):jV 1 (aU s) (i:Int)=some (.fptr [aU u]):=by
 have:=BZ (N:=λn=>n) s .i64 (i:Int) 1 rfl
 simp only[aj]at this;rw[this,show idx s (i:Int)=some u from by unfold idx;rw[if_pos (by omega)];exact h];rfl
theorem TG (s:Sl α):mq (aU s)=some (.int .i64 s.l.length):=by
 have:=vW (N:=λn=>n) s;simpa only[aj]using this
theorem y3:(get F 0=aU s->∃F',(∀call,bE E N call none r3 F H=some (F',H))/\get F' 9=aU s/\get F' 10=.int .i64 s.l.length/\get F' 11=.int .i64 0/\∀j,j<9->get F' j=get F j) /\
 (get F 0=aU s->∃F',(∀call,bE E N call none C8 F H=some (F',H))/\get F' 25=aU s/\get F' 26=.int .i64 s.l.length/\get F' 27=.int .i64 0/\∀j,j<9->get F' j=get F j):=by
 have h:=TG s;refine⟨λf0=>⟨_,λcall=>vp (v:=aU s) rfl ?_ <| vp (v:=.int .i64 s.l.length) rfl ?_ <| vp (v:=.int .i64 0) rfl ?_ cG,?_,?_,?_,?_⟩,λf0=>⟨_,λcall=>vp (v:=aU s) rfl ?_ <| vp (v:=.int .i64 s.l.length) rfl ?_ <| vp (v:=.int .i64 0) rfl ?_ cG,?_,?_,?_,?_⟩⟩ <;>
 first
 | (simp[aD,au,aj,f0];done)
 | (simp only[aD,List.map_cons,List.map_nil,au,aq,ax,Nat.reduceEqDiff,if_true,if_false,aj,ln,h];rfl)
 | (simp[aD,au,aj,aq];done)
 | (simp[aq];done)
 | (intro j hj;simp only[aq,ax];repeat (rw[if_neg (by omega)]))
theorem y4 {n:Nat}:(get F 11=.int .i64 i->get F 10=.int .i64 n->∃F',(∀call,bE E N call none r4 F H=some (F',H))/\get F' 12=.bool (decide (i<n))/\∀j,j<12->get F' j=get F j) /\
 (get F 27=.int .i64 i->get F 26=.int .i64 n->∃F',(∀call,bE E N call none CS F H=some (F',H))/\get F' 28=.bool (decide (i<n))/\∀j,j<28->get F' j=get F j):=by
 refine⟨λf f'=>⟨_,λcall=>vp (v:=.bool (decide (i<n))) rfl ?_ cG,?_,?_⟩,λf f'=>⟨_,λcall=>vp (v:=.bool (decide (i<n))) rfl ?_ cG,?_,?_⟩⟩ <;>
 first
 | (simp[aD,au,aj,aq,bI,fB,mh,f,f'];done)
 | (simp[aq];done)
 | (intro j hj;simp only[aq,ax];repeat (rw[if_neg (by omega)]))
theorem y5 {u:Sl α} (h:s.l[i]? = some u):(get F 9=aU s->get F 11=.int .i64 i->∃F',(∀call,bE E N call none r5 F H=some (F',H))/\get F' 5=aU u/\∀j,j<12->j≠5->get F' j=get F j) /\
 (get F 25=aU s->get F 27=.int .i64 i->∃F',(∀call,bE E N call none CW F H=some (F',H))/\get F' 8=aU u/\∀j,j<28->j≠8->get F' j=get F j):=by
 have e:=el h;have e2:dy H (.load 1 false) [.fptr [aU u]]=some (aU u):=by simp[dy,cN,cut,mk]
 refine⟨λf f'=>⟨_,λcall=>vp (v:=.fptr [aU u]) rfl ?_ <| vp (v:=aU u) rfl ?_ <| vp (v:=aU u) rfl ?_ cG,?_,?_⟩,λf f'=>⟨_,λcall=>vp (v:=.fptr [aU u]) rfl ?_ <| vp (v:=aU u) rfl ?_ <| vp (v:=aU u) rfl ?_ cG,?_,?_⟩⟩ <;>
 first
 | (simp only[aD,List.map_cons,List.map_nil,au,aq,ax,Nat.reduceEqDiff,if_true,if_false,aj,ix,f,f',e,Option.map_some];done)
 | (simp only[aD,List.map_cons,List.map_nil,au,aq,ax,Nat.reduceEqDiff,if_true,if_false,ld];rw[e2];rfl)
 | (simp[aD,au,aj,aq];done)
 | (simp[aq];done)
 | (intro j hj h5;simp only[aq,ax];rw[if_neg (Ne.symm h5)];repeat (rw[if_neg (by omega)]))
theorem y6 {u:Sl α} {t:Nat} (f3:get F 3=.int .i64 t) (f5:get F 5=aU u) (ht:t+u.l.length<=2147483648):∃F',(∀call,bE E N call none r6 F H=some (F',H))/\get F' 3=.int .i64 ((t+u.l.length:Nat):Int)/\∀j,j<12->j≠3->get F' j=get F j:=by
 have h:=TG u;have hw:IntKind.wrap .i64 ((t:Int)+(u.l.length:Int))=((t+u.l.length:Nat):Int):=by rw[MS (by omega) (by omega)];simp
 refine⟨_,λcall=>vp (v:=.int .i64 t) rfl ?_ <| vp (v:=aU u) rfl ?_ <| vp (v:=.int .i64 u.l.length) rfl ?_ <| vp (v:=.int .i64 ((t+u.l.length:Nat):Int)) rfl ?_ <| vp (v:=.int .i64 ((t+u.l.length:Nat):Int)) rfl ?_ cG,?_,?_⟩
 .simp[aD,au,aj,f3]
 .simp[aD,au,aj,aq,f5]
 .simp only[aD,List.map_cons,List.map_nil,au,aq,ax,Nat.reduceEqDiff,if_true,if_false,aj,ln,h];rfl
 .simp only[aD,List.map_cons,List.map_nil,au,aq,ax,Nat.reduceEqDiff,if_true,if_false,aj,bI,fB,hw];rfl
 .simp[aD,au,aj,aq]
 .simp[aq]
 .intro j hj h3;simp only[aq,ax];rw[if_neg (Ne.symm h3)]
  repeat (rw[if_neg (by omega)])
theorem y7 {t:Nat} (f3:get F 3=.int .i64 t):∃F',(∀call,bE E N call none r7 F H=some (F',H))/\get F' 20=.bool false/\∀j,j<12->get F' j=get F j:=by
 refine⟨_,λcall=>vp (v:=.int .i64 t) rfl ?_ <| vp (v:=.bool false) rfl ?_ cG,?_,?_⟩
 .simp[aD,au,aj,f3]
 .simp[aD,au,aj,aq,bI,fB,mh]
 .simp[aq]
 .intro j hj;simp only[aq,ax]
  repeat (rw[if_neg (by omega)])
theorem y9 (hi:i<=2147483648):(get F 11=.int .i64 i->∃F',(∀call,bE E N call none r9 F H=some (F',H))/\get F' 11=.int .i64 ((i+1:Nat):Int)/\∀j,j<11->get F' j=get F j) /\
 (get F 27=.int .i64 i->∃F',(∀call,bE E N call none C1 F H=some (F',H))/\get F' 27=.int .i64 ((i+1:Nat):Int)/\∀j,j<27->get F' j=get F j):=by
 have hb:=vD hi;refine⟨λf=>⟨_,λcall=>vp (v:=.int .i64 ((i+1:Nat):Int)) rfl ?_ <| vp (v:=.int .i64 ((i+1:Nat):Int)) rfl ?_ cG,?_,?_⟩,λf=>⟨_,λcall=>vp (v:=.int .i64 ((i+1:Nat):Int)) rfl ?_ <| vp (v:=.int .i64 ((i+1:Nat):Int)) rfl ?_ cG,?_,?_⟩⟩ <;>
 first
 | (simp only[aD,List.map_cons,List.map_nil,au,aq,ax,Nat.reduceEqDiff,if_true,if_false,aj,bI,fB,f,hb];rfl)
 | (simp[aD,au,aj,aq];done)
 | (simp[aq];done)
 | (intro j hj;simp only[aq,ax];repeat (rw[if_neg (by omega)]))
structure Acc (H:ak) (w:V) (acc:List (List V)):Prop where
 el:cF H 1 w=some acc
 gr:∃H1,gj H w=some H1/\H1.length=H.length
 sh:w=.aF/\acc=[]\/∃id xs,w=.hsl id 1 0 acc.length/\H[id]? = some (.row 1 xs)/\(acc≠[]->xs=acc)
theorem O4 (H:ak) (u:Sl α) (h1:aA.size α=1):cF H 1 (aU u)=some (rows u.l):=by
 cases u <;> simp[aU,Sl.k,Sl.l,mA,cF,rows,h1]
theorem UY {w:V} {acc:List (List V)} {u:Sl α} (h1:aA.size α=1) (a:Acc H w acc) (f6:get F 6=w) (f8:get F 8=aU u) (hl:acc.length+u.l.length<=2147483648) :
 ∃F' H' w',(∀call,bE E N call none A9 F H=some (F',H'))/\get F' 6=w'/\Acc H' w' (acc++rows u.l)/\(u.l=[]->w'=w)/\∀j,j<28->j≠6->get F' j=get F j:=by
 have hu:=O4 H u h1;have hrl:(rows u.l).length=u.l.length:=by simp[rows]
 have key:∃H' w',dI H (.append 1) [w,aU u]=some (w',H')/\Acc H' w' (acc++rows u.l)/\(u.l=[]->w'=w):=by
  obtain⟨H1,g1,g2⟩:=a.gr
  cases hr:rows u.l with
  | nil=>exact⟨H,w,by simp only[dI,a.el,hu,hr],by simpa using a,λ_=>rfl⟩
  | cons y ys=>
   have hll:acc.length+(y::ys).length<=2147483648:=by rw[<-hr,hrl];exact hl
   refine⟨H1++[.row 1 (acc++y::ys)],.hsl H.length 1 0 (acc.length+(y::ys).length),by simp only[dI,a.el,hu,hr];rw[if_pos hll,g1];rfl,?_⟩
   have hget:(H1++[Ob.row 1 (acc++y::ys)])[H.length]? = some (.row 1 (acc++y::ys)):=by rw[<-g2];simp
   refine⟨⟨?_,⟨_,by simp only[gj,hget];rfl,by simp⟩,.inr ⟨H.length,acc++y::ys,by simp,hget,λ_=>rfl⟩⟩,λe=>by rw[e]at hr;cases hr⟩
   simp only[cF,hget,ζb,Ob.rows,if_true,Nat.zero_add,List.drop_zero];rw[if_pos (by simp),List.take_of_length_le (by simp)]
 obtain⟨H',w',k1,k2,k3⟩:=key;refine⟨_,H',w',λcall=>vp (v:=w) rfl ?_ <| vp (v:=aU u) rfl ?_ <| hU (v:=w') (H1:=H') rfl ?_ <| vp (v:=w') rfl ?_ cG,?_,k2,k3,?_⟩
 .simp[aD,au,aj,f6]
 .simp[aD,au,aj,aq,f8]
 .simp only[aD,List.map_cons,List.map_nil,au,aq,ax,Nat.reduceEqDiff,if_true,if_false];exact k1
 .simp[aD,au,aj,aq]
 .simp[aq]
 .intro j hj h6;simp only[aq,ax];rw[if_neg (Ne.symm h6)]
  repeat (rw[if_neg (by omega)])
def upto (s:Sl (Sl α)) (i:Nat):List α:=(s.l.take i).flatMap Sl.l
theorem Cx {u:Sl α} (h:s.l[i]? = some u):upto s (i+1)=upto s i++u.l:=by
 unfold upto;obtain⟨hi,rfl⟩:=ζe.1 h;rw[List.take_succ_eq_append_getElem hi,List.flatMap_append];simp
theorem Gk (s:Sl (Sl α)) (i:Nat):(upto s i).length<=(s.l.flatMap Sl.l).length:=by
 have:s.l.flatMap Sl.l=upto s i++(s.l.drop i).flatMap Sl.l:=by
  unfold upto;rw[<-List.flatMap_append,List.take_append_drop]
 rw[this];simp
theorem US (hn:s.l.length<=2147483648) (ht:(s.l.flatMap Sl.l).length<=2147483648):∀(d i:Nat) (F:Frame),i+d=s.l.length->get F 9=aU s->get F 10=.int .i64 s.l.length->get F 11=.int .i64 i->get F 3=.int .i64 (upto s i).length ->
 ∃F',kf E N L9 F H (.exit 0) F' H/\get F' 3=.int .i64 (s.l.flatMap Sl.l).length/\get F' 0=get F 0:=by
 intro d
 induction d with
 | zero=>
  intro i F hi f9 f10 f11 f3;obtain⟨F1,a1,a2,a3⟩:=(y4 (E:=E) (N:=N) (H:=H) (n:=s.l.length)).1 f11 f10;refine⟨F1,kf.stop (Ex.seq (Ex.bT a1) (Ex.ru (Ex.nS (by show get F1 12=_;rw[a2,decide_eq_false (by omega)]) Ex.exit) (by simp))) (by simp),?_,a3 0 (by omega)⟩
  rw[a3 3 (by omega),f3]
  have:upto s i=s.l.flatMap Sl.l:=by unfold upto;rw[List.take_of_length_le (by omega)]
  rw[this]
 | succ d ih=>
  intro i F hi f9 f10 f11 f3;obtain⟨F1,a1,a2,a3⟩:=(y4 (E:=E) (N:=N) (H:=H) (n:=s.l.length)).1 f11 f10;have hu:s.l[i]? = some s.l[i]:=ζd (by omega)
  obtain⟨F2,b1,b2,b3⟩:=(y5 (E:=E) (N:=N) (F:=F1) (H:=H) hu).1 (by rw[a3 9 (by omega)];exact f9) (by rw[a3 11 (by omega)];exact f11)
  have hle:=Gk s (i+1);have hs:=Cx hu;rw[hs,ζi]at hle;obtain⟨F3,c1,c2,c3⟩:=y6 (E:=E) (N:=N) (F:=F2) (H:=H) (u:=s.l[i]) (t:=(upto s i).length) (by rw[b3 3 (by omega) (by omega),a3 3 (by omega)];exact f3) b2 (by omega)
  obtain⟨F4,d1,d2,d3⟩:=y7 (E:=E) (N:=N) (F:=F3) (H:=H) c2;have hf:∀j,j<12->j≠3->j≠5->get F4 j=get F j:=λj h1 h2 h3=>by rw[d3 j h1,c3 j h1 h2,b3 j h1 h3,a3 j h1]
  obtain⟨F5,e1,e2,e3⟩:=(y9 (E:=E) (N:=N) (F:=F4) (H:=H) (i:=i) (by omega)).1 (by rw[hf 11 (by omega) (by omega) (by omega)];exact f11)
  obtain⟨F',g1,g2,g3⟩:=ih (i+1) F5 (by omega) (by rw[e3 9 (by omega),hf 9 (by omega) (by omega) (by omega)];exact f9) (by rw[e3 10 (by omega),hf 10 (by omega) (by omega) (by omega)];exact f10) e2 (by rw[e3 3 (by omega),d3 3 (by omega),c2,hs,ζi])
  exact⟨F',kf.step (Ex.seq (Ex.bT a1) (Ex.seq (Ex.lB (by show get F1 12=_;rw[a2,decide_eq_true (by omega)]) Ex.skip) (Ex.seq (Ex.block (Ex.seq (Ex.bT b1) (Ex.seq (Ex.bT c1) (Ex.seq (Ex.bT d1) (Ex.nS d2 Ex.skip))))) (Ex.bT e1)))) g1,g2,by rw[g3,e3 0 (by omega),hf 0 (by omega) (by omega) (by omega)]⟩
theorem UP (h1:aA.size α=1) (hn:s.l.length<=2147483648) (ht:(s.l.flatMap Sl.l).length<=2147483648):∀(d i:Nat) (F:Frame) (H:ak) (w:V),i+d=s.l.length->get F 25=aU s->get F 26=.int .i64 s.l.length->get F 27=.int .i64 i->get F 6=w->Acc H w (rows (upto s i)) ->
 ∃F' H' w',kf E N Up F H (.exit 2) F' H'/\get F' 6=w'/\Acc H' w' (rows (s.l.flatMap Sl.l))/\((s.l.flatMap Sl.l).length=0->w'=w):=by
 intro d
 induction d with
 | zero=>
  intro i F H w hi f25 f26 f27 f6 a;obtain⟨F1,a1,a2,a3⟩:=(y4 (E:=E) (N:=N) (H:=H) (n:=s.l.length)).2 f27 f26;have:upto s i=s.l.flatMap Sl.l:=by unfold upto;rw[List.take_of_length_le (by omega)]
  rw[this]at a;exact⟨F1,H,w,kf.stop (Ex.seq (Ex.bT a1) (Ex.ru (Ex.nS (by show get F1 28=_;rw[a2,decide_eq_false (by omega)]) Ex.exit) (by simp))) (by simp),by rw[a3 6 (by omega)];exact f6,a,λ_=>rfl⟩
 | succ d ih=>
  intro i F H w hi f25 f26 f27 f6 a;obtain⟨F1,a1,a2,a3⟩:=(y4 (E:=E) (N:=N) (H:=H) (n:=s.l.length)).2 f27 f26;have hu:s.l[i]? = some s.l[i]:=ζd (by omega)
  obtain⟨F2,b1,b2,b3⟩:=(y5 (E:=E) (N:=N) (F:=F1) (H:=H) hu).2 (by rw[a3 25 (by omega)];exact f25) (by rw[a3 27 (by omega)];exact f27)
  have hle:=Gk s (i+1);have hs:=Cx hu;rw[hs,ζi]at hle;obtain⟨F3,H',w',c1,c2,c3,c5,c4⟩:=UY (E:=E) (N:=N) (F:=F2) (H:=H) (u:=s.l[i]) h1 a (by rw[b3 6 (by omega) (by omega),a3 6 (by omega)];exact f6) b2 (by simp only[eC];omega)
  have hf:∀j,j<28->j≠6->j≠8->get F3 j=get F j:=λj h1 h2 h3=>by rw[c4 j h1 h2,b3 j h1 h3,a3 j h1]
  obtain⟨F5,e1,e2,e3⟩:=(y9 (E:=E) (N:=N) (F:=F3) (H:=H') (i:=i) (by omega)).2 (by rw[hf 27 (by omega) (by omega) (by omega)];exact f27)
  have hr:rows (upto s i)++rows s.l[i].l=rows (upto s (i+1)):=by rw[hs];simp[rows]
  rw[hr]at c3;obtain⟨F',H2,w2,g1,g2,g3,g4⟩:=ih (i+1) F5 H' w' (by omega) (by rw[e3 25 (by omega),hf 25 (by omega) (by omega) (by omega)];exact f25) (by rw[e3 26 (by omega),hf 26 (by omega) (by omega) (by omega)];exact f26) e2 (by rw[e3 6 (by omega)];exact c2) c3
  exact⟨F',H2,w2,kf.step (Ex.seq (Ex.bT a1) (Ex.seq (Ex.lB (by show get F1 28=_;rw[a2,decide_eq_true (by omega)]) Ex.skip) (Ex.seq (Ex.block (Ex.seq (Ex.bT b1) (Ex.bT c1))) (Ex.bT e1)))) g1,g2,g3,λe=>(g4 e).trans (c5 (List.eq_nil_of_length_eq_zero (by omega)))⟩
end
end catX
theorem NN {E:Env} {f gf:FuncId} {nm:FuncId->Option Nat} {N:Nat->FuncId} {gid:Nat} (hN:∀f s,nm f=some s->N s=f) (hg:N gid=gf) (hgk:E.keep gf=true) (hgo:E.own gf=true)
 (hf:∃fi,E.ft f=some fi/\aJ ⟨E,nm,fi.ntmps⟩ false fi.body=some (catX.cat gid)/\2<=fi.ntmps/\fi.results=[.tmp 2])
 (hgf:∃fi,E.ft gf=some fi/\aJ ⟨E,nm,fi.ntmps⟩ false fi.body=some catX.grow/\2<=fi.ntmps/\fi.results=[.tmp 4])
 {α:Type} [aA α] (h1:aA.size α=1) (s:Sl (Sl α)) (hn:s.l.length<=2147483648) (ht:(s.l.flatMap Sl.l).length<=2147483648):ve E f [aU s] (aU (xu s)):=by
 obtain⟨fi,p1,p2,p3,p4⟩:=hf;obtain⟨gi,q1,q2,q3,q4⟩:=hgf;generalize hT:(s.l.flatMap Sl.l).length=T at *;obtain⟨Fg,hgx,hgr⟩:=catX.OI (E:=E) (N:=N) ht;obtain⟨n0,hn0⟩:=Ex.run hN q1 q2 (args:=[.aF,.int .i64 T]) (by simpa using q3) hgx (vs:=[if T=0 then .aF else .hsl 0 1 0 0]) (by rw[q4];simp[fC,hgr])
 have hgrow:∃w Hg,(∀k,n0<=k->dL E (run E k) gf [.aF,.int .i64 T] []=some (w,Hg))/\catX.Acc Hg w []/\(T=0->w=.aF):=by
  by_cases h0:T=0
  .refine⟨.aF,[],λk hk=>?_,⟨rfl,⟨[],rfl,rfl⟩,.inl ⟨rfl,rfl⟩⟩,λ_=>rfl⟩
   have:=mm E hk _ _ _ _ hn0;rw[if_pos h0,if_pos h0]at this;unfold dL jG;rw[if_pos hgo];simp[borrows,iG,borrow,V.closed,this,result,V.scalar]
  .refine⟨.hsl 0 1 0 0,[.row 1 (List.replicate T [.aF])],λk hk=>?_,⟨by simp[cF,Ob.rows],⟨_,rfl,by simp⟩,.inr ⟨0,_,rfl,rfl,λh=>absurd rfl h⟩⟩,λh=>absurd h h0⟩
   have:=mm E hk _ _ _ _ hn0;rw[if_neg h0,if_neg h0]at this;unfold dL jG;rw[if_pos hgo];simp only[borrows,iG,borrow,V.closed,if_true,this,result,V.scalar,Bool.false_eq_true,if_false,oZ,List.getElem?_cons_zero,true_and];rw[if_pos (by simp[List.all_replicate,V.scalar])]
   simp
 obtain⟨w,Hg,hgc,hga,hgn⟩:=hgrow;have hne:T≠0->rows (s.l.flatMap Sl.l)≠[]:=λh e=>h (by rw[<-hT,<-eC,e];rfl)
 have hgood:∀c∈rows (s.l.flatMap Sl.l),V.bF c=true:=λc hc=>by
  obtain⟨x,_,rfl⟩:=List.mem_map.1 hc;exact aA.good x
 have g1:∀call,bE E N call none catX.r1 [aU s] []=some (set [aU s] 2 .aF,[]):=λcall=>vp (v:=.aF) rfl (by simp[aD,au,aj]) cG
 have k0:get (set [aU s] 2 .aF) 0=aU s:=rfl;generalize set [aU s] 2 .aF=F0 at *;have g2:∀call,bE E N call none catX.r2 F0 []=some (set F0 3 (.int .i64 0),[]):=λcall=>vp (v:=.int .i64 0) rfl (by simp[aD,au,aj]) cG
 obtain⟨F2,a1,a2,a3,a4,a5⟩:=(catX.y3 (E:=E) (N:=N) (F:=set F0 3 (.int .i64 0)) (H:=[]) (s:=s)).1 (by rw[fJ _ _ (by omega)];exact k0)
 obtain⟨F3,b1,b2,b3⟩:=catX.US (E:=E) (N:=N) (H:=[]) hn (by omega) s.l.length 0 F2 (by omega) a2 a3 a4 (by rw[a5 3 (by omega),qH];rfl)
 rw[hT]at b2;have b3':get F3 0=aU s:=by rw[b3,a5 0 (by omega),fJ _ _ (by omega)];exact k0
 have c1:∃F4,(∃n,∀k,n<=k->bE E N (run E k) none (catX.A5 gid) F3 []=some (F4,Hg))/\get F4 6=w/\get F4 0=aU s:=by
  refine⟨_,⟨n0,λk hk=>vp (v:=.int .i64 T) rfl ?_ <| hU (v:=w) (H1:=Hg) rfl ?_ <| vp (v:=w) rfl ?_ cG⟩,?_,?_⟩
  .simp[aD,au,aj,b2]
  .simp only[aD,List.map_cons,List.map_nil,au,aq,ax,Nat.reduceEqDiff,if_true,if_false,hg,hgk,List.nil_append,List.append_nil];exact hgc k hk
  .simp[aD,au,aj,aq]
  .simp[aq]
  .simp only[aq,ax,Nat.reduceEqDiff,if_false];exact b3'
 obtain⟨F4,c1,c2,c3⟩:=c1;obtain⟨F5,d1,d2,d3,d4,d5⟩:=(catX.y3 (E:=E) (N:=N) (F:=F4) (H:=Hg) (s:=s)).2 c3;obtain⟨F6,H6,w6,e1,e2,e3,e4⟩:=catX.UP (E:=E) (N:=N) h1 hn (by omega) s.l.length 0 F5 Hg w (by omega) d2 d3 d4 (by rw[d5 6 (by omega)];exact c2) hga
 have f1:∃F7,(∀call,bE E N call none catX.CN F6 H6=some (F7,H6))/\get F7 2=w6:=
  ⟨_,λcall=>vp (v:=w6) rfl (by simp[aD,au,aj,e2]) <| vp (v:=w6) rfl (by simp[aD,au,aj,aq]) cG,by simp[aq]⟩
 obtain⟨F7,f1,f2⟩:=f1;obtain⟨n,hn'⟩:=Ex.run hN p1 p2 (args:=[aU s]) (by simp;omega) (Ex.seq (Ex.bT g1) (Ex.seq (Ex.bT g2) (Ex.seq (Ex.seq (Ex.bT a1) (Ex.sr (Ex.loop b1))) (Ex.seq (Ex.ops c1) (Ex.seq (Ex.seq (Ex.bT d1) (Ex.sr (Ex.loop e1))) (Ex.seq (Ex.bT f1) Ex.ret)))))) (vs:=[w6]) (by rw[p4];simp[fC,f2])
 refine⟨n,w6,H6,λid=>∃m,w6=.hsl id 1 0 m,hn',?_,?_,?_⟩
 .rcases e3.sh with⟨h,h2⟩|⟨id,xs,h,h2,h3⟩
  .have:T=0:=by rw[<-hT,<-eC,h2];rfl
   rw[h];unfold xu;rw[if_pos (by omega)]
   exact .same _ rfl
  .by_cases h0:T=0
   .have:=e4 (by omega)
    rw[hgn h0]at this;rw[this]at h;cases h
   .have hx:=h3 (hne h0);subst hx;unfold xu;rw[if_neg (by omega),h]
    show FR H6 _ (.fsl (aA.size α) (rows (s.l.flatMap Sl.l))) _;rw[h1];exact .fsl 1 _ id 0 _ ⟨_,rfl⟩ (by unfold an;rw[h2];rfl) (by omega) (λi a b ha hb=>by rw[Nat.zero_add]at hb;rw[ha]at hb;cases hb;rfl) (λi j a b u v ha hb hu hv=>by
     rw[Nat.zero_add]at hb;rw[ha]at hb;cases hb;rw[hu]at hv;cases hv;exact .same _ (gA.1 (hgood a (List.mem_of_getElem? ha)) j u hu))
 .rintro id ⟨m,h⟩;rcases e3.sh with⟨h',_⟩|⟨id',xs,h',h2,_⟩
  .rw[h']at h;cases h
  .rw[h']at h;cases h;unfold an;rw[h2];rfl
 .refine⟨λid es ys hz hr c hc u hu=>?_⟩
  obtain⟨m,h⟩:=hz;rcases e3.sh with⟨h',_⟩|⟨id',xs,h',h2,h3⟩
  .rw[h']at h;cases h
  .rw[h']at h;cases h
   by_cases h0:T=0
   .have:=e4 (by omega)
    rw[hgn h0]at this;rw[this]at h';cases h'
   .have hx:=h3 (hne h0);subst hx;unfold an at hr;rw[h2]at hr;cases hr;obtain⟨j,hj⟩:=List.getElem?_of_mem hu;exact⟨u,.same _ (gA.1 (hgood c hc) j u hj)⟩
end Go.VE
namespace Go.VE
variable [aS]
def vZ (op:Bool) (x y:Int):Int:=cond op x y
@[simp] theorem Sd (x y:Int):vZ true x y=x:=rfl
@[simp] theorem S9 (x y:Int):vZ false x y=y:=rfl
namespace setX
instance {n:Nat}:OfNat Arg n:=⟨.s n⟩
def fa (k:Nat):K:=.p (.fieldAddr k)
def ld:K:=.r (.load 1 false)
def r1:List RO:=[o2 4 (.a .box) [1] [],o2 5 (.a .box) [2] []]
def r2:List RO:=[o1 6 0 [],o2 7 (fa 0) [4] [],o2 8 ld [7] [],o2 9 (fa 1) [4] [],o2 10 ld [9] [],o2 11 (.p (.idxS 1)) [6,8] [],⟨none,none,false,.l (.store 1),[11,10],[],[]⟩]
def r3:List RO:=[o1 6 0 [],o2 7 (fa 0) [5] [],o2 8 ld [7] [],o2 9 (fa 1) [5] [],o2 10 ld [9] [],o2 11 (.p (.bin (some .int) none .sub)) [10,.k (.int .i64 1)] [],o2 12 (.p (.idxS 1)) [6,8] [],⟨none,none,false,.l (.store 1),[12,11],[],[]⟩]
def code (op:Bool):RC:=.seq (.ops r1) (.ops (if op then r3 else r2))
section
variable {E:Env} {N:Nat->FuncId} {H:ak} {id off L:Nat} {rs:List (List V)}
theorem Nz {h:Nat} {x y:V} {i:Nat} {v:V} (hb:H[h]? = some (.row 2 [[x,y]])) (hv:[x,y][i]? = some v):dy H (.load 1 false) [.hptr h 0 i]=some v:=by
 match i,hv with
 | 0,hv=>cases hv;simp[dy,cN,hb,Ob.rows,cut,mk]
 | 1,hv=>cases hv;simp[dy,cN,hb,Ob.rows,cut,mk]
 | i+2,hv=>simp at hv
theorem whole (op:Bool) {a b c d:Int} (hid:H[id]? = some (.row 1 rs)) (hp:0<=(vZ op c a)) (hpl:(vZ op c a).toNat<L) {z:V} (hz:rs[off+(vZ op c a).toNat]? = some [z]) :
 ∃F' X,Ex E N (code op) [.hsl id 1 off L,.agg [.int .i64 a,.int .i64 b],.agg [.int .i64 c,.int .i64 d]] H .norm F' ((H++X).set id (.row 1 (rs.set (off+(vZ op c a).toNat) [.int .i64 (vZ op (IntKind.wrap .i64 (d-1)) b)]))):=by
 let X:ak:=[.row 2 [[.int .i64 a,.int .i64 b]],.row 2 [[.int .i64 c,.int .i64 d]]]
 have hlt:=(ζe.1 hid).1;have e1:∃F1,(∀call,bE E N call none r1 [.hsl id 1 off L,.agg [.int .i64 a,.int .i64 b],.agg [.int .i64 c,.int .i64 d]] H=some (F1,H++X))/\get F1 0=.hsl id 1 off L/\get F1 4=.hptr H.length 0 0/\get F1 5=.hptr (H.length+1) 0 0:=by
  refine⟨_,λcall=>hU (v:=.hptr H.length 0 0) (H1:=H++[.row 2 [[.int .i64 a,.int .i64 b]]]) rfl ?_ <| hU (v:=.hptr (H.length+1) 0 0) (H1:=H++X) rfl ?_ cG,?_,?_,?_⟩
  .simp[aD,au,get,iT,V.cells,V.one,Mk.val]
  .simp[aD,au,get,aq,set,iT,V.cells,V.one,Mk.val,X]
  .simp[aq];rfl
  .simp[aq]
  .simp[aq]
 obtain⟨F1,p1,p2,p3,p4⟩:=e1;have h1:(H++X)[id]? = some (.row 1 rs):=by rw[List.getElem?_append_left hlt];exact hid
 have h2:(H++X)[H.length]? = some (.row 2 [[.int .i64 a,.int .i64 b]]):=by simp[X]
 have h3:(H++X)[H.length+1]? = some (.row 2 [[.int .i64 c,.int .i64 d]]):=by
  rw[List.getElem?_append_right (by omega)];simp[X]
 obtain⟨H1,hH⟩:∃H1,H1=H++X:=⟨_,rfl⟩;rw[<-hH]at h1 h2 h3;rw[<-hH]at p1
 suffices hs:∃F',Ex E N (code op) [.hsl id 1 off L,.agg [.int .i64 a,.int .i64 b],.agg [.int .i64 c,.int .i64 d]] H .norm F' (H1.set id (.row 1 (rs.set (off+(vZ op c a).toNat) [.int .i64 (vZ op (IntKind.wrap .i64 (d-1)) b)])))by
  obtain⟨F',hF⟩:=hs;exact⟨F',X,by rw[<-hH];exact hF⟩
 have hix:∀p:Int,0<=p->p.toNat<L->jV 1 (.hsl id 1 off L) p=some (.hptr id (off+p.toNat) 0):=λp h0 hl=>by
  unfold jV;rw[if_neg (by omega)];simp[hl]
 have hst:∀(q:Nat) (z v:V),rs[q]? = some [z]->v.one=true->dI H1 (.store 1) [.hptr id q 0,v]=some (.undef,H1.set id (.row 1 (rs.set q [v]))):=λq z v hz hv=>by
  simp[dI,h1,hz,CE hv,hv]
 cases op with
 | false=>
  simp only[S9]at hp hpl hz ⊢;have l1:=Nz (i:=0) h2 rfl;have l2:=Nz (i:=1) h2 rfl;have e2:∃F2,(∀call,bE E N call none r2 F1 H1=some (F2,H1.set id (.row 1 (rs.set (off+a.toNat) [.int .i64 b])))):=by
   refine⟨_,λcall=>vp (v:=.hsl id 1 off L) rfl ?_ <| vp (v:=.hptr H.length 0 0) rfl ?_ <| vp (v:=.int .i64 a) rfl ?_ <| vp (v:=.hptr H.length 0 1) rfl ?_ <| vp (v:=.int .i64 b) rfl ?_ <| vp (v:=.hptr id (off+a.toNat) 0) rfl ?_ <| hU (v:=.undef) rfl ?_ cG⟩
   .simp[aD,au,aj,p2]
   .simp[aD,au,aj,aq,fa,fG,p3]
   .simp only[aD,List.map_cons,List.map_nil,au,aq,ax,Nat.reduceEqDiff,if_true,if_false,ld,l1,Option.map_some]
   .simp[aD,au,aj,aq,fa,fG,p3]
   .simp only[aD,List.map_cons,List.map_nil,au,aq,ax,Nat.reduceEqDiff,if_true,if_false,ld,l2,Option.map_some]
   .simp only[aD,List.map_cons,List.map_nil,au,aq,ax,Nat.reduceEqDiff,if_true,if_false,aj,hix a hp hpl,Option.map_some]
   .simp only[aD,List.map_cons,List.map_nil,au,aq,ax,Nat.reduceEqDiff,if_true,if_false];exact hst _ z _ hz rfl
  obtain⟨F2,q1⟩:=e2;exact⟨F2,Ex.seq (Ex.bT p1) (Ex.bT (l:=_) q1)⟩
 | true=>
  simp only[Sd]at hp hpl hz ⊢;have l1:=Nz (i:=0) h3 rfl;have l2:=Nz (i:=1) h3 rfl;have e2:∃F2,(∀call,bE E N call none r3 F1 H1=some (F2,H1.set id (.row 1 (rs.set (off+c.toNat) [.int .i64 (IntKind.wrap .i64 (d-1))])))):=by
   refine⟨_,λcall=>vp (v:=.hsl id 1 off L) rfl ?_ <| vp (v:=.hptr (H.length+1) 0 0) rfl ?_ <| vp (v:=.int .i64 c) rfl ?_ <| vp (v:=.hptr (H.length+1) 0 1) rfl ?_ <| vp (v:=.int .i64 d) rfl ?_ <| vp (v:=.int .i64 (IntKind.wrap .i64 (d-1))) rfl ?_ <| vp (v:=.hptr id (off+c.toNat) 0) rfl ?_ <| hU (v:=.undef) rfl ?_ cG⟩
   .simp[aD,au,aj,p2]
   .simp[aD,au,aj,aq,fa,fG,p4]
   .simp only[aD,List.map_cons,List.map_nil,au,aq,ax,Nat.reduceEqDiff,if_true,if_false,ld,l1,Option.map_some]
   .simp[aD,au,aj,aq,fa,fG,p4]
   .simp only[aD,List.map_cons,List.map_nil,au,aq,ax,Nat.reduceEqDiff,if_true,if_false,ld,l2,Option.map_some]
   .simp[aD,au,aj,aq,fB]
   .simp only[aD,List.map_cons,List.map_nil,au,aq,ax,Nat.reduceEqDiff,if_true,if_false,aj,hix c hp hpl,Option.map_some]
   .simp only[aD,List.map_cons,List.map_nil,au,aq,ax,Nat.reduceEqDiff,if_true,if_false];exact hst _ z _ hz rfl
  obtain⟨F2,q1⟩:=e2;exact⟨F2,Ex.seq (Ex.bT p1) (Ex.bT (l:=_) q1)⟩
end
end setX
structure Vm (S:Sys) {α δ:Type} [aA δ] (g:FuncId) (e:List V) (A:α->List V) (p:Sl δ->α->Option (Sl δ)):Prop where
 f:∃q,S.prm g=some q/\q.part=false/\S.E.keep g=true/\S.E.own g=false/\∀s z s',p s z=some s'->q.go (aA.size δ) (rows s.l) (A z++e)=some (rows s'.l)/\s'=s.re s'.l
 d:V.bU 7 e=true
section
variable {S:Sys} {c:bG} {β γ δ α:Type} [aA δ] {Q:Out×St->Option β} {e:γ->Option β} {cf:Cf}
end
end Go.VE
namespace Go.VE
variable [aS]
def snap (w:World):bp:=λb=>match w.heap[b]? with
 | some (.cells c _ _)=>some (.cells c)
 | some (.map es _)=>some (.map es)
 | _=>none
theorem My {w:World} (hg:sZ (snap w)):bP (snap w) (λ_=>none) [] w where
 dom _ _:=rfl
 imm b x h:=by
  unfold snap at h;split at h
  .rename_i c el fr hh;cases h;exact⟨el,fr,hh⟩
  .rename_i es cl hh;cases h;exact⟨cl,hh⟩
  .cases h
 obs id ob h:=by simp at h
 inj id id' ob ob' p p' h:=by simp at h
 gl:=hg
def eM (I:bp) (xs:List V) (vs:List Value):Prop:=xs.length=vs.length/\∀(j:Nat) a b,xs[j]? = some a->vs[j]? = some b->dz I a b
theorem eM.nil {I:bp}:eM I [] []:=⟨rfl,by simp⟩
theorem eM.one {I:bp} {x:V} {v:Value} (h:dz I x v):eM I [x] [v]:=⟨rfl,λj a b h1 h2=>by
 cases j with
 | zero=>simp at h1 h2;subst h1 h2;exact h
 | succ j=>simp at h1⟩
theorem eM.append {I:bp} {xs ys:List V} {us vs:List Value} (h:eM I xs us) (k:eM I ys vs):eM I (xs++ys) (us++vs):=by
 refine⟨by simp[h.1,k.1],λj a b h1 h2=>?_⟩
 by_cases hj:j<xs.length
 .rw[List.getElem?_append_left hj]at h1;rw[List.getElem?_append_left (by rw[<-h.1];exact hj)]at h2
  exact h.2 j a b h1 h2
 .rw[List.getElem?_append_right (by omega)]at h1
  rw[List.getElem?_append_right (by rw[<-h.1];omega),<-h.1]at h2
  exact k.2 _ a b h1 h2
theorem Ab {α β:Type} {f:α->Option β}:∀{l:List α} {r:List β},l.mapM f=some r->r.length=l.length/\∀(i:Nat) a b,l[i]? = some a->r[i]? = some b->f a=some b
 | [],r,h=>by simp only[List.mapM_nil,Option.pure_def,ζa]at h;subst h;simp
 | x::l,r,h=>by
  simp only[List.mapM_cons,Option.bind_eq_bind,Option.pure_def,ζg,ζa]at h;obtain⟨y,hy,ys,hys,rfl⟩:=h;obtain⟨h1,h2⟩:=Ab hys;refine⟨by simp[h1],λi a b h3 h4=>?_⟩
  cases i with
  | zero=>simp at h3 h4;subst h3 h4;exact hy
  | succ i=>exact h2 i a b (by simpa using h3) (by simpa using h4)
structure tG {H:Type} (b:DataW H->Nat):Prop where
 lit:∀l,1<=b (.lit l)
 str:∀s,s.length+1<=b (.lit (.string s))
 nil:1<=b .nil
 slice:∀es sp,(es.map b).sum+1<=b (.slice es sp)
 agg:∀ps,(ps.map b).sum+1<=b (.agg ps)
class bX (α:Type) where
 wt:α->Nat
 ok:α->Prop
instance:bX Int where
 wt _:=1
 ok n:=-9223372036854775808<=n/\n<=9223372036854775807
instance:bX Bool where
 wt _:=1
 ok _:=True
instance:bX ByteArray where
 wt s:=s.size+1
 ok s:=s.size<=maxLen
instance {α:Type} [bX α]:bX (Sl α) where
 wt s:=(s.l.map bX.wt).sum+1
 ok s:=(∀x∈s.l,bX.ok x)/\s≠.emp
class Reads (P:Program) (t:TypeId) (α:Type) [aA α] [bX α]:Prop where
 size:P.cellsOf t=aA.size α
 rd:∀{H:Type} {enc:TypeId×Value->H} {w:World} {base:Nat} {spare:Nat->Bool} {held:Bool} {fuel:Nat} {cs:List Value} {d:DataW H} {ps:List MemPlace},
  DataW.trod enc P w base spare held fuel t cs=some (d,ps)->∃a:α,eM (snap w) (cells a) cs/\bX.ok a/\∀b:DataW H->Nat,tG b->bX.wt a<=b d
 shape:∀{w:World} {r:_root_.Go.Reach} {base:Nat} {v:Value},Value.okWide P w r base t v->if aA.agg α then ∃cs,v=.agg cs else v.cells=#[v]
section
variable {P:Program}
theorem pe {w:World} {r:_root_.Go.Reach} {base:Nat} {t:TypeId} {v:Value} {u:_} (hu:P.underlying t=some u) (h1:∀fs,u≠.struct fs) (h2:∀n e,u≠.array n e) (h:Value.okWide P w r base t v):v.cells=#[v]:=by
 cases v with
 | agg cs=>
  exfalso;unfold Value.okWide at h;rw[hu]at h;split at h
  .rename_i fs heq;cases heq;exact h1 _ rfl
  .rename_i n e heq;cases heq;exact h2 _ _ rfl
  .unfold Cell.okWide at h;rw[hu]at h;split at h <;> first|(simp at *;done)|skip
   unfold Cell.ok at h;rw[hu]at h;cases u <;> simp at h
 | _=>rfl
theorem Reads.int {t:TypeId} (hu:P.underlying t=some (.int .i64)) (hc:P.cellsOf t=1):Reads P t Int where
 size:=hc
 rd {H enc w base spare held fuel cs d ps} h:=by
  cases fuel with
  | zero=>simp[DataW.trod]at h
  | succ fuel=>
   simp only[DataW.trod,hu]at h;split at h <;> first|(simp at h;done)|skip
   .rename_i heq;cases heq
   .rename_i k k' n heq;simp only[ζa,TypeDesc.int.injEq]at heq;split at h
    .rename_i hk;obtain⟨rfl,hw⟩:=hk;subst heq;cases h;exact⟨n,eM.one (.int _ n),show _/\_ by simpa [Lit.wf,IntKind.min,IntKind.max,IntKind.signed,IntKind.bits]using hw,λb hb=>hb.lit _⟩
    .simp at h
   all_goals (rename_i heq;cases heq)
 shape h:=by simp only[show aA.agg Int=false from rfl];exact pe hu (by simp) (by simp) h
theorem Reads.bool {t:TypeId} (hu:P.underlying t=some .bool) (hc:P.cellsOf t=1):Reads P t Bool where
 size:=hc
 rd {H enc w base spare held fuel cs d ps} h:=by
  cases fuel with
  | zero=>simp[DataW.trod]at h
  | succ fuel=>
   simp only[DataW.trod,hu]at h;split at h <;> first|(simp at h;done)|skip
   .rename_i b _;cases h;exact⟨b,eM.one (.bool b),trivial,λb hb=>hb.lit _⟩
   all_goals (rename_i heq;cases heq)
 shape h:=by simp only[show aA.agg Bool=false from rfl];exact pe hu (by simp) (by simp) h
theorem Reads.str {t:TypeId} (hu:P.underlying t=some .string) (hc:P.cellsOf t=1):Reads P t ByteArray where
 size:=hc
 rd {H enc w base spare held fuel cs d ps} h:=by
  cases fuel with
  | zero=>simp[DataW.trod]at h
  | succ fuel=>
   simp only[DataW.trod,hu]at h;split at h <;> first|(simp at h;done)|skip
   all_goals (first|(rename_i heq;cases heq;done)|skip)
   rename_i s _;split at h
   .rename_i hs;cases h;exact⟨s,eM.one (.str s),hs,λb hb=>hb.str _⟩
   .simp at h
 shape h:=by simp only[show aA.agg ByteArray=false from rfl];exact pe hu (by simp) (by simp) h
theorem Mp {w:World} {a:Addr} {n:Nat} {v:Value} (h:w.cell? (a.add n)=some v) (hn:n=0\/True):∃c el fr,w.heap[a.block]? = some (.cells c el fr)/\c[a.off+n]? = some v/\(n=0->a.spot=none):=by
 unfold World.cell? Addr.add at h
 by_cases h0:n=0
 .subst h0;simp only[if_true]at h;split at h
  .rename_i c el fr hh;split at h
   .simp at h
   .rename_i hs;exact⟨c,el,fr,hh,h,λ_=>by simpa using hs⟩
  .simp at h
 .simp only[if_neg h0]at h;split at h
  .rename_i c el fr hh;simp only[Option.isSome_none,Bool.false_eq_true,if_false]at h;exact⟨c,el,fr,hh,h,λe=>absurd e h0⟩
  .simp at h
theorem Reads.sl {t e:TypeId} {α:Type} [aA α] [bX α] [Reads P e α] (hu:P.underlying t=some (.slice e)) (hc:P.cellsOf t=1) (hpos:0<aA.size α):Reads P t (Sl α) where
 size:=hc
 rd {H enc w base spare held fuel cs d ps} h:=by
  cases fuel with
  | zero=>simp[DataW.trod]at h
  | succ fuel=>
   simp only[DataW.trod,hu]at h;split at h <;> first|(simp at h;done)|skip
   all_goals (first|(rename_i heq;cases heq;done)|skip)
   .cases h;exact⟨.nil,eM.one .aF,⟨λx hx=>by simp[Sl.l]at hx,by simp⟩,λb hb=>hb.nil⟩
   .rename_i e' a len cap heq;cases heq;split at h
    .rename_i hcap;obtain⟨elems,hel,h⟩:=ζg.1 h;obtain⟨rest,_,h⟩:=ζf.1 h;cases h;obtain⟨hlen,hget⟩:=Ab hel;simp only[List.length_range]at hlen;have hes:P.cellsOf e=aA.size α:=Reads.size (α:=α);have hx:∀i,i<len->∃x:α,∃csi:List Value,w.cells? base (a.add (i*P.cellsOf e)) (P.cellsOf e)=some csi/\eM (snap w) (cells x) csi/\bX.ok x/\∀b:DataW H->Nat,tG b->∀y,elems[i]? = some y->bX.wt x<=b y.1:=λi hi=>by
      have:=hget i i (elems[i]'(by omega)) (by simp[hi]) (ζd (by omega))
      obtain⟨csi,h1,h2⟩:=ζg.1 this;obtain⟨x,hx,hk,hb⟩:=Reads.rd (P:=P) (t:=e) (α:=α) (d:=(elems[i]'(by omega)).1) (ps:=(elems[i]'(by omega)).2) h2
      exact⟨x,csi,h1,hx,hk,λb bo y hy=>by
       rw[ζd (by omega)]at hy;cases hy;exact hb b bo⟩
     have hall:∀n,n<=len->∃xs:List α,xs.length=n/\(∀i x,xs[i]? = some x->∃csi:List Value,w.cells? base (a.add (i*P.cellsOf e)) (P.cellsOf e)=some csi/\eM (snap w) (cells x) csi)/\(∀x∈xs,bX.ok x)/\∀b:DataW H->Nat,tG b->(xs.map bX.wt).sum<=(((elems.take n).map (·.1)).map b).sum:=by
      intro n
      induction n with
      | zero=>intro _;exact⟨[],rfl,by simp,by simp,by simp⟩
      | succ n ih=>
       intro hn;obtain⟨xs,h1,h2,h5,h6⟩:=ih (by omega)
       obtain⟨x,csi,h3,h4,h7,h8⟩:=hx n (by omega)
       refine⟨xs++[x],by simp[h1],λi y hy=>?_,λy hy=>?_,λb bo=>?_⟩
       rotate_left
       .rcases List.mem_append.1 hy with hy|hy
        .exact h5 y hy
        .simp at hy;subst hy;exact h7
       .have k1:=h6 b bo;have k2:=h8 b bo _ (ζd (by omega))
        rw[List.take_succ,ζd (by omega:n<elems.length)]
        simp only[List.map_append,List.sum_append,Option.toList_some,List.map_cons,List.map_nil,List.sum_cons,List.sum_nil];omega
       by_cases hi:i<xs.length
       .rw[List.getElem?_append_left hi]at hy;exact h2 i y hy
       .rw[List.getElem?_append_right (by omega)]at hy
        have:i-xs.length=0:=by
         cases hk:i-xs.length with
         | zero=>rfl
         | succ k=>rw[hk]at hy;simp at hy
        rw[this]at hy;simp at hy;subst hy;have:i=n:=by omega
        subst this;exact⟨csi,h3,h4⟩
     obtain⟨xs,hxl,hxs,hxok,hxw⟩:=hall len (Nat.le_refl _);refine⟨.row xs,eM.one ?_,⟨hxok,by simp⟩,λb bo=>?_⟩
     rotate_left
     .have k:=hxw b bo;rw[List.take_of_length_le (by omega)]at k
      have k2:=bo.slice (elems.map (·.1)) (rest.map (·.1));show (xs.map bX.wt).sum+1<=_;omega
     show dz _ (.fsl (aA.size α) (rows xs)) _
     cases hl:xs with
     | nil=>
      subst hl;simp at hxl;subst hxl;exact .fsl0 _ _ _
     | cons x0 xr=>
      rw[<-hl];have hl0:0<len:=by rw[<-hxl,hl];simp
      have hcell:∀i x,xs[i]? = some x->∀j y,(cells x)[j]? = some y->∃v,w.cell? ((a.add (i*aA.size α)).add j)=some v/\dz (snap w) y v:=by
       intro i x hi j y hy;obtain⟨csi,h1,h2⟩:=hxs i x hi;rw[hes]at h1;unfold World.cells? at h1;split at h1
       .obtain⟨g1,g2⟩:=Ab h1;have hj:j<aA.size α:=by rw[<-dh x];exact(ζe.1 hy).1
        obtain⟨v,hv⟩:∃v,csi[j]? = some v:=⟨_,ζd (by rw[g1];simpa using hj)⟩
        exact⟨v,g2 j j v (by simp[hj]) hv,h2.2 j y v hy hv⟩
       .simp at h1
      have hadd:∀i j,(a.add (i*aA.size α)).add j=a.add (i*aA.size α+j)\/True:=λ_ _=>.inr trivial
      have hget2:∀i x,xs[i]? = some x->∀j y,(cells x)[j]? = some y->∃c el fr v,w.heap[a.block]? = some (.cells c el fr)/\c[a.off+i*aA.size α+j]? = some v/\dz (snap w) y v/\(i=0->j=0->a.spot=none):=by
       intro i x hi j y hy;obtain⟨v,h1,h2⟩:=hcell i x hi j y hy;obtain⟨c,el,fr,g1,g2,g3⟩:=Mp h1 (.inr trivial);have hb:(a.add (i*aA.size α)).block=a.block:=by unfold Addr.add;split <;> rfl
       have ho:(a.add (i*aA.size α)).off=a.off+i*aA.size α:=by unfold Addr.add;split <;> simp_all
       rw[hb]at g1;rw[ho]at g2;refine⟨c,el,fr,v,g1,g2,h2,?_⟩;rintro rfl rfl;have:=g3 rfl;simpa [Addr.add]using this
      have h00:∃y,(cells x0)[0]? = some y:=⟨_,ζd (by rw[dh];exact hpos)⟩
      obtain⟨y0,hy0⟩:=h00;obtain⟨c,el,fr,v0,hc1,_,_,hsp⟩:=hget2 0 x0 (by rw[hl];rfl) 0 y0 hy0
      have hsp:=hsp rfl rfl;obtain⟨b,o,sp⟩:=a;simp only at hsp hc1;subst hsp;have hI:snap w b=some (.cells c):=by unfold snap;rw[hc1]
      have hrl:(rows xs).length=len:=by rw[eC,hxl]
      rw[<-hrl];refine .fsl _ _ b o cap c hI (by rw[hrl];exact hcap.2.1) (λr hr=>?_) (λr hr y hy=>?_) ?_ (λi j r y v hr hy hv=>?_)
      .obtain⟨x,_,rfl⟩:=List.mem_map.1 hr;exact dh x
      .obtain⟨x,_,rfl⟩:=List.mem_map.1 hr;exact List.all_eq_true.1 (l_ x) y hy
      .
       obtain⟨xl,hxl2⟩:∃x,xs[len-1]? = some x:=⟨_,ζd (by omega)⟩
       obtain⟨yl,hyl⟩:∃y,(cells xl)[aA.size α-1]? = some y:=⟨_,ζd (by rw[dh];omega)⟩
       obtain⟨c2,_,_,v2,k1,k2,_,_⟩:=hget2 (len-1) xl hxl2 (aA.size α-1) yl hyl;simp only at k1 k2;rw[hc1]at k1;cases k1;have:=(Array.getElem?_eq_some_iff.1 k2).1;rw[hrl];have e:len*aA.size α=(len-1)*aA.size α+aA.size α:=by
        obtain⟨m,rfl⟩:∃m,len=m+1:=⟨len-1,by omega⟩
        simp[Nat.add_mul]
       omega
      .simp only[rows,List.getElem?_map,ζf]at hr;obtain⟨x,hx1,rfl⟩:=hr;obtain⟨c2,_,_,v2,k1,k2,k3,_⟩:=hget2 i x hx1 j y hy;simp only at k1 k2;rw[hc1]at k1;cases k1;rw[hv]at k2;cases k2;exact k3
    .simp at h
 shape h:=by simp only[show aA.agg (Sl α)=false from rfl];exact pe hu (by simp) (by simp) h
theorem eM.seg {I:bp} {acc xs:List V} {cs:List Value} {o n:Nat} (h:eM I acc (cs.take o)) (k:eM I xs ((cs.drop o).take n)):eM I (acc++xs) (cs.take (o+n)):=by
 rw[List.take_add];exact h.append k
theorem eM.fin {I:bp} {xs:List V} {cs:List Value} {n:Nat} (h:eM I xs (cs.take n)) (hl:cs.length=n):eM I xs cs:=by
 rw[List.take_of_length_le (by omega)]at h;exact h
theorem Reads.st {t:TypeId} {fs:Array Field} {α:Type} [aA α] [bX α] (hu:P.underlying t=some (.struct fs)) (hc:P.cellsOf t=aA.size α) (ha:aA.agg α=true)
 (h:∀{H:Type} {enc:TypeId×Value->H} {w:World} {base:Nat} {spare:Nat->Bool} {held:Bool} {fuel:Nat} {cs:List Value} {l:List (DataW H×List MemPlace)},cs.length=aA.size α ->
  (fs.toList.mapM λf=>DataW.trod enc P w base spare held fuel f.type ((cs.drop f.offset).take (P.cellsOf f.type)))=some l->∃a:α,eM (snap w) (cells a) cs/\bX.ok a/\∀b:DataW H->Nat,tG b->bX.wt a<=((l.map (·.1)).map b).sum+1):Reads P t α where
 size:=hc
 rd {H enc w base spare held fuel cs d ps} hr:=by
  cases fuel with
  | zero=>simp[DataW.trod]at hr
  | succ fuel=>
   simp only[DataW.trod,hu]at hr;split at hr <;> first|(simp at hr;done)|skip
   all_goals (first|(rename_i heq;cases heq;done)|skip)
   rename_i hl;obtain⟨l,h1,h2⟩:=ζf.1 hr;cases h2;obtain⟨a,k1,k2,k3⟩:=h (by rw[hl,hc]) h1
   exact⟨a,k1,k2,λb bo=>Nat.le_trans (k3 b bo) (bo.agg _)⟩
 shape hv:=by
  rw[if_pos ha];unfold Value.okWide at hv;rw[hu]at hv;obtain⟨cs,h1,_⟩:=hv;exact⟨cs,h1⟩
theorem Reads.arg {t:TypeId} {α:Type} [aA α] [bX α] [Reads P t α] {H:Type} {enc':TypeId×Value->H} {w:World} {base:Nat} {spare:Nat->Bool} {held:Bool} {r:_root_.Go.Reach} {b:Nat} {v:Value} {d:DataW H} {ps:List MemPlace}
 (hv:Value.okWide P w r b t v) (h:DataW.Trod enc' P w base spare held t v d ps):∃a:α,aG (snap w) (λ_=>none) (enc a) v/\bX.ok a/\∀b:DataW H->Nat,tG b->bX.wt a<=b d:=by
 obtain⟨fuel,h⟩:=h;obtain⟨a,⟨h1,h2⟩,hok,hwt⟩:=Reads.rd (P:=P) (t:=t) (α:=α) h;have hs:=Reads.shape (P:=P) (t:=t) (α:=α) hv;refine⟨a,?_,hok,hwt⟩
 cases ha:aA.agg α with
 | true=>
  rw[ha,if_pos rfl]at hs;obtain⟨cs,rfl⟩:=hs;rw[rE ha];refine .c _ _ (.agg _ _ (by simpa [Value.cells]using h1) (λj x y hx hy=>h2 j x y hx (by simpa [Value.cells]using hy)))
 | false=>
  rw[ha]at hs;simp only[Bool.false_eq_true,if_false]at hs;rw[hs]at h2;rw[qn ha]at h2;exact .c _ _ (h2 0 _ _ rfl rfl)
end
end Go.VE
namespace Go.VE
variable [aS]
open Go.ChangeShapes Go.WideShapes Go.ChangeAt Go.RowKit
structure DQ (w w':World):Prop where
 kept:w.keptBut w' (λ_=>False)
 fz:∀a:Addr,a.block<w.heap.size->w'.frozen? a=w.frozen? a
theorem Df {I I':bp} {μ':Mu} {H':ak} {w w':World} (s:Step I (λ_=>none) [] w I' μ' H' w'):DQ w w':=by
 have hf:∀b,b<w.heap.size->w'.heap[b]? = w.heap[b]? := λb hb=>s.frame b hb (by rintro⟨id,p,ob,h,_⟩;simp at h)
 refine⟨⟨s.os,s.out.out,λi hi=>?_⟩,λa hb=>?_⟩
 .rw[hf i hi];split
  .rename_i h1 h2;rw[h1]at h2;cases h2;exact⟨rfl,rfl,rfl,λ_ _=>rfl⟩
  .rename_i h1 h2;rw[h1]at h2;cases h2;exact .inr ⟨rfl,rfl⟩
  .rfl
 .unfold World.frozen?;rw[hf _ hb]
theorem Fh {P:Program} {call:cq} (hc:jt P call) {f:FuncId} {args:List V} {b:Bool} {H':ak} (h:call (.fn f) args []=some (.bool b,H')) {w:World} {vs:List Value}
 (hw:sZ (snap w)) (hv:bH (snap w) (λ_=>none) args vs):Calls P f vs.toArray w λe w'=>e=.returned (.bool b)/\DQ w w':=by
 intro cs;have k:=((hc.fn f args [] _ H' h).2 (snap w) (λ_=>none) w vs (My hw) hv)
 obtain⟨e,w',fr,⟨u,I',μ',rfl,hu,_,hs⟩,hcm,h1,h2⟩:=k.2 cs (by simp[Fence.room,fr])
 refine⟨_,w',fr,⟨?_,Df hs⟩,hcm.comes,h1,h2⟩
 cases hu with
 | c _ _ hcr=>cases hcr;rfl
variable {P:Program} {H:Type} {enc:TypeId×Value->H}
theorem Da {ts:List TypeId} {vs:List Value} {ds:List (DataW H)} {ps:List MemPlace} {w w':World} (hg:DQ w w') (h:DataW.TrodAll enc P w 0 (λ_=>true) true ts vs ds ps):DataW.TrodAll enc P w' 0 (λ_=>true) true ts vs ds ps:=by
 have hcell:∀p:MemPlace,p.block<w.heap.size->w.sameAt w' p:=by
  intro p hp;have k:=hg.kept.2.2 p.block hp
  cases p with
  | cell b off=>
   simp only[World.sameAt,World.cell?];simp only[MemPlace.block]at k hp;split at k
   .rename_i c t fr c' t' fr' h1 h2;rw[h1,h2];simp only;have:=k.2.2.2 off (λx=>x)
    simpa using this
   .rename_i h1 h2;rw[h1,h2]
   .rw[k]
  | map b=>
   simp only[World.sameAt];simp only[MemPlace.block]at k hp;split at k
   .rename_i c t fr c' t' fr' h1 h2;obtain⟨rfl,rfl,h3,h4⟩:=k;rw[h1,h2];have:c'=c:=Array.ext_getElem? λi=>h4 i (λx=>x)
    rw[this]
   .rename_i h1 h2;rcases k with k|⟨rfl,rfl⟩
    .exact k.elim
    .rw[h1,h2]
   .exact k
 induction ts generalizing vs ds ps with
 | nil=>cases vs <;> cases ds <;> simp_all [DataW.TrodAll]
 | cons t ts ih=>
  cases vs with
  | nil=>simp[DataW.TrodAll]at h
  | cons v vs=>
   cases ds with
   | nil=>simp[DataW.TrodAll]at h
   | cons d ds=>
    obtain⟨p,q,⟨n,h1⟩,h2,rfl⟩:=h;exact⟨p,q,⟨n,DataW.trod_carry n _ _ _ h1 λx hx=>hcell x (DataW.trod_lt n _ _ _ h1 x hx)⟩,ih h2,rfl⟩
theorem Jm {T:TypeId->Prop} (K:Kids P T) (hz:∀t e,T t->P.underlying t=some (.slice e)->0<P.cellsOf e) {f:Func} {s:ChangeSpec} {apart fresh handsOn again:Bool} {W W':World} {args:Array Value} {ds gs:List (DataW H)} {before:List MemPlace} {tb:TypeId}
 (hT:∀t∈f.params.toList,T t) (hvars:s.vars=[]) (hfn:s.fn H (ds++gs)={ results:=[.lit (.bool true)],args:=ds }) (hrt:f.resultTypes=#[tb]) (hb:P.underlying tb=some .bool)
 (hW:DataW.Whole enc P f.params.toList s.vars apart W args.toList ds gs before) (hg:DQ W W'):s.post enc P f apart fresh handsOn again W args (.bool true) W':=by
 have hW':=hW;obtain⟨p,q,hA,hV,rfl,hfz,hnd⟩:=hW;rw[hvars]at hV;obtain⟨rfl,rfl⟩:=trodVars_none hV;have hr:∀(b:Nat) (sp:Nat->Bool) (hd:Bool),DataW.TrodAll enc P W' b sp hd f.resultTypes.toList ((Value.bool true).resultList f.resultTypes.size) (s.fn H (ds++[])).results []:=λ_ _ _=>by
  rw[hrt,hfn];exact trodAll_cons_mk (shut_bool hb _) trodAll_mk0
 have ha:∀sp:Nat->Bool,(∀x∈p++[],sp x.block=true)->DataW.TrodAll enc P W' 0 sp true f.params.toList args.toList (s.fn H (ds++[])).args p:=λsp hsp=>by
  rw[hfn];exact DataW.TrodAll.respare K hz hT (Da hg hA) (λx hx=>hsp x (List.mem_append_left _ hx))
 have hv:∀sp:Nat->Bool,DataW.TrodVars enc P W' sp s.vars (s.fn H (ds++[])).vars []:=λsp=>by rw[hfn,hvars];rfl
 have hlt:=λx hx=>hW'.lt x hx
 refine⟨ds,[],p++[],[],p,[],hW',hr _ _ _,ha _ λx hx=>by simpa using hlt x hx,hv _,World.keptBut_mono (λx hx=>hx.elim) hg.kept,λ_=>⟨ok_one hrt rfl (okWide_bool_mk hb _),?_⟩⟩
 refine⟨_,_,[]++p++[],⟨[]++p,[],trodAll_append (ha _ λ_ _=>rfl) (hr _ _ _),hv _,rfl,λb off hx=>?_,λh=>by simpa using hnd h⟩,λx hx _=>by simpa using hx⟩
 have hx':MemPlace.cell b off∈p++[]:=by simpa using hx
 rw[hg.fz _ (hlt _ hx')];exact hfz b off hx'
end Go.VE
namespace Go.VE
variable [aS]
instance:bX U8 where
 wt _:=1
 ok n:=0<=n.v/\n.v<=255
theorem Reads.u8 {P:Program} {t:TypeId} (hu:P.underlying t=some (.int .u8)) (hc:P.cellsOf t=1):Reads P t U8 where
 size:=hc
 rd {H enc w base spare held fuel cs d ps} h:=by
  cases fuel with
  | zero=>simp[DataW.trod]at h
  | succ fuel=>
   simp only[DataW.trod,hu]at h;split at h <;> first|(simp at h;done)|skip
   .rename_i heq;cases heq
   .rename_i k k' n heq;simp only[ζa,TypeDesc.int.injEq]at heq;split at h
    .rename_i hk;obtain⟨rfl,hw⟩:=hk;subst heq;cases h;exact⟨⟨n⟩,eM.one (.int _ n),show _/\_ by simpa [Lit.wf,IntKind.min,IntKind.max,IntKind.signed,IntKind.bits]using hw,λb hb=>hb.lit _⟩
    .simp at h
   all_goals (rename_i heq;cases heq)
 shape h:=by simp only[show aA.agg U8=false from rfl];exact pe hu (by simp) (by simp) h
end Go.VE
namespace Go.VE
variable [aS]
theorem HS {m:Tb aL} {n:Nat} {rs:List SV} {b:Bool} (h:bW m n rs=some [.bool b]):rs=[.v (.bool b)]:=by
 cases rs with
 | nil=>cases n <;> simp[bW]at h
 | cons x r=>
  have h1:shut m n x=some (.bool b)/\bW m n r=some []:=by
   unfold bW at h;split at h
   .rename_i y s h1 h2;simp only[ζa,List.cons.injEq]at h;obtain⟨rfl,rfl⟩:=h;exact⟨h1,h2⟩
   .cases h
  have h2:r=[]:=by
   cases r with
   | nil=>rfl
   | cons y r=>
    have:=h1.2;unfold bW at this;split at this <;> simp at this
  subst h2;have h3:=h1.1
  cases x with
  | v y=>unfold shut at h3;simp only[ζa]at h3;rw[h3]
  | own d=>unfold shut at h3;split at h3 <;> simp only[ζa,reduceCtorEq]at h3;rename_i k es xs _;cases k <;> simp[mA]at h3
  | ptr d o=>
   cases n with
   | zero=>simp[shut]at h3
   | succ n=>
    unfold shut at h3;split at h3 <;> try cases h3
    split at h3 <;> try cases h3
    split at h3 <;> cases h3
  | mp d=>unfold shut at h3;split at h3 <;> cases h3
  | clo f a b=>
   cases n with
   | zero=>simp[shut]at h3
   | succ n=>unfold shut at h3;split at h3 <;> cases h3
  | tup l=>
   cases n with
   | zero=>simp[shut]at h3
   | succ n=>unfold shut at h3;obtain⟨_,_,hq⟩:=ζf.1 h3;cases hq
  | _=>cases n <;> simp[shut]at h3
theorem KV {S:Sys} {T:qM} (hT:pO S T) (hI:∀f a b xs,S.items f a b=some xs->dU S f a b xs) {f:FuncId} {xs:List V} (hg:V.bF xs=true) (h:kY (cz S T) f xs=some [.bool true]) :
 ∃n H',run S.E n (.fn f) xs []=some (.bool true,H'):=by
 unfold kY at h;obtain⟨⟨rs,m⟩,h1,h2⟩:=ζg.1 h;have:=HS h2;simp only at this;subst this;exact OL hT hI hg h1 rfl
theorem G3 {S:Sys} {T:qM} {P:Program} (hT:pO S T) (hI:∀f a b xs,S.items f a b=some xs->dU S f a b xs) (hc:∀n,jt P (run S.E n)) {f:FuncId} {xs:List V} (hg:V.bF xs=true) (h:kY (cz S T) f xs=some [.bool true])
 {w:World} {args:Array Value} (hw:sZ (snap w)) (hv:bH (snap w) (λ_=>none) xs args.toList):Calls P f args w λe w'=>e=.returned (.bool true)/\DQ w w':=by
 obtain⟨n,H',hr⟩:=KV hT hI hg h;have:=Fh (hc n) hr hw hv;simpa using this
theorem Reads.HO {P:Program} {t:TypeId} {α:Type} [aA α] [bX α] [Reads P t α] {H:Type} {enc':TypeId×Value->H} {w:World} {base b:Nat} {spare:Nat->Bool} {held:Bool} {v:Value} {d:DataW H} {ps:List MemPlace} {params:Array TypeId} {args:Array Value}
 (hval:∀(j:Nat) t v,params[j]? = some t->args[j]? = some v->Value.okWide P w .any b t v) (j:Nat) (h1:params[j]? = some t) (h2:args[j]? = some v) (h:DataW.Trod enc' P w base spare held t v d ps) :
 ∃a:α,aG (snap w) (λ_=>none) (enc a) v/\bX.ok a/\∀b:DataW H->Nat,tG b->bX.wt a<=b d:=Reads.arg (hval j t v h1 h2) h
end Go.VE
namespace Go.VE
variable [aS]
theorem bY (n:Nat) (h:n<9223372036854775807):IntKind.wrap .i64 ((n:Int)+1)=((n+1:Nat):Int):=by
 simp[IntKind.wrap,IntKind.bits,IntKind.signed];omega
theorem mF (n:Int) (h1:-9223372036854775808<=n) (h2:n<=9223372036854775807):IntKind.wrap .i64 n=n:=by
 simp[IntKind.wrap,IntKind.bits,IntKind.signed];omega
section
variable {α β:Type} {P:β->Prop}
theorem oh (s:Sl α) (i:Nat):idx s (i:Int)=s.l[i]? := by
 unfold idx;rw[if_pos (by omega)];rfl
theorem aX {s:Sl α} {i:Nat} (h:i<s.l.length):idx s (i:Int)=some s.l[i]:=by rw[oh,ζd h]
theorem KR {s:Sl α} {i:Int} (h0:0<=i):idx s i=s.l[i.toNat]? := by unfold idx;rw[if_pos h0]
theorem uA (s:Sl α) (i:Nat) (h:i<=s.l.length):∃x,eH s none (some (i:Int))=some x/\x.l=s.l.take i:=by
 unfold eH cE;simp only[Option.getD_none,Option.getD_some];rw[if_pos (by omega)]
 cases s <;> simp[Sl.l]at h ⊢ <;> simp[h]
theorem aY {γ:Type} {a b:γ}:ay true a b=a:=rfl
theorem bg {γ:Type} {a b:γ}:ay false a b=b:=rfl
theorem ko (a b:Bool):ay a (some b) (some false)=some (a&&b):=by cases a <;> rfl
theorem iX (a b:Bool):ay a (some true) (some b)=some (a||b):=by cases a <;> rfl
theorem qW (a:Bool) (x y:β):ay a (some x) (some y)=some (if a then x else y):=by cases a <;> rfl
end
def place {α:Type} (f:α->Bool) (l:List α):Int:=match l.findIdx? f with
 | some i=>i
 | none=>-1
theorem xH {α:Type} {f:α->Bool} {l:List α} {i:Nat} (h:∀j,j<i->∀x,l[j]? = some x->f x=false) (hi:l.length<=i):l.findIdx? f=none:=by
 rw[List.findIdx?_eq_none_iff];intro x hx;obtain⟨j,hj⟩:=List.getElem?_of_mem hx;have:j<l.length:=(ζe.1 hj).1;exact h j (by omega) x hj
theorem FQ {α:Type} {f:α->Bool} {l:List α} {i:Nat} {x:α} (h:∀j,j<i->∀x,l[j]? = some x->f x=false) (hx:l[i]? = some x) (hf:f x=true):l.findIdx? f=some i:=by
 rw[List.findIdx?_eq_some_iff_getElem];obtain⟨hi,rfl⟩:=ζe.1 hx;exact⟨hi,hf,λj hj=>by rw[h j hj _ (ζd (by omega))];simp⟩
theorem ud {α:Type} {step:Int->Option (Fw Int Unit Int)} {s:Sl α} {p:α->Option Bool} {f:α->Bool} (hp:∀x∈s.l,p x=some (f x)) (hl:s.l.length<9223372036854775807)
 (hs:∀i,step i=ay (decide (i<len s)) ((idx s i).bind λx_1=>(p x_1).bind λx_2=>ay x_2 (some (.r i)) (some (.n (IntKind.wrap .i64 (i+1))))) (some (.x ()))) :
 (aZ step 0).bind (Fw.elim (λ_=>some (-1)) (λe=>some e))=some (place f s.l):=by
 refine Wp.eq (gE (λi:Int=>∃n:Nat,i=n/\n<=s.l.length/\∀j,j<n->∀x,s.l[j]? = some x->f x=false) (λi:Int=>s.l.length-i.toNat) ⟨0,rfl,Nat.zero_le _,λj hj=>absurd hj (by omega)⟩ ?_)
 rintro i ⟨n,rfl,hn,hb⟩;rw[hs,bD];refine⟨λh=>?_,λh=>?_⟩
 .have hlt:n<s.l.length:=by simpa [len]using h
  rw[aX hlt,ζb,hp _ (List.getElem_mem hlt),ζb,bD];refine⟨λhf=>?_,λhf=>?_⟩
  .rw[af];show Wp (some (n:Int)) _;rw[af];unfold place;rw[FQ hb (ζd hlt) hf]
  .rw[af];refine⟨⟨n+1,bY n (by omega),by omega,λj hj x hx=>?_⟩,?_⟩
   .by_cases e:j=n
    .subst e;rw[ζd hlt]at hx;cases hx;exact hf
    .exact hb j (by omega) x hx
   .rw[bY n (by omega)];simp;omega
 .have hge:s.l.length<=n:=by simpa [len]using h
  rw[af];show Wp (some (-1:Int)) _;rw[af];unfold place;rw[xH hb hge]
theorem uo {α:Type} (f:α->Bool) (l:List α):decide (place f l>=0)=l.any f:=by
 unfold place
 cases h:l.findIdx? f with
 | none=>
  rw[List.findIdx?_eq_none_iff]at h;have:l.any f=false:=by rw[List.any_eq_false];intro x hx;simp[h x hx]
  rw[this];rfl
 | some i=>
  obtain⟨hi,hf,_⟩:=List.findIdx?_eq_some_iff_getElem.1 h;have:l.any f=true:=List.any_eq_true.2 ⟨_,List.getElem_mem hi,hf⟩;rw[this];simp
theorem Mn {α σ ε ρ:Type} {step:α->σ->Option (Fw σ ε ρ)} {l:List α} (I:Nat->σ->Prop) (px:ε->Prop) (pr:ρ->Prop) {s:σ} (h0:I 0 s)
 (h:∀i a s,l[i]? = some a->I i s->Wp (step a s) λw=>match w with|.n s'=>I (i+1) s'|.x e=>px e|.r b=>pr b) :
 Wp (mG step l s) λw=>match w with|.n s'=>I l.length s'|.x e=>px e|.r b=>pr b:=by
 have key:∀(r:List α) (i:Nat) (s:σ),l.drop i=r->i<=l.length->I i s->Wp (mG step r s) λw=>match w with|.n s'=>I l.length s'|.x e=>px e|.r b=>pr b:=by
  intro r
  induction r with
  | nil=>
   intro i s hd hi hs;have:i=l.length:=by have:=List.drop_eq_nil_iff.1 hd;omega
   subst this;exact⟨_,rfl,hs⟩
  | cons a r ih=>
   intro i s hd hi hs;have hlt:i<l.length:=by
    apply Classical.byContradiction;intro hn;rw[List.drop_eq_nil_of_le (by omega)]at hd;cases hd
   have h2:=List.drop_eq_getElem_cons hlt;rw[h2]at hd;simp only[List.cons.injEq]at hd;obtain⟨w,hw,hp⟩:=h i a s (by rw[ζd hlt,hd.1]) hs
   simp only[mG,hw,ζb]
   cases w with
   | n s'=>exact ih (i+1) s' hd.2 (by omega) hp
   | x e=>exact⟨_,rfl,hp⟩
   | r b=>exact⟨_,rfl,hp⟩
 exact key l 0 s rfl (Nat.zero_le _) h0
theorem yp {α σ ε ρ γ:Type} {step:α->σ->Option (Fw σ ε ρ)} {l:List α} {fn:σ->Option γ} {fx:ε->Option γ} {fr:ρ->Option γ} {P:γ->Prop} (I:Nat->σ->Prop) {s:σ} (h0:I 0 s)
 (h:∀i a s,l[i]? = some a->I i s->Wp (step a s) λw=>match w with|.n s'=>I (i+1) s'|.x e=>Wp (fx e) P|.r b=>Wp (fr b) P)
 (hn:∀s,I l.length s->Wp (fn s) P):Wp ((mG step l s).bind (Fw.uJ fn fx fr)) P:=by
 rw[eS];refine(Mn I _ _ h0 h).mono ?_;intro w hw
 cases w with
 | n s=>exact hn s hw
 | x e=>exact hw
 | r b=>exact hw
end Go.VE
