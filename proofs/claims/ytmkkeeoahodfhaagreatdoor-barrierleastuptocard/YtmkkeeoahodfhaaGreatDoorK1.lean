/-
 Certificates; functions by hand; readings; plain laws.
-/
import Derived.JoinedCond
import Derived.ReadAgain
import Derived.WalkKit
import Derived.ProofKit
import Derived.OpenShut
import Derived.ChangeSame
import Derived.RowKit3
import Derived.Lib.LaidTab
import Derived.Test.YtmkkeeoahodfhaaGreatDoorV2
import Derived.Test.YtmkkeeoahodfhaaGreatDoorN2
import Derived.Test.YtmkkeeoahodfhaaGreatDoorS1
set_option linter.all false
namespace Go.VE
variable [bN]
abbrev Cf:=Fo×List Fm×St
section
variable (S:Sys) (c:cg) {β:Type} (Q:Out×St->Option β)
noncomputable abbrev b8 (cf:Cf):Option β:=rn S c Q cf.1 cf.2.1 cf.2.2
noncomputable def iP (n:Nat) (cf:Cf):Cf:=(gD S c n cf.1 cf.2.1 cf.2.2).getD cf
structure Dk where
 dr:Bool
 fr:List Nat
 d:Option Nat
 gd:Option (Nat×Bool)
 now:Bool
 k:K
 az:List Arg
 dd:List Nat
 l:List RO
 fs:List Fm
 st:St
noncomputable def gy (n:Nat) (cf:Cf):Option Dk:=match gD S c n cf.1 cf.2.1 cf.2.2 with
 | some (.ops dr fr (⟨d,gd,now,k,az,dd,[]⟩::l),fs,st)=>match wanted st.g gd with
  | some true=>some ⟨dr,fr,d,gd,now,k,az,dd,l,fs,st⟩
  | _=>none
 | _=>none
noncomputable def nx (n:Nat) (cf:Cf) (φ:Dk->St):Cf:=match gy S c n cf with
 | some p=>(.ops p.dr (if p.dr then(match p.k with|.p _|.r _=>p.fr|_=>match p.d with|some d=>d::p.fr|none=>p.fr)else p.fr) p.l,p.fs,n9 p.dd (φ p))
 | none=>cf
end
def s9 (s:Nat) (b:Bool) (cf:Cf):Cf:=(cf.1,cf.2.1,{ cf.2.2 with g:=bJ cf.2.2.g s (.v (.bool b)) })
def jmp (k:Nat) (fr:List Nat) (cf:Cf) (st:St):Cf:=match cf with
 | (.ops dr _ l,fs,_)=>(.ops dr fr (l.drop k),fs,st)
 | _=>(.rt,[],st)
def mO:RC->List Nat->List Fm->St->Cf
 | c,[],fs,st=>(.rc c,fs,st)
 | .seq a b,i::p,fs,st=>if i=0 then mO a p (.seq b::fs) st else mO b p fs st
 | .cond _ a b,i::p,fs,st=>if i=0 then mO a p fs st else mO b p fs st
 | .block id c,_::p,fs,st=>mO c p (.blk id::fs) st
 | .gh _ c,_::p,fs,st=>mO c p fs st
 | .hg c g,_::p,fs,st=>mO c p (.gst g::fs) st
 | .loop c,_::p,_,st=>mO c p [] st
 | .each _ _ _ b,_::p,_,st=>mO b p [] st
 | c,_,fs,st=>(.rc c,fs,st)
def E7 (B:RC) (pa:List Nat):RC:=match (mO B pa [] (bF [] [])).1 with|.rc (.loop c)=>c|_=>.skip
section
variable {S:Sys} {c:cg} {β γ δ α:Type} {Q:Out×St->Option β} {e:γ->Option β} {cf:Cf}
theorem iF {n:Nat} {p:Dk} (h:gy S c n cf=some p):gD S c n cf.1 cf.2.1 cf.2.2=some (.ops p.dr p.fr (⟨p.d,p.gd,p.now,p.k,p.az,p.dd,[]⟩::p.l),p.fs,p.st)/\wanted p.st.g p.gd=some true:=by
 unfold gy at h
 grind
theorem uE {n:Nat} {m:Option δ} {φ:δ->Dk->St} {f:δ->Option γ} {p:Dk} (B:gy S c n cf=some p) (D:Le (m.bind λx=>some (φ x p)) (fe S c p.dr p.fr ⟨p.d,none,p.now,p.k,p.az,[],[]⟩ p.st))
 (h:∀x,m=some x->Le ((f x).bind e) (b8 S c Q (nx S c n cf (φ x)))):Le ((m.bind f).bind e) (b8 S c Q cf):=by
 obtain⟨h1,t⟩:=iF B;refine Cw h1 rfl t D λx u=>?_
 have:=h x u;simp[nx,B]at this;omega
theorem t_ {n:Nat} {m:Option β} {φ:Dk->St} {p:Dk} (B:gy S c n cf=some p) (D:fe S c p.dr p.fr ⟨p.d,none,p.now,p.k,p.az,[],[]⟩ p.st=some (φ p))
 (h:Le m (b8 S c Q (nx S c n cf φ))):Le m (b8 S c Q cf):=by
 obtain⟨h1,t⟩:=iF B;refine p9 h1 rfl t D ?_;simp[nx,B]at h;omega
theorem fh {α β:Type} {o:Option α} {f:α->β} {b:β} (h:o.map f=some b):∃a,o=some a/\f a=b:=ζf.1 h
theorem wH (n:Nat) {m:Option β} {B:Cf} (h:Le m (b8 S c Q B)) (D:gD S c n cf.1 cf.2.1 cf.2.2=some B:=by kernel_rfl):Le m (b8 S c Q cf):=B_ D h
theorem bC (n s:Nat) {t:Bool} {x y:Option γ} (B:Le (x.bind e) (b8 S c Q (s9 s true (iP S c n cf)))) (D:Le (y.bind e) (b8 S c Q (s9 s false (iP S c n cf))))
 (G:(gD S c n cf.1 cf.2.1 cf.2.2).map (λp=>bg p.2.2.g s)=some (some (.v (.bool t))):=by kernel_rfl):Le ((bq t x y).bind e) (b8 S c Q cf):=by
 obtain⟨p,u,hv⟩:=fh G;have hg:iP S c n cf=p:=by unfold iP;grind
 rw[hg]at B D;refine B_ u ?_;cases t
 .have:s9 s false p=p:=by unfold s9;rw[qj hv]
  rw[this]at D;exact D
 .have:s9 s true p=p:=by unfold s9;rw[qj hv]
  rw[this]at B;exact B
theorem dX (n s:Nat) {t:Bool} {x y:Option γ} (B:Le (x.bind e) (b8 S c Q (s9 s false (iP S c n cf)))) (D:Le (y.bind e) (b8 S c Q (s9 s true (iP S c n cf))))
 (G:(gD S c n cf.1 cf.2.1 cf.2.2).map (λp=>bg p.2.2.g s)=some (some (.v (.bool (!t)))):=by kernel_rfl):Le ((bq t x y).bind e) (b8 S c Q cf):=by
 obtain⟨p,u,hv⟩:=fh G;have hg:iP S c n cf=p:=by unfold iP;grind
 rw[hg]at B D;refine B_ u ?_;cases t
 .have:s9 s true p=p:=by unfold s9;rw[show V.bool true=V.bool (!false)from rfl,qj hv]
  rw[this]at D;exact D
 .have:s9 s false p=p:=by unfold s9;rw[show V.bool false=V.bool (!true)from rfl,qj hv]
  rw[this]at B;exact B
theorem IJ (n k:Nat) (fr:List Nat) (st:δ->St) {m:Option δ} {f:δ->Option γ} (B:Le (m.bind λr=>b8 S c Q (jmp k fr (iP S c n cf) (st r))) (b8 S c Q cf))
 (h1:∀r,Le ((f r).bind e) (b8 S c Q (jmp k fr (iP S c n cf) (st r)))):Le ((m.bind f).bind e) (b8 S c Q cf):=Oh _ B h1
theorem bL (n:Nat) {r:δ} {k:δ->Cf} (B:gD S c n cf.1 cf.2.1 cf.2.2=some (k r):=by kernel_rfl):Le ((some r).bind λr=>b8 S c Q (k r)) (b8 S c Q cf):=TX  B rfl
theorem a_ {r:γ} {L:Option β} (h:L=e r:=by kernel_rfl):Le ((some r).bind e) L:=Le.of_eq h
theorem Sn {σ ε ρ:Type} {B:RC} {pa:List Nat} {step:σ->Option (Fw σ ε ρ)} (D:σ->St) (G:ε->Nat×St) (J:ρ->St) {s:σ} {O:ε->Option γ} {fr:ρ->Option γ} {st:St}
 (h:∀s,Le ((step s).bind λw=>some (Fw.out D G J w)) (b8 S c some (.rc (E7 B pa),[],D s)))
 (U:∀x,Le ((O x).bind e) (b8 S c Q (.ex (G x).1,(mO B pa [] st).2.1,(G x).2))) (hr:∀b,Le ((fr b).bind e) (Q (.ret,J b)))
 (W:mO B pa [] st=(.rc (.loop (E7 B pa)),(mO B pa [] st).2.1,D s):=by kernel_rfl):Le (((bO step s).bind (Fw.elim O fr)).bind e) (b8 S c Q (mO B pa [] st)):=
 EK (n:=0)    (congrArg some W) h U hr
theorem Be (n:Nat) {b:RC} {m:Option (Out×Tb bD)} (h:Le m (b8 S c tV (.rc b,[],(iP S c n cf).2.2))) (B:gD S c n cf.1 cf.2.1 cf.2.2=some (.nx,[],(iP S c n cf).2.2):=by kernel_rfl):Le m (b8 S c (w6 S c b) cf):=Rt B h
theorem Rp (n:Nat) {o:Option α} (A:Option α->St) {f:α->Option γ} (B:∀x,o=some x->Le ((f x).bind e) (b8 S c Q ((iP S c n cf).1,(iP S c n cf).2.1,A (some x))))
 (D:gD S c n cf.1 cf.2.1 cf.2.2=some ((iP S c n cf).1,(iP S c n cf).2.1,A o):=by kernel_rfl):Le ((o.bind f).bind e) (b8 S c Q cf):=Sv D B
theorem jL.LN {S:Sys} {T:pF} [bt δ] {f:FuncId} {A:α->List V} {p:α->Option δ} (B:T f=none) (hk:S.E.keep f=false) (D:∀z r,p z=some r->S.xq f (A z)=some (enc r))
 : jL S (c8 S T) f A (λr=>[enc r]) p false where
 k:=hk
 h z:=by
  intro y t;obtain⟨r,h1,u⟩:=ζg.1 t;cases u;have h:=CK B hk (D z r h1);unfold lW;rw[h];exact uL 8 [enc r]
 s h:=by cases h
def Lx:K->Option BinOp
 | .p (.bin (some .slice) _ o)=>some o
 | _=>none
theorem PA {k:K} {o:BinOp} (h:Lx k=some o):∃u,k=.p (.bin (some .slice) u o):=by
 unfold Lx at h
 grind
def RQ:K->Option (Nat×Nat×List Nat)
 | .a (.buildSl sz ln _ ix)=>some (sz,ln,ix)
 | _=>none
theorem Ry {k:K} {r:Nat×Nat×List Nat} (h:RQ k=some r):∃z,k=.a (.buildSl r.1 r.2.1 z r.2.2):=by
 unfold RQ at h
 grind
def NO:K->Option (List V)
 | .a (.alloc _ zero)=>some zero
 | _=>none
theorem La {k:K} {z:List V} (h:NO k=some z):∃n,k=.a (.alloc n z):=by
 unfold NO at h
 grind
section
variable [bt α]
theorem SF (k:IntKind) (n:Nat) {s:Sl α} {i:Int} {f:α->Option γ} (h:∀x,idx s i=some x->Le ((f x).bind e) (b8 S c Q (nx S c n cf λp=>cZ p.st p.d (cp x))))
 (B:(gy S c n cf).map (λp=>(p.k,bV S.N p.st.g p.az))=some (.p (.idxS (bt.size α)),some [.v (bT s),.v (.int k i)]):=by kernel_rfl):Le (((idx s i).bind f).bind e) (b8 S c Q cf):=by
 obtain⟨p,t,hv⟩:=fh B;simp  at hv;refine uE t ?_ h;rw[hv.1];exact Le.of_eq (NX hv.2 rfl)
theorem bY (n:Nat) {s:Sl α} {i:Int} {f:α->Option γ} (h:∀x,idx s i=some x->Le ((f x).bind e) (b8 S c Q (nx S c n cf λp=>cZ p.st p.d (cp x))))
 (B:(gy S c n cf).map (λp=>(p.k,bV S.N p.st.g p.az))=some (.p (.idxS (bt.size α)),some [.v (bT s),.v (.int .i64 i)]):=by kernel_rfl):Le (((idx s i).bind f).bind e) (b8 S c Q cf):=SF .i64 n h B
theorem jy (k:IntKind) (n u:Nat) {s:Sl α} {i:Int} {f:Nat->Option γ} (h:∀x,s.jf i=some x->Le ((f x).bind e) (b8 S c Q (nx S c n cf λp=>cZ p.st p.d (.el u x 0))))
 (B:(gy S c n cf).map (λp=>(p.k,bV S.N p.st.g p.az,bg p.st.m u))=some (.p (.idxS (bt.size α)),some [.own u,.v (.int k i)],some (cQ s)):=by kernel_rfl):Le (((s.jf i).bind f).bind e) (b8 S c Q cf):=by
 obtain⟨p,t,hv⟩:=fh B;simp  at hv;refine uE t ?_ h;rw[hv.1];exact Le.of_eq (SX hv.2.1 hv.2.2 rfl)
theorem o_ (n u o sz:Nat) (a:Bool) (v:α->V) {s:Sl α} {i:Nat} {f:α->Option γ} (h:∀x,s.get i=some x->Le ((f x).bind e) (b8 S c Q (nx S c n cf λp=>cZ p.st p.d (.v (v x)))))
 (B:(gy S c n cf).map (λp=>(p.k,bV S.N p.st.g p.az,bg p.st.m u,(!p.dr||p.now||ei p.fr [.el u i o])))=some (.r (.load sz a),some [.el u i o],some (cQ s),true):=by kernel_rfl) (hv:∀x:α,(cut (cells x) o sz).bind (mk a)=some (v x):=by intro _;rfl):Le (((s.get i).bind f).bind e) (b8 S c Q cf):=by
 obtain⟨p,w,t⟩:=fh B;simp only[ζc]at t;refine uE w ?_ h;rw[t.1];exact Le.of_eq (Q0 t.2.1 t.2.2.2 t.2.2.1 hv)
theorem tU (n u:Nat) (x:V) {s:Sl α} {i:Nat} {a:α} {f:Sl α->Option γ} (h:∀B,s.put i a=some B->Le ((f B).bind e) (b8 S c Q (nx S c n cf λp=>cZ { p.st with m:=bJ p.st.m u (cQ B) } p.d (.v .undef))))
 (D:(gy S c n cf).map (λp=>(p.k,bV S.N p.st.g p.az,bg p.st.m u,(!p.dr||p.now),x.cells))=some (.l (.store (bt.size α)),some [.el u i 0,.v x],some (cQ s),true,cells a):=by kernel_rfl):Le (((s.put i a).bind f).bind e) (b8 S c Q cf):=by
 obtain⟨p,t,hv⟩:=fh D;simp only[ζc]at hv;refine uE t ?_ h;rw[hv.1];exact Le.of_eq (Qg hv.2.1 hv.2.2.2.1 hv.2.2.1 hv.2.2.2.2 rfl)
theorem Hp (n u:Nat) {i:Int} {z:α} {f:Sl α->Option γ} (h:∀B,ov i z=some B->Le ((f B).bind e) (b8 S c Q (nx S c n cf λp=>{ p.st with g:=bJ p.st.g u (.own u),m:=bJ p.st.m u (cQ B) })))
 (D:(gy S c n cf).map (λp=>(p.d,p.k,bV S.N p.st.g p.az,p.st.new u))=some (some u,.a (.makeSl (bt.size α) (cells z)),some [.v (.int .i64 i),.v (.int .i64 i)],true):=by kernel_rfl):Le (((ov i z).bind f).bind e) (b8 S c Q cf):=by
 obtain⟨p,t,hv⟩:=fh D;simp  at hv;refine uE t ?_ h;rw[hv.1,hv.2.1];exact Le.of_eq (RD hv.2.2.1 rfl rfl hv.2.2.2)
theorem mE (n o w u:Nat) {s:Sl α} {x:α} {f:Sl α->Option γ} (h:∀B,fT s x=some B->Le ((f B).bind e) (b8 S c Q (nx S c n cf λp=>{ p.st with g:=bJ p.st.g u (.own u),m:=bJ (dH o p.st.m) u (cQ B) })))
 (D:(gy S c n cf).map (λp=>(p.d,p.k,bV S.N p.st.g p.az,(!p.dr||p.now),bg p.st.m o,bg p.st.m w,St.new { p.st with m:=dH o p.st.m } u))=some (some u,.l (.append (bt.size α)),some [.own o,.own w],true,some (cQ s),some (cQ (.row [x])),true):=by kernel_rfl):Le (((fT s x).bind f).bind e) (b8 S c Q cf):=by
 obtain⟨p,t,hv⟩:=fh D;simp only[ζc]at hv;refine uE t ?_ h;rw[hv.1,hv.2.1];exact Le.of_eq (Te hv.2.2.1 hv.2.2.2.1 hv.2.2.2.2.1 hv.2.2.2.2.2.1 rfl hv.2.2.2.2.2.2)
theorem NQ (n w u:Nat) (v:V) (x:α) {m:Option β} (h:Le m (b8 S c Q (nx S c n cf λp=>{ p.st with g:=bJ p.st.g u (.own u),m:=bJ p.st.m u (cQ (.row [x])) }))) (hv:v=.bB\/v=.dg:=by first|exact .inl rfl|exact .inr rfl)
 (B:(gy S c n cf).map (λp=>(p.d,p.k,bV S.N p.st.g p.az,(!p.dr||p.now),bg p.st.m w,p.st.new u))=some (some u,.l (.append (bt.size α)),some [.v v,.own w],true,some (cQ (.row [x])),true):=by kernel_rfl):Le m (b8 S c Q cf):=by
 obtain⟨p,z,t⟩:=fh B;simp only[ζc]at t;refine t_ z ?_ h;rw[t.1,t.2.1];exact Q7 hv t.2.2.1 t.2.2.2.1 t.2.2.2.2.1 rfl t.2.2.2.2.2
theorem bR (n:Nat) (s:Sl α) {m:Option β} (h:Le m (b8 S c Q (nx S c n cf λp=>cZ p.st p.d (.v (.int .i64 s.l.length)))))
 (B:(gy S c n cf).map (λp=>(p.k,bV S.N p.st.g p.az))=some (.p .lenSl,some [.v (bT s)]):=by kernel_rfl):Le m (b8 S c Q cf):=by
 obtain⟨p,t,hv⟩:=fh B;simp  at hv;refine t_ t ?_ h;rw[hv.1];exact Oa hv.2
theorem Bm (n u:Nat) (s:Sl α) {m:Option β} (h:Le m (b8 S c Q (nx S c n cf λp=>cZ p.st p.d (.v (.int .i64 s.l.length)))))
 (B:(gy S c n cf).map (λp=>(p.k,bV S.N p.st.g p.az,bg p.st.m u))=some (.p .lenSl,some [.own u],some (cQ s)):=by kernel_rfl):Le m (b8 S c Q cf):=by
 obtain⟨p,t,hv⟩:=fh B;simp  at hv;refine t_ t ?_ h;rw[hv.1];exact RI hv.2.1 hv.2.2
theorem TR (n:Nat) {s:Sl α} {f:Bool->Option γ} (h:∀t,s.isNil=some t->Le ((f t).bind e) (b8 S c Q (nx S c n cf λp=>cZ p.st p.d (.v (.bool t)))))
 (B:(gy S c n cf).map (λp=>(Lx p.k,bV S.N p.st.g p.az))=some (some .eql,some [.v (bT s),.v .bB]):=by kernel_rfl):Le ((s.isNil.bind f).bind e) (b8 S c Q cf):=by
 obtain⟨p,w,hv⟩:=fh B;simp  at hv;obtain⟨u,hk⟩:=PA hv.1;refine uE w ?_ h;rw[hk];exact Le.of_eq (Po hv.2)
theorem Ej (n:Nat) (B D:Bool) (G:List V) {s:Sl α} {a b:Option Int} {f:Sl α->Option γ} (h:∀x,fR s a b=some x->Le ((f x).bind e) (b8 S c Q (nx S c n cf λp=>cZ p.st p.d (.v (bT x)))))
 (J:(gy S c n cf).map (λp=>(p.k,bV S.N p.st.g p.az,j9 B D G))=some (.p (.slice (bt.size α) B D),some (.v (bT s)::G.map .v),some (a,b)):=by kernel_rfl):Le (((fR s a b).bind f).bind e) (b8 S c Q cf):=by
 obtain⟨p,t,hv⟩:=fh J;simp  at hv;obtain⟨h1,z⟩:=iF t;obtain⟨dr,fr,d,gd,now,k,az,dd,l,fs,st⟩:=p;obtain⟨rfl,A,C⟩:=hv;exact TN n dr fr (⟨d,gd,now,.p (.slice (bt.size α) B D),az,dd,[]⟩::l) fs st B D G  rfl (by grind) λu w=>by
  have:=h u w;simp only[nx,t]at this;omega
theorem SP (n:Nat) (B D:Bool) (u t:Nat) (G:List V) {s:Sl α} {a b:Option Int} {f:Sl α->Option γ} (h:∀x,nk s a b=some x->Le ((f x).bind e) (b8 S c Q (nx S c n cf λp=>{ p.st with g:=bJ p.st.g t (.own t),m:=bJ (dH u p.st.m) t (cQ x) })))
 (J:(gy S c n cf).map (λp=>(p.d,p.k,p.dr,bV S.N p.st.g p.az,j9 B D G,bg p.st.m u,St.new { p.st with m:=dH u p.st.m } t))=some (some t,.p (.slice (bt.size α) B D),false,some (.own u::G.map .v),some (a,b),some (cQ s),true):=by kernel_rfl):Le (((nk s a b).bind f).bind e) (b8 S c Q cf):=by
 obtain⟨p,w,hv⟩:=fh J;simp  at hv;obtain⟨h1,I⟩:=iF w;obtain⟨dr,fr,d,gd,now,k,az,dd,l,fs,st⟩:=p;obtain⟨rfl,rfl,rfl,L,O,T,z⟩:=hv;exact SN n fr (⟨some t,gd,now,.p (.slice (bt.size α) B D),az,dd,[]⟩::l) fs st B D u G  rfl z (by grind) λA C=>by
  have:=h A C;simp only[nx,w]at this;omega
theorem eu (n u:Nat) (x:α) {m:Option β} (h:Le m (b8 S c Q (nx S c n cf λp=>{ p.st with g:=bJ p.st.g u (.ptr u 0),m:=bJ p.st.m u (bx x) })))
 (B:(gy S c n cf).map (λp=>(p.d,p.k,bV S.N p.st.g p.az,p.st.new u))=some (some u,.a .box,some [cv x],true):=by kernel_rfl):Le m (b8 S c Q cf):=by
 obtain⟨p,t,hv⟩:=fh B;simp  at hv;refine t_ t ?_ h;rw[hv.1,hv.2.1,w5,hv.2.2.1];simp only[ζb,hv.2.2.2,if_true,mg,ko,nL]
def Tr (u o sz:Nat) (xs:List SV) (p:Dk):St:=match bg p.st.m u with
 | some (.box t)=>cZ { p.st with m:=bJ p.st.m u (.box (t.take o++xs++t.drop (o+sz))) } p.d (.v .undef)
 | _=>p.st
theorem o8 (n u o:Nat) (x:α) {m:Option β} (h:Le m (b8 S c Q (nx S c n cf (Tr u o (bt.size α) ((cells x).map .v)))))
 (B:(gy S c n cf).map (λp=>(p.k,bV S.N p.st.g p.az,(!p.dr||p.now),match bg p.st.m u with|some (.box cs)=>Nat.ble (o+bt.size α) cs.length|_=>false))=some (.l (.store (bt.size α)),some [.ptr u o,cv x],true,true):=by kernel_rfl):Le m (b8 S c Q cf):=by
 obtain⟨p,z,hv⟩:=fh B;simp only[ζc]at hv;refine t_ z ?_ h;obtain⟨h1,A,C,w⟩:=hv;split at w
 .rename_i cs t;have D:=Nat.le_of_ble_eq_true w;rw[h1,tv,A];simp only[ζb,C,if_true,kR,t,putCells,ko,ez,nL,D,and_self,Option.map_some,Tr]
 simp_all
theorem uB (n u:Nat) (xs:List α) {m:Option β} (h:Le m (b8 S c Q (nx S c n cf λp=>{ p.st with g:=bJ p.st.g u (.own u),m:=bJ p.st.m u (cQ (.row xs)) })))
 (B:(gy S c n cf).map (λp=>(p.d,RQ p.k,bV S.N p.st.g p.az,p.st.new u))=some (some u,some (bt.size α,xs.length,List.range' 0 xs.length),some ((xs.map enc).map .v),true):=by kernel_rfl):Le m (b8 S c Q cf):=by
 obtain⟨p,t,hv⟩:=fh B;simp  at hv;obtain⟨h1,C⟩:=iF t;obtain⟨dr,fr,d,gd,now,k,az,dd,l,fs,st⟩:=p;obtain⟨rfl,w,D,A⟩:=hv;obtain⟨z,rfl⟩:=Ry w;exact T7 n dr fr (⟨some u,gd,now,.a (.buildSl (bt.size α) xs.length z (List.range' 0 xs.length)),az,dd,[]⟩::l) fs st xs rfl A (by grind) (by
  simp[nx,t]at h;omega)
end
theorem yF (n:Nat) (k:IntKind) {a:ByteArray} {b:Int} {f:Int->Option γ} (h:∀x,jF a b=some x->Le ((f x).bind e) (b8 S c Q (nx S c n cf λp=>cZ p.st p.d (.v (.int .u8 x)))))
 (B:(gy S c n cf).map (λp=>(p.k,bV S.N p.st.g p.az))=some (.p .idxStr,some [.v (.str a),.v (.int k b)]):=by kernel_rfl):Le (((jF a b).bind f).bind e) (b8 S c Q cf):=by
 obtain⟨p,t,hv⟩:=fh B;simp  at hv;refine uE t ?_ h;rw[hv.1];exact Le.of_eq (LG hv.2)
section
variable {A:α->List V} {E:δ->List V} {pl:α->Option δ} {fn:FuncId} {sc:Bool}
theorem Bh (n:Nat) (F:jL S c fn A E pl sc) (z:α) {f:δ->Option γ} (h:∀x,pl z=some x->Le ((f x).bind e) (b8 S c Q (nx S c n cf λp=>cZ p.st p.d (.v (result (E x))))))
 (B:(gy S c n cf).map (λp=>(p.k,(bV S.N p.st.g p.az).bind oO,(!p.dr||p.now||f_ p.st.m p.fr [])))=some (.c,some (fn,(A z).map .v),true):=by kernel_rfl):Le (((pl z).bind f).bind e) (b8 S c Q cf):=by
 obtain⟨p,w,hv⟩:=fh B;simp  at hv;obtain⟨C,D,L⟩:=hv;obtain⟨G,g1,g2⟩:=ζg.1 D;have t:∀d (u:List V),SV.dy d (u.map .v)=false:=λd u=>by
  induction u with
  | nil=>rfl
  | cons a l I=>simp[SV.dy,SV.cU,I]
 have J:(!p.dr||p.now||f_ p.st.m p.fr ((A z).map .v))=true:=by
  have:f_ p.st.m p.fr ((A z).map .v)=f_ p.st.m p.fr []:=by unfold f_;simp[t];rfl
  grind
 refine uE w ?_ h;rw[C];exact Fq (F.h z) F.k g1 g2 (Ec _ _ _) J (λr=>by rw[rQ];simp)
theorem R6 (n:Nat) (F:jL S c fn A E pl true) (z:α) {f:δ->Option γ} (h:∀x,pl z=some x->Le ((f x).bind e) (b8 S c Q (nx S c n cf λp=>cZ p.st p.d (.v (result (E x))))))
 (B:(gy S c n cf).map (λp=>(p.k,((bV S.N p.st.g p.az).bind oO).bind λq=>(mS (iC p.st.m 8) q.2).map λvs=>(q.1,vs,((!p.dr||p.now)||f_ p.st.m p.fr q.2))))=some (.c,some (fn,A z,true)):=by kernel_rfl):Le (((pl z).bind f).bind e) (b8 S c Q cf):=by
 obtain⟨p,t,hv⟩:=fh B;simp  at hv;obtain⟨u,w⟩:=hv;obtain⟨q,g1,g2⟩:=ζg.1 w;obtain⟨C,g3,g4⟩:=ζg.1 g1;obtain⟨vs,g5,g6⟩:=ζf.1 g2;simp only[ζc]at g6;obtain⟨e1,rfl,e3⟩:=g6;refine uE t ?_ h;rw[u];exact Fq (F.h z) F.k g3 (by grind) g5 e3 (λr=>by rw[F.s rfl];rfl)
end
section
variable {N:Nat} [bt α]
theorem NY (n:Nat) (k:IntKind) {a:bP N α} {i:Int} {f:α->Option γ} (h:∀x,a.at i=some x->Le ((f x).bind e) (b8 S c Q (nx S c n cf λp=>cZ p.st p.d (.v (.fptr (pa a i))))))
 (B:(gy S c n cf).map (λp=>(p.k,bV S.N p.st.g p.az))=some (.p (.idxA N (bt.size α)),some [cp a,.v (.int k i)]):=by kernel_rfl):Le (((a.at i).bind f).bind e) (b8 S c Q cf):=by
 obtain⟨p,t,hv⟩:=fh B;simp  at hv;obtain⟨h1,w⟩:=iF t;obtain⟨dr,fr,d,gd,now,z,az,dd,l,fs,st⟩:=p;obtain⟨rfl,A⟩:=hv;exact SY n dr fr (⟨d,gd,now,.p (.idxA N (bt.size α)),az,dd,[]⟩::l) fs st k   rfl (by grind) λx u=>by
  have:=h x u;simp only[nx,t]at this;omega
theorem LF (n k:Nat) (a:bP N α) (i:Int) (o:Nat) (x:α) (B:a.at i=some x) {m:Option β} (h:Le m (b8 S c Q (nx S c n cf λp=>cZ p.st p.d (.v (.fptr ((pa a i).drop (o+k)))))))
 (D:(gy S c n cf).map (λp=>(p.k,bV S.N p.st.g p.az,Nat.ble (o+k) (bt.size α)))=some (.p (.fieldAddr k),some [.v (.fptr ((pa a i).drop o))],true):=by kernel_rfl):Le m (b8 S c Q cf):=by
 obtain⟨p,t,hv⟩:=fh D;simp  at hv;obtain⟨h1,u⟩:=iF t;obtain⟨dr,fr,d,gd,now,w,az,dd,l,fs,st⟩:=p;obtain⟨rfl,z,A⟩:=hv;exact TH n dr fr (⟨d,gd,now,.p (.fieldAddr k),az,dd,[]⟩::l) fs st a i o x B rfl (by grind) (by
  simp only[nx,t]at h;omega)
theorem Oj (n sz:Nat) (ag:Bool) (a:bP N α) (i:Int) (o:Nat) (x:α) (B:a.at i=some x) (v:V) (hv:(cut (cells x) o sz).bind (mk ag)=some v) {m:Option β} (h:Le m (b8 S c Q (nx S c n cf λp=>cZ p.st p.d (.v v))))
 (D:(gy S c n cf).map (λp=>(p.k,bV S.N p.st.g p.az))=some (.r (.load sz ag),some [.v (.fptr ((pa a i).drop o))]):=by kernel_rfl):Le m (b8 S c Q cf):=by
 obtain⟨p,u,t⟩:=fh D;simp  at t;obtain⟨h1,w⟩:=iF u;obtain⟨dr,fr,d,gd,now,z,az,dd,l,fs,st⟩:=p;obtain⟨rfl,A⟩:=t;exact SK n dr fr (⟨d,gd,now,.r (.load sz ag),az,dd,[]⟩::l) fs st a i o x B hv v rfl (by grind) (by
  simp only[nx,u]at h;omega)
theorem P7 (n u:Nat) (st:St) (len:Nat) (z:α) {m:Option β} (B:st.new u=true) (h:Le m (b8 S c Q (nx S c n cf λ_=>{ st with g:=bJ st.g u (.ptr u 0),m:=bJ st.m u (bx (bP.Dv len z)) })))
 (D:(gy S c n cf).map (λp=>(p.d,NO p.k,bV S.N p.st.g p.az,p.st))=some (some u,some (cells (bP.Dv len z)),some [],st):=by kernel_rfl):Le m (b8 S c Q cf):=by
 obtain⟨p,t,hv⟩:=fh D;simp  at hv;obtain⟨k,hk⟩:=La hv.2.1;refine t_ t ?_ h;rw[hv.1,hk,w5,hv.2.2.1,hv.2.2.2];simp[B,mg]
theorem RZ (n u:Nat) (st:St) (cs:List SV) {m:Option β} (B:st.new u=true) (h:Le m (b8 S c Q (nx S c n cf λ_=>{ st with g:=bJ st.g u (.ptr u 0),m:=bJ st.m u (.box cs) })))
 (D:(gy S c n cf).map (λp=>(p.d,(NO p.k).map (λz=>z.map SV.v),bV S.N p.st.g p.az,p.st))=some (some u,some cs,some [],st):=by kernel_rfl):Le m (b8 S c Q cf):=by
 obtain⟨p,w,hv⟩:=fh D;simp only[ζc]at hv;obtain⟨z,A,t⟩:=fh hv.2.1;obtain⟨k,hk⟩:=La A;refine t_ w ?_ h;rw[hv.1,hk,w5,hv.2.2.1,hv.2.2.2];simp[B,mg,t]
theorem zh (n:Nat) (k:IntKind) (u:Nat) {a:bP N α} {i:Int} {f:α->Option γ} (h:∀x,a.at i=some x->Le ((f x).bind e) (b8 S c Q (nx S c n cf λp=>cZ p.st p.d (.ptr u (i.toNat*bt.size α+0)))))
 (B:(gy S c n cf).map (λp=>(p.k,bV S.N p.st.g p.az,bg p.st.m u))=some (.p (.idxA N (bt.size α)),some [.ptr u 0,.v (.int k i)],some (bx a)):=by kernel_rfl):Le (((a.at i).bind f).bind e) (b8 S c Q cf):=by
 obtain⟨p,t,hv⟩:=fh B;simp  at hv;obtain⟨h1,z⟩:=iF t;obtain⟨dr,fr,d,gd,now,A,az,dd,l,fs,st⟩:=p;obtain⟨rfl,C,D⟩:=hv;exact S0 n dr fr (⟨d,gd,now,.p (.idxA N (bt.size α)),az,dd,[]⟩::l) fs st k u   rfl (by grind) λx w=>by
  have:=h x w;simp only[nx,t]at this;omega
theorem IF (n sz:Nat) (ag:Bool) (u:Nat) (a:bP N α) (i:Int) (o:Nat) (x:α) (B:a.at i=some x) (v:V) (hv:(cut (cells x) o sz).bind (mk ag)=some v) {m:Option β} (h:Le m (b8 S c Q (nx S c n cf λp=>cZ p.st p.d (.v v))))
 (D:(gy S c n cf).map (λp=>(p.k,bV S.N p.st.g p.az,bg p.st.m u,(!p.dr||p.now||ei p.fr [.ptr u 0])))=some (.r (.load sz ag),some [.ptr u (i.toNat*bt.size α+o)],some (bx a),true):=by kernel_rfl):Le m (b8 S c Q cf):=by
 obtain⟨p,w,t⟩:=fh D;simp  at t;obtain⟨h1,z⟩:=iF w;obtain⟨dr,fr,d,gd,now,A,az,dd,l,fs,st⟩:=p;obtain⟨rfl,C,G,I⟩:=t;exact SQ n dr fr (⟨d,gd,now,.r (.load sz ag),az,dd,[]⟩::l) fs st u a i o x B hv v rfl (by grind) (by
  simp only[nx,w]at h;omega)
theorem SA (n sz u:Nat) (a:bP N α) (i:Int) (o:Nat) (x:α) (B:a.at i=some x) (y:α) (v:V) (D:cells y=(cells x).take o++v.cells++(cells x).drop (o+sz)) {m:Option β} (h:Le m (b8 S c Q (nx S c n cf λp=>cZ { p.st with m:=bJ p.st.m u (bx (a.set i y)) } p.d (.v .undef))))
 (G:(gy S c n cf).map (λp=>(p.k,bV S.N p.st.g p.az,bg p.st.m u,(!p.dr||p.now),v.cells.length,v.cells.all V.one,Nat.ble (o+sz) (bt.size α)))=some (.l (.store sz),some [.ptr u (i.toNat*bt.size α+o),.v v],some (bx a),true,sz,true,true):=by kernel_rfl):Le m (b8 S c Q cf):=by
 obtain⟨p,w,t⟩:=fh G;simp  at t;obtain⟨h1,z⟩:=iF w;obtain⟨dr,fr,d,gd,now,A,az,dd,l,fs,st⟩:=p;obtain⟨rfl,C,I,J,L,O,T⟩:=t;exact N9 n dr fr (⟨d,gd,now,.l (.store sz),az,dd,[]⟩::l) fs st u a i o x B y v D rfl (by grind) (by
  simp[nx,w]at h;omega)
end
section
variable {κ ν:Type} [bt κ] [DecidableEq κ] [Key κ] [bt ν]
theorem Sp (n u:Nat) (mp:Mo κ ν) (k:κ) (z:ν) {m:Option β} (h:Le m (b8 S c Q (nx S c n cf λp=>cZ p.st p.d (cv (sY mp k z)))))
 (B:(gy S c n cf).map (λp=>(p.k,bV S.N p.st.g p.az,bg p.st.m u,(!p.dr||p.now||ei p.fr [.mp u,cv k])))=some (.r (.lookup (Key.kk κ) (enc z) false),some [.mp u,cv k],some (lI mp),true):=by kernel_rfl):Le m (b8 S c Q cf):=by
 obtain⟨p,t,hv⟩:=fh B;simp  at hv;obtain⟨h1,w⟩:=iF t;obtain⟨dr,fr,d,gd,now,A,az,dd,l,fs,st⟩:=p;obtain⟨rfl,C,D,G⟩:=hv;exact Sr n dr fr (⟨d,gd,now,.r (.lookup (Key.kk κ) (enc z) false),az,dd,[]⟩::l) fs st u mp k z rfl (by grind) (by
  simp only[nx,t]at h;omega)
theorem RH (n u:Nat) (mp:Mo κ ν) (k:κ) (z:ν) {m:Option β} (h:Le m (b8 S c Q (nx S c n cf λp=>cZ p.st p.d (.v (.tup [enc (sY mp k z),.bool (xB mp k)])))))
 (B:(gy S c n cf).map (λp=>(p.k,bV S.N p.st.g p.az,bg p.st.m u,(!p.dr||p.now||ei p.fr [.mp u,cv k])))=some (.r (.lookup (Key.kk κ) (enc z) true),some [.mp u,cv k],some (lI mp),true):=by kernel_rfl):Le m (b8 S c Q cf):=by
 obtain⟨p,t,hv⟩:=fh B;simp  at hv;obtain⟨h1,w⟩:=iF t;obtain⟨dr,fr,d,gd,now,A,az,dd,l,fs,st⟩:=p;obtain⟨rfl,C,D,G⟩:=hv;exact Ru n dr fr (⟨d,gd,now,.r (.lookup (Key.kk κ) (enc z) true),az,dd,[]⟩::l) fs st u mp k z rfl (by grind) (by
  simp only[nx,t]at h;omega)
theorem RS (n u:Nat) (mp:Mo κ ν) (k:κ) (v:ν) {m:Option β} (h:Le m (b8 S c Q (nx S c n cf λp=>cZ { p.st with m:=bJ p.st.m u (lI (nP mp k v)) } p.d (.v .undef))))
 (B:(gy S c n cf).map (λp=>(p.k,bV S.N p.st.g p.az,bg p.st.m u,(!p.dr||p.now)))=some (.l (.mapUp (Key.kk κ)),some [.mp u,cv k,cv v],some (lI mp),true):=by kernel_rfl):Le m (b8 S c Q cf):=by
 obtain⟨p,w,t⟩:=fh B;simp  at t;obtain⟨h1,z⟩:=iF w;obtain⟨dr,fr,d,gd,now,A,az,dd,l,fs,st⟩:=p;obtain⟨rfl,C,D,G⟩:=t;exact TS n dr fr (⟨d,gd,now,.l (.mapUp (Key.kk κ)),az,dd,[]⟩::l) fs st u mp k v rfl (by grind) (by
  simp[nx,w]at h;omega)
end
theorem S6 (n:Nat) (st:St) {rs:List RV} {e:γ->Option (List V)} {r:γ} (svs:List SV) {ys:List V} (B:mS (iC st.m 8) svs=some ys) (D:e r=some ys)
 (h:(gD S c n cf.1 cf.2.1 cf.2.2).map (λq=>(q.1,q.2.2,kV q.2.2 rs))=some (.rt,st,some svs):=by kernel_rfl):Le ((some r).bind e) (b8 S c (pg rs) cf):=by
 obtain⟨⟨fo,fs,st'⟩,t,hv⟩:=fh h;simp  at hv;obtain⟨rfl,rfl,u⟩:=hv;exact Sk n svs B (by rw[t,u]) D
end
end Go.VE
namespace Go.VE
variable [bN]
section
variable {S:Sys} {c:cg} {β γ δ α:Type} [bt α] {Q:Out×St->Option β} {e:γ->Option β} {cf:Cf}
def mq (s x:Sl α):Option (Sl α):=if x.l=[]then some s else if s.l.length+x.l.length<=2147483648 then some (.row (s.l++x.l))else none
theorem PW (m:Tb bD) (n w:Nat) (x:Sl α) (B:n=bt.size α) (D:bg m w=some (cQ x)):jq m n (.own w)=some (rows x.l):=by
 rw[B2,D,yU n x B]
theorem Fk (l:List α):rows l=[]↔l=[]:=by unfold rows;simp
theorem Mn (a b:List α):rows a++rows b=rows (a++b):=by unfold rows;simp
theorem Em (a:List α):(rows a).length=a.length:=by unfold rows;simp
theorem Q6 {st:St} {dr now:Bool} {fr:List Nat} {az:List Arg} {d n o:Nat} {s x:Sl α} {B:SV} (O:bV S.N st.g az=some [.own o,B]) (U:(!dr||now)=true) (D:bg st.m o=some (cQ s)) (W:jq st.m n B=some (rows x.l)) (G:n=bt.size α) (J:St.new { st with m:=dH o st.m } d=true) :
 fe S c dr fr ⟨some d,none,now,.l (.append n),az,[],[]⟩ st=(mq s x).bind λY=>some { st with g:=bJ st.g d (.own d),m:=bJ (dH o st.m) d (cQ Y) }:=by
 rw[tv,O];simp only[ζb,U,if_true,yC,PW st.m n o s G D,W];unfold mq
 by_cases h:x.l=[]
 .rw[if_pos h,(Fk x.l).2 h];simp only[wW,D,if_pos J,ζb];rfl
 .rw[if_neg h];have hr:rows x.l≠[]:=λe=>h ((Fk _).1 e)
  have u:wW st d n (.own o) (some (rows s.l)) (some (rows x.l))=if(rows s.l).length+(rows x.l).length<=2147483648/\ES (.own o)=true then(if St.new { st with m:=giveUp st.m (.own o) } d then some (.own d,{ st with m:=bJ (giveUp st.m (.own o)) d (.sl .row n (rows s.l++rows x.l)) })else none)else none:=by
   unfold wW;generalize rows x.l=r at *
   cases r with
   | nil=>exact absurd rfl hr
   | cons y r=>rfl
  rw[u,Em,Em,Mn]
  by_cases t:s.l.length+x.l.length<=2147483648
  .rw[if_pos ⟨t,rfl⟩,if_pos (show St.new { st with m:=giveUp st.m (.own o) } d=true from J),if_pos t];rw[ζb,ζb,G];rfl
  .rw[if_neg (λk=>t k.1),if_neg t];rfl
theorem Tf (n o u:Nat) (D:SV) {s x:Sl α} {f:Sl α->Option γ} (G:∀p,gy S c n cf=some p->jq p.st.m (bt.size α) D=some (rows x.l))
 (h:∀B,mq s x=some B->Le ((f B).bind e) (b8 S c Q (nx S c n cf λp=>{ p.st with g:=bJ p.st.g u (.own u),m:=bJ (dH o p.st.m) u (cQ B) })))
 (J:(gy S c n cf).map (λp=>(p.d,p.k,bV S.N p.st.g p.az,(!p.dr||p.now),bg p.st.m o,St.new { p.st with m:=dH o p.st.m } u))=some (some u,.l (.append (bt.size α)),some [.own o,D],true,some (cQ s),true):=by kernel_rfl):Le (((mq s x).bind f).bind e) (b8 S c Q cf):=by
 obtain⟨p,t,hv⟩:=fh J;simp only[ζc]at hv;refine uE t ?_ h;rw[hv.1,hv.2.1];exact Le.of_eq (Q6 hv.2.2.1 hv.2.2.2.1 hv.2.2.2.2.1 (G p t) rfl hv.2.2.2.2.2)
theorem II (m:Tb bD) (x:Sl α):jq m (bt.size α) (.v (bT x))=some (rows x.l):=by
 cases x <;> simp[bT,Sl.k,Sl.l,nu,jq,rows]
theorem vM (n o u:Nat) {s x:Sl α} {f:Sl α->Option γ}
 (h:∀B,mq s x=some B->Le ((f B).bind e) (b8 S c Q (nx S c n cf λp=>{ p.st with g:=bJ p.st.g u (.own u),m:=bJ (dH o p.st.m) u (cQ B) })))
 (D:(gy S c n cf).map (λp=>(p.d,p.k,bV S.N p.st.g p.az,(!p.dr||p.now),bg p.st.m o,St.new { p.st with m:=dH o p.st.m } u))=some (some u,.l (.append (bt.size α)),some [.own o,.v (bT x)],true,some (cQ s),true):=by kernel_rfl):Le (((mq s x).bind f).bind e) (b8 S c Q cf):=
 Tf n o u _ (λp _=>II p.st.m x) h D
end
end Go.VE
namespace Go.VE
variable [bN]
theorem pQ {α:Type} {l:List α} {i:Nat} {x:α} (h:l[i]? = some x):l.set i x=l:=by
 obtain⟨t,rfl⟩:=ζe.1 h;exact List.set_getElem_self t
open Classical in
noncomputable def Aa (E:Env) (g:FuncId) (cb:List V) (a b:V):Option V:=
 if h:∃n y,bU (run E n) g (a::b::cb) []=some y then some (Classical.choose (Classical.choose_spec h))else none
theorem Cz {E:Env} {g:FuncId} {cb:List V} {a b y:V} (h:Aa E g cb a b=some y):∃n,∀k,n<=k->bU (run E k) g (a::b::cb) []=some y:=by
 unfold Aa at h;split at h
 .rename_i h1;cases h;exact⟨_,λk hk=>me (mb E hk) (Classical.choose_spec (Classical.choose_spec h1))⟩
 .cases h
theorem G5 {E:Env} {g:FuncId} {cb:List V} {a b y:V} {n:Nat} (h:bU (run E n) g (a::b::cb) []=some y):Aa E g cb a b=some y:=by
 have h1:∃n y,bU (run E n) g (a::b::cb) []=some y:=⟨n,y,h⟩
 cases hc:Aa E g cb a b with
 | none=>unfold Aa at hc;rw[dif_pos h1]at hc;cases hc
 | some z=>
  obtain⟨m,t⟩:=Cz hc;have:=t _ (Nat.le_max_right n m);rw[me (mb E (Nat.le_max_left n m)) h]at this;cases this;rfl
theorem B4 {n:Nat} {p:_root_.Fin n->Nat->Prop} (h:∀i,∃N,∀k,N<=k->p i k):∃N,∀i k,N<=k->p i k:=by
 induction n with
 | zero=>exact⟨0,λi=>i.elim0⟩
 | succ n t=>
  obtain⟨N,u⟩:=t (p:=λi=>p i.succ) λi=>h i.succ
  obtain⟨M,w⟩:=h 0;refine⟨max N M,λi k hk=>?_⟩
  refine _root_.Fin.cases (w k (by omega)) (λj=>u j k (by omega)) i
def iY (x:List V):V:=x.headD .undef
def sG (es:Nat) (xs:List (List V)):Bool:=es==1&&xs.all (λx=>x.length==1&&x.all V.one)&&decide (xs.length<=2147483648)
theorem v8 {es:Nat} {xs:List (List V)} (h:sG es xs=true):es=1/\xs.length<=2147483648/\∀(i:Nat) x,xs[i]? = some x->x=[iY x]/\(iY x).one=true:=by
 unfold sG at h;simp only[ζh,beq_iff_eq,List.all_eq_true,decide_eq_true_eq]at h;refine⟨h.1.1,h.2,λi x t=>?_⟩
 obtain⟨h1,w⟩:=h.1.2 x (List.mem_of_getElem? t);obtain⟨u,rfl⟩:=List.length_eq_one_iff.1 h1;exact⟨rfl,w u (by simp)⟩
section
variable {H:bf} {Z:Nat->Prop}
theorem cV.Hf {k:Nat} {xs ys:List V} (h:cV H Z xs ys) (B:V.jX k xs=true):borrows k H ys=some xs:=js h.1 λj u v hu hv=>(h.2 j u v hu hv).borrow k (kJ.1 B j u hu)
theorem cV.borrows {xs ys:List V} (h:cV H Z xs ys):∃n,∀k,n<=k->borrows k H ys=some xs:=by
 obtain⟨n,t⟩:=kG xs;exact⟨n,λk hk=>h.Hf (nD hk t)⟩
theorem J6 {es:Nat} {xs:List (List V)} (h:sG es xs=true) {rs:List (List V)} (B:fA H Z xs rs):cV H Z (xs.map iY) rs.flatten:=by
 induction xs generalizing rs with
 | nil=>have:=B.1;simp at this;have:rs=[]:=List.eq_nil_of_length_eq_zero (by simpa using this.symm);subst this;exact .nil
 | cons x xs A=>
  obtain⟨h1,I,C⟩:=v8 h
  cases rs with
  | nil=>have:=B.1;simp at this
  | cons r rs=>
   obtain⟨e,_⟩:=C 0 x rfl;have z:=B.2 0 x r rfl rfl;rw[e]at z;obtain⟨u,J,rfl,hu,t⟩:=z.inv;rw[t.cK];have w:sG es xs=true:=by
    unfold sG at h ⊢;simp only[List.all_cons,ζh,List.length_cons,decide_eq_true_eq]at h ⊢;exact⟨⟨h.1.1,h.1.2.2⟩,by omega⟩
   exact .cons hu (A w (rs:=rs) ⟨by have:=B.1;simpa using this,λj a b D G=>B.2 (j+1) a b D G⟩)
end
noncomputable def qS (E:Env) (g:FuncId) (cb:List V) (a b:V):Option Int:=match Aa E g cb a b with|some (.int .i64 c)=>some c|_=>none
theorem MI {E:Env} {g:FuncId} {cb:List V} {a b:V} {c:Int} (h:qS E g cb a b=some c):∃n,∀k,n<=k->bU (run E k) g (a::b::cb) []=some (.int .i64 c):=by
 unfold qS at h;split at h
 .rename_i c' hc;cases h;exact Cz hc
 .cases h
noncomputable def xV (E:Env) (es:Nat) (xs:List (List V)):List V->Option (List (List V))
 | [.clo g [] cb]=>match xs with
  | []=>some []
  | x::l=>if sG es (x::l) && !E.keep g then
   let t:_root_.Fin (l.length+1)->_root_.Fin (l.length+1)->Option Int:=λi j=>qS E g cb (iY (((x::l)[i.1]?).getD [])) (iY (((x::l)[j.1]?).getD []))
   if yP t then some ((oW l.length (nV t)).toList.map λi=>((x::l)[i.1]?).getD [])else none
   else none
 | _=>none
noncomputable def rm (E:Env):Dl:=⟨false,xV E⟩
theorem AY {n:Nat} {lt:_root_.Fin (n+1)->_root_.Fin (n+1)->Bool} (h:Sort.SWO lt):(oW n lt).size=n+1:=by
 rw[Ac];have:=(Sort.pdq_sorts lt h (List.finRange (n+1)).toArray 0 (n+1) (Lib.bitLen (n+1)) true true (Nat.zero_le _) (by simp) (Or.inl rfl)).1.1
 simpa using this
theorem MJ {E:Env} {f:FuncId} (hk:E.keep f=true) (ho:E.own f=false) (hs:E.sort f=true) (hf:E.ft f=none):mU E f (rm E) where
 keep:=hk
 own:=ho
 le:=by
  intro es xs vs ys h;simp only[rm,xV]at h;split at h
  .split at h
   .cases h;exact⟨Nat.le_refl _,λ_=>rfl⟩
   .split at h
    .split at h
     .rename_i X;cases h;have:=AY (oL X).2;simp only[List.length_map,Array.length_toList,List.length_cons,this];exact⟨Nat.le_refl _,λ_=>trivial⟩
     .cases h
    .cases h
  .cases h
 none:=by
  intro es vs ys h H Z ws w hw he;simp only[rm,xV]at h;split at h
  .obtain⟨w2,r,rfl,h1,h2⟩:=hw.inv;rw[h2.cK];refine⟨1,[],λk hk=>?_⟩
   cases k with
   | zero=>omega
   | succ k=>rcases he with rfl|rfl <;> simp[run,iR,hf,hs,oU,rm]
  .cases h
 row:=by
  intro es xs vs ys h H Z ws id off rs hw I A D t hz;simp only[rm,xV]at h;split at h
  .rename_i g cb;obtain⟨w2,r,rfl,h1,h2⟩:=hw.inv;rw[h2.cK];obtain⟨a',G,rfl,Y,aa⟩:∃a' G,w2=.clo g a' G/\cV H Z [] a'/\cV H Z cb G:=h1.jk;rw[Y.cK]at *;split at h
   .cases h;refine⟨1,rs,[],λk hk=>?_,rfl,⟨rfl,λj u v hu=>by simp at hu⟩,t⟩
    cases k with
    | zero=>omega
    | succ k=>
     have:H.set id (.row es rs)=H:=pQ I;simp[run,iR,hf,hs,oU,rm,this]
   .rename_i x l;split at h
    .rename_i B;simp only[ζh,Bool.not_eq_true']at B;obtain⟨c1,c3⟩:=B;obtain⟨rfl,J,ae⟩:=v8 c1;split at h
     .rename_i X;cases h;obtain⟨C,O⟩:=oL X;have z:∀i,Z i->Z i/\bk (H.set id .dead) i=bk H i:=λi hi=>⟨hi,by
       unfold bk;rw[List.getElem?_set_ne];rintro rfl;exact hz hi⟩
      have Q:=D.mono z;obtain⟨M1,S⟩:=(J6 c1 Q).borrows;simp only[List.length_cons]at S;obtain⟨M2,T⟩:=(aa.mono z).borrows;obtain⟨N,hN⟩:=B4 (p:=λi k=>∀j:_root_.Fin (l.length+1),bU (run E k) g (iY (((x::l)[i.1]?).getD [])::iY (((x::l)[j.1]?).getD [])::cb) []=some (.int .i64 ((qS E g cb (iY (((x::l)[i.1]?).getD [])) (iY (((x::l)[j.1]?).getD []))).getD 0))) (λi=>by
       obtain⟨N,hN⟩:=B4 (p:=λ(j:_root_.Fin (l.length+1)) k=>bU (run E k) g (iY (((x::l)[i.1]?).getD [])::iY (((x::l)[j.1]?).getD [])::cb) []=some (.int .i64 ((qS E g cb (iY (((x::l)[i.1]?).getD [])) (iY (((x::l)[j.1]?).getD []))).getD 0))) (λj=>by
        obtain⟨c,hc⟩:=C i j;obtain⟨n,hn⟩:=MI hc;exact⟨n,λk hk=>by rw[hn k hk,hc];rfl⟩)
       exact⟨N,λk hk j=>hN j k hk⟩)
      have U:∀k,N<=k->ij (run E k) g ((x::l).map iY) cb l.length=λi j=>qS E g cb (iY (((x::l)[i.1]?).getD [])) (iY (((x::l)[j.1]?).getD [])):=λk hk=>by
       funext i j
       obtain⟨c,hc⟩:=C i j;have e1:∀i:_root_.Fin (l.length+1),((x::l).map iY)[i.1]? = some (iY (((x::l)[i.1]?).getD [])):=λi=>by
        have:i.1<(x::l).length:=i.2;rw[List.getElem?_map,ζd this];rfl
       unfold ij;rw[e1 i,e1 j];simp only[hN i k hk j];rw[hc];rfl
      have ab:=AY O;generalize hL:(oW l.length (nV λi j:_root_.Fin (l.length+1)=>qS E g cb (iY (((x::l)[i.1]?).getD [])) (iY (((x::l)[j.1]?).getD [])))).toList=L at *
      have ad:L.length=l.length+1:=by rw[<-hL];simpa using ab
      simp only[List.length_cons]at A D J;refine⟨max N (max M1 M2)+1,pY rs off l.length L,[],λk hk=>?_,?_,?_,?_⟩
      .cases k with
       | zero=>omega
       | succ k=>
        simp only[run,iR,hf,hs,if_true,oU,I,rm,Bool.false_eq_true,if_false,List.length_cons];rw[if_pos ⟨trivial,trivial,A,by omega,c3⟩,show (run E k).lv=k from mc E k,S k (by omega),T k (by omega)]
        simp only[U k (by omega),X,if_true,hL,List.append_nil]
      .simp[pY,ad];omega
      .have e:((pY rs off l.length L).drop off).take (L.map λi=>((x::l)[i.1]?).getD []).length=L.map λi=>(rs[off+i.1]?).getD []:=by
        unfold pY;have h0:(rs.take off).length=off:=by simp;omega
        rw[List.append_assoc,List.drop_append_of_le_length (by omega),List.drop_eq_nil_of_le (by omega),List.nil_append,List.length_map,List.take_append_of_le_length (by simp),List.take_of_length_le (by simp)]
       rw[e];refine⟨by simp,λj a b Y hb=>?_⟩
       rw[List.getElem?_map]at Y hb;obtain⟨i,hi,rfl⟩:=ζf.1 Y;rw[hi]at hb;simp only[Option.map_some,ζa]at hb;subst hb;have W:i.1<(x::l).length:=i.2;have hr:off+i.1<rs.length:=by have:=i.2;omega
       refine D.2 i.1 _ _ (by rw[ζd W];rfl) ?_
       rw[List.getElem?_take,if_pos i.2,List.getElem?_drop,ζd hr];rfl
      .intro c hc u hu;unfold pY at hc;rcases List.mem_append.1 hc with hc|hc
       .rcases List.mem_append.1 hc with hc|hc
        .exact t c (List.mem_of_mem_take hc) u hu
        .obtain⟨i,_,rfl⟩:=List.mem_map.1 hc;have hr:off+i.1<rs.length:=by have:=i.2;omega
         rw[ζd hr]at hu;exact t _ (List.getElem_mem hr) u hu
       .exact t c (List.mem_of_mem_drop hc) u hu
     .cases h
    .cases h
  .cases h
end Go.VE
namespace Go.VE
variable [bN]
def bn (N:Nat->FuncId) (F:Frame):Arg->V
 | .s n=>get F n
 | .k c=>c
 | .f s=>.clo (N s) [] []
def bu (E:Env) (N:Nat->FuncId) (call:c7) (b:Option Nat) (now:Bool) (k:K) (vs:List V) (H:bf):Option (V×bf):=
 match k,b with
 | .p p,_=>(bh N p vs).map λv=>(v,H)
 | .r r,none=>(ey H r vs).map λv=>(v,H)
 | .r r,some b=>(ey (H.take b) r vs).map λv=>(v,H)
 | .a a,none=>(ig a vs).map λx=>(x.2.val H.length,H++[x.1])
 | .l l,none=>eF H l vs
 | .l (.store n),some _=>if now then eF H (.store n) vs else none
 | .c,none=>match vs with
  | .clo g a c::t=>if E.keep g then eH E call g (a++t++c) H else match bU call g (a++t++c) H with
   | some y=>if y.scalar then some (y,H)else none
   | none=>none
  | _=>none
 | .c,some b=>match vs with
  | .clo g a c::t=>if E.keep g then none else match bU call g (a++t++c) (H.take b)with
   | some y=>if y.scalar then some (y,H)else none
   | none=>none
  | _=>none
 | _,_=>none
def bl (F:Frame):Option Nat->V->Frame
 | none,_=>F
 | some d,v=>set F d v
def cr (E:Env) (N:Nat->FuncId) (call:c7) (b:Option Nat):List RO->Frame->bf->Option (Frame×bf)
 | [],F,H=>some (F,H)
 | o::r,F,H=>match o.gd with
  | none=>match bu E N call b o.now o.k (o.az.map (bn N F)) H with
   | some (v,H')=>cr E N call b r (bl F o.dst v) H'
   | none=>none
  | some _=>none
section
variable {X:CX} {N:Nat->FuncId} {call:c7} {F F':Frame} {H H':bf}
theorem HD (B:∀f s,X.nm f=some s->N s=f) {o:Operand} {x:Arg} (h:oE X.nm o=some x):ev F o=some (bn N F x):=by
 cases o with
 | tmp t=>simp[oE]at h;subst h;rfl
 | const w=>
  simp[oE]at h;split at h
  .rename_i c hc;split at h
   .simp  at h;subst h;exact hc
   grind
  grind
 | func f=>
  obtain⟨s,u,rfl⟩:=ζf.1 h;show some (V.clo f [] [])=some (.clo (N s) [] [])
  grind
 | global i=>
  simp[oE]at h;split at h
  .rename_i c hc;split at h
   .simp  at h;subst h;simp[ev,hc];rfl
   grind
  grind
theorem wS (G:∀f s,X.nm f=some s->N s=f):∀{os:List Operand} {B:List Arg},os.mapM (oE X.nm)=some B->eY F os=some (B.map (bn N F))
 | [],B,h=>by simp  at h;subst h;rfl
 | o::os,B,h=>by
  simp[ζg]at h;obtain⟨x,J,xs,D,rfl⟩:=h;simp[eY,HD G J,wS G D]
theorem yo (D:∀f s,X.nm f=some s->N s=f) {B:Bool} {ops:List Oper} {i:Nat} {o:Oper} {ro:RO} (h:lZ X B ops i o=some ro) (hg:ro.gd=none) :
 o.dst=ro.dst/\wX X.nt o.dst=true/\fc ops F o=true/\((BG X.E N F o.op (ro.az.map (bn N F)) ro.k/\ro.now=(B&&dm ops i)/\(B=true->dm ops i=false->∀a',nU ops i a'=[]\/∀t,o.op≠.load t (.tmp a')))\/(∃n,ro.k=.l (.storeF n))\/(∃n a,ro.k=.r (.loadF n a))\/(B=true/\vF ops i=true/\cT o.op=.alloc/\(∃p,ro.k=.p p/\(p=.emptyC\/∃a b,p=.makeC a b)/\∀y,bh N p (ro.az.map (bn N F))=some y->pV X.E F o.op=some y))\/∃n,ro.k=.e n):=by
 unfold lZ at h;split at h
 .rename_i G;split at h
  .rename_i gd k os u hr;split at h
   .split at h
    .rename_i w;simp only[ζh]at w;have U:∀{gd:Option (Nat×Bool)},z6 ops o=some gd->gd=none->fc ops F o=true:=λ{gd} u hg=>by
      subst hg;unfold fc;unfold z6 at u
      cases A:o.guard with
      | none=>rfl
      | some J=>
       rw[A]at u;obtain⟨j,b⟩:=J;obtain⟨d,_,e⟩:=ζf.1 u;cases e
     split at h
     .rename_i L;obtain⟨W,C,rfl⟩:=ζf.1 h;have z:=jB D hr (wS (F:=F) D C);exact⟨rfl,G,U u hg,.inr (.inr (.inr (.inl ⟨w.1,w.2,z.1,_,rfl,.inr ⟨_,_,rfl⟩,λy O=>Bt ⟨_,_,_,by assumption⟩ z O⟩)))⟩
     .rename_i L;split at h
      .rename_i Q;obtain⟨S,rfl,rfl⟩:=Q;obtain⟨W,C,rfl⟩:=ζf.1 h;have z:=jB D hr (wS (F:=F) D C);exact⟨rfl,G,U u hg,.inr (.inr (.inr (.inl ⟨w.1,w.2,z.1,_,rfl,.inl rfl,λy O=>Bx ⟨_,_,_,by assumption⟩ z S O⟩)))⟩
      .cases h
     .cases h
    obtain⟨W,C,rfl⟩:=ζf.1 h;simp only at hg;subst hg;refine⟨rfl,G,?_,?_⟩
    .unfold fc;unfold z6 at u
     cases A:o.guard with
     | none=>rfl
     | some J=>
      rw[A]at u;obtain⟨j,b⟩:=J;obtain⟨d,_,e⟩:=ζf.1 u;cases e
    .rcases A_ B ops i k os with⟨e,T⟩|⟨_,_,n,a,l,Y,_,_,_,e⟩|⟨_,_,n,ag,a,_,_,e⟩|⟨_,_,_,n,_,e⟩
     .rw[e]at C ⊢;refine .inl ⟨jB D hr (wS D C),rfl,λG Z a'=>?_⟩
      by_cases I:∃t,o.op=.load t (.tmp a')
      .obtain⟨t,I⟩:=I;rw[I]at hr;simp only[resolve]at hr;obtain⟨d,_,e⟩:=ζf.1 hr;simp only[ζc]at e;exact .inl (T _ _ a' G Z e.1.symm e.2.symm)
      .exact .inr λt h=>I ⟨t,h⟩
     .rw[e];exact .inr (.inl ⟨n,rfl⟩)
     .rw[e];exact .inr (.inr (.inl ⟨n,ag,rfl⟩))
     .rw[e];exact .inr (.inr (.inr (.inr ⟨n,rfl⟩)))
   .simp at h
  .simp at h
 .simp at h
theorem E5 {nt:Nat} {dst:Option Nat} (h:wX nt dst=true) (v:V):jg nt F dst v=some (bl F dst v):=by
 cases dst with
 | none=>rfl
 | some d=>simp[wX]at h;simp[jg,if_pos h,bl]
theorem Rk (D:∀f s,X.nm f=some s->N s=f) {ops:List Oper} {i:Nat} {o:Oper} {ro:RO} (h:lZ X false ops i o=some ro) (hg:ro.gd=none) {v:V} (hv:bu X.E N call none ro.now ro.k (ro.az.map (bn N F)) H=some (v,H')) :
 fI X.E call X.nt ops none o F H=some (bl F ro.dst v,H'):=by
 obtain⟨h1,G,I,t⟩:=yo (F:=F) D h hg;have J:c6 X.E call ops none F H o.op=some (v,H'):=by
  rcases t with⟨t,_⟩|⟨n,t⟩|⟨n,a,t⟩|⟨t,_⟩|⟨n,t⟩
  .generalize hk:ro.k=k at hv t;generalize ro.az.map (bn N F)=T at hv t;unfold c6
   cases k with
   | p p=>
    obtain⟨c,e⟩:=t;obtain⟨w,z,A⟩:=ζf.1 hv;rw[c];simp only[w8 (e w z),Option.map_some];rw[A]
   | r r=>
    obtain⟨c,e⟩:=t;obtain⟨w,z,A⟩:=ζf.1 hv;rw[c];simp only[e H w z,Option.map_some];rw[A]
   | a a=>
    obtain⟨c,e⟩:=t;obtain⟨⟨ob,m⟩,z,A⟩:=ζf.1 hv;rw[c];simp only[pT,Bool.false_eq_true,if_false,e _ z];exact congrArg some A
   | l l=>
    obtain⟨c,e⟩:=t;rw[c];exact e H _ hv
   | e n=>exact t.elim
   | b=>simp[bu]at hv
   | c=>
    obtain⟨c,f,L,rfl,e⟩:=t;rw[c];simp only[bu]at hv;split at hv
    .rename_i g a b O B;simp only[List.cons.injEq]at B;obtain⟨rfl,rfl⟩:=B;split at hv
     .rename_i u;simp only[e,jN,u,Bool.and_self,if_true];exact hv
     .rename_i u;split at hv
      .rename_i y Q;split at hv
       .rename_i C;simp only[e,jN,u,Bool.false_and,Bool.false_eq_true,if_false,Q,C,if_true];exact hv
       .simp at hv
      .simp at hv
    .simp at hv
  .rw[t]at hv;exfalso;have:∀ops i k os,(vj false ops i k os).1=k:=λ_ _ _ _=>rfl
   unfold lZ at h;simp only[Bool.false_and,Bool.false_eq_true,if_false]at h;split at h
   .split at h
    .rename_i gd k os S hr;split at h
     .obtain⟨L,U,rfl⟩:=ζf.1 h;simp only[this]at t;subst t;unfold resolve at hr
      (repeat' split at hr) <;> first|(simp at hr;done)|(obtain⟨_,_,e⟩:=ζf.1 hr;simp at e;done)
     .simp at h
    .simp at h
   .first|(simp at h;done)|contradiction
  .rw[t]at hv;simp[bu,ey]at hv
  .cases t
  .rw[t]at hv;simp[bu]at hv
 unfold fI;rw[I,if_pos rfl,J];simp only[h1,E5 (h1▸G),Option.map_some]
theorem Ff (D:∀f s,X.nm f=some s->N s=f) {ops:List Oper}:∀(rest:List Oper) {i:Nat} {B:List RO} {F:Frame} {H:bf},jR X false ops i rest=some B->cr X.E N call none B F H=some (F',H')->kN X.E call X.nt ops rest F H=some (F',H')
 | [],i,B,F,H,hc,h=>by
  simp[jR]at hc;subst hc;exact h
 | o::rest,i,B,F,H,hc,h=>by
  simp[jR]at hc;split at hc
  .rename_i ro rs h1 G;simp  at hc;subst hc;simp[cr]at h;split at h
   .rename_i hg;split at h
    .rename_i v H1 hv;simp[kN,Rk D h1 hg hv];exact Ff D rest G h
    grind
   grind
  grind
theorem Pg {ops:List Oper} {i:Nat} {op:Op} (h:∀t a',op=.load t (.tmp a')->nU ops i a'=[]):mG ops i F op=true:=by
 unfold mG
 grind
theorem Rq (W:∀f s,X.nm f=some s->N s=f) {ops:List Oper} {b i:Nat} {o:Oper} (Y:ops[i]? = some o) {ro:RO} (h:lZ X true ops i o=some ro) (hg:ro.gd=none) {v:V} (hv:bu X.E N call (some b) ro.now ro.k (ro.az.map (bn N F)) H=some (v,H')) :
 fI X.E call X.nt ops (some (b,i)) o F H=some (bl F ro.dst v,H'):=by
 obtain⟨h1,Z,h3,u⟩:=yo (F:=F) W h hg;have hd:c6 X.E call ops (some (b,i)) F H o.op=some (v,H'):=by
  rcases u with⟨u,z,A⟩|⟨n,u⟩|⟨n,a,u⟩|⟨_,G,I,p,u,_,J⟩|⟨n,u⟩
  .generalize hk:ro.k=k at hv u;generalize ro.az.map (bn N F)=vs at hv u;unfold c6
   cases k with
   | p p=>
    obtain⟨c,e⟩:=u;obtain⟨w,B,C⟩:=ζf.1 hv;rw[c];simp only[w8 (e w B),Option.map_some];rw[C]
   | r r=>
    obtain⟨c,e⟩:=u;obtain⟨w,B,C⟩:=ζf.1 hv;have L:mG ops i F o.op=true:=Pg λt a' e=>by
     by_cases T:dm ops i=true
     .exact Bs Y e T
     .rcases A rfl (by simpa using T) a' with h|h
      .exact h
      .exact absurd e (h t)
    rw[c];simp only[e _ w B,L,if_true];rw[C]
   | a a=>simp[bu]at hv
   | l l=>
    obtain⟨c,e⟩:=u
    cases l with
    | store n=>
     simp only[bu]at hv;split at hv
     .rename_i U;rw[z,Bool.true_and]at U;rw[c];simp only[U,Bool.true_or,if_true];exact e H _ hv
     .simp at hv
    | _=>simp[bu]at hv
   | e n=>exact u.elim
   | b=>simp[bu]at hv
   | c=>
    obtain⟨c,f,av,rfl,e⟩:=u;rw[c];simp only[bu]at hv;split at hv
    .rename_i g a b aa D;simp only[List.cons.injEq]at D;obtain⟨rfl,rfl⟩:=D;split at hv
     .simp at hv
     .rename_i O;split at hv
      .rename_i y hy;split at hv
       .rename_i Q;simp only[e,jN,O,Bool.false_and,Bool.false_eq_true,if_false,hy,Q,if_true];exact hv
       .simp at hv
      .simp at hv
    .simp at hv
  .rw[u]at hv;simp[bu]at hv
  .rw[u]at hv;simp[bu,ey]at hv
  .rw[u]at hv;obtain⟨w,B,C⟩:=ζf.1 hv;have S:=J w B;unfold c6;rw[I];simp only[pT,G,if_true,S,Option.map_some];exact congrArg some C
  .rw[u]at hv;simp[bu]at hv
 unfold fI;rw[h3,if_pos rfl,hd];simp only[h1,E5 (h1▸Z),Option.map_some]
theorem EH (D:∀f s,X.nm f=some s->N s=f) {ops:List Oper} {b:Nat}:∀(rest:List Oper) {i:Nat} {B:List RO} {F:Frame} {H:bf},ops.drop i=rest->jR X true ops i rest=some B->cr X.E N call (some b) B F H=some (F',H') ->
 iW X.E call X.nt ops b (List.range' i rest.length) F H=some (F',H')
 | [],i,B,F,H,_,hc,h=>by
  simp[jR]at hc;subst hc;exact h
 | o::rest,i,B,F,H,J,hc,h=>by
  simp[jR]at hc;split at hc
  .rename_i ro rs h1 O;simp  at hc;subst hc;simp[cr]at h;split at h
   .rename_i hg;split at h
    .rename_i v H1 hv;have G:ops[i]? = some o:=by
      have:(ops.drop i)[0]? = some o:=by grind
      grind
     have t:ops.drop (i+1)=rest:=by
      rw[<-List.drop_drop,J];rfl
     simp[List.range'_succ,iW,G,Rq D G h1 hg hv];exact EH D rest t O h
    grind
   grind
  grind
def vH (l:List RO):Bool:=l.all λo=>(match o.k with|.a _|.l (.storeF _)|.r (.loadF ..)|.p (.makeC ..)|.p .emptyC|.e _=>false|_=>true)&&o.gd.isNone
theorem BK (J:∀f s,X.nm f=some s->N s=f) {ops:List Oper}:∀(rest:List Oper) {i:Nat} {G:List RO},jR X true ops i rest=some G->vH G=true->rest.any (λo=>cT o.op==.alloc)=false
 | [],_,_,_,_=>rfl
 | o::rest,i,G,hc,D=>by
  simp only[jR]at hc;split at hc
  .rename_i ro rs h1 O;simp only[ζa]at hc;subst hc;simp only[vH,List.all_cons,ζh,Option.isNone_iff_eq_none]at D;obtain⟨_,_,_,B⟩:=yo (F:=[]) J h1 D.1.2;rw[List.any_cons,BK J rest O D.2,Bool.or_false];rcases B with⟨B,_⟩|⟨n,B⟩|⟨n,a,B⟩|⟨_,_,_,p,B,t,_⟩|⟨n,B⟩
   .cases hk:ro.k with
    | a p=>have:=D.1.1;rw[hk]at this;cases this
    | e p=>have:=D.1.1;rw[hk]at this;cases this
    | _=>rw[hk]at B;rw[B.1];rfl
   .have:=D.1.1;rw[B]at this;cases this
   .have:=D.1.1;rw[B]at this;cases this
   .have:=D.1.1;rw[B]at this;rcases t with rfl|⟨_,_,rfl⟩ <;> cases this
   .have:=D.1.1;rw[B]at this;cases this
  .simp at hc
def gm (E:Env) (N:Nat->FuncId) (call:c7) (lf:Nat):RC->Frame->bf->Option (Out×Frame×bf)
 | .skip,F,H=>some (.norm,F,H)
 | .ops l,F,H=>(cr E N call none l F H).map λx=>(.norm,x.1,x.2)
 | .nR l,F,H=>if vH l then(cr E N call (some H.length) l F H).map λx=>(.norm,x.1,x.2)else none
 | .seq a b,F,H=>match gm E N call lf a F H with
  | some (.norm,F',H')=>gm E N call lf b F' H'
  | r=>r
 | .cond x a b,F,H=>match bn N F x with
  | .bool t=>if t then gm E N call lf a F H else gm E N call lf b F H
  | _=>none
 | .block id c,F,H=>match gm E N call lf c F H with
  | some (.exit B,F',H')=>if B=id then some (.norm,F',H')else some (.exit B,F',H')
  | r=>r
 | .loop c,F,H=>jE (gm E N call lf c) lf F H
 | .exit id,F,H=>some (.exit id,F,H)
 | .ret,F,H=>some (.ret,F,H)
 | _,_,_=>none
theorem EY {f g:Frame->bf->Option (Out×Frame×bf)} (h:∀F H r,f F H=some r->g F H=some r):∀(k:Nat) (F:Frame) (H:bf) (r:Out×Frame×bf),jE f k F H=some r->jE g k F H=some r
 | 0,F,H,r,hr=>by simp[jE]at hr
 | k+1,F,H,r,hr=>by
  simp only[jE]at hr ⊢
  cases B:f F H with
  | none=>rw[B]at hr;simp at hr
  | some q=>
   rw[B]at hr;rw[h F H q B];obtain⟨o,F1,H1⟩:=q
   cases o with
   | norm=>exact EY h k F1 H1 r hr
   | exit _=>exact hr
   | ret=>exact hr
theorem Mx (D:∀f s,X.nm f=some s->N s=f) {lf:Nat}:∀(rc:RC) (code:Code) (F:Frame) (H:bf) (r:Out×Frame×bf),bH X false code=some rc->gm X.E N call lf rc F H=some r->exec X.E call lf false X.nt code F H=some r:=by
 intro rc
 induction rc with
 | skip=>
  intro code F H r hc h;simp only[gm,ζa]at h;subst h
  cases code with
  | skip=>rfl
  | label _=>rfl
  | region id ops u=>simp only[bH]at hc;(repeat' split at hc) <;> first|(simp at hc;done)|(obtain⟨_,_,e⟩:=ζf.1 hc;cases e)
  | _=>simp only[bH]at hc;(repeat' split at hc) <;> first|(simp at hc;done)|(obtain⟨_,_,e⟩:=ζf.1 hc;cases e)|cases hc
 | ops l=>
  intro code F H r hc h
  cases code with
  | region id ops u=>
   simp only[bH]at hc;split at hc
   .split at hc
    .obtain⟨_,_,e⟩:=ζf.1 hc;cases e
    .simp at hc
   .rename_i G;obtain⟨T,C,e⟩:=ζf.1 hc;cases e;simp only[gm]at h;obtain⟨⟨F',H'⟩,hv,rfl⟩:=ζf.1 h;simp only[exec,iL,G];rw[if_neg (by simp),Ff D _ C hv];rfl
  | _=>simp only[bH]at hc;(repeat' split at hc) <;> first|(simp at hc;done)|(obtain⟨_,_,e⟩:=ζf.1 hc;cases e)|cases hc
 | nR l=>
  intro code F H r hc h
  cases code with
  | region id ops u=>
   simp only[bH]at hc;split at hc
   .rename_i G;split at hc
    .rename_i I;obtain⟨T,C,e⟩:=ζf.1 hc;cases e;simp only[gm]at h;split at h
     .rename_i U;obtain⟨⟨F',H'⟩,hv,rfl⟩:=ζf.1 h;have W:qb ops.toList=false:=BK D _ C U;have:=EH D ops.toList (i:=0) rfl C hv;rw[<-List.range_eq_range']at this;simp only[exec,iL,G,I,if_true,W,Bool.false_eq_true,if_false,this];rfl
     .simp at h
    .simp at hc
   .obtain⟨_,_,e⟩:=ζf.1 hc;cases e
  | _=>simp only[bH]at hc;(repeat' split at hc) <;> first|(simp at hc;done)|(obtain⟨_,_,e⟩:=ζf.1 hc;cases e)|cases hc
 | seq a b w A=>
  intro code F H r hc h
  cases code with
  | seq J L=>
   simp only[bH]at hc;split at hc
   .rename_i x y B O;cases hc;simp only[gm]at h;simp only[exec]
    cases hva:gm X.E N call lf a F H with
    | none=>rw[hva]at h;simp at h
    | some q=>
     rw[hva]at h;rw[w J F H q B hva];obtain⟨o,F1,H1⟩:=q
     cases o with
     | norm=>exact A L F1 H1 r O h
     | exit _=>exact h
     | ret=>exact h
   .simp at hc
  | region id ops u=>simp only[bH]at hc;(repeat' split at hc) <;> first|(simp at hc;done)|(obtain⟨_,_,e⟩:=ζf.1 hc;cases e)
  | _=>simp only[bH]at hc;(repeat' split at hc) <;> first|(simp at hc;done)|(obtain⟨_,_,e⟩:=ζf.1 hc;cases e)|cases hc
 | cond x a b w A=>
  intro code F H r hc h
  cases code with
  | cond c J L=>
   simp only[bH]at hc;split at hc
   .rename_i x' y z B O Y;cases hc;simp only[gm]at h;simp only[exec,HD (F:=F) D B];split at h
    .rename_i t Z;rw[Z]
     cases t with
     | true=>simp only[if_true]at h ⊢;exact w J F H r O h
     | false=>simp only[Bool.false_eq_true,if_false]at h ⊢;exact A L F H r Y h
    .simp at h
   .simp at hc
  | region id ops u=>simp only[bH]at hc;(repeat' split at hc) <;> first|(simp at hc;done)|(obtain⟨_,_,e⟩:=ζf.1 hc;cases e)
  | _=>simp only[bH]at hc;(repeat' split at hc) <;> first|(simp at hc;done)|(obtain⟨_,_,e⟩:=ζf.1 hc;cases e)|cases hc
 | block id c Q=>
  intro code F H r hc h
  cases code with
  | block S c'=>
   simp only[bH]at hc;obtain⟨x,B,e⟩:=ζf.1 hc;cases e;simp only[gm]at h;simp only[exec]
   cases hva:gm X.E N call lf c F H with
   | none=>rw[hva]at h;simp at h
   | some q=>
    rw[hva]at h;rw[Q c' F H q B hva];exact h
  | region id ops u=>simp only[bH]at hc;(repeat' split at hc) <;> first|(simp at hc;done)|(obtain⟨_,_,e⟩:=ζf.1 hc;cases e)
  | _=>simp only[bH]at hc;(repeat' split at hc) <;> first|(simp at hc;done)|(obtain⟨_,_,e⟩:=ζf.1 hc;cases e)|cases hc
 | loop c Q=>
  intro code F H r hc h
  cases code with
  | loop c'=>
   simp only[bH]at hc;obtain⟨x,B,e⟩:=ζf.1 hc;cases e;simp only[gm]at h;simp only[exec];exact EY (λF H r hr=>Q c' F H r B hr) lf F H r h
  | region id ops u=>simp only[bH]at hc;(repeat' split at hc) <;> first|(simp at hc;done)|(obtain⟨_,_,e⟩:=ζf.1 hc;cases e)
  | _=>simp only[bH]at hc;(repeat' split at hc) <;> first|(simp at hc;done)|(obtain⟨_,_,e⟩:=ζf.1 hc;cases e)|cases hc
 | exit id=>
  intro code F H r hc h
  cases code with
  | exit S=>simp only[bH,ζa,RC.exit.injEq]at hc;subst hc;exact h
  | region id ops u=>simp only[bH]at hc;(repeat' split at hc) <;> first|(simp at hc;done)|(obtain⟨_,_,e⟩:=ζf.1 hc;cases e)
  | _=>simp only[bH]at hc;(repeat' split at hc) <;> first|(simp at hc;done)|(obtain⟨_,_,e⟩:=ζf.1 hc;cases e)|cases hc
 | ret=>
  intro code F H r hc h
  cases code with
  | ret=>exact h
  | region id ops u=>simp only[bH]at hc;(repeat' split at hc) <;> first|(simp at hc;done)|(obtain⟨_,_,e⟩:=ζf.1 hc;cases e)
  | _=>simp only[bH]at hc;(repeat' split at hc) <;> first|(simp at hc;done)|(obtain⟨_,_,e⟩:=ζf.1 hc;cases e)|cases hc
 | _=>intro code F H r hc h;simp[gm]at h
end
end Go.VE
namespace Go.VE
variable [bN]
def Ex (E:Env) (N:Nat->FuncId) (rc:RC) (F:Frame) (H:bf) (o:Out) (F':Frame) (H':bf):Prop:=
 ∃n,∀k,n<=k->gm E N (run E k) k rc F H=some (o,F',H')
def ku (E:Env) (N:Nat->FuncId) (rc:RC) (F:Frame) (H:bf) (o:Out) (F':Frame) (H':bf):Prop:=
 ∃n,∀k,n<=k->∀t,n<=t->jE (gm E N (run E k) k rc) t F H=some (o,F',H')
section
variable {E:Env} {N:Nat->FuncId} {a b c:RC} {F F1 F':Frame} {H H1 H':bf} {o:Out} {x:Arg} {id:Nat}
theorem Ex.ops {l:List RO} (h:∃n,∀k,n<=k->cr E N (run E k) none l F H=some (F',H')):Ex E N (.ops l) F H .norm F' H':=
 let ⟨n,h⟩:=h;⟨n,λk hk=>by simp only[gm,h k hk,Option.map_some]⟩
theorem Ex.cM {l:List RO} (h:∀call,cr E N call none l F H=some (F',H')):Ex E N (.ops l) F H .norm F' H':=Ex.ops ⟨0,λk _=>h _⟩
theorem Ex.nR {l:List RO} (B:vH l=true) (h:∀call,cr E N call (some H.length) l F H=some (F',H')):Ex E N (.nR l) F H .norm F' H':=
 ⟨0,λk _=>by simp only[gm,B,if_true,h,Option.map_some]⟩
theorem Ex.HL {l:List RO} (B:vH l=true) (h:∃n,∀k,n<=k->cr E N (run E k) (some H.length) l F H=some (F',H')):Ex E N (.nR l) F H .norm F' H':=
 let ⟨n,h⟩:=h;⟨n,λk hk=>by simp only[gm,B,if_true,h k hk,Option.map_some]⟩
theorem Ex.skip:Ex E N .skip F H .norm F H:=⟨0,λ_ _=>rfl⟩
theorem Ex.exit:Ex E N (.exit id) F H (.exit id) F H:=⟨0,λ_ _=>rfl⟩
theorem Ex.ret:Ex E N .ret F H .ret F H:=⟨0,λ_ _=>rfl⟩
theorem Ex.seq (h1:Ex E N a F H .norm F1 H1) (B:Ex E N b F1 H1 o F' H'):Ex E N (.seq a b) F H o F' H':=by
 obtain⟨n,h1⟩:=h1;obtain⟨m,B⟩:=B;exact⟨max n m,λk hk=>by simp only[gm,h1 k (by omega)];exact B k (by omega)⟩
theorem Ex.rX (h1:Ex E N a F H o F' H') (B:o≠.norm):Ex E N (.seq a b) F H o F' H':=by
 obtain⟨n,h1⟩:=h1;refine⟨n,λk hk=>?_⟩
 simp only[gm,h1 k hk];cases o <;> first|exact absurd rfl B|rfl
theorem Ex.lq (B:bn N F x=.bool true) (h:Ex E N a F H o F' H'):Ex E N (.cond x a b) F H o F' H':=by
 obtain⟨n,h⟩:=h;exact⟨n,λk hk=>by simp only[gm,B,if_true,h k hk]⟩
theorem Ex.n_ (B:bn N F x=.bool false) (h:Ex E N b F H o F' H'):Ex E N (.cond x a b) F H o F' H':=by
 obtain⟨n,h⟩:=h;exact⟨n,λk hk=>by simp only[gm,B,Bool.false_eq_true,if_false,h k hk]⟩
theorem Ex.block (h:Ex E N c F H .norm F' H'):Ex E N (.block id c) F H .norm F' H':=by
 obtain⟨n,h⟩:=h;exact⟨n,λk hk=>by simp only[gm,h k hk]⟩
theorem Ex.sR (h:Ex E N c F H (.exit id) F' H'):Ex E N (.block id c) F H .norm F' H':=by
 obtain⟨n,h⟩:=h;exact⟨n,λk hk=>by simp only[gm,h k hk,if_true]⟩
theorem Ex.J5 (h:Ex E N c F H .ret F' H'):Ex E N (.block id c) F H .ret F' H':=by
 obtain⟨n,h⟩:=h;exact⟨n,λk hk=>by simp only[gm,h k hk]⟩
theorem Ex.loop (h:ku E N c F H o F' H'):Ex E N (.loop c) F H o F' H':=by
 obtain⟨n,h⟩:=h;exact⟨n,λk hk=>h k hk k hk⟩
theorem ku.step (h1:Ex E N c F H .norm F1 H1) (B:ku E N c F1 H1 o F' H'):ku E N c F H o F' H':=by
 obtain⟨n,h1⟩:=h1;obtain⟨m,B⟩:=B;refine⟨max n m+1,λk hk t u=>?_⟩
 cases t with
 | zero=>omega
 | succ t=>simp only[jE,h1 k (by omega)];exact B k (by omega) t (by omega)
theorem ku.stop (h1:Ex E N c F H o F' H') (B:o≠.norm):ku E N c F H o F' H':=by
 obtain⟨n,h1⟩:=h1;refine⟨n+1,λk hk t u=>?_⟩
 cases t with
 | zero=>omega
 | succ t=>
  simp only[jE,h1 k (by omega)]
  cases o <;> first|exact absurd rfl B|rfl
end
theorem Ex.run {E:Env} {nm:FuncId->Option Nat} {N:Nat->FuncId} (B:∀f s,nm f=some s->N s=f) {f:FuncId} {fi:FI} {rc:RC} (D:E.ft f=some fi) (hc:bH ⟨E,nm,fi.ntmps⟩ false fi.body=some rc) {args:List V} (G:args.length<=fi.ntmps) {H H':bf} {F':Frame}
 (h:Ex E N rc args H .ret F' H') {vs:List V} (hr:gG E F' H' fi.results=some vs):∃n,run E n (.fn f) args H=some (result vs,H'):=by
 obtain⟨n,h⟩:=h;refine⟨n+1,?_⟩;have:=Mx (X:=⟨E,nm,fi.ntmps⟩) (call:=Go.VE.run E n) B (lf:=n) rc fi.body args H _ hc (h n (Nat.le_refl _));simp only[Go.VE.run,iR,D,if_pos G,this,hr,Option.map_some]
@[simp] theorem bp (F:Frame) (i j:Nat) (v:V):get (set F i v) j=if i=j then v else get F j:=by
 split
 .rename_i h;subst h;exact qN F i v
 .rename_i h;exact gw F v h
def refs:List Nat->List (List V)->List (List V)
 | id::ids,r::rs=>[V.hsl id 1 0 r.length]::refs ids rs
 | _,_=>[]
def ir (r:List V):List (List V):=r.map λu=>[u]
structure kP (H:bf) (w:V) (o:Nat) (ids:List Nat) (rows:List (List V)):Prop where
 v:w=if rows=[]then .bB else .hsl o 1 0 rows.length
 ob:rows≠[]->H[o]? = some (.row 1 (refs ids rows))
 len:ids.length=rows.length
 r:∀(i id:Nat) (r:List V),ids[i]? = some id->rows[i]? = some r->H[id]? = some (.row 1 (ir r))
 nd:ids.Nodup
 ne:rows≠[]->o∉ids
theorem rW:∀{ids:List Nat} {rows:List (List V)},ids.length=rows.length->(refs ids rows).length=rows.length
 | [],[],_=>rfl
 | _::ids,_::rows,h=>by simp only[refs,List.length_cons,rW (ids:=ids) (rows:=rows) (by simpa using h)]
theorem En:∀{ids:List Nat} {rows:List (List V)} (id:Nat) (r:List V),ids.length=rows.length->refs (ids++[id]) (rows++[r])=refs ids rows++[[V.hsl id 1 0 r.length]]
 | [],[],_,_,_=>rfl
 | _::ids,_::rows,id,r,h=>by simp only[refs,List.cons_append,En (ids:=ids) (rows:=rows) id r (by simpa using h)]
theorem Af:∀{ids:List Nat} {rows:List (List V)} {i id:Nat} {r:List V},ids[i]? = some id->rows[i]? = some r->(refs ids rows)[i]? = some [V.hsl id 1 0 r.length]
 | [],_,_,_,_,h,_=>by simp at h
 | _::_,[],_,_,_,_,h=>by simp at h
 | a::ids,b::rows,0,id,r,h1,B=>by simp at h1 B;subst h1 B;rfl
 | a::ids,b::rows,i+1,id,r,h1,B=>by simpa [refs]using Af (ids:=ids) (rows:=rows) (i:=i) (by simpa using h1) (by simpa using B)
theorem F9:∀{ids:List Nat} {rows:List (List V)} {i:Nat} {r B:List V},rows[i]? = some r->B.length=r.length->refs ids (rows.set i B)=refs ids rows
 | [],_,_,_,_,_,_=>by simp[refs]
 | _::_,[],_,_,_,_,_=>by simp[refs]
 | a::ids,b::rows,0,r,B,h,D=>by simp at h;subst h;simp only[List.set_cons_zero,refs,D]
 | a::ids,b::rows,i+1,r,B,h,D=>by simp only[List.set_cons_succ,refs,F9 (ids:=ids) (rows:=rows) (i:=i) (by simpa using h) D]
section
variable {H H':bf} {v:V} {o:Nat} {ids:List Nat} {rows:List (List V)}
theorem kP.nil (H:bf) (o:Nat):kP H .bB o [] []:=⟨rfl,λh=>absurd rfl h,rfl,λi id r h=>by simp at h,.nil,λh=>absurd rfl h⟩
theorem kP.heap (n:kP H v o ids rows) (B:rows≠[]->H'[o]? = H[o]?) (D:∀id∈ids,H'[id]? = H[id]?):kP H' v o ids rows:=
 ⟨n.v,λh=>by rw[B h];exact n.ob h,n.len,λi id r h1 t=>by rw[D id (List.mem_of_getElem? h1)];exact n.r i id r h1 t,n.nd,n.ne⟩
theorem kP.lt (n:kP H v o ids rows):(rows≠[]->o<H.length)/\∀id∈ids,id<H.length:=by
 refine⟨λh=>(ζe.1 (n.ob h)).1,λid t=>?_⟩
 obtain⟨i,u⟩:=List.getElem?_of_mem t;have w:=(ζe.1 u).1;have:=n.r i id _ u (ζd (show i<rows.length from n.len▸w));exact(ζe.1 this).1
theorem kP.more (n:kP H v o ids rows) (X:bf):kP (H++X) v o ids rows:=
 n.heap (λh=>List.getElem?_append_left (n.lt.1 h)) λid t=>List.getElem?_append_left (n.lt.2 id t)
theorem kP.push (n:kP H v o ids rows) (r:List V) (U:rows.length+1<=2147483648) :
 ∃H',eF (H++[.row 1 (ir r)]++[.row 1 [[.hsl H.length 1 0 r.length]]]) (.append 1) [v,.hsl (H.length+1) 1 0 1]=some (.hsl (H.length+2) 1 0 (rows.length+1),H') /\
  kP H' (.hsl (H.length+2) 1 0 (rows.length+1)) (H.length+2) (ids++[H.length]) (rows++[r])/\H.length<=H'.length/\(∀id,id<H.length->id≠o\/rows=[]->H'[id]? = H[id]?):=by
 generalize B:H++[.row 1 (ir r)]++[.row 1 [[.hsl H.length 1 0 r.length]]]=H2;have t:H2.length=H.length+2:=by subst B;simp
 have z:∀id,id<H.length->H2[id]? = H[id]? := λid h=>by
  subst B;rw[List.append_assoc,List.getElem?_append_left h]
 have h1:H2[H.length]? = some (.row 1 (ir r)):=by subst B;simp
 have S:H2[H.length+1]? = some (.row 1 [[.hsl H.length 1 0 r.length]]):=by subst B;simp
 have hv:=n.v;have e2:dh H2 1 (.hsl (H.length+1) 1 0 1)=some [[.hsl H.length 1 0 r.length]]:=by
  simp[dh,S,Ob.rows]
 by_cases hr:rows=[]
 .subst hr;rw[if_pos rfl]at hv;subst hv;have:ids=[]:=List.eq_nil_of_length_eq_zero n.len;subst this;refine⟨H2++[.row 1 [[.hsl H.length 1 0 r.length]]],?_,⟨by simp,λ_=>by rw[<-t];simp[refs],rfl,λi id L w u=>?_,by simp,λ_=>by simp⟩,by simp[t];omega,λid C _=>?_⟩
  .have e1:dh H2 1 .bB=some []:=rfl;simp only[eF,e1,e2,gb,List.length_nil,List.length_singleton,Option.map_some,t];simp
  .cases i with
   | zero=>
    simp at w u;subst w u;rw[List.getElem?_append_left (by omega)];exact h1
   | succ i=>simp at w
  .rw[List.getElem?_append_left (by omega)];exact z id C
 .rw[if_neg hr]at hv;subst hv;have O:=n.ob hr;have G:=n.lt.1 hr;have e1:dh H2 1 (.hsl o 1 0 rows.length)=some (refs ids rows):=by
   simp only[dh,if_true,z o G,O,ζb,Ob.rows,rW n.len,Nat.zero_add,Nat.le_refl,List.drop_zero];rw[List.take_of_length_le (by rw[rW n.len];exact Nat.le_refl _)]
  have T:gb H2 (.hsl o 1 0 rows.length)=some (H2.set o .dead):=by
   simp only[gb,z o G,O]
  have A:∀id,id≠o->(H2.set o Ob.dead++[Ob.row 1 (refs ids rows++[[.hsl H.length 1 0 r.length]])])[id]? = if id<H2.length then H2[id]? else(H2.set o Ob.dead++[Ob.row 1 (refs ids rows++[[.hsl H.length 1 0 r.length]])])[id]? := λid D=>by
   split
   .rename_i h;rw[List.getElem?_append_left (by simpa using h),List.getElem?_set_ne (Ne.symm D)]
   .rfl
  refine⟨H2.set o .dead++[.row 1 (refs ids rows++[[.hsl H.length 1 0 r.length]])],?_,⟨by simp,λ_=>?_,by simp[n.len],λi id L w u=>?_,?_,λ_ hm=>?_⟩,by simp[t];omega,λid C D=>?_⟩
  .simp only[eF,e1,e2,T,rW n.len,List.length_singleton,U,if_true,Option.map_some,t]
  .rw[En _ _ n.len,<-t];simp
  .have I:id≠o:=by
    rcases Nat.lt_or_ge i ids.length with h|h
    .rw[List.getElem?_append_left h]at w;intro e;subst e;exact n.ne hr (List.mem_of_getElem? w)
    .have:i=ids.length:=by have:=(ζe.1 w).1;simp at this;omega
     subst this;simp at w;subst w;omega
   rcases Nat.lt_or_ge i ids.length with h|h
   .rw[List.getElem?_append_left h]at w;rw[List.getElem?_append_left (by rw[<-n.len];exact h)]at u
    have J:=n.lt.2 id (List.mem_of_getElem? w);rw[A id I,if_pos (by omega),z id J]
    exact n.r i id L w u
   .have:i=ids.length:=by have:=(ζe.1 w).1;simp at this;omega
    subst this;simp at w;subst w;rw[n.len]at u;simp at u;subst u;rw[A _ I,if_pos (by omega)];exact h1
  .rw[List.nodup_append];exact⟨n.nd,by simp,λa W b Q=>by simp at Q;subst Q;exact Nat.ne_of_lt (n.lt.2 a W)⟩
  .rcases List.mem_append.1 hm with hm|hm
   .have:=n.lt.2 _ hm;omega
   .simp at hm
  .rw[A id (D.resolve_right hr),if_pos (by omega)];exact z id C
end
end Go.VE
namespace Go.VE
variable [bN]
theorem iQ {E:Env} {N:Nat->FuncId} {F:Frame} {H H1:bf} {call:c7} {b:Option Nat} {o:RO} {l:List RO} {v:V} {r:Frame×bf} (hg:o.gd=none) (hv:bu E N call b o.now o.k (o.az.map (bn N F)) H=some (v,H1)) (h:cr E N call b l (bl F o.dst v) H1=some r):cr E N call b (o::l) F H=some r:=by
 simp only[cr,hg,hv];exact h
theorem vp {E:Env} {N:Nat->FuncId} {F:Frame} {H:bf} {call:c7} {b:Option Nat} {o:RO} {l:List RO} {v:V} {r:Frame×bf} (hg:o.gd=none) (hv:bu E N call b o.now o.k (o.az.map (bn N F)) H=some (v,H)) (h:cr E N call b l (bl F o.dst v) H=some r):cr E N call b (o::l) F H=some r:=iQ hg hv h
theorem dG {E:Env} {N:Nat->FuncId} {F:Frame} {H:bf} {call:c7} {b:Option Nat}:cr E N call b [] F H=some (F,H):=rfl
theorem vT {n:Nat} (h:n<=2147483648):IntKind.wrap .i64 ((n:Int)+1)=((n+1:Nat):Int):=by
 simp[IntKind.wrap,IntKind.bits,IntKind.signed];omega
theorem SI {n:Nat} (h:n<=2147483648):IntKind.wrap .i64 (((n+1:Nat):Int)-1)=(n:Int):=by
 simp[IntKind.wrap,IntKind.bits,IntKind.signed];omega
theorem jb (H:bf):H.take H.length=H:=List.take_length
theorem AA {E:Env} {nm:FuncId->Option Nat} {f:FuncId} {rc:RC} {n:Nat} {rs:List ResultVar} (h:((E.ft f).map λfi=>(bH ⟨E,nm,fi.ntmps⟩ false fi.body,Nat.ble n fi.ntmps,fi.results))=some (some rc,true,rs)) :
 ∃fi,E.ft f=some fi/\bH ⟨E,nm,fi.ntmps⟩ false fi.body=some rc/\n<=fi.ntmps/\fi.results=rs:=by
 obtain⟨fi,h1,t⟩:=ζf.1 h;simp only[ζc]at t;exact⟨fi,h1,t.1,Nat.le_of_ble_eq_true t.2.1,t.2.2⟩
theorem Dt {x:V} (h:x.one=true):x.cells=[x]:=by
 cases x <;> first|rfl|(simp[V.one]at h)
theorem Ra {call:c7} {f:FuncId} {args az:List V} {H:bf} (h:borrows call.lv H args=some az) (hc:∀x∈az,x.closed=true):bU call f args H=bU call f az []:=by
 have:borrows call.lv [] az=some az:=by
  clear h
  unfold borrows
  induction az with
  | nil=>rfl
  | cons x l t=>simp only[gH,dK call.lv [] (hc x (by simp)),t λy u=>hc y (List.mem_cons_of_mem _ u)]
 unfold bU;rw[h,this]
def kept (t:Nat->Bool) (n:Nat):List Nat:=(List.range n).filter λi=>i==0 || !t i
theorem uz (t:Nat->Bool) (n:Nat):kept t (n+1)=kept t n++if n==0 || !t n then [n]else []:=by
 unfold kept;rw[List.range_succ,List.filter_append,List.filter_cons];rfl
theorem yR (t:Nat->Bool):∀n,(kept t n).length<=n:=λn=>by
 unfold kept;exact Nat.le_trans (List.length_filter_le ..) (by simp)
theorem HE {t:Nat->Bool} {n i:Nat} (h:i∈kept t n):i<n:=by
 unfold kept at h;exact List.mem_range.1 (List.mem_filter.1 h).1
theorem Ao {t:Nat->Bool}:∀n,(∀i,0<i->i<n->t i=false)->kept t n=List.range n
 | 0,_=>rfl
 | n+1,h=>by
  rw[uz,Ao n λi h1 B=>h i h1 (by omega),List.range_succ]
  congr 1
  cases n with
  | zero=>rfl
  | succ n=>rw[h (n+1) (by omega) (by omega)];simp
theorem yL {t:Nat->Bool} {k:Nat} (h0:0<k) (hk:t k=true):∀n,k<n->(kept t n).length+1<=n
 | 0,h=>by omega
 | n+1,h=>by
  rw[uz]
  by_cases e:n=k
  .subst e;have:(n==0 || !t n)=false:=by simp[hk];omega
   rw[this];have:=yR t n;simp;omega
  .have:=yL h0 hk n (by omega)
   split <;> simp <;> omega
namespace cmpX
instance {n:Nat}:OfNat Arg n:=⟨.s n⟩
def r1:List RO:=[o1 4 (.k (.bB)) []]
def r2:List RO:=[o1 8 0 [],o2 9 (.p .lenSl) [8] [],o2 10 (.p (.bin (some .int) none .lss)) [9,.k (.int .i64 2)] []]
def r3:List RO:=[o1 11 0 [],o1 4 11 []]
def r4:List RO:=[o1 5 (.k (.int .i64 1)) []]
def r5:List RO:=[o1 12 5 [],o1 13 0 [],o2 14 (.p .lenSl) [13] [],o2 15 (.p (.bin (some .int) none .lss)) [12,14] []]
def on (d:Nat) (k:K) (az:List Arg):RO:=⟨some d,none,true,k,az,[],[]⟩
def r6:List RO:=[o1 18 1 [],o1 19 0 [],o1 20 5 [],o2 21 (.p (.idxS 1)) [19,20] [],o2 22 (.r (.load 1 false)) [21] [],o1 23 0 [],o1 24 5 [],o2 25 (.p (.bin (some .int) none .sub)) [24,.k (.int .i64 1)] [],o2 26 (.p (.idxS 1)) [23,25] [],o2 27 (.r (.load 1 false)) [26] [],on 28 .c [18,22,27]]
def r7:List RO:=[o1 29 0 [],o1 30 5 [],o2 31 (.p (.slice 1 true false)) [29,30] [],o1 6 31 []]
def r8:List RO:=[o1 7 (.k (.int .i64 1)) []]
def r9:List RO:=[o1 32 7 [],o1 33 6 [],o2 34 (.p .lenSl) [33] [],o2 35 (.p (.bin (some .int) none .lss)) [32,34] []]
def AZ:List RO:=[o1 38 1 [],o1 39 6 [],o1 40 7 [],o2 41 (.p (.idxS 1)) [39,40] [],o2 42 (.r (.load 1 false)) [41] [],o1 43 6 [],o1 44 7 [],o2 45 (.p (.bin (some .int) none .sub)) [44,.k (.int .i64 1)] [],o2 46 (.p (.idxS 1)) [43,45] [],o2 47 (.r (.load 1 false)) [46] [],on 48 .c [38,42,47],on 49 (.p (.not)) [48]]
def CV:List RO:=[o1 50 0 [],o1 51 5 [],o1 52 6 [],o1 53 7 [],o2 54 (.p (.idxS 1)) [52,53] [],o2 55 (.r (.load 1 false)) [54] [],o2 56 (.p (.idxS 1)) [50,51] [],⟨none,none,false,.l (.store 1),[56,55],[],[]⟩]
def C4:List RO:=[o1 57 5 [],o2 58 (.p (.bin (some .int) none .add)) [57,.k (.int .i64 1)] [],o1 5 58 []]
def Dn:List RO:=[o1 36 7 [],o2 37 (.p (.bin (some .int) none .add)) [36,.k (.int .i64 1)] [],o1 7 37 []]
def Tz:RC:=.seq (.seq (.ops r9) (.cond (.s 35) (.skip) (.exit 2))) (.seq (.block 3 (.seq (.nR AZ) (.cond (.s 49) (.seq (.ops CV) (.ops C4)) (.skip)))) (.ops Dn))
def AI:List RO:=[o1 59 0 [],o1 60 5 [],o2 61 (.p (.slice 1 true false)) [59,60] [],⟨none,none,false,.l (.clear 1 [.bB]),[61],[],[]⟩]
def Dp:List RO:=[o1 62 0 [],o1 63 5 [],o2 64 (.p (.slice 1 false true)) [62,63] [],o1 4 64 []]
def r16:List RO:=[o1 16 5 [],o2 17 (.p (.bin (some .int) none .add)) [16,.k (.int .i64 1)] [],o1 5 17 []]
def Od:RC:=.seq (.seq (.ops r5) (.cond (.s 15) (.skip) (.exit 0))) (.seq (.block 1 (.seq (.nR r6) (.cond (.s 28) (.seq (.ops r7) (.seq (.seq (.ops r8) (.block 2 (.loop Tz))) (.seq (.ops AI) (.seq (.ops Dp) (.ret))))) (.skip)))) (.ops r16))
def Lm:List RO:=[o1 65 0 [],o1 4 65 []]
def code:RC:=.seq (.ops r1) (.seq (.seq (.ops r2) (.cond (.s 10) (.seq (.ops r3) (.ret)) (.skip))) (.seq (.seq (.ops r4) (.block 0 (.loop Od))) (.seq (.ops Lm) (.ret))))
structure Uy (F F':Frame):Prop where
 s0:get F' 0=get F 0
 s1:get F' 1=get F 1
section
variable {E:Env} {N:Nat->FuncId} {F:Frame} {H:bf} {call:c7} {id off L k:Nat}
theorem ld {B:List (List V)} {el:Nat} {v:V} (h:H[id]? = some (.row 1 B)) (hv:B[el]? = some [v]):ey H (.load 1 false) [.hptr id el 0]=some v:=by
 simp[ey,dL,h,Ob.rows,hv,cut,mk]
theorem NU {i:Nat} (h:i<L):kg 1 (.hsl id 1 off L) (i:Int)=some (.hptr id (off+i) 0):=by
 unfold kg;rw[if_neg (by omega)];simp[h]
theorem x2 (f0:get F 0=.hsl id 1 off L):∃F',(∀call,cr E N call none r2 F H=some (F',H))/\get F' 10=.bool (decide ((L:Int)<2))/\(∀s,s<8->get F' s=get F s):=by
 refine⟨_,λcall=>vp (v:=.hsl id 1 off L) rfl ?_ <| vp (v:=.int .i64 L) rfl ?_ <| vp (v:=.bool (decide ((L:Int)<2))) rfl ?_ dG,?_,?_⟩
 .simp[bu,bn,bh,f0]
 .simp[bu,bn,bh,bl,l_]
 .simp[bu,bn,bh,bl,gj,mA]
 .simp[bl]
 .intro s t;simp only[bl,bp]
  repeat (rw[if_neg (by omega)])
theorem x5 (f0:get F 0=.hsl id 1 off L) (f5:get F 5=.int .i64 k):∃F',(∀call,cr E N call none r5 F H=some (F',H))/\get F' 15=.bool (decide (k<L))/\(∀s,s<8->get F' s=get F s):=by
 refine⟨_,λcall=>vp (v:=.int .i64 k) rfl ?_ <| vp (v:=.hsl id 1 off L) rfl ?_ <| vp (v:=.int .i64 L) rfl ?_ <| vp (v:=.bool (decide (k<L))) rfl ?_ dG,?_,?_⟩
 .simp[bu,bn,bh,f5]
 .simp[bu,bn,bh,bl,f0]
 .simp[bu,bn,bh,bl,l_]
 .simp[bu,bn,bh,bl,gj,mA]
 .simp[bl]
 .intro s t;simp only[bl,bp]
  repeat (rw[if_neg (by omega)])
theorem Rs {g:FuncId} {cb:List V} {B:List (List V)} {o2 L2 i:Nat} {a b:V} {t:Bool} (h:H[id]? = some (.row 1 B)) (G:i+1<L2) (D:i<=2147483648) (J:B[o2+(i+1)]? = some [a]) (O:B[o2+i]? = some [b]) (hk:E.keep g=false) (f1:get F 1=.clo g [] cb) :
 (get F 0=.hsl id 1 o2 L2->get F 5=.int .i64 ((i+1:Nat):Int)->∃F',(∀call,bU call g (a::b::cb) H=some (.bool t)->cr E N call (some H.length) r6 F H=some (F',H))/\get F' 28=.bool t/\(∀s,s<8->get F' s=get F s)) /\
 (get F 6=.hsl id 1 o2 L2->get F 7=.int .i64 ((i+1:Nat):Int)->∃F',(∀call,bU call g (a::b::cb) H=some (.bool t)->cr E N call (some H.length) AZ F H=some (F',H))/\get F' 49=.bool (!t)/\(∀s,s<8->get F' s=get F s)):=by
 have u:=SI D;have e1:=ld h J;have e2:=ld h O;have i1:=NU (id:=id) (off:=o2) (L:=L2) G;have i2:=NU (id:=id) (off:=o2) (L:=L2) (show i<L2 by omega)
 refine⟨λf0 f5=>⟨_,λcall hc=>vp (v:=.clo g [] cb) rfl ?_ <| vp (v:=.hsl id 1 o2 L2) rfl ?_ <| vp (v:=.int .i64 ((i+1:Nat):Int)) rfl ?_ <| vp (v:=.hptr id (o2+(i+1)) 0) rfl ?_ <| vp (v:=a) rfl ?_ <| vp (v:=.hsl id 1 o2 L2) rfl ?_ <| vp (v:=.int .i64 ((i+1:Nat):Int)) rfl ?_ <|
  vp (v:=.int .i64 (i:Int)) rfl ?_ <| vp (v:=.hptr id (o2+i) 0) rfl ?_ <| vp (v:=b) rfl ?_ <| vp (v:=.bool t) rfl ?_ dG,?_,?_⟩,λf6 f7=>⟨_,λcall hc=>vp (v:=.clo g [] cb) rfl ?_ <| vp (v:=.hsl id 1 o2 L2) rfl ?_ <| vp (v:=.int .i64 ((i+1:Nat):Int)) rfl ?_ <| vp (v:=.hptr id (o2+(i+1)) 0) rfl ?_ <| vp (v:=a) rfl ?_ <| vp (v:=.hsl id 1 o2 L2) rfl ?_ <| vp (v:=.int .i64 ((i+1:Nat):Int)) rfl ?_ <|
  vp (v:=.int .i64 (i:Int)) rfl ?_ <| vp (v:=.hptr id (o2+i) 0) rfl ?_ <| vp (v:=b) rfl ?_ <| vp (v:=.bool t) rfl ?_ <| vp (v:=.bool (!t)) rfl ?_ dG,?_,?_⟩⟩
 .simp[bu,bn,bh,f1]
 .simp[bu,bn,bh,bl,f0]
 .simp only[bu,List.map_cons,List.map_nil,bn,bl,bp,Nat.reduceEqDiff,if_true,if_false,f5,bh];rfl
 .simp only[bu,List.map_cons,List.map_nil,bn,bl,bp,Nat.reduceEqDiff,if_true,if_false,bh];rw[i1];rfl
 .simp only[bu,List.map_cons,List.map_nil,bn,bl,bp,Nat.reduceEqDiff,if_true,if_false,jb];rw[e1];rfl
 .simp[bu,bn,bh,bl,f0]
 .simp only[bu,List.map_cons,List.map_nil,bn,bl,bp,Nat.reduceEqDiff,if_true,if_false,f5,bh];rfl
 .simp only[bu,List.map_cons,List.map_nil,bn,bl,bp,Nat.reduceEqDiff,if_true,if_false,bh,gj,u];rfl
 .simp only[bu,List.map_cons,List.map_nil,bn,bl,bp,Nat.reduceEqDiff,if_true,if_false,bh];rw[i2];rfl
 .simp only[bu,List.map_cons,List.map_nil,bn,bl,bp,Nat.reduceEqDiff,if_true,if_false,jb];rw[e2];rfl
 .simp only[bu,on,List.map_cons,List.map_nil,bn,bl,bp,Nat.reduceEqDiff,if_true,if_false,jb,hk,Bool.false_eq_true,List.nil_append,List.cons_append,hc,V.scalar]
 .simp[bl,on]
 .intro s w;simp only[bl,on,bp]
  repeat (rw[if_neg (by omega)])
 .simp[bu,bn,bh,f1]
 .simp[bu,bn,bh,bl,f6]
 .simp only[bu,List.map_cons,List.map_nil,bn,bl,bp,Nat.reduceEqDiff,if_true,if_false,f7,bh];rfl
 .simp only[bu,List.map_cons,List.map_nil,bn,bl,bp,Nat.reduceEqDiff,if_true,if_false,bh];rw[i1];rfl
 .simp only[bu,List.map_cons,List.map_nil,bn,bl,bp,Nat.reduceEqDiff,if_true,if_false,jb];rw[e1];rfl
 .simp[bu,bn,bh,bl,f6]
 .simp only[bu,List.map_cons,List.map_nil,bn,bl,bp,Nat.reduceEqDiff,if_true,if_false,f7,bh];rfl
 .simp only[bu,List.map_cons,List.map_nil,bn,bl,bp,Nat.reduceEqDiff,if_true,if_false,bh,gj,u];rfl
 .simp only[bu,List.map_cons,List.map_nil,bn,bl,bp,Nat.reduceEqDiff,if_true,if_false,bh];rw[i2];rfl
 .simp only[bu,List.map_cons,List.map_nil,bn,bl,bp,Nat.reduceEqDiff,if_true,if_false,jb];rw[e2];rfl
 .simp only[bu,on,List.map_cons,List.map_nil,bn,bl,bp,Nat.reduceEqDiff,if_true,if_false,jb,hk,Bool.false_eq_true,List.nil_append,List.cons_append,hc,V.scalar]
 .simp[bu,on,bn,bh,bl]
 .simp[bl,on]
 .intro s w;simp only[bl,on,bp]
  repeat (rw[if_neg (by omega)])
end
end cmpX
end Go.VE
namespace Go.VE
variable [bN]
namespace cmpX
section
variable {E:Env} {N:Nat->FuncId} {F:Frame} {H:bf} {call:c7} {id off L k:Nat}
theorem x7 (f0:get F 0=.hsl id 1 off L) (f5:get F 5=.int .i64 k) (hk:k<=L):∃F',(∀call,cr E N call none r7 F H=some (F',H))/\get F' 6=.hsl id 1 (off+k) (L-k)/\(∀s,s<8->s≠6->get F' s=get F s):=by
 have e:gp 1 (.hsl id 1 off L) (some k) none=some (.hsl id 1 (off+k) (L-k)):=by
  unfold gp dD
  grind
 refine⟨_,λcall=>vp (v:=.hsl id 1 off L) rfl ?_ <| vp (v:=.int .i64 k) rfl ?_ <| vp (v:=.hsl id 1 (off+k) (L-k)) rfl ?_ <| vp (v:=.hsl id 1 (off+k) (L-k)) rfl ?_ dG,?_,?_⟩
 .simp[bu,bn,bh,f0]
 .simp[bu,bn,bh,bl,f5]
 .simp[bu,bn,bl,bp,bh,j9,e]
 .simp[bu,bn,bh,bl]
 .simp[bl]
 .simp[bl,bp]
  grind
theorem x9 {o2 L2 m:Nat} (f6:get F 6=.hsl id 1 o2 L2) (f7:get F 7=.int .i64 m):∃F',(∀call,cr E N call none r9 F H=some (F',H))/\get F' 35=.bool (decide (m<L2))/\(∀s,s<8->get F' s=get F s):=by
 refine⟨_,λcall=>vp (v:=.int .i64 m) rfl ?_ <| vp (v:=.hsl id 1 o2 L2) rfl ?_ <| vp (v:=.int .i64 L2) rfl ?_ <| vp (v:=.bool (decide (m<L2))) rfl ?_ dG,?_,?_⟩
 .simp[bu,bn,bh,f7]
 .simp[bu,bn,bh,bl,f6]
 .simp[bu,bn,bh,bl,l_]
 .simp[bu,bn,bh,bl,gj,mA]
 .simp[bl]
 .simp[bl,bp]
  grind
theorem Re {B:List (List V)} {o2 L2 m p:Nat} {a z:V} (h:H[id]? = some (.row 1 B)) (f0:get F 0=.hsl id 1 off L) (f5:get F 5=.int .i64 p) (f6:get F 6=.hsl id 1 o2 L2) (f7:get F 7=.int .i64 m) (D:m<L2) (G:p<L)
 (J:B[o2+m]? = some [a]) (O:B[off+p]? = some [z]) (h1:a.one=true) :
 ∃F',(∀call,cr E N call none CV F H=some (F',H.set id (.row 1 (B.set (off+p) [a]))))/\(∀s,s<8->get F' s=get F s):=by
 have i1:=NU (id:=id) (off:=o2)  D;have i2:=NU (id:=id) (off:=off)  G;have e1:=ld h J;have t:eF H (.store 1) [.hptr id (off+p) 0,a]=some (.undef,H.set id (.row 1 (B.set (off+p) [a]))):=by
  simp[eF,h,O,Dt h1,h1]
 refine⟨_,λcall=>vp (v:=.hsl id 1 off L) rfl ?_ <| vp (v:=.int .i64 p) rfl ?_ <| vp (v:=.hsl id 1 o2 L2) rfl ?_ <| vp (v:=.int .i64 m) rfl ?_ <| vp (v:=.hptr id (o2+m) 0) rfl ?_ <| vp (v:=a) rfl ?_ <| vp (v:=.hptr id (off+p) 0) rfl ?_ <| iQ (v:=.undef)  rfl ?_ dG,?_⟩
 .simp[bu,bn,bh,f0]
 .simp[bu,bn,bh,bl,f5]
 .simp[bu,bn,bh,bl,f6]
 .simp[bu,bn,bh,bl,f7]
 .simp[bu,bn,bl,bp,bh];grind
 .simp[bu,bn,bl,bp];grind
 .simp[bu,bn,bl,bp,bh];grind
 .simp[bu,bn,bl,bp];omega
 .simp[bl,bp]
  grind
theorem H9 {p:Nat} (B:p<=2147483648):(get F 5=.int .i64 p->∃F',(∀call,cr E N call none C4 F H=some (F',H))/\get F' 5=.int .i64 ((p+1:Nat):Int)/\(∀s,s<8->s≠5->get F' s=get F s)) /\
 (get F 7=.int .i64 p->∃F',(∀call,cr E N call none Dn F H=some (F',H))/\get F' 7=.int .i64 ((p+1:Nat):Int)/\(∀s,s<8->s≠7->get F' s=get F s)) /\
 (get F 5=.int .i64 p->∃F',(∀call,cr E N call none r16 F H=some (F',H))/\get F' 5=.int .i64 ((p+1:Nat):Int)/\(∀s,s<8->s≠5->get F' s=get F s)):=by
 have t:=vT B;refine⟨λf=>⟨_,λcall=>vp (v:=.int .i64 p) rfl ?_ <| vp (v:=.int .i64 (p+1:Nat)) rfl ?_ <| vp (v:=.int .i64 (p+1:Nat)) rfl ?_ dG,?_,?_⟩,
  λf=>⟨_,λcall=>vp (v:=.int .i64 p) rfl ?_ <| vp (v:=.int .i64 (p+1:Nat)) rfl ?_ <| vp (v:=.int .i64 (p+1:Nat)) rfl ?_ dG,?_,?_⟩,
  λf=>⟨_,λcall=>vp (v:=.int .i64 p) rfl ?_ <| vp (v:=.int .i64 (p+1:Nat)) rfl ?_ <| vp (v:=.int .i64 (p+1:Nat)) rfl ?_ dG,?_,?_⟩⟩ <;>
 first
 | (simp[bu,bn,bh,f];done)
 | (simp only[bu,List.map_cons,List.map_nil,bn,bl,bp,if_true,bh,gj,t];rfl)
 | grind
 | (simp[bl];done)
 | (simp[bl,bp];grind)
theorem Ud {B:List (List V)} {p:Nat} (h:H[id]? = some (.row 1 B)) (f0:get F 0=.hsl id 1 off L) (f5:get F 5=.int .i64 p) (D:p<L) (G:off+L<=B.length) :
 ∃F',(∀call,cr E N call none AI F H=some (F',H.set id (.row 1 (B.take (off+p)++List.replicate (L-p) [.bB]++B.drop (off+L)))))/\(∀s,s<8->get F' s=get F s):=by
 have e:gp 1 (.hsl id 1 off L) (some p) none=some (.hsl id 1 (off+p) (L-p)):=by
  unfold gp dD
  grind
 obtain⟨q,t⟩:∃q,L-p=q+1:=⟨L-p-1,by omega⟩
 have hc:eF H (.clear 1 [.bB]) [.hsl id 1 (off+p) (L-p)]=some (.undef,H.set id (.row 1 (B.take (off+p)++List.replicate (L-p) [.bB]++B.drop (off+L)))):=by
  simp[eF,AT,t,h]
  grind
 refine⟨_,λcall=>vp (v:=.hsl id 1 off L) rfl ?_ <| vp (v:=.int .i64 p) rfl ?_ <| vp (v:=.hsl id 1 (off+p) (L-p)) rfl ?_ <| iQ (v:=.undef)  rfl ?_ dG,?_⟩
 .simp[bu,bn,bh,f0]
 .simp[bu,bn,bh,bl,f5]
 .simp[bu,bn,bl,bp,bh,j9,e]
 .simp only[bu,List.map_cons,List.map_nil,bn,bl,bp,if_true];omega
 .simp[bl,bp]
  grind
theorem N_ {p:Nat} (f0:get F 0=.hsl id 1 off L) (f5:get F 5=.int .i64 p) (B:p<=L):∃F',(∀call,cr E N call none Dp F H=some (F',H))/\get F' 4=.hsl id 1 off p:=by
 have e:gp 1 (.hsl id 1 off L) none (some p)=some (.hsl id 1 off p):=by
  unfold gp dD
  grind
 refine⟨_,λcall=>vp (v:=.hsl id 1 off L) rfl ?_ <| vp (v:=.int .i64 p) rfl ?_ <| vp (v:=.hsl id 1 off p) rfl ?_ <| vp (v:=.hsl id 1 off p) rfl ?_ dG,?_⟩
 .simp[bu,bn,bh,f0]
 .simp[bu,bn,bh,bl,f5]
 .simp[bu,bn,bl,bp,bh,j9,e]
 .simp[bu,bn,bh,bl]
 .simp[bl]
theorem Uf:∃F',(∀call,cr E N call none Lm F H=some (F',H))/\get F' 4=get F 0:=
 ⟨_,λcall=>vp (v:=get F 0) rfl (by simp[bu,bn,bh]) <| vp (v:=get F 0) rfl (by simp[bu,bn,bh,bl]) dG,by simp[bl]⟩
theorem NK:∃F',(∀call,cr E N call none r3 F H=some (F',H))/\get F' 4=get F 0:=
 ⟨_,λcall=>vp (v:=get F 0) rfl (by simp[bu,bn,bh]) <| vp (v:=get F 0) rfl (by simp[bu,bn,bh,bl]) dG,by simp[bl]⟩
end
structure DQ (E:Env) (g:FuncId) (cb:List V) (H:bf) (id off L:Nat) (rs:List (List V)) (A:Nat->V) (t:Nat->Bool):Prop where
 row:H[id]? = some (.row 1 rs)
 len:off+L<=rs.length
 small:L<=2147483648
 at_:∀i,i<L->rs[off+i]? = some [A i]
 one:∀i,i<L->(A i).one=true
 keep:E.keep g=false
 cmp:∃n,∀k,n<=k->∀i,i+1<L->∀cur,bU (run E k) g (A (i+1)::A i::cb) (H.set id (.row 1 cur))=some (.bool (t (i+1)))
structure Head (g:FuncId) (cb:List V) (id off L kk m:Nat) (rs:List (List V)) (A:Nat->V) (t:Nat->Bool) (F:Frame) (cur:List (List V)):Prop where
 f0:get F 0=.hsl id 1 off L
 f1:get F 1=.clo g [] cb
 f5:get F 5=.int .i64 ((kept t (kk+m)).length:Nat)
 f6:get F 6=.hsl id 1 (off+kk) (L-kk)
 f7:get F 7=.int .i64 m
 len:cur.length=rs.length
 pre:∀p i,(kept t (kk+m))[p]? = some i->cur[off+p]? = some [A i]
 post:∀i,kk+m<=i+1->i<L->cur[off+i]? = some [A i]
 out:∀j,j<off\/off+L<=j->cur[j]? = rs[j]?
 cell:∀i,i<L->∃j,j<L/\cur[off+i]? = some [A j]
section
variable {E:Env} {N:Nat->FuncId} {g:FuncId} {cb:List V} {H:bf} {id off L kk:Nat} {rs:List (List V)} {A:Nat->V} {t:Nat->Bool}
theorem HJ (X:DQ E g cb H id off L rs A t) (aa:0<kk) (ah:kk<L) (ht:t kk=true):∀(d m:Nat) (F:Frame) (B:List (List V)),kk+m+d=L->0<m->Head g cb id off L kk m rs A t F B ->
 ∃F' D,ku E N Tz F (H.set id (.row 1 B)) (.exit 2) F' (H.set id (.row 1 D))/\Head g cb id off L kk (L-kk) rs A t F' D:=by
 have O:=(ζe.1 X.row).1;have G:∀B,(H.set id (.row 1 B))[id]? = some (.row 1 B):=λB=>List.getElem?_set_self O
 have ai:=X.small;have af:=X.len;intro d
 induction d with
 | zero=>
  intro m F B he hm h;have em:m=L-kk:=by omega
  subst em;obtain⟨F1,e1,e2,e3⟩:=x9    h.f6 h.f7;refine⟨F1,B,ku.stop (Ex.rX (Ex.seq (Ex.cM e1) (Ex.n_ (by simp[bn,e2]) Ex.exit)) (by simp)) (by simp),?_⟩
  exact⟨by rw[e3 0 (by omega)];exact h.f0,by rw[e3 1 (by omega)];exact h.f1,by rw[e3 5 (by omega)];exact h.f5,by rw[e3 6 (by omega)];exact h.f6,by rw[e3 7 (by omega)];exact h.f7,h.len,h.pre,h.post,h.out,h.cell⟩
 | succ d ih=>
  intro m F B he hm h;obtain⟨F1,a1,a2,a3⟩:=x9    h.f6 h.f7;have T:bn N F1 35=.bool true:=by
   show get F1 35=_;rw[a2,decide_eq_true (by omega)]
  obtain⟨m',rfl⟩:∃m',m=m'+1:=⟨m-1,by omega⟩
  obtain⟨n0,ab⟩:=X.cmp;have c1:B[off+kk+(m'+1)]? = some [A (kk+m'+1)]:=by
   have:=h.post (kk+m'+1) (by omega) (by omega);grind
  have c2:B[off+kk+m']? = some [A (kk+m')]:=by
   have:=h.post (kk+m') (by omega) (by omega);grind
  obtain⟨F2,b1,b2,b3⟩:=(Rs      (L2:=L-kk)  (G B) (by omega) (by omega) c1 c2 X.keep (by rw[a3 1 (by omega)];exact h.f1)).2 (by rw[a3 6 (by omega)];exact h.f6) (by rw[a3 7 (by omega)];exact h.f7)
  have U:∃n,∀k,n<=k->cr E N (run E k) (some (H.set id (.row 1 B)).length) AZ F1 (H.set id (.row 1 B))=some (F2,H.set id (.row 1 B)):=⟨n0,λk hk=>b1 _ (ab k hk (kk+m') (by omega) B)⟩
  have w  := λs hs=>(b3 s hs).trans (a3 s hs)
  have ad:(kept t (kk+(m'+1))).length+1<=kk+(m'+1):=yL aa ht _ (by omega)
  have u:kept t (kk+(m'+1)+1)=kept t (kk+(m'+1))++if t (kk+m'+1)then []else [kk+m'+1]:=by
   rw[uz]
   grind
  have z:kk+(m'+1+1)=kk+(m'+1)+1:=by omega
  cases W:t (kk+m'+1)with
  | true=>
   rw[W]at b2 u;simp  at u;obtain⟨F3,Y,q2,Q⟩:=(H9     (p:=m'+1) (by omega)).2.1 (by rw[w 7 (by omega)];exact h.f7)
   obtain⟨F',D,i1,i2⟩:=ih (m'+1+1) F3 B (by omega) (by omega) ⟨by rw[Q 0 (by omega) (by omega),w 0 (by omega)];exact h.f0,by rw[Q 1 (by omega) (by omega),w 1 (by omega)];exact h.f1,
    by rw[Q 5 (by omega) (by omega),w 5 (by omega),z,u];exact h.f5,by rw[Q 6 (by omega) (by omega),w 6 (by omega)];exact h.f6,q2,h.len,by rw[z,u];exact h.pre,λi h1 Z=>h.post i (by omega) Z,h.out,h.cell⟩
   exact⟨F',D,ku.step (Ex.seq (Ex.seq (Ex.cM a1) (Ex.lq T Ex.skip)) (Ex.seq (Ex.block (Ex.seq (Ex.HL (by decide) U) (Ex.n_ (by simp[bn,b2]) Ex.skip))) (Ex.cM Y))) i1,i2⟩
  | false=>
   rw[W]at b2 u;generalize hK:(kept t (kk+(m'+1))).length=K at *;obtain⟨_,_,hz⟩:=h.cell K (by omega)
   obtain⟨F3,Y,q2⟩:=Re           (G B) (by rw[w 0 (by omega)];exact h.f0) (by rw[w 5 (by omega),h.f5,hK]) (by rw[w 6 (by omega)];exact h.f6) (by rw[w 7 (by omega)];exact h.f7) (by omega) (by omega) c1 hz (X.one _ (by omega))
   rw[List.set_set]at Y;generalize I:B.set (off+K) [A (kk+m'+1)]=J at Y;have hg:∀j,J[j]? = if j=off+K then some [A (kk+m'+1)]else B[j]? := λj=>by
    rw[<-I,List.getElem?_set]
    by_cases e:off+K=j
    .rw[if_pos e,if_pos e.symm,if_pos (by rw[h.len];omega)]
    .rw[if_neg e,if_neg (Ne.symm e)]
   obtain⟨F4,Q,q4,q5⟩:=(H9     (p:=K) (by omega)).1 (by rw[q2 5 (by omega),w 5 (by omega),h.f5,hK])
   have C:∀s,s<8->s≠5->get F4 s=get F s:=λs h1 Z=>by rw[q5 s h1 Z,q2 s h1,w s h1]
   obtain⟨F5,q6,q7,q8⟩:=(H9     (p:=m'+1) (by omega)).2.1 (by rw[C 7 (by omega) (by omega)];exact h.f7)
   obtain⟨F',D,i1,i2⟩:=ih (m'+1+1) F5 J (by omega) (by omega) ⟨by rw[q8 0 (by omega) (by omega),C 0 (by omega) (by omega)];exact h.f0,by rw[q8 1 (by omega) (by omega),C 1 (by omega) (by omega)];exact h.f1,
    by rw[q8 5 (by omega) (by omega),q4,z,u,ζi,hK];rfl,by rw[q8 6 (by omega) (by omega),C 6 (by omega) (by omega)];exact h.f6,q7,by rw[<-I,List.length_set];exact h.len,
    λp i S=>by
     rw[z,u]at S;rw[hg]
     by_cases e:p=K
     .subst e;rw[<-hK,List.getElem?_append_right (Nat.le_refl _),Nat.sub_self]at S;cases S;rw[if_pos rfl]
     .have ae:p<(kept t (kk+(m'+1))).length:=by
       have:=(ζe.1 S).1;simp at this;omega
      rw[List.getElem?_append_left ae]at S;rw[if_neg (by omega)];exact h.pre p i S,
    λi h1 Z=>by rw[hg,if_neg (by omega)];exact h.post i (by omega) Z,λj hj=>by rw[hg,if_neg (by omega)];exact h.out j hj,
    λi hi=>by
     rw[hg]
     by_cases e:off+i=off+K
     .rw[if_pos e];exact⟨_,by omega,rfl⟩
     .rw[if_neg e];exact h.cell i hi⟩
   exact⟨F',D,ku.step (Ex.seq (Ex.seq (Ex.cM a1) (Ex.lq T Ex.skip)) (Ex.seq (Ex.block (Ex.seq (Ex.HL (by decide) U) (Ex.lq (by simp[bn,b2]) (Ex.seq (Ex.cM Y) (Ex.cM Q))))) (Ex.cM q6))) i1,i2⟩
structure MH (off L:Nat) (rs:List (List V)) (A:Nat->V) (t:Nat->Bool) (rs':List (List V)):Prop where
 len:rs'.length=rs.length
 pre:∀p i,(kept t L)[p]? = some i->rs'[off+p]? = some [A i]
 all:∀c∈rs',c∈rs\/c=[.bB]
theorem HF (X:DQ E g cb H id off L rs A t):∀(d k:Nat) (F:Frame),k+d=L->0<k->(∀i,0<i->i<k->t i=false)->get F 0=.hsl id 1 off L->get F 1=.clo g [] cb->get F 5=.int .i64 k ->
 (∃F',ku E N Od F H (.exit 0) F' H/\get F' 0=.hsl id 1 off L/\∀i,0<i->i<L->t i=false) \/
 (∃F' D,ku E N Od F H .ret F' (H.set id (.row 1 D))/\get F' 4=.hsl id 1 off (kept t L).length/\MH off L rs A t D):=by
 have Q:=(ζe.1 X.row).1;have S  := pQ X.row;have ah:=X.small;have af:=X.len;intro d
 induction d with
 | zero=>
  intro k F he hk hp f0 f1 f5;have ek:k=L:=by omega
  subst ek;obtain⟨F1,e1,e2,e3⟩:=x5  (N:=N)  f0 f5;exact .inl ⟨F1,ku.stop (Ex.rX (Ex.seq (Ex.cM e1) (Ex.n_ (by simp[bn,e2]) Ex.exit)) (by simp)) (by simp),by grind,hp⟩
 | succ d ih=>
  intro k F he hk hp f0 f1 f5;obtain⟨F1,a1,a2,a3⟩:=x5    f0 f5;have U:bn N F1 15=.bool true:=by
   show get F1 15=_;rw[a2,decide_eq_true (by omega)]
  obtain⟨u,rfl⟩:∃u,k=u+1:=⟨k-1,by omega⟩
  obtain⟨n0,ai⟩:=X.cmp;obtain⟨F2,b1,b2,b3⟩:=(Rs  (N:=N) (cb:=cb) (g:=g) (i:=u) (L2:=L) (t:=t (u+1)) X.row (by omega) (by omega) (X.at_ _ (by omega)) (X.at_ _ (by omega)) X.keep (by rw[a3 1 (by omega)];omega)).1 (by grind) (by grind)
  have W:∃n,∀k,n<=k->cr E N (run E k) (some H.length) r6 F1 H=some (F2,H):=⟨n0,λk hk=>b1 _ (by
   grind)⟩
  have Y  := λs hs=>(b3 s hs).trans (a3 s hs)
  cases w:t (u+1)with
  | false=>
   rw[w]at b2;obtain⟨T,q1,q2,q3⟩:=(H9 (E:=E)  (F:=F2)  (p:=u+1) (by omega)).2.2 (by grind)
   have z:Ex E N Od F H .norm T H:=Ex.seq (Ex.seq (Ex.cM a1) (Ex.lq U Ex.skip)) (Ex.seq (Ex.block (Ex.seq (Ex.HL (by decide) W) (Ex.n_ (by simp[bn,b2]) Ex.skip))) (Ex.cM q1))
   rcases ih (u+1+1) T (by omega) (by omega) (λi h1 Z=>by
    grind) (by grind) (by simp_all) q2 with⟨F',i1,i2⟩|⟨F',D,i1,i2⟩
   .exact .inl ⟨F',ku.step z i1,i2⟩
   .exact .inr ⟨F',D,ku.step z i1,i2⟩
  | true=>
   rw[w]at b2;refine .inr ?_;obtain⟨T,q1,q2,q3⟩:=x7 (E:=E) (N:=N)  (H:=H) (k:=u+1) (by rw[Y 0 (by omega)];exact f0) (by rw[Y 5 (by omega)];exact f5) (by omega)
   have G:kept t (u+1)=List.range (u+1):=Ao _ hp;have aa:kept t (u+1+1)=List.range (u+1):=by
    rw[uz,G,w];simp
   have q4:∀call,cr E N call none r8 T H=some (set T 7 (.int .i64 1),H):=λcall=>vp  rfl (by simp[bu,bn,bh]) dG
   have h0:Head g cb id off L (u+1) 1 rs A t (set T 7 (.int .i64 1)) rs:=⟨by rw[gw _ _ (by omega),q3 0 (by omega) (by omega),Y 0 (by omega)];exact f0,by rw[gw _ _ (by omega),q3 1 (by omega) (by omega),Y 1 (by omega)];exact f1,
    by rw[gw _ _ (by omega),q3 5 (by omega) (by omega),Y 5 (by omega),aa,List.length_range];exact f5,by rw[gw _ _ (by omega)];exact q2,by rw[qN];rfl,rfl,
    λp i B=>by
     rw[aa]at B;obtain⟨h1,Z⟩:=ζe.1 B;simp at h1 Z;subst Z;exact X.at_ p (by omega),λi _ Z=>X.at_ i Z,λ_ _=>rfl,λi hi=>⟨i,hi,X.at_ i hi⟩⟩
   obtain⟨F5,C,l1,I⟩:=HJ (N:=N) X (by omega) (by omega) w (L-(u+1)-1) 1 _ rs (by omega) (by omega) h0
   rw[S]at l1;have eL:u+1+(L-(u+1))=L:=by omega
   have ae:=yL (t:=t) (k:=u+1) (by omega) w L (by omega)
   have l5:=I.f5;have J:=I.pre;rw[eL]at l5 J;generalize hK:(kept t L).length=K at *;have ab:(H.set id (.row 1 C))[id]? = some (.row 1 C):=List.getElem?_set_self Q;obtain⟨F6,w1,w2⟩:=Ud (E:=E) (N:=N) (p:=K) ab I.f0 l5 (by omega) (by rw[I.len];omega)
   rw[List.set_set]at w1;obtain⟨F7,w3,w4⟩:=N_ (E:=E)     (by rw[w2 0 (by omega)];exact I.f0) (by rw[w2 5 (by omega)];exact l5) (by omega)
   have aj:=I.len;refine⟨F7,C.take (off+K)++List.replicate (L-K) [.bB]++C.drop (off+L),ku.stop (Ex.seq (Ex.seq (Ex.cM a1) (Ex.lq U Ex.skip)) (Ex.rX (Ex.J5 (Ex.seq (Ex.HL (by decide) W) (Ex.lq (by simp[bn,b2]) (Ex.seq (Ex.cM q1) (Ex.seq (Ex.seq (Ex.cM q4) (Ex.sR (Ex.loop l1))) (Ex.seq (Ex.cM w1) (Ex.seq (Ex.cM w3) Ex.ret))))))) (by simp))) (by simp),w4,?_,λp i B=>?_,λc hc=>?_⟩
   .simp;omega
   .have ak:p<K:=by rw[<-hK];exact(ζe.1 B).1
    rw[List.append_assoc,List.getElem?_append_left (by simp;omega),List.getElem?_take,if_pos (by omega)]
    exact J p i B
   .have ad:∀j x,C[j]? = some x->x∈rs:=λj x O=>by
     by_cases ho:j<off\/off+L<=j
     .rw[I.out j ho]at O;exact List.mem_of_getElem? O
     .obtain⟨i,rfl⟩:∃i,j=off+i:=⟨j-off,by omega⟩
      obtain⟨q,hq,hc⟩:=I.cell i (by omega)
      rw[hc]at O;cases O;exact List.mem_of_getElem? (X.at_ q hq)
    rcases List.mem_append.1 hc with hc|hc
    .rcases List.mem_append.1 hc with hc|hc
     .obtain⟨j,O⟩:=List.getElem?_of_mem (List.mem_of_mem_take hc);exact .inl (ad j c O)
     .exact .inr (List.eq_of_mem_replicate hc)
    .obtain⟨j,O⟩:=List.getElem?_of_mem (List.mem_of_mem_drop hc);exact .inl (ad j c O)
end
end cmpX
end Go.VE
namespace Go.VE
variable [bN]
noncomputable def w_ (E:Env) (g:FuncId) (cb:List V) (a b:V):Option Bool:=match Aa E g cb a b with|some (.bool c)=>some c|_=>none
theorem Q3 {E:Env} {g:FuncId} {cb:List V} {a b:V} {c:Bool} (h:w_ E g cb a b=some c):∃n,∀k,n<=k->bU (run E k) g (a::b::cb) []=some (.bool c):=by
 unfold w_ at h;split at h
 .rename_i c' hc;cases h;exact Cz hc
 .cases h
def kr (xs:List (List V)) (i:Nat):V:=iY ((xs[i]?).getD [])
noncomputable def vP (E:Env) (es:Nat) (xs:List (List V)):List V->Option (List (List V))
 | [.clo g [] cb]=>if xs.isEmpty then some []else if sG es xs && !E.keep g then
  if(List.range xs.length).all λi=>i==0||(w_ E g cb (kr xs i) (kr xs (i-1))).isSome then
   some ((kept (λi=>(w_ E g cb (kr xs i) (kr xs (i-1))).getD false) xs.length).map λi=>(xs[i]?).getD [])
  else none
  else none
 | _=>none
noncomputable def qO (E:Env):Dl:=⟨true,vP E⟩
namespace cmpX
section
variable {E:Env} {N:Nat->FuncId} {g:FuncId} {cb:List V} {H:bf} {id off L:Nat} {rs:List (List V)} {A:Nat->V} {t:Nat->Bool}
theorem whole (X:DQ E g cb H id off L rs A t):∃F' B,Ex E N code [.hsl id 1 off L,.clo g [] cb] H .ret F' (H.set id (.row 1 B))/\get F' 4=.hsl id 1 off (kept t L).length/\MH off L rs A t B:=by
 have u:H.set id (.row 1 rs)=H:=pQ X.row;have same:(∀i,0<i->i<L->t i=false)->(kept t L).length=L/\MH off L rs A t rs:=λh=>by
  have hk:=Ao L h;rw[hk,List.length_range];exact⟨rfl,rfl,λp i Q=>by
   rw[hk]at Q;obtain⟨h1,w⟩:=ζe.1 Q;simp at h1 w;subst w;exact X.at_ p h1,λc hc=>.inl hc⟩
 have g1:∀call,cr E N call none r1 [.hsl id 1 off L,.clo g [] cb] H=some (set [.hsl id 1 off L,.clo g [] cb] 4 .bB,H):=λcall=>vp (v:=.bB) rfl (by simp[bu,bn,bh]) dG
 have k0:get (set [V.hsl id 1 off L,.clo g [] cb] 4 .bB) 0=.hsl id 1 off L:=rfl;have k1:get (set [V.hsl id 1 off L,.clo g [] cb] 4 .bB) 1=.clo g [] cb:=rfl;generalize set [V.hsl id 1 off L,.clo g [] cb] 4 .bB=T at *;obtain⟨F1,a1,S,z⟩:=x2 (E:=E) (N:=N) (H:=H) k0
 by_cases U:L<2
 .obtain⟨C,D,G⟩:=NK (E:=E) (N:=N) (F:=F1) (H:=H);obtain⟨e1,e2⟩:=same λi h1 w=>by omega
  refine⟨C,rs,?_,by rw[e1,G,z 0 (by omega)];exact k0,e2⟩
  rw[u];exact Ex.seq (Ex.cM g1) (Ex.rX (Ex.seq (Ex.cM a1) (Ex.lq (by show get F1 10=_;rw[S,decide_eq_true (by omega)]) (Ex.seq (Ex.cM D) Ex.ret))) (by simp))
 .have g4:∀call,cr E N call none r4 F1 H=some (set F1 5 (.int .i64 1),H):=λcall=>vp (v:=.int .i64 1) rfl (by simp[bu,bn,bh]) dG
  have hc:Ex E N (.seq (.ops r2) (.cond (.s 10) (.seq (.ops r3) (.ret)) (.skip))) T H .norm F1 H:=Ex.seq (Ex.cM a1) (Ex.n_ (by show get F1 10=_;rw[S,decide_eq_false (by omega)]) Ex.skip)
  rcases HF (N:=N) X (L-1) 1 (set F1 5 (.int .i64 1)) (by omega) (by omega) (λi h1 w=>by omega) (by rw[gw _ _ (by omega),z 0 (by omega)];exact k0) (by rw[gw _ _ (by omega),z 1 (by omega)];exact k1) (by rw[qN];rfl)with⟨F',I,J,O⟩|⟨F',B,I,J,O⟩
  .obtain⟨C,D,G⟩:=Uf (E:=E) (N:=N) (F:=F') (H:=H);obtain⟨e1,e2⟩:=same O;refine⟨C,rs,?_,by rw[e1,G];exact J,e2⟩
   rw[u];exact Ex.seq (Ex.cM g1) (Ex.seq hc (Ex.seq (Ex.seq (Ex.cM g4) (Ex.sR (Ex.loop I))) (Ex.seq (Ex.cM D) Ex.ret)))
  .exact⟨F',B,Ex.seq (Ex.cM g1) (Ex.seq hc (Ex.rX (Ex.seq (Ex.cM g4) (Ex.J5 (Ex.loop I))) (by simp))),J,O⟩
theorem empty {w:V} (c:V) (B:w=.bB\/w=.dg):∃F',Ex E N code [w,c] H .ret F' H/\get F' 4=w:=by
 have g1:∀call,cr E N call none r1 [w,c] H=some (set [w,c] 4 .bB,H):=λcall=>vp (v:=.bB) rfl (by simp[bu,bn,bh]) dG
 have k0:get (set [w,c] 4 .bB) 0=w:=rfl;generalize set [w,c] 4 .bB=t at *;have u:l_ w=some (.int .i64 0):=by rcases B with rfl|rfl <;> rfl
 have a1:∃F1,(∀call,cr E N call none r2 t H=some (F1,H))/\get F1 10=.bool true/\get F1 0=w:=by
  refine⟨_,λcall=>vp (v:=w) rfl ?_ <| vp (v:=.int .i64 0) rfl ?_ <| vp (v:=.bool true) rfl ?_ dG,?_,?_⟩
  .simp[bu,bn,bh,k0]
  .simp[bu,bn,bh,bl,u]
  .simp[bu,bn,bh,bl,gj,mA]
  .simp[bl]
  .simp[bl,k0]
 obtain⟨F1,a1,z,A⟩:=a1;obtain⟨C,D,G⟩:=NK (E:=E) (N:=N) (F:=F1) (H:=H);exact⟨C,Ex.seq (Ex.cM g1) (Ex.rX (Ex.seq (Ex.cM a1) (Ex.lq z (Ex.seq (Ex.cM D) Ex.ret))) (by simp)),by rw[G,A]⟩
end
end cmpX
theorem M7 {E:Env} {f:FuncId} {nm:FuncId->Option Nat} {N:Nat->FuncId} (hN:∀f s,nm f=some s->N s=f) (hk:E.keep f=true) (ho:E.own f=false)
 (hf:∃fi,E.ft f=some fi/\bH ⟨E,nm,fi.ntmps⟩ false fi.body=some cmpX.code/\2<=fi.ntmps/\fi.results=[.tmp 4]):mU E f (qO E):=by
 obtain⟨fi,h1,h2,h3,h4⟩:=hf;have D:∀{w c:V} {H H':bf} {F':Frame} {r:V},Ex E N cmpX.code [w,c] H .ret F' H'->get F' 4=r->∃n,∀k,n<=k->run E k (.fn f) [w,c] H=some (r,H'):=λ{w c H H' F' r} hx hr=>by
  obtain⟨n,G⟩:=Ex.run hN h1 h2 (args:=[w,c]) (by simpa using h3) hx (vs:=[r]) (by rw[h4];simp[gG,hr])
  exact⟨n,λk hk=>(mb E hk).go _ _ _ _ G⟩
 refine⟨hk,ho,?_,?_,?_⟩
 .intro es t vs ys h;simp only[qO,vP]at h;refine⟨?_,λe=>by simp[qO]at e⟩
  split at h
  .split at h
   .cases h;simp
   .split at h
    .split at h
     .cases h;simpa using yR _ _
     .cases h
    .cases h
  .cases h
 .intro es vs ys h H Z ws w hw he;simp only[qO,vP]at h;split at h
  .obtain⟨w2,r,rfl,q1,q2⟩:=hw.inv;rw[q2.cK];obtain⟨F',e1,e2⟩:=cmpX.empty (E:=E) (N:=N) (H:=H) w2 he;obtain⟨n,G⟩:=D e1 e2;exact⟨n,[],λk hk=>by rw[List.append_nil];exact G k hk⟩
  .cases h
 .intro es t vs ys h H Z ws id off rs hw S T ae J hz;simp only[qO,vP]at h;split at h
  .rename_i g cb;obtain⟨w2,r,rfl,q1,q2⟩:=hw.inv;rw[q2.cK];obtain⟨a',z,rfl,ha,af⟩:∃a' z,w2=.clo g a' z/\cV H Z [] a'/\cV H Z cb z:=q1.jk;rw[ha.cK]at *;split at h
   .rename_i he;cases h;have:t=[]:=by simpa using he
    subst this;have e2:∃F',Ex E N cmpX.code [.hsl id es off 0,.clo g [] z] H .ret F' H/\get F' 4=.hsl id es off 0:=by
     have g1:∀call,cr E N call none cmpX.r1 [.hsl id es off 0,.clo g [] z] H=some (set [.hsl id es off 0,.clo g [] z] 4 .bB,H):=λcall=>vp (v:=.bB) rfl (by simp[bu,bn,bh]) dG
     have k0:get (set [V.hsl id es off 0,.clo g [] z] 4 .bB) 0=.hsl id es off 0:=rfl;generalize set [V.hsl id es off 0,.clo g [] z] 4 .bB=F0 at *;have a1:∃F1,(∀call,cr E N call none cmpX.r2 F0 H=some (F1,H))/\get F1 10=.bool true/\get F1 0=.hsl id es off 0:=by
      refine⟨_,λcall=>vp (v:=.hsl id es off 0) rfl ?_ <| vp (v:=.int .i64 0) rfl ?_ <| vp (v:=.bool true) rfl ?_ dG,?_,?_⟩
      .simp[bu,bn,bh,k0]
      .simp[bu,bn,bh,bl,l_]
      .simp[bu,bn,bh,bl,gj,mA]
      .simp[bl]
      .simp[bl,k0]
     obtain⟨F1,a1,a2,a3⟩:=a1;obtain⟨F2,b1,b2⟩:=cmpX.NK (E:=E) (N:=N) (F:=F1) (H:=H);exact⟨F2,Ex.seq (Ex.cM g1) (Ex.rX (Ex.seq (Ex.cM a1) (Ex.lq a2 (Ex.seq (Ex.cM b1) Ex.ret))) (by simp)),by rw[b2,a3]⟩
    obtain⟨F',e1,e3⟩:=e2;obtain⟨n,G⟩:=D e1 e3;refine⟨n,rs,[],λk hk=>?_,rfl,⟨rfl,λj u v hu=>by simp at hu⟩,J⟩
    rw[List.append_nil,pQ S];exact G k hk
   .rename_i al;split at h
    .rename_i L;simp only[ζh,Bool.not_eq_true']at L;obtain⟨c1,c3⟩:=L;obtain⟨rfl,U,W⟩:=v8 c1;split at h
     .rename_i Y;cases h;have O:∀i,i<t.length->∃a,rs[off+i]? = some [a]/\FR H Z (kr t i) a/\a.one=true:=λi B=>by
       obtain⟨e,p2⟩:=W i t[i] (ζd B);have Q:off+i<rs.length:=by omega
       have:=ae.2 i t[i] rs[off+i] (ζd B) (by rw[List.getElem?_take,if_pos B,List.getElem?_drop,ζd Q])
       rw[e]at this;obtain⟨y,ys,e2,r1,r2⟩:=this.inv;rw[r2.cK]at e2;have e3:kr t i=iY t[i]:=by unfold kr;rw[ζd B];rfl
       exact⟨y,by rw[ζd Q,e2],by rw[e3];exact r1,by rw[r1.one];exact p2⟩
      let A:Nat->V:=λi=>match rs[off+i]? with|some (a::_)=>a|_=>.undef
      have hA:∀i,i<t.length->rs[off+i]? = some [A i]/\FR H Z (kr t i) (A i)/\(A i).one=true:=λi B=>by
       obtain⟨a,p1,p2,p4⟩:=O i B;have:A i=a:=by show (match rs[off+i]? with|some (a::_)=>a|_=>V.undef)=a;rw[p1]
       rw[this];exact⟨p1,p2,p4⟩
      have aa:∀i,i+1<t.length->∃b,w_ E g cb (kr t (i+1)) (kr t i)=some b:=λi B=>by
       have:=List.all_eq_true.1 Y (i+1) (List.mem_range.2 B);simp only[Nat.add_sub_cancel,Bool.or_eq_true]at this;rcases this with h|h
       .simp at h
       .exact Option.isSome_iff_exists.1 h
      have X:cmpX.DQ E g z H id off t.length rs A (λi=>(w_ E g cb (kr t i) (kr t (i-1))).getD false):=by
       refine⟨S,T,U,λi B=>(hA i B).1,λi B=>(hA i B).2.2,c3,?_⟩
       obtain⟨M,hM⟩:=B4 (n:=t.length-1) (p:=λi k=>bU (run E k) g (kr t (i.1+1)::kr t i.1::cb) []=some (.bool ((w_ E g cb (kr t (i.1+1)) (kr t i.1)).getD false))) (λi=>by
        obtain⟨b,Q⟩:=aa i.1 (by have:=i.2;omega)
        obtain⟨n,G⟩:=Q3 Q;exact⟨n,λk hk=>by rw[G k hk,Q];rfl⟩)
       obtain⟨L1,ah⟩:=kG ((List.range t.length).map (kr t));obtain⟨L2,ai⟩:=kG cb;have ab:∀i k,i<t.length->L1<=k->(kr t i).lvl k=true:=λi k B hk=>vO hk (kJ.1 ah i _ (by simp[B]))
       refine⟨max M (max L1 L2),λk hk i B ad=>?_⟩
       have C:∀j,Z j->Z j/\bk (H.set id (.row 1 ad)) j=bk H j:=λj hj=>⟨hj,by
        unfold bk;rw[List.getElem?_set_ne];rintro rfl;exact hz hj⟩
       have hl:cV (H.set id (.row 1 ad)) Z (kr t (i+1)::kr t i::cb) (A (i+1)::A i::z):=.cons ((hA _ B).2.1.mono C) (.cons ((hA i (by omega)).2.1.mono C) (af.mono C))
       have Q:=hl.Hf (k:=k) (by simp only[V.jX,ab _ k B (by omega),ab i k (by omega) (by omega),nD (by omega:L2<=k) ai,Bool.and_self])
       rw[Ra (by rw[mc];exact Q) (λx hx=>?_)]
       .exact hM ⟨i,by omega⟩ k (by omega)
       .obtain⟨j,hj⟩:=List.getElem?_of_mem hx;obtain⟨y,hy,hr⟩:=hl.get hj;exact V.jA hr.good
      obtain⟨F',aj,e1,e2,e3⟩:=cmpX.whole (N:=N) X;obtain⟨n,G⟩:=D e1 e2;refine⟨n,aj,[],λk hk=>?_,e3.len,?_,?_⟩
      .simp only[qO,if_true,List.length_map,List.append_nil];exact G k hk
      .refine⟨by simp[e3.len];have:=yR (λi=>(w_ E g cb (kr t i) (kr t (i-1))).getD false) t.length;omega,λp a b hp hq=>?_⟩
       rw[List.getElem?_map]at hp;obtain⟨i,B,rfl⟩:=ζf.1 hp;have I:=HE (List.mem_of_getElem? B);have ak:=(ζe.1 B).1;rw[List.getElem?_take,if_pos (by simpa using ak),List.getElem?_drop,e3.pre p i B]at hq
       cases hq;rw[ζd I,Option.getD_some];have e4:=(W i t[i] (ζd I)).1;have e5:kr t i=iY t[i]:=by unfold kr;rw[ζd I];rfl
       rw[e4,<-e5];exact .cons (hA i I).2.1 .nil
      .intro c hc u hu;rcases e3.all c hc with h|rfl
       .exact J c h u hu
       .simp at hu;subst hu;exact⟨.bB,.same _ rfl⟩
     .cases h
    .cases h
  .cases h
end Go.VE
namespace Go.VE
variable [bN]
def Sl.re {α:Type} (s:Sl α) (l:List α):Sl α:=match s with|.nil=>.nil|.emp=>.emp|.row _=>.row l|.part _=>.part l
def Sl.qM {α:Type} (s:Sl α) (l:List α):Sl α:=match s with|.nil=>.nil|.emp=>.emp|.row _|.part _=>.part l
noncomputable def wU {α:Type} (s:Sl α) (p:α->α->Option Int):Option (Sl α):=
 match s.l with
 | []=>some s
 | x::l=>if l.length<2147483648 then
  let t:_root_.Fin (l.length+1)->_root_.Fin (l.length+1)->Option Int:=λi j=>p (x::l)[i.1] (x::l)[j.1]
  if yP t then some (s.re ((oW l.length (nV t)).toList.map λi=>(x::l)[i.1]))else none
  else none
def rB {α:Type} (l:List α) (p:α->α->Option Bool) (i:Nat):Option Bool:=match l[i]?,l[i-1]? with|some a,some b=>p a b|_,_=>none
def vC {α:Type} (s:Sl α) (p:α->α->Option Bool):Option (Sl α):=
 if s.l.length<=2147483648/\((List.range s.l.length).all λi=>i==0||(rB s.l p i).isSome)=true then
  some (s.qM ((kept (λi=>(rB s.l p i).getD false) s.l.length).filterMap (s.l[·]?)))
 else none
section
variable {S:Sys} {T:pF} {β γ δ α:Type} {Q:Out×St->Option β} {e:γ->Option β} {cf:Cf}
theorem jL.K2 (B:pP S T) (D:∀f a b xs,S.items f a b=some xs->eU S f a b xs) {fn:FuncId} {A:δ->List V} {E:α->List V} {p:δ->Option α} {sc:Bool} (F:jL S (c8 S T) fn A E p sc) {z:δ} {r:α} (h:p z=some r) (hg:V.cq (A z)=true) :
 ∃n,bU (run S.E n) fn (A z) []=some (result (E r)):=by
 have h1:=F.h z (E r) (by simp_all)
 obtain⟨⟨rs,m'⟩,t,u⟩:=ζg.1 h1;obtain⟨n,y,H2,e1,e2,e3⟩:=Ah (vg B D) hg t u;refine⟨n,?_⟩;have w:borrows n [] (A z)=some (A z):=by
  have hc:=V.mj hg;generalize A z=l at hc;unfold borrows
  induction l with
  | nil=>rfl
  | cons x l C=>
   simp[V.jT]at hc;simp[gH,dK n [] hc.1,C hc.2]
 unfold bU;rw[mc,w];simp[e1 n (Nat.le_refl _),e2 n (Nat.le_refl _),V.jA e3]
section
variable [bt α]
theorem BL (h1:bt.size α=1) {l:List α} (B:l.length<=2147483648):sG (bt.size α) (rows l)=true:=by
 unfold sG;simp;refine⟨⟨h1,λx t=>?_⟩,by simpa [rows]using B⟩
 obtain⟨a,_,rfl⟩:=List.mem_map.1 t;exact⟨by rw[ez,h1],List.all_eq_true.1 (bt.one a)⟩
theorem C6 (h1:bt.agg α=false) (a:α):iY (cells a)=enc a:=by
 unfold enc;rw[if_neg (by grind)];rfl
theorem Ag (l:List α) (i:Nat) (h:i<l.length):(rows l)[i]? = some (cells l[i]):=by
 unfold rows;grind
theorem PE (J:pP S T) (O:∀f a b xs,S.items f a b=some xs->eU S f a b xs) {g:FuncId} {p:α->α->Option Int} (F:jL S (c8 S T) g (λz:α×α=>[enc z.1,enc z.2]) (λr:Int=>[.int .i64 r]) (λz=>p z.1 z.2) true)
 (h1:bt.size α=1) (U:bt.agg α=false) {s B:Sl α} (h:wU s p=some B):xV S.E (bt.size α) (rows s.l) [.clo g [] []]=some (rows B.l)/\B.k=s.k:=by
 unfold wU at h;split at h
 .rename_i w;cases h;rw[w];exact⟨rfl,rfl⟩
 .rename_i x l w;split at h
  .dsimp only at h;split at h
   .rename_i D;cases h;rw[w];obtain⟨t,G⟩:=oL D;have A:=BL  h1 (l:=x::l) (by grind)
    have key:∀m,m=l.length->(if yP (λi j:_root_.Fin (m+1)=>qS S.E g [] (iY (((rows (x::l))[i.1]?).getD [])) (iY (((rows (x::l))[j.1]?).getD [])))then
     some ((oW m (nV (λi j:_root_.Fin (m+1)=>qS S.E g [] (iY (((rows (x::l))[i.1]?).getD [])) (iY (((rows (x::l))[j.1]?).getD []))))).toList.map λi=>((rows (x::l))[i.1]?).getD [])else none) =
     some (rows ((oW l.length (nV λi j:_root_.Fin (l.length+1)=>p (x::l)[i.1] (x::l)[j.1])).toList.map λi=>(x::l)[i.1])):=by
     rintro m rfl;have e1:∀i:_root_.Fin (l.length+1),iY (((rows (x::l))[i.1]?).getD [])=enc (x::l)[i.1]:=λi=>by
      rw[Ag (x::l) i.1 i.2,Option.getD_some,C6 U]
     have e2:(λi j:_root_.Fin (l.length+1)=>qS S.E g [] (iY (((rows (x::l))[i.1]?).getD [])) (iY (((rows (x::l))[j.1]?).getD [])))=λi j=>p (x::l)[i.1] (x::l)[j.1]:=by
      funext i j
      obtain⟨z,I⟩:=t i j;rw[e1 i,e1 j,I];obtain⟨n,L⟩:=F.K2 J O (z:=((x::l)[i.1],(x::l)[j.1])) I (by simp[V.cq,gY])
      unfold qS;rw[G5 L];rfl
     rw[e2,if_pos D]
     congr 1
     unfold rows;rw[List.map_map];refine List.map_congr_left λi _=>?_
     grind
    have u:(s.re ((oW l.length (nV λi j:_root_.Fin (l.length+1)=>p (x::l)[i.1] (x::l)[j.1])).toList.map λi=>(x::l)[i.1])).l=(oW l.length (nV λi j:_root_.Fin (l.length+1)=>p (x::l)[i.1] (x::l)[j.1])).toList.map (λi=>(x::l)[i.1])/\(s.re ((oW l.length (nV λi j:_root_.Fin (l.length+1)=>p (x::l)[i.1] (x::l)[j.1])).toList.map λi=>(x::l)[i.1])).k=s.k:=by
     cases s <;> simp[Sl.l]at w <;> exact⟨rfl,rfl⟩
    refine⟨?_,u.2⟩;rw[u.1,<-key (rows l).length (fG l)];have hc:(sG (bt.size α) (rows (x::l)) && !S.E.keep g)=true:=by
     rw[A,F.k];rfl
    have C  := hc;exact(if_pos C).trans rfl
   simp_all
  simp_all
theorem PR (U:pP S T) (W:∀f a b xs,S.items f a b=some xs->eU S f a b xs) {g:FuncId} {p:α->α->Option Bool} (F:jL S (c8 S T) g (λz:α×α=>[enc z.1,enc z.2]) (λr:Bool=>[.bool r]) (λz=>p z.1 z.2) true)
 (h1:bt.size α=1) (Y:bt.agg α=false) {s B:Sl α} (h:vC s p=some B):vP S.E (bt.size α) (rows s.l) [.clo g [] []]=some (rows B.l)/\B=s.qM B.l:=by
 have O:∀l:List α,(s.qM l)=s.qM (s.qM l).l:=λl=>by cases s <;> rfl
 refine⟨?_,by
  unfold vC at h;grind⟩
 unfold vC at h;split at h
 .rename_i hc;cases h;obtain⟨X,u⟩:=hc;have G:=BL  h1 X;simp only[vP]
  by_cases I:s.l=[]
  .have:(s.qM ((kept (λi=>(rB s.l p i).getD false) s.l.length).filterMap (s.l[·]?))).l=[]:=by
    cases s <;> simp[Sl.l]at I <;> simp[Sl.qM,Sl.l,I,kept]
   rw[this,I];rfl
  .have J:(rows s.l).isEmpty=false:=by cases hs:s.l with|nil=>grind|cons a l=>rfl
   rw[J,if_neg (by simp),G,F.k,if_pos (by rfl),fG]
   have e1:∀i,0<i->i<s.l.length->∃b,rB s.l p i=some b/\w_ S.E g [] (kr (rows s.l) i) (kr (rows s.l) (i-1))=some b:=λi h0 t=>by
    have:=List.all_eq_true.1 u i (List.mem_range.2 t);simp  at this;obtain⟨b,C⟩:=Option.isSome_iff_exists.1 (this.resolve_left (by omega))
    refine⟨b,C,?_⟩;have w:i-1<s.l.length:=by omega
    unfold rB at C;rw[ζd t,ζd w]at C;have Q:∀j (D:j<s.l.length),kr (rows s.l) j=enc s.l[j]:=λj D=>by
     unfold kr;rw[Ag _ _ D,Option.getD_some,C6 Y]
    rw[Q i t,Q (i-1) w];obtain⟨n,Z⟩:=F.K2 U W (z:=(s.l[i],s.l[i-1])) C (by simp only[V.cq,gY,Bool.and_self])
    unfold w_;rw[G5 Z];rfl
   have e2:((List.range s.l.length).all λi=>i==0||(w_ S.E g [] (kr (rows s.l) i) (kr (rows s.l) (i-1))).isSome)=true:=by
    grind
   rw[if_pos e2];have e3:kept (λi=>(w_ S.E g [] (kr (rows s.l) i) (kr (rows s.l) (i-1))).getD false) s.l.length=kept (λi=>(rB s.l p i).getD false) s.l.length:=by
    refine List.filter_congr λi t=>?_
    by_cases h0:i=0
    .grind
    .obtain⟨b,h3,h4⟩:=e1 i (by omega) (List.mem_range.1 t)
     simp_all
   rw[e3];have e4:(s.qM ((kept (λi=>(rB s.l p i).getD false) s.l.length).filterMap (s.l[·]?))).l=(kept (λi=>(rB s.l p i).getD false) s.l.length).filterMap (s.l[·]?):=by
    cases s <;> first|rfl|grind
   rw[e4]
   congr 1
   generalize hk:kept (λi=>(rB s.l p i).getD false) s.l.length=L
   have A:∀i∈L,i<s.l.length:=λi t=>HE (hk▸t)
   clear hk e3 e4
   induction L with
   | nil=>rfl
   | cons i L ih=>
    have t:=A i (by simp)
    rw[List.map_cons,ih λj D=>A j (List.mem_cons_of_mem _ D),Ag _ _ t,List.filterMap_cons,ζd t]
    rfl
 simp_all
theorem MS {s B:Sl α} {p:α->α->Option Int} (h:wU s p=some B) (hk:cw s.k=false):B=s:=by
 cases s <;> simp[Sl.k,cw]at hk <;> simpa [wU,Sl.l]using h.symm
theorem Si (n d:Nat) (D:pP S T) (J:∀f a b xs,S.items f a b=some xs->eU S f a b xs) {fn g:FuncId} (G:S.prm fn=some (rm S.E)) {p:α->α->Option Int}
 (F:jL S (c8 S T) g (λz:α×α=>[enc z.1,enc z.2]) (λr:Int=>[.int .i64 r]) (λz=>p z.1 z.2) true) {s:Sl α} {f:Sl α->Option γ}
 (h:∀B,wU s p=some B->Le ((f B).bind e) (b8 S (c8 S T) Q (nx S (c8 S T) n cf λq=>cZ { q.st with m:=bJ q.st.m d (cQ B) } q.d (.v .undef))))
 (h1:bt.size α=1:=by rfl) (O:bt.agg α=false:=by rfl)
 (U:(gy S (c8 S T) n cf).map (λq=>(q.k,bV S.N q.st.g q.az,bg q.st.m d,q.dr))=some (.c,some [.v (.clo fn [] []),.own d,.v (.clo g [] [])],some (cQ s),false):=by kernel_rfl):Le (((wU s p).bind f).bind e) (b8 S (c8 S T) Q cf):=by
 obtain⟨q,w,hv⟩:=fh U;simp  at hv;obtain⟨A,C,I,L⟩:=hv;refine uE w ?_ h;rw[A,L];intro y u;obtain⟨B,t,u⟩:=ζg.1 u;obtain⟨e1,e2⟩:=PE D J F h1 O t;have hk:=(D.prm fn _ G).keep;have W:=(D.prm fn _ G).own;rw[D2 false _ _ _ _ _ _ fn [.own d,.v (.clo g [] [])] C rfl];have hc:gz S (c8 S T) q.d false (!false||q.now) (f_ q.st.m q.fr) fn [.own d,.v (.clo g [] [])] q.st=some (.v .undef,{ q.st with m:=bJ q.st.m d (cQ B) }):=by
  unfold gz;simp[hk,W,G,Aq,I,cQ,dn];have e3  := e1;simp[rm]
  cases hr:cw s.k with
  | true=>grind
  | false=>have:=MS t hr;grind
 grind
theorem Su (n d t:Nat) (D:pP S T) (J:∀f a b xs,S.items f a b=some xs->eU S f a b xs) {fn g:FuncId} (G:S.prm fn=some (qO S.E)) {p:α->α->Option Bool}
 (F:jL S (c8 S T) g (λz:α×α=>[enc z.1,enc z.2]) (λr:Bool=>[.bool r]) (λz=>p z.1 z.2) true) {s:Sl α} {f:Sl α->Option γ}
 (h:∀B,vC s p=some B->Le ((f B).bind e) (b8 S (c8 S T) Q (nx S (c8 S T) n cf λq=>{ q.st with g:=bJ q.st.g t (.own t),m:=bJ (dH d q.st.m) t (cQ B) })))
 (h1:bt.size α=1:=by rfl) (O:bt.agg α=false:=by rfl)
 (U:(gy S (c8 S T) n cf).map (λq=>(q.k,bV S.N q.st.g q.az,bg q.st.m d,q.dr,q.d,St.new { q.st with m:=dH d q.st.m } t))=some (.c,some [.v (.clo fn [] []),.own d,.v (.clo g [] [])],some (cQ s),false,some t,true):=by kernel_rfl):Le (((vC s p).bind f).bind e) (b8 S (c8 S T) Q cf):=by
 obtain⟨q,A,hv⟩:=fh U;simp  at hv;obtain⟨C,I,L,W,X,Y⟩:=hv;refine uE A ?_ h;rw[C,W,X];intro y u;obtain⟨B,w,u⟩:=ζg.1 u;cases u;obtain⟨e1,e2⟩:=PR D J F h1 O w;have hk:=(D.prm fn _ G).keep;have Z:=(D.prm fn _ G).own;rw[D2 false _ _ _ _ _ _ fn [.own d,.v (.clo g [] [])] I rfl];have hc:gz S (c8 S T) (some t) false (!false||q.now) (f_ q.st.m q.fr) fn [.own d,.v (.clo g [] [])] q.st=some (.own t,{ q.st with m:=bJ (dH d q.st.m) t (cQ B) }):=by
  unfold gz;simp[hk,Z,G,Aq,L,cQ,dn];have e3:(qO S.E).go (bt.size α) (rows s.l) [.clo g [] []]=some (rows B.l):=e1;rw[e3];simp[qO,Y];have e4:(if cw s.k=true then bD.sl .part (bt.size α) (rows B.l)else .sl s.k (bt.size α) (rows s.l))=.sl B.k (bt.size α) (rows B.l):=by
   rw[e2];cases s <;> rfl
  rw[e4]
 rw[hc];rfl
end
end
end Go.VE
namespace Go.VE
variable [bN]
section
variable {H H':bf} {w:V} {o:Nat} {ids:List Nat} {rows:List (List V)}
theorem kP.cell (n:kP H w o ids rows) {p j:Nat} {r:List V} {u:V} (hr:rows[p]? = some r) (hu:r[j]? = some u) :
 ∃id,ids[p]? = some id/\kg 1 w (p:Int)=some (.hptr o p 0)/\ey H (.load 1 false) [.hptr o p 0]=some (.hsl id 1 0 r.length)/\kg 1 (.hsl id 1 0 r.length) (j:Int)=some (.hptr id j 0)/\ey H (.load 1 false) [.hptr id j 0]=some u:=by
 have B:=(ζe.1 hr).1;have C:=(ζe.1 hu).1;have z:rows≠[]:=by intro e;subst e;simp at hr
 have A:p<ids.length:=by rw[n.len];exact B
 have t:=ζd A;refine⟨ids[p],t,?_,?_,?_,?_⟩
 .have:=n.v;rw[if_neg z]at this;subst this;simp[kg,B]
 .have h1:=n.ob z;have D:=Af t hr;simp[ey,dL,h1,Ob.rows,D,cut];rfl
 .simp[kg,C]
 .have h1:=n.r p _ r t hr;simp[ey,dL,h1,Ob.rows,ir,hu,cut];rfl
theorem K_ {ids:List Nat} (h:ids.Nodup) {i j:Nat} {a:Nat} (B:ids[i]? = some a) (D:ids[j]? = some a):i=j:=by
 have h1:=(ζe.1 B);have t:=(ζe.1 D);obtain⟨h1,e1⟩:=h1;obtain⟨t,e2⟩:=t;exact(List.getElem_inj h).1 (e1.trans e2.symm)
theorem kP.set (n:kP H w o ids rows) {p j id:Nat} {r:List V} {u:V} (hr:rows[p]? = some r) (J:j<r.length) (B:ids[p]? = some id) (hu:V.one u=true) (hc:u.cells=[u]) :
 ∃H',eF H (.store 1) [.hptr id j 0,u]=some (.undef,H')/\kP H' w o ids (rows.set p (r.set j u))/\H'.length=H.length/\(∀i,i≠id->H'[i]? = H[i]?):=by
 have L:=(ζe.1 hr).1;have t:rows≠[]:=by intro e;subst e;simp at hr
 have h1:=n.r p id r B hr;have O:id<H.length:=(ζe.1 h1).1;have C:(ir r).set j [u]=ir (r.set j u):=by simp[ir,List.map_set]
 have D:o≠id:=λe=>n.ne t (e▸List.mem_of_getElem? B)
 refine⟨H.set id (.row 1 (ir (r.set j u))),?_,⟨?_,λ_=>?_,by simp[n.len],λi G Q A z=>?_,n.nd,λ_=>n.ne t⟩,by simp,λi A=>List.getElem?_set_ne (Ne.symm A)⟩
 .have S:(ir r)[j]? = some [r[j]]:=by simp[ir,J]
  simp only[eF,h1,S,hc,List.length_singleton,Nat.zero_add,Nat.le_refl,List.all_cons,hu,List.all_nil,Bool.and_self,and_self,if_true,List.take_zero,List.nil_append];rw[<-C];simp
 .rw[n.v];have:rows.set p (r.set j u)≠[]:=by intro e;apply t;simpa using e
  rw[if_neg t,if_neg this,List.length_set]
 .rw[List.getElem?_set_ne (Ne.symm D),F9 hr (by simp)];exact n.ob t
 .by_cases e:i=p
  .subst e;rw[B]at A;cases A;rw[List.getElem?_set_self L]at z;cases z;rw[List.getElem?_set_self O]
  .rw[List.getElem?_set_ne (Ne.symm e)]at z;have I:id≠G:=λT=>e (K_ n.nd (T▸A) B)
   rw[List.getElem?_set_ne I];exact n.r i G Q A z
end
structure jm (H:bf) (w:V) (l:List (List V)) (id:Nat):Prop where
 c:∀c∈l,c.length=2/\c.all V.one=true
 v:(w=.bB/\l=[])\/∃off xs,w=.hsl id 2 off l.length/\H[id]? = some (.row 2 xs)/\off+l.length<=xs.length/\(xs.drop off).take l.length=l
section
variable {H H':bf} {w:V} {l:List (List V)} {id:Nat}
theorem jm.heap (n:jm H w l id) (h:∀off n,w=.hsl id 2 off n->H'[id]? = H[id]?):jm H' w l id:=
 ⟨n.c,n.v.imp (λh=>h) λ⟨off,t,e1,e2,e3,e4⟩=>⟨off,t,e1,by rw[h _ _ e1];exact e2,e3,e4⟩⟩
theorem jm.lt (n:jm H w l id) {off m:Nat} (h:w=.hsl id 2 off m):id<H.length:=by
 rcases n.v with⟨e,_⟩|⟨_,t,_,e2,_⟩
 .rw[e]at h;cases h
 .exact(ζe.1 e2).1
theorem jm.more (n:jm H w l id) (X:bf):jm (H++X) w l id:=n.heap λ_ _ e=>List.getElem?_append_left (n.lt e)
theorem jm.len (n:jm H w l id):l_ w=some (.int .i64 l.length):=by
 rcases n.v with⟨rfl,rfl⟩|⟨off,t,rfl,_⟩ <;> rfl
theorem jm.get (n:jm H w l id) {i:Nat} {c:List V} (hc:l[i]? = some c):∃p,kg 2 w (i:Int)=some p/\ey H (.load 2 true) [p]=some (.agg c):=by
 have u:=(ζe.1 hc).1;have t:=(n.c c (List.mem_of_getElem? hc)).1;rcases n.v with⟨_,rfl⟩|⟨off,z,rfl,e2,e3,e4⟩
 .simp at hc
 .refine⟨.hptr id (off+i) 0,by simp[kg,u],?_⟩
  have:z[off+i]? = some c:=by
   rw[<-e4,List.getElem?_take,if_pos u,List.getElem?_drop]at hc;exact hc
  simp[ey,dL,e2,Ob.rows,this,cut,<-t];rfl
theorem jm.tail {c:List V} (n:jm H w (c::l) id):∃w',gp 2 w (some 1) none=some w'/\jm H w' l id/\∃off m B,w=.hsl id 2 off m/\w'=.hsl id 2 B l.length:=by
 rcases n.v with⟨_,e⟩|⟨off,t,rfl,e2,e3,e4⟩
 .cases e
 .refine⟨.hsl id 2 (off+1) l.length,?_,⟨λc hc=>n.c c (List.mem_cons_of_mem _ hc),.inr ⟨off+1,t,rfl,e2,by simp at e3;omega,?_⟩⟩,⟨_,_,_,rfl,rfl⟩⟩
  .simp[gp,dD];omega
  .have u:(t.drop off).drop 1=t.drop (off+1):=by rw[List.drop_drop]
   rw[<-u];have:=congrArg (List.drop 1) e4;rw[List.drop_take]at this;simpa using this
theorem jm.push (n:jm H w l id) {c:List V} (hc:c.length=2/\c.all V.one=true) (B:l.length+1<=2147483648) :
 ∃H',eF (H++[.row 2 [c]]) (.append 2) [w,.hsl H.length 2 0 1]=some (.hsl (H.length+1) 2 0 (l.length+1),H')/\jm H' (.hsl (H.length+1) 2 0 (l.length+1)) (l++[c]) (H.length+1)/\H'.length=H.length+2/\(∀i,i<H.length->(∀off m,w=.hsl id 2 off m->i≠id)->H'[i]? = H[i]?):=by
 have e2:dh (H++[.row 2 [c]]) 2 (.hsl H.length 2 0 1)=some [c]:=by simp[dh,Ob.rows]
 have t:∀c'∈l++[c],c'.length=2/\c'.all V.one=true:=λc' h=>by
  rcases List.mem_append.1 h with h|h
  .exact n.c c' h
  .simp at h;subst h;exact hc
 rcases n.v with⟨rfl,rfl⟩|⟨off,C,rfl,g2,g3,g4⟩
 .have e1:dh (H++[.row 2 [c]]) 2 .bB=some []:=rfl;refine⟨H++[.row 2 [c]]++[.row 2 [c]],?_,⟨t,.inr ⟨0,[c],rfl,by simp,by simp,rfl⟩⟩,by simp,λi z _=>by rw[List.append_assoc,List.getElem?_append_left z]⟩
  simp only[eF,e1,e2,gb,List.length_nil,List.length_singleton,Option.map_some];simp
 .have u:=(ζe.1 g2).1;have e1:dh (H++[.row 2 [c]]) 2 (.hsl id 2 off l.length)=some l:=by
   simp only[dh,if_true,List.getElem?_append_left u,g2,ζb,Ob.rows,g3,g4]
  have A:gb (H++[.row 2 [c]]) (.hsl id 2 off l.length)=some (List.set (H++[Ob.row 2 [c]]) id Ob.dead):=by
   simp only[gb,List.getElem?_append_left u,g2]
  refine⟨List.set (H++[Ob.row 2 [c]]) id Ob.dead++[Ob.row 2 (l++[c])],?_,⟨t,.inr ⟨0,l++[c],by simp,by simp,by simp,List.take_of_length_le (by simp)⟩⟩,by simp,λi z h=>?_⟩
  .simp only[eF,e1,e2,A,List.length_singleton,B,if_true,Option.map_some,ζi]
  .rw[List.getElem?_append_left (by simp;omega),List.getElem?_set_ne (Ne.symm (h _ _ rfl)),List.getElem?_append_left z]
end
noncomputable def Cg (rs:List RV):Out×St->Option bD
 | (.exit _,_)=>none
 | (_,st)=>(kV st rs).bind λl=>match l with
  | [.own d]=>bg st.m d
  | _=>none
theorem Tv {S:Sys} {c:cg} {rs:List RV} {rc:RC} {st:St} {ob:bD} (h:jZ S c (Cg rs) rc [] st=some ob):∃o st' d,cu S c rc st=some (o,st')/\(∀id,o≠.exit id)/\kV st' rs=some [.own d]/\bg st'.m d=some ob:=by
 rw[qn]at h;obtain⟨⟨o,st'⟩,h1,t⟩:=ζg.1 h;have w:∀id,o≠.exit id:=by rintro id rfl;simp[Cg]at t
 have z:(kV st' rs).bind (λl=>match l with|[.own d]=>bg st'.m d|_=>none)=some ob:=by
  cases o with
  | exit id=>exact absurd rfl (w id)
  | norm=>exact t
  | ret=>exact t
 obtain⟨l,A,u⟩:=ζg.1 z;split at u
 .exact⟨o,st',_,h1,w,A,u⟩
 .cases u
theorem QT {S:Sys} {T:pF} (O:pP S T) (U:∀f a b xs,S.items f a b=some xs->eU S f a b xs) {f:FuncId} {rf:RF} (W:T f=some rf) {B:List V} (hg:V.cq B=true) (Y:B.length<=rf.na) {k:Fl} {es:Nat} {xs:List (List V)}
 (hx:∀x∈xs,x.all V.scalar=true) (hk:k=.row\/k=.nil/\xs=[]) (h:jZ S (c8 S T) (Cg rf.rs) rf.body [] (start (B.map .v) [])=some (.sl k es xs)) :
 ∃n y H',run S.E n (.fn f) B []=some (y,H')/\((k=.nil/\y=.bB)\/(∃id,y=.hsl id es 0 xs.length/\H'[id]? = some (.row es xs))):=by
 obtain⟨o,st',d,h1,L,C,D⟩:=Tv h;have hc:c8 S T f (B.map .v) []=some ([.own d],st'.m):=by
  rw[ue W];unfold mY;rw[if_pos (by simpa using Y),h1]
  cases o with
  | exit id=>exact absurd rfl (L id)
  | norm=>simp only[C,Option.map_some]
  | ret=>simp only[C,Option.map_some]
 obtain⟨Q,r1⟩:=uR hg;obtain⟨n,y,H2,ν',Z',st2,F',G,g1,rfl,g3,g4,g5,_⟩:=vg O U f _ _ _ _ hc _ _ B [] (.inr rfl) Q r1;obtain⟨z,zs,rfl,e1,e2⟩:=g4.inv;have:=e2.cK;subst this;refine⟨n,_,H2,g1,?_⟩
 cases e1 with
 | own d y X=>
  obtain⟨k',Z,aa,e,t⟩:=X _ D;cases e;have u:=g5.obj d _ (by rw[g3];exact D)
  rcases hk with rfl|⟨rfl,rfl⟩
  .right;simp only[dI,cw,if_true]at u;obtain⟨G,q1,q2,A,q4,w⟩:=u;obtain⟨w,q6⟩:=w trivial;rw[w,List.drop_zero,<-q6,List.take_of_length_le (Nat.le_refl _)]at A;have:xs=G:=by
    refine List.ext_getElem A.1 λi p q=>?_
    have I:=A.2 i _ _ (ζd p) (ζd q);refine List.ext_getElem I.1 λj J q'=>?_
    have hj:=I.2 j _ _ (ζd J) (ζd q');exact((hj.scalar).1 (List.all_eq_true.1 (hx _ (List.getElem_mem p)) _ (List.getElem_mem J))).symm
   subst this;refine⟨(ν' d).1,?_,q1⟩;show result [_]=_;rw[t];simp[result,qm,w]
  .left;exact⟨rfl,by show result [_]=_;rw[t];rfl⟩
theorem Eg {E:Env} {f:FuncId} {B:List V} {l:List (List V)} {y:V} {H1:bf} (hk:E.own f=true) (hg:V.cq B=true) (D:∀c∈l,c.length=2/\c.all V.one=true/\c.all V.scalar=true)
 (hr:∃n,∀k,n<=k->run E k (.fn f) B []=some (y,H1)) (G:(l=[]/\y=.bB)\/(∃id,y=.hsl id 2 0 l.length/\H1[id]? = some (.row 2 l))) (H:bf) :
 ∃w X id,(∃n,∀k,n<=k->eH E (run E k) f B H=some (w,H++X))/\jm (H++X) w l id/\(∀off m,w=.hsl id 2 off m->id=H.length):=by
 obtain⟨n,hr⟩:=hr;have z:∀{k:Nat} {l:List V},V.cq l=true->borrows k H l=some l:=by
  intro k l;unfold borrows
  induction l with
  | nil=>intro _;rfl
  | cons a l A=>
   intro h;have h1:V.good a=true/\V.cq l=true:=by simpa [V.cq]using h
   simp only[gH,dK k H (V.jA h1.1),A h1.2]
 rcases G with⟨rfl,rfl⟩|⟨id,rfl,u⟩
 .refine⟨.bB,[],0,⟨n,λk t=>?_⟩,⟨λc h=>by simp at h,.inl ⟨rfl,rfl⟩⟩,λoff m h=>by cases h⟩
  simp only[eH,hk,if_true,jx,z hg,hr k t,V.scalar,List.append_nil]
 .refine⟨.hsl H.length 2 0 l.length,[.row 2 l],H.length,⟨n,λk t=>?_⟩,⟨λc h=>⟨(D c h).1,(D c h).2.1⟩,.inr ⟨0,l,rfl,by simp,by simp,by simp⟩⟩,λoff m h=>rfl⟩
  have C:(l.all λx=>x.all V.scalar)=true:=List.all_eq_true.2 λc h=>(D c h).2.2
  simp only[eH,hk,if_true,jx,z hg,hr k t,V.scalar,Bool.false_eq_true,if_false,pq,u,C,and_self,Option.map_some]
end Go.VE
namespace Go.VE
variable [bN]
def Sl.whole {α:Type} (s:Sl α):Option (Sl α):=match s with|.part _=>none|s=>some s
structure EC (S:Sys) (c:cg) {α δ:Type} [bt δ] (fn:FuncId) (A:α->List V) (p:α->Option (Sl δ)):Prop where
 k:S.E.keep fn=true
 o:S.E.own fn=true
 h:∀z s,p z=some s->∃e m',c fn ((A z).map .v) []=some ([.own e],m')/\bg m' e=some (cQ s)
 sc:∀x:δ,(cells x).all V.scalar=true
theorem EC.mk' {S:Sys} {T:pF} {α δ:Type} [bt δ] (rf:RF) {fn:FuncId} {A:α->List V} {p:α->Option (Sl δ)} (h:∀z,Le ((p z).bind λr=>some (cQ r)) (b8 S (c8 S T) (Cg rf.rs) (.rc rf.body,[],start ((A z).map .v) [])))
 (B:T fn=some rf:=by kernel_rfl) (hk:S.E.keep fn=true:=by kernel_rfl) (D:S.E.own fn=true:=by kernel_rfl) (G:∀z,(A z).length<=rf.na:=by intro z;exact Nat.le_of_ble_eq_true (by kernel_rfl))
 (sc:∀x:δ,(cells x).all V.scalar=true:=by intro x;rfl):EC S (c8 S T) fn A p where
 k:=hk
 o:=D
 sc:=sc
 h z s t:=by
  have h1:=h z (cQ s) (by rw[t];rfl)
  change jZ S (c8 S T) (Cg rf.rs) rf.body [] (start ((A z).map .v) [])=some (cQ s)at h1;obtain⟨o,st',d,g1,g2,g3,g4⟩:=Tv h1;refine⟨d,st'.m,?_,g4⟩;rw[ue B];unfold mY;rw[if_pos (by simpa using G z),g1]
  cases o with
  | exit id=>exact absurd rfl (g2 id)
  | norm=>simp only[g3,Option.map_some]
  | ret=>simp only[g3,Option.map_some]
section
variable {S:Sys} {c:cg} {β γ δ α:Type} [bt δ] {Q:Out×St->Option β} {e:γ->Option β} {cf:Cf}
theorem Q2 (n u:Nat) {fn:FuncId} {A:α->List V} {p:α->Option (Sl δ)} (F:EC S c fn A p) (z:α) {f:Sl δ->Option γ}
 (h:∀x,(p z).bind Sl.whole=some x->Le ((f x).bind e) (b8 S c Q (nx S c n cf λq=>{ q.st with g:=bJ q.st.g u (.own u),m:=bJ q.st.m u (cQ x) })))
 (J:(gy S c n cf).map (λq=>(q.d,q.k,(bV S.N q.st.g q.az).bind oO,(!q.dr||q.now),q.st.new u))=some (some u,.c,some (fn,(A z).map .v),true,true):=by kernel_rfl):Le ((((p z).bind Sl.whole).bind f).bind e) (b8 S c Q cf):=by
 obtain⟨q,I,hv⟩:=fh J;simp only[ζc]at hv;obtain⟨L,O,T,U,G⟩:=hv;obtain⟨B,g1,g2⟩:=ζg.1 T;refine uE I ?_ h;rw[L,O];intro y C;obtain⟨W,D,C⟩:=ζg.1 C;cases C;obtain⟨s,X,w⟩:=ζg.1 D;obtain⟨e0,m',hc,Y⟩:=F.h z s X;rw[D2 q.dr _ _ _ _ _ B fn ((A z).map .v) g1 g2];have t:gz S c (some u) q.dr (!q.dr||q.now) (f_ q.st.m q.fr) fn ((A z).map .v) q.st=some (.own u,{ q.st with m:=bJ q.st.m u (cQ W) }):=by
  unfold gz;simp only[F.k,F.o,if_true,U,uL,hc,dn,Y,cQ,G]
  cases s with
  | nil=>cases w;rfl
  | emp=>cases w;rfl
  | row l=>
   cases w;have:mQ (rows l)=true:=by
    unfold mQ;rw[List.all_eq_true];intro x Z;obtain⟨a,_,rfl⟩:=List.mem_map.1 Z;exact F.sc a
   simp only[Sl.k,Sl.l,dn,V.cH,this,Bool.and_self,G,if_true];rfl
  | part l=>cases w
 rw[t];rfl
end
end Go.VE
namespace Go.VE
variable [bN]
structure GD where
 m:Nat
 pre:List (Nat×List Gh)
 nd:List (Nat×List Gh×List Gh)
structure GI where
 m:Nat
 i:Nat
 j:Nat
def Ty {α:Type} (l:List (Nat×List α)) (i:Nat):List α:=match l with
 | []=>[]
 | (k,x)::r=>bif Nat.beq k i then x else Ty r i
def xx (l:List (Nat×List Gh×List Gh)) (i:Nat):List Gh×List Gh:=match l with
 | []=>([],[])
 | (k,x)::r=>bif Nat.beq k i then x else xx r i
def HT (m:Nat):List Nat->List Nat
 | []=>[]
 | x::l=>bif Nat.beq (m % 2) 1 then x::HT (m / 2) l else HT (m / 2) l
def Np:List Arg->List Nat
 | []=>[]
 | .s n::r=>n::Np r
 | _::r=>Np r
def Sq (o:RO):List Nat:=(match o.dst with|some d=>[d]|none=>[])++(match o.gd with|some g=>[g.1]|none=>[])++Np o.az
def TI (G:GD) (s:GI) (o:RO):RO:={ o with dead:=HT (bif Nat.beq (s.m % 16) 15 then s.m / 16 % 65536 else s.m % 16) (Sq o),pre:=Ty G.pre s.i }
def GI.op (s:GI):GI:=⟨bif Nat.beq (s.m % 16) 15 then s.m / 1048576 else s.m / 16,s.i+1,s.j⟩
def xz (G:GD):List RO->GI->List RO×GI
 | [],s=>([],s)
 | o::r,s=>(TI G s o::(xz G r s.op).1,(xz G r s.op).2)
def xw:List Gh->RC->RC
 | [],c=>c
 | g::l,c=>.gh g (xw l c)
def KA:List Gh->RC->RC
 | [],c=>c
 | g::l,c=>KA l (.hg c g)
def GI.nd (s:GI):GI:=⟨s.m,s.i,s.j+1⟩
def iE (G:GD):RC->GI->RC×GI
 | .seq a b,s=>(xw (xx G.nd s.j).1 (.seq (iE G a s.nd).1 (iE G b (iE G a s.nd).2).1),(iE G b (iE G a s.nd).2).2)
 | .cond x a b,s=>(xw (xx G.nd s.j).1 (.cond x (iE G a s.nd).1 (iE G b (iE G a s.nd).2).1),(iE G b (iE G a s.nd).2).2)
 | .block id a,s=>(xw (xx G.nd s.j).1 (.block id (iE G a s.nd).1),(iE G a s.nd).2)
 | .loop a,s=>(xw (xx G.nd s.j).1 (.loop (KA (xx G.nd s.j).2 (iE G a s.nd).1)),(iE G a s.nd).2)
 | .each g ps a b,s=>(xw (xx G.nd s.j).1 (.each g ps (iE G a s.nd).1 (KA (xx G.nd s.j).2 (iE G b (iE G a s.nd).2).1)),(iE G b (iE G a s.nd).2).2)
 | .ops l,s=>(xw (xx G.nd s.j).1 (.ops (xz G l s.nd).1),(xz G l s.nd).2)
 | .nR l,s=>(xw (xx G.nd s.j).1 (.nR (xz G l s.nd).1),(xz G l s.nd).2)
 | .gh g c,s=>(.gh g c,s)
 | .hg c g,s=>(.hg c g,s)
 | c,s=>(xw (xx G.nd s.j).1 c,s.nd)
theorem jJ (c:RC):∀l,erase (xw l c)=erase c
 | []=>rfl
 | g::l=>by simp only[xw,erase,jJ c l]
theorem xO:∀l (c:RC),erase (KA l c)=erase c
 | [],c=>rfl
 | g::l,c=>by simp only[KA,xO l,erase]
theorem wV (G:GD):∀(l:List RO) s,((xz G l s).1).map RO.strip=l.map RO.strip
 | [],s=>rfl
 | o::r,s=>by simp only[xz,List.map_cons,wV G r];rfl
theorem kn (G:GD):∀(c:RC) s,erase (iE G c s).1=erase c
 | .seq a b,s=>by simp only[iE,jJ,erase,kn G a,kn G b]
 | .cond x a b,s=>by simp only[iE,jJ,erase,kn G a,kn G b]
 | .block id a,s=>by simp only[iE,jJ,erase,kn G a]
 | .loop a,s=>by simp only[iE,jJ,erase,xO,kn G a]
 | .each g ps a b,s=>by simp only[iE,jJ,erase,xO,kn G a,kn G b]
 | .ops l,s=>by simp only[iE,jJ,erase,wV]
 | .nR l,s=>by simp only[iE,jJ,erase,wV]
 | .gh g c,s=>rfl
 | .hg c g,s=>rfl
 | .skip,s=>by simp only[iE,jJ]
 | .ret,s=>by simp only[iE,jJ]
 | .exit _,s=>by simp only[iE,jJ]
theorem Gy {X:CX} {dr:Bool} {ops:List Oper} {i:Nat} {o:Oper} {r:RO} (h:lZ X dr ops i o=some r):r.strip=r:=by
 obtain⟨_,_,_,_,_,_,rfl⟩:=BS h;rfl
theorem vA {X:CX} {dr:Bool} {ops:List Oper}:∀{l:List Oper} {i:Nat} {r:List RO},jR X dr ops i l=some r->r.map RO.strip=r
 | [],i,r,h=>by cases h;rfl
 | o::l,i,r,h=>by
  simp only[jR]at h;split at h
  .rename_i a b B D;cases h;simp only[List.map_cons,Gy B,vA D]
  .cases h
theorem Gk {X:CX}:∀{c:Code} {ro:Bool} {r:RC},bH X ro c=some r->erase r=r:=by
 intro c
 induction c with
 | region _ ops dr=>
  intro ro r h;simp only[bH]at h;split at h
  .split at h
   .obtain⟨l,h1,rfl⟩:=ζf.1 h;simp only[erase,vA h1]
   .cases h
  .obtain⟨l,h1,rfl⟩:=ζf.1 h;simp only[erase,vA h1]
 | seq a b t u=>
  intro ro r h;simp only[bH]at h;split at h
  .rename_i h1 w;cases h;simp only[erase,t h1,u w]
  .cases h
 | cond c a b t u=>
  intro ro r h;simp only[bH]at h;split at h
  .rename_i h1 w;cases h;simp only[erase,t h1,u w]
  .cases h
 | block id a t=>
  intro ro r h;simp only[bH]at h;obtain⟨l,h1,rfl⟩:=ζf.1 h;simp only[erase,t h1]
 | loop a t=>
  intro ro r h;simp only[bH]at h;obtain⟨l,h1,rfl⟩:=ζf.1 h;simp only[erase,t h1]
 | rangeFunc g ps a b t u=>
  intro ro r h;simp only[bH]at h;split at h
  .cases h
  .split at h
   .rename_i h1 w;cases h;simp only[erase,t h1,u w]
   .cases h
 | _=>intro ro r h;first|cases h;rfl|(simp only[bH]at h;cases h;rfl)|(simp only[bH]at h;cases h)
def M3 (E:Env) (nm:FuncId->Option Nat) (G:FuncId->Option GD):pF:=λf=>
 (G f).bind λg=>(E.ft f).bind λt=>(bH ⟨E,nm,t.ntmps⟩ false t.body).bind λc=>(t.results.mapM (zk E)).bind λrs=>some ⟨t.ntmps,rs,(iE g c ⟨g.m,0,0⟩).1⟩
theorem MP {E:Env} {nm:FuncId->Option Nat} {G:FuncId->Option GD} {f:FuncId} {rf:RF} (h:M3 E nm G f=some rf):∃fi,E.ft f=some fi/\wz E nm fi rf:=by
 unfold M3 at h;obtain⟨g,_,h⟩:=ζg.1 h;obtain⟨fi,h1,h⟩:=ζg.1 h;obtain⟨c,t,h⟩:=ζg.1 h;obtain⟨rs,u,h⟩:=ζg.1 h;cases h;exact⟨fi,h1,by rw[t,kn,Gk t],u,rfl⟩
theorem yN:∀(g:FuncId) (s:Nat),some g=some s->(λn=>n) s=g:=λ_ _ h=>(Option.some.inj h).symm
def ud (o:Option RF):RF:=o.getD ⟨0,[],.skip⟩
def tb (T:pF) (f:FuncId):RC:=(ud (T f)).body
def tr (T:pF) (f:FuncId):List RV:=(ud (T f)).rs
theorem E0 {o:Option RF} (h:o.isSome=true):o=some (ud o):=by cases o with
 | none=>cases h
 | some r=>rfl
class jW (δ:Type) where
 e:δ->List V
instance Ul {α:Type} [bt α]:jW α:=⟨λx=>[enc x]⟩
instance Uo:jW Unit:=⟨λ_=>[]⟩
instance Um {α β:Type} [bt α] [jW β]:jW (α×β):=⟨λx=>enc x.1::jW.e x.2⟩
@[simp] theorem T3 {α:Type} [bt α] (x:α):jW.e x=[enc x]:=rfl
@[simp] theorem T0 (x:Unit):jW.e x=[]:=rfl
@[simp] theorem T4 {α β:Type} [bt α] [jW β] (x:α×β):jW.e x=enc x.1::jW.e x.2:=rfl
class Fc (S:Sys) (c:cg) {δ:Type} (m:Option δ) where
 n:FuncId
 az:List V
 E:δ->List V
 sc:Bool
 F:jL S c n (λ_:Unit=>az) E (λ_=>m) sc
section
variable {S:Sys} {T:pF} {δ:Type} {m:Option δ}
theorem jL.LX {E:δ->List V} (fn:FuncId) (az:List V) (h:Le (m.bind λr=>some (E r)) (b8 S (c8 S T) (pg (tr T fn)) (.rc (tb T fn),[],start (az.map .v) [])))
 (B:(T fn).isSome=true) (hk:S.E.keep fn=false) (D:Nat.ble az.length (ud (T fn)).na=true)
 {sc:Bool} (s:sc=true->∀r,(result (E r)).scalar=true):jL S (c8 S T) fn (λ_:Unit=>az) E (λ_=>m) sc where
 k:=hk
 h z:=TT (E0 B) (Nat.le_of_ble_eq_true D) h
 s:=s
abbrev Fc.NE (E:δ->List V) (fn:FuncId) (az:List V) (h:Le (m.bind λr=>some (E r)) (b8 S (c8 S T) (pg (tr T fn)) (.rc (tb T fn),[],start (az.map .v) [])))
 (B:(T fn).isSome=true:=by kernel_rfl) (hk:S.E.keep fn=false:=by kernel_rfl) (D:Nat.ble az.length (ud (T fn)).na=true:=by kernel_rfl)
 : Fc S (c8 S T) m:=
 ⟨fn,az,E,false,jL.LX fn az h B hk D λh=>nomatch h⟩
abbrev Fc.M [jW δ] (fn:FuncId) (az:List V) (h:Le (m.bind λr=>some (jW.e r)) (b8 S (c8 S T) (pg (tr T fn)) (.rc (tb T fn),[],start (az.map .v) [])))
 (B:(T fn).isSome=true:=by kernel_rfl) (hk:S.E.keep fn=false:=by kernel_rfl) (D:Nat.ble az.length (ud (T fn)).na=true:=by kernel_rfl)
 (s:∀r:δ,(result (jW.e r)).scalar=true:=by intro r;kernel_rfl):Fc S (c8 S T) m:=
 ⟨fn,az,jW.e,true,jL.LX fn az h B hk D λ_=>s⟩
abbrev Fc.N [jW δ] (fn:FuncId) (az:List V) (h:Le (m.bind λr=>some (jW.e r)) (b8 S (c8 S T) (pg (tr T fn)) (.rc (tb T fn),[],start (az.map .v) [])))
 (B:(T fn).isSome=true:=by kernel_rfl) (hk:S.E.keep fn=false:=by kernel_rfl) (D:Nat.ble az.length (ud (T fn)).na=true:=by kernel_rfl)
 : Fc S (c8 S T) m:=
 ⟨fn,az,jW.e,false,jL.LX fn az h B hk D λh=>nomatch h⟩
end
abbrev Fc.of {S:Sys} {c:cg} {α δ:Type} {p:α->Option δ} {n:FuncId} {A:α->List V} {E:δ->List V} {b:Bool} (z:α) (F:jL S c n A E p b):Fc S c (p z):=⟨n,A z,E,b,⟨F.k,λ_=>F.h z,F.s⟩⟩
theorem jL.zH {S:Sys} {c:cg} {α δ:Type} {p:α->Option δ} {n:FuncId} {A:α->List V} {E:δ->List V} {b:Bool} (F:∀z,Fc S c (p z)) (i:α) (B:∀z,(F z).n=n) (G:∀z,(F z).az=A z) (D:∀z,(F z).E=E) (J:∀z,(F z).sc=b):jL S c n A E p b where
 k:=by rw[<-B i];exact(F i).F.k
 h z:=by rw[<-B z,<-G z,<-D z];exact(F z).F.h ()
 s:=by rw[<-J i,<-D i];exact(F i).F.s
theorem tg.zH {S:Sys} {c:cg} {α δ:Type} {p:α->Option δ} {g:FuncId} {w e:List V} {A:α->List V} {R:δ->List V} {b:Bool} [i:Inhabited α] [F:∀z,Fc S c (p z)] (B:∀z,(F z).n=g:=by intro _;kernel_rfl) (D:∀z,(F z).az=w++A z++e:=by intro _;kernel_rfl)
 (G:∀z,(F z).E=R:=by intro _;kernel_rfl) (J:∀z,(F z).sc=b:=by intro _;kernel_rfl):tg S c g w e A R p b:=
 ⟨jL.zH F default B D G J⟩
section
variable {S:Sys} {c:cg} {β γ δ α:Type} {Q:Out×St->Option β} {e:γ->Option β} {cf:Cf}
theorem xN (n:Nat) {m:Option β} (h:Le m (b8 S c Q (iP S c n cf))) (B:gD S c n cf.1 cf.2.1 cf.2.2=some (iP S c n cf):=by kernel_rfl):Le m (b8 S c Q cf):=B_ B h
theorem bM (n:Nat) {m:Option δ} [F:Fc S c m] {f:δ->Option γ} (h:∀x,m=some x->Le ((f x).bind e) (b8 S c Q (nx S c n cf λp=>cZ p.st p.d (.v (result (F.E x))))))
 (B:(gy S c n cf).map (λp=>(p.k,(bV S.N p.st.g p.az).bind oO,(!p.dr||p.now||f_ p.st.m p.fr [])))=some (.c,some (F.n,F.az.map .v),true):=by kernel_rfl):Le ((m.bind f).bind e) (b8 S c Q cf):=Bh n F.F () h B
theorem mw (n:Nat) {m:Option δ} [F:Fc S c m] {f:δ->Option γ} (h:∀x,m=some x->Le ((f x).bind e) (b8 S c Q (nx S c n cf λp=>cZ p.st p.d (.v (result (F.E x))))))
 (B:(gy S c n cf).map (λp=>(p.k,((bV S.N p.st.g p.az).bind oO).bind λq=>(mS (iC p.st.m 8) q.2).map λvs=>(q.1,vs,((!p.dr||p.now)||f_ p.st.m p.fr q.2))))=some (.c,some (F.n,F.az,true)):=by kernel_rfl) (D:F.sc=true:=by kernel_rfl):Le ((m.bind f).bind e) (b8 S c Q cf):=
 R6 n (t D F.F) () h B
where
 t {b:Bool} {fn:FuncId} {az:List V} {E:δ->List V} {m:Option δ} (h:b=true) (F:jL S c fn (λ_:Unit=>az) E (λ_=>m) b):jL S c fn (λ_:Unit=>az) E (λ_=>m) true:=h▸F
def Oo (cf:Cf):RC:=match cf.1 with|.rc (.loop c)=>c|_=>.skip
def BO (cf:Cf):Arg×List Nat×RC×RC:=match cf.1 with|.rc (.each g ps a b)=>(g,ps,a,b)|_=>(.s 0,[],.skip,.skip)
theorem d_ {σ ε ρ:Type} {step:σ->Option (Fw σ ε ρ)} (n:Nat) (B:σ->St) (D:ε->Nat×St) (G:ρ->St) {s:σ} {J:ε->Option γ} {fr:ρ->Option γ}
 (h:∀s,Le ((step s).bind λw=>some (Fw.out B D G w)) (b8 S c some (.rc (Oo (iP S c n cf)),[],B s)))
 (O:∀x,Le ((J x).bind e) (b8 S c Q (.ex (D x).1,(iP S c n cf).2.1,(D x).2))) (hr:∀b,Le ((fr b).bind e) (Q (.ret,G b)))
 (U:gD S c n cf.1 cf.2.1 cf.2.2=some (.rc (.loop (Oo (iP S c n cf))),(iP S c n cf).2.1,B s):=by kernel_rfl):Le (((bO step s).bind (Fw.elim J fr)).bind e) (b8 S c Q cf):=
 EK U h O hr
theorem fD {σ ε:Type} {step:σ->Option (Fw σ ε Empty)} (n:Nat) (B:σ->St) (D:ε->Nat×St) {s:σ} {G:ε->Option γ} {fr:Empty->Option γ}
 (h:∀s,Le ((step s).bind λw=>some (Fw.out B D (λe=>Empty.elim e) w)) (b8 S c some (.rc (Oo (iP S c n cf)),[],B s)))
 (J:∀x,Le ((G x).bind e) (b8 S c Q (.ex (D x).1,(iP S c n cf).2.1,(D x).2)))
 (O:gD S c n cf.1 cf.2.1 cf.2.2=some (.rc (.loop (Oo (iP S c n cf))),(iP S c n cf).2.1,B s):=by kernel_rfl):Le (((bO step s).bind (Fw.elim G fr)).bind e) (b8 S c Q cf):=
 EK O h J λb=>Empty.elim b
theorem D0 {σ ε ρ:Type} {f:FuncId} {x y:List V} {items:List α} {eI:α->List V} {step:α->σ->Option (Fw σ ε ρ)} (n:Nat) (gt:Tb SV) (B:σ->Tb bD) (D:ε->Nat×Tb bD) (G:ρ->Tb bD) {s:σ} {fn:σ->Option γ} {J:ε->Option γ} {fr:ρ->Option γ}
 (O:S.items f x y=some (items.map eI))
 (h:∀x s,Le ((step x s).bind λw=>some (Fw.tV B D G w)) (b8 S c (w6 S c (BO (iP S c n cf)).2.2.2) (.rc (BO (iP S c n cf)).2.2.1,[],⟨uT gt (BO (iP S c n cf)).2.1 ((eI x).map .v),B s,oA gt,[],true,0⟩)))
 (U:∀s,Le ((fn s).bind e) (b8 S c Q (.nx,(iP S c n cf).2.1,bF gt (B s)))) (W:∀x,Le ((J x).bind e) (b8 S c Q (.ex (D x).1,(iP S c n cf).2.1,bF gt (D x).2))) (hr:∀b,Le ((fr b).bind e) (Q (.ret,bF gt (G b))))
 (Y:∀x,(eI x).length=(BO (iP S c n cf)).2.1.length:=by intro _;kernel_rfl) (hg:pe S.N gt (BO (iP S c n cf)).1=some (.v (.clo f x y)):=by kernel_rfl)
 (hL:gD S c n cf.1 cf.2.1 cf.2.2=some (.rc (.each (BO (iP S c n cf)).1 (BO (iP S c n cf)).2.1 (BO (iP S c n cf)).2.2.1 (BO (iP S c n cf)).2.2.2),(iP S c n cf).2.1,bF gt (B s)):=by kernel_rfl):Le (((m_ step items s).bind (Fw.uW fn J fr)).bind e) (b8 S c Q cf):=
 R9 hL hg O Y h U W hr
noncomputable def R8 (n k:Nat) (B:List Nat) (d:Nat) (S:Sys) (c:cg) (cf:Cf) (v:SV):Cf:=jmp k [] (iP S c n cf) { (iP S c n cf).2.2 with g:=bJ (nW B (iP S c n cf).2.2.g) d v }
theorem cF [bt δ] (n k:Nat) (B:List Nat) (d:Nat) {m:Option δ} {f:δ->Option γ} (D:Le (m.bind λr=>b8 S c Q (R8 n k B d S c cf (cv r))) (b8 S c Q cf))
 (h1:∀r,Le ((f r).bind e) (b8 S c Q (R8 n k B d S c cf (cv r)))):Le ((m.bind f).bind e) (b8 S c Q cf):=Oh _ D h1
end
end Go.VE
namespace Go.VE
variable [bN]
instance {n:Nat}:DecidableEq (bP n Int):=λa b=>if h:a.l=b.l then .isTrue (by cases a;cases b;cases h;rfl)else .isFalse λe=>h (by rw[e])
theorem tG:∀l:List Int,gE ((l.map (cells (α:=Int))).flatten)=some l
 | []=>rfl
 | a::l=>by
  show gE (.int .i64 a::(l.map (cells (α:=Int))).flatten)=_;simp only[gE,tG l,Option.map_some]
theorem CO (l:List Int):(l.map (cells (α:=Int))).flatten=l.map (V.int .i64):=by
 induction l with
 | nil=>rfl
 | cons a l t=>simp only[List.map_cons,List.flatten_cons,t];rfl
instance {n:Nat}:Key (bP n Int) where
 kk:=.ints n
 ok a:=by
  show ((a.l.map (cells (α:=Int))).flatten.length==n&&(gE (a.l.map (cells (α:=Int))).flatten).isSome)=true;rw[tG,CO,List.length_map,a.len];simp
 eq a b:=by
  show jH (a.l.map (cells (α:=Int))).flatten (b.l.map (cells (α:=Int))).flatten=_;unfold jH;rw[tG,tG];simp only[a.len,b.len,if_true]
  congr 1
  rw[Bool.eq_iff_iff,beq_iff_eq,decide_eq_true_iff];exact⟨λh=>by cases a;cases b;cases h;rfl,λh=>by rw[h]⟩
def lJ (n:Nat) (s:Sl Int):bP n Int:=⟨lY n s.l,by unfold lY;simp;omega⟩
theorem vt:∀l:List Int,o6 (l.map (cells (α:=Int)))=some l
 | []=>rfl
 | a::l=>by
  show o6 ([.int .i64 a]::l.map (cells (α:=Int)))=_;simp only[o6,vt l,Option.map_some]
theorem MW (n:Nat) (s:Sl Int):s7 n [enc s]=some (enc (lJ n s)):=by
 have e:enc (lJ n s)=.agg (wG n s.l):=by
  show V.agg ((lJ n s).l.map (cells (α:=Int))).flatten=_;rw[CO];rfl
 rw[e]
 cases s with
 | nil=>rfl
 | emp=>rfl
 | row l=>
  show ((o6 (l.map (cells (α:=Int)))).map λl=>V.agg (wG n l))=_
  rw[vt];rfl
 | part l=>
  show ((o6 (l.map (cells (α:=Int)))).map λl=>V.agg (wG n l))=_
  rw[vt];rfl
theorem K8 {E:Env} {f:FuncId} {az:List V} {y:V} (B:V.good y=true) (h:∃n H',run E n (.fn f) az []=some (y,H')):vz E f az y:=by
 obtain⟨n,H',h⟩:=h;exact⟨n,y,H',λ_=>False,h,.same _ B,λ_ h=>h.elim,⟨λ_ _ _ h=>h.elim⟩⟩
theorem KO {E:Env} {f:FuncId} {az:List V} {y:V} (h1:E.ft f=none) (B:E.sort f=false) (D:E.known f az=some y):run E 1 (.fn f) az []=some (y,[]):=by
 simp only[run,iR,h1,B,D];rfl
theorem OP {E:Env} {f n:Nat} (h1:E.ft f=none) (B:E.sort f=false) (D:∀az,E.known f az=s7 n az) (s:Sl Int):vz E f [enc s] (enc (lJ n s)):=
 K8 (gY _) ⟨1,[],KO h1 B (by rw[D,MW])⟩
end Go.VE
namespace Go.VE
variable [bN]
def zo (m:Tb bD):SV->Bool
 | .v _|.agg _=>true
 | x=>jV m x
def mB:SV->List SV
 | .v x=>x.cells.map .v
 | .agg l=>l
 | x=>[x]
def yZ (cells:List SV):List (Nat×Nat)->List SV->Option (List SV)
 | [],[]=>some cells
 | (off,size)::pl,v::vs=>if(mB v).length=size/\off+(mB v).length<=cells.length then yZ (cells.take off++mB v++cells.drop (off+(mB v).length)) pl vs else none
 | _,_=>none
theorem Lj (cells:List SV):yZ cells [] []=some cells:=rfl
theorem AR (cells:List SV) (off size:Nat) (pl:List (Nat×Nat)) (v:SV) (vs:List SV):yZ cells ((off,size)::pl) (v::vs) =
 if(mB v).length=size/\off+(mB v).length<=cells.length then yZ (cells.take off++mB v++cells.drop (off+(mB v).length)) pl vs else none:=rfl
theorem Mr (x:V):mB (.v x)=x.cells.map .v:=rfl
theorem I9 (d:Nat):mB (.own d)=[.own d]:=rfl
theorem Kj (d:Nat):mB (.mp d)=[.mp d]:=rfl
theorem I7 (d o:Nat):mB (.ptr d o)=[.ptr d o]:=rfl
theorem MC {m:Tb bD} {v:SV} (h:zo m v=true):vS m v=some (mB v):=by
 cases v <;> first|rfl|(unfold vS;exact if_pos h)|(simp[zo,jV]at h)
theorem Hl {m:Tb bD}:∀{pl:List (Nat×Nat)} {vs cells l:List SV},vs.all (zo m)=true->yZ cells pl vs=some l->qQ m cells pl vs=some l
 | [],[],_,_,_,h=>h
 | [],_::_,_,_,_,h=>by cases h
 | _::_,[],_,_,_,h=>by cases h
 | (off,size)::pl,v::vs,cells,l,B,h=>by
  rw[List.all_cons,ζh]at B;rw[AR]at h;show (match vS m v with|some c=>if c.length=size/\off+c.length<=cells.length then qQ m (cells.take off++c++cells.drop (off+c.length)) pl vs else none|none=>none)=some l
  rw[MC B.1];simp only;split at h
  .rename_i hc;rw[if_pos hc];exact Hl B.2 h
  .cases h
def B5:SV->Bool
 | .v x=>x.one
 | .agg _=>false
 | _=>true
theorem RU (x:V):B5 (.v x)=x.one:=rfl
theorem M4 (d:Nat):B5 (.own d)=true:=rfl
theorem Pd (d:Nat):B5 (.mp d)=true:=rfl
theorem Mz (d o:Nat):B5 (.ptr d o)=true:=rfl
theorem Hx {m:Tb bD}:∀{l:List SV},l.all B5=true->l.all (zo m)=true->l.all (uK m)=true
 | [],_,_=>rfl
 | x::l,h,k=>by
  rw[List.all_cons,ζh]at h k ⊢;refine⟨?_,Hx h.2 k.2⟩;cases x <;> first|exact h.1|exact k.1|(have:=h.1;cases this)
section
variable {S:Sys} {c:cg} {β γ δ α:Type} {Q:Out×St->Option β} {e:γ->Option β} {cf:Cf}
theorem Kq {N:Nat->FuncId} {m:Tb bD} {z:List V} {pl:List (Nat×Nat)} {svs l:List SV} (B:(dn svs).isNone=true) (h:qQ m (z.map .v) pl svs=some l):je N m (.build z pl) svs=some (.agg l):=by
 unfold je
 cases hv:dn svs with
 | some x=>rw[hv]at B;cases B
 | none=>
  have:u5 N m (.build z pl) svs=(qQ m (z.map .v) pl svs).map .agg:=by
   unfold u5;split <;> first|contradiction|(rename_i e _;cases e;rfl)|simp_all
  simp only[this,h,Option.map_some]
theorem SR (n:Nat) (svs l:List SV) (z:List V) (pl:List (Nat×Nat)) {m:Option β} (B:yZ (z.map .v) pl svs=some l) (h:Le m (b8 S c Q (nx S c n cf λp=>cZ p.st p.d (.agg l))))
 (D:(gy S c n cf).map (λp=>(p.k,bV S.N p.st.g p.az,(dn svs).isNone,svs.all (zo p.st.m)))=some (.p (.build z pl),some svs,true,true):=by kernel_rfl):Le m (b8 S c Q cf):=by
 obtain⟨p,t,hv⟩:=fh D;simp only[ζc]at hv;refine t_ t ?_ h;rw[hv.1];exact B3 hv.2.1 rfl (Kq hv.2.2.1 (Hl hv.2.2.2 B))
theorem Sj (n u:Nat) (l:List SV) {m:Option β} (B:l.all B5=true) (h:Le m (b8 S c Q (nx S c n cf λp=>{ p.st with g:=bJ p.st.g u (.ptr u 0),m:=bJ p.st.m u (.box l) })))
 (D:(gy S c n cf).map (λp=>(p.d,p.k,bV S.N p.st.g p.az,p.st.new u,l.all (zo p.st.m)))=some (some u,.a .box,some [.agg l],true,true):=by kernel_rfl):Le m (b8 S c Q cf):=by
 obtain⟨p,t,hv⟩:=fh D;simp only[ζc]at hv;refine t_ t ?_ h;rw[hv.1,hv.2.1,w5,hv.2.2.1];simp only[ζb,hv.2.2.2.1,if_true,mg,Hx B hv.2.2.2.2]
theorem TM [bt α] (n u:Nat) (y x:α) {m:Option β} (h:Le m (b8 S c Q (nx S c n cf λp=>cZ { p.st with m:=bJ p.st.m u (bx x) } p.d (.v .undef))))
 (B:(gy S c n cf).map (λp=>(p.k,bV S.N p.st.g p.az,(!p.dr||p.now),bg p.st.m u))=some (.l (.store (bt.size α)),some [.ptr u 0,cv x],true,some (bx y)):=by kernel_rfl):Le m (b8 S c Q cf):=by
 obtain⟨p,w,hv⟩:=fh B;simp only[ζc]at hv;refine t_ w ?_ h;obtain⟨h1,z,A,C⟩:=hv;rw[h1,tv,z];have t:((cells y).map SV.v).length=bt.size α:=by rw[List.length_map,ez]
 simp only[ζb,A,if_true,kR,C,putCells,ko,ez,nL,t,Nat.zero_add,Nat.le_refl,and_self,Option.map_some,List.take_zero,List.nil_append];rw[List.drop_of_length_le (by rw[t];exact Nat.le_refl _),List.append_nil]
end
section
variable {S:Sys} {c:cg} {β γ δ:Type} {Q:Out×St->Option β} {e:γ->Option β} {cf:Cf} {κ ν:Type} [bt κ] [DecidableEq κ] [Key κ] [bt ν]
structure NV (κ ν:Type) where
 o:Option (Mo κ ν)
 deriving Inhabited
def Rr (m:NV κ ν):V:=match m.o with|none=>.fB|some l=>.fmap (mC l)
theorem KW (m:Mo κ ν):V.rj (mC m)=true:=by
 induction m with
 | nil=>rfl
 | cons x r t=>show V.rj ((enc x.1,enc x.2)::mC r)=true;simp only[V.rj,gY,t,Bool.and_self]
instance:bt (NV κ ν) where
 cells m:=[Rr m]
 agg:=false
 size:=1
 len _:=rfl
 good m:=by
  unfold Rr;split
  .rfl
  .simp only[V.cq,V.good,KW,Bool.and_self]
 one m:=by unfold Rr;split <;> rfl
 plain _:=rfl
theorem G8 (m:NV κ ν):V.one (enc m)=true:=by obtain⟨o⟩:=m;cases o <;> rfl
end
end Go.VE
namespace Go.VE
variable [bN]
theorem jL.scalar {S:Sys} {c:cg} {α δ:Type} {fn:FuncId} {A:α->List V} {E:δ->List V} {p:α->Option δ} {b:Bool} (F:jL S c fn A E p b) (h:∀r,(result (E r)).scalar=true):jL S c fn A E p true:=⟨F.k,F.h,λ_=>h⟩
theorem zD:∀l:List Int,V.cH (l.map (cells (α:=Int))).flatten=true
 | []=>rfl
 | x::l=>by
  show V.cH (.int .i64 x::(l.map (cells (α:=Int))).flatten)=true;simp only[V.cH,V.scalar,zD l,Bool.and_self]
theorem It {n:Nat} (a:bP n Int):(result [enc a]).scalar=true:=zD a.l
end Go.VE
namespace Go.VE
variable [bN]
section
variable {S:Sys} {c:cg} {β γ δ α:Type} [bt α] {Q:Out×St->Option β} {e:γ->Option β} {cf:Cf}
theorem PJ (m:Tb bD) (u:Nat) (x:α) (B:bt.agg α=true) (h:bg m u=some (bx x)):lB m (.load (bt.size α) true) [.ptr u 0]=some (cv x):=by
 have t:((cells x).map SV.v).length=bt.size α:=by rw[List.length_map,ez]
 simp only[lB,h,List.drop_zero];rw[List.take_of_length_le (by rw[t];exact Nat.le_refl _)]
 unfold sj;rw[if_pos t,if_pos rfl,rQ];simp only;rw[<-yQ B]
theorem TV (n u:Nat) (x:α) (B:bt.agg α=true) {m:Option β} (h:Le m (b8 S c Q (nx S c n cf λp=>cZ p.st p.d (cv x))))
 (D:(gy S c n cf).map (λp=>(p.k,bV S.N p.st.g p.az,(!p.dr||p.now||ei p.fr [.ptr u 0]),bg p.st.m u))=some (.r (.load (bt.size α) true),some [.ptr u 0],true,some (bx x)):=by kernel_rfl):Le m (b8 S c Q cf):=by
 obtain⟨p,t,hv⟩:=fh D;simp only[ζc]at hv;obtain⟨h1,w,z,A⟩:=hv;refine t_ t ?_ h;rw[h1,yV,w];simp only[ζb,z,if_true,PJ _ u x B A]
theorem NZ {ω:Type} [bt ω] (n u:Nat) {N:Nat} (a:bP N α) (i:Int) (o:Nat) (x:α) (B:a.at i=some x) (y:α) (w:ω) (D:cells y=(cells x).take o++cells w++(cells x).drop (o+bt.size ω)) {m:Option β} (h:Le m (b8 S c Q (nx S c n cf λp=>cZ { p.st with m:=bJ p.st.m u (bx (a.set i y)) } p.d (.v .undef))))
 (G:(gy S c n cf).map (λp=>(p.k,bV S.N p.st.g p.az,bg p.st.m u,(!p.dr||p.now),Nat.ble (o+bt.size ω) (bt.size α)))=some (.l (.store (bt.size ω)),some [.ptr u (i.toNat*bt.size α+o),cv w],some (bx a),true,true):=by kernel_rfl):Le m (b8 S c Q cf):=by
 obtain⟨p,z,t⟩:=fh G;simp only[ζc]at t;obtain⟨h1,A⟩:=iF z;obtain⟨dr,fr,d,gd,now,O,az,dd,l,fs,st⟩:=p;obtain⟨rfl,C,I,J,L⟩:=t;exact N9 n dr fr (⟨d,gd,now,.l (.store (bt.size ω)),az,dd,[]⟩::l) fs st u a i o x B y (enc w) (by rw[ko];exact D) rfl (by(try dsimp only at *);simp only[h1,A,C,I,J,L,ko,ez,nL]) (by
  simp only[nx,z]at h;exact h)
end
end Go.VE
namespace Go.VE
variable [bN]
noncomputable def DP (rs:List RV):Out×St->Option (bD×List V)
 | (.exit _,_)=>none
 | (_,st)=>(kV st rs).bind λl=>match l with
  | .own d::r=>(bg st.m d).bind λob=>(dn r).map λys=>(ob,ys)
  | _=>none
theorem Cq:∀{l:List SV} {ys:List V},dn l=some ys->l=ys.map .v
 | [],ys,h=>by cases h;rfl
 | .v x::r,ys,h=>by
  simp only[dn]at h;obtain⟨B,h1,rfl⟩:=ζf.1 h;rw[Cq h1];rfl
 | .own _::_,_,h|.ptr ..::_,_,h|.el ..::_,_,h|.mp _::_,_,h|.clo ..::_,_,h|.tup _::_,_,h|.agg _::_,_,h|.yl _::_,_,h=>by cases h
theorem TU {S:Sys} {c:cg} {rs:List RV} {rc:RC} {st:St} {ob:bD} {ys:List V} (h:jZ S c (DP rs) rc [] st=some (ob,ys)):∃o st' d,cu S c rc st=some (o,st')/\(∀id,o≠.exit id)/\kV st' rs=some (.own d::ys.map .v)/\bg st'.m d=some ob:=by
 rw[qn]at h;obtain⟨⟨o,st'⟩,h1,t⟩:=ζg.1 h;have w:∀id,o≠.exit id:=by rintro id rfl;simp[DP]at t
 have z:(kV st' rs).bind (λl=>match l with|.own d::r=>(bg st'.m d).bind λob=>(dn r).map λys=>(ob,ys)|_=>none)=some (ob,ys):=by
  cases o with
  | exit id=>exact absurd rfl (w id)
  | norm=>exact t
  | ret=>exact t
 obtain⟨l,A,u⟩:=ζg.1 z;split at u
 .obtain⟨B,C,D⟩:=ζg.1 u;obtain⟨J,G,I⟩:=ζf.1 D;cases I;exact⟨o,st',_,h1,w,by rw[A,Cq G],C⟩
 .cases u
structure Tq (S:Sys) (c:cg) {δ ε:Type} [bt δ] [jW ε] (m:Option (Sl δ×ε)) where
 n:FuncId
 az:List V
 k:S.E.keep n=true
 o:S.E.own n=true
 h:∀s r,m=some (s,r)->∃e m',c n (az.map .v) []=some (.own e::(jW.e r).map .v,m')/\bg m' e=some (cQ s)
 sc:∀x:δ,(cells x).all V.scalar=true
 sr:∀r:ε,V.cH (jW.e r)=true
abbrev Tq.mk' {S:Sys} {T:pF} {δ ε:Type} [bt δ] [jW ε] {m:Option (Sl δ×ε)} (fn:FuncId) (az:List V) (h:Le (m.bind λr=>some (cQ r.1,jW.e r.2)) (b8 S (c8 S T) (DP (tr T fn)) (.rc (tb T fn),[],start (az.map .v) [])))
 (B:(T fn).isSome=true:=by kernel_rfl) (hk:S.E.keep fn=true:=by kernel_rfl) (D:S.E.own fn=true:=by kernel_rfl) (G:Nat.ble az.length (ud (T fn)).na=true:=by kernel_rfl)
 (sc:∀x:δ,(cells x).all V.scalar=true:=by intro x;rfl) (sr:∀r:ε,V.cH (jW.e r)=true:=by intro r;rfl):Tq S (c8 S T) m where
 n:=fn
 az:=az
 k:=hk
 o:=D
 sc:=sc
 sr:=sr
 h s r u:=by
  have t:=E0 B;have h1:=h (cQ s,jW.e r) (by rw[u];rfl)
  change jZ S (c8 S T) (DP (ud (T fn)).rs) (ud (T fn)).body [] (start (az.map .v) [])=some (cQ s,jW.e r)at h1;obtain⟨o,st',d,g1,g2,g3,g4⟩:=TU h1;refine⟨d,st'.m,?_,g4⟩;rw[ue t];unfold mY;rw[if_pos (by simpa using Nat.le_of_ble_eq_true G),g1]
  cases o with
  | exit id=>exact absurd rfl (g2 id)
  | norm=>simp only[g3,Option.map_some]
  | ret=>simp only[g3,Option.map_some]
section
variable {S:Sys} {c:cg} {β γ δ α:Type} {Q:Out×St->Option β} {e:γ->Option β} {cf:Cf}
end
end Go.VE
namespace Go.VE
variable [bN]
noncomputable def Ir (rs:List RV) (B:List Nat):Out×St->Option (List V×eW)
 | (.exit _,_)=>none
 | (_,st)=>(kV st rs).bind λl=>(dn l).bind λys=>(qT st.m B).map λos=>(ys,os)
theorem Ui {S:Sys} {c:cg} {rs:List RV} {B:List Nat} {rc:RC} {st:St} {os:eW} {ys:List V} (h:jZ S c (Ir rs B) rc [] st=some (ys,os)):∃o st',cu S c rc st=some (o,st')/\(∀id,o≠.exit id)/\kV st' rs=some (ys.map .v)/\qT st'.m B=some os:=by
 rw[qn]at h;obtain⟨⟨o,st'⟩,h1,t⟩:=ζg.1 h;have u:∀id,o≠.exit id:=by rintro id rfl;simp[Ir]at t
 have w:(kV st' rs).bind (λl=>(dn l).bind λys=>(qT st'.m B).map λos=>(ys,os))=some (ys,os):=by
  cases o with
  | exit id=>exact absurd rfl (u id)
  | norm=>exact t
  | ret=>exact t
 obtain⟨l,z,A⟩:=ζg.1 w;obtain⟨J,C,D⟩:=ζg.1 A;obtain⟨q,G,I⟩:=ζf.1 D;cases I;exact⟨o,st',h1,u,by rw[z,Cq C],G⟩
def D5:Tb bD->eW->Tb bD
 | m,[]=>m
 | m,(d,ob)::r=>D5 (bJ m d ob) r
theorem back_eq {m':eW}:∀{B:List Nat} {os m:eW},qT m' B=some os->(os.all λx=>qG x.2)=true->mM m' B m=some (D5 m os)
 | [],os,m,h,_=>by cases h;rfl
 | k::B,os,m,h,D=>by
  simp only[qT]at h;split at h
  .rename_i v t h1 G;cases h;simp only[List.all_cons,ζh]at D;simp only[mM,h1,D.1,if_true,D5];exact back_eq G D.2
  .cases h
structure TE (S:Sys) (c:cg) {δ:Type} (m:Option δ) where
 n:FuncId
 az:List SV
 os:eW
 E:δ->List V
 M:δ->eW
 k:S.E.keep n=true
 o:S.E.own n=false
 q:(S.prm n).isNone=true
 h:∀r,m=some r->∃m',c n az os=some ((E r).map .v,m')/\∀m0,mM m' (os.map (·.1)) m0=some (D5 m0 (M r))
abbrev TE.mk' {S:Sys} {T:pF} {δ:Type} {m:Option δ} (fn:FuncId) (az:List SV) (os:eW) (E:δ->List V) (M:δ->eW) (h:Le (m.bind λr=>some (E r,M r)) (b8 S (c8 S T) (Ir (tr T fn) (os.map (·.1))) (.rc (tb T fn),[],start az os)))
 (B:(T fn).isSome=true:=by kernel_rfl) (hk:S.E.keep fn=true:=by kernel_rfl) (D:S.E.own fn=false:=by kernel_rfl) (G:(S.prm fn).isNone=true:=by kernel_rfl) (J:Nat.ble az.length (ud (T fn)).na=true:=by kernel_rfl)
 (O:∀r,((M r).all λx=>qG x.2)=true:=by intro r;kernel_rfl):TE S (c8 S T) m where
 n:=fn
 az:=az
 os:=os
 E:=E
 M:=M
 k:=hk
 o:=D
 q:=G
 h r hr:=by
  have t:=E0 B;have h1:=h (E r,M r) (by rw[hr];rfl)
  change jZ S (c8 S T) (Ir (ud (T fn)).rs (os.map (·.1))) (ud (T fn)).body [] (start az os)=some (E r,M r)at h1;obtain⟨o,st',g1,g2,g3,g4⟩:=Ui h1;refine⟨st'.m,?_,λu=>back_eq g4 (O r)⟩
  rw[ue t];unfold mY;rw[if_pos (Nat.le_of_ble_eq_true J),g1]
  cases o with
  | exit id=>exact absurd rfl (g2 id)
  | norm=>simp only[g3,Option.map_some]
  | ret=>simp only[g3,Option.map_some]
section
variable {S:Sys} {c:cg} {β γ δ:Type} {Q:Out×St->Option β} {e:γ->Option β} {cf:Cf}
end
end Go.VE
namespace Go.VE
variable [bN]
theorem OG {n:Int} (h0:0<=n) (h:n<=4611686018427387904):IntKind.wrap .i64 n=n:=by
 simp[IntKind.wrap,IntKind.bits,IntKind.signed];omega
namespace catX
instance {n:Nat}:OfNat Arg n:=⟨.s n⟩
def ln:K:=.p .lenSl
def ix:K:=.p (.idxS 1)
def bI (o:BinOp):K:=.p (.bin (some .int) none o)
def ld:K:=.r (.load 1 false)
def g1:List RO:=[o1 4 (.k (.bB)) []]
def g2:List RO:=[o1 5 1 [],o2 6 (bI .lss) [5,.k (.int .i64 0)] []]
def g3:List RO:=[o2 7 (.p (.bad)) [] [],⟨none,none,false,.p .bad,[],[],[]⟩]
def g4:List RO:=[o1 8 1 [],o1 9 0 [],o2 10 (.p (.capSl)) [9] [],o1 11 0 [],o2 12 ln [11] [],o2 13 (bI .sub) [10,12] [],o2 14 (bI .sub) [8,13] [],o1 1 14 []]
def g5:List RO:=[o1 15 1 [],o2 16 (bI .gtr) [15,.k (.int .i64 0)] []]
def g6:List RO:=[o1 17 0 [],o1 18 0 [],o2 19 (.p (.capSl)) [18] [],o2 20 (.p (.slice 1 false true)) [17,19] [],o1 21 1 [],o2 22 (.l (.appMk 1 24 [.bB])) [20,21] [],o1 23 0 [],o2 24 ln [23] [],o2 25 (.p (.slice 1 false true)) [22,24] [],o1 0 25 []]
def g7:List RO:=[o1 26 0 [],o1 4 26 []]
def grow:RC:=.seq (.ops g1) (.seq (.seq (.ops g2) (.cond (.s 6) (.ops g3) (.skip))) (.seq (.seq (.ops g4) (.seq (.ops g5) (.cond (.s 16) (.ops g6) (.skip)))) (.seq (.ops g7) (.ret))))
section
variable {E:Env} {N:Nat->FuncId} {t:Nat}
theorem Qd (ht:t<=2147483648):∃F',Ex E N grow [.bB,.int .i64 t] [] .ret F' (if t=0 then []else [.row 1 (List.replicate t [.bB])])/\get F' 4=if t=0 then .bB else .hsl 0 1 0 0:=by
 have e1:∀call,cr E N call none g1 [.bB,.int .i64 t] []=some (set [.bB,.int .i64 t] 4 .bB,[]):=λcall=>vp (v:=.bB) rfl (by simp[bu,bn,bh]) dG
 have k0:get (set [V.bB,.int .i64 t] 4 .bB) 0=.bB:=rfl;have k1:get (set [V.bB,.int .i64 t] 4 .bB) 1=.int .i64 t:=rfl;generalize set [V.bB,.int .i64 t] 4 .bB=I at *;have S:IntKind.wrap .i64 ((t:Int)-0)=t:=by rw[Int.sub_zero];exact OG (by omega) (by omega)
 have C:IntKind.wrap .i64 ((0:Int)-0)=0:=by decide
 have e2:∃F1,(∀call,cr E N call none g2 I []=some (F1,[]))/\get F1 6=.bool false/\get F1 0=.bB/\get F1 1=.int .i64 t:=by
  refine⟨_,λcall=>vp (v:=.int .i64 t) rfl ?_ <| vp (v:=.bool false) rfl ?_ dG,?_,?_,?_⟩
  .simp[bu,bn,bh,k1]
  .simp[bu,bn,bh,bl,bI,gj,mA]
  all_goals simp[bl,k0,k1]
 obtain⟨F1,a1,T,D,U⟩:=e2;have e4:∃w,(∀call,cr E N call none g4 F1 []=some (w,[]))/\get w 0=.bB/\get w 1=.int .i64 t:=by
  refine⟨_,λcall=>vp (v:=.int .i64 t) rfl ?_ <| vp (v:=.bB) rfl ?_ <| vp (v:=.int .i64 0) rfl ?_ <| vp (v:=.bB) rfl ?_ <| vp (v:=.int .i64 0) rfl ?_ <| vp (v:=.int .i64 0) rfl ?_ <| vp (v:=.int .i64 t) rfl ?_ <| vp (v:=.int .i64 t) rfl ?_ dG,?_,?_⟩
  .simp[bu,bn,bh,U]
  .simp[bu,bn,bh,bl,D]
  .simp[bu,bn,bh,bl,FY]
  .simp[bu,bn,bh,bl,D]
  .simp[bu,bn,bh,bl,ln,l_]
  .simp only[bu,List.map_cons,List.map_nil,bn,bl,bp,Nat.reduceEqDiff,if_true,if_false,bh,bI,gj,C];rfl
  .simp only[bu,List.map_cons,List.map_nil,bn,bl,bp,Nat.reduceEqDiff,if_true,if_false,bh,bI,gj,S];rfl
  .simp[bu,bn,bh,bl]
  all_goals simp[bl,D]
 obtain⟨w,J,W,L⟩:=e4;have e5:∃u,(∀call,cr E N call none g5 w []=some (u,[]))/\get u 16=.bool (decide (t>0))/\get u 0=.bB/\get u 1=.int .i64 t:=by
  refine⟨_,λcall=>vp (v:=.int .i64 t) rfl ?_ <| vp (v:=.bool (decide (t>0))) rfl ?_ dG,?_,?_,?_⟩
  .simp[bu,bn,bh,L]
  .simp[bu,bn,bh,bl,bI,gj,mA]
  all_goals simp[bl,W,L]
 obtain⟨u,O,Q,A,X⟩:=e5;have hc:Ex E N (.seq (.ops g2) (.cond (.s 6) (.ops g3) (.skip))) I [] .norm F1 []:=Ex.seq (Ex.cM a1) (Ex.n_ T Ex.skip);have e7:∀(F:Frame) (H:bf),∃F',(∀call,cr E N call none g7 F H=some (F',H))/\get F' 4=get F 0:=λF H=>
  ⟨_,λcall=>vp (v:=get F 0) rfl (by simp[bu,bn,bh]) <| vp (v:=get F 0) rfl (by simp[bu,bn,bh,bl]) dG,by simp[bl]⟩
 by_cases h0:t=0
 .subst h0;obtain⟨G,d1,d2⟩:=e7 u [];refine⟨G,?_,by rw[d2,A];rfl⟩
  exact Ex.seq (Ex.cM e1) (Ex.seq hc (Ex.seq (Ex.seq (Ex.cM J) (Ex.seq (Ex.cM O) (Ex.n_ Q Ex.skip))) (Ex.seq (Ex.cM d1) Ex.ret)))
 .have z:0<t:=by omega
  have e6:∃B,(∀call,cr E N call none g6 u []=some (B,[.row 1 (List.replicate t [.bB])]))/\get B 0=.hsl 0 1 0 0:=by
   refine⟨_,λcall=>vp (v:=.bB) rfl ?_ <| vp (v:=.bB) rfl ?_ <| vp (v:=.int .i64 0) rfl ?_ <| vp (v:=.bB) rfl ?_ <| vp (v:=.int .i64 t) rfl ?_ <| iQ (v:=.hsl 0 1 0 t) (H1:=[.row 1 (List.replicate t [.bB])]) rfl ?_ <| vp (v:=.bB) rfl ?_ <| vp (v:=.int .i64 0) rfl ?_ <| vp (v:=.hsl 0 1 0 0) rfl ?_ <| vp (v:=.hsl 0 1 0 0) rfl ?_ dG,?_⟩
   .simp[bu,bn,bh,A]
   .simp[bu,bn,bh,bl,A]
   .simp[bu,bn,bh,bl,FY]
   .simp[bu,bn,bh,bl,j9,gp,dD]
   .simp[bu,bn,bh,bl,X]
   .simp only[bu,List.map_cons,List.map_nil,bn,bl,bp,Nat.reduceEqDiff,if_true,if_false,eF,mkApp];rw[if_neg (by omega),if_pos ⟨by omega,by omega,by omega,by omega⟩];simp
   .simp[bu,bn,bh,bl,A]
   .simp[bu,bn,bh,bl,ln,l_]
   .simp[bu,bn,bh,bl,j9,gp,dD]
   .simp[bu,bn,bh,bl]
   .simp[bl]
  obtain⟨B,Y,Z⟩:=e6;obtain⟨G,d1,d2⟩:=e7 B [.row 1 (List.replicate t [.bB])];rw[if_neg h0,if_neg h0];refine⟨G,?_,by rw[d2,Z]⟩
  exact Ex.seq (Ex.cM e1) (Ex.seq hc (Ex.seq (Ex.seq (Ex.cM J) (Ex.seq (Ex.cM O) (Ex.lq (by show get u 16=_;rw[Q,decide_eq_true z]) (Ex.cM Y)))) (Ex.seq (Ex.cM d1) Ex.ret)))
end
end catX
end Go.VE
namespace Go.VE
variable [bN]
def yu {α:Type} (s:Sl (Sl α)):Sl α:=if(s.l.flatMap Sl.l).length=0 then .nil else .row (s.l.flatMap Sl.l)
namespace catX
def r1:List RO:=[o1 2 (.k (.bB)) []]
def r2:List RO:=[o1 3 (.k (.int .i64 0)) []]
def r3:List RO:=[o1 9 0 [],o2 10 ln [9] [],o1 11 (.k (.int .i64 0)) []]
def r4:List RO:=[o2 12 (bI .lss) [11,10] []]
def r5:List RO:=[o2 13 ix [9,11] [],o2 14 ld [13] [],o1 5 14 []]
def r6:List RO:=[o1 15 3 [],o1 16 5 [],o2 17 ln [16] [],o2 18 (bI .add) [15,17] [],o1 3 18 []]
def r7:List RO:=[o1 19 3 [],o2 20 (bI .lss) [19,.k (.int .i64 0)] []]
def r8:List RO:=[o2 21 (.p (.bad)) [] [],⟨none,none,false,.p .bad,[],[],[]⟩]
def r9:List RO:=[o2 22 (bI .add) [11,.k (.int .i64 1)] [],o1 11 22 []]
def L9:RC:=.seq (.ops r4) (.seq (.cond (.s 12) (.skip) (.exit 0)) (.seq (.block 1 (.seq (.ops r5) (.seq (.ops r6) (.seq (.ops r7) (.cond (.s 20) (.ops r8) (.skip)))))) (.ops r9)))
def AZ (gid:Nat):List RO:=[o1 23 3 [],o2 24 .c [.f gid,.k (.bB),23] [],o1 6 24 []]
def CV:List RO:=[o1 25 0 [],o2 26 ln [25] [],o1 27 (.k (.int .i64 0)) []]
def C4:List RO:=[o2 28 (bI .lss) [27,26] []]
def Dn:List RO:=[o2 29 ix [25,27] [],o2 30 ld [29] [],o1 8 30 []]
def AI:List RO:=[o1 31 6 [],o1 32 8 [],o2 33 (.l (.append 1)) [31,32] [],o1 6 33 []]
def Dp:List RO:=[o2 34 (bI .add) [27,.k (.int .i64 1)] [],o1 27 34 []]
def Tp:RC:=.seq (.ops C4) (.seq (.cond (.s 28) (.skip) (.exit 2)) (.seq (.block 3 (.seq (.ops Dn) (.ops AI))) (.ops Dp)))
def r16:List RO:=[o1 35 6 [],o1 2 35 []]
def cat (gid:Nat):RC:=.seq (.ops r1) (.seq (.ops r2) (.seq (.seq (.ops r3) (.block 0 (.loop L9))) (.seq (.ops (AZ gid)) (.seq (.seq (.ops CV) (.block 2 (.loop Tp))) (.seq (.ops r16) (.ret))))))
section
variable {E:Env} {N:Nat->FuncId} {F:Frame} {H:bf} {α:Type} [bt α] {s:Sl (Sl α)} {i:Nat}
theorem el {u:Sl α} (h:s.l[i]? = some u):kg 1 (bT s) (i:Int)=some (.fptr [bT u]):=by
 have:=BU (N:=λn=>n) s .i64 (i:Int) 1 rfl
 simp only[bh]at this;rw[this,show idx s (i:Int)=some u from by unfold idx;rw[if_pos (by omega)];exact h];rfl
theorem Tt (s:Sl α):l_ (bT s)=some (.int .i64 s.l.length):=by
 have:=wT (N:=λn=>n) s;simpa only[bh]using this
theorem y3:(get F 0=bT s->∃F',(∀call,cr E N call none r3 F H=some (F',H))/\get F' 9=bT s/\get F' 10=.int .i64 s.l.length/\get F' 11=.int .i64 0/\∀j,j<9->get F' j=get F j) /\
 (get F 0=bT s->∃F',(∀call,cr E N call none CV F H=some (F',H))/\get F' 25=bT s/\get F' 26=.int .i64 s.l.length/\get F' 27=.int .i64 0/\∀j,j<9->get F' j=get F j):=by
 have h:=Tt s;refine⟨λf0=>⟨_,λcall=>vp (v:=bT s) rfl ?_ <| vp (v:=.int .i64 s.l.length) rfl ?_ <| vp (v:=.int .i64 0) rfl ?_ dG,?_,?_,?_,?_⟩,λf0=>⟨_,λcall=>vp (v:=bT s) rfl ?_ <| vp (v:=.int .i64 s.l.length) rfl ?_ <| vp (v:=.int .i64 0) rfl ?_ dG,?_,?_,?_,?_⟩⟩ <;>
 first
 | (simp[bu,bn,bh,f0];done)
 | (simp only[bu,List.map_cons,List.map_nil,bn,bl,bp,Nat.reduceEqDiff,if_true,if_false,bh,ln,h];rfl)
 | (simp[bu,bn,bh,bl];done)
 | (simp[bl];done)
 | (intro j t;simp only[bl,bp];repeat (rw[if_neg (by omega)]))
theorem y4 {n:Nat}:(get F 11=.int .i64 i->get F 10=.int .i64 n->∃F',(∀call,cr E N call none r4 F H=some (F',H))/\get F' 12=.bool (decide (i<n))/\∀j,j<12->get F' j=get F j) /\
 (get F 27=.int .i64 i->get F 26=.int .i64 n->∃F',(∀call,cr E N call none C4 F H=some (F',H))/\get F' 28=.bool (decide (i<n))/\∀j,j<28->get F' j=get F j):=by
 refine⟨λf t=>⟨_,λcall=>vp (v:=.bool (decide (i<n))) rfl ?_ dG,?_,?_⟩,λf t=>⟨_,λcall=>vp (v:=.bool (decide (i<n))) rfl ?_ dG,?_,?_⟩⟩ <;>
 first
 | (simp[bu,bn,bh,bl,bI,gj,mA,f,t];done)
 | (simp[bl];done)
 | (intro j u;simp only[bl,bp];repeat (rw[if_neg (by omega)]))
theorem y5 {u:Sl α} (h:s.l[i]? = some u):(get F 9=bT s->get F 11=.int .i64 i->∃F',(∀call,cr E N call none r5 F H=some (F',H))/\get F' 5=bT u/\∀j,j<12->j≠5->get F' j=get F j) /\
 (get F 25=bT s->get F 27=.int .i64 i->∃F',(∀call,cr E N call none Dn F H=some (F',H))/\get F' 8=bT u/\∀j,j<28->j≠8->get F' j=get F j):=by
 have e:=el h;have e2:ey H (.load 1 false) [.fptr [bT u]]=some (bT u):=by simp[ey,dL,cut,mk]
 refine⟨λf t=>⟨_,λcall=>vp (v:=.fptr [bT u]) rfl ?_ <| vp (v:=bT u) rfl ?_ <| vp (v:=bT u) rfl ?_ dG,?_,?_⟩,λf t=>⟨_,λcall=>vp (v:=.fptr [bT u]) rfl ?_ <| vp (v:=bT u) rfl ?_ <| vp (v:=bT u) rfl ?_ dG,?_,?_⟩⟩ <;>
 first
 | (simp only[bu,List.map_cons,List.map_nil,bn,bl,bp,Nat.reduceEqDiff,if_true,if_false,bh,ix,f,t,e,Option.map_some];done)
 | (simp only[bu,List.map_cons,List.map_nil,bn,bl,bp,Nat.reduceEqDiff,if_true,if_false,ld];rw[e2];rfl)
 | (simp[bu,bn,bh,bl];done)
 | (simp[bl];done)
 | (intro j z w;simp only[bl,bp];rw[if_neg (Ne.symm w)];repeat (rw[if_neg (by omega)]))
theorem y6 {u:Sl α} {t:Nat} (f3:get F 3=.int .i64 t) (f5:get F 5=bT u) (B:t+u.l.length<=2147483648):∃F',(∀call,cr E N call none r6 F H=some (F',H))/\get F' 3=.int .i64 ((t+u.l.length:Nat):Int)/\∀j,j<12->j≠3->get F' j=get F j:=by
 have h:=Tt u;have w:IntKind.wrap .i64 ((t:Int)+(u.l.length:Int))=((t+u.l.length:Nat):Int):=by rw[OG (by omega) (by omega)];simp
 refine⟨_,λcall=>vp (v:=.int .i64 t) rfl ?_ <| vp (v:=bT u) rfl ?_ <| vp (v:=.int .i64 u.l.length) rfl ?_ <| vp (v:=.int .i64 ((t+u.l.length:Nat):Int)) rfl ?_ <| vp (v:=.int .i64 ((t+u.l.length:Nat):Int)) rfl ?_ dG,?_,?_⟩
 .simp[bu,bn,bh,f3]
 .simp[bu,bn,bh,bl,f5]
 .simp only[bu,List.map_cons,List.map_nil,bn,bl,bp,Nat.reduceEqDiff,if_true,if_false,bh,ln,h];rfl
 .simp only[bu,List.map_cons,List.map_nil,bn,bl,bp,Nat.reduceEqDiff,if_true,if_false,bh,bI,gj,w];rfl
 .simp[bu,bn,bh,bl]
 .simp[bl]
 .intro j A z;simp only[bl,bp];rw[if_neg (Ne.symm z)]
  repeat (rw[if_neg (by omega)])
theorem y7 {t:Nat} (f3:get F 3=.int .i64 t):∃F',(∀call,cr E N call none r7 F H=some (F',H))/\get F' 20=.bool false/\∀j,j<12->get F' j=get F j:=by
 refine⟨_,λcall=>vp (v:=.int .i64 t) rfl ?_ <| vp (v:=.bool false) rfl ?_ dG,?_,?_⟩
 .simp[bu,bn,bh,f3]
 .simp[bu,bn,bh,bl,bI,gj,mA]
 .simp[bl]
 .intro j u;simp only[bl,bp]
  repeat (rw[if_neg (by omega)])
theorem y9 (B:i<=2147483648):(get F 11=.int .i64 i->∃F',(∀call,cr E N call none r9 F H=some (F',H))/\get F' 11=.int .i64 ((i+1:Nat):Int)/\∀j,j<11->get F' j=get F j) /\
 (get F 27=.int .i64 i->∃F',(∀call,cr E N call none Dp F H=some (F',H))/\get F' 27=.int .i64 ((i+1:Nat):Int)/\∀j,j<27->get F' j=get F j):=by
 have t:=vT B;refine⟨λf=>⟨_,λcall=>vp (v:=.int .i64 ((i+1:Nat):Int)) rfl ?_ <| vp (v:=.int .i64 ((i+1:Nat):Int)) rfl ?_ dG,?_,?_⟩,λf=>⟨_,λcall=>vp (v:=.int .i64 ((i+1:Nat):Int)) rfl ?_ <| vp (v:=.int .i64 ((i+1:Nat):Int)) rfl ?_ dG,?_,?_⟩⟩ <;>
 first
 | (simp only[bu,List.map_cons,List.map_nil,bn,bl,bp,Nat.reduceEqDiff,if_true,if_false,bh,bI,gj,f,t];rfl)
 | (simp[bu,bn,bh,bl];done)
 | (simp[bl];done)
 | (intro j u;simp only[bl,bp];repeat (rw[if_neg (by omega)]))
structure Acc (H:bf) (w:V) (acc:List (List V)):Prop where
 el:dh H 1 w=some acc
 gr:∃H1,gb H w=some H1/\H1.length=H.length
 sh:w=.bB/\acc=[]\/∃id xs,w=.hsl id 1 0 acc.length/\H[id]? = some (.row 1 xs)/\(acc≠[]->xs=acc)
theorem Pt (H:bf) (u:Sl α) (h1:bt.size α=1):dh H 1 (bT u)=some (rows u.l):=by
 cases u <;> simp[bT,Sl.k,Sl.l,nu,dh,rows,h1]
theorem T6 {w:V} {acc:List (List V)} {u:Sl α} (h1:bt.size α=1) (a:Acc H w acc) (f6:get F 6=w) (D:get F 8=bT u) (G:acc.length+u.l.length<=2147483648) :
 ∃F' H' w',(∀call,cr E N call none AI F H=some (F',H'))/\get F' 6=w'/\Acc H' w' (acc++rows u.l)/\(u.l=[]->w'=w)/\∀j,j<28->j≠6->get F' j=get F j:=by
 have hu:=Pt H u h1;have A:(rows u.l).length=u.l.length:=by simp[rows]
 have key:∃H' w',eF H (.append 1) [w,bT u]=some (w',H')/\Acc H' w' (acc++rows u.l)/\(u.l=[]->w'=w):=by
  obtain⟨H1,g1,g2⟩:=a.gr
  cases hr:rows u.l with
  | nil=>exact⟨H,w,by simp only[eF,a.el,hu,hr],by simpa using a,λ_=>rfl⟩
  | cons y z=>
   have B:acc.length+(y::z).length<=2147483648:=by rw[<-hr,A];exact G
   refine⟨H1++[.row 1 (acc++y::z)],.hsl H.length 1 0 (acc.length+(y::z).length),by simp only[eF,a.el,hu,hr];rw[if_pos B,g1];rfl,?_⟩
   have t:(H1++[Ob.row 1 (acc++y::z)])[H.length]? = some (.row 1 (acc++y::z)):=by rw[<-g2];simp
   refine⟨⟨?_,⟨_,by simp only[gb,t];rfl,by simp⟩,.inr ⟨H.length,acc++y::z,by simp,t,λ_=>rfl⟩⟩,λe=>by rw[e]at hr;cases hr⟩
   simp only[dh,t,ζb,Ob.rows,if_true,Nat.zero_add,List.drop_zero];rw[if_pos (by simp),List.take_of_length_le (by simp)]
 obtain⟨H',w',k1,k2,k3⟩:=key;refine⟨_,H',w',λcall=>vp (v:=w) rfl ?_ <| vp (v:=bT u) rfl ?_ <| iQ (v:=w') (H1:=H') rfl ?_ <| vp (v:=w') rfl ?_ dG,?_,k2,k3,?_⟩
 .simp[bu,bn,bh,f6]
 .simp[bu,bn,bh,bl,D]
 .simp only[bu,List.map_cons,List.map_nil,bn,bl,bp,Nat.reduceEqDiff,if_true,if_false];exact k1
 .simp[bu,bn,bh,bl]
 .simp[bl]
 .intro j I C;simp only[bl,bp];rw[if_neg (Ne.symm C)]
  repeat (rw[if_neg (by omega)])
def upto (s:Sl (Sl α)) (i:Nat):List α:=(s.l.take i).flatMap Sl.l
theorem Dd {u:Sl α} (h:s.l[i]? = some u):upto s (i+1)=upto s i++u.l:=by
 unfold upto;obtain⟨t,rfl⟩:=ζe.1 h;rw[List.take_succ_eq_append_getElem t,List.flatMap_append];simp
theorem HC (s:Sl (Sl α)) (i:Nat):(upto s i).length<=(s.l.flatMap Sl.l).length:=by
 have:s.l.flatMap Sl.l=upto s i++(s.l.drop i).flatMap Sl.l:=by
  unfold upto;rw[<-List.flatMap_append,List.take_append_drop]
 rw[this];simp
theorem Ub (hn:s.l.length<=2147483648) (ht:(s.l.flatMap Sl.l).length<=2147483648):∀(d i:Nat) (F:Frame),i+d=s.l.length->get F 9=bT s->get F 10=.int .i64 s.l.length->get F 11=.int .i64 i->get F 3=.int .i64 (upto s i).length ->
 ∃F',ku E N L9 F H (.exit 0) F' H/\get F' 3=.int .i64 (s.l.flatMap Sl.l).length/\get F' 0=get F 0:=by
 intro d
 induction d with
 | zero=>
  intro i F O B f10 w f3;obtain⟨F1,a1,C,z⟩:=(y4 (E:=E) (N:=N) (H:=H) (n:=s.l.length)).1 w f10;refine⟨F1,ku.stop (Ex.seq (Ex.cM a1) (Ex.rX (Ex.n_ (by show get F1 12=_;rw[C,decide_eq_false (by omega)]) Ex.exit) (by simp))) (by simp),?_,z 0 (by omega)⟩
  rw[z 3 (by omega),f3]
  have:upto s i=s.l.flatMap Sl.l:=by unfold upto;rw[List.take_of_length_le (by omega)]
  rw[this]
 | succ d Q=>
  intro i F O B f10 w f3;obtain⟨F1,a1,C,z⟩:=(y4 (E:=E) (N:=N) (H:=H) (n:=s.l.length)).1 w f10;have hu:s.l[i]? = some s.l[i]:=ζd (by omega)
  obtain⟨S,T,U,G⟩:=(y5 (E:=E) (N:=N) (F:=F1) (H:=H) hu).1 (by rw[z 9 (by omega)];exact B) (by rw[z 11 (by omega)];exact w)
  have D:=HC s (i+1);have I:=Dd hu;rw[I,ζi]at D;obtain⟨W,X,J,Y⟩:=y6 (E:=E) (N:=N) (F:=S) (H:=H) (u:=s.l[i]) (t:=(upto s i).length) (by rw[G 3 (by omega) (by omega),z 3 (by omega)];exact f3) U (by omega)
  obtain⟨L,d1,d2,d3⟩:=y7 (E:=E) (N:=N) (F:=W) (H:=H) J;have A:∀j,j<12->j≠3->j≠5->get L j=get F j:=λj h1 Z h3=>by rw[d3 j h1,Y j h1 Z,G j h1 h3,z j h1]
  obtain⟨F5,e1,e2,e3⟩:=(y9 (E:=E) (N:=N) (F:=L) (H:=H) (i:=i) (by omega)).1 (by rw[A 11 (by omega) (by omega) (by omega)];exact w)
  obtain⟨F',g1,g2,g3⟩:=Q (i+1) F5 (by omega) (by rw[e3 9 (by omega),A 9 (by omega) (by omega) (by omega)];exact B) (by rw[e3 10 (by omega),A 10 (by omega) (by omega) (by omega)];exact f10) e2 (by rw[e3 3 (by omega),d3 3 (by omega),J,I,ζi])
  exact⟨F',ku.step (Ex.seq (Ex.cM a1) (Ex.seq (Ex.lq (by show get F1 12=_;rw[C,decide_eq_true (by omega)]) Ex.skip) (Ex.seq (Ex.block (Ex.seq (Ex.cM T) (Ex.seq (Ex.cM X) (Ex.seq (Ex.cM d1) (Ex.n_ d2 Ex.skip))))) (Ex.cM e1)))) g1,g2,by rw[g3,e3 0 (by omega),A 0 (by omega) (by omega) (by omega)]⟩
theorem Ue (h1:bt.size α=1) (hn:s.l.length<=2147483648) (ht:(s.l.flatMap Sl.l).length<=2147483648):∀(d i:Nat) (F:Frame) (H:bf) (w:V),i+d=s.l.length->get F 25=bT s->get F 26=.int .i64 s.l.length->get F 27=.int .i64 i->get F 6=w->Acc H w (rows (upto s i)) ->
 ∃F' H' w',ku E N Tp F H (.exit 2) F' H'/\get F' 6=w'/\Acc H' w' (rows (s.l.flatMap Sl.l))/\((s.l.flatMap Sl.l).length=0->w'=w):=by
 intro d
 induction d with
 | zero=>
  intro i F H w Q A z t f6 a;obtain⟨F1,a1,C,B⟩:=(y4 (E:=E) (N:=N) (H:=H) (n:=s.l.length)).2 t z;have:upto s i=s.l.flatMap Sl.l:=by unfold upto;rw[List.take_of_length_le (by omega)]
  rw[this]at a;exact⟨F1,H,w,ku.stop (Ex.seq (Ex.cM a1) (Ex.rX (Ex.n_ (by show get F1 28=_;rw[C,decide_eq_false (by omega)]) Ex.exit) (by simp))) (by simp),by rw[B 6 (by omega)];exact f6,a,λ_=>rfl⟩
 | succ d S=>
  intro i F H w Q A z t f6 a;obtain⟨F1,a1,C,B⟩:=(y4 (E:=E) (N:=N) (H:=H) (n:=s.l.length)).2 t z;have hu:s.l[i]? = some s.l[i]:=ζd (by omega)
  obtain⟨T,U,W,I⟩:=(y5 (E:=E) (N:=N) (F:=F1) (H:=H) hu).2 (by rw[B 25 (by omega)];exact A) (by rw[B 27 (by omega)];exact t)
  have D:=HC s (i+1);have J:=Dd hu;rw[J,ζi]at D;obtain⟨L,H',w',X,Y,O,Z,c4⟩:=T6 (E:=E) (N:=N) (F:=T) (H:=H) (u:=s.l[i]) h1 a (by rw[I 6 (by omega) (by omega),B 6 (by omega)];exact f6) W (by simp only[fG];omega)
  have G:∀j,j<28->j≠6->j≠8->get L j=get F j:=λj h1 h2 h3=>by rw[c4 j h1 h2,I j h1 h3,B j h1]
  obtain⟨F5,e1,e2,e3⟩:=(y9 (E:=E) (N:=N) (F:=L) (H:=H') (i:=i) (by omega)).2 (by rw[G 27 (by omega) (by omega) (by omega)];exact t)
  have hr:rows (upto s i)++rows s.l[i].l=rows (upto s (i+1)):=by rw[J];simp[rows]
  rw[hr]at O;obtain⟨F',H2,w2,g1,g2,g3,g4⟩:=S (i+1) F5 H' w' (by omega) (by rw[e3 25 (by omega),G 25 (by omega) (by omega) (by omega)];exact A) (by rw[e3 26 (by omega),G 26 (by omega) (by omega) (by omega)];exact z) e2 (by rw[e3 6 (by omega)];exact Y) O
  exact⟨F',H2,w2,ku.step (Ex.seq (Ex.cM a1) (Ex.seq (Ex.lq (by show get F1 28=_;rw[C,decide_eq_true (by omega)]) Ex.skip) (Ex.seq (Ex.block (Ex.seq (Ex.cM U) (Ex.cM X))) (Ex.cM e1)))) g1,g2,g3,λe=>(g4 e).trans (Z (List.eq_nil_of_length_eq_zero (by omega)))⟩
end
end catX
theorem ON {E:Env} {f J:FuncId} {nm:FuncId->Option Nat} {N:Nat->FuncId} {gid:Nat} (hN:∀f s,nm f=some s->N s=f) (hg:N gid=J) (Y:E.keep J=true) (O:E.own J=true)
 (hf:∃fi,E.ft f=some fi/\bH ⟨E,nm,fi.ntmps⟩ false fi.body=some (catX.cat gid)/\2<=fi.ntmps/\fi.results=[.tmp 2])
 (aa:∃fi,E.ft J=some fi/\bH ⟨E,nm,fi.ntmps⟩ false fi.body=some catX.grow/\2<=fi.ntmps/\fi.results=[.tmp 4])
 {α:Type} [bt α] (h1:bt.size α=1) (s:Sl (Sl α)) (hn:s.l.length<=2147483648) (ht:(s.l.flatMap Sl.l).length<=2147483648):vz E f [bT s] (bT (yu s)):=by
 obtain⟨fi,p1,p2,p3,p4⟩:=hf;obtain⟨gi,q1,q2,q3,q4⟩:=aa;generalize Z:(s.l.flatMap Sl.l).length=T at *;obtain⟨Fg,ab,ad⟩:=catX.Qd (E:=E) (N:=N) ht;obtain⟨n0,I⟩:=Ex.run hN q1 q2 (args:=[.bB,.int .i64 T]) (by simpa using q3) ab (vs:=[if T=0 then .bB else .hsl 0 1 0 0]) (by rw[q4];simp[gG,ad])
 have L:∀l,borrows l [] [.bB,.int .i64 (T:Int)]=some [.bB,.int .i64 (T:Int)]:=λl=>by
  unfold borrows;simp only[gH,jo l [] (x:=V.bB) rfl,jo l [] (x:=V.int .i64 T) rfl]
 have A:∃w B,(∀k,n0<=k->eH E (run E k) J [.bB,.int .i64 T] []=some (w,B))/\catX.Acc B w []/\(T=0->w=.bB):=by
  by_cases h0:T=0
  .refine⟨.bB,[],λk hk=>?_,⟨rfl,⟨[],rfl,rfl⟩,.inl ⟨rfl,rfl⟩⟩,λ_=>rfl⟩
   have:=(mb E hk).go _ _ _ _ I;rw[if_pos h0,if_pos h0]at this;unfold eH jx;rw[if_pos O];simp[L,this,result,V.scalar]
  .refine⟨.hsl 0 1 0 0,[.row 1 (List.replicate T [.bB])],λk hk=>?_,⟨by simp[dh,Ob.rows],⟨_,rfl,by simp⟩,.inr ⟨0,_,rfl,rfl,λh=>absurd rfl h⟩⟩,λh=>absurd h h0⟩
   have:=(mb E hk).go _ _ _ _ I;rw[if_neg h0,if_neg h0]at this;unfold eH jx;rw[if_pos O];simp only[L,if_true,this,result,V.scalar,Bool.false_eq_true,if_false,pq,List.getElem?_cons_zero,true_and];rw[if_pos (by simp[List.all_replicate,V.scalar])]
   simp
 obtain⟨w,B,ae,af,Q⟩:=A;have S:T≠0->rows (s.l.flatMap Sl.l)≠[]:=λh e=>h (by rw[<-Z,<-fG,e];rfl)
 have t:∀c∈rows (s.l.flatMap Sl.l),V.cq c=true:=λc hc=>by
  obtain⟨x,_,rfl⟩:=List.mem_map.1 hc;exact bt.good x
 have g1:∀call,cr E N call none catX.r1 [bT s] []=some (set [bT s] 2 .bB,[]):=λcall=>vp (v:=.bB) rfl (by simp[bu,bn,bh]) dG
 have k0:get (set [bT s] 2 .bB) 0=bT s:=rfl;generalize set [bT s] 2 .bB=F0 at *;have g2:∀call,cr E N call none catX.r2 F0 []=some (set F0 3 (.int .i64 0),[]):=λcall=>vp (v:=.int .i64 0) rfl (by simp[bu,bn,bh]) dG
 obtain⟨F2,a1,a2,a3,a4,a5⟩:=(catX.y3 (E:=E) (N:=N) (F:=set F0 3 (.int .i64 0)) (H:=[]) (s:=s)).1 (by rw[gw _ _ (by omega)];exact k0)
 obtain⟨F3,b1,b2,b3⟩:=catX.Ub (E:=E) (N:=N) (H:=[]) hn (by omega) s.l.length 0 F2 (by omega) a2 a3 a4 (by rw[a5 3 (by omega),qN];rfl)
 rw[Z]at b2;have ah:get F3 0=bT s:=by rw[b3,a5 0 (by omega),gw _ _ (by omega)];exact k0
 have c1:∃U,(∃n,∀k,n<=k->cr E N (run E k) none (catX.AZ gid) F3 []=some (U,B))/\get U 6=w/\get U 0=bT s:=by
  refine⟨_,⟨n0,λk hk=>vp (v:=.int .i64 T) rfl ?_ <| iQ (v:=w) (H1:=B) rfl ?_ <| vp (v:=w) rfl ?_ dG⟩,?_,?_⟩
  .simp[bu,bn,bh,b2]
  .simp only[bu,List.map_cons,List.map_nil,bn,bl,bp,Nat.reduceEqDiff,if_true,if_false,hg,Y,List.nil_append,List.append_nil];exact ae k hk
  .simp[bu,bn,bh,bl]
  .simp[bl]
  .simp only[bl,bp,Nat.reduceEqDiff,if_false];exact ah
 obtain⟨U,c1,c2,c3⟩:=c1;obtain⟨F5,d1,d2,d3,d4,d5⟩:=(catX.y3 (E:=E) (N:=N) (F:=U) (H:=B) (s:=s)).2 c3;obtain⟨F6,W,G,e1,e2,e3,e4⟩:=catX.Ue (E:=E) (N:=N) h1 hn (by omega) s.l.length 0 F5 B w (by omega) d2 d3 d4 (by rw[d5 6 (by omega)];exact c2) af
 have f1:∃F7,(∀call,cr E N call none catX.r16 F6 W=some (F7,W))/\get F7 2=G:=
  ⟨_,λcall=>vp (v:=G) rfl (by simp[bu,bn,bh,e2]) <| vp (v:=G) rfl (by simp[bu,bn,bh,bl]) dG,by simp[bl]⟩
 obtain⟨F7,f1,f2⟩:=f1;obtain⟨n,ai⟩:=Ex.run hN p1 p2 (args:=[bT s]) (by simp;omega) (Ex.seq (Ex.cM g1) (Ex.seq (Ex.cM g2) (Ex.seq (Ex.seq (Ex.cM a1) (Ex.sR (Ex.loop b1))) (Ex.seq (Ex.ops c1) (Ex.seq (Ex.seq (Ex.cM d1) (Ex.sR (Ex.loop e1))) (Ex.seq (Ex.cM f1) Ex.ret)))))) (vs:=[G]) (by rw[p4];simp[gG,f2])
 refine⟨n,G,W,λid=>∃m,G=.hsl id 1 0 m,ai,?_,?_,?_⟩
 .rcases e3.sh with⟨h,C⟩|⟨id,xs,h,C,h3⟩
  .have:T=0:=by rw[<-Z,<-fG,C];rfl
   rw[h];unfold yu;rw[if_pos (by omega)]
   exact .same _ rfl
  .by_cases h0:T=0
   .have:=e4 (by omega)
    rw[Q h0]at this;rw[this]at h;cases h
   .have hx:=h3 (S h0);subst hx;unfold yu;rw[if_neg (by omega),h]
    show FR W _ (.fsl (bt.size α) (rows (s.l.flatMap Sl.l))) _;rw[h1];exact .fsl 1 _ id 0 _ ⟨_,rfl⟩ (by unfold bk;rw[C];rfl) (by omega) (λi a b X D=>by rw[Nat.zero_add]at D;rw[X]at D;cases D;rfl) (λi j a b u v X D hu hv=>by
     rw[Nat.zero_add]at D;rw[X]at D;cases D;rw[hu]at hv;cases hv;exact .same _ (gF.1 (t a (List.mem_of_getElem? X)) j u hu))
 .rintro id ⟨m,h⟩;rcases e3.sh with⟨z,_⟩|⟨aj,xs,z,C,_⟩
  .rw[z]at h;cases h
  .rw[z]at h;cases h;unfold bk;rw[C];rfl
 .refine⟨λid es ys hz hr c hc u hu=>?_⟩
  obtain⟨m,h⟩:=hz;rcases e3.sh with⟨z,_⟩|⟨aj,xs,z,C,h3⟩
  .rw[z]at h;cases h
  .rw[z]at h;cases h
   by_cases h0:T=0
   .have:=e4 (by omega)
    rw[Q h0]at this;rw[this]at z;cases z
   .have hx:=h3 (S h0);subst hx;unfold bk at hr;rw[C]at hr;cases hr;obtain⟨j,hj⟩:=List.getElem?_of_mem hu;exact⟨u,.same _ (gF.1 (t c hc) j u hj)⟩
end Go.VE
namespace Go.VE
variable [bN]
def wq (op:Bool) (x y:Int):Int:=cond op x y
@[simp] theorem S8 (x y:Int):wq true x y=x:=rfl
@[simp] theorem Sz (x y:Int):wq false x y=y:=rfl
namespace setX
instance {n:Nat}:OfNat Arg n:=⟨.s n⟩
def fa (k:Nat):K:=.p (.fieldAddr k)
def ld:K:=.r (.load 1 false)
def r1:List RO:=[o2 4 (.a .box) [1] [],o2 5 (.a .box) [2] []]
def r2:List RO:=[o1 6 0 [],o2 7 (fa 0) [4] [],o2 8 ld [7] [],o2 9 (fa 1) [4] [],o2 10 ld [9] [],o2 11 (.p (.idxS 1)) [6,8] [],⟨none,none,false,.l (.store 1),[11,10],[],[]⟩]
def r3:List RO:=[o1 6 0 [],o2 7 (fa 0) [5] [],o2 8 ld [7] [],o2 9 (fa 1) [5] [],o2 10 ld [9] [],o2 11 (.p (.bin (some .int) none .sub)) [10,.k (.int .i64 1)] [],o2 12 (.p (.idxS 1)) [6,8] [],⟨none,none,false,.l (.store 1),[12,11],[],[]⟩]
def code (op:Bool):RC:=.seq (.ops r1) (.ops (if op then r3 else r2))
section
variable {E:Env} {N:Nat->FuncId} {H:bf} {id off L:Nat} {rs:List (List V)}
theorem Ol {h:Nat} {x y:V} {i:Nat} {v:V} (B:H[h]? = some (.row 2 [[x,y]])) (hv:[x,y][i]? = some v):ey H (.load 1 false) [.hptr h 0 i]=some v:=by
 match i,hv with
 | 0,hv=>cases hv;simp[ey,dL,B,Ob.rows,cut,mk]
 | 1,hv=>cases hv;simp[ey,dL,B,Ob.rows,cut,mk]
 | i+2,hv=>simp at hv
theorem whole (op:Bool) {a b c d:Int} (G:H[id]? = some (.row 1 rs)) (J:0<=(wq op c a)) (B:(wq op c a).toNat<L) {z:V} (D:rs[off+(wq op c a).toNat]? = some [z]) :
 ∃F' X,Ex E N (code op) [.hsl id 1 off L,.agg [.int .i64 a,.int .i64 b],.agg [.int .i64 c,.int .i64 d]] H .norm F' ((H++X).set id (.row 1 (rs.set (off+(wq op c a).toNat) [.int .i64 (wq op (IntKind.wrap .i64 (d-1)) b)]))):=by
 let X:bf:=[.row 2 [[.int .i64 a,.int .i64 b]],.row 2 [[.int .i64 c,.int .i64 d]]]
 have A:=(ζe.1 G).1;have e1:∃F1,(∀call,cr E N call none r1 [.hsl id 1 off L,.agg [.int .i64 a,.int .i64 b],.agg [.int .i64 c,.int .i64 d]] H=some (F1,H++X))/\get F1 0=.hsl id 1 off L/\get F1 4=.hptr H.length 0 0/\get F1 5=.hptr (H.length+1) 0 0:=by
  refine⟨_,λcall=>iQ (v:=.hptr H.length 0 0) (H1:=H++[.row 2 [[.int .i64 a,.int .i64 b]]]) rfl ?_ <| iQ (v:=.hptr (H.length+1) 0 0) (H1:=H++X) rfl ?_ dG,?_,?_,?_⟩
  .simp[bu,bn,get,ig,V.cells,V.one,Mk.val]
  .simp[bu,bn,get,bl,set,ig,V.cells,V.one,Mk.val,X]
  .simp[bl];rfl
  .simp[bl]
  .simp[bl]
 obtain⟨F1,p1,p2,p3,p4⟩:=e1;have h1:(H++X)[id]? = some (.row 1 rs):=by rw[List.getElem?_append_left A];exact G
 have C:(H++X)[H.length]? = some (.row 2 [[.int .i64 a,.int .i64 b]]):=by simp[X]
 have I:(H++X)[H.length+1]? = some (.row 2 [[.int .i64 c,.int .i64 d]]):=by
  rw[List.getElem?_append_right (by omega)];simp[X]
 obtain⟨H1,O⟩:∃H1,H1=H++X:=⟨_,rfl⟩;rw[<-O]at h1 C I;rw[<-O]at p1
 suffices U:∃F',Ex E N (code op) [.hsl id 1 off L,.agg [.int .i64 a,.int .i64 b],.agg [.int .i64 c,.int .i64 d]] H .norm F' (H1.set id (.row 1 (rs.set (off+(wq op c a).toNat) [.int .i64 (wq op (IntKind.wrap .i64 (d-1)) b)])))by
  obtain⟨F',W⟩:=U;exact⟨F',X,by rw[<-O];exact W⟩
 have u:∀p:Int,0<=p->p.toNat<L->kg 1 (.hsl id 1 off L) p=some (.hptr id (off+p.toNat) 0):=λp h0 Y=>by
  unfold kg;rw[if_neg (by omega)];simp[Y]
 have w:∀(q:Nat) (z v:V),rs[q]? = some [z]->v.one=true->eF H1 (.store 1) [.hptr id q 0,v]=some (.undef,H1.set id (.row 1 (rs.set q [v]))):=λq z v D hv=>by
  simp[eF,h1,D,Dt hv,hv]
 cases op with
 | false=>
  simp only[Sz]at J B D ⊢;have Q:=Ol (i:=0) C rfl;have S:=Ol (i:=1) C rfl;have e2:∃t,(∀call,cr E N call none r2 F1 H1=some (t,H1.set id (.row 1 (rs.set (off+a.toNat) [.int .i64 b])))):=by
   refine⟨_,λcall=>vp (v:=.hsl id 1 off L) rfl ?_ <| vp (v:=.hptr H.length 0 0) rfl ?_ <| vp (v:=.int .i64 a) rfl ?_ <| vp (v:=.hptr H.length 0 1) rfl ?_ <| vp (v:=.int .i64 b) rfl ?_ <| vp (v:=.hptr id (off+a.toNat) 0) rfl ?_ <| iQ (v:=.undef) rfl ?_ dG⟩
   .simp[bu,bn,bh,p2]
   .simp[bu,bn,bh,bl,fa,gu,p3]
   .simp only[bu,List.map_cons,List.map_nil,bn,bl,bp,Nat.reduceEqDiff,if_true,if_false,ld,Q,Option.map_some]
   .simp[bu,bn,bh,bl,fa,gu,p3]
   .simp only[bu,List.map_cons,List.map_nil,bn,bl,bp,Nat.reduceEqDiff,if_true,if_false,ld,S,Option.map_some]
   .simp only[bu,List.map_cons,List.map_nil,bn,bl,bp,Nat.reduceEqDiff,if_true,if_false,bh,u a J B,Option.map_some]
   .simp only[bu,List.map_cons,List.map_nil,bn,bl,bp,Nat.reduceEqDiff,if_true,if_false];exact w _ z _ D rfl
  obtain⟨t,T⟩:=e2;exact⟨t,Ex.seq (Ex.cM p1) (Ex.cM (l:=_) T)⟩
 | true=>
  simp only[S8]at J B D ⊢;have Q:=Ol (i:=0) I rfl;have S:=Ol (i:=1) I rfl;have e2:∃t,(∀call,cr E N call none r3 F1 H1=some (t,H1.set id (.row 1 (rs.set (off+c.toNat) [.int .i64 (IntKind.wrap .i64 (d-1))])))):=by
   refine⟨_,λcall=>vp (v:=.hsl id 1 off L) rfl ?_ <| vp (v:=.hptr (H.length+1) 0 0) rfl ?_ <| vp (v:=.int .i64 c) rfl ?_ <| vp (v:=.hptr (H.length+1) 0 1) rfl ?_ <| vp (v:=.int .i64 d) rfl ?_ <| vp (v:=.int .i64 (IntKind.wrap .i64 (d-1))) rfl ?_ <| vp (v:=.hptr id (off+c.toNat) 0) rfl ?_ <| iQ (v:=.undef) rfl ?_ dG⟩
   .simp[bu,bn,bh,p2]
   .simp[bu,bn,bh,bl,fa,gu,p4]
   .simp only[bu,List.map_cons,List.map_nil,bn,bl,bp,Nat.reduceEqDiff,if_true,if_false,ld,Q,Option.map_some]
   .simp[bu,bn,bh,bl,fa,gu,p4]
   .simp only[bu,List.map_cons,List.map_nil,bn,bl,bp,Nat.reduceEqDiff,if_true,if_false,ld,S,Option.map_some]
   .simp[bu,bn,bh,bl,gj]
   .simp only[bu,List.map_cons,List.map_nil,bn,bl,bp,Nat.reduceEqDiff,if_true,if_false,bh,u c J B,Option.map_some]
   .simp only[bu,List.map_cons,List.map_nil,bn,bl,bp,Nat.reduceEqDiff,if_true,if_false];exact w _ z _ D rfl
  obtain⟨t,T⟩:=e2;exact⟨t,Ex.seq (Ex.cM p1) (Ex.cM (l:=_) T)⟩
end
end setX
structure UA (S:Sys) {α δ:Type} [bt δ] (g:FuncId) (e:List V) (A:α->List V) (p:Sl δ->α->Option (Sl δ)):Prop where
 f:∃q,S.prm g=some q/\q.part=false/\S.E.keep g=true/\S.E.own g=false/\∀s z s',p s z=some s'->q.go (bt.size δ) (rows s.l) (A z++e)=some (rows s'.l)/\s'=s.re s'.l
section
variable {S:Sys} {c:cg} {β γ δ α:Type} [bt δ] {Q:Out×St->Option β} {e:γ->Option β} {cf:Cf}
end
end Go.VE
namespace Go.VE
variable [bN]
def snap (w:World):b9:=λb=>match w.heap[b]? with
 | some (.cells c _ _)=>some (.cells c)
 | some (.map es _)=>some (.map es)
 | _=>none
theorem L5 {w:World} (hg:si (snap w)):cG (snap w) (λ_=>none) [] w where
 dom _ _:=rfl
 imm b x h:=by
  unfold snap at h;split at h
  .rename_i c el fr t;cases h;exact⟨el,fr,t⟩
  .rename_i es cl t;cases h;exact⟨cl,t⟩
  .cases h
 obs id ob h:=by simp at h
 inj id u ob z p A h:=by simp at h
 gl:=hg
def fK (I:b9) (xs:List V) (vs:List Value):Prop:=xs.length=vs.length/\∀(j:Nat) a b,xs[j]? = some a->vs[j]? = some b->dU I a b
theorem fK.nil {I:b9}:fK I [] []:=⟨rfl,by simp⟩
theorem fK.one {I:b9} {x:V} {v:Value} (h:dU I x v):fK I [x] [v]:=⟨rfl,λj a b h1 t=>by
 cases j with
 | zero=>simp at h1 t;subst h1 t;exact h
 | succ j=>simp at h1⟩
theorem fK.append {I:b9} {xs ys:List V} {B vs:List Value} (h:fK I xs B) (k:fK I ys vs):fK I (xs++ys) (B++vs):=by
 refine⟨by simp[h.1,k.1],λj a b h1 t=>?_⟩
 by_cases u:j<xs.length
 .rw[List.getElem?_append_left u]at h1;rw[List.getElem?_append_left (by rw[<-h.1];exact u)]at t
  exact h.2 j a b h1 t
 .rw[List.getElem?_append_right (by omega)]at h1
  rw[List.getElem?_append_right (by rw[<-h.1];omega),<-h.1]at t
  exact k.2 _ a b h1 t
theorem Az {α β:Type} {f:α->Option β}:∀{l:List α} {r:List β},l.mapM f=some r->r.length=l.length/\∀(i:Nat) a b,l[i]? = some a->r[i]? = some b->f a=some b
 | [],r,h=>by simp only[List.mapM_nil,Option.pure_def,ζa]at h;subst h;simp
 | x::l,r,h=>by
  simp only[List.mapM_cons,Option.bind_eq_bind,Option.pure_def,ζg,ζa]at h;obtain⟨y,D,ys,B,rfl⟩:=h;obtain⟨h1,w⟩:=Az B;refine⟨by simp[h1],λi a b t u=>?_⟩
  cases i with
  | zero=>simp at t u;subst t u;exact D
  | succ i=>exact w i a b (by simpa using t) (by simpa using u)
structure tQ {H:Type} (b:DataW H->Nat):Prop where
 lit:∀l,1<=b (.lit l)
 str:∀s,s.length+1<=b (.lit (.string s))
 nil:1<=b .nil
 slice:∀es sp,(es.map b).sum+1<=b (.slice es sp)
 agg:∀ps,(ps.map b).sum+1<=b (.agg ps)
class cn (α:Type) where
 wt:α->Nat
 ok:α->Prop
instance:cn Int where
 wt _:=1
 ok n:=-9223372036854775808<=n/\n<=9223372036854775807
instance:cn Bool where
 wt _:=1
 ok _:=True
instance:cn ByteArray where
 wt s:=s.size+1
 ok s:=s.size<=maxLen
instance {α:Type} [cn α]:cn (Sl α) where
 wt s:=(s.l.map cn.wt).sum+1
 ok s:=(∀x∈s.l,cn.ok x)/\s≠.emp
class Reads (P:Program) (t:TypeId) (α:Type) [bt α] [cn α]:Prop where
 size:P.cellsOf t=bt.size α
 rd:∀{H:Type} {enc:TypeId×Value->H} {w:World} {base:Nat} {spare:Nat->Bool} {held:Bool} {fuel:Nat} {cs:List Value} {d:DataW H} {ps:List MemPlace},
  DataW.trod enc P w base spare held fuel t cs=some (d,ps)->∃a:α,fK (snap w) (cells a) cs/\cn.ok a/\∀b:DataW H->Nat,tQ b->cn.wt a<=b d
 shape:∀{w:World} {r:_root_.Go.Reach} {base:Nat} {v:Value},Value.okWide P w r base t v->if bt.agg α then ∃cs,v=.agg cs else v.cells=#[v]
section
variable {P:Program}
theorem pL {w:World} {r:_root_.Go.Reach} {base:Nat} {t:TypeId} {v:Value} {u:_} (hu:P.underlying t=some u) (h1:∀fs,u≠.struct fs) (B:∀n e,u≠.array n e) (h:Value.okWide P w r base t v):v.cells=#[v]:=by
 cases v with
 | agg A=>
  exfalso;unfold Value.okWide at h;rw[hu]at h;split at h
  .rename_i fs z;cases z;exact h1 _ rfl
  .rename_i n e z;cases z;exact B _ _ rfl
  .unfold Cell.okWide at h;rw[hu]at h;split at h <;> first|(simp at *;done)|skip
   unfold Cell.ok at h;rw[hu]at h;cases u <;> simp at h
 | _=>rfl
theorem Reads.int {t:TypeId} (hu:P.underlying t=some (.int .i64)) (hc:P.cellsOf t=1):Reads P t Int where
 size:=hc
 rd {H enc w base spare held z C d ps} h:=by
  cases z with
  | zero=>simp[DataW.trod]at h
  | succ z=>
   simp only[DataW.trod,hu]at h;split at h <;> first|(simp at h;done)|skip
   .rename_i u;cases u
   .rename_i k D n u;simp only[ζa,TypeDesc.int.injEq]at u;split at h
    .rename_i hk;obtain⟨rfl,A⟩:=hk;subst u;cases h;exact⟨n,fK.one (.int _ n),show _/\_ by simpa [Lit.wf,IntKind.min,IntKind.max,IntKind.signed,IntKind.bits]using A,λb B=>B.lit _⟩
    .simp at h
   all_goals (rename_i u;cases u)
 shape h:=by simp only[show bt.agg Int=false from rfl];exact pL hu (by simp) (by simp) h
theorem Reads.bool {t:TypeId} (hu:P.underlying t=some .bool) (hc:P.cellsOf t=1):Reads P t Bool where
 size:=hc
 rd {H enc w base spare held u B d ps} h:=by
  cases u with
  | zero=>simp[DataW.trod]at h
  | succ u=>
   simp only[DataW.trod,hu]at h;split at h <;> first|(simp at h;done)|skip
   .rename_i b _;cases h;exact⟨b,fK.one (.bool b),trivial,λb A=>A.lit _⟩
   all_goals (rename_i z;cases z)
 shape h:=by simp only[show bt.agg Bool=false from rfl];exact pL hu (by simp) (by simp) h
theorem Reads.str {t:TypeId} (hu:P.underlying t=some .string) (hc:P.cellsOf t=1):Reads P t ByteArray where
 size:=hc
 rd {H enc w base spare held u C d ps} h:=by
  cases u with
  | zero=>simp[DataW.trod]at h
  | succ u=>
   simp only[DataW.trod,hu]at h;split at h <;> first|(simp at h;done)|skip
   all_goals (first|(rename_i z;cases z;done)|skip)
   rename_i s _;split at h
   .rename_i A;cases h;exact⟨s,fK.one (.str s),A,λb B=>B.str _⟩
   .simp at h
 shape h:=by simp only[show bt.agg ByteArray=false from rfl];exact pL hu (by simp) (by simp) h
theorem MX {w:World} {a:Addr} {n:Nat} {v:Value} (h:w.cell? (a.add n)=some v) (B:n=0\/True):∃c el fr,w.heap[a.block]? = some (.cells c el fr)/\c[a.off+n]? = some v/\(n=0->a.spot=none):=by
 unfold World.cell? Addr.add at h
 by_cases h0:n=0
 .subst h0;simp only[if_true]at h;split at h
  .rename_i c el fr t;split at h
   .simp at h
   .rename_i u;exact⟨c,el,fr,t,h,λ_=>by simpa using u⟩
  .simp at h
 .simp only[if_neg h0]at h;split at h
  .rename_i c el fr t;simp only[Option.isSome_none,Bool.false_eq_true,if_false]at h;exact⟨c,el,fr,t,h,λe=>absurd e h0⟩
  .simp at h
theorem Reads.sl {t e:TypeId} {α:Type} [bt α] [cn α] [Reads P e α] (hu:P.underlying t=some (.slice e)) (hc:P.cellsOf t=1) (U:0<bt.size α):Reads P t (Sl α) where
 size:=hc
 rd {H enc w base spare held G cs d ps} h:=by
  cases G with
  | zero=>simp[DataW.trod]at h
  | succ G=>
   simp only[DataW.trod,hu]at h;split at h <;> first|(simp at h;done)|skip
   all_goals (first|(rename_i I;cases I;done)|skip)
   .cases h;exact⟨.nil,fK.one .bB,⟨λx T=>by simp[Sl.l]at T,by simp⟩,λb W=>W.nil⟩
   .rename_i e' a len cap I;cases I;split at h
    .rename_i X;obtain⟨elems,ae,h⟩:=ζg.1 h;obtain⟨rest,_,h⟩:=ζf.1 h;cases h;obtain⟨Y,Z⟩:=Az ae;simp only[List.length_range]at Y;have af:P.cellsOf e=bt.size α:=Reads.size (α:=α);have T:∀i,i<len->∃x:α,∃u:List Value,w.cells? base (a.add (i*P.cellsOf e)) (P.cellsOf e)=some u/\fK (snap w) (cells x) u/\cn.ok x/\∀b:DataW H->Nat,tQ b->∀y,elems[i]? = some y->cn.wt x<=b y.1:=λi J=>by
      have:=Z i i (elems[i]'(by omega)) (by simp[J]) (ζd (by omega))
      obtain⟨u,h1,L⟩:=ζg.1 this;obtain⟨x,T,hk,W⟩:=Reads.rd (P:=P) (t:=e) (α:=α) (d:=(elems[i]'(by omega)).1) (ps:=(elems[i]'(by omega)).2) L
      exact⟨x,u,h1,T,hk,λb O y hy=>by
       rw[ζd (by omega)]at hy;cases hy;exact W b O⟩
     have aa:∀n,n<=len->∃z:List α,z.length=n/\(∀i x,z[i]? = some x->∃u:List Value,w.cells? base (a.add (i*P.cellsOf e)) (P.cellsOf e)=some u/\fK (snap w) (cells x) u)/\(∀x∈z,cn.ok x)/\∀b:DataW H->Nat,tQ b->(z.map cn.wt).sum<=(((elems.take n).map (·.1)).map b).sum:=by
      intro n
      induction n with
      | zero=>intro _;exact⟨[],rfl,by simp,by simp,by simp⟩
      | succ n ih=>
       intro hn;obtain⟨z,h1,L,h5,h6⟩:=ih (by omega)
       obtain⟨x,u,h3,h4,h7,h8⟩:=T n (by omega)
       refine⟨z++[x],by simp[h1],λi y hy=>?_,λy hy=>?_,λb O=>?_⟩
       rotate_left
       .rcases List.mem_append.1 hy with hy|hy
        .exact h5 y hy
        .simp at hy;subst hy;exact h7
       .have k1:=h6 b O;have k2:=h8 b O _ (ζd (by omega))
        rw[List.take_succ,ζd (by omega:n<elems.length)]
        simp only[List.map_append,List.sum_append,Option.toList_some,List.map_cons,List.map_nil,List.sum_cons,List.sum_nil];omega
       by_cases J:i<z.length
       .rw[List.getElem?_append_left J]at hy;exact L i y hy
       .rw[List.getElem?_append_right (by omega)]at hy
        have:i-z.length=0:=by
         cases hk:i-z.length with
         | zero=>rfl
         | succ k=>rw[hk]at hy;simp at hy
        rw[this]at hy;simp at hy;subst hy;have:i=n:=by omega
        subst this;exact⟨u,h3,h4⟩
     obtain⟨z,B,ah,ab,ai⟩:=aa len (Nat.le_refl _);refine⟨.row z,fK.one ?_,⟨ab,by simp⟩,λb O=>?_⟩
     rotate_left
     .have k:=ai b O;rw[List.take_of_length_le (by omega)]at k
      have k2:=O.slice (elems.map (·.1)) (rest.map (·.1));show (z.map cn.wt).sum+1<=_;omega
     show dU _ (.fsl (bt.size α) (rows z)) _
     cases hl:z with
     | nil=>
      subst hl;simp at B;subst B;exact .fsl0 _ _ _
     | cons x0 xr=>
      rw[<-hl];have ao:0<len:=by rw[<-B,hl];simp
      have Q:∀i x,z[i]? = some x->∀j y,(cells x)[j]? = some y->∃v,w.cell? ((a.add (i*bt.size α)).add j)=some v/\dU (snap w) y v:=by
       intro i x J j y hy;obtain⟨u,h1,L⟩:=ah i x J;rw[af]at h1;unfold World.cells? at h1;split at h1
       .obtain⟨g1,g2⟩:=Az h1;have hj:j<bt.size α:=by rw[<-ez x];exact(ζe.1 hy).1
        obtain⟨v,hv⟩:∃v,u[j]? = some v:=⟨_,ζd (by rw[g1];simpa using hj)⟩
        exact⟨v,g2 j j v (by simp[hj]) hv,L.2 j y v hy hv⟩
       .simp at h1
      have an:∀i j,(a.add (i*bt.size α)).add j=a.add (i*bt.size α+j)\/True:=λ_ _=>.inr trivial
      have A:∀i x,z[i]? = some x->∀j y,(cells x)[j]? = some y->∃c el fr v,w.heap[a.block]? = some (.cells c el fr)/\c[a.off+i*bt.size α+j]? = some v/\dU (snap w) y v/\(i=0->j=0->a.spot=none):=by
       intro i x J j y hy;obtain⟨v,h1,L⟩:=Q i x J j y hy;obtain⟨c,el,fr,g1,g2,g3⟩:=MX h1 (.inr trivial);have W:(a.add (i*bt.size α)).block=a.block:=by unfold Addr.add;split <;> rfl
       have ho:(a.add (i*bt.size α)).off=a.off+i*bt.size α:=by unfold Addr.add;split <;> simp_all
       rw[W]at g1;rw[ho]at g2;refine⟨c,el,fr,v,g1,g2,L,?_⟩;rintro rfl rfl;have:=g3 rfl;simpa [Addr.add]using this
      have aj:∃y,(cells x0)[0]? = some y:=⟨_,ζd (by rw[ez];exact U)⟩
      obtain⟨y0,ak⟩:=aj;obtain⟨c,el,fr,v0,C,_,_,D⟩:=A 0 x0 (by rw[hl];rfl) 0 y0 ak
      have D:=D rfl rfl;obtain⟨b,o,sp⟩:=a;simp only at D C;subst D;have hI:snap w b=some (.cells c):=by unfold snap;rw[C]
      have S:(rows z).length=len:=by rw[fG,B]
      rw[<-S];refine .fsl _ _ b o cap c hI (by rw[S];exact X.2.1) (λr hr=>?_) (λr hr y hy=>?_) ?_ (λi j r y v hr hy hv=>?_)
      .obtain⟨x,_,rfl⟩:=List.mem_map.1 hr;exact ez x
      .obtain⟨x,_,rfl⟩:=List.mem_map.1 hr;exact List.all_eq_true.1 (nL x) y hy
      .
       obtain⟨xl,ad⟩:∃x,z[len-1]? = some x:=⟨_,ζd (by omega)⟩
       obtain⟨yl,al⟩:∃y,(cells xl)[bt.size α-1]? = some y:=⟨_,ζd (by rw[ez];omega)⟩
       obtain⟨c2,_,_,v2,k1,k2,_,_⟩:=A (len-1) xl ad (bt.size α-1) yl al;simp only at k1 k2;rw[C]at k1;cases k1;have:=(Array.getElem?_eq_some_iff.1 k2).1;rw[S];have e:len*bt.size α=(len-1)*bt.size α+bt.size α:=by
        obtain⟨m,rfl⟩:∃m,len=m+1:=⟨len-1,by omega⟩
        simp[Nat.add_mul]
       omega
      .simp only[rows,List.getElem?_map,ζf]at hr;obtain⟨x,am,rfl⟩:=hr;obtain⟨c2,_,_,v2,k1,k2,k3,_⟩:=A i x am j y hy;simp only at k1 k2;rw[C]at k1;cases k1;rw[hv]at k2;cases k2;exact k3
    .simp at h
 shape h:=by simp only[show bt.agg (Sl α)=false from rfl];exact pL hu (by simp) (by simp) h
theorem fK.seg {I:b9} {acc xs:List V} {cs:List Value} {o n:Nat} (h:fK I acc (cs.take o)) (k:fK I xs ((cs.drop o).take n)):fK I (acc++xs) (cs.take (o+n)):=by
 rw[List.take_add];exact h.append k
theorem fK.fin {I:b9} {xs:List V} {cs:List Value} {n:Nat} (h:fK I xs (cs.take n)) (B:cs.length=n):fK I xs cs:=by
 rw[List.take_of_length_le (by omega)]at h;exact h
theorem Reads.st {t:TypeId} {fs:Array Field} {α:Type} [bt α] [cn α] (hu:P.underlying t=some (.struct fs)) (hc:P.cellsOf t=bt.size α) (D:bt.agg α=true)
 (h:∀{H:Type} {enc:TypeId×Value->H} {w:World} {base:Nat} {spare:Nat->Bool} {held:Bool} {B:Nat} {cs:List Value} {l:List (DataW H×List MemPlace)},cs.length=bt.size α ->
  (fs.toList.mapM λf=>DataW.trod enc P w base spare held B f.type ((cs.drop f.offset).take (P.cellsOf f.type)))=some l->∃a:α,fK (snap w) (cells a) cs/\cn.ok a/\∀b:DataW H->Nat,tQ b->cn.wt a<=((l.map (·.1)).map b).sum+1):Reads P t α where
 size:=hc
 rd {H enc w base spare held B cs d ps} hr:=by
  cases B with
  | zero=>simp[DataW.trod]at hr
  | succ B=>
   simp only[DataW.trod,hu]at hr;split at hr <;> first|(simp at hr;done)|skip
   all_goals (first|(rename_i u;cases u;done)|skip)
   rename_i A;obtain⟨l,h1,C⟩:=ζf.1 hr;cases C;obtain⟨a,k1,k2,k3⟩:=h (by rw[A,hc]) h1
   exact⟨a,k1,k2,λb z=>Nat.le_trans (k3 b z) (z.agg _)⟩
 shape hv:=by
  rw[if_pos D];unfold Value.okWide at hv;rw[hu]at hv;obtain⟨cs,h1,_⟩:=hv;exact⟨cs,h1⟩
theorem Reads.arg {t:TypeId} {α:Type} [bt α] [cn α] [Reads P t α] {H:Type} {B:TypeId×Value->H} {w:World} {base:Nat} {spare:Nat->Bool} {held:Bool} {r:_root_.Go.Reach} {b:Nat} {v:Value} {d:DataW H} {ps:List MemPlace}
 (hv:Value.okWide P w r b t v) (h:DataW.Trod B P w base spare held t v d ps):∃a:α,bA (snap w) (λ_=>none) (enc a) v/\cn.ok a/\∀b:DataW H->Nat,tQ b->cn.wt a<=b d:=by
 obtain⟨G,h⟩:=h;obtain⟨a,⟨h1,z⟩,C,D⟩:=Reads.rd (P:=P) (t:=t) (α:=α) h;have u:=Reads.shape (P:=P) (t:=t) (α:=α) hv;refine⟨a,?_,C,D⟩
 cases A:bt.agg α with
 | true=>
  rw[A,if_pos rfl]at u;obtain⟨L,rfl⟩:=u;rw[yQ A];refine .c _ _ (.agg _ _ (by simpa [Value.cells]using h1) (λj x y I J=>z j x y I (by simpa [Value.cells]using J)))
 | false=>
  rw[A]at u;simp only[Bool.false_eq_true,if_false]at u;rw[u]at z;rw[vc A]at z;exact .c _ _ (z 0 _ _ rfl rfl)
end
end Go.VE
namespace Go.VE
variable [bN]
open Go.ChangeShapes Go.WideShapes Go.ChangeAt Go.RowKit
structure Eo (w w':World):Prop where
 kept:w.keptBut w' (λ_=>False)
 fz:∀a:Addr,a.block<w.heap.size->w'.frozen? a=w.frozen? a
theorem DL {I I':b9} {μ':Mu} {H':bf} {w w':World} (s:Step I (λ_=>none) [] w I' μ' H' w'):Eo w w':=by
 have z:∀b,b<w.heap.size->w'.heap[b]? = w.heap[b]? := λb u=>s.frame b u (by rintro⟨id,p,ob,h,_⟩;simp at h)
 refine⟨⟨s.os,s.out.out,λi A=>?_⟩,λa u=>?_⟩
 .rw[z i A];split
  .rename_i h1 t;rw[h1]at t;cases t;exact⟨rfl,rfl,rfl,λ_ _=>rfl⟩
  .rename_i h1 t;rw[h1]at t;cases t;exact .inr ⟨rfl,rfl⟩
  .rfl
 .unfold World.frozen?;rw[z _ u]
theorem EL {P:Program} {call:c7} (hc:jI P call) {f:FuncId} {args:List V} {b:Bool} {H':bf} (h:call (.fn f) args []=some (.bool b,H')) {w:World} {vs:List Value}
 (B:si (snap w)) (hv:cz (snap w) (λ_=>none) args vs):Calls P f vs.toArray w λe w'=>e=.returned (.bool b)/\Eo w w':=by
 intro A;have k:=((hc.fn f args [] _ H' h).2 (snap w) (λ_=>none) w vs (L5 B) hv)
 obtain⟨e,w',fr,⟨u,I',μ',rfl,hu,_,C⟩,t,h1,D⟩:=k.2 A (by simp[Fence.room,fr])
 refine⟨_,w',fr,⟨?_,DL C⟩,t.comes,h1,D⟩
 cases hu with
 | c _ _ z=>cases z;rfl
variable {P:Program} {H:Type} {enc:TypeId×Value->H}
theorem DK {B:List TypeId} {vs:List Value} {ds:List (DataW H)} {ps:List MemPlace} {w w':World} (hg:Eo w w') (h:DataW.TrodAll enc P w 0 (λ_=>true) true B vs ds ps):DataW.TrodAll enc P w' 0 (λ_=>true) true B vs ds ps:=by
 have z:∀p:MemPlace,p.block<w.heap.size->w.sameAt w' p:=by
  intro p A;have k:=hg.kept.2.2 p.block A
  cases p with
  | cell b off=>
   simp only[World.sameAt,World.cell?];simp only[MemPlace.block]at k A;split at k
   .rename_i c t fr c' D C h1 u;rw[h1,u];simp only;have:=k.2.2.2 off (λx=>x)
    simpa using this
   .rename_i h1 u;rw[h1,u]
   .rw[k]
  | map b=>
   simp only[World.sameAt];simp only[MemPlace.block]at k A;split at k
   .rename_i c t fr c' D C h1 u;obtain⟨rfl,rfl,L,G⟩:=k;rw[h1,u];have:c'=c:=Array.ext_getElem? λi=>G i (λx=>x)
    rw[this]
   .rename_i h1 u;rcases k with k|⟨rfl,rfl⟩
    .exact k.elim
    .rw[h1,u]
   .exact k
 induction B generalizing vs ds ps with
 | nil=>cases vs <;> cases ds <;> simp_all [DataW.TrodAll]
 | cons t B I=>
  cases vs with
  | nil=>simp[DataW.TrodAll]at h
  | cons v vs=>
   cases ds with
   | nil=>simp[DataW.TrodAll]at h
   | cons d ds=>
    obtain⟨p,q,⟨n,h1⟩,u,rfl⟩:=h;exact⟨p,q,⟨n,DataW.trod_carry n _ _ _ h1 λx J=>z x (DataW.trod_lt n _ _ _ h1 x J)⟩,I u,rfl⟩
theorem JM {T:TypeId->Prop} (K:Kids P T) (Y:∀t e,T t->P.underlying t=some (.slice e)->0<P.cellsOf e) {f:Func} {s:ChangeSpec} {apart fresh handsOn again:Bool} {W G:World} {args:Array Value} {ds gs:List (DataW H)} {before:List MemPlace} {tb:TypeId}
 (hT:∀t∈f.params.toList,T t) (B:s.vars=[]) (D:s.fn H (ds++gs)={ results:=[.lit (.bool true)],args:=ds }) (J:f.resultTypes=#[tb]) (O:P.underlying tb=some .bool)
 (U:DataW.Whole enc P f.params.toList s.vars apart W args.toList ds gs before) (hg:Eo W G):s.post enc P f apart fresh handsOn again W args (.bool true) G:=by
 have z:=U;obtain⟨p,q,X,Q,rfl,I,nr⟩:=U;rw[B]at Q;obtain⟨rfl,rfl⟩:=trodVars_none Q;have hr:∀(b:Nat) (w:Nat->Bool) (Z:Bool),DataW.TrodAll enc P G b w Z f.resultTypes.toList ((Value.bool true).resultList f.resultTypes.size) (s.fn H (ds++[])).results []:=λ_ _ _=>by
  rw[J,D];exact trodAll_cons_mk (shut_bool O _) trodAll_mk0
 have S:∀w:Nat->Bool,(∀x∈p++[],w x.block=true)->DataW.TrodAll enc P G 0 w true f.params.toList args.toList (s.fn H (ds++[])).args p:=λw L=>by
  rw[D];exact DataW.TrodAll.respare K Y hT (DK hg X) (λx u=>L x (List.mem_append_left _ u))
 have hv:∀w:Nat->Bool,DataW.TrodVars enc P G w s.vars (s.fn H (ds++[])).vars []:=λw=>by rw[D,B];rfl
 have A:=λx u=>z.lt x u
 refine⟨ds,[],p++[],[],p,[],z,hr _ _ _,S _ λx u=>by simpa using A x u,hv _,World.keptBut_mono (λx u=>u.elim) hg.kept,λ_=>⟨ok_one J rfl (okWide_bool_mk O _),?_⟩⟩
 refine⟨_,_,[]++p++[],⟨[]++p,[],trodAll_append (S _ λ_ _=>rfl) (hr _ _ _),hv _,rfl,λb off u=>?_,λh=>by simpa using nr h⟩,λx u _=>by simpa using u⟩
 have C:MemPlace.cell b off∈p++[]:=by simpa using u
 rw[hg.fz _ (A _ C)];exact I b off C
end Go.VE
namespace Go.VE
variable [bN]
instance:cn U8 where
 wt _:=1
 ok n:=0<=n.v/\n.v<=255
theorem Reads.u8 {P:Program} {t:TypeId} (hu:P.underlying t=some (.int .u8)) (hc:P.cellsOf t=1):Reads P t U8 where
 size:=hc
 rd {H enc w base spare held z C d ps} h:=by
  cases z with
  | zero=>simp[DataW.trod]at h
  | succ z=>
   simp only[DataW.trod,hu]at h;split at h <;> first|(simp at h;done)|skip
   .rename_i u;cases u
   .rename_i k D n u;simp only[ζa,TypeDesc.int.injEq]at u;split at h
    .rename_i hk;obtain⟨rfl,A⟩:=hk;subst u;cases h;exact⟨⟨n⟩,fK.one (.int _ n),show _/\_ by simpa [Lit.wf,IntKind.min,IntKind.max,IntKind.signed,IntKind.bits]using A,λb B=>B.lit _⟩
    .simp at h
   all_goals (rename_i u;cases u)
 shape h:=by simp only[show bt.agg U8=false from rfl];exact pL hu (by simp) (by simp) h
end Go.VE
namespace Go.VE
variable [bN]
theorem Ii {m:Tb bD} {n:Nat} {rs:List SV} {b:Bool} (h:cS m n rs=some [.bool b]):rs=[.v (.bool b)]:=by
 cases rs with
 | nil=>cases n <;> simp[cS]at h
 | cons x r=>
  have h1:shut m n x=some (.bool b)/\cS m n r=some []:=by
   unfold cS at h;split at h
   .rename_i y s h1 u;simp only[ζa,List.cons.injEq]at h;obtain⟨rfl,rfl⟩:=h;exact⟨h1,u⟩
   .cases h
  have u:r=[]:=by
   cases r with
   | nil=>rfl
   | cons y r=>
    have:=h1.2;unfold cS at this;split at this <;> simp at this
  subst u;have t:=h1.1
  cases x with
  | v y=>unfold shut at t;simp only[ζa]at t;rw[t]
  | own d=>unfold shut at t;split at t <;> simp only[ζa,reduceCtorEq]at t;rename_i k es z _;cases k <;> simp[nu]at t
  | ptr d o=>
   cases n with
   | zero=>simp[shut]at t
   | succ n=>
    unfold shut at t;split at t <;> try cases t
    split at t <;> try cases t
    split at t <;> cases t
  | mp d=>unfold shut at t;split at t <;> cases t
  | clo f a b=>
   cases n with
   | zero=>simp[shut]at t
   | succ n=>unfold shut at t;split at t <;> cases t
  | tup l=>
   cases n with
   | zero=>simp[shut]at t
   | succ n=>unfold shut at t;obtain⟨_,_,w⟩:=ζf.1 t;cases w
  | _=>cases n <;> simp[shut]at t
theorem MA {S:Sys} {T:pF} (B:pP S T) (D:∀f a b xs,S.items f a b=some xs->eU S f a b xs) {f:FuncId} {xs:List V} (hg:V.cq xs=true) (h:lW (c8 S T) f xs=some [.bool true]) :
 ∃n H',run S.E n (.fn f) xs []=some (.bool true,H'):=by
 unfold lW at h;obtain⟨⟨rs,m⟩,h1,t⟩:=ζg.1 h;have:=Ii t;simp only at this;subst this;exact Pn B D hg h1 rfl
theorem IV {S:Sys} {T:pF} {P:Program} (B:pP S T) (D:∀f a b xs,S.items f a b=some xs->eU S f a b xs) (hc:∀n,jI P (run S.E n)) {f:FuncId} {xs:List V} (hg:V.cq xs=true) (h:lW (c8 S T) f xs=some [.bool true])
 {w:World} {args:Array Value} (G:si (snap w)) (hv:cz (snap w) (λ_=>none) xs args.toList):Calls P f args w λe w'=>e=.returned (.bool true)/\Eo w w':=by
 obtain⟨n,H',hr⟩:=MA B D hg h;have:=EL (hc n) hr G hv;simpa using this
theorem Reads.N3 {P:Program} {t:TypeId} {α:Type} [bt α] [cn α] [Reads P t α] {H:Type} {B:TypeId×Value->H} {w:World} {base b:Nat} {spare:Nat->Bool} {held:Bool} {v:Value} {d:DataW H} {ps:List MemPlace} {params:Array TypeId} {args:Array Value}
 (D:∀(j:Nat) t v,params[j]? = some t->args[j]? = some v->Value.okWide P w .any b t v) (j:Nat) (h1:params[j]? = some t) (G:args[j]? = some v) (h:DataW.Trod B P w base spare held t v d ps) :
 ∃a:α,bA (snap w) (λ_=>none) (enc a) v/\cn.ok a/\∀b:DataW H->Nat,tQ b->cn.wt a<=b d:=Reads.arg (D j t v h1 G) h
end Go.VE
namespace Go.VE
theorem Ni {w:World} {g:Nat} {l:List Int} (h:∀i,i<l.length->w.cell? ⟨g,i,none⟩=some (.int .i64 (l.getD i 0))) (h0:0<l.length):dU (snap w) (.fptr (l.map (V.int .i64))) (.pointer (some ⟨g,0,none⟩)):=by
 have h1:=h 0 h0;unfold World.cell? at h1;split at h1
 .rename_i c t fr u;have C:snap w g=some (.cells c):=by unfold snap;simp only at u;rw[u]
  have hc:∀i,w.cell? ⟨g,i,none⟩=c[i]? := λi=>by unfold World.cell?;simp only at u ⊢;rw[u];rfl
  refine .fptr _ _ _ c C ?_ ?_
  .rw[Nat.zero_add,List.length_map];have:=h (l.length-1) (by omega)
   rw[hc]at this;have:=(Array.getElem?_eq_some_iff.1 this).1;omega
  .intro j y v A hv;rw[Nat.zero_add,<-hc]at hv;rw[List.getElem?_map]at A;obtain⟨z,B,rfl⟩:=ζf.1 A;have D:=(ζe.1 B).1;rw[h j D]at hv;cases hv;have:l.getD j 0=z:=by simp[List.getD,B]
   rw[this];exact .int _ _
 .cases h1
end Go.VE
namespace Go.VE
variable [bN]
theorem cC (n:Nat) (h:n<9223372036854775807):IntKind.wrap .i64 ((n:Int)+1)=((n+1:Nat):Int):=by
 simp[IntKind.wrap,IntKind.bits,IntKind.signed];omega
theorem jU (n:Int) (h1:-9223372036854775808<=n) (B:n<=9223372036854775807):IntKind.wrap .i64 n=n:=by
 simp[IntKind.wrap,IntKind.bits,IntKind.signed];omega
section
variable {α β:Type} {P:β->Prop}
theorem lH (s:Sl α) (i:Nat):idx s (i:Int)=s.l[i]? := by
 unfold idx;rw[if_pos (by omega)];rfl
theorem bK {s:Sl α} {i:Nat} (h:i<s.l.length):idx s (i:Int)=some s.l[i]:=by rw[lH,ζd h]
theorem Is {s:Sl α} {i:Int} (h0:0<=i):idx s i=s.l[i.toNat]? := by unfold idx;rw[if_pos h0]
theorem uA (s:Sl α) (i:Nat) (h:i<=s.l.length):∃x,fR s none (some (i:Int))=some x/\x.l=s.l.take i:=by
 unfold fR dD;simp only[Option.getD_none,Option.getD_some];rw[if_pos (by omega)]
 cases s <;> simp[Sl.l]at h ⊢ <;> simp[h]
theorem bS {γ:Type} {a b:γ}:bq true a b=a:=rfl
theorem b_ {γ:Type} {a b:γ}:bq false a b=b:=rfl
theorem mh (a b:Bool):bq a (some b) (some false)=some (a&&b):=by cases a <;> rfl
theorem iV (a b:Bool):bq a (some true) (some b)=some (a||b):=by cases a <;> rfl
theorem rJ (a:Bool) (x y:β):bq a (some x) (some y)=some (if a then x else y):=by cases a <;> rfl
end
def place {α:Type} (f:α->Bool) (l:List α):Int:=match l.findIdx? f with
 | some i=>i
 | none=>-1
theorem yK {α:Type} {f:α->Bool} {l:List α} {i:Nat} (h:∀j,j<i->∀x,l[j]? = some x->f x=false) (B:l.length<=i):l.findIdx? f=none:=by
 rw[List.findIdx?_eq_none_iff];intro x u;obtain⟨j,t⟩:=List.getElem?_of_mem u;have:j<l.length:=(ζe.1 t).1;exact h j (by omega) x t
theorem zQ {α:Type} {f:α->Bool} {l:List α} {i:Nat} {x:α} (h:∀j,j<i->∀x,l[j]? = some x->f x=false) (B:l[i]? = some x) (D:f x=true):l.findIdx? f=some i:=by
 rw[List.findIdx?_eq_some_iff_getElem];obtain⟨t,rfl⟩:=ζe.1 B;exact⟨t,D,λj u=>by rw[h j u _ (ζd (by omega))];simp⟩
theorem sS {α:Type} {step:Int->Option (Fw Int Unit Int)} {s:Sl α} {p:α->Option Bool} {f:α->Bool} (G:∀x∈s.l,p x=some (f x)) (O:s.l.length<9223372036854775807)
 (J:∀i,step i=bq (decide (i<len s)) ((idx s i).bind λB=>(p B).bind λD=>bq D (some (.r i)) (some (.n (IntKind.wrap .i64 (i+1))))) (some (.x ()))) :
 (bO step 0).bind (Fw.elim (λ_=>some (-1)) (λe=>some e))=some (place f s.l):=by
 refine Wp.eq (gU (λi:Int=>∃n:Nat,i=n/\n<=s.l.length/\∀j,j<n->∀x,s.l[j]? = some x->f x=false) (λi:Int=>s.l.length-i.toNat) ⟨0,rfl,Nat.zero_le _,λj C=>absurd C (by omega)⟩ ?_)
 rintro i ⟨n,rfl,I,u⟩;rw[J,bZ];refine⟨λh=>?_,λh=>?_⟩
 .have t:n<s.l.length:=by simpa [len]using h
  rw[bK t,ζb,G _ (List.getElem_mem t),ζb,bZ];refine⟨λw=>?_,λw=>?_⟩
  .rw[aZ];show Wp (some (n:Int)) _;rw[aZ];unfold place;rw[zQ u (ζd t) w]
  .rw[aZ];refine⟨⟨n+1,cC n (by omega),by omega,λj C x z=>?_⟩,?_⟩
   .by_cases e:j=n
    .subst e;rw[ζd t]at z;cases z;exact w
    .exact u j (by omega) x z
   .rw[cC n (by omega)];simp;omega
 .have A:s.l.length<=n:=by simpa [len]using h
  rw[aZ];show Wp (some (-1:Int)) _;rw[aZ];unfold place;rw[yK u A]
theorem uF {α:Type} (f:α->Bool) (l:List α):decide (place f l>=0)=l.any f:=by
 unfold place
 cases h:l.findIdx? f with
 | none=>
  rw[List.findIdx?_eq_none_iff]at h;have:l.any f=false:=by rw[List.any_eq_false];intro x t;simp[h x t]
  rw[this];rfl
 | some i=>
  obtain⟨u,w,_⟩:=List.findIdx?_eq_some_iff_getElem.1 h;have:l.any f=true:=List.any_eq_true.2 ⟨_,List.getElem_mem u,w⟩;rw[this];simp
theorem LY {α σ ε ρ:Type} {step:α->σ->Option (Fw σ ε ρ)} {l:List α} (I:Nat->σ->Prop) (D:ε->Prop) (G:ρ->Prop) {s:σ} (h0:I 0 s)
 (h:∀i a s,l[i]? = some a->I i s->Wp (step a s) λw=>match w with|.n B=>I (i+1) B|.x e=>D e|.r b=>G b) :
 Wp (m_ step l s) λw=>match w with|.n B=>I l.length B|.x e=>D e|.r b=>G b:=by
 have key:∀(r:List α) (i:Nat) (s:σ),l.drop i=r->i<=l.length->I i s->Wp (m_ step r s) λw=>match w with|.n B=>I l.length B|.x e=>D e|.r b=>G b:=by
  intro r
  induction r with
  | nil=>
   intro i s t C z;have:i=l.length:=by have:=List.drop_eq_nil_iff.1 t;omega
   subst this;exact⟨_,rfl,z⟩
  | cons a r J=>
   intro i s t C z;have u:i<l.length:=by
    apply Classical.byContradiction;intro Q;rw[List.drop_eq_nil_of_le (by omega)]at t;cases t
   have L:=List.drop_eq_getElem_cons u;rw[L]at t;simp only[List.cons.injEq]at t;obtain⟨w,O,A⟩:=h i a s (by rw[ζd u,t.1]) z
   simp only[m_,O,ζb]
   cases w with
   | n B=>exact J (i+1) B t.2 (by omega) A
   | x e=>exact⟨_,rfl,A⟩
   | r b=>exact⟨_,rfl,A⟩
 exact key l 0 s rfl (Nat.zero_le _) h0
theorem zb {α σ ε ρ γ:Type} {step:α->σ->Option (Fw σ ε ρ)} {l:List α} {fn:σ->Option γ} {B:ε->Option γ} {fr:ρ->Option γ} {P:γ->Prop} (I:Nat->σ->Prop) {s:σ} (h0:I 0 s)
 (h:∀i a s,l[i]? = some a->I i s->Wp (step a s) λw=>match w with|.n D=>I (i+1) D|.x e=>Wp (B e) P|.r b=>Wp (fr b) P)
 (G:∀s,I l.length s->Wp (fn s) P):Wp ((m_ step l s).bind (Fw.uW fn B fr)) P:=by
 rw[eD];refine(LY I _ _ h0 h).mono ?_;intro w t
 cases w with
 | n s=>exact G s t
 | x e=>exact t
 | r b=>exact t
end Go.VE
