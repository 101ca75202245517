/-
 Certificates; functions by hand; readings; plain laws.
-/
import Derived.JoinedCond
import Derived.ReadAgain
import Derived.WalkKit
import Derived.ProofKit
import Derived.OpenShut
import Derived.ChangeSame
import Derived.RowKit3
import Derived.Lib.LaidTab
import Derived.Test.YtlmckmkfopljoaaGreatDoorV2
import Derived.Test.YtlmckmkfopljoaaGreatDoorN2
import Derived.Test.YtlmckmkfopljoaaGreatDoorS1
set_option linter.all false
namespace Go.VE
variable [bM]
abbrev Cf:=Fo×List Fm×St
section
variable (S:Sys) (c:bO) {β:Type} (Q:Out×St->Option β)
noncomputable abbrev b_ (cf:Cf):Option β:=rn S c Q cf.1 cf.2.1 cf.2.2
noncomputable def gR (n:Nat) (cf:Cf):Cf:=(fZ S c n cf.1 cf.2.1 cf.2.2).getD cf
structure CG where
 dr:Bool
 fr:List Nat
 d:Option Nat
 gd:Option (Nat×Bool)
 now:Bool
 k:K
 az:List Arg
 dd:List Nat
 l:List RO
 fs:List Fm
 st:St
noncomputable def gB (n:Nat) (cf:Cf):Option CG:=match fZ S c n cf.1 cf.2.1 cf.2.2 with
 | some (.ops dr fr (⟨d,gd,now,k,az,dd,[]⟩::l),fs,st)=>match wanted st.g gd with
  | some true=>some ⟨dr,fr,d,gd,now,k,az,dd,l,fs,st⟩
  | _=>none
 | _=>none
noncomputable def nx (n:Nat) (cf:Cf) (φ:CG->St):Cf:=match gB S c n cf with
 | some p=>(.ops p.dr (if p.dr then(match p.k with|.p _|.r _=>p.fr|_=>match p.d with|some d=>d::p.fr|none=>p.fr)else p.fr) p.l,p.fs,nC p.dd (φ p))
 | none=>cf
end
def sU (s:Nat) (b:Bool) (cf:Cf):Cf:=(cf.1,cf.2.1,{ cf.2.2 with g:=bJ cf.2.2.g s (.v (.bool b)) })
def jmp (k:Nat) (fr:List Nat) (cf:Cf) (st:St):Cf:=match cf with
 | (.ops dr _ l,fs,_)=>(.ops dr fr (l.drop k),fs,st)
 | _=>(.rt,[],st)
def qG:RC->List Nat->List Fm->St->Cf
 | c,[],fs,st=>(.rc c,fs,st)
 | .seq a b,i::p,fs,st=>if i=0 then qG a p (.seq b::fs) st else qG b p fs st
 | .cond _ a b,i::p,fs,st=>if i=0 then qG a p fs st else qG b p fs st
 | .block id c,_::p,fs,st=>qG c p (.blk id::fs) st
 | .gh _ c,_::p,fs,st=>qG c p fs st
 | .hg c g,_::p,fs,st=>qG c p (.gst g::fs) st
 | .loop c,_::p,_,st=>qG c p [] st
 | .each _ _ _ b,_::p,_,st=>qG b p [] st
 | c,_,fs,st=>(.rc c,fs,st)
section
variable {S:Sys} {c:bO} {β γ δ α:Type} {Q:Out×St->Option β} {e:γ->Option β} {cf:Cf}
theorem iO {n:Nat} {p:CG} (h:gB S c n cf=some p):fZ S c n cf.1 cf.2.1 cf.2.2=some (.ops p.dr p.fr (⟨p.d,p.gd,p.now,p.k,p.az,p.dd,[]⟩::p.l),p.fs,p.st)/\wanted p.st.g p.gd=some true:=by
 unfold gB at h
 grind
theorem sw {n:Nat} {m:Option δ} {φ:δ->CG->St} {f:δ->Option γ} {p:CG} (hp:gB S c n cf=some p) (B:Le (m.bind λx=>some (φ x p)) (eT S c p.dr p.fr ⟨p.d,none,p.now,p.k,p.az,[],[]⟩ p.st))
 (h:∀x,m=some x->Le ((f x).bind e) (b_ S c Q (nx S c n cf (φ x)))):Le ((m.bind f).bind e) (b_ S c Q cf):=by
 obtain⟨h1,u⟩:=iO hp;refine Cl h1 rfl u B λx w=>?_
 have:=h x w;simp[nx,hp]at this;omega
theorem Cd {n:Nat} {m:Option β} {φ:CG->St} {p:CG} (hp:gB S c n cf=some p) (B:eT S c p.dr p.fr ⟨p.d,none,p.now,p.k,p.az,[],[]⟩ p.st=some (φ p))
 (h:Le m (b_ S c Q (nx S c n cf φ))):Le m (b_ S c Q cf):=by
 obtain⟨h1,u⟩:=iO hp;refine pG h1 rfl u B ?_;simp[nx,hp]at h;omega
theorem fq {α β:Type} {o:Option α} {f:α->β} {b:β} (h:o.map f=some b):∃a,o=some a/\f a=b:=ζf.1 h
theorem vi (n:Nat) {m:Option β} {B:Cf} (h:Le m (b_ S c Q B)) (D:fZ S c n cf.1 cf.2.1 cf.2.2=some B:=by kernel_rfl):Le m (b_ S c Q cf):=yB D h
theorem bA (n s:Nat) {t:Bool} {x y:Option γ} (B:Le (x.bind e) (b_ S c Q (sU s true (gR S c n cf)))) (D:Le (y.bind e) (b_ S c Q (sU s false (gR S c n cf))))
 (G:(fZ S c n cf.1 cf.2.1 cf.2.2).map (λp=>a_ p.2.2.g s)=some (some (.v (.bool t))):=by kernel_rfl):Le ((bl t x y).bind e) (b_ S c Q cf):=by
 obtain⟨p,u,hv⟩:=fq G;have hg:gR S c n cf=p:=by unfold gR;grind
 rw[hg]at B D;refine yB u ?_;cases t
 .have:sU s false p=p:=by unfold sU;rw[nQ hv]
  rw[this]at D;exact D
 .have:sU s true p=p:=by unfold sU;rw[nQ hv]
  rw[this]at B;exact B
theorem dH (n s:Nat) {t:Bool} {x y:Option γ} (B:Le (x.bind e) (b_ S c Q (sU s false (gR S c n cf)))) (D:Le (y.bind e) (b_ S c Q (sU s true (gR S c n cf))))
 (G:(fZ S c n cf.1 cf.2.1 cf.2.2).map (λp=>a_ p.2.2.g s)=some (some (.v (.bool (!t)))):=by kernel_rfl):Le ((bl t x y).bind e) (b_ S c Q cf):=by
 obtain⟨p,u,hv⟩:=fq G;have hg:gR S c n cf=p:=by unfold gR;grind
 rw[hg]at B D;refine yB u ?_;cases t
 .have:sU s true p=p:=by unfold sU;rw[show V.bool true=V.bool (!false)from rfl,nQ hv]
  rw[this]at D;exact D
 .have:sU s false p=p:=by unfold sU;rw[show V.bool false=V.bool (!true)from rfl,nQ hv]
  rw[this]at B;exact B
theorem NU (n k:Nat) (fr:List Nat) (st:δ->St) {m:Option δ} {f:δ->Option γ} (B:Le (m.bind λr=>b_ S c Q (jmp k fr (gR S c n cf) (st r))) (b_ S c Q cf))
 (h1:∀r,Le ((f r).bind e) (b_ S c Q (jmp k fr (gR S c n cf) (st r)))):Le ((m.bind f).bind e) (b_ S c Q cf):=NJ _ B h1
theorem bt (n:Nat) {r:δ} {k:δ->Cf} (B:fZ S c n cf.1 cf.2.1 cf.2.2=some (k r):=by kernel_rfl):Le ((some r).bind λr=>b_ S c Q (k r)) (b_ S c Q cf):=SM  B rfl
theorem aZ {r:γ} {L:Option β} (h:L=e r:=by kernel_rfl):Le ((some r).bind e) L:=Le.of_eq h
theorem vH (n:Nat) {b:RC} {m:Option (Out×Tb bC)} (h:Le m (b_ S c t_ (.rc b,[],(gR S c n cf).2.2))) (B:fZ S c n cf.1 cf.2.1 cf.2.2=some (.nx,[],(gR S c n cf).2.2):=by kernel_rfl):Le m (b_ S c (wA S c b) cf):=Q7 B h
theorem SN (n:Nat) {o:Option α} (A:Option α->St) {f:α->Option γ} (B:∀x,o=some x->Le ((f x).bind e) (b_ S c Q ((gR S c n cf).1,(gR S c n cf).2.1,A (some x))))
 (D:fZ S c n cf.1 cf.2.1 cf.2.2=some ((gR S c n cf).1,(gR S c n cf).2.1,A o):=by kernel_rfl):Le ((o.bind f).bind e) (b_ S c Q cf):=Rm D B
theorem iI.SB {S:Sys} {T:oh} [bz δ] {f:FuncId} {A:α->List V} {p:α->Option δ} (B:T f=none) (hk:S.E.keep f=false) (D:∀z r,p z=some r->S.uU f (A z)=some (enc r))
 : iI S (dx S T) f A (λr=>[enc r]) p false where
 k:=hk
 h z:=by
  intro y u;obtain⟨r,h1,w⟩:=ζg.1 u;cases w;have h:=Dh B hk (D z r h1);unfold iL;rw[h];exact uQ 8 [enc r]
 s h:=by cases h
def IZ:K->Option BinOp
 | .p (.bin _ _ o)=>some o
 | _=>none
theorem O_ {k:K} {o:BinOp} (h:IZ k=some o):∃t u,k=.p (.bin t u o):=by
 cases k with
 | p p=>cases p <;> simp[IZ]at h;simp_all
 | _=>simp[IZ]at h
def LY:K->Option BinOp
 | .p (.bin (some .slice) _ o)=>some o
 | _=>none
theorem OQ {k:K} {o:BinOp} (h:LY k=some o):∃u,k=.p (.bin (some .slice) u o):=by
 unfold LY at h
 grind
def Rc:K->Option (Nat×Nat×List Nat)
 | .a (.buildSl sz ln _ ix)=>some (sz,ln,ix)
 | _=>none
theorem Rg {k:K} {r:Nat×Nat×List Nat} (h:Rc k=some r):∃z,k=.a (.buildSl r.1 r.2.1 z r.2.2):=by
 unfold Rc at h
 grind
def Qm:K->Option (List V)
 | .a (.alloc _ zero)=>some zero
 | _=>none
theorem Q0 {k:K} {z:List V} (h:Qm k=some z):∃n,k=.a (.alloc n z):=by
 unfold Qm at h
 grind
section
variable [bz α]
theorem RR (k:IntKind) (n:Nat) {s:Sl α} {i:Int} {f:α->Option γ} (h:∀x,idx s i=some x->Le ((f x).bind e) (b_ S c Q (nx S c n cf λp=>cV p.st p.d (cp x))))
 (B:(gB S c n cf).map (λp=>(p.k,bV S.N p.st.g p.az))=some (.p (.idxS (bz.size α)),some [.v (bZ s),.v (.int k i)]):=by kernel_rfl):Le (((idx s i).bind f).bind e) (b_ S c Q cf):=by
 obtain⟨p,u,hv⟩:=fq B;simp  at hv;refine sw u ?_ h;rw[hv.1];exact Le.of_eq (NC hv.2 rfl)
theorem b8 (n:Nat) {s:Sl α} {i:Int} {f:α->Option γ} (h:∀x,idx s i=some x->Le ((f x).bind e) (b_ S c Q (nx S c n cf λp=>cV p.st p.d (cp x))))
 (B:(gB S c n cf).map (λp=>(p.k,bV S.N p.st.g p.az))=some (.p (.idxS (bz.size α)),some [.v (bZ s),.v (.int .i64 i)]):=by kernel_rfl):Le (((idx s i).bind f).bind e) (b_ S c Q cf):=RR .i64 n h B
theorem vf (k:IntKind) (n u:Nat) {s:Sl α} {i:Int} {f:Nat->Option γ} (h:∀x,s.qw i=some x->Le ((f x).bind e) (b_ S c Q (nx S c n cf λp=>cV p.st p.d (.el u x 0))))
 (B:(gB S c n cf).map (λp=>(p.k,bV S.N p.st.g p.az,a_ p.st.m u))=some (.p (.idxS (bz.size α)),some [.own u,.v (.int k i)],some (cS s)):=by kernel_rfl):Le (((s.qw i).bind f).bind e) (b_ S c Q cf):=by
 obtain⟨p,w,hv⟩:=fq B;simp  at hv;refine sw w ?_ h;rw[hv.1];exact Le.of_eq (RQ hv.2.1 hv.2.2 rfl)
theorem Aa (n u o sz:Nat) (a:Bool) (v:α->V) {s:Sl α} {i:Nat} {f:α->Option γ} (h:∀x,s.get i=some x->Le ((f x).bind e) (b_ S c Q (nx S c n cf λp=>cV p.st p.d (.v (v x)))))
 (B:(gB S c n cf).map (λp=>(p.k,bV S.N p.st.g p.az,a_ p.st.m u,(!p.dr||p.now||eF p.fr [.el u i o])))=some (.r (.load sz a),some [.el u i o],some (cS s),true):=by kernel_rfl) (hv:∀x:α,(cut (cells x) o sz).bind (mk a)=some (v x):=by intro _;rfl):Le (((s.get i).bind f).bind e) (b_ S c Q cf):=by
 obtain⟨p,z,w⟩:=fq B;simp only[ζc]at w;refine sw z ?_ h;rw[w.1];exact Le.of_eq (Q8 w.2.1 w.2.2.2 w.2.2.1 hv)
theorem L7 (n u:Nat) (x:V) {s:Sl α} {i:Nat} {a:α} {f:Sl α->Option γ} (h:∀B,s.put i a=some B->Le ((f B).bind e) (b_ S c Q (nx S c n cf λp=>cV { p.st with m:=bJ p.st.m u (cS B) } p.d (.v .undef))))
 (D:(gB S c n cf).map (λp=>(p.k,bV S.N p.st.g p.az,a_ p.st.m u,(!p.dr||p.now),x.cells))=some (.l (.store (bz.size α)),some [.el u i 0,.v x],some (cS s),true,cells a):=by kernel_rfl):Le (((s.put i a).bind f).bind e) (b_ S c Q cf):=by
 obtain⟨p,w,hv⟩:=fq D;simp only[ζc]at hv;refine sw w ?_ h;rw[hv.1];exact Le.of_eq (OR hv.2.1 hv.2.2.2.1 hv.2.2.1 hv.2.2.2.2 rfl)
theorem Ta (n u:Nat) {i:Int} {z:α} {f:Sl α->Option γ} (h:∀B,Au i z=some B->Le ((f B).bind e) (b_ S c Q (nx S c n cf λp=>{ p.st with g:=bJ p.st.g u (.own u),m:=bJ p.st.m u (cS B) })))
 (D:(gB S c n cf).map (λp=>(p.d,p.k,bV S.N p.st.g p.az,p.st.new u))=some (some u,.a (.makeSl (bz.size α) (cells z)),some [.v (.int .i64 i),.v (.int .i64 i)],true):=by kernel_rfl):Le (((Au i z).bind f).bind e) (b_ S c Q cf):=by
 obtain⟨p,w,hv⟩:=fq D;simp  at hv;refine sw w ?_ h;rw[hv.1,hv.2.1];exact Le.of_eq (QX hv.2.2.1 rfl rfl hv.2.2.2)
theorem wK (n o w u:Nat) {s:Sl α} {x:α} {f:Sl α->Option γ} (h:∀B,iU s x=some B->Le ((f B).bind e) (b_ S c Q (nx S c n cf λp=>{ p.st with g:=bJ p.st.g u (.own u),m:=bJ (dR o p.st.m) u (cS B) })))
 (D:(gB S c n cf).map (λp=>(p.d,p.k,bV S.N p.st.g p.az,(!p.dr||p.now),a_ p.st.m o,a_ p.st.m w,St.new { p.st with m:=dR o p.st.m } u))=some (some u,.l (.append (bz.size α)),some [.own o,.own w],true,some (cS s),some (cS (.row [x])),true):=by kernel_rfl):Le (((iU s x).bind f).bind e) (b_ S c Q cf):=by
 obtain⟨p,z,hv⟩:=fq D;simp only[ζc]at hv;refine sw z ?_ h;rw[hv.1,hv.2.1];exact Le.of_eq (RP hv.2.2.1 hv.2.2.2.1 hv.2.2.2.2.1 hv.2.2.2.2.2.1 rfl hv.2.2.2.2.2.2)
theorem NO (n w u:Nat) (v:V) (x:α) {m:Option β} (h:Le m (b_ S c Q (nx S c n cf λp=>{ p.st with g:=bJ p.st.g u (.own u),m:=bJ p.st.m u (cS (.row [x])) }))) (hv:v=.bL\/v=.dh:=by first|exact .inl rfl|exact .inr rfl)
 (B:(gB S c n cf).map (λp=>(p.d,p.k,bV S.N p.st.g p.az,(!p.dr||p.now),a_ p.st.m w,p.st.new u))=some (some u,.l (.append (bz.size α)),some [.v v,.own w],true,some (cS (.row [x])),true):=by kernel_rfl):Le m (b_ S c Q cf):=by
 obtain⟨p,A,z⟩:=fq B;simp only[ζc]at z;refine Cd A ?_ h;rw[z.1,z.2.1];exact QH hv z.2.2.1 z.2.2.2.1 z.2.2.2.2.1 rfl z.2.2.2.2.2
theorem cF (n:Nat) (s:Sl α) {m:Option β} (h:Le m (b_ S c Q (nx S c n cf λp=>cV p.st p.d (.v (.int .i64 s.l.length)))))
 (B:(gB S c n cf).map (λp=>(p.k,bV S.N p.st.g p.az))=some (.p .lenSl,some [.v (bZ s)]):=by kernel_rfl):Le m (b_ S c Q cf):=by
 obtain⟨p,u,hv⟩:=fq B;simp  at hv;refine Cd u ?_ h;rw[hv.1];exact Nq hv.2
theorem HJ (n u:Nat) (s:Sl α) {m:Option β} (h:Le m (b_ S c Q (nx S c n cf λp=>cV p.st p.d (.v (.int .i64 s.l.length)))))
 (B:(gB S c n cf).map (λp=>(p.k,bV S.N p.st.g p.az,a_ p.st.m u))=some (.p .lenSl,some [.own u],some (cS s)):=by kernel_rfl):Le m (b_ S c Q cf):=by
 obtain⟨p,w,hv⟩:=fq B;simp  at hv;refine Cd w ?_ h;rw[hv.1];exact QI hv.2.1 hv.2.2
theorem Qj (n:Nat) {s:Sl α} {f:Bool->Option γ} (h:∀t,s.isNil=some t->Le ((f t).bind e) (b_ S c Q (nx S c n cf λp=>cV p.st p.d (.v (.bool t)))))
 (B:(gB S c n cf).map (λp=>(LY p.k,bV S.N p.st.g p.az))=some (some .eql,some [.v (bZ s),.v .bL]):=by kernel_rfl):Le ((s.isNil.bind f).bind e) (b_ S c Q cf):=by
 obtain⟨p,w,hv⟩:=fq B;simp  at hv;obtain⟨u,hk⟩:=OQ hv.1;refine sw w ?_ h;rw[hk];exact Le.of_eq (OE hv.2)
theorem Aj (n:Nat) (B D:Bool) (G:List V) {s:Sl α} {a b:Option Int} {f:Sl α->Option γ} (h:∀x,ij s a b=some x->Le ((f x).bind e) (b_ S c Q (nx S c n cf λp=>cV p.st p.d (.v (bZ x)))))
 (J:(gB S c n cf).map (λp=>(p.k,bV S.N p.st.g p.az,kS B D G))=some (.p (.slice (bz.size α) B D),some (.v (bZ s)::G.map .v),some (a,b)):=by kernel_rfl):Le (((ij s a b).bind f).bind e) (b_ S c Q cf):=by
 obtain⟨p,u,hv⟩:=fq J;simp  at hv;obtain⟨h1,A⟩:=iO u;obtain⟨dr,fr,d,gd,now,k,az,dd,l,fs,st⟩:=p;obtain⟨rfl,C,I⟩:=hv;exact SE n dr fr (⟨d,gd,now,.p (.slice (bz.size α) B D),az,dd,[]⟩::l) fs st B D G  rfl (by grind) λw z=>by
  have:=h w z;simp only[nx,u]at this;omega
theorem Rx (n:Nat) (B D:Bool) (u t:Nat) (G:List V) {s:Sl α} {a b:Option Int} {f:Sl α->Option γ} (h:∀x,mV s a b=some x->Le ((f x).bind e) (b_ S c Q (nx S c n cf λp=>{ p.st with g:=bJ p.st.g t (.own t),m:=bJ (dR u p.st.m) t (cS x) })))
 (J:(gB S c n cf).map (λp=>(p.d,p.k,p.dr,bV S.N p.st.g p.az,kS B D G,a_ p.st.m u,St.new { p.st with m:=dR u p.st.m } t))=some (some t,.p (.slice (bz.size α) B D),false,some (.own u::G.map .v),some (a,b),some (cS s),true):=by kernel_rfl):Le (((mV s a b).bind f).bind e) (b_ S c Q cf):=by
 obtain⟨p,w,hv⟩:=fq J;simp  at hv;obtain⟨h1,I⟩:=iO w;obtain⟨dr,fr,d,gd,now,k,az,dd,l,fs,st⟩:=p;obtain⟨rfl,rfl,rfl,L,O,T,z⟩:=hv;exact RJ n fr (⟨some t,gd,now,.p (.slice (bz.size α) B D),az,dd,[]⟩::l) fs st B D u G  rfl z (by grind) λA C=>by
  have:=h A C;simp only[nx,w]at this;omega
theorem cE (n u:Nat) (x:α) {m:Option β} (h:Le m (b_ S c Q (nx S c n cf λp=>{ p.st with g:=bJ p.st.g u (.ptr u 0),m:=bJ p.st.m u (bx x) })))
 (B:(gB S c n cf).map (λp=>(p.d,p.k,bV S.N p.st.g p.az,p.st.new u))=some (some u,.a .box,some [cv x],true):=by kernel_rfl):Le m (b_ S c Q cf):=by
 obtain⟨p,w,hv⟩:=fq B;simp  at hv;refine Cd w ?_ h;rw[hv.1,hv.2.1,A2,hv.2.2.1];simp only[ζb,hv.2.2.2,if_true,om,gQ,oC]
def Sn (u o sz:Nat) (xs:List SV) (p:CG):St:=match a_ p.st.m u with
 | some (.box cs)=>cV { p.st with m:=bJ p.st.m u (.box (cs.take o++xs++cs.drop (o+sz))) } p.d (.v .undef)
 | _=>p.st
theorem lT (n u o:Nat) (x:α) {m:Option β} (h:Le m (b_ S c Q (nx S c n cf (Sn u o (bz.size α) ((cells x).map .v)))))
 (B:(gB S c n cf).map (λp=>(p.k,bV S.N p.st.g p.az,(!p.dr||p.now),match a_ p.st.m u with|some (.box cs)=>Nat.ble (o+bz.size α) cs.length|_=>false))=some (.l (.store (bz.size α)),some [.ptr u o,cv x],true,true):=by kernel_rfl):Le m (b_ S c Q cf):=by
 obtain⟨p,A,hv⟩:=fq B;simp only[ζc]at hv;refine Cd A ?_ h;obtain⟨h1,C,D,z⟩:=hv;split at z
 .rename_i cs w;have G:=Nat.le_of_ble_eq_true z;rw[h1,uR,C];simp only[ζb,D,if_true,k9,w,putCells,gQ,fG,oC,G,and_self,Option.map_some,Sn]
 simp_all
theorem Ql (n u:Nat) (xs:List α) {m:Option β} (h:Le m (b_ S c Q (nx S c n cf λp=>{ p.st with g:=bJ p.st.g u (.own u),m:=bJ p.st.m u (cS (.row xs)) })))
 (B:(gB S c n cf).map (λp=>(p.d,Rc p.k,bV S.N p.st.g p.az,p.st.new u))=some (some u,some (bz.size α,xs.length,List.range' 0 xs.length),some ((xs.map enc).map .v),true):=by kernel_rfl):Le m (b_ S c Q cf):=by
 obtain⟨p,w,hv⟩:=fq B;simp  at hv;obtain⟨h1,D⟩:=iO w;obtain⟨dr,fr,d,gd,now,k,az,dd,l,fs,st⟩:=p;obtain⟨rfl,A,G,C⟩:=hv;obtain⟨z,rfl⟩:=Rg A;exact Td n dr fr (⟨some u,gd,now,.a (.buildSl (bz.size α) xs.length z (List.range' 0 xs.length)),az,dd,[]⟩::l) fs st xs rfl C (by grind) (by
  simp[nx,w]at h;omega)
theorem Cx (n:Nat) (x:α) (vs z:List V) (pl:List (Nat×Nat)) {m:Option β} (B:jv z pl vs=some (cells x)) (D:bz.agg α=true) (h:Le m (b_ S c Q (nx S c n cf λp=>cV p.st p.d (cv x))))
 (G:(gB S c n cf).map (λp=>(p.k,bV S.N p.st.g p.az))=some (.p (.build z pl),some (vs.map .v)):=by kernel_rfl):Le m (b_ S c Q cf):=by
 obtain⟨p,u,hv⟩:=fq G;simp  at hv;obtain⟨h1,w⟩:=iO u;obtain⟨dr,fr,d,gd,now,k,az,dd,l,fs,st⟩:=p;obtain⟨rfl,A⟩:=hv;exact SF n dr fr (⟨d,gd,now,.p (.build z pl),az,dd,[]⟩::l) fs st x vs rfl B D (by grind) (by
  simp only[nx,u]at h;omega)
end
theorem SH (n:Nat) {k:IntKind} {a b:Int} {f:Int->Option γ} (h:∀x,Cj k a b=some x->Le ((f x).bind e) (b_ S c Q (nx S c n cf λp=>cV p.st p.d (.v (.int k x)))))
 (B:(gB S c n cf).map (λp=>(IZ p.k,bV S.N p.st.g p.az))=some (some .quo,some [.v (.int k a),.v (.int k b)]):=by kernel_rfl):Le (((Cj k a b).bind f).bind e) (b_ S c Q cf):=by
 obtain⟨p,w,hv⟩:=fq B;simp  at hv;obtain⟨t,u,hk⟩:=O_ hv.1;refine sw w ?_ h;rw[hk];exact Le.of_eq (R6 hv.2)
theorem ym (n:Nat) (k:IntKind) {a:ByteArray} {b:Int} {f:Int->Option γ} (h:∀x,jE a b=some x->Le ((f x).bind e) (b_ S c Q (nx S c n cf λp=>cV p.st p.d (.v (.int .u8 x)))))
 (B:(gB S c n cf).map (λp=>(p.k,bV S.N p.st.g p.az))=some (.p .idxStr,some [.v (.str a),.v (.int k b)]):=by kernel_rfl):Le (((jE a b).bind f).bind e) (b_ S c Q cf):=by
 obtain⟨p,u,hv⟩:=fq B;simp  at hv;refine sw u ?_ h;rw[hv.1];exact Le.of_eq (MF hv.2)
section
variable {A:α->List V} {E:δ->List V} {pl:α->Option δ} {fn:FuncId} {sc:Bool}
theorem wF (n:Nat) (F:iI S c fn A E pl sc) (z:α) {f:δ->Option γ} (h:∀x,pl z=some x->Le ((f x).bind e) (b_ S c Q (nx S c n cf λp=>cV p.st p.d (.v (result (E x))))))
 (B:(gB S c n cf).map (λp=>(p.k,(bV S.N p.st.g p.az).bind kZ,(!p.dr||p.now||fI p.st.m p.fr [])))=some (.c,some (fn,(A z).map .v),true):=by kernel_rfl):Le (((pl z).bind f).bind e) (b_ S c Q cf):=by
 obtain⟨p,C,hv⟩:=fq B;simp  at hv;obtain⟨D,G,O⟩:=hv;obtain⟨I,g1,g2⟩:=ζg.1 G;have u:∀d (w:List V),SV.dc d (w.map .v)=false:=λd w=>by
  induction w with
  | nil=>rfl
  | cons a l J=>simp[SV.dc,SV.cI,J]
 have L:(!p.dr||p.now||fI p.st.m p.fr ((A z).map .v))=true:=by
  have:fI p.st.m p.fr ((A z).map .v)=fI p.st.m p.fr []:=by unfold fI;simp[u];rfl
  grind
 refine sw C ?_ h;rw[D];exact E4 (F.h z) F.k g1 g2 (EV _ _ _) L (λr=>by rw[kL];simp)
theorem QD (n:Nat) (F:iI S c fn A E pl true) (z:α) {f:δ->Option γ} (h:∀x,pl z=some x->Le ((f x).bind e) (b_ S c Q (nx S c n cf λp=>cV p.st p.d (.v (result (E x))))))
 (B:(gB S c n cf).map (λp=>(p.k,((bV S.N p.st.g p.az).bind kZ).bind λq=>(mq (gP p.st.m 8) q.2).map λvs=>(q.1,vs,((!p.dr||p.now)||fI p.st.m p.fr q.2))))=some (.c,some (fn,A z,true)):=by kernel_rfl):Le (((pl z).bind f).bind e) (b_ S c Q cf):=by
 obtain⟨p,u,hv⟩:=fq B;simp  at hv;obtain⟨w,C⟩:=hv;obtain⟨q,g1,g2⟩:=ζg.1 C;obtain⟨D,g3,g4⟩:=ζg.1 g1;obtain⟨vs,g5,g6⟩:=ζf.1 g2;simp only[ζc]at g6;obtain⟨e1,rfl,e3⟩:=g6;refine sw u ?_ h;rw[w];exact E4 (F.h z) F.k g3 (by grind) g5 e3 (λr=>by rw[F.s rfl];rfl)
end
section
variable {N:Nat} [bz α]
theorem Iu (n:Nat) (k:IntKind) {a:cC N α} {i:Int} {f:α->Option γ} (h:∀x,a.at i=some x->Le ((f x).bind e) (b_ S c Q (nx S c n cf λp=>cV p.st p.d (.v (.fptr (pa a i))))))
 (B:(gB S c n cf).map (λp=>(p.k,bV S.N p.st.g p.az))=some (.p (.idxA N (bz.size α)),some [cp a,.v (.int k i)]):=by kernel_rfl):Le (((a.at i).bind f).bind e) (b_ S c Q cf):=by
 obtain⟨p,u,hv⟩:=fq B;simp  at hv;obtain⟨h1,z⟩:=iO u;obtain⟨dr,fr,d,gd,now,A,az,dd,l,fs,st⟩:=p;obtain⟨rfl,C⟩:=hv;exact Rr n dr fr (⟨d,gd,now,.p (.idxA N (bz.size α)),az,dd,[]⟩::l) fs st k   rfl (by grind) λx w=>by
  have:=h x w;simp only[nx,u]at this;omega
theorem Me (n k:Nat) (a:cC N α) (i:Int) (o:Nat) (x:α) (B:a.at i=some x) {m:Option β} (h:Le m (b_ S c Q (nx S c n cf λp=>cV p.st p.d (.v (.fptr ((pa a i).drop (o+k)))))))
 (D:(gB S c n cf).map (λp=>(p.k,bV S.N p.st.g p.az,Nat.ble (o+k) (bz.size α)))=some (.p (.fieldAddr k),some [.v (.fptr ((pa a i).drop o))],true):=by kernel_rfl):Le m (b_ S c Q cf):=by
 obtain⟨p,u,hv⟩:=fq D;simp  at hv;obtain⟨h1,w⟩:=iO u;obtain⟨dr,fr,d,gd,now,z,az,dd,l,fs,st⟩:=p;obtain⟨rfl,A,C⟩:=hv;exact SG n dr fr (⟨d,gd,now,.p (.fieldAddr k),az,dd,[]⟩::l) fs st a i o x B rfl (by grind) (by
  simp only[nx,u]at h;omega)
theorem HL (n sz:Nat) (ag:Bool) (a:cC N α) (i:Int) (o:Nat) (x:α) (B:a.at i=some x) (v:V) (hv:(cut (cells x) o sz).bind (mk ag)=some v) {m:Option β} (h:Le m (b_ S c Q (nx S c n cf λp=>cV p.st p.d (.v v))))
 (D:(gB S c n cf).map (λp=>(p.k,bV S.N p.st.g p.az))=some (.r (.load sz ag),some [.v (.fptr ((pa a i).drop o))]):=by kernel_rfl):Le m (b_ S c Q cf):=by
 obtain⟨p,w,u⟩:=fq D;simp  at u;obtain⟨h1,z⟩:=iO w;obtain⟨dr,fr,d,gd,now,A,az,dd,l,fs,st⟩:=p;obtain⟨rfl,C⟩:=u;exact Ro n dr fr (⟨d,gd,now,.r (.load sz ag),az,dd,[]⟩::l) fs st a i o x B hv v rfl (by grind) (by
  simp only[nx,w]at h;omega)
theorem Rf (n u:Nat) (st:St) (cs:List SV) {m:Option β} (B:st.new u=true) (h:Le m (b_ S c Q (nx S c n cf λ_=>{ st with g:=bJ st.g u (.ptr u 0),m:=bJ st.m u (.box cs) })))
 (D:(gB S c n cf).map (λp=>(p.d,(Qm p.k).map (λz=>z.map SV.v),bV S.N p.st.g p.az,p.st))=some (some u,some cs,some [],st):=by kernel_rfl):Le m (b_ S c Q cf):=by
 obtain⟨p,A,hv⟩:=fq D;simp only[ζc]at hv;obtain⟨z,C,w⟩:=fq hv.2.1;obtain⟨k,hk⟩:=Q0 C;refine Cd A ?_ h;rw[hv.1,hk,A2,hv.2.2.1,hv.2.2.2];simp[B,om,w]
theorem DM (n:Nat) (k:IntKind) (u:Nat) {a:cC N α} {i:Int} {f:α->Option γ} (h:∀x,a.at i=some x->Le ((f x).bind e) (b_ S c Q (nx S c n cf λp=>cV p.st p.d (.ptr u (i.toNat*bz.size α+0)))))
 (B:(gB S c n cf).map (λp=>(p.k,bV S.N p.st.g p.az,a_ p.st.m u))=some (.p (.idxA N (bz.size α)),some [.ptr u 0,.v (.int k i)],some (bx a)):=by kernel_rfl):Le (((a.at i).bind f).bind e) (b_ S c Q cf):=by
 obtain⟨p,w,hv⟩:=fq B;simp  at hv;obtain⟨h1,A⟩:=iO w;obtain⟨dr,fr,d,gd,now,C,az,dd,l,fs,st⟩:=p;obtain⟨rfl,D,G⟩:=hv;exact Rq n dr fr (⟨d,gd,now,.p (.idxA N (bz.size α)),az,dd,[]⟩::l) fs st k u   rfl (by grind) λx z=>by
  have:=h x z;simp only[nx,w]at this;omega
theorem Ns (n sz:Nat) (ag:Bool) (u:Nat) (a:cC N α) (i:Int) (o:Nat) (x:α) (B:a.at i=some x) (v:V) (hv:(cut (cells x) o sz).bind (mk ag)=some v) {m:Option β} (h:Le m (b_ S c Q (nx S c n cf λp=>cV p.st p.d (.v v))))
 (D:(gB S c n cf).map (λp=>(p.k,bV S.N p.st.g p.az,a_ p.st.m u,(!p.dr||p.now||eF p.fr [.ptr u 0])))=some (.r (.load sz ag),some [.ptr u (i.toNat*bz.size α+o)],some (bx a),true):=by kernel_rfl):Le m (b_ S c Q cf):=by
 obtain⟨p,z,w⟩:=fq D;simp  at w;obtain⟨h1,A⟩:=iO z;obtain⟨dr,fr,d,gd,now,C,az,dd,l,fs,st⟩:=p;obtain⟨rfl,G,I,J⟩:=w;exact RE n dr fr (⟨d,gd,now,.r (.load sz ag),az,dd,[]⟩::l) fs st u a i o x B hv v rfl (by grind) (by
  simp only[nx,z]at h;omega)
end
section
variable {κ ν:Type} [bz κ] [DecidableEq κ] [Key κ] [bz ν]
theorem Rw (n u:Nat) (mp:Mo κ ν) (k:κ) (z:ν) {m:Option β} (h:Le m (b_ S c Q (nx S c n cf λp=>cV p.st p.d (cv (Cu mp k z)))))
 (B:(gB S c n cf).map (λp=>(p.k,bV S.N p.st.g p.az,a_ p.st.m u,(!p.dr||p.now||eF p.fr [.mp u,cv k])))=some (.r (.lookup (Key.kk κ) (enc z) false),some [.mp u,cv k],some (ud mp),true):=by kernel_rfl):Le m (b_ S c Q cf):=by
 obtain⟨p,w,hv⟩:=fq B;simp  at hv;obtain⟨h1,A⟩:=iO w;obtain⟨dr,fr,d,gd,now,C,az,dd,l,fs,st⟩:=p;obtain⟨rfl,D,G,I⟩:=hv;exact RH n dr fr (⟨d,gd,now,.r (.lookup (Key.kk κ) (enc z) false),az,dd,[]⟩::l) fs st u mp k z rfl (by grind) (by
  simp only[nx,w]at h;omega)
theorem SL (n u:Nat) (mp:Mo κ ν) (k:κ) (v:ν) {m:Option β} (h:Le m (b_ S c Q (nx S c n cf λp=>cV { p.st with m:=bJ p.st.m u (ud (p_ mp k v)) } p.d (.v .undef))))
 (B:(gB S c n cf).map (λp=>(p.k,bV S.N p.st.g p.az,a_ p.st.m u,(!p.dr||p.now)))=some (.l (.mapUp (Key.kk κ)),some [.mp u,cv k,cv v],some (ud mp),true):=by kernel_rfl):Le m (b_ S c Q cf):=by
 obtain⟨p,z,w⟩:=fq B;simp  at w;obtain⟨h1,A⟩:=iO z;obtain⟨dr,fr,d,gd,now,C,az,dd,l,fs,st⟩:=p;obtain⟨rfl,D,G,I⟩:=w;exact SA n dr fr (⟨d,gd,now,.l (.mapUp (Key.kk κ)),az,dd,[]⟩::l) fs st u mp k v rfl (by grind) (by
  simp[nx,z]at h;omega)
end
theorem R_ (n:Nat) (st:St) {rs:List RV} {e:γ->Option (List V)} {r:γ} (svs:List SV) {ys:List V} (B:mq (gP st.m 8) svs=some ys) (D:e r=some ys)
 (h:(fZ S c n cf.1 cf.2.1 cf.2.2).map (λq=>(q.1,q.2.2,jf q.2.2 rs))=some (.rt,st,some svs):=by kernel_rfl):Le ((some r).bind e) (b_ S c (n_ rs) cf):=by
 obtain⟨⟨fo,fs,st'⟩,u,hv⟩:=fq h;simp  at hv;obtain⟨rfl,rfl,w⟩:=hv;exact RS n svs B (by rw[u,w]) D
end
end Go.VE
namespace Go.VE
variable [bM]
section
variable {S:Sys} {c:bO} {β γ δ α:Type} [bz α] {Q:Out×St->Option β} {e:γ->Option β} {cf:Cf}
def wN (s x:Sl α):Option (Sl α):=if x.l=[]then some s else if s.l.length+x.l.length<=2147483648 then some (.row (s.l++x.l))else none
theorem Py (m:Tb bC) (n w:Nat) (x:Sl α) (B:n=bz.size α) (D:a_ m w=some (cS x)):jl m n (.own w)=some (rows x.l):=by
 rw[Cp,D,zz n x B]
theorem Ej (l:List α):rows l=[]↔l=[]:=by unfold rows;simp
theorem Mj (a b:List α):rows a++rows b=rows (a++b):=by unfold rows;simp
theorem D7 (a:List α):(rows a).length=a.length:=by unfold rows;simp
theorem Qv {st:St} {dr now:Bool} {fr:List Nat} {az:List Arg} {d n o:Nat} {s x:Sl α} {B:SV} (U:bV S.N st.g az=some [.own o,B]) (hd:(!dr||now)=true) (D:a_ st.m o=some (cS s)) (W:jl st.m n B=some (rows x.l)) (G:n=bz.size α) (J:St.new { st with m:=dR o st.m } d=true) :
 eT S c dr fr ⟨some d,none,now,.l (.append n),az,[],[]⟩ st=(wN s x).bind λY=>some { st with g:=bJ st.g d (.own d),m:=bJ (dR o st.m) d (cS Y) }:=by
 rw[uR,U];simp only[ζb,hd,if_true,yg,Py st.m n o s G D,W];unfold wN
 by_cases h:x.l=[]
 .rw[if_pos h,(Ej x.l).2 h];simp only[wD,D,if_pos J,ζb];rfl
 .rw[if_neg h];have hr:rows x.l≠[]:=λe=>h ((Ej _).1 e)
  have w:wD st d n (.own o) (some (rows s.l)) (some (rows x.l))=if(rows s.l).length+(rows x.l).length<=2147483648/\EM (.own o)=true then(if St.new { st with m:=giveUp st.m (.own o) } d then some (.own d,{ st with m:=bJ (giveUp st.m (.own o)) d (.sl .row n (rows s.l++rows x.l)) })else none)else none:=by
   unfold wD;generalize rows x.l=r at *
   cases r with
   | nil=>exact absurd rfl hr
   | cons y r=>rfl
  rw[w,D7,D7,Mj]
  by_cases u:s.l.length+x.l.length<=2147483648
  .rw[if_pos ⟨u,rfl⟩,if_pos (show St.new { st with m:=giveUp st.m (.own o) } d=true from J),if_pos u];rw[ζb,ζb,G];rfl
  .rw[if_neg (λk=>u k.1),if_neg u];rfl
theorem RA (n o u:Nat) (D:SV) {s x:Sl α} {f:Sl α->Option γ} (G:∀p,gB S c n cf=some p->jl p.st.m (bz.size α) D=some (rows x.l))
 (h:∀B,wN s x=some B->Le ((f B).bind e) (b_ S c Q (nx S c n cf λp=>{ p.st with g:=bJ p.st.g u (.own u),m:=bJ (dR o p.st.m) u (cS B) })))
 (J:(gB S c n cf).map (λp=>(p.d,p.k,bV S.N p.st.g p.az,(!p.dr||p.now),a_ p.st.m o,St.new { p.st with m:=dR o p.st.m } u))=some (some u,.l (.append (bz.size α)),some [.own o,D],true,some (cS s),true):=by kernel_rfl):Le (((wN s x).bind f).bind e) (b_ S c Q cf):=by
 obtain⟨p,w,hv⟩:=fq J;simp only[ζc]at hv;refine sw w ?_ h;rw[hv.1,hv.2.1];exact Le.of_eq (Qv hv.2.2.1 hv.2.2.2.1 hv.2.2.2.2.1 (G p w) rfl hv.2.2.2.2.2)
theorem Jh (m:Tb bC) (x:Sl α):jl m (bz.size α) (.v (bZ x))=some (rows x.l):=by
 cases x <;> simp[bZ,Sl.k,Sl.l,mB,jl,rows]
theorem Lc (n o u:Nat) {s x:Sl α} {f:Sl α->Option γ}
 (h:∀B,wN s x=some B->Le ((f B).bind e) (b_ S c Q (nx S c n cf λp=>{ p.st with g:=bJ p.st.g u (.own u),m:=bJ (dR o p.st.m) u (cS B) })))
 (D:(gB S c n cf).map (λp=>(p.d,p.k,bV S.N p.st.g p.az,(!p.dr||p.now),a_ p.st.m o,St.new { p.st with m:=dR o p.st.m } u))=some (some u,.l (.append (bz.size α)),some [.own o,.v (bZ x)],true,some (cS s),true):=by kernel_rfl):Le (((wN s x).bind f).bind e) (b_ S c Q cf):=
 RA n o u _ (λp _=>Jh p.st.m x) h D
end
end Go.VE
namespace Go.VE
variable [bM]
theorem xE {α:Type} {l:List α} {i:Nat} {x:α} (h:l[i]? = some x):l.set i x=l:=by
 obtain⟨u,rfl⟩:=ζe.1 h;exact List.set_getElem_self u
open Classical in
def xQ (x:List V):V:=x.headD .undef
section
variable {H:bf} {Z:Nat->Prop}
theorem c9.OI {k:Nat} {xs ys:List V} (h:c9 H Z xs ys) (B:V.kn k xs=true):borrows k H ys=some xs:=jo h.1 λj u v hu hv=>(h.2 j u v hu hv).borrow k (lM.1 B j u hu)
theorem c9.borrows {xs ys:List V} (h:c9 H Z xs ys):∃n,∀k,n<=k->borrows k H ys=some xs:=by
 obtain⟨n,u⟩:=me xs;exact⟨n,λk hk=>h.OI (oL hk u)⟩
end
end Go.VE
namespace Go.VE
variable [bM]
def bu (N:Nat->FuncId) (F:Frame):Arg->V
 | .s n=>get F n
 | .k c=>c
 | .f s=>.clo (N s) [] []
def bK (E:Env) (N:Nat->FuncId) (call:c_) (b:Option Nat) (now:Bool) (k:K) (vs:List V) (H:bf):Option (V×bf):=
 match k,b with
 | .p p,_=>(bn N p vs).map λv=>(v,H)
 | .r r,none=>(eC H r vs).map λv=>(v,H)
 | .r r,some b=>(eC (H.take b) r vs).map λv=>(v,H)
 | .a a,none=>(gV a vs).map λx=>(x.2.val H.length,H++[x.1])
 | .l l,none=>eX H l vs
 | .l (.store n),some _=>if now then eX H (.store n) vs else none
 | .c,none=>match vs with
  | .clo g a c::u=>if E.keep g then eN E call g (a++u++c) H else match cn call g (a++u++c) H with
   | some y=>if y.scalar then some (y,H)else none
   | none=>none
  | _=>none
 | .c,some b=>match vs with
  | .clo g a c::u=>if E.keep g then none else match cn call g (a++u++c) (H.take b)with
   | some y=>if y.scalar then some (y,H)else none
   | none=>none
  | _=>none
 | _,_=>none
def br (F:Frame):Option Nat->V->Frame
 | none,_=>F
 | some d,v=>set F d v
def cT (E:Env) (N:Nat->FuncId) (call:c_) (b:Option Nat):List RO->Frame->bf->Option (Frame×bf)
 | [],F,H=>some (F,H)
 | o::r,F,H=>match o.gd with
  | none=>match bK E N call b o.now o.k (o.az.map (bu N F)) H with
   | some (v,H')=>cT E N call b r (br F o.dst v) H'
   | none=>none
  | some _=>none
section
variable {X:CX} {N:Nat->FuncId} {call:c_} {F F':Frame} {H H':bf}
theorem G8 (B:∀f s,X.nm f=some s->N s=f) {o:Operand} {x:Arg} (h:nT X.nm o=some x):ev F o=some (bu N F x):=by
 cases o with
 | tmp t=>simp[nT]at h;subst h;rfl
 | const w=>
  simp[nT]at h;split at h
  .rename_i c hc;split at h
   .simp  at h;subst h;exact hc
   grind
  grind
 | func f=>
  obtain⟨s,u,rfl⟩:=ζf.1 h;show some (V.clo f [] [])=some (.clo (N s) [] [])
  grind
 | global i=>
  simp[nT]at h;split at h
  .rename_i c hc;split at h
   .simp  at h;subst h;simp[ev,hc];rfl
   grind
  grind
theorem xe (G:∀f s,X.nm f=some s->N s=f):∀{os:List Operand} {B:List Arg},os.mapM (nT X.nm)=some B->eE F os=some (B.map (bu N F))
 | [],B,h=>by simp  at h;subst h;rfl
 | o::os,B,h=>by
  simp[ζg]at h;obtain⟨x,J,xs,D,rfl⟩:=h;simp[eE,G8 G J,xe G D]
theorem xT (D:∀f s,X.nm f=some s->N s=f) {B:Bool} {ops:List Oper} {i:Nat} {o:Oper} {ro:RO} (h:lU X B ops i o=some ro) (hg:ro.gd=none) :
 o.dst=ro.dst/\xx X.nt o.dst=true/\eY ops F o=true/\((AV X.E N F o.op (ro.az.map (bu N F)) ro.k/\ro.now=(B&&dn ops i)/\(B=true->dn ops i=false->∀a',nD ops i a'=[]\/∀t,o.op≠.load t (.tmp a')))\/(∃n,ro.k=.l (.storeF n))\/(∃n a,ro.k=.r (.loadF n a))\/(B=true/\vU ops i=true/\cU o.op=.alloc/\(∃p,ro.k=.p p/\(p=.emptyC\/∃a b,p=.makeC a b)/\∀y,bn N p (ro.az.map (bu N F))=some y->pI X.E F o.op=some y))\/∃n,ro.k=.e n):=by
 unfold lU at h;split at h
 .rename_i hd;split at h
  .rename_i gd k os u hr;split at h
   .split at h
    .rename_i w;simp only[ζh]at w;have T:∀{gd:Option (Nat×Bool)},AF ops o=some gd->gd=none->eY ops F o=true:=λ{gd} u hg=>by
      subst hg;unfold eY;unfold AF at u
      cases A:o.guard with
      | none=>rfl
      | some I=>
       rw[A]at u;obtain⟨j,b⟩:=I;obtain⟨d,_,e⟩:=ζf.1 u;cases e
     split at h
     .rename_i J;obtain⟨U,C,rfl⟩:=ζf.1 h;have z:=jB D hr (xe (F:=F) D C);exact⟨rfl,hd,T u hg,.inr (.inr (.inr (.inl ⟨w.1,w.2,z.1,_,rfl,.inr ⟨_,_,rfl⟩,λy L=>BG ⟨_,_,_,by assumption⟩ z L⟩)))⟩
     .rename_i J;split at h
      .rename_i O;obtain⟨Q,rfl,rfl⟩:=O;obtain⟨U,C,rfl⟩:=ζf.1 h;have z:=jB D hr (xe (F:=F) D C);exact⟨rfl,hd,T u hg,.inr (.inr (.inr (.inl ⟨w.1,w.2,z.1,_,rfl,.inl rfl,λy L=>Bi ⟨_,_,_,by assumption⟩ z Q L⟩)))⟩
      .cases h
     .cases h
    obtain⟨U,C,rfl⟩:=ζf.1 h;simp only at hg;subst hg;refine⟨rfl,hd,?_,?_⟩
    .unfold eY;unfold AF at u
     cases A:o.guard with
     | none=>rfl
     | some I=>
      rw[A]at u;obtain⟨j,b⟩:=I;obtain⟨d,_,e⟩:=ζf.1 u;cases e
    .rcases Bo B ops i k os with⟨e,S⟩|⟨_,_,n,a,l,W,_,_,_,e⟩|⟨_,_,n,ag,a,_,_,e⟩|⟨_,_,_,n,_,e⟩
     .rw[e]at C ⊢;refine .inl ⟨jB D hr (xe D C),rfl,λhd Y a'=>?_⟩
      by_cases G:∃t,o.op=.load t (.tmp a')
      .obtain⟨t,G⟩:=G;rw[G]at hr;simp only[resolve]at hr;obtain⟨d,_,e⟩:=ζf.1 hr;simp only[ζc]at e;exact .inl (S _ _ a' hd Y e.1.symm e.2.symm)
      .exact .inr λt h=>G ⟨t,h⟩
     .rw[e];exact .inr (.inl ⟨n,rfl⟩)
     .rw[e];exact .inr (.inr (.inl ⟨n,ag,rfl⟩))
     .rw[e];exact .inr (.inr (.inr (.inr ⟨n,rfl⟩)))
   .simp at h
  .simp at h
 .simp at h
theorem Ft {nt:Nat} {dst:Option Nat} (h:xx nt dst=true) (v:V):iM nt F dst v=some (br F dst v):=by
 cases dst with
 | none=>rfl
 | some d=>simp[xx]at h;simp[iM,if_pos h,br]
theorem Qp (G:∀f s,X.nm f=some s->N s=f) {ops:List Oper} {i:Nat} {o:Oper} {ro:RO} (h:lU X false ops i o=some ro) (hg:ro.gd=none) {v:V} (hv:bK X.E N call none ro.now ro.k (ro.az.map (bu N F)) H=some (v,H')) :
 fC X.E call X.nt ops none o F H=some (br F ro.dst v,H'):=by
 obtain⟨h1,I,J,u⟩:=xT (F:=F) G h hg;have hd:c7 X.E call ops none F H o.op=some (v,H'):=by
  rcases u with⟨u,_⟩|⟨n,u⟩|⟨n,a,u⟩|⟨u,_⟩|⟨n,u⟩
  .generalize hk:ro.k=k at hv u;generalize ro.az.map (bu N F)=T at hv u;unfold c7
   cases k with
   | p p=>
    obtain⟨c,e⟩:=u;obtain⟨w,A,B⟩:=ζf.1 hv;rw[c];simp only[wL (e w A),Option.map_some];rw[B]
   | r r=>
    obtain⟨c,e⟩:=u;obtain⟨w,A,B⟩:=ζf.1 hv;rw[c];simp only[e H w A,Option.map_some];rw[B]
   | a a=>
    obtain⟨c,e⟩:=u;obtain⟨⟨ob,m⟩,A,B⟩:=ζf.1 hv;rw[c];simp only[pH,Bool.false_eq_true,if_false,e _ A];exact congrArg some B
   | l l=>
    obtain⟨c,e⟩:=u;rw[c];exact e H _ hv
   | e n=>exact u.elim
   | b=>simp[bK]at hv
   | c=>
    obtain⟨c,f,L,rfl,e⟩:=u;rw[c];simp only[bK]at hv;split at hv
    .rename_i g a b O C;simp only[List.cons.injEq]at C;obtain⟨rfl,rfl⟩:=C;split at hv
     .rename_i z;simp only[e,jI,z,Bool.and_self,if_true];exact hv
     .rename_i z;split at hv
      .rename_i y Q;split at hv
       .rename_i D;simp only[e,jI,z,Bool.false_and,Bool.false_eq_true,if_false,Q,D,if_true];exact hv
       .simp at hv
      .simp at hv
    .simp at hv
  .rw[u]at hv;exfalso;have:∀ops i k os,(vt false ops i k os).1=k:=λ_ _ _ _=>rfl
   unfold lU at h;simp only[Bool.false_and,Bool.false_eq_true,if_false]at h;split at h
   .split at h
    .rename_i gd k os S hr;split at h
     .obtain⟨L,U,rfl⟩:=ζf.1 h;simp only[this]at u;subst u;unfold resolve at hr
      (repeat' split at hr) <;> first|(simp at hr;done)|(obtain⟨_,_,e⟩:=ζf.1 hr;simp at e;done)
     .simp at h
    .simp at h
   .first|(simp at h;done)|contradiction
  .rw[u]at hv;simp[bK,eC]at hv
  .cases u
  .rw[u]at hv;simp[bK]at hv
 unfold fC;rw[J,if_pos rfl,hd];simp only[h1,Ft (h1▸I),Option.map_some]
theorem Ec (D:∀f s,X.nm f=some s->N s=f) {ops:List Oper}:∀(rest:List Oper) {i:Nat} {B:List RO} {F:Frame} {H:bf},jM X false ops i rest=some B->cT X.E N call none B F H=some (F',H')->kP X.E call X.nt ops rest F H=some (F',H')
 | [],i,B,F,H,hc,h=>by
  simp[jM]at hc;subst hc;exact h
 | o::rest,i,B,F,H,hc,h=>by
  simp[jM]at hc;split at hc
  .rename_i ro rs h1 G;simp  at hc;subst hc;simp[cT]at h;split at h
   .rename_i hg;split at h
    .rename_i v H1 hv;simp[kP,Qp D h1 hg hv];exact Ec D rest G h
    grind
   grind
  grind
theorem OL {ops:List Oper} {i:Nat} {op:Op} (h:∀t a',op=.load t (.tmp a')->nD ops i a'=[]):mm ops i F op=true:=by
 unfold mm
 grind
theorem Q2 (W:∀f s,X.nm f=some s->N s=f) {ops:List Oper} {b i:Nat} {o:Oper} (Y:ops[i]? = some o) {ro:RO} (h:lU X true ops i o=some ro) (hg:ro.gd=none) {v:V} (hv:bK X.E N call (some b) ro.now ro.k (ro.az.map (bu N F)) H=some (v,H')) :
 fC X.E call X.nt ops (some (b,i)) o F H=some (br F ro.dst v,H'):=by
 obtain⟨h1,Z,h3,u⟩:=xT (F:=F) W h hg;have hd:c7 X.E call ops (some (b,i)) F H o.op=some (v,H'):=by
  rcases u with⟨u,z,A⟩|⟨n,u⟩|⟨n,a,u⟩|⟨_,G,I,p,u,_,J⟩|⟨n,u⟩
  .generalize hk:ro.k=k at hv u;generalize ro.az.map (bu N F)=vs at hv u;unfold c7
   cases k with
   | p p=>
    obtain⟨c,e⟩:=u;obtain⟨w,B,C⟩:=ζf.1 hv;rw[c];simp only[wL (e w B),Option.map_some];rw[C]
   | r r=>
    obtain⟨c,e⟩:=u;obtain⟨w,B,C⟩:=ζf.1 hv;have L:mm ops i F o.op=true:=OL λt a' e=>by
     by_cases T:dn ops i=true
     .exact A3 Y e T
     .rcases A rfl (by simpa using T) a' with h|h
      .exact h
      .exact absurd e (h t)
    rw[c];simp only[e _ w B,L,if_true];rw[C]
   | a a=>simp[bK]at hv
   | l l=>
    obtain⟨c,e⟩:=u
    cases l with
    | store n=>
     simp only[bK]at hv;split at hv
     .rename_i U;rw[z,Bool.true_and]at U;rw[c];simp only[U,Bool.true_or,if_true];exact e H _ hv
     .simp at hv
    | _=>simp[bK]at hv
   | e n=>exact u.elim
   | b=>simp[bK]at hv
   | c=>
    obtain⟨c,f,av,rfl,e⟩:=u;rw[c];simp only[bK]at hv;split at hv
    .rename_i g a b aa D;simp only[List.cons.injEq]at D;obtain⟨rfl,rfl⟩:=D;split at hv
     .simp at hv
     .rename_i O;split at hv
      .rename_i y hy;split at hv
       .rename_i Q;simp only[e,jI,O,Bool.false_and,Bool.false_eq_true,if_false,hy,Q,if_true];exact hv
       .simp at hv
      .simp at hv
    .simp at hv
  .rw[u]at hv;simp[bK]at hv
  .rw[u]at hv;simp[bK,eC]at hv
  .rw[u]at hv;obtain⟨w,B,C⟩:=ζf.1 hv;have S:=J w B;unfold c7;rw[I];simp only[pH,G,if_true,S,Option.map_some];exact congrArg some C
  .rw[u]at hv;simp[bK]at hv
 unfold fC;rw[h3,if_pos rfl,hd];simp only[h1,Ft (h1▸Z),Option.map_some]
theorem EZ (D:∀f s,X.nm f=some s->N s=f) {ops:List Oper} {b:Nat}:∀(rest:List Oper) {i:Nat} {B:List RO} {F:Frame} {H:bf},ops.drop i=rest->jM X true ops i rest=some B->cT X.E N call (some b) B F H=some (F',H') ->
 iX X.E call X.nt ops b (List.range' i rest.length) F H=some (F',H')
 | [],i,B,F,H,_,hc,h=>by
  simp[jM]at hc;subst hc;exact h
 | o::rest,i,B,F,H,hd,hc,h=>by
  simp[jM]at hc;split at hc
  .rename_i ro rs h1 J;simp  at hc;subst hc;simp[cT]at h;split at h
   .rename_i hg;split at h
    .rename_i v H1 hv;have G:ops[i]? = some o:=by
      have:(ops.drop i)[0]? = some o:=by grind
      grind
     have u:ops.drop (i+1)=rest:=by
      rw[<-List.drop_drop,hd];rfl
     simp[List.range'_succ,iX,G,Q2 D G h1 hg hv];exact EZ D rest u J h
    grind
   grind
  grind
def v8 (l:List RO):Bool:=l.all λo=>(match o.k with|.a _|.l (.storeF _)|.r (.loadF ..)|.p (.makeC ..)|.p .emptyC|.e _=>false|_=>true)&&o.gd.isNone
theorem A1 (J:∀f s,X.nm f=some s->N s=f) {ops:List Oper}:∀(rest:List Oper) {i:Nat} {G:List RO},jM X true ops i rest=some G->v8 G=true->rest.any (λo=>cU o.op==.alloc)=false
 | [],_,_,_,_=>rfl
 | o::rest,i,G,hc,D=>by
  simp only[jM]at hc;split at hc
  .rename_i ro rs h1 U;simp only[ζa]at hc;subst hc;simp only[v8,List.all_cons,ζh,Option.isNone_iff_eq_none]at D;obtain⟨_,_,_,B⟩:=xT (F:=[]) J h1 D.1.2;rw[List.any_cons,A1 J rest U D.2,Bool.or_false];rcases B with⟨B,_⟩|⟨n,B⟩|⟨n,a,B⟩|⟨_,_,_,p,B,u,_⟩|⟨n,B⟩
   .cases hk:ro.k with
    | a p=>have:=D.1.1;rw[hk]at this;cases this
    | e p=>have:=D.1.1;rw[hk]at this;cases this
    | _=>rw[hk]at B;rw[B.1];rfl
   .have:=D.1.1;rw[B]at this;cases this
   .have:=D.1.1;rw[B]at this;cases this
   .have:=D.1.1;rw[B]at this;rcases u with rfl|⟨_,_,rfl⟩ <;> cases this
   .have:=D.1.1;rw[B]at this;cases this
  .simp at hc
def ga (E:Env) (N:Nat->FuncId) (call:c_) (lf:Nat):RC->Frame->bf->Option (Out×Frame×bf)
 | .skip,F,H=>some (.norm,F,H)
 | .ops l,F,H=>(cT E N call none l F H).map λx=>(.norm,x.1,x.2)
 | .ny l,F,H=>if v8 l then(cT E N call (some H.length) l F H).map λx=>(.norm,x.1,x.2)else none
 | .seq a b,F,H=>match ga E N call lf a F H with
  | some (.norm,F',H')=>ga E N call lf b F' H'
  | r=>r
 | .cond x a b,F,H=>match bu N F x with
  | .bool t=>if t then ga E N call lf a F H else ga E N call lf b F H
  | _=>none
 | .block id c,F,H=>match ga E N call lf c F H with
  | some (.exit B,F',H')=>if B=id then some (.norm,F',H')else some (.exit B,F',H')
  | r=>r
 | .loop c,F,H=>jw (ga E N call lf c) lf F H
 | .exit id,F,H=>some (.exit id,F,H)
 | .ret,F,H=>some (.ret,F,H)
 | _,_,_=>none
theorem FP {f g:Frame->bf->Option (Out×Frame×bf)} (h:∀F H r,f F H=some r->g F H=some r):∀(k:Nat) (F:Frame) (H:bf) (r:Out×Frame×bf),jw f k F H=some r->jw g k F H=some r
 | 0,F,H,r,hr=>by simp[jw]at hr
 | k+1,F,H,r,hr=>by
  simp only[jw]at hr ⊢
  cases B:f F H with
  | none=>rw[B]at hr;simp at hr
  | some q=>
   rw[B]at hr;rw[h F H q B];obtain⟨o,F1,H1⟩:=q
   cases o with
   | norm=>exact FP h k F1 H1 r hr
   | exit _=>exact hr
   | ret=>exact hr
theorem ME (D:∀f s,X.nm f=some s->N s=f) {lf:Nat}:∀(rc:RC) (code:Code) (F:Frame) (H:bf) (r:Out×Frame×bf),bH X false code=some rc->ga X.E N call lf rc F H=some r->exec X.E call lf false X.nt code F H=some r:=by
 intro rc
 induction rc with
 | skip=>
  intro code F H r hc h;simp only[ga,ζa]at h;subst h
  cases code with
  | skip=>rfl
  | label _=>rfl
  | region id ops u=>simp only[bH]at hc;(repeat' split at hc) <;> first|(simp at hc;done)|(obtain⟨_,_,e⟩:=ζf.1 hc;cases e)
  | _=>simp only[bH]at hc;(repeat' split at hc) <;> first|(simp at hc;done)|(obtain⟨_,_,e⟩:=ζf.1 hc;cases e)|cases hc
 | ops l=>
  intro code F H r hc h
  cases code with
  | region id ops u=>
   simp only[bH]at hc;split at hc
   .split at hc
    .obtain⟨_,_,e⟩:=ζf.1 hc;cases e
    .simp at hc
   .rename_i hd;obtain⟨S,C,e⟩:=ζf.1 hc;cases e;simp only[ga]at h;obtain⟨⟨F',H'⟩,hv,rfl⟩:=ζf.1 h;simp only[exec,iF,hd];rw[if_neg (by simp),Ec D _ C hv];rfl
  | _=>simp only[bH]at hc;(repeat' split at hc) <;> first|(simp at hc;done)|(obtain⟨_,_,e⟩:=ζf.1 hc;cases e)|cases hc
 | ny l=>
  intro code F H r hc h
  cases code with
  | region id ops u=>
   simp only[bH]at hc;split at hc
   .rename_i hd;split at hc
    .rename_i G;obtain⟨S,C,e⟩:=ζf.1 hc;cases e;simp only[ga]at h;split at h
     .rename_i T;obtain⟨⟨F',H'⟩,hv,rfl⟩:=ζf.1 h;have U:pY ops.toList=false:=A1 D _ C T;have:=EZ D ops.toList (i:=0) rfl C hv;rw[<-List.range_eq_range']at this;simp only[exec,iF,hd,G,if_true,U,Bool.false_eq_true,if_false,this];rfl
     .simp at h
    .simp at hc
   .obtain⟨_,_,e⟩:=ζf.1 hc;cases e
  | _=>simp only[bH]at hc;(repeat' split at hc) <;> first|(simp at hc;done)|(obtain⟨_,_,e⟩:=ζf.1 hc;cases e)|cases hc
 | seq a b w A=>
  intro code F H r hc h
  cases code with
  | seq I J=>
   simp only[bH]at hc;split at hc
   .rename_i x y B L;cases hc;simp only[ga]at h;simp only[exec]
    cases hva:ga X.E N call lf a F H with
    | none=>rw[hva]at h;simp at h
    | some q=>
     rw[hva]at h;rw[w I F H q B hva];obtain⟨o,F1,H1⟩:=q
     cases o with
     | norm=>exact A J F1 H1 r L h
     | exit _=>exact h
     | ret=>exact h
   .simp at hc
  | region id ops u=>simp only[bH]at hc;(repeat' split at hc) <;> first|(simp at hc;done)|(obtain⟨_,_,e⟩:=ζf.1 hc;cases e)
  | _=>simp only[bH]at hc;(repeat' split at hc) <;> first|(simp at hc;done)|(obtain⟨_,_,e⟩:=ζf.1 hc;cases e)|cases hc
 | cond x a b w A=>
  intro code F H r hc h
  cases code with
  | cond c I J=>
   simp only[bH]at hc;split at hc
   .rename_i Z y z B L W;cases hc;simp only[ga]at h;simp only[exec,G8 (F:=F) D B];split at h
    .rename_i t Y;rw[Y]
     cases t with
     | true=>simp only[if_true]at h ⊢;exact w I F H r L h
     | false=>simp only[Bool.false_eq_true,if_false]at h ⊢;exact A J F H r W h
    .simp at h
   .simp at hc
  | region id ops u=>simp only[bH]at hc;(repeat' split at hc) <;> first|(simp at hc;done)|(obtain⟨_,_,e⟩:=ζf.1 hc;cases e)
  | _=>simp only[bH]at hc;(repeat' split at hc) <;> first|(simp at hc;done)|(obtain⟨_,_,e⟩:=ζf.1 hc;cases e)|cases hc
 | block id c O=>
  intro code F H r hc h
  cases code with
  | block Q c'=>
   simp only[bH]at hc;obtain⟨x,B,e⟩:=ζf.1 hc;cases e;simp only[ga]at h;simp only[exec]
   cases hva:ga X.E N call lf c F H with
   | none=>rw[hva]at h;simp at h
   | some q=>
    rw[hva]at h;rw[O c' F H q B hva];exact h
  | region id ops u=>simp only[bH]at hc;(repeat' split at hc) <;> first|(simp at hc;done)|(obtain⟨_,_,e⟩:=ζf.1 hc;cases e)
  | _=>simp only[bH]at hc;(repeat' split at hc) <;> first|(simp at hc;done)|(obtain⟨_,_,e⟩:=ζf.1 hc;cases e)|cases hc
 | loop c O=>
  intro code F H r hc h
  cases code with
  | loop c'=>
   simp only[bH]at hc;obtain⟨x,B,e⟩:=ζf.1 hc;cases e;simp only[ga]at h;simp only[exec];exact FP (λF H r hr=>O c' F H r B hr) lf F H r h
  | region id ops u=>simp only[bH]at hc;(repeat' split at hc) <;> first|(simp at hc;done)|(obtain⟨_,_,e⟩:=ζf.1 hc;cases e)
  | _=>simp only[bH]at hc;(repeat' split at hc) <;> first|(simp at hc;done)|(obtain⟨_,_,e⟩:=ζf.1 hc;cases e)|cases hc
 | exit id=>
  intro code F H r hc h
  cases code with
  | exit Q=>simp only[bH,ζa,RC.exit.injEq]at hc;subst hc;exact h
  | region id ops u=>simp only[bH]at hc;(repeat' split at hc) <;> first|(simp at hc;done)|(obtain⟨_,_,e⟩:=ζf.1 hc;cases e)
  | _=>simp only[bH]at hc;(repeat' split at hc) <;> first|(simp at hc;done)|(obtain⟨_,_,e⟩:=ζf.1 hc;cases e)|cases hc
 | ret=>
  intro code F H r hc h
  cases code with
  | ret=>exact h
  | region id ops u=>simp only[bH]at hc;(repeat' split at hc) <;> first|(simp at hc;done)|(obtain⟨_,_,e⟩:=ζf.1 hc;cases e)
  | _=>simp only[bH]at hc;(repeat' split at hc) <;> first|(simp at hc;done)|(obtain⟨_,_,e⟩:=ζf.1 hc;cases e)|cases hc
 | _=>intro code F H r hc h;simp[ga]at h
end
end Go.VE
namespace Go.VE
variable [bM]
def Ex (E:Env) (N:Nat->FuncId) (rc:RC) (F:Frame) (H:bf) (o:Out) (F':Frame) (H':bf):Prop:=
 ∃n,∀k,n<=k->ga E N (run E k) k rc F H=some (o,F',H')
def mz (E:Env) (N:Nat->FuncId) (rc:RC) (F:Frame) (H:bf) (o:Out) (F':Frame) (H':bf):Prop:=
 ∃n,∀k,n<=k->∀u,n<=u->jw (ga E N (run E k) k rc) u F H=some (o,F',H')
section
variable {E:Env} {N:Nat->FuncId} {a b c:RC} {F F1 F':Frame} {H H1 H':bf} {o:Out} {x:Arg} {id:Nat}
theorem Ex.ops {l:List RO} (h:∃n,∀k,n<=k->cT E N (run E k) none l F H=some (F',H')):Ex E N (.ops l) F H .norm F' H':=
 let ⟨n,h⟩:=h;⟨n,λk hk=>by simp only[ga,h k hk,Option.map_some]⟩
theorem Ex.ey {l:List RO} (h:∀call,cT E N call none l F H=some (F',H')):Ex E N (.ops l) F H .norm F' H':=Ex.ops ⟨0,λk _=>h _⟩
theorem Ex.ny {l:List RO} (B:v8 l=true) (h:∀call,cT E N call (some H.length) l F H=some (F',H')):Ex E N (.ny l) F H .norm F' H':=
 ⟨0,λk _=>by simp only[ga,B,if_true,h,Option.map_some]⟩
theorem Ex.It {l:List RO} (B:v8 l=true) (h:∃n,∀k,n<=k->cT E N (run E k) (some H.length) l F H=some (F',H')):Ex E N (.ny l) F H .norm F' H':=
 let ⟨n,h⟩:=h;⟨n,λk hk=>by simp only[ga,B,if_true,h k hk,Option.map_some]⟩
theorem Ex.skip:Ex E N .skip F H .norm F H:=⟨0,λ_ _=>rfl⟩
theorem Ex.exit:Ex E N (.exit id) F H (.exit id) F H:=⟨0,λ_ _=>rfl⟩
theorem Ex.ret:Ex E N .ret F H .ret F H:=⟨0,λ_ _=>rfl⟩
theorem Ex.seq (h1:Ex E N a F H .norm F1 H1) (B:Ex E N b F1 H1 o F' H'):Ex E N (.seq a b) F H o F' H':=by
 obtain⟨n,h1⟩:=h1;obtain⟨m,B⟩:=B;exact⟨max n m,λk hk=>by simp only[ga,h1 k (by omega)];exact B k (by omega)⟩
theorem Ex.vm (h1:Ex E N a F H o F' H') (B:o≠.norm):Ex E N (.seq a b) F H o F' H':=by
 obtain⟨n,h1⟩:=h1;refine⟨n,λk hk=>?_⟩
 simp only[ga,h1 k hk];cases o <;> first|exact absurd rfl B|rfl
theorem Ex.oF (B:bu N F x=.bool true) (h:Ex E N a F H o F' H'):Ex E N (.cond x a b) F H o F' H':=by
 obtain⟨n,h⟩:=h;exact⟨n,λk hk=>by simp only[ga,B,if_true,h k hk]⟩
theorem Ex.tK (B:bu N F x=.bool false) (h:Ex E N b F H o F' H'):Ex E N (.cond x a b) F H o F' H':=by
 obtain⟨n,h⟩:=h;exact⟨n,λk hk=>by simp only[ga,B,Bool.false_eq_true,if_false,h k hk]⟩
theorem Ex.block (h:Ex E N c F H .norm F' H'):Ex E N (.block id c) F H .norm F' H':=by
 obtain⟨n,h⟩:=h;exact⟨n,λk hk=>by simp only[ga,h k hk]⟩
theorem Ex.vJ (h:Ex E N c F H (.exit id) F' H'):Ex E N (.block id c) F H .norm F' H':=by
 obtain⟨n,h⟩:=h;exact⟨n,λk hk=>by simp only[ga,h k hk,if_true]⟩
theorem Ex.JB (h:Ex E N c F H .ret F' H'):Ex E N (.block id c) F H .ret F' H':=by
 obtain⟨n,h⟩:=h;exact⟨n,λk hk=>by simp only[ga,h k hk]⟩
theorem Ex.loop (h:mz E N c F H o F' H'):Ex E N (.loop c) F H o F' H':=by
 obtain⟨n,h⟩:=h;exact⟨n,λk hk=>h k hk k hk⟩
theorem mz.step (h1:Ex E N c F H .norm F1 H1) (B:mz E N c F1 H1 o F' H'):mz E N c F H o F' H':=by
 obtain⟨n,h1⟩:=h1;obtain⟨m,B⟩:=B;refine⟨max n m+1,λk hk u w=>?_⟩
 cases u with
 | zero=>omega
 | succ u=>simp only[jw,h1 k (by omega)];exact B k (by omega) u (by omega)
theorem mz.stop (h1:Ex E N c F H o F' H') (B:o≠.norm):mz E N c F H o F' H':=by
 obtain⟨n,h1⟩:=h1;refine⟨n+1,λk hk u w=>?_⟩
 cases u with
 | zero=>omega
 | succ u=>
  simp only[jw,h1 k (by omega)]
  cases o <;> first|exact absurd rfl B|rfl
end
theorem Ex.run {E:Env} {nm:FuncId->Option Nat} {N:Nat->FuncId} (B:∀f s,nm f=some s->N s=f) {f:FuncId} {fi:FI} {rc:RC} (D:E.ft f=some fi) (hc:bH ⟨E,nm,fi.ntmps⟩ false fi.body=some rc) {args:List V} (G:args.length<=fi.ntmps) {H H':bf} {F':Frame}
 (h:Ex E N rc args H .ret F' H') {vs:List V} (hr:iR E F' H' fi.results=some vs):∃n,run E n (.fn f) args H=some (result vs,H'):=by
 obtain⟨n,h⟩:=h;refine⟨n+1,?_⟩;have:=ME (X:=⟨E,nm,fi.ntmps⟩) (call:=Go.VE.run E n) B (lf:=n) rc fi.body args H _ hc (h n (Nat.le_refl _));simp only[Go.VE.run,jP,D,if_pos G,this,hr,Option.map_some]
@[simp] theorem bq (F:Frame) (i j:Nat) (v:V):get (set F i v) j=if i=j then v else get F j:=by
 split
 .rename_i h;subst h;exact tL F i v
 .rename_i h;exact ir F v h
def refs:List Nat->List (List V)->List (List V)
 | id::ids,r::rs=>[V.hsl id 1 0 r.length]::refs ids rs
 | _,_=>[]
def hU (r:List V):List (List V):=r.map λu=>[u]
structure kO (H:bf) (w:V) (o:Nat) (ids:List Nat) (rows:List (List V)):Prop where
 v:w=if rows=[]then .bL else .hsl o 1 0 rows.length
 ob:rows≠[]->H[o]? = some (.row 1 (refs ids rows))
 len:ids.length=rows.length
 r:∀(i id:Nat) (r:List V),ids[i]? = some id->rows[i]? = some r->H[id]? = some (.row 1 (hU r))
 nd:ids.Nodup
 ne:rows≠[]->o∉ids
theorem qY:∀{ids:List Nat} {rows:List (List V)},ids.length=rows.length->(refs ids rows).length=rows.length
 | [],[],_=>rfl
 | _::ids,_::rows,h=>by simp only[refs,List.length_cons,qY (ids:=ids) (rows:=rows) (by simpa using h)]
theorem E3:∀{ids:List Nat} {rows:List (List V)} (id:Nat) (r:List V),ids.length=rows.length->refs (ids++[id]) (rows++[r])=refs ids rows++[[V.hsl id 1 0 r.length]]
 | [],[],_,_,_=>rfl
 | _::ids,_::rows,id,r,h=>by simp only[refs,List.cons_append,E3 (ids:=ids) (rows:=rows) id r (by simpa using h)]
theorem Ae:∀{ids:List Nat} {rows:List (List V)} {i id:Nat} {r:List V},ids[i]? = some id->rows[i]? = some r->(refs ids rows)[i]? = some [V.hsl id 1 0 r.length]
 | [],_,_,_,_,h,_=>by simp at h
 | _::_,[],_,_,_,_,h=>by simp at h
 | a::ids,b::rows,0,id,r,h1,B=>by simp at h1 B;subst h1 B;rfl
 | a::ids,b::rows,i+1,id,r,h1,B=>by simpa [refs]using Ae (ids:=ids) (rows:=rows) (i:=i) (by simpa using h1) (by simpa using B)
theorem EH:∀{ids:List Nat} {rows:List (List V)} {i:Nat} {r B:List V},rows[i]? = some r->B.length=r.length->refs ids (rows.set i B)=refs ids rows
 | [],_,_,_,_,_,_=>by simp[refs]
 | _::_,[],_,_,_,_,_=>by simp[refs]
 | a::ids,b::rows,0,r,B,h,D=>by simp at h;subst h;simp only[List.set_cons_zero,refs,D]
 | a::ids,b::rows,i+1,r,B,h,D=>by simp only[List.set_cons_succ,refs,EH (ids:=ids) (rows:=rows) (i:=i) (by simpa using h) D]
section
variable {H H':bf} {v:V} {o:Nat} {ids:List Nat} {rows:List (List V)}
theorem kO.nil (H:bf) (o:Nat):kO H .bL o [] []:=⟨rfl,λh=>absurd rfl h,rfl,λi id r h=>by simp at h,.nil,λh=>absurd rfl h⟩
theorem kO.heap (n:kO H v o ids rows) (B:rows≠[]->H'[o]? = H[o]?) (D:∀id∈ids,H'[id]? = H[id]?):kO H' v o ids rows:=
 ⟨n.v,λh=>by rw[B h];exact n.ob h,n.len,λi id r h1 u=>by rw[D id (List.mem_of_getElem? h1)];exact n.r i id r h1 u,n.nd,n.ne⟩
theorem kO.lt (n:kO H v o ids rows):(rows≠[]->o<H.length)/\∀id∈ids,id<H.length:=by
 refine⟨λh=>(ζe.1 (n.ob h)).1,λid u=>?_⟩
 obtain⟨i,w⟩:=List.getElem?_of_mem u;have z:=(ζe.1 w).1;have:=n.r i id _ w (ζd (show i<rows.length from n.len▸z));exact(ζe.1 this).1
theorem kO.more (n:kO H v o ids rows) (X:bf):kO (H++X) v o ids rows:=
 n.heap (λh=>List.getElem?_append_left (n.lt.1 h)) λid u=>List.getElem?_append_left (n.lt.2 id u)
theorem kO.push (n:kO H v o ids rows) (r:List V) (U:rows.length+1<=2147483648) :
 ∃H',eX (H++[.row 1 (hU r)]++[.row 1 [[.hsl H.length 1 0 r.length]]]) (.append 1) [v,.hsl (H.length+1) 1 0 1]=some (.hsl (H.length+2) 1 0 (rows.length+1),H') /\
  kO H' (.hsl (H.length+2) 1 0 (rows.length+1)) (H.length+2) (ids++[H.length]) (rows++[r])/\H.length<=H'.length/\(∀id,id<H.length->id≠o\/rows=[]->H'[id]? = H[id]?):=by
 generalize C:H++[.row 1 (hU r)]++[.row 1 [[.hsl H.length 1 0 r.length]]]=H2;have u:H2.length=H.length+2:=by subst C;simp
 have A:∀id,id<H.length->H2[id]? = H[id]? := λid h=>by
  subst C;rw[List.append_assoc,List.getElem?_append_left h]
 have h1:H2[H.length]? = some (.row 1 (hU r)):=by subst C;simp
 have T:H2[H.length+1]? = some (.row 1 [[.hsl H.length 1 0 r.length]]):=by subst C;simp
 have hv:=n.v;have e2:dG H2 1 (.hsl (H.length+1) 1 0 1)=some [[.hsl H.length 1 0 r.length]]:=by
  simp[dG,T,Ob.rows]
 by_cases hr:rows=[]
 .subst hr;rw[if_pos rfl]at hv;subst hv;have:ids=[]:=List.eq_nil_of_length_eq_zero n.len;subst this;refine⟨H2++[.row 1 [[.hsl H.length 1 0 r.length]]],?_,⟨by simp,λ_=>by rw[<-u];simp[refs],rfl,λi id O z w=>?_,by simp,λ_=>by simp⟩,by simp[u];omega,λid D _=>?_⟩
  .have e1:dG H2 1 .bL=some []:=rfl;simp only[eX,e1,e2,gm,List.length_nil,List.length_singleton,Option.map_some,u];simp
  .cases i with
   | zero=>
    simp at z w;subst z w;rw[List.getElem?_append_left (by omega)];exact h1
   | succ i=>simp at z
  .rw[List.getElem?_append_left (by omega)];exact A id D
 .rw[if_neg hr]at hv;subst hv;have Q:=n.ob hr;have I:=n.lt.1 hr;have e1:dG H2 1 (.hsl o 1 0 rows.length)=some (refs ids rows):=by
   simp only[dG,if_true,A o I,Q,ζb,Ob.rows,qY n.len,Nat.zero_add,Nat.le_refl,List.drop_zero];rw[List.take_of_length_le (by rw[qY n.len];exact Nat.le_refl _)]
  have W:gm H2 (.hsl o 1 0 rows.length)=some (H2.set o .dead):=by
   simp only[gm,A o I,Q]
  have B:∀id,id≠o->(H2.set o Ob.dead++[Ob.row 1 (refs ids rows++[[.hsl H.length 1 0 r.length]])])[id]? = if id<H2.length then H2[id]? else(H2.set o Ob.dead++[Ob.row 1 (refs ids rows++[[.hsl H.length 1 0 r.length]])])[id]? := λid G=>by
   split
   .rename_i h;rw[List.getElem?_append_left (by simpa using h),List.getElem?_set_ne (Ne.symm G)]
   .rfl
  refine⟨H2.set o .dead++[.row 1 (refs ids rows++[[.hsl H.length 1 0 r.length]])],?_,⟨by simp,λ_=>?_,by simp[n.len],λi id O z w=>?_,?_,λ_ hm=>?_⟩,by simp[u];omega,λid D G=>?_⟩
  .simp only[eX,e1,e2,W,qY n.len,List.length_singleton,U,if_true,Option.map_some,u]
  .rw[E3 _ _ n.len,<-u];simp
  .have J:id≠o:=by
    rcases Nat.lt_or_ge i ids.length with h|h
    .rw[List.getElem?_append_left h]at z;intro e;subst e;exact n.ne hr (List.mem_of_getElem? z)
    .have:i=ids.length:=by have:=(ζe.1 z).1;simp at this;omega
     subst this;simp at z;subst z;omega
   rcases Nat.lt_or_ge i ids.length with h|h
   .rw[List.getElem?_append_left h]at z;rw[List.getElem?_append_left (by rw[<-n.len];exact h)]at w
    have L:=n.lt.2 id (List.mem_of_getElem? z);rw[B id J,if_pos (by omega),A id L]
    exact n.r i id O z w
   .have:i=ids.length:=by have:=(ζe.1 z).1;simp at this;omega
    subst this;simp at z;subst z;rw[n.len]at w;simp at w;subst w;rw[B _ J,if_pos (by omega)];exact h1
  .rw[List.nodup_append];exact⟨n.nd,by simp,λa X b S=>by simp at S;subst S;exact Nat.ne_of_lt (n.lt.2 a X)⟩
  .rcases List.mem_append.1 hm with hm|hm
   .have:=n.lt.2 _ hm;omega
   .simp at hm
  .rw[B id (G.resolve_right hr),if_pos (by omega)];exact A id D
end
end Go.VE
namespace Go.VE
variable [bM]
theorem jy {E:Env} {N:Nat->FuncId} {F:Frame} {H H1:bf} {call:c_} {b:Option Nat} {o:RO} {l:List RO} {v:V} {r:Frame×bf} (hg:o.gd=none) (hv:bK E N call b o.now o.k (o.az.map (bu N F)) H=some (v,H1)) (h:cT E N call b l (br F o.dst v) H1=some r):cT E N call b (o::l) F H=some r:=by
 simp only[cT,hg,hv];exact h
theorem vp {E:Env} {N:Nat->FuncId} {F:Frame} {H:bf} {call:c_} {b:Option Nat} {o:RO} {l:List RO} {v:V} {r:Frame×bf} (hg:o.gd=none) (hv:bK E N call b o.now o.k (o.az.map (bu N F)) H=some (v,H)) (h:cT E N call b l (br F o.dst v) H=some r):cT E N call b (o::l) F H=some r:=jy hg hv h
theorem eS {E:Env} {N:Nat->FuncId} {F:Frame} {H:bf} {call:c_} {b:Option Nat}:cT E N call b [] F H=some (F,H):=rfl
theorem xV {n:Nat} (h:n<=2147483648):IntKind.wrap .i64 ((n:Int)+1)=((n+1:Nat):Int):=by
 simp[IntKind.wrap,IntKind.bits,IntKind.signed];omega
theorem Rn {n:Nat} (h:n<=2147483648):IntKind.wrap .i64 (((n+1:Nat):Int)-1)=(n:Int):=by
 simp[IntKind.wrap,IntKind.bits,IntKind.signed];omega
theorem iS (H:bf):H.take H.length=H:=List.take_length
theorem Dl {x:V} (h:x.one=true):x.cells=[x]:=by
 cases x <;> first|rfl|(simp[V.one]at h)
def kept (t:Nat->Bool) (n:Nat):List Nat:=(List.range n).filter λi=>i==0 || !t i
theorem uO (t:Nat->Bool) (n:Nat):kept t (n+1)=kept t n++if n==0 || !t n then [n]else []:=by
 unfold kept;rw[List.range_succ,List.filter_append,List.filter_cons];rfl
theorem Ox (t:Nat->Bool):∀n,(kept t n).length<=n:=λn=>by
 unfold kept;exact Nat.le_trans (List.length_filter_le ..) (by simp)
theorem AG {t:Nat->Bool}:∀n,(∀i,0<i->i<n->t i=false)->kept t n=List.range n
 | 0,_=>rfl
 | n+1,h=>by
  rw[uO,AG n λi h1 B=>h i h1 (by omega),List.range_succ]
  congr 1
  cases n with
  | zero=>rfl
  | succ n=>rw[h (n+1) (by omega) (by omega)];simp
theorem yX {t:Nat->Bool} {k:Nat} (h0:0<k) (hk:t k=true):∀n,k<n->(kept t n).length+1<=n
 | 0,h=>by omega
 | n+1,h=>by
  rw[uO]
  by_cases e:n=k
  .subst e;have:(n==0 || !t n)=false:=by simp[hk];omega
   rw[this];have:=Ox t n;simp;omega
  .have:=yX h0 hk n (by omega)
   split <;> simp <;> omega
namespace cmpX
instance {n:Nat}:OfNat Arg n:=⟨.s n⟩
def r1:List RO:=[o1 4 (.k (.bL)) []]
def r2:List RO:=[o1 8 0 [],o2 9 (.p .lenSl) [8] [],o2 10 (.p (.bin (some .int) none .lss)) [9,.k (.int .i64 2)] []]
def r3:List RO:=[o1 11 0 [],o1 4 11 []]
def r4:List RO:=[o1 5 (.k (.int .i64 1)) []]
def r5:List RO:=[o1 12 5 [],o1 13 0 [],o2 14 (.p .lenSl) [13] [],o2 15 (.p (.bin (some .int) none .lss)) [12,14] []]
def on (d:Nat) (k:K) (az:List Arg):RO:=⟨some d,none,true,k,az,[],[]⟩
def r6:List RO:=[o1 18 1 [],o1 19 0 [],o1 20 5 [],o2 21 (.p (.idxS 1)) [19,20] [],o2 22 (.r (.load 1 false)) [21] [],o1 23 0 [],o1 24 5 [],o2 25 (.p (.bin (some .int) none .sub)) [24,.k (.int .i64 1)] [],o2 26 (.p (.idxS 1)) [23,25] [],o2 27 (.r (.load 1 false)) [26] [],on 28 .c [18,22,27]]
def r7:List RO:=[o1 29 0 [],o1 30 5 [],o2 31 (.p (.slice 1 true false)) [29,30] [],o1 6 31 []]
def r8:List RO:=[o1 7 (.k (.int .i64 1)) []]
def r9:List RO:=[o1 32 7 [],o1 33 6 [],o2 34 (.p .lenSl) [33] [],o2 35 (.p (.bin (some .int) none .lss)) [32,34] []]
def EP:List RO:=[o1 38 1 [],o1 39 6 [],o1 40 7 [],o2 41 (.p (.idxS 1)) [39,40] [],o2 42 (.r (.load 1 false)) [41] [],o1 43 6 [],o1 44 7 [],o2 45 (.p (.bin (some .int) none .sub)) [44,.k (.int .i64 1)] [],o2 46 (.p (.idxS 1)) [43,45] [],o2 47 (.r (.load 1 false)) [46] [],on 48 .c [38,42,47],on 49 (.p (.not)) [48]]
def FO:List RO:=[o1 50 0 [],o1 51 5 [],o1 52 6 [],o1 53 7 [],o2 54 (.p (.idxS 1)) [52,53] [],o2 55 (.r (.load 1 false)) [54] [],o2 56 (.p (.idxS 1)) [50,51] [],⟨none,none,false,.l (.store 1),[56,55],[],[]⟩]
def E7:List RO:=[o1 57 5 [],o2 58 (.p (.bin (some .int) none .add)) [57,.k (.int .i64 1)] [],o1 5 58 []]
def Fa:List RO:=[o1 36 7 [],o2 37 (.p (.bin (some .int) none .add)) [36,.k (.int .i64 1)] [],o1 7 37 []]
def Sd:RC:=.seq (.seq (.ops r9) (.cond (.s 35) (.skip) (.exit 2))) (.seq (.block 3 (.seq (.ny EP) (.cond (.s 49) (.seq (.ops FO) (.ops E7)) (.skip)))) (.ops Fa))
def Ey:List RO:=[o1 59 0 [],o1 60 5 [],o2 61 (.p (.slice 1 true false)) [59,60] [],⟨none,none,false,.l (.clear 1 [.bL]),[61],[],[]⟩]
def G9:List RO:=[o1 62 0 [],o1 63 5 [],o2 64 (.p (.slice 1 false true)) [62,63] [],o1 4 64 []]
def r16:List RO:=[o1 16 5 [],o2 17 (.p (.bin (some .int) none .add)) [16,.k (.int .i64 1)] [],o1 5 17 []]
def N7:RC:=.seq (.seq (.ops r5) (.cond (.s 15) (.skip) (.exit 0))) (.seq (.block 1 (.seq (.ny r6) (.cond (.s 28) (.seq (.ops r7) (.seq (.seq (.ops r8) (.block 2 (.loop Sd))) (.seq (.ops Ey) (.seq (.ops G9) (.ret))))) (.skip)))) (.ops r16))
def KN:List RO:=[o1 65 0 [],o1 4 65 []]
def code:RC:=.seq (.ops r1) (.seq (.seq (.ops r2) (.cond (.s 10) (.seq (.ops r3) (.ret)) (.skip))) (.seq (.seq (.ops r4) (.block 0 (.loop N7))) (.seq (.ops KN) (.ret))))
structure TA (F F':Frame):Prop where
 s0:get F' 0=get F 0
 s1:get F' 1=get F 1
section
variable {E:Env} {N:Nat->FuncId} {F:Frame} {H:bf} {call:c_} {id off L k:Nat}
theorem ld {B:List (List V)} {el:Nat} {v:V} (h:H[id]? = some (.row 1 B)) (hv:B[el]? = some [v]):eC H (.load 1 false) [.hptr id el 0]=some v:=by
 simp[eC,dJ,h,Ob.rows,hv,cut,mk]
theorem NM {i:Nat} (h:i<L):kj 1 (.hsl id 1 off L) (i:Int)=some (.hptr id (off+i) 0):=by
 unfold kj;rw[if_neg (by omega)];simp[h]
theorem x2 (f0:get F 0=.hsl id 1 off L):∃F',(∀call,cT E N call none r2 F H=some (F',H))/\get F' 10=.bool (decide ((L:Int)<2))/\(∀s,s<8->get F' s=get F s):=by
 refine⟨_,λcall=>vp (v:=.hsl id 1 off L) rfl ?_ <| vp (v:=.int .i64 L) rfl ?_ <| vp (v:=.bool (decide ((L:Int)<2))) rfl ?_ eS,?_,?_⟩
 .simp[bK,bu,bn,f0]
 .simp[bK,bu,bn,br,o_]
 .simp[bK,bu,bn,br,iJ,o4]
 .simp[br]
 .intro s u;simp only[br,bq]
  repeat (rw[if_neg (by omega)])
theorem x5 (f0:get F 0=.hsl id 1 off L) (f5:get F 5=.int .i64 k):∃F',(∀call,cT E N call none r5 F H=some (F',H))/\get F' 15=.bool (decide (k<L))/\(∀s,s<8->get F' s=get F s):=by
 refine⟨_,λcall=>vp (v:=.int .i64 k) rfl ?_ <| vp (v:=.hsl id 1 off L) rfl ?_ <| vp (v:=.int .i64 L) rfl ?_ <| vp (v:=.bool (decide (k<L))) rfl ?_ eS,?_,?_⟩
 .simp[bK,bu,bn,f5]
 .simp[bK,bu,bn,br,f0]
 .simp[bK,bu,bn,br,o_]
 .simp[bK,bu,bn,br,iJ,o4]
 .simp[br]
 .intro s u;simp only[br,bq]
  repeat (rw[if_neg (by omega)])
theorem QK {g:FuncId} {cb:List V} {B:List (List V)} {o2 L2 i:Nat} {a b:V} {t:Bool} (h:H[id]? = some (.row 1 B)) (G:i+1<L2) (D:i<=2147483648) (J:B[o2+(i+1)]? = some [a]) (U:B[o2+i]? = some [b]) (hk:E.keep g=false) (f1:get F 1=.clo g [] cb) :
 (get F 0=.hsl id 1 o2 L2->get F 5=.int .i64 ((i+1:Nat):Int)->∃F',(∀call,cn call g (a::b::cb) H=some (.bool t)->cT E N call (some H.length) r6 F H=some (F',H))/\get F' 28=.bool t/\(∀s,s<8->get F' s=get F s)) /\
 (get F 6=.hsl id 1 o2 L2->get F 7=.int .i64 ((i+1:Nat):Int)->∃F',(∀call,cn call g (a::b::cb) H=some (.bool t)->cT E N call (some H.length) EP F H=some (F',H))/\get F' 49=.bool (!t)/\(∀s,s<8->get F' s=get F s)):=by
 have hd:=Rn D;have e1:=ld h J;have e2:=ld h U;have i1:=NM (id:=id) (off:=o2) (L:=L2) G;have i2:=NM (id:=id) (off:=o2) (L:=L2) (show i<L2 by omega)
 refine⟨λf0 f5=>⟨_,λcall hc=>vp (v:=.clo g [] cb) rfl ?_ <| vp (v:=.hsl id 1 o2 L2) rfl ?_ <| vp (v:=.int .i64 ((i+1:Nat):Int)) rfl ?_ <| vp (v:=.hptr id (o2+(i+1)) 0) rfl ?_ <| vp (v:=a) rfl ?_ <| vp (v:=.hsl id 1 o2 L2) rfl ?_ <| vp (v:=.int .i64 ((i+1:Nat):Int)) rfl ?_ <|
  vp (v:=.int .i64 (i:Int)) rfl ?_ <| vp (v:=.hptr id (o2+i) 0) rfl ?_ <| vp (v:=b) rfl ?_ <| vp (v:=.bool t) rfl ?_ eS,?_,?_⟩,λf6 f7=>⟨_,λcall hc=>vp (v:=.clo g [] cb) rfl ?_ <| vp (v:=.hsl id 1 o2 L2) rfl ?_ <| vp (v:=.int .i64 ((i+1:Nat):Int)) rfl ?_ <| vp (v:=.hptr id (o2+(i+1)) 0) rfl ?_ <| vp (v:=a) rfl ?_ <| vp (v:=.hsl id 1 o2 L2) rfl ?_ <| vp (v:=.int .i64 ((i+1:Nat):Int)) rfl ?_ <|
  vp (v:=.int .i64 (i:Int)) rfl ?_ <| vp (v:=.hptr id (o2+i) 0) rfl ?_ <| vp (v:=b) rfl ?_ <| vp (v:=.bool t) rfl ?_ <| vp (v:=.bool (!t)) rfl ?_ eS,?_,?_⟩⟩
 .simp[bK,bu,bn,f1]
 .simp[bK,bu,bn,br,f0]
 .simp only[bK,List.map_cons,List.map_nil,bu,br,bq,Nat.reduceEqDiff,if_true,if_false,f5,bn];rfl
 .simp only[bK,List.map_cons,List.map_nil,bu,br,bq,Nat.reduceEqDiff,if_true,if_false,bn];rw[i1];rfl
 .simp only[bK,List.map_cons,List.map_nil,bu,br,bq,Nat.reduceEqDiff,if_true,if_false,iS];rw[e1];rfl
 .simp[bK,bu,bn,br,f0]
 .simp only[bK,List.map_cons,List.map_nil,bu,br,bq,Nat.reduceEqDiff,if_true,if_false,f5,bn];rfl
 .simp only[bK,List.map_cons,List.map_nil,bu,br,bq,Nat.reduceEqDiff,if_true,if_false,bn,iJ,hd];rfl
 .simp only[bK,List.map_cons,List.map_nil,bu,br,bq,Nat.reduceEqDiff,if_true,if_false,bn];rw[i2];rfl
 .simp only[bK,List.map_cons,List.map_nil,bu,br,bq,Nat.reduceEqDiff,if_true,if_false,iS];rw[e2];rfl
 .simp only[bK,on,List.map_cons,List.map_nil,bu,br,bq,Nat.reduceEqDiff,if_true,if_false,iS,hk,Bool.false_eq_true,List.nil_append,List.cons_append,hc,V.scalar]
 .simp[br,on]
 .intro s u;simp only[br,on,bq]
  repeat (rw[if_neg (by omega)])
 .simp[bK,bu,bn,f1]
 .simp[bK,bu,bn,br,f6]
 .simp only[bK,List.map_cons,List.map_nil,bu,br,bq,Nat.reduceEqDiff,if_true,if_false,f7,bn];rfl
 .simp only[bK,List.map_cons,List.map_nil,bu,br,bq,Nat.reduceEqDiff,if_true,if_false,bn];rw[i1];rfl
 .simp only[bK,List.map_cons,List.map_nil,bu,br,bq,Nat.reduceEqDiff,if_true,if_false,iS];rw[e1];rfl
 .simp[bK,bu,bn,br,f6]
 .simp only[bK,List.map_cons,List.map_nil,bu,br,bq,Nat.reduceEqDiff,if_true,if_false,f7,bn];rfl
 .simp only[bK,List.map_cons,List.map_nil,bu,br,bq,Nat.reduceEqDiff,if_true,if_false,bn,iJ,hd];rfl
 .simp only[bK,List.map_cons,List.map_nil,bu,br,bq,Nat.reduceEqDiff,if_true,if_false,bn];rw[i2];rfl
 .simp only[bK,List.map_cons,List.map_nil,bu,br,bq,Nat.reduceEqDiff,if_true,if_false,iS];rw[e2];rfl
 .simp only[bK,on,List.map_cons,List.map_nil,bu,br,bq,Nat.reduceEqDiff,if_true,if_false,iS,hk,Bool.false_eq_true,List.nil_append,List.cons_append,hc,V.scalar]
 .simp[bK,on,bu,bn,br]
 .simp[br,on]
 .intro s u;simp only[br,on,bq]
  repeat (rw[if_neg (by omega)])
end
end cmpX
end Go.VE
namespace Go.VE
variable [bM]
namespace cmpX
section
variable {E:Env} {N:Nat->FuncId} {F:Frame} {H:bf} {call:c_} {id off L k:Nat}
theorem x7 (f0:get F 0=.hsl id 1 off L) (f5:get F 5=.int .i64 k) (hk:k<=L):∃F',(∀call,cT E N call none r7 F H=some (F',H))/\get F' 6=.hsl id 1 (off+k) (L-k)/\(∀s,s<8->s≠6->get F' s=get F s):=by
 have e:gI 1 (.hsl id 1 off L) (some k) none=some (.hsl id 1 (off+k) (L-k)):=by
  unfold gI dM
  grind
 refine⟨_,λcall=>vp (v:=.hsl id 1 off L) rfl ?_ <| vp (v:=.int .i64 k) rfl ?_ <| vp (v:=.hsl id 1 (off+k) (L-k)) rfl ?_ <| vp (v:=.hsl id 1 (off+k) (L-k)) rfl ?_ eS,?_,?_⟩
 .simp[bK,bu,bn,f0]
 .simp[bK,bu,bn,br,f5]
 .simp[bK,bu,br,bq,bn,kS,e]
 .simp[bK,bu,bn,br]
 .simp[br]
 .simp[br,bq]
  grind
theorem x9 {o2 L2 m:Nat} (f6:get F 6=.hsl id 1 o2 L2) (f7:get F 7=.int .i64 m):∃F',(∀call,cT E N call none r9 F H=some (F',H))/\get F' 35=.bool (decide (m<L2))/\(∀s,s<8->get F' s=get F s):=by
 refine⟨_,λcall=>vp (v:=.int .i64 m) rfl ?_ <| vp (v:=.hsl id 1 o2 L2) rfl ?_ <| vp (v:=.int .i64 L2) rfl ?_ <| vp (v:=.bool (decide (m<L2))) rfl ?_ eS,?_,?_⟩
 .simp[bK,bu,bn,f7]
 .simp[bK,bu,bn,br,f6]
 .simp[bK,bu,bn,br,o_]
 .simp[bK,bu,bn,br,iJ,o4]
 .simp[br]
 .simp[br,bq]
  grind
theorem QL {B:List (List V)} {o2 L2 m p:Nat} {a z:V} (h:H[id]? = some (.row 1 B)) (f0:get F 0=.hsl id 1 off L) (f5:get F 5=.int .i64 p) (f6:get F 6=.hsl id 1 o2 L2) (f7:get F 7=.int .i64 m) (D:m<L2) (hp:p<L)
 (G:B[o2+m]? = some [a]) (J:B[off+p]? = some [z]) (h1:a.one=true) :
 ∃F',(∀call,cT E N call none FO F H=some (F',H.set id (.row 1 (B.set (off+p) [a]))))/\(∀s,s<8->get F' s=get F s):=by
 have i1:=NM (id:=id) (off:=o2)  D;have i2:=NM (id:=id) (off:=off)  hp;have e1:=ld h G;have u:eX H (.store 1) [.hptr id (off+p) 0,a]=some (.undef,H.set id (.row 1 (B.set (off+p) [a]))):=by
  simp[eX,h,J,Dl h1,h1]
 refine⟨_,λcall=>vp (v:=.hsl id 1 off L) rfl ?_ <| vp (v:=.int .i64 p) rfl ?_ <| vp (v:=.hsl id 1 o2 L2) rfl ?_ <| vp (v:=.int .i64 m) rfl ?_ <| vp (v:=.hptr id (o2+m) 0) rfl ?_ <| vp (v:=a) rfl ?_ <| vp (v:=.hptr id (off+p) 0) rfl ?_ <| jy (v:=.undef)  rfl ?_ eS,?_⟩
 .simp[bK,bu,bn,f0]
 .simp[bK,bu,bn,br,f5]
 .simp[bK,bu,bn,br,f6]
 .simp[bK,bu,bn,br,f7]
 .simp[bK,bu,br,bq,bn];grind
 .simp[bK,bu,br,bq];grind
 .simp[bK,bu,br,bq,bn];grind
 .simp[bK,bu,br,bq];omega
 .simp[br,bq]
  grind
theorem I8 {p:Nat} (hp:p<=2147483648):(get F 5=.int .i64 p->∃F',(∀call,cT E N call none E7 F H=some (F',H))/\get F' 5=.int .i64 ((p+1:Nat):Int)/\(∀s,s<8->s≠5->get F' s=get F s)) /\
 (get F 7=.int .i64 p->∃F',(∀call,cT E N call none Fa F H=some (F',H))/\get F' 7=.int .i64 ((p+1:Nat):Int)/\(∀s,s<8->s≠7->get F' s=get F s)) /\
 (get F 5=.int .i64 p->∃F',(∀call,cT E N call none r16 F H=some (F',H))/\get F' 5=.int .i64 ((p+1:Nat):Int)/\(∀s,s<8->s≠5->get F' s=get F s)):=by
 have u:=xV hp;refine⟨λf=>⟨_,λcall=>vp (v:=.int .i64 p) rfl ?_ <| vp (v:=.int .i64 (p+1:Nat)) rfl ?_ <| vp (v:=.int .i64 (p+1:Nat)) rfl ?_ eS,?_,?_⟩,
  λf=>⟨_,λcall=>vp (v:=.int .i64 p) rfl ?_ <| vp (v:=.int .i64 (p+1:Nat)) rfl ?_ <| vp (v:=.int .i64 (p+1:Nat)) rfl ?_ eS,?_,?_⟩,
  λf=>⟨_,λcall=>vp (v:=.int .i64 p) rfl ?_ <| vp (v:=.int .i64 (p+1:Nat)) rfl ?_ <| vp (v:=.int .i64 (p+1:Nat)) rfl ?_ eS,?_,?_⟩⟩ <;>
 first
 | (simp[bK,bu,bn,f];done)
 | (simp only[bK,List.map_cons,List.map_nil,bu,br,bq,if_true,bn,iJ,u];rfl)
 | grind
 | (simp[br];done)
 | (simp[br,bq];grind)
theorem S0 {B:List (List V)} {p:Nat} (h:H[id]? = some (.row 1 B)) (f0:get F 0=.hsl id 1 off L) (f5:get F 5=.int .i64 p) (hp:p<L) (D:off+L<=B.length) :
 ∃F',(∀call,cT E N call none Ey F H=some (F',H.set id (.row 1 (B.take (off+p)++List.replicate (L-p) [.bL]++B.drop (off+L)))))/\(∀s,s<8->get F' s=get F s):=by
 have e:gI 1 (.hsl id 1 off L) (some p) none=some (.hsl id 1 (off+p) (L-p)):=by
  unfold gI dM
  grind
 obtain⟨q,u⟩:∃q,L-p=q+1:=⟨L-p-1,by omega⟩
 have hc:eX H (.clear 1 [.bL]) [.hsl id 1 (off+p) (L-p)]=some (.undef,H.set id (.row 1 (B.take (off+p)++List.replicate (L-p) [.bL]++B.drop (off+L)))):=by
  simp[eX,BR,u,h]
  grind
 refine⟨_,λcall=>vp (v:=.hsl id 1 off L) rfl ?_ <| vp (v:=.int .i64 p) rfl ?_ <| vp (v:=.hsl id 1 (off+p) (L-p)) rfl ?_ <| jy (v:=.undef)  rfl ?_ eS,?_⟩
 .simp[bK,bu,bn,f0]
 .simp[bK,bu,bn,br,f5]
 .simp[bK,bu,br,bq,bn,kS,e]
 .simp only[bK,List.map_cons,List.map_nil,bu,br,bq,if_true];omega
 .simp[br,bq]
  grind
theorem Ny {p:Nat} (f0:get F 0=.hsl id 1 off L) (f5:get F 5=.int .i64 p) (hp:p<=L):∃F',(∀call,cT E N call none G9 F H=some (F',H))/\get F' 4=.hsl id 1 off p:=by
 have e:gI 1 (.hsl id 1 off L) none (some p)=some (.hsl id 1 off p):=by
  unfold gI dM
  grind
 refine⟨_,λcall=>vp (v:=.hsl id 1 off L) rfl ?_ <| vp (v:=.int .i64 p) rfl ?_ <| vp (v:=.hsl id 1 off p) rfl ?_ <| vp (v:=.hsl id 1 off p) rfl ?_ eS,?_⟩
 .simp[bK,bu,bn,f0]
 .simp[bK,bu,bn,br,f5]
 .simp[bK,bu,br,bq,bn,kS,e]
 .simp[bK,bu,bn,br]
 .simp[br]
theorem S4:∃F',(∀call,cT E N call none KN F H=some (F',H))/\get F' 4=get F 0:=
 ⟨_,λcall=>vp (v:=get F 0) rfl (by simp[bK,bu,bn]) <| vp (v:=get F 0) rfl (by simp[bK,bu,bn,br]) eS,by simp[br]⟩
theorem Qn:∃F',(∀call,cT E N call none r3 F H=some (F',H))/\get F' 4=get F 0:=
 ⟨_,λcall=>vp (v:=get F 0) rfl (by simp[bK,bu,bn]) <| vp (v:=get F 0) rfl (by simp[bK,bu,bn,br]) eS,by simp[br]⟩
end
structure Jl (E:Env) (g:FuncId) (cb:List V) (H:bf) (id off L:Nat) (rs:List (List V)) (A:Nat->V) (t:Nat->Bool):Prop where
 row:H[id]? = some (.row 1 rs)
 len:off+L<=rs.length
 small:L<=2147483648
 at_:∀i,i<L->rs[off+i]? = some [A i]
 one:∀i,i<L->(A i).one=true
 keep:E.keep g=false
 cmp:∃n,∀k,n<=k->∀i,i+1<L->∀cur,cn (run E k) g (A (i+1)::A i::cb) (H.set id (.row 1 cur))=some (.bool (t (i+1)))
structure Head (g:FuncId) (cb:List V) (id off L kk m:Nat) (rs:List (List V)) (A:Nat->V) (t:Nat->Bool) (F:Frame) (cur:List (List V)):Prop where
 f0:get F 0=.hsl id 1 off L
 f1:get F 1=.clo g [] cb
 f5:get F 5=.int .i64 ((kept t (kk+m)).length:Nat)
 f6:get F 6=.hsl id 1 (off+kk) (L-kk)
 f7:get F 7=.int .i64 m
 len:cur.length=rs.length
 pre:∀p i,(kept t (kk+m))[p]? = some i->cur[off+p]? = some [A i]
 post:∀i,kk+m<=i+1->i<L->cur[off+i]? = some [A i]
 out:∀j,j<off\/off+L<=j->cur[j]? = rs[j]?
 cell:∀i,i<L->∃j,j<L/\cur[off+i]? = some [A j]
section
variable {E:Env} {N:Nat->FuncId} {g:FuncId} {cb:List V} {H:bf} {id off L kk:Nat} {rs:List (List V)} {A:Nat->V} {t:Nat->Bool}
theorem IL (X:Jl E g cb H id off L rs A t) (aa:0<kk) (ah:kk<L) (ht:t kk=true):∀(d m:Nat) (F:Frame) (B:List (List V)),kk+m+d=L->0<m->Head g cb id off L kk m rs A t F B ->
 ∃F' D,mz E N Sd F (H.set id (.row 1 B)) (.exit 2) F' (H.set id (.row 1 D))/\Head g cb id off L kk (L-kk) rs A t F' D:=by
 have O:=(ζe.1 X.row).1;have G:∀B,(H.set id (.row 1 B))[id]? = some (.row 1 B):=λB=>List.getElem?_set_self O
 have ai:=X.small;have af:=X.len;intro d
 induction d with
 | zero=>
  intro m F B he hm h;have em:m=L-kk:=by omega
  subst em;obtain⟨F1,e1,e2,e3⟩:=x9    h.f6 h.f7;refine⟨F1,B,mz.stop (Ex.vm (Ex.seq (Ex.ey e1) (Ex.tK (by simp[bu,e2]) Ex.exit)) (by simp)) (by simp),?_⟩
  exact⟨by rw[e3 0 (by omega)];exact h.f0,by rw[e3 1 (by omega)];exact h.f1,by rw[e3 5 (by omega)];exact h.f5,by rw[e3 6 (by omega)];exact h.f6,by rw[e3 7 (by omega)];exact h.f7,h.len,h.pre,h.post,h.out,h.cell⟩
 | succ d ih=>
  intro m F B he hm h;obtain⟨F1,a1,a2,a3⟩:=x9    h.f6 h.f7;have T:bu N F1 35=.bool true:=by
   show get F1 35=_;rw[a2,decide_eq_true (by omega)]
  obtain⟨m',rfl⟩:∃m',m=m'+1:=⟨m-1,by omega⟩
  obtain⟨n0,ab⟩:=X.cmp;have c1:B[off+kk+(m'+1)]? = some [A (kk+m'+1)]:=by
   have:=h.post (kk+m'+1) (by omega) (by omega);grind
  have c2:B[off+kk+m']? = some [A (kk+m')]:=by
   have:=h.post (kk+m') (by omega) (by omega);grind
  obtain⟨F2,b1,b2,b3⟩:=(QK      (L2:=L-kk)  (G B) (by omega) (by omega) c1 c2 X.keep (by rw[a3 1 (by omega)];exact h.f1)).2 (by rw[a3 6 (by omega)];exact h.f6) (by rw[a3 7 (by omega)];exact h.f7)
  have U:∃n,∀k,n<=k->cT E N (run E k) (some (H.set id (.row 1 B)).length) EP F1 (H.set id (.row 1 B))=some (F2,H.set id (.row 1 B)):=⟨n0,λk hk=>b1 _ (ab k hk (kk+m') (by omega) B)⟩
  have w  := λs hs=>(b3 s hs).trans (a3 s hs)
  have ad:(kept t (kk+(m'+1))).length+1<=kk+(m'+1):=yX aa ht _ (by omega)
  have u:kept t (kk+(m'+1)+1)=kept t (kk+(m'+1))++if t (kk+m'+1)then []else [kk+m'+1]:=by
   rw[uO]
   grind
  have z:kk+(m'+1+1)=kk+(m'+1)+1:=by omega
  cases W:t (kk+m'+1)with
  | true=>
   rw[W]at b2 u;simp  at u;obtain⟨F3,Y,q2,Q⟩:=(I8     (p:=m'+1) (by omega)).2.1 (by rw[w 7 (by omega)];exact h.f7)
   obtain⟨F',D,i1,i2⟩:=ih (m'+1+1) F3 B (by omega) (by omega) ⟨by rw[Q 0 (by omega) (by omega),w 0 (by omega)];exact h.f0,by rw[Q 1 (by omega) (by omega),w 1 (by omega)];exact h.f1,
    by rw[Q 5 (by omega) (by omega),w 5 (by omega),z,u];exact h.f5,by rw[Q 6 (by omega) (by omega),w 6 (by omega)];exact h.f6,q2,h.len,by rw[z,u];exact h.pre,λi h1 Z=>h.post i (by omega) Z,h.out,h.cell⟩
   exact⟨F',D,mz.step (Ex.seq (Ex.seq (Ex.ey a1) (Ex.oF T Ex.skip)) (Ex.seq (Ex.block (Ex.seq (Ex.It (by decide) U) (Ex.tK (by simp[bu,b2]) Ex.skip))) (Ex.ey Y))) i1,i2⟩
  | false=>
   rw[W]at b2 u;generalize hK:(kept t (kk+(m'+1))).length=K at *;obtain⟨_,_,hz⟩:=h.cell K (by omega)
   obtain⟨F3,Y,q2⟩:=QL           (G B) (by rw[w 0 (by omega)];exact h.f0) (by rw[w 5 (by omega),h.f5,hK]) (by rw[w 6 (by omega)];exact h.f6) (by rw[w 7 (by omega)];exact h.f7) (by omega) (by omega) c1 hz (X.one _ (by omega))
   rw[List.set_set]at Y;generalize I:B.set (off+K) [A (kk+m'+1)]=J at Y;have hg:∀j,J[j]? = if j=off+K then some [A (kk+m'+1)]else B[j]? := λj=>by
    rw[<-I,List.getElem?_set]
    by_cases e:off+K=j
    .rw[if_pos e,if_pos e.symm,if_pos (by rw[h.len];omega)]
    .rw[if_neg e,if_neg (Ne.symm e)]
   obtain⟨F4,Q,q4,q5⟩:=(I8     (p:=K) (by omega)).1 (by rw[q2 5 (by omega),w 5 (by omega),h.f5,hK])
   have C:∀s,s<8->s≠5->get F4 s=get F s:=λs h1 Z=>by rw[q5 s h1 Z,q2 s h1,w s h1]
   obtain⟨F5,q6,q7,q8⟩:=(I8     (p:=m'+1) (by omega)).2.1 (by rw[C 7 (by omega) (by omega)];exact h.f7)
   obtain⟨F',D,i1,i2⟩:=ih (m'+1+1) F5 J (by omega) (by omega) ⟨by rw[q8 0 (by omega) (by omega),C 0 (by omega) (by omega)];exact h.f0,by rw[q8 1 (by omega) (by omega),C 1 (by omega) (by omega)];exact h.f1,
    by rw[q8 5 (by omega) (by omega),q4,z,u,ζi,hK];rfl,by rw[q8 6 (by omega) (by omega),C 6 (by omega) (by omega)];exact h.f6,q7,by rw[<-I,List.length_set];exact h.len,
    λp i S=>by
     rw[z,u]at S;rw[hg]
     by_cases e:p=K
     .subst e;rw[<-hK,List.getElem?_append_right (Nat.le_refl _),Nat.sub_self]at S;cases S;rw[if_pos rfl]
     .have ae:p<(kept t (kk+(m'+1))).length:=by
       have:=(ζe.1 S).1;simp at this;omega
      rw[List.getElem?_append_left ae]at S;rw[if_neg (by omega)];exact h.pre p i S,
    λi h1 Z=>by rw[hg,if_neg (by omega)];exact h.post i (by omega) Z,λj hj=>by rw[hg,if_neg (by omega)];exact h.out j hj,
    λi hi=>by
     rw[hg]
     by_cases e:off+i=off+K
     .rw[if_pos e];exact⟨_,by omega,rfl⟩
     .rw[if_neg e];exact h.cell i hi⟩
   exact⟨F',D,mz.step (Ex.seq (Ex.seq (Ex.ey a1) (Ex.oF T Ex.skip)) (Ex.seq (Ex.block (Ex.seq (Ex.It (by decide) U) (Ex.oF (by simp[bu,b2]) (Ex.seq (Ex.ey Y) (Ex.ey Q))))) (Ex.ey q6))) i1,i2⟩
structure M7 (off L:Nat) (rs:List (List V)) (A:Nat->V) (t:Nat->Bool) (rs':List (List V)):Prop where
 len:rs'.length=rs.length
 pre:∀p i,(kept t L)[p]? = some i->rs'[off+p]? = some [A i]
 all:∀c∈rs',c∈rs\/c=[.bL]
theorem I_ (X:Jl E g cb H id off L rs A t):∀(d k:Nat) (F:Frame),k+d=L->0<k->(∀i,0<i->i<k->t i=false)->get F 0=.hsl id 1 off L->get F 1=.clo g [] cb->get F 5=.int .i64 k ->
 (∃F',mz E N N7 F H (.exit 0) F' H/\get F' 0=.hsl id 1 off L/\∀i,0<i->i<L->t i=false) \/
 (∃F' D,mz E N N7 F H .ret F' (H.set id (.row 1 D))/\get F' 4=.hsl id 1 off (kept t L).length/\M7 off L rs A t D):=by
 have Q:=(ζe.1 X.row).1;have S  := xE X.row;have ah:=X.small;have af:=X.len;intro d
 induction d with
 | zero=>
  intro k F he hk hp f0 f1 f5;have ek:k=L:=by omega
  subst ek;obtain⟨F1,e1,e2,e3⟩:=x5  (N:=N)  f0 f5;exact .inl ⟨F1,mz.stop (Ex.vm (Ex.seq (Ex.ey e1) (Ex.tK (by simp[bu,e2]) Ex.exit)) (by simp)) (by simp),by grind,hp⟩
 | succ d ih=>
  intro k F he hk hp f0 f1 f5;obtain⟨F1,a1,a2,a3⟩:=x5    f0 f5;have U:bu N F1 15=.bool true:=by
   show get F1 15=_;rw[a2,decide_eq_true (by omega)]
  obtain⟨u,rfl⟩:∃u,k=u+1:=⟨k-1,by omega⟩
  obtain⟨n0,ai⟩:=X.cmp;obtain⟨F2,b1,b2,b3⟩:=(QK  (N:=N) (cb:=cb) (g:=g) (i:=u) (L2:=L) (t:=t (u+1)) X.row (by omega) (by omega) (X.at_ _ (by omega)) (X.at_ _ (by omega)) X.keep (by rw[a3 1 (by omega)];omega)).1 (by grind) (by grind)
  have W:∃n,∀k,n<=k->cT E N (run E k) (some H.length) r6 F1 H=some (F2,H):=⟨n0,λk hk=>b1 _ (by
   grind)⟩
  have Y  := λs hs=>(b3 s hs).trans (a3 s hs)
  cases w:t (u+1)with
  | false=>
   rw[w]at b2;obtain⟨T,q1,q2,q3⟩:=(I8 (E:=E)  (F:=F2)  (p:=u+1) (by omega)).2.2 (by grind)
   have z:Ex E N N7 F H .norm T H:=Ex.seq (Ex.seq (Ex.ey a1) (Ex.oF U Ex.skip)) (Ex.seq (Ex.block (Ex.seq (Ex.It (by decide) W) (Ex.tK (by simp[bu,b2]) Ex.skip))) (Ex.ey q1))
   rcases ih (u+1+1) T (by omega) (by omega) (λi h1 Z=>by
    grind) (by grind) (by simp_all) q2 with⟨F',i1,i2⟩|⟨F',D,i1,i2⟩
   .exact .inl ⟨F',mz.step z i1,i2⟩
   .exact .inr ⟨F',D,mz.step z i1,i2⟩
  | true=>
   rw[w]at b2;refine .inr ?_;obtain⟨T,q1,q2,q3⟩:=x7 (E:=E) (N:=N)  (H:=H) (k:=u+1) (by rw[Y 0 (by omega)];exact f0) (by rw[Y 5 (by omega)];exact f5) (by omega)
   have G:kept t (u+1)=List.range (u+1):=AG _ hp;have aa:kept t (u+1+1)=List.range (u+1):=by
    rw[uO,G,w];simp
   have q4:∀call,cT E N call none r8 T H=some (set T 7 (.int .i64 1),H):=λcall=>vp  rfl (by simp[bK,bu,bn]) eS
   have h0:Head g cb id off L (u+1) 1 rs A t (set T 7 (.int .i64 1)) rs:=⟨by rw[ir _ _ (by omega),q3 0 (by omega) (by omega),Y 0 (by omega)];exact f0,by rw[ir _ _ (by omega),q3 1 (by omega) (by omega),Y 1 (by omega)];exact f1,
    by rw[ir _ _ (by omega),q3 5 (by omega) (by omega),Y 5 (by omega),aa,List.length_range];exact f5,by rw[ir _ _ (by omega)];exact q2,by rw[tL];rfl,rfl,
    λp i B=>by
     rw[aa]at B;obtain⟨h1,Z⟩:=ζe.1 B;simp at h1 Z;subst Z;exact X.at_ p (by omega),λi _ Z=>X.at_ i Z,λ_ _=>rfl,λi hi=>⟨i,hi,X.at_ i hi⟩⟩
   obtain⟨F5,C,l1,I⟩:=IL (N:=N) X (by omega) (by omega) w (L-(u+1)-1) 1 _ rs (by omega) (by omega) h0
   rw[S]at l1;have eL:u+1+(L-(u+1))=L:=by omega
   have ae:=yX (t:=t) (k:=u+1) (by omega) w L (by omega)
   have l5:=I.f5;have J:=I.pre;rw[eL]at l5 J;generalize hK:(kept t L).length=K at *;have ab:(H.set id (.row 1 C))[id]? = some (.row 1 C):=List.getElem?_set_self Q;obtain⟨F6,w1,w2⟩:=S0 (E:=E) (N:=N) (p:=K) ab I.f0 l5 (by omega) (by rw[I.len];omega)
   rw[List.set_set]at w1;obtain⟨F7,w3,w4⟩:=Ny (E:=E)     (by rw[w2 0 (by omega)];exact I.f0) (by rw[w2 5 (by omega)];exact l5) (by omega)
   have aj:=I.len;refine⟨F7,C.take (off+K)++List.replicate (L-K) [.bL]++C.drop (off+L),mz.stop (Ex.seq (Ex.seq (Ex.ey a1) (Ex.oF U Ex.skip)) (Ex.vm (Ex.JB (Ex.seq (Ex.It (by decide) W) (Ex.oF (by simp[bu,b2]) (Ex.seq (Ex.ey q1) (Ex.seq (Ex.seq (Ex.ey q4) (Ex.vJ (Ex.loop l1))) (Ex.seq (Ex.ey w1) (Ex.seq (Ex.ey w3) Ex.ret))))))) (by simp))) (by simp),w4,?_,λp i B=>?_,λc hc=>?_⟩
   .simp;omega
   .have ak:p<K:=by rw[<-hK];exact(ζe.1 B).1
    rw[List.append_assoc,List.getElem?_append_left (by simp;omega),List.getElem?_take,if_pos (by omega)]
    exact J p i B
   .have ad:∀j x,C[j]? = some x->x∈rs:=λj x O=>by
     by_cases ho:j<off\/off+L<=j
     .rw[I.out j ho]at O;exact List.mem_of_getElem? O
     .obtain⟨i,rfl⟩:∃i,j=off+i:=⟨j-off,by omega⟩
      obtain⟨q,hq,hc⟩:=I.cell i (by omega)
      rw[hc]at O;cases O;exact List.mem_of_getElem? (X.at_ q hq)
    rcases List.mem_append.1 hc with hc|hc
    .rcases List.mem_append.1 hc with hc|hc
     .obtain⟨j,O⟩:=List.getElem?_of_mem (List.mem_of_mem_take hc);exact .inl (ad j c O)
     .exact .inr (List.eq_of_mem_replicate hc)
    .obtain⟨j,O⟩:=List.getElem?_of_mem (List.mem_of_mem_drop hc);exact .inl (ad j c O)
end
end cmpX
end Go.VE
namespace Go.VE
variable [bM]
namespace cmpX
section
variable {E:Env} {N:Nat->FuncId} {g:FuncId} {cb:List V} {H:bf} {id off L:Nat} {rs:List (List V)} {A:Nat->V} {t:Nat->Bool}
theorem whole (X:Jl E g cb H id off L rs A t):∃F' B,Ex E N code [.hsl id 1 off L,.clo g [] cb] H .ret F' (H.set id (.row 1 B))/\get F' 4=.hsl id 1 off (kept t L).length/\M7 off L rs A t B:=by
 have u:H.set id (.row 1 rs)=H:=xE X.row;have same:(∀i,0<i->i<L->t i=false)->(kept t L).length=L/\M7 off L rs A t rs:=λh=>by
  have hk:=AG L h;rw[hk,List.length_range];exact⟨rfl,rfl,λp i Q=>by
   rw[hk]at Q;obtain⟨h1,w⟩:=ζe.1 Q;simp at h1 w;subst w;exact X.at_ p h1,λc hc=>.inl hc⟩
 have g1:∀call,cT E N call none r1 [.hsl id 1 off L,.clo g [] cb] H=some (set [.hsl id 1 off L,.clo g [] cb] 4 .bL,H):=λcall=>vp (v:=.bL) rfl (by simp[bK,bu,bn]) eS
 have k0:get (set [V.hsl id 1 off L,.clo g [] cb] 4 .bL) 0=.hsl id 1 off L:=rfl;have k1:get (set [V.hsl id 1 off L,.clo g [] cb] 4 .bL) 1=.clo g [] cb:=rfl;generalize set [V.hsl id 1 off L,.clo g [] cb] 4 .bL=U at *;obtain⟨F1,S,T,z⟩:=x2 (E:=E) (N:=N) (H:=H) k0
 by_cases W:L<2
 .obtain⟨C,D,G⟩:=Qn (E:=E) (N:=N) (F:=F1) (H:=H);obtain⟨e1,e2⟩:=same λi h1 w=>by omega
  refine⟨C,rs,?_,by rw[e1,G,z 0 (by omega)];exact k0,e2⟩
  rw[u];exact Ex.seq (Ex.ey g1) (Ex.vm (Ex.seq (Ex.ey S) (Ex.oF (by show get F1 10=_;rw[T,decide_eq_true (by omega)]) (Ex.seq (Ex.ey D) Ex.ret))) (by simp))
 .have g4:∀call,cT E N call none r4 F1 H=some (set F1 5 (.int .i64 1),H):=λcall=>vp (v:=.int .i64 1) rfl (by simp[bK,bu,bn]) eS
  have hc:Ex E N (.seq (.ops r2) (.cond (.s 10) (.seq (.ops r3) (.ret)) (.skip))) U H .norm F1 H:=Ex.seq (Ex.ey S) (Ex.tK (by show get F1 10=_;rw[T,decide_eq_false (by omega)]) Ex.skip)
  rcases I_ (N:=N) X (L-1) 1 (set F1 5 (.int .i64 1)) (by omega) (by omega) (λi h1 w=>by omega) (by rw[ir _ _ (by omega),z 0 (by omega)];exact k0) (by rw[ir _ _ (by omega),z 1 (by omega)];exact k1) (by rw[tL];rfl)with⟨F',I,J,O⟩|⟨F',B,I,J,O⟩
  .obtain⟨C,D,G⟩:=S4 (E:=E) (N:=N) (F:=F') (H:=H);obtain⟨e1,e2⟩:=same O;refine⟨C,rs,?_,by rw[e1,G];exact J,e2⟩
   rw[u];exact Ex.seq (Ex.ey g1) (Ex.seq hc (Ex.seq (Ex.seq (Ex.ey g4) (Ex.vJ (Ex.loop I))) (Ex.seq (Ex.ey D) Ex.ret)))
  .exact⟨F',B,Ex.seq (Ex.ey g1) (Ex.seq hc (Ex.vm (Ex.seq (Ex.ey g4) (Ex.JB (Ex.loop I))) (by simp))),J,O⟩
theorem empty {w:V} (c:V) (B:w=.bL\/w=.dh):∃F',Ex E N code [w,c] H .ret F' H/\get F' 4=w:=by
 have g1:∀call,cT E N call none r1 [w,c] H=some (set [w,c] 4 .bL,H):=λcall=>vp (v:=.bL) rfl (by simp[bK,bu,bn]) eS
 have k0:get (set [w,c] 4 .bL) 0=w:=rfl;generalize set [w,c] 4 .bL=z at *;have A:o_ w=some (.int .i64 0):=by rcases B with rfl|rfl <;> rfl
 have u:∃F1,(∀call,cT E N call none r2 z H=some (F1,H))/\get F1 10=.bool true/\get F1 0=w:=by
  refine⟨_,λcall=>vp (v:=w) rfl ?_ <| vp (v:=.int .i64 0) rfl ?_ <| vp (v:=.bool true) rfl ?_ eS,?_,?_⟩
  .simp[bK,bu,bn,k0]
  .simp[bK,bu,bn,br,A]
  .simp[bK,bu,bn,br,iJ,o4]
  .simp[br]
  .simp[br,k0]
 obtain⟨F1,u,C,D⟩:=u;obtain⟨G,I,J⟩:=Qn (E:=E) (N:=N) (F:=F1) (H:=H);exact⟨G,Ex.seq (Ex.ey g1) (Ex.vm (Ex.seq (Ex.ey u) (Ex.oF C (Ex.seq (Ex.ey I) Ex.ret))) (by simp)),by rw[J,D]⟩
end
end cmpX
end Go.VE
namespace Go.VE
variable [bM]
def Sl.re {α:Type} (s:Sl α) (l:List α):Sl α:=match s with|.nil=>.nil|.emp=>.emp|.row _=>.row l|.part _=>.part l
def Sl.RT {α:Type} (s:Sl α) (l:List α):Sl α:=match s with|.nil=>.nil|.emp=>.emp|.row _|.part _=>.part l
noncomputable def Tp {α:Type} (s:Sl α) (p:α->α->Option Int):Option (Sl α):=
 match s.l with
 | []=>some s
 | x::l=>if l.length<2147483648 then
  let t:_root_.Fin (l.length+1)->_root_.Fin (l.length+1)->Option Int:=λi j=>p (x::l)[i.1] (x::l)[j.1]
  if IK t then some (s.re ((DP l.length (uS t)).toList.map λi=>(x::l)[i.1]))else none
  else none
def Sf {α:Type} (l:List α) (p:α->α->Option Bool) (i:Nat):Option Bool:=match l[i]?,l[i-1]? with|some a,some b=>p a b|_,_=>none
def Tr {α:Type} (s:Sl α) (p:α->α->Option Bool):Option (Sl α):=
 if s.l.length<=2147483648/\((List.range s.l.length).all λi=>i==0||(Sf s.l p i).isSome)=true then
  some (s.RT ((kept (λi=>(Sf s.l p i).getD false) s.l.length).filterMap (s.l[·]?)))
 else none
section
variable {S:Sys} {T:oh} {β γ δ α:Type} {Q:Out×St->Option β} {e:γ->Option β} {cf:Cf}
theorem iI.Qx (B:th S T) (D:∀f a b xs,S.items f a b=some xs->eD S f a b xs) {fn:FuncId} {A:δ->List V} {E:α->List V} {p:δ->Option α} {sc:Bool} (F:iI S (dx S T) fn A E p sc) {z:δ} {r:α} (h:p z=some r) (hg:V.cu (A z)=true) :
 ∃n,cn (run S.E n) fn (A z) []=some (result (E r)):=by
 have h1:=F.h z (E r) (by simp_all)
 obtain⟨⟨rs,m'⟩,u,w⟩:=ζg.1 h1;obtain⟨n,y,H2,e1,e2,e3⟩:=Ak (rU B D) hg u w;refine⟨n,?_⟩;have C:borrows n [] (A z)=some (A z):=by
  have hc:=V.lY hg;generalize A z=l at hc;unfold borrows
  induction l with
  | nil=>rfl
  | cons x l G=>
   simp[V.jQ]at hc;simp[gN,dY n [] hc.1,G hc.2]
 unfold cn;rw[oe,C];simp[e1 n (Nat.le_refl _),e2 n (Nat.le_refl _),V.kz e3]
section
variable [bz α]
end
end
end Go.VE
namespace Go.VE
variable [bM]
section
variable {H H':bf} {w:V} {o:Nat} {ids:List Nat} {rows:List (List V)}
theorem kO.cell (n:kO H w o ids rows) {p j:Nat} {r:List V} {u:V} (hr:rows[p]? = some r) (hu:r[j]? = some u) :
 ∃id,ids[p]? = some id/\kj 1 w (p:Int)=some (.hptr o p 0)/\eC H (.load 1 false) [.hptr o p 0]=some (.hsl id 1 0 r.length)/\kj 1 (.hsl id 1 0 r.length) (j:Int)=some (.hptr id j 0)/\eC H (.load 1 false) [.hptr id j 0]=some u:=by
 have C:=(ζe.1 hr).1;have D:=(ζe.1 hu).1;have A:rows≠[]:=by intro e;subst e;simp at hr
 have B:p<ids.length:=by rw[n.len];exact C
 have z:=ζd B;refine⟨ids[p],z,?_,?_,?_,?_⟩
 .have:=n.v;rw[if_neg A]at this;subst this;simp[kj,C]
 .have h1:=n.ob A;have G:=Ae z hr;simp[eC,dJ,h1,Ob.rows,G,cut];rfl
 .simp[kj,D]
 .have h1:=n.r p _ r z hr;simp[eC,dJ,h1,Ob.rows,hU,hu,cut];rfl
theorem Kw {ids:List Nat} (h:ids.Nodup) {i j:Nat} {a:Nat} (B:ids[i]? = some a) (D:ids[j]? = some a):i=j:=by
 have h1:=(ζe.1 B);have u:=(ζe.1 D);obtain⟨h1,e1⟩:=h1;obtain⟨u,e2⟩:=u;exact(List.getElem_inj h).1 (e1.trans e2.symm)
theorem kO.set (n:kO H w o ids rows) {p j id:Nat} {r:List V} {u:V} (hr:rows[p]? = some r) (U:j<r.length) (B:ids[p]? = some id) (hu:V.one u=true) (hc:u.cells=[u]) :
 ∃H',eX H (.store 1) [.hptr id j 0,u]=some (.undef,H')/\kO H' w o ids (rows.set p (r.set j u))/\H'.length=H.length/\(∀i,i≠id->H'[i]? = H[i]?):=by
 have L:=(ζe.1 hr).1;have z:rows≠[]:=by intro e;subst e;simp at hr
 have h1:=n.r p id r B hr;have O:id<H.length:=(ζe.1 h1).1;have D:(hU r).set j [u]=hU (r.set j u):=by simp[hU,List.map_set]
 have G:o≠id:=λe=>n.ne z (e▸List.mem_of_getElem? B)
 refine⟨H.set id (.row 1 (hU (r.set j u))),?_,⟨?_,λ_=>?_,by simp[n.len],λi I Q C A=>?_,n.nd,λ_=>n.ne z⟩,by simp,λi C=>List.getElem?_set_ne (Ne.symm C)⟩
 .have S:(hU r)[j]? = some [r[j]]:=by simp[hU,U]
  simp only[eX,h1,S,hc,List.length_singleton,Nat.zero_add,Nat.le_refl,List.all_cons,hu,List.all_nil,Bool.and_self,and_self,if_true,List.take_zero,List.nil_append];rw[<-D];simp
 .rw[n.v];have:rows.set p (r.set j u)≠[]:=by intro e;apply z;simpa using e
  rw[if_neg z,if_neg this,List.length_set]
 .rw[List.getElem?_set_ne (Ne.symm G),EH hr (by simp)];exact n.ob z
 .by_cases e:i=p
  .subst e;rw[B]at C;cases C;rw[List.getElem?_set_self L]at A;cases A;rw[List.getElem?_set_self O]
  .rw[List.getElem?_set_ne (Ne.symm e)]at A;have J:id≠I:=λT=>e (Kw n.nd (T▸C) B)
   rw[List.getElem?_set_ne J];exact n.r i I Q C A
end
structure je (H:bf) (w:V) (l:List (List V)) (id:Nat):Prop where
 c:∀c∈l,c.length=2/\c.all V.one=true
 v:(w=.bL/\l=[])\/∃off xs,w=.hsl id 2 off l.length/\H[id]? = some (.row 2 xs)/\off+l.length<=xs.length/\(xs.drop off).take l.length=l
section
variable {H H':bf} {w:V} {l:List (List V)} {id:Nat}
theorem je.heap (n:je H w l id) (h:∀off n,w=.hsl id 2 off n->H'[id]? = H[id]?):je H' w l id:=
 ⟨n.c,n.v.imp (λh=>h) λ⟨off,u,e1,e2,e3,e4⟩=>⟨off,u,e1,by rw[h _ _ e1];exact e2,e3,e4⟩⟩
theorem je.lt (n:je H w l id) {off m:Nat} (h:w=.hsl id 2 off m):id<H.length:=by
 rcases n.v with⟨e,_⟩|⟨_,u,_,e2,_⟩
 .rw[e]at h;cases h
 .exact(ζe.1 e2).1
theorem je.more (n:je H w l id) (X:bf):je (H++X) w l id:=n.heap λ_ _ e=>List.getElem?_append_left (n.lt e)
theorem je.len (n:je H w l id):o_ w=some (.int .i64 l.length):=by
 rcases n.v with⟨rfl,rfl⟩|⟨off,u,rfl,_⟩ <;> rfl
theorem je.get (n:je H w l id) {i:Nat} {c:List V} (hc:l[i]? = some c):∃p,kj 2 w (i:Int)=some p/\eC H (.load 2 true) [p]=some (.agg c):=by
 have z:=(ζe.1 hc).1;have u:=(n.c c (List.mem_of_getElem? hc)).1;rcases n.v with⟨_,rfl⟩|⟨off,A,rfl,e2,e3,e4⟩
 .simp at hc
 .refine⟨.hptr id (off+i) 0,by simp[kj,z],?_⟩
  have:A[off+i]? = some c:=by
   rw[<-e4,List.getElem?_take,if_pos z,List.getElem?_drop]at hc;exact hc
  simp[eC,dJ,e2,Ob.rows,this,cut,<-u];rfl
theorem je.tail {c:List V} (n:je H w (c::l) id):∃w',gI 2 w (some 1) none=some w'/\je H w' l id/\∃off m B,w=.hsl id 2 off m/\w'=.hsl id 2 B l.length:=by
 rcases n.v with⟨_,e⟩|⟨off,u,rfl,e2,e3,e4⟩
 .cases e
 .refine⟨.hsl id 2 (off+1) l.length,?_,⟨λc hc=>n.c c (List.mem_cons_of_mem _ hc),.inr ⟨off+1,u,rfl,e2,by simp at e3;omega,?_⟩⟩,⟨_,_,_,rfl,rfl⟩⟩
  .simp[gI,dM];omega
  .have hd:(u.drop off).drop 1=u.drop (off+1):=by rw[List.drop_drop]
   rw[<-hd];have:=congrArg (List.drop 1) e4;rw[List.drop_take]at this;simpa using this
theorem je.push (n:je H w l id) {c:List V} (hc:c.length=2/\c.all V.one=true) (B:l.length+1<=2147483648) :
 ∃H',eX (H++[.row 2 [c]]) (.append 2) [w,.hsl H.length 2 0 1]=some (.hsl (H.length+1) 2 0 (l.length+1),H')/\je H' (.hsl (H.length+1) 2 0 (l.length+1)) (l++[c]) (H.length+1)/\H'.length=H.length+2/\(∀i,i<H.length->(∀off m,w=.hsl id 2 off m->i≠id)->H'[i]? = H[i]?):=by
 have e2:dG (H++[.row 2 [c]]) 2 (.hsl H.length 2 0 1)=some [c]:=by simp[dG,Ob.rows]
 have u:∀c'∈l++[c],c'.length=2/\c'.all V.one=true:=λc' h=>by
  rcases List.mem_append.1 h with h|h
  .exact n.c c' h
  .simp at h;subst h;exact hc
 rcases n.v with⟨rfl,rfl⟩|⟨off,D,rfl,g2,g3,g4⟩
 .have e1:dG (H++[.row 2 [c]]) 2 .bL=some []:=rfl;refine⟨H++[.row 2 [c]]++[.row 2 [c]],?_,⟨u,.inr ⟨0,[c],rfl,by simp,by simp,rfl⟩⟩,by simp,λi A _=>by rw[List.append_assoc,List.getElem?_append_left A]⟩
  simp only[eX,e1,e2,gm,List.length_nil,List.length_singleton,Option.map_some];simp
 .have z:=(ζe.1 g2).1;have e1:dG (H++[.row 2 [c]]) 2 (.hsl id 2 off l.length)=some l:=by
   simp only[dG,if_true,List.getElem?_append_left z,g2,ζb,Ob.rows,g3,g4]
  have C:gm (H++[.row 2 [c]]) (.hsl id 2 off l.length)=some (List.set (H++[Ob.row 2 [c]]) id Ob.dead):=by
   simp only[gm,List.getElem?_append_left z,g2]
  refine⟨List.set (H++[Ob.row 2 [c]]) id Ob.dead++[Ob.row 2 (l++[c])],?_,⟨u,.inr ⟨0,l++[c],by simp,by simp,by simp,List.take_of_length_le (by simp)⟩⟩,by simp,λi A h=>?_⟩
  .simp only[eX,e1,e2,C,List.length_singleton,B,if_true,Option.map_some,ζi]
  .rw[List.getElem?_append_left (by simp;omega),List.getElem?_set_ne (Ne.symm (h _ _ rfl)),List.getElem?_append_left A]
end
noncomputable def za (rs:List RV):Out×St->Option bC
 | (.exit _,_)=>none
 | (_,st)=>(jf st rs).bind λl=>match l with
  | [.own d]=>a_ st.m d
  | _=>none
theorem QB {S:Sys} {c:bO} {rs:List RV} {rc:RC} {st:St} {ob:bC} (h:ji S c (za rs) rc [] st=some ob):∃o st' d,cz S c rc st=some (o,st')/\(∀id,o≠.exit id)/\jf st' rs=some [.own d]/\a_ st'.m d=some ob:=by
 rw[m_]at h;obtain⟨⟨o,st'⟩,h1,u⟩:=ζg.1 h;have z:∀id,o≠.exit id:=by rintro id rfl;simp[za]at u
 have A:(jf st' rs).bind (λl=>match l with|[.own d]=>a_ st'.m d|_=>none)=some ob:=by
  cases o with
  | exit id=>exact absurd rfl (z id)
  | norm=>exact u
  | ret=>exact u
 obtain⟨l,B,w⟩:=ζg.1 A;split at w
 .exact⟨o,st',_,h1,z,B,w⟩
 .cases w
theorem QF {S:Sys} {T:oh} (U:th S T) (W:∀f a b xs,S.items f a b=some xs->eD S f a b xs) {f:FuncId} {rf:RF} (Y:T f=some rf) {B:List V} (hg:V.cu B=true) (hn:B.length<=rf.na) {k:Fl} {es:Nat} {xs:List (List V)}
 (hx:∀x∈xs,x.all V.scalar=true) (hk:k=.row\/k=.nil/\xs=[]) (h:ji S (dx S T) (za rf.rs) rf.body [] (start (B.map .v) [])=some (.sl k es xs)) :
 ∃n y H',run S.E n (.fn f) B []=some (y,H')/\((k=.nil/\y=.bL)\/(∃id,y=.hsl id es 0 xs.length/\H'[id]? = some (.row es xs))):=by
 obtain⟨o,st',d,h1,O,D,G⟩:=QB h;have hc:dx S T f (B.map .v) []=some ([.own d],st'.m):=by
  rw[p9 Y];unfold lq;rw[if_pos (by simpa using hn),h1]
  cases o with
  | exit id=>exact absurd rfl (O id)
  | norm=>simp only[D,Option.map_some]
  | ret=>simp only[D,Option.map_some]
 obtain⟨Q,r1⟩:=vc hg;obtain⟨n,y,H2,ν',Z',st2,F',I,g1,rfl,g3,g4,g5,_⟩:=rU U W f _ _ _ _ hc _ _ B [] (.inr rfl) Q r1;obtain⟨z,zs,rfl,e1,e2⟩:=g4.inv;have:=e2.cZ;subst this;refine⟨n,_,H2,g1,?_⟩
 cases e1 with
 | own d y X=>
  obtain⟨k',Z,aa,e,u⟩:=X _ G;cases e;have w:=g5.obj d _ (by rw[g3];exact G)
  rcases hk with rfl|⟨rfl,rfl⟩
  .right;simp only[dI,cH,if_true]at w;obtain⟨I,q1,q2,C,q4,A⟩:=w;obtain⟨A,q6⟩:=A trivial;rw[A,List.drop_zero,<-q6,List.take_of_length_le (Nat.le_refl _)]at C;have:xs=I:=by
    refine List.ext_getElem C.1 λi p q=>?_
    have J:=C.2 i _ _ (ζd p) (ζd q);refine List.ext_getElem J.1 λj L q'=>?_
    have hj:=J.2 j _ _ (ζd L) (ζd q');exact((hj.scalar).1 (List.all_eq_true.1 (hx _ (List.getElem_mem p)) _ (List.getElem_mem L))).symm
   subst this;refine⟨(ν' d).1,?_,q1⟩;show result [_]=_;rw[u];simp[result,qu,A]
  .left;exact⟨rfl,by show result [_]=_;rw[u];rfl⟩
theorem Eo {E:Env} {f:FuncId} {B:List V} {l:List (List V)} {y:V} {H1:bf} (hk:E.own f=true) (hg:V.cu B=true) (D:∀c∈l,c.length=2/\c.all V.one=true/\c.all V.scalar=true)
 (hr:∃n,∀k,n<=k->run E k (.fn f) B []=some (y,H1)) (G:(l=[]/\y=.bL)\/(∃id,y=.hsl id 2 0 l.length/\H1[id]? = some (.row 2 l))) (H:bf) :
 ∃w X id,(∃n,∀k,n<=k->eN E (run E k) f B H=some (w,H++X))/\je (H++X) w l id/\(∀off m,w=.hsl id 2 off m->id=H.length):=by
 obtain⟨n,hr⟩:=hr;have A:∀{k:Nat} {l:List V},V.cu l=true->borrows k H l=some l:=by
  intro k l;unfold borrows
  induction l with
  | nil=>intro _;rfl
  | cons a l C=>
   intro h;have h1:V.good a=true/\V.cu l=true:=by simpa [V.cu]using h
   simp only[gN,dY k H (V.kz h1.1),C h1.2]
 rcases G with⟨rfl,rfl⟩|⟨id,rfl,z⟩
 .refine⟨.bL,[],0,⟨n,λk u=>?_⟩,⟨λc h=>by simp at h,.inl ⟨rfl,rfl⟩⟩,λoff m h=>by cases h⟩
  simp only[eN,hk,if_true,kF,A hg,hr k u,V.scalar,List.append_nil]
 .refine⟨.hsl H.length 2 0 l.length,[.row 2 l],H.length,⟨n,λk u=>?_⟩,⟨λc h=>⟨(D c h).1,(D c h).2.1⟩,.inr ⟨0,l,rfl,by simp,by simp,by simp⟩⟩,λoff m h=>rfl⟩
  have I:(l.all λx=>x.all V.scalar)=true:=List.all_eq_true.2 λc h=>(D c h).2.2
  simp only[eN,hk,if_true,kF,A hg,hr k u,V.scalar,Bool.false_eq_true,if_false,qJ,z,I,and_self,Option.map_some]
end Go.VE
namespace Go.VE
variable [bM]
def Sl.whole {α:Type} (s:Sl α):Option (Sl α):=match s with|.part _=>none|s=>some s
structure Av (S:Sys) (c:bO) {α δ:Type} [bz δ] (fn:FuncId) (A:α->List V) (p:α->Option (Sl δ)):Prop where
 k:S.E.keep fn=true
 o:S.E.own fn=true
 h:∀z s,p z=some s->∃e m',c fn ((A z).map .v) []=some ([.own e],m')/\a_ m' e=some (cS s)
 sc:∀x:δ,(cells x).all V.scalar=true
theorem Av.mk' {S:Sys} {T:oh} {α δ:Type} [bz δ] (rf:RF) {fn:FuncId} {A:α->List V} {p:α->Option (Sl δ)} (h:∀z,Le ((p z).bind λr=>some (cS r)) (b_ S (dx S T) (za rf.rs) (.rc rf.body,[],start ((A z).map .v) [])))
 (B:T fn=some rf:=by kernel_rfl) (hk:S.E.keep fn=true:=by kernel_rfl) (D:S.E.own fn=true:=by kernel_rfl) (G:∀z,(A z).length<=rf.na:=by intro z;exact Nat.le_of_ble_eq_true (by kernel_rfl))
 (sc:∀x:δ,(cells x).all V.scalar=true:=by intro x;rfl):Av S (dx S T) fn A p where
 k:=hk
 o:=D
 sc:=sc
 h z s u:=by
  have h1:=h z (cS s) (by rw[u];rfl)
  change ji S (dx S T) (za rf.rs) rf.body [] (start ((A z).map .v) [])=some (cS s)at h1;obtain⟨o,st',d,g1,g2,g3,g4⟩:=QB h1;refine⟨d,st'.m,?_,g4⟩;rw[p9 B];unfold lq;rw[if_pos (by simpa using G z),g1]
  cases o with
  | exit id=>exact absurd rfl (g2 id)
  | norm=>simp only[g3,Option.map_some]
  | ret=>simp only[g3,Option.map_some]
section
variable {S:Sys} {c:bO} {β γ δ α:Type} [bz δ] {Q:Out×St->Option β} {e:γ->Option β} {cf:Cf}
end
end Go.VE
namespace Go.VE
variable [bM]
structure GD where
 m:Nat
 pre:List (Nat×List Gh)
 nd:List (Nat×List Gh×List Gh)
structure GI where
 m:Nat
 i:Nat
 j:Nat
def Sr {α:Type} (l:List (Nat×List α)) (i:Nat):List α:=match l with
 | []=>[]
 | (k,x)::r=>bif Nat.beq k i then x else Sr r i
def yo (l:List (Nat×List Gh×List Gh)) (i:Nat):List Gh×List Gh:=match l with
 | []=>([],[])
 | (k,x)::r=>bif Nat.beq k i then x else yo r i
def H_ (m:Nat):List Nat->List Nat
 | []=>[]
 | x::l=>bif Nat.beq (m % 2) 1 then x::H_ (m / 2) l else H_ (m / 2) l
def LM:List Arg->List Nat
 | []=>[]
 | .s n::r=>n::LM r
 | _::r=>LM r
def RW (o:RO):List Nat:=(match o.dst with|some d=>[d]|none=>[])++(match o.gd with|some g=>[g.1]|none=>[])++LM o.az
def SJ (G:GD) (s:GI) (o:RO):RO:={ o with dead:=H_ (bif Nat.beq (s.m % 16) 15 then s.m / 16 % 65536 else s.m % 16) (RW o),pre:=Sr G.pre s.i }
def GI.op (s:GI):GI:=⟨bif Nat.beq (s.m % 16) 15 then s.m / 1048576 else s.m / 16,s.i+1,s.j⟩
def yO (G:GD):List RO->GI->List RO×GI
 | [],s=>([],s)
 | o::r,s=>(SJ G s o::(yO G r s.op).1,(yO G r s.op).2)
def y6:List Gh->RC->RC
 | [],c=>c
 | g::l,c=>.gh g (y6 l c)
def KZ:List Gh->RC->RC
 | [],c=>c
 | g::l,c=>KZ l (.hg c g)
def GI.nd (s:GI):GI:=⟨s.m,s.i,s.j+1⟩
def iz (G:GD):RC->GI->RC×GI
 | .seq a b,s=>(y6 (yo G.nd s.j).1 (.seq (iz G a s.nd).1 (iz G b (iz G a s.nd).2).1),(iz G b (iz G a s.nd).2).2)
 | .cond x a b,s=>(y6 (yo G.nd s.j).1 (.cond x (iz G a s.nd).1 (iz G b (iz G a s.nd).2).1),(iz G b (iz G a s.nd).2).2)
 | .block id a,s=>(y6 (yo G.nd s.j).1 (.block id (iz G a s.nd).1),(iz G a s.nd).2)
 | .loop a,s=>(y6 (yo G.nd s.j).1 (.loop (KZ (yo G.nd s.j).2 (iz G a s.nd).1)),(iz G a s.nd).2)
 | .each g ps a b,s=>(y6 (yo G.nd s.j).1 (.each g ps (iz G a s.nd).1 (KZ (yo G.nd s.j).2 (iz G b (iz G a s.nd).2).1)),(iz G b (iz G a s.nd).2).2)
 | .ops l,s=>(y6 (yo G.nd s.j).1 (.ops (yO G l s.nd).1),(yO G l s.nd).2)
 | .ny l,s=>(y6 (yo G.nd s.j).1 (.ny (yO G l s.nd).1),(yO G l s.nd).2)
 | .gh g c,s=>(.gh g c,s)
 | .hg c g,s=>(.hg c g,s)
 | c,s=>(y6 (yo G.nd s.j).1 c,s.nd)
theorem jC (c:RC):∀l,erase (y6 l c)=erase c
 | []=>rfl
 | g::l=>by simp only[y6,erase,jC c l]
theorem yH:∀l (c:RC),erase (KZ l c)=erase c
 | [],c=>rfl
 | g::l,c=>by simp only[KZ,yH l,erase]
theorem wR (G:GD):∀(l:List RO) s,((yO G l s).1).map RO.strip=l.map RO.strip
 | [],s=>rfl
 | o::r,s=>by simp only[yO,List.map_cons,wR G r];rfl
theorem j8 (G:GD):∀(c:RC) s,erase (iz G c s).1=erase c
 | .seq a b,s=>by simp only[iz,jC,erase,j8 G a,j8 G b]
 | .cond x a b,s=>by simp only[iz,jC,erase,j8 G a,j8 G b]
 | .block id a,s=>by simp only[iz,jC,erase,j8 G a]
 | .loop a,s=>by simp only[iz,jC,erase,yH,j8 G a]
 | .each g ps a b,s=>by simp only[iz,jC,erase,yH,j8 G a,j8 G b]
 | .ops l,s=>by simp only[iz,jC,erase,wR]
 | .ny l,s=>by simp only[iz,jC,erase,wR]
 | .gh g c,s=>rfl
 | .hg c g,s=>rfl
 | .skip,s=>by simp only[iz,jC]
 | .ret,s=>by simp only[iz,jC]
 | .exit _,s=>by simp only[iz,jC]
theorem Gj {X:CX} {dr:Bool} {ops:List Oper} {i:Nat} {o:Oper} {r:RO} (h:lU X dr ops i o=some r):r.strip=r:=by
 obtain⟨_,_,_,_,_,_,rfl⟩:=Bd h;rfl
theorem vD {X:CX} {dr:Bool} {ops:List Oper}:∀{l:List Oper} {i:Nat} {r:List RO},jM X dr ops i l=some r->r.map RO.strip=r
 | [],i,r,h=>by cases h;rfl
 | o::l,i,r,h=>by
  simp only[jM]at h;split at h
  .rename_i a b B D;cases h;simp only[List.map_cons,Gj B,vD D]
  .cases h
theorem GV {X:CX}:∀{c:Code} {ro:Bool} {r:RC},bH X ro c=some r->erase r=r:=by
 intro c
 induction c with
 | region _ ops dr=>
  intro ro r h;simp only[bH]at h;split at h
  .split at h
   .obtain⟨l,h1,rfl⟩:=ζf.1 h;simp only[erase,vD h1]
   .cases h
  .obtain⟨l,h1,rfl⟩:=ζf.1 h;simp only[erase,vD h1]
 | seq a b u w=>
  intro ro r h;simp only[bH]at h;split at h
  .rename_i h1 z;cases h;simp only[erase,u h1,w z]
  .cases h
 | cond c a b u w=>
  intro ro r h;simp only[bH]at h;split at h
  .rename_i h1 z;cases h;simp only[erase,u h1,w z]
  .cases h
 | block id a u=>
  intro ro r h;simp only[bH]at h;obtain⟨l,h1,rfl⟩:=ζf.1 h;simp only[erase,u h1]
 | loop a u=>
  intro ro r h;simp only[bH]at h;obtain⟨l,h1,rfl⟩:=ζf.1 h;simp only[erase,u h1]
 | rangeFunc g A a b u w=>
  intro ro r h;simp only[bH]at h;split at h
  .cases h
  .split at h
   .rename_i h1 z;cases h;simp only[erase,u h1,w z]
   .cases h
 | _=>intro ro r h;first|cases h;rfl|(simp only[bH]at h;cases h;rfl)|(simp only[bH]at h;cases h)
def Lr (E:Env) (nm:FuncId->Option Nat) (G:FuncId->Option GD):oh:=λf=>
 (G f).bind λg=>(E.ft f).bind λu=>(bH ⟨E,nm,u.ntmps⟩ false u.body).bind λc=>(u.results.mapM (zq E)).bind λrs=>some ⟨u.ntmps,rs,(iz g c ⟨g.m,0,0⟩).1⟩
theorem Ay {E:Env} {nm:FuncId->Option Nat} {G:FuncId->Option GD} {f:FuncId} {rf:RF} (h:Lr E nm G f=some rf):∃fi,E.ft f=some fi/\uW E nm fi rf:=by
 unfold Lr at h;obtain⟨g,_,h⟩:=ζg.1 h;obtain⟨fi,h1,h⟩:=ζg.1 h;obtain⟨c,u,h⟩:=ζg.1 h;obtain⟨rs,w,h⟩:=ζg.1 h;cases h;exact⟨fi,h1,by rw[u,j8,GV u],w,rfl⟩
theorem wm:∀(g:FuncId) (s:Nat),some g=some s->(λn=>n) s=g:=λ_ _ h=>(Option.some.inj h).symm
def oR (o:Option RF):RF:=o.getD ⟨0,[],.skip⟩
def tb (T:oh) (f:FuncId):RC:=(oR (T f)).body
def tr (T:oh) (f:FuncId):List RV:=(oR (T f)).rs
theorem xO {o:Option RF} (h:o.isSome=true):o=some (oR o):=by cases o with
 | none=>cases h
 | some r=>rfl
class iu (δ:Type) where
 e:δ->List V
instance Tl {α:Type} [bz α]:iu α:=⟨λx=>[enc x]⟩
instance Tj:iu Unit:=⟨λ_=>[]⟩
instance Tk {α β:Type} [bz α] [iu β]:iu (α×β):=⟨λx=>enc x.1::iu.e x.2⟩
@[simp] theorem SZ {α:Type} [bz α] (x:α):iu.e x=[enc x]:=rfl
@[simp] theorem SU (x:Unit):iu.e x=[]:=rfl
@[simp] theorem SY {α β:Type} [bz α] [iu β] (x:α×β):iu.e x=enc x.1::iu.e x.2:=rfl
class Fc (S:Sys) (c:bO) {δ:Type} (m:Option δ) where
 n:FuncId
 az:List V
 E:δ->List V
 sc:Bool
 F:iI S c n (λ_:Unit=>az) E (λ_=>m) sc
section
variable {S:Sys} {T:oh} {δ:Type} {m:Option δ}
theorem iI.LF {E:δ->List V} (fn:FuncId) (az:List V) (h:Le (m.bind λr=>some (E r)) (b_ S (dx S T) (n_ (tr T fn)) (.rc (tb T fn),[],start (az.map .v) [])))
 (B:(T fn).isSome=true) (hk:S.E.keep fn=false) (D:Nat.ble az.length (oR (T fn)).na=true)
 {sc:Bool} (s:sc=true->∀r,(result (E r)).scalar=true):iI S (dx S T) fn (λ_:Unit=>az) E (λ_=>m) sc where
 k:=hk
 h z:=SR (xO B) (Nat.le_of_ble_eq_true D) h
 s:=s
abbrev Fc.NE (E:δ->List V) (fn:FuncId) (az:List V) (h:Le (m.bind λr=>some (E r)) (b_ S (dx S T) (n_ (tr T fn)) (.rc (tb T fn),[],start (az.map .v) [])))
 (B:(T fn).isSome=true:=by kernel_rfl) (hk:S.E.keep fn=false:=by kernel_rfl) (D:Nat.ble az.length (oR (T fn)).na=true:=by kernel_rfl)
 : Fc S (dx S T) m:=
 ⟨fn,az,E,false,iI.LF fn az h B hk D λh=>nomatch h⟩
abbrev Fc.M [iu δ] (fn:FuncId) (az:List V) (h:Le (m.bind λr=>some (iu.e r)) (b_ S (dx S T) (n_ (tr T fn)) (.rc (tb T fn),[],start (az.map .v) [])))
 (B:(T fn).isSome=true:=by kernel_rfl) (hk:S.E.keep fn=false:=by kernel_rfl) (D:Nat.ble az.length (oR (T fn)).na=true:=by kernel_rfl)
 (s:∀r:δ,(result (iu.e r)).scalar=true:=by intro r;kernel_rfl):Fc S (dx S T) m:=
 ⟨fn,az,iu.e,true,iI.LF fn az h B hk D λ_=>s⟩
abbrev Fc.N [iu δ] (fn:FuncId) (az:List V) (h:Le (m.bind λr=>some (iu.e r)) (b_ S (dx S T) (n_ (tr T fn)) (.rc (tb T fn),[],start (az.map .v) [])))
 (B:(T fn).isSome=true:=by kernel_rfl) (hk:S.E.keep fn=false:=by kernel_rfl) (D:Nat.ble az.length (oR (T fn)).na=true:=by kernel_rfl)
 : Fc S (dx S T) m:=
 ⟨fn,az,iu.e,false,iI.LF fn az h B hk D λh=>nomatch h⟩
end
abbrev Fc.of {S:Sys} {c:bO} {α δ:Type} {p:α->Option δ} {n:FuncId} {A:α->List V} {E:δ->List V} {b:Bool} (z:α) (F:iI S c n A E p b):Fc S c (p z):=⟨n,A z,E,b,⟨F.k,λ_=>F.h z,F.s⟩⟩
theorem iI.qT {S:Sys} {c:bO} {α δ:Type} {p:α->Option δ} {n:FuncId} {A:α->List V} {E:δ->List V} {b:Bool} (F:∀z,Fc S c (p z)) (i:α) (B:∀z,(F z).n=n) (G:∀z,(F z).az=A z) (D:∀z,(F z).E=E) (J:∀z,(F z).sc=b):iI S c n A E p b where
 k:=by rw[<-B i];exact(F i).F.k
 h z:=by rw[<-B z,<-G z,<-D z];exact(F z).F.h ()
 s:=by rw[<-J i,<-D i];exact(F i).F.s
theorem kA.qT {S:Sys} {c:bO} {α δ:Type} {p:α->Option δ} {g:FuncId} {w e:List V} {A:α->List V} {R:δ->List V} {b:Bool} [i:Inhabited α] [F:∀z,Fc S c (p z)] (B:∀z,(F z).n=g:=by intro _;kernel_rfl) (D:∀z,(F z).az=w++A z++e:=by intro _;kernel_rfl)
 (G:∀z,(F z).E=R:=by intro _;kernel_rfl) (J:∀z,(F z).sc=b:=by intro _;kernel_rfl):kA S c g w e A R p b:=
 ⟨iI.qT F default B D G J⟩
section
variable {S:Sys} {c:bO} {β γ δ α:Type} {Q:Out×St->Option β} {e:γ->Option β} {cf:Cf}
theorem qI (n:Nat) {m:Option β} (h:Le m (b_ S c Q (gR S c n cf))) (B:fZ S c n cf.1 cf.2.1 cf.2.2=some (gR S c n cf):=by kernel_rfl):Le m (b_ S c Q cf):=yB B h
theorem bE (n:Nat) {m:Option δ} [F:Fc S c m] {f:δ->Option γ} (h:∀x,m=some x->Le ((f x).bind e) (b_ S c Q (nx S c n cf λp=>cV p.st p.d (.v (result (F.E x))))))
 (B:(gB S c n cf).map (λp=>(p.k,(bV S.N p.st.g p.az).bind kZ,(!p.dr||p.now||fI p.st.m p.fr [])))=some (.c,some (F.n,F.az.map .v),true):=by kernel_rfl):Le ((m.bind f).bind e) (b_ S c Q cf):=wF n F.F () h B
theorem ei (n:Nat) {m:Option δ} [F:Fc S c m] {f:δ->Option γ} (h:∀x,m=some x->Le ((f x).bind e) (b_ S c Q (nx S c n cf λp=>cV p.st p.d (.v (result (F.E x))))))
 (B:(gB S c n cf).map (λp=>(p.k,((bV S.N p.st.g p.az).bind kZ).bind λq=>(mq (gP p.st.m 8) q.2).map λvs=>(q.1,vs,((!p.dr||p.now)||fI p.st.m p.fr q.2))))=some (.c,some (F.n,F.az,true)):=by kernel_rfl) (D:F.sc=true:=by kernel_rfl):Le ((m.bind f).bind e) (b_ S c Q cf):=
 QD n (u D F.F) () h B
where
 u {b:Bool} {fn:FuncId} {az:List V} {E:δ->List V} {m:Option δ} (h:b=true) (F:iI S c fn (λ_:Unit=>az) E (λ_=>m) b):iI S c fn (λ_:Unit=>az) E (λ_=>m) true:=h▸F
def ND (cf:Cf):RC:=match cf.1 with|.rc (.loop c)=>c|_=>.skip
def A9 (cf:Cf):Arg×List Nat×RC×RC:=match cf.1 with|.rc (.each g u a b)=>(g,u,a,b)|_=>(.s 0,[],.skip,.skip)
theorem eu {σ ε ρ:Type} {step:σ->Option (Fw σ ε ρ)} (n:Nat) (B:σ->St) (D:ε->Nat×St) (G:ρ->St) {s:σ} {J:ε->Option γ} {fr:ρ->Option γ}
 (h:∀s,Le ((step s).bind λw=>some (Fw.out B D G w)) (b_ S c some (.rc (ND (gR S c n cf)),[],B s)))
 (U:∀x,Le ((J x).bind e) (b_ S c Q (.ex (D x).1,(gR S c n cf).2.1,(D x).2))) (hr:∀b,Le ((fr b).bind e) (Q (.ret,G b)))
 (W:fZ S c n cf.1 cf.2.1 cf.2.2=some (.rc (.loop (ND (gR S c n cf))),(gR S c n cf).2.1,B s):=by kernel_rfl):Le (((bX step s).bind (Fw.elim J fr)).bind e) (b_ S c Q cf):=
 KU W h U hr
theorem lg {σ ε:Type} {step:σ->Option (Fw σ ε Empty)} (n:Nat) (B:σ->St) (D:ε->Nat×St) {s:σ} {G:ε->Option γ} {fr:Empty->Option γ}
 (h:∀s,Le ((step s).bind λw=>some (Fw.out B D (λe=>Empty.elim e) w)) (b_ S c some (.rc (ND (gR S c n cf)),[],B s)))
 (J:∀x,Le ((G x).bind e) (b_ S c Q (.ex (D x).1,(gR S c n cf).2.1,(D x).2)))
 (U:fZ S c n cf.1 cf.2.1 cf.2.2=some (.rc (.loop (ND (gR S c n cf))),(gR S c n cf).2.1,B s):=by kernel_rfl):Le (((bX step s).bind (Fw.elim G fr)).bind e) (b_ S c Q cf):=
 KU U h J λb=>Empty.elim b
theorem zf {σ ε ρ:Type} {f:FuncId} {x y:List V} {items:List α} {eI:α->List V} {step:α->σ->Option (Fw σ ε ρ)} (n:Nat) (gt:Tb SV) (B:σ->Tb bC) (D:ε->Nat×Tb bC) (G:ρ->Tb bC) {s:σ} {fn:σ->Option γ} {J:ε->Option γ} {fr:ρ->Option γ}
 (U:S.items f x y=some (items.map eI))
 (h:∀x s,Le ((step x s).bind λw=>some (Fw.t_ B D G w)) (b_ S c (wA S c (A9 (gR S c n cf)).2.2.2) (.rc (A9 (gR S c n cf)).2.2.1,[],⟨uY gt (A9 (gR S c n cf)).2.1 ((eI x).map .v),B s,og gt,[],true,0⟩)))
 (W:∀s,Le ((fn s).bind e) (b_ S c Q (.nx,(gR S c n cf).2.1,bU gt (B s)))) (Y:∀x,Le ((J x).bind e) (b_ S c Q (.ex (D x).1,(gR S c n cf).2.1,bU gt (D x).2))) (hr:∀b,Le ((fr b).bind e) (Q (.ret,bU gt (G b))))
 (hl:∀x,(eI x).length=(A9 (gR S c n cf)).2.1.length:=by intro _;kernel_rfl) (hg:o5 S.N gt (A9 (gR S c n cf)).1=some (.v (.clo f x y)):=by kernel_rfl)
 (hL:fZ S c n cf.1 cf.2.1 cf.2.2=some (.rc (.each (A9 (gR S c n cf)).1 (A9 (gR S c n cf)).2.1 (A9 (gR S c n cf)).2.2.1 (A9 (gR S c n cf)).2.2.2),(gR S c n cf).2.1,bU gt (B s)):=by kernel_rfl):Le (((jO step items s).bind (Fw.pR fn J fr)).bind e) (b_ S c Q cf):=
 Qe hL hg U hl h W Y hr
noncomputable def QY (n k:Nat) (B:List Nat) (d:Nat) (S:Sys) (c:bO) (cf:Cf) (v:SV):Cf:=jmp k [] (gR S c n cf) { (gR S c n cf).2.2 with g:=bJ (nE B (gR S c n cf).2.2.g) d v }
theorem bP [bz δ] (n k:Nat) (B:List Nat) (d:Nat) {m:Option δ} {f:δ->Option γ} (D:Le (m.bind λr=>b_ S c Q (QY n k B d S c cf (cv r))) (b_ S c Q cf))
 (h1:∀r,Le ((f r).bind e) (b_ S c Q (QY n k B d S c cf (cv r)))):Le ((m.bind f).bind e) (b_ S c Q cf):=NJ _ D h1
end
end Go.VE
namespace Go.VE
variable [bM]
instance {n:Nat}:DecidableEq (cC n Int):=λa b=>if h:a.l=b.l then .isTrue (by cases a;cases b;cases h;rfl)else .isFalse λe=>h (by rw[e])
theorem s_:∀l:List Int,gu ((l.map (cells (α:=Int))).flatten)=some l
 | []=>rfl
 | a::l=>by
  show gu (.int .i64 a::(l.map (cells (α:=Int))).flatten)=_;simp only[gu,s_ l,Option.map_some]
theorem JW (l:List Int):(l.map (cells (α:=Int))).flatten=l.map (V.int .i64):=by
 induction l with
 | nil=>rfl
 | cons a l u=>simp only[List.map_cons,List.flatten_cons,u];rfl
instance {n:Nat}:Key (cC n Int) where
 kk:=.ints n
 ok a:=by
  show ((a.l.map (cells (α:=Int))).flatten.length==n&&(gu (a.l.map (cells (α:=Int))).flatten).isSome)=true;rw[s_,JW,List.length_map,a.len];simp
 eq a b:=by
  show jD (a.l.map (cells (α:=Int))).flatten (b.l.map (cells (α:=Int))).flatten=_;unfold jD;rw[s_,s_];simp only[a.len,b.len,if_true]
  congr 1
  rw[Bool.eq_iff_iff,beq_iff_eq,decide_eq_true_iff];exact⟨λh=>by cases a;cases b;cases h;rfl,λh=>by rw[h]⟩
end Go.VE
namespace Go.VE
variable [bM]
section
variable {S:Sys} {c:bO} {β γ δ α:Type} {Q:Out×St->Option β} {e:γ->Option β} {cf:Cf}
end
section
variable {S:Sys} {c:bO} {β γ δ:Type} {Q:Out×St->Option β} {e:γ->Option β} {cf:Cf} {κ ν:Type} [bz κ] [DecidableEq κ] [Key κ] [bz ν]
structure Si (κ ν:Type) where
 o:Option (Mo κ ν)
 deriving Inhabited
def QM (m:Si κ ν):V:=match m.o with|none=>.fE|some l=>.fmap (mK l)
theorem J7 (m:Mo κ ν):V.qQ (mK m)=true:=by
 induction m with
 | nil=>rfl
 | cons x r u=>show V.qQ ((enc x.1,enc x.2)::mK r)=true;simp only[V.qQ,kK,u,Bool.and_self]
instance:bz (Si κ ν) where
 cells m:=[QM m]
 agg:=false
 size:=1
 len _:=rfl
 good m:=by
  unfold QM;split
  .rfl
  .simp only[V.cu,V.good,J7,Bool.and_self]
 one m:=by unfold QM;split <;> rfl
 plain _:=rfl
end
end Go.VE
namespace Go.VE
variable [bM]
theorem iI.scalar {S:Sys} {c:bO} {α δ:Type} {fn:FuncId} {A:α->List V} {E:δ->List V} {p:α->Option δ} {b:Bool} (F:iI S c fn A E p b) (h:∀r,(result (E r)).scalar=true):iI S c fn A E p true:=⟨F.k,F.h,λ_=>h⟩
end Go.VE
namespace Go.VE
variable [bM]
section
variable {S:Sys} {c:bO} {β γ δ α:Type} [bz α] {Q:Out×St->Option β} {e:γ->Option β} {cf:Cf}
theorem NK {ω:Type} [bz ω] (n u:Nat) {N:Nat} (a:cC N α) (i:Int) (o:Nat) (x:α) (B:a.at i=some x) (y:α) (w:ω) (D:cells y=(cells x).take o++cells w++(cells x).drop (o+bz.size ω)) {m:Option β} (h:Le m (b_ S c Q (nx S c n cf λp=>cV { p.st with m:=bJ p.st.m u (bx (a.set i y)) } p.d (.v .undef))))
 (G:(gB S c n cf).map (λp=>(p.k,bV S.N p.st.g p.az,a_ p.st.m u,(!p.dr||p.now),Nat.ble (o+bz.size ω) (bz.size α)))=some (.l (.store (bz.size ω)),some [.ptr u (i.toNat*bz.size α+o),cv w],some (bx a),true,true):=by kernel_rfl):Le m (b_ S c Q cf):=by
 obtain⟨p,A,z⟩:=fq G;simp only[ζc]at z;obtain⟨h1,C⟩:=iO A;obtain⟨dr,fr,d,gd,now,T,az,dd,l,fs,st⟩:=p;obtain⟨rfl,I,J,L,O⟩:=z;exact RM n dr fr (⟨d,gd,now,.l (.store (bz.size ω)),az,dd,[]⟩::l) fs st u a i o x B y (enc w) (by rw[gQ];exact D) rfl (by(try dsimp only at *);simp only[h1,C,I,J,L,O,gQ,fG,oC]) (by
  simp only[nx,A]at h;exact h)
end
end Go.VE
namespace Go.VE
variable [bM]
noncomputable def DS (rs:List RV):Out×St->Option (bC×List V)
 | (.exit _,_)=>none
 | (_,st)=>(jf st rs).bind λl=>match l with
  | .own d::r=>(a_ st.m d).bind λob=>(di r).map λys=>(ob,ys)
  | _=>none
theorem zC:∀{l:List SV} {ys:List V},di l=some ys->l=ys.map .v
 | [],ys,h=>by cases h;rfl
 | .v x::r,ys,h=>by
  simp only[di]at h;obtain⟨B,h1,rfl⟩:=ζf.1 h;rw[zC h1];rfl
 | .own _::_,_,h|.ptr ..::_,_,h|.el ..::_,_,h|.mp _::_,_,h|.clo ..::_,_,h|.tup _::_,_,h|.agg _::_,_,h|.yl _::_,_,h=>by cases h
theorem SQ {S:Sys} {c:bO} {rs:List RV} {rc:RC} {st:St} {ob:bC} {ys:List V} (h:ji S c (DS rs) rc [] st=some (ob,ys)):∃o st' d,cz S c rc st=some (o,st')/\(∀id,o≠.exit id)/\jf st' rs=some (.own d::ys.map .v)/\a_ st'.m d=some ob:=by
 rw[m_]at h;obtain⟨⟨o,st'⟩,h1,u⟩:=ζg.1 h;have z:∀id,o≠.exit id:=by rintro id rfl;simp[DS]at u
 have A:(jf st' rs).bind (λl=>match l with|.own d::r=>(a_ st'.m d).bind λob=>(di r).map λys=>(ob,ys)|_=>none)=some (ob,ys):=by
  cases o with
  | exit id=>exact absurd rfl (z id)
  | norm=>exact u
  | ret=>exact u
 obtain⟨l,B,w⟩:=ζg.1 A;split at w
 .obtain⟨C,D,G⟩:=ζg.1 w;obtain⟨L,I,J⟩:=ζf.1 G;cases J;exact⟨o,st',_,h1,z,by rw[B,zC I],D⟩
 .cases w
structure Sm (S:Sys) (c:bO) {δ ε:Type} [bz δ] [iu ε] (m:Option (Sl δ×ε)) where
 n:FuncId
 az:List V
 k:S.E.keep n=true
 o:S.E.own n=true
 h:∀s r,m=some (s,r)->∃e m',c n (az.map .v) []=some (.own e::(iu.e r).map .v,m')/\a_ m' e=some (cS s)
 sc:∀x:δ,(cells x).all V.scalar=true
 sr:∀r:ε,V.cM (iu.e r)=true
abbrev Sm.mk' {S:Sys} {T:oh} {δ ε:Type} [bz δ] [iu ε] {m:Option (Sl δ×ε)} (fn:FuncId) (az:List V) (h:Le (m.bind λr=>some (cS r.1,iu.e r.2)) (b_ S (dx S T) (DS (tr T fn)) (.rc (tb T fn),[],start (az.map .v) [])))
 (B:(T fn).isSome=true:=by kernel_rfl) (hk:S.E.keep fn=true:=by kernel_rfl) (D:S.E.own fn=true:=by kernel_rfl) (G:Nat.ble az.length (oR (T fn)).na=true:=by kernel_rfl)
 (sc:∀x:δ,(cells x).all V.scalar=true:=by intro x;rfl) (sr:∀r:ε,V.cM (iu.e r)=true:=by intro r;rfl):Sm S (dx S T) m where
 n:=fn
 az:=az
 k:=hk
 o:=D
 sc:=sc
 sr:=sr
 h s r w:=by
  have u:=xO B;have h1:=h (cS s,iu.e r) (by rw[w];rfl)
  change ji S (dx S T) (DS (oR (T fn)).rs) (oR (T fn)).body [] (start (az.map .v) [])=some (cS s,iu.e r)at h1;obtain⟨o,st',d,g1,g2,g3,g4⟩:=SQ h1;refine⟨d,st'.m,?_,g4⟩;rw[p9 u];unfold lq;rw[if_pos (by simpa using Nat.le_of_ble_eq_true G),g1]
  cases o with
  | exit id=>exact absurd rfl (g2 id)
  | norm=>simp only[g3,Option.map_some]
  | ret=>simp only[g3,Option.map_some]
section
variable {S:Sys} {c:bO} {β γ δ α:Type} {Q:Out×St->Option β} {e:γ->Option β} {cf:Cf}
end
end Go.VE
namespace Go.VE
variable [bM]
noncomputable def Cn (rs:List RV) (B:List Nat):Out×St->Option (List V×c6)
 | (.exit _,_)=>none
 | (_,st)=>(jf st rs).bind λl=>(di l).bind λys=>(iV st.m B).map λos=>(ys,os)
theorem S5 {S:Sys} {c:bO} {rs:List RV} {B:List Nat} {rc:RC} {st:St} {os:c6} {ys:List V} (h:ji S c (Cn rs B) rc [] st=some (ys,os)):∃o st',cz S c rc st=some (o,st')/\(∀id,o≠.exit id)/\jf st' rs=some (ys.map .v)/\iV st'.m B=some os:=by
 rw[m_]at h;obtain⟨⟨o,st'⟩,h1,u⟩:=ζg.1 h;have w:∀id,o≠.exit id:=by rintro id rfl;simp[Cn]at u
 have z:(jf st' rs).bind (λl=>(di l).bind λys=>(iV st'.m B).map λos=>(ys,os))=some (ys,os):=by
  cases o with
  | exit id=>exact absurd rfl (w id)
  | norm=>exact u
  | ret=>exact u
 obtain⟨l,A,C⟩:=ζg.1 z;obtain⟨L,D,G⟩:=ζg.1 C;obtain⟨q,I,J⟩:=ζf.1 G;cases J;exact⟨o,st',h1,w,by rw[A,zC D],I⟩
def nM:Tb bC->c6->Tb bC
 | m,[]=>m
 | m,(d,ob)::r=>nM (bJ m d ob) r
theorem Fg {m':c6} {D:List Nat}:∀{B:List Nat} {os m:c6},iV m' B=some os->(os.all λx=>within D x.2)=true->wO D m' B m=some (nM m os)
 | [],os,m,h,_=>by cases h;rfl
 | k::B,os,m,h,hp=>by
  simp only[iV]at h;split at h
  .rename_i v t h1 G;cases h;simp only[List.all_cons,ζh]at hp;simp only[wO,h1,hp.1,if_true,nM];exact Fg G hp.2
  .cases h
theorem back_eq {m':c6} {B:List Nat} {os m:c6} (h:iV m' B=some os) (hp:(os.all λx=>within B x.2)=true):jY m' B m=some (nM m os):=Fg h hp
structure oT (S:Sys) (c:bO) {δ:Type} (m:Option δ) where
 n:FuncId
 az:List SV
 os:c6
 E:δ->List V
 M:δ->c6
 k:S.E.keep n=true
 o:S.E.own n=false
 q:(S.prm n).isNone=true
 h:∀r,m=some r->∃m',c n az os=some ((E r).map .v,m')/\∀m0,jY m' (os.map (·.1)) m0=some (nM m0 (M r))
abbrev oT.mk' {S:Sys} {T:oh} {δ:Type} {m:Option δ} (fn:FuncId) (az:List SV) (os:c6) (E:δ->List V) (M:δ->c6) (h:Le (m.bind λr=>some (E r,M r)) (b_ S (dx S T) (Cn (tr T fn) (os.map (·.1))) (.rc (tb T fn),[],start az os)))
 (B:(T fn).isSome=true:=by kernel_rfl) (hk:S.E.keep fn=true:=by kernel_rfl) (D:S.E.own fn=false:=by kernel_rfl) (G:(S.prm fn).isNone=true:=by kernel_rfl) (J:Nat.ble az.length (oR (T fn)).na=true:=by kernel_rfl)
 (hp:∀r,((M r).all λx=>within (os.map (·.1)) x.2)=true:=by intro r;kernel_rfl):oT S (dx S T) m where
 n:=fn
 az:=az
 os:=os
 E:=E
 M:=M
 k:=hk
 o:=D
 q:=G
 h r hr:=by
  have u:=xO B;have h1:=h (E r,M r) (by rw[hr];rfl)
  change ji S (dx S T) (Cn (oR (T fn)).rs (os.map (·.1))) (oR (T fn)).body [] (start az os)=some (E r,M r)at h1;obtain⟨o,st',g1,g2,g3,g4⟩:=S5 h1;refine⟨st'.m,?_,λw=>back_eq g4 (hp r)⟩
  rw[p9 u];unfold lq;rw[if_pos (Nat.le_of_ble_eq_true J),g1]
  cases o with
  | exit id=>exact absurd rfl (g2 id)
  | norm=>simp only[g3,Option.map_some]
  | ret=>simp only[g3,Option.map_some]
section
variable {S:Sys} {c:bO} {β γ δ:Type} {Q:Out×St->Option β} {e:γ->Option β} {cf:Cf}
theorem we (n:Nat) {m:Option δ} (F:oT S c m) {f:δ->Option γ} (h:∀x,m=some x->Le ((f x).bind e) (b_ S c Q (nx S c n cf λp=>cV { p.st with m:=nM p.st.m (F.M x) } p.d (.v (result (F.E x))))))
 (B:(gB S c n cf).map (λp=>(p.k,((bV S.N p.st.g p.az).bind kZ).bind λq=>(handed p.st.m q.2).map λos=>(q.1,q.2,os),p.dr))=some (.c,some (F.n,F.az,F.os),false):=by kernel_rfl):Le ((m.bind f).bind e) (b_ S c Q cf):=by
 obtain⟨p,z,hv⟩:=fq B;simp only[ζc]at hv;obtain⟨A,C,D⟩:=hv;obtain⟨q,g1,g2⟩:=ζg.1 C;obtain⟨u,g3,g4⟩:=ζg.1 g1;obtain⟨os,g5,g6⟩:=ζf.1 g2;simp only[ζc]at g6;obtain⟨e1,e2,rfl⟩:=g6;refine sw z ?_ h;rw[A,D,A6 _ _ _ _ _ _ u q.1 q.2 g3 g4];intro y w;obtain⟨r,hr,w⟩:=ζg.1 w;cases w;obtain⟨m',k1,G⟩:=F.h r hr;have I:S.prm F.n=none:=by
  have:=F.q
  cases J:S.prm F.n with
  | none=>rfl
  | some _=>rw[J]at this;cases this
 have:fJ S c p.d false (!false||p.now) (fI p.st.m p.fr) q.1 q.2 p.st=some (.v (result (F.E r)),{ p.st with m:=nM p.st.m (F.M r) }):=by
  unfold fJ;rw[e1,e2]at *;simp only[F.k,F.o,I,g5,k1,kL,G,if_true,Bool.not_false,Bool.true_or,Bool.false_and,Bool.false_eq_true,if_false]
 rw[this];rfl
instance:Key ByteArray where
 kk:=.str
 ok _:=rfl
 eq a b:=by
  show some (a==b)=some (decide (a=b));rw[show (a==b)=decide (a=b)from Bool.eq_iff_iff.2 (by cases a;cases b;rename_i x y;show (x==y)=true↔_;simp)]
end
end Go.VE
namespace Go.VE
variable [bM]
noncomputable def HD (rs:List RV) (B:List Nat):Out×St->Option (bC×List V×c6)
 | (.exit _,_)=>none
 | (_,st)=>(jf st rs).bind λl=>match l with
  | .own d::r=>if B.contains d then none else(a_ st.m d).bind λob=>(di r).bind λys=>(iV st.m B).map λos=>(ob,ys,os)
  | _=>none
theorem S8 {S:Sys} {c:bO} {rs:List RV} {B:List Nat} {rc:RC} {st:St} {ob:bC} {ys:List V} {os:c6} (h:ji S c (HD rs B) rc [] st=some (ob,ys,os)) :
 ∃o st' d,cz S c rc st=some (o,st')/\(∀id,o≠.exit id)/\jf st' rs=some (.own d::ys.map .v)/\B.contains d=false/\a_ st'.m d=some ob/\iV st'.m B=some os:=by
 rw[m_]at h;obtain⟨⟨o,st'⟩,h1,w⟩:=ζg.1 h;have C:∀id,o≠.exit id:=by rintro id rfl;simp[HD]at w
 have D:(jf st' rs).bind (λl=>match l with|.own d::r=>if B.contains d then none else(a_ st'.m d).bind λob=>(di r).bind λys=>(iV st'.m B).map λos=>(ob,ys,os)|_=>none)=some (ob,ys,os):=by
  cases o with
  | exit id=>exact absurd rfl (C id)
  | norm=>exact w
  | ret=>exact w
 obtain⟨l,G,u⟩:=ζg.1 D;split at u
 .split at u
  .cases u
  .rename_i hc;obtain⟨I,J,L⟩:=ζg.1 u;obtain⟨T,O,Q⟩:=ζg.1 L;obtain⟨q,z,A⟩:=ζf.1 Q;cases A;exact⟨o,st',_,h1,C,by rw[G,zC O],by simpa using hc,J,z⟩
 .cases u
structure Sv (S:Sys) (c:bO) {δ ε:Type} [bz δ] [iu ε] (m:Option (Sl δ×ε)) where
 n:FuncId
 az:List SV
 os:c6
 M:Sl δ×ε->c6
 k:S.E.keep n=true
 o:S.E.own n=false
 q:(S.prm n).isNone=true
 h:∀r,m=some r->∃e m',c n az os=some (.own e::(iu.e r.2).map .v,m')/\a_ m' e=some (cS r.1)/\(os.map (·.1)).contains e=false/\∀m0,jY m' (os.map (·.1)) m0=some (nM m0 (M r))
abbrev Sv.mk' {S:Sys} {T:oh} {δ ε:Type} [bz δ] [iu ε] {m:Option (Sl δ×ε)} (fn:FuncId) (az:List SV) (os:c6) (M:Sl δ×ε->c6)
 (h:Le (m.bind λr=>some (cS r.1,iu.e r.2,M r)) (b_ S (dx S T) (HD (tr T fn) (os.map (·.1))) (.rc (tb T fn),[],start az os)))
 (B:(T fn).isSome=true:=by kernel_rfl) (hk:S.E.keep fn=true:=by kernel_rfl) (D:S.E.own fn=false:=by kernel_rfl) (G:(S.prm fn).isNone=true:=by kernel_rfl) (J:Nat.ble az.length (oR (T fn)).na=true:=by kernel_rfl)
 (hp:∀r,((M r).all λx=>within (os.map (·.1)) x.2)=true:=by intro r;kernel_rfl):Sv S (dx S T) m where
 n:=fn
 az:=az
 os:=os
 M:=M
 k:=hk
 o:=D
 q:=G
 h r hr:=by
  have u:=xO B;have h1:=h (cS r.1,iu.e r.2,M r) (by rw[hr];rfl)
  change ji S (dx S T) (HD (oR (T fn)).rs (os.map (·.1))) (oR (T fn)).body [] (start az os)=some (cS r.1,iu.e r.2,M r)at h1;obtain⟨o,st',d,g1,g2,g3,g4,g5,g6⟩:=S8 h1;refine⟨d,st'.m,?_,g5,g4,λw=>back_eq g6 (hp r)⟩
  rw[p9 u];unfold lq;rw[if_pos (Nat.le_of_ble_eq_true J),g1]
  cases o with
  | exit id=>exact absurd rfl (g2 id)
  | norm=>simp only[g3,Option.map_some]
  | ret=>simp only[g3,Option.map_some]
section
variable {S:Sys} {c:bO} {β γ:Type} {Q:Out×St->Option β} {e:γ->Option β} {cf:Cf}
end
structure Qz (S:Sys) (c:bO) {α δ:Type} [bz δ] (fn:FuncId) (A:α->List V) (p:α->Option (Sl δ)):Prop where
 k:S.E.keep fn=true
 o:S.E.own fn=false
 q:(S.prm fn).isNone=true
 h:∀z s,p z=some s->∃e m',c fn ((A z).map .v) []=some ([.own e],m')/\a_ m' e=some (cS s)
theorem Qz.mk' {S:Sys} {T:oh} {α δ:Type} [bz δ] (rf:RF) {fn:FuncId} {A:α->List V} {p:α->Option (Sl δ)} (h:∀z,Le ((p z).bind λr=>some (cS r)) (b_ S (dx S T) (za rf.rs) (.rc rf.body,[],start ((A z).map .v) [])))
 (B:T fn=some rf:=by kernel_rfl) (hk:S.E.keep fn=true:=by kernel_rfl) (D:S.E.own fn=false:=by kernel_rfl) (G:(S.prm fn).isNone=true:=by kernel_rfl) (J:∀z,(A z).length<=rf.na:=by intro z;exact Nat.le_of_ble_eq_true (by kernel_rfl)):Qz S (dx S T) fn A p where
 k:=hk
 o:=D
 q:=G
 h z s u:=by
  have h1:=h z (cS s) (by rw[u];rfl)
  change ji S (dx S T) (za rf.rs) rf.body [] (start ((A z).map .v) [])=some (cS s)at h1;obtain⟨o,st',d,g1,g2,g3,g4⟩:=QB h1;refine⟨d,st'.m,?_,g4⟩;rw[p9 B];unfold lq;rw[if_pos (by simpa using J z),g1]
  cases o with
  | exit id=>exact absurd rfl (g2 id)
  | norm=>simp only[g3,Option.map_some]
  | ret=>simp only[g3,Option.map_some]
theorem Ff:∀l:List V,SV.pU (l.map .v)=[]
 | []=>rfl
 | a::l=>by simp only[List.map_cons,SV.pU,SV.zQ,Ff l,List.append_nil]
theorem HH {m:Tb bC} (l:List V):handed m (l.map .v)=some []:=by
 unfold handed;rw[Ff];rfl
section
variable {S:Sys} {c:bO} {β γ δ α:Type} [bz δ] {Q:Out×St->Option β} {e:γ->Option β} {cf:Cf}
end
end Go.VE
namespace Go.VE
variable [bM]
def Lt (s:Nat) (v:SV) (cf:Cf):Cf:=(cf.1,cf.2.1,{ cf.2.2 with g:=bJ cf.2.2.g s v })
section
variable {S:Sys} {c:bO} {β γ δ:Type} {Q:Out×St->Option β} {e:γ->Option β} {cf:Cf}
theorem oW (n s:Nat) {v B:V} (hv:v=B) {m:Option β} (h:Le m (b_ S c Q (Lt s (.v B) (gR S c n cf))))
 (D:(fZ S c n cf.1 cf.2.1 cf.2.2).map (λp=>a_ p.2.2.g s)=some (some (.v v)):=by kernel_rfl):Le m (b_ S c Q cf):=by
 subst hv;obtain⟨p,u,hv⟩:=fq D;have hg:gR S c n cf=p:=by unfold gR;grind
 rw[hg]at h;refine yB u ?_;have:Lt s (.v v) p=p:=by unfold Lt;rw[nQ hv]
 rw[this]at h;exact h
end
def vB {α δ:Type} (b:(α->Option δ)->α->Option δ):Nat->α->Option δ
 | 0,_=>none
 | n+1,z=>b (vB b n) z
theorem iI.fix {S:Sys} {c:bO} {α δ:Type} {fn:FuncId} {A:α->List V} {E:δ->List V} {sc:Bool} {b:(α->Option δ)->α->Option δ} (hk:S.E.keep fn=false) (B:sc=true->∀r,(result (E r)).scalar=true)
 (h:∀r,iI S c fn A E r sc->∀z,Le ((b r z).bind λr=>some (E r)) (iL c fn (A z))):∀n,iI S c fn A E (vB b n) sc
 | 0=>⟨hk,λ_=>Le.none _,B⟩
 | n+1=>⟨hk,h _ (iI.fix hk B h n),B⟩
structure yD (S:Sys) (c:bO) {α δ:Type} (fn:FuncId) (A:α->List SV) (O:α->c6) (E:δ->List V) (M:α->δ->c6) (p:α->Option δ):Prop where
 k:S.E.keep fn=true
 o:S.E.own fn=false
 q:(S.prm fn).isNone=true
 h:∀z r,p z=some r->∃m',c fn (A z) (O z)=some ((E r).map .v,m')/\∀m0,jY m' ((O z).map (·.1)) m0=some (nM m0 (M z r))
abbrev oT.of {S:Sys} {c:bO} {α δ:Type} {fn:FuncId} {A:α->List SV} {O:α->c6} {E:δ->List V} {M:α->δ->c6} {p:α->Option δ} (z:α) (F:yD S c fn A O E M p):oT S c (p z):=⟨fn,A z,O z,E,M z,F.k,F.o,F.q,F.h z⟩
theorem yD.fix {S:Sys} {c:bO} {α δ:Type} {fn:FuncId} {A:α->List SV} {O:α->c6} {E:δ->List V} {M:α->δ->c6} {b:(α->Option δ)->α->Option δ} (k:S.E.keep fn=true) (o:S.E.own fn=false) (q:(S.prm fn).isNone=true)
 (h:∀r,yD S c fn A O E M r->∀z B,b r z=some B->∃m',c fn (A z) (O z)=some ((E B).map .v,m')/\∀D,jY m' ((O z).map (·.1)) D=some (nM D (M z B))):∀n,yD S c fn A O E M (vB b n)
 | 0=>⟨k,o,q,λ_ _ h=>by cases h⟩
 | n+1=>⟨k,o,q,h _ (yD.fix k o q h n)⟩
structure wk (S:Sys) (c:bO) {α σ:Type} [bz α] (cl:SV) (g:FuncId) (e:List SV) (os:σ->c6) (p:α->σ->Option (Bool×σ)):Prop where
 cs:∀vs,kZ (cl::vs)=some (g,vs++e)
 hd:∀(s:σ) (a:V),handed (os s) [.v a,cl]=some (os s)
 tk:∀s s',iV (os s') ((os s).map (·.1))=some (os s')
 wi:∀s s',((os s').all λx=>within ((os s).map (·.1)) x.2)=true
 put:∀s s',nM (os s) (os s')=os s'
 h:∀x s r,p x s=some r->∀(dst:Option Nat) (old:List SV->Bool) (st:St),st.m=os s->fJ S c dst false true old g (.v (enc x)::e) st=some (.v (.bool r.1),{ st with m:=os r.2 })
section
variable {S:Sys} {c:bO} {α σ:Type} [bz α] {g:FuncId}
theorem wk.Qo {e:List V} {p:α->Option Bool} (F:kA S c g [] e (λz:α=>[enc z]) (λr:Bool=>[.bool r]) p true):wk S c (.v (.clo g [] e)) g (e.map .v) (λ_:Unit=>[]) (λx u=>(p x).map λb=>(b,u)) where
 cs vs:=rfl
 hd s a:=HH [a,.clo g [] e]
 tk _ _:=rfl
 wi _ _:=rfl
 put _ _:=rfl
 h x s r hr dst B st w:=by
  obtain⟨b,C,rfl⟩:=ζf.1 hr;have A:iL c g (enc x::e)=some [.bool b]:=F.f.h x [.bool b] (by rw[C];rfl)
  have e1:{ st with m:=([]:c6) }=st:=by
   cases st;simp only at w;subst w;rfl
  rw[e1];unfold iL at A;obtain⟨⟨rs,m'⟩,h1,D⟩:=ζg.1 A;have hk:=F.f.k;unfold fJ;have G:cO st.m 8 (.v (enc x)::e.map .v)=some (enc x::e):=uQ 8 (enc x::e);simp only[hk,G,h1,D,Bool.false_eq_true,if_false,Bool.true_or,if_true,result,V.scalar]
theorem wk.Tc {e:List SV} {os:σ->c6} {p:α->σ->Option (Bool×σ)} [Inhabited α] [Inhabited σ] (F:∀x s,oT S c (p x s)) (G:∀x s,(F x s).n=g:=by intro _ _;kernel_rfl) (J:∀x s,(F x s).az=.v (enc x)::e:=by intro _ _;kernel_rfl) (D:∀x s,(F x s).os=os s:=by intro _ _;kernel_rfl)
 (U:∀x s,(F x s).E=λr=>[.bool r.1]:=by intro _ _;kernel_rfl) (W:∀x s,(F x s).M=λr=>os r.2:=by intro _ _;kernel_rfl)
 (hd:∀s:σ,iV (os s) (reach (os s) 32 (SV.pU e) [])=some (os s):=by intro _;kernel_rfl)
 (tk:∀s B,iV (os B) ((os s).map (·.1))=some (os B):=by intro _ _;kernel_rfl) (wi:∀s B,((os B).all λx=>within ((os s).map (·.1)) x.2)=true:=by intro _ _;kernel_rfl) (put:∀s B,nM (os s) (os B)=os B:=by intro _ _;kernel_rfl):wk S c (.clo g [] e) g e os p where
 cs vs:=rfl
 hd s a:=by
  have:SV.pU [.v a,.clo g [] e]=SV.pU e:=by simp[SV.pU,SV.zQ]
  unfold handed;rw[this];exact hd s
 tk:=tk
 wi:=wi
 put:=put
 h x s r hr dst I st w:=by
  obtain⟨m',k1,u⟩:=(F x s).h r hr;have hk:=(F x s).k;have z:=(F x s).o;have A:S.prm (F x s).n=none:=by
   have:=(F x s).q
   cases L:S.prm (F x s).n with
   | none=>rfl
   | some _=>rw[L]at this;cases this
  rw[G]at hk z A k1;rw[J,D,U]at k1;rw[D,W]at u;have C:handed st.m (.v (enc x)::e)=some (os s):=by rw[w];exact hd s
  have u:=u (os s);rw[put]at u;rw[<-w]at u;unfold fJ;rw[w]at C u ⊢;simp only[hk,z,A,C,k1,u,kL,List.map_cons,List.map_nil,di,Option.map_some,if_true,Bool.false_and,Bool.false_eq_true,if_false,result]
end
def Bm {α σ:Type} (s0:Sl α) (p:α->σ->Option (Bool×σ)) (q:Int×σ):Option (Fw (Int×σ) σ (Int×σ)):=
 bl (decide (q.1<len s0)) ((idx s0 q.1).bind λx=>(p x q.2).bind λy=>bl y.1 (some (.r (q.1,y.2))) (some (.n (IntKind.wrap .i64 (q.1+1),y.2)))) (some (.x q.2))
noncomputable def Mb {α σ:Type} (s0:Sl α) (p:α->σ->Option (Bool×σ)) (x:σ):Option (Int×σ):=(bX (Bm s0 p) (0,x)).bind (Fw.elim (λe=>some (-1,e)) λe=>some e)
noncomputable def yT {α σ:Type} (s0:Sl α) (p:α->σ->Option (Bool×σ)) (x:σ):Option (Bool×σ):=(Mb s0 p x).bind λy=>some (decide (y.1>=0),y.2)
section
variable {S:Sys} {c:bO} {α σ β γ:Type} [bz α] {g:FuncId} {Q:Out×St->Option β} {e:γ->Option β} {cf:Cf}
theorem Kr (n:Nat) {cl:SV} {ex:List SV} {os:σ->c6} {p:α->σ->Option (Bool×σ)} (F:wk S c cl g ex os p) (x:α) (s:σ) {f:Bool×σ->Option γ} (h:∀r,p x s=some r->Le ((f r).bind e) (b_ S c Q (nx S c n cf λq=>cV { q.st with m:=os r.2 } q.d (.v (.bool r.1)))))
 (B:(gB S c n cf).map (λq=>(q.k,bV S.N q.st.g q.az,q.dr,q.st.m))=some (.c,some [cl,.v (enc x)],false,os s):=by kernel_rfl):Le (((p x s).bind f).bind e) (b_ S c Q cf):=by
 obtain⟨q,w,hv⟩:=fq B;simp only[ζc]at hv;obtain⟨h1,z,A,C⟩:=hv;refine sw w ?_ h;rw[h1,A,A6 _ _ _ _ _ _ _ g ([.v (enc x)]++ex) z (F.cs [.v (enc x)])];intro y u;obtain⟨r,hr,u⟩:=ζg.1 u;cases u;have:=F.h x s r hr q.d (fI q.st.m q.fr) q.st C;rw[show (!false||q.now)=true from rfl,List.singleton_append,this];rfl
theorem Ea {cl:SV} {ex:List SV} {os:σ->c6} {p:α->σ->Option (Bool×σ)} (F:wk S c cl g ex os p) {rs:List RV} {st:St} {s B:σ} {ys:List V} (h1:jf st rs=some (ys.map .v)) (D:st.m=os B):Cn rs ((os s).map (·.1)) (.ret,st)=some (ys,os B):=by
 show ((jf st rs).bind λl=>(di l).bind λys=>(iV st.m ((os s).map (·.1))).map λos=>(ys,os))=_
 rw[h1,D,F.tk s B];simp only[ζb,kL,Option.map_some]
theorem DL (n:Nat) {cl:SV} {ex:List SV} {os:σ->c6} {p:α->σ->Option (Bool×σ)} (F:wk S c cl g ex os p) {rs:List RV} {s B:σ} {r:γ} {e:γ->Option (List V×c6)} (ys:List V) (D:e r=some (ys,os B))
 (G:(fZ S c n cf.1 cf.2.1 cf.2.2).map (λq=>(q.1,jf q.2.2 rs,q.2.2.m))=some (.rt,some (ys.map .v),os B):=by kernel_rfl):Le ((some r).bind e) (b_ S c (Cn rs ((os s).map (·.1))) cf):=by
 obtain⟨⟨fo,fs,st'⟩,u,hv⟩:=fq G;simp only[ζc]at hv;obtain⟨rfl,w,z⟩:=hv;refine yB u (Le.of_eq ?_);show rn S c _ Fo.rt fs st'=e r;rw[D];exact Ea F w z
theorem G_ (n:Nat) {δ:Type} {m:Option δ} (F:oT S c m) (D:handed F.os F.az=some F.os) (hp:∀x,nM F.os (F.M x)=F.M x) {f:δ->Option γ} (h:∀x,m=some x->Le ((f x).bind e) (b_ S c Q (nx S c n cf λp=>cV { p.st with m:=F.M x } p.d (.v (result (F.E x))))))
 (G:(gB S c n cf).map (λp=>(p.k,(bV S.N p.st.g p.az).bind kZ,p.dr,p.st.m))=some (.c,some (F.n,F.az),false,F.os):=by kernel_rfl):Le ((m.bind f).bind e) (b_ S c Q cf):=by
 obtain⟨p,w,hv⟩:=fq G;simp only[ζc]at hv;obtain⟨C,I,J,B⟩:=hv;obtain⟨z,g3,g4⟩:=ζg.1 I;refine sw w ?_ h;rw[C,J,A6 _ _ _ _ _ _ z F.n F.az g3 g4];intro y A;obtain⟨r,hr,A⟩:=ζg.1 A;cases A;obtain⟨m',k1,u⟩:=F.h r hr;have w:S.prm F.n=none:=by
  have:=F.q
  cases L:S.prm F.n with
  | none=>rfl
  | some _=>rw[L]at this;cases this
 have u:=u p.st.m;rw[B,hp]at u;have:fJ S c p.d false (!false||p.now) (fI p.st.m p.fr) F.n F.az p.st=some (.v (result (F.E r)),{ p.st with m:=F.M r }):=by
  unfold fJ;rw[B];simp only[F.k,F.o,w,D,k1,u,kL,if_true,Bool.not_false,Bool.true_or,Bool.false_and,Bool.false_eq_true,if_false]
 rw[this];rfl
end
section
variable {S:Sys} {c:bO} {β γ δ α:Type} [bz δ] {Q:Out×St->Option β} {e:γ->Option β} {cf:Cf}
theorem NS (n u:Nat) {fn:FuncId} {A:α->List V} {p:α->Option (Sl δ)} (F:Av S c fn A p) (z:α) {f:Sl δ->Option γ}
 (h:∀x,(p z).bind Sl.whole=some x->Le ((f x).bind e) (b_ S c Q (nx S c n cf λq=>{ q.st with g:=bJ q.st.g u (.own u),m:=bJ q.st.m u (cS x) })))
 (U:(gB S c n cf).map (λq=>(q.d,q.k,((bV S.N q.st.g q.az).bind kZ).bind λr=>(mq (gP q.st.m 8) r.2).map λvs=>(r.1,vs),(!q.dr||q.now),q.st.new u))=some (some u,.c,some (fn,A z),true,true):=by kernel_rfl):Le ((((p z).bind Sl.whole).bind f).bind e) (b_ S c Q cf):=by
 obtain⟨q,T,hv⟩:=fq U;simp only[ζc]at hv;obtain⟨W,X,Y,Z,O⟩:=hv;obtain⟨⟨B,args⟩,D,g3⟩:=ζg.1 Y;obtain⟨G,g1,g2⟩:=ζg.1 D;obtain⟨vs,g4,g5⟩:=ζf.1 g3;simp only[ζc]at g5;obtain⟨rfl,rfl⟩:=g5;refine sw T ?_ h;rw[W,X];intro y I;obtain⟨s',J,I⟩:=ζg.1 I;cases I;obtain⟨s,hs,C⟩:=ζg.1 J;obtain⟨e0,m',hc,hm⟩:=F.h z s hs;rw[A6 q.dr _ _ _ _ _ G B args g1 g2];have L:cO q.st.m 8 args=some (A z):=by rw[(wh q.st.m 8).2];exact g4
 have w:fJ S c (some u) q.dr (!q.dr||q.now) (fI q.st.m q.fr) B args q.st=some (.own u,{ q.st with m:=bJ q.st.m u (cS s') }):=by
  unfold fJ;simp only[F.k,F.o,if_true,Z,L,hc,di,hm,cS,O]
  cases s with
  | nil=>cases C;rfl
  | emp=>cases C;rfl
  | row l=>
   cases C;have:mJ (rows l)=true:=by
    unfold mJ;rw[List.all_eq_true];intro x hx;obtain⟨a,_,rfl⟩:=List.mem_map.1 hx;exact F.sc a
   simp only[Sl.k,Sl.l,di,V.cM,this,Bool.and_self,O,if_true];rfl
  | part l=>cases C
 rw[w];rfl
end
def Qw:Out×St->Option (List (List V))
 | (.exit _,_)=>none
 | (_,st)=>some st.want
noncomputable def yl (B:List (List V)) (more:Bool) (xs:List V):Option (Bool×List (List V)):=match B with
 | w::r=>open Classical in if w=xs then some (more || !r.isEmpty,r)else none
 | []=>none
section
variable {S:Sys} {c:bO} {β γ:Type} {Q:Out×St->Option β} {e:γ->Option β} {cf:Cf}
theorem Sq (n:Nat) {B:List (List V)} {more:Bool} (xs:List V) {f:Bool×List (List V)->Option γ}
 (h:∀r,yl B more xs=some r->Le ((f r).bind e) (b_ S c Q (nx S c n cf λq=>cV { q.st with want:=r.2 } q.d (.v (.bool r.1)))))
 (D:(gB S c n cf).map (λq=>(q.k,bV S.N q.st.g q.az,q.st.want,q.st.more,q.dr))=some (.c,some (.yl ((gB S c n cf).elim 0 λq=>q.st.yid)::xs.map .v),B,more,false):=by kernel_rfl):Le (((yl B more xs).bind f).bind e) (b_ S c Q cf):=by
 obtain⟨q,A,hv⟩:=fq D;simp only[ζc]at hv;obtain⟨h1,u,C,G,I⟩:=hv;rw[A]at u;refine sw A ?_ h;intro y z;obtain⟨r,hr,z⟩:=ζg.1 z;cases z;unfold yl at hr;split at hr
 .rename_i w L;split at hr
  .rename_i J;cases hr;rw[h1,I];unfold eT;have u:bV S.N q.st.g q.az=some (.yl q.st.yid::xs.map .v):=u;simp only[wanted,e8,u,kL,C,J,G,if_true,and_self,Bool.false_eq_true,if_false]
  .cases hr
 .cases hr
theorem Nn {S G:Sys} {c:bO} (Y:G.E=S.E) (hP:∀f q,S.prm f=some q->n9 S.E f q) (hS:ig S c) (hI:∀f a b xs,S.items f a b=some xs->eD S f a b xs) {f:FuncId} {fi:FI} {nm:FuncId->Option Nat} {rf:RF} (U:S.E.ft f=some fi) (hN:∀g s,nm g=some s->S.N s=g) (hr:uW S.E nm fi rf) {a b:List V} {xs:List (List V)} (D:a.length+1+b.length<=rf.na) (W:rf.rs=[])
 (h:∀B more,sJ B xs more->∀yid,b_ S c Qw (.rc rf.body,[],⟨s7 0 (a.map .v++.yl yid::b.map .v),[],[],B,more,yid⟩)=some []):eD G f a b xs:=by
 have k:eD S f a b xs:=Hr hP hS hI U hN hr D W (λB more w yid=>by
  have h1:=h B more w yid;change ji S c Qw rf.body [] _=some []at h1;rw[m_]at h1;obtain⟨⟨o,st'⟩,z,u⟩:=ζg.1 h1;refine⟨o,st',z,?_,?_,rfl⟩
  .rintro id rfl;simp[Qw]at u
  .cases o <;> simp[Qw]at u <;> exact u)
 obtain⟨O,Q,it,uU,prm⟩:=G;simp only at Y;subst Y;intro B more w yid J y Z A C H h1 z u I L;exact k B more w yid J ⟨y.uB,y.yield⟩ Z A C H h1 z u I L
end
end Go.VE
namespace Go.VE
variable [bM]
namespace catX
instance {n:Nat}:OfNat Arg n:=⟨.s n⟩
def ln:K:=.p .lenSl
def ix:K:=.p (.idxS 1)
def bI (o:BinOp):K:=.p (.bin (some .int) none o)
def ld:K:=.r (.load 1 false)
def g1:List RO:=[o1 4 (.k (.bL)) []]
def g2:List RO:=[o1 5 1 [],o2 6 (bI .lss) [5,.k (.int .i64 0)] []]
def g3:List RO:=[o2 7 (.p (.bad)) [] [],⟨none,none,false,.p .bad,[],[],[]⟩]
def g4:List RO:=[o1 8 1 [],o1 9 0 [],o2 10 (.p (.capSl)) [9] [],o1 11 0 [],o2 12 ln [11] [],o2 13 (bI .sub) [10,12] [],o2 14 (bI .sub) [8,13] [],o1 1 14 []]
def g5:List RO:=[o1 15 1 [],o2 16 (bI .gtr) [15,.k (.int .i64 0)] []]
def g6:List RO:=[o1 17 0 [],o1 18 0 [],o2 19 (.p (.capSl)) [18] [],o2 20 (.p (.slice 1 false true)) [17,19] [],o1 21 1 [],o2 22 (.l (.appMk 1 24 [.bL])) [20,21] [],o1 23 0 [],o2 24 ln [23] [],o2 25 (.p (.slice 1 false true)) [22,24] [],o1 0 25 []]
def g7:List RO:=[o1 26 0 [],o1 4 26 []]
def grow:RC:=.seq (.ops g1) (.seq (.seq (.ops g2) (.cond (.s 6) (.ops g3) (.skip))) (.seq (.seq (.ops g4) (.seq (.ops g5) (.cond (.s 16) (.ops g6) (.skip)))) (.seq (.ops g7) (.ret))))
section
variable {E:Env} {N:Nat->FuncId} {t:Nat}
end
end catX
end Go.VE
namespace Go.VE
variable [bM]
namespace catX
def r1:List RO:=[o1 2 (.k (.bL)) []]
def r2:List RO:=[o1 3 (.k (.int .i64 0)) []]
def r3:List RO:=[o1 9 0 [],o2 10 ln [9] [],o1 11 (.k (.int .i64 0)) []]
def r4:List RO:=[o2 12 (bI .lss) [11,10] []]
def r5:List RO:=[o2 13 ix [9,11] [],o2 14 ld [13] [],o1 5 14 []]
def r6:List RO:=[o1 15 3 [],o1 16 5 [],o2 17 ln [16] [],o2 18 (bI .add) [15,17] [],o1 3 18 []]
def r7:List RO:=[o1 19 3 [],o2 20 (bI .lss) [19,.k (.int .i64 0)] []]
def r8:List RO:=[o2 21 (.p (.bad)) [] [],⟨none,none,false,.p .bad,[],[],[]⟩]
def r9:List RO:=[o2 22 (bI .add) [11,.k (.int .i64 1)] [],o1 11 22 []]
def EP (gid:Nat):List RO:=[o1 23 3 [],o2 24 .c [.f gid,.k (.bL),23] [],o1 6 24 []]
def FO:List RO:=[o1 25 0 [],o2 26 ln [25] [],o1 27 (.k (.int .i64 0)) []]
def E7:List RO:=[o2 28 (bI .lss) [27,26] []]
def Fa:List RO:=[o2 29 ix [25,27] [],o2 30 ld [29] [],o1 8 30 []]
def Ey:List RO:=[o1 31 6 [],o1 32 8 [],o2 33 (.l (.append 1)) [31,32] [],o1 6 33 []]
def G9:List RO:=[o2 34 (bI .add) [27,.k (.int .i64 1)] [],o1 27 34 []]
def r16:List RO:=[o1 35 6 [],o1 2 35 []]
section
variable {E:Env} {N:Nat->FuncId} {F:Frame} {H:bf} {α:Type} [bz α] {s:Sl (Sl α)} {i:Nat}
theorem el {u:Sl α} (h:s.l[i]? = some u):kj 1 (bZ s) (i:Int)=some (.fptr [bZ u]):=by
 have:=B_ (N:=λn=>n) s .i64 (i:Int) 1 rfl
 simp only[bn]at this;rw[this,show idx s (i:Int)=some u from by unfold idx;rw[if_pos (by omega)];exact h];rfl
theorem S6 (s:Sl α):o_ (bZ s)=some (.int .i64 s.l.length):=by
 have:=wU (N:=λn=>n) s;simpa only[bn]using this
theorem y3:(get F 0=bZ s->∃F',(∀call,cT E N call none r3 F H=some (F',H))/\get F' 9=bZ s/\get F' 10=.int .i64 s.l.length/\get F' 11=.int .i64 0/\∀j,j<9->get F' j=get F j) /\
 (get F 0=bZ s->∃F',(∀call,cT E N call none FO F H=some (F',H))/\get F' 25=bZ s/\get F' 26=.int .i64 s.l.length/\get F' 27=.int .i64 0/\∀j,j<9->get F' j=get F j):=by
 have h:=S6 s;refine⟨λf0=>⟨_,λcall=>vp (v:=bZ s) rfl ?_ <| vp (v:=.int .i64 s.l.length) rfl ?_ <| vp (v:=.int .i64 0) rfl ?_ eS,?_,?_,?_,?_⟩,λf0=>⟨_,λcall=>vp (v:=bZ s) rfl ?_ <| vp (v:=.int .i64 s.l.length) rfl ?_ <| vp (v:=.int .i64 0) rfl ?_ eS,?_,?_,?_,?_⟩⟩ <;>
 first
 | (simp[bK,bu,bn,f0];done)
 | (simp only[bK,List.map_cons,List.map_nil,bu,br,bq,Nat.reduceEqDiff,if_true,if_false,bn,ln,h];rfl)
 | (simp[bK,bu,bn,br];done)
 | (simp[br];done)
 | (intro j u;simp only[br,bq];repeat (rw[if_neg (by omega)]))
theorem y4 {n:Nat}:(get F 11=.int .i64 i->get F 10=.int .i64 n->∃F',(∀call,cT E N call none r4 F H=some (F',H))/\get F' 12=.bool (decide (i<n))/\∀j,j<12->get F' j=get F j) /\
 (get F 27=.int .i64 i->get F 26=.int .i64 n->∃F',(∀call,cT E N call none E7 F H=some (F',H))/\get F' 28=.bool (decide (i<n))/\∀j,j<28->get F' j=get F j):=by
 refine⟨λf u=>⟨_,λcall=>vp (v:=.bool (decide (i<n))) rfl ?_ eS,?_,?_⟩,λf u=>⟨_,λcall=>vp (v:=.bool (decide (i<n))) rfl ?_ eS,?_,?_⟩⟩ <;>
 first
 | (simp[bK,bu,bn,br,bI,iJ,o4,f,u];done)
 | (simp[br];done)
 | (intro j w;simp only[br,bq];repeat (rw[if_neg (by omega)]))
theorem y5 {u:Sl α} (h:s.l[i]? = some u):(get F 9=bZ s->get F 11=.int .i64 i->∃F',(∀call,cT E N call none r5 F H=some (F',H))/\get F' 5=bZ u/\∀j,j<12->j≠5->get F' j=get F j) /\
 (get F 25=bZ s->get F 27=.int .i64 i->∃F',(∀call,cT E N call none Fa F H=some (F',H))/\get F' 8=bZ u/\∀j,j<28->j≠8->get F' j=get F j):=by
 have e:=el h;have e2:eC H (.load 1 false) [.fptr [bZ u]]=some (bZ u):=by simp[eC,dJ,cut,mk]
 refine⟨λf w=>⟨_,λcall=>vp (v:=.fptr [bZ u]) rfl ?_ <| vp (v:=bZ u) rfl ?_ <| vp (v:=bZ u) rfl ?_ eS,?_,?_⟩,λf w=>⟨_,λcall=>vp (v:=.fptr [bZ u]) rfl ?_ <| vp (v:=bZ u) rfl ?_ <| vp (v:=bZ u) rfl ?_ eS,?_,?_⟩⟩ <;>
 first
 | (simp only[bK,List.map_cons,List.map_nil,bu,br,bq,Nat.reduceEqDiff,if_true,if_false,bn,ix,f,w,e,Option.map_some];done)
 | (simp only[bK,List.map_cons,List.map_nil,bu,br,bq,Nat.reduceEqDiff,if_true,if_false,ld];rw[e2];rfl)
 | (simp[bK,bu,bn,br];done)
 | (simp[br];done)
 | (intro j A z;simp only[br,bq];rw[if_neg (Ne.symm z)];repeat (rw[if_neg (by omega)]))
structure Acc (H:bf) (w:V) (acc:List (List V)):Prop where
 el:dG H 1 w=some acc
 gr:∃H1,gm H w=some H1/\H1.length=H.length
 sh:w=.bL/\acc=[]\/∃id xs,w=.hsl id 1 0 acc.length/\H[id]? = some (.row 1 xs)/\(acc≠[]->xs=acc)
def upto (s:Sl (Sl α)) (i:Nat):List α:=(s.l.take i).flatMap Sl.l
end
end catX
end Go.VE
namespace Go.VE
variable [bM]
def xo (op:Bool) (x y:Int):Int:=cond op x y
@[simp] theorem RB (x y:Int):xo true x y=x:=rfl
@[simp] theorem RL (x y:Int):xo false x y=y:=rfl
namespace setX
instance {n:Nat}:OfNat Arg n:=⟨.s n⟩
def fa (k:Nat):K:=.p (.fieldAddr k)
def ld:K:=.r (.load 1 false)
def r1:List RO:=[o2 4 (.a .box) [1] [],o2 5 (.a .box) [2] []]
def r2:List RO:=[o1 6 0 [],o2 7 (fa 0) [4] [],o2 8 ld [7] [],o2 9 (fa 1) [4] [],o2 10 ld [9] [],o2 11 (.p (.idxS 1)) [6,8] [],⟨none,none,false,.l (.store 1),[11,10],[],[]⟩]
def r3:List RO:=[o1 6 0 [],o2 7 (fa 0) [5] [],o2 8 ld [7] [],o2 9 (fa 1) [5] [],o2 10 ld [9] [],o2 11 (.p (.bin (some .int) none .sub)) [10,.k (.int .i64 1)] [],o2 12 (.p (.idxS 1)) [6,8] [],⟨none,none,false,.l (.store 1),[12,11],[],[]⟩]
def code (op:Bool):RC:=.seq (.ops r1) (.ops (if op then r3 else r2))
section
variable {E:Env} {N:Nat->FuncId} {H:bf} {id off L:Nat} {rs:List (List V)}
theorem N2 {h:Nat} {x y:V} {i:Nat} {v:V} (B:H[h]? = some (.row 2 [[x,y]])) (hv:[x,y][i]? = some v):eC H (.load 1 false) [.hptr h 0 i]=some v:=by
 match i,hv with
 | 0,hv=>cases hv;simp[eC,dJ,B,Ob.rows,cut,mk]
 | 1,hv=>cases hv;simp[eC,dJ,B,Ob.rows,cut,mk]
 | i+2,hv=>simp at hv
theorem whole (op:Bool) {a b c d:Int} (G:H[id]? = some (.row 1 rs)) (hp:0<=(xo op c a)) (B:(xo op c a).toNat<L) {z:V} (D:rs[off+(xo op c a).toNat]? = some [z]) :
 ∃F' X,Ex E N (code op) [.hsl id 1 off L,.agg [.int .i64 a,.int .i64 b],.agg [.int .i64 c,.int .i64 d]] H .norm F' ((H++X).set id (.row 1 (rs.set (off+(xo op c a).toNat) [.int .i64 (xo op (IntKind.wrap .i64 (d-1)) b)]))):=by
 let X:bf:=[.row 2 [[.int .i64 a,.int .i64 b]],.row 2 [[.int .i64 c,.int .i64 d]]]
 have C:=(ζe.1 G).1;have e1:∃F1,(∀call,cT E N call none r1 [.hsl id 1 off L,.agg [.int .i64 a,.int .i64 b],.agg [.int .i64 c,.int .i64 d]] H=some (F1,H++X))/\get F1 0=.hsl id 1 off L/\get F1 4=.hptr H.length 0 0/\get F1 5=.hptr (H.length+1) 0 0:=by
  refine⟨_,λcall=>jy (v:=.hptr H.length 0 0) (H1:=H++[.row 2 [[.int .i64 a,.int .i64 b]]]) rfl ?_ <| jy (v:=.hptr (H.length+1) 0 0) (H1:=H++X) rfl ?_ eS,?_,?_,?_⟩
  .simp[bK,bu,get,gV,V.cells,V.one,Mk.val]
  .simp[bK,bu,get,br,set,gV,V.cells,V.one,Mk.val,X]
  .simp[br];rfl
  .simp[br]
  .simp[br]
 obtain⟨F1,p1,p2,p3,p4⟩:=e1;have h1:(H++X)[id]? = some (.row 1 rs):=by rw[List.getElem?_append_left C];exact G
 have I:(H++X)[H.length]? = some (.row 2 [[.int .i64 a,.int .i64 b]]):=by simp[X]
 have J:(H++X)[H.length+1]? = some (.row 2 [[.int .i64 c,.int .i64 d]]):=by
  rw[List.getElem?_append_right (by omega)];simp[X]
 obtain⟨H1,O⟩:∃H1,H1=H++X:=⟨_,rfl⟩;rw[<-O]at h1 I J;rw[<-O]at p1
 suffices U:∃F',Ex E N (code op) [.hsl id 1 off L,.agg [.int .i64 a,.int .i64 b],.agg [.int .i64 c,.int .i64 d]] H .norm F' (H1.set id (.row 1 (rs.set (off+(xo op c a).toNat) [.int .i64 (xo op (IntKind.wrap .i64 (d-1)) b)])))by
  obtain⟨F',W⟩:=U;exact⟨F',X,by rw[<-O];exact W⟩
 have w:∀p:Int,0<=p->p.toNat<L->kj 1 (.hsl id 1 off L) p=some (.hptr id (off+p.toNat) 0):=λp h0 Y=>by
  unfold kj;rw[if_neg (by omega)];simp[Y]
 have A:∀(q:Nat) (z v:V),rs[q]? = some [z]->v.one=true->eX H1 (.store 1) [.hptr id q 0,v]=some (.undef,H1.set id (.row 1 (rs.set q [v]))):=λq z v D hv=>by
  simp[eX,h1,D,Dl hv,hv]
 cases op with
 | false=>
  simp only[RL]at hp B D ⊢;have Q:=N2 (i:=0) I rfl;have S:=N2 (i:=1) I rfl;have e2:∃u,(∀call,cT E N call none r2 F1 H1=some (u,H1.set id (.row 1 (rs.set (off+a.toNat) [.int .i64 b])))):=by
   refine⟨_,λcall=>vp (v:=.hsl id 1 off L) rfl ?_ <| vp (v:=.hptr H.length 0 0) rfl ?_ <| vp (v:=.int .i64 a) rfl ?_ <| vp (v:=.hptr H.length 0 1) rfl ?_ <| vp (v:=.int .i64 b) rfl ?_ <| vp (v:=.hptr id (off+a.toNat) 0) rfl ?_ <| jy (v:=.undef) rfl ?_ eS⟩
   .simp[bK,bu,bn,p2]
   .simp[bK,bu,bn,br,fa,f_,p3]
   .simp only[bK,List.map_cons,List.map_nil,bu,br,bq,Nat.reduceEqDiff,if_true,if_false,ld,Q,Option.map_some]
   .simp[bK,bu,bn,br,fa,f_,p3]
   .simp only[bK,List.map_cons,List.map_nil,bu,br,bq,Nat.reduceEqDiff,if_true,if_false,ld,S,Option.map_some]
   .simp only[bK,List.map_cons,List.map_nil,bu,br,bq,Nat.reduceEqDiff,if_true,if_false,bn,w a hp B,Option.map_some]
   .simp only[bK,List.map_cons,List.map_nil,bu,br,bq,Nat.reduceEqDiff,if_true,if_false];exact A _ z _ D rfl
  obtain⟨u,T⟩:=e2;exact⟨u,Ex.seq (Ex.ey p1) (Ex.ey (l:=_) T)⟩
 | true=>
  simp only[RB]at hp B D ⊢;have Q:=N2 (i:=0) J rfl;have S:=N2 (i:=1) J rfl;have e2:∃u,(∀call,cT E N call none r3 F1 H1=some (u,H1.set id (.row 1 (rs.set (off+c.toNat) [.int .i64 (IntKind.wrap .i64 (d-1))])))):=by
   refine⟨_,λcall=>vp (v:=.hsl id 1 off L) rfl ?_ <| vp (v:=.hptr (H.length+1) 0 0) rfl ?_ <| vp (v:=.int .i64 c) rfl ?_ <| vp (v:=.hptr (H.length+1) 0 1) rfl ?_ <| vp (v:=.int .i64 d) rfl ?_ <| vp (v:=.int .i64 (IntKind.wrap .i64 (d-1))) rfl ?_ <| vp (v:=.hptr id (off+c.toNat) 0) rfl ?_ <| jy (v:=.undef) rfl ?_ eS⟩
   .simp[bK,bu,bn,p2]
   .simp[bK,bu,bn,br,fa,f_,p4]
   .simp only[bK,List.map_cons,List.map_nil,bu,br,bq,Nat.reduceEqDiff,if_true,if_false,ld,Q,Option.map_some]
   .simp[bK,bu,bn,br,fa,f_,p4]
   .simp only[bK,List.map_cons,List.map_nil,bu,br,bq,Nat.reduceEqDiff,if_true,if_false,ld,S,Option.map_some]
   .simp[bK,bu,bn,br,iJ]
   .simp only[bK,List.map_cons,List.map_nil,bu,br,bq,Nat.reduceEqDiff,if_true,if_false,bn,w c hp B,Option.map_some]
   .simp only[bK,List.map_cons,List.map_nil,bu,br,bq,Nat.reduceEqDiff,if_true,if_false];exact A _ z _ D rfl
  obtain⟨u,T⟩:=e2;exact⟨u,Ex.seq (Ex.ey p1) (Ex.ey (l:=_) T)⟩
end
end setX
structure TG (S:Sys) {α δ:Type} [bz δ] (g:FuncId) (e:List V) (A:α->List V) (p:Sl δ->α->Option (Sl δ)):Prop where
 f:∃q,S.prm g=some q/\q.part=false/\S.E.keep g=true/\S.E.own g=false/\∀s z s',p s z=some s'->q.go (bz.size δ) (rows s.l) (A z++e)=some (rows s'.l)/\s'=s.re s'.l
section
variable {S:Sys} {c:bO} {β γ δ α:Type} [bz δ] {Q:Out×St->Option β} {e:γ->Option β} {cf:Cf}
end
end Go.VE
namespace Go.VE
variable [bM]
def snap (w:World):b9:=λb=>match w.heap[b]? with
 | some (.cells c _ _)=>some (.cells c)
 | some (.map es _)=>some (.map es)
 | _=>none
theorem M4 {w:World} (hg:rS (snap w)):cK (snap w) (λ_=>none) [] w where
 dom _ _:=rfl
 imm b x h:=by
  unfold snap at h;split at h
  .rename_i c el fr u;cases h;exact⟨el,fr,u⟩
  .rename_i es cl u;cases h;exact⟨cl,u⟩
  .cases h
 obs id ob h:=by simp at h
 inj id z ob A p B h:=by simp at h
 gl:=hg
def fF (I:b9) (xs:List V) (vs:List Value):Prop:=xs.length=vs.length/\∀(j:Nat) a b,xs[j]? = some a->vs[j]? = some b->dX I a b
theorem fF.nil {I:b9}:fF I [] []:=⟨rfl,by simp⟩
theorem fF.one {I:b9} {x:V} {v:Value} (h:dX I x v):fF I [x] [v]:=⟨rfl,λj a b h1 u=>by
 cases j with
 | zero=>simp at h1 u;subst h1 u;exact h
 | succ j=>simp at h1⟩
theorem fF.append {I:b9} {xs ys:List V} {B vs:List Value} (h:fF I xs B) (k:fF I ys vs):fF I (xs++ys) (B++vs):=by
 refine⟨by simp[h.1,k.1],λj a b h1 u=>?_⟩
 by_cases w:j<xs.length
 .rw[List.getElem?_append_left w]at h1;rw[List.getElem?_append_left (by rw[<-h.1];exact w)]at u
  exact h.2 j a b h1 u
 .rw[List.getElem?_append_right (by omega)]at h1
  rw[List.getElem?_append_right (by rw[<-h.1];omega),<-h.1]at u
  exact k.2 _ a b h1 u
theorem AK {α β:Type} {f:α->Option β}:∀{l:List α} {r:List β},l.mapM f=some r->r.length=l.length/\∀(i:Nat) a b,l[i]? = some a->r[i]? = some b->f a=some b
 | [],r,h=>by simp only[List.mapM_nil,Option.pure_def,ζa]at h;subst h;simp
 | x::l,r,h=>by
  simp only[List.mapM_cons,Option.bind_eq_bind,Option.pure_def,ζg,ζa]at h;obtain⟨y,D,ys,B,rfl⟩:=h;obtain⟨h1,z⟩:=AK B;refine⟨by simp[h1],λi a b u w=>?_⟩
  cases i with
  | zero=>simp at u w;subst u w;exact D
  | succ i=>exact z i a b (by simpa using u) (by simpa using w)
structure uq {H:Type} (b:DataW H->Nat):Prop where
 lit:∀l,1<=b (.lit l)
 str:∀s,s.length+1<=b (.lit (.string s))
 nil:1<=b .nil
 slice:∀es sp,(es.map b).sum+1<=b (.slice es sp)
 agg:∀ps,(ps.map b).sum+1<=b (.agg ps)
class cD (α:Type) where
 wt:α->Nat
 ok:α->Prop
instance:cD Int where
 wt _:=1
 ok n:=-9223372036854775808<=n/\n<=9223372036854775807
instance:cD Bool where
 wt _:=1
 ok _:=True
instance:cD ByteArray where
 wt s:=s.size+1
 ok s:=s.size<=maxLen
instance {α:Type} [cD α]:cD (Sl α) where
 wt s:=(s.l.map cD.wt).sum+1
 ok s:=(∀x∈s.l,cD.ok x)/\s≠.emp
class Reads (P:Program) (t:TypeId) (α:Type) [bz α] [cD α]:Prop where
 size:P.cellsOf t=bz.size α
 rd:∀{H:Type} {enc:TypeId×Value->H} {w:World} {base:Nat} {spare:Nat->Bool} {held:Bool} {fuel:Nat} {cs:List Value} {d:DataW H} {ps:List MemPlace},
  DataW.trod enc P w base spare held fuel t cs=some (d,ps)->∃a:α,fF (snap w) (cells a) cs/\cD.ok a/\∀b:DataW H->Nat,uq b->cD.wt a<=b d
 shape:∀{w:World} {r:_root_.Go.Reach} {base:Nat} {v:Value},Value.okWide P w r base t v->if bz.agg α then ∃cs,v=.agg cs else v.cells=#[v]
section
variable {P:Program}
theorem pE {w:World} {r:_root_.Go.Reach} {base:Nat} {t:TypeId} {v:Value} {u:_} (hu:P.underlying t=some u) (h1:∀fs,u≠.struct fs) (B:∀n e,u≠.array n e) (h:Value.okWide P w r base t v):v.cells=#[v]:=by
 cases v with
 | agg cs=>
  exfalso;unfold Value.okWide at h;rw[hu]at h;split at h
  .rename_i fs z;cases z;exact h1 _ rfl
  .rename_i n e z;cases z;exact B _ _ rfl
  .unfold Cell.okWide at h;rw[hu]at h;split at h <;> first|(simp at *;done)|skip
   unfold Cell.ok at h;rw[hu]at h;cases u <;> simp at h
 | _=>rfl
theorem Reads.int {t:TypeId} (hu:P.underlying t=some (.int .i64)) (hc:P.cellsOf t=1):Reads P t Int where
 size:=hc
 rd {H enc w base spare held z cs d C} h:=by
  cases z with
  | zero=>simp[DataW.trod]at h
  | succ z=>
   simp only[DataW.trod,hu]at h;split at h <;> first|(simp at h;done)|skip
   .rename_i u;cases u
   .rename_i k D n u;simp only[ζa,TypeDesc.int.injEq]at u;split at h
    .rename_i hk;obtain⟨rfl,A⟩:=hk;subst u;cases h;exact⟨n,fF.one (.int _ n),show _/\_ by simpa [Lit.wf,IntKind.min,IntKind.max,IntKind.signed,IntKind.bits]using A,λb B=>B.lit _⟩
    .simp at h
   all_goals (rename_i u;cases u)
 shape h:=by simp only[show bz.agg Int=false from rfl];exact pE hu (by simp) (by simp) h
theorem Reads.bool {t:TypeId} (hu:P.underlying t=some .bool) (hc:P.cellsOf t=1):Reads P t Bool where
 size:=hc
 rd {H enc w base spare held u cs d B} h:=by
  cases u with
  | zero=>simp[DataW.trod]at h
  | succ u=>
   simp only[DataW.trod,hu]at h;split at h <;> first|(simp at h;done)|skip
   .rename_i b _;cases h;exact⟨b,fF.one (.bool b),trivial,λb A=>A.lit _⟩
   all_goals (rename_i z;cases z)
 shape h:=by simp only[show bz.agg Bool=false from rfl];exact pE hu (by simp) (by simp) h
theorem Reads.str {t:TypeId} (hu:P.underlying t=some .string) (hc:P.cellsOf t=1):Reads P t ByteArray where
 size:=hc
 rd {H enc w base spare held u cs d C} h:=by
  cases u with
  | zero=>simp[DataW.trod]at h
  | succ u=>
   simp only[DataW.trod,hu]at h;split at h <;> first|(simp at h;done)|skip
   all_goals (first|(rename_i z;cases z;done)|skip)
   rename_i s _;split at h
   .rename_i A;cases h;exact⟨s,fF.one (.str s),A,λb B=>B.str _⟩
   .simp at h
 shape h:=by simp only[show bz.agg ByteArray=false from rfl];exact pE hu (by simp) (by simp) h
theorem MM {w:World} {a:Addr} {n:Nat} {v:Value} (h:w.cell? (a.add n)=some v) (B:n=0\/True):∃c el fr,w.heap[a.block]? = some (.cells c el fr)/\c[a.off+n]? = some v/\(n=0->a.spot=none):=by
 unfold World.cell? Addr.add at h
 by_cases h0:n=0
 .subst h0;simp only[if_true]at h;split at h
  .rename_i c el fr u;split at h
   .simp at h
   .rename_i z;exact⟨c,el,fr,u,h,λ_=>by simpa using z⟩
  .simp at h
 .simp only[if_neg h0]at h;split at h
  .rename_i c el fr u;simp only[Option.isSome_none,Bool.false_eq_true,if_false]at h;exact⟨c,el,fr,u,h,λe=>absurd e h0⟩
  .simp at h
theorem Reads.sl {t e:TypeId} {α:Type} [bz α] [cD α] [Reads P e α] (hu:P.underlying t=some (.slice e)) (hc:P.cellsOf t=1) (U:0<bz.size α):Reads P t (Sl α) where
 size:=hc
 rd {H enc w base spare held G cs d ps} h:=by
  cases G with
  | zero=>simp[DataW.trod]at h
  | succ G=>
   simp only[DataW.trod,hu]at h;split at h <;> first|(simp at h;done)|skip
   all_goals (first|(rename_i J;cases J;done)|skip)
   .cases h;exact⟨.nil,fF.one .bL,⟨λx W=>by simp[Sl.l]at W,by simp⟩,λb X=>X.nil⟩
   .rename_i e' a len cap J;cases J;split at h
    .rename_i Y;obtain⟨elems,af,h⟩:=ζg.1 h;obtain⟨rest,_,h⟩:=ζf.1 h;cases h;obtain⟨Z,aa⟩:=AK af;simp only[List.length_range]at Z;have ah:P.cellsOf e=bz.size α:=Reads.size (α:=α);have W:∀i,i<len->∃x:α,∃u:List Value,w.cells? base (a.add (i*P.cellsOf e)) (P.cellsOf e)=some u/\fF (snap w) (cells x) u/\cD.ok x/\∀b:DataW H->Nat,uq b->∀y,elems[i]? = some y->cD.wt x<=b y.1:=λi L=>by
      have:=aa i i (elems[i]'(by omega)) (by simp[L]) (ζd (by omega))
      obtain⟨u,h1,O⟩:=ζg.1 this;obtain⟨x,W,hk,X⟩:=Reads.rd (P:=P) (t:=e) (α:=α) (d:=(elems[i]'(by omega)).1) (ps:=(elems[i]'(by omega)).2) O
      exact⟨x,u,h1,W,hk,λb Q y hy=>by
       rw[ζd (by omega)]at hy;cases hy;exact X b Q⟩
     have ab:∀n,n<=len->∃z:List α,z.length=n/\(∀i x,z[i]? = some x->∃u:List Value,w.cells? base (a.add (i*P.cellsOf e)) (P.cellsOf e)=some u/\fF (snap w) (cells x) u)/\(∀x∈z,cD.ok x)/\∀b:DataW H->Nat,uq b->(z.map cD.wt).sum<=(((elems.take n).map (·.1)).map b).sum:=by
      intro n
      induction n with
      | zero=>intro _;exact⟨[],rfl,by simp,by simp,by simp⟩
      | succ n ih=>
       intro hn;obtain⟨z,h1,O,h5,h6⟩:=ih (by omega)
       obtain⟨x,u,h3,h4,h7,h8⟩:=W n (by omega)
       refine⟨z++[x],by simp[h1],λi y hy=>?_,λy hy=>?_,λb Q=>?_⟩
       rotate_left
       .rcases List.mem_append.1 hy with hy|hy
        .exact h5 y hy
        .simp at hy;subst hy;exact h7
       .have k1:=h6 b Q;have I:=h8 b Q _ (ζd (by omega))
        rw[List.take_succ,ζd (by omega:n<elems.length)]
        simp only[List.map_append,List.sum_append,Option.toList_some,List.map_cons,List.map_nil,List.sum_cons,List.sum_nil];omega
       by_cases L:i<z.length
       .rw[List.getElem?_append_left L]at hy;exact O i y hy
       .rw[List.getElem?_append_right (by omega)]at hy
        have:i-z.length=0:=by
         cases hk:i-z.length with
         | zero=>rfl
         | succ k=>rw[hk]at hy;simp at hy
        rw[this]at hy;simp at hy;subst hy;have:i=n:=by omega
        subst this;exact⟨u,h3,h4⟩
     obtain⟨z,B,ai,ad,aj⟩:=ab len (Nat.le_refl _);refine⟨.row z,fF.one ?_,⟨ad,by simp⟩,λb Q=>?_⟩
     rotate_left
     .have k:=aj b Q;rw[List.take_of_length_le (by omega)]at k
      have I:=Q.slice (elems.map (·.1)) (rest.map (·.1));show (z.map cD.wt).sum+1<=_;omega
     show dX _ (.fsl (bz.size α) (rows z)) _
     cases hl:z with
     | nil=>
      subst hl;simp at B;subst B;exact .fsl0 _ _ _
     | cons x0 xr=>
      rw[<-hl];have ap:0<len:=by rw[<-B,hl];simp
      have S:∀i x,z[i]? = some x->∀j y,(cells x)[j]? = some y->∃v,w.cell? ((a.add (i*bz.size α)).add j)=some v/\dX (snap w) y v:=by
       intro i x L j y hy;obtain⟨u,h1,O⟩:=ai i x L;rw[ah]at h1;unfold World.cells? at h1;split at h1
       .obtain⟨g1,g2⟩:=AK h1;have hj:j<bz.size α:=by rw[<-fG x];exact(ζe.1 hy).1
        obtain⟨v,hv⟩:∃v,u[j]? = some v:=⟨_,ζd (by rw[g1];simpa using hj)⟩
        exact⟨v,g2 j j v (by simp[hj]) hv,O.2 j y v hy hv⟩
       .simp at h1
      have ao:∀i j,(a.add (i*bz.size α)).add j=a.add (i*bz.size α+j)\/True:=λ_ _=>.inr trivial
      have A:∀i x,z[i]? = some x->∀j y,(cells x)[j]? = some y->∃c el fr v,w.heap[a.block]? = some (.cells c el fr)/\c[a.off+i*bz.size α+j]? = some v/\dX (snap w) y v/\(i=0->j=0->a.spot=none):=by
       intro i x L j y hy;obtain⟨v,h1,O⟩:=S i x L j y hy;obtain⟨c,el,fr,g1,g2,g3⟩:=MM h1 (.inr trivial);have X:(a.add (i*bz.size α)).block=a.block:=by unfold Addr.add;split <;> rfl
       have ho:(a.add (i*bz.size α)).off=a.off+i*bz.size α:=by unfold Addr.add;split <;> simp_all
       rw[X]at g1;rw[ho]at g2;refine⟨c,el,fr,v,g1,g2,O,?_⟩;rintro rfl rfl;have:=g3 rfl;simpa [Addr.add]using this
      have ak:∃y,(cells x0)[0]? = some y:=⟨_,ζd (by rw[fG];exact U)⟩
      obtain⟨y0,al⟩:=ak;obtain⟨c,el,fr,v0,C,_,_,D⟩:=A 0 x0 (by rw[hl];rfl) 0 y0 al
      have D:=D rfl rfl;obtain⟨b,o,sp⟩:=a;simp only at D C;subst D;have hI:snap w b=some (.cells c):=by unfold snap;rw[C]
      have T:(rows z).length=len:=by rw[jx,B]
      rw[<-T];refine .fsl _ _ b o cap c hI (by rw[T];exact Y.2.1) (λr hr=>?_) (λr hr y hy=>?_) ?_ (λi j r y v hr hy hv=>?_)
      .obtain⟨x,_,rfl⟩:=List.mem_map.1 hr;exact fG x
      .obtain⟨x,_,rfl⟩:=List.mem_map.1 hr;exact List.all_eq_true.1 (oC x) y hy
      .
       obtain⟨xl,ae⟩:∃x,z[len-1]? = some x:=⟨_,ζd (by omega)⟩
       obtain⟨yl,am⟩:∃y,(cells xl)[bz.size α-1]? = some y:=⟨_,ζd (by rw[fG];omega)⟩
       obtain⟨c2,_,_,v2,k1,I,_,_⟩:=A (len-1) xl ae (bz.size α-1) yl am;simp only at k1 I;rw[C]at k1;cases k1;have:=(Array.getElem?_eq_some_iff.1 I).1;rw[T];have e:len*bz.size α=(len-1)*bz.size α+bz.size α:=by
        obtain⟨m,rfl⟩:∃m,len=m+1:=⟨len-1,by omega⟩
        simp[Nat.add_mul]
       omega
      .simp only[rows,List.getElem?_map,ζf]at hr;obtain⟨x,an,rfl⟩:=hr;obtain⟨c2,_,_,v2,k1,I,k3,_⟩:=A i x an j y hy;simp only at k1 I;rw[C]at k1;cases k1;rw[hv]at I;cases I;exact k3
    .simp at h
 shape h:=by simp only[show bz.agg (Sl α)=false from rfl];exact pE hu (by simp) (by simp) h
theorem fF.seg {I:b9} {acc xs:List V} {cs:List Value} {o n:Nat} (h:fF I acc (cs.take o)) (k:fF I xs ((cs.drop o).take n)):fF I (acc++xs) (cs.take (o+n)):=by
 rw[List.take_add];exact h.append k
theorem fF.fin {I:b9} {xs:List V} {cs:List Value} {n:Nat} (h:fF I xs (cs.take n)) (B:cs.length=n):fF I xs cs:=by
 rw[List.take_of_length_le (by omega)]at h;exact h
theorem Reads.st {t:TypeId} {fs:Array Field} {α:Type} [bz α] [cD α] (hu:P.underlying t=some (.struct fs)) (hc:P.cellsOf t=bz.size α) (D:bz.agg α=true)
 (h:∀{H:Type} {enc:TypeId×Value->H} {w:World} {base:Nat} {spare:Nat->Bool} {held:Bool} {B:Nat} {cs:List Value} {l:List (DataW H×List MemPlace)},cs.length=bz.size α ->
  (fs.toList.mapM λf=>DataW.trod enc P w base spare held B f.type ((cs.drop f.offset).take (P.cellsOf f.type)))=some l->∃a:α,fF (snap w) (cells a) cs/\cD.ok a/\∀b:DataW H->Nat,uq b->cD.wt a<=((l.map (·.1)).map b).sum+1):Reads P t α where
 size:=hc
 rd {H enc w base spare held B cs d J} hr:=by
  cases B with
  | zero=>simp[DataW.trod]at hr
  | succ B=>
   simp only[DataW.trod,hu]at hr;split at hr <;> first|(simp at hr;done)|skip
   all_goals (first|(rename_i u;cases u;done)|skip)
   rename_i A;obtain⟨l,h1,C⟩:=ζf.1 hr;cases C;obtain⟨a,k1,G,I⟩:=h (by rw[A,hc]) h1
   exact⟨a,k1,G,λb z=>Nat.le_trans (I b z) (z.agg _)⟩
 shape hv:=by
  rw[if_pos D];unfold Value.okWide at hv;rw[hu]at hv;obtain⟨cs,h1,_⟩:=hv;exact⟨cs,h1⟩
theorem Reads.arg {t:TypeId} {α:Type} [bz α] [cD α] [Reads P t α] {H:Type} {B:TypeId×Value->H} {w:World} {base:Nat} {spare:Nat->Bool} {held:Bool} {r:_root_.Go.Reach} {b:Nat} {v:Value} {d:DataW H} {ps:List MemPlace}
 (hv:Value.okWide P w r b t v) (h:DataW.Trod B P w base spare held t v d ps):∃a:α,bB (snap w) (λ_=>none) (enc a) v/\cD.ok a/\∀b:DataW H->Nat,uq b->cD.wt a<=b d:=by
 obtain⟨G,h⟩:=h;obtain⟨a,⟨h1,z⟩,C,D⟩:=Reads.rd (P:=P) (t:=t) (α:=α) h;have u:=Reads.shape (P:=P) (t:=t) (α:=α) hv;refine⟨a,?_,C,D⟩
 cases A:bz.agg α with
 | true=>
  rw[A,if_pos rfl]at u;obtain⟨cs,rfl⟩:=u;rw[zl A];refine .c _ _ (.agg _ _ (by simpa [Value.cells]using h1) (λj x y I J=>z j x y I (by simpa [Value.cells]using J)))
 | false=>
  rw[A]at u;simp only[Bool.false_eq_true,if_false]at u;rw[u]at z;rw[uI A]at z;exact .c _ _ (z 0 _ _ rfl rfl)
end
end Go.VE
namespace Go.VE
variable [bM]
open Go.ChangeShapes Go.WideShapes Go.ChangeAt Go.RowKit
structure Et (w w':World):Prop where
 kept:w.keptBut w' (λ_=>False)
 fz:∀a:Addr,a.block<w.heap.size->w'.frozen? a=w.frozen? a
theorem Dz {I I':b9} {μ':Mu} {H':bf} {w w':World} (s:Step I (λ_=>none) [] w I' μ' H' w'):Et w w':=by
 have A:∀b,b<w.heap.size->w'.heap[b]? = w.heap[b]? := λb z=>s.frame b z (by rintro⟨id,p,ob,h,_⟩;simp at h)
 refine⟨⟨s.os,s.out.out,λi B=>?_⟩,λa z=>?_⟩
 .rw[A i B];split
  .rename_i h1 u;rw[h1]at u;cases u;exact⟨rfl,rfl,rfl,λ_ _=>rfl⟩
  .rename_i h1 u;rw[h1]at u;cases u;exact .inr ⟨rfl,rfl⟩
  .rfl
 .unfold World.frozen?;rw[A _ z]
theorem Eg {P:Program} {call:c_} (hc:jH P call) {f:FuncId} {args:List V} {b:Bool} {H':bf} (h:call (.fn f) args []=some (.bool b,H')) {w:World} {vs:List Value}
 (B:rS (snap w)) (hv:cA (snap w) (λ_=>none) args vs):Calls P f vs.toArray w λe w'=>e=.returned (.bool b)/\Et w w':=by
 intro cs;have k:=((hc.fn f args [] _ H' h).2 (snap w) (λ_=>none) w vs (M4 B) hv)
 obtain⟨e,w',fr,⟨u,I',μ',rfl,hu,_,C⟩,z,h1,D⟩:=k.2 cs (by simp[Fence.room,fr])
 refine⟨_,w',fr,⟨?_,Dz C⟩,z.comes,h1,D⟩
 cases hu with
 | c _ _ A=>cases A;rfl
variable {P:Program} {H:Type} {enc:TypeId×Value->H}
theorem DF {B:List TypeId} {vs:List Value} {ds:List (DataW H)} {ps:List MemPlace} {w w':World} (hg:Et w w') (h:DataW.TrodAll enc P w 0 (λ_=>true) true B vs ds ps):DataW.TrodAll enc P w' 0 (λ_=>true) true B vs ds ps:=by
 have z:∀p:MemPlace,p.block<w.heap.size->w.sameAt w' p:=by
  intro p A;have k:=hg.kept.2.2 p.block A
  cases p with
  | cell b off=>
   simp only[World.sameAt,World.cell?];simp only[MemPlace.block]at k A;split at k
   .rename_i c t fr c' D C h1 u;rw[h1,u];simp only;have:=k.2.2.2 off (λx=>x)
    simpa using this
   .rename_i h1 u;rw[h1,u]
   .rw[k]
  | map b=>
   simp only[World.sameAt];simp only[MemPlace.block]at k A;split at k
   .rename_i c t fr c' D C h1 u;obtain⟨rfl,rfl,L,G⟩:=k;rw[h1,u];have:c'=c:=Array.ext_getElem? λi=>G i (λx=>x)
    rw[this]
   .rename_i h1 u;rcases k with k|⟨rfl,rfl⟩
    .exact k.elim
    .rw[h1,u]
   .exact k
 induction B generalizing vs ds ps with
 | nil=>cases vs <;> cases ds <;> simp_all [DataW.TrodAll]
 | cons t B I=>
  cases vs with
  | nil=>simp[DataW.TrodAll]at h
  | cons v vs=>
   cases ds with
   | nil=>simp[DataW.TrodAll]at h
   | cons d ds=>
    obtain⟨p,q,⟨n,h1⟩,u,rfl⟩:=h;exact⟨p,q,⟨n,DataW.trod_carry n _ _ _ h1 λx J=>z x (DataW.trod_lt n _ _ _ h1 x J)⟩,I u,rfl⟩
theorem KS {T:TypeId->Prop} (K:Kids P T) (hz:∀t e,T t->P.underlying t=some (.slice e)->0<P.cellsOf e) {f:Func} {s:ChangeSpec} {apart fresh handsOn again:Bool} {W G:World} {args:Array Value} {ds gs:List (DataW H)} {before:List MemPlace} {tb:TypeId}
 (hT:∀t∈f.params.toList,T t) (B:s.vars=[]) (D:s.fn H (ds++gs)={ results:=[.lit (.bool true)],args:=ds }) (J:f.resultTypes=#[tb]) (U:P.underlying tb=some .bool)
 (Y:DataW.Whole enc P f.params.toList s.vars apart W args.toList ds gs before) (hg:Et W G):s.post enc P f apart fresh handsOn again W args (.bool true) G:=by
 have z:=Y;obtain⟨p,q,X,Q,rfl,I,L⟩:=Y;rw[B]at Q;obtain⟨rfl,rfl⟩:=trodVars_none Q;have hr:∀(b:Nat) (w:Nat->Bool) (hd:Bool),DataW.TrodAll enc P G b w hd f.resultTypes.toList ((Value.bool true).resultList f.resultTypes.size) (s.fn H (ds++[])).results []:=λ_ _ _=>by
  rw[J,D];exact trodAll_cons_mk (shut_bool U _) trodAll_mk0
 have S:∀w:Nat->Bool,(∀x∈p++[],w x.block=true)->DataW.TrodAll enc P G 0 w true f.params.toList args.toList (s.fn H (ds++[])).args p:=λw O=>by
  rw[D];exact DataW.TrodAll.respare K hz hT (DF hg X) (λx u=>O x (List.mem_append_left _ u))
 have hv:∀w:Nat->Bool,DataW.TrodVars enc P G w s.vars (s.fn H (ds++[])).vars []:=λw=>by rw[D,B];rfl
 have A:=λx u=>z.lt x u
 refine⟨ds,[],p++[],[],p,[],z,hr _ _ _,S _ λx u=>by simpa using A x u,hv _,World.keptBut_mono (λx u=>u.elim) hg.kept,λ_=>⟨ok_one J rfl (okWide_bool_mk U _),?_⟩⟩
 refine⟨_,_,[]++p++[],⟨[]++p,[],trodAll_append (S _ λ_ _=>rfl) (hr _ _ _),hv _,rfl,λb off u=>?_,λh=>by simpa using L h⟩,λx u _=>by simpa using u⟩
 have C:MemPlace.cell b off∈p++[]:=by simpa using u
 rw[hg.fz _ (A _ C)];exact I b off C
end Go.VE
namespace Go.VE
variable [bM]
instance:cD U8 where
 wt _:=1
 ok n:=0<=n.v/\n.v<=255
theorem Reads.u8 {P:Program} {t:TypeId} (hu:P.underlying t=some (.int .u8)) (hc:P.cellsOf t=1):Reads P t U8 where
 size:=hc
 rd {H enc w base spare held z cs d C} h:=by
  cases z with
  | zero=>simp[DataW.trod]at h
  | succ z=>
   simp only[DataW.trod,hu]at h;split at h <;> first|(simp at h;done)|skip
   .rename_i u;cases u
   .rename_i k D n u;simp only[ζa,TypeDesc.int.injEq]at u;split at h
    .rename_i hk;obtain⟨rfl,A⟩:=hk;subst u;cases h;exact⟨⟨n⟩,fF.one (.int _ n),show _/\_ by simpa [Lit.wf,IntKind.min,IntKind.max,IntKind.signed,IntKind.bits]using A,λb B=>B.lit _⟩
    .simp at h
   all_goals (rename_i u;cases u)
 shape h:=by simp only[show bz.agg U8=false from rfl];exact pE hu (by simp) (by simp) h
end Go.VE
namespace Go.VE
variable [bM]
theorem H6 {m:Tb bC} {n:Nat} {rs:List SV} {b:Bool} (h:cO m n rs=some [.bool b]):rs=[.v (.bool b)]:=by
 cases rs with
 | nil=>cases n <;> simp[cO]at h
 | cons x r=>
  have h1:shut m n x=some (.bool b)/\cO m n r=some []:=by
   unfold cO at h;split at h
   .rename_i y s h1 w;simp only[ζa,List.cons.injEq]at h;obtain⟨rfl,rfl⟩:=h;exact⟨h1,w⟩
   .cases h
  have w:r=[]:=by
   cases r with
   | nil=>rfl
   | cons y r=>
    have:=h1.2;unfold cO at this;split at this <;> simp at this
  subst w;have u:=h1.1
  cases x with
  | v y=>unfold shut at u;simp only[ζa]at u;rw[u]
  | own d=>unfold shut at u;split at u <;> simp only[ζa,reduceCtorEq]at u;rename_i k es A _;cases k <;> simp[mB]at u
  | ptr d o=>
   cases n with
   | zero=>simp[shut]at u
   | succ n=>
    unfold shut at u;split at u <;> try cases u
    split at u <;> try cases u
    split at u <;> cases u
  | mp d=>unfold shut at u;split at u <;> cases u
  | clo f a b=>
   cases n with
   | zero=>simp[shut]at u
   | succ n=>unfold shut at u;split at u <;> cases u
  | tup l=>
   cases n with
   | zero=>simp[shut]at u
   | succ n=>unfold shut at u;obtain⟨_,_,z⟩:=ζf.1 u;cases z
  | _=>cases n <;> simp[shut]at u
theorem Na {S:Sys} {T:oh} (B:th S T) (D:∀f a b xs,S.items f a b=some xs->eD S f a b xs) {f:FuncId} {xs:List V} (hg:V.cu xs=true) (h:iL (dx S T) f xs=some [.bool true]) :
 ∃n H',run S.E n (.fn f) xs []=some (.bool true,H'):=by
 unfold iL at h;obtain⟨⟨rs,m⟩,h1,u⟩:=ζg.1 h;have:=H6 u;simp only at this;subst this;exact OJ B D hg h1 rfl
theorem Ix {S:Sys} {T:oh} {P:Program} (B:th S T) (D:∀f a b xs,S.items f a b=some xs->eD S f a b xs) (hc:∀n,jH P (run S.E n)) {f:FuncId} {xs:List V} (hg:V.cu xs=true) (h:iL (dx S T) f xs=some [.bool true])
 {w:World} {args:Array Value} (G:rS (snap w)) (hv:cA (snap w) (λ_=>none) xs args.toList):Calls P f args w λe w'=>e=.returned (.bool true)/\Et w w':=by
 obtain⟨n,H',hr⟩:=Na B D hg h;have:=Eg (hc n) hr G hv;simpa using this
theorem Reads.NR {P:Program} {t:TypeId} {α:Type} [bz α] [cD α] [Reads P t α] {H:Type} {B:TypeId×Value->H} {w:World} {base b:Nat} {spare:Nat->Bool} {held:Bool} {v:Value} {d:DataW H} {ps:List MemPlace} {params:Array TypeId} {args:Array Value}
 (D:∀(j:Nat) t v,params[j]? = some t->args[j]? = some v->Value.okWide P w .any b t v) (j:Nat) (h1:params[j]? = some t) (G:args[j]? = some v) (h:DataW.Trod B P w base spare held t v d ps) :
 ∃a:α,bB (snap w) (λ_=>none) (enc a) v/\cD.ok a/\∀b:DataW H->Nat,uq b->cD.wt a<=b d:=Reads.arg (D j t v h1 G) h
end Go.VE
namespace Go.VE
theorem Mc {w:World} {g:Nat} {l:List Int} (h:∀i,i<l.length->w.cell? ⟨g,i,none⟩=some (.int .i64 (l.getD i 0))) (h0:0<l.length):dX (snap w) (.fptr (l.map (V.int .i64))) (.pointer (some ⟨g,0,none⟩)):=by
 have h1:=h 0 h0;unfold World.cell? at h1;split at h1
 .rename_i c t fr u;have C:snap w g=some (.cells c):=by unfold snap;simp only at u;rw[u]
  have hc:∀i,w.cell? ⟨g,i,none⟩=c[i]? := λi=>by unfold World.cell?;simp only at u ⊢;rw[u];rfl
  refine .fptr _ _ _ c C ?_ ?_
  .rw[Nat.zero_add,List.length_map];have:=h (l.length-1) (by omega)
   rw[hc]at this;have:=(Array.getElem?_eq_some_iff.1 this).1;omega
  .intro j y v A hv;rw[Nat.zero_add,<-hc]at hv;rw[List.getElem?_map]at A;obtain⟨z,B,rfl⟩:=ζf.1 A;have D:=(ζe.1 B).1;rw[h j D]at hv;cases hv;have:l.getD j 0=z:=by simp[List.getD,B]
   rw[this];exact .int _ _
 .cases h1
end Go.VE
namespace Go.VE
variable [bM]
theorem dP (n:Nat) (h:n<9223372036854775807):IntKind.wrap .i64 ((n:Int)+1)=((n+1:Nat):Int):=by
 simp[IntKind.wrap,IntKind.bits,IntKind.signed];omega
theorem rP (n:Int) (h1:-9223372036854775808<=n) (B:n<=9223372036854775807):IntKind.wrap .i64 n=n:=by
 simp[IntKind.wrap,IntKind.bits,IntKind.signed];omega
section
variable {α β:Type} {P:β->Prop}
theorem mo (s:Sl α) (i:Nat):idx s (i:Int)=s.l[i]? := by
 unfold idx;rw[if_pos (by omega)];rfl
theorem cr {s:Sl α} {i:Nat} (h:i<s.l.length):idx s (i:Int)=some s.l[i]:=by rw[mo,ζd h]
theorem QW {s:Sl α} {i:Int} (h0:0<=i):idx s i=s.l[i.toNat]? := by unfold idx;rw[if_pos h0]
theorem oa (s:Sl α) (i:Nat) (h:i<=s.l.length):∃x,ij s none (some (i:Int))=some x/\x.l=s.l.take i:=by
 unfold ij dM;simp only[Option.getD_none,Option.getD_some];rw[if_pos (by omega)]
 cases s <;> simp[Sl.l]at h ⊢ <;> simp[h]
theorem cg {γ:Type} {a b:γ}:bl true a b=a:=rfl
theorem dg {γ:Type} {a b:γ}:bl false a b=b:=rfl
theorem kY (a b:Bool):bl a (some b) (some false)=some (a&&b):=by cases a <;> rfl
theorem j7 (a b:Bool):bl a (some true) (some b)=some (a||b):=by cases a <;> rfl
theorem rq (a:Bool) (x y:β):bl a (some x) (some y)=some (if a then x else y):=by cases a <;> rfl
end
def place {α:Type} (f:α->Bool) (l:List α):Int:=match l.findIdx? f with
 | some i=>i
 | none=>-1
theorem yp {α:Type} {f:α->Bool} {l:List α} {i:Nat} (h:∀j,j<i->∀x,l[j]? = some x->f x=false) (B:l.length<=i):l.findIdx? f=none:=by
 rw[List.findIdx?_eq_none_iff];intro x w;obtain⟨j,u⟩:=List.getElem?_of_mem w;have:j<l.length:=(ζe.1 u).1;exact h j (by omega) x u
theorem GH {α:Type} {f:α->Bool} {l:List α} {i:Nat} {x:α} (h:∀j,j<i->∀x,l[j]? = some x->f x=false) (B:l[i]? = some x) (D:f x=true):l.findIdx? f=some i:=by
 rw[List.findIdx?_eq_some_iff_getElem];obtain⟨u,rfl⟩:=ζe.1 B;exact⟨u,D,λj w=>by rw[h j w _ (ζd (by omega))];simp⟩
theorem sj {α:Type} {step:Int->Option (Fw Int Unit Int)} {s:Sl α} {p:α->Option Bool} {f:α->Bool} (hp:∀x∈s.l,p x=some (f x)) (U:s.l.length<9223372036854775807)
 (J:∀i,step i=bl (decide (i<len s)) ((idx s i).bind λB=>(p B).bind λD=>bl D (some (.r i)) (some (.n (IntKind.wrap .i64 (i+1))))) (some (.x ()))) :
 (bX step 0).bind (Fw.elim (λ_=>some (-1)) (λe=>some e))=some (place f s.l):=by
 refine Wp.eq (eO (λi:Int=>∃n:Nat,i=n/\n<=s.l.length/\∀j,j<n->∀x,s.l[j]? = some x->f x=false) (λi:Int=>s.l.length-i.toNat) ⟨0,rfl,Nat.zero_le _,λj G=>absurd G (by omega)⟩ ?_)
 rintro i ⟨n,rfl,I,w⟩;rw[J,cm];refine⟨λh=>?_,λh=>?_⟩
 .have u:n<s.l.length:=by simpa [len]using h
  rw[cr u,ζb,hp _ (List.getElem_mem u),ζb,cm];refine⟨λz=>?_,λz=>?_⟩
  .rw[bh];show Wp (some (n:Int)) _;rw[bh];unfold place;rw[GH w (ζd u) z]
  .rw[bh];refine⟨⟨n+1,dP n (by omega),by omega,λj G x A=>?_⟩,?_⟩
   .by_cases e:j=n
    .subst e;rw[ζd u]at A;cases A;exact z
    .exact w j (by omega) x A
   .rw[dP n (by omega)];simp;omega
 .have C:s.l.length<=n:=by simpa [len]using h
  rw[bh];show Wp (some (-1:Int)) _;rw[bh];unfold place;rw[yp w C]
theorem sC {α:Type} (f:α->Bool) (l:List α):decide (place f l>=0)=l.any f:=by
 unfold place
 cases h:l.findIdx? f with
 | none=>
  rw[List.findIdx?_eq_none_iff]at h;have:l.any f=false:=by rw[List.any_eq_false];intro x u;simp[h x u]
  rw[this];rfl
 | some i=>
  obtain⟨w,z,_⟩:=List.findIdx?_eq_some_iff_getElem.1 h;have:l.any f=true:=List.any_eq_true.2 ⟨_,List.getElem_mem w,z⟩;rw[this];simp
theorem Nd {α σ ε ρ:Type} {step:α->σ->Option (Fw σ ε ρ)} {l:List α} (I:Nat->σ->Prop) (D:ε->Prop) (G:ρ->Prop) {s:σ} (h0:I 0 s)
 (h:∀i a s,l[i]? = some a->I i s->Wp (step a s) λw=>match w with|.n B=>I (i+1) B|.x e=>D e|.r b=>G b) :
 Wp (jO step l s) λw=>match w with|.n B=>I l.length B|.x e=>D e|.r b=>G b:=by
 have key:∀(r:List α) (i:Nat) (s:σ),l.drop i=r->i<=l.length->I i s->Wp (jO step r s) λw=>match w with|.n B=>I l.length B|.x e=>D e|.r b=>G b:=by
  intro r
  induction r with
  | nil=>
   intro i s hd C z;have:i=l.length:=by have:=List.drop_eq_nil_iff.1 hd;omega
   subst this;exact⟨_,rfl,z⟩
  | cons a r J=>
   intro i s hd C z;have u:i<l.length:=by
    apply Classical.byContradiction;intro Q;rw[List.drop_eq_nil_of_le (by omega)]at hd;cases hd
   have L:=List.drop_eq_getElem_cons u;rw[L]at hd;simp only[List.cons.injEq]at hd;obtain⟨w,O,A⟩:=h i a s (by rw[ζd u,hd.1]) z
   simp only[jO,O,ζb]
   cases w with
   | n B=>exact J (i+1) B hd.2 (by omega) A
   | x e=>exact⟨_,rfl,A⟩
   | r b=>exact⟨_,rfl,A⟩
 exact key l 0 s rfl (Nat.zero_le _) h0
theorem vR {α σ ε ρ γ:Type} {step:α->σ->Option (Fw σ ε ρ)} {l:List α} {fn:σ->Option γ} {B:ε->Option γ} {fr:ρ->Option γ} {P:γ->Prop} (I:Nat->σ->Prop) {s:σ} (h0:I 0 s)
 (h:∀i a s,l[i]? = some a->I i s->Wp (step a s) λw=>match w with|.n D=>I (i+1) D|.x e=>Wp (B e) P|.r b=>Wp (fr b) P)
 (G:∀s,I l.length s->Wp (fn s) P):Wp ((jO step l s).bind (Fw.pR fn B fr)) P:=by
 rw[gW];refine(Nd I _ _ h0 h).mono ?_;intro w u
 cases w with
 | n s=>exact G s u
 | x e=>exact u
 | r b=>exact u
end Go.VE
