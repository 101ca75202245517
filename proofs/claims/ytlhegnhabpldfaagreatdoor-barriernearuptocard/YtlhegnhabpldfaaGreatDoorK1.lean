/-
 Certificates; functions by hand; readings; plain laws.
-/
import Derived.JoinedCond
import Derived.ReadAgain
import Derived.WalkKit
import Derived.ProofKit
import Derived.OpenShut
import Derived.ChangeSame
import Derived.RowKit3
import Derived.Lib.LaidTab
import Derived.Test.YtlhegnhabpldfaaGreatDoorV2
import Derived.Test.YtlhegnhabpldfaaGreatDoorN2
import Derived.Test.YtlhegnhabpldfaaGreatDoorS1
set_option linter.all false
namespace Go.VE
variable [bV]
abbrev Cf:=Fo×List Fm×St
section
variable (S:Sys) (c:ck) {β:Type} (Q:Out×St->Option β)
noncomputable abbrev ct (cf:Cf):Option β:=rn S c Q cf.1 cf.2.1 cf.2.2
noncomputable def jv (n:Nat) (cf:Cf):Cf:=(gQ S c n cf.1 cf.2.1 cf.2.2).getD cf
structure ED where
 dr:Bool
 fr:List Nat
 d:Option Nat
 gd:Option (Nat×Bool)
 now:Bool
 k:K
 az:List Arg
 dd:List Nat
 l:List RO
 fs:List Fm
 st:St
noncomputable def gq (n:Nat) (cf:Cf):Option ED:=match gQ S c n cf.1 cf.2.1 cf.2.2 with
 | some (.ops dr fr (⟨d,gd,now,k,az,dd,[]⟩::l),fs,st)=>match wanted st.g gd with
  | some true=>some ⟨dr,fr,d,gd,now,k,az,dd,l,fs,st⟩
  | _=>none
 | _=>none
noncomputable def nx (n:Nat) (cf:Cf) (φ:ED->St):Cf:=match gq S c n cf with
 | some p=>(.ops p.dr (if p.dr then(match p.k with|.p _|.r _=>p.fr|_=>match p.d with|some d=>d::p.fr|none=>p.fr)else p.fr) p.l,p.fs,oL p.dd (φ p))
 | none=>cf
end
def uh (s:Nat) (b:Bool) (cf:Cf):Cf:=(cf.1,cf.2.1,{ cf.2.2 with g:=bM cf.2.2.g s (.v (.bool b)) })
def jmp (k:Nat) (fr:List Nat) (cf:Cf) (st:St):Cf:=match cf with
 | (.ops dr _ l,fs,_)=>(.ops dr fr (l.drop k),fs,st)
 | _=>(.rt,[],st)
def uf:RC->List Nat->List Fm->St->Cf
 | c,[],fs,st=>(.rc c,fs,st)
 | .seq a b,i::p,fs,st=>if i=0 then uf a p (.seq b::fs) st else uf b p fs st
 | .cond _ a b,i::p,fs,st=>if i=0 then uf a p fs st else uf b p fs st
 | .block id c,_::p,fs,st=>uf c p (.blk id::fs) st
 | .gh _ c,_::p,fs,st=>uf c p fs st
 | .hg c g,_::p,fs,st=>uf c p (.gst g::fs) st
 | .loop c,_::p,_,st=>uf c p [] st
 | .each _ _ _ b,_::p,_,st=>uf b p [] st
 | c,_,fs,st=>(.rc c,fs,st)
section
variable {S:Sys} {c:ck} {β γ δ α:Type} {Q:Out×St->Option β} {e:γ->Option β} {cf:Cf}
theorem h_ {n:Nat} {p:ED} (h:gq S c n cf=some p):gQ S c n cf.1 cf.2.1 cf.2.2=some (.ops p.dr p.fr (⟨p.d,p.gd,p.now,p.k,p.az,p.dd,[]⟩::p.l),p.fs,p.st)/\wanted p.st.g p.gd=some true:=by
 unfold gq at h
 grind
theorem uy {n:Nat} {m:Option δ} {φ:δ->ED->St} {f:δ->Option γ} {p:ED} (B:gq S c n cf=some p) (D:Le (m.bind λx=>some (φ x p)) (fK S c p.dr p.fr ⟨p.d,none,p.now,p.k,p.az,[],[]⟩ p.st))
 (h:∀x,m=some x->Le ((f x).bind e) (ct S c Q (nx S c n cf (φ x)))):Le ((m.bind f).bind e) (ct S c Q cf):=by
 obtain⟨h1,u⟩:=h_ B;refine BG h1 rfl u D λx w=>?_
 have:=h x w;simp[nx,B]at this;omega
theorem sG {n:Nat} {m:Option β} {φ:ED->St} {p:ED} (B:gq S c n cf=some p) (D:fK S c p.dr p.fr ⟨p.d,none,p.now,p.k,p.az,[],[]⟩ p.st=some (φ p))
 (h:Le m (ct S c Q (nx S c n cf φ))):Le m (ct S c Q cf):=by
 obtain⟨h1,u⟩:=h_ B;refine qe h1 rfl u D ?_;simp[nx,B]at h;omega
theorem eY {α β:Type} {o:Option α} {f:α->β} {b:β} (h:o.map f=some b):∃a,o=some a/\f a=b:=ζf.1 h
theorem DO (n:Nat) {m:Option β} {B:Cf} (h:Le m (ct S c Q B)) (D:gQ S c n cf.1 cf.2.1 cf.2.2=some B:=by kernel_rfl):Le m (ct S c Q cf):=Dg D h
theorem bD (n s:Nat) {t:Bool} {x y:Option γ} (B:Le (x.bind e) (ct S c Q (uh s true (jv S c n cf)))) (D:Le (y.bind e) (ct S c Q (uh s false (jv S c n cf))))
 (G:(gQ S c n cf.1 cf.2.1 cf.2.2).map (λp=>bh p.2.2.g s)=some (some (.v (.bool t))):=by kernel_rfl):Le ((br t x y).bind e) (ct S c Q cf):=by
 obtain⟨p,u,hv⟩:=eY G;have hg:jv S c n cf=p:=by unfold jv;grind
 rw[hg]at B D;refine Dg u ?_;cases t
 .have:uh s false p=p:=by unfold uh;rw[qX hv]
  rw[this]at D;exact D
 have:uh s true p=p:=by unfold uh;rw[qX hv]
 rw[this]at B;exact B
theorem eC (n s:Nat) {t:Bool} {x y:Option γ} (B:Le (x.bind e) (ct S c Q (uh s false (jv S c n cf)))) (D:Le (y.bind e) (ct S c Q (uh s true (jv S c n cf))))
 (G:(gQ S c n cf.1 cf.2.1 cf.2.2).map (λp=>bh p.2.2.g s)=some (some (.v (.bool (!t)))):=by kernel_rfl):Le ((br t x y).bind e) (ct S c Q cf):=by
 obtain⟨p,u,hv⟩:=eY G;have hg:jv S c n cf=p:=by unfold jv;grind
 rw[hg]at B D;refine Dg u ?_;cases t
 .have:uh s true p=p:=by unfold uh;rw[show V.bool true=V.bool (!false)from rfl,qX hv]
  rw[this]at D;exact D
 have:uh s false p=p:=by unfold uh;rw[show V.bool false=V.bool (!true)from rfl,qX hv]
 rw[this]at B;exact B
theorem Ca (n k:Nat) (fr:List Nat) (st:δ->St) {m:Option δ} {f:δ->Option γ} (B:Le (m.bind λr=>ct S c Q (jmp k fr (jv S c n cf) (st r))) (ct S c Q cf))
 (h1:∀r,Le ((f r).bind e) (ct S c Q (jmp k fr (jv S c n cf) (st r)))):Le ((m.bind f).bind e) (ct S c Q cf):=PS _ B h1
theorem bH (n:Nat) {r:δ} {k:δ->Cf} (B:gQ S c n cf.1 cf.2.1 cf.2.2=some (k r):=by kernel_rfl):Le ((some r).bind λr=>ct S c Q (k r)) (ct S c Q cf):=Wc  B rfl
theorem bg {r:γ} {L:Option β} (h:L=e r:=by kernel_rfl):Le ((some r).bind e) L:=Le.of_eq h
theorem CT (n:Nat) {b:RC} {m:Option (Out×Tb bG)} (h:Le m (ct S c vt (.rc b,[],(jv S c n cf).2.2))) (B:gQ S c n cf.1 cf.2.1 cf.2.2=some (.nx,[],(jv S c n cf).2.2):=by kernel_rfl):Le m (ct S c (xP S c b) cf):=Ut B h
theorem Dj (n:Nat) {o:Option α} (A:Option α->St) {f:α->Option γ} (B:∀x,o=some x->Le ((f x).bind e) (ct S c Q ((jv S c n cf).1,(jv S c n cf).2.1,A (some x))))
 (D:gQ S c n cf.1 cf.2.1 cf.2.2=some ((jv S c n cf).1,(jv S c n cf).2.1,A o):=by kernel_rfl):Le ((o.bind f).bind e) (ct S c Q cf):=U6 D B
theorem kB.NN {S:Sys} {T:pI} [bB δ] {f:FuncId} {A:α->List V} {p:α->Option δ} (B:T f=none) (hk:S.E.keep f=false) (D:∀z r,p z=some r->S.yB f (A z)=some (enc r))
 : kB S (c_ S T) f A (λr=>[enc r]) p false where
 k:=hk
 h z:=by
  intro y u;obtain⟨r,h1,w⟩:=ζg.1 u;cases w;have h:=DW B hk (D z r h1);unfold mV;rw[h];exact tR 8 [enc r]
 s h:=by cases h
def O8:K->Option BinOp
 | .p (.bin (some .slice) _ o)=>some o
 | _=>none
theorem QU {k:K} {o:BinOp} (h:O8 k=some o):∃u,k=.p (.bin (some .slice) u o):=by
 unfold O8 at h
 grind
def Tl:K->Option (Nat×Nat×List Nat)
 | .a (.buildSl sz ln _ ix)=>some (sz,ln,ix)
 | _=>none
theorem Tw {k:K} {r:Nat×Nat×List Nat} (h:Tl k=some r):∃z,k=.a (.buildSl r.1 r.2.1 z r.2.2):=by
 unfold Tl at h
 grind
def QA:K->Option (List V)
 | .a (.alloc _ zero)=>some zero
 | _=>none
theorem M7 {k:K} {z:List V} (h:QA k=some z):∃n,k=.a (.alloc n z):=by
 unfold QA at h
 grind
section
variable [bB α]
theorem UO (k:IntKind) (n:Nat) {s:Sl α} {i:Int} {f:α->Option γ} (h:∀x,idx s i=some x->Le ((f x).bind e) (ct S c Q (nx S c n cf λp=>dg p.st p.d (cp x))))
 (B:(gq S c n cf).map (λp=>(p.k,bY S.N p.st.g p.az))=some (.p (.idxS (bB.size α)),some [.v (b8 s),.v (.int k i)]):=by kernel_rfl):Le (((idx s i).bind f).bind e) (ct S c Q cf):=by
 obtain⟨p,u,hv⟩:=eY B;simp  at hv;refine uy u ?_ h;rw[hv.1];exact Le.of_eq (Qu hv.2 rfl)
theorem b9 (n:Nat) {s:Sl α} {i:Int} {f:α->Option γ} (h:∀x,idx s i=some x->Le ((f x).bind e) (ct S c Q (nx S c n cf λp=>dg p.st p.d (cp x))))
 (B:(gq S c n cf).map (λp=>(p.k,bY S.N p.st.g p.az))=some (.p (.idxS (bB.size α)),some [.v (b8 s),.v (.int .i64 i)]):=by kernel_rfl):Le (((idx s i).bind f).bind e) (ct S c Q cf):=UO .i64 n h B
theorem nF (k:IntKind) (n u:Nat) {s:Sl α} {i:Int} {f:Nat->Option γ} (h:∀x,s.mj i=some x->Le ((f x).bind e) (ct S c Q (nx S c n cf λp=>dg p.st p.d (.el u x 0))))
 (B:(gq S c n cf).map (λp=>(p.k,bY S.N p.st.g p.az,bh p.st.m u))=some (.p (.idxS (bB.size α)),some [.own u,.v (.int k i)],some (cF s)):=by kernel_rfl):Le (((s.mj i).bind f).bind e) (ct S c Q cf):=by
 obtain⟨p,w,hv⟩:=eY B;simp  at hv;refine uy w ?_ h;rw[hv.1];exact Le.of_eq (UQ hv.2.1 hv.2.2 rfl)
theorem vl (n u o sz:Nat) (a:Bool) (v:α->V) {s:Sl α} {i:Nat} {f:α->Option γ} (h:∀x,s.get i=some x->Le ((f x).bind e) (ct S c Q (nx S c n cf λp=>dg p.st p.d (.v (v x)))))
 (B:(gq S c n cf).map (λp=>(p.k,bY S.N p.st.g p.az,bh p.st.m u,(!p.dr||p.now||eM p.fr [.el u i o])))=some (.r (.load sz a),some [.el u i o],some (cF s),true):=by kernel_rfl) (hv:∀x:α,(cut (cells x) o sz).bind (mk a)=some (v x):=by intro _;rfl):Le (((s.get i).bind f).bind e) (ct S c Q cf):=by
 obtain⟨p,z,w⟩:=eY B;simp only[ζc]at w;refine uy z ?_ h;rw[w.1];exact Le.of_eq (Tu w.2.1 w.2.2.2 w.2.2.1 hv)
theorem ym (n u:Nat) (x:V) {s:Sl α} {i:Nat} {a:α} {f:Sl α->Option γ} (h:∀B,s.put i a=some B->Le ((f B).bind e) (ct S c Q (nx S c n cf λp=>dg { p.st with m:=bM p.st.m u (cF B) } p.d (.v .undef))))
 (D:(gq S c n cf).map (λp=>(p.k,bY S.N p.st.g p.az,bh p.st.m u,(!p.dr||p.now),x.cells))=some (.l (.store (bB.size α)),some [.el u i 0,.v x],some (cF s),true,cells a):=by kernel_rfl):Le (((s.put i a).bind f).bind e) (ct S c Q cf):=by
 obtain⟨p,w,hv⟩:=eY D;simp only[ζc]at hv;refine uy w ?_ h;rw[hv.1];exact Le.of_eq (Sz hv.2.1 hv.2.2.2.1 hv.2.2.1 hv.2.2.2.2 rfl)
theorem I4 (n u:Nat) {i:Int} {z:α} {f:Sl α->Option γ} (h:∀B,mP i z=some B->Le ((f B).bind e) (ct S c Q (nx S c n cf λp=>{ p.st with g:=bM p.st.g u (.own u),m:=bM p.st.m u (cF B) })))
 (D:(gq S c n cf).map (λp=>(p.d,p.k,bY S.N p.st.g p.az,p.st.new u))=some (some u,.a (.makeSl (bB.size α) (cells z)),some [.v (.int .i64 i),.v (.int .i64 i)],true):=by kernel_rfl):Le (((mP i z).bind f).bind e) (ct S c Q cf):=by
 obtain⟨p,w,hv⟩:=eY D;simp  at hv;refine uy w ?_ h;rw[hv.1,hv.2.1];exact Le.of_eq (TM hv.2.2.1 rfl rfl hv.2.2.2)
theorem V7 (n u:Nat) {i:Int} {z:α} {zero:List V} {f:Sl α->Option γ} (h:∀B,uc i z=some B->Le ((f B).bind e) (ct S c Q (nx S c n cf λp=>{ p.st with g:=bM p.st.g u (.own u),m:=bM p.st.m u (cF B) })))
 (D:(gq S c n cf).map (λp=>(p.d,p.k,bY S.N p.st.g p.az,p.st.new u))=some (some u,.a (.makeSl (bB.size α) (cells z)),some [.v (.int .i64 0),.v (.int .i64 i)],true):=by kernel_rfl):Le (((uc i z).bind f).bind e) (ct S c Q cf):=by
 obtain⟨p,w,hv⟩:=eY D;simp  at hv;obtain⟨h1,I⟩:=h_ w;obtain⟨dr,fr,d,gd,now,k,az,dd,l,fs,st⟩:=p;obtain⟨rfl,rfl,J,C⟩:=hv;exact Wt n dr fr (⟨some u,gd,now,.a (.makeSl (bB.size α) (cells z)),az,dd,[]⟩::l) fs st  rfl C Zd λB G=>by
  have:=h B G;simp[nx,w]at this;simp_all
theorem mm (n o w u:Nat) {s:Sl α} {x:α} {f:Sl α->Option γ} (h:∀B,gw s x=some B->Le ((f B).bind e) (ct S c Q (nx S c n cf λp=>{ p.st with g:=bM p.st.g u (.own u),m:=bM (eo o p.st.m) u (cF B) })))
 (D:(gq S c n cf).map (λp=>(p.d,p.k,bY S.N p.st.g p.az,(!p.dr||p.now),bh p.st.m o,bh p.st.m w,St.new { p.st with m:=eo o p.st.m } u))=some (some u,.l (.append (bB.size α)),some [.own o,.own w],true,some (cF s),some (cF (.row [x])),true):=by kernel_rfl):Le (((gw s x).bind f).bind e) (ct S c Q cf):=by
 obtain⟨p,z,hv⟩:=eY D;simp only[ζc]at hv;refine uy z ?_ h;rw[hv.1,hv.2.1];exact Le.of_eq (Vw hv.2.2.1 hv.2.2.2.1 hv.2.2.2.2.1 hv.2.2.2.2.2.1 rfl hv.2.2.2.2.2.2)
theorem QL (n w u:Nat) (v:V) (x:α) {m:Option β} (h:Le m (ct S c Q (nx S c n cf λp=>{ p.st with g:=bM p.st.g u (.own u),m:=bM p.st.m u (cF (.row [x])) }))) (hv:v=.bK\/v=.dD:=by first|exact .inl rfl|exact .inr rfl)
 (B:(gq S c n cf).map (λp=>(p.d,p.k,bY S.N p.st.g p.az,(!p.dr||p.now),bh p.st.m w,p.st.new u))=some (some u,.l (.append (bB.size α)),some [.v v,.own w],true,some (cF (.row [x])),true):=by kernel_rfl):Le m (ct S c Q cf):=by
 obtain⟨p,C,z⟩:=eY B;simp only[ζc]at z;refine sG C ?_ h;rw[z.1,z.2.1];exact Tp hv z.2.2.1 z.2.2.2.1 z.2.2.2.2.1 rfl z.2.2.2.2.2
theorem bU (n:Nat) (s:Sl α) {m:Option β} (h:Le m (ct S c Q (nx S c n cf λp=>dg p.st p.d (.v (.int .i64 s.l.length)))))
 (B:(gq S c n cf).map (λp=>(p.k,bY S.N p.st.g p.az))=some (.p .lenSl,some [.v (b8 s)]):=by kernel_rfl):Le m (ct S c Q cf):=by
 obtain⟨p,u,hv⟩:=eY B;simp  at hv;refine sG u ?_ h;rw[hv.1];exact Qo hv.2
theorem Ck (n u:Nat) (s:Sl α) {m:Option β} (h:Le m (ct S c Q (nx S c n cf λp=>dg p.st p.d (.v (.int .i64 s.l.length)))))
 (B:(gq S c n cf).map (λp=>(p.k,bY S.N p.st.g p.az,bh p.st.m u))=some (.p .lenSl,some [.own u],some (cF s)):=by kernel_rfl):Le m (ct S c Q cf):=by
 obtain⟨p,w,hv⟩:=eY B;simp  at hv;refine sG w ?_ h;rw[hv.1];exact S_ hv.2.1 hv.2.2
theorem Ul (n:Nat) {s:Sl α} {f:Bool->Option γ} (h:∀t,s.isNil=some t->Le ((f t).bind e) (ct S c Q (nx S c n cf λp=>dg p.st p.d (.v (.bool t)))))
 (B:(gq S c n cf).map (λp=>(O8 p.k,bY S.N p.st.g p.az))=some (some .eql,some [.v (b8 s),.v .bK]):=by kernel_rfl):Le ((s.isNil.bind f).bind e) (ct S c Q cf):=by
 obtain⟨p,w,hv⟩:=eY B;simp  at hv;obtain⟨u,hk⟩:=QU hv.1;refine uy w ?_ h;rw[hk];exact Le.of_eq (Q2 hv.2)
theorem BN (n:Nat) (B D:Bool) (G:List V) {s:Sl α} {a b:Option Int} {f:Sl α->Option γ} (h:∀x,fS s a b=some x->Le ((f x).bind e) (ct S c Q (nx S c n cf λp=>dg p.st p.d (.v (b8 x)))))
 (J:(gq S c n cf).map (λp=>(p.k,bY S.N p.st.g p.az,lB B D G))=some (.p (.slice (bB.size α) B D),some (.v (b8 s)::G.map .v),some (a,b)):=by kernel_rfl):Le (((fS s a b).bind f).bind e) (ct S c Q cf):=by
 obtain⟨p,u,hv⟩:=eY J;simp  at hv;obtain⟨h1,C⟩:=h_ u;obtain⟨dr,fr,d,gd,now,k,az,dd,l,fs,st⟩:=p;obtain⟨rfl,I,L⟩:=hv;exact V9 n dr fr (⟨d,gd,now,.p (.slice (bB.size α) B D),az,dd,[]⟩::l) fs st B D G  rfl Zd λw z=>by
  have:=h w z;simp only[nx,u]at this;omega
theorem VC (n:Nat) (B D:Bool) (u t:Nat) (G:List V) {s:Sl α} {a b:Option Int} {f:Sl α->Option γ} (h:∀x,oh s a b=some x->Le ((f x).bind e) (ct S c Q (nx S c n cf λp=>{ p.st with g:=bM p.st.g t (.own t),m:=bM (eo u p.st.m) t (cF x) })))
 (J:(gq S c n cf).map (λp=>(p.d,p.k,p.dr,bY S.N p.st.g p.az,lB B D G,bh p.st.m u,St.new { p.st with m:=eo u p.st.m } t))=some (some t,.p (.slice (bB.size α) B D),false,some (.own u::G.map .v),some (a,b),some (cF s),true):=by kernel_rfl):Le (((oh s a b).bind f).bind e) (ct S c Q cf):=by
 obtain⟨p,w,hv⟩:=eY J;simp  at hv;obtain⟨h1,L⟩:=h_ w;obtain⟨dr,fr,d,gd,now,k,az,dd,l,fs,st⟩:=p;obtain⟨rfl,rfl,rfl,O,T,U,z⟩:=hv;exact Vk n fr (⟨some t,gd,now,.p (.slice (bB.size α) B D),az,dd,[]⟩::l) fs st B D u G  rfl z Zd λC I=>by
  have:=h C I;simp only[nx,w]at this;omega
theorem dR (n u:Nat) (x:α) {m:Option β} (h:Le m (ct S c Q (nx S c n cf λp=>{ p.st with g:=bM p.st.g u (.ptr u 0),m:=bM p.st.m u (bx x) })))
 (B:(gq S c n cf).map (λp=>(p.d,p.k,bY S.N p.st.g p.az,p.st.new u))=some (some u,.a .box,some [cv x],true):=by kernel_rfl):Le m (ct S c Q cf):=by
 obtain⟨p,w,hv⟩:=eY B;simp  at hv;refine sG w ?_ h;rw[hv.1,hv.2.1,vF,hv.2.2.1];simp only[ζb,hv.2.2.2,if_true,mJ,kE,ow]
def VS (u o sz:Nat) (xs:List SV) (p:ED):St:=match bh p.st.m u with
 | some (.box w)=>dg { p.st with m:=bM p.st.m u (.box (w.take o++xs++w.drop (o+sz))) } p.d (.v .undef)
 | _=>p.st
theorem nK (n u o:Nat) (x:α) {m:Option β} (h:Le m (ct S c Q (nx S c n cf (VS u o (bB.size α) ((cells x).map .v)))))
 (B:(gq S c n cf).map (λp=>(p.k,bY S.N p.st.g p.az,(!p.dr||p.now),match bh p.st.m u with|some (.box cs)=>Nat.ble (o+bB.size α) cs.length|_=>false))=some (.l (.store (bB.size α)),some [.ptr u o,cv x],true,true):=by kernel_rfl):Le m (ct S c Q cf):=by
 obtain⟨p,C,hv⟩:=eY B;simp only[ζc]at hv;refine sG C ?_ h;obtain⟨h1,D,G,z⟩:=hv;split at z
 next cs w=>have I:=Nat.le_of_ble_eq_true z;rw[h1,uC,D];simp only[ζb,G,if_true,mg,w,putCells,kE,eX,ow,I,and_self,Option.map_some,VS]
 simp_all
theorem u6 (n u:Nat) (xs:List α) {m:Option β} (h:Le m (ct S c Q (nx S c n cf λp=>{ p.st with g:=bM p.st.g u (.own u),m:=bM p.st.m u (cF (.row xs)) })))
 (B:(gq S c n cf).map (λp=>(p.d,Tl p.k,bY S.N p.st.g p.az,p.st.new u))=some (some u,some (bB.size α,xs.length,List.range' 0 xs.length),some ((xs.map enc).map .v),true):=by kernel_rfl):Le m (ct S c Q cf):=by
 obtain⟨p,w,hv⟩:=eY B;simp  at hv;obtain⟨h1,G⟩:=h_ w;obtain⟨dr,fr,d,gd,now,k,az,dd,l,fs,st⟩:=p;obtain⟨rfl,C,I,D⟩:=hv;obtain⟨z,rfl⟩:=Tw C;exact WS n dr fr (⟨some u,gd,now,.a (.buildSl (bB.size α) xs.length z (List.range' 0 xs.length)),az,dd,[]⟩::l) fs st xs rfl D Zd (by
  simp[nx,w]at h;omega)
theorem Wq (n:Nat) (x:α) (vs z:List V) (pl:List (Nat×Nat)) {m:Option β} (B:kz z pl vs=some (cells x)) (D:bB.agg α=true) (h:Le m (ct S c Q (nx S c n cf λp=>dg p.st p.d (cv x))))
 (G:(gq S c n cf).map (λp=>(p.k,bY S.N p.st.g p.az))=some (.p (.build z pl),some (vs.map .v)):=by kernel_rfl):Le m (ct S c Q cf):=by
 obtain⟨p,u,hv⟩:=eY G;simp  at hv;obtain⟨h1,w⟩:=h_ u;obtain⟨dr,fr,d,gd,now,k,az,dd,l,fs,st⟩:=p;obtain⟨rfl,C⟩:=hv;exact V8 n dr fr (⟨d,gd,now,.p (.build z pl),az,dd,[]⟩::l) fs st x vs rfl B D Zd (by
  simp only[nx,u]at h;omega)
end
theorem zD (n:Nat) (k:IntKind) {a:ByteArray} {b:Int} {f:Int->Option γ} (h:∀x,kK a b=some x->Le ((f x).bind e) (ct S c Q (nx S c n cf λp=>dg p.st p.d (.v (.int .u8 x)))))
 (B:(gq S c n cf).map (λp=>(p.k,bY S.N p.st.g p.az))=some (.p .idxStr,some [.v (.str a),.v (.int k b)]):=by kernel_rfl):Le (((kK a b).bind f).bind e) (ct S c Q cf):=by
 obtain⟨p,u,hv⟩:=eY B;simp  at hv;refine uy u ?_ h;rw[hv.1];exact Le.of_eq (NX hv.2)
section
variable {A:α->List V} {E:δ->List V} {pl:α->Option δ} {fn:FuncId} {sc:Bool}
theorem xZ (n:Nat) (F:kB S c fn A E pl sc) (z:α) {f:δ->Option γ} (h:∀x,pl z=some x->Le ((f x).bind e) (ct S c Q (nx S c n cf λp=>dg p.st p.d (.v (result (E x))))))
 (B:(gq S c n cf).map (λp=>(p.k,(bY S.N p.st.g p.az).bind ni,(!p.dr||p.now||fe p.st.m p.fr [])))=some (.c,some (fn,(A z).map .v),true):=by kernel_rfl):Le (((pl z).bind f).bind e) (ct S c Q cf):=by
 obtain⟨p,C,hv⟩:=eY B;simp  at hv;obtain⟨D,G,O⟩:=hv;obtain⟨I,g1,g2⟩:=ζg.1 G;have u:∀d (w:List V),SV.dz d (w.map .v)=false:=λd w=>by
  induction w with
  | nil=>rfl
  | cons a l J=>simp[SV.dz,SV.cR,J]
 have L:(!p.dr||p.now||fe p.st.m p.fr ((A z).map .v))=true:=by
  have:fe p.st.m p.fr ((A z).map .v)=fe p.st.m p.fr []:=by unfold fe;simp[u];rfl
  grind
 refine uy C ?_ h;rw[D];exact FT (F.h z) F.k g1 g2 (Gf _ _ _) L (λr=>by rw[pn];simp)
theorem T7 (n:Nat) (F:kB S c fn A E pl true) (z:α) {f:δ->Option γ} (h:∀x,pl z=some x->Le ((f x).bind e) (ct S c Q (nx S c n cf λp=>dg p.st p.d (.v (result (E x))))))
 (B:(gq S c n cf).map (λp=>(p.k,((bY S.N p.st.g p.az).bind ni).bind λq=>(nS (jb p.st.m 8) q.2).map λvs=>(q.1,vs,((!p.dr||p.now)||fe p.st.m p.fr q.2))))=some (.c,some (fn,A z,true)):=by kernel_rfl):Le (((pl z).bind f).bind e) (ct S c Q cf):=by
 obtain⟨p,u,hv⟩:=eY B;simp  at hv;obtain⟨w,C⟩:=hv;obtain⟨q,g1,g2⟩:=ζg.1 C;obtain⟨D,g3,g4⟩:=ζg.1 g1;obtain⟨vs,g5,g6⟩:=ζf.1 g2;simp only[ζc]at g6;obtain⟨e1,rfl,e3⟩:=g6;refine uy u ?_ h;rw[w];exact FT (F.h z) F.k g3 Zd g5 e3 (λr=>by rw[F.s rfl];rfl)
end
section
variable {N:Nat} [bB α]
theorem PT (n:Nat) (k:IntKind) {a:bW N α} {i:Int} {f:α->Option γ} (h:∀x,a.at i=some x->Le ((f x).bind e) (ct S c Q (nx S c n cf λp=>dg p.st p.d (.v (.fptr (pa a i))))))
 (B:(gq S c n cf).map (λp=>(p.k,bY S.N p.st.g p.az))=some (.p (.idxA N (bB.size α)),some [cp a,.v (.int k i)]):=by kernel_rfl):Le (((a.at i).bind f).bind e) (ct S c Q cf):=by
 obtain⟨p,u,hv⟩:=eY B;simp  at hv;obtain⟨h1,z⟩:=h_ u;obtain⟨dr,fr,d,gd,now,C,az,dd,l,fs,st⟩:=p;obtain⟨rfl,D⟩:=hv;exact UM n dr fr (⟨d,gd,now,.p (.idxA N (bB.size α)),az,dd,[]⟩::l) fs st k   rfl Zd λx w=>by
  have:=h x w;simp only[nx,u]at this;omega
theorem NK (n k:Nat) (a:bW N α) (i:Int) (o:Nat) (x:α) (B:a.at i=some x) {m:Option β} (h:Le m (ct S c Q (nx S c n cf λp=>dg p.st p.d (.v (.fptr ((pa a i).drop (o+k)))))))
 (D:(gq S c n cf).map (λp=>(p.k,bY S.N p.st.g p.az,Nat.ble (o+k) (bB.size α)))=some (.p (.fieldAddr k),some [.v (.fptr ((pa a i).drop o))],true):=by kernel_rfl):Le m (ct S c Q cf):=by
 obtain⟨p,u,hv⟩:=eY D;simp  at hv;obtain⟨h1,w⟩:=h_ u;obtain⟨dr,fr,d,gd,now,z,az,dd,l,fs,st⟩:=p;obtain⟨rfl,C,G⟩:=hv;exact Wo n dr fr (⟨d,gd,now,.p (.fieldAddr k),az,dd,[]⟩::l) fs st a i o x B rfl Zd (by
  simp only[nx,u]at h;omega)
theorem Qb (n sz:Nat) (ag:Bool) (a:bW N α) (i:Int) (o:Nat) (x:α) (B:a.at i=some x) (v:V) (hv:(cut (cells x) o sz).bind (mk ag)=some v) {m:Option β} (h:Le m (ct S c Q (nx S c n cf λp=>dg p.st p.d (.v v))))
 (D:(gq S c n cf).map (λp=>(p.k,bY S.N p.st.g p.az))=some (.r (.load sz ag),some [.v (.fptr ((pa a i).drop o))]):=by kernel_rfl):Le m (ct S c Q cf):=by
 obtain⟨p,w,u⟩:=eY D;simp  at u;obtain⟨h1,z⟩:=h_ w;obtain⟨dr,fr,d,gd,now,C,az,dd,l,fs,st⟩:=p;obtain⟨rfl,G⟩:=u;exact U0 n dr fr (⟨d,gd,now,.r (.load sz ag),az,dd,[]⟩::l) fs st a i o x B hv v rfl Zd (by
  simp only[nx,w]at h;omega)
theorem RP (n u:Nat) (st:St) (len:Nat) (z:α) {m:Option β} (B:st.new u=true) (h:Le m (ct S c Q (nx S c n cf λ_=>{ st with g:=bM st.g u (.ptr u 0),m:=bM st.m u (bx (bW.EN len z)) })))
 (D:(gq S c n cf).map (λp=>(p.d,QA p.k,bY S.N p.st.g p.az,p.st))=some (some u,some (cells (bW.EN len z)),some [],st):=by kernel_rfl):Le m (ct S c Q cf):=by
 obtain⟨p,w,hv⟩:=eY D;simp  at hv;obtain⟨k,hk⟩:=M7 hv.2.1;refine sG w ?_ h;rw[hv.1,hk,vF,hv.2.2.1,hv.2.2.2];simp[B,mJ]
theorem Uk (n u:Nat) (st:St) (cs:List SV) {m:Option β} (B:st.new u=true) (h:Le m (ct S c Q (nx S c n cf λ_=>{ st with g:=bM st.g u (.ptr u 0),m:=bM st.m u (.box cs) })))
 (D:(gq S c n cf).map (λp=>(p.d,(QA p.k).map (λz=>z.map SV.v),bY S.N p.st.g p.az,p.st))=some (some u,some cs,some [],st):=by kernel_rfl):Le m (ct S c Q cf):=by
 obtain⟨p,C,hv⟩:=eY D;simp only[ζc]at hv;obtain⟨z,G,w⟩:=eY hv.2.1;obtain⟨k,hk⟩:=M7 G;refine sG C ?_ h;rw[hv.1,hk,vF,hv.2.2.1,hv.2.2.2];simp[B,mJ,w]
theorem Aj (n:Nat) (k:IntKind) (u:Nat) {a:bW N α} {i:Int} {f:α->Option γ} (h:∀x,a.at i=some x->Le ((f x).bind e) (ct S c Q (nx S c n cf λp=>dg p.st p.d (.ptr u (i.toNat*bB.size α+0)))))
 (B:(gq S c n cf).map (λp=>(p.k,bY S.N p.st.g p.az,bh p.st.m u))=some (.p (.idxA N (bB.size α)),some [.ptr u 0,.v (.int k i)],some (bx a)):=by kernel_rfl):Le (((a.at i).bind f).bind e) (ct S c Q cf):=by
 obtain⟨p,w,hv⟩:=eY B;simp  at hv;obtain⟨h1,C⟩:=h_ w;obtain⟨dr,fr,d,gd,now,D,az,dd,l,fs,st⟩:=p;obtain⟨rfl,G,I⟩:=hv;exact UX n dr fr (⟨d,gd,now,.p (.idxA N (bB.size α)),az,dd,[]⟩::l) fs st k u   rfl Zd λx z=>by
  have:=h x z;simp only[nx,w]at this;omega
theorem J_ (n sz:Nat) (ag:Bool) (u:Nat) (a:bW N α) (i:Int) (o:Nat) (x:α) (B:a.at i=some x) (v:V) (hv:(cut (cells x) o sz).bind (mk ag)=some v) {m:Option β} (h:Le m (ct S c Q (nx S c n cf λp=>dg p.st p.d (.v v))))
 (D:(gq S c n cf).map (λp=>(p.k,bY S.N p.st.g p.az,bh p.st.m u,(!p.dr||p.now||eM p.fr [.ptr u 0])))=some (.r (.load sz ag),some [.ptr u (i.toNat*bB.size α+o)],some (bx a),true):=by kernel_rfl):Le m (ct S c Q cf):=by
 obtain⟨p,z,w⟩:=eY D;simp  at w;obtain⟨h1,C⟩:=h_ z;obtain⟨dr,fr,d,gd,now,G,az,dd,l,fs,st⟩:=p;obtain⟨rfl,I,J,L⟩:=w;exact UI n dr fr (⟨d,gd,now,.r (.load sz ag),az,dd,[]⟩::l) fs st u a i o x B hv v rfl Zd (by
  simp only[nx,z]at h;omega)
theorem Vu (n sz u:Nat) (a:bW N α) (i:Int) (o:Nat) (x:α) (B:a.at i=some x) (y:α) (v:V) (D:cells y=(cells x).take o++v.cells++(cells x).drop (o+sz)) {m:Option β} (h:Le m (ct S c Q (nx S c n cf λp=>dg { p.st with m:=bM p.st.m u (bx (a.set i y)) } p.d (.v .undef))))
 (G:(gq S c n cf).map (λp=>(p.k,bY S.N p.st.g p.az,bh p.st.m u,(!p.dr||p.now),v.cells.length,v.cells.all V.one,Nat.ble (o+sz) (bB.size α)))=some (.l (.store sz),some [.ptr u (i.toNat*bB.size α+o),.v v],some (bx a),true,sz,true,true):=by kernel_rfl):Le m (ct S c Q cf):=by
 obtain⟨p,z,w⟩:=eY G;simp  at w;obtain⟨h1,C⟩:=h_ z;obtain⟨dr,fr,d,gd,now,I,az,dd,l,fs,st⟩:=p;obtain⟨rfl,J,L,O,T,U,W⟩:=w;exact Qc n dr fr (⟨d,gd,now,.l (.store sz),az,dd,[]⟩::l) fs st u a i o x B y v D rfl Zd (by
  simp[nx,z]at h;omega)
end
section
variable {κ ν:Type} [bB κ] [DecidableEq κ] [Key κ] [bB ν]
theorem Jm (n u:Nat) (mp:Mo κ ν) (k:κ) (z:ν) {m:Option β} (h:Le m (ct S c Q (nx S c n cf λp=>dg p.st p.d (cv (iZ mp k z)))))
 (B:(gq S c n cf).map (λp=>(p.k,bY S.N p.st.g p.az,bh p.st.m u,(!p.dr||p.now||eM p.fr [.mp u,cv k])))=some (.r (.lookup (Key.kk κ) (enc z) false),some [.mp u,cv k],some (iX mp),true):=by kernel_rfl):Le m (ct S c Q cf):=by
 obtain⟨p,w,hv⟩:=eY B;simp  at hv;obtain⟨h1,C⟩:=h_ w;obtain⟨dr,fr,d,gd,now,D,az,dd,l,fs,st⟩:=p;obtain⟨rfl,G,I,J⟩:=hv;exact Vn n dr fr (⟨d,gd,now,.r (.lookup (Key.kk κ) (enc z) false),az,dd,[]⟩::l) fs st u mp k z rfl Zd (by
  simp only[nx,w]at h;omega)
theorem T5 (n u:Nat) (mp:Mo κ ν) (k:κ) (z:ν) {m:Option β} (h:Le m (ct S c Q (nx S c n cf λp=>dg p.st p.d (.v (.tup [enc (iZ mp k z),.bool (wk mp k)])))))
 (B:(gq S c n cf).map (λp=>(p.k,bY S.N p.st.g p.az,bh p.st.m u,(!p.dr||p.now||eM p.fr [.mp u,cv k])))=some (.r (.lookup (Key.kk κ) (enc z) true),some [.mp u,cv k],some (iX mp),true):=by kernel_rfl):Le m (ct S c Q cf):=by
 obtain⟨p,w,hv⟩:=eY B;simp  at hv;obtain⟨h1,C⟩:=h_ w;obtain⟨dr,fr,d,gd,now,D,az,dd,l,fs,st⟩:=p;obtain⟨rfl,G,I,J⟩:=hv;exact Uw n dr fr (⟨d,gd,now,.r (.lookup (Key.kk κ) (enc z) true),az,dd,[]⟩::l) fs st u mp k z rfl Zd (by
  simp only[nx,w]at h;omega)
theorem KD (n u:Nat) (mp:Mo κ ν) (k:κ) (v:ν) {m:Option β} (h:Le m (ct S c Q (nx S c n cf λp=>dg { p.st with m:=bM p.st.m u (iX (kS mp k v)) } p.d (.v .undef))))
 (B:(gq S c n cf).map (λp=>(p.k,bY S.N p.st.g p.az,bh p.st.m u,(!p.dr||p.now)))=some (.l (.mapUp (Key.kk κ)),some [.mp u,cv k,cv v],some (iX mp),true):=by kernel_rfl):Le m (ct S c Q cf):=by
 obtain⟨p,z,w⟩:=eY B;simp  at w;obtain⟨h1,C⟩:=h_ z;obtain⟨dr,fr,d,gd,now,D,az,dd,l,fs,st⟩:=p;obtain⟨rfl,G,I,J⟩:=w;exact V6 n dr fr (⟨d,gd,now,.l (.mapUp (Key.kk κ)),az,dd,[]⟩::l) fs st u mp k v rfl Zd (by
  simp[nx,z]at h;omega)
end
theorem VF (n:Nat) (st:St) {rs:List RV} {e:γ->Option (List V)} {r:γ} (svs:List SV) {ys:List V} (B:nS (jb st.m 8) svs=some ys) (D:e r=some ys)
 (h:(gQ S c n cf.1 cf.2.1 cf.2.2).map (λq=>(q.1,q.2.2,kP q.2.2 rs))=some (.rt,st,some svs):=by kernel_rfl):Le ((some r).bind e) (ct S c (qU rs) cf):=by
 obtain⟨⟨fo,fs,st'⟩,u,hv⟩:=eY h;simp  at hv;obtain⟨rfl,rfl,w⟩:=hv;exact Vq n svs B (by rw[u,w]) D
end
end Go.VE
namespace Go.VE
variable [bV]
section
variable {S:Sys} {c:ck} {β γ δ α:Type} [bB α] {Q:Out×St->Option β} {e:γ->Option β} {cf:Cf}
def nH (s x:Sl α):Option (Sl α):=if x.l=[]then some s else if s.l.length+x.l.length<=2147483648 then some (.row (s.l++x.l))else none
theorem Sw (m:Tb bG) (n w:Nat) (x:Sl α) (B:n=bB.size α) (D:bh m w=some (cF x)):iU m n (.own w)=some (rows x.l):=by
 rw[DA,D,Am n x B]
theorem FQ (l:List α):rows l=[]↔l=[]:=by unfold rows;simp
theorem Oi (a b:List α):rows a++rows b=rows (a++b):=by unfold rows;simp
theorem FB (a:List α):(rows a).length=a.length:=by unfold rows;simp
theorem TH {st:St} {dr now:Bool} {fr:List Nat} {az:List Arg} {d n o:Nat} {s x:Sl α} {B:SV} (O:bY S.N st.g az=some [.own o,B]) (U:(!dr||now)=true) (D:bh st.m o=some (cF s)) (W:iU st.m n B=some (rows x.l)) (G:n=bB.size α) (J:St.new { st with m:=eo o st.m } d=true) :
 fK S c dr fr ⟨some d,none,now,.l (.append n),az,[],[]⟩ st=(nH s x).bind λY=>some { st with g:=bM st.g d (.own d),m:=bM (eo o st.m) d (cF Y) }:=by
 rw[uC,O];simp only[ζb,U,if_true,zZ,Sw st.m n o s G D,W];unfold nH
 by_cases h:x.l=[]
 .rw[if_pos h,(FQ x.l).2 h];simp only[xK,D,if_pos J,ζb];rfl
 rw[if_neg h];have hr:rows x.l≠[]:=λe=>h ((FQ _).1 e)
 have w:xK st d n (.own o) (some (rows s.l)) (some (rows x.l))=if(rows s.l).length+(rows x.l).length<=2147483648/\Gm (.own o)=true then(if St.new { st with m:=giveUp st.m (.own o) } d then some (.own d,{ st with m:=bM (giveUp st.m (.own o)) d (.sl .row n (rows s.l++rows x.l)) })else none)else none:=by
  unfold xK;generalize rows x.l=r at *
  cases r with
  | nil=>exact absurd rfl hr
  | cons y r=>rfl
 rw[w,FB,FB,Oi]
 by_cases u:s.l.length+x.l.length<=2147483648
 .rw[if_pos ⟨u,rfl⟩,if_pos (show St.new { st with m:=giveUp st.m (.own o) } d=true from J),if_pos u];rw[ζb,ζb,G];rfl
 rw[if_neg (λk=>u k.1),if_neg u];rfl
theorem UY (n o u:Nat) (D:SV) {s x:Sl α} {f:Sl α->Option γ} (G:∀p,gq S c n cf=some p->iU p.st.m (bB.size α) D=some (rows x.l))
 (h:∀B,nH s x=some B->Le ((f B).bind e) (ct S c Q (nx S c n cf λp=>{ p.st with g:=bM p.st.g u (.own u),m:=bM (eo o p.st.m) u (cF B) })))
 (J:(gq S c n cf).map (λp=>(p.d,p.k,bY S.N p.st.g p.az,(!p.dr||p.now),bh p.st.m o,St.new { p.st with m:=eo o p.st.m } u))=some (some u,.l (.append (bB.size α)),some [.own o,D],true,some (cF s),true):=by kernel_rfl):Le (((nH s x).bind f).bind e) (ct S c Q cf):=by
 obtain⟨p,w,hv⟩:=eY J;simp only[ζc]at hv;refine uy w ?_ h;rw[hv.1,hv.2.1];exact Le.of_eq (TH hv.2.2.1 hv.2.2.2.1 hv.2.2.2.2.1 (G p w) rfl hv.2.2.2.2.2)
theorem KG (m:Tb bG) (x:Sl α):iU m (bB.size α) (.v (b8 x))=some (rows x.l):=by
 cases x <;> simp[b8,Sl.k,Sl.l,nO,iU,rows]
theorem xh (n o u:Nat) {s x:Sl α} {f:Sl α->Option γ}
 (h:∀B,nH s x=some B->Le ((f B).bind e) (ct S c Q (nx S c n cf λp=>{ p.st with g:=bM p.st.g u (.own u),m:=bM (eo o p.st.m) u (cF B) })))
 (D:(gq S c n cf).map (λp=>(p.d,p.k,bY S.N p.st.g p.az,(!p.dr||p.now),bh p.st.m o,St.new { p.st with m:=eo o p.st.m } u))=some (some u,.l (.append (bB.size α)),some [.own o,.v (b8 x)],true,some (cF s),true):=by kernel_rfl):Le (((nH s x).bind f).bind e) (ct S c Q cf):=
 UY n o u _ (λp _=>KG p.st.m x) h D
end
theorem qJ {α:Type} {l:List α} {i:Nat} {x:α} (h:l[i]? = some x):l.set i x=l:=by
 obtain⟨u,rfl⟩:=ζe.1 h;exact List.set_getElem_self u
open Classical in
noncomputable def BE (E:Env) (g:FuncId) (cb:List V) (a b:V):Option V:=
 if h:∃n y,cg (run E n) g (a::b::cb) []=some y then some (Classical.choose (Classical.choose_spec h))else none
theorem DH {E:Env} {g:FuncId} {cb:List V} {a b y:V} (h:BE E g cb a b=some y):∃n,∀k,n<=k->cg (run E k) g (a::b::cb) []=some y:=by
 unfold BE at h;split at h
 next h1=>cases h;exact⟨_,λk hk=>nL (nr E hk) (Classical.choose_spec (Classical.choose_spec h1))⟩
 cases h
theorem Ix {E:Env} {g:FuncId} {cb:List V} {a b y:V} {n:Nat} (h:cg (run E n) g (a::b::cb) []=some y):BE E g cb a b=some y:=by
 have h1:∃n y,cg (run E n) g (a::b::cb) []=some y:=⟨n,y,h⟩
 cases hc:BE E g cb a b with
 | none=>unfold BE at hc;rw[dif_pos h1]at hc;cases hc
 | some z=>
  obtain⟨m,u⟩:=DH hc;have:=u _ (Nat.le_max_right n m);rw[nL (nr E (Nat.le_max_left n m)) h]at this;cases this;rfl
theorem Df {n:Nat} {p:_root_.Fin n->Nat->Prop} (h:∀i,∃N,∀k,N<=k->p i k):∃N,∀i k,N<=k->p i k:=by
 induction n with
 | zero=>exact⟨0,λi=>i.elim0⟩
 | succ n u=>
  obtain⟨N,w⟩:=u (p:=λi=>p i.succ) λi=>h i.succ
  obtain⟨M,z⟩:=h 0;refine⟨max N M,λi k hk=>?_⟩
  refine _root_.Fin.cases (z k Za) (λj=>w j k Za) i
def iN (x:List V):V:=x.headD .undef
def tB (es:Nat) (xs:List (List V)):Bool:=es==1&&xs.all (λx=>x.length==1&&x.all V.one)&&decide (xs.length<=2147483648)
theorem xO {es:Nat} {xs:List (List V)} (h:tB es xs=true):es=1/\xs.length<=2147483648/\∀(i:Nat) x,xs[i]? = some x->x=[iN x]/\(iN x).one=true:=by
 unfold tB at h;simp only[ζh,beq_iff_eq,List.all_eq_true,decide_eq_true_eq]at h;refine⟨h.1.1,h.2,λi x w=>?_⟩
 obtain⟨h1,z⟩:=h.1.2 x (List.mem_of_getElem? w);obtain⟨u,rfl⟩:=List.length_eq_one_iff.1 h1;exact⟨rfl,z u Zc⟩
section
variable {H:bl} {Z:Nat->Prop}
theorem dm.I9 {k:Nat} {xs ys:List V} (h:dm H Z xs ys) (B:V.kQ k xs=true):borrows k H ys=some xs:=j8 h.1 λj u v hu hv=>(h.2 j u v hu hv).borrow k (l8.1 B j u hu)
theorem dm.borrows {xs ys:List V} (h:dm H Z xs ys):∃n,∀k,n<=k->borrows k H ys=some xs:=by
 obtain⟨n,u⟩:=lM xs;exact⟨n,λk hk=>h.I9 (oA hk u)⟩
theorem Nb {es:Nat} {xs:List (List V)} (h:tB es xs=true) {rs:List (List V)} (B:ga H Z xs rs):dm H Z (xs.map iN) rs.flatten:=by
 induction xs generalizing rs with
 | nil=>have:=B.1;simp at this;have:rs=[]:=List.eq_nil_of_length_eq_zero (by simpa using this.symm);subst this;exact .nil
 | cons x xs D=>
  obtain⟨h1,L,G⟩:=xO h
  cases rs with
  | nil=>have:=B.1;simp at this
  | cons r rs=>
   obtain⟨e,_⟩:=G 0 x rfl;have C:=B.2 0 x r rfl rfl;rw[e]at C;obtain⟨u,O,rfl,hu,w⟩:=C.inv;rw[w.cW];have z:tB es xs=true:=by
    unfold tB at h ⊢;simp only[List.all_cons,ζh,List.length_cons,decide_eq_true_eq]at h ⊢;exact⟨⟨h.1.1,h.1.2.2⟩,by omega⟩
   exact .cons hu (D z (rs:=rs) ⟨by have:=B.1;simpa using this,λj a b I J=>B.2 (j+1) a b I J⟩)
end
noncomputable def sj (E:Env) (g:FuncId) (cb:List V) (a b:V):Option Int:=match BE E g cb a b with|some (.int .i64 c)=>some c|_=>none
theorem NM {E:Env} {g:FuncId} {cb:List V} {a b:V} {c:Int} (h:sj E g cb a b=some c):∃n,∀k,n<=k->cg (run E k) g (a::b::cb) []=some (.int .i64 c):=by
 unfold sj at h;split at h
 next c' hc=>cases h;exact DH hc
 cases h
noncomputable def zz (E:Env) (es:Nat) (xs:List (List V)):List V->Option (List (List V))
 | [.clo g [] cb]=>match xs with
  | []=>some []
  | x::l=>if tB es (x::l) && !E.keep g then
   let t:_root_.Fin (l.length+1)->_root_.Fin (l.length+1)->Option Int:=λi j=>sj E g cb (iN (((x::l)[i.1]?).getD [])) (iN (((x::l)[j.1]?).getD []))
   if Au t then some ((qb l.length (oS t)).toList.map λi=>((x::l)[i.1]?).getD [])else none
   else none
 | _=>none
noncomputable def rZ (E:Env):Eo:=⟨false,zz E⟩
theorem CA {n:Nat} {lt:_root_.Fin (n+1)->_root_.Fin (n+1)->Bool} (h:Sort.SWO lt):(qb n lt).size=n+1:=by
 rw[BQ];have:=(Sort.pdq_sorts lt h (List.finRange (n+1)).toArray 0 (n+1) (Lib.bitLen (n+1)) true true (Nat.zero_le _) Zc (Or.inl rfl)).1.1
 simpa using this
theorem NY {E:Env} {f:FuncId} (hk:E.keep f=true) (ho:E.own f=false) (hs:E.sort f=true) (hf:E.ft f=none):oa E f (rZ E) where
 keep:=hk
 own:=ho
 le:=by
  intro es xs vs ys h;simp only[rZ,zz]at h;split at h
  .split at h
   .cases h;exact⟨Nat.le_refl _,λ_=>rfl⟩
   split at h
   .split at h
    next ht=>cases h;have:=CA (pR ht).2;simp only[List.length_map,Array.length_toList,List.length_cons,this];exact⟨Nat.le_refl _,λ_=>trivial⟩
    cases h
   cases h
  cases h
 none:=by
  intro es vs ys h H Z ws w hw he;simp only[rZ,zz]at h;split at h
  .obtain⟨w2,r,rfl,h1,h2⟩:=hw.inv;rw[h2.cW];refine⟨1,[],λk hk=>?_⟩
   cases k with
   | zero=>omega
   | succ k=>rcases he with rfl|rfl <;> simp[run,jx,hf,hs,p_,rZ]
  cases h
 row:=by
  intro es xs vs ys h H Z ws id off rs hw O C I z hz;simp only[rZ,zz]at h;split at h
  .rename_i g cb;obtain⟨w2,r,rfl,h1,h2⟩:=hw.inv;rw[h2.cW];obtain⟨a',J,rfl,ha,aa⟩:∃a' J,w2=.clo g a' J/\dm H Z [] a'/\dm H Z cb J:=h1.jT;rw[ha.cW]at *;split at h
   .cases h;refine⟨1,rs,[],λk hk=>?_,rfl,⟨rfl,λj u v hu=>by simp at hu⟩,z⟩
    cases k with
    | zero=>omega
    | succ k=>
     have:H.set id (.row es rs)=H:=qJ O;simp[run,jx,hf,hs,p_,rZ,this]
   rename_i x l;split at h
   .rename_i D;simp only[ζh,Bool.not_eq_true']at D;obtain⟨c1,c3⟩:=D;obtain⟨rfl,Q,ae⟩:=xO c1;split at h
    .rename_i ht;cases h;obtain⟨G,S⟩:=pR ht;have B:∀i,Z i->Z i/\bp (H.set id .dead) i=bp H i:=λi hi=>⟨hi,by
      unfold bp;rw[List.getElem?_set_ne];rintro rfl;exact hz hi⟩
     have T:=I.mono B;obtain⟨M1,U⟩:=(Nb c1 T).borrows;simp only[List.length_cons]at U;obtain⟨M2,W⟩:=(aa.mono B).borrows;obtain⟨N,hN⟩:=Df (p:=λi k=>∀j:_root_.Fin (l.length+1),cg (run E k) g (iN (((x::l)[i.1]?).getD [])::iN (((x::l)[j.1]?).getD [])::cb) []=some (.int .i64 ((sj E g cb (iN (((x::l)[i.1]?).getD [])) (iN (((x::l)[j.1]?).getD []))).getD 0))) (λi=>by
      obtain⟨N,hN⟩:=Df (p:=λ(j:_root_.Fin (l.length+1)) k=>cg (run E k) g (iN (((x::l)[i.1]?).getD [])::iN (((x::l)[j.1]?).getD [])::cb) []=some (.int .i64 ((sj E g cb (iN (((x::l)[i.1]?).getD [])) (iN (((x::l)[j.1]?).getD []))).getD 0))) (λj=>by
       obtain⟨c,hc⟩:=G i j;obtain⟨n,hn⟩:=NM hc;exact⟨n,λk hk=>by rw[hn k hk,hc];rfl⟩)
      exact⟨N,λk hk j=>hN j k hk⟩)
     have X:∀k,N<=k->iR (run E k) g ((x::l).map iN) cb l.length=λi j=>sj E g cb (iN (((x::l)[i.1]?).getD [])) (iN (((x::l)[j.1]?).getD [])):=λk hk=>by
      funext i j
      obtain⟨c,hc⟩:=G i j;have e1:∀i:_root_.Fin (l.length+1),((x::l).map iN)[i.1]? = some (iN (((x::l)[i.1]?).getD [])):=λi=>by
       have:i.1<(x::l).length:=i.2;rw[List.getElem?_map,ζd this];rfl
      unfold iR;rw[e1 i,e1 j];simp only[hN i k hk j];rw[hc];rfl
     have ab:=CA S;generalize hL:(qb l.length (oS λi j:_root_.Fin (l.length+1)=>sj E g cb (iN (((x::l)[i.1]?).getD [])) (iN (((x::l)[j.1]?).getD [])))).toList=L at *
     have ad:L.length=l.length+1:=by rw[<-hL];simpa using ab
     simp only[List.length_cons]at C I Q;refine⟨max N (max M1 M2)+1,qy rs off l.length L,[],λk hk=>?_,?_,?_,?_⟩
     .cases k with
      | zero=>omega
      | succ k=>
       simp only[run,jx,hf,hs,if_true,p_,O,rZ,Bool.false_eq_true,if_false,List.length_cons];rw[if_pos ⟨trivial,trivial,C,by omega,c3⟩,show (run E k).lv=k from nC E k,U k Za,W k Za]
       simp only[X k Za,ht,if_true,hL,List.append_nil]
     .simp[qy,ad];omega
     .have e:((qy rs off l.length L).drop off).take (L.map λi=>((x::l)[i.1]?).getD []).length=L.map λi=>(rs[off+i.1]?).getD []:=by
       unfold qy;have h0:(rs.take off).length=off:=by simp;omega
       rw[List.append_assoc,List.drop_append_of_le_length Za,List.drop_eq_nil_of_le Za,List.nil_append,List.length_map,List.take_append_of_le_length Zc,List.take_of_length_le Zc]
      rw[e];refine⟨by simp,λj a b ha hb=>?_⟩
      rw[List.getElem?_map]at ha hb;obtain⟨i,hi,rfl⟩:=ζf.1 ha;rw[hi]at hb;simp only[Option.map_some,ζa]at hb;subst hb;have Y:i.1<(x::l).length:=i.2;have hr:off+i.1<rs.length:=by have:=i.2;omega
      refine I.2 i.1 _ _ (by rw[ζd Y];rfl) ?_
      rw[List.getElem?_take,if_pos i.2,List.getElem?_drop,ζd hr];rfl
     intro c hc u hu;unfold qy at hc;rcases List.mem_append.1 hc with hc|hc
     .rcases List.mem_append.1 hc with hc|hc
      .exact z c (List.mem_of_mem_take hc) u hu
      obtain⟨i,_,rfl⟩:=List.mem_map.1 hc;have hr:off+i.1<rs.length:=by have:=i.2;omega
      rw[ζd hr]at hu;exact z _ (List.getElem_mem hr) u hu
     exact z c (List.mem_of_mem_drop hc) u hu
    cases h
   cases h
  cases h
def bz (N:Nat->FuncId) (F:Frame):Arg->V
 | .s n=>get F n
 | .k c=>c
 | .f s=>.clo (N s) [] []
def bE (E:Env) (N:Nat->FuncId) (call:dx) (b:Option Nat) (now:Bool) (k:K) (vs:List V) (H:bl):Option (V×bl):=
 match k,b with
 | .p p,_=>(bn N p vs).map λv=>(v,H)
 | .r r,none=>(eR H r vs).map λv=>(v,H)
 | .r r,some b=>(eR (H.take b) r vs).map λv=>(v,H)
 | .a a,none=>(iP a vs).map λx=>(x.2.val H.length,H++[x.1])
 | .l l,none=>eZ H l vs
 | .l (.store n),some _=>if now then eZ H (.store n) vs else none
 | .c,none=>match vs with
  | .clo g a c::u=>if E.keep g then eT E call g (a++u++c) H else match cg call g (a++u++c) H with
   | some y=>if y.scalar then some (y,H)else none
   | none=>none
  | _=>none
 | .c,some b=>match vs with
  | .clo g a c::u=>if E.keep g then none else match cg call g (a++u++c) (H.take b)with
   | some y=>if y.scalar then some (y,H)else none
   | none=>none
  | _=>none
 | _,_=>none
def bu (F:Frame):Option Nat->V->Frame
 | none,_=>F
 | some d,v=>set F d v
def cE (E:Env) (N:Nat->FuncId) (call:dx) (b:Option Nat):List RO->Frame->bl->Option (Frame×bl)
 | [],F,H=>some (F,H)
 | o::r,F,H=>match o.gd with
  | none=>match bE E N call b o.now o.k (o.az.map (bz N F)) H with
   | some (v,H')=>cE E N call b r (bu F o.dst v) H'
   | none=>none
  | some _=>none
section
variable {X:CX} {N:Nat->FuncId} {call:dx} {F F':Frame} {H H':bl}
theorem Ja (B:∀f s,X.nm f=some s->N s=f) {o:Operand} {x:Arg} (h:pN X.nm o=some x):ev F o=some (bz N F x):=by
 cases o with
 | tmp t=>simp[pN]at h;subst h;rfl
 | const w=>
  simp[pN]at h;split at h
  .rename_i c hc;split at h
   .simp  at h;subst h;exact hc
   grind
  grind
 | func f=>
  obtain⟨s,u,rfl⟩:=ζf.1 h;show some (V.clo f [] [])=some (.clo (N s) [] [])
  grind
 | global i=>
  simp[pN]at h;split at h
  .rename_i c hc;split at h
   .simp  at h;subst h;simp[ev,hc];rfl
   grind
  grind
theorem xy (G:∀f s,X.nm f=some s->N s=f):∀{os:List Operand} {B:List Arg},os.mapM (pN X.nm)=some B->fL F os=some (B.map (bz N F))
 | [],B,h=>by simp  at h;subst h;rfl
 | o::os,B,h=>by
  simp[ζg]at h;obtain⟨x,J,xs,D,rfl⟩:=h;simp[fL,Ja G J,xy G D]
theorem yV (D:∀f s,X.nm f=some s->N s=f) {B:Bool} {ops:List Oper} {i:Nat} {o:Oper} {ro:RO} (h:mX X B ops i o=some ro) (hg:ro.gd=none) :
 o.dst=ro.dst/\yw X.nt o.dst=true/\fN ops F o=true/\((Db X.E N F o.op (ro.az.map (bz N F)) ro.k/\ro.now=(B&&dF ops i)/\(B=true->dF ops i=false->∀a',oM ops i a'=[]\/∀t,o.op≠.load t (.tmp a')))\/(∃n,ro.k=.l (.storeF n))\/(∃n a,ro.k=.r (.loadF n a))\/(B=true/\wV ops i=true/\dh o.op=.alloc/\(∃p,ro.k=.p p/\(p=.emptyC\/∃a b,p=.makeC a b)/\∀y,bn N p (ro.az.map (bz N F))=some y->qD X.E F o.op=some y))\/∃n,ro.k=.e n):=by
 unfold mX at h;split at h
 .rename_i I;split at h
  .rename_i gd k os u hr;split at h
   .split at h
    .rename_i w;simp only[ζh]at w;have W:∀{gd:Option (Nat×Bool)},A_ ops o=some gd->gd=none->fN ops F o=true:=λ{gd} u hg=>by
      subst hg;unfold fN;unfold A_ at u
      cases C:o.guard with
      | none=>rfl
      | some L=>
       rw[C]at u;obtain⟨j,b⟩:=L;obtain⟨d,_,e⟩:=ζf.1 u;cases e
     split at h
     next O=>obtain⟨Y,G,rfl⟩:=ζf.1 h;have z:=ku D hr (xy (F:=F) D G);exact⟨rfl,I,W u hg,.inr (.inr (.inr (.inl ⟨w.1,w.2,z.1,_,rfl,.inr ⟨_,_,rfl⟩,λy Q=>CQ ⟨_,_,_,by assumption⟩ z Q⟩)))⟩
     .rename_i O;split at h
      next S=>obtain⟨T,rfl,rfl⟩:=S;obtain⟨Y,G,rfl⟩:=ζf.1 h;have z:=ku D hr (xy (F:=F) D G);exact⟨rfl,I,W u hg,.inr (.inr (.inr (.inl ⟨w.1,w.2,z.1,_,rfl,.inl rfl,λy Q=>C_ ⟨_,_,_,by assumption⟩ z T Q⟩)))⟩
      cases h
     cases h
    obtain⟨Y,G,rfl⟩:=ζf.1 h;simp only at hg;subst hg;refine⟨rfl,I,?_,?_⟩
    .unfold fN;unfold A_ at u
     cases C:o.guard with
     | none=>rfl
     | some L=>
      rw[C]at u;obtain⟨j,b⟩:=L;obtain⟨d,_,e⟩:=ζf.1 u;cases e
    rcases Cu B ops i k os with⟨e,U⟩|⟨_,_,n,a,l,Z,_,_,_,e⟩|⟨_,_,n,ag,a,_,_,e⟩|⟨_,_,_,n,_,e⟩
    .rw[e]at G ⊢;refine .inl ⟨ku D hr (xy D G),rfl,λI hl a'=>?_⟩
     by_cases J:∃t,o.op=.load t (.tmp a')
     .obtain⟨t,J⟩:=J;rw[J]at hr;simp only[resolve]at hr;obtain⟨d,_,e⟩:=ζf.1 hr;simp only[ζc]at e;exact .inl (U _ _ a' I hl e.1.symm e.2.symm)
     exact .inr λt h=>J ⟨t,h⟩
    .rw[e];exact .inr (.inl ⟨n,rfl⟩)
    .rw[e];exact .inr (.inr (.inl ⟨n,ag,rfl⟩))
    rw[e];exact .inr (.inr (.inr (.inr ⟨n,rfl⟩)))
   simp at h
  simp at h
 simp at h
theorem Gi {nt:Nat} {dst:Option Nat} (h:yw nt dst=true) (v:V):jM nt F dst v=some (bu F dst v):=by
 cases dst with
 | none=>rfl
 | some d=>simp[yw]at h;simp[jM,if_pos h,bu]
theorem Ug (J:∀f s,X.nm f=some s->N s=f) {ops:List Oper} {i:Nat} {o:Oper} {ro:RO} (h:mX X false ops i o=some ro) (hg:ro.gd=none) {v:V} (hv:bE X.E N call none ro.now ro.k (ro.az.map (bz N F)) H=some (v,H')) :
 gp X.E call X.nt ops none o F H=some (bu F ro.dst v,H'):=by
 obtain⟨h1,I,L,u⟩:=yV (F:=F) J h hg;have O:dn X.E call ops none F H o.op=some (v,H'):=by
  rcases u with⟨u,_⟩|⟨n,u⟩|⟨n,a,u⟩|⟨u,_⟩|⟨n,u⟩
  .generalize hk:ro.k=k at hv u;generalize ro.az.map (bz N F)=W at hv u;unfold dn
   cases k with
   | p p=>
    obtain⟨c,e⟩:=u;obtain⟨w,B,C⟩:=ζf.1 hv;rw[c];simp only[xU (e w B),Option.map_some];rw[C]
   | r r=>
    obtain⟨c,e⟩:=u;obtain⟨w,B,C⟩:=ζf.1 hv;rw[c];simp only[e H w B,Option.map_some];rw[C]
   | a a=>
    obtain⟨c,e⟩:=u;obtain⟨⟨ob,m⟩,B,C⟩:=ζf.1 hv;rw[c];simp only[qK,Bool.false_eq_true,if_false,e _ B];exact congrArg some C
   | l l=>
    obtain⟨c,e⟩:=u;rw[c];exact e H _ hv
   | e n=>exact u.elim
   | b=>simp[bE]at hv
   | c=>
    obtain⟨c,f,Q,rfl,e⟩:=u;rw[c];simp only[bE]at hv;split at hv
    .rename_i g a b S D;simp only[List.cons.injEq]at D;obtain⟨rfl,rfl⟩:=D;split at hv
     next z=>simp only[e,kV,z,Bool.and_self,if_true];exact hv
     rename_i z;split at hv
     .rename_i y T;split at hv
      next G=>simp only[e,kV,z,Bool.false_and,Bool.false_eq_true,if_false,T,G,if_true];exact hv
      simp at hv
     simp at hv
    simp at hv
  .rw[u]at hv;exfalso;have:∀ops i k os,(wE false ops i k os).1=k:=λ_ _ _ _=>rfl
   unfold mX at h;simp only[Bool.false_and,Bool.false_eq_true,if_false]at h;split at h
   .split at h
    .rename_i gd k os U hr;split at h
     .obtain⟨Q,Y,rfl⟩:=ζf.1 h;simp only[this]at u;subst u;unfold resolve at hr
      (repeat' split at hr) <;> first|(simp at hr;done)|(obtain⟨_,_,e⟩:=ζf.1 hr;simp at e;done)
     simp at h
    simp at h
   first|(simp at h;done)|contradiction
  .rw[u]at hv;simp[bE,eR]at hv
  .cases u
  rw[u]at hv;simp[bE]at hv
 unfold gp;rw[L,if_pos rfl,O];simp only[h1,Gi (h1▸I),Option.map_some]
theorem FM (D:∀f s,X.nm f=some s->N s=f) {ops:List Oper}:∀(rest:List Oper) {i:Nat} {B:List RO} {F:Frame} {H:bl},kN X false ops i rest=some B->cE X.E N call none B F H=some (F',H')->lU X.E call X.nt ops rest F H=some (F',H')
 | [],i,B,F,H,hc,h=>by
  simp[kN]at hc;subst hc;exact h
 | o::rest,i,B,F,H,hc,h=>by
  simp[kN]at hc;split at hc
  .rename_i ro rs h1 G;simp  at hc;subst hc;simp[cE]at h;split at h
   .rename_i hg;split at h
    next v H1 hv=>simp[lU,Ug D h1 hg hv];exact FM D rest G h
    grind
   grind
  grind
theorem QV {ops:List Oper} {i:Nat} {op:Op} (h:∀t a',op=.load t (.tmp a')->oM ops i a'=[]):mZ ops i F op=true:=by
 unfold mZ
 grind
theorem T4 (Y:∀f s,X.nm f=some s->N s=f) {ops:List Oper} {b i:Nat} {o:Oper} (ho:ops[i]? = some o) {ro:RO} (h:mX X true ops i o=some ro) (hg:ro.gd=none) {v:V} (hv:bE X.E N call (some b) ro.now ro.k (ro.az.map (bz N F)) H=some (v,H')) :
 gp X.E call X.nt ops (some (b,i)) o F H=some (bu F ro.dst v,H'):=by
 obtain⟨h1,Z,h3,u⟩:=yV (F:=F) Y h hg;have hd:dn X.E call ops (some (b,i)) F H o.op=some (v,H'):=by
  rcases u with⟨u,z,B⟩|⟨n,u⟩|⟨n,a,u⟩|⟨_,I,J,p,u,_,L⟩|⟨n,u⟩
  .generalize hk:ro.k=k at hv u;generalize ro.az.map (bz N F)=vs at hv u;unfold dn
   cases k with
   | p p=>
    obtain⟨c,e⟩:=u;obtain⟨w,C,D⟩:=ζf.1 hv;rw[c];simp only[xU (e w C),Option.map_some];rw[D]
   | r r=>
    obtain⟨c,e⟩:=u;obtain⟨w,C,D⟩:=ζf.1 hv;have O:mZ ops i F o.op=true:=QV λt a' e=>by
     by_cases U:dF ops i=true
     .exact Cd ho e U
     rcases B rfl (by simpa using U) a' with h|h
     .exact h
     exact absurd e (h t)
    rw[c];simp only[e _ w C,O,if_true];rw[D]
   | a a=>simp[bE]at hv
   | l l=>
    obtain⟨c,e⟩:=u
    cases l with
    | store n=>
     simp only[bE]at hv;split at hv
     next W=>rw[z,Bool.true_and]at W;rw[c];simp only[W,Bool.true_or,if_true];exact e H _ hv
     simp at hv
    | _=>simp[bE]at hv
   | e n=>exact u.elim
   | b=>simp[bE]at hv
   | c=>
    obtain⟨c,f,av,rfl,e⟩:=u;rw[c];simp only[bE]at hv;split at hv
    .rename_i g a b aa G;simp only[List.cons.injEq]at G;obtain⟨rfl,rfl⟩:=G;split at hv
     .simp at hv
     rename_i Q;split at hv
     .rename_i y hy;split at hv
      next S=>simp only[e,kV,Q,Bool.false_and,Bool.false_eq_true,if_false,hy,S,if_true];exact hv
      simp at hv
     simp at hv
    simp at hv
  .rw[u]at hv;simp[bE]at hv
  .rw[u]at hv;simp[bE,eR]at hv
  .rw[u]at hv;obtain⟨w,C,D⟩:=ζf.1 hv;have T:=L w C;unfold dn;rw[J];simp only[qK,I,if_true,T,Option.map_some];exact congrArg some D
  rw[u]at hv;simp[bE]at hv
 unfold gp;rw[h3,if_pos rfl,hd];simp only[h1,Gi (h1▸Z),Option.map_some]
theorem Gw (D:∀f s,X.nm f=some s->N s=f) {ops:List Oper} {b:Nat}:∀(rest:List Oper) {i:Nat} {B:List RO} {F:Frame} {H:bl},ops.drop i=rest->kN X true ops i rest=some B->cE X.E N call (some b) B F H=some (F',H') ->
 jD X.E call X.nt ops b (List.range' i rest.length) F H=some (F',H')
 | [],i,B,F,H,_,hc,h=>by
  simp[kN]at hc;subst hc;exact h
 | o::rest,i,B,F,H,J,hc,h=>by
  simp[kN]at hc;split at hc
  .rename_i ro rs h1 O;simp  at hc;subst hc;simp[cE]at h;split at h
   .rename_i hg;split at h
    .rename_i v H1 hv;have G:ops[i]? = some o:=by
      have:(ops.drop i)[0]? = some o:=by grind
      grind
     have u:ops.drop (i+1)=rest:=by
      rw[<-List.drop_drop,J];rfl
     simp[List.range'_succ,jD,G,T4 D G h1 hg hv];exact Gw D rest u O h
    grind
   grind
  grind
def wU (l:List RO):Bool:=l.all λo=>(match o.k with|.a _|.l (.storeF _)|.r (.loadF ..)|.p (.makeC ..)|.p .emptyC|.e _=>false|_=>true)&&o.gd.isNone
theorem Cy (J:∀f s,X.nm f=some s->N s=f) {ops:List Oper}:∀(rest:List Oper) {i:Nat} {G:List RO},kN X true ops i rest=some G->wU G=true->rest.any (λo=>dh o.op==.alloc)=false
 | [],_,_,_,_=>rfl
 | o::rest,i,G,hc,D=>by
  simp only[kN]at hc;split at hc
  .rename_i ro rs h1 O;simp only[ζa]at hc;subst hc;simp only[wU,List.all_cons,ζh,Option.isNone_iff_eq_none]at D;obtain⟨_,_,_,B⟩:=yV (F:=[]) J h1 D.1.2;rw[List.any_cons,Cy J rest O D.2,Bool.or_false];rcases B with⟨B,_⟩|⟨n,B⟩|⟨n,a,B⟩|⟨_,_,_,p,B,u,_⟩|⟨n,B⟩
   .cases hk:ro.k with
    | a p=>have:=D.1.1;rw[hk]at this;cases this
    | e p=>have:=D.1.1;rw[hk]at this;cases this
    | _=>rw[hk]at B;rw[B.1];rfl
   .have:=D.1.1;rw[B]at this;cases this
   .have:=D.1.1;rw[B]at this;cases this
   .have:=D.1.1;rw[B]at this;rcases u with rfl|⟨_,_,rfl⟩ <;> cases this
   have:=D.1.1;rw[B]at this;cases this
  simp at hc
def gV (E:Env) (N:Nat->FuncId) (call:dx) (lf:Nat):RC->Frame->bl->Option (Out×Frame×bl)
 | .skip,F,H=>some (.norm,F,H)
 | .ops l,F,H=>(cE E N call none l F H).map λx=>(.norm,x.1,x.2)
 | .oQ l,F,H=>if wU l then(cE E N call (some H.length) l F H).map λx=>(.norm,x.1,x.2)else none
 | .seq a b,F,H=>match gV E N call lf a F H with
  | some (.norm,F',H')=>gV E N call lf b F' H'
  | r=>r
 | .cond x a b,F,H=>match bz N F x with
  | .bool t=>if t then gV E N call lf a F H else gV E N call lf b F H
  | _=>none
 | .block id c,F,H=>match gV E N call lf c F H with
  | some (.exit B,F',H')=>if B=id then some (.norm,F',H')else some (.exit B,F',H')
  | r=>r
 | .loop c,F,H=>kr (gV E N call lf c) lf F H
 | .exit id,F,H=>some (.exit id,F,H)
 | .ret,F,H=>some (.ret,F,H)
 | _,_,_=>none
theorem Gt {f g:Frame->bl->Option (Out×Frame×bl)} (h:∀F H r,f F H=some r->g F H=some r):∀(k:Nat) (F:Frame) (H:bl) (r:Out×Frame×bl),kr f k F H=some r->kr g k F H=some r
 | 0,F,H,r,hr=>by simp[kr]at hr
 | k+1,F,H,r,hr=>by
  simp only[kr]at hr ⊢
  cases B:f F H with
  | none=>rw[B]at hr;simp at hr
  | some q=>
   rw[B]at hr;rw[h F H q B];obtain⟨o,F1,H1⟩:=q
   cases o with
   | norm=>exact Gt h k F1 H1 r hr
   | exit _=>exact hr
   | ret=>exact hr
theorem Ou (D:∀f s,X.nm f=some s->N s=f) {lf:Nat}:∀(rc:RC) (code:Code) (F:Frame) (H:bl) (r:Out×Frame×bl),bQ X false code=some rc->gV X.E N call lf rc F H=some r->exec X.E call lf false X.nt code F H=some r:=by
 intro rc
 induction rc with
 | skip=>
  intro code F H r hc h;simp only[gV,ζa]at h;subst h
  cases code with
  | skip=>rfl
  | label _=>rfl
  | region id ops u=>simp only[bQ]at hc;(repeat' split at hc) <;> first|(simp at hc;done)|(obtain⟨_,_,e⟩:=ζf.1 hc;cases e)
  | _=>simp only[bQ]at hc;(repeat' split at hc) <;> first|(simp at hc;done)|(obtain⟨_,_,e⟩:=ζf.1 hc;cases e)|cases hc
 | ops l=>
  intro code F H r hc h
  cases code with
  | region id ops u=>
   simp only[bQ]at hc;split at hc
   .split at hc
    .obtain⟨_,_,e⟩:=ζf.1 hc;cases e
    simp at hc
   rename_i I;obtain⟨U,G,e⟩:=ζf.1 hc;cases e;simp only[gV]at h;obtain⟨⟨F',H'⟩,hv,rfl⟩:=ζf.1 h;simp only[exec,jk,I];rw[if_neg Zc,FM D _ G hv];rfl
  | _=>simp only[bQ]at hc;(repeat' split at hc) <;> first|(simp at hc;done)|(obtain⟨_,_,e⟩:=ζf.1 hc;cases e)|cases hc
 | oQ l=>
  intro code F H r hc h
  cases code with
  | region id ops u=>
   simp only[bQ]at hc;split at hc
   .rename_i I;split at hc
    .rename_i J;obtain⟨U,G,e⟩:=ζf.1 hc;cases e;simp only[gV]at h;split at h
     next W=>obtain⟨⟨F',H'⟩,hv,rfl⟩:=ζf.1 h;have Y:qP ops.toList=false:=Cy D _ G W;have:=Gw D ops.toList (i:=0) rfl G hv;rw[<-List.range_eq_range']at this;simp only[exec,jk,I,J,if_true,Y,Bool.false_eq_true,if_false,this];rfl
     simp at h
    simp at hc
   obtain⟨_,_,e⟩:=ζf.1 hc;cases e
  | _=>simp only[bQ]at hc;(repeat' split at hc) <;> first|(simp at hc;done)|(obtain⟨_,_,e⟩:=ζf.1 hc;cases e)|cases hc
 | seq a b w B=>
  intro code F H r hc h
  cases code with
  | seq L O=>
   simp only[bQ]at hc;split at hc
   .rename_i x y C Q;cases hc;simp only[gV]at h;simp only[exec]
    cases hva:gV X.E N call lf a F H with
    | none=>rw[hva]at h;simp at h
    | some q=>
     rw[hva]at h;rw[w L F H q C hva];obtain⟨o,F1,H1⟩:=q
     cases o with
     | norm=>exact B O F1 H1 r Q h
     | exit _=>exact h
     | ret=>exact h
   simp at hc
  | region id ops u=>simp only[bQ]at hc;(repeat' split at hc) <;> first|(simp at hc;done)|(obtain⟨_,_,e⟩:=ζf.1 hc;cases e)
  | _=>simp only[bQ]at hc;(repeat' split at hc) <;> first|(simp at hc;done)|(obtain⟨_,_,e⟩:=ζf.1 hc;cases e)|cases hc
 | cond x a b w B=>
  intro code F H r hc h
  cases code with
  | cond c L O=>
   simp only[bQ]at hc;split at hc
   .rename_i x' y z C Q Z;cases hc;simp only[gV]at h;simp only[exec,Ja (F:=F) D C];split at h
    .rename_i t ht;rw[ht]
     cases t with
     | true=>simp only[if_true]at h ⊢;exact w L F H r Q h
     | false=>simp only[Bool.false_eq_true,if_false]at h ⊢;exact B O F H r Z h
    simp at h
   simp at hc
  | region id ops u=>simp only[bQ]at hc;(repeat' split at hc) <;> first|(simp at hc;done)|(obtain⟨_,_,e⟩:=ζf.1 hc;cases e)
  | _=>simp only[bQ]at hc;(repeat' split at hc) <;> first|(simp at hc;done)|(obtain⟨_,_,e⟩:=ζf.1 hc;cases e)|cases hc
 | block id c S=>
  intro code F H r hc h
  cases code with
  | block T c'=>
   simp only[bQ]at hc;obtain⟨x,C,e⟩:=ζf.1 hc;cases e;simp only[gV]at h;simp only[exec]
   cases hva:gV X.E N call lf c F H with
   | none=>rw[hva]at h;simp at h
   | some q=>
    rw[hva]at h;rw[S c' F H q C hva];exact h
  | region id ops u=>simp only[bQ]at hc;(repeat' split at hc) <;> first|(simp at hc;done)|(obtain⟨_,_,e⟩:=ζf.1 hc;cases e)
  | _=>simp only[bQ]at hc;(repeat' split at hc) <;> first|(simp at hc;done)|(obtain⟨_,_,e⟩:=ζf.1 hc;cases e)|cases hc
 | loop c S=>
  intro code F H r hc h
  cases code with
  | loop c'=>
   simp only[bQ]at hc;obtain⟨x,C,e⟩:=ζf.1 hc;cases e;simp only[gV]at h;simp only[exec];exact Gt (λF H r hr=>S c' F H r C hr) lf F H r h
  | region id ops u=>simp only[bQ]at hc;(repeat' split at hc) <;> first|(simp at hc;done)|(obtain⟨_,_,e⟩:=ζf.1 hc;cases e)
  | _=>simp only[bQ]at hc;(repeat' split at hc) <;> first|(simp at hc;done)|(obtain⟨_,_,e⟩:=ζf.1 hc;cases e)|cases hc
 | exit id=>
  intro code F H r hc h
  cases code with
  | exit T=>simp only[bQ,ζa,RC.exit.injEq]at hc;subst hc;exact h
  | region id ops u=>simp only[bQ]at hc;(repeat' split at hc) <;> first|(simp at hc;done)|(obtain⟨_,_,e⟩:=ζf.1 hc;cases e)
  | _=>simp only[bQ]at hc;(repeat' split at hc) <;> first|(simp at hc;done)|(obtain⟨_,_,e⟩:=ζf.1 hc;cases e)|cases hc
 | ret=>
  intro code F H r hc h
  cases code with
  | ret=>exact h
  | region id ops u=>simp only[bQ]at hc;(repeat' split at hc) <;> first|(simp at hc;done)|(obtain⟨_,_,e⟩:=ζf.1 hc;cases e)
  | _=>simp only[bQ]at hc;(repeat' split at hc) <;> first|(simp at hc;done)|(obtain⟨_,_,e⟩:=ζf.1 hc;cases e)|cases hc
 | _=>intro code F H r hc h;simp[gV]at h
end
def Ex (E:Env) (N:Nat->FuncId) (rc:RC) (F:Frame) (H:bl) (o:Out) (F':Frame) (H':bl):Prop:=
 ∃n,∀k,n<=k->gV E N (run E k) k rc F H=some (o,F',H')
def lI (E:Env) (N:Nat->FuncId) (rc:RC) (F:Frame) (H:bl) (o:Out) (F':Frame) (H':bl):Prop:=
 ∃n,∀k,n<=k->∀u,n<=u->kr (gV E N (run E k) k rc) u F H=some (o,F',H')
section
variable {E:Env} {N:Nat->FuncId} {a b c:RC} {F F1 F':Frame} {H H1 H':bl} {o:Out} {x:Arg} {id:Nat}
theorem Ex.ops {l:List RO} (h:∃n,∀k,n<=k->cE E N (run E k) none l F H=some (F',H')):Ex E N (.ops l) F H .norm F' H':=
 let ⟨n,h⟩:=h;⟨n,λk hk=>by simp only[gV,h k hk,Option.map_some]⟩
theorem Ex.cZ {l:List RO} (h:∀call,cE E N call none l F H=some (F',H')):Ex E N (.ops l) F H .norm F' H':=Ex.ops ⟨0,λk _=>h _⟩
theorem Ex.oQ {l:List RO} (B:wU l=true) (h:∀call,cE E N call (some H.length) l F H=some (F',H')):Ex E N (.oQ l) F H .norm F' H':=
 ⟨0,λk _=>by simp only[gV,B,if_true,h,Option.map_some]⟩
theorem Ex.KW {l:List RO} (B:wU l=true) (h:∃n,∀k,n<=k->cE E N (run E k) (some H.length) l F H=some (F',H')):Ex E N (.oQ l) F H .norm F' H':=
 let ⟨n,h⟩:=h;⟨n,λk hk=>by simp only[gV,B,if_true,h k hk,Option.map_some]⟩
theorem Ex.skip:Ex E N .skip F H .norm F H:=⟨0,λ_ _=>rfl⟩
theorem Ex.exit:Ex E N (.exit id) F H (.exit id) F H:=⟨0,λ_ _=>rfl⟩
theorem Ex.ret:Ex E N .ret F H .ret F H:=⟨0,λ_ _=>rfl⟩
theorem Ex.seq (h1:Ex E N a F H .norm F1 H1) (B:Ex E N b F1 H1 o F' H'):Ex E N (.seq a b) F H o F' H':=by
 obtain⟨n,h1⟩:=h1;obtain⟨m,B⟩:=B;exact⟨max n m,λk hk=>by simp only[gV,h1 k Za];exact B k Za⟩
theorem Ex.tf (h1:Ex E N a F H o F' H') (B:o≠.norm):Ex E N (.seq a b) F H o F' H':=by
 obtain⟨n,h1⟩:=h1;refine⟨n,λk hk=>?_⟩
 simp only[gV,h1 k hk];cases o <;> first|exact absurd rfl B|rfl
theorem Ex.mL (B:bz N F x=.bool true) (h:Ex E N a F H o F' H'):Ex E N (.cond x a b) F H o F' H':=by
 obtain⟨n,h⟩:=h;exact⟨n,λk hk=>by simp only[gV,B,if_true,h k hk]⟩
theorem Ex.oK (B:bz N F x=.bool false) (h:Ex E N b F H o F' H'):Ex E N (.cond x a b) F H o F' H':=by
 obtain⟨n,h⟩:=h;exact⟨n,λk hk=>by simp only[gV,B,Bool.false_eq_true,if_false,h k hk]⟩
theorem Ex.block (h:Ex E N c F H .norm F' H'):Ex E N (.block id c) F H .norm F' H':=by
 obtain⟨n,h⟩:=h;exact⟨n,λk hk=>by simp only[gV,h k hk]⟩
theorem Ex.tQ (h:Ex E N c F H (.exit id) F' H'):Ex E N (.block id c) F H .norm F' H':=by
 obtain⟨n,h⟩:=h;exact⟨n,λk hk=>by simp only[gV,h k hk,if_true]⟩
theorem Ex.My (h:Ex E N c F H .ret F' H'):Ex E N (.block id c) F H .ret F' H':=by
 obtain⟨n,h⟩:=h;exact⟨n,λk hk=>by simp only[gV,h k hk]⟩
theorem Ex.loop (h:lI E N c F H o F' H'):Ex E N (.loop c) F H o F' H':=by
 obtain⟨n,h⟩:=h;exact⟨n,λk hk=>h k hk k hk⟩
theorem lI.step (h1:Ex E N c F H .norm F1 H1) (B:lI E N c F1 H1 o F' H'):lI E N c F H o F' H':=by
 obtain⟨n,h1⟩:=h1;obtain⟨m,B⟩:=B;refine⟨max n m+1,λk hk u w=>?_⟩
 cases u with
 | zero=>omega
 | succ u=>simp only[kr,h1 k Za];exact B k Za u Za
theorem lI.stop (h1:Ex E N c F H o F' H') (B:o≠.norm):lI E N c F H o F' H':=by
 obtain⟨n,h1⟩:=h1;refine⟨n+1,λk hk u w=>?_⟩
 cases u with
 | zero=>omega
 | succ u=>
  simp only[kr,h1 k Za]
  cases o <;> first|exact absurd rfl B|rfl
end
theorem Ex.run {E:Env} {nm:FuncId->Option Nat} {N:Nat->FuncId} (B:∀f s,nm f=some s->N s=f) {f:FuncId} {fi:FI} {rc:RC} (D:E.ft f=some fi) (hc:bQ ⟨E,nm,fi.ntmps⟩ false fi.body=some rc) {args:List V} (G:args.length<=fi.ntmps) {H H':bl} {F':Frame}
 (h:Ex E N rc args H .ret F' H') {vs:List V} (hr:iq E F' H' fi.results=some vs):∃n,run E n (.fn f) args H=some (result vs,H'):=by
 obtain⟨n,h⟩:=h;refine⟨n+1,?_⟩;have:=Ou (X:=⟨E,nm,fi.ntmps⟩) (call:=Go.VE.run E n) B (lf:=n) rc fi.body args H _ hc (h n (Nat.le_refl _));simp only[Go.VE.run,jx,D,if_pos G,this,hr,Option.map_some]
@[simp] theorem bA (F:Frame) (i j:Nat) (v:V):get (set F i v) j=if i=j then v else get F j:=by
 split
 next h=>subst h;exact rX F i v
 rename_i h;exact gU F v h
def refs:List Nat->List (List V)->List (List V)
 | id::ids,r::rs=>[V.hsl id 1 0 r.length]::refs ids rs
 | _,_=>[]
def iW (r:List V):List (List V):=r.map λu=>[u]
structure l_ (H:bl) (w:V) (o:Nat) (ids:List Nat) (rows:List (List V)):Prop where
 v:w=if rows=[]then .bK else .hsl o 1 0 rows.length
 ob:rows≠[]->H[o]? = some (.row 1 (refs ids rows))
 len:ids.length=rows.length
 r:∀(i id:Nat) (r:List V),ids[i]? = some id->rows[i]? = some r->H[id]? = some (.row 1 (iW r))
 nd:ids.Nodup
 ne:rows≠[]->o∉ids
theorem ta:∀{ids:List Nat} {rows:List (List V)},ids.length=rows.length->(refs ids rows).length=rows.length
 | [],[],_=>rfl
 | _::ids,_::rows,h=>by simp only[refs,List.length_cons,ta (ids:=ids) (rows:=rows) (by simpa using h)]
theorem GR:∀{ids:List Nat} {rows:List (List V)} (id:Nat) (r:List V),ids.length=rows.length->refs (ids++[id]) (rows++[r])=refs ids rows++[[V.hsl id 1 0 r.length]]
 | [],[],_,_,_=>rfl
 | _::ids,_::rows,id,r,h=>by simp only[refs,List.cons_append,GR (ids:=ids) (rows:=rows) id r (by simpa using h)]
theorem BF:∀{ids:List Nat} {rows:List (List V)} {i id:Nat} {r:List V},ids[i]? = some id->rows[i]? = some r->(refs ids rows)[i]? = some [V.hsl id 1 0 r.length]
 | [],_,_,_,_,h,_=>by simp at h
 | _::_,[],_,_,_,_,h=>by simp at h
 | a::ids,b::rows,0,id,r,h1,B=>by simp at h1 B;subst h1 B;rfl
 | a::ids,b::rows,i+1,id,r,h1,B=>by simpa [refs]using BF (ids:=ids) (rows:=rows) (i:=i) (by simpa using h1) (by simpa using B)
theorem Gs:∀{ids:List Nat} {rows:List (List V)} {i:Nat} {r B:List V},rows[i]? = some r->B.length=r.length->refs ids (rows.set i B)=refs ids rows
 | [],_,_,_,_,_,_=>by simp[refs]
 | _::_,[],_,_,_,_,_=>by simp[refs]
 | a::ids,b::rows,0,r,B,h,D=>by simp at h;subst h;simp only[List.set_cons_zero,refs,D]
 | a::ids,b::rows,i+1,r,B,h,D=>by simp only[List.set_cons_succ,refs,Gs (ids:=ids) (rows:=rows) (i:=i) (by simpa using h) D]
section
variable {H H':bl} {v:V} {o:Nat} {ids:List Nat} {rows:List (List V)}
theorem l_.nil (H:bl) (o:Nat):l_ H .bK o [] []:=⟨rfl,λh=>absurd rfl h,rfl,λi id r h=>by simp at h,.nil,λh=>absurd rfl h⟩
theorem l_.heap (n:l_ H v o ids rows) (B:rows≠[]->H'[o]? = H[o]?) (D:∀id∈ids,H'[id]? = H[id]?):l_ H' v o ids rows:=
 ⟨n.v,λh=>by rw[B h];exact n.ob h,n.len,λi id r h1 u=>by rw[D id (List.mem_of_getElem? h1)];exact n.r i id r h1 u,n.nd,n.ne⟩
theorem l_.lt (n:l_ H v o ids rows):(rows≠[]->o<H.length)/\∀id∈ids,id<H.length:=by
 refine⟨λh=>(ζe.1 (n.ob h)).1,λid u=>?_⟩
 obtain⟨i,w⟩:=List.getElem?_of_mem u;have z:=(ζe.1 w).1;have:=n.r i id _ w (ζd (show i<rows.length from n.len▸z));exact(ζe.1 this).1
theorem l_.more (n:l_ H v o ids rows) (X:bl):l_ (H++X) v o ids rows:=
 n.heap (λh=>List.getElem?_append_left (n.lt.1 h)) λid u=>List.getElem?_append_left (n.lt.2 id u)
theorem l_.push (n:l_ H v o ids rows) (r:List V) (U:rows.length+1<=2147483648) :
 ∃H',eZ (H++[.row 1 (iW r)]++[.row 1 [[.hsl H.length 1 0 r.length]]]) (.append 1) [v,.hsl (H.length+1) 1 0 1]=some (.hsl (H.length+2) 1 0 (rows.length+1),H') /\
  l_ H' (.hsl (H.length+2) 1 0 (rows.length+1)) (H.length+2) (ids++[H.length]) (rows++[r])/\H.length<=H'.length/\(∀id,id<H.length->id≠o\/rows=[]->H'[id]? = H[id]?):=by
 generalize D:H++[.row 1 (iW r)]++[.row 1 [[.hsl H.length 1 0 r.length]]]=H2;have u:H2.length=H.length+2:=by subst D;simp
 have B:∀id,id<H.length->H2[id]? = H[id]? := λid h=>by
  subst D;rw[List.append_assoc,List.getElem?_append_left h]
 have h1:H2[H.length]? = some (.row 1 (iW r)):=by subst D;simp
 have W:H2[H.length+1]? = some (.row 1 [[.hsl H.length 1 0 r.length]]):=by subst D;simp
 have hv:=n.v;have e2:dG H2 1 (.hsl (H.length+1) 1 0 1)=some [[.hsl H.length 1 0 r.length]]:=by
  simp[dG,W,Ob.rows]
 by_cases hr:rows=[]
 .subst hr;rw[if_pos rfl]at hv;subst hv;have:ids=[]:=List.eq_nil_of_length_eq_zero n.len;subst this;refine⟨H2++[.row 1 [[.hsl H.length 1 0 r.length]]],?_,⟨by simp,λ_=>by rw[<-u];simp[refs],rfl,λi id Q z w=>?_,by simp,λ_=>by simp⟩,by simp[u];omega,λid G _=>?_⟩
  .have e1:dG H2 1 .bK=some []:=rfl;simp only[eZ,e1,e2,gH,List.length_nil,List.length_singleton,Option.map_some,u];simp
  .cases i with
   | zero=>
    simp at z w;subst z w;rw[List.getElem?_append_left Za];exact h1
   | succ i=>simp at z
  rw[List.getElem?_append_left Za];exact B id G
 rw[if_neg hr]at hv;subst hv;have S:=n.ob hr;have J:=n.lt.1 hr;have e1:dG H2 1 (.hsl o 1 0 rows.length)=some (refs ids rows):=by
  simp only[dG,if_true,B o J,S,ζb,Ob.rows,ta n.len,Nat.zero_add,Nat.le_refl,List.drop_zero];rw[List.take_of_length_le (by rw[ta n.len];exact Nat.le_refl _)]
 have X:gH H2 (.hsl o 1 0 rows.length)=some (H2.set o .dead):=by
  simp only[gH,B o J,S]
 have C:∀id,id≠o->(H2.set o Ob.dead++[Ob.row 1 (refs ids rows++[[.hsl H.length 1 0 r.length]])])[id]? = if id<H2.length then H2[id]? else(H2.set o Ob.dead++[Ob.row 1 (refs ids rows++[[.hsl H.length 1 0 r.length]])])[id]? := λid I=>by
  split
  next h=>rw[List.getElem?_append_left (by simpa using h),List.getElem?_set_ne (Ne.symm I)]
  rfl
 refine⟨H2.set o .dead++[.row 1 (refs ids rows++[[.hsl H.length 1 0 r.length]])],?_,⟨by simp,λ_=>?_,by simp[n.len],λi id Q z w=>?_,?_,λ_ hm=>?_⟩,by simp[u];omega,λid G I=>?_⟩
 .simp only[eZ,e1,e2,X,ta n.len,List.length_singleton,U,if_true,Option.map_some,u]
 .rw[GR _ _ n.len,<-u];simp
 .have L:id≠o:=by
   rcases Nat.lt_or_ge i ids.length with h|h
   .rw[List.getElem?_append_left h]at z;intro e;subst e;exact n.ne hr (List.mem_of_getElem? z)
   have:i=ids.length:=by have:=(ζe.1 z).1;simp at this;omega
   subst this;simp at z;subst z;omega
  rcases Nat.lt_or_ge i ids.length with h|h
  .rw[List.getElem?_append_left h]at z;rw[List.getElem?_append_left (by rw[<-n.len];exact h)]at w
   have O:=n.lt.2 id (List.mem_of_getElem? z);rw[C id L,if_pos Za,B id O]
   exact n.r i id Q z w
  have:i=ids.length:=by have:=(ζe.1 z).1;simp at this;omega
  subst this;simp at z;subst z;rw[n.len]at w;simp at w;subst w;rw[C _ L,if_pos Za];exact h1
 .rw[List.nodup_append];exact⟨n.nd,by simp,λa Y b T=>by simp at T;subst T;exact Nat.ne_of_lt (n.lt.2 a Y)⟩
 .rcases List.mem_append.1 hm with hm|hm
  .have:=n.lt.2 _ hm;omega
  simp at hm
 rw[C id (I.resolve_right hr),if_pos Za];exact B id G
end
theorem jA {E:Env} {N:Nat->FuncId} {F:Frame} {H H1:bl} {call:dx} {b:Option Nat} {o:RO} {l:List RO} {v:V} {r:Frame×bl} (hg:o.gd=none) (hv:bE E N call b o.now o.k (o.az.map (bz N F)) H=some (v,H1)) (h:cE E N call b l (bu F o.dst v) H1=some r):cE E N call b (o::l) F H=some r:=by
 simp only[cE,hg,hv];exact h
theorem vp {E:Env} {N:Nat->FuncId} {F:Frame} {H:bl} {call:dx} {b:Option Nat} {o:RO} {l:List RO} {v:V} {r:Frame×bl} (hg:o.gd=none) (hv:bE E N call b o.now o.k (o.az.map (bz N F)) H=some (v,H)) (h:cE E N call b l (bu F o.dst v) H=some r):cE E N call b (o::l) F H=some r:=jA hg hv h
theorem dY {E:Env} {N:Nat->FuncId} {F:Frame} {H:bl} {call:dx} {b:Option Nat}:cE E N call b [] F H=some (F,H):=rfl
theorem wM {n:Nat} (h:n<=2147483648):IntKind.wrap .i64 ((n:Int)+1)=((n+1:Nat):Int):=by
 simp[IntKind.wrap,IntKind.bits,IntKind.signed];omega
theorem Vs {n:Nat} (h:n<=2147483648):IntKind.wrap .i64 (((n+1:Nat):Int)-1)=(n:Int):=by
 simp[IntKind.wrap,IntKind.bits,IntKind.signed];omega
theorem jK (H:bl):H.take H.length=H:=List.take_length
theorem Bo {E:Env} {nm:FuncId->Option Nat} {f:FuncId} {rc:RC} {n:Nat} {rs:List ResultVar} (h:((E.ft f).map λfi=>(bQ ⟨E,nm,fi.ntmps⟩ false fi.body,Nat.ble n fi.ntmps,fi.results))=some (some rc,true,rs)) :
 ∃fi,E.ft f=some fi/\bQ ⟨E,nm,fi.ntmps⟩ false fi.body=some rc/\n<=fi.ntmps/\fi.results=rs:=by
 obtain⟨fi,h1,u⟩:=ζf.1 h;simp only[ζc]at u;exact⟨fi,h1,u.1,Nat.le_of_ble_eq_true u.2.1,u.2.2⟩
theorem D3 {x:V} (h:x.one=true):x.cells=[x]:=by
 cases x <;> first|rfl|(simp[V.one]at h)
theorem TN {call:dx} {f:FuncId} {args az:List V} {H:bl} (h:borrows call.lv H args=some az) (hc:∀x∈az,x.closed=true):cg call f args H=cg call f az []:=by
 have:borrows call.lv [] az=some az:=by
  clear h
  unfold borrows
  induction az with
  | nil=>rfl
  | cons x l u=>simp only[hG,eA call.lv [] (hc x Zc),u λy w=>hc y (List.mem_cons_of_mem _ w)]
 unfold cg;rw[h,this]
def kept (t:Nat->Bool) (n:Nat):List Nat:=(List.range n).filter λi=>i==0 || !t i
theorem vB (t:Nat->Bool) (n:Nat):kept t (n+1)=kept t n++if n==0 || !t n then [n]else []:=by
 unfold kept;rw[List.range_succ,List.filter_append,List.filter_cons];rfl
theorem Aq (t:Nat->Bool):∀n,(kept t n).length<=n:=λn=>by
 unfold kept;exact Nat.le_trans (List.length_filter_le ..) Zc
theorem II {t:Nat->Bool} {n i:Nat} (h:i∈kept t n):i<n:=by
 unfold kept at h;exact List.mem_range.1 (List.mem_filter.1 h).1
theorem Bb {t:Nat->Bool}:∀n,(∀i,0<i->i<n->t i=false)->kept t n=List.range n
 | 0,_=>rfl
 | n+1,h=>by
  rw[vB,Bb n λi h1 B=>h i h1 Za,List.range_succ]
  congr 1
  cases n with
  | zero=>rfl
  | succ n=>rw[h (n+1) Za Za];simp
theorem zY {t:Nat->Bool} {k:Nat} (h0:0<k) (hk:t k=true):∀n,k<n->(kept t n).length+1<=n
 | 0,h=>by omega
 | n+1,h=>by
  rw[vB]
  by_cases e:n=k
  .subst e;have:(n==0 || !t n)=false:=by simp[hk];omega
   rw[this];have:=Aq t n;simp;omega
  have:=zY h0 hk n Za
  split <;> simp <;> omega
namespace cmpX
instance {n:Nat}:OfNat Arg n:=⟨.s n⟩
def r1:List RO:=[o1 4 (.k (.bK)) []]
def r2:List RO:=[o1 8 0 [],o2 9 (.p .lenSl) [8] [],o2 10 (.p (.bin (some .int) none .lss)) [9,.k (.int .i64 2)] []]
def r3:List RO:=[o1 11 0 [],o1 4 11 []]
def r4:List RO:=[o1 5 (.k (.int .i64 1)) []]
def r5:List RO:=[o1 12 5 [],o1 13 0 [],o2 14 (.p .lenSl) [13] [],o2 15 (.p (.bin (some .int) none .lss)) [12,14] []]
def on (d:Nat) (k:K) (az:List Arg):RO:=⟨some d,none,true,k,az,[],[]⟩
def r6:List RO:=[o1 18 1 [],o1 19 0 [],o1 20 5 [],o2 21 (.p (.idxS 1)) [19,20] [],o2 22 (.r (.load 1 false)) [21] [],o1 23 0 [],o1 24 5 [],o2 25 (.p (.bin (some .int) none .sub)) [24,.k (.int .i64 1)] [],o2 26 (.p (.idxS 1)) [23,25] [],o2 27 (.r (.load 1 false)) [26] [],on 28 .c [18,22,27]]
def r7:List RO:=[o1 29 0 [],o1 30 5 [],o2 31 (.p (.slice 1 true false)) [29,30] [],o1 6 31 []]
def r8:List RO:=[o1 7 (.k (.int .i64 1)) []]
def r9:List RO:=[o1 32 7 [],o1 33 6 [],o2 34 (.p .lenSl) [33] [],o2 35 (.p (.bin (some .int) none .lss)) [32,34] []]
def CM:List RO:=[o1 38 1 [],o1 39 6 [],o1 40 7 [],o2 41 (.p (.idxS 1)) [39,40] [],o2 42 (.r (.load 1 false)) [41] [],o1 43 6 [],o1 44 7 [],o2 45 (.p (.bin (some .int) none .sub)) [44,.k (.int .i64 1)] [],o2 46 (.p (.idxS 1)) [43,45] [],o2 47 (.r (.load 1 false)) [46] [],on 48 .c [38,42,47],on 49 (.p (.not)) [48]]
def ES:List RO:=[o1 50 0 [],o1 51 5 [],o1 52 6 [],o1 53 7 [],o2 54 (.p (.idxS 1)) [52,53] [],o2 55 (.r (.load 1 false)) [54] [],o2 56 (.p (.idxS 1)) [50,51] [],⟨none,none,false,.l (.store 1),[56,55],[],[]⟩]
def EV:List RO:=[o1 57 5 [],o2 58 (.p (.bin (some .int) none .add)) [57,.k (.int .i64 1)] [],o1 5 58 []]
def DQ:List RO:=[o1 36 7 [],o2 37 (.p (.bin (some .int) none .add)) [36,.k (.int .i64 1)] [],o1 7 37 []]
def VO:RC:=.seq (.seq (.ops r9) (.cond (.s 35) (.skip) (.exit 2))) (.seq (.block 3 (.seq (.oQ CM) (.cond (.s 49) (.seq (.ops ES) (.ops EV)) (.skip)))) (.ops DQ))
def Cr:List RO:=[o1 59 0 [],o1 60 5 [],o2 61 (.p (.slice 1 true false)) [59,60] [],⟨none,none,false,.l (.clear 1 [.bK]),[61],[],[]⟩]
def EP:List RO:=[o1 62 0 [],o1 63 5 [],o2 64 (.p (.slice 1 false true)) [62,63] [],o1 4 64 []]
def D6:List RO:=[o1 16 5 [],o2 17 (.p (.bin (some .int) none .add)) [16,.k (.int .i64 1)] [],o1 5 17 []]
def QG:RC:=.seq (.seq (.ops r5) (.cond (.s 15) (.skip) (.exit 0))) (.seq (.block 1 (.seq (.oQ r6) (.cond (.s 28) (.seq (.ops r7) (.seq (.seq (.ops r8) (.block 2 (.loop VO))) (.seq (.ops Cr) (.seq (.ops EP) (.ret))))) (.skip)))) (.ops D6))
def MK:List RO:=[o1 65 0 [],o1 4 65 []]
def code:RC:=.seq (.ops r1) (.seq (.seq (.ops r2) (.cond (.s 10) (.seq (.ops r3) (.ret)) (.skip))) (.seq (.seq (.ops r4) (.block 0 (.loop QG))) (.seq (.ops MK) (.ret))))
section
variable {E:Env} {N:Nat->FuncId} {F:Frame} {H:bl} {call:dx} {id off L k:Nat}
theorem ld {B:List (List V)} {el:Nat} {v:V} (h:H[id]? = some (.row 1 B)) (hv:B[el]? = some [v]):eR H (.load 1 false) [.hptr id el 0]=some v:=by
 simp[eR,ey,h,Ob.rows,hv,cut,mk]
theorem QD {i:Nat} (h:i<L):lu 1 (.hsl id 1 off L) (i:Int)=some (.hptr id (off+i) 0):=by
 unfold lu;rw[if_neg Za];simp[h]
theorem x2 (f0:get F 0=.hsl id 1 off L):∃F',(∀call,cE E N call none r2 F H=some (F',H))/\get F' 10=.bool (decide ((L:Int)<2))/\(∀s,s<8->get F' s=get F s):=by
 refine⟨_,λcall=>vp (v:=.hsl id 1 off L) rfl ?_ <| vp (v:=.int .i64 L) rfl ?_ <| vp (v:=.bool (decide ((L:Int)<2))) rfl ?_ dY,?_,?_⟩
 .simp[bE,bz,bn,f0]
 .simp[bE,bz,bn,bu,nG]
 .simp[bE,bz,bn,bu,gN,nJ]
 .simp[bu]
 intro s u;simp only[bu,bA]
 repeat (rw[if_neg Za])
theorem x5 (f0:get F 0=.hsl id 1 off L) (f5:get F 5=.int .i64 k):∃F',(∀call,cE E N call none r5 F H=some (F',H))/\get F' 15=.bool (decide (k<L))/\(∀s,s<8->get F' s=get F s):=by
 refine⟨_,λcall=>vp (v:=.int .i64 k) rfl ?_ <| vp (v:=.hsl id 1 off L) rfl ?_ <| vp (v:=.int .i64 L) rfl ?_ <| vp (v:=.bool (decide (k<L))) rfl ?_ dY,?_,?_⟩
 .simp[bE,bz,bn,f5]
 .simp[bE,bz,bn,bu,f0]
 .simp[bE,bz,bn,bu,nG]
 .simp[bE,bz,bn,bu,gN,nJ]
 .simp[bu]
 intro s u;simp only[bu,bA]
 repeat (rw[if_neg Za])
theorem Un {g:FuncId} {cb:List V} {B:List (List V)} {o2 L2 i:Nat} {a b:V} {t:Bool} (h:H[id]? = some (.row 1 B)) (G:i+1<L2) (D:i<=2147483648) (J:B[o2+(i+1)]? = some [a]) (O:B[o2+i]? = some [b]) (hk:E.keep g=false) (f1:get F 1=.clo g [] cb) :
 (get F 0=.hsl id 1 o2 L2->get F 5=.int .i64 ((i+1:Nat):Int)->∃F',(∀call,cg call g (a::b::cb) H=some (.bool t)->cE E N call (some H.length) r6 F H=some (F',H))/\get F' 28=.bool t/\(∀s,s<8->get F' s=get F s)) /\
 (get F 6=.hsl id 1 o2 L2->get F 7=.int .i64 ((i+1:Nat):Int)->∃F',(∀call,cg call g (a::b::cb) H=some (.bool t)->cE E N call (some H.length) CM F H=some (F',H))/\get F' 49=.bool (!t)/\(∀s,s<8->get F' s=get F s)):=by
 have u:=Vs D;have e1:=ld h J;have e2:=ld h O;have i1:=QD (id:=id) (off:=o2) (L:=L2) G;have i2:=QD (id:=id) (off:=o2) (L:=L2) (show i<L2 by omega)
 refine⟨λf0 f5=>⟨_,λcall hc=>vp (v:=.clo g [] cb) rfl ?_ <| vp (v:=.hsl id 1 o2 L2) rfl ?_ <| vp (v:=.int .i64 ((i+1:Nat):Int)) rfl ?_ <| vp (v:=.hptr id (o2+(i+1)) 0) rfl ?_ <| vp (v:=a) rfl ?_ <| vp (v:=.hsl id 1 o2 L2) rfl ?_ <| vp (v:=.int .i64 ((i+1:Nat):Int)) rfl ?_ <|
  vp (v:=.int .i64 (i:Int)) rfl ?_ <| vp (v:=.hptr id (o2+i) 0) rfl ?_ <| vp (v:=b) rfl ?_ <| vp (v:=.bool t) rfl ?_ dY,?_,?_⟩,λf6 f7=>⟨_,λcall hc=>vp (v:=.clo g [] cb) rfl ?_ <| vp (v:=.hsl id 1 o2 L2) rfl ?_ <| vp (v:=.int .i64 ((i+1:Nat):Int)) rfl ?_ <| vp (v:=.hptr id (o2+(i+1)) 0) rfl ?_ <| vp (v:=a) rfl ?_ <| vp (v:=.hsl id 1 o2 L2) rfl ?_ <| vp (v:=.int .i64 ((i+1:Nat):Int)) rfl ?_ <|
  vp (v:=.int .i64 (i:Int)) rfl ?_ <| vp (v:=.hptr id (o2+i) 0) rfl ?_ <| vp (v:=b) rfl ?_ <| vp (v:=.bool t) rfl ?_ <| vp (v:=.bool (!t)) rfl ?_ dY,?_,?_⟩⟩
 .simp[bE,bz,bn,f1]
 .simp[bE,bz,bn,bu,f0]
 .simp only[bE,List.map_cons,List.map_nil,bz,bu,bA,Nat.reduceEqDiff,if_true,if_false,f5,bn];rfl
 .simp only[bE,List.map_cons,List.map_nil,bz,bu,bA,Nat.reduceEqDiff,if_true,if_false,bn];rw[i1];rfl
 .simp only[bE,List.map_cons,List.map_nil,bz,bu,bA,Nat.reduceEqDiff,if_true,if_false,jK];rw[e1];rfl
 .simp[bE,bz,bn,bu,f0]
 .simp only[bE,List.map_cons,List.map_nil,bz,bu,bA,Nat.reduceEqDiff,if_true,if_false,f5,bn];rfl
 .simp only[bE,List.map_cons,List.map_nil,bz,bu,bA,Nat.reduceEqDiff,if_true,if_false,bn,gN,u];rfl
 .simp only[bE,List.map_cons,List.map_nil,bz,bu,bA,Nat.reduceEqDiff,if_true,if_false,bn];rw[i2];rfl
 .simp only[bE,List.map_cons,List.map_nil,bz,bu,bA,Nat.reduceEqDiff,if_true,if_false,jK];rw[e2];rfl
 .simp only[bE,on,List.map_cons,List.map_nil,bz,bu,bA,Nat.reduceEqDiff,if_true,if_false,jK,hk,Bool.false_eq_true,List.nil_append,List.cons_append,hc,V.scalar]
 .simp[bu,on]
 .intro s w;simp only[bu,on,bA]
  repeat (rw[if_neg Za])
 .simp[bE,bz,bn,f1]
 .simp[bE,bz,bn,bu,f6]
 .simp only[bE,List.map_cons,List.map_nil,bz,bu,bA,Nat.reduceEqDiff,if_true,if_false,f7,bn];rfl
 .simp only[bE,List.map_cons,List.map_nil,bz,bu,bA,Nat.reduceEqDiff,if_true,if_false,bn];rw[i1];rfl
 .simp only[bE,List.map_cons,List.map_nil,bz,bu,bA,Nat.reduceEqDiff,if_true,if_false,jK];rw[e1];rfl
 .simp[bE,bz,bn,bu,f6]
 .simp only[bE,List.map_cons,List.map_nil,bz,bu,bA,Nat.reduceEqDiff,if_true,if_false,f7,bn];rfl
 .simp only[bE,List.map_cons,List.map_nil,bz,bu,bA,Nat.reduceEqDiff,if_true,if_false,bn,gN,u];rfl
 .simp only[bE,List.map_cons,List.map_nil,bz,bu,bA,Nat.reduceEqDiff,if_true,if_false,bn];rw[i2];rfl
 .simp only[bE,List.map_cons,List.map_nil,bz,bu,bA,Nat.reduceEqDiff,if_true,if_false,jK];rw[e2];rfl
 .simp only[bE,on,List.map_cons,List.map_nil,bz,bu,bA,Nat.reduceEqDiff,if_true,if_false,jK,hk,Bool.false_eq_true,List.nil_append,List.cons_append,hc,V.scalar]
 .simp[bE,on,bz,bn,bu]
 .simp[bu,on]
 intro s w;simp only[bu,on,bA]
 repeat (rw[if_neg Za])
end
end cmpX
namespace cmpX
section
variable {E:Env} {N:Nat->FuncId} {F:Frame} {H:bl} {call:dx} {id off L k:Nat}
theorem x7 (f0:get F 0=.hsl id 1 off L) (f5:get F 5=.int .i64 k) (hk:k<=L):∃F',(∀call,cE E N call none r7 F H=some (F',H))/\get F' 6=.hsl id 1 (off+k) (L-k)/\(∀s,s<8->s≠6->get F' s=get F s):=by
 have e:gO 1 (.hsl id 1 off L) (some k) none=some (.hsl id 1 (off+k) (L-k)):=by
  unfold gO dU
  grind
 refine⟨_,λcall=>vp (v:=.hsl id 1 off L) rfl ?_ <| vp (v:=.int .i64 k) rfl ?_ <| vp (v:=.hsl id 1 (off+k) (L-k)) rfl ?_ <| vp (v:=.hsl id 1 (off+k) (L-k)) rfl ?_ dY,?_,?_⟩
 .simp[bE,bz,bn,f0]
 .simp[bE,bz,bn,bu,f5]
 .simp[bE,bz,bu,bA,bn,lB,e]
 .simp[bE,bz,bn,bu]
 .simp[bu]
 simp[bu,bA]
 grind
theorem x9 {o2 L2 m:Nat} (f6:get F 6=.hsl id 1 o2 L2) (f7:get F 7=.int .i64 m):∃F',(∀call,cE E N call none r9 F H=some (F',H))/\get F' 35=.bool (decide (m<L2))/\(∀s,s<8->get F' s=get F s):=by
 refine⟨_,λcall=>vp (v:=.int .i64 m) rfl ?_ <| vp (v:=.hsl id 1 o2 L2) rfl ?_ <| vp (v:=.int .i64 L2) rfl ?_ <| vp (v:=.bool (decide (m<L2))) rfl ?_ dY,?_,?_⟩
 .simp[bE,bz,bn,f7]
 .simp[bE,bz,bn,bu,f6]
 .simp[bE,bz,bn,bu,nG]
 .simp[bE,bz,bn,bu,gN,nJ]
 .simp[bu]
 simp[bu,bA]
 grind
theorem Tz {B:List (List V)} {o2 L2 m p:Nat} {a z:V} (h:H[id]? = some (.row 1 B)) (f0:get F 0=.hsl id 1 off L) (f5:get F 5=.int .i64 p) (f6:get F 6=.hsl id 1 o2 L2) (f7:get F 7=.int .i64 m) (D:m<L2) (G:p<L)
 (J:B[o2+m]? = some [a]) (O:B[off+p]? = some [z]) (h1:a.one=true) :
 ∃F',(∀call,cE E N call none ES F H=some (F',H.set id (.row 1 (B.set (off+p) [a]))))/\(∀s,s<8->get F' s=get F s):=by
 have i1:=QD (id:=id) (off:=o2)  D;have i2:=QD (id:=id) (off:=off)  G;have e1:=ld h J;have u:eZ H (.store 1) [.hptr id (off+p) 0,a]=some (.undef,H.set id (.row 1 (B.set (off+p) [a]))):=by
  simp[eZ,h,O,D3 h1,h1]
 refine⟨_,λcall=>vp (v:=.hsl id 1 off L) rfl ?_ <| vp (v:=.int .i64 p) rfl ?_ <| vp (v:=.hsl id 1 o2 L2) rfl ?_ <| vp (v:=.int .i64 m) rfl ?_ <| vp (v:=.hptr id (o2+m) 0) rfl ?_ <| vp (v:=a) rfl ?_ <| vp (v:=.hptr id (off+p) 0) rfl ?_ <| jA (v:=.undef)  rfl ?_ dY,?_⟩
 .simp[bE,bz,bn,f0]
 .simp[bE,bz,bn,bu,f5]
 .simp[bE,bz,bn,bu,f6]
 .simp[bE,bz,bn,bu,f7]
 .simp[bE,bz,bu,bA,bn];grind
 .simp[bE,bz,bu,bA];grind
 .simp[bE,bz,bu,bA,bn];grind
 .simp[bE,bz,bu,bA];omega
 simp[bu,bA]
 grind
theorem K_ {p:Nat} (B:p<=2147483648):(get F 5=.int .i64 p->∃F',(∀call,cE E N call none EV F H=some (F',H))/\get F' 5=.int .i64 ((p+1:Nat):Int)/\(∀s,s<8->s≠5->get F' s=get F s)) /\
 (get F 7=.int .i64 p->∃F',(∀call,cE E N call none DQ F H=some (F',H))/\get F' 7=.int .i64 ((p+1:Nat):Int)/\(∀s,s<8->s≠7->get F' s=get F s)) /\
 (get F 5=.int .i64 p->∃F',(∀call,cE E N call none D6 F H=some (F',H))/\get F' 5=.int .i64 ((p+1:Nat):Int)/\(∀s,s<8->s≠5->get F' s=get F s)):=by
 have u:=wM B;refine⟨λf=>⟨_,λcall=>vp (v:=.int .i64 p) rfl ?_ <| vp (v:=.int .i64 (p+1:Nat)) rfl ?_ <| vp (v:=.int .i64 (p+1:Nat)) rfl ?_ dY,?_,?_⟩,
  λf=>⟨_,λcall=>vp (v:=.int .i64 p) rfl ?_ <| vp (v:=.int .i64 (p+1:Nat)) rfl ?_ <| vp (v:=.int .i64 (p+1:Nat)) rfl ?_ dY,?_,?_⟩,
  λf=>⟨_,λcall=>vp (v:=.int .i64 p) rfl ?_ <| vp (v:=.int .i64 (p+1:Nat)) rfl ?_ <| vp (v:=.int .i64 (p+1:Nat)) rfl ?_ dY,?_,?_⟩⟩ <;>
 first
 | (simp[bE,bz,bn,f];done)
 | (simp only[bE,List.map_cons,List.map_nil,bz,bu,bA,if_true,bn,gN,u];rfl)
 | grind
 | (simp[bu];done)
 | (simp[bu,bA];grind)
theorem WM {B:List (List V)} {p:Nat} (h:H[id]? = some (.row 1 B)) (f0:get F 0=.hsl id 1 off L) (f5:get F 5=.int .i64 p) (D:p<L) (G:off+L<=B.length) :
 ∃F',(∀call,cE E N call none Cr F H=some (F',H.set id (.row 1 (B.take (off+p)++List.replicate (L-p) [.bK]++B.drop (off+L)))))/\(∀s,s<8->get F' s=get F s):=by
 have e:gO 1 (.hsl id 1 off L) (some p) none=some (.hsl id 1 (off+p) (L-p)):=by
  unfold gO dU
  grind
 obtain⟨q,u⟩:∃q,L-p=q+1:=⟨L-p-1,by omega⟩
 have hc:eZ H (.clear 1 [.bK]) [.hsl id 1 (off+p) (L-p)]=some (.undef,H.set id (.row 1 (B.take (off+p)++List.replicate (L-p) [.bK]++B.drop (off+L)))):=by
  simp[eZ,CW,u,h]
  grind
 refine⟨_,λcall=>vp (v:=.hsl id 1 off L) rfl ?_ <| vp (v:=.int .i64 p) rfl ?_ <| vp (v:=.hsl id 1 (off+p) (L-p)) rfl ?_ <| jA (v:=.undef)  rfl ?_ dY,?_⟩
 .simp[bE,bz,bn,f0]
 .simp[bE,bz,bn,bu,f5]
 .simp[bE,bz,bu,bA,bn,lB,e]
 .simp only[bE,List.map_cons,List.map_nil,bz,bu,bA,if_true];omega
 simp[bu,bA]
 grind
theorem PY {p:Nat} (f0:get F 0=.hsl id 1 off L) (f5:get F 5=.int .i64 p) (B:p<=L):∃F',(∀call,cE E N call none EP F H=some (F',H))/\get F' 4=.hsl id 1 off p:=by
 have e:gO 1 (.hsl id 1 off L) none (some p)=some (.hsl id 1 off p):=by
  unfold gO dU
  grind
 refine⟨_,λcall=>vp (v:=.hsl id 1 off L) rfl ?_ <| vp (v:=.int .i64 p) rfl ?_ <| vp (v:=.hsl id 1 off p) rfl ?_ <| vp (v:=.hsl id 1 off p) rfl ?_ dY,?_⟩
 .simp[bE,bz,bn,f0]
 .simp[bE,bz,bn,bu,f5]
 .simp[bE,bz,bu,bA,bn,lB,e]
 .simp[bE,bz,bn,bu]
 simp[bu]
theorem WQ:∃F',(∀call,cE E N call none MK F H=some (F',H))/\get F' 4=get F 0:=
 ⟨_,λcall=>vp (v:=get F 0) rfl (by simp[bE,bz,bn]) <| vp (v:=get F 0) rfl (by simp[bE,bz,bn,bu]) dY,by simp[bu]⟩
theorem Oc:∃F',(∀call,cE E N call none r3 F H=some (F',H))/\get F' 4=get F 0:=
 ⟨_,λcall=>vp (v:=get F 0) rfl (by simp[bE,bz,bn]) <| vp (v:=get F 0) rfl (by simp[bE,bz,bn,bu]) dY,by simp[bu]⟩
end
structure Fv (E:Env) (g:FuncId) (cb:List V) (H:bl) (id off L:Nat) (rs:List (List V)) (A:Nat->V) (t:Nat->Bool):Prop where
 row:H[id]? = some (.row 1 rs)
 len:off+L<=rs.length
 small:L<=2147483648
 at_:∀i,i<L->rs[off+i]? = some [A i]
 one:∀i,i<L->(A i).one=true
 keep:E.keep g=false
 cmp:∃n,∀k,n<=k->∀i,i+1<L->∀cur,cg (run E k) g (A (i+1)::A i::cb) (H.set id (.row 1 cur))=some (.bool (t (i+1)))
structure Head (g:FuncId) (cb:List V) (id off L kk m:Nat) (rs:List (List V)) (A:Nat->V) (t:Nat->Bool) (F:Frame) (cur:List (List V)):Prop where
 f0:get F 0=.hsl id 1 off L
 f1:get F 1=.clo g [] cb
 f5:get F 5=.int .i64 ((kept t (kk+m)).length:Nat)
 f6:get F 6=.hsl id 1 (off+kk) (L-kk)
 f7:get F 7=.int .i64 m
 len:cur.length=rs.length
 pre:∀p i,(kept t (kk+m))[p]? = some i->cur[off+p]? = some [A i]
 post:∀i,kk+m<=i+1->i<L->cur[off+i]? = some [A i]
 out:∀j,j<off\/off+L<=j->cur[j]? = rs[j]?
 cell:∀i,i<L->∃j,j<L/\cur[off+i]? = some [A j]
section
variable {E:Env} {N:Nat->FuncId} {g:FuncId} {cb:List V} {H:bl} {id off L kk:Nat} {rs:List (List V)} {A:Nat->V} {t:Nat->Bool}
theorem KV (X:Fv E g cb H id off L rs A t) (aa:0<kk) (ah:kk<L) (ht:t kk=true):∀(d m:Nat) (F:Frame) (B:List (List V)),kk+m+d=L->0<m->Head g cb id off L kk m rs A t F B ->
 ∃F' D,lI E N VO F (H.set id (.row 1 B)) (.exit 2) F' (H.set id (.row 1 D))/\Head g cb id off L kk (L-kk) rs A t F' D:=by
 have O:=(ζe.1 X.row).1;have G:∀B,(H.set id (.row 1 B))[id]? = some (.row 1 B):=λB=>List.getElem?_set_self O
 have ai:=X.small;have af:=X.len;intro d
 induction d with
 | zero=>
  intro m F B he hm h;have em:m=L-kk:=by omega
  subst em;obtain⟨F1,e1,e2,e3⟩:=x9    h.f6 h.f7;refine⟨F1,B,lI.stop (Ex.tf (Ex.seq (Ex.cZ e1) (Ex.oK (by simp[bz,e2]) Ex.exit)) Zc) Zc,?_⟩
  exact⟨by rw[e3 0 Za];exact h.f0,by rw[e3 1 Za];exact h.f1,by rw[e3 5 Za];exact h.f5,by rw[e3 6 Za];exact h.f6,by rw[e3 7 Za];exact h.f7,h.len,h.pre,h.post,h.out,h.cell⟩
 | succ d ih=>
  intro m F B he hm h;obtain⟨F1,a1,a2,a3⟩:=x9    h.f6 h.f7;have T:bz N F1 35=.bool true:=by
   show get F1 35=_;rw[a2,decide_eq_true Za]
  obtain⟨m',rfl⟩:∃m',m=m'+1:=⟨m-1,by omega⟩
  obtain⟨n0,ab⟩:=X.cmp;have c1:B[off+kk+(m'+1)]? = some [A (kk+m'+1)]:=by
   have:=h.post (kk+m'+1) Za Za;grind
  have c2:B[off+kk+m']? = some [A (kk+m')]:=by
   have:=h.post (kk+m') Za Za;grind
  obtain⟨F2,b1,b2,b3⟩:=(Un      (L2:=L-kk)  (G B) Za Za c1 c2 X.keep (by rw[a3 1 Za];exact h.f1)).2 (by rw[a3 6 Za];exact h.f6) (by rw[a3 7 Za];exact h.f7)
  have U:∃n,∀k,n<=k->cE E N (run E k) (some (H.set id (.row 1 B)).length) CM F1 (H.set id (.row 1 B))=some (F2,H.set id (.row 1 B)):=⟨n0,λk hk=>b1 _ (ab k hk (kk+m') Za B)⟩
  have w  := λs hs=>(b3 s hs).trans (a3 s hs)
  have ad:(kept t (kk+(m'+1))).length+1<=kk+(m'+1):=zY aa ht _ Za
  have u:kept t (kk+(m'+1)+1)=kept t (kk+(m'+1))++if t (kk+m'+1)then []else [kk+m'+1]:=by
   rw[vB]
   grind
  have z:kk+(m'+1+1)=kk+(m'+1)+1:=by omega
  cases W:t (kk+m'+1)with
  | true=>
   rw[W]at b2 u;simp  at u;obtain⟨F3,Y,q2,Q⟩:=(K_     (p:=m'+1) Za).2.1 (by rw[w 7 Za];exact h.f7)
   obtain⟨F',D,i1,i2⟩:=ih (m'+1+1) F3 B Za Za ⟨by rw[Q 0 Za Za,w 0 Za];exact h.f0,by rw[Q 1 Za Za,w 1 Za];exact h.f1,
    by rw[Q 5 Za Za,w 5 Za,z,u];exact h.f5,by rw[Q 6 Za Za,w 6 Za];exact h.f6,q2,h.len,by rw[z,u];exact h.pre,λi h1 Z=>h.post i Za Z,h.out,h.cell⟩
   exact⟨F',D,lI.step (Ex.seq (Ex.seq (Ex.cZ a1) (Ex.mL T Ex.skip)) (Ex.seq (Ex.block (Ex.seq (Ex.KW (by decide) U) (Ex.oK (by simp[bz,b2]) Ex.skip))) (Ex.cZ Y))) i1,i2⟩
  | false=>
   rw[W]at b2 u;generalize hK:(kept t (kk+(m'+1))).length=K at *;obtain⟨_,_,hz⟩:=h.cell K Za
   obtain⟨F3,Y,q2⟩:=Tz           (G B) (by rw[w 0 Za];exact h.f0) (by rw[w 5 Za,h.f5,hK]) (by rw[w 6 Za];exact h.f6) (by rw[w 7 Za];exact h.f7) Za Za c1 hz (X.one _ Za)
   rw[List.set_set]at Y;generalize I:B.set (off+K) [A (kk+m'+1)]=J at Y;have hg:∀j,J[j]? = if j=off+K then some [A (kk+m'+1)]else B[j]? := λj=>by
    rw[<-I,List.getElem?_set]
    by_cases e:off+K=j
    .rw[if_pos e,if_pos e.symm,if_pos (by rw[h.len];omega)]
    rw[if_neg e,if_neg (Ne.symm e)]
   obtain⟨F4,Q,q4,q5⟩:=(K_     (p:=K) Za).1 (by rw[q2 5 Za,w 5 Za,h.f5,hK])
   have C:∀s,s<8->s≠5->get F4 s=get F s:=λs h1 Z=>by rw[q5 s h1 Z,q2 s h1,w s h1]
   obtain⟨F5,q6,q7,q8⟩:=(K_     (p:=m'+1) Za).2.1 (by rw[C 7 Za Za];exact h.f7)
   obtain⟨F',D,i1,i2⟩:=ih (m'+1+1) F5 J Za Za ⟨by rw[q8 0 Za Za,C 0 Za Za];exact h.f0,by rw[q8 1 Za Za,C 1 Za Za];exact h.f1,
    by rw[q8 5 Za Za,q4,z,u,ζi,hK];rfl,by rw[q8 6 Za Za,C 6 Za Za];exact h.f6,q7,by rw[<-I,List.length_set];exact h.len,
    λp i S=>by
     rw[z,u]at S;rw[hg]
     by_cases e:p=K
     .subst e;rw[<-hK,List.getElem?_append_right (Nat.le_refl _),Nat.sub_self]at S;cases S;rw[if_pos rfl]
     have ae:p<(kept t (kk+(m'+1))).length:=by
      have:=(ζe.1 S).1;simp at this;omega
     rw[List.getElem?_append_left ae]at S;rw[if_neg Za];exact h.pre p i S,
    λi h1 Z=>by rw[hg,if_neg Za];exact h.post i Za Z,λj hj=>by rw[hg,if_neg Za];exact h.out j hj,
    λi hi=>by
     rw[hg]
     by_cases e:off+i=off+K
     .rw[if_pos e];exact⟨_,by omega,rfl⟩
     rw[if_neg e];exact h.cell i hi⟩
   exact⟨F',D,lI.step (Ex.seq (Ex.seq (Ex.cZ a1) (Ex.mL T Ex.skip)) (Ex.seq (Ex.block (Ex.seq (Ex.KW (by decide) U) (Ex.mL (by simp[bz,b2]) (Ex.seq (Ex.cZ Y) (Ex.cZ Q))))) (Ex.cZ q6))) i1,i2⟩
structure Pm (off L:Nat) (rs:List (List V)) (A:Nat->V) (t:Nat->Bool) (rs':List (List V)):Prop where
 len:rs'.length=rs.length
 pre:∀p i,(kept t L)[p]? = some i->rs'[off+p]? = some [A i]
 all:∀c∈rs',c∈rs\/c=[.bK]
theorem K2 (X:Fv E g cb H id off L rs A t):∀(d k:Nat) (F:Frame),k+d=L->0<k->(∀i,0<i->i<k->t i=false)->get F 0=.hsl id 1 off L->get F 1=.clo g [] cb->get F 5=.int .i64 k ->
 (∃F',lI E N QG F H (.exit 0) F' H/\get F' 0=.hsl id 1 off L/\∀i,0<i->i<L->t i=false) \/
 (∃F' D,lI E N QG F H .ret F' (H.set id (.row 1 D))/\get F' 4=.hsl id 1 off (kept t L).length/\Pm off L rs A t D):=by
 have Q:=(ζe.1 X.row).1;have S  := qJ X.row;have ah:=X.small;have af:=X.len;intro d
 induction d with
 | zero=>
  intro k F he hk hp f0 f1 f5;have ek:k=L:=by omega
  subst ek;obtain⟨F1,e1,e2,e3⟩:=x5  (N:=N)  f0 f5;exact .inl ⟨F1,lI.stop (Ex.tf (Ex.seq (Ex.cZ e1) (Ex.oK (by simp[bz,e2]) Ex.exit)) Zc) Zc,by grind,hp⟩
 | succ d ih=>
  intro k F he hk hp f0 f1 f5;obtain⟨F1,a1,a2,a3⟩:=x5    f0 f5;have U:bz N F1 15=.bool true:=by
   show get F1 15=_;rw[a2,decide_eq_true Za]
  obtain⟨u,rfl⟩:∃u,k=u+1:=⟨k-1,by omega⟩
  obtain⟨n0,ai⟩:=X.cmp;obtain⟨F2,b1,b2,b3⟩:=(Un  (N:=N) (cb:=cb) (g:=g) (i:=u) (L2:=L) (t:=t (u+1)) X.row Za Za (X.at_ _ Za) (X.at_ _ Za) X.keep (by rw[a3 1 Za];omega)).1 Zd Zd
  have W:∃n,∀k,n<=k->cE E N (run E k) (some H.length) r6 F1 H=some (F2,H):=⟨n0,λk hk=>b1 _ (by
   grind)⟩
  have Y  := λs hs=>(b3 s hs).trans (a3 s hs)
  cases w:t (u+1)with
  | false=>
   rw[w]at b2;obtain⟨T,q1,q2,q3⟩:=(K_ (E:=E)  (F:=F2)  (p:=u+1) Za).2.2 Zd
   have z:Ex E N QG F H .norm T H:=Ex.seq (Ex.seq (Ex.cZ a1) (Ex.mL U Ex.skip)) (Ex.seq (Ex.block (Ex.seq (Ex.KW (by decide) W) (Ex.oK (by simp[bz,b2]) Ex.skip))) (Ex.cZ q1))
   rcases ih (u+1+1) T Za Za (λi h1 Z=>by
    grind) Zd (by simp_all) q2 with⟨F',i1,i2⟩|⟨F',D,i1,i2⟩
   .exact .inl ⟨F',lI.step z i1,i2⟩
   exact .inr ⟨F',D,lI.step z i1,i2⟩
  | true=>
   rw[w]at b2;refine .inr ?_;obtain⟨T,q1,q2,q3⟩:=x7 (E:=E) (N:=N)  (H:=H) (k:=u+1) (by rw[Y 0 Za];exact f0) (by rw[Y 5 Za];exact f5) Za
   have G:kept t (u+1)=List.range (u+1):=Bb _ hp;have aa:kept t (u+1+1)=List.range (u+1):=by
    rw[vB,G,w];simp
   have q4:∀call,cE E N call none r8 T H=some (set T 7 (.int .i64 1),H):=λcall=>vp  rfl (by simp[bE,bz,bn]) dY
   have h0:Head g cb id off L (u+1) 1 rs A t (set T 7 (.int .i64 1)) rs:=⟨by rw[gU _ _ Za,q3 0 Za Za,Y 0 Za];exact f0,by rw[gU _ _ Za,q3 1 Za Za,Y 1 Za];exact f1,
    by rw[gU _ _ Za,q3 5 Za Za,Y 5 Za,aa,List.length_range];exact f5,by rw[gU _ _ Za];exact q2,by rw[rX];rfl,rfl,
    λp i B=>by
     rw[aa]at B;obtain⟨h1,Z⟩:=ζe.1 B;simp at h1 Z;subst Z;exact X.at_ p Za,λi _ Z=>X.at_ i Z,λ_ _=>rfl,λi hi=>⟨i,hi,X.at_ i hi⟩⟩
   obtain⟨F5,C,l1,I⟩:=KV (N:=N) X Za Za w (L-(u+1)-1) 1 _ rs Za Za h0
   rw[S]at l1;have eL:u+1+(L-(u+1))=L:=by omega
   have ae:=zY (t:=t) (k:=u+1) Za w L Za
   have l5:=I.f5;have J:=I.pre;rw[eL]at l5 J;generalize hK:(kept t L).length=K at *;have ab:(H.set id (.row 1 C))[id]? = some (.row 1 C):=List.getElem?_set_self Q;obtain⟨F6,w1,w2⟩:=WM (E:=E) (N:=N) (p:=K) ab I.f0 l5 Za (by rw[I.len];omega)
   rw[List.set_set]at w1;obtain⟨F7,w3,w4⟩:=PY (E:=E)     (by rw[w2 0 Za];exact I.f0) (by rw[w2 5 Za];exact l5) Za
   have aj:=I.len;refine⟨F7,C.take (off+K)++List.replicate (L-K) [.bK]++C.drop (off+L),lI.stop (Ex.seq (Ex.seq (Ex.cZ a1) (Ex.mL U Ex.skip)) (Ex.tf (Ex.My (Ex.seq (Ex.KW (by decide) W) (Ex.mL (by simp[bz,b2]) (Ex.seq (Ex.cZ q1) (Ex.seq (Ex.seq (Ex.cZ q4) (Ex.tQ (Ex.loop l1))) (Ex.seq (Ex.cZ w1) (Ex.seq (Ex.cZ w3) Ex.ret))))))) Zc)) Zc,w4,?_,λp i B=>?_,λc hc=>?_⟩
   .simp;omega
   .have ak:p<K:=by rw[<-hK];exact(ζe.1 B).1
    rw[List.append_assoc,List.getElem?_append_left (by simp;omega),List.getElem?_take,if_pos Za]
    exact J p i B
   have ad:∀j x,C[j]? = some x->x∈rs:=λj x O=>by
    by_cases ho:j<off\/off+L<=j
    .rw[I.out j ho]at O;exact List.mem_of_getElem? O
    obtain⟨i,rfl⟩:∃i,j=off+i:=⟨j-off,by omega⟩
    obtain⟨q,hq,hc⟩:=I.cell i Za
    rw[hc]at O;cases O;exact List.mem_of_getElem? (X.at_ q hq)
   rcases List.mem_append.1 hc with hc|hc
   .rcases List.mem_append.1 hc with hc|hc
    .obtain⟨j,O⟩:=List.getElem?_of_mem (List.mem_of_mem_take hc);exact .inl (ad j c O)
    exact .inr (List.eq_of_mem_replicate hc)
   obtain⟨j,O⟩:=List.getElem?_of_mem (List.mem_of_mem_drop hc);exact .inl (ad j c O)
end
end cmpX
noncomputable def yC (E:Env) (g:FuncId) (cb:List V) (a b:V):Option Bool:=match BE E g cb a b with|some (.bool c)=>some c|_=>none
theorem To {E:Env} {g:FuncId} {cb:List V} {a b:V} {c:Bool} (h:yC E g cb a b=some c):∃n,∀k,n<=k->cg (run E k) g (a::b::cb) []=some (.bool c):=by
 unfold yC at h;split at h
 next c' hc=>cases h;exact DH hc
 cases h
def lH (xs:List (List V)) (i:Nat):V:=iN ((xs[i]?).getD [])
noncomputable def xm (E:Env) (es:Nat) (xs:List (List V)):List V->Option (List (List V))
 | [.clo g [] cb]=>if xs.isEmpty then some []else if tB es xs && !E.keep g then
  if(List.range xs.length).all λi=>i==0||(yC E g cb (lH xs i) (lH xs (i-1))).isSome then
   some ((kept (λi=>(yC E g cb (lH xs i) (lH xs (i-1))).getD false) xs.length).map λi=>(xs[i]?).getD [])
  else none
  else none
 | _=>none
noncomputable def sq (E:Env):Eo:=⟨true,xm E⟩
namespace cmpX
section
variable {E:Env} {N:Nat->FuncId} {g:FuncId} {cb:List V} {H:bl} {id off L:Nat} {rs:List (List V)} {A:Nat->V} {t:Nat->Bool}
theorem whole (X:Fv E g cb H id off L rs A t):∃F' B,Ex E N code [.hsl id 1 off L,.clo g [] cb] H .ret F' (H.set id (.row 1 B))/\get F' 4=.hsl id 1 off (kept t L).length/\Pm off L rs A t B:=by
 have u:H.set id (.row 1 rs)=H:=qJ X.row;have same:(∀i,0<i->i<L->t i=false)->(kept t L).length=L/\Pm off L rs A t rs:=λh=>by
  have hk:=Bb L h;rw[hk,List.length_range];exact⟨rfl,rfl,λp i Q=>by
   rw[hk]at Q;obtain⟨h1,w⟩:=ζe.1 Q;simp at h1 w;subst w;exact X.at_ p h1,λc hc=>.inl hc⟩
 have g1:∀call,cE E N call none r1 [.hsl id 1 off L,.clo g [] cb] H=some (set [.hsl id 1 off L,.clo g [] cb] 4 .bK,H):=λcall=>vp (v:=.bK) rfl (by simp[bE,bz,bn]) dY
 have k0:get (set [V.hsl id 1 off L,.clo g [] cb] 4 .bK) 0=.hsl id 1 off L:=rfl;have k1:get (set [V.hsl id 1 off L,.clo g [] cb] 4 .bK) 1=.clo g [] cb:=rfl;generalize set [V.hsl id 1 off L,.clo g [] cb] 4 .bK=T at *;obtain⟨F1,a1,S,z⟩:=x2 (E:=E) (N:=N) (H:=H) k0
 by_cases U:L<2
 .obtain⟨C,D,G⟩:=Oc (E:=E) (N:=N) (F:=F1) (H:=H);obtain⟨e1,e2⟩:=same λi h1 w=>by omega
  refine⟨C,rs,?_,by rw[e1,G,z 0 Za];exact k0,e2⟩
  rw[u];exact Ex.seq (Ex.cZ g1) (Ex.tf (Ex.seq (Ex.cZ a1) (Ex.mL (by show get F1 10=_;rw[S,decide_eq_true Za]) (Ex.seq (Ex.cZ D) Ex.ret))) Zc)
 have g4:∀call,cE E N call none r4 F1 H=some (set F1 5 (.int .i64 1),H):=λcall=>vp (v:=.int .i64 1) rfl (by simp[bE,bz,bn]) dY
 have hc:Ex E N (.seq (.ops r2) (.cond (.s 10) (.seq (.ops r3) (.ret)) (.skip))) T H .norm F1 H:=Ex.seq (Ex.cZ a1) (Ex.oK (by show get F1 10=_;rw[S,decide_eq_false Za]) Ex.skip)
 rcases K2 (N:=N) X (L-1) 1 (set F1 5 (.int .i64 1)) Za Za (λi h1 w=>by omega) (by rw[gU _ _ Za,z 0 Za];exact k0) (by rw[gU _ _ Za,z 1 Za];exact k1) (by rw[rX];rfl)with⟨F',I,J,O⟩|⟨F',B,I,J,O⟩
 .obtain⟨C,D,G⟩:=WQ (E:=E) (N:=N) (F:=F') (H:=H);obtain⟨e1,e2⟩:=same O;refine⟨C,rs,?_,by rw[e1,G];exact J,e2⟩
  rw[u];exact Ex.seq (Ex.cZ g1) (Ex.seq hc (Ex.seq (Ex.seq (Ex.cZ g4) (Ex.tQ (Ex.loop I))) (Ex.seq (Ex.cZ D) Ex.ret)))
 exact⟨F',B,Ex.seq (Ex.cZ g1) (Ex.seq hc (Ex.tf (Ex.seq (Ex.cZ g4) (Ex.My (Ex.loop I))) Zc)),J,O⟩
theorem empty {w:V} (c:V) (B:w=.bK\/w=.dD):∃F',Ex E N code [w,c] H .ret F' H/\get F' 4=w:=by
 have g1:∀call,cE E N call none r1 [w,c] H=some (set [w,c] 4 .bK,H):=λcall=>vp (v:=.bK) rfl (by simp[bE,bz,bn]) dY
 have k0:get (set [w,c] 4 .bK) 0=w:=rfl;generalize set [w,c] 4 .bK=u at *;have z:nG w=some (.int .i64 0):=by rcases B with rfl|rfl <;> rfl
 have a1:∃F1,(∀call,cE E N call none r2 u H=some (F1,H))/\get F1 10=.bool true/\get F1 0=w:=by
  refine⟨_,λcall=>vp (v:=w) rfl ?_ <| vp (v:=.int .i64 0) rfl ?_ <| vp (v:=.bool true) rfl ?_ dY,?_,?_⟩
  .simp[bE,bz,bn,k0]
  .simp[bE,bz,bn,bu,z]
  .simp[bE,bz,bn,bu,gN,nJ]
  .simp[bu]
  simp[bu,k0]
 obtain⟨F1,a1,C,D⟩:=a1;obtain⟨G,I,J⟩:=Oc (E:=E) (N:=N) (F:=F1) (H:=H);exact⟨G,Ex.seq (Ex.cZ g1) (Ex.tf (Ex.seq (Ex.cZ a1) (Ex.mL C (Ex.seq (Ex.cZ I) Ex.ret))) Zc),by rw[J,D]⟩
end
end cmpX
theorem OK {E:Env} {f:FuncId} {nm:FuncId->Option Nat} {N:Nat->FuncId} (hN:∀f s,nm f=some s->N s=f) (hk:E.keep f=true) (ho:E.own f=false)
 (hf:∃fi,E.ft f=some fi/\bQ ⟨E,nm,fi.ntmps⟩ false fi.body=some cmpX.code/\2<=fi.ntmps/\fi.results=[.tmp 4]):oa E f (sq E):=by
 obtain⟨fi,h1,h2,h3,h4⟩:=hf;have G:∀{w c:V} {H H':bl} {F':Frame} {r:V},Ex E N cmpX.code [w,c] H .ret F' H'->get F' 4=r->∃n,∀k,n<=k->run E k (.fn f) [w,c] H=some (r,H'):=λ{w c H H' F' r} hx hr=>by
  obtain⟨n,I⟩:=Ex.run hN h1 h2 (args:=[w,c]) (by simpa using h3) hx (vs:=[r]) (by rw[h4];simp[iq,hr])
  exact⟨n,λk hk=>(nr E hk).go _ _ _ _ I⟩
 refine⟨hk,ho,?_,?_,?_⟩
 .intro es z vs ys h;simp only[sq,xm]at h;refine⟨?_,λe=>by simp[sq]at e⟩
  split at h
  .split at h
   .cases h;simp
   split at h
   .split at h
    .cases h;simpa using Aq _ _
    cases h
   cases h
  cases h
 .intro es vs ys h H Z ws w hw he;simp only[sq,xm]at h;split at h
  .obtain⟨w2,r,rfl,q1,q2⟩:=hw.inv;rw[q2.cW];obtain⟨F',e1,e2⟩:=cmpX.empty (E:=E) (N:=N) (H:=H) w2 he;obtain⟨n,I⟩:=G e1 e2;exact⟨n,[],λk hk=>by rw[List.append_nil];exact I k hk⟩
  cases h
 intro es z vs ys h H Z ws id off rs hw T U af L hz;simp only[sq,xm]at h;split at h
 .rename_i g cb;obtain⟨w2,r,rfl,q1,q2⟩:=hw.inv;rw[q2.cW];obtain⟨a',B,rfl,ha,ah⟩:∃a' B,w2=.clo g a' B/\dm H Z [] a'/\dm H Z cb B:=q1.jT;rw[ha.cW]at *;split at h
  .rename_i he;cases h;have:z=[]:=by simpa using he
   subst this;have e2:∃F',Ex E N cmpX.code [.hsl id es off 0,.clo g [] B] H .ret F' H/\get F' 4=.hsl id es off 0:=by
    have g1:∀call,cE E N call none cmpX.r1 [.hsl id es off 0,.clo g [] B] H=some (set [.hsl id es off 0,.clo g [] B] 4 .bK,H):=λcall=>vp (v:=.bK) rfl (by simp[bE,bz,bn]) dY
    have k0:get (set [V.hsl id es off 0,.clo g [] B] 4 .bK) 0=.hsl id es off 0:=rfl;generalize set [V.hsl id es off 0,.clo g [] B] 4 .bK=F0 at *;have a1:∃F1,(∀call,cE E N call none cmpX.r2 F0 H=some (F1,H))/\get F1 10=.bool true/\get F1 0=.hsl id es off 0:=by
     refine⟨_,λcall=>vp (v:=.hsl id es off 0) rfl ?_ <| vp (v:=.int .i64 0) rfl ?_ <| vp (v:=.bool true) rfl ?_ dY,?_,?_⟩
     .simp[bE,bz,bn,k0]
     .simp[bE,bz,bn,bu,nG]
     .simp[bE,bz,bn,bu,gN,nJ]
     .simp[bu]
     simp[bu,k0]
    obtain⟨F1,a1,a2,a3⟩:=a1;obtain⟨F2,b1,b2⟩:=cmpX.Oc (E:=E) (N:=N) (F:=F1) (H:=H);exact⟨F2,Ex.seq (Ex.cZ g1) (Ex.tf (Ex.seq (Ex.cZ a1) (Ex.mL a2 (Ex.seq (Ex.cZ b1) Ex.ret))) Zc),by rw[b2,a3]⟩
   obtain⟨F',e1,e3⟩:=e2;obtain⟨n,I⟩:=G e1 e3;refine⟨n,rs,[],λk hk=>?_,rfl,⟨rfl,λj u v hu=>by simp at hu⟩,L⟩
   rw[List.append_nil,qJ T];exact I k hk
  rename_i am;split at h
  .rename_i O;simp only[ζh,Bool.not_eq_true']at O;obtain⟨c1,c3⟩:=O;obtain⟨rfl,W,Y⟩:=xO c1;split at h
   .rename_i aa;cases h;have Q:∀i,i<z.length->∃a,rs[off+i]? = some [a]/\FR H Z (lH z i) a/\a.one=true:=λi C=>by
     obtain⟨e,p2⟩:=Y i z[i] (ζd C);have S:off+i<rs.length:=by omega
     have:=af.2 i z[i] rs[off+i] (ζd C) (by rw[List.getElem?_take,if_pos C,List.getElem?_drop,ζd S])
     rw[e]at this;obtain⟨y,ys,e2,r1,r2⟩:=this.inv;rw[r2.cW]at e2;have e3:lH z i=iN z[i]:=by unfold lH;rw[ζd C];rfl
     exact⟨y,by rw[ζd S,e2],by rw[e3];exact r1,by rw[r1.one];exact p2⟩
    let A:Nat->V:=λi=>match rs[off+i]? with|some (a::_)=>a|_=>.undef
    have hA:∀i,i<z.length->rs[off+i]? = some [A i]/\FR H Z (lH z i) (A i)/\(A i).one=true:=λi C=>by
     obtain⟨a,p1,p2,p4⟩:=Q i C;have:A i=a:=by show (match rs[off+i]? with|some (a::_)=>a|_=>V.undef)=a;rw[p1]
     rw[this];exact⟨p1,p2,p4⟩
    have ab:∀i,i+1<z.length->∃b,yC E g cb (lH z (i+1)) (lH z i)=some b:=λi C=>by
     have:=List.all_eq_true.1 aa (i+1) (List.mem_range.2 C);simp only[Nat.add_sub_cancel,Bool.or_eq_true]at this;rcases this with h|h
     .simp at h
     exact Option.isSome_iff_exists.1 h
    have X:cmpX.Fv E g B H id off z.length rs A (λi=>(yC E g cb (lH z i) (lH z (i-1))).getD false):=by
     refine⟨T,U,W,λi C=>(hA i C).1,λi C=>(hA i C).2.2,c3,?_⟩
     obtain⟨M,hM⟩:=Df (n:=z.length-1) (p:=λi k=>cg (run E k) g (lH z (i.1+1)::lH z i.1::cb) []=some (.bool ((yC E g cb (lH z (i.1+1)) (lH z i.1)).getD false))) (λi=>by
      obtain⟨b,S⟩:=ab i.1 (by have:=i.2;omega)
      obtain⟨n,I⟩:=To S;exact⟨n,λk hk=>by rw[I k hk,S];rfl⟩)
     obtain⟨L1,ai⟩:=lM ((List.range z.length).map (lH z));obtain⟨L2,aj⟩:=lM cb;have ad:∀i k,i<z.length->L1<=k->(lH z i).lvl k=true:=λi k C hk=>wO hk (l8.1 ai i _ (by simp[C]))
     refine⟨max M (max L1 L2),λk hk i C ae=>?_⟩
     have D:∀j,Z j->Z j/\bp (H.set id (.row 1 ae)) j=bp H j:=λj hj=>⟨hj,by
      unfold bp;rw[List.getElem?_set_ne];rintro rfl;exact hz hj⟩
     have hl:dm (H.set id (.row 1 ae)) Z (lH z (i+1)::lH z i::cb) (A (i+1)::A i::B):=.cons ((hA _ C).2.1.mono D) (.cons ((hA i Za).2.1.mono D) (ah.mono D))
     have S:=hl.I9 (k:=k) (by simp only[V.kQ,ad _ k C Za,ad i k Za Za,oA (by omega:L2<=k) aj,Bool.and_self])
     rw[TN (by rw[nC];exact S) (λx hx=>?_)]
     .exact hM ⟨i,by omega⟩ k Za
     obtain⟨j,hj⟩:=List.getElem?_of_mem hx;obtain⟨y,hy,hr⟩:=hl.get hj;exact V.ko hr.good
    obtain⟨F',ak,e1,e2,e3⟩:=cmpX.whole (N:=N) X;obtain⟨n,I⟩:=G e1 e2;refine⟨n,ak,[],λk hk=>?_,e3.len,?_,?_⟩
    .simp only[sq,if_true,List.length_map,List.append_nil];exact I k hk
    .refine⟨by simp[e3.len];have:=Aq (λi=>(yC E g cb (lH z i) (lH z (i-1))).getD false) z.length;omega,λp a b hp hq=>?_⟩
     rw[List.getElem?_map]at hp;obtain⟨i,C,rfl⟩:=ζf.1 hp;have J:=II (List.mem_of_getElem? C);have al:=(ζe.1 C).1;rw[List.getElem?_take,if_pos (by simpa using al),List.getElem?_drop,e3.pre p i C]at hq
     cases hq;rw[ζd J,Option.getD_some];have e4:=(Y i z[i] (ζd J)).1;have e5:lH z i=iN z[i]:=by unfold lH;rw[ζd J];rfl
     rw[e4,<-e5];exact .cons (hA i J).2.1 .nil
    intro c hc u hu;rcases e3.all c hc with h|rfl
    .exact L c h u hu
    simp at hu;subst hu;exact⟨.bK,.same _ rfl⟩
   cases h
  cases h
 cases h
def Sl.re {α:Type} (s:Sl α) (l:List α):Sl α:=match s with|.nil=>.nil|.emp=>.emp|.row _=>.row l|.part _=>.part l
def Sl.rM {α:Type} (s:Sl α) (l:List α):Sl α:=match s with|.nil=>.nil|.emp=>.emp|.row _|.part _=>.part l
noncomputable def xX {α:Type} (s:Sl α) (p:α->α->Option Int):Option (Sl α):=
 match s.l with
 | []=>some s
 | x::l=>if l.length<2147483648 then
  let t:_root_.Fin (l.length+1)->_root_.Fin (l.length+1)->Option Int:=λi j=>p (x::l)[i.1] (x::l)[j.1]
  if Au t then some (s.re ((qb l.length (oS t)).toList.map λi=>(x::l)[i.1]))else none
  else none
def sD {α:Type} (l:List α) (p:α->α->Option Bool) (i:Nat):Option Bool:=match l[i]?,l[i-1]? with|some a,some b=>p a b|_,_=>none
def wB {α:Type} (s:Sl α) (p:α->α->Option Bool):Option (Sl α):=
 if s.l.length<=2147483648/\((List.range s.l.length).all λi=>i==0||(sD s.l p i).isSome)=true then
  some (s.rM ((kept (λi=>(sD s.l p i).getD false) s.l.length).filterMap (s.l[·]?)))
 else none
section
variable {S:Sys} {T:pI} {β γ δ α:Type} {Q:Out×St->Option β} {e:γ->Option β} {cf:Cf}
theorem kB.Ly (B:qH S T) (D:∀f a b xs,S.items f a b=some xs->fH S f a b xs) {fn:FuncId} {A:δ->List V} {E:α->List V} {p:δ->Option α} {sc:Bool} (F:kB S (c_ S T) fn A E p sc) {z:δ} {r:α} (h:p z=some r) (hg:V.cA (A z)=true) :
 ∃n,cg (run S.E n) fn (A z) []=some (result (E r)):=by
 have h1:=F.h z (E r) (by simp_all)
 obtain⟨⟨rs,m'⟩,u,w⟩:=ζg.1 h1;obtain⟨n,y,H2,e1,e2,e3⟩:=Bm (vZ B D) hg u w;refine⟨n,?_⟩;have C:borrows n [] (A z)=some (A z):=by
  have hc:=V.m_ hg;generalize A z=l at hc;unfold borrows
  induction l with
  | nil=>rfl
  | cons x l G=>
   simp[V.kM]at hc;simp[hG,eA n [] hc.1,G hc.2]
 unfold cg;rw[nC,C];simp[e1 n (Nat.le_refl _),e2 n (Nat.le_refl _),V.ko e3]
section
variable [bB α]
theorem CG (h1:bB.size α=1) {l:List α} (B:l.length<=2147483648):tB (bB.size α) (rows l)=true:=by
 unfold tB;simp;refine⟨⟨h1,λx u=>?_⟩,by simpa [rows]using B⟩
 obtain⟨a,_,rfl⟩:=List.mem_map.1 u;exact⟨by rw[eX,h1],List.all_eq_true.1 (bB.one a)⟩
theorem Eb (h1:bB.agg α=false) (a:α):iN (cells a)=enc a:=by
 unfold enc;rw[if_neg Zd];rfl
theorem Bf (l:List α) (i:Nat) (h:i<l.length):(rows l)[i]? = some (cells l[i]):=by
 unfold rows;grind
theorem Rr (O:qH S T) (U:∀f a b xs,S.items f a b=some xs->fH S f a b xs) {g:FuncId} {p:α->α->Option Int} (F:kB S (c_ S T) g (λz:α×α=>[enc z.1,enc z.2]) (λr:Int=>[.int .i64 r]) (λz=>p z.1 z.2) true)
 (h1:bB.size α=1) (W:bB.agg α=false) {s D:Sl α} (h:xX s p=some D):zz S.E (bB.size α) (rows s.l) [.clo g [] []]=some (rows D.l)/\D.k=s.k:=by
 unfold xX at h;split at h
 next B=>cases h;rw[B];exact⟨rfl,rfl⟩
 rename_i x l B;split at h
 .dsimp only at h;split at h
  .rename_i I;cases h;rw[B];obtain⟨u,J⟩:=pR I;have C:=CG  h1 (l:=x::l) Zd
   have key:∀m,m=l.length->(if Au (λi j:_root_.Fin (m+1)=>sj S.E g [] (iN (((rows (x::l))[i.1]?).getD [])) (iN (((rows (x::l))[j.1]?).getD [])))then
    some ((qb m (oS (λi j:_root_.Fin (m+1)=>sj S.E g [] (iN (((rows (x::l))[i.1]?).getD [])) (iN (((rows (x::l))[j.1]?).getD []))))).toList.map λi=>((rows (x::l))[i.1]?).getD [])else none) =
    some (rows ((qb l.length (oS λi j:_root_.Fin (l.length+1)=>p (x::l)[i.1] (x::l)[j.1])).toList.map λi=>(x::l)[i.1])):=by
    rintro m rfl;have e1:∀i:_root_.Fin (l.length+1),iN (((rows (x::l))[i.1]?).getD [])=enc (x::l)[i.1]:=λi=>by
     rw[Bf (x::l) i.1 i.2,Option.getD_some,Eb W]
    have e2:(λi j:_root_.Fin (l.length+1)=>sj S.E g [] (iN (((rows (x::l))[i.1]?).getD [])) (iN (((rows (x::l))[j.1]?).getD [])))=λi j=>p (x::l)[i.1] (x::l)[j.1]:=by
     funext i j
     obtain⟨z,L⟩:=u i j;rw[e1 i,e1 j,L];obtain⟨n,Q⟩:=F.Ly O U (z:=((x::l)[i.1],(x::l)[j.1])) L (by simp[V.cA,ig])
     unfold sj;rw[Ix Q];rfl
    rw[e2,if_pos I]
    congr 1
    unfold rows;rw[List.map_map];refine List.map_congr_left λi _=>?_
    grind
   have w:(s.re ((qb l.length (oS λi j:_root_.Fin (l.length+1)=>p (x::l)[i.1] (x::l)[j.1])).toList.map λi=>(x::l)[i.1])).l=(qb l.length (oS λi j:_root_.Fin (l.length+1)=>p (x::l)[i.1] (x::l)[j.1])).toList.map (λi=>(x::l)[i.1])/\(s.re ((qb l.length (oS λi j:_root_.Fin (l.length+1)=>p (x::l)[i.1] (x::l)[j.1])).toList.map λi=>(x::l)[i.1])).k=s.k:=by
    cases s <;> simp[Sl.l]at B <;> exact⟨rfl,rfl⟩
   refine⟨?_,w.2⟩;rw[w.1,<-key (rows l).length (gn l)];have hc:(tB (bB.size α) (rows (x::l)) && !S.E.keep g)=true:=by
    rw[C,F.k];rfl
   have G  := hc;exact(if_pos G).trans rfl
  simp_all
 simp_all
theorem Sn (Y:qH S T) (hI:∀f a b xs,S.items f a b=some xs->fH S f a b xs) {g:FuncId} {p:α->α->Option Bool} (F:kB S (c_ S T) g (λz:α×α=>[enc z.1,enc z.2]) (λr:Bool=>[.bool r]) (λz=>p z.1 z.2) true)
 (h1:bB.size α=1) (ha:bB.agg α=false) {s D:Sl α} (h:wB s p=some D):xm S.E (bB.size α) (rows s.l) [.clo g [] []]=some (rows D.l)/\D=s.rM D.l:=by
 have U:∀l:List α,(s.rM l)=s.rM (s.rM l).l:=λl=>by cases s <;> rfl
 refine⟨?_,by
  unfold wB at h;grind⟩
 unfold wB at h;split at h
 .rename_i hc;cases h;obtain⟨X,w⟩:=hc;have J:=CG  h1 X;simp only[xm]
  by_cases L:s.l=[]
  .have:(s.rM ((kept (λi=>(sD s.l p i).getD false) s.l.length).filterMap (s.l[·]?))).l=[]:=by
    cases s <;> simp[Sl.l]at L <;> simp[Sl.rM,Sl.l,L,kept]
   rw[this,L];rfl
  have O:(rows s.l).isEmpty=false:=by cases hs:s.l with|nil=>grind|cons a l=>rfl
  rw[O,if_neg Zc,J,F.k,if_pos (by rfl),gn]
  have e1:∀i,0<i->i<s.l.length->∃b,sD s.l p i=some b/\yC S.E g [] (lH (rows s.l) i) (lH (rows s.l) (i-1))=some b:=λi h0 u=>by
   have:=List.all_eq_true.1 w i (List.mem_range.2 u);simp  at this;obtain⟨b,G⟩:=Option.isSome_iff_exists.1 (this.resolve_left Za)
   refine⟨b,G,?_⟩;have B:i-1<s.l.length:=by omega
   unfold sD at G;rw[ζd u,ζd B]at G;have W:∀j (I:j<s.l.length),lH (rows s.l) j=enc s.l[j]:=λj I=>by
    unfold lH;rw[Bf _ _ I,Option.getD_some,Eb ha]
   rw[W i u,W (i-1) B];obtain⟨n,Z⟩:=F.Ly Y hI (z:=(s.l[i],s.l[i-1])) G (by simp only[V.cA,ig,Bool.and_self])
   unfold yC;rw[Ix Z];rfl
  have e2:((List.range s.l.length).all λi=>i==0||(yC S.E g [] (lH (rows s.l) i) (lH (rows s.l) (i-1))).isSome)=true:=by
   grind
  rw[if_pos e2];have e3:kept (λi=>(yC S.E g [] (lH (rows s.l) i) (lH (rows s.l) (i-1))).getD false) s.l.length=kept (λi=>(sD s.l p i).getD false) s.l.length:=by
   refine List.filter_congr λi u=>?_
   by_cases h0:i=0
   .grind
   obtain⟨b,h3,h4⟩:=e1 i Za (List.mem_range.1 u)
   simp_all
  rw[e3];have e4:(s.rM ((kept (λi=>(sD s.l p i).getD false) s.l.length).filterMap (s.l[·]?))).l=(kept (λi=>(sD s.l p i).getD false) s.l.length).filterMap (s.l[·]?):=by
   cases s <;> first|rfl|grind
  rw[e4]
  congr 1
  generalize hk:kept (λi=>(sD s.l p i).getD false) s.l.length=Q
  have C:∀i∈Q,i<s.l.length:=λi u=>II (hk▸u)
  clear hk e3 e4
  induction Q with
  | nil=>rfl
  | cons i Q ih=>
   have u:=C i Zc
   rw[List.map_cons,ih λj I=>C j (List.mem_cons_of_mem _ I),Bf _ _ u,List.filterMap_cons,ζd u]
   rfl
 simp_all
theorem ON {s B:Sl α} {p:α->α->Option Int} (h:xX s p=some B) (hk:cN s.k=false):B=s:=by
 cases s <;> simp[Sl.k,cN]at hk <;> simpa [xX,Sl.l]using h.symm
theorem UN (n d:Nat) (D:qH S T) (J:∀f a b xs,S.items f a b=some xs->fH S f a b xs) {fn g:FuncId} (G:S.prm fn=some (rZ S.E)) {p:α->α->Option Int}
 (F:kB S (c_ S T) g (λz:α×α=>[enc z.1,enc z.2]) (λr:Int=>[.int .i64 r]) (λz=>p z.1 z.2) true) {s:Sl α} {f:Sl α->Option γ}
 (h:∀B,xX s p=some B->Le ((f B).bind e) (ct S (c_ S T) Q (nx S (c_ S T) n cf λq=>dg { q.st with m:=bM q.st.m d (cF B) } q.d (.v .undef))))
 (h1:bB.size α=1:=by rfl) (O:bB.agg α=false:=by rfl)
 (U:(gq S (c_ S T) n cf).map (λq=>(q.k,bY S.N q.st.g q.az,bh q.st.m d,q.dr))=some (.c,some [.v (.clo fn [] []),.own d,.v (.clo g [] [])],some (cF s),false):=by kernel_rfl):Le (((xX s p).bind f).bind e) (ct S (c_ S T) Q cf):=by
 obtain⟨q,C,hv⟩:=eY U;simp  at hv;obtain⟨I,L,W,X⟩:=hv;refine uy C ?_ h;rw[I,X];intro y w;obtain⟨B,u,w⟩:=ζg.1 w;obtain⟨e1,e2⟩:=Rr D J F h1 O u;have hk:=(D.prm fn _ G).keep;have Y:=(D.prm fn _ G).own;rw[An false _ _ _ _ _ _ fn [.own d,.v (.clo g [] [])] L rfl];have hc:fP S (c_ S T) q.d false (!false||q.now) (fe q.st.m q.fr) fn [.own d,.v (.clo g [] [])] q.st=some (.v .undef,{ q.st with m:=bM q.st.m d (cF B) }):=by
  unfold fP;simp[hk,Y,G,Bq,W,cF,dw];have e3  := e1;simp[rZ]
  cases hr:cN s.k with
  | true=>grind
  | false=>have:=ON u hr;grind
 grind
theorem U_ (n d t:Nat) (D:qH S T) (J:∀f a b xs,S.items f a b=some xs->fH S f a b xs) {fn g:FuncId} (G:S.prm fn=some (sq S.E)) {p:α->α->Option Bool}
 (F:kB S (c_ S T) g (λz:α×α=>[enc z.1,enc z.2]) (λr:Bool=>[.bool r]) (λz=>p z.1 z.2) true) {s:Sl α} {f:Sl α->Option γ}
 (h:∀B,wB s p=some B->Le ((f B).bind e) (ct S (c_ S T) Q (nx S (c_ S T) n cf λq=>{ q.st with g:=bM q.st.g t (.own t),m:=bM (eo d q.st.m) t (cF B) })))
 (h1:bB.size α=1:=by rfl) (O:bB.agg α=false:=by rfl)
 (U:(gq S (c_ S T) n cf).map (λq=>(q.k,bY S.N q.st.g q.az,bh q.st.m d,q.dr,q.d,St.new { q.st with m:=eo d q.st.m } t))=some (.c,some [.v (.clo fn [] []),.own d,.v (.clo g [] [])],some (cF s),false,some t,true):=by kernel_rfl):Le (((wB s p).bind f).bind e) (ct S (c_ S T) Q cf):=by
 obtain⟨q,C,hv⟩:=eY U;simp  at hv;obtain⟨I,L,W,X,Y,Z⟩:=hv;refine uy C ?_ h;rw[I,X,Y];intro y u;obtain⟨B,w,u⟩:=ζg.1 u;cases u;obtain⟨e1,e2⟩:=Sn D J F h1 O w;have hk:=(D.prm fn _ G).keep;have ho:=(D.prm fn _ G).own;rw[An false _ _ _ _ _ _ fn [.own d,.v (.clo g [] [])] L rfl];have hc:fP S (c_ S T) (some t) false (!false||q.now) (fe q.st.m q.fr) fn [.own d,.v (.clo g [] [])] q.st=some (.own t,{ q.st with m:=bM (eo d q.st.m) t (cF B) }):=by
  unfold fP;simp[hk,ho,G,Bq,W,cF,dw];have e3:(sq S.E).go (bB.size α) (rows s.l) [.clo g [] []]=some (rows B.l):=e1;rw[e3];simp[sq,Z];have e4:(if cN s.k=true then bG.sl .part (bB.size α) (rows B.l)else .sl s.k (bB.size α) (rows s.l))=.sl B.k (bB.size α) (rows B.l):=by
   rw[e2];cases s <;> rfl
  rw[e4]
 rw[hc];rfl
end
end
section
variable {H H':bl} {w:V} {o:Nat} {ids:List Nat} {rows:List (List V)}
theorem l_.cell (n:l_ H w o ids rows) {p j:Nat} {r:List V} {u:V} (hr:rows[p]? = some r) (hu:r[j]? = some u) :
 ∃id,ids[p]? = some id/\lu 1 w (p:Int)=some (.hptr o p 0)/\eR H (.load 1 false) [.hptr o p 0]=some (.hsl id 1 0 r.length)/\lu 1 (.hsl id 1 0 r.length) (j:Int)=some (.hptr id j 0)/\eR H (.load 1 false) [.hptr id j 0]=some u:=by
 have D:=(ζe.1 hr).1;have G:=(ζe.1 hu).1;have B:rows≠[]:=by intro e;subst e;simp at hr
 have C:p<ids.length:=by rw[n.len];exact D
 have z:=ζd C;refine⟨ids[p],z,?_,?_,?_,?_⟩
 .have:=n.v;rw[if_neg B]at this;subst this;simp[lu,D]
 .have h1:=n.ob B;have I:=BF z hr;simp[eR,ey,h1,Ob.rows,I,cut];rfl
 .simp[lu,G]
 have h1:=n.r p _ r z hr;simp[eR,ey,h1,Ob.rows,iW,hu,cut];rfl
theorem MN {ids:List Nat} (h:ids.Nodup) {i j:Nat} {a:Nat} (B:ids[i]? = some a) (D:ids[j]? = some a):i=j:=by
 have h1:=(ζe.1 B);have u:=(ζe.1 D);obtain⟨h1,e1⟩:=h1;obtain⟨u,e2⟩:=u;exact(List.getElem_inj h).1 (e1.trans e2.symm)
theorem l_.set (n:l_ H w o ids rows) {p j id:Nat} {r:List V} {u:V} (hr:rows[p]? = some r) (O:j<r.length) (B:ids[p]? = some id) (hu:V.one u=true) (hc:u.cells=[u]) :
 ∃H',eZ H (.store 1) [.hptr id j 0,u]=some (.undef,H')/\l_ H' w o ids (rows.set p (r.set j u))/\H'.length=H.length/\(∀i,i≠id->H'[i]? = H[i]?):=by
 have Q:=(ζe.1 hr).1;have z:rows≠[]:=by intro e;subst e;simp at hr
 have h1:=n.r p id r B hr;have S:id<H.length:=(ζe.1 h1).1;have G:(iW r).set j [u]=iW (r.set j u):=by simp[iW,List.map_set]
 have I:o≠id:=λe=>n.ne z (e▸List.mem_of_getElem? B)
 refine⟨H.set id (.row 1 (iW (r.set j u))),?_,⟨?_,λ_=>?_,by simp[n.len],λi J T D C=>?_,n.nd,λ_=>n.ne z⟩,by simp,λi D=>List.getElem?_set_ne (Ne.symm D)⟩
 .have U:(iW r)[j]? = some [r[j]]:=by simp[iW,O]
  simp only[eZ,h1,U,hc,List.length_singleton,Nat.zero_add,Nat.le_refl,List.all_cons,hu,List.all_nil,Bool.and_self,and_self,if_true,List.take_zero,List.nil_append];rw[<-G];simp
 .rw[n.v];have:rows.set p (r.set j u)≠[]:=by intro e;apply z;simpa using e
  rw[if_neg z,if_neg this,List.length_set]
 .rw[List.getElem?_set_ne (Ne.symm I),Gs hr Zc];exact n.ob z
 by_cases e:i=p
 .subst e;rw[B]at D;cases D;rw[List.getElem?_set_self Q]at C;cases C;rw[List.getElem?_set_self S]
 rw[List.getElem?_set_ne (Ne.symm e)]at C;have L:id≠J:=λW=>e (MN n.nd (W▸D) B)
 rw[List.getElem?_set_ne L];exact n.r i J T D C
end
structure jU (H:bl) (w:V) (l:List (List V)) (id:Nat):Prop where
 c:∀c∈l,c.length=2/\c.all V.one=true
 v:(w=.bK/\l=[])\/∃off xs,w=.hsl id 2 off l.length/\H[id]? = some (.row 2 xs)/\off+l.length<=xs.length/\(xs.drop off).take l.length=l
section
variable {H H':bl} {w:V} {l:List (List V)} {id:Nat}
theorem jU.heap (n:jU H w l id) (h:∀off n,w=.hsl id 2 off n->H'[id]? = H[id]?):jU H' w l id:=
 ⟨n.c,n.v.imp (λh=>h) λ⟨off,u,e1,e2,e3,e4⟩=>⟨off,u,e1,by rw[h _ _ e1];exact e2,e3,e4⟩⟩
theorem jU.lt (n:jU H w l id) {off m:Nat} (h:w=.hsl id 2 off m):id<H.length:=by
 rcases n.v with⟨e,_⟩|⟨_,u,_,e2,_⟩
 .rw[e]at h;cases h
 exact(ζe.1 e2).1
theorem jU.more (n:jU H w l id) (X:bl):jU (H++X) w l id:=n.heap λ_ _ e=>List.getElem?_append_left (n.lt e)
theorem jU.len (n:jU H w l id):nG w=some (.int .i64 l.length):=by
 rcases n.v with⟨rfl,rfl⟩|⟨off,u,rfl,_⟩ <;> rfl
theorem jU.get (n:jU H w l id) {i:Nat} {c:List V} (hc:l[i]? = some c):∃p,lu 2 w (i:Int)=some p/\eR H (.load 2 true) [p]=some (.agg c):=by
 have z:=(ζe.1 hc).1;have u:=(n.c c (List.mem_of_getElem? hc)).1;rcases n.v with⟨_,rfl⟩|⟨off,B,rfl,e2,e3,e4⟩
 .simp at hc
 refine⟨.hptr id (off+i) 0,by simp[lu,z],?_⟩
 have:B[off+i]? = some c:=by
  rw[<-e4,List.getElem?_take,if_pos z,List.getElem?_drop]at hc;exact hc
 simp[eR,ey,e2,Ob.rows,this,cut,<-u];rfl
theorem jU.tail {c:List V} (n:jU H w (c::l) id):∃w',gO 2 w (some 1) none=some w'/\jU H w' l id/\∃off m B,w=.hsl id 2 off m/\w'=.hsl id 2 B l.length:=by
 rcases n.v with⟨_,e⟩|⟨off,u,rfl,e2,e3,e4⟩
 .cases e
 refine⟨.hsl id 2 (off+1) l.length,?_,⟨λc hc=>n.c c (List.mem_cons_of_mem _ hc),.inr ⟨off+1,u,rfl,e2,by simp at e3;omega,?_⟩⟩,⟨_,_,_,rfl,rfl⟩⟩
 .simp[gO,dU];omega
 have z:(u.drop off).drop 1=u.drop (off+1):=by rw[List.drop_drop]
 rw[<-z];have:=congrArg (List.drop 1) e4;rw[List.drop_take]at this;simpa using this
theorem jU.push (n:jU H w l id) {c:List V} (hc:c.length=2/\c.all V.one=true) (D:l.length+1<=2147483648) :
 ∃H',eZ (H++[.row 2 [c]]) (.append 2) [w,.hsl H.length 2 0 1]=some (.hsl (H.length+1) 2 0 (l.length+1),H')/\jU H' (.hsl (H.length+1) 2 0 (l.length+1)) (l++[c]) (H.length+1)/\H'.length=H.length+2/\(∀i,i<H.length->(∀off m,w=.hsl id 2 off m->i≠id)->H'[i]? = H[i]?):=by
 have e2:dG (H++[.row 2 [c]]) 2 (.hsl H.length 2 0 1)=some [c]:=by simp[dG,Ob.rows]
 have u:∀c'∈l++[c],c'.length=2/\c'.all V.one=true:=λc' h=>by
  rcases List.mem_append.1 h with h|h
  .exact n.c c' h
  simp at h;subst h;exact hc
 rcases n.v with⟨rfl,rfl⟩|⟨off,G,rfl,g2,g3,g4⟩
 .have e1:dG (H++[.row 2 [c]]) 2 .bK=some []:=rfl;refine⟨H++[.row 2 [c]]++[.row 2 [c]],?_,⟨u,.inr ⟨0,[c],rfl,by simp,by simp,rfl⟩⟩,by simp,λi B _=>by rw[List.append_assoc,List.getElem?_append_left B]⟩
  simp only[eZ,e1,e2,gH,List.length_nil,List.length_singleton,Option.map_some];simp
 have z:=(ζe.1 g2).1;have e1:dG (H++[.row 2 [c]]) 2 (.hsl id 2 off l.length)=some l:=by
  simp only[dG,if_true,List.getElem?_append_left z,g2,ζb,Ob.rows,g3,g4]
 have C:gH (H++[.row 2 [c]]) (.hsl id 2 off l.length)=some (List.set (H++[Ob.row 2 [c]]) id Ob.dead):=by
  simp only[gH,List.getElem?_append_left z,g2]
 refine⟨List.set (H++[Ob.row 2 [c]]) id Ob.dead++[Ob.row 2 (l++[c])],?_,⟨u,.inr ⟨0,l++[c],by simp,by simp,by simp,List.take_of_length_le Zc⟩⟩,by simp,λi B h=>?_⟩
 .simp only[eZ,e1,e2,C,List.length_singleton,D,if_true,Option.map_some,ζi]
 rw[List.getElem?_append_left (by simp;omega),List.getElem?_set_ne (Ne.symm (h _ _ rfl)),List.getElem?_append_left B]
end
noncomputable def zK (rs:List RV):Out×St->Option bG
 | (.exit _,_)=>none
 | (_,st)=>(kP st rs).bind λl=>match l with
  | [.own d]=>bh st.m d
  | _=>none
theorem T0 {S:Sys} {c:ck} {rs:List RV} {rc:RC} {st:St} {ob:bG} (h:kj S c (zK rs) rc [] st=some ob):∃o st' d,cH S c rc st=some (o,st')/\(∀id,o≠.exit id)/\kP st' rs=some [.own d]/\bh st'.m d=some ob:=by
 rw[pV]at h;obtain⟨⟨o,st'⟩,h1,u⟩:=ζg.1 h;have z:∀id,o≠.exit id:=by rintro id rfl;simp[zK]at u
 have B:(kP st' rs).bind (λl=>match l with|[.own d]=>bh st'.m d|_=>none)=some ob:=by
  cases o with
  | exit id=>exact absurd rfl (z id)
  | norm=>exact u
  | ret=>exact u
 obtain⟨l,C,w⟩:=ζg.1 B;split at w
 .exact⟨o,st',_,h1,z,C,w⟩
 cases w
theorem Ua {S:Sys} {T:pI} (U:qH S T) (W:∀f a b xs,S.items f a b=some xs->fH S f a b xs) {f:FuncId} {rf:RF} (Y:T f=some rf) {B:List V} (hg:V.cA B=true) (hn:B.length<=rf.na) {k:Fl} {es:Nat} {xs:List (List V)}
 (hx:∀x∈xs,x.all V.scalar=true) (hk:k=.row\/k=.nil/\xs=[]) (h:kj S (c_ S T) (zK rf.rs) rf.body [] (start (B.map .v) [])=some (.sl k es xs)) :
 ∃n y H',run S.E n (.fn f) B []=some (y,H')/\((k=.nil/\y=.bK)\/(∃id,y=.hsl id es 0 xs.length/\H'[id]? = some (.row es xs))):=by
 obtain⟨o,st',d,h1,Q,G,I⟩:=T0 h;have hc:c_ S T f (B.map .v) []=some ([.own d],st'.m):=by
  rw[qQ Y];unfold mB;rw[if_pos (by simpa using hn),h1]
  cases o with
  | exit id=>exact absurd rfl (Q id)
  | norm=>simp only[G,Option.map_some]
  | ret=>simp only[G,Option.map_some]
 obtain⟨X,r1⟩:=vw hg;obtain⟨n,y,H2,ν',Z',st2,F',J,g1,rfl,g3,g4,g5,_⟩:=vZ U W f _ _ _ _ hc _ _ B [] (.inr rfl) X r1;obtain⟨z,zs,rfl,e1,e2⟩:=g4.inv;have:=e2.cW;subst this;refine⟨n,_,H2,g1,?_⟩
 cases e1 with
 | own d y Z=>
  obtain⟨k',aa,ab,e,u⟩:=Z _ I;cases e;have w:=g5.obj d _ (by rw[g3];exact I)
  rcases hk with rfl|⟨rfl,rfl⟩
  .right;simp only[d_,cN,if_true]at w;obtain⟨J,q1,q2,D,q4,C⟩:=w;obtain⟨C,q6⟩:=C trivial;rw[C,List.drop_zero,<-q6,List.take_of_length_le (Nat.le_refl _)]at D;have:xs=J:=by
    refine List.ext_getElem D.1 λi p q=>?_
    have L:=D.2 i _ _ (ζd p) (ζd q);refine List.ext_getElem L.1 λj O q'=>?_
    have hj:=L.2 j _ _ (ζd O) (ζd q');exact((hj.scalar).1 (List.all_eq_true.1 (hx _ (List.getElem_mem p)) _ (List.getElem_mem O))).symm
   subst this;refine⟨(ν' d).1,?_,q1⟩;show result [_]=_;rw[u];simp[result,rj,C]
  left;exact⟨rfl,by show result [_]=_;rw[u];rfl⟩
theorem Gn {E:Env} {f:FuncId} {B:List V} {l:List (List V)} {y:V} {H1:bl} (hk:E.own f=true) (hg:V.cA B=true) (D:∀c∈l,c.length=2/\c.all V.one=true/\c.all V.scalar=true)
 (hr:∃n,∀k,n<=k->run E k (.fn f) B []=some (y,H1)) (G:(l=[]/\y=.bK)\/(∃id,y=.hsl id 2 0 l.length/\H1[id]? = some (.row 2 l))) (H:bl) :
 ∃w X id,(∃n,∀k,n<=k->eT E (run E k) f B H=some (w,H++X))/\jU (H++X) w l id/\(∀off m,w=.hsl id 2 off m->id=H.length):=by
 obtain⟨n,hr⟩:=hr;have C:∀{k:Nat} {l:List V},V.cA l=true->borrows k H l=some l:=by
  intro k l;unfold borrows
  induction l with
  | nil=>intro _;rfl
  | cons a l I=>
   intro h;have h1:V.good a=true/\V.cA l=true:=by simpa [V.cA]using h
   simp only[hG,eA k H (V.ko h1.1),I h1.2]
 rcases G with⟨rfl,rfl⟩|⟨id,rfl,z⟩
 .refine⟨.bK,[],0,⟨n,λk u=>?_⟩,⟨λc h=>by simp at h,.inl ⟨rfl,rfl⟩⟩,λoff m h=>by cases h⟩
  simp only[eT,hk,if_true,j9,C hg,hr k u,V.scalar,List.append_nil]
 refine⟨.hsl H.length 2 0 l.length,[.row 2 l],H.length,⟨n,λk u=>?_⟩,⟨λc h=>⟨(D c h).1,(D c h).2.1⟩,.inr ⟨0,l,rfl,by simp,by simp,by simp⟩⟩,λoff m h=>rfl⟩
 have J:(l.all λx=>x.all V.scalar)=true:=List.all_eq_true.2 λc h=>(D c h).2.2
 simp only[eT,hk,if_true,j9,C hg,hr k u,V.scalar,Bool.false_eq_true,if_false,qt,z,J,and_self,Option.map_some]
def Sl.whole {α:Type} (s:Sl α):Option (Sl α):=match s with|.part _=>none|s=>some s
structure yS (S:Sys) (c:ck) {α δ:Type} [bB δ] (fn:FuncId) (A:α->List V) (p:α->Option (Sl δ)):Prop where
 k:S.E.keep fn=true
 o:S.E.own fn=true
 h:∀z s,p z=some s->∃e m',c fn ((A z).map .v) []=some ([.own e],m')/\bh m' e=some (cF s)
 sc:∀x:δ,(cells x).all V.scalar=true
theorem yS.mk' {S:Sys} {T:pI} {α δ:Type} [bB δ] (rf:RF) {fn:FuncId} {A:α->List V} {p:α->Option (Sl δ)} (h:∀z,Le ((p z).bind λr=>some (cF r)) (ct S (c_ S T) (zK rf.rs) (.rc rf.body,[],start ((A z).map .v) [])))
 (B:T fn=some rf:=by kernel_rfl) (hk:S.E.keep fn=true:=by kernel_rfl) (D:S.E.own fn=true:=by kernel_rfl) (G:∀z,(A z).length<=rf.na:=by intro z;exact Nat.le_of_ble_eq_true (by kernel_rfl))
 (sc:∀x:δ,(cells x).all V.scalar=true:=by intro x;rfl):yS S (c_ S T) fn A p where
 k:=hk
 o:=D
 sc:=sc
 h z s u:=by
  have h1:=h z (cF s) (by rw[u];rfl)
  change kj S (c_ S T) (zK rf.rs) rf.body [] (start ((A z).map .v) [])=some (cF s)at h1;obtain⟨o,st',d,g1,g2,g3,g4⟩:=T0 h1;refine⟨d,st'.m,?_,g4⟩;rw[qQ B];unfold mB;rw[if_pos (by simpa using G z),g1]
  cases o with
  | exit id=>exact absurd rfl (g2 id)
  | norm=>simp only[g3,Option.map_some]
  | ret=>simp only[g3,Option.map_some]
section
variable {S:Sys} {c:ck} {β γ δ α:Type} [bB δ] {Q:Out×St->Option β} {e:γ->Option β} {cf:Cf}
theorem G7 (n u:Nat) {fn:FuncId} {A:α->List V} {p:α->Option (Sl δ)} (F:yS S c fn A p) (z:α) {f:Sl δ->Option γ}
 (h:∀x,(p z).bind Sl.whole=some x->Le ((f x).bind e) (ct S c Q (nx S c n cf λq=>{ q.st with g:=bM q.st.g u (.own u),m:=bM q.st.m u (cF x) })))
 (J:(gq S c n cf).map (λq=>(q.d,q.k,(bY S.N q.st.g q.az).bind ni,(!q.dr||q.now),q.st.new u))=some (some u,.c,some (fn,(A z).map .v),true,true):=by kernel_rfl):Le ((((p z).bind Sl.whole).bind f).bind e) (ct S c Q cf):=by
 obtain⟨q,L,hv⟩:=eY J;simp only[ζc]at hv;obtain⟨O,T,U,W,I⟩:=hv;obtain⟨C,g1,g2⟩:=ζg.1 U;refine uy L ?_ h;rw[O,T];intro y D;obtain⟨X,G,D⟩:=ζg.1 D;cases D;obtain⟨s,Y,B⟩:=ζg.1 G;obtain⟨e0,m',hc,Z⟩:=F.h z s Y;rw[An q.dr _ _ _ _ _ C fn ((A z).map .v) g1 g2];have w:fP S c (some u) q.dr (!q.dr||q.now) (fe q.st.m q.fr) fn ((A z).map .v) q.st=some (.own u,{ q.st with m:=bM q.st.m u (cF X) }):=by
  unfold fP;simp only[F.k,F.o,if_true,W,tR,hc,dw,Z,cF,I]
  cases s with
  | nil=>cases B;rfl
  | emp=>cases B;rfl
  | row l=>
   cases B;have:n9 (rows l)=true:=by
    unfold n9;rw[List.all_eq_true];intro x hx;obtain⟨a,_,rfl⟩:=List.mem_map.1 hx;exact F.sc a
   simp only[Sl.k,Sl.l,dw,V.cO,this,Bool.and_self,I,if_true];rfl
  | part l=>cases B
 rw[w];rfl
end
structure GD where
 m:Nat
 pre:List (Nat×List Gh)
 nd:List (Nat×List Gh×List Gh)
structure GI where
 m:Nat
 i:Nat
 j:Nat
def VP {α:Type} (l:List (Nat×List α)) (i:Nat):List α:=match l with
 | []=>[]
 | (k,x)::r=>bif Nat.beq k i then x else VP r i
def ze (l:List (Nat×List Gh×List Gh)) (i:Nat):List Gh×List Gh:=match l with
 | []=>([],[])
 | (k,x)::r=>bif Nat.beq k i then x else ze r i
def K5 (m:Nat):List Nat->List Nat
 | []=>[]
 | x::l=>bif Nat.beq (m % 2) 1 then x::K5 (m / 2) l else K5 (m / 2) l
def OG:List Arg->List Nat
 | []=>[]
 | .s n::r=>n::OG r
 | _::r=>OG r
def Vg (o:RO):List Nat:=(match o.dst with|some d=>[d]|none=>[])++(match o.gd with|some g=>[g.1]|none=>[])++OG o.az
def Wd (G:GD) (s:GI) (o:RO):RO:={ o with dead:=K5 (bif Nat.beq (s.m % 16) 15 then s.m / 16 % 65536 else s.m % 16) (Vg o),pre:=VP G.pre s.i }
def GI.op (s:GI):GI:=⟨bif Nat.beq (s.m % 16) 15 then s.m / 1048576 else s.m / 16,s.i+1,s.j⟩
def zp (G:GD):List RO->GI->List RO×GI
 | [],s=>([],s)
 | o::r,s=>(Wd G s o::(zp G r s.op).1,(zp G r s.op).2)
def zV:List Gh->RC->RC
 | [],c=>c
 | g::l,c=>.gh g (zV l c)
def Mj:List Gh->RC->RC
 | [],c=>c
 | g::l,c=>Mj l (.hg c g)
def GI.nd (s:GI):GI:=⟨s.m,s.i,s.j+1⟩
def jh (G:GD):RC->GI->RC×GI
 | .seq a b,s=>(zV (ze G.nd s.j).1 (.seq (jh G a s.nd).1 (jh G b (jh G a s.nd).2).1),(jh G b (jh G a s.nd).2).2)
 | .cond x a b,s=>(zV (ze G.nd s.j).1 (.cond x (jh G a s.nd).1 (jh G b (jh G a s.nd).2).1),(jh G b (jh G a s.nd).2).2)
 | .block id a,s=>(zV (ze G.nd s.j).1 (.block id (jh G a s.nd).1),(jh G a s.nd).2)
 | .loop a,s=>(zV (ze G.nd s.j).1 (.loop (Mj (ze G.nd s.j).2 (jh G a s.nd).1)),(jh G a s.nd).2)
 | .each g ps a b,s=>(zV (ze G.nd s.j).1 (.each g ps (jh G a s.nd).1 (Mj (ze G.nd s.j).2 (jh G b (jh G a s.nd).2).1)),(jh G b (jh G a s.nd).2).2)
 | .ops l,s=>(zV (ze G.nd s.j).1 (.ops (zp G l s.nd).1),(zp G l s.nd).2)
 | .oQ l,s=>(zV (ze G.nd s.j).1 (.oQ (zp G l s.nd).1),(zp G l s.nd).2)
 | .gh g c,s=>(.gh g c,s)
 | .hg c g,s=>(.hg c g,s)
 | c,s=>(zV (ze G.nd s.j).1 c,s.nd)
theorem kC (c:RC):∀l,erase (zV l c)=erase c
 | []=>rfl
 | g::l=>by simp only[zV,erase,kC c l]
theorem zM:∀l (c:RC),erase (Mj l c)=erase c
 | [],c=>rfl
 | g::l,c=>by simp only[Mj,zM l,erase]
theorem xA (G:GD):∀(l:List RO) s,((zp G l s).1).map RO.strip=l.map RO.strip
 | [],s=>rfl
 | o::r,s=>by simp only[zp,List.map_cons,xA G r];rfl
theorem kY (G:GD):∀(c:RC) s,erase (jh G c s).1=erase c
 | .seq a b,s=>by simp only[jh,kC,erase,kY G a,kY G b]
 | .cond x a b,s=>by simp only[jh,kC,erase,kY G a,kY G b]
 | .block id a,s=>by simp only[jh,kC,erase,kY G a]
 | .loop a,s=>by simp only[jh,kC,erase,zM,kY G a]
 | .each g ps a b,s=>by simp only[jh,kC,erase,zM,kY G a,kY G b]
 | .ops l,s=>by simp only[jh,kC,erase,xA]
 | .oQ l,s=>by simp only[jh,kC,erase,xA]
 | .gh g c,s=>rfl
 | .hg c g,s=>rfl
 | .skip,s=>by simp only[jh,kC]
 | .ret,s=>by simp only[jh,kC]
 | .exit _,s=>by simp only[jh,kC]
theorem Ih {X:CX} {dr:Bool} {ops:List Oper} {i:Nat} {o:Oper} {r:RO} (h:mX X dr ops i o=some r):r.strip=r:=by
 obtain⟨_,_,_,_,_,_,rfl⟩:=Cj h;rfl
theorem we {X:CX} {dr:Bool} {ops:List Oper}:∀{l:List Oper} {i:Nat} {r:List RO},kN X dr ops i l=some r->r.map RO.strip=r
 | [],i,r,h=>by cases h;rfl
 | o::l,i,r,h=>by
  simp only[kN]at h;split at h
  next a b B D=>cases h;simp only[List.map_cons,Ih B,we D]
  cases h
theorem Ir {X:CX}:∀{c:Code} {ro:Bool} {r:RC},bQ X ro c=some r->erase r=r:=by
 intro c
 induction c with
 | region _ ops dr=>
  intro ro r h;simp only[bQ]at h;split at h
  .split at h
   .obtain⟨l,h1,rfl⟩:=ζf.1 h;simp only[erase,we h1]
   cases h
  obtain⟨l,h1,rfl⟩:=ζf.1 h;simp only[erase,we h1]
 | seq a b u w=>
  intro ro r h;simp only[bQ]at h;split at h
  next h1 z=>cases h;simp only[erase,u h1,w z]
  cases h
 | cond c a b u w=>
  intro ro r h;simp only[bQ]at h;split at h
  next h1 z=>cases h;simp only[erase,u h1,w z]
  cases h
 | block id a u=>
  intro ro r h;simp only[bQ]at h;obtain⟨l,h1,rfl⟩:=ζf.1 h;simp only[erase,u h1]
 | loop a u=>
  intro ro r h;simp only[bQ]at h;obtain⟨l,h1,rfl⟩:=ζf.1 h;simp only[erase,u h1]
 | rangeFunc g ps a b u w=>
  intro ro r h;simp only[bQ]at h;split at h
  .cases h
  split at h
  next h1 z=>cases h;simp only[erase,u h1,w z]
  cases h
 | _=>intro ro r h;first|cases h;rfl|(simp only[bQ]at h;cases h;rfl)|(simp only[bQ]at h;cases h)
def OA (E:Env) (nm:FuncId->Option Nat) (G:FuncId->Option GD):pI:=λf=>
 (G f).bind λg=>(E.ft f).bind λu=>(bQ ⟨E,nm,u.ntmps⟩ false u.body).bind λc=>(u.results.mapM (z8 E)).bind λrs=>some ⟨u.ntmps,rs,(jh g c ⟨g.m,0,0⟩).1⟩
theorem Pw {E:Env} {nm:FuncId->Option Nat} {G:FuncId->Option GD} {f:FuncId} {rf:RF} (h:OA E nm G f=some rf):∃fi,E.ft f=some fi/\xR E nm fi rf:=by
 unfold OA at h;obtain⟨g,_,h⟩:=ζg.1 h;obtain⟨fi,h1,h⟩:=ζg.1 h;obtain⟨c,u,h⟩:=ζg.1 h;obtain⟨rs,w,h⟩:=ζg.1 h;cases h;exact⟨fi,h1,by rw[u,kY,Ir u],w,rfl⟩
theorem Al:∀(g:FuncId) (s:Nat),some g=some s->(λn=>n) s=g:=λ_ _ h=>(Option.some.inj h).symm
def rJ (o:Option RF):RF:=o.getD ⟨0,[],.skip⟩
def tb (T:pI) (f:FuncId):RC:=(rJ (T f)).body
def tr (T:pI) (f:FuncId):List RV:=(rJ (T f)).rs
theorem CP {o:Option RF} (h:o.isSome=true):o=some (rJ o):=by cases o with
 | none=>cases h
 | some r=>rfl
class jf (δ:Type) where
 e:δ->List V
instance WX {α:Type} [bB α]:jf α:=⟨λx=>[enc x]⟩
instance WY:jf Unit:=⟨λ_=>[]⟩
instance WW {α β:Type} [bB α] [jf β]:jf (α×β):=⟨λx=>enc x.1::jf.e x.2⟩
@[simp] theorem Wx {α:Type} [bB α] (x:α):jf.e x=[enc x]:=rfl
@[simp] theorem Wy (x:Unit):jf.e x=[]:=rfl
@[simp] theorem Wz {α β:Type} [bB α] [jf β] (x:α×β):jf.e x=enc x.1::jf.e x.2:=rfl
class Fc (S:Sys) (c:ck) {δ:Type} (m:Option δ) where
 n:FuncId
 az:List V
 E:δ->List V
 sc:Bool
 F:kB S c n (λ_:Unit=>az) E (λ_=>m) sc
section
variable {S:Sys} {T:pI} {δ:Type} {m:Option δ}
theorem kB.PI {E:δ->List V} (fn:FuncId) (az:List V) (h:Le (m.bind λr=>some (E r)) (ct S (c_ S T) (qU (tr T fn)) (.rc (tb T fn),[],start (az.map .v) [])))
 (B:(T fn).isSome=true) (hk:S.E.keep fn=false) (D:Nat.ble az.length (rJ (T fn)).na=true)
 {sc:Bool} (s:sc=true->∀r,(result (E r)).scalar=true):kB S (c_ S T) fn (λ_:Unit=>az) E (λ_=>m) sc where
 k:=hk
 h z:=Ws (CP B) (Nat.le_of_ble_eq_true D) h
 s:=s
abbrev Fc.NE (E:δ->List V) (fn:FuncId) (az:List V) (h:Le (m.bind λr=>some (E r)) (ct S (c_ S T) (qU (tr T fn)) (.rc (tb T fn),[],start (az.map .v) [])))
 (B:(T fn).isSome=true:=by kernel_rfl) (hk:S.E.keep fn=false:=by kernel_rfl) (D:Nat.ble az.length (rJ (T fn)).na=true:=by kernel_rfl)
 : Fc S (c_ S T) m:=
 ⟨fn,az,E,false,kB.PI fn az h B hk D λh=>nomatch h⟩
abbrev Fc.M [jf δ] (fn:FuncId) (az:List V) (h:Le (m.bind λr=>some (jf.e r)) (ct S (c_ S T) (qU (tr T fn)) (.rc (tb T fn),[],start (az.map .v) [])))
 (B:(T fn).isSome=true:=by kernel_rfl) (hk:S.E.keep fn=false:=by kernel_rfl) (D:Nat.ble az.length (rJ (T fn)).na=true:=by kernel_rfl)
 (s:∀r:δ,(result (jf.e r)).scalar=true:=by intro r;kernel_rfl):Fc S (c_ S T) m:=
 ⟨fn,az,jf.e,true,kB.PI fn az h B hk D λ_=>s⟩
abbrev Fc.N [jf δ] (fn:FuncId) (az:List V) (h:Le (m.bind λr=>some (jf.e r)) (ct S (c_ S T) (qU (tr T fn)) (.rc (tb T fn),[],start (az.map .v) [])))
 (B:(T fn).isSome=true:=by kernel_rfl) (hk:S.E.keep fn=false:=by kernel_rfl) (D:Nat.ble az.length (rJ (T fn)).na=true:=by kernel_rfl)
 : Fc S (c_ S T) m:=
 ⟨fn,az,jf.e,false,kB.PI fn az h B hk D λh=>nomatch h⟩
end
abbrev Fc.of {S:Sys} {c:ck} {α δ:Type} {p:α->Option δ} {n:FuncId} {A:α->List V} {E:δ->List V} {b:Bool} (z:α) (F:kB S c n A E p b):Fc S c (p z):=⟨n,A z,E,b,⟨F.k,λ_=>F.h z,F.s⟩⟩
theorem kB.tT {S:Sys} {c:ck} {α δ:Type} {p:α->Option δ} {n:FuncId} {A:α->List V} {E:δ->List V} {b:Bool} (F:∀z,Fc S c (p z)) (i:α) (B:∀z,(F z).n=n) (G:∀z,(F z).az=A z) (D:∀z,(F z).E=E) (J:∀z,(F z).sc=b):kB S c n A E p b where
 k:=by rw[<-B i];exact(F i).F.k
 h z:=by rw[<-B z,<-G z,<-D z];exact(F z).F.h ()
 s:=by rw[<-J i,<-D i];exact(F i).F.s
theorem nN.tT {S:Sys} {c:ck} {α δ:Type} {p:α->Option δ} {g:FuncId} {w e:List V} {A:α->List V} {R:δ->List V} {b:Bool} [i:Inhabited α] [F:∀z,Fc S c (p z)] (B:∀z,(F z).n=g:=by intro _;kernel_rfl) (D:∀z,(F z).az=w++A z++e:=by intro _;kernel_rfl)
 (G:∀z,(F z).E=R:=by intro _;kernel_rfl) (J:∀z,(F z).sc=b:=by intro _;kernel_rfl):nN S c g w e A R p b:=
 ⟨kB.tT F default B D G J⟩
section
variable {S:Sys} {c:ck} {β γ δ α:Type} {Q:Out×St->Option β} {e:γ->Option β} {cf:Cf}
theorem wu (n:Nat) {m:Option β} (h:Le m (ct S c Q (jv S c n cf))) (B:gQ S c n cf.1 cf.2.1 cf.2.2=some (jv S c n cf):=by kernel_rfl):Le m (ct S c Q cf):=Dg B h
theorem bN (n:Nat) {m:Option δ} [F:Fc S c m] {f:δ->Option γ} (h:∀x,m=some x->Le ((f x).bind e) (ct S c Q (nx S c n cf λp=>dg p.st p.d (.v (result (F.E x))))))
 (B:(gq S c n cf).map (λp=>(p.k,(bY S.N p.st.g p.az).bind ni,(!p.dr||p.now||fe p.st.m p.fr [])))=some (.c,some (F.n,F.az.map .v),true):=by kernel_rfl):Le ((m.bind f).bind e) (ct S c Q cf):=xZ n F.F () h B
theorem gW (n:Nat) {m:Option δ} [F:Fc S c m] {f:δ->Option γ} (h:∀x,m=some x->Le ((f x).bind e) (ct S c Q (nx S c n cf λp=>dg p.st p.d (.v (result (F.E x))))))
 (B:(gq S c n cf).map (λp=>(p.k,((bY S.N p.st.g p.az).bind ni).bind λq=>(nS (jb p.st.m 8) q.2).map λvs=>(q.1,vs,((!p.dr||p.now)||fe p.st.m p.fr q.2))))=some (.c,some (F.n,F.az,true)):=by kernel_rfl) (D:F.sc=true:=by kernel_rfl):Le ((m.bind f).bind e) (ct S c Q cf):=
 T7 n (u D F.F) () h B
where
 u {b:Bool} {fn:FuncId} {az:List V} {E:δ->List V} {m:Option δ} (h:b=true) (F:kB S c fn (λ_:Unit=>az) E (λ_=>m) b):kB S c fn (λ_:Unit=>az) E (λ_=>m) true:=h▸F
def Qh (cf:Cf):RC:=match cf.1 with|.rc (.loop c)=>c|_=>.skip
def Cm (cf:Cf):Arg×List Nat×RC×RC:=match cf.1 with|.rc (.each g ps a b)=>(g,ps,a,b)|_=>(.s 0,[],.skip,.skip)
theorem dW {σ ε ρ:Type} {step:σ->Option (Fw σ ε ρ)} (n:Nat) (eσ:σ->St) (eε:ε->Nat×St) (eρ:ρ->St) {s:σ} {B:ε->Option γ} {fr:ρ->Option γ}
 (h:∀s,Le ((step s).bind λw=>some (Fw.out eσ eε eρ w)) (ct S c some (.rc (Qh (jv S c n cf)),[],eσ s)))
 (D:∀x,Le ((B x).bind e) (ct S c Q (.ex (eε x).1,(jv S c n cf).2.1,(eε x).2))) (hr:∀b,Le ((fr b).bind e) (Q (.ret,eρ b)))
 (G:gQ S c n cf.1 cf.2.1 cf.2.2=some (.rc (.loop (Qh (jv S c n cf))),(jv S c n cf).2.1,eσ s):=by kernel_rfl):Le (((bR step s).bind (Fw.elim B fr)).bind e) (ct S c Q cf):=
 MR G h D hr
theorem fJ {σ ε:Type} {step:σ->Option (Fw σ ε Empty)} (n:Nat) (eσ:σ->St) (eε:ε->Nat×St) {s:σ} {B:ε->Option γ} {fr:Empty->Option γ}
 (h:∀s,Le ((step s).bind λw=>some (Fw.out eσ eε (λe=>Empty.elim e) w)) (ct S c some (.rc (Qh (jv S c n cf)),[],eσ s)))
 (D:∀x,Le ((B x).bind e) (ct S c Q (.ex (eε x).1,(jv S c n cf).2.1,(eε x).2)))
 (G:gQ S c n cf.1 cf.2.1 cf.2.2=some (.rc (.loop (Qh (jv S c n cf))),(jv S c n cf).2.1,eσ s):=by kernel_rfl):Le (((bR step s).bind (Fw.elim B fr)).bind e) (ct S c Q cf):=
 MR G h D λb=>Empty.elim b
theorem Fz {σ ε ρ:Type} {f:FuncId} {x y:List V} {items:List α} {eI:α->List V} {step:α->σ->Option (Fw σ ε ρ)} (n:Nat) (gt:Tb SV) (eσ:σ->Tb bG) (eε:ε->Nat×Tb bG) (eρ:ρ->Tb bG) {s:σ} {fn:σ->Option γ} {B:ε->Option γ} {fr:ρ->Option γ}
 (D:S.items f x y=some (items.map eI))
 (h:∀x s,Le ((step x s).bind λw=>some (Fw.vt eσ eε eρ w)) (ct S c (xP S c (Cm (jv S c n cf)).2.2.2) (.rc (Cm (jv S c n cf)).2.2.1,[],⟨vN gt (Cm (jv S c n cf)).2.1 ((eI x).map .v),eσ s,pz gt,[],true,0⟩)))
 (G:∀s,Le ((fn s).bind e) (ct S c Q (.nx,(jv S c n cf).2.1,bF gt (eσ s)))) (J:∀x,Le ((B x).bind e) (ct S c Q (.ex (eε x).1,(jv S c n cf).2.1,bF gt (eε x).2))) (hr:∀b,Le ((fr b).bind e) (Q (.ret,bF gt (eρ b))))
 (O:∀x,(eI x).length=(Cm (jv S c n cf)).2.1.length:=by intro _;kernel_rfl) (hg:qh S.N gt (Cm (jv S c n cf)).1=some (.v (.clo f x y)):=by kernel_rfl)
 (U:gQ S c n cf.1 cf.2.1 cf.2.2=some (.rc (.each (Cm (jv S c n cf)).1 (Cm (jv S c n cf)).2.1 (Cm (jv S c n cf)).2.2.1 (Cm (jv S c n cf)).2.2.2),(jv S c n cf).2.1,bF gt (eσ s)):=by kernel_rfl):Le (((nT step items s).bind (Fw.vL fn B fr)).bind e) (ct S c Q cf):=
 Uq U hg D O h G J hr
noncomputable def TZ (n k:Nat) (B:List Nat) (d:Nat) (S:Sys) (c:ck) (cf:Cf) (v:SV):Cf:=jmp k [] (jv S c n cf) { (jv S c n cf).2.2 with g:=bM (oN B (jv S c n cf).2.2.g) d v }
theorem cB [bB δ] (n k:Nat) (B:List Nat) (d:Nat) {m:Option δ} {f:δ->Option γ} (D:Le (m.bind λr=>ct S c Q (TZ n k B d S c cf (cv r))) (ct S c Q cf))
 (h1:∀r,Le ((f r).bind e) (ct S c Q (TZ n k B d S c cf (cv r)))):Le ((m.bind f).bind e) (ct S c Q cf):=PS _ D h1
end
instance {n:Nat}:DecidableEq (bW n Int):=λa b=>if h:a.l=b.l then .isTrue (by cases a;cases b;cases h;rfl)else .isFalse λe=>h (by rw[e])
theorem uI:∀l:List Int,iA ((l.map (cells (α:=Int))).flatten)=some l
 | []=>rfl
 | a::l=>by
  show iA (.int .i64 a::(l.map (cells (α:=Int))).flatten)=_;simp only[iA,uI l,Option.map_some]
theorem D0 (l:List Int):(l.map (cells (α:=Int))).flatten=l.map (V.int .i64):=by
 induction l with
 | nil=>rfl
 | cons a l u=>simp only[List.map_cons,List.flatten_cons,u];rfl
instance {n:Nat}:Key (bW n Int) where
 kk:=.ints n
 ok a:=by
  show ((a.l.map (cells (α:=Int))).flatten.length==n&&(iA (a.l.map (cells (α:=Int))).flatten).isSome)=true;rw[uI,D0,List.length_map,a.len];simp
 eq a b:=by
  show kJ (a.l.map (cells (α:=Int))).flatten (b.l.map (cells (α:=Int))).flatten=_;unfold kJ;rw[uI,uI];simp only[a.len,b.len,if_true]
  congr 1
  rw[Bool.eq_iff_iff,beq_iff_eq,decide_eq_true_iff];exact⟨λh=>by cases a;cases b;cases h;rfl,λh=>by rw[h]⟩
def mO (n:Nat) (s:Sl Int):bW n Int:=⟨mW n s.l,by unfold mW;simp;omega⟩
theorem wj:∀l:List Int,pZ (l.map (cells (α:=Int)))=some l
 | []=>rfl
 | a::l=>by
  show pZ ([.int .i64 a]::l.map (cells (α:=Int)))=_;simp only[pZ,wj l,Option.map_some]
theorem PB (n:Nat) (s:Sl Int):uj n [enc s]=some (enc (mO n s)):=by
 have e:enc (mO n s)=.agg (yf n s.l):=by
  show V.agg ((mO n s).l.map (cells (α:=Int))).flatten=_;rw[D0];rfl
 rw[e]
 cases s with
 | nil=>rfl
 | emp=>rfl
 | row l=>
  show ((pZ (l.map (cells (α:=Int)))).map λl=>V.agg (yf n l))=_
  rw[wj];rfl
 | part l=>
  show ((pZ (l.map (cells (α:=Int)))).map λl=>V.agg (yf n l))=_
  rw[wj];rfl
theorem MM {E:Env} {f:FuncId} {az:List V} {y:V} (B:V.good y=true) (h:∃n H',run E n (.fn f) az []=some (y,H')):wK E f az y:=by
 obtain⟨n,H',h⟩:=h;exact⟨n,y,H',λ_=>False,h,.same _ B,λ_ h=>h.elim,⟨λ_ _ _ h=>h.elim⟩⟩
theorem Nh {E:Env} {f:FuncId} {az:List V} {y:V} (h1:E.ft f=none) (B:E.sort f=false) (D:E.known f az=some y):run E 1 (.fn f) az []=some (y,[]):=by
 simp only[run,jx,h1,B,D];rfl
theorem Rm {E:Env} {f n:Nat} (h1:E.ft f=none) (B:E.sort f=false) (D:∀az,E.known f az=uj n az) (s:Sl Int):wK E f [enc s] (enc (mO n s)):=
 MM (ig _) ⟨1,[],Nh h1 B (by rw[D,PB])⟩
def z7 (m:Tb bG):SV->Bool
 | .v _|.agg _=>true
 | x=>kO m x
def nv:SV->List SV
 | .v x=>x.cells.map .v
 | .agg l=>l
 | x=>[x]
def Ab (cells:List SV):List (Nat×Nat)->List SV->Option (List SV)
 | [],[]=>some cells
 | (off,size)::pl,v::vs=>if(nv v).length=size/\off+(nv v).length<=cells.length then Ab (cells.take off++nv v++cells.drop (off+(nv v).length)) pl vs else none
 | _,_=>none
theorem LH (cells:List SV):Ab cells [] []=some cells:=rfl
theorem CO (cells:List SV) (off size:Nat) (pl:List (Nat×Nat)) (v:SV) (vs:List SV):Ab cells ((off,size)::pl) (v::vs) =
 if(nv v).length=size/\off+(nv v).length<=cells.length then Ab (cells.take off++nv v++cells.drop (off+(nv v).length)) pl vs else none:=rfl
theorem Ow (x:V):nv (.v x)=x.cells.map .v:=rfl
theorem Jr (d:Nat):nv (.own d)=[.own d]:=rfl
theorem ML (d:Nat):nv (.mp d)=[.mp d]:=rfl
theorem Kb (d o:Nat):nv (.ptr d o)=[.ptr d o]:=rfl
theorem PA {m:Tb bG} {v:SV} (h:z7 m v=true):xw m v=some (nv v):=by
 cases v <;> first|rfl|(unfold xw;exact if_pos h)|(simp[z7,kO]at h)
theorem IX {m:Tb bG}:∀{pl:List (Nat×Nat)} {vs cells l:List SV},vs.all (z7 m)=true->Ab cells pl vs=some l->sA m cells pl vs=some l
 | [],[],_,_,_,h=>h
 | [],_::_,_,_,_,h=>by cases h
 | _::_,[],_,_,_,h=>by cases h
 | (off,size)::pl,v::vs,cells,l,B,h=>by
  rw[List.all_cons,ζh]at B;rw[CO]at h;show (match xw m v with|some c=>if c.length=size/\off+c.length<=cells.length then sA m (cells.take off++c++cells.drop (off+c.length)) pl vs else none|none=>none)=some l
  rw[PA B.1];simp only;split at h
  next hc=>rw[if_pos hc];exact IX B.2 h
  cases h
def Dh:SV->Bool
 | .v x=>x.one
 | .agg _=>false
 | _=>true
theorem Tr (x:V):Dh (.v x)=x.one:=rfl
theorem Pt (d:Nat):Dh (.own d)=true:=rfl
theorem QZ (d:Nat):Dh (.mp d)=true:=rfl
theorem Pd (d o:Nat):Dh (.ptr d o)=true:=rfl
theorem Jb {m:Tb bG}:∀{l:List SV},l.all Dh=true->l.all (z7 m)=true->l.all (vW m)=true
 | [],_,_=>rfl
 | x::l,h,k=>by
  rw[List.all_cons,ζh]at h k ⊢;refine⟨?_,Jb h.2 k.2⟩;cases x <;> first|exact h.1|exact k.1|(have:=h.1;cases this)
section
variable {S:Sys} {c:ck} {β γ δ α:Type} {Q:Out×St->Option β} {e:γ->Option β} {cf:Cf}
theorem LK {N:Nat->FuncId} {m:Tb bG} {z:List V} {pl:List (Nat×Nat)} {svs l:List SV} (B:(dw svs).isNone=true) (h:sA m (z.map .v) pl svs=some l):jy N m (.build z pl) svs=some (.agg l):=by
 unfold jy
 cases hv:dw svs with
 | some x=>rw[hv]at B;cases B
 | none=>
  have:vG N m (.build z pl) svs=(sA m (z.map .v) pl svs).map .agg:=by
   unfold vG;split <;> first|contradiction|(rename_i e _;cases e;rfl)|simp_all
  simp only[this,h,Option.map_some]
theorem Vm (n:Nat) (svs l:List SV) (z:List V) (pl:List (Nat×Nat)) {m:Option β} (B:Ab (z.map .v) pl svs=some l) (h:Le m (ct S c Q (nx S c n cf λp=>dg p.st p.d (.agg l))))
 (D:(gq S c n cf).map (λp=>(p.k,bY S.N p.st.g p.az,(dw svs).isNone,svs.all (z7 p.st.m)))=some (.p (.build z pl),some svs,true,true):=by kernel_rfl):Le m (ct S c Q cf):=by
 obtain⟨p,u,hv⟩:=eY D;simp only[ζc]at hv;refine sG u ?_ h;rw[hv.1];exact Bl hv.2.1 rfl (LK hv.2.2.1 (IX hv.2.2.2 B))
theorem UW (n u:Nat) (l:List SV) {m:Option β} (B:l.all Dh=true) (h:Le m (ct S c Q (nx S c n cf λp=>{ p.st with g:=bM p.st.g u (.ptr u 0),m:=bM p.st.m u (.box l) })))
 (D:(gq S c n cf).map (λp=>(p.d,p.k,bY S.N p.st.g p.az,p.st.new u,l.all (z7 p.st.m)))=some (some u,.a .box,some [.agg l],true,true):=by kernel_rfl):Le m (ct S c Q cf):=by
 obtain⟨p,w,hv⟩:=eY D;simp only[ζc]at hv;refine sG w ?_ h;rw[hv.1,hv.2.1,vF,hv.2.2.1];simp only[ζb,hv.2.2.2.1,if_true,mJ,Jb B hv.2.2.2.2]
theorem We [bB α] (n u:Nat) (y x:α) {m:Option β} (h:Le m (ct S c Q (nx S c n cf λp=>dg { p.st with m:=bM p.st.m u (bx x) } p.d (.v .undef))))
 (B:(gq S c n cf).map (λp=>(p.k,bY S.N p.st.g p.az,(!p.dr||p.now),bh p.st.m u))=some (.l (.store (bB.size α)),some [.ptr u 0,cv x],true,some (bx y)):=by kernel_rfl):Le m (ct S c Q cf):=by
 obtain⟨p,z,hv⟩:=eY B;simp only[ζc]at hv;refine sG z ?_ h;obtain⟨h1,C,D,G⟩:=hv;rw[h1,uC,C];have w:((cells y).map SV.v).length=bB.size α:=by rw[List.length_map,eX]
 simp only[ζb,D,if_true,mg,G,putCells,kE,eX,ow,w,Nat.zero_add,Nat.le_refl,and_self,Option.map_some,List.take_zero,List.nil_append];rw[List.drop_of_length_le (by rw[w];exact Nat.le_refl _),List.append_nil]
end
section
variable {S:Sys} {c:ck} {β γ δ:Type} {Q:Out×St->Option β} {e:γ->Option β} {cf:Cf} {κ ν:Type} [bB κ] [DecidableEq κ] [Key κ] [bB ν]
structure yF (κ ν:Type) where
 o:Option (Mo κ ν)
 deriving Inhabited
def Ta (m:yF κ ν):V:=match m.o with|none=>.f_|some l=>.fmap (mo l)
theorem MU (m:Mo κ ν):V.rV (mo m)=true:=by
 induction m with
 | nil=>rfl
 | cons x r u=>show V.rV ((enc x.1,enc x.2)::mo r)=true;simp only[V.rV,ig,u,Bool.and_self]
instance:bB (yF κ ν) where
 cells m:=[Ta m]
 agg:=false
 size:=1
 len _:=rfl
 good m:=by
  unfold Ta;split
  .rfl
  simp only[V.cA,V.good,MU,Bool.and_self]
 one m:=by unfold Ta;split <;> rfl
 plain _:=rfl
theorem IS (m:yF κ ν):V.one (enc m)=true:=by obtain⟨o⟩:=m;cases o <;> rfl
def wD (m:yF κ ν):Mo κ ν:=m.o.getD []
theorem OR (m:yF κ ν):mc [] (enc m)=some (mo (wD m)):=by
 obtain⟨o⟩:=m;cases o <;> rfl
theorem PR (m:yF κ ν) (k:κ) (z:ν) (ok:Bool):eR [] (.lookup (Key.kk κ) (enc z) ok) [enc m,enc k]=some (if ok then .tup [enc (iZ (wD m) k z),.bool (wk (wD m) k)]else enc (iZ (wD m) k z)):=by
 simp only[eR,OR,Key.ok,if_true];have:=Av k (wD m) 0;simp only[iZ,wk]
 cases B:gR (enc k) (mo (wD m)) 0 with
 | none=>rw[B]at this;cases this
 | some r=>
  rw[B]at this;simp only[Option.map_some,ζa]at this
  cases r with
  | none=>
   cases u:jL k (wD m)with
   | none=>rfl
   | some w=>rw[u]at this;cases this
  | some w=>
   cases u:jL k (wD m)with
   | none=>rw[u]at this;cases this
   | some C=>
    rw[u]at this;simp only[Option.map_some,ζa]at this;simp only[this];rfl
theorem T_ (n:Nat) (mp:yF κ ν) (k:κ) (z:ν) {m:Option β} (h:Le m (ct S c Q (nx S c n cf λp=>dg p.st p.d (cv (iZ (wD mp) k z)))))
 (B:(gq S c n cf).map (λp=>(p.k,bY S.N p.st.g p.az))=some (.r (.lookup (Key.kk κ) (enc z) false),some [cv mp,cv k]):=by kernel_rfl):Le m (ct S c Q cf):=by
 obtain⟨p,u,hv⟩:=eY B;simp only[ζc]at hv;refine sG u ?_ h;rw[hv.1,xM,hv.2];simp only[ζb,eM,Bool.or_true,if_true,mh,PR,Option.map_some];rfl
end
theorem kB.scalar {S:Sys} {c:ck} {α δ:Type} {fn:FuncId} {A:α->List V} {E:δ->List V} {p:α->Option δ} {b:Bool} (F:kB S c fn A E p b) (h:∀r,(result (E r)).scalar=true):kB S c fn A E p true:=⟨F.k,F.h,λ_=>h⟩
theorem AT:∀l:List Int,V.cO (l.map (cells (α:=Int))).flatten=true
 | []=>rfl
 | x::l=>by
  show V.cO (.int .i64 x::(l.map (cells (α:=Int))).flatten)=true;simp only[V.cO,V.scalar,AT l,Bool.and_self]
theorem KF {n:Nat} (a:bW n Int):(result [enc a]).scalar=true:=AT a.l
section
variable {S:Sys} {c:ck} {β γ δ α:Type} [bB α] {Q:Out×St->Option β} {e:γ->Option β} {cf:Cf}
theorem SB (m:Tb bG) (u:Nat) (x:α) (B:bB.agg α=true) (h:bh m u=some (bx x)):mh m (.load (bB.size α) true) [.ptr u 0]=some (cv x):=by
 have w:((cells x).map SV.v).length=bB.size α:=by rw[List.length_map,eX]
 simp only[mh,h,List.drop_zero];rw[List.take_of_length_le (by rw[w];exact Nat.le_refl _)]
 unfold tG;rw[if_pos w,if_pos rfl,pn];simp only;rw[<-w6 B]
theorem Wi (n u:Nat) (x:α) (B:bB.agg α=true) {m:Option β} (h:Le m (ct S c Q (nx S c n cf λp=>dg p.st p.d (cv x))))
 (D:(gq S c n cf).map (λp=>(p.k,bY S.N p.st.g p.az,(!p.dr||p.now||eM p.fr [.ptr u 0]),bh p.st.m u))=some (.r (.load (bB.size α) true),some [.ptr u 0],true,some (bx x)):=by kernel_rfl):Le m (ct S c Q cf):=by
 obtain⟨p,w,hv⟩:=eY D;simp only[ζc]at hv;obtain⟨h1,z,C,G⟩:=hv;refine sG w ?_ h;rw[h1,xM,z];simp only[ζb,C,if_true,SB _ u x B G]
theorem Qf {ω:Type} [bB ω] (n u:Nat) {N:Nat} (a:bW N α) (i:Int) (o:Nat) (x:α) (D:a.at i=some x) (y:α) (w:ω) (G:cells y=(cells x).take o++cells w++(cells x).drop (o+bB.size ω)) {m:Option β} (h:Le m (ct S c Q (nx S c n cf λp=>dg { p.st with m:=bM p.st.m u (bx (a.set i y)) } p.d (.v .undef))))
 (J:(gq S c n cf).map (λp=>(p.k,bY S.N p.st.g p.az,bh p.st.m u,(!p.dr||p.now),Nat.ble (o+bB.size ω) (bB.size α)))=some (.l (.store (bB.size ω)),some [.ptr u (i.toNat*bB.size α+o),cv w],some (bx a),true,true):=by kernel_rfl):Le m (ct S c Q cf):=by
 obtain⟨p,B,z⟩:=eY J;simp only[ζc]at z;obtain⟨h1,C⟩:=h_ B;obtain⟨dr,fr,d,gd,now,U,az,dd,l,fs,st⟩:=p;obtain⟨rfl,I,L,O,T⟩:=z;exact Qc n dr fr (⟨d,gd,now,.l (.store (bB.size ω)),az,dd,[]⟩::l) fs st u a i o x D y (enc w) (by rw[kE];exact G) rfl (by(try dsimp only at *);simp only[h1,C,I,L,O,T,kE,eX,ow]) (by
  simp only[nx,B]at h;exact h)
end
noncomputable def Ff (rs:List RV):Out×St->Option (bG×List V)
 | (.exit _,_)=>none
 | (_,st)=>(kP st rs).bind λl=>match l with
  | .own d::r=>(bh st.m d).bind λob=>(dw r).map λys=>(ob,ys)
  | _=>none
theorem Ad:∀{l:List SV} {ys:List V},dw l=some ys->l=ys.map .v
 | [],ys,h=>by cases h;rfl
 | .v x::r,ys,h=>by
  simp only[dw]at h;obtain⟨B,h1,rfl⟩:=ζf.1 h;rw[Ad h1];rfl
 | .own _::_,_,h|.ptr ..::_,_,h|.el ..::_,_,h|.mp _::_,_,h|.clo ..::_,_,h|.tup _::_,_,h|.agg _::_,_,h|.yl _::_,_,h=>by cases h
theorem Wb {S:Sys} {c:ck} {rs:List RV} {rc:RC} {st:St} {ob:bG} {ys:List V} (h:kj S c (Ff rs) rc [] st=some (ob,ys)):∃o st' d,cH S c rc st=some (o,st')/\(∀id,o≠.exit id)/\kP st' rs=some (.own d::ys.map .v)/\bh st'.m d=some ob:=by
 rw[pV]at h;obtain⟨⟨o,st'⟩,h1,u⟩:=ζg.1 h;have z:∀id,o≠.exit id:=by rintro id rfl;simp[Ff]at u
 have B:(kP st' rs).bind (λl=>match l with|.own d::r=>(bh st'.m d).bind λob=>(dw r).map λys=>(ob,ys)|_=>none)=some (ob,ys):=by
  cases o with
  | exit id=>exact absurd rfl (z id)
  | norm=>exact u
  | ret=>exact u
 obtain⟨l,C,w⟩:=ζg.1 B;split at w
 .obtain⟨D,G,I⟩:=ζg.1 w;obtain⟨O,J,L⟩:=ζf.1 I;cases L;exact⟨o,st',_,h1,z,by rw[C,Ad J],G⟩
 cases w
structure VM (S:Sys) (c:ck) {δ ε:Type} [bB δ] [jf ε] (m:Option (Sl δ×ε)) where
 n:FuncId
 az:List V
 k:S.E.keep n=true
 o:S.E.own n=true
 h:∀s r,m=some (s,r)->∃e m',c n (az.map .v) []=some (.own e::(jf.e r).map .v,m')/\bh m' e=some (cF s)
 sc:∀x:δ,(cells x).all V.scalar=true
 sr:∀r:ε,V.cO (jf.e r)=true
abbrev VM.mk' {S:Sys} {T:pI} {δ ε:Type} [bB δ] [jf ε] {m:Option (Sl δ×ε)} (fn:FuncId) (az:List V) (h:Le (m.bind λr=>some (cF r.1,jf.e r.2)) (ct S (c_ S T) (Ff (tr T fn)) (.rc (tb T fn),[],start (az.map .v) [])))
 (B:(T fn).isSome=true:=by kernel_rfl) (hk:S.E.keep fn=true:=by kernel_rfl) (D:S.E.own fn=true:=by kernel_rfl) (G:Nat.ble az.length (rJ (T fn)).na=true:=by kernel_rfl)
 (sc:∀x:δ,(cells x).all V.scalar=true:=by intro x;rfl) (sr:∀r:ε,V.cO (jf.e r)=true:=by intro r;rfl):VM S (c_ S T) m where
 n:=fn
 az:=az
 k:=hk
 o:=D
 sc:=sc
 sr:=sr
 h s r w:=by
  have u:=CP B;have h1:=h (cF s,jf.e r) (by rw[w];rfl)
  change kj S (c_ S T) (Ff (rJ (T fn)).rs) (rJ (T fn)).body [] (start (az.map .v) [])=some (cF s,jf.e r)at h1;obtain⟨o,st',d,g1,g2,g3,g4⟩:=Wb h1;refine⟨d,st'.m,?_,g4⟩;rw[qQ u];unfold mB;rw[if_pos (by simpa using Nat.le_of_ble_eq_true G),g1]
  cases o with
  | exit id=>exact absurd rfl (g2 id)
  | norm=>simp only[g3,Option.map_some]
  | ret=>simp only[g3,Option.map_some]
section
variable {S:Sys} {c:ck} {β γ δ α:Type} {Q:Out×St->Option β} {e:γ->Option β} {cf:Cf}
end
noncomputable def Lf (rs:List RV) (B:List Nat):Out×St->Option (List V×dZ)
 | (.exit _,_)=>none
 | (_,st)=>(kP st rs).bind λl=>(dw l).bind λys=>(lC st.m B).map λos=>(ys,os)
theorem WO {S:Sys} {c:ck} {rs:List RV} {B:List Nat} {rc:RC} {st:St} {os:dZ} {ys:List V} (h:kj S c (Lf rs B) rc [] st=some (ys,os)):∃o st',cH S c rc st=some (o,st')/\(∀id,o≠.exit id)/\kP st' rs=some (ys.map .v)/\lC st'.m B=some os:=by
 rw[pV]at h;obtain⟨⟨o,st'⟩,h1,u⟩:=ζg.1 h;have w:∀id,o≠.exit id:=by rintro id rfl;simp[Lf]at u
 have z:(kP st' rs).bind (λl=>(dw l).bind λys=>(lC st'.m B).map λos=>(ys,os))=some (ys,os):=by
  cases o with
  | exit id=>exact absurd rfl (w id)
  | norm=>exact u
  | ret=>exact u
 obtain⟨l,C,D⟩:=ζg.1 z;obtain⟨O,G,I⟩:=ζg.1 D;obtain⟨q,J,L⟩:=ζf.1 I;cases L;exact⟨o,st',h1,w,by rw[C,Ad G],J⟩
def yd:Tb bG->dZ->Tb bG
 | m,[]=>m
 | m,(d,ob)::r=>yd (bM m d ob) r
theorem Hg {m':dZ} {G:List Nat}:∀{B:List Nat} {os m:dZ},lC m' B=some os->(os.all λx=>within G x.2)=true->vP G m' B m=some (yd m os)
 | [],os,m,h,_=>by cases h;rfl
 | k::B,os,m,h,D=>by
  simp only[lC]at h;split at h
  next v t h1 J=>cases h;simp only[List.all_cons,ζh]at D;simp only[vP,h1,D.1,if_true,yd];exact Hg J D.2
  cases h
theorem back_eq {m':dZ} {B:List Nat} {os m:dZ} (h:lC m' B=some os) (D:(os.all λx=>within B x.2)=true):lX m' B m=some (yd m os):=Hg h D
structure QH (S:Sys) (c:ck) {δ:Type} (m:Option δ) where
 n:FuncId
 az:List SV
 os:dZ
 E:δ->List V
 M:δ->dZ
 k:S.E.keep n=true
 o:S.E.own n=false
 q:(S.prm n).isNone=true
 h:∀r,m=some r->∃m',c n az os=some ((E r).map .v,m')/\∀m0,lX m' (os.map (·.1)) m0=some (yd m0 (M r))
abbrev QH.mk' {S:Sys} {T:pI} {δ:Type} {m:Option δ} (fn:FuncId) (az:List SV) (os:dZ) (E:δ->List V) (M:δ->dZ) (h:Le (m.bind λr=>some (E r,M r)) (ct S (c_ S T) (Lf (tr T fn) (os.map (·.1))) (.rc (tb T fn),[],start az os)))
 (B:(T fn).isSome=true:=by kernel_rfl) (hk:S.E.keep fn=true:=by kernel_rfl) (D:S.E.own fn=false:=by kernel_rfl) (G:(S.prm fn).isNone=true:=by kernel_rfl) (J:Nat.ble az.length (rJ (T fn)).na=true:=by kernel_rfl)
 (O:∀r,((M r).all λx=>within (os.map (·.1)) x.2)=true:=by intro r;kernel_rfl):QH S (c_ S T) m where
 n:=fn
 az:=az
 os:=os
 E:=E
 M:=M
 k:=hk
 o:=D
 q:=G
 h r hr:=by
  have u:=CP B;have h1:=h (E r,M r) (by rw[hr];rfl)
  change kj S (c_ S T) (Lf (rJ (T fn)).rs (os.map (·.1))) (rJ (T fn)).body [] (start az os)=some (E r,M r)at h1;obtain⟨o,st',g1,g2,g3,g4⟩:=WO h1;refine⟨st'.m,?_,λw=>back_eq g4 (O r)⟩
  rw[qQ u];unfold mB;rw[if_pos (Nat.le_of_ble_eq_true J),g1]
  cases o with
  | exit id=>exact absurd rfl (g2 id)
  | norm=>simp only[g3,Option.map_some]
  | ret=>simp only[g3,Option.map_some]
section
variable {S:Sys} {c:ck} {β γ δ:Type} {Q:Out×St->Option β} {e:γ->Option β} {cf:Cf}
instance:Key ByteArray where
 kk:=.str
 ok _:=rfl
 eq a b:=by
  show some (a==b)=some (decide (a=b));rw[show (a==b)=decide (a=b)from Bool.eq_iff_iff.2 (by cases a;cases b;rename_i x y;show (x==y)=true↔_;simp)]
def JX (s:Sl U8):ByteArray:=lq (s.l.map U8.v)
theorem HG:∀l:List U8,kU (rows l)=some (l.map U8.v)
 | []=>rfl
 | a::l=>by
  show (kU (rows l)).map (a.v::·)=_;rw[HG l];rfl
theorem Vr (n u:Nat) (s:Sl U8) {m:Option β} (h:Le m (ct S c Q (nx S c n cf λp=>dg p.st p.d (.v (.str (JX s))))))
 (B:(gq S c n cf).map (λp=>(p.k,bY S.N p.st.g p.az,bh p.st.m u,p.dr))=some (.b,some [.own u],some (cF s),false):=by kernel_rfl):Le m (ct S c Q cf):=by
 obtain⟨p,z,hv⟩:=eY B;simp only[ζc]at hv;obtain⟨C,D,G,I⟩:=hv;refine sG z ?_ h;rw[C,I];have J:(iU p.st.m 1 (.own u)).bind (λL=>(kU L).map λl=>((SV.v (.str (lq l)),p.st):SV×St))=some (.v (.str (JX s)),p.st):=by
  have O:kU (rows s.l)=some (s.l.map U8.v):=HG _;have w:iU p.st.m 1 (.own u)=some (rows s.l):=by
   unfold iU;simp only[G];cases s <;> rfl
  rw[w];show ((kU (rows s.l)).map λl=>_)=_
  rw[O];rfl
 unfold fK mb;have T:fT S.N p.st.g ⟨p.d,none,p.now,.b,p.az,[],[]⟩=none:=rfl;simp only[wanted,T,D,Bool.false_eq_true,if_false,J];rfl
end
noncomputable def Kq (rs:List RV) (B:List Nat):Out×St->Option (bG×List V×dZ)
 | (.exit _,_)=>none
 | (_,st)=>(kP st rs).bind λl=>match l with
  | .own d::r=>if B.contains d then none else(bh st.m d).bind λob=>(dw r).bind λys=>(lC st.m B).map λos=>(ob,ys,os)
  | _=>none
theorem WB {S:Sys} {c:ck} {rs:List RV} {B:List Nat} {rc:RC} {st:St} {ob:bG} {ys:List V} {os:dZ} (h:kj S c (Kq rs B) rc [] st=some (ob,ys,os)) :
 ∃o st' d,cH S c rc st=some (o,st')/\(∀id,o≠.exit id)/\kP st' rs=some (.own d::ys.map .v)/\B.contains d=false/\bh st'.m d=some ob/\lC st'.m B=some os:=by
 rw[pV]at h;obtain⟨⟨o,st'⟩,h1,w⟩:=ζg.1 h;have D:∀id,o≠.exit id:=by rintro id rfl;simp[Kq]at w
 have G:(kP st' rs).bind (λl=>match l with|.own d::r=>if B.contains d then none else(bh st'.m d).bind λob=>(dw r).bind λys=>(lC st'.m B).map λos=>(ob,ys,os)|_=>none)=some (ob,ys,os):=by
  cases o with
  | exit id=>exact absurd rfl (D id)
  | norm=>exact w
  | ret=>exact w
 obtain⟨l,I,u⟩:=ζg.1 G;split at u
 .split at u
  .cases u
  rename_i hc;obtain⟨J,L,O⟩:=ζg.1 u;obtain⟨U,Q,T⟩:=ζg.1 O;obtain⟨q,z,C⟩:=ζf.1 T;cases C;exact⟨o,st',_,h1,D,by rw[I,Ad Q],by simpa using hc,L,z⟩
 cases u
structure VY (S:Sys) (c:ck) {δ ε:Type} [bB δ] [jf ε] (m:Option (Sl δ×ε)) where
 n:FuncId
 az:List SV
 os:dZ
 M:Sl δ×ε->dZ
 k:S.E.keep n=true
 o:S.E.own n=false
 q:(S.prm n).isNone=true
 h:∀r,m=some r->∃e m',c n az os=some (.own e::(jf.e r.2).map .v,m')/\bh m' e=some (cF r.1)/\(os.map (·.1)).contains e=false/\∀m0,lX m' (os.map (·.1)) m0=some (yd m0 (M r))
abbrev VY.mk' {S:Sys} {T:pI} {δ ε:Type} [bB δ] [jf ε] {m:Option (Sl δ×ε)} (fn:FuncId) (az:List SV) (os:dZ) (M:Sl δ×ε->dZ)
 (h:Le (m.bind λr=>some (cF r.1,jf.e r.2,M r)) (ct S (c_ S T) (Kq (tr T fn) (os.map (·.1))) (.rc (tb T fn),[],start az os)))
 (B:(T fn).isSome=true:=by kernel_rfl) (hk:S.E.keep fn=true:=by kernel_rfl) (D:S.E.own fn=false:=by kernel_rfl) (G:(S.prm fn).isNone=true:=by kernel_rfl) (J:Nat.ble az.length (rJ (T fn)).na=true:=by kernel_rfl)
 (O:∀r,((M r).all λx=>within (os.map (·.1)) x.2)=true:=by intro r;kernel_rfl):VY S (c_ S T) m where
 n:=fn
 az:=az
 os:=os
 M:=M
 k:=hk
 o:=D
 q:=G
 h r hr:=by
  have u:=CP B;have h1:=h (cF r.1,jf.e r.2,M r) (by rw[hr];rfl)
  change kj S (c_ S T) (Kq (rJ (T fn)).rs (os.map (·.1))) (rJ (T fn)).body [] (start az os)=some (cF r.1,jf.e r.2,M r)at h1;obtain⟨o,st',d,g1,g2,g3,g4,g5,g6⟩:=WB h1;refine⟨d,st'.m,?_,g5,g4,λw=>back_eq g6 (O r)⟩
  rw[qQ u];unfold mB;rw[if_pos (Nat.le_of_ble_eq_true J),g1]
  cases o with
  | exit id=>exact absurd rfl (g2 id)
  | norm=>simp only[g3,Option.map_some]
  | ret=>simp only[g3,Option.map_some]
section
variable {S:Sys} {c:ck} {β γ:Type} {Q:Out×St->Option β} {e:γ->Option β} {cf:Cf}
end
structure G9 (S:Sys) (c:ck) {α δ:Type} [bB δ] (fn:FuncId) (A:α->List V) (p:α->Option (Sl δ)):Prop where
 k:S.E.keep fn=true
 o:S.E.own fn=false
 q:(S.prm fn).isNone=true
 h:∀z s,p z=some s->∃e m',c fn ((A z).map .v) []=some ([.own e],m')/\bh m' e=some (cF s)
theorem G9.mk' {S:Sys} {T:pI} {α δ:Type} [bB δ] (rf:RF) {fn:FuncId} {A:α->List V} {p:α->Option (Sl δ)} (h:∀z,Le ((p z).bind λr=>some (cF r)) (ct S (c_ S T) (zK rf.rs) (.rc rf.body,[],start ((A z).map .v) [])))
 (B:T fn=some rf:=by kernel_rfl) (hk:S.E.keep fn=true:=by kernel_rfl) (D:S.E.own fn=false:=by kernel_rfl) (G:(S.prm fn).isNone=true:=by kernel_rfl) (J:∀z,(A z).length<=rf.na:=by intro z;exact Nat.le_of_ble_eq_true (by kernel_rfl)):G9 S (c_ S T) fn A p where
 k:=hk
 o:=D
 q:=G
 h z s u:=by
  have h1:=h z (cF s) (by rw[u];rfl)
  change kj S (c_ S T) (zK rf.rs) rf.body [] (start ((A z).map .v) [])=some (cF s)at h1;obtain⟨o,st',d,g1,g2,g3,g4⟩:=T0 h1;refine⟨d,st'.m,?_,g4⟩;rw[qQ B];unfold mB;rw[if_pos (by simpa using J z),g1]
  cases o with
  | exit id=>exact absurd rfl (g2 id)
  | norm=>simp only[g3,Option.map_some]
  | ret=>simp only[g3,Option.map_some]
theorem Gb:∀l:List V,SV.u7 (l.map .v)=[]
 | []=>rfl
 | a::l=>by simp only[List.map_cons,SV.u7,SV.Cq,Gb l,List.append_nil]
theorem JC {m:Tb bG} (l:List V):ua m (l.map .v)=some []:=by
 unfold ua;rw[Gb];rfl
section
variable {S:Sys} {c:ck} {β γ δ α:Type} [bB δ] {Q:Out×St->Option β} {e:γ->Option β} {cf:Cf}
theorem UT (n u:Nat) {fn:FuncId} {A:α->List V} {p:α->Option (Sl δ)} (F:G9 S c fn A p) (z:α) {f:Sl δ->Option γ}
 (h:∀x,p z=some x->Le ((f x).bind e) (ct S c Q (nx S c n cf λq=>{ q.st with g:=bM q.st.g u (.own u),m:=bM q.st.m u (cF x) })))
 (D:(gq S c n cf).map (λq=>(q.d,q.k,(bY S.N q.st.g q.az).bind ni,q.dr,q.st.new u))=some (some u,.c,some (fn,(A z).map .v),false,true):=by kernel_rfl):Le (((p z).bind f).bind e) (ct S c Q cf):=by
 obtain⟨q,G,hv⟩:=eY D;simp only[ζc]at hv;obtain⟨I,J,L,O,T⟩:=hv;obtain⟨B,g1,g2⟩:=ζg.1 L;refine uy G ?_ h;rw[I,J,O];intro y C;obtain⟨s,U,C⟩:=ζg.1 C;cases C;obtain⟨e0,m',hc,W⟩:=F.h z s U;have X:S.prm fn=none:=by
  have:=F.q
  cases Y:S.prm fn with
  | none=>rfl
  | some _=>rw[Y]at this;cases this
 rw[An _ _ _ _ _ _ B fn ((A z).map .v) g1 g2];have Z:St.new { q.st with m:=q.st.m } u=true:=T;have w:fP S c (some u) false (!false||q.now) (fe q.st.m q.fr) fn ((A z).map .v) q.st=some (.own u,{ q.st with m:=bM q.st.m u (cF s) }):=by
  unfold fP;simp only[F.k,F.o,X,JC,hc,dw,List.map_nil,lX,vP,W,cF,Z,List.contains_nil,Bool.not_false,Bool.true_or,Bool.false_and,Bool.and_self,if_true,Bool.false_eq_true,if_false];rfl
 rw[w];rfl
end
section
variable {S:Sys} {c:ck} {β γ δ:Type} {Q:Out×St->Option β} {e:γ->Option β} {cf:Cf}
end
structure Wl (S:Sys) (c:ck) {α δ:Type} (fn:FuncId) (A:α->List SV) (O:α->dZ) (E:δ->List V) (M:α->δ->dZ) (p:α->Option δ):Prop where
 k:S.E.keep fn=true
 o:S.E.own fn=false
 q:(S.prm fn).isNone=true
 h:∀z r,p z=some r->∃m',c fn (A z) (O z)=some ((E r).map .v,m')/\∀m0,lX m' ((O z).map (·.1)) m0=some (yd m0 (M z r))
abbrev QH.of {S:Sys} {c:ck} {α δ:Type} {fn:FuncId} {A:α->List SV} {O:α->dZ} {E:δ->List V} {M:α->δ->dZ} {p:α->Option δ} (z:α) (F:Wl S c fn A O E M p):QH S c (p z):=⟨fn,A z,O z,E,M z,F.k,F.o,F.q,F.h z⟩
section
variable {S:Sys} {c:ck} {α σ:Type} [bB α] {g:FuncId}
end
section
variable {S:Sys} {c:ck} {α σ β γ:Type} [bB α] {g:FuncId} {Q:Out×St->Option β} {e:γ->Option β} {cf:Cf}
end
section
variable {S:Sys} {c:ck} {β γ δ α:Type} [bB δ] {Q:Out×St->Option β} {e:γ->Option β} {cf:Cf}
theorem Vh (n:Nat) {fn:FuncId} {A:α->List V} {p:α->Option (Sl δ)} (F:yS S c fn A p) (z:α) {f:Sl δ->Option γ}
 (h:∀x,p z=some x->Le ((f x).bind e) (ct S c Q (nx S c n cf λq=>dg q.st q.d (.v (enc x)))))
 (J:(gq S c n cf).map (λq=>(q.k,(bY S.N q.st.g q.az).bind ni,(!q.dr||q.now),fe q.st.m q.fr []))=some (.c,some (fn,(A z).map .v),false,true):=by kernel_rfl):Le (((p z).bind f).bind e) (ct S c Q cf):=by
 obtain⟨q,I,hv⟩:=eY J;simp only[ζc]at hv;obtain⟨L,O,T,U⟩:=hv;obtain⟨B,g1,g2⟩:=ζg.1 O;have w:∀d (C:List V),SV.dz d (C.map .v)=false:=λd C=>by
  induction C with
  | nil=>rfl
  | cons a l W=>simp[SV.dz,SV.cR,W]
 have X:fe q.st.m q.fr ((A z).map .v)=true:=by
  rw[<-U];unfold fe;simp[w];rfl
 refine uy I ?_ h;rw[L];intro y D;obtain⟨s,Y,D⟩:=ζg.1 D;cases D;obtain⟨e0,m',hc,Z⟩:=F.h z s Y;rw[An q.dr _ _ _ _ _ B fn ((A z).map .v) g1 g2];have G:cV m' 8 [.own e0]=some [b8 s]:=by simp only[cV,NI,Z,OL]
 have u:fP S c q.d q.dr (!q.dr||q.now) (fe q.st.m q.fr) fn ((A z).map .v) q.st=some (.v (b8 s),q.st):=by
  unfold fP;simp only[F.k,F.o,if_true,T,Bool.false_eq_true,if_false,X,Bool.and_self,tR,hc,G,pn,Option.isSome_some,Bool.or_true,result]
 rw[u];rfl
end
noncomputable def yl (B:List (List V)) (more:Bool) (xs:List V):Option (Bool×List (List V)):=match B with
 | w::r=>open Classical in if w=xs then some (more || !r.isEmpty,r)else none
 | []=>none
section
variable {S:Sys} {c:ck} {β γ:Type} {Q:Out×St->Option β} {e:γ->Option β} {cf:Cf}
end
section
variable {S:Sys} {c:ck} {β γ α:Type} [bB α] {Q:Out×St->Option β} {e:γ->Option β} {cf:Cf}
end
theorem QC {n:Int} (h0:0<=n) (h:n<=4611686018427387904):IntKind.wrap .i64 n=n:=by
 simp[IntKind.wrap,IntKind.bits,IntKind.signed];omega
namespace catX
instance {n:Nat}:OfNat Arg n:=⟨.s n⟩
def ln:K:=.p .lenSl
def ix:K:=.p (.idxS 1)
def bI (o:BinOp):K:=.p (.bin (some .int) none o)
def ld:K:=.r (.load 1 false)
def g1:List RO:=[o1 4 (.k (.bK)) []]
def g2:List RO:=[o1 5 1 [],o2 6 (bI .lss) [5,.k (.int .i64 0)] []]
def g3:List RO:=[o2 7 (.p (.bad)) [] [],⟨none,none,false,.p .bad,[],[],[]⟩]
def g4:List RO:=[o1 8 1 [],o1 9 0 [],o2 10 (.p (.capSl)) [9] [],o1 11 0 [],o2 12 ln [11] [],o2 13 (bI .sub) [10,12] [],o2 14 (bI .sub) [8,13] [],o1 1 14 []]
def g5:List RO:=[o1 15 1 [],o2 16 (bI .gtr) [15,.k (.int .i64 0)] []]
def g6:List RO:=[o1 17 0 [],o1 18 0 [],o2 19 (.p (.capSl)) [18] [],o2 20 (.p (.slice 1 false true)) [17,19] [],o1 21 1 [],o2 22 (.l (.appMk 1 24 [.bK])) [20,21] [],o1 23 0 [],o2 24 ln [23] [],o2 25 (.p (.slice 1 false true)) [22,24] [],o1 0 25 []]
def g7:List RO:=[o1 26 0 [],o1 4 26 []]
def grow:RC:=.seq (.ops g1) (.seq (.seq (.ops g2) (.cond (.s 6) (.ops g3) (.skip))) (.seq (.seq (.ops g4) (.seq (.ops g5) (.cond (.s 16) (.ops g6) (.skip)))) (.seq (.ops g7) (.ret))))
section
variable {E:Env} {N:Nat->FuncId} {t:Nat}
theorem Rz (ht:t<=2147483648):∃F',Ex E N grow [.bK,.int .i64 t] [] .ret F' (if t=0 then []else [.row 1 (List.replicate t [.bK])])/\get F' 4=if t=0 then .bK else .hsl 0 1 0 0:=by
 have e1:∀call,cE E N call none g1 [.bK,.int .i64 t] []=some (set [.bK,.int .i64 t] 4 .bK,[]):=λcall=>vp (v:=.bK) rfl (by simp[bE,bz,bn]) dY
 have k0:get (set [V.bK,.int .i64 t] 4 .bK) 0=.bK:=rfl;have k1:get (set [V.bK,.int .i64 t] 4 .bK) 1=.int .i64 t:=rfl;generalize set [V.bK,.int .i64 t] 4 .bK=J at *;have T:IntKind.wrap .i64 ((t:Int)-0)=t:=by rw[Int.sub_zero];exact QC Za Za
 have D:IntKind.wrap .i64 ((0:Int)-0)=0:=by decide
 have e2:∃F1,(∀call,cE E N call none g2 J []=some (F1,[]))/\get F1 6=.bool false/\get F1 0=.bK/\get F1 1=.int .i64 t:=by
  refine⟨_,λcall=>vp (v:=.int .i64 t) rfl ?_ <| vp (v:=.bool false) rfl ?_ dY,?_,?_,?_⟩
  .simp[bE,bz,bn,k1]
  .simp[bE,bz,bn,bu,bI,gN,nJ]
  all_goals simp[bu,k0,k1]
 obtain⟨F1,a1,U,G,W⟩:=e2;have e4:∃w,(∀call,cE E N call none g4 F1 []=some (w,[]))/\get w 0=.bK/\get w 1=.int .i64 t:=by
  refine⟨_,λcall=>vp (v:=.int .i64 t) rfl ?_ <| vp (v:=.bK) rfl ?_ <| vp (v:=.int .i64 0) rfl ?_ <| vp (v:=.bK) rfl ?_ <| vp (v:=.int .i64 0) rfl ?_ <| vp (v:=.int .i64 0) rfl ?_ <| vp (v:=.int .i64 t) rfl ?_ <| vp (v:=.int .i64 t) rfl ?_ dY,?_,?_⟩
  .simp[bE,bz,bn,W]
  .simp[bE,bz,bn,bu,G]
  .simp[bE,bz,bn,bu,GC]
  .simp[bE,bz,bn,bu,G]
  .simp[bE,bz,bn,bu,ln,nG]
  .simp only[bE,List.map_cons,List.map_nil,bz,bu,bA,Nat.reduceEqDiff,if_true,if_false,bn,bI,gN,D];rfl
  .simp only[bE,List.map_cons,List.map_nil,bz,bu,bA,Nat.reduceEqDiff,if_true,if_false,bn,bI,gN,T];rfl
  .simp[bE,bz,bn,bu]
  all_goals simp[bu,G]
 obtain⟨w,L,X,O⟩:=e4;have e5:∃u,(∀call,cE E N call none g5 w []=some (u,[]))/\get u 16=.bool (decide (t>0))/\get u 0=.bK/\get u 1=.int .i64 t:=by
  refine⟨_,λcall=>vp (v:=.int .i64 t) rfl ?_ <| vp (v:=.bool (decide (t>0))) rfl ?_ dY,?_,?_,?_⟩
  .simp[bE,bz,bn,O]
  .simp[bE,bz,bn,bu,bI,gN,nJ]
  all_goals simp[bu,X,O]
 obtain⟨u,Q,S,B,Y⟩:=e5;have hc:Ex E N (.seq (.ops g2) (.cond (.s 6) (.ops g3) (.skip))) J [] .norm F1 []:=Ex.seq (Ex.cZ a1) (Ex.oK U Ex.skip);have e7:∀(F:Frame) (H:bl),∃F',(∀call,cE E N call none g7 F H=some (F',H))/\get F' 4=get F 0:=λF H=>
  ⟨_,λcall=>vp (v:=get F 0) rfl (by simp[bE,bz,bn]) <| vp (v:=get F 0) rfl (by simp[bE,bz,bn,bu]) dY,by simp[bu]⟩
 by_cases h0:t=0
 .subst h0;obtain⟨I,d1,d2⟩:=e7 u [];refine⟨I,?_,by rw[d2,B];rfl⟩
  exact Ex.seq (Ex.cZ e1) (Ex.seq hc (Ex.seq (Ex.seq (Ex.cZ L) (Ex.seq (Ex.cZ Q) (Ex.oK S Ex.skip))) (Ex.seq (Ex.cZ d1) Ex.ret)))
 have z:0<t:=by omega
 have e6:∃C,(∀call,cE E N call none g6 u []=some (C,[.row 1 (List.replicate t [.bK])]))/\get C 0=.hsl 0 1 0 0:=by
  refine⟨_,λcall=>vp (v:=.bK) rfl ?_ <| vp (v:=.bK) rfl ?_ <| vp (v:=.int .i64 0) rfl ?_ <| vp (v:=.bK) rfl ?_ <| vp (v:=.int .i64 t) rfl ?_ <| jA (v:=.hsl 0 1 0 t) (H1:=[.row 1 (List.replicate t [.bK])]) rfl ?_ <| vp (v:=.bK) rfl ?_ <| vp (v:=.int .i64 0) rfl ?_ <| vp (v:=.hsl 0 1 0 0) rfl ?_ <| vp (v:=.hsl 0 1 0 0) rfl ?_ dY,?_⟩
  .simp[bE,bz,bn,B]
  .simp[bE,bz,bn,bu,B]
  .simp[bE,bz,bn,bu,GC]
  .simp[bE,bz,bn,bu,lB,gO,dU]
  .simp[bE,bz,bn,bu,Y]
  .simp only[bE,List.map_cons,List.map_nil,bz,bu,bA,Nat.reduceEqDiff,if_true,if_false,eZ,mkApp];rw[if_neg Za,if_pos ⟨by omega,by omega,by omega,by omega⟩];simp
  .simp[bE,bz,bn,bu,B]
  .simp[bE,bz,bn,bu,ln,nG]
  .simp[bE,bz,bn,bu,lB,gO,dU]
  .simp[bE,bz,bn,bu]
  simp[bu]
 obtain⟨C,Z,q2⟩:=e6;obtain⟨I,d1,d2⟩:=e7 C [.row 1 (List.replicate t [.bK])];rw[if_neg h0,if_neg h0];refine⟨I,?_,by rw[d2,q2]⟩
 exact Ex.seq (Ex.cZ e1) (Ex.seq hc (Ex.seq (Ex.seq (Ex.cZ L) (Ex.seq (Ex.cZ Q) (Ex.mL (by show get u 16=_;rw[S,decide_eq_true z]) (Ex.cZ Z)))) (Ex.seq (Ex.cZ d1) Ex.ret)))
end
end catX
def zS {α:Type} (s:Sl (Sl α)):Sl α:=if(s.l.flatMap Sl.l).length=0 then .nil else .row (s.l.flatMap Sl.l)
namespace catX
def r1:List RO:=[o1 2 (.k (.bK)) []]
def r2:List RO:=[o1 3 (.k (.int .i64 0)) []]
def r3:List RO:=[o1 9 0 [],o2 10 ln [9] [],o1 11 (.k (.int .i64 0)) []]
def r4:List RO:=[o2 12 (bI .lss) [11,10] []]
def r5:List RO:=[o2 13 ix [9,11] [],o2 14 ld [13] [],o1 5 14 []]
def r6:List RO:=[o1 15 3 [],o1 16 5 [],o2 17 ln [16] [],o2 18 (bI .add) [15,17] [],o1 3 18 []]
def r7:List RO:=[o1 19 3 [],o2 20 (bI .lss) [19,.k (.int .i64 0)] []]
def r8:List RO:=[o2 21 (.p (.bad)) [] [],⟨none,none,false,.p .bad,[],[],[]⟩]
def r9:List RO:=[o2 22 (bI .add) [11,.k (.int .i64 1)] [],o1 11 22 []]
def L9:RC:=.seq (.ops r4) (.seq (.cond (.s 12) (.skip) (.exit 0)) (.seq (.block 1 (.seq (.ops r5) (.seq (.ops r6) (.seq (.ops r7) (.cond (.s 20) (.ops r8) (.skip)))))) (.ops r9)))
def CM (gid:Nat):List RO:=[o1 23 3 [],o2 24 .c [.f gid,.k (.bK),23] [],o1 6 24 []]
def ES:List RO:=[o1 25 0 [],o2 26 ln [25] [],o1 27 (.k (.int .i64 0)) []]
def EV:List RO:=[o2 28 (bI .lss) [27,26] []]
def DQ:List RO:=[o2 29 ix [25,27] [],o2 30 ld [29] [],o1 8 30 []]
def Cr:List RO:=[o1 31 6 [],o1 32 8 [],o2 33 (.l (.append 1)) [31,32] [],o1 6 33 []]
def EP:List RO:=[o2 34 (bI .add) [27,.k (.int .i64 1)] [],o1 27 34 []]
def V4:RC:=.seq (.ops EV) (.seq (.cond (.s 28) (.skip) (.exit 2)) (.seq (.block 3 (.seq (.ops DQ) (.ops Cr))) (.ops EP)))
def D6:List RO:=[o1 35 6 [],o1 2 35 []]
def cat (gid:Nat):RC:=.seq (.ops r1) (.seq (.ops r2) (.seq (.seq (.ops r3) (.block 0 (.loop L9))) (.seq (.ops (CM gid)) (.seq (.seq (.ops ES) (.block 2 (.loop V4))) (.seq (.ops D6) (.ret))))))
section
variable {E:Env} {N:Nat->FuncId} {F:Frame} {H:bl} {α:Type} [bB α] {s:Sl (Sl α)} {i:Nat}
theorem el {u:Sl α} (h:s.l[i]? = some u):lu 1 (b8 s) (i:Int)=some (.fptr [b8 u]):=by
 have:=DJ (N:=λn=>n) s .i64 (i:Int) 1 rfl
 simp only[bn]at this;rw[this,show idx s (i:Int)=some u from by unfold idx;rw[if_pos Za];exact h];rfl
theorem VJ (s:Sl α):nG (b8 s)=some (.int .i64 s.l.length):=by
 have:=xV (N:=λn=>n) s;simpa only[bn]using this
theorem y3:(get F 0=b8 s->∃F',(∀call,cE E N call none r3 F H=some (F',H))/\get F' 9=b8 s/\get F' 10=.int .i64 s.l.length/\get F' 11=.int .i64 0/\∀j,j<9->get F' j=get F j) /\
 (get F 0=b8 s->∃F',(∀call,cE E N call none ES F H=some (F',H))/\get F' 25=b8 s/\get F' 26=.int .i64 s.l.length/\get F' 27=.int .i64 0/\∀j,j<9->get F' j=get F j):=by
 have h:=VJ s;refine⟨λf0=>⟨_,λcall=>vp (v:=b8 s) rfl ?_ <| vp (v:=.int .i64 s.l.length) rfl ?_ <| vp (v:=.int .i64 0) rfl ?_ dY,?_,?_,?_,?_⟩,λf0=>⟨_,λcall=>vp (v:=b8 s) rfl ?_ <| vp (v:=.int .i64 s.l.length) rfl ?_ <| vp (v:=.int .i64 0) rfl ?_ dY,?_,?_,?_,?_⟩⟩ <;>
 first
 | (simp[bE,bz,bn,f0];done)
 | (simp only[bE,List.map_cons,List.map_nil,bz,bu,bA,Nat.reduceEqDiff,if_true,if_false,bn,ln,h];rfl)
 | (simp[bE,bz,bn,bu];done)
 | (simp[bu];done)
 | (intro j u;simp only[bu,bA];repeat (rw[if_neg Za]))
theorem y4 {n:Nat}:(get F 11=.int .i64 i->get F 10=.int .i64 n->∃F',(∀call,cE E N call none r4 F H=some (F',H))/\get F' 12=.bool (decide (i<n))/\∀j,j<12->get F' j=get F j) /\
 (get F 27=.int .i64 i->get F 26=.int .i64 n->∃F',(∀call,cE E N call none EV F H=some (F',H))/\get F' 28=.bool (decide (i<n))/\∀j,j<28->get F' j=get F j):=by
 refine⟨λf u=>⟨_,λcall=>vp (v:=.bool (decide (i<n))) rfl ?_ dY,?_,?_⟩,λf u=>⟨_,λcall=>vp (v:=.bool (decide (i<n))) rfl ?_ dY,?_,?_⟩⟩ <;>
 first
 | (simp[bE,bz,bn,bu,bI,gN,nJ,f,u];done)
 | (simp[bu];done)
 | (intro j w;simp only[bu,bA];repeat (rw[if_neg Za]))
theorem y5 {u:Sl α} (h:s.l[i]? = some u):(get F 9=b8 s->get F 11=.int .i64 i->∃F',(∀call,cE E N call none r5 F H=some (F',H))/\get F' 5=b8 u/\∀j,j<12->j≠5->get F' j=get F j) /\
 (get F 25=b8 s->get F 27=.int .i64 i->∃F',(∀call,cE E N call none DQ F H=some (F',H))/\get F' 8=b8 u/\∀j,j<28->j≠8->get F' j=get F j):=by
 have e:=el h;have e2:eR H (.load 1 false) [.fptr [b8 u]]=some (b8 u):=by simp[eR,ey,cut,mk]
 refine⟨λf w=>⟨_,λcall=>vp (v:=.fptr [b8 u]) rfl ?_ <| vp (v:=b8 u) rfl ?_ <| vp (v:=b8 u) rfl ?_ dY,?_,?_⟩,λf w=>⟨_,λcall=>vp (v:=.fptr [b8 u]) rfl ?_ <| vp (v:=b8 u) rfl ?_ <| vp (v:=b8 u) rfl ?_ dY,?_,?_⟩⟩ <;>
 first
 | (simp only[bE,List.map_cons,List.map_nil,bz,bu,bA,Nat.reduceEqDiff,if_true,if_false,bn,ix,f,w,e,Option.map_some];done)
 | (simp only[bE,List.map_cons,List.map_nil,bz,bu,bA,Nat.reduceEqDiff,if_true,if_false,ld];rw[e2];rfl)
 | (simp[bE,bz,bn,bu];done)
 | (simp[bu];done)
 | (intro j B z;simp only[bu,bA];rw[if_neg (Ne.symm z)];repeat (rw[if_neg Za]))
theorem y6 {u:Sl α} {t:Nat} (f3:get F 3=.int .i64 t) (f5:get F 5=b8 u) (B:t+u.l.length<=2147483648):∃F',(∀call,cE E N call none r6 F H=some (F',H))/\get F' 3=.int .i64 ((t+u.l.length:Nat):Int)/\∀j,j<12->j≠3->get F' j=get F j:=by
 have h:=VJ u;have w:IntKind.wrap .i64 ((t:Int)+(u.l.length:Int))=((t+u.l.length:Nat):Int):=by rw[QC Za Za];simp
 refine⟨_,λcall=>vp (v:=.int .i64 t) rfl ?_ <| vp (v:=b8 u) rfl ?_ <| vp (v:=.int .i64 u.l.length) rfl ?_ <| vp (v:=.int .i64 ((t+u.l.length:Nat):Int)) rfl ?_ <| vp (v:=.int .i64 ((t+u.l.length:Nat):Int)) rfl ?_ dY,?_,?_⟩
 .simp[bE,bz,bn,f3]
 .simp[bE,bz,bn,bu,f5]
 .simp only[bE,List.map_cons,List.map_nil,bz,bu,bA,Nat.reduceEqDiff,if_true,if_false,bn,ln,h];rfl
 .simp only[bE,List.map_cons,List.map_nil,bz,bu,bA,Nat.reduceEqDiff,if_true,if_false,bn,bI,gN,w];rfl
 .simp[bE,bz,bn,bu]
 .simp[bu]
 intro j C z;simp only[bu,bA];rw[if_neg (Ne.symm z)]
 repeat (rw[if_neg Za])
theorem y7 {t:Nat} (f3:get F 3=.int .i64 t):∃F',(∀call,cE E N call none r7 F H=some (F',H))/\get F' 20=.bool false/\∀j,j<12->get F' j=get F j:=by
 refine⟨_,λcall=>vp (v:=.int .i64 t) rfl ?_ <| vp (v:=.bool false) rfl ?_ dY,?_,?_⟩
 .simp[bE,bz,bn,f3]
 .simp[bE,bz,bn,bu,bI,gN,nJ]
 .simp[bu]
 intro j u;simp only[bu,bA]
 repeat (rw[if_neg Za])
theorem y9 (B:i<=2147483648):(get F 11=.int .i64 i->∃F',(∀call,cE E N call none r9 F H=some (F',H))/\get F' 11=.int .i64 ((i+1:Nat):Int)/\∀j,j<11->get F' j=get F j) /\
 (get F 27=.int .i64 i->∃F',(∀call,cE E N call none EP F H=some (F',H))/\get F' 27=.int .i64 ((i+1:Nat):Int)/\∀j,j<27->get F' j=get F j):=by
 have u:=wM B;refine⟨λf=>⟨_,λcall=>vp (v:=.int .i64 ((i+1:Nat):Int)) rfl ?_ <| vp (v:=.int .i64 ((i+1:Nat):Int)) rfl ?_ dY,?_,?_⟩,λf=>⟨_,λcall=>vp (v:=.int .i64 ((i+1:Nat):Int)) rfl ?_ <| vp (v:=.int .i64 ((i+1:Nat):Int)) rfl ?_ dY,?_,?_⟩⟩ <;>
 first
 | (simp only[bE,List.map_cons,List.map_nil,bz,bu,bA,Nat.reduceEqDiff,if_true,if_false,bn,bI,gN,f,u];rfl)
 | (simp[bE,bz,bn,bu];done)
 | (simp[bu];done)
 | (intro j w;simp only[bu,bA];repeat (rw[if_neg Za]))
structure Acc (H:bl) (w:V) (acc:List (List V)):Prop where
 el:dG H 1 w=some acc
 gr:∃H1,gH H w=some H1/\H1.length=H.length
 sh:w=.bK/\acc=[]\/∃id xs,w=.hsl id 1 0 acc.length/\H[id]? = some (.row 1 xs)/\(acc≠[]->xs=acc)
theorem RT (H:bl) (u:Sl α) (h1:bB.size α=1):dG H 1 (b8 u)=some (rows u.l):=by
 cases u <;> simp[b8,Sl.k,Sl.l,nO,dG,rows,h1]
theorem WE {w:V} {acc:List (List V)} {u:Sl α} (h1:bB.size α=1) (a:Acc H w acc) (f6:get F 6=w) (G:get F 8=b8 u) (J:acc.length+u.l.length<=2147483648) :
 ∃F' H' w',(∀call,cE E N call none Cr F H=some (F',H'))/\get F' 6=w'/\Acc H' w' (acc++rows u.l)/\(u.l=[]->w'=w)/\∀j,j<28->j≠6->get F' j=get F j:=by
 have hu:=RT H u h1;have C:(rows u.l).length=u.l.length:=by simp[rows]
 have key:∃H' w',eZ H (.append 1) [w,b8 u]=some (w',H')/\Acc H' w' (acc++rows u.l)/\(u.l=[]->w'=w):=by
  obtain⟨H1,g1,g2⟩:=a.gr
  cases hr:rows u.l with
  | nil=>exact⟨H,w,by simp only[eZ,a.el,hu,hr],by simpa using a,λ_=>rfl⟩
  | cons y B=>
   have D:acc.length+(y::B).length<=2147483648:=by rw[<-hr,C];exact J
   refine⟨H1++[.row 1 (acc++y::B)],.hsl H.length 1 0 (acc.length+(y::B).length),by simp only[eZ,a.el,hu,hr];rw[if_pos D,g1];rfl,?_⟩
   have z:(H1++[Ob.row 1 (acc++y::B)])[H.length]? = some (.row 1 (acc++y::B)):=by rw[<-g2];simp
   refine⟨⟨?_,⟨_,by simp only[gH,z];rfl,by simp⟩,.inr ⟨H.length,acc++y::B,by simp,z,λ_=>rfl⟩⟩,λe=>by rw[e]at hr;cases hr⟩
   simp only[dG,z,ζb,Ob.rows,if_true,Nat.zero_add,List.drop_zero];rw[if_pos Zc,List.take_of_length_le Zc]
 obtain⟨H',w',k1,k2,k3⟩:=key;refine⟨_,H',w',λcall=>vp (v:=w) rfl ?_ <| vp (v:=b8 u) rfl ?_ <| jA (v:=w') (H1:=H') rfl ?_ <| vp (v:=w') rfl ?_ dY,?_,k2,k3,?_⟩
 .simp[bE,bz,bn,f6]
 .simp[bE,bz,bn,bu,G]
 .simp only[bE,List.map_cons,List.map_nil,bz,bu,bA,Nat.reduceEqDiff,if_true,if_false];exact k1
 .simp[bE,bz,bn,bu]
 .simp[bu]
 intro j L I;simp only[bu,bA];rw[if_neg (Ne.symm I)]
 repeat (rw[if_neg Za])
def upto (s:Sl (Sl α)) (i:Nat):List α:=(s.l.take i).flatMap Sl.l
theorem Em {u:Sl α} (h:s.l[i]? = some u):upto s (i+1)=upto s i++u.l:=by
 unfold upto;obtain⟨w,rfl⟩:=ζe.1 h;rw[List.take_succ_eq_append_getElem w,List.flatMap_append];simp
theorem Jc (s:Sl (Sl α)) (i:Nat):(upto s i).length<=(s.l.flatMap Sl.l).length:=by
 have:s.l.flatMap Sl.l=upto s i++(s.l.drop i).flatMap Sl.l:=by
  unfold upto;rw[<-List.flatMap_append,List.take_append_drop]
 rw[this];simp
theorem WK (hn:s.l.length<=2147483648) (ht:(s.l.flatMap Sl.l).length<=2147483648):∀(d i:Nat) (F:Frame),i+d=s.l.length->get F 9=b8 s->get F 10=.int .i64 s.l.length->get F 11=.int .i64 i->get F 3=.int .i64 (upto s i).length ->
 ∃F',lI E N L9 F H (.exit 0) F' H/\get F' 3=.int .i64 (s.l.flatMap Sl.l).length/\get F' 0=get F 0:=by
 intro d
 induction d with
 | zero=>
  intro i F Q C f10 w f3;obtain⟨F1,a1,D,z⟩:=(y4 (E:=E) (N:=N) (H:=H) (n:=s.l.length)).1 w f10;refine⟨F1,lI.stop (Ex.seq (Ex.cZ a1) (Ex.tf (Ex.oK (by show get F1 12=_;rw[D,decide_eq_false Za]) Ex.exit) Zc)) Zc,?_,z 0 Za⟩
  rw[z 3 Za,f3]
  have:upto s i=s.l.flatMap Sl.l:=by unfold upto;rw[List.take_of_length_le Za]
  rw[this]
 | succ d S=>
  intro i F Q C f10 w f3;obtain⟨F1,a1,D,z⟩:=(y4 (E:=E) (N:=N) (H:=H) (n:=s.l.length)).1 w f10;have hu:s.l[i]? = some s.l[i]:=ζd Za
  obtain⟨T,U,W,I⟩:=(y5 (E:=E) (N:=N) (F:=F1) (H:=H) hu).1 (by rw[z 9 Za];exact C) (by rw[z 11 Za];exact w)
  have G:=Jc s (i+1);have J:=Em hu;rw[J,ζi]at G;obtain⟨X,Y,L,Z⟩:=y6 (E:=E) (N:=N) (F:=T) (H:=H) (u:=s.l[i]) (t:=(upto s i).length) (by rw[I 3 Za Za,z 3 Za];exact f3) W Za
  obtain⟨O,d1,d2,d3⟩:=y7 (E:=E) (N:=N) (F:=X) (H:=H) L;have B:∀j,j<12->j≠3->j≠5->get O j=get F j:=λj h1 h2 h3=>by rw[d3 j h1,Z j h1 h2,I j h1 h3,z j h1]
  obtain⟨F5,e1,e2,e3⟩:=(y9 (E:=E) (N:=N) (F:=O) (H:=H) (i:=i) Za).1 (by rw[B 11 Za Za Za];exact w)
  obtain⟨F',g1,g2,g3⟩:=S (i+1) F5 Za (by rw[e3 9 Za,B 9 Za Za Za];exact C) (by rw[e3 10 Za,B 10 Za Za Za];exact f10) e2 (by rw[e3 3 Za,d3 3 Za,L,J,ζi])
  exact⟨F',lI.step (Ex.seq (Ex.cZ a1) (Ex.seq (Ex.mL (by show get F1 12=_;rw[D,decide_eq_true Za]) Ex.skip) (Ex.seq (Ex.block (Ex.seq (Ex.cZ U) (Ex.seq (Ex.cZ Y) (Ex.seq (Ex.cZ d1) (Ex.oK d2 Ex.skip))))) (Ex.cZ e1)))) g1,g2,by rw[g3,e3 0 Za,B 0 Za Za Za]⟩
theorem WH (h1:bB.size α=1) (hn:s.l.length<=2147483648) (ht:(s.l.flatMap Sl.l).length<=2147483648):∀(d i:Nat) (F:Frame) (H:bl) (w:V),i+d=s.l.length->get F 25=b8 s->get F 26=.int .i64 s.l.length->get F 27=.int .i64 i->get F 6=w->Acc H w (rows (upto s i)) ->
 ∃F' H' w',lI E N V4 F H (.exit 2) F' H'/\get F' 6=w'/\Acc H' w' (rows (s.l.flatMap Sl.l))/\((s.l.flatMap Sl.l).length=0->w'=w):=by
 intro d
 induction d with
 | zero=>
  intro i F H w T C B z f6 a;obtain⟨F1,a1,G,D⟩:=(y4 (E:=E) (N:=N) (H:=H) (n:=s.l.length)).2 z B;have:upto s i=s.l.flatMap Sl.l:=by unfold upto;rw[List.take_of_length_le Za]
  rw[this]at a;exact⟨F1,H,w,lI.stop (Ex.seq (Ex.cZ a1) (Ex.tf (Ex.oK (by show get F1 28=_;rw[G,decide_eq_false Za]) Ex.exit) Zc)) Zc,by rw[D 6 Za];exact f6,a,λ_=>rfl⟩
 | succ d U=>
  intro i F H w T C B z f6 a;obtain⟨F1,a1,G,D⟩:=(y4 (E:=E) (N:=N) (H:=H) (n:=s.l.length)).2 z B;have hu:s.l[i]? = some s.l[i]:=ζd Za
  obtain⟨W,X,Y,L⟩:=(y5 (E:=E) (N:=N) (F:=F1) (H:=H) hu).2 (by rw[D 25 Za];exact C) (by rw[D 27 Za];exact z)
  have I:=Jc s (i+1);have O:=Em hu;rw[O,ζi]at I;obtain⟨Q,H',w',Z,c2,S,c5,c4⟩:=WE (E:=E) (N:=N) (F:=W) (H:=H) (u:=s.l[i]) h1 a (by rw[L 6 Za Za,D 6 Za];exact f6) Y (by simp only[gn];omega)
  have J:∀j,j<28->j≠6->j≠8->get Q j=get F j:=λj h1 h2 h3=>by rw[c4 j h1 h2,L j h1 h3,D j h1]
  obtain⟨F5,e1,e2,e3⟩:=(y9 (E:=E) (N:=N) (F:=Q) (H:=H') (i:=i) Za).2 (by rw[J 27 Za Za Za];exact z)
  have hr:rows (upto s i)++rows s.l[i].l=rows (upto s (i+1)):=by rw[O];simp[rows]
  rw[hr]at S;obtain⟨F',H2,w2,g1,g2,g3,g4⟩:=U (i+1) F5 H' w' Za (by rw[e3 25 Za,J 25 Za Za Za];exact C) (by rw[e3 26 Za,J 26 Za Za Za];exact B) e2 (by rw[e3 6 Za];exact c2) S
  exact⟨F',H2,w2,lI.step (Ex.seq (Ex.cZ a1) (Ex.seq (Ex.mL (by show get F1 28=_;rw[G,decide_eq_true Za]) Ex.skip) (Ex.seq (Ex.block (Ex.seq (Ex.cZ X) (Ex.cZ Z))) (Ex.cZ e1)))) g1,g2,g3,λe=>(g4 e).trans (c5 (List.eq_nil_of_length_eq_zero Za))⟩
end
end catX
theorem QM {E:Env} {f O:FuncId} {nm:FuncId->Option Nat} {N:Nat->FuncId} {gid:Nat} (hN:∀f s,nm f=some s->N s=f) (hg:N gid=O) (aa:E.keep O=true) (U:E.own O=true)
 (hf:∃fi,E.ft f=some fi/\bQ ⟨E,nm,fi.ntmps⟩ false fi.body=some (catX.cat gid)/\2<=fi.ntmps/\fi.results=[.tmp 2])
 (ab:∃fi,E.ft O=some fi/\bQ ⟨E,nm,fi.ntmps⟩ false fi.body=some catX.grow/\2<=fi.ntmps/\fi.results=[.tmp 4])
 {α:Type} [bB α] (h1:bB.size α=1) (s:Sl (Sl α)) (hn:s.l.length<=2147483648) (ht:(s.l.flatMap Sl.l).length<=2147483648):wK E f [b8 s] (b8 (zS s)):=by
 obtain⟨fi,p1,p2,p3,p4⟩:=hf;obtain⟨gi,q1,q2,q3,q4⟩:=ab;generalize hT:(s.l.flatMap Sl.l).length=T at *;obtain⟨Fg,ad,ae⟩:=catX.Rz (E:=E) (N:=N) ht;obtain⟨n0,L⟩:=Ex.run hN q1 q2 (args:=[.bK,.int .i64 T]) (by simpa using q3) ad (vs:=[if T=0 then .bK else .hsl 0 1 0 0]) (by rw[q4];simp[iq,ae])
 have Q:∀l,borrows l [] [.bK,.int .i64 (T:Int)]=some [.bK,.int .i64 (T:Int)]:=λl=>by
  unfold borrows;simp only[hG,jW l [] (x:=V.bK) rfl,jW l [] (x:=V.int .i64 T) rfl]
 have C:∃w D,(∀k,n0<=k->eT E (run E k) O [.bK,.int .i64 T] []=some (w,D))/\catX.Acc D w []/\(T=0->w=.bK):=by
  by_cases h0:T=0
  .refine⟨.bK,[],λk hk=>?_,⟨rfl,⟨[],rfl,rfl⟩,.inl ⟨rfl,rfl⟩⟩,λ_=>rfl⟩
   have:=(nr E hk).go _ _ _ _ L;rw[if_pos h0,if_pos h0]at this;unfold eT j9;rw[if_pos U];simp[Q,this,result,V.scalar]
  refine⟨.hsl 0 1 0 0,[.row 1 (List.replicate T [.bK])],λk hk=>?_,⟨by simp[dG,Ob.rows],⟨_,rfl,by simp⟩,.inr ⟨0,_,rfl,rfl,λh=>absurd rfl h⟩⟩,λh=>absurd h h0⟩
  have:=(nr E hk).go _ _ _ _ L;rw[if_neg h0,if_neg h0]at this;unfold eT j9;rw[if_pos U];simp only[Q,if_true,this,result,V.scalar,Bool.false_eq_true,if_false,qt,List.getElem?_cons_zero,true_and];rw[if_pos (by simp[List.all_replicate,V.scalar])]
  simp
 obtain⟨w,D,af,ah,S⟩:=C;have W:T≠0->rows (s.l.flatMap Sl.l)≠[]:=λh e=>h (by rw[<-hT,<-gn,e];rfl)
 have z:∀c∈rows (s.l.flatMap Sl.l),V.cA c=true:=λc hc=>by
  obtain⟨x,_,rfl⟩:=List.mem_map.1 hc;exact bB.good x
 have g1:∀call,cE E N call none catX.r1 [b8 s] []=some (set [b8 s] 2 .bK,[]):=λcall=>vp (v:=.bK) rfl (by simp[bE,bz,bn]) dY
 have k0:get (set [b8 s] 2 .bK) 0=b8 s:=rfl;generalize set [b8 s] 2 .bK=F0 at *;have g2:∀call,cE E N call none catX.r2 F0 []=some (set F0 3 (.int .i64 0),[]):=λcall=>vp (v:=.int .i64 0) rfl (by simp[bE,bz,bn]) dY
 obtain⟨F2,a1,a2,a3,a4,a5⟩:=(catX.y3 (E:=E) (N:=N) (F:=set F0 3 (.int .i64 0)) (H:=[]) (s:=s)).1 (by rw[gU _ _ Za];exact k0)
 obtain⟨F3,b1,b2,b3⟩:=catX.WK (E:=E) (N:=N) (H:=[]) hn Za s.l.length 0 F2 Za a2 a3 a4 (by rw[a5 3 Za,rX];rfl)
 rw[hT]at b2;have ai:get F3 0=b8 s:=by rw[b3,a5 0 Za,gU _ _ Za];exact k0
 have c1:∃X,(∃n,∀k,n<=k->cE E N (run E k) none (catX.CM gid) F3 []=some (X,D))/\get X 6=w/\get X 0=b8 s:=by
  refine⟨_,⟨n0,λk hk=>vp (v:=.int .i64 T) rfl ?_ <| jA (v:=w) (H1:=D) rfl ?_ <| vp (v:=w) rfl ?_ dY⟩,?_,?_⟩
  .simp[bE,bz,bn,b2]
  .simp only[bE,List.map_cons,List.map_nil,bz,bu,bA,Nat.reduceEqDiff,if_true,if_false,hg,aa,List.nil_append,List.append_nil];exact af k hk
  .simp[bE,bz,bn,bu]
  .simp[bu]
  simp only[bu,bA,Nat.reduceEqDiff,if_false];exact ai
 obtain⟨X,c1,c2,c3⟩:=c1;obtain⟨F5,d1,d2,d3,d4,d5⟩:=(catX.y3 (E:=E) (N:=N) (F:=X) (H:=D) (s:=s)).2 c3;obtain⟨F6,Y,J,e1,e2,e3,e4⟩:=catX.WH (E:=E) (N:=N) h1 hn Za s.l.length 0 F5 D w Za d2 d3 d4 (by rw[d5 6 Za];exact c2) ah
 have f1:∃F7,(∀call,cE E N call none catX.D6 F6 Y=some (F7,Y))/\get F7 2=J:=
  ⟨_,λcall=>vp (v:=J) rfl (by simp[bE,bz,bn,e2]) <| vp (v:=J) rfl (by simp[bE,bz,bn,bu]) dY,by simp[bu]⟩
 obtain⟨F7,f1,f2⟩:=f1;obtain⟨n,aj⟩:=Ex.run hN p1 p2 (args:=[b8 s]) (by simp;omega) (Ex.seq (Ex.cZ g1) (Ex.seq (Ex.cZ g2) (Ex.seq (Ex.seq (Ex.cZ a1) (Ex.tQ (Ex.loop b1))) (Ex.seq (Ex.ops c1) (Ex.seq (Ex.seq (Ex.cZ d1) (Ex.tQ (Ex.loop e1))) (Ex.seq (Ex.cZ f1) Ex.ret)))))) (vs:=[J]) (by rw[p4];simp[iq,f2])
 refine⟨n,J,Y,λid=>∃m,J=.hsl id 1 0 m,aj,?_,?_,?_⟩
 .rcases e3.sh with⟨h,G⟩|⟨id,xs,h,G,h3⟩
  .have:T=0:=by rw[<-hT,<-gn,G];rfl
   rw[h];unfold zS;rw[if_pos Za]
   exact .same _ rfl
  by_cases h0:T=0
  .have:=e4 Za
   rw[S h0]at this;rw[this]at h;cases h
  have hx:=h3 (W h0);subst hx;unfold zS;rw[if_neg Za,h]
  show FR Y _ (.fsl (bB.size α) (rows (s.l.flatMap Sl.l))) _;rw[h1];exact .fsl 1 _ id 0 _ ⟨_,rfl⟩ (by unfold bp;rw[G];rfl) Za (λi a b Z I=>by rw[Nat.zero_add]at I;rw[Z]at I;cases I;rfl) (λi j a b u v Z I hu hv=>by
   rw[Nat.zero_add]at I;rw[Z]at I;cases I;rw[hu]at hv;cases hv;exact .same _ (iz.1 (z a (List.mem_of_getElem? Z)) j u hu))
 .rintro id ⟨m,h⟩;rcases e3.sh with⟨B,_⟩|⟨ak,xs,B,G,_⟩
  .rw[B]at h;cases h
  rw[B]at h;cases h;unfold bp;rw[G];rfl
 refine⟨λid es ys hz hr c hc u hu=>?_⟩
 obtain⟨m,h⟩:=hz;rcases e3.sh with⟨B,_⟩|⟨ak,xs,B,G,h3⟩
 .rw[B]at h;cases h
 rw[B]at h;cases h
 by_cases h0:T=0
 .have:=e4 Za
  rw[S h0]at this;rw[this]at B;cases B
 have hx:=h3 (W h0);subst hx;unfold bp at hr;rw[G]at hr;cases hr;obtain⟨j,hj⟩:=List.getElem?_of_mem hu;exact⟨u,.same _ (iz.1 (z c hc) j u hj)⟩
def yz (op:Bool) (x y:Int):Int:=cond op x y
@[simp] theorem UK (x y:Int):yz true x y=x:=rfl
@[simp] theorem Vo (x y:Int):yz false x y=y:=rfl
namespace setX
instance {n:Nat}:OfNat Arg n:=⟨.s n⟩
def fa (k:Nat):K:=.p (.fieldAddr k)
def ld:K:=.r (.load 1 false)
def r1:List RO:=[o2 4 (.a .box) [1] [],o2 5 (.a .box) [2] []]
def r2:List RO:=[o1 6 0 [],o2 7 (fa 0) [4] [],o2 8 ld [7] [],o2 9 (fa 1) [4] [],o2 10 ld [9] [],o2 11 (.p (.idxS 1)) [6,8] [],⟨none,none,false,.l (.store 1),[11,10],[],[]⟩]
def r3:List RO:=[o1 6 0 [],o2 7 (fa 0) [5] [],o2 8 ld [7] [],o2 9 (fa 1) [5] [],o2 10 ld [9] [],o2 11 (.p (.bin (some .int) none .sub)) [10,.k (.int .i64 1)] [],o2 12 (.p (.idxS 1)) [6,8] [],⟨none,none,false,.l (.store 1),[12,11],[],[]⟩]
def code (op:Bool):RC:=.seq (.ops r1) (.ops (if op then r3 else r2))
section
variable {E:Env} {N:Nat->FuncId} {H:bl} {id off L:Nat} {rs:List (List V)}
theorem Ql {h:Nat} {x y:V} {i:Nat} {v:V} (B:H[h]? = some (.row 2 [[x,y]])) (hv:[x,y][i]? = some v):eR H (.load 1 false) [.hptr h 0 i]=some v:=by
 match i,hv with
 | 0,hv=>cases hv;simp[eR,ey,B,Ob.rows,cut,mk]
 | 1,hv=>cases hv;simp[eR,ey,B,Ob.rows,cut,mk]
 | i+2,hv=>simp at hv
theorem whole (op:Bool) {a b c d:Int} (G:H[id]? = some (.row 1 rs)) (J:0<=(yz op c a)) (B:(yz op c a).toNat<L) {z:V} (D:rs[off+(yz op c a).toNat]? = some [z]) :
 ∃F' X,Ex E N (code op) [.hsl id 1 off L,.agg [.int .i64 a,.int .i64 b],.agg [.int .i64 c,.int .i64 d]] H .norm F' ((H++X).set id (.row 1 (rs.set (off+(yz op c a).toNat) [.int .i64 (yz op (IntKind.wrap .i64 (d-1)) b)]))):=by
 let X:bl:=[.row 2 [[.int .i64 a,.int .i64 b]],.row 2 [[.int .i64 c,.int .i64 d]]]
 have I:=(ζe.1 G).1;have e1:∃F1,(∀call,cE E N call none r1 [.hsl id 1 off L,.agg [.int .i64 a,.int .i64 b],.agg [.int .i64 c,.int .i64 d]] H=some (F1,H++X))/\get F1 0=.hsl id 1 off L/\get F1 4=.hptr H.length 0 0/\get F1 5=.hptr (H.length+1) 0 0:=by
  refine⟨_,λcall=>jA (v:=.hptr H.length 0 0) (H1:=H++[.row 2 [[.int .i64 a,.int .i64 b]]]) rfl ?_ <| jA (v:=.hptr (H.length+1) 0 0) (H1:=H++X) rfl ?_ dY,?_,?_,?_⟩
  .simp[bE,bz,get,iP,V.cells,V.one,Mk.val]
  .simp[bE,bz,get,bu,set,iP,V.cells,V.one,Mk.val,X]
  .simp[bu];rfl
  .simp[bu]
  simp[bu]
 obtain⟨F1,p1,p2,p3,p4⟩:=e1;have h1:(H++X)[id]? = some (.row 1 rs):=by rw[List.getElem?_append_left I];exact G
 have O:(H++X)[H.length]? = some (.row 2 [[.int .i64 a,.int .i64 b]]):=by simp[X]
 have Q:(H++X)[H.length+1]? = some (.row 2 [[.int .i64 c,.int .i64 d]]):=by
  rw[List.getElem?_append_right Za];simp[X]
 obtain⟨H1,S⟩:∃H1,H1=H++X:=⟨_,rfl⟩;rw[<-S]at h1 O Q;rw[<-S]at p1
 suffices Y:∃F',Ex E N (code op) [.hsl id 1 off L,.agg [.int .i64 a,.int .i64 b],.agg [.int .i64 c,.int .i64 d]] H .norm F' (H1.set id (.row 1 (rs.set (off+(yz op c a).toNat) [.int .i64 (yz op (IntKind.wrap .i64 (d-1)) b)])))by
  obtain⟨F',Z⟩:=Y;exact⟨F',X,by rw[<-S];exact Z⟩
 have w:∀p:Int,0<=p->p.toNat<L->lu 1 (.hsl id 1 off L) p=some (.hptr id (off+p.toNat) 0):=λp h0 hl=>by
  unfold lu;rw[if_neg Za];simp[hl]
 have C:∀(q:Nat) (z v:V),rs[q]? = some [z]->v.one=true->eZ H1 (.store 1) [.hptr id q 0,v]=some (.undef,H1.set id (.row 1 (rs.set q [v]))):=λq z v D hv=>by
  simp[eZ,h1,D,D3 hv,hv]
 cases op with
 | false=>
  simp only[Vo]at J B D ⊢;have T:=Ql (i:=0) O rfl;have U:=Ql (i:=1) O rfl;have e2:∃u,(∀call,cE E N call none r2 F1 H1=some (u,H1.set id (.row 1 (rs.set (off+a.toNat) [.int .i64 b])))):=by
   refine⟨_,λcall=>vp (v:=.hsl id 1 off L) rfl ?_ <| vp (v:=.hptr H.length 0 0) rfl ?_ <| vp (v:=.int .i64 a) rfl ?_ <| vp (v:=.hptr H.length 0 1) rfl ?_ <| vp (v:=.int .i64 b) rfl ?_ <| vp (v:=.hptr id (off+a.toNat) 0) rfl ?_ <| jA (v:=.undef) rfl ?_ dY⟩
   .simp[bE,bz,bn,p2]
   .simp[bE,bz,bn,bu,fa,gT,p3]
   .simp only[bE,List.map_cons,List.map_nil,bz,bu,bA,Nat.reduceEqDiff,if_true,if_false,ld,T,Option.map_some]
   .simp[bE,bz,bn,bu,fa,gT,p3]
   .simp only[bE,List.map_cons,List.map_nil,bz,bu,bA,Nat.reduceEqDiff,if_true,if_false,ld,U,Option.map_some]
   .simp only[bE,List.map_cons,List.map_nil,bz,bu,bA,Nat.reduceEqDiff,if_true,if_false,bn,w a J B,Option.map_some]
   simp only[bE,List.map_cons,List.map_nil,bz,bu,bA,Nat.reduceEqDiff,if_true,if_false];exact C _ z _ D rfl
  obtain⟨u,W⟩:=e2;exact⟨u,Ex.seq (Ex.cZ p1) (Ex.cZ (l:=_) W)⟩
 | true=>
  simp only[UK]at J B D ⊢;have T:=Ql (i:=0) Q rfl;have U:=Ql (i:=1) Q rfl;have e2:∃u,(∀call,cE E N call none r3 F1 H1=some (u,H1.set id (.row 1 (rs.set (off+c.toNat) [.int .i64 (IntKind.wrap .i64 (d-1))])))):=by
   refine⟨_,λcall=>vp (v:=.hsl id 1 off L) rfl ?_ <| vp (v:=.hptr (H.length+1) 0 0) rfl ?_ <| vp (v:=.int .i64 c) rfl ?_ <| vp (v:=.hptr (H.length+1) 0 1) rfl ?_ <| vp (v:=.int .i64 d) rfl ?_ <| vp (v:=.int .i64 (IntKind.wrap .i64 (d-1))) rfl ?_ <| vp (v:=.hptr id (off+c.toNat) 0) rfl ?_ <| jA (v:=.undef) rfl ?_ dY⟩
   .simp[bE,bz,bn,p2]
   .simp[bE,bz,bn,bu,fa,gT,p4]
   .simp only[bE,List.map_cons,List.map_nil,bz,bu,bA,Nat.reduceEqDiff,if_true,if_false,ld,T,Option.map_some]
   .simp[bE,bz,bn,bu,fa,gT,p4]
   .simp only[bE,List.map_cons,List.map_nil,bz,bu,bA,Nat.reduceEqDiff,if_true,if_false,ld,U,Option.map_some]
   .simp[bE,bz,bn,bu,gN]
   .simp only[bE,List.map_cons,List.map_nil,bz,bu,bA,Nat.reduceEqDiff,if_true,if_false,bn,w c J B,Option.map_some]
   simp only[bE,List.map_cons,List.map_nil,bz,bu,bA,Nat.reduceEqDiff,if_true,if_false];exact C _ z _ D rfl
  obtain⟨u,W⟩:=e2;exact⟨u,Ex.seq (Ex.cZ p1) (Ex.cZ (l:=_) W)⟩
end
end setX
section
variable {S:Sys} {c:ck} {β γ δ α:Type} [bB δ] {Q:Out×St->Option β} {e:γ->Option β} {cf:Cf}
end
def snap (w:World):cw:=λb=>match w.heap[b]? with
 | some (.cells c _ _)=>some (.cells c)
 | some (.map es _)=>some (.map es)
 | _=>none
theorem NR {w:World} (hg:tn (snap w)):cU (snap w) (λ_=>none) [] w where
 dom _ _:=rfl
 imm b x h:=by
  unfold snap at h;split at h
  next c el fr u=>cases h;exact⟨el,fr,u⟩
  next es cl u=>cases h;exact⟨cl,u⟩
  cases h
 obs id ob h:=by simp at h
 inj id z ob B p C h:=by simp at h
 gl:=hg
def gb (I:cw) (xs:List V) (vs:List Value):Prop:=xs.length=vs.length/\∀(j:Nat) a b,xs[j]? = some a->vs[j]? = some b->eH I a b
theorem gb.nil {I:cw}:gb I [] []:=⟨rfl,by simp⟩
theorem gb.one {I:cw} {x:V} {v:Value} (h:eH I x v):gb I [x] [v]:=⟨rfl,λj a b h1 u=>by
 cases j with
 | zero=>simp at h1 u;subst h1 u;exact h
 | succ j=>simp at h1⟩
theorem gb.append {I:cw} {xs ys:List V} {B vs:List Value} (h:gb I xs B) (k:gb I ys vs):gb I (xs++ys) (B++vs):=by
 refine⟨by simp[h.1,k.1],λj a b h1 u=>?_⟩
 by_cases w:j<xs.length
 .rw[List.getElem?_append_left w]at h1;rw[List.getElem?_append_left (by rw[<-h.1];exact w)]at u
  exact h.2 j a b h1 u
 rw[List.getElem?_append_right Za]at h1
 rw[List.getElem?_append_right (by rw[<-h.1];omega),<-h.1]at u
 exact k.2 _ a b h1 u
theorem BD {α β:Type} {f:α->Option β}:∀{l:List α} {r:List β},l.mapM f=some r->r.length=l.length/\∀(i:Nat) a b,l[i]? = some a->r[i]? = some b->f a=some b
 | [],r,h=>by simp only[List.mapM_nil,Option.pure_def,ζa]at h;subst h;simp
 | x::l,r,h=>by
  simp only[List.mapM_cons,Option.bind_eq_bind,Option.pure_def,ζg,ζa]at h;obtain⟨y,D,ys,B,rfl⟩:=h;obtain⟨h1,z⟩:=BD B;refine⟨by simp[h1],λi a b u w=>?_⟩
  cases i with
  | zero=>simp at u w;subst u w;exact D
  | succ i=>exact z i a b (by simpa using u) (by simpa using w)
structure rN {H:Type} (b:DataW H->Nat):Prop where
 lit:∀l,1<=b (.lit l)
 str:∀s,s.length+1<=b (.lit (.string s))
 nil:1<=b .nil
 slice:∀es sp,(es.map b).sum+1<=b (.slice es sp)
 agg:∀ps,(ps.map b).sum+1<=b (.agg ps)
class cr (α:Type) where
 wt:α->Nat
 ok:α->Prop
instance:cr Int where
 wt _:=1
 ok n:=-9223372036854775808<=n/\n<=9223372036854775807
instance:cr Bool where
 wt _:=1
 ok _:=True
instance:cr ByteArray where
 wt s:=s.size+1
 ok s:=s.size<=maxLen
instance {α:Type} [cr α]:cr (Sl α) where
 wt s:=(s.l.map cr.wt).sum+1
 ok s:=(∀x∈s.l,cr.ok x)/\s≠.emp
class Reads (P:Program) (t:TypeId) (α:Type) [bB α] [cr α]:Prop where
 size:P.cellsOf t=bB.size α
 rd:∀{H:Type} {enc:TypeId×Value->H} {w:World} {base:Nat} {spare:Nat->Bool} {held:Bool} {fuel:Nat} {cs:List Value} {d:DataW H} {ps:List MemPlace},
  DataW.trod enc P w base spare held fuel t cs=some (d,ps)->∃a:α,gb (snap w) (cells a) cs/\cr.ok a/\∀b:DataW H->Nat,rN b->cr.wt a<=b d
 shape:∀{w:World} {r:_root_.Go.Reach} {base:Nat} {v:Value},Value.okWide P w r base t v->if bB.agg α then ∃cs,v=.agg cs else v.cells=#[v]
section
variable {P:Program}
theorem qn {w:World} {r:_root_.Go.Reach} {base:Nat} {t:TypeId} {v:Value} {u:_} (hu:P.underlying t=some u) (h1:∀fs,u≠.struct fs) (B:∀n e,u≠.array n e) (h:Value.okWide P w r base t v):v.cells=#[v]:=by
 cases v with
 | agg C=>
  exfalso;unfold Value.okWide at h;rw[hu]at h;split at h
  next fs z=>cases z;exact h1 _ rfl
  next n e z=>cases z;exact B _ _ rfl
  unfold Cell.okWide at h;rw[hu]at h;split at h <;> first|(simp at *;done)|skip
  unfold Cell.ok at h;rw[hu]at h;cases u <;> simp at h
 | _=>rfl
theorem Reads.int {t:TypeId} (hu:P.underlying t=some (.int .i64)) (hc:P.cellsOf t=1):Reads P t Int where
 size:=hc
 rd {H enc w base spare held z D d ps} h:=by
  cases z with
  | zero=>simp[DataW.trod]at h
  | succ z=>
   simp only[DataW.trod,hu]at h;split at h <;> first|(simp at h;done)|skip
   next u=>cases u
   .rename_i k G n u;simp only[ζa,TypeDesc.int.injEq]at u;split at h
    next hk=>obtain⟨rfl,B⟩:=hk;subst u;cases h;exact⟨n,gb.one (.int _ n),show _/\_ by simpa [Lit.wf,IntKind.min,IntKind.max,IntKind.signed,IntKind.bits]using B,λb C=>C.lit _⟩
    simp at h
   all_goals (rename_i u;cases u)
 shape h:=by simp only[show bB.agg Int=false from rfl];exact qn hu Zc Zc h
theorem Reads.bool {t:TypeId} (hu:P.underlying t=some .bool) (hc:P.cellsOf t=1):Reads P t Bool where
 size:=hc
 rd {H enc w base spare held u C d ps} h:=by
  cases u with
  | zero=>simp[DataW.trod]at h
  | succ u=>
   simp only[DataW.trod,hu]at h;split at h <;> first|(simp at h;done)|skip
   next b _=>cases h;exact⟨b,gb.one (.bool b),trivial,λb B=>B.lit _⟩
   all_goals (rename_i z;cases z)
 shape h:=by simp only[show bB.agg Bool=false from rfl];exact qn hu Zc Zc h
theorem Reads.str {t:TypeId} (hu:P.underlying t=some .string) (hc:P.cellsOf t=1):Reads P t ByteArray where
 size:=hc
 rd {H enc w base spare held u D d ps} h:=by
  cases u with
  | zero=>simp[DataW.trod]at h
  | succ u=>
   simp only[DataW.trod,hu]at h;split at h <;> first|(simp at h;done)|skip
   all_goals (first|(rename_i z;cases z;done)|skip)
   rename_i s _;split at h
   next B=>cases h;exact⟨s,gb.one (.str s),B,λb C=>C.str _⟩
   simp at h
 shape h:=by simp only[show bB.agg ByteArray=false from rfl];exact qn hu Zc Zc h
theorem Of {w:World} {a:Addr} {n:Nat} {v:Value} (h:w.cell? (a.add n)=some v) (B:n=0\/True):∃c el fr,w.heap[a.block]? = some (.cells c el fr)/\c[a.off+n]? = some v/\(n=0->a.spot=none):=by
 unfold World.cell? Addr.add at h
 by_cases h0:n=0
 .subst h0;simp only[if_true]at h;split at h
  .rename_i c el fr u;split at h
   .simp at h
   rename_i z;exact⟨c,el,fr,u,h,λ_=>by simpa using z⟩
  simp at h
 simp only[if_neg h0]at h;split at h
 next c el fr u=>simp only[Option.isSome_none,Bool.false_eq_true,if_false]at h;exact⟨c,el,fr,u,h,λe=>absurd e h0⟩
 simp at h
def uv (P:Program) (t:TypeId) (α:Type) [bB α] [cr α] (B:Nat):Prop:=
 ∀{H:Type} {enc:TypeId×Value->H} {w:World} {base:Nat} {spare:Nat->Bool} {held:Bool} {u:List Value} {d:DataW H} {ps:List MemPlace},
  DataW.trod enc P w base spare held B t u=some (d,ps)->∃a:α,gb (snap w) (cells a) u/\cr.ok a/\∀b:DataW H->Nat,rN b->cr.wt a<=b d
theorem uv.sl {t e:TypeId} {α:Type} [bB α] [cr α] {J:Nat} (hu:P.underlying t=some (.slice e)) (af:P.cellsOf e=bB.size α) (U:0<bB.size α) (hr:uv P e α J):uv P t (Sl α) (J+1):=by
 intro H enc w base spare held cs d ps h;simp only[DataW.trod,hu]at h;split at h <;> first|(simp at h;done)|skip
 all_goals (first|(rename_i I;cases I;done)|skip)
 .cases h;exact⟨.nil,gb.one .bK,⟨λx W=>by simp[Sl.l]at W,by simp⟩,λb X=>X.nil⟩
 rename_i e' a len cap I;cases I;split at h
 .rename_i Y;obtain⟨elems,ah,h⟩:=ζg.1 h;obtain⟨rest,_,h⟩:=ζf.1 h;cases h;obtain⟨Z,aa⟩:=BD ah;simp only[List.length_range]at Z;have W:∀i,i<len->∃x:α,∃u:List Value,w.cells? base (a.add (i*P.cellsOf e)) (P.cellsOf e)=some u/\gb (snap w) (cells x) u/\cr.ok x/\∀b:DataW H->Nat,rN b->∀y,elems[i]? = some y->cr.wt x<=b y.1:=λi L=>by
   have:=aa i i (elems[i]' Za) (by simp[L]) (ζd Za)
   obtain⟨u,h1,O⟩:=ζg.1 this;obtain⟨x,W,hk,X⟩:=hr (show _=some ((elems[i]' Za).1,(elems[i]' Za).2)from O)
   exact⟨x,u,h1,W,hk,λb Q y hy=>by
    rw[ζd Za]at hy;cases hy;exact X b Q⟩
  have ab:∀n,n<=len->∃z:List α,z.length=n/\(∀i x,z[i]? = some x->∃u:List Value,w.cells? base (a.add (i*P.cellsOf e)) (P.cellsOf e)=some u/\gb (snap w) (cells x) u)/\(∀x∈z,cr.ok x)/\∀b:DataW H->Nat,rN b->(z.map cr.wt).sum<=(((elems.take n).map (·.1)).map b).sum:=by
   intro n
   induction n with
   | zero=>intro _;exact⟨[],rfl,by simp,by simp,by simp⟩
   | succ n ih=>
    intro hn;obtain⟨z,h1,O,h5,h6⟩:=ih Za
    obtain⟨x,u,h3,h4,h7,h8⟩:=W n Za
    refine⟨z++[x],by simp[h1],λi y hy=>?_,λy hy=>?_,λb Q=>?_⟩
    rotate_left
    .rcases List.mem_append.1 hy with hy|hy
     .exact h5 y hy
     simp at hy;subst hy;exact h7
    .have k1:=h6 b Q;have k2:=h8 b Q _ (ζd Za)
     rw[List.take_succ,ζd (by omega:n<elems.length)]
     simp only[List.map_append,List.sum_append,Option.toList_some,List.map_cons,List.map_nil,List.sum_cons,List.sum_nil];omega
    by_cases L:i<z.length
    .rw[List.getElem?_append_left L]at hy;exact O i y hy
    rw[List.getElem?_append_right Za]at hy
    have:i-z.length=0:=by
     cases hk:i-z.length with
     | zero=>rfl
     | succ k=>rw[hk]at hy;simp at hy
    rw[this]at hy;simp at hy;subst hy;have:i=n:=by omega
    subst this;exact⟨u,h3,h4⟩
  obtain⟨z,C,ai,ad,aj⟩:=ab len (Nat.le_refl _);refine⟨.row z,gb.one ?_,⟨ad,by simp⟩,λb Q=>?_⟩
  rotate_left
  .have k:=aj b Q;rw[List.take_of_length_le Za]at k
   have k2:=Q.slice (elems.map (·.1)) (rest.map (·.1));show (z.map cr.wt).sum+1<=_;omega
  show eH _ (.fsl (bB.size α) (rows z)) _
  cases hl:z with
  | nil=>
   subst hl;simp at C;subst C;exact .fsl0 _ _ _
  | cons x0 xr=>
   rw[<-hl];have ap:0<len:=by rw[<-C,hl];simp
   have S:∀i x,z[i]? = some x->∀j y,(cells x)[j]? = some y->∃v,w.cell? ((a.add (i*bB.size α)).add j)=some v/\eH (snap w) y v:=by
    intro i x L j y hy;obtain⟨u,h1,O⟩:=ai i x L;rw[af]at h1;unfold World.cells? at h1;split at h1
    .obtain⟨g1,g2⟩:=BD h1;have hj:j<bB.size α:=by rw[<-eX x];exact(ζe.1 hy).1
     obtain⟨v,hv⟩:∃v,u[j]? = some v:=⟨_,ζd (by rw[g1];simpa using hj)⟩
     exact⟨v,g2 j j v (by simp[hj]) hv,O.2 j y v hy hv⟩
    simp at h1
   have ao:∀i j,(a.add (i*bB.size α)).add j=a.add (i*bB.size α+j)\/True:=λ_ _=>.inr trivial
   have B:∀i x,z[i]? = some x->∀j y,(cells x)[j]? = some y->∃c el fr v,w.heap[a.block]? = some (.cells c el fr)/\c[a.off+i*bB.size α+j]? = some v/\eH (snap w) y v/\(i=0->j=0->a.spot=none):=by
    intro i x L j y hy;obtain⟨v,h1,O⟩:=S i x L j y hy;obtain⟨c,el,fr,g1,g2,g3⟩:=Of h1 (.inr trivial);have X:(a.add (i*bB.size α)).block=a.block:=by unfold Addr.add;split <;> rfl
    have ho:(a.add (i*bB.size α)).off=a.off+i*bB.size α:=by unfold Addr.add;split <;> simp_all
    rw[X]at g1;rw[ho]at g2;refine⟨c,el,fr,v,g1,g2,O,?_⟩;rintro rfl rfl;have:=g3 rfl;simpa [Addr.add]using this
   have ak:∃y,(cells x0)[0]? = some y:=⟨_,ζd (by rw[eX];exact U)⟩
   obtain⟨y0,al⟩:=ak;obtain⟨c,el,fr,v0,D,_,_,G⟩:=B 0 x0 (by rw[hl];rfl) 0 y0 al
   have G:=G rfl rfl;obtain⟨b,o,sp⟩:=a;simp only at G D;subst G;have hI:snap w b=some (.cells c):=by unfold snap;rw[D]
   have T:(rows z).length=len:=by rw[gn,C]
   rw[<-T];refine .fsl _ _ b o cap c hI (by rw[T];exact Y.2.1) (λr hr=>?_) (λr hr y hy=>?_) ?_ (λi j r y v hr hy hv=>?_)
   .obtain⟨x,_,rfl⟩:=List.mem_map.1 hr;exact eX x
   .obtain⟨x,_,rfl⟩:=List.mem_map.1 hr;exact List.all_eq_true.1 (ow x) y hy
   .
    obtain⟨xl,ae⟩:∃x,z[len-1]? = some x:=⟨_,ζd Za⟩
    obtain⟨yl,am⟩:∃y,(cells xl)[bB.size α-1]? = some y:=⟨_,ζd (by rw[eX];omega)⟩
    obtain⟨c2,_,_,v2,k1,k2,_,_⟩:=B (len-1) xl ae (bB.size α-1) yl am;simp only at k1 k2;rw[D]at k1;cases k1;have:=(Array.getElem?_eq_some_iff.1 k2).1;rw[T];have e:len*bB.size α=(len-1)*bB.size α+bB.size α:=by
     obtain⟨m,rfl⟩:∃m,len=m+1:=⟨len-1,by omega⟩
     simp[Nat.add_mul]
    omega
   simp only[rows,List.getElem?_map,ζf]at hr;obtain⟨x,an,rfl⟩:=hr;obtain⟨c2,_,_,v2,k1,k2,k3,_⟩:=B i x an j y hy;simp only at k1 k2;rw[D]at k1;cases k1;rw[hv]at k2;cases k2;exact k3
 simp at h
theorem uv.WJ {t e:TypeId} {α:Type} [bB α] [cr α] {B:Nat} (hu:P.underlying t=some (.slice e)) (G:P.cellsOf e=bB.size α) (D:0<bB.size α) (hr:∀g,g<B->uv P e α g):uv P t (Sl α) B:=by
 cases B with
 | zero=>intro H enc w base spare held u d ps h;simp[DataW.trod]at h
 | succ f=>exact uv.sl hu G D (hr f (Nat.lt_succ_self f))
theorem Reads.sl {t e:TypeId} {α:Type} [bB α] [cr α] [Reads P e α] (hu:P.underlying t=some (.slice e)) (hc:P.cellsOf t=1) (B:0<bB.size α):Reads P t (Sl α) where
 size:=hc
 rd h:=uv.WJ hu (Reads.size (α:=α)) B (λ_ _ {_ _ _ _ _ _ _ _ _}=>Reads.rd (P:=P) (t:=e) (α:=α)) h
 shape h:=by simp only[show bB.agg (Sl α)=false from rfl];exact qn hu Zc Zc h
theorem gb.seg {I:cw} {acc xs:List V} {cs:List Value} {o n:Nat} (h:gb I acc (cs.take o)) (k:gb I xs ((cs.drop o).take n)):gb I (acc++xs) (cs.take (o+n)):=by
 rw[List.take_add];exact h.append k
theorem gb.fin {I:cw} {xs:List V} {cs:List Value} {n:Nat} (h:gb I xs (cs.take n)) (B:cs.length=n):gb I xs cs:=by
 rw[List.take_of_length_le Za]at h;exact h
theorem uv.st {t:TypeId} {fs:Array Field} {α:Type} [bB α] [cr α] {B:Nat} (hu:P.underlying t=some (.struct fs)) (hc:P.cellsOf t=bB.size α)
 (h:∀{H:Type} {enc:TypeId×Value->H} {w:World} {base:Nat} {spare:Nat->Bool} {held:Bool} {cs:List Value} {l:List (DataW H×List MemPlace)},cs.length=bB.size α ->
  (fs.toList.mapM λf=>DataW.trod enc P w base spare held B f.type ((cs.drop f.offset).take (P.cellsOf f.type)))=some l->∃a:α,gb (snap w) (cells a) cs/\cr.ok a/\∀b:DataW H->Nat,rN b->cr.wt a<=((l.map (·.1)).map b).sum+1):uv P t α (B+1):=by
 intro H enc w base spare held cs d ps hr;simp only[DataW.trod,hu]at hr;split at hr <;> first|(simp at hr;done)|skip
 all_goals (first|(rename_i u;cases u;done)|skip)
 rename_i C;obtain⟨l,h1,D⟩:=ζf.1 hr;cases D;obtain⟨a,k1,k2,k3⟩:=h (by rw[C,hc]) h1
 exact⟨a,k1,k2,λb z=>Nat.le_trans (k3 b z) (z.agg _)⟩
theorem Reads.of {t:TypeId} {fs:Array Field} {α:Type} [bB α] [cr α] (hu:P.underlying t=some (.struct fs)) (hc:P.cellsOf t=bB.size α) (D:bB.agg α=true) (h:∀B,uv P t α B):Reads P t α where
 size:=hc
 rd hr:=h _ hr
 shape hv:=by
  rw[if_pos D];unfold Value.okWide at hv;rw[hu]at hv;obtain⟨u,h1,_⟩:=hv;exact⟨u,h1⟩
theorem Reads.st {t:TypeId} {fs:Array Field} {α:Type} [bB α] [cr α] (hu:P.underlying t=some (.struct fs)) (hc:P.cellsOf t=bB.size α) (D:bB.agg α=true)
 (h:∀{H:Type} {enc:TypeId×Value->H} {w:World} {base:Nat} {spare:Nat->Bool} {held:Bool} {B:Nat} {cs:List Value} {l:List (DataW H×List MemPlace)},cs.length=bB.size α ->
  (fs.toList.mapM λf=>DataW.trod enc P w base spare held B f.type ((cs.drop f.offset).take (P.cellsOf f.type)))=some l->∃a:α,gb (snap w) (cells a) cs/\cr.ok a/\∀b:DataW H->Nat,rN b->cr.wt a<=((l.map (·.1)).map b).sum+1):Reads P t α:=
 Reads.of hu hc D λB=>by
  cases B with
  | zero=>intro H enc w base spare held cs d ps h;simp[DataW.trod]at h
  | succ f=>exact uv.st hu hc h
theorem Reads.arg {t:TypeId} {α:Type} [bB α] [cr α] [Reads P t α] {H:Type} {B:TypeId×Value->H} {w:World} {base:Nat} {spare:Nat->Bool} {held:Bool} {r:_root_.Go.Reach} {b:Nat} {v:Value} {d:DataW H} {ps:List MemPlace}
 (hv:Value.okWide P w r b t v) (h:DataW.Trod B P w base spare held t v d ps):∃a:α,bJ (snap w) (λ_=>none) (enc a) v/\cr.ok a/\∀b:DataW H->Nat,rN b->cr.wt a<=b d:=by
 obtain⟨I,h⟩:=h;obtain⟨a,⟨h1,z⟩,D,G⟩:=Reads.rd (P:=P) (t:=t) (α:=α) h;have u:=Reads.shape (P:=P) (t:=t) (α:=α) hv;refine⟨a,?_,D,G⟩
 cases C:bB.agg α with
 | true=>
  rw[C,if_pos rfl]at u;obtain⟨O,rfl⟩:=u;rw[w6 C];refine .c _ _ (.agg _ _ (by simpa [Value.cells]using h1) (λj x y J L=>z j x y J (by simpa [Value.cells]using L)))
 | false=>
  rw[C]at u;simp only[Bool.false_eq_true,if_false]at u;rw[u]at z;rw[vU C]at z;exact .c _ _ (z 0 _ _ rfl rfl)
end
end Go.VE
namespace Go.VE
variable [bV]
open Go.ChangeShapes Go.WideShapes Go.ChangeAt Go.RowKit
structure F9 (w w':World):Prop where
 kept:w.keptBut w' (λ_=>False)
 fz:∀a:Addr,a.block<w.heap.size->w'.frozen? a=w.frozen? a
theorem EY {I I':cw} {μ':Mu} {H':bl} {w w':World} (s:Step I (λ_=>none) [] w I' μ' H' w'):F9 w w':=by
 have B:∀b,b<w.heap.size->w'.heap[b]? = w.heap[b]? := λb z=>s.frame b z (by rintro⟨id,p,ob,h,_⟩;simp at h)
 refine⟨⟨s.os,s.out.out,λi C=>?_⟩,λa z=>?_⟩
 .rw[B i C];split
  next h1 u=>rw[h1]at u;cases u;exact⟨rfl,rfl,rfl,λ_ _=>rfl⟩
  next h1 u=>rw[h1]at u;cases u;exact .inr ⟨rfl,rfl⟩
  rfl
 unfold World.frozen?;rw[B _ z]
theorem GO {P:Program} {call:dx} (hc:kD P call) {f:FuncId} {args:List V} {b:Bool} {H':bl} (h:call (.fn f) args []=some (.bool b,H')) {w:World} {vs:List Value}
 (D:tn (snap w)) (hv:cM (snap w) (λ_=>none) args vs):Calls P f vs.toArray w λe w'=>e=.returned (.bool b)/\F9 w w':=by
 intro C;have k:=((hc.fn f args [] _ H' h).2 (snap w) (λ_=>none) w vs (NR D) hv)
 obtain⟨e,w',fr,⟨u,I',μ',rfl,hu,_,G⟩,z,h1,I⟩:=k.2 C (by simp[Fence.room,fr])
 refine⟨_,w',fr,⟨?_,EY G⟩,z.comes,h1,I⟩
 cases hu with
 | c _ _ B=>cases B;rfl
variable {P:Program} {H:Type} {enc:TypeId×Value->H}
theorem E6 {B:List TypeId} {vs:List Value} {ds:List (DataW H)} {ps:List MemPlace} {w w':World} (hg:F9 w w') (h:DataW.TrodAll enc P w 0 (λ_=>true) true B vs ds ps):DataW.TrodAll enc P w' 0 (λ_=>true) true B vs ds ps:=by
 have z:∀p:MemPlace,p.block<w.heap.size->w.sameAt w' p:=by
  intro p C;have k:=hg.kept.2.2 p.block C
  cases p with
  | cell b off=>
   simp only[World.sameAt,World.cell?];simp only[MemPlace.block]at k C;split at k
   .rename_i c t fr c' G D h1 u;rw[h1,u];simp only;have:=k.2.2.2 off (λx=>x)
    simpa using this
   next h1 u=>rw[h1,u]
   rw[k]
  | map b=>
   simp only[World.sameAt];simp only[MemPlace.block]at k C;split at k
   .rename_i c t fr c' G D h1 u;obtain⟨rfl,rfl,O,I⟩:=k;rw[h1,u];have:c'=c:=Array.ext_getElem? λi=>I i (λx=>x)
    rw[this]
   .rename_i h1 u;rcases k with k|⟨rfl,rfl⟩
    .exact k.elim
    rw[h1,u]
   exact k
 induction B generalizing vs ds ps with
 | nil=>cases vs <;> cases ds <;> simp_all [DataW.TrodAll]
 | cons t B J=>
  cases vs with
  | nil=>simp[DataW.TrodAll]at h
  | cons v vs=>
   cases ds with
   | nil=>simp[DataW.TrodAll]at h
   | cons d ds=>
    obtain⟨p,q,⟨n,h1⟩,u,rfl⟩:=h;exact⟨p,q,⟨n,DataW.trod_carry n _ _ _ h1 λx L=>z x (DataW.trod_lt n _ _ _ h1 x L)⟩,J u,rfl⟩
theorem Nj {T:TypeId->Prop} (K:Kids P T) (hz:∀t e,T t->P.underlying t=some (.slice e)->0<P.cellsOf e) {f:Func} {s:ChangeSpec} {apart fresh handsOn again:Bool} {W G:World} {args:Array Value} {ds gs:List (DataW H)} {before:List MemPlace} {tb:TypeId}
 (hT:∀t∈f.params.toList,T t) (B:s.vars=[]) (D:s.fn H (ds++gs)={ results:=[.lit (.bool true)],args:=ds }) (J:f.resultTypes=#[tb]) (U:P.underlying tb=some .bool)
 (Y:DataW.Whole enc P f.params.toList s.vars apart W args.toList ds gs before) (hg:F9 W G):s.post enc P f apart fresh handsOn again W args (.bool true) G:=by
 have z:=Y;obtain⟨p,q,Z,S,rfl,L,O⟩:=Y;rw[B]at S;obtain⟨rfl,rfl⟩:=trodVars_none S;have hr:∀(b:Nat) (w:Nat->Bool) (hd:Bool),DataW.TrodAll enc P G b w hd f.resultTypes.toList ((Value.bool true).resultList f.resultTypes.size) (s.fn H (ds++[])).results []:=λ_ _ _=>by
  rw[J,D];exact trodAll_cons_mk (shut_bool U _) trodAll_mk0
 have X:∀w:Nat->Bool,(∀x∈p++[],w x.block=true)->DataW.TrodAll enc P G 0 w true f.params.toList args.toList (s.fn H (ds++[])).args p:=λw Q=>by
  rw[D];exact DataW.TrodAll.respare K hz hT (E6 hg Z) (λx u=>Q x (List.mem_append_left _ u))
 have hv:∀w:Nat->Bool,DataW.TrodVars enc P G w s.vars (s.fn H (ds++[])).vars []:=λw=>by rw[D,B];rfl
 have C:=λx u=>z.lt x u
 refine⟨ds,[],p++[],[],p,[],z,hr _ _ _,X _ λx u=>by simpa using C x u,hv _,World.keptBut_mono (λx u=>u.elim) hg.kept,λ_=>⟨ok_one J rfl (okWide_bool_mk U _),?_⟩⟩
 refine⟨_,_,[]++p++[],⟨[]++p,[],trodAll_append (X _ λ_ _=>rfl) (hr _ _ _),hv _,rfl,λb off u=>?_,λh=>by simpa using O h⟩,λx u _=>by simpa using u⟩
 have I:MemPlace.cell b off∈p++[]:=by simpa using u
 rw[hg.fz _ (C _ I)];exact L b off I
end Go.VE
namespace Go.VE
variable [bV]
instance:cr U8 where
 wt _:=1
 ok n:=0<=n.v/\n.v<=255
theorem Reads.u8 {P:Program} {t:TypeId} (hu:P.underlying t=some (.int .u8)) (hc:P.cellsOf t=1):Reads P t U8 where
 size:=hc
 rd {H enc w base spare held z D d ps} h:=by
  cases z with
  | zero=>simp[DataW.trod]at h
  | succ z=>
   simp only[DataW.trod,hu]at h;split at h <;> first|(simp at h;done)|skip
   next u=>cases u
   .rename_i k G n u;simp only[ζa,TypeDesc.int.injEq]at u;split at h
    next hk=>obtain⟨rfl,B⟩:=hk;subst u;cases h;exact⟨⟨n⟩,gb.one (.int _ n),show _/\_ by simpa [Lit.wf,IntKind.min,IntKind.max,IntKind.signed,IntKind.bits]using B,λb C=>C.lit _⟩
    simp at h
   all_goals (rename_i u;cases u)
 shape h:=by simp only[show bB.agg U8=false from rfl];exact qn hu Zc Zc h
theorem K9 {m:Tb bG} {n:Nat} {rs:List SV} {b:Bool} (h:cV m n rs=some [.bool b]):rs=[.v (.bool b)]:=by
 cases rs with
 | nil=>cases n <;> simp[cV]at h
 | cons x r=>
  have h1:shut m n x=some (.bool b)/\cV m n r=some []:=by
   unfold cV at h;split at h
   next y s h1 w=>simp only[ζa,List.cons.injEq]at h;obtain⟨rfl,rfl⟩:=h;exact⟨h1,w⟩
   cases h
  have w:r=[]:=by
   cases r with
   | nil=>rfl
   | cons y r=>
    have:=h1.2;unfold cV at this;split at this <;> simp at this
  subst w;have u:=h1.1
  cases x with
  | v y=>unfold shut at u;simp only[ζa]at u;rw[u]
  | own d=>unfold shut at u;split at u <;> simp only[ζa,reduceCtorEq]at u;rename_i k es B _;cases k <;> simp[nO]at u
  | ptr d o=>
   cases n with
   | zero=>simp[shut]at u
   | succ n=>
    unfold shut at u;split at u <;> try cases u
    split at u <;> try cases u
    split at u <;> cases u
  | mp d=>unfold shut at u;split at u <;> cases u
  | clo f a b=>
   cases n with
   | zero=>simp[shut]at u
   | succ n=>unfold shut at u;split at u <;> cases u
  | tup l=>
   cases n with
   | zero=>simp[shut]at u
   | succ n=>unfold shut at u;obtain⟨_,_,z⟩:=ζf.1 u;cases z
  | _=>cases n <;> simp[shut]at u
theorem Pz {S:Sys} {T:pI} (B:qH S T) (D:∀f a b xs,S.items f a b=some xs->fH S f a b xs) {f:FuncId} {xs:List V} (hg:V.cA xs=true) (h:mV (c_ S T) f xs=some [.bool true]) :
 ∃n H',run S.E n (.fn f) xs []=some (.bool true,H'):=by
 unfold mV at h;obtain⟨⟨rs,m⟩,h1,u⟩:=ζg.1 h;have:=K9 u;simp only at this;subst this;exact Sd B D hg h1 rfl
theorem JK {S:Sys} {T:pI} {P:Program} (B:qH S T) (D:∀f a b xs,S.items f a b=some xs->fH S f a b xs) (hc:∀n,kD P (run S.E n)) {f:FuncId} {xs:List V} (hg:V.cA xs=true) (h:mV (c_ S T) f xs=some [.bool true])
 {w:World} {args:Array Value} (G:tn (snap w)) (hv:cM (snap w) (λ_=>none) xs args.toList):Calls P f args w λe w'=>e=.returned (.bool true)/\F9 w w':=by
 obtain⟨n,H',hr⟩:=Pz B D hg h;have:=GO (hc n) hr G hv;simpa using this
theorem Reads.KB {P:Program} {t:TypeId} {α:Type} [bB α] [cr α] [Reads P t α] {H:Type} {B:TypeId×Value->H} {w:World} {base b:Nat} {spare:Nat->Bool} {held:Bool} {v:Value} {d:DataW H} {ps:List MemPlace} {params:Array TypeId} {args:Array Value}
 (D:∀(j:Nat) t v,params[j]? = some t->args[j]? = some v->Value.okWide P w .any b t v) (j:Nat) (h1:params[j]? = some t) (G:args[j]? = some v) (h:DataW.Trod B P w base spare held t v d ps) :
 ∃a:α,bJ (snap w) (λ_=>none) (enc a) v/\cr.ok a/\∀b:DataW H->Nat,rN b->cr.wt a<=b d:=Reads.arg (D j t v h1 G) h
end Go.VE
namespace Go.VE
theorem Oh {w:World} {g:Nat} {l:List Int} (h:∀i,i<l.length->w.cell? ⟨g,i,none⟩=some (.int .i64 (l.getD i 0))) (h0:0<l.length):eH (snap w) (.fptr (l.map (V.int .i64))) (.pointer (some ⟨g,0,none⟩)):=by
 have h1:=h 0 h0;unfold World.cell? at h1;split at h1
 .rename_i c t fr u;have D:snap w g=some (.cells c):=by unfold snap;simp only at u;rw[u]
  have hc:∀i,w.cell? ⟨g,i,none⟩=c[i]? := λi=>by unfold World.cell?;simp only at u ⊢;rw[u];rfl
  refine .fptr _ _ _ c D ?_ ?_
  .rw[Nat.zero_add,List.length_map];have:=h (l.length-1) Za
   rw[hc]at this;have:=(Array.getElem?_eq_some_iff.1 this).1;omega
  intro j y v B hv;rw[Nat.zero_add,<-hc]at hv;rw[List.getElem?_map]at B;obtain⟨z,C,rfl⟩:=ζf.1 B;have G:=(ζe.1 C).1;rw[h j G]at hv;cases hv;have:l.getD j 0=z:=by simp[List.getD,C]
  rw[this];exact .int _ _
 cases h1
variable [bV]
theorem cK (n:Nat) (h:n<9223372036854775807):IntKind.wrap .i64 ((n:Int)+1)=((n+1:Nat):Int):=by
 simp[IntKind.wrap,IntKind.bits,IntKind.signed];omega
theorem jX (n:Int) (h1:-9223372036854775808<=n) (B:n<=9223372036854775807):IntKind.wrap .i64 n=n:=by
 simp[IntKind.wrap,IntKind.bits,IntKind.signed];omega
section
variable {α β:Type} {P:β->Prop}
theorem nE (s:Sl α) (i:Nat):idx s (i:Int)=s.l[i]? := by
 unfold idx;rw[if_pos Za];rfl
theorem bL {s:Sl α} {i:Nat} (h:i<s.l.length):idx s (i:Int)=some s.l[i]:=by rw[nE,ζd h]
theorem KX {s:Sl α} {i:Int} (h0:0<=i):idx s i=s.l[i.toNat]? := by unfold idx;rw[if_pos h0]
theorem tO (s:Sl α) (i:Nat) (h:i<=s.l.length):∃x,fS s none (some (i:Int))=some x/\x.l=s.l.take i:=by
 unfold fS dU;simp only[Option.getD_none,Option.getD_some];rw[if_pos Za]
 cases s <;> simp[Sl.l]at h ⊢ <;> simp[h]
theorem bS {γ:Type} {a b:γ}:br true a b=a:=rfl
theorem bZ {γ:Type} {a b:γ}:br false a b=b:=rfl
theorem j7 (a b:Bool):br a (some b) (some false)=some (a&&b):=by cases a <;> rfl
theorem ir (a b:Bool):br a (some true) (some b)=some (a||b):=by cases a <;> rfl
theorem s7 (a:Bool) (x y:β):br a (some x) (some y)=some (if a then x else y):=by cases a <;> rfl
end
def place {α:Type} (f:α->Bool) (l:List α):Int:=match l.findIdx? f with
 | some i=>i
 | none=>-1
theorem zg {α:Type} {f:α->Bool} {l:List α} {i:Nat} (h:∀j,j<i->∀x,l[j]? = some x->f x=false) (B:l.length<=i):l.findIdx? f=none:=by
 rw[List.findIdx?_eq_none_iff];intro x w;obtain⟨j,u⟩:=List.getElem?_of_mem w;have:j<l.length:=(ζe.1 u).1;exact h j Za x u
theorem AY {α:Type} {f:α->Bool} {l:List α} {i:Nat} {x:α} (h:∀j,j<i->∀x,l[j]? = some x->f x=false) (B:l[i]? = some x) (D:f x=true):l.findIdx? f=some i:=by
 rw[List.findIdx?_eq_some_iff_getElem];obtain⟨u,rfl⟩:=ζe.1 B;exact⟨u,D,λj w=>by rw[h j w _ (ζd Za)];simp⟩
theorem pg {α:Type} {step:Int->Option (Fw Int Unit Int)} {s:Sl α} {p:α->Option Bool} {f:α->Bool} (J:∀x∈s.l,p x=some (f x)) (U:s.l.length<9223372036854775807)
 (O:∀i,step i=br (decide (i<len s)) ((idx s i).bind λB=>(p B).bind λD=>br D (some (.r i)) (some (.n (IntKind.wrap .i64 (i+1))))) (some (.x ()))) :
 (bR step 0).bind (Fw.elim (λ_=>some (-1)) (λe=>some e))=some (place f s.l):=by
 refine Wp.eq (fR (λi:Int=>∃n:Nat,i=n/\n<=s.l.length/\∀j,j<n->∀x,s.l[j]? = some x->f x=false) (λi:Int=>s.l.length-i.toNat) ⟨0,rfl,Nat.zero_le _,λj I=>absurd I Za⟩ ?_)
 rintro i ⟨n,rfl,L,w⟩;rw[O,cn];refine⟨λh=>?_,λh=>?_⟩
 .have u:n<s.l.length:=by simpa [len]using h
  rw[bL u,ζb,J _ (List.getElem_mem u),ζb,cn];refine⟨λz=>?_,λz=>?_⟩
  .rw[a_];show Wp (some (n:Int)) _;rw[a_];unfold place;rw[AY w (ζd u) z]
  rw[a_];refine⟨⟨n+1,cK n Za,by omega,λj I x C=>?_⟩,?_⟩
  .by_cases e:j=n
   .subst e;rw[ζd u]at C;cases C;exact z
   exact w j Za x C
  rw[cK n Za];simp;omega
 have G:s.l.length<=n:=by simpa [len]using h
 rw[a_];show Wp (some (-1:Int)) _;rw[a_];unfold place;rw[zg w G]
theorem rm {α:Type} (f:α->Bool) (l:List α):decide (place f l>=0)=l.any f:=by
 unfold place
 cases h:l.findIdx? f with
 | none=>
  rw[List.findIdx?_eq_none_iff]at h;have:l.any f=false:=by rw[List.any_eq_false];intro x u;simp[h x u]
  rw[this];rfl
 | some i=>
  obtain⟨w,z,_⟩:=List.findIdx?_eq_some_iff_getElem.1 h;have:l.any f=true:=List.any_eq_true.2 ⟨_,List.getElem_mem w,z⟩;rw[this];simp
theorem O4 {α σ ε ρ:Type} {step:α->σ->Option (Fw σ ε ρ)} {l:List α} (I:Nat->σ->Prop) (D:ε->Prop) (G:ρ->Prop) {s:σ} (h0:I 0 s)
 (h:∀i a s,l[i]? = some a->I i s->Wp (step a s) λw=>match w with|.n B=>I (i+1) B|.x e=>D e|.r b=>G b) :
 Wp (nT step l s) λw=>match w with|.n B=>I l.length B|.x e=>D e|.r b=>G b:=by
 have key:∀(r:List α) (i:Nat) (s:σ),l.drop i=r->i<=l.length->I i s->Wp (nT step r s) λw=>match w with|.n B=>I l.length B|.x e=>D e|.r b=>G b:=by
  intro r
  induction r with
  | nil=>
   intro i s u L C;have:i=l.length:=by have:=List.drop_eq_nil_iff.1 u;omega
   subst this;exact⟨_,rfl,C⟩
  | cons a r O=>
   intro i s u L C;have z:i<l.length:=by
    apply Classical.byContradiction;intro T;rw[List.drop_eq_nil_of_le Za]at u;cases u
   have Q:=List.drop_eq_getElem_cons z;rw[Q]at u;simp only[List.cons.injEq]at u;obtain⟨w,S,J⟩:=h i a s (by rw[ζd z,u.1]) C
   simp only[nT,S,ζb]
   cases w with
   | n B=>exact O (i+1) B u.2 Za J
   | x e=>exact⟨_,rfl,J⟩
   | r b=>exact⟨_,rfl,J⟩
 exact key l 0 s rfl (Nat.zero_le _) h0
theorem Af {α σ ε ρ γ:Type} {step:α->σ->Option (Fw σ ε ρ)} {l:List α} {fn:σ->Option γ} {B:ε->Option γ} {fr:ρ->Option γ} {P:γ->Prop} (I:Nat->σ->Prop) {s:σ} (h0:I 0 s)
 (h:∀i a s,l[i]? = some a->I i s->Wp (step a s) λw=>match w with|.n D=>I (i+1) D|.x e=>Wp (B e) P|.r b=>Wp (fr b) P)
 (G:∀s,I l.length s->Wp (fn s) P):Wp ((nT step l s).bind (Fw.vL fn B fr)) P:=by
 rw[dJ];refine(O4 I _ _ h0 h).mono ?_;intro w u
 cases w with
 | n s=>exact G s u
 | x e=>exact u
 | r b=>exact u
end Go.VE
