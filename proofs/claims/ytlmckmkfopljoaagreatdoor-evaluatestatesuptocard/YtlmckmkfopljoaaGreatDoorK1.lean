/-
 Certificates; functions by hand; readings; plain laws.
-/
import Derived.JoinedCond
import Derived.ReadAgain
import Derived.WalkKit
import Derived.ProofKit
import Derived.OpenShut
import Derived.ChangeSame
import Derived.RowKit3
import Derived.Lib.LaidTab
import Derived.Test.YtlmckmkfopljoaaGreatDoorV2
import Derived.Test.YtlmckmkfopljoaaGreatDoorN2
import Derived.Test.YtlmckmkfopljoaaGreatDoorS1
set_option linter.all false
namespace Go.VE
variable [bS]
abbrev Cf:=Fo×List Fm×St
section
variable (S:Sys) (c:bX) {β:Type} (Q:Out×St->Option β)
noncomputable abbrev cg (cf:Cf):Option β:=rn S c Q cf.1 cf.2.1 cf.2.2
noncomputable def iV (n:Nat) (cf:Cf):Cf:=(ig S c n cf.1 cf.2.1 cf.2.2).getD cf
structure El where
 dr:Bool
 fr:List Nat
 d:Option Nat
 gd:Option (Nat×Bool)
 now:Bool
 k:K
 az:List Arg
 dd:List Nat
 l:List RO
 fs:List Fm
 st:St
noncomputable def gT (n:Nat) (cf:Cf):Option El:=match ig S c n cf.1 cf.2.1 cf.2.2 with
 | some (.ops dr fr (⟨d,gd,now,k,az,dd,[]⟩::l),fs,st)=>match wanted st.g gd with
  | some true=>some ⟨dr,fr,d,gd,now,k,az,dd,l,fs,st⟩
  | _=>none
 | _=>none
noncomputable def nx (n:Nat) (cf:Cf) (φ:El->St):Cf:=match gT S c n cf with
 | some p=>(.ops p.dr (if p.dr then(match p.k with|.p _|.r _=>p.fr|_=>match p.d with|some d=>d::p.fr|none=>p.fr)else p.fr) p.l,p.fs,o8 p.dd (φ p))
 | none=>cf
end
def uH (s:Nat) (b:Bool) (cf:Cf):Cf:=(cf.1,cf.2.1,{ cf.2.2 with g:=bM cf.2.2.g s (.v (.bool b)) })
def jmp (k:Nat) (fr:List Nat) (cf:Cf) (st:St):Cf:=match cf with
 | (.ops dr _ l,fs,_)=>(.ops dr fr (l.drop k),fs,st)
 | _=>(.rt,[],st)
def mb:RC->List Nat->List Fm->St->Cf
 | c,[],fs,st=>(.rc c,fs,st)
 | .seq a b,i::p,fs,st=>if i=0 then mb a p (.seq b::fs) st else mb b p fs st
 | .cond _ a b,i::p,fs,st=>if i=0 then mb a p fs st else mb b p fs st
 | .block id c,_::p,fs,st=>mb c p (.blk id::fs) st
 | .gh _ c,_::p,fs,st=>mb c p fs st
 | .hg c g,_::p,fs,st=>mb c p (.gst g::fs) st
 | .loop c,_::p,_,st=>mb c p [] st
 | .each _ _ _ b,_::p,_,st=>mb b p [] st
 | c,_,fs,st=>(.rc c,fs,st)
section
variable {S:Sys} {c:bX} {β γ δ α:Type} {Q:Out×St->Option β} {e:γ->Option β} {cf:Cf}
theorem kj {n:Nat} {p:El} (h:gT S c n cf=some p):ig S c n cf.1 cf.2.1 cf.2.2=some (.ops p.dr p.fr (⟨p.d,p.gd,p.now,p.k,p.az,p.dd,[]⟩::p.l),p.fs,p.st)/\wanted p.st.g p.gd=some true:=by
 unfold gT at h
 grind
theorem sA {n:Nat} {m:Option δ} {φ:δ->El->St} {f:δ->Option γ} {p:El} (hp:gT S c n cf=some p) (B:Le (m.bind λx=>some (φ x p)) (fL S c p.dr p.fr ⟨p.d,none,p.now,p.k,p.az,[],[]⟩ p.st))
 (h:∀x,m=some x->Le ((f x).bind e) (cg S c Q (nx S c n cf (φ x)))):Le ((m.bind f).bind e) (cg S c Q cf):=by
 obtain⟨h1,u⟩:=kj hp;refine DA h1 rfl u B λx w=>?_
 have:=h x w;simp[nx,hp]at this;omega
theorem Ad {n:Nat} {m:Option β} {φ:El->St} {p:El} (hp:gT S c n cf=some p) (B:fL S c p.dr p.fr ⟨p.d,none,p.now,p.k,p.az,[],[]⟩ p.st=some (φ p))
 (h:Le m (cg S c Q (nx S c n cf φ))):Le m (cg S c Q cf):=by
 obtain⟨h1,u⟩:=kj hp;refine sO h1 rfl u B ?_;simp[nx,hp]at h;omega
theorem fI {α β:Type} {o:Option α} {f:α->β} {b:β} (h:o.map f=some b):∃a,o=some a/\f a=b:=ζf.1 h
theorem gy (n:Nat) {m:Option β} {B:Cf} (h:Le m (cg S c Q B)) (D:ig S c n cf.1 cf.2.1 cf.2.2=some B:=by kernel_rfl):Le m (cg S c Q cf):=Ac D h
theorem bn (n s:Nat) {t:Bool} {x y:Option γ} (B:Le (x.bind e) (cg S c Q (uH s true (iV S c n cf)))) (D:Le (y.bind e) (cg S c Q (uH s false (iV S c n cf))))
 (G:(ig S c n cf.1 cf.2.1 cf.2.2).map (λp=>bf p.2.2.g s)=some (some (.v (.bool t))):=by kernel_rfl):Le ((a_ t x y).bind e) (cg S c Q cf):=by
 obtain⟨p,u,hv⟩:=fI G;have hg:iV S c n cf=p:=by unfold iV;grind
 rw[hg]at B D;refine Ac u ?_;cases t
 .have:uH s false p=p:=by unfold uH;rw[pI hv]
  rw[this]at D;exact D
 .have:uH s true p=p:=by unfold uH;rw[pI hv]
  rw[this]at B;exact B
theorem cG (n s:Nat) {t:Bool} {x y:Option γ} (B:Le (x.bind e) (cg S c Q (uH s false (iV S c n cf)))) (D:Le (y.bind e) (cg S c Q (uH s true (iV S c n cf))))
 (G:(ig S c n cf.1 cf.2.1 cf.2.2).map (λp=>bf p.2.2.g s)=some (some (.v (.bool (!t)))):=by kernel_rfl):Le ((a_ t x y).bind e) (cg S c Q cf):=by
 obtain⟨p,u,hv⟩:=fI G;have hg:iV S c n cf=p:=by unfold iV;grind
 rw[hg]at B D;refine Ac u ?_;cases t
 .have:uH s true p=p:=by unfold uH;rw[show V.bool true=V.bool (!false)from rfl,pI hv]
  rw[this]at D;exact D
 .have:uH s false p=p:=by unfold uH;rw[show V.bool false=V.bool (!true)from rfl,pI hv]
  rw[this]at B;exact B
theorem AS (n k:Nat) (fr:List Nat) (st:δ->St) {m:Option δ} {f:δ->Option γ} (B:Le (m.bind λr=>cg S c Q (jmp k fr (iV S c n cf) (st r))) (cg S c Q cf))
 (h1:∀r,Le ((f r).bind e) (cg S c Q (jmp k fr (iV S c n cf) (st r)))):Le ((m.bind f).bind e) (cg S c Q cf):=Rf _ B h1
theorem bh (n:Nat) {r:δ} {k:δ->Cf} (B:ig S c n cf.1 cf.2.1 cf.2.2=some (k r):=by kernel_rfl):Le ((some r).bind λr=>cg S c Q (k r)) (cg S c Q cf):=Wk  B rfl
theorem aZ {r:γ} {L:Option β} (h:L=e r:=by kernel_rfl):Le ((some r).bind e) L:=Le.of_eq h
theorem xX (n:Nat) {b:RC} {m:Option (Out×Tb bE)} (h:Le m (cg S c vW (.rc b,[],(iV S c n cf).2.2))) (B:ig S c n cf.1 cf.2.1 cf.2.2=some (.nx,[],(iV S c n cf).2.2):=by kernel_rfl):Le m (cg S c (yN S c b) cf):=Un B h
theorem Wu (n:Nat) {o:Option α} (A:Option α->St) {f:α->Option γ} (B:∀x,o=some x->Le ((f x).bind e) (cg S c Q ((iV S c n cf).1,(iV S c n cf).2.1,A (some x))))
 (D:ig S c n cf.1 cf.2.1 cf.2.2=some ((iV S c n cf).1,(iV S c n cf).2.1,A o):=by kernel_rfl):Le ((o.bind f).bind e) (cg S c Q cf):=VS D B
theorem dW.Wo {S:Sys} {T:pK} [bA δ] {f:FuncId} {A:α->List V} {p:α->Option δ} (B:T f=none) (hk:S.E.keep f=false) (D:∀z r,p z=some r->S.wH f (A z)=some (enc r))
 : dW S (dI S T) f A (λr=>[enc r]) p false where
 k:=hk
 h z:=by
  intro y u;obtain⟨r,h1,w⟩:=ζg.1 u;cases w;have h:=E6 B hk (D z r h1);unfold fE;rw[h];exact wL 8 [enc r]
 s h:=by cases h
def KU:K->Option BinOp
 | .p (.bin _ _ o)=>some o
 | _=>none
theorem RL {k:K} {o:BinOp} (h:KU k=some o):∃t u,k=.p (.bin t u o):=by
 cases k with
 | p p=>cases p <;> simp[KU]at h;simp_all
 | _=>simp[KU]at h
def PV:K->Option BinOp
 | .p (.bin (some .slice) _ o)=>some o
 | _=>none
theorem SC {k:K} {o:BinOp} (h:PV k=some o):∃u,k=.p (.bin (some .slice) u o):=by
 unfold PV at h
 grind
def Ut:K->Option (Nat×Nat×List Nat)
 | .a (.buildSl sz ln _ ix)=>some (sz,ln,ix)
 | _=>none
theorem UO {k:K} {r:Nat×Nat×List Nat} (h:Ut k=some r):∃z,k=.a (.buildSl r.1 r.2.1 z r.2.2):=by
 unfold Ut at h
 grind
def Uj:K->Option (List V)
 | .a (.alloc _ zero)=>some zero
 | _=>none
theorem UK {k:K} {z:List V} (h:Uj k=some z):∃n,k=.a (.alloc n z):=by
 unfold Uj at h
 grind
section
variable [bA α]
theorem Vp (k:IntKind) (n:Nat) {s:Sl α} {i:Int} {f:α->Option γ} (h:∀x,idx s i=some x->Le ((f x).bind e) (cg S c Q (nx S c n cf λp=>c7 p.st p.d (cp x))))
 (B:(gT S c n cf).map (λp=>(p.k,bZ S.N p.st.g p.az))=some (.p (.idxS (bA.size α)),some [.v (cn s),.v (.int k i)]):=by kernel_rfl):Le (((idx s i).bind f).bind e) (cg S c Q cf):=by
 obtain⟨p,u,hv⟩:=fI B;simp  at hv;refine sA u ?_ h;rw[hv.1];exact Le.of_eq (QE hv.2 rfl)
theorem bD (n:Nat) {s:Sl α} {i:Int} {f:α->Option γ} (h:∀x,idx s i=some x->Le ((f x).bind e) (cg S c Q (nx S c n cf λp=>c7 p.st p.d (cp x))))
 (B:(gT S c n cf).map (λp=>(p.k,bZ S.N p.st.g p.az))=some (.p (.idxS (bA.size α)),some [.v (cn s),.v (.int .i64 i)]):=by kernel_rfl):Le (((idx s i).bind f).bind e) (cg S c Q cf):=Vp .i64 n h B
theorem tI (k:IntKind) (n u:Nat) {s:Sl α} {i:Int} {f:Nat->Option γ} (h:∀x,s.oC i=some x->Le ((f x).bind e) (cg S c Q (nx S c n cf λp=>c7 p.st p.d (.el u x 0))))
 (B:(gT S c n cf).map (λp=>(p.k,bZ S.N p.st.g p.az,bf p.st.m u))=some (.p (.idxS (bA.size α)),some [.own u,.v (.int k i)],some (cS s)):=by kernel_rfl):Le (((s.oC i).bind f).bind e) (cg S c Q cf):=by
 obtain⟨p,w,hv⟩:=fI B;simp  at hv;refine sA w ?_ h;rw[hv.1];exact Le.of_eq (VM hv.2.1 hv.2.2 rfl)
theorem BU (n u o sz:Nat) (a:Bool) (v:α->V) {s:Sl α} {i:Nat} {f:α->Option γ} (h:∀x,s.get i=some x->Le ((f x).bind e) (cg S c Q (nx S c n cf λp=>c7 p.st p.d (.v (v x)))))
 (B:(gT S c n cf).map (λp=>(p.k,bZ S.N p.st.g p.az,bf p.st.m u,(!p.dr||p.now||fc p.fr [.el u i o])))=some (.r (.load sz a),some [.el u i o],some (cS s),true):=by kernel_rfl) (hv:∀x:α,(cut (cells x) o sz).bind (mk a)=some (v x):=by intro _;rfl):Le (((s.get i).bind f).bind e) (cg S c Q cf):=by
 obtain⟨p,z,w⟩:=fI B;simp only[ζc]at w;refine sA z ?_ h;rw[w.1];exact Le.of_eq (UP w.2.1 w.2.2.2 w.2.2.1 hv)
theorem Hl (n u:Nat) (x:V) {s:Sl α} {i:Nat} {a:α} {f:Sl α->Option γ} (h:∀B,s.put i a=some B->Le ((f B).bind e) (cg S c Q (nx S c n cf λp=>c7 { p.st with m:=bM p.st.m u (cS B) } p.d (.v .undef))))
 (D:(gT S c n cf).map (λp=>(p.k,bZ S.N p.st.g p.az,bf p.st.m u,(!p.dr||p.now),x.cells))=some (.l (.store (bA.size α)),some [.el u i 0,.v x],some (cS s),true,cells a):=by kernel_rfl):Le (((s.put i a).bind f).bind e) (cg S c Q cf):=by
 obtain⟨p,w,hv⟩:=fI D;simp only[ζc]at hv;refine sA w ?_ h;rw[hv.1];exact Le.of_eq (Jw hv.2.1 hv.2.2.2.1 hv.2.2.1 hv.2.2.2.2 rfl)
theorem Qy (n u:Nat) {i:Int} {z:α} {f:Sl α->Option γ} (h:∀B,uJ i z=some B->Le ((f B).bind e) (cg S c Q (nx S c n cf λp=>{ p.st with g:=bM p.st.g u (.own u),m:=bM p.st.m u (cS B) })))
 (D:(gT S c n cf).map (λp=>(p.d,p.k,bZ S.N p.st.g p.az,p.st.new u))=some (some u,.a (.makeSl (bA.size α) (cells z)),some [.v (.int .i64 i),.v (.int .i64 i)],true):=by kernel_rfl):Le (((uJ i z).bind f).bind e) (cg S c Q cf):=by
 obtain⟨p,w,hv⟩:=fI D;simp  at hv;refine sA w ?_ h;rw[hv.1,hv.2.1];exact Le.of_eq (UM hv.2.2.1 rfl rfl hv.2.2.2)
theorem xd (n o w u:Nat) {s:Sl α} {x:α} {f:Sl α->Option γ} (h:∀B,jr s x=some B->Le ((f B).bind e) (cg S c Q (nx S c n cf λp=>{ p.st with g:=bM p.st.g u (.own u),m:=bM (d_ o p.st.m) u (cS B) })))
 (D:(gT S c n cf).map (λp=>(p.d,p.k,bZ S.N p.st.g p.az,(!p.dr||p.now),bf p.st.m o,bf p.st.m w,St.new { p.st with m:=d_ o p.st.m } u))=some (some u,.l (.append (bA.size α)),some [.own o,.own w],true,some (cS s),some (cS (.row [x])),true):=by kernel_rfl):Le (((jr s x).bind f).bind e) (cg S c Q cf):=by
 obtain⟨p,z,hv⟩:=fI D;simp only[ζc]at hv;refine sA z ?_ h;rw[hv.1,hv.2.1];exact Le.of_eq (U5 hv.2.2.1 hv.2.2.2.1 hv.2.2.2.2.1 hv.2.2.2.2.2.1 rfl hv.2.2.2.2.2.2)
theorem QF (n w u:Nat) (v:V) (x:α) {m:Option β} (h:Le m (cg S c Q (nx S c n cf λp=>{ p.st with g:=bM p.st.g u (.own u),m:=bM p.st.m u (cS (.row [x])) }))) (hv:v=.bW\/v=.dA:=by first|exact .inl rfl|exact .inr rfl)
 (B:(gT S c n cf).map (λp=>(p.d,p.k,bZ S.N p.st.g p.az,(!p.dr||p.now),bf p.st.m w,p.st.new u))=some (some u,.l (.append (bA.size α)),some [.v v,.own w],true,some (cS (.row [x])),true):=by kernel_rfl):Le m (cg S c Q cf):=by
 obtain⟨p,A,z⟩:=fI B;simp only[ζc]at z;refine Ad A ?_ h;rw[z.1,z.2.1];exact UX hv z.2.2.1 z.2.2.2.1 z.2.2.2.2.1 rfl z.2.2.2.2.2
theorem cm (n:Nat) (s:Sl α) {m:Option β} (h:Le m (cg S c Q (nx S c n cf λp=>c7 p.st p.d (.v (.int .i64 s.l.length)))))
 (B:(gT S c n cf).map (λp=>(p.k,bZ S.N p.st.g p.az))=some (.p .lenSl,some [.v (cn s)]):=by kernel_rfl):Le m (cg S c Q cf):=by
 obtain⟨p,u,hv⟩:=fI B;simp  at hv;refine Ad u ?_ h;rw[hv.1];exact QS hv.2
theorem Kz (n u:Nat) (s:Sl α) {m:Option β} (h:Le m (cg S c Q (nx S c n cf λp=>c7 p.st p.d (.v (.int .i64 s.l.length)))))
 (B:(gT S c n cf).map (λp=>(p.k,bZ S.N p.st.g p.az,bf p.st.m u))=some (.p .lenSl,some [.own u],some (cS s)):=by kernel_rfl):Le m (cg S c Q cf):=by
 obtain⟨p,w,hv⟩:=fI B;simp  at hv;refine Ad w ?_ h;rw[hv.1];exact UW hv.2.1 hv.2.2
theorem T5 (n:Nat) {s:Sl α} {f:Bool->Option γ} (h:∀t,s.isNil=some t->Le ((f t).bind e) (cg S c Q (nx S c n cf λp=>c7 p.st p.d (.v (.bool t)))))
 (B:(gT S c n cf).map (λp=>(PV p.k,bZ S.N p.st.g p.az))=some (some .eql,some [.v (cn s),.v .bW]):=by kernel_rfl):Le ((s.isNil.bind f).bind e) (cg S c Q cf):=by
 obtain⟨p,w,hv⟩:=fI B;simp  at hv;obtain⟨u,hk⟩:=SC hv.1;refine sA w ?_ h;rw[hk];exact Le.of_eq (R2 hv.2)
theorem HR (n:Nat) (lo hi:Bool) (B:List V) {s:Sl α} {a b:Option Int} {f:Sl α->Option γ} (h:∀x,jQ s a b=some x->Le ((f x).bind e) (cg S c Q (nx S c n cf λp=>c7 p.st p.d (.v (cn x)))))
 (D:(gT S c n cf).map (λp=>(p.k,bZ S.N p.st.g p.az,mq lo hi B))=some (.p (.slice (bA.size α) lo hi),some (.v (cn s)::B.map .v),some (a,b)):=by kernel_rfl):Le (((jQ s a b).bind f).bind e) (cg S c Q cf):=by
 obtain⟨p,u,hv⟩:=fI D;simp  at hv;obtain⟨h1,A⟩:=kj u;obtain⟨dr,fr,d,gd,now,k,az,dd,l,fs,st⟩:=p;obtain⟨rfl,C,G⟩:=hv;exact Wv n dr fr (⟨d,gd,now,.p (.slice (bA.size α) lo hi),az,dd,[]⟩::l) fs st lo hi B  rfl (by grind) λw z=>by
  have:=h w z;simp only[nx,u]at this;omega
theorem VQ (n:Nat) (lo hi:Bool) (u t:Nat) (B:List V) {s:Sl α} {a b:Option Int} {f:Sl α->Option γ} (h:∀x,oE s a b=some x->Le ((f x).bind e) (cg S c Q (nx S c n cf λp=>{ p.st with g:=bM p.st.g t (.own t),m:=bM (d_ u p.st.m) t (cS x) })))
 (D:(gT S c n cf).map (λp=>(p.d,p.k,p.dr,bZ S.N p.st.g p.az,mq lo hi B,bf p.st.m u,St.new { p.st with m:=d_ u p.st.m } t))=some (some t,.p (.slice (bA.size α) lo hi),false,some (.own u::B.map .v),some (a,b),some (cS s),true):=by kernel_rfl):Le (((oE s a b).bind f).bind e) (cg S c Q cf):=by
 obtain⟨p,w,hv⟩:=fI D;simp  at hv;obtain⟨h1,G⟩:=kj w;obtain⟨dr,fr,d,gd,now,k,az,dd,l,fs,st⟩:=p;obtain⟨rfl,rfl,rfl,I,J,L,z⟩:=hv;exact Vf n fr (⟨some t,gd,now,.p (.slice (bA.size α) lo hi),az,dd,[]⟩::l) fs st lo hi u B  rfl z (by grind) λA C=>by
  have:=h A C;simp only[nx,w]at this;omega
theorem bU (n u:Nat) (x:α) {m:Option β} (h:Le m (cg S c Q (nx S c n cf λp=>{ p.st with g:=bM p.st.g u (.ptr u 0),m:=bM p.st.m u (bx x) })))
 (B:(gT S c n cf).map (λp=>(p.d,p.k,bZ S.N p.st.g p.az,p.st.new u))=some (some u,.a .box,some [cv x],true):=by kernel_rfl):Le m (cg S c Q cf):=by
 obtain⟨p,w,hv⟩:=fI B;simp  at hv;refine Ad w ?_ h;rw[hv.1,hv.2.1,CB,hv.2.2.1];simp only[ζb,hv.2.2.2,if_true,pM,lH,qn]
def Qq (u o sz:Nat) (xs:List SV) (p:El):St:=match bf p.st.m u with
 | some (.box cs)=>c7 { p.st with m:=bM p.st.m u (.box (cs.take o++xs++cs.drop (o+sz))) } p.d (.v .undef)
 | _=>p.st
theorem qB (n u o:Nat) (x:α) {m:Option β} (h:Le m (cg S c Q (nx S c n cf (Qq u o (bA.size α) ((cells x).map .v)))))
 (B:(gT S c n cf).map (λp=>(p.k,bZ S.N p.st.g p.az,(!p.dr||p.now),match bf p.st.m u with|some (.box cs)=>Nat.ble (o+bA.size α) cs.length|_=>false))=some (.l (.store (bA.size α)),some [.ptr u o,cv x],true,true):=by kernel_rfl):Le m (cg S c Q cf):=by
 obtain⟨p,A,hv⟩:=fI B;simp only[ζc]at hv;refine Ad A ?_ h;obtain⟨h1,C,D,z⟩:=hv;split at z
 .rename_i cs w;have G:=Nat.le_of_ble_eq_true z;rw[h1,uZ,C];simp only[ζb,D,if_true,mj,w,putCells,lH,gB,qn,G,and_self,Option.map_some,Qq]
 simp_all
theorem WK (n u:Nat) (xs:List α) {m:Option β} (h:Le m (cg S c Q (nx S c n cf λp=>{ p.st with g:=bM p.st.g u (.own u),m:=bM p.st.m u (cS (.row xs)) })))
 (B:(gT S c n cf).map (λp=>(p.d,Ut p.k,bZ S.N p.st.g p.az,p.st.new u))=some (some u,some (bA.size α,xs.length,List.range' 0 xs.length),some ((xs.map enc).map .v),true):=by kernel_rfl):Le m (cg S c Q cf):=by
 obtain⟨p,w,hv⟩:=fI B;simp  at hv;obtain⟨h1,D⟩:=kj w;obtain⟨dr,fr,d,gd,now,k,az,dd,l,fs,st⟩:=p;obtain⟨rfl,A,G,C⟩:=hv;obtain⟨z,rfl⟩:=UO A;exact WN n dr fr (⟨some u,gd,now,.a (.buildSl (bA.size α) xs.length z (List.range' 0 xs.length)),az,dd,[]⟩::l) fs st xs rfl C (by grind) (by
  simp[nx,w]at h;omega)
end
theorem Ua (n:Nat) {k:IntKind} {a b:Int} {f:Int->Option γ} (h:∀x,yS k a b=some x->Le ((f x).bind e) (cg S c Q (nx S c n cf λp=>c7 p.st p.d (.v (.int k x)))))
 (B:(gT S c n cf).map (λp=>(KU p.k,bZ S.N p.st.g p.az))=some (some .quo,some [.v (.int k a),.v (.int k b)]):=by kernel_rfl):Le (((yS k a b).bind f).bind e) (cg S c Q cf):=by
 obtain⟨p,w,hv⟩:=fI B;simp  at hv;obtain⟨t,u,hk⟩:=RL hv.1;refine sA w ?_ h;rw[hk];exact Le.of_eq (VC hv.2)
theorem zT (n:Nat) (k:IntKind) {a:ByteArray} {b:Int} {f:Int->Option γ} (h:∀x,kE a b=some x->Le ((f x).bind e) (cg S c Q (nx S c n cf λp=>c7 p.st p.d (.v (.int .u8 x)))))
 (B:(gT S c n cf).map (λp=>(p.k,bZ S.N p.st.g p.az))=some (.p .idxStr,some [.v (.str a),.v (.int k b)]):=by kernel_rfl):Le (((kE a b).bind f).bind e) (cg S c Q cf):=by
 obtain⟨p,u,hv⟩:=fI B;simp  at hv;refine sA u ?_ h;rw[hv.1];exact Le.of_eq (PS hv.2)
section
variable {A:α->List V} {E:δ->List V} {pl:α->Option δ} {fn:FuncId} {sc:Bool}
theorem yu (n:Nat) (F:dW S c fn A E pl sc) (z:α) {f:δ->Option γ} (h:∀x,pl z=some x->Le ((f x).bind e) (cg S c Q (nx S c n cf λp=>c7 p.st p.d (.v (result (E x))))))
 (B:(gT S c n cf).map (λp=>(p.k,(bZ S.N p.st.g p.az).bind lV,(!p.dr||p.now||gp p.st.m p.fr [])))=some (.c,some (fn,(A z).map .v),true):=by kernel_rfl):Le (((pl z).bind f).bind e) (cg S c Q cf):=by
 obtain⟨p,C,hv⟩:=fI B;simp  at hv;obtain⟨D,G,O⟩:=hv;obtain⟨I,g1,g2⟩:=ζg.1 G;have u:∀d (w:List V),SV.dz d (w.map .v)=false:=λd w=>by
  induction w with
  | nil=>rfl
  | cons a l J=>simp[SV.dz,SV.cM,J]
 have L:(!p.dr||p.now||gp p.st.m p.fr ((A z).map .v))=true:=by
  have:gp p.st.m p.fr ((A z).map .v)=gp p.st.m p.fr []:=by unfold gp;simp[u];rfl
  grind
 refine sA C ?_ h;rw[D];exact GH (F.h z) F.k g1 g2 (Gf _ _ _) L (λr=>by rw[mc];simp)
theorem Up (n:Nat) (F:dW S c fn A E pl true) (z:α) {f:δ->Option γ} (h:∀x,pl z=some x->Le ((f x).bind e) (cg S c Q (nx S c n cf λp=>c7 p.st p.d (.v (result (E x))))))
 (B:(gT S c n cf).map (λp=>(p.k,((bZ S.N p.st.g p.az).bind lV).bind λq=>(nK (iX p.st.m 8) q.2).map λvs=>(q.1,vs,((!p.dr||p.now)||gp p.st.m p.fr q.2))))=some (.c,some (fn,A z,true)):=by kernel_rfl):Le (((pl z).bind f).bind e) (cg S c Q cf):=by
 obtain⟨p,u,hv⟩:=fI B;simp  at hv;obtain⟨w,C⟩:=hv;obtain⟨q,g1,g2⟩:=ζg.1 C;obtain⟨D,g3,g4⟩:=ζg.1 g1;obtain⟨vs,g5,g6⟩:=ζf.1 g2;simp only[ζc]at g6;obtain⟨e1,rfl,e3⟩:=g6;refine sA u ?_ h;rw[w];exact GH (F.h z) F.k g3 (by grind) g5 e3 (λr=>by rw[F.s rfl];rfl)
end
section
variable {N:Nat} [bA α]
theorem Ll (n:Nat) (k:IntKind) {a:cI N α} {i:Int} {f:α->Option γ} (h:∀x,a.at i=some x->Le ((f x).bind e) (cg S c Q (nx S c n cf λp=>c7 p.st p.d (.v (.fptr (pa a i))))))
 (B:(gT S c n cf).map (λp=>(p.k,bZ S.N p.st.g p.az))=some (.p (.idxA N (bA.size α)),some [cp a,.v (.int k i)]):=by kernel_rfl):Le (((a.at i).bind f).bind e) (cg S c Q cf):=by
 obtain⟨p,u,hv⟩:=fI B;simp  at hv;obtain⟨h1,z⟩:=kj u;obtain⟨dr,fr,d,gd,now,A,az,dd,l,fs,st⟩:=p;obtain⟨rfl,C⟩:=hv;exact VU n dr fr (⟨d,gd,now,.p (.idxA N (bA.size α)),az,dd,[]⟩::l) fs st k   rfl (by grind) λx w=>by
  have:=h x w;simp only[nx,u]at this;omega
theorem N8 (n k:Nat) (a:cI N α) (i:Int) (o:Nat) (x:α) (B:a.at i=some x) {m:Option β} (h:Le m (cg S c Q (nx S c n cf λp=>c7 p.st p.d (.v (.fptr ((pa a i).drop (o+k)))))))
 (D:(gT S c n cf).map (λp=>(p.k,bZ S.N p.st.g p.az,Nat.ble (o+k) (bA.size α)))=some (.p (.fieldAddr k),some [.v (.fptr ((pa a i).drop o))],true):=by kernel_rfl):Le m (cg S c Q cf):=by
 obtain⟨p,u,hv⟩:=fI D;simp  at hv;obtain⟨h1,w⟩:=kj u;obtain⟨dr,fr,d,gd,now,z,az,dd,l,fs,st⟩:=p;obtain⟨rfl,A,C⟩:=hv;exact Wz n dr fr (⟨d,gd,now,.p (.fieldAddr k),az,dd,[]⟩::l) fs st a i o x B rfl (by grind) (by
  simp only[nx,u]at h;omega)
theorem KW (n sz:Nat) (ag:Bool) (a:cI N α) (i:Int) (o:Nat) (x:α) (B:a.at i=some x) (v:V) (hv:(cut (cells x) o sz).bind (mk ag)=some v) {m:Option β} (h:Le m (cg S c Q (nx S c n cf λp=>c7 p.st p.d (.v v))))
 (D:(gT S c n cf).map (λp=>(p.k,bZ S.N p.st.g p.az))=some (.r (.load sz ag),some [.v (.fptr ((pa a i).drop o))]):=by kernel_rfl):Le m (cg S c Q cf):=by
 obtain⟨p,w,u⟩:=fI D;simp  at u;obtain⟨h1,z⟩:=kj w;obtain⟨dr,fr,d,gd,now,A,az,dd,l,fs,st⟩:=p;obtain⟨rfl,C⟩:=u;exact VW n dr fr (⟨d,gd,now,.r (.load sz ag),az,dd,[]⟩::l) fs st a i o x B hv v rfl (by grind) (by
  simp only[nx,w]at h;omega)
theorem UG (n u:Nat) (st:St) (cs:List SV) {m:Option β} (B:st.new u=true) (h:Le m (cg S c Q (nx S c n cf λ_=>{ st with g:=bM st.g u (.ptr u 0),m:=bM st.m u (.box cs) })))
 (D:(gT S c n cf).map (λp=>(p.d,(Uj p.k).map (λz=>z.map SV.v),bZ S.N p.st.g p.az,p.st))=some (some u,some cs,some [],st):=by kernel_rfl):Le m (cg S c Q cf):=by
 obtain⟨p,A,hv⟩:=fI D;simp only[ζc]at hv;obtain⟨z,C,w⟩:=fI hv.2.1;obtain⟨k,hk⟩:=UK C;refine Ad A ?_ h;rw[hv.1,hk,CB,hv.2.2.1,hv.2.2.2];simp[B,pM,w]
theorem FJ (n:Nat) (k:IntKind) (u:Nat) {a:cI N α} {i:Int} {f:α->Option γ} (h:∀x,a.at i=some x->Le ((f x).bind e) (cg S c Q (nx S c n cf λp=>c7 p.st p.d (.ptr u (i.toNat*bA.size α+0)))))
 (B:(gT S c n cf).map (λp=>(p.k,bZ S.N p.st.g p.az,bf p.st.m u))=some (.p (.idxA N (bA.size α)),some [.ptr u 0,.v (.int k i)],some (bx a)):=by kernel_rfl):Le (((a.at i).bind f).bind e) (cg S c Q cf):=by
 obtain⟨p,w,hv⟩:=fI B;simp  at hv;obtain⟨h1,A⟩:=kj w;obtain⟨dr,fr,d,gd,now,C,az,dd,l,fs,st⟩:=p;obtain⟨rfl,D,G⟩:=hv;exact VL n dr fr (⟨d,gd,now,.p (.idxA N (bA.size α)),az,dd,[]⟩::l) fs st k u   rfl (by grind) λx z=>by
  have:=h x z;simp only[nx,w]at this;omega
theorem QJ (n sz:Nat) (ag:Bool) (u:Nat) (a:cI N α) (i:Int) (o:Nat) (x:α) (B:a.at i=some x) (v:V) (hv:(cut (cells x) o sz).bind (mk ag)=some v) {m:Option β} (h:Le m (cg S c Q (nx S c n cf λp=>c7 p.st p.d (.v v))))
 (D:(gT S c n cf).map (λp=>(p.k,bZ S.N p.st.g p.az,bf p.st.m u,(!p.dr||p.now||fc p.fr [.ptr u 0])))=some (.r (.load sz ag),some [.ptr u (i.toNat*bA.size α+o)],some (bx a),true):=by kernel_rfl):Le m (cg S c Q cf):=by
 obtain⟨p,z,w⟩:=fI D;simp  at w;obtain⟨h1,A⟩:=kj z;obtain⟨dr,fr,d,gd,now,C,az,dd,l,fs,st⟩:=p;obtain⟨rfl,G,I,J⟩:=w;exact Ve n dr fr (⟨d,gd,now,.r (.load sz ag),az,dd,[]⟩::l) fs st u a i o x B hv v rfl (by grind) (by
  simp only[nx,z]at h;omega)
end
section
variable {κ ν:Type} [bA κ] [DecidableEq κ] [Key κ] [bA ν]
theorem Vx (n u:Nat) (mp:Mo κ ν) (k:κ) (z:ν) {m:Option β} (h:Le m (cg S c Q (nx S c n cf λp=>c7 p.st p.d (cv (DE mp k z)))))
 (B:(gT S c n cf).map (λp=>(p.k,bZ S.N p.st.g p.az,bf p.st.m u,(!p.dr||p.now||fc p.fr [.mp u,cv k])))=some (.r (.lookup (Key.kk κ) (enc z) false),some [.mp u,cv k],some (vJ mp),true):=by kernel_rfl):Le m (cg S c Q cf):=by
 obtain⟨p,w,hv⟩:=fI B;simp  at hv;obtain⟨h1,A⟩:=kj w;obtain⟨dr,fr,d,gd,now,C,az,dd,l,fs,st⟩:=p;obtain⟨rfl,D,G,I⟩:=hv;exact U7 n dr fr (⟨d,gd,now,.r (.lookup (Key.kk κ) (enc z) false),az,dd,[]⟩::l) fs st u mp k z rfl (by grind) (by
  simp only[nx,w]at h;omega)
theorem Wi (n u:Nat) (mp:Mo κ ν) (k:κ) (v:ν) {m:Option β} (h:Le m (cg S c Q (nx S c n cf λp=>c7 { p.st with m:=bM p.st.m u (vJ (rD mp k v)) } p.d (.v .undef))))
 (B:(gT S c n cf).map (λp=>(p.k,bZ S.N p.st.g p.az,bf p.st.m u,(!p.dr||p.now)))=some (.l (.mapUp (Key.kk κ)),some [.mp u,cv k,cv v],some (vJ mp),true):=by kernel_rfl):Le m (cg S c Q cf):=by
 obtain⟨p,z,w⟩:=fI B;simp  at w;obtain⟨h1,A⟩:=kj z;obtain⟨dr,fr,d,gd,now,C,az,dd,l,fs,st⟩:=p;obtain⟨rfl,D,G,I⟩:=w;exact Wr n dr fr (⟨d,gd,now,.l (.mapUp (Key.kk κ)),az,dd,[]⟩::l) fs st u mp k v rfl (by grind) (by
  simp[nx,z]at h;omega)
end
theorem Vk (n:Nat) (st:St) {rs:List RV} {e:γ->Option (List V)} {r:γ} (svs:List SV) {ys:List V} (B:nK (iX st.m 8) svs=some ys) (D:e r=some ys)
 (h:(ig S c n cf.1 cf.2.1 cf.2.2).map (λq=>(q.1,q.2.2,j7 q.2.2 rs))=some (.rt,st,some svs):=by kernel_rfl):Le ((some r).bind e) (cg S c (k7 rs) cf):=by
 obtain⟨⟨fo,fs,st'⟩,u,hv⟩:=fI h;simp  at hv;obtain⟨rfl,rfl,w⟩:=hv;exact VB n svs B (by rw[u,w]) D
end
end Go.VE
namespace Go.VE
variable [bS]
section
variable {S:Sys} {c:bX} {β γ δ α:Type} [bA α] {Q:Out×St->Option β} {e:γ->Option β} {cf:Cf}
def yR (s x:Sl α):Option (Sl α):=if x.l=[]then some s else if s.l.length+x.l.length<=2147483648 then some (.row (s.l++x.l))else none
theorem RE (m:Tb bE) (n w:Nat) (x:Sl α) (B:n=bA.size α) (D:bf m w=some (cS x)):kf m n (.own w)=some (rows x.l):=by
 rw[Dz,D,AV n x B]
theorem Ih (l:List α):rows l=[]↔l=[]:=by unfold rows;simp
theorem PM (a b:List α):rows a++rows b=rows (a++b):=by unfold rows;simp
theorem Gc (a:List α):(rows a).length=a.length:=by unfold rows;simp
theorem UL {st:St} {dr now:Bool} {fr:List Nat} {az:List Arg} {d n o:Nat} {s x:Sl α} {B:SV} (U:bZ S.N st.g az=some [.own o,B]) (hd:(!dr||now)=true) (D:bf st.m o=some (cS s)) (W:kf st.m n B=some (rows x.l)) (G:n=bA.size α) (J:St.new { st with m:=d_ o st.m } d=true) :
 fL S c dr fr ⟨some d,none,now,.l (.append n),az,[],[]⟩ st=(yR s x).bind λY=>some { st with g:=bM st.g d (.own d),m:=bM (d_ o st.m) d (cS Y) }:=by
 rw[uZ,U];simp only[ζb,hd,if_true,zy,RE st.m n o s G D,W];unfold yR
 by_cases h:x.l=[]
 .rw[if_pos h,(Ih x.l).2 h];simp only[yW,D,if_pos J,ζb];rfl
 .rw[if_neg h];have hr:rows x.l≠[]:=λe=>h ((Ih _).1 e)
  have w:yW st d n (.own o) (some (rows s.l)) (some (rows x.l))=if(rows s.l).length+(rows x.l).length<=2147483648/\Ik (.own o)=true then(if St.new { st with m:=giveUp st.m (.own o) } d then some (.own d,{ st with m:=bM (giveUp st.m (.own o)) d (.sl .row n (rows s.l++rows x.l)) })else none)else none:=by
   unfold yW;generalize rows x.l=r at *
   cases r with
   | nil=>exact absurd rfl hr
   | cons y r=>rfl
  rw[w,Gc,Gc,PM]
  by_cases u:s.l.length+x.l.length<=2147483648
  .rw[if_pos ⟨u,rfl⟩,if_pos (show St.new { st with m:=giveUp st.m (.own o) } d=true from J),if_pos u];rw[ζb,ζb,G];rfl
  .rw[if_neg (λk=>u k.1),if_neg u];rfl
theorem Vq (n o u:Nat) (D:SV) {s x:Sl α} {f:Sl α->Option γ} (G:∀p,gT S c n cf=some p->kf p.st.m (bA.size α) D=some (rows x.l))
 (h:∀B,yR s x=some B->Le ((f B).bind e) (cg S c Q (nx S c n cf λp=>{ p.st with g:=bM p.st.g u (.own u),m:=bM (d_ o p.st.m) u (cS B) })))
 (J:(gT S c n cf).map (λp=>(p.d,p.k,bZ S.N p.st.g p.az,(!p.dr||p.now),bf p.st.m o,St.new { p.st with m:=d_ o p.st.m } u))=some (some u,.l (.append (bA.size α)),some [.own o,D],true,some (cS s),true):=by kernel_rfl):Le (((yR s x).bind f).bind e) (cg S c Q cf):=by
 obtain⟨p,w,hv⟩:=fI J;simp only[ζc]at hv;refine sA w ?_ h;rw[hv.1,hv.2.1];exact Le.of_eq (UL hv.2.2.1 hv.2.2.2.1 hv.2.2.2.2.1 (G p w) rfl hv.2.2.2.2.2)
theorem KA (m:Tb bE) (x:Sl α):kf m (bA.size α) (.v (cn x))=some (rows x.l):=by
 cases x <;> simp[cn,Sl.k,Sl.l,nX,kf,rows]
theorem My (n o u:Nat) {s x:Sl α} {f:Sl α->Option γ}
 (h:∀B,yR s x=some B->Le ((f B).bind e) (cg S c Q (nx S c n cf λp=>{ p.st with g:=bM p.st.g u (.own u),m:=bM (d_ o p.st.m) u (cS B) })))
 (D:(gT S c n cf).map (λp=>(p.d,p.k,bZ S.N p.st.g p.az,(!p.dr||p.now),bf p.st.m o,St.new { p.st with m:=d_ o p.st.m } u))=some (some u,.l (.append (bA.size α)),some [.own o,.v (cn x)],true,some (cS s),true):=by kernel_rfl):Le (((yR s x).bind f).bind e) (cg S c Q cf):=
 Vq n o u _ (λp _=>KA p.st.m x) h D
end
end Go.VE
namespace Go.VE
variable [bS]
theorem zb {α:Type} {l:List α} {i:Nat} {x:α} (h:l[i]? = some x):l.set i x=l:=by
 obtain⟨hi,rfl⟩:=ζe.1 h;exact List.set_getElem_self hi
open Classical in
def zc (x:List V):V:=x.headD .undef
section
variable {H:bg} {Z:Nat->Prop}
theorem dm.Sd {k:Nat} {xs ys:List V} (h:dm H Z xs ys) (B:V.lg k xs=true):borrows k H ys=some xs:=ki h.1 λj u v hu hv=>(h.2 j u v hu hv).borrow k (mQ.1 B j u hu)
theorem dm.borrows {xs ys:List V} (h:dm H Z xs ys):∃n,∀k,n<=k->borrows k H ys=some xs:=by
 obtain⟨n,u⟩:=nQ xs;exact⟨n,λk hk=>h.Sd (ql hk u)⟩
end
end Go.VE
namespace Go.VE
variable [bS]
def bB (N:Nat->FuncId) (F:Frame):Arg->V
 | .s n=>get F n
 | .k c=>c
 | .f s=>.clo (N s) [] []
def bO (E:Env) (N:Nat->FuncId) (call:dn) (b:Option Nat) (now:Bool) (k:K) (vs:List V) (H:bg):Option (V×bg):=
 match k,b with
 | .p p,_=>(bp N p vs).map λv=>(v,H)
 | .r r,none=>(eT H r vs).map λv=>(v,H)
 | .r r,some b=>(eT (H.take b) r vs).map λv=>(v,H)
 | .a a,none=>(iW a vs).map λx=>(x.2.val H.length,H++[x.1])
 | .l l,none=>fQ H l vs
 | .l (.store n),some _=>if now then fQ H (.store n) vs else none
 | .c,none=>match vs with
  | .clo g a c::u=>if E.keep g then fA E call g (a++u++c) H else match cz call g (a++u++c) H with
   | some y=>if y.scalar then some (y,H)else none
   | none=>none
  | _=>none
 | .c,some b=>match vs with
  | .clo g a c::u=>if E.keep g then none else match cz call g (a++u++c) (H.take b)with
   | some y=>if y.scalar then some (y,H)else none
   | none=>none
  | _=>none
 | _,_=>none
def bu (F:Frame):Option Nat->V->Frame
 | none,_=>F
 | some d,v=>set F d v
def cZ (E:Env) (N:Nat->FuncId) (call:dn) (b:Option Nat):List RO->Frame->bg->Option (Frame×bg)
 | [],F,H=>some (F,H)
 | o::r,F,H=>match o.gd with
  | none=>match bO E N call b o.now o.k (o.az.map (bB N F)) H with
   | some (v,H')=>cZ E N call b r (bu F o.dst v) H'
   | none=>none
  | some _=>none
section
variable {X:CX} {N:Nat->FuncId} {call:dn} {F F':Frame} {H H':bg}
theorem JX (B:∀f s,X.nm f=some s->N s=f) {o:Operand} {x:Arg} (h:pL X.nm o=some x):ev F o=some (bB N F x):=by
 cases o with
 | tmp t=>simp[pL]at h;subst h;rfl
 | const w=>
  simp[pL]at h;split at h
  .rename_i c hc;split at h
   .simp  at h;subst h;exact hc
   grind
  grind
 | func f=>
  obtain⟨s,u,rfl⟩:=ζf.1 h;show some (V.clo f [] [])=some (.clo (N s) [] [])
  grind
 | global i=>
  simp[pL]at h;split at h
  .rename_i c hc;split at h
   .simp  at h;subst h;simp[ev,hc];rfl
   grind
  grind
theorem yj (G:∀f s,X.nm f=some s->N s=f):∀{os:List Operand} {B:List Arg},os.mapM (pL X.nm)=some B->eZ F os=some (B.map (bB N F))
 | [],B,h=>by simp  at h;subst h;rfl
 | o::os,B,h=>by
  simp[ζg]at h;obtain⟨x,J,xs,D,rfl⟩:=h;simp[eZ,JX G J,yj G D]
theorem Aw (D:∀f s,X.nm f=some s->N s=f) {B:Bool} {ops:List Oper} {i:Nat} {o:Oper} {ro:RO} (h:nk X B ops i o=some ro) (hg:ro.gd=none) :
 o.dst=ro.dst/\yU X.nt o.dst=true/\fR ops F o=true/\((CE X.E N F o.op (ro.az.map (bB N F)) ro.k/\ro.now=(B&&dD ops i)/\(B=true->dD ops i=false->∀a',pz ops i a'=[]\/∀t,o.op≠.load t (.tmp a')))\/(∃n,ro.k=.l (.storeF n))\/(∃n a,ro.k=.r (.loadF n a))\/(B=true/\xB ops i=true/\c6 o.op=.alloc/\(∃p,ro.k=.p p/\(p=.emptyC\/∃a b,p=.makeC a b)/\∀y,bp N p (ro.az.map (bB N F))=some y->qU X.E F o.op=some y))\/∃n,ro.k=.e n):=by
 unfold nk at h;split at h
 .rename_i hd;split at h
  .rename_i gd k os u hr;split at h
   .split at h
    .rename_i w;simp only[ζh]at w;have T:∀{gd:Option (Nat×Bool)},BQ ops o=some gd->gd=none->fR ops F o=true:=λ{gd} u hg=>by
      subst hg;unfold fR;unfold BQ at u
      cases A:o.guard with
      | none=>rfl
      | some I=>
       rw[A]at u;obtain⟨j,b⟩:=I;obtain⟨d,_,e⟩:=ζf.1 u;cases e
     split at h
     .rename_i J;obtain⟨U,C,rfl⟩:=ζf.1 h;have z:=kz D hr (yj (F:=F) D C);exact⟨rfl,hd,T u hg,.inr (.inr (.inr (.inl ⟨w.1,w.2,z.1,_,rfl,.inr ⟨_,_,rfl⟩,λy L=>CW ⟨_,_,_,by assumption⟩ z L⟩)))⟩
     .rename_i J;split at h
      .rename_i O;obtain⟨Q,rfl,rfl⟩:=O;obtain⟨U,C,rfl⟩:=ζf.1 h;have z:=kz D hr (yj (F:=F) D C);exact⟨rfl,hd,T u hg,.inr (.inr (.inr (.inl ⟨w.1,w.2,z.1,_,rfl,.inl rfl,λy L=>CP ⟨_,_,_,by assumption⟩ z Q L⟩)))⟩
      .cases h
     .cases h
    obtain⟨U,C,rfl⟩:=ζf.1 h;simp only at hg;subst hg;refine⟨rfl,hd,?_,?_⟩
    .unfold fR;unfold BQ at u
     cases A:o.guard with
     | none=>rfl
     | some I=>
      rw[A]at u;obtain⟨j,b⟩:=I;obtain⟨d,_,e⟩:=ζf.1 u;cases e
    .rcases Cs B ops i k os with⟨e,S⟩|⟨_,_,n,a,l,W,_,_,_,e⟩|⟨_,_,n,ag,a,_,_,e⟩|⟨_,_,_,n,_,e⟩
     .rw[e]at C ⊢;refine .inl ⟨kz D hr (yj D C),rfl,λhd Y a'=>?_⟩
      by_cases G:∃t,o.op=.load t (.tmp a')
      .obtain⟨t,G⟩:=G;rw[G]at hr;simp only[resolve]at hr;obtain⟨d,_,e⟩:=ζf.1 hr;simp only[ζc]at e;exact .inl (S _ _ a' hd Y e.1.symm e.2.symm)
      .exact .inr λt h=>G ⟨t,h⟩
     .rw[e];exact .inr (.inl ⟨n,rfl⟩)
     .rw[e];exact .inr (.inr (.inl ⟨n,ag,rfl⟩))
     .rw[e];exact .inr (.inr (.inr (.inr ⟨n,rfl⟩)))
   .simp at h
  .simp at h
 .simp at h
theorem HH {nt:Nat} {dst:Option Nat} (h:yU nt dst=true) (v:V):jK nt F dst v=some (bu F dst v):=by
 cases dst with
 | none=>rfl
 | some d=>simp[yU]at h;simp[jK,if_pos h,bu]
theorem T8 (G:∀f s,X.nm f=some s->N s=f) {ops:List Oper} {i:Nat} {o:Oper} {ro:RO} (h:nk X false ops i o=some ro) (hg:ro.gd=none) {v:V} (hv:bO X.E N call none ro.now ro.k (ro.az.map (bB N F)) H=some (v,H')) :
 gw X.E call X.nt ops none o F H=some (bu F ro.dst v,H'):=by
 obtain⟨h1,I,J,u⟩:=Aw (F:=F) G h hg;have hd:dg X.E call ops none F H o.op=some (v,H'):=by
  rcases u with⟨u,_⟩|⟨n,u⟩|⟨n,a,u⟩|⟨u,_⟩|⟨n,u⟩
  .generalize hk:ro.k=k at hv u;generalize ro.az.map (bB N F)=T at hv u;unfold dg
   cases k with
   | p p=>
    obtain⟨c,e⟩:=u;obtain⟨w,A,B⟩:=ζf.1 hv;rw[c];simp only[yB (e w A),Option.map_some];rw[B]
   | r r=>
    obtain⟨c,e⟩:=u;obtain⟨w,A,B⟩:=ζf.1 hv;rw[c];simp only[e H w A,Option.map_some];rw[B]
   | a a=>
    obtain⟨c,e⟩:=u;obtain⟨⟨ob,m⟩,A,B⟩:=ζf.1 hv;rw[c];simp only[qS,Bool.false_eq_true,if_false,e _ A];exact congrArg some B
   | l l=>
    obtain⟨c,e⟩:=u;rw[c];exact e H _ hv
   | e n=>exact u.elim
   | b=>simp[bO]at hv
   | c=>
    obtain⟨c,f,L,rfl,e⟩:=u;rw[c];simp only[bO]at hv;split at hv
    .rename_i g a b O C;simp only[List.cons.injEq]at C;obtain⟨rfl,rfl⟩:=C;split at hv
     .rename_i z;simp only[e,kI,z,Bool.and_self,if_true];exact hv
     .rename_i z;split at hv
      .rename_i y Q;split at hv
       .rename_i D;simp only[e,kI,z,Bool.false_and,Bool.false_eq_true,if_false,Q,D,if_true];exact hv
       .simp at hv
      .simp at hv
    .simp at hv
  .rw[u]at hv;exfalso;have:∀ops i k os,(w8 false ops i k os).1=k:=λ_ _ _ _=>rfl
   unfold nk at h;simp only[Bool.false_and,Bool.false_eq_true,if_false]at h;split at h
   .split at h
    .rename_i gd k os S hr;split at h
     .obtain⟨L,U,rfl⟩:=ζf.1 h;simp only[this]at u;subst u;unfold resolve at hr
      (repeat' split at hr) <;> first|(simp at hr;done)|(obtain⟨_,_,e⟩:=ζf.1 hr;simp at e;done)
     .simp at h
    .simp at h
   .first|(simp at h;done)|contradiction
  .rw[u]at hv;simp[bO,eT]at hv
  .cases u
  .rw[u]at hv;simp[bO]at hv
 unfold gw;rw[J,if_pos rfl,hd];simp only[h1,HH (h1▸I),Option.map_some]
theorem GU (D:∀f s,X.nm f=some s->N s=f) {ops:List Oper}:∀(rest:List Oper) {i:Nat} {B:List RO} {F:Frame} {H:bg},kR X false ops i rest=some B->cZ X.E N call none B F H=some (F',H')->lZ X.E call X.nt ops rest F H=some (F',H')
 | [],i,B,F,H,hc,h=>by
  simp[kR]at hc;subst hc;exact h
 | o::rest,i,B,F,H,hc,h=>by
  simp[kR]at hc;split at hc
  .rename_i ro rs h1 G;simp  at hc;subst hc;simp[cZ]at h;split at h
   .rename_i hg;split at h
    .rename_i v H1 hv;simp[lZ,T8 D h1 hg hv];exact GU D rest G h
    grind
   grind
  grind
theorem Rt {ops:List Oper} {i:Nat} {op:Op} (h:∀t a',op=.load t (.tmp a')->pz ops i a'=[]):nH ops i F op=true:=by
 unfold nH
 grind
theorem T6 (W:∀f s,X.nm f=some s->N s=f) {ops:List Oper} {b i:Nat} {o:Oper} (Y:ops[i]? = some o) {ro:RO} (h:nk X true ops i o=some ro) (hg:ro.gd=none) {v:V} (hv:bO X.E N call (some b) ro.now ro.k (ro.az.map (bB N F)) H=some (v,H')) :
 gw X.E call X.nt ops (some (b,i)) o F H=some (bu F ro.dst v,H'):=by
 obtain⟨h1,Z,h3,u⟩:=Aw (F:=F) W h hg;have hd:dg X.E call ops (some (b,i)) F H o.op=some (v,H'):=by
  rcases u with⟨u,z,A⟩|⟨n,u⟩|⟨n,a,u⟩|⟨_,G,I,p,u,_,J⟩|⟨n,u⟩
  .generalize hk:ro.k=k at hv u;generalize ro.az.map (bB N F)=vs at hv u;unfold dg
   cases k with
   | p p=>
    obtain⟨c,e⟩:=u;obtain⟨w,B,C⟩:=ζf.1 hv;rw[c];simp only[yB (e w B),Option.map_some];rw[C]
   | r r=>
    obtain⟨c,e⟩:=u;obtain⟨w,B,C⟩:=ζf.1 hv;have L:nH ops i F o.op=true:=Rt λt a' e=>by
     by_cases T:dD ops i=true
     .exact Dp Y e T
     .rcases A rfl (by simpa using T) a' with h|h
      .exact h
      .exact absurd e (h t)
    rw[c];simp only[e _ w B,L,if_true];rw[C]
   | a a=>simp[bO]at hv
   | l l=>
    obtain⟨c,e⟩:=u
    cases l with
    | store n=>
     simp only[bO]at hv;split at hv
     .rename_i U;rw[z,Bool.true_and]at U;rw[c];simp only[U,Bool.true_or,if_true];exact e H _ hv
     .simp at hv
    | _=>simp[bO]at hv
   | e n=>exact u.elim
   | b=>simp[bO]at hv
   | c=>
    obtain⟨c,f,av,rfl,e⟩:=u;rw[c];simp only[bO]at hv;split at hv
    .rename_i g a b aa D;simp only[List.cons.injEq]at D;obtain⟨rfl,rfl⟩:=D;split at hv
     .simp at hv
     .rename_i O;split at hv
      .rename_i y hy;split at hv
       .rename_i Q;simp only[e,kI,O,Bool.false_and,Bool.false_eq_true,if_false,hy,Q,if_true];exact hv
       .simp at hv
      .simp at hv
    .simp at hv
  .rw[u]at hv;simp[bO]at hv
  .rw[u]at hv;simp[bO,eT]at hv
  .rw[u]at hv;obtain⟨w,B,C⟩:=ζf.1 hv;have S:=J w B;unfold dg;rw[I];simp only[qS,G,if_true,S,Option.map_some];exact congrArg some C
  .rw[u]at hv;simp[bO]at hv
 unfold gw;rw[h3,if_pos rfl,hd];simp only[h1,HH (h1▸Z),Option.map_some]
theorem Gm (D:∀f s,X.nm f=some s->N s=f) {ops:List Oper} {b:Nat}:∀(rest:List Oper) {i:Nat} {B:List RO} {F:Frame} {H:bg},ops.drop i=rest->kR X true ops i rest=some B->cZ X.E N call (some b) B F H=some (F',H') ->
 jF X.E call X.nt ops b (List.range' i rest.length) F H=some (F',H')
 | [],i,B,F,H,_,hc,h=>by
  simp[kR]at hc;subst hc;exact h
 | o::rest,i,B,F,H,hd,hc,h=>by
  simp[kR]at hc;split at hc
  .rename_i ro rs h1 J;simp  at hc;subst hc;simp[cZ]at h;split at h
   .rename_i hg;split at h
    .rename_i v H1 hv;have G:ops[i]? = some o:=by
      have:(ops.drop i)[0]? = some o:=by grind
      grind
     have u:ops.drop (i+1)=rest:=by
      rw[<-List.drop_drop,hd];rfl
     simp[List.range'_succ,jF,G,T6 D G h1 hg hv];exact Gm D rest u J h
    grind
   grind
  grind
def xD (l:List RO):Bool:=l.all λo=>(match o.k with|.a _|.l (.storeF _)|.r (.loadF ..)|.p (.makeC ..)|.p .emptyC|.e _=>false|_=>true)&&o.gd.isNone
theorem Dg (J:∀f s,X.nm f=some s->N s=f) {ops:List Oper}:∀(rest:List Oper) {i:Nat} {G:List RO},kR X true ops i rest=some G->xD G=true->rest.any (λo=>c6 o.op==.alloc)=false
 | [],_,_,_,_=>rfl
 | o::rest,i,G,hc,D=>by
  simp only[kR]at hc;split at hc
  .rename_i ro rs h1 U;simp only[ζa]at hc;subst hc;simp only[xD,List.all_cons,ζh,Option.isNone_iff_eq_none]at D;obtain⟨_,_,_,B⟩:=Aw (F:=[]) J h1 D.1.2;rw[List.any_cons,Dg J rest U D.2,Bool.or_false];rcases B with⟨B,_⟩|⟨n,B⟩|⟨n,a,B⟩|⟨_,_,_,p,B,u,_⟩|⟨n,B⟩
   .cases hk:ro.k with
    | a p=>have:=D.1.1;rw[hk]at this;cases this
    | e p=>have:=D.1.1;rw[hk]at this;cases this
    | _=>rw[hk]at B;rw[B.1];rfl
   .have:=D.1.1;rw[B]at this;cases this
   .have:=D.1.1;rw[B]at this;cases this
   .have:=D.1.1;rw[B]at this;rcases u with rfl|⟨_,_,rfl⟩ <;> cases this
   .have:=D.1.1;rw[B]at this;cases this
  .simp at hc
def gY (E:Env) (N:Nat->FuncId) (call:dn) (lf:Nat):RC->Frame->bg->Option (Out×Frame×bg)
 | .skip,F,H=>some (.norm,F,H)
 | .ops l,F,H=>(cZ E N call none l F H).map λx=>(.norm,x.1,x.2)
 | .pq l,F,H=>if xD l then(cZ E N call (some H.length) l F H).map λx=>(.norm,x.1,x.2)else none
 | .seq a b,F,H=>match gY E N call lf a F H with
  | some (.norm,F',H')=>gY E N call lf b F' H'
  | r=>r
 | .cond x a b,F,H=>match bB N F x with
  | .bool t=>if t then gY E N call lf a F H else gY E N call lf b F H
  | _=>none
 | .block id c,F,H=>match gY E N call lf c F H with
  | some (.exit B,F',H')=>if B=id then some (.norm,F',H')else some (.exit B,F',H')
  | r=>r
 | .loop c,F,H=>kA (gY E N call lf c) lf F H
 | .exit id,F,H=>some (.exit id,F,H)
 | .ret,F,H=>some (.ret,F,H)
 | _,_,_=>none
theorem Ig {f g:Frame->bg->Option (Out×Frame×bg)} (h:∀F H r,f F H=some r->g F H=some r):∀(k:Nat) (F:Frame) (H:bg) (r:Out×Frame×bg),kA f k F H=some r->kA g k F H=some r
 | 0,F,H,r,hr=>by simp[kA]at hr
 | k+1,F,H,r,hr=>by
  simp only[kA]at hr ⊢
  cases B:f F H with
  | none=>rw[B]at hr;simp at hr
  | some q=>
   rw[B]at hr;rw[h F H q B];obtain⟨o,F1,H1⟩:=q
   cases o with
   | norm=>exact Ig h k F1 H1 r hr
   | exit _=>exact hr
   | ret=>exact hr
theorem O8 (D:∀f s,X.nm f=some s->N s=f) {lf:Nat}:∀(rc:RC) (code:Code) (F:Frame) (H:bg) (r:Out×Frame×bg),bL X false code=some rc->gY X.E N call lf rc F H=some r->exec X.E call lf false X.nt code F H=some r:=by
 intro rc
 induction rc with
 | skip=>
  intro code F H r hc h;simp only[gY,ζa]at h;subst h
  cases code with
  | skip=>rfl
  | label _=>rfl
  | region id ops u=>simp only[bL]at hc;(repeat' split at hc) <;> first|(simp at hc;done)|(obtain⟨_,_,e⟩:=ζf.1 hc;cases e)
  | _=>simp only[bL]at hc;(repeat' split at hc) <;> first|(simp at hc;done)|(obtain⟨_,_,e⟩:=ζf.1 hc;cases e)|cases hc
 | ops l=>
  intro code F H r hc h
  cases code with
  | region id ops u=>
   simp only[bL]at hc;split at hc
   .split at hc
    .obtain⟨_,_,e⟩:=ζf.1 hc;cases e
    .simp at hc
   .rename_i hd;obtain⟨S,C,e⟩:=ζf.1 hc;cases e;simp only[gY]at h;obtain⟨⟨F',H'⟩,hv,rfl⟩:=ζf.1 h;simp only[exec,jx,hd];rw[if_neg (by simp),GU D _ C hv];rfl
  | _=>simp only[bL]at hc;(repeat' split at hc) <;> first|(simp at hc;done)|(obtain⟨_,_,e⟩:=ζf.1 hc;cases e)|cases hc
 | pq l=>
  intro code F H r hc h
  cases code with
  | region id ops u=>
   simp only[bL]at hc;split at hc
   .rename_i hd;split at hc
    .rename_i G;obtain⟨S,C,e⟩:=ζf.1 hc;cases e;simp only[gY]at h;split at h
     .rename_i T;obtain⟨⟨F',H'⟩,hv,rfl⟩:=ζf.1 h;have U:rq ops.toList=false:=Dg D _ C T;have:=Gm D ops.toList (i:=0) rfl C hv;rw[<-List.range_eq_range']at this;simp only[exec,jx,hd,G,if_true,U,Bool.false_eq_true,if_false,this];rfl
     .simp at h
    .simp at hc
   .obtain⟨_,_,e⟩:=ζf.1 hc;cases e
  | _=>simp only[bL]at hc;(repeat' split at hc) <;> first|(simp at hc;done)|(obtain⟨_,_,e⟩:=ζf.1 hc;cases e)|cases hc
 | seq a b w A=>
  intro code F H r hc h
  cases code with
  | seq I J=>
   simp only[bL]at hc;split at hc
   .rename_i x y B L;cases hc;simp only[gY]at h;simp only[exec]
    cases hva:gY X.E N call lf a F H with
    | none=>rw[hva]at h;simp at h
    | some q=>
     rw[hva]at h;rw[w I F H q B hva];obtain⟨o,F1,H1⟩:=q
     cases o with
     | norm=>exact A J F1 H1 r L h
     | exit _=>exact h
     | ret=>exact h
   .simp at hc
  | region id ops u=>simp only[bL]at hc;(repeat' split at hc) <;> first|(simp at hc;done)|(obtain⟨_,_,e⟩:=ζf.1 hc;cases e)
  | _=>simp only[bL]at hc;(repeat' split at hc) <;> first|(simp at hc;done)|(obtain⟨_,_,e⟩:=ζf.1 hc;cases e)|cases hc
 | cond x a b w A=>
  intro code F H r hc h
  cases code with
  | cond c I J=>
   simp only[bL]at hc;split at hc
   .rename_i Z y z B L W;cases hc;simp only[gY]at h;simp only[exec,JX (F:=F) D B];split at h
    .rename_i t Y;rw[Y]
     cases t with
     | true=>simp only[if_true]at h ⊢;exact w I F H r L h
     | false=>simp only[Bool.false_eq_true,if_false]at h ⊢;exact A J F H r W h
    .simp at h
   .simp at hc
  | region id ops u=>simp only[bL]at hc;(repeat' split at hc) <;> first|(simp at hc;done)|(obtain⟨_,_,e⟩:=ζf.1 hc;cases e)
  | _=>simp only[bL]at hc;(repeat' split at hc) <;> first|(simp at hc;done)|(obtain⟨_,_,e⟩:=ζf.1 hc;cases e)|cases hc
 | block id c O=>
  intro code F H r hc h
  cases code with
  | block Q c'=>
   simp only[bL]at hc;obtain⟨x,B,e⟩:=ζf.1 hc;cases e;simp only[gY]at h;simp only[exec]
   cases hva:gY X.E N call lf c F H with
   | none=>rw[hva]at h;simp at h
   | some q=>
    rw[hva]at h;rw[O c' F H q B hva];exact h
  | region id ops u=>simp only[bL]at hc;(repeat' split at hc) <;> first|(simp at hc;done)|(obtain⟨_,_,e⟩:=ζf.1 hc;cases e)
  | _=>simp only[bL]at hc;(repeat' split at hc) <;> first|(simp at hc;done)|(obtain⟨_,_,e⟩:=ζf.1 hc;cases e)|cases hc
 | loop c O=>
  intro code F H r hc h
  cases code with
  | loop c'=>
   simp only[bL]at hc;obtain⟨x,B,e⟩:=ζf.1 hc;cases e;simp only[gY]at h;simp only[exec];exact Ig (λF H r hr=>O c' F H r B hr) lf F H r h
  | region id ops u=>simp only[bL]at hc;(repeat' split at hc) <;> first|(simp at hc;done)|(obtain⟨_,_,e⟩:=ζf.1 hc;cases e)
  | _=>simp only[bL]at hc;(repeat' split at hc) <;> first|(simp at hc;done)|(obtain⟨_,_,e⟩:=ζf.1 hc;cases e)|cases hc
 | exit id=>
  intro code F H r hc h
  cases code with
  | exit Q=>simp only[bL,ζa,RC.exit.injEq]at hc;subst hc;exact h
  | region id ops u=>simp only[bL]at hc;(repeat' split at hc) <;> first|(simp at hc;done)|(obtain⟨_,_,e⟩:=ζf.1 hc;cases e)
  | _=>simp only[bL]at hc;(repeat' split at hc) <;> first|(simp at hc;done)|(obtain⟨_,_,e⟩:=ζf.1 hc;cases e)|cases hc
 | ret=>
  intro code F H r hc h
  cases code with
  | ret=>exact h
  | region id ops u=>simp only[bL]at hc;(repeat' split at hc) <;> first|(simp at hc;done)|(obtain⟨_,_,e⟩:=ζf.1 hc;cases e)
  | _=>simp only[bL]at hc;(repeat' split at hc) <;> first|(simp at hc;done)|(obtain⟨_,_,e⟩:=ζf.1 hc;cases e)|cases hc
 | _=>intro code F H r hc h;simp[gY]at h
end
end Go.VE
namespace Go.VE
variable [bS]
def Ex (E:Env) (N:Nat->FuncId) (rc:RC) (F:Frame) (H:bg) (o:Out) (F':Frame) (H':bg):Prop:=
 ∃n,∀k,n<=k->gY E N (run E k) k rc F H=some (o,F',H')
def nV (E:Env) (N:Nat->FuncId) (rc:RC) (F:Frame) (H:bg) (o:Out) (F':Frame) (H':bg):Prop:=
 ∃n,∀k,n<=k->∀u,n<=u->kA (gY E N (run E k) k rc) u F H=some (o,F',H')
section
variable {E:Env} {N:Nat->FuncId} {a b c:RC} {F F1 F':Frame} {H H1 H':bg} {o:Out} {x:Arg} {id:Nat}
theorem Ex.ops {l:List RO} (h:∃n,∀k,n<=k->cZ E N (run E k) none l F H=some (F',H')):Ex E N (.ops l) F H .norm F' H':=
 let ⟨n,h⟩:=h;⟨n,λk hk=>by simp only[gY,h k hk,Option.map_some]⟩
theorem Ex.eN {l:List RO} (h:∀call,cZ E N call none l F H=some (F',H')):Ex E N (.ops l) F H .norm F' H':=Ex.ops ⟨0,λk _=>h _⟩
theorem Ex.pq {l:List RO} (B:xD l=true) (h:∀call,cZ E N call (some H.length) l F H=some (F',H')):Ex E N (.pq l) F H .norm F' H':=
 ⟨0,λk _=>by simp only[gY,B,if_true,h,Option.map_some]⟩
theorem Ex.La {l:List RO} (B:xD l=true) (h:∃n,∀k,n<=k->cZ E N (run E k) (some H.length) l F H=some (F',H')):Ex E N (.pq l) F H .norm F' H':=
 let ⟨n,h⟩:=h;⟨n,λk hk=>by simp only[gY,B,if_true,h k hk,Option.map_some]⟩
theorem Ex.skip:Ex E N .skip F H .norm F H:=⟨0,λ_ _=>rfl⟩
theorem Ex.exit:Ex E N (.exit id) F H (.exit id) F H:=⟨0,λ_ _=>rfl⟩
theorem Ex.ret:Ex E N .ret F H .ret F H:=⟨0,λ_ _=>rfl⟩
theorem Ex.seq (h1:Ex E N a F H .norm F1 H1) (B:Ex E N b F1 H1 o F' H'):Ex E N (.seq a b) F H o F' H':=by
 obtain⟨n,h1⟩:=h1;obtain⟨m,B⟩:=B;exact⟨max n m,λk hk=>by simp only[gY,h1 k (by omega)];exact B k (by omega)⟩
theorem Ex.w_ (h1:Ex E N a F H o F' H') (B:o≠.norm):Ex E N (.seq a b) F H o F' H':=by
 obtain⟨n,h1⟩:=h1;refine⟨n,λk hk=>?_⟩
 simp only[gY,h1 k hk];cases o <;> first|exact absurd rfl B|rfl
theorem Ex.qf (B:bB N F x=.bool true) (h:Ex E N a F H o F' H'):Ex E N (.cond x a b) F H o F' H':=by
 obtain⟨n,h⟩:=h;exact⟨n,λk hk=>by simp only[gY,B,if_true,h k hk]⟩
theorem Ex.uW (B:bB N F x=.bool false) (h:Ex E N b F H o F' H'):Ex E N (.cond x a b) F H o F' H':=by
 obtain⟨n,h⟩:=h;exact⟨n,λk hk=>by simp only[gY,B,Bool.false_eq_true,if_false,h k hk]⟩
theorem Ex.block (h:Ex E N c F H .norm F' H'):Ex E N (.block id c) F H .norm F' H':=by
 obtain⟨n,h⟩:=h;exact⟨n,λk hk=>by simp only[gY,h k hk]⟩
theorem Ex.xN (h:Ex E N c F H (.exit id) F' H'):Ex E N (.block id c) F H .norm F' H':=by
 obtain⟨n,h⟩:=h;exact⟨n,λk hk=>by simp only[gY,h k hk,if_true]⟩
theorem Ex.Nt (h:Ex E N c F H .ret F' H'):Ex E N (.block id c) F H .ret F' H':=by
 obtain⟨n,h⟩:=h;exact⟨n,λk hk=>by simp only[gY,h k hk]⟩
theorem Ex.loop (h:nV E N c F H o F' H'):Ex E N (.loop c) F H o F' H':=by
 obtain⟨n,h⟩:=h;exact⟨n,λk hk=>h k hk k hk⟩
theorem nV.step (h1:Ex E N c F H .norm F1 H1) (B:nV E N c F1 H1 o F' H'):nV E N c F H o F' H':=by
 obtain⟨n,h1⟩:=h1;obtain⟨m,B⟩:=B;refine⟨max n m+1,λk hk u w=>?_⟩
 cases u with
 | zero=>omega
 | succ u=>simp only[kA,h1 k (by omega)];exact B k (by omega) u (by omega)
theorem nV.stop (h1:Ex E N c F H o F' H') (B:o≠.norm):nV E N c F H o F' H':=by
 obtain⟨n,h1⟩:=h1;refine⟨n+1,λk hk u w=>?_⟩
 cases u with
 | zero=>omega
 | succ u=>
  simp only[kA,h1 k (by omega)]
  cases o <;> first|exact absurd rfl B|rfl
end
theorem Ex.run {E:Env} {nm:FuncId->Option Nat} {N:Nat->FuncId} (B:∀f s,nm f=some s->N s=f) {f:FuncId} {fi:FI} {rc:RC} (D:E.ft f=some fi) (hc:bL ⟨E,nm,fi.ntmps⟩ false fi.body=some rc) {args:List V} (G:args.length<=fi.ntmps) {H H':bg} {F':Frame}
 (h:Ex E N rc args H .ret F' H') {vs:List V} (hr:jI E F' H' fi.results=some vs):∃n,run E n (.fn f) args H=some (result vs,H'):=by
 obtain⟨n,h⟩:=h;refine⟨n+1,?_⟩;have:=O8 (X:=⟨E,nm,fi.ntmps⟩) (call:=Go.VE.run E n) B (lf:=n) rc fi.body args H _ hc (h n (Nat.le_refl _));simp only[Go.VE.run,kT,D,if_pos G,this,hr,Option.map_some]
@[simp] theorem br (F:Frame) (i j:Nat) (v:V):get (set F i v) j=if i=j then v else get F j:=by
 split
 .rename_i h;subst h;exact uX F i v
 .rename_i h;exact ji F v h
def refs:List Nat->List (List V)->List (List V)
 | id::ids,r::rs=>[V.hsl id 1 0 r.length]::refs ids rs
 | _,_=>[]
def jc (r:List V):List (List V):=r.map λu=>[u]
structure l8 (H:bg) (w:V) (o:Nat) (ids:List Nat) (rows:List (List V)):Prop where
 v:w=if rows=[]then .bW else .hsl o 1 0 rows.length
 ob:rows≠[]->H[o]? = some (.row 1 (refs ids rows))
 len:ids.length=rows.length
 r:∀(i id:Nat) (r:List V),ids[i]? = some id->rows[i]? = some r->H[id]? = some (.row 1 (jc r))
 nd:ids.Nodup
 ne:rows≠[]->o∉ids
theorem sY:∀{ids:List Nat} {rows:List (List V)},ids.length=rows.length->(refs ids rows).length=rows.length
 | [],[],_=>rfl
 | _::ids,_::rows,h=>by simp only[refs,List.length_cons,sY (ids:=ids) (rows:=rows) (by simpa using h)]
theorem H7:∀{ids:List Nat} {rows:List (List V)} (id:Nat) (r:List V),ids.length=rows.length->refs (ids++[id]) (rows++[r])=refs ids rows++[[V.hsl id 1 0 r.length]]
 | [],[],_,_,_=>rfl
 | _::ids,_::rows,id,r,h=>by simp only[refs,List.cons_append,H7 (ids:=ids) (rows:=rows) id r (by simpa using h)]
theorem By:∀{ids:List Nat} {rows:List (List V)} {i id:Nat} {r:List V},ids[i]? = some id->rows[i]? = some r->(refs ids rows)[i]? = some [V.hsl id 1 0 r.length]
 | [],_,_,_,_,h,_=>by simp at h
 | _::_,[],_,_,_,_,h=>by simp at h
 | a::ids,b::rows,0,id,r,h1,B=>by simp at h1 B;subst h1 B;rfl
 | a::ids,b::rows,i+1,id,r,h1,B=>by simpa [refs]using By (ids:=ids) (rows:=rows) (i:=i) (by simpa using h1) (by simpa using B)
theorem Hv:∀{ids:List Nat} {rows:List (List V)} {i:Nat} {r B:List V},rows[i]? = some r->B.length=r.length->refs ids (rows.set i B)=refs ids rows
 | [],_,_,_,_,_,_=>by simp[refs]
 | _::_,[],_,_,_,_,_=>by simp[refs]
 | a::ids,b::rows,0,r,B,h,D=>by simp at h;subst h;simp only[List.set_cons_zero,refs,D]
 | a::ids,b::rows,i+1,r,B,h,D=>by simp only[List.set_cons_succ,refs,Hv (ids:=ids) (rows:=rows) (i:=i) (by simpa using h) D]
section
variable {H H':bg} {v:V} {o:Nat} {ids:List Nat} {rows:List (List V)}
theorem l8.nil (H:bg) (o:Nat):l8 H .bW o [] []:=⟨rfl,λh=>absurd rfl h,rfl,λi id r h=>by simp at h,.nil,λh=>absurd rfl h⟩
theorem l8.heap (n:l8 H v o ids rows) (B:rows≠[]->H'[o]? = H[o]?) (hi:∀id∈ids,H'[id]? = H[id]?):l8 H' v o ids rows:=
 ⟨n.v,λh=>by rw[B h];exact n.ob h,n.len,λi id r h1 u=>by rw[hi id (List.mem_of_getElem? h1)];exact n.r i id r h1 u,n.nd,n.ne⟩
theorem l8.lt (n:l8 H v o ids rows):(rows≠[]->o<H.length)/\∀id∈ids,id<H.length:=by
 refine⟨λh=>(ζe.1 (n.ob h)).1,λid u=>?_⟩
 obtain⟨i,hi⟩:=List.getElem?_of_mem u;have w:=(ζe.1 hi).1;have:=n.r i id _ hi (ζd (show i<rows.length from n.len▸w));exact(ζe.1 this).1
theorem l8.more (n:l8 H v o ids rows) (X:bg):l8 (H++X) v o ids rows:=
 n.heap (λh=>List.getElem?_append_left (n.lt.1 h)) λid u=>List.getElem?_append_left (n.lt.2 id u)
theorem l8.push (n:l8 H v o ids rows) (r:List V) (U:rows.length+1<=2147483648) :
 ∃H',fQ (H++[.row 1 (jc r)]++[.row 1 [[.hsl H.length 1 0 r.length]]]) (.append 1) [v,.hsl (H.length+1) 1 0 1]=some (.hsl (H.length+2) 1 0 (rows.length+1),H') /\
  l8 H' (.hsl (H.length+2) 1 0 (rows.length+1)) (H.length+2) (ids++[H.length]) (rows++[r])/\H.length<=H'.length/\(∀id,id<H.length->id≠o\/rows=[]->H'[id]? = H[id]?):=by
 generalize B:H++[.row 1 (jc r)]++[.row 1 [[.hsl H.length 1 0 r.length]]]=H2;have u:H2.length=H.length+2:=by subst B;simp
 have z:∀id,id<H.length->H2[id]? = H[id]? := λid h=>by
  subst B;rw[List.append_assoc,List.getElem?_append_left h]
 have h1:H2[H.length]? = some (.row 1 (jc r)):=by subst B;simp
 have S:H2[H.length+1]? = some (.row 1 [[.hsl H.length 1 0 r.length]]):=by subst B;simp
 have hv:=n.v;have e2:dN H2 1 (.hsl (H.length+1) 1 0 1)=some [[.hsl H.length 1 0 r.length]]:=by
  simp[dN,S,Ob.rows]
 by_cases hr:rows=[]
 .subst hr;rw[if_pos rfl]at hv;subst hv;have:ids=[]:=List.eq_nil_of_length_eq_zero n.len;subst this;refine⟨H2++[.row 1 [[.hsl H.length 1 0 r.length]]],?_,⟨by simp,λ_=>by rw[<-u];simp[refs],rfl,λi id L hi w=>?_,by simp,λ_=>by simp⟩,by simp[u];omega,λid C _=>?_⟩
  .have e1:dN H2 1 .bW=some []:=rfl;simp only[fQ,e1,e2,hU,List.length_nil,List.length_singleton,Option.map_some,u];simp
  .cases i with
   | zero=>
    simp at hi w;subst hi w;rw[List.getElem?_append_left (by omega)];exact h1
   | succ i=>simp at hi
  .rw[List.getElem?_append_left (by omega)];exact z id C
 .rw[if_neg hr]at hv;subst hv;have O:=n.ob hr;have G:=n.lt.1 hr;have e1:dN H2 1 (.hsl o 1 0 rows.length)=some (refs ids rows):=by
   simp only[dN,if_true,z o G,O,ζb,Ob.rows,sY n.len,Nat.zero_add,Nat.le_refl,List.drop_zero];rw[List.take_of_length_le (by rw[sY n.len];exact Nat.le_refl _)]
  have T:hU H2 (.hsl o 1 0 rows.length)=some (H2.set o .dead):=by
   simp only[hU,z o G,O]
  have A:∀id,id≠o->(H2.set o Ob.dead++[Ob.row 1 (refs ids rows++[[.hsl H.length 1 0 r.length]])])[id]? = if id<H2.length then H2[id]? else(H2.set o Ob.dead++[Ob.row 1 (refs ids rows++[[.hsl H.length 1 0 r.length]])])[id]? := λid D=>by
   split
   .rename_i h;rw[List.getElem?_append_left (by simpa using h),List.getElem?_set_ne (Ne.symm D)]
   .rfl
  refine⟨H2.set o .dead++[.row 1 (refs ids rows++[[.hsl H.length 1 0 r.length]])],?_,⟨by simp,λ_=>?_,by simp[n.len],λi id L hi w=>?_,?_,λ_ hm=>?_⟩,by simp[u];omega,λid C D=>?_⟩
  .simp only[fQ,e1,e2,T,sY n.len,List.length_singleton,U,if_true,Option.map_some,u]
  .rw[H7 _ _ n.len,<-u];simp
  .have I:id≠o:=by
    rcases Nat.lt_or_ge i ids.length with h|h
    .rw[List.getElem?_append_left h]at hi;intro e;subst e;exact n.ne hr (List.mem_of_getElem? hi)
    .have:i=ids.length:=by have:=(ζe.1 hi).1;simp at this;omega
     subst this;simp at hi;subst hi;omega
   rcases Nat.lt_or_ge i ids.length with h|h
   .rw[List.getElem?_append_left h]at hi;rw[List.getElem?_append_left (by rw[<-n.len];exact h)]at w
    have J:=n.lt.2 id (List.mem_of_getElem? hi);rw[A id I,if_pos (by omega),z id J]
    exact n.r i id L hi w
   .have:i=ids.length:=by have:=(ζe.1 hi).1;simp at this;omega
    subst this;simp at hi;subst hi;rw[n.len]at w;simp at w;subst w;rw[A _ I,if_pos (by omega)];exact h1
  .rw[List.nodup_append];exact⟨n.nd,by simp,λa W b Q=>by simp at Q;subst Q;exact Nat.ne_of_lt (n.lt.2 a W)⟩
  .rcases List.mem_append.1 hm with hm|hm
   .have:=n.lt.2 _ hm;omega
   .simp at hm
  .rw[A id (D.resolve_right hr),if_pos (by omega)];exact z id C
end
end Go.VE
namespace Go.VE
variable [bS]
theorem kC {E:Env} {N:Nat->FuncId} {F:Frame} {H H1:bg} {call:dn} {b:Option Nat} {o:RO} {l:List RO} {v:V} {r:Frame×bg} (hg:o.gd=none) (hv:bO E N call b o.now o.k (o.az.map (bB N F)) H=some (v,H1)) (h:cZ E N call b l (bu F o.dst v) H1=some r):cZ E N call b (o::l) F H=some r:=by
 simp only[cZ,hg,hv];exact h
theorem vp {E:Env} {N:Nat->FuncId} {F:Frame} {H:bg} {call:dn} {b:Option Nat} {o:RO} {l:List RO} {v:V} {r:Frame×bg} (hg:o.gd=none) (hv:bO E N call b o.now o.k (o.az.map (bB N F)) H=some (v,H)) (h:cZ E N call b l (bu F o.dst v) H=some r):cZ E N call b (o::l) F H=some r:=kC hg hv h
theorem fH {E:Env} {N:Nat->FuncId} {F:Frame} {H:bg} {call:dn} {b:Option Nat}:cZ E N call b [] F H=some (F,H):=rfl
theorem An {n:Nat} (h:n<=2147483648):IntKind.wrap .i64 ((n:Int)+1)=((n+1:Nat):Int):=by
 simp[IntKind.wrap,IntKind.bits,IntKind.signed];omega
theorem Vc {n:Nat} (h:n<=2147483648):IntKind.wrap .i64 (((n+1:Nat):Int)-1)=(n:Int):=by
 simp[IntKind.wrap,IntKind.bits,IntKind.signed];omega
theorem jO (H:bg):H.take H.length=H:=List.take_length
theorem Ez {x:V} (h:x.one=true):x.cells=[x]:=by
 cases x <;> first|rfl|(simp[V.one]at h)
def kept (t:Nat->Bool) (n:Nat):List Nat:=(List.range n).filter λi=>i==0 || !t i
theorem wJ (t:Nat->Bool) (n:Nat):kept t (n+1)=kept t n++if n==0 || !t n then [n]else []:=by
 unfold kept;rw[List.range_succ,List.filter_append,List.filter_cons];rfl
theorem RY (t:Nat->Bool):∀n,(kept t n).length<=n:=λn=>by
 unfold kept;exact Nat.le_trans (List.length_filter_le ..) (by simp)
theorem B1 {t:Nat->Bool}:∀n,(∀i,0<i->i<n->t i=false)->kept t n=List.range n
 | 0,_=>rfl
 | n+1,h=>by
  rw[wJ,B1 n λi h1 B=>h i h1 (by omega),List.range_succ]
  congr 1
  cases n with
  | zero=>rfl
  | succ n=>rw[h (n+1) (by omega) (by omega)];simp
theorem zx {t:Nat->Bool} {k:Nat} (h0:0<k) (hk:t k=true):∀n,k<n->(kept t n).length+1<=n
 | 0,h=>by omega
 | n+1,h=>by
  rw[wJ]
  by_cases e:n=k
  .subst e;have:(n==0 || !t n)=false:=by simp[hk];omega
   rw[this];have:=RY t n;simp;omega
  .have:=zx h0 hk n (by omega)
   split <;> simp <;> omega
namespace cmpX
instance {n:Nat}:OfNat Arg n:=⟨.s n⟩
def r1:List RO:=[o1 4 (.k (.bW)) []]
def r2:List RO:=[o1 8 0 [],o2 9 (.p .lenSl) [8] [],o2 10 (.p (.bin (some .int) none .lss)) [9,.k (.int .i64 2)] []]
def r3:List RO:=[o1 11 0 [],o1 4 11 []]
def r4:List RO:=[o1 5 (.k (.int .i64 1)) []]
def r5:List RO:=[o1 12 5 [],o1 13 0 [],o2 14 (.p .lenSl) [13] [],o2 15 (.p (.bin (some .int) none .lss)) [12,14] []]
def on (d:Nat) (k:K) (az:List Arg):RO:=⟨some d,none,true,k,az,[],[]⟩
def r6:List RO:=[o1 18 1 [],o1 19 0 [],o1 20 5 [],o2 21 (.p (.idxS 1)) [19,20] [],o2 22 (.r (.load 1 false)) [21] [],o1 23 0 [],o1 24 5 [],o2 25 (.p (.bin (some .int) none .sub)) [24,.k (.int .i64 1)] [],o2 26 (.p (.idxS 1)) [23,25] [],o2 27 (.r (.load 1 false)) [26] [],on 28 .c [18,22,27]]
def r7:List RO:=[o1 29 0 [],o1 30 5 [],o2 31 (.p (.slice 1 true false)) [29,30] [],o1 6 31 []]
def r8:List RO:=[o1 7 (.k (.int .i64 1)) []]
def r9:List RO:=[o1 32 7 [],o1 33 6 [],o2 34 (.p .lenSl) [33] [],o2 35 (.p (.bin (some .int) none .lss)) [32,34] []]
def Gl:List RO:=[o1 38 1 [],o1 39 6 [],o1 40 7 [],o2 41 (.p (.idxS 1)) [39,40] [],o2 42 (.r (.load 1 false)) [41] [],o1 43 6 [],o1 44 7 [],o2 45 (.p (.bin (some .int) none .sub)) [44,.k (.int .i64 1)] [],o2 46 (.p (.idxS 1)) [43,45] [],o2 47 (.r (.load 1 false)) [46] [],on 48 .c [38,42,47],on 49 (.p (.not)) [48]]
def HS:List RO:=[o1 50 0 [],o1 51 5 [],o1 52 6 [],o1 53 7 [],o2 54 (.p (.idxS 1)) [52,53] [],o2 55 (.r (.load 1 false)) [54] [],o2 56 (.p (.idxS 1)) [50,51] [],⟨none,none,false,.l (.store 1),[56,55],[],[]⟩]
def G0:List RO:=[o1 57 5 [],o2 58 (.p (.bin (some .int) none .add)) [57,.k (.int .i64 1)] [],o1 5 58 []]
def HT:List RO:=[o1 36 7 [],o2 37 (.p (.bin (some .int) none .add)) [36,.k (.int .i64 1)] [],o1 7 37 []]
def V5:RC:=.seq (.seq (.ops r9) (.cond (.s 35) (.skip) (.exit 2))) (.seq (.block 3 (.seq (.pq Gl) (.cond (.s 49) (.seq (.ops HS) (.ops G0)) (.skip)))) (.ops HT))
def G5:List RO:=[o1 59 0 [],o1 60 5 [],o2 61 (.p (.slice 1 true false)) [59,60] [],⟨none,none,false,.l (.clear 1 [.bW]),[61],[],[]⟩]
def JZ:List RO:=[o1 62 0 [],o1 63 5 [],o2 64 (.p (.slice 1 false true)) [62,63] [],o1 4 64 []]
def r16:List RO:=[o1 16 5 [],o2 17 (.p (.bin (some .int) none .add)) [16,.k (.int .i64 1)] [],o1 5 17 []]
def QO:RC:=.seq (.seq (.ops r5) (.cond (.s 15) (.skip) (.exit 0))) (.seq (.block 1 (.seq (.pq r6) (.cond (.s 28) (.seq (.ops r7) (.seq (.seq (.ops r8) (.block 2 (.loop V5))) (.seq (.ops G5) (.seq (.ops JZ) (.ret))))) (.skip)))) (.ops r16))
def Ng:List RO:=[o1 65 0 [],o1 4 65 []]
def code:RC:=.seq (.ops r1) (.seq (.seq (.ops r2) (.cond (.s 10) (.seq (.ops r3) (.ret)) (.skip))) (.seq (.seq (.ops r4) (.block 0 (.loop QO))) (.seq (.ops Ng) (.ret))))
structure Xa (F F':Frame):Prop where
 s0:get F' 0=get F 0
 s1:get F' 1=get F 1
section
variable {E:Env} {N:Nat->FuncId} {F:Frame} {H:bg} {call:dn} {id off L k:Nat}
theorem ld {B:List (List V)} {el:Nat} {v:V} (h:H[id]? = some (.row 1 B)) (hv:B[el]? = some [v]):eT H (.load 1 false) [.hptr id el 0]=some v:=by
 simp[eT,dS,h,Ob.rows,hv,cut,mk]
theorem Q4 {i:Nat} (h:i<L):lE 1 (.hsl id 1 off L) (i:Int)=some (.hptr id (off+i) 0):=by
 unfold lE;rw[if_neg (by omega)];simp[h]
theorem x2 (f0:get F 0=.hsl id 1 off L):∃F',(∀call,cZ E N call none r2 F H=some (F',H))/\get F' 10=.bool (decide ((L:Int)<2))/\(∀s,s<8->get F' s=get F s):=by
 refine⟨_,λcall=>vp (v:=.hsl id 1 off L) rfl ?_ <| vp (v:=.int .i64 L) rfl ?_ <| vp (v:=.bool (decide ((L:Int)<2))) rfl ?_ fH,?_,?_⟩
 .simp[bO,bB,bp,f0]
 .simp[bO,bB,bp,bu,qN]
 .simp[bO,bB,bp,bu,jD,qG]
 .simp[bu]
 .intro s u;simp only[bu,br]
  repeat (rw[if_neg (by omega)])
theorem x5 (f0:get F 0=.hsl id 1 off L) (f5:get F 5=.int .i64 k):∃F',(∀call,cZ E N call none r5 F H=some (F',H))/\get F' 15=.bool (decide (k<L))/\(∀s,s<8->get F' s=get F s):=by
 refine⟨_,λcall=>vp (v:=.int .i64 k) rfl ?_ <| vp (v:=.hsl id 1 off L) rfl ?_ <| vp (v:=.int .i64 L) rfl ?_ <| vp (v:=.bool (decide (k<L))) rfl ?_ fH,?_,?_⟩
 .simp[bO,bB,bp,f5]
 .simp[bO,bB,bp,bu,f0]
 .simp[bO,bB,bp,bu,qN]
 .simp[bO,bB,bp,bu,jD,qG]
 .simp[bu]
 .intro s u;simp only[bu,br]
  repeat (rw[if_neg (by omega)])
theorem Um {g:FuncId} {cb:List V} {B:List (List V)} {o2 L2 i:Nat} {a b:V} {t:Bool} (h:H[id]? = some (.row 1 B)) (hi:i+1<L2) (D:i<=2147483648) (G:B[o2+(i+1)]? = some [a]) (J:B[o2+i]? = some [b]) (hk:E.keep g=false) (f1:get F 1=.clo g [] cb) :
 (get F 0=.hsl id 1 o2 L2->get F 5=.int .i64 ((i+1:Nat):Int)->∃F',(∀call,cz call g (a::b::cb) H=some (.bool t)->cZ E N call (some H.length) r6 F H=some (F',H))/\get F' 28=.bool t/\(∀s,s<8->get F' s=get F s)) /\
 (get F 6=.hsl id 1 o2 L2->get F 7=.int .i64 ((i+1:Nat):Int)->∃F',(∀call,cz call g (a::b::cb) H=some (.bool t)->cZ E N call (some H.length) Gl F H=some (F',H))/\get F' 49=.bool (!t)/\(∀s,s<8->get F' s=get F s)):=by
 have hd:=Vc D;have e1:=ld h G;have e2:=ld h J;have i1:=Q4 (id:=id) (off:=o2) (L:=L2) hi;have i2:=Q4 (id:=id) (off:=o2) (L:=L2) (show i<L2 by omega)
 refine⟨λf0 f5=>⟨_,λcall hc=>vp (v:=.clo g [] cb) rfl ?_ <| vp (v:=.hsl id 1 o2 L2) rfl ?_ <| vp (v:=.int .i64 ((i+1:Nat):Int)) rfl ?_ <| vp (v:=.hptr id (o2+(i+1)) 0) rfl ?_ <| vp (v:=a) rfl ?_ <| vp (v:=.hsl id 1 o2 L2) rfl ?_ <| vp (v:=.int .i64 ((i+1:Nat):Int)) rfl ?_ <|
  vp (v:=.int .i64 (i:Int)) rfl ?_ <| vp (v:=.hptr id (o2+i) 0) rfl ?_ <| vp (v:=b) rfl ?_ <| vp (v:=.bool t) rfl ?_ fH,?_,?_⟩,λf6 f7=>⟨_,λcall hc=>vp (v:=.clo g [] cb) rfl ?_ <| vp (v:=.hsl id 1 o2 L2) rfl ?_ <| vp (v:=.int .i64 ((i+1:Nat):Int)) rfl ?_ <| vp (v:=.hptr id (o2+(i+1)) 0) rfl ?_ <| vp (v:=a) rfl ?_ <| vp (v:=.hsl id 1 o2 L2) rfl ?_ <| vp (v:=.int .i64 ((i+1:Nat):Int)) rfl ?_ <|
  vp (v:=.int .i64 (i:Int)) rfl ?_ <| vp (v:=.hptr id (o2+i) 0) rfl ?_ <| vp (v:=b) rfl ?_ <| vp (v:=.bool t) rfl ?_ <| vp (v:=.bool (!t)) rfl ?_ fH,?_,?_⟩⟩
 .simp[bO,bB,bp,f1]
 .simp[bO,bB,bp,bu,f0]
 .simp only[bO,List.map_cons,List.map_nil,bB,bu,br,Nat.reduceEqDiff,if_true,if_false,f5,bp];rfl
 .simp only[bO,List.map_cons,List.map_nil,bB,bu,br,Nat.reduceEqDiff,if_true,if_false,bp];rw[i1];rfl
 .simp only[bO,List.map_cons,List.map_nil,bB,bu,br,Nat.reduceEqDiff,if_true,if_false,jO];rw[e1];rfl
 .simp[bO,bB,bp,bu,f0]
 .simp only[bO,List.map_cons,List.map_nil,bB,bu,br,Nat.reduceEqDiff,if_true,if_false,f5,bp];rfl
 .simp only[bO,List.map_cons,List.map_nil,bB,bu,br,Nat.reduceEqDiff,if_true,if_false,bp,jD,hd];rfl
 .simp only[bO,List.map_cons,List.map_nil,bB,bu,br,Nat.reduceEqDiff,if_true,if_false,bp];rw[i2];rfl
 .simp only[bO,List.map_cons,List.map_nil,bB,bu,br,Nat.reduceEqDiff,if_true,if_false,jO];rw[e2];rfl
 .simp only[bO,on,List.map_cons,List.map_nil,bB,bu,br,Nat.reduceEqDiff,if_true,if_false,jO,hk,Bool.false_eq_true,List.nil_append,List.cons_append,hc,V.scalar]
 .simp[bu,on]
 .intro s u;simp only[bu,on,br]
  repeat (rw[if_neg (by omega)])
 .simp[bO,bB,bp,f1]
 .simp[bO,bB,bp,bu,f6]
 .simp only[bO,List.map_cons,List.map_nil,bB,bu,br,Nat.reduceEqDiff,if_true,if_false,f7,bp];rfl
 .simp only[bO,List.map_cons,List.map_nil,bB,bu,br,Nat.reduceEqDiff,if_true,if_false,bp];rw[i1];rfl
 .simp only[bO,List.map_cons,List.map_nil,bB,bu,br,Nat.reduceEqDiff,if_true,if_false,jO];rw[e1];rfl
 .simp[bO,bB,bp,bu,f6]
 .simp only[bO,List.map_cons,List.map_nil,bB,bu,br,Nat.reduceEqDiff,if_true,if_false,f7,bp];rfl
 .simp only[bO,List.map_cons,List.map_nil,bB,bu,br,Nat.reduceEqDiff,if_true,if_false,bp,jD,hd];rfl
 .simp only[bO,List.map_cons,List.map_nil,bB,bu,br,Nat.reduceEqDiff,if_true,if_false,bp];rw[i2];rfl
 .simp only[bO,List.map_cons,List.map_nil,bB,bu,br,Nat.reduceEqDiff,if_true,if_false,jO];rw[e2];rfl
 .simp only[bO,on,List.map_cons,List.map_nil,bB,bu,br,Nat.reduceEqDiff,if_true,if_false,jO,hk,Bool.false_eq_true,List.nil_append,List.cons_append,hc,V.scalar]
 .simp[bO,on,bB,bp,bu]
 .simp[bu,on]
 .intro s u;simp only[bu,on,br]
  repeat (rw[if_neg (by omega)])
end
end cmpX
end Go.VE
namespace Go.VE
variable [bS]
namespace cmpX
section
variable {E:Env} {N:Nat->FuncId} {F:Frame} {H:bg} {call:dn} {id off L k:Nat}
theorem x7 (f0:get F 0=.hsl id 1 off L) (f5:get F 5=.int .i64 k) (hk:k<=L):∃F',(∀call,cZ E N call none r7 F H=some (F',H))/\get F' 6=.hsl id 1 (off+k) (L-k)/\(∀s,s<8->s≠6->get F' s=get F s):=by
 have e:iK 1 (.hsl id 1 off L) (some k) none=some (.hsl id 1 (off+k) (L-k)):=by
  unfold iK dQ
  grind
 refine⟨_,λcall=>vp (v:=.hsl id 1 off L) rfl ?_ <| vp (v:=.int .i64 k) rfl ?_ <| vp (v:=.hsl id 1 (off+k) (L-k)) rfl ?_ <| vp (v:=.hsl id 1 (off+k) (L-k)) rfl ?_ fH,?_,?_⟩
 .simp[bO,bB,bp,f0]
 .simp[bO,bB,bp,bu,f5]
 .simp[bO,bB,bu,br,bp,mq,e]
 .simp[bO,bB,bp,bu]
 .simp[bu]
 .simp[bu,br]
  grind
theorem x9 {o2 L2 m:Nat} (f6:get F 6=.hsl id 1 o2 L2) (f7:get F 7=.int .i64 m):∃F',(∀call,cZ E N call none r9 F H=some (F',H))/\get F' 35=.bool (decide (m<L2))/\(∀s,s<8->get F' s=get F s):=by
 refine⟨_,λcall=>vp (v:=.int .i64 m) rfl ?_ <| vp (v:=.hsl id 1 o2 L2) rfl ?_ <| vp (v:=.int .i64 L2) rfl ?_ <| vp (v:=.bool (decide (m<L2))) rfl ?_ fH,?_,?_⟩
 .simp[bO,bB,bp,f7]
 .simp[bO,bB,bp,bu,f6]
 .simp[bO,bB,bp,bu,qN]
 .simp[bO,bB,bp,bu,jD,qG]
 .simp[bu]
 .simp[bu,br]
  grind
theorem Ui {B:List (List V)} {o2 L2 m p:Nat} {a z:V} (h:H[id]? = some (.row 1 B)) (f0:get F 0=.hsl id 1 off L) (f5:get F 5=.int .i64 p) (f6:get F 6=.hsl id 1 o2 L2) (f7:get F 7=.int .i64 m) (D:m<L2) (hp:p<L)
 (G:B[o2+m]? = some [a]) (J:B[off+p]? = some [z]) (h1:a.one=true) :
 ∃F',(∀call,cZ E N call none HS F H=some (F',H.set id (.row 1 (B.set (off+p) [a]))))/\(∀s,s<8->get F' s=get F s):=by
 have i1:=Q4 (id:=id) (off:=o2)  D;have i2:=Q4 (id:=id) (off:=off)  hp;have e1:=ld h G;have u:fQ H (.store 1) [.hptr id (off+p) 0,a]=some (.undef,H.set id (.row 1 (B.set (off+p) [a]))):=by
  simp[fQ,h,J,Ez h1,h1]
 refine⟨_,λcall=>vp (v:=.hsl id 1 off L) rfl ?_ <| vp (v:=.int .i64 p) rfl ?_ <| vp (v:=.hsl id 1 o2 L2) rfl ?_ <| vp (v:=.int .i64 m) rfl ?_ <| vp (v:=.hptr id (o2+m) 0) rfl ?_ <| vp (v:=a) rfl ?_ <| vp (v:=.hptr id (off+p) 0) rfl ?_ <| kC (v:=.undef)  rfl ?_ fH,?_⟩
 .simp[bO,bB,bp,f0]
 .simp[bO,bB,bp,bu,f5]
 .simp[bO,bB,bp,bu,f6]
 .simp[bO,bB,bp,bu,f7]
 .simp[bO,bB,bu,br,bp];grind
 .simp[bO,bB,bu,br];grind
 .simp[bO,bB,bu,br,bp];grind
 .simp[bO,bB,bu,br];omega
 .simp[bu,br]
  grind
theorem LJ {p:Nat} (hp:p<=2147483648):(get F 5=.int .i64 p->∃F',(∀call,cZ E N call none G0 F H=some (F',H))/\get F' 5=.int .i64 ((p+1:Nat):Int)/\(∀s,s<8->s≠5->get F' s=get F s)) /\
 (get F 7=.int .i64 p->∃F',(∀call,cZ E N call none HT F H=some (F',H))/\get F' 7=.int .i64 ((p+1:Nat):Int)/\(∀s,s<8->s≠7->get F' s=get F s)) /\
 (get F 5=.int .i64 p->∃F',(∀call,cZ E N call none r16 F H=some (F',H))/\get F' 5=.int .i64 ((p+1:Nat):Int)/\(∀s,s<8->s≠5->get F' s=get F s)):=by
 have u:=An hp;refine⟨λf=>⟨_,λcall=>vp (v:=.int .i64 p) rfl ?_ <| vp (v:=.int .i64 (p+1:Nat)) rfl ?_ <| vp (v:=.int .i64 (p+1:Nat)) rfl ?_ fH,?_,?_⟩,
  λf=>⟨_,λcall=>vp (v:=.int .i64 p) rfl ?_ <| vp (v:=.int .i64 (p+1:Nat)) rfl ?_ <| vp (v:=.int .i64 (p+1:Nat)) rfl ?_ fH,?_,?_⟩,
  λf=>⟨_,λcall=>vp (v:=.int .i64 p) rfl ?_ <| vp (v:=.int .i64 (p+1:Nat)) rfl ?_ <| vp (v:=.int .i64 (p+1:Nat)) rfl ?_ fH,?_,?_⟩⟩ <;>
 first
 | (simp[bO,bB,bp,f];done)
 | (simp only[bO,List.map_cons,List.map_nil,bB,bu,br,if_true,bp,jD,u];rfl)
 | grind
 | (simp[bu];done)
 | (simp[bu,br];grind)
theorem WV {B:List (List V)} {p:Nat} (h:H[id]? = some (.row 1 B)) (f0:get F 0=.hsl id 1 off L) (f5:get F 5=.int .i64 p) (hp:p<L) (D:off+L<=B.length) :
 ∃F',(∀call,cZ E N call none G5 F H=some (F',H.set id (.row 1 (B.take (off+p)++List.replicate (L-p) [.bW]++B.drop (off+L)))))/\(∀s,s<8->get F' s=get F s):=by
 have e:iK 1 (.hsl id 1 off L) (some p) none=some (.hsl id 1 (off+p) (L-p)):=by
  unfold iK dQ
  grind
 obtain⟨q,u⟩:∃q,L-p=q+1:=⟨L-p-1,by omega⟩
 have hc:fQ H (.clear 1 [.bW]) [.hsl id 1 (off+p) (L-p)]=some (.undef,H.set id (.row 1 (B.take (off+p)++List.replicate (L-p) [.bW]++B.drop (off+L)))):=by
  simp[fQ,Dr,u,h]
  grind
 refine⟨_,λcall=>vp (v:=.hsl id 1 off L) rfl ?_ <| vp (v:=.int .i64 p) rfl ?_ <| vp (v:=.hsl id 1 (off+p) (L-p)) rfl ?_ <| kC (v:=.undef)  rfl ?_ fH,?_⟩
 .simp[bO,bB,bp,f0]
 .simp[bO,bB,bp,bu,f5]
 .simp[bO,bB,bu,br,bp,mq,e]
 .simp only[bO,List.map_cons,List.map_nil,bB,bu,br,if_true];omega
 .simp[bu,br]
  grind
theorem Rb {p:Nat} (f0:get F 0=.hsl id 1 off L) (f5:get F 5=.int .i64 p) (hp:p<=L):∃F',(∀call,cZ E N call none JZ F H=some (F',H))/\get F' 4=.hsl id 1 off p:=by
 have e:iK 1 (.hsl id 1 off L) none (some p)=some (.hsl id 1 off p):=by
  unfold iK dQ
  grind
 refine⟨_,λcall=>vp (v:=.hsl id 1 off L) rfl ?_ <| vp (v:=.int .i64 p) rfl ?_ <| vp (v:=.hsl id 1 off p) rfl ?_ <| vp (v:=.hsl id 1 off p) rfl ?_ fH,?_⟩
 .simp[bO,bB,bp,f0]
 .simp[bO,bB,bp,bu,f5]
 .simp[bO,bB,bu,br,bp,mq,e]
 .simp[bO,bB,bp,bu]
 .simp[bu]
theorem WH:∃F',(∀call,cZ E N call none Ng F H=some (F',H))/\get F' 4=get F 0:=
 ⟨_,λcall=>vp (v:=get F 0) rfl (by simp[bO,bB,bp]) <| vp (v:=get F 0) rfl (by simp[bO,bB,bp,bu]) fH,by simp[bu]⟩
theorem T0:∃F',(∀call,cZ E N call none r3 F H=some (F',H))/\get F' 4=get F 0:=
 ⟨_,λcall=>vp (v:=get F 0) rfl (by simp[bO,bB,bp]) <| vp (v:=get F 0) rfl (by simp[bO,bB,bp,bu]) fH,by simp[bu]⟩
end
structure LA (E:Env) (g:FuncId) (cb:List V) (H:bg) (id off L:Nat) (rs:List (List V)) (A:Nat->V) (t:Nat->Bool):Prop where
 row:H[id]? = some (.row 1 rs)
 len:off+L<=rs.length
 small:L<=2147483648
 at_:∀i,i<L->rs[off+i]? = some [A i]
 one:∀i,i<L->(A i).one=true
 keep:E.keep g=false
 cmp:∃n,∀k,n<=k->∀i,i+1<L->∀cur,cz (run E k) g (A (i+1)::A i::cb) (H.set id (.row 1 cur))=some (.bool (t (i+1)))
structure Head (g:FuncId) (cb:List V) (id off L kk m:Nat) (rs:List (List V)) (A:Nat->V) (t:Nat->Bool) (F:Frame) (cur:List (List V)):Prop where
 f0:get F 0=.hsl id 1 off L
 f1:get F 1=.clo g [] cb
 f5:get F 5=.int .i64 ((kept t (kk+m)).length:Nat)
 f6:get F 6=.hsl id 1 (off+kk) (L-kk)
 f7:get F 7=.int .i64 m
 len:cur.length=rs.length
 pre:∀p i,(kept t (kk+m))[p]? = some i->cur[off+p]? = some [A i]
 post:∀i,kk+m<=i+1->i<L->cur[off+i]? = some [A i]
 out:∀j,j<off\/off+L<=j->cur[j]? = rs[j]?
 cell:∀i,i<L->∃j,j<L/\cur[off+i]? = some [A j]
section
variable {E:Env} {N:Nat->FuncId} {g:FuncId} {cb:List V} {H:bg} {id off L kk:Nat} {rs:List (List V)} {A:Nat->V} {t:Nat->Bool}
theorem LF (X:LA E g cb H id off L rs A t) (aa:0<kk) (ah:kk<L) (ht:t kk=true):∀(d m:Nat) (F:Frame) (B:List (List V)),kk+m+d=L->0<m->Head g cb id off L kk m rs A t F B ->
 ∃F' D,nV E N V5 F (H.set id (.row 1 B)) (.exit 2) F' (H.set id (.row 1 D))/\Head g cb id off L kk (L-kk) rs A t F' D:=by
 have O:=(ζe.1 X.row).1;have G:∀B,(H.set id (.row 1 B))[id]? = some (.row 1 B):=λB=>List.getElem?_set_self O
 have ai:=X.small;have af:=X.len;intro d
 induction d with
 | zero=>
  intro m F B he hm h;have em:m=L-kk:=by omega
  subst em;obtain⟨F1,e1,e2,e3⟩:=x9    h.f6 h.f7;refine⟨F1,B,nV.stop (Ex.w_ (Ex.seq (Ex.eN e1) (Ex.uW (by simp[bB,e2]) Ex.exit)) (by simp)) (by simp),?_⟩
  exact⟨by rw[e3 0 (by omega)];exact h.f0,by rw[e3 1 (by omega)];exact h.f1,by rw[e3 5 (by omega)];exact h.f5,by rw[e3 6 (by omega)];exact h.f6,by rw[e3 7 (by omega)];exact h.f7,h.len,h.pre,h.post,h.out,h.cell⟩
 | succ d ih=>
  intro m F B he hm h;obtain⟨F1,a1,a2,a3⟩:=x9    h.f6 h.f7;have T:bB N F1 35=.bool true:=by
   show get F1 35=_;rw[a2,decide_eq_true (by omega)]
  obtain⟨m',rfl⟩:∃m',m=m'+1:=⟨m-1,by omega⟩
  obtain⟨n0,ab⟩:=X.cmp;have c1:B[off+kk+(m'+1)]? = some [A (kk+m'+1)]:=by
   have:=h.post (kk+m'+1) (by omega) (by omega);grind
  have c2:B[off+kk+m']? = some [A (kk+m')]:=by
   have:=h.post (kk+m') (by omega) (by omega);grind
  obtain⟨F2,b1,b2,b3⟩:=(Um      (L2:=L-kk)  (G B) (by omega) (by omega) c1 c2 X.keep (by rw[a3 1 (by omega)];exact h.f1)).2 (by rw[a3 6 (by omega)];exact h.f6) (by rw[a3 7 (by omega)];exact h.f7)
  have U:∃n,∀k,n<=k->cZ E N (run E k) (some (H.set id (.row 1 B)).length) Gl F1 (H.set id (.row 1 B))=some (F2,H.set id (.row 1 B)):=⟨n0,λk hk=>b1 _ (ab k hk (kk+m') (by omega) B)⟩
  have w  := λs hs=>(b3 s hs).trans (a3 s hs)
  have ad:(kept t (kk+(m'+1))).length+1<=kk+(m'+1):=zx aa ht _ (by omega)
  have u:kept t (kk+(m'+1)+1)=kept t (kk+(m'+1))++if t (kk+m'+1)then []else [kk+m'+1]:=by
   rw[wJ]
   grind
  have z:kk+(m'+1+1)=kk+(m'+1)+1:=by omega
  cases W:t (kk+m'+1)with
  | true=>
   rw[W]at b2 u;simp  at u;obtain⟨F3,Y,q2,Q⟩:=(LJ     (p:=m'+1) (by omega)).2.1 (by rw[w 7 (by omega)];exact h.f7)
   obtain⟨F',D,i1,i2⟩:=ih (m'+1+1) F3 B (by omega) (by omega) ⟨by rw[Q 0 (by omega) (by omega),w 0 (by omega)];exact h.f0,by rw[Q 1 (by omega) (by omega),w 1 (by omega)];exact h.f1,
    by rw[Q 5 (by omega) (by omega),w 5 (by omega),z,u];exact h.f5,by rw[Q 6 (by omega) (by omega),w 6 (by omega)];exact h.f6,q2,h.len,by rw[z,u];exact h.pre,λi h1 Z=>h.post i (by omega) Z,h.out,h.cell⟩
   exact⟨F',D,nV.step (Ex.seq (Ex.seq (Ex.eN a1) (Ex.qf T Ex.skip)) (Ex.seq (Ex.block (Ex.seq (Ex.La (by decide) U) (Ex.uW (by simp[bB,b2]) Ex.skip))) (Ex.eN Y))) i1,i2⟩
  | false=>
   rw[W]at b2 u;generalize hK:(kept t (kk+(m'+1))).length=K at *;obtain⟨_,_,hz⟩:=h.cell K (by omega)
   obtain⟨F3,Y,q2⟩:=Ui           (G B) (by rw[w 0 (by omega)];exact h.f0) (by rw[w 5 (by omega),h.f5,hK]) (by rw[w 6 (by omega)];exact h.f6) (by rw[w 7 (by omega)];exact h.f7) (by omega) (by omega) c1 hz (X.one _ (by omega))
   rw[List.set_set]at Y;generalize I:B.set (off+K) [A (kk+m'+1)]=J at Y;have hg:∀j,J[j]? = if j=off+K then some [A (kk+m'+1)]else B[j]? := λj=>by
    rw[<-I,List.getElem?_set]
    by_cases e:off+K=j
    .rw[if_pos e,if_pos e.symm,if_pos (by rw[h.len];omega)]
    .rw[if_neg e,if_neg (Ne.symm e)]
   obtain⟨F4,Q,q4,q5⟩:=(LJ     (p:=K) (by omega)).1 (by rw[q2 5 (by omega),w 5 (by omega),h.f5,hK])
   have C:∀s,s<8->s≠5->get F4 s=get F s:=λs h1 Z=>by rw[q5 s h1 Z,q2 s h1,w s h1]
   obtain⟨F5,q6,q7,q8⟩:=(LJ     (p:=m'+1) (by omega)).2.1 (by rw[C 7 (by omega) (by omega)];exact h.f7)
   obtain⟨F',D,i1,i2⟩:=ih (m'+1+1) F5 J (by omega) (by omega) ⟨by rw[q8 0 (by omega) (by omega),C 0 (by omega) (by omega)];exact h.f0,by rw[q8 1 (by omega) (by omega),C 1 (by omega) (by omega)];exact h.f1,
    by rw[q8 5 (by omega) (by omega),q4,z,u,ζi,hK];rfl,by rw[q8 6 (by omega) (by omega),C 6 (by omega) (by omega)];exact h.f6,q7,by rw[<-I,List.length_set];exact h.len,
    λp i S=>by
     rw[z,u]at S;rw[hg]
     by_cases e:p=K
     .subst e;rw[<-hK,List.getElem?_append_right (Nat.le_refl _),Nat.sub_self]at S;cases S;rw[if_pos rfl]
     .have ae:p<(kept t (kk+(m'+1))).length:=by
       have:=(ζe.1 S).1;simp at this;omega
      rw[List.getElem?_append_left ae]at S;rw[if_neg (by omega)];exact h.pre p i S,
    λi h1 Z=>by rw[hg,if_neg (by omega)];exact h.post i (by omega) Z,λj hj=>by rw[hg,if_neg (by omega)];exact h.out j hj,
    λi hi=>by
     rw[hg]
     by_cases e:off+i=off+K
     .rw[if_pos e];exact⟨_,by omega,rfl⟩
     .rw[if_neg e];exact h.cell i hi⟩
   exact⟨F',D,nV.step (Ex.seq (Ex.seq (Ex.eN a1) (Ex.qf T Ex.skip)) (Ex.seq (Ex.block (Ex.seq (Ex.La (by decide) U) (Ex.qf (by simp[bB,b2]) (Ex.seq (Ex.eN Y) (Ex.eN Q))))) (Ex.eN q6))) i1,i2⟩
structure OI (off L:Nat) (rs:List (List V)) (A:Nat->V) (t:Nat->Bool) (rs':List (List V)):Prop where
 len:rs'.length=rs.length
 pre:∀p i,(kept t L)[p]? = some i->rs'[off+p]? = some [A i]
 all:∀c∈rs',c∈rs\/c=[.bW]
theorem Ln (X:LA E g cb H id off L rs A t):∀(d k:Nat) (F:Frame),k+d=L->0<k->(∀i,0<i->i<k->t i=false)->get F 0=.hsl id 1 off L->get F 1=.clo g [] cb->get F 5=.int .i64 k ->
 (∃F',nV E N QO F H (.exit 0) F' H/\get F' 0=.hsl id 1 off L/\∀i,0<i->i<L->t i=false) \/
 (∃F' D,nV E N QO F H .ret F' (H.set id (.row 1 D))/\get F' 4=.hsl id 1 off (kept t L).length/\OI off L rs A t D):=by
 have Q:=(ζe.1 X.row).1;have S  := zb X.row;have ah:=X.small;have af:=X.len;intro d
 induction d with
 | zero=>
  intro k F he hk hp f0 f1 f5;have ek:k=L:=by omega
  subst ek;obtain⟨F1,e1,e2,e3⟩:=x5  (N:=N)  f0 f5;exact .inl ⟨F1,nV.stop (Ex.w_ (Ex.seq (Ex.eN e1) (Ex.uW (by simp[bB,e2]) Ex.exit)) (by simp)) (by simp),by grind,hp⟩
 | succ d ih=>
  intro k F he hk hp f0 f1 f5;obtain⟨F1,a1,a2,a3⟩:=x5    f0 f5;have U:bB N F1 15=.bool true:=by
   show get F1 15=_;rw[a2,decide_eq_true (by omega)]
  obtain⟨u,rfl⟩:∃u,k=u+1:=⟨k-1,by omega⟩
  obtain⟨n0,ai⟩:=X.cmp;obtain⟨F2,b1,b2,b3⟩:=(Um  (N:=N) (cb:=cb) (g:=g) (i:=u) (L2:=L) (t:=t (u+1)) X.row (by omega) (by omega) (X.at_ _ (by omega)) (X.at_ _ (by omega)) X.keep (by rw[a3 1 (by omega)];omega)).1 (by grind) (by grind)
  have W:∃n,∀k,n<=k->cZ E N (run E k) (some H.length) r6 F1 H=some (F2,H):=⟨n0,λk hk=>b1 _ (by
   grind)⟩
  have Y  := λs hs=>(b3 s hs).trans (a3 s hs)
  cases w:t (u+1)with
  | false=>
   rw[w]at b2;obtain⟨T,q1,q2,q3⟩:=(LJ (E:=E)  (F:=F2)  (p:=u+1) (by omega)).2.2 (by grind)
   have z:Ex E N QO F H .norm T H:=Ex.seq (Ex.seq (Ex.eN a1) (Ex.qf U Ex.skip)) (Ex.seq (Ex.block (Ex.seq (Ex.La (by decide) W) (Ex.uW (by simp[bB,b2]) Ex.skip))) (Ex.eN q1))
   rcases ih (u+1+1) T (by omega) (by omega) (λi h1 Z=>by
    grind) (by grind) (by simp_all) q2 with⟨F',i1,i2⟩|⟨F',D,i1,i2⟩
   .exact .inl ⟨F',nV.step z i1,i2⟩
   .exact .inr ⟨F',D,nV.step z i1,i2⟩
  | true=>
   rw[w]at b2;refine .inr ?_;obtain⟨T,q1,q2,q3⟩:=x7 (E:=E) (N:=N)  (H:=H) (k:=u+1) (by rw[Y 0 (by omega)];exact f0) (by rw[Y 5 (by omega)];exact f5) (by omega)
   have G:kept t (u+1)=List.range (u+1):=B1 _ hp;have aa:kept t (u+1+1)=List.range (u+1):=by
    rw[wJ,G,w];simp
   have q4:∀call,cZ E N call none r8 T H=some (set T 7 (.int .i64 1),H):=λcall=>vp  rfl (by simp[bO,bB,bp]) fH
   have h0:Head g cb id off L (u+1) 1 rs A t (set T 7 (.int .i64 1)) rs:=⟨by rw[ji _ _ (by omega),q3 0 (by omega) (by omega),Y 0 (by omega)];exact f0,by rw[ji _ _ (by omega),q3 1 (by omega) (by omega),Y 1 (by omega)];exact f1,
    by rw[ji _ _ (by omega),q3 5 (by omega) (by omega),Y 5 (by omega),aa,List.length_range];exact f5,by rw[ji _ _ (by omega)];exact q2,by rw[uX];rfl,rfl,
    λp i B=>by
     rw[aa]at B;obtain⟨h1,Z⟩:=ζe.1 B;simp at h1 Z;subst Z;exact X.at_ p (by omega),λi _ Z=>X.at_ i Z,λ_ _=>rfl,λi hi=>⟨i,hi,X.at_ i hi⟩⟩
   obtain⟨F5,C,l1,I⟩:=LF (N:=N) X (by omega) (by omega) w (L-(u+1)-1) 1 _ rs (by omega) (by omega) h0
   rw[S]at l1;have eL:u+1+(L-(u+1))=L:=by omega
   have ae:=zx (t:=t) (k:=u+1) (by omega) w L (by omega)
   have l5:=I.f5;have J:=I.pre;rw[eL]at l5 J;generalize hK:(kept t L).length=K at *;have ab:(H.set id (.row 1 C))[id]? = some (.row 1 C):=List.getElem?_set_self Q;obtain⟨F6,w1,w2⟩:=WV (E:=E) (N:=N) (p:=K) ab I.f0 l5 (by omega) (by rw[I.len];omega)
   rw[List.set_set]at w1;obtain⟨F7,w3,w4⟩:=Rb (E:=E)     (by rw[w2 0 (by omega)];exact I.f0) (by rw[w2 5 (by omega)];exact l5) (by omega)
   have aj:=I.len;refine⟨F7,C.take (off+K)++List.replicate (L-K) [.bW]++C.drop (off+L),nV.stop (Ex.seq (Ex.seq (Ex.eN a1) (Ex.qf U Ex.skip)) (Ex.w_ (Ex.Nt (Ex.seq (Ex.La (by decide) W) (Ex.qf (by simp[bB,b2]) (Ex.seq (Ex.eN q1) (Ex.seq (Ex.seq (Ex.eN q4) (Ex.xN (Ex.loop l1))) (Ex.seq (Ex.eN w1) (Ex.seq (Ex.eN w3) Ex.ret))))))) (by simp))) (by simp),w4,?_,λp i B=>?_,λc hc=>?_⟩
   .simp;omega
   .have ak:p<K:=by rw[<-hK];exact(ζe.1 B).1
    rw[List.append_assoc,List.getElem?_append_left (by simp;omega),List.getElem?_take,if_pos (by omega)]
    exact J p i B
   .have ad:∀j x,C[j]? = some x->x∈rs:=λj x O=>by
     by_cases ho:j<off\/off+L<=j
     .rw[I.out j ho]at O;exact List.mem_of_getElem? O
     .obtain⟨i,rfl⟩:∃i,j=off+i:=⟨j-off,by omega⟩
      obtain⟨q,hq,hc⟩:=I.cell i (by omega)
      rw[hc]at O;cases O;exact List.mem_of_getElem? (X.at_ q hq)
    rcases List.mem_append.1 hc with hc|hc
    .rcases List.mem_append.1 hc with hc|hc
     .obtain⟨j,O⟩:=List.getElem?_of_mem (List.mem_of_mem_take hc);exact .inl (ad j c O)
     .exact .inr (List.eq_of_mem_replicate hc)
    .obtain⟨j,O⟩:=List.getElem?_of_mem (List.mem_of_mem_drop hc);exact .inl (ad j c O)
end
end cmpX
end Go.VE
namespace Go.VE
variable [bS]
namespace cmpX
section
variable {E:Env} {N:Nat->FuncId} {g:FuncId} {cb:List V} {H:bg} {id off L:Nat} {rs:List (List V)} {A:Nat->V} {t:Nat->Bool}
theorem whole (X:LA E g cb H id off L rs A t):∃F' B,Ex E N code [.hsl id 1 off L,.clo g [] cb] H .ret F' (H.set id (.row 1 B))/\get F' 4=.hsl id 1 off (kept t L).length/\OI off L rs A t B:=by
 have u:H.set id (.row 1 rs)=H:=zb X.row;have same:(∀i,0<i->i<L->t i=false)->(kept t L).length=L/\OI off L rs A t rs:=λh=>by
  have hk:=B1 L h;rw[hk,List.length_range];exact⟨rfl,rfl,λp i Q=>by
   rw[hk]at Q;obtain⟨h1,w⟩:=ζe.1 Q;simp at h1 w;subst w;exact X.at_ p h1,λc hc=>.inl hc⟩
 have g1:∀call,cZ E N call none r1 [.hsl id 1 off L,.clo g [] cb] H=some (set [.hsl id 1 off L,.clo g [] cb] 4 .bW,H):=λcall=>vp (v:=.bW) rfl (by simp[bO,bB,bp]) fH
 have k0:get (set [V.hsl id 1 off L,.clo g [] cb] 4 .bW) 0=.hsl id 1 off L:=rfl;have k1:get (set [V.hsl id 1 off L,.clo g [] cb] 4 .bW) 1=.clo g [] cb:=rfl;generalize set [V.hsl id 1 off L,.clo g [] cb] 4 .bW=U at *;obtain⟨F1,S,T,z⟩:=x2 (E:=E) (N:=N) (H:=H) k0
 by_cases W:L<2
 .obtain⟨C,D,G⟩:=T0 (E:=E) (N:=N) (F:=F1) (H:=H);obtain⟨e1,e2⟩:=same λi h1 w=>by omega
  refine⟨C,rs,?_,by rw[e1,G,z 0 (by omega)];exact k0,e2⟩
  rw[u];exact Ex.seq (Ex.eN g1) (Ex.w_ (Ex.seq (Ex.eN S) (Ex.qf (by show get F1 10=_;rw[T,decide_eq_true (by omega)]) (Ex.seq (Ex.eN D) Ex.ret))) (by simp))
 .have g4:∀call,cZ E N call none r4 F1 H=some (set F1 5 (.int .i64 1),H):=λcall=>vp (v:=.int .i64 1) rfl (by simp[bO,bB,bp]) fH
  have hc:Ex E N (.seq (.ops r2) (.cond (.s 10) (.seq (.ops r3) (.ret)) (.skip))) U H .norm F1 H:=Ex.seq (Ex.eN S) (Ex.uW (by show get F1 10=_;rw[T,decide_eq_false (by omega)]) Ex.skip)
  rcases Ln (N:=N) X (L-1) 1 (set F1 5 (.int .i64 1)) (by omega) (by omega) (λi h1 w=>by omega) (by rw[ji _ _ (by omega),z 0 (by omega)];exact k0) (by rw[ji _ _ (by omega),z 1 (by omega)];exact k1) (by rw[uX];rfl)with⟨F',I,J,O⟩|⟨F',B,I,J,O⟩
  .obtain⟨C,D,G⟩:=WH (E:=E) (N:=N) (F:=F') (H:=H);obtain⟨e1,e2⟩:=same O;refine⟨C,rs,?_,by rw[e1,G];exact J,e2⟩
   rw[u];exact Ex.seq (Ex.eN g1) (Ex.seq hc (Ex.seq (Ex.seq (Ex.eN g4) (Ex.xN (Ex.loop I))) (Ex.seq (Ex.eN D) Ex.ret)))
  .exact⟨F',B,Ex.seq (Ex.eN g1) (Ex.seq hc (Ex.w_ (Ex.seq (Ex.eN g4) (Ex.Nt (Ex.loop I))) (by simp))),J,O⟩
theorem empty {w:V} (c:V) (B:w=.bW\/w=.dA):∃F',Ex E N code [w,c] H .ret F' H/\get F' 4=w:=by
 have g1:∀call,cZ E N call none r1 [w,c] H=some (set [w,c] 4 .bW,H):=λcall=>vp (v:=.bW) rfl (by simp[bO,bB,bp]) fH
 have k0:get (set [w,c] 4 .bW) 0=w:=rfl;generalize set [w,c] 4 .bW=z at *;have A:qN w=some (.int .i64 0):=by rcases B with rfl|rfl <;> rfl
 have u:∃F1,(∀call,cZ E N call none r2 z H=some (F1,H))/\get F1 10=.bool true/\get F1 0=w:=by
  refine⟨_,λcall=>vp (v:=w) rfl ?_ <| vp (v:=.int .i64 0) rfl ?_ <| vp (v:=.bool true) rfl ?_ fH,?_,?_⟩
  .simp[bO,bB,bp,k0]
  .simp[bO,bB,bp,bu,A]
  .simp[bO,bB,bp,bu,jD,qG]
  .simp[bu]
  .simp[bu,k0]
 obtain⟨F1,u,C,D⟩:=u;obtain⟨G,I,J⟩:=T0 (E:=E) (N:=N) (F:=F1) (H:=H);exact⟨G,Ex.seq (Ex.eN g1) (Ex.w_ (Ex.seq (Ex.eN u) (Ex.qf C (Ex.seq (Ex.eN I) Ex.ret))) (by simp)),by rw[J,D]⟩
end
end cmpX
end Go.VE
namespace Go.VE
variable [bS]
def Sl.re {α:Type} (s:Sl α) (l:List α):Sl α:=match s with|.nil=>.nil|.emp=>.emp|.row _=>.row l|.part _=>.part l
section
variable {S:Sys} {T:pK} {β γ δ α:Type} {Q:Out×St->Option β} {e:γ->Option β} {cf:Cf}
theorem dW.Uc (B:vh S T) (D:∀f a b xs,S.items f a b=some xs->e_ S f a b xs) {fn:FuncId} {A:δ->List V} {E:α->List V} {p:δ->Option α} {sc:Bool} (F:dW S (dI S T) fn A E p sc) {z:δ} {r:α} (h:p z=some r) (hg:V.cD (A z)=true) :
 ∃n,cz (run S.E n) fn (A z) []=some (result (E r)):=by
 have h1:=F.h z (E r) (by simp_all)
 obtain⟨⟨rs,m'⟩,u,w⟩:=ζg.1 h1;obtain⟨n,y,H2,e1,e2,e3⟩:=B5 (tS B D) hg u w;refine⟨n,?_⟩;have C:borrows n [] (A z)=some (A z):=by
  have hc:=V.nC hg;generalize A z=l at hc;unfold borrows
  induction l with
  | nil=>rfl
  | cons x l G=>
   simp[V.kS]at hc;simp[iR,en n [] hc.1,G hc.2]
 unfold cz;rw[pY,C];simp[e1 n (Nat.le_refl _),e2 n (Nat.le_refl _),V.lP e3]
section
variable [bA α]
end
end
end Go.VE
namespace Go.VE
variable [bS]
section
variable {H H':bg} {w:V} {o:Nat} {ids:List Nat} {rows:List (List V)}
theorem l8.cell (n:l8 H w o ids rows) {p j:Nat} {r:List V} {u:V} (hr:rows[p]? = some r) (hu:r[j]? = some u) :
 ∃id,ids[p]? = some id/\lE 1 w (p:Int)=some (.hptr o p 0)/\eT H (.load 1 false) [.hptr o p 0]=some (.hsl id 1 0 r.length)/\lE 1 (.hsl id 1 0 r.length) (j:Int)=some (.hptr id j 0)/\eT H (.load 1 false) [.hptr id j 0]=some u:=by
 have C:=(ζe.1 hr).1;have D:=(ζe.1 hu).1;have A:rows≠[]:=by intro e;subst e;simp at hr
 have B:p<ids.length:=by rw[n.len];exact C
 have z:=ζd B;refine⟨ids[p],z,?_,?_,?_,?_⟩
 .have:=n.v;rw[if_neg A]at this;subst this;simp[lE,C]
 .have h1:=n.ob A;have G:=By z hr;simp[eT,dS,h1,Ob.rows,G,cut];rfl
 .simp[lE,D]
 .have h1:=n.r p _ r z hr;simp[eT,dS,h1,Ob.rows,jc,hu,cut];rfl
theorem Nv {ids:List Nat} (h:ids.Nodup) {i j:Nat} {a:Nat} (hi:ids[i]? = some a) (B:ids[j]? = some a):i=j:=by
 have h1:=(ζe.1 hi);have u:=(ζe.1 B);obtain⟨h1,e1⟩:=h1;obtain⟨u,e2⟩:=u;exact(List.getElem_inj h).1 (e1.trans e2.symm)
theorem l8.set (n:l8 H w o ids rows) {p j id:Nat} {r:List V} {u:V} (hr:rows[p]? = some r) (J:j<r.length) (B:ids[p]? = some id) (hu:V.one u=true) (hc:u.cells=[u]) :
 ∃H',fQ H (.store 1) [.hptr id j 0,u]=some (.undef,H')/\l8 H' w o ids (rows.set p (r.set j u))/\H'.length=H.length/\(∀i,i≠id->H'[i]? = H[i]?):=by
 have L:=(ζe.1 hr).1;have z:rows≠[]:=by intro e;subst e;simp at hr
 have h1:=n.r p id r B hr;have O:id<H.length:=(ζe.1 h1).1;have C:(jc r).set j [u]=jc (r.set j u):=by simp[jc,List.map_set]
 have D:o≠id:=λe=>n.ne z (e▸List.mem_of_getElem? B)
 refine⟨H.set id (.row 1 (jc (r.set j u))),?_,⟨?_,λ_=>?_,by simp[n.len],λi G Q hi A=>?_,n.nd,λ_=>n.ne z⟩,by simp,λi hi=>List.getElem?_set_ne (Ne.symm hi)⟩
 .have S:(jc r)[j]? = some [r[j]]:=by simp[jc,J]
  simp only[fQ,h1,S,hc,List.length_singleton,Nat.zero_add,Nat.le_refl,List.all_cons,hu,List.all_nil,Bool.and_self,and_self,if_true,List.take_zero,List.nil_append];rw[<-C];simp
 .rw[n.v];have:rows.set p (r.set j u)≠[]:=by intro e;apply z;simpa using e
  rw[if_neg z,if_neg this,List.length_set]
 .rw[List.getElem?_set_ne (Ne.symm D),Hv hr (by simp)];exact n.ob z
 .by_cases e:i=p
  .subst e;rw[B]at hi;cases hi;rw[List.getElem?_set_self L]at A;cases A;rw[List.getElem?_set_self O]
  .rw[List.getElem?_set_ne (Ne.symm e)]at A;have I:id≠G:=λT=>e (Nv n.nd (T▸hi) B)
   rw[List.getElem?_set_ne I];exact n.r i G Q hi A
end
structure jZ (H:bg) (w:V) (l:List (List V)) (id:Nat):Prop where
 c:∀c∈l,c.length=2/\c.all V.one=true
 v:(w=.bW/\l=[])\/∃off xs,w=.hsl id 2 off l.length/\H[id]? = some (.row 2 xs)/\off+l.length<=xs.length/\(xs.drop off).take l.length=l
section
variable {H H':bg} {w:V} {l:List (List V)} {id:Nat}
theorem jZ.heap (n:jZ H w l id) (h:∀off n,w=.hsl id 2 off n->H'[id]? = H[id]?):jZ H' w l id:=
 ⟨n.c,n.v.imp (λh=>h) λ⟨off,u,e1,e2,e3,e4⟩=>⟨off,u,e1,by rw[h _ _ e1];exact e2,e3,e4⟩⟩
theorem jZ.lt (n:jZ H w l id) {off m:Nat} (h:w=.hsl id 2 off m):id<H.length:=by
 rcases n.v with⟨e,_⟩|⟨_,u,_,e2,_⟩
 .rw[e]at h;cases h
 .exact(ζe.1 e2).1
theorem jZ.more (n:jZ H w l id) (X:bg):jZ (H++X) w l id:=n.heap λ_ _ e=>List.getElem?_append_left (n.lt e)
theorem jZ.len (n:jZ H w l id):qN w=some (.int .i64 l.length):=by
 rcases n.v with⟨rfl,rfl⟩|⟨off,u,rfl,_⟩ <;> rfl
theorem jZ.get (n:jZ H w l id) {i:Nat} {c:List V} (hc:l[i]? = some c):∃p,lE 2 w (i:Int)=some p/\eT H (.load 2 true) [p]=some (.agg c):=by
 have hi:=(ζe.1 hc).1;have u:=(n.c c (List.mem_of_getElem? hc)).1;rcases n.v with⟨_,rfl⟩|⟨off,z,rfl,e2,e3,e4⟩
 .simp at hc
 .refine⟨.hptr id (off+i) 0,by simp[lE,hi],?_⟩
  have:z[off+i]? = some c:=by
   rw[<-e4,List.getElem?_take,if_pos hi,List.getElem?_drop]at hc;exact hc
  simp[eT,dS,e2,Ob.rows,this,cut,<-u];rfl
theorem jZ.tail {c:List V} (n:jZ H w (c::l) id):∃w',iK 2 w (some 1) none=some w'/\jZ H w' l id/\∃off m B,w=.hsl id 2 off m/\w'=.hsl id 2 B l.length:=by
 rcases n.v with⟨_,e⟩|⟨off,u,rfl,e2,e3,e4⟩
 .cases e
 .refine⟨.hsl id 2 (off+1) l.length,?_,⟨λc hc=>n.c c (List.mem_cons_of_mem _ hc),.inr ⟨off+1,u,rfl,e2,by simp at e3;omega,?_⟩⟩,⟨_,_,_,rfl,rfl⟩⟩
  .simp[iK,dQ];omega
  .have hd:(u.drop off).drop 1=u.drop (off+1):=by rw[List.drop_drop]
   rw[<-hd];have:=congrArg (List.drop 1) e4;rw[List.drop_take]at this;simpa using this
theorem jZ.push (n:jZ H w l id) {c:List V} (hc:c.length=2/\c.all V.one=true) (B:l.length+1<=2147483648) :
 ∃H',fQ (H++[.row 2 [c]]) (.append 2) [w,.hsl H.length 2 0 1]=some (.hsl (H.length+1) 2 0 (l.length+1),H')/\jZ H' (.hsl (H.length+1) 2 0 (l.length+1)) (l++[c]) (H.length+1)/\H'.length=H.length+2/\(∀i,i<H.length->(∀off m,w=.hsl id 2 off m->i≠id)->H'[i]? = H[i]?):=by
 have e2:dN (H++[.row 2 [c]]) 2 (.hsl H.length 2 0 1)=some [c]:=by simp[dN,Ob.rows]
 have u:∀c'∈l++[c],c'.length=2/\c'.all V.one=true:=λc' h=>by
  rcases List.mem_append.1 h with h|h
  .exact n.c c' h
  .simp at h;subst h;exact hc
 rcases n.v with⟨rfl,rfl⟩|⟨off,C,rfl,g2,g3,g4⟩
 .have e1:dN (H++[.row 2 [c]]) 2 .bW=some []:=rfl;refine⟨H++[.row 2 [c]]++[.row 2 [c]],?_,⟨u,.inr ⟨0,[c],rfl,by simp,by simp,rfl⟩⟩,by simp,λi hi _=>by rw[List.append_assoc,List.getElem?_append_left hi]⟩
  simp only[fQ,e1,e2,hU,List.length_nil,List.length_singleton,Option.map_some];simp
 .have z:=(ζe.1 g2).1;have e1:dN (H++[.row 2 [c]]) 2 (.hsl id 2 off l.length)=some l:=by
   simp only[dN,if_true,List.getElem?_append_left z,g2,ζb,Ob.rows,g3,g4]
  have A:hU (H++[.row 2 [c]]) (.hsl id 2 off l.length)=some (List.set (H++[Ob.row 2 [c]]) id Ob.dead):=by
   simp only[hU,List.getElem?_append_left z,g2]
  refine⟨List.set (H++[Ob.row 2 [c]]) id Ob.dead++[Ob.row 2 (l++[c])],?_,⟨u,.inr ⟨0,l++[c],by simp,by simp,by simp,List.take_of_length_le (by simp)⟩⟩,by simp,λi hi h=>?_⟩
  .simp only[fQ,e1,e2,A,List.length_singleton,B,if_true,Option.map_some,ζi]
  .rw[List.getElem?_append_left (by simp;omega),List.getElem?_set_ne (Ne.symm (h _ _ rfl)),List.getElem?_append_left hi]
end
noncomputable def Al (rs:List RV):Out×St->Option bE
 | (.exit _,_)=>none
 | (_,st)=>(j7 st rs).bind λl=>match l with
  | [.own d]=>bf st.m d
  | _=>none
theorem Uy {S:Sys} {c:bX} {rs:List RV} {rc:RC} {st:St} {ob:bE} (h:j9 S c (Al rs) rc [] st=some ob):∃o st' d,cC S c rc st=some (o,st')/\(∀id,o≠.exit id)/\j7 st' rs=some [.own d]/\bf st'.m d=some ob:=by
 rw[oP]at h;obtain⟨⟨o,st'⟩,h1,u⟩:=ζg.1 h;have z:∀id,o≠.exit id:=by rintro id rfl;simp[Al]at u
 have A:(j7 st' rs).bind (λl=>match l with|[.own d]=>bf st'.m d|_=>none)=some ob:=by
  cases o with
  | exit id=>exact absurd rfl (z id)
  | norm=>exact u
  | ret=>exact u
 obtain⟨l,B,w⟩:=ζg.1 A;split at w
 .exact⟨o,st',_,h1,z,B,w⟩
 .cases w
theorem Uf {S:Sys} {T:pK} (U:vh S T) (W:∀f a b xs,S.items f a b=some xs->e_ S f a b xs) {f:FuncId} {rf:RF} (Y:T f=some rf) {B:List V} (hg:V.cD B=true) (hn:B.length<=rf.na) {k:Fl} {es:Nat} {xs:List (List V)}
 (hx:∀x∈xs,x.all V.scalar=true) (hk:k=.row\/k=.nil/\xs=[]) (h:j9 S (dI S T) (Al rf.rs) rf.body [] (start (B.map .v) [])=some (.sl k es xs)) :
 ∃n y H',run S.E n (.fn f) B []=some (y,H')/\((k=.nil/\y=.bW)\/(∃id,y=.hsl id es 0 xs.length/\H'[id]? = some (.row es xs))):=by
 obtain⟨o,st',d,h1,L,D,G⟩:=Uy h;have hc:dI S T f (B.map .v) []=some ([.own d],st'.m):=by
  rw[rF Y];unfold mE;rw[if_pos (by simpa using hn),h1]
  cases o with
  | exit id=>exact absurd rfl (L id)
  | norm=>simp only[D,Option.map_some]
  | ret=>simp only[D,Option.map_some]
 obtain⟨O,r1⟩:=wE hg;obtain⟨n,y,H2,ν',Z',st2,F',I,g1,rfl,g3,g4,g5,_⟩:=tS U W f _ _ _ _ hc _ _ B [] (.inr rfl) O r1;obtain⟨z,zs,rfl,e1,e2⟩:=g4.inv;have:=e2.dc;subst this;refine⟨n,_,H2,g1,?_⟩
 cases e1 with
 | own d y Q=>
  obtain⟨k',X,Z,e,u⟩:=Q _ G;cases e;have w:=g5.obj d _ (by rw[g3];exact G)
  rcases hk with rfl|⟨rfl,rfl⟩
  .right;simp only[dO,cN,if_true]at w;obtain⟨I,q1,q2,C,q4,A⟩:=w;obtain⟨A,q6⟩:=A trivial;rw[A,List.drop_zero,<-q6,List.take_of_length_le (Nat.le_refl _)]at C;have:xs=I:=by
    refine List.ext_getElem C.1 λi p q=>?_
    have hi:=C.2 i _ _ (ζd p) (ζd q);refine List.ext_getElem hi.1 λj J q'=>?_
    have hj:=hi.2 j _ _ (ζd J) (ζd q');exact((hj.scalar).1 (List.all_eq_true.1 (hx _ (List.getElem_mem p)) _ (List.getElem_mem J))).symm
   subst this;refine⟨(ν' d).1,?_,q1⟩;show result [_]=_;rw[u];simp[result,r_,A]
  .left;exact⟨rfl,by show result [_]=_;rw[u];rfl⟩
theorem Gn {E:Env} {f:FuncId} {B:List V} {l:List (List V)} {y:V} {H1:bg} (hk:E.own f=true) (hg:V.cD B=true) (D:∀c∈l,c.length=2/\c.all V.one=true/\c.all V.scalar=true)
 (hr:∃n,∀k,n<=k->run E k (.fn f) B []=some (y,H1)) (G:(l=[]/\y=.bW)\/(∃id,y=.hsl id 2 0 l.length/\H1[id]? = some (.row 2 l))) (H:bg) :
 ∃w X id,(∃n,∀k,n<=k->fA E (run E k) f B H=some (w,H++X))/\jZ (H++X) w l id/\(∀off m,w=.hsl id 2 off m->id=H.length):=by
 obtain⟨n,hr⟩:=hr;have A:∀{k:Nat} {l:List V},V.cD l=true->borrows k H l=some l:=by
  intro k l;unfold borrows
  induction l with
  | nil=>intro _;rfl
  | cons a l C=>
   intro h;have h1:V.good a=true/\V.cD l=true:=by simpa [V.cD]using h
   simp only[iR,en k H (V.lP h1.1),C h1.2]
 rcases G with⟨rfl,rfl⟩|⟨id,rfl,z⟩
 .refine⟨.bW,[],0,⟨n,λk u=>?_⟩,⟨λc h=>by simp at h,.inl ⟨rfl,rfl⟩⟩,λoff m h=>by cases h⟩
  simp only[fA,hk,if_true,lT,A hg,hr k u,V.scalar,List.append_nil]
 .refine⟨.hsl H.length 2 0 l.length,[.row 2 l],H.length,⟨n,λk u=>?_⟩,⟨λc h=>⟨(D c h).1,(D c h).2.1⟩,.inr ⟨0,l,rfl,by simp,by simp,by simp⟩⟩,λoff m h=>rfl⟩
  have I:(l.all λx=>x.all V.scalar)=true:=List.all_eq_true.2 λc h=>(D c h).2.2
  simp only[fA,hk,if_true,lT,A hg,hr k u,V.scalar,Bool.false_eq_true,if_false,sP,z,I,and_self,Option.map_some]
end Go.VE
namespace Go.VE
variable [bS]
def Sl.whole {α:Type} (s:Sl α):Option (Sl α):=match s with|.part _=>none|s=>some s
structure B8 (S:Sys) (c:bX) {α δ:Type} [bA δ] (fn:FuncId) (A:α->List V) (p:α->Option (Sl δ)):Prop where
 k:S.E.keep fn=true
 o:S.E.own fn=true
 h:∀z s,p z=some s->∃e m',c fn ((A z).map .v) []=some ([.own e],m')/\bf m' e=some (cS s)
 sc:∀x:δ,(cells x).all V.scalar=true
theorem B8.mk' {S:Sys} {T:pK} {α δ:Type} [bA δ] (rf:RF) {fn:FuncId} {A:α->List V} {p:α->Option (Sl δ)} (h:∀z,Le ((p z).bind λr=>some (cS r)) (cg S (dI S T) (Al rf.rs) (.rc rf.body,[],start ((A z).map .v) [])))
 (B:T fn=some rf:=by kernel_rfl) (hk:S.E.keep fn=true:=by kernel_rfl) (D:S.E.own fn=true:=by kernel_rfl) (G:∀z,(A z).length<=rf.na:=by intro z;exact Nat.le_of_ble_eq_true (by kernel_rfl))
 (sc:∀x:δ,(cells x).all V.scalar=true:=by intro x;rfl):B8 S (dI S T) fn A p where
 k:=hk
 o:=D
 sc:=sc
 h z s u:=by
  have h1:=h z (cS s) (by rw[u];rfl)
  change j9 S (dI S T) (Al rf.rs) rf.body [] (start ((A z).map .v) [])=some (cS s)at h1;obtain⟨o,st',d,g1,g2,g3,g4⟩:=Uy h1;refine⟨d,st'.m,?_,g4⟩;rw[rF B];unfold mE;rw[if_pos (by simpa using G z),g1]
  cases o with
  | exit id=>exact absurd rfl (g2 id)
  | norm=>simp only[g3,Option.map_some]
  | ret=>simp only[g3,Option.map_some]
section
variable {S:Sys} {c:bX} {β γ δ α:Type} [bA δ] {Q:Out×St->Option β} {e:γ->Option β} {cf:Cf}
end
end Go.VE
namespace Go.VE
variable [bS]
structure GD where
 m:Nat
 pre:List (Nat×List Gh)
 nd:List (Nat×List Gh×List Gh)
structure GI where
 m:Nat
 i:Nat
 j:Nat
def V6 {α:Type} (l:List (Nat×List α)) (i:Nat):List α:=match l with
 | []=>[]
 | (k,x)::r=>bif Nat.beq k i then x else V6 r i
def zL (l:List (Nat×List Gh×List Gh)) (i:Nat):List Gh×List Gh:=match l with
 | []=>([],[])
 | (k,x)::r=>bif Nat.beq k i then x else zL r i
def LH (m:Nat):List Nat->List Nat
 | []=>[]
 | x::l=>bif Nat.beq (m % 2) 1 then x::LH (m / 2) l else LH (m / 2) l
def Oi:List Arg->List Nat
 | []=>[]
 | .s n::r=>n::Oi r
 | _::r=>Oi r
def VF (o:RO):List Nat:=(match o.dst with|some d=>[d]|none=>[])++(match o.gd with|some g=>[g.1]|none=>[])++Oi o.az
def Wl (G:GD) (s:GI) (o:RO):RO:={ o with dead:=LH (bif Nat.beq (s.m % 16) 15 then s.m / 16 % 65536 else s.m % 16) (VF o),pre:=V6 G.pre s.i }
def GI.op (s:GI):GI:=⟨bif Nat.beq (s.m % 16) 15 then s.m / 1048576 else s.m / 16,s.i+1,s.j⟩
def Aa (G:GD):List RO->GI->List RO×GI
 | [],s=>([],s)
 | o::r,s=>(Wl G s o::(Aa G r s.op).1,(Aa G r s.op).2)
def zY:List Gh->RC->RC
 | [],c=>c
 | g::l,c=>.gh g (zY l c)
def MC:List Gh->RC->RC
 | [],c=>c
 | g::l,c=>MC l (.hg c g)
def GI.nd (s:GI):GI:=⟨s.m,s.i,s.j+1⟩
def js (G:GD):RC->GI->RC×GI
 | .seq a b,s=>(zY (zL G.nd s.j).1 (.seq (js G a s.nd).1 (js G b (js G a s.nd).2).1),(js G b (js G a s.nd).2).2)
 | .cond x a b,s=>(zY (zL G.nd s.j).1 (.cond x (js G a s.nd).1 (js G b (js G a s.nd).2).1),(js G b (js G a s.nd).2).2)
 | .block id a,s=>(zY (zL G.nd s.j).1 (.block id (js G a s.nd).1),(js G a s.nd).2)
 | .loop a,s=>(zY (zL G.nd s.j).1 (.loop (MC (zL G.nd s.j).2 (js G a s.nd).1)),(js G a s.nd).2)
 | .each g ps a b,s=>(zY (zL G.nd s.j).1 (.each g ps (js G a s.nd).1 (MC (zL G.nd s.j).2 (js G b (js G a s.nd).2).1)),(js G b (js G a s.nd).2).2)
 | .ops l,s=>(zY (zL G.nd s.j).1 (.ops (Aa G l s.nd).1),(Aa G l s.nd).2)
 | .pq l,s=>(zY (zL G.nd s.j).1 (.pq (Aa G l s.nd).1),(Aa G l s.nd).2)
 | .gh g c,s=>(.gh g c,s)
 | .hg c g,s=>(.hg c g,s)
 | c,s=>(zY (zL G.nd s.j).1 c,s.nd)
theorem kD (c:RC):∀l,erase (zY l c)=erase c
 | []=>rfl
 | g::l=>by simp only[zY,erase,kD c l]
theorem zQ:∀l (c:RC),erase (MC l c)=erase c
 | [],c=>rfl
 | g::l,c=>by simp only[MC,zQ l,erase]
theorem yh (G:GD):∀(l:List RO) s,((Aa G l s).1).map RO.strip=l.map RO.strip
 | [],s=>rfl
 | o::r,s=>by simp only[Aa,List.map_cons,yh G r];rfl
theorem lq (G:GD):∀(c:RC) s,erase (js G c s).1=erase c
 | .seq a b,s=>by simp only[js,kD,erase,lq G a,lq G b]
 | .cond x a b,s=>by simp only[js,kD,erase,lq G a,lq G b]
 | .block id a,s=>by simp only[js,kD,erase,lq G a]
 | .loop a,s=>by simp only[js,kD,erase,zQ,lq G a]
 | .each g ps a b,s=>by simp only[js,kD,erase,zQ,lq G a,lq G b]
 | .ops l,s=>by simp only[js,kD,erase,yh]
 | .pq l,s=>by simp only[js,kD,erase,yh]
 | .gh g c,s=>rfl
 | .hg c g,s=>rfl
 | .skip,s=>by simp only[js,kD]
 | .ret,s=>by simp only[js,kD]
 | .exit _,s=>by simp only[js,kD]
theorem II {X:CX} {dr:Bool} {ops:List Oper} {i:Nat} {o:Oper} {r:RO} (h:nk X dr ops i o=some r):r.strip=r:=by
 obtain⟨_,_,_,_,_,_,rfl⟩:=Dn h;rfl
theorem xw {X:CX} {dr:Bool} {ops:List Oper}:∀{l:List Oper} {i:Nat} {r:List RO},kR X dr ops i l=some r->r.map RO.strip=r
 | [],i,r,h=>by cases h;rfl
 | o::l,i,r,h=>by
  simp only[kR]at h;split at h
  .rename_i a b B D;cases h;simp only[List.map_cons,II B,xw D]
  .cases h
theorem IV {X:CX}:∀{c:Code} {ro:Bool} {r:RC},bL X ro c=some r->erase r=r:=by
 intro c
 induction c with
 | region _ ops dr=>
  intro ro r h;simp only[bL]at h;split at h
  .split at h
   .obtain⟨l,h1,rfl⟩:=ζf.1 h;simp only[erase,xw h1]
   .cases h
  .obtain⟨l,h1,rfl⟩:=ζf.1 h;simp only[erase,xw h1]
 | seq a b u w=>
  intro ro r h;simp only[bL]at h;split at h
  .rename_i h1 z;cases h;simp only[erase,u h1,w z]
  .cases h
 | cond c a b u w=>
  intro ro r h;simp only[bL]at h;split at h
  .rename_i h1 z;cases h;simp only[erase,u h1,w z]
  .cases h
 | block id a u=>
  intro ro r h;simp only[bL]at h;obtain⟨l,h1,rfl⟩:=ζf.1 h;simp only[erase,u h1]
 | loop a u=>
  intro ro r h;simp only[bL]at h;obtain⟨l,h1,rfl⟩:=ζf.1 h;simp only[erase,u h1]
 | rangeFunc g A a b u w=>
  intro ro r h;simp only[bL]at h;split at h
  .cases h
  .split at h
   .rename_i h1 z;cases h;simp only[erase,u h1,w z]
   .cases h
 | _=>intro ro r h;first|cases h;rfl|(simp only[bL]at h;cases h;rfl)|(simp only[bL]at h;cases h)
def OR (E:Env) (nm:FuncId->Option Nat) (G:FuncId->Option GD):pK:=λf=>
 (G f).bind λg=>(E.ft f).bind λu=>(bL ⟨E,nm,u.ntmps⟩ false u.body).bind λc=>(u.results.mapM (AR E)).bind λrs=>some ⟨u.ntmps,rs,(js g c ⟨g.m,0,0⟩).1⟩
theorem Bx {E:Env} {nm:FuncId->Option Nat} {G:FuncId->Option GD} {f:FuncId} {rf:RF} (h:OR E nm G f=some rf):∃fi,E.ft f=some fi/\wF E nm fi rf:=by
 unfold OR at h;obtain⟨g,_,h⟩:=ζg.1 h;obtain⟨fi,h1,h⟩:=ζg.1 h;obtain⟨c,u,h⟩:=ζg.1 h;obtain⟨rs,w,h⟩:=ζg.1 h;cases h;exact⟨fi,h1,by rw[u,lq,IV u],w,rfl⟩
theorem xV:∀(g:FuncId) (s:Nat),some g=some s->(λn=>n) s=g:=λ_ _ h=>(Option.some.inj h).symm
def qC (o:Option RF):RF:=o.getD ⟨0,[],.skip⟩
def tb (T:pK) (f:FuncId):RC:=(qC (T f)).body
def tr (T:pK) (f:FuncId):List RV:=(qC (T f)).rs
theorem z7 {o:Option RF} (h:o.isSome=true):o=some (qC o):=by cases o with
 | none=>cases h
 | some r=>rfl
class jt (δ:Type) where
 e:δ->List V
instance WY {α:Type} [bA α]:jt α:=⟨λx=>[enc x]⟩
instance W9:jt Unit:=⟨λ_=>[]⟩
instance W8 {α β:Type} [bA α] [jt β]:jt (α×β):=⟨λx=>enc x.1::jt.e x.2⟩
@[simp] theorem WC {α:Type} [bA α] (x:α):jt.e x=[enc x]:=rfl
@[simp] theorem WE (x:Unit):jt.e x=[]:=rfl
@[simp] theorem WD {α β:Type} [bA α] [jt β] (x:α×β):jt.e x=enc x.1::jt.e x.2:=rfl
class Fc (S:Sys) (c:bX) {δ:Type} (m:Option δ) where
 n:FuncId
 az:List V
 E:δ->List V
 sc:Bool
 F:dW S c n (λ_:Unit=>az) E (λ_=>m) sc
section
variable {S:Sys} {T:pK} {δ:Type} {m:Option δ}
theorem dW.PE {E:δ->List V} (fn:FuncId) (az:List V) (h:Le (m.bind λr=>some (E r)) (cg S (dI S T) (k7 (tr T fn)) (.rc (tb T fn),[],start (az.map .v) [])))
 (B:(T fn).isSome=true) (hk:S.E.keep fn=false) (D:Nat.ble az.length (qC (T fn)).na=true)
 {sc:Bool} (s:sc=true->∀r,(result (E r)).scalar=true):dW S (dI S T) fn (λ_:Unit=>az) E (λ_=>m) sc where
 k:=hk
 h z:=Wy (z7 B) (Nat.le_of_ble_eq_true D) h
 s:=s
abbrev Fc.NE (E:δ->List V) (fn:FuncId) (az:List V) (h:Le (m.bind λr=>some (E r)) (cg S (dI S T) (k7 (tr T fn)) (.rc (tb T fn),[],start (az.map .v) [])))
 (B:(T fn).isSome=true:=by kernel_rfl) (hk:S.E.keep fn=false:=by kernel_rfl) (D:Nat.ble az.length (qC (T fn)).na=true:=by kernel_rfl)
 : Fc S (dI S T) m:=
 ⟨fn,az,E,false,dW.PE fn az h B hk D λh=>nomatch h⟩
abbrev Fc.M [jt δ] (fn:FuncId) (az:List V) (h:Le (m.bind λr=>some (jt.e r)) (cg S (dI S T) (k7 (tr T fn)) (.rc (tb T fn),[],start (az.map .v) [])))
 (B:(T fn).isSome=true:=by kernel_rfl) (hk:S.E.keep fn=false:=by kernel_rfl) (D:Nat.ble az.length (qC (T fn)).na=true:=by kernel_rfl)
 (s:∀r:δ,(result (jt.e r)).scalar=true:=by intro r;kernel_rfl):Fc S (dI S T) m:=
 ⟨fn,az,jt.e,true,dW.PE fn az h B hk D λ_=>s⟩
abbrev Fc.N [jt δ] (fn:FuncId) (az:List V) (h:Le (m.bind λr=>some (jt.e r)) (cg S (dI S T) (k7 (tr T fn)) (.rc (tb T fn),[],start (az.map .v) [])))
 (B:(T fn).isSome=true:=by kernel_rfl) (hk:S.E.keep fn=false:=by kernel_rfl) (D:Nat.ble az.length (qC (T fn)).na=true:=by kernel_rfl)
 : Fc S (dI S T) m:=
 ⟨fn,az,jt.e,false,dW.PE fn az h B hk D λh=>nomatch h⟩
end
abbrev Fc.of {S:Sys} {c:bX} {α δ:Type} {p:α->Option δ} {n:FuncId} {A:α->List V} {E:δ->List V} {b:Bool} (z:α) (F:dW S c n A E p b):Fc S c (p z):=⟨n,A z,E,b,⟨F.k,λ_=>F.h z,F.s⟩⟩
theorem dW.sV {S:Sys} {c:bX} {α δ:Type} {p:α->Option δ} {n:FuncId} {A:α->List V} {E:δ->List V} {b:Bool} (F:∀z,Fc S c (p z)) (i:α) (B:∀z,(F z).n=n) (G:∀z,(F z).az=A z) (D:∀z,(F z).E=E) (J:∀z,(F z).sc=b):dW S c n A E p b where
 k:=by rw[<-B i];exact(F i).F.k
 h z:=by rw[<-B z,<-G z,<-D z];exact(F z).F.h ()
 s:=by rw[<-J i,<-D i];exact(F i).F.s
theorem lJ.sV {S:Sys} {c:bX} {α δ:Type} {p:α->Option δ} {g:FuncId} {w e:List V} {A:α->List V} {R:δ->List V} {b:Bool} [i:Inhabited α] [F:∀z,Fc S c (p z)] (B:∀z,(F z).n=g:=by intro _;kernel_rfl) (D:∀z,(F z).az=w++A z++e:=by intro _;kernel_rfl)
 (G:∀z,(F z).E=R:=by intro _;kernel_rfl) (J:∀z,(F z).sc=b:=by intro _;kernel_rfl):lJ S c g w e A R p b:=
 ⟨dW.sV F default B D G J⟩
section
variable {S:Sys} {c:bX} {β γ δ α:Type} {Q:Out×St->Option β} {e:γ->Option β} {cf:Cf}
theorem o5 (n:Nat) {m:Option β} (h:Le m (cg S c Q (iV S c n cf))) (B:ig S c n cf.1 cf.2.1 cf.2.2=some (iV S c n cf):=by kernel_rfl):Le m (cg S c Q cf):=Ac B h
theorem bt (n:Nat) {m:Option δ} [F:Fc S c m] {f:δ->Option γ} (h:∀x,m=some x->Le ((f x).bind e) (cg S c Q (nx S c n cf λp=>c7 p.st p.d (.v (result (F.E x))))))
 (B:(gT S c n cf).map (λp=>(p.k,(bZ S.N p.st.g p.az).bind lV,(!p.dr||p.now||gp p.st.m p.fr [])))=some (.c,some (F.n,F.az.map .v),true):=by kernel_rfl):Le ((m.bind f).bind e) (cg S c Q cf):=yu n F.F () h B
theorem b7 (n:Nat) {m:Option δ} [F:Fc S c m] {f:δ->Option γ} (h:∀x,m=some x->Le ((f x).bind e) (cg S c Q (nx S c n cf λp=>c7 p.st p.d (.v (result (F.E x))))))
 (B:(gT S c n cf).map (λp=>(p.k,((bZ S.N p.st.g p.az).bind lV).bind λq=>(nK (iX p.st.m 8) q.2).map λvs=>(q.1,vs,((!p.dr||p.now)||gp p.st.m p.fr q.2))))=some (.c,some (F.n,F.az,true)):=by kernel_rfl) (D:F.sc=true:=by kernel_rfl):Le ((m.bind f).bind e) (cg S c Q cf):=
 Up n (u D F.F) () h B
where
 u {b:Bool} {fn:FuncId} {az:List V} {E:δ->List V} {m:Option δ} (h:b=true) (F:dW S c fn (λ_:Unit=>az) E (λ_=>m) b):dW S c fn (λ_:Unit=>az) E (λ_=>m) true:=h▸F
def Qm (cf:Cf):RC:=match cf.1 with|.rc (.loop c)=>c|_=>.skip
def C5 (cf:Cf):Arg×List Nat×RC×RC:=match cf.1 with|.rc (.each g u a b)=>(g,u,a,b)|_=>(.s 0,[],.skip,.skip)
theorem dP {σ ε ρ:Type} {step:σ->Option (Fw σ ε ρ)} (n:Nat) (B:σ->St) (D:ε->Nat×St) (G:ρ->St) {s:σ} {J:ε->Option γ} {fr:ρ->Option γ}
 (h:∀s,Le ((step s).bind λw=>some (Fw.out B D G w)) (cg S c some (.rc (Qm (iV S c n cf)),[],B s)))
 (U:∀x,Le ((J x).bind e) (cg S c Q (.ex (D x).1,(iV S c n cf).2.1,(D x).2))) (hr:∀b,Le ((fr b).bind e) (Q (.ret,G b)))
 (W:ig S c n cf.1 cf.2.1 cf.2.2=some (.rc (.loop (Qm (iV S c n cf))),(iV S c n cf).2.1,B s):=by kernel_rfl):Le (((bV step s).bind (Fw.elim J fr)).bind e) (cg S c Q cf):=
 Mg W h U hr
theorem jN {σ ε:Type} {step:σ->Option (Fw σ ε Empty)} (n:Nat) (B:σ->St) (D:ε->Nat×St) {s:σ} {G:ε->Option γ} {fr:Empty->Option γ}
 (h:∀s,Le ((step s).bind λw=>some (Fw.out B D (λe=>Empty.elim e) w)) (cg S c some (.rc (Qm (iV S c n cf)),[],B s)))
 (J:∀x,Le ((G x).bind e) (cg S c Q (.ex (D x).1,(iV S c n cf).2.1,(D x).2)))
 (U:ig S c n cf.1 cf.2.1 cf.2.2=some (.rc (.loop (Qm (iV S c n cf))),(iV S c n cf).2.1,B s):=by kernel_rfl):Le (((bV step s).bind (Fw.elim G fr)).bind e) (cg S c Q cf):=
 Mg U h J λb=>Empty.elim b
theorem AM {σ ε ρ:Type} {f:FuncId} {x y:List V} {items:List α} {eI:α->List V} {step:α->σ->Option (Fw σ ε ρ)} (n:Nat) (gt:Tb SV) (B:σ->Tb bE) (D:ε->Nat×Tb bE) (G:ρ->Tb bE) {s:σ} {fn:σ->Option γ} {J:ε->Option γ} {fr:ρ->Option γ}
 (hi:S.items f x y=some (items.map eI))
 (h:∀x s,Le ((step x s).bind λw=>some (Fw.vW B D G w)) (cg S c (yN S c (C5 (iV S c n cf)).2.2.2) (.rc (C5 (iV S c n cf)).2.2.1,[],⟨wB gt (C5 (iV S c n cf)).2.1 ((eI x).map .v),B s,pN gt,[],true,0⟩)))
 (U:∀s,Le ((fn s).bind e) (cg S c Q (.nx,(iV S c n cf).2.1,bN gt (B s)))) (W:∀x,Le ((J x).bind e) (cg S c Q (.ex (D x).1,(iV S c n cf).2.1,bN gt (D x).2))) (hr:∀b,Le ((fr b).bind e) (Q (.ret,bN gt (G b))))
 (Y:∀x,(eI x).length=(C5 (iV S c n cf)).2.1.length:=by intro _;kernel_rfl) (hg:qD S.N gt (C5 (iV S c n cf)).1=some (.v (.clo f x y)):=by kernel_rfl)
 (hL:ig S c n cf.1 cf.2.1 cf.2.2=some (.rc (.each (C5 (iV S c n cf)).1 (C5 (iV S c n cf)).2.1 (C5 (iV S c n cf)).2.2.1 (C5 (iV S c n cf)).2.2.2),(iV S c n cf).2.1,bN gt (B s)):=by kernel_rfl):Le (((j8 step items s).bind (Fw.qg fn J fr)).bind e) (cg S c Q cf):=
 UF hL hg hi Y h U W hr
noncomputable def UH (n k:Nat) (B:List Nat) (d:Nat) (S:Sys) (c:bX) (cf:Cf) (v:SV):Cf:=jmp k [] (iV S c n cf) { (iV S c n cf).2.2 with g:=bM (pe B (iV S c n cf).2.2.g) d v }
theorem bC [bA δ] (n k:Nat) (B:List Nat) (d:Nat) {m:Option δ} {f:δ->Option γ} (D:Le (m.bind λr=>cg S c Q (UH n k B d S c cf (cv r))) (cg S c Q cf))
 (h1:∀r,Le ((f r).bind e) (cg S c Q (UH n k B d S c cf (cv r)))):Le ((m.bind f).bind e) (cg S c Q cf):=Rf _ D h1
end
theorem LC {α β:Type} {P:α ⊕ β->Prop} (h1:∀a,P (.inl a)) (B:∀b,P (.inr b)):∀x,P x
 | .inl a=>h1 a
 | .inr b=>B b
end Go.VE
namespace Go.VE
variable [bS]
instance {n:Nat}:DecidableEq (cI n Int):=λa b=>if h:a.l=b.l then .isTrue (by cases a;cases b;cases h;rfl)else .isFalse λe=>h (by rw[e])
theorem vf:∀l:List Int,ir ((l.map (cells (α:=Int))).flatten)=some l
 | []=>rfl
 | a::l=>by
  show ir (.int .i64 a::(l.map (cells (α:=Int))).flatten)=_;simp only[ir,vf l,Option.map_some]
theorem MI (l:List Int):(l.map (cells (α:=Int))).flatten=l.map (V.int .i64):=by
 induction l with
 | nil=>rfl
 | cons a l u=>simp only[List.map_cons,List.flatten_cons,u];rfl
instance {n:Nat}:Key (cI n Int) where
 kk:=.ints n
 ok a:=by
  show ((a.l.map (cells (α:=Int))).flatten.length==n&&(ir (a.l.map (cells (α:=Int))).flatten).isSome)=true;rw[vf,MI,List.length_map,a.len];simp
 eq a b:=by
  show kG (a.l.map (cells (α:=Int))).flatten (b.l.map (cells (α:=Int))).flatten=_;unfold kG;rw[vf,vf];simp only[a.len,b.len,if_true]
  congr 1
  rw[Bool.eq_iff_iff,beq_iff_eq,decide_eq_true_iff];exact⟨λh=>by cases a;cases b;cases h;rfl,λh=>by rw[h]⟩
end Go.VE
namespace Go.VE
variable [bS]
def AQ (m:Tb bE):SV->Bool
 | .v _|.agg _=>true
 | x=>kP m x
def nL:SV->List SV
 | .v x=>x.cells.map .v
 | .agg l=>l
 | x=>[x]
def AH (cells:List SV):List (Nat×Nat)->List SV->Option (List SV)
 | [],[]=>some cells
 | (off,size)::pl,v::vs=>if(nL v).length=size/\off+(nL v).length<=cells.length then AH (cells.take off++nL v++cells.drop (off+(nL v).length)) pl vs else none
 | _,_=>none
theorem Mj (cells:List SV):AH cells [] []=some cells:=rfl
theorem Dm (cells:List SV) (off size:Nat) (pl:List (Nat×Nat)) (v:SV) (vs:List SV):AH cells ((off,size)::pl) (v::vs) =
 if(nL v).length=size/\off+(nL v).length<=cells.length then AH (cells.take off++nL v++cells.drop (off+(nL v).length)) pl vs else none:=rfl
theorem Pw (x:V):nL (.v x)=x.cells.map .v:=rfl
theorem LL (d:Nat):nL (.own d)=[.own d]:=rfl
theorem Mz (d:Nat):nL (.mp d)=[.mp d]:=rfl
theorem Lr (d o:Nat):nL (.ptr d o)=[.ptr d o]:=rfl
theorem OD {m:Tb bE} {v:SV} (h:AQ m v=true):xJ m v=some (nL v):=by
 cases v <;> first|rfl|(unfold xJ;exact if_pos h)|(simp[AQ,kP]at h)
theorem Js {m:Tb bE}:∀{pl:List (Nat×Nat)} {vs cells l:List SV},vs.all (AQ m)=true->AH cells pl vs=some l->sJ m cells pl vs=some l
 | [],[],_,_,_,h=>h
 | [],_::_,_,_,_,h=>by cases h
 | _::_,[],_,_,_,h=>by cases h
 | (off,size)::pl,v::vs,cells,l,B,h=>by
  rw[List.all_cons,ζh]at B;rw[Dm]at h;show (match xJ m v with|some c=>if c.length=size/\off+c.length<=cells.length then sJ m (cells.take off++c++cells.drop (off+c.length)) pl vs else none|none=>none)=some l
  rw[OD B.1];simp only;split at h
  .rename_i hc;rw[if_pos hc];exact Js B.2 h
  .cases h
def DL:SV->Bool
 | .v x=>x.one
 | .agg _=>false
 | _=>true
theorem TU (x:V):DL (.v x)=x.one:=rfl
theorem PG (d:Nat):DL (.own d)=true:=rfl
theorem SQ (d:Nat):DL (.mp d)=true:=rfl
theorem O_ (d o:Nat):DL (.ptr d o)=true:=rfl
theorem Jt {m:Tb bE}:∀{l:List SV},l.all DL=true->l.all (AQ m)=true->l.all (wV m)=true
 | [],_,_=>rfl
 | x::l,h,k=>by
  rw[List.all_cons,ζh]at h k ⊢;refine⟨?_,Jt h.2 k.2⟩;cases x <;> first|exact h.1|exact k.1|(have:=h.1;cases this)
section
variable {S:Sys} {c:bX} {β γ δ α:Type} {Q:Out×St->Option β} {e:γ->Option β} {cf:Cf}
theorem MW {N:Nat->FuncId} {m:Tb bE} {z:List V} {pl:List (Nat×Nat)} {svs l:List SV} (B:(dw svs).isNone=true) (h:sJ m (z.map .v) pl svs=some l):jP N m (.build z pl) svs=some (.agg l):=by
 unfold jP
 cases hv:dw svs with
 | some x=>rw[hv]at B;cases B
 | none=>
  have:wR N m (.build z pl) svs=(sJ m (z.map .v) pl svs).map .agg:=by
   unfold wR;split <;> first|contradiction|(rename_i e _;cases e;rfl)|simp_all
  simp only[this,h,Option.map_some]
theorem VA (n:Nat) (svs l:List SV) (z:List V) (pl:List (Nat×Nat)) {m:Option β} (B:AH (z.map .v) pl svs=some l) (h:Le m (cg S c Q (nx S c n cf λp=>c7 p.st p.d (.agg l))))
 (D:(gT S c n cf).map (λp=>(p.k,bZ S.N p.st.g p.az,(dw svs).isNone,svs.all (AQ p.st.m)))=some (.p (.build z pl),some svs,true,true):=by kernel_rfl):Le m (cg S c Q cf):=by
 obtain⟨p,u,hv⟩:=fI D;simp only[ζc]at hv;refine Ad u ?_ h;rw[hv.1];exact D4 hv.2.1 rfl (MW hv.2.2.1 (Js hv.2.2.2 B))
theorem Wm (n u o:Nat) (l:List SV) {m:Option β} (B:l.all DL=true) (h:Le m (cg S c Q (nx S c n cf (Qq u o l.length l))))
 (D:(gT S c n cf).map (λp=>(p.k,bZ S.N p.st.g p.az,(!p.dr||p.now),l.all (AQ p.st.m),match bf p.st.m u with|some (.box cs)=>Nat.ble (o+l.length) cs.length|_=>false))=some (.l (.store l.length),some [.ptr u o,.agg l],true,true,true):=by kernel_rfl):Le m (cg S c Q cf):=by
 obtain⟨p,C,hv⟩:=fI D;simp only[ζc]at hv;refine Ad C ?_ h;obtain⟨h1,G,I,J,w⟩:=hv;have z:=Jt B J;split at w
 .rename_i cs A;have L:=Nat.le_of_ble_eq_true w;rw[h1,uZ,G];simp only[ζb,I,if_true,mj,A,putCells,z,L,and_self,Option.map_some,Qq]
 .cases w
end
section
variable {S:Sys} {c:bX} {β γ δ:Type} {Q:Out×St->Option β} {e:γ->Option β} {cf:Cf} {κ ν:Type} [bA κ] [DecidableEq κ] [Key κ] [bA ν]
structure TM (κ ν:Type) where
 o:Option (Mo κ ν)
 deriving Inhabited
def TG (m:TM κ ν):V:=match m.o with|none=>.gA|some l=>.fmap (ow l)
theorem Mp (m:Mo κ ν):V.sC (ow m)=true:=by
 induction m with
 | nil=>rfl
 | cons x r u=>show V.sC ((enc x.1,enc x.2)::ow r)=true;simp only[V.sC,lX,u,Bool.and_self]
instance:bA (TM κ ν) where
 cells m:=[TG m]
 agg:=false
 size:=1
 len _:=rfl
 good m:=by
  unfold TG;split
  .rfl
  .simp only[V.cD,V.good,Mp,Bool.and_self]
 one m:=by unfold TG;split <;> rfl
 plain _:=rfl
theorem S9 (m:TM κ ν):V.one (enc m)=true:=by obtain⟨o⟩:=m;cases o <;> rfl
end
end Go.VE
namespace Go.VE
variable [bS]
theorem dW.scalar {S:Sys} {c:bX} {α δ:Type} {fn:FuncId} {A:α->List V} {E:δ->List V} {p:α->Option δ} {b:Bool} (F:dW S c fn A E p b) (h:∀r,(result (E r)).scalar=true):dW S c fn A E p true:=⟨F.k,F.h,λ_=>h⟩
end Go.VE
namespace Go.VE
variable [bS]
section
variable {S:Sys} {c:bX} {β γ δ α:Type} [bA α] {Q:Out×St->Option β} {e:γ->Option β} {cf:Cf}
theorem Q8 {ω:Type} [bA ω] (n u:Nat) {N:Nat} (a:cI N α) (i:Int) (o:Nat) (x:α) (B:a.at i=some x) (y:α) (w:ω) (D:cells y=(cells x).take o++cells w++(cells x).drop (o+bA.size ω)) {m:Option β} (h:Le m (cg S c Q (nx S c n cf λp=>c7 { p.st with m:=bM p.st.m u (bx (a.set i y)) } p.d (.v .undef))))
 (G:(gT S c n cf).map (λp=>(p.k,bZ S.N p.st.g p.az,bf p.st.m u,(!p.dr||p.now),Nat.ble (o+bA.size ω) (bA.size α)))=some (.l (.store (bA.size ω)),some [.ptr u (i.toNat*bA.size α+o),cv w],some (bx a),true,true):=by kernel_rfl):Le m (cg S c Q cf):=by
 obtain⟨p,A,z⟩:=fI G;simp only[ζc]at z;obtain⟨h1,C⟩:=kj A;obtain⟨dr,fr,d,gd,now,T,az,dd,l,fs,st⟩:=p;obtain⟨rfl,I,J,L,O⟩:=z;exact Vy n dr fr (⟨d,gd,now,.l (.store (bA.size ω)),az,dd,[]⟩::l) fs st u a i o x B y (enc w) (by rw[lH];exact D) rfl (by(try dsimp only at *);simp only[h1,C,I,J,L,O,lH,gB,qn]) (by
  simp only[nx,A]at h;exact h)
end
end Go.VE
namespace Go.VE
variable [bS]
noncomputable def FG (rs:List RV):Out×St->Option (bE×List V)
 | (.exit _,_)=>none
 | (_,st)=>(j7 st rs).bind λl=>match l with
  | .own d::r=>(bf st.m d).bind λob=>(dw r).map λys=>(ob,ys)
  | _=>none
theorem AN:∀{l:List SV} {ys:List V},dw l=some ys->l=ys.map .v
 | [],ys,h=>by cases h;rfl
 | .v x::r,ys,h=>by
  simp only[dw]at h;obtain⟨B,h1,rfl⟩:=ζf.1 h;rw[AN h1];rfl
 | .own _::_,_,h|.ptr ..::_,_,h|.el ..::_,_,h|.mp _::_,_,h|.clo ..::_,_,h|.tup _::_,_,h|.agg _::_,_,h|.yl _::_,_,h=>by cases h
theorem Wj {S:Sys} {c:bX} {rs:List RV} {rc:RC} {st:St} {ob:bE} {ys:List V} (h:j9 S c (FG rs) rc [] st=some (ob,ys)):∃o st' d,cC S c rc st=some (o,st')/\(∀id,o≠.exit id)/\j7 st' rs=some (.own d::ys.map .v)/\bf st'.m d=some ob:=by
 rw[oP]at h;obtain⟨⟨o,st'⟩,h1,u⟩:=ζg.1 h;have z:∀id,o≠.exit id:=by rintro id rfl;simp[FG]at u
 have A:(j7 st' rs).bind (λl=>match l with|.own d::r=>(bf st'.m d).bind λob=>(dw r).map λys=>(ob,ys)|_=>none)=some (ob,ys):=by
  cases o with
  | exit id=>exact absurd rfl (z id)
  | norm=>exact u
  | ret=>exact u
 obtain⟨l,B,w⟩:=ζg.1 A;split at w
 .obtain⟨C,D,G⟩:=ζg.1 w;obtain⟨L,I,J⟩:=ζf.1 G;cases J;exact⟨o,st',_,h1,z,by rw[B,AN I],D⟩
 .cases w
structure VZ (S:Sys) (c:bX) {δ ε:Type} [bA δ] [jt ε] (m:Option (Sl δ×ε)) where
 n:FuncId
 az:List V
 k:S.E.keep n=true
 o:S.E.own n=true
 h:∀s r,m=some (s,r)->∃e m',c n (az.map .v) []=some (.own e::(jt.e r).map .v,m')/\bf m' e=some (cS s)
 sc:∀x:δ,(cells x).all V.scalar=true
 sr:∀r:ε,V.cO (jt.e r)=true
abbrev VZ.mk' {S:Sys} {T:pK} {δ ε:Type} [bA δ] [jt ε] {m:Option (Sl δ×ε)} (fn:FuncId) (az:List V) (h:Le (m.bind λr=>some (cS r.1,jt.e r.2)) (cg S (dI S T) (FG (tr T fn)) (.rc (tb T fn),[],start (az.map .v) [])))
 (B:(T fn).isSome=true:=by kernel_rfl) (hk:S.E.keep fn=true:=by kernel_rfl) (D:S.E.own fn=true:=by kernel_rfl) (G:Nat.ble az.length (qC (T fn)).na=true:=by kernel_rfl)
 (sc:∀x:δ,(cells x).all V.scalar=true:=by intro x;rfl) (sr:∀r:ε,V.cO (jt.e r)=true:=by intro r;rfl):VZ S (dI S T) m where
 n:=fn
 az:=az
 k:=hk
 o:=D
 sc:=sc
 sr:=sr
 h s r w:=by
  have u:=z7 B;have h1:=h (cS s,jt.e r) (by rw[w];rfl)
  change j9 S (dI S T) (FG (qC (T fn)).rs) (qC (T fn)).body [] (start (az.map .v) [])=some (cS s,jt.e r)at h1;obtain⟨o,st',d,g1,g2,g3,g4⟩:=Wj h1;refine⟨d,st'.m,?_,g4⟩;rw[rF u];unfold mE;rw[if_pos (by simpa using Nat.le_of_ble_eq_true G),g1]
  cases o with
  | exit id=>exact absurd rfl (g2 id)
  | norm=>simp only[g3,Option.map_some]
  | ret=>simp only[g3,Option.map_some]
section
variable {S:Sys} {c:bX} {β γ δ α:Type} {Q:Out×St->Option β} {e:γ->Option β} {cf:Cf}
end
end Go.VE
namespace Go.VE
variable [bS]
noncomputable def BI (rs:List RV) (B:List Nat):Out×St->Option (List V×dh)
 | (.exit _,_)=>none
 | (_,st)=>(j7 st rs).bind λl=>(dw l).bind λys=>(jL st.m B).map λos=>(ys,os)
theorem WI {S:Sys} {c:bX} {rs:List RV} {B:List Nat} {rc:RC} {st:St} {os:dh} {ys:List V} (h:j9 S c (BI rs B) rc [] st=some (ys,os)):∃o st',cC S c rc st=some (o,st')/\(∀id,o≠.exit id)/\j7 st' rs=some (ys.map .v)/\jL st'.m B=some os:=by
 rw[oP]at h;obtain⟨⟨o,st'⟩,h1,u⟩:=ζg.1 h;have w:∀id,o≠.exit id:=by rintro id rfl;simp[BI]at u
 have z:(j7 st' rs).bind (λl=>(dw l).bind λys=>(jL st'.m B).map λos=>(ys,os))=some (ys,os):=by
  cases o with
  | exit id=>exact absurd rfl (w id)
  | norm=>exact u
  | ret=>exact u
 obtain⟨l,A,C⟩:=ζg.1 z;obtain⟨L,D,G⟩:=ζg.1 C;obtain⟨q,I,J⟩:=ζf.1 G;cases J;exact⟨o,st',h1,w,by rw[A,AN D],I⟩
def mm:Tb bE->dh->Tb bE
 | m,[]=>m
 | m,(d,ob)::r=>mm (bM m d ob) r
theorem G_ {m':dh} {D:List Nat}:∀{B:List Nat} {os m:dh},jL m' B=some os->(os.all λx=>within D x.2)=true->yp D m' B m=some (mm m os)
 | [],os,m,h,_=>by cases h;rfl
 | k::B,os,m,h,hp=>by
  simp only[jL]at h;split at h
  .rename_i v t h1 G;cases h;simp only[List.all_cons,ζh]at hp;simp only[yp,h1,hp.1,if_true,mm];exact G_ G hp.2
  .cases h
theorem back_eq {m':dh} {B:List Nat} {os m:dh} (h:jL m' B=some os) (hp:(os.all λx=>within B x.2)=true):kq m' B m=some (mm m os):=G_ h hp
structure ng (S:Sys) (c:bX) {δ:Type} (m:Option δ) where
 n:FuncId
 az:List SV
 os:dh
 E:δ->List V
 M:δ->dh
 k:S.E.keep n=true
 o:S.E.own n=false
 q:(S.prm n).isNone=true
 h:∀r,m=some r->∃m',c n az os=some ((E r).map .v,m')/\∀m0,kq m' (os.map (·.1)) m0=some (mm m0 (M r))
abbrev ng.mk' {S:Sys} {T:pK} {δ:Type} {m:Option δ} (fn:FuncId) (az:List SV) (os:dh) (E:δ->List V) (M:δ->dh) (h:Le (m.bind λr=>some (E r,M r)) (cg S (dI S T) (BI (tr T fn) (os.map (·.1))) (.rc (tb T fn),[],start az os)))
 (B:(T fn).isSome=true:=by kernel_rfl) (hk:S.E.keep fn=true:=by kernel_rfl) (D:S.E.own fn=false:=by kernel_rfl) (G:(S.prm fn).isNone=true:=by kernel_rfl) (J:Nat.ble az.length (qC (T fn)).na=true:=by kernel_rfl)
 (hp:∀r,((M r).all λx=>within (os.map (·.1)) x.2)=true:=by intro r;kernel_rfl):ng S (dI S T) m where
 n:=fn
 az:=az
 os:=os
 E:=E
 M:=M
 k:=hk
 o:=D
 q:=G
 h r hr:=by
  have u:=z7 B;have h1:=h (E r,M r) (by rw[hr];rfl)
  change j9 S (dI S T) (BI (qC (T fn)).rs (os.map (·.1))) (qC (T fn)).body [] (start az os)=some (E r,M r)at h1;obtain⟨o,st',g1,g2,g3,g4⟩:=WI h1;refine⟨st'.m,?_,λw=>back_eq g4 (hp r)⟩
  rw[rF u];unfold mE;rw[if_pos (Nat.le_of_ble_eq_true J),g1]
  cases o with
  | exit id=>exact absurd rfl (g2 id)
  | norm=>simp only[g3,Option.map_some]
  | ret=>simp only[g3,Option.map_some]
section
variable {S:Sys} {c:bX} {β γ δ:Type} {Q:Out×St->Option β} {e:γ->Option β} {cf:Cf}
theorem uw (n:Nat) {m:Option δ} (F:ng S c m) {f:δ->Option γ} (h:∀x,m=some x->Le ((f x).bind e) (cg S c Q (nx S c n cf λp=>c7 { p.st with m:=mm p.st.m (F.M x) } p.d (.v (result (F.E x))))))
 (B:(gT S c n cf).map (λp=>(p.k,((bZ S.N p.st.g p.az).bind lV).bind λq=>(handed p.st.m q.2).map λos=>(q.1,q.2,os),p.dr))=some (.c,some (F.n,F.az,F.os),false):=by kernel_rfl):Le ((m.bind f).bind e) (cg S c Q cf):=by
 obtain⟨p,z,hv⟩:=fI B;simp only[ζc]at hv;obtain⟨A,C,D⟩:=hv;obtain⟨q,g1,g2⟩:=ζg.1 C;obtain⟨u,g3,g4⟩:=ζg.1 g1;obtain⟨os,g5,g6⟩:=ζf.1 g2;simp only[ζc]at g6;obtain⟨e1,e2,rfl⟩:=g6;refine sA z ?_ h;rw[A,D,AX _ _ _ _ _ _ u q.1 q.2 g3 g4];intro y w;obtain⟨r,hr,w⟩:=ζg.1 w;cases w;obtain⟨m',k1,G⟩:=F.h r hr;have I:S.prm F.n=none:=by
  have:=F.q
  cases J:S.prm F.n with
  | none=>rfl
  | some _=>rw[J]at this;cases this
 have:fV S c p.d false (!false||p.now) (gp p.st.m p.fr) q.1 q.2 p.st=some (.v (result (F.E r)),{ p.st with m:=mm p.st.m (F.M r) }):=by
  unfold fV;rw[e1,e2]at *;simp only[F.k,F.o,I,g5,k1,mc,G,if_true,Bool.not_false,Bool.true_or,Bool.false_and,Bool.false_eq_true,if_false]
 rw[this];rfl
instance:Key ByteArray where
 kk:=.str
 ok _:=rfl
 eq a b:=by
  show some (a==b)=some (decide (a=b));rw[show (a==b)=decide (a=b)from Bool.eq_iff_iff.2 (by cases a;cases b;rename_i x y;show (x==y)=true↔_;simp)]
end
end Go.VE
namespace Go.VE
variable [bS]
noncomputable def KI (rs:List RV) (B:List Nat):Out×St->Option (bE×List V×dh)
 | (.exit _,_)=>none
 | (_,st)=>(j7 st rs).bind λl=>match l with
  | .own d::r=>if B.contains d then none else(bf st.m d).bind λob=>(dw r).bind λys=>(jL st.m B).map λos=>(ob,ys,os)
  | _=>none
theorem WL {S:Sys} {c:bX} {rs:List RV} {B:List Nat} {rc:RC} {st:St} {ob:bE} {ys:List V} {os:dh} (h:j9 S c (KI rs B) rc [] st=some (ob,ys,os)) :
 ∃o st' d,cC S c rc st=some (o,st')/\(∀id,o≠.exit id)/\j7 st' rs=some (.own d::ys.map .v)/\B.contains d=false/\bf st'.m d=some ob/\jL st'.m B=some os:=by
 rw[oP]at h;obtain⟨⟨o,st'⟩,h1,w⟩:=ζg.1 h;have C:∀id,o≠.exit id:=by rintro id rfl;simp[KI]at w
 have D:(j7 st' rs).bind (λl=>match l with|.own d::r=>if B.contains d then none else(bf st'.m d).bind λob=>(dw r).bind λys=>(jL st'.m B).map λos=>(ob,ys,os)|_=>none)=some (ob,ys,os):=by
  cases o with
  | exit id=>exact absurd rfl (C id)
  | norm=>exact w
  | ret=>exact w
 obtain⟨l,G,u⟩:=ζg.1 D;split at u
 .split at u
  .cases u
  .rename_i hc;obtain⟨I,J,L⟩:=ζg.1 u;obtain⟨T,O,Q⟩:=ζg.1 L;obtain⟨q,z,A⟩:=ζf.1 Q;cases A;exact⟨o,st',_,h1,C,by rw[G,AN O],by simpa using hc,J,z⟩
 .cases u
structure Wd (S:Sys) (c:bX) {δ ε:Type} [bA δ] [jt ε] (m:Option (Sl δ×ε)) where
 n:FuncId
 az:List SV
 os:dh
 M:Sl δ×ε->dh
 k:S.E.keep n=true
 o:S.E.own n=false
 q:(S.prm n).isNone=true
 h:∀r,m=some r->∃e m',c n az os=some (.own e::(jt.e r.2).map .v,m')/\bf m' e=some (cS r.1)/\(os.map (·.1)).contains e=false/\∀m0,kq m' (os.map (·.1)) m0=some (mm m0 (M r))
abbrev Wd.mk' {S:Sys} {T:pK} {δ ε:Type} [bA δ] [jt ε] {m:Option (Sl δ×ε)} (fn:FuncId) (az:List SV) (os:dh) (M:Sl δ×ε->dh)
 (h:Le (m.bind λr=>some (cS r.1,jt.e r.2,M r)) (cg S (dI S T) (KI (tr T fn) (os.map (·.1))) (.rc (tb T fn),[],start az os)))
 (B:(T fn).isSome=true:=by kernel_rfl) (hk:S.E.keep fn=true:=by kernel_rfl) (D:S.E.own fn=false:=by kernel_rfl) (G:(S.prm fn).isNone=true:=by kernel_rfl) (J:Nat.ble az.length (qC (T fn)).na=true:=by kernel_rfl)
 (hp:∀r,((M r).all λx=>within (os.map (·.1)) x.2)=true:=by intro r;kernel_rfl):Wd S (dI S T) m where
 n:=fn
 az:=az
 os:=os
 M:=M
 k:=hk
 o:=D
 q:=G
 h r hr:=by
  have u:=z7 B;have h1:=h (cS r.1,jt.e r.2,M r) (by rw[hr];rfl)
  change j9 S (dI S T) (KI (qC (T fn)).rs (os.map (·.1))) (qC (T fn)).body [] (start az os)=some (cS r.1,jt.e r.2,M r)at h1;obtain⟨o,st',d,g1,g2,g3,g4,g5,g6⟩:=WL h1;refine⟨d,st'.m,?_,g5,g4,λw=>back_eq g6 (hp r)⟩
  rw[rF u];unfold mE;rw[if_pos (Nat.le_of_ble_eq_true J),g1]
  cases o with
  | exit id=>exact absurd rfl (g2 id)
  | norm=>simp only[g3,Option.map_some]
  | ret=>simp only[g3,Option.map_some]
section
variable {S:Sys} {c:bX} {β γ:Type} {Q:Out×St->Option β} {e:γ->Option β} {cf:Cf}
end
structure TJ (S:Sys) (c:bX) {α δ:Type} [bA δ] (fn:FuncId) (A:α->List V) (p:α->Option (Sl δ)):Prop where
 k:S.E.keep fn=true
 o:S.E.own fn=false
 q:(S.prm fn).isNone=true
 h:∀z s,p z=some s->∃e m',c fn ((A z).map .v) []=some ([.own e],m')/\bf m' e=some (cS s)
theorem TJ.mk' {S:Sys} {T:pK} {α δ:Type} [bA δ] (rf:RF) {fn:FuncId} {A:α->List V} {p:α->Option (Sl δ)} (h:∀z,Le ((p z).bind λr=>some (cS r)) (cg S (dI S T) (Al rf.rs) (.rc rf.body,[],start ((A z).map .v) [])))
 (B:T fn=some rf:=by kernel_rfl) (hk:S.E.keep fn=true:=by kernel_rfl) (D:S.E.own fn=false:=by kernel_rfl) (G:(S.prm fn).isNone=true:=by kernel_rfl) (J:∀z,(A z).length<=rf.na:=by intro z;exact Nat.le_of_ble_eq_true (by kernel_rfl)):TJ S (dI S T) fn A p where
 k:=hk
 o:=D
 q:=G
 h z s u:=by
  have h1:=h z (cS s) (by rw[u];rfl)
  change j9 S (dI S T) (Al rf.rs) rf.body [] (start ((A z).map .v) [])=some (cS s)at h1;obtain⟨o,st',d,g1,g2,g3,g4⟩:=Uy h1;refine⟨d,st'.m,?_,g4⟩;rw[rF B];unfold mE;rw[if_pos (by simpa using J z),g1]
  cases o with
  | exit id=>exact absurd rfl (g2 id)
  | norm=>simp only[g3,Option.map_some]
  | ret=>simp only[g3,Option.map_some]
theorem HW:∀l:List V,SV.rz (l.map .v)=[]
 | []=>rfl
 | a::l=>by simp only[List.map_cons,SV.rz,SV.Bi,HW l,List.append_nil]
theorem KD {m:Tb bE} (l:List V):handed m (l.map .v)=some []:=by
 unfold handed;rw[HW];rfl
section
variable {S:Sys} {c:bX} {β γ δ α:Type} [bA δ] {Q:Out×St->Option β} {e:γ->Option β} {cf:Cf}
end
end Go.VE
namespace Go.VE
variable [bS]
def P4 (s:Nat) (v:SV) (cf:Cf):Cf:=(cf.1,cf.2.1,{ cf.2.2 with g:=bM cf.2.2.g s v })
section
variable {S:Sys} {c:bX} {β γ δ:Type} {Q:Out×St->Option β} {e:γ->Option β} {cf:Cf}
theorem c8 (n s:Nat) {v B:V} (hv:v=B) {m:Option β} (h:Le m (cg S c Q (P4 s (.v B) (iV S c n cf))))
 (D:(ig S c n cf.1 cf.2.1 cf.2.2).map (λp=>bf p.2.2.g s)=some (some (.v v)):=by kernel_rfl):Le m (cg S c Q cf):=by
 subst hv;obtain⟨p,u,hv⟩:=fI D;have hg:iV S c n cf=p:=by unfold iV;grind
 rw[hg]at h;refine Ac u ?_;have:P4 s (.v v) p=p:=by unfold P4;rw[pI hv]
 rw[this]at h;exact h
end
def cV {α δ:Type} (b:(α->Option δ)->α->Option δ):Nat->α->Option δ
 | 0,_=>none
 | n+1,z=>b (cV b n) z
theorem dW.fix {S:Sys} {c:bX} {α δ:Type} {fn:FuncId} {A:α->List V} {E:δ->List V} {sc:Bool} {b:(α->Option δ)->α->Option δ} (hk:S.E.keep fn=false) (B:sc=true->∀r,(result (E r)).scalar=true)
 (h:∀r,dW S c fn A E r sc->∀z,Le ((b r z).bind λr=>some (E r)) (fE c fn (A z))):∀n,dW S c fn A E (cV b n) sc
 | 0=>⟨hk,λ_=>Le.none _,B⟩
 | n+1=>⟨hk,h _ (dW.fix hk B h n),B⟩
structure vY (S:Sys) (c:bX) {α δ:Type} (fn:FuncId) (A:α->List SV) (O:α->dh) (E:δ->List V) (M:α->δ->dh) (p:α->Option δ):Prop where
 k:S.E.keep fn=true
 o:S.E.own fn=false
 q:(S.prm fn).isNone=true
 h:∀z r,p z=some r->∃m',c fn (A z) (O z)=some ((E r).map .v,m')/\∀m0,kq m' ((O z).map (·.1)) m0=some (mm m0 (M z r))
abbrev ng.of {S:Sys} {c:bX} {α δ:Type} {fn:FuncId} {A:α->List SV} {O:α->dh} {E:δ->List V} {M:α->δ->dh} {p:α->Option δ} (z:α) (F:vY S c fn A O E M p):ng S c (p z):=⟨fn,A z,O z,E,M z,F.k,F.o,F.q,F.h z⟩
theorem vY.fix {S:Sys} {c:bX} {α δ:Type} {fn:FuncId} {A:α->List SV} {O:α->dh} {E:δ->List V} {M:α->δ->dh} {b:(α->Option δ)->α->Option δ} (k:S.E.keep fn=true) (o:S.E.own fn=false) (q:(S.prm fn).isNone=true)
 (h:∀r,vY S c fn A O E M r->∀z B,b r z=some B->∃m',c fn (A z) (O z)=some ((E B).map .v,m')/\∀D,kq m' ((O z).map (·.1)) D=some (mm D (M z B))):∀n,vY S c fn A O E M (cV b n)
 | 0=>⟨k,o,q,λ_ _ h=>by cases h⟩
 | n+1=>⟨k,o,q,h _ (vY.fix k o q h n)⟩
structure wz (S:Sys) (c:bX) {α σ:Type} [bA α] (cl:SV) (g:FuncId) (e:List SV) (os:σ->dh) (p:α->σ->Option (Bool×σ)):Prop where
 cs:∀vs,lV (cl::vs)=some (g,vs++e)
 hd:∀(s:σ) (a:V),handed (os s) [.v a,cl]=some (os s)
 tk:∀s s',jL (os s') ((os s).map (·.1))=some (os s')
 wi:∀s s',((os s').all λx=>within ((os s).map (·.1)) x.2)=true
 put:∀s s',mm (os s) (os s')=os s'
 h:∀x s r,p x s=some r->∀(dst:Option Nat) (old:List SV->Bool) (st:St),st.m=os s->fV S c dst false true old g (.v (enc x)::e) st=some (.v (.bool r.1),{ st with m:=os r.2 })
section
variable {S:Sys} {c:bX} {α σ:Type} [bA α] {g:FuncId}
theorem wz.QI {e:List V} {p:α->Option Bool} (F:lJ S c g [] e (λz:α=>[enc z]) (λr:Bool=>[.bool r]) p true):wz S c (.v (.clo g [] e)) g (e.map .v) (λ_:Unit=>[]) (λx u=>(p x).map λb=>(b,u)) where
 cs vs:=rfl
 hd s a:=KD [a,.clo g [] e]
 tk _ _:=rfl
 wi _ _:=rfl
 put _ _:=rfl
 h x s r hr dst old st w:=by
  obtain⟨b,B,rfl⟩:=ζf.1 hr;have A:fE c g (enc x::e)=some [.bool b]:=F.f.h x [.bool b] (by rw[B];rfl)
  have e1:{ st with m:=([]:dh) }=st:=by
   cases st;simp only at w;subst w;rfl
  rw[e1];unfold fE at A;obtain⟨⟨rs,m'⟩,h1,C⟩:=ζg.1 A;have hk:=F.f.k;unfold fV;have D:cU st.m 8 (.v (enc x)::e.map .v)=some (enc x::e):=wL 8 (enc x::e);simp only[hk,D,h1,C,Bool.false_eq_true,if_false,Bool.true_or,if_true,result,V.scalar]
theorem wz.WO {e:List SV} {os:σ->dh} {p:α->σ->Option (Bool×σ)} [Inhabited α] [Inhabited σ] (F:∀x s,ng S c (p x s)) (G:∀x s,(F x s).n=g:=by intro _ _;kernel_rfl) (J:∀x s,(F x s).az=.v (enc x)::e:=by intro _ _;kernel_rfl) (D:∀x s,(F x s).os=os s:=by intro _ _;kernel_rfl)
 (U:∀x s,(F x s).E=λr=>[.bool r.1]:=by intro _ _;kernel_rfl) (hM:∀x s,(F x s).M=λr=>os r.2:=by intro _ _;kernel_rfl)
 (hd:∀s:σ,jL (os s) (reach (os s) 32 (SV.rz e) [])=some (os s):=by intro _;kernel_rfl)
 (tk:∀s B,jL (os B) ((os s).map (·.1))=some (os B):=by intro _ _;kernel_rfl) (wi:∀s B,((os B).all λx=>within ((os s).map (·.1)) x.2)=true:=by intro _ _;kernel_rfl) (put:∀s B,mm (os s) (os B)=os B:=by intro _ _;kernel_rfl):wz S c (.clo g [] e) g e os p where
 cs vs:=rfl
 hd s a:=by
  have:SV.rz [.v a,.clo g [] e]=SV.rz e:=by simp[SV.rz,SV.Bi]
  unfold handed;rw[this];exact hd s
 tk:=tk
 wi:=wi
 put:=put
 h x s r hr dst old st w:=by
  obtain⟨m',k1,u⟩:=(F x s).h r hr;have hk:=(F x s).k;have z:=(F x s).o;have A:S.prm (F x s).n=none:=by
   have:=(F x s).q
   cases I:S.prm (F x s).n with
   | none=>rfl
   | some _=>rw[I]at this;cases this
  rw[G]at hk z A k1;rw[J,D,U]at k1;rw[D,hM]at u;have C:handed st.m (.v (enc x)::e)=some (os s):=by rw[w];exact hd s
  have u:=u (os s);rw[put]at u;rw[<-w]at u;unfold fV;rw[w]at C u ⊢;simp only[hk,z,A,C,k1,u,mc,List.map_cons,List.map_nil,dw,Option.map_some,if_true,Bool.false_and,Bool.false_eq_true,if_false,result]
end
def C2 {α σ:Type} (s0:Sl α) (p:α->σ->Option (Bool×σ)) (q:Int×σ):Option (Fw (Int×σ) σ (Int×σ)):=
 a_ (decide (q.1<len s0)) ((idx s0 q.1).bind λx=>(p x q.2).bind λy=>a_ y.1 (some (.r (q.1,y.2))) (some (.n (IntKind.wrap .i64 (q.1+1),y.2)))) (some (.x q.2))
noncomputable def ON {α σ:Type} (s0:Sl α) (p:α->σ->Option (Bool×σ)) (x:σ):Option (Int×σ):=(bV (C2 s0 p) (0,x)).bind (Fw.elim (λe=>some (-1,e)) λe=>some e)
noncomputable def yz {α σ:Type} (s0:Sl α) (p:α->σ->Option (Bool×σ)) (x:σ):Option (Bool×σ):=(ON s0 p x).bind λy=>some (decide (y.1>=0),y.2)
section
variable {S:Sys} {c:bX} {α σ β γ:Type} [bA α] {g:FuncId} {Q:Out×St->Option β} {e:γ->Option β} {cf:Cf}
theorem MB (n:Nat) {cl:SV} {ex:List SV} {os:σ->dh} {p:α->σ->Option (Bool×σ)} (F:wz S c cl g ex os p) (x:α) (s:σ) {f:Bool×σ->Option γ} (h:∀r,p x s=some r->Le ((f r).bind e) (cg S c Q (nx S c n cf λq=>c7 { q.st with m:=os r.2 } q.d (.v (.bool r.1)))))
 (B:(gT S c n cf).map (λq=>(q.k,bZ S.N q.st.g q.az,q.dr,q.st.m))=some (.c,some [cl,.v (enc x)],false,os s):=by kernel_rfl):Le (((p x s).bind f).bind e) (cg S c Q cf):=by
 obtain⟨q,w,hv⟩:=fI B;simp only[ζc]at hv;obtain⟨h1,z,A,C⟩:=hv;refine sA w ?_ h;rw[h1,A,AX _ _ _ _ _ _ _ g ([.v (enc x)]++ex) z (F.cs [.v (enc x)])];intro y u;obtain⟨r,hr,u⟩:=ζg.1 u;cases u;have:=F.h x s r hr q.d (gp q.st.m q.fr) q.st C;rw[show (!false||q.now)=true from rfl,List.singleton_append,this];rfl
theorem FW {cl:SV} {ex:List SV} {os:σ->dh} {p:α->σ->Option (Bool×σ)} (F:wz S c cl g ex os p) {rs:List RV} {st:St} {s B:σ} {ys:List V} (h1:j7 st rs=some (ys.map .v)) (D:st.m=os B):BI rs ((os s).map (·.1)) (.ret,st)=some (ys,os B):=by
 show ((j7 st rs).bind λl=>(dw l).bind λys=>(jL st.m ((os s).map (·.1))).map λos=>(ys,os))=_
 rw[h1,D,F.tk s B];simp only[ζb,mc,Option.map_some]
theorem FP (n:Nat) {cl:SV} {ex:List SV} {os:σ->dh} {p:α->σ->Option (Bool×σ)} (F:wz S c cl g ex os p) {rs:List RV} {s B:σ} {r:γ} {e:γ->Option (List V×dh)} (ys:List V) (D:e r=some (ys,os B))
 (G:(ig S c n cf.1 cf.2.1 cf.2.2).map (λq=>(q.1,j7 q.2.2 rs,q.2.2.m))=some (.rt,some (ys.map .v),os B):=by kernel_rfl):Le ((some r).bind e) (cg S c (BI rs ((os s).map (·.1))) cf):=by
 obtain⟨⟨fo,fs,st'⟩,u,hv⟩:=fI G;simp only[ζc]at hv;obtain⟨rfl,w,z⟩:=hv;refine Ac u (Le.of_eq ?_);show rn S c _ Fo.rt fs st'=e r;rw[D];exact FW F w z
theorem JS (n:Nat) {δ:Type} {m:Option δ} (F:ng S c m) (D:handed F.os F.az=some F.os) (hp:∀x,mm F.os (F.M x)=F.M x) {f:δ->Option γ} (h:∀x,m=some x->Le ((f x).bind e) (cg S c Q (nx S c n cf λp=>c7 { p.st with m:=F.M x } p.d (.v (result (F.E x))))))
 (G:(gT S c n cf).map (λp=>(p.k,(bZ S.N p.st.g p.az).bind lV,p.dr,p.st.m))=some (.c,some (F.n,F.az),false,F.os):=by kernel_rfl):Le ((m.bind f).bind e) (cg S c Q cf):=by
 obtain⟨p,w,hv⟩:=fI G;simp only[ζc]at hv;obtain⟨C,I,J,B⟩:=hv;obtain⟨z,g3,g4⟩:=ζg.1 I;refine sA w ?_ h;rw[C,J,AX _ _ _ _ _ _ z F.n F.az g3 g4];intro y A;obtain⟨r,hr,A⟩:=ζg.1 A;cases A;obtain⟨m',k1,u⟩:=F.h r hr;have w:S.prm F.n=none:=by
  have:=F.q
  cases L:S.prm F.n with
  | none=>rfl
  | some _=>rw[L]at this;cases this
 have u:=u p.st.m;rw[B,hp]at u;have:fV S c p.d false (!false||p.now) (gp p.st.m p.fr) F.n F.az p.st=some (.v (result (F.E r)),{ p.st with m:=F.M r }):=by
  unfold fV;rw[B];simp only[F.k,F.o,w,D,k1,u,mc,if_true,Bool.not_false,Bool.true_or,Bool.false_and,Bool.false_eq_true,if_false]
 rw[this];rfl
theorem Rk (n:Nat) {δ:Type} {m:Option δ} (F:ng S c m) {f:δ->Option γ} (h:∀x,m=some x->Le ((f x).bind e) (cg S c Q (nx S c n cf λp=>c7 { p.st with m:=mm p.st.m (F.M x) } p.d (.v (result (F.E x))))))
 (D:(gT S c n cf).map (λp=>(p.k,((bZ S.N p.st.g p.az).bind lV).bind λq=>(handed p.st.m q.2).map λos=>(q.1,q.2,os),p.dr,p.now))=some (.c,some (F.n,F.az,F.os),true,true):=by kernel_rfl)
 (B:∀x,(gT S c n cf).map (λp=>V.cO (F.E x)&&F.os.all λy=>xE (mm p.st.m (F.M x)) y.1)=some true:=by intro x;kernel_rfl):Le ((m.bind f).bind e) (cg S c Q cf):=by
 obtain⟨p,z,hv⟩:=fI D;simp only[ζc]at hv;obtain⟨A,C,G,I⟩:=hv;obtain⟨q,g1,g2⟩:=ζg.1 C;obtain⟨u,g3,g4⟩:=ζg.1 g1;obtain⟨os,g5,g6⟩:=ζf.1 g2;simp only[ζc]at g6;obtain⟨e1,e2,rfl⟩:=g6;refine sA z ?_ h;rw[A,G,AX _ _ _ _ _ _ u q.1 q.2 g3 g4];intro y w;obtain⟨r,hr,w⟩:=ζg.1 w;cases w;obtain⟨m',k1,J⟩:=F.h r hr;have L:S.prm F.n=none:=by
  have:=F.q
  cases O:S.prm F.n with
  | none=>rfl
  | some _=>rw[O]at this;cases this
 have B:=B r;rw[z]at B;have B:=Option.some.inj B;have:fV S c p.d true (!true||p.now) (gp p.st.m p.fr) q.1 q.2 p.st=some (.v (result (F.E r)),{ p.st with m:=mm p.st.m (F.M r) }):=by
  unfold fV;rw[e1,e2]at *;simp only[F.k,F.o,L,g5,k1,J,I,B,mc,if_true,Bool.not_true,Bool.true_and,Bool.or_true,Bool.false_eq_true,if_false]
 rw[this];rfl
end
section
variable {S:Sys} {c:bX} {β γ δ α:Type} [bA δ] {Q:Out×St->Option β} {e:γ->Option β} {cf:Cf}
theorem Rc (n u:Nat) {fn:FuncId} {A:α->List V} {p:α->Option (Sl δ)} (F:B8 S c fn A p) (z:α) {f:Sl δ->Option γ}
 (h:∀x,(p z).bind Sl.whole=some x->Le ((f x).bind e) (cg S c Q (nx S c n cf λq=>{ q.st with g:=bM q.st.g u (.own u),m:=bM q.st.m u (cS x) })))
 (U:(gT S c n cf).map (λq=>(q.d,q.k,((bZ S.N q.st.g q.az).bind lV).bind λr=>(nK (iX q.st.m 8) r.2).map λvs=>(r.1,vs),(!q.dr||q.now),q.st.new u))=some (some u,.c,some (fn,A z),true,true):=by kernel_rfl):Le ((((p z).bind Sl.whole).bind f).bind e) (cg S c Q cf):=by
 obtain⟨q,T,hv⟩:=fI U;simp only[ζc]at hv;obtain⟨W,X,Y,Z,O⟩:=hv;obtain⟨⟨B,args⟩,D,g3⟩:=ζg.1 Y;obtain⟨G,g1,g2⟩:=ζg.1 D;obtain⟨vs,g4,g5⟩:=ζf.1 g3;simp only[ζc]at g5;obtain⟨rfl,rfl⟩:=g5;refine sA T ?_ h;rw[W,X];intro y I;obtain⟨s',J,I⟩:=ζg.1 I;cases I;obtain⟨s,hs,C⟩:=ζg.1 J;obtain⟨e0,m',hc,hm⟩:=F.h z s hs;rw[AX q.dr _ _ _ _ _ G B args g1 g2];have L:cU q.st.m 8 args=some (A z):=by rw[(xM q.st.m 8).2];exact g4
 have w:fV S c (some u) q.dr (!q.dr||q.now) (gp q.st.m q.fr) B args q.st=some (.own u,{ q.st with m:=bM q.st.m u (cS s') }):=by
  unfold fV;simp only[F.k,F.o,if_true,Z,L,hc,dw,hm,cS,O]
  cases s with
  | nil=>cases C;rfl
  | emp=>cases C;rfl
  | row l=>
   cases C;have:om (rows l)=true:=by
    unfold om;rw[List.all_eq_true];intro x hx;obtain⟨a,_,rfl⟩:=List.mem_map.1 hx;exact F.sc a
   simp only[Sl.k,Sl.l,dw,V.cO,this,Bool.and_self,O,if_true];rfl
  | part l=>cases C
 rw[w];rfl
end
def Qw:Out×St->Option (List (List V))
 | (.exit _,_)=>none
 | (_,st)=>some st.want
noncomputable def yl (B:List (List V)) (more:Bool) (xs:List V):Option (Bool×List (List V)):=match B with
 | w::r=>open Classical in if w=xs then some (more || !r.isEmpty,r)else none
 | []=>none
section
variable {S:Sys} {c:bX} {β γ:Type} {Q:Out×St->Option β} {e:γ->Option β} {cf:Cf}
theorem V4 (n:Nat) {B:List (List V)} {more:Bool} (xs:List V) {f:Bool×List (List V)->Option γ}
 (h:∀r,yl B more xs=some r->Le ((f r).bind e) (cg S c Q (nx S c n cf λq=>c7 { q.st with want:=r.2 } q.d (.v (.bool r.1)))))
 (D:(gT S c n cf).map (λq=>(q.k,bZ S.N q.st.g q.az,q.st.want,q.st.more,q.dr))=some (.c,some (.yl ((gT S c n cf).elim 0 λq=>q.st.yid)::xs.map .v),B,more,false):=by kernel_rfl):Le (((yl B more xs).bind f).bind e) (cg S c Q cf):=by
 obtain⟨q,A,hv⟩:=fI D;simp only[ζc]at hv;obtain⟨h1,u,C,G,I⟩:=hv;rw[A]at u;refine sA A ?_ h;intro y z;obtain⟨r,hr,z⟩:=ζg.1 z;cases z;unfold yl at hr;split at hr
 .rename_i w L;split at hr
  .rename_i J;cases hr;rw[h1,I];unfold fL;have u:bZ S.N q.st.g q.az=some (.yl q.st.yid::xs.map .v):=u;simp only[wanted,fU,u,mc,C,J,G,if_true,and_self,Bool.false_eq_true,if_false]
  .cases hr
 .cases hr
theorem Pu {S G:Sys} {c:bX} (Y:G.E=S.E) (hP:∀f q,S.prm f=some q->pF S.E f q) (hS:je S c) (hI:∀f a b xs,S.items f a b=some xs->e_ S f a b xs) {f:FuncId} {fi:FI} {nm:FuncId->Option Nat} {rf:RF} (U:S.E.ft f=some fi) (hN:∀g s,nm g=some s->S.N s=g) (hr:wF S.E nm fi rf) {a b:List V} {xs:List (List V)} (D:a.length+1+b.length<=rf.na) (W:rf.rs=[])
 (h:∀B more,uv B xs more->∀yid,cg S c Qw (.rc rf.body,[],⟨uE 0 (a.map .v++.yl yid::b.map .v),[],[],B,more,yid⟩)=some []):e_ G f a b xs:=by
 have k:e_ S f a b xs:=JF hP hS hI U hN hr D W (λB more w yid=>by
  have h1:=h B more w yid;change j9 S c Qw rf.body [] _=some []at h1;rw[oP]at h1;obtain⟨⟨o,st'⟩,z,u⟩:=ζg.1 h1;refine⟨o,st',z,?_,?_,rfl⟩
  .rintro id rfl;simp[Qw]at u
  .cases o <;> simp[Qw]at u <;> exact u)
 obtain⟨O,Q,it,wH,prm⟩:=G;simp only at Y;subst Y;intro B more w yid J y Z A C H h1 z u I L;exact k B more w yid J ⟨y.vH,y.yield⟩ Z A C H h1 z u I L
end
section
variable {S:Sys} {c:bX} {β γ α:Type} [bA α] {Q:Out×St->Option β} {e:γ->Option β} {cf:Cf}
theorem Vs (n u:Nat) {s:Sl α} {i:Nat} {a:α} {f:Sl α->Option γ} (h:∀B,s.put i a=some B->Le ((f B).bind e) (cg S c Q (nx S c n cf λp=>c7 { p.st with m:=bM p.st.m u (cS B) } p.d (.v .undef))))
 (D:(gT S c n cf).map (λp=>(p.k,bZ S.N p.st.g p.az,bf p.st.m u,(!p.dr||p.now)))=some (.l (.store (bA.size α)),some [.el u i 0,cv a],some (cS s),true):=by kernel_rfl):Le (((s.put i a).bind f).bind e) (cg S c Q cf):=by
 obtain⟨p,w,hv⟩:=fI D;simp only[ζc]at hv;refine sA w ?_ h;rw[hv.1];exact Le.of_eq (Jw hv.2.1 hv.2.2.2 hv.2.2.1 (lH a) rfl)
end
end Go.VE
namespace Go.VE
variable [bS]
namespace catX
instance {n:Nat}:OfNat Arg n:=⟨.s n⟩
def ln:K:=.p .lenSl
def ix:K:=.p (.idxS 1)
def bI (o:BinOp):K:=.p (.bin (some .int) none o)
def ld:K:=.r (.load 1 false)
def g1:List RO:=[o1 4 (.k (.bW)) []]
def g2:List RO:=[o1 5 1 [],o2 6 (bI .lss) [5,.k (.int .i64 0)] []]
def g3:List RO:=[o2 7 (.p (.bad)) [] [],⟨none,none,false,.p .bad,[],[],[]⟩]
def g4:List RO:=[o1 8 1 [],o1 9 0 [],o2 10 (.p (.capSl)) [9] [],o1 11 0 [],o2 12 ln [11] [],o2 13 (bI .sub) [10,12] [],o2 14 (bI .sub) [8,13] [],o1 1 14 []]
def g5:List RO:=[o1 15 1 [],o2 16 (bI .gtr) [15,.k (.int .i64 0)] []]
def g6:List RO:=[o1 17 0 [],o1 18 0 [],o2 19 (.p (.capSl)) [18] [],o2 20 (.p (.slice 1 false true)) [17,19] [],o1 21 1 [],o2 22 (.l (.appMk 1 24 [.bW])) [20,21] [],o1 23 0 [],o2 24 ln [23] [],o2 25 (.p (.slice 1 false true)) [22,24] [],o1 0 25 []]
def g7:List RO:=[o1 26 0 [],o1 4 26 []]
def grow:RC:=.seq (.ops g1) (.seq (.seq (.ops g2) (.cond (.s 6) (.ops g3) (.skip))) (.seq (.seq (.ops g4) (.seq (.ops g5) (.cond (.s 16) (.ops g6) (.skip)))) (.seq (.ops g7) (.ret))))
section
variable {E:Env} {N:Nat->FuncId} {t:Nat}
end
end catX
end Go.VE
namespace Go.VE
variable [bS]
namespace catX
def r1:List RO:=[o1 2 (.k (.bW)) []]
def r2:List RO:=[o1 3 (.k (.int .i64 0)) []]
def r3:List RO:=[o1 9 0 [],o2 10 ln [9] [],o1 11 (.k (.int .i64 0)) []]
def r4:List RO:=[o2 12 (bI .lss) [11,10] []]
def r5:List RO:=[o2 13 ix [9,11] [],o2 14 ld [13] [],o1 5 14 []]
def r6:List RO:=[o1 15 3 [],o1 16 5 [],o2 17 ln [16] [],o2 18 (bI .add) [15,17] [],o1 3 18 []]
def r7:List RO:=[o1 19 3 [],o2 20 (bI .lss) [19,.k (.int .i64 0)] []]
def r8:List RO:=[o2 21 (.p (.bad)) [] [],⟨none,none,false,.p .bad,[],[],[]⟩]
def r9:List RO:=[o2 22 (bI .add) [11,.k (.int .i64 1)] [],o1 11 22 []]
def Gl (gid:Nat):List RO:=[o1 23 3 [],o2 24 .c [.f gid,.k (.bW),23] [],o1 6 24 []]
def HS:List RO:=[o1 25 0 [],o2 26 ln [25] [],o1 27 (.k (.int .i64 0)) []]
def G0:List RO:=[o2 28 (bI .lss) [27,26] []]
def HT:List RO:=[o2 29 ix [25,27] [],o2 30 ld [29] [],o1 8 30 []]
def G5:List RO:=[o1 31 6 [],o1 32 8 [],o2 33 (.l (.append 1)) [31,32] [],o1 6 33 []]
def JZ:List RO:=[o2 34 (bI .add) [27,.k (.int .i64 1)] [],o1 27 34 []]
def r16:List RO:=[o1 35 6 [],o1 2 35 []]
section
variable {E:Env} {N:Nat->FuncId} {F:Frame} {H:bg} {α:Type} [bA α] {s:Sl (Sl α)} {i:Nat}
theorem el {u:Sl α} (h:s.l[i]? = some u):lE 1 (cn s) (i:Int)=some (.fptr [cn u]):=by
 have:=D6 (N:=λn=>n) s .i64 (i:Int) 1 rfl
 simp only[bp]at this;rw[this,show idx s (i:Int)=some u from by unfold idx;rw[if_pos (by omega)];exact h];rfl
theorem WG (s:Sl α):qN (cn s)=some (.int .i64 s.l.length):=by
 have:=yd (N:=λn=>n) s;simpa only[bp]using this
theorem y3:(get F 0=cn s->∃F',(∀call,cZ E N call none r3 F H=some (F',H))/\get F' 9=cn s/\get F' 10=.int .i64 s.l.length/\get F' 11=.int .i64 0/\∀j,j<9->get F' j=get F j) /\
 (get F 0=cn s->∃F',(∀call,cZ E N call none HS F H=some (F',H))/\get F' 25=cn s/\get F' 26=.int .i64 s.l.length/\get F' 27=.int .i64 0/\∀j,j<9->get F' j=get F j):=by
 have h:=WG s;refine⟨λf0=>⟨_,λcall=>vp (v:=cn s) rfl ?_ <| vp (v:=.int .i64 s.l.length) rfl ?_ <| vp (v:=.int .i64 0) rfl ?_ fH,?_,?_,?_,?_⟩,λf0=>⟨_,λcall=>vp (v:=cn s) rfl ?_ <| vp (v:=.int .i64 s.l.length) rfl ?_ <| vp (v:=.int .i64 0) rfl ?_ fH,?_,?_,?_,?_⟩⟩ <;>
 first
 | (simp[bO,bB,bp,f0];done)
 | (simp only[bO,List.map_cons,List.map_nil,bB,bu,br,Nat.reduceEqDiff,if_true,if_false,bp,ln,h];rfl)
 | (simp[bO,bB,bp,bu];done)
 | (simp[bu];done)
 | (intro j u;simp only[bu,br];repeat (rw[if_neg (by omega)]))
theorem y4 {n:Nat}:(get F 11=.int .i64 i->get F 10=.int .i64 n->∃F',(∀call,cZ E N call none r4 F H=some (F',H))/\get F' 12=.bool (decide (i<n))/\∀j,j<12->get F' j=get F j) /\
 (get F 27=.int .i64 i->get F 26=.int .i64 n->∃F',(∀call,cZ E N call none G0 F H=some (F',H))/\get F' 28=.bool (decide (i<n))/\∀j,j<28->get F' j=get F j):=by
 refine⟨λf u=>⟨_,λcall=>vp (v:=.bool (decide (i<n))) rfl ?_ fH,?_,?_⟩,λf u=>⟨_,λcall=>vp (v:=.bool (decide (i<n))) rfl ?_ fH,?_,?_⟩⟩ <;>
 first
 | (simp[bO,bB,bp,bu,bI,jD,qG,f,u];done)
 | (simp[bu];done)
 | (intro j w;simp only[bu,br];repeat (rw[if_neg (by omega)]))
theorem y5 {u:Sl α} (h:s.l[i]? = some u):(get F 9=cn s->get F 11=.int .i64 i->∃F',(∀call,cZ E N call none r5 F H=some (F',H))/\get F' 5=cn u/\∀j,j<12->j≠5->get F' j=get F j) /\
 (get F 25=cn s->get F 27=.int .i64 i->∃F',(∀call,cZ E N call none HT F H=some (F',H))/\get F' 8=cn u/\∀j,j<28->j≠8->get F' j=get F j):=by
 have e:=el h;have e2:eT H (.load 1 false) [.fptr [cn u]]=some (cn u):=by simp[eT,dS,cut,mk]
 refine⟨λf w=>⟨_,λcall=>vp (v:=.fptr [cn u]) rfl ?_ <| vp (v:=cn u) rfl ?_ <| vp (v:=cn u) rfl ?_ fH,?_,?_⟩,λf w=>⟨_,λcall=>vp (v:=.fptr [cn u]) rfl ?_ <| vp (v:=cn u) rfl ?_ <| vp (v:=cn u) rfl ?_ fH,?_,?_⟩⟩ <;>
 first
 | (simp only[bO,List.map_cons,List.map_nil,bB,bu,br,Nat.reduceEqDiff,if_true,if_false,bp,ix,f,w,e,Option.map_some];done)
 | (simp only[bO,List.map_cons,List.map_nil,bB,bu,br,Nat.reduceEqDiff,if_true,if_false,ld];rw[e2];rfl)
 | (simp[bO,bB,bp,bu];done)
 | (simp[bu];done)
 | (intro j A z;simp only[bu,br];rw[if_neg (Ne.symm z)];repeat (rw[if_neg (by omega)]))
structure Acc (H:bg) (w:V) (acc:List (List V)):Prop where
 el:dN H 1 w=some acc
 gr:∃H1,hU H w=some H1/\H1.length=H.length
 sh:w=.bW/\acc=[]\/∃id xs,w=.hsl id 1 0 acc.length/\H[id]? = some (.row 1 xs)/\(acc≠[]->xs=acc)
def upto (s:Sl (Sl α)) (i:Nat):List α:=(s.l.take i).flatMap Sl.l
end
end catX
end Go.VE
namespace Go.VE
variable [bS]
def yD (op:Bool) (x y:Int):Int:=cond op x y
@[simp] theorem Vl (x y:Int):yD true x y=x:=rfl
@[simp] theorem VG (x y:Int):yD false x y=y:=rfl
namespace setX
instance {n:Nat}:OfNat Arg n:=⟨.s n⟩
def fa (k:Nat):K:=.p (.fieldAddr k)
def ld:K:=.r (.load 1 false)
def r1:List RO:=[o2 4 (.a .box) [1] [],o2 5 (.a .box) [2] []]
def r2:List RO:=[o1 6 0 [],o2 7 (fa 0) [4] [],o2 8 ld [7] [],o2 9 (fa 1) [4] [],o2 10 ld [9] [],o2 11 (.p (.idxS 1)) [6,8] [],⟨none,none,false,.l (.store 1),[11,10],[],[]⟩]
def r3:List RO:=[o1 6 0 [],o2 7 (fa 0) [5] [],o2 8 ld [7] [],o2 9 (fa 1) [5] [],o2 10 ld [9] [],o2 11 (.p (.bin (some .int) none .sub)) [10,.k (.int .i64 1)] [],o2 12 (.p (.idxS 1)) [6,8] [],⟨none,none,false,.l (.store 1),[12,11],[],[]⟩]
def code (op:Bool):RC:=.seq (.ops r1) (.ops (if op then r3 else r2))
section
variable {E:Env} {N:Nat->FuncId} {H:bg} {id off L:Nat} {rs:List (List V)}
theorem Q9 {h:Nat} {x y:V} {i:Nat} {v:V} (B:H[h]? = some (.row 2 [[x,y]])) (hv:[x,y][i]? = some v):eT H (.load 1 false) [.hptr h 0 i]=some v:=by
 match i,hv with
 | 0,hv=>cases hv;simp[eT,dS,B,Ob.rows,cut,mk]
 | 1,hv=>cases hv;simp[eT,dS,B,Ob.rows,cut,mk]
 | i+2,hv=>simp at hv
theorem whole (op:Bool) {a b c d:Int} (G:H[id]? = some (.row 1 rs)) (hp:0<=(yD op c a)) (B:(yD op c a).toNat<L) {z:V} (D:rs[off+(yD op c a).toNat]? = some [z]) :
 ∃F' X,Ex E N (code op) [.hsl id 1 off L,.agg [.int .i64 a,.int .i64 b],.agg [.int .i64 c,.int .i64 d]] H .norm F' ((H++X).set id (.row 1 (rs.set (off+(yD op c a).toNat) [.int .i64 (yD op (IntKind.wrap .i64 (d-1)) b)]))):=by
 let X:bg:=[.row 2 [[.int .i64 a,.int .i64 b]],.row 2 [[.int .i64 c,.int .i64 d]]]
 have C:=(ζe.1 G).1;have e1:∃F1,(∀call,cZ E N call none r1 [.hsl id 1 off L,.agg [.int .i64 a,.int .i64 b],.agg [.int .i64 c,.int .i64 d]] H=some (F1,H++X))/\get F1 0=.hsl id 1 off L/\get F1 4=.hptr H.length 0 0/\get F1 5=.hptr (H.length+1) 0 0:=by
  refine⟨_,λcall=>kC (v:=.hptr H.length 0 0) (H1:=H++[.row 2 [[.int .i64 a,.int .i64 b]]]) rfl ?_ <| kC (v:=.hptr (H.length+1) 0 0) (H1:=H++X) rfl ?_ fH,?_,?_,?_⟩
  .simp[bO,bB,get,iW,V.cells,V.one,Mk.val]
  .simp[bO,bB,get,bu,set,iW,V.cells,V.one,Mk.val,X]
  .simp[bu];rfl
  .simp[bu]
  .simp[bu]
 obtain⟨F1,p1,p2,p3,p4⟩:=e1;have h1:(H++X)[id]? = some (.row 1 rs):=by rw[List.getElem?_append_left C];exact G
 have I:(H++X)[H.length]? = some (.row 2 [[.int .i64 a,.int .i64 b]]):=by simp[X]
 have J:(H++X)[H.length+1]? = some (.row 2 [[.int .i64 c,.int .i64 d]]):=by
  rw[List.getElem?_append_right (by omega)];simp[X]
 obtain⟨H1,O⟩:∃H1,H1=H++X:=⟨_,rfl⟩;rw[<-O]at h1 I J;rw[<-O]at p1
 suffices U:∃F',Ex E N (code op) [.hsl id 1 off L,.agg [.int .i64 a,.int .i64 b],.agg [.int .i64 c,.int .i64 d]] H .norm F' (H1.set id (.row 1 (rs.set (off+(yD op c a).toNat) [.int .i64 (yD op (IntKind.wrap .i64 (d-1)) b)])))by
  obtain⟨F',W⟩:=U;exact⟨F',X,by rw[<-O];exact W⟩
 have w:∀p:Int,0<=p->p.toNat<L->lE 1 (.hsl id 1 off L) p=some (.hptr id (off+p.toNat) 0):=λp h0 Y=>by
  unfold lE;rw[if_neg (by omega)];simp[Y]
 have A:∀(q:Nat) (z v:V),rs[q]? = some [z]->v.one=true->fQ H1 (.store 1) [.hptr id q 0,v]=some (.undef,H1.set id (.row 1 (rs.set q [v]))):=λq z v D hv=>by
  simp[fQ,h1,D,Ez hv,hv]
 cases op with
 | false=>
  simp only[VG]at hp B D ⊢;have Q:=Q9 (i:=0) I rfl;have S:=Q9 (i:=1) I rfl;have e2:∃u,(∀call,cZ E N call none r2 F1 H1=some (u,H1.set id (.row 1 (rs.set (off+a.toNat) [.int .i64 b])))):=by
   refine⟨_,λcall=>vp (v:=.hsl id 1 off L) rfl ?_ <| vp (v:=.hptr H.length 0 0) rfl ?_ <| vp (v:=.int .i64 a) rfl ?_ <| vp (v:=.hptr H.length 0 1) rfl ?_ <| vp (v:=.int .i64 b) rfl ?_ <| vp (v:=.hptr id (off+a.toNat) 0) rfl ?_ <| kC (v:=.undef) rfl ?_ fH⟩
   .simp[bO,bB,bp,p2]
   .simp[bO,bB,bp,bu,fa,gW,p3]
   .simp only[bO,List.map_cons,List.map_nil,bB,bu,br,Nat.reduceEqDiff,if_true,if_false,ld,Q,Option.map_some]
   .simp[bO,bB,bp,bu,fa,gW,p3]
   .simp only[bO,List.map_cons,List.map_nil,bB,bu,br,Nat.reduceEqDiff,if_true,if_false,ld,S,Option.map_some]
   .simp only[bO,List.map_cons,List.map_nil,bB,bu,br,Nat.reduceEqDiff,if_true,if_false,bp,w a hp B,Option.map_some]
   .simp only[bO,List.map_cons,List.map_nil,bB,bu,br,Nat.reduceEqDiff,if_true,if_false];exact A _ z _ D rfl
  obtain⟨u,T⟩:=e2;exact⟨u,Ex.seq (Ex.eN p1) (Ex.eN (l:=_) T)⟩
 | true=>
  simp only[Vl]at hp B D ⊢;have Q:=Q9 (i:=0) J rfl;have S:=Q9 (i:=1) J rfl;have e2:∃u,(∀call,cZ E N call none r3 F1 H1=some (u,H1.set id (.row 1 (rs.set (off+c.toNat) [.int .i64 (IntKind.wrap .i64 (d-1))])))):=by
   refine⟨_,λcall=>vp (v:=.hsl id 1 off L) rfl ?_ <| vp (v:=.hptr (H.length+1) 0 0) rfl ?_ <| vp (v:=.int .i64 c) rfl ?_ <| vp (v:=.hptr (H.length+1) 0 1) rfl ?_ <| vp (v:=.int .i64 d) rfl ?_ <| vp (v:=.int .i64 (IntKind.wrap .i64 (d-1))) rfl ?_ <| vp (v:=.hptr id (off+c.toNat) 0) rfl ?_ <| kC (v:=.undef) rfl ?_ fH⟩
   .simp[bO,bB,bp,p2]
   .simp[bO,bB,bp,bu,fa,gW,p4]
   .simp only[bO,List.map_cons,List.map_nil,bB,bu,br,Nat.reduceEqDiff,if_true,if_false,ld,Q,Option.map_some]
   .simp[bO,bB,bp,bu,fa,gW,p4]
   .simp only[bO,List.map_cons,List.map_nil,bB,bu,br,Nat.reduceEqDiff,if_true,if_false,ld,S,Option.map_some]
   .simp[bO,bB,bp,bu,jD]
   .simp only[bO,List.map_cons,List.map_nil,bB,bu,br,Nat.reduceEqDiff,if_true,if_false,bp,w c hp B,Option.map_some]
   .simp only[bO,List.map_cons,List.map_nil,bB,bu,br,Nat.reduceEqDiff,if_true,if_false];exact A _ z _ D rfl
  obtain⟨u,T⟩:=e2;exact⟨u,Ex.seq (Ex.eN p1) (Ex.eN (l:=_) T)⟩
end
end setX
structure Xm (S:Sys) {α δ:Type} [bA δ] (g:FuncId) (e:List V) (A:α->List V) (p:Sl δ->α->Option (Sl δ)):Prop where
 f:∃q,S.prm g=some q/\q.part=false/\S.E.keep g=true/\S.E.own g=false/\∀s z s',p s z=some s'->q.go (bA.size δ) (rows s.l) (A z++e)=some (rows s'.l)/\s'=s.re s'.l
section
variable {S:Sys} {c:bX} {β γ δ α:Type} [bA δ] {Q:Out×St->Option β} {e:γ->Option β} {cf:Cf}
end
end Go.VE
namespace Go.VE
variable [bS]
def snap (w:World):ct:=λb=>match w.heap[b]? with
 | some (.cells c _ _)=>some (.cells c)
 | some (.map es _)=>some (.map es)
 | _=>none
theorem Ou {w:World} (hg:tU (snap w)):cQ (snap w) (λ_=>none) [] w where
 dom _ _:=rfl
 imm b x h:=by
  unfold snap at h;split at h
  .rename_i c el fr u;cases h;exact⟨el,fr,u⟩
  .rename_i es cl u;cases h;exact⟨cl,u⟩
  .cases h
 obs id ob h:=by simp at h
 inj id z ob A p B h:=by simp at h
 gl:=hg
def eX (I:ct) (xs:List V) (vs:List Value):Prop:=xs.length=vs.length/\∀(j:Nat) a b,xs[j]? = some a->vs[j]? = some b->eu I a b
theorem eX.nil {I:ct}:eX I [] []:=⟨rfl,by simp⟩
theorem eX.one {I:ct} {x:V} {v:Value} (h:eu I x v):eX I [x] [v]:=⟨rfl,λj a b h1 u=>by
 cases j with
 | zero=>simp at h1 u;subst h1 u;exact h
 | succ j=>simp at h1⟩
theorem eX.append {I:ct} {xs ys:List V} {B vs:List Value} (h:eX I xs B) (k:eX I ys vs):eX I (xs++ys) (B++vs):=by
 refine⟨by simp[h.1,k.1],λj a b h1 u=>?_⟩
 by_cases w:j<xs.length
 .rw[List.getElem?_append_left w]at h1;rw[List.getElem?_append_left (by rw[<-h.1];exact w)]at u
  exact h.2 j a b h1 u
 .rw[List.getElem?_append_right (by omega)]at h1
  rw[List.getElem?_append_right (by rw[<-h.1];omega),<-h.1]at u
  exact k.2 _ a b h1 u
theorem BH {α β:Type} {f:α->Option β}:∀{l:List α} {r:List β},l.mapM f=some r->r.length=l.length/\∀(i:Nat) a b,l[i]? = some a->r[i]? = some b->f a=some b
 | [],r,h=>by simp only[List.mapM_nil,Option.pure_def,ζa]at h;subst h;simp
 | x::l,r,h=>by
  simp only[List.mapM_cons,Option.bind_eq_bind,Option.pure_def,ζg,ζa]at h;obtain⟨y,D,ys,B,rfl⟩:=h;obtain⟨h1,z⟩:=BH B;refine⟨by simp[h1],λi a b u w=>?_⟩
  cases i with
  | zero=>simp at u w;subst u w;exact D
  | succ i=>exact z i a b (by simpa using u) (by simpa using w)
structure sS {H:Type} (b:DataW H->Nat):Prop where
 lit:∀l,1<=b (.lit l)
 str:∀s,s.length+1<=b (.lit (.string s))
 nil:1<=b .nil
 slice:∀es sp,(es.map b).sum+1<=b (.slice es sp)
 agg:∀ps,(ps.map b).sum+1<=b (.agg ps)
class ck (α:Type) where
 wt:α->Nat
 ok:α->Prop
instance:ck Int where
 wt _:=1
 ok n:=-9223372036854775808<=n/\n<=9223372036854775807
instance:ck Bool where
 wt _:=1
 ok _:=True
instance:ck ByteArray where
 wt s:=s.size+1
 ok s:=s.size<=maxLen
instance {α:Type} [ck α]:ck (Sl α) where
 wt s:=(s.l.map ck.wt).sum+1
 ok s:=(∀x∈s.l,ck.ok x)/\s≠.emp
class Reads (P:Program) (t:TypeId) (α:Type) [bA α] [ck α]:Prop where
 size:P.cellsOf t=bA.size α
 rd:∀{H:Type} {enc:TypeId×Value->H} {w:World} {base:Nat} {spare:Nat->Bool} {held:Bool} {fuel:Nat} {cs:List Value} {d:DataW H} {ps:List MemPlace},
  DataW.trod enc P w base spare held fuel t cs=some (d,ps)->∃a:α,eX (snap w) (cells a) cs/\ck.ok a/\∀b:DataW H->Nat,sS b->ck.wt a<=b d
 shape:∀{w:World} {r:_root_.Go.Reach} {base:Nat} {v:Value},Value.okWide P w r base t v->if bA.agg α then ∃cs,v=.agg cs else v.cells=#[v]
section
variable {P:Program}
theorem qM {w:World} {r:_root_.Go.Reach} {base:Nat} {t:TypeId} {v:Value} {u:_} (hu:P.underlying t=some u) (h1:∀fs,u≠.struct fs) (B:∀n e,u≠.array n e) (h:Value.okWide P w r base t v):v.cells=#[v]:=by
 cases v with
 | agg cs=>
  exfalso;unfold Value.okWide at h;rw[hu]at h;split at h
  .rename_i fs z;cases z;exact h1 _ rfl
  .rename_i n e z;cases z;exact B _ _ rfl
  .unfold Cell.okWide at h;rw[hu]at h;split at h <;> first|(simp at *;done)|skip
   unfold Cell.ok at h;rw[hu]at h;cases u <;> simp at h
 | _=>rfl
theorem Reads.int {t:TypeId} (hu:P.underlying t=some (.int .i64)) (hc:P.cellsOf t=1):Reads P t Int where
 size:=hc
 rd {H enc w base spare held z cs d C} h:=by
  cases z with
  | zero=>simp[DataW.trod]at h
  | succ z=>
   simp only[DataW.trod,hu]at h;split at h <;> first|(simp at h;done)|skip
   .rename_i u;cases u
   .rename_i k D n u;simp only[ζa,TypeDesc.int.injEq]at u;split at h
    .rename_i hk;obtain⟨rfl,A⟩:=hk;subst u;cases h;exact⟨n,eX.one (.int _ n),show _/\_ by simpa [Lit.wf,IntKind.min,IntKind.max,IntKind.signed,IntKind.bits]using A,λb B=>B.lit _⟩
    .simp at h
   all_goals (rename_i u;cases u)
 shape h:=by simp only[show bA.agg Int=false from rfl];exact qM hu (by simp) (by simp) h
theorem Reads.bool {t:TypeId} (hu:P.underlying t=some .bool) (hc:P.cellsOf t=1):Reads P t Bool where
 size:=hc
 rd {H enc w base spare held u cs d B} h:=by
  cases u with
  | zero=>simp[DataW.trod]at h
  | succ u=>
   simp only[DataW.trod,hu]at h;split at h <;> first|(simp at h;done)|skip
   .rename_i b _;cases h;exact⟨b,eX.one (.bool b),trivial,λb A=>A.lit _⟩
   all_goals (rename_i z;cases z)
 shape h:=by simp only[show bA.agg Bool=false from rfl];exact qM hu (by simp) (by simp) h
theorem Reads.str {t:TypeId} (hu:P.underlying t=some .string) (hc:P.cellsOf t=1):Reads P t ByteArray where
 size:=hc
 rd {H enc w base spare held u cs d C} h:=by
  cases u with
  | zero=>simp[DataW.trod]at h
  | succ u=>
   simp only[DataW.trod,hu]at h;split at h <;> first|(simp at h;done)|skip
   all_goals (first|(rename_i z;cases z;done)|skip)
   rename_i s _;split at h
   .rename_i A;cases h;exact⟨s,eX.one (.str s),A,λb B=>B.str _⟩
   .simp at h
 shape h:=by simp only[show bA.agg ByteArray=false from rfl];exact qM hu (by simp) (by simp) h
theorem PJ {w:World} {a:Addr} {n:Nat} {v:Value} (h:w.cell? (a.add n)=some v) (B:n=0\/True):∃c el fr,w.heap[a.block]? = some (.cells c el fr)/\c[a.off+n]? = some v/\(n=0->a.spot=none):=by
 unfold World.cell? Addr.add at h
 by_cases h0:n=0
 .subst h0;simp only[if_true]at h;split at h
  .rename_i c el fr u;split at h
   .simp at h
   .rename_i z;exact⟨c,el,fr,u,h,λ_=>by simpa using z⟩
  .simp at h
 .simp only[if_neg h0]at h;split at h
  .rename_i c el fr u;simp only[Option.isSome_none,Bool.false_eq_true,if_false]at h;exact⟨c,el,fr,u,h,λe=>absurd e h0⟩
  .simp at h
def ru (P:Program) (t:TypeId) (α:Type) [bA α] [ck α] (B:Nat):Prop:=
 ∀{H:Type} {enc:TypeId×Value->H} {w:World} {base:Nat} {spare:Nat->Bool} {held:Bool} {cs:List Value} {d:DataW H} {u:List MemPlace},
  DataW.trod enc P w base spare held B t cs=some (d,u)->∃a:α,eX (snap w) (cells a) cs/\ck.ok a/\∀b:DataW H->Nat,sS b->ck.wt a<=b d
theorem ru.sl {t e:TypeId} {α:Type} [bA α] [ck α] {G:Nat} (hu:P.underlying t=some (.slice e)) (ae:P.cellsOf e=bA.size α) (U:0<bA.size α) (hr:ru P e α G):ru P t (Sl α) (G+1):=by
 intro H enc w base spare held cs d ps h;simp only[DataW.trod,hu]at h;split at h <;> first|(simp at h;done)|skip
 all_goals (first|(rename_i J;cases J;done)|skip)
 .cases h;exact⟨.nil,eX.one .bW,⟨λx T=>by simp[Sl.l]at T,by simp⟩,λb W=>W.nil⟩
 .rename_i e' a len cap J;cases J;split at h
  .rename_i X;obtain⟨elems,af,h⟩:=ζg.1 h;obtain⟨rest,_,h⟩:=ζf.1 h;cases h;obtain⟨Y,Z⟩:=BH af;simp only[List.length_range]at Y;have T:∀i,i<len->∃x:α,∃u:List Value,w.cells? base (a.add (i*P.cellsOf e)) (P.cellsOf e)=some u/\eX (snap w) (cells x) u/\ck.ok x/\∀b:DataW H->Nat,sS b->∀y,elems[i]? = some y->ck.wt x<=b y.1:=λi hi=>by
    have:=Z i i (elems[i]'(by omega)) (by simp[hi]) (ζd (by omega))
    obtain⟨u,h1,L⟩:=ζg.1 this;obtain⟨x,T,hk,W⟩:=hr (show _=some ((elems[i]'(by omega)).1,(elems[i]'(by omega)).2)from L)
    exact⟨x,u,h1,T,hk,λb O y hy=>by
     rw[ζd (by omega)]at hy;cases hy;exact W b O⟩
   have aa:∀n,n<=len->∃z:List α,z.length=n/\(∀i x,z[i]? = some x->∃u:List Value,w.cells? base (a.add (i*P.cellsOf e)) (P.cellsOf e)=some u/\eX (snap w) (cells x) u)/\(∀x∈z,ck.ok x)/\∀b:DataW H->Nat,sS b->(z.map ck.wt).sum<=(((elems.take n).map (·.1)).map b).sum:=by
    intro n
    induction n with
    | zero=>intro _;exact⟨[],rfl,by simp,by simp,by simp⟩
    | succ n ih=>
     intro hn;obtain⟨z,h1,L,h5,h6⟩:=ih (by omega)
     obtain⟨x,u,h3,h4,h7,h8⟩:=T n (by omega)
     refine⟨z++[x],by simp[h1],λi y hy=>?_,λy hy=>?_,λb O=>?_⟩
     rotate_left
     .rcases List.mem_append.1 hy with hy|hy
      .exact h5 y hy
      .simp at hy;subst hy;exact h7
     .have k1:=h6 b O;have I:=h8 b O _ (ζd (by omega))
      rw[List.take_succ,ζd (by omega:n<elems.length)]
      simp only[List.map_append,List.sum_append,Option.toList_some,List.map_cons,List.map_nil,List.sum_cons,List.sum_nil];omega
     by_cases hi:i<z.length
     .rw[List.getElem?_append_left hi]at hy;exact L i y hy
     .rw[List.getElem?_append_right (by omega)]at hy
      have:i-z.length=0:=by
       cases hk:i-z.length with
       | zero=>rfl
       | succ k=>rw[hk]at hy;simp at hy
      rw[this]at hy;simp at hy;subst hy;have:i=n:=by omega
      subst this;exact⟨u,h3,h4⟩
   obtain⟨z,B,ah,ab,ai⟩:=aa len (Nat.le_refl _);refine⟨.row z,eX.one ?_,⟨ab,by simp⟩,λb O=>?_⟩
   rotate_left
   .have k:=ai b O;rw[List.take_of_length_le (by omega)]at k
    have I:=O.slice (elems.map (·.1)) (rest.map (·.1));show (z.map ck.wt).sum+1<=_;omega
   show eu _ (.fsl (bA.size α) (rows z)) _
   cases hl:z with
   | nil=>
    subst hl;simp at B;subst B;exact .fsl0 _ _ _
   | cons x0 xr=>
    rw[<-hl];have ao:0<len:=by rw[<-B,hl];simp
    have Q:∀i x,z[i]? = some x->∀j y,(cells x)[j]? = some y->∃v,w.cell? ((a.add (i*bA.size α)).add j)=some v/\eu (snap w) y v:=by
     intro i x hi j y hy;obtain⟨u,h1,L⟩:=ah i x hi;rw[ae]at h1;unfold World.cells? at h1;split at h1
     .obtain⟨g1,g2⟩:=BH h1;have hj:j<bA.size α:=by rw[<-gB x];exact(ζe.1 hy).1
      obtain⟨v,hv⟩:∃v,u[j]? = some v:=⟨_,ζd (by rw[g1];simpa using hj)⟩
      exact⟨v,g2 j j v (by simp[hj]) hv,L.2 j y v hy hv⟩
     .simp at h1
    have an:∀i j,(a.add (i*bA.size α)).add j=a.add (i*bA.size α+j)\/True:=λ_ _=>.inr trivial
    have A:∀i x,z[i]? = some x->∀j y,(cells x)[j]? = some y->∃c el fr v,w.heap[a.block]? = some (.cells c el fr)/\c[a.off+i*bA.size α+j]? = some v/\eu (snap w) y v/\(i=0->j=0->a.spot=none):=by
     intro i x hi j y hy;obtain⟨v,h1,L⟩:=Q i x hi j y hy;obtain⟨c,el,fr,g1,g2,g3⟩:=PJ h1 (.inr trivial);have W:(a.add (i*bA.size α)).block=a.block:=by unfold Addr.add;split <;> rfl
     have ho:(a.add (i*bA.size α)).off=a.off+i*bA.size α:=by unfold Addr.add;split <;> simp_all
     rw[W]at g1;rw[ho]at g2;refine⟨c,el,fr,v,g1,g2,L,?_⟩;rintro rfl rfl;have:=g3 rfl;simpa [Addr.add]using this
    have aj:∃y,(cells x0)[0]? = some y:=⟨_,ζd (by rw[gB];exact U)⟩
    obtain⟨y0,ak⟩:=aj;obtain⟨c,el,fr,v0,C,_,_,D⟩:=A 0 x0 (by rw[hl];rfl) 0 y0 ak
    have D:=D rfl rfl;obtain⟨b,o,sp⟩:=a;simp only at D C;subst D;have hI:snap w b=some (.cells c):=by unfold snap;rw[C]
    have S:(rows z).length=len:=by rw[kB,B]
    rw[<-S];refine .fsl _ _ b o cap c hI (by rw[S];exact X.2.1) (λr hr=>?_) (λr hr y hy=>?_) ?_ (λi j r y v hr hy hv=>?_)
    .obtain⟨x,_,rfl⟩:=List.mem_map.1 hr;exact gB x
    .obtain⟨x,_,rfl⟩:=List.mem_map.1 hr;exact List.all_eq_true.1 (qn x) y hy
    .
     obtain⟨xl,ad⟩:∃x,z[len-1]? = some x:=⟨_,ζd (by omega)⟩
     obtain⟨yl,al⟩:∃y,(cells xl)[bA.size α-1]? = some y:=⟨_,ζd (by rw[gB];omega)⟩
     obtain⟨c2,_,_,v2,k1,I,_,_⟩:=A (len-1) xl ad (bA.size α-1) yl al;simp only at k1 I;rw[C]at k1;cases k1;have:=(Array.getElem?_eq_some_iff.1 I).1;rw[S];have e:len*bA.size α=(len-1)*bA.size α+bA.size α:=by
      obtain⟨m,rfl⟩:∃m,len=m+1:=⟨len-1,by omega⟩
      simp[Nat.add_mul]
     omega
    .simp only[rows,List.getElem?_map,ζf]at hr;obtain⟨x,am,rfl⟩:=hr;obtain⟨c2,_,_,v2,k1,I,k3,_⟩:=A i x am j y hy;simp only at k1 I;rw[C]at k1;cases k1;rw[hv]at I;cases I;exact k3
  .simp at h
theorem ru.We {t e:TypeId} {α:Type} [bA α] [ck α] {B:Nat} (hu:P.underlying t=some (.slice e)) (G:P.cellsOf e=bA.size α) (D:0<bA.size α) (hr:∀g,g<B->ru P e α g):ru P t (Sl α) B:=by
 cases B with
 | zero=>intro H enc w base spare held cs d u h;simp[DataW.trod]at h
 | succ f=>exact ru.sl hu G D (hr f (Nat.lt_succ_self f))
theorem Reads.sl {t e:TypeId} {α:Type} [bA α] [ck α] [Reads P e α] (hu:P.underlying t=some (.slice e)) (hc:P.cellsOf t=1) (B:0<bA.size α):Reads P t (Sl α) where
 size:=hc
 rd h:=ru.We hu (Reads.size (α:=α)) B (λ_ _ {_ _ _ _ _ _ _ _ _}=>Reads.rd (P:=P) (t:=e) (α:=α)) h
 shape h:=by simp only[show bA.agg (Sl α)=false from rfl];exact qM hu (by simp) (by simp) h
theorem eX.seg {I:ct} {acc xs:List V} {cs:List Value} {o n:Nat} (h:eX I acc (cs.take o)) (k:eX I xs ((cs.drop o).take n)):eX I (acc++xs) (cs.take (o+n)):=by
 rw[List.take_add];exact h.append k
theorem eX.fin {I:ct} {xs:List V} {cs:List Value} {n:Nat} (h:eX I xs (cs.take n)) (B:cs.length=n):eX I xs cs:=by
 rw[List.take_of_length_le (by omega)]at h;exact h
theorem ru.st {t:TypeId} {fs:Array Field} {α:Type} [bA α] [ck α] {B:Nat} (hu:P.underlying t=some (.struct fs)) (hc:P.cellsOf t=bA.size α)
 (h:∀{H:Type} {enc:TypeId×Value->H} {w:World} {base:Nat} {spare:Nat->Bool} {held:Bool} {cs:List Value} {l:List (DataW H×List MemPlace)},cs.length=bA.size α ->
  (fs.toList.mapM λf=>DataW.trod enc P w base spare held B f.type ((cs.drop f.offset).take (P.cellsOf f.type)))=some l->∃a:α,eX (snap w) (cells a) cs/\ck.ok a/\∀b:DataW H->Nat,sS b->ck.wt a<=((l.map (·.1)).map b).sum+1):ru P t α (B+1):=by
 intro H enc w base spare held cs d I hr;simp only[DataW.trod,hu]at hr;split at hr <;> first|(simp at hr;done)|skip
 all_goals (first|(rename_i u;cases u;done)|skip)
 rename_i A;obtain⟨l,h1,C⟩:=ζf.1 hr;cases C;obtain⟨a,k1,D,G⟩:=h (by rw[A,hc]) h1
 exact⟨a,k1,D,λb z=>Nat.le_trans (G b z) (z.agg _)⟩
theorem Reads.of {t:TypeId} {fs:Array Field} {α:Type} [bA α] [ck α] (hu:P.underlying t=some (.struct fs)) (hc:P.cellsOf t=bA.size α) (D:bA.agg α=true) (h:∀B,ru P t α B):Reads P t α where
 size:=hc
 rd hr:=h _ hr
 shape hv:=by
  rw[if_pos D];unfold Value.okWide at hv;rw[hu]at hv;obtain⟨cs,h1,_⟩:=hv;exact⟨cs,h1⟩
theorem Reads.st {t:TypeId} {fs:Array Field} {α:Type} [bA α] [ck α] (hu:P.underlying t=some (.struct fs)) (hc:P.cellsOf t=bA.size α) (D:bA.agg α=true)
 (h:∀{H:Type} {enc:TypeId×Value->H} {w:World} {base:Nat} {spare:Nat->Bool} {held:Bool} {B:Nat} {cs:List Value} {l:List (DataW H×List MemPlace)},cs.length=bA.size α ->
  (fs.toList.mapM λf=>DataW.trod enc P w base spare held B f.type ((cs.drop f.offset).take (P.cellsOf f.type)))=some l->∃a:α,eX (snap w) (cells a) cs/\ck.ok a/\∀b:DataW H->Nat,sS b->ck.wt a<=((l.map (·.1)).map b).sum+1):Reads P t α:=
 Reads.of hu hc D λB=>by
  cases B with
  | zero=>intro H enc w base spare held cs d u h;simp[DataW.trod]at h
  | succ f=>exact ru.st hu hc h
theorem Reads.arg {t:TypeId} {α:Type} [bA α] [ck α] [Reads P t α] {H:Type} {B:TypeId×Value->H} {w:World} {base:Nat} {spare:Nat->Bool} {held:Bool} {r:_root_.Go.Reach} {b:Nat} {v:Value} {d:DataW H} {ps:List MemPlace}
 (hv:Value.okWide P w r b t v) (h:DataW.Trod B P w base spare held t v d ps):∃a:α,bF (snap w) (λ_=>none) (enc a) v/\ck.ok a/\∀b:DataW H->Nat,sS b->ck.wt a<=b d:=by
 obtain⟨G,h⟩:=h;obtain⟨a,⟨h1,z⟩,C,D⟩:=Reads.rd (P:=P) (t:=t) (α:=α) h;have u:=Reads.shape (P:=P) (t:=t) (α:=α) hv;refine⟨a,?_,C,D⟩
 cases A:bA.agg α with
 | true=>
  rw[A,if_pos rfl]at u;obtain⟨cs,rfl⟩:=u;rw[DI A];refine .c _ _ (.agg _ _ (by simpa [Value.cells]using h1) (λj x y I J=>z j x y I (by simpa [Value.cells]using J)))
 | false=>
  rw[A]at u;simp only[Bool.false_eq_true,if_false]at u;rw[u]at z;rw[uo A]at z;exact .c _ _ (z 0 _ _ rfl rfl)
end
end Go.VE
namespace Go.VE
variable [bS]
open Go.ChangeShapes Go.WideShapes Go.ChangeAt Go.RowKit
structure G4 (w w':World):Prop where
 kept:w.keptBut w' (λ_=>False)
 fz:∀a:Addr,a.block<w.heap.size->w'.frozen? a=w.frozen? a
theorem Fy {I I':ct} {μ':Mu} {H':bg} {w w':World} (s:Step I (λ_=>none) [] w I' μ' H' w'):G4 w w':=by
 have A:∀b,b<w.heap.size->w'.heap[b]? = w.heap[b]? := λb z=>s.frame b z (by rintro⟨id,p,ob,h,_⟩;simp at h)
 refine⟨⟨s.os,s.out.out,λi hi=>?_⟩,λa z=>?_⟩
 .rw[A i hi];split
  .rename_i h1 u;rw[h1]at u;cases u;exact⟨rfl,rfl,rfl,λ_ _=>rfl⟩
  .rename_i h1 u;rw[h1]at u;cases u;exact .inr ⟨rfl,rfl⟩
  .rfl
 .unfold World.frozen?;rw[A _ z]
theorem HO {P:Program} {call:dn} (hc:kF P call) {f:FuncId} {args:List V} {b:Bool} {H':bg} (h:call (.fn f) args []=some (.bool b,H')) {w:World} {vs:List Value}
 (B:tU (snap w)) (hv:cF (snap w) (λ_=>none) args vs):Calls P f vs.toArray w λe w'=>e=.returned (.bool b)/\G4 w w':=by
 intro cs;have k:=((hc.fn f args [] _ H' h).2 (snap w) (λ_=>none) w vs (Ou B) hv)
 obtain⟨e,w',fr,⟨u,I',μ',rfl,hu,_,C⟩,z,h1,D⟩:=k.2 cs (by simp[Fence.room,fr])
 refine⟨_,w',fr,⟨?_,Fy C⟩,z.comes,h1,D⟩
 cases hu with
 | c _ _ A=>cases A;rfl
variable {P:Program} {H:Type} {enc:TypeId×Value->H}
theorem Fq {B:List TypeId} {vs:List Value} {ds:List (DataW H)} {ps:List MemPlace} {w w':World} (hg:G4 w w') (h:DataW.TrodAll enc P w 0 (λ_=>true) true B vs ds ps):DataW.TrodAll enc P w' 0 (λ_=>true) true B vs ds ps:=by
 have z:∀p:MemPlace,p.block<w.heap.size->w.sameAt w' p:=by
  intro p A;have k:=hg.kept.2.2 p.block A
  cases p with
  | cell b off=>
   simp only[World.sameAt,World.cell?];simp only[MemPlace.block]at k A;split at k
   .rename_i c t fr c' D C h1 u;rw[h1,u];simp only;have:=k.2.2.2 off (λx=>x)
    simpa using this
   .rename_i h1 u;rw[h1,u]
   .rw[k]
  | map b=>
   simp only[World.sameAt];simp only[MemPlace.block]at k A;split at k
   .rename_i c t fr c' D C h1 u;obtain⟨rfl,rfl,L,G⟩:=k;rw[h1,u];have:c'=c:=Array.ext_getElem? λi=>G i (λx=>x)
    rw[this]
   .rename_i h1 u;rcases k with k|⟨rfl,rfl⟩
    .exact k.elim
    .rw[h1,u]
   .exact k
 induction B generalizing vs ds ps with
 | nil=>cases vs <;> cases ds <;> simp_all [DataW.TrodAll]
 | cons t B I=>
  cases vs with
  | nil=>simp[DataW.TrodAll]at h
  | cons v vs=>
   cases ds with
   | nil=>simp[DataW.TrodAll]at h
   | cons d ds=>
    obtain⟨p,q,⟨n,h1⟩,u,rfl⟩:=h;exact⟨p,q,⟨n,DataW.trod_carry n _ _ _ h1 λx J=>z x (DataW.trod_lt n _ _ _ h1 x J)⟩,I u,rfl⟩
theorem Mf {T:TypeId->Prop} (K:Kids P T) (hz:∀t e,T t->P.underlying t=some (.slice e)->0<P.cellsOf e) {f:Func} {s:ChangeSpec} {apart fresh handsOn again:Bool} {W G:World} {args:Array Value} {ds gs:List (DataW H)} {before:List MemPlace} {tb:TypeId}
 (hT:∀t∈f.params.toList,T t) (B:s.vars=[]) (D:s.fn H (ds++gs)={ results:=[.lit (.bool true)],args:=ds }) (J:f.resultTypes=#[tb]) (U:P.underlying tb=some .bool)
 (Y:DataW.Whole enc P f.params.toList s.vars apart W args.toList ds gs before) (hg:G4 W G):s.post enc P f apart fresh handsOn again W args (.bool true) G:=by
 have z:=Y;obtain⟨p,q,S,hV,rfl,I,L⟩:=Y;rw[B]at hV;obtain⟨rfl,rfl⟩:=trodVars_none hV;have hr:∀(b:Nat) (w:Nat->Bool) (hd:Bool),DataW.TrodAll enc P G b w hd f.resultTypes.toList ((Value.bool true).resultList f.resultTypes.size) (s.fn H (ds++[])).results []:=λ_ _ _=>by
  rw[J,D];exact trodAll_cons_mk (shut_bool U _) trodAll_mk0
 have Q:∀w:Nat->Bool,(∀x∈p++[],w x.block=true)->DataW.TrodAll enc P G 0 w true f.params.toList args.toList (s.fn H (ds++[])).args p:=λw O=>by
  rw[D];exact DataW.TrodAll.respare K hz hT (Fq hg S) (λx u=>O x (List.mem_append_left _ u))
 have hv:∀w:Nat->Bool,DataW.TrodVars enc P G w s.vars (s.fn H (ds++[])).vars []:=λw=>by rw[D,B];rfl
 have A:=λx u=>z.lt x u
 refine⟨ds,[],p++[],[],p,[],z,hr _ _ _,Q _ λx u=>by simpa using A x u,hv _,World.keptBut_mono (λx u=>u.elim) hg.kept,λ_=>⟨ok_one J rfl (okWide_bool_mk U _),?_⟩⟩
 refine⟨_,_,[]++p++[],⟨[]++p,[],trodAll_append (Q _ λ_ _=>rfl) (hr _ _ _),hv _,rfl,λb off u=>?_,λh=>by simpa using L h⟩,λx u _=>by simpa using u⟩
 have C:MemPlace.cell b off∈p++[]:=by simpa using u
 rw[hg.fz _ (A _ C)];exact I b off C
end Go.VE
namespace Go.VE
variable [bS]
instance:ck U8 where
 wt _:=1
 ok n:=0<=n.v/\n.v<=255
theorem Reads.u8 {P:Program} {t:TypeId} (hu:P.underlying t=some (.int .u8)) (hc:P.cellsOf t=1):Reads P t U8 where
 size:=hc
 rd {H enc w base spare held z cs d C} h:=by
  cases z with
  | zero=>simp[DataW.trod]at h
  | succ z=>
   simp only[DataW.trod,hu]at h;split at h <;> first|(simp at h;done)|skip
   .rename_i u;cases u
   .rename_i k D n u;simp only[ζa,TypeDesc.int.injEq]at u;split at h
    .rename_i hk;obtain⟨rfl,A⟩:=hk;subst u;cases h;exact⟨⟨n⟩,eX.one (.int _ n),show _/\_ by simpa [Lit.wf,IntKind.min,IntKind.max,IntKind.signed,IntKind.bits]using A,λb B=>B.lit _⟩
    .simp at h
   all_goals (rename_i u;cases u)
 shape h:=by simp only[show bA.agg U8=false from rfl];exact qM hu (by simp) (by simp) h
end Go.VE
namespace Go.VE
variable [bS]
theorem K2 {m:Tb bE} {n:Nat} {rs:List SV} {b:Bool} (h:cU m n rs=some [.bool b]):rs=[.v (.bool b)]:=by
 cases rs with
 | nil=>cases n <;> simp[cU]at h
 | cons x r=>
  have h1:shut m n x=some (.bool b)/\cU m n r=some []:=by
   unfold cU at h;split at h
   .rename_i y s h1 w;simp only[ζa,List.cons.injEq]at h;obtain⟨rfl,rfl⟩:=h;exact⟨h1,w⟩
   .cases h
  have w:r=[]:=by
   cases r with
   | nil=>rfl
   | cons y r=>
    have:=h1.2;unfold cU at this;split at this <;> simp at this
  subst w;have u:=h1.1
  cases x with
  | v y=>unfold shut at u;simp only[ζa]at u;rw[u]
  | own d=>unfold shut at u;split at u <;> simp only[ζa,reduceCtorEq]at u;rename_i k es A _;cases k <;> simp[nX]at u
  | ptr d o=>
   cases n with
   | zero=>simp[shut]at u
   | succ n=>
    unfold shut at u;split at u <;> try cases u
    split at u <;> try cases u
    split at u <;> cases u
  | mp d=>unfold shut at u;split at u <;> cases u
  | clo f a b=>
   cases n with
   | zero=>simp[shut]at u
   | succ n=>unfold shut at u;split at u <;> cases u
  | tup l=>
   cases n with
   | zero=>simp[shut]at u
   | succ n=>unfold shut at u;obtain⟨_,_,z⟩:=ζf.1 u;cases z
  | _=>cases n <;> simp[shut]at u
theorem PK {S:Sys} {T:pK} (B:vh S T) (D:∀f a b xs,S.items f a b=some xs->e_ S f a b xs) {f:FuncId} {xs:List V} (hg:V.cD xs=true) (h:fE (dI S T) f xs=some [.bool true]) :
 ∃n H',run S.E n (.fn f) xs []=some (.bool true,H'):=by
 unfold fE at h;obtain⟨⟨rs,m⟩,h1,u⟩:=ζg.1 h;have:=K2 u;simp only at this;subst this;exact R6 B D hg h1 rfl
theorem Lh {S:Sys} {T:pK} {P:Program} (B:vh S T) (D:∀f a b xs,S.items f a b=some xs->e_ S f a b xs) (hc:∀n,kF P (run S.E n)) {f:FuncId} {xs:List V} (hg:V.cD xs=true) (h:fE (dI S T) f xs=some [.bool true])
 {w:World} {args:Array Value} (G:tU (snap w)) (hv:cF (snap w) (λ_=>none) xs args.toList):Calls P f args w λe w'=>e=.returned (.bool true)/\G4 w w':=by
 obtain⟨n,H',hr⟩:=PK B D hg h;have:=HO (hc n) hr G hv;simpa using this
theorem Reads.FO {P:Program} {t:TypeId} {α:Type} [bA α] [ck α] [Reads P t α] {H:Type} {B:TypeId×Value->H} {w:World} {base b:Nat} {spare:Nat->Bool} {held:Bool} {v:Value} {d:DataW H} {ps:List MemPlace} {params:Array TypeId} {args:Array Value}
 (D:∀(j:Nat) t v,params[j]? = some t->args[j]? = some v->Value.okWide P w .any b t v) (j:Nat) (h1:params[j]? = some t) (G:args[j]? = some v) (h:DataW.Trod B P w base spare held t v d ps) :
 ∃a:α,bF (snap w) (λ_=>none) (enc a) v/\ck.ok a/\∀b:DataW H->Nat,sS b->ck.wt a<=b d:=Reads.arg (D j t v h1 G) h
end Go.VE
namespace Go.VE
theorem Pp {w:World} {g:Nat} {l:List Int} (h:∀i,i<l.length->w.cell? ⟨g,i,none⟩=some (.int .i64 (l.getD i 0))) (h0:0<l.length):eu (snap w) (.fptr (l.map (V.int .i64))) (.pointer (some ⟨g,0,none⟩)):=by
 have h1:=h 0 h0;unfold World.cell? at h1;split at h1
 .rename_i c t fr u;have C:snap w g=some (.cells c):=by unfold snap;simp only at u;rw[u]
  have hc:∀i,w.cell? ⟨g,i,none⟩=c[i]? := λi=>by unfold World.cell?;simp only at u ⊢;rw[u];rfl
  refine .fptr _ _ _ c C ?_ ?_
  .rw[Nat.zero_add,List.length_map];have:=h (l.length-1) (by omega)
   rw[hc]at this;have:=(Array.getElem?_eq_some_iff.1 this).1;omega
  .intro j y v A hv;rw[Nat.zero_add,<-hc]at hv;rw[List.getElem?_map]at A;obtain⟨z,B,rfl⟩:=ζf.1 A;have D:=(ζe.1 B).1;rw[h j D]at hv;cases hv;have:l.getD j 0=z:=by simp[List.getD,B]
   rw[this];exact .int _ _
 .cases h1
end Go.VE
namespace Go.VE
variable [bS]
theorem dG (n:Nat) (h:n<9223372036854775807):IntKind.wrap .i64 ((n:Int)+1)=((n+1:Nat):Int):=by
 simp[IntKind.wrap,IntKind.bits,IntKind.signed];omega
theorem gL (n:Int) (h1:-9223372036854775808<=n) (B:n<=9223372036854775807):IntKind.wrap .i64 n=n:=by
 simp[IntKind.wrap,IntKind.bits,IntKind.signed];omega
section
variable {α β:Type} {P:β->Prop}
theorem jo (s:Sl α) (i:Nat):idx s (i:Int)=s.l[i]? := by
 unfold idx;rw[if_pos (by omega)];rfl
theorem bT {s:Sl α} {i:Nat} (h:i<s.l.length):idx s (i:Int)=some s.l[i]:=by rw[jo,ζd h]
theorem TV {s:Sl α} {i:Int} (h0:0<=i):idx s i=s.l[i.toNat]? := by unfold idx;rw[if_pos h0]
theorem AB (s:Sl α) (i:Nat) (h:i<=s.l.length):∃x,jQ s none (some (i:Int))=some x/\x.l=s.l.take i:=by
 unfold jQ dQ;simp only[Option.getD_none,Option.getD_some];rw[if_pos (by omega)]
 cases s <;> simp[Sl.l]at h ⊢ <;> simp[h]
theorem bH {γ:Type} {a b:γ}:a_ true a b=a:=rfl
theorem bG {γ:Type} {a b:γ}:a_ false a b=b:=rfl
theorem oT (a b:Bool):a_ a (some b) (some false)=some (a&&b):=by cases a <;> rfl
theorem mO (a b:Bool):a_ a (some true) (some b)=some (a||b):=by cases a <;> rfl
theorem th (a:Bool) (x y:β):a_ a (some x) (some y)=some (if a then x else y):=by cases a <;> rfl
end
def place {α:Type} (f:α->Bool) (l:List α):Int:=match l.findIdx? f with
 | some i=>i
 | none=>-1
theorem Ax {α:Type} {f:α->Bool} {l:List α} {i:Nat} (h:∀j,j<i->∀x,l[j]? = some x->f x=false) (hi:l.length<=i):l.findIdx? f=none:=by
 rw[List.findIdx?_eq_none_iff];intro x w;obtain⟨j,u⟩:=List.getElem?_of_mem w;have:j<l.length:=(ζe.1 u).1;exact h j (by omega) x u
theorem Ix {α:Type} {f:α->Bool} {l:List α} {i:Nat} {x:α} (h:∀j,j<i->∀x,l[j]? = some x->f x=false) (B:l[i]? = some x) (D:f x=true):l.findIdx? f=some i:=by
 rw[List.findIdx?_eq_some_iff_getElem];obtain⟨hi,rfl⟩:=ζe.1 B;exact⟨hi,D,λj u=>by rw[h j u _ (ζd (by omega))];simp⟩
theorem wS {α:Type} {step:Int->Option (Fw Int Unit Int)} {s:Sl α} {p:α->Option Bool} {f:α->Bool} (hp:∀x∈s.l,p x=some (f x)) (U:s.l.length<9223372036854775807)
 (J:∀i,step i=a_ (decide (i<len s)) ((idx s i).bind λB=>(p B).bind λD=>a_ D (some (.r i)) (some (.n (IntKind.wrap .i64 (i+1))))) (some (.x ()))) :
 (bV step 0).bind (Fw.elim (λ_=>some (-1)) (λe=>some e))=some (place f s.l):=by
 refine Wp.eq (gO (λi:Int=>∃n:Nat,i=n/\n<=s.l.length/\∀j,j<n->∀x,s.l[j]? = some x->f x=false) (λi:Int=>s.l.length-i.toNat) ⟨0,rfl,Nat.zero_le _,λj G=>absurd G (by omega)⟩ ?_)
 rintro i ⟨n,rfl,I,w⟩;rw[J,dy];refine⟨λh=>?_,λh=>?_⟩
 .have u:n<s.l.length:=by simpa [len]using h
  rw[bT u,ζb,hp _ (List.getElem_mem u),ζb,dy];refine⟨λz=>?_,λz=>?_⟩
  .rw[bl];show Wp (some (n:Int)) _;rw[bl];unfold place;rw[Ix w (ζd u) z]
  .rw[bl];refine⟨⟨n+1,dG n (by omega),by omega,λj G x A=>?_⟩,?_⟩
   .by_cases e:j=n
    .subst e;rw[ζd u]at A;cases A;exact z
    .exact w j (by omega) x A
   .rw[dG n (by omega)];simp;omega
 .have C:s.l.length<=n:=by simpa [len]using h
  rw[bl];show Wp (some (-1:Int)) _;rw[bl];unfold place;rw[Ax w C]
theorem wo {α:Type} (f:α->Bool) (l:List α):decide (place f l>=0)=l.any f:=by
 unfold place
 cases h:l.findIdx? f with
 | none=>
  rw[List.findIdx?_eq_none_iff]at h;have:l.any f=false:=by rw[List.any_eq_false];intro x u;simp[h x u]
  rw[this];rfl
 | some i=>
  obtain⟨hi,w,_⟩:=List.findIdx?_eq_some_iff_getElem.1 h;have:l.any f=true:=List.any_eq_true.2 ⟨_,List.getElem_mem hi,w⟩;rw[this];simp
theorem On {α σ ε ρ:Type} {step:α->σ->Option (Fw σ ε ρ)} {l:List α} (I:Nat->σ->Prop) (D:ε->Prop) (pr:ρ->Prop) {s:σ} (h0:I 0 s)
 (h:∀i a s,l[i]? = some a->I i s->Wp (step a s) λw=>match w with|.n B=>I (i+1) B|.x e=>D e|.r b=>pr b) :
 Wp (j8 step l s) λw=>match w with|.n B=>I l.length B|.x e=>D e|.r b=>pr b:=by
 have key:∀(r:List α) (i:Nat) (s:σ),l.drop i=r->i<=l.length->I i s->Wp (j8 step r s) λw=>match w with|.n B=>I l.length B|.x e=>D e|.r b=>pr b:=by
  intro r
  induction r with
  | nil=>
   intro i s hd hi z;have:i=l.length:=by have:=List.drop_eq_nil_iff.1 hd;omega
   subst this;exact⟨_,rfl,z⟩
  | cons a r C=>
   intro i s hd hi z;have u:i<l.length:=by
    apply Classical.byContradiction;intro L;rw[List.drop_eq_nil_of_le (by omega)]at hd;cases hd
   have G:=List.drop_eq_getElem_cons u;rw[G]at hd;simp only[List.cons.injEq]at hd;obtain⟨w,J,A⟩:=h i a s (by rw[ζd u,hd.1]) z
   simp only[j8,J,ζb]
   cases w with
   | n B=>exact C (i+1) B hd.2 (by omega) A
   | x e=>exact⟨_,rfl,A⟩
   | r b=>exact⟨_,rfl,A⟩
 exact key l 0 s rfl (Nat.zero_le _) h0
theorem DG {α σ ε ρ γ:Type} {step:α->σ->Option (Fw σ ε ρ)} {l:List α} {fn:σ->Option γ} {B:ε->Option γ} {fr:ρ->Option γ} {P:γ->Prop} (I:Nat->σ->Prop) {s:σ} (h0:I 0 s)
 (h:∀i a s,l[i]? = some a->I i s->Wp (step a s) λw=>match w with|.n D=>I (i+1) D|.x e=>Wp (B e) P|.r b=>Wp (fr b) P)
 (G:∀s,I l.length s->Wp (fn s) P):Wp ((j8 step l s).bind (Fw.qg fn B fr)) P:=by
 rw[qp];refine(On I _ _ h0 h).mono ?_;intro w u
 cases w with
 | n s=>exact G s u
 | x e=>exact u
 | r b=>exact u
end Go.VE
