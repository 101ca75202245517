/-
 Certificates; functions by hand; readings; plain laws.
-/
import Derived.WalkKit
import Derived.ProofKit
import Derived.OpenShut
import Derived.Test.YtimppgndlmehbaaGreatS1
set_option linter.all false
namespace Go.VE
variable [bX]
abbrev Cf:=Fo×List Fm×St
section
variable (S:Sys) (c:cq) {β:Type} (Q:Out×St->Option β)
noncomputable abbrev ck (cf:Cf):Option β:=rn S c Q cf.1 cf.2.1 cf.2.2
noncomputable def ja (n:Nat) (cf:Cf):Cf:=(h_ S c n cf.1 cf.2.1 cf.2.2).getD cf
structure EC where
 dr:Bool
 fr:List Nat
 d:Option Nat
 gd:Option (Nat×Bool)
 now:Bool
 k:K
 az:List Arg
 dd:List Nat
 l:List RO
 fs:List Fm
 st:St
noncomputable def iD (n:Nat) (cf:Cf):Option EC:=match h_ S c n cf.1 cf.2.1 cf.2.2 with
 | some (.ops dr fr (⟨d,gd,now,k,az,dd,[]⟩::l),fs,st)=>match wanted st.g gd with
  | some true=>some ⟨dr,fr,d,gd,now,k,az,dd,l,fs,st⟩
  | _=>none
 | _=>none
noncomputable def nx (n:Nat) (cf:Cf) (φ:EC->St):Cf:=match iD S c n cf with
 | some p=>(.ops p.dr (if p.dr then(match p.k with|.p _|.r _=>p.fr|_=>match p.d with|some d=>d::p.fr|none=>p.fr)else p.fr) p.l,p.fs,oS p.dd (φ p))
 | none=>cf
end
def uN (s:Nat) (b:Bool) (cf:Cf):Cf:=(cf.1,cf.2.1,{ cf.2.2 with g:=bT cf.2.2.g s (.v (.bool b)) })
def jmp (k:Nat) (fr:List Nat) (cf:Cf) (st:St):Cf:=match cf with
 | (.ops dr _ l,fs,_)=>(.ops dr fr (l.drop k),fs,st)
 | _=>(.rt,[],st)
def uI:RC->List Nat->List Fm->St->Cf
 | c,[],fs,st=>(.rc c,fs,st)
 | .seq a b,i::p,fs,st=>if i=0 then uI a p (.seq b::fs) st else uI b p fs st
 | .cond _ a b,i::p,fs,st=>if i=0 then uI a p fs st else uI b p fs st
 | .block id c,_::p,fs,st=>uI c p (.blk id::fs) st
 | .gh _ c,_::p,fs,st=>uI c p fs st
 | .hg c g,_::p,fs,st=>uI c p (.gst g::fs) st
 | .loop c,_::p,_,st=>uI c p [] st
 | .each _ _ _ b,_::p,_,st=>uI b p [] st
 | c,_,fs,st=>(.rc c,fs,st)
section
variable {S:Sys} {c:cq} {β γ δ α:Type} {Q:Out×St->Option β} {e:γ->Option β} {cf:Cf}
theorem jR {n:Nat} {p:EC} (h:iD S c n cf=some p):h_ S c n cf.1 cf.2.1 cf.2.2=some (.ops p.dr p.fr (⟨p.d,p.gd,p.now,p.k,p.az,p.dd,[]⟩::p.l),p.fs,p.st)/\wanted p.st.g p.gd=some true:=by
 unfold iD at h
 grind
theorem uO {n:Nat} {m:Option δ} {φ:δ->EC->St} {f:δ->Option γ} {p:EC} (B:iD S c n cf=some p) (D:Le (m.bind λx=>some (φ x p)) (fA S c p.dr p.fr ⟨p.d,none,p.now,p.k,p.az,[],[]⟩ p.st))
 (h:∀x,m=some x->Le ((f x).bind e) (ck S c Q (nx S c n cf (φ x)))):Le ((m.bind f).bind e) (ck S c Q cf):=by
 obtain⟨h1,q⟩:=jR B;refine CU h1 rfl q D λx t=>?_
 have:=h x t;simp[nx,B]at this;omega
theorem yu {n:Nat} {m:Option β} {φ:EC->St} {p:EC} (B:iD S c n cf=some p) (D:fA S c p.dr p.fr ⟨p.d,none,p.now,p.k,p.az,[],[]⟩ p.st=some (φ p))
 (h:Le m (ck S c Q (nx S c n cf φ))):Le m (ck S c Q cf):=by
 obtain⟨h1,q⟩:=jR B;refine qK h1 rfl q D ?_;simp[nx,B]at h;omega
theorem f_ {α β:Type} {o:Option α} {f:α->β} {b:β} (h:o.map f=some b):∃a,o=some a/\f a=b:=ζf.1 h
theorem Dy (n:Nat) {m:Option β} {B:Cf} (h:Le m (ck S c Q B)) (D:h_ S c n cf.1 cf.2.1 cf.2.2=some B:=by kernel_rfl):Le m (ck S c Q cf):=Ds D h
theorem bD (n s:Nat) {t:Bool} {x y:Option γ} (B:Le (x.bind e) (ck S c Q (uN s true (ja S c n cf)))) (D:Le (y.bind e) (ck S c Q (uN s false (ja S c n cf))))
 (G:(h_ S c n cf.1 cf.2.1 cf.2.2).map (λp=>bk p.2.2.g s)=some (some (.v (.bool t))):=by kernel_rfl):Le ((bg t x y).bind e) (ck S c Q cf):=by
 obtain⟨p,q,hv⟩:=f_ G;have hg:ja S c n cf=p:=by unfold ja;grind
 rw[hg]at B D;refine Ds q ?_;cases t
 .have:uN s false p=p:=by unfold uN;rw[rL hv]
  rw[this]at D;exact D
 .have:uN s true p=p:=by unfold uN;rw[rL hv]
  rw[this]at B;exact B
theorem cI (n s:Nat) {t:Bool} {x y:Option γ} (B:Le (x.bind e) (ck S c Q (uN s false (ja S c n cf)))) (D:Le (y.bind e) (ck S c Q (uN s true (ja S c n cf))))
 (G:(h_ S c n cf.1 cf.2.1 cf.2.2).map (λp=>bk p.2.2.g s)=some (some (.v (.bool (!t)))):=by kernel_rfl):Le ((bg t x y).bind e) (ck S c Q cf):=by
 obtain⟨p,q,hv⟩:=f_ G;have hg:ja S c n cf=p:=by unfold ja;grind
 rw[hg]at B D;refine Ds q ?_;cases t
 .have:uN s true p=p:=by unfold uN;rw[show V.bool true=V.bool (!false)from rfl,rL hv]
  rw[this]at D;exact D
 .have:uN s false p=p:=by unfold uN;rw[show V.bool false=V.bool (!true)from rfl,rL hv]
  rw[this]at B;exact B
theorem u_ (n k:Nat) (fr:List Nat) (st:δ->St) {m:Option δ} {f:δ->Option γ} (B:Le (m.bind λr=>ck S c Q (jmp k fr (ja S c n cf) (st r))) (ck S c Q cf))
 (h1:∀r,Le ((f r).bind e) (ck S c Q (jmp k fr (ja S c n cf) (st r)))):Le ((m.bind f).bind e) (ck S c Q cf):=O1 _ B h1
theorem bA (n:Nat) {r:δ} {k:δ->Cf} (B:h_ S c n cf.1 cf.2.1 cf.2.2=some (k r):=by kernel_rfl):Le ((some r).bind λr=>ck S c Q (k r)) (ck S c Q cf):=VR  B rfl
theorem aZ {r:γ} {L:Option β} (h:L=e r:=by kernel_rfl):Le ((some r).bind e) L:=Le.of_eq h
theorem BM (n:Nat) {b:RC} {m:Option (Out×Tb bP)} (h:Le m (ck S c vS (.rc b,[],(ja S c n cf).2.2))) (B:h_ S c n cf.1 cf.2.1 cf.2.2=some (.nx,[],(ja S c n cf).2.2):=by kernel_rfl):Le m (ck S c (xQ S c b) cf):=Su B h
theorem Vz (n:Nat) {o:Option α} (A:Option α->St) {f:α->Option γ} (B:∀x,o=some x->Le ((f x).bind e) (ck S c Q ((ja S c n cf).1,(ja S c n cf).2.1,A (some x))))
 (D:h_ S c n cf.1 cf.2.1 cf.2.2=some ((ja S c n cf).1,(ja S c n cf).2.1,A o):=by kernel_rfl):Le ((o.bind f).bind e) (ck S c Q cf):=T8 D B
theorem nE.TH {S:Sys} {T:rU} [bE δ] {f:FuncId} {A:α->List V} {p:α->Option δ} (B:T f=none) (hk:S.E.keep f=false) (D:∀z r,p z=some r->S.yM f (A z)=some (enc r))
 (l:∀z,V.c7 8 (A z)=true:=by intro z;simp) (hr:∀r:δ,V.lvl 8 (result [enc r])=true:=by intro r;simp):nE S (eO S T) f A (λr=>[enc r]) p false where
 k:=hk
 h z:=by
  intro y q;obtain⟨r,h1,t⟩:=ζg.1 q;cases t;have h:=D9 B hk (D z r h1);unfold mX;rw[h];exact wD 8 [enc r]
 l:=l
 r:=hr
 s h:=by cases h
def M4:K->Option BinOp
 | .p (.bin (some .slice) _ o)=>some o
 | _=>none
theorem Ri {k:K} {o:BinOp} (h:M4 k=some o):∃u,k=.p (.bin (some .slice) u o):=by
 unfold M4 at h
 grind
def Td:K->Option (Nat×Nat×List Nat)
 | .a (.buildSl sz ln _ ix)=>some (sz,ln,ix)
 | _=>none
theorem Si {k:K} {r:Nat×Nat×List Nat} (h:Td k=some r):∃z,k=.a (.buildSl r.1 r.2.1 z r.2.2):=by
 unfold Td at h
 grind
def S6:K->Option (List V)
 | .a (.alloc _ zero)=>some zero
 | _=>none
theorem Sf {k:K} {z:List V} (h:S6 k=some z):∃n,k=.a (.alloc n z):=by
 unfold S6 at h
 grind
section
variable [bE α]
theorem Ul (k:IntKind) (n:Nat) {s:Sl α} {i:Int} {f:α->Option γ} (h:∀x,idx s i=some x->Le ((f x).bind e) (ck S c Q (nx S c n cf λp=>cZ p.st p.d (cp x))))
 (B:(iD S c n cf).map (λp=>(p.k,bZ S.N p.st.g p.az))=some (.p (.idxS (bE.size α)),some [.v (bV s),.v (.int k i)]):=by kernel_rfl):Le (((idx s i).bind f).bind e) (ck S c Q cf):=by
 obtain⟨p,q,hv⟩:=f_ B;simp  at hv;refine uO q ?_ h;rw[hv.1];exact Le.of_eq (OY hv.2 rfl)
theorem bN (n:Nat) {s:Sl α} {i:Int} {f:α->Option γ} (h:∀x,idx s i=some x->Le ((f x).bind e) (ck S c Q (nx S c n cf λp=>cZ p.st p.d (cp x))))
 (B:(iD S c n cf).map (λp=>(p.k,bZ S.N p.st.g p.az))=some (.p (.idxS (bE.size α)),some [.v (bV s),.v (.int .i64 i)]):=by kernel_rfl):Le (((idx s i).bind f).bind e) (ck S c Q cf):=Ul .i64 n h B
theorem mc (k:IntKind) (n u:Nat) {s:Sl α} {i:Int} {f:Nat->Option γ} (h:∀x,s.lQ i=some x->Le ((f x).bind e) (ck S c Q (nx S c n cf λp=>cZ p.st p.d (.el u x 0))))
 (B:(iD S c n cf).map (λp=>(p.k,bZ S.N p.st.g p.az,bk p.st.m u))=some (.p (.idxS (bE.size α)),some [.own u,.v (.int k i)],some (cT s)):=by kernel_rfl):Le (((s.lQ i).bind f).bind e) (ck S c Q cf):=by
 obtain⟨p,q,hv⟩:=f_ B;simp  at hv;refine uO q ?_ h;rw[hv.1];exact Le.of_eq (Ub hv.2.1 hv.2.2 rfl)
theorem uC (n u o sz:Nat) (a:Bool) (v:α->V) {s:Sl α} {i:Nat} {f:α->Option γ} (h:∀x,s.get i=some x->Le ((f x).bind e) (ck S c Q (nx S c n cf λp=>cZ p.st p.d (.v (v x)))))
 (B:(iD S c n cf).map (λp=>(p.k,bZ S.N p.st.g p.az,bk p.st.m u,(!p.dr||p.now||e_ p.fr [.el u i o])))=some (.r (.load sz a),some [.el u i o],some (cT s),true):=by kernel_rfl) (hv:∀x:α,(cut (cells x) o sz).bind (mk a)=some (v x):=by intro _;rfl):Le (((s.get i).bind f).bind e) (ck S c Q cf):=by
 obtain⟨p,t,q⟩:=f_ B;simp only[ζc]at q;refine uO t ?_ h;rw[q.1];exact Le.of_eq (SL q.2.1 q.2.2.2 q.2.2.1 hv)
theorem vE (n u:Nat) (x:V) {s:Sl α} {i:Nat} {a:α} {f:Sl α->Option γ} (h:∀B,s.put i a=some B->Le ((f B).bind e) (ck S c Q (nx S c n cf λp=>cZ { p.st with m:=bT p.st.m u (cT B) } p.d (.v .undef))))
 (D:(iD S c n cf).map (λp=>(p.k,bZ S.N p.st.g p.az,bk p.st.m u,(!p.dr||p.now),x.cells))=some (.l (.store (bE.size α)),some [.el u i 0,.v x],some (cT s),true,cells a):=by kernel_rfl):Le (((s.put i a).bind f).bind e) (ck S c Q cf):=by
 obtain⟨p,q,hv⟩:=f_ D;simp only[ζc]at hv;refine uO q ?_ h;rw[hv.1];exact Le.of_eq (Q1 hv.2.1 hv.2.2.2.1 hv.2.2.1 hv.2.2.2.2 rfl)
theorem IP (n u:Nat) {i:Int} {z:α} {f:Sl α->Option γ} (h:∀B,kf i z=some B->Le ((f B).bind e) (ck S c Q (nx S c n cf λp=>{ p.st with g:=bT p.st.g u (.own u),m:=bT p.st.m u (cT B) })))
 (D:(iD S c n cf).map (λp=>(p.d,p.k,bZ S.N p.st.g p.az,p.st.new u))=some (some u,.a (.makeSl (bE.size α) (cells z)),some [.v (.int .i64 i),.v (.int .i64 i)],true):=by kernel_rfl):Le (((kf i z).bind f).bind e) (ck S c Q cf):=by
 obtain⟨p,q,hv⟩:=f_ D;simp  at hv;refine uO q ?_ h;rw[hv.1,hv.2.1];exact Le.of_eq (Sv hv.2.2.1 rfl rfl hv.2.2.2)
theorem pq (n o w u:Nat) {s:Sl α} {x:α} {f:Sl α->Option γ} (h:∀B,gU s x=some B->Le ((f B).bind e) (ck S c Q (nx S c n cf λp=>{ p.st with g:=bT p.st.g u (.own u),m:=bT (en o p.st.m) u (cT B) })))
 (D:(iD S c n cf).map (λp=>(p.d,p.k,bZ S.N p.st.g p.az,(!p.dr||p.now),bk p.st.m o,bk p.st.m w,St.new { p.st with m:=en o p.st.m } u))=some (some u,.l (.append (bE.size α)),some [.own o,.own w],true,some (cT s),some (cT (.row [x])),true):=by kernel_rfl):Le (((gU s x).bind f).bind e) (ck S c Q cf):=by
 obtain⟨p,q,hv⟩:=f_ D;simp only[ζc]at hv;refine uO q ?_ h;rw[hv.1,hv.2.1];exact Le.of_eq (U0 hv.2.2.1 hv.2.2.2.1 hv.2.2.2.2.1 hv.2.2.2.2.2.1 rfl hv.2.2.2.2.2.2)
theorem Pw (n w u:Nat) (v:V) (x:α) {m:Option β} (h:Le m (ck S c Q (nx S c n cf λp=>{ p.st with g:=bT p.st.g u (.own u),m:=bT p.st.m u (cT (.row [x])) }))) (hv:v=.bH\/v=.c9:=by first|exact .inl rfl|exact .inr rfl)
 (B:(iD S c n cf).map (λp=>(p.d,p.k,bZ S.N p.st.g p.az,(!p.dr||p.now),bk p.st.m w,p.st.new u))=some (some u,.l (.append (bE.size α)),some [.v v,.own w],true,some (cT (.row [x])),true):=by kernel_rfl):Le m (ck S c Q cf):=by
 obtain⟨p,t,q⟩:=f_ B;simp only[ζc]at q;refine yu t ?_ h;rw[q.1,q.2.1];exact Tp hv q.2.2.1 q.2.2.2.1 q.2.2.2.2.1 rfl q.2.2.2.2.2
theorem bL (n:Nat) (s:Sl α) {m:Option β} (h:Le m (ck S c Q (nx S c n cf λp=>cZ p.st p.d (.v (.int .i64 s.l.length)))))
 (B:(iD S c n cf).map (λp=>(p.k,bZ S.N p.st.g p.az))=some (.p .lenSl,some [.v (bV s)]):=by kernel_rfl):Le m (ck S c Q cf):=by
 obtain⟨p,q,hv⟩:=f_ B;simp  at hv;refine yu q ?_ h;rw[hv.1];exact Pr hv.2
theorem Cb (n u:Nat) (s:Sl α) {m:Option β} (h:Le m (ck S c Q (nx S c n cf λp=>cZ p.st p.d (.v (.int .i64 s.l.length)))))
 (B:(iD S c n cf).map (λp=>(p.k,bZ S.N p.st.g p.az,bk p.st.m u))=some (.p .lenSl,some [.own u],some (cT s)):=by kernel_rfl):Le m (ck S c Q cf):=by
 obtain⟨p,q,hv⟩:=f_ B;simp  at hv;refine yu q ?_ h;rw[hv.1];exact Tc hv.2.1 hv.2.2
theorem VL (n:Nat) {s:Sl α} {f:Bool->Option γ} (h:∀t,s.isNil=some t->Le ((f t).bind e) (ck S c Q (nx S c n cf λp=>cZ p.st p.d (.v (.bool t)))))
 (B:(iD S c n cf).map (λp=>(M4 p.k,bZ S.N p.st.g p.az))=some (some .eql,some [.v (bV s),.v .bH]):=by kernel_rfl):Le ((s.isNil.bind f).bind e) (ck S c Q cf):=by
 obtain⟨p,q,hv⟩:=f_ B;simp  at hv;obtain⟨u,hk⟩:=Ri hv.1;refine uO q ?_ h;rw[hk];exact Le.of_eq (Qt hv.2)
theorem zg (n:Nat) (B D:Bool) (G:List V) {s:Sl α} {a b:Option Int} {f:Sl α->Option γ} (h:∀x,fQ s a b=some x->Le ((f x).bind e) (ck S c Q (nx S c n cf λp=>cZ p.st p.d (.v (bV x)))))
 (J:(iD S c n cf).map (λp=>(p.k,bZ S.N p.st.g p.az,lC B D G))=some (.p (.slice (bE.size α) B D),some (.v (bV s)::G.map .v),some (a,b)):=by kernel_rfl):Le (((fQ s a b).bind f).bind e) (ck S c Q cf):=by
 obtain⟨p,q,hv⟩:=f_ J;simp  at hv;obtain⟨h1,w⟩:=jR q;obtain⟨dr,fr,d,gd,now,k,az,dd,l,fs,st⟩:=p;obtain⟨rfl,z,A⟩:=hv;exact VK n dr fr (⟨d,gd,now,.p (.slice (bE.size α) B D),az,dd,[]⟩::l) fs st B D G  rfl (by grind) λt u=>by
  have:=h t u;simp only[nx,q]at this;omega
theorem UY (n:Nat) (B D:Bool) (u t:Nat) (G:List V) {s:Sl α} {a b:Option Int} {f:Sl α->Option γ} (h:∀x,oh s a b=some x->Le ((f x).bind e) (ck S c Q (nx S c n cf λp=>{ p.st with g:=bT p.st.g t (.own t),m:=bT (en u p.st.m) t (cT x) })))
 (J:(iD S c n cf).map (λp=>(p.d,p.k,p.dr,bZ S.N p.st.g p.az,lC B D G,bk p.st.m u,St.new { p.st with m:=en u p.st.m } t))=some (some t,.p (.slice (bE.size α) B D),false,some (.own u::G.map .v),some (a,b),some (cT s),true):=by kernel_rfl):Le (((oh s a b).bind f).bind e) (ck S c Q cf):=by
 obtain⟨p,q,hv⟩:=f_ J;simp  at hv;obtain⟨h1,C⟩:=jR q;obtain⟨dr,fr,d,gd,now,k,az,dd,l,fs,st⟩:=p;obtain⟨rfl,rfl,rfl,H,I,L,w⟩:=hv;exact UO n fr (⟨some t,gd,now,.p (.slice (bE.size α) B D),az,dd,[]⟩::l) fs st B D u G  rfl w (by grind) λz A=>by
  have:=h z A;simp only[nx,q]at this;omega
theorem cm (n u:Nat) (x:α) {m:Option β} (h:Le m (ck S c Q (nx S c n cf λp=>{ p.st with g:=bT p.st.g u (.ptr u 0),m:=bT p.st.m u (bx x) })))
 (B:(iD S c n cf).map (λp=>(p.d,p.k,bZ S.N p.st.g p.az,p.st.new u))=some (some u,.a .box,some [cv x],true):=by kernel_rfl):Le m (ck S c Q cf):=by
 obtain⟨p,q,hv⟩:=f_ B;simp  at hv;refine yu q ?_ h;rw[hv.1,hv.2.1,CG,hv.2.2.1];simp only[ζb,hv.2.2.2,if_true,pE,fT,p_]
def O2 (u o sz:Nat) (xs:List SV) (p:EC):St:=match bk p.st.m u with
 | some (.box q)=>cZ { p.st with m:=bT p.st.m u (.box (q.take o++xs++q.drop (o+sz))) } p.d (.v .undef)
 | _=>p.st
theorem gF (n u o:Nat) (x:α) {m:Option β} (h:Le m (ck S c Q (nx S c n cf (O2 u o (bE.size α) ((cells x).map .v)))))
 (B:(iD S c n cf).map (λp=>(p.k,bZ S.N p.st.g p.az,(!p.dr||p.now),match bk p.st.m u with|some (.box cs)=>Nat.ble (o+bE.size α) cs.length|_=>false))=some (.l (.store (bE.size α)),some [.ptr u o,cv x],true,true):=by kernel_rfl):Le m (ck S c Q cf):=by
 obtain⟨p,w,hv⟩:=f_ B;simp only[ζc]at hv;refine yu w ?_ h;obtain⟨h1,z,A,t⟩:=hv;split at t
 .rename_i cs q;have C:=Nat.le_of_ble_eq_true t;rw[h1,sy,z];simp only[ζb,A,if_true,jN,q,putCells,fT,gx,p_,C,and_self,Option.map_some,O2]
 simp_all
theorem uQ (n u:Nat) (xs:List α) {m:Option β} (h:Le m (ck S c Q (nx S c n cf λp=>{ p.st with g:=bT p.st.g u (.own u),m:=bT p.st.m u (cT (.row xs)) })))
 (B:(iD S c n cf).map (λp=>(p.d,Td p.k,bZ S.N p.st.g p.az,p.st.new u))=some (some u,some (bE.size α,xs.length,List.range' 0 xs.length),some ((xs.map enc).map .v),true):=by kernel_rfl):Le m (ck S c Q cf):=by
 obtain⟨p,q,hv⟩:=f_ B;simp  at hv;obtain⟨h1,A⟩:=jR q;obtain⟨dr,fr,d,gd,now,k,az,dd,l,fs,st⟩:=p;obtain⟨rfl,t,C,w⟩:=hv;obtain⟨z,rfl⟩:=Si t;exact Wb n dr fr (⟨some u,gd,now,.a (.buildSl (bE.size α) xs.length z (List.range' 0 xs.length)),az,dd,[]⟩::l) fs st xs rfl w (by grind) (by
  simp[nx,q]at h;omega)
theorem yJ (n:Nat) (x:α) (vs z:List V) (pl:List (Nat×Nat)) {m:Option β} (B:kB z pl vs=some (cells x)) (D:bE.agg α=true) (h:Le m (ck S c Q (nx S c n cf λp=>cZ p.st p.d (cv x))))
 (G:(iD S c n cf).map (λp=>(p.k,bZ S.N p.st.g p.az))=some (.p (.build z pl),some (vs.map .v)):=by kernel_rfl):Le m (ck S c Q cf):=by
 obtain⟨p,q,hv⟩:=f_ G;simp  at hv;obtain⟨h1,t⟩:=jR q;obtain⟨dr,fr,d,gd,now,k,az,dd,l,fs,st⟩:=p;obtain⟨rfl,u⟩:=hv;exact VJ n dr fr (⟨d,gd,now,.p (.build z pl),az,dd,[]⟩::l) fs st x vs rfl B D (by grind) (by
  simp only[nx,q]at h;omega)
end
theorem y_ (n:Nat) (k:IntKind) {a:ByteArray} {b:Int} {f:Int->Option γ} (h:∀x,kH a b=some x->Le ((f x).bind e) (ck S c Q (nx S c n cf λp=>cZ p.st p.d (.v (.int .u8 x)))))
 (B:(iD S c n cf).map (λp=>(p.k,bZ S.N p.st.g p.az))=some (.p .idxStr,some [.v (.str a),.v (.int k b)]):=by kernel_rfl):Le (((kH a b).bind f).bind e) (ck S c Q cf):=by
 obtain⟨p,q,hv⟩:=f_ B;simp  at hv;refine uO q ?_ h;rw[hv.1];exact Le.of_eq (NH hv.2)
section
variable {A:α->List V} {E:δ->List V} {pl:α->Option δ} {fn:FuncId} {sc:Bool}
theorem sM (n:Nat) (F:nE S c fn A E pl sc) (z:α) {f:δ->Option γ} (h:∀x,pl z=some x->Le ((f x).bind e) (ck S c Q (nx S c n cf λp=>cZ p.st p.d (.v (result (E x))))))
 (B:(iD S c n cf).map (λp=>(p.k,(bZ S.N p.st.g p.az).bind oK,(!p.dr||p.now||ig p.st.m p.fr [])))=some (.c,some (fn,(A z).map .v),true):=by kernel_rfl):Le (((pl z).bind f).bind e) (ck S c Q cf):=by
 obtain⟨p,u,hv⟩:=f_ B;simp  at hv;obtain⟨w,C,I⟩:=hv;obtain⟨D,g1,g2⟩:=ζg.1 C;have q:∀d (t:List V),SV.dH d (t.map .v)=false:=λd t=>by
  induction t with
  | nil=>rfl
  | cons a l G=>simp[SV.dH,SV.cR,G]
 have H:(!p.dr||p.now||ig p.st.m p.fr ((A z).map .v))=true:=by
  have:ig p.st.m p.fr ((A z).map .v)=ig p.st.m p.fr []:=by unfold ig;simp[q];rfl
  grind
 refine uO u ?_ h;rw[w];exact GY (F.h z) F.k g1 g2 (Gr _ _ _) (F.l z) H (λr=>by rw[F.r,qT];simp)
theorem Tz (n:Nat) (F:nE S c fn A E pl true) (z:α) {f:δ->Option γ} (h:∀x,pl z=some x->Le ((f x).bind e) (ck S c Q (nx S c n cf λp=>cZ p.st p.d (.v (result (E x))))))
 (B:(iD S c n cf).map (λp=>(p.k,((bZ S.N p.st.g p.az).bind oK).bind λq=>(nD (iX p.st.m 8) q.2).map λvs=>(q.1,vs,((!p.dr||p.now)||ig p.st.m p.fr q.2))))=some (.c,some (fn,A z,true)):=by kernel_rfl):Le (((pl z).bind f).bind e) (ck S c Q cf):=by
 obtain⟨p,t,hv⟩:=f_ B;simp  at hv;obtain⟨u,w⟩:=hv;obtain⟨q,g1,g2⟩:=ζg.1 w;obtain⟨C,g3,g4⟩:=ζg.1 g1;obtain⟨vs,g5,g6⟩:=ζf.1 g2;simp only[ζc]at g6;obtain⟨e1,rfl,e3⟩:=g6;refine uO t ?_ h;rw[u];exact GY (F.h z) F.k g3 (by grind) g5 (F.l z) e3 (λr=>by rw[F.r,F.s rfl];rfl)
end
section
variable {N:Nat} [bE α]
theorem Po (n:Nat) (k:IntKind) {a:b7 N α} {i:Int} {f:α->Option γ} (h:∀x,a.at i=some x->Le ((f x).bind e) (ck S c Q (nx S c n cf λp=>cZ p.st p.d (.v (.fptr (pa a i))))))
 (B:(iD S c n cf).map (λp=>(p.k,bZ S.N p.st.g p.az))=some (.p (.idxA N (bE.size α)),some [cp a,.v (.int k i)]):=by kernel_rfl):Le (((a.at i).bind f).bind e) (ck S c Q cf):=by
 obtain⟨p,q,hv⟩:=f_ B;simp  at hv;obtain⟨h1,u⟩:=jR q;obtain⟨dr,fr,d,gd,now,w,az,dd,l,fs,st⟩:=p;obtain⟨rfl,z⟩:=hv;exact U7 n dr fr (⟨d,gd,now,.p (.idxA N (bE.size α)),az,dd,[]⟩::l) fs st k   rfl (by grind) λx t=>by
  have:=h x t;simp only[nx,q]at this;omega
theorem NG (n k:Nat) (a:b7 N α) (i:Int) (o:Nat) (x:α) (B:a.at i=some x) {m:Option β} (h:Le m (ck S c Q (nx S c n cf λp=>cZ p.st p.d (.v (.fptr ((pa a i).drop (o+k)))))))
 (D:(iD S c n cf).map (λp=>(p.k,bZ S.N p.st.g p.az,Nat.ble (o+k) (bE.size α)))=some (.p (.fieldAddr k),some [.v (.fptr ((pa a i).drop o))],true):=by kernel_rfl):Le m (ck S c Q cf):=by
 obtain⟨p,q,hv⟩:=f_ D;simp  at hv;obtain⟨h1,t⟩:=jR q;obtain⟨dr,fr,d,gd,now,u,az,dd,l,fs,st⟩:=p;obtain⟨rfl,w,z⟩:=hv;exact VB n dr fr (⟨d,gd,now,.p (.fieldAddr k),az,dd,[]⟩::l) fs st a i o x B rfl (by grind) (by
  simp only[nx,q]at h;omega)
theorem PI (n sz:Nat) (ag:Bool) (a:b7 N α) (i:Int) (o:Nat) (x:α) (B:a.at i=some x) (v:V) (hv:(cut (cells x) o sz).bind (mk ag)=some v) {m:Option β} (h:Le m (ck S c Q (nx S c n cf λp=>cZ p.st p.d (.v v))))
 (D:(iD S c n cf).map (λp=>(p.k,bZ S.N p.st.g p.az))=some (.r (.load sz ag),some [.v (.fptr ((pa a i).drop o))]):=by kernel_rfl):Le m (ck S c Q cf):=by
 obtain⟨p,t,q⟩:=f_ D;simp  at q;obtain⟨h1,u⟩:=jR t;obtain⟨dr,fr,d,gd,now,w,az,dd,l,fs,st⟩:=p;obtain⟨rfl,z⟩:=q;exact U5 n dr fr (⟨d,gd,now,.r (.load sz ag),az,dd,[]⟩::l) fs st a i o x B hv v rfl (by grind) (by
  simp only[nx,t]at h;omega)
theorem SY (n u:Nat) (st:St) (cs:List SV) {m:Option β} (B:st.new u=true) (h:Le m (ck S c Q (nx S c n cf λ_=>{ st with g:=bT st.g u (.ptr u 0),m:=bT st.m u (.box cs) })))
 (D:(iD S c n cf).map (λp=>(p.d,(S6 p.k).map (λz=>z.map SV.v),bZ S.N p.st.g p.az,p.st))=some (some u,some cs,some [],st):=by kernel_rfl):Le m (ck S c Q cf):=by
 obtain⟨p,t,hv⟩:=f_ D;simp only[ζc]at hv;obtain⟨z,w,q⟩:=f_ hv.2.1;obtain⟨k,hk⟩:=Sf w;refine yu t ?_ h;rw[hv.1,hk,CG,hv.2.2.1,hv.2.2.2];simp[B,pE,q]
theorem Fa (n:Nat) (k:IntKind) (u:Nat) {a:b7 N α} {i:Int} {f:α->Option γ} (h:∀x,a.at i=some x->Le ((f x).bind e) (ck S c Q (nx S c n cf λp=>cZ p.st p.d (.ptr u (i.toNat*bE.size α+0)))))
 (B:(iD S c n cf).map (λp=>(p.k,bZ S.N p.st.g p.az,bk p.st.m u))=some (.p (.idxA N (bE.size α)),some [.ptr u 0,.v (.int k i)],some (bx a)):=by kernel_rfl):Le (((a.at i).bind f).bind e) (ck S c Q cf):=by
 obtain⟨p,q,hv⟩:=f_ B;simp  at hv;obtain⟨h1,w⟩:=jR q;obtain⟨dr,fr,d,gd,now,z,az,dd,l,fs,st⟩:=p;obtain⟨rfl,A,C⟩:=hv;exact UL n dr fr (⟨d,gd,now,.p (.idxA N (bE.size α)),az,dd,[]⟩::l) fs st k u   rfl (by grind) λx t=>by
  have:=h x t;simp only[nx,q]at this;omega
theorem Pf (n sz:Nat) (ag:Bool) (u:Nat) (a:b7 N α) (i:Int) (o:Nat) (x:α) (B:a.at i=some x) (v:V) (hv:(cut (cells x) o sz).bind (mk ag)=some v) {m:Option β} (h:Le m (ck S c Q (nx S c n cf λp=>cZ p.st p.d (.v v))))
 (D:(iD S c n cf).map (λp=>(p.k,bZ S.N p.st.g p.az,bk p.st.m u,(!p.dr||p.now||e_ p.fr [.ptr u 0])))=some (.r (.load sz ag),some [.ptr u (i.toNat*bE.size α+o)],some (bx a),true):=by kernel_rfl):Le m (ck S c Q cf):=by
 obtain⟨p,t,q⟩:=f_ D;simp  at q;obtain⟨h1,w⟩:=jR t;obtain⟨dr,fr,d,gd,now,z,az,dd,l,fs,st⟩:=p;obtain⟨rfl,A,C,G⟩:=q;exact Ud n dr fr (⟨d,gd,now,.r (.load sz ag),az,dd,[]⟩::l) fs st u a i o x B hv v rfl (by grind) (by
  simp only[nx,t]at h;omega)
end
section
variable {κ ν:Type} [bE κ] [DecidableEq κ] [Key κ] [bE ν]
theorem Uk (n u:Nat) (mp:Mo κ ν) (k:κ) (z:ν) {m:Option β} (h:Le m (ck S c Q (nx S c n cf λp=>cZ p.st p.d (cv (Dc mp k z)))))
 (B:(iD S c n cf).map (λp=>(p.k,bZ S.N p.st.g p.az,bk p.st.m u,(!p.dr||p.now||e_ p.fr [.mp u,cv k])))=some (.r (.lookup (Key.kk κ) (enc z) false),some [.mp u,cv k],some (vB mp),true):=by kernel_rfl):Le m (ck S c Q cf):=by
 obtain⟨p,q,hv⟩:=f_ B;simp  at hv;obtain⟨h1,t⟩:=jR q;obtain⟨dr,fr,d,gd,now,w,az,dd,l,fs,st⟩:=p;obtain⟨rfl,A,C,D⟩:=hv;exact UU n dr fr (⟨d,gd,now,.r (.lookup (Key.kk κ) (enc z) false),az,dd,[]⟩::l) fs st u mp k z rfl (by grind) (by
  simp only[nx,q]at h;omega)
theorem VU (n u:Nat) (mp:Mo κ ν) (k:κ) (v:ν) {m:Option β} (h:Le m (ck S c Q (nx S c n cf λp=>cZ { p.st with m:=bT p.st.m u (vB (qW mp k v)) } p.d (.v .undef))))
 (B:(iD S c n cf).map (λp=>(p.k,bZ S.N p.st.g p.az,bk p.st.m u,(!p.dr||p.now)))=some (.l (.mapUp (Key.kk κ)),some [.mp u,cv k,cv v],some (vB mp),true):=by kernel_rfl):Le m (ck S c Q cf):=by
 obtain⟨p,t,q⟩:=f_ B;simp  at q;obtain⟨h1,w⟩:=jR t;obtain⟨dr,fr,d,gd,now,z,az,dd,l,fs,st⟩:=p;obtain⟨rfl,A,C,D⟩:=q;exact Vy n dr fr (⟨d,gd,now,.l (.mapUp (Key.kk κ)),az,dd,[]⟩::l) fs st u mp k v rfl (by grind) (by
  simp[nx,t]at h;omega)
end
theorem Uv (n:Nat) (st:St) {rs:List RV} {e:γ->Option (List V)} {r:γ} (svs:List SV) {ys:List V} (B:nD (iX st.m 8) svs=some ys) (D:e r=some ys)
 (h:(h_ S c n cf.1 cf.2.1 cf.2.2).map (λq=>(q.1,q.2.2,nW q.2.2 rs))=some (.rt,st,some svs):=by kernel_rfl):Le ((some r).bind e) (ck S c (qS rs) cf):=by
 obtain⟨⟨fo,fs,st'⟩,t,hv⟩:=f_ h;simp  at hv;obtain⟨rfl,rfl,u⟩:=hv;exact U3 n svs B (by rw[t,u]) D
end
end Go.VE
namespace Go.VE
variable [bX]
section
variable {S:Sys} {c:cq} {β γ δ α:Type} [bE α] {Q:Out×St->Option β} {e:γ->Option β} {cf:Cf}
def kI (s x:Sl α):Option (Sl α):=if x.l=[]then some s else if s.l.length+x.l.length<=2147483648 then some (.row (s.l++x.l))else none
theorem Qz (m:Tb bP) (n w:Nat) (x:Sl α) (B:n=bE.size α) (D:bk m w=some (cT x)):kg m n (.own w)=some (rows x.l):=by
 rw[C6,D,Ax n x B]
theorem xW (l:List α):rows l=[]↔l=[]:=by unfold rows;simp
theorem Gq (a b:List α):rows a++rows b=rows (a++b):=by unfold rows;simp
theorem yD (a:List α):(rows a).length=a.length:=by unfold rows;simp
theorem S3 {st:St} {dr now:Bool} {fr:List Nat} {az:List Arg} {d n o:Nat} {s x:Sl α} {sx:SV} (J:bZ S.N st.g az=some [.own o,sx]) (O:(!dr||now)=true) (B:bk st.m o=some (cT s)) (U:kg st.m n sx=some (rows x.l)) (D:n=bE.size α) (G:St.new { st with m:=en o st.m } d=true) :
 fA S c dr fr ⟨some d,none,now,.l (.append n),az,[],[]⟩ st=(kI s x).bind λW=>some { st with g:=bT st.g d (.own d),m:=bT (en o st.m) d (cT W) }:=by
 rw[sy,J];simp only[ζb,O,if_true,vY,Qz st.m n o s D B,U];unfold kI
 by_cases h:x.l=[]
 .rw[if_pos h,(xW x.l).2 h];simp only[uD,B,if_pos G,ζb];rfl
 .rw[if_neg h];have hr:rows x.l≠[]:=λe=>h ((xW _).1 e)
  have t:uD st d n (.own o) (some (rows s.l)) (some (rows x.l))=if(rows s.l).length+(rows x.l).length<=2147483648/\Bw (.own o)=true then(if St.new { st with m:=giveUp st.m (.own o) } d then some (.own d,{ st with m:=bT (giveUp st.m (.own o)) d (.sl .row n (rows s.l++rows x.l)) })else none)else none:=by
   unfold uD;generalize rows x.l=r at *
   cases r with
   | nil=>exact absurd rfl hr
   | cons y r=>rfl
  rw[t,yD,yD,Gq]
  by_cases q:s.l.length+x.l.length<=2147483648
  .rw[if_pos ⟨q,rfl⟩,if_pos (show St.new { st with m:=giveUp st.m (.own o) } d=true from G),if_pos q];rw[ζb,ζb,D];rfl
  .rw[if_neg (λk=>q k.1),if_neg q];rfl
theorem Ur (n o u:Nat) (sx:SV) {s x:Sl α} {f:Sl α->Option γ} (D:∀p,iD S c n cf=some p->kg p.st.m (bE.size α) sx=some (rows x.l))
 (h:∀B,kI s x=some B->Le ((f B).bind e) (ck S c Q (nx S c n cf λp=>{ p.st with g:=bT p.st.g u (.own u),m:=bT (en o p.st.m) u (cT B) })))
 (G:(iD S c n cf).map (λp=>(p.d,p.k,bZ S.N p.st.g p.az,(!p.dr||p.now),bk p.st.m o,St.new { p.st with m:=en o p.st.m } u))=some (some u,.l (.append (bE.size α)),some [.own o,sx],true,some (cT s),true):=by kernel_rfl):Le (((kI s x).bind f).bind e) (ck S c Q cf):=by
 obtain⟨p,q,hv⟩:=f_ G;simp only[ζc]at hv;refine uO q ?_ h;rw[hv.1,hv.2.1];exact Le.of_eq (S3 hv.2.2.1 hv.2.2.2.1 hv.2.2.2.2.1 (D p q) rfl hv.2.2.2.2.2)
theorem yb (m:Tb bP) (x:Sl α):kg m (bE.size α) (.v (bV x))=some (rows x.l):=by
 cases x <;> simp[bV,Sl.k,Sl.l,nF,kg,rows]
theorem vq (n o u:Nat) {s x:Sl α} {f:Sl α->Option γ}
 (h:∀B,kI s x=some B->Le ((f B).bind e) (ck S c Q (nx S c n cf λp=>{ p.st with g:=bT p.st.g u (.own u),m:=bT (en o p.st.m) u (cT B) })))
 (D:(iD S c n cf).map (λp=>(p.d,p.k,bZ S.N p.st.g p.az,(!p.dr||p.now),bk p.st.m o,St.new { p.st with m:=en o p.st.m } u))=some (some u,.l (.append (bE.size α)),some [.own o,.v (bV x)],true,some (cT s),true):=by kernel_rfl):Le (((kI s x).bind f).bind e) (ck S c Q cf):=
 Ur n o u _ (λp _=>yb p.st.m x) h D
theorem Tv {st:St} {dr now:Bool} {fr:List Nat} {az:List Arg} {d:Nat} {s x:Sl α} {sx:SV} (hk:s=.nil\/s=.emp) (D:bZ S.N st.g az=some [.v (bV s),sx]) (G:(!dr||now)=true) (J:kg st.m (bE.size α) sx=some (rows x.l)) (B:st.new d=true) :
 fA S c dr fr ⟨some d,none,now,.l (.append (bE.size α)),az,[],[]⟩ st=(kI s x).bind λO=>some { st with g:=bT st.g d (.own d),m:=bT st.m d (cT O) }:=by
 rw[sy,D];simp only[ζb,G,if_true,vY,yb,J];unfold kI
 by_cases h:x.l=[]
 .rw[if_pos h,(xW x.l).2 h];rcases hk with rfl|rfl <;> (simp only[bV,Sl.k,nF,uD,if_pos B,ζb,Sl.l,rows,List.map_nil];rfl)
 .rw[if_neg h];have hr:rows x.l≠[]:=λe=>h ((xW _).1 e)
  have t:s.l=[]:=by rcases hk with rfl|rfl <;> rfl
  have u:uD st d (bE.size α) (.v (bV s)) (some (rows s.l)) (some (rows x.l))=if(rows s.l).length+(rows x.l).length<=2147483648/\Bw (.v (bV s))=true then(if St.new { st with m:=giveUp st.m (.v (bV s)) } d then some (.own d,{ st with m:=bT (giveUp st.m (.v (bV s))) d (.sl .row (bE.size α) (rows s.l++rows x.l)) })else none)else none:=by
   unfold uD;generalize rows x.l=r at *
   cases r with
   | nil=>exact absurd rfl hr
   | cons y r=>rfl
  rw[u,yD,yD,Gq];have w:Bw (.v (bV s))=true:=by rcases hk with rfl|rfl <;> rfl
  by_cases q:s.l.length+x.l.length<=2147483648
  .rw[if_pos ⟨q,w⟩,if_pos (show St.new { st with m:=giveUp st.m (.v (bV s)) } d=true from B),if_pos q];rfl
  .rw[if_neg (λk=>q k.1),if_neg q];rfl
end
end Go.VE
namespace Go.VE
variable [bX]
theorem yL {α:Type} {l:List α} {i:Nat} {x:α} (h:l[i]? = some x):l.set i x=l:=by
 obtain⟨q,rfl⟩:=ζe.1 h;exact List.set_getElem_self q
open Classical in
def Eo (x:List V):V:=x.headD .undef
section
variable {H:bl} {Z:Nat->Prop}
theorem di.borrows {xs ys:List V} (h:di H Z xs ys) (B:V.c7 8 xs=true):borrows 8 H ys=some xs:=by
 induction xs generalizing ys with
 | nil=>rw[h.cU];rfl
 | cons x xs q=>
  obtain⟨y,ys,rfl,h1,t⟩:=h.inv;simp only[V.c7,ζh]at B;have:=q t B.2;unfold Go.VE.borrows at this ⊢;simp only[ko,h1.borrow 8 B.1,this]
end
end Go.VE
namespace Go.VE
variable [bX]
def bu (N:Nat->FuncId) (F:Frame):Arg->V
 | .s n=>get F n
 | .k c=>c
 | .f s=>.clo (N s) [] []
def bJ (E:Env) (N:Nat->FuncId) (call:dn) (b:Option Nat) (now:Bool) (k:K) (vs:List V) (H:bl):Option (V×bl):=
 match k,b with
 | .p p,_=>(bh N p vs).map λv=>(v,H)
 | .r r,none=>(eS H r vs).map λv=>(v,H)
 | .r r,some b=>(eS (H.take b) r vs).map λv=>(v,H)
 | .a a,none=>(iZ a vs).map λx=>(x.2.val H.length,H++[x.1])
 | .l l,none=>eY H l vs
 | .l (.store n),some _=>if now then eY H (.store n) vs else none
 | .c,none=>match vs with
  | .clo g a c::q=>if E.keep g then e9 E call g (a++q++c) H else match cz call g (a++q++c) H with
   | some y=>if y.scalar then some (y,H)else none
   | none=>none
  | _=>none
 | .c,some b=>match vs with
  | .clo g a c::q=>if E.keep g then none else match cz call g (a++q++c) (H.take b)with
   | some y=>if y.scalar then some (y,H)else none
   | none=>none
  | _=>none
 | _,_=>none
def bq (F:Frame):Option Nat->V->Frame
 | none,_=>F
 | some d,v=>set F d v
def cw (E:Env) (N:Nat->FuncId) (call:dn) (b:Option Nat):List RO->Frame->bl->Option (Frame×bl)
 | [],F,H=>some (F,H)
 | o::r,F,H=>match o.gd with
  | none=>match bJ E N call b o.now o.k (o.az.map (bu N F)) H with
   | some (v,H')=>cw E N call b r (bq F o.dst v) H'
   | none=>none
  | some _=>none
section
variable {X:CX} {N:Nat->FuncId} {call:dn} {F F':Frame} {H H':bl}
theorem Im (B:∀f s,X.nm f=some s->N s=f) {o:Operand} {x:Arg} (h:pR X.nm o=some x):ev F o=some (bu N F x):=by
 cases o with
 | tmp t=>simp[pR]at h;subst h;rfl
 | const w=>
  simp[pR]at h;split at h
  .rename_i c hc;split at h
   .simp  at h;subst h;exact hc
   grind
  grind
 | func f=>
  obtain⟨s,q,rfl⟩:=ζf.1 h;show some (V.clo f [] [])=some (.clo (N s) [] [])
  grind
 | global i=>
  simp[pR]at h;split at h
  .rename_i c hc;split at h
   .simp  at h;subst h;simp[ev,hc];rfl
   grind
  grind
theorem xS (G:∀f s,X.nm f=some s->N s=f):∀{os:List Operand} {B:List Arg},os.mapM (pR X.nm)=some B->fI F os=some (B.map (bu N F))
 | [],B,h=>by simp  at h;subst h;rfl
 | o::os,B,h=>by
  simp[ζg]at h;obtain⟨x,J,xs,D,rfl⟩:=h;simp[fI,Im G J,xS G D]
theorem zx (D:∀f s,X.nm f=some s->N s=f) {B:Bool} {ops:List Oper} {i:Nat} {o:Oper} {ro:RO} (h:mY X B ops i o=some ro) (hg:ro.gd=none) :
 o.dst=ro.dst/\yg X.nt o.dst=true/\fP ops F o=true/\((B4 X.E N F o.op (ro.az.map (bu N F)) ro.k/\ro.now=(B&&dD ops i)/\(B=true->dD ops i=false->∀a',oV ops i a'=[]\/∀t,o.op≠.load t (.tmp a')))\/(∃n,ro.k=.l (.storeF n))\/(∃n a,ro.k=.r (.loadF n a))\/(B=true/\xC ops i=true/\cV o.op=.alloc/\(∃p,ro.k=.p p/\(p=.emptyC\/∃a b,p=.makeC a b)/\∀y,bh N p (ro.az.map (bu N F))=some y->qG X.E F o.op=some y))\/∃n,ro.k=.e n):=by
 unfold mY at h;split at h
 .rename_i C;split at h
  .rename_i gd k os q hr;split at h
   .split at h
    .rename_i u;simp only[ζh]at u;have S:∀{gd:Option (Nat×Bool)},A_ ops o=some gd->gd=none->fP ops F o=true:=λ{gd} q hg=>by
      subst hg;unfold fP;unfold A_ at q
      cases z:o.guard with
      | none=>rfl
      | some H=>
       rw[z]at q;obtain⟨j,b⟩:=H;obtain⟨d,_,e⟩:=ζf.1 q;cases e
     split at h
     .rename_i I;obtain⟨T,A,rfl⟩:=ζf.1 h;have w:=kA D hr (xS (F:=F) D A);exact⟨rfl,C,S q hg,.inr (.inr (.inr (.inl ⟨u.1,u.2,w.1,_,rfl,.inr ⟨_,_,rfl⟩,λy J=>B6 ⟨_,_,_,by assumption⟩ w J⟩)))⟩
     .rename_i I;split at h
      .rename_i L;obtain⟨O,rfl,rfl⟩:=L;obtain⟨T,A,rfl⟩:=ζf.1 h;have w:=kA D hr (xS (F:=F) D A);exact⟨rfl,C,S q hg,.inr (.inr (.inr (.inl ⟨u.1,u.2,w.1,_,rfl,.inl rfl,λy J=>BL ⟨_,_,_,by assumption⟩ w O J⟩)))⟩
      .cases h
     .cases h
    obtain⟨T,A,rfl⟩:=ζf.1 h;simp only at hg;subst hg;refine⟨rfl,C,?_,?_⟩
    .unfold fP;unfold A_ at q
     cases z:o.guard with
     | none=>rfl
     | some H=>
      rw[z]at q;obtain⟨j,b⟩:=H;obtain⟨d,_,e⟩:=ζf.1 q;cases e
    .rcases CE B ops i k os with⟨e,Q⟩|⟨_,_,n,a,l,U,_,_,_,e⟩|⟨_,_,n,ag,a,_,_,e⟩|⟨_,_,_,n,_,e⟩
     .rw[e]at A ⊢;refine .inl ⟨kA D hr (xS D A),rfl,λC W a'=>?_⟩
      by_cases G:∃t,o.op=.load t (.tmp a')
      .obtain⟨t,G⟩:=G;rw[G]at hr;simp only[resolve]at hr;obtain⟨d,_,e⟩:=ζf.1 hr;simp only[ζc]at e;exact .inl (Q _ _ a' C W e.1.symm e.2.symm)
      .exact .inr λt h=>G ⟨t,h⟩
     .rw[e];exact .inr (.inl ⟨n,rfl⟩)
     .rw[e];exact .inr (.inr (.inl ⟨n,ag,rfl⟩))
     .rw[e];exact .inr (.inr (.inr (.inr ⟨n,rfl⟩)))
   .simp at h
  .simp at h
 .simp at h
theorem FT {nt:Nat} {dst:Option Nat} (h:yg nt dst=true) (v:V):jW nt F dst v=some (bq F dst v):=by
 cases dst with
 | none=>rfl
 | some d=>simp[yg]at h;simp[jW,if_pos h,bq]
theorem S9 (D:∀f s,X.nm f=some s->N s=f) {ops:List Oper} {i:Nat} {o:Oper} {ro:RO} (h:mY X false ops i o=some ro) (hg:ro.gd=none) {v:V} (hv:bJ X.E N call none ro.now ro.k (ro.az.map (bu N F)) H=some (v,H')) :
 gu X.E call X.nt ops none o F H=some (bq F ro.dst v,H'):=by
 obtain⟨h1,C,G,q⟩:=zx (F:=F) D h hg;have I:c8 X.E call ops none F H o.op=some (v,H'):=by
  rcases q with⟨q,_⟩|⟨n,q⟩|⟨n,a,q⟩|⟨q,_⟩|⟨n,q⟩
  .generalize hk:ro.k=k at hv q;generalize ro.az.map (bu N F)=S at hv q;unfold c8
   cases k with
   | p p=>
    obtain⟨c,e⟩:=q;obtain⟨w,u,z⟩:=ζf.1 hv;rw[c];simp only[e w u,Option.map_some];rw[z]
   | r r=>
    obtain⟨c,e⟩:=q;obtain⟨w,u,z⟩:=ζf.1 hv;rw[c];simp only[e H w u,Option.map_some];rw[z]
   | a a=>
    obtain⟨c,e⟩:=q;obtain⟨⟨ob,m⟩,u,z⟩:=ζf.1 hv;rw[c];simp only[qN,Bool.false_eq_true,if_false,e _ u];exact congrArg some z
   | l l=>
    obtain⟨c,e⟩:=q;rw[c];exact e H _ hv
   | e n=>exact q.elim
   | c=>
    obtain⟨c,f,J,rfl,e⟩:=q;rw[c];simp only[bJ]at hv;split at hv
    .rename_i g a b L A;simp only[List.cons.injEq]at A;obtain⟨rfl,rfl⟩:=A;split at hv
     .rename_i t;simp only[e,kE,t,Bool.and_self,if_true];exact hv
     .rename_i t;split at hv
      .rename_i y O;split at hv
       .rename_i B;simp only[e,kE,t,Bool.false_and,Bool.false_eq_true,if_false,O,B,if_true];exact hv
       .simp at hv
      .simp at hv
    .simp at hv
  .rw[q]at hv;exfalso;have:∀ops i k os,(wY false ops i k os).1=k:=λ_ _ _ _=>rfl
   unfold mY at h;simp only[Bool.false_and,Bool.false_eq_true,if_false]at h;split at h
   .split at h
    .rename_i gd k os Q hr;split at h
     .obtain⟨J,T,rfl⟩:=ζf.1 h;simp only[this]at q;subst q;unfold resolve at hr
      (repeat' split at hr) <;> first|(simp at hr;done)|(obtain⟨_,_,e⟩:=ζf.1 hr;simp at e;done)
     .simp at h
    .simp at h
   .first|(simp at h;done)|contradiction
  .rw[q]at hv;simp[bJ,eS]at hv
  .cases q
  .rw[q]at hv;simp[bJ]at hv
 unfold gu;rw[G,if_pos rfl,I];simp only[h1,FT (h1▸C),Option.map_some]
theorem FL (D:∀f s,X.nm f=some s->N s=f) {ops:List Oper}:∀(rest:List Oper) {i:Nat} {B:List RO} {F:Frame} {H:bl},kS X false ops i rest=some B->cw X.E N call none B F H=some (F',H')->mh X.E call X.nt ops rest F H=some (F',H')
 | [],i,B,F,H,hc,h=>by
  simp[kS]at hc;subst hc;exact h
 | o::rest,i,B,F,H,hc,h=>by
  simp[kS]at hc;split at hc
  .rename_i ro rs h1 G;simp  at hc;subst hc;simp[cw]at h;split at h
   .rename_i hg;split at h
    .rename_i v H1 hv;simp[mh,S9 D h1 hg hv];exact FL D rest G h
    grind
   grind
  grind
theorem QZ {ops:List Oper} {i:Nat} {op:Op} (h:∀t a',op=.load t (.tmp a')->oV ops i a'=[]):nJ ops i F op=true:=by
 unfold nJ
 grind
theorem Tf (U:∀f s,X.nm f=some s->N s=f) {ops:List Oper} {b i:Nat} {o:Oper} (W:ops[i]? = some o) {ro:RO} (h:mY X true ops i o=some ro) (hg:ro.gd=none) {v:V} (hv:bJ X.E N call (some b) ro.now ro.k (ro.az.map (bu N F)) H=some (v,H')) :
 gu X.E call X.nt ops (some (b,i)) o F H=some (bq F ro.dst v,H'):=by
 obtain⟨h1,Y,Z,q⟩:=zx (F:=F) U h hg;have hd:c8 X.E call ops (some (b,i)) F H o.op=some (v,H'):=by
  rcases q with⟨q,u,z⟩|⟨n,q⟩|⟨n,a,q⟩|⟨_,D,G,p,q,_,I⟩|⟨n,q⟩
  .generalize hk:ro.k=k at hv q;generalize ro.az.map (bu N F)=vs at hv q;unfold c8
   cases k with
   | p p=>
    obtain⟨c,e⟩:=q;obtain⟨w,A,B⟩:=ζf.1 hv;rw[c];simp only[e w A,Option.map_some];rw[B]
   | r r=>
    obtain⟨c,e⟩:=q;obtain⟨w,A,B⟩:=ζf.1 hv;have J:nJ ops i F o.op=true:=QZ λt a' e=>by
     by_cases S:dD ops i=true
     .exact Cj W e S
     .rcases z rfl (by simpa using S) a' with h|h
      .exact h
      .exact absurd e (h t)
    rw[c];simp only[e _ w A,J,if_true];rw[B]
   | a a=>simp[bJ]at hv
   | l l=>
    obtain⟨c,e⟩:=q
    cases l with
    | store n=>
     simp only[bJ]at hv;split at hv
     .rename_i T;rw[u,Bool.true_and]at T;rw[c];simp only[T,Bool.true_or,if_true];exact e H _ hv
     .simp at hv
    | _=>simp[bJ]at hv
   | e n=>exact q.elim
   | c=>
    obtain⟨c,f,av,rfl,e⟩:=q;rw[c];simp only[bJ]at hv;split at hv
    .rename_i g a b aa C;simp only[List.cons.injEq]at C;obtain⟨rfl,rfl⟩:=C;split at hv
     .simp at hv
     .rename_i L;split at hv
      .rename_i y hy;split at hv
       .rename_i O;simp only[e,kE,L,Bool.false_and,Bool.false_eq_true,if_false,hy,O,if_true];exact hv
       .simp at hv
      .simp at hv
    .simp at hv
  .rw[q]at hv;simp[bJ]at hv
  .rw[q]at hv;simp[bJ,eS]at hv
  .rw[q]at hv;obtain⟨w,A,B⟩:=ζf.1 hv;have Q:=I w A;unfold c8;rw[G];simp only[qN,D,if_true,Q,Option.map_some];exact congrArg some B
  .rw[q]at hv;simp[bJ]at hv
 unfold gu;rw[Z,if_pos rfl,hd];simp only[h1,FT (h1▸Y),Option.map_some]
theorem GM (D:∀f s,X.nm f=some s->N s=f) {ops:List Oper} {b:Nat}:∀(rest:List Oper) {i:Nat} {B:List RO} {F:Frame} {H:bl},ops.drop i=rest->kS X true ops i rest=some B->cw X.E N call (some b) B F H=some (F',H') ->
 jQ X.E call X.nt ops b (List.range' i rest.length) F H=some (F',H')
 | [],i,B,F,H,_,hc,h=>by
  simp[kS]at hc;subst hc;exact h
 | o::rest,i,B,F,H,J,hc,h=>by
  simp[kS]at hc;split at hc
  .rename_i ro rs h1 O;simp  at hc;subst hc;simp[cw]at h;split at h
   .rename_i hg;split at h
    .rename_i v H1 hv;have G:ops[i]? = some o:=by
      have:(ops.drop i)[0]? = some o:=by grind
      grind
     have q:ops.drop (i+1)=rest:=by
      rw[<-List.drop_drop,J];rfl
     simp[List.range'_succ,jQ,G,Tf D G h1 hg hv];exact GM D rest q O h
    grind
   grind
  grind
def xG (l:List RO):Bool:=l.all λo=>(match o.k with|.a _|.l (.storeF _)|.r (.loadF ..)|.p (.makeC ..)|.p .emptyC|.e _=>false|_=>true)&&o.gd.isNone
theorem B9 (J:∀f s,X.nm f=some s->N s=f) {ops:List Oper}:∀(rest:List Oper) {i:Nat} {G:List RO},kS X true ops i rest=some G->xG G=true->rest.any (λo=>cV o.op==.alloc)=false
 | [],_,_,_,_=>rfl
 | o::rest,i,G,hc,D=>by
  simp only[kS]at hc;split at hc
  .rename_i ro rs h1 O;simp only[ζa]at hc;subst hc;simp only[xG,List.all_cons,ζh,Option.isNone_iff_eq_none]at D;obtain⟨_,_,_,B⟩:=zx (F:=[]) J h1 D.1.2;rw[List.any_cons,B9 J rest O D.2,Bool.or_false];rcases B with⟨B,_⟩|⟨n,B⟩|⟨n,a,B⟩|⟨_,_,_,p,B,q,_⟩|⟨n,B⟩
   .cases hk:ro.k with
    | a p=>have:=D.1.1;rw[hk]at this;cases this
    | e p=>have:=D.1.1;rw[hk]at this;cases this
    | _=>rw[hk]at B;rw[B.1];rfl
   .have:=D.1.1;rw[B]at this;cases this
   .have:=D.1.1;rw[B]at this;cases this
   .have:=D.1.1;rw[B]at this;rcases q with rfl|⟨_,_,rfl⟩ <;> cases this
   .have:=D.1.1;rw[B]at this;cases this
  .simp at hc
def gW (E:Env) (N:Nat->FuncId) (call:dn) (lf:Nat):RC->Frame->bl->Option (Out×Frame×bl)
 | .skip,F,H=>some (.norm,F,H)
 | .ops l,F,H=>(cw E N call none l F H).map λx=>(.norm,x.1,x.2)
 | .oO l,F,H=>if xG l then(cw E N call (some H.length) l F H).map λx=>(.norm,x.1,x.2)else none
 | .seq a b,F,H=>match gW E N call lf a F H with
  | some (.norm,F',H')=>gW E N call lf b F' H'
  | r=>r
 | .cond x a b,F,H=>match bu N F x with
  | .bool t=>if t then gW E N call lf a F H else gW E N call lf b F H
  | _=>none
 | .block id c,F,H=>match gW E N call lf c F H with
  | some (.exit B,F',H')=>if B=id then some (.norm,F',H')else some (.exit B,F',H')
  | r=>r
 | .loop c,F,H=>ku (gW E N call lf c) lf F H
 | .exit id,F,H=>some (.exit id,F,H)
 | .ret,F,H=>some (.ret,F,H)
 | _,_,_=>none
theorem FY {f g:Frame->bl->Option (Out×Frame×bl)} (h:∀F H r,f F H=some r->g F H=some r):∀(k:Nat) (F:Frame) (H:bl) (r:Out×Frame×bl),ku f k F H=some r->ku g k F H=some r
 | 0,F,H,r,hr=>by simp[ku]at hr
 | k+1,F,H,r,hr=>by
  simp only[ku]at hr ⊢
  cases B:f F H with
  | none=>rw[B]at hr;simp at hr
  | some q=>
   rw[B]at hr;rw[h F H q B];obtain⟨o,F1,H1⟩:=q
   cases o with
   | norm=>exact FY h k F1 H1 r hr
   | exit _=>exact hr
   | ret=>exact hr
theorem Gd (D:∀f s,X.nm f=some s->N s=f) {lf:Nat}:∀(rc:RC) (code:Code) (F:Frame) (H:bl) (r:Out×Frame×bl),bQ X false code=some rc->gW X.E N call lf rc F H=some r->exec X.E call lf false X.nt code F H=some r:=by
 intro rc
 induction rc with
 | skip=>
  intro code F H r hc h;simp only[gW,ζa]at h;subst h
  cases code with
  | skip=>rfl
  | label _=>rfl
  | region id ops u=>simp only[bQ]at hc;(repeat' split at hc) <;> first|(simp at hc;done)|(obtain⟨_,_,e⟩:=ζf.1 hc;cases e)
  | _=>simp only[bQ]at hc;(repeat' split at hc) <;> first|(simp at hc;done)|(obtain⟨_,_,e⟩:=ζf.1 hc;cases e)|cases hc
 | ops l=>
  intro code F H r hc h
  cases code with
  | region id ops u=>
   simp only[bQ]at hc;split at hc
   .split at hc
    .obtain⟨_,_,e⟩:=ζf.1 hc;cases e
    .simp at hc
   .rename_i G;obtain⟨T,C,e⟩:=ζf.1 hc;cases e;simp only[gW]at h;obtain⟨⟨F',H'⟩,hv,rfl⟩:=ζf.1 h;simp only[exec,jt,G];rw[if_neg (by simp),FL D _ C hv];rfl
  | _=>simp only[bQ]at hc;(repeat' split at hc) <;> first|(simp at hc;done)|(obtain⟨_,_,e⟩:=ζf.1 hc;cases e)|cases hc
 | oO l=>
  intro code F H r hc h
  cases code with
  | region id ops u=>
   simp only[bQ]at hc;split at hc
   .rename_i G;split at hc
    .rename_i I;obtain⟨T,C,e⟩:=ζf.1 hc;cases e;simp only[gW]at h;split at h
     .rename_i U;obtain⟨⟨F',H'⟩,hv,rfl⟩:=ζf.1 h;have W:ri ops.toList=false:=B9 D _ C U;have:=GM D ops.toList (i:=0) rfl C hv;rw[<-List.range_eq_range']at this;simp only[exec,jt,G,I,if_true,W,Bool.false_eq_true,if_false,this];rfl
     .simp at h
    .simp at hc
   .obtain⟨_,_,e⟩:=ζf.1 hc;cases e
  | _=>simp only[bQ]at hc;(repeat' split at hc) <;> first|(simp at hc;done)|(obtain⟨_,_,e⟩:=ζf.1 hc;cases e)|cases hc
 | seq a b w A=>
  intro code F H r hc h
  cases code with
  | seq J L=>
   simp only[bQ]at hc;split at hc
   .rename_i x y B O;cases hc;simp only[gW]at h;simp only[exec]
    cases hva:gW X.E N call lf a F H with
    | none=>rw[hva]at h;simp at h
    | some q=>
     rw[hva]at h;rw[w J F H q B hva];obtain⟨o,F1,H1⟩:=q
     cases o with
     | norm=>exact A L F1 H1 r O h
     | exit _=>exact h
     | ret=>exact h
   .simp at hc
  | region id ops u=>simp only[bQ]at hc;(repeat' split at hc) <;> first|(simp at hc;done)|(obtain⟨_,_,e⟩:=ζf.1 hc;cases e)
  | _=>simp only[bQ]at hc;(repeat' split at hc) <;> first|(simp at hc;done)|(obtain⟨_,_,e⟩:=ζf.1 hc;cases e)|cases hc
 | cond x a b w A=>
  intro code F H r hc h
  cases code with
  | cond c J L=>
   simp only[bQ]at hc;split at hc
   .rename_i x' y z B O Y;cases hc;simp only[gW]at h;simp only[exec,Im (F:=F) D B];split at h
    .rename_i t Z;rw[Z]
     cases t with
     | true=>simp only[if_true]at h ⊢;exact w J F H r O h
     | false=>simp only[Bool.false_eq_true,if_false]at h ⊢;exact A L F H r Y h
    .simp at h
   .simp at hc
  | region id ops u=>simp only[bQ]at hc;(repeat' split at hc) <;> first|(simp at hc;done)|(obtain⟨_,_,e⟩:=ζf.1 hc;cases e)
  | _=>simp only[bQ]at hc;(repeat' split at hc) <;> first|(simp at hc;done)|(obtain⟨_,_,e⟩:=ζf.1 hc;cases e)|cases hc
 | block id c Q=>
  intro code F H r hc h
  cases code with
  | block S c'=>
   simp only[bQ]at hc;obtain⟨x,B,e⟩:=ζf.1 hc;cases e;simp only[gW]at h;simp only[exec]
   cases hva:gW X.E N call lf c F H with
   | none=>rw[hva]at h;simp at h
   | some q=>
    rw[hva]at h;rw[Q c' F H q B hva];exact h
  | region id ops u=>simp only[bQ]at hc;(repeat' split at hc) <;> first|(simp at hc;done)|(obtain⟨_,_,e⟩:=ζf.1 hc;cases e)
  | _=>simp only[bQ]at hc;(repeat' split at hc) <;> first|(simp at hc;done)|(obtain⟨_,_,e⟩:=ζf.1 hc;cases e)|cases hc
 | loop c Q=>
  intro code F H r hc h
  cases code with
  | loop c'=>
   simp only[bQ]at hc;obtain⟨x,B,e⟩:=ζf.1 hc;cases e;simp only[gW]at h;simp only[exec];exact FY (λF H r hr=>Q c' F H r B hr) lf F H r h
  | region id ops u=>simp only[bQ]at hc;(repeat' split at hc) <;> first|(simp at hc;done)|(obtain⟨_,_,e⟩:=ζf.1 hc;cases e)
  | _=>simp only[bQ]at hc;(repeat' split at hc) <;> first|(simp at hc;done)|(obtain⟨_,_,e⟩:=ζf.1 hc;cases e)|cases hc
 | exit id=>
  intro code F H r hc h
  cases code with
  | exit S=>simp only[bQ,ζa,RC.exit.injEq]at hc;subst hc;exact h
  | region id ops u=>simp only[bQ]at hc;(repeat' split at hc) <;> first|(simp at hc;done)|(obtain⟨_,_,e⟩:=ζf.1 hc;cases e)
  | _=>simp only[bQ]at hc;(repeat' split at hc) <;> first|(simp at hc;done)|(obtain⟨_,_,e⟩:=ζf.1 hc;cases e)|cases hc
 | ret=>
  intro code F H r hc h
  cases code with
  | ret=>exact h
  | region id ops u=>simp only[bQ]at hc;(repeat' split at hc) <;> first|(simp at hc;done)|(obtain⟨_,_,e⟩:=ζf.1 hc;cases e)
  | _=>simp only[bQ]at hc;(repeat' split at hc) <;> first|(simp at hc;done)|(obtain⟨_,_,e⟩:=ζf.1 hc;cases e)|cases hc
 | _=>intro code F H r hc h;simp[gW]at h
end
end Go.VE
namespace Go.VE
variable [bX]
def Ex (E:Env) (N:Nat->FuncId) (rc:RC) (F:Frame) (H:bl) (o:Out) (F':Frame) (H':bl):Prop:=
 ∃n,∀k,n<=k->gW E N (run E k) k rc F H=some (o,F',H')
def lR (E:Env) (N:Nat->FuncId) (rc:RC) (F:Frame) (H:bl) (o:Out) (F':Frame) (H':bl):Prop:=
 ∃n,∀k,n<=k->∀lf,n<=lf->ku (gW E N (run E k) k rc) lf F H=some (o,F',H')
section
variable {E:Env} {N:Nat->FuncId} {a b c:RC} {F F1 F':Frame} {H H1 H':bl} {o:Out} {x:Arg} {id:Nat}
theorem Ex.ops {l:List RO} (h:∃n,∀k,n<=k->cw E N (run E k) none l F H=some (F',H')):Ex E N (.ops l) F H .norm F' H':=
 let ⟨n,h⟩:=h;⟨n,λk hk=>by simp only[gW,h k hk,Option.map_some]⟩
theorem Ex.cQ {l:List RO} (h:∀call,cw E N call none l F H=some (F',H')):Ex E N (.ops l) F H .norm F' H':=Ex.ops ⟨0,λk _=>h _⟩
theorem Ex.oO {l:List RO} (B:xG l=true) (h:∀call,cw E N call (some H.length) l F H=some (F',H')):Ex E N (.oO l) F H .norm F' H':=
 ⟨0,λk _=>by simp only[gW,B,if_true,h,Option.map_some]⟩
theorem Ex.Jo {l:List RO} (B:xG l=true) (h:∃n,∀k,n<=k->cw E N (run E k) (some H.length) l F H=some (F',H')):Ex E N (.oO l) F H .norm F' H':=
 let ⟨n,h⟩:=h;⟨n,λk hk=>by simp only[gW,B,if_true,h k hk,Option.map_some]⟩
theorem Ex.skip:Ex E N .skip F H .norm F H:=⟨0,λ_ _=>rfl⟩
theorem Ex.exit:Ex E N (.exit id) F H (.exit id) F H:=⟨0,λ_ _=>rfl⟩
theorem Ex.ret:Ex E N .ret F H .ret F H:=⟨0,λ_ _=>rfl⟩
theorem Ex.seq (h1:Ex E N a F H .norm F1 H1) (B:Ex E N b F1 H1 o F' H'):Ex E N (.seq a b) F H o F' H':=by
 obtain⟨n,h1⟩:=h1;obtain⟨m,B⟩:=B;exact⟨max n m,λk hk=>by simp only[gW,h1 k (by omega)];exact B k (by omega)⟩
theorem Ex.uH (h1:Ex E N a F H o F' H') (B:o≠.norm):Ex E N (.seq a b) F H o F' H':=by
 obtain⟨n,h1⟩:=h1;refine⟨n,λk hk=>?_⟩
 simp only[gW,h1 k hk];cases o <;> first|exact absurd rfl B|rfl
theorem Ex.mZ (B:bu N F x=.bool true) (h:Ex E N a F H o F' H'):Ex E N (.cond x a b) F H o F' H':=by
 obtain⟨n,h⟩:=h;exact⟨n,λk hk=>by simp only[gW,B,if_true,h k hk]⟩
theorem Ex.oQ (B:bu N F x=.bool false) (h:Ex E N b F H o F' H'):Ex E N (.cond x a b) F H o F' H':=by
 obtain⟨n,h⟩:=h;exact⟨n,λk hk=>by simp only[gW,B,Bool.false_eq_true,if_false,h k hk]⟩
theorem Ex.block (h:Ex E N c F H .norm F' H'):Ex E N (.block id c) F H .norm F' H':=by
 obtain⟨n,h⟩:=h;exact⟨n,λk hk=>by simp only[gW,h k hk]⟩
theorem Ex.uw (h:Ex E N c F H (.exit id) F' H'):Ex E N (.block id c) F H .norm F' H':=by
 obtain⟨n,h⟩:=h;exact⟨n,λk hk=>by simp only[gW,h k hk,if_true]⟩
theorem Ex.Mb (h:Ex E N c F H .ret F' H'):Ex E N (.block id c) F H .ret F' H':=by
 obtain⟨n,h⟩:=h;exact⟨n,λk hk=>by simp only[gW,h k hk]⟩
theorem Ex.loop (h:lR E N c F H o F' H'):Ex E N (.loop c) F H o F' H':=by
 obtain⟨n,h⟩:=h;exact⟨n,λk hk=>h k hk k hk⟩
theorem lR.step (h1:Ex E N c F H .norm F1 H1) (B:lR E N c F1 H1 o F' H'):lR E N c F H o F' H':=by
 obtain⟨n,h1⟩:=h1;obtain⟨m,B⟩:=B;refine⟨max n m+1,λk hk lf q=>?_⟩
 cases lf with
 | zero=>omega
 | succ lf=>simp only[ku,h1 k (by omega)];exact B k (by omega) lf (by omega)
theorem lR.stop (h1:Ex E N c F H o F' H') (B:o≠.norm):lR E N c F H o F' H':=by
 obtain⟨n,h1⟩:=h1;refine⟨n+1,λk hk lf q=>?_⟩
 cases lf with
 | zero=>omega
 | succ lf=>
  simp only[ku,h1 k (by omega)]
  cases o <;> first|exact absurd rfl B|rfl
end
theorem Ex.run {E:Env} {nm:FuncId->Option Nat} {N:Nat->FuncId} (B:∀f s,nm f=some s->N s=f) {f:FuncId} {fi:FI} {rc:RC} (D:E.ft f=some fi) (hc:bQ ⟨E,nm,fi.ntmps⟩ false fi.body=some rc) {args:List V} (G:args.length<=fi.ntmps) {H H':bl} {F':Frame}
 (h:Ex E N rc args H .ret F' H') {vs:List V} (hr:gR E F' H' fi.results=some vs):∃n,run E n (.fn f) args H=some (result vs,H'):=by
 obtain⟨n,h⟩:=h;refine⟨n+1,?_⟩;have:=Gd (X:=⟨E,nm,fi.ntmps⟩) (call:=Go.VE.run E n) B (lf:=n) rc fi.body args H _ hc (h n (Nat.le_refl _));simp only[Go.VE.run,D,if_pos G,this,hr,Option.map_some]
@[simp] theorem br (F:Frame) (i j:Nat) (v:V):get (set F i v) j=if i=j then v else get F j:=by
 split
 .rename_i h;subst h;exact sD F i v
 .rename_i h;exact gX F v h
def refs:List Nat->List (List V)->List (List V)
 | id::ids,r::rs=>[V.hsl id 1 0 r.length]::refs ids rs
 | _,_=>[]
def jh (r:List V):List (List V):=r.map λu=>[u]
structure mg (H:bl) (w:V) (o:Nat) (ids:List Nat) (rows:List (List V)):Prop where
 v:w=if rows=[]then .bH else .hsl o 1 0 rows.length
 ob:rows≠[]->H[o]? = some (.row 1 (refs ids rows))
 len:ids.length=rows.length
 r:∀(i id:Nat) (r:List V),ids[i]? = some id->rows[i]? = some r->H[id]? = some (.row 1 (jh r))
 nd:ids.Nodup
 ne:rows≠[]->o∉ids
theorem s8:∀{ids:List Nat} {rows:List (List V)},ids.length=rows.length->(refs ids rows).length=rows.length
 | [],[],_=>rfl
 | _::ids,_::rows,h=>by simp only[refs,List.length_cons,s8 (ids:=ids) (rows:=rows) (by simpa using h)]
theorem Gb:∀{ids:List Nat} {rows:List (List V)} (id:Nat) (r:List V),ids.length=rows.length->refs (ids++[id]) (rows++[r])=refs ids rows++[[V.hsl id 1 0 r.length]]
 | [],[],_,_,_=>rfl
 | _::ids,_::rows,id,r,h=>by simp only[refs,List.cons_append,Gb (ids:=ids) (rows:=rows) id r (by simpa using h)]
theorem BC:∀{ids:List Nat} {rows:List (List V)} {i id:Nat} {r:List V},ids[i]? = some id->rows[i]? = some r->(refs ids rows)[i]? = some [V.hsl id 1 0 r.length]
 | [],_,_,_,_,h,_=>by simp at h
 | _::_,[],_,_,_,_,h=>by simp at h
 | a::ids,b::rows,0,id,r,h1,B=>by simp at h1 B;subst h1 B;rfl
 | a::ids,b::rows,i+1,id,r,h1,B=>by simpa [refs]using BC (ids:=ids) (rows:=rows) (i:=i) (by simpa using h1) (by simpa using B)
theorem GX:∀{ids:List Nat} {rows:List (List V)} {i:Nat} {r B:List V},rows[i]? = some r->B.length=r.length->refs ids (rows.set i B)=refs ids rows
 | [],_,_,_,_,_,_=>by simp[refs]
 | _::_,[],_,_,_,_,_=>by simp[refs]
 | a::ids,b::rows,0,r,B,h,D=>by simp at h;subst h;simp only[List.set_cons_zero,refs,D]
 | a::ids,b::rows,i+1,r,B,h,D=>by simp only[List.set_cons_succ,refs,GX (ids:=ids) (rows:=rows) (i:=i) (by simpa using h) D]
section
variable {H H':bl} {v:V} {o:Nat} {ids:List Nat} {rows:List (List V)}
theorem mg.nil (H:bl) (o:Nat):mg H .bH o [] []:=⟨rfl,λh=>absurd rfl h,rfl,λi id r h=>by simp at h,.nil,λh=>absurd rfl h⟩
theorem mg.heap (n:mg H v o ids rows) (B:rows≠[]->H'[o]? = H[o]?) (D:∀id∈ids,H'[id]? = H[id]?):mg H' v o ids rows:=
 ⟨n.v,λh=>by rw[B h];exact n.ob h,n.len,λi id r h1 q=>by rw[D id (List.mem_of_getElem? h1)];exact n.r i id r h1 q,n.nd,n.ne⟩
theorem mg.lt (n:mg H v o ids rows):(rows≠[]->o<H.length)/\∀id∈ids,id<H.length:=by
 refine⟨λh=>(ζe.1 (n.ob h)).1,λid q=>?_⟩
 obtain⟨i,t⟩:=List.getElem?_of_mem q;have u:=(ζe.1 t).1;have:=n.r i id _ t (ζd (show i<rows.length from n.len▸u));exact(ζe.1 this).1
theorem mg.more (n:mg H v o ids rows) (X:bl):mg (H++X) v o ids rows:=
 n.heap (λh=>List.getElem?_append_left (n.lt.1 h)) λid q=>List.getElem?_append_left (n.lt.2 id q)
theorem mg.push (n:mg H v o ids rows) (r:List V) (U:rows.length+1<=2147483648) :
 ∃H',eY (H++[.row 1 (jh r)]++[.row 1 [[.hsl H.length 1 0 r.length]]]) (.append 1) [v,.hsl (H.length+1) 1 0 1]=some (.hsl (H.length+2) 1 0 (rows.length+1),H') /\
  mg H' (.hsl (H.length+2) 1 0 (rows.length+1)) (H.length+2) (ids++[H.length]) (rows++[r])/\H.length<=H'.length/\(∀id,id<H.length->id≠o\/rows=[]->H'[id]? = H[id]?):=by
 generalize A:H++[.row 1 (jh r)]++[.row 1 [[.hsl H.length 1 0 r.length]]]=H2;have q:H2.length=H.length+2:=by subst A;simp
 have w:∀id,id<H.length->H2[id]? = H[id]? := λid h=>by
  subst A;rw[List.append_assoc,List.getElem?_append_left h]
 have h1:H2[H.length]? = some (.row 1 (jh r)):=by subst A;simp
 have Q:H2[H.length+1]? = some (.row 1 [[.hsl H.length 1 0 r.length]]):=by subst A;simp
 have hv:=n.v;have e2:dM H2 1 (.hsl (H.length+1) 1 0 1)=some [[.hsl H.length 1 0 r.length]]:=by
  simp[dM,Q,Ob.rows]
 by_cases hr:rows=[]
 .subst hr;rw[if_pos rfl]at hv;subst hv;have:ids=[]:=List.eq_nil_of_length_eq_zero n.len;subst this;refine⟨H2++[.row 1 [[.hsl H.length 1 0 r.length]]],?_,⟨by simp,λ_=>by rw[<-q];simp[refs],rfl,λi id J u t=>?_,by simp,λ_=>by simp⟩,by simp[q];omega,λid B _=>?_⟩
  .have e1:dM H2 1 .bH=some []:=rfl;simp only[eY,e1,e2,gQ,List.length_nil,List.length_singleton,Option.map_some,q];simp
  .cases i with
   | zero=>
    simp at u t;subst u t;rw[List.getElem?_append_left (by omega)];exact h1
   | succ i=>simp at u
  .rw[List.getElem?_append_left (by omega)];exact w id B
 .rw[if_neg hr]at hv;subst hv;have L:=n.ob hr;have D:=n.lt.1 hr;have e1:dM H2 1 (.hsl o 1 0 rows.length)=some (refs ids rows):=by
   simp only[dM,if_true,w o D,L,ζb,Ob.rows,s8 n.len,Nat.zero_add,Nat.le_refl,List.drop_zero];rw[List.take_of_length_le (by rw[s8 n.len];exact Nat.le_refl _)]
  have S:gQ H2 (.hsl o 1 0 rows.length)=some (H2.set o .dead):=by
   simp only[gQ,w o D,L]
  have z:∀id,id≠o->(H2.set o Ob.dead++[Ob.row 1 (refs ids rows++[[.hsl H.length 1 0 r.length]])])[id]? = if id<H2.length then H2[id]? else(H2.set o Ob.dead++[Ob.row 1 (refs ids rows++[[.hsl H.length 1 0 r.length]])])[id]? := λid C=>by
   split
   .rename_i h;rw[List.getElem?_append_left (by simpa using h),List.getElem?_set_ne (Ne.symm C)]
   .rfl
  refine⟨H2.set o .dead++[.row 1 (refs ids rows++[[.hsl H.length 1 0 r.length]])],?_,⟨by simp,λ_=>?_,by simp[n.len],λi id J u t=>?_,?_,λ_ hm=>?_⟩,by simp[q];omega,λid B C=>?_⟩
  .simp only[eY,e1,e2,S,s8 n.len,List.length_singleton,U,if_true,Option.map_some,q]
  .rw[Gb _ _ n.len,<-q];simp
  .have G:id≠o:=by
    rcases Nat.lt_or_ge i ids.length with h|h
    .rw[List.getElem?_append_left h]at u;intro e;subst e;exact n.ne hr (List.mem_of_getElem? u)
    .have:i=ids.length:=by have:=(ζe.1 u).1;simp at this;omega
     subst this;simp at u;subst u;omega
   rcases Nat.lt_or_ge i ids.length with h|h
   .rw[List.getElem?_append_left h]at u;rw[List.getElem?_append_left (by rw[<-n.len];exact h)]at t
    have I:=n.lt.2 id (List.mem_of_getElem? u);rw[z id G,if_pos (by omega),w id I]
    exact n.r i id J u t
   .have:i=ids.length:=by have:=(ζe.1 u).1;simp at this;omega
    subst this;simp at u;subst u;rw[n.len]at t;simp at t;subst t;rw[z _ G,if_pos (by omega)];exact h1
  .rw[List.nodup_append];exact⟨n.nd,by simp,λa T b O=>by simp at O;subst O;exact Nat.ne_of_lt (n.lt.2 a T)⟩
  .rcases List.mem_append.1 hm with hm|hm
   .have:=n.lt.2 _ hm;omega
   .simp at hm
  .rw[z id (C.resolve_right hr),if_pos (by omega)];exact w id B
end
end Go.VE
namespace Go.VE
variable [bX]
theorem jH {E:Env} {N:Nat->FuncId} {F:Frame} {H H1:bl} {call:dn} {b:Option Nat} {o:RO} {l:List RO} {v:V} {r:Frame×bl} (hg:o.gd=none) (hv:bJ E N call b o.now o.k (o.az.map (bu N F)) H=some (v,H1)) (h:cw E N call b l (bq F o.dst v) H1=some r):cw E N call b (o::l) F H=some r:=by
 simp only[cw,hg,hv];exact h
theorem vp {E:Env} {N:Nat->FuncId} {F:Frame} {H:bl} {call:dn} {b:Option Nat} {o:RO} {l:List RO} {v:V} {r:Frame×bl} (hg:o.gd=none) (hv:bJ E N call b o.now o.k (o.az.map (bu N F)) H=some (v,H)) (h:cw E N call b l (bq F o.dst v) H=some r):cw E N call b (o::l) F H=some r:=jH hg hv h
theorem dS {E:Env} {N:Nat->FuncId} {F:Frame} {H:bl} {call:dn} {b:Option Nat}:cw E N call b [] F H=some (F,H):=rfl
theorem xI {n:Nat} (h:n<=2147483648):IntKind.wrap .i64 ((n:Int)+1)=((n+1:Nat):Int):=by
 simp[IntKind.wrap,IntKind.bits,IntKind.signed];omega
theorem Ua {n:Nat} (h:n<=2147483648):IntKind.wrap .i64 (((n+1:Nat):Int)-1)=(n:Int):=by
 simp[IntKind.wrap,IntKind.bits,IntKind.signed];omega
theorem jJ (H:bl):H.take H.length=H:=List.take_length
theorem Be {E:Env} {nm:FuncId->Option Nat} {f:FuncId} {rc:RC} {n:Nat} {rs:List ResultVar} (h:((E.ft f).map λfi=>(bQ ⟨E,nm,fi.ntmps⟩ false fi.body,Nat.ble n fi.ntmps,fi.results))=some (some rc,true,rs)) :
 ∃fi,E.ft f=some fi/\bQ ⟨E,nm,fi.ntmps⟩ false fi.body=some rc/\n<=fi.ntmps/\fi.results=rs:=by
 obtain⟨fi,h1,q⟩:=ζf.1 h;simp only[ζc]at q;exact⟨fi,h1,q.1,Nat.le_of_ble_eq_true q.2.1,q.2.2⟩
theorem Ek {x:V} (h:x.one=true):x.cells=[x]:=by
 cases x <;> first|rfl|(simp[V.one]at h)
def kept (t:Nat->Bool) (n:Nat):List Nat:=(List.range n).filter λi=>i==0 || !t i
theorem wE (t:Nat->Bool) (n:Nat):kept t (n+1)=kept t n++if n==0 || !t n then [n]else []:=by
 unfold kept;rw[List.range_succ,List.filter_append,List.filter_cons];rfl
theorem Qq (t:Nat->Bool):∀n,(kept t n).length<=n:=λn=>by
 unfold kept;exact Nat.le_trans (List.length_filter_le ..) (by simp)
theorem A4 {t:Nat->Bool}:∀n,(∀i,0<i->i<n->t i=false)->kept t n=List.range n
 | 0,_=>rfl
 | n+1,h=>by
  rw[wE,A4 n λi h1 B=>h i h1 (by omega),List.range_succ]
  congr 1
  cases n with
  | zero=>rfl
  | succ n=>rw[h (n+1) (by omega) (by omega)];simp
theorem zS {t:Nat->Bool} {k:Nat} (h0:0<k) (hk:t k=true):∀n,k<n->(kept t n).length+1<=n
 | 0,h=>by omega
 | n+1,h=>by
  rw[wE]
  by_cases e:n=k
  .subst e;have:(n==0 || !t n)=false:=by simp[hk];omega
   rw[this];have:=Qq t n;simp;omega
  .have:=zS h0 hk n (by omega)
   split <;> simp <;> omega
namespace cmpX
instance {n:Nat}:OfNat Arg n:=⟨.s n⟩
def r1:List RO:=[o1 4 (.k (.bH)) []]
def r2:List RO:=[o1 8 0 [],o2 9 (.p .lenSl) [8] [],o2 10 (.p (.bin (some .int) none .lss)) [9,.k (.int .i64 2)] []]
def r3:List RO:=[o1 11 0 [],o1 4 11 []]
def r4:List RO:=[o1 5 (.k (.int .i64 1)) []]
def r5:List RO:=[o1 12 5 [],o1 13 0 [],o2 14 (.p .lenSl) [13] [],o2 15 (.p (.bin (some .int) none .lss)) [12,14] []]
def on (d:Nat) (k:K) (az:List Arg):RO:=⟨some d,none,true,k,az,[],[]⟩
def r6:List RO:=[o1 18 1 [],o1 19 0 [],o1 20 5 [],o2 21 (.p (.idxS 1)) [19,20] [],o2 22 (.r (.load 1 false)) [21] [],o1 23 0 [],o1 24 5 [],o2 25 (.p (.bin (some .int) none .sub)) [24,.k (.int .i64 1)] [],o2 26 (.p (.idxS 1)) [23,25] [],o2 27 (.r (.load 1 false)) [26] [],on 28 .c [18,22,27]]
def r7:List RO:=[o1 29 0 [],o1 30 5 [],o2 31 (.p (.slice 1 true false)) [29,30] [],o1 6 31 []]
def r8:List RO:=[o1 7 (.k (.int .i64 1)) []]
def r9:List RO:=[o1 32 7 [],o1 33 6 [],o2 34 (.p .lenSl) [33] [],o2 35 (.p (.bin (some .int) none .lss)) [32,34] []]
def CF:List RO:=[o1 38 1 [],o1 39 6 [],o1 40 7 [],o2 41 (.p (.idxS 1)) [39,40] [],o2 42 (.r (.load 1 false)) [41] [],o1 43 6 [],o1 44 7 [],o2 45 (.p (.bin (some .int) none .sub)) [44,.k (.int .i64 1)] [],o2 46 (.p (.idxS 1)) [43,45] [],o2 47 (.r (.load 1 false)) [46] [],on 48 .c [38,42,47],on 49 (.p (.not)) [48]]
def D0:List RO:=[o1 50 0 [],o1 51 5 [],o1 52 6 [],o1 53 7 [],o2 54 (.p (.idxS 1)) [52,53] [],o2 55 (.r (.load 1 false)) [54] [],o2 56 (.p (.idxS 1)) [50,51] [],⟨none,none,false,.l (.store 1),[56,55],[],[]⟩]
def Ez:List RO:=[o1 57 5 [],o2 58 (.p (.bin (some .int) none .add)) [57,.k (.int .i64 1)] [],o1 5 58 []]
def DD:List RO:=[o1 36 7 [],o2 37 (.p (.bin (some .int) none .add)) [36,.k (.int .i64 1)] [],o1 7 37 []]
def Vi:RC:=.seq (.seq (.ops r9) (.cond (.s 35) (.skip) (.exit 2))) (.seq (.block 3 (.seq (.oO CF) (.cond (.s 49) (.seq (.ops D0) (.ops Ez)) (.skip)))) (.ops DD))
def B_:List RO:=[o1 59 0 [],o1 60 5 [],o2 61 (.p (.slice 1 true false)) [59,60] [],⟨none,none,false,.l (.clear 1 [.bH]),[61],[],[]⟩]
def DJ:List RO:=[o1 62 0 [],o1 63 5 [],o2 64 (.p (.slice 1 false true)) [62,63] [],o1 4 64 []]
def Em:List RO:=[o1 16 5 [],o2 17 (.p (.bin (some .int) none .add)) [16,.k (.int .i64 1)] [],o1 5 17 []]
def Px:RC:=.seq (.seq (.ops r5) (.cond (.s 15) (.skip) (.exit 0))) (.seq (.block 1 (.seq (.oO r6) (.cond (.s 28) (.seq (.ops r7) (.seq (.seq (.ops r8) (.block 2 (.loop Vi))) (.seq (.ops B_) (.seq (.ops DJ) (.ret))))) (.skip)))) (.ops Em))
def KS:List RO:=[o1 65 0 [],o1 4 65 []]
def code:RC:=.seq (.ops r1) (.seq (.seq (.ops r2) (.cond (.s 10) (.seq (.ops r3) (.ret)) (.skip))) (.seq (.seq (.ops r4) (.block 0 (.loop Px))) (.seq (.ops KS) (.ret))))
structure Wq (F F':Frame):Prop where
 s0:get F' 0=get F 0
 s1:get F' 1=get F 1
section
variable {E:Env} {N:Nat->FuncId} {F:Frame} {H:bl} {call:dn} {id off L k:Nat}
theorem ld {B:List (List V)} {el:Nat} {v:V} (h:H[id]? = some (.row 1 B)) (hv:B[el]? = some [v]):eS H (.load 1 false) [.hptr id el 0]=some v:=by
 simp[eS,dY,h,Ob.rows,hv,cut,mk]
theorem O_ {i:Nat} (h:i<L):lG 1 (.hsl id 1 off L) (i:Int)=some (.hptr id (off+i) 0):=by
 unfold lG;rw[if_neg (by omega)];simp[h]
theorem x2 (f0:get F 0=.hsl id 1 off L):∃F',(∀call,cw E N call none r2 F H=some (F',H))/\get F' 10=.bool (decide ((L:Int)<2))/\(∀s,s<8->get F' s=get F s):=by
 refine⟨_,λcall=>vp (v:=.hsl id 1 off L) rfl ?_ <| vp (v:=.int .i64 L) rfl ?_ <| vp (v:=.bool (decide ((L:Int)<2))) rfl ?_ dS,?_,?_⟩
 .simp[bJ,bu,bh,f0]
 .simp[bJ,bu,bh,bq,og]
 .simp[bJ,bu,bh,bq,hU,nZ]
 .simp[bq]
 .intro s q;simp only[bq,br]
  repeat (rw[if_neg (by omega)])
theorem x5 (f0:get F 0=.hsl id 1 off L) (f5:get F 5=.int .i64 k):∃F',(∀call,cw E N call none r5 F H=some (F',H))/\get F' 15=.bool (decide (k<L))/\(∀s,s<8->get F' s=get F s):=by
 refine⟨_,λcall=>vp (v:=.int .i64 k) rfl ?_ <| vp (v:=.hsl id 1 off L) rfl ?_ <| vp (v:=.int .i64 L) rfl ?_ <| vp (v:=.bool (decide (k<L))) rfl ?_ dS,?_,?_⟩
 .simp[bJ,bu,bh,f5]
 .simp[bJ,bu,bh,bq,f0]
 .simp[bJ,bu,bh,bq,og]
 .simp[bJ,bu,bh,bq,hU,nZ]
 .simp[bq]
 .intro s q;simp only[bq,br]
  repeat (rw[if_neg (by omega)])
theorem TQ {g:FuncId} {cb:List V} {B:List (List V)} {o2 L2 i:Nat} {a b:V} {t:Bool} (h:H[id]? = some (.row 1 B)) (G:i+1<L2) (D:i<=2147483648) (J:B[o2+(i+1)]? = some [a]) (O:B[o2+i]? = some [b]) (hk:E.keep g=false) (f1:get F 1=.clo g [] cb) :
 (get F 0=.hsl id 1 o2 L2->get F 5=.int .i64 ((i+1:Nat):Int)->∃F',(∀call,cz call g (a::b::cb) H=some (.bool t)->cw E N call (some H.length) r6 F H=some (F',H))/\get F' 28=.bool t/\(∀s,s<8->get F' s=get F s)) /\
 (get F 6=.hsl id 1 o2 L2->get F 7=.int .i64 ((i+1:Nat):Int)->∃F',(∀call,cz call g (a::b::cb) H=some (.bool t)->cw E N call (some H.length) CF F H=some (F',H))/\get F' 49=.bool (!t)/\(∀s,s<8->get F' s=get F s)):=by
 have q:=Ua D;have e1:=ld h J;have e2:=ld h O;have i1:=O_ (id:=id) (off:=o2) (L:=L2) G;have i2:=O_ (id:=id) (off:=o2) (L:=L2) (show i<L2 by omega)
 refine⟨λf0 f5=>⟨_,λcall hc=>vp (v:=.clo g [] cb) rfl ?_ <| vp (v:=.hsl id 1 o2 L2) rfl ?_ <| vp (v:=.int .i64 ((i+1:Nat):Int)) rfl ?_ <| vp (v:=.hptr id (o2+(i+1)) 0) rfl ?_ <| vp (v:=a) rfl ?_ <| vp (v:=.hsl id 1 o2 L2) rfl ?_ <| vp (v:=.int .i64 ((i+1:Nat):Int)) rfl ?_ <|
  vp (v:=.int .i64 (i:Int)) rfl ?_ <| vp (v:=.hptr id (o2+i) 0) rfl ?_ <| vp (v:=b) rfl ?_ <| vp (v:=.bool t) rfl ?_ dS,?_,?_⟩,λf6 f7=>⟨_,λcall hc=>vp (v:=.clo g [] cb) rfl ?_ <| vp (v:=.hsl id 1 o2 L2) rfl ?_ <| vp (v:=.int .i64 ((i+1:Nat):Int)) rfl ?_ <| vp (v:=.hptr id (o2+(i+1)) 0) rfl ?_ <| vp (v:=a) rfl ?_ <| vp (v:=.hsl id 1 o2 L2) rfl ?_ <| vp (v:=.int .i64 ((i+1:Nat):Int)) rfl ?_ <|
  vp (v:=.int .i64 (i:Int)) rfl ?_ <| vp (v:=.hptr id (o2+i) 0) rfl ?_ <| vp (v:=b) rfl ?_ <| vp (v:=.bool t) rfl ?_ <| vp (v:=.bool (!t)) rfl ?_ dS,?_,?_⟩⟩
 .simp[bJ,bu,bh,f1]
 .simp[bJ,bu,bh,bq,f0]
 .simp only[bJ,List.map_cons,List.map_nil,bu,bq,br,Nat.reduceEqDiff,if_true,if_false,f5,bh];rfl
 .simp only[bJ,List.map_cons,List.map_nil,bu,bq,br,Nat.reduceEqDiff,if_true,if_false,bh];rw[i1];rfl
 .simp only[bJ,List.map_cons,List.map_nil,bu,bq,br,Nat.reduceEqDiff,if_true,if_false,jJ];rw[e1];rfl
 .simp[bJ,bu,bh,bq,f0]
 .simp only[bJ,List.map_cons,List.map_nil,bu,bq,br,Nat.reduceEqDiff,if_true,if_false,f5,bh];rfl
 .simp only[bJ,List.map_cons,List.map_nil,bu,bq,br,Nat.reduceEqDiff,if_true,if_false,bh,hU,q];rfl
 .simp only[bJ,List.map_cons,List.map_nil,bu,bq,br,Nat.reduceEqDiff,if_true,if_false,bh];rw[i2];rfl
 .simp only[bJ,List.map_cons,List.map_nil,bu,bq,br,Nat.reduceEqDiff,if_true,if_false,jJ];rw[e2];rfl
 .simp only[bJ,on,List.map_cons,List.map_nil,bu,bq,br,Nat.reduceEqDiff,if_true,if_false,jJ,hk,Bool.false_eq_true,List.nil_append,List.cons_append,hc,V.scalar]
 .simp[bq,on]
 .intro s u;simp only[bq,on,br]
  repeat (rw[if_neg (by omega)])
 .simp[bJ,bu,bh,f1]
 .simp[bJ,bu,bh,bq,f6]
 .simp only[bJ,List.map_cons,List.map_nil,bu,bq,br,Nat.reduceEqDiff,if_true,if_false,f7,bh];rfl
 .simp only[bJ,List.map_cons,List.map_nil,bu,bq,br,Nat.reduceEqDiff,if_true,if_false,bh];rw[i1];rfl
 .simp only[bJ,List.map_cons,List.map_nil,bu,bq,br,Nat.reduceEqDiff,if_true,if_false,jJ];rw[e1];rfl
 .simp[bJ,bu,bh,bq,f6]
 .simp only[bJ,List.map_cons,List.map_nil,bu,bq,br,Nat.reduceEqDiff,if_true,if_false,f7,bh];rfl
 .simp only[bJ,List.map_cons,List.map_nil,bu,bq,br,Nat.reduceEqDiff,if_true,if_false,bh,hU,q];rfl
 .simp only[bJ,List.map_cons,List.map_nil,bu,bq,br,Nat.reduceEqDiff,if_true,if_false,bh];rw[i2];rfl
 .simp only[bJ,List.map_cons,List.map_nil,bu,bq,br,Nat.reduceEqDiff,if_true,if_false,jJ];rw[e2];rfl
 .simp only[bJ,on,List.map_cons,List.map_nil,bu,bq,br,Nat.reduceEqDiff,if_true,if_false,jJ,hk,Bool.false_eq_true,List.nil_append,List.cons_append,hc,V.scalar]
 .simp[bJ,on,bu,bh,bq]
 .simp[bq,on]
 .intro s u;simp only[bq,on,br]
  repeat (rw[if_neg (by omega)])
end
end cmpX
end Go.VE
namespace Go.VE
variable [bX]
namespace cmpX
section
variable {E:Env} {N:Nat->FuncId} {F:Frame} {H:bl} {call:dn} {id off L k:Nat}
theorem x7 (f0:get F 0=.hsl id 1 off L) (f5:get F 5=.int .i64 k) (hk:k<=L):∃F',(∀call,cw E N call none r7 F H=some (F',H))/\get F' 6=.hsl id 1 (off+k) (L-k)/\(∀s,s<8->s≠6->get F' s=get F s):=by
 have e:hG 1 (.hsl id 1 off L) (some k) none=some (.hsl id 1 (off+k) (L-k)):=by
  unfold hG dN
  grind
 refine⟨_,λcall=>vp (v:=.hsl id 1 off L) rfl ?_ <| vp (v:=.int .i64 k) rfl ?_ <| vp (v:=.hsl id 1 (off+k) (L-k)) rfl ?_ <| vp (v:=.hsl id 1 (off+k) (L-k)) rfl ?_ dS,?_,?_⟩
 .simp[bJ,bu,bh,f0]
 .simp[bJ,bu,bh,bq,f5]
 .simp[bJ,bu,bq,br,bh,lC,e]
 .simp[bJ,bu,bh,bq]
 .simp[bq]
 .simp[bq,br]
  grind
theorem x9 {o2 L2 m:Nat} (f6:get F 6=.hsl id 1 o2 L2) (f7:get F 7=.int .i64 m):∃F',(∀call,cw E N call none r9 F H=some (F',H))/\get F' 35=.bool (decide (m<L2))/\(∀s,s<8->get F' s=get F s):=by
 refine⟨_,λcall=>vp (v:=.int .i64 m) rfl ?_ <| vp (v:=.hsl id 1 o2 L2) rfl ?_ <| vp (v:=.int .i64 L2) rfl ?_ <| vp (v:=.bool (decide (m<L2))) rfl ?_ dS,?_,?_⟩
 .simp[bJ,bu,bh,f7]
 .simp[bJ,bu,bh,bq,f6]
 .simp[bJ,bu,bh,bq,og]
 .simp[bJ,bu,bh,bq,hU,nZ]
 .simp[bq]
 .simp[bq,br]
  grind
theorem Th {B:List (List V)} {o2 L2 m p:Nat} {a z:V} (h:H[id]? = some (.row 1 B)) (f0:get F 0=.hsl id 1 off L) (f5:get F 5=.int .i64 p) (f6:get F 6=.hsl id 1 o2 L2) (f7:get F 7=.int .i64 m) (D:m<L2) (G:p<L)
 (J:B[o2+m]? = some [a]) (O:B[off+p]? = some [z]) (h1:a.one=true) :
 ∃F',(∀call,cw E N call none D0 F H=some (F',H.set id (.row 1 (B.set (off+p) [a]))))/\(∀s,s<8->get F' s=get F s):=by
 have i1:=O_ (id:=id) (off:=o2)  D;have i2:=O_ (id:=id) (off:=off)  G;have e1:=ld h J;have q:eY H (.store 1) [.hptr id (off+p) 0,a]=some (.undef,H.set id (.row 1 (B.set (off+p) [a]))):=by
  simp[eY,h,O,Ek h1,h1]
 refine⟨_,λcall=>vp (v:=.hsl id 1 off L) rfl ?_ <| vp (v:=.int .i64 p) rfl ?_ <| vp (v:=.hsl id 1 o2 L2) rfl ?_ <| vp (v:=.int .i64 m) rfl ?_ <| vp (v:=.hptr id (o2+m) 0) rfl ?_ <| vp (v:=a) rfl ?_ <| vp (v:=.hptr id (off+p) 0) rfl ?_ <| jH (v:=.undef)  rfl ?_ dS,?_⟩
 .simp[bJ,bu,bh,f0]
 .simp[bJ,bu,bh,bq,f5]
 .simp[bJ,bu,bh,bq,f6]
 .simp[bJ,bu,bh,bq,f7]
 .simp[bJ,bu,bq,br,bh];grind
 .simp[bJ,bu,bq,br];grind
 .simp[bJ,bu,bq,br,bh];grind
 .simp[bJ,bu,bq,br];omega
 .simp[bq,br]
  grind
theorem Jd {p:Nat} (B:p<=2147483648):(get F 5=.int .i64 p->∃F',(∀call,cw E N call none Ez F H=some (F',H))/\get F' 5=.int .i64 ((p+1:Nat):Int)/\(∀s,s<8->s≠5->get F' s=get F s)) /\
 (get F 7=.int .i64 p->∃F',(∀call,cw E N call none DD F H=some (F',H))/\get F' 7=.int .i64 ((p+1:Nat):Int)/\(∀s,s<8->s≠7->get F' s=get F s)) /\
 (get F 5=.int .i64 p->∃F',(∀call,cw E N call none Em F H=some (F',H))/\get F' 5=.int .i64 ((p+1:Nat):Int)/\(∀s,s<8->s≠5->get F' s=get F s)):=by
 have q:=xI B;refine⟨λf=>⟨_,λcall=>vp (v:=.int .i64 p) rfl ?_ <| vp (v:=.int .i64 (p+1:Nat)) rfl ?_ <| vp (v:=.int .i64 (p+1:Nat)) rfl ?_ dS,?_,?_⟩,
  λf=>⟨_,λcall=>vp (v:=.int .i64 p) rfl ?_ <| vp (v:=.int .i64 (p+1:Nat)) rfl ?_ <| vp (v:=.int .i64 (p+1:Nat)) rfl ?_ dS,?_,?_⟩,
  λf=>⟨_,λcall=>vp (v:=.int .i64 p) rfl ?_ <| vp (v:=.int .i64 (p+1:Nat)) rfl ?_ <| vp (v:=.int .i64 (p+1:Nat)) rfl ?_ dS,?_,?_⟩⟩ <;>
 first
 | (simp[bJ,bu,bh,f];done)
 | (simp only[bJ,List.map_cons,List.map_nil,bu,bq,br,if_true,bh,hU,q];rfl)
 | grind
 | (simp[bq];done)
 | (simp[bq,br];grind)
theorem Wf {B:List (List V)} {p:Nat} (h:H[id]? = some (.row 1 B)) (f0:get F 0=.hsl id 1 off L) (f5:get F 5=.int .i64 p) (D:p<L) (G:off+L<=B.length) :
 ∃F',(∀call,cw E N call none B_ F H=some (F',H.set id (.row 1 (B.take (off+p)++List.replicate (L-p) [.bH]++B.drop (off+L)))))/\(∀s,s<8->get F' s=get F s):=by
 have e:hG 1 (.hsl id 1 off L) (some p) none=some (.hsl id 1 (off+p) (L-p)):=by
  unfold hG dN
  grind
 obtain⟨q,t⟩:∃q,L-p=q+1:=⟨L-p-1,by omega⟩
 have hc:eY H (.clear 1 [.bH]) [.hsl id 1 (off+p) (L-p)]=some (.undef,H.set id (.row 1 (B.take (off+p)++List.replicate (L-p) [.bH]++B.drop (off+L)))):=by
  simp[eY,Cq,t,h]
  grind
 refine⟨_,λcall=>vp (v:=.hsl id 1 off L) rfl ?_ <| vp (v:=.int .i64 p) rfl ?_ <| vp (v:=.hsl id 1 (off+p) (L-p)) rfl ?_ <| jH (v:=.undef)  rfl ?_ dS,?_⟩
 .simp[bJ,bu,bh,f0]
 .simp[bJ,bu,bh,bq,f5]
 .simp[bJ,bu,bq,br,bh,lC,e]
 .simp only[bJ,List.map_cons,List.map_nil,bu,bq,br,if_true];omega
 .simp[bq,br]
  grind
theorem Pd {p:Nat} (f0:get F 0=.hsl id 1 off L) (f5:get F 5=.int .i64 p) (B:p<=L):∃F',(∀call,cw E N call none DJ F H=some (F',H))/\get F' 4=.hsl id 1 off p:=by
 have e:hG 1 (.hsl id 1 off L) none (some p)=some (.hsl id 1 off p):=by
  unfold hG dN
  grind
 refine⟨_,λcall=>vp (v:=.hsl id 1 off L) rfl ?_ <| vp (v:=.int .i64 p) rfl ?_ <| vp (v:=.hsl id 1 off p) rfl ?_ <| vp (v:=.hsl id 1 off p) rfl ?_ dS,?_⟩
 .simp[bJ,bu,bh,f0]
 .simp[bJ,bu,bh,bq,f5]
 .simp[bJ,bu,bq,br,bh,lC,e]
 .simp[bJ,bu,bh,bq]
 .simp[bq]
theorem Wi:∃F',(∀call,cw E N call none KS F H=some (F',H))/\get F' 4=get F 0:=
 ⟨_,λcall=>vp (v:=get F 0) rfl (by simp[bJ,bu,bh]) <| vp (v:=get F 0) rfl (by simp[bJ,bu,bh,bq]) dS,by simp[bq]⟩
theorem Tn:∃F',(∀call,cw E N call none r3 F H=some (F',H))/\get F' 4=get F 0:=
 ⟨_,λcall=>vp (v:=get F 0) rfl (by simp[bJ,bu,bh]) <| vp (v:=get F 0) rfl (by simp[bJ,bu,bh,bq]) dS,by simp[bq]⟩
end
structure JG (E:Env) (g:FuncId) (cb:List V) (H:bl) (id off L:Nat) (rs:List (List V)) (A:Nat->V) (t:Nat->Bool):Prop where
 row:H[id]? = some (.row 1 rs)
 len:off+L<=rs.length
 small:L<=2147483648
 at_:∀i,i<L->rs[off+i]? = some [A i]
 one:∀i,i<L->(A i).one=true
 keep:E.keep g=false
 cmp:∃n,∀k,n<=k->∀i,i+1<L->∀cur,cz (run E k) g (A (i+1)::A i::cb) (H.set id (.row 1 cur))=some (.bool (t (i+1)))
structure Head (g:FuncId) (cb:List V) (id off L kk m:Nat) (rs:List (List V)) (A:Nat->V) (t:Nat->Bool) (F:Frame) (cur:List (List V)):Prop where
 f0:get F 0=.hsl id 1 off L
 f1:get F 1=.clo g [] cb
 f5:get F 5=.int .i64 ((kept t (kk+m)).length:Nat)
 f6:get F 6=.hsl id 1 (off+kk) (L-kk)
 f7:get F 7=.int .i64 m
 len:cur.length=rs.length
 pre:∀p i,(kept t (kk+m))[p]? = some i->cur[off+p]? = some [A i]
 post:∀i,kk+m<=i+1->i<L->cur[off+i]? = some [A i]
 out:∀j,j<off\/off+L<=j->cur[j]? = rs[j]?
 cell:∀i,i<L->∃j,j<L/\cur[off+i]? = some [A j]
section
variable {E:Env} {N:Nat->FuncId} {g:FuncId} {cb:List V} {H:bl} {id off L kk:Nat} {rs:List (List V)} {A:Nat->V} {t:Nat->Bool}
theorem Kk (X:JG E g cb H id off L rs A t) (aa:0<kk) (ah:kk<L) (ht:t kk=true):∀(d m:Nat) (F:Frame) (B:List (List V)),kk+m+d=L->0<m->Head g cb id off L kk m rs A t F B ->
 ∃F' D,lR E N Vi F (H.set id (.row 1 B)) (.exit 2) F' (H.set id (.row 1 D))/\Head g cb id off L kk (L-kk) rs A t F' D:=by
 have J:=(ζe.1 X.row).1;have C:∀B,(H.set id (.row 1 B))[id]? = some (.row 1 B):=λB=>List.getElem?_set_self J
 have ai:=X.small;have af:=X.len;intro d
 induction d with
 | zero=>
  intro m F B he hm h;have em:m=L-kk:=by omega
  subst em;obtain⟨F1,e1,e2,e3⟩:=x9    h.f6 h.f7;refine⟨F1,B,lR.stop (Ex.uH (Ex.seq (Ex.cQ e1) (Ex.oQ (by simp[bu,e2]) Ex.exit)) (by simp)) (by simp),?_⟩
  exact⟨by rw[e3 0 (by omega)];exact h.f0,by rw[e3 1 (by omega)];exact h.f1,by rw[e3 5 (by omega)];exact h.f5,by rw[e3 6 (by omega)];exact h.f6,by rw[e3 7 (by omega)];exact h.f7,h.len,h.pre,h.post,h.out,h.cell⟩
 | succ d ih=>
  intro m F B he hm h;obtain⟨F1,a1,a2,Z⟩:=x9    h.f6 h.f7;have S:bu N F1 35=.bool true:=by
   show get F1 35=_;rw[a2,decide_eq_true (by omega)]
  obtain⟨m',rfl⟩:∃m',m=m'+1:=⟨m-1,by omega⟩
  obtain⟨n0,ab⟩:=X.cmp;have c1:B[off+kk+(m'+1)]? = some [A (kk+m'+1)]:=by
   have:=h.post (kk+m'+1) (by omega) (by omega);grind
  have c2:B[off+kk+m']? = some [A (kk+m')]:=by
   have:=h.post (kk+m') (by omega) (by omega);grind
  obtain⟨F2,b1,b2,b3⟩:=(TQ      (L2:=L-kk)  (C B) (by omega) (by omega) c1 c2 X.keep (by rw[Z 1 (by omega)];exact h.f1)).2 (by rw[Z 6 (by omega)];exact h.f6) (by rw[Z 7 (by omega)];exact h.f7)
  have T:∃n,∀k,n<=k->cw E N (run E k) (some (H.set id (.row 1 B)).length) CF F1 (H.set id (.row 1 B))=some (F2,H.set id (.row 1 B)):=⟨n0,λk hk=>b1 _ (ab k hk (kk+m') (by omega) B)⟩
  have u  := λs hs=>(b3 s hs).trans (Z s hs)
  have ad:(kept t (kk+(m'+1))).length+1<=kk+(m'+1):=zS aa ht _ (by omega)
  have q:kept t (kk+(m'+1)+1)=kept t (kk+(m'+1))++if t (kk+m'+1)then []else [kk+m'+1]:=by
   rw[wE]
   grind
  have w:kk+(m'+1+1)=kk+(m'+1)+1:=by omega
  cases U:t (kk+m'+1)with
  | true=>
   rw[U]at b2 q;simp  at q;obtain⟨F3,W,q2,O⟩:=(Jd     (p:=m'+1) (by omega)).2.1 (by rw[u 7 (by omega)];exact h.f7)
   obtain⟨F',D,i1,i2⟩:=ih (m'+1+1) F3 B (by omega) (by omega) ⟨by rw[O 0 (by omega) (by omega),u 0 (by omega)];exact h.f0,by rw[O 1 (by omega) (by omega),u 1 (by omega)];exact h.f1,
    by rw[O 5 (by omega) (by omega),u 5 (by omega),w,q];exact h.f5,by rw[O 6 (by omega) (by omega),u 6 (by omega)];exact h.f6,q2,h.len,by rw[w,q];exact h.pre,λi h1 Y=>h.post i (by omega) Y,h.out,h.cell⟩
   exact⟨F',D,lR.step (Ex.seq (Ex.seq (Ex.cQ a1) (Ex.mZ S Ex.skip)) (Ex.seq (Ex.block (Ex.seq (Ex.Jo (by decide) T) (Ex.oQ (by simp[bu,b2]) Ex.skip))) (Ex.cQ W))) i1,i2⟩
  | false=>
   rw[U]at b2 q;generalize hK:(kept t (kk+(m'+1))).length=K at *;obtain⟨_,_,hz⟩:=h.cell K (by omega)
   obtain⟨F3,W,q2⟩:=Th           (C B) (by rw[u 0 (by omega)];exact h.f0) (by rw[u 5 (by omega),h.f5,hK]) (by rw[u 6 (by omega)];exact h.f6) (by rw[u 7 (by omega)];exact h.f7) (by omega) (by omega) c1 hz (X.one _ (by omega))
   rw[List.set_set]at W;generalize G:B.set (off+K) [A (kk+m'+1)]=I at W;have hg:∀j,I[j]? = if j=off+K then some [A (kk+m'+1)]else B[j]? := λj=>by
    rw[<-G,List.getElem?_set]
    by_cases e:off+K=j
    .rw[if_pos e,if_pos e.symm,if_pos (by rw[h.len];omega)]
    .rw[if_neg e,if_neg (Ne.symm e)]
   obtain⟨F4,O,q4,q5⟩:=(Jd     (p:=K) (by omega)).1 (by rw[q2 5 (by omega),u 5 (by omega),h.f5,hK])
   have z:∀s,s<8->s≠5->get F4 s=get F s:=λs h1 Y=>by rw[q5 s h1 Y,q2 s h1,u s h1]
   obtain⟨F5,q6,q7,q8⟩:=(Jd     (p:=m'+1) (by omega)).2.1 (by rw[z 7 (by omega) (by omega)];exact h.f7)
   obtain⟨F',D,i1,i2⟩:=ih (m'+1+1) F5 I (by omega) (by omega) ⟨by rw[q8 0 (by omega) (by omega),z 0 (by omega) (by omega)];exact h.f0,by rw[q8 1 (by omega) (by omega),z 1 (by omega) (by omega)];exact h.f1,
    by rw[q8 5 (by omega) (by omega),q4,w,q,ζi,hK];rfl,by rw[q8 6 (by omega) (by omega),z 6 (by omega) (by omega)];exact h.f6,q7,by rw[<-G,List.length_set];exact h.len,
    λp i Q=>by
     rw[w,q]at Q;rw[hg]
     by_cases e:p=K
     .subst e;rw[<-hK,List.getElem?_append_right (Nat.le_refl _),Nat.sub_self]at Q;cases Q;rw[if_pos rfl]
     .have ae:p<(kept t (kk+(m'+1))).length:=by
       have:=(ζe.1 Q).1;simp at this;omega
      rw[List.getElem?_append_left ae]at Q;rw[if_neg (by omega)];exact h.pre p i Q,
    λi h1 Y=>by rw[hg,if_neg (by omega)];exact h.post i (by omega) Y,λj hj=>by rw[hg,if_neg (by omega)];exact h.out j hj,
    λi hi=>by
     rw[hg]
     by_cases e:off+i=off+K
     .rw[if_pos e];exact⟨_,by omega,rfl⟩
     .rw[if_neg e];exact h.cell i hi⟩
   exact⟨F',D,lR.step (Ex.seq (Ex.seq (Ex.cQ a1) (Ex.mZ S Ex.skip)) (Ex.seq (Ex.block (Ex.seq (Ex.Jo (by decide) T) (Ex.mZ (by simp[bu,b2]) (Ex.seq (Ex.cQ W) (Ex.cQ O))))) (Ex.cQ q6))) i1,i2⟩
structure Nr (off L:Nat) (rs:List (List V)) (A:Nat->V) (t:Nat->Bool) (rs':List (List V)):Prop where
 len:rs'.length=rs.length
 pre:∀p i,(kept t L)[p]? = some i->rs'[off+p]? = some [A i]
 all:∀c∈rs',c∈rs\/c=[.bH]
theorem Ji (X:JG E g cb H id off L rs A t):∀(d k:Nat) (F:Frame),k+d=L->0<k->(∀i,0<i->i<k->t i=false)->get F 0=.hsl id 1 off L->get F 1=.clo g [] cb->get F 5=.int .i64 k ->
 (∃F',lR E N Px F H (.exit 0) F' H/\get F' 0=.hsl id 1 off L/\∀i,0<i->i<L->t i=false) \/
 (∃F' D,lR E N Px F H .ret F' (H.set id (.row 1 D))/\get F' 4=.hsl id 1 off (kept t L).length/\Nr off L rs A t D):=by
 have Q:=(ζe.1 X.row).1;have S  := yL X.row;have ah:=X.small;have af:=X.len;intro d
 induction d with
 | zero=>
  intro k F he hk hp f0 f1 f5;have ek:k=L:=by omega
  subst ek;obtain⟨F1,e1,e2,e3⟩:=x5  (N:=N)  f0 f5;exact .inl ⟨F1,lR.stop (Ex.uH (Ex.seq (Ex.cQ e1) (Ex.oQ (by simp[bu,e2]) Ex.exit)) (by simp)) (by simp),by grind,hp⟩
 | succ d ih=>
  intro k F he hk hp f0 f1 f5;obtain⟨F1,a1,a2,a3⟩:=x5    f0 f5;have U:bu N F1 15=.bool true:=by
   show get F1 15=_;rw[a2,decide_eq_true (by omega)]
  obtain⟨u,rfl⟩:∃u,k=u+1:=⟨k-1,by omega⟩
  obtain⟨n0,ai⟩:=X.cmp;obtain⟨F2,b1,b2,b3⟩:=(TQ  (N:=N) (cb:=cb) (g:=g) (i:=u) (L2:=L) (t:=t (u+1)) X.row (by omega) (by omega) (X.at_ _ (by omega)) (X.at_ _ (by omega)) X.keep (by rw[a3 1 (by omega)];omega)).1 (by grind) (by grind)
  have W:∃n,∀k,n<=k->cw E N (run E k) (some H.length) r6 F1 H=some (F2,H):=⟨n0,λk hk=>b1 _ (by
   grind)⟩
  have Y  := λs hs=>(b3 s hs).trans (a3 s hs)
  cases w:t (u+1)with
  | false=>
   rw[w]at b2;obtain⟨T,q1,q2,q3⟩:=(Jd (E:=E)  (F:=F2)  (p:=u+1) (by omega)).2.2 (by grind)
   have z:Ex E N Px F H .norm T H:=Ex.seq (Ex.seq (Ex.cQ a1) (Ex.mZ U Ex.skip)) (Ex.seq (Ex.block (Ex.seq (Ex.Jo (by decide) W) (Ex.oQ (by simp[bu,b2]) Ex.skip))) (Ex.cQ q1))
   rcases ih (u+1+1) T (by omega) (by omega) (λi h1 Z=>by
    grind) (by grind) (by simp_all) q2 with⟨F',i1,i2⟩|⟨F',D,i1,i2⟩
   .exact .inl ⟨F',lR.step z i1,i2⟩
   .exact .inr ⟨F',D,lR.step z i1,i2⟩
  | true=>
   rw[w]at b2;refine .inr ?_;obtain⟨T,q1,q2,q3⟩:=x7 (E:=E) (N:=N)  (H:=H) (k:=u+1) (by rw[Y 0 (by omega)];exact f0) (by rw[Y 5 (by omega)];exact f5) (by omega)
   have G:kept t (u+1)=List.range (u+1):=A4 _ hp;have aa:kept t (u+1+1)=List.range (u+1):=by
    rw[wE,G,w];simp
   have q4:∀call,cw E N call none r8 T H=some (set T 7 (.int .i64 1),H):=λcall=>vp  rfl (by simp[bJ,bu,bh]) dS
   have h0:Head g cb id off L (u+1) 1 rs A t (set T 7 (.int .i64 1)) rs:=⟨by rw[gX _ _ (by omega),q3 0 (by omega) (by omega),Y 0 (by omega)];exact f0,by rw[gX _ _ (by omega),q3 1 (by omega) (by omega),Y 1 (by omega)];exact f1,
    by rw[gX _ _ (by omega),q3 5 (by omega) (by omega),Y 5 (by omega),aa,List.length_range];exact f5,by rw[gX _ _ (by omega)];exact q2,by rw[sD];rfl,rfl,
    λp i B=>by
     rw[aa]at B;obtain⟨h1,Z⟩:=ζe.1 B;simp at h1 Z;subst Z;exact X.at_ p (by omega),λi _ Z=>X.at_ i Z,λ_ _=>rfl,λi hi=>⟨i,hi,X.at_ i hi⟩⟩
   obtain⟨F5,C,l1,I⟩:=Kk (N:=N) X (by omega) (by omega) w (L-(u+1)-1) 1 _ rs (by omega) (by omega) h0
   rw[S]at l1;have eL:u+1+(L-(u+1))=L:=by omega
   have ae:=zS (t:=t) (k:=u+1) (by omega) w L (by omega)
   have l5:=I.f5;have J:=I.pre;rw[eL]at l5 J;generalize hK:(kept t L).length=K at *;have ab:(H.set id (.row 1 C))[id]? = some (.row 1 C):=List.getElem?_set_self Q;obtain⟨F6,w1,w2⟩:=Wf (E:=E) (N:=N) (p:=K) ab I.f0 l5 (by omega) (by rw[I.len];omega)
   rw[List.set_set]at w1;obtain⟨F7,w3,w4⟩:=Pd (E:=E)     (by rw[w2 0 (by omega)];exact I.f0) (by rw[w2 5 (by omega)];exact l5) (by omega)
   have aj:=I.len;refine⟨F7,C.take (off+K)++List.replicate (L-K) [.bH]++C.drop (off+L),lR.stop (Ex.seq (Ex.seq (Ex.cQ a1) (Ex.mZ U Ex.skip)) (Ex.uH (Ex.Mb (Ex.seq (Ex.Jo (by decide) W) (Ex.mZ (by simp[bu,b2]) (Ex.seq (Ex.cQ q1) (Ex.seq (Ex.seq (Ex.cQ q4) (Ex.uw (Ex.loop l1))) (Ex.seq (Ex.cQ w1) (Ex.seq (Ex.cQ w3) Ex.ret))))))) (by simp))) (by simp),w4,?_,λp i B=>?_,λc hc=>?_⟩
   .simp;omega
   .have ak:p<K:=by rw[<-hK];exact(ζe.1 B).1
    rw[List.append_assoc,List.getElem?_append_left (by simp;omega),List.getElem?_take,if_pos (by omega)]
    exact J p i B
   .have ad:∀j x,C[j]? = some x->x∈rs:=λj x O=>by
     by_cases ho:j<off\/off+L<=j
     .rw[I.out j ho]at O;exact List.mem_of_getElem? O
     .obtain⟨i,rfl⟩:∃i,j=off+i:=⟨j-off,by omega⟩
      obtain⟨q,hq,hc⟩:=I.cell i (by omega)
      rw[hc]at O;cases O;exact List.mem_of_getElem? (X.at_ q hq)
    rcases List.mem_append.1 hc with hc|hc
    .rcases List.mem_append.1 hc with hc|hc
     .obtain⟨j,O⟩:=List.getElem?_of_mem (List.mem_of_mem_take hc);exact .inl (ad j c O)
     .exact .inr (List.eq_of_mem_replicate hc)
    .obtain⟨j,O⟩:=List.getElem?_of_mem (List.mem_of_mem_drop hc);exact .inl (ad j c O)
end
end cmpX
end Go.VE
namespace Go.VE
variable [bX]
namespace cmpX
section
variable {E:Env} {N:Nat->FuncId} {g:FuncId} {cb:List V} {H:bl} {id off L:Nat} {rs:List (List V)} {A:Nat->V} {t:Nat->Bool}
theorem whole (X:JG E g cb H id off L rs A t):∃F' B,Ex E N code [.hsl id 1 off L,.clo g [] cb] H .ret F' (H.set id (.row 1 B))/\get F' 4=.hsl id 1 off (kept t L).length/\Nr off L rs A t B:=by
 have q:H.set id (.row 1 rs)=H:=yL X.row;have same:(∀i,0<i->i<L->t i=false)->(kept t L).length=L/\Nr off L rs A t rs:=λh=>by
  have hk:=A4 L h;rw[hk,List.length_range];exact⟨rfl,rfl,λp i O=>by
   rw[hk]at O;obtain⟨h1,u⟩:=ζe.1 O;simp at h1 u;subst u;exact X.at_ p h1,λc hc=>.inl hc⟩
 have g1:∀call,cw E N call none r1 [.hsl id 1 off L,.clo g [] cb] H=some (set [.hsl id 1 off L,.clo g [] cb] 4 .bH,H):=λcall=>vp (v:=.bH) rfl (by simp[bJ,bu,bh]) dS
 have k0:get (set [V.hsl id 1 off L,.clo g [] cb] 4 .bH) 0=.hsl id 1 off L:=rfl;have k1:get (set [V.hsl id 1 off L,.clo g [] cb] 4 .bH) 1=.clo g [] cb:=rfl;generalize set [V.hsl id 1 off L,.clo g [] cb] 4 .bH=T at *;obtain⟨F1,Q,S,w⟩:=x2 (E:=E) (N:=N) (H:=H) k0
 by_cases U:L<2
 .obtain⟨z,C,D⟩:=Tn (E:=E) (N:=N) (F:=F1) (H:=H);obtain⟨e1,e2⟩:=same λi h1 u=>by omega
  refine⟨z,rs,?_,by rw[e1,D,w 0 (by omega)];exact k0,e2⟩
  rw[q];exact Ex.seq (Ex.cQ g1) (Ex.uH (Ex.seq (Ex.cQ Q) (Ex.mZ (by show get F1 10=_;rw[S,decide_eq_true (by omega)]) (Ex.seq (Ex.cQ C) Ex.ret))) (by simp))
 .have g4:∀call,cw E N call none r4 F1 H=some (set F1 5 (.int .i64 1),H):=λcall=>vp (v:=.int .i64 1) rfl (by simp[bJ,bu,bh]) dS
  have hc:Ex E N (.seq (.ops r2) (.cond (.s 10) (.seq (.ops r3) (.ret)) (.skip))) T H .norm F1 H:=Ex.seq (Ex.cQ Q) (Ex.oQ (by show get F1 10=_;rw[S,decide_eq_false (by omega)]) Ex.skip)
  rcases Ji (N:=N) X (L-1) 1 (set F1 5 (.int .i64 1)) (by omega) (by omega) (λi h1 u=>by omega) (by rw[gX _ _ (by omega),w 0 (by omega)];exact k0) (by rw[gX _ _ (by omega),w 1 (by omega)];exact k1) (by rw[sD];rfl)with⟨F',G,I,J⟩|⟨F',B,G,I,J⟩
  .obtain⟨z,C,D⟩:=Wi (E:=E) (N:=N) (F:=F') (H:=H);obtain⟨e1,e2⟩:=same J;refine⟨z,rs,?_,by rw[e1,D];exact I,e2⟩
   rw[q];exact Ex.seq (Ex.cQ g1) (Ex.seq hc (Ex.seq (Ex.seq (Ex.cQ g4) (Ex.uw (Ex.loop G))) (Ex.seq (Ex.cQ C) Ex.ret)))
  .exact⟨F',B,Ex.seq (Ex.cQ g1) (Ex.seq hc (Ex.uH (Ex.seq (Ex.cQ g4) (Ex.Mb (Ex.loop G))) (by simp))),I,J⟩
theorem empty {w:V} (c:V) (B:w=.bH\/w=.c9):∃F',Ex E N code [w,c] H .ret F' H/\get F' 4=w:=by
 have g1:∀call,cw E N call none r1 [w,c] H=some (set [w,c] 4 .bH,H):=λcall=>vp (v:=.bH) rfl (by simp[bJ,bu,bh]) dS
 have k0:get (set [w,c] 4 .bH) 0=w:=rfl;generalize set [w,c] 4 .bH=t at *;have u:og w=some (.int .i64 0):=by rcases B with rfl|rfl <;> rfl
 have q:∃F1,(∀call,cw E N call none r2 t H=some (F1,H))/\get F1 10=.bool true/\get F1 0=w:=by
  refine⟨_,λcall=>vp (v:=w) rfl ?_ <| vp (v:=.int .i64 0) rfl ?_ <| vp (v:=.bool true) rfl ?_ dS,?_,?_⟩
  .simp[bJ,bu,bh,k0]
  .simp[bJ,bu,bh,bq,u]
  .simp[bJ,bu,bh,bq,hU,nZ]
  .simp[bq]
  .simp[bq,k0]
 obtain⟨F1,q,z,A⟩:=q;obtain⟨C,D,G⟩:=Tn (E:=E) (N:=N) (F:=F1) (H:=H);exact⟨C,Ex.seq (Ex.cQ g1) (Ex.uH (Ex.seq (Ex.cQ q) (Ex.mZ z (Ex.seq (Ex.cQ D) Ex.ret))) (by simp)),by rw[G,A]⟩
end
end cmpX
end Go.VE
namespace Go.VE
variable [bX]
def Sl.re {α:Type} (s:Sl α) (l:List α):Sl α:=match s with|.nil=>.nil|.emp=>.emp|.row _=>.row l|.part _=>.part l
section
variable {S:Sys} {T:rU} {β γ δ α:Type} {Q:Out×St->Option β} {e:γ->Option β} {cf:Cf}
theorem nE.Sm (B:wF S T) (D:∀f a b xs,S.items f a b=some xs->iA S f a b xs) {fn:FuncId} {A:δ->List V} {E:α->List V} {p:δ->Option α} {sc:Bool} (F:nE S (eO S T) fn A E p sc) {z:δ} {r:α} (h:p z=some r) (hg:V.cE (A z)=true) :
 ∃n,cz (run S.E n) fn (A z) []=some (result (E r)):=by
 have h1:=F.h z (E r) (by simp_all)
 obtain⟨⟨rs,m'⟩,q,t⟩:=ζg.1 h1;obtain⟨n,y,H2,e1,e2,e3⟩:=A8 (wL B D) hg q t (F.r r);refine⟨n,?_⟩;have u:borrows 8 [] (A z)=some (A z):=by
  have hc:=V.nq hg;generalize A z=l at hc;unfold borrows
  induction l with
  | nil=>rfl
  | cons x l w=>
   simp[V.kR]at hc;simp[ko,ez 8 [] hc.1,w hc.2]
 unfold cz;rw[u];simp[e1 n (Nat.le_refl _),e2,V.lI e3]
section
variable [bE α] [Lv 8 α]
end
end
end Go.VE
namespace Go.VE
variable [bX]
section
variable {H H':bl} {w:V} {o:Nat} {ids:List Nat} {rows:List (List V)}
theorem mg.cell (n:mg H w o ids rows) {p j:Nat} {r:List V} {u:V} (hr:rows[p]? = some r) (hu:r[j]? = some u) :
 ∃id,ids[p]? = some id/\lG 1 w (p:Int)=some (.hptr o p 0)/\eS H (.load 1 false) [.hptr o p 0]=some (.hsl id 1 0 r.length)/\lG 1 (.hsl id 1 0 r.length) (j:Int)=some (.hptr id j 0)/\eS H (.load 1 false) [.hptr id j 0]=some u:=by
 have A:=(ζe.1 hr).1;have B:=(ζe.1 hu).1;have t:rows≠[]:=by intro e;subst e;simp at hr
 have z:p<ids.length:=by rw[n.len];exact A
 have q:=ζd z;refine⟨ids[p],q,?_,?_,?_,?_⟩
 .have:=n.v;rw[if_neg t]at this;subst this;simp[lG,A]
 .have h1:=n.ob t;have C:=BC q hr;simp[eS,dY,h1,Ob.rows,C,cut];rfl
 .simp[lG,B]
 .have h1:=n.r p _ r q hr;simp[eS,dY,h1,Ob.rows,jh,hu,cut];rfl
theorem LJ {ids:List Nat} (h:ids.Nodup) {i j:Nat} {a:Nat} (B:ids[i]? = some a) (D:ids[j]? = some a):i=j:=by
 have h1:=(ζe.1 B);have q:=(ζe.1 D);obtain⟨h1,e1⟩:=h1;obtain⟨q,e2⟩:=q;exact(List.getElem_inj h).1 (e1.trans e2.symm)
theorem mg.set (n:mg H w o ids rows) {p j id:Nat} {r:List V} {u:V} (hr:rows[p]? = some r) (J:j<r.length) (B:ids[p]? = some id) (hu:V.one u=true) (hc:u.cells=[u]) :
 ∃H',eY H (.store 1) [.hptr id j 0,u]=some (.undef,H')/\mg H' w o ids (rows.set p (r.set j u))/\H'.length=H.length/\(∀i,i≠id->H'[i]? = H[i]?):=by
 have I:=(ζe.1 hr).1;have q:rows≠[]:=by intro e;subst e;simp at hr
 have h1:=n.r p id r B hr;have L:id<H.length:=(ζe.1 h1).1;have A:(jh r).set j [u]=jh (r.set j u):=by simp[jh,List.map_set]
 have C:o≠id:=λe=>n.ne q (e▸List.mem_of_getElem? B)
 refine⟨H.set id (.row 1 (jh (r.set j u))),?_,⟨?_,λ_=>?_,by simp[n.len],λi D O z t=>?_,n.nd,λ_=>n.ne q⟩,by simp,λi z=>List.getElem?_set_ne (Ne.symm z)⟩
 .have Q:(jh r)[j]? = some [r[j]]:=by simp[jh,J]
  simp only[eY,h1,Q,hc,List.length_singleton,Nat.zero_add,Nat.le_refl,List.all_cons,hu,List.all_nil,Bool.and_self,and_self,if_true,List.take_zero,List.nil_append];rw[<-A];simp
 .rw[n.v];have:rows.set p (r.set j u)≠[]:=by intro e;apply q;simpa using e
  rw[if_neg q,if_neg this,List.length_set]
 .rw[List.getElem?_set_ne (Ne.symm C),GX hr (by simp)];exact n.ob q
 .by_cases e:i=p
  .subst e;rw[B]at z;cases z;rw[List.getElem?_set_self I]at t;cases t;rw[List.getElem?_set_self L]
  .rw[List.getElem?_set_ne (Ne.symm e)]at t;have G:id≠D:=λS=>e (LJ n.nd (S▸z) B)
   rw[List.getElem?_set_ne G];exact n.r i D O z t
end
structure j_ (H:bl) (w:V) (l:List (List V)) (id:Nat):Prop where
 c:∀c∈l,c.length=2/\c.all V.one=true
 v:(w=.bH/\l=[])\/∃off xs,w=.hsl id 2 off l.length/\H[id]? = some (.row 2 xs)/\off+l.length<=xs.length/\(xs.drop off).take l.length=l
section
variable {H H':bl} {w:V} {l:List (List V)} {id:Nat}
theorem j_.heap (n:j_ H w l id) (h:∀off n,w=.hsl id 2 off n->H'[id]? = H[id]?):j_ H' w l id:=
 ⟨n.c,n.v.imp (λh=>h) λ⟨off,q,e1,e2,e3,e4⟩=>⟨off,q,e1,by rw[h _ _ e1];exact e2,e3,e4⟩⟩
theorem j_.lt (n:j_ H w l id) {off m:Nat} (h:w=.hsl id 2 off m):id<H.length:=by
 rcases n.v with⟨e,_⟩|⟨_,q,_,e2,_⟩
 .rw[e]at h;cases h
 .exact(ζe.1 e2).1
theorem j_.more (n:j_ H w l id) (X:bl):j_ (H++X) w l id:=n.heap λ_ _ e=>List.getElem?_append_left (n.lt e)
theorem j_.len (n:j_ H w l id):og w=some (.int .i64 l.length):=by
 rcases n.v with⟨rfl,rfl⟩|⟨off,q,rfl,_⟩ <;> rfl
theorem j_.get (n:j_ H w l id) {i:Nat} {c:List V} (hc:l[i]? = some c):∃p,lG 2 w (i:Int)=some p/\eS H (.load 2 true) [p]=some (.agg c):=by
 have t:=(ζe.1 hc).1;have q:=(n.c c (List.mem_of_getElem? hc)).1;rcases n.v with⟨_,rfl⟩|⟨off,u,rfl,e2,e3,e4⟩
 .simp at hc
 .refine⟨.hptr id (off+i) 0,by simp[lG,t],?_⟩
  have:u[off+i]? = some c:=by
   rw[<-e4,List.getElem?_take,if_pos t,List.getElem?_drop]at hc;exact hc
  simp[eS,dY,e2,Ob.rows,this,cut,<-q];rfl
theorem j_.tail {c:List V} (n:j_ H w (c::l) id):∃w',hG 2 w (some 1) none=some w'/\j_ H w' l id/\∃off m B,w=.hsl id 2 off m/\w'=.hsl id 2 B l.length:=by
 rcases n.v with⟨_,e⟩|⟨off,q,rfl,e2,e3,e4⟩
 .cases e
 .refine⟨.hsl id 2 (off+1) l.length,?_,⟨λc hc=>n.c c (List.mem_cons_of_mem _ hc),.inr ⟨off+1,q,rfl,e2,by simp at e3;omega,?_⟩⟩,⟨_,_,_,rfl,rfl⟩⟩
  .simp[hG,dN];omega
  .have t:(q.drop off).drop 1=q.drop (off+1):=by rw[List.drop_drop]
   rw[<-t];have:=congrArg (List.drop 1) e4;rw[List.drop_take]at this;simpa using this
theorem j_.push (n:j_ H w l id) {c:List V} (hc:c.length=2/\c.all V.one=true) (B:l.length+1<=2147483648) :
 ∃H',eY (H++[.row 2 [c]]) (.append 2) [w,.hsl H.length 2 0 1]=some (.hsl (H.length+1) 2 0 (l.length+1),H')/\j_ H' (.hsl (H.length+1) 2 0 (l.length+1)) (l++[c]) (H.length+1)/\H'.length=H.length+2/\(∀i,i<H.length->(∀off m,w=.hsl id 2 off m->i≠id)->H'[i]? = H[i]?):=by
 have e2:dM (H++[.row 2 [c]]) 2 (.hsl H.length 2 0 1)=some [c]:=by simp[dM,Ob.rows]
 have q:∀c'∈l++[c],c'.length=2/\c'.all V.one=true:=λc' h=>by
  rcases List.mem_append.1 h with h|h
  .exact n.c c' h
  .simp at h;subst h;exact hc
 rcases n.v with⟨rfl,rfl⟩|⟨off,A,rfl,g2,g3,g4⟩
 .have e1:dM (H++[.row 2 [c]]) 2 .bH=some []:=rfl;refine⟨H++[.row 2 [c]]++[.row 2 [c]],?_,⟨q,.inr ⟨0,[c],rfl,by simp,by simp,rfl⟩⟩,by simp,λi u _=>by rw[List.append_assoc,List.getElem?_append_left u]⟩
  simp only[eY,e1,e2,gQ,List.length_nil,List.length_singleton,Option.map_some];simp
 .have t:=(ζe.1 g2).1;have e1:dM (H++[.row 2 [c]]) 2 (.hsl id 2 off l.length)=some l:=by
   simp only[dM,if_true,List.getElem?_append_left t,g2,ζb,Ob.rows,g3,g4]
  have z:gQ (H++[.row 2 [c]]) (.hsl id 2 off l.length)=some (List.set (H++[Ob.row 2 [c]]) id Ob.dead):=by
   simp only[gQ,List.getElem?_append_left t,g2]
  refine⟨List.set (H++[Ob.row 2 [c]]) id Ob.dead++[Ob.row 2 (l++[c])],?_,⟨q,.inr ⟨0,l++[c],by simp,by simp,by simp,List.take_of_length_le (by simp)⟩⟩,by simp,λi u h=>?_⟩
  .simp only[eY,e1,e2,z,List.length_singleton,B,if_true,Option.map_some,ζi]
  .rw[List.getElem?_append_left (by simp;omega),List.getElem?_set_ne (Ne.symm (h _ _ rfl)),List.getElem?_append_left u]
end
noncomputable def Dq (rs:List RV):Out×St->Option bP
 | (.exit _,_)=>none
 | (_,st)=>(nW st rs).bind λl=>match l with
  | [.own d]=>bk st.m d
  | _=>none
theorem Vk {S:Sys} {c:cq} {rs:List RV} {rc:RC} {st:St} {ob:bP} (h:l8 S c (Dq rs) rc [] st=some ob):∃o st' d,cA S c rc st=some (o,st')/\(∀id,o≠.exit id)/\nW st' rs=some [.own d]/\bk st'.m d=some ob:=by
 rw[tE]at h;obtain⟨⟨o,st'⟩,h1,q⟩:=ζg.1 h;have u:∀id,o≠.exit id:=by rintro id rfl;simp[Dq]at q
 have w:(nW st' rs).bind (λl=>match l with|[.own d]=>bk st'.m d|_=>none)=some ob:=by
  cases o with
  | exit id=>exact absurd rfl (u id)
  | norm=>exact q
  | ret=>exact q
 obtain⟨l,z,t⟩:=ζg.1 w;split at t
 .exact⟨o,st',_,h1,u,z,t⟩
 .cases t
theorem TE {S:Sys} {T:rU} (J:wF S T) (O:∀f a b xs,S.items f a b=some xs->iA S f a b xs) {f:FuncId} {rf:RF} (U:T f=some rf) {B:List V} (hg:V.cE B=true) (W:B.length<=rf.na) {k:Fl} {es:Nat} {xs:List (List V)}
 (Y:∀x∈xs,x.all V.scalar=true) (hk:k=.row\/k=.nil/\xs=[]) (h:l8 S (eO S T) (Dq rf.rs) rf.body [] (start (B.map .v) [])=some (.sl k es xs)) :
 ∃n y H',run S.E n (.fn f) B []=some (y,H')/\((k=.nil/\y=.bH)\/(∃id,y=.hsl id es 0 xs.length/\H'[id]? = some (.row es xs))):=by
 obtain⟨o,st',d,h1,L,C,D⟩:=Vk h;have hc:eO S T f (B.map .v) []=some ([.own d],st'.m):=by
  rw[yd U];unfold oR;rw[if_pos (by simpa using W),h1]
  cases o with
  | exit id=>exact absurd rfl (L id)
  | norm=>simp only[C,Option.map_some]
  | ret=>simp only[C,Option.map_some]
 obtain⟨Q,r1⟩:=wI hg;obtain⟨n,y,H2,ν',Z',st2,F',G,g1,rfl,g3,g4,g5,_⟩:=wL J O f _ _ _ _ hc _ _ B [] (.inr rfl) Q r1;obtain⟨z,zs,rfl,e1,e2⟩:=g4.inv;have:=e2.cU;subst this;refine⟨n,_,H2,g1,?_⟩
 cases e1 with
 | own d y X=>
  obtain⟨k',Z,aa,e,t⟩:=X _ D;cases e;have u:=g5.obj d _ (by rw[g3];exact D)
  rcases hk with rfl|⟨rfl,rfl⟩
  .right;simp only[dV,cF,if_true]at u;obtain⟨G,q1,q2,A,q4,w⟩:=u;obtain⟨w,q6⟩:=w trivial;rw[w,List.drop_zero,<-q6,List.take_of_length_le (Nat.le_refl _)]at A;have:xs=G:=by
    refine List.ext_getElem A.1 λi p q=>?_
    have H:=A.2 i _ _ (ζd p) (ζd q);refine List.ext_getElem H.1 λj I q'=>?_
    have hj:=H.2 j _ _ (ζd I) (ζd q');exact((hj.scalar).1 (List.all_eq_true.1 (Y _ (List.getElem_mem p)) _ (List.getElem_mem I))).symm
   subst this;refine⟨(ν' d).1,?_,q1⟩;show result [_]=_;rw[t];simp[result,rz,w]
  .left;exact⟨rfl,by show result [_]=_;rw[t];rfl⟩
theorem F_ {E:Env} {f:FuncId} {B:List V} {l:List (List V)} {y:V} {H1:bl} (hk:E.own f=true) (hg:V.cE B=true) (D:∀c∈l,c.length=2/\c.all V.one=true/\c.all V.scalar=true)
 (hr:∃n,∀k,n<=k->run E k (.fn f) B []=some (y,H1)) (G:(l=[]/\y=.bH)\/(∃id,y=.hsl id 2 0 l.length/\H1[id]? = some (.row 2 l))) (H:bl) :
 ∃w X id,(∃n,∀k,n<=k->e9 E (run E k) f B H=some (w,H++X))/\j_ (H++X) w l id/\(∀off m,w=.hsl id 2 off m->id=H.length):=by
 obtain⟨n,hr⟩:=hr;have u:∀{l:List V},V.cE l=true->borrows 8 H l=some l:=by
  intro l;unfold borrows
  induction l with
  | nil=>intro _;rfl
  | cons a l z=>
   intro h;have h1:V.good a=true/\V.cE l=true:=by simpa [V.cE]using h
   simp only[ko,ez 8 H (V.lI h1.1),z h1.2]
 rcases G with⟨rfl,rfl⟩|⟨id,rfl,t⟩
 .refine⟨.bH,[],0,⟨n,λk q=>?_⟩,⟨λc h=>by simp at h,.inl ⟨rfl,rfl⟩⟩,λoff m h=>by cases h⟩
  simp only[e9,hk,if_true,kW,u hg,hr k q,V.scalar,List.append_nil]
 .refine⟨.hsl H.length 2 0 l.length,[.row 2 l],H.length,⟨n,λk q=>?_⟩,⟨λc h=>⟨(D c h).1,(D c h).2.1⟩,.inr ⟨0,l,rfl,by simp,by simp,by simp⟩⟩,λoff m h=>rfl⟩
  have A:(l.all λx=>x.all V.scalar)=true:=List.all_eq_true.2 λc h=>(D c h).2.2
  simp only[e9,hk,if_true,kW,u hg,hr k q,V.scalar,Bool.false_eq_true,if_false,qo,t,A,and_self,Option.map_some]
end Go.VE
namespace Go.VE
variable [bX]
def Sl.whole {α:Type} (s:Sl α):Option (Sl α):=match s with|.part _=>none|s=>some s
structure Gk (S:Sys) (c:cq) {α δ:Type} [bE δ] (fn:FuncId) (A:α->List V) (p:α->Option (Sl δ)):Prop where
 k:S.E.keep fn=true
 o:S.E.own fn=true
 h:∀z s,p z=some s->∃e m',c fn ((A z).map .v) []=some ([.own e],m')/\bk m' e=some (cT s)
 l:∀z,V.c7 8 (A z)=true
 sc:∀x:δ,(cells x).all V.scalar=true
theorem Gk.mk' {S:Sys} {T:rU} {α δ:Type} [bE δ] (rf:RF) {fn:FuncId} {A:α->List V} {p:α->Option (Sl δ)} (h:∀z,Le ((p z).bind λr=>some (cT r)) (ck S (eO S T) (Dq rf.rs) (.rc rf.body,[],start ((A z).map .v) [])))
 (B:T fn=some rf:=by kernel_rfl) (hk:S.E.keep fn=true:=by kernel_rfl) (D:S.E.own fn=true:=by kernel_rfl) (G:∀z,(A z).length<=rf.na:=by intro z;exact Nat.le_of_ble_eq_true (by kernel_rfl))
 (l:∀z,V.c7 8 (A z)=true:=by intro z;simp) (sc:∀x:δ,(cells x).all V.scalar=true:=by intro x;rfl):Gk S (eO S T) fn A p where
 k:=hk
 o:=D
 l:=l
 sc:=sc
 h z s q:=by
  have h1:=h z (cT s) (by rw[q];rfl)
  change l8 S (eO S T) (Dq rf.rs) rf.body [] (start ((A z).map .v) [])=some (cT s)at h1;obtain⟨o,st',d,g1,g2,g3,g4⟩:=Vk h1;refine⟨d,st'.m,?_,g4⟩;rw[yd B];unfold oR;rw[if_pos (by simpa using G z),g1]
  cases o with
  | exit id=>exact absurd rfl (g2 id)
  | norm=>simp only[g3,Option.map_some]
  | ret=>simp only[g3,Option.map_some]
section
variable {S:Sys} {c:cq} {β γ δ α:Type} [bE δ] {Q:Out×St->Option β} {e:γ->Option β} {cf:Cf}
theorem Dz (n u:Nat) {fn:FuncId} {A:α->List V} {p:α->Option (Sl δ)} (F:Gk S c fn A p) (z:α) {f:Sl δ->Option γ}
 (h:∀x,(p z).bind Sl.whole=some x->Le ((f x).bind e) (ck S c Q (nx S c n cf λq=>{ q.st with g:=bT q.st.g u (.own u),m:=bT q.st.m u (cT x) })))
 (J:(iD S c n cf).map (λq=>(q.d,q.k,(bZ S.N q.st.g q.az).bind oK,(!q.dr||q.now),q.st.new u))=some (some u,.c,some (fn,(A z).map .v),true,true):=by kernel_rfl):Le ((((p z).bind Sl.whole).bind f).bind e) (ck S c Q cf):=by
 obtain⟨q,H,hv⟩:=f_ J;simp only[ζc]at hv;obtain⟨I,L,O,T,G⟩:=hv;obtain⟨B,g1,g2⟩:=ζg.1 O;refine uO H ?_ h;rw[I,L];intro y C;obtain⟨U,D,C⟩:=ζg.1 C;cases C;obtain⟨s,W,w⟩:=ζg.1 D;obtain⟨Z,m',hc,X⟩:=F.h z s W;rw[E6 q.dr _ _ _ _ _ B fn ((A z).map .v) g1 g2];have t:iY S c (some u) q.dr (!q.dr||q.now) (ig q.st.m q.fr) fn ((A z).map .v) q.st=some (.own u,{ q.st with m:=bT q.st.m u (cT U) }):=by
  unfold iY;simp only[F.k,F.o,if_true,T,wD,F.l z,hc,dG,X,cT,G]
  cases s with
  | nil=>cases w;rfl
  | emp=>cases w;rfl
  | row l=>
   cases w;have:nS (rows l)=true:=by
    unfold nS;rw[List.all_eq_true];intro x Y;obtain⟨a,_,rfl⟩:=List.mem_map.1 Y;exact F.sc a
   simp only[Sl.k,Sl.l,dG,V.cS,this,Bool.and_self,G,if_true];rfl
  | part l=>cases w
 rw[t];rfl
end
end Go.VE
namespace Go.VE
variable [bX]
structure GD where
 m:Nat
 pre:List (Nat×List Gh)
 nd:List (Nat×List Gh×List Gh)
structure GI where
 m:Nat
 i:Nat
 j:Nat
def Ve {α:Type} (l:List (Nat×List α)) (i:Nat):List α:=match l with
 | []=>[]
 | (k,x)::r=>bif Nat.beq k i then x else Ve r i
def zm (l:List (Nat×List Gh×List Gh)) (i:Nat):List Gh×List Gh:=match l with
 | []=>([],[])
 | (k,x)::r=>bif Nat.beq k i then x else zm r i
def Kq (m:Nat):List Nat->List Nat
 | []=>[]
 | x::l=>bif Nat.beq (m % 2) 1 then x::Kq (m / 2) l else Kq (m / 2) l
def OH:List Arg->List Nat
 | []=>[]
 | .s n::r=>n::OH r
 | _::r=>OH r
def UJ (o:RO):List Nat:=(match o.dst with|some d=>[d]|none=>[])++(match o.gd with|some g=>[g.1]|none=>[])++OH o.az
def Vx (G:GD) (s:GI) (o:RO):RO:={ o with dead:=Kq (bif Nat.beq (s.m % 16) 15 then s.m / 16 % 65536 else s.m % 16) (UJ o),pre:=Ve G.pre s.i }
def GI.op (s:GI):GI:=⟨bif Nat.beq (s.m % 16) 15 then s.m / 1048576 else s.m / 16,s.i+1,s.j⟩
def zd (G:GD):List RO->GI->List RO×GI
 | [],s=>([],s)
 | o::r,s=>(Vx G s o::(zd G r s.op).1,(zd G r s.op).2)
def zh:List Gh->RC->RC
 | [],c=>c
 | g::l,c=>.gh g (zh l c)
def LP:List Gh->RC->RC
 | [],c=>c
 | g::l,c=>LP l (.hg c g)
def GI.nd (s:GI):GI:=⟨s.m,s.i,s.j+1⟩
def jo (G:GD):RC->GI->RC×GI
 | .seq a b,s=>(zh (zm G.nd s.j).1 (.seq (jo G a s.nd).1 (jo G b (jo G a s.nd).2).1),(jo G b (jo G a s.nd).2).2)
 | .cond x a b,s=>(zh (zm G.nd s.j).1 (.cond x (jo G a s.nd).1 (jo G b (jo G a s.nd).2).1),(jo G b (jo G a s.nd).2).2)
 | .block id a,s=>(zh (zm G.nd s.j).1 (.block id (jo G a s.nd).1),(jo G a s.nd).2)
 | .loop a,s=>(zh (zm G.nd s.j).1 (.loop (LP (zm G.nd s.j).2 (jo G a s.nd).1)),(jo G a s.nd).2)
 | .each g ps a b,s=>(zh (zm G.nd s.j).1 (.each g ps (jo G a s.nd).1 (LP (zm G.nd s.j).2 (jo G b (jo G a s.nd).2).1)),(jo G b (jo G a s.nd).2).2)
 | .ops l,s=>(zh (zm G.nd s.j).1 (.ops (zd G l s.nd).1),(zd G l s.nd).2)
 | .oO l,s=>(zh (zm G.nd s.j).1 (.oO (zd G l s.nd).1),(zd G l s.nd).2)
 | .gh g c,s=>(.gh g c,s)
 | .hg c g,s=>(.hg c g,s)
 | c,s=>(zh (zm G.nd s.j).1 c,s.nd)
theorem kL (c:RC):∀l,erase (zh l c)=erase c
 | []=>rfl
 | g::l=>by simp only[zh,erase,kL c l]
theorem zO:∀l (c:RC),erase (LP l c)=erase c
 | [],c=>rfl
 | g::l,c=>by simp only[LP,zO l,erase]
theorem yG (G:GD):∀(l:List RO) s,((zd G l s).1).map RO.strip=l.map RO.strip
 | [],s=>rfl
 | o::r,s=>by simp only[zd,List.map_cons,yG G r];rfl
theorem lp (G:GD):∀(c:RC) s,erase (jo G c s).1=erase c
 | .seq a b,s=>by simp only[jo,kL,erase,lp G a,lp G b]
 | .cond x a b,s=>by simp only[jo,kL,erase,lp G a,lp G b]
 | .block id a,s=>by simp only[jo,kL,erase,lp G a]
 | .loop a,s=>by simp only[jo,kL,erase,zO,lp G a]
 | .each g ps a b,s=>by simp only[jo,kL,erase,zO,lp G a,lp G b]
 | .ops l,s=>by simp only[jo,kL,erase,yG]
 | .oO l,s=>by simp only[jo,kL,erase,yG]
 | .gh g c,s=>rfl
 | .hg c g,s=>rfl
 | .skip,s=>by simp only[jo,kL]
 | .ret,s=>by simp only[jo,kL]
 | .exit _,s=>by simp only[jo,kL]
theorem HW {X:CX} {dr:Bool} {ops:List Oper} {i:Nat} {o:Oper} {r:RO} (h:mY X dr ops i o=some r):r.strip=r:=by
 obtain⟨_,_,_,_,_,_,rfl⟩:=CA h;rfl
theorem wX {X:CX} {dr:Bool} {ops:List Oper}:∀{l:List Oper} {i:Nat} {r:List RO},kS X dr ops i l=some r->r.map RO.strip=r
 | [],i,r,h=>by cases h;rfl
 | o::l,i,r,h=>by
  simp only[kS]at h;split at h
  .rename_i a b B D;cases h;simp only[List.map_cons,HW B,wX D]
  .cases h
theorem Hx {X:CX}:∀{c:Code} {ro:Bool} {r:RC},bQ X ro c=some r->erase r=r:=by
 intro c
 induction c with
 | region _ ops dr=>
  intro ro r h;simp only[bQ]at h;split at h
  .split at h
   .obtain⟨l,h1,rfl⟩:=ζf.1 h;simp only[erase,wX h1]
   .cases h
  .obtain⟨l,h1,rfl⟩:=ζf.1 h;simp only[erase,wX h1]
 | seq a b q t=>
  intro ro r h;simp only[bQ]at h;split at h
  .rename_i h1 u;cases h;simp only[erase,q h1,t u]
  .cases h
 | cond c a b q t=>
  intro ro r h;simp only[bQ]at h;split at h
  .rename_i h1 u;cases h;simp only[erase,q h1,t u]
  .cases h
 | block id a q=>
  intro ro r h;simp only[bQ]at h;obtain⟨l,h1,rfl⟩:=ζf.1 h;simp only[erase,q h1]
 | loop a q=>
  intro ro r h;simp only[bQ]at h;obtain⟨l,h1,rfl⟩:=ζf.1 h;simp only[erase,q h1]
 | rangeFunc g w a b q t=>
  intro ro r h;simp only[bQ]at h;split at h
  .cases h
  .split at h
   .rename_i h1 u;cases h;simp only[erase,q h1,t u]
   .cases h
 | _=>intro ro r h;first|cases h;rfl|(simp only[bQ]at h;cases h;rfl)|(simp only[bQ]at h;cases h)
def On (E:Env) (nm:FuncId->Option Nat) (G:FuncId->Option GD):rU:=λf=>
 (G f).bind λg=>(E.ft f).bind λq=>(bQ ⟨E,nm,q.ntmps⟩ false q.body).bind λc=>(q.results.mapM (AA E)).bind λrs=>some ⟨q.ntmps,rs,(jo g c ⟨g.m,0,0⟩).1⟩
theorem NM {E:Env} {nm:FuncId->Option Nat} {G:FuncId->Option GD} {f:FuncId} {rf:RF} (h:On E nm G f=some rf):∃fi,E.ft f=some fi/\xT E nm fi rf:=by
 unfold On at h;obtain⟨g,_,h⟩:=ζg.1 h;obtain⟨fi,h1,h⟩:=ζg.1 h;obtain⟨c,q,h⟩:=ζg.1 h;obtain⟨rs,t,h⟩:=ζg.1 h;cases h;exact⟨fi,h1,by rw[q,lp,Hx q],t,rfl⟩
theorem Ay:∀(g:FuncId) (s:Nat),some g=some s->(λn=>n) s=g:=λ_ _ h=>(Option.some.inj h).symm
def yN (o:Option RF):RF:=o.getD ⟨0,[],.skip⟩
def tb (T:rU) (f:FuncId):RC:=(yN (T f)).body
def tr (T:rU) (f:FuncId):List RV:=(yN (T f)).rs
theorem LF {o:Option RF} (h:o.isSome=true):o=some (yN o):=by cases o with
 | none=>cases h
 | some r=>rfl
class kr (δ:Type) where
 e:δ->List V
instance Wj {α:Type} [bE α]:kr α:=⟨λx=>[enc x]⟩
instance Wl:kr Unit:=⟨λ_=>[]⟩
instance Wn {α β:Type} [bE α] [kr β]:kr (α×β):=⟨λx=>enc x.1::kr.e x.2⟩
@[simp] theorem V3 {α:Type} [bE α] (x:α):kr.e x=[enc x]:=rfl
@[simp] theorem V4 (x:Unit):kr.e x=[]:=rfl
@[simp] theorem V0 {α β:Type} [bE α] [kr β] (x:α×β):kr.e x=enc x.1::kr.e x.2:=rfl
class Fc (S:Sys) (c:cq) {δ:Type} (m:Option δ) where
 n:FuncId
 az:List V
 E:δ->List V
 sc:Bool
 F:nE S c n (λ_:Unit=>az) E (λ_=>m) sc
section
variable {S:Sys} {T:rU} {δ:Type} {m:Option δ}
theorem nE.M5 {E:δ->List V} (fn:FuncId) (az:List V) (h:Le (m.bind λr=>some (E r)) (ck S (eO S T) (qS (tr T fn)) (.rc (tb T fn),[],start (az.map .v) [])))
 (B:(T fn).isSome=true) (hk:S.E.keep fn=false) (D:Nat.ble az.length (yN (T fn)).na=true)
 (l:V.c7 8 az=true) (r:∀r,V.lvl 8 (result (E r))=true) {sc:Bool} (s:sc=true->∀r,(result (E r)).scalar=true):nE S (eO S T) fn (λ_:Unit=>az) E (λ_=>m) sc where
 k:=hk
 h z:=VD (LF B) (Nat.le_of_ble_eq_true D) h
 l _:=l
 r:=r
 s:=s
abbrev Fc.NE (E:δ->List V) (fn:FuncId) (az:List V) (h:Le (m.bind λr=>some (E r)) (ck S (eO S T) (qS (tr T fn)) (.rc (tb T fn),[],start (az.map .v) [])))
 (B:(T fn).isSome=true:=by kernel_rfl) (hk:S.E.keep fn=false:=by kernel_rfl) (D:Nat.ble az.length (yN (T fn)).na=true:=by kernel_rfl)
 (l:V.c7 8 az=true:=by simp) (r:∀r,V.lvl 8 (result (E r))=true:=by intro r;simp):Fc S (eO S T) m:=
 ⟨fn,az,E,false,nE.M5 fn az h B hk D l r λh=>nomatch h⟩
abbrev Fc.M [kr δ] (fn:FuncId) (az:List V) (h:Le (m.bind λr=>some (kr.e r)) (ck S (eO S T) (qS (tr T fn)) (.rc (tb T fn),[],start (az.map .v) [])))
 (B:(T fn).isSome=true:=by kernel_rfl) (hk:S.E.keep fn=false:=by kernel_rfl) (D:Nat.ble az.length (yN (T fn)).na=true:=by kernel_rfl)
 (l:V.c7 8 az=true:=by simp) (r:∀r:δ,V.lvl 8 (result (kr.e r))=true:=by intro r;simp) (s:∀r:δ,(result (kr.e r)).scalar=true:=by intro r;kernel_rfl):Fc S (eO S T) m:=
 ⟨fn,az,kr.e,true,nE.M5 fn az h B hk D l r λ_=>s⟩
abbrev Fc.N [kr δ] (fn:FuncId) (az:List V) (h:Le (m.bind λr=>some (kr.e r)) (ck S (eO S T) (qS (tr T fn)) (.rc (tb T fn),[],start (az.map .v) [])))
 (B:(T fn).isSome=true:=by kernel_rfl) (hk:S.E.keep fn=false:=by kernel_rfl) (D:Nat.ble az.length (yN (T fn)).na=true:=by kernel_rfl)
 (l:V.c7 8 az=true:=by simp) (r:∀r:δ,V.lvl 8 (result (kr.e r))=true:=by intro r;simp):Fc S (eO S T) m:=
 ⟨fn,az,kr.e,false,nE.M5 fn az h B hk D l r λh=>nomatch h⟩
end
abbrev Fc.of {S:Sys} {c:cq} {α δ:Type} {p:α->Option δ} {n:FuncId} {A:α->List V} {E:δ->List V} {b:Bool} (z:α) (F:nE S c n A E p b):Fc S c (p z):=⟨n,A z,E,b,⟨F.k,λ_=>F.h z,λ_=>F.l z,F.r,F.s⟩⟩
theorem nE.uc {S:Sys} {c:cq} {α δ:Type} {p:α->Option δ} {n:FuncId} {A:α->List V} {E:δ->List V} {b:Bool} (F:∀z,Fc S c (p z)) (i:α) (D:∀z,(F z).n=n) (G:∀z,(F z).az=A z) (B:∀z,(F z).E=E) (J:∀z,(F z).sc=b):nE S c n A E p b where
 k:=by rw[<-D i];exact(F i).F.k
 h z:=by rw[<-D z,<-G z,<-B z];exact(F z).F.h ()
 l z:=by rw[<-G z];exact(F z).F.l ()
 r:=by rw[<-B i];exact(F i).F.r
 s:=by rw[<-J i,<-B i];exact(F i).F.s
theorem lg.uc {S:Sys} {c:cq} {α δ:Type} {p:α->Option δ} {g:FuncId} {w e:List V} {A:α->List V} {R:δ->List V} {b:Bool} [i:Inhabited α] [F:∀z,Fc S c (p z)] (B:∀z,(F z).n=g:=by intro _;kernel_rfl) (D:∀z,(F z).az=w++A z++e:=by intro _;kernel_rfl)
 (G:∀z,(F z).E=R:=by intro _;kernel_rfl) (J:∀z,(F z).sc=b:=by intro _;kernel_rfl) (O:V.c7 7 e=true:=by simp) (U:V.c7 7 w=true:=by simp):lg S c g w e A R p b:=
 ⟨nE.uc F default B D G J,O,U⟩
section
variable {S:Sys} {c:cq} {β γ δ α:Type} {Q:Out×St->Option β} {e:γ->Option β} {cf:Cf}
theorem yY (n:Nat) {m:Option β} (h:Le m (ck S c Q (ja S c n cf))) (B:h_ S c n cf.1 cf.2.1 cf.2.2=some (ja S c n cf):=by kernel_rfl):Le m (ck S c Q cf):=Ds B h
theorem bz (n:Nat) {m:Option δ} [F:Fc S c m] {f:δ->Option γ} (h:∀x,m=some x->Le ((f x).bind e) (ck S c Q (nx S c n cf λp=>cZ p.st p.d (.v (result (F.E x))))))
 (B:(iD S c n cf).map (λp=>(p.k,(bZ S.N p.st.g p.az).bind oK,(!p.dr||p.now||ig p.st.m p.fr [])))=some (.c,some (F.n,F.az.map .v),true):=by kernel_rfl):Le ((m.bind f).bind e) (ck S c Q cf):=sM n F.F () h B
theorem fc (n:Nat) {m:Option δ} [F:Fc S c m] {f:δ->Option γ} (h:∀x,m=some x->Le ((f x).bind e) (ck S c Q (nx S c n cf λp=>cZ p.st p.d (.v (result (F.E x))))))
 (B:(iD S c n cf).map (λp=>(p.k,((bZ S.N p.st.g p.az).bind oK).bind λq=>(nD (iX p.st.m 8) q.2).map λvs=>(q.1,vs,((!p.dr||p.now)||ig p.st.m p.fr q.2))))=some (.c,some (F.n,F.az,true)):=by kernel_rfl) (D:F.sc=true:=by kernel_rfl):Le ((m.bind f).bind e) (ck S c Q cf):=
 Tz n (t D F.F) () h B
where
 t {b:Bool} {fn:FuncId} {az:List V} {E:δ->List V} {m:Option δ} (h:b=true) (F:nE S c fn (λ_:Unit=>az) E (λ_=>m) b):nE S c fn (λ_:Unit=>az) E (λ_=>m) true:=h▸F
def IW (cf:Cf):RC:=match cf.1 with|.rc (.loop c)=>c|_=>.skip
def CP (cf:Cf):Arg×List Nat×RC×RC:=match cf.1 with|.rc (.each g q a b)=>(g,q,a,b)|_=>(.s 0,[],.skip,.skip)
theorem cK {σ ε ρ:Type} {step:σ->Option (Fw σ ε ρ)} (n:Nat) (B:σ->St) (D:ε->Nat×St) (G:ρ->St) {s:σ} {J:ε->Option γ} {fr:ρ->Option γ}
 (h:∀s,Le ((step s).bind λw=>some (Fw.out B D G w)) (ck S c some (.rc (IW (ja S c n cf)),[],B s)))
 (O:∀x,Le ((J x).bind e) (ck S c Q (.ex (D x).1,(ja S c n cf).2.1,(D x).2))) (hr:∀b,Le ((fr b).bind e) (Q (.ret,G b)))
 (U:h_ S c n cf.1 cf.2.1 cf.2.2=some (.rc (.loop (IW (ja S c n cf))),(ja S c n cf).2.1,B s):=by kernel_rfl):Le (((bG step s).bind (Fw.elim J fr)).bind e) (ck S c Q cf):=
 G0 U h O hr
theorem eF {σ ε:Type} {step:σ->Option (Fw σ ε Empty)} (n:Nat) (B:σ->St) (D:ε->Nat×St) {s:σ} {G:ε->Option γ} {fr:Empty->Option γ}
 (h:∀s,Le ((step s).bind λw=>some (Fw.out B D (λe=>Empty.elim e) w)) (ck S c some (.rc (IW (ja S c n cf)),[],B s)))
 (J:∀x,Le ((G x).bind e) (ck S c Q (.ex (D x).1,(ja S c n cf).2.1,(D x).2)))
 (O:h_ S c n cf.1 cf.2.1 cf.2.2=some (.rc (.loop (IW (ja S c n cf))),(ja S c n cf).2.1,B s):=by kernel_rfl):Le (((bG step s).bind (Fw.elim G fr)).bind e) (ck S c Q cf):=
 G0 O h J λb=>Empty.elim b
theorem TM {σ ρ:Type} {step:σ->Option (Fw σ Empty ρ)} (n:Nat) (B:σ->St) (D:ρ->St) {s:σ} {G:Empty->Option γ} {fr:ρ->Option γ}
 (h:∀s,Le ((step s).bind λw=>some (Fw.out B (λe=>Empty.elim e) D w)) (ck S c some (.rc (IW (ja S c n cf)),[],B s)))
 (hr:∀b,Le ((fr b).bind e) (Q (.ret,D b)))
 (J:h_ S c n cf.1 cf.2.1 cf.2.2=some (.rc (.loop (IW (ja S c n cf))),(ja S c n cf).2.1,B s):=by kernel_rfl):Le (((bG step s).bind (Fw.elim G fr)).bind e) (ck S c Q cf):=
 G0 J h (λx=>Empty.elim x) hr
theorem EU {σ ε ρ:Type} {f:FuncId} {x y:List V} {items:List α} {eI:α->List V} {step:α->σ->Option (Fw σ ε ρ)} (n:Nat) (gt:Tb SV) (B:σ->Tb bP) (D:ε->Nat×Tb bP) (G:ρ->Tb bP) {s:σ} {fn:σ->Option γ} {J:ε->Option γ} {fr:ρ->Option γ}
 (O:S.items f x y=some (items.map eI))
 (h:∀x s,Le ((step x s).bind λw=>some (Fw.vS B D G w)) (ck S c (xQ S c (CP (ja S c n cf)).2.2.2) (.rc (CP (ja S c n cf)).2.2.1,[],⟨v8 gt (CP (ja S c n cf)).2.1 ((eI x).map .v),B s,oZ gt,[],true,0⟩)))
 (U:∀s,Le ((fn s).bind e) (ck S c Q (.nx,(ja S c n cf).2.1,bC gt (B s)))) (W:∀x,Le ((J x).bind e) (ck S c Q (.ex (D x).1,(ja S c n cf).2.1,bC gt (D x).2))) (hr:∀b,Le ((fr b).bind e) (Q (.ret,bC gt (G b))))
 (Y:∀x,(eI x).length=(CP (ja S c n cf)).2.1.length:=by intro _;kernel_rfl) (hg:ql S.N gt (CP (ja S c n cf)).1=some (.v (.clo f x y)):=by kernel_rfl)
 (hL:h_ S c n cf.1 cf.2.1 cf.2.2=some (.rc (.each (CP (ja S c n cf)).1 (CP (ja S c n cf)).2.1 (CP (ja S c n cf)).2.2.1 (CP (ja S c n cf)).2.2.2),(ja S c n cf).2.1,bC gt (B s)):=by kernel_rfl):Le (((nY step items s).bind (Fw.vZ fn J fr)).bind e) (ck S c Q cf):=
 Ty hL hg O Y h U W hr
noncomputable def SN (n k:Nat) (B:List Nat) (d:Nat) (S:Sys) (c:cq) (cf:Cf) (v:SV):Cf:=jmp k [] (ja S c n cf) { (ja S c n cf).2.2 with g:=bT (nO B (ja S c n cf).2.2.g) d v }
theorem bW [bE δ] (n k:Nat) (B:List Nat) (d:Nat) {m:Option δ} {f:δ->Option γ} (D:Le (m.bind λr=>ck S c Q (SN n k B d S c cf (cv r))) (ck S c Q cf))
 (h1:∀r,Le ((f r).bind e) (ck S c Q (SN n k B d S c cf (cv r)))):Le ((m.bind f).bind e) (ck S c Q cf):=O1 _ D h1
end
end Go.VE
namespace Go.VE
variable [bX]
instance {n:Nat}:DecidableEq (b7 n Int):=λa b=>if h:a.l=b.l then .isTrue (by cases a;cases b;cases h;rfl)else .isFalse λe=>h (by rw[e])
theorem uZ:∀l:List Int,iC ((l.map (cells (α:=Int))).flatten)=some l
 | []=>rfl
 | a::l=>by
  show iC (.int .i64 a::(l.map (cells (α:=Int))).flatten)=_;simp only[iC,uZ l,Option.map_some]
theorem LN (l:List Int):(l.map (cells (α:=Int))).flatten=l.map (V.int .i64):=by
 induction l with
 | nil=>rfl
 | cons a l q=>simp only[List.map_cons,List.flatten_cons,q];rfl
instance {n:Nat}:Key (b7 n Int) where
 kk:=.ints n
 ok a:=by
  show ((a.l.map (cells (α:=Int))).flatten.length==n&&(iC (a.l.map (cells (α:=Int))).flatten).isSome)=true;rw[uZ,LN,List.length_map,a.len];simp
 eq a b:=by
  show kD (a.l.map (cells (α:=Int))).flatten (b.l.map (cells (α:=Int))).flatten=_;unfold kD;rw[uZ,uZ];simp only[a.len,b.len,if_true]
  congr 1
  rw[Bool.eq_iff_iff,beq_iff_eq,decide_eq_true_iff];exact⟨λh=>by cases a;cases b;cases h;rfl,λh=>by rw[h]⟩
end Go.VE
namespace Go.VE
variable [bX]
def Ar (m:Tb bP):SV->Bool
 | .v _|.agg _=>true
 | x=>kY m x
def ny:SV->List SV
 | .v x=>x.cells.map .v
 | .agg l=>l
 | x=>[x]
def Ag (cells:List SV):List (Nat×Nat)->List SV->Option (List SV)
 | [],[]=>some cells
 | (off,size)::pl,v::vs=>if(ny v).length=size/\off+(ny v).length<=cells.length then Ag (cells.take off++ny v++cells.drop (off+(ny v).length)) pl vs else none
 | _,_=>none
theorem Md (cells:List SV):Ag cells [] []=some cells:=rfl
theorem BV (cells:List SV) (off size:Nat) (pl:List (Nat×Nat)) (v:SV) (vs:List SV):Ag cells ((off,size)::pl) (v::vs) =
 if(ny v).length=size/\off+(ny v).length<=cells.length then Ag (cells.take off++ny v++cells.drop (off+(ny v).length)) pl vs else none:=rfl
theorem OC (x:V):ny (.v x)=x.cells.map .v:=rfl
theorem KH (d:Nat):ny (.own d)=[.own d]:=rfl
theorem Ml (d:Nat):ny (.mp d)=[.mp d]:=rfl
theorem JM (d o:Nat):ny (.ptr d o)=[.ptr d o]:=rfl
theorem NC {m:Tb bP} {v:SV} (h:Ar m v=true):xF m v=some (ny v):=by
 cases v <;> first|rfl|(unfold xF;exact if_pos h)|(simp[Ar,kY]at h)
theorem IV {m:Tb bP}:∀{pl:List (Nat×Nat)} {vs cells l:List SV},vs.all (Ar m)=true->Ag cells pl vs=some l->sq m cells pl vs=some l
 | [],[],_,_,_,h=>h
 | [],_::_,_,_,_,h=>by cases h
 | _::_,[],_,_,_,h=>by cases h
 | (off,size)::pl,v::vs,cells,l,B,h=>by
  rw[List.all_cons,ζh]at B;rw[BV]at h;show (match xF m v with|some c=>if c.length=size/\off+c.length<=cells.length then sq m (cells.take off++c++cells.drop (off+c.length)) pl vs else none|none=>none)=some l
  rw[NC B.1];simp only;split at h
  .rename_i hc;rw[if_pos hc];exact IV B.2 h
  .cases h
def CZ:SV->Bool
 | .v x=>x.one
 | .agg _=>false
 | _=>true
theorem SG (x:V):CZ (.v x)=x.one:=rfl
theorem MZ (d:Nat):CZ (.own d)=true:=rfl
theorem Rq (d:Nat):CZ (.mp d)=true:=rfl
theorem NO (d o:Nat):CZ (.ptr d o)=true:=rfl
theorem HZ {m:Tb bP}:∀{l:List SV},l.all CZ=true->l.all (Ar m)=true->l.all (wk m)=true
 | [],_,_=>rfl
 | x::l,h,k=>by
  rw[List.all_cons,ζh]at h k ⊢;refine⟨?_,HZ h.2 k.2⟩;cases x <;> first|exact h.1|exact k.1|(have:=h.1;cases this)
section
variable {S:Sys} {c:cq} {β γ δ α:Type} {Q:Out×St->Option β} {e:γ->Option β} {cf:Cf}
theorem MH {N:Nat->FuncId} {m:Tb bP} {z:List V} {pl:List (Nat×Nat)} {svs l:List SV} (B:(dG svs).isNone=true) (h:sq m (z.map .v) pl svs=some l):jl N m (.build z pl) svs=some (.agg l):=by
 unfold jl
 cases hv:dG svs with
 | some x=>rw[hv]at B;cases B
 | none=>
  have:wH N m (.build z pl) svs=(sq m (z.map .v) pl svs).map .agg:=by
   unfold wH;split <;> first|contradiction|(rename_i e _;cases e;rfl)|simp_all
  simp only[this,h,Option.map_some]
theorem US (n:Nat) (svs l:List SV) (z:List V) (pl:List (Nat×Nat)) {m:Option β} (B:Ag (z.map .v) pl svs=some l) (h:Le m (ck S c Q (nx S c n cf λp=>cZ p.st p.d (.agg l))))
 (D:(iD S c n cf).map (λp=>(p.k,bZ S.N p.st.g p.az,(dG svs).isNone,svs.all (Ar p.st.m)))=some (.p (.build z pl),some svs,true,true):=by kernel_rfl):Le m (ck S c Q cf):=by
 obtain⟨p,q,hv⟩:=f_ D;simp only[ζc]at hv;refine yu q ?_ h;rw[hv.1];exact za hv.2.1 rfl (MH hv.2.2.1 (IV hv.2.2.2 B))
theorem VS (n u o:Nat) (l:List SV) {m:Option β} (B:l.all CZ=true) (h:Le m (ck S c Q (nx S c n cf (O2 u o l.length l))))
 (D:(iD S c n cf).map (λp=>(p.k,bZ S.N p.st.g p.az,(!p.dr||p.now),l.all (Ar p.st.m),match bk p.st.m u with|some (.box cs)=>Nat.ble (o+l.length) cs.length|_=>false))=some (.l (.store l.length),some [.ptr u o,.agg l],true,true,true):=by kernel_rfl):Le m (ck S c Q cf):=by
 obtain⟨p,z,hv⟩:=f_ D;simp only[ζc]at hv;refine yu z ?_ h;obtain⟨h1,A,C,G,q⟩:=hv;have t:=HZ B G;split at q
 .rename_i cs w;have H:=Nat.le_of_ble_eq_true q;rw[h1,sy,A];simp only[ζb,C,if_true,jN,w,putCells,t,H,and_self,Option.map_some,O2]
 .cases q
end
section
variable {S:Sys} {c:cq} {β γ δ:Type} {Q:Out×St->Option β} {e:γ->Option β} {cf:Cf} {κ ν:Type} [bE κ] [DecidableEq κ] [Key κ] [bE ν]
structure Pt (κ ν:Type) where
 o:Option (Mo κ ν)
 deriving Inhabited
def L5 (m:Pt κ ν):V:=match m.o with|none=>.gw|some l=>.fmap (mo l)
theorem Lm (m:Mo κ ν):V.sB (mo m)=true:=by
 induction m with
 | nil=>rfl
 | cons x r q=>show V.sB ((enc x.1,enc x.2)::mo r)=true;simp only[V.sB,mV,q,Bool.and_self]
instance:bE (Pt κ ν) where
 cells m:=[L5 m]
 agg:=false
 size:=1
 len _:=rfl
 good m:=by
  unfold L5;split
  .rfl
  .simp only[V.cE,V.good,Lm,Bool.and_self]
 one m:=by unfold L5;split <;> rfl
 plain _:=rfl
theorem NK {n:Nat} [Lv n κ] [Lv n ν] (m:Mo κ ν):V.oN (n+1) (mo m)=true:=by
 induction m with
 | nil=>simp[mo,V.oN]
 | cons x r q=>show V.oN (n+1) ((enc x.1,enc x.2)::mo r)=true;simp only[V.oN,IX,q,Bool.and_self]
instance {n:Nat} [Lv n κ] [Lv n ν]:Lv (n+2) (Pt κ ν):=⟨λm=>by
 show V.c7 (n+2) [L5 m]=true;rw[jv,k9,Bool.and_true];unfold L5;split
 .rfl
 .simp only[V.lvl,NK]⟩
theorem Rw (m:Pt κ ν):V.one (enc m)=true:=by obtain⟨o⟩:=m;cases o <;> rfl
end
end Go.VE
namespace Go.VE
variable [bX]
theorem nE.scalar {S:Sys} {c:cq} {α δ:Type} {fn:FuncId} {A:α->List V} {E:δ->List V} {p:α->Option δ} {b:Bool} (F:nE S c fn A E p b) (h:∀r,(result (E r)).scalar=true):nE S c fn A E p true:=⟨F.k,F.h,F.l,F.r,λ_=>h⟩
end Go.VE
namespace Go.VE
variable [bX]
section
variable {S:Sys} {c:cq} {β γ δ α:Type} [bE α] {Q:Out×St->Option β} {e:γ->Option β} {cf:Cf}
theorem OU {ω:Type} [bE ω] (n u:Nat) {N:Nat} (a:b7 N α) (i:Int) (o:Nat) (x:α) (B:a.at i=some x) (y:α) (w:ω) (D:cells y=(cells x).take o++cells w++(cells x).drop (o+bE.size ω)) {m:Option β} (h:Le m (ck S c Q (nx S c n cf λp=>cZ { p.st with m:=bT p.st.m u (bx (a.set i y)) } p.d (.v .undef))))
 (G:(iD S c n cf).map (λp=>(p.k,bZ S.N p.st.g p.az,bk p.st.m u,(!p.dr||p.now),Nat.ble (o+bE.size ω) (bE.size α)))=some (.l (.store (bE.size ω)),some [.ptr u (i.toNat*bE.size α+o),cv w],some (bx a),true,true):=by kernel_rfl):Le m (ck S c Q cf):=by
 obtain⟨p,t,q⟩:=f_ G;simp only[ζc]at q;obtain⟨h1,z⟩:=jR t;obtain⟨dr,fr,d,gd,now,J,az,dd,l,fs,st⟩:=p;obtain⟨rfl,A,C,H,I⟩:=q;exact Us n dr fr (⟨d,gd,now,.l (.store (bE.size ω)),az,dd,[]⟩::l) fs st u a i o x B y (enc w) (by rw[fT];exact D) rfl (by(try dsimp only at *);simp only[h1,z,A,C,H,I,fT,gx,p_]) (by
  simp only[nx,t]at h;exact h)
end
end Go.VE
namespace Go.VE
variable [bX]
noncomputable def EW (rs:List RV):Out×St->Option (bP×List V)
 | (.exit _,_)=>none
 | (_,st)=>(nW st rs).bind λl=>match l with
  | .own d::r=>(bk st.m d).bind λob=>(dG r).map λys=>(ob,ys)
  | _=>none
theorem H9:∀{l:List SV} {ys:List V},dG l=some ys->l=ys.map .v
 | [],ys,h=>by cases h;rfl
 | .v x::r,ys,h=>by
  simp only[dG]at h;obtain⟨B,h1,rfl⟩:=ζf.1 h;rw[H9 h1];rfl
 | .own _::_,_,h|.ptr ..::_,_,h|.el ..::_,_,h|.mp _::_,_,h|.clo ..::_,_,h|.tup _::_,_,h|.agg _::_,_,h|.yl _::_,_,h=>by cases h
theorem VO {S:Sys} {c:cq} {rs:List RV} {rc:RC} {st:St} {ob:bP} {ys:List V} (h:l8 S c (EW rs) rc [] st=some (ob,ys)):∃o st' d,cA S c rc st=some (o,st')/\(∀id,o≠.exit id)/\nW st' rs=some (.own d::ys.map .v)/\bk st'.m d=some ob:=by
 rw[tE]at h;obtain⟨⟨o,st'⟩,h1,q⟩:=ζg.1 h;have u:∀id,o≠.exit id:=by rintro id rfl;simp[EW]at q
 have w:(nW st' rs).bind (λl=>match l with|.own d::r=>(bk st'.m d).bind λob=>(dG r).map λys=>(ob,ys)|_=>none)=some (ob,ys):=by
  cases o with
  | exit id=>exact absurd rfl (u id)
  | norm=>exact q
  | ret=>exact q
 obtain⟨l,z,t⟩:=ζg.1 w;split at t
 .obtain⟨A,B,C⟩:=ζg.1 t;obtain⟨H,D,G⟩:=ζf.1 C;cases G;exact⟨o,st',_,h1,u,by rw[z,H9 D],B⟩
 .cases t
structure Vb (S:Sys) (c:cq) {δ ε:Type} [bE δ] [kr ε] (m:Option (Sl δ×ε)) where
 n:FuncId
 az:List V
 k:S.E.keep n=true
 o:S.E.own n=true
 h:∀s r,m=some (s,r)->∃e m',c n (az.map .v) []=some (.own e::(kr.e r).map .v,m')/\bk m' e=some (cT s)
 l:V.c7 8 az=true
 sc:∀x:δ,(cells x).all V.scalar=true
 sr:∀r:ε,V.cS (kr.e r)=true
abbrev Vb.mk' {S:Sys} {T:rU} {δ ε:Type} [bE δ] [kr ε] {m:Option (Sl δ×ε)} (fn:FuncId) (az:List V) (h:Le (m.bind λr=>some (cT r.1,kr.e r.2)) (ck S (eO S T) (EW (tr T fn)) (.rc (tb T fn),[],start (az.map .v) [])))
 (B:(T fn).isSome=true:=by kernel_rfl) (hk:S.E.keep fn=true:=by kernel_rfl) (D:S.E.own fn=true:=by kernel_rfl) (G:Nat.ble az.length (yN (T fn)).na=true:=by kernel_rfl)
 (l:V.c7 8 az=true:=by simp) (sc:∀x:δ,(cells x).all V.scalar=true:=by intro x;rfl) (sr:∀r:ε,V.cS (kr.e r)=true:=by intro r;rfl):Vb S (eO S T) m where
 n:=fn
 az:=az
 k:=hk
 o:=D
 l:=l
 sc:=sc
 sr:=sr
 h s r t:=by
  have q:=LF B;have h1:=h (cT s,kr.e r) (by rw[t];rfl)
  change l8 S (eO S T) (EW (yN (T fn)).rs) (yN (T fn)).body [] (start (az.map .v) [])=some (cT s,kr.e r)at h1;obtain⟨o,st',d,g1,g2,g3,g4⟩:=VO h1;refine⟨d,st'.m,?_,g4⟩;rw[yd q];unfold oR;rw[if_pos (by simpa using Nat.le_of_ble_eq_true G),g1]
  cases o with
  | exit id=>exact absurd rfl (g2 id)
  | norm=>simp only[g3,Option.map_some]
  | ret=>simp only[g3,Option.map_some]
section
variable {S:Sys} {c:cq} {β γ δ α:Type} {Q:Out×St->Option β} {e:γ->Option β} {cf:Cf}
theorem SP [bE α] {N:Nat->FuncId} {m:Tb bP} {i:Int} {z:α} (B:(cells z).all V.scalar=true):jl N m (.makeC (bE.size α) (cells z)) [.v (.int .i64 i),.v (.int .i64 i)]=(kf i z).bind λs=>some (cv s):=by
 show (if IntKind.i64=.i64/\IntKind.i64=.i64/\0<=i/\i=i/\i<=2147483648/\(cells z).all V.scalar=true then some (V.fsl (bE.size α) (List.replicate i.toNat (cells z)))else none).map SV.v=_;unfold kf
 by_cases h:0<=i/\i<=2147483648
 .rw[if_pos h,if_pos ⟨rfl,rfl,h.1,rfl,h.2,B⟩];show some (SV.v (.fsl _ (List.replicate _ (cells z))))=some (SV.v (.fsl _ (rows (List.replicate i.toNat z))));simp[rows]
 .rw[if_neg h,if_neg λk=>h ⟨k.2.2.1,k.2.2.2.2.1⟩];rfl
theorem VV [bE α] (n:Nat) {i:Int} {z:α} {f:Sl α->Option γ} (h:∀B,kf i z=some B->Le ((f B).bind e) (ck S c Q (nx S c n cf λp=>cZ p.st p.d (cv B))))
 (D:(iD S c n cf).map (λp=>(p.k,bZ S.N p.st.g p.az))=some (.p (.makeC (bE.size α) (cells z)),some [.v (.int .i64 i),.v (.int .i64 i)]):=by kernel_rfl) (G:(cells z).all V.scalar=true:=by rfl):Le (((kf i z).bind f).bind e) (ck S c Q cf):=by
 obtain⟨p,q,hv⟩:=f_ D;simp only[ζc]at hv;refine uO q ?_ h;rw[hv.1];exact Le.of_eq (Lj hv.2 rfl (SP G))
theorem Tt (n:Nat) (ds:List Nat) {m:Option δ} [F:Fc S c m] {f:δ->Option γ} (h:∀x,m=some x->Le ((f x).bind e) (ck S c Q (nx S c n cf λp=>cZ { p.st with m:=if(result (F.E x)).scalar then p.st.m else nO ds p.st.m } p.d (.v (result (F.E x))))))
 (B:(iD S c n cf).map (λp=>(p.k,((bZ S.N p.st.g p.az).bind oK).bind λq=>(nD (iX p.st.m 8) q.2).map λvs=>(q.1,vs,!p.dr||p.now,(dG q.2).isSome,rowsOf q.2)))=some (.c,some (F.n,F.az,true,false,some ds)):=by kernel_rfl):Le ((m.bind f).bind e) (ck S c Q cf):=by
 obtain⟨p,w,hv⟩:=f_ B;simp only[ζc]at hv;obtain⟨z,A⟩:=hv;obtain⟨q,g1,g2⟩:=ζg.1 A;obtain⟨t,g3,g4⟩:=ζg.1 g1;obtain⟨vs,g5,g6⟩:=ζf.1 g2;simp only[ζc]at g6;obtain⟨e1,rfl,e3,e4,e5⟩:=g6;refine uO w ?_ h;rw[z,E6 _ _ _ _ _ _ t q.1 q.2 g3 g4,Ia _ _ _ _ _ _ _ (by rw[e1];exact F.F.k),(xD p.st.m 8).2,g5]
 simp only[ζb,F.F.l (),e3,Bool.true_or,Bool.and_self,if_true];intro y u;obtain⟨r,hr,u⟩:=ζg.1 u;cases u;have:=F.F.h () (F.E r) (ζg.2 ⟨r,hr,rfl⟩);rw[e1,this];simp only[ζb,FX,F.F.r,Bool.true_and,e4,Bool.or_false]
 cases (result (F.E r)).scalar with
 | true=>rfl
 | false=>simp only[Bool.false_eq_true,if_false,if_true,e5,Option.map_some,ζb]
theorem VI [bE α] (n:Nat) {m:Option β} (h:Le m (ck S c Q (nx S c n cf λp=>cZ p.st p.d (cv (Sl.emp:Sl α)))))
 (B:(iD S c n cf).map (λp=>(p.k,bZ S.N p.st.g p.az))=some (.p .emptyC,some []):=by kernel_rfl):Le m (ck S c Q cf):=by
 obtain⟨p,q,hv⟩:=f_ B;simp only[ζc]at hv;refine yu q ?_ h;rw[hv.1];exact za hv.2 rfl rfl
theorem Uz [bE α] (n u:Nat) {s x:Sl α} (hk:s=.nil\/s=.emp) {f:Sl α->Option γ}
 (h:∀B,kI s x=some B->Le ((f B).bind e) (ck S c Q (nx S c n cf λp=>{ p.st with g:=bT p.st.g u (.own u),m:=bT p.st.m u (cT B) })))
 (D:(iD S c n cf).map (λp=>(p.d,p.k,bZ S.N p.st.g p.az,p.st.new u))=some (some u,.e (bE.size α),some [.v (bV s),.v (bV x)],true):=by kernel_rfl):Le (((kI s x).bind f).bind e) (ck S c Q cf):=by
 obtain⟨p,t,hv⟩:=f_ D;simp only[ζc]at hv;refine uO t ?_ h;rw[hv.1,hv.2.1];have q:bV s=.bH\/bV s=.c9:=by rcases hk with rfl|rfl <;> first|exact .inl rfl|exact .inr rfl
 refine Le.of_eq ?_;rw[UG _ _ _ _ _ _ _ _ q _ hv.2.2.1];have h1:=Tv (S:=S) (c:=c) (dr:=false) (now:=true) (fr:=[]) (az:=p.az) (d:=u) (x:=x) (sx:=.v (bV x)) (st:=p.st) hk hv.2.2.1 rfl (yb _ x) hv.2.2.2;rw[sy,hv.2.2.1]at h1;simpa using h1
end
end Go.VE
namespace Go.VE
variable [bX]
theorem OX {n:Int} (h0:0<=n) (h:n<=4611686018427387904):IntKind.wrap .i64 n=n:=by
 simp[IntKind.wrap,IntKind.bits,IntKind.signed];omega
namespace catX
instance {n:Nat}:OfNat Arg n:=⟨.s n⟩
def ln:K:=.p .lenSl
def ix:K:=.p (.idxS 1)
def bI (o:BinOp):K:=.p (.bin (some .int) none o)
def ld:K:=.r (.load 1 false)
def g1:List RO:=[o1 4 (.k (.bH)) []]
def g2:List RO:=[o1 5 1 [],o2 6 (bI .lss) [5,.k (.int .i64 0)] []]
def g3:List RO:=[o2 7 (.p (.bad)) [] [],⟨none,none,false,.p .bad,[],[],[]⟩]
def g4:List RO:=[o1 8 1 [],o1 9 0 [],o2 10 (.p (.capSl)) [9] [],o1 11 0 [],o2 12 ln [11] [],o2 13 (bI .sub) [10,12] [],o2 14 (bI .sub) [8,13] [],o1 1 14 []]
def g5:List RO:=[o1 15 1 [],o2 16 (bI .gtr) [15,.k (.int .i64 0)] []]
def g6:List RO:=[o1 17 0 [],o1 18 0 [],o2 19 (.p (.capSl)) [18] [],o2 20 (.p (.slice 1 false true)) [17,19] [],o1 21 1 [],o2 22 (.l (.appMk 1 24 [.bH])) [20,21] [],o1 23 0 [],o2 24 ln [23] [],o2 25 (.p (.slice 1 false true)) [22,24] [],o1 0 25 []]
def g7:List RO:=[o1 26 0 [],o1 4 26 []]
def grow:RC:=.seq (.ops g1) (.seq (.seq (.ops g2) (.cond (.s 6) (.ops g3) (.skip))) (.seq (.seq (.ops g4) (.seq (.ops g5) (.cond (.s 16) (.ops g6) (.skip)))) (.seq (.ops g7) (.ret))))
section
variable {E:Env} {N:Nat->FuncId} {t:Nat}
theorem Qu (ht:t<=2147483648):∃F',Ex E N grow [.bH,.int .i64 t] [] .ret F' (if t=0 then []else [.row 1 (List.replicate t [.bH])])/\get F' 4=if t=0 then .bH else .hsl 0 1 0 0:=by
 have e1:∀call,cw E N call none g1 [.bH,.int .i64 t] []=some (set [.bH,.int .i64 t] 4 .bH,[]):=λcall=>vp (v:=.bH) rfl (by simp[bJ,bu,bh]) dS
 have k0:get (set [V.bH,.int .i64 t] 4 .bH) 0=.bH:=rfl;have k1:get (set [V.bH,.int .i64 t] 4 .bH) 1=.int .i64 t:=rfl;generalize set [V.bH,.int .i64 t] 4 .bH=J at *;have T:IntKind.wrap .i64 ((t:Int)-0)=t:=by rw[Int.sub_zero];exact OX (by omega) (by omega)
 have B:IntKind.wrap .i64 ((0:Int)-0)=0:=by decide
 have e2:∃F1,(∀call,cw E N call none g2 J []=some (F1,[]))/\get F1 6=.bool false/\get F1 0=.bH/\get F1 1=.int .i64 t:=by
  refine⟨_,λcall=>vp (v:=.int .i64 t) rfl ?_ <| vp (v:=.bool false) rfl ?_ dS,?_,?_,?_⟩
  .simp[bJ,bu,bh,k1]
  .simp[bJ,bu,bh,bq,bI,hU,nZ]
  all_goals simp[bq,k0,k1]
 obtain⟨F1,U,W,C,X⟩:=e2;have e4:∃u,(∀call,cw E N call none g4 F1 []=some (u,[]))/\get u 0=.bH/\get u 1=.int .i64 t:=by
  refine⟨_,λcall=>vp (v:=.int .i64 t) rfl ?_ <| vp (v:=.bH) rfl ?_ <| vp (v:=.int .i64 0) rfl ?_ <| vp (v:=.bH) rfl ?_ <| vp (v:=.int .i64 0) rfl ?_ <| vp (v:=.int .i64 0) rfl ?_ <| vp (v:=.int .i64 t) rfl ?_ <| vp (v:=.int .i64 t) rfl ?_ dS,?_,?_⟩
  .simp[bJ,bu,bh,X]
  .simp[bJ,bu,bh,bq,C]
  .simp[bJ,bu,bh,bq,Ff]
  .simp[bJ,bu,bh,bq,C]
  .simp[bJ,bu,bh,bq,ln,og]
  .simp only[bJ,List.map_cons,List.map_nil,bu,bq,br,Nat.reduceEqDiff,if_true,if_false,bh,bI,hU,B];rfl
  .simp only[bJ,List.map_cons,List.map_nil,bu,bq,br,Nat.reduceEqDiff,if_true,if_false,bh,bI,hU,T];rfl
  .simp[bJ,bu,bh,bq]
  all_goals simp[bq,C]
 obtain⟨u,L,Y,O⟩:=e4;have e5:∃q,(∀call,cw E N call none g5 u []=some (q,[]))/\get q 16=.bool (decide (t>0))/\get q 0=.bH/\get q 1=.int .i64 t:=by
  refine⟨_,λcall=>vp (v:=.int .i64 t) rfl ?_ <| vp (v:=.bool (decide (t>0))) rfl ?_ dS,?_,?_,?_⟩
  .simp[bJ,bu,bh,O]
  .simp[bJ,bu,bh,bq,bI,hU,nZ]
  all_goals simp[bq,Y,O]
 obtain⟨q,Q,S,z,Z⟩:=e5;have hc:Ex E N (.seq (.ops g2) (.cond (.s 6) (.ops g3) (.skip))) J [] .norm F1 []:=Ex.seq (Ex.cQ U) (Ex.oQ W Ex.skip);have e7:∀(F:Frame) (H:bl),∃F',(∀call,cw E N call none g7 F H=some (F',H))/\get F' 4=get F 0:=λF H=>
  ⟨_,λcall=>vp (v:=get F 0) rfl (by simp[bJ,bu,bh]) <| vp (v:=get F 0) rfl (by simp[bJ,bu,bh,bq]) dS,by simp[bq]⟩
 by_cases h0:t=0
 .subst h0;obtain⟨D,G,I⟩:=e7 q [];refine⟨D,?_,by rw[I,z];rfl⟩
  exact Ex.seq (Ex.cQ e1) (Ex.seq hc (Ex.seq (Ex.seq (Ex.cQ L) (Ex.seq (Ex.cQ Q) (Ex.oQ S Ex.skip))) (Ex.seq (Ex.cQ G) Ex.ret)))
 .have w:0<t:=by omega
  have e6:∃A,(∀call,cw E N call none g6 q []=some (A,[.row 1 (List.replicate t [.bH])]))/\get A 0=.hsl 0 1 0 0:=by
   refine⟨_,λcall=>vp (v:=.bH) rfl ?_ <| vp (v:=.bH) rfl ?_ <| vp (v:=.int .i64 0) rfl ?_ <| vp (v:=.bH) rfl ?_ <| vp (v:=.int .i64 t) rfl ?_ <| jH (v:=.hsl 0 1 0 t) (H1:=[.row 1 (List.replicate t [.bH])]) rfl ?_ <| vp (v:=.bH) rfl ?_ <| vp (v:=.int .i64 0) rfl ?_ <| vp (v:=.hsl 0 1 0 0) rfl ?_ <| vp (v:=.hsl 0 1 0 0) rfl ?_ dS,?_⟩
   .simp[bJ,bu,bh,z]
   .simp[bJ,bu,bh,bq,z]
   .simp[bJ,bu,bh,bq,Ff]
   .simp[bJ,bu,bh,bq,lC,hG,dN]
   .simp[bJ,bu,bh,bq,Z]
   .simp only[bJ,List.map_cons,List.map_nil,bu,bq,br,Nat.reduceEqDiff,if_true,if_false,eY,mkApp];rw[if_neg (by omega),if_pos ⟨by omega,by omega,by omega,by omega⟩];simp
   .simp[bJ,bu,bh,bq,z]
   .simp[bJ,bu,bh,bq,ln,og]
   .simp[bJ,bu,bh,bq,lC,hG,dN]
   .simp[bJ,bu,bh,bq]
   .simp[bq]
  obtain⟨A,q1,q2⟩:=e6;obtain⟨D,G,I⟩:=e7 A [.row 1 (List.replicate t [.bH])];rw[if_neg h0,if_neg h0];refine⟨D,?_,by rw[I,q2]⟩
  exact Ex.seq (Ex.cQ e1) (Ex.seq hc (Ex.seq (Ex.seq (Ex.cQ L) (Ex.seq (Ex.cQ Q) (Ex.mZ (by show get q 16=_;rw[S,decide_eq_true w]) (Ex.cQ q1)))) (Ex.seq (Ex.cQ G) Ex.ret)))
end
end catX
end Go.VE
namespace Go.VE
variable [bX]
def BA {α:Type} (s:Sl (Sl α)):Sl α:=if(s.l.flatMap Sl.l).length=0 then .nil else .row (s.l.flatMap Sl.l)
namespace catX
def r1:List RO:=[o1 2 (.k (.bH)) []]
def r2:List RO:=[o1 3 (.k (.int .i64 0)) []]
def r3:List RO:=[o1 9 0 [],o2 10 ln [9] [],o1 11 (.k (.int .i64 0)) []]
def r4:List RO:=[o2 12 (bI .lss) [11,10] []]
def r5:List RO:=[o2 13 ix [9,11] [],o2 14 ld [13] [],o1 5 14 []]
def r6:List RO:=[o1 15 3 [],o1 16 5 [],o2 17 ln [16] [],o2 18 (bI .add) [15,17] [],o1 3 18 []]
def r7:List RO:=[o1 19 3 [],o2 20 (bI .lss) [19,.k (.int .i64 0)] []]
def r8:List RO:=[o2 21 (.p (.bad)) [] [],⟨none,none,false,.p .bad,[],[],[]⟩]
def r9:List RO:=[o2 22 (bI .add) [11,.k (.int .i64 1)] [],o1 11 22 []]
def L9:RC:=.seq (.ops r4) (.seq (.cond (.s 12) (.skip) (.exit 0)) (.seq (.block 1 (.seq (.ops r5) (.seq (.ops r6) (.seq (.ops r7) (.cond (.s 20) (.ops r8) (.skip)))))) (.ops r9)))
def CF (gid:Nat):List RO:=[o1 23 3 [],o2 24 .c [.f gid,.k (.bH),23] [],o1 6 24 []]
def D0:List RO:=[o1 25 0 [],o2 26 ln [25] [],o1 27 (.k (.int .i64 0)) []]
def Ez:List RO:=[o2 28 (bI .lss) [27,26] []]
def DD:List RO:=[o2 29 ix [25,27] [],o2 30 ld [29] [],o1 8 30 []]
def B_:List RO:=[o1 31 6 [],o1 32 8 [],o2 33 (.l (.append 1)) [31,32] [],o1 6 33 []]
def DJ:List RO:=[o2 34 (bI .add) [27,.k (.int .i64 1)] [],o1 27 34 []]
def Vm:RC:=.seq (.ops Ez) (.seq (.cond (.s 28) (.skip) (.exit 2)) (.seq (.block 3 (.seq (.ops DD) (.ops B_))) (.ops DJ)))
def Em:List RO:=[o1 35 6 [],o1 2 35 []]
def cat (gid:Nat):RC:=.seq (.ops r1) (.seq (.ops r2) (.seq (.seq (.ops r3) (.block 0 (.loop L9))) (.seq (.ops (CF gid)) (.seq (.seq (.ops D0) (.block 2 (.loop Vm))) (.seq (.ops Em) (.ret))))))
section
variable {E:Env} {N:Nat->FuncId} {F:Frame} {H:bl} {α:Type} [bE α] {s:Sl (Sl α)} {i:Nat}
theorem el {u:Sl α} (h:s.l[i]? = some u):lG 1 (bV s) (i:Int)=some (.fptr [bV u]):=by
 have:=Du (N:=λn=>n) s .i64 (i:Int) 1 rfl
 simp only[bh]at this;rw[this,show idx s (i:Int)=some u from by unfold idx;rw[if_pos (by omega)];exact h];rfl
theorem Vc (s:Sl α):og (bV s)=some (.int .i64 s.l.length):=by
 have:=yj (N:=λn=>n) s;simpa only[bh]using this
theorem y3:(get F 0=bV s->∃F',(∀call,cw E N call none r3 F H=some (F',H))/\get F' 9=bV s/\get F' 10=.int .i64 s.l.length/\get F' 11=.int .i64 0/\∀j,j<9->get F' j=get F j) /\
 (get F 0=bV s->∃F',(∀call,cw E N call none D0 F H=some (F',H))/\get F' 25=bV s/\get F' 26=.int .i64 s.l.length/\get F' 27=.int .i64 0/\∀j,j<9->get F' j=get F j):=by
 have h:=Vc s;refine⟨λf0=>⟨_,λcall=>vp (v:=bV s) rfl ?_ <| vp (v:=.int .i64 s.l.length) rfl ?_ <| vp (v:=.int .i64 0) rfl ?_ dS,?_,?_,?_,?_⟩,λf0=>⟨_,λcall=>vp (v:=bV s) rfl ?_ <| vp (v:=.int .i64 s.l.length) rfl ?_ <| vp (v:=.int .i64 0) rfl ?_ dS,?_,?_,?_,?_⟩⟩ <;>
 first
 | (simp[bJ,bu,bh,f0];done)
 | (simp only[bJ,List.map_cons,List.map_nil,bu,bq,br,Nat.reduceEqDiff,if_true,if_false,bh,ln,h];rfl)
 | (simp[bJ,bu,bh,bq];done)
 | (simp[bq];done)
 | (intro j q;simp only[bq,br];repeat (rw[if_neg (by omega)]))
theorem y4 {n:Nat}:(get F 11=.int .i64 i->get F 10=.int .i64 n->∃F',(∀call,cw E N call none r4 F H=some (F',H))/\get F' 12=.bool (decide (i<n))/\∀j,j<12->get F' j=get F j) /\
 (get F 27=.int .i64 i->get F 26=.int .i64 n->∃F',(∀call,cw E N call none Ez F H=some (F',H))/\get F' 28=.bool (decide (i<n))/\∀j,j<28->get F' j=get F j):=by
 refine⟨λf q=>⟨_,λcall=>vp (v:=.bool (decide (i<n))) rfl ?_ dS,?_,?_⟩,λf q=>⟨_,λcall=>vp (v:=.bool (decide (i<n))) rfl ?_ dS,?_,?_⟩⟩ <;>
 first
 | (simp[bJ,bu,bh,bq,bI,hU,nZ,f,q];done)
 | (simp[bq];done)
 | (intro j t;simp only[bq,br];repeat (rw[if_neg (by omega)]))
theorem y5 {u:Sl α} (h:s.l[i]? = some u):(get F 9=bV s->get F 11=.int .i64 i->∃F',(∀call,cw E N call none r5 F H=some (F',H))/\get F' 5=bV u/\∀j,j<12->j≠5->get F' j=get F j) /\
 (get F 25=bV s->get F 27=.int .i64 i->∃F',(∀call,cw E N call none DD F H=some (F',H))/\get F' 8=bV u/\∀j,j<28->j≠8->get F' j=get F j):=by
 have e:=el h;have e2:eS H (.load 1 false) [.fptr [bV u]]=some (bV u):=by simp[eS,dY,cut,mk]
 refine⟨λf q=>⟨_,λcall=>vp (v:=.fptr [bV u]) rfl ?_ <| vp (v:=bV u) rfl ?_ <| vp (v:=bV u) rfl ?_ dS,?_,?_⟩,λf q=>⟨_,λcall=>vp (v:=.fptr [bV u]) rfl ?_ <| vp (v:=bV u) rfl ?_ <| vp (v:=bV u) rfl ?_ dS,?_,?_⟩⟩ <;>
 first
 | (simp only[bJ,List.map_cons,List.map_nil,bu,bq,br,Nat.reduceEqDiff,if_true,if_false,bh,ix,f,q,e,Option.map_some];done)
 | (simp only[bJ,List.map_cons,List.map_nil,bu,bq,br,Nat.reduceEqDiff,if_true,if_false,ld];rw[e2];rfl)
 | (simp[bJ,bu,bh,bq];done)
 | (simp[bq];done)
 | (intro j w t;simp only[bq,br];rw[if_neg (Ne.symm t)];repeat (rw[if_neg (by omega)]))
theorem y6 {u:Sl α} {t:Nat} (f3:get F 3=.int .i64 t) (f5:get F 5=bV u) (B:t+u.l.length<=2147483648):∃F',(∀call,cw E N call none r6 F H=some (F',H))/\get F' 3=.int .i64 ((t+u.l.length:Nat):Int)/\∀j,j<12->j≠3->get F' j=get F j:=by
 have h:=Vc u;have q:IntKind.wrap .i64 ((t:Int)+(u.l.length:Int))=((t+u.l.length:Nat):Int):=by rw[OX (by omega) (by omega)];simp
 refine⟨_,λcall=>vp (v:=.int .i64 t) rfl ?_ <| vp (v:=bV u) rfl ?_ <| vp (v:=.int .i64 u.l.length) rfl ?_ <| vp (v:=.int .i64 ((t+u.l.length:Nat):Int)) rfl ?_ <| vp (v:=.int .i64 ((t+u.l.length:Nat):Int)) rfl ?_ dS,?_,?_⟩
 .simp[bJ,bu,bh,f3]
 .simp[bJ,bu,bh,bq,f5]
 .simp only[bJ,List.map_cons,List.map_nil,bu,bq,br,Nat.reduceEqDiff,if_true,if_false,bh,ln,h];rfl
 .simp only[bJ,List.map_cons,List.map_nil,bu,bq,br,Nat.reduceEqDiff,if_true,if_false,bh,bI,hU,q];rfl
 .simp[bJ,bu,bh,bq]
 .simp[bq]
 .intro j z w;simp only[bq,br];rw[if_neg (Ne.symm w)]
  repeat (rw[if_neg (by omega)])
theorem y7 {t:Nat} (f3:get F 3=.int .i64 t):∃F',(∀call,cw E N call none r7 F H=some (F',H))/\get F' 20=.bool false/\∀j,j<12->get F' j=get F j:=by
 refine⟨_,λcall=>vp (v:=.int .i64 t) rfl ?_ <| vp (v:=.bool false) rfl ?_ dS,?_,?_⟩
 .simp[bJ,bu,bh,f3]
 .simp[bJ,bu,bh,bq,bI,hU,nZ]
 .simp[bq]
 .intro j q;simp only[bq,br]
  repeat (rw[if_neg (by omega)])
theorem y9 (B:i<=2147483648):(get F 11=.int .i64 i->∃F',(∀call,cw E N call none r9 F H=some (F',H))/\get F' 11=.int .i64 ((i+1:Nat):Int)/\∀j,j<11->get F' j=get F j) /\
 (get F 27=.int .i64 i->∃F',(∀call,cw E N call none DJ F H=some (F',H))/\get F' 27=.int .i64 ((i+1:Nat):Int)/\∀j,j<27->get F' j=get F j):=by
 have q:=xI B;refine⟨λf=>⟨_,λcall=>vp (v:=.int .i64 ((i+1:Nat):Int)) rfl ?_ <| vp (v:=.int .i64 ((i+1:Nat):Int)) rfl ?_ dS,?_,?_⟩,λf=>⟨_,λcall=>vp (v:=.int .i64 ((i+1:Nat):Int)) rfl ?_ <| vp (v:=.int .i64 ((i+1:Nat):Int)) rfl ?_ dS,?_,?_⟩⟩ <;>
 first
 | (simp only[bJ,List.map_cons,List.map_nil,bu,bq,br,Nat.reduceEqDiff,if_true,if_false,bh,bI,hU,f,q];rfl)
 | (simp[bJ,bu,bh,bq];done)
 | (simp[bq];done)
 | (intro j t;simp only[bq,br];repeat (rw[if_neg (by omega)]))
structure Acc (H:bl) (w:V) (acc:List (List V)):Prop where
 el:dM H 1 w=some acc
 gr:∃H1,gQ H w=some H1/\H1.length=H.length
 sh:w=.bH/\acc=[]\/∃id xs,w=.hsl id 1 0 acc.length/\H[id]? = some (.row 1 xs)/\(acc≠[]->xs=acc)
theorem Q8 (H:bl) (u:Sl α) (h1:bE.size α=1):dM H 1 (bV u)=some (rows u.l):=by
 cases u <;> simp[bV,Sl.k,Sl.l,nF,dM,rows,h1]
theorem V6 {w:V} {acc:List (List V)} {u:Sl α} (h1:bE.size α=1) (a:Acc H w acc) (f6:get F 6=w) (B:get F 8=bV u) (D:acc.length+u.l.length<=2147483648) :
 ∃F' H' w',(∀call,cw E N call none B_ F H=some (F',H'))/\get F' 6=w'/\Acc H' w' (acc++rows u.l)/\(u.l=[]->w'=w)/\∀j,j<28->j≠6->get F' j=get F j:=by
 have hu:=Q8 H u h1;have z:(rows u.l).length=u.l.length:=by simp[rows]
 have key:∃H' w',eY H (.append 1) [w,bV u]=some (w',H')/\Acc H' w' (acc++rows u.l)/\(u.l=[]->w'=w):=by
  obtain⟨H1,g1,g2⟩:=a.gr
  cases hr:rows u.l with
  | nil=>exact⟨H,w,by simp only[eY,a.el,hu,hr],by simpa using a,λ_=>rfl⟩
  | cons y t=>
   have A:acc.length+(y::t).length<=2147483648:=by rw[<-hr,z];exact D
   refine⟨H1++[.row 1 (acc++y::t)],.hsl H.length 1 0 (acc.length+(y::t).length),by simp only[eY,a.el,hu,hr];rw[if_pos A,g1];rfl,?_⟩
   have q:(H1++[Ob.row 1 (acc++y::t)])[H.length]? = some (.row 1 (acc++y::t)):=by rw[<-g2];simp
   refine⟨⟨?_,⟨_,by simp only[gQ,q];rfl,by simp⟩,.inr ⟨H.length,acc++y::t,by simp,q,λ_=>rfl⟩⟩,λe=>by rw[e]at hr;cases hr⟩
   simp only[dM,q,ζb,Ob.rows,if_true,Nat.zero_add,List.drop_zero];rw[if_pos (by simp),List.take_of_length_le (by simp)]
 obtain⟨H',w',k1,k2,k3⟩:=key;refine⟨_,H',w',λcall=>vp (v:=w) rfl ?_ <| vp (v:=bV u) rfl ?_ <| jH (v:=w') (H1:=H') rfl ?_ <| vp (v:=w') rfl ?_ dS,?_,k2,k3,?_⟩
 .simp[bJ,bu,bh,f6]
 .simp[bJ,bu,bh,bq,B]
 .simp only[bJ,List.map_cons,List.map_nil,bu,bq,br,Nat.reduceEqDiff,if_true,if_false];exact k1
 .simp[bJ,bu,bh,bq]
 .simp[bq]
 .intro j G C;simp only[bq,br];rw[if_neg (Ne.symm C)]
  repeat (rw[if_neg (by omega)])
def upto (s:Sl (Sl α)) (i:Nat):List α:=(s.l.take i).flatMap Sl.l
theorem Ec {u:Sl α} (h:s.l[i]? = some u):upto s (i+1)=upto s i++u.l:=by
 unfold upto;obtain⟨q,rfl⟩:=ζe.1 h;rw[List.take_succ_eq_append_getElem q,List.flatMap_append];simp
theorem Iq (s:Sl (Sl α)) (i:Nat):(upto s i).length<=(s.l.flatMap Sl.l).length:=by
 have:s.l.flatMap Sl.l=upto s i++(s.l.drop i).flatMap Sl.l:=by
  unfold upto;rw[<-List.flatMap_append,List.take_append_drop]
 rw[this];simp
theorem V7 (hn:s.l.length<=2147483648) (ht:(s.l.flatMap Sl.l).length<=2147483648):∀(d i:Nat) (F:Frame),i+d=s.l.length->get F 9=bV s->get F 10=.int .i64 s.l.length->get F 11=.int .i64 i->get F 3=.int .i64 (upto s i).length ->
 ∃F',lR E N L9 F H (.exit 0) F' H/\get F' 3=.int .i64 (s.l.flatMap Sl.l).length/\get F' 0=get F 0:=by
 intro d
 induction d with
 | zero=>
  intro i F Q A f10 q f3;obtain⟨F1,B,C,w⟩:=(y4 (E:=E) (N:=N) (H:=H) (n:=s.l.length)).1 q f10;refine⟨F1,lR.stop (Ex.seq (Ex.cQ B) (Ex.uH (Ex.oQ (by show get F1 12=_;rw[C,decide_eq_false (by omega)]) Ex.exit) (by simp))) (by simp),?_,w 0 (by omega)⟩
  rw[w 3 (by omega),f3]
  have:upto s i=s.l.flatMap Sl.l:=by unfold upto;rw[List.take_of_length_le (by omega)]
  rw[this]
 | succ d S=>
  intro i F Q A f10 q f3;obtain⟨F1,B,C,w⟩:=(y4 (E:=E) (N:=N) (H:=H) (n:=s.l.length)).1 q f10;have hu:s.l[i]? = some s.l[i]:=ζd (by omega)
  obtain⟨T,U,W,G⟩:=(y5 (E:=E) (N:=N) (F:=F1) (H:=H) hu).1 (by rw[w 9 (by omega)];exact A) (by rw[w 11 (by omega)];exact q)
  have D:=Iq s (i+1);have I:=Ec hu;rw[I,ζi]at D;obtain⟨X,Y,J,Z⟩:=y6 (E:=E) (N:=N) (F:=T) (H:=H) (u:=s.l[i]) (t:=(upto s i).length) (by rw[G 3 (by omega) (by omega),w 3 (by omega)];exact f3) W (by omega)
  obtain⟨L,d1,d2,O⟩:=y7 (E:=E) (N:=N) (F:=X) (H:=H) J;have z:∀j,j<12->j≠3->j≠5->get L j=get F j:=λj h1 h2 h3=>by rw[O j h1,Z j h1 h2,G j h1 h3,w j h1]
  obtain⟨F5,e1,e2,e3⟩:=(y9 (E:=E) (N:=N) (F:=L) (H:=H) (i:=i) (by omega)).1 (by rw[z 11 (by omega) (by omega) (by omega)];exact q)
  obtain⟨F',g1,g2,g3⟩:=S (i+1) F5 (by omega) (by rw[e3 9 (by omega),z 9 (by omega) (by omega) (by omega)];exact A) (by rw[e3 10 (by omega),z 10 (by omega) (by omega) (by omega)];exact f10) e2 (by rw[e3 3 (by omega),O 3 (by omega),J,I,ζi])
  exact⟨F',lR.step (Ex.seq (Ex.cQ B) (Ex.seq (Ex.mZ (by show get F1 12=_;rw[C,decide_eq_true (by omega)]) Ex.skip) (Ex.seq (Ex.block (Ex.seq (Ex.cQ U) (Ex.seq (Ex.cQ Y) (Ex.seq (Ex.cQ d1) (Ex.oQ d2 Ex.skip))))) (Ex.cQ e1)))) g1,g2,by rw[g3,e3 0 (by omega),z 0 (by omega) (by omega) (by omega)]⟩
theorem We (h1:bE.size α=1) (hn:s.l.length<=2147483648) (ht:(s.l.flatMap Sl.l).length<=2147483648):∀(d i:Nat) (F:Frame) (H:bl) (w:V),i+d=s.l.length->get F 25=bV s->get F 26=.int .i64 s.l.length->get F 27=.int .i64 i->get F 6=w->Acc H w (rows (upto s i)) ->
 ∃F' H' w',lR E N Vm F H (.exit 2) F' H'/\get F' 6=w'/\Acc H' w' (rows (s.l.flatMap Sl.l))/\((s.l.flatMap Sl.l).length=0->w'=w):=by
 intro d
 induction d with
 | zero=>
  intro i F H w Q z t q f6 a;obtain⟨F1,B,C,A⟩:=(y4 (E:=E) (N:=N) (H:=H) (n:=s.l.length)).2 q t;have:upto s i=s.l.flatMap Sl.l:=by unfold upto;rw[List.take_of_length_le (by omega)]
  rw[this]at a;exact⟨F1,H,w,lR.stop (Ex.seq (Ex.cQ B) (Ex.uH (Ex.oQ (by show get F1 28=_;rw[C,decide_eq_false (by omega)]) Ex.exit) (by simp))) (by simp),by rw[A 6 (by omega)];exact f6,a,λ_=>rfl⟩
 | succ d S=>
  intro i F H w Q z t q f6 a;obtain⟨F1,B,C,A⟩:=(y4 (E:=E) (N:=N) (H:=H) (n:=s.l.length)).2 q t;have hu:s.l[i]? = some s.l[i]:=ζd (by omega)
  obtain⟨T,U,W,I⟩:=(y5 (E:=E) (N:=N) (F:=F1) (H:=H) hu).2 (by rw[A 25 (by omega)];exact z) (by rw[A 27 (by omega)];exact q)
  have D:=Iq s (i+1);have J:=Ec hu;rw[J,ζi]at D;obtain⟨L,H',w',X,Y,O,Z,c4⟩:=V6 (E:=E) (N:=N) (F:=T) (H:=H) (u:=s.l[i]) h1 a (by rw[I 6 (by omega) (by omega),A 6 (by omega)];exact f6) W (by simp only[gN];omega)
  have G:∀j,j<28->j≠6->j≠8->get L j=get F j:=λj h1 h2 h3=>by rw[c4 j h1 h2,I j h1 h3,A j h1]
  obtain⟨F5,e1,e2,e3⟩:=(y9 (E:=E) (N:=N) (F:=L) (H:=H') (i:=i) (by omega)).2 (by rw[G 27 (by omega) (by omega) (by omega)];exact q)
  have hr:rows (upto s i)++rows s.l[i].l=rows (upto s (i+1)):=by rw[J];simp[rows]
  rw[hr]at O;obtain⟨F',H2,w2,g1,g2,g3,g4⟩:=S (i+1) F5 H' w' (by omega) (by rw[e3 25 (by omega),G 25 (by omega) (by omega) (by omega)];exact z) (by rw[e3 26 (by omega),G 26 (by omega) (by omega) (by omega)];exact t) e2 (by rw[e3 6 (by omega)];exact Y) O
  exact⟨F',H2,w2,lR.step (Ex.seq (Ex.cQ B) (Ex.seq (Ex.mZ (by show get F1 28=_;rw[C,decide_eq_true (by omega)]) Ex.skip) (Ex.seq (Ex.block (Ex.seq (Ex.cQ U) (Ex.cQ X))) (Ex.cQ e1)))) g1,g2,g3,λe=>(g4 e).trans (Z (List.eq_nil_of_length_eq_zero (by omega)))⟩
end
end catX
theorem Re {E:Env} {f G:FuncId} {nm:FuncId->Option Nat} {N:Nat->FuncId} {gid:Nat} (hN:∀f s,nm f=some s->N s=f) (hg:N gid=G) (W:E.keep G=true) (J:E.own G=true)
 (hf:∃fi,E.ft f=some fi/\bQ ⟨E,nm,fi.ntmps⟩ false fi.body=some (catX.cat gid)/\2<=fi.ntmps/\fi.results=[.tmp 2])
 (Y:∃fi,E.ft G=some fi/\bQ ⟨E,nm,fi.ntmps⟩ false fi.body=some catX.grow/\2<=fi.ntmps/\fi.results=[.tmp 4])
 {α:Type} [bE α] (h1:bE.size α=1) (s:Sl (Sl α)) (hn:s.l.length<=2147483648) (ht:(s.l.flatMap Sl.l).length<=2147483648):zK E f [bV s] (bV (BA s)):=by
 obtain⟨fi,p1,p2,p3,p4⟩:=hf;obtain⟨gi,q1,q2,q3,q4⟩:=Y;generalize X:(s.l.flatMap Sl.l).length=T at *;obtain⟨Fg,Z,aa⟩:=catX.Qu (E:=E) (N:=N) ht;obtain⟨n0,I⟩:=Ex.run hN q1 q2 (args:=[.bH,.int .i64 T]) (by simpa using q3) Z (vs:=[if T=0 then .bH else .hsl 0 1 0 0]) (by rw[q4];simp[gR,aa])
 have z:∃w A,(∀k,n0<=k->e9 E (run E k) G [.bH,.int .i64 T] []=some (w,A))/\catX.Acc A w []/\(T=0->w=.bH):=by
  by_cases h0:T=0
  .refine⟨.bH,[],λk hk=>?_,⟨rfl,⟨[],rfl,rfl⟩,.inl ⟨rfl,rfl⟩⟩,λ_=>rfl⟩
   have:=pK E hk _ _ _ _ I;rw[if_pos h0,if_pos h0]at this;unfold e9 kW;rw[if_pos J];simp[borrows,ko,borrow,V.closed,this,result,V.scalar]
  .refine⟨.hsl 0 1 0 0,[.row 1 (List.replicate T [.bH])],λk hk=>?_,⟨by simp[dM,Ob.rows],⟨_,rfl,by simp⟩,.inr ⟨0,_,rfl,rfl,λh=>absurd rfl h⟩⟩,λh=>absurd h h0⟩
   have:=pK E hk _ _ _ _ I;rw[if_neg h0,if_neg h0]at this;unfold e9 kW;rw[if_pos J];simp only[borrows,ko,borrow,V.closed,if_true,this,result,V.scalar,Bool.false_eq_true,if_false,qo,List.getElem?_cons_zero,true_and];rw[if_pos (by simp[List.all_replicate,V.scalar])]
   simp
 obtain⟨w,A,ab,ad,L⟩:=z;have O:T≠0->rows (s.l.flatMap Sl.l)≠[]:=λh e=>h (by rw[<-X,<-gN,e];rfl)
 have q:∀c∈rows (s.l.flatMap Sl.l),V.cE c=true:=λc hc=>by
  obtain⟨x,_,rfl⟩:=List.mem_map.1 hc;exact bE.good x
 have g1:∀call,cw E N call none catX.r1 [bV s] []=some (set [bV s] 2 .bH,[]):=λcall=>vp (v:=.bH) rfl (by simp[bJ,bu,bh]) dS
 have k0:get (set [bV s] 2 .bH) 0=bV s:=rfl;generalize set [bV s] 2 .bH=F0 at *;have g2:∀call,cw E N call none catX.r2 F0 []=some (set F0 3 (.int .i64 0),[]):=λcall=>vp (v:=.int .i64 0) rfl (by simp[bJ,bu,bh]) dS
 obtain⟨F2,a1,a2,a3,a4,a5⟩:=(catX.y3 (E:=E) (N:=N) (F:=set F0 3 (.int .i64 0)) (H:=[]) (s:=s)).1 (by rw[gX _ _ (by omega)];exact k0)
 obtain⟨F3,b1,b2,b3⟩:=catX.V7 (E:=E) (N:=N) (H:=[]) hn (by omega) s.l.length 0 F2 (by omega) a2 a3 a4 (by rw[a5 3 (by omega),sD];rfl)
 rw[X]at b2;have ae:get F3 0=bV s:=by rw[b3,a5 0 (by omega),gX _ _ (by omega)];exact k0
 have c1:∃Q,(∃n,∀k,n<=k->cw E N (run E k) none (catX.CF gid) F3 []=some (Q,A))/\get Q 6=w/\get Q 0=bV s:=by
  refine⟨_,⟨n0,λk hk=>vp (v:=.int .i64 T) rfl ?_ <| jH (v:=w) (H1:=A) rfl ?_ <| vp (v:=w) rfl ?_ dS⟩,?_,?_⟩
  .simp[bJ,bu,bh,b2]
  .simp only[bJ,List.map_cons,List.map_nil,bu,bq,br,Nat.reduceEqDiff,if_true,if_false,hg,W,List.nil_append,List.append_nil];exact ab k hk
  .simp[bJ,bu,bh,bq]
  .simp[bq]
  .simp only[bq,br,Nat.reduceEqDiff,if_false];exact ae
 obtain⟨Q,c1,c2,c3⟩:=c1;obtain⟨F5,d1,d2,d3,d4,d5⟩:=(catX.y3 (E:=E) (N:=N) (F:=Q) (H:=A) (s:=s)).2 c3;obtain⟨F6,S,D,e1,e2,e3,e4⟩:=catX.We (E:=E) (N:=N) h1 hn (by omega) s.l.length 0 F5 A w (by omega) d2 d3 d4 (by rw[d5 6 (by omega)];exact c2) ad
 have f1:∃F7,(∀call,cw E N call none catX.Em F6 S=some (F7,S))/\get F7 2=D:=
  ⟨_,λcall=>vp (v:=D) rfl (by simp[bJ,bu,bh,e2]) <| vp (v:=D) rfl (by simp[bJ,bu,bh,bq]) dS,by simp[bq]⟩
 obtain⟨F7,f1,f2⟩:=f1;obtain⟨n,af⟩:=Ex.run hN p1 p2 (args:=[bV s]) (by simp;omega) (Ex.seq (Ex.cQ g1) (Ex.seq (Ex.cQ g2) (Ex.seq (Ex.seq (Ex.cQ a1) (Ex.uw (Ex.loop b1))) (Ex.seq (Ex.ops c1) (Ex.seq (Ex.seq (Ex.cQ d1) (Ex.uw (Ex.loop e1))) (Ex.seq (Ex.cQ f1) Ex.ret)))))) (vs:=[D]) (by rw[p4];simp[gR,f2])
 refine⟨n,D,S,λid=>∃m,D=.hsl id 1 0 m,af,?_,?_,?_⟩
 .rcases e3.sh with⟨h,B⟩|⟨id,xs,h,B,h3⟩
  .have:T=0:=by rw[<-X,<-gN,B];rfl
   rw[h];unfold BA;rw[if_pos (by omega)]
   exact .same _ rfl
  .by_cases h0:T=0
   .have:=e4 (by omega)
    rw[L h0]at this;rw[this]at h;cases h
   .have hx:=h3 (O h0);subst hx;unfold BA;rw[if_neg (by omega),h]
    show FR S _ (.fsl (bE.size α) (rows (s.l.flatMap Sl.l))) _;rw[h1];exact .fsl 1 _ id 0 _ ⟨_,rfl⟩ (by unfold bp;rw[B];rfl) (by omega) (λi a b U C=>by rw[Nat.zero_add]at C;rw[U]at C;cases C;rfl) (λi j a b u v U C hu hv=>by
     rw[Nat.zero_add]at C;rw[U]at C;cases C;rw[hu]at hv;cases hv;exact .same _ (iu.1 (q a (List.mem_of_getElem? U)) j u hu))
 .rintro id ⟨m,h⟩;rcases e3.sh with⟨t,_⟩|⟨ah,xs,t,B,_⟩
  .rw[t]at h;cases h
  .rw[t]at h;cases h;unfold bp;rw[B];rfl
 .refine⟨λid es ys hz hr c hc u hu=>?_⟩
  obtain⟨m,h⟩:=hz;rcases e3.sh with⟨t,_⟩|⟨ah,xs,t,B,h3⟩
  .rw[t]at h;cases h
  .rw[t]at h;cases h
   by_cases h0:T=0
   .have:=e4 (by omega)
    rw[L h0]at this;rw[this]at t;cases t
   .have hx:=h3 (O h0);subst hx;unfold bp at hr;rw[B]at hr;cases hr;obtain⟨j,hj⟩:=List.getElem?_of_mem hu;exact⟨u,.same _ (iu.1 (q c hc) j u hj)⟩
end Go.VE
namespace Go.VE
variable [bX]
def nC (op:Bool) (x y:Int):Int:=cond op x y
@[simp] theorem UH (x y:Int):nC true x y=x:=rfl
@[simp] theorem Ug (x y:Int):nC false x y=y:=rfl
def Sl.setAt (s:Sl Int) (p v:Int):Option (Sl Int):=if 0<=p/\p.toNat<s.l.length then some (s.re (s.l.set p.toNat v))else none
def Av (op:Bool) (es:Nat) (xs:List (List V)):List V->Option (List (List V))
 | [.agg [.int .i64 a,.int .i64 b],.agg [.int .i64 c,.int .i64 d]]=>
  if es=1/\(xs.all λx=>x.length==1)=true/\0<=(nC op c a)/\(nC op c a).toNat<xs.length then
   some (xs.set (nC op c a).toNat [.int .i64 (nC op (IntKind.wrap .i64 (d-1)) b)])else none
 | _=>none
def wV (op:Bool):Gc:=⟨false,Av op⟩
namespace setX
instance {n:Nat}:OfNat Arg n:=⟨.s n⟩
def fa (k:Nat):K:=.p (.fieldAddr k)
def ld:K:=.r (.load 1 false)
def r1:List RO:=[o2 4 (.a .box) [1] [],o2 5 (.a .box) [2] []]
def r2:List RO:=[o1 6 0 [],o2 7 (fa 0) [4] [],o2 8 ld [7] [],o2 9 (fa 1) [4] [],o2 10 ld [9] [],o2 11 (.p (.idxS 1)) [6,8] [],⟨none,none,false,.l (.store 1),[11,10],[],[]⟩]
def r3:List RO:=[o1 6 0 [],o2 7 (fa 0) [5] [],o2 8 ld [7] [],o2 9 (fa 1) [5] [],o2 10 ld [9] [],o2 11 (.p (.bin (some .int) none .sub)) [10,.k (.int .i64 1)] [],o2 12 (.p (.idxS 1)) [6,8] [],⟨none,none,false,.l (.store 1),[12,11],[],[]⟩]
def code (op:Bool):RC:=.seq (.ops r1) (.ops (if op then r3 else r2))
section
variable {E:Env} {N:Nat->FuncId} {H:bl} {id off L:Nat} {rs:List (List V)}
theorem O5 {h:Nat} {x y:V} {i:Nat} {v:V} (B:H[h]? = some (.row 2 [[x,y]])) (hv:[x,y][i]? = some v):eS H (.load 1 false) [.hptr h 0 i]=some v:=by
 match i,hv with
 | 0,hv=>cases hv;simp[eS,dY,B,Ob.rows,cut,mk]
 | 1,hv=>cases hv;simp[eS,dY,B,Ob.rows,cut,mk]
 | i+2,hv=>simp at hv
theorem whole (op:Bool) {a b c d:Int} (G:H[id]? = some (.row 1 rs)) (J:0<=(nC op c a)) (B:(nC op c a).toNat<L) {z:V} (D:rs[off+(nC op c a).toNat]? = some [z]) :
 ∃F' X,Ex E N (code op) [.hsl id 1 off L,.agg [.int .i64 a,.int .i64 b],.agg [.int .i64 c,.int .i64 d]] H .norm F' ((H++X).set id (.row 1 (rs.set (off+(nC op c a).toNat) [.int .i64 (nC op (IntKind.wrap .i64 (d-1)) b)]))):=by
 let X:bl:=[.row 2 [[.int .i64 a,.int .i64 b]],.row 2 [[.int .i64 c,.int .i64 d]]]
 have A:=(ζe.1 G).1;have e1:∃F1,(∀call,cw E N call none r1 [.hsl id 1 off L,.agg [.int .i64 a,.int .i64 b],.agg [.int .i64 c,.int .i64 d]] H=some (F1,H++X))/\get F1 0=.hsl id 1 off L/\get F1 4=.hptr H.length 0 0/\get F1 5=.hptr (H.length+1) 0 0:=by
  refine⟨_,λcall=>jH (v:=.hptr H.length 0 0) (H1:=H++[.row 2 [[.int .i64 a,.int .i64 b]]]) rfl ?_ <| jH (v:=.hptr (H.length+1) 0 0) (H1:=H++X) rfl ?_ dS,?_,?_,?_⟩
  .simp[bJ,bu,get,iZ,V.cells,V.one,Mk.val]
  .simp[bJ,bu,get,bq,set,iZ,V.cells,V.one,Mk.val,X]
  .simp[bq];rfl
  .simp[bq]
  .simp[bq]
 obtain⟨F1,p1,p2,p3,p4⟩:=e1;have h1:(H++X)[id]? = some (.row 1 rs):=by rw[List.getElem?_append_left A];exact G
 have C:(H++X)[H.length]? = some (.row 2 [[.int .i64 a,.int .i64 b]]):=by simp[X]
 have I:(H++X)[H.length+1]? = some (.row 2 [[.int .i64 c,.int .i64 d]]):=by
  rw[List.getElem?_append_right (by omega)];simp[X]
 obtain⟨H1,O⟩:∃H1,H1=H++X:=⟨_,rfl⟩;rw[<-O]at h1 C I;rw[<-O]at p1
 suffices U:∃F',Ex E N (code op) [.hsl id 1 off L,.agg [.int .i64 a,.int .i64 b],.agg [.int .i64 c,.int .i64 d]] H .norm F' (H1.set id (.row 1 (rs.set (off+(nC op c a).toNat) [.int .i64 (nC op (IntKind.wrap .i64 (d-1)) b)])))by
  obtain⟨F',W⟩:=U;exact⟨F',X,by rw[<-O];exact W⟩
 have u:∀p:Int,0<=p->p.toNat<L->lG 1 (.hsl id 1 off L) p=some (.hptr id (off+p.toNat) 0):=λp h0 Y=>by
  unfold lG;rw[if_neg (by omega)];simp[Y]
 have w:∀(q:Nat) (z v:V),rs[q]? = some [z]->v.one=true->eY H1 (.store 1) [.hptr id q 0,v]=some (.undef,H1.set id (.row 1 (rs.set q [v]))):=λq z v D hv=>by
  simp[eY,h1,D,Ek hv,hv]
 cases op with
 | false=>
  simp only[Ug]at J B D ⊢;have Q:=O5 (i:=0) C rfl;have S:=O5 (i:=1) C rfl;have e2:∃t,(∀call,cw E N call none r2 F1 H1=some (t,H1.set id (.row 1 (rs.set (off+a.toNat) [.int .i64 b])))):=by
   refine⟨_,λcall=>vp (v:=.hsl id 1 off L) rfl ?_ <| vp (v:=.hptr H.length 0 0) rfl ?_ <| vp (v:=.int .i64 a) rfl ?_ <| vp (v:=.hptr H.length 0 1) rfl ?_ <| vp (v:=.int .i64 b) rfl ?_ <| vp (v:=.hptr id (off+a.toNat) 0) rfl ?_ <| jH (v:=.undef) rfl ?_ dS⟩
   .simp[bJ,bu,bh,p2]
   .simp[bJ,bu,bh,bq,fa,gZ,p3]
   .simp only[bJ,List.map_cons,List.map_nil,bu,bq,br,Nat.reduceEqDiff,if_true,if_false,ld,Q,Option.map_some]
   .simp[bJ,bu,bh,bq,fa,gZ,p3]
   .simp only[bJ,List.map_cons,List.map_nil,bu,bq,br,Nat.reduceEqDiff,if_true,if_false,ld,S,Option.map_some]
   .simp only[bJ,List.map_cons,List.map_nil,bu,bq,br,Nat.reduceEqDiff,if_true,if_false,bh,u a J B,Option.map_some]
   .simp only[bJ,List.map_cons,List.map_nil,bu,bq,br,Nat.reduceEqDiff,if_true,if_false];exact w _ z _ D rfl
  obtain⟨t,T⟩:=e2;exact⟨t,Ex.seq (Ex.cQ p1) (Ex.cQ (l:=_) T)⟩
 | true=>
  simp only[UH]at J B D ⊢;have Q:=O5 (i:=0) I rfl;have S:=O5 (i:=1) I rfl;have e2:∃t,(∀call,cw E N call none r3 F1 H1=some (t,H1.set id (.row 1 (rs.set (off+c.toNat) [.int .i64 (IntKind.wrap .i64 (d-1))])))):=by
   refine⟨_,λcall=>vp (v:=.hsl id 1 off L) rfl ?_ <| vp (v:=.hptr (H.length+1) 0 0) rfl ?_ <| vp (v:=.int .i64 c) rfl ?_ <| vp (v:=.hptr (H.length+1) 0 1) rfl ?_ <| vp (v:=.int .i64 d) rfl ?_ <| vp (v:=.int .i64 (IntKind.wrap .i64 (d-1))) rfl ?_ <| vp (v:=.hptr id (off+c.toNat) 0) rfl ?_ <| jH (v:=.undef) rfl ?_ dS⟩
   .simp[bJ,bu,bh,p2]
   .simp[bJ,bu,bh,bq,fa,gZ,p4]
   .simp only[bJ,List.map_cons,List.map_nil,bu,bq,br,Nat.reduceEqDiff,if_true,if_false,ld,Q,Option.map_some]
   .simp[bJ,bu,bh,bq,fa,gZ,p4]
   .simp only[bJ,List.map_cons,List.map_nil,bu,bq,br,Nat.reduceEqDiff,if_true,if_false,ld,S,Option.map_some]
   .simp[bJ,bu,bh,bq,hU]
   .simp only[bJ,List.map_cons,List.map_nil,bu,bq,br,Nat.reduceEqDiff,if_true,if_false,bh,u c J B,Option.map_some]
   .simp only[bJ,List.map_cons,List.map_nil,bu,bq,br,Nat.reduceEqDiff,if_true,if_false];exact w _ z _ D rfl
  obtain⟨t,T⟩:=e2;exact⟨t,Ex.seq (Ex.cQ p1) (Ex.cQ (l:=_) T)⟩
end
end setX
theorem Ex.runN {E:Env} {nm:FuncId->Option Nat} {N:Nat->FuncId} (B:∀f s,nm f=some s->N s=f) {f:FuncId} {fi:FI} {rc:RC} (D:E.ft f=some fi) (hc:bQ ⟨E,nm,fi.ntmps⟩ false fi.body=some rc) {args:List V} (G:args.length<=fi.ntmps) {H H':bl} {F':Frame}
 (h:Ex E N rc args H .norm F' H') {vs:List V} (hr:gR E F' H' fi.results=some vs):∃n,Go.VE.run E n (.fn f) args H=some (result vs,H'):=by
 obtain⟨n,h⟩:=h;refine⟨n+1,?_⟩;have:=Gd (X:=⟨E,nm,fi.ntmps⟩) (call:=Go.VE.run E n) B (lf:=n) rc fi.body args H _ hc (h n (Nat.le_refl _));simp only[Go.VE.run,D,if_pos G,this,hr,Option.map_some]
theorem Rj {E:Env} {f:FuncId} {nm:FuncId->Option Nat} {N:Nat->FuncId} (op:Bool) (hN:∀f s,nm f=some s->N s=f) (hk:E.keep f=true) (ho:E.own f=false)
 (hf:∃fi,E.ft f=some fi/\bQ ⟨E,nm,fi.ntmps⟩ false fi.body=some (setX.code op)/\3<=fi.ntmps/\fi.results=[]):pN E f (wV op):=by
 obtain⟨fi,h1,h2,h3,h4⟩:=hf;refine⟨hk,ho,?_,?_,?_⟩
 .intro es q vs W h;simp only[wV,Av]at h;split at h
  .split at h
   .cases h;simp
   .cases h
  .cases h
 .intro es vs W h H Z ws w Y J;simp only[wV,Av]at h;split at h
  .split at h
   .rename_i hc;simp at hc
   .cases h
  .cases h
 .intro es q vs W h H Z ws id off rs Y O aa C D hz;simp only[wV,Av]at h;split at h
  .rename_i a b c d;split at h
   .rename_i hc;cases h;obtain⟨rfl,G,hp,t⟩:=hc;obtain⟨w1,r1,rfl,q1,q2⟩:=Y.inv;obtain⟨w2,r2,rfl,q3,q4⟩:=q2.inv;rw[q4.cU];have e1:=(q1.scalar).1 rfl;have e2:=(q3.scalar).1 rfl;subst e1 e2;generalize Q:(nC op c a).toNat=P at *;have S:off+P<rs.length:=by omega
    have T:∃z,rs[off+P]? = some [z]:=by
     have B:q[P]? = some q[P]:=ζd t;have:=(C.2 P _ _ B (by rw[List.getElem?_take,if_pos t,List.getElem?_drop,ζd S])).1
     have A:=List.all_eq_true.1 G q[P] (List.getElem_mem t);simp only[beq_iff_eq]at A;rw[A]at this;obtain⟨z,hz⟩:=List.length_eq_one_iff.1 this.symm;exact⟨z,by rw[ζd S,hz]⟩
    obtain⟨z,U⟩:=T;obtain⟨F',X,B⟩:=setX.whole (E:=E) (N:=N) (H:=H) (id:=id) (off:=off) (L:=q.length) op (a:=a) (b:=b) (c:=c) (d:=d) O hp (by rw[Q];exact t) (z:=z) (by rw[Q];exact U)
    rw[Q]at B;obtain⟨n,hn⟩:=Ex.runN hN h1 h2 (args:=[.hsl id 1 off q.length,.agg [.int .i64 a,.int .i64 b],.agg [.int .i64 c,.int .i64 d]]) (by simpa using h3) B (vs:=[]) (by rw[h4];rfl)
    refine⟨n,rs.set (off+P) [.int .i64 (nC op (IntKind.wrap .i64 (d-1)) b)],X,λk hk=>?_,by simp,?_,?_⟩
    .simp only[wV,Bool.false_eq_true,if_false];exact pK E hk _ _ _ _ hn
    .have e:((rs.set (off+P) [V.int .i64 (nC op (IntKind.wrap .i64 (d-1)) b)]).drop off).take (q.set P [V.int .i64 (nC op (IntKind.wrap .i64 (d-1)) b)]).length=((rs.drop off).take q.length).set P [.int .i64 (nC op (IntKind.wrap .i64 (d-1)) b)]:=by
      apply List.ext_getElem?;intro j;rw[List.length_set,List.getElem?_take,List.getElem?_set,List.getElem?_take,List.getElem?_drop,List.getElem?_drop,List.getElem?_set]
      by_cases I:j<q.length
      .rw[if_pos I,if_pos I]
       by_cases J:P=j
       .subst J;rw[if_pos rfl,if_pos S,if_pos rfl,if_pos (by simp;omega)]
       .rw[if_neg J,if_neg (by omega)]
      .rw[if_neg I,if_neg I,if_neg (by omega)]
     rw[e];exact C.set P (.cons (.same _ rfl) .nil)
    .intro x B u hu;rcases List.mem_or_eq_of_mem_set B with h|rfl
     .exact D x h u hu
     .simp at hu;subst hu;exact⟨_,.same _ rfl⟩
   .cases h
  .cases h
structure MM (S:Sys) {α δ:Type} [bE δ] (g:FuncId) (e:List V) (A:α->List V) (p:Sl δ->α->Option (Sl δ)):Prop where
 f:∃q,S.prm g=some q/\q.part=false/\S.E.keep g=true/\S.E.own g=false/\∀s z s',p s z=some s'->q.go (bE.size δ) (rows s.l) (A z++e)=some (rows s'.l)/\s'=s.re s'.l
 d:V.c7 7 e=true
theorem MM.wV {S:Sys} {g:FuncId} {op:Bool} (B:S.prm g=some (wV op)) (hk:S.E.keep g=true) (D:S.E.own g=false) :
 MM S g [] (λz:aY×aY=>[enc z.1,enc z.2]) (λs z=>s.setAt (nC op z.2.proc z.1.proc) (nC op (IntKind.wrap .i64 (z.2.index-1)) z.1.index)) where
 d:=rfl
 f:=by
  refine⟨_,B,rfl,hk,D,λs z u h=>?_⟩
  unfold Sl.setAt at h;split at h
  .rename_i hc;cases h;have t:∀l:List Int,s.l≠[]->(s.re l).l=l:=λl q=>by cases s <;> first|rfl|exact absurd rfl q
   have q:s.l≠[]:=λe=>by rw[e]at hc;simp at hc
   refine⟨?_,by rw[t _ q]⟩
   rw[t _ q];show Av op 1 (rows s.l) [.agg [.int .i64 z.1.proc,.int .i64 z.1.index],.agg [.int .i64 z.2.proc,.int .i64 z.2.index]]=_;unfold Av;simp only;rw[if_pos ⟨trivial,by simp[rows],hc.1,by rw[gN];exact hc.2⟩]
   congr 1
   unfold rows;rw[List.map_set];rfl
  .cases h
section
variable {S:Sys} {c:cq} {β γ δ α:Type} [bE δ] {Q:Out×St->Option β} {e:γ->Option β} {cf:Cf}
theorem TS (n d:Nat) {g:FuncId} {ev:List V} {A:α->List V} {p:Sl δ->α->Option (Sl δ)} (F:MM S g ev A p) (z:α) {s:Sl δ} {f:Sl δ->Option γ}
 (h:∀B,p s z=some B->Le ((f B).bind e) (ck S c Q (nx S c n cf λq=>cZ { q.st with m:=bT q.st.m d (cT B) } q.d (.v .undef))))
 (D:(iD S c n cf).map (λq=>(q.k,bZ S.N q.st.g q.az,bk q.st.m d,q.dr))=some (.c,some (.v (.clo g [] ev)::.own d::(A z).map .v),some (cT s),false):=by kernel_rfl):Le (((p s z).bind f).bind e) (ck S c Q cf):=by
 obtain⟨q,C,hv⟩:=f_ D;simp only[ζc]at hv;obtain⟨G,H,I,J⟩:=hv;obtain⟨O,f1,f2,f3,L,f5⟩:=F.f;refine uO C ?_ h;rw[G,J];intro y u;obtain⟨B,w,u⟩:=ζg.1 u;cases u;obtain⟨e1,e2⟩:=f5 s z B w;rw[E6 false _ _ _ _ _ _ g (.own d::(A z).map .v++ev.map .v) H rfl];have t:dG ((A z).map SV.v++ev.map .v)=some (A z++ev):=by rw[<-List.map_append];exact qT _
 have hc:iY S c q.d false (!false||q.now) (ig q.st.m q.fr) g (.own d::(A z).map .v++ev.map .v) q.st=some (.v .undef,{ q.st with m:=bT q.st.m d (cT B) }):=by
  unfold iY;simp only[f3,L,Bool.not_false,Bool.true_or,if_true,Bool.false_eq_true,if_false,f1,Dv,List.cons_append,I,cT,t,e1,f2];have e4:(if cF s.k=true then bP.sl s.k (bE.size δ) (rows B.l)else .sl s.k (bE.size δ) (rows s.l))=.sl B.k (bE.size δ) (rows B.l):=by
   rw[e2];cases s <;> rfl
  rw[e4]
 rw[hc];rfl
end
end Go.VE
namespace Go.VE
variable [bX]
def snap (w:World):b_:=λb=>match w.heap[b]? with
 | some (.cells c _ _)=>some (.cells c)
 | some (.map es _)=>some (.map es)
 | _=>none
theorem M9 {w:World} (hg:uV (snap w)):cM (snap w) (λ_=>none) [] w where
 dom _ _:=rfl
 imm b x h:=by
  unfold snap at h;split at h
  .rename_i c el fr q;cases h;exact⟨el,fr,q⟩
  .rename_i es cl q;cases h;exact⟨cl,q⟩
  .cases h
 obs id ob h:=by simp at h
 inj id t ob u p z h:=by simp at h
 gl:=hg
def fu (I:b_) (xs:List V) (vs:List Value):Prop:=xs.length=vs.length/\∀(j:Nat) a b,xs[j]? = some a->vs[j]? = some b->eE I a b
theorem fu.nil {I:b_}:fu I [] []:=⟨rfl,by simp⟩
theorem fu.one {I:b_} {x:V} {v:Value} (h:eE I x v):fu I [x] [v]:=⟨rfl,λj a b h1 q=>by
 cases j with
 | zero=>simp at h1 q;subst h1 q;exact h
 | succ j=>simp at h1⟩
theorem fu.append {I:b_} {xs ys:List V} {B vs:List Value} (h:fu I xs B) (k:fu I ys vs):fu I (xs++ys) (B++vs):=by
 refine⟨by simp[h.1,k.1],λj a b h1 q=>?_⟩
 by_cases t:j<xs.length
 .rw[List.getElem?_append_left t]at h1;rw[List.getElem?_append_left (by rw[<-h.1];exact t)]at q
  exact h.2 j a b h1 q
 .rw[List.getElem?_append_right (by omega)]at h1
  rw[List.getElem?_append_right (by rw[<-h.1];omega),<-h.1]at q
  exact k.2 _ a b h1 q
theorem Bg {α β:Type} {f:α->Option β}:∀{l:List α} {r:List β},l.mapM f=some r->r.length=l.length/\∀(i:Nat) a b,l[i]? = some a->r[i]? = some b->f a=some b
 | [],r,h=>by simp only[List.mapM_nil,Option.pure_def,ζa]at h;subst h;simp
 | x::l,r,h=>by
  simp only[List.mapM_cons,Option.bind_eq_bind,Option.pure_def,ζg,ζa]at h;obtain⟨y,D,ys,B,rfl⟩:=h;obtain⟨h1,u⟩:=Bg B;refine⟨by simp[h1],λi a b q t=>?_⟩
  cases i with
  | zero=>simp at q t;subst q t;exact D
  | succ i=>exact u i a b (by simpa using q) (by simpa using t)
structure vv {H:Type} (b:DataW H->Nat):Prop where
 lit:∀l,1<=b (.lit l)
 str:∀s,s.length+1<=b (.lit (.string s))
 nil:1<=b .nil
 slice:∀es sp,(es.map b).sum+1<=b (.slice es sp)
 agg:∀ps,(ps.map b).sum+1<=b (.agg ps)
class ct (α:Type) where
 wt:α->Nat
 ok:α->Prop
instance:ct Int where
 wt _:=1
 ok n:=-9223372036854775808<=n/\n<=9223372036854775807
instance:ct Bool where
 wt _:=1
 ok _:=True
instance:ct ByteArray where
 wt s:=s.size+1
 ok s:=s.size<=maxLen
instance {α:Type} [ct α]:ct (Sl α) where
 wt s:=(s.l.map ct.wt).sum+1
 ok s:=(∀x∈s.l,ct.ok x)/\s≠.emp
class Reads (P:Program) (t:TypeId) (α:Type) [bE α] [ct α]:Prop where
 size:P.cellsOf t=bE.size α
 rd:∀{H:Type} {enc:TypeId×Value->H} {w:World} {base:Nat} {spare:Nat->Bool} {held:Bool} {fuel:Nat} {cs:List Value} {d:DataW H} {ps:List MemPlace},
  DataW.trod enc P w base spare held fuel t cs=some (d,ps)->∃a:α,fu (snap w) (cells a) cs/\ct.ok a/\∀b:DataW H->Nat,vv b->ct.wt a<=b d
 shape:∀{w:World} {r:_root_.Go.Reach} {base:Nat} {v:Value},Value.okWide P w r base t v->if bE.agg α then ∃cs,v=.agg cs else v.cells=#[v]
section
variable {P:Program}
theorem qy {w:World} {r:_root_.Go.Reach} {base:Nat} {t:TypeId} {v:Value} {u:_} (hu:P.underlying t=some u) (h1:∀fs,u≠.struct fs) (B:∀n e,u≠.array n e) (h:Value.okWide P w r base t v):v.cells=#[v]:=by
 cases v with
 | agg z=>
  exfalso;unfold Value.okWide at h;rw[hu]at h;split at h
  .rename_i fs q;cases q;exact h1 _ rfl
  .rename_i n e q;cases q;exact B _ _ rfl
  .unfold Cell.okWide at h;rw[hu]at h;split at h <;> first|(simp at *;done)|skip
   unfold Cell.ok at h;rw[hu]at h;cases u <;> simp at h
 | _=>rfl
theorem Reads.int {t:TypeId} (hu:P.underlying t=some (.int .i64)) (hc:P.cellsOf t=1):Reads P t Int where
 size:=hc
 rd {H enc w base z held u C d D} h:=by
  cases u with
  | zero=>simp[DataW.trod]at h
  | succ u=>
   simp only[DataW.trod,hu]at h;split at h <;> first|(simp at h;done)|skip
   .rename_i q;cases q
   .rename_i k G n q;simp only[ζa,TypeDesc.int.injEq]at q;split at h
    .rename_i hk;obtain⟨rfl,A⟩:=hk;subst q;cases h;exact⟨n,fu.one (.int _ n),show _/\_ by simpa [Lit.wf,IntKind.min,IntKind.max,IntKind.signed,IntKind.bits]using A,λb B=>B.lit _⟩
    .simp at h
   all_goals (rename_i q;cases q)
 shape h:=by simp only[show bE.agg Int=false from rfl];exact qy hu (by simp) (by simp) h
theorem Reads.bool {t:TypeId} (hu:P.underlying t=some .bool) (hc:P.cellsOf t=1):Reads P t Bool where
 size:=hc
 rd {H enc w base u held q B d C} h:=by
  cases q with
  | zero=>simp[DataW.trod]at h
  | succ q=>
   simp only[DataW.trod,hu]at h;split at h <;> first|(simp at h;done)|skip
   .rename_i b _;cases h;exact⟨b,fu.one (.bool b),trivial,λb A=>A.lit _⟩
   all_goals (rename_i z;cases z)
 shape h:=by simp only[show bE.agg Bool=false from rfl];exact qy hu (by simp) (by simp) h
theorem Reads.str {t:TypeId} (hu:P.underlying t=some .string) (hc:P.cellsOf t=1):Reads P t ByteArray where
 size:=hc
 rd {H enc w base u held q C d D} h:=by
  cases q with
  | zero=>simp[DataW.trod]at h
  | succ q=>
   simp only[DataW.trod,hu]at h;split at h <;> first|(simp at h;done)|skip
   all_goals (first|(rename_i z;cases z;done)|skip)
   rename_i s _;split at h
   .rename_i A;cases h;exact⟨s,fu.one (.str s),A,λb B=>B.str _⟩
   .simp at h
 shape h:=by simp only[show bE.agg ByteArray=false from rfl];exact qy hu (by simp) (by simp) h
theorem Ny {w:World} {a:Addr} {n:Nat} {v:Value} (h:w.cell? (a.add n)=some v) (B:n=0\/True):∃c el fr,w.heap[a.block]? = some (.cells c el fr)/\c[a.off+n]? = some v/\(n=0->a.spot=none):=by
 unfold World.cell? Addr.add at h
 by_cases h0:n=0
 .subst h0;simp only[if_true]at h;split at h
  .rename_i c el fr q;split at h
   .simp at h
   .rename_i t;exact⟨c,el,fr,q,h,λ_=>by simpa using t⟩
  .simp at h
 .simp only[if_neg h0]at h;split at h
  .rename_i c el fr q;simp only[Option.isSome_none,Bool.false_eq_true,if_false]at h;exact⟨c,el,fr,q,h,λe=>absurd e h0⟩
  .simp at h
theorem Reads.sl {t e:TypeId} {α:Type} [bE α] [ct α] [Reads P e α] (hu:P.underlying t=some (.slice e)) (hc:P.cellsOf t=1) (U:0<bE.size α):Reads P t (Sl α) where
 size:=hc
 rd {H enc w base ae held G cs d ps} h:=by
  cases G with
  | zero=>simp[DataW.trod]at h
  | succ G=>
   simp only[DataW.trod,hu]at h;split at h <;> first|(simp at h;done)|skip
   all_goals (first|(rename_i I;cases I;done)|skip)
   .cases h;exact⟨.nil,fu.one .bH,⟨λx T=>by simp[Sl.l]at T,by simp⟩,λb W=>W.nil⟩
   .rename_i e' a len cap I;cases I;split at h
    .rename_i X;obtain⟨q,af,h⟩:=ζg.1 h;obtain⟨rest,_,h⟩:=ζf.1 h;cases h;obtain⟨Y,Z⟩:=Bg af;simp only[List.length_range]at Y;have ah:P.cellsOf e=bE.size α:=Reads.size (α:=α);have T:∀i,i<len->∃x:α,∃u:List Value,w.cells? base (a.add (i*P.cellsOf e)) (P.cellsOf e)=some u/\fu (snap w) (cells x) u/\ct.ok x/\∀b:DataW H->Nat,vv b->∀y,q[i]? = some y->ct.wt x<=b y.1:=λi J=>by
      have:=Z i i (q[i]'(by omega)) (by simp[J]) (ζd (by omega))
      obtain⟨u,h1,L⟩:=ζg.1 this;obtain⟨x,T,hk,W⟩:=Reads.rd (P:=P) (t:=e) (α:=α) (d:=(q[i]'(by omega)).1) (ps:=(q[i]'(by omega)).2) L
      exact⟨x,u,h1,T,hk,λb O y hy=>by
       rw[ζd (by omega)]at hy;cases hy;exact W b O⟩
     have aa:∀n,n<=len->∃z:List α,z.length=n/\(∀i x,z[i]? = some x->∃u:List Value,w.cells? base (a.add (i*P.cellsOf e)) (P.cellsOf e)=some u/\fu (snap w) (cells x) u)/\(∀x∈z,ct.ok x)/\∀b:DataW H->Nat,vv b->(z.map ct.wt).sum<=(((q.take n).map (·.1)).map b).sum:=by
      intro n
      induction n with
      | zero=>intro _;exact⟨[],rfl,by simp,by simp,by simp⟩
      | succ n ih=>
       intro hn;obtain⟨z,h1,L,h5,h6⟩:=ih (by omega)
       obtain⟨x,u,h3,h4,h7,h8⟩:=T n (by omega)
       refine⟨z++[x],by simp[h1],λi y hy=>?_,λy hy=>?_,λb O=>?_⟩
       rotate_left
       .rcases List.mem_append.1 hy with hy|hy
        .exact h5 y hy
        .simp at hy;subst hy;exact h7
       .have k1:=h6 b O;have k2:=h8 b O _ (ζd (by omega))
        rw[List.take_succ,ζd (by omega:n<q.length)]
        simp only[List.map_append,List.sum_append,Option.toList_some,List.map_cons,List.map_nil,List.sum_cons,List.sum_nil];omega
       by_cases J:i<z.length
       .rw[List.getElem?_append_left J]at hy;exact L i y hy
       .rw[List.getElem?_append_right (by omega)]at hy
        have:i-z.length=0:=by
         cases hk:i-z.length with
         | zero=>rfl
         | succ k=>rw[hk]at hy;simp at hy
        rw[this]at hy;simp at hy;subst hy;have:i=n:=by omega
        subst this;exact⟨u,h3,h4⟩
     obtain⟨z,B,ai,ab,aj⟩:=aa len (Nat.le_refl _);refine⟨.row z,fu.one ?_,⟨ab,by simp⟩,λb O=>?_⟩
     rotate_left
     .have k:=aj b O;rw[List.take_of_length_le (by omega)]at k
      have k2:=O.slice (q.map (·.1)) (rest.map (·.1));show (z.map ct.wt).sum+1<=_;omega
     show eE _ (.fsl (bE.size α) (rows z)) _
     cases hl:z with
     | nil=>
      subst hl;simp at B;subst B;exact .fsl0 _ _ _
     | cons x0 xr=>
      rw[<-hl];have ap:0<len:=by rw[<-B,hl];simp
      have Q:∀i x,z[i]? = some x->∀j y,(cells x)[j]? = some y->∃v,w.cell? ((a.add (i*bE.size α)).add j)=some v/\eE (snap w) y v:=by
       intro i x J j y hy;obtain⟨u,h1,L⟩:=ai i x J;rw[ah]at h1;unfold World.cells? at h1;split at h1
       .obtain⟨g1,g2⟩:=Bg h1;have hj:j<bE.size α:=by rw[<-gx x];exact(ζe.1 hy).1
        obtain⟨v,hv⟩:∃v,u[j]? = some v:=⟨_,ζd (by rw[g1];simpa using hj)⟩
        exact⟨v,g2 j j v (by simp[hj]) hv,L.2 j y v hy hv⟩
       .simp at h1
      have ao:∀i j,(a.add (i*bE.size α)).add j=a.add (i*bE.size α+j)\/True:=λ_ _=>.inr trivial
      have A:∀i x,z[i]? = some x->∀j y,(cells x)[j]? = some y->∃c el fr v,w.heap[a.block]? = some (.cells c el fr)/\c[a.off+i*bE.size α+j]? = some v/\eE (snap w) y v/\(i=0->j=0->a.spot=none):=by
       intro i x J j y hy;obtain⟨v,h1,L⟩:=Q i x J j y hy;obtain⟨c,el,fr,g1,g2,g3⟩:=Ny h1 (.inr trivial);have W:(a.add (i*bE.size α)).block=a.block:=by unfold Addr.add;split <;> rfl
       have ho:(a.add (i*bE.size α)).off=a.off+i*bE.size α:=by unfold Addr.add;split <;> simp_all
       rw[W]at g1;rw[ho]at g2;refine⟨c,el,fr,v,g1,g2,L,?_⟩;rintro rfl rfl;have:=g3 rfl;simpa [Addr.add]using this
      have ak:∃y,(cells x0)[0]? = some y:=⟨_,ζd (by rw[gx];exact U)⟩
      obtain⟨y0,al⟩:=ak;obtain⟨c,el,fr,v0,C,_,_,D⟩:=A 0 x0 (by rw[hl];rfl) 0 y0 al
      have D:=D rfl rfl;obtain⟨b,o,sp⟩:=a;simp only at D C;subst D;have hI:snap w b=some (.cells c):=by unfold snap;rw[C]
      have S:(rows z).length=len:=by rw[gN,B]
      rw[<-S];refine .fsl _ _ b o cap c hI (by rw[S];exact X.2.1) (λr hr=>?_) (λr hr y hy=>?_) ?_ (λi j r y v hr hy hv=>?_)
      .obtain⟨x,_,rfl⟩:=List.mem_map.1 hr;exact gx x
      .obtain⟨x,_,rfl⟩:=List.mem_map.1 hr;exact List.all_eq_true.1 (p_ x) y hy
      .
       obtain⟨xl,ad⟩:∃x,z[len-1]? = some x:=⟨_,ζd (by omega)⟩
       obtain⟨yl,am⟩:∃y,(cells xl)[bE.size α-1]? = some y:=⟨_,ζd (by rw[gx];omega)⟩
       obtain⟨c2,_,_,v2,k1,k2,_,_⟩:=A (len-1) xl ad (bE.size α-1) yl am;simp only at k1 k2;rw[C]at k1;cases k1;have:=(Array.getElem?_eq_some_iff.1 k2).1;rw[S];have e:len*bE.size α=(len-1)*bE.size α+bE.size α:=by
        obtain⟨m,rfl⟩:∃m,len=m+1:=⟨len-1,by omega⟩
        simp[Nat.add_mul]
       omega
      .simp only[rows,List.getElem?_map,ζf]at hr;obtain⟨x,an,rfl⟩:=hr;obtain⟨c2,_,_,v2,k1,k2,k3,_⟩:=A i x an j y hy;simp only at k1 k2;rw[C]at k1;cases k1;rw[hv]at k2;cases k2;exact k3
    .simp at h
 shape h:=by simp only[show bE.agg (Sl α)=false from rfl];exact qy hu (by simp) (by simp) h
theorem fu.seg {I:b_} {acc xs:List V} {cs:List Value} {o n:Nat} (h:fu I acc (cs.take o)) (k:fu I xs ((cs.drop o).take n)):fu I (acc++xs) (cs.take (o+n)):=by
 rw[List.take_add];exact h.append k
theorem fu.fin {I:b_} {xs:List V} {cs:List Value} {n:Nat} (h:fu I xs (cs.take n)) (B:cs.length=n):fu I xs cs:=by
 rw[List.take_of_length_le (by omega)]at h;exact h
theorem Reads.st {t:TypeId} {fs:Array Field} {α:Type} [bE α] [ct α] (hu:P.underlying t=some (.struct fs)) (hc:P.cellsOf t=bE.size α) (G:bE.agg α=true)
 (h:∀{H:Type} {enc:TypeId×Value->H} {w:World} {base:Nat} {D:Nat->Bool} {held:Bool} {B:Nat} {cs:List Value} {l:List (DataW H×List MemPlace)},cs.length=bE.size α ->
  (fs.toList.mapM λf=>DataW.trod enc P w base D held B f.type ((cs.drop f.offset).take (P.cellsOf f.type)))=some l->∃a:α,fu (snap w) (cells a) cs/\ct.ok a/\∀b:DataW H->Nat,vv b->ct.wt a<=((l.map (·.1)).map b).sum+1):Reads P t α where
 size:=hc
 rd {H enc w base D held B cs d C} hr:=by
  cases B with
  | zero=>simp[DataW.trod]at hr
  | succ B=>
   simp only[DataW.trod,hu]at hr;split at hr <;> first|(simp at hr;done)|skip
   all_goals (first|(rename_i q;cases q;done)|skip)
   rename_i z;obtain⟨l,h1,A⟩:=ζf.1 hr;cases A;obtain⟨a,k1,k2,k3⟩:=h (by rw[z,hc]) h1
   exact⟨a,k1,k2,λb u=>Nat.le_trans (k3 b u) (u.agg _)⟩
 shape hv:=by
  rw[if_pos G];unfold Value.okWide at hv;rw[hu]at hv;obtain⟨cs,h1,_⟩:=hv;exact⟨cs,h1⟩
theorem Reads.arg {t:TypeId} {α:Type} [bE α] [ct α] [Reads P t α] {H:Type} {D:TypeId×Value->H} {w:World} {base:Nat} {B:Nat->Bool} {held:Bool} {r:_root_.Go.Reach} {b:Nat} {v:Value} {d:DataW H} {ps:List MemPlace}
 (hv:Value.okWide P w r b t v) (h:DataW.Trod D P w base B held t v d ps):∃a:α,bM (snap w) (λ_=>none) (enc a) v/\ct.ok a/\∀b:DataW H->Nat,vv b->ct.wt a<=b d:=by
 obtain⟨G,h⟩:=h;obtain⟨a,⟨h1,u⟩,A,C⟩:=Reads.rd (P:=P) (t:=t) (α:=α) h;have q:=Reads.shape (P:=P) (t:=t) (α:=α) hv;refine⟨a,?_,A,C⟩
 cases z:bE.agg α with
 | true=>
  rw[z,if_pos rfl]at q;obtain⟨L,rfl⟩:=q;rw[xE z];refine .c _ _ (.agg _ _ (by simpa [Value.cells]using h1) (λj x y I J=>u j x y I (by simpa [Value.cells]using J)))
 | false=>
  rw[z]at q;simp only[Bool.false_eq_true,if_false]at q;rw[q]at u;rw[uu z]at u;exact .c _ _ (u 0 _ _ rfl rfl)
end
end Go.VE
namespace Go.VE
variable [bX]
open Go.ChangeShapes Go.WideShapes Go.ChangeAt Go.RowKit
structure Gg (w w':World):Prop where
 kept:w.keptBut w' (λ_=>False)
 fz:∀a:Addr,a.block<w.heap.size->w'.frozen? a=w.frozen? a
theorem EN {I I':b_} {μ':Mu} {H':bl} {w w':World} (s:Step I (λ_=>none) [] w I' μ' H' w'):Gg w w':=by
 have u:∀b,b<w.heap.size->w'.heap[b]? = w.heap[b]? := λb t=>s.frame b t (by rintro⟨id,p,ob,h,_⟩;simp at h)
 refine⟨⟨s.os,s.out.out,λi z=>?_⟩,λa t=>?_⟩
 .rw[u i z];split
  .rename_i h1 q;rw[h1]at q;cases q;exact⟨rfl,rfl,rfl,λ_ _=>rfl⟩
  .rename_i h1 q;rw[h1]at q;cases q;exact .inr ⟨rfl,rfl⟩
  .rfl
 .unfold World.frozen?;rw[u _ t]
theorem GG {P:Program} {call:dn} (hc:kG P call) {f:FuncId} {args:List V} {b:Bool} {H':bl} (h:call (.fn f) args []=some (.bool b,H')) {w:World} {vs:List Value}
 (B:uV (snap w)) (hv:cB (snap w) (λ_=>none) args vs):Calls P f vs.toArray w λe w'=>e=.returned (.bool b)/\Gg w w':=by
 intro z;have k:=((hc.fn f args [] _ H' h).2 (snap w) (λ_=>none) w vs (M9 B) hv)
 obtain⟨e,w',fr,⟨u,I',μ',rfl,hu,_,A⟩,q,h1,C⟩:=k.2 z (by simp[Fence.room,fr])
 refine⟨_,w',fr,⟨?_,EN A⟩,q.comes,h1,C⟩
 cases hu with
 | c _ _ t=>cases t;rfl
variable {P:Program} {H:Type} {enc:TypeId×Value->H}
theorem EJ {B:List TypeId} {vs:List Value} {ds:List (DataW H)} {ps:List MemPlace} {w w':World} (hg:Gg w w') (h:DataW.TrodAll enc P w 0 (λ_=>true) true B vs ds ps):DataW.TrodAll enc P w' 0 (λ_=>true) true B vs ds ps:=by
 have z:∀p:MemPlace,p.block<w.heap.size->w.sameAt w' p:=by
  intro p A;have k:=hg.kept.2.2 p.block A
  cases p with
  | cell b off=>
   simp only[World.sameAt,World.cell?];simp only[MemPlace.block]at k A;split at k
   .rename_i c t fr c' D C h1 u;rw[h1,u];simp only;have:=k.2.2.2 off (λx=>x)
    simpa using this
   .rename_i h1 u;rw[h1,u]
   .rw[k]
  | map b=>
   simp only[World.sameAt];simp only[MemPlace.block]at k A;split at k
   .rename_i c t fr c' D C h1 u;obtain⟨rfl,rfl,L,G⟩:=k;rw[h1,u];have:c'=c:=Array.ext_getElem? λi=>G i (λx=>x)
    rw[this]
   .rename_i h1 u;rcases k with k|⟨rfl,rfl⟩
    .exact k.elim
    .rw[h1,u]
   .exact k
 induction B generalizing vs ds ps with
 | nil=>cases vs <;> cases ds <;> simp_all [DataW.TrodAll]
 | cons t B I=>
  cases vs with
  | nil=>simp[DataW.TrodAll]at h
  | cons v vs=>
   cases ds with
   | nil=>simp[DataW.TrodAll]at h
   | cons d ds=>
    obtain⟨p,q,⟨n,h1⟩,u,rfl⟩:=h;exact⟨p,q,⟨n,DataW.trod_carry n _ _ _ h1 λx J=>z x (DataW.trod_lt n _ _ _ h1 x J)⟩,I u,rfl⟩
theorem LH {T:TypeId->Prop} (K:Kids P T) (hz:∀t e,T t->P.underlying t=some (.slice e)->0<P.cellsOf e) {f:Func} {s:ChangeSpec} {apart fresh handsOn again:Bool} {W G:World} {args:Array Value} {ds gs:List (DataW H)} {before:List MemPlace} {tb:TypeId}
 (hT:∀t∈f.params.toList,T t) (B:s.vars=[]) (D:s.fn H (ds++gs)={ results:=[.lit (.bool true)],args:=ds }) (J:f.resultTypes=#[tb]) (U:P.underlying tb=some .bool)
 (Y:DataW.Whole enc P f.params.toList s.vars apart W args.toList ds gs before) (hg:Gg W G):s.post enc P f apart fresh handsOn again W args (.bool true) G:=by
 have z:=Y;obtain⟨p,q,X,Q,rfl,I,L⟩:=Y;rw[B]at Q;obtain⟨rfl,rfl⟩:=trodVars_none Q;have hr:∀(b:Nat) (w:Nat->Bool) (Z:Bool),DataW.TrodAll enc P G b w Z f.resultTypes.toList ((Value.bool true).resultList f.resultTypes.size) (s.fn H (ds++[])).results []:=λ_ _ _=>by
  rw[J,D];exact trodAll_cons_mk (shut_bool U _) trodAll_mk0
 have S:∀w:Nat->Bool,(∀x∈p++[],w x.block=true)->DataW.TrodAll enc P G 0 w true f.params.toList args.toList (s.fn H (ds++[])).args p:=λw O=>by
  rw[D];exact DataW.TrodAll.respare K hz hT (EJ hg X) (λx u=>O x (List.mem_append_left _ u))
 have hv:∀w:Nat->Bool,DataW.TrodVars enc P G w s.vars (s.fn H (ds++[])).vars []:=λw=>by rw[D,B];rfl
 have A:=λx u=>z.lt x u
 refine⟨ds,[],p++[],[],p,[],z,hr _ _ _,S _ λx u=>by simpa using A x u,hv _,World.keptBut_mono (λx u=>u.elim) hg.kept,λ_=>⟨ok_one J rfl (okWide_bool_mk U _),?_⟩⟩
 refine⟨_,_,[]++p++[],⟨[]++p,[],trodAll_append (S _ λ_ _=>rfl) (hr _ _ _),hv _,rfl,λb off u=>?_,λh=>by simpa using L h⟩,λx u _=>by simpa using u⟩
 have C:MemPlace.cell b off∈p++[]:=by simpa using u
 rw[hg.fz _ (A _ C)];exact I b off C
end Go.VE
namespace Go.VE
variable [bX]
instance:ct U8 where
 wt _:=1
 ok n:=0<=n.v/\n.v<=255
theorem Reads.u8 {P:Program} {t:TypeId} (hu:P.underlying t=some (.int .u8)) (hc:P.cellsOf t=1):Reads P t U8 where
 size:=hc
 rd {H enc w base z held u C d D} h:=by
  cases u with
  | zero=>simp[DataW.trod]at h
  | succ u=>
   simp only[DataW.trod,hu]at h;split at h <;> first|(simp at h;done)|skip
   .rename_i q;cases q
   .rename_i k G n q;simp only[ζa,TypeDesc.int.injEq]at q;split at h
    .rename_i hk;obtain⟨rfl,A⟩:=hk;subst q;cases h;exact⟨⟨n⟩,fu.one (.int _ n),show _/\_ by simpa [Lit.wf,IntKind.min,IntKind.max,IntKind.signed,IntKind.bits]using A,λb B=>B.lit _⟩
    .simp at h
   all_goals (rename_i q;cases q)
 shape h:=by simp only[show bE.agg U8=false from rfl];exact qy hu (by simp) (by simp) h
end Go.VE
namespace Go.VE
variable [bX]
theorem Kl {m:Tb bP} {n:Nat} {rs:List SV} {b:Bool} (h:cG m n rs=some [.bool b]):rs=[.v (.bool b)]:=by
 cases rs with
 | nil=>cases n <;> simp[cG]at h
 | cons x r=>
  have h1:shut m n x=some (.bool b)/\cG m n r=some []:=by
   unfold cG at h;split at h
   .rename_i y s h1 t;simp only[ζa,List.cons.injEq]at h;obtain⟨rfl,rfl⟩:=h;exact⟨h1,t⟩
   .cases h
  have t:r=[]:=by
   cases r with
   | nil=>rfl
   | cons y r=>
    have:=h1.2;unfold cG at this;split at this <;> simp at this
  subst t;have q:=h1.1
  cases x with
  | v y=>unfold shut at q;simp only[ζa]at q;rw[q]
  | own d=>unfold shut at q;split at q <;> simp only[ζa,reduceCtorEq]at q;rename_i k es w _;cases k <;> simp[nF]at q
  | ptr d o=>
   cases n with
   | zero=>simp[shut]at q
   | succ n=>
    unfold shut at q;split at q <;> try cases q
    split at q <;> try cases q
    split at q <;> cases q
  | mp d=>unfold shut at q;split at q <;> cases q
  | clo f a b=>
   cases n with
   | zero=>simp[shut]at q
   | succ n=>unfold shut at q;split at q <;> cases q
  | tup l=>
   cases n with
   | zero=>simp[shut]at q
   | succ n=>unfold shut at q;obtain⟨_,_,u⟩:=ζf.1 q;cases u
  | _=>cases n <;> simp[shut]at q
theorem MQ {S:Sys} {T:rU} (B:wF S T) (D:∀f a b xs,S.items f a b=some xs->iA S f a b xs) {f:FuncId} {xs:List V} (hg:V.cE xs=true) (h:mX (eO S T) f xs=some [.bool true]) :
 ∃n H',run S.E n (.fn f) xs []=some (.bool true,H'):=by
 unfold mX at h;obtain⟨⟨rs,m⟩,h1,q⟩:=ζg.1 h;have:=Kl q;simp only at this;subst this;exact QY B D hg h1 rfl
theorem JP {S:Sys} {T:rU} {P:Program} (B:wF S T) (D:∀f a b xs,S.items f a b=some xs->iA S f a b xs) (hc:∀n,kG P (run S.E n)) {f:FuncId} {xs:List V} (hg:V.cE xs=true) (h:mX (eO S T) f xs=some [.bool true])
 {w:World} {args:Array Value} (G:uV (snap w)) (hv:cB (snap w) (λ_=>none) xs args.toList):Calls P f args w λe w'=>e=.returned (.bool true)/\Gg w w':=by
 obtain⟨n,H',hr⟩:=MQ B D hg h;have:=GG (hc n) hr G hv;simpa using this
theorem Reads.O4 {P:Program} {t:TypeId} {α:Type} [bE α] [ct α] [Reads P t α] {H:Type} {D:TypeId×Value->H} {w:World} {base b:Nat} {B:Nat->Bool} {held:Bool} {v:Value} {d:DataW H} {ps:List MemPlace} {params:Array TypeId} {args:Array Value}
 (G:∀(j:Nat) t v,params[j]? = some t->args[j]? = some v->Value.okWide P w .any b t v) (j:Nat) (h1:params[j]? = some t) (J:args[j]? = some v) (h:DataW.Trod D P w base B held t v d ps) :
 ∃a:α,bM (snap w) (λ_=>none) (enc a) v/\ct.ok a/\∀b:DataW H->Nat,vv b->ct.wt a<=b d:=Reads.arg (G j t v h1 J) h
end Go.VE
namespace Go.VE
variable [bX]
theorem bY (n:Nat) (h:n<9223372036854775807):IntKind.wrap .i64 ((n:Int)+1)=((n+1:Nat):Int):=by
 simp[IntKind.wrap,IntKind.bits,IntKind.signed];omega
theorem qQ (n:Int) (h1:-9223372036854775808<=n) (B:n<=9223372036854775807):IntKind.wrap .i64 n=n:=by
 simp[IntKind.wrap,IntKind.bits,IntKind.signed];omega
section
variable {α β:Type} {P:β->Prop}
theorem sJ (s:Sl α) (i:Nat):idx s (i:Int)=s.l[i]? := by
 unfold idx;rw[if_pos (by omega)];rfl
theorem bB {s:Sl α} {i:Nat} (h:i<s.l.length):idx s (i:Int)=some s.l[i]:=by rw[sJ,ζd h]
theorem TO {s:Sl α} {i:Int} (h0:0<=i):idx s i=s.l[i.toNat]? := by unfold idx;rw[if_pos h0]
theorem pH (s:Sl α) (i:Nat) (h:i<=s.l.length):∃x,fQ s none (some (i:Int))=some x/\x.l=s.l.take i:=by
 unfold fQ dN;simp only[Option.getD_none,Option.getD_some];rw[if_pos (by omega)]
 cases s <;> simp[Sl.l]at h ⊢ <;> simp[h]
theorem bF {γ:Type} {a b:γ}:bg true a b=a:=rfl
theorem bK {γ:Type} {a b:γ}:bg false a b=b:=rfl
theorem mA (a b:Bool):bg a (some b) (some false)=some (a&&b):=by cases a <;> rfl
theorem jB (a b:Bool):bg a (some true) (some b)=some (a||b):=by cases a <;> rfl
theorem tj (a:Bool) (x y:β):bg a (some x) (some y)=some (if a then x else y):=by cases a <;> rfl
end
def place {α:Type} (f:α->Bool) (l:List α):Int:=match l.findIdx? f with
 | some i=>i
 | none=>-1
theorem ze {α:Type} {f:α->Bool} {l:List α} {i:Nat} (h:∀j,j<i->∀x,l[j]? = some x->f x=false) (B:l.length<=i):l.findIdx? f=none:=by
 rw[List.findIdx?_eq_none_iff];intro x t;obtain⟨j,q⟩:=List.getElem?_of_mem t;have:j<l.length:=(ζe.1 q).1;exact h j (by omega) x q
theorem Hy {α:Type} {f:α->Bool} {l:List α} {i:Nat} {x:α} (h:∀j,j<i->∀x,l[j]? = some x->f x=false) (B:l[i]? = some x) (D:f x=true):l.findIdx? f=some i:=by
 rw[List.findIdx?_eq_some_iff_getElem];obtain⟨q,rfl⟩:=ζe.1 B;exact⟨q,D,λj t=>by rw[h j t _ (ζd (by omega))];simp⟩
theorem nM {α:Type} {step:Int->Option (Fw Int Unit Int)} {s:Sl α} {p:α->Option Bool} {f:α->Bool} (G:∀x∈s.l,p x=some (f x)) (O:s.l.length<9223372036854775807)
 (J:∀i,step i=bg (decide (i<len s)) ((idx s i).bind λB=>(p B).bind λD=>bg D (some (.r i)) (some (.n (IntKind.wrap .i64 (i+1))))) (some (.x ()))) :
 (bG step 0).bind (Fw.elim (λ_=>some (-1)) (λe=>some e))=some (place f s.l):=by
 refine Wp.eq (eP (λi:Int=>∃n:Nat,i=n/\n<=s.l.length/\∀j,j<n->∀x,s.l[j]? = some x->f x=false) (λi:Int=>s.l.length-i.toNat) ⟨0,rfl,Nat.zero_le _,λj A=>absurd A (by omega)⟩ ?_)
 rintro i ⟨n,rfl,C,t⟩;rw[J,b9];refine⟨λh=>?_,λh=>?_⟩
 .have q:n<s.l.length:=by simpa [len]using h
  rw[bB q,ζb,G _ (List.getElem_mem q),ζb,b9];refine⟨λu=>?_,λu=>?_⟩
  .rw[a_];show Wp (some (n:Int)) _;rw[a_];unfold place;rw[Hy t (ζd q) u]
  .rw[a_];refine⟨⟨n+1,bY n (by omega),by omega,λj A x w=>?_⟩,?_⟩
   .by_cases e:j=n
    .subst e;rw[ζd q]at w;cases w;exact u
    .exact t j (by omega) x w
   .rw[bY n (by omega)];simp;omega
 .have z:s.l.length<=n:=by simpa [len]using h
  rw[a_];show Wp (some (-1:Int)) _;rw[a_];unfold place;rw[ze t z]
theorem o4 {α:Type} (f:α->Bool) (l:List α):decide (place f l>=0)=l.any f:=by
 unfold place
 cases h:l.findIdx? f with
 | none=>
  rw[List.findIdx?_eq_none_iff]at h;have:l.any f=false:=by rw[List.any_eq_false];intro x q;simp[h x q]
  rw[this];rfl
 | some i=>
  obtain⟨t,u,_⟩:=List.findIdx?_eq_some_iff_getElem.1 h;have:l.any f=true:=List.any_eq_true.2 ⟨_,List.getElem_mem t,u⟩;rw[this];simp
theorem OI {α σ ε ρ:Type} {step:α->σ->Option (Fw σ ε ρ)} {l:List α} (I:Nat->σ->Prop) (D:ε->Prop) (G:ρ->Prop) {s:σ} (h0:I 0 s)
 (h:∀i a s,l[i]? = some a->I i s->Wp (step a s) λw=>match w with|.n B=>I (i+1) B|.x e=>D e|.r b=>G b) :
 Wp (nY step l s) λw=>match w with|.n B=>I l.length B|.x e=>D e|.r b=>G b:=by
 have key:∀(r:List α) (i:Nat) (s:σ),l.drop i=r->i<=l.length->I i s->Wp (nY step r s) λw=>match w with|.n B=>I l.length B|.x e=>D e|.r b=>G b:=by
  intro r
  induction r with
  | nil=>
   intro i s q A u;have:i=l.length:=by have:=List.drop_eq_nil_iff.1 q;omega
   subst this;exact⟨_,rfl,u⟩
  | cons a r C=>
   intro i s q A u;have t:i<l.length:=by
    apply Classical.byContradiction;intro L;rw[List.drop_eq_nil_of_le (by omega)]at q;cases q
   have H:=List.drop_eq_getElem_cons t;rw[H]at q;simp only[List.cons.injEq]at q;obtain⟨w,J,z⟩:=h i a s (by rw[ζd t,q.1]) u
   simp only[nY,J,ζb]
   cases w with
   | n B=>exact C (i+1) B q.2 (by omega) z
   | x e=>exact⟨_,rfl,z⟩
   | r b=>exact⟨_,rfl,z⟩
 exact key l 0 s rfl (Nat.zero_le _) h0
theorem Ad {α σ ε ρ γ:Type} {step:α->σ->Option (Fw σ ε ρ)} {l:List α} {fn:σ->Option γ} {B:ε->Option γ} {fr:ρ->Option γ} {P:γ->Prop} (I:Nat->σ->Prop) {s:σ} (h0:I 0 s)
 (h:∀i a s,l[i]? = some a->I i s->Wp (step a s) λw=>match w with|.n D=>I (i+1) D|.x e=>Wp (B e) P|.r b=>Wp (fr b) P)
 (G:∀s,I l.length s->Wp (fn s) P):Wp ((nY step l s).bind (Fw.vZ fn B fr)) P:=by
 rw[eW];refine(OI I _ _ h0 h).mono ?_;intro w q
 cases w with
 | n s=>exact G s q
 | x e=>exact q
 | r b=>exact q
end Go.VE
