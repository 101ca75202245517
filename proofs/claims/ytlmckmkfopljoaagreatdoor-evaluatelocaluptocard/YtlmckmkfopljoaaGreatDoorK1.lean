/-
 Certificates; functions by hand; readings; plain laws.
-/
import Derived.JoinedCond
import Derived.ReadAgain
import Derived.WalkKit
import Derived.ProofKit
import Derived.OpenShut
import Derived.ChangeSame
import Derived.RowKit3
import Derived.Lib.LaidTab
import Derived.Test.YtlmckmkfopljoaaGreatDoorV2
import Derived.Test.YtlmckmkfopljoaaGreatDoorN2
import Derived.Test.YtlmckmkfopljoaaGreatDoorS1
set_option linter.all false
namespace Go.VE
variable [bN]
abbrev Cf:=Fo×List Fm×St
section
variable (S:Sys) (c:bS) {β:Type} (Q:Out×St->Option β)
noncomputable abbrev bX (cf:Cf):Option β:=rn S c Q cf.1 cf.2.1 cf.2.2
noncomputable def ij (n:Nat) (cf:Cf):Cf:=(gE S c n cf.1 cf.2.1 cf.2.2).getD cf
structure D8 where
 dr:Bool
 fr:List Nat
 d:Option Nat
 gd:Option (Nat×Bool)
 now:Bool
 k:K
 az:List Arg
 dd:List Nat
 l:List RO
 fs:List Fm
 st:St
noncomputable def fN (n:Nat) (cf:Cf):Option D8:=match gE S c n cf.1 cf.2.1 cf.2.2 with
 | some (.ops dr fr (⟨d,gd,now,k,az,dd,[]⟩::l),fs,st)=>match wanted st.g gd with
  | some true=>some ⟨dr,fr,d,gd,now,k,az,dd,l,fs,st⟩
  | _=>none
 | _=>none
noncomputable def nx (n:Nat) (cf:Cf) (φ:D8->St):Cf:=match fN S c n cf with
 | some p=>(.ops p.dr (if p.dr then(match p.k with|.p _|.r _=>p.fr|_=>match p.d with|some d=>d::p.fr|none=>p.fr)else p.fr) p.l,p.fs,og p.dd (φ p))
 | none=>cf
end
def tK (s:Nat) (b:Bool) (cf:Cf):Cf:=(cf.1,cf.2.1,{ cf.2.2 with g:=bH cf.2.2.g s (.v (.bool b)) })
def jmp (k:Nat) (fr:List Nat) (cf:Cf) (st:St):Cf:=match cf with
 | (.ops dr _ l,fs,_)=>(.ops dr fr (l.drop k),fs,st)
 | _=>(.rt,[],st)
def oF:RC->List Nat->List Fm->St->Cf
 | c,[],fs,st=>(.rc c,fs,st)
 | .seq a b,i::p,fs,st=>if i=0 then oF a p (.seq b::fs) st else oF b p fs st
 | .cond _ a b,i::p,fs,st=>if i=0 then oF a p fs st else oF b p fs st
 | .block id c,_::p,fs,st=>oF c p (.blk id::fs) st
 | .gh _ c,_::p,fs,st=>oF c p fs st
 | .hg c g,_::p,fs,st=>oF c p (.gst g::fs) st
 | .loop c,_::p,_,st=>oF c p [] st
 | .each _ _ _ b,_::p,_,st=>oF b p [] st
 | c,_,fs,st=>(.rc c,fs,st)
section
variable {S:Sys} {c:bS} {β γ δ α:Type} {Q:Out×St->Option β} {e:γ->Option β} {cf:Cf}
theorem jh {n:Nat} {p:D8} (h:fN S c n cf=some p):gE S c n cf.1 cf.2.1 cf.2.2=some (.ops p.dr p.fr (⟨p.d,p.gd,p.now,p.k,p.az,p.dd,[]⟩::p.l),p.fs,p.st)/\wanted p.st.g p.gd=some true:=by
 unfold fN at h
 grind
theorem pG {n:Nat} {m:Option δ} {φ:δ->D8->St} {f:δ->Option γ} {p:D8} (hp:fN S c n cf=some p) (B:Le (m.bind λx=>some (φ x p)) (eZ S c p.dr p.fr ⟨p.d,none,p.now,p.k,p.az,[],[]⟩ p.st))
 (h:∀x,m=some x->Le ((f x).bind e) (bX S c Q (nx S c n cf (φ x)))):Le ((m.bind f).bind e) (bX S c Q cf):=by
 obtain⟨h1,u⟩:=jh hp;refine CB h1 rfl u B λx w=>?_
 have:=h x w;simp[nx,hp]at this;omega
theorem zz {n:Nat} {m:Option β} {φ:D8->St} {p:D8} (hp:fN S c n cf=some p) (B:eZ S c p.dr p.fr ⟨p.d,none,p.now,p.k,p.az,[],[]⟩ p.st=some (φ p))
 (h:Le m (bX S c Q (nx S c n cf φ))):Le m (bX S c Q cf):=by
 obtain⟨h1,u⟩:=jh hp;refine p_ h1 rfl u B ?_;simp[nx,hp]at h;omega
theorem eE {α β:Type} {o:Option α} {f:α->β} {b:β} (h:o.map f=some b):∃a,o=some a/\f a=b:=ζf.1 h
theorem nq (n:Nat) {m:Option β} {B:Cf} (h:Le m (bX S c Q B)) (D:gE S c n cf.1 cf.2.1 cf.2.2=some B:=by kernel_rfl):Le m (bX S c Q cf):=zo D h
theorem bB (n s:Nat) {t:Bool} {x y:Option γ} (B:Le (x.bind e) (bX S c Q (tK s true (ij S c n cf)))) (D:Le (y.bind e) (bX S c Q (tK s false (ij S c n cf))))
 (G:(gE S c n cf.1 cf.2.1 cf.2.2).map (λp=>a_ p.2.2.g s)=some (some (.v (.bool t))):=by kernel_rfl):Le ((bp t x y).bind e) (bX S c Q cf):=by
 obtain⟨p,u,hv⟩:=eE G;have hg:ij S c n cf=p:=by unfold ij;grind
 rw[hg]at B D;refine zo u ?_;cases t
 .have:tK s false p=p:=by unfold tK;rw[ot hv]
  rw[this]at D;exact D
 .have:tK s true p=p:=by unfold tK;rw[ot hv]
  rw[this]at B;exact B
theorem dK (n s:Nat) {t:Bool} {x y:Option γ} (B:Le (x.bind e) (bX S c Q (tK s false (ij S c n cf)))) (D:Le (y.bind e) (bX S c Q (tK s true (ij S c n cf))))
 (G:(gE S c n cf.1 cf.2.1 cf.2.2).map (λp=>a_ p.2.2.g s)=some (some (.v (.bool (!t)))):=by kernel_rfl):Le ((bp t x y).bind e) (bX S c Q cf):=by
 obtain⟨p,u,hv⟩:=eE G;have hg:ij S c n cf=p:=by unfold ij;grind
 rw[hg]at B D;refine zo u ?_;cases t
 .have:tK s true p=p:=by unfold tK;rw[show V.bool true=V.bool (!false)from rfl,ot hv]
  rw[this]at D;exact D
 .have:tK s false p=p:=by unfold tK;rw[show V.bool false=V.bool (!true)from rfl,ot hv]
  rw[this]at B;exact B
theorem Km (n k:Nat) (fr:List Nat) (st:δ->St) {m:Option δ} {f:δ->Option γ} (B:Le (m.bind λr=>bX S c Q (jmp k fr (ij S c n cf) (st r))) (bX S c Q cf))
 (h1:∀r,Le ((f r).bind e) (bX S c Q (jmp k fr (ij S c n cf) (st r)))):Le ((m.bind f).bind e) (bX S c Q cf):=Po _ B h1
theorem bt (n:Nat) {r:δ} {k:δ->Cf} (B:gE S c n cf.1 cf.2.1 cf.2.2=some (k r):=by kernel_rfl):Le ((some r).bind λr=>bX S c Q (k r)) (bX S c Q cf):=Vh  B rfl
theorem aZ {r:γ} {L:Option β} (h:L=e r:=by kernel_rfl):Le ((some r).bind e) L:=Le.of_eq h
theorem wW (n:Nat) {b:RC} {m:Option (Out×Tb bu)} (h:Le m (bX S c vj (.rc b,[],(ij S c n cf).2.2))) (B:gE S c n cf.1 cf.2.1 cf.2.2=some (.nx,[],(ij S c n cf).2.2):=by kernel_rfl):Le m (bX S c (xm S c b) cf):=SM B h
theorem Vk (n:Nat) {o:Option α} (A:Option α->St) {f:α->Option γ} (B:∀x,o=some x->Le ((f x).bind e) (bX S c Q ((ij S c n cf).1,(ij S c n cf).2.1,A (some x))))
 (D:gE S c n cf.1 cf.2.1 cf.2.2=some ((ij S c n cf).1,(ij S c n cf).2.1,A o):=by kernel_rfl):Le ((o.bind f).bind e) (bX S c Q cf):=TX D B
theorem fK.Vb {S:Sys} {T:pF} [bq δ] {f:FuncId} {A:α->List V} {p:α->Option δ} (B:T f=none) (hk:S.E.keep f=false) (D:∀z r,p z=some r->S.wL f (A z)=some (enc r))
 : fK S (cU S T) f A (λr=>[enc r]) p false where
 k:=hk
 h z:=by
  intro y u;obtain⟨r,h1,w⟩:=ζg.1 u;cases w;have h:=Ed B hk (D z r h1);unfold iG;rw[h];exact tu 8 [enc r]
 s h:=by cases h
def Jr:K->Option BinOp
 | .p (.bin _ _ o)=>some o
 | _=>none
theorem Qq {k:K} {o:BinOp} (h:Jr k=some o):∃t u,k=.p (.bin t u o):=by
 cases k with
 | p p=>cases p <;> simp[Jr]at h;simp_all
 | _=>simp[Jr]at h
def M9:K->Option BinOp
 | .p (.bin (some .slice) _ o)=>some o
 | _=>none
theorem Qb {k:K} {o:BinOp} (h:M9 k=some o):∃u,k=.p (.bin (some .slice) u o):=by
 unfold M9 at h
 grind
def Tv:K->Option (Nat×Nat×List Nat)
 | .a (.buildSl sz ln _ ix)=>some (sz,ln,ix)
 | _=>none
theorem Sx {k:K} {r:Nat×Nat×List Nat} (h:Tv k=some r):∃z,k=.a (.buildSl r.1 r.2.1 z r.2.2):=by
 unfold Tv at h
 grind
def SB:K->Option (List V)
 | .a (.alloc _ zero)=>some zero
 | _=>none
theorem S5 {k:K} {z:List V} (h:SB k=some z):∃n,k=.a (.alloc n z):=by
 unfold SB at h
 grind
section
variable [bq α]
theorem TJ (k:IntKind) (n:Nat) {s:Sl α} {i:Int} {f:α->Option γ} (h:∀x,idx s i=some x->Le ((f x).bind e) (bX S c Q (nx S c n cf λp=>cT p.st p.d (cp x))))
 (B:(fN S c n cf).map (λp=>(p.k,bP S.N p.st.g p.az))=some (.p (.idxS (bq.size α)),some [.v (bQ s),.v (.int k i)]):=by kernel_rfl):Le (((idx s i).bind f).bind e) (bX S c Q cf):=by
 obtain⟨p,u,hv⟩:=eE B;simp  at hv;refine pG u ?_ h;rw[hv.1];exact Le.of_eq (PI hv.2 rfl)
theorem cg (n:Nat) {s:Sl α} {i:Int} {f:α->Option γ} (h:∀x,idx s i=some x->Le ((f x).bind e) (bX S c Q (nx S c n cf λp=>cT p.st p.d (cp x))))
 (B:(fN S c n cf).map (λp=>(p.k,bP S.N p.st.g p.az))=some (.p (.idxS (bq.size α)),some [.v (bQ s),.v (.int .i64 i)]):=by kernel_rfl):Le (((idx s i).bind f).bind e) (bX S c Q cf):=TJ .i64 n h B
theorem CI (k:IntKind) (n u:Nat) {s:Sl α} {i:Int} {f:Nat->Option γ} (h:∀x,s.rM i=some x->Le ((f x).bind e) (bX S c Q (nx S c n cf λp=>cT p.st p.d (.el u x 0))))
 (B:(fN S c n cf).map (λp=>(p.k,bP S.N p.st.g p.az,a_ p.st.m u))=some (.p (.idxS (bq.size α)),some [.own u,.v (.int k i)],some (cA s)):=by kernel_rfl):Le (((s.rM i).bind f).bind e) (bX S c Q cf):=by
 obtain⟨p,w,hv⟩:=eE B;simp  at hv;refine pG w ?_ h;rw[hv.1];exact Le.of_eq (UA hv.2.1 hv.2.2 rfl)
theorem Sg (n u o sz:Nat) (a:Bool) (v:α->V) {s:Sl α} {i:Nat} {f:α->Option γ} (h:∀x,s.get i=some x->Le ((f x).bind e) (bX S c Q (nx S c n cf λp=>cT p.st p.d (.v (v x)))))
 (B:(fN S c n cf).map (λp=>(p.k,bP S.N p.st.g p.az,a_ p.st.m u,(!p.dr||p.now||eO p.fr [.el u i o])))=some (.r (.load sz a),some [.el u i o],some (cA s),true):=by kernel_rfl) (hv:∀x:α,(cut (cells x) o sz).bind (mk a)=some (v x):=by intro _;rfl):Le (((s.get i).bind f).bind e) (bX S c Q cf):=by
 obtain⟨p,z,w⟩:=eE B;simp only[ζc]at w;refine pG z ?_ h;rw[w.1];exact Le.of_eq (Tc w.2.1 w.2.2.2 w.2.2.1 hv)
theorem Nw (n u:Nat) (x:V) {s:Sl α} {i:Nat} {a:α} {f:Sl α->Option γ} (h:∀B,s.put i a=some B->Le ((f B).bind e) (bX S c Q (nx S c n cf λp=>cT { p.st with m:=bH p.st.m u (cA B) } p.d (.v .undef))))
 (D:(fN S c n cf).map (λp=>(p.k,bP S.N p.st.g p.az,a_ p.st.m u,(!p.dr||p.now),x.cells))=some (.l (.store (bq.size α)),some [.el u i 0,.v x],some (cA s),true,cells a):=by kernel_rfl):Le (((s.put i a).bind f).bind e) (bX S c Q cf):=by
 obtain⟨p,w,hv⟩:=eE D;simp only[ζc]at hv;refine pG w ?_ h;rw[hv.1];exact Le.of_eq (Ic hv.2.1 hv.2.2.2.1 hv.2.2.1 hv.2.2.2.2 rfl)
theorem SF (n u:Nat) {i:Int} {z:α} {f:Sl α->Option γ} (h:∀B,uU i z=some B->Le ((f B).bind e) (bX S c Q (nx S c n cf λp=>{ p.st with g:=bH p.st.g u (.own u),m:=bH p.st.m u (cA B) })))
 (D:(fN S c n cf).map (λp=>(p.d,p.k,bP S.N p.st.g p.az,p.st.new u))=some (some u,.a (.makeSl (bq.size α) (cells z)),some [.v (.int .i64 i),.v (.int .i64 i)],true):=by kernel_rfl):Le (((uU i z).bind f).bind e) (bX S c Q cf):=by
 obtain⟨p,w,hv⟩:=eE D;simp  at hv;refine pG w ?_ h;rw[hv.1,hv.2.1];exact Le.of_eq (Sk hv.2.2.1 rfl rfl hv.2.2.2)
theorem qq (n o w u:Nat) {s:Sl α} {x:α} {f:Sl α->Option γ} (h:∀B,fZ s x=some B->Le ((f B).bind e) (bX S c Q (nx S c n cf λp=>{ p.st with g:=bH p.st.g u (.own u),m:=bH (dO o p.st.m) u (cA B) })))
 (D:(fN S c n cf).map (λp=>(p.d,p.k,bP S.N p.st.g p.az,(!p.dr||p.now),a_ p.st.m o,a_ p.st.m w,St.new { p.st with m:=dO o p.st.m } u))=some (some u,.l (.append (bq.size α)),some [.own o,.own w],true,some (cA s),some (cA (.row [x])),true):=by kernel_rfl):Le (((fZ s x).bind f).bind e) (bX S c Q cf):=by
 obtain⟨p,z,hv⟩:=eE D;simp only[ζc]at hv;refine pG z ?_ h;rw[hv.1,hv.2.1];exact Le.of_eq (Ul hv.2.2.1 hv.2.2.2.1 hv.2.2.2.2.1 hv.2.2.2.2.2.1 rfl hv.2.2.2.2.2.2)
theorem Uc (n w u:Nat) (v:V) (x:α) {m:Option β} (h:Le m (bX S c Q (nx S c n cf λp=>{ p.st with g:=bH p.st.g u (.own u),m:=bH p.st.m u (cA (.row [x])) }))) (hv:v=.bE\/v=.dm:=by first|exact .inl rfl|exact .inr rfl)
 (B:(fN S c n cf).map (λp=>(p.d,p.k,bP S.N p.st.g p.az,(!p.dr||p.now),a_ p.st.m w,p.st.new u))=some (some u,.l (.append (bq.size α)),some [.v v,.own w],true,some (cA (.row [x])),true):=by kernel_rfl):Le m (bX S c Q cf):=by
 obtain⟨p,A,z⟩:=eE B;simp only[ζc]at z;refine zz A ?_ h;rw[z.1,z.2.1];exact S_ hv z.2.2.1 z.2.2.2.1 z.2.2.2.2.1 rfl z.2.2.2.2.2
theorem cz (n:Nat) (s:Sl α) {m:Option β} (h:Le m (bX S c Q (nx S c n cf λp=>cT p.st p.d (.v (.int .i64 s.l.length)))))
 (B:(fN S c n cf).map (λp=>(p.k,bP S.N p.st.g p.az))=some (.p .lenSl,some [.v (bQ s)]):=by kernel_rfl):Le m (bX S c Q cf):=by
 obtain⟨p,u,hv⟩:=eE B;simp  at hv;refine zz u ?_ h;rw[hv.1];exact PZ hv.2
theorem JB (n u:Nat) (s:Sl α) {m:Option β} (h:Le m (bX S c Q (nx S c n cf λp=>cT p.st p.d (.v (.int .i64 s.l.length)))))
 (B:(fN S c n cf).map (λp=>(p.k,bP S.N p.st.g p.az,a_ p.st.m u))=some (.p .lenSl,some [.own u],some (cA s)):=by kernel_rfl):Le m (bX S c Q cf):=by
 obtain⟨p,w,hv⟩:=eE B;simp  at hv;refine zz w ?_ h;rw[hv.1];exact Sw hv.2.1 hv.2.2
theorem SX (n:Nat) {s:Sl α} {f:Bool->Option γ} (h:∀t,s.isNil=some t->Le ((f t).bind e) (bX S c Q (nx S c n cf λp=>cT p.st p.d (.v (.bool t)))))
 (B:(fN S c n cf).map (λp=>(M9 p.k,bP S.N p.st.g p.az))=some (some .eql,some [.v (bQ s),.v .bE]):=by kernel_rfl):Le ((s.isNil.bind f).bind e) (bX S c Q cf):=by
 obtain⟨p,w,hv⟩:=eE B;simp  at hv;obtain⟨u,hk⟩:=Qb hv.1;refine pG w ?_ h;rw[hk];exact Le.of_eq (QY hv.2)
theorem GY (n:Nat) (lo hi:Bool) (B:List V) {s:Sl α} {a b:Option Int} {f:Sl α->Option γ} (h:∀x,jm s a b=some x->Le ((f x).bind e) (bX S c Q (nx S c n cf λp=>cT p.st p.d (.v (bQ x)))))
 (D:(fN S c n cf).map (λp=>(p.k,bP S.N p.st.g p.az,k7 lo hi B))=some (.p (.slice (bq.size α) lo hi),some (.v (bQ s)::B.map .v),some (a,b)):=by kernel_rfl):Le (((jm s a b).bind f).bind e) (bX S c Q cf):=by
 obtain⟨p,u,hv⟩:=eE D;simp  at hv;obtain⟨h1,A⟩:=jh u;obtain⟨dr,fr,d,gd,now,k,az,dd,l,fs,st⟩:=p;obtain⟨rfl,C,G⟩:=hv;exact Va n dr fr (⟨d,gd,now,.p (.slice (bq.size α) lo hi),az,dd,[]⟩::l) fs st lo hi B  rfl (by grind) λw z=>by
  have:=h w z;simp only[nx,u]at this;omega
theorem Un (n:Nat) (lo hi:Bool) (u t:Nat) (B:List V) {s:Sl α} {a b:Option Int} {f:Sl α->Option γ} (h:∀x,nH s a b=some x->Le ((f x).bind e) (bX S c Q (nx S c n cf λp=>{ p.st with g:=bH p.st.g t (.own t),m:=bH (dO u p.st.m) t (cA x) })))
 (D:(fN S c n cf).map (λp=>(p.d,p.k,p.dr,bP S.N p.st.g p.az,k7 lo hi B,a_ p.st.m u,St.new { p.st with m:=dO u p.st.m } t))=some (some t,.p (.slice (bq.size α) lo hi),false,some (.own u::B.map .v),some (a,b),some (cA s),true):=by kernel_rfl):Le (((nH s a b).bind f).bind e) (bX S c Q cf):=by
 obtain⟨p,w,hv⟩:=eE D;simp  at hv;obtain⟨h1,G⟩:=jh w;obtain⟨dr,fr,d,gd,now,k,az,dd,l,fs,st⟩:=p;obtain⟨rfl,rfl,rfl,I,J,L,z⟩:=hv;exact T4 n fr (⟨some t,gd,now,.p (.slice (bq.size α) lo hi),az,dd,[]⟩::l) fs st lo hi u B  rfl z (by grind) λA C=>by
  have:=h A C;simp only[nx,w]at this;omega
theorem ck (n u:Nat) (x:α) {m:Option β} (h:Le m (bX S c Q (nx S c n cf λp=>{ p.st with g:=bH p.st.g u (.ptr u 0),m:=bH p.st.m u (bx x) })))
 (B:(fN S c n cf).map (λp=>(p.d,p.k,bP S.N p.st.g p.az,p.st.new u))=some (some u,.a .box,some [cv x],true):=by kernel_rfl):Le m (bX S c Q cf):=by
 obtain⟨p,w,hv⟩:=eE B;simp  at hv;refine zz w ?_ h;rw[hv.1,hv.2.1,BZ,hv.2.2.1];simp only[ζb,hv.2.2.2,if_true,oC,iS,sE]
def Pp (u o sz:Nat) (xs:List SV) (p:D8):St:=match a_ p.st.m u with
 | some (.box cs)=>cT { p.st with m:=bH p.st.m u (.box (cs.take o++xs++cs.drop (o+sz))) } p.d (.v .undef)
 | _=>p.st
theorem pP (n u o:Nat) (x:α) {m:Option β} (h:Le m (bX S c Q (nx S c n cf (Pp u o (bq.size α) ((cells x).map .v)))))
 (B:(fN S c n cf).map (λp=>(p.k,bP S.N p.st.g p.az,(!p.dr||p.now),match a_ p.st.m u with|some (.box cs)=>Nat.ble (o+bq.size α) cs.length|_=>false))=some (.l (.store (bq.size α)),some [.ptr u o,cv x],true,true):=by kernel_rfl):Le m (bX S c Q cf):=by
 obtain⟨p,A,hv⟩:=eE B;simp only[ζc]at hv;refine zz A ?_ h;obtain⟨h1,C,D,z⟩:=hv;split at z
 .rename_i cs w;have G:=Nat.le_of_ble_eq_true z;rw[h1,uo,C];simp only[ζb,D,if_true,lC,w,putCells,iS,gx,sE,G,and_self,Option.map_some,Pp]
 simp_all
theorem Ga (n u:Nat) (xs:List α) {m:Option β} (h:Le m (bX S c Q (nx S c n cf λp=>{ p.st with g:=bH p.st.g u (.own u),m:=bH p.st.m u (cA (.row xs)) })))
 (B:(fN S c n cf).map (λp=>(p.d,Tv p.k,bP S.N p.st.g p.az,p.st.new u))=some (some u,some (bq.size α,xs.length,List.range' 0 xs.length),some ((xs.map enc).map .v),true):=by kernel_rfl):Le m (bX S c Q cf):=by
 obtain⟨p,w,hv⟩:=eE B;simp  at hv;obtain⟨h1,D⟩:=jh w;obtain⟨dr,fr,d,gd,now,k,az,dd,l,fs,st⟩:=p;obtain⟨rfl,A,G,C⟩:=hv;obtain⟨z,rfl⟩:=Sx A;exact VA n dr fr (⟨some u,gd,now,.a (.buildSl (bq.size α) xs.length z (List.range' 0 xs.length)),az,dd,[]⟩::l) fs st xs rfl C (by grind) (by
  simp[nx,w]at h;omega)
theorem Gi (n:Nat) (x:α) (vs z:List V) (pl:List (Nat×Nat)) {m:Option β} (B:jS z pl vs=some (cells x)) (D:bq.agg α=true) (h:Le m (bX S c Q (nx S c n cf λp=>cT p.st p.d (cv x))))
 (G:(fN S c n cf).map (λp=>(p.k,bP S.N p.st.g p.az))=some (.p (.build z pl),some (vs.map .v)):=by kernel_rfl):Le m (bX S c Q cf):=by
 obtain⟨p,u,hv⟩:=eE G;simp  at hv;obtain⟨h1,w⟩:=jh u;obtain⟨dr,fr,d,gd,now,k,az,dd,l,fs,st⟩:=p;obtain⟨rfl,A⟩:=hv;exact U6 n dr fr (⟨d,gd,now,.p (.build z pl),az,dd,[]⟩::l) fs st x vs rfl B D (by grind) (by
  simp only[nx,u]at h;omega)
end
theorem U_ (n:Nat) {k:IntKind} {a b:Int} {f:Int->Option γ} (h:∀x,zd k a b=some x->Le ((f x).bind e) (bX S c Q (nx S c n cf λp=>cT p.st p.d (.v (.int k x)))))
 (B:(fN S c n cf).map (λp=>(Jr p.k,bP S.N p.st.g p.az))=some (some .quo,some [.v (.int k a),.v (.int k b)]):=by kernel_rfl):Le (((zd k a b).bind f).bind e) (bX S c Q cf):=by
 obtain⟨p,w,hv⟩:=eE B;simp  at hv;obtain⟨t,u,hk⟩:=Qq hv.1;refine pG w ?_ h;rw[hk];exact Le.of_eq (TL hv.2)
theorem KA (n:Nat) (k:IntKind) {a:ByteArray} {b:Int} {f:Int->Option γ} (h:∀x,mU a b=some x->Le ((f x).bind e) (bX S c Q (nx S c n cf λp=>cT p.st p.d (.v (.int .u8 x)))))
 (B:(fN S c n cf).map (λp=>(p.k,bP S.N p.st.g p.az))=some (.p .idxStr,some [.v (.str a),.v (.int k b)]):=by kernel_rfl):Le (((mU a b).bind f).bind e) (bX S c Q cf):=by
 obtain⟨p,u,hv⟩:=eE B;simp  at hv;refine pG u ?_ h;rw[hv.1];exact Le.of_eq (NC hv.2)
section
variable {A:α->List V} {E:δ->List V} {pl:α->Option δ} {fn:FuncId} {sc:Bool}
theorem xe (n:Nat) (F:fK S c fn A E pl sc) (z:α) {f:δ->Option γ} (h:∀x,pl z=some x->Le ((f x).bind e) (bX S c Q (nx S c n cf λp=>cT p.st p.d (.v (result (E x))))))
 (B:(fN S c n cf).map (λp=>(p.k,(bP S.N p.st.g p.az).bind jZ,(!p.dr||p.now||eN p.st.m p.fr [])))=some (.c,some (fn,(A z).map .v),true):=by kernel_rfl):Le (((pl z).bind f).bind e) (bX S c Q cf):=by
 obtain⟨p,C,hv⟩:=eE B;simp  at hv;obtain⟨D,G,O⟩:=hv;obtain⟨I,g1,g2⟩:=ζg.1 G;have u:∀d (w:List V),SV.di d (w.map .v)=false:=λd w=>by
  induction w with
  | nil=>rfl
  | cons a l J=>simp[SV.di,SV.cM,J]
 have L:(!p.dr||p.now||eN p.st.m p.fr ((A z).map .v))=true:=by
  have:eN p.st.m p.fr ((A z).map .v)=eN p.st.m p.fr []:=by unfold eN;simp[u];rfl
  grind
 refine pG C ?_ h;rw[D];exact GL (F.h z) F.k g1 g2 (Gm _ _ _) L (λr=>by rw[kn];simp)
theorem Tg (n:Nat) (F:fK S c fn A E pl true) (z:α) {f:δ->Option γ} (h:∀x,pl z=some x->Le ((f x).bind e) (bX S c Q (nx S c n cf λp=>cT p.st p.d (.v (result (E x))))))
 (B:(fN S c n cf).map (λp=>(p.k,((bP S.N p.st.g p.az).bind jZ).bind λq=>(mO (ig p.st.m 8) q.2).map λvs=>(q.1,vs,((!p.dr||p.now)||eN p.st.m p.fr q.2))))=some (.c,some (fn,A z,true)):=by kernel_rfl):Le (((pl z).bind f).bind e) (bX S c Q cf):=by
 obtain⟨p,u,hv⟩:=eE B;simp  at hv;obtain⟨w,C⟩:=hv;obtain⟨q,g1,g2⟩:=ζg.1 C;obtain⟨D,g3,g4⟩:=ζg.1 g1;obtain⟨vs,g5,g6⟩:=ζf.1 g2;simp only[ζc]at g6;obtain⟨e1,rfl,e3⟩:=g6;refine pG u ?_ h;rw[w];exact GL (F.h z) F.k g3 (by grind) g5 e3 (λr=>by rw[F.s rfl];rfl)
end
section
variable {N:Nat} [bq α]
theorem JV (n:Nat) (k:IntKind) {a:cq N α} {i:Int} {f:α->Option γ} (h:∀x,a.at i=some x->Le ((f x).bind e) (bX S c Q (nx S c n cf λp=>cT p.st p.d (.v (.fptr (pa a i))))))
 (B:(fN S c n cf).map (λp=>(p.k,bP S.N p.st.g p.az))=some (.p (.idxA N (bq.size α)),some [cp a,.v (.int k i)]):=by kernel_rfl):Le (((a.at i).bind f).bind e) (bX S c Q cf):=by
 obtain⟨p,u,hv⟩:=eE B;simp  at hv;obtain⟨h1,z⟩:=jh u;obtain⟨dr,fr,d,gd,now,A,az,dd,l,fs,st⟩:=p;obtain⟨rfl,C⟩:=hv;exact Ua n dr fr (⟨d,gd,now,.p (.idxA N (bq.size α)),az,dd,[]⟩::l) fs st k   rfl (by grind) λx w=>by
  have:=h x w;simp only[nx,u]at this;omega
theorem NF (n k:Nat) (a:cq N α) (i:Int) (o:Nat) (x:α) (B:a.at i=some x) {m:Option β} (h:Le m (bX S c Q (nx S c n cf λp=>cT p.st p.d (.v (.fptr ((pa a i).drop (o+k)))))))
 (D:(fN S c n cf).map (λp=>(p.k,bP S.N p.st.g p.az,Nat.ble (o+k) (bq.size α)))=some (.p (.fieldAddr k),some [.v (.fptr ((pa a i).drop o))],true):=by kernel_rfl):Le m (bX S c Q cf):=by
 obtain⟨p,u,hv⟩:=eE D;simp  at hv;obtain⟨h1,w⟩:=jh u;obtain⟨dr,fr,d,gd,now,z,az,dd,l,fs,st⟩:=p;obtain⟨rfl,A,C⟩:=hv;exact Ve n dr fr (⟨d,gd,now,.p (.fieldAddr k),az,dd,[]⟩::l) fs st a i o x B rfl (by grind) (by
  simp only[nx,u]at h;omega)
theorem Je (n sz:Nat) (ag:Bool) (a:cq N α) (i:Int) (o:Nat) (x:α) (B:a.at i=some x) (v:V) (hv:(cut (cells x) o sz).bind (mk ag)=some v) {m:Option β} (h:Le m (bX S c Q (nx S c n cf λp=>cT p.st p.d (.v v))))
 (D:(fN S c n cf).map (λp=>(p.k,bP S.N p.st.g p.az))=some (.r (.load sz ag),some [.v (.fptr ((pa a i).drop o))]):=by kernel_rfl):Le m (bX S c Q cf):=by
 obtain⟨p,w,u⟩:=eE D;simp  at u;obtain⟨h1,z⟩:=jh w;obtain⟨dr,fr,d,gd,now,A,az,dd,l,fs,st⟩:=p;obtain⟨rfl,C⟩:=u;exact TH n dr fr (⟨d,gd,now,.r (.load sz ag),az,dd,[]⟩::l) fs st a i o x B hv v rfl (by grind) (by
  simp only[nx,w]at h;omega)
theorem Tq (n u:Nat) (st:St) (cs:List SV) {m:Option β} (B:st.new u=true) (h:Le m (bX S c Q (nx S c n cf λ_=>{ st with g:=bH st.g u (.ptr u 0),m:=bH st.m u (.box cs) })))
 (D:(fN S c n cf).map (λp=>(p.d,(SB p.k).map (λz=>z.map SV.v),bP S.N p.st.g p.az,p.st))=some (some u,some cs,some [],st):=by kernel_rfl):Le m (bX S c Q cf):=by
 obtain⟨p,A,hv⟩:=eE D;simp only[ζc]at hv;obtain⟨z,C,w⟩:=eE hv.2.1;obtain⟨k,hk⟩:=S5 C;refine zz A ?_ h;rw[hv.1,hk,BZ,hv.2.2.1,hv.2.2.2];simp[B,oC,w]
theorem Er (n:Nat) (k:IntKind) (u:Nat) {a:cq N α} {i:Int} {f:α->Option γ} (h:∀x,a.at i=some x->Le ((f x).bind e) (bX S c Q (nx S c n cf λp=>cT p.st p.d (.ptr u (i.toNat*bq.size α+0)))))
 (B:(fN S c n cf).map (λp=>(p.k,bP S.N p.st.g p.az,a_ p.st.m u))=some (.p (.idxA N (bq.size α)),some [.ptr u 0,.v (.int k i)],some (bx a)):=by kernel_rfl):Le (((a.at i).bind f).bind e) (bX S c Q cf):=by
 obtain⟨p,w,hv⟩:=eE B;simp  at hv;obtain⟨h1,A⟩:=jh w;obtain⟨dr,fr,d,gd,now,C,az,dd,l,fs,st⟩:=p;obtain⟨rfl,D,G⟩:=hv;exact Uy n dr fr (⟨d,gd,now,.p (.idxA N (bq.size α)),az,dd,[]⟩::l) fs st k u   rfl (by grind) λx z=>by
  have:=h x z;simp only[nx,w]at this;omega
theorem PO (n sz:Nat) (ag:Bool) (u:Nat) (a:cq N α) (i:Int) (o:Nat) (x:α) (B:a.at i=some x) (v:V) (hv:(cut (cells x) o sz).bind (mk ag)=some v) {m:Option β} (h:Le m (bX S c Q (nx S c n cf λp=>cT p.st p.d (.v v))))
 (D:(fN S c n cf).map (λp=>(p.k,bP S.N p.st.g p.az,a_ p.st.m u,(!p.dr||p.now||eO p.fr [.ptr u 0])))=some (.r (.load sz ag),some [.ptr u (i.toNat*bq.size α+o)],some (bx a),true):=by kernel_rfl):Le m (bX S c Q cf):=by
 obtain⟨p,z,w⟩:=eE D;simp  at w;obtain⟨h1,A⟩:=jh z;obtain⟨dr,fr,d,gd,now,C,az,dd,l,fs,st⟩:=p;obtain⟨rfl,G,I,J⟩:=w;exact Ut n dr fr (⟨d,gd,now,.r (.load sz ag),az,dd,[]⟩::l) fs st u a i o x B hv v rfl (by grind) (by
  simp only[nx,z]at h;omega)
end
section
variable {κ ν:Type} [bq κ] [DecidableEq κ] [Key κ] [bq ν]
theorem Uv (n u:Nat) (mp:Mo κ ν) (k:κ) (z:ν) {m:Option β} (h:Le m (bX S c Q (nx S c n cf λp=>cT p.st p.d (cv (CD mp k z)))))
 (B:(fN S c n cf).map (λp=>(p.k,bP S.N p.st.g p.az,a_ p.st.m u,(!p.dr||p.now||eO p.fr [.mp u,cv k])))=some (.r (.lookup (Key.kk κ) (enc z) false),some [.mp u,cv k],some (vh mp),true):=by kernel_rfl):Le m (bX S c Q cf):=by
 obtain⟨p,w,hv⟩:=eE B;simp  at hv;obtain⟨h1,A⟩:=jh w;obtain⟨dr,fr,d,gd,now,C,az,dd,l,fs,st⟩:=p;obtain⟨rfl,D,G,I⟩:=hv;exact Uu n dr fr (⟨d,gd,now,.r (.lookup (Key.kk κ) (enc z) false),az,dd,[]⟩::l) fs st u mp k z rfl (by grind) (by
  simp only[nx,w]at h;omega)
theorem U5 (n u:Nat) (mp:Mo κ ν) (k:κ) (v:ν) {m:Option β} (h:Le m (bX S c Q (nx S c n cf λp=>cT { p.st with m:=bH p.st.m u (vh (qp mp k v)) } p.d (.v .undef))))
 (B:(fN S c n cf).map (λp=>(p.k,bP S.N p.st.g p.az,a_ p.st.m u,(!p.dr||p.now)))=some (.l (.mapUp (Key.kk κ)),some [.mp u,cv k,cv v],some (vh mp),true):=by kernel_rfl):Le m (bX S c Q cf):=by
 obtain⟨p,z,w⟩:=eE B;simp  at w;obtain⟨h1,A⟩:=jh z;obtain⟨dr,fr,d,gd,now,C,az,dd,l,fs,st⟩:=p;obtain⟨rfl,D,G,I⟩:=w;exact U0 n dr fr (⟨d,gd,now,.l (.mapUp (Key.kk κ)),az,dd,[]⟩::l) fs st u mp k v rfl (by grind) (by
  simp[nx,z]at h;omega)
end
theorem Uh (n:Nat) (st:St) {rs:List RV} {e:γ->Option (List V)} {r:γ} (svs:List SV) {ys:List V} (B:mO (ig st.m 8) svs=some ys) (D:e r=some ys)
 (h:(gE S c n cf.1 cf.2.1 cf.2.2).map (λq=>(q.1,q.2.2,jB q.2.2 rs))=some (.rt,st,some svs):=by kernel_rfl):Le ((some r).bind e) (bX S c (nk rs) cf):=by
 obtain⟨⟨fo,fs,st'⟩,u,hv⟩:=eE h;simp  at hv;obtain⟨rfl,rfl,w⟩:=hv;exact Ud n svs B (by rw[u,w]) D
end
end Go.VE
namespace Go.VE
variable [bN]
section
variable {S:Sys} {c:bS} {β γ δ α:Type} [bq α] {Q:Out×St->Option β} {e:γ->Option β} {cf:Cf}
def ve (s x:Sl α):Option (Sl α):=if x.l=[]then some s else if s.l.length+x.l.length<=2147483648 then some (.row (s.l++x.l))else none
theorem Rh (m:Tb bu) (n w:Nat) (x:Sl α) (B:n=bq.size α) (D:a_ m w=some (cA x)):jF m n (.own w)=some (rows x.l):=by
 rw[CE,D,zM n x B]
theorem G7 (l:List α):rows l=[]↔l=[]:=by unfold rows;simp
theorem OV (a b:List α):rows a++rows b=rows (a++b):=by unfold rows;simp
theorem G8 (a:List α):(rows a).length=a.length:=by unfold rows;simp
theorem Tw {st:St} {dr now:Bool} {fr:List Nat} {az:List Arg} {d n o:Nat} {s x:Sl α} {B:SV} (T:bP S.N st.g az=some [.own o,B]) (hd:(!dr||now)=true) (D:a_ st.m o=some (cA s)) (U:jF st.m n B=some (rows x.l)) (G:n=bq.size α) (J:St.new { st with m:=dO o st.m } d=true) :
 eZ S c dr fr ⟨some d,none,now,.l (.append n),az,[],[]⟩ st=(ve s x).bind λW=>some { st with g:=bH st.g d (.own d),m:=bH (dO o st.m) d (cA W) }:=by
 rw[uo,T];simp only[ζb,hd,if_true,yB,Rh st.m n o s G D,U];unfold ve
 by_cases h:x.l=[]
 .rw[if_pos h,(G7 x.l).2 h];simp only[xd,D,if_pos J,ζb];rfl
 .rw[if_neg h];have hr:rows x.l≠[]:=λe=>h ((G7 _).1 e)
  have w:xd st d n (.own o) (some (rows s.l)) (some (rows x.l))=if(rows s.l).length+(rows x.l).length<=2147483648/\FA (.own o)=true then(if St.new { st with m:=giveUp st.m (.own o) } d then some (.own d,{ st with m:=bH (giveUp st.m (.own o)) d (.sl .row n (rows s.l++rows x.l)) })else none)else none:=by
   unfold xd;generalize rows x.l=r at *
   cases r with
   | nil=>exact absurd rfl hr
   | cons y r=>rfl
  rw[w,G8,G8,OV]
  by_cases u:s.l.length+x.l.length<=2147483648
  .rw[if_pos ⟨u,rfl⟩,if_pos (show St.new { st with m:=giveUp st.m (.own o) } d=true from J),if_pos u];rw[ζb,ζb,G];rfl
  .rw[if_neg (λk=>u k.1),if_neg u];rfl
theorem Ue (n o u:Nat) (D:SV) {s x:Sl α} {f:Sl α->Option γ} (G:∀p,fN S c n cf=some p->jF p.st.m (bq.size α) D=some (rows x.l))
 (h:∀B,ve s x=some B->Le ((f B).bind e) (bX S c Q (nx S c n cf λp=>{ p.st with g:=bH p.st.g u (.own u),m:=bH (dO o p.st.m) u (cA B) })))
 (J:(fN S c n cf).map (λp=>(p.d,p.k,bP S.N p.st.g p.az,(!p.dr||p.now),a_ p.st.m o,St.new { p.st with m:=dO o p.st.m } u))=some (some u,.l (.append (bq.size α)),some [.own o,D],true,some (cA s),true):=by kernel_rfl):Le (((ve s x).bind f).bind e) (bX S c Q cf):=by
 obtain⟨p,w,hv⟩:=eE J;simp only[ζc]at hv;refine pG w ?_ h;rw[hv.1,hv.2.1];exact Le.of_eq (Tw hv.2.2.1 hv.2.2.2.1 hv.2.2.2.2.1 (G p w) rfl hv.2.2.2.2.2)
theorem Jy (m:Tb bu) (x:Sl α):jF m (bq.size α) (.v (bQ x))=some (rows x.l):=by
 cases x <;> simp[bQ,Sl.k,Sl.l,mS,jF,rows]
theorem MO (n o u:Nat) {s x:Sl α} {f:Sl α->Option γ}
 (h:∀B,ve s x=some B->Le ((f B).bind e) (bX S c Q (nx S c n cf λp=>{ p.st with g:=bH p.st.g u (.own u),m:=bH (dO o p.st.m) u (cA B) })))
 (D:(fN S c n cf).map (λp=>(p.d,p.k,bP S.N p.st.g p.az,(!p.dr||p.now),a_ p.st.m o,St.new { p.st with m:=dO o p.st.m } u))=some (some u,.l (.append (bq.size α)),some [.own o,.v (bQ x)],true,some (cA s),true):=by kernel_rfl):Le (((ve s x).bind f).bind e) (bX S c Q cf):=
 Ue n o u _ (λp _=>Jy p.st.m x) h D
end
end Go.VE
namespace Go.VE
variable [bN]
theorem qg {α:Type} {l:List α} {i:Nat} {x:α} (h:l[i]? = some x):l.set i x=l:=by
 obtain⟨hi,rfl⟩:=ζe.1 h;exact List.set_getElem_self hi
open Classical in
noncomputable def Bn (E:Env) (g:FuncId) (cb:List V) (a b:V):Option V:=
 if h:∃n y,bU (run E n) g (a::b::cb) []=some y then some (Classical.choose (Classical.choose_spec h))else none
theorem CT {E:Env} {g:FuncId} {cb:List V} {a b y:V} (h:Bn E g cb a b=some y):∃n,∀k,n<=k->bU (run E k) g (a::b::cb) []=some y:=by
 unfold Bn at h;split at h
 .rename_i h1;cases h;exact⟨_,λk hk=>mG (nI E hk) (Classical.choose_spec (Classical.choose_spec h1))⟩
 .cases h
theorem Ir {E:Env} {g:FuncId} {cb:List V} {a b y:V} {n:Nat} (h:bU (run E n) g (a::b::cb) []=some y):Bn E g cb a b=some y:=by
 have h1:∃n y,bU (run E n) g (a::b::cb) []=some y:=⟨n,y,h⟩
 cases hc:Bn E g cb a b with
 | none=>unfold Bn at hc;rw[dif_pos h1]at hc;cases hc
 | some z=>
  obtain⟨m,u⟩:=CT hc;have:=u _ (Nat.le_max_right n m);rw[mG (nI E (Nat.le_max_left n m)) h]at this;cases this;rfl
theorem CH {n:Nat} {p:_root_.Fin n->Nat->Prop} (h:∀i,∃N,∀k,N<=k->p i k):∃N,∀i k,N<=k->p i k:=by
 induction n with
 | zero=>exact⟨0,λi=>i.elim0⟩
 | succ n u=>
  obtain⟨N,w⟩:=u (p:=λi=>p i.succ) λi=>h i.succ
  obtain⟨M,hM⟩:=h 0;refine⟨max N M,λi k hk=>?_⟩
  refine _root_.Fin.cases (hM k (by omega)) (λj=>w j k (by omega)) i
def iA (x:List V):V:=x.headD .undef
def sV (es:Nat) (xs:List (List V)):Bool:=es==1&&xs.all (λx=>x.length==1&&x.all V.one)&&decide (xs.length<=2147483648)
theorem xZ {es:Nat} {xs:List (List V)} (h:sV es xs=true):es=1/\xs.length<=2147483648/\∀(i:Nat) x,xs[i]? = some x->x=[iA x]/\(iA x).one=true:=by
 unfold sV at h;simp only[ζh,beq_iff_eq,List.all_eq_true,decide_eq_true_eq]at h;refine⟨h.1.1,h.2,λi x w=>?_⟩
 obtain⟨h1,z⟩:=h.1.2 x (List.mem_of_getElem? w);obtain⟨u,rfl⟩:=List.length_eq_one_iff.1 h1;exact⟨rfl,z u (by simp)⟩
section
variable {H:bf} {Z:Nat->Prop}
theorem cW.IA {k:Nat} {xs ys:List V} (h:cW H Z xs ys) (B:V.kr k xs=true):borrows k H ys=some xs:=jL h.1 λj u v hu hv=>(h.2 j u v hu hv).borrow k (lz.1 B j u hu)
theorem cW.borrows {xs ys:List V} (h:cW H Z xs ys):∃n,∀k,n<=k->borrows k H ys=some xs:=by
 obtain⟨n,u⟩:=kS xs;exact⟨n,λk hk=>h.IA (nS hk u)⟩
theorem L7 {es:Nat} {xs:List (List V)} (h:sV es xs=true) {rs:List (List V)} (B:fH H Z xs rs):cW H Z (xs.map iA) rs.flatten:=by
 induction xs generalizing rs with
 | nil=>have:=B.1;simp at this;have:rs=[]:=List.eq_nil_of_length_eq_zero (by simpa using this.symm);subst this;exact .nil
 | cons x xs C=>
  obtain⟨h1,J,D⟩:=xZ h
  cases rs with
  | nil=>have:=B.1;simp at this
  | cons r rs=>
   obtain⟨e,_⟩:=D 0 x rfl;have A:=B.2 0 x r rfl rfl;rw[e]at A;obtain⟨u,L,rfl,hu,w⟩:=A.inv;rw[w.cO];have z:sV es xs=true:=by
    unfold sV at h ⊢;simp only[List.all_cons,ζh,List.length_cons,decide_eq_true_eq]at h ⊢;exact⟨⟨h.1.1,h.1.2.2⟩,by omega⟩
   exact .cons hu (C z (rs:=rs) ⟨by have:=B.1;simpa using this,λj a b G I=>B.2 (j+1) a b G I⟩)
end
noncomputable def rG (E:Env) (g:FuncId) (cb:List V) (a b:V):Option Int:=match Bn E g cb a b with|some (.int .i64 c)=>some c|_=>none
theorem Oa {E:Env} {g:FuncId} {cb:List V} {a b:V} {c:Int} (h:rG E g cb a b=some c):∃n,∀k,n<=k->bU (run E k) g (a::b::cb) []=some (.int .i64 c):=by
 unfold rG at h;split at h
 .rename_i c' hc;cases h;exact CT hc
 .cases h
noncomputable def yT (E:Env) (es:Nat) (xs:List (List V)):List V->Option (List (List V))
 | [.clo g [] cb]=>match xs with
  | []=>some []
  | x::l=>if sV es (x::l) && !E.keep g then
   let t:_root_.Fin (l.length+1)->_root_.Fin (l.length+1)->Option Int:=λi j=>rG E g cb (iA (((x::l)[i.1]?).getD [])) (iA (((x::l)[j.1]?).getD []))
   if Ad t then some ((pz l.length (oa t)).toList.map λi=>((x::l)[i.1]?).getD [])else none
   else none
 | _=>none
noncomputable def rB (E:Env):Dl:=⟨false,yT E⟩
theorem Cm {n:Nat} {lt:_root_.Fin (n+1)->_root_.Fin (n+1)->Bool} (h:Sort.SWO lt):(pz n lt).size=n+1:=by
 rw[Bl];have:=(Sort.pdq_sorts lt h (List.finRange (n+1)).toArray 0 (n+1) (Lib.bitLen (n+1)) true true (Nat.zero_le _) (by simp) (Or.inl rfl)).1.1
 simpa using this
theorem ND {E:Env} {f:FuncId} (hk:E.keep f=true) (ho:E.own f=false) (hs:E.sort f=true) (hf:E.ft f=none):mb E f (rB E) where
 keep:=hk
 own:=ho
 le:=by
  intro es xs vs ys h;simp only[rB,yT]at h;split at h
  .split at h
   .cases h;exact⟨Nat.le_refl _,λ_=>rfl⟩
   .split at h
    .split at h
     .rename_i Y;cases h;have:=Cm (pe Y).2;simp only[List.length_map,Array.length_toList,List.length_cons,this];exact⟨Nat.le_refl _,λ_=>trivial⟩
     .cases h
    .cases h
  .cases h
 none:=by
  intro es vs ys h H Z ws w hw he;simp only[rB,yT]at h;split at h
  .obtain⟨w2,r,rfl,h1,h2⟩:=hw.inv;rw[h2.cO];refine⟨1,[],λk hk=>?_⟩
   cases k with
   | zero=>omega
   | succ k=>rcases he with rfl|rfl <;> simp[run,i_,hf,hs,o6,rB]
  .cases h
 row:=by
  intro es xs vs ys h H Z ws id off rs hw J B G z hz;simp only[rB,yT]at h;split at h
  .rename_i g cb;obtain⟨w2,r,rfl,h1,h2⟩:=hw.inv;rw[h2.cO];obtain⟨a',I,rfl,ha,aa⟩:∃a' I,w2=.clo g a' I/\cW H Z [] a'/\cW H Z cb I:=h1.jv;rw[ha.cO]at *;split at h
   .cases h;refine⟨1,rs,[],λk hk=>?_,rfl,⟨rfl,λj u v hu=>by simp at hu⟩,z⟩
    cases k with
    | zero=>omega
    | succ k=>
     have:H.set id (.row es rs)=H:=qg J;simp[run,i_,hf,hs,o6,rB,this]
   .rename_i x l;split at h
    .rename_i C;simp only[ζh,Bool.not_eq_true']at C;obtain⟨c1,c3⟩:=C;obtain⟨rfl,O,ae⟩:=xZ c1;split at h
     .rename_i Y;cases h;obtain⟨D,Q⟩:=pe Y;have A:∀i,Z i->Z i/\bl (H.set id .dead) i=bl H i:=λi hi=>⟨hi,by
       unfold bl;rw[List.getElem?_set_ne];rintro rfl;exact hz hi⟩
      have S:=G.mono A;obtain⟨M1,T⟩:=(L7 c1 S).borrows;simp only[List.length_cons]at T;obtain⟨M2,U⟩:=(aa.mono A).borrows;obtain⟨N,hN⟩:=CH (p:=λi k=>∀j:_root_.Fin (l.length+1),bU (run E k) g (iA (((x::l)[i.1]?).getD [])::iA (((x::l)[j.1]?).getD [])::cb) []=some (.int .i64 ((rG E g cb (iA (((x::l)[i.1]?).getD [])) (iA (((x::l)[j.1]?).getD []))).getD 0))) (λi=>by
       obtain⟨N,hN⟩:=CH (p:=λ(j:_root_.Fin (l.length+1)) k=>bU (run E k) g (iA (((x::l)[i.1]?).getD [])::iA (((x::l)[j.1]?).getD [])::cb) []=some (.int .i64 ((rG E g cb (iA (((x::l)[i.1]?).getD [])) (iA (((x::l)[j.1]?).getD []))).getD 0))) (λj=>by
        obtain⟨c,hc⟩:=D i j;obtain⟨n,hn⟩:=Oa hc;exact⟨n,λk hk=>by rw[hn k hk,hc];rfl⟩)
       exact⟨N,λk hk j=>hN j k hk⟩)
      have W:∀k,N<=k->ir (run E k) g ((x::l).map iA) cb l.length=λi j=>rG E g cb (iA (((x::l)[i.1]?).getD [])) (iA (((x::l)[j.1]?).getD [])):=λk hk=>by
       funext i j
       obtain⟨c,hc⟩:=D i j;have e1:∀i:_root_.Fin (l.length+1),((x::l).map iA)[i.1]? = some (iA (((x::l)[i.1]?).getD [])):=λi=>by
        have:i.1<(x::l).length:=i.2;rw[List.getElem?_map,ζd this];rfl
       unfold ir;rw[e1 i,e1 j];simp only[hN i k hk j];rw[hc];rfl
      have ab:=Cm Q;generalize hL:(pz l.length (oa λi j:_root_.Fin (l.length+1)=>rG E g cb (iA (((x::l)[i.1]?).getD [])) (iA (((x::l)[j.1]?).getD [])))).toList=L at *
      have ad:L.length=l.length+1:=by rw[<-hL];simpa using ab
      simp only[List.length_cons]at B G O;refine⟨max N (max M1 M2)+1,pY rs off l.length L,[],λk hk=>?_,?_,?_,?_⟩
      .cases k with
       | zero=>omega
       | succ k=>
        simp only[run,i_,hf,hs,if_true,o6,J,rB,Bool.false_eq_true,if_false,List.length_cons];rw[if_pos ⟨trivial,trivial,B,by omega,c3⟩,show (run E k).lv=k from mX E k,T k (by omega),U k (by omega)]
        simp only[W k (by omega),Y,if_true,hL,List.append_nil]
      .simp[pY,ad];omega
      .have e:((pY rs off l.length L).drop off).take (L.map λi=>((x::l)[i.1]?).getD []).length=L.map λi=>(rs[off+i.1]?).getD []:=by
        unfold pY;have h0:(rs.take off).length=off:=by simp;omega
        rw[List.append_assoc,List.drop_append_of_le_length (by omega),List.drop_eq_nil_of_le (by omega),List.nil_append,List.length_map,List.take_append_of_le_length (by simp),List.take_of_length_le (by simp)]
       rw[e];refine⟨by simp,λj a b ha hb=>?_⟩
       rw[List.getElem?_map]at ha hb;obtain⟨i,hi,rfl⟩:=ζf.1 ha;rw[hi]at hb;simp only[Option.map_some,ζa]at hb;subst hb;have X:i.1<(x::l).length:=i.2;have hr:off+i.1<rs.length:=by have:=i.2;omega
       refine G.2 i.1 _ _ (by rw[ζd X];rfl) ?_
       rw[List.getElem?_take,if_pos i.2,List.getElem?_drop,ζd hr];rfl
      .intro c hc u hu;unfold pY at hc;rcases List.mem_append.1 hc with hc|hc
       .rcases List.mem_append.1 hc with hc|hc
        .exact z c (List.mem_of_mem_take hc) u hu
        .obtain⟨i,_,rfl⟩:=List.mem_map.1 hc;have hr:off+i.1<rs.length:=by have:=i.2;omega
         rw[ζd hr]at hu;exact z _ (List.getElem_mem hr) u hu
       .exact z c (List.mem_of_mem_drop hc) u hu
     .cases h
    .cases h
  .cases h
end Go.VE
namespace Go.VE
variable [bN]
def bC (N:Nat->FuncId) (F:Frame):Arg->V
 | .s n=>get F n
 | .k c=>c
 | .f s=>.clo (N s) [] []
def bV (E:Env) (N:Nat->FuncId) (call:dh) (b:Option Nat) (now:Bool) (k:K) (vs:List V) (H:bf):Option (V×bf):=
 match k,b with
 | .p p,_=>(bn N p vs).map λv=>(v,H)
 | .r r,none=>(ga H r vs).map λv=>(v,H)
 | .r r,some b=>(ga (H.take b) r vs).map λv=>(v,H)
 | .a a,none=>(lF a vs).map λx=>(x.2.val H.length,H++[x.1])
 | .l l,none=>eM H l vs
 | .l (.store n),some _=>if now then eM H (.store n) vs else none
 | .c,none=>match vs with
  | .clo g a c::u=>if E.keep g then fc E call g (a++u++c) H else match bU call g (a++u++c) H with
   | some y=>if y.scalar then some (y,H)else none
   | none=>none
  | _=>none
 | .c,some b=>match vs with
  | .clo g a c::u=>if E.keep g then none else match bU call g (a++u++c) (H.take b)with
   | some y=>if y.scalar then some (y,H)else none
   | none=>none
  | _=>none
 | _,_=>none
def bF (F:Frame):Option Nat->V->Frame
 | none,_=>F
 | some d,v=>set F d v
def dD (E:Env) (N:Nat->FuncId) (call:dh) (b:Option Nat):List RO->Frame->bf->Option (Frame×bf)
 | [],F,H=>some (F,H)
 | o::r,F,H=>match o.gd with
  | none=>match bV E N call b o.now o.k (o.az.map (bC N F)) H with
   | some (v,H')=>dD E N call b r (bF F o.dst v) H'
   | none=>none
  | some _=>none
section
variable {X:CX} {N:Nat->FuncId} {call:dh} {F F':Frame} {H H':bf}
theorem Iw (B:∀f s,X.nm f=some s->N s=f) {o:Operand} {x:Arg} (h:ou X.nm o=some x):ev F o=some (bC N F x):=by
 cases o with
 | tmp t=>simp[ou]at h;subst h;rfl
 | const w=>
  simp[ou]at h;split at h
  .rename_i c hc;split at h
   .simp  at h;subst h;exact hc
   grind
  grind
 | func f=>
  obtain⟨s,u,rfl⟩:=ζf.1 h;show some (V.clo f [] [])=some (.clo (N s) [] [])
  grind
 | global i=>
  simp[ou]at h;split at h
  .rename_i c hc;split at h
   .simp  at h;subst h;simp[ev,hc];rfl
   grind
  grind
theorem xQ (G:∀f s,X.nm f=some s->N s=f):∀{os:List Operand} {B:List Arg},os.mapM (ou X.nm)=some B->eP F os=some (B.map (bC N F))
 | [],B,h=>by simp  at h;subst h;rfl
 | o::os,B,h=>by
  simp[ζg]at h;obtain⟨x,J,xs,D,rfl⟩:=h;simp[eP,Iw G J,xQ G D]
theorem yG (D:∀f s,X.nm f=some s->N s=f) {B:Bool} {ops:List Oper} {i:Nat} {o:Oper} {ro:RO} (h:mw X B ops i o=some ro) (hg:ro.gd=none) :
 o.dst=ro.dst/\xF X.nt o.dst=true/\fe ops F o=true/\((B1 X.E N F o.op (ro.az.map (bC N F)) ro.k/\ro.now=(B&&dB ops i)/\(B=true->dB ops i=false->∀a',od ops i a'=[]\/∀t,o.op≠.load t (.tmp a')))\/(∃n,ro.k=.l (.storeF n))\/(∃n a,ro.k=.r (.loadF n a))\/(B=true/\wT ops i=true/\cV o.op=.alloc/\(∃p,ro.k=.p p/\(p=.emptyC\/∃a b,p=.makeC a b)/\∀y,bn N p (ro.az.map (bC N F))=some y->pZ X.E F o.op=some y))\/∃n,ro.k=.e n):=by
 unfold mw at h;split at h
 .rename_i hd;split at h
  .rename_i gd k os u hr;split at h
   .split at h
    .rename_i w;simp only[ζh]at w;have T:∀{gd:Option (Nat×Bool)},A5 ops o=some gd->gd=none->fe ops F o=true:=λ{gd} u hg=>by
      subst hg;unfold fe;unfold A5 at u
      cases A:o.guard with
      | none=>rfl
      | some I=>
       rw[A]at u;obtain⟨j,b⟩:=I;obtain⟨d,_,e⟩:=ζf.1 u;cases e
     split at h
     .rename_i J;obtain⟨U,C,rfl⟩:=ζf.1 h;have z:=jT D hr (xQ (F:=F) D C);exact⟨rfl,hd,T u hg,.inr (.inr (.inr (.inl ⟨w.1,w.2,z.1,_,rfl,.inr ⟨_,_,rfl⟩,λy L=>BQ ⟨_,_,_,by assumption⟩ z L⟩)))⟩
     .rename_i J;split at h
      .rename_i O;obtain⟨Q,rfl,rfl⟩:=O;obtain⟨U,C,rfl⟩:=ζf.1 h;have z:=jT D hr (xQ (F:=F) D C);exact⟨rfl,hd,T u hg,.inr (.inr (.inr (.inl ⟨w.1,w.2,z.1,_,rfl,.inl rfl,λy L=>B0 ⟨_,_,_,by assumption⟩ z Q L⟩)))⟩
      .cases h
     .cases h
    obtain⟨U,C,rfl⟩:=ζf.1 h;simp only at hg;subst hg;refine⟨rfl,hd,?_,?_⟩
    .unfold fe;unfold A5 at u
     cases A:o.guard with
     | none=>rfl
     | some I=>
      rw[A]at u;obtain⟨j,b⟩:=I;obtain⟨d,_,e⟩:=ζf.1 u;cases e
    .rcases B3 B ops i k os with⟨e,S⟩|⟨_,_,n,a,l,W,_,_,_,e⟩|⟨_,_,n,ag,a,_,_,e⟩|⟨_,_,_,n,_,e⟩
     .rw[e]at C ⊢;refine .inl ⟨jT D hr (xQ D C),rfl,λhd Y a'=>?_⟩
      by_cases G:∃t,o.op=.load t (.tmp a')
      .obtain⟨t,G⟩:=G;rw[G]at hr;simp only[resolve]at hr;obtain⟨d,_,e⟩:=ζf.1 hr;simp only[ζc]at e;exact .inl (S _ _ a' hd Y e.1.symm e.2.symm)
      .exact .inr λt h=>G ⟨t,h⟩
     .rw[e];exact .inr (.inl ⟨n,rfl⟩)
     .rw[e];exact .inr (.inr (.inl ⟨n,ag,rfl⟩))
     .rw[e];exact .inr (.inr (.inr (.inr ⟨n,rfl⟩)))
   .simp at h
  .simp at h
 .simp at h
theorem EM {nt:Nat} {dst:Option Nat} (h:xF nt dst=true) (v:V):jg nt F dst v=some (bF F dst v):=by
 cases dst with
 | none=>rfl
 | some d=>simp[xF]at h;simp[jg,if_pos h,bF]
theorem Tn (G:∀f s,X.nm f=some s->N s=f) {ops:List Oper} {i:Nat} {o:Oper} {ro:RO} (h:mw X false ops i o=some ro) (hg:ro.gd=none) {v:V} (hv:bV X.E N call none ro.now ro.k (ro.az.map (bC N F)) H=some (v,H')) :
 fM X.E call X.nt ops none o F H=some (bF F ro.dst v,H'):=by
 obtain⟨h1,I,J,u⟩:=yG (F:=F) G h hg;have hd:c6 X.E call ops none F H o.op=some (v,H'):=by
  rcases u with⟨u,_⟩|⟨n,u⟩|⟨n,a,u⟩|⟨u,_⟩|⟨n,u⟩
  .generalize hk:ro.k=k at hv u;generalize ro.az.map (bC N F)=T at hv u;unfold c6
   cases k with
   | p p=>
    obtain⟨c,e⟩:=u;obtain⟨w,A,B⟩:=ζf.1 hv;rw[c];simp only[xq (e w A),Option.map_some];rw[B]
   | r r=>
    obtain⟨c,e⟩:=u;obtain⟨w,A,B⟩:=ζf.1 hv;rw[c];simp only[e H w A,Option.map_some];rw[B]
   | a a=>
    obtain⟨c,e⟩:=u;obtain⟨⟨ob,m⟩,A,B⟩:=ζf.1 hv;rw[c];simp only[qf,Bool.false_eq_true,if_false,e _ A];exact congrArg some B
   | l l=>
    obtain⟨c,e⟩:=u;rw[c];exact e H _ hv
   | e n=>exact u.elim
   | b=>simp[bV]at hv
   | c=>
    obtain⟨c,f,L,rfl,e⟩:=u;rw[c];simp only[bV]at hv;split at hv
    .rename_i g a b O C;simp only[List.cons.injEq]at C;obtain⟨rfl,rfl⟩:=C;split at hv
     .rename_i z;simp only[e,jX,z,Bool.and_self,if_true];exact hv
     .rename_i z;split at hv
      .rename_i y Q;split at hv
       .rename_i D;simp only[e,jX,z,Bool.false_and,Bool.false_eq_true,if_false,Q,D,if_true];exact hv
       .simp at hv
      .simp at hv
    .simp at hv
  .rw[u]at hv;exfalso;have:∀ops i k os,(wh false ops i k os).1=k:=λ_ _ _ _=>rfl
   unfold mw at h;simp only[Bool.false_and,Bool.false_eq_true,if_false]at h;split at h
   .split at h
    .rename_i gd k os S hr;split at h
     .obtain⟨L,U,rfl⟩:=ζf.1 h;simp only[this]at u;subst u;unfold resolve at hr
      (repeat' split at hr) <;> first|(simp at hr;done)|(obtain⟨_,_,e⟩:=ζf.1 hr;simp at e;done)
     .simp at h
    .simp at h
   .first|(simp at h;done)|contradiction
  .rw[u]at hv;simp[bV,ga]at hv
  .cases u
  .rw[u]at hv;simp[bV]at hv
 unfold fM;rw[J,if_pos rfl,hd];simp only[h1,EM (h1▸I),Option.map_some]
theorem Fu (D:∀f s,X.nm f=some s->N s=f) {ops:List Oper}:∀(rest:List Oper) {i:Nat} {B:List RO} {F:Frame} {H:bf},j_ X false ops i rest=some B->dD X.E N call none B F H=some (F',H')->kZ X.E call X.nt ops rest F H=some (F',H')
 | [],i,B,F,H,hc,h=>by
  simp[j_]at hc;subst hc;exact h
 | o::rest,i,B,F,H,hc,h=>by
  simp[j_]at hc;split at hc
  .rename_i ro rs h1 G;simp  at hc;subst hc;simp[dD]at h;split at h
   .rename_i hg;split at h
    .rename_i v H1 hv;simp[kZ,Tn D h1 hg hv];exact Fu D rest G h
    grind
   grind
  grind
theorem RB {ops:List Oper} {i:Nat} {op:Op} (h:∀t a',op=.load t (.tmp a')->od ops i a'=[]):mF ops i F op=true:=by
 unfold mF
 grind
theorem SG (W:∀f s,X.nm f=some s->N s=f) {ops:List Oper} {b i:Nat} {o:Oper} (Y:ops[i]? = some o) {ro:RO} (h:mw X true ops i o=some ro) (hg:ro.gd=none) {v:V} (hv:bV X.E N call (some b) ro.now ro.k (ro.az.map (bC N F)) H=some (v,H')) :
 fM X.E call X.nt ops (some (b,i)) o F H=some (bF F ro.dst v,H'):=by
 obtain⟨h1,Z,h3,u⟩:=yG (F:=F) W h hg;have hd:c6 X.E call ops (some (b,i)) F H o.op=some (v,H'):=by
  rcases u with⟨u,z,A⟩|⟨n,u⟩|⟨n,a,u⟩|⟨_,G,I,p,u,_,J⟩|⟨n,u⟩
  .generalize hk:ro.k=k at hv u;generalize ro.az.map (bC N F)=vs at hv u;unfold c6
   cases k with
   | p p=>
    obtain⟨c,e⟩:=u;obtain⟨w,B,C⟩:=ζf.1 hv;rw[c];simp only[xq (e w B),Option.map_some];rw[C]
   | r r=>
    obtain⟨c,e⟩:=u;obtain⟨w,B,C⟩:=ζf.1 hv;have L:mF ops i F o.op=true:=RB λt a' e=>by
     by_cases T:dB ops i=true
     .exact Ci Y e T
     .rcases A rfl (by simpa using T) a' with h|h
      .exact h
      .exact absurd e (h t)
    rw[c];simp only[e _ w B,L,if_true];rw[C]
   | a a=>simp[bV]at hv
   | l l=>
    obtain⟨c,e⟩:=u
    cases l with
    | store n=>
     simp only[bV]at hv;split at hv
     .rename_i U;rw[z,Bool.true_and]at U;rw[c];simp only[U,Bool.true_or,if_true];exact e H _ hv
     .simp at hv
    | _=>simp[bV]at hv
   | e n=>exact u.elim
   | b=>simp[bV]at hv
   | c=>
    obtain⟨c,f,av,rfl,e⟩:=u;rw[c];simp only[bV]at hv;split at hv
    .rename_i g a b aa D;simp only[List.cons.injEq]at D;obtain⟨rfl,rfl⟩:=D;split at hv
     .simp at hv
     .rename_i O;split at hv
      .rename_i y hy;split at hv
       .rename_i Q;simp only[e,jX,O,Bool.false_and,Bool.false_eq_true,if_false,hy,Q,if_true];exact hv
       .simp at hv
      .simp at hv
    .simp at hv
  .rw[u]at hv;simp[bV]at hv
  .rw[u]at hv;simp[bV,ga]at hv
  .rw[u]at hv;obtain⟨w,B,C⟩:=ζf.1 hv;have S:=J w B;unfold c6;rw[I];simp only[qf,G,if_true,S,Option.map_some];exact congrArg some C
  .rw[u]at hv;simp[bV]at hv
 unfold fM;rw[h3,if_pos rfl,hd];simp only[h1,EM (h1▸Z),Option.map_some]
theorem EZ (D:∀f s,X.nm f=some s->N s=f) {ops:List Oper} {b:Nat}:∀(rest:List Oper) {i:Nat} {B:List RO} {F:Frame} {H:bf},ops.drop i=rest->j_ X true ops i rest=some B->dD X.E N call (some b) B F H=some (F',H') ->
 jf X.E call X.nt ops b (List.range' i rest.length) F H=some (F',H')
 | [],i,B,F,H,_,hc,h=>by
  simp[j_]at hc;subst hc;exact h
 | o::rest,i,B,F,H,hd,hc,h=>by
  simp[j_]at hc;split at hc
  .rename_i ro rs h1 J;simp  at hc;subst hc;simp[dD]at h;split at h
   .rename_i hg;split at h
    .rename_i v H1 hv;have G:ops[i]? = some o:=by
      have:(ops.drop i)[0]? = some o:=by grind
      grind
     have u:ops.drop (i+1)=rest:=by
      rw[<-List.drop_drop,hd];rfl
     simp[List.range'_succ,jf,G,SG D G h1 hg hv];exact EZ D rest u J h
    grind
   grind
  grind
def wZ (l:List RO):Bool:=l.all λo=>(match o.k with|.a _|.l (.storeF _)|.r (.loadF ..)|.p (.makeC ..)|.p .emptyC|.e _=>false|_=>true)&&o.gd.isNone
theorem Bu (J:∀f s,X.nm f=some s->N s=f) {ops:List Oper}:∀(rest:List Oper) {i:Nat} {G:List RO},j_ X true ops i rest=some G->wZ G=true->rest.any (λo=>cV o.op==.alloc)=false
 | [],_,_,_,_=>rfl
 | o::rest,i,G,hc,D=>by
  simp only[j_]at hc;split at hc
  .rename_i ro rs h1 T;simp only[ζa]at hc;subst hc;simp only[wZ,List.all_cons,ζh,Option.isNone_iff_eq_none]at D;obtain⟨_,_,_,B⟩:=yG (F:=[]) J h1 D.1.2;rw[List.any_cons,Bu J rest T D.2,Bool.or_false];rcases B with⟨B,_⟩|⟨n,B⟩|⟨n,a,B⟩|⟨_,_,_,p,B,u,_⟩|⟨n,B⟩
   .cases hk:ro.k with
    | a p=>have:=D.1.1;rw[hk]at this;cases this
    | e p=>have:=D.1.1;rw[hk]at this;cases this
    | _=>rw[hk]at B;rw[B.1];rfl
   .have:=D.1.1;rw[B]at this;cases this
   .have:=D.1.1;rw[B]at this;cases this
   .have:=D.1.1;rw[B]at this;rcases u with rfl|⟨_,_,rfl⟩ <;> cases this
   .have:=D.1.1;rw[B]at this;cases this
  .simp at hc
def gA (E:Env) (N:Nat->FuncId) (call:dh) (lf:Nat):RC->Frame->bf->Option (Out×Frame×bf)
 | .skip,F,H=>some (.norm,F,H)
 | .ops l,F,H=>(dD E N call none l F H).map λx=>(.norm,x.1,x.2)
 | .ru l,F,H=>if wZ l then(dD E N call (some H.length) l F H).map λx=>(.norm,x.1,x.2)else none
 | .seq a b,F,H=>match gA E N call lf a F H with
  | some (.norm,F',H')=>gA E N call lf b F' H'
  | r=>r
 | .cond x a b,F,H=>match bC N F x with
  | .bool t=>if t then gA E N call lf a F H else gA E N call lf b F H
  | _=>none
 | .block id c,F,H=>match gA E N call lf c F H with
  | some (.exit B,F',H')=>if B=id then some (.norm,F',H')else some (.exit B,F',H')
  | r=>r
 | .loop c,F,H=>jO (gA E N call lf c) lf F H
 | .exit id,F,H=>some (.exit id,F,H)
 | .ret,F,H=>some (.ret,F,H)
 | _,_,_=>none
theorem Ff {f g:Frame->bf->Option (Out×Frame×bf)} (h:∀F H r,f F H=some r->g F H=some r):∀(k:Nat) (F:Frame) (H:bf) (r:Out×Frame×bf),jO f k F H=some r->jO g k F H=some r
 | 0,F,H,r,hr=>by simp[jO]at hr
 | k+1,F,H,r,hr=>by
  simp only[jO]at hr ⊢
  cases B:f F H with
  | none=>rw[B]at hr;simp at hr
  | some q=>
   rw[B]at hr;rw[h F H q B];obtain⟨o,F1,H1⟩:=q
   cases o with
   | norm=>exact Ff h k F1 H1 r hr
   | exit _=>exact hr
   | ret=>exact hr
theorem Ow (D:∀f s,X.nm f=some s->N s=f) {lf:Nat}:∀(rc:RC) (code:Code) (F:Frame) (H:bf) (r:Out×Frame×bf),bJ X false code=some rc->gA X.E N call lf rc F H=some r->exec X.E call lf false X.nt code F H=some r:=by
 intro rc
 induction rc with
 | skip=>
  intro code F H r hc h;simp only[gA,ζa]at h;subst h
  cases code with
  | skip=>rfl
  | label _=>rfl
  | region id ops u=>simp only[bJ]at hc;(repeat' split at hc) <;> first|(simp at hc;done)|(obtain⟨_,_,e⟩:=ζf.1 hc;cases e)
  | _=>simp only[bJ]at hc;(repeat' split at hc) <;> first|(simp at hc;done)|(obtain⟨_,_,e⟩:=ζf.1 hc;cases e)|cases hc
 | ops l=>
  intro code F H r hc h
  cases code with
  | region id ops u=>
   simp only[bJ]at hc;split at hc
   .split at hc
    .obtain⟨_,_,e⟩:=ζf.1 hc;cases e
    .simp at hc
   .rename_i hd;obtain⟨S,C,e⟩:=ζf.1 hc;cases e;simp only[gA]at h;obtain⟨⟨F',H'⟩,hv,rfl⟩:=ζf.1 h;simp only[exec,iU,hd];rw[if_neg (by simp),Fu D _ C hv];rfl
  | _=>simp only[bJ]at hc;(repeat' split at hc) <;> first|(simp at hc;done)|(obtain⟨_,_,e⟩:=ζf.1 hc;cases e)|cases hc
 | ru l=>
  intro code F H r hc h
  cases code with
  | region id ops u=>
   simp only[bJ]at hc;split at hc
   .rename_i hd;split at hc
    .rename_i G;obtain⟨S,C,e⟩:=ζf.1 hc;cases e;simp only[gA]at h;split at h
     .rename_i T;obtain⟨⟨F',H'⟩,hv,rfl⟩:=ζf.1 h;have U:qt ops.toList=false:=Bu D _ C T;have:=EZ D ops.toList (i:=0) rfl C hv;rw[<-List.range_eq_range']at this;simp only[exec,iU,hd,G,if_true,U,Bool.false_eq_true,if_false,this];rfl
     .simp at h
    .simp at hc
   .obtain⟨_,_,e⟩:=ζf.1 hc;cases e
  | _=>simp only[bJ]at hc;(repeat' split at hc) <;> first|(simp at hc;done)|(obtain⟨_,_,e⟩:=ζf.1 hc;cases e)|cases hc
 | seq a b w A=>
  intro code F H r hc h
  cases code with
  | seq I J=>
   simp only[bJ]at hc;split at hc
   .rename_i x y B L;cases hc;simp only[gA]at h;simp only[exec]
    cases hva:gA X.E N call lf a F H with
    | none=>rw[hva]at h;simp at h
    | some q=>
     rw[hva]at h;rw[w I F H q B hva];obtain⟨o,F1,H1⟩:=q
     cases o with
     | norm=>exact A J F1 H1 r L h
     | exit _=>exact h
     | ret=>exact h
   .simp at hc
  | region id ops u=>simp only[bJ]at hc;(repeat' split at hc) <;> first|(simp at hc;done)|(obtain⟨_,_,e⟩:=ζf.1 hc;cases e)
  | _=>simp only[bJ]at hc;(repeat' split at hc) <;> first|(simp at hc;done)|(obtain⟨_,_,e⟩:=ζf.1 hc;cases e)|cases hc
 | cond x a b w A=>
  intro code F H r hc h
  cases code with
  | cond c I J=>
   simp only[bJ]at hc;split at hc
   .rename_i Z y z B L W;cases hc;simp only[gA]at h;simp only[exec,Iw (F:=F) D B];split at h
    .rename_i t Y;rw[Y]
     cases t with
     | true=>simp only[if_true]at h ⊢;exact w I F H r L h
     | false=>simp only[Bool.false_eq_true,if_false]at h ⊢;exact A J F H r W h
    .simp at h
   .simp at hc
  | region id ops u=>simp only[bJ]at hc;(repeat' split at hc) <;> first|(simp at hc;done)|(obtain⟨_,_,e⟩:=ζf.1 hc;cases e)
  | _=>simp only[bJ]at hc;(repeat' split at hc) <;> first|(simp at hc;done)|(obtain⟨_,_,e⟩:=ζf.1 hc;cases e)|cases hc
 | block id c O=>
  intro code F H r hc h
  cases code with
  | block Q c'=>
   simp only[bJ]at hc;obtain⟨x,B,e⟩:=ζf.1 hc;cases e;simp only[gA]at h;simp only[exec]
   cases hva:gA X.E N call lf c F H with
   | none=>rw[hva]at h;simp at h
   | some q=>
    rw[hva]at h;rw[O c' F H q B hva];exact h
  | region id ops u=>simp only[bJ]at hc;(repeat' split at hc) <;> first|(simp at hc;done)|(obtain⟨_,_,e⟩:=ζf.1 hc;cases e)
  | _=>simp only[bJ]at hc;(repeat' split at hc) <;> first|(simp at hc;done)|(obtain⟨_,_,e⟩:=ζf.1 hc;cases e)|cases hc
 | loop c O=>
  intro code F H r hc h
  cases code with
  | loop c'=>
   simp only[bJ]at hc;obtain⟨x,B,e⟩:=ζf.1 hc;cases e;simp only[gA]at h;simp only[exec];exact Ff (λF H r hr=>O c' F H r B hr) lf F H r h
  | region id ops u=>simp only[bJ]at hc;(repeat' split at hc) <;> first|(simp at hc;done)|(obtain⟨_,_,e⟩:=ζf.1 hc;cases e)
  | _=>simp only[bJ]at hc;(repeat' split at hc) <;> first|(simp at hc;done)|(obtain⟨_,_,e⟩:=ζf.1 hc;cases e)|cases hc
 | exit id=>
  intro code F H r hc h
  cases code with
  | exit Q=>simp only[bJ,ζa,RC.exit.injEq]at hc;subst hc;exact h
  | region id ops u=>simp only[bJ]at hc;(repeat' split at hc) <;> first|(simp at hc;done)|(obtain⟨_,_,e⟩:=ζf.1 hc;cases e)
  | _=>simp only[bJ]at hc;(repeat' split at hc) <;> first|(simp at hc;done)|(obtain⟨_,_,e⟩:=ζf.1 hc;cases e)|cases hc
 | ret=>
  intro code F H r hc h
  cases code with
  | ret=>exact h
  | region id ops u=>simp only[bJ]at hc;(repeat' split at hc) <;> first|(simp at hc;done)|(obtain⟨_,_,e⟩:=ζf.1 hc;cases e)
  | _=>simp only[bJ]at hc;(repeat' split at hc) <;> first|(simp at hc;done)|(obtain⟨_,_,e⟩:=ζf.1 hc;cases e)|cases hc
 | _=>intro code F H r hc h;simp[gA]at h
end
end Go.VE
namespace Go.VE
variable [bN]
def Ex (E:Env) (N:Nat->FuncId) (rc:RC) (F:Frame) (H:bf) (o:Out) (F':Frame) (H':bf):Prop:=
 ∃n,∀k,n<=k->gA E N (run E k) k rc F H=some (o,F',H')
def pE (E:Env) (N:Nat->FuncId) (rc:RC) (F:Frame) (H:bf) (o:Out) (F':Frame) (H':bf):Prop:=
 ∃n,∀k,n<=k->∀u,n<=u->jO (gA E N (run E k) k rc) u F H=some (o,F',H')
section
variable {E:Env} {N:Nat->FuncId} {a b c:RC} {F F1 F':Frame} {H H1 H':bf} {o:Out} {x:Arg} {id:Nat}
theorem Ex.ops {l:List RO} (h:∃n,∀k,n<=k->dD E N (run E k) none l F H=some (F',H')):Ex E N (.ops l) F H .norm F' H':=
 let ⟨n,h⟩:=h;⟨n,λk hk=>by simp only[gA,h k hk,Option.map_some]⟩
theorem Ex.dJ {l:List RO} (h:∀call,dD E N call none l F H=some (F',H')):Ex E N (.ops l) F H .norm F' H':=Ex.ops ⟨0,λk _=>h _⟩
theorem Ex.ru {l:List RO} (B:wZ l=true) (h:∀call,dD E N call (some H.length) l F H=some (F',H')):Ex E N (.ru l) F H .norm F' H':=
 ⟨0,λk _=>by simp only[gA,B,if_true,h,Option.map_some]⟩
theorem Ex.I4 {l:List RO} (B:wZ l=true) (h:∃n,∀k,n<=k->dD E N (run E k) (some H.length) l F H=some (F',H')):Ex E N (.ru l) F H .norm F' H':=
 let ⟨n,h⟩:=h;⟨n,λk hk=>by simp only[gA,B,if_true,h k hk,Option.map_some]⟩
theorem Ex.skip:Ex E N .skip F H .norm F H:=⟨0,λ_ _=>rfl⟩
theorem Ex.exit:Ex E N (.exit id) F H (.exit id) F H:=⟨0,λ_ _=>rfl⟩
theorem Ex.ret:Ex E N .ret F H .ret F H:=⟨0,λ_ _=>rfl⟩
theorem Ex.seq (h1:Ex E N a F H .norm F1 H1) (B:Ex E N b F1 H1 o F' H'):Ex E N (.seq a b) F H o F' H':=by
 obtain⟨n,h1⟩:=h1;obtain⟨m,B⟩:=B;exact⟨max n m,λk hk=>by simp only[gA,h1 k (by omega)];exact B k (by omega)⟩
theorem Ex.xL (h1:Ex E N a F H o F' H') (B:o≠.norm):Ex E N (.seq a b) F H o F' H':=by
 obtain⟨n,h1⟩:=h1;refine⟨n,λk hk=>?_⟩
 simp only[gA,h1 k hk];cases o <;> first|exact absurd rfl B|rfl
theorem Ex.pW (B:bC N F x=.bool true) (h:Ex E N a F H o F' H'):Ex E N (.cond x a b) F H o F' H':=by
 obtain⟨n,h⟩:=h;exact⟨n,λk hk=>by simp only[gA,B,if_true,h k hk]⟩
theorem Ex.sP (B:bC N F x=.bool false) (h:Ex E N b F H o F' H'):Ex E N (.cond x a b) F H o F' H':=by
 obtain⟨n,h⟩:=h;exact⟨n,λk hk=>by simp only[gA,B,Bool.false_eq_true,if_false,h k hk]⟩
theorem Ex.block (h:Ex E N c F H .norm F' H'):Ex E N (.block id c) F H .norm F' H':=by
 obtain⟨n,h⟩:=h;exact⟨n,λk hk=>by simp only[gA,h k hk]⟩
theorem Ex.Cg (h:Ex E N c F H (.exit id) F' H'):Ex E N (.block id c) F H .norm F' H':=by
 obtain⟨n,h⟩:=h;exact⟨n,λk hk=>by simp only[gA,h k hk,if_true]⟩
theorem Ex.L5 (h:Ex E N c F H .ret F' H'):Ex E N (.block id c) F H .ret F' H':=by
 obtain⟨n,h⟩:=h;exact⟨n,λk hk=>by simp only[gA,h k hk]⟩
theorem Ex.loop (h:pE E N c F H o F' H'):Ex E N (.loop c) F H o F' H':=by
 obtain⟨n,h⟩:=h;exact⟨n,λk hk=>h k hk k hk⟩
theorem pE.step (h1:Ex E N c F H .norm F1 H1) (B:pE E N c F1 H1 o F' H'):pE E N c F H o F' H':=by
 obtain⟨n,h1⟩:=h1;obtain⟨m,B⟩:=B;refine⟨max n m+1,λk hk u w=>?_⟩
 cases u with
 | zero=>omega
 | succ u=>simp only[jO,h1 k (by omega)];exact B k (by omega) u (by omega)
theorem pE.stop (h1:Ex E N c F H o F' H') (B:o≠.norm):pE E N c F H o F' H':=by
 obtain⟨n,h1⟩:=h1;refine⟨n+1,λk hk u w=>?_⟩
 cases u with
 | zero=>omega
 | succ u=>
  simp only[jO,h1 k (by omega)]
  cases o <;> first|exact absurd rfl B|rfl
end
theorem Ex.run {E:Env} {nm:FuncId->Option Nat} {N:Nat->FuncId} (B:∀f s,nm f=some s->N s=f) {f:FuncId} {fi:FI} {rc:RC} (D:E.ft f=some fi) (hc:bJ ⟨E,nm,fi.ntmps⟩ false fi.body=some rc) {args:List V} (G:args.length<=fi.ntmps) {H H':bf} {F':Frame}
 (h:Ex E N rc args H .ret F' H') {vs:List V} (hr:gN E F' H' fi.results=some vs):∃n,run E n (.fn f) args H=some (result vs,H'):=by
 obtain⟨n,h⟩:=h;refine⟨n+1,?_⟩;have:=Ow (X:=⟨E,nm,fi.ntmps⟩) (call:=Go.VE.run E n) B (lf:=n) rc fi.body args H _ hc (h n (Nat.le_refl _));simp only[Go.VE.run,i_,D,if_pos G,this,hr,Option.map_some]
@[simp] theorem bR (F:Frame) (i j:Nat) (v:V):get (set F i v) j=if i=j then v else get F j:=by
 split
 .rename_i h;subst h;exact rj F i v
 .rename_i h;exact gC F v h
def refs:List Nat->List (List V)->List (List V)
 | id::ids,r::rs=>[V.hsl id 1 0 r.length]::refs ids rs
 | _,_=>[]
def oD (r:List V):List (List V):=r.map λu=>[u]
structure rQ (H:bf) (w:V) (o:Nat) (ids:List Nat) (rows:List (List V)):Prop where
 v:w=if rows=[]then .bE else .hsl o 1 0 rows.length
 ob:rows≠[]->H[o]? = some (.row 1 (refs ids rows))
 len:ids.length=rows.length
 r:∀(i id:Nat) (r:List V),ids[i]? = some id->rows[i]? = some r->H[id]? = some (.row 1 (oD r))
 nd:ids.Nodup
 ne:rows≠[]->o∉ids
theorem xD:∀{ids:List Nat} {rows:List (List V)},ids.length=rows.length->(refs ids rows).length=rows.length
 | [],[],_=>rfl
 | _::ids,_::rows,h=>by simp only[refs,List.length_cons,xD (ids:=ids) (rows:=rows) (by simpa using h)]
theorem EW:∀{ids:List Nat} {rows:List (List V)} (id:Nat) (r:List V),ids.length=rows.length->refs (ids++[id]) (rows++[r])=refs ids rows++[[V.hsl id 1 0 r.length]]
 | [],[],_,_,_=>rfl
 | _::ids,_::rows,id,r,h=>by simp only[refs,List.cons_append,EW (ids:=ids) (rows:=rows) id r (by simpa using h)]
theorem GO:∀{ids:List Nat} {rows:List (List V)} {i id:Nat} {r:List V},ids[i]? = some id->rows[i]? = some r->(refs ids rows)[i]? = some [V.hsl id 1 0 r.length]
 | [],_,_,_,_,h,_=>by simp at h
 | _::_,[],_,_,_,_,h=>by simp at h
 | a::ids,b::rows,0,id,r,h1,B=>by simp at h1 B;subst h1 B;rfl
 | a::ids,b::rows,i+1,id,r,h1,B=>by simpa [refs]using GO (ids:=ids) (rows:=rows) (i:=i) (by simpa using h1) (by simpa using B)
theorem Gl:∀{ids:List Nat} {rows:List (List V)} {i:Nat} {r B:List V},rows[i]? = some r->B.length=r.length->refs ids (rows.set i B)=refs ids rows
 | [],_,_,_,_,_,_=>by simp[refs]
 | _::_,[],_,_,_,_,_=>by simp[refs]
 | a::ids,b::rows,0,r,B,h,D=>by simp at h;subst h;simp only[List.set_cons_zero,refs,D]
 | a::ids,b::rows,i+1,r,B,h,D=>by simp only[List.set_cons_succ,refs,Gl (ids:=ids) (rows:=rows) (i:=i) (by simpa using h) D]
section
variable {H H':bf} {v:V} {o:Nat} {ids:List Nat} {rows:List (List V)}
theorem rQ.nil (H:bf) (o:Nat):rQ H .bE o [] []:=⟨rfl,λh=>absurd rfl h,rfl,λi id r h=>by simp at h,.nil,λh=>absurd rfl h⟩
theorem rQ.heap (n:rQ H v o ids rows) (B:rows≠[]->H'[o]? = H[o]?) (hi:∀id∈ids,H'[id]? = H[id]?):rQ H' v o ids rows:=
 ⟨n.v,λh=>by rw[B h];exact n.ob h,n.len,λi id r h1 u=>by rw[hi id (List.mem_of_getElem? h1)];exact n.r i id r h1 u,n.nd,n.ne⟩
theorem rQ.lt (n:rQ H v o ids rows):(rows≠[]->o<H.length)/\∀id∈ids,id<H.length:=by
 refine⟨λh=>(ζe.1 (n.ob h)).1,λid u=>?_⟩
 obtain⟨i,hi⟩:=List.getElem?_of_mem u;have w:=(ζe.1 hi).1;have:=n.r i id _ hi (ζd (show i<rows.length from n.len▸w));exact(ζe.1 this).1
theorem rQ.more (n:rQ H v o ids rows) (X:bf):rQ (H++X) v o ids rows:=
 n.heap (λh=>List.getElem?_append_left (n.lt.1 h)) λid u=>List.getElem?_append_left (n.lt.2 id u)
theorem rQ.push (n:rQ H v o ids rows) (r:List V) (T:rows.length+1<=2147483648) :
 ∃H',eM (H++[.row 1 (oD r)]++[.row 1 [[.hsl H.length 1 0 r.length]]]) (.append 1) [v,.hsl (H.length+1) 1 0 1]=some (.hsl (H.length+2) 1 0 (rows.length+1),H') /\
  rQ H' (.hsl (H.length+2) 1 0 (rows.length+1)) (H.length+2) (ids++[H.length]) (rows++[r])/\H.length<=H'.length/\(∀id,id<H.length->id≠o\/rows=[]->H'[id]? = H[id]?):=by
 generalize B:H++[.row 1 (oD r)]++[.row 1 [[.hsl H.length 1 0 r.length]]]=H2;have u:H2.length=H.length+2:=by subst B;simp
 have z:∀id,id<H.length->H2[id]? = H[id]? := λid h=>by
  subst B;rw[List.append_assoc,List.getElem?_append_left h]
 have h1:H2[H.length]? = some (.row 1 (oD r)):=by subst B;simp
 have S:H2[H.length+1]? = some (.row 1 [[.hsl H.length 1 0 r.length]]):=by subst B;simp
 have hv:=n.v;have e2:dx H2 1 (.hsl (H.length+1) 1 0 1)=some [[.hsl H.length 1 0 r.length]]:=by
  simp[dx,S,Ob.rows]
 by_cases hr:rows=[]
 .subst hr;rw[if_pos rfl]at hv;subst hv;have:ids=[]:=List.eq_nil_of_length_eq_zero n.len;subst this;refine⟨H2++[.row 1 [[.hsl H.length 1 0 r.length]]],?_,⟨by simp,λ_=>by rw[<-u];simp[refs],rfl,λi id L hi w=>?_,by simp,λ_=>by simp⟩,by simp[u];omega,λid C _=>?_⟩
  .have e1:dx H2 1 .bE=some []:=rfl;simp only[eM,e1,e2,gq,List.length_nil,List.length_singleton,Option.map_some,u];simp
  .cases i with
   | zero=>
    simp at hi w;subst hi w;rw[List.getElem?_append_left (by omega)];exact h1
   | succ i=>simp at hi
  .rw[List.getElem?_append_left (by omega)];exact z id C
 .rw[if_neg hr]at hv;subst hv;have O:=n.ob hr;have G:=n.lt.1 hr;have e1:dx H2 1 (.hsl o 1 0 rows.length)=some (refs ids rows):=by
   simp only[dx,if_true,z o G,O,ζb,Ob.rows,xD n.len,Nat.zero_add,Nat.le_refl,List.drop_zero];rw[List.take_of_length_le (by rw[xD n.len];exact Nat.le_refl _)]
  have U:gq H2 (.hsl o 1 0 rows.length)=some (H2.set o .dead):=by
   simp only[gq,z o G,O]
  have A:∀id,id≠o->(H2.set o Ob.dead++[Ob.row 1 (refs ids rows++[[.hsl H.length 1 0 r.length]])])[id]? = if id<H2.length then H2[id]? else(H2.set o Ob.dead++[Ob.row 1 (refs ids rows++[[.hsl H.length 1 0 r.length]])])[id]? := λid D=>by
   split
   .rename_i h;rw[List.getElem?_append_left (by simpa using h),List.getElem?_set_ne (Ne.symm D)]
   .rfl
  refine⟨H2.set o .dead++[.row 1 (refs ids rows++[[.hsl H.length 1 0 r.length]])],?_,⟨by simp,λ_=>?_,by simp[n.len],λi id L hi w=>?_,?_,λ_ hm=>?_⟩,by simp[u];omega,λid C D=>?_⟩
  .simp only[eM,e1,e2,U,xD n.len,List.length_singleton,T,if_true,Option.map_some,u]
  .rw[EW _ _ n.len,<-u];simp
  .have I:id≠o:=by
    rcases Nat.lt_or_ge i ids.length with h|h
    .rw[List.getElem?_append_left h]at hi;intro e;subst e;exact n.ne hr (List.mem_of_getElem? hi)
    .have:i=ids.length:=by have:=(ζe.1 hi).1;simp at this;omega
     subst this;simp at hi;subst hi;omega
   rcases Nat.lt_or_ge i ids.length with h|h
   .rw[List.getElem?_append_left h]at hi;rw[List.getElem?_append_left (by rw[<-n.len];exact h)]at w
    have J:=n.lt.2 id (List.mem_of_getElem? hi);rw[A id I,if_pos (by omega),z id J]
    exact n.r i id L hi w
   .have:i=ids.length:=by have:=(ζe.1 hi).1;simp at this;omega
    subst this;simp at hi;subst hi;rw[n.len]at w;simp at w;subst w;rw[A _ I,if_pos (by omega)];exact h1
  .rw[List.nodup_append];exact⟨n.nd,by simp,λa W b Q=>by simp at Q;subst Q;exact Nat.ne_of_lt (n.lt.2 a W)⟩
  .rcases List.mem_append.1 hm with hm|hm
   .have:=n.lt.2 _ hm;omega
   .simp at hm
  .rw[A id (D.resolve_right hr),if_pos (by omega)];exact z id C
end
end Go.VE
namespace Go.VE
variable [bN]
theorem sL {E:Env} {N:Nat->FuncId} {F:Frame} {H H1:bf} {call:dh} {b:Option Nat} {o:RO} {l:List RO} {v:V} {r:Frame×bf} (hg:o.gd=none) (hv:bV E N call b o.now o.k (o.az.map (bC N F)) H=some (v,H1)) (h:dD E N call b l (bF F o.dst v) H1=some r):dD E N call b (o::l) F H=some r:=by
 simp only[dD,hg,hv];exact h
theorem vp {E:Env} {N:Nat->FuncId} {F:Frame} {H:bf} {call:dh} {b:Option Nat} {o:RO} {l:List RO} {v:V} {r:Frame×bf} (hg:o.gd=none) (hv:bV E N call b o.now o.k (o.az.map (bC N F)) H=some (v,H)) (h:dD E N call b l (bF F o.dst v) H=some r):dD E N call b (o::l) F H=some r:=sL hg hv h
theorem eR {E:Env} {N:Nat->FuncId} {F:Frame} {H:bf} {call:dh} {b:Option Nat}:dD E N call b [] F H=some (F,H):=rfl
theorem Mn {n:Nat} (h:n<=2147483648):IntKind.wrap .i64 ((n:Int)+1)=((n+1:Nat):Int):=by
 simp[IntKind.wrap,IntKind.bits,IntKind.signed];omega
theorem T6 {n:Nat} (h:n<=2147483648):IntKind.wrap .i64 (((n+1:Nat):Int)-1)=(n:Int):=by
 simp[IntKind.wrap,IntKind.bits,IntKind.signed];omega
theorem rY (H:bf):H.take H.length=H:=List.take_length
theorem AY {E:Env} {nm:FuncId->Option Nat} {f:FuncId} {rc:RC} {n:Nat} {rs:List ResultVar} (h:((E.ft f).map λfi=>(bJ ⟨E,nm,fi.ntmps⟩ false fi.body,Nat.ble n fi.ntmps,fi.results))=some (some rc,true,rs)) :
 ∃fi,E.ft f=some fi/\bJ ⟨E,nm,fi.ntmps⟩ false fi.body=some rc/\n<=fi.ntmps/\fi.results=rs:=by
 obtain⟨fi,h1,u⟩:=ζf.1 h;simp only[ζc]at u;exact⟨fi,h1,u.1,Nat.le_of_ble_eq_true u.2.1,u.2.2⟩
theorem DY {x:V} (h:x.one=true):x.cells=[x]:=by
 cases x <;> first|rfl|(simp[V.one]at h)
theorem Sa {call:dh} {f:FuncId} {args az:List V} {H:bf} (h:borrows call.lv H args=some az) (hc:∀x∈az,x.closed=true):bU call f args H=bU call f az []:=by
 have:borrows call.lv [] az=some az:=by
  clear h
  unfold borrows
  induction az with
  | nil=>rfl
  | cons x l u=>simp only[gV,dU call.lv [] (hc x (by simp)),u λy w=>hc y (List.mem_cons_of_mem _ w)]
 unfold bU;rw[h,this]
def kept (t:Nat->Bool) (n:Nat):List Nat:=(List.range n).filter λi=>i==0 || !t i
theorem vI (t:Nat->Bool) (n:Nat):kept t (n+1)=kept t n++if n==0 || !t n then [n]else []:=by
 unfold kept;rw[List.range_succ,List.filter_append,List.filter_cons];rfl
theorem Aa (t:Nat->Bool):∀n,(kept t n).length<=n:=λn=>by
 unfold kept;exact Nat.le_trans (List.length_filter_le ..) (by simp)
theorem HW {t:Nat->Bool} {n i:Nat} (h:i∈kept t n):i<n:=by
 unfold kept at h;exact List.mem_range.1 (List.mem_filter.1 h).1
theorem Bb {t:Nat->Bool}:∀n,(∀i,0<i->i<n->t i=false)->kept t n=List.range n
 | 0,_=>rfl
 | n+1,h=>by
  rw[vI,Bb n λi h1 B=>h i h1 (by omega),List.range_succ]
  congr 1
  cases n with
  | zero=>rfl
  | succ n=>rw[h (n+1) (by omega) (by omega)];simp
theorem zi {t:Nat->Bool} {k:Nat} (B:0<k) (hk:t k=true):∀n,k<n->(kept t n).length+1<=n
 | 0,h=>by omega
 | n+1,h=>by
  rw[vI]
  by_cases e:n=k
  .subst e;have:(n==0 || !t n)=false:=by simp[hk];omega
   rw[this];have:=Aa t n;simp;omega
  .have:=zi B hk n (by omega)
   split <;> simp <;> omega
namespace cmpX
instance {n:Nat}:OfNat Arg n:=⟨.s n⟩
def r1:List RO:=[o1 4 (.k (.bE)) []]
def r2:List RO:=[o1 8 0 [],o2 9 (.p .lenSl) [8] [],o2 10 (.p (.bin (some .int) none .lss)) [9,.k (.int .i64 2)] []]
def r3:List RO:=[o1 11 0 [],o1 4 11 []]
def r4:List RO:=[o1 5 (.k (.int .i64 1)) []]
def r5:List RO:=[o1 12 5 [],o1 13 0 [],o2 14 (.p .lenSl) [13] [],o2 15 (.p (.bin (some .int) none .lss)) [12,14] []]
def on (d:Nat) (k:K) (az:List Arg):RO:=⟨some d,none,true,k,az,[],[]⟩
def r6:List RO:=[o1 18 1 [],o1 19 0 [],o1 20 5 [],o2 21 (.p (.idxS 1)) [19,20] [],o2 22 (.r (.load 1 false)) [21] [],o1 23 0 [],o1 24 5 [],o2 25 (.p (.bin (some .int) none .sub)) [24,.k (.int .i64 1)] [],o2 26 (.p (.idxS 1)) [23,25] [],o2 27 (.r (.load 1 false)) [26] [],on 28 .c [18,22,27]]
def r7:List RO:=[o1 29 0 [],o1 30 5 [],o2 31 (.p (.slice 1 true false)) [29,30] [],o1 6 31 []]
def r8:List RO:=[o1 7 (.k (.int .i64 1)) []]
def r9:List RO:=[o1 32 7 [],o1 33 6 [],o2 34 (.p .lenSl) [33] [],o2 35 (.p (.bin (some .int) none .lss)) [32,34] []]
def Ip:List RO:=[o1 38 1 [],o1 39 6 [],o1 40 7 [],o2 41 (.p (.idxS 1)) [39,40] [],o2 42 (.r (.load 1 false)) [41] [],o1 43 6 [],o1 44 7 [],o2 45 (.p (.bin (some .int) none .sub)) [44,.k (.int .i64 1)] [],o2 46 (.p (.idxS 1)) [43,45] [],o2 47 (.r (.load 1 false)) [46] [],on 48 .c [38,42,47],on 49 (.p (.not)) [48]]
def Lp:List RO:=[o1 50 0 [],o1 51 5 [],o1 52 6 [],o1 53 7 [],o2 54 (.p (.idxS 1)) [52,53] [],o2 55 (.r (.load 1 false)) [54] [],o2 56 (.p (.idxS 1)) [50,51] [],⟨none,none,false,.l (.store 1),[56,55],[],[]⟩]
def Lx:List RO:=[o1 57 5 [],o2 58 (.p (.bin (some .int) none .add)) [57,.k (.int .i64 1)] [],o1 5 58 []]
def K8:List RO:=[o1 36 7 [],o2 37 (.p (.bin (some .int) none .add)) [36,.k (.int .i64 1)] [],o1 7 37 []]
def UB:RC:=.seq (.seq (.ops r9) (.cond (.s 35) (.skip) (.exit 2))) (.seq (.block 3 (.seq (.ru Ip) (.cond (.s 49) (.seq (.ops Lp) (.ops Lx)) (.skip)))) (.ops K8))
def Mm:List RO:=[o1 59 0 [],o1 60 5 [],o2 61 (.p (.slice 1 true false)) [59,60] [],⟨none,none,false,.l (.clear 1 [.bE]),[61],[],[]⟩]
def K1:List RO:=[o1 62 0 [],o1 63 5 [],o2 64 (.p (.slice 1 false true)) [62,63] [],o1 4 64 []]
def r16:List RO:=[o1 16 5 [],o2 17 (.p (.bin (some .int) none .add)) [16,.k (.int .i64 1)] [],o1 5 17 []]
def PS:RC:=.seq (.seq (.ops r5) (.cond (.s 15) (.skip) (.exit 0))) (.seq (.block 1 (.seq (.ru r6) (.cond (.s 28) (.seq (.ops r7) (.seq (.seq (.ops r8) (.block 2 (.loop UB))) (.seq (.ops Mm) (.seq (.ops K1) (.ret))))) (.skip)))) (.ops r16))
def UY:List RO:=[o1 65 0 [],o1 4 65 []]
def code:RC:=.seq (.ops r1) (.seq (.seq (.ops r2) (.cond (.s 10) (.seq (.ops r3) (.ret)) (.skip))) (.seq (.seq (.ops r4) (.block 0 (.loop PS))) (.seq (.ops UY) (.ret))))
structure V3 (F F':Frame):Prop where
 s0:get F' 0=get F 0
 s1:get F' 1=get F 1
section
variable {E:Env} {N:Nat->FuncId} {F:Frame} {H:bf} {call:dh} {id off L k:Nat}
theorem ld {B:List (List V)} {el:Nat} {v:V} (h:H[id]? = some (.row 1 B)) (hv:B[el]? = some [v]):ga H (.load 1 false) [.hptr id el 0]=some v:=by
 simp[ga,ei,h,Ob.rows,hv,cut,mk]
theorem PF {i:Nat} (h:i<L):lE 1 (.hsl id 1 off L) (i:Int)=some (.hptr id (off+i) 0):=by
 unfold lE;rw[if_neg (by omega)];simp[h]
theorem x2 (f0:get F 0=.hsl id 1 off L):∃F',(∀call,dD E N call none r2 F H=some (F',H))/\get F' 10=.bool (decide ((L:Int)<2))/\(∀s,s<8->get F' s=get F s):=by
 refine⟨_,λcall=>vp (v:=.hsl id 1 off L) rfl ?_ <| vp (v:=.int .i64 L) rfl ?_ <| vp (v:=.bool (decide ((L:Int)<2))) rfl ?_ eR,?_,?_⟩
 .simp[bV,bC,bn,f0]
 .simp[bV,bC,bn,bF,mT]
 .simp[bV,bC,bn,bF,iE,oI]
 .simp[bF]
 .intro s u;simp only[bF,bR]
  repeat (rw[if_neg (by omega)])
theorem x5 (f0:get F 0=.hsl id 1 off L) (f5:get F 5=.int .i64 k):∃F',(∀call,dD E N call none r5 F H=some (F',H))/\get F' 15=.bool (decide (k<L))/\(∀s,s<8->get F' s=get F s):=by
 refine⟨_,λcall=>vp (v:=.int .i64 k) rfl ?_ <| vp (v:=.hsl id 1 off L) rfl ?_ <| vp (v:=.int .i64 L) rfl ?_ <| vp (v:=.bool (decide (k<L))) rfl ?_ eR,?_,?_⟩
 .simp[bV,bC,bn,f5]
 .simp[bV,bC,bn,bF,f0]
 .simp[bV,bC,bn,bF,mT]
 .simp[bV,bC,bn,bF,iE,oI]
 .simp[bF]
 .intro s u;simp only[bF,bR]
  repeat (rw[if_neg (by omega)])
theorem Ss {g:FuncId} {cb:List V} {B:List (List V)} {o2 L2 i:Nat} {a b:V} {t:Bool} (h:H[id]? = some (.row 1 B)) (hi:i+1<L2) (D:i<=2147483648) (G:B[o2+(i+1)]? = some [a]) (J:B[o2+i]? = some [b]) (hk:E.keep g=false) (f1:get F 1=.clo g [] cb) :
 (get F 0=.hsl id 1 o2 L2->get F 5=.int .i64 ((i+1:Nat):Int)->∃F',(∀call,bU call g (a::b::cb) H=some (.bool t)->dD E N call (some H.length) r6 F H=some (F',H))/\get F' 28=.bool t/\(∀s,s<8->get F' s=get F s)) /\
 (get F 6=.hsl id 1 o2 L2->get F 7=.int .i64 ((i+1:Nat):Int)->∃F',(∀call,bU call g (a::b::cb) H=some (.bool t)->dD E N call (some H.length) Ip F H=some (F',H))/\get F' 49=.bool (!t)/\(∀s,s<8->get F' s=get F s)):=by
 have hd:=T6 D;have e1:=ld h G;have e2:=ld h J;have i1:=PF (id:=id) (off:=o2) (L:=L2) hi;have i2:=PF (id:=id) (off:=o2) (L:=L2) (show i<L2 by omega)
 refine⟨λf0 f5=>⟨_,λcall hc=>vp (v:=.clo g [] cb) rfl ?_ <| vp (v:=.hsl id 1 o2 L2) rfl ?_ <| vp (v:=.int .i64 ((i+1:Nat):Int)) rfl ?_ <| vp (v:=.hptr id (o2+(i+1)) 0) rfl ?_ <| vp (v:=a) rfl ?_ <| vp (v:=.hsl id 1 o2 L2) rfl ?_ <| vp (v:=.int .i64 ((i+1:Nat):Int)) rfl ?_ <|
  vp (v:=.int .i64 (i:Int)) rfl ?_ <| vp (v:=.hptr id (o2+i) 0) rfl ?_ <| vp (v:=b) rfl ?_ <| vp (v:=.bool t) rfl ?_ eR,?_,?_⟩,λf6 f7=>⟨_,λcall hc=>vp (v:=.clo g [] cb) rfl ?_ <| vp (v:=.hsl id 1 o2 L2) rfl ?_ <| vp (v:=.int .i64 ((i+1:Nat):Int)) rfl ?_ <| vp (v:=.hptr id (o2+(i+1)) 0) rfl ?_ <| vp (v:=a) rfl ?_ <| vp (v:=.hsl id 1 o2 L2) rfl ?_ <| vp (v:=.int .i64 ((i+1:Nat):Int)) rfl ?_ <|
  vp (v:=.int .i64 (i:Int)) rfl ?_ <| vp (v:=.hptr id (o2+i) 0) rfl ?_ <| vp (v:=b) rfl ?_ <| vp (v:=.bool t) rfl ?_ <| vp (v:=.bool (!t)) rfl ?_ eR,?_,?_⟩⟩
 .simp[bV,bC,bn,f1]
 .simp[bV,bC,bn,bF,f0]
 .simp only[bV,List.map_cons,List.map_nil,bC,bF,bR,Nat.reduceEqDiff,if_true,if_false,f5,bn];rfl
 .simp only[bV,List.map_cons,List.map_nil,bC,bF,bR,Nat.reduceEqDiff,if_true,if_false,bn];rw[i1];rfl
 .simp only[bV,List.map_cons,List.map_nil,bC,bF,bR,Nat.reduceEqDiff,if_true,if_false,rY];rw[e1];rfl
 .simp[bV,bC,bn,bF,f0]
 .simp only[bV,List.map_cons,List.map_nil,bC,bF,bR,Nat.reduceEqDiff,if_true,if_false,f5,bn];rfl
 .simp only[bV,List.map_cons,List.map_nil,bC,bF,bR,Nat.reduceEqDiff,if_true,if_false,bn,iE,hd];rfl
 .simp only[bV,List.map_cons,List.map_nil,bC,bF,bR,Nat.reduceEqDiff,if_true,if_false,bn];rw[i2];rfl
 .simp only[bV,List.map_cons,List.map_nil,bC,bF,bR,Nat.reduceEqDiff,if_true,if_false,rY];rw[e2];rfl
 .simp only[bV,on,List.map_cons,List.map_nil,bC,bF,bR,Nat.reduceEqDiff,if_true,if_false,rY,hk,Bool.false_eq_true,List.nil_append,List.cons_append,hc,V.scalar]
 .simp[bF,on]
 .intro s u;simp only[bF,on,bR]
  repeat (rw[if_neg (by omega)])
 .simp[bV,bC,bn,f1]
 .simp[bV,bC,bn,bF,f6]
 .simp only[bV,List.map_cons,List.map_nil,bC,bF,bR,Nat.reduceEqDiff,if_true,if_false,f7,bn];rfl
 .simp only[bV,List.map_cons,List.map_nil,bC,bF,bR,Nat.reduceEqDiff,if_true,if_false,bn];rw[i1];rfl
 .simp only[bV,List.map_cons,List.map_nil,bC,bF,bR,Nat.reduceEqDiff,if_true,if_false,rY];rw[e1];rfl
 .simp[bV,bC,bn,bF,f6]
 .simp only[bV,List.map_cons,List.map_nil,bC,bF,bR,Nat.reduceEqDiff,if_true,if_false,f7,bn];rfl
 .simp only[bV,List.map_cons,List.map_nil,bC,bF,bR,Nat.reduceEqDiff,if_true,if_false,bn,iE,hd];rfl
 .simp only[bV,List.map_cons,List.map_nil,bC,bF,bR,Nat.reduceEqDiff,if_true,if_false,bn];rw[i2];rfl
 .simp only[bV,List.map_cons,List.map_nil,bC,bF,bR,Nat.reduceEqDiff,if_true,if_false,rY];rw[e2];rfl
 .simp only[bV,on,List.map_cons,List.map_nil,bC,bF,bR,Nat.reduceEqDiff,if_true,if_false,rY,hk,Bool.false_eq_true,List.nil_append,List.cons_append,hc,V.scalar]
 .simp[bV,on,bC,bn,bF]
 .simp[bF,on]
 .intro s u;simp only[bF,on,bR]
  repeat (rw[if_neg (by omega)])
end
end cmpX
end Go.VE
namespace Go.VE
variable [bN]
namespace cmpX
section
variable {E:Env} {N:Nat->FuncId} {F:Frame} {H:bf} {call:dh} {id off L k:Nat}
theorem x7 (f0:get F 0=.hsl id 1 off L) (f5:get F 5=.int .i64 k) (hk:k<=L):∃F',(∀call,dD E N call none r7 F H=some (F',H))/\get F' 6=.hsl id 1 (off+k) (L-k)/\(∀s,s<8->s≠6->get F' s=get F s):=by
 have e:gB 1 (.hsl id 1 off L) (some k) none=some (.hsl id 1 (off+k) (L-k)):=by
  unfold gB dI
  grind
 refine⟨_,λcall=>vp (v:=.hsl id 1 off L) rfl ?_ <| vp (v:=.int .i64 k) rfl ?_ <| vp (v:=.hsl id 1 (off+k) (L-k)) rfl ?_ <| vp (v:=.hsl id 1 (off+k) (L-k)) rfl ?_ eR,?_,?_⟩
 .simp[bV,bC,bn,f0]
 .simp[bV,bC,bn,bF,f5]
 .simp[bV,bC,bF,bR,bn,k7,e]
 .simp[bV,bC,bn,bF]
 .simp[bF]
 .simp[bF,bR]
  grind
theorem x9 {o2 L2 m:Nat} (f6:get F 6=.hsl id 1 o2 L2) (f7:get F 7=.int .i64 m):∃F',(∀call,dD E N call none r9 F H=some (F',H))/\get F' 35=.bool (decide (m<L2))/\(∀s,s<8->get F' s=get F s):=by
 refine⟨_,λcall=>vp (v:=.int .i64 m) rfl ?_ <| vp (v:=.hsl id 1 o2 L2) rfl ?_ <| vp (v:=.int .i64 L2) rfl ?_ <| vp (v:=.bool (decide (m<L2))) rfl ?_ eR,?_,?_⟩
 .simp[bV,bC,bn,f7]
 .simp[bV,bC,bn,bF,f6]
 .simp[bV,bC,bn,bF,mT]
 .simp[bV,bC,bn,bF,iE,oI]
 .simp[bF]
 .simp[bF,bR]
  grind
theorem VL {B:List (List V)} {o2 L2 m p:Nat} {a z:V} (h:H[id]? = some (.row 1 B)) (f0:get F 0=.hsl id 1 off L) (f5:get F 5=.int .i64 p) (f6:get F 6=.hsl id 1 o2 L2) (f7:get F 7=.int .i64 m) (D:m<L2) (hp:p<L)
 (G:B[o2+m]? = some [a]) (J:B[off+p]? = some [z]) (h1:a.one=true) :
 ∃F',(∀call,dD E N call none Lp F H=some (F',H.set id (.row 1 (B.set (off+p) [a]))))/\(∀s,s<8->get F' s=get F s):=by
 have i1:=PF (id:=id) (off:=o2)  D;have i2:=PF (id:=id) (off:=off)  hp;have e1:=ld h G;have u:eM H (.store 1) [.hptr id (off+p) 0,a]=some (.undef,H.set id (.row 1 (B.set (off+p) [a]))):=by
  simp[eM,h,J,DY h1,h1]
 refine⟨_,λcall=>vp (v:=.hsl id 1 off L) rfl ?_ <| vp (v:=.int .i64 p) rfl ?_ <| vp (v:=.hsl id 1 o2 L2) rfl ?_ <| vp (v:=.int .i64 m) rfl ?_ <| vp (v:=.hptr id (o2+m) 0) rfl ?_ <| vp (v:=a) rfl ?_ <| vp (v:=.hptr id (off+p) 0) rfl ?_ <| sL (v:=.undef)  rfl ?_ eR,?_⟩
 .simp[bV,bC,bn,f0]
 .simp[bV,bC,bn,bF,f5]
 .simp[bV,bC,bn,bF,f6]
 .simp[bV,bC,bn,bF,f7]
 .simp[bV,bC,bF,bR,bn];grind
 .simp[bV,bC,bF,bR];grind
 .simp[bV,bC,bF,bR,bn];grind
 .simp[bV,bC,bF,bR];omega
 .simp[bF,bR]
  grind
theorem Ki {p:Nat} (hp:p<=2147483648):(get F 5=.int .i64 p->∃F',(∀call,dD E N call none Lx F H=some (F',H))/\get F' 5=.int .i64 ((p+1:Nat):Int)/\(∀s,s<8->s≠5->get F' s=get F s)) /\
 (get F 7=.int .i64 p->∃F',(∀call,dD E N call none K8 F H=some (F',H))/\get F' 7=.int .i64 ((p+1:Nat):Int)/\(∀s,s<8->s≠7->get F' s=get F s)) /\
 (get F 5=.int .i64 p->∃F',(∀call,dD E N call none r16 F H=some (F',H))/\get F' 5=.int .i64 ((p+1:Nat):Int)/\(∀s,s<8->s≠5->get F' s=get F s)):=by
 have u:=Mn hp;refine⟨λf=>⟨_,λcall=>vp (v:=.int .i64 p) rfl ?_ <| vp (v:=.int .i64 (p+1:Nat)) rfl ?_ <| vp (v:=.int .i64 (p+1:Nat)) rfl ?_ eR,?_,?_⟩,
  λf=>⟨_,λcall=>vp (v:=.int .i64 p) rfl ?_ <| vp (v:=.int .i64 (p+1:Nat)) rfl ?_ <| vp (v:=.int .i64 (p+1:Nat)) rfl ?_ eR,?_,?_⟩,
  λf=>⟨_,λcall=>vp (v:=.int .i64 p) rfl ?_ <| vp (v:=.int .i64 (p+1:Nat)) rfl ?_ <| vp (v:=.int .i64 (p+1:Nat)) rfl ?_ eR,?_,?_⟩⟩ <;>
 first
 | (simp[bV,bC,bn,f];done)
 | (simp only[bV,List.map_cons,List.map_nil,bC,bF,bR,if_true,bn,iE,u];rfl)
 | grind
 | (simp[bF];done)
 | (simp[bF,bR];grind)
theorem VF {B:List (List V)} {p:Nat} (h:H[id]? = some (.row 1 B)) (f0:get F 0=.hsl id 1 off L) (f5:get F 5=.int .i64 p) (hp:p<L) (D:off+L<=B.length) :
 ∃F',(∀call,dD E N call none Mm F H=some (F',H.set id (.row 1 (B.take (off+p)++List.replicate (L-p) [.bE]++B.drop (off+L)))))/\(∀s,s<8->get F' s=get F s):=by
 have e:gB 1 (.hsl id 1 off L) (some p) none=some (.hsl id 1 (off+p) (L-p)):=by
  unfold gB dI
  grind
 obtain⟨q,u⟩:∃q,L-p=q+1:=⟨L-p-1,by omega⟩
 have hc:eM H (.clear 1 [.bE]) [.hsl id 1 (off+p) (L-p)]=some (.undef,H.set id (.row 1 (B.take (off+p)++List.replicate (L-p) [.bE]++B.drop (off+L)))):=by
  simp[eM,B9,u,h]
  grind
 refine⟨_,λcall=>vp (v:=.hsl id 1 off L) rfl ?_ <| vp (v:=.int .i64 p) rfl ?_ <| vp (v:=.hsl id 1 (off+p) (L-p)) rfl ?_ <| sL (v:=.undef)  rfl ?_ eR,?_⟩
 .simp[bV,bC,bn,f0]
 .simp[bV,bC,bn,bF,f5]
 .simp[bV,bC,bF,bR,bn,k7,e]
 .simp only[bV,List.map_cons,List.map_nil,bC,bF,bR,if_true];omega
 .simp[bF,bR]
  grind
theorem Vw {p:Nat} (f0:get F 0=.hsl id 1 off L) (f5:get F 5=.int .i64 p) (hp:p<=L):∃F',(∀call,dD E N call none K1 F H=some (F',H))/\get F' 4=.hsl id 1 off p:=by
 have e:gB 1 (.hsl id 1 off L) none (some p)=some (.hsl id 1 off p):=by
  unfold gB dI
  grind
 refine⟨_,λcall=>vp (v:=.hsl id 1 off L) rfl ?_ <| vp (v:=.int .i64 p) rfl ?_ <| vp (v:=.hsl id 1 off p) rfl ?_ <| vp (v:=.hsl id 1 off p) rfl ?_ eR,?_⟩
 .simp[bV,bC,bn,f0]
 .simp[bV,bC,bn,bF,f5]
 .simp[bV,bC,bF,bR,bn,k7,e]
 .simp[bV,bC,bn,bF]
 .simp[bF]
theorem Vy:∃F',(∀call,dD E N call none UY F H=some (F',H))/\get F' 4=get F 0:=
 ⟨_,λcall=>vp (v:=get F 0) rfl (by simp[bV,bC,bn]) <| vp (v:=get F 0) rfl (by simp[bV,bC,bn,bF]) eR,by simp[bF]⟩
theorem N1:∃F',(∀call,dD E N call none r3 F H=some (F',H))/\get F' 4=get F 0:=
 ⟨_,λcall=>vp (v:=get F 0) rfl (by simp[bV,bC,bn]) <| vp (v:=get F 0) rfl (by simp[bV,bC,bn,bF]) eR,by simp[bF]⟩
end
structure Ep (E:Env) (g:FuncId) (cb:List V) (H:bf) (id off L:Nat) (rs:List (List V)) (A:Nat->V) (t:Nat->Bool):Prop where
 row:H[id]? = some (.row 1 rs)
 len:off+L<=rs.length
 small:L<=2147483648
 at_:∀i,i<L->rs[off+i]? = some [A i]
 one:∀i,i<L->(A i).one=true
 keep:E.keep g=false
 cmp:∃n,∀k,n<=k->∀i,i+1<L->∀cur,bU (run E k) g (A (i+1)::A i::cb) (H.set id (.row 1 cur))=some (.bool (t (i+1)))
structure Head (g:FuncId) (cb:List V) (id off L kk m:Nat) (rs:List (List V)) (A:Nat->V) (t:Nat->Bool) (F:Frame) (cur:List (List V)):Prop where
 f0:get F 0=.hsl id 1 off L
 f1:get F 1=.clo g [] cb
 f5:get F 5=.int .i64 ((kept t (kk+m)).length:Nat)
 f6:get F 6=.hsl id 1 (off+kk) (L-kk)
 f7:get F 7=.int .i64 m
 len:cur.length=rs.length
 pre:∀p i,(kept t (kk+m))[p]? = some i->cur[off+p]? = some [A i]
 post:∀i,kk+m<=i+1->i<L->cur[off+i]? = some [A i]
 out:∀j,j<off\/off+L<=j->cur[j]? = rs[j]?
 cell:∀i,i<L->∃j,j<L/\cur[off+i]? = some [A j]
section
variable {E:Env} {N:Nat->FuncId} {g:FuncId} {cb:List V} {H:bf} {id off L kk:Nat} {rs:List (List V)} {A:Nat->V} {t:Nat->Bool}
theorem Uj (X:Ep E g cb H id off L rs A t) (aa:0<kk) (ah:kk<L) (ht:t kk=true):∀(d m:Nat) (F:Frame) (B:List (List V)),kk+m+d=L->0<m->Head g cb id off L kk m rs A t F B ->
 ∃F' D,pE E N UB F (H.set id (.row 1 B)) (.exit 2) F' (H.set id (.row 1 D))/\Head g cb id off L kk (L-kk) rs A t F' D:=by
 have O:=(ζe.1 X.row).1;have G:∀B,(H.set id (.row 1 B))[id]? = some (.row 1 B):=λB=>List.getElem?_set_self O
 have ai:=X.small;have af:=X.len;intro d
 induction d with
 | zero=>
  intro m F B he hm h;have em:m=L-kk:=by omega
  subst em;obtain⟨F1,e1,e2,e3⟩:=x9    h.f6 h.f7;refine⟨F1,B,pE.stop (Ex.xL (Ex.seq (Ex.dJ e1) (Ex.sP (by simp[bC,e2]) Ex.exit)) (by simp)) (by simp),?_⟩
  exact⟨by rw[e3 0 (by omega)];exact h.f0,by rw[e3 1 (by omega)];exact h.f1,by rw[e3 5 (by omega)];exact h.f5,by rw[e3 6 (by omega)];exact h.f6,by rw[e3 7 (by omega)];exact h.f7,h.len,h.pre,h.post,h.out,h.cell⟩
 | succ d ih=>
  intro m F B he hm h;obtain⟨F1,a1,a2,a3⟩:=x9    h.f6 h.f7;have T:bC N F1 35=.bool true:=by
   show get F1 35=_;rw[a2,decide_eq_true (by omega)]
  obtain⟨m',rfl⟩:∃m',m=m'+1:=⟨m-1,by omega⟩
  obtain⟨n0,ab⟩:=X.cmp;have c1:B[off+kk+(m'+1)]? = some [A (kk+m'+1)]:=by
   have:=h.post (kk+m'+1) (by omega) (by omega);grind
  have c2:B[off+kk+m']? = some [A (kk+m')]:=by
   have:=h.post (kk+m') (by omega) (by omega);grind
  obtain⟨F2,b1,b2,b3⟩:=(Ss      (L2:=L-kk)  (G B) (by omega) (by omega) c1 c2 X.keep (by rw[a3 1 (by omega)];exact h.f1)).2 (by rw[a3 6 (by omega)];exact h.f6) (by rw[a3 7 (by omega)];exact h.f7)
  have U:∃n,∀k,n<=k->dD E N (run E k) (some (H.set id (.row 1 B)).length) Ip F1 (H.set id (.row 1 B))=some (F2,H.set id (.row 1 B)):=⟨n0,λk hk=>b1 _ (ab k hk (kk+m') (by omega) B)⟩
  have w  := λs hs=>(b3 s hs).trans (a3 s hs)
  have ad:(kept t (kk+(m'+1))).length+1<=kk+(m'+1):=zi aa ht _ (by omega)
  have u:kept t (kk+(m'+1)+1)=kept t (kk+(m'+1))++if t (kk+m'+1)then []else [kk+m'+1]:=by
   rw[vI]
   grind
  have z:kk+(m'+1+1)=kk+(m'+1)+1:=by omega
  cases W:t (kk+m'+1)with
  | true=>
   rw[W]at b2 u;simp  at u;obtain⟨F3,Y,q2,Q⟩:=(Ki     (p:=m'+1) (by omega)).2.1 (by rw[w 7 (by omega)];exact h.f7)
   obtain⟨F',D,i1,i2⟩:=ih (m'+1+1) F3 B (by omega) (by omega) ⟨by rw[Q 0 (by omega) (by omega),w 0 (by omega)];exact h.f0,by rw[Q 1 (by omega) (by omega),w 1 (by omega)];exact h.f1,
    by rw[Q 5 (by omega) (by omega),w 5 (by omega),z,u];exact h.f5,by rw[Q 6 (by omega) (by omega),w 6 (by omega)];exact h.f6,q2,h.len,by rw[z,u];exact h.pre,λi h1 Z=>h.post i (by omega) Z,h.out,h.cell⟩
   exact⟨F',D,pE.step (Ex.seq (Ex.seq (Ex.dJ a1) (Ex.pW T Ex.skip)) (Ex.seq (Ex.block (Ex.seq (Ex.I4 (by decide) U) (Ex.sP (by simp[bC,b2]) Ex.skip))) (Ex.dJ Y))) i1,i2⟩
  | false=>
   rw[W]at b2 u;generalize hK:(kept t (kk+(m'+1))).length=K at *;obtain⟨_,_,hz⟩:=h.cell K (by omega)
   obtain⟨F3,Y,q2⟩:=VL           (G B) (by rw[w 0 (by omega)];exact h.f0) (by rw[w 5 (by omega),h.f5,hK]) (by rw[w 6 (by omega)];exact h.f6) (by rw[w 7 (by omega)];exact h.f7) (by omega) (by omega) c1 hz (X.one _ (by omega))
   rw[List.set_set]at Y;generalize I:B.set (off+K) [A (kk+m'+1)]=J at Y;have hg:∀j,J[j]? = if j=off+K then some [A (kk+m'+1)]else B[j]? := λj=>by
    rw[<-I,List.getElem?_set]
    by_cases e:off+K=j
    .rw[if_pos e,if_pos e.symm,if_pos (by rw[h.len];omega)]
    .rw[if_neg e,if_neg (Ne.symm e)]
   obtain⟨F4,Q,q4,q5⟩:=(Ki     (p:=K) (by omega)).1 (by rw[q2 5 (by omega),w 5 (by omega),h.f5,hK])
   have C:∀s,s<8->s≠5->get F4 s=get F s:=λs h1 Z=>by rw[q5 s h1 Z,q2 s h1,w s h1]
   obtain⟨F5,q6,q7,q8⟩:=(Ki     (p:=m'+1) (by omega)).2.1 (by rw[C 7 (by omega) (by omega)];exact h.f7)
   obtain⟨F',D,i1,i2⟩:=ih (m'+1+1) F5 J (by omega) (by omega) ⟨by rw[q8 0 (by omega) (by omega),C 0 (by omega) (by omega)];exact h.f0,by rw[q8 1 (by omega) (by omega),C 1 (by omega) (by omega)];exact h.f1,
    by rw[q8 5 (by omega) (by omega),q4,z,u,ζi,hK];rfl,by rw[q8 6 (by omega) (by omega),C 6 (by omega) (by omega)];exact h.f6,q7,by rw[<-I,List.length_set];exact h.len,
    λp i S=>by
     rw[z,u]at S;rw[hg]
     by_cases e:p=K
     .subst e;rw[<-hK,List.getElem?_append_right (Nat.le_refl _),Nat.sub_self]at S;cases S;rw[if_pos rfl]
     .have ae:p<(kept t (kk+(m'+1))).length:=by
       have:=(ζe.1 S).1;simp at this;omega
      rw[List.getElem?_append_left ae]at S;rw[if_neg (by omega)];exact h.pre p i S,
    λi h1 Z=>by rw[hg,if_neg (by omega)];exact h.post i (by omega) Z,λj hj=>by rw[hg,if_neg (by omega)];exact h.out j hj,
    λi hi=>by
     rw[hg]
     by_cases e:off+i=off+K
     .rw[if_pos e];exact⟨_,by omega,rfl⟩
     .rw[if_neg e];exact h.cell i hi⟩
   exact⟨F',D,pE.step (Ex.seq (Ex.seq (Ex.dJ a1) (Ex.pW T Ex.skip)) (Ex.seq (Ex.block (Ex.seq (Ex.I4 (by decide) U) (Ex.pW (by simp[bC,b2]) (Ex.seq (Ex.dJ Y) (Ex.dJ Q))))) (Ex.dJ q6))) i1,i2⟩
structure O8 (off L:Nat) (rs:List (List V)) (A:Nat->V) (t:Nat->Bool) (rs':List (List V)):Prop where
 len:rs'.length=rs.length
 pre:∀p i,(kept t L)[p]? = some i->rs'[off+p]? = some [A i]
 all:∀c∈rs',c∈rs\/c=[.bE]
theorem TP (X:Ep E g cb H id off L rs A t):∀(d k:Nat) (F:Frame),k+d=L->0<k->(∀i,0<i->i<k->t i=false)->get F 0=.hsl id 1 off L->get F 1=.clo g [] cb->get F 5=.int .i64 k ->
 (∃F',pE E N PS F H (.exit 0) F' H/\get F' 0=.hsl id 1 off L/\∀i,0<i->i<L->t i=false) \/
 (∃F' D,pE E N PS F H .ret F' (H.set id (.row 1 D))/\get F' 4=.hsl id 1 off (kept t L).length/\O8 off L rs A t D):=by
 have Q:=(ζe.1 X.row).1;have S  := qg X.row;have ah:=X.small;have af:=X.len;intro d
 induction d with
 | zero=>
  intro k F he hk hp f0 f1 f5;have ek:k=L:=by omega
  subst ek;obtain⟨F1,e1,e2,e3⟩:=x5  (N:=N)  f0 f5;exact .inl ⟨F1,pE.stop (Ex.xL (Ex.seq (Ex.dJ e1) (Ex.sP (by simp[bC,e2]) Ex.exit)) (by simp)) (by simp),by grind,hp⟩
 | succ d ih=>
  intro k F he hk hp f0 f1 f5;obtain⟨F1,a1,a2,a3⟩:=x5    f0 f5;have U:bC N F1 15=.bool true:=by
   show get F1 15=_;rw[a2,decide_eq_true (by omega)]
  obtain⟨u,rfl⟩:∃u,k=u+1:=⟨k-1,by omega⟩
  obtain⟨n0,ai⟩:=X.cmp;obtain⟨F2,b1,b2,b3⟩:=(Ss  (N:=N) (cb:=cb) (g:=g) (i:=u) (L2:=L) (t:=t (u+1)) X.row (by omega) (by omega) (X.at_ _ (by omega)) (X.at_ _ (by omega)) X.keep (by rw[a3 1 (by omega)];omega)).1 (by grind) (by grind)
  have W:∃n,∀k,n<=k->dD E N (run E k) (some H.length) r6 F1 H=some (F2,H):=⟨n0,λk hk=>b1 _ (by
   grind)⟩
  have Y  := λs hs=>(b3 s hs).trans (a3 s hs)
  cases w:t (u+1)with
  | false=>
   rw[w]at b2;obtain⟨T,q1,q2,q3⟩:=(Ki (E:=E)  (F:=F2)  (p:=u+1) (by omega)).2.2 (by grind)
   have z:Ex E N PS F H .norm T H:=Ex.seq (Ex.seq (Ex.dJ a1) (Ex.pW U Ex.skip)) (Ex.seq (Ex.block (Ex.seq (Ex.I4 (by decide) W) (Ex.sP (by simp[bC,b2]) Ex.skip))) (Ex.dJ q1))
   rcases ih (u+1+1) T (by omega) (by omega) (λi h1 Z=>by
    grind) (by grind) (by simp_all) q2 with⟨F',i1,i2⟩|⟨F',D,i1,i2⟩
   .exact .inl ⟨F',pE.step z i1,i2⟩
   .exact .inr ⟨F',D,pE.step z i1,i2⟩
  | true=>
   rw[w]at b2;refine .inr ?_;obtain⟨T,q1,q2,q3⟩:=x7 (E:=E) (N:=N)  (H:=H) (k:=u+1) (by rw[Y 0 (by omega)];exact f0) (by rw[Y 5 (by omega)];exact f5) (by omega)
   have G:kept t (u+1)=List.range (u+1):=Bb _ hp;have aa:kept t (u+1+1)=List.range (u+1):=by
    rw[vI,G,w];simp
   have q4:∀call,dD E N call none r8 T H=some (set T 7 (.int .i64 1),H):=λcall=>vp  rfl (by simp[bV,bC,bn]) eR
   have h0:Head g cb id off L (u+1) 1 rs A t (set T 7 (.int .i64 1)) rs:=⟨by rw[gC _ _ (by omega),q3 0 (by omega) (by omega),Y 0 (by omega)];exact f0,by rw[gC _ _ (by omega),q3 1 (by omega) (by omega),Y 1 (by omega)];exact f1,
    by rw[gC _ _ (by omega),q3 5 (by omega) (by omega),Y 5 (by omega),aa,List.length_range];exact f5,by rw[gC _ _ (by omega)];exact q2,by rw[rj];rfl,rfl,
    λp i B=>by
     rw[aa]at B;obtain⟨h1,Z⟩:=ζe.1 B;simp at h1 Z;subst Z;exact X.at_ p (by omega),λi _ Z=>X.at_ i Z,λ_ _=>rfl,λi hi=>⟨i,hi,X.at_ i hi⟩⟩
   obtain⟨F5,C,l1,I⟩:=Uj (N:=N) X (by omega) (by omega) w (L-(u+1)-1) 1 _ rs (by omega) (by omega) h0
   rw[S]at l1;have eL:u+1+(L-(u+1))=L:=by omega
   have ae:=zi (t:=t) (k:=u+1) (by omega) w L (by omega)
   have l5:=I.f5;have J:=I.pre;rw[eL]at l5 J;generalize hK:(kept t L).length=K at *;have ab:(H.set id (.row 1 C))[id]? = some (.row 1 C):=List.getElem?_set_self Q;obtain⟨F6,w1,w2⟩:=VF (E:=E) (N:=N) (p:=K) ab I.f0 l5 (by omega) (by rw[I.len];omega)
   rw[List.set_set]at w1;obtain⟨F7,w3,w4⟩:=Vw (E:=E)     (by rw[w2 0 (by omega)];exact I.f0) (by rw[w2 5 (by omega)];exact l5) (by omega)
   have aj:=I.len;refine⟨F7,C.take (off+K)++List.replicate (L-K) [.bE]++C.drop (off+L),pE.stop (Ex.seq (Ex.seq (Ex.dJ a1) (Ex.pW U Ex.skip)) (Ex.xL (Ex.L5 (Ex.seq (Ex.I4 (by decide) W) (Ex.pW (by simp[bC,b2]) (Ex.seq (Ex.dJ q1) (Ex.seq (Ex.seq (Ex.dJ q4) (Ex.Cg (Ex.loop l1))) (Ex.seq (Ex.dJ w1) (Ex.seq (Ex.dJ w3) Ex.ret))))))) (by simp))) (by simp),w4,?_,λp i B=>?_,λc hc=>?_⟩
   .simp;omega
   .have ak:p<K:=by rw[<-hK];exact(ζe.1 B).1
    rw[List.append_assoc,List.getElem?_append_left (by simp;omega),List.getElem?_take,if_pos (by omega)]
    exact J p i B
   .have ad:∀j x,C[j]? = some x->x∈rs:=λj x O=>by
     by_cases ho:j<off\/off+L<=j
     .rw[I.out j ho]at O;exact List.mem_of_getElem? O
     .obtain⟨i,rfl⟩:∃i,j=off+i:=⟨j-off,by omega⟩
      obtain⟨q,hq,hc⟩:=I.cell i (by omega)
      rw[hc]at O;cases O;exact List.mem_of_getElem? (X.at_ q hq)
    rcases List.mem_append.1 hc with hc|hc
    .rcases List.mem_append.1 hc with hc|hc
     .obtain⟨j,O⟩:=List.getElem?_of_mem (List.mem_of_mem_take hc);exact .inl (ad j c O)
     .exact .inr (List.eq_of_mem_replicate hc)
    .obtain⟨j,O⟩:=List.getElem?_of_mem (List.mem_of_mem_drop hc);exact .inl (ad j c O)
end
end cmpX
end Go.VE
namespace Go.VE
variable [bN]
noncomputable def yd (E:Env) (g:FuncId) (cb:List V) (a b:V):Option Bool:=match Bn E g cb a b with|some (.bool c)=>some c|_=>none
theorem SJ {E:Env} {g:FuncId} {cb:List V} {a b:V} {c:Bool} (h:yd E g cb a b=some c):∃n,∀k,n<=k->bU (run E k) g (a::b::cb) []=some (.bool c):=by
 unfold yd at h;split at h
 .rename_i c' hc;cases h;exact CT hc
 .cases h
def kO (xs:List (List V)) (i:Nat):V:=iA ((xs[i]?).getD [])
noncomputable def wP (E:Env) (es:Nat) (xs:List (List V)):List V->Option (List (List V))
 | [.clo g [] cb]=>if xs.isEmpty then some []else if sV es xs && !E.keep g then
  if(List.range xs.length).all λi=>i==0||(yd E g cb (kO xs i) (kO xs (i-1))).isSome then
   some ((kept (λi=>(yd E g cb (kO xs i) (kO xs (i-1))).getD false) xs.length).map λi=>(xs[i]?).getD [])
  else none
  else none
 | _=>none
noncomputable def rE (E:Env):Dl:=⟨true,wP E⟩
namespace cmpX
section
variable {E:Env} {N:Nat->FuncId} {g:FuncId} {cb:List V} {H:bf} {id off L:Nat} {rs:List (List V)} {A:Nat->V} {t:Nat->Bool}
theorem whole (X:Ep E g cb H id off L rs A t):∃F' B,Ex E N code [.hsl id 1 off L,.clo g [] cb] H .ret F' (H.set id (.row 1 B))/\get F' 4=.hsl id 1 off (kept t L).length/\O8 off L rs A t B:=by
 have u:H.set id (.row 1 rs)=H:=qg X.row;have same:(∀i,0<i->i<L->t i=false)->(kept t L).length=L/\O8 off L rs A t rs:=λh=>by
  have hk:=Bb L h;rw[hk,List.length_range];exact⟨rfl,rfl,λp i Q=>by
   rw[hk]at Q;obtain⟨h1,w⟩:=ζe.1 Q;simp at h1 w;subst w;exact X.at_ p h1,λc hc=>.inl hc⟩
 have g1:∀call,dD E N call none r1 [.hsl id 1 off L,.clo g [] cb] H=some (set [.hsl id 1 off L,.clo g [] cb] 4 .bE,H):=λcall=>vp (v:=.bE) rfl (by simp[bV,bC,bn]) eR
 have k0:get (set [V.hsl id 1 off L,.clo g [] cb] 4 .bE) 0=.hsl id 1 off L:=rfl;have k1:get (set [V.hsl id 1 off L,.clo g [] cb] 4 .bE) 1=.clo g [] cb:=rfl;generalize set [V.hsl id 1 off L,.clo g [] cb] 4 .bE=U at *;obtain⟨F1,S,T,z⟩:=x2 (E:=E) (N:=N) (H:=H) k0
 by_cases W:L<2
 .obtain⟨C,D,G⟩:=N1 (E:=E) (N:=N) (F:=F1) (H:=H);obtain⟨e1,e2⟩:=same λi h1 w=>by omega
  refine⟨C,rs,?_,by rw[e1,G,z 0 (by omega)];exact k0,e2⟩
  rw[u];exact Ex.seq (Ex.dJ g1) (Ex.xL (Ex.seq (Ex.dJ S) (Ex.pW (by show get F1 10=_;rw[T,decide_eq_true (by omega)]) (Ex.seq (Ex.dJ D) Ex.ret))) (by simp))
 .have g4:∀call,dD E N call none r4 F1 H=some (set F1 5 (.int .i64 1),H):=λcall=>vp (v:=.int .i64 1) rfl (by simp[bV,bC,bn]) eR
  have hc:Ex E N (.seq (.ops r2) (.cond (.s 10) (.seq (.ops r3) (.ret)) (.skip))) U H .norm F1 H:=Ex.seq (Ex.dJ S) (Ex.sP (by show get F1 10=_;rw[T,decide_eq_false (by omega)]) Ex.skip)
  rcases TP (N:=N) X (L-1) 1 (set F1 5 (.int .i64 1)) (by omega) (by omega) (λi h1 w=>by omega) (by rw[gC _ _ (by omega),z 0 (by omega)];exact k0) (by rw[gC _ _ (by omega),z 1 (by omega)];exact k1) (by rw[rj];rfl)with⟨F',I,J,O⟩|⟨F',B,I,J,O⟩
  .obtain⟨C,D,G⟩:=Vy (E:=E) (N:=N) (F:=F') (H:=H);obtain⟨e1,e2⟩:=same O;refine⟨C,rs,?_,by rw[e1,G];exact J,e2⟩
   rw[u];exact Ex.seq (Ex.dJ g1) (Ex.seq hc (Ex.seq (Ex.seq (Ex.dJ g4) (Ex.Cg (Ex.loop I))) (Ex.seq (Ex.dJ D) Ex.ret)))
  .exact⟨F',B,Ex.seq (Ex.dJ g1) (Ex.seq hc (Ex.xL (Ex.seq (Ex.dJ g4) (Ex.L5 (Ex.loop I))) (by simp))),J,O⟩
theorem empty {w:V} (c:V) (B:w=.bE\/w=.dm):∃F',Ex E N code [w,c] H .ret F' H/\get F' 4=w:=by
 have g1:∀call,dD E N call none r1 [w,c] H=some (set [w,c] 4 .bE,H):=λcall=>vp (v:=.bE) rfl (by simp[bV,bC,bn]) eR
 have k0:get (set [w,c] 4 .bE) 0=w:=rfl;generalize set [w,c] 4 .bE=z at *;have A:mT w=some (.int .i64 0):=by rcases B with rfl|rfl <;> rfl
 have u:∃F1,(∀call,dD E N call none r2 z H=some (F1,H))/\get F1 10=.bool true/\get F1 0=w:=by
  refine⟨_,λcall=>vp (v:=w) rfl ?_ <| vp (v:=.int .i64 0) rfl ?_ <| vp (v:=.bool true) rfl ?_ eR,?_,?_⟩
  .simp[bV,bC,bn,k0]
  .simp[bV,bC,bn,bF,A]
  .simp[bV,bC,bn,bF,iE,oI]
  .simp[bF]
  .simp[bF,k0]
 obtain⟨F1,u,C,D⟩:=u;obtain⟨G,I,J⟩:=N1 (E:=E) (N:=N) (F:=F1) (H:=H);exact⟨G,Ex.seq (Ex.dJ g1) (Ex.xL (Ex.seq (Ex.dJ u) (Ex.pW C (Ex.seq (Ex.dJ I) Ex.ret))) (by simp)),by rw[J,D]⟩
end
end cmpX
theorem OY {E:Env} {f:FuncId} {nm:FuncId->Option Nat} {N:Nat->FuncId} (hN:∀f s,nm f=some s->N s=f) (hk:E.keep f=true) (ho:E.own f=false)
 (hf:∃fi,E.ft f=some fi/\bJ ⟨E,nm,fi.ntmps⟩ false fi.body=some cmpX.code/\2<=fi.ntmps/\fi.results=[.tmp 4]):mb E f (rE E):=by
 obtain⟨fi,h1,h2,h3,h4⟩:=hf;have D:∀{w c:V} {H H':bf} {F':Frame} {r:V},Ex E N cmpX.code [w,c] H .ret F' H'->get F' 4=r->∃n,∀k,n<=k->run E k (.fn f) [w,c] H=some (r,H'):=λ{w c H H' F' r} hx hr=>by
  obtain⟨n,G⟩:=Ex.run hN h1 h2 (args:=[w,c]) (by simpa using h3) hx (vs:=[r]) (by rw[h4];simp[gN,hr])
  exact⟨n,λk hk=>(nI E hk).go _ _ _ _ G⟩
 refine⟨hk,ho,?_,?_,?_⟩
 .intro es z vs ys h;simp only[rE,wP]at h;refine⟨?_,λe=>by simp[rE]at e⟩
  split at h
  .split at h
   .cases h;simp
   .split at h
    .split at h
     .cases h;simpa using Aa _ _
     .cases h
    .cases h
  .cases h
 .intro es vs ys h H Z ws w hw he;simp only[rE,wP]at h;split at h
  .obtain⟨w2,r,rfl,q1,q2⟩:=hw.inv;rw[q2.cO];obtain⟨F',e1,e2⟩:=cmpX.empty (E:=E) (N:=N) (H:=H) w2 he;obtain⟨n,G⟩:=D e1 e2;exact⟨n,[],λk hk=>by rw[List.append_nil];exact G k hk⟩
  .cases h
 .intro es z vs ys h H Z ws id off rs hw S T ae J hz;simp only[rE,wP]at h;split at h
  .rename_i g cb;obtain⟨w2,r,rfl,q1,q2⟩:=hw.inv;rw[q2.cO];obtain⟨a',B,rfl,ha,af⟩:∃a' B,w2=.clo g a' B/\cW H Z [] a'/\cW H Z cb B:=q1.jv;rw[ha.cO]at *;split at h
   .rename_i he;cases h;have:z=[]:=by simpa using he
    subst this;have e2:∃F',Ex E N cmpX.code [.hsl id es off 0,.clo g [] B] H .ret F' H/\get F' 4=.hsl id es off 0:=by
     have g1:∀call,dD E N call none cmpX.r1 [.hsl id es off 0,.clo g [] B] H=some (set [.hsl id es off 0,.clo g [] B] 4 .bE,H):=λcall=>vp (v:=.bE) rfl (by simp[bV,bC,bn]) eR
     have k0:get (set [V.hsl id es off 0,.clo g [] B] 4 .bE) 0=.hsl id es off 0:=rfl;generalize set [V.hsl id es off 0,.clo g [] B] 4 .bE=F0 at *;have a1:∃F1,(∀call,dD E N call none cmpX.r2 F0 H=some (F1,H))/\get F1 10=.bool true/\get F1 0=.hsl id es off 0:=by
      refine⟨_,λcall=>vp (v:=.hsl id es off 0) rfl ?_ <| vp (v:=.int .i64 0) rfl ?_ <| vp (v:=.bool true) rfl ?_ eR,?_,?_⟩
      .simp[bV,bC,bn,k0]
      .simp[bV,bC,bn,bF,mT]
      .simp[bV,bC,bn,bF,iE,oI]
      .simp[bF]
      .simp[bF,k0]
     obtain⟨F1,a1,a2,a3⟩:=a1;obtain⟨F2,b1,b2⟩:=cmpX.N1 (E:=E) (N:=N) (F:=F1) (H:=H);exact⟨F2,Ex.seq (Ex.dJ g1) (Ex.xL (Ex.seq (Ex.dJ a1) (Ex.pW a2 (Ex.seq (Ex.dJ b1) Ex.ret))) (by simp)),by rw[b2,a3]⟩
    obtain⟨F',e1,e3⟩:=e2;obtain⟨n,G⟩:=D e1 e3;refine⟨n,rs,[],λk hk=>?_,rfl,⟨rfl,λj u v hu=>by simp at hu⟩,J⟩
    rw[List.append_nil,qg S];exact G k hk
   .rename_i al;split at h
    .rename_i L;simp only[ζh,Bool.not_eq_true']at L;obtain⟨c1,c3⟩:=L;obtain⟨rfl,U,W⟩:=xZ c1;split at h
     .rename_i Y;cases h;have O:∀i,i<z.length->∃a,rs[off+i]? = some [a]/\FR H Z (kO z i) a/\a.one=true:=λi hi=>by
       obtain⟨e,p2⟩:=W i z[i] (ζd hi);have Q:off+i<rs.length:=by omega
       have:=ae.2 i z[i] rs[off+i] (ζd hi) (by rw[List.getElem?_take,if_pos hi,List.getElem?_drop,ζd Q])
       rw[e]at this;obtain⟨y,ys,e2,r1,r2⟩:=this.inv;rw[r2.cO]at e2;have e3:kO z i=iA z[i]:=by unfold kO;rw[ζd hi];rfl
       exact⟨y,by rw[ζd Q,e2],by rw[e3];exact r1,by rw[r1.one];exact p2⟩
      let A:Nat->V:=λi=>match rs[off+i]? with|some (a::_)=>a|_=>.undef
      have hA:∀i,i<z.length->rs[off+i]? = some [A i]/\FR H Z (kO z i) (A i)/\(A i).one=true:=λi hi=>by
       obtain⟨a,p1,p2,p4⟩:=O i hi;have:A i=a:=by show (match rs[off+i]? with|some (a::_)=>a|_=>V.undef)=a;rw[p1]
       rw[this];exact⟨p1,p2,p4⟩
      have aa:∀i,i+1<z.length->∃b,yd E g cb (kO z (i+1)) (kO z i)=some b:=λi hi=>by
       have:=List.all_eq_true.1 Y (i+1) (List.mem_range.2 hi);simp only[Nat.add_sub_cancel,Bool.or_eq_true]at this;rcases this with h|h
       .simp at h
       .exact Option.isSome_iff_exists.1 h
      have X:cmpX.Ep E g B H id off z.length rs A (λi=>(yd E g cb (kO z i) (kO z (i-1))).getD false):=by
       refine⟨S,T,U,λi hi=>(hA i hi).1,λi hi=>(hA i hi).2.2,c3,?_⟩
       obtain⟨M,hM⟩:=CH (n:=z.length-1) (p:=λi k=>bU (run E k) g (kO z (i.1+1)::kO z i.1::cb) []=some (.bool ((yd E g cb (kO z (i.1+1)) (kO z i.1)).getD false))) (λi=>by
        obtain⟨b,Q⟩:=aa i.1 (by have:=i.2;omega)
        obtain⟨n,G⟩:=SJ Q;exact⟨n,λk hk=>by rw[G k hk,Q];rfl⟩)
       obtain⟨L1,ah⟩:=kS ((List.range z.length).map (kO z));obtain⟨L2,ai⟩:=kS cb;have ab:∀i k,i<z.length->L1<=k->(kO z i).lvl k=true:=λi k hi hk=>w9 hk (lz.1 ah i _ (by simp[hi]))
       refine⟨max M (max L1 L2),λk hk i hi ad=>?_⟩
       have C:∀j,Z j->Z j/\bl (H.set id (.row 1 ad)) j=bl H j:=λj hj=>⟨hj,by
        unfold bl;rw[List.getElem?_set_ne];rintro rfl;exact hz hj⟩
       have hl:cW (H.set id (.row 1 ad)) Z (kO z (i+1)::kO z i::cb) (A (i+1)::A i::B):=.cons ((hA _ hi).2.1.mono C) (.cons ((hA i (by omega)).2.1.mono C) (af.mono C))
       have Q:=hl.IA (k:=k) (by simp only[V.kr,ab _ k hi (by omega),ab i k (by omega) (by omega),nS (by omega:L2<=k) ai,Bool.and_self])
       rw[Sa (by rw[mX];exact Q) (λx hx=>?_)]
       .exact hM ⟨i,by omega⟩ k (by omega)
       .obtain⟨j,hj⟩:=List.getElem?_of_mem hx;obtain⟨y,hy,hr⟩:=hl.get hj;exact V.kR hr.good
      obtain⟨F',aj,e1,e2,e3⟩:=cmpX.whole (N:=N) X;obtain⟨n,G⟩:=D e1 e2;refine⟨n,aj,[],λk hk=>?_,e3.len,?_,?_⟩
      .simp only[rE,if_true,List.length_map,List.append_nil];exact G k hk
      .refine⟨by simp[e3.len];have:=Aa (λi=>(yd E g cb (kO z i) (kO z (i-1))).getD false) z.length;omega,λp a b hp hq=>?_⟩
       rw[List.getElem?_map]at hp;obtain⟨i,hi,rfl⟩:=ζf.1 hp;have I:=HW (List.mem_of_getElem? hi);have ak:=(ζe.1 hi).1;rw[List.getElem?_take,if_pos (by simpa using ak),List.getElem?_drop,e3.pre p i hi]at hq
       cases hq;rw[ζd I,Option.getD_some];have e4:=(W i z[i] (ζd I)).1;have e5:kO z i=iA z[i]:=by unfold kO;rw[ζd I];rfl
       rw[e4,<-e5];exact .cons (hA i I).2.1 .nil
      .intro c hc u hu;rcases e3.all c hc with h|rfl
       .exact J c h u hu
       .simp at hu;subst hu;exact⟨.bE,.same _ rfl⟩
     .cases h
    .cases h
  .cases h
end Go.VE
namespace Go.VE
variable [bN]
def Sl.re {α:Type} (s:Sl α) (l:List α):Sl α:=match s with|.nil=>.nil|.emp=>.emp|.row _=>.row l|.part _=>.part l
def Sl.qV {α:Type} (s:Sl α) (l:List α):Sl α:=match s with|.nil=>.nil|.emp=>.emp|.row _|.part _=>.part l
noncomputable def xR {α:Type} (s:Sl α) (p:α->α->Option Int):Option (Sl α):=
 match s.l with
 | []=>some s
 | x::l=>if l.length<2147483648 then
  let t:_root_.Fin (l.length+1)->_root_.Fin (l.length+1)->Option Int:=λi j=>p (x::l)[i.1] (x::l)[j.1]
  if Ad t then some (s.re ((pz l.length (oa t)).toList.map λi=>(x::l)[i.1]))else none
  else none
def rN {α:Type} (l:List α) (p:α->α->Option Bool) (i:Nat):Option Bool:=match l[i]?,l[i-1]? with|some a,some b=>p a b|_,_=>none
def wk {α:Type} (s:Sl α) (p:α->α->Option Bool):Option (Sl α):=
 if s.l.length<=2147483648/\((List.range s.l.length).all λi=>i==0||(rN s.l p i).isSome)=true then
  some (s.qV ((kept (λi=>(rN s.l p i).getD false) s.l.length).filterMap (s.l[·]?)))
 else none
section
variable {S:Sys} {T:pF} {β γ δ α:Type} {Q:Out×St->Option β} {e:γ->Option β} {cf:Cf}
theorem fK.MG (B:qb S T) (D:∀f a b xs,S.items f a b=some xs->dZ S f a b xs) {fn:FuncId} {A:δ->List V} {E:α->List V} {p:δ->Option α} {sc:Bool} (F:fK S (cU S T) fn A E p sc) {z:δ} {r:α} (h:p z=some r) (hg:V.cD (A z)=true) :
 ∃n,bU (run S.E n) fn (A z) []=some (result (E r)):=by
 have h1:=F.h z (E r) (by simp_all)
 obtain⟨⟨rs,m'⟩,u,w⟩:=ζg.1 h1;obtain⟨n,y,H2,e1,e2,e3⟩:=AW (vV B D) hg u w;refine⟨n,?_⟩;have C:borrows n [] (A z)=some (A z):=by
  have hc:=V.mL hg;generalize A z=l at hc;unfold borrows
  induction l with
  | nil=>rfl
  | cons x l G=>
   simp[V.j9]at hc;simp[gV,dU n [] hc.1,G hc.2]
 unfold bU;rw[mX,C];simp[e1 n (Nat.le_refl _),e2 n (Nat.le_refl _),V.kR e3]
section
variable [bq α]
theorem BB (h1:bq.size α=1) {l:List α} (B:l.length<=2147483648):sV (bq.size α) (rows l)=true:=by
 unfold sV;simp;refine⟨⟨h1,λx u=>?_⟩,by simpa [rows]using B⟩
 obtain⟨a,_,rfl⟩:=List.mem_map.1 u;exact⟨by rw[gx,h1],List.all_eq_true.1 (bq.one a)⟩
theorem Dg (h1:bq.agg α=false) (a:α):iA (cells a)=enc a:=by
 unfold enc;rw[if_neg (by grind)];rfl
theorem Bk (l:List α) (i:Nat) (h:i<l.length):(rows l)[i]? = some (cells l[i]):=by
 unfold rows;grind
theorem QH (U:qb S T) (W:∀f a b xs,S.items f a b=some xs->dZ S f a b xs) {g:FuncId} {p:α->α->Option Int} (F:fK S (cU S T) g (λz:α×α=>[enc z.1,enc z.2]) (λr:Int=>[.int .i64 r]) (λz=>p z.1 z.2) true)
 (h1:bq.size α=1) (Y:bq.agg α=false) {s B:Sl α} (h:xR s p=some B):yT S.E (bq.size α) (rows s.l) [.clo g [] []]=some (rows B.l)/\B.k=s.k:=by
 unfold xR at h;split at h
 .rename_i A;cases h;rw[A];exact⟨rfl,rfl⟩
 .rename_i x l A;split at h
  .dsimp only at h;split at h
   .rename_i G;cases h;rw[A];obtain⟨u,I⟩:=pe G;have C:=BB  h1 (l:=x::l) (by grind)
    have key:∀m,m=l.length->(if Ad (λi j:_root_.Fin (m+1)=>rG S.E g [] (iA (((rows (x::l))[i.1]?).getD [])) (iA (((rows (x::l))[j.1]?).getD [])))then
     some ((pz m (oa (λi j:_root_.Fin (m+1)=>rG S.E g [] (iA (((rows (x::l))[i.1]?).getD [])) (iA (((rows (x::l))[j.1]?).getD []))))).toList.map λi=>((rows (x::l))[i.1]?).getD [])else none) =
     some (rows ((pz l.length (oa λi j:_root_.Fin (l.length+1)=>p (x::l)[i.1] (x::l)[j.1])).toList.map λi=>(x::l)[i.1])):=by
     rintro m rfl;have e1:∀i:_root_.Fin (l.length+1),iA (((rows (x::l))[i.1]?).getD [])=enc (x::l)[i.1]:=λi=>by
      rw[Bk (x::l) i.1 i.2,Option.getD_some,Dg Y]
     have e2:(λi j:_root_.Fin (l.length+1)=>rG S.E g [] (iA (((rows (x::l))[i.1]?).getD [])) (iA (((rows (x::l))[j.1]?).getD [])))=λi j=>p (x::l)[i.1] (x::l)[j.1]:=by
      funext i j
      obtain⟨z,J⟩:=u i j;rw[e1 i,e1 j,J];obtain⟨n,L⟩:=F.MG U W (z:=((x::l)[i.1],(x::l)[j.1])) J (by simp[V.cD,jI])
      unfold rG;rw[Ir L];rfl
     rw[e2,if_pos G]
     congr 1
     unfold rows;rw[List.map_map];refine List.map_congr_left λi _=>?_
     grind
    have w:(s.re ((pz l.length (oa λi j:_root_.Fin (l.length+1)=>p (x::l)[i.1] (x::l)[j.1])).toList.map λi=>(x::l)[i.1])).l=(pz l.length (oa λi j:_root_.Fin (l.length+1)=>p (x::l)[i.1] (x::l)[j.1])).toList.map (λi=>(x::l)[i.1])/\(s.re ((pz l.length (oa λi j:_root_.Fin (l.length+1)=>p (x::l)[i.1] (x::l)[j.1])).toList.map λi=>(x::l)[i.1])).k=s.k:=by
     cases s <;> simp[Sl.l]at A <;> exact⟨rfl,rfl⟩
    refine⟨?_,w.2⟩;rw[w.1,<-key (rows l).length (fL l)];have hc:(sV (bq.size α) (rows (x::l)) && !S.E.keep g)=true:=by
     rw[C,F.k];rfl
    have D  := hc;exact(if_pos D).trans rfl
   simp_all
  simp_all
theorem Ro (U:qb S T) (W:∀f a b xs,S.items f a b=some xs->dZ S f a b xs) {g:FuncId} {p:α->α->Option Bool} (F:fK S (cU S T) g (λz:α×α=>[enc z.1,enc z.2]) (λr:Bool=>[.bool r]) (λz=>p z.1 z.2) true)
 (h1:bq.size α=1) (Y:bq.agg α=false) {s B:Sl α} (h:wk s p=some B):wP S.E (bq.size α) (rows s.l) [.clo g [] []]=some (rows B.l)/\B=s.qV B.l:=by
 have O:∀l:List α,(s.qV l)=s.qV (s.qV l).l:=λl=>by cases s <;> rfl
 refine⟨?_,by
  unfold wk at h;grind⟩
 unfold wk at h;split at h
 .rename_i hc;cases h;obtain⟨X,u⟩:=hc;have G:=BB  h1 X;simp only[wP]
  by_cases I:s.l=[]
  .have:(s.qV ((kept (λi=>(rN s.l p i).getD false) s.l.length).filterMap (s.l[·]?))).l=[]:=by
    cases s <;> simp[Sl.l]at I <;> simp[Sl.qV,Sl.l,I,kept]
   rw[this,I];rfl
  .have J:(rows s.l).isEmpty=false:=by cases hs:s.l with|nil=>grind|cons a l=>rfl
   rw[J,if_neg (by simp),G,F.k,if_pos (by rfl),fL]
   have e1:∀i,0<i->i<s.l.length->∃b,rN s.l p i=some b/\yd S.E g [] (kO (rows s.l) i) (kO (rows s.l) (i-1))=some b:=λi Z hi=>by
    have:=List.all_eq_true.1 u i (List.mem_range.2 hi);simp  at this;obtain⟨b,C⟩:=Option.isSome_iff_exists.1 (this.resolve_left (by omega))
    refine⟨b,C,?_⟩;have w:i-1<s.l.length:=by omega
    unfold rN at C;rw[ζd hi,ζd w]at C;have Q:∀j (D:j<s.l.length),kO (rows s.l) j=enc s.l[j]:=λj D=>by
     unfold kO;rw[Bk _ _ D,Option.getD_some,Dg Y]
    rw[Q i hi,Q (i-1) w];obtain⟨n,hn⟩:=F.MG U W (z:=(s.l[i],s.l[i-1])) C (by simp only[V.cD,jI,Bool.and_self])
    unfold yd;rw[Ir hn];rfl
   have e2:((List.range s.l.length).all λi=>i==0||(yd S.E g [] (kO (rows s.l) i) (kO (rows s.l) (i-1))).isSome)=true:=by
    grind
   rw[if_pos e2];have e3:kept (λi=>(yd S.E g [] (kO (rows s.l) i) (kO (rows s.l) (i-1))).getD false) s.l.length=kept (λi=>(rN s.l p i).getD false) s.l.length:=by
    refine List.filter_congr λi hi=>?_
    by_cases Z:i=0
    .grind
    .obtain⟨b,h3,h4⟩:=e1 i (by omega) (List.mem_range.1 hi)
     simp_all
   rw[e3];have e4:(s.qV ((kept (λi=>(rN s.l p i).getD false) s.l.length).filterMap (s.l[·]?))).l=(kept (λi=>(rN s.l p i).getD false) s.l.length).filterMap (s.l[·]?):=by
    cases s <;> first|rfl|grind
   rw[e4]
   congr 1
   generalize hk:kept (λi=>(rN s.l p i).getD false) s.l.length=L
   have A:∀i∈L,i<s.l.length:=λi hi=>HW (hk▸hi)
   clear hk e3 e4
   induction L with
   | nil=>rfl
   | cons i L ih=>
    have hi:=A i (by simp)
    rw[List.map_cons,ih λj D=>A j (List.mem_cons_of_mem _ D),Bk _ _ hi,List.filterMap_cons,ζd hi]
    rfl
 simp_all
theorem Pa {s B:Sl α} {p:α->α->Option Int} (h:xR s p=some B) (hk:cC s.k=false):B=s:=by
 cases s <;> simp[Sl.k,cC]at hk <;> simpa [xR,Sl.l]using h.symm
theorem TY (n d:Nat) (D:qb S T) (G:∀f a b xs,S.items f a b=some xs->dZ S f a b xs) {fn g:FuncId} (hp:S.prm fn=some (rB S.E)) {p:α->α->Option Int}
 (F:fK S (cU S T) g (λz:α×α=>[enc z.1,enc z.2]) (λr:Int=>[.int .i64 r]) (λz=>p z.1 z.2) true) {s:Sl α} {f:Sl α->Option γ}
 (h:∀B,xR s p=some B->Le ((f B).bind e) (bX S (cU S T) Q (nx S (cU S T) n cf λq=>cT { q.st with m:=bH q.st.m d (cA B) } q.d (.v .undef))))
 (h1:bq.size α=1:=by rfl) (J:bq.agg α=false:=by rfl)
 (U:(fN S (cU S T) n cf).map (λq=>(q.k,bP S.N q.st.g q.az,a_ q.st.m d,q.dr))=some (.c,some [.v (.clo fn [] []),.own d,.v (.clo g [] [])],some (cA s),false):=by kernel_rfl):Le (((xR s p).bind f).bind e) (bX S (cU S T) Q cf):=by
 obtain⟨q,A,hv⟩:=eE U;simp  at hv;obtain⟨C,I,L,O⟩:=hv;refine pG A ?_ h;rw[C,O];intro y w;obtain⟨B,u,w⟩:=ζg.1 w;obtain⟨e1,e2⟩:=QH D G F h1 J u;have hk:=(D.prm fn _ hp).keep;have W:=(D.prm fn _ hp).own;rw[uj false _ _ _ _ _ _ fn [.own d,.v (.clo g [] [])] I rfl];have hc:eB S (cU S T) q.d false (!false||q.now) (eN q.st.m q.fr) fn [.own d,.v (.clo g [] [])] q.st=some (.v .undef,{ q.st with m:=bH q.st.m d (cA B) }):=by
  unfold eB;simp[hk,W,hp,A4,L,cA,cZ];have e3  := e1;simp[rB]
  cases hr:cC s.k with
  | true=>grind
  | false=>have:=Pa u hr;grind
 grind
theorem TN (n d t:Nat) (D:qb S T) (G:∀f a b xs,S.items f a b=some xs->dZ S f a b xs) {fn g:FuncId} (hp:S.prm fn=some (rE S.E)) {p:α->α->Option Bool}
 (F:fK S (cU S T) g (λz:α×α=>[enc z.1,enc z.2]) (λr:Bool=>[.bool r]) (λz=>p z.1 z.2) true) {s:Sl α} {f:Sl α->Option γ}
 (h:∀B,wk s p=some B->Le ((f B).bind e) (bX S (cU S T) Q (nx S (cU S T) n cf λq=>{ q.st with g:=bH q.st.g t (.own t),m:=bH (dO d q.st.m) t (cA B) })))
 (h1:bq.size α=1:=by rfl) (J:bq.agg α=false:=by rfl)
 (U:(fN S (cU S T) n cf).map (λq=>(q.k,bP S.N q.st.g q.az,a_ q.st.m d,q.dr,q.d,St.new { q.st with m:=dO d q.st.m } t))=some (.c,some [.v (.clo fn [] []),.own d,.v (.clo g [] [])],some (cA s),false,some t,true):=by kernel_rfl):Le (((wk s p).bind f).bind e) (bX S (cU S T) Q cf):=by
 obtain⟨q,A,hv⟩:=eE U;simp  at hv;obtain⟨C,I,L,O,W,X⟩:=hv;refine pG A ?_ h;rw[C,O,W];intro y u;obtain⟨B,w,u⟩:=ζg.1 u;cases u;obtain⟨e1,e2⟩:=Ro D G F h1 J w;have hk:=(D.prm fn _ hp).keep;have Y:=(D.prm fn _ hp).own;rw[uj false _ _ _ _ _ _ fn [.own d,.v (.clo g [] [])] I rfl];have hc:eB S (cU S T) (some t) false (!false||q.now) (eN q.st.m q.fr) fn [.own d,.v (.clo g [] [])] q.st=some (.own t,{ q.st with m:=bH (dO d q.st.m) t (cA B) }):=by
  unfold eB;simp[hk,Y,hp,A4,L,cA,cZ];have e3:(rE S.E).go (bq.size α) (rows s.l) [.clo g [] []]=some (rows B.l):=e1;rw[e3];simp[rE,X];have e4:(if cC s.k=true then bu.sl .part (bq.size α) (rows B.l)else .sl s.k (bq.size α) (rows s.l))=.sl B.k (bq.size α) (rows B.l):=by
   rw[e2];cases s <;> rfl
  rw[e4]
 rw[hc];rfl
end
end
end Go.VE
namespace Go.VE
variable [bN]
section
variable {H H':bf} {w:V} {o:Nat} {ids:List Nat} {rows:List (List V)}
theorem rQ.cell (n:rQ H w o ids rows) {p j:Nat} {r:List V} {u:V} (hr:rows[p]? = some r) (hu:r[j]? = some u) :
 ∃id,ids[p]? = some id/\lE 1 w (p:Int)=some (.hptr o p 0)/\ga H (.load 1 false) [.hptr o p 0]=some (.hsl id 1 0 r.length)/\lE 1 (.hsl id 1 0 r.length) (j:Int)=some (.hptr id j 0)/\ga H (.load 1 false) [.hptr id j 0]=some u:=by
 have C:=(ζe.1 hr).1;have D:=(ζe.1 hu).1;have A:rows≠[]:=by intro e;subst e;simp at hr
 have B:p<ids.length:=by rw[n.len];exact C
 have z:=ζd B;refine⟨ids[p],z,?_,?_,?_,?_⟩
 .have:=n.v;rw[if_neg A]at this;subst this;simp[lE,C]
 .have h1:=n.ob A;have G:=GO z hr;simp[ga,ei,h1,Ob.rows,G,cut];rfl
 .simp[lE,D]
 .have h1:=n.r p _ r z hr;simp[ga,ei,h1,Ob.rows,oD,hu,cut];rfl
theorem KY {ids:List Nat} (h:ids.Nodup) {i j:Nat} {a:Nat} (hi:ids[i]? = some a) (B:ids[j]? = some a):i=j:=by
 have h1:=(ζe.1 hi);have u:=(ζe.1 B);obtain⟨h1,e1⟩:=h1;obtain⟨u,e2⟩:=u;exact(List.getElem_inj h).1 (e1.trans e2.symm)
theorem rQ.set (n:rQ H w o ids rows) {p j id:Nat} {r:List V} {u:V} (hr:rows[p]? = some r) (J:j<r.length) (B:ids[p]? = some id) (hu:V.one u=true) (hc:u.cells=[u]) :
 ∃H',eM H (.store 1) [.hptr id j 0,u]=some (.undef,H')/\rQ H' w o ids (rows.set p (r.set j u))/\H'.length=H.length/\(∀i,i≠id->H'[i]? = H[i]?):=by
 have L:=(ζe.1 hr).1;have z:rows≠[]:=by intro e;subst e;simp at hr
 have h1:=n.r p id r B hr;have O:id<H.length:=(ζe.1 h1).1;have C:(oD r).set j [u]=oD (r.set j u):=by simp[oD,List.map_set]
 have D:o≠id:=λe=>n.ne z (e▸List.mem_of_getElem? B)
 refine⟨H.set id (.row 1 (oD (r.set j u))),?_,⟨?_,λ_=>?_,by simp[n.len],λi G Q hi A=>?_,n.nd,λ_=>n.ne z⟩,by simp,λi hi=>List.getElem?_set_ne (Ne.symm hi)⟩
 .have S:(oD r)[j]? = some [r[j]]:=by simp[oD,J]
  simp only[eM,h1,S,hc,List.length_singleton,Nat.zero_add,Nat.le_refl,List.all_cons,hu,List.all_nil,Bool.and_self,and_self,if_true,List.take_zero,List.nil_append];rw[<-C];simp
 .rw[n.v];have:rows.set p (r.set j u)≠[]:=by intro e;apply z;simpa using e
  rw[if_neg z,if_neg this,List.length_set]
 .rw[List.getElem?_set_ne (Ne.symm D),Gl hr (by simp)];exact n.ob z
 .by_cases e:i=p
  .subst e;rw[B]at hi;cases hi;rw[List.getElem?_set_self L]at A;cases A;rw[List.getElem?_set_self O]
  .rw[List.getElem?_set_ne (Ne.symm e)]at A;have I:id≠G:=λT=>e (KY n.nd (T▸hi) B)
   rw[List.getElem?_set_ne I];exact n.r i G Q hi A
end
structure rO (H:bf) (w:V) (l:List (List V)) (id:Nat):Prop where
 c:∀c∈l,c.length=2/\c.all V.one=true
 v:(w=.bE/\l=[])\/∃off xs,w=.hsl id 2 off l.length/\H[id]? = some (.row 2 xs)/\off+l.length<=xs.length/\(xs.drop off).take l.length=l
section
variable {H H':bf} {w:V} {l:List (List V)} {id:Nat}
theorem rO.heap (n:rO H w l id) (h:∀off n,w=.hsl id 2 off n->H'[id]? = H[id]?):rO H' w l id:=
 ⟨n.c,n.v.imp (λh=>h) λ⟨off,u,e1,e2,e3,e4⟩=>⟨off,u,e1,by rw[h _ _ e1];exact e2,e3,e4⟩⟩
theorem rO.lt (n:rO H w l id) {off m:Nat} (h:w=.hsl id 2 off m):id<H.length:=by
 rcases n.v with⟨e,_⟩|⟨_,u,_,e2,_⟩
 .rw[e]at h;cases h
 .exact(ζe.1 e2).1
theorem rO.more (n:rO H w l id) (X:bf):rO (H++X) w l id:=n.heap λ_ _ e=>List.getElem?_append_left (n.lt e)
theorem rO.len (n:rO H w l id):mT w=some (.int .i64 l.length):=by
 rcases n.v with⟨rfl,rfl⟩|⟨off,u,rfl,_⟩ <;> rfl
theorem rO.get (n:rO H w l id) {i:Nat} {c:List V} (hc:l[i]? = some c):∃p,lE 2 w (i:Int)=some p/\ga H (.load 2 true) [p]=some (.agg c):=by
 have hi:=(ζe.1 hc).1;have u:=(n.c c (List.mem_of_getElem? hc)).1;rcases n.v with⟨_,rfl⟩|⟨off,z,rfl,e2,e3,e4⟩
 .simp at hc
 .refine⟨.hptr id (off+i) 0,by simp[lE,hi],?_⟩
  have:z[off+i]? = some c:=by
   rw[<-e4,List.getElem?_take,if_pos hi,List.getElem?_drop]at hc;exact hc
  simp[ga,ei,e2,Ob.rows,this,cut,<-u];rfl
theorem rO.tail {c:List V} (n:rO H w (c::l) id):∃w',gB 2 w (some 1) none=some w'/\rO H w' l id/\∃off m B,w=.hsl id 2 off m/\w'=.hsl id 2 B l.length:=by
 rcases n.v with⟨_,e⟩|⟨off,u,rfl,e2,e3,e4⟩
 .cases e
 .refine⟨.hsl id 2 (off+1) l.length,?_,⟨λc hc=>n.c c (List.mem_cons_of_mem _ hc),.inr ⟨off+1,u,rfl,e2,by simp at e3;omega,?_⟩⟩,⟨_,_,_,rfl,rfl⟩⟩
  .simp[gB,dI];omega
  .have hd:(u.drop off).drop 1=u.drop (off+1):=by rw[List.drop_drop]
   rw[<-hd];have:=congrArg (List.drop 1) e4;rw[List.drop_take]at this;simpa using this
theorem rO.push (n:rO H w l id) {c:List V} (hc:c.length=2/\c.all V.one=true) (B:l.length+1<=2147483648) :
 ∃H',eM (H++[.row 2 [c]]) (.append 2) [w,.hsl H.length 2 0 1]=some (.hsl (H.length+1) 2 0 (l.length+1),H')/\rO H' (.hsl (H.length+1) 2 0 (l.length+1)) (l++[c]) (H.length+1)/\H'.length=H.length+2/\(∀i,i<H.length->(∀off m,w=.hsl id 2 off m->i≠id)->H'[i]? = H[i]?):=by
 have e2:dx (H++[.row 2 [c]]) 2 (.hsl H.length 2 0 1)=some [c]:=by simp[dx,Ob.rows]
 have u:∀c'∈l++[c],c'.length=2/\c'.all V.one=true:=λc' h=>by
  rcases List.mem_append.1 h with h|h
  .exact n.c c' h
  .simp at h;subst h;exact hc
 rcases n.v with⟨rfl,rfl⟩|⟨off,C,rfl,g2,g3,g4⟩
 .have e1:dx (H++[.row 2 [c]]) 2 .bE=some []:=rfl;refine⟨H++[.row 2 [c]]++[.row 2 [c]],?_,⟨u,.inr ⟨0,[c],rfl,by simp,by simp,rfl⟩⟩,by simp,λi hi _=>by rw[List.append_assoc,List.getElem?_append_left hi]⟩
  simp only[eM,e1,e2,gq,List.length_nil,List.length_singleton,Option.map_some];simp
 .have z:=(ζe.1 g2).1;have e1:dx (H++[.row 2 [c]]) 2 (.hsl id 2 off l.length)=some l:=by
   simp only[dx,if_true,List.getElem?_append_left z,g2,ζb,Ob.rows,g3,g4]
  have A:gq (H++[.row 2 [c]]) (.hsl id 2 off l.length)=some (List.set (H++[Ob.row 2 [c]]) id Ob.dead):=by
   simp only[gq,List.getElem?_append_left z,g2]
  refine⟨List.set (H++[Ob.row 2 [c]]) id Ob.dead++[Ob.row 2 (l++[c])],?_,⟨u,.inr ⟨0,l++[c],by simp,by simp,by simp,List.take_of_length_le (by simp)⟩⟩,by simp,λi hi h=>?_⟩
  .simp only[eM,e1,e2,A,List.length_singleton,B,if_true,Option.map_some,ζi]
  .rw[List.getElem?_append_left (by simp;omega),List.getElem?_set_ne (Ne.symm (h _ _ rfl)),List.getElem?_append_left hi]
end
noncomputable def C1 (rs:List RV):Out×St->Option bu
 | (.exit _,_)=>none
 | (_,st)=>(jB st rs).bind λl=>match l with
  | [.own d]=>a_ st.m d
  | _=>none
theorem UC {S:Sys} {c:bS} {rs:List RV} {rc:RC} {st:St} {ob:bu} (h:jN S c (C1 rs) rc [] st=some ob):∃o st' d,cu S c rc st=some (o,st')/\(∀id,o≠.exit id)/\jB st' rs=some [.own d]/\a_ st'.m d=some ob:=by
 rw[nV]at h;obtain⟨⟨o,st'⟩,h1,u⟩:=ζg.1 h;have z:∀id,o≠.exit id:=by rintro id rfl;simp[C1]at u
 have A:(jB st' rs).bind (λl=>match l with|[.own d]=>a_ st'.m d|_=>none)=some ob:=by
  cases o with
  | exit id=>exact absurd rfl (z id)
  | norm=>exact u
  | ret=>exact u
 obtain⟨l,B,w⟩:=ζg.1 A;split at w
 .exact⟨o,st',_,h1,z,B,w⟩
 .cases w
end Go.VE
namespace Go.VE
variable [bN]
def Sl.whole {α:Type} (s:Sl α):Option (Sl α):=match s with|.part _=>none|s=>some s
structure yD (S:Sys) (c:bS) {α δ:Type} [bq δ] (fn:FuncId) (A:α->List V) (p:α->Option (Sl δ)):Prop where
 k:S.E.keep fn=true
 o:S.E.own fn=true
 h:∀z s,p z=some s->∃e m',c fn ((A z).map .v) []=some ([.own e],m')/\a_ m' e=some (cA s)
 sc:∀x:δ,(cells x).all V.scalar=true
theorem yD.mk' {S:Sys} {T:pF} {α δ:Type} [bq δ] (rf:RF) {fn:FuncId} {A:α->List V} {p:α->Option (Sl δ)} (h:∀z,Le ((p z).bind λr=>some (cA r)) (bX S (cU S T) (C1 rf.rs) (.rc rf.body,[],start ((A z).map .v) [])))
 (B:T fn=some rf:=by kernel_rfl) (hk:S.E.keep fn=true:=by kernel_rfl) (D:S.E.own fn=true:=by kernel_rfl) (G:∀z,(A z).length<=rf.na:=by intro z;exact Nat.le_of_ble_eq_true (by kernel_rfl))
 (sc:∀x:δ,(cells x).all V.scalar=true:=by intro x;rfl):yD S (cU S T) fn A p where
 k:=hk
 o:=D
 sc:=sc
 h z s u:=by
  have h1:=h z (cA s) (by rw[u];rfl)
  change jN S (cU S T) (C1 rf.rs) rf.body [] (start ((A z).map .v) [])=some (cA s)at h1;obtain⟨o,st',d,g1,g2,g3,g4⟩:=UC h1;refine⟨d,st'.m,?_,g4⟩;rw[sn B];unfold mD;rw[if_pos (by simpa using G z),g1]
  cases o with
  | exit id=>exact absurd rfl (g2 id)
  | norm=>simp only[g3,Option.map_some]
  | ret=>simp only[g3,Option.map_some]
section
variable {S:Sys} {c:bS} {β γ δ α:Type} [bq δ] {Q:Out×St->Option β} {e:γ->Option β} {cf:Cf}
theorem Vg (n u:Nat) {fn:FuncId} {A:α->List V} {p:α->Option (Sl δ)} (F:yD S c fn A p) (z:α) {f:Sl δ->Option γ}
 (h:∀x,(p z).bind Sl.whole=some x->Le ((f x).bind e) (bX S c Q (nx S c n cf λq=>{ q.st with g:=bH q.st.g u (.own u),m:=bH q.st.m u (cA x) })))
 (J:(fN S c n cf).map (λq=>(q.d,q.k,(bP S.N q.st.g q.az).bind jZ,(!q.dr||q.now),q.st.new u))=some (some u,.c,some (fn,(A z).map .v),true,true):=by kernel_rfl):Le ((((p z).bind Sl.whole).bind f).bind e) (bX S c Q cf):=by
 obtain⟨q,L,hv⟩:=eE J;simp only[ζc]at hv;obtain⟨O,T,U,W,I⟩:=hv;obtain⟨C,g1,g2⟩:=ζg.1 U;refine pG L ?_ h;rw[O,T];intro y D;obtain⟨X,G,D⟩:=ζg.1 D;cases D;obtain⟨s,Y,B⟩:=ζg.1 G;obtain⟨e0,m',hc,Z⟩:=F.h z s Y;rw[uj q.dr _ _ _ _ _ C fn ((A z).map .v) g1 g2];have w:eB S c (some u) q.dr (!q.dr||q.now) (eN q.st.m q.fr) fn ((A z).map .v) q.st=some (.own u,{ q.st with m:=bH q.st.m u (cA X) }):=by
  unfold eB;simp only[F.k,F.o,if_true,W,tu,hc,cZ,Z,cA,I]
  cases s with
  | nil=>cases B;rfl
  | emp=>cases B;rfl
  | row l=>
   cases B;have:kE (rows l)=true:=by
    unfold kE;rw[List.all_eq_true];intro x hx;obtain⟨a,_,rfl⟩:=List.mem_map.1 hx;exact F.sc a
   simp only[Sl.k,Sl.l,cZ,V.cG,this,Bool.and_self,I,if_true];rfl
  | part l=>cases B
 rw[w];rfl
end
end Go.VE
namespace Go.VE
variable [bN]
structure GD where
 m:Nat
 pre:List (Nat×List Gh)
 nd:List (Nat×List Gh×List Gh)
structure GI where
 m:Nat
 i:Nat
 j:Nat
def UM {α:Type} (l:List (Nat×List α)) (i:Nat):List α:=match l with
 | []=>[]
 | (k,x)::r=>bif Nat.beq k i then x else UM r i
def yx (l:List (Nat×List Gh×List Gh)) (i:Nat):List Gh×List Gh:=match l with
 | []=>([],[])
 | (k,x)::r=>bif Nat.beq k i then x else yx r i
def Jf (m:Nat):List Nat->List Nat
 | []=>[]
 | x::l=>bif Nat.beq (m % 2) 1 then x::Jf (m / 2) l else Jf (m / 2) l
def OM:List Arg->List Nat
 | []=>[]
 | .s n::r=>n::OM r
 | _::r=>OM r
def Up (o:RO):List Nat:=(match o.dst with|some d=>[d]|none=>[])++(match o.gd with|some g=>[g.1]|none=>[])++OM o.az
def Vn (G:GD) (s:GI) (o:RO):RO:={ o with dead:=Jf (bif Nat.beq (s.m % 16) 15 then s.m / 16 % 65536 else s.m % 16) (Up o),pre:=UM G.pre s.i }
def GI.op (s:GI):GI:=⟨bif Nat.beq (s.m % 16) 15 then s.m / 1048576 else s.m / 16,s.i+1,s.j⟩
def yU (G:GD):List RO->GI->List RO×GI
 | [],s=>([],s)
 | o::r,s=>(Vn G s o::(yU G r s.op).1,(yU G r s.op).2)
def yL:List Gh->RC->RC
 | [],c=>c
 | g::l,c=>.gh g (yL l c)
def Mj:List Gh->RC->RC
 | [],c=>c
 | g::l,c=>Mj l (.hg c g)
def GI.nd (s:GI):GI:=⟨s.m,s.i,s.j+1⟩
def iM (G:GD):RC->GI->RC×GI
 | .seq a b,s=>(yL (yx G.nd s.j).1 (.seq (iM G a s.nd).1 (iM G b (iM G a s.nd).2).1),(iM G b (iM G a s.nd).2).2)
 | .cond x a b,s=>(yL (yx G.nd s.j).1 (.cond x (iM G a s.nd).1 (iM G b (iM G a s.nd).2).1),(iM G b (iM G a s.nd).2).2)
 | .block id a,s=>(yL (yx G.nd s.j).1 (.block id (iM G a s.nd).1),(iM G a s.nd).2)
 | .loop a,s=>(yL (yx G.nd s.j).1 (.loop (Mj (yx G.nd s.j).2 (iM G a s.nd).1)),(iM G a s.nd).2)
 | .each g ps a b,s=>(yL (yx G.nd s.j).1 (.each g ps (iM G a s.nd).1 (Mj (yx G.nd s.j).2 (iM G b (iM G a s.nd).2).1)),(iM G b (iM G a s.nd).2).2)
 | .ops l,s=>(yL (yx G.nd s.j).1 (.ops (yU G l s.nd).1),(yU G l s.nd).2)
 | .ru l,s=>(yL (yx G.nd s.j).1 (.ru (yU G l s.nd).1),(yU G l s.nd).2)
 | .gh g c,s=>(.gh g c,s)
 | .hg c g,s=>(.hg c g,s)
 | c,s=>(yL (yx G.nd s.j).1 c,s.nd)
theorem jU (c:RC):∀l,erase (yL l c)=erase c
 | []=>rfl
 | g::l=>by simp only[yL,erase,jU c l]
theorem zu:∀l (c:RC),erase (Mj l c)=erase c
 | [],c=>rfl
 | g::l,c=>by simp only[Mj,zu l,erase]
theorem xx (G:GD):∀(l:List RO) s,((yU G l s).1).map RO.strip=l.map RO.strip
 | [],s=>rfl
 | o::r,s=>by simp only[yU,List.map_cons,xx G r];rfl
theorem kL (G:GD):∀(c:RC) s,erase (iM G c s).1=erase c
 | .seq a b,s=>by simp only[iM,jU,erase,kL G a,kL G b]
 | .cond x a b,s=>by simp only[iM,jU,erase,kL G a,kL G b]
 | .block id a,s=>by simp only[iM,jU,erase,kL G a]
 | .loop a,s=>by simp only[iM,jU,erase,zu,kL G a]
 | .each g ps a b,s=>by simp only[iM,jU,erase,zu,kL G a,kL G b]
 | .ops l,s=>by simp only[iM,jU,erase,xx]
 | .ru l,s=>by simp only[iM,jU,erase,xx]
 | .gh g c,s=>rfl
 | .hg c g,s=>rfl
 | .skip,s=>by simp only[iM,jU]
 | .ret,s=>by simp only[iM,jU]
 | .exit _,s=>by simp only[iM,jU]
theorem Hs {X:CX} {dr:Bool} {ops:List Oper} {i:Nat} {o:Oper} {r:RO} (h:mw X dr ops i o=some r):r.strip=r:=by
 obtain⟨_,_,_,_,_,_,rfl⟩:=Ct h;rfl
theorem v8 {X:CX} {dr:Bool} {ops:List Oper}:∀{l:List Oper} {i:Nat} {r:List RO},j_ X dr ops i l=some r->r.map RO.strip=r
 | [],i,r,h=>by cases h;rfl
 | o::l,i,r,h=>by
  simp only[j_]at h;split at h
  .rename_i a b B D;cases h;simp only[List.map_cons,Hs B,v8 D]
  .cases h
theorem Hl {X:CX}:∀{c:Code} {ro:Bool} {r:RC},bJ X ro c=some r->erase r=r:=by
 intro c
 induction c with
 | region _ ops dr=>
  intro ro r h;simp only[bJ]at h;split at h
  .split at h
   .obtain⟨l,h1,rfl⟩:=ζf.1 h;simp only[erase,v8 h1]
   .cases h
  .obtain⟨l,h1,rfl⟩:=ζf.1 h;simp only[erase,v8 h1]
 | seq a b u w=>
  intro ro r h;simp only[bJ]at h;split at h
  .rename_i h1 z;cases h;simp only[erase,u h1,w z]
  .cases h
 | cond c a b u w=>
  intro ro r h;simp only[bJ]at h;split at h
  .rename_i h1 z;cases h;simp only[erase,u h1,w z]
  .cases h
 | block id a u=>
  intro ro r h;simp only[bJ]at h;obtain⟨l,h1,rfl⟩:=ζf.1 h;simp only[erase,u h1]
 | loop a u=>
  intro ro r h;simp only[bJ]at h;obtain⟨l,h1,rfl⟩:=ζf.1 h;simp only[erase,u h1]
 | rangeFunc g A a b u w=>
  intro ro r h;simp only[bJ]at h;split at h
  .cases h
  .split at h
   .rename_i h1 z;cases h;simp only[erase,u h1,w z]
   .cases h
 | _=>intro ro r h;first|cases h;rfl|(simp only[bJ]at h;cases h;rfl)|(simp only[bJ]at h;cases h)
def M5 (E:Env) (nm:FuncId->Option Nat) (G:FuncId->Option GD):pF:=λf=>
 (G f).bind λg=>(E.ft f).bind λu=>(bJ ⟨E,nm,u.ntmps⟩ false u.body).bind λc=>(u.results.mapM (Ae E)).bind λrs=>some ⟨u.ntmps,rs,(iM g c ⟨g.m,0,0⟩).1⟩
theorem A9 {E:Env} {nm:FuncId->Option Nat} {G:FuncId->Option GD} {f:FuncId} {rf:RF} (h:M5 E nm G f=some rf):∃fi,E.ft f=some fi/\vO E nm fi rf:=by
 unfold M5 at h;obtain⟨g,_,h⟩:=ζg.1 h;obtain⟨fi,h1,h⟩:=ζg.1 h;obtain⟨c,u,h⟩:=ζg.1 h;obtain⟨rs,w,h⟩:=ζg.1 h;cases h;exact⟨fi,h1,by rw[u,kL,Hl u],w,rfl⟩
theorem w8:∀(g:FuncId) (s:Nat),some g=some s->(λn=>n) s=g:=λ_ _ h=>(Option.some.inj h).symm
def pU (o:Option RF):RF:=o.getD ⟨0,[],.skip⟩
def tb (T:pF) (f:FuncId):RC:=(pU (T f)).body
def tr (T:pF) (f:FuncId):List RV:=(pU (T f)).rs
theorem yI {o:Option RF} (h:o.isSome=true):o=some (pU o):=by cases o with
 | none=>cases h
 | some r=>rfl
class iL (δ:Type) where
 e:δ->List V
instance VO {α:Type} [bq α]:iL α:=⟨λx=>[enc x]⟩
instance VN:iL Unit:=⟨λ_=>[]⟩
instance VM {α β:Type} [bq α] [iL β]:iL (α×β):=⟨λx=>enc x.1::iL.e x.2⟩
@[simp] theorem Vo {α:Type} [bq α] (x:α):iL.e x=[enc x]:=rfl
@[simp] theorem Vs (x:Unit):iL.e x=[]:=rfl
@[simp] theorem Vp {α β:Type} [bq α] [iL β] (x:α×β):iL.e x=enc x.1::iL.e x.2:=rfl
class Fc (S:Sys) (c:bS) {δ:Type} (m:Option δ) where
 n:FuncId
 az:List V
 E:δ->List V
 sc:Bool
 F:fK S c n (λ_:Unit=>az) E (λ_=>m) sc
section
variable {S:Sys} {T:pF} {δ:Type} {m:Option δ}
theorem fK.OH {E:δ->List V} (fn:FuncId) (az:List V) (h:Le (m.bind λr=>some (E r)) (bX S (cU S T) (nk (tr T fn)) (.rc (tb T fn),[],start (az.map .v) [])))
 (B:(T fn).isSome=true) (hk:S.E.keep fn=false) (D:Nat.ble az.length (pU (T fn)).na=true)
 {sc:Bool} (s:sc=true->∀r,(result (E r)).scalar=true):fK S (cU S T) fn (λ_:Unit=>az) E (λ_=>m) sc where
 k:=hk
 h z:=U9 (yI B) (Nat.le_of_ble_eq_true D) h
 s:=s
abbrev Fc.NE (E:δ->List V) (fn:FuncId) (az:List V) (h:Le (m.bind λr=>some (E r)) (bX S (cU S T) (nk (tr T fn)) (.rc (tb T fn),[],start (az.map .v) [])))
 (B:(T fn).isSome=true:=by kernel_rfl) (hk:S.E.keep fn=false:=by kernel_rfl) (D:Nat.ble az.length (pU (T fn)).na=true:=by kernel_rfl)
 : Fc S (cU S T) m:=
 ⟨fn,az,E,false,fK.OH fn az h B hk D λh=>nomatch h⟩
abbrev Fc.M [iL δ] (fn:FuncId) (az:List V) (h:Le (m.bind λr=>some (iL.e r)) (bX S (cU S T) (nk (tr T fn)) (.rc (tb T fn),[],start (az.map .v) [])))
 (B:(T fn).isSome=true:=by kernel_rfl) (hk:S.E.keep fn=false:=by kernel_rfl) (D:Nat.ble az.length (pU (T fn)).na=true:=by kernel_rfl)
 (s:∀r:δ,(result (iL.e r)).scalar=true:=by intro r;kernel_rfl):Fc S (cU S T) m:=
 ⟨fn,az,iL.e,true,fK.OH fn az h B hk D λ_=>s⟩
abbrev Fc.N [iL δ] (fn:FuncId) (az:List V) (h:Le (m.bind λr=>some (iL.e r)) (bX S (cU S T) (nk (tr T fn)) (.rc (tb T fn),[],start (az.map .v) [])))
 (B:(T fn).isSome=true:=by kernel_rfl) (hk:S.E.keep fn=false:=by kernel_rfl) (D:Nat.ble az.length (pU (T fn)).na=true:=by kernel_rfl)
 : Fc S (cU S T) m:=
 ⟨fn,az,iL.e,false,fK.OH fn az h B hk D λh=>nomatch h⟩
end
abbrev Fc.of {S:Sys} {c:bS} {α δ:Type} {p:α->Option δ} {n:FuncId} {A:α->List V} {E:δ->List V} {b:Bool} (z:α) (F:fK S c n A E p b):Fc S c (p z):=⟨n,A z,E,b,⟨F.k,λ_=>F.h z,F.s⟩⟩
theorem fK.pV {S:Sys} {c:bS} {α δ:Type} {p:α->Option δ} {n:FuncId} {A:α->List V} {E:δ->List V} {b:Bool} (F:∀z,Fc S c (p z)) (i:α) (B:∀z,(F z).n=n) (G:∀z,(F z).az=A z) (D:∀z,(F z).E=E) (J:∀z,(F z).sc=b):fK S c n A E p b where
 k:=by rw[<-B i];exact(F i).F.k
 h z:=by rw[<-B z,<-G z,<-D z];exact(F z).F.h ()
 s:=by rw[<-J i,<-D i];exact(F i).F.s
theorem kC.pV {S:Sys} {c:bS} {α δ:Type} {p:α->Option δ} {g:FuncId} {w e:List V} {A:α->List V} {R:δ->List V} {b:Bool} [i:Inhabited α] [F:∀z,Fc S c (p z)] (B:∀z,(F z).n=g:=by intro _;kernel_rfl) (D:∀z,(F z).az=w++A z++e:=by intro _;kernel_rfl)
 (G:∀z,(F z).E=R:=by intro _;kernel_rfl) (J:∀z,(F z).sc=b:=by intro _;kernel_rfl):kC S c g w e A R p b:=
 ⟨fK.pV F default B D G J⟩
section
variable {S:Sys} {c:bS} {β γ δ α:Type} {Q:Out×St->Option β} {e:γ->Option β} {cf:Cf}
theorem tN (n:Nat) {m:Option β} (h:Le m (bX S c Q (ij S c n cf))) (B:gE S c n cf.1 cf.2.1 cf.2.2=some (ij S c n cf):=by kernel_rfl):Le m (bX S c Q cf):=zo B h
theorem bA (n:Nat) {m:Option δ} [F:Fc S c m] {f:δ->Option γ} (h:∀x,m=some x->Le ((f x).bind e) (bX S c Q (nx S c n cf λp=>cT p.st p.d (.v (result (F.E x))))))
 (B:(fN S c n cf).map (λp=>(p.k,(bP S.N p.st.g p.az).bind jZ,(!p.dr||p.now||eN p.st.m p.fr [])))=some (.c,some (F.n,F.az.map .v),true):=by kernel_rfl):Le ((m.bind f).bind e) (bX S c Q cf):=xe n F.F () h B
theorem dg (n:Nat) {m:Option δ} [F:Fc S c m] {f:δ->Option γ} (h:∀x,m=some x->Le ((f x).bind e) (bX S c Q (nx S c n cf λp=>cT p.st p.d (.v (result (F.E x))))))
 (B:(fN S c n cf).map (λp=>(p.k,((bP S.N p.st.g p.az).bind jZ).bind λq=>(mO (ig p.st.m 8) q.2).map λvs=>(q.1,vs,((!p.dr||p.now)||eN p.st.m p.fr q.2))))=some (.c,some (F.n,F.az,true)):=by kernel_rfl) (D:F.sc=true:=by kernel_rfl):Le ((m.bind f).bind e) (bX S c Q cf):=
 Tg n (u D F.F) () h B
where
 u {b:Bool} {fn:FuncId} {az:List V} {E:δ->List V} {m:Option δ} (h:b=true) (F:fK S c fn (λ_:Unit=>az) E (λ_=>m) b):fK S c fn (λ_:Unit=>az) E (λ_=>m) true:=h▸F
def Pm (cf:Cf):RC:=match cf.1 with|.rc (.loop c)=>c|_=>.skip
def BE (cf:Cf):Arg×List Nat×RC×RC:=match cf.1 with|.rc (.each g u a b)=>(g,u,a,b)|_=>(.s 0,[],.skip,.skip)
theorem iI {σ ε ρ:Type} {step:σ->Option (Fw σ ε ρ)} (n:Nat) (B:σ->St) (D:ε->Nat×St) (G:ρ->St) {s:σ} {J:ε->Option γ} {fr:ρ->Option γ}
 (h:∀s,Le ((step s).bind λw=>some (Fw.out B D G w)) (bX S c some (.rc (Pm (ij S c n cf)),[],B s)))
 (T:∀x,Le ((J x).bind e) (bX S c Q (.ex (D x).1,(ij S c n cf).2.1,(D x).2))) (hr:∀b,Le ((fr b).bind e) (Q (.ret,G b)))
 (U:gE S c n cf.1 cf.2.1 cf.2.2=some (.rc (.loop (Pm (ij S c n cf))),(ij S c n cf).2.1,B s):=by kernel_rfl):Le (((cE step s).bind (Fw.elim J fr)).bind e) (bX S c Q cf):=
 Lq U h T hr
theorem k9 {σ ε:Type} {step:σ->Option (Fw σ ε Empty)} (n:Nat) (B:σ->St) (D:ε->Nat×St) {s:σ} {G:ε->Option γ} {fr:Empty->Option γ}
 (h:∀s,Le ((step s).bind λw=>some (Fw.out B D (λe=>Empty.elim e) w)) (bX S c some (.rc (Pm (ij S c n cf)),[],B s)))
 (J:∀x,Le ((G x).bind e) (bX S c Q (.ex (D x).1,(ij S c n cf).2.1,(D x).2)))
 (T:gE S c n cf.1 cf.2.1 cf.2.2=some (.rc (.loop (Pm (ij S c n cf))),(ij S c n cf).2.1,B s):=by kernel_rfl):Le (((cE step s).bind (Fw.elim G fr)).bind e) (bX S c Q cf):=
 Lq T h J λb=>Empty.elim b
theorem Ab {σ ε ρ:Type} {f:FuncId} {x y:List V} {items:List α} {eI:α->List V} {step:α->σ->Option (Fw σ ε ρ)} (n:Nat) (gt:Tb SV) (B:σ->Tb bu) (D:ε->Nat×Tb bu) (G:ρ->Tb bu) {s:σ} {fn:σ->Option γ} {J:ε->Option γ} {fr:ρ->Option γ}
 (hi:S.items f x y=some (items.map eI))
 (h:∀x s,Le ((step x s).bind λw=>some (Fw.vj B D G w)) (bX S c (xm S c (BE (ij S c n cf)).2.2.2) (.rc (BE (ij S c n cf)).2.2.1,[],⟨vz gt (BE (ij S c n cf)).2.1 ((eI x).map .v),B s,oA gt,[],true,0⟩)))
 (T:∀s,Le ((fn s).bind e) (bX S c Q (.nx,(ij S c n cf).2.1,cK gt (B s)))) (U:∀x,Le ((J x).bind e) (bX S c Q (.ex (D x).1,(ij S c n cf).2.1,cK gt (D x).2))) (hr:∀b,Le ((fr b).bind e) (Q (.ret,cK gt (G b))))
 (W:∀x,(eI x).length=(BE (ij S c n cf)).2.1.length:=by intro _;kernel_rfl) (hg:pI S.N gt (BE (ij S c n cf)).1=some (.v (.clo f x y)):=by kernel_rfl)
 (Y:gE S c n cf.1 cf.2.1 cf.2.2=some (.rc (.each (BE (ij S c n cf)).1 (BE (ij S c n cf)).2.1 (BE (ij S c n cf)).2.2.1 (BE (ij S c n cf)).2.2.2),(ij S c n cf).2.1,cK gt (B s)):=by kernel_rfl):Le (((jC step items s).bind (Fw.o5 fn J fr)).bind e) (bX S c Q cf):=
 S6 Y hg hi W h T U hr
noncomputable def Ts (n k:Nat) (B:List Nat) (d:Nat) (S:Sys) (c:bS) (cf:Cf) (v:SV):Cf:=jmp k [] (ij S c n cf) { (ij S c n cf).2.2 with g:=bH (oe B (ij S c n cf).2.2.g) d v }
theorem b_ [bq δ] (n k:Nat) (B:List Nat) (d:Nat) {m:Option δ} {f:δ->Option γ} (D:Le (m.bind λr=>bX S c Q (Ts n k B d S c cf (cv r))) (bX S c Q cf))
 (h1:∀r,Le ((f r).bind e) (bX S c Q (Ts n k B d S c cf (cv r)))):Le ((m.bind f).bind e) (bX S c Q cf):=Po _ D h1
end
theorem Kc {α β:Type} {P:α ⊕ β->Prop} (h1:∀a,P (.inl a)) (B:∀b,P (.inr b)):∀x,P x
 | .inl a=>h1 a
 | .inr b=>B b
end Go.VE
namespace Go.VE
variable [bN]
instance {n:Nat}:DecidableEq (cq n Int):=λa b=>if h:a.l=b.l then .isTrue (by cases a;cases b;cases h;rfl)else .isFalse λe=>h (by rw[e])
theorem t_:∀l:List Int,gJ ((l.map (cells (α:=Int))).flatten)=some l
 | []=>rfl
 | a::l=>by
  show gJ (.int .i64 a::(l.map (cells (α:=Int))).flatten)=_;simp only[gJ,t_ l,Option.map_some]
theorem KU (l:List Int):(l.map (cells (α:=Int))).flatten=l.map (V.int .i64):=by
 induction l with
 | nil=>rfl
 | cons a l u=>simp only[List.map_cons,List.flatten_cons,u];rfl
instance {n:Nat}:Key (cq n Int) where
 kk:=.ints n
 ok a:=by
  show ((a.l.map (cells (α:=Int))).flatten.length==n&&(gJ (a.l.map (cells (α:=Int))).flatten).isSome)=true;rw[t_,KU,List.length_map,a.len];simp
 eq a b:=by
  show jY (a.l.map (cells (α:=Int))).flatten (b.l.map (cells (α:=Int))).flatten=_;unfold jY;rw[t_,t_];simp only[a.len,b.len,if_true]
  congr 1
  rw[Bool.eq_iff_iff,beq_iff_eq,decide_eq_true_iff];exact⟨λh=>by cases a;cases b;cases h;rfl,λh=>by rw[h]⟩
end Go.VE
namespace Go.VE
variable [bN]
def zS (m:Tb bu):SV->Bool
 | .v _|.agg _=>true
 | x=>j8 m x
def mK:SV->List SV
 | .v x=>x.cells.map .v
 | .agg l=>l
 | x=>[x]
def zT (cells:List SV):List (Nat×Nat)->List SV->Option (List SV)
 | [],[]=>some cells
 | (off,size)::pl,v::vs=>if(mK v).length=size/\off+(mK v).length<=cells.length then zT (cells.take off++mK v++cells.drop (off+(mK v).length)) pl vs else none
 | _,_=>none
theorem LX (cells:List SV):zT cells [] []=some cells:=rfl
theorem Cj (cells:List SV) (off size:Nat) (pl:List (Nat×Nat)) (v:SV) (vs:List SV):zT cells ((off,size)::pl) (v::vs) =
 if(mK v).length=size/\off+(mK v).length<=cells.length then zT (cells.take off++mK v++cells.drop (off+(mK v).length)) pl vs else none:=rfl
theorem OB (x:V):mK (.v x)=x.cells.map .v:=rfl
theorem Jz (d:Nat):mK (.own d)=[.own d]:=rfl
theorem LL (d:Nat):mK (.mp d)=[.mp d]:=rfl
theorem Jo (d o:Nat):mK (.ptr d o)=[.ptr d o]:=rfl
theorem Oc {m:Tb bu} {v:SV} (h:zS m v=true):wu m v=some (mK v):=by
 cases v <;> first|rfl|(unfold wu;exact if_pos h)|(simp[zS,j8]at h)
theorem H_ {m:Tb bu}:∀{pl:List (Nat×Nat)} {vs cells l:List SV},vs.all (zS m)=true->zT cells pl vs=some l->rI m cells pl vs=some l
 | [],[],_,_,_,h=>h
 | [],_::_,_,_,_,h=>by cases h
 | _::_,[],_,_,_,h=>by cases h
 | (off,size)::pl,v::vs,cells,l,B,h=>by
  rw[List.all_cons,ζh]at B;rw[Cj]at h;show (match wu m v with|some c=>if c.length=size/\off+c.length<=cells.length then rI m (cells.take off++c++cells.drop (off+c.length)) pl vs else none|none=>none)=some l
  rw[Oc B.1];simp only;split at h
  .rename_i hc;rw[if_pos hc];exact H_ B.2 h
  .cases h
def CG:SV->Bool
 | .v x=>x.one
 | .agg _=>false
 | _=>true
theorem Tf (x:V):CG (.v x)=x.one:=rfl
theorem Om (d:Nat):CG (.own d)=true:=rfl
theorem Qc (d:Nat):CG (.mp d)=true:=rfl
theorem Oj (d o:Nat):CG (.ptr d o)=true:=rfl
theorem IG {m:Tb bu}:∀{l:List SV},l.all CG=true->l.all (zS m)=true->l.all (vK m)=true
 | [],_,_=>rfl
 | x::l,h,k=>by
  rw[List.all_cons,ζh]at h k ⊢;refine⟨?_,IG h.2 k.2⟩;cases x <;> first|exact h.1|exact k.1|(have:=h.1;cases this)
section
variable {S:Sys} {c:bS} {β γ δ α:Type} {Q:Out×St->Option β} {e:γ->Option β} {cf:Cf}
theorem Lu {N:Nat->FuncId} {m:Tb bu} {z:List V} {pl:List (Nat×Nat)} {svs l:List SV} (B:(cZ svs).isNone=true) (h:rI m (z.map .v) pl svs=some l):iW N m (.build z pl) svs=some (.agg l):=by
 unfold iW
 cases hv:cZ svs with
 | some x=>rw[hv]at B;cases B
 | none=>
  have:vH N m (.build z pl) svs=(rI m (z.map .v) pl svs).map .agg:=by
   unfold vH;split <;> first|contradiction|(rename_i e _;cases e;rfl)|simp_all
  simp only[this,h,Option.map_some]
theorem TZ (n:Nat) (svs l:List SV) (z:List V) (pl:List (Nat×Nat)) {m:Option β} (B:zT (z.map .v) pl svs=some l) (h:Le m (bX S c Q (nx S c n cf λp=>cT p.st p.d (.agg l))))
 (D:(fN S c n cf).map (λp=>(p.k,bP S.N p.st.g p.az,(cZ svs).isNone,svs.all (zS p.st.m)))=some (.p (.build z pl),some svs,true,true):=by kernel_rfl):Le m (bX S c Q cf):=by
 obtain⟨p,u,hv⟩:=eE D;simp only[ζc]at hv;refine zz u ?_ h;rw[hv.1];exact AL hv.2.1 rfl (Lu hv.2.2.1 (H_ hv.2.2.2 B))
theorem U3 (n u o:Nat) (l:List SV) {m:Option β} (B:l.all CG=true) (h:Le m (bX S c Q (nx S c n cf (Pp u o l.length l))))
 (D:(fN S c n cf).map (λp=>(p.k,bP S.N p.st.g p.az,(!p.dr||p.now),l.all (zS p.st.m),match a_ p.st.m u with|some (.box cs)=>Nat.ble (o+l.length) cs.length|_=>false))=some (.l (.store l.length),some [.ptr u o,.agg l],true,true,true):=by kernel_rfl):Le m (bX S c Q cf):=by
 obtain⟨p,C,hv⟩:=eE D;simp only[ζc]at hv;refine zz C ?_ h;obtain⟨h1,G,I,J,w⟩:=hv;have z:=IG B J;split at w
 .rename_i cs A;have L:=Nat.le_of_ble_eq_true w;rw[h1,uo,G];simp only[ζb,I,if_true,lC,A,putCells,z,L,and_self,Option.map_some,Pp]
 .cases w
end
section
variable {S:Sys} {c:bS} {β γ δ:Type} {Q:Out×St->Option β} {e:γ->Option β} {cf:Cf} {κ ν:Type} [bq κ] [DecidableEq κ] [Key κ] [bq ν]
structure SZ (κ ν:Type) where
 o:Option (Mo κ ν)
 deriving Inhabited
def Sv (m:SZ κ ν):V:=match m.o with|none=>.fR|some l=>.fmap (nv l)
theorem Mv (m:Mo κ ν):V.ri (nv m)=true:=by
 induction m with
 | nil=>rfl
 | cons x r u=>show V.ri ((enc x.1,enc x.2)::nv r)=true;simp only[V.ri,jI,u,Bool.and_self]
instance:bq (SZ κ ν) where
 cells m:=[Sv m]
 agg:=false
 size:=1
 len _:=rfl
 good m:=by
  unfold Sv;split
  .rfl
  .simp only[V.cD,V.good,Mv,Bool.and_self]
 one m:=by unfold Sv;split <;> rfl
 plain _:=rfl
theorem Ru (m:SZ κ ν):V.one (enc m)=true:=by obtain⟨o⟩:=m;cases o <;> rfl
end
end Go.VE
namespace Go.VE
variable [bN]
theorem fK.scalar {S:Sys} {c:bS} {α δ:Type} {fn:FuncId} {A:α->List V} {E:δ->List V} {p:α->Option δ} {b:Bool} (F:fK S c fn A E p b) (h:∀r,(result (E r)).scalar=true):fK S c fn A E p true:=⟨F.k,F.h,λ_=>h⟩
end Go.VE
namespace Go.VE
variable [bN]
section
variable {S:Sys} {c:bS} {β γ δ α:Type} [bq α] {Q:Out×St->Option β} {e:γ->Option β} {cf:Cf}
theorem Pr {ω:Type} [bq ω] (n u:Nat) {N:Nat} (a:cq N α) (i:Int) (o:Nat) (x:α) (B:a.at i=some x) (y:α) (w:ω) (D:cells y=(cells x).take o++cells w++(cells x).drop (o+bq.size ω)) {m:Option β} (h:Le m (bX S c Q (nx S c n cf λp=>cT { p.st with m:=bH p.st.m u (bx (a.set i y)) } p.d (.v .undef))))
 (G:(fN S c n cf).map (λp=>(p.k,bP S.N p.st.g p.az,a_ p.st.m u,(!p.dr||p.now),Nat.ble (o+bq.size ω) (bq.size α)))=some (.l (.store (bq.size ω)),some [.ptr u (i.toNat*bq.size α+o),cv w],some (bx a),true,true):=by kernel_rfl):Le m (bX S c Q cf):=by
 obtain⟨p,A,z⟩:=eE G;simp only[ζc]at z;obtain⟨h1,C⟩:=jh A;obtain⟨dr,fr,d,gd,now,T,az,dd,l,fs,st⟩:=p;obtain⟨rfl,I,J,L,O⟩:=z;exact Ub n dr fr (⟨d,gd,now,.l (.store (bq.size ω)),az,dd,[]⟩::l) fs st u a i o x B y (enc w) (by rw[iS];exact D) rfl (by(try dsimp only at *);simp only[h1,C,I,J,L,O,iS,gx,sE]) (by
  simp only[nx,A]at h;exact h)
end
end Go.VE
namespace Go.VE
variable [bN]
noncomputable def EF (rs:List RV):Out×St->Option (bu×List V)
 | (.exit _,_)=>none
 | (_,st)=>(jB st rs).bind λl=>match l with
  | .own d::r=>(a_ st.m d).bind λob=>(cZ r).map λys=>(ob,ys)
  | _=>none
theorem Af:∀{l:List SV} {ys:List V},cZ l=some ys->l=ys.map .v
 | [],ys,h=>by cases h;rfl
 | .v x::r,ys,h=>by
  simp only[cZ]at h;obtain⟨B,h1,rfl⟩:=ζf.1 h;rw[Af h1];rfl
 | .own _::_,_,h|.ptr ..::_,_,h|.el ..::_,_,h|.mp _::_,_,h|.clo ..::_,_,h|.tup _::_,_,h|.agg _::_,_,h|.yl _::_,_,h=>by cases h
theorem Vi {S:Sys} {c:bS} {rs:List RV} {rc:RC} {st:St} {ob:bu} {ys:List V} (h:jN S c (EF rs) rc [] st=some (ob,ys)):∃o st' d,cu S c rc st=some (o,st')/\(∀id,o≠.exit id)/\jB st' rs=some (.own d::ys.map .v)/\a_ st'.m d=some ob:=by
 rw[nV]at h;obtain⟨⟨o,st'⟩,h1,u⟩:=ζg.1 h;have z:∀id,o≠.exit id:=by rintro id rfl;simp[EF]at u
 have A:(jB st' rs).bind (λl=>match l with|.own d::r=>(a_ st'.m d).bind λob=>(cZ r).map λys=>(ob,ys)|_=>none)=some (ob,ys):=by
  cases o with
  | exit id=>exact absurd rfl (z id)
  | norm=>exact u
  | ret=>exact u
 obtain⟨l,B,w⟩:=ζg.1 A;split at w
 .obtain⟨C,D,G⟩:=ζg.1 w;obtain⟨L,I,J⟩:=ζf.1 G;cases J;exact⟨o,st',_,h1,z,by rw[B,Af I],D⟩
 .cases w
structure UR (S:Sys) (c:bS) {δ ε:Type} [bq δ] [iL ε] (m:Option (Sl δ×ε)) where
 n:FuncId
 az:List V
 k:S.E.keep n=true
 o:S.E.own n=true
 h:∀s r,m=some (s,r)->∃e m',c n (az.map .v) []=some (.own e::(iL.e r).map .v,m')/\a_ m' e=some (cA s)
 sc:∀x:δ,(cells x).all V.scalar=true
 sr:∀r:ε,V.cG (iL.e r)=true
abbrev UR.mk' {S:Sys} {T:pF} {δ ε:Type} [bq δ] [iL ε] {m:Option (Sl δ×ε)} (fn:FuncId) (az:List V) (h:Le (m.bind λr=>some (cA r.1,iL.e r.2)) (bX S (cU S T) (EF (tr T fn)) (.rc (tb T fn),[],start (az.map .v) [])))
 (B:(T fn).isSome=true:=by kernel_rfl) (hk:S.E.keep fn=true:=by kernel_rfl) (D:S.E.own fn=true:=by kernel_rfl) (G:Nat.ble az.length (pU (T fn)).na=true:=by kernel_rfl)
 (sc:∀x:δ,(cells x).all V.scalar=true:=by intro x;rfl) (sr:∀r:ε,V.cG (iL.e r)=true:=by intro r;rfl):UR S (cU S T) m where
 n:=fn
 az:=az
 k:=hk
 o:=D
 sc:=sc
 sr:=sr
 h s r w:=by
  have u:=yI B;have h1:=h (cA s,iL.e r) (by rw[w];rfl)
  change jN S (cU S T) (EF (pU (T fn)).rs) (pU (T fn)).body [] (start (az.map .v) [])=some (cA s,iL.e r)at h1;obtain⟨o,st',d,g1,g2,g3,g4⟩:=Vi h1;refine⟨d,st'.m,?_,g4⟩;rw[sn u];unfold mD;rw[if_pos (by simpa using Nat.le_of_ble_eq_true G),g1]
  cases o with
  | exit id=>exact absurd rfl (g2 id)
  | norm=>simp only[g3,Option.map_some]
  | ret=>simp only[g3,Option.map_some]
section
variable {S:Sys} {c:bS} {β γ δ α:Type} {Q:Out×St->Option β} {e:γ->Option β} {cf:Cf}
end
end Go.VE
namespace Go.VE
variable [bN]
noncomputable def Bs (rs:List RV) (B:List Nat):Out×St->Option (List V×c7)
 | (.exit _,_)=>none
 | (_,st)=>(jB st rs).bind λl=>(cZ l).bind λys=>(je st.m B).map λos=>(ys,os)
theorem VG {S:Sys} {c:bS} {rs:List RV} {B:List Nat} {rc:RC} {st:St} {os:c7} {ys:List V} (h:jN S c (Bs rs B) rc [] st=some (ys,os)):∃o st',cu S c rc st=some (o,st')/\(∀id,o≠.exit id)/\jB st' rs=some (ys.map .v)/\je st'.m B=some os:=by
 rw[nV]at h;obtain⟨⟨o,st'⟩,h1,u⟩:=ζg.1 h;have w:∀id,o≠.exit id:=by rintro id rfl;simp[Bs]at u
 have z:(jB st' rs).bind (λl=>(cZ l).bind λys=>(je st'.m B).map λos=>(ys,os))=some (ys,os):=by
  cases o with
  | exit id=>exact absurd rfl (w id)
  | norm=>exact u
  | ret=>exact u
 obtain⟨l,A,C⟩:=ζg.1 z;obtain⟨L,D,G⟩:=ζg.1 C;obtain⟨q,I,J⟩:=ζf.1 G;cases J;exact⟨o,st',h1,w,by rw[A,Af D],I⟩
def lG:Tb bu->c7->Tb bu
 | m,[]=>m
 | m,(d,ob)::r=>lG (bH m d ob) r
theorem E3 {m':c7} {D:List Nat}:∀{B:List Nat} {os m:c7},je m' B=some os->(os.all λx=>within D x.2)=true->xN D m' B m=some (lG m os)
 | [],os,m,h,_=>by cases h;rfl
 | k::B,os,m,h,hp=>by
  simp only[je]at h;split at h
  .rename_i v t h1 G;cases h;simp only[List.all_cons,ζh]at hp;simp only[xN,h1,hp.1,if_true,lG];exact E3 G hp.2
  .cases h
theorem back_eq {m':c7} {B:List Nat} {os m:c7} (h:je m' B=some os) (hp:(os.all λx=>within B x.2)=true):jM m' B m=some (lG m os):=E3 h hp
structure mj (S:Sys) (c:bS) {δ:Type} (m:Option δ) where
 n:FuncId
 az:List SV
 os:c7
 E:δ->List V
 M:δ->c7
 k:S.E.keep n=true
 o:S.E.own n=false
 q:(S.prm n).isNone=true
 h:∀r,m=some r->∃m',c n az os=some ((E r).map .v,m')/\∀m0,jM m' (os.map (·.1)) m0=some (lG m0 (M r))
abbrev mj.mk' {S:Sys} {T:pF} {δ:Type} {m:Option δ} (fn:FuncId) (az:List SV) (os:c7) (E:δ->List V) (M:δ->c7) (h:Le (m.bind λr=>some (E r,M r)) (bX S (cU S T) (Bs (tr T fn) (os.map (·.1))) (.rc (tb T fn),[],start az os)))
 (B:(T fn).isSome=true:=by kernel_rfl) (hk:S.E.keep fn=true:=by kernel_rfl) (D:S.E.own fn=false:=by kernel_rfl) (G:(S.prm fn).isNone=true:=by kernel_rfl) (J:Nat.ble az.length (pU (T fn)).na=true:=by kernel_rfl)
 (hp:∀r,((M r).all λx=>within (os.map (·.1)) x.2)=true:=by intro r;kernel_rfl):mj S (cU S T) m where
 n:=fn
 az:=az
 os:=os
 E:=E
 M:=M
 k:=hk
 o:=D
 q:=G
 h r hr:=by
  have u:=yI B;have h1:=h (E r,M r) (by rw[hr];rfl)
  change jN S (cU S T) (Bs (pU (T fn)).rs (os.map (·.1))) (pU (T fn)).body [] (start az os)=some (E r,M r)at h1;obtain⟨o,st',g1,g2,g3,g4⟩:=VG h1;refine⟨st'.m,?_,λw=>back_eq g4 (hp r)⟩
  rw[sn u];unfold mD;rw[if_pos (Nat.le_of_ble_eq_true J),g1]
  cases o with
  | exit id=>exact absurd rfl (g2 id)
  | norm=>simp only[g3,Option.map_some]
  | ret=>simp only[g3,Option.map_some]
section
variable {S:Sys} {c:bS} {β γ δ:Type} {Q:Out×St->Option β} {e:γ->Option β} {cf:Cf}
theorem tj (n:Nat) {m:Option δ} (F:mj S c m) {f:δ->Option γ} (h:∀x,m=some x->Le ((f x).bind e) (bX S c Q (nx S c n cf λp=>cT { p.st with m:=lG p.st.m (F.M x) } p.d (.v (result (F.E x))))))
 (B:(fN S c n cf).map (λp=>(p.k,((bP S.N p.st.g p.az).bind jZ).bind λq=>(handed p.st.m q.2).map λos=>(q.1,q.2,os),p.dr))=some (.c,some (F.n,F.az,F.os),false):=by kernel_rfl):Le ((m.bind f).bind e) (bX S c Q cf):=by
 obtain⟨p,z,hv⟩:=eE B;simp only[ζc]at hv;obtain⟨A,C,D⟩:=hv;obtain⟨q,g1,g2⟩:=ζg.1 C;obtain⟨u,g3,g4⟩:=ζg.1 g1;obtain⟨os,g5,g6⟩:=ζf.1 g2;simp only[ζc]at g6;obtain⟨e1,e2,rfl⟩:=g6;refine pG z ?_ h;rw[A,D,uj _ _ _ _ _ _ u q.1 q.2 g3 g4];intro y w;obtain⟨r,hr,w⟩:=ζg.1 w;cases w;obtain⟨m',k1,G⟩:=F.h r hr;have I:S.prm F.n=none:=by
  have:=F.q
  cases J:S.prm F.n with
  | none=>rfl
  | some _=>rw[J]at this;cases this
 have:eB S c p.d false (!false||p.now) (eN p.st.m p.fr) q.1 q.2 p.st=some (.v (result (F.E r)),{ p.st with m:=lG p.st.m (F.M r) }):=by
  unfold eB;rw[e1,e2]at *;simp only[F.k,F.o,I,g5,k1,kn,G,if_true,Bool.not_false,Bool.true_or,Bool.false_and,Bool.false_eq_true,if_false]
 rw[this];rfl
instance:Key ByteArray where
 kk:=.str
 ok _:=rfl
 eq a b:=by
  show some (a==b)=some (decide (a=b));rw[show (a==b)=decide (a=b)from Bool.eq_iff_iff.2 (by cases a;cases b;rename_i x y;show (x==y)=true↔_;simp)]
end
end Go.VE
namespace Go.VE
variable [bN]
noncomputable def J_ (rs:List RV) (B:List Nat):Out×St->Option (bu×List V×c7)
 | (.exit _,_)=>none
 | (_,st)=>(jB st rs).bind λl=>match l with
  | .own d::r=>if B.contains d then none else(a_ st.m d).bind λob=>(cZ r).bind λys=>(je st.m B).map λos=>(ob,ys,os)
  | _=>none
theorem VC {S:Sys} {c:bS} {rs:List RV} {B:List Nat} {rc:RC} {st:St} {ob:bu} {ys:List V} {os:c7} (h:jN S c (J_ rs B) rc [] st=some (ob,ys,os)) :
 ∃o st' d,cu S c rc st=some (o,st')/\(∀id,o≠.exit id)/\jB st' rs=some (.own d::ys.map .v)/\B.contains d=false/\a_ st'.m d=some ob/\je st'.m B=some os:=by
 rw[nV]at h;obtain⟨⟨o,st'⟩,h1,w⟩:=ζg.1 h;have C:∀id,o≠.exit id:=by rintro id rfl;simp[J_]at w
 have D:(jB st' rs).bind (λl=>match l with|.own d::r=>if B.contains d then none else(a_ st'.m d).bind λob=>(cZ r).bind λys=>(je st'.m B).map λos=>(ob,ys,os)|_=>none)=some (ob,ys,os):=by
  cases o with
  | exit id=>exact absurd rfl (C id)
  | norm=>exact w
  | ret=>exact w
 obtain⟨l,G,u⟩:=ζg.1 D;split at u
 .split at u
  .cases u
  .rename_i hc;obtain⟨I,J,L⟩:=ζg.1 u;obtain⟨T,O,Q⟩:=ζg.1 L;obtain⟨q,z,A⟩:=ζf.1 Q;cases A;exact⟨o,st',_,h1,C,by rw[G,Af O],by simpa using hc,J,z⟩
 .cases u
structure UK (S:Sys) (c:bS) {δ ε:Type} [bq δ] [iL ε] (m:Option (Sl δ×ε)) where
 n:FuncId
 az:List SV
 os:c7
 M:Sl δ×ε->c7
 k:S.E.keep n=true
 o:S.E.own n=false
 q:(S.prm n).isNone=true
 h:∀r,m=some r->∃e m',c n az os=some (.own e::(iL.e r.2).map .v,m')/\a_ m' e=some (cA r.1)/\(os.map (·.1)).contains e=false/\∀m0,jM m' (os.map (·.1)) m0=some (lG m0 (M r))
abbrev UK.mk' {S:Sys} {T:pF} {δ ε:Type} [bq δ] [iL ε] {m:Option (Sl δ×ε)} (fn:FuncId) (az:List SV) (os:c7) (M:Sl δ×ε->c7)
 (h:Le (m.bind λr=>some (cA r.1,iL.e r.2,M r)) (bX S (cU S T) (J_ (tr T fn) (os.map (·.1))) (.rc (tb T fn),[],start az os)))
 (B:(T fn).isSome=true:=by kernel_rfl) (hk:S.E.keep fn=true:=by kernel_rfl) (D:S.E.own fn=false:=by kernel_rfl) (G:(S.prm fn).isNone=true:=by kernel_rfl) (J:Nat.ble az.length (pU (T fn)).na=true:=by kernel_rfl)
 (hp:∀r,((M r).all λx=>within (os.map (·.1)) x.2)=true:=by intro r;kernel_rfl):UK S (cU S T) m where
 n:=fn
 az:=az
 os:=os
 M:=M
 k:=hk
 o:=D
 q:=G
 h r hr:=by
  have u:=yI B;have h1:=h (cA r.1,iL.e r.2,M r) (by rw[hr];rfl)
  change jN S (cU S T) (J_ (pU (T fn)).rs (os.map (·.1))) (pU (T fn)).body [] (start az os)=some (cA r.1,iL.e r.2,M r)at h1;obtain⟨o,st',d,g1,g2,g3,g4,g5,g6⟩:=VC h1;refine⟨d,st'.m,?_,g5,g4,λw=>back_eq g6 (hp r)⟩
  rw[sn u];unfold mD;rw[if_pos (Nat.le_of_ble_eq_true J),g1]
  cases o with
  | exit id=>exact absurd rfl (g2 id)
  | norm=>simp only[g3,Option.map_some]
  | ret=>simp only[g3,Option.map_some]
section
variable {S:Sys} {c:bS} {β γ:Type} {Q:Out×St->Option β} {e:γ->Option β} {cf:Cf}
end
structure Sq (S:Sys) (c:bS) {α δ:Type} [bq δ] (fn:FuncId) (A:α->List V) (p:α->Option (Sl δ)):Prop where
 k:S.E.keep fn=true
 o:S.E.own fn=false
 q:(S.prm fn).isNone=true
 h:∀z s,p z=some s->∃e m',c fn ((A z).map .v) []=some ([.own e],m')/\a_ m' e=some (cA s)
theorem Sq.mk' {S:Sys} {T:pF} {α δ:Type} [bq δ] (rf:RF) {fn:FuncId} {A:α->List V} {p:α->Option (Sl δ)} (h:∀z,Le ((p z).bind λr=>some (cA r)) (bX S (cU S T) (C1 rf.rs) (.rc rf.body,[],start ((A z).map .v) [])))
 (B:T fn=some rf:=by kernel_rfl) (hk:S.E.keep fn=true:=by kernel_rfl) (D:S.E.own fn=false:=by kernel_rfl) (G:(S.prm fn).isNone=true:=by kernel_rfl) (J:∀z,(A z).length<=rf.na:=by intro z;exact Nat.le_of_ble_eq_true (by kernel_rfl)):Sq S (cU S T) fn A p where
 k:=hk
 o:=D
 q:=G
 h z s u:=by
  have h1:=h z (cA s) (by rw[u];rfl)
  change jN S (cU S T) (C1 rf.rs) rf.body [] (start ((A z).map .v) [])=some (cA s)at h1;obtain⟨o,st',d,g1,g2,g3,g4⟩:=UC h1;refine⟨d,st'.m,?_,g4⟩;rw[sn B];unfold mD;rw[if_pos (by simpa using J z),g1]
  cases o with
  | exit id=>exact absurd rfl (g2 id)
  | norm=>simp only[g3,Option.map_some]
  | ret=>simp only[g3,Option.map_some]
theorem EP:∀l:List V,SV.qm (l.map .v)=[]
 | []=>rfl
 | a::l=>by simp only[List.map_cons,SV.qm,SV.AF,EP l,List.append_nil]
theorem J6 {m:Tb bu} (l:List V):handed m (l.map .v)=some []:=by
 unfold handed;rw[EP];rfl
section
variable {S:Sys} {c:bS} {β γ δ α:Type} [bq δ] {Q:Out×St->Option β} {e:γ->Option β} {cf:Cf}
end
end Go.VE
namespace Go.VE
variable [bN]
def OG (s:Nat) (v:SV) (cf:Cf):Cf:=(cf.1,cf.2.1,{ cf.2.2 with g:=bH cf.2.2.g s v })
section
variable {S:Sys} {c:bS} {β γ δ:Type} {Q:Out×St->Option β} {e:γ->Option β} {cf:Cf}
theorem iB (n s:Nat) {v B:V} (hv:v=B) {m:Option β} (h:Le m (bX S c Q (OG s (.v B) (ij S c n cf))))
 (D:(gE S c n cf.1 cf.2.1 cf.2.2).map (λp=>a_ p.2.2.g s)=some (some (.v v)):=by kernel_rfl):Le m (bX S c Q cf):=by
 subst hv;obtain⟨p,u,hv⟩:=eE D;have hg:ij S c n cf=p:=by unfold ij;grind
 rw[hg]at h;refine zo u ?_;have:OG s (.v v) p=p:=by unfold OG;rw[ot hv]
 rw[this]at h;exact h
end
def fG {α δ:Type} (b:(α->Option δ)->α->Option δ):Nat->α->Option δ
 | 0,_=>none
 | n+1,z=>b (fG b n) z
theorem fK.fix {S:Sys} {c:bS} {α δ:Type} {fn:FuncId} {A:α->List V} {E:δ->List V} {sc:Bool} {b:(α->Option δ)->α->Option δ} (hk:S.E.keep fn=false) (B:sc=true->∀r,(result (E r)).scalar=true)
 (h:∀r,fK S c fn A E r sc->∀z,Le ((b r z).bind λr=>some (E r)) (iG c fn (A z))):∀n,fK S c fn A E (fG b n) sc
 | 0=>⟨hk,λ_=>Le.none _,B⟩
 | n+1=>⟨hk,h _ (fK.fix hk B h n),B⟩
structure uR (S:Sys) (c:bS) {α δ:Type} (fn:FuncId) (A:α->List SV) (O:α->c7) (E:δ->List V) (M:α->δ->c7) (p:α->Option δ):Prop where
 k:S.E.keep fn=true
 o:S.E.own fn=false
 q:(S.prm fn).isNone=true
 h:∀z r,p z=some r->∃m',c fn (A z) (O z)=some ((E r).map .v,m')/\∀m0,jM m' ((O z).map (·.1)) m0=some (lG m0 (M z r))
abbrev mj.of {S:Sys} {c:bS} {α δ:Type} {fn:FuncId} {A:α->List SV} {O:α->c7} {E:δ->List V} {M:α->δ->c7} {p:α->Option δ} (z:α) (F:uR S c fn A O E M p):mj S c (p z):=⟨fn,A z,O z,E,M z,F.k,F.o,F.q,F.h z⟩
theorem uR.fix {S:Sys} {c:bS} {α δ:Type} {fn:FuncId} {A:α->List SV} {O:α->c7} {E:δ->List V} {M:α->δ->c7} {b:(α->Option δ)->α->Option δ} (k:S.E.keep fn=true) (o:S.E.own fn=false) (q:(S.prm fn).isNone=true)
 (h:∀r,uR S c fn A O E M r->∀z B,b r z=some B->∃m',c fn (A z) (O z)=some ((E B).map .v,m')/\∀D,jM m' ((O z).map (·.1)) D=some (lG D (M z B))):∀n,uR S c fn A O E M (fG b n)
 | 0=>⟨k,o,q,λ_ _ h=>by cases h⟩
 | n+1=>⟨k,o,q,h _ (uR.fix k o q h n)⟩
structure vw (S:Sys) (c:bS) {α σ:Type} [bq α] (cl:SV) (g:FuncId) (e:List SV) (os:σ->c7) (p:α->σ->Option (Bool×σ)):Prop where
 cs:∀vs,jZ (cl::vs)=some (g,vs++e)
 hd:∀(s:σ) (a:V),handed (os s) [.v a,cl]=some (os s)
 tk:∀s s',je (os s') ((os s).map (·.1))=some (os s')
 wi:∀s s',((os s').all λx=>within ((os s).map (·.1)) x.2)=true
 put:∀s s',lG (os s) (os s')=os s'
 h:∀x s r,p x s=some r->∀(dst:Option Nat) (old:List SV->Bool) (st:St),st.m=os s->eB S c dst false true old g (.v (enc x)::e) st=some (.v (.bool r.1),{ st with m:=os r.2 })
section
variable {S:Sys} {c:bS} {α σ:Type} [bq α] {g:FuncId}
theorem vw.Pu {e:List V} {p:α->Option Bool} (F:kC S c g [] e (λz:α=>[enc z]) (λr:Bool=>[.bool r]) p true):vw S c (.v (.clo g [] e)) g (e.map .v) (λ_:Unit=>[]) (λx u=>(p x).map λb=>(b,u)) where
 cs vs:=rfl
 hd s a:=J6 [a,.clo g [] e]
 tk _ _:=rfl
 wi _ _:=rfl
 put _ _:=rfl
 h x s r hr dst B st w:=by
  obtain⟨b,C,rfl⟩:=ζf.1 hr;have A:iG c g (enc x::e)=some [.bool b]:=F.f.h x [.bool b] (by rw[C];rfl)
  have e1:{ st with m:=([]:c7) }=st:=by
   cases st;simp only at w;subst w;rfl
  rw[e1];unfold iG at A;obtain⟨⟨rs,m'⟩,h1,D⟩:=ζg.1 A;have hk:=F.f.k;unfold eB;have G:cQ st.m 8 (.v (enc x)::e.map .v)=some (enc x::e):=tu 8 (enc x::e);simp only[hk,G,h1,D,Bool.false_eq_true,if_false,Bool.true_or,if_true,result,V.scalar]
theorem vw.Vz {e:List SV} {os:σ->c7} {p:α->σ->Option (Bool×σ)} [Inhabited α] [Inhabited σ] (F:∀x s,mj S c (p x s)) (G:∀x s,(F x s).n=g:=by intro _ _;kernel_rfl) (J:∀x s,(F x s).az=.v (enc x)::e:=by intro _ _;kernel_rfl) (D:∀x s,(F x s).os=os s:=by intro _ _;kernel_rfl)
 (T:∀x s,(F x s).E=λr=>[.bool r.1]:=by intro _ _;kernel_rfl) (hM:∀x s,(F x s).M=λr=>os r.2:=by intro _ _;kernel_rfl)
 (hd:∀s:σ,je (os s) (reach (os s) 32 (SV.qm e) [])=some (os s):=by intro _;kernel_rfl)
 (tk:∀s B,je (os B) ((os s).map (·.1))=some (os B):=by intro _ _;kernel_rfl) (wi:∀s B,((os B).all λx=>within ((os s).map (·.1)) x.2)=true:=by intro _ _;kernel_rfl) (put:∀s B,lG (os s) (os B)=os B:=by intro _ _;kernel_rfl):vw S c (.clo g [] e) g e os p where
 cs vs:=rfl
 hd s a:=by
  have:SV.qm [.v a,.clo g [] e]=SV.qm e:=by simp[SV.qm,SV.AF]
  unfold handed;rw[this];exact hd s
 tk:=tk
 wi:=wi
 put:=put
 h x s r hr dst I st w:=by
  obtain⟨m',k1,u⟩:=(F x s).h r hr;have hk:=(F x s).k;have z:=(F x s).o;have A:S.prm (F x s).n=none:=by
   have:=(F x s).q
   cases L:S.prm (F x s).n with
   | none=>rfl
   | some _=>rw[L]at this;cases this
  rw[G]at hk z A k1;rw[J,D,T]at k1;rw[D,hM]at u;have C:handed st.m (.v (enc x)::e)=some (os s):=by rw[w];exact hd s
  have u:=u (os s);rw[put]at u;rw[<-w]at u;unfold eB;rw[w]at C u ⊢;simp only[hk,z,A,C,k1,u,kn,List.map_cons,List.map_nil,cZ,Option.map_some,if_true,Bool.false_and,Bool.false_eq_true,if_false,result]
end
def Cl {α σ:Type} (s0:Sl α) (p:α->σ->Option (Bool×σ)) (q:Int×σ):Option (Fw (Int×σ) σ (Int×σ)):=
 bp (decide (q.1<len s0)) ((idx s0 q.1).bind λx=>(p x q.2).bind λy=>bp y.1 (some (.r (q.1,y.2))) (some (.n (IntKind.wrap .i64 (q.1+1),y.2)))) (some (.x q.2))
noncomputable def Nq {α σ:Type} (s0:Sl α) (p:α->σ->Option (Bool×σ)) (x:σ):Option (Int×σ):=(cE (Cl s0 p) (0,x)).bind (Fw.elim (λe=>some (-1,e)) λe=>some e)
noncomputable def xy {α σ:Type} (s0:Sl α) (p:α->σ->Option (Bool×σ)) (x:σ):Option (Bool×σ):=(Nq s0 p x).bind λy=>some (decide (y.1>=0),y.2)
section
variable {S:Sys} {c:bS} {α σ β γ:Type} [bq α] {g:FuncId} {Q:Out×St->Option β} {e:γ->Option β} {cf:Cf}
theorem Me (n:Nat) {cl:SV} {ex:List SV} {os:σ->c7} {p:α->σ->Option (Bool×σ)} (F:vw S c cl g ex os p) (x:α) (s:σ) {f:Bool×σ->Option γ} (h:∀r,p x s=some r->Le ((f r).bind e) (bX S c Q (nx S c n cf λq=>cT { q.st with m:=os r.2 } q.d (.v (.bool r.1)))))
 (B:(fN S c n cf).map (λq=>(q.k,bP S.N q.st.g q.az,q.dr,q.st.m))=some (.c,some [cl,.v (enc x)],false,os s):=by kernel_rfl):Le (((p x s).bind f).bind e) (bX S c Q cf):=by
 obtain⟨q,w,hv⟩:=eE B;simp only[ζc]at hv;obtain⟨h1,z,A,C⟩:=hv;refine pG w ?_ h;rw[h1,A,uj _ _ _ _ _ _ _ g ([.v (enc x)]++ex) z (F.cs [.v (enc x)])];intro y u;obtain⟨r,hr,u⟩:=ζg.1 u;cases u;have:=F.h x s r hr q.d (eN q.st.m q.fr) q.st C;rw[show (!false||q.now)=true from rfl,List.singleton_append,this];rfl
theorem G1 {cl:SV} {ex:List SV} {os:σ->c7} {p:α->σ->Option (Bool×σ)} (F:vw S c cl g ex os p) {rs:List RV} {st:St} {s B:σ} {ys:List V} (h1:jB st rs=some (ys.map .v)) (D:st.m=os B):Bs rs ((os s).map (·.1)) (.ret,st)=some (ys,os B):=by
 show ((jB st rs).bind λl=>(cZ l).bind λys=>(je st.m ((os s).map (·.1))).map λos=>(ys,os))=_
 rw[h1,D,F.tk s B];simp only[ζb,kn,Option.map_some]
theorem EG (n:Nat) {cl:SV} {ex:List SV} {os:σ->c7} {p:α->σ->Option (Bool×σ)} (F:vw S c cl g ex os p) {rs:List RV} {s B:σ} {r:γ} {e:γ->Option (List V×c7)} (ys:List V) (D:e r=some (ys,os B))
 (G:(gE S c n cf.1 cf.2.1 cf.2.2).map (λq=>(q.1,jB q.2.2 rs,q.2.2.m))=some (.rt,some (ys.map .v),os B):=by kernel_rfl):Le ((some r).bind e) (bX S c (Bs rs ((os s).map (·.1))) cf):=by
 obtain⟨⟨fo,fs,st'⟩,u,hv⟩:=eE G;simp only[ζc]at hv;obtain⟨rfl,w,z⟩:=hv;refine zo u (Le.of_eq ?_);show rn S c _ Fo.rt fs st'=e r;rw[D];exact G1 F w z
theorem IL (n:Nat) {δ:Type} {m:Option δ} (F:mj S c m) (D:handed F.os F.az=some F.os) (hp:∀x,lG F.os (F.M x)=F.M x) {f:δ->Option γ} (h:∀x,m=some x->Le ((f x).bind e) (bX S c Q (nx S c n cf λp=>cT { p.st with m:=F.M x } p.d (.v (result (F.E x))))))
 (G:(fN S c n cf).map (λp=>(p.k,(bP S.N p.st.g p.az).bind jZ,p.dr,p.st.m))=some (.c,some (F.n,F.az),false,F.os):=by kernel_rfl):Le ((m.bind f).bind e) (bX S c Q cf):=by
 obtain⟨p,w,hv⟩:=eE G;simp only[ζc]at hv;obtain⟨C,I,J,B⟩:=hv;obtain⟨z,g3,g4⟩:=ζg.1 I;refine pG w ?_ h;rw[C,J,uj _ _ _ _ _ _ z F.n F.az g3 g4];intro y A;obtain⟨r,hr,A⟩:=ζg.1 A;cases A;obtain⟨m',k1,u⟩:=F.h r hr;have w:S.prm F.n=none:=by
  have:=F.q
  cases L:S.prm F.n with
  | none=>rfl
  | some _=>rw[L]at this;cases this
 have u:=u p.st.m;rw[B,hp]at u;have:eB S c p.d false (!false||p.now) (eN p.st.m p.fr) F.n F.az p.st=some (.v (result (F.E r)),{ p.st with m:=F.M r }):=by
  unfold eB;rw[B];simp only[F.k,F.o,w,D,k1,u,kn,if_true,Bool.not_false,Bool.true_or,Bool.false_and,Bool.false_eq_true,if_false]
 rw[this];rfl
theorem Qz (n:Nat) {δ:Type} {m:Option δ} (F:mj S c m) {f:δ->Option γ} (h:∀x,m=some x->Le ((f x).bind e) (bX S c Q (nx S c n cf λp=>cT { p.st with m:=lG p.st.m (F.M x) } p.d (.v (result (F.E x))))))
 (D:(fN S c n cf).map (λp=>(p.k,((bP S.N p.st.g p.az).bind jZ).bind λq=>(handed p.st.m q.2).map λos=>(q.1,q.2,os),p.dr,p.now))=some (.c,some (F.n,F.az,F.os),true,true):=by kernel_rfl)
 (B:∀x,(fN S c n cf).map (λp=>V.cG (F.E x)&&F.os.all λy=>wI (lG p.st.m (F.M x)) y.1)=some true:=by intro x;kernel_rfl):Le ((m.bind f).bind e) (bX S c Q cf):=by
 obtain⟨p,z,hv⟩:=eE D;simp only[ζc]at hv;obtain⟨A,C,G,I⟩:=hv;obtain⟨q,g1,g2⟩:=ζg.1 C;obtain⟨u,g3,g4⟩:=ζg.1 g1;obtain⟨os,g5,g6⟩:=ζf.1 g2;simp only[ζc]at g6;obtain⟨e1,e2,rfl⟩:=g6;refine pG z ?_ h;rw[A,G,uj _ _ _ _ _ _ u q.1 q.2 g3 g4];intro y w;obtain⟨r,hr,w⟩:=ζg.1 w;cases w;obtain⟨m',k1,J⟩:=F.h r hr;have L:S.prm F.n=none:=by
  have:=F.q
  cases O:S.prm F.n with
  | none=>rfl
  | some _=>rw[O]at this;cases this
 have B:=B r;rw[z]at B;have B:=Option.some.inj B;have:eB S c p.d true (!true||p.now) (eN p.st.m p.fr) q.1 q.2 p.st=some (.v (result (F.E r)),{ p.st with m:=lG p.st.m (F.M r) }):=by
  unfold eB;rw[e1,e2]at *;simp only[F.k,F.o,L,g5,k1,J,I,B,kn,if_true,Bool.not_true,Bool.true_and,Bool.or_true,Bool.false_eq_true,if_false]
 rw[this];rfl
end
section
variable {S:Sys} {c:bS} {β γ δ α:Type} [bq δ] {Q:Out×St->Option β} {e:γ->Option β} {cf:Cf}
theorem PB (n u:Nat) {fn:FuncId} {A:α->List V} {p:α->Option (Sl δ)} (F:yD S c fn A p) (z:α) {f:Sl δ->Option γ}
 (h:∀x,(p z).bind Sl.whole=some x->Le ((f x).bind e) (bX S c Q (nx S c n cf λq=>{ q.st with g:=bH q.st.g u (.own u),m:=bH q.st.m u (cA x) })))
 (T:(fN S c n cf).map (λq=>(q.d,q.k,((bP S.N q.st.g q.az).bind jZ).bind λr=>(mO (ig q.st.m 8) r.2).map λvs=>(r.1,vs),(!q.dr||q.now),q.st.new u))=some (some u,.c,some (fn,A z),true,true):=by kernel_rfl):Le ((((p z).bind Sl.whole).bind f).bind e) (bX S c Q cf):=by
 obtain⟨q,U,hv⟩:=eE T;simp only[ζc]at hv;obtain⟨W,X,Y,Z,O⟩:=hv;obtain⟨⟨B,args⟩,D,g3⟩:=ζg.1 Y;obtain⟨G,g1,g2⟩:=ζg.1 D;obtain⟨vs,g4,g5⟩:=ζf.1 g3;simp only[ζc]at g5;obtain⟨rfl,rfl⟩:=g5;refine pG U ?_ h;rw[W,X];intro y I;obtain⟨s',J,I⟩:=ζg.1 I;cases I;obtain⟨s,hs,C⟩:=ζg.1 J;obtain⟨e0,m',hc,hm⟩:=F.h z s hs;rw[uj q.dr _ _ _ _ _ G B args g1 g2];have L:cQ q.st.m 8 args=some (A z):=by rw[(w_ q.st.m 8).2];exact g4
 have w:eB S c (some u) q.dr (!q.dr||q.now) (eN q.st.m q.fr) B args q.st=some (.own u,{ q.st with m:=bH q.st.m u (cA s') }):=by
  unfold eB;simp only[F.k,F.o,if_true,Z,L,hc,cZ,hm,cA,O]
  cases s with
  | nil=>cases C;rfl
  | emp=>cases C;rfl
  | row l=>
   cases C;have:kE (rows l)=true:=by
    unfold kE;rw[List.all_eq_true];intro x hx;obtain⟨a,_,rfl⟩:=List.mem_map.1 hx;exact F.sc a
   simp only[Sl.k,Sl.l,cZ,V.cG,this,Bool.and_self,O,if_true];rfl
  | part l=>cases C
 rw[w];rfl
end
def Qw:Out×St->Option (List (List V))
 | (.exit _,_)=>none
 | (_,st)=>some st.want
noncomputable def yl (B:List (List V)) (more:Bool) (xs:List V):Option (Bool×List (List V)):=match B with
 | w::r=>open Classical in if w=xs then some (more || !r.isEmpty,r)else none
 | []=>none
section
variable {S:Sys} {c:bS} {β γ:Type} {Q:Out×St->Option β} {e:γ->Option β} {cf:Cf}
theorem UL (n:Nat) {B:List (List V)} {more:Bool} (xs:List V) {f:Bool×List (List V)->Option γ}
 (h:∀r,yl B more xs=some r->Le ((f r).bind e) (bX S c Q (nx S c n cf λq=>cT { q.st with want:=r.2 } q.d (.v (.bool r.1)))))
 (D:(fN S c n cf).map (λq=>(q.k,bP S.N q.st.g q.az,q.st.want,q.st.more,q.dr))=some (.c,some (.yl ((fN S c n cf).elim 0 λq=>q.st.yid)::xs.map .v),B,more,false):=by kernel_rfl):Le (((yl B more xs).bind f).bind e) (bX S c Q cf):=by
 obtain⟨q,A,hv⟩:=eE D;simp only[ζc]at hv;obtain⟨h1,u,C,G,I⟩:=hv;rw[A]at u;refine pG A ?_ h;intro y z;obtain⟨r,hr,z⟩:=ζg.1 z;cases z;unfold yl at hr;split at hr
 .rename_i w L;split at hr
  .rename_i J;cases hr;rw[h1,I];unfold eZ;have u:bP S.N q.st.g q.az=some (.yl q.st.yid::xs.map .v):=u;simp only[wanted,fm,u,kn,C,J,G,if_true,and_self,Bool.false_eq_true,if_false]
  .cases hr
 .cases hr
theorem Pb {S G:Sys} {c:bS} (W:G.E=S.E) (hP:∀f q,S.prm f=some q->mb S.E f q) (hS:iy S c) (Y:∀f a b xs,S.items f a b=some xs->dZ S f a b xs) {f:FuncId} {fi:FI} {nm:FuncId->Option Nat} {rf:RF} (T:S.E.ft f=some fi) (hN:∀g s,nm g=some s->S.N s=g) (hr:vO S.E nm fi rf) {a b:List V} {xs:List (List V)} (D:a.length+1+b.length<=rf.na) (U:rf.rs=[])
 (h:∀B more,tH B xs more->∀yid,bX S c Qw (.rc rf.body,[],⟨tS 0 (a.map .v++.yl yid::b.map .v),[],[],B,more,yid⟩)=some []):dZ G f a b xs:=by
 have k:dZ S f a b xs:=IF hP hS Y T hN hr D U (λB more w yid=>by
  have h1:=h B more w yid;change jN S c Qw rf.body [] _=some []at h1;rw[nV]at h1;obtain⟨⟨o,st'⟩,z,u⟩:=ζg.1 h1;refine⟨o,st',z,?_,?_,rfl⟩
  .rintro id rfl;simp[Qw]at u
  .cases o <;> simp[Qw]at u <;> exact u)
 obtain⟨O,Q,it,wL,prm⟩:=G;simp only at W;subst W;intro B more w yid J y Z A C H h1 z u I L;exact k B more w yid J ⟨y.uQ,y.yield⟩ Z A C H h1 z u I L
end
section
variable {S:Sys} {c:bS} {β γ α:Type} [bq α] {Q:Out×St->Option β} {e:γ->Option β} {cf:Cf}
theorem Ug (n u:Nat) {s:Sl α} {i:Nat} {a:α} {f:Sl α->Option γ} (h:∀B,s.put i a=some B->Le ((f B).bind e) (bX S c Q (nx S c n cf λp=>cT { p.st with m:=bH p.st.m u (cA B) } p.d (.v .undef))))
 (D:(fN S c n cf).map (λp=>(p.k,bP S.N p.st.g p.az,a_ p.st.m u,(!p.dr||p.now)))=some (.l (.store (bq.size α)),some [.el u i 0,cv a],some (cA s),true):=by kernel_rfl):Le (((s.put i a).bind f).bind e) (bX S c Q cf):=by
 obtain⟨p,w,hv⟩:=eE D;simp only[ζc]at hv;refine pG w ?_ h;rw[hv.1];exact Le.of_eq (Ic hv.2.1 hv.2.2.2 hv.2.2.1 (iS a) rfl)
end
end Go.VE
namespace Go.VE
variable [bN]
theorem Pw {n:Int} (B:0<=n) (h:n<=4611686018427387904):IntKind.wrap .i64 n=n:=by
 simp[IntKind.wrap,IntKind.bits,IntKind.signed];omega
namespace catX
instance {n:Nat}:OfNat Arg n:=⟨.s n⟩
def ln:K:=.p .lenSl
def ix:K:=.p (.idxS 1)
def bI (o:BinOp):K:=.p (.bin (some .int) none o)
def ld:K:=.r (.load 1 false)
def g1:List RO:=[o1 4 (.k (.bE)) []]
def g2:List RO:=[o1 5 1 [],o2 6 (bI .lss) [5,.k (.int .i64 0)] []]
def g3:List RO:=[o2 7 (.p (.bad)) [] [],⟨none,none,false,.p .bad,[],[],[]⟩]
def g4:List RO:=[o1 8 1 [],o1 9 0 [],o2 10 (.p (.capSl)) [9] [],o1 11 0 [],o2 12 ln [11] [],o2 13 (bI .sub) [10,12] [],o2 14 (bI .sub) [8,13] [],o1 1 14 []]
def g5:List RO:=[o1 15 1 [],o2 16 (bI .gtr) [15,.k (.int .i64 0)] []]
def g6:List RO:=[o1 17 0 [],o1 18 0 [],o2 19 (.p (.capSl)) [18] [],o2 20 (.p (.slice 1 false true)) [17,19] [],o1 21 1 [],o2 22 (.l (.appMk 1 24 [.bE])) [20,21] [],o1 23 0 [],o2 24 ln [23] [],o2 25 (.p (.slice 1 false true)) [22,24] [],o1 0 25 []]
def g7:List RO:=[o1 26 0 [],o1 4 26 []]
def grow:RC:=.seq (.ops g1) (.seq (.seq (.ops g2) (.cond (.s 6) (.ops g3) (.skip))) (.seq (.seq (.ops g4) (.seq (.ops g5) (.cond (.s 16) (.ops g6) (.skip)))) (.seq (.ops g7) (.ret))))
section
variable {E:Env} {N:Nat->FuncId} {t:Nat}
theorem Qn (ht:t<=2147483648):∃F',Ex E N grow [.bE,.int .i64 t] [] .ret F' (if t=0 then []else [.row 1 (List.replicate t [.bE])])/\get F' 4=if t=0 then .bE else .hsl 0 1 0 0:=by
 have e1:∀call,dD E N call none g1 [.bE,.int .i64 t] []=some (set [.bE,.int .i64 t] 4 .bE,[]):=λcall=>vp (v:=.bE) rfl (by simp[bV,bC,bn]) eR
 have k0:get (set [V.bE,.int .i64 t] 4 .bE) 0=.bE:=rfl;have k1:get (set [V.bE,.int .i64 t] 4 .bE) 1=.int .i64 t:=rfl;generalize set [V.bE,.int .i64 t] 4 .bE=J at *;have T:IntKind.wrap .i64 ((t:Int)-0)=t:=by rw[Int.sub_zero];exact Pw (by omega) (by omega)
 have C:IntKind.wrap .i64 ((0:Int)-0)=0:=by decide
 have e2:∃F1,(∀call,dD E N call none g2 J []=some (F1,[]))/\get F1 6=.bool false/\get F1 0=.bE/\get F1 1=.int .i64 t:=by
  refine⟨_,λcall=>vp (v:=.int .i64 t) rfl ?_ <| vp (v:=.bool false) rfl ?_ eR,?_,?_,?_⟩
  .simp[bV,bC,bn,k1]
  .simp[bV,bC,bn,bF,bI,iE,oI]
  all_goals simp[bF,k0,k1]
 obtain⟨F1,U,W,D,X⟩:=e2;have e4:∃w,(∀call,dD E N call none g4 F1 []=some (w,[]))/\get w 0=.bE/\get w 1=.int .i64 t:=by
  refine⟨_,λcall=>vp (v:=.int .i64 t) rfl ?_ <| vp (v:=.bE) rfl ?_ <| vp (v:=.int .i64 0) rfl ?_ <| vp (v:=.bE) rfl ?_ <| vp (v:=.int .i64 0) rfl ?_ <| vp (v:=.int .i64 0) rfl ?_ <| vp (v:=.int .i64 t) rfl ?_ <| vp (v:=.int .i64 t) rfl ?_ eR,?_,?_⟩
  .simp[bV,bC,bn,X]
  .simp[bV,bC,bn,bF,D]
  .simp[bV,bC,bn,bF,Gs]
  .simp[bV,bC,bn,bF,D]
  .simp[bV,bC,bn,bF,ln,mT]
  .simp only[bV,List.map_cons,List.map_nil,bC,bF,bR,Nat.reduceEqDiff,if_true,if_false,bn,bI,iE,C];rfl
  .simp only[bV,List.map_cons,List.map_nil,bC,bF,bR,Nat.reduceEqDiff,if_true,if_false,bn,bI,iE,T];rfl
  .simp[bV,bC,bn,bF]
  all_goals simp[bF,D]
 obtain⟨w,L,Y,O⟩:=e4;have e5:∃u,(∀call,dD E N call none g5 w []=some (u,[]))/\get u 16=.bool (decide (t>0))/\get u 0=.bE/\get u 1=.int .i64 t:=by
  refine⟨_,λcall=>vp (v:=.int .i64 t) rfl ?_ <| vp (v:=.bool (decide (t>0))) rfl ?_ eR,?_,?_,?_⟩
  .simp[bV,bC,bn,O]
  .simp[bV,bC,bn,bF,bI,iE,oI]
  all_goals simp[bF,Y,O]
 obtain⟨u,Q,S,A,Z⟩:=e5;have hc:Ex E N (.seq (.ops g2) (.cond (.s 6) (.ops g3) (.skip))) J [] .norm F1 []:=Ex.seq (Ex.dJ U) (Ex.sP W Ex.skip);have e7:∀(F:Frame) (H:bf),∃F',(∀call,dD E N call none g7 F H=some (F',H))/\get F' 4=get F 0:=λF H=>
  ⟨_,λcall=>vp (v:=get F 0) rfl (by simp[bV,bC,bn]) <| vp (v:=get F 0) rfl (by simp[bV,bC,bn,bF]) eR,by simp[bF]⟩
 by_cases G:t=0
 .subst G;obtain⟨I,d1,d2⟩:=e7 u [];refine⟨I,?_,by rw[d2,A];rfl⟩
  exact Ex.seq (Ex.dJ e1) (Ex.seq hc (Ex.seq (Ex.seq (Ex.dJ L) (Ex.seq (Ex.dJ Q) (Ex.sP S Ex.skip))) (Ex.seq (Ex.dJ d1) Ex.ret)))
 .have z:0<t:=by omega
  have e6:∃B,(∀call,dD E N call none g6 u []=some (B,[.row 1 (List.replicate t [.bE])]))/\get B 0=.hsl 0 1 0 0:=by
   refine⟨_,λcall=>vp (v:=.bE) rfl ?_ <| vp (v:=.bE) rfl ?_ <| vp (v:=.int .i64 0) rfl ?_ <| vp (v:=.bE) rfl ?_ <| vp (v:=.int .i64 t) rfl ?_ <| sL (v:=.hsl 0 1 0 t) (H1:=[.row 1 (List.replicate t [.bE])]) rfl ?_ <| vp (v:=.bE) rfl ?_ <| vp (v:=.int .i64 0) rfl ?_ <| vp (v:=.hsl 0 1 0 0) rfl ?_ <| vp (v:=.hsl 0 1 0 0) rfl ?_ eR,?_⟩
   .simp[bV,bC,bn,A]
   .simp[bV,bC,bn,bF,A]
   .simp[bV,bC,bn,bF,Gs]
   .simp[bV,bC,bn,bF,k7,gB,dI]
   .simp[bV,bC,bn,bF,Z]
   .simp only[bV,List.map_cons,List.map_nil,bC,bF,bR,Nat.reduceEqDiff,if_true,if_false,eM,mkApp];rw[if_neg (by omega),if_pos ⟨by omega,by omega,by omega,by omega⟩];simp
   .simp[bV,bC,bn,bF,A]
   .simp[bV,bC,bn,bF,ln,mT]
   .simp[bV,bC,bn,bF,k7,gB,dI]
   .simp[bV,bC,bn,bF]
   .simp[bF]
  obtain⟨B,q1,q2⟩:=e6;obtain⟨I,d1,d2⟩:=e7 B [.row 1 (List.replicate t [.bE])];rw[if_neg G,if_neg G];refine⟨I,?_,by rw[d2,q2]⟩
  exact Ex.seq (Ex.dJ e1) (Ex.seq hc (Ex.seq (Ex.seq (Ex.dJ L) (Ex.seq (Ex.dJ Q) (Ex.pW (by show get u 16=_;rw[S,decide_eq_true z]) (Ex.dJ q1)))) (Ex.seq (Ex.dJ d1) Ex.ret)))
end
end catX
end Go.VE
namespace Go.VE
variable [bN]
def zl {α:Type} (s:Sl (Sl α)):Sl α:=if(s.l.flatMap Sl.l).length=0 then .nil else .row (s.l.flatMap Sl.l)
namespace catX
def r1:List RO:=[o1 2 (.k (.bE)) []]
def r2:List RO:=[o1 3 (.k (.int .i64 0)) []]
def r3:List RO:=[o1 9 0 [],o2 10 ln [9] [],o1 11 (.k (.int .i64 0)) []]
def r4:List RO:=[o2 12 (bI .lss) [11,10] []]
def r5:List RO:=[o2 13 ix [9,11] [],o2 14 ld [13] [],o1 5 14 []]
def r6:List RO:=[o1 15 3 [],o1 16 5 [],o2 17 ln [16] [],o2 18 (bI .add) [15,17] [],o1 3 18 []]
def r7:List RO:=[o1 19 3 [],o2 20 (bI .lss) [19,.k (.int .i64 0)] []]
def r8:List RO:=[o2 21 (.p (.bad)) [] [],⟨none,none,false,.p .bad,[],[],[]⟩]
def r9:List RO:=[o2 22 (bI .add) [11,.k (.int .i64 1)] [],o1 11 22 []]
def L9:RC:=.seq (.ops r4) (.seq (.cond (.s 12) (.skip) (.exit 0)) (.seq (.block 1 (.seq (.ops r5) (.seq (.ops r6) (.seq (.ops r7) (.cond (.s 20) (.ops r8) (.skip)))))) (.ops r9)))
def Ip (gid:Nat):List RO:=[o1 23 3 [],o2 24 .c [.f gid,.k (.bE),23] [],o1 6 24 []]
def Lp:List RO:=[o1 25 0 [],o2 26 ln [25] [],o1 27 (.k (.int .i64 0)) []]
def Lx:List RO:=[o2 28 (bI .lss) [27,26] []]
def K8:List RO:=[o2 29 ix [25,27] [],o2 30 ld [29] [],o1 8 30 []]
def Mm:List RO:=[o1 31 6 [],o1 32 8 [],o2 33 (.l (.append 1)) [31,32] [],o1 6 33 []]
def K1:List RO:=[o2 34 (bI .add) [27,.k (.int .i64 1)] [],o1 27 34 []]
def UT:RC:=.seq (.ops Lx) (.seq (.cond (.s 28) (.skip) (.exit 2)) (.seq (.block 3 (.seq (.ops K8) (.ops Mm))) (.ops K1)))
def r16:List RO:=[o1 35 6 [],o1 2 35 []]
def cat (gid:Nat):RC:=.seq (.ops r1) (.seq (.ops r2) (.seq (.seq (.ops r3) (.block 0 (.loop L9))) (.seq (.ops (Ip gid)) (.seq (.seq (.ops Lp) (.block 2 (.loop UT))) (.seq (.ops r16) (.ret))))))
section
variable {E:Env} {N:Nat->FuncId} {F:Frame} {H:bf} {α:Type} [bq α] {s:Sl (Sl α)} {i:Nat}
theorem el {u:Sl α} (h:s.l[i]? = some u):lE 1 (bQ s) (i:Int)=some (.fptr [bQ u]):=by
 have:=HY (N:=λn=>n) s .i64 (i:Int) 1 rfl
 simp only[bn]at this;rw[this,show idx s (i:Int)=some u from by unfold idx;rw[if_pos (by omega)];exact h];rfl
theorem US (s:Sl α):mT (bQ s)=some (.int .i64 s.l.length):=by
 have:=FJ (N:=λn=>n) s;simpa only[bn]using this
theorem y3:(get F 0=bQ s->∃F',(∀call,dD E N call none r3 F H=some (F',H))/\get F' 9=bQ s/\get F' 10=.int .i64 s.l.length/\get F' 11=.int .i64 0/\∀j,j<9->get F' j=get F j) /\
 (get F 0=bQ s->∃F',(∀call,dD E N call none Lp F H=some (F',H))/\get F' 25=bQ s/\get F' 26=.int .i64 s.l.length/\get F' 27=.int .i64 0/\∀j,j<9->get F' j=get F j):=by
 have h:=US s;refine⟨λf0=>⟨_,λcall=>vp (v:=bQ s) rfl ?_ <| vp (v:=.int .i64 s.l.length) rfl ?_ <| vp (v:=.int .i64 0) rfl ?_ eR,?_,?_,?_,?_⟩,λf0=>⟨_,λcall=>vp (v:=bQ s) rfl ?_ <| vp (v:=.int .i64 s.l.length) rfl ?_ <| vp (v:=.int .i64 0) rfl ?_ eR,?_,?_,?_,?_⟩⟩ <;>
 first
 | (simp[bV,bC,bn,f0];done)
 | (simp only[bV,List.map_cons,List.map_nil,bC,bF,bR,Nat.reduceEqDiff,if_true,if_false,bn,ln,h];rfl)
 | (simp[bV,bC,bn,bF];done)
 | (simp[bF];done)
 | (intro j u;simp only[bF,bR];repeat (rw[if_neg (by omega)]))
theorem y4 {n:Nat}:(get F 11=.int .i64 i->get F 10=.int .i64 n->∃F',(∀call,dD E N call none r4 F H=some (F',H))/\get F' 12=.bool (decide (i<n))/\∀j,j<12->get F' j=get F j) /\
 (get F 27=.int .i64 i->get F 26=.int .i64 n->∃F',(∀call,dD E N call none Lx F H=some (F',H))/\get F' 28=.bool (decide (i<n))/\∀j,j<28->get F' j=get F j):=by
 refine⟨λf u=>⟨_,λcall=>vp (v:=.bool (decide (i<n))) rfl ?_ eR,?_,?_⟩,λf u=>⟨_,λcall=>vp (v:=.bool (decide (i<n))) rfl ?_ eR,?_,?_⟩⟩ <;>
 first
 | (simp[bV,bC,bn,bF,bI,iE,oI,f,u];done)
 | (simp[bF];done)
 | (intro j w;simp only[bF,bR];repeat (rw[if_neg (by omega)]))
theorem y5 {u:Sl α} (h:s.l[i]? = some u):(get F 9=bQ s->get F 11=.int .i64 i->∃F',(∀call,dD E N call none r5 F H=some (F',H))/\get F' 5=bQ u/\∀j,j<12->j≠5->get F' j=get F j) /\
 (get F 25=bQ s->get F 27=.int .i64 i->∃F',(∀call,dD E N call none K8 F H=some (F',H))/\get F' 8=bQ u/\∀j,j<28->j≠8->get F' j=get F j):=by
 have e:=el h;have e2:ga H (.load 1 false) [.fptr [bQ u]]=some (bQ u):=by simp[ga,ei,cut,mk]
 refine⟨λf w=>⟨_,λcall=>vp (v:=.fptr [bQ u]) rfl ?_ <| vp (v:=bQ u) rfl ?_ <| vp (v:=bQ u) rfl ?_ eR,?_,?_⟩,λf w=>⟨_,λcall=>vp (v:=.fptr [bQ u]) rfl ?_ <| vp (v:=bQ u) rfl ?_ <| vp (v:=bQ u) rfl ?_ eR,?_,?_⟩⟩ <;>
 first
 | (simp only[bV,List.map_cons,List.map_nil,bC,bF,bR,Nat.reduceEqDiff,if_true,if_false,bn,ix,f,w,e,Option.map_some];done)
 | (simp only[bV,List.map_cons,List.map_nil,bC,bF,bR,Nat.reduceEqDiff,if_true,if_false,ld];rw[e2];rfl)
 | (simp[bV,bC,bn,bF];done)
 | (simp[bF];done)
 | (intro j A z;simp only[bF,bR];rw[if_neg (Ne.symm z)];repeat (rw[if_neg (by omega)]))
theorem y6 {u:Sl α} {t:Nat} (B:get F 3=.int .i64 t) (f5:get F 5=bQ u) (D:t+u.l.length<=2147483648):∃F',(∀call,dD E N call none r6 F H=some (F',H))/\get F' 3=.int .i64 ((t+u.l.length:Nat):Int)/\∀j,j<12->j≠3->get F' j=get F j:=by
 have h:=US u;have w:IntKind.wrap .i64 ((t:Int)+(u.l.length:Int))=((t+u.l.length:Nat):Int):=by rw[Pw (by omega) (by omega)];simp
 refine⟨_,λcall=>vp (v:=.int .i64 t) rfl ?_ <| vp (v:=bQ u) rfl ?_ <| vp (v:=.int .i64 u.l.length) rfl ?_ <| vp (v:=.int .i64 ((t+u.l.length:Nat):Int)) rfl ?_ <| vp (v:=.int .i64 ((t+u.l.length:Nat):Int)) rfl ?_ eR,?_,?_⟩
 .simp[bV,bC,bn,B]
 .simp[bV,bC,bn,bF,f5]
 .simp only[bV,List.map_cons,List.map_nil,bC,bF,bR,Nat.reduceEqDiff,if_true,if_false,bn,ln,h];rfl
 .simp only[bV,List.map_cons,List.map_nil,bC,bF,bR,Nat.reduceEqDiff,if_true,if_false,bn,bI,iE,w];rfl
 .simp[bV,bC,bn,bF]
 .simp[bF]
 .intro j A z;simp only[bF,bR];rw[if_neg (Ne.symm z)]
  repeat (rw[if_neg (by omega)])
theorem y7 {t:Nat} (B:get F 3=.int .i64 t):∃F',(∀call,dD E N call none r7 F H=some (F',H))/\get F' 20=.bool false/\∀j,j<12->get F' j=get F j:=by
 refine⟨_,λcall=>vp (v:=.int .i64 t) rfl ?_ <| vp (v:=.bool false) rfl ?_ eR,?_,?_⟩
 .simp[bV,bC,bn,B]
 .simp[bV,bC,bn,bF,bI,iE,oI]
 .simp[bF]
 .intro j u;simp only[bF,bR]
  repeat (rw[if_neg (by omega)])
theorem y9 (hi:i<=2147483648):(get F 11=.int .i64 i->∃F',(∀call,dD E N call none r9 F H=some (F',H))/\get F' 11=.int .i64 ((i+1:Nat):Int)/\∀j,j<11->get F' j=get F j) /\
 (get F 27=.int .i64 i->∃F',(∀call,dD E N call none K1 F H=some (F',H))/\get F' 27=.int .i64 ((i+1:Nat):Int)/\∀j,j<27->get F' j=get F j):=by
 have u:=Mn hi;refine⟨λf=>⟨_,λcall=>vp (v:=.int .i64 ((i+1:Nat):Int)) rfl ?_ <| vp (v:=.int .i64 ((i+1:Nat):Int)) rfl ?_ eR,?_,?_⟩,λf=>⟨_,λcall=>vp (v:=.int .i64 ((i+1:Nat):Int)) rfl ?_ <| vp (v:=.int .i64 ((i+1:Nat):Int)) rfl ?_ eR,?_,?_⟩⟩ <;>
 first
 | (simp only[bV,List.map_cons,List.map_nil,bC,bF,bR,Nat.reduceEqDiff,if_true,if_false,bn,bI,iE,f,u];rfl)
 | (simp[bV,bC,bn,bF];done)
 | (simp[bF];done)
 | (intro j w;simp only[bF,bR];repeat (rw[if_neg (by omega)]))
structure Acc (H:bf) (w:V) (acc:List (List V)):Prop where
 el:dx H 1 w=some acc
 gr:∃H1,gq H w=some H1/\H1.length=H.length
 sh:w=.bE/\acc=[]\/∃id xs,w=.hsl id 1 0 acc.length/\H[id]? = some (.row 1 xs)/\(acc≠[]->xs=acc)
theorem Q0 (H:bf) (u:Sl α) (h1:bq.size α=1):dx H 1 (bQ u)=some (rows u.l):=by
 cases u <;> simp[bQ,Sl.k,Sl.l,mS,dx,rows,h1]
theorem VD {w:V} {acc:List (List V)} {u:Sl α} (h1:bq.size α=1) (a:Acc H w acc) (f6:get F 6=w) (D:get F 8=bQ u) (G:acc.length+u.l.length<=2147483648) :
 ∃F' H' w',(∀call,dD E N call none Mm F H=some (F',H'))/\get F' 6=w'/\Acc H' w' (acc++rows u.l)/\(u.l=[]->w'=w)/\∀j,j<28->j≠6->get F' j=get F j:=by
 have hu:=Q0 H u h1;have B:(rows u.l).length=u.l.length:=by simp[rows]
 have key:∃H' w',eM H (.append 1) [w,bQ u]=some (w',H')/\Acc H' w' (acc++rows u.l)/\(u.l=[]->w'=w):=by
  obtain⟨H1,g1,g2⟩:=a.gr
  cases hr:rows u.l with
  | nil=>exact⟨H,w,by simp only[eM,a.el,hu,hr],by simpa using a,λ_=>rfl⟩
  | cons y A=>
   have C:acc.length+(y::A).length<=2147483648:=by rw[<-hr,B];exact G
   refine⟨H1++[.row 1 (acc++y::A)],.hsl H.length 1 0 (acc.length+(y::A).length),by simp only[eM,a.el,hu,hr];rw[if_pos C,g1];rfl,?_⟩
   have z:(H1++[Ob.row 1 (acc++y::A)])[H.length]? = some (.row 1 (acc++y::A)):=by rw[<-g2];simp
   refine⟨⟨?_,⟨_,by simp only[gq,z];rfl,by simp⟩,.inr ⟨H.length,acc++y::A,by simp,z,λ_=>rfl⟩⟩,λe=>by rw[e]at hr;cases hr⟩
   simp only[dx,z,ζb,Ob.rows,if_true,Nat.zero_add,List.drop_zero];rw[if_pos (by simp),List.take_of_length_le (by simp)]
 obtain⟨H',w',k1,I,J⟩:=key;refine⟨_,H',w',λcall=>vp (v:=w) rfl ?_ <| vp (v:=bQ u) rfl ?_ <| sL (v:=w') (H1:=H') rfl ?_ <| vp (v:=w') rfl ?_ eR,?_,I,J,?_⟩
 .simp[bV,bC,bn,f6]
 .simp[bV,bC,bn,bF,D]
 .simp only[bV,List.map_cons,List.map_nil,bC,bF,bR,Nat.reduceEqDiff,if_true,if_false];exact k1
 .simp[bV,bC,bn,bF]
 .simp[bF]
 .intro j O L;simp only[bF,bR];rw[if_neg (Ne.symm L)]
  repeat (rw[if_neg (by omega)])
def upto (s:Sl (Sl α)) (i:Nat):List α:=(s.l.take i).flatMap Sl.l
theorem DJ {u:Sl α} (h:s.l[i]? = some u):upto s (i+1)=upto s i++u.l:=by
 unfold upto;obtain⟨hi,rfl⟩:=ζe.1 h;rw[List.take_succ_eq_append_getElem hi,List.flatMap_append];simp
theorem HZ (s:Sl (Sl α)) (i:Nat):(upto s i).length<=(s.l.flatMap Sl.l).length:=by
 have:s.l.flatMap Sl.l=upto s i++(s.l.drop i).flatMap Sl.l:=by
  unfold upto;rw[<-List.flatMap_append,List.take_append_drop]
 rw[this];simp
theorem Vt (hn:s.l.length<=2147483648) (ht:(s.l.flatMap Sl.l).length<=2147483648):∀(d i:Nat) (F:Frame),i+d=s.l.length->get F 9=bQ s->get F 10=.int .i64 s.l.length->get F 11=.int .i64 i->get F 3=.int .i64 (upto s i).length ->
 ∃F',pE E N L9 F H (.exit 0) F' H/\get F' 3=.int .i64 (s.l.flatMap Sl.l).length/\get F' 0=get F 0:=by
 intro d
 induction d with
 | zero=>
  intro i F hi C z w D;obtain⟨F1,G,I,A⟩:=(y4 (E:=E) (N:=N) (H:=H) (n:=s.l.length)).1 w z;refine⟨F1,pE.stop (Ex.seq (Ex.dJ G) (Ex.xL (Ex.sP (by show get F1 12=_;rw[I,decide_eq_false (by omega)]) Ex.exit) (by simp))) (by simp),?_,A 0 (by omega)⟩
  rw[A 3 (by omega),D]
  have:upto s i=s.l.flatMap Sl.l:=by unfold upto;rw[List.take_of_length_le (by omega)]
  rw[this]
 | succ d T=>
  intro i F hi C z w D;obtain⟨F1,G,I,A⟩:=(y4 (E:=E) (N:=N) (H:=H) (n:=s.l.length)).1 w z;have hu:s.l[i]? = some s.l[i]:=ζd (by omega)
  obtain⟨U,W,X,L⟩:=(y5 (E:=E) (N:=N) (F:=F1) (H:=H) hu).1 (by rw[A 9 (by omega)];exact C) (by rw[A 11 (by omega)];exact w)
  have J:=HZ s (i+1);have O:=DJ hu;rw[O,ζi]at J;obtain⟨Y,Z,Q,c3⟩:=y6 (E:=E) (N:=N) (F:=U) (H:=H) (u:=s.l[i]) (t:=(upto s i).length) (by rw[L 3 (by omega) (by omega),A 3 (by omega)];exact D) X (by omega)
  obtain⟨S,d1,d2,d3⟩:=y7 (E:=E) (N:=N) (F:=Y) (H:=H) Q;have B:∀j,j<12->j≠3->j≠5->get S j=get F j:=λj h1 h2 h3=>by rw[d3 j h1,c3 j h1 h2,L j h1 h3,A j h1]
  obtain⟨F5,e1,e2,e3⟩:=(y9 (E:=E) (N:=N) (F:=S) (H:=H) (i:=i) (by omega)).1 (by rw[B 11 (by omega) (by omega) (by omega)];exact w)
  obtain⟨F',g1,g2,g3⟩:=T (i+1) F5 (by omega) (by rw[e3 9 (by omega),B 9 (by omega) (by omega) (by omega)];exact C) (by rw[e3 10 (by omega),B 10 (by omega) (by omega) (by omega)];exact z) e2 (by rw[e3 3 (by omega),d3 3 (by omega),Q,O,ζi])
  exact⟨F',pE.step (Ex.seq (Ex.dJ G) (Ex.seq (Ex.pW (by show get F1 12=_;rw[I,decide_eq_true (by omega)]) Ex.skip) (Ex.seq (Ex.block (Ex.seq (Ex.dJ W) (Ex.seq (Ex.dJ Z) (Ex.seq (Ex.dJ d1) (Ex.sP d2 Ex.skip))))) (Ex.dJ e1)))) g1,g2,by rw[g3,e3 0 (by omega),B 0 (by omega) (by omega) (by omega)]⟩
theorem Vx (h1:bq.size α=1) (hn:s.l.length<=2147483648) (ht:(s.l.flatMap Sl.l).length<=2147483648):∀(d i:Nat) (F:Frame) (H:bf) (w:V),i+d=s.l.length->get F 25=bQ s->get F 26=.int .i64 s.l.length->get F 27=.int .i64 i->get F 6=w->Acc H w (rows (upto s i)) ->
 ∃F' H' w',pE E N UT F H (.exit 2) F' H'/\get F' 6=w'/\Acc H' w' (rows (s.l.flatMap Sl.l))/\((s.l.flatMap Sl.l).length=0->w'=w):=by
 intro d
 induction d with
 | zero=>
  intro i F H w hi B A z f6 a;obtain⟨F1,D,G,C⟩:=(y4 (E:=E) (N:=N) (H:=H) (n:=s.l.length)).2 z A;have:upto s i=s.l.flatMap Sl.l:=by unfold upto;rw[List.take_of_length_le (by omega)]
  rw[this]at a;exact⟨F1,H,w,pE.stop (Ex.seq (Ex.dJ D) (Ex.xL (Ex.sP (by show get F1 28=_;rw[G,decide_eq_false (by omega)]) Ex.exit) (by simp))) (by simp),by rw[C 6 (by omega)];exact f6,a,λ_=>rfl⟩
 | succ d T=>
  intro i F H w hi B A z f6 a;obtain⟨F1,D,G,C⟩:=(y4 (E:=E) (N:=N) (H:=H) (n:=s.l.length)).2 z A;have hu:s.l[i]? = some s.l[i]:=ζd (by omega)
  obtain⟨U,W,X,L⟩:=(y5 (E:=E) (N:=N) (F:=F1) (H:=H) hu).2 (by rw[C 25 (by omega)];exact B) (by rw[C 27 (by omega)];exact z)
  have I:=HZ s (i+1);have O:=DJ hu;rw[O,ζi]at I;obtain⟨Q,H',w',Y,Z,S,c5,c4⟩:=VD (E:=E) (N:=N) (F:=U) (H:=H) (u:=s.l[i]) h1 a (by rw[L 6 (by omega) (by omega),C 6 (by omega)];exact f6) X (by simp only[fL];omega)
  have J:∀j,j<28->j≠6->j≠8->get Q j=get F j:=λj h1 h2 h3=>by rw[c4 j h1 h2,L j h1 h3,C j h1]
  obtain⟨F5,e1,e2,e3⟩:=(y9 (E:=E) (N:=N) (F:=Q) (H:=H') (i:=i) (by omega)).2 (by rw[J 27 (by omega) (by omega) (by omega)];exact z)
  have hr:rows (upto s i)++rows s.l[i].l=rows (upto s (i+1)):=by rw[O];simp[rows]
  rw[hr]at S;obtain⟨F',H2,w2,g1,g2,g3,g4⟩:=T (i+1) F5 H' w' (by omega) (by rw[e3 25 (by omega),J 25 (by omega) (by omega) (by omega)];exact B) (by rw[e3 26 (by omega),J 26 (by omega) (by omega) (by omega)];exact A) e2 (by rw[e3 6 (by omega)];exact Z) S
  exact⟨F',H2,w2,pE.step (Ex.seq (Ex.dJ D) (Ex.seq (Ex.pW (by show get F1 28=_;rw[G,decide_eq_true (by omega)]) Ex.skip) (Ex.seq (Ex.block (Ex.seq (Ex.dJ W) (Ex.dJ Y))) (Ex.dJ e1)))) g1,g2,g3,λe=>(g4 e).trans (c5 (List.eq_nil_of_length_eq_zero (by omega)))⟩
end
end catX
theorem Rc {E:Env} {f gf:FuncId} {nm:FuncId->Option Nat} {N:Nat->FuncId} {gid:Nat} (hN:∀f s,nm f=some s->N s=f) (hg:N gid=gf) (aa:E.keep gf=true) (U:E.own gf=true)
 (hf:∃fi,E.ft f=some fi/\bJ ⟨E,nm,fi.ntmps⟩ false fi.body=some (catX.cat gid)/\2<=fi.ntmps/\fi.results=[.tmp 2])
 (ab:∃fi,E.ft gf=some fi/\bJ ⟨E,nm,fi.ntmps⟩ false fi.body=some catX.grow/\2<=fi.ntmps/\fi.results=[.tmp 4])
 {α:Type} [bq α] (h1:bq.size α=1) (s:Sl (Sl α)) (hn:s.l.length<=2147483648) (ht:(s.l.flatMap Sl.l).length<=2147483648):Bc E f [bQ s] (bQ (zl s)):=by
 obtain⟨fi,p1,p2,p3,p4⟩:=hf;obtain⟨gi,q1,q2,q3,q4⟩:=ab;generalize Z:(s.l.flatMap Sl.l).length=T at *;obtain⟨Fg,ad,ae⟩:=catX.Qn (E:=E) (N:=N) ht;obtain⟨n0,L⟩:=Ex.run hN q1 q2 (args:=[.bE,.int .i64 T]) (by simpa using q3) ad (vs:=[if T=0 then .bE else .hsl 0 1 0 0]) (by rw[q4];simp[gN,ae])
 have O:∀l,borrows l [] [.bE,.int .i64 (T:Int)]=some [.bE,.int .i64 (T:Int)]:=λl=>by
  unfold borrows;simp only[gV,jy l [] (x:=V.bE) rfl,jy l [] (x:=V.int .i64 T) rfl]
 have C:∃w D,(∀k,n0<=k->fc E (run E k) gf [.bE,.int .i64 T] []=some (w,D))/\catX.Acc D w []/\(T=0->w=.bE):=by
  by_cases z:T=0
  .refine⟨.bE,[],λk hk=>?_,⟨rfl,⟨[],rfl,rfl⟩,.inl ⟨rfl,rfl⟩⟩,λ_=>rfl⟩
   have:=(nI E hk).go _ _ _ _ L;rw[if_pos z,if_pos z]at this;unfold fc kU;rw[if_pos U];simp[O,this,result,V.scalar]
  .refine⟨.hsl 0 1 0 0,[.row 1 (List.replicate T [.bE])],λk hk=>?_,⟨by simp[dx,Ob.rows],⟨_,rfl,by simp⟩,.inr ⟨0,_,rfl,rfl,λh=>absurd rfl h⟩⟩,λh=>absurd h z⟩
   have:=(nI E hk).go _ _ _ _ L;rw[if_neg z,if_neg z]at this;unfold fc kU;rw[if_pos U];simp only[O,if_true,this,result,V.scalar,Bool.false_eq_true,if_false,rL,List.getElem?_cons_zero,true_and];rw[if_pos (by simp[List.all_replicate,V.scalar])]
   simp
 obtain⟨w,D,af,ah,Q⟩:=C;have S:T≠0->rows (s.l.flatMap Sl.l)≠[]:=λh e=>h (by rw[<-Z,<-fL,e];rfl)
 have A:∀c∈rows (s.l.flatMap Sl.l),V.cD c=true:=λc hc=>by
  obtain⟨x,_,rfl⟩:=List.mem_map.1 hc;exact bq.good x
 have g1:∀call,dD E N call none catX.r1 [bQ s] []=some (set [bQ s] 2 .bE,[]):=λcall=>vp (v:=.bE) rfl (by simp[bV,bC,bn]) eR
 have k0:get (set [bQ s] 2 .bE) 0=bQ s:=rfl;generalize set [bQ s] 2 .bE=F0 at *;have g2:∀call,dD E N call none catX.r2 F0 []=some (set F0 3 (.int .i64 0),[]):=λcall=>vp (v:=.int .i64 0) rfl (by simp[bV,bC,bn]) eR
 obtain⟨F2,a1,a2,a3,a4,a5⟩:=(catX.y3 (E:=E) (N:=N) (F:=set F0 3 (.int .i64 0)) (H:=[]) (s:=s)).1 (by rw[gC _ _ (by omega)];exact k0)
 obtain⟨F3,b1,b2,b3⟩:=catX.Vt (E:=E) (N:=N) (H:=[]) hn (by omega) s.l.length 0 F2 (by omega) a2 a3 a4 (by rw[a5 3 (by omega),rj];rfl)
 rw[Z]at b2;have ai:get F3 0=bQ s:=by rw[b3,a5 0 (by omega),gC _ _ (by omega)];exact k0
 have c1:∃W,(∃n,∀k,n<=k->dD E N (run E k) none (catX.Ip gid) F3 []=some (W,D))/\get W 6=w/\get W 0=bQ s:=by
  refine⟨_,⟨n0,λk hk=>vp (v:=.int .i64 T) rfl ?_ <| sL (v:=w) (H1:=D) rfl ?_ <| vp (v:=w) rfl ?_ eR⟩,?_,?_⟩
  .simp[bV,bC,bn,b2]
  .simp only[bV,List.map_cons,List.map_nil,bC,bF,bR,Nat.reduceEqDiff,if_true,if_false,hg,aa,List.nil_append,List.append_nil];exact af k hk
  .simp[bV,bC,bn,bF]
  .simp[bF]
  .simp only[bF,bR,Nat.reduceEqDiff,if_false];exact ai
 obtain⟨W,c1,c2,c3⟩:=c1;obtain⟨F5,d1,d2,d3,d4,d5⟩:=(catX.y3 (E:=E) (N:=N) (F:=W) (H:=D) (s:=s)).2 c3;obtain⟨F6,X,J,e1,e2,e3,e4⟩:=catX.Vx (E:=E) (N:=N) h1 hn (by omega) s.l.length 0 F5 D w (by omega) d2 d3 d4 (by rw[d5 6 (by omega)];exact c2) ah
 have f1:∃F7,(∀call,dD E N call none catX.r16 F6 X=some (F7,X))/\get F7 2=J:=
  ⟨_,λcall=>vp (v:=J) rfl (by simp[bV,bC,bn,e2]) <| vp (v:=J) rfl (by simp[bV,bC,bn,bF]) eR,by simp[bF]⟩
 obtain⟨F7,f1,f2⟩:=f1;obtain⟨n,aj⟩:=Ex.run hN p1 p2 (args:=[bQ s]) (by simp;omega) (Ex.seq (Ex.dJ g1) (Ex.seq (Ex.dJ g2) (Ex.seq (Ex.seq (Ex.dJ a1) (Ex.Cg (Ex.loop b1))) (Ex.seq (Ex.ops c1) (Ex.seq (Ex.seq (Ex.dJ d1) (Ex.Cg (Ex.loop e1))) (Ex.seq (Ex.dJ f1) Ex.ret)))))) (vs:=[J]) (by rw[p4];simp[gN,f2])
 refine⟨n,J,X,λid=>∃m,J=.hsl id 1 0 m,aj,?_,?_,?_⟩
 .rcases e3.sh with⟨h,G⟩|⟨id,xs,h,G,h3⟩
  .have:T=0:=by rw[<-Z,<-fL,G];rfl
   rw[h];unfold zl;rw[if_pos (by omega)]
   exact .same _ rfl
  .by_cases z:T=0
   .have:=e4 (by omega)
    rw[Q z]at this;rw[this]at h;cases h
   .have hx:=h3 (S z);subst hx;unfold zl;rw[if_neg (by omega),h]
    show FR X _ (.fsl (bq.size α) (rows (s.l.flatMap Sl.l))) _;rw[h1];exact .fsl 1 _ id 0 _ ⟨_,rfl⟩ (by unfold bl;rw[G];rfl) (by omega) (λi a b Y I=>by rw[Nat.zero_add]at I;rw[Y]at I;cases I;rfl) (λi j a b u v Y I hu hv=>by
     rw[Nat.zero_add]at I;rw[Y]at I;cases I;rw[hu]at hv;cases hv;exact .same _ (gM.1 (A a (List.mem_of_getElem? Y)) j u hu))
 .rintro id ⟨m,h⟩;rcases e3.sh with⟨B,_⟩|⟨ak,xs,B,G,_⟩
  .rw[B]at h;cases h
  .rw[B]at h;cases h;unfold bl;rw[G];rfl
 .refine⟨λid es ys hz hr c hc u hu=>?_⟩
  obtain⟨m,h⟩:=hz;rcases e3.sh with⟨B,_⟩|⟨ak,xs,B,G,h3⟩
  .rw[B]at h;cases h
  .rw[B]at h;cases h
   by_cases z:T=0
   .have:=e4 (by omega)
    rw[Q z]at this;rw[this]at B;cases B
   .have hx:=h3 (S z);subst hx;unfold bl at hr;rw[G]at hr;cases hr;obtain⟨j,hj⟩:=List.getElem?_of_mem hu;exact⟨u,.same _ (gM.1 (A c hc) j u hj)⟩
end Go.VE
namespace Go.VE
variable [bN]
def xu (op:Bool) (x y:Int):Int:=cond op x y
@[simp] theorem TV (x y:Int):xu true x y=x:=rfl
@[simp] theorem TW (x y:Int):xu false x y=y:=rfl
namespace setX
instance {n:Nat}:OfNat Arg n:=⟨.s n⟩
def fa (k:Nat):K:=.p (.fieldAddr k)
def ld:K:=.r (.load 1 false)
def r1:List RO:=[o2 4 (.a .box) [1] [],o2 5 (.a .box) [2] []]
def r2:List RO:=[o1 6 0 [],o2 7 (fa 0) [4] [],o2 8 ld [7] [],o2 9 (fa 1) [4] [],o2 10 ld [9] [],o2 11 (.p (.idxS 1)) [6,8] [],⟨none,none,false,.l (.store 1),[11,10],[],[]⟩]
def r3:List RO:=[o1 6 0 [],o2 7 (fa 0) [5] [],o2 8 ld [7] [],o2 9 (fa 1) [5] [],o2 10 ld [9] [],o2 11 (.p (.bin (some .int) none .sub)) [10,.k (.int .i64 1)] [],o2 12 (.p (.idxS 1)) [6,8] [],⟨none,none,false,.l (.store 1),[12,11],[],[]⟩]
def code (op:Bool):RC:=.seq (.ops r1) (.ops (if op then r3 else r2))
section
variable {E:Env} {N:Nat->FuncId} {H:bf} {id off L:Nat} {rs:List (List V)}
theorem P0 {h:Nat} {x y:V} {i:Nat} {v:V} (B:H[h]? = some (.row 2 [[x,y]])) (hv:[x,y][i]? = some v):ga H (.load 1 false) [.hptr h 0 i]=some v:=by
 match i,hv with
 | 0,hv=>cases hv;simp[ga,ei,B,Ob.rows,cut,mk]
 | 1,hv=>cases hv;simp[ga,ei,B,Ob.rows,cut,mk]
 | i+2,hv=>simp at hv
theorem whole (op:Bool) {a b c d:Int} (G:H[id]? = some (.row 1 rs)) (hp:0<=(xu op c a)) (B:(xu op c a).toNat<L) {z:V} (D:rs[off+(xu op c a).toNat]? = some [z]) :
 ∃F' X,Ex E N (code op) [.hsl id 1 off L,.agg [.int .i64 a,.int .i64 b],.agg [.int .i64 c,.int .i64 d]] H .norm F' ((H++X).set id (.row 1 (rs.set (off+(xu op c a).toNat) [.int .i64 (xu op (IntKind.wrap .i64 (d-1)) b)]))):=by
 let X:bf:=[.row 2 [[.int .i64 a,.int .i64 b]],.row 2 [[.int .i64 c,.int .i64 d]]]
 have C:=(ζe.1 G).1;have e1:∃F1,(∀call,dD E N call none r1 [.hsl id 1 off L,.agg [.int .i64 a,.int .i64 b],.agg [.int .i64 c,.int .i64 d]] H=some (F1,H++X))/\get F1 0=.hsl id 1 off L/\get F1 4=.hptr H.length 0 0/\get F1 5=.hptr (H.length+1) 0 0:=by
  refine⟨_,λcall=>sL (v:=.hptr H.length 0 0) (H1:=H++[.row 2 [[.int .i64 a,.int .i64 b]]]) rfl ?_ <| sL (v:=.hptr (H.length+1) 0 0) (H1:=H++X) rfl ?_ eR,?_,?_,?_⟩
  .simp[bV,bC,get,lF,V.cells,V.one,Mk.val]
  .simp[bV,bC,get,bF,set,lF,V.cells,V.one,Mk.val,X]
  .simp[bF];rfl
  .simp[bF]
  .simp[bF]
 obtain⟨F1,p1,p2,p3,p4⟩:=e1;have h1:(H++X)[id]? = some (.row 1 rs):=by rw[List.getElem?_append_left C];exact G
 have I:(H++X)[H.length]? = some (.row 2 [[.int .i64 a,.int .i64 b]]):=by simp[X]
 have J:(H++X)[H.length+1]? = some (.row 2 [[.int .i64 c,.int .i64 d]]):=by
  rw[List.getElem?_append_right (by omega)];simp[X]
 obtain⟨H1,O⟩:∃H1,H1=H++X:=⟨_,rfl⟩;rw[<-O]at h1 I J;rw[<-O]at p1
 suffices U:∃F',Ex E N (code op) [.hsl id 1 off L,.agg [.int .i64 a,.int .i64 b],.agg [.int .i64 c,.int .i64 d]] H .norm F' (H1.set id (.row 1 (rs.set (off+(xu op c a).toNat) [.int .i64 (xu op (IntKind.wrap .i64 (d-1)) b)])))by
  obtain⟨F',W⟩:=U;exact⟨F',X,by rw[<-O];exact W⟩
 have w:∀p:Int,0<=p->p.toNat<L->lE 1 (.hsl id 1 off L) p=some (.hptr id (off+p.toNat) 0):=λp Z Y=>by
  unfold lE;rw[if_neg (by omega)];simp[Y]
 have A:∀(q:Nat) (z v:V),rs[q]? = some [z]->v.one=true->eM H1 (.store 1) [.hptr id q 0,v]=some (.undef,H1.set id (.row 1 (rs.set q [v]))):=λq z v D hv=>by
  simp[eM,h1,D,DY hv,hv]
 cases op with
 | false=>
  simp only[TW]at hp B D ⊢;have Q:=P0 (i:=0) I rfl;have S:=P0 (i:=1) I rfl;have e2:∃u,(∀call,dD E N call none r2 F1 H1=some (u,H1.set id (.row 1 (rs.set (off+a.toNat) [.int .i64 b])))):=by
   refine⟨_,λcall=>vp (v:=.hsl id 1 off L) rfl ?_ <| vp (v:=.hptr H.length 0 0) rfl ?_ <| vp (v:=.int .i64 a) rfl ?_ <| vp (v:=.hptr H.length 0 1) rfl ?_ <| vp (v:=.int .i64 b) rfl ?_ <| vp (v:=.hptr id (off+a.toNat) 0) rfl ?_ <| sL (v:=.undef) rfl ?_ eR⟩
   .simp[bV,bC,bn,p2]
   .simp[bV,bC,bn,bF,fa,lX,p3]
   .simp only[bV,List.map_cons,List.map_nil,bC,bF,bR,Nat.reduceEqDiff,if_true,if_false,ld,Q,Option.map_some]
   .simp[bV,bC,bn,bF,fa,lX,p3]
   .simp only[bV,List.map_cons,List.map_nil,bC,bF,bR,Nat.reduceEqDiff,if_true,if_false,ld,S,Option.map_some]
   .simp only[bV,List.map_cons,List.map_nil,bC,bF,bR,Nat.reduceEqDiff,if_true,if_false,bn,w a hp B,Option.map_some]
   .simp only[bV,List.map_cons,List.map_nil,bC,bF,bR,Nat.reduceEqDiff,if_true,if_false];exact A _ z _ D rfl
  obtain⟨u,T⟩:=e2;exact⟨u,Ex.seq (Ex.dJ p1) (Ex.dJ (l:=_) T)⟩
 | true=>
  simp only[TV]at hp B D ⊢;have Q:=P0 (i:=0) J rfl;have S:=P0 (i:=1) J rfl;have e2:∃u,(∀call,dD E N call none r3 F1 H1=some (u,H1.set id (.row 1 (rs.set (off+c.toNat) [.int .i64 (IntKind.wrap .i64 (d-1))])))):=by
   refine⟨_,λcall=>vp (v:=.hsl id 1 off L) rfl ?_ <| vp (v:=.hptr (H.length+1) 0 0) rfl ?_ <| vp (v:=.int .i64 c) rfl ?_ <| vp (v:=.hptr (H.length+1) 0 1) rfl ?_ <| vp (v:=.int .i64 d) rfl ?_ <| vp (v:=.int .i64 (IntKind.wrap .i64 (d-1))) rfl ?_ <| vp (v:=.hptr id (off+c.toNat) 0) rfl ?_ <| sL (v:=.undef) rfl ?_ eR⟩
   .simp[bV,bC,bn,p2]
   .simp[bV,bC,bn,bF,fa,lX,p4]
   .simp only[bV,List.map_cons,List.map_nil,bC,bF,bR,Nat.reduceEqDiff,if_true,if_false,ld,Q,Option.map_some]
   .simp[bV,bC,bn,bF,fa,lX,p4]
   .simp only[bV,List.map_cons,List.map_nil,bC,bF,bR,Nat.reduceEqDiff,if_true,if_false,ld,S,Option.map_some]
   .simp[bV,bC,bn,bF,iE]
   .simp only[bV,List.map_cons,List.map_nil,bC,bF,bR,Nat.reduceEqDiff,if_true,if_false,bn,w c hp B,Option.map_some]
   .simp only[bV,List.map_cons,List.map_nil,bC,bF,bR,Nat.reduceEqDiff,if_true,if_false];exact A _ z _ D rfl
  obtain⟨u,T⟩:=e2;exact⟨u,Ex.seq (Ex.dJ p1) (Ex.dJ (l:=_) T)⟩
end
end setX
structure V7 (S:Sys) {α δ:Type} [bq δ] (g:FuncId) (e:List V) (A:α->List V) (p:Sl δ->α->Option (Sl δ)):Prop where
 f:∃q,S.prm g=some q/\q.part=false/\S.E.keep g=true/\S.E.own g=false/\∀s z s',p s z=some s'->q.go (bq.size δ) (rows s.l) (A z++e)=some (rows s'.l)/\s'=s.re s'.l
section
variable {S:Sys} {c:bS} {β γ δ α:Type} [bq δ] {Q:Out×St->Option β} {e:γ->Option β} {cf:Cf}
end
end Go.VE
namespace Go.VE
variable [bN]
def snap (w:World):b9:=λb=>match w.heap[b]? with
 | some (.cells c _ _)=>some (.cells c)
 | some (.map es _)=>some (.map es)
 | _=>none
theorem O2 {w:World} (hg:sS (snap w)):cN (snap w) (λ_=>none) [] w where
 dom _ _:=rfl
 imm b x h:=by
  unfold snap at h;split at h
  .rename_i c el fr u;cases h;exact⟨el,fr,u⟩
  .rename_i es cl u;cases h;exact⟨cl,u⟩
  .cases h
 obs id ob h:=by simp at h
 inj id z ob A p B h:=by simp at h
 gl:=hg
def eG (I:b9) (xs:List V) (vs:List Value):Prop:=xs.length=vs.length/\∀(j:Nat) a b,xs[j]? = some a->vs[j]? = some b->dW I a b
theorem eG.nil {I:b9}:eG I [] []:=⟨rfl,by simp⟩
theorem eG.one {I:b9} {x:V} {v:Value} (h:dW I x v):eG I [x] [v]:=⟨rfl,λj a b h1 u=>by
 cases j with
 | zero=>simp at h1 u;subst h1 u;exact h
 | succ j=>simp at h1⟩
theorem eG.append {I:b9} {xs ys:List V} {B vs:List Value} (h:eG I xs B) (k:eG I ys vs):eG I (xs++ys) (B++vs):=by
 refine⟨by simp[h.1,k.1],λj a b h1 u=>?_⟩
 by_cases w:j<xs.length
 .rw[List.getElem?_append_left w]at h1;rw[List.getElem?_append_left (by rw[<-h.1];exact w)]at u
  exact h.2 j a b h1 u
 .rw[List.getElem?_append_right (by omega)]at h1
  rw[List.getElem?_append_right (by rw[<-h.1];omega),<-h.1]at u
  exact k.2 _ a b h1 u
theorem A8 {α β:Type} {f:α->Option β}:∀{l:List α} {r:List β},l.mapM f=some r->r.length=l.length/\∀(i:Nat) a b,l[i]? = some a->r[i]? = some b->f a=some b
 | [],r,h=>by simp only[List.mapM_nil,Option.pure_def,ζa]at h;subst h;simp
 | x::l,r,h=>by
  simp only[List.mapM_cons,Option.bind_eq_bind,Option.pure_def,ζg,ζa]at h;obtain⟨y,D,ys,B,rfl⟩:=h;obtain⟨h1,z⟩:=A8 B;refine⟨by simp[h1],λi a b u w=>?_⟩
  cases i with
  | zero=>simp at u w;subst u w;exact D
  | succ i=>exact z i a b (by simpa using u) (by simpa using w)
structure rF {H:Type} (b:DataW H->Nat):Prop where
 lit:∀l,1<=b (.lit l)
 str:∀s,s.length+1<=b (.lit (.string s))
 nil:1<=b .nil
 slice:∀es sp,(es.map b).sum+1<=b (.slice es sp)
 agg:∀ps,(ps.map b).sum+1<=b (.agg ps)
class bY (α:Type) where
 wt:α->Nat
 ok:α->Prop
instance:bY Int where
 wt _:=1
 ok n:=-9223372036854775808<=n/\n<=9223372036854775807
instance:bY Bool where
 wt _:=1
 ok _:=True
instance:bY ByteArray where
 wt s:=s.size+1
 ok s:=s.size<=maxLen
instance {α:Type} [bY α]:bY (Sl α) where
 wt s:=(s.l.map bY.wt).sum+1
 ok s:=(∀x∈s.l,bY.ok x)/\s≠.emp
class Reads (P:Program) (t:TypeId) (α:Type) [bq α] [bY α]:Prop where
 size:P.cellsOf t=bq.size α
 rd:∀{H:Type} {enc:TypeId×Value->H} {w:World} {base:Nat} {spare:Nat->Bool} {held:Bool} {fuel:Nat} {cs:List Value} {d:DataW H} {ps:List MemPlace},
  DataW.trod enc P w base spare held fuel t cs=some (d,ps)->∃a:α,eG (snap w) (cells a) cs/\bY.ok a/\∀b:DataW H->Nat,rF b->bY.wt a<=b d
 shape:∀{w:World} {r:_root_.Go.Reach} {base:Nat} {v:Value},Value.okWide P w r base t v->if bq.agg α then ∃cs,v=.agg cs else v.cells=#[v]
section
variable {P:Program}
theorem pN {w:World} {r:_root_.Go.Reach} {base:Nat} {t:TypeId} {v:Value} {u:_} (hu:P.underlying t=some u) (h1:∀fs,u≠.struct fs) (B:∀n e,u≠.array n e) (h:Value.okWide P w r base t v):v.cells=#[v]:=by
 cases v with
 | agg cs=>
  exfalso;unfold Value.okWide at h;rw[hu]at h;split at h
  .rename_i fs z;cases z;exact h1 _ rfl
  .rename_i n e z;cases z;exact B _ _ rfl
  .unfold Cell.okWide at h;rw[hu]at h;split at h <;> first|(simp at *;done)|skip
   unfold Cell.ok at h;rw[hu]at h;cases u <;> simp at h
 | _=>rfl
theorem Reads.int {t:TypeId} (hu:P.underlying t=some (.int .i64)) (hc:P.cellsOf t=1):Reads P t Int where
 size:=hc
 rd {H enc w base spare held z cs d C} h:=by
  cases z with
  | zero=>simp[DataW.trod]at h
  | succ z=>
   simp only[DataW.trod,hu]at h;split at h <;> first|(simp at h;done)|skip
   .rename_i u;cases u
   .rename_i k D n u;simp only[ζa,TypeDesc.int.injEq]at u;split at h
    .rename_i hk;obtain⟨rfl,A⟩:=hk;subst u;cases h;exact⟨n,eG.one (.int _ n),show _/\_ by simpa [Lit.wf,IntKind.min,IntKind.max,IntKind.signed,IntKind.bits]using A,λb B=>B.lit _⟩
    .simp at h
   all_goals (rename_i u;cases u)
 shape h:=by simp only[show bq.agg Int=false from rfl];exact pN hu (by simp) (by simp) h
theorem Reads.bool {t:TypeId} (hu:P.underlying t=some .bool) (hc:P.cellsOf t=1):Reads P t Bool where
 size:=hc
 rd {H enc w base spare held u cs d B} h:=by
  cases u with
  | zero=>simp[DataW.trod]at h
  | succ u=>
   simp only[DataW.trod,hu]at h;split at h <;> first|(simp at h;done)|skip
   .rename_i b _;cases h;exact⟨b,eG.one (.bool b),trivial,λb A=>A.lit _⟩
   all_goals (rename_i z;cases z)
 shape h:=by simp only[show bq.agg Bool=false from rfl];exact pN hu (by simp) (by simp) h
theorem Reads.str {t:TypeId} (hu:P.underlying t=some .string) (hc:P.cellsOf t=1):Reads P t ByteArray where
 size:=hc
 rd {H enc w base spare held u cs d C} h:=by
  cases u with
  | zero=>simp[DataW.trod]at h
  | succ u=>
   simp only[DataW.trod,hu]at h;split at h <;> first|(simp at h;done)|skip
   all_goals (first|(rename_i z;cases z;done)|skip)
   rename_i s _;split at h
   .rename_i A;cases h;exact⟨s,eG.one (.str s),A,λb B=>B.str _⟩
   .simp at h
 shape h:=by simp only[show bq.agg ByteArray=false from rfl];exact pN hu (by simp) (by simp) h
theorem Ot {w:World} {a:Addr} {n:Nat} {v:Value} (h:w.cell? (a.add n)=some v) (B:n=0\/True):∃c el fr,w.heap[a.block]? = some (.cells c el fr)/\c[a.off+n]? = some v/\(n=0->a.spot=none):=by
 unfold World.cell? Addr.add at h
 by_cases u:n=0
 .subst u;simp only[if_true]at h;split at h
  .rename_i c el fr z;split at h
   .simp at h
   .rename_i A;exact⟨c,el,fr,z,h,λ_=>by simpa using A⟩
  .simp at h
 .simp only[if_neg u]at h;split at h
  .rename_i c el fr z;simp only[Option.isSome_none,Bool.false_eq_true,if_false]at h;exact⟨c,el,fr,z,h,λe=>absurd e u⟩
  .simp at h
def qz (P:Program) (t:TypeId) (α:Type) [bq α] [bY α] (B:Nat):Prop:=
 ∀{H:Type} {enc:TypeId×Value->H} {w:World} {base:Nat} {spare:Nat->Bool} {held:Bool} {cs:List Value} {d:DataW H} {u:List MemPlace},
  DataW.trod enc P w base spare held B t cs=some (d,u)->∃a:α,eG (snap w) (cells a) cs/\bY.ok a/\∀b:DataW H->Nat,rF b->bY.wt a<=b d
theorem qz.sl {t e:TypeId} {α:Type} [bq α] [bY α] {G:Nat} (hu:P.underlying t=some (.slice e)) (ae:P.cellsOf e=bq.size α) (T:0<bq.size α) (hr:qz P e α G):qz P t (Sl α) (G+1):=by
 intro H enc w base spare held cs d ps h;simp only[DataW.trod,hu]at h;split at h <;> first|(simp at h;done)|skip
 all_goals (first|(rename_i J;cases J;done)|skip)
 .cases h;exact⟨.nil,eG.one .bE,⟨λx U=>by simp[Sl.l]at U,by simp⟩,λb W=>W.nil⟩
 .rename_i e' a len cap J;cases J;split at h
  .rename_i X;obtain⟨elems,af,h⟩:=ζg.1 h;obtain⟨rest,_,h⟩:=ζf.1 h;cases h;obtain⟨Y,Z⟩:=A8 af;simp only[List.length_range]at Y;have U:∀i,i<len->∃x:α,∃u:List Value,w.cells? base (a.add (i*P.cellsOf e)) (P.cellsOf e)=some u/\eG (snap w) (cells x) u/\bY.ok x/\∀b:DataW H->Nat,rF b->∀y,elems[i]? = some y->bY.wt x<=b y.1:=λi hi=>by
    have:=Z i i (elems[i]'(by omega)) (by simp[hi]) (ζd (by omega))
    obtain⟨u,h1,L⟩:=ζg.1 this;obtain⟨x,U,hk,W⟩:=hr (show _=some ((elems[i]'(by omega)).1,(elems[i]'(by omega)).2)from L)
    exact⟨x,u,h1,U,hk,λb O y hy=>by
     rw[ζd (by omega)]at hy;cases hy;exact W b O⟩
   have aa:∀n,n<=len->∃z:List α,z.length=n/\(∀i x,z[i]? = some x->∃u:List Value,w.cells? base (a.add (i*P.cellsOf e)) (P.cellsOf e)=some u/\eG (snap w) (cells x) u)/\(∀x∈z,bY.ok x)/\∀b:DataW H->Nat,rF b->(z.map bY.wt).sum<=(((elems.take n).map (·.1)).map b).sum:=by
    intro n
    induction n with
    | zero=>intro _;exact⟨[],rfl,by simp,by simp,by simp⟩
    | succ n ih=>
     intro hn;obtain⟨z,h1,L,h5,h6⟩:=ih (by omega)
     obtain⟨x,u,h3,h4,h7,h8⟩:=U n (by omega)
     refine⟨z++[x],by simp[h1],λi y hy=>?_,λy hy=>?_,λb O=>?_⟩
     rotate_left
     .rcases List.mem_append.1 hy with hy|hy
      .exact h5 y hy
      .simp at hy;subst hy;exact h7
     .have k1:=h6 b O;have I:=h8 b O _ (ζd (by omega))
      rw[List.take_succ,ζd (by omega:n<elems.length)]
      simp only[List.map_append,List.sum_append,Option.toList_some,List.map_cons,List.map_nil,List.sum_cons,List.sum_nil];omega
     by_cases hi:i<z.length
     .rw[List.getElem?_append_left hi]at hy;exact L i y hy
     .rw[List.getElem?_append_right (by omega)]at hy
      have:i-z.length=0:=by
       cases hk:i-z.length with
       | zero=>rfl
       | succ k=>rw[hk]at hy;simp at hy
      rw[this]at hy;simp at hy;subst hy;have:i=n:=by omega
      subst this;exact⟨u,h3,h4⟩
   obtain⟨z,B,ah,ab,ai⟩:=aa len (Nat.le_refl _);refine⟨.row z,eG.one ?_,⟨ab,by simp⟩,λb O=>?_⟩
   rotate_left
   .have k:=ai b O;rw[List.take_of_length_le (by omega)]at k
    have I:=O.slice (elems.map (·.1)) (rest.map (·.1));show (z.map bY.wt).sum+1<=_;omega
   show dW _ (.fsl (bq.size α) (rows z)) _
   cases hl:z with
   | nil=>
    subst hl;simp at B;subst B;exact .fsl0 _ _ _
   | cons x0 xr=>
    rw[<-hl];have ao:0<len:=by rw[<-B,hl];simp
    have Q:∀i x,z[i]? = some x->∀j y,(cells x)[j]? = some y->∃v,w.cell? ((a.add (i*bq.size α)).add j)=some v/\dW (snap w) y v:=by
     intro i x hi j y hy;obtain⟨u,h1,L⟩:=ah i x hi;rw[ae]at h1;unfold World.cells? at h1;split at h1
     .obtain⟨g1,g2⟩:=A8 h1;have hj:j<bq.size α:=by rw[<-gx x];exact(ζe.1 hy).1
      obtain⟨v,hv⟩:∃v,u[j]? = some v:=⟨_,ζd (by rw[g1];simpa using hj)⟩
      exact⟨v,g2 j j v (by simp[hj]) hv,L.2 j y v hy hv⟩
     .simp at h1
    have an:∀i j,(a.add (i*bq.size α)).add j=a.add (i*bq.size α+j)\/True:=λ_ _=>.inr trivial
    have A:∀i x,z[i]? = some x->∀j y,(cells x)[j]? = some y->∃c el fr v,w.heap[a.block]? = some (.cells c el fr)/\c[a.off+i*bq.size α+j]? = some v/\dW (snap w) y v/\(i=0->j=0->a.spot=none):=by
     intro i x hi j y hy;obtain⟨v,h1,L⟩:=Q i x hi j y hy;obtain⟨c,el,fr,g1,g2,g3⟩:=Ot h1 (.inr trivial);have W:(a.add (i*bq.size α)).block=a.block:=by unfold Addr.add;split <;> rfl
     have ho:(a.add (i*bq.size α)).off=a.off+i*bq.size α:=by unfold Addr.add;split <;> simp_all
     rw[W]at g1;rw[ho]at g2;refine⟨c,el,fr,v,g1,g2,L,?_⟩;rintro rfl rfl;have:=g3 rfl;simpa [Addr.add]using this
    have aj:∃y,(cells x0)[0]? = some y:=⟨_,ζd (by rw[gx];exact T)⟩
    obtain⟨y0,ak⟩:=aj;obtain⟨c,el,fr,v0,C,_,_,D⟩:=A 0 x0 (by rw[hl];rfl) 0 y0 ak
    have D:=D rfl rfl;obtain⟨b,o,sp⟩:=a;simp only at D C;subst D;have hI:snap w b=some (.cells c):=by unfold snap;rw[C]
    have S:(rows z).length=len:=by rw[fL,B]
    rw[<-S];refine .fsl _ _ b o cap c hI (by rw[S];exact X.2.1) (λr hr=>?_) (λr hr y hy=>?_) ?_ (λi j r y v hr hy hv=>?_)
    .obtain⟨x,_,rfl⟩:=List.mem_map.1 hr;exact gx x
    .obtain⟨x,_,rfl⟩:=List.mem_map.1 hr;exact List.all_eq_true.1 (sE x) y hy
    .
     obtain⟨xl,ad⟩:∃x,z[len-1]? = some x:=⟨_,ζd (by omega)⟩
     obtain⟨yl,al⟩:∃y,(cells xl)[bq.size α-1]? = some y:=⟨_,ζd (by rw[gx];omega)⟩
     obtain⟨c2,_,_,v2,k1,I,_,_⟩:=A (len-1) xl ad (bq.size α-1) yl al;simp only at k1 I;rw[C]at k1;cases k1;have:=(Array.getElem?_eq_some_iff.1 I).1;rw[S];have e:len*bq.size α=(len-1)*bq.size α+bq.size α:=by
      obtain⟨m,rfl⟩:∃m,len=m+1:=⟨len-1,by omega⟩
      simp[Nat.add_mul]
     omega
    .simp only[rows,List.getElem?_map,ζf]at hr;obtain⟨x,am,rfl⟩:=hr;obtain⟨c2,_,_,v2,k1,I,k3,_⟩:=A i x am j y hy;simp only at k1 I;rw[C]at k1;cases k1;rw[hv]at I;cases I;exact k3
  .simp at h
theorem qz.UQ {t e:TypeId} {α:Type} [bq α] [bY α] {B:Nat} (hu:P.underlying t=some (.slice e)) (G:P.cellsOf e=bq.size α) (D:0<bq.size α) (hr:∀g,g<B->qz P e α g):qz P t (Sl α) B:=by
 cases B with
 | zero=>intro H enc w base spare held cs d u h;simp[DataW.trod]at h
 | succ f=>exact qz.sl hu G D (hr f (Nat.lt_succ_self f))
theorem Reads.sl {t e:TypeId} {α:Type} [bq α] [bY α] [Reads P e α] (hu:P.underlying t=some (.slice e)) (hc:P.cellsOf t=1) (B:0<bq.size α):Reads P t (Sl α) where
 size:=hc
 rd h:=qz.UQ hu (Reads.size (α:=α)) B (λ_ _ {_ _ _ _ _ _ _ _ _}=>Reads.rd (P:=P) (t:=e) (α:=α)) h
 shape h:=by simp only[show bq.agg (Sl α)=false from rfl];exact pN hu (by simp) (by simp) h
theorem eG.seg {I:b9} {acc xs:List V} {cs:List Value} {o n:Nat} (h:eG I acc (cs.take o)) (k:eG I xs ((cs.drop o).take n)):eG I (acc++xs) (cs.take (o+n)):=by
 rw[List.take_add];exact h.append k
theorem eG.fin {I:b9} {xs:List V} {cs:List Value} {n:Nat} (h:eG I xs (cs.take n)) (B:cs.length=n):eG I xs cs:=by
 rw[List.take_of_length_le (by omega)]at h;exact h
theorem qz.st {t:TypeId} {fs:Array Field} {α:Type} [bq α] [bY α] {B:Nat} (hu:P.underlying t=some (.struct fs)) (hc:P.cellsOf t=bq.size α)
 (h:∀{H:Type} {enc:TypeId×Value->H} {w:World} {base:Nat} {spare:Nat->Bool} {held:Bool} {cs:List Value} {l:List (DataW H×List MemPlace)},cs.length=bq.size α ->
  (fs.toList.mapM λf=>DataW.trod enc P w base spare held B f.type ((cs.drop f.offset).take (P.cellsOf f.type)))=some l->∃a:α,eG (snap w) (cells a) cs/\bY.ok a/\∀b:DataW H->Nat,rF b->bY.wt a<=((l.map (·.1)).map b).sum+1):qz P t α (B+1):=by
 intro H enc w base spare held cs d I hr;simp only[DataW.trod,hu]at hr;split at hr <;> first|(simp at hr;done)|skip
 all_goals (first|(rename_i u;cases u;done)|skip)
 rename_i A;obtain⟨l,h1,C⟩:=ζf.1 hr;cases C;obtain⟨a,k1,D,G⟩:=h (by rw[A,hc]) h1
 exact⟨a,k1,D,λb z=>Nat.le_trans (G b z) (z.agg _)⟩
theorem Reads.of {t:TypeId} {fs:Array Field} {α:Type} [bq α] [bY α] (hu:P.underlying t=some (.struct fs)) (hc:P.cellsOf t=bq.size α) (D:bq.agg α=true) (h:∀B,qz P t α B):Reads P t α where
 size:=hc
 rd hr:=h _ hr
 shape hv:=by
  rw[if_pos D];unfold Value.okWide at hv;rw[hu]at hv;obtain⟨cs,h1,_⟩:=hv;exact⟨cs,h1⟩
theorem Reads.st {t:TypeId} {fs:Array Field} {α:Type} [bq α] [bY α] (hu:P.underlying t=some (.struct fs)) (hc:P.cellsOf t=bq.size α) (D:bq.agg α=true)
 (h:∀{H:Type} {enc:TypeId×Value->H} {w:World} {base:Nat} {spare:Nat->Bool} {held:Bool} {B:Nat} {cs:List Value} {l:List (DataW H×List MemPlace)},cs.length=bq.size α ->
  (fs.toList.mapM λf=>DataW.trod enc P w base spare held B f.type ((cs.drop f.offset).take (P.cellsOf f.type)))=some l->∃a:α,eG (snap w) (cells a) cs/\bY.ok a/\∀b:DataW H->Nat,rF b->bY.wt a<=((l.map (·.1)).map b).sum+1):Reads P t α:=
 Reads.of hu hc D λB=>by
  cases B with
  | zero=>intro H enc w base spare held cs d u h;simp[DataW.trod]at h
  | succ f=>exact qz.st hu hc h
theorem Reads.arg {t:TypeId} {α:Type} [bq α] [bY α] [Reads P t α] {H:Type} {B:TypeId×Value->H} {w:World} {base:Nat} {spare:Nat->Bool} {held:Bool} {r:_root_.Go.Reach} {b:Nat} {v:Value} {d:DataW H} {ps:List MemPlace}
 (hv:Value.okWide P w r b t v) (h:DataW.Trod B P w base spare held t v d ps):∃a:α,bz (snap w) (λ_=>none) (enc a) v/\bY.ok a/\∀b:DataW H->Nat,rF b->bY.wt a<=b d:=by
 obtain⟨G,h⟩:=h;obtain⟨a,⟨h1,z⟩,C,D⟩:=Reads.rd (P:=P) (t:=t) (α:=α) h;have u:=Reads.shape (P:=P) (t:=t) (α:=α) hv;refine⟨a,?_,C,D⟩
 cases A:bq.agg α with
 | true=>
  rw[A,if_pos rfl]at u;obtain⟨cs,rfl⟩:=u;rw[Ah A];refine .c _ _ (.agg _ _ (by simpa [Value.cells]using h1) (λj x y I J=>z j x y I (by simpa [Value.cells]using J)))
 | false=>
  rw[A]at u;simp only[Bool.false_eq_true,if_false]at u;rw[u]at z;rw[tc A]at z;exact .c _ _ (z 0 _ _ rfl rfl)
end
end Go.VE
namespace Go.VE
variable [bN]
open Go.ChangeShapes Go.WideShapes Go.ChangeAt Go.RowKit
structure G9 (w w':World):Prop where
 kept:w.keptBut w' (λ_=>False)
 fz:∀a:Addr,a.block<w.heap.size->w'.frozen? a=w.frozen? a
theorem Eh {I I':b9} {μ':Mu} {H':bf} {w w':World} (s:Step I (λ_=>none) [] w I' μ' H' w'):G9 w w':=by
 have A:∀b,b<w.heap.size->w'.heap[b]? = w.heap[b]? := λb z=>s.frame b z (by rintro⟨id,p,ob,h,_⟩;simp at h)
 refine⟨⟨s.os,s.out.out,λi hi=>?_⟩,λa z=>?_⟩
 .rw[A i hi];split
  .rename_i h1 u;rw[h1]at u;cases u;exact⟨rfl,rfl,rfl,λ_ _=>rfl⟩
  .rename_i h1 u;rw[h1]at u;cases u;exact .inr ⟨rfl,rfl⟩
  .rfl
 .unfold World.frozen?;rw[A _ z]
theorem ES {P:Program} {call:dh} (hc:jW P call) {f:FuncId} {args:List V} {b:Bool} {H':bf} (h:call (.fn f) args []=some (.bool b,H')) {w:World} {vs:List Value}
 (B:sS (snap w)) (hv:cw (snap w) (λ_=>none) args vs):Calls P f vs.toArray w λe w'=>e=.returned (.bool b)/\G9 w w':=by
 intro cs;have k:=((hc.fn f args [] _ H' h).2 (snap w) (λ_=>none) w vs (O2 B) hv)
 obtain⟨e,w',fr,⟨u,I',μ',rfl,hu,_,C⟩,z,h1,D⟩:=k.2 cs (by simp[Fence.room,fr])
 refine⟨_,w',fr,⟨?_,Eh C⟩,z.comes,h1,D⟩
 cases hu with
 | c _ _ A=>cases A;rfl
variable {P:Program} {H:Type} {enc:TypeId×Value->H}
theorem El {B:List TypeId} {vs:List Value} {ds:List (DataW H)} {ps:List MemPlace} {w w':World} (hg:G9 w w') (h:DataW.TrodAll enc P w 0 (λ_=>true) true B vs ds ps):DataW.TrodAll enc P w' 0 (λ_=>true) true B vs ds ps:=by
 have z:∀p:MemPlace,p.block<w.heap.size->w.sameAt w' p:=by
  intro p A;have k:=hg.kept.2.2 p.block A
  cases p with
  | cell b off=>
   simp only[World.sameAt,World.cell?];simp only[MemPlace.block]at k A;split at k
   .rename_i c t fr c' D C h1 u;rw[h1,u];simp only;have:=k.2.2.2 off (λx=>x)
    simpa using this
   .rename_i h1 u;rw[h1,u]
   .rw[k]
  | map b=>
   simp only[World.sameAt];simp only[MemPlace.block]at k A;split at k
   .rename_i c t fr c' D C h1 u;obtain⟨rfl,rfl,L,G⟩:=k;rw[h1,u];have:c'=c:=Array.ext_getElem? λi=>G i (λx=>x)
    rw[this]
   .rename_i h1 u;rcases k with k|⟨rfl,rfl⟩
    .exact k.elim
    .rw[h1,u]
   .exact k
 induction B generalizing vs ds ps with
 | nil=>cases vs <;> cases ds <;> simp_all [DataW.TrodAll]
 | cons t B I=>
  cases vs with
  | nil=>simp[DataW.TrodAll]at h
  | cons v vs=>
   cases ds with
   | nil=>simp[DataW.TrodAll]at h
   | cons d ds=>
    obtain⟨p,q,⟨n,h1⟩,u,rfl⟩:=h;exact⟨p,q,⟨n,DataW.trod_carry n _ _ _ h1 λx J=>z x (DataW.trod_lt n _ _ _ h1 x J)⟩,I u,rfl⟩
theorem MR {T:TypeId->Prop} (K:Kids P T) (hz:∀t e,T t->P.underlying t=some (.slice e)->0<P.cellsOf e) {f:Func} {s:ChangeSpec} {apart fresh handsOn again:Bool} {W G:World} {args:Array Value} {ds gs:List (DataW H)} {before:List MemPlace} {tb:TypeId}
 (hT:∀t∈f.params.toList,T t) (B:s.vars=[]) (D:s.fn H (ds++gs)={ results:=[.lit (.bool true)],args:=ds }) (J:f.resultTypes=#[tb]) (U:P.underlying tb=some .bool)
 (Y:DataW.Whole enc P f.params.toList s.vars apart W args.toList ds gs before) (hg:G9 W G):s.post enc P f apart fresh handsOn again W args (.bool true) G:=by
 have z:=Y;obtain⟨p,q,S,hV,rfl,I,L⟩:=Y;rw[B]at hV;obtain⟨rfl,rfl⟩:=trodVars_none hV;have hr:∀(b:Nat) (w:Nat->Bool) (hd:Bool),DataW.TrodAll enc P G b w hd f.resultTypes.toList ((Value.bool true).resultList f.resultTypes.size) (s.fn H (ds++[])).results []:=λ_ _ _=>by
  rw[J,D];exact trodAll_cons_mk (shut_bool U _) trodAll_mk0
 have Q:∀w:Nat->Bool,(∀x∈p++[],w x.block=true)->DataW.TrodAll enc P G 0 w true f.params.toList args.toList (s.fn H (ds++[])).args p:=λw O=>by
  rw[D];exact DataW.TrodAll.respare K hz hT (El hg S) (λx u=>O x (List.mem_append_left _ u))
 have hv:∀w:Nat->Bool,DataW.TrodVars enc P G w s.vars (s.fn H (ds++[])).vars []:=λw=>by rw[D,B];rfl
 have A:=λx u=>z.lt x u
 refine⟨ds,[],p++[],[],p,[],z,hr _ _ _,Q _ λx u=>by simpa using A x u,hv _,World.keptBut_mono (λx u=>u.elim) hg.kept,λ_=>⟨ok_one J rfl (okWide_bool_mk U _),?_⟩⟩
 refine⟨_,_,[]++p++[],⟨[]++p,[],trodAll_append (Q _ λ_ _=>rfl) (hr _ _ _),hv _,rfl,λb off u=>?_,λh=>by simpa using L h⟩,λx u _=>by simpa using u⟩
 have C:MemPlace.cell b off∈p++[]:=by simpa using u
 rw[hg.fz _ (A _ C)];exact I b off C
end Go.VE
namespace Go.VE
variable [bN]
instance:bY U8 where
 wt _:=1
 ok n:=0<=n.v/\n.v<=255
theorem Reads.u8 {P:Program} {t:TypeId} (hu:P.underlying t=some (.int .u8)) (hc:P.cellsOf t=1):Reads P t U8 where
 size:=hc
 rd {H enc w base spare held z cs d C} h:=by
  cases z with
  | zero=>simp[DataW.trod]at h
  | succ z=>
   simp only[DataW.trod,hu]at h;split at h <;> first|(simp at h;done)|skip
   .rename_i u;cases u
   .rename_i k D n u;simp only[ζa,TypeDesc.int.injEq]at u;split at h
    .rename_i hk;obtain⟨rfl,A⟩:=hk;subst u;cases h;exact⟨⟨n⟩,eG.one (.int _ n),show _/\_ by simpa [Lit.wf,IntKind.min,IntKind.max,IntKind.signed,IntKind.bits]using A,λb B=>B.lit _⟩
    .simp at h
   all_goals (rename_i u;cases u)
 shape h:=by simp only[show bq.agg U8=false from rfl];exact pN hu (by simp) (by simp) h
end Go.VE
namespace Go.VE
variable [bN]
theorem Jx {m:Tb bu} {n:Nat} {rs:List SV} {b:Bool} (h:cQ m n rs=some [.bool b]):rs=[.v (.bool b)]:=by
 cases rs with
 | nil=>cases n <;> simp[cQ]at h
 | cons x r=>
  have h1:shut m n x=some (.bool b)/\cQ m n r=some []:=by
   unfold cQ at h;split at h
   .rename_i y s h1 w;simp only[ζa,List.cons.injEq]at h;obtain⟨rfl,rfl⟩:=h;exact⟨h1,w⟩
   .cases h
  have w:r=[]:=by
   cases r with
   | nil=>rfl
   | cons y r=>
    have:=h1.2;unfold cQ at this;split at this <;> simp at this
  subst w;have u:=h1.1
  cases x with
  | v y=>unfold shut at u;simp only[ζa]at u;rw[u]
  | own d=>unfold shut at u;split at u <;> simp only[ζa,reduceCtorEq]at u;rename_i k es A _;cases k <;> simp[mS]at u
  | ptr d o=>
   cases n with
   | zero=>simp[shut]at u
   | succ n=>
    unfold shut at u;split at u <;> try cases u
    split at u <;> try cases u
    split at u <;> cases u
  | mp d=>unfold shut at u;split at u <;> cases u
  | clo f a b=>
   cases n with
   | zero=>simp[shut]at u
   | succ n=>unfold shut at u;split at u <;> cases u
  | tup l=>
   cases n with
   | zero=>simp[shut]at u
   | succ n=>unfold shut at u;obtain⟨_,_,z⟩:=ζf.1 u;cases z
  | _=>cases n <;> simp[shut]at u
theorem OA {S:Sys} {T:pF} (B:qb S T) (D:∀f a b xs,S.items f a b=some xs->dZ S f a b xs) {f:FuncId} {xs:List V} (hg:V.cD xs=true) (h:iG (cU S T) f xs=some [.bool true]) :
 ∃n H',run S.E n (.fn f) xs []=some (.bool true,H'):=by
 unfold iG at h;obtain⟨⟨rs,m⟩,h1,u⟩:=ζg.1 h;have:=Jx u;simp only at this;subst this;exact QO B D hg h1 rfl
theorem Kj {S:Sys} {T:pF} {P:Program} (B:qb S T) (D:∀f a b xs,S.items f a b=some xs->dZ S f a b xs) (hc:∀n,jW P (run S.E n)) {f:FuncId} {xs:List V} (hg:V.cD xs=true) (h:iG (cU S T) f xs=some [.bool true])
 {w:World} {args:Array Value} (G:sS (snap w)) (hv:cw (snap w) (λ_=>none) xs args.toList):Calls P f args w λe w'=>e=.returned (.bool true)/\G9 w w':=by
 obtain⟨n,H',hr⟩:=OA B D hg h;have:=ES (hc n) hr G hv;simpa using this
theorem Reads.Kb {P:Program} {t:TypeId} {α:Type} [bq α] [bY α] [Reads P t α] {H:Type} {B:TypeId×Value->H} {w:World} {base b:Nat} {spare:Nat->Bool} {held:Bool} {v:Value} {d:DataW H} {ps:List MemPlace} {params:Array TypeId} {args:Array Value}
 (D:∀(j:Nat) t v,params[j]? = some t->args[j]? = some v->Value.okWide P w .any b t v) (j:Nat) (h1:params[j]? = some t) (G:args[j]? = some v) (h:DataW.Trod B P w base spare held t v d ps) :
 ∃a:α,bz (snap w) (λ_=>none) (enc a) v/\bY.ok a/\∀b:DataW H->Nat,rF b->bY.wt a<=b d:=Reads.arg (D j t v h1 G) h
end Go.VE
namespace Go.VE
theorem Nc {w:World} {g:Nat} {l:List Int} (h:∀i,i<l.length->w.cell? ⟨g,i,none⟩=some (.int .i64 (l.getD i 0))) (D:0<l.length):dW (snap w) (.fptr (l.map (V.int .i64))) (.pointer (some ⟨g,0,none⟩)):=by
 have h1:=h 0 D;unfold World.cell? at h1;split at h1
 .rename_i c t fr u;have C:snap w g=some (.cells c):=by unfold snap;simp only at u;rw[u]
  have hc:∀i,w.cell? ⟨g,i,none⟩=c[i]? := λi=>by unfold World.cell?;simp only at u ⊢;rw[u];rfl
  refine .fptr _ _ _ c C ?_ ?_
  .rw[Nat.zero_add,List.length_map];have:=h (l.length-1) (by omega)
   rw[hc]at this;have:=(Array.getElem?_eq_some_iff.1 this).1;omega
  .intro j y v A hv;rw[Nat.zero_add,<-hc]at hv;rw[List.getElem?_map]at A;obtain⟨z,B,rfl⟩:=ζf.1 A;have G:=(ζe.1 B).1;rw[h j G]at hv;cases hv;have:l.getD j 0=z:=by simp[List.getD,B]
   rw[this];exact .int _ _
 .cases h1
end Go.VE
namespace Go.VE
variable [bN]
theorem f_ (n:Nat) (h:n<9223372036854775807):IntKind.wrap .i64 ((n:Int)+1)=((n+1:Nat):Int):=by
 simp[IntKind.wrap,IntKind.bits,IntKind.signed];omega
theorem kF (n:Int) (h1:-9223372036854775808<=n) (B:n<=9223372036854775807):IntKind.wrap .i64 n=n:=by
 simp[IntKind.wrap,IntKind.bits,IntKind.signed];omega
section
variable {α β:Type} {P:β->Prop}
theorem mR (s:Sl α) (i:Nat):idx s (i:Int)=s.l[i]? := by
 unfold idx;rw[if_pos (by omega)];rfl
theorem cn {s:Sl α} {i:Nat} (h:i<s.l.length):idx s (i:Int)=some s.l[i]:=by rw[mR,ζd h]
theorem Si {s:Sl α} {i:Int} (B:0<=i):idx s i=s.l[i.toNat]? := by unfold idx;rw[if_pos B]
theorem vE (s:Sl α) (i:Nat) (h:i<=s.l.length):∃x,jm s none (some (i:Int))=some x/\x.l=s.l.take i:=by
 unfold jm dI;simp only[Option.getD_none,Option.getD_some];rw[if_pos (by omega)]
 cases s <;> simp[Sl.l]at h ⊢ <;> simp[h]
theorem b8 {γ:Type} {a b:γ}:bp true a b=a:=rfl
theorem bO {γ:Type} {a b:γ}:bp false a b=b:=rfl
theorem wG (a b:Bool):bp a (some b) (some false)=some (a&&b):=by cases a <;> rfl
theorem FP (a b:Bool):bp a (some true) (some b)=some (a||b):=by cases a <;> rfl
theorem NW (a:Bool) (x y:β):bp a (some x) (some y)=some (if a then x else y):=by cases a <;> rfl
end
def place {α:Type} (f:α->Bool) (l:List α):Int:=match l.findIdx? f with
 | some i=>i
 | none=>-1
theorem zx {α:Type} {f:α->Bool} {l:List α} {i:Nat} (h:∀j,j<i->∀x,l[j]? = some x->f x=false) (hi:l.length<=i):l.findIdx? f=none:=by
 rw[List.findIdx?_eq_none_iff];intro x w;obtain⟨j,u⟩:=List.getElem?_of_mem w;have:j<l.length:=(ζe.1 u).1;exact h j (by omega) x u
theorem Hx {α:Type} {f:α->Bool} {l:List α} {i:Nat} {x:α} (h:∀j,j<i->∀x,l[j]? = some x->f x=false) (B:l[i]? = some x) (D:f x=true):l.findIdx? f=some i:=by
 rw[List.findIdx?_eq_some_iff_getElem];obtain⟨hi,rfl⟩:=ζe.1 B;exact⟨hi,D,λj u=>by rw[h j u _ (ζd (by omega))];simp⟩
theorem tA {α:Type} {step:Int->Option (Fw Int Unit Int)} {s:Sl α} {p:α->Option Bool} {f:α->Bool} (hp:∀x∈s.l,p x=some (f x)) (T:s.l.length<9223372036854775807)
 (J:∀i,step i=bp (decide (i<len s)) ((idx s i).bind λB=>(p B).bind λD=>bp D (some (.r i)) (some (.n (IntKind.wrap .i64 (i+1))))) (some (.x ()))) :
 (cE step 0).bind (Fw.elim (λ_=>some (-1)) (λe=>some e))=some (place f s.l):=by
 refine Wp.eq (lK (λi:Int=>∃n:Nat,i=n/\n<=s.l.length/\∀j,j<n->∀x,s.l[j]? = some x->f x=false) (λi:Int=>s.l.length-i.toNat) ⟨0,rfl,Nat.zero_le _,λj G=>absurd G (by omega)⟩ ?_)
 rintro i ⟨n,rfl,I,w⟩;rw[J,dH];refine⟨λh=>?_,λh=>?_⟩
 .have u:n<s.l.length:=by simpa [len]using h
  rw[cn u,ζb,hp _ (List.getElem_mem u),ζb,dH];refine⟨λz=>?_,λz=>?_⟩
  .rw[bh];show Wp (some (n:Int)) _;rw[bh];unfold place;rw[Hx w (ζd u) z]
  .rw[bh];refine⟨⟨n+1,f_ n (by omega),by omega,λj G x A=>?_⟩,?_⟩
   .by_cases e:j=n
    .subst e;rw[ζd u]at A;cases A;exact z
    .exact w j (by omega) x A
   .rw[f_ n (by omega)];simp;omega
 .have C:s.l.length<=n:=by simpa [len]using h
  rw[bh];show Wp (some (-1:Int)) _;rw[bh];unfold place;rw[zx w C]
theorem tG {α:Type} (f:α->Bool) (l:List α):decide (place f l>=0)=l.any f:=by
 unfold place
 cases h:l.findIdx? f with
 | none=>
  rw[List.findIdx?_eq_none_iff]at h;have:l.any f=false:=by rw[List.any_eq_false];intro x u;simp[h x u]
  rw[this];rfl
 | some i=>
  obtain⟨hi,w,_⟩:=List.findIdx?_eq_some_iff_getElem.1 h;have:l.any f=true:=List.any_eq_true.2 ⟨_,List.getElem_mem hi,w⟩;rw[this];simp
theorem NB {α σ ε ρ:Type} {step:α->σ->Option (Fw σ ε ρ)} {l:List α} (I:Nat->σ->Prop) (D:ε->Prop) (pr:ρ->Prop) {s:σ} (G:I 0 s)
 (h:∀i a s,l[i]? = some a->I i s->Wp (step a s) λw=>match w with|.n B=>I (i+1) B|.x e=>D e|.r b=>pr b) :
 Wp (jC step l s) λw=>match w with|.n B=>I l.length B|.x e=>D e|.r b=>pr b:=by
 have key:∀(r:List α) (i:Nat) (s:σ),l.drop i=r->i<=l.length->I i s->Wp (jC step r s) λw=>match w with|.n B=>I l.length B|.x e=>D e|.r b=>pr b:=by
  intro r
  induction r with
  | nil=>
   intro i s hd hi z;have:i=l.length:=by have:=List.drop_eq_nil_iff.1 hd;omega
   subst this;exact⟨_,rfl,z⟩
  | cons a r C=>
   intro i s hd hi z;have u:i<l.length:=by
    apply Classical.byContradiction;intro O;rw[List.drop_eq_nil_of_le (by omega)]at hd;cases hd
   have J:=List.drop_eq_getElem_cons u;rw[J]at hd;simp only[List.cons.injEq]at hd;obtain⟨w,L,A⟩:=h i a s (by rw[ζd u,hd.1]) z
   simp only[jC,L,ζb]
   cases w with
   | n B=>exact C (i+1) B hd.2 (by omega) A
   | x e=>exact⟨_,rfl,A⟩
   | r b=>exact⟨_,rfl,A⟩
 exact key l 0 s rfl (Nat.zero_le _) G
theorem z6 {α σ ε ρ γ:Type} {step:α->σ->Option (Fw σ ε ρ)} {l:List α} {fn:σ->Option γ} {B:ε->Option γ} {fr:ρ->Option γ} {P:γ->Prop} (I:Nat->σ->Prop) {s:σ} (D:I 0 s)
 (h:∀i a s,l[i]? = some a->I i s->Wp (step a s) λw=>match w with|.n G=>I (i+1) G|.x e=>Wp (B e) P|.r b=>Wp (fr b) P)
 (J:∀s,I l.length s->Wp (fn s) P):Wp ((jC step l s).bind (Fw.o5 fn B fr)) P:=by
 rw[js];refine(NB I _ _ D h).mono ?_;intro w u
 cases w with
 | n s=>exact J s u
 | x e=>exact u
 | r b=>exact u
end Go.VE
