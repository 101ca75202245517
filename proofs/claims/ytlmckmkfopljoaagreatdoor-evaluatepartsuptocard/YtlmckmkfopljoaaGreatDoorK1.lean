/-
 Certificates; functions by hand; readings; plain laws.
-/
import Derived.JoinedCond
import Derived.ReadAgain
import Derived.WalkKit
import Derived.ProofKit
import Derived.OpenShut
import Derived.ChangeSame
import Derived.RowKit3
import Derived.Lib.LaidTab
import Derived.Test.YtlmckmkfopljoaaGreatDoorV2
import Derived.Test.YtlmckmkfopljoaaGreatDoorN2
import Derived.Test.YtlmckmkfopljoaaGreatDoorS1
set_option linter.all false
namespace Go.VE
variable [bK]
abbrev Cf:=Fo×List Fm×St
section
variable (S:Sys) (c:bN) {β:Type} (Q:Out×St->Option β)
noncomputable abbrev b7 (cf:Cf):Option β:=rn S c Q cf.1 cf.2.1 cf.2.2
noncomputable def gR (n:Nat) (cf:Cf):Cf:=(gi S c n cf.1 cf.2.1 cf.2.2).getD cf
structure CI where
 dr:Bool
 fr:List Nat
 d:Option Nat
 gd:Option (Nat×Bool)
 now:Bool
 k:K
 az:List Arg
 dd:List Nat
 l:List RO
 fs:List Fm
 st:St
noncomputable def gx (n:Nat) (cf:Cf):Option CI:=match gi S c n cf.1 cf.2.1 cf.2.2 with
 | some (.ops dr fr (⟨d,gd,now,k,az,dd,[]⟩::l),fs,st)=>match wanted st.g gd with
  | some true=>some ⟨dr,fr,d,gd,now,k,az,dd,l,fs,st⟩
  | _=>none
 | _=>none
noncomputable def nx (n:Nat) (cf:Cf) (φ:CI->St):Cf:=match gx S c n cf with
 | some p=>(.ops p.dr (if p.dr then(match p.k with|.p _|.r _=>p.fr|_=>match p.d with|some d=>d::p.fr|none=>p.fr)else p.fr) p.l,p.fs,nD p.dd (φ p))
 | none=>cf
end
def sR (s:Nat) (b:Bool) (cf:Cf):Cf:=(cf.1,cf.2.1,{ cf.2.2 with g:=bH cf.2.2.g s (.v (.bool b)) })
def jmp (k:Nat) (fr:List Nat) (cf:Cf) (st:St):Cf:=match cf with
 | (.ops dr _ l,fs,_)=>(.ops dr fr (l.drop k),fs,st)
 | _=>(.rt,[],st)
def oM:RC->List Nat->List Fm->St->Cf
 | c,[],fs,st=>(.rc c,fs,st)
 | .seq a b,i::p,fs,st=>if i=0 then oM a p (.seq b::fs) st else oM b p fs st
 | .cond _ a b,i::p,fs,st=>if i=0 then oM a p fs st else oM b p fs st
 | .block id c,_::p,fs,st=>oM c p (.blk id::fs) st
 | .gh _ c,_::p,fs,st=>oM c p fs st
 | .hg c g,_::p,fs,st=>oM c p (.gst g::fs) st
 | .loop c,_::p,_,st=>oM c p [] st
 | .each _ _ _ b,_::p,_,st=>oM b p [] st
 | c,_,fs,st=>(.rc c,fs,st)
section
variable {S:Sys} {c:bN} {β γ δ α:Type} {Q:Out×St->Option β} {e:γ->Option β} {cf:Cf}
theorem iU {n:Nat} {p:CI} (h:gx S c n cf=some p):gi S c n cf.1 cf.2.1 cf.2.2=some (.ops p.dr p.fr (⟨p.d,p.gd,p.now,p.k,p.az,p.dd,[]⟩::p.l),p.fs,p.st)/\wanted p.st.g p.gd=some true:=by
 unfold gx at h
 grind
theorem si {n:Nat} {m:Option δ} {φ:δ->CI->St} {f:δ->Option γ} {p:CI} (hp:gx S c n cf=some p) (u:Le (m.bind λx=>some (φ x p)) (eT S c p.dr p.fr ⟨p.d,none,p.now,p.k,p.az,[],[]⟩ p.st))
 (h:∀x,m=some x->Le ((f x).bind e) (b7 S c Q (nx S c n cf (φ x)))):Le ((m.bind f).bind e) (b7 S c Q cf):=by
 obtain⟨h1,w⟩:=iU hp;refine Cr h1 rfl w u λx z=>?_
 have:=h x z;simp[nx,hp]at this;omega
theorem B5 {n:Nat} {m:Option β} {φ:CI->St} {p:CI} (hp:gx S c n cf=some p) (u:eT S c p.dr p.fr ⟨p.d,none,p.now,p.k,p.az,[],[]⟩ p.st=some (φ p))
 (h:Le m (b7 S c Q (nx S c n cf φ))):Le m (b7 S c Q cf):=by
 obtain⟨h1,w⟩:=iU hp;refine pE h1 rfl w u ?_;simp[nx,hp]at h;omega
theorem fF {α β:Type} {o:Option α} {f:α->β} {b:β} (h:o.map f=some b):∃a,o=some a/\f a=b:=ζf.1 h
theorem qB (n:Nat) {m:Option β} {u:Cf} (h:Le m (b7 S c Q u)) (z:gi S c n cf.1 cf.2.1 cf.2.2=some u:=by kernel_rfl):Le m (b7 S c Q cf):=yg z h
theorem bG (n s:Nat) {t:Bool} {x y:Option γ} (u:Le (x.bind e) (b7 S c Q (sR s true (gR S c n cf)))) (z:Le (y.bind e) (b7 S c Q (sR s false (gR S c n cf))))
 (B:(gi S c n cf.1 cf.2.1 cf.2.2).map (λp=>a_ p.2.2.g s)=some (some (.v (.bool t))):=by kernel_rfl):Le ((bn t x y).bind e) (b7 S c Q cf):=by
 obtain⟨p,w,hv⟩:=fF B;have hg:gR S c n cf=p:=by unfold gR;grind
 rw[hg]at u z;refine yg w ?_;cases t
 .have:sR s false p=p:=by unfold sR;rw[nX hv]
  rw[this]at z;exact z
 have:sR s true p=p:=by unfold sR;rw[nX hv]
 rw[this]at u;exact u
theorem eB (n s:Nat) {t:Bool} {x y:Option γ} (u:Le (x.bind e) (b7 S c Q (sR s false (gR S c n cf)))) (z:Le (y.bind e) (b7 S c Q (sR s true (gR S c n cf))))
 (B:(gi S c n cf.1 cf.2.1 cf.2.2).map (λp=>a_ p.2.2.g s)=some (some (.v (.bool (!t)))):=by kernel_rfl):Le ((bn t x y).bind e) (b7 S c Q cf):=by
 obtain⟨p,w,hv⟩:=fF B;have hg:gR S c n cf=p:=by unfold gR;grind
 rw[hg]at u z;refine yg w ?_;cases t
 .have:sR s true p=p:=by unfold sR;rw[show V.bool true=V.bool (!false)from rfl,nX hv]
  rw[this]at z;exact z
 have:sR s false p=p:=by unfold sR;rw[show V.bool false=V.bool (!true)from rfl,nX hv]
 rw[this]at u;exact u
theorem wC (n k:Nat) (fr:List Nat) (st:δ->St) {m:Option δ} {f:δ->Option γ} (u:Le (m.bind λr=>b7 S c Q (jmp k fr (gR S c n cf) (st r))) (b7 S c Q cf))
 (h1:∀r,Le ((f r).bind e) (b7 S c Q (jmp k fr (gR S c n cf) (st r)))):Le ((m.bind f).bind e) (b7 S c Q cf):=NM _ u h1
theorem bu (n:Nat) {r:δ} {k:δ->Cf} (u:gi S c n cf.1 cf.2.1 cf.2.2=some (k r):=by kernel_rfl):Le ((some r).bind λr=>b7 S c Q (k r)) (b7 S c Q cf):=SQ  u rfl
theorem bh {r:γ} {L:Option β} (h:L=e r:=by kernel_rfl):Le ((some r).bind e) L:=Le.of_eq h
theorem vF (n:Nat) {b:RC} {m:Option (Out×Tb bB)} (h:Le m (b7 S c uj (.rc b,[],(gR S c n cf).2.2))) (u:gi S c n cf.1 cf.2.1 cf.2.2=some (.nx,[],(gR S c n cf).2.2):=by kernel_rfl):Le m (b7 S c (w9 S c b) cf):=P4 u h
theorem SL (n:Nat) {o:Option α} (A:Option α->St) {f:α->Option γ} (u:∀x,o=some x->Le ((f x).bind e) (b7 S c Q ((gR S c n cf).1,(gR S c n cf).2.1,A (some x))))
 (z:gi S c n cf.1 cf.2.1 cf.2.2=some ((gR S c n cf).1,(gR S c n cf).2.1,A o):=by kernel_rfl):Le ((o.bind f).bind e) (b7 S c Q cf):=RY z u
def I9:K->Option BinOp
 | .p (.bin _ _ o)=>some o
 | _=>none
theorem Pu {k:K} {o:BinOp} (h:I9 k=some o):∃t u,k=.p (.bin t u o):=by
 cases k with
 | p p=>cases p <;> simp[I9]at h;simp_all
 | _=>simp[I9]at h
def Md:K->Option BinOp
 | .p (.bin (some .slice) _ o)=>some o
 | _=>none
theorem Ot {k:K} {o:BinOp} (h:Md k=some o):∃u,k=.p (.bin (some .slice) u o):=by
 unfold Md at h
 grind
def QN:K->Option (Nat×Nat×List Nat)
 | .a (.buildSl sz ln _ ix)=>some (sz,ln,ix)
 | _=>none
theorem QK {k:K} {r:Nat×Nat×List Nat} (h:QN k=some r):∃z,k=.a (.buildSl r.1 r.2.1 z r.2.2):=by
 unfold QN at h
 grind
def Qu:K->Option (List V)
 | .a (.alloc _ zero)=>some zero
 | _=>none
theorem P0 {k:K} {z:List V} (h:Qu k=some z):∃n,k=.a (.alloc n z):=by
 unfold Qu at h
 grind
section
variable [bt α]
theorem Rs (k:IntKind) (n:Nat) {s:Sl α} {i:Int} {f:α->Option γ} (h:∀x,idx s i=some x->Le ((f x).bind e) (b7 S c Q (nx S c n cf λp=>cU p.st p.d (cp x))))
 (u:(gx S c n cf).map (λp=>(p.k,bQ S.N p.st.g p.az))=some (.p (.idxS (bt.size α)),some [.v (b_ s),.v (.int k i)]):=by kernel_rfl):Le (((idx s i).bind f).bind e) (b7 S c Q cf):=by
 obtain⟨p,w,hv⟩:=fF u;simp  at hv;refine si w ?_ h;rw[hv.1];exact Le.of_eq (Nk hv.2 rfl)
theorem cZ (n:Nat) {s:Sl α} {i:Int} {f:α->Option γ} (h:∀x,idx s i=some x->Le ((f x).bind e) (b7 S c Q (nx S c n cf λp=>cU p.st p.d (cp x))))
 (u:(gx S c n cf).map (λp=>(p.k,bQ S.N p.st.g p.az))=some (.p (.idxS (bt.size α)),some [.v (b_ s),.v (.int .i64 i)]):=by kernel_rfl):Le (((idx s i).bind f).bind e) (b7 S c Q cf):=Rs .i64 n h u
theorem Qv (k:IntKind) (n u:Nat) {s:Sl α} {i:Int} {f:Nat->Option γ} (h:∀x,s.xh i=some x->Le ((f x).bind e) (b7 S c Q (nx S c n cf λp=>cU p.st p.d (.el u x 0))))
 (z:(gx S c n cf).map (λp=>(p.k,bQ S.N p.st.g p.az,a_ p.st.m u))=some (.p (.idxS (bt.size α)),some [.own u,.v (.int k i)],some (c7 s)):=by kernel_rfl):Le (((s.xh i).bind f).bind e) (b7 S c Q cf):=by
 obtain⟨p,w,hv⟩:=fF z;simp  at hv;refine si w ?_ h;rw[hv.1];exact Le.of_eq (RJ hv.2.1 hv.2.2 rfl)
theorem SM (n u o sz:Nat) (a:Bool) (v:α->V) {s:Sl α} {i:Nat} {f:α->Option γ} (h:∀x,s.get i=some x->Le ((f x).bind e) (b7 S c Q (nx S c n cf λp=>cU p.st p.d (.v (v x)))))
 (z:(gx S c n cf).map (λp=>(p.k,bQ S.N p.st.g p.az,a_ p.st.m u,(!p.dr||p.now||eD p.fr [.el u i o])))=some (.r (.load sz a),some [.el u i o],some (c7 s),true):=by kernel_rfl) (hv:∀x:α,(cut (cells x) o sz).bind (mk a)=some (v x):=by intro _;rfl):Le (((s.get i).bind f).bind e) (b7 S c Q cf):=by
 obtain⟨p,B,w⟩:=fF z;simp only[ζc]at w;refine si B ?_ h;rw[w.1];exact Le.of_eq (Q8 w.2.1 w.2.2.2 w.2.2.1 hv)
theorem SO (n u:Nat) (x:V) {s:Sl α} {i:Nat} {a:α} {f:Sl α->Option γ} (h:∀z,s.put i a=some z->Le ((f z).bind e) (b7 S c Q (nx S c n cf λp=>cU { p.st with m:=bH p.st.m u (c7 z) } p.d (.v .undef))))
 (B:(gx S c n cf).map (λp=>(p.k,bQ S.N p.st.g p.az,a_ p.st.m u,(!p.dr||p.now),x.cells))=some (.l (.store (bt.size α)),some [.el u i 0,.v x],some (c7 s),true,cells a):=by kernel_rfl):Le (((s.put i a).bind f).bind e) (b7 S c Q cf):=by
 obtain⟨p,w,hv⟩:=fF B;simp only[ζc]at hv;refine si w ?_ h;rw[hv.1];exact Le.of_eq (Pw hv.2.1 hv.2.2.2.1 hv.2.2.1 hv.2.2.2.2 rfl)
theorem AL (n o w u:Nat) {s:Sl α} {x:α} {f:Sl α->Option γ} (h:∀z,je s x=some z->Le ((f z).bind e) (b7 S c Q (nx S c n cf λp=>{ p.st with g:=bH p.st.g u (.own u),m:=bH (dQ o p.st.m) u (c7 z) })))
 (B:(gx S c n cf).map (λp=>(p.d,p.k,bQ S.N p.st.g p.az,(!p.dr||p.now),a_ p.st.m o,a_ p.st.m w,St.new { p.st with m:=dQ o p.st.m } u))=some (some u,.l (.append (bt.size α)),some [.own o,.own w],true,some (c7 s),some (c7 (.row [x])),true):=by kernel_rfl):Le (((je s x).bind f).bind e) (b7 S c Q cf):=by
 obtain⟨p,C,hv⟩:=fF B;simp only[ζc]at hv;refine si C ?_ h;rw[hv.1,hv.2.1];exact Le.of_eq (RH hv.2.2.1 hv.2.2.2.1 hv.2.2.2.2.1 hv.2.2.2.2.2.1 rfl hv.2.2.2.2.2.2)
theorem RZ (n w u:Nat) (v:V) (x:α) {m:Option β} (h:Le m (b7 S c Q (nx S c n cf λp=>{ p.st with g:=bH p.st.g u (.own u),m:=bH p.st.m u (c7 (.row [x])) }))) (hv:v=.bM\/v=.di:=by first|exact .inl rfl|exact .inr rfl)
 (B:(gx S c n cf).map (λp=>(p.d,p.k,bQ S.N p.st.g p.az,(!p.dr||p.now),a_ p.st.m w,p.st.new u))=some (some u,.l (.append (bt.size α)),some [.v v,.own w],true,some (c7 (.row [x])),true):=by kernel_rfl):Le m (b7 S c Q cf):=by
 obtain⟨p,C,z⟩:=fF B;simp only[ζc]at z;refine B5 C ?_ h;rw[z.1,z.2.1];exact P_ hv z.2.2.1 z.2.2.2.1 z.2.2.2.2.1 rfl z.2.2.2.2.2
theorem dP (n:Nat) (s:Sl α) {m:Option β} (h:Le m (b7 S c Q (nx S c n cf λp=>cU p.st p.d (.v (.int .i64 s.l.length)))))
 (u:(gx S c n cf).map (λp=>(p.k,bQ S.N p.st.g p.az))=some (.p .lenSl,some [.v (b_ s)]):=by kernel_rfl):Le m (b7 S c Q cf):=by
 obtain⟨p,w,hv⟩:=fF u;simp  at hv;refine B5 w ?_ h;rw[hv.1];exact NP hv.2
theorem HG (n u:Nat) (s:Sl α) {m:Option β} (h:Le m (b7 S c Q (nx S c n cf λp=>cU p.st p.d (.v (.int .i64 s.l.length)))))
 (z:(gx S c n cf).map (λp=>(p.k,bQ S.N p.st.g p.az,a_ p.st.m u))=some (.p .lenSl,some [.own u],some (c7 s)):=by kernel_rfl):Le m (b7 S c Q cf):=by
 obtain⟨p,w,hv⟩:=fF z;simp  at hv;refine B5 w ?_ h;rw[hv.1];exact P8 hv.2.1 hv.2.2
theorem QO (n:Nat) {s:Sl α} {f:Bool->Option γ} (h:∀t,s.isNil=some t->Le ((f t).bind e) (b7 S c Q (nx S c n cf λp=>cU p.st p.d (.v (.bool t)))))
 (z:(gx S c n cf).map (λp=>(Md p.k,bQ S.N p.st.g p.az))=some (some .eql,some [.v (b_ s),.v .bM]):=by kernel_rfl):Le ((s.isNil.bind f).bind e) (b7 S c Q cf):=by
 obtain⟨p,w,hv⟩:=fF z;simp  at hv;obtain⟨u,hk⟩:=Ot hv.1;refine si w ?_ h;rw[hk];exact Le.of_eq (OP hv.2)
theorem FG (n:Nat) (lo hi:Bool) (u:List V) {s:Sl α} {a b:Option Int} {f:Sl α->Option γ} (h:∀x,iI s a b=some x->Le ((f x).bind e) (b7 S c Q (nx S c n cf λp=>cU p.st p.d (.v (b_ x)))))
 (z:(gx S c n cf).map (λp=>(p.k,bQ S.N p.st.g p.az,lI lo hi u))=some (.p (.slice (bt.size α) lo hi),some (.v (b_ s)::u.map .v),some (a,b)):=by kernel_rfl):Le (((iI s a b).bind f).bind e) (b7 S c Q cf):=by
 obtain⟨p,w,hv⟩:=fF z;simp  at hv;obtain⟨h1,D⟩:=iU w;obtain⟨dr,fr,d,gd,now,k,az,dd,l,fs,st⟩:=p;obtain⟨rfl,G,I⟩:=hv;exact S4 n dr fr (⟨d,gd,now,.p (.slice (bt.size α) lo hi),az,dd,[]⟩::l) fs st lo hi u  rfl Zd λB C=>by
  have:=h B C;simp only[nx,w]at this;omega
theorem RW (n:Nat) (lo hi:Bool) (u t:Nat) (z:List V) {s:Sl α} {a b:Option Int} {f:Sl α->Option γ} (h:∀x,mR s a b=some x->Le ((f x).bind e) (b7 S c Q (nx S c n cf λp=>{ p.st with g:=bH p.st.g t (.own t),m:=bH (dQ u p.st.m) t (c7 x) })))
 (B:(gx S c n cf).map (λp=>(p.d,p.k,p.dr,bQ S.N p.st.g p.az,lI lo hi z,a_ p.st.m u,St.new { p.st with m:=dQ u p.st.m } t))=some (some t,.p (.slice (bt.size α) lo hi),false,some (.own u::z.map .v),some (a,b),some (c7 s),true):=by kernel_rfl):Le (((mR s a b).bind f).bind e) (b7 S c Q cf):=by
 obtain⟨p,w,hv⟩:=fF B;simp  at hv;obtain⟨h1,I⟩:=iU w;obtain⟨dr,fr,d,gd,now,k,az,dd,l,fs,st⟩:=p;obtain⟨rfl,rfl,rfl,J,L,O,C⟩:=hv;exact RP n fr (⟨some t,gd,now,.p (.slice (bt.size α) lo hi),az,dd,[]⟩::l) fs st lo hi u z  rfl C Zd λD G=>by
  have:=h D G;simp only[nx,w]at this;omega
theorem cE (n u:Nat) (x:α) {m:Option β} (h:Le m (b7 S c Q (nx S c n cf λp=>{ p.st with g:=bH p.st.g u (.ptr u 0),m:=bH p.st.m u (bx x) })))
 (z:(gx S c n cf).map (λp=>(p.d,p.k,bQ S.N p.st.g p.az,p.st.new u))=some (some u,.a .box,some [cv x],true):=by kernel_rfl):Le m (b7 S c Q cf):=by
 obtain⟨p,w,hv⟩:=fF z;simp  at hv;refine B5 w ?_ h;rw[hv.1,hv.2.1,DX,hv.2.2.1];simp only[ζb,hv.2.2.2,if_true,qE,jB,rE]
def SA (u o sz:Nat) (xs:List SV) (p:CI):St:=match a_ p.st.m u with
 | some (.box cs)=>cU { p.st with m:=bH p.st.m u (.box (cs.take o++xs++cs.drop (o+sz))) } p.d (.v .undef)
 | _=>p.st
theorem qI (n u o:Nat) (x:α) {m:Option β} (h:Le m (b7 S c Q (nx S c n cf (SA u o (bt.size α) ((cells x).map .v)))))
 (B:(gx S c n cf).map (λp=>(p.k,bQ S.N p.st.g p.az,(!p.dr||p.now),match a_ p.st.m u with|some (.box cs)=>Nat.ble (o+bt.size α) cs.length|_=>false))=some (.l (.store (bt.size α)),some [.ptr u o,cv x],true,true):=by kernel_rfl):Le m (b7 S c Q cf):=by
 obtain⟨p,C,hv⟩:=fF B;simp only[ζc]at hv;refine B5 C ?_ h;obtain⟨h1,D,G,z⟩:=hv;split at z
 next cs w=>have I:=Nat.le_of_ble_eq_true z;rw[h1,uP,D];simp only[ζb,G,if_true,k8,w,putCells,jB,gA,rE,I,and_self,Option.map_some,SA]
 simp_all
theorem uJ (n u:Nat) (xs:List α) {m:Option β} (h:Le m (b7 S c Q (nx S c n cf λp=>{ p.st with g:=bH p.st.g u (.own u),m:=bH p.st.m u (c7 (.row xs)) })))
 (B:(gx S c n cf).map (λp=>(p.d,QN p.k,bQ S.N p.st.g p.az,p.st.new u))=some (some u,some (bt.size α,xs.length,List.range' 0 xs.length),some ((xs.map enc).map .v),true):=by kernel_rfl):Le m (b7 S c Q cf):=by
 obtain⟨p,w,hv⟩:=fF B;simp  at hv;obtain⟨h1,G⟩:=iU w;obtain⟨dr,fr,d,gd,now,k,az,dd,l,fs,st⟩:=p;obtain⟨rfl,C,I,D⟩:=hv;obtain⟨z,rfl⟩:=QK C;exact Te n dr fr (⟨some u,gd,now,.a (.buildSl (bt.size α) xs.length z (List.range' 0 xs.length)),az,dd,[]⟩::l) fs st xs rfl D Zd (by
  simp[nx,w]at h;omega)
theorem Ga (n:Nat) (x:α) (vs z:List V) (pl:List (Nat×Nat)) {m:Option β} (u:jw z pl vs=some (cells x)) (B:bt.agg α=true) (h:Le m (b7 S c Q (nx S c n cf λp=>cU p.st p.d (cv x))))
 (D:(gx S c n cf).map (λp=>(p.k,bQ S.N p.st.g p.az))=some (.p (.build z pl),some (vs.map .v)):=by kernel_rfl):Le m (b7 S c Q cf):=by
 obtain⟨p,w,hv⟩:=fF D;simp  at hv;obtain⟨h1,C⟩:=iU w;obtain⟨dr,fr,d,gd,now,k,az,dd,l,fs,st⟩:=p;obtain⟨rfl,G⟩:=hv;exact SX n dr fr (⟨d,gd,now,.p (.build z pl),az,dd,[]⟩::l) fs st x vs rfl u B Zd (by
  simp only[nx,w]at h;omega)
end
theorem Qm (n:Nat) {k:IntKind} {a b:Int} {f:Int->Option γ} (h:∀x,sX k a b=some x->Le ((f x).bind e) (b7 S c Q (nx S c n cf λp=>cU p.st p.d (.v (.int k x)))))
 (z:(gx S c n cf).map (λp=>(I9 p.k,bQ S.N p.st.g p.az))=some (some .quo,some [.v (.int k a),.v (.int k b)]):=by kernel_rfl):Le (((sX k a b).bind f).bind e) (b7 S c Q cf):=by
 obtain⟨p,w,hv⟩:=fF z;simp  at hv;obtain⟨t,u,hk⟩:=Pu hv.1;refine si w ?_ h;rw[hk];exact Le.of_eq (R9 hv.2)
theorem Ji (n:Nat) (k:IntKind) {a:ByteArray} {b:Int} {f:Int->Option γ} (h:∀x,mq a b=some x->Le ((f x).bind e) (b7 S c Q (nx S c n cf λp=>cU p.st p.d (.v (.int .u8 x)))))
 (u:(gx S c n cf).map (λp=>(p.k,bQ S.N p.st.g p.az))=some (.p .idxStr,some [.v (.str a),.v (.int k b)]):=by kernel_rfl):Le (((mq a b).bind f).bind e) (b7 S c Q cf):=by
 obtain⟨p,w,hv⟩:=fF u;simp  at hv;refine si w ?_ h;rw[hv.1];exact Le.of_eq (Ng hv.2)
section
variable {A:α->List V} {E:δ->List V} {pl:α->Option δ} {fn:FuncId} {sc:Bool}
theorem tC (n:Nat) (F:iC S c fn A E pl sc) (z:α) {f:δ->Option γ} (h:∀x,pl z=some x->Le ((f x).bind e) (b7 S c Q (nx S c n cf λp=>cU p.st p.d (.v (result (E x))))))
 (B:(gx S c n cf).map (λp=>(p.k,(bQ S.N p.st.g p.az).bind ku,(!p.dr||p.now||fu p.st.m p.fr [])))=some (.c,some (fn,(A z).map .v),true):=by kernel_rfl):Le (((pl z).bind f).bind e) (b7 S c Q cf):=by
 obtain⟨p,C,hv⟩:=fF B;simp  at hv;obtain⟨D,G,O⟩:=hv;obtain⟨I,g1,g2⟩:=ζg.1 G;have u:∀d (w:List V),SV.dh d (w.map .v)=false:=λd w=>by
  induction w with
  | nil=>rfl
  | cons a l J=>simp[SV.dh,SV.cG,J]
 have L:(!p.dr||p.now||fu p.st.m p.fr ((A z).map .v))=true:=by
  have:fu p.st.m p.fr ((A z).map .v)=fu p.st.m p.fr []:=by unfold fu;simp[u];rfl
  grind
 refine si C ?_ h;rw[D];exact Ef (F.h z) F.k g1 g2 (Et _ _ _) L (λr=>by rw[jV];simp)
theorem QV (n:Nat) (F:iC S c fn A E pl true) (z:α) {f:δ->Option γ} (h:∀x,pl z=some x->Le ((f x).bind e) (b7 S c Q (nx S c n cf λp=>cU p.st p.d (.v (result (E x))))))
 (u:(gx S c n cf).map (λp=>(p.k,((bQ S.N p.st.g p.az).bind ku).bind λq=>(mC (gT p.st.m 8) q.2).map λvs=>(q.1,vs,((!p.dr||p.now)||fu p.st.m p.fr q.2))))=some (.c,some (fn,A z,true)):=by kernel_rfl):Le (((pl z).bind f).bind e) (b7 S c Q cf):=by
 obtain⟨p,w,hv⟩:=fF u;simp  at hv;obtain⟨B,C⟩:=hv;obtain⟨q,g1,g2⟩:=ζg.1 C;obtain⟨D,g3,g4⟩:=ζg.1 g1;obtain⟨vs,g5,g6⟩:=ζf.1 g2;simp only[ζc]at g6;obtain⟨e1,rfl,e3⟩:=g6;refine si w ?_ h;rw[B];exact Ef (F.h z) F.k g3 Zd g5 e3 (λr=>by rw[F.s rfl];rfl)
end
section
variable {N:Nat} [bt α]
theorem HI (n:Nat) (k:IntKind) {a:cw N α} {i:Int} {f:α->Option γ} (h:∀x,a.at i=some x->Le ((f x).bind e) (b7 S c Q (nx S c n cf λp=>cU p.st p.d (.v (.fptr (pa a i))))))
 (z:(gx S c n cf).map (λp=>(p.k,bQ S.N p.st.g p.az))=some (.p (.idxA N (bt.size α)),some [cp a,.v (.int k i)]):=by kernel_rfl):Le (((a.at i).bind f).bind e) (b7 S c Q cf):=by
 obtain⟨p,u,hv⟩:=fF z;simp  at hv;obtain⟨h1,B⟩:=iU u;obtain⟨dr,fr,d,gd,now,C,az,dd,l,fs,st⟩:=p;obtain⟨rfl,D⟩:=hv;exact RG n dr fr (⟨d,gd,now,.p (.idxA N (bt.size α)),az,dd,[]⟩::l) fs st k   rfl Zd λx w=>by
  have:=h x w;simp only[nx,u]at this;omega
theorem ME (n k:Nat) (a:cw N α) (i:Int) (o:Nat) (x:α) (z:a.at i=some x) {m:Option β} (h:Le m (b7 S c Q (nx S c n cf λp=>cU p.st p.d (.v (.fptr ((pa a i).drop (o+k)))))))
 (B:(gx S c n cf).map (λp=>(p.k,bQ S.N p.st.g p.az,Nat.ble (o+k) (bt.size α)))=some (.p (.fieldAddr k),some [.v (.fptr ((pa a i).drop o))],true):=by kernel_rfl):Le m (b7 S c Q cf):=by
 obtain⟨p,u,hv⟩:=fF B;simp  at hv;obtain⟨h1,w⟩:=iU u;obtain⟨dr,fr,d,gd,now,C,az,dd,l,fs,st⟩:=p;obtain⟨rfl,D,G⟩:=hv;exact S0 n dr fr (⟨d,gd,now,.p (.fieldAddr k),az,dd,[]⟩::l) fs st a i o x z rfl Zd (by
  simp only[nx,u]at h;omega)
theorem Jk (n sz:Nat) (ag:Bool) (a:cw N α) (i:Int) (o:Nat) (x:α) (z:a.at i=some x) (v:V) (hv:(cut (cells x) o sz).bind (mk ag)=some v) {m:Option β} (h:Le m (b7 S c Q (nx S c n cf λp=>cU p.st p.d (.v v))))
 (B:(gx S c n cf).map (λp=>(p.k,bQ S.N p.st.g p.az))=some (.r (.load sz ag),some [.v (.fptr ((pa a i).drop o))]):=by kernel_rfl):Le m (b7 S c Q cf):=by
 obtain⟨p,w,u⟩:=fF B;simp  at u;obtain⟨h1,C⟩:=iU w;obtain⟨dr,fr,d,gd,now,D,az,dd,l,fs,st⟩:=p;obtain⟨rfl,G⟩:=u;exact RA n dr fr (⟨d,gd,now,.r (.load sz ag),az,dd,[]⟩::l) fs st a i o x z hv v rfl Zd (by
  simp only[nx,w]at h;omega)
theorem Qo (n u:Nat) (st:St) (cs:List SV) {m:Option β} (B:st.new u=true) (h:Le m (b7 S c Q (nx S c n cf λ_=>{ st with g:=bH st.g u (.ptr u 0),m:=bH st.m u (.box cs) })))
 (D:(gx S c n cf).map (λp=>(p.d,(Qu p.k).map (λz=>z.map SV.v),bQ S.N p.st.g p.az,p.st))=some (some u,some cs,some [],st):=by kernel_rfl):Le m (b7 S c Q cf):=by
 obtain⟨p,C,hv⟩:=fF D;simp only[ζc]at hv;obtain⟨z,G,w⟩:=fF hv.2.1;obtain⟨k,hk⟩:=P0 G;refine B5 C ?_ h;rw[hv.1,hk,DX,hv.2.2.1,hv.2.2.2];simp[B,qE,w]
theorem DI (n:Nat) (k:IntKind) (u:Nat) {a:cw N α} {i:Int} {f:α->Option γ} (h:∀x,a.at i=some x->Le ((f x).bind e) (b7 S c Q (nx S c n cf λp=>cU p.st p.d (.ptr u (i.toNat*bt.size α+0)))))
 (z:(gx S c n cf).map (λp=>(p.k,bQ S.N p.st.g p.az,a_ p.st.m u))=some (.p (.idxA N (bt.size α)),some [.ptr u 0,.v (.int k i)],some (bx a)):=by kernel_rfl):Le (((a.at i).bind f).bind e) (b7 S c Q cf):=by
 obtain⟨p,w,hv⟩:=fF z;simp  at hv;obtain⟨h1,C⟩:=iU w;obtain⟨dr,fr,d,gd,now,D,az,dd,l,fs,st⟩:=p;obtain⟨rfl,G,I⟩:=hv;exact Sc n dr fr (⟨d,gd,now,.p (.idxA N (bt.size α)),az,dd,[]⟩::l) fs st k u   rfl Zd λx B=>by
  have:=h x B;simp only[nx,w]at this;omega
theorem Ns (n sz:Nat) (ag:Bool) (u:Nat) (a:cw N α) (i:Int) (o:Nat) (x:α) (B:a.at i=some x) (v:V) (hv:(cut (cells x) o sz).bind (mk ag)=some v) {m:Option β} (h:Le m (b7 S c Q (nx S c n cf λp=>cU p.st p.d (.v v))))
 (D:(gx S c n cf).map (λp=>(p.k,bQ S.N p.st.g p.az,a_ p.st.m u,(!p.dr||p.now||eD p.fr [.ptr u 0])))=some (.r (.load sz ag),some [.ptr u (i.toNat*bt.size α+o)],some (bx a),true):=by kernel_rfl):Le m (b7 S c Q cf):=by
 obtain⟨p,z,w⟩:=fF D;simp  at w;obtain⟨h1,C⟩:=iU z;obtain⟨dr,fr,d,gd,now,G,az,dd,l,fs,st⟩:=p;obtain⟨rfl,I,J,L⟩:=w;exact Ru n dr fr (⟨d,gd,now,.r (.load sz ag),az,dd,[]⟩::l) fs st u a i o x B hv v rfl Zd (by
  simp only[nx,z]at h;omega)
end
section
variable {κ ν:Type} [bt κ] [DecidableEq κ] [Key κ] [bt ν]
theorem RK (n u:Nat) (mp:Mo κ ν) (k:κ) (z:ν) {m:Option β} (h:Le m (b7 S c Q (nx S c n cf λp=>cU p.st p.d (cv (Ct mp k z)))))
 (B:(gx S c n cf).map (λp=>(p.k,bQ S.N p.st.g p.az,a_ p.st.m u,(!p.dr||p.now||eD p.fr [.mp u,cv k])))=some (.r (.lookup (Key.kk κ) (enc z) false),some [.mp u,cv k],some (ue mp),true):=by kernel_rfl):Le m (b7 S c Q cf):=by
 obtain⟨p,w,hv⟩:=fF B;simp  at hv;obtain⟨h1,C⟩:=iU w;obtain⟨dr,fr,d,gd,now,D,az,dd,l,fs,st⟩:=p;obtain⟨rfl,G,I,J⟩:=hv;exact Rt n dr fr (⟨d,gd,now,.r (.lookup (Key.kk κ) (enc z) false),az,dd,[]⟩::l) fs st u mp k z rfl Zd (by
  simp only[nx,w]at h;omega)
theorem SP (n u:Nat) (mp:Mo κ ν) (k:κ) (v:ν) {m:Option β} (h:Le m (b7 S c Q (nx S c n cf λp=>cU { p.st with m:=bH p.st.m u (ue (pO mp k v)) } p.d (.v .undef))))
 (B:(gx S c n cf).map (λp=>(p.k,bQ S.N p.st.g p.az,a_ p.st.m u,(!p.dr||p.now)))=some (.l (.mapUp (Key.kk κ)),some [.mp u,cv k,cv v],some (ue mp),true):=by kernel_rfl):Le m (b7 S c Q cf):=by
 obtain⟨p,z,w⟩:=fF B;simp  at w;obtain⟨h1,C⟩:=iU z;obtain⟨dr,fr,d,gd,now,D,az,dd,l,fs,st⟩:=p;obtain⟨rfl,G,I,J⟩:=w;exact S6 n dr fr (⟨d,gd,now,.l (.mapUp (Key.kk κ)),az,dd,[]⟩::l) fs st u mp k v rfl Zd (by
  simp[nx,z]at h;omega)
end
theorem RL (n:Nat) (st:St) {rs:List RV} {e:γ->Option (List V)} {r:γ} (svs:List SV) {ys:List V} (u:mC (gT st.m 8) svs=some ys) (z:e r=some ys)
 (h:(gi S c n cf.1 cf.2.1 cf.2.2).map (λq=>(q.1,q.2.2,jf q.2.2 rs))=some (.rt,st,some svs):=by kernel_rfl):Le ((some r).bind e) (b7 S c (nq rs) cf):=by
 obtain⟨⟨fo,fs,st'⟩,w,hv⟩:=fF h;simp  at hv;obtain⟨rfl,rfl,B⟩:=hv;exact Rr n svs u (by rw[w,B]) z
end
end Go.VE
namespace Go.VE
variable [bK]
section
variable {S:Sys} {c:bN} {β γ δ α:Type} [bt α] {Q:Out×St->Option β} {e:γ->Option β} {cf:Cf}
def wO (s x:Sl α):Option (Sl α):=if x.l=[]then some s else if s.l.length+x.l.length<=2147483648 then some (.row (s.l++x.l))else none
theorem ON (m:Tb bB) (n w:Nat) (x:Sl α) (u:n=bt.size α) (z:a_ m w=some (c7 x)):jl m n (.own w)=some (rows x.l):=by
 rw[BV,z,zc n x u]
theorem Ey (l:List α):rows l=[]↔l=[]:=by unfold rows;simp
theorem Ly (a b:List α):rows a++rows b=rows (a++b):=by unfold rows;simp
theorem Ew (a:List α):(rows a).length=a.length:=by unfold rows;simp
theorem Qy {st:St} {dr now:Bool} {fr:List Nat} {az:List Arg} {d n o:Nat} {s x:Sl α} {z:SV} (J:bQ S.N st.g az=some [.own o,z]) (hd:(!dr||now)=true) (B:a_ st.m o=some (c7 s)) (T:jl st.m n z=some (rows x.l)) (D:n=bt.size α) (G:St.new { st with m:=dQ o st.m } d=true) :
 eT S c dr fr ⟨some d,none,now,.l (.append n),az,[],[]⟩ st=(wO s x).bind λU=>some { st with g:=bH st.g d (.own d),m:=bH (dQ o st.m) d (c7 U) }:=by
 rw[uP,J];simp only[ζb,hd,if_true,yb,ON st.m n o s D B,T];unfold wO
 by_cases h:x.l=[]
 .rw[if_pos h,(Ey x.l).2 h];simp only[wG,B,if_pos G,ζb];rfl
 rw[if_neg h];have hr:rows x.l≠[]:=λe=>h ((Ey _).1 e)
 have w:wG st d n (.own o) (some (rows s.l)) (some (rows x.l))=if(rows s.l).length+(rows x.l).length<=2147483648/\Eu (.own o)=true then(if St.new { st with m:=giveUp st.m (.own o) } d then some (.own d,{ st with m:=bH (giveUp st.m (.own o)) d (.sl .row n (rows s.l++rows x.l)) })else none)else none:=by
  unfold wG;generalize rows x.l=r at *
  cases r with
  | nil=>exact absurd rfl hr
  | cons y r=>rfl
 rw[w,Ew,Ew,Ly]
 by_cases u:s.l.length+x.l.length<=2147483648
 .rw[if_pos ⟨u,rfl⟩,if_pos (show St.new { st with m:=giveUp st.m (.own o) } d=true from G),if_pos u];rw[ζb,ζb,D];rfl
 rw[if_neg (λk=>u k.1),if_neg u];rfl
theorem Sd (n o u:Nat) (B:SV) {s x:Sl α} {f:Sl α->Option γ} (D:∀p,gx S c n cf=some p->jl p.st.m (bt.size α) B=some (rows x.l))
 (h:∀z,wO s x=some z->Le ((f z).bind e) (b7 S c Q (nx S c n cf λp=>{ p.st with g:=bH p.st.g u (.own u),m:=bH (dQ o p.st.m) u (c7 z) })))
 (G:(gx S c n cf).map (λp=>(p.d,p.k,bQ S.N p.st.g p.az,(!p.dr||p.now),a_ p.st.m o,St.new { p.st with m:=dQ o p.st.m } u))=some (some u,.l (.append (bt.size α)),some [.own o,B],true,some (c7 s),true):=by kernel_rfl):Le (((wO s x).bind f).bind e) (b7 S c Q cf):=by
 obtain⟨p,w,hv⟩:=fF G;simp only[ζc]at hv;refine si w ?_ h;rw[hv.1,hv.2.1];exact Le.of_eq (Qy hv.2.2.1 hv.2.2.2.1 hv.2.2.2.2.1 (D p w) rfl hv.2.2.2.2.2)
theorem Jh (m:Tb bB) (x:Sl α):jl m (bt.size α) (.v (b_ x))=some (rows x.l):=by
 cases x <;> simp[b_,Sl.k,Sl.l,mD,jl,rows]
theorem Kw (n o u:Nat) {s x:Sl α} {f:Sl α->Option γ}
 (h:∀z,wO s x=some z->Le ((f z).bind e) (b7 S c Q (nx S c n cf λp=>{ p.st with g:=bH p.st.g u (.own u),m:=bH (dQ o p.st.m) u (c7 z) })))
 (B:(gx S c n cf).map (λp=>(p.d,p.k,bQ S.N p.st.g p.az,(!p.dr||p.now),a_ p.st.m o,St.new { p.st with m:=dQ o p.st.m } u))=some (some u,.l (.append (bt.size α)),some [.own o,.v (b_ x)],true,some (c7 s),true):=by kernel_rfl):Le (((wO s x).bind f).bind e) (b7 S c Q cf):=
 Sd n o u _ (λp _=>Jh p.st.m x) h B
end
theorem xu {α:Type} {l:List α} {i:Nat} {x:α} (h:l[i]? = some x):l.set i x=l:=by
 obtain⟨hi,rfl⟩:=ζe.1 h;exact List.set_getElem_self hi
open Classical in
def s7 (x:List V):V:=x.headD .undef
section
variable {H:bf} {Z:Nat->Prop}
theorem dg.Pb {k:Nat} {xs ys:List V} (h:dg H Z xs ys) (z:V.j_ k xs=true):borrows k H ys=some xs:=jo h.1 λj u v hu hv=>(h.2 j u v hu hv).borrow k (lG.1 z j u hu)
theorem dg.borrows {xs ys:List V} (h:dg H Z xs ys):∃n,∀k,n<=k->borrows k H ys=some xs:=by
 obtain⟨n,u⟩:=l_ xs;exact⟨n,λk hk=>h.Pb (oD hk u)⟩
end
def bV (N:Nat->FuncId) (F:Frame):Arg->V
 | .s n=>get F n
 | .k c=>c
 | .f s=>.clo (N s) [] []
def cK (E:Env) (N:Nat->FuncId) (call:dw) (b:Option Nat) (now:Bool) (k:K) (vs:List V) (H:bf):Option (V×bf):=
 match k,b with
 | .p p,_=>(bq N p vs).map λv=>(v,H)
 | .r r,none=>(fS H r vs).map λv=>(v,H)
 | .r r,some b=>(fS (H.take b) r vs).map λv=>(v,H)
 | .a a,none=>(kL a vs).map λx=>(x.2.val H.length,H++[x.1])
 | .l l,none=>fc H l vs
 | .l (.store n),some _=>if now then fc H (.store n) vs else none
 | .c,none=>match vs with
  | .clo g a c::u=>if E.keep g then ga E call g (a++u++c) H else match cm call g (a++u++c) H with
   | some y=>if y.scalar then some (y,H)else none
   | none=>none
  | _=>none
 | .c,some b=>match vs with
  | .clo g a c::u=>if E.keep g then none else match cm call g (a++u++c) (H.take b)with
   | some y=>if y.scalar then some (y,H)else none
   | none=>none
  | _=>none
 | _,_=>none
def bX (F:Frame):Option Nat->V->Frame
 | none,_=>F
 | some d,v=>set F d v
def eC (E:Env) (N:Nat->FuncId) (call:dw) (b:Option Nat):List RO->Frame->bf->Option (Frame×bf)
 | [],F,H=>some (F,H)
 | o::r,F,H=>match o.gd with
  | none=>match cK E N call b o.now o.k (o.az.map (bV N F)) H with
   | some (v,H')=>eC E N call b r (bX F o.dst v) H'
   | none=>none
  | some _=>none
section
variable {X:CX} {N:Nat->FuncId} {call:dw} {F F':Frame} {H H':bf}
theorem G8 (u:∀f s,X.nm f=some s->N s=f) {o:Operand} {x:Arg} (h:nT X.nm o=some x):ev F o=some (bV N F x):=by
 cases o with
 | tmp t=>simp[nT]at h;subst h;rfl
 | const w=>
  simp[nT]at h;split at h
  .rename_i c hc;split at h
   .simp  at h;subst h;exact hc
   grind
  grind
 | func f=>
  obtain⟨s,z,rfl⟩:=ζf.1 h;show some (V.clo f [] [])=some (.clo (N s) [] [])
  grind
 | global i=>
  simp[nT]at h;split at h
  .rename_i c hc;split at h
   .simp  at h;subst h;simp[ev,hc];rfl
   grind
  grind
theorem wV (B:∀f s,X.nm f=some s->N s=f):∀{os:List Operand} {u:List Arg},os.mapM (nT X.nm)=some u->eF F os=some (u.map (bV N F))
 | [],u,h=>by simp  at h;subst h;rfl
 | o::os,u,h=>by
  simp[ζg]at h;obtain⟨x,D,xs,z,rfl⟩:=h;simp[eF,G8 B D,wV B z]
theorem xG (D:∀f s,X.nm f=some s->N s=f) {z:Bool} {ops:List Oper} {i:Nat} {o:Oper} {ro:RO} (h:lY X z ops i o=some ro) (hg:ro.gd=none) :
 o.dst=ro.dst/\wu X.nt o.dst=true/\eY ops F o=true/\((Bo X.E N F o.op (ro.az.map (bV N F)) ro.k/\ro.now=(z&&dy ops i)/\(z=true->dy ops i=false->∀a',nv ops i a'=[]\/∀t,o.op≠.load t (.tmp a')))\/(∃n,ro.k=.l (.storeF n))\/(∃n a,ro.k=.r (.loadF n a))\/(z=true/\vC ops i=true/\cT o.op=.alloc/\(∃p,ro.k=.p p/\(p=.emptyC\/∃a b,p=.makeC a b)/\∀y,bq N p (ro.az.map (bV N F))=some y->pe X.E F o.op=some y))\/∃n,ro.k=.e n):=by
 unfold lY at h;split at h
 .rename_i hd;split at h
  .rename_i gd k os u hr;split at h
   .split at h
    .rename_i w;simp only[ζh]at w;have U:∀{gd:Option (Nat×Bool)},Aa ops o=some gd->gd=none->eY ops F o=true:=λ{gd} u hg=>by
      subst hg;unfold eY;unfold Aa at u
      cases C:o.guard with
      | none=>rfl
      | some J=>
       rw[C]at u;obtain⟨j,b⟩:=J;obtain⟨d,_,e⟩:=ζf.1 u;cases e
     split at h
     next L=>obtain⟨W,G,rfl⟩:=ζf.1 h;have B:=jy D hr (wV (F:=F) D G);exact⟨rfl,hd,U u hg,.inr (.inr (.inr (.inl ⟨w.1,w.2,B.1,_,rfl,.inr ⟨_,_,rfl⟩,λy O=>BO ⟨_,_,_,by assumption⟩ B O⟩)))⟩
     .rename_i L;split at h
      next Q=>obtain⟨S,rfl,rfl⟩:=Q;obtain⟨W,G,rfl⟩:=ζf.1 h;have B:=jy D hr (wV (F:=F) D G);exact⟨rfl,hd,U u hg,.inr (.inr (.inr (.inl ⟨w.1,w.2,B.1,_,rfl,.inl rfl,λy O=>BU ⟨_,_,_,by assumption⟩ B S O⟩)))⟩
      cases h
     cases h
    obtain⟨W,G,rfl⟩:=ζf.1 h;simp only at hg;subst hg;refine⟨rfl,hd,?_,?_⟩
    .unfold eY;unfold Aa at u
     cases C:o.guard with
     | none=>rfl
     | some J=>
      rw[C]at u;obtain⟨j,b⟩:=J;obtain⟨d,_,e⟩:=ζf.1 u;cases e
    rcases BM z ops i k os with⟨e,T⟩|⟨_,_,n,a,l,Y,_,_,_,e⟩|⟨_,_,n,ag,a,_,_,e⟩|⟨_,_,_,n,_,e⟩
    .rw[e]at G ⊢;refine .inl ⟨jy D hr (wV D G),rfl,λhd Z a'=>?_⟩
     by_cases I:∃t,o.op=.load t (.tmp a')
     .obtain⟨t,I⟩:=I;rw[I]at hr;simp only[resolve]at hr;obtain⟨d,_,e⟩:=ζf.1 hr;simp only[ζc]at e;exact .inl (T _ _ a' hd Z e.1.symm e.2.symm)
     exact .inr λt h=>I ⟨t,h⟩
    .rw[e];exact .inr (.inl ⟨n,rfl⟩)
    .rw[e];exact .inr (.inr (.inl ⟨n,ag,rfl⟩))
    rw[e];exact .inr (.inr (.inr (.inr ⟨n,rfl⟩)))
   simp at h
  simp at h
 simp at h
theorem D3 {nt:Nat} {dst:Option Nat} (h:wu nt dst=true) (v:V):iW nt F dst v=some (bX F dst v):=by
 cases dst with
 | none=>rfl
 | some d=>simp[wu]at h;simp[iW,if_pos h,bX]
theorem Q9 (J:∀f s,X.nm f=some s->N s=f) {ops:List Oper} {i:Nat} {o:Oper} {ro:RO} (h:lY X false ops i o=some ro) (hg:ro.gd=none) {v:V} (hv:cK X.E N call none ro.now ro.k (ro.az.map (bV N F)) H=some (v,H')) :
 fJ X.E call X.nt ops none o F H=some (bX F ro.dst v,H'):=by
 obtain⟨h1,I,L,u⟩:=xG (F:=F) J h hg;have hd:c8 X.E call ops none F H o.op=some (v,H'):=by
  rcases u with⟨u,_⟩|⟨n,u⟩|⟨n,a,u⟩|⟨u,_⟩|⟨n,u⟩
  .generalize hk:ro.k=k at hv u;generalize ro.az.map (bV N F)=U at hv u;unfold c8
   cases k with
   | p p=>
    obtain⟨c,e⟩:=u;obtain⟨w,B,C⟩:=ζf.1 hv;rw[c];simp only[wz (e w B),Option.map_some];rw[C]
   | r r=>
    obtain⟨c,e⟩:=u;obtain⟨w,B,C⟩:=ζf.1 hv;rw[c];simp only[e H w B,Option.map_some];rw[C]
   | a a=>
    obtain⟨c,e⟩:=u;obtain⟨⟨ob,m⟩,B,C⟩:=ζf.1 hv;rw[c];simp only[o8,Bool.false_eq_true,if_false,e _ B];exact congrArg some C
   | l l=>
    obtain⟨c,e⟩:=u;rw[c];exact e H _ hv
   | e n=>exact u.elim
   | b=>simp[cK]at hv
   | c=>
    obtain⟨c,f,O,rfl,e⟩:=u;rw[c];simp only[cK]at hv;split at hv
    .rename_i g a b Q D;simp only[List.cons.injEq]at D;obtain⟨rfl,rfl⟩:=D;split at hv
     next z=>simp only[e,jF,z,Bool.and_self,if_true];exact hv
     rename_i z;split at hv
     .rename_i y S;split at hv
      next G=>simp only[e,jF,z,Bool.false_and,Bool.false_eq_true,if_false,S,G,if_true];exact hv
      simp at hv
     simp at hv
    simp at hv
  .rw[u]at hv;exfalso;have:∀ops i k os,(vm false ops i k os).1=k:=λ_ _ _ _=>rfl
   unfold lY at h;simp only[Bool.false_and,Bool.false_eq_true,if_false]at h;split at h
   .split at h
    .rename_i gd k os T hr;split at h
     .obtain⟨O,W,rfl⟩:=ζf.1 h;simp only[this]at u;subst u;unfold resolve at hr
      (repeat' split at hr) <;> first|(simp at hr;done)|(obtain⟨_,_,e⟩:=ζf.1 hr;simp at e;done)
     simp at h
    simp at h
   first|(simp at h;done)|contradiction
  .rw[u]at hv;simp[cK,fS]at hv
  .cases u
  rw[u]at hv;simp[cK]at hv
 unfold fJ;rw[L,if_pos rfl,hd];simp only[h1,D3 (h1▸I),Option.map_some]
theorem EJ (z:∀f s,X.nm f=some s->N s=f) {ops:List Oper}:∀(rest:List Oper) {i:Nat} {u:List RO} {F:Frame} {H:bf},jQ X false ops i rest=some u->eC X.E N call none u F H=some (F',H')->kE X.E call X.nt ops rest F H=some (F',H')
 | [],i,u,F,H,hc,h=>by
  simp[jQ]at hc;subst hc;exact h
 | o::rest,i,u,F,H,hc,h=>by
  simp[jQ]at hc;split at hc
  .rename_i ro rs h1 B;simp  at hc;subst hc;simp[eC]at h;split at h
   .rename_i hg;split at h
    next v H1 hv=>simp[kE,Q9 z h1 hg hv];exact EJ z rest B h
    grind
   grind
  grind
theorem Oy {ops:List Oper} {i:Nat} {op:Op} (h:∀t a',op=.load t (.tmp a')->nv ops i a'=[]):mm ops i F op=true:=by
 unfold mm
 grind
theorem Qx (Y:∀f s,X.nm f=some s->N s=f) {ops:List Oper} {b i:Nat} {o:Oper} (ho:ops[i]? = some o) {ro:RO} (h:lY X true ops i o=some ro) (hg:ro.gd=none) {v:V} (hv:cK X.E N call (some b) ro.now ro.k (ro.az.map (bV N F)) H=some (v,H')) :
 fJ X.E call X.nt ops (some (b,i)) o F H=some (bX F ro.dst v,H'):=by
 obtain⟨h1,Z,h3,u⟩:=xG (F:=F) Y h hg;have hd:c8 X.E call ops (some (b,i)) F H o.op=some (v,H'):=by
  rcases u with⟨u,z,B⟩|⟨n,u⟩|⟨n,a,u⟩|⟨_,I,J,p,u,_,L⟩|⟨n,u⟩
  .generalize hk:ro.k=k at hv u;generalize ro.az.map (bV N F)=vs at hv u;unfold c8
   cases k with
   | p p=>
    obtain⟨c,e⟩:=u;obtain⟨w,C,D⟩:=ζf.1 hv;rw[c];simp only[wz (e w C),Option.map_some];rw[D]
   | r r=>
    obtain⟨c,e⟩:=u;obtain⟨w,C,D⟩:=ζf.1 hv;have O:mm ops i F o.op=true:=Oy λt a' e=>by
     by_cases U:dy ops i=true
     .exact A7 ho e U
     rcases B rfl (by simpa using U) a' with h|h
     .exact h
     exact absurd e (h t)
    rw[c];simp only[e _ w C,O,if_true];rw[D]
   | a a=>simp[cK]at hv
   | l l=>
    obtain⟨c,e⟩:=u
    cases l with
    | store n=>
     simp only[cK]at hv;split at hv
     next W=>rw[z,Bool.true_and]at W;rw[c];simp only[W,Bool.true_or,if_true];exact e H _ hv
     simp at hv
    | _=>simp[cK]at hv
   | e n=>exact u.elim
   | b=>simp[cK]at hv
   | c=>
    obtain⟨c,f,av,rfl,e⟩:=u;rw[c];simp only[cK]at hv;split at hv
    .rename_i g a b aa G;simp only[List.cons.injEq]at G;obtain⟨rfl,rfl⟩:=G;split at hv
     .simp at hv
     rename_i Q;split at hv
     .rename_i y hy;split at hv
      next S=>simp only[e,jF,Q,Bool.false_and,Bool.false_eq_true,if_false,hy,S,if_true];exact hv
      simp at hv
     simp at hv
    simp at hv
  .rw[u]at hv;simp[cK]at hv
  .rw[u]at hv;simp[cK,fS]at hv
  .rw[u]at hv;obtain⟨w,C,D⟩:=ζf.1 hv;have T:=L w C;unfold c8;rw[J];simp only[o8,I,if_true,T,Option.map_some];exact congrArg some D
  rw[u]at hv;simp[cK]at hv
 unfold fJ;rw[h3,if_pos rfl,hd];simp only[h1,D3 (h1▸Z),Option.map_some]
theorem EO (z:∀f s,X.nm f=some s->N s=f) {ops:List Oper} {b:Nat}:∀(rest:List Oper) {i:Nat} {u:List RO} {F:Frame} {H:bf},ops.drop i=rest->jQ X true ops i rest=some u->eC X.E N call (some b) u F H=some (F',H') ->
 iT X.E call X.nt ops b (List.range' i rest.length) F H=some (F',H')
 | [],i,u,F,H,_,hc,h=>by
  simp[jQ]at hc;subst hc;exact h
 | o::rest,i,u,F,H,hd,hc,h=>by
  simp[jQ]at hc;split at hc
  .rename_i ro rs h1 D;simp  at hc;subst hc;simp[eC]at h;split at h
   .rename_i hg;split at h
    .rename_i v H1 hv;have B:ops[i]? = some o:=by
      have:(ops.drop i)[0]? = some o:=by grind
      grind
     have w:ops.drop (i+1)=rest:=by
      rw[<-List.drop_drop,hd];rfl
     simp[List.range'_succ,iT,B,Qx z B h1 hg hv];exact EO z rest w D h
    grind
   grind
  grind
def vX (l:List RO):Bool:=l.all λo=>(match o.k with|.a _|.l (.storeF _)|.r (.loadF ..)|.p (.makeC ..)|.p .emptyC|.e _=>false|_=>true)&&o.gd.isNone
theorem Bw (D:∀f s,X.nm f=some s->N s=f) {ops:List Oper}:∀(rest:List Oper) {i:Nat} {B:List RO},jQ X true ops i rest=some B->vX B=true->rest.any (λo=>cT o.op==.alloc)=false
 | [],_,_,_,_=>rfl
 | o::rest,i,B,hc,z=>by
  simp only[jQ]at hc;split at hc
  .rename_i ro rs h1 G;simp only[ζa]at hc;subst hc;simp only[vX,List.all_cons,ζh,Option.isNone_iff_eq_none]at z;obtain⟨_,_,_,u⟩:=xG (F:=[]) D h1 z.1.2;rw[List.any_cons,Bw D rest G z.2,Bool.or_false];rcases u with⟨u,_⟩|⟨n,u⟩|⟨n,a,u⟩|⟨_,_,_,p,u,w,_⟩|⟨n,u⟩
   .cases hk:ro.k with
    | a p=>have:=z.1.1;rw[hk]at this;cases this
    | e p=>have:=z.1.1;rw[hk]at this;cases this
    | _=>rw[hk]at u;rw[u.1];rfl
   .have:=z.1.1;rw[u]at this;cases this
   .have:=z.1.1;rw[u]at this;cases this
   .have:=z.1.1;rw[u]at this;rcases w with rfl|⟨_,_,rfl⟩ <;> cases this
   have:=z.1.1;rw[u]at this;cases this
  simp at hc
def gj (E:Env) (N:Nat->FuncId) (call:dw) (lf:Nat):RC->Frame->bf->Option (Out×Frame×bf)
 | .skip,F,H=>some (.norm,F,H)
 | .ops l,F,H=>(eC E N call none l F H).map λx=>(.norm,x.1,x.2)
 | .qm l,F,H=>if vX l then(eC E N call (some H.length) l F H).map λx=>(.norm,x.1,x.2)else none
 | .seq a b,F,H=>match gj E N call lf a F H with
  | some (.norm,F',H')=>gj E N call lf b F' H'
  | r=>r
 | .cond x a b,F,H=>match bV N F x with
  | .bool t=>if t then gj E N call lf a F H else gj E N call lf b F H
  | _=>none
 | .block id c,F,H=>match gj E N call lf c F H with
  | some (.exit u,F',H')=>if u=id then some (.norm,F',H')else some (.exit u,F',H')
  | r=>r
 | .loop c,F,H=>jx (gj E N call lf c) lf F H
 | .exit id,F,H=>some (.exit id,F,H)
 | .ret,F,H=>some (.ret,F,H)
 | _,_,_=>none
theorem Fq {f g:Frame->bf->Option (Out×Frame×bf)} (h:∀F H r,f F H=some r->g F H=some r):∀(k:Nat) (F:Frame) (H:bf) (r:Out×Frame×bf),jx f k F H=some r->jx g k F H=some r
 | 0,F,H,r,hr=>by simp[jx]at hr
 | k+1,F,H,r,hr=>by
  simp only[jx]at hr ⊢
  cases u:f F H with
  | none=>rw[u]at hr;simp at hr
  | some q=>
   rw[u]at hr;rw[h F H q u];obtain⟨o,F1,H1⟩:=q
   cases o with
   | norm=>exact Fq h k F1 H1 r hr
   | exit _=>exact hr
   | ret=>exact hr
theorem LP (D:∀f s,X.nm f=some s->N s=f) {lf:Nat}:∀(rc:RC) (code:Code) (F:Frame) (H:bf) (r:Out×Frame×bf),bF X false code=some rc->gj X.E N call lf rc F H=some r->exec X.E call lf false X.nt code F H=some r:=by
 intro rc
 induction rc with
 | skip=>
  intro code F H r hc h;simp only[gj,ζa]at h;subst h
  cases code with
  | skip=>rfl
  | label _=>rfl
  | region id ops u=>simp only[bF]at hc;(repeat' split at hc) <;> first|(simp at hc;done)|(obtain⟨_,_,e⟩:=ζf.1 hc;cases e)
  | _=>simp only[bF]at hc;(repeat' split at hc) <;> first|(simp at hc;done)|(obtain⟨_,_,e⟩:=ζf.1 hc;cases e)|cases hc
 | ops l=>
  intro code F H r hc h
  cases code with
  | region id ops u=>
   simp only[bF]at hc;split at hc
   .split at hc
    .obtain⟨_,_,e⟩:=ζf.1 hc;cases e
    simp at hc
   rename_i hd;obtain⟨T,G,e⟩:=ζf.1 hc;cases e;simp only[gj]at h;obtain⟨⟨F',H'⟩,hv,rfl⟩:=ζf.1 h;simp only[exec,iA,hd];rw[if_neg Zc,EJ D _ G hv];rfl
  | _=>simp only[bF]at hc;(repeat' split at hc) <;> first|(simp at hc;done)|(obtain⟨_,_,e⟩:=ζf.1 hc;cases e)|cases hc
 | qm l=>
  intro code F H r hc h
  cases code with
  | region id ops u=>
   simp only[bF]at hc;split at hc
   .rename_i hd;split at hc
    .rename_i I;obtain⟨T,G,e⟩:=ζf.1 hc;cases e;simp only[gj]at h;split at h
     next U=>obtain⟨⟨F',H'⟩,hv,rfl⟩:=ζf.1 h;have W:pP ops.toList=false:=Bw D _ G U;have:=EO D ops.toList (i:=0) rfl G hv;rw[<-List.range_eq_range']at this;simp only[exec,iA,hd,I,if_true,W,Bool.false_eq_true,if_false,this];rfl
     simp at h
    simp at hc
   obtain⟨_,_,e⟩:=ζf.1 hc;cases e
  | _=>simp only[bF]at hc;(repeat' split at hc) <;> first|(simp at hc;done)|(obtain⟨_,_,e⟩:=ζf.1 hc;cases e)|cases hc
 | seq a b w B=>
  intro code F H r hc h
  cases code with
  | seq J L=>
   simp only[bF]at hc;split at hc
   .rename_i x y C O;cases hc;simp only[gj]at h;simp only[exec]
    cases hva:gj X.E N call lf a F H with
    | none=>rw[hva]at h;simp at h
    | some q=>
     rw[hva]at h;rw[w J F H q C hva];obtain⟨o,F1,H1⟩:=q
     cases o with
     | norm=>exact B L F1 H1 r O h
     | exit _=>exact h
     | ret=>exact h
   simp at hc
  | region id ops u=>simp only[bF]at hc;(repeat' split at hc) <;> first|(simp at hc;done)|(obtain⟨_,_,e⟩:=ζf.1 hc;cases e)
  | _=>simp only[bF]at hc;(repeat' split at hc) <;> first|(simp at hc;done)|(obtain⟨_,_,e⟩:=ζf.1 hc;cases e)|cases hc
 | cond x a b w B=>
  intro code F H r hc h
  cases code with
  | cond c J L=>
   simp only[bF]at hc;split at hc
   .rename_i x' y z C O Y;cases hc;simp only[gj]at h;simp only[exec,G8 (F:=F) D C];split at h
    .rename_i t Z;rw[Z]
     cases t with
     | true=>simp only[if_true]at h ⊢;exact w J F H r O h
     | false=>simp only[Bool.false_eq_true,if_false]at h ⊢;exact B L F H r Y h
    simp at h
   simp at hc
  | region id ops u=>simp only[bF]at hc;(repeat' split at hc) <;> first|(simp at hc;done)|(obtain⟨_,_,e⟩:=ζf.1 hc;cases e)
  | _=>simp only[bF]at hc;(repeat' split at hc) <;> first|(simp at hc;done)|(obtain⟨_,_,e⟩:=ζf.1 hc;cases e)|cases hc
 | block id c Q=>
  intro code F H r hc h
  cases code with
  | block S c'=>
   simp only[bF]at hc;obtain⟨x,C,e⟩:=ζf.1 hc;cases e;simp only[gj]at h;simp only[exec]
   cases hva:gj X.E N call lf c F H with
   | none=>rw[hva]at h;simp at h
   | some q=>
    rw[hva]at h;rw[Q c' F H q C hva];exact h
  | region id ops u=>simp only[bF]at hc;(repeat' split at hc) <;> first|(simp at hc;done)|(obtain⟨_,_,e⟩:=ζf.1 hc;cases e)
  | _=>simp only[bF]at hc;(repeat' split at hc) <;> first|(simp at hc;done)|(obtain⟨_,_,e⟩:=ζf.1 hc;cases e)|cases hc
 | loop c Q=>
  intro code F H r hc h
  cases code with
  | loop c'=>
   simp only[bF]at hc;obtain⟨x,C,e⟩:=ζf.1 hc;cases e;simp only[gj]at h;simp only[exec];exact Fq (λF H r hr=>Q c' F H r C hr) lf F H r h
  | region id ops u=>simp only[bF]at hc;(repeat' split at hc) <;> first|(simp at hc;done)|(obtain⟨_,_,e⟩:=ζf.1 hc;cases e)
  | _=>simp only[bF]at hc;(repeat' split at hc) <;> first|(simp at hc;done)|(obtain⟨_,_,e⟩:=ζf.1 hc;cases e)|cases hc
 | exit id=>
  intro code F H r hc h
  cases code with
  | exit S=>simp only[bF,ζa,RC.exit.injEq]at hc;subst hc;exact h
  | region id ops u=>simp only[bF]at hc;(repeat' split at hc) <;> first|(simp at hc;done)|(obtain⟨_,_,e⟩:=ζf.1 hc;cases e)
  | _=>simp only[bF]at hc;(repeat' split at hc) <;> first|(simp at hc;done)|(obtain⟨_,_,e⟩:=ζf.1 hc;cases e)|cases hc
 | ret=>
  intro code F H r hc h
  cases code with
  | ret=>exact h
  | region id ops u=>simp only[bF]at hc;(repeat' split at hc) <;> first|(simp at hc;done)|(obtain⟨_,_,e⟩:=ζf.1 hc;cases e)
  | _=>simp only[bF]at hc;(repeat' split at hc) <;> first|(simp at hc;done)|(obtain⟨_,_,e⟩:=ζf.1 hc;cases e)|cases hc
 | _=>intro code F H r hc h;simp[gj]at h
end
def Ex (E:Env) (N:Nat->FuncId) (rc:RC) (F:Frame) (H:bf) (o:Out) (F':Frame) (H':bf):Prop:=
 ∃n,∀k,n<=k->gj E N (run E k) k rc F H=some (o,F',H')
def s6 (E:Env) (N:Nat->FuncId) (rc:RC) (F:Frame) (H:bf) (o:Out) (F':Frame) (H':bf):Prop:=
 ∃n,∀k,n<=k->∀u,n<=u->jx (gj E N (run E k) k rc) u F H=some (o,F',H')
section
variable {E:Env} {N:Nat->FuncId} {a b c:RC} {F F1 F':Frame} {H H1 H':bf} {o:Out} {x:Arg} {id:Nat}
theorem Ex.ops {l:List RO} (h:∃n,∀k,n<=k->eC E N (run E k) none l F H=some (F',H')):Ex E N (.ops l) F H .norm F' H':=
 let ⟨n,h⟩:=h;⟨n,λk hk=>by simp only[gj,h k hk,Option.map_some]⟩
theorem Ex.iq {l:List RO} (h:∀call,eC E N call none l F H=some (F',H')):Ex E N (.ops l) F H .norm F' H':=Ex.ops ⟨0,λk _=>h _⟩
theorem Ex.qm {l:List RO} (u:vX l=true) (h:∀call,eC E N call (some H.length) l F H=some (F',H')):Ex E N (.qm l) F H .norm F' H':=
 ⟨0,λk _=>by simp only[gj,u,if_true,h,Option.map_some]⟩
theorem Ex.HX {l:List RO} (u:vX l=true) (h:∃n,∀k,n<=k->eC E N (run E k) (some H.length) l F H=some (F',H')):Ex E N (.qm l) F H .norm F' H':=
 let ⟨n,h⟩:=h;⟨n,λk hk=>by simp only[gj,u,if_true,h k hk,Option.map_some]⟩
theorem Ex.skip:Ex E N .skip F H .norm F H:=⟨0,λ_ _=>rfl⟩
theorem Ex.exit:Ex E N (.exit id) F H (.exit id) F H:=⟨0,λ_ _=>rfl⟩
theorem Ex.ret:Ex E N .ret F H .ret F H:=⟨0,λ_ _=>rfl⟩
theorem Ex.seq (h1:Ex E N a F H .norm F1 H1) (u:Ex E N b F1 H1 o F' H'):Ex E N (.seq a b) F H o F' H':=by
 obtain⟨n,h1⟩:=h1;obtain⟨m,u⟩:=u;exact⟨max n m,λk hk=>by simp only[gj,h1 k Za];exact u k Za⟩
theorem Ex.Cd (h1:Ex E N a F H o F' H') (u:o≠.norm):Ex E N (.seq a b) F H o F' H':=by
 obtain⟨n,h1⟩:=h1;refine⟨n,λk hk=>?_⟩
 simp only[gj,h1 k hk];cases o <;> first|exact absurd rfl u|rfl
theorem Ex.uM (u:bV N F x=.bool true) (h:Ex E N a F H o F' H'):Ex E N (.cond x a b) F H o F' H':=by
 obtain⟨n,h⟩:=h;exact⟨n,λk hk=>by simp only[gj,u,if_true,h k hk]⟩
theorem Ex.BR (u:bV N F x=.bool false) (h:Ex E N b F H o F' H'):Ex E N (.cond x a b) F H o F' H':=by
 obtain⟨n,h⟩:=h;exact⟨n,λk hk=>by simp only[gj,u,Bool.false_eq_true,if_false,h k hk]⟩
theorem Ex.block (h:Ex E N c F H .norm F' H'):Ex E N (.block id c) F H .norm F' H':=by
 obtain⟨n,h⟩:=h;exact⟨n,λk hk=>by simp only[gj,h k hk]⟩
theorem Ex.J9 (h:Ex E N c F H (.exit id) F' H'):Ex E N (.block id c) F H .norm F' H':=by
 obtain⟨n,h⟩:=h;exact⟨n,λk hk=>by simp only[gj,h k hk,if_true]⟩
theorem Ex.KC (h:Ex E N c F H .ret F' H'):Ex E N (.block id c) F H .ret F' H':=by
 obtain⟨n,h⟩:=h;exact⟨n,λk hk=>by simp only[gj,h k hk]⟩
theorem Ex.loop (h:s6 E N c F H o F' H'):Ex E N (.loop c) F H o F' H':=by
 obtain⟨n,h⟩:=h;exact⟨n,λk hk=>h k hk k hk⟩
theorem s6.step (h1:Ex E N c F H .norm F1 H1) (u:s6 E N c F1 H1 o F' H'):s6 E N c F H o F' H':=by
 obtain⟨n,h1⟩:=h1;obtain⟨m,u⟩:=u;refine⟨max n m+1,λk hk w z=>?_⟩
 cases w with
 | zero=>omega
 | succ w=>simp only[jx,h1 k Za];exact u k Za w Za
theorem s6.stop (h1:Ex E N c F H o F' H') (z:o≠.norm):s6 E N c F H o F' H':=by
 obtain⟨n,h1⟩:=h1;refine⟨n+1,λk hk u w=>?_⟩
 cases u with
 | zero=>omega
 | succ u=>
  simp only[jx,h1 k Za]
  cases o <;> first|exact absurd rfl z|rfl
end
theorem Ex.run {E:Env} {nm:FuncId->Option Nat} {N:Nat->FuncId} (u:∀f s,nm f=some s->N s=f) {f:FuncId} {fi:FI} {rc:RC} (z:E.ft f=some fi) (hc:bF ⟨E,nm,fi.ntmps⟩ false fi.body=some rc) {args:List V} (B:args.length<=fi.ntmps) {H H':bf} {F':Frame}
 (h:Ex E N rc args H .ret F' H') {vs:List V} (hr:iO E F' H' fi.results=some vs):∃n,run E n (.fn f) args H=some (result vs,H'):=by
 obtain⟨n,h⟩:=h;refine⟨n+1,?_⟩;have:=LP (X:=⟨E,nm,fi.ntmps⟩) (call:=Go.VE.run E n) u (lf:=n) rc fi.body args H _ hc (h n (Nat.le_refl _));simp only[Go.VE.run,jH,z,if_pos B,this,hr,Option.map_some]
@[simp] theorem ck (F:Frame) (i j:Nat) (v:V):get (set F i v) j=if i=j then v else get F j:=by
 split
 next h=>subst h;exact tH F i v
 rename_i h;exact ig F v h
def refs:List Nat->List (List V)->List (List V)
 | id::ids,r::rs=>[V.hsl id 1 0 r.length]::refs ids rs
 | _,_=>[]
def od (r:List V):List (List V):=r.map λu=>[u]
structure qH (H:bf) (w:V) (o:Nat) (ids:List Nat) (rows:List (List V)):Prop where
 v:w=if rows=[]then .bM else .hsl o 1 0 rows.length
 ob:rows≠[]->H[o]? = some (.row 1 (refs ids rows))
 len:ids.length=rows.length
 r:∀(i id:Nat) (r:List V),ids[i]? = some id->rows[i]? = some r->H[id]? = some (.row 1 (od r))
 nd:ids.Nodup
 ne:rows≠[]->o∉ids
theorem wY:∀{ids:List Nat} {rows:List (List V)},ids.length=rows.length->(refs ids rows).length=rows.length
 | [],[],_=>rfl
 | _::ids,_::rows,h=>by simp only[refs,List.length_cons,wY (ids:=ids) (rows:=rows) (by simpa using h)]
theorem FV:∀{ids:List Nat} {rows:List (List V)} (id:Nat) (r:List V),ids.length=rows.length->refs (ids++[id]) (rows++[r])=refs ids rows++[[V.hsl id 1 0 r.length]]
 | [],[],_,_,_=>rfl
 | _::ids,_::rows,id,r,h=>by simp only[refs,List.cons_append,FV (ids:=ids) (rows:=rows) id r (by simpa using h)]
theorem EL:∀{ids:List Nat} {rows:List (List V)} {i id:Nat} {r:List V},ids[i]? = some id->rows[i]? = some r->(refs ids rows)[i]? = some [V.hsl id 1 0 r.length]
 | [],_,_,_,_,h,_=>by simp at h
 | _::_,[],_,_,_,_,h=>by simp at h
 | a::ids,b::rows,0,id,r,h1,u=>by simp at h1 u;subst h1 u;rfl
 | a::ids,b::rows,i+1,id,r,h1,u=>by simpa [refs]using EL (ids:=ids) (rows:=rows) (i:=i) (by simpa using h1) (by simpa using u)
theorem FD:∀{ids:List Nat} {rows:List (List V)} {i:Nat} {r u:List V},rows[i]? = some r->u.length=r.length->refs ids (rows.set i u)=refs ids rows
 | [],_,_,_,_,_,_=>by simp[refs]
 | _::_,[],_,_,_,_,_=>by simp[refs]
 | a::ids,b::rows,0,r,u,h,z=>by simp at h;subst h;simp only[List.set_cons_zero,refs,z]
 | a::ids,b::rows,i+1,r,u,h,z=>by simp only[List.set_cons_succ,refs,FD (ids:=ids) (rows:=rows) (i:=i) (by simpa using h) z]
section
variable {H H':bf} {v:V} {o:Nat} {ids:List Nat} {rows:List (List V)}
theorem qH.nil (H:bf) (o:Nat):qH H .bM o [] []:=⟨rfl,λh=>absurd rfl h,rfl,λi id r h=>by simp at h,.nil,λh=>absurd rfl h⟩
theorem qH.heap (n:qH H v o ids rows) (u:rows≠[]->H'[o]? = H[o]?) (hi:∀id∈ids,H'[id]? = H[id]?):qH H' v o ids rows:=
 ⟨n.v,λh=>by rw[u h];exact n.ob h,n.len,λi id r h1 w=>by rw[hi id (List.mem_of_getElem? h1)];exact n.r i id r h1 w,n.nd,n.ne⟩
theorem qH.lt (n:qH H v o ids rows):(rows≠[]->o<H.length)/\∀id∈ids,id<H.length:=by
 refine⟨λh=>(ζe.1 (n.ob h)).1,λid u=>?_⟩
 obtain⟨i,hi⟩:=List.getElem?_of_mem u;have w:=(ζe.1 hi).1;have:=n.r i id _ hi (ζd (show i<rows.length from n.len▸w));exact(ζe.1 this).1
theorem qH.more (n:qH H v o ids rows) (X:bf):qH (H++X) v o ids rows:=
 n.heap (λh=>List.getElem?_append_left (n.lt.1 h)) λid u=>List.getElem?_append_left (n.lt.2 id u)
theorem qH.push (n:qH H v o ids rows) (r:List V) (T:rows.length+1<=2147483648) :
 ∃H',fc (H++[.row 1 (od r)]++[.row 1 [[.hsl H.length 1 0 r.length]]]) (.append 1) [v,.hsl (H.length+1) 1 0 1]=some (.hsl (H.length+2) 1 0 (rows.length+1),H') /\
  qH H' (.hsl (H.length+2) 1 0 (rows.length+1)) (H.length+2) (ids++[H.length]) (rows++[r])/\H.length<=H'.length/\(∀id,id<H.length->id≠o\/rows=[]->H'[id]? = H[id]?):=by
 generalize C:H++[.row 1 (od r)]++[.row 1 [[.hsl H.length 1 0 r.length]]]=H2;have u:H2.length=H.length+2:=by subst C;simp
 have z:∀id,id<H.length->H2[id]? = H[id]? := λid h=>by
  subst C;rw[List.append_assoc,List.getElem?_append_left h]
 have h1:H2[H.length]? = some (.row 1 (od r)):=by subst C;simp
 have U:H2[H.length+1]? = some (.row 1 [[.hsl H.length 1 0 r.length]]):=by subst C;simp
 have hv:=n.v;have e2:dH H2 1 (.hsl (H.length+1) 1 0 1)=some [[.hsl H.length 1 0 r.length]]:=by
  simp[dH,U,Ob.rows]
 by_cases hr:rows=[]
 .subst hr;rw[if_pos rfl]at hv;subst hv;have:ids=[]:=List.eq_nil_of_length_eq_zero n.len;subst this;refine⟨H2++[.row 1 [[.hsl H.length 1 0 r.length]]],?_,⟨by simp,λ_=>by rw[<-u];simp[refs],rfl,λi id O hi w=>?_,by simp,λ_=>by simp⟩,by simp[u];omega,λid D _=>?_⟩
  .have e1:dH H2 1 .bM=some []:=rfl;simp only[fc,e1,e2,gq,List.length_nil,List.length_singleton,Option.map_some,u];simp
  .cases i with
   | zero=>
    simp at hi w;subst hi w;rw[List.getElem?_append_left Za];exact h1
   | succ i=>simp at hi
  rw[List.getElem?_append_left Za];exact z id D
 rw[if_neg hr]at hv;subst hv;have Q:=n.ob hr;have I:=n.lt.1 hr;have e1:dH H2 1 (.hsl o 1 0 rows.length)=some (refs ids rows):=by
  simp only[dH,if_true,z o I,Q,ζb,Ob.rows,wY n.len,Nat.zero_add,Nat.le_refl,List.drop_zero];rw[List.take_of_length_le (by rw[wY n.len];exact Nat.le_refl _)]
 have W:gq H2 (.hsl o 1 0 rows.length)=some (H2.set o .dead):=by
  simp only[gq,z o I,Q]
 have B:∀id,id≠o->(H2.set o Ob.dead++[Ob.row 1 (refs ids rows++[[.hsl H.length 1 0 r.length]])])[id]? = if id<H2.length then H2[id]? else(H2.set o Ob.dead++[Ob.row 1 (refs ids rows++[[.hsl H.length 1 0 r.length]])])[id]? := λid G=>by
  split
  next h=>rw[List.getElem?_append_left (by simpa using h),List.getElem?_set_ne (Ne.symm G)]
  rfl
 refine⟨H2.set o .dead++[.row 1 (refs ids rows++[[.hsl H.length 1 0 r.length]])],?_,⟨by simp,λ_=>?_,by simp[n.len],λi id O hi w=>?_,?_,λ_ hm=>?_⟩,by simp[u];omega,λid D G=>?_⟩
 .simp only[fc,e1,e2,W,wY n.len,List.length_singleton,T,if_true,Option.map_some,u]
 .rw[FV _ _ n.len,<-u];simp
 .have J:id≠o:=by
   rcases Nat.lt_or_ge i ids.length with h|h
   .rw[List.getElem?_append_left h]at hi;intro e;subst e;exact n.ne hr (List.mem_of_getElem? hi)
   have:i=ids.length:=by have:=(ζe.1 hi).1;simp at this;omega
   subst this;simp at hi;subst hi;omega
  rcases Nat.lt_or_ge i ids.length with h|h
  .rw[List.getElem?_append_left h]at hi;rw[List.getElem?_append_left (by rw[<-n.len];exact h)]at w
   have L:=n.lt.2 id (List.mem_of_getElem? hi);rw[B id J,if_pos Za,z id L]
   exact n.r i id O hi w
  have:i=ids.length:=by have:=(ζe.1 hi).1;simp at this;omega
  subst this;simp at hi;subst hi;rw[n.len]at w;simp at w;subst w;rw[B _ J,if_pos Za];exact h1
 .rw[List.nodup_append];exact⟨n.nd,by simp,λa X b S=>by simp at S;subst S;exact Nat.ne_of_lt (n.lt.2 a X)⟩
 .rcases List.mem_append.1 hm with hm|hm
  .have:=n.lt.2 _ hm;omega
  simp at hm
 rw[B id (G.resolve_right hr),if_pos Za];exact z id D
end
theorem wk {E:Env} {N:Nat->FuncId} {F:Frame} {H H1:bf} {call:dw} {b:Option Nat} {o:RO} {l:List RO} {v:V} {r:Frame×bf} (hg:o.gd=none) (hv:cK E N call b o.now o.k (o.az.map (bV N F)) H=some (v,H1)) (h:eC E N call b l (bX F o.dst v) H1=some r):eC E N call b (o::l) F H=some r:=by
 simp only[eC,hg,hv];exact h
theorem vp {E:Env} {N:Nat->FuncId} {F:Frame} {H:bf} {call:dw} {b:Option Nat} {o:RO} {l:List RO} {v:V} {r:Frame×bf} (hg:o.gd=none) (hv:cK E N call b o.now o.k (o.az.map (bV N F)) H=some (v,H)) (h:eC E N call b l (bX F o.dst v) H=some r):eC E N call b (o::l) F H=some r:=wk hg hv h
theorem jd {E:Env} {N:Nat->FuncId} {F:Frame} {H:bf} {call:dw} {b:Option Nat}:eC E N call b [] F H=some (F,H):=rfl
theorem QH {n:Nat} (h:n<=2147483648):IntKind.wrap .i64 ((n:Int)+1)=((n+1:Nat):Int):=by
 simp[IntKind.wrap,IntKind.bits,IntKind.signed];omega
theorem R8 {n:Nat} (h:n<=2147483648):IntKind.wrap .i64 (((n+1:Nat):Int)-1)=(n:Int):=by
 simp[IntKind.wrap,IntKind.bits,IntKind.signed];omega
theorem qV (H:bf):H.take H.length=H:=List.take_length
theorem C_ {x:V} (h:x.one=true):x.cells=[x]:=by
 cases x <;> first|rfl|(simp[V.one]at h)
def kept (t:Nat->Bool) (n:Nat):List Nat:=(List.range n).filter λi=>i==0 || !t i
theorem uT (t:Nat->Bool) (n:Nat):kept t (n+1)=kept t n++if n==0 || !t n then [n]else []:=by
 unfold kept;rw[List.range_succ,List.filter_append,List.filter_cons];rfl
theorem OL (t:Nat->Bool):∀n,(kept t n).length<=n:=λn=>by
 unfold kept;exact Nat.le_trans (List.length_filter_le ..) Zc
theorem Au {t:Nat->Bool}:∀n,(∀i,0<i->i<n->t i=false)->kept t n=List.range n
 | 0,_=>rfl
 | n+1,h=>by
  rw[uT,Au n λi h1 u=>h i h1 Za,List.range_succ]
  congr 1
  cases n with
  | zero=>rfl
  | succ n=>rw[h (n+1) Za Za];simp
theorem yf {t:Nat->Bool} {k:Nat} (u:0<k) (hk:t k=true):∀n,k<n->(kept t n).length+1<=n
 | 0,h=>by omega
 | n+1,h=>by
  rw[uT]
  by_cases e:n=k
  .subst e;have:(n==0 || !t n)=false:=by simp[hk];omega
   rw[this];have:=OL t n;simp;omega
  have:=yf u hk n Za
  split <;> simp <;> omega
namespace cmpX
instance {n:Nat}:OfNat Arg n:=⟨.s n⟩
def r1:List RO:=[o1 4 (.k (.bM)) []]
def r2:List RO:=[o1 8 0 [],o2 9 (.p .lenSl) [8] [],o2 10 (.p (.bin (some .int) none .lss)) [9,.k (.int .i64 2)] []]
def r3:List RO:=[o1 11 0 [],o1 4 11 []]
def r4:List RO:=[o1 5 (.k (.int .i64 1)) []]
def r5:List RO:=[o1 12 5 [],o1 13 0 [],o2 14 (.p .lenSl) [13] [],o2 15 (.p (.bin (some .int) none .lss)) [12,14] []]
def on (d:Nat) (k:K) (az:List Arg):RO:=⟨some d,none,true,k,az,[],[]⟩
def r6:List RO:=[o1 18 1 [],o1 19 0 [],o1 20 5 [],o2 21 (.p (.idxS 1)) [19,20] [],o2 22 (.r (.load 1 false)) [21] [],o1 23 0 [],o1 24 5 [],o2 25 (.p (.bin (some .int) none .sub)) [24,.k (.int .i64 1)] [],o2 26 (.p (.idxS 1)) [23,25] [],o2 27 (.r (.load 1 false)) [26] [],on 28 .c [18,22,27]]
def r7:List RO:=[o1 29 0 [],o1 30 5 [],o2 31 (.p (.slice 1 true false)) [29,30] [],o1 6 31 []]
def r8:List RO:=[o1 7 (.k (.int .i64 1)) []]
def r9:List RO:=[o1 32 7 [],o1 33 6 [],o2 34 (.p .lenSl) [33] [],o2 35 (.p (.bin (some .int) none .lss)) [32,34] []]
def N0:List RO:=[o1 38 1 [],o1 39 6 [],o1 40 7 [],o2 41 (.p (.idxS 1)) [39,40] [],o2 42 (.r (.load 1 false)) [41] [],o1 43 6 [],o1 44 7 [],o2 45 (.p (.bin (some .int) none .sub)) [44,.k (.int .i64 1)] [],o2 46 (.p (.idxS 1)) [43,45] [],o2 47 (.r (.load 1 false)) [46] [],on 48 .c [38,42,47],on 49 (.p (.not)) [48]]
def NI:List RO:=[o1 50 0 [],o1 51 5 [],o1 52 6 [],o1 53 7 [],o2 54 (.p (.idxS 1)) [52,53] [],o2 55 (.r (.load 1 false)) [54] [],o2 56 (.p (.idxS 1)) [50,51] [],⟨none,none,false,.l (.store 1),[56,55],[],[]⟩]
def N6:List RO:=[o1 57 5 [],o2 58 (.p (.bin (some .int) none .add)) [57,.k (.int .i64 1)] [],o1 5 58 []]
def Nq:List RO:=[o1 36 7 [],o2 37 (.p (.bin (some .int) none .add)) [36,.k (.int .i64 1)] [],o1 7 37 []]
def Sj:RC:=.seq (.seq (.ops r9) (.cond (.s 35) (.skip) (.exit 2))) (.seq (.block 3 (.seq (.qm N0) (.cond (.s 49) (.seq (.ops NI) (.ops N6)) (.skip)))) (.ops Nq))
def Qn:List RO:=[o1 59 0 [],o1 60 5 [],o2 61 (.p (.slice 1 true false)) [59,60] [],⟨none,none,false,.l (.clear 1 [.bM]),[61],[],[]⟩]
def QG:List RO:=[o1 62 0 [],o1 63 5 [],o2 64 (.p (.slice 1 false true)) [62,63] [],o1 4 64 []]
def Ri:List RO:=[o1 16 5 [],o2 17 (.p (.bin (some .int) none .add)) [16,.k (.int .i64 1)] [],o1 5 17 []]
def NT:RC:=.seq (.seq (.ops r5) (.cond (.s 15) (.skip) (.exit 0))) (.seq (.block 1 (.seq (.qm r6) (.cond (.s 28) (.seq (.ops r7) (.seq (.seq (.ops r8) (.block 2 (.loop Sj))) (.seq (.ops Qn) (.seq (.ops QG) (.ret))))) (.skip)))) (.ops Ri))
def Si:List RO:=[o1 65 0 [],o1 4 65 []]
def code:RC:=.seq (.ops r1) (.seq (.seq (.ops r2) (.cond (.s 10) (.seq (.ops r3) (.ret)) (.skip))) (.seq (.seq (.ops r4) (.block 0 (.loop NT))) (.seq (.ops Si) (.ret))))
section
variable {E:Env} {N:Nat->FuncId} {F:Frame} {H:bf} {call:dw} {id off L k:Nat}
theorem ld {u:List (List V)} {el:Nat} {v:V} (h:H[id]? = some (.row 1 u)) (hv:u[el]? = some [v]):fS H (.load 1 false) [.hptr id el 0]=some v:=by
 simp[fS,dY,h,Ob.rows,hv,cut,mk]
theorem NO {i:Nat} (h:i<L):kK 1 (.hsl id 1 off L) (i:Int)=some (.hptr id (off+i) 0):=by
 unfold kK;rw[if_neg Za];simp[h]
theorem x2 (f0:get F 0=.hsl id 1 off L):∃F',(∀call,eC E N call none r2 F H=some (F',H))/\get F' 10=.bool (decide ((L:Int)<2))/\(∀s,s<8->get F' s=get F s):=by
 refine⟨_,λcall=>vp (v:=.hsl id 1 off L) rfl ?_ <| vp (v:=.int .i64 L) rfl ?_ <| vp (v:=.bool (decide ((L:Int)<2))) rfl ?_ jd,?_,?_⟩
 .simp[cK,bV,bq,f0]
 .simp[cK,bV,bq,bX,o4]
 .simp[cK,bV,bq,bX,j8,qT]
 .simp[bX]
 intro s u;simp only[bX,ck]
 repeat (rw[if_neg Za])
theorem x5 (f0:get F 0=.hsl id 1 off L) (f5:get F 5=.int .i64 k):∃F',(∀call,eC E N call none r5 F H=some (F',H))/\get F' 15=.bool (decide (k<L))/\(∀s,s<8->get F' s=get F s):=by
 refine⟨_,λcall=>vp (v:=.int .i64 k) rfl ?_ <| vp (v:=.hsl id 1 off L) rfl ?_ <| vp (v:=.int .i64 L) rfl ?_ <| vp (v:=.bool (decide (k<L))) rfl ?_ jd,?_,?_⟩
 .simp[cK,bV,bq,f5]
 .simp[cK,bV,bq,bX,f0]
 .simp[cK,bV,bq,bX,o4]
 .simp[cK,bV,bq,bX,j8,qT]
 .simp[bX]
 intro s u;simp only[bX,ck]
 repeat (rw[if_neg Za])
theorem Q4 {g:FuncId} {cb:List V} {u:List (List V)} {o2 L2 i:Nat} {a b:V} {t:Bool} (h:H[id]? = some (.row 1 u)) (hi:i+1<L2) (z:i<=2147483648) (B:u[o2+(i+1)]? = some [a]) (D:u[o2+i]? = some [b]) (hk:E.keep g=false) (f1:get F 1=.clo g [] cb) :
 (get F 0=.hsl id 1 o2 L2->get F 5=.int .i64 ((i+1:Nat):Int)->∃F',(∀call,cm call g (a::b::cb) H=some (.bool t)->eC E N call (some H.length) r6 F H=some (F',H))/\get F' 28=.bool t/\(∀s,s<8->get F' s=get F s)) /\
 (get F 6=.hsl id 1 o2 L2->get F 7=.int .i64 ((i+1:Nat):Int)->∃F',(∀call,cm call g (a::b::cb) H=some (.bool t)->eC E N call (some H.length) N0 F H=some (F',H))/\get F' 49=.bool (!t)/\(∀s,s<8->get F' s=get F s)):=by
 have hd:=R8 z;have e1:=ld h B;have e2:=ld h D;have i1:=NO (id:=id) (off:=o2) (L:=L2) hi;have i2:=NO (id:=id) (off:=o2) (L:=L2) (show i<L2 by omega)
 refine⟨λf0 f5=>⟨_,λcall hc=>vp (v:=.clo g [] cb) rfl ?_ <| vp (v:=.hsl id 1 o2 L2) rfl ?_ <| vp (v:=.int .i64 ((i+1:Nat):Int)) rfl ?_ <| vp (v:=.hptr id (o2+(i+1)) 0) rfl ?_ <| vp (v:=a) rfl ?_ <| vp (v:=.hsl id 1 o2 L2) rfl ?_ <| vp (v:=.int .i64 ((i+1:Nat):Int)) rfl ?_ <|
  vp (v:=.int .i64 (i:Int)) rfl ?_ <| vp (v:=.hptr id (o2+i) 0) rfl ?_ <| vp (v:=b) rfl ?_ <| vp (v:=.bool t) rfl ?_ jd,?_,?_⟩,λf6 f7=>⟨_,λcall hc=>vp (v:=.clo g [] cb) rfl ?_ <| vp (v:=.hsl id 1 o2 L2) rfl ?_ <| vp (v:=.int .i64 ((i+1:Nat):Int)) rfl ?_ <| vp (v:=.hptr id (o2+(i+1)) 0) rfl ?_ <| vp (v:=a) rfl ?_ <| vp (v:=.hsl id 1 o2 L2) rfl ?_ <| vp (v:=.int .i64 ((i+1:Nat):Int)) rfl ?_ <|
  vp (v:=.int .i64 (i:Int)) rfl ?_ <| vp (v:=.hptr id (o2+i) 0) rfl ?_ <| vp (v:=b) rfl ?_ <| vp (v:=.bool t) rfl ?_ <| vp (v:=.bool (!t)) rfl ?_ jd,?_,?_⟩⟩
 .simp[cK,bV,bq,f1]
 .simp[cK,bV,bq,bX,f0]
 .simp only[cK,List.map_cons,List.map_nil,bV,bX,ck,Nat.reduceEqDiff,if_true,if_false,f5,bq];rfl
 .simp only[cK,List.map_cons,List.map_nil,bV,bX,ck,Nat.reduceEqDiff,if_true,if_false,bq];rw[i1];rfl
 .simp only[cK,List.map_cons,List.map_nil,bV,bX,ck,Nat.reduceEqDiff,if_true,if_false,qV];rw[e1];rfl
 .simp[cK,bV,bq,bX,f0]
 .simp only[cK,List.map_cons,List.map_nil,bV,bX,ck,Nat.reduceEqDiff,if_true,if_false,f5,bq];rfl
 .simp only[cK,List.map_cons,List.map_nil,bV,bX,ck,Nat.reduceEqDiff,if_true,if_false,bq,j8,hd];rfl
 .simp only[cK,List.map_cons,List.map_nil,bV,bX,ck,Nat.reduceEqDiff,if_true,if_false,bq];rw[i2];rfl
 .simp only[cK,List.map_cons,List.map_nil,bV,bX,ck,Nat.reduceEqDiff,if_true,if_false,qV];rw[e2];rfl
 .simp only[cK,on,List.map_cons,List.map_nil,bV,bX,ck,Nat.reduceEqDiff,if_true,if_false,qV,hk,Bool.false_eq_true,List.nil_append,List.cons_append,hc,V.scalar]
 .simp[bX,on]
 .intro s w;simp only[bX,on,ck]
  repeat (rw[if_neg Za])
 .simp[cK,bV,bq,f1]
 .simp[cK,bV,bq,bX,f6]
 .simp only[cK,List.map_cons,List.map_nil,bV,bX,ck,Nat.reduceEqDiff,if_true,if_false,f7,bq];rfl
 .simp only[cK,List.map_cons,List.map_nil,bV,bX,ck,Nat.reduceEqDiff,if_true,if_false,bq];rw[i1];rfl
 .simp only[cK,List.map_cons,List.map_nil,bV,bX,ck,Nat.reduceEqDiff,if_true,if_false,qV];rw[e1];rfl
 .simp[cK,bV,bq,bX,f6]
 .simp only[cK,List.map_cons,List.map_nil,bV,bX,ck,Nat.reduceEqDiff,if_true,if_false,f7,bq];rfl
 .simp only[cK,List.map_cons,List.map_nil,bV,bX,ck,Nat.reduceEqDiff,if_true,if_false,bq,j8,hd];rfl
 .simp only[cK,List.map_cons,List.map_nil,bV,bX,ck,Nat.reduceEqDiff,if_true,if_false,bq];rw[i2];rfl
 .simp only[cK,List.map_cons,List.map_nil,bV,bX,ck,Nat.reduceEqDiff,if_true,if_false,qV];rw[e2];rfl
 .simp only[cK,on,List.map_cons,List.map_nil,bV,bX,ck,Nat.reduceEqDiff,if_true,if_false,qV,hk,Bool.false_eq_true,List.nil_append,List.cons_append,hc,V.scalar]
 .simp[cK,on,bV,bq,bX]
 .simp[bX,on]
 intro s w;simp only[bX,on,ck]
 repeat (rw[if_neg Za])
end
end cmpX
namespace cmpX
section
variable {E:Env} {N:Nat->FuncId} {F:Frame} {H:bf} {call:dw} {id off L k:Nat}
theorem x7 (f0:get F 0=.hsl id 1 off L) (f5:get F 5=.int .i64 k) (hk:k<=L):∃F',(∀call,eC E N call none r7 F H=some (F',H))/\get F' 6=.hsl id 1 (off+k) (L-k)/\(∀s,s<8->s≠6->get F' s=get F s):=by
 have e:gL 1 (.hsl id 1 off L) (some k) none=some (.hsl id 1 (off+k) (L-k)):=by
  unfold gL dM
  grind
 refine⟨_,λcall=>vp (v:=.hsl id 1 off L) rfl ?_ <| vp (v:=.int .i64 k) rfl ?_ <| vp (v:=.hsl id 1 (off+k) (L-k)) rfl ?_ <| vp (v:=.hsl id 1 (off+k) (L-k)) rfl ?_ jd,?_,?_⟩
 .simp[cK,bV,bq,f0]
 .simp[cK,bV,bq,bX,f5]
 .simp[cK,bV,bX,ck,bq,lI,e]
 .simp[cK,bV,bq,bX]
 .simp[bX]
 simp[bX,ck]
 grind
theorem x9 {o2 L2 m:Nat} (f6:get F 6=.hsl id 1 o2 L2) (f7:get F 7=.int .i64 m):∃F',(∀call,eC E N call none r9 F H=some (F',H))/\get F' 35=.bool (decide (m<L2))/\(∀s,s<8->get F' s=get F s):=by
 refine⟨_,λcall=>vp (v:=.int .i64 m) rfl ?_ <| vp (v:=.hsl id 1 o2 L2) rfl ?_ <| vp (v:=.int .i64 L2) rfl ?_ <| vp (v:=.bool (decide (m<L2))) rfl ?_ jd,?_,?_⟩
 .simp[cK,bV,bq,f7]
 .simp[cK,bV,bq,bX,f6]
 .simp[cK,bV,bq,bX,o4]
 .simp[cK,bV,bq,bX,j8,qT]
 .simp[bX]
 simp[bX,ck]
 grind
theorem Tq {u:List (List V)} {o2 L2 m p:Nat} {a z:V} (h:H[id]? = some (.row 1 u)) (f0:get F 0=.hsl id 1 off L) (f5:get F 5=.int .i64 p) (f6:get F 6=.hsl id 1 o2 L2) (f7:get F 7=.int .i64 m) (B:m<L2) (hp:p<L)
 (D:u[o2+m]? = some [a]) (G:u[off+p]? = some [z]) (h1:a.one=true) :
 ∃F',(∀call,eC E N call none NI F H=some (F',H.set id (.row 1 (u.set (off+p) [a]))))/\(∀s,s<8->get F' s=get F s):=by
 have i1:=NO (id:=id) (off:=o2)  B;have i2:=NO (id:=id) (off:=off)  hp;have e1:=ld h D;have w:fc H (.store 1) [.hptr id (off+p) 0,a]=some (.undef,H.set id (.row 1 (u.set (off+p) [a]))):=by
  simp[fc,h,G,C_ h1,h1]
 refine⟨_,λcall=>vp (v:=.hsl id 1 off L) rfl ?_ <| vp (v:=.int .i64 p) rfl ?_ <| vp (v:=.hsl id 1 o2 L2) rfl ?_ <| vp (v:=.int .i64 m) rfl ?_ <| vp (v:=.hptr id (o2+m) 0) rfl ?_ <| vp (v:=a) rfl ?_ <| vp (v:=.hptr id (off+p) 0) rfl ?_ <| wk (v:=.undef)  rfl ?_ jd,?_⟩
 .simp[cK,bV,bq,f0]
 .simp[cK,bV,bq,bX,f5]
 .simp[cK,bV,bq,bX,f6]
 .simp[cK,bV,bq,bX,f7]
 .simp[cK,bV,bX,ck,bq];grind
 .simp[cK,bV,bX,ck];grind
 .simp[cK,bV,bX,ck,bq];grind
 .simp[cK,bV,bX,ck];omega
 simp[bX,ck]
 grind
theorem Ic {p:Nat} (hp:p<=2147483648):(get F 5=.int .i64 p->∃F',(∀call,eC E N call none N6 F H=some (F',H))/\get F' 5=.int .i64 ((p+1:Nat):Int)/\(∀s,s<8->s≠5->get F' s=get F s)) /\
 (get F 7=.int .i64 p->∃F',(∀call,eC E N call none Nq F H=some (F',H))/\get F' 7=.int .i64 ((p+1:Nat):Int)/\(∀s,s<8->s≠7->get F' s=get F s)) /\
 (get F 5=.int .i64 p->∃F',(∀call,eC E N call none Ri F H=some (F',H))/\get F' 5=.int .i64 ((p+1:Nat):Int)/\(∀s,s<8->s≠5->get F' s=get F s)):=by
 have u:=QH hp;refine⟨λf=>⟨_,λcall=>vp (v:=.int .i64 p) rfl ?_ <| vp (v:=.int .i64 (p+1:Nat)) rfl ?_ <| vp (v:=.int .i64 (p+1:Nat)) rfl ?_ jd,?_,?_⟩,
  λf=>⟨_,λcall=>vp (v:=.int .i64 p) rfl ?_ <| vp (v:=.int .i64 (p+1:Nat)) rfl ?_ <| vp (v:=.int .i64 (p+1:Nat)) rfl ?_ jd,?_,?_⟩,
  λf=>⟨_,λcall=>vp (v:=.int .i64 p) rfl ?_ <| vp (v:=.int .i64 (p+1:Nat)) rfl ?_ <| vp (v:=.int .i64 (p+1:Nat)) rfl ?_ jd,?_,?_⟩⟩ <;>
 first
 | (simp[cK,bV,bq,f];done)
 | (simp only[cK,List.map_cons,List.map_nil,bV,bX,ck,if_true,bq,j8,u];rfl)
 | grind
 | (simp[bX];done)
 | (simp[bX,ck];grind)
theorem Td {u:List (List V)} {p:Nat} (h:H[id]? = some (.row 1 u)) (f0:get F 0=.hsl id 1 off L) (f5:get F 5=.int .i64 p) (hp:p<L) (z:off+L<=u.length) :
 ∃F',(∀call,eC E N call none Qn F H=some (F',H.set id (.row 1 (u.take (off+p)++List.replicate (L-p) [.bM]++u.drop (off+L)))))/\(∀s,s<8->get F' s=get F s):=by
 have e:gL 1 (.hsl id 1 off L) (some p) none=some (.hsl id 1 (off+p) (L-p)):=by
  unfold gL dM
  grind
 obtain⟨q,w⟩:∃q,L-p=q+1:=⟨L-p-1,by omega⟩
 have hc:fc H (.clear 1 [.bM]) [.hsl id 1 (off+p) (L-p)]=some (.undef,H.set id (.row 1 (u.take (off+p)++List.replicate (L-p) [.bM]++u.drop (off+L)))):=by
  simp[fc,BD,w,h]
  grind
 refine⟨_,λcall=>vp (v:=.hsl id 1 off L) rfl ?_ <| vp (v:=.int .i64 p) rfl ?_ <| vp (v:=.hsl id 1 (off+p) (L-p)) rfl ?_ <| wk (v:=.undef)  rfl ?_ jd,?_⟩
 .simp[cK,bV,bq,f0]
 .simp[cK,bV,bq,bX,f5]
 .simp[cK,bV,bX,ck,bq,lI,e]
 .simp only[cK,List.map_cons,List.map_nil,bV,bX,ck,if_true];omega
 simp[bX,ck]
 grind
theorem Tj {p:Nat} (f0:get F 0=.hsl id 1 off L) (f5:get F 5=.int .i64 p) (hp:p<=L):∃F',(∀call,eC E N call none QG F H=some (F',H))/\get F' 4=.hsl id 1 off p:=by
 have e:gL 1 (.hsl id 1 off L) none (some p)=some (.hsl id 1 off p):=by
  unfold gL dM
  grind
 refine⟨_,λcall=>vp (v:=.hsl id 1 off L) rfl ?_ <| vp (v:=.int .i64 p) rfl ?_ <| vp (v:=.hsl id 1 off p) rfl ?_ <| vp (v:=.hsl id 1 off p) rfl ?_ jd,?_⟩
 .simp[cK,bV,bq,f0]
 .simp[cK,bV,bq,bX,f5]
 .simp[cK,bV,bX,ck,bq,lI,e]
 .simp[cK,bV,bq,bX]
 simp[bX]
theorem Ti:∃F',(∀call,eC E N call none Si F H=some (F',H))/\get F' 4=get F 0:=
 ⟨_,λcall=>vp (v:=get F 0) rfl (by simp[cK,bV,bq]) <| vp (v:=get F 0) rfl (by simp[cK,bV,bq,bX]) jd,by simp[bX]⟩
theorem QU:∃F',(∀call,eC E N call none r3 F H=some (F',H))/\get F' 4=get F 0:=
 ⟨_,λcall=>vp (v:=get F 0) rfl (by simp[cK,bV,bq]) <| vp (v:=get F 0) rfl (by simp[cK,bV,bq,bX]) jd,by simp[bX]⟩
end
structure HC (E:Env) (g:FuncId) (cb:List V) (H:bf) (id off L:Nat) (rs:List (List V)) (A:Nat->V) (t:Nat->Bool):Prop where
 row:H[id]? = some (.row 1 rs)
 len:off+L<=rs.length
 small:L<=2147483648
 at_:∀i,i<L->rs[off+i]? = some [A i]
 one:∀i,i<L->(A i).one=true
 keep:E.keep g=false
 cmp:∃n,∀k,n<=k->∀i,i+1<L->∀cur,cm (run E k) g (A (i+1)::A i::cb) (H.set id (.row 1 cur))=some (.bool (t (i+1)))
structure Head (g:FuncId) (cb:List V) (id off L kk m:Nat) (rs:List (List V)) (A:Nat->V) (t:Nat->Bool) (F:Frame) (cur:List (List V)):Prop where
 f0:get F 0=.hsl id 1 off L
 f1:get F 1=.clo g [] cb
 f5:get F 5=.int .i64 ((kept t (kk+m)).length:Nat)
 f6:get F 6=.hsl id 1 (off+kk) (L-kk)
 f7:get F 7=.int .i64 m
 len:cur.length=rs.length
 pre:∀p i,(kept t (kk+m))[p]? = some i->cur[off+p]? = some [A i]
 post:∀i,kk+m<=i+1->i<L->cur[off+i]? = some [A i]
 out:∀j,j<off\/off+L<=j->cur[j]? = rs[j]?
 cell:∀i,i<L->∃j,j<L/\cur[off+i]? = some [A j]
section
variable {E:Env} {N:Nat->FuncId} {g:FuncId} {cb:List V} {H:bf} {id off L kk:Nat} {rs:List (List V)} {A:Nat->V} {t:Nat->Bool}
theorem RQ (X:HC E g cb H id off L rs A t) (aa:0<kk) (ah:kk<L) (ht:t kk=true):∀(d m:Nat) (F:Frame) (u:List (List V)),kk+m+d=L->0<m->Head g cb id off L kk m rs A t F u ->
 ∃F' z,s6 E N Sj F (H.set id (.row 1 u)) (.exit 2) F' (H.set id (.row 1 z))/\Head g cb id off L kk (L-kk) rs A t F' z:=by
 have O:=(ζe.1 X.row).1;have G:∀u,(H.set id (.row 1 u))[id]? = some (.row 1 u):=λu=>List.getElem?_set_self O
 have ai:=X.small;have af:=X.len;intro d
 induction d with
 | zero=>
  intro m F u he hm h;have em:m=L-kk:=by omega
  subst em;obtain⟨F1,e1,e2,e3⟩:=x9    h.f6 h.f7;refine⟨F1,u,s6.stop (Ex.Cd (Ex.seq (Ex.iq e1) (Ex.BR (by simp[bV,e2]) Ex.exit)) Zc) Zc,?_⟩
  exact⟨by rw[e3 0 Za];exact h.f0,by rw[e3 1 Za];exact h.f1,by rw[e3 5 Za];exact h.f5,by rw[e3 6 Za];exact h.f6,by rw[e3 7 Za];exact h.f7,h.len,h.pre,h.post,h.out,h.cell⟩
 | succ d ih=>
  intro m F u he hm h;obtain⟨F1,a1,a2,a3⟩:=x9    h.f6 h.f7;have T:bV N F1 35=.bool true:=by
   show get F1 35=_;rw[a2,decide_eq_true Za]
  obtain⟨m',rfl⟩:∃m',m=m'+1:=⟨m-1,by omega⟩
  obtain⟨n0,ab⟩:=X.cmp;have c1:u[off+kk+(m'+1)]? = some [A (kk+m'+1)]:=by
   have:=h.post (kk+m'+1) Za Za;grind
  have c2:u[off+kk+m']? = some [A (kk+m')]:=by
   have:=h.post (kk+m') Za Za;grind
  obtain⟨F2,b1,b2,b3⟩:=(Q4      (L2:=L-kk)  (G u) Za Za c1 c2 X.keep (by rw[a3 1 Za];exact h.f1)).2 (by rw[a3 6 Za];exact h.f6) (by rw[a3 7 Za];exact h.f7)
  have U:∃n,∀k,n<=k->eC E N (run E k) (some (H.set id (.row 1 u)).length) N0 F1 (H.set id (.row 1 u))=some (F2,H.set id (.row 1 u)):=⟨n0,λk hk=>b1 _ (ab k hk (kk+m') Za u)⟩
  have B  := λs hs=>(b3 s hs).trans (a3 s hs)
  have ad:(kept t (kk+(m'+1))).length+1<=kk+(m'+1):=yf aa ht _ Za
  have w:kept t (kk+(m'+1)+1)=kept t (kk+(m'+1))++if t (kk+m'+1)then []else [kk+m'+1]:=by
   rw[uT]
   grind
  have C:kk+(m'+1+1)=kk+(m'+1)+1:=by omega
  cases W:t (kk+m'+1)with
  | true=>
   rw[W]at b2 w;simp  at w;obtain⟨F3,Y,q2,Q⟩:=(Ic     (p:=m'+1) Za).2.1 (by rw[B 7 Za];exact h.f7)
   obtain⟨F',z,i1,i2⟩:=ih (m'+1+1) F3 u Za Za ⟨by rw[Q 0 Za Za,B 0 Za];exact h.f0,by rw[Q 1 Za Za,B 1 Za];exact h.f1,
    by rw[Q 5 Za Za,B 5 Za,C,w];exact h.f5,by rw[Q 6 Za Za,B 6 Za];exact h.f6,q2,h.len,by rw[C,w];exact h.pre,λi h1 Z=>h.post i Za Z,h.out,h.cell⟩
   exact⟨F',z,s6.step (Ex.seq (Ex.seq (Ex.iq a1) (Ex.uM T Ex.skip)) (Ex.seq (Ex.block (Ex.seq (Ex.HX (by decide) U) (Ex.BR (by simp[bV,b2]) Ex.skip))) (Ex.iq Y))) i1,i2⟩
  | false=>
   rw[W]at b2 w;generalize hK:(kept t (kk+(m'+1))).length=K at *;obtain⟨_,_,hz⟩:=h.cell K Za
   obtain⟨F3,Y,q2⟩:=Tq           (G u) (by rw[B 0 Za];exact h.f0) (by rw[B 5 Za,h.f5,hK]) (by rw[B 6 Za];exact h.f6) (by rw[B 7 Za];exact h.f7) Za Za c1 hz (X.one _ Za)
   rw[List.set_set]at Y;generalize I:u.set (off+K) [A (kk+m'+1)]=J at Y;have hg:∀j,J[j]? = if j=off+K then some [A (kk+m'+1)]else u[j]? := λj=>by
    rw[<-I,List.getElem?_set]
    by_cases e:off+K=j
    .rw[if_pos e,if_pos e.symm,if_pos (by rw[h.len];omega)]
    rw[if_neg e,if_neg (Ne.symm e)]
   obtain⟨F4,Q,q4,q5⟩:=(Ic     (p:=K) Za).1 (by rw[q2 5 Za,B 5 Za,h.f5,hK])
   have D:∀s,s<8->s≠5->get F4 s=get F s:=λs h1 Z=>by rw[q5 s h1 Z,q2 s h1,B s h1]
   obtain⟨F5,q6,q7,q8⟩:=(Ic     (p:=m'+1) Za).2.1 (by rw[D 7 Za Za];exact h.f7)
   obtain⟨F',z,i1,i2⟩:=ih (m'+1+1) F5 J Za Za ⟨by rw[q8 0 Za Za,D 0 Za Za];exact h.f0,by rw[q8 1 Za Za,D 1 Za Za];exact h.f1,
    by rw[q8 5 Za Za,q4,C,w,ζi,hK];rfl,by rw[q8 6 Za Za,D 6 Za Za];exact h.f6,q7,by rw[<-I,List.length_set];exact h.len,
    λp i S=>by
     rw[C,w]at S;rw[hg]
     by_cases e:p=K
     .subst e;rw[<-hK,List.getElem?_append_right (Nat.le_refl _),Nat.sub_self]at S;cases S;rw[if_pos rfl]
     have ae:p<(kept t (kk+(m'+1))).length:=by
      have:=(ζe.1 S).1;simp at this;omega
     rw[List.getElem?_append_left ae]at S;rw[if_neg Za];exact h.pre p i S,
    λi h1 Z=>by rw[hg,if_neg Za];exact h.post i Za Z,λj hj=>by rw[hg,if_neg Za];exact h.out j hj,
    λi hi=>by
     rw[hg]
     by_cases e:off+i=off+K
     .rw[if_pos e];exact⟨_,by omega,rfl⟩
     rw[if_neg e];exact h.cell i hi⟩
   exact⟨F',z,s6.step (Ex.seq (Ex.seq (Ex.iq a1) (Ex.uM T Ex.skip)) (Ex.seq (Ex.block (Ex.seq (Ex.HX (by decide) U) (Ex.uM (by simp[bV,b2]) (Ex.seq (Ex.iq Y) (Ex.iq Q))))) (Ex.iq q6))) i1,i2⟩
structure LM (off L:Nat) (rs:List (List V)) (A:Nat->V) (t:Nat->Bool) (rs':List (List V)):Prop where
 len:rs'.length=rs.length
 pre:∀p i,(kept t L)[p]? = some i->rs'[off+p]? = some [A i]
 all:∀c∈rs',c∈rs\/c=[.bM]
theorem RM (X:HC E g cb H id off L rs A t):∀(d k:Nat) (F:Frame),k+d=L->0<k->(∀i,0<i->i<k->t i=false)->get F 0=.hsl id 1 off L->get F 1=.clo g [] cb->get F 5=.int .i64 k ->
 (∃F',s6 E N NT F H (.exit 0) F' H/\get F' 0=.hsl id 1 off L/\∀i,0<i->i<L->t i=false) \/
 (∃F' D,s6 E N NT F H .ret F' (H.set id (.row 1 D))/\get F' 4=.hsl id 1 off (kept t L).length/\LM off L rs A t D):=by
 have Q:=(ζe.1 X.row).1;have S  := xu X.row;have ah:=X.small;have af:=X.len;intro d
 induction d with
 | zero=>
  intro k F he hk hp f0 f1 f5;have ek:k=L:=by omega
  subst ek;obtain⟨F1,e1,e2,e3⟩:=x5  (N:=N)  f0 f5;exact .inl ⟨F1,s6.stop (Ex.Cd (Ex.seq (Ex.iq e1) (Ex.BR (by simp[bV,e2]) Ex.exit)) Zc) Zc,by grind,hp⟩
 | succ d ih=>
  intro k F he hk hp f0 f1 f5;obtain⟨F1,a1,a2,a3⟩:=x5    f0 f5;have U:bV N F1 15=.bool true:=by
   show get F1 15=_;rw[a2,decide_eq_true Za]
  obtain⟨u,rfl⟩:∃u,k=u+1:=⟨k-1,by omega⟩
  obtain⟨n0,ai⟩:=X.cmp;obtain⟨F2,b1,b2,b3⟩:=(Q4  (N:=N) (cb:=cb) (g:=g) (i:=u) (L2:=L) (t:=t (u+1)) X.row Za Za (X.at_ _ Za) (X.at_ _ Za) X.keep (by rw[a3 1 Za];omega)).1 Zd Zd
  have W:∃n,∀k,n<=k->eC E N (run E k) (some H.length) r6 F1 H=some (F2,H):=⟨n0,λk hk=>b1 _ (by
   grind)⟩
  have Y  := λs hs=>(b3 s hs).trans (a3 s hs)
  cases w:t (u+1)with
  | false=>
   rw[w]at b2;obtain⟨T,q1,q2,q3⟩:=(Ic (E:=E)  (F:=F2)  (p:=u+1) Za).2.2 Zd
   have z:Ex E N NT F H .norm T H:=Ex.seq (Ex.seq (Ex.iq a1) (Ex.uM U Ex.skip)) (Ex.seq (Ex.block (Ex.seq (Ex.HX (by decide) W) (Ex.BR (by simp[bV,b2]) Ex.skip))) (Ex.iq q1))
   rcases ih (u+1+1) T Za Za (λi h1 Z=>by
    grind) Zd (by simp_all) q2 with⟨F',i1,i2⟩|⟨F',D,i1,i2⟩
   .exact .inl ⟨F',s6.step z i1,i2⟩
   exact .inr ⟨F',D,s6.step z i1,i2⟩
  | true=>
   rw[w]at b2;refine .inr ?_;obtain⟨T,q1,q2,q3⟩:=x7 (E:=E) (N:=N)  (H:=H) (k:=u+1) (by rw[Y 0 Za];exact f0) (by rw[Y 5 Za];exact f5) Za
   have G:kept t (u+1)=List.range (u+1):=Au _ hp;have aa:kept t (u+1+1)=List.range (u+1):=by
    rw[uT,G,w];simp
   have q4:∀call,eC E N call none r8 T H=some (set T 7 (.int .i64 1),H):=λcall=>vp  rfl (by simp[cK,bV,bq]) jd
   have h0:Head g cb id off L (u+1) 1 rs A t (set T 7 (.int .i64 1)) rs:=⟨by rw[ig _ _ Za,q3 0 Za Za,Y 0 Za];exact f0,by rw[ig _ _ Za,q3 1 Za Za,Y 1 Za];exact f1,
    by rw[ig _ _ Za,q3 5 Za Za,Y 5 Za,aa,List.length_range];exact f5,by rw[ig _ _ Za];exact q2,by rw[tH];rfl,rfl,
    λp i B=>by
     rw[aa]at B;obtain⟨h1,Z⟩:=ζe.1 B;simp at h1 Z;subst Z;exact X.at_ p Za,λi _ Z=>X.at_ i Z,λ_ _=>rfl,λi hi=>⟨i,hi,X.at_ i hi⟩⟩
   obtain⟨F5,C,l1,I⟩:=RQ (N:=N) X Za Za w (L-(u+1)-1) 1 _ rs Za Za h0
   rw[S]at l1;have eL:u+1+(L-(u+1))=L:=by omega
   have ae:=yf (t:=t) (k:=u+1) Za w L Za
   have l5:=I.f5;have J:=I.pre;rw[eL]at l5 J;generalize hK:(kept t L).length=K at *;have ab:(H.set id (.row 1 C))[id]? = some (.row 1 C):=List.getElem?_set_self Q;obtain⟨F6,w1,w2⟩:=Td (E:=E) (N:=N) (p:=K) ab I.f0 l5 Za (by rw[I.len];omega)
   rw[List.set_set]at w1;obtain⟨F7,w3,w4⟩:=Tj (E:=E)     (by rw[w2 0 Za];exact I.f0) (by rw[w2 5 Za];exact l5) Za
   have aj:=I.len;refine⟨F7,C.take (off+K)++List.replicate (L-K) [.bM]++C.drop (off+L),s6.stop (Ex.seq (Ex.seq (Ex.iq a1) (Ex.uM U Ex.skip)) (Ex.Cd (Ex.KC (Ex.seq (Ex.HX (by decide) W) (Ex.uM (by simp[bV,b2]) (Ex.seq (Ex.iq q1) (Ex.seq (Ex.seq (Ex.iq q4) (Ex.J9 (Ex.loop l1))) (Ex.seq (Ex.iq w1) (Ex.seq (Ex.iq w3) Ex.ret))))))) Zc)) Zc,w4,?_,λp i B=>?_,λc hc=>?_⟩
   .simp;omega
   .have ak:p<K:=by rw[<-hK];exact(ζe.1 B).1
    rw[List.append_assoc,List.getElem?_append_left (by simp;omega),List.getElem?_take,if_pos Za]
    exact J p i B
   have ad:∀j x,C[j]? = some x->x∈rs:=λj x O=>by
    by_cases ho:j<off\/off+L<=j
    .rw[I.out j ho]at O;exact List.mem_of_getElem? O
    obtain⟨i,rfl⟩:∃i,j=off+i:=⟨j-off,by omega⟩
    obtain⟨q,hq,hc⟩:=I.cell i Za
    rw[hc]at O;cases O;exact List.mem_of_getElem? (X.at_ q hq)
   rcases List.mem_append.1 hc with hc|hc
   .rcases List.mem_append.1 hc with hc|hc
    .obtain⟨j,O⟩:=List.getElem?_of_mem (List.mem_of_mem_take hc);exact .inl (ad j c O)
    exact .inr (List.eq_of_mem_replicate hc)
   obtain⟨j,O⟩:=List.getElem?_of_mem (List.mem_of_mem_drop hc);exact .inl (ad j c O)
end
end cmpX
namespace cmpX
section
variable {E:Env} {N:Nat->FuncId} {g:FuncId} {cb:List V} {H:bf} {id off L:Nat} {rs:List (List V)} {A:Nat->V} {t:Nat->Bool}
theorem whole (X:HC E g cb H id off L rs A t):∃F' z,Ex E N code [.hsl id 1 off L,.clo g [] cb] H .ret F' (H.set id (.row 1 z))/\get F' 4=.hsl id 1 off (kept t L).length/\LM off L rs A t z:=by
 have u:H.set id (.row 1 rs)=H:=xu X.row;have same:(∀i,0<i->i<L->t i=false)->(kept t L).length=L/\LM off L rs A t rs:=λh=>by
  have hk:=Au L h;rw[hk,List.length_range];exact⟨rfl,rfl,λp i Q=>by
   rw[hk]at Q;obtain⟨h1,w⟩:=ζe.1 Q;simp at h1 w;subst w;exact X.at_ p h1,λc hc=>.inl hc⟩
 have g1:∀call,eC E N call none r1 [.hsl id 1 off L,.clo g [] cb] H=some (set [.hsl id 1 off L,.clo g [] cb] 4 .bM,H):=λcall=>vp (v:=.bM) rfl (by simp[cK,bV,bq]) jd
 have k0:get (set [V.hsl id 1 off L,.clo g [] cb] 4 .bM) 0=.hsl id 1 off L:=rfl;have k1:get (set [V.hsl id 1 off L,.clo g [] cb] 4 .bM) 1=.clo g [] cb:=rfl;generalize set [V.hsl id 1 off L,.clo g [] cb] 4 .bM=U at *;obtain⟨F1,S,T,B⟩:=x2 (E:=E) (N:=N) (H:=H) k0
 by_cases W:L<2
 .obtain⟨C,D,G⟩:=QU (E:=E) (N:=N) (F:=F1) (H:=H);obtain⟨e1,e2⟩:=same λi h1 w=>by omega
  refine⟨C,rs,?_,by rw[e1,G,B 0 Za];exact k0,e2⟩
  rw[u];exact Ex.seq (Ex.iq g1) (Ex.Cd (Ex.seq (Ex.iq S) (Ex.uM (by show get F1 10=_;rw[T,decide_eq_true Za]) (Ex.seq (Ex.iq D) Ex.ret))) Zc)
 have g4:∀call,eC E N call none r4 F1 H=some (set F1 5 (.int .i64 1),H):=λcall=>vp (v:=.int .i64 1) rfl (by simp[cK,bV,bq]) jd
 have hc:Ex E N (.seq (.ops r2) (.cond (.s 10) (.seq (.ops r3) (.ret)) (.skip))) U H .norm F1 H:=Ex.seq (Ex.iq S) (Ex.BR (by show get F1 10=_;rw[T,decide_eq_false Za]) Ex.skip)
 rcases RM (N:=N) X (L-1) 1 (set F1 5 (.int .i64 1)) Za Za (λi h1 w=>by omega) (by rw[ig _ _ Za,B 0 Za];exact k0) (by rw[ig _ _ Za,B 1 Za];exact k1) (by rw[tH];rfl)with⟨F',I,J,O⟩|⟨F',z,I,J,O⟩
 .obtain⟨C,D,G⟩:=Ti (E:=E) (N:=N) (F:=F') (H:=H);obtain⟨e1,e2⟩:=same O;refine⟨C,rs,?_,by rw[e1,G];exact J,e2⟩
  rw[u];exact Ex.seq (Ex.iq g1) (Ex.seq hc (Ex.seq (Ex.seq (Ex.iq g4) (Ex.J9 (Ex.loop I))) (Ex.seq (Ex.iq D) Ex.ret)))
 exact⟨F',z,Ex.seq (Ex.iq g1) (Ex.seq hc (Ex.Cd (Ex.seq (Ex.iq g4) (Ex.KC (Ex.loop I))) Zc)),J,O⟩
theorem empty {w:V} (c:V) (z:w=.bM\/w=.di):∃F',Ex E N code [w,c] H .ret F' H/\get F' 4=w:=by
 have g1:∀call,eC E N call none r1 [w,c] H=some (set [w,c] 4 .bM,H):=λcall=>vp (v:=.bM) rfl (by simp[cK,bV,bq]) jd
 have k0:get (set [w,c] 4 .bM) 0=w:=rfl;generalize set [w,c] 4 .bM=B at *;have C:o4 w=some (.int .i64 0):=by rcases z with rfl|rfl <;> rfl
 have u:∃F1,(∀call,eC E N call none r2 B H=some (F1,H))/\get F1 10=.bool true/\get F1 0=w:=by
  refine⟨_,λcall=>vp (v:=w) rfl ?_ <| vp (v:=.int .i64 0) rfl ?_ <| vp (v:=.bool true) rfl ?_ jd,?_,?_⟩
  .simp[cK,bV,bq,k0]
  .simp[cK,bV,bq,bX,C]
  .simp[cK,bV,bq,bX,j8,qT]
  .simp[bX]
  simp[bX,k0]
 obtain⟨F1,u,D,G⟩:=u;obtain⟨I,J,L⟩:=QU (E:=E) (N:=N) (F:=F1) (H:=H);exact⟨I,Ex.seq (Ex.iq g1) (Ex.Cd (Ex.seq (Ex.iq u) (Ex.uM D (Ex.seq (Ex.iq J) Ex.ret))) Zc),by rw[L,G]⟩
end
end cmpX
def Sl.re {α:Type} (s:Sl α) (l:List α):Sl α:=match s with|.nil=>.nil|.emp=>.emp|.row _=>.row l|.part _=>.part l
def Sl.Rp {α:Type} (s:Sl α) (l:List α):Sl α:=match s with|.nil=>.nil|.emp=>.emp|.row _|.part _=>.part l
noncomputable def TA {α:Type} (s:Sl α) (p:α->α->Option Int):Option (Sl α):=
 match s.l with
 | []=>some s
 | x::l=>if l.length<2147483648 then
  let t:_root_.Fin (l.length+1)->_root_.Fin (l.length+1)->Option Int:=λi j=>p (x::l)[i.1] (x::l)[j.1]
  if Ja t then some (s.re ((DS l.length (u5 t)).toList.map λi=>(x::l)[i.1]))else none
  else none
def SH {α:Type} (l:List α) (p:α->α->Option Bool) (i:Nat):Option Bool:=match l[i]?,l[i-1]? with|some a,some b=>p a b|_,_=>none
def TC {α:Type} (s:Sl α) (p:α->α->Option Bool):Option (Sl α):=
 if s.l.length<=2147483648/\((List.range s.l.length).all λi=>i==0||(SH s.l p i).isSome)=true then
  some (s.Rp ((kept (λi=>(SH s.l p i).getD false) s.l.length).filterMap (s.l[·]?)))
 else none
section
variable {S:Sys} {T:oQ} {β γ δ α:Type} {Q:Out×St->Option β} {e:γ->Option β} {cf:Cf}
theorem iC.Qk (u:uI S T) (B:∀f a b xs,S.items f a b=some xs->eR S f a b xs) {fn:FuncId} {A:δ->List V} {E:α->List V} {p:δ->Option α} {sc:Bool} (F:iC S (dI S T) fn A E p sc) {z:δ} {r:α} (h:p z=some r) (hg:V.cH (A z)=true) :
 ∃n,cm (run S.E n) fn (A z) []=some (result (E r)):=by
 have h1:=F.h z (E r) (by simp_all)
 obtain⟨⟨rs,m'⟩,w,C⟩:=ζg.1 h1;obtain⟨n,y,H2,e1,e2,e3⟩:=AE (vr u B) hg w C;refine⟨n,?_⟩;have D:borrows n [] (A z)=some (A z):=by
  have hc:=V.me hg;generalize A z=l at hc;unfold borrows
  induction l with
  | nil=>rfl
  | cons x l G=>
   simp[V.jG]at hc;simp[hG,ei n [] hc.1,G hc.2]
 unfold cm;rw[nN,D];simp[e1 n (Nat.le_refl _),e2 n (Nat.le_refl _),V.lQ e3]
section
variable [bt α]
end
end
section
variable {H H':bf} {w:V} {o:Nat} {ids:List Nat} {rows:List (List V)}
theorem qH.cell (n:qH H w o ids rows) {p j:Nat} {r:List V} {u:V} (hr:rows[p]? = some r) (hu:r[j]? = some u) :
 ∃id,ids[p]? = some id/\kK 1 w (p:Int)=some (.hptr o p 0)/\fS H (.load 1 false) [.hptr o p 0]=some (.hsl id 1 0 r.length)/\kK 1 (.hsl id 1 0 r.length) (j:Int)=some (.hptr id j 0)/\fS H (.load 1 false) [.hptr id j 0]=some u:=by
 have D:=(ζe.1 hr).1;have G:=(ζe.1 hu).1;have B:rows≠[]:=by intro e;subst e;simp at hr
 have C:p<ids.length:=by rw[n.len];exact D
 have z:=ζd C;refine⟨ids[p],z,?_,?_,?_,?_⟩
 .have:=n.v;rw[if_neg B]at this;subst this;simp[kK,D]
 .have h1:=n.ob B;have I:=EL z hr;simp[fS,dY,h1,Ob.rows,I,cut];rfl
 .simp[kK,G]
 have h1:=n.r p _ r z hr;simp[fS,dY,h1,Ob.rows,od,hu,cut];rfl
theorem KZ {ids:List Nat} (h:ids.Nodup) {i j:Nat} {a:Nat} (hi:ids[i]? = some a) (z:ids[j]? = some a):i=j:=by
 have h1:=(ζe.1 hi);have u:=(ζe.1 z);obtain⟨h1,e1⟩:=h1;obtain⟨u,e2⟩:=u;exact(List.getElem_inj h).1 (e1.trans e2.symm)
theorem qH.set (n:qH H w o ids rows) {p j id:Nat} {r:List V} {u:V} (hr:rows[p]? = some r) (T:j<r.length) (B:ids[p]? = some id) (hu:V.one u=true) (hc:u.cells=[u]) :
 ∃H',fc H (.store 1) [.hptr id j 0,u]=some (.undef,H')/\qH H' w o ids (rows.set p (r.set j u))/\H'.length=H.length/\(∀i,i≠id->H'[i]? = H[i]?):=by
 have L:=(ζe.1 hr).1;have z:rows≠[]:=by intro e;subst e;simp at hr
 have h1:=n.r p id r B hr;have O:id<H.length:=(ζe.1 h1).1;have D:(od r).set j [u]=od (r.set j u):=by simp[od,List.map_set]
 have G:o≠id:=λe=>n.ne z (e▸List.mem_of_getElem? B)
 refine⟨H.set id (.row 1 (od (r.set j u))),?_,⟨?_,λ_=>?_,by simp[n.len],λi I Q hi C=>?_,n.nd,λ_=>n.ne z⟩,by simp,λi hi=>List.getElem?_set_ne (Ne.symm hi)⟩
 .have S:(od r)[j]? = some [r[j]]:=by simp[od,T]
  simp only[fc,h1,S,hc,List.length_singleton,Nat.zero_add,Nat.le_refl,List.all_cons,hu,List.all_nil,Bool.and_self,and_self,if_true,List.take_zero,List.nil_append];rw[<-D];simp
 .rw[n.v];have:rows.set p (r.set j u)≠[]:=by intro e;apply z;simpa using e
  rw[if_neg z,if_neg this,List.length_set]
 .rw[List.getElem?_set_ne (Ne.symm G),FD hr Zc];exact n.ob z
 by_cases e:i=p
 .subst e;rw[B]at hi;cases hi;rw[List.getElem?_set_self L]at C;cases C;rw[List.getElem?_set_self O]
 rw[List.getElem?_set_ne (Ne.symm e)]at C;have J:id≠I:=λU=>e (KZ n.nd (U▸hi) B)
 rw[List.getElem?_set_ne J];exact n.r i I Q hi C
end
structure qG (H:bf) (w:V) (l:List (List V)) (id:Nat):Prop where
 c:∀c∈l,c.length=2/\c.all V.one=true
 v:(w=.bM/\l=[])\/∃off xs,w=.hsl id 2 off l.length/\H[id]? = some (.row 2 xs)/\off+l.length<=xs.length/\(xs.drop off).take l.length=l
section
variable {H H':bf} {w:V} {l:List (List V)} {id:Nat}
theorem qG.heap (n:qG H w l id) (h:∀off n,w=.hsl id 2 off n->H'[id]? = H[id]?):qG H' w l id:=
 ⟨n.c,n.v.imp (λh=>h) λ⟨off,u,e1,e2,e3,e4⟩=>⟨off,u,e1,by rw[h _ _ e1];exact e2,e3,e4⟩⟩
theorem qG.lt (n:qG H w l id) {off m:Nat} (h:w=.hsl id 2 off m):id<H.length:=by
 rcases n.v with⟨e,_⟩|⟨_,u,_,e2,_⟩
 .rw[e]at h;cases h
 exact(ζe.1 e2).1
theorem qG.more (n:qG H w l id) (X:bf):qG (H++X) w l id:=n.heap λ_ _ e=>List.getElem?_append_left (n.lt e)
theorem qG.len (n:qG H w l id):o4 w=some (.int .i64 l.length):=by
 rcases n.v with⟨rfl,rfl⟩|⟨off,u,rfl,_⟩ <;> rfl
theorem qG.get (n:qG H w l id) {i:Nat} {c:List V} (hc:l[i]? = some c):∃p,kK 2 w (i:Int)=some p/\fS H (.load 2 true) [p]=some (.agg c):=by
 have hi:=(ζe.1 hc).1;have u:=(n.c c (List.mem_of_getElem? hc)).1;rcases n.v with⟨_,rfl⟩|⟨off,z,rfl,e2,e3,e4⟩
 .simp at hc
 refine⟨.hptr id (off+i) 0,by simp[kK,hi],?_⟩
 have:z[off+i]? = some c:=by
  rw[<-e4,List.getElem?_take,if_pos hi,List.getElem?_drop]at hc;exact hc
 simp[fS,dY,e2,Ob.rows,this,cut,<-u];rfl
theorem qG.tail {c:List V} (n:qG H w (c::l) id):∃w',gL 2 w (some 1) none=some w'/\qG H w' l id/\∃off m u,w=.hsl id 2 off m/\w'=.hsl id 2 u l.length:=by
 rcases n.v with⟨_,e⟩|⟨off,z,rfl,e2,e3,e4⟩
 .cases e
 refine⟨.hsl id 2 (off+1) l.length,?_,⟨λc hc=>n.c c (List.mem_cons_of_mem _ hc),.inr ⟨off+1,z,rfl,e2,by simp at e3;omega,?_⟩⟩,⟨_,_,_,rfl,rfl⟩⟩
 .simp[gL,dM];omega
 have hd:(z.drop off).drop 1=z.drop (off+1):=by rw[List.drop_drop]
 rw[<-hd];have:=congrArg (List.drop 1) e4;rw[List.drop_take]at this;simpa using this
theorem qG.push (n:qG H w l id) {c:List V} (hc:c.length=2/\c.all V.one=true) (B:l.length+1<=2147483648) :
 ∃H',fc (H++[.row 2 [c]]) (.append 2) [w,.hsl H.length 2 0 1]=some (.hsl (H.length+1) 2 0 (l.length+1),H')/\qG H' (.hsl (H.length+1) 2 0 (l.length+1)) (l++[c]) (H.length+1)/\H'.length=H.length+2/\(∀i,i<H.length->(∀off m,w=.hsl id 2 off m->i≠id)->H'[i]? = H[i]?):=by
 have e2:dH (H++[.row 2 [c]]) 2 (.hsl H.length 2 0 1)=some [c]:=by simp[dH,Ob.rows]
 have u:∀c'∈l++[c],c'.length=2/\c'.all V.one=true:=λc' h=>by
  rcases List.mem_append.1 h with h|h
  .exact n.c c' h
  simp at h;subst h;exact hc
 rcases n.v with⟨rfl,rfl⟩|⟨off,D,rfl,g2,g3,g4⟩
 .have e1:dH (H++[.row 2 [c]]) 2 .bM=some []:=rfl;refine⟨H++[.row 2 [c]]++[.row 2 [c]],?_,⟨u,.inr ⟨0,[c],rfl,by simp,by simp,rfl⟩⟩,by simp,λi hi _=>by rw[List.append_assoc,List.getElem?_append_left hi]⟩
  simp only[fc,e1,e2,gq,List.length_nil,List.length_singleton,Option.map_some];simp
 have z:=(ζe.1 g2).1;have e1:dH (H++[.row 2 [c]]) 2 (.hsl id 2 off l.length)=some l:=by
  simp only[dH,if_true,List.getElem?_append_left z,g2,ζb,Ob.rows,g3,g4]
 have C:gq (H++[.row 2 [c]]) (.hsl id 2 off l.length)=some (List.set (H++[Ob.row 2 [c]]) id Ob.dead):=by
  simp only[gq,List.getElem?_append_left z,g2]
 refine⟨List.set (H++[Ob.row 2 [c]]) id Ob.dead++[Ob.row 2 (l++[c])],?_,⟨u,.inr ⟨0,l++[c],by simp,by simp,by simp,List.take_of_length_le Zc⟩⟩,by simp,λi hi h=>?_⟩
 .simp only[fc,e1,e2,C,List.length_singleton,B,if_true,Option.map_some,ζi]
 rw[List.getElem?_append_left (by simp;omega),List.getElem?_set_ne (Ne.symm (h _ _ rfl)),List.getElem?_append_left hi]
end
noncomputable def Ck (rs:List RV):Out×St->Option bB
 | (.exit _,_)=>none
 | (_,st)=>(jf st rs).bind λl=>match l with
  | [.own d]=>a_ st.m d
  | _=>none
theorem SC {S:Sys} {c:bN} {rs:List RV} {rc:RC} {st:St} {ob:bB} (h:jt S c (Ck rs) rc [] st=some ob):∃o st' d,cu S c rc st=some (o,st')/\(∀id,o≠.exit id)/\jf st' rs=some [.own d]/\a_ st'.m d=some ob:=by
 rw[mY]at h;obtain⟨⟨o,st'⟩,h1,u⟩:=ζg.1 h;have z:∀id,o≠.exit id:=by rintro id rfl;simp[Ck]at u
 have B:(jf st' rs).bind (λl=>match l with|[.own d]=>a_ st'.m d|_=>none)=some ob:=by
  cases o with
  | exit id=>exact absurd rfl (z id)
  | norm=>exact u
  | ret=>exact u
 obtain⟨l,C,w⟩:=ζg.1 B;split at w
 .exact⟨o,st',_,h1,z,C,w⟩
 cases w
def Sl.whole {α:Type} (s:Sl α):Option (Sl α):=match s with|.part _=>none|s=>some s
structure Aw (S:Sys) (c:bN) {α δ:Type} [bt δ] (fn:FuncId) (A:α->List V) (p:α->Option (Sl δ)):Prop where
 k:S.E.keep fn=true
 o:S.E.own fn=true
 h:∀z s,p z=some s->∃e m',c fn ((A z).map .v) []=some ([.own e],m')/\a_ m' e=some (c7 s)
 sc:∀x:δ,(cells x).all V.scalar=true
theorem Aw.mk' {S:Sys} {T:oQ} {α δ:Type} [bt δ] (rf:RF) {fn:FuncId} {A:α->List V} {p:α->Option (Sl δ)} (h:∀z,Le ((p z).bind λr=>some (c7 r)) (b7 S (dI S T) (Ck rf.rs) (.rc rf.body,[],start ((A z).map .v) [])))
 (u:T fn=some rf:=by kernel_rfl) (hk:S.E.keep fn=true:=by kernel_rfl) (B:S.E.own fn=true:=by kernel_rfl) (D:∀z,(A z).length<=rf.na:=by intro z;exact Nat.le_of_ble_eq_true (by kernel_rfl))
 (sc:∀x:δ,(cells x).all V.scalar=true:=by intro x;rfl):Aw S (dI S T) fn A p where
 k:=hk
 o:=B
 sc:=sc
 h z s w:=by
  have h1:=h z (c7 s) (by rw[w];rfl)
  change jt S (dI S T) (Ck rf.rs) rf.body [] (start ((A z).map .v) [])=some (c7 s)at h1;obtain⟨o,st',d,g1,g2,g3,g4⟩:=SC h1;refine⟨d,st'.m,?_,g4⟩;rw[qO u];unfold l9;rw[if_pos (by simpa using D z),g1]
  cases o with
  | exit id=>exact absurd rfl (g2 id)
  | norm=>simp only[g3,Option.map_some]
  | ret=>simp only[g3,Option.map_some]
section
variable {S:Sys} {c:bN} {β γ δ α:Type} [bt δ] {Q:Out×St->Option β} {e:γ->Option β} {cf:Cf}
end
structure GD where
 m:Nat
 pre:List (Nat×List Gh)
 nd:List (Nat×List Gh×List Gh)
structure GI where
 m:Nat
 i:Nat
 j:Nat
def Sw {α:Type} (l:List (Nat×List α)) (i:Nat):List α:=match l with
 | []=>[]
 | (k,x)::r=>bif Nat.beq k i then x else Sw r i
def xF (l:List (Nat×List Gh×List Gh)) (i:Nat):List Gh×List Gh:=match l with
 | []=>([],[])
 | (k,x)::r=>bif Nat.beq k i then x else xF r i
def IU (m:Nat):List Nat->List Nat
 | []=>[]
 | x::l=>bif Nat.beq (m % 2) 1 then x::IU (m / 2) l else IU (m / 2) l
def Lw:List Arg->List Nat
 | []=>[]
 | .s n::r=>n::Lw r
 | _::r=>Lw r
def RD (o:RO):List Nat:=(match o.dst with|some d=>[d]|none=>[])++(match o.gd with|some g=>[g.1]|none=>[])++Lw o.az
def SZ (G:GD) (s:GI) (o:RO):RO:={ o with dead:=IU (bif Nat.beq (s.m % 16) 15 then s.m / 16 % 65536 else s.m % 16) (RD o),pre:=Sw G.pre s.i }
def GI.op (s:GI):GI:=⟨bif Nat.beq (s.m % 16) 15 then s.m / 1048576 else s.m / 16,s.i+1,s.j⟩
def xI (G:GD):List RO->GI->List RO×GI
 | [],s=>([],s)
 | o::r,s=>(SZ G s o::(xI G r s.op).1,(xI G r s.op).2)
def yj:List Gh->RC->RC
 | [],c=>c
 | g::l,c=>.gh g (yj l c)
def J3:List Gh->RC->RC
 | [],c=>c
 | g::l,c=>J3 l (.hg c g)
def GI.nd (s:GI):GI:=⟨s.m,s.i,s.j+1⟩
def iu (G:GD):RC->GI->RC×GI
 | .seq a b,s=>(yj (xF G.nd s.j).1 (.seq (iu G a s.nd).1 (iu G b (iu G a s.nd).2).1),(iu G b (iu G a s.nd).2).2)
 | .cond x a b,s=>(yj (xF G.nd s.j).1 (.cond x (iu G a s.nd).1 (iu G b (iu G a s.nd).2).1),(iu G b (iu G a s.nd).2).2)
 | .block id a,s=>(yj (xF G.nd s.j).1 (.block id (iu G a s.nd).1),(iu G a s.nd).2)
 | .loop a,s=>(yj (xF G.nd s.j).1 (.loop (J3 (xF G.nd s.j).2 (iu G a s.nd).1)),(iu G a s.nd).2)
 | .each g ps a b,s=>(yj (xF G.nd s.j).1 (.each g ps (iu G a s.nd).1 (J3 (xF G.nd s.j).2 (iu G b (iu G a s.nd).2).1)),(iu G b (iu G a s.nd).2).2)
 | .ops l,s=>(yj (xF G.nd s.j).1 (.ops (xI G l s.nd).1),(xI G l s.nd).2)
 | .qm l,s=>(yj (xF G.nd s.j).1 (.qm (xI G l s.nd).1),(xI G l s.nd).2)
 | .gh g c,s=>(.gh g c,s)
 | .hg c g,s=>(.hg c g,s)
 | c,s=>(yj (xF G.nd s.j).1 c,s.nd)
theorem jC (c:RC):∀l,erase (yj l c)=erase c
 | []=>rfl
 | g::l=>by simp only[yj,erase,jC c l]
theorem xR:∀l (c:RC),erase (J3 l c)=erase c
 | [],c=>rfl
 | g::l,c=>by simp only[J3,xR l,erase]
theorem wA (G:GD):∀(l:List RO) s,((xI G l s).1).map RO.strip=l.map RO.strip
 | [],s=>rfl
 | o::r,s=>by simp only[xI,List.map_cons,wA G r];rfl
theorem jZ (G:GD):∀(c:RC) s,erase (iu G c s).1=erase c
 | .seq a b,s=>by simp only[iu,jC,erase,jZ G a,jZ G b]
 | .cond x a b,s=>by simp only[iu,jC,erase,jZ G a,jZ G b]
 | .block id a,s=>by simp only[iu,jC,erase,jZ G a]
 | .loop a,s=>by simp only[iu,jC,erase,xR,jZ G a]
 | .each g ps a b,s=>by simp only[iu,jC,erase,xR,jZ G a,jZ G b]
 | .ops l,s=>by simp only[iu,jC,erase,wA]
 | .qm l,s=>by simp only[iu,jC,erase,wA]
 | .gh g c,s=>rfl
 | .hg c g,s=>rfl
 | .skip,s=>by simp only[iu,jC]
 | .ret,s=>by simp only[iu,jC]
 | .exit _,s=>by simp only[iu,jC]
theorem Gz {X:CX} {dr:Bool} {ops:List Oper} {i:Nat} {o:Oper} {r:RO} (h:lY X dr ops i o=some r):r.strip=r:=by
 obtain⟨_,_,_,_,_,_,rfl⟩:=Bs h;rfl
theorem vq {X:CX} {dr:Bool} {ops:List Oper}:∀{l:List Oper} {i:Nat} {r:List RO},jQ X dr ops i l=some r->r.map RO.strip=r
 | [],i,r,h=>by cases h;rfl
 | o::l,i,r,h=>by
  simp only[jQ]at h;split at h
  next a b u z=>cases h;simp only[List.map_cons,Gz u,vq z]
  cases h
theorem Gy {X:CX}:∀{c:Code} {ro:Bool} {r:RC},bF X ro c=some r->erase r=r:=by
 intro c
 induction c with
 | region _ ops dr=>
  intro ro r h;simp only[bF]at h;split at h
  .split at h
   .obtain⟨l,h1,rfl⟩:=ζf.1 h;simp only[erase,vq h1]
   cases h
  obtain⟨l,h1,rfl⟩:=ζf.1 h;simp only[erase,vq h1]
 | seq a b u w=>
  intro ro r h;simp only[bF]at h;split at h
  next h1 z=>cases h;simp only[erase,u h1,w z]
  cases h
 | cond c a b u w=>
  intro ro r h;simp only[bF]at h;split at h
  next h1 z=>cases h;simp only[erase,u h1,w z]
  cases h
 | block id a u=>
  intro ro r h;simp only[bF]at h;obtain⟨l,h1,rfl⟩:=ζf.1 h;simp only[erase,u h1]
 | loop a u=>
  intro ro r h;simp only[bF]at h;obtain⟨l,h1,rfl⟩:=ζf.1 h;simp only[erase,u h1]
 | rangeFunc g B a b u w=>
  intro ro r h;simp only[bF]at h;split at h
  .cases h
  split at h
  next h1 z=>cases h;simp only[erase,u h1,w z]
  cases h
 | _=>intro ro r h;first|cases h;rfl|(simp only[bF]at h;cases h;rfl)|(simp only[bF]at h;cases h)
def Mn (E:Env) (nm:FuncId->Option Nat) (G:FuncId->Option GD):oQ:=λf=>
 (G f).bind λg=>(E.ft f).bind λu=>(bF ⟨E,nm,u.ntmps⟩ false u.body).bind λc=>(u.results.mapM (zw E)).bind λrs=>some ⟨u.ntmps,rs,(iu g c ⟨g.m,0,0⟩).1⟩
theorem z7 {E:Env} {nm:FuncId->Option Nat} {G:FuncId->Option GD} {f:FuncId} {rf:RF} (h:Mn E nm G f=some rf):∃fi,E.ft f=some fi/\uW E nm fi rf:=by
 unfold Mn at h;obtain⟨g,_,h⟩:=ζg.1 h;obtain⟨fi,h1,h⟩:=ζg.1 h;obtain⟨c,u,h⟩:=ζg.1 h;obtain⟨rs,w,h⟩:=ζg.1 h;cases h;exact⟨fi,h1,by rw[u,jZ,Gy u],w,rfl⟩
theorem zp:∀(g:FuncId) (s:Nat),some g=some s->(λn=>n) s=g:=λ_ _ h=>(Option.some.inj h).symm
def oO (o:Option RF):RF:=o.getD ⟨0,[],.skip⟩
def tb (T:oQ) (f:FuncId):RC:=(oO (T f)).body
def tr (T:oQ) (f:FuncId):List RV:=(oO (T f)).rs
theorem yK {o:Option RF} (h:o.isSome=true):o=some (oO o):=by cases o with
 | none=>cases h
 | some r=>rfl
class iw (δ:Type) where
 e:δ->List V
instance Tu {α:Type} [bt α]:iw α:=⟨λx=>[enc x]⟩
instance Ts:iw Unit:=⟨λ_=>[]⟩
instance Tv {α β:Type} [bt α] [iw β]:iw (α×β):=⟨λx=>enc x.1::iw.e x.2⟩
@[simp] theorem S9 {α:Type} [bt α] (x:α):iw.e x=[enc x]:=rfl
@[simp] theorem S_ (x:Unit):iw.e x=[]:=rfl
@[simp] theorem S7 {α β:Type} [bt α] [iw β] (x:α×β):iw.e x=enc x.1::iw.e x.2:=rfl
class Fc (S:Sys) (c:bN) {δ:Type} (m:Option δ) where
 n:FuncId
 az:List V
 E:δ->List V
 sc:Bool
 F:iC S c n (λ_:Unit=>az) E (λ_=>m) sc
section
variable {S:Sys} {T:oQ} {δ:Type} {m:Option δ}
theorem iC.MM {E:δ->List V} (fn:FuncId) (az:List V) (h:Le (m.bind λr=>some (E r)) (b7 S (dI S T) (nq (tr T fn)) (.rc (tb T fn),[],start (az.map .v) [])))
 (u:(T fn).isSome=true) (hk:S.E.keep fn=false) (B:Nat.ble az.length (oO (T fn)).na=true)
 {sc:Bool} (s:sc=true->∀r,(result (E r)).scalar=true):iC S (dI S T) fn (λ_:Unit=>az) E (λ_=>m) sc where
 k:=hk
 h z:=SR (yK u) (Nat.le_of_ble_eq_true B) h
 s:=s
abbrev Fc.NE (E:δ->List V) (fn:FuncId) (az:List V) (h:Le (m.bind λr=>some (E r)) (b7 S (dI S T) (nq (tr T fn)) (.rc (tb T fn),[],start (az.map .v) [])))
 (u:(T fn).isSome=true:=by kernel_rfl) (hk:S.E.keep fn=false:=by kernel_rfl) (z:Nat.ble az.length (oO (T fn)).na=true:=by kernel_rfl)
 : Fc S (dI S T) m:=
 ⟨fn,az,E,false,iC.MM fn az h u hk z λh=>nomatch h⟩
abbrev Fc.M [iw δ] (fn:FuncId) (az:List V) (h:Le (m.bind λr=>some (iw.e r)) (b7 S (dI S T) (nq (tr T fn)) (.rc (tb T fn),[],start (az.map .v) [])))
 (u:(T fn).isSome=true:=by kernel_rfl) (hk:S.E.keep fn=false:=by kernel_rfl) (z:Nat.ble az.length (oO (T fn)).na=true:=by kernel_rfl)
 (s:∀r:δ,(result (iw.e r)).scalar=true:=by intro r;kernel_rfl):Fc S (dI S T) m:=
 ⟨fn,az,iw.e,true,iC.MM fn az h u hk z λ_=>s⟩
abbrev Fc.N [iw δ] (fn:FuncId) (az:List V) (h:Le (m.bind λr=>some (iw.e r)) (b7 S (dI S T) (nq (tr T fn)) (.rc (tb T fn),[],start (az.map .v) [])))
 (u:(T fn).isSome=true:=by kernel_rfl) (hk:S.E.keep fn=false:=by kernel_rfl) (z:Nat.ble az.length (oO (T fn)).na=true:=by kernel_rfl)
 : Fc S (dI S T) m:=
 ⟨fn,az,iw.e,false,iC.MM fn az h u hk z λh=>nomatch h⟩
end
abbrev Fc.of {S:Sys} {c:bN} {α δ:Type} {p:α->Option δ} {n:FuncId} {A:α->List V} {E:δ->List V} {b:Bool} (z:α) (F:iC S c n A E p b):Fc S c (p z):=⟨n,A z,E,b,⟨F.k,λ_=>F.h z,F.s⟩⟩
theorem iC.kY {S:Sys} {c:bN} {α δ:Type} {p:α->Option δ} {n:FuncId} {A:α->List V} {E:δ->List V} {b:Bool} (F:∀z,Fc S c (p z)) (i:α) (u:∀z,(F z).n=n) (D:∀z,(F z).az=A z) (B:∀z,(F z).E=E) (G:∀z,(F z).sc=b):iC S c n A E p b where
 k:=by rw[<-u i];exact(F i).F.k
 h z:=by rw[<-u z,<-D z,<-B z];exact(F z).F.h ()
 s:=by rw[<-G i,<-B i];exact(F i).F.s
theorem gI.kY {S:Sys} {c:bN} {α δ:Type} {p:α->Option δ} {g:FuncId} {w e:List V} {A:α->List V} {R:δ->List V} {b:Bool} [i:Inhabited α] [F:∀z,Fc S c (p z)] (u:∀z,(F z).n=g:=by intro _;kernel_rfl) (B:∀z,(F z).az=w++A z++e:=by intro _;kernel_rfl)
 (D:∀z,(F z).E=R:=by intro _;kernel_rfl) (G:∀z,(F z).sc=b:=by intro _;kernel_rfl):gI S c g w e A R p b:=
 ⟨iC.kY F default u B D G⟩
section
variable {S:Sys} {c:bN} {β γ δ α:Type} {Q:Out×St->Option β} {e:γ->Option β} {cf:Cf}
theorem u_ (n:Nat) {m:Option β} (h:Le m (b7 S c Q (gR S c n cf))) (u:gi S c n cf.1 cf.2.1 cf.2.2=some (gR S c n cf):=by kernel_rfl):Le m (b7 S c Q cf):=yg u h
theorem bL (n:Nat) {m:Option δ} [F:Fc S c m] {f:δ->Option γ} (h:∀x,m=some x->Le ((f x).bind e) (b7 S c Q (nx S c n cf λp=>cU p.st p.d (.v (result (F.E x))))))
 (u:(gx S c n cf).map (λp=>(p.k,(bQ S.N p.st.g p.az).bind ku,(!p.dr||p.now||fu p.st.m p.fr [])))=some (.c,some (F.n,F.az.map .v),true):=by kernel_rfl):Le ((m.bind f).bind e) (b7 S c Q cf):=tC n F.F () h u
theorem cA (n:Nat) {m:Option δ} [F:Fc S c m] {f:δ->Option γ} (h:∀x,m=some x->Le ((f x).bind e) (b7 S c Q (nx S c n cf λp=>cU p.st p.d (.v (result (F.E x))))))
 (z:(gx S c n cf).map (λp=>(p.k,((bQ S.N p.st.g p.az).bind ku).bind λq=>(mC (gT p.st.m 8) q.2).map λvs=>(q.1,vs,((!p.dr||p.now)||fu p.st.m p.fr q.2))))=some (.c,some (F.n,F.az,true)):=by kernel_rfl) (B:F.sc=true:=by kernel_rfl):Le ((m.bind f).bind e) (b7 S c Q cf):=
 QV n (u B F.F) () h z
where
 u {b:Bool} {fn:FuncId} {az:List V} {E:δ->List V} {m:Option δ} (h:b=true) (F:iC S c fn (λ_:Unit=>az) E (λ_=>m) b):iC S c fn (λ_:Unit=>az) E (λ_=>m) true:=h▸F
def NR (cf:Cf):RC:=match cf.1 with|.rc (.loop c)=>c|_=>.skip
def Be (cf:Cf):Arg×List Nat×RC×RC:=match cf.1 with|.rc (.each g u a b)=>(g,u,a,b)|_=>(.s 0,[],.skip,.skip)
theorem jP {σ ε ρ:Type} {step:σ->Option (Fw σ ε ρ)} (n:Nat) (eσ:σ->St) (eε:ε->Nat×St) (eρ:ρ->St) {s:σ} {u:ε->Option γ} {fr:ρ->Option γ}
 (h:∀s,Le ((step s).bind λw=>some (Fw.out eσ eε eρ w)) (b7 S c some (.rc (NR (gR S c n cf)),[],eσ s)))
 (z:∀x,Le ((u x).bind e) (b7 S c Q (.ex (eε x).1,(gR S c n cf).2.1,(eε x).2))) (hr:∀b,Le ((fr b).bind e) (Q (.ret,eρ b)))
 (B:gi S c n cf.1 cf.2.1 cf.2.2=some (.rc (.loop (NR (gR S c n cf))),(gR S c n cf).2.1,eσ s):=by kernel_rfl):Le (((c_ step s).bind (Fw.elim u fr)).bind e) (b7 S c Q cf):=
 JA B h z hr
theorem qu {σ ε:Type} {step:σ->Option (Fw σ ε Empty)} (n:Nat) (eσ:σ->St) (eε:ε->Nat×St) {s:σ} {u:ε->Option γ} {fr:Empty->Option γ}
 (h:∀s,Le ((step s).bind λw=>some (Fw.out eσ eε (λe=>Empty.elim e) w)) (b7 S c some (.rc (NR (gR S c n cf)),[],eσ s)))
 (z:∀x,Le ((u x).bind e) (b7 S c Q (.ex (eε x).1,(gR S c n cf).2.1,(eε x).2)))
 (B:gi S c n cf.1 cf.2.1 cf.2.2=some (.rc (.loop (NR (gR S c n cf))),(gR S c n cf).2.1,eσ s):=by kernel_rfl):Le (((c_ step s).bind (Fw.elim u fr)).bind e) (b7 S c Q cf):=
 JA B h z λb=>Empty.elim b
theorem y6 {σ ε ρ:Type} {f:FuncId} {x y:List V} {items:List α} {eI:α->List V} {step:α->σ->Option (Fw σ ε ρ)} (n:Nat) (gt:Tb SV) (eσ:σ->Tb bB) (eε:ε->Nat×Tb bB) (eρ:ρ->Tb bB) {s:σ} {fn:σ->Option γ} {u:ε->Option γ} {fr:ρ->Option γ}
 (hi:S.items f x y=some (items.map eI))
 (h:∀x s,Le ((step x s).bind λw=>some (Fw.uj eσ eε eρ w)) (b7 S c (w9 S c (Be (gR S c n cf)).2.2.2) (.rc (Be (gR S c n cf)).2.2.1,[],⟨uF gt (Be (gR S c n cf)).2.1 ((eI x).map .v),eσ s,nJ gt,[],true,0⟩)))
 (z:∀s,Le ((fn s).bind e) (b7 S c Q (.nx,(gR S c n cf).2.1,dz gt (eσ s)))) (B:∀x,Le ((u x).bind e) (b7 S c Q (.ex (eε x).1,(gR S c n cf).2.1,dz gt (eε x).2))) (hr:∀b,Le ((fr b).bind e) (Q (.ret,dz gt (eρ b))))
 (D:∀x,(eI x).length=(Be (gR S c n cf)).2.1.length:=by intro _;kernel_rfl) (hg:oK S.N gt (Be (gR S c n cf)).1=some (.v (.clo f x y)):=by kernel_rfl)
 (G:gi S c n cf.1 cf.2.1 cf.2.2=some (.rc (.each (Be (gR S c n cf)).1 (Be (gR S c n cf)).2.1 (Be (gR S c n cf)).2.2.1 (Be (gR S c n cf)).2.2.2),(gR S c n cf).2.1,dz gt (eσ s)):=by kernel_rfl):Le (((jh step items s).bind (Fw.oB fn u fr)).bind e) (b7 S c Q cf):=
 Rf G hg hi D h z B hr
noncomputable def Ra (n k:Nat) (u:List Nat) (d:Nat) (S:Sys) (c:bN) (cf:Cf) (v:SV):Cf:=jmp k [] (gR S c n cf) { (gR S c n cf).2.2 with g:=bH (nE u (gR S c n cf).2.2.g) d v }
theorem b8 [bt δ] (n k:Nat) (u:List Nat) (d:Nat) {m:Option δ} {f:δ->Option γ} (z:Le (m.bind λr=>b7 S c Q (Ra n k u d S c cf (cv r))) (b7 S c Q cf))
 (h1:∀r,Le ((f r).bind e) (b7 S c Q (Ra n k u d S c cf (cv r)))):Le ((m.bind f).bind e) (b7 S c Q cf):=NM _ z h1
end
theorem IY {α β:Type} {P:α ⊕ β->Prop} (h1:∀a,P (.inl a)) (u:∀b,P (.inr b)):∀x,P x
 | .inl a=>h1 a
 | .inr b=>u b
instance {n:Nat}:DecidableEq (cw n Int):=λa b=>if h:a.l=b.l then .isTrue (by cases a;cases b;cases h;rfl)else .isFalse λe=>h (by rw[e])
theorem tv:∀l:List Int,gC ((l.map (cells (α:=Int))).flatten)=some l
 | []=>rfl
 | a::l=>by
  show gC (.int .i64 a::(l.map (cells (α:=Int))).flatten)=_;simp only[gC,tv l,Option.map_some]
theorem KO (l:List Int):(l.map (cells (α:=Int))).flatten=l.map (V.int .i64):=by
 induction l with
 | nil=>rfl
 | cons a l u=>simp only[List.map_cons,List.flatten_cons,u];rfl
instance {n:Nat}:Key (cw n Int) where
 kk:=.ints n
 ok a:=by
  show ((a.l.map (cells (α:=Int))).flatten.length==n&&(gC (a.l.map (cells (α:=Int))).flatten).isSome)=true;rw[tv,KO,List.length_map,a.len];simp
 eq a b:=by
  show jE (a.l.map (cells (α:=Int))).flatten (b.l.map (cells (α:=Int))).flatten=_;unfold jE;rw[tv,tv];simp only[a.len,b.len,if_true]
  congr 1
  rw[Bool.eq_iff_iff,beq_iff_eq,decide_eq_true_iff];exact⟨λh=>by cases a;cases b;cases h;rfl,λh=>by rw[h]⟩
section
variable {S:Sys} {c:bN} {β γ δ α:Type} {Q:Out×St->Option β} {e:γ->Option β} {cf:Cf}
end
section
variable {S:Sys} {c:bN} {β γ δ:Type} {Q:Out×St->Option β} {e:γ->Option β} {cf:Cf} {κ ν:Type} [bt κ] [DecidableEq κ] [Key κ] [bt ν]
structure SE (κ ν:Type) where
 o:Option (Mo κ ν)
 deriving Inhabited
def Q7 (m:SE κ ν):V:=match m.o with|none=>.fL|some l=>.fmap (mH l)
theorem Ku (m:Mo κ ν):V.qi (mH m)=true:=by
 induction m with
 | nil=>rfl
 | cons x r u=>show V.qi ((enc x.1,enc x.2)::mH r)=true;simp only[V.qi,lK,u,Bool.and_self]
instance:bt (SE κ ν) where
 cells m:=[Q7 m]
 agg:=false
 size:=1
 len _:=rfl
 good m:=by
  unfold Q7;split
  .rfl
  simp only[V.cH,V.good,Ku,Bool.and_self]
 one m:=by unfold Q7;split <;> rfl
 plain _:=rfl
end
theorem iC.scalar {S:Sys} {c:bN} {α δ:Type} {fn:FuncId} {A:α->List V} {E:δ->List V} {p:α->Option δ} {b:Bool} (F:iC S c fn A E p b) (h:∀r,(result (E r)).scalar=true):iC S c fn A E p true:=⟨F.k,F.h,λ_=>h⟩
section
variable {S:Sys} {c:bN} {β γ δ α:Type} [bt α] {Q:Out×St->Option β} {e:γ->Option β} {cf:Cf}
theorem N5 {ω:Type} [bt ω] (n u:Nat) {N:Nat} (a:cw N α) (i:Int) (o:Nat) (x:α) (D:a.at i=some x) (y:α) (w:ω) (G:cells y=(cells x).take o++cells w++(cells x).drop (o+bt.size ω)) {m:Option β} (h:Le m (b7 S c Q (nx S c n cf λp=>cU { p.st with m:=bH p.st.m u (bx (a.set i y)) } p.d (.v .undef))))
 (J:(gx S c n cf).map (λp=>(p.k,bQ S.N p.st.g p.az,a_ p.st.m u,(!p.dr||p.now),Nat.ble (o+bt.size ω) (bt.size α)))=some (.l (.store (bt.size ω)),some [.ptr u (i.toNat*bt.size α+o),cv w],some (bx a),true,true):=by kernel_rfl):Le m (b7 S c Q cf):=by
 obtain⟨p,B,z⟩:=fF J;simp only[ζc]at z;obtain⟨h1,C⟩:=iU B;obtain⟨dr,fr,d,gd,now,U,az,dd,l,fs,st⟩:=p;obtain⟨rfl,I,L,O,T⟩:=z;exact RU n dr fr (⟨d,gd,now,.l (.store (bt.size ω)),az,dd,[]⟩::l) fs st u a i o x D y (enc w) (by rw[jB];exact G) rfl (by(try dsimp only at *);simp only[h1,C,I,L,O,T,jB,gA,rE]) (by
  simp only[nx,B]at h;exact h)
end
noncomputable def DO (rs:List RV):Out×St->Option (bB×List V)
 | (.exit _,_)=>none
 | (_,st)=>(jf st rs).bind λl=>match l with
  | .own d::r=>(a_ st.m d).bind λob=>(dn r).map λys=>(ob,ys)
  | _=>none
theorem zi:∀{l:List SV} {ys:List V},dn l=some ys->l=ys.map .v
 | [],ys,h=>by cases h;rfl
 | .v x::r,ys,h=>by
  simp only[dn]at h;obtain⟨u,h1,rfl⟩:=ζf.1 h;rw[zi h1];rfl
 | .own _::_,_,h|.ptr ..::_,_,h|.el ..::_,_,h|.mp _::_,_,h|.clo ..::_,_,h|.tup _::_,_,h|.agg _::_,_,h|.yl _::_,_,h=>by cases h
theorem SJ {S:Sys} {c:bN} {rs:List RV} {rc:RC} {st:St} {ob:bB} {ys:List V} (h:jt S c (DO rs) rc [] st=some (ob,ys)):∃o st' d,cu S c rc st=some (o,st')/\(∀id,o≠.exit id)/\jf st' rs=some (.own d::ys.map .v)/\a_ st'.m d=some ob:=by
 rw[mY]at h;obtain⟨⟨o,st'⟩,h1,u⟩:=ζg.1 h;have z:∀id,o≠.exit id:=by rintro id rfl;simp[DO]at u
 have B:(jf st' rs).bind (λl=>match l with|.own d::r=>(a_ st'.m d).bind λob=>(dn r).map λys=>(ob,ys)|_=>none)=some (ob,ys):=by
  cases o with
  | exit id=>exact absurd rfl (z id)
  | norm=>exact u
  | ret=>exact u
 obtain⟨l,C,w⟩:=ζg.1 B;split at w
 .obtain⟨D,G,I⟩:=ζg.1 w;obtain⟨O,J,L⟩:=ζf.1 I;cases L;exact⟨o,st',_,h1,z,by rw[C,zi J],G⟩
 cases w
structure Su (S:Sys) (c:bN) {δ ε:Type} [bt δ] [iw ε] (m:Option (Sl δ×ε)) where
 n:FuncId
 az:List V
 k:S.E.keep n=true
 o:S.E.own n=true
 h:∀s r,m=some (s,r)->∃e m',c n (az.map .v) []=some (.own e::(iw.e r).map .v,m')/\a_ m' e=some (c7 s)
 sc:∀x:δ,(cells x).all V.scalar=true
 sr:∀r:ε,V.cF (iw.e r)=true
abbrev Su.mk' {S:Sys} {T:oQ} {δ ε:Type} [bt δ] [iw ε] {m:Option (Sl δ×ε)} (fn:FuncId) (az:List V) (h:Le (m.bind λr=>some (c7 r.1,iw.e r.2)) (b7 S (dI S T) (DO (tr T fn)) (.rc (tb T fn),[],start (az.map .v) [])))
 (z:(T fn).isSome=true:=by kernel_rfl) (hk:S.E.keep fn=true:=by kernel_rfl) (B:S.E.own fn=true:=by kernel_rfl) (D:Nat.ble az.length (oO (T fn)).na=true:=by kernel_rfl)
 (sc:∀x:δ,(cells x).all V.scalar=true:=by intro x;rfl) (sr:∀r:ε,V.cF (iw.e r)=true:=by intro r;rfl):Su S (dI S T) m where
 n:=fn
 az:=az
 k:=hk
 o:=B
 sc:=sc
 sr:=sr
 h s r w:=by
  have u:=yK z;have h1:=h (c7 s,iw.e r) (by rw[w];rfl)
  change jt S (dI S T) (DO (oO (T fn)).rs) (oO (T fn)).body [] (start (az.map .v) [])=some (c7 s,iw.e r)at h1;obtain⟨o,st',d,g1,g2,g3,g4⟩:=SJ h1;refine⟨d,st'.m,?_,g4⟩;rw[qO u];unfold l9;rw[if_pos (by simpa using Nat.le_of_ble_eq_true D),g1]
  cases o with
  | exit id=>exact absurd rfl (g2 id)
  | norm=>simp only[g3,Option.map_some]
  | ret=>simp only[g3,Option.map_some]
section
variable {S:Sys} {c:bN} {β γ δ α:Type} {Q:Out×St->Option β} {e:γ->Option β} {cf:Cf}
end
noncomputable def AN (rs:List RV) (u:List Nat):Out×St->Option (List V×c9)
 | (.exit _,_)=>none
 | (_,st)=>(jf st rs).bind λl=>(dn l).bind λys=>(iV st.m u).map λos=>(ys,os)
theorem Tc {S:Sys} {c:bN} {rs:List RV} {u:List Nat} {rc:RC} {st:St} {os:c9} {ys:List V} (h:jt S c (AN rs u) rc [] st=some (ys,os)):∃o st',cu S c rc st=some (o,st')/\(∀id,o≠.exit id)/\jf st' rs=some (ys.map .v)/\iV st'.m u=some os:=by
 rw[mY]at h;obtain⟨⟨o,st'⟩,h1,w⟩:=ζg.1 h;have z:∀id,o≠.exit id:=by rintro id rfl;simp[AN]at w
 have B:(jf st' rs).bind (λl=>(dn l).bind λys=>(iV st'.m u).map λos=>(ys,os))=some (ys,os):=by
  cases o with
  | exit id=>exact absurd rfl (z id)
  | norm=>exact w
  | ret=>exact w
 obtain⟨l,C,D⟩:=ζg.1 B;obtain⟨O,G,I⟩:=ζg.1 D;obtain⟨q,J,L⟩:=ζf.1 I;cases L;exact⟨o,st',h1,z,by rw[C,zi G],J⟩
def kJ:Tb bB->c9->Tb bB
 | m,[]=>m
 | m,(d,ob)::r=>kJ (bH m d ob) r
theorem Fb {m':c9} {z:List Nat}:∀{u:List Nat} {os m:c9},iV m' u=some os->(os.all λx=>within z x.2)=true->v7 z m' u m=some (kJ m os)
 | [],os,m,h,_=>by cases h;rfl
 | k::u,os,m,h,hp=>by
  simp only[iV]at h;split at h
  next v t h1 B=>cases h;simp only[List.all_cons,ζh]at hp;simp only[v7,h1,hp.1,if_true,kJ];exact Fb B hp.2
  cases h
theorem back_eq {m':c9} {u:List Nat} {os m:c9} (h:iV m' u=some os) (hp:(os.all λx=>within u x.2)=true):jr m' u m=some (kJ m os):=Fb h hp
structure lS (S:Sys) (c:bN) {δ:Type} (m:Option δ) where
 n:FuncId
 az:List SV
 os:c9
 E:δ->List V
 M:δ->c9
 k:S.E.keep n=true
 o:S.E.own n=false
 q:(S.prm n).isNone=true
 h:∀r,m=some r->∃m',c n az os=some ((E r).map .v,m')/\∀m0,jr m' (os.map (·.1)) m0=some (kJ m0 (M r))
abbrev lS.mk' {S:Sys} {T:oQ} {δ:Type} {m:Option δ} (fn:FuncId) (az:List SV) (os:c9) (E:δ->List V) (M:δ->c9) (h:Le (m.bind λr=>some (E r,M r)) (b7 S (dI S T) (AN (tr T fn) (os.map (·.1))) (.rc (tb T fn),[],start az os)))
 (z:(T fn).isSome=true:=by kernel_rfl) (hk:S.E.keep fn=true:=by kernel_rfl) (B:S.E.own fn=false:=by kernel_rfl) (D:(S.prm fn).isNone=true:=by kernel_rfl) (G:Nat.ble az.length (oO (T fn)).na=true:=by kernel_rfl)
 (hp:∀r,((M r).all λx=>within (os.map (·.1)) x.2)=true:=by intro r;kernel_rfl):lS S (dI S T) m where
 n:=fn
 az:=az
 os:=os
 E:=E
 M:=M
 k:=hk
 o:=B
 q:=D
 h r hr:=by
  have u:=yK z;have h1:=h (E r,M r) (by rw[hr];rfl)
  change jt S (dI S T) (AN (oO (T fn)).rs (os.map (·.1))) (oO (T fn)).body [] (start az os)=some (E r,M r)at h1;obtain⟨o,st',g1,g2,g3,g4⟩:=Tc h1;refine⟨st'.m,?_,λw=>back_eq g4 (hp r)⟩
  rw[qO u];unfold l9;rw[if_pos (Nat.le_of_ble_eq_true G),g1]
  cases o with
  | exit id=>exact absurd rfl (g2 id)
  | norm=>simp only[g3,Option.map_some]
  | ret=>simp only[g3,Option.map_some]
section
variable {S:Sys} {c:bN} {β γ δ:Type} {Q:Out×St->Option β} {e:γ->Option β} {cf:Cf}
theorem uv (n:Nat) {m:Option δ} (F:lS S c m) {f:δ->Option γ} (h:∀x,m=some x->Le ((f x).bind e) (b7 S c Q (nx S c n cf λp=>cU { p.st with m:=kJ p.st.m (F.M x) } p.d (.v (result (F.E x))))))
 (z:(gx S c n cf).map (λp=>(p.k,((bQ S.N p.st.g p.az).bind ku).bind λq=>(lu p.st.m q.2).map λos=>(q.1,q.2,os),p.dr))=some (.c,some (F.n,F.az,F.os),false):=by kernel_rfl):Le ((m.bind f).bind e) (b7 S c Q cf):=by
 obtain⟨p,B,hv⟩:=fF z;simp only[ζc]at hv;obtain⟨C,D,G⟩:=hv;obtain⟨q,g1,g2⟩:=ζg.1 D;obtain⟨u,g3,g4⟩:=ζg.1 g1;obtain⟨os,g5,g6⟩:=ζf.1 g2;simp only[ζc]at g6;obtain⟨e1,e2,rfl⟩:=g6;refine si B ?_ h;rw[C,G,zl _ _ _ _ _ _ u q.1 q.2 g3 g4];intro y w;obtain⟨r,hr,w⟩:=ζg.1 w;cases w;obtain⟨m',k1,I⟩:=F.h r hr;have J:S.prm F.n=none:=by
  have:=F.q
  cases L:S.prm F.n with
  | none=>rfl
  | some _=>rw[L]at this;cases this
 have:fe S c p.d false (!false||p.now) (fu p.st.m p.fr) q.1 q.2 p.st=some (.v (result (F.E r)),{ p.st with m:=kJ p.st.m (F.M r) }):=by
  unfold fe;rw[e1,e2]at *;simp only[F.k,F.o,J,g5,k1,jV,I,if_true,Bool.not_false,Bool.true_or,Bool.false_and,Bool.false_eq_true,if_false]
 rw[this];rfl
instance:Key ByteArray where
 kk:=.str
 ok _:=rfl
 eq a b:=by
  show some (a==b)=some (decide (a=b));rw[show (a==b)=decide (a=b)from Bool.eq_iff_iff.2 (by cases a;cases b;rename_i x y;show (x==y)=true↔_;simp)]
end
noncomputable def H8 (rs:List RV) (u:List Nat):Out×St->Option (bB×List V×c9)
 | (.exit _,_)=>none
 | (_,st)=>(jf st rs).bind λl=>match l with
  | .own d::r=>if u.contains d then none else(a_ st.m d).bind λob=>(dn r).bind λys=>(iV st.m u).map λos=>(ob,ys,os)
  | _=>none
theorem Tk {S:Sys} {c:bN} {rs:List RV} {u:List Nat} {rc:RC} {st:St} {ob:bB} {ys:List V} {os:c9} (h:jt S c (H8 rs u) rc [] st=some (ob,ys,os)) :
 ∃o st' d,cu S c rc st=some (o,st')/\(∀id,o≠.exit id)/\jf st' rs=some (.own d::ys.map .v)/\u.contains d=false/\a_ st'.m d=some ob/\iV st'.m u=some os:=by
 rw[mY]at h;obtain⟨⟨o,st'⟩,h1,z⟩:=ζg.1 h;have D:∀id,o≠.exit id:=by rintro id rfl;simp[H8]at z
 have G:(jf st' rs).bind (λl=>match l with|.own d::r=>if u.contains d then none else(a_ st'.m d).bind λob=>(dn r).bind λys=>(iV st'.m u).map λos=>(ob,ys,os)|_=>none)=some (ob,ys,os):=by
  cases o with
  | exit id=>exact absurd rfl (D id)
  | norm=>exact z
  | ret=>exact z
 obtain⟨l,I,w⟩:=ζg.1 G;split at w
 .split at w
  .cases w
  rename_i hc;obtain⟨J,L,O⟩:=ζg.1 w;obtain⟨U,Q,T⟩:=ζg.1 O;obtain⟨q,B,C⟩:=ζf.1 T;cases C;exact⟨o,st',_,h1,D,by rw[I,zi Q],by simpa using hc,L,B⟩
 cases w
structure Ss (S:Sys) (c:bN) {δ ε:Type} [bt δ] [iw ε] (m:Option (Sl δ×ε)) where
 n:FuncId
 az:List SV
 os:c9
 M:Sl δ×ε->c9
 k:S.E.keep n=true
 o:S.E.own n=false
 q:(S.prm n).isNone=true
 h:∀r,m=some r->∃e m',c n az os=some (.own e::(iw.e r.2).map .v,m')/\a_ m' e=some (c7 r.1)/\(os.map (·.1)).contains e=false/\∀m0,jr m' (os.map (·.1)) m0=some (kJ m0 (M r))
abbrev Ss.mk' {S:Sys} {T:oQ} {δ ε:Type} [bt δ] [iw ε] {m:Option (Sl δ×ε)} (fn:FuncId) (az:List SV) (os:c9) (M:Sl δ×ε->c9)
 (h:Le (m.bind λr=>some (c7 r.1,iw.e r.2,M r)) (b7 S (dI S T) (H8 (tr T fn) (os.map (·.1))) (.rc (tb T fn),[],start az os)))
 (z:(T fn).isSome=true:=by kernel_rfl) (hk:S.E.keep fn=true:=by kernel_rfl) (B:S.E.own fn=false:=by kernel_rfl) (D:(S.prm fn).isNone=true:=by kernel_rfl) (G:Nat.ble az.length (oO (T fn)).na=true:=by kernel_rfl)
 (hp:∀r,((M r).all λx=>within (os.map (·.1)) x.2)=true:=by intro r;kernel_rfl):Ss S (dI S T) m where
 n:=fn
 az:=az
 os:=os
 M:=M
 k:=hk
 o:=B
 q:=D
 h r hr:=by
  have u:=yK z;have h1:=h (c7 r.1,iw.e r.2,M r) (by rw[hr];rfl)
  change jt S (dI S T) (H8 (oO (T fn)).rs (os.map (·.1))) (oO (T fn)).body [] (start az os)=some (c7 r.1,iw.e r.2,M r)at h1;obtain⟨o,st',d,g1,g2,g3,g4,g5,g6⟩:=Tk h1;refine⟨d,st'.m,?_,g5,g4,λw=>back_eq g6 (hp r)⟩
  rw[qO u];unfold l9;rw[if_pos (Nat.le_of_ble_eq_true G),g1]
  cases o with
  | exit id=>exact absurd rfl (g2 id)
  | norm=>simp only[g3,Option.map_some]
  | ret=>simp only[g3,Option.map_some]
section
variable {S:Sys} {c:bN} {β γ:Type} {Q:Out×St->Option β} {e:γ->Option β} {cf:Cf}
end
structure P9 (S:Sys) (c:bN) {α δ:Type} [bt δ] (fn:FuncId) (A:α->List V) (p:α->Option (Sl δ)):Prop where
 k:S.E.keep fn=true
 o:S.E.own fn=false
 q:(S.prm fn).isNone=true
 h:∀z s,p z=some s->∃e m',c fn ((A z).map .v) []=some ([.own e],m')/\a_ m' e=some (c7 s)
theorem P9.mk' {S:Sys} {T:oQ} {α δ:Type} [bt δ] (rf:RF) {fn:FuncId} {A:α->List V} {p:α->Option (Sl δ)} (h:∀z,Le ((p z).bind λr=>some (c7 r)) (b7 S (dI S T) (Ck rf.rs) (.rc rf.body,[],start ((A z).map .v) [])))
 (u:T fn=some rf:=by kernel_rfl) (hk:S.E.keep fn=true:=by kernel_rfl) (B:S.E.own fn=false:=by kernel_rfl) (D:(S.prm fn).isNone=true:=by kernel_rfl) (G:∀z,(A z).length<=rf.na:=by intro z;exact Nat.le_of_ble_eq_true (by kernel_rfl)):P9 S (dI S T) fn A p where
 k:=hk
 o:=B
 q:=D
 h z s w:=by
  have h1:=h z (c7 s) (by rw[w];rfl)
  change jt S (dI S T) (Ck rf.rs) rf.body [] (start ((A z).map .v) [])=some (c7 s)at h1;obtain⟨o,st',d,g1,g2,g3,g4⟩:=SC h1;refine⟨d,st'.m,?_,g4⟩;rw[qO u];unfold l9;rw[if_pos (by simpa using G z),g1]
  cases o with
  | exit id=>exact absurd rfl (g2 id)
  | norm=>simp only[g3,Option.map_some]
  | ret=>simp only[g3,Option.map_some]
theorem D2:∀l:List V,SV.pL (l.map .v)=[]
 | []=>rfl
 | a::l=>by simp only[List.map_cons,SV.pL,SV.zA,D2 l,List.append_nil]
theorem I5 {m:Tb bB} (l:List V):lu m (l.map .v)=some []:=by
 unfold lu;rw[D2];rfl
section
variable {S:Sys} {c:bN} {β γ δ α:Type} [bt δ] {Q:Out×St->Option β} {e:γ->Option β} {cf:Cf}
end
def Mg (s:Nat) (v:SV) (cf:Cf):Cf:=(cf.1,cf.2.1,{ cf.2.2 with g:=bH cf.2.2.g s v })
section
variable {S:Sys} {c:bN} {β γ δ:Type} {Q:Out×St->Option β} {e:γ->Option β} {cf:Cf}
theorem ir (n s:Nat) {v u:V} (hv:v=u) {m:Option β} (h:Le m (b7 S c Q (Mg s (.v u) (gR S c n cf))))
 (z:(gi S c n cf.1 cf.2.1 cf.2.2).map (λp=>a_ p.2.2.g s)=some (some (.v v)):=by kernel_rfl):Le m (b7 S c Q cf):=by
 subst hv;obtain⟨p,w,hv⟩:=fF z;have hg:gR S c n cf=p:=by unfold gR;grind
 rw[hg]at h;refine yg w ?_;have:Mg s (.v v) p=p:=by unfold Mg;rw[nX hv]
 rw[this]at h;exact h
end
def fH {α δ:Type} (b:(α->Option δ)->α->Option δ):Nat->α->Option δ
 | 0,_=>none
 | n+1,z=>b (fH b n) z
theorem iC.fix {S:Sys} {c:bN} {α δ:Type} {fn:FuncId} {A:α->List V} {E:δ->List V} {sc:Bool} {b:(α->Option δ)->α->Option δ} (hk:S.E.keep fn=false) (u:sc=true->∀r,(result (E r)).scalar=true)
 (h:∀r,iC S c fn A E r sc->∀z,Le ((b r z).bind λr=>some (E r)) (iQ c fn (A z))):∀n,iC S c fn A E (fH b n) sc
 | 0=>⟨hk,λ_=>Le.none _,u⟩
 | n+1=>⟨hk,h _ (iC.fix hk u h n),u⟩
structure uo (S:Sys) (c:bN) {α δ:Type} (fn:FuncId) (A:α->List SV) (O:α->c9) (E:δ->List V) (M:α->δ->c9) (p:α->Option δ):Prop where
 k:S.E.keep fn=true
 o:S.E.own fn=false
 q:(S.prm fn).isNone=true
 h:∀z r,p z=some r->∃m',c fn (A z) (O z)=some ((E r).map .v,m')/\∀m0,jr m' ((O z).map (·.1)) m0=some (kJ m0 (M z r))
abbrev lS.of {S:Sys} {c:bN} {α δ:Type} {fn:FuncId} {A:α->List SV} {O:α->c9} {E:δ->List V} {M:α->δ->c9} {p:α->Option δ} (z:α) (F:uo S c fn A O E M p):lS S c (p z):=⟨fn,A z,O z,E,M z,F.k,F.o,F.q,F.h z⟩
theorem uo.fix {S:Sys} {c:bN} {α δ:Type} {fn:FuncId} {A:α->List SV} {O:α->c9} {E:δ->List V} {M:α->δ->c9} {b:(α->Option δ)->α->Option δ} (k:S.E.keep fn=true) (o:S.E.own fn=false) (q:(S.prm fn).isNone=true)
 (h:∀r,uo S c fn A O E M r->∀z u,b r z=some u->∃m',c fn (A z) (O z)=some ((E u).map .v,m')/\∀B,jr m' ((O z).map (·.1)) B=some (kJ B (M z u))):∀n,uo S c fn A O E M (fH b n)
 | 0=>⟨k,o,q,λ_ _ h=>by cases h⟩
 | n+1=>⟨k,o,q,h _ (uo.fix k o q h n)⟩
structure vP (S:Sys) (c:bN) {α σ:Type} [bt α] (cl:SV) (g:FuncId) (e:List SV) (os:σ->c9) (p:α->σ->Option (Bool×σ)):Prop where
 cs:∀vs,ku (cl::vs)=some (g,vs++e)
 hd:∀(s:σ) (a:V),lu (os s) [.v a,cl]=some (os s)
 tk:∀s s',iV (os s') ((os s).map (·.1))=some (os s')
 wi:∀s s',((os s').all λx=>within ((os s).map (·.1)) x.2)=true
 put:∀s s',kJ (os s) (os s')=os s'
 h:∀x s r,p x s=some r->∀(dst:Option Nat) (old:List SV->Bool) (st:St),st.m=os s->fe S c dst false true old g (.v (enc x)::e) st=some (.v (.bool r.1),{ st with m:=os r.2 })
section
variable {S:Sys} {c:bN} {α σ:Type} [bt α] {g:FuncId}
theorem vP.Qg {e:List V} {p:α->Option Bool} (F:gI S c g [] e (λz:α=>[enc z]) (λr:Bool=>[.bool r]) p true):vP S c (.v (.clo g [] e)) g (e.map .v) (λ_:Unit=>[]) (λx u=>(p x).map λb=>(b,u)) where
 cs vs:=rfl
 hd s a:=I5 [a,.clo g [] e]
 tk _ _:=rfl
 wi _ _:=rfl
 put _ _:=rfl
 h x s r hr dst C st w:=by
  obtain⟨b,D,rfl⟩:=ζf.1 hr;have B:iQ c g (enc x::e)=some [.bool b]:=F.f.h x [.bool b] (by rw[D];rfl)
  have e1:{ st with m:=([]:c9) }=st:=by
   cases st;simp only at w;subst w;rfl
  rw[e1];unfold iQ at B;obtain⟨⟨rs,m'⟩,h1,G⟩:=ζg.1 B;have hk:=F.f.k;unfold fe;have I:cQ st.m 8 (.v (enc x)::e.map .v)=some (enc x::e):=yO 8 (enc x::e);simp only[hk,I,h1,G,Bool.false_eq_true,if_false,Bool.true_or,if_true,result,V.scalar]
theorem vP.Tp {e:List SV} {os:σ->c9} {p:α->σ->Option (Bool×σ)} [Inhabited α] [Inhabited σ] (F:∀x s,lS S c (p x s)) (J:∀x s,(F x s).n=g:=by intro _ _;kernel_rfl) (T:∀x s,(F x s).az=.v (enc x)::e:=by intro _ _;kernel_rfl) (B:∀x s,(F x s).os=os s:=by intro _ _;kernel_rfl)
 (U:∀x s,(F x s).E=λr=>[.bool r.1]:=by intro _ _;kernel_rfl) (hM:∀x s,(F x s).M=λr=>os r.2:=by intro _ _;kernel_rfl)
 (hd:∀s:σ,iV (os s) (reach (os s) 32 (SV.pL e) [])=some (os s):=by intro _;kernel_rfl)
 (tk:∀s u,iV (os u) ((os s).map (·.1))=some (os u):=by intro _ _;kernel_rfl) (wi:∀s u,((os u).all λx=>within ((os s).map (·.1)) x.2)=true:=by intro _ _;kernel_rfl) (put:∀s u,kJ (os s) (os u)=os u:=by intro _ _;kernel_rfl):vP S c (.clo g [] e) g e os p where
 cs vs:=rfl
 hd s a:=by
  have:SV.pL [.v a,.clo g [] e]=SV.pL e:=by simp[SV.pL,SV.zA]
  unfold lu;rw[this];exact hd s
 tk:=tk
 wi:=wi
 put:=put
 h x s r hr dst I st z:=by
  obtain⟨m',k1,w⟩:=(F x s).h r hr;have hk:=(F x s).k;have C:=(F x s).o;have D:S.prm (F x s).n=none:=by
   have:=(F x s).q
   cases L:S.prm (F x s).n with
   | none=>rfl
   | some _=>rw[L]at this;cases this
  rw[J]at hk C D k1;rw[T,B,U]at k1;rw[B,hM]at w;have G:lu st.m (.v (enc x)::e)=some (os s):=by rw[z];exact hd s
  have w:=w (os s);rw[put]at w;rw[<-z]at w;unfold fe;rw[z]at G w ⊢;simp only[hk,C,D,G,k1,w,jV,List.map_cons,List.map_nil,dn,Option.map_some,if_true,Bool.false_and,Bool.false_eq_true,if_false,result]
end
def Bi {α σ:Type} (s0:Sl α) (p:α->σ->Option (Bool×σ)) (q:Int×σ):Option (Fw (Int×σ) σ (Int×σ)):=
 bn (decide (q.1<len s0)) ((idx s0 q.1).bind λx=>(p x q.2).bind λy=>bn y.1 (some (.r (q.1,y.2))) (some (.n (IntKind.wrap .i64 (q.1+1),y.2)))) (some (.x q.2))
noncomputable def Mb {α σ:Type} (s0:Sl α) (p:α->σ->Option (Bool×σ)) (x:σ):Option (Int×σ):=(c_ (Bi s0 p) (0,x)).bind (Fw.elim (λe=>some (-1,e)) λe=>some e)
noncomputable def xB {α σ:Type} (s0:Sl α) (p:α->σ->Option (Bool×σ)) (x:σ):Option (Bool×σ):=(Mb s0 p x).bind λy=>some (decide (y.1>=0),y.2)
section
variable {S:Sys} {c:bN} {α σ β γ:Type} [bt α] {g:FuncId} {Q:Out×St->Option β} {e:γ->Option β} {cf:Cf}
theorem JN (n:Nat) {cl:SV} {ex:List SV} {os:σ->c9} {p:α->σ->Option (Bool×σ)} (F:vP S c cl g ex os p) (x:α) (s:σ) {f:Bool×σ->Option γ} (h:∀r,p x s=some r->Le ((f r).bind e) (b7 S c Q (nx S c n cf λq=>cU { q.st with m:=os r.2 } q.d (.v (.bool r.1)))))
 (z:(gx S c n cf).map (λq=>(q.k,bQ S.N q.st.g q.az,q.dr,q.st.m))=some (.c,some [cl,.v (enc x)],false,os s):=by kernel_rfl):Le (((p x s).bind f).bind e) (b7 S c Q cf):=by
 obtain⟨q,w,hv⟩:=fF z;simp only[ζc]at hv;obtain⟨h1,B,C,D⟩:=hv;refine si w ?_ h;rw[h1,C,zl _ _ _ _ _ _ _ g ([.v (enc x)]++ex) B (F.cs [.v (enc x)])];intro y u;obtain⟨r,hr,u⟩:=ζg.1 u;cases u;have:=F.h x s r hr q.d (fu q.st.m q.fr) q.st D;rw[show (!false||q.now)=true from rfl,List.singleton_append,this];rfl
theorem Ff {cl:SV} {ex:List SV} {os:σ->c9} {p:α->σ->Option (Bool×σ)} (F:vP S c cl g ex os p) {rs:List RV} {st:St} {s u:σ} {ys:List V} (h1:jf st rs=some (ys.map .v)) (z:st.m=os u):AN rs ((os s).map (·.1)) (.ret,st)=some (ys,os u):=by
 show ((jf st rs).bind λl=>(dn l).bind λys=>(iV st.m ((os s).map (·.1))).map λos=>(ys,os))=_
 rw[h1,z,F.tk s u];simp only[ζb,jV,Option.map_some]
theorem DP (n:Nat) {cl:SV} {ex:List SV} {os:σ->c9} {p:α->σ->Option (Bool×σ)} (F:vP S c cl g ex os p) {rs:List RV} {s u:σ} {r:γ} {e:γ->Option (List V×c9)} (ys:List V) (z:e r=some (ys,os u))
 (B:(gi S c n cf.1 cf.2.1 cf.2.2).map (λq=>(q.1,jf q.2.2 rs,q.2.2.m))=some (.rt,some (ys.map .v),os u):=by kernel_rfl):Le ((some r).bind e) (b7 S c (AN rs ((os s).map (·.1))) cf):=by
 obtain⟨⟨fo,fs,st'⟩,w,hv⟩:=fF B;simp only[ζc]at hv;obtain⟨rfl,C,D⟩:=hv;refine yg w (Le.of_eq ?_);show rn S c _ Fo.rt fs st'=e r;rw[z];exact Ff F C D
theorem Hw (n:Nat) {δ:Type} {m:Option δ} (F:lS S c m) (D:lu F.os F.az=some F.os) (hp:∀x,kJ F.os (F.M x)=F.M x) {f:δ->Option γ} (h:∀x,m=some x->Le ((f x).bind e) (b7 S c Q (nx S c n cf λp=>cU { p.st with m:=F.M x } p.d (.v (result (F.E x))))))
 (G:(gx S c n cf).map (λp=>(p.k,(bQ S.N p.st.g p.az).bind ku,p.dr,p.st.m))=some (.c,some (F.n,F.az),false,F.os):=by kernel_rfl):Le ((m.bind f).bind e) (b7 S c Q cf):=by
 obtain⟨p,w,hv⟩:=fF G;simp only[ζc]at hv;obtain⟨I,J,L,C⟩:=hv;obtain⟨z,g3,g4⟩:=ζg.1 J;refine si w ?_ h;rw[I,L,zl _ _ _ _ _ _ z F.n F.az g3 g4];intro y B;obtain⟨r,hr,B⟩:=ζg.1 B;cases B;obtain⟨m',k1,u⟩:=F.h r hr;have w:S.prm F.n=none:=by
  have:=F.q
  cases O:S.prm F.n with
  | none=>rfl
  | some _=>rw[O]at this;cases this
 have u:=u p.st.m;rw[C,hp]at u;have:fe S c p.d false (!false||p.now) (fu p.st.m p.fr) F.n F.az p.st=some (.v (result (F.E r)),{ p.st with m:=F.M r }):=by
  unfold fe;rw[C];simp only[F.k,F.o,w,D,k1,u,jV,if_true,Bool.not_false,Bool.true_or,Bool.false_and,Bool.false_eq_true,if_false]
 rw[this];rfl
theorem O9 (n:Nat) {δ:Type} {m:Option δ} (F:lS S c m) {f:δ->Option γ} (h:∀x,m=some x->Le ((f x).bind e) (b7 S c Q (nx S c n cf λp=>cU { p.st with m:=kJ p.st.m (F.M x) } p.d (.v (result (F.E x))))))
 (D:(gx S c n cf).map (λp=>(p.k,((bQ S.N p.st.g p.az).bind ku).bind λq=>(lu p.st.m q.2).map λos=>(q.1,q.2,os),p.dr,p.now))=some (.c,some (F.n,F.az,F.os),true,true):=by kernel_rfl)
 (u:∀x,(gx S c n cf).map (λp=>V.cF (F.E x)&&F.os.all λy=>vA (kJ p.st.m (F.M x)) y.1)=some true:=by intro x;kernel_rfl):Le ((m.bind f).bind e) (b7 S c Q cf):=by
 obtain⟨p,B,hv⟩:=fF D;simp only[ζc]at hv;obtain⟨C,G,I,J⟩:=hv;obtain⟨q,g1,g2⟩:=ζg.1 G;obtain⟨w,g3,g4⟩:=ζg.1 g1;obtain⟨os,g5,g6⟩:=ζf.1 g2;simp only[ζc]at g6;obtain⟨e1,e2,rfl⟩:=g6;refine si B ?_ h;rw[C,I,zl _ _ _ _ _ _ w q.1 q.2 g3 g4];intro y z;obtain⟨r,hr,z⟩:=ζg.1 z;cases z;obtain⟨m',k1,L⟩:=F.h r hr;have O:S.prm F.n=none:=by
  have:=F.q
  cases T:S.prm F.n with
  | none=>rfl
  | some _=>rw[T]at this;cases this
 have u:=u r;rw[B]at u;have u:=Option.some.inj u;have:fe S c p.d true (!true||p.now) (fu p.st.m p.fr) q.1 q.2 p.st=some (.v (result (F.E r)),{ p.st with m:=kJ p.st.m (F.M r) }):=by
  unfold fe;rw[e1,e2]at *;simp only[F.k,F.o,O,g5,k1,L,J,u,jV,if_true,Bool.not_true,Bool.true_and,Bool.or_true,Bool.false_eq_true,if_false]
 rw[this];rfl
end
section
variable {S:Sys} {c:bN} {β γ δ α:Type} [bt δ] {Q:Out×St->Option β} {e:γ->Option β} {cf:Cf}
theorem NQ (n u:Nat) {fn:FuncId} {A:α->List V} {p:α->Option (Sl δ)} (F:Aw S c fn A p) (z:α) {f:Sl δ->Option γ}
 (h:∀x,(p z).bind Sl.whole=some x->Le ((f x).bind e) (b7 S c Q (nx S c n cf λq=>{ q.st with g:=bH q.st.g u (.own u),m:=bH q.st.m u (c7 x) })))
 (T:(gx S c n cf).map (λq=>(q.d,q.k,((bQ S.N q.st.g q.az).bind ku).bind λr=>(mC (gT q.st.m 8) r.2).map λvs=>(r.1,vs),(!q.dr||q.now),q.st.new u))=some (some u,.c,some (fn,A z),true,true):=by kernel_rfl):Le ((((p z).bind Sl.whole).bind f).bind e) (b7 S c Q cf):=by
 obtain⟨q,U,hv⟩:=fF T;simp only[ζc]at hv;obtain⟨W,X,Y,Z,O⟩:=hv;obtain⟨⟨B,args⟩,D,g3⟩:=ζg.1 Y;obtain⟨G,g1,g2⟩:=ζg.1 D;obtain⟨vs,g4,g5⟩:=ζf.1 g3;simp only[ζc]at g5;obtain⟨rfl,rfl⟩:=g5;refine si U ?_ h;rw[W,X];intro y I;obtain⟨s',J,I⟩:=ζg.1 I;cases I;obtain⟨s,hs,C⟩:=ζg.1 J;obtain⟨e0,m',hc,hm⟩:=F.h z s hs;rw[zl q.dr _ _ _ _ _ G B args g1 g2];have L:cQ q.st.m 8 args=some (A z):=by rw[(vN q.st.m 8).2];exact g4
 have w:fe S c (some u) q.dr (!q.dr||q.now) (fu q.st.m q.fr) B args q.st=some (.own u,{ q.st with m:=bH q.st.m u (c7 s') }):=by
  unfold fe;simp only[F.k,F.o,if_true,Z,L,hc,dn,hm,c7,O]
  cases s with
  | nil=>cases C;rfl
  | emp=>cases C;rfl
  | row l=>
   cases C;have:mK (rows l)=true:=by
    unfold mK;rw[List.all_eq_true];intro x hx;obtain⟨a,_,rfl⟩:=List.mem_map.1 hx;exact F.sc a
   simp only[Sl.k,Sl.l,dn,V.cF,this,Bool.and_self,O,if_true];rfl
  | part l=>cases C
 rw[w];rfl
end
def Qw:Out×St->Option (List (List V))
 | (.exit _,_)=>none
 | (_,st)=>some st.want
noncomputable def yl (u:List (List V)) (more:Bool) (xs:List V):Option (Bool×List (List V)):=match u with
 | w::r=>open Classical in if w=xs then some (more || !r.isEmpty,r)else none
 | []=>none
section
variable {S:Sys} {c:bN} {β γ:Type} {Q:Out×St->Option β} {e:γ->Option β} {cf:Cf}
theorem Sz (n:Nat) {z:List (List V)} {more:Bool} (xs:List V) {f:Bool×List (List V)->Option γ}
 (h:∀r,yl z more xs=some r->Le ((f r).bind e) (b7 S c Q (nx S c n cf λq=>cU { q.st with want:=r.2 } q.d (.v (.bool r.1)))))
 (D:(gx S c n cf).map (λq=>(q.k,bQ S.N q.st.g q.az,q.st.want,q.st.more,q.dr))=some (.c,some (.yl ((gx S c n cf).elim 0 λq=>q.st.yid)::xs.map .v),z,more,false):=by kernel_rfl):Le (((yl z more xs).bind f).bind e) (b7 S c Q cf):=by
 obtain⟨q,C,hv⟩:=fF D;simp only[ζc]at hv;obtain⟨h1,u,G,I,J⟩:=hv;rw[C]at u;refine si C ?_ h;intro y B;obtain⟨r,hr,B⟩:=ζg.1 B;cases B;unfold yl at hr;split at hr
 .rename_i w O;split at hr
  next L=>cases hr;rw[h1,J];unfold eT;have u:bQ S.N q.st.g q.az=some (.yl q.st.yid::xs.map .v):=u;simp only[wanted,e9,u,jV,G,L,I,if_true,and_self,Bool.false_eq_true,if_false]
  cases hr
 cases hr
theorem L9 {S B:Sys} {c:bN} (T:B.E=S.E) (U:∀f q,S.prm f=some q->nS S.E f q) (hS:gY S c) (W:∀f a b xs,S.items f a b=some xs->eR S f a b xs) {f:FuncId} {fi:FI} {nm:FuncId->Option Nat} {rf:RF} (D:S.E.ft f=some fi) (Y:∀g s,nm g=some s->S.N s=g) (hr:uW S.E nm fi rf) {a b:List V} {xs:List (List V)} (z:a.length+1+b.length<=rf.na) (G:rf.rs=[])
 (h:∀u more,sL u xs more->∀yid,b7 S c Qw (.rc rf.body,[],⟨sS 0 (a.map .v++.yl yid::b.map .v),[],[],u,more,yid⟩)=some []):eR B f a b xs:=by
 have k:eR S f a b xs:=Hq U hS W D Y hr z G (λu more C yid=>by
  have h1:=h u more C yid;change jt S c Qw rf.body [] _=some []at h1;rw[mY]at h1;obtain⟨⟨o,st'⟩,I,w⟩:=ζg.1 h1;refine⟨o,st',I,?_,?_,rfl⟩
  .rintro id rfl;simp[Qw]at w
  cases o <;> simp[Qw]at w <;> exact w)
 obtain⟨E',N',it,xq,prm⟩:=B;simp only at T;subst T;intro u more C yid J y Z L O H h1 I w Q X;exact k u more C yid J ⟨y.uz,y.yield⟩ Z L O H h1 I w Q X
end
section
variable {S:Sys} {c:bN} {β γ α:Type} [bt α] {Q:Out×St->Option β} {e:γ->Option β} {cf:Cf}
end
namespace catX
instance {n:Nat}:OfNat Arg n:=⟨.s n⟩
def ln:K:=.p .lenSl
def ix:K:=.p (.idxS 1)
def bI (o:BinOp):K:=.p (.bin (some .int) none o)
def ld:K:=.r (.load 1 false)
def g1:List RO:=[o1 4 (.k (.bM)) []]
def g2:List RO:=[o1 5 1 [],o2 6 (bI .lss) [5,.k (.int .i64 0)] []]
def g3:List RO:=[o2 7 (.p (.bad)) [] [],⟨none,none,false,.p .bad,[],[],[]⟩]
def g4:List RO:=[o1 8 1 [],o1 9 0 [],o2 10 (.p (.capSl)) [9] [],o1 11 0 [],o2 12 ln [11] [],o2 13 (bI .sub) [10,12] [],o2 14 (bI .sub) [8,13] [],o1 1 14 []]
def g5:List RO:=[o1 15 1 [],o2 16 (bI .gtr) [15,.k (.int .i64 0)] []]
def g6:List RO:=[o1 17 0 [],o1 18 0 [],o2 19 (.p (.capSl)) [18] [],o2 20 (.p (.slice 1 false true)) [17,19] [],o1 21 1 [],o2 22 (.l (.appMk 1 24 [.bM])) [20,21] [],o1 23 0 [],o2 24 ln [23] [],o2 25 (.p (.slice 1 false true)) [22,24] [],o1 0 25 []]
def g7:List RO:=[o1 26 0 [],o1 4 26 []]
def grow:RC:=.seq (.ops g1) (.seq (.seq (.ops g2) (.cond (.s 6) (.ops g3) (.skip))) (.seq (.seq (.ops g4) (.seq (.ops g5) (.cond (.s 16) (.ops g6) (.skip)))) (.seq (.ops g7) (.ret))))
section
variable {E:Env} {N:Nat->FuncId} {t:Nat}
end
end catX
namespace catX
def r1:List RO:=[o1 2 (.k (.bM)) []]
def r2:List RO:=[o1 3 (.k (.int .i64 0)) []]
def r3:List RO:=[o1 9 0 [],o2 10 ln [9] [],o1 11 (.k (.int .i64 0)) []]
def r4:List RO:=[o2 12 (bI .lss) [11,10] []]
def r5:List RO:=[o2 13 ix [9,11] [],o2 14 ld [13] [],o1 5 14 []]
def r6:List RO:=[o1 15 3 [],o1 16 5 [],o2 17 ln [16] [],o2 18 (bI .add) [15,17] [],o1 3 18 []]
def r7:List RO:=[o1 19 3 [],o2 20 (bI .lss) [19,.k (.int .i64 0)] []]
def r8:List RO:=[o2 21 (.p (.bad)) [] [],⟨none,none,false,.p .bad,[],[],[]⟩]
def r9:List RO:=[o2 22 (bI .add) [11,.k (.int .i64 1)] [],o1 11 22 []]
def N0 (gid:Nat):List RO:=[o1 23 3 [],o2 24 .c [.f gid,.k (.bM),23] [],o1 6 24 []]
def NI:List RO:=[o1 25 0 [],o2 26 ln [25] [],o1 27 (.k (.int .i64 0)) []]
def N6:List RO:=[o2 28 (bI .lss) [27,26] []]
def Nq:List RO:=[o2 29 ix [25,27] [],o2 30 ld [29] [],o1 8 30 []]
def Qn:List RO:=[o1 31 6 [],o1 32 8 [],o2 33 (.l (.append 1)) [31,32] [],o1 6 33 []]
def QG:List RO:=[o2 34 (bI .add) [27,.k (.int .i64 1)] [],o1 27 34 []]
def Ri:List RO:=[o1 35 6 [],o1 2 35 []]
section
variable {E:Env} {N:Nat->FuncId} {F:Frame} {H:bf} {α:Type} [bt α] {s:Sl (Sl α)} {i:Nat}
theorem el {u:Sl α} (h:s.l[i]? = some u):kK 1 (b_ s) (i:Int)=some (.fptr [b_ u]):=by
 have:=Hl (N:=λn=>n) s .i64 (i:Int) 1 rfl
 simp only[bq]at this;rw[this,show idx s (i:Int)=some u from by unfold idx;rw[if_pos Za];exact h];rfl
theorem Tl (s:Sl α):o4 (b_ s)=some (.int .i64 s.l.length):=by
 have:=FL (N:=λn=>n) s;simpa only[bq]using this
theorem y3:(get F 0=b_ s->∃F',(∀call,eC E N call none r3 F H=some (F',H))/\get F' 9=b_ s/\get F' 10=.int .i64 s.l.length/\get F' 11=.int .i64 0/\∀j,j<9->get F' j=get F j) /\
 (get F 0=b_ s->∃F',(∀call,eC E N call none NI F H=some (F',H))/\get F' 25=b_ s/\get F' 26=.int .i64 s.l.length/\get F' 27=.int .i64 0/\∀j,j<9->get F' j=get F j):=by
 have h:=Tl s;refine⟨λf0=>⟨_,λcall=>vp (v:=b_ s) rfl ?_ <| vp (v:=.int .i64 s.l.length) rfl ?_ <| vp (v:=.int .i64 0) rfl ?_ jd,?_,?_,?_,?_⟩,λf0=>⟨_,λcall=>vp (v:=b_ s) rfl ?_ <| vp (v:=.int .i64 s.l.length) rfl ?_ <| vp (v:=.int .i64 0) rfl ?_ jd,?_,?_,?_,?_⟩⟩ <;>
 first
 | (simp[cK,bV,bq,f0];done)
 | (simp only[cK,List.map_cons,List.map_nil,bV,bX,ck,Nat.reduceEqDiff,if_true,if_false,bq,ln,h];rfl)
 | (simp[cK,bV,bq,bX];done)
 | (simp[bX];done)
 | (intro j u;simp only[bX,ck];repeat (rw[if_neg Za]))
theorem y4 {n:Nat}:(get F 11=.int .i64 i->get F 10=.int .i64 n->∃F',(∀call,eC E N call none r4 F H=some (F',H))/\get F' 12=.bool (decide (i<n))/\∀j,j<12->get F' j=get F j) /\
 (get F 27=.int .i64 i->get F 26=.int .i64 n->∃F',(∀call,eC E N call none N6 F H=some (F',H))/\get F' 28=.bool (decide (i<n))/\∀j,j<28->get F' j=get F j):=by
 refine⟨λf u=>⟨_,λcall=>vp (v:=.bool (decide (i<n))) rfl ?_ jd,?_,?_⟩,λf u=>⟨_,λcall=>vp (v:=.bool (decide (i<n))) rfl ?_ jd,?_,?_⟩⟩ <;>
 first
 | (simp[cK,bV,bq,bX,bI,j8,qT,f,u];done)
 | (simp[bX];done)
 | (intro j w;simp only[bX,ck];repeat (rw[if_neg Za]))
theorem y5 {u:Sl α} (h:s.l[i]? = some u):(get F 9=b_ s->get F 11=.int .i64 i->∃F',(∀call,eC E N call none r5 F H=some (F',H))/\get F' 5=b_ u/\∀j,j<12->j≠5->get F' j=get F j) /\
 (get F 25=b_ s->get F 27=.int .i64 i->∃F',(∀call,eC E N call none Nq F H=some (F',H))/\get F' 8=b_ u/\∀j,j<28->j≠8->get F' j=get F j):=by
 have e:=el h;have e2:fS H (.load 1 false) [.fptr [b_ u]]=some (b_ u):=by simp[fS,dY,cut,mk]
 refine⟨λf w=>⟨_,λcall=>vp (v:=.fptr [b_ u]) rfl ?_ <| vp (v:=b_ u) rfl ?_ <| vp (v:=b_ u) rfl ?_ jd,?_,?_⟩,λf w=>⟨_,λcall=>vp (v:=.fptr [b_ u]) rfl ?_ <| vp (v:=b_ u) rfl ?_ <| vp (v:=b_ u) rfl ?_ jd,?_,?_⟩⟩ <;>
 first
 | (simp only[cK,List.map_cons,List.map_nil,bV,bX,ck,Nat.reduceEqDiff,if_true,if_false,bq,ix,f,w,e,Option.map_some];done)
 | (simp only[cK,List.map_cons,List.map_nil,bV,bX,ck,Nat.reduceEqDiff,if_true,if_false,ld];rw[e2];rfl)
 | (simp[cK,bV,bq,bX];done)
 | (simp[bX];done)
 | (intro j B z;simp only[bX,ck];rw[if_neg (Ne.symm z)];repeat (rw[if_neg Za]))
structure Acc (H:bf) (w:V) (acc:List (List V)):Prop where
 el:dH H 1 w=some acc
 gr:∃H1,gq H w=some H1/\H1.length=H.length
 sh:w=.bM/\acc=[]\/∃id xs,w=.hsl id 1 0 acc.length/\H[id]? = some (.row 1 xs)/\(acc≠[]->xs=acc)
def upto (s:Sl (Sl α)) (i:Nat):List α:=(s.l.take i).flatMap Sl.l
end
end catX
def w8 (op:Bool) (x y:Int):Int:=cond op x y
@[simp] theorem R3 (x y:Int):w8 true x y=x:=rfl
@[simp] theorem R5 (x y:Int):w8 false x y=y:=rfl
namespace setX
instance {n:Nat}:OfNat Arg n:=⟨.s n⟩
def fa (k:Nat):K:=.p (.fieldAddr k)
def ld:K:=.r (.load 1 false)
def r1:List RO:=[o2 4 (.a .box) [1] [],o2 5 (.a .box) [2] []]
def r2:List RO:=[o1 6 0 [],o2 7 (fa 0) [4] [],o2 8 ld [7] [],o2 9 (fa 1) [4] [],o2 10 ld [9] [],o2 11 (.p (.idxS 1)) [6,8] [],⟨none,none,false,.l (.store 1),[11,10],[],[]⟩]
def r3:List RO:=[o1 6 0 [],o2 7 (fa 0) [5] [],o2 8 ld [7] [],o2 9 (fa 1) [5] [],o2 10 ld [9] [],o2 11 (.p (.bin (some .int) none .sub)) [10,.k (.int .i64 1)] [],o2 12 (.p (.idxS 1)) [6,8] [],⟨none,none,false,.l (.store 1),[12,11],[],[]⟩]
def code (op:Bool):RC:=.seq (.ops r1) (.ops (if op then r3 else r2))
section
variable {E:Env} {N:Nat->FuncId} {H:bf} {id off L:Nat} {rs:List (List V)}
theorem NN {h:Nat} {x y:V} {i:Nat} {v:V} (u:H[h]? = some (.row 2 [[x,y]])) (hv:[x,y][i]? = some v):fS H (.load 1 false) [.hptr h 0 i]=some v:=by
 match i,hv with
 | 0,hv=>cases hv;simp[fS,dY,u,Ob.rows,cut,mk]
 | 1,hv=>cases hv;simp[fS,dY,u,Ob.rows,cut,mk]
 | i+2,hv=>simp at hv
theorem whole (op:Bool) {a b c d:Int} (D:H[id]? = some (.row 1 rs)) (hp:0<=(w8 op c a)) (u:(w8 op c a).toNat<L) {z:V} (B:rs[off+(w8 op c a).toNat]? = some [z]) :
 ∃F' X,Ex E N (code op) [.hsl id 1 off L,.agg [.int .i64 a,.int .i64 b],.agg [.int .i64 c,.int .i64 d]] H .norm F' ((H++X).set id (.row 1 (rs.set (off+(w8 op c a).toNat) [.int .i64 (w8 op (IntKind.wrap .i64 (d-1)) b)]))):=by
 let X:bf:=[.row 2 [[.int .i64 a,.int .i64 b]],.row 2 [[.int .i64 c,.int .i64 d]]]
 have I:=(ζe.1 D).1;have e1:∃F1,(∀call,eC E N call none r1 [.hsl id 1 off L,.agg [.int .i64 a,.int .i64 b],.agg [.int .i64 c,.int .i64 d]] H=some (F1,H++X))/\get F1 0=.hsl id 1 off L/\get F1 4=.hptr H.length 0 0/\get F1 5=.hptr (H.length+1) 0 0:=by
  refine⟨_,λcall=>wk (v:=.hptr H.length 0 0) (H1:=H++[.row 2 [[.int .i64 a,.int .i64 b]]]) rfl ?_ <| wk (v:=.hptr (H.length+1) 0 0) (H1:=H++X) rfl ?_ jd,?_,?_,?_⟩
  .simp[cK,bV,get,kL,V.cells,V.one,Mk.val]
  .simp[cK,bV,get,bX,set,kL,V.cells,V.one,Mk.val,X]
  .simp[bX];rfl
  .simp[bX]
  simp[bX]
 obtain⟨F1,p1,p2,p3,p4⟩:=e1;have h1:(H++X)[id]? = some (.row 1 rs):=by rw[List.getElem?_append_left I];exact D
 have J:(H++X)[H.length]? = some (.row 2 [[.int .i64 a,.int .i64 b]]):=by simp[X]
 have O:(H++X)[H.length+1]? = some (.row 2 [[.int .i64 c,.int .i64 d]]):=by
  rw[List.getElem?_append_right Za];simp[X]
 obtain⟨H1,Q⟩:∃H1,H1=H++X:=⟨_,rfl⟩;rw[<-Q]at h1 J O;rw[<-Q]at p1
 suffices W:∃F',Ex E N (code op) [.hsl id 1 off L,.agg [.int .i64 a,.int .i64 b],.agg [.int .i64 c,.int .i64 d]] H .norm F' (H1.set id (.row 1 (rs.set (off+(w8 op c a).toNat) [.int .i64 (w8 op (IntKind.wrap .i64 (d-1)) b)])))by
  obtain⟨F',Y⟩:=W;exact⟨F',X,by rw[<-Q];exact Y⟩
 have C:∀p:Int,0<=p->p.toNat<L->kK 1 (.hsl id 1 off L) p=some (.hptr id (off+p.toNat) 0):=λp h0 Z=>by
  unfold kK;rw[if_neg Za];simp[Z]
 have G:∀(q:Nat) (z v:V),rs[q]? = some [z]->v.one=true->fc H1 (.store 1) [.hptr id q 0,v]=some (.undef,H1.set id (.row 1 (rs.set q [v]))):=λq z v B hv=>by
  simp[fc,h1,B,C_ hv,hv]
 cases op with
 | false=>
  simp only[R5]at hp u B ⊢;have S:=NN (i:=0) J rfl;have T:=NN (i:=1) J rfl;have e2:∃w,(∀call,eC E N call none r2 F1 H1=some (w,H1.set id (.row 1 (rs.set (off+a.toNat) [.int .i64 b])))):=by
   refine⟨_,λcall=>vp (v:=.hsl id 1 off L) rfl ?_ <| vp (v:=.hptr H.length 0 0) rfl ?_ <| vp (v:=.int .i64 a) rfl ?_ <| vp (v:=.hptr H.length 0 1) rfl ?_ <| vp (v:=.int .i64 b) rfl ?_ <| vp (v:=.hptr id (off+a.toNat) 0) rfl ?_ <| wk (v:=.undef) rfl ?_ jd⟩
   .simp[cK,bV,bq,p2]
   .simp[cK,bV,bq,bX,fa,kW,p3]
   .simp only[cK,List.map_cons,List.map_nil,bV,bX,ck,Nat.reduceEqDiff,if_true,if_false,ld,S,Option.map_some]
   .simp[cK,bV,bq,bX,fa,kW,p3]
   .simp only[cK,List.map_cons,List.map_nil,bV,bX,ck,Nat.reduceEqDiff,if_true,if_false,ld,T,Option.map_some]
   .simp only[cK,List.map_cons,List.map_nil,bV,bX,ck,Nat.reduceEqDiff,if_true,if_false,bq,C a hp u,Option.map_some]
   simp only[cK,List.map_cons,List.map_nil,bV,bX,ck,Nat.reduceEqDiff,if_true,if_false];exact G _ z _ B rfl
  obtain⟨w,U⟩:=e2;exact⟨w,Ex.seq (Ex.iq p1) (Ex.iq (l:=_) U)⟩
 | true=>
  simp only[R3]at hp u B ⊢;have S:=NN (i:=0) O rfl;have T:=NN (i:=1) O rfl;have e2:∃w,(∀call,eC E N call none r3 F1 H1=some (w,H1.set id (.row 1 (rs.set (off+c.toNat) [.int .i64 (IntKind.wrap .i64 (d-1))])))):=by
   refine⟨_,λcall=>vp (v:=.hsl id 1 off L) rfl ?_ <| vp (v:=.hptr (H.length+1) 0 0) rfl ?_ <| vp (v:=.int .i64 c) rfl ?_ <| vp (v:=.hptr (H.length+1) 0 1) rfl ?_ <| vp (v:=.int .i64 d) rfl ?_ <| vp (v:=.int .i64 (IntKind.wrap .i64 (d-1))) rfl ?_ <| vp (v:=.hptr id (off+c.toNat) 0) rfl ?_ <| wk (v:=.undef) rfl ?_ jd⟩
   .simp[cK,bV,bq,p2]
   .simp[cK,bV,bq,bX,fa,kW,p4]
   .simp only[cK,List.map_cons,List.map_nil,bV,bX,ck,Nat.reduceEqDiff,if_true,if_false,ld,S,Option.map_some]
   .simp[cK,bV,bq,bX,fa,kW,p4]
   .simp only[cK,List.map_cons,List.map_nil,bV,bX,ck,Nat.reduceEqDiff,if_true,if_false,ld,T,Option.map_some]
   .simp[cK,bV,bq,bX,j8]
   .simp only[cK,List.map_cons,List.map_nil,bV,bX,ck,Nat.reduceEqDiff,if_true,if_false,bq,C c hp u,Option.map_some]
   simp only[cK,List.map_cons,List.map_nil,bV,bX,ck,Nat.reduceEqDiff,if_true,if_false];exact G _ z _ B rfl
  obtain⟨w,U⟩:=e2;exact⟨w,Ex.seq (Ex.iq p1) (Ex.iq (l:=_) U)⟩
end
end setX
section
variable {S:Sys} {c:bN} {β γ δ α:Type} [bt δ] {Q:Out×St->Option β} {e:γ->Option β} {cf:Cf}
end
def snap (w:World):b9:=λb=>match w.heap[b]? with
 | some (.cells c _ _)=>some (.cells c)
 | some (.map es _)=>some (.map es)
 | _=>none
theorem M5 {w:World} (hg:rW (snap w)):cM (snap w) (λ_=>none) [] w where
 dom _ _:=rfl
 imm b x h:=by
  unfold snap at h;split at h
  next c el fr u=>cases h;exact⟨el,fr,u⟩
  next es cl u=>cases h;exact⟨cl,u⟩
  cases h
 obs id ob h:=by simp at h
 inj id z ob B p C h:=by simp at h
 gl:=hg
def eA (I:b9) (xs:List V) (vs:List Value):Prop:=xs.length=vs.length/\∀(j:Nat) a b,xs[j]? = some a->vs[j]? = some b->dU I a b
theorem eA.nil {I:b9}:eA I [] []:=⟨rfl,by simp⟩
theorem eA.one {I:b9} {x:V} {v:Value} (h:dU I x v):eA I [x] [v]:=⟨rfl,λj a b h1 u=>by
 cases j with
 | zero=>simp at h1 u;subst h1 u;exact h
 | succ j=>simp at h1⟩
theorem eA.append {I:b9} {xs ys:List V} {z vs:List Value} (h:eA I xs z) (k:eA I ys vs):eA I (xs++ys) (z++vs):=by
 refine⟨by simp[h.1,k.1],λj a b h1 u=>?_⟩
 by_cases w:j<xs.length
 .rw[List.getElem?_append_left w]at h1;rw[List.getElem?_append_left (by rw[<-h.1];exact w)]at u
  exact h.2 j a b h1 u
 rw[List.getElem?_append_right Za]at h1
 rw[List.getElem?_append_right (by rw[<-h.1];omega),<-h.1]at u
 exact k.2 _ a b h1 u
theorem Ap {α β:Type} {f:α->Option β}:∀{l:List α} {r:List β},l.mapM f=some r->r.length=l.length/\∀(i:Nat) a b,l[i]? = some a->r[i]? = some b->f a=some b
 | [],r,h=>by simp only[List.mapM_nil,Option.pure_def,ζa]at h;subst h;simp
 | x::l,r,h=>by
  simp only[List.mapM_cons,Option.bind_eq_bind,Option.pure_def,ζg,ζa]at h;obtain⟨y,B,ys,u,rfl⟩:=h;obtain⟨h1,C⟩:=Ap u;refine⟨by simp[h1],λi a b w z=>?_⟩
  cases i with
  | zero=>simp at w z;subst w z;exact B
  | succ i=>exact C i a b (by simpa using w) (by simpa using z)
structure qz {H:Type} (b:DataW H->Nat):Prop where
 lit:∀l,1<=b (.lit l)
 str:∀s,s.length+1<=b (.lit (.string s))
 nil:1<=b .nil
 slice:∀es sp,(es.map b).sum+1<=b (.slice es sp)
 agg:∀ps,(ps.map b).sum+1<=b (.agg ps)
class bU (α:Type) where
 wt:α->Nat
 ok:α->Prop
instance:bU Int where
 wt _:=1
 ok n:=-9223372036854775808<=n/\n<=9223372036854775807
instance:bU Bool where
 wt _:=1
 ok _:=True
instance:bU ByteArray where
 wt s:=s.size+1
 ok s:=s.size<=maxLen
instance {α:Type} [bU α]:bU (Sl α) where
 wt s:=(s.l.map bU.wt).sum+1
 ok s:=(∀x∈s.l,bU.ok x)/\s≠.emp
class Reads (P:Program) (t:TypeId) (α:Type) [bt α] [bU α]:Prop where
 size:P.cellsOf t=bt.size α
 rd:∀{H:Type} {enc:TypeId×Value->H} {w:World} {base:Nat} {spare:Nat->Bool} {held:Bool} {fuel:Nat} {cs:List Value} {d:DataW H} {ps:List MemPlace},
  DataW.trod enc P w base spare held fuel t cs=some (d,ps)->∃a:α,eA (snap w) (cells a) cs/\bU.ok a/\∀b:DataW H->Nat,qz b->bU.wt a<=b d
 shape:∀{w:World} {r:_root_.Go.Reach} {base:Nat} {v:Value},Value.okWide P w r base t v->if bt.agg α then ∃cs,v=.agg cs else v.cells=#[v]
section
variable {P:Program}
theorem oU {w:World} {r:_root_.Go.Reach} {base:Nat} {t:TypeId} {v:Value} {u:_} (hu:P.underlying t=some u) (h1:∀fs,u≠.struct fs) (B:∀n e,u≠.array n e) (h:Value.okWide P w r base t v):v.cells=#[v]:=by
 cases v with
 | agg cs=>
  exfalso;unfold Value.okWide at h;rw[hu]at h;split at h
  next fs z=>cases z;exact h1 _ rfl
  next n e z=>cases z;exact B _ _ rfl
  unfold Cell.okWide at h;rw[hu]at h;split at h <;> first|(simp at *;done)|skip
  unfold Cell.ok at h;rw[hu]at h;cases u <;> simp at h
 | _=>rfl
theorem Reads.int {t:TypeId} (hu:P.underlying t=some (.int .i64)) (hc:P.cellsOf t=1):Reads P t Int where
 size:=hc
 rd {H enc w base spare held z cs d D} h:=by
  cases z with
  | zero=>simp[DataW.trod]at h
  | succ z=>
   simp only[DataW.trod,hu]at h;split at h <;> first|(simp at h;done)|skip
   next u=>cases u
   .rename_i k G n u;simp only[ζa,TypeDesc.int.injEq]at u;split at h
    next hk=>obtain⟨rfl,B⟩:=hk;subst u;cases h;exact⟨n,eA.one (.int _ n),show _/\_ by simpa [Lit.wf,IntKind.min,IntKind.max,IntKind.signed,IntKind.bits]using B,λb C=>C.lit _⟩
    simp at h
   all_goals (rename_i u;cases u)
 shape h:=by simp only[show bt.agg Int=false from rfl];exact oU hu Zc Zc h
theorem Reads.bool {t:TypeId} (hu:P.underlying t=some .bool) (hc:P.cellsOf t=1):Reads P t Bool where
 size:=hc
 rd {H enc w base spare held u cs d C} h:=by
  cases u with
  | zero=>simp[DataW.trod]at h
  | succ u=>
   simp only[DataW.trod,hu]at h;split at h <;> first|(simp at h;done)|skip
   next b _=>cases h;exact⟨b,eA.one (.bool b),trivial,λb B=>B.lit _⟩
   all_goals (rename_i z;cases z)
 shape h:=by simp only[show bt.agg Bool=false from rfl];exact oU hu Zc Zc h
theorem Reads.str {t:TypeId} (hu:P.underlying t=some .string) (hc:P.cellsOf t=1):Reads P t ByteArray where
 size:=hc
 rd {H enc w base spare held u cs d D} h:=by
  cases u with
  | zero=>simp[DataW.trod]at h
  | succ u=>
   simp only[DataW.trod,hu]at h;split at h <;> first|(simp at h;done)|skip
   all_goals (first|(rename_i z;cases z;done)|skip)
   rename_i s _;split at h
   next B=>cases h;exact⟨s,eA.one (.str s),B,λb C=>C.str _⟩
   simp at h
 shape h:=by simp only[show bt.agg ByteArray=false from rfl];exact oU hu Zc Zc h
theorem M7 {w:World} {a:Addr} {n:Nat} {v:Value} (h:w.cell? (a.add n)=some v) (D:n=0\/True):∃c el fr,w.heap[a.block]? = some (.cells c el fr)/\c[a.off+n]? = some v/\(n=0->a.spot=none):=by
 unfold World.cell? Addr.add at h
 by_cases u:n=0
 .subst u;simp only[if_true]at h;split at h
  .rename_i c el fr z;split at h
   .simp at h
   rename_i B;exact⟨c,el,fr,z,h,λ_=>by simpa using B⟩
  simp at h
 simp only[if_neg u]at h;split at h
 next c el fr z=>simp only[Option.isSome_none,Bool.false_eq_true,if_false]at h;exact⟨c,el,fr,z,h,λe=>absurd e u⟩
 simp at h
def pK (P:Program) (t:TypeId) (α:Type) [bt α] [bU α] (u:Nat):Prop:=
 ∀{H:Type} {enc:TypeId×Value->H} {w:World} {base:Nat} {spare:Nat->Bool} {held:Bool} {cs:List Value} {d:DataW H} {z:List MemPlace},
  DataW.trod enc P w base spare held u t cs=some (d,z)->∃a:α,eA (snap w) (cells a) cs/\bU.ok a/\∀b:DataW H->Nat,qz b->bU.wt a<=b d
theorem pK.sl {t e:TypeId} {α:Type} [bt α] [bU α] {J:Nat} (hu:P.underlying t=some (.slice e)) (af:P.cellsOf e=bt.size α) (U:0<bt.size α) (hr:pK P e α J):pK P t (Sl α) (J+1):=by
 intro H enc w base spare held cs d ps h;simp only[DataW.trod,hu]at h;split at h <;> first|(simp at h;done)|skip
 all_goals (first|(rename_i L;cases L;done)|skip)
 .cases h;exact⟨.nil,eA.one .bM,⟨λx W=>by simp[Sl.l]at W,by simp⟩,λb X=>X.nil⟩
 rename_i e' a len cap L;cases L;split at h
 .rename_i Y;obtain⟨elems,ah,h⟩:=ζg.1 h;obtain⟨rest,_,h⟩:=ζf.1 h;cases h;obtain⟨Z,aa⟩:=Ap ah;simp only[List.length_range]at Z;have W:∀i,i<len->∃x:α,∃u:List Value,w.cells? base (a.add (i*P.cellsOf e)) (P.cellsOf e)=some u/\eA (snap w) (cells x) u/\bU.ok x/\∀b:DataW H->Nat,qz b->∀y,elems[i]? = some y->bU.wt x<=b y.1:=λi hi=>by
   have:=aa i i (elems[i]' Za) (by simp[hi]) (ζd Za)
   obtain⟨u,h1,O⟩:=ζg.1 this;obtain⟨x,W,hk,X⟩:=hr (show _=some ((elems[i]' Za).1,(elems[i]' Za).2)from O)
   exact⟨x,u,h1,W,hk,λb Q y hy=>by
    rw[ζd Za]at hy;cases hy;exact X b Q⟩
  have ab:∀n,n<=len->∃z:List α,z.length=n/\(∀i x,z[i]? = some x->∃u:List Value,w.cells? base (a.add (i*P.cellsOf e)) (P.cellsOf e)=some u/\eA (snap w) (cells x) u)/\(∀x∈z,bU.ok x)/\∀b:DataW H->Nat,qz b->(z.map bU.wt).sum<=(((elems.take n).map (·.1)).map b).sum:=by
   intro n
   induction n with
   | zero=>intro _;exact⟨[],rfl,by simp,by simp,by simp⟩
   | succ n ih=>
    intro hn;obtain⟨z,h1,O,h5,h6⟩:=ih Za
    obtain⟨x,u,h3,h4,h7,h8⟩:=W n Za
    refine⟨z++[x],by simp[h1],λi y hy=>?_,λy hy=>?_,λb Q=>?_⟩
    rotate_left
    .rcases List.mem_append.1 hy with hy|hy
     .exact h5 y hy
     simp at hy;subst hy;exact h7
    .have k1:=h6 b Q;have I:=h8 b Q _ (ζd Za)
     rw[List.take_succ,ζd (by omega:n<elems.length)]
     simp only[List.map_append,List.sum_append,Option.toList_some,List.map_cons,List.map_nil,List.sum_cons,List.sum_nil];omega
    by_cases hi:i<z.length
    .rw[List.getElem?_append_left hi]at hy;exact O i y hy
    rw[List.getElem?_append_right Za]at hy
    have:i-z.length=0:=by
     cases hk:i-z.length with
     | zero=>rfl
     | succ k=>rw[hk]at hy;simp at hy
    rw[this]at hy;simp at hy;subst hy;have:i=n:=by omega
    subst this;exact⟨u,h3,h4⟩
  obtain⟨z,C,ai,ad,aj⟩:=ab len (Nat.le_refl _);refine⟨.row z,eA.one ?_,⟨ad,by simp⟩,λb Q=>?_⟩
  rotate_left
  .have k:=aj b Q;rw[List.take_of_length_le Za]at k
   have I:=Q.slice (elems.map (·.1)) (rest.map (·.1));show (z.map bU.wt).sum+1<=_;omega
  show dU _ (.fsl (bt.size α) (rows z)) _
  cases hl:z with
  | nil=>
   subst hl;simp at C;subst C;exact .fsl0 _ _ _
  | cons x0 xr=>
   rw[<-hl];have ap:0<len:=by rw[<-C,hl];simp
   have S:∀i x,z[i]? = some x->∀j y,(cells x)[j]? = some y->∃v,w.cell? ((a.add (i*bt.size α)).add j)=some v/\dU (snap w) y v:=by
    intro i x hi j y hy;obtain⟨u,h1,O⟩:=ai i x hi;rw[af]at h1;unfold World.cells? at h1;split at h1
    .obtain⟨g1,g2⟩:=Ap h1;have hj:j<bt.size α:=by rw[<-gA x];exact(ζe.1 hy).1
     obtain⟨v,hv⟩:∃v,u[j]? = some v:=⟨_,ζd (by rw[g1];simpa using hj)⟩
     exact⟨v,g2 j j v (by simp[hj]) hv,O.2 j y v hy hv⟩
    simp at h1
   have ao:∀i j,(a.add (i*bt.size α)).add j=a.add (i*bt.size α+j)\/True:=λ_ _=>.inr trivial
   have B:∀i x,z[i]? = some x->∀j y,(cells x)[j]? = some y->∃c el fr v,w.heap[a.block]? = some (.cells c el fr)/\c[a.off+i*bt.size α+j]? = some v/\dU (snap w) y v/\(i=0->j=0->a.spot=none):=by
    intro i x hi j y hy;obtain⟨v,h1,O⟩:=S i x hi j y hy;obtain⟨c,el,fr,g1,g2,g3⟩:=M7 h1 (.inr trivial);have X:(a.add (i*bt.size α)).block=a.block:=by unfold Addr.add;split <;> rfl
    have ho:(a.add (i*bt.size α)).off=a.off+i*bt.size α:=by unfold Addr.add;split <;> simp_all
    rw[X]at g1;rw[ho]at g2;refine⟨c,el,fr,v,g1,g2,O,?_⟩;rintro rfl rfl;have:=g3 rfl;simpa [Addr.add]using this
   have ak:∃y,(cells x0)[0]? = some y:=⟨_,ζd (by rw[gA];exact U)⟩
   obtain⟨y0,al⟩:=ak;obtain⟨c,el,fr,v0,D,_,_,G⟩:=B 0 x0 (by rw[hl];rfl) 0 y0 al
   have G:=G rfl rfl;obtain⟨b,o,sp⟩:=a;simp only at G D;subst G;have hI:snap w b=some (.cells c):=by unfold snap;rw[D]
   have T:(rows z).length=len:=by rw[jA,C]
   rw[<-T];refine .fsl _ _ b o cap c hI (by rw[T];exact Y.2.1) (λr hr=>?_) (λr hr y hy=>?_) ?_ (λi j r y v hr hy hv=>?_)
   .obtain⟨x,_,rfl⟩:=List.mem_map.1 hr;exact gA x
   .obtain⟨x,_,rfl⟩:=List.mem_map.1 hr;exact List.all_eq_true.1 (rE x) y hy
   .
    obtain⟨xl,ae⟩:∃x,z[len-1]? = some x:=⟨_,ζd Za⟩
    obtain⟨yl,am⟩:∃y,(cells xl)[bt.size α-1]? = some y:=⟨_,ζd (by rw[gA];omega)⟩
    obtain⟨c2,_,_,v2,k1,I,_,_⟩:=B (len-1) xl ae (bt.size α-1) yl am;simp only at k1 I;rw[D]at k1;cases k1;have:=(Array.getElem?_eq_some_iff.1 I).1;rw[T];have e:len*bt.size α=(len-1)*bt.size α+bt.size α:=by
     obtain⟨m,rfl⟩:∃m,len=m+1:=⟨len-1,by omega⟩
     simp[Nat.add_mul]
    omega
   simp only[rows,List.getElem?_map,ζf]at hr;obtain⟨x,an,rfl⟩:=hr;obtain⟨c2,_,_,v2,k1,I,k3,_⟩:=B i x an j y hy;simp only at k1 I;rw[D]at k1;cases k1;rw[hv]at I;cases I;exact k3
 simp at h
theorem pK.Sh {t e:TypeId} {α:Type} [bt α] [bU α] {u:Nat} (hu:P.underlying t=some (.slice e)) (B:P.cellsOf e=bt.size α) (z:0<bt.size α) (hr:∀g,g<u->pK P e α g):pK P t (Sl α) u:=by
 cases u with
 | zero=>intro H enc w base spare held cs d C h;simp[DataW.trod]at h
 | succ f=>exact pK.sl hu B z (hr f (Nat.lt_succ_self f))
theorem Reads.sl {t e:TypeId} {α:Type} [bt α] [bU α] [Reads P e α] (hu:P.underlying t=some (.slice e)) (hc:P.cellsOf t=1) (u:0<bt.size α):Reads P t (Sl α) where
 size:=hc
 rd h:=pK.Sh hu (Reads.size (α:=α)) u (λ_ _ {_ _ _ _ _ _ _ _ _}=>Reads.rd (P:=P) (t:=e) (α:=α)) h
 shape h:=by simp only[show bt.agg (Sl α)=false from rfl];exact oU hu Zc Zc h
theorem eA.seg {I:b9} {u xs:List V} {cs:List Value} {o n:Nat} (h:eA I u (cs.take o)) (k:eA I xs ((cs.drop o).take n)):eA I (u++xs) (cs.take (o+n)):=by
 rw[List.take_add];exact h.append k
theorem eA.fin {I:b9} {xs:List V} {cs:List Value} {n:Nat} (h:eA I xs (cs.take n)) (u:cs.length=n):eA I xs cs:=by
 rw[List.take_of_length_le Za]at h;exact h
theorem pK.st {t:TypeId} {fs:Array Field} {α:Type} [bt α] [bU α] {u:Nat} (hu:P.underlying t=some (.struct fs)) (hc:P.cellsOf t=bt.size α)
 (h:∀{H:Type} {enc:TypeId×Value->H} {w:World} {base:Nat} {spare:Nat->Bool} {held:Bool} {cs:List Value} {l:List (DataW H×List MemPlace)},cs.length=bt.size α ->
  (fs.toList.mapM λf=>DataW.trod enc P w base spare held u f.type ((cs.drop f.offset).take (P.cellsOf f.type)))=some l->∃a:α,eA (snap w) (cells a) cs/\bU.ok a/\∀b:DataW H->Nat,qz b->bU.wt a<=((l.map (·.1)).map b).sum+1):pK P t α (u+1):=by
 intro H enc w base spare held cs d J hr;simp only[DataW.trod,hu]at hr;split at hr <;> first|(simp at hr;done)|skip
 all_goals (first|(rename_i z;cases z;done)|skip)
 rename_i C;obtain⟨l,h1,D⟩:=ζf.1 hr;cases D;obtain⟨a,k1,G,I⟩:=h (by rw[C,hc]) h1
 exact⟨a,k1,G,λb B=>Nat.le_trans (I b B) (B.agg _)⟩
theorem Reads.of {t:TypeId} {fs:Array Field} {α:Type} [bt α] [bU α] (hu:P.underlying t=some (.struct fs)) (hc:P.cellsOf t=bt.size α) (z:bt.agg α=true) (h:∀u,pK P t α u):Reads P t α where
 size:=hc
 rd hr:=h _ hr
 shape hv:=by
  rw[if_pos z];unfold Value.okWide at hv;rw[hu]at hv;obtain⟨cs,h1,_⟩:=hv;exact⟨cs,h1⟩
theorem Reads.st {t:TypeId} {fs:Array Field} {α:Type} [bt α] [bU α] (hu:P.underlying t=some (.struct fs)) (hc:P.cellsOf t=bt.size α) (z:bt.agg α=true)
 (h:∀{H:Type} {enc:TypeId×Value->H} {w:World} {base:Nat} {spare:Nat->Bool} {held:Bool} {u:Nat} {cs:List Value} {l:List (DataW H×List MemPlace)},cs.length=bt.size α ->
  (fs.toList.mapM λf=>DataW.trod enc P w base spare held u f.type ((cs.drop f.offset).take (P.cellsOf f.type)))=some l->∃a:α,eA (snap w) (cells a) cs/\bU.ok a/\∀b:DataW H->Nat,qz b->bU.wt a<=((l.map (·.1)).map b).sum+1):Reads P t α:=
 Reads.of hu hc z λu=>by
  cases u with
  | zero=>intro H enc w base spare held cs d B h;simp[DataW.trod]at h
  | succ f=>exact pK.st hu hc h
theorem Reads.arg {t:TypeId} {α:Type} [bt α] [bU α] [Reads P t α] {H:Type} {u:TypeId×Value->H} {w:World} {base:Nat} {spare:Nat->Bool} {held:Bool} {r:_root_.Go.Reach} {b:Nat} {v:Value} {d:DataW H} {ps:List MemPlace}
 (hv:Value.okWide P w r b t v) (h:DataW.Trod u P w base spare held t v d ps):∃a:α,bA (snap w) (λ_=>none) (enc a) v/\bU.ok a/\∀b:DataW H->Nat,qz b->bU.wt a<=b d:=by
 obtain⟨I,h⟩:=h;obtain⟨a,⟨h1,B⟩,D,G⟩:=Reads.rd (P:=P) (t:=t) (α:=α) h;have z:=Reads.shape (P:=P) (t:=t) (α:=α) hv;refine⟨a,?_,D,G⟩
 cases C:bt.agg α with
 | true=>
  rw[C,if_pos rfl]at z;obtain⟨cs,rfl⟩:=z;rw[zm C];refine .c _ _ (.agg _ _ (by simpa [Value.cells]using h1) (λj x y J L=>B j x y J (by simpa [Value.cells]using L)))
 | false=>
  rw[C]at z;simp only[Bool.false_eq_true,if_false]at z;rw[z]at B;rw[sI C]at B;exact .c _ _ (B 0 _ _ rfl rfl)
end
end Go.VE
namespace Go.VE
variable [bK]
open Go.ChangeShapes Go.WideShapes Go.ChangeAt Go.RowKit
structure Ed (w w':World):Prop where
 kept:w.keptBut w' (λ_=>False)
 fz:∀a:Addr,a.block<w.heap.size->w'.frozen? a=w.frozen? a
theorem Dx {I I':b9} {μ':Mu} {H':bf} {w w':World} (s:Step I (λ_=>none) [] w I' μ' H' w'):Ed w w':=by
 have B:∀b,b<w.heap.size->w'.heap[b]? = w.heap[b]? := λb z=>s.frame b z (by rintro⟨id,p,ob,h,_⟩;simp at h)
 refine⟨⟨s.os,s.out.out,λi hi=>?_⟩,λa z=>?_⟩
 .rw[B i hi];split
  next h1 u=>rw[h1]at u;cases u;exact⟨rfl,rfl,rfl,λ_ _=>rfl⟩
  next h1 u=>rw[h1]at u;cases u;exact .inr ⟨rfl,rfl⟩
  rfl
 unfold World.frozen?;rw[B _ z]
theorem EG {P:Program} {call:dw} (hc:jD P call) {f:FuncId} {args:List V} {b:Bool} {H':bf} (h:call (.fn f) args []=some (.bool b,H')) {w:World} {vs:List Value}
 (D:rW (snap w)) (hv:cz (snap w) (λ_=>none) args vs):Calls P f vs.toArray w λe w'=>e=.returned (.bool b)/\Ed w w':=by
 intro cs;have k:=((hc.fn f args [] _ H' h).2 (snap w) (λ_=>none) w vs (M5 D) hv)
 obtain⟨e,w',fr,⟨u,I',μ',rfl,hu,_,C⟩,z,h1,G⟩:=k.2 cs (by simp[Fence.room,fr])
 refine⟨_,w',fr,⟨?_,Dx C⟩,z.comes,h1,G⟩
 cases hu with
 | c _ _ B=>cases B;rfl
variable {P:Program} {H:Type} {enc:TypeId×Value->H}
theorem Dy {B:List TypeId} {vs:List Value} {ds:List (DataW H)} {ps:List MemPlace} {w w':World} (hg:Ed w w') (h:DataW.TrodAll enc P w 0 (λ_=>true) true B vs ds ps):DataW.TrodAll enc P w' 0 (λ_=>true) true B vs ds ps:=by
 have z:∀p:MemPlace,p.block<w.heap.size->w.sameAt w' p:=by
  intro p C;have k:=hg.kept.2.2 p.block C
  cases p with
  | cell b off=>
   simp only[World.sameAt,World.cell?];simp only[MemPlace.block]at k C;split at k
   .rename_i c t fr c' G D h1 u;rw[h1,u];simp only;have:=k.2.2.2 off (λx=>x)
    simpa using this
   next h1 u=>rw[h1,u]
   rw[k]
  | map b=>
   simp only[World.sameAt];simp only[MemPlace.block]at k C;split at k
   .rename_i c t fr c' G D h1 u;obtain⟨rfl,rfl,O,I⟩:=k;rw[h1,u];have:c'=c:=Array.ext_getElem? λi=>I i (λx=>x)
    rw[this]
   .rename_i h1 u;rcases k with k|⟨rfl,rfl⟩
    .exact k.elim
    rw[h1,u]
   exact k
 induction B generalizing vs ds ps with
 | nil=>cases vs <;> cases ds <;> simp_all [DataW.TrodAll]
 | cons t B J=>
  cases vs with
  | nil=>simp[DataW.TrodAll]at h
  | cons v vs=>
   cases ds with
   | nil=>simp[DataW.TrodAll]at h
   | cons d ds=>
    obtain⟨p,q,⟨n,h1⟩,u,rfl⟩:=h;exact⟨p,q,⟨n,DataW.trod_carry n _ _ _ h1 λx L=>z x (DataW.trod_lt n _ _ _ h1 x L)⟩,J u,rfl⟩
theorem JC {T:TypeId->Prop} (K:Kids P T) (hz:∀t e,T t->P.underlying t=some (.slice e)->0<P.cellsOf e) {f:Func} {s:ChangeSpec} {apart fresh handsOn again:Bool} {W D:World} {args:Array Value} {ds gs:List (DataW H)} {before:List MemPlace} {tb:TypeId}
 (hT:∀t∈f.params.toList,T t) (u:s.vars=[]) (B:s.fn H (ds++gs)={ results:=[.lit (.bool true)],args:=ds }) (G:f.resultTypes=#[tb]) (U:P.underlying tb=some .bool)
 (Y:DataW.Whole enc P f.params.toList s.vars apart W args.toList ds gs before) (hg:Ed W D):s.post enc P f apart fresh handsOn again W args (.bool true) D:=by
 have C:=Y;obtain⟨p,q,X,hV,rfl,L,O⟩:=Y;rw[u]at hV;obtain⟨rfl,rfl⟩:=trodVars_none hV;have hr:∀(b:Nat) (z:Nat->Bool) (hd:Bool),DataW.TrodAll enc P D b z hd f.resultTypes.toList ((Value.bool true).resultList f.resultTypes.size) (s.fn H (ds++[])).results []:=λ_ _ _=>by
  rw[G,B];exact trodAll_cons_mk (shut_bool U _) trodAll_mk0
 have S:∀z:Nat->Bool,(∀x∈p++[],z x.block=true)->DataW.TrodAll enc P D 0 z true f.params.toList args.toList (s.fn H (ds++[])).args p:=λz Q=>by
  rw[B];exact DataW.TrodAll.respare K hz hT (Dy hg X) (λx w=>Q x (List.mem_append_left _ w))
 have hv:∀z:Nat->Bool,DataW.TrodVars enc P D z s.vars (s.fn H (ds++[])).vars []:=λz=>by rw[B,u];rfl
 have I:=λx w=>C.lt x w
 refine⟨ds,[],p++[],[],p,[],C,hr _ _ _,S _ λx w=>by simpa using I x w,hv _,World.keptBut_mono (λx w=>w.elim) hg.kept,λ_=>⟨ok_one G rfl (okWide_bool_mk U _),?_⟩⟩
 refine⟨_,_,[]++p++[],⟨[]++p,[],trodAll_append (S _ λ_ _=>rfl) (hr _ _ _),hv _,rfl,λb off w=>?_,λh=>by simpa using O h⟩,λx w _=>by simpa using w⟩
 have J:MemPlace.cell b off∈p++[]:=by simpa using w
 rw[hg.fz _ (I _ J)];exact L b off J
end Go.VE
namespace Go.VE
variable [bK]
instance:bU U8 where
 wt _:=1
 ok n:=0<=n.v/\n.v<=255
theorem Reads.u8 {P:Program} {t:TypeId} (hu:P.underlying t=some (.int .u8)) (hc:P.cellsOf t=1):Reads P t U8 where
 size:=hc
 rd {H enc w base spare held z cs d D} h:=by
  cases z with
  | zero=>simp[DataW.trod]at h
  | succ z=>
   simp only[DataW.trod,hu]at h;split at h <;> first|(simp at h;done)|skip
   next u=>cases u
   .rename_i k G n u;simp only[ζa,TypeDesc.int.injEq]at u;split at h
    next hk=>obtain⟨rfl,B⟩:=hk;subst u;cases h;exact⟨⟨n⟩,eA.one (.int _ n),show _/\_ by simpa [Lit.wf,IntKind.min,IntKind.max,IntKind.signed,IntKind.bits]using B,λb C=>C.lit _⟩
    simp at h
   all_goals (rename_i u;cases u)
 shape h:=by simp only[show bt.agg U8=false from rfl];exact oU hu Zc Zc h
theorem Ih {m:Tb bB} {n:Nat} {rs:List SV} {b:Bool} (h:cQ m n rs=some [.bool b]):rs=[.v (.bool b)]:=by
 cases rs with
 | nil=>cases n <;> simp[cQ]at h
 | cons x r=>
  have h1:shut m n x=some (.bool b)/\cQ m n r=some []:=by
   unfold cQ at h;split at h
   next y s h1 w=>simp only[ζa,List.cons.injEq]at h;obtain⟨rfl,rfl⟩:=h;exact⟨h1,w⟩
   cases h
  have w:r=[]:=by
   cases r with
   | nil=>rfl
   | cons y r=>
    have:=h1.2;unfold cQ at this;split at this <;> simp at this
  subst w;have u:=h1.1
  cases x with
  | v y=>unfold shut at u;simp only[ζa]at u;rw[u]
  | own d=>unfold shut at u;split at u <;> simp only[ζa,reduceCtorEq]at u;rename_i k es B _;cases k <;> simp[mD]at u
  | ptr d o=>
   cases n with
   | zero=>simp[shut]at u
   | succ n=>
    unfold shut at u;split at u <;> try cases u
    split at u <;> try cases u
    split at u <;> cases u
  | mp d=>unfold shut at u;split at u <;> cases u
  | clo f a b=>
   cases n with
   | zero=>simp[shut]at u
   | succ n=>unfold shut at u;split at u <;> cases u
  | tup l=>
   cases n with
   | zero=>simp[shut]at u
   | succ n=>unfold shut at u;obtain⟨_,_,z⟩:=ζf.1 u;cases z
  | _=>cases n <;> simp[shut]at u
theorem MB {S:Sys} {T:oQ} (u:uI S T) (z:∀f a b xs,S.items f a b=some xs->eR S f a b xs) {f:FuncId} {xs:List V} (hg:V.cH xs=true) (h:iQ (dI S T) f xs=some [.bool true]) :
 ∃n H',run S.E n (.fn f) xs []=some (.bool true,H'):=by
 unfold iQ at h;obtain⟨⟨rs,m⟩,h1,w⟩:=ζg.1 h;have:=Ih w;simp only at this;subst this;exact OB u z hg h1 rfl
theorem HZ {S:Sys} {T:oQ} {P:Program} (u:uI S T) (z:∀f a b xs,S.items f a b=some xs->eR S f a b xs) (hc:∀n,jD P (run S.E n)) {f:FuncId} {xs:List V} (hg:V.cH xs=true) (h:iQ (dI S T) f xs=some [.bool true])
 {w:World} {args:Array Value} (B:rW (snap w)) (hv:cz (snap w) (λ_=>none) xs args.toList):Calls P f args w λe w'=>e=.returned (.bool true)/\Ed w w':=by
 obtain⟨n,H',hr⟩:=MB u z hg h;have:=EG (hc n) hr B hv;simpa using this
theorem Reads.DT {P:Program} {t:TypeId} {α:Type} [bt α] [bU α] [Reads P t α] {H:Type} {u:TypeId×Value->H} {w:World} {base b:Nat} {spare:Nat->Bool} {held:Bool} {v:Value} {d:DataW H} {ps:List MemPlace} {params:Array TypeId} {args:Array Value}
 (z:∀(j:Nat) t v,params[j]? = some t->args[j]? = some v->Value.okWide P w .any b t v) (j:Nat) (h1:params[j]? = some t) (B:args[j]? = some v) (h:DataW.Trod u P w base spare held t v d ps) :
 ∃a:α,bA (snap w) (λ_=>none) (enc a) v/\bU.ok a/\∀b:DataW H->Nat,qz b->bU.wt a<=b d:=Reads.arg (z j t v h1 B) h
end Go.VE
namespace Go.VE
theorem M6 {w:World} {g:Nat} {l:List Int} (h:∀i,i<l.length->w.cell? ⟨g,i,none⟩=some (.int .i64 (l.getD i 0))) (D:0<l.length):dU (snap w) (.fptr (l.map (V.int .i64))) (.pointer (some ⟨g,0,none⟩)):=by
 have h1:=h 0 D;unfold World.cell? at h1;split at h1
 .rename_i c t fr u;have G:snap w g=some (.cells c):=by unfold snap;simp only at u;rw[u]
  have hc:∀i,w.cell? ⟨g,i,none⟩=c[i]? := λi=>by unfold World.cell?;simp only at u ⊢;rw[u];rfl
  refine .fptr _ _ _ c G ?_ ?_
  .rw[Nat.zero_add,List.length_map];have:=h (l.length-1) Za
   rw[hc]at this;have:=(Array.getElem?_eq_some_iff.1 this).1;omega
  intro j y v B hv;rw[Nat.zero_add,<-hc]at hv;rw[List.getElem?_map]at B;obtain⟨z,C,rfl⟩:=ζf.1 B;have I:=(ζe.1 C).1;rw[h j I]at hv;cases hv;have:l.getD j 0=z:=by simp[List.getD,C]
  rw[this];exact .int _ _
 cases h1
variable [bK]
theorem ji (n:Nat) (h:n<9223372036854775807):IntKind.wrap .i64 ((n:Int)+1)=((n+1:Nat):Int):=by
 simp[IntKind.wrap,IntKind.bits,IntKind.signed];omega
theorem fh (n:Int) (h1:-9223372036854775808<=n) (u:n<=9223372036854775807):IntKind.wrap .i64 n=n:=by
 simp[IntKind.wrap,IntKind.bits,IntKind.signed];omega
section
variable {α β:Type} {P:β->Prop}
theorem qn (s:Sl α) (i:Nat):idx s (i:Int)=s.l[i]? := by
 unfold idx;rw[if_pos Za];rfl
theorem cS {s:Sl α} {i:Nat} (h:i<s.l.length):idx s (i:Int)=some s.l[i]:=by rw[qn,ζd h]
theorem S5 {s:Sl α} {i:Int} (u:0<=i):idx s i=s.l[i.toNat]? := by unfold idx;rw[if_pos u]
theorem sy (s:Sl α) (i:Nat) (h:i<=s.l.length):∃x,iI s none (some (i:Int))=some x/\x.l=s.l.take i:=by
 unfold iI dM;simp only[Option.getD_none,Option.getD_some];rw[if_pos Za]
 cases s <;> simp[Sl.l]at h ⊢ <;> simp[h]
theorem bT {γ:Type} {a b:γ}:bn true a b=a:=rfl
theorem bJ {γ:Type} {a b:γ}:bn false a b=b:=rfl
theorem tJ (a b:Bool):bn a (some b) (some false)=some (a&&b):=by cases a <;> rfl
theorem EK (a b:Bool):bn a (some true) (some b)=some (a||b):=by cases a <;> rfl
theorem MG (a:Bool) (x y:β):bn a (some x) (some y)=some (if a then x else y):=by cases a <;> rfl
end
def place {α:Type} (f:α->Bool) (l:List α):Int:=match l.findIdx? f with
 | some i=>i
 | none=>-1
theorem yZ {α:Type} {f:α->Bool} {l:List α} {i:Nat} (h:∀j,j<i->∀x,l[j]? = some x->f x=false) (hi:l.length<=i):l.findIdx? f=none:=by
 rw[List.findIdx?_eq_none_iff];intro x w;obtain⟨j,u⟩:=List.getElem?_of_mem w;have:j<l.length:=(ζe.1 u).1;exact h j Za x u
theorem Gw {α:Type} {f:α->Bool} {l:List α} {i:Nat} {x:α} (h:∀j,j<i->∀x,l[j]? = some x->f x=false) (u:l[i]? = some x) (z:f x=true):l.findIdx? f=some i:=by
 rw[List.findIdx?_eq_some_iff_getElem];obtain⟨hi,rfl⟩:=ζe.1 u;exact⟨hi,z,λj w=>by rw[h j w _ (ζd Za)];simp⟩
theorem sn {α:Type} {step:Int->Option (Fw Int Unit Int)} {s:Sl α} {p:α->Option Bool} {f:α->Bool} (hp:∀x∈s.l,p x=some (f x)) (T:s.l.length<9223372036854775807)
 (J:∀i,step i=bn (decide (i<len s)) ((idx s i).bind λz=>(p z).bind λB=>bn B (some (.r i)) (some (.n (IntKind.wrap .i64 (i+1))))) (some (.x ()))) :
 (c_ step 0).bind (Fw.elim (λ_=>some (-1)) (λe=>some e))=some (place f s.l):=by
 refine Wp.eq (kP (λi:Int=>∃n:Nat,i=n/\n<=s.l.length/\∀j,j<n->∀x,s.l[j]? = some x->f x=false) (λi:Int=>s.l.length-i.toNat) ⟨0,rfl,Nat.zero_le _,λj I=>absurd I Za⟩ ?_)
 rintro i ⟨n,rfl,L,w⟩;rw[J,dN];refine⟨λh=>?_,λh=>?_⟩
 .have u:n<s.l.length:=by simpa [len]using h
  rw[cS u,ζb,hp _ (List.getElem_mem u),ζb,dN];refine⟨λC=>?_,λC=>?_⟩
  .rw[bp];show Wp (some (n:Int)) _;rw[bp];unfold place;rw[Gw w (ζd u) C]
  rw[bp];refine⟨⟨n+1,ji n Za,by omega,λj I x D=>?_⟩,?_⟩
  .by_cases e:j=n
   .subst e;rw[ζd u]at D;cases D;exact C
   exact w j Za x D
  rw[ji n Za];simp;omega
 have G:s.l.length<=n:=by simpa [len]using h
 rw[bp];show Wp (some (-1:Int)) _;rw[bp];unfold place;rw[yZ w G]
theorem sA {α:Type} (f:α->Bool) (l:List α):decide (place f l>=0)=l.any f:=by
 unfold place
 cases h:l.findIdx? f with
 | none=>
  rw[List.findIdx?_eq_none_iff]at h;have:l.any f=false:=by rw[List.any_eq_false];intro x u;simp[h x u]
  rw[this];rfl
 | some i=>
  obtain⟨hi,w,_⟩:=List.findIdx?_eq_some_iff_getElem.1 h;have:l.any f=true:=List.any_eq_true.2 ⟨_,List.getElem_mem hi,w⟩;rw[this];simp
theorem Ml {α σ ε ρ:Type} {step:α->σ->Option (Fw σ ε ρ)} {l:List α} (I:Nat->σ->Prop) (B:ε->Prop) (D:ρ->Prop) {s:σ} (J:I 0 s)
 (h:∀i a s,l[i]? = some a->I i s->Wp (step a s) λw=>match w with|.n u=>I (i+1) u|.x e=>B e|.r b=>D b) :
 Wp (jh step l s) λw=>match w with|.n u=>I l.length u|.x e=>B e|.r b=>D b:=by
 have key:∀(r:List α) (i:Nat) (s:σ),l.drop i=r->i<=l.length->I i s->Wp (jh step r s) λw=>match w with|.n u=>I l.length u|.x e=>B e|.r b=>D b:=by
  intro r
  induction r with
  | nil=>
   intro i s hd hi C;have:i=l.length:=by have:=List.drop_eq_nil_iff.1 hd;omega
   subst this;exact⟨_,rfl,C⟩
  | cons a r L=>
   intro i s hd hi C;have z:i<l.length:=by
    apply Classical.byContradiction;intro S;rw[List.drop_eq_nil_of_le Za]at hd;cases hd
   have O:=List.drop_eq_getElem_cons z;rw[O]at hd;simp only[List.cons.injEq]at hd;obtain⟨w,Q,G⟩:=h i a s (by rw[ζd z,hd.1]) C
   simp only[jh,Q,ζb]
   cases w with
   | n u=>exact L (i+1) u hd.2 Za G
   | x e=>exact⟨_,rfl,G⟩
   | r b=>exact⟨_,rfl,G⟩
 exact key l 0 s rfl (Nat.zero_le _) J
theorem vY {α σ ε ρ γ:Type} {step:α->σ->Option (Fw σ ε ρ)} {l:List α} {fn:σ->Option γ} {z:ε->Option γ} {fr:ρ->Option γ} {P:γ->Prop} (I:Nat->σ->Prop) {s:σ} (B:I 0 s)
 (h:∀i a s,l[i]? = some a->I i s->Wp (step a s) λw=>match w with|.n D=>I (i+1) D|.x e=>Wp (z e) P|.r b=>Wp (fr b) P)
 (G:∀s,I l.length s->Wp (fn s) P):Wp ((jh step l s).bind (Fw.oB fn z fr)) P:=by
 rw[jK];refine(Ml I _ _ B h).mono ?_;intro w u
 cases w with
 | n s=>exact G s u
 | x e=>exact u
 | r b=>exact u
end Go.VE
