/-
 Certificates; functions by hand; readings; plain laws.
-/
import Derived.JoinedCond
import Derived.ReadAgain
import Derived.WalkKit
import Derived.ProofKit
import Derived.OpenShut
import Derived.ChangeSame
import Derived.RowKit3
import Derived.Lib.LaidTab
import Derived.Test.YtegogepdjcdfcacGreatDoorV2
import Derived.Test.YtegogepdjcdfcacGreatDoorN2
import Derived.Test.YtegogepdjcdfcacGreatDoorS1
set_option linter.all false
noncomputable section
namespace Go.VE
variable [bO]
abbrev Cf:=Fo×a_ Fm×St
section
variable (S:Sys) (c:bU) {β:Type} (Q:Out×St->bf β)
abbrev bX (cf:Cf):bf β:=rn S c Q cf.1 cf.2.1 cf.2.2
def iD (n:Nat) (cf:Cf):Cf:=(fL S c n cf.1 cf.2.1 cf.2.2).getD cf
structure EG where
 dr:Bool
 fr:List Nat
 d:Option Nat
 gd:Option (Nat×Bool)
 now:Bool
 k:K
 az:List Arg
 dd:List Nat
 l:List RO
 fs:List Fm
 st:St
def fJ (n:Nat) (cf:Cf):bf EG:=match fL S c n cf.1 cf.2.1 cf.2.2 with
 | some (.ops dr fr (⟨d,gd,now,k,az,dd,[]⟩::l),fs,st)=>match wanted st.g gd with
  | some true=>some ⟨dr,fr,d,gd,now,k,az,dd,l,fs,st⟩
  | _=>none
 | _=>none
def nx (n:Nat) (cf:Cf) (φ:EG->St):Cf:=match fJ S c n cf with
 | some p=>(.ops p.dr (if p.dr then(match p.k with|.p _|.r _=>p.fr|_=>match p.d with|some d=>d::p.fr|none=>p.fr)else p.fr) p.l,p.fs,oP p.dd (φ p))
 | none=>cf
end
def uW (s:Nat) (b:Bool) (cf:Cf):Cf:=(cf.1,cf.2.1,{ cf.2.2 with g:=bA cf.2.2.g s (.v (.bool b)) })
def jmp (k:Nat) (fr:a_ Nat) (cf:Cf) (st:St):Cf:=match cf with
 | (.ops dr _ l,fs,_)=>(.ops dr fr (l.drop k),fs,st)
 | _=>(.rt,[],st)
def tn:RC->a_ Nat->a_ Fm->St->Cf
 | c,[],fs,st=>(.rc c,fs,st)
 | .seq a b,i::p,fs,st=>if i=0 then tn a p (.seq b::fs) st else tn b p fs st
 | .cond _ a b,i::p,fs,st=>if i=0 then tn a p fs st else tn b p fs st
 | .block id c,_::p,fs,st=>tn c p (.blk id::fs) st
 | .gh _ c,_::p,fs,st=>tn c p fs st
 | .hg c g,_::p,fs,st=>tn c p (.gst g::fs) st
 | .loop c,_::p,_,st=>tn c p [] st
 | .each _ _ _ b,_::p,_,st=>tn b p [] st
 | c,_,fs,st=>(.rc c,fs,st)
section
variable {S:Sys} {c:bU} {β γ δ α:Type} {Q:Out×St->bf β} {e:γ->bf β} {cf:Cf}
theorem js {n:Nat} {p:EG} (h:fJ S c n cf=some p):fL S c n cf.1 cf.2.1 cf.2.2=some (.ops p.dr p.fr (⟨p.d,p.gd,p.now,p.k,p.az,p.dd,[]⟩::p.l),p.fs,p.st)/\wanted p.st.g p.gd=some true:=by
 unfold fJ at h
 grind
theorem qx {n:Nat} {m:bf δ} {φ:δ->EG->St} {f:δ->bf γ} {p:EG} (hp:fJ S c n cf=some p) (u:Le (m.bind λx=>some (φ x p)) (fH S c p.dr p.fr ⟨p.d,none,p.now,p.k,p.az,[],[]⟩ p.st))
 (h:∀x,m=some x->Le ((f x).bind e) (bX S c Q (nx S c n cf (φ x)))):Le ((m.bind f).bind e) (bX S c Q cf):=by
 obtain⟨h1,t⟩:=js hp;refine DZ h1 rfl t u λx w=>?_
 have:=h x w;simp[nx,hp]at this;omega
theorem uR {n:Nat} {m:bf β} {φ:EG->St} {p:EG} (hp:fJ S c n cf=some p) (u:fH S c p.dr p.fr ⟨p.d,none,p.now,p.k,p.az,[],[]⟩ p.st=some (φ p))
 (h:Le m (bX S c Q (nx S c n cf φ))):Le m (bX S c Q cf):=by
 obtain⟨h1,t⟩:=js hp;refine qF h1 rfl t u ?_;simp[nx,hp]at h;omega
theorem eE {α β:Type} {o:bf α} {f:α->β} {b:β} (h:o.map f=some b):∃a,o=some a/\f a=b:=ζf.1 h
theorem Aw (n:Nat) {m:bf β} {u:Cf} (h:Le m (bX S c Q u)) (B:fL S c n cf.1 cf.2.1 cf.2.2=some u:=by kernel_rfl):Le m (bX S c Q cf):=zU B h
theorem bD (n s:Nat) {t:Bool} {x y:bf γ} (u:Le (x.bind e) (bX S c Q (uW s true (iD S c n cf)))) (B:Le (y.bind e) (bX S c Q (uW s false (iD S c n cf))))
 (D:(fL S c n cf.1 cf.2.1 cf.2.2).map (λp=>bl p.2.2.g s)=some (some (.v (.bool t))):=by kernel_rfl):Le ((bp t x y).bind e) (bX S c Q cf):=by
 obtain⟨p,w,hv⟩:=eE D;have hg:iD S c n cf=p:=by unfold iD;grind
 rw[hg]at u B;refine zU w ?_;cases t
 .have:uW s false p=p:=by unfold uW;rw[rD hv]
  rw[this]at B;exact B
 have:uW s true p=p:=by unfold uW;rw[rD hv]
 rw[this]at u;exact u
theorem di (n s:Nat) {t:Bool} {x y:bf γ} (u:Le (x.bind e) (bX S c Q (uW s false (iD S c n cf)))) (B:Le (y.bind e) (bX S c Q (uW s true (iD S c n cf))))
 (D:(fL S c n cf.1 cf.2.1 cf.2.2).map (λp=>bl p.2.2.g s)=some (some (.v (.bool (!t)))):=by kernel_rfl):Le ((bp t x y).bind e) (bX S c Q cf):=by
 obtain⟨p,w,hv⟩:=eE D;have hg:iD S c n cf=p:=by unfold iD;grind
 rw[hg]at u B;refine zU w ?_;cases t
 .have:uW s true p=p:=by unfold uW;rw[show V.bool true=V.bool (!false)from rfl,rD hv]
  rw[this]at B;exact B
 have:uW s false p=p:=by unfold uW;rw[show V.bool false=V.bool (!true)from rfl,rD hv]
 rw[this]at u;exact u
theorem CE (n k:Nat) (fr:a_ Nat) (st:δ->St) {m:bf δ} {f:δ->bf γ} (u:Le (m.bind λr=>bX S c Q (jmp k fr (iD S c n cf) (st r))) (bX S c Q cf))
 (h1:∀r,Le ((f r).bind e) (bX S c Q (jmp k fr (iD S c n cf) (st r)))):Le ((m.bind f).bind e) (bX S c Q cf):=Rg _ u h1
theorem bB (n:Nat) {r:δ} {k:δ->Cf} (u:fL S c n cf.1 cf.2.1 cf.2.2=some (k r):=by kernel_rfl):Le ((some r).bind λr=>bX S c Q (k r)) (bX S c Q cf):=XA  u rfl
theorem bh {r:γ} {L:bf β} (h:L=e r:=by kernel_rfl):Le ((some r).bind e) L:=Le.of_eq h
theorem CY (n:Nat) {b:RC} {m:bf (Out×Tb bu)} (h:Le m (bX S c vL (.rc b,[],(iD S c n cf).2.2))) (u:fL S c n cf.1 cf.2.1 cf.2.2=some (.nx,[],(iD S c n cf).2.2):=by kernel_rfl):Le m (bX S c (yF S c b) cf):=UU u h
theorem XF (n:Nat) {o:bf α} (A:bf α->St) {f:α->bf γ} (u:∀x,o=some x->Le ((f x).bind e) (bX S c Q ((iD S c n cf).1,(iD S c n cf).2.1,A (some x))))
 (B:fL S c n cf.1 cf.2.1 cf.2.2=some ((iD S c n cf).1,(iD S c n cf).2.1,A o):=by kernel_rfl):Le ((o.bind f).bind e) (bX S c Q cf):=WE B u
theorem l8.XE {S:Sys} {T:pe} [bz δ] {f:FuncId} {A:α->a_ V} {p:α->bf δ} (u:T f=none) (hk:S.E.keep f=false) (B:∀z r,p z=some r->S.zR f (A z)=some (enc r))
 : l8 S (dc S T) f A (λr=>[enc r]) p false where
 k:=hk
 h z:=by
  intro y t;obtain⟨r,h1,w⟩:=ζg.1 t;cases w;have h:=EF u hk (B z r h1);unfold lW;rw[h];exact pg 8 [enc r]
 s h:=by cases h
def QI:K->bf BinOp
 | .p (.bin (some .slice) _ o)=>some o
 | _=>none
theorem Tu {k:K} {o:BinOp} (h:QI k=some o):∃u,k=.p (.bin (some .slice) u o):=by
 unfold QI at h
 grind
def UR:K->bf (Nat×Nat×a_ Nat)
 | .a (.buildSl sz ln _ ix)=>some (sz,ln,ix)
 | _=>none
theorem VO {k:K} {r:Nat×Nat×a_ Nat} (h:UR k=some r):∃z,k=.a (.buildSl r.1 r.2.1 z r.2.2):=by
 unfold UR at h
 grind
def U0:K->bf (a_ V)
 | .a (.alloc _ zero)=>some zero
 | _=>none
theorem Vq {k:K} {z:a_ V} (h:U0 k=some z):∃n,k=.a (.alloc n z):=by
 unfold U0 at h
 grind
section
variable [bz α]
theorem WK (k:IntKind) (n:Nat) {s:Sl α} {i:Int} {f:α->bf γ} (h:∀x,idx s i=some x->Le ((f x).bind e) (bX S c Q (nx S c n cf λp=>cZ p.st p.d (cp x))))
 (u:(fJ S c n cf).map (λp=>(p.k,bV S.N p.st.g p.az))=some (.p (.idxS (bz.size α)),some [.v (cI s),.v (.int k i)]):=by kernel_rfl):Le (((idx s i).bind f).bind e) (bX S c Q cf):=by
 obtain⟨p,t,hv⟩:=eE u;simp  at hv;refine qx t ?_ h;rw[hv.1];exact Le.of_eq (Q9 hv.2 rfl)
theorem b9 (n:Nat) {s:Sl α} {i:Int} {f:α->bf γ} (h:∀x,idx s i=some x->Le ((f x).bind e) (bX S c Q (nx S c n cf λp=>cZ p.st p.d (cp x))))
 (u:(fJ S c n cf).map (λp=>(p.k,bV S.N p.st.g p.az))=some (.p (.idxS (bz.size α)),some [.v (cI s),.v (.int .i64 i)]):=by kernel_rfl):Le (((idx s i).bind f).bind e) (bX S c Q cf):=WK .i64 n h u
theorem mL (k:IntKind) (n u:Nat) {s:Sl α} {i:Int} {f:Nat->bf γ} (h:∀x,s.j7 i=some x->Le ((f x).bind e) (bX S c Q (nx S c n cf λp=>cZ p.st p.d (.el u x 0))))
 (B:(fJ S c n cf).map (λp=>(p.k,bV S.N p.st.g p.az,bl p.st.m u))=some (.p (.idxS (bz.size α)),some [.own u,.v (.int k i)],some (cn s)):=by kernel_rfl):Le (((s.j7 i).bind f).bind e) (bX S c Q cf):=by
 obtain⟨p,t,hv⟩:=eE B;simp  at hv;refine qx t ?_ h;rw[hv.1];exact Le.of_eq (WW hv.2.1 hv.2.2 rfl)
theorem tu (n u o sz:Nat) (a:Bool) (v:α->V) {s:Sl α} {i:Nat} {f:α->bf γ} (h:∀x,s.get i=some x->Le ((f x).bind e) (bX S c Q (nx S c n cf λp=>cZ p.st p.d (.v (v x)))))
 (B:(fJ S c n cf).map (λp=>(p.k,bV S.N p.st.g p.az,bl p.st.m u,(!p.dr||p.now||eH p.fr [.el u i o])))=some (.r (.load sz a),some [.el u i o],some (cn s),true):=by kernel_rfl) (hv:∀x:α,(cut (cells x) o sz).bind (mk a)=some (v x):=by intro _;rfl):Le (((s.get i).bind f).bind e) (bX S c Q cf):=by
 obtain⟨p,w,t⟩:=eE B;simp only[ζc]at t;refine qx w ?_ h;rw[t.1];exact Le.of_eq (VD t.2.1 t.2.2.2 t.2.2.1 hv)
theorem Ep (n u:Nat) (x:V) {s:Sl α} {i:Nat} {a:α} {f:Sl α->bf γ} (h:∀B,s.put i a=some B->Le ((f B).bind e) (bX S c Q (nx S c n cf λp=>cZ { p.st with m:=bA p.st.m u (cn B) } p.d (.v .undef))))
 (D:(fJ S c n cf).map (λp=>(p.k,bV S.N p.st.g p.az,bl p.st.m u,(!p.dr||p.now),x.cells))=some (.l (.store (bz.size α)),some [.el u i 0,.v x],some (cn s),true,cells a):=by kernel_rfl):Le (((s.put i a).bind f).bind e) (bX S c Q cf):=by
 obtain⟨p,t,hv⟩:=eE D;simp only[ζc]at hv;refine qx t ?_ h;rw[hv.1];exact Le.of_eq (JE hv.2.1 hv.2.2.2.1 hv.2.2.1 hv.2.2.2.2 rfl)
theorem GC (n u:Nat) {i:Int} {z:α} {f:Sl α->bf γ} (h:∀B,kX i z=some B->Le ((f B).bind e) (bX S c Q (nx S c n cf λp=>{ p.st with g:=bA p.st.g u (.own u),m:=bA p.st.m u (cn B) })))
 (D:(fJ S c n cf).map (λp=>(p.d,p.k,bV S.N p.st.g p.az,p.st.new u))=some (some u,.a (.makeSl (bz.size α) (cells z)),some [.v (.int .i64 i),.v (.int .i64 i)],true):=by kernel_rfl):Le (((kX i z).bind f).bind e) (bX S c Q cf):=by
 obtain⟨p,t,hv⟩:=eE D;simp  at hv;refine qx t ?_ h;rw[hv.1,hv.2.1];exact Le.of_eq (Uq hv.2.2.1 rfl rfl hv.2.2.2)
theorem vH (n o w u:Nat) {s:Sl α} {x:α} {f:Sl α->bf γ} (h:∀B,eT s x=some B->Le ((f B).bind e) (bX S c Q (nx S c n cf λp=>{ p.st with g:=bA p.st.g u (.own u),m:=bA (cz o p.st.m) u (cn B) })))
 (D:(fJ S c n cf).map (λp=>(p.d,p.k,bV S.N p.st.g p.az,(!p.dr||p.now),bl p.st.m o,bl p.st.m w,St.new { p.st with m:=cz o p.st.m } u))=some (some u,.l (.append (bz.size α)),some [.own o,.own w],true,some (cn s),some (cn (.row [x])),true):=by kernel_rfl):Le (((eT s x).bind f).bind e) (bX S c Q cf):=by
 obtain⟨p,t,hv⟩:=eE D;simp only[ζc]at hv;refine qx t ?_ h;rw[hv.1,hv.2.1];exact Le.of_eq (Wu hv.2.2.1 hv.2.2.2.1 hv.2.2.2.2.1 hv.2.2.2.2.2.1 rfl hv.2.2.2.2.2.2)
theorem RL (n w u:Nat) (v:V) (x:α) {m:bf β} (h:Le m (bX S c Q (nx S c n cf λp=>{ p.st with g:=bA p.st.g u (.own u),m:=bA p.st.m u (cn (.row [x])) }))) (hv:v=.bN\/v=.c_:=by first|exact .inl rfl|exact .inr rfl)
 (B:(fJ S c n cf).map (λp=>(p.d,p.k,bV S.N p.st.g p.az,(!p.dr||p.now),bl p.st.m w,p.st.new u))=some (some u,.l (.append (bz.size α)),some [.v v,.own w],true,some (cn (.row [x])),true):=by kernel_rfl):Le m (bX S c Q cf):=by
 obtain⟨p,z,t⟩:=eE B;simp only[ζc]at t;refine uR z ?_ h;rw[t.1,t.2.1];exact UO hv t.2.2.1 t.2.2.2.1 t.2.2.2.2.1 rfl t.2.2.2.2.2
theorem bR (n:Nat) (s:Sl α) {m:bf β} (h:Le m (bX S c Q (nx S c n cf λp=>cZ p.st p.d (.v (.int .i64 s.l.length)))))
 (u:(fJ S c n cf).map (λp=>(p.k,bV S.N p.st.g p.az))=some (.p .lenSl,some [.v (cI s)]):=by kernel_rfl):Le m (bX S c Q cf):=by
 obtain⟨p,t,hv⟩:=eE u;simp  at hv;refine uR t ?_ h;rw[hv.1];exact Q5 hv.2
theorem wA (n u:Nat) (s:Sl α) {m:bf β} (h:Le m (bX S c Q (nx S c n cf λp=>cZ p.st p.d (.v (.int .i64 s.l.length)))))
 (B:(fJ S c n cf).map (λp=>(p.k,bV S.N p.st.g p.az,bl p.st.m u))=some (.p .lenSl,some [.own u],some (cn s)):=by kernel_rfl):Le m (bX S c Q cf):=by
 obtain⟨p,t,hv⟩:=eE B;simp  at hv;refine uR t ?_ h;rw[hv.1];exact UX hv.2.1 hv.2.2
theorem Vv (n:Nat) {s:Sl α} {f:Bool->bf γ} (h:∀t,s.isNil=some t->Le ((f t).bind e) (bX S c Q (nx S c n cf λp=>cZ p.st p.d (.v (.bool t)))))
 (B:(fJ S c n cf).map (λp=>(QI p.k,bV S.N p.st.g p.az))=some (some .eql,some [.v (cI s),.v .bN]):=by kernel_rfl):Le ((s.isNil.bind f).bind e) (bX S c Q cf):=by
 obtain⟨p,w,hv⟩:=eE B;simp  at hv;obtain⟨u,hk⟩:=Tu hv.1;refine qx w ?_ h;rw[hk];exact Le.of_eq (SP hv.2)
theorem Ed (n:Nat) (u B:Bool) (D:a_ V) {s:Sl α} {a b:bf Int} {f:Sl α->bf γ} (h:∀x,gm s a b=some x->Le ((f x).bind e) (bX S c Q (nx S c n cf λp=>cZ p.st p.d (.v (cI x)))))
 (G:(fJ S c n cf).map (λp=>(p.k,bV S.N p.st.g p.az,mO u B D))=some (.p (.slice (bz.size α) u B),some (.v (cI s)::D.map .v),some (a,b)):=by kernel_rfl):Le (((gm s a b).bind f).bind e) (bX S c Q cf):=by
 obtain⟨p,t,hv⟩:=eE G;simp  at hv;obtain⟨h1,C⟩:=js t;obtain⟨dr,fr,d,gd,now,k,az,dd,l,fs,st⟩:=p;obtain⟨rfl,I,J⟩:=hv;exact XL n dr fr (⟨d,gd,now,.p (.slice (bz.size α) u B),az,dd,[]⟩::l) fs st u B D  rfl Zd λw z=>by
  have:=h w z;simp only[nx,t]at this;omega
theorem QV (n:Nat) (B D:Bool) (u t:Nat) (G:a_ V) {s:Sl α} {a b:bf Int} {f:Sl α->bf γ} (h:∀x,kO s a b=some x->Le ((f x).bind e) (bX S c Q (nx S c n cf λp=>{ p.st with g:=bA p.st.g t (.own t),m:=bA (cz u p.st.m) t (cn x) })))
 (J:(fJ S c n cf).map (λp=>(p.d,p.k,p.dr,bV S.N p.st.g p.az,mO B D G,bl p.st.m u,St.new { p.st with m:=cz u p.st.m } t))=some (some t,.p (.slice (bz.size α) B D),false,some (.own u::G.map .v),some (a,b),some (cn s),true):=by kernel_rfl):Le (((kO s a b).bind f).bind e) (bX S c Q cf):=by
 obtain⟨p,w,hv⟩:=eE J;simp  at hv;obtain⟨h1,L⟩:=js w;obtain⟨dr,fr,d,gd,now,k,az,dd,l,fs,st⟩:=p;obtain⟨rfl,rfl,rfl,O,T,U,z⟩:=hv;exact Wf n fr (⟨some t,gd,now,.p (.slice (bz.size α) B D),az,dd,[]⟩::l) fs st B D u G  rfl z Zd λC I=>by
  have:=h C I;simp only[nx,w]at this;omega
theorem dn (n u:Nat) (x:α) {m:bf β} (h:Le m (bX S c Q (nx S c n cf λp=>{ p.st with g:=bA p.st.g u (.ptr u 0),m:=bA p.st.m u (bx x) })))
 (B:(fJ S c n cf).map (λp=>(p.d,p.k,bV S.N p.st.g p.az,p.st.new u))=some (some u,.a .box,some [cv x],true):=by kernel_rfl):Le m (bX S c Q cf):=by
 obtain⟨p,t,hv⟩:=eE B;simp  at hv;refine uR t ?_ h;rw[hv.1,hv.2.1,yR,hv.2.2.1];simp only[ζb,hv.2.2.2,if_true,mw,gT,tJ]
def Rq (u o sz:Nat) (xs:a_ SV) (p:EG):St:=match bl p.st.m u with
 | some (.box cs)=>cZ { p.st with m:=bA p.st.m u (.box (cs.take o++xs++cs.drop (o+sz))) } p.d (.v .undef)
 | _=>p.st
theorem j8 (n u o:Nat) (x:α) {m:bf β} (h:Le m (bX S c Q (nx S c n cf (Rq u o (bz.size α) ((cells x).map .v)))))
 (B:(fJ S c n cf).map (λp=>(p.k,bV S.N p.st.g p.az,(!p.dr||p.now),match bl p.st.m u with|some (.box cs)=>Nat.ble (o+bz.size α) cs.length|_=>false))=some (.l (.store (bz.size α)),some [.ptr u o,cv x],true,true):=by kernel_rfl):Le m (bX S c Q cf):=by
 obtain⟨p,z,hv⟩:=eE B;simp only[ζc]at hv;refine uR z ?_ h;obtain⟨h1,C,D,w⟩:=hv;split at w
 next cs t=>have G:=Nat.le_of_ble_eq_true w;rw[h1,r_,C];simp only[ζb,D,if_true,jC,t,putCells,gT,gH,tJ,G,and_self,Option.map_some,Rq]
 simp_all
theorem Bg (n u:Nat) (xs:a_ α) {m:bf β} (h:Le m (bX S c Q (nx S c n cf λp=>{ p.st with g:=bA p.st.g u (.own u),m:=bA p.st.m u (cn (.row xs)) })))
 (B:(fJ S c n cf).map (λp=>(p.d,UR p.k,bV S.N p.st.g p.az,p.st.new u))=some (some u,some (bz.size α,xs.length,List.range' 0 xs.length),some ((xs.map enc).map .v),true):=by kernel_rfl):Le m (bX S c Q cf):=by
 obtain⟨p,t,hv⟩:=eE B;simp  at hv;obtain⟨h1,D⟩:=js t;obtain⟨dr,fr,d,gd,now,k,az,dd,l,fs,st⟩:=p;obtain⟨rfl,w,G,C⟩:=hv;obtain⟨z,rfl⟩:=VO w;exact Ya n dr fr (⟨some u,gd,now,.a (.buildSl (bz.size α) xs.length z (List.range' 0 xs.length)),az,dd,[]⟩::l) fs st xs rfl C Zd (by
  simp[nx,t]at h;omega)
theorem B4 (n:Nat) (x:α) (vs z:a_ V) (pl:a_ (Nat×Nat)) {m:bf β} (u:kf z pl vs=some (cells x)) (B:bz.agg α=true) (h:Le m (bX S c Q (nx S c n cf λp=>cZ p.st p.d (cv x))))
 (D:(fJ S c n cf).map (λp=>(p.k,bV S.N p.st.g p.az))=some (.p (.build z pl),some (vs.map .v)):=by kernel_rfl):Le m (bX S c Q cf):=by
 obtain⟨p,t,hv⟩:=eE D;simp  at hv;obtain⟨h1,w⟩:=js t;obtain⟨dr,fr,d,gd,now,k,az,dd,l,fs,st⟩:=p;obtain⟨rfl,C⟩:=hv;exact XD n dr fr (⟨d,gd,now,.p (.build z pl),az,dd,[]⟩::l) fs st x vs rfl u B Zd (by
  simp only[nx,t]at h;omega)
end
theorem As (n:Nat) (k:IntKind) {a:ByteArray} {b:Int} {f:Int->bf γ} (h:∀x,ki a b=some x->Le ((f x).bind e) (bX S c Q (nx S c n cf λp=>cZ p.st p.d (.v (.int .u8 x)))))
 (u:(fJ S c n cf).map (λp=>(p.k,bV S.N p.st.g p.az))=some (.p .idxStr,some [.v (.str a),.v (.int k b)]):=by kernel_rfl):Le (((ki a b).bind f).bind e) (bX S c Q cf):=by
 obtain⟨p,t,hv⟩:=eE u;simp  at hv;refine qx t ?_ h;rw[hv.1];exact Le.of_eq (OX hv.2)
section
variable {A:α->a_ V} {E:δ->a_ V} {pl:α->bf δ} {fn:FuncId} {sc:Bool}
theorem wX (n:Nat) (F:l8 S c fn A E pl sc) (z:α) {f:δ->bf γ} (h:∀x,pl z=some x->Le ((f x).bind e) (bX S c Q (nx S c n cf λp=>cZ p.st p.d (.v (result (E x))))))
 (B:(fJ S c n cf).map (λp=>(p.k,(bV S.N p.st.g p.az).bind k_,(!p.dr||p.now||dR p.st.m p.fr [])))=some (.c,some (fn,(A z).map .v),true):=by kernel_rfl):Le (((pl z).bind f).bind e) (bX S c Q cf):=by
 obtain⟨p,w,hv⟩:=eE B;simp  at hv;obtain⟨C,D,L⟩:=hv;obtain⟨G,g1,g2⟩:=ζg.1 D;have t:∀d (u:a_ V),SV.c6 d (u.map .v)=false:=λd u=>by
  induction u with
  | nil=>rfl
  | cons a l I=>simp[SV.c6,SV.ct,I]
 have J:(!p.dr||p.now||dR p.st.m p.fr ((A z).map .v))=true:=by
  have:dR p.st.m p.fr ((A z).map .v)=dR p.st.m p.fr []:=by unfold dR;simp[t];rfl
  grind
 refine qx w ?_ h;rw[C];exact Iu (F.h z) F.k g1 g2 (Gs _ _ _) J (λr=>by rw[kL];simp)
theorem U6 (n:Nat) (F:l8 S c fn A E pl true) (z:α) {f:δ->bf γ} (h:∀x,pl z=some x->Le ((f x).bind e) (bX S c Q (nx S c n cf λp=>cZ p.st p.d (.v (result (E x))))))
 (u:(fJ S c n cf).map (λp=>(p.k,((bV S.N p.st.g p.az).bind k_).bind λq=>(nS (iV p.st.m 8) q.2).map λvs=>(q.1,vs,((!p.dr||p.now)||dR p.st.m p.fr q.2))))=some (.c,some (fn,A z,true)):=by kernel_rfl):Le (((pl z).bind f).bind e) (bX S c Q cf):=by
 obtain⟨p,t,hv⟩:=eE u;simp  at hv;obtain⟨w,B⟩:=hv;obtain⟨q,g1,g2⟩:=ζg.1 B;obtain⟨C,g3,g4⟩:=ζg.1 g1;obtain⟨vs,g5,g6⟩:=ζf.1 g2;simp only[ζc]at g6;obtain⟨e1,rfl,e3⟩:=g6;refine qx t ?_ h;rw[w];exact Iu (F.h z) F.k g3 Zd g5 e3 (λr=>by rw[F.s rfl];rfl)
end
section
variable {N:Nat} [bz α]
theorem Ri (n:Nat) (k:IntKind) {a:bP N α} {i:Int} {f:α->bf γ} (h:∀x,a.at i=some x->Le ((f x).bind e) (bX S c Q (nx S c n cf λp=>cZ p.st p.d (.v (.fptr (pa a i))))))
 (u:(fJ S c n cf).map (λp=>(p.k,bV S.N p.st.g p.az))=some (.p (.idxA N (bz.size α)),some [cp a,.v (.int k i)]):=by kernel_rfl):Le (((a.at i).bind f).bind e) (bX S c Q cf):=by
 obtain⟨p,t,hv⟩:=eE u;simp  at hv;obtain⟨h1,z⟩:=js t;obtain⟨dr,fr,d,gd,now,B,az,dd,l,fs,st⟩:=p;obtain⟨rfl,C⟩:=hv;exact V8 n dr fr (⟨d,gd,now,.p (.idxA N (bz.size α)),az,dd,[]⟩::l) fs st k   rfl Zd λx w=>by
  have:=h x w;simp only[nx,t]at this;omega
theorem Pf (n k:Nat) (a:bP N α) (i:Int) (o:Nat) (x:α) (u:a.at i=some x) {m:bf β} (h:Le m (bX S c Q (nx S c n cf λp=>cZ p.st p.d (.v (.fptr ((pa a i).drop (o+k)))))))
 (B:(fJ S c n cf).map (λp=>(p.k,bV S.N p.st.g p.az,Nat.ble (o+k) (bz.size α)))=some (.p (.fieldAddr k),some [.v (.fptr ((pa a i).drop o))],true):=by kernel_rfl):Le m (bX S c Q cf):=by
 obtain⟨p,t,hv⟩:=eE B;simp  at hv;obtain⟨h1,w⟩:=js t;obtain⟨dr,fr,d,gd,now,z,az,dd,l,fs,st⟩:=p;obtain⟨rfl,C,D⟩:=hv;exact Xp n dr fr (⟨d,gd,now,.p (.fieldAddr k),az,dd,[]⟩::l) fs st a i o x u rfl Zd (by
  simp only[nx,t]at h;omega)
theorem Q_ (n sz:Nat) (ag:Bool) (a:bP N α) (i:Int) (o:Nat) (x:α) (B:a.at i=some x) (v:V) (hv:(cut (cells x) o sz).bind (mk ag)=some v) {m:bf β} (h:Le m (bX S c Q (nx S c n cf λp=>cZ p.st p.d (.v v))))
 (D:(fJ S c n cf).map (λp=>(p.k,bV S.N p.st.g p.az))=some (.r (.load sz ag),some [.v (.fptr ((pa a i).drop o))]):=by kernel_rfl):Le m (bX S c Q cf):=by
 obtain⟨p,u,t⟩:=eE D;simp  at t;obtain⟨h1,w⟩:=js u;obtain⟨dr,fr,d,gd,now,z,az,dd,l,fs,st⟩:=p;obtain⟨rfl,C⟩:=t;exact Wz n dr fr (⟨d,gd,now,.r (.load sz ag),az,dd,[]⟩::l) fs st a i o x B hv v rfl Zd (by
  simp only[nx,u]at h;omega)
theorem Vj (n u:Nat) (st:St) (cs:a_ SV) {m:bf β} (B:st.new u=true) (h:Le m (bX S c Q (nx S c n cf λ_=>{ st with g:=bA st.g u (.ptr u 0),m:=bA st.m u (.box cs) })))
 (D:(fJ S c n cf).map (λp=>(p.d,(U0 p.k).map (λz=>z.map SV.v),bV S.N p.st.g p.az,p.st))=some (some u,some cs,some [],st):=by kernel_rfl):Le m (bX S c Q cf):=by
 obtain⟨p,w,hv⟩:=eE D;simp only[ζc]at hv;obtain⟨z,C,t⟩:=eE hv.2.1;obtain⟨k,hk⟩:=Vq C;refine uR w ?_ h;rw[hv.1,hk,yR,hv.2.2.1,hv.2.2.2];simp[B,mw,t]
theorem FV (n:Nat) (k:IntKind) (u:Nat) {a:bP N α} {i:Int} {f:α->bf γ} (h:∀x,a.at i=some x->Le ((f x).bind e) (bX S c Q (nx S c n cf λp=>cZ p.st p.d (.ptr u (i.toNat*bz.size α+0)))))
 (B:(fJ S c n cf).map (λp=>(p.k,bV S.N p.st.g p.az,bl p.st.m u))=some (.p (.idxA N (bz.size α)),some [.ptr u 0,.v (.int k i)],some (bx a)):=by kernel_rfl):Le (((a.at i).bind f).bind e) (bX S c Q cf):=by
 obtain⟨p,t,hv⟩:=eE B;simp  at hv;obtain⟨h1,z⟩:=js t;obtain⟨dr,fr,d,gd,now,C,az,dd,l,fs,st⟩:=p;obtain⟨rfl,D,G⟩:=hv;exact Wq n dr fr (⟨d,gd,now,.p (.idxA N (bz.size α)),az,dd,[]⟩::l) fs st k u   rfl Zd λx w=>by
  have:=h x w;simp only[nx,t]at this;omega
theorem Q3 (n sz:Nat) (ag:Bool) (u:Nat) (a:bP N α) (i:Int) (o:Nat) (x:α) (B:a.at i=some x) (v:V) (hv:(cut (cells x) o sz).bind (mk ag)=some v) {m:bf β} (h:Le m (bX S c Q (nx S c n cf λp=>cZ p.st p.d (.v v))))
 (D:(fJ S c n cf).map (λp=>(p.k,bV S.N p.st.g p.az,bl p.st.m u,(!p.dr||p.now||eH p.fr [.ptr u 0])))=some (.r (.load sz ag),some [.ptr u (i.toNat*bz.size α+o)],some (bx a),true):=by kernel_rfl):Le m (bX S c Q cf):=by
 obtain⟨p,w,t⟩:=eE D;simp  at t;obtain⟨h1,z⟩:=js w;obtain⟨dr,fr,d,gd,now,C,az,dd,l,fs,st⟩:=p;obtain⟨rfl,G,I,J⟩:=t;exact Wg n dr fr (⟨d,gd,now,.r (.load sz ag),az,dd,[]⟩::l) fs st u a i o x B hv v rfl Zd (by
  simp only[nx,w]at h;omega)
end
section
variable {κ ν:Type} [bz κ] [DecidableEq κ] [Key κ] [bz ν]
theorem Rp (n u:Nat) (mp:Mo κ ν) (k:κ) (z:ν) {m:bf β} (h:Le m (bX S c Q (nx S c n cf λp=>cZ p.st p.d (cv (wY mp k z)))))
 (B:(fJ S c n cf).map (λp=>(p.k,bV S.N p.st.g p.az,bl p.st.m u,(!p.dr||p.now||eH p.fr [.mp u,cv k])))=some (.r (.lookup (Key.kk κ) (enc z) false),some [.mp u,cv k],some (sM mp),true):=by kernel_rfl):Le m (bX S c Q cf):=by
 obtain⟨p,t,hv⟩:=eE B;simp  at hv;obtain⟨h1,w⟩:=js t;obtain⟨dr,fr,d,gd,now,C,az,dd,l,fs,st⟩:=p;obtain⟨rfl,D,G,I⟩:=hv;exact Wl n dr fr (⟨d,gd,now,.r (.lookup (Key.kk κ) (enc z) false),az,dd,[]⟩::l) fs st u mp k z rfl Zd (by
  simp only[nx,t]at h;omega)
theorem Ou (n u:Nat) (mp:Mo κ ν) (k:κ) (v:ν) {m:bf β} (h:Le m (bX S c Q (nx S c n cf λp=>cZ { p.st with m:=bA p.st.m u (sM (nr mp k v)) } p.d (.v .undef))))
 (B:(fJ S c n cf).map (λp=>(p.k,bV S.N p.st.g p.az,bl p.st.m u,(!p.dr||p.now)))=some (.l (.mapUp (Key.kk κ)),some [.mp u,cv k,cv v],some (sM mp),true):=by kernel_rfl):Le m (bX S c Q cf):=by
 obtain⟨p,w,t⟩:=eE B;simp  at t;obtain⟨h1,z⟩:=js w;obtain⟨dr,fr,d,gd,now,C,az,dd,l,fs,st⟩:=p;obtain⟨rfl,D,G,I⟩:=t;exact Xn n dr fr (⟨d,gd,now,.l (.mapUp (Key.kk κ)),az,dd,[]⟩::l) fs st u mp k v rfl Zd (by
  simp[nx,w]at h;omega)
end
theorem V_ (n:Nat) (st:St) {rs:a_ RV} {e:γ->bf (a_ V)} {r:γ} (svs:a_ SV) {ys:a_ V} (u:nS (iV st.m 8) svs=some ys) (B:e r=some ys)
 (h:(fL S c n cf.1 cf.2.1 cf.2.2).map (λq=>(q.1,q.2.2,i_ q.2.2 rs))=some (.rt,st,some svs):=by kernel_rfl):Le ((some r).bind e) (bX S c (ql rs) cf):=by
 obtain⟨⟨fo,fs,st'⟩,t,hv⟩:=eE h;simp  at hv;obtain⟨rfl,rfl,w⟩:=hv;exact Wo n svs u (by rw[t,w]) B
end
end Go.VE
namespace Go.VE
variable [bO]
section
variable {S:Sys} {c:bU} {β γ δ α:Type} [bz α] {Q:Out×St->bf β} {e:γ->bf β} {cf:Cf}
def mI (s x:Sl α):bf (Sl α):=if x.l=[]then some s else if s.l.length+x.l.length<=2147483648 then some (.row (s.l++x.l))else none
theorem SX (m:Tb bu) (n w:Nat) (x:Sl α) (u:n=bz.size α) (B:bl m w=some (cn x)):iM m n (.own w)=some (rows x.l):=by
 rw[AX,B,A5 n x u]
theorem G0 (l:a_ α):rows l=[]↔l=[]:=by unfold rows;simp
theorem Pk (a b:a_ α):rows a++rows b=rows (a++b):=by unfold rows;simp
theorem GA (a:a_ α):(rows a).length=a.length:=by unfold rows;simp
theorem VS {st:St} {dr now:Bool} {fr:a_ Nat} {az:a_ Arg} {d n o:Nat} {s x:Sl α} {u:SV} (J:bV S.N st.g az=some [.own o,u]) (hd:(!dr||now)=true) (B:bl st.m o=some (cn s)) (O:iM st.m n u=some (rows x.l)) (D:n=bz.size α) (G:St.new { st with m:=cz o st.m } d=true) :
 fH S c dr fr ⟨some d,none,now,.l (.append n),az,[],[]⟩ st=(mI s x).bind λT=>some { st with g:=bA st.g d (.own d),m:=bA (cz o st.m) d (cn T) }:=by
 rw[r_,J];simp only[ζb,hd,if_true,wP (SX st.m n o s D B) O];unfold mI
 by_cases h:x.l=[]
 .rw[if_pos h,(G0 x.l).2 h];simp only[xo,B,if_pos G,ζb];rfl
 rw[if_neg h];have hr:rows x.l≠[]:=λe=>h ((G0 _).1 e)
 have w:xo st d n (.own o) (some (rows s.l)) (some (rows x.l))=if(rows s.l).length+(rows x.l).length<=2147483648/\G6 (.own o)=true then(if St.new { st with m:=giveUp st.m (.own o) } d then some (.own d,{ st with m:=bA (giveUp st.m (.own o)) d (.sl .row n (rows s.l++rows x.l)) })else none)else none:=by
  unfold xo;generalize rows x.l=r at *
  cases r with
  | nil=>exact absurd rfl hr
  | cons y r=>rfl
 rw[w,GA,GA,Pk]
 by_cases t:s.l.length+x.l.length<=2147483648
 .rw[if_pos ⟨t,rfl⟩,if_pos (show St.new { st with m:=giveUp st.m (.own o) } d=true from G),if_pos t];rw[ζb,ζb,D];rfl
 rw[if_neg (λk=>t k.1),if_neg t];rfl
theorem V9 (n o u:Nat) (D:SV) {s x:Sl α} {f:Sl α->bf γ} (G:∀p,fJ S c n cf=some p->iM p.st.m (bz.size α) D=some (rows x.l))
 (h:∀B,mI s x=some B->Le ((f B).bind e) (bX S c Q (nx S c n cf λp=>{ p.st with g:=bA p.st.g u (.own u),m:=bA (cz o p.st.m) u (cn B) })))
 (J:(fJ S c n cf).map (λp=>(p.d,p.k,bV S.N p.st.g p.az,(!p.dr||p.now),bl p.st.m o,St.new { p.st with m:=cz o p.st.m } u))=some (some u,.l (.append (bz.size α)),some [.own o,D],true,some (cn s),true):=by kernel_rfl):Le (((mI s x).bind f).bind e) (bX S c Q cf):=by
 obtain⟨p,t,hv⟩:=eE J;simp only[ζc]at hv;refine qx t ?_ h;rw[hv.1,hv.2.1];exact Le.of_eq (VS hv.2.2.1 hv.2.2.2.1 hv.2.2.2.2.1 (G p t) rfl hv.2.2.2.2.2)
theorem KV (m:Tb bu) (x:Sl α):iM m (bz.size α) (.v (cI x))=some (rows x.l):=by
 cases x <;> simp[cI,Sl.k,Sl.l,jK,iM,rows]
theorem Aj (n o u:Nat) {s x:Sl α} {f:Sl α->bf γ}
 (h:∀B,mI s x=some B->Le ((f B).bind e) (bX S c Q (nx S c n cf λp=>{ p.st with g:=bA p.st.g u (.own u),m:=bA (cz o p.st.m) u (cn B) })))
 (D:(fJ S c n cf).map (λp=>(p.d,p.k,bV S.N p.st.g p.az,(!p.dr||p.now),bl p.st.m o,St.new { p.st with m:=cz o p.st.m } u))=some (some u,.l (.append (bz.size α)),some [.own o,.v (cI x)],true,some (cn s),true):=by kernel_rfl):Le (((mI s x).bind f).bind e) (bX S c Q cf):=
 V9 n o u _ (λp _=>KV p.st.m x) h D
end
theorem uT {α:Type} {l:a_ α} {i:Nat} {x:α} (h:l[i]? = some x):l.set i x=l:=by
 obtain⟨t,rfl⟩:=ζe.1 h;exact List.set_getElem_self t
open Classical in
def Ek (E:Env) (g:FuncId) (cb:a_ V) (a b:V):bf V:=
 if h:∃n y,b8 (run E n) g (a::b::cb) []=some y then some (Classical.choose (Classical.choose_spec h))else none
theorem JP {E:Env} {g:FuncId} {cb:a_ V} {a b y:V} (h:Ek E g cb a b=some y):∃n,∀k,n<=k->b8 (run E k) g (a::b::cb) []=some y:=by
 unfold Ek at h;split at h
 next h1=>cases h;exact⟨_,λk hk=>nE (qw E hk) (Classical.choose_spec (Classical.choose_spec h1))⟩
 cases h
theorem RR {E:Env} {g:FuncId} {cb:a_ V} {a b y:V} {n:Nat} (h:b8 (run E n) g (a::b::cb) []=some y):Ek E g cb a b=some y:=by
 have h1:∃n y,b8 (run E n) g (a::b::cb) []=some y:=⟨n,y,h⟩
 cases hc:Ek E g cb a b with
 | none=>unfold Ek at hc;rw[dif_pos h1]at hc;cases hc
 | some z=>
  obtain⟨m,t⟩:=JP hc;have:=t _ (Nat.le_max_right n m);rw[nE (qw E (Nat.le_max_left n m)) h]at this;cases this;rfl
theorem Jw {n:Nat} {p:_root_.Fin n->Nat->Prop} (h:∀i,∃N,∀k,N<=k->p i k):∃N,∀i k,N<=k->p i k:=by
 induction n with
 | zero=>exact⟨0,λi=>i.elim0⟩
 | succ n t=>
  obtain⟨N,u⟩:=t (p:=λi=>p i.succ) λi=>h i.succ
  obtain⟨M,w⟩:=h 0;refine⟨max N M,λi k hk=>?_⟩
  refine _root_.Fin.cases (w k Za) (λj=>u j k Za) i
def jx (x:a_ V):V:=x.headD .undef
def vm (es:Nat) (xs:a_ (a_ V)):Bool:=es==1&&xs.all (λx=>x.length==1&&x.all V.one)&&decide (xs.length<=2147483648)
theorem Ct {es:Nat} {xs:a_ (a_ V)} (h:vm es xs=true):es=1/\xs.length<=2147483648/\∀(i:Nat) x,xs[i]? = some x->x=[jx x]/\(jx x).one=true:=by
 unfold vm at h;simp only[ζh,beq_iff_eq,List.all_eq_true,decide_eq_true_eq]at h;refine⟨h.1.1,h.2,λi x t=>?_⟩
 obtain⟨h1,w⟩:=h.1.2 x (List.mem_of_getElem? t);obtain⟨u,rfl⟩:=List.length_eq_one_iff.1 h1;exact⟨rfl,w u Zc⟩
section
variable {H:bn} {Z:Nat->Prop}
theorem c8.S3 {k:Nat} {xs ys:a_ V} (h:c8 H Z xs ys) (B:V.kV k xs=true):borrows k H ys=some xs:=jY h.1 λj u v hu hv=>(h.2 j u v hu hv).borrow k (mP.1 B j u hu)
theorem c8.borrows {xs ys:a_ V} (h:c8 H Z xs ys):∃n,∀k,n<=k->borrows k H ys=some xs:=by
 obtain⟨n,t⟩:=ny xs;exact⟨n,λk hk=>h.S3 (pV hk t)⟩
theorem MW {es:Nat} {xs:a_ (a_ V)} (h:vm es xs=true) {rs:a_ (a_ V)} (B:fh H Z xs rs):c8 H Z (xs.map jx) rs.flatten:=by
 induction xs generalizing rs with
 | nil=>have:=B.1;simp at this;have:rs=[]:=List.eq_nil_of_length_eq_zero (by simpa using this.symm);subst this;exact .nil
 | cons x xs C=>
  obtain⟨h1,J,D⟩:=Ct h
  cases rs with
  | nil=>have:=B.1;simp at this
  | cons r rs=>
   obtain⟨e,_⟩:=D 0 x rfl;have z:=B.2 0 x r rfl rfl;rw[e]at z;obtain⟨u,L,rfl,hu,t⟩:=z.inv;rw[t.cT];have w:vm es xs=true:=by
    unfold vm at h ⊢;simp only[List.all_cons,ζh,List.length_cons,decide_eq_true_eq]at h ⊢;exact⟨⟨h.1.1,h.1.2.2⟩,by omega⟩
   exact .cons hu (C w (rs:=rs) ⟨by have:=B.1;simpa using this,λj a b G I=>B.2 (j+1) a b G I⟩)
end
def sG (E:Env) (g:FuncId) (cb:a_ V) (a b:V):bf Int:=match Ek E g cb a b with|some (.int .i64 c)=>some c|_=>none
theorem P5 {E:Env} {g:FuncId} {cb:a_ V} {a b:V} {c:Int} (h:sG E g cb a b=some c):∃n,∀k,n<=k->b8 (run E k) g (a::b::cb) []=some (.int .i64 c):=by
 unfold sG at h;split at h
 next c' hc=>cases h;exact JP hc
 cases h
def Ad (E:Env) (es:Nat) (xs:a_ (a_ V)):a_ V->bf (a_ (a_ V))
 | [.clo g [] cb]=>match xs with
  | []=>some []
  | x::l=>if vm es (x::l) && !E.keep g then
   let t:_root_.Fin (l.length+1)->_root_.Fin (l.length+1)->bf Int:=λi j=>sG E g cb (jx (((x::l)[i.1]?).getD [])) (jx (((x::l)[j.1]?).getD []))
   if AQ t then some ((pT l.length (oL t)).toList.map λi=>((x::l)[i.1]?).getD [])else none
   else none
 | _=>none
def sw (E:Env):ED:=⟨false,Ad E⟩
theorem Dc {n:Nat} {lt:_root_.Fin (n+1)->_root_.Fin (n+1)->Bool} (h:Sort.SWO lt):(pT n lt).size=n+1:=by
 rw[BJ];have:=(Sort.pdq_sorts lt h (List.finRange (n+1)).toArray 0 (n+1) (Lib.bitLen (n+1)) true true (Nat.zero_le _) Zc (Or.inl rfl)).1.1
 simpa using this
theorem OF {E:Env} {f:FuncId} (hk:E.keep f=true) (ho:E.own f=false) (hs:E.sort f=true) (hf:E.ft f=none):n9 E f (sw E) where
 keep:=hk
 own:=ho
 le:=by
  intro es xs vs ys h;simp only[sw,Ad]at h;split at h
  .split at h
   .cases h;exact⟨Nat.le_refl _,λ_=>rfl⟩
   split at h
   .split at h
    next Y=>cases h;have:=Dc (p9 Y).2;simp only[List.length_map,Array.length_toList,List.length_cons,this];exact⟨Nat.le_refl _,λ_=>trivial⟩
    cases h
   cases h
  cases h
 none:=by
  intro es vs ys h H Z ws w hw he;simp only[sw,Ad]at h;split at h
  .obtain⟨w2,r,rfl,h1,h2⟩:=hw.inv;rw[h2.cT];refine⟨1,[],λk hk=>?_⟩
   cases k with
   | zero=>omega
   | succ k=>rcases he with rfl|rfl <;> simp[run,iR,hf,hs,qf,sw]
  cases h
 row:=by
  intro es xs vs ys h H Z ws id off rs hw J B G t hz;simp only[sw,Ad]at h;split at h
  .rename_i g cb;obtain⟨w2,r,rfl,h1,h2⟩:=hw.inv;rw[h2.cT];obtain⟨a',I,rfl,ha,aa⟩:∃a' I,w2=.clo g a' I/\c8 H Z [] a'/\c8 H Z cb I:=h1.jU;rw[ha.cT]at *;split at h
   .cases h;refine⟨1,rs,[],λk hk=>?_,rfl,⟨rfl,λj u v hu=>by simp at hu⟩,t⟩
    cases k with
    | zero=>omega
    | succ k=>
     have:H.set id (.row es rs)=H:=uT J;simp[run,iR,hf,hs,qf,sw,this]
   rename_i x l;split at h
   .rename_i C;simp only[ζh,Bool.not_eq_true']at C;obtain⟨c1,c3⟩:=C;obtain⟨rfl,O,ae⟩:=Ct c1;split at h
    .rename_i Y;cases h;obtain⟨D,Q⟩:=p9 Y;have z:∀i,Z i->Z i/\bq (H.set id .dead) i=bq H i:=λi hi=>⟨hi,by
      unfold bq;rw[List.getElem?_set_ne];rintro rfl;exact hz hi⟩
     have S:=G.mono z;obtain⟨M1,T⟩:=(MW c1 S).borrows;simp only[List.length_cons]at T;obtain⟨M2,U⟩:=(aa.mono z).borrows;obtain⟨N,hN⟩:=Jw (p:=λi k=>∀j:_root_.Fin (l.length+1),b8 (run E k) g (jx (((x::l)[i.1]?).getD [])::jx (((x::l)[j.1]?).getD [])::cb) []=some (.int .i64 ((sG E g cb (jx (((x::l)[i.1]?).getD [])) (jx (((x::l)[j.1]?).getD []))).getD 0))) (λi=>by
      obtain⟨N,hN⟩:=Jw (p:=λ(j:_root_.Fin (l.length+1)) k=>b8 (run E k) g (jx (((x::l)[i.1]?).getD [])::jx (((x::l)[j.1]?).getD [])::cb) []=some (.int .i64 ((sG E g cb (jx (((x::l)[i.1]?).getD [])) (jx (((x::l)[j.1]?).getD []))).getD 0))) (λj=>by
       obtain⟨c,hc⟩:=D i j;obtain⟨n,hn⟩:=P5 hc;exact⟨n,λk hk=>by rw[hn k hk,hc];rfl⟩)
      exact⟨N,λk hk j=>hN j k hk⟩)
     have W:∀k,N<=k->iG (run E k) g ((x::l).map jx) cb l.length=λi j=>sG E g cb (jx (((x::l)[i.1]?).getD [])) (jx (((x::l)[j.1]?).getD [])):=λk hk=>by
      funext i j
      obtain⟨c,hc⟩:=D i j;have e1:∀i:_root_.Fin (l.length+1),((x::l).map jx)[i.1]? = some (jx (((x::l)[i.1]?).getD [])):=λi=>by
       have:i.1<(x::l).length:=i.2;rw[List.getElem?_map,ζd this];rfl
      unfold iG;rw[e1 i,e1 j];simp only[hN i k hk j];rw[hc];rfl
     have ab:=Dc Q;generalize hL:(pT l.length (oL λi j:_root_.Fin (l.length+1)=>sG E g cb (jx (((x::l)[i.1]?).getD [])) (jx (((x::l)[j.1]?).getD [])))).toList=L at *
     have ad:L.length=l.length+1:=by rw[<-hL];simpa using ab
     simp only[List.length_cons]at B G O;refine⟨max N (max M1 M2)+1,qI rs off l.length L,[],λk hk=>?_,?_,?_,?_⟩
     .cases k with
      | zero=>omega
      | succ k=>
       simp only[run,iR,hf,hs,if_true,qf,J,sw,Bool.false_eq_true,if_false,List.length_cons];rw[if_pos ⟨trivial,trivial,B,by omega,c3⟩,show (run E k).lv=k from og E k,T k Za,U k Za]
       simp only[W k Za,Y,if_true,hL,List.append_nil]
     .simp[qI,ad];omega
     .have e:((qI rs off l.length L).drop off).take (L.map λi=>((x::l)[i.1]?).getD []).length=L.map λi=>(rs[off+i.1]?).getD []:=by
       unfold qI;have h0:(rs.take off).length=off:=by simp;omega
       rw[List.append_assoc,List.drop_append_of_le_length Za,List.drop_eq_nil_of_le Za,List.nil_append,List.length_map,List.take_append_of_le_length Zc,List.take_of_length_le Zc]
      rw[e];refine⟨by simp,λj a b ha hb=>?_⟩
      rw[List.getElem?_map]at ha hb;obtain⟨i,hi,rfl⟩:=ζf.1 ha;rw[hi]at hb;simp only[Option.map_some,ζa]at hb;subst hb;have X:i.1<(x::l).length:=i.2;have hr:off+i.1<rs.length:=by have:=i.2;omega
      refine G.2 i.1 _ _ (by rw[ζd X];rfl) ?_
      rw[List.getElem?_take,if_pos i.2,List.getElem?_drop,ζd hr];rfl
     intro c hc u hu;unfold qI at hc;rcases List.mem_append.1 hc with hc|hc
     .rcases List.mem_append.1 hc with hc|hc
      .exact t c (List.mem_of_mem_take hc) u hu
      obtain⟨i,_,rfl⟩:=List.mem_map.1 hc;have hr:off+i.1<rs.length:=by have:=i.2;omega
      rw[ζd hr]at hu;exact t _ (List.getElem_mem hr) u hu
     exact t c (List.mem_of_mem_drop hc) u hu
    cases h
   cases h
  cases h
def hD (N:Nat->FuncId) (F:Frame):Arg->V
 | .s n=>get F n
 | .k c=>c
 | .f s=>.clo (N s) [] []
def mo (E:Env) (N:Nat->FuncId) (call:dz) (b:bf Nat) (now:Bool) (k:K) (vs:a_ V) (H:bn):bf (V×bn):=
 match k,b with
 | .p p,_=>(bS N p vs).map λv=>(v,H)
 | .r r,none=>(eP H r vs).map λv=>(v,H)
 | .r r,some b=>(eP (H.take b) r vs).map λv=>(v,H)
 | .a a,none=>(kT a vs).map λx=>(x.2.val H.length,H++[x.1])
 | .l l,none=>eO H l vs
 | .l (.store n),some _=>if now then eO H (.store n) vs else none
 | .c,none=>match vs with
  | .clo g a c::t=>if E.keep g then gP E call g (a++t++c) H else match b8 call g (a++t++c) H with
   | some y=>if y.scalar then some (y,H)else none
   | none=>none
  | _=>none
 | .c,some b=>match vs with
  | .clo g a c::t=>if E.keep g then none else match b8 call g (a++t++c) (H.take b)with
   | some y=>if y.scalar then some (y,H)else none
   | none=>none
  | _=>none
 | _,_=>none
def qm (F:Frame):bf Nat->V->Frame
 | none,_=>F
 | some d,v=>set F d v
def eu (E:Env) (N:Nat->FuncId) (call:dz) (b:bf Nat):a_ RO->Frame->bn->bf (Frame×bn)
 | [],F,H=>some (F,H)
 | o::r,F,H=>match o.gd with
  | none=>match mo E N call b o.now o.k (o.az.map (hD N F)) H with
   | some (v,H')=>eu E N call b r (qm F o.dst v) H'
   | none=>none
  | some _=>none
section
variable {X:CX} {N:Nat->FuncId} {call:dz} {F F':Frame} {H H':bn}
theorem J5 (u:∀f s,X.nm f=some s->N s=f) {o:Operand} {x:Arg} (h:oG X.nm o=some x):ev F o=some (hD N F x):=by
 cases o with
 | tmp t=>simp[oG]at h;subst h;rfl
 | const w=>
  simp[oG]at h;split at h
  .rename_i c hc;split at h
   .simp  at h;subst h;exact hc
   grind
  grind
 | func f=>
  obtain⟨s,z,rfl⟩:=ζf.1 h;show some (V.clo f [] [])=some (.clo (N s) [] [])
  grind
 | global i=>
  simp[oG]at h;split at h
  .rename_i c hc;split at h
   .simp  at h;subst h;simp[ev,hc];rfl
   grind
  grind
theorem vY (D:∀f s,X.nm f=some s->N s=f):∀{os:a_ Operand} {u:a_ Arg},os.mapM (oG X.nm)=some u->fq F os=some (u.map (hD N F))
 | [],u,h=>by simp  at h;subst h;rfl
 | o::os,u,h=>by
  simp[ζg]at h;obtain⟨x,G,xs,B,rfl⟩:=h;simp[fq,J5 D G,vY D B]
theorem Ap (D:∀f s,X.nm f=some s->N s=f) {B:Bool} {ops:a_ Oper} {i:Nat} {o:Oper} {ro:RO} (h:lZ X B ops i o=some ro) (hg:ro.gd=none) :
 o.dst=ro.dst/\yD X.nt o.dst=true/\fG ops F o=true/\((AL X.E N F o.op (ro.az.map (hD N F)) ro.k/\ro.now=(B&&dA ops i)/\(B=true->dA ops i=false->∀a',oQ ops i a'=[]\/∀t,o.op≠.load t (.tmp a')))\/(∃n,ro.k=.l (.storeF n))\/(∃n a,ro.k=.r (.loadF n a))\/(B=true/\Dy X.E ops i=true/\cB o.op=.alloc/\(∃p,ro.k=.p p/\(p=.emptyC\/(∃a b,p=.makeC a b)\/∃a b c d,p=.buildC a b c d)/\∀y,bS N p (ro.az.map (hD N F))=some y->oR X.E F o.op=some y))\/∃n,ro.k=.e n):=by
 unfold lZ at h;split at h
 .rename_i hd;have hd:=(Bool.and_eq_true_iff.1 hd).1;split at h
  .rename_i gd k os u hr;split at h
   .split at h
    .rename_i z;simp only[ζh]at z;have L:∀{gd:bf (Nat×Bool)},BZ ops o=some gd->gd=none->fG ops F o=true:=λ{gd} u hg=>by
      subst hg;unfold fG;unfold BZ at u
      cases G:o.guard with
      | none=>rfl
      | some O=>
       rw[G]at u;obtain⟨j,b⟩:=O;obtain⟨d,_,e⟩:=ζf.1 u;cases e
     split at h
     next Q=>obtain⟨S,C,rfl⟩:=ζf.1 h;have w:=iU D hr (vY (F:=F) D C);exact⟨rfl,hd,L u hg,.inr (.inr (.inr (.inl ⟨z.1,z.2,w.1,_,rfl,.inr (.inl ⟨_,_,rfl⟩),λy I=>Cs ⟨_,_,_,by assumption⟩ w I⟩)))⟩
     .rename_i Q;split at h
      next T=>obtain⟨U,rfl,rfl⟩:=T;obtain⟨S,C,rfl⟩:=ζf.1 h;have w:=iU D hr (vY (F:=F) D C);exact⟨rfl,hd,L u hg,.inr (.inr (.inr (.inl ⟨z.1,z.2,w.1,_,rfl,.inl rfl,λy I=>Dk ⟨_,_,_,by assumption⟩ w U I⟩)))⟩
      obtain⟨S,C,rfl⟩:=ζf.1 h;have w:=iU D hr (vY (F:=F) D C);exact⟨rfl,hd,L u hg,.inr (.inr (.inr (.inl ⟨z.1,z.2,w.1,_,rfl,.inr (.inr ⟨_,_,_,_,rfl⟩),λy I=>C8 ⟨_,_,_,by assumption⟩ w I⟩)))⟩
     cases h
    obtain⟨S,C,rfl⟩:=ζf.1 h;simp only at hg;subst hg;refine⟨rfl,hd,?_,?_⟩
    .unfold fG;unfold BZ at u
     cases G:o.guard with
     | none=>rfl
     | some O=>
      rw[G]at u;obtain⟨j,b⟩:=O;obtain⟨d,_,e⟩:=ζf.1 u;cases e
    rcases Cr B ops i k os with⟨e,W⟩|⟨_,_,n,a,l,Y,_,_,_,e⟩|⟨_,_,n,ag,a,_,_,e⟩|⟨_,_,_,n,_,e⟩
    .rw[e]at C ⊢;refine .inl ⟨iU D hr (vY D C),rfl,λhd Z a'=>?_⟩
     by_cases J:∃t,o.op=.load t (.tmp a')
     .obtain⟨t,J⟩:=J;rw[J]at hr;simp only[resolve]at hr;obtain⟨d,_,e⟩:=ζf.1 hr;simp only[ζc]at e;exact .inl (W _ _ a' hd Z e.1.symm e.2.symm)
     exact .inr λt h=>J ⟨t,h⟩
    .rw[e];exact .inr (.inl ⟨n,rfl⟩)
    .rw[e];exact .inr (.inr (.inl ⟨n,ag,rfl⟩))
    rw[e];exact .inr (.inr (.inr (.inr ⟨n,rfl⟩)))
   simp at h
  simp at h
 simp at h
theorem GN {nt:Nat} {dst:bf Nat} (h:yD nt dst=true) (v:V):jt nt F dst v=some (qm F dst v):=by
 cases dst with
 | none=>rfl
 | some d=>simp[yD]at h;simp[jt,if_pos h,qm]
theorem Ud (G:∀f s,X.nm f=some s->N s=f) {ops:a_ Oper} {i:Nat} {o:Oper} {ro:RO} (h:lZ X false ops i o=some ro) (hg:ro.gd=none) {v:V} (hv:mo X.E N call none ro.now ro.k (ro.az.map (hD N F)) H=some (v,H')) :
 fZ X.E call X.nt ops none o F H=some (qm F ro.dst v,H'):=by
 obtain⟨h1,I,J,t⟩:=Ap (F:=F) G h hg;have hd:cK X.E call ops none F H o.op=some (v,H'):=by
  rcases t with⟨t,_⟩|⟨n,t⟩|⟨n,a,t⟩|⟨t,_⟩|⟨n,t⟩
  .generalize hk:ro.k=k at hv t;generalize ro.az.map (hD N F)=T at hv t;unfold cK
   cases k with
   | p p=>
    obtain⟨c,e⟩:=t;obtain⟨w,z,B⟩:=ζf.1 hv;rw[c];simp only[yx (e w z),Option.map_some];rw[B]
   | r r=>
    obtain⟨c,e⟩:=t;obtain⟨w,z,B⟩:=ζf.1 hv;rw[c];simp only[e H w z,Option.map_some];rw[B]
   | a a=>
    obtain⟨c,e⟩:=t;obtain⟨⟨ob,m⟩,z,B⟩:=ζf.1 hv;rw[c];simp only[mX,Bool.false_eq_true,if_false,e _ z];exact congrArg some B
   | l l=>
    obtain⟨c,e⟩:=t;rw[c];exact e H _ hv
   | e n=>exact t.elim
   | b=>simp[mo]at hv
   | c=>
    obtain⟨c,f,L,rfl,e⟩:=t;rw[c];simp only[mo]at hv;split at hv
    .rename_i g a b O C;simp only[List.cons.injEq]at C;obtain⟨rfl,rfl⟩:=C;split at hv
     next u=>simp only[e,vZ,dJ,jA,u,Bool.and_self,if_true];exact hv
     rename_i u;split at hv
     .rename_i y Q;split at hv
      next D=>simp only[e,vZ,dJ,jA,u,Bool.false_and,Bool.false_eq_true,if_false,Q,D,if_true];exact hv
      simp at hv
     simp at hv
    simp at hv
  .rw[t]at hv;exfalso;have:∀ops i k os,(xe false ops i k os).1=k:=λ_ _ _ _=>rfl
   unfold lZ at h;simp only[Bool.false_and,Bool.false_eq_true,if_false,Bool.not_false,Bool.and_true]at h;split at h
   .split at h
    .rename_i gd k os S hr;split at h
     .obtain⟨L,U,rfl⟩:=ζf.1 h;simp only[this]at t;subst t;unfold resolve at hr
      (repeat' split at hr) <;> first|(simp at hr;done)|(obtain⟨_,_,e⟩:=ζf.1 hr;simp at e;done)
     simp at h
    simp at h
   first|(simp at h;done)|contradiction
  .rw[t]at hv;simp[mo,eP]at hv
  .cases t
  rw[t]at hv;simp[mo]at hv
 unfold fZ;rw[J,if_pos rfl,hd];simp only[h1,GN (h1▸I),Option.map_some]
theorem G4 (B:∀f s,X.nm f=some s->N s=f) {ops:a_ Oper}:∀(rest:a_ Oper) {i:Nat} {u:a_ RO} {F:Frame} {H:bn},kF X false ops i rest=some u->eu X.E N call none u F H=some (F',H')->lQ X.E call X.nt ops rest F H=some (F',H')
 | [],i,u,F,H,hc,h=>by
  simp[kF]at hc;subst hc;exact h
 | o::rest,i,u,F,H,hc,h=>by
  simp[kF]at hc;split at hc
  .rename_i ro rs h1 D;simp  at hc;subst hc;simp[eu]at h;split at h
   .rename_i hg;split at h
    next v H1 hv=>simp[lQ,Ud B h1 hg hv];exact G4 B rest D h
    grind
   grind
  grind
theorem Sk {ops:a_ Oper} {i:Nat} {op:Op} (h:∀t a',op=.load t (.tmp a')->oQ ops i a'=[]):nJ ops i F op=true:=by
 unfold nJ
 grind
theorem UI (Y:∀f s,X.nm f=some s->N s=f) {ops:a_ Oper} {b i:Nat} {o:Oper} (ho:ops[i]? = some o) {ro:RO} (h:lZ X true ops i o=some ro) (hg:ro.gd=none) {v:V} (hv:mo X.E N call (some b) ro.now ro.k (ro.az.map (hD N F)) H=some (v,H')) :
 fZ X.E call X.nt ops (some (b,i)) o F H=some (qm F ro.dst v,H'):=by
 obtain⟨h1,Z,h3,u⟩:=Ap (F:=F) Y h hg;have hd:cK X.E call ops (some (b,i)) F H o.op=some (v,H'):=by
  rcases u with⟨u,z,B⟩|⟨n,u⟩|⟨n,a,u⟩|⟨_,I,J,p,u,_,L⟩|⟨n,u⟩
  .generalize hk:ro.k=k at hv u;generalize ro.az.map (hD N F)=vs at hv u;unfold cK
   cases k with
   | p p=>
    obtain⟨c,e⟩:=u;obtain⟨w,C,D⟩:=ζf.1 hv;rw[c];simp only[yx (e w C),Option.map_some];rw[D]
   | r r=>
    obtain⟨c,e⟩:=u;obtain⟨w,C,D⟩:=ζf.1 hv;have O:nJ ops i F o.op=true:=Sk λt a' e=>by
     by_cases U:dA ops i=true
     .exact C4 ho e U
     rcases B rfl (by simpa using U) a' with h|h
     .exact h
     exact absurd e (h t)
    rw[c];simp only[e _ w C,O,if_true];rw[D]
   | a a=>simp[mo]at hv
   | l l=>
    obtain⟨c,e⟩:=u
    cases l with
    | store n=>
     simp only[mo]at hv;split at hv
     next W=>rw[z,Bool.true_and]at W;rw[c];simp only[W,Bool.true_or,if_true];exact e H _ hv
     simp at hv
    | _=>simp[mo]at hv
   | e n=>exact u.elim
   | b=>simp[mo]at hv
   | c=>
    obtain⟨c,f,av,rfl,e⟩:=u;rw[c];simp only[mo]at hv;split at hv
    .rename_i g a b aa G;simp only[List.cons.injEq]at G;obtain⟨rfl,rfl⟩:=G;split at hv
     .simp at hv
     rename_i Q;split at hv
     .rename_i y hy;split at hv
      next S=>simp only[e,vZ,Fa h rfl c,Bool.not_false,Bool.true_or,dJ,jA,Q,Bool.false_and,Bool.false_eq_true,if_false,hy,S,if_true];exact hv
      simp at hv
     simp at hv
    simp at hv
  .rw[u]at hv;simp[mo]at hv
  .rw[u]at hv;simp[mo,eP]at hv
  .rw[u]at hv;obtain⟨w,C,D⟩:=ζf.1 hv;have T:=L w C;unfold cK;rw[J];simp only[mX,I,if_true,T,Option.map_some];exact congrArg some D
  rw[u]at hv;simp[mo]at hv
 unfold fZ;rw[h3,if_pos rfl,hd];simp only[h1,GN (h1▸Z),Option.map_some]
theorem Ih (B:∀f s,X.nm f=some s->N s=f) {ops:a_ Oper} {b:Nat}:∀(rest:a_ Oper) {i:Nat} {u:a_ RO} {F:Frame} {H:bn},ops.drop i=rest->kF X true ops i rest=some u->eu X.E N call (some b) u F H=some (F',H') ->
 jE X.E call X.nt ops b (List.range' i rest.length) F H=some (F',H')
 | [],i,u,F,H,_,hc,h=>by
  simp[kF]at hc;subst hc;exact h
 | o::rest,i,u,F,H,hd,hc,h=>by
  simp[kF]at hc;split at hc
  .rename_i ro rs h1 G;simp  at hc;subst hc;simp[eu]at h;split at h
   .rename_i hg;split at h
    .rename_i v H1 hv;have D:ops[i]? = some o:=by
      have:(ops.drop i)[0]? = some o:=by grind
      grind
     have t:ops.drop (i+1)=rest:=by
      rw[<-List.drop_drop,hd];rfl
     simp[List.range'_succ,jE,D,UI B D h1 hg hv];exact Ih B rest t G h
    grind
   grind
  grind
def ya (l:a_ RO):Bool:=l.all λo=>(match o.k with|.a _|.l (.storeF _)|.r (.loadF ..)|.p (.makeC ..)|.p (.buildC ..)|.p .emptyC|.e _=>false|_=>true)&&o.gd.isNone
theorem CT (G:∀f s,X.nm f=some s->N s=f) {ops:a_ Oper}:∀(rest:a_ Oper) {i:Nat} {D:a_ RO},kF X true ops i rest=some D->ya D=true->rest.any (λo=>cB o.op==.alloc)=false
 | [],_,_,_,_=>rfl
 | o::rest,i,D,hc,B=>by
  simp only[kF]at hc;split at hc
  .rename_i ro rs h1 J;simp only[ζa]at hc;subst hc;simp only[ya,List.all_cons,ζh,Option.isNone_iff_eq_none]at B;obtain⟨_,_,_,u⟩:=Ap (F:=[]) G h1 B.1.2;rw[List.any_cons,CT G rest J B.2,Bool.or_false];rcases u with⟨u,_⟩|⟨n,u⟩|⟨n,a,u⟩|⟨_,_,_,p,u,t,_⟩|⟨n,u⟩
   .cases hk:ro.k with
    | a p=>have:=B.1.1;rw[hk]at this;cases this
    | e p=>have:=B.1.1;rw[hk]at this;cases this
    | _=>rw[hk]at u;rw[u.1];rfl
   .have:=B.1.1;rw[u]at this;cases this
   .have:=B.1.1;rw[u]at this;cases this
   .have:=B.1.1;rw[u]at this;rcases t with rfl|⟨_,_,rfl⟩|⟨_,_,_,_,rfl⟩ <;> cases this
   have:=B.1.1;rw[u]at this;cases this
  simp at hc
def gL (E:Env) (N:Nat->FuncId) (call:dz) (lf:Nat):RC->Frame->bn->bf (Out×Frame×bn)
 | .skip,F,H=>some (.norm,F,H)
 | .ops l,F,H=>(eu E N call none l F H).map λx=>(.norm,x.1,x.2)
 | .sV l,F,H=>if ya l then(eu E N call (some H.length) l F H).map λx=>(.norm,x.1,x.2)else none
 | .seq a b,F,H=>match gL E N call lf a F H with
  | some (.norm,F',H')=>gL E N call lf b F' H'
  | r=>r
 | .cond x a b,F,H=>match hD N F x with
  | .bool t=>if t then gL E N call lf a F H else gL E N call lf b F H
  | _=>none
 | .block id c,F,H=>match gL E N call lf c F H with
  | some (.exit u,F',H')=>if u=id then some (.norm,F',H')else some (.exit u,F',H')
  | r=>r
 | .loop c,F,H=>j_ (gL E N call lf c) lf F H
 | .exit id,F,H=>some (.exit id,F,H)
 | .ret,F,H=>some (.ret,F,H)
 | _,_,_=>none
theorem HP {f g:Frame->bn->bf (Out×Frame×bn)} (h:∀F H r,f F H=some r->g F H=some r):∀(k:Nat) (F:Frame) (H:bn) (r:Out×Frame×bn),j_ f k F H=some r->j_ g k F H=some r
 | 0,F,H,r,hr=>by simp[j_]at hr
 | k+1,F,H,r,hr=>by
  simp only[j_]at hr ⊢
  cases u:f F H with
  | none=>rw[u]at hr;simp at hr
  | some q=>
   rw[u]at hr;rw[h F H q u];obtain⟨o,F1,H1⟩:=q
   cases o with
   | norm=>exact HP h k F1 H1 r hr
   | exit _=>exact hr
   | ret=>exact hr
theorem HT (D:∀f s,X.nm f=some s->N s=f) {lf:Nat}:∀(rc:RC) (code:Code) (F:Frame) (H:bn) (r:Out×Frame×bn),bK X false code=some rc->gL X.E N call lf rc F H=some r->exec X.E call lf false X.nt code F H=some r:=by
 intro rc
 induction rc with
 | skip=>
  intro code F H r hc h;simp only[gL,ζa]at h;subst h
  cases code with
  | skip=>rfl
  | label _=>rfl
  | region id ops u=>simp only[bK]at hc;(repeat' split at hc) <;> first|(simp at hc;done)|(obtain⟨_,_,e⟩:=ζf.1 hc;cases e)
  | _=>simp only[bK]at hc;(repeat' split at hc) <;> first|(simp at hc;done)|(obtain⟨_,_,e⟩:=ζf.1 hc;cases e)|cases hc
 | ops l=>
  intro code F H r hc h
  cases code with
  | region id ops u=>
   simp only[bK]at hc;split at hc
   .split at hc
    .obtain⟨_,_,e⟩:=ζf.1 hc;cases e
    simp at hc
   rename_i hd;obtain⟨T,G,e⟩:=ζf.1 hc;cases e;simp only[gL]at h;obtain⟨⟨F',H'⟩,hv,rfl⟩:=ζf.1 h;simp only[exec,jf,hd];rw[if_neg Zc,G4 D _ G hv];rfl
  | _=>simp only[bK]at hc;(repeat' split at hc) <;> first|(simp at hc;done)|(obtain⟨_,_,e⟩:=ζf.1 hc;cases e)|cases hc
 | sV l=>
  intro code F H r hc h
  cases code with
  | region id ops u=>
   simp only[bK]at hc;split at hc
   .rename_i hd;split at hc
    .rename_i I;obtain⟨T,G,e⟩:=ζf.1 hc;cases e;simp only[gL]at h;split at h
     next U=>obtain⟨⟨F',H'⟩,hv,rfl⟩:=ζf.1 h;have W:qY ops.toList=false:=CT D _ G U;have:=Ih D ops.toList (i:=0) rfl G hv;rw[<-List.range_eq_range']at this;simp only[exec,jf,hd,I,if_true,W,Bool.false_eq_true,if_false,this];rfl
     simp at h
    simp at hc
   obtain⟨_,_,e⟩:=ζf.1 hc;cases e
  | _=>simp only[bK]at hc;(repeat' split at hc) <;> first|(simp at hc;done)|(obtain⟨_,_,e⟩:=ζf.1 hc;cases e)|cases hc
 | seq a b w B=>
  intro code F H r hc h
  cases code with
  | seq J L=>
   simp only[bK]at hc;split at hc
   .rename_i x y C O;cases hc;simp only[gL]at h;simp only[exec]
    cases hva:gL X.E N call lf a F H with
    | none=>rw[hva]at h;simp at h
    | some q=>
     rw[hva]at h;rw[w J F H q C hva];obtain⟨o,F1,H1⟩:=q
     cases o with
     | norm=>exact B L F1 H1 r O h
     | exit _=>exact h
     | ret=>exact h
   simp at hc
  | region id ops u=>simp only[bK]at hc;(repeat' split at hc) <;> first|(simp at hc;done)|(obtain⟨_,_,e⟩:=ζf.1 hc;cases e)
  | _=>simp only[bK]at hc;(repeat' split at hc) <;> first|(simp at hc;done)|(obtain⟨_,_,e⟩:=ζf.1 hc;cases e)|cases hc
 | cond x a b w B=>
  intro code F H r hc h
  cases code with
  | cond c J L=>
   simp only[bK]at hc;split at hc
   .rename_i x' y z C O Y;cases hc;simp only[gL]at h;simp only[exec,J5 (F:=F) D C];split at h
    .rename_i t Z;rw[Z]
     cases t with
     | true=>simp only[if_true]at h ⊢;exact w J F H r O h
     | false=>simp only[Bool.false_eq_true,if_false]at h ⊢;exact B L F H r Y h
    simp at h
   simp at hc
  | region id ops u=>simp only[bK]at hc;(repeat' split at hc) <;> first|(simp at hc;done)|(obtain⟨_,_,e⟩:=ζf.1 hc;cases e)
  | _=>simp only[bK]at hc;(repeat' split at hc) <;> first|(simp at hc;done)|(obtain⟨_,_,e⟩:=ζf.1 hc;cases e)|cases hc
 | block id c Q=>
  intro code F H r hc h
  cases code with
  | block S c'=>
   simp only[bK]at hc;obtain⟨x,C,e⟩:=ζf.1 hc;cases e;simp only[gL]at h;simp only[exec]
   cases hva:gL X.E N call lf c F H with
   | none=>rw[hva]at h;simp at h
   | some q=>
    rw[hva]at h;rw[Q c' F H q C hva];exact h
  | region id ops u=>simp only[bK]at hc;(repeat' split at hc) <;> first|(simp at hc;done)|(obtain⟨_,_,e⟩:=ζf.1 hc;cases e)
  | _=>simp only[bK]at hc;(repeat' split at hc) <;> first|(simp at hc;done)|(obtain⟨_,_,e⟩:=ζf.1 hc;cases e)|cases hc
 | loop c Q=>
  intro code F H r hc h
  cases code with
  | loop c'=>
   simp only[bK]at hc;obtain⟨x,C,e⟩:=ζf.1 hc;cases e;simp only[gL]at h;simp only[exec];exact HP (λF H r hr=>Q c' F H r C hr) lf F H r h
  | region id ops u=>simp only[bK]at hc;(repeat' split at hc) <;> first|(simp at hc;done)|(obtain⟨_,_,e⟩:=ζf.1 hc;cases e)
  | _=>simp only[bK]at hc;(repeat' split at hc) <;> first|(simp at hc;done)|(obtain⟨_,_,e⟩:=ζf.1 hc;cases e)|cases hc
 | exit id=>
  intro code F H r hc h
  cases code with
  | exit S=>simp only[bK,ζa,RC.exit.injEq]at hc;subst hc;exact h
  | region id ops u=>simp only[bK]at hc;(repeat' split at hc) <;> first|(simp at hc;done)|(obtain⟨_,_,e⟩:=ζf.1 hc;cases e)
  | _=>simp only[bK]at hc;(repeat' split at hc) <;> first|(simp at hc;done)|(obtain⟨_,_,e⟩:=ζf.1 hc;cases e)|cases hc
 | ret=>
  intro code F H r hc h
  cases code with
  | ret=>exact h
  | region id ops u=>simp only[bK]at hc;(repeat' split at hc) <;> first|(simp at hc;done)|(obtain⟨_,_,e⟩:=ζf.1 hc;cases e)
  | _=>simp only[bK]at hc;(repeat' split at hc) <;> first|(simp at hc;done)|(obtain⟨_,_,e⟩:=ζf.1 hc;cases e)|cases hc
 | _=>intro code F H r hc h;simp[gL]at h
end
def Ex (E:Env) (N:Nat->FuncId) (rc:RC) (F:Frame) (H:bn) (o:Out) (F':Frame) (H':bn):Prop:=
 ∃n,∀k,n<=k->gL E N (run E k) k rc F H=some (o,F',H')
def u9 (E:Env) (N:Nat->FuncId) (rc:RC) (F:Frame) (H:bn) (o:Out) (F':Frame) (H':bn):Prop:=
 ∃n,∀k,n<=k->∀lf,n<=lf->j_ (gL E N (run E k) k rc) lf F H=some (o,F',H')
section
variable {E:Env} {N:Nat->FuncId} {a b c:RC} {F F1 F':Frame} {H H1 H':bn} {o:Out} {x:Arg} {id:Nat}
theorem Ex.ops {l:a_ RO} (h:∃n,∀k,n<=k->eu E N (run E k) none l F H=some (F',H')):Ex E N (.ops l) F H .norm F' H':=
 let ⟨n,h⟩:=h;⟨n,λk hk=>by simp only[gL,h k hk,Option.map_some]⟩
theorem Ex.ja {l:a_ RO} (h:∀call,eu E N call none l F H=some (F',H')):Ex E N (.ops l) F H .norm F' H':=Ex.ops ⟨0,λk _=>h _⟩
theorem Ex.sV {l:a_ RO} (u:ya l=true) (h:∀call,eu E N call (some H.length) l F H=some (F',H')):Ex E N (.sV l) F H .norm F' H':=
 ⟨0,λk _=>by simp only[gL,u,if_true,h,Option.map_some]⟩
theorem Ex.Lf {l:a_ RO} (u:ya l=true) (h:∃n,∀k,n<=k->eu E N (run E k) (some H.length) l F H=some (F',H')):Ex E N (.sV l) F H .norm F' H':=
 let ⟨n,h⟩:=h;⟨n,λk hk=>by simp only[gL,u,if_true,h k hk,Option.map_some]⟩
theorem Ex.skip:Ex E N .skip F H .norm F H:=⟨0,λ_ _=>rfl⟩
theorem Ex.exit:Ex E N (.exit id) F H (.exit id) F H:=⟨0,λ_ _=>rfl⟩
theorem Ex.ret:Ex E N .ret F H .ret F H:=⟨0,λ_ _=>rfl⟩
theorem Ex.seq (h1:Ex E N a F H .norm F1 H1) (u:Ex E N b F1 H1 o F' H'):Ex E N (.seq a b) F H o F' H':=by
 obtain⟨n,h1⟩:=h1;obtain⟨m,u⟩:=u;exact⟨max n m,λk hk=>by simp only[gL,h1 k Za];exact u k Za⟩
theorem Ex.Eh (h1:Ex E N a F H o F' H') (u:o≠.norm):Ex E N (.seq a b) F H o F' H':=by
 obtain⟨n,h1⟩:=h1;refine⟨n,λk hk=>?_⟩
 simp only[gL,h1 k hk];cases o <;> first|exact absurd rfl u|rfl
theorem Ex.wV (u:hD N F x=.bool true) (h:Ex E N a F H o F' H'):Ex E N (.cond x a b) F H o F' H':=by
 obtain⟨n,h⟩:=h;exact⟨n,λk hk=>by simp only[gL,u,if_true,h k hk]⟩
theorem Ex.CV (u:hD N F x=.bool false) (h:Ex E N b F H o F' H'):Ex E N (.cond x a b) F H o F' H':=by
 obtain⟨n,h⟩:=h;exact⟨n,λk hk=>by simp only[gL,u,Bool.false_eq_true,if_false,h k hk]⟩
theorem Ex.block (h:Ex E N c F H .norm F' H'):Ex E N (.block id c) F H .norm F' H':=by
 obtain⟨n,h⟩:=h;exact⟨n,λk hk=>by simp only[gL,h k hk]⟩
theorem Ex.Ns (h:Ex E N c F H (.exit id) F' H'):Ex E N (.block id c) F H .norm F' H':=by
 obtain⟨n,h⟩:=h;exact⟨n,λk hk=>by simp only[gL,h k hk,if_true]⟩
theorem Ex.Np (h:Ex E N c F H .ret F' H'):Ex E N (.block id c) F H .ret F' H':=by
 obtain⟨n,h⟩:=h;exact⟨n,λk hk=>by simp only[gL,h k hk]⟩
theorem Ex.loop (h:u9 E N c F H o F' H'):Ex E N (.loop c) F H o F' H':=by
 obtain⟨n,h⟩:=h;exact⟨n,λk hk=>h k hk k hk⟩
theorem u9.step (h1:Ex E N c F H .norm F1 H1) (u:u9 E N c F1 H1 o F' H'):u9 E N c F H o F' H':=by
 obtain⟨n,h1⟩:=h1;obtain⟨m,u⟩:=u;refine⟨max n m+1,λk hk lf t=>?_⟩
 cases lf with
 | zero=>omega
 | succ lf=>simp only[j_,h1 k Za];exact u k Za lf Za
theorem u9.stop (h1:Ex E N c F H o F' H') (u:o≠.norm):u9 E N c F H o F' H':=by
 obtain⟨n,h1⟩:=h1;refine⟨n+1,λk hk lf t=>?_⟩
 cases lf with
 | zero=>omega
 | succ lf=>
  simp only[j_,h1 k Za]
  cases o <;> first|exact absurd rfl u|rfl
end
theorem Ex.run {E:Env} {nm:FuncId->bf Nat} {N:Nat->FuncId} (u:∀f s,nm f=some s->N s=f) {f:FuncId} {fi:FI} {rc:RC} (B:E.ft f=some fi) (hc:bK ⟨E,nm,fi.ntmps⟩ false fi.body=some rc) {args:a_ V} (D:args.length<=fi.ntmps) {H H':bn} {F':Frame}
 (h:Ex E N rc args H .ret F' H') {vs:a_ V} (hr:iY E F' H' fi.results=some vs):∃n,run E n (.fn f) args H=some (result vs,H'):=by
 obtain⟨n,h⟩:=h;refine⟨n+1,?_⟩;have:=HT (X:=⟨E,nm,fi.ntmps⟩) (call:=Go.VE.run E n) u (lf:=n) rc fi.body args H _ hc (h n (Nat.le_refl _));simp only[Go.VE.run,iR,B,if_pos D,this,hr,Option.map_some]
@[simp] theorem vQ (F:Frame) (i j:Nat) (v:V):get (set F i v) j=if i=j then v else get F j:=by
 split
 next h=>subst h;exact vc F i v
 rename_i h;exact iP F v h
def refs:a_ Nat->a_ (a_ V)->a_ (a_ V)
 | id::ids,r::rs=>[V.hsl id 1 0 r.length]::refs ids rs
 | _,_=>[]
def oU (r:a_ V):a_ (a_ V):=r.map λu=>[u]
structure sY (H:bn) (w:V) (o:Nat) (ids:List Nat) (rows:List (List V)):Prop where
 v:w=if rows=[]then .bN else .hsl o 1 0 rows.length
 ob:rows≠[]->H[o]? = some (.row 1 (refs ids rows))
 len:ids.length=rows.length
 r:∀(i id:Nat) (r:List V),ids[i]? = some id->rows[i]? = some r->H[id]? = some (.row 1 (oU r))
 nd:ids.Nodup
 ne:rows≠[]->o∉ids
theorem ym:∀{ids:a_ Nat} {rows:a_ (a_ V)},ids.length=rows.length->(refs ids rows).length=rows.length
 | [],[],_=>rfl
 | _::ids,_::rows,h=>by simp only[refs,List.length_cons,ym (ids:=ids) (rows:=rows) (by simpa using h)]
theorem GR:∀{ids:a_ Nat} {rows:a_ (a_ V)} (id:Nat) (r:a_ V),ids.length=rows.length->refs (ids++[id]) (rows++[r])=refs ids rows++[[V.hsl id 1 0 r.length]]
 | [],[],_,_,_=>rfl
 | _::ids,_::rows,id,r,h=>by simp only[refs,List.cons_append,GR (ids:=ids) (rows:=rows) id r (by simpa using h)]
theorem GX:∀{ids:a_ Nat} {rows:a_ (a_ V)} {i id:Nat} {r:a_ V},ids[i]? = some id->rows[i]? = some r->(refs ids rows)[i]? = some [V.hsl id 1 0 r.length]
 | [],_,_,_,_,h,_=>by simp at h
 | _::_,[],_,_,_,_,h=>by simp at h
 | a::ids,b::rows,0,id,r,h1,u=>by simp at h1 u;subst h1 u;rfl
 | a::ids,b::rows,i+1,id,r,h1,u=>by simpa [refs]using GX (ids:=ids) (rows:=rows) (i:=i) (by simpa using h1) (by simpa using u)
theorem HK:∀{ids:a_ Nat} {rows:a_ (a_ V)} {i:Nat} {r u:a_ V},rows[i]? = some r->u.length=r.length->refs ids (rows.set i u)=refs ids rows
 | [],_,_,_,_,_,_=>by simp[refs]
 | _::_,[],_,_,_,_,_=>by simp[refs]
 | a::ids,b::rows,0,r,u,h,B=>by simp at h;subst h;simp only[List.set_cons_zero,refs,B]
 | a::ids,b::rows,i+1,r,u,h,B=>by simp only[List.set_cons_succ,refs,HK (ids:=ids) (rows:=rows) (i:=i) (by simpa using h) B]
section
variable {H H':bn} {v:V} {o:Nat} {ids:a_ Nat} {rows:a_ (a_ V)}
theorem sY.nil (H:bn) (o:Nat):sY H .bN o [] []:=⟨rfl,λh=>absurd rfl h,rfl,λi id r h=>by simp at h,.nil,λh=>absurd rfl h⟩
theorem sY.heap (n:sY H v o ids rows) (u:rows≠[]->H'[o]? = H[o]?) (B:∀id∈ids,H'[id]? = H[id]?):sY H' v o ids rows:=
 ⟨n.v,λh=>by rw[u h];exact n.ob h,n.len,λi id r h1 t=>by rw[B id (List.mem_of_getElem? h1)];exact n.r i id r h1 t,n.nd,n.ne⟩
theorem sY.lt (n:sY H v o ids rows):(rows≠[]->o<H.length)/\∀id∈ids,id<H.length:=by
 refine⟨λh=>(ζe.1 (n.ob h)).1,λid t=>?_⟩
 obtain⟨i,u⟩:=List.getElem?_of_mem t;have w:=(ζe.1 u).1;have:=n.r i id _ u (ζd (show i<rows.length from n.len▸w));exact(ζe.1 this).1
theorem sY.more (n:sY H v o ids rows) (X:bn):sY (H++X) v o ids rows:=
 n.heap (λh=>List.getElem?_append_left (n.lt.1 h)) λid t=>List.getElem?_append_left (n.lt.2 id t)
theorem sY.push (n:sY H v o ids rows) (r:a_ V) (T:rows.length+1<=2147483648) :
 ∃H',eO (H++[.row 1 (oU r)]++[.row 1 [[.hsl H.length 1 0 r.length]]]) (.append 1) [v,.hsl (H.length+1) 1 0 1]=some (.hsl (H.length+2) 1 0 (rows.length+1),H') /\
  sY H' (.hsl (H.length+2) 1 0 (rows.length+1)) (H.length+2) (ids++[H.length]) (rows++[r])/\H.length<=H'.length/\(∀id,id<H.length->id≠o\/rows=[]->H'[id]? = H[id]?):=by
 generalize C:H++[.row 1 (oU r)]++[.row 1 [[.hsl H.length 1 0 r.length]]]=H2;have t:H2.length=H.length+2:=by subst C;simp
 have z:∀id,id<H.length->H2[id]? = H[id]? := λid h=>by
  subst C;rw[List.append_assoc,List.getElem?_append_left h]
 have h1:H2[H.length]? = some (.row 1 (oU r)):=by subst C;simp
 have U:H2[H.length+1]? = some (.row 1 [[.hsl H.length 1 0 r.length]]):=by subst C;simp
 have hv:=n.v;have e2:dG H2 1 (.hsl (H.length+1) 1 0 1)=some [[.hsl H.length 1 0 r.length]]:=by
  simp[dG,U,Ob.rows]
 by_cases hr:rows=[]
 .subst hr;rw[if_pos rfl]at hv;subst hv;have:ids=[]:=List.eq_nil_of_length_eq_zero n.len;subst this;refine⟨H2++[.row 1 [[.hsl H.length 1 0 r.length]]],?_,⟨by simp,λ_=>by rw[<-t];simp[refs],rfl,λi id O w u=>?_,by simp,λ_=>by simp⟩,by simp[t];omega,λid D _=>?_⟩
  .have e1:dG H2 1 .bN=some []:=rfl;simp only[eO,e1,e2,gq,List.length_nil,List.length_singleton,Option.map_some,t];simp
  .cases i with
   | zero=>
    simp at w u;subst w u;rw[List.getElem?_append_left Za];exact h1
   | succ i=>simp at w
  rw[List.getElem?_append_left Za];exact z id D
 rw[if_neg hr]at hv;subst hv;have Q:=n.ob hr;have I:=n.lt.1 hr;have e1:dG H2 1 (.hsl o 1 0 rows.length)=some (refs ids rows):=by
  simp only[dG,if_true,z o I,Q,ζb,Ob.rows,ym n.len,Nat.zero_add,Nat.le_refl,List.drop_zero];rw[List.take_of_length_le (by rw[ym n.len];exact Nat.le_refl _)]
 have W:gq H2 (.hsl o 1 0 rows.length)=some (H2.set o .dead):=by
  simp only[gq,z o I,Q]
 have B:∀id,id≠o->(H2.set o Ob.dead++[Ob.row 1 (refs ids rows++[[.hsl H.length 1 0 r.length]])])[id]? = if id<H2.length then H2[id]? else(H2.set o Ob.dead++[Ob.row 1 (refs ids rows++[[.hsl H.length 1 0 r.length]])])[id]? := λid G=>by
  split
  next h=>rw[List.getElem?_append_left (by simpa using h),List.getElem?_set_ne (Ne.symm G)]
  rfl
 refine⟨H2.set o .dead++[.row 1 (refs ids rows++[[.hsl H.length 1 0 r.length]])],?_,⟨by simp,λ_=>?_,by simp[n.len],λi id O w u=>?_,?_,λ_ hm=>?_⟩,by simp[t];omega,λid D G=>?_⟩
 .simp only[eO,e1,e2,W,ym n.len,List.length_singleton,T,if_true,Option.map_some,t]
 .rw[GR _ _ n.len,<-t];simp
 .have J:id≠o:=by
   rcases Nat.lt_or_ge i ids.length with h|h
   .rw[List.getElem?_append_left h]at w;intro e;subst e;exact n.ne hr (List.mem_of_getElem? w)
   have:i=ids.length:=by have:=(ζe.1 w).1;simp at this;omega
   subst this;simp at w;subst w;omega
  rcases Nat.lt_or_ge i ids.length with h|h
  .rw[List.getElem?_append_left h]at w;rw[List.getElem?_append_left (by rw[<-n.len];exact h)]at u
   have L:=n.lt.2 id (List.mem_of_getElem? w);rw[B id J,if_pos Za,z id L]
   exact n.r i id O w u
  have:i=ids.length:=by have:=(ζe.1 w).1;simp at this;omega
  subst this;simp at w;subst w;rw[n.len]at u;simp at u;subst u;rw[B _ J,if_pos Za];exact h1
 .rw[List.nodup_append];exact⟨n.nd,by simp,λa X b S=>by simp at S;subst S;exact Nat.ne_of_lt (n.lt.2 a X)⟩
 .rcases List.mem_append.1 hm with hm|hm
  .have:=n.lt.2 _ hm;omega
  simp at hm
 rw[B id (G.resolve_right hr),if_pos Za];exact z id D
end
theorem Ww {E:Env} {N:Nat->FuncId} {F:Frame} {H H1:bn} {call:dz} {b:bf Nat} {o:RO} {l:a_ RO} {v:V} {r:Frame×bn} (hg:o.gd=none) (hv:mo E N call b o.now o.k (o.az.map (hD N F)) H=some (v,H1)) (h:eu E N call b l (qm F o.dst v) H1=some r):eu E N call b (o::l) F H=some r:=by
 simp only[eu,hg,hv];exact h
theorem vp {E:Env} {N:Nat->FuncId} {F:Frame} {H:bn} {call:dz} {b:bf Nat} {o:RO} {l:a_ RO} {v:V} {r:Frame×bn} (hg:o.gd=none) (hv:mo E N call b o.now o.k (o.az.map (hD N F)) H=some (v,H)) (h:eu E N call b l (qm F o.dst v) H=some r):eu E N call b (o::l) F H=some r:=Ww hg hv h
theorem GQ {E:Env} {N:Nat->FuncId} {F:Frame} {H:bn} {call:dz} {b:bf Nat}:eu E N call b [] F H=some (F,H):=rfl
theorem VL {n:Nat} (h:n<=2147483648):IntKind.wrap .i64 ((n:Int)+1)=((n+1:Nat):Int):=by
 simp[IntKind.wrap,IntKind.bits,IntKind.signed];omega
theorem Wi {n:Nat} (h:n<=2147483648):IntKind.wrap .i64 (((n+1:Nat):Int)-1)=(n:Int):=by
 simp[IntKind.wrap,IntKind.bits,IntKind.signed];omega
theorem GM (H:bn):H.take H.length=H:=List.take_length
theorem Qh {E:Env} {nm:FuncId->bf Nat} {f:FuncId} {rc:RC} {n:Nat} {rs:a_ ResultVar} (h:((E.ft f).map λfi=>(bK ⟨E,nm,fi.ntmps⟩ false fi.body,Nat.ble n fi.ntmps,fi.results))=some (some rc,true,rs)) :
 ∃fi,E.ft f=some fi/\bK ⟨E,nm,fi.ntmps⟩ false fi.body=some rc/\n<=fi.ntmps/\fi.results=rs:=by
 obtain⟨fi,h1,t⟩:=ζf.1 h;simp only[ζc]at t;exact⟨fi,h1,t.1,Nat.le_of_ble_eq_true t.2.1,t.2.2⟩
theorem E8 {x:V} (h:x.one=true):x.cells=[x]:=by
 cases x <;> first|rfl|(simp[V.one]at h)
def kept (t:Nat->Bool) (n:Nat):a_ Nat:=(List.range n).filter λi=>i==0 || !t i
theorem wI (t:Nat->Bool) (n:Nat):kept t (n+1)=kept t n++if n==0 || !t n then [n]else []:=by
 unfold kept;rw[List.range_succ,List.filter_append,List.filter_cons];rfl
theorem Se (t:Nat->Bool):∀n,(kept t n).length<=n:=λn=>by
 unfold kept;exact Nat.le_trans (List.length_filter_le ..) Zc
theorem Cg {t:Nat->Bool}:∀n,(∀i,0<i->i<n->t i=false)->kept t n=List.range n
 | 0,_=>rfl
 | n+1,h=>by
  rw[wI,Cg n λi h1 u=>h i h1 Za,List.range_succ]
  congr 1
  cases n with
  | zero=>rfl
  | succ n=>rw[h (n+1) Za Za];simp
theorem y7 {t:Nat->Bool} {k:Nat} (u:0<k) (hk:t k=true):∀n,k<n->(kept t n).length+1<=n
 | 0,h=>by omega
 | n+1,h=>by
  rw[wI]
  by_cases e:n=k
  .subst e;have:(n==0 || !t n)=false:=by simp[hk];omega
   rw[this];have:=Se t n;simp;omega
  have:=y7 u hk n Za
  split <;> simp <;> omega
namespace cmpX
instance {n:Nat}:OfNat Arg n:=⟨.s n⟩
def r1:a_ RO:=[o1 4 (.k (.bN)) []]
def r2:a_ RO:=[o1 8 0 [],o2 9 (.p .lenSl) [8] [],o2 10 (.p (.bin (some .int) none .lss)) [9,.k (.int .i64 2)] []]
def r3:a_ RO:=[o1 11 0 [],o1 4 11 []]
def r4:a_ RO:=[o1 5 (.k (.int .i64 1)) []]
def r5:a_ RO:=[o1 12 5 [],o1 13 0 [],o2 14 (.p .lenSl) [13] [],o2 15 (.p (.bin (some .int) none .lss)) [12,14] []]
def on (d:Nat) (k:K) (az:a_ Arg):RO:=⟨some d,none,true,k,az,[],[]⟩
def r6:a_ RO:=[o1 18 1 [],o1 19 0 [],o1 20 5 [],o2 21 (.p (.idxS 1)) [19,20] [],o2 22 (.r (.load 1 false)) [21] [],o1 23 0 [],o1 24 5 [],o2 25 (.p (.bin (some .int) none .sub)) [24,.k (.int .i64 1)] [],o2 26 (.p (.idxS 1)) [23,25] [],o2 27 (.r (.load 1 false)) [26] [],on 28 .c [18,22,27]]
def r7:a_ RO:=[o1 29 0 [],o1 30 5 [],o2 31 (.p (.slice 1 true false)) [29,30] [],o1 6 31 []]
def r8:a_ RO:=[o1 7 (.k (.int .i64 1)) []]
def r9:a_ RO:=[o1 32 7 [],o1 33 6 [],o2 34 (.p .lenSl) [33] [],o2 35 (.p (.bin (some .int) none .lss)) [32,34] []]
def NX:a_ RO:=[o1 38 1 [],o1 39 6 [],o1 40 7 [],o2 41 (.p (.idxS 1)) [39,40] [],o2 42 (.r (.load 1 false)) [41] [],o1 43 6 [],o1 44 7 [],o2 45 (.p (.bin (some .int) none .sub)) [44,.k (.int .i64 1)] [],o2 46 (.p (.idxS 1)) [43,45] [],o2 47 (.r (.load 1 false)) [46] [],on 48 .c [38,42,47],on 49 (.p (.not)) [48]]
def Jo:a_ RO:=[o1 50 0 [],o1 51 5 [],o1 52 6 [],o1 53 7 [],o2 54 (.p (.idxS 1)) [52,53] [],o2 55 (.r (.load 1 false)) [54] [],o2 56 (.p (.idxS 1)) [50,51] [],⟨none,none,false,.l (.store 1),[56,55],[],[]⟩]
def Kg:a_ RO:=[o1 57 5 [],o2 58 (.p (.bin (some .int) none .add)) [57,.k (.int .i64 1)] [],o1 5 58 []]
def JX:a_ RO:=[o1 36 7 [],o2 37 (.p (.bin (some .int) none .add)) [36,.k (.int .i64 1)] [],o1 7 37 []]
def Xk:RC:=.seq (.seq (.ops r9) (.cond (.s 35) (.skip) (.exit 2))) (.seq (.block 3 (.seq (.sV NX) (.cond (.s 49) (.seq (.ops Jo) (.ops Kg)) (.skip)))) (.ops JX))
def Q7:a_ RO:=[o1 59 0 [],o1 60 5 [],o2 61 (.p (.slice 1 true false)) [59,60] [],⟨none,none,false,.l (.clear 1 [.bN]),[61],[],[]⟩]
def Rh:a_ RO:=[o1 62 0 [],o1 63 5 [],o2 64 (.p (.slice 1 false true)) [62,63] [],o1 4 64 []]
def r16:a_ RO:=[o1 16 5 [],o2 17 (.p (.bin (some .int) none .add)) [16,.k (.int .i64 1)] [],o1 5 17 []]
def Q0:RC:=.seq (.seq (.ops r5) (.cond (.s 15) (.skip) (.exit 0))) (.seq (.block 1 (.seq (.sV r6) (.cond (.s 28) (.seq (.ops r7) (.seq (.seq (.ops r8) (.block 2 (.loop Xk))) (.seq (.ops Q7) (.seq (.ops Rh) (.ret))))) (.skip)))) (.ops r16))
def Vz:a_ RO:=[o1 65 0 [],o1 4 65 []]
def code:RC:=.seq (.ops r1) (.seq (.seq (.ops r2) (.cond (.s 10) (.seq (.ops r3) (.ret)) (.skip))) (.seq (.seq (.ops r4) (.block 0 (.loop Q0))) (.seq (.ops Vz) (.ret))))
section
variable {E:Env} {N:Nat->FuncId} {F:Frame} {H:bn} {call:dz} {id off L k:Nat}
theorem ld {u:a_ (a_ V)} {el:Nat} {v:V} (h:H[id]? = some (.row 1 u)) (hv:u[el]? = some [v]):eP H (.load 1 false) [.hptr id el 0]=some v:=by
 simp[eP,dX,h,Ob.rows,hv,cut,mk]
theorem Q2 {i:Nat} (h:i<L):kS 1 (.hsl id 1 off L) (i:Int)=some (.hptr id (off+i) 0):=by
 unfold kS;rw[if_neg Za];simp[h]
attribute [local simp] eu mo hD bS qm vQ nK su eP
theorem x2 (f0:get F 0=.hsl id 1 off L):∃F',(∀call,eu E N call none r2 F H=some (F',H))/\get F' 10=.bool (decide ((L:Int)<2))/\(∀s,s<8->get F' s=get F s):=by
 refine⟨_,λcall=>by simp[r2,f0,qu];rfl,by simp,?_⟩
 simp;grind
theorem x5 (f0:get F 0=.hsl id 1 off L) (f5:get F 5=.int .i64 k):∃F',(∀call,eu E N call none r5 F H=some (F',H))/\get F' 15=.bool (decide (k<L))/\(∀s,s<8->get F' s=get F s):=by
 refine⟨_,λcall=>by simp[r5,f0,f5,qu];rfl,by simp,?_⟩
 simp;grind
theorem Vh {g:FuncId} {cb:a_ V} {u:a_ (a_ V)} {o2 L2 i:Nat} {a b:V} {t:Bool} (h:H[id]? = some (.row 1 u)) (D:i+1<L2) (B:i<=2147483648) (G:u[o2+(i+1)]? = some [a]) (J:u[o2+i]? = some [b]) (hk:E.keep g=false) (f1:get F 1=.clo g [] cb) :
 (get F 0=.hsl id 1 o2 L2->get F 5=.int .i64 ((i+1:Nat):Int)->∃F',(∀call,b8 call g (a::b::cb) H=some (.bool t)->eu E N call (some H.length) r6 F H=some (F',H))/\get F' 28=.bool t/\(∀s,s<8->get F' s=get F s)) /\
 (get F 6=.hsl id 1 o2 L2->get F 7=.int .i64 ((i+1:Nat):Int)->∃F',(∀call,b8 call g (a::b::cb) H=some (.bool t)->eu E N call (some H.length) NX F H=some (F',H))/\get F' 49=.bool (!t)/\(∀s,s<8->get F' s=get F s)):=by
 have hd:=Wi B;have e1:=ld h G;have e2:=ld h J;have i1:=Q2 (id:=id) (off:=o2) (L:=L2) D;have i2:=Q2 (id:=id) (off:=o2) (L:=L2) (show i<L2 by omega)
 simp at i1 hd;refine⟨λf0 f5=>⟨_,λcall hc=>by simp[-eP,r6,on,f0,f1,f5,i1,i2,e1,e2,hd,hk,hc,V.scalar,GM];rfl,by simp,?_⟩,λf6 f7=>⟨_,λcall hc=>by simp[-eP,NX,on,f1,f6,f7,i1,i2,e1,e2,hd,hk,hc,V.scalar,GM];rfl,by simp,?_⟩⟩ <;> exact λs w=>by
  simp
  repeat (rw[if_neg Za])
end
end cmpX
namespace cmpX
section
variable {E:Env} {N:Nat->FuncId} {F:Frame} {H:bn} {call:dz} {id off L k:Nat}
attribute [local simp] eu mo hD bS qm vQ nK su eP
theorem x7 (f0:get F 0=.hsl id 1 off L) (f5:get F 5=.int .i64 k) (hk:k<=L):∃F',(∀call,eu E N call none r7 F H=some (F',H))/\get F' 6=.hsl id 1 (off+k) (L-k)/\(∀s,s<8->s≠6->get F' s=get F s):=by
 have e:ir 1 (.hsl id 1 off L) (some k) none=some (.hsl id 1 (off+k) (L-k)):=by
  unfold ir dH
  grind
 refine⟨_,λcall=>by simp[r7,f0,f5,mO,e];rfl,by simp,?_⟩
 simp;grind
theorem x9 {o2 L2 m:Nat} (f6:get F 6=.hsl id 1 o2 L2) (f7:get F 7=.int .i64 m):∃F',(∀call,eu E N call none r9 F H=some (F',H))/\get F' 35=.bool (decide (m<L2))/\(∀s,s<8->get F' s=get F s):=by
 refine⟨_,λcall=>by simp[r9,f6,f7,qu];rfl,by simp,?_⟩
 simp;grind
theorem X1 {u:a_ (a_ V)} {o2 L2 m p:Nat} {a z:V} (h:H[id]? = some (.row 1 u)) (f0:get F 0=.hsl id 1 off L) (f5:get F 5=.int .i64 p) (f6:get F 6=.hsl id 1 o2 L2) (f7:get F 7=.int .i64 m) (B:m<L2) (hp:p<L)
 (D:u[o2+m]? = some [a]) (G:u[off+p]? = some [z]) (h1:a.one=true) :
 ∃F',(∀call,eu E N call none Jo F H=some (F',H.set id (.row 1 (u.set (off+p) [a]))))/\(∀s,s<8->get F' s=get F s):=by
 have i1:=Q2 (id:=id) (off:=o2)  B;have i2:=Q2 (id:=id) (off:=off)  hp;have e1:=ld h D;have t:eO H (.store 1) [.hptr id (off+p) 0,a]=some (.undef,H.set id (.row 1 (u.set (off+p) [a]))):=by
  simp[eO,h,G,E8 h1,h1]
 refine⟨_,λcall=>by simp[-eP,Jo,f0,f5,f6,f7,i1,i2,e1,t];rfl,?_⟩
 simp;grind
theorem K4 {p:Nat} (hp:p<=2147483648):(get F 5=.int .i64 p->∃F',(∀call,eu E N call none Kg F H=some (F',H))/\get F' 5=.int .i64 ((p+1:Nat):Int)/\(∀s,s<8->s≠5->get F' s=get F s)) /\
 (get F 7=.int .i64 p->∃F',(∀call,eu E N call none JX F H=some (F',H))/\get F' 7=.int .i64 ((p+1:Nat):Int)/\(∀s,s<8->s≠7->get F' s=get F s)) /\
 (get F 5=.int .i64 p->∃F',(∀call,eu E N call none r16 F H=some (F',H))/\get F' 5=.int .i64 ((p+1:Nat):Int)/\(∀s,s<8->s≠5->get F' s=get F s)):=by
 have t:=VL hp;refine⟨λf=>⟨_,λcall=>by simp[Kg,f,t];rfl,by simp,?_⟩,λf=>⟨_,λcall=>by simp[JX,f,t];rfl,by simp,?_⟩,λf=>⟨_,λcall=>by simp[r16,f,t];rfl,by simp,?_⟩⟩ <;>
  (simp;grind)
theorem X4 {u:a_ (a_ V)} {p:Nat} (h:H[id]? = some (.row 1 u)) (f0:get F 0=.hsl id 1 off L) (f5:get F 5=.int .i64 p) (hp:p<L) (B:off+L<=u.length) :
 ∃F',(∀call,eu E N call none Q7 F H=some (F',H.set id (.row 1 (u.take (off+p)++List.replicate (L-p) [.bN]++u.drop (off+L)))))/\(∀s,s<8->get F' s=get F s):=by
 have e:ir 1 (.hsl id 1 off L) (some p) none=some (.hsl id 1 (off+p) (L-p)):=by
  unfold ir dH
  grind
 obtain⟨q,t⟩:∃q,L-p=q+1:=⟨L-p-1,by omega⟩
 have hc:eO H (.clear 1 [.bN]) [.hsl id 1 (off+p) (L-p)]=some (.undef,H.set id (.row 1 (u.take (off+p)++List.replicate (L-p) [.bN]++u.drop (off+L)))):=by
  simp[eO,Dv,t,h]
  grind
 refine⟨_,λcall=>by simp[Q7,f0,f5,mO,e,hc];rfl,?_⟩
 simp;grind
theorem XW {p:Nat} (f0:get F 0=.hsl id 1 off L) (f5:get F 5=.int .i64 p) (hp:p<=L):∃F',(∀call,eu E N call none Rh F H=some (F',H))/\get F' 4=.hsl id 1 off p:=by
 have e:ir 1 (.hsl id 1 off L) none (some p)=some (.hsl id 1 off p):=by
  unfold ir dH
  grind
 exact⟨_,λcall=>by simp[Rh,f0,f5,mO,e];rfl,by simp⟩
theorem X2:∃F',(∀call,eu E N call none Vz F H=some (F',H))/\get F' 4=get F 0:=
 ⟨_,λcall=>by simp[Vz];rfl,by simp⟩
theorem U_:∃F',(∀call,eu E N call none r3 F H=some (F',H))/\get F' 4=get F 0:=
 ⟨_,λcall=>by simp[r3];rfl,by simp⟩
end
structure KM (E:Env) (g:FuncId) (cb:List V) (H:bn) (id off L:Nat) (rs:List (List V)) (A:Nat->V) (t:Nat->Bool):Prop where
 row:H[id]? = some (.row 1 rs)
 len:off+L<=rs.length
 small:L<=2147483648
 at_:∀i,i<L->rs[off+i]? = some [A i]
 one:∀i,i<L->(A i).one=true
 keep:E.keep g=false
 cmp:∃n,∀k,n<=k->∀i,i+1<L->∀cur,b8 (run E k) g (A (i+1)::A i::cb) (H.set id (.row 1 cur))=some (.bool (t (i+1)))
structure Head (g:FuncId) (cb:List V) (id off L kk m:Nat) (rs:List (List V)) (A:Nat->V) (t:Nat->Bool) (F:Frame) (cur:List (List V)):Prop where
 f0:get F 0=.hsl id 1 off L
 f1:get F 1=.clo g [] cb
 f5:get F 5=.int .i64 ((kept t (kk+m)).length:Nat)
 f6:get F 6=.hsl id 1 (off+kk) (L-kk)
 f7:get F 7=.int .i64 m
 len:cur.length=rs.length
 pre:∀p i,(kept t (kk+m))[p]? = some i->cur[off+p]? = some [A i]
 post:∀i,kk+m<=i+1->i<L->cur[off+i]? = some [A i]
 out:∀j,j<off\/off+L<=j->cur[j]? = rs[j]?
 cell:∀i,i<L->∃j,j<L/\cur[off+i]? = some [A j]
section
variable {E:Env} {N:Nat->FuncId} {g:FuncId} {cb:a_ V} {H:bn} {id off L kk:Nat} {rs:a_ (a_ V)} {A:Nat->V} {t:Nat->Bool}
theorem WQ (X:KM E g cb H id off L rs A t) (aa:0<kk) (ah:kk<L) (ht:t kk=true):∀(d m:Nat) (F:Frame) (u:a_ (a_ V)),kk+m+d=L->0<m->Head g cb id off L kk m rs A t F u ->
 ∃F' B,u9 E N Xk F (H.set id (.row 1 u)) (.exit 2) F' (H.set id (.row 1 B))/\Head g cb id off L kk (L-kk) rs A t F' B:=by
 have O:=(ζe.1 X.row).1;have G:∀u,(H.set id (.row 1 u))[id]? = some (.row 1 u):=λu=>List.getElem?_set_self O
 have ai:=X.small;have af:=X.len;intro d
 induction d with
 | zero=>
  intro m F u he hm h;have em:m=L-kk:=by omega
  subst em;obtain⟨F1,e1,e2,e3⟩:=x9    h.f6 h.f7;refine⟨F1,u,u9.stop (Ex.Eh (Ex.seq (Ex.ja e1) (Ex.CV (by simp[hD,e2]) Ex.exit)) Zc) Zc,?_⟩
  exact⟨by rw[e3 0 Za];exact h.f0,by rw[e3 1 Za];exact h.f1,by rw[e3 5 Za];exact h.f5,by rw[e3 6 Za];exact h.f6,by rw[e3 7 Za];exact h.f7,h.len,h.pre,h.post,h.out,h.cell⟩
 | succ d ih=>
  intro m F u he hm h;obtain⟨F1,a1,a2,a3⟩:=x9    h.f6 h.f7;have T:hD N F1 35=.bool true:=by
   show get F1 35=_;rw[a2,decide_eq_true Za]
  obtain⟨m',rfl⟩:∃m',m=m'+1:=⟨m-1,by omega⟩
  obtain⟨n0,ab⟩:=X.cmp;have c1:u[off+kk+(m'+1)]? = some [A (kk+m'+1)]:=by
   have:=h.post (kk+m'+1) Za Za;grind
  have c2:u[off+kk+m']? = some [A (kk+m')]:=by
   have:=h.post (kk+m') Za Za;grind
  obtain⟨F2,b1,b2,b3⟩:=(Vh      (L2:=L-kk)  (G u) Za Za c1 c2 X.keep (by rw[a3 1 Za];exact h.f1)).2 (by rw[a3 6 Za];exact h.f6) (by rw[a3 7 Za];exact h.f7)
  have U:∃n,∀k,n<=k->eu E N (run E k) (some (H.set id (.row 1 u)).length) NX F1 (H.set id (.row 1 u))=some (F2,H.set id (.row 1 u)):=⟨n0,λk hk=>b1 _ (ab k hk (kk+m') Za u)⟩
  have z  := λs hs=>(b3 s hs).trans (a3 s hs)
  have ad:(kept t (kk+(m'+1))).length+1<=kk+(m'+1):=y7 aa ht _ Za
  have w:kept t (kk+(m'+1)+1)=kept t (kk+(m'+1))++if t (kk+m'+1)then []else [kk+m'+1]:=by
   rw[wI]
   grind
  have C:kk+(m'+1+1)=kk+(m'+1)+1:=by omega
  cases W:t (kk+m'+1)with
  | true=>
   rw[W]at b2 w;simp  at w;obtain⟨F3,Y,q2,Q⟩:=(K4     (p:=m'+1) Za).2.1 (by rw[z 7 Za];exact h.f7)
   obtain⟨F',B,i1,i2⟩:=ih (m'+1+1) F3 u Za Za ⟨by rw[Q 0 Za Za,z 0 Za];exact h.f0,by rw[Q 1 Za Za,z 1 Za];exact h.f1,
    by rw[Q 5 Za Za,z 5 Za,C,w];exact h.f5,by rw[Q 6 Za Za,z 6 Za];exact h.f6,q2,h.len,by rw[C,w];exact h.pre,λi h1 Z=>h.post i Za Z,h.out,h.cell⟩
   exact⟨F',B,u9.step (Ex.seq (Ex.seq (Ex.ja a1) (Ex.wV T Ex.skip)) (Ex.seq (Ex.block (Ex.seq (Ex.Lf (by decide) U) (Ex.CV (by simp[hD,b2]) Ex.skip))) (Ex.ja Y))) i1,i2⟩
  | false=>
   rw[W]at b2 w;generalize hK:(kept t (kk+(m'+1))).length=K at *;obtain⟨_,_,hz⟩:=h.cell K Za
   obtain⟨F3,Y,q2⟩:=X1           (G u) (by rw[z 0 Za];exact h.f0) (by rw[z 5 Za,h.f5,hK]) (by rw[z 6 Za];exact h.f6) (by rw[z 7 Za];exact h.f7) Za Za c1 hz (X.one _ Za)
   rw[List.set_set]at Y;generalize I:u.set (off+K) [A (kk+m'+1)]=J at Y;have hg:∀j,J[j]? = if j=off+K then some [A (kk+m'+1)]else u[j]? := λj=>by
    rw[<-I,List.getElem?_set]
    by_cases e:off+K=j
    .rw[if_pos e,if_pos e.symm,if_pos (by rw[h.len];omega)]
    rw[if_neg e,if_neg (Ne.symm e)]
   obtain⟨F4,Q,q4,q5⟩:=(K4     (p:=K) Za).1 (by rw[q2 5 Za,z 5 Za,h.f5,hK])
   have D:∀s,s<8->s≠5->get F4 s=get F s:=λs h1 Z=>by rw[q5 s h1 Z,q2 s h1,z s h1]
   obtain⟨F5,q6,q7,q8⟩:=(K4     (p:=m'+1) Za).2.1 (by rw[D 7 Za Za];exact h.f7)
   obtain⟨F',B,i1,i2⟩:=ih (m'+1+1) F5 J Za Za ⟨by rw[q8 0 Za Za,D 0 Za Za];exact h.f0,by rw[q8 1 Za Za,D 1 Za Za];exact h.f1,
    by rw[q8 5 Za Za,q4,C,w,ζi,hK];rfl,by rw[q8 6 Za Za,D 6 Za Za];exact h.f6,q7,by rw[<-I,List.length_set];exact h.len,
    λp i S=>by
     rw[C,w]at S;rw[hg]
     by_cases e:p=K
     .subst e;rw[<-hK,List.getElem?_append_right (Nat.le_refl _),Nat.sub_self]at S;cases S;rw[if_pos rfl]
     have ae:p<(kept t (kk+(m'+1))).length:=by
      have:=(ζe.1 S).1;simp at this;omega
     rw[List.getElem?_append_left ae]at S;rw[if_neg Za];exact h.pre p i S,
    λi h1 Z=>by rw[hg,if_neg Za];exact h.post i Za Z,λj hj=>by rw[hg,if_neg Za];exact h.out j hj,
    λi hi=>by
     rw[hg]
     by_cases e:off+i=off+K
     .rw[if_pos e];exact⟨_,by omega,rfl⟩
     rw[if_neg e];exact h.cell i hi⟩
   exact⟨F',B,u9.step (Ex.seq (Ex.seq (Ex.ja a1) (Ex.wV T Ex.skip)) (Ex.seq (Ex.block (Ex.seq (Ex.Lf (by decide) U) (Ex.wV (by simp[hD,b2]) (Ex.seq (Ex.ja Y) (Ex.ja Q))))) (Ex.ja q6))) i1,i2⟩
structure Qg (off L:Nat) (rs:List (List V)) (A:Nat->V) (t:Nat->Bool) (rs':List (List V)):Prop where
 len:rs'.length=rs.length
 pre:∀p i,(kept t L)[p]? = some i->rs'[off+p]? = some [A i]
 all:∀c∈rs',c∈rs\/c=[.bN]
theorem WR (X:KM E g cb H id off L rs A t):∀(d k:Nat) (F:Frame),k+d=L->0<k->(∀i,0<i->i<k->t i=false)->get F 0=.hsl id 1 off L->get F 1=.clo g [] cb->get F 5=.int .i64 k ->
 (∃F',u9 E N Q0 F H (.exit 0) F' H/\get F' 0=.hsl id 1 off L/\∀i,0<i->i<L->t i=false) \/
 (∃F' D,u9 E N Q0 F H .ret F' (H.set id (.row 1 D))/\get F' 4=.hsl id 1 off (kept t L).length/\Qg off L rs A t D):=by
 have Q:=(ζe.1 X.row).1;have S  := uT X.row;have ah:=X.small;have af:=X.len;intro d
 induction d with
 | zero=>
  intro k F he hk hp f0 f1 f5;have ek:k=L:=by omega
  subst ek;obtain⟨F1,e1,e2,e3⟩:=x5  (N:=N)  f0 f5;exact .inl ⟨F1,u9.stop (Ex.Eh (Ex.seq (Ex.ja e1) (Ex.CV (by simp[hD,e2]) Ex.exit)) Zc) Zc,by grind,hp⟩
 | succ d ih=>
  intro k F he hk hp f0 f1 f5;obtain⟨F1,a1,a2,a3⟩:=x5    f0 f5;have U:hD N F1 15=.bool true:=by
   show get F1 15=_;rw[a2,decide_eq_true Za]
  obtain⟨u,rfl⟩:∃u,k=u+1:=⟨k-1,by omega⟩
  obtain⟨n0,ai⟩:=X.cmp;obtain⟨F2,b1,b2,b3⟩:=(Vh  (N:=N) (cb:=cb) (g:=g) (i:=u) (L2:=L) (t:=t (u+1)) X.row Za Za (X.at_ _ Za) (X.at_ _ Za) X.keep (by rw[a3 1 Za];omega)).1 Zd Zd
  have W:∃n,∀k,n<=k->eu E N (run E k) (some H.length) r6 F1 H=some (F2,H):=⟨n0,λk hk=>b1 _ (by
   grind)⟩
  have Y  := λs hs=>(b3 s hs).trans (a3 s hs)
  cases w:t (u+1)with
  | false=>
   rw[w]at b2;obtain⟨T,q1,q2,q3⟩:=(K4 (E:=E)  (F:=F2)  (p:=u+1) Za).2.2 Zd
   have z:Ex E N Q0 F H .norm T H:=Ex.seq (Ex.seq (Ex.ja a1) (Ex.wV U Ex.skip)) (Ex.seq (Ex.block (Ex.seq (Ex.Lf (by decide) W) (Ex.CV (by simp[hD,b2]) Ex.skip))) (Ex.ja q1))
   rcases ih (u+1+1) T Za Za (λi h1 Z=>by
    grind) Zd (by simp_all) q2 with⟨F',i1,i2⟩|⟨F',D,i1,i2⟩
   .exact .inl ⟨F',u9.step z i1,i2⟩
   exact .inr ⟨F',D,u9.step z i1,i2⟩
  | true=>
   rw[w]at b2;refine .inr ?_;obtain⟨T,q1,q2,q3⟩:=x7 (E:=E) (N:=N)  (H:=H) (k:=u+1) (by rw[Y 0 Za];exact f0) (by rw[Y 5 Za];exact f5) Za
   have G:kept t (u+1)=List.range (u+1):=Cg _ hp;have aa:kept t (u+1+1)=List.range (u+1):=by
    rw[wI,G,w];simp
   have q4:∀call,eu E N call none r8 T H=some (set T 7 (.int .i64 1),H):=λcall=>vp  rfl (by simp[mo,hD,bS]) GQ
   have h0:Head g cb id off L (u+1) 1 rs A t (set T 7 (.int .i64 1)) rs:=⟨by rw[iP _ _ Za,q3 0 Za Za,Y 0 Za];exact f0,by rw[iP _ _ Za,q3 1 Za Za,Y 1 Za];exact f1,
    by rw[iP _ _ Za,q3 5 Za Za,Y 5 Za,aa,List.length_range];exact f5,by rw[iP _ _ Za];exact q2,by rw[vc];rfl,rfl,
    λp i B=>by
     rw[aa]at B;obtain⟨h1,Z⟩:=ζe.1 B;simp at h1 Z;subst Z;exact X.at_ p Za,λi _ Z=>X.at_ i Z,λ_ _=>rfl,λi hi=>⟨i,hi,X.at_ i hi⟩⟩
   obtain⟨F5,C,l1,I⟩:=WQ (N:=N) X Za Za w (L-(u+1)-1) 1 _ rs Za Za h0
   rw[S]at l1;have eL:u+1+(L-(u+1))=L:=by omega
   have ae:=y7 (t:=t) (k:=u+1) Za w L Za
   have l5:=I.f5;have J:=I.pre;rw[eL]at l5 J;generalize hK:(kept t L).length=K at *;have ab:(H.set id (.row 1 C))[id]? = some (.row 1 C):=List.getElem?_set_self Q;obtain⟨F6,w1,w2⟩:=X4 (E:=E) (N:=N) (p:=K) ab I.f0 l5 Za (by rw[I.len];omega)
   rw[List.set_set]at w1;obtain⟨F7,w3,w4⟩:=XW (E:=E)     (by rw[w2 0 Za];exact I.f0) (by rw[w2 5 Za];exact l5) Za
   have aj:=I.len;refine⟨F7,C.take (off+K)++List.replicate (L-K) [.bN]++C.drop (off+L),u9.stop (Ex.seq (Ex.seq (Ex.ja a1) (Ex.wV U Ex.skip)) (Ex.Eh (Ex.Np (Ex.seq (Ex.Lf (by decide) W) (Ex.wV (by simp[hD,b2]) (Ex.seq (Ex.ja q1) (Ex.seq (Ex.seq (Ex.ja q4) (Ex.Ns (Ex.loop l1))) (Ex.seq (Ex.ja w1) (Ex.seq (Ex.ja w3) Ex.ret))))))) Zc)) Zc,w4,?_,λp i B=>?_,λc hc=>?_⟩
   .simp;omega
   .have ak:p<K:=by rw[<-hK];exact(ζe.1 B).1
    rw[List.append_assoc,List.getElem?_append_left (by simp;omega),List.getElem?_take,if_pos Za]
    exact J p i B
   have ad:∀j x,C[j]? = some x->x∈rs:=λj x O=>by
    by_cases ho:j<off\/off+L<=j
    .rw[I.out j ho]at O;exact List.mem_of_getElem? O
    obtain⟨i,rfl⟩:∃i,j=off+i:=⟨j-off,by omega⟩
    obtain⟨q,hq,hc⟩:=I.cell i Za
    rw[hc]at O;cases O;exact List.mem_of_getElem? (X.at_ q hq)
   rcases List.mem_append.1 hc with hc|hc
   .rcases List.mem_append.1 hc with hc|hc
    .obtain⟨j,O⟩:=List.getElem?_of_mem (List.mem_of_mem_take hc);exact .inl (ad j c O)
    exact .inr (List.eq_of_mem_replicate hc)
   obtain⟨j,O⟩:=List.getElem?_of_mem (List.mem_of_mem_drop hc);exact .inl (ad j c O)
end
end cmpX
namespace cmpX
section
variable {E:Env} {N:Nat->FuncId} {g:FuncId} {cb:a_ V} {H:bn} {id off L:Nat} {rs:a_ (a_ V)} {A:Nat->V} {t:Nat->Bool}
theorem whole (X:KM E g cb H id off L rs A t):∃F' B,Ex E N code [.hsl id 1 off L,.clo g [] cb] H .ret F' (H.set id (.row 1 B))/\get F' 4=.hsl id 1 off (kept t L).length/\Qg off L rs A t B:=by
 have u:H.set id (.row 1 rs)=H:=uT X.row;have same:(∀i,0<i->i<L->t i=false)->(kept t L).length=L/\Qg off L rs A t rs:=λh=>by
  have hk:=Cg L h;rw[hk,List.length_range];exact⟨rfl,rfl,λp i Q=>by
   rw[hk]at Q;obtain⟨h1,w⟩:=ζe.1 Q;simp at h1 w;subst w;exact X.at_ p h1,λc hc=>.inl hc⟩
 have g1:∀call,eu E N call none r1 [.hsl id 1 off L,.clo g [] cb] H=some (set [.hsl id 1 off L,.clo g [] cb] 4 .bN,H):=λcall=>vp (v:=.bN) rfl (by simp[mo,hD,bS]) GQ
 have k0:get (set [V.hsl id 1 off L,.clo g [] cb] 4 .bN) 0=.hsl id 1 off L:=rfl;have k1:get (set [V.hsl id 1 off L,.clo g [] cb] 4 .bN) 1=.clo g [] cb:=rfl;generalize set [V.hsl id 1 off L,.clo g [] cb] 4 .bN=U at *;obtain⟨F1,S,T,z⟩:=x2 (E:=E) (N:=N) (H:=H) k0
 by_cases W:L<2
 .obtain⟨C,D,G⟩:=U_ (E:=E) (N:=N) (F:=F1) (H:=H);obtain⟨e1,e2⟩:=same λi h1 w=>by omega
  refine⟨C,rs,?_,by rw[e1,G,z 0 Za];exact k0,e2⟩
  rw[u];exact Ex.seq (Ex.ja g1) (Ex.Eh (Ex.seq (Ex.ja S) (Ex.wV (by show get F1 10=_;rw[T,decide_eq_true Za]) (Ex.seq (Ex.ja D) Ex.ret))) Zc)
 have g4:∀call,eu E N call none r4 F1 H=some (set F1 5 (.int .i64 1),H):=λcall=>vp (v:=.int .i64 1) rfl (by simp[mo,hD,bS]) GQ
 have hc:Ex E N (.seq (.ops r2) (.cond (.s 10) (.seq (.ops r3) (.ret)) (.skip))) U H .norm F1 H:=Ex.seq (Ex.ja S) (Ex.CV (by show get F1 10=_;rw[T,decide_eq_false Za]) Ex.skip)
 rcases WR (N:=N) X (L-1) 1 (set F1 5 (.int .i64 1)) Za Za (λi h1 w=>by omega) (by rw[iP _ _ Za,z 0 Za];exact k0) (by rw[iP _ _ Za,z 1 Za];exact k1) (by rw[vc];rfl)with⟨F',I,J,O⟩|⟨F',B,I,J,O⟩
 .obtain⟨C,D,G⟩:=X2 (E:=E) (N:=N) (F:=F') (H:=H);obtain⟨e1,e2⟩:=same O;refine⟨C,rs,?_,by rw[e1,G];exact J,e2⟩
  rw[u];exact Ex.seq (Ex.ja g1) (Ex.seq hc (Ex.seq (Ex.seq (Ex.ja g4) (Ex.Ns (Ex.loop I))) (Ex.seq (Ex.ja D) Ex.ret)))
 exact⟨F',B,Ex.seq (Ex.ja g1) (Ex.seq hc (Ex.Eh (Ex.seq (Ex.ja g4) (Ex.Np (Ex.loop I))) Zc)),J,O⟩
theorem empty {w:V} (c:V) (u:w=.bN\/w=.c_):∃F',Ex E N code [w,c] H .ret F' H/\get F' 4=w:=by
 have g1:∀call,eu E N call none r1 [w,c] H=some (set [w,c] 4 .bN,H):=λcall=>vp (v:=.bN) rfl (by simp[mo,hD,bS]) GQ
 have k0:get (set [w,c] 4 .bN) 0=w:=rfl;generalize set [w,c] 4 .bN=z at *;have B:qu w=some (.int .i64 0):=by rcases u with rfl|rfl <;> rfl
 have t:∃F1,(∀call,eu E N call none r2 z H=some (F1,H))/\get F1 10=.bool true/\get F1 0=w:=by
  refine⟨_,λcall=>vp (v:=w) rfl ?_ <| vp (v:=.int .i64 0) rfl ?_ <| vp (v:=.bool true) rfl ?_ GQ,?_,?_⟩
  .simp[mo,hD,bS,k0]
  .simp[mo,hD,bS,qm,B]
  .simp[mo,hD,bS,qm,nK,su]
  .simp[qm]
  simp[qm,k0]
 obtain⟨F1,t,C,D⟩:=t;obtain⟨G,I,J⟩:=U_ (E:=E) (N:=N) (F:=F1) (H:=H);exact⟨G,Ex.seq (Ex.ja g1) (Ex.Eh (Ex.seq (Ex.ja t) (Ex.wV C (Ex.seq (Ex.ja I) Ex.ret))) Zc),by rw[J,D]⟩
end
end cmpX
def Sl.re {α:Type} (s:Sl α) (l:a_ α):Sl α:=match s with|.nil=>.nil|.emp=>.emp|.row _=>.row l|.part _=>.part l
def xE {α:Type} (s:Sl α) (p:α->α->bf Int):bf (Sl α):=
 match s.l with
 | []=>some s
 | x::l=>if l.length<2147483648 then
  let t:_root_.Fin (l.length+1)->_root_.Fin (l.length+1)->bf Int:=λi j=>p (x::l)[i.1] (x::l)[j.1]
  if AQ t then some (s.re ((pT l.length (oL t)).toList.map λi=>(x::l)[i.1]))else none
  else none
section
variable {S:Sys} {T:pe} {β γ δ α:Type} {Q:Out×St->bf β} {e:γ->bf β} {cf:Cf}
theorem l8.RB (u:vq S T) (B:∀f a b xs,S.items f a b=some xs->gI S f a b xs) {fn:FuncId} {A:δ->a_ V} {E:α->a_ V} {p:δ->bf α} {sc:Bool} (F:l8 S (dc S T) fn A E p sc) {z:δ} {r:α} (h:p z=some r) (hg:V.cQ (A z)=true) :
 ∃n,b8 (run S.E n) fn (A z) []=some (result (E r)):=by
 have h1:=F.h z (E r) (by simp_all)
 obtain⟨⟨rs,m'⟩,t,w⟩:=ζg.1 h1;obtain⟨n,y,H2,e1,e2,e3⟩:=BS (Bh u B) hg t w;refine⟨n,?_⟩;have C:borrows n [] (A z)=some (A z):=by
  have hc:=V.nh hg;generalize A z=l at hc;unfold borrows
  induction l with
  | nil=>rfl
  | cons x l D=>
   simp[V.gQ]at hc;simp[iy,ez n [] hc.1,D hc.2]
 unfold b8;rw[og,C];simp[e1 n (Nat.le_refl _),e2 n (Nat.le_refl _),V.mQ e3]
section
variable [bz α]
theorem KW (h1:bz.size α=1) {l:a_ α} (u:l.length<=2147483648):vm (bz.size α) (rows l)=true:=by
 unfold vm;simp;refine⟨⟨h1,λx t=>?_⟩,by simpa [rows]using u⟩
 obtain⟨a,_,rfl⟩:=List.mem_map.1 t;exact⟨by rw[gH,h1],List.all_eq_true.1 (bz.one a)⟩
theorem MQ (h1:bz.agg α=false) (a:α):jx (cells a)=enc a:=by
 unfold enc;rw[if_neg Zd];rfl
theorem Px (l:a_ α) (i:Nat) (h:i<l.length):(rows l)[i]? = some (cells l[i]):=by
 unfold rows;grind
theorem Th (O:vq S T) (U:∀f a b xs,S.items f a b=some xs->gI S f a b xs) {g:FuncId} {p:α->α->bf Int} (F:l8 S (dc S T) g (λz:α×α=>[enc z.1,enc z.2]) (λr:Int=>[.int .i64 r]) (λz=>p z.1 z.2) true)
 (h1:bz.size α=1) (W:bz.agg α=false) {s B:Sl α} (h:xE s p=some B):Ad S.E (bz.size α) (rows s.l) [.clo g [] []]=some (rows B.l)/\B.k=s.k:=by
 unfold xE at h;split at h
 next w=>cases h;rw[w];exact⟨rfl,rfl⟩
 rename_i x l w;split at h
 .dsimp only at h;split at h
  .rename_i G;cases h;rw[w];obtain⟨t,I⟩:=p9 G;have C:=KW  h1 (l:=x::l) Zd
   have key:∀m,m=l.length->(if AQ (λi j:_root_.Fin (m+1)=>sG S.E g [] (jx (((rows (x::l))[i.1]?).getD [])) (jx (((rows (x::l))[j.1]?).getD [])))then
    some ((pT m (oL (λi j:_root_.Fin (m+1)=>sG S.E g [] (jx (((rows (x::l))[i.1]?).getD [])) (jx (((rows (x::l))[j.1]?).getD []))))).toList.map λi=>((rows (x::l))[i.1]?).getD [])else none) =
    some (rows ((pT l.length (oL λi j:_root_.Fin (l.length+1)=>p (x::l)[i.1] (x::l)[j.1])).toList.map λi=>(x::l)[i.1])):=by
    rintro m rfl;have e1:∀i:_root_.Fin (l.length+1),jx (((rows (x::l))[i.1]?).getD [])=enc (x::l)[i.1]:=λi=>by
     rw[Px (x::l) i.1 i.2,Option.getD_some,MQ W]
    have e2:(λi j:_root_.Fin (l.length+1)=>sG S.E g [] (jx (((rows (x::l))[i.1]?).getD [])) (jx (((rows (x::l))[j.1]?).getD [])))=λi j=>p (x::l)[i.1] (x::l)[j.1]:=by
     funext i j
     obtain⟨z,J⟩:=t i j;rw[e1 i,e1 j,J];obtain⟨n,L⟩:=F.RB O U (z:=((x::l)[i.1],(x::l)[j.1])) J (by simp[V.cQ,lF])
     unfold sG;rw[RR L];rfl
    rw[e2,if_pos G]
    congr 1
    unfold rows;rw[List.map_map];refine List.map_congr_left λi _=>?_
    grind
   have u:(s.re ((pT l.length (oL λi j:_root_.Fin (l.length+1)=>p (x::l)[i.1] (x::l)[j.1])).toList.map λi=>(x::l)[i.1])).l=(pT l.length (oL λi j:_root_.Fin (l.length+1)=>p (x::l)[i.1] (x::l)[j.1])).toList.map (λi=>(x::l)[i.1])/\(s.re ((pT l.length (oL λi j:_root_.Fin (l.length+1)=>p (x::l)[i.1] (x::l)[j.1])).toList.map λi=>(x::l)[i.1])).k=s.k:=by
    cases s <;> simp[Sl.l]at w <;> exact⟨rfl,rfl⟩
   refine⟨?_,u.2⟩;rw[u.1,<-key (rows l).length (fW l)];have hc:(vm (bz.size α) (rows (x::l)) && !S.E.keep g)=true:=by
    rw[C,F.k];rfl
   have D  := hc;exact(if_pos D).trans rfl
  simp_all
 simp_all
theorem Pw {s u:Sl α} {p:α->α->bf Int} (h:xE s p=some u) (hk:bQ s.k=false):u=s:=by
 cases s <;> simp[Sl.k,bQ]at hk <;> simpa [xE,Sl.l]using h.symm
theorem Wb (n d:Nat) (B:vq S T) (D:∀f a b xs,S.items f a b=some xs->gI S f a b xs) {fn g:FuncId} (hp:S.prm fn=some (sw S.E)) {p:α->α->bf Int}
 (F:l8 S (dc S T) g (λz:α×α=>[enc z.1,enc z.2]) (λr:Int=>[.int .i64 r]) (λz=>p z.1 z.2) true) {s:Sl α} {f:Sl α->bf γ}
 (h:∀u,xE s p=some u->Le ((f u).bind e) (bX S (dc S T) Q (nx S (dc S T) n cf λq=>cZ { q.st with m:=bA q.st.m d (cn u) } q.d (.v .undef))))
 (h1:bz.size α=1:=by rfl) (G:bz.agg α=false:=by rfl)
 (J:(fJ S (dc S T) n cf).map (λq=>(q.k,bV S.N q.st.g q.az,bl q.st.m d,q.dr))=some (.c,some [.v (.clo fn [] []),.own d,.v (.clo g [] [])],some (cn s),false):=by kernel_rfl):Le (((xE s p).bind f).bind e) (bX S (dc S T) Q cf):=by
 obtain⟨q,C,hv⟩:=eE J;simp  at hv;obtain⟨I,L,O,U⟩:=hv;refine qx C ?_ h;rw[I,U];intro y w;obtain⟨u,t,w⟩:=ζg.1 w;obtain⟨e1,e2⟩:=Th B D F h1 G t;have hk:=(B.prm fn _ hp).keep;have W:=(B.prm fn _ hp).own;rw[wU false _ _ _ _ _ _ fn [.own d,.v (.clo g [] [])] L rfl];have hc:ey S (dc S T) q.d false (!false||q.now) (dR q.st.m q.fr) fn [.own d,.v (.clo g [] [])] q.st=some (.v .undef,{ q.st with m:=bA q.st.m d (cn u) }):=by
  unfold ey;simp[hk,W,hp,BL,O,cn,cV];have e3  := e1;simp[sw]
  cases hr:bQ s.k with
  | true=>grind
  | false=>have:=Pw t hr;grind
 grind
end
end
section
variable {H H':bn} {w:V} {o:Nat} {ids:a_ Nat} {rows:a_ (a_ V)}
theorem sY.cell (n:sY H w o ids rows) {p j:Nat} {r:a_ V} {u:V} (hr:rows[p]? = some r) (hu:r[j]? = some u) :
 ∃id,ids[p]? = some id/\kS 1 w (p:Int)=some (.hptr o p 0)/\eP H (.load 1 false) [.hptr o p 0]=some (.hsl id 1 0 r.length)/\kS 1 (.hsl id 1 0 r.length) (j:Int)=some (.hptr id j 0)/\eP H (.load 1 false) [.hptr id j 0]=some u:=by
 have C:=(ζe.1 hr).1;have D:=(ζe.1 hu).1;have z:rows≠[]:=by intro e;subst e;simp at hr
 have B:p<ids.length:=by rw[n.len];exact C
 have t:=ζd B;refine⟨ids[p],t,?_,?_,?_,?_⟩
 .have:=n.v;rw[if_neg z]at this;subst this;simp[kS,C]
 .have h1:=n.ob z;have G:=GX t hr;simp[eP,dX,h1,Ob.rows,G,cut];rfl
 .simp[kS,D]
 have h1:=n.r p _ r t hr;simp[eP,dX,h1,Ob.rows,oU,hu,cut];rfl
theorem MC {ids:a_ Nat} (h:ids.Nodup) {i j:Nat} {a:Nat} (u:ids[i]? = some a) (B:ids[j]? = some a):i=j:=by
 have h1:=(ζe.1 u);have t:=(ζe.1 B);obtain⟨h1,e1⟩:=h1;obtain⟨t,e2⟩:=t;exact(List.getElem_inj h).1 (e1.trans e2.symm)
theorem sY.set (n:sY H w o ids rows) {p j id:Nat} {r:a_ V} {u:V} (hr:rows[p]? = some r) (O:j<r.length) (B:ids[p]? = some id) (hu:V.one u=true) (hc:u.cells=[u]) :
 ∃H',eO H (.store 1) [.hptr id j 0,u]=some (.undef,H')/\sY H' w o ids (rows.set p (r.set j u))/\H'.length=H.length/\(∀i,i≠id->H'[i]? = H[i]?):=by
 have L:=(ζe.1 hr).1;have t:rows≠[]:=by intro e;subst e;simp at hr
 have h1:=n.r p id r B hr;have Q:id<H.length:=(ζe.1 h1).1;have D:(oU r).set j [u]=oU (r.set j u):=by simp[oU,List.map_set]
 have G:o≠id:=λe=>n.ne t (e▸List.mem_of_getElem? B)
 refine⟨H.set id (.row 1 (oU (r.set j u))),?_,⟨?_,λ_=>?_,by simp[n.len],λi I S C z=>?_,n.nd,λ_=>n.ne t⟩,by simp,λi C=>List.getElem?_set_ne (Ne.symm C)⟩
 .have T:(oU r)[j]? = some [r[j]]:=by simp[oU,O]
  simp only[eO,h1,T,hc,List.length_singleton,Nat.zero_add,Nat.le_refl,List.all_cons,hu,List.all_nil,Bool.and_self,and_self,if_true,List.take_zero,List.nil_append];rw[<-D];simp
 .rw[n.v];have:rows.set p (r.set j u)≠[]:=by intro e;apply t;simpa using e
  rw[if_neg t,if_neg this,List.length_set]
 .rw[List.getElem?_set_ne (Ne.symm G),HK hr Zc];exact n.ob t
 by_cases e:i=p
 .subst e;rw[B]at C;cases C;rw[List.getElem?_set_self L]at z;cases z;rw[List.getElem?_set_self Q]
 rw[List.getElem?_set_ne (Ne.symm e)]at z;have J:id≠I:=λU=>e (MC n.nd (U▸C) B)
 rw[List.getElem?_set_ne J];exact n.r i I S C z
end
structure sX (H:bn) (w:V) (l:List (List V)) (id:Nat):Prop where
 c:∀c∈l,c.length=2/\c.all V.one=true
 v:(w=.bN/\l=[])\/∃off xs,w=.hsl id 2 off l.length/\H[id]? = some (.row 2 xs)/\off+l.length<=xs.length/\(xs.drop off).take l.length=l
section
variable {H H':bn} {w:V} {l:a_ (a_ V)} {id:Nat}
theorem sX.heap (n:sX H w l id) (h:∀off n,w=.hsl id 2 off n->H'[id]? = H[id]?):sX H' w l id:=
 ⟨n.c,n.v.imp (λh=>h) λ⟨off,t,e1,e2,e3,e4⟩=>⟨off,t,e1,by rw[h _ _ e1];exact e2,e3,e4⟩⟩
theorem sX.lt (n:sX H w l id) {off m:Nat} (h:w=.hsl id 2 off m):id<H.length:=by
 rcases n.v with⟨e,_⟩|⟨_,t,_,e2,_⟩
 .rw[e]at h;cases h
 exact(ζe.1 e2).1
theorem sX.more (n:sX H w l id) (X:bn):sX (H++X) w l id:=n.heap λ_ _ e=>List.getElem?_append_left (n.lt e)
theorem sX.len (n:sX H w l id):qu w=some (.int .i64 l.length):=by
 rcases n.v with⟨rfl,rfl⟩|⟨off,t,rfl,_⟩ <;> rfl
theorem sX.get (n:sX H w l id) {i:Nat} {c:a_ V} (hc:l[i]? = some c):∃p,kS 2 w (i:Int)=some p/\eP H (.load 2 true) [p]=some (.agg c):=by
 have u:=(ζe.1 hc).1;have t:=(n.c c (List.mem_of_getElem? hc)).1;rcases n.v with⟨_,rfl⟩|⟨off,z,rfl,e2,e3,e4⟩
 .simp at hc
 refine⟨.hptr id (off+i) 0,by simp[kS,u],?_⟩
 have:z[off+i]? = some c:=by
  rw[<-e4,List.getElem?_take,if_pos u,List.getElem?_drop]at hc;exact hc
 simp[eP,dX,e2,Ob.rows,this,cut,<-t];rfl
theorem sX.tail {c:a_ V} (n:sX H w (c::l) id):∃w',ir 2 w (some 1) none=some w'/\sX H w' l id/\∃off m u,w=.hsl id 2 off m/\w'=.hsl id 2 u l.length:=by
 rcases n.v with⟨_,e⟩|⟨off,t,rfl,e2,e3,e4⟩
 .cases e
 refine⟨.hsl id 2 (off+1) l.length,?_,⟨λc hc=>n.c c (List.mem_cons_of_mem _ hc),.inr ⟨off+1,t,rfl,e2,by simp at e3;omega,?_⟩⟩,⟨_,_,_,rfl,rfl⟩⟩
 .simp[ir,dH];omega
 have hd:(t.drop off).drop 1=t.drop (off+1):=by rw[List.drop_drop]
 rw[<-hd];have:=congrArg (List.drop 1) e4;rw[List.drop_take]at this;simpa using this
theorem sX.push (n:sX H w l id) {c:a_ V} (hc:c.length=2/\c.all V.one=true) (B:l.length+1<=2147483648) :
 ∃H',eO (H++[.row 2 [c]]) (.append 2) [w,.hsl H.length 2 0 1]=some (.hsl (H.length+1) 2 0 (l.length+1),H')/\sX H' (.hsl (H.length+1) 2 0 (l.length+1)) (l++[c]) (H.length+1)/\H'.length=H.length+2/\(∀i,i<H.length->(∀off m,w=.hsl id 2 off m->i≠id)->H'[i]? = H[i]?):=by
 have e2:dG (H++[.row 2 [c]]) 2 (.hsl H.length 2 0 1)=some [c]:=by simp[dG,Ob.rows]
 have t:∀c'∈l++[c],c'.length=2/\c'.all V.one=true:=λc' h=>by
  rcases List.mem_append.1 h with h|h
  .exact n.c c' h
  simp at h;subst h;exact hc
 rcases n.v with⟨rfl,rfl⟩|⟨off,D,rfl,g2,g3,g4⟩
 .have e1:dG (H++[.row 2 [c]]) 2 .bN=some []:=rfl;refine⟨H++[.row 2 [c]]++[.row 2 [c]],?_,⟨t,.inr ⟨0,[c],rfl,by simp,by simp,rfl⟩⟩,by simp,λi z _=>by rw[List.append_assoc,List.getElem?_append_left z]⟩
  simp only[eO,e1,e2,gq,List.length_nil,List.length_singleton,Option.map_some];simp
 have u:=(ζe.1 g2).1;have e1:dG (H++[.row 2 [c]]) 2 (.hsl id 2 off l.length)=some l:=by
  simp only[dG,if_true,List.getElem?_append_left u,g2,ζb,Ob.rows,g3,g4]
 have C:gq (H++[.row 2 [c]]) (.hsl id 2 off l.length)=some (List.set (H++[Ob.row 2 [c]]) id Ob.dead):=by
  simp only[gq,List.getElem?_append_left u,g2]
 refine⟨List.set (H++[Ob.row 2 [c]]) id Ob.dead++[Ob.row 2 (l++[c])],?_,⟨t,.inr ⟨0,l++[c],by simp,by simp,by simp,List.take_of_length_le Zc⟩⟩,by simp,λi z h=>?_⟩
 .simp only[eO,e1,e2,C,List.length_singleton,B,if_true,Option.map_some,ζi]
 rw[List.getElem?_append_left (by simp;omega),List.getElem?_set_ne (Ne.symm (h _ _ rfl)),List.getElem?_append_left z]
end
def DU (rs:a_ RV):Out×St->bf bu
 | (.exit _,_)=>none
 | (_,st)=>(i_ st rs).bind λl=>match l with
  | [.own d]=>bl st.m d
  | _=>none
theorem Xg {S:Sys} {c:bU} {rs:a_ RV} {rc:RC} {st:St} {ob:bu} (h:jS S c (DU rs) rc [] st=some ob):∃o st' d,cw S c rc st=some (o,st')/\(∀id,o≠.exit id)/\i_ st' rs=some [.own d]/\bl st'.m d=some ob:=by
 rw[ot]at h;obtain⟨⟨o,st'⟩,h1,t⟩:=ζg.1 h;have w:∀id,o≠.exit id:=by rintro id rfl;simp[DU]at t
 have z:(i_ st' rs).bind (λl=>match l with|[.own d]=>bl st'.m d|_=>none)=some ob:=by
  cases o with
  | exit id=>exact absurd rfl (w id)
  | norm=>exact t
  | ret=>exact t
 obtain⟨l,B,u⟩:=ζg.1 z;split at u
 .exact⟨o,st',_,h1,w,B,u⟩
 cases u
def Sl.whole {α:Type} (s:Sl α):bf (Sl α):=match s with|.part _=>none|s=>some s
structure z_ (S:Sys) (c:bU) {α δ:Type} [bz δ] (fn:FuncId) (A:α->List V) (p:α->Option (Sl δ)):Prop where
 k:S.E.keep fn=true
 o:S.E.own fn=true
 h:∀z s,p z=some s->∃e m',c fn ((A z).map .v) []=some ([.own e],m')/\bl m' e=some (cn s)
 sc:∀x:δ,(cells x).all V.scalar=true
theorem z_.mk' {S:Sys} {T:pe} {α δ:Type} [bz δ] (rf:RF) {fn:FuncId} {A:α->a_ V} {p:α->bf (Sl δ)} (h:∀z,Le ((p z).bind λr=>some (cn r)) (bX S (dc S T) (DU rf.rs) (.rc rf.body,[],start ((A z).map .v) [])))
 (u:T fn=some rf:=by kernel_rfl) (hk:S.E.keep fn=true:=by kernel_rfl) (B:S.E.own fn=true:=by kernel_rfl) (D:∀z,(A z).length<=rf.na:=by intro z;exact Nat.le_of_ble_eq_true (by kernel_rfl))
 (sc:∀x:δ,(cells x).all V.scalar=true:=by intro x;rfl):z_ S (dc S T) fn A p where
 k:=hk
 o:=B
 sc:=sc
 h z s t:=by
  have h1:=h z (cn s) (by rw[t];rfl)
  change jS S (dc S T) (DU rf.rs) rf.body [] (start ((A z).map .v) [])=some (cn s)at h1;obtain⟨o,st',d,g1,g2,g3,g4⟩:=Xg h1;refine⟨d,st'.m,?_,g4⟩;rw[qT u];unfold mB;rw[if_pos (by simpa using D z),g1]
  cases o with
  | exit id=>exact absurd rfl (g2 id)
  | norm=>simp only[g3,Option.map_some]
  | ret=>simp only[g3,Option.map_some]
section
variable {S:Sys} {c:bU} {β γ δ α:Type} [bz δ] {Q:Out×St->bf β} {e:γ->bf β} {cf:Cf}
theorem Lj (n u:Nat) {fn:FuncId} {A:α->a_ V} {p:α->bf (Sl δ)} (F:z_ S c fn A p) (z:α) {f:Sl δ->bf γ}
 (h:∀x,(p z).bind Sl.whole=some x->Le ((f x).bind e) (bX S c Q (nx S c n cf λq=>{ q.st with g:=bA q.st.g u (.own u),m:=bA q.st.m u (cn x) })))
 (J:(fJ S c n cf).map (λq=>(q.d,q.k,(bV S.N q.st.g q.az).bind k_,(!q.dr||q.now),q.st.new u))=some (some u,.c,some (fn,(A z).map .v),true,true):=by kernel_rfl):Le ((((p z).bind Sl.whole).bind f).bind e) (bX S c Q cf):=by
 obtain⟨q,I,hv⟩:=eE J;simp only[ζc]at hv;obtain⟨L,O,T,U,G⟩:=hv;obtain⟨B,g1,g2⟩:=ζg.1 T;refine qx I ?_ h;rw[L,O];intro y C;obtain⟨W,D,C⟩:=ζg.1 C;cases C;obtain⟨s,X,w⟩:=ζg.1 D;obtain⟨e0,m',hc,Y⟩:=F.h z s X;rw[wU q.dr _ _ _ _ _ B fn ((A z).map .v) g1 g2];have t:ey S c (some u) q.dr (!q.dr||q.now) (dR q.st.m q.fr) fn ((A z).map .v) q.st=some (.own u,{ q.st with m:=bA q.st.m u (cn W) }):=by
  unfold ey;simp only[F.k,F.o,if_true,U,pg,hc,cV,Y,cn,G]
  cases s with
  | nil=>cases w;rfl
  | emp=>cases w;rfl
  | row l=>
   cases w;have:nQ (rows l)=true:=by
    unfold nQ;rw[List.all_eq_true];intro x Z;obtain⟨a,_,rfl⟩:=List.mem_map.1 Z;exact F.sc a
   simp only[Sl.k,Sl.l,cV,V.cF,this,Bool.and_self,G,if_true];rfl
  | part l=>cases w
 rw[t];rfl
end
structure GD where
 m:Nat
 pre:List (Nat×List Gh)
 nd:List (Nat×List Gh×List Gh)
structure GI where
 m:Nat
 i:Nat
 j:Nat
def Xi {α:Type} (l:a_ (Nat×a_ α)) (i:Nat):a_ α:=match l with
 | []=>[]
 | (k,x)::r=>bif Nat.beq k i then x else Xi r i
def xW (l:a_ (Nat×a_ Gh×a_ Gh)) (i:Nat):a_ Gh×a_ Gh:=match l with
 | []=>([],[])
 | (k,x)::r=>bif Nat.beq k i then x else xW r i
def Lp (m:Nat):a_ Nat->a_ Nat
 | []=>[]
 | x::l=>bif Nat.beq (m % 2) 1 then x::Lp (m / 2) l else Lp (m / 2) l
def P_:a_ Arg->a_ Nat
 | []=>[]
 | .s n::r=>n::P_ r
 | _::r=>P_ r
def Wh (o:RO):a_ Nat:=(match o.dst with|some d=>[d]|none=>[])++(match o.gd with|some g=>[g.1]|none=>[])++P_ o.az
def Xt (G:GD) (s:GI) (o:RO):RO:={ o with dead:=Lp (bif Nat.beq (s.m % 16) 15 then s.m / 16 % 65536 else s.m % 16) (Wh o),pre:=Xi G.pre s.i }
def GI.op (s:GI):GI:=⟨bif Nat.beq (s.m % 16) 15 then s.m / 1048576 else s.m / 16,s.i+1,s.j⟩
def zz (G:GD):a_ RO->GI->a_ RO×GI
 | [],s=>([],s)
 | o::r,s=>(Xt G s o::(zz G r s.op).1,(zz G r s.op).2)
def zG:a_ Gh->RC->RC
 | [],c=>c
 | g::l,c=>.gh g (zG l c)
def Gi:a_ Gh->RC->RC
 | [],c=>c
 | g::l,c=>Gi l (.hg c g)
def GI.nd (s:GI):GI:=⟨s.m,s.i,s.j+1⟩
def jb (G:GD):RC->GI->RC×GI
 | .seq a b,s=>(zG (xW G.nd s.j).1 (.seq (jb G a s.nd).1 (jb G b (jb G a s.nd).2).1),(jb G b (jb G a s.nd).2).2)
 | .cond x a b,s=>(zG (xW G.nd s.j).1 (.cond x (jb G a s.nd).1 (jb G b (jb G a s.nd).2).1),(jb G b (jb G a s.nd).2).2)
 | .block id a,s=>(zG (xW G.nd s.j).1 (.block id (jb G a s.nd).1),(jb G a s.nd).2)
 | .loop a,s=>(zG (xW G.nd s.j).1 (.loop (Gi (xW G.nd s.j).2 (jb G a s.nd).1)),(jb G a s.nd).2)
 | .each g ps a b,s=>(zG (xW G.nd s.j).1 (.each g ps (jb G a s.nd).1 (Gi (xW G.nd s.j).2 (jb G b (jb G a s.nd).2).1)),(jb G b (jb G a s.nd).2).2)
 | .ops l,s=>(zG (xW G.nd s.j).1 (Gi (xW G.nd s.j).2 (.ops (zz G l s.nd).1)),(zz G l s.nd).2)
 | .sV l,s=>(zG (xW G.nd s.j).1 (Gi (xW G.nd s.j).2 (.sV (zz G l s.nd).1)),(zz G l s.nd).2)
 | .gh g c,s=>(.gh g c,s)
 | .hg c g,s=>(.hg c g,s)
 | c,s=>(zG (xW G.nd s.j).1 c,s.nd)
theorem kj (c:RC):∀l,erase (zG l c)=erase c
 | []=>rfl
 | g::l=>by simp only[zG,erase,kj c l]
theorem um:∀l (c:RC),erase (Gi l c)=erase c
 | [],c=>rfl
 | g::l,c=>by simp only[Gi,um l,erase]
theorem yJ (G:GD):∀(l:a_ RO) s,((zz G l s).1).map RO.strip=l.map RO.strip
 | [],s=>rfl
 | o::r,s=>by simp only[zz,List.map_cons,yJ G r];rfl
theorem kW (G:GD):∀(c:RC) s,erase (jb G c s).1=erase c
 | .seq a b,s=>by simp only[jb,kj,erase,kW G a,kW G b]
 | .cond x a b,s=>by simp only[jb,kj,erase,kW G a,kW G b]
 | .block id a,s=>by simp only[jb,kj,erase,kW G a]
 | .loop a,s=>by simp only[jb,kj,erase,um,kW G a]
 | .each g ps a b,s=>by simp only[jb,kj,erase,um,kW G a,kW G b]
 | .ops l,s=>by simp only[jb,kj,um,erase,yJ]
 | .sV l,s=>by simp only[jb,kj,um,erase,yJ]
 | .gh g c,s=>rfl
 | .hg c g,s=>rfl
 | .skip,s=>by simp only[jb,kj]
 | .ret,s=>by simp only[jb,kj]
 | .exit _,s=>by simp only[jb,kj]
theorem Jk {X:CX} {dr:Bool} {ops:a_ Oper} {i:Nat} {o:Oper} {r:RO} (h:lZ X dr ops i o=some r):r.strip=r:=by
 obtain⟨_,_,_,_,_,_,rfl⟩:=CH h;rfl
theorem xu {X:CX} {dr:Bool} {ops:a_ Oper}:∀{l:a_ Oper} {i:Nat} {r:a_ RO},kF X dr ops i l=some r->r.map RO.strip=r
 | [],i,r,h=>by cases h;rfl
 | o::l,i,r,h=>by
  simp only[kF]at h;split at h
  next a b u B=>cases h;simp only[List.map_cons,Jk u,xu B]
  cases h
theorem IP {X:CX}:∀{c:Code} {ro:Bool} {r:RC},bK X ro c=some r->erase r=r:=by
 intro c
 induction c with
 | region _ ops dr=>
  intro ro r h;simp only[bK]at h;split at h
  .split at h
   .obtain⟨l,h1,rfl⟩:=ζf.1 h;simp only[erase,xu h1]
   cases h
  obtain⟨l,h1,rfl⟩:=ζf.1 h;simp only[erase,xu h1]
 | seq a b t u=>
  intro ro r h;simp only[bK]at h;split at h
  next h1 w=>cases h;simp only[erase,t h1,u w]
  cases h
 | cond c a b t u=>
  intro ro r h;simp only[bK]at h;split at h
  next h1 w=>cases h;simp only[erase,t h1,u w]
  cases h
 | block id a t=>
  intro ro r h;simp only[bK]at h;obtain⟨l,h1,rfl⟩:=ζf.1 h;simp only[erase,t h1]
 | loop a t=>
  intro ro r h;simp only[bK]at h;obtain⟨l,h1,rfl⟩:=ζf.1 h;simp only[erase,t h1]
 | rangeFunc g z a b t u=>
  intro ro r h;simp only[bK]at h;split at h
  .cases h
  split at h
  next h1 w=>cases h;simp only[erase,t h1,u w]
  cases h
 | _=>intro ro r h;first|cases h;rfl|(simp only[bK]at h;cases h;rfl)|(simp only[bK]at h;cases h)
def OK (E:Env) (nm:FuncId->bf Nat) (G:FuncId->bf GD):pe:=λf=>
 (G f).bind λg=>(E.ft f).bind λt=>(bK ⟨E,nm,t.ntmps⟩ false t.body).bind λc=>(t.results.mapM (A1 E)).bind λrs=>some ⟨t.ntmps,rs,(jb g c ⟨g.m,0,0⟩).1⟩
theorem PO {E:Env} {nm:FuncId->bf Nat} {G:FuncId->bf GD} {f:FuncId} {rf:RF} (h:OK E nm G f=some rf):∃fi,E.ft f=some fi/\yS E nm fi rf:=by
 unfold OK at h;obtain⟨g,_,h⟩:=ζg.1 h;obtain⟨fi,h1,h⟩:=ζg.1 h;obtain⟨c,t,h⟩:=ζg.1 h;obtain⟨rs,u,h⟩:=ζg.1 h;cases h;exact⟨fi,h1,by rw[t,kW,IP t],u,rfl⟩
theorem D6:∀(g:FuncId) (s:Nat),some g=some s->(λn=>n) s=g:=λ_ _ h=>(Option.some.inj h).symm
def qz (o:bf RF):RF:=o.getD ⟨0,[],.skip⟩
def tb (T:pe) (f:FuncId):RC:=(qz (T f)).body
def tr (T:pe) (f:FuncId):a_ RV:=(qz (T f)).rs
theorem zW {o:bf RF} (h:o.isSome=true):o=some (qz o):=by cases o with
 | none=>cases h
 | some r=>rfl
class gJ (δ:Type) where
 e:δ->List V
instance Yd {α:Type} [bz α]:gJ α:=⟨λx=>[enc x]⟩
instance Ye:gJ Unit:=⟨λ_=>[]⟩
instance Yg {α β:Type} [bz α] [gJ β]:gJ (α×β):=⟨λx=>enc x.1::gJ.e x.2⟩
@[simp] theorem XQ {α:Type} [bz α] (x:α):gJ.e x=[enc x]:=rfl
@[simp] theorem XO (x:Unit):gJ.e x=[]:=rfl
@[simp] theorem XN {α β:Type} [bz α] [gJ β] (x:α×β):gJ.e x=enc x.1::gJ.e x.2:=rfl
class Fc (S:Sys) (c:bU) {δ:Type} (m:Option δ) where
 n:FuncId
 az:List V
 E:δ->List V
 sc:Bool
 F:l8 S c n (λ_:Unit=>az) E (λ_=>m) sc
section
variable {S:Sys} {T:pe} {δ:Type} {m:bf δ}
theorem l8.Qb {E:δ->a_ V} (fn:FuncId) (az:a_ V) (h:Le (m.bind λr=>some (E r)) (bX S (dc S T) (ql (tr T fn)) (.rc (tb T fn),[],start (az.map .v) [])))
 (u:(T fn).isSome=true) (hk:S.E.keep fn=false) (B:Nat.ble az.length (qz (T fn)).na=true)
 {sc:Bool} (s:sc=true->∀r,(result (E r)).scalar=true):l8 S (dc S T) fn (λ_:Unit=>az) E (λ_=>m) sc where
 k:=hk
 h z:=Xq (zW u) (Nat.le_of_ble_eq_true B) h
 s:=s
abbrev Fc.NE (E:δ->a_ V) (fn:FuncId) (az:a_ V) (h:Le (m.bind λr=>some (E r)) (bX S (dc S T) (ql (tr T fn)) (.rc (tb T fn),[],start (az.map .v) [])))
 (u:(T fn).isSome=true:=by kernel_rfl) (hk:S.E.keep fn=false:=by kernel_rfl) (B:Nat.ble az.length (qz (T fn)).na=true:=by kernel_rfl)
 : Fc S (dc S T) m:=
 ⟨fn,az,E,false,l8.Qb fn az h u hk B λh=>nomatch h⟩
abbrev Fc.M [gJ δ] (fn:FuncId) (az:a_ V) (h:Le (m.bind λr=>some (gJ.e r)) (bX S (dc S T) (ql (tr T fn)) (.rc (tb T fn),[],start (az.map .v) [])))
 (u:(T fn).isSome=true:=by kernel_rfl) (hk:S.E.keep fn=false:=by kernel_rfl) (B:Nat.ble az.length (qz (T fn)).na=true:=by kernel_rfl)
 (s:∀r:δ,(result (gJ.e r)).scalar=true:=by intro r;kernel_rfl):Fc S (dc S T) m:=
 ⟨fn,az,gJ.e,true,l8.Qb fn az h u hk B λ_=>s⟩
abbrev Fc.N [gJ δ] (fn:FuncId) (az:a_ V) (h:Le (m.bind λr=>some (gJ.e r)) (bX S (dc S T) (ql (tr T fn)) (.rc (tb T fn),[],start (az.map .v) [])))
 (u:(T fn).isSome=true:=by kernel_rfl) (hk:S.E.keep fn=false:=by kernel_rfl) (B:Nat.ble az.length (qz (T fn)).na=true:=by kernel_rfl)
 : Fc S (dc S T) m:=
 ⟨fn,az,gJ.e,false,l8.Qb fn az h u hk B λh=>nomatch h⟩
end
abbrev Fc.of {S:Sys} {c:bU} {α δ:Type} {p:α->bf δ} {n:FuncId} {A:α->a_ V} {E:δ->a_ V} {b:Bool} (z:α) (F:l8 S c n A E p b):Fc S c (p z):=⟨n,A z,E,b,⟨F.k,λ_=>F.h z,F.s⟩⟩
theorem l8.rM {S:Sys} {c:bU} {α δ:Type} {p:α->bf δ} {n:FuncId} {A:α->a_ V} {E:δ->a_ V} {b:Bool} (F:∀z,Fc S c (p z)) (i:α) (u:∀z,(F z).n=n) (D:∀z,(F z).az=A z) (B:∀z,(F z).E=E) (G:∀z,(F z).sc=b):l8 S c n A E p b where
 k:=by rw[<-u i];exact(F i).F.k
 h z:=by rw[<-u z,<-D z,<-B z];exact(F z).F.h ()
 s:=by rw[<-G i,<-B i];exact(F i).F.s
theorem kG.rM {S:Sys} {c:bU} {α δ:Type} {p:α->bf δ} {g:FuncId} {w e:a_ V} {A:α->a_ V} {R:δ->a_ V} {b:Bool} [i:Inhabited α] [F:∀z,Fc S c (p z)] (u:∀z,(F z).n=g:=by intro _;kernel_rfl) (B:∀z,(F z).az=w++A z++e:=by intro _;kernel_rfl)
 (D:∀z,(F z).E=R:=by intro _;kernel_rfl) (G:∀z,(F z).sc=b:=by intro _;kernel_rfl):kG S c g w e A R p b:=
 ⟨l8.rM F default u B D G⟩
section
variable {S:Sys} {c:bU} {β γ δ α:Type} {Q:Out×St->bf β} {e:γ->bf β} {cf:Cf}
theorem zp (n:Nat) {m:bf β} (h:Le m (bX S c Q (iD S c n cf))) (u:fL S c n cf.1 cf.2.1 cf.2.2=some (iD S c n cf):=by kernel_rfl):Le m (bX S c Q cf):=zU u h
theorem bC (n:Nat) {m:bf δ} [F:Fc S c m] {f:δ->bf γ} (h:∀x,m=some x->Le ((f x).bind e) (bX S c Q (nx S c n cf λp=>cZ p.st p.d (.v (result (F.E x))))))
 (u:(fJ S c n cf).map (λp=>(p.k,(bV S.N p.st.g p.az).bind k_,(!p.dr||p.now||dR p.st.m p.fr [])))=some (.c,some (F.n,F.az.map .v),true):=by kernel_rfl):Le ((m.bind f).bind e) (bX S c Q cf):=wX n F.F () h u
theorem jT (n:Nat) {m:bf δ} [F:Fc S c m] {f:δ->bf γ} (h:∀x,m=some x->Le ((f x).bind e) (bX S c Q (nx S c n cf λp=>cZ p.st p.d (.v (result (F.E x))))))
 (u:(fJ S c n cf).map (λp=>(p.k,((bV S.N p.st.g p.az).bind k_).bind λq=>(nS (iV p.st.m 8) q.2).map λvs=>(q.1,vs,((!p.dr||p.now)||dR p.st.m p.fr q.2))))=some (.c,some (F.n,F.az,true)):=by kernel_rfl) (B:F.sc=true:=by kernel_rfl):Le ((m.bind f).bind e) (bX S c Q cf):=
 U6 n (t B F.F) () h u
where
 t {b:Bool} {fn:FuncId} {az:a_ V} {E:δ->a_ V} {m:bf δ} (h:b=true) (F:l8 S c fn (λ_:Unit=>az) E (λ_=>m) b):l8 S c fn (λ_:Unit=>az) E (λ_=>m) true:=h▸F
def JA (cf:Cf):RC:=match cf.1 with|.rc (.loop c)=>c|_=>.skip
def Da (cf:Cf):Arg×a_ Nat×RC×RC:=match cf.1 with|.rc (.each g t a b)=>(g,t,a,b)|_=>(.s 0,[],.skip,.skip)
theorem dw {σ ε ρ:Type} {step:σ->bf (Fw σ ε ρ)} (n:Nat) (eσ:σ->St) (eε:ε->Nat×St) (eρ:ρ->St) {s:σ} {u:ε->bf γ} {fr:ρ->bf γ}
 (h:∀s,Le ((step s).bind λw=>some (Fw.out eσ eε eρ w)) (bX S c some (.rc (JA (iD S c n cf)),[],eσ s)))
 (B:∀x,Le ((u x).bind e) (bX S c Q (.ex (eε x).1,(iD S c n cf).2.1,(eε x).2))) (hr:∀b,Le ((fr b).bind e) (Q (.ret,eρ b)))
 (D:fL S c n cf.1 cf.2.1 cf.2.2=some (.rc (.loop (JA (iD S c n cf))),(iD S c n cf).2.1,eσ s):=by kernel_rfl):Le (((bM step s).bind (Fw.elim u fr)).bind e) (bX S c Q cf):=
 HO D h B hr
theorem je {σ ε:Type} {step:σ->bf (Fw σ ε Empty)} (n:Nat) (eσ:σ->St) (eε:ε->Nat×St) {s:σ} {u:ε->bf γ} {fr:Empty->bf γ}
 (h:∀s,Le ((step s).bind λw=>some (Fw.out eσ eε (λe=>Empty.elim e) w)) (bX S c some (.rc (JA (iD S c n cf)),[],eσ s)))
 (B:∀x,Le ((u x).bind e) (bX S c Q (.ex (eε x).1,(iD S c n cf).2.1,(eε x).2)))
 (D:fL S c n cf.1 cf.2.1 cf.2.2=some (.rc (.loop (JA (iD S c n cf))),(iD S c n cf).2.1,eσ s):=by kernel_rfl):Le (((bM step s).bind (Fw.elim u fr)).bind e) (bX S c Q cf):=
 HO D h B λb=>Empty.elim b
theorem VC {σ ρ:Type} {step:σ->bf (Fw σ Empty ρ)} (n:Nat) (eσ:σ->St) (eρ:ρ->St) {s:σ} {u:Empty->bf γ} {fr:ρ->bf γ}
 (h:∀s,Le ((step s).bind λw=>some (Fw.out eσ (λe=>Empty.elim e) eρ w)) (bX S c some (.rc (JA (iD S c n cf)),[],eσ s)))
 (hr:∀b,Le ((fr b).bind e) (Q (.ret,eρ b)))
 (B:fL S c n cf.1 cf.2.1 cf.2.2=some (.rc (.loop (JA (iD S c n cf))),(iD S c n cf).2.1,eσ s):=by kernel_rfl):Le (((bM step s).bind (Fw.elim u fr)).bind e) (bX S c Q cf):=
 HO B h (λx=>Empty.elim x) hr
theorem F_ {σ ε ρ:Type} {f:FuncId} {x y:a_ V} {items:a_ α} {eI:α->a_ V} {step:α->σ->bf (Fw σ ε ρ)} (n:Nat) (gt:Tb SV) (eσ:σ->Tb bu) (eε:ε->Nat×Tb bu) (eρ:ρ->Tb bu) {s:σ} {fn:σ->bf γ} {u:ε->bf γ} {fr:ρ->bf γ}
 (B:S.items f x y=some (items.map eI))
 (h:∀x s,Le ((step x s).bind λw=>some (Fw.vL eσ eε eρ w)) (bX S c (yF S c (Da (iD S c n cf)).2.2.2) (.rc (Da (iD S c n cf)).2.2.1,[],⟨wG gt (Da (iD S c n cf)).2.1 ((eI x).map .v),eσ s,pJ gt,[],true,0⟩)))
 (D:∀s,Le ((fn s).bind e) (bX S c Q (.nx,(iD S c n cf).2.1,bF gt (eσ s)))) (G:∀x,Le ((u x).bind e) (bX S c Q (.ex (eε x).1,(iD S c n cf).2.1,bF gt (eε x).2))) (hr:∀b,Le ((fr b).bind e) (Q (.ret,bF gt (eρ b))))
 (J:∀x,(eI x).length=(Da (iD S c n cf)).2.1.length:=by intro _;kernel_rfl) (hg:qj S.N gt (Da (iD S c n cf)).1=some (.v (.clo f x y)):=by kernel_rfl)
 (O:fL S c n cf.1 cf.2.1 cf.2.2=some (.rc (.each (Da (iD S c n cf)).1 (Da (iD S c n cf)).2.1 (Da (iD S c n cf)).2.2.1 (Da (iD S c n cf)).2.2.2),(iD S c n cf).2.1,bF gt (eσ s)):=by kernel_rfl):Le (((nV step items s).bind (Fw.wN fn u fr)).bind e) (bX S c Q cf):=
 Vt O hg B J h D G hr
def VG (n k:Nat) (u:a_ Nat) (d:Nat) (S:Sys) (c:bU) (cf:Cf) (v:SV):Cf:=jmp k [] (iD S c n cf) { (iD S c n cf).2.2 with g:=bA (oO u (iD S c n cf).2.2.g) d v }
theorem bZ [bz δ] (n k:Nat) (u:a_ Nat) (d:Nat) {m:bf δ} {f:δ->bf γ} (B:Le (m.bind λr=>bX S c Q (VG n k u d S c cf (cv r))) (bX S c Q cf))
 (h1:∀r,Le ((f r).bind e) (bX S c Q (VG n k u d S c cf (cv r)))):Le ((m.bind f).bind e) (bX S c Q cf):=Rg _ B h1
end
theorem Yl {α β:Type} {P:α ⊕ β->Prop} (h1:∀a,P (.inl a)) (u:∀b,P (.inr b)):∀x,P x
 | .inl a=>h1 a
 | .inr b=>u b
instance {n:Nat}:DecidableEq (bP n Int):=λa b=>if h:a.l=b.l then .isTrue (by cases a;cases b;cases h;rfl)else .isFalse λe=>h (by rw[e])
theorem vu:∀l:a_ Int,gZ ((l.map (cells (α:=Int))).flatten)=some l
 | []=>rfl
 | a::l=>by
  show gZ (.int .i64 a::(l.map (cells (α:=Int))).flatten)=_;simp only[gZ,vu l,Option.map_some]
theorem Et (l:a_ Int):(l.map (cells (α:=Int))).flatten=l.map (V.int .i64):=by
 induction l with
 | nil=>rfl
 | cons a l t=>simp only[List.map_cons,List.flatten_cons,t];rfl
instance {n:Nat}:Key (bP n Int) where
 kk:=.ints n
 ok a:=by
  show ((a.l.map (cells (α:=Int))).flatten.length==n&&(gZ (a.l.map (cells (α:=Int))).flatten).isSome)=true;rw[vu,Et,List.length_map,a.len];simp
 eq a b:=by
  show kg (a.l.map (cells (α:=Int))).flatten (b.l.map (cells (α:=Int))).flatten=_;unfold kg;rw[vu,vu];simp only[a.len,b.len,if_true]
  congr 1
  rw[Bool.eq_iff_iff,beq_iff_eq,decide_eq_true_iff];exact⟨λh=>by cases a;cases b;cases h;rfl,λh=>by rw[h]⟩
def sQ (n:Nat) (s:Sl Int):bP n Int:=⟨vn n s.l,by unfold vn;simp;omega⟩
theorem w6:∀l:a_ Int,p8 (l.map (cells (α:=Int)))=some l
 | []=>rfl
 | a::l=>by
  show p8 ([.int .i64 a]::l.map (cells (α:=Int)))=_;simp only[p8,w6 l,Option.map_some]
theorem PA (n:Nat) (s:Sl Int):uX n [enc s]=some (enc (sQ n s)):=by
 have e:enc (sQ n s)=.agg (yU n s.l):=by
  show V.agg ((sQ n s).l.map (cells (α:=Int))).flatten=_;rw[Et];rfl
 rw[e]
 cases s with
 | nil=>rfl
 | emp=>rfl
 | row l=>
  show ((p8 (l.map (cells (α:=Int)))).map λl=>V.agg (yU n l))=_
  rw[w6];rfl
 | part l=>
  show ((p8 (l.map (cells (α:=Int)))).map λl=>V.agg (yU n l))=_
  rw[w6];rfl
theorem Nr {E:Env} {f:FuncId} {az:a_ V} {y:V} (u:V.good y=true) (h:∃n H',run E n (.fn f) az []=some (y,H')):zC E f az y:=by
 obtain⟨n,H',h⟩:=h;exact⟨n,y,H',λ_=>False,h,.same _ u,λ_ h=>h.elim,⟨λ_ _ _ h=>h.elim⟩⟩
theorem MF {E:Env} {f:FuncId} {az:a_ V} {y:V} (h1:E.ft f=none) (u:E.sort f=false) (B:E.known f az=some y):run E 1 (.fn f) az []=some (y,[]):=by
 simp only[run,iR,h1,u,B];rfl
theorem Sf {E:Env} {f n:Nat} (h1:E.ft f=none) (u:E.sort f=false) (B:∀az,E.known f az=uX n az) (s:Sl Int):zC E f [enc s] (enc (sQ n s)):=
 Nr (lF _) ⟨1,[],MF h1 u (by rw[B,PA])⟩
def yO (m:Tb bu):SV->Bool
 | .v _|.agg _=>true
 | x=>kI m x
def nM:SV->a_ SV
 | .v x=>x.cells.map .v
 | .agg l=>l
 | x=>[x]
def A6 (cells:a_ SV):a_ (Nat×Nat)->a_ SV->bf (a_ SV)
 | [],[]=>some cells
 | (off,size)::pl,v::vs=>if(nM v).length=size/\off+(nM v).length<=cells.length then A6 (cells.take off++nM v++cells.drop (off+(nM v).length)) pl vs else none
 | _,_=>none
theorem ND (cells:a_ SV):A6 cells [] []=some cells:=rfl
theorem C7 (cells:a_ SV) (off size:Nat) (pl:a_ (Nat×Nat)) (v:SV) (vs:a_ SV):A6 cells ((off,size)::pl) (v::vs) =
 if(nM v).length=size/\off+(nM v).length<=cells.length then A6 (cells.take off++nM v++cells.drop (off+(nM v).length)) pl vs else none:=rfl
theorem OO (x:V):nM (.v x)=x.cells.map .v:=rfl
theorem KU (d:Nat):nM (.own d)=[.own d]:=rfl
theorem MO (d:Nat):nM (.mp d)=[.mp d]:=rfl
theorem LR (d o:Nat):nM (.ptr d o)=[.ptr d o]:=rfl
theorem Ph {m:Tb bu} {v:SV} (h:yO m v=true):xI m v=some (nM v):=by
 cases v <;> first|rfl|(unfold xI;exact if_pos h)|(simp[yO,kI]at h)
theorem J6 {m:Tb bu}:∀{pl:a_ (Nat×Nat)} {vs cells l:a_ SV},vs.all (yO m)=true->A6 cells pl vs=some l->rU m cells pl vs=some l
 | [],[],_,_,_,h=>h
 | [],_::_,_,_,_,h=>by cases h
 | _::_,[],_,_,_,h=>by cases h
 | (off,size)::pl,v::vs,cells,l,u,h=>by
  rw[List.all_cons,ζh]at u;rw[C7]at h;show (match xI m v with|some c=>if c.length=size/\off+c.length<=cells.length then rU m (cells.take off++c++cells.drop (off+c.length)) pl vs else none|none=>none)=some l
  rw[Ph u.1];simp only;split at h
  next hc=>rw[if_pos hc];exact J6 u.2 h
  cases h
def B5:SV->Bool
 | .v x=>x.one
 | .agg _=>false
 | _=>true
theorem Oa (x:V):B5 (.v x)=x.one:=rfl
theorem GK (d:Nat):B5 (.own d)=true:=rfl
theorem JN (d:Nat):B5 (.mp d)=true:=rfl
theorem G9 (d o:Nat):B5 (.ptr d o)=true:=rfl
theorem DL {m:Tb bu}:∀{l:a_ SV},l.all B5=true->l.all (yO m)=true->l.all (wq m)=true
 | [],_,_=>rfl
 | x::l,h,k=>by
  rw[List.all_cons,ζh]at h k ⊢;refine⟨?_,DL h.2 k.2⟩;cases x <;> first|exact h.1|exact k.1|(have:=h.1;cases this)
section
variable {S:Sys} {c:bU} {β γ δ α:Type} {Q:Out×St->bf β} {e:γ->bf β} {cf:Cf}
theorem NZ {N:Nat->FuncId} {m:Tb bu} {z:a_ V} {pl:a_ (Nat×Nat)} {svs l:a_ SV} (u:(cV svs).isNone=true) (h:rU m (z.map .v) pl svs=some l):jl N m (.build z pl) svs=some (.agg l):=by
 unfold jl
 cases hv:cV svs with
 | some x=>rw[hv]at u;cases u
 | none=>
  have:wW N m (.build z pl) svs=(rU m (z.map .v) pl svs).map .agg:=by
   unfold wW;split <;> first|contradiction|(rename_i e _;cases e;rfl)|simp_all
  simp only[this,h,Option.map_some]
theorem Wr (n:Nat) (svs l:a_ SV) (z:a_ V) (pl:a_ (Nat×Nat)) {m:bf β} (u:A6 (z.map .v) pl svs=some l) (h:Le m (bX S c Q (nx S c n cf λp=>cZ p.st p.d (.agg l))))
 (B:(fJ S c n cf).map (λp=>(p.k,bV S.N p.st.g p.az,(cV svs).isNone,svs.all (yO p.st.m)))=some (.p (.build z pl),some svs,true,true):=by kernel_rfl):Le m (bX S c Q cf):=by
 obtain⟨p,t,hv⟩:=eE B;simp only[ζc]at hv;refine uR t ?_ h;rw[hv.1];exact B8 hv.2.1 rfl (NZ hv.2.2.1 (J6 hv.2.2.2 u))
theorem Xo (n u o:Nat) (l:a_ SV) {m:bf β} (B:l.all B5=true) (h:Le m (bX S c Q (nx S c n cf (Rq u o l.length l))))
 (D:(fJ S c n cf).map (λp=>(p.k,bV S.N p.st.g p.az,(!p.dr||p.now),l.all (yO p.st.m),match bl p.st.m u with|some (.box cs)=>Nat.ble (o+l.length) cs.length|_=>false))=some (.l (.store l.length),some [.ptr u o,.agg l],true,true,true):=by kernel_rfl):Le m (bX S c Q cf):=by
 obtain⟨p,C,hv⟩:=eE D;simp only[ζc]at hv;refine uR C ?_ h;obtain⟨h1,G,I,J,t⟩:=hv;have w:=DL B J;split at t
 next cs z=>have L:=Nat.le_of_ble_eq_true t;rw[h1,r_,G];simp only[ζb,I,if_true,jC,z,putCells,w,L,and_self,Option.map_some,Rq]
 cases t
theorem Wt (n u:Nat) (l:a_ SV) {m:bf β} (B:l.all B5=true) (h:Le m (bX S c Q (nx S c n cf λp=>{ p.st with g:=bA p.st.g u (.ptr u 0),m:=bA p.st.m u (.box l) })))
 (D:(fJ S c n cf).map (λp=>(p.d,p.k,bV S.N p.st.g p.az,p.st.new u,l.all (yO p.st.m)))=some (some u,.a .box,some [.agg l],true,true):=by kernel_rfl):Le m (bX S c Q cf):=by
 obtain⟨p,t,hv⟩:=eE D;simp only[ζc]at hv;refine uR t ?_ h;rw[hv.1,hv.2.1,yR,hv.2.2.1];simp only[ζb,hv.2.2.2.1,if_true,mw,DL B hv.2.2.2.2]
end
section
variable {S:Sys} {c:bU} {β γ δ:Type} {Q:Out×St->bf β} {e:γ->bf β} {cf:Cf} {κ ν:Type} [bz κ] [DecidableEq κ] [Key κ] [bz ν]
structure Ue (κ ν:Type) where
 o:Option (Mo κ ν)
 deriving Inhabited
def VK (m:Ue κ ν):V:=match m.o with|none=>.gi|some l=>.fmap (nT l)
theorem NQ (m:Mo κ ν):V.sL (nT m)=true:=by
 induction m with
 | nil=>rfl
 | cons x r t=>show V.sL ((enc x.1,enc x.2)::nT r)=true;simp only[V.sL,lF,t,Bool.and_self]
instance:bz (Ue κ ν) where
 cells m:=[VK m]
 agg:=false
 size:=1
 len _:=rfl
 good m:=by
  unfold VK;split
  .rfl
  simp only[V.cQ,V.good,NQ,Bool.and_self]
 one m:=by unfold VK;split <;> rfl
 plain _:=rfl
theorem Ju (m:Ue κ ν):V.one (enc m)=true:=by obtain⟨o⟩:=m;cases o <;> rfl
end
theorem l8.scalar {S:Sys} {c:bU} {α δ:Type} {fn:FuncId} {A:α->a_ V} {E:δ->a_ V} {p:α->bf δ} {b:Bool} (F:l8 S c fn A E p b) (h:∀r,(result (E r)).scalar=true):l8 S c fn A E p true:=⟨F.k,F.h,λ_=>h⟩
theorem Bq:∀l:a_ Int,V.cF (l.map (cells (α:=Int))).flatten=true
 | []=>rfl
 | x::l=>by
  show V.cF (.int .i64 x::(l.map (cells (α:=Int))).flatten)=true;simp only[V.cF,V.scalar,Bq l,Bool.and_self]
theorem K9 {n:Nat} (a:bP n Int):(result [enc a]).scalar=true:=Bq a.l
section
variable {S:Sys} {c:bU} {β γ δ α:Type} [bz α] {Q:Out×St->bf β} {e:γ->bf β} {cf:Cf}
theorem RA {ω:Type} [bz ω] (n u:Nat) {N:Nat} (a:bP N α) (i:Int) (o:Nat) (x:α) (B:a.at i=some x) (y:α) (w:ω) (D:cells y=(cells x).take o++cells w++(cells x).drop (o+bz.size ω)) {m:bf β} (h:Le m (bX S c Q (nx S c n cf λp=>cZ { p.st with m:=bA p.st.m u (bx (a.set i y)) } p.d (.v .undef))))
 (G:(fJ S c n cf).map (λp=>(p.k,bV S.N p.st.g p.az,bl p.st.m u,(!p.dr||p.now),Nat.ble (o+bz.size ω) (bz.size α)))=some (.l (.store (bz.size ω)),some [.ptr u (i.toNat*bz.size α+o),cv w],some (bx a),true,true):=by kernel_rfl):Le m (bX S c Q cf):=by
 obtain⟨p,z,t⟩:=eE G;simp only[ζc]at t;obtain⟨h1,C⟩:=js z;obtain⟨dr,fr,d,gd,now,T,az,dd,l,fs,st⟩:=p;obtain⟨rfl,I,J,L,O⟩:=t;exact Wx n dr fr (⟨d,gd,now,.l (.store (bz.size ω)),az,dd,[]⟩::l) fs st u a i o x B y (enc w) (by rw[gT];exact D) rfl (by(try dsimp only at *);simp only[h1,C,I,J,L,O,gT,gH,tJ]) (by
  simp only[nx,z]at h;exact h)
end
def F9 (rs:a_ RV):Out×St->bf (bu×a_ V)
 | (.exit _,_)=>none
 | (_,st)=>(i_ st rs).bind λl=>match l with
  | .own d::r=>(bl st.m d).bind λob=>(cV r).map λys=>(ob,ys)
  | _=>none
theorem xL:∀{l:a_ SV} {ys:a_ V},cV l=some ys->l=ys.map .v
 | [],ys,h=>by cases h;rfl
 | .v x::r,ys,h=>by
  simp only[cV]at h;obtain⟨u,h1,rfl⟩:=ζf.1 h;rw[xL h1];rfl
 | .own _::_,_,h|.ptr ..::_,_,h|.el ..::_,_,h|.mp _::_,_,h|.clo ..::_,_,h|.tup _::_,_,h|.agg _::_,_,h|.yl _::_,_,h=>by cases h
theorem Xr {S:Sys} {c:bU} {rs:a_ RV} {rc:RC} {st:St} {ob:bu} {ys:a_ V} (h:jS S c (F9 rs) rc [] st=some (ob,ys)):∃o st' d,cw S c rc st=some (o,st')/\(∀id,o≠.exit id)/\i_ st' rs=some (.own d::ys.map .v)/\bl st'.m d=some ob:=by
 rw[ot]at h;obtain⟨⟨o,st'⟩,h1,t⟩:=ζg.1 h;have w:∀id,o≠.exit id:=by rintro id rfl;simp[F9]at t
 have z:(i_ st' rs).bind (λl=>match l with|.own d::r=>(bl st'.m d).bind λob=>(cV r).map λys=>(ob,ys)|_=>none)=some (ob,ys):=by
  cases o with
  | exit id=>exact absurd rfl (w id)
  | norm=>exact t
  | ret=>exact t
 obtain⟨l,B,u⟩:=ζg.1 z;split at u
 .obtain⟨C,D,G⟩:=ζg.1 u;obtain⟨L,I,J⟩:=ζf.1 G;cases J;exact⟨o,st',_,h1,w,by rw[B,xL I],D⟩
 cases u
structure W9 (S:Sys) (c:bU) {δ ε:Type} [bz δ] [gJ ε] (m:Option (Sl δ×ε)) where
 n:FuncId
 az:List V
 k:S.E.keep n=true
 o:S.E.own n=true
 h:∀s r,m=some (s,r)->∃e m',c n (az.map .v) []=some (.own e::(gJ.e r).map .v,m')/\bl m' e=some (cn s)
 sc:∀x:δ,(cells x).all V.scalar=true
 sr:∀r:ε,V.cF (gJ.e r)=true
abbrev W9.mk' {S:Sys} {T:pe} {δ ε:Type} [bz δ] [gJ ε] {m:bf (Sl δ×ε)} (fn:FuncId) (az:a_ V) (h:Le (m.bind λr=>some (cn r.1,gJ.e r.2)) (bX S (dc S T) (F9 (tr T fn)) (.rc (tb T fn),[],start (az.map .v) [])))
 (u:(T fn).isSome=true:=by kernel_rfl) (hk:S.E.keep fn=true:=by kernel_rfl) (B:S.E.own fn=true:=by kernel_rfl) (D:Nat.ble az.length (qz (T fn)).na=true:=by kernel_rfl)
 (sc:∀x:δ,(cells x).all V.scalar=true:=by intro x;rfl) (sr:∀r:ε,V.cF (gJ.e r)=true:=by intro r;rfl):W9 S (dc S T) m where
 n:=fn
 az:=az
 k:=hk
 o:=B
 sc:=sc
 sr:=sr
 h s r w:=by
  have t:=zW u;have h1:=h (cn s,gJ.e r) (by rw[w];rfl)
  change jS S (dc S T) (F9 (qz (T fn)).rs) (qz (T fn)).body [] (start (az.map .v) [])=some (cn s,gJ.e r)at h1;obtain⟨o,st',d,g1,g2,g3,g4⟩:=Xr h1;refine⟨d,st'.m,?_,g4⟩;rw[qT t];unfold mB;rw[if_pos (by simpa using Nat.le_of_ble_eq_true D),g1]
  cases o with
  | exit id=>exact absurd rfl (g2 id)
  | norm=>simp only[g3,Option.map_some]
  | ret=>simp only[g3,Option.map_some]
def VM {δ ε:Type} (p:Sl δ×ε):bf (Sl δ×ε):=p.1.whole.map λs=>(s,p.2)
section
variable {S:Sys} {c:bU} {β γ δ α:Type} {Q:Out×St->bf β} {e:γ->bf β} {cf:Cf}
end
def DT (rs:a_ RV) (u:a_ Nat):Out×St->bf (a_ V×c7)
 | (.exit _,_)=>none
 | (_,st)=>(i_ st rs).bind λl=>(cV l).bind λys=>(jr st.m u).map λos=>(ys,os)
theorem XR {S:Sys} {c:bU} {rs:a_ RV} {u:a_ Nat} {rc:RC} {st:St} {os:c7} {ys:a_ V} (h:jS S c (DT rs u) rc [] st=some (ys,os)):∃o st',cw S c rc st=some (o,st')/\(∀id,o≠.exit id)/\i_ st' rs=some (ys.map .v)/\jr st'.m u=some os:=by
 rw[ot]at h;obtain⟨⟨o,st'⟩,h1,t⟩:=ζg.1 h;have w:∀id,o≠.exit id:=by rintro id rfl;simp[DT]at t
 have z:(i_ st' rs).bind (λl=>(cV l).bind λys=>(jr st'.m u).map λos=>(ys,os))=some (ys,os):=by
  cases o with
  | exit id=>exact absurd rfl (w id)
  | norm=>exact t
  | ret=>exact t
 obtain⟨l,B,C⟩:=ζg.1 z;obtain⟨L,D,G⟩:=ζg.1 C;obtain⟨q,I,J⟩:=ζf.1 G;cases J;exact⟨o,st',h1,w,by rw[B,xL D],I⟩
def sx:Tb bu->c7->Tb bu
 | m,[]=>m
 | m,(d,ob)::r=>sx (bA m d ob) r
theorem He {m':c7} {B:a_ Nat}:∀{u:a_ Nat} {os m:c7},jr m' u=some os->(os.all λx=>within B x.2)=true->yI B m' u m=some (sx m os)
 | [],os,m,h,_=>by cases h;rfl
 | k::u,os,m,h,hp=>by
  simp only[jr]at h;split at h
  next v t h1 D=>cases h;simp only[List.all_cons,ζh]at hp;simp only[yI,h1,hp.1,if_true,sx];exact He D hp.2
  cases h
theorem back_eq {m':c7} {u:a_ Nat} {os m:c7} (h:jr m' u=some os) (hp:(os.all λx=>within u x.2)=true):lM m' u m=some (sx m os):=He h hp
structure qh (S:Sys) (c:bU) {δ:Type} (m:Option δ) where
 n:FuncId
 az:List SV
 os:c7
 E:δ->List V
 M:δ->c7
 k:S.E.keep n=true
 o:S.E.own n=false
 q:(S.prm n).isNone=true
 h:∀r,m=some r->∃m',c n az os=some ((E r).map .v,m')/\∀m0,lM m' (os.map (·.1)) m0=some (sx m0 (M r))
abbrev qh.mk' {S:Sys} {T:pe} {δ:Type} {m:bf δ} (fn:FuncId) (az:a_ SV) (os:c7) (E:δ->a_ V) (M:δ->c7) (h:Le (m.bind λr=>some (E r,M r)) (bX S (dc S T) (DT (tr T fn) (os.map (·.1))) (.rc (tb T fn),[],start az os)))
 (u:(T fn).isSome=true:=by kernel_rfl) (hk:S.E.keep fn=true:=by kernel_rfl) (B:S.E.own fn=false:=by kernel_rfl) (D:(S.prm fn).isNone=true:=by kernel_rfl) (G:Nat.ble az.length (qz (T fn)).na=true:=by kernel_rfl)
 (hp:∀r,((M r).all λx=>within (os.map (·.1)) x.2)=true:=by intro r;kernel_rfl):qh S (dc S T) m where
 n:=fn
 az:=az
 os:=os
 E:=E
 M:=M
 k:=hk
 o:=B
 q:=D
 h r hr:=by
  have t:=zW u;have h1:=h (E r,M r) (by rw[hr];rfl)
  change jS S (dc S T) (DT (qz (T fn)).rs (os.map (·.1))) (qz (T fn)).body [] (start az os)=some (E r,M r)at h1;obtain⟨o,st',g1,g2,g3,g4⟩:=XR h1;refine⟨st'.m,?_,λw=>back_eq g4 (hp r)⟩
  rw[qT t];unfold mB;rw[if_pos (Nat.le_of_ble_eq_true G),g1]
  cases o with
  | exit id=>exact absurd rfl (g2 id)
  | norm=>simp only[g3,Option.map_some]
  | ret=>simp only[g3,Option.map_some]
section
variable {S:Sys} {c:bU} {β γ δ:Type} {Q:Out×St->bf β} {e:γ->bf β} {cf:Cf}
theorem sK (n:Nat) {m:bf δ} (F:qh S c m) {f:δ->bf γ} (h:∀x,m=some x->Le ((f x).bind e) (bX S c Q (nx S c n cf λp=>cZ { p.st with m:=sx p.st.m (F.M x) } p.d (.v (result (F.E x))))))
 (B:(fJ S c n cf).map (λp=>(p.k,((bV S.N p.st.g p.az).bind k_).bind λq=>(handed p.st.m q.2).map λos=>(q.1,q.2,os),p.dr))=some (.c,some (F.n,F.az,F.os),false):=by kernel_rfl):Le ((m.bind f).bind e) (bX S c Q cf):=by
 obtain⟨p,w,hv⟩:=eE B;simp only[ζc]at hv;obtain⟨z,C,D⟩:=hv;obtain⟨q,g1,g2⟩:=ζg.1 C;obtain⟨t,g3,g4⟩:=ζg.1 g1;obtain⟨os,g5,g6⟩:=ζf.1 g2;simp only[ζc]at g6;obtain⟨e1,e2,rfl⟩:=g6;refine qx w ?_ h;rw[z,D,wU _ _ _ _ _ _ t q.1 q.2 g3 g4];intro y u;obtain⟨r,hr,u⟩:=ζg.1 u;cases u;obtain⟨m',k1,k2⟩:=F.h r hr;have G:S.prm F.n=none:=by
  have:=F.q
  cases I:S.prm F.n with
  | none=>rfl
  | some _=>rw[I]at this;cases this
 have:ey S c p.d false (!false||p.now) (dR p.st.m p.fr) q.1 q.2 p.st=some (.v (result (F.E r)),{ p.st with m:=sx p.st.m (F.M r) }):=by
  unfold ey;rw[e1,e2]at *;simp only[F.k,F.o,G,g5,k1,kL,k2,if_true,Bool.not_false,Bool.true_or,Bool.false_and,Bool.false_eq_true,if_false]
 rw[this];rfl
instance:Key ByteArray where
 kk:=.str
 ok _:=rfl
 eq a b:=by
  show some (a==b)=some (decide (a=b));rw[show (a==b)=decide (a=b)from Bool.eq_iff_iff.2 (by cases a;cases b;rename_i x y;show (x==y)=true↔_;simp)]
end
def KA (rs:a_ RV) (u:a_ Nat):Out×St->bf (bu×a_ V×c7)
 | (.exit _,_)=>none
 | (_,st)=>(i_ st rs).bind λl=>match l with
  | .own d::r=>if u.contains d then none else(bl st.m d).bind λob=>(cV r).bind λys=>(jr st.m u).map λos=>(ob,ys,os)
  | _=>none
theorem Yb {S:Sys} {c:bU} {rs:a_ RV} {u:a_ Nat} {rc:RC} {st:St} {ob:bu} {ys:a_ V} {os:c7} (h:jS S c (KA rs u) rc [] st=some (ob,ys,os)) :
 ∃o st' d,cw S c rc st=some (o,st')/\(∀id,o≠.exit id)/\i_ st' rs=some (.own d::ys.map .v)/\u.contains d=false/\bl st'.m d=some ob/\jr st'.m u=some os:=by
 rw[ot]at h;obtain⟨⟨o,st'⟩,h1,w⟩:=ζg.1 h;have C:∀id,o≠.exit id:=by rintro id rfl;simp[KA]at w
 have D:(i_ st' rs).bind (λl=>match l with|.own d::r=>if u.contains d then none else(bl st'.m d).bind λob=>(cV r).bind λys=>(jr st'.m u).map λos=>(ob,ys,os)|_=>none)=some (ob,ys,os):=by
  cases o with
  | exit id=>exact absurd rfl (C id)
  | norm=>exact w
  | ret=>exact w
 obtain⟨l,G,t⟩:=ζg.1 D;split at t
 .split at t
  .cases t
  rename_i hc;obtain⟨I,J,L⟩:=ζg.1 t;obtain⟨T,O,Q⟩:=ζg.1 L;obtain⟨q,z,B⟩:=ζf.1 Q;cases B;exact⟨o,st',_,h1,C,by rw[G,xL O],by simpa using hc,J,z⟩
 cases t
structure Xc (S:Sys) (c:bU) {δ ε:Type} [bz δ] [gJ ε] (m:Option (Sl δ×ε)) where
 n:FuncId
 az:List SV
 os:c7
 M:Sl δ×ε->c7
 k:S.E.keep n=true
 o:S.E.own n=false
 q:(S.prm n).isNone=true
 h:∀r,m=some r->∃e m',c n az os=some (.own e::(gJ.e r.2).map .v,m')/\bl m' e=some (cn r.1)/\(os.map (·.1)).contains e=false/\∀m0,lM m' (os.map (·.1)) m0=some (sx m0 (M r))
abbrev Xc.mk' {S:Sys} {T:pe} {δ ε:Type} [bz δ] [gJ ε] {m:bf (Sl δ×ε)} (fn:FuncId) (az:a_ SV) (os:c7) (M:Sl δ×ε->c7)
 (h:Le (m.bind λr=>some (cn r.1,gJ.e r.2,M r)) (bX S (dc S T) (KA (tr T fn) (os.map (·.1))) (.rc (tb T fn),[],start az os)))
 (u:(T fn).isSome=true:=by kernel_rfl) (hk:S.E.keep fn=true:=by kernel_rfl) (B:S.E.own fn=false:=by kernel_rfl) (D:(S.prm fn).isNone=true:=by kernel_rfl) (G:Nat.ble az.length (qz (T fn)).na=true:=by kernel_rfl)
 (hp:∀r,((M r).all λx=>within (os.map (·.1)) x.2)=true:=by intro r;kernel_rfl):Xc S (dc S T) m where
 n:=fn
 az:=az
 os:=os
 M:=M
 k:=hk
 o:=B
 q:=D
 h r hr:=by
  have t:=zW u;have h1:=h (cn r.1,gJ.e r.2,M r) (by rw[hr];rfl)
  change jS S (dc S T) (KA (qz (T fn)).rs (os.map (·.1))) (qz (T fn)).body [] (start az os)=some (cn r.1,gJ.e r.2,M r)at h1;obtain⟨o,st',d,g1,g2,g3,g4,g5,g6⟩:=Yb h1;refine⟨d,st'.m,?_,g5,g4,λw=>back_eq g6 (hp r)⟩
  rw[qT t];unfold mB;rw[if_pos (Nat.le_of_ble_eq_true G),g1]
  cases o with
  | exit id=>exact absurd rfl (g2 id)
  | norm=>simp only[g3,Option.map_some]
  | ret=>simp only[g3,Option.map_some]
section
variable {S:Sys} {c:bU} {β γ:Type} {Q:Out×St->bf β} {e:γ->bf β} {cf:Cf}
end
structure Ul (S:Sys) (c:bU) {α δ:Type} [bz δ] (fn:FuncId) (A:α->List V) (p:α->Option (Sl δ)):Prop where
 k:S.E.keep fn=true
 o:S.E.own fn=false
 q:(S.prm fn).isNone=true
 h:∀z s,p z=some s->∃e m',c fn ((A z).map .v) []=some ([.own e],m')/\bl m' e=some (cn s)
theorem Ul.mk' {S:Sys} {T:pe} {α δ:Type} [bz δ] (rf:RF) {fn:FuncId} {A:α->a_ V} {p:α->bf (Sl δ)} (h:∀z,Le ((p z).bind λr=>some (cn r)) (bX S (dc S T) (DU rf.rs) (.rc rf.body,[],start ((A z).map .v) [])))
 (u:T fn=some rf:=by kernel_rfl) (hk:S.E.keep fn=true:=by kernel_rfl) (B:S.E.own fn=false:=by kernel_rfl) (D:(S.prm fn).isNone=true:=by kernel_rfl) (G:∀z,(A z).length<=rf.na:=by intro z;exact Nat.le_of_ble_eq_true (by kernel_rfl)):Ul S (dc S T) fn A p where
 k:=hk
 o:=B
 q:=D
 h z s t:=by
  have h1:=h z (cn s) (by rw[t];rfl)
  change jS S (dc S T) (DU rf.rs) rf.body [] (start ((A z).map .v) [])=some (cn s)at h1;obtain⟨o,st',d,g1,g2,g3,g4⟩:=Xg h1;refine⟨d,st'.m,?_,g4⟩;rw[qT u];unfold mB;rw[if_pos (by simpa using G z),g1]
  cases o with
  | exit id=>exact absurd rfl (g2 id)
  | norm=>simp only[g3,Option.map_some]
  | ret=>simp only[g3,Option.map_some]
theorem Gd:∀l:a_ V,SV.rm (l.map .v)=[]
 | []=>rfl
 | a::l=>by simp only[List.map_cons,SV.rm,SV.zc,Gd l,List.append_nil]
theorem LV {m:Tb bu} (l:a_ V):handed m (l.map .v)=some []:=by
 unfold handed;rw[Gd];rfl
section
variable {S:Sys} {c:bU} {β γ δ α:Type} [bz δ] {Q:Out×St->bf β} {e:γ->bf β} {cf:Cf}
end
section
variable {S:Sys} {c:bU} {β γ δ:Type} {Q:Out×St->bf β} {e:γ->bf β} {cf:Cf}
end
def XI {α δ:Type} (b:(α->bf δ)->α->bf δ):Nat->α->bf δ
 | 0,_=>none
 | n+1,z=>b (XI b n) z
structure Xy (S:Sys) (c:bU) {α δ:Type} (fn:FuncId) (A:α->List SV) (O:α->c7) (E:δ->List V) (M:α->δ->c7) (p:α->Option δ):Prop where
 k:S.E.keep fn=true
 o:S.E.own fn=false
 q:(S.prm fn).isNone=true
 h:∀z r,p z=some r->∃m',c fn (A z) (O z)=some ((E r).map .v,m')/\∀m0,lM m' ((O z).map (·.1)) m0=some (sx m0 (M z r))
abbrev qh.of {S:Sys} {c:bU} {α δ:Type} {fn:FuncId} {A:α->a_ SV} {O:α->c7} {E:δ->a_ V} {M:α->δ->c7} {p:α->bf δ} (z:α) (F:Xy S c fn A O E M p):qh S c (p z):=⟨fn,A z,O z,E,M z,F.k,F.o,F.q,F.h z⟩
structure y8 (S:Sys) (c:bU) {α σ:Type} [bz α] (cl:SV) (g:FuncId) (e:List SV) (os:σ->c7) (p:α->σ->Option (Bool×σ)):Prop where
 cs:∀vs,k_ (cl::vs)=some (g,vs++e)
 hd:∀(s:σ) (a:V),handed (os s) [.v a,cl]=some (os s)
 tk:∀s s',jr (os s') ((os s).map (·.1))=some (os s')
 wi:∀s s',((os s').all λx=>within ((os s).map (·.1)) x.2)=true
 put:∀s s',sx (os s) (os s')=os s'
 h:∀x s r,p x s=some r->∀(dst:Option Nat) (old:List SV->Bool) (st:St),st.m=os s->ey S c dst false true old g (.v (enc x)::e) st=some (.v (.bool r.1),{ st with m:=os r.2 })
section
variable {S:Sys} {c:bU} {α σ:Type} [bz α] {g:FuncId}
theorem y8.X7 {e:a_ V} {p:α->bf Bool} (F:kG S c g [] e (λz:α=>[enc z]) (λr:Bool=>[.bool r]) p true):y8 S c (.v (.clo g [] e)) g (e.map .v) (λ_:Unit=>[]) (λx u=>(p x).map λb=>(b,u)) where
 cs vs:=rfl
 hd s a:=LV [a,.clo g [] e]
 tk _ _:=rfl
 wi _ _:=rfl
 put _ _:=rfl
 h x s r hr dst B st t:=by
  obtain⟨b,C,rfl⟩:=ζf.1 hr;have w:lW c g (enc x::e)=some [.bool b]:=F.f.h x [.bool b] (by rw[C];rfl)
  have e1:{ st with m:=([]:c7) }=st:=by
   cases st;simp only at t;subst t;rfl
  rw[e1];unfold lW at w;obtain⟨⟨rs,m'⟩,h1,D⟩:=ζg.1 w;have hk:=F.f.k;unfold ey;have G:cO st.m 8 (.v (enc x)::e.map .v)=some (enc x::e):=pg 8 (enc x::e);simp only[hk,G,h1,D,Bool.false_eq_true,if_false,Bool.true_or,if_true,result,V.scalar]
theorem y8.XZ {e:a_ SV} {os:σ->c7} {p:α->σ->bf (Bool×σ)} [Inhabited α] [Inhabited σ] (F:∀x s,qh S c (p x s)) (D:∀x s,(F x s).n=g:=by intro _ _;kernel_rfl) (G:∀x s,(F x s).az=.v (enc x)::e:=by intro _ _;kernel_rfl) (B:∀x s,(F x s).os=os s:=by intro _ _;kernel_rfl)
 (J:∀x s,(F x s).E=λr=>[.bool r.1]:=by intro _ _;kernel_rfl) (O:∀x s,(F x s).M=λr=>os r.2:=by intro _ _;kernel_rfl)
 (hd:∀s:σ,jr (os s) (reach (os s) 32 (SV.rm e) [])=some (os s):=by intro _;kernel_rfl)
 (tk:∀s u,jr (os u) ((os s).map (·.1))=some (os u):=by intro _ _;kernel_rfl) (wi:∀s u,((os u).all λx=>within ((os s).map (·.1)) x.2)=true:=by intro _ _;kernel_rfl) (put:∀s u,sx (os s) (os u)=os u:=by intro _ _;kernel_rfl):y8 S c (.clo g [] e) g e os p where
 cs vs:=rfl
 hd s a:=by
  have:SV.rm [.v a,.clo g [] e]=SV.rm e:=by simp[SV.rm,SV.zc]
  unfold handed;rw[this];exact hd s
 tk:=tk
 wi:=wi
 put:=put
 h x s r hr dst I st t:=by
  obtain⟨m',k1,k2⟩:=(F x s).h r hr;have hk:=(F x s).k;have w:=(F x s).o;have z:S.prm (F x s).n=none:=by
   have:=(F x s).q
   cases L:S.prm (F x s).n with
   | none=>rfl
   | some _=>rw[L]at this;cases this
  rw[D]at hk w z k1;rw[G,B,J]at k1;rw[B,O]at k2;have C:handed st.m (.v (enc x)::e)=some (os s):=by rw[t];exact hd s
  have k2:=k2 (os s);rw[put]at k2;rw[<-t]at k2;unfold ey;rw[t]at C k2 ⊢;simp only[hk,w,z,C,k1,k2,kL,List.map_cons,List.map_nil,cV,Option.map_some,if_true,Bool.false_and,Bool.false_eq_true,if_false,result]
end
def U7 {α σ:Type} (s0:Sl α) (p:α->σ->bf (Bool×σ)) (q:Int×σ):bf (Fw (Int×σ) σ (Int×σ)):=
 bp (decide (q.1<len s0)) ((idx s0 q.1).bind λx=>(p x q.2).bind λy=>bp y.1 (some (.r (q.1,y.2))) (some (.n (IntKind.wrap .i64 (q.1+1),y.2)))) (some (.x q.2))
def Xw {α σ:Type} (s0:Sl α) (p:α->σ->bf (Bool×σ)) (x:σ):bf (Int×σ):=(bM (U7 s0 p) (0,x)).bind (Fw.elim (λe=>some (-1,e)) λe=>some e)
def Ys {α σ:Type} (s0:Sl α) (p:α->σ->bf (Bool×σ)) (x:σ):bf (Bool×σ):=(Xw s0 p x).bind λy=>some (decide (y.1>=0),y.2)
section
variable {S:Sys} {c:bU} {α σ β γ:Type} [bz α] {g:FuncId} {Q:Out×St->bf β} {e:γ->bf β} {cf:Cf}
theorem M4 (n:Nat) {cl:SV} {ex:a_ SV} {os:σ->c7} {p:α->σ->bf (Bool×σ)} (F:y8 S c cl g ex os p) (x:α) (s:σ) {f:Bool×σ->bf γ} (h:∀r,p x s=some r->Le ((f r).bind e) (bX S c Q (nx S c n cf λq=>cZ { q.st with m:=os r.2 } q.d (.v (.bool r.1)))))
 (u:(fJ S c n cf).map (λq=>(q.k,bV S.N q.st.g q.az,q.dr,q.st.m))=some (.c,some [cl,.v (enc x)],false,os s):=by kernel_rfl):Le (((p x s).bind f).bind e) (bX S c Q cf):=by
 obtain⟨q,w,hv⟩:=eE u;simp only[ζc]at hv;obtain⟨h1,z,B,C⟩:=hv;refine qx w ?_ h;rw[h1,B,wU _ _ _ _ _ _ _ g ([.v (enc x)]++ex) z (F.cs [.v (enc x)])];intro y t;obtain⟨r,hr,t⟩:=ζg.1 t;cases t;have:=F.h x s r hr q.d (dR q.st.m q.fr) q.st C;rw[show (!false||q.now)=true from rfl,List.singleton_append,this];rfl
theorem G5 {cl:SV} {ex:a_ SV} {os:σ->c7} {p:α->σ->bf (Bool×σ)} (F:y8 S c cl g ex os p) {rs:a_ RV} {st:St} {s u:σ} {ys:a_ V} (h1:i_ st rs=some (ys.map .v)) (B:st.m=os u):DT rs ((os s).map (·.1)) (.ret,st)=some (ys,os u):=by
 show ((i_ st rs).bind λl=>(cV l).bind λys=>(jr st.m ((os s).map (·.1))).map λos=>(ys,os))=_
 rw[h1,B,F.tk s u];simp only[ζb,kL,Option.map_some]
theorem Q8 (n:Nat) {cl:SV} {ex:a_ SV} {os:σ->c7} {p:α->σ->bf (Bool×σ)} (F:y8 S c cl g ex os p) {rs:a_ RV} {s u:σ} {r:γ} {e:γ->bf (a_ V×c7)} (ys:a_ V) (B:e r=some (ys,os u))
 (D:(fL S c n cf.1 cf.2.1 cf.2.2).map (λq=>(q.1,i_ q.2.2 rs,q.2.2.m))=some (.rt,some (ys.map .v),os u):=by kernel_rfl):Le ((some r).bind e) (bX S c (DT rs ((os s).map (·.1))) cf):=by
 obtain⟨⟨fo,fs,st'⟩,t,hv⟩:=eE D;simp only[ζc]at hv;obtain⟨rfl,w,z⟩:=hv;refine zU t (Le.of_eq ?_);show rn S c _ Fo.rt fs st'=e r;rw[B];exact G5 F w z
end
section
variable {S:Sys} {c:bU} {β γ δ α:Type} [bz δ] {Q:Out×St->bf β} {e:γ->bf β} {cf:Cf}
theorem Rt (n:Nat) {fn:FuncId} {A:α->a_ V} {p:α->bf (Sl δ)} (F:z_ S c fn A p) (z:α) {f:Sl δ->bf γ}
 (h:∀x,p z=some x->Le ((f x).bind e) (bX S c Q (nx S c n cf λq=>cZ q.st q.d (.v (enc x)))))
 (G:(fJ S c n cf).map (λq=>(q.k,(bV S.N q.st.g q.az).bind k_,(!q.dr||q.now),dR q.st.m q.fr []))=some (.c,some (fn,(A z).map .v),false,true):=by kernel_rfl):Le (((p z).bind f).bind e) (bX S c Q cf):=by
 obtain⟨q,I,hv⟩:=eE G;simp only[ζc]at hv;obtain⟨J,L,O,T⟩:=hv;obtain⟨w,g1,g2⟩:=ζg.1 L;have u:∀d (B:a_ V),SV.c6 d (B.map .v)=false:=λd B=>by
  induction B with
  | nil=>rfl
  | cons a l U=>simp[SV.c6,SV.ct,U]
 have W:dR q.st.m q.fr ((A z).map .v)=true:=by
  rw[<-T];unfold dR;simp[u];rfl
 refine qx I ?_ h;rw[J];intro y C;obtain⟨s,X,C⟩:=ζg.1 C;cases C;obtain⟨e0,m',hc,Y⟩:=F.h z s X;rw[wU q.dr _ _ _ _ _ w fn ((A z).map .v) g1 g2];have D:cO m' 8 [.own e0]=some [cI s]:=by simp only[cO,Pc,Y,OZ]
 have t:ey S c q.d q.dr (!q.dr||q.now) (dR q.st.m q.fr) fn ((A z).map .v) q.st=some (.v (cI s),q.st):=by
  unfold ey;simp only[F.k,F.o,if_true,O,Bool.false_eq_true,if_false,W,Bool.true_or,Bool.and_self,pg,hc,D,kL,Option.isSome_some,Bool.or_true,result]
 rw[t];rfl
end
def yl (u:a_ (a_ V)) (more:Bool) (xs:a_ V):bf (Bool×a_ (a_ V)):=match u with
 | w::r=>open Classical in if w=xs then some (more || !r.isEmpty,r)else none
 | []=>none
section
variable {S:Sys} {c:bU} {β γ:Type} {Q:Out×St->bf β} {e:γ->bf β} {cf:Cf}
end
section
variable {S:Sys} {c:bU} {β γ α:Type} [bz α] {Q:Out×St->bf β} {e:γ->bf β} {cf:Cf}
theorem Ry (n u:Nat) {s:Sl α} {i:Nat} {a:α} {f:Sl α->bf γ} (h:∀B,s.put i a=some B->Le ((f B).bind e) (bX S c Q (nx S c n cf λp=>cZ { p.st with m:=bA p.st.m u (cn B) } p.d (.v .undef))))
 (D:(fJ S c n cf).map (λp=>(p.k,bV S.N p.st.g p.az,bl p.st.m u,(!p.dr||p.now)))=some (.l (.store (bz.size α)),some [.el u i 0,cv a],some (cn s),true):=by kernel_rfl):Le (((s.put i a).bind f).bind e) (bX S c Q cf):=by
 obtain⟨p,t,hv⟩:=eE D;simp only[ζc]at hv;refine qx t ?_ h;rw[hv.1];exact Le.of_eq (JE hv.2.1 hv.2.2.2 hv.2.2.1 (gT a) rfl)
end
def KR (rs:a_ RV):Out×St->bf (V×bu×a_ V)
 | (.exit _,_)=>none
 | (_,st)=>(i_ st rs).bind λl=>match l with
  | .v p::.own d::r=>(bl st.m d).bind λob=>(cV r).map λys=>(p,ob,ys)
  | _=>none
theorem XV {S:Sys} {c:bU} {rs:a_ RV} {rc:RC} {st:St} {p:V} {ob:bu} {ys:a_ V} (h:jS S c (KR rs) rc [] st=some (p,ob,ys)):∃o st' d,cw S c rc st=some (o,st')/\(∀id,o≠.exit id)/\i_ st' rs=some (.v p::.own d::ys.map .v)/\bl st'.m d=some ob:=by
 rw[ot]at h;obtain⟨⟨o,st'⟩,h1,t⟩:=ζg.1 h;have w:∀id,o≠.exit id:=by rintro id rfl;simp[KR]at t
 have z:(i_ st' rs).bind (λl=>match l with|.v p::.own d::r=>(bl st'.m d).bind λob=>(cV r).map λys=>(p,ob,ys)|_=>none)=some (p,ob,ys):=by
  cases o with
  | exit id=>exact absurd rfl (w id)
  | norm=>exact t
  | ret=>exact t
 obtain⟨l,B,u⟩:=ζg.1 z;split at u
 .obtain⟨C,D,G⟩:=ζg.1 u;obtain⟨L,I,J⟩:=ζf.1 G;cases J;exact⟨o,st',_,h1,w,by rw[B,xL I],D⟩
 cases u
structure W_ (S:Sys) (c:bU) {α δ ε:Type} [bz δ] [gJ ε] (E1:α->V) (m:Option (α×Sl δ×ε)) where
 n:FuncId
 az:List V
 k:S.E.keep n=true
 o:S.E.own n=false
 q:(S.prm n).isNone=true
 h:∀r,m=some r->∃e m',c n (az.map .v) []=some (.v (E1 r.1)::.own e::(gJ.e r.2.2).map .v,m')/\bl m' e=some (cn r.2.1)
abbrev W_.mk' {S:Sys} {T:pe} {α δ ε:Type} [bz δ] [gJ ε] {E1:α->V} {m:bf (α×Sl δ×ε)} (fn:FuncId) (az:a_ V)
 (h:Le (m.bind λr=>some (E1 r.1,cn r.2.1,gJ.e r.2.2)) (bX S (dc S T) (KR (tr T fn)) (.rc (tb T fn),[],start (az.map .v) [])))
 (u:(T fn).isSome=true:=by kernel_rfl) (hk:S.E.keep fn=true:=by kernel_rfl) (B:S.E.own fn=false:=by kernel_rfl) (D:(S.prm fn).isNone=true:=by kernel_rfl) (G:Nat.ble az.length (qz (T fn)).na=true:=by kernel_rfl):W_ S (dc S T) E1 m where
 n:=fn
 az:=az
 k:=hk
 o:=B
 q:=D
 h r hr:=by
  have t:=zW u;have h1:=h (E1 r.1,cn r.2.1,gJ.e r.2.2) (by rw[hr];rfl)
  change jS S (dc S T) (KR (qz (T fn)).rs) (qz (T fn)).body [] (start (az.map .v) [])=some (E1 r.1,cn r.2.1,gJ.e r.2.2)at h1;obtain⟨o,st',d,g1,g2,g3,g4⟩:=XV h1;refine⟨d,st'.m,?_,g4⟩;rw[qT t];unfold mB;rw[if_pos (by simpa using Nat.le_of_ble_eq_true G),g1]
  cases o with
  | exit id=>exact absurd rfl (g2 id)
  | norm=>simp only[g3,Option.map_some]
  | ret=>simp only[g3,Option.map_some]
section
variable {S:Sys} {c:bU} {β γ:Type} {Q:Out×St->bf β} {e:γ->bf β} {cf:Cf}
end
section
variable {α:Type} [bz α]
abbrev ko (s:Sl (Sl α)):bu:=.dp s.k (rows s.l) none
abbrev Hl (s:Sl (Sl α)) (i:Int) (t:Nat):bu:=.dp s.k (rows s.l) (some (i.toNat,t))
def jG (s:Sl (Sl α)) (i:Int) (x:Sl α):Sl (Sl α):=match s with
 | .row l=>.row (l.set i.toNat x)
 | .part l=>.part (l.set i.toNat x)
 | s=>s
theorem U3:(idx (Sl.row [(Sl.nil:Sl α)]) 0).bind Sl.whole=some .nil:=rfl
theorem DO (s:Sl (Sl α)) (i:Int) (x:Sl α):(jG s i x).l=s.l.set i.toNat x/\(jG s i x).k=s.k:=by
 cases s <;> simp[jG,Sl.l,Sl.k]
theorem Eg {s:Sl (Sl α)} {i:Int} {y:Sl α} (h:(idx s i).bind Sl.whole=some y):0<=i/\s.l[i.toNat]? = some y/\y.k≠.part/\bQ s.k=true/\i.toNat<s.l.length:=by
 obtain⟨z,h1,t⟩:=ζg.1 h;unfold idx at h1;split at h1
 .rename_i w;have u:=(ζe.1 h1).1;have hk:bQ s.k=true:=by cases s <;> first|rfl|(simp[Sl.l]at u)
  cases z with
  | part l=>cases t
  | nil=>cases t;exact⟨w,h1,by simp[Sl.k],hk,u⟩
  | emp=>cases t;exact⟨w,h1,by simp[Sl.k],hk,u⟩
  | row l=>cases t;exact⟨w,h1,by simp[Sl.k],hk,u⟩
 cases h1
theorem Na {y:Sl α} (h:y.k≠.part):Ra (bz.size α) (cells y)=some (cn y):=by
 cases y with
 | nil=>rfl
 | emp=>rfl
 | row l=>simp[PD,cI,jK,Sl.k,Sl.l,Ra,cn]
 | part l=>exact absurd rfl h
end
def Iq (fo:Fo) (fs:a_ Fm):bf (Gh×Fo×a_ Fm):=match fo,fs with
 | .rc (.gh g a),fs=>some (g,.rc a,fs)
 | .ops false fr (⟨d,gd,now,k,az,dd,x::t⟩::r),fs=>some (x,.ops false fr (⟨d,gd,now,k,az,dd,t⟩::r),fs)
 | .nx,.gst g::fs=>some (g,.nx,fs)
 | _,_=>none
def Kx (st:St) (l:Loc):bf Int:=match KF st l with
 | some (.v (.int _ i))=>some i
 | _=>none
theorem R8 {st:St} {x:Loc} {i:Int} (h:Kx st x=some i) (u:0<=i):QE st x=some i.toNat:=by
 unfold Kx at h;unfold QE;split at h
 next h1=>cases h;simp only[h1,if_pos u]
 cases h
def gx (S:Sys) (c:bU) (n:Nat) (cf:Cf) (φ:St->St):Cf:=match fL S c n cf.1 cf.2.1 cf.2.2 with
 | some (fo,fs,st)=>match Iq fo fs with
  | some (_,t,fs')=>(t,fs',φ st)
  | none=>cf
 | none=>cf
section
variable {S:Sys} {c:bU} {β γ δ α:Type} [bz α] {Q:Out×St->bf β} {e:γ->bf β} {cf:Cf}
theorem Xj {n:Nat} {m:bf β} {φ:St->St} {g:Gh} {fo fo':Fo} {fs fs':a_ Fm} {st:St} (h1:fL S c n cf.1 cf.2.1 cf.2.2=some (fo,fs,st)) (u:Iq fo fs=some (g,fo',fs')) (B:ghost g st=some (φ st))
 (h:Le m (bX S c Q (gx S c n cf φ))):Le m (bX S c Q cf):=by
 refine zU h1 ?_;have t:vh S c fo fs st=some (fo',fs',φ st):=by
  unfold Iq at u;split at u <;> cases u <;> simp[vh,B]
 show Le m (rn S c Q fo fs st);rw[HX t];simpa [gx,h1,u]using h
theorem Mg {n:Nat} {α:Type} {φ:Gh->St->α} {a:α} (h:(fL S c n cf.1 cf.2.1 cf.2.2).bind (λp=>(Iq p.1 p.2.1).map λq=>φ q.1 p.2.2)=some a) :
 ∃fo fs st g fo' fs',fL S c n cf.1 cf.2.1 cf.2.2=some (fo,fs,st)/\Iq fo fs=some (g,fo',fs')/\φ g st=a:=by
 obtain⟨⟨fo,fs,st⟩,h1,t⟩:=ζg.1 h;obtain⟨⟨g,fo',fs'⟩,u,w⟩:=ζf.1 t;exact⟨fo,fs,st,g,fo',fs',h1,u,w⟩
theorem zx (n d t:Nat) (x:Loc) {s:Sl (Sl α)} {i:Int} {f:Sl α->bf γ} (h:∀y,(idx s i).bind Sl.whole=some y->Le ((f y).bind e) (bX S c Q (gx S c n cf λst=>{ st with m:=bA (bA st.m d (Hl s i t)) t (cn y) })))
 (B:(fL S c n cf.1 cf.2.1 cf.2.2).bind (λp=>(Iq p.1 p.2.1).map λq=>(q.1,bl p.2.2.m d,Kx p.2.2 x,p.2.2.new t))=some (.take d x (bz.size α) t,some (ko s),some i,true):=by kernel_rfl):Le ((((idx s i).bind Sl.whole).bind f).bind e) (bX S c Q cf):=by
 cases u:(idx s i).bind Sl.whole with
 | none=>exact Le.none _
 | some y=>
  obtain⟨fo,fs,st,g,z,fs',h1,C,w⟩:=Mg (φ:=λg st=>(g,bl st.m d,Kx st x,st.new t)) B
  simp only[ζc]at w;obtain⟨rfl,D,G,I⟩:=w;obtain⟨g1,g2,g3,g4,g5⟩:=Eg u;refine Xj h1 C ?_ (h y u);show AJ d x (bz.size α) t st=_;unfold AJ;rw[D,R8 G g1];simp only[g4,I,and_self,if_true];have:(rows s.l)[i.toNat]? = some (cells y):=by rw[rows,List.getElem?_map,g2];rfl
  rw[this,ζb,Na g3];rfl
theorem AI (n d t:Nat) {s:Sl (Sl α)} {i:Int} {y D:Sl α} (hr:(idx s i).bind Sl.whole=some D) {f:Sl α->bf γ} (h:∀z,y.whole=some z->Le ((f z).bind e) (bX S c Q (gx S c n cf λst=>{ st with m:=bA (cz t st.m) d (ko (jG s i z)) })))
 (G:(fL S c n cf.1 cf.2.1 cf.2.2).bind (λp=>(Iq p.1 p.2.1).map λq=>(q.1,bl p.2.2.m d,bl p.2.2.m t,Nat.beq t d))=some (.put d,some (Hl s i t),some (cn y),false):=by kernel_rfl):Le (((y.whole).bind f).bind e) (bX S c Q cf):=by
 cases w:y.whole with
 | none=>exact Le.none _
 | some z=>
  obtain⟨fo,fs,st,g,C,fs',h1,I,B⟩:=Mg (φ:=λg st=>(g,bl st.m d,bl st.m t,Nat.beq t d)) G
  simp only[ζc]at B;obtain⟨rfl,J,L,O⟩:=B;obtain⟨g1,g2,g3,g4,g5⟩:=Eg hr;have T:z=y/\y.k≠.part:=by cases y <;> cases w <;> exact⟨rfl,by simp[Sl.k]⟩
  obtain⟨rfl,hk⟩:=T;refine Xj h1 I ?_ (h z w);show vI d st=_;have u:t≠d:=λe=>by subst e;simp at O
  unfold vI;rw[J];simp only[L,cn,ne_eq,hk,not_false_eq_true,u,g4,and_self,if_true];have:(rows s.l).set i.toNat [jK z.k (bz.size α) (rows z.l)]=rows (jG s i z).l:=by
   rw[(DO s i z).1];simp[rows,List.map_set];rfl
  rw[this,<-(DO s i z).2]
theorem Gk (n d t:Nat) (k:IntKind) {s:Sl (Sl α)} {i:Int} {y:Sl α} (hr:(idx s i).bind Sl.whole=some y) {m:bf β} (h:Le m (bX S c Q (nx S c n cf λp=>cZ p.st p.d (.el d i.toNat 0))))
 (u:(fJ S c n cf).map (λp=>(p.k,bV S.N p.st.g p.az,bl p.st.m d))=some (.p (.idxS 1),some [.own d,.v (.int k i)],some (Hl s i t)):=by kernel_rfl):Le m (bX S c Q cf):=by
 obtain⟨p,w,hv⟩:=eE u;simp only[ζc]at hv;obtain⟨g1,g2,g3,g4,g5⟩:=Eg hr;refine uR w ?_ h;rw[hv.1,K8 _ _ _ _ _ _ _ rfl,hv.2.1,ζb,JD,hv.2.2];simp[Hy,g1,g4,g5,fW]
theorem Hq (n d t:Nat) {s:Sl (Sl α)} {i:Int} {y:Sl α} (hr:(idx s i).bind Sl.whole=some y) {m:bf β} (h:Le m (bX S c Q (nx S c n cf λp=>cZ p.st p.d (.own t))))
 (u:(fJ S c n cf).map (λp=>(p.k,bV S.N p.st.g p.az,bl p.st.m d,(!p.dr||p.now||eH p.fr [.el d i.toNat 0])))=some (.r (.load 1 false),some [.el d i.toNat 0],some (Hl s i t),true):=by kernel_rfl):Le m (bX S c Q cf):=by
 obtain⟨p,w,hv⟩:=eE u;simp only[ζc]at hv;refine uR w ?_ h;rw[hv.1,Cz,hv.2.1,ζb,hv.2.2.2,if_pos rfl,QW,hv.2.2.1];simp[CZ]
theorem Uf (n u t:Nat) {m:bf β} (h:Le m (bX S c Q (nx S c n cf λp=>{ p.st with g:=bA p.st.g u (.own u),m:=bA p.st.m u (Hl (Sl.row [(Sl.nil:Sl α)]) 0 t) })))
 (B:(fJ S c n cf).map (λp=>(p.d,p.k,bV S.N p.st.g p.az,p.st.new u,(bl p.st.m t).isSome))=some (some u,.a (.buildSl 1 1 [.bN] [0]),some [.own t],true,true):=by kernel_rfl):Le m (bX S c Q cf):=by
 obtain⟨p,w,hv⟩:=eE B;simp only[ζc]at hv;refine uR w ?_ h;rw[hv.1,hv.2.1,yR,hv.2.2.1,ζb,if_pos hv.2.2.2.1];have:mw p.st.m (.buildSl 1 1 [.bN] [0]) [.own t] u=some (Hl (.row [(.nil:Sl α)]) 0 t,.own u):=by
  unfold mw;simp only[cV,and_self,true_and];rw[if_pos hv.2.2.2.2];rfl
 rw[this];rfl
theorem WJ (n d u t:Nat) {s:Sl (Sl α)} {x:Sl α} {f:Sl (Sl α)->bf γ} (h:∀B,eT s x=some B->Le ((f B).bind e) (bX S c Q (nx S c n cf λp=>{ p.st with g:=bA p.st.g t (.own t),m:=bA (cz u (cz d p.st.m)) t (ko B) })))
 (D:(fJ S c n cf).map (λp=>(p.d,p.k,bV S.N p.st.g p.az,bl p.st.m d,bl p.st.m u,(!p.dr||p.now),Nat.beq d u,St.new { p.st with m:=cz u (cz d p.st.m) } t))=some (some t,.l (.append 1),some [.own d,.own u],some (ko s),some (ko (.row [x])),true,false,true):=by kernel_rfl):Le (((eT s x).bind f).bind e) (bX S c Q cf):=by
 obtain⟨p,G,hv⟩:=eE D;simp only[ζc]at hv;obtain⟨I,J,L,z,C,O,T,U⟩:=hv;have w:d≠u:=λe=>by subst e;simp at T
 refine qx G ?_ h;rw[I,J,r_,L,ζb,O,if_pos rfl];have:jC p.st (some t) (.append 1) [.own d,.own u]=vV p.st (some t) 1 (.own d) (.own u):=by
  unfold jC;simp[iM,z,C]
 have W:rows (Sl.row [x]).l≠[]:=by simp[Sl.l,rows]
 have Y:(rows (Sl.row [x]).l).length=1:=rfl;have hc:rows s.l++rows (Sl.row [x]).l=rows (s.l++[x]):=by simp[rows,Sl.l]
 have X:vV p.st (some t) 1 (.own d) (.own u)=(eT s x).bind λB=>some (.own t,{ p.st with m:=bA (cz u (cz d p.st.m)) t (ko B) }):=by
  simp only[vV,ug,z,C,eT,ko];rw[show (Sl.row [x]).k=.row from rfl];simp only[true_and,ne_eq,w,not_false_eq_true,W,fW,show (Sl.row [x]).l.length=1 from rfl,U,if_true,hc]
  by_cases h:s.l.length+1<=2147483648
  .rw[if_pos h,if_pos h];rfl
  rw[if_neg h,if_neg h];rfl
 rw[this,X]
 cases eT s x with
 | none=>exact Le.none _
 | some B=>exact Le.of_eq rfl
end
end Go.VE
namespace Go.VE
def bit.and (k:IntKind) (a b:Int):Int:=k.wrap (BitVec.ofInt k.bits a &&& BitVec.ofInt k.bits b).toNat
def bit.or (k:IntKind) (a b:Int):Int:=k.wrap (BitVec.ofInt k.bits a ||| BitVec.ofInt k.bits b).toNat
def bit.xor (k:IntKind) (a b:Int):Int:=k.wrap (BitVec.ofInt k.bits a ^^^ BitVec.ofInt k.bits b).toNat
def bit.andNot (k:IntKind) (a b:Int):Int:=k.wrap (BitVec.ofInt k.bits a &&& ~~~ BitVec.ofInt k.bits b).toNat
variable [bO]
section
variable {S:Sys} {c:bU} {β γ δ:Type} {Q:Out×St->bf β} {e:γ->bf β} {cf:Cf}
theorem CA (n:Nat) {m:bf δ} (F:qh S c m) (vs:a_ V) {f:δ->bf γ}
 (h:∀x,m=some x->Le ((f x).bind e) (bX S c Q (nx S c n cf λq=>cZ q.st q.d (.v (result (F.E x))))))
 (D:(F.az,F.os)=(vs.map .v,([]:c7)):=by kernel_rfl) (B:S.E.soft F.n=true:=by kernel_rfl)
 (G:(fJ S c n cf).map (λq=>(q.k,(bV S.N q.st.g q.az).bind k_,q.dr,dR q.st.m q.fr []))=some (.c,some (F.n,vs.map .v),true,true):=by kernel_rfl):Le ((m.bind f).bind e) (bX S c Q cf):=by
 obtain⟨q,C,hv⟩:=eE G;simp only[ζc]at hv D;obtain⟨I,J,L,O⟩:=hv;obtain⟨F1,T⟩:=D;obtain⟨w,g1,g2⟩:=ζg.1 J;have u:∀d (vs:a_ V),SV.c6 d (vs.map .v)=false:=λd vs=>by
  induction vs with
  | nil=>rfl
  | cons a l U=>simp[SV.c6,SV.ct,U]
 have W:dR q.st.m q.fr (vs.map .v)=true:=by
  rw[<-O];unfold dR;simp[u];rfl
 refine qx C ?_ h;rw[I];intro y z;obtain⟨s,X,z⟩:=ζg.1 z;cases z;obtain⟨m',hc,-⟩:=F.h s X;rw[F1,T]at hc;rw[wU q.dr _ _ _ _ _ w F.n (vs.map .v) g1 g2];have t:ey S c q.d q.dr (!q.dr||q.now) (dR q.st.m q.fr) F.n (vs.map .v) q.st=some (.v (result (F.E s)),q.st):=by
  unfold ey En;cases Y:q.now <;> simp only[F.k,F.o,L,W,B,pg,hc,kL,Option.isSome_some,Bool.not_true,Bool.false_or,Bool.or_true,Bool.or_false,Bool.and_self,Bool.true_and,Bool.false_eq_true,if_true,if_false]
 rw[t];rfl
end
abbrev qh.map {S:Sys} {c:bU} {δ ε:Type} {m:bf δ} (F:qh S c m) (g:δ->ε) (E:ε->a_ V) (M:ε->c7) (u:∀r,F.E r=E (g r)) (B:∀r,F.M r=M (g r)):qh S c (m.map g):=⟨F.n,F.az,F.os,E,M,F.k,F.o,F.q,λr hr=>by
 obtain⟨s,t,rfl⟩:=ζf.1 hr;rw[<-u,<-B];exact F.h s t⟩
section
variable {S:Sys} {c:bU} {β γ α:Type} [bz α] {Q:Out×St->bf β} {e:γ->bf β} {cf:Cf}
theorem Uv (n d u w t:Nat) {s:Sl (Sl α)} {y:Sl α} {f:Sl (Sl α)->bf γ}
 (h:∀z,y.whole=some z->∀B,eT s z=some B->Le ((f B).bind e) (bX S c Q (nx S c n cf λp=>{ p.st with g:=bA p.st.g t (.own t),m:=bA (cz u (cz d (bA (cz w p.st.m) u (ko (.row [z]))))) t (ko B) })))
 (hL:(fJ S c n cf).map (λp=>(p.d,p.k,bV S.N p.st.g p.az,bl p.st.m d,bl p.st.m u,bl p.st.m w,(!p.dr||p.now),Nat.beq d u,Nat.beq w u,Nat.beq w d))=some (some t,.l (.append 1),some [.own d,.own u],some (ko s),some (Hl (Sl.row [(Sl.nil:Sl α)]) 0 w),some (cn y),true,false,false,false):=by kernel_rfl)
 (hN:∀z:Sl α,(fJ S c n cf).map (λp=>St.new { p.st with m:=cz u (cz d (bA (cz w p.st.m) u (ko (.row [z])))) } t)=some true:=by intro z;kernel_rfl):Le (((y.whole).bind λz=>(eT s z).bind f).bind e) (bX S c Q cf):=by
 obtain⟨p,X,hv⟩:=eE hL;simp only[ζc]at hv;obtain⟨v1,v2,v3,Y,I,v6,v7,v8,v9,J⟩:=hv;have C:d≠u:=λe=>by subst e;simp at v8
 have L:w≠u:=λe=>by subst e;simp at v9
 have O:w≠d:=λe=>by subst e;simp at J
 cases Z:y.whole with
 | none=>exact Le.none _
 | some z=>
  show Le (((eT s z).bind f).bind e) _;refine qx X ?_ (h z Z);have hz:z=y/\y.k≠.part:=by cases y <;> cases Z <;> exact⟨rfl,by simp[Sl.k]⟩
  obtain⟨rfl,hk⟩:=hz;have G:=hN z;rw[X]at G;have G:St.new { p.st with m:=cz u (cz d (bA (cz w p.st.m) u (ko (.row [z])))) } t=true:=Option.some.inj G;rw[v1,v2,r_,v3,ζb,v7,if_pos rfl];have e1:jC p.st (some t) (.append 1) [.own d,.own u]=vV p.st (some t) 1 (.own d) (.own u):=by
   unfold jC;simp[iM,Y,I]
  have D:vI u p.st=some { p.st with m:=bA (cz w p.st.m) u (ko (.row [z])) }:=by
   unfold vI;rw[I];have T:bQ (Sl.row [(Sl.nil:Sl α)]).k=true:=rfl;simp only[v6,cn,ne_eq,hk,not_false_eq_true,L,T,and_self,if_true];rfl
  have g1:bl (bA (cz w p.st.m) u (ko (.row [z]))) d=some (ko s):=by
   rw[cq _ _ (Ne.symm C)];rw[sU _ O];exact Y
  have g2:bl (bA (cz w p.st.m) u (ko (.row [z]))) u=some (ko (.row [z])):=bY _ _ _;have U:rows (Sl.row [z]).l≠[]:=by simp[Sl.l,rows]
  have hc:rows s.l++rows (Sl.row [z]).l=rows (s.l++[z]):=by simp[rows,Sl.l]
  have ha:vV p.st (some t) 1 (.own d) (.own u)=(eT s z).bind λB=>some (.own t,{ p.st with m:=bA (cz u (cz d (bA (cz w p.st.m) u (ko (.row [z]))))) t (ko B) }):=by
   simp only[vV,I,D,ug,g1,g2,eT,ko];rw[show (Sl.row [z]).k=.row from rfl]at *;simp only[true_and,ne_eq,C,not_false_eq_true,U,fW,show (Sl.row [z]).l.length=1 from rfl,hc];have W:St.new { p.st with m:=cz u (cz d (bA (cz w p.st.m) u (.dp .row (rows (Sl.row [z]).l) none))) } t=true:=G
   by_cases h:s.l.length+1<=2147483648
   .rw[if_pos h,if_pos h,if_pos W];rfl
   rw[if_neg h,if_neg h];rfl
  rw[e1,ha]
  cases eT s z with
  | none=>exact Le.none _
  | some B=>exact Le.of_eq rfl
end
namespace catX
instance {n:Nat}:OfNat Arg n:=⟨.s n⟩
def ln:K:=.p .lenSl
def ix:K:=.p (.idxS 1)
def bI (o:BinOp):K:=.p (.bin (some .int) none o)
def ld:K:=.r (.load 1 false)
def g1:a_ RO:=[o1 4 (.k (.bN)) []]
def g2:a_ RO:=[o1 5 1 [],o2 6 (bI .lss) [5,.k (.int .i64 0)] []]
def g3:a_ RO:=[o2 7 (.p (.bad)) [] [],⟨none,none,false,.p .bad,[],[],[]⟩]
def g4:a_ RO:=[o1 8 1 [],o1 9 0 [],o2 10 (.p (.capSl)) [9] [],o1 11 0 [],o2 12 ln [11] [],o2 13 (bI .sub) [10,12] [],o2 14 (bI .sub) [8,13] [],o1 1 14 []]
def g5:a_ RO:=[o1 15 1 [],o2 16 (bI .gtr) [15,.k (.int .i64 0)] []]
def g6:a_ RO:=[o1 17 0 [],o1 18 0 [],o2 19 (.p (.capSl)) [18] [],o2 20 (.p (.slice 1 false true)) [17,19] [],o1 21 1 [],o2 22 (.l (.appMk 1 24 [.bN])) [20,21] [],o1 23 0 [],o2 24 ln [23] [],o2 25 (.p (.slice 1 false true)) [22,24] [],o1 0 25 []]
def g7:a_ RO:=[o1 26 0 [],o1 4 26 []]
def grow:RC:=.seq (.ops g1) (.seq (.seq (.ops g2) (.cond (.s 6) (.ops g3) (.skip))) (.seq (.seq (.ops g4) (.seq (.ops g5) (.cond (.s 16) (.ops g6) (.skip)))) (.seq (.ops g7) (.ret))))
section
variable {E:Env} {N:Nat->FuncId} {t:Nat}
attribute [local simp] eu mo hD bS qm vQ nK su bI ln
end
end catX
namespace catX
def r1:a_ RO:=[o1 2 (.k (.bN)) []]
def r2:a_ RO:=[o1 3 (.k (.int .i64 0)) []]
def r3:a_ RO:=[o1 9 0 [],o2 10 ln [9] [],o1 11 (.k (.int .i64 0)) []]
def r4:a_ RO:=[o2 12 (bI .lss) [11,10] []]
def r5:a_ RO:=[o2 13 ix [9,11] [],o2 14 ld [13] [],o1 5 14 []]
def r6:a_ RO:=[o1 15 3 [],o1 16 5 [],o2 17 ln [16] [],o2 18 (bI .add) [15,17] [],o1 3 18 []]
def r7:a_ RO:=[o1 19 3 [],o2 20 (bI .lss) [19,.k (.int .i64 0)] []]
def r8:a_ RO:=[o2 21 (.p (.bad)) [] [],⟨none,none,false,.p .bad,[],[],[]⟩]
def r9:a_ RO:=[o2 22 (bI .add) [11,.k (.int .i64 1)] [],o1 11 22 []]
def NX (gid:Nat):a_ RO:=[o1 23 3 [],o2 24 .c [.f gid,.k (.bN),23] [],o1 6 24 []]
def Jo:a_ RO:=[o1 25 0 [],o2 26 ln [25] [],o1 27 (.k (.int .i64 0)) []]
def Kg:a_ RO:=[o2 28 (bI .lss) [27,26] []]
def JX:a_ RO:=[o2 29 ix [25,27] [],o2 30 ld [29] [],o1 8 30 []]
def Q7:a_ RO:=[o1 31 6 [],o1 32 8 [],o2 33 (.l (.append 1)) [31,32] [],o1 6 33 []]
def Rh:a_ RO:=[o2 34 (bI .add) [27,.k (.int .i64 1)] [],o1 27 34 []]
def r16:a_ RO:=[o1 35 6 [],o1 2 35 []]
section
variable {E:Env} {N:Nat->FuncId} {F:Frame} {H:bn} {α:Type} [bz α] {s:Sl (Sl α)} {i:Nat}
theorem el {u:Sl α} (h:s.l[i]? = some u):kS 1 (cI s) (i:Int)=some (.fptr [cI u]):=by
 have:=Kc (N:=λn=>n) s .i64 (i:Int) 1 rfl
 simp only[bS]at this;rw[this,show idx s (i:Int)=some u from by unfold idx;grind];rfl
theorem X6 (s:Sl α):qu (cI s)=some (.int .i64 s.l.length):=by
 have:=Is (N:=λn=>n) s;simpa only[bS]using this
attribute [local simp] eu mo hD bS qm vQ nK su X6 bI ln ix ld
theorem y3:(get F 0=cI s->∃F',(∀call,eu E N call none r3 F H=some (F',H))/\get F' 9=cI s/\get F' 10=.int .i64 s.l.length/\get F' 11=.int .i64 0/\∀j,j<9->get F' j=get F j) /\
 (get F 0=cI s->∃F',(∀call,eu E N call none Jo F H=some (F',H))/\get F' 25=cI s/\get F' 26=.int .i64 s.l.length/\get F' 27=.int .i64 0/\∀j,j<9->get F' j=get F j):=by
 refine⟨λf0=>⟨_,λcall=>by simp[r3,f0];rfl,?_⟩,λf0=>⟨_,λcall=>by simp[Jo,f0];rfl,?_⟩⟩ <;>
  (simp;grind)
theorem y4 {n:Nat}:(get F 11=.int .i64 i->get F 10=.int .i64 n->∃F',(∀call,eu E N call none r4 F H=some (F',H))/\get F' 12=.bool (decide (i<n))/\∀j,j<12->get F' j=get F j) /\
 (get F 27=.int .i64 i->get F 26=.int .i64 n->∃F',(∀call,eu E N call none Kg F H=some (F',H))/\get F' 28=.bool (decide (i<n))/\∀j,j<28->get F' j=get F j):=by
 refine⟨λf t=>⟨_,λcall=>by simp[r4,f,t];rfl,?_⟩,λf t=>⟨_,λcall=>by simp[Kg,f,t];rfl,?_⟩⟩ <;>
  (simp;grind)
theorem y5 {u:Sl α} (h:s.l[i]? = some u):(get F 9=cI s->get F 11=.int .i64 i->∃F',(∀call,eu E N call none r5 F H=some (F',H))/\get F' 5=cI u/\∀j,j<12->j≠5->get F' j=get F j) /\
 (get F 25=cI s->get F 27=.int .i64 i->∃F',(∀call,eu E N call none JX F H=some (F',H))/\get F' 8=cI u/\∀j,j<28->j≠8->get F' j=get F j):=by
 have e:=el h;have e2:eP H (.load 1 false) [.fptr [cI u]]=some (cI u):=by simp[eP,dX,cut,mk]
 refine⟨λf t=>⟨_,λcall=>by simp[r5,f,t,e,e2];rfl,?_⟩,λf t=>⟨_,λcall=>by simp[JX,f,t,e,e2];rfl,?_⟩⟩ <;>
  (simp;grind)
structure Acc (H:bn) (w:V) (acc:List (List V)):Prop where
 el:dG H 1 w=some acc
 gr:∃H1,gq H w=some H1/\H1.length=H.length
 sh:w=.bN/\acc=[]\/∃id xs,w=.hsl id 1 0 acc.length/\H[id]? = some (.row 1 xs)/\(acc≠[]->xs=acc)
def upto (s:Sl (Sl α)) (i:Nat):a_ α:=(s.l.take i).flatMap Sl.l
end
end catX
def nj (op:Bool) (x y:Int):Int:=cond op x y
@[simp] theorem WV (x y:Int):nj true x y=x:=rfl
@[simp] theorem WO (x y:Int):nj false x y=y:=rfl
def Sl.setAt (s:Sl Int) (p v:Int):bf (Sl Int):=if 0<=p/\p.toNat<s.l.length then some (s.re (s.l.set p.toNat v))else none
def AK (op:Bool) (es:Nat) (xs:a_ (a_ V)):a_ V->bf (a_ (a_ V))
 | [.agg [.int .i64 a,.int .i64 b],.agg [.int .i64 c,.int .i64 d]]=>
  if es=1/\(xs.all λx=>x.length==1)=true/\0<=(nj op c a)/\(nj op c a).toNat<xs.length then
   some (xs.set (nj op c a).toNat [.int .i64 (nj op (IntKind.wrap .i64 (d-1)) b)])else none
 | _=>none
def xz (op:Bool):ED:=⟨false,AK op⟩
namespace setX
instance {n:Nat}:OfNat Arg n:=⟨.s n⟩
def fa (k:Nat):K:=.p (.fieldAddr k)
def ld:K:=.r (.load 1 false)
def r1:a_ RO:=[o2 4 (.a .box) [1] [],o2 5 (.a .box) [2] []]
def r2:a_ RO:=[o1 6 0 [],o2 7 (fa 0) [4] [],o2 8 ld [7] [],o2 9 (fa 1) [4] [],o2 10 ld [9] [],o2 11 (.p (.idxS 1)) [6,8] [],⟨none,none,false,.l (.store 1),[11,10],[],[]⟩]
def r3:a_ RO:=[o1 6 0 [],o2 7 (fa 0) [5] [],o2 8 ld [7] [],o2 9 (fa 1) [5] [],o2 10 ld [9] [],o2 11 (.p (.bin (some .int) none .sub)) [10,.k (.int .i64 1)] [],o2 12 (.p (.idxS 1)) [6,8] [],⟨none,none,false,.l (.store 1),[12,11],[],[]⟩]
def code (op:Bool):RC:=.seq (.ops r1) (.ops (if op then r3 else r2))
section
variable {E:Env} {N:Nat->FuncId} {H:bn} {id off L:Nat} {rs:a_ (a_ V)}
theorem RJ {h:Nat} {x y:V} {i:Nat} {v:V} (u:H[h]? = some (.row 2 [[x,y]])) (hv:[x,y][i]? = some v):eP H (.load 1 false) [.hptr h 0 i]=some v:=by
 match i,hv with
 | 0,hv=>cases hv;simp[eP,dX,u,Ob.rows,cut,mk]
 | 1,hv=>cases hv;simp[eP,dX,u,Ob.rows,cut,mk]
 | i+2,hv=>simp at hv
attribute [local simp] eu mo hD bS qm vQ nK su
theorem whole (op:Bool) {a b c d:Int} (D:H[id]? = some (.row 1 rs)) (hp:0<=(nj op c a)) (u:(nj op c a).toNat<L) {z:V} (B:rs[off+(nj op c a).toNat]? = some [z]) :
 ∃F' X,Ex E N (code op) [.hsl id 1 off L,.agg [.int .i64 a,.int .i64 b],.agg [.int .i64 c,.int .i64 d]] H .norm F' ((H++X).set id (.row 1 (rs.set (off+(nj op c a).toNat) [.int .i64 (nj op (IntKind.wrap .i64 (d-1)) b)]))):=by
 let X:bn:=[.row 2 [[.int .i64 a,.int .i64 b]],.row 2 [[.int .i64 c,.int .i64 d]]]
 have G:=(ζe.1 D).1;have e1:∃F1,(∀call,eu E N call none r1 [.hsl id 1 off L,.agg [.int .i64 a,.int .i64 b],.agg [.int .i64 c,.int .i64 d]] H=some (F1,H++X))/\get F1 0=.hsl id 1 off L/\get F1 4=.hptr H.length 0 0/\get F1 5=.hptr (H.length+1) 0 0:=by
  exact⟨_,λcall=>by simp[r1,get,set,kT,V.cells,V.one,Mk.val,X];rfl,rfl,rfl,rfl⟩
 obtain⟨F1,p1,p2,p3,p4⟩:=e1;have h1:(H++X)[id]? = some (.row 1 rs):=by rw[List.getElem?_append_left G];exact D
 have I:(H++X)[H.length]? = some (.row 2 [[.int .i64 a,.int .i64 b]]):=by simp[X]
 have J:(H++X)[H.length+1]? = some (.row 2 [[.int .i64 c,.int .i64 d]]):=by
  rw[List.getElem?_append_right Za];simp[X]
 obtain⟨H1,O⟩:∃H1,H1=H++X:=⟨_,rfl⟩;rw[<-O]at h1 I J;rw[<-O]at p1
 suffices U:∃F',Ex E N (code op) [.hsl id 1 off L,.agg [.int .i64 a,.int .i64 b],.agg [.int .i64 c,.int .i64 d]] H .norm F' (H1.set id (.row 1 (rs.set (off+(nj op c a).toNat) [.int .i64 (nj op (IntKind.wrap .i64 (d-1)) b)])))by
  obtain⟨F',W⟩:=U;exact⟨F',X,by rw[<-O];exact W⟩
 have w:∀p:Int,0<=p->p.toNat<L->kS 1 (.hsl id 1 off L) p=some (.hptr id (off+p.toNat) 0):=λp Z Y=>by
  unfold kS;rw[if_neg Za];simp[Y]
 have C:∀(q:Nat) (z v:V),rs[q]? = some [z]->v.one=true->eO H1 (.store 1) [.hptr id q 0,v]=some (.undef,H1.set id (.row 1 (rs.set q [v]))):=λq z v B hv=>by
  simp[eO,h1,B,E8 hv,hv]
 cases op with
 | false=>
  simp only[WO]at hp u B ⊢;have Q:=RJ (i:=0) I rfl;have S:=RJ (i:=1) I rfl;have e2:∃t,(∀call,eu E N call none r2 F1 H1=some (t,H1.set id (.row 1 (rs.set (off+a.toNat) [.int .i64 b])))):=by
   exact⟨_,λcall=>by simp[r2,p2,p3,fa,ld,qa,Q,S,w a hp u,C _ z (.int .i64 _) B rfl];rfl⟩
  obtain⟨t,T⟩:=e2;exact⟨t,Ex.seq (Ex.ja p1) (Ex.ja (l:=_) T)⟩
 | true=>
  simp only[WV]at hp u B ⊢;have Q:=RJ (i:=0) J rfl;have S:=RJ (i:=1) J rfl;have e2:∃t,(∀call,eu E N call none r3 F1 H1=some (t,H1.set id (.row 1 (rs.set (off+c.toNat) [.int .i64 (IntKind.wrap .i64 (d-1))])))):=by
   exact⟨_,λcall=>by simp[r3,p2,p4,fa,ld,qa,Q,S,w c hp u,C _ z (.int .i64 _) B rfl];rfl⟩
  obtain⟨t,T⟩:=e2;exact⟨t,Ex.seq (Ex.ja p1) (Ex.ja (l:=_) T)⟩
end
end setX
theorem Ex.runN {E:Env} {nm:FuncId->bf Nat} {N:Nat->FuncId} (u:∀f s,nm f=some s->N s=f) {f:FuncId} {fi:FI} {rc:RC} (B:E.ft f=some fi) (hc:bK ⟨E,nm,fi.ntmps⟩ false fi.body=some rc) {args:a_ V} (D:args.length<=fi.ntmps) {H H':bn} {F':Frame}
 (h:Ex E N rc args H .norm F' H') {vs:a_ V} (hr:iY E F' H' fi.results=some vs):∃n,Go.VE.run E n (.fn f) args H=some (result vs,H'):=by
 obtain⟨n,h⟩:=h;refine⟨n+1,?_⟩;have:=HT (X:=⟨E,nm,fi.ntmps⟩) (call:=Go.VE.run E n) u (lf:=n) rc fi.body args H _ hc (h n (Nat.le_refl _));simp only[Go.VE.run,iR,B,if_pos D,this,hr,Option.map_some]
theorem S6 {E:Env} {f:FuncId} {nm:FuncId->bf Nat} {N:Nat->FuncId} (op:Bool) (hN:∀f s,nm f=some s->N s=f) (hk:E.keep f=true) (ho:E.own f=false)
 (hf:∃fi,E.ft f=some fi/\bK ⟨E,nm,fi.ntmps⟩ false fi.body=some (setX.code op)/\3<=fi.ntmps/\fi.results=[]):n9 E f (xz op):=by
 obtain⟨fi,h1,h2,h3,h4⟩:=hf;refine⟨hk,ho,?_,?_,?_⟩
 .intro es t vs ys h;simp only[xz,AK]at h;split at h
  .split at h
   .cases h;simp
   cases h
  cases h
 .intro es vs ys h H Z ws w hw Q;simp only[xz,AK]at h;split at h
  .split at h
   next hc=>simp at hc
   cases h
  cases h
 intro es t vs ys h H Z ws id off rs hw S aa G I hz;simp only[xz,AK]at h;split at h
 .rename_i a b c d;split at h
  .rename_i hc;cases h;obtain⟨rfl,J,hp,B⟩:=hc;obtain⟨w1,r1,rfl,q1,q2⟩:=hw.inv;obtain⟨w2,r2,rfl,q3,q4⟩:=q2.inv;rw[q4.cT];have e1:=(q1.scalar).1 rfl;have e2:=(q3.scalar).1 rfl;subst e1 e2;generalize T:(nj op c a).toNat=P at *;have U:off+P<rs.length:=by omega
   have W:∃z,rs[off+P]? = some [z]:=by
    have D:t[P]? = some t[P]:=ζd B;have:=(G.2 P _ _ D (by rw[List.getElem?_take,if_pos B,List.getElem?_drop,ζd U])).1
    have C:=List.all_eq_true.1 J t[P] (List.getElem_mem B);simp only[beq_iff_eq]at C;rw[C]at this;obtain⟨z,hz⟩:=List.length_eq_one_iff.1 this.symm;exact⟨z,by rw[ζd U,hz]⟩
   obtain⟨z,Y⟩:=W;obtain⟨F',X,D⟩:=setX.whole (E:=E) (N:=N) (H:=H) (id:=id) (off:=off) (L:=t.length) op (a:=a) (b:=b) (c:=c) (d:=d) S hp (by rw[T];exact B) (z:=z) (by rw[T];exact Y)
   rw[T]at D;obtain⟨n,hn⟩:=Ex.runN hN h1 h2 (args:=[.hsl id 1 off t.length,.agg [.int .i64 a,.int .i64 b],.agg [.int .i64 c,.int .i64 d]]) (by simpa using h3) D (vs:=[]) (by rw[h4];rfl)
   refine⟨n,rs.set (off+P) [.int .i64 (nj op (IntKind.wrap .i64 (d-1)) b)],X,λk hk=>?_,by simp,?_,?_⟩
   .simp only[xz,Bool.false_eq_true,if_false];exact(qw E hk).go _ _ _ _ hn
   .have e:((rs.set (off+P) [V.int .i64 (nj op (IntKind.wrap .i64 (d-1)) b)]).drop off).take (t.set P [V.int .i64 (nj op (IntKind.wrap .i64 (d-1)) b)]).length=((rs.drop off).take t.length).set P [.int .i64 (nj op (IntKind.wrap .i64 (d-1)) b)]:=by
     apply List.ext_getElem?;intro j;rw[List.length_set,List.getElem?_take,List.getElem?_set,List.getElem?_take,List.getElem?_drop,List.getElem?_drop,List.getElem?_set]
     by_cases O:j<t.length
     .rw[if_pos O,if_pos O]
      by_cases Q:P=j
      .subst Q;rw[if_pos rfl,if_pos U,if_pos rfl,if_pos (by simp;omega)]
      rw[if_neg Q,if_neg Za]
     rw[if_neg O,if_neg O,if_neg Za]
    rw[e];exact G.set P (.cons (.same _ rfl) .nil)
   intro x D u hu;rcases List.mem_or_eq_of_mem_set D with h|rfl
   .exact I x h u hu
   simp at hu;subst hu;exact⟨_,.same _ rfl⟩
  cases h
 cases h
structure N0 (S:Sys) {α δ:Type} [bz δ] (g:FuncId) (e:List V) (A:α->List V) (p:Sl δ->α->Option (Sl δ)):Prop where
 f:∃q,S.prm g=some q/\q.part=false/\S.E.keep g=true/\S.E.own g=false/\∀s z s',p s z=some s'->q.go (bz.size δ) (rows s.l) (A z++e)=some (rows s'.l)/\s'=s.re s'.l
theorem N0.xz {S:Sys} {g:FuncId} {op:Bool} (hp:S.prm g=some (xz op)) (hk:S.E.keep g=true) (B:S.E.own g=false) :
 N0 S g [] (λz:bg×bg=>[enc z.1,enc z.2]) (λs z=>s.setAt (nj op z.2.proc z.1.proc) (nj op (IntKind.wrap .i64 (z.2.index-1)) z.1.index)) where
 f:=by
  refine⟨_,hp,rfl,hk,B,λs z w h=>?_⟩
  unfold Sl.setAt at h;split at h
  .rename_i hc;cases h;have u:∀l:a_ Int,s.l≠[]->(s.re l).l=l:=λl t=>by cases s <;> first|rfl|exact absurd rfl t
   have t:s.l≠[]:=λe=>by rw[e]at hc;simp at hc
   refine⟨?_,by rw[u _ t]⟩
   rw[u _ t];show AK op 1 (rows s.l) [.agg [.int .i64 z.1.proc,.int .i64 z.1.index],.agg [.int .i64 z.2.proc,.int .i64 z.2.index]]=_;unfold AK;simp only;rw[if_pos ⟨trivial,by simp[rows],hc.1,by rw[fW];exact hc.2⟩]
   congr 1
   unfold rows;rw[List.map_set];rfl
  cases h
section
variable {S:Sys} {c:bU} {β γ δ α:Type} [bz δ] {Q:Out×St->bf β} {e:γ->bf β} {cf:Cf}
theorem Uy (n d:Nat) {g:FuncId} {ev:a_ V} {A:α->a_ V} {p:Sl δ->α->bf (Sl δ)} (F:N0 S g ev A p) (z:α) {s:Sl δ} {f:Sl δ->bf γ}
 (h:∀u,p s z=some u->Le ((f u).bind e) (bX S c Q (nx S c n cf λq=>cZ { q.st with m:=bA q.st.m d (cn u) } q.d (.v .undef))))
 (D:(fJ S c n cf).map (λq=>(q.k,bV S.N q.st.g q.az,bl q.st.m d,q.dr))=some (.c,some (.v (.clo g [] ev)::.own d::(A z).map .v),some (cn s),false):=by kernel_rfl):Le (((p s z).bind f).bind e) (bX S c Q cf):=by
 obtain⟨q,C,hv⟩:=eE D;simp only[ζc]at hv;obtain⟨G,I,J,L⟩:=hv;obtain⟨W,f1,O,T,U,f5⟩:=F.f;refine qx C ?_ h;rw[G,L];intro y w;obtain⟨u,B,w⟩:=ζg.1 w;cases w;obtain⟨e1,e2⟩:=f5 s z u B;rw[wU false _ _ _ _ _ _ g (.own d::(A z).map .v++ev.map .v) I rfl];have t:cV ((A z).map SV.v++ev.map .v)=some (A z++ev):=by rw[<-List.map_append];exact kL _
 have hc:ey S c q.d false (!false||q.now) (dR q.st.m q.fr) g (.own d::(A z).map .v++ev.map .v) q.st=some (.v .undef,{ q.st with m:=bA q.st.m d (cn u) }):=by
  unfold ey;simp only[T,U,Bool.not_false,Bool.true_or,Bool.false_and,if_true,Bool.false_eq_true,if_false,f1,BL,List.cons_append,J,cn,t,e1,O];have e4:(if bQ s.k=true then bu.sl s.k (bz.size δ) (rows u.l)else .sl s.k (bz.size δ) (rows s.l))=.sl u.k (bz.size δ) (rows u.l):=by
   rw[e2];cases s <;> rfl
  rw[e4]
 rw[hc];rfl
end
def snap (w:World):ck:=λb=>match w.heap[b]? with
 | some (.cells c _ _)=>some (.cells c)
 | some (.map es _)=>some (.map es)
 | _=>none
theorem OH {w:World} (hg:tZ (snap w)):cR (snap w) (λ_=>none) [] w where
 dom _ _:=rfl
 imm b x h:=by
  unfold snap at h;split at h
  next c el fr t=>cases h;exact⟨el,fr,t⟩
  next es cl t=>cases h;exact⟨cl,t⟩
  cases h
 obs id ob h:=by simp at h
 inj id u ob z p B h:=by simp at h
 gl:=hg
def eR (I:ck) (xs:a_ V) (vs:a_ Value):Prop:=xs.length=vs.length/\∀(j:Nat) a b,xs[j]? = some a->vs[j]? = some b->dW I a b
theorem eR.nil {I:ck}:eR I [] []:=⟨rfl,by simp⟩
theorem eR.one {I:ck} {x:V} {v:Value} (h:dW I x v):eR I [x] [v]:=⟨rfl,λj a b h1 t=>by
 cases j with
 | zero=>simp at h1 t;subst h1 t;exact h
 | succ j=>simp at h1⟩
theorem eR.append {I:ck} {xs ys:a_ V} {u vs:a_ Value} (h:eR I xs u) (k:eR I ys vs):eR I (xs++ys) (u++vs):=by
 refine⟨by simp[h.1,k.1],λj a b h1 t=>?_⟩
 by_cases w:j<xs.length
 .rw[List.getElem?_append_left w]at h1;rw[List.getElem?_append_left (by rw[<-h.1];exact w)]at t
  exact h.2 j a b h1 t
 rw[List.getElem?_append_right Za]at h1
 rw[List.getElem?_append_right (by rw[<-h.1];omega),<-h.1]at t
 exact k.2 _ a b h1 t
theorem BO {α β:Type} {f:α->bf β}:∀{l:a_ α} {r:a_ β},l.mapM f=some r->r.length=l.length/\∀(i:Nat) a b,l[i]? = some a->r[i]? = some b->f a=some b
 | [],r,h=>by simp only[List.mapM_nil,Option.pure_def,ζa]at h;subst h;simp
 | x::l,r,h=>by
  simp only[List.mapM_cons,Option.bind_eq_bind,Option.pure_def,ζg,ζa]at h;obtain⟨y,B,ys,u,rfl⟩:=h;obtain⟨h1,z⟩:=BO u;refine⟨by simp[h1],λi a b t w=>?_⟩
  cases i with
  | zero=>simp at t w;subst t w;exact B
  | succ i=>exact z i a b (by simpa using t) (by simpa using w)
structure sP {H:Type} (b:DataW H->Nat):Prop where
 lit:∀l,1<=b (.lit l)
 str:∀s,s.length+1<=b (.lit (.string s))
 nil:1<=b .nil
 slice:∀es sp,(es.map b).sum+1<=b (.slice es sp)
 agg:∀ps,(ps.map b).sum+1<=b (.agg ps)
class b_ (α:Type) where
 wt:α->Nat
 ok:α->Prop
instance:b_ Int where
 wt _:=1
 ok n:=-9223372036854775808<=n/\n<=9223372036854775807
instance:b_ Bool where
 wt _:=1
 ok _:=True
instance:b_ ByteArray where
 wt s:=s.size+1
 ok s:=s.size<=maxLen
instance {α:Type} [b_ α]:b_ (Sl α) where
 wt s:=(s.l.map b_.wt).sum+1
 ok s:=(∀x∈s.l,b_.ok x)/\s≠.emp
class Reads (P:Program) (t:TypeId) (α:Type) [bz α] [b_ α]:Prop where
 size:P.cellsOf t=bz.size α
 rd:∀{H:Type} {enc:TypeId×Value->H} {w:World} {base:Nat} {spare:Nat->Bool} {held:Bool} {fuel:Nat} {cs:List Value} {d:DataW H} {ps:List MemPlace},
  DataW.trod enc P w base spare held fuel t cs=some (d,ps)->∃a:α,eR (snap w) (cells a) cs/\b_.ok a/\∀b:DataW H->Nat,sP b->b_.wt a<=b d
 shape:∀{w:World} {r:_root_.Go.Reach} {base:Nat} {v:Value},Value.okWide P w r base t v->if bz.agg α then ∃cs,v=.agg cs else v.cells=#[v]
section
variable {P:Program}
theorem qq {w:World} {r:_root_.Go.Reach} {base:Nat} {t:TypeId} {v:Value} {u:_} (hu:P.underlying t=some u) (h1:∀fs,u≠.struct fs) (B:∀n e,u≠.array n e) (h:Value.okWide P w r base t v):v.cells=#[v]:=by
 cases v with
 | agg cs=>
  exfalso;unfold Value.okWide at h;rw[hu]at h;split at h
  next fs z=>cases z;exact h1 _ rfl
  next n e z=>cases z;exact B _ _ rfl
  unfold Cell.okWide at h;rw[hu]at h;split at h <;> first|(simp at *;done)|skip
  unfold Cell.ok at h;rw[hu]at h;cases u <;> simp at h
 | _=>rfl
theorem Reads.int {t:TypeId} (hu:P.underlying t=some (.int .i64)) (hc:P.cellsOf t=1):Reads P t Int where
 size:=hc
 rd {H enc w base spare held z cs d D} h:=by
  cases z with
  | zero=>simp[DataW.trod]at h
  | succ z=>
   simp only[DataW.trod,hu]at h;split at h <;> first|(simp at h;done)|skip
   next u=>cases u
   .rename_i k G n u;simp only[ζa,TypeDesc.int.injEq]at u;split at h
    next hk=>obtain⟨rfl,B⟩:=hk;subst u;cases h;exact⟨n,eR.one (.int _ n),show _/\_ by simpa [Lit.wf,IntKind.min,IntKind.max,IntKind.signed,IntKind.bits]using B,λb C=>C.lit _⟩
    simp at h
   all_goals (rename_i u;cases u)
 shape h:=by simp only[show bz.agg Int=false from rfl];exact qq hu Zc Zc h
theorem Reads.bool {t:TypeId} (hu:P.underlying t=some .bool) (hc:P.cellsOf t=1):Reads P t Bool where
 size:=hc
 rd {H enc w base spare held u cs d C} h:=by
  cases u with
  | zero=>simp[DataW.trod]at h
  | succ u=>
   simp only[DataW.trod,hu]at h;split at h <;> first|(simp at h;done)|skip
   next b _=>cases h;exact⟨b,eR.one (.bool b),trivial,λb B=>B.lit _⟩
   all_goals (rename_i z;cases z)
 shape h:=by simp only[show bz.agg Bool=false from rfl];exact qq hu Zc Zc h
theorem Reads.str {t:TypeId} (hu:P.underlying t=some .string) (hc:P.cellsOf t=1):Reads P t ByteArray where
 size:=hc
 rd {H enc w base spare held u cs d D} h:=by
  cases u with
  | zero=>simp[DataW.trod]at h
  | succ u=>
   simp only[DataW.trod,hu]at h;split at h <;> first|(simp at h;done)|skip
   all_goals (first|(rename_i z;cases z;done)|skip)
   rename_i s _;split at h
   next B=>cases h;exact⟨s,eR.one (.str s),B,λb C=>C.str _⟩
   simp at h
 shape h:=by simp only[show bz.agg ByteArray=false from rfl];exact qq hu Zc Zc h
theorem OS {w:World} {a:Addr} {n:Nat} {v:Value} (h:w.cell? (a.add n)=some v) (B:n=0\/True):∃c el fr,w.heap[a.block]? = some (.cells c el fr)/\c[a.off+n]? = some v/\(n=0->a.spot=none):=by
 unfold World.cell? Addr.add at h
 by_cases t:n=0
 .subst t;simp only[if_true]at h;split at h
  .rename_i c el fr u;split at h
   .simp at h
   rename_i z;exact⟨c,el,fr,u,h,λ_=>by simpa using z⟩
  simp at h
 simp only[if_neg t]at h;split at h
 next c el fr u=>simp only[Option.isSome_none,Bool.false_eq_true,if_false]at h;exact⟨c,el,fr,u,h,λe=>absurd e t⟩
 simp at h
def uV (P:Program) (t:TypeId) (α:Type) [bz α] [b_ α] (u:Nat):Prop:=
 ∀{H:Type} {enc:TypeId×Value->H} {w:World} {base:Nat} {spare:Nat->Bool} {held:Bool} {cs:a_ Value} {d:DataW H} {z:a_ MemPlace},
  DataW.trod enc P w base spare held u t cs=some (d,z)->∃a:α,eR (snap w) (cells a) cs/\b_.ok a/\∀b:DataW H->Nat,sP b->b_.wt a<=b d
theorem uV.sl {t e:TypeId} {α:Type} [bz α] [b_ α] {J:Nat} (hu:P.underlying t=some (.slice e)) (af:P.cellsOf e=bz.size α) (U:0<bz.size α) (hr:uV P e α J):uV P t (Sl α) (J+1):=by
 intro H enc w base spare held cs d ps h;simp only[DataW.trod,hu]at h;split at h <;> first|(simp at h;done)|skip
 all_goals (first|(rename_i I;cases I;done)|skip)
 .cases h;exact⟨.nil,eR.one .bN,⟨λx W=>by simp[Sl.l]at W,by simp⟩,λb X=>X.nil⟩
 rename_i e' a len cap I;cases I;split at h
 .rename_i Y;obtain⟨elems,ah,h⟩:=ζg.1 h;obtain⟨rest,_,h⟩:=ζf.1 h;cases h;obtain⟨Z,aa⟩:=BO ah;simp only[List.length_range]at Z;have W:∀i,i<len->∃x:α,∃u:a_ Value,w.cells? base (a.add (i*P.cellsOf e)) (P.cellsOf e)=some u/\eR (snap w) (cells x) u/\b_.ok x/\∀b:DataW H->Nat,sP b->∀y,elems[i]? = some y->b_.wt x<=b y.1:=λi L=>by
   have:=aa i i (elems[i]' Za) (by simp[L]) (ζd Za)
   obtain⟨u,h1,O⟩:=ζg.1 this;obtain⟨x,W,hk,X⟩:=hr (show _=some ((elems[i]' Za).1,(elems[i]' Za).2)from O)
   exact⟨x,u,h1,W,hk,λb Q y hy=>by
    rw[ζd Za]at hy;cases hy;exact X b Q⟩
  have ab:∀n,n<=len->∃z:a_ α,z.length=n/\(∀i x,z[i]? = some x->∃u:a_ Value,w.cells? base (a.add (i*P.cellsOf e)) (P.cellsOf e)=some u/\eR (snap w) (cells x) u)/\(∀x∈z,b_.ok x)/\∀b:DataW H->Nat,sP b->(z.map b_.wt).sum<=(((elems.take n).map (·.1)).map b).sum:=by
   intro n
   induction n with
   | zero=>intro _;exact⟨[],rfl,by simp,by simp,by simp⟩
   | succ n ih=>
    intro hn;obtain⟨z,h1,O,h5,h6⟩:=ih Za
    obtain⟨x,u,h3,h4,h7,h8⟩:=W n Za
    refine⟨z++[x],by simp[h1],λi y hy=>?_,λy hy=>?_,λb Q=>?_⟩
    rotate_left
    .rcases List.mem_append.1 hy with hy|hy
     .exact h5 y hy
     simp at hy;subst hy;exact h7
    .have k1:=h6 b Q;have k2:=h8 b Q _ (ζd Za)
     rw[List.take_succ,ζd (by omega:n<elems.length)]
     simp only[List.map_append,List.sum_append,Option.toList_some,List.map_cons,List.map_nil,List.sum_cons,List.sum_nil];omega
    by_cases L:i<z.length
    .rw[List.getElem?_append_left L]at hy;exact O i y hy
    rw[List.getElem?_append_right Za]at hy
    have:i-z.length=0:=by
     cases hk:i-z.length with
     | zero=>rfl
     | succ k=>rw[hk]at hy;simp at hy
    rw[this]at hy;simp at hy;subst hy;have:i=n:=by omega
    subst this;exact⟨u,h3,h4⟩
  obtain⟨z,C,ai,ad,aj⟩:=ab len (Nat.le_refl _);refine⟨.row z,eR.one ?_,⟨ad,by simp⟩,λb Q=>?_⟩
  rotate_left
  .have k:=aj b Q;rw[List.take_of_length_le Za]at k
   have k2:=Q.slice (elems.map (·.1)) (rest.map (·.1));show (z.map b_.wt).sum+1<=_;omega
  show dW _ (.fsl (bz.size α) (rows z)) _
  cases hl:z with
  | nil=>
   subst hl;simp at C;subst C;exact .fsl0 _ _ _
  | cons x0 xr=>
   rw[<-hl];have ap:0<len:=by rw[<-C,hl];simp
   have S:∀i x,z[i]? = some x->∀j y,(cells x)[j]? = some y->∃v,w.cell? ((a.add (i*bz.size α)).add j)=some v/\dW (snap w) y v:=by
    intro i x L j y hy;obtain⟨u,h1,O⟩:=ai i x L;rw[af]at h1;unfold World.cells? at h1;split at h1
    .obtain⟨g1,g2⟩:=BO h1;have hj:j<bz.size α:=by rw[<-gH x];exact(ζe.1 hy).1
     obtain⟨v,hv⟩:∃v,u[j]? = some v:=⟨_,ζd (by rw[g1];simpa using hj)⟩
     exact⟨v,g2 j j v (by simp[hj]) hv,O.2 j y v hy hv⟩
    simp at h1
   have ao:∀i j,(a.add (i*bz.size α)).add j=a.add (i*bz.size α+j)\/True:=λ_ _=>.inr trivial
   have B:∀i x,z[i]? = some x->∀j y,(cells x)[j]? = some y->∃c el fr v,w.heap[a.block]? = some (.cells c el fr)/\c[a.off+i*bz.size α+j]? = some v/\dW (snap w) y v/\(i=0->j=0->a.spot=none):=by
    intro i x L j y hy;obtain⟨v,h1,O⟩:=S i x L j y hy;obtain⟨c,el,fr,g1,g2,g3⟩:=OS h1 (.inr trivial);have X:(a.add (i*bz.size α)).block=a.block:=by unfold Addr.add;split <;> rfl
    have ho:(a.add (i*bz.size α)).off=a.off+i*bz.size α:=by unfold Addr.add;split <;> simp_all
    rw[X]at g1;rw[ho]at g2;refine⟨c,el,fr,v,g1,g2,O,?_⟩;rintro rfl rfl;have:=g3 rfl;simpa [Addr.add]using this
   have ak:∃y,(cells x0)[0]? = some y:=⟨_,ζd (by rw[gH];exact U)⟩
   obtain⟨y0,al⟩:=ak;obtain⟨c,el,fr,v0,D,_,_,G⟩:=B 0 x0 (by rw[hl];rfl) 0 y0 al
   have G:=G rfl rfl;obtain⟨b,o,sp⟩:=a;simp only at G D;subst G;have hI:snap w b=some (.cells c):=by unfold snap;rw[D]
   have T:(rows z).length=len:=by rw[fW,C]
   rw[<-T];refine .fsl _ _ b o cap c hI (by rw[T];exact Y.2.1) (λr hr=>?_) (λr hr y hy=>?_) ?_ (λi j r y v hr hy hv=>?_)
   .obtain⟨x,_,rfl⟩:=List.mem_map.1 hr;exact gH x
   .obtain⟨x,_,rfl⟩:=List.mem_map.1 hr;exact List.all_eq_true.1 (tJ x) y hy
   .
    obtain⟨xl,ae⟩:∃x,z[len-1]? = some x:=⟨_,ζd Za⟩
    obtain⟨yl,am⟩:∃y,(cells xl)[bz.size α-1]? = some y:=⟨_,ζd (by rw[gH];omega)⟩
    obtain⟨c2,_,_,v2,k1,k2,_,_⟩:=B (len-1) xl ae (bz.size α-1) yl am;simp only at k1 k2;rw[D]at k1;cases k1;have:=(Array.getElem?_eq_some_iff.1 k2).1;rw[T];have e:len*bz.size α=(len-1)*bz.size α+bz.size α:=by
     obtain⟨m,rfl⟩:∃m,len=m+1:=⟨len-1,by omega⟩
     simp[Nat.add_mul]
    omega
   simp only[rows,List.getElem?_map,ζf]at hr;obtain⟨x,an,rfl⟩:=hr;obtain⟨c2,_,_,v2,k1,k2,k3,_⟩:=B i x an j y hy;simp only at k1 k2;rw[D]at k1;cases k1;rw[hv]at k2;cases k2;exact k3
 simp at h
theorem uV.XX {t e:TypeId} {α:Type} [bz α] [b_ α] {u:Nat} (hu:P.underlying t=some (.slice e)) (D:P.cellsOf e=bz.size α) (B:0<bz.size α) (hr:∀g,g<u->uV P e α g):uV P t (Sl α) u:=by
 cases u with
 | zero=>intro H enc w base spare held cs d z h;simp[DataW.trod]at h
 | succ f=>exact uV.sl hu D B (hr f (Nat.lt_succ_self f))
theorem Reads.sl {t e:TypeId} {α:Type} [bz α] [b_ α] [Reads P e α] (hu:P.underlying t=some (.slice e)) (hc:P.cellsOf t=1) (u:0<bz.size α):Reads P t (Sl α) where
 size:=hc
 rd h:=uV.XX hu (Reads.size (α:=α)) u (λ_ _ {_ _ _ _ _ _ _ _ _}=>Reads.rd (P:=P) (t:=e) (α:=α)) h
 shape h:=by simp only[show bz.agg (Sl α)=false from rfl];exact qq hu Zc Zc h
theorem eR.seg {I:ck} {acc xs:a_ V} {cs:a_ Value} {o n:Nat} (h:eR I acc (cs.take o)) (k:eR I xs ((cs.drop o).take n)):eR I (acc++xs) (cs.take (o+n)):=by
 rw[List.take_add];exact h.append k
theorem eR.fin {I:ck} {xs:a_ V} {cs:a_ Value} {n:Nat} (h:eR I xs (cs.take n)) (u:cs.length=n):eR I xs cs:=by
 rw[List.take_of_length_le Za]at h;exact h
theorem uV.st {t:TypeId} {fs:Array Field} {α:Type} [bz α] [b_ α] {u:Nat} (hu:P.underlying t=some (.struct fs)) (hc:P.cellsOf t=bz.size α)
 (h:∀{H:Type} {enc:TypeId×Value->H} {w:World} {base:Nat} {spare:Nat->Bool} {held:Bool} {cs:a_ Value} {l:a_ (DataW H×a_ MemPlace)},cs.length=bz.size α ->
  (fs.toList.mapM λf=>DataW.trod enc P w base spare held u f.type ((cs.drop f.offset).take (P.cellsOf f.type)))=some l->∃a:α,eR (snap w) (cells a) cs/\b_.ok a/\∀b:DataW H->Nat,sP b->b_.wt a<=((l.map (·.1)).map b).sum+1):uV P t α (u+1):=by
 intro H enc w base spare held cs d G hr;simp only[DataW.trod,hu]at hr;split at hr <;> first|(simp at hr;done)|skip
 all_goals (first|(rename_i z;cases z;done)|skip)
 rename_i C;obtain⟨l,h1,D⟩:=ζf.1 hr;cases D;obtain⟨a,k1,k2,k3⟩:=h (by rw[C,hc]) h1
 exact⟨a,k1,k2,λb B=>Nat.le_trans (k3 b B) (B.agg _)⟩
theorem Reads.of {t:TypeId} {fs:Array Field} {α:Type} [bz α] [b_ α] (hu:P.underlying t=some (.struct fs)) (hc:P.cellsOf t=bz.size α) (B:bz.agg α=true) (h:∀u,uV P t α u):Reads P t α where
 size:=hc
 rd hr:=h _ hr
 shape hv:=by
  rw[if_pos B];unfold Value.okWide at hv;rw[hu]at hv;obtain⟨cs,h1,_⟩:=hv;exact⟨cs,h1⟩
theorem Reads.st {t:TypeId} {fs:Array Field} {α:Type} [bz α] [b_ α] (hu:P.underlying t=some (.struct fs)) (hc:P.cellsOf t=bz.size α) (B:bz.agg α=true)
 (h:∀{H:Type} {enc:TypeId×Value->H} {w:World} {base:Nat} {spare:Nat->Bool} {held:Bool} {u:Nat} {cs:a_ Value} {l:a_ (DataW H×a_ MemPlace)},cs.length=bz.size α ->
  (fs.toList.mapM λf=>DataW.trod enc P w base spare held u f.type ((cs.drop f.offset).take (P.cellsOf f.type)))=some l->∃a:α,eR (snap w) (cells a) cs/\b_.ok a/\∀b:DataW H->Nat,sP b->b_.wt a<=((l.map (·.1)).map b).sum+1):Reads P t α:=
 Reads.of hu hc B λu=>by
  cases u with
  | zero=>intro H enc w base spare held cs d z h;simp[DataW.trod]at h
  | succ f=>exact uV.st hu hc h
theorem Reads.arg {t:TypeId} {α:Type} [bz α] [b_ α] [Reads P t α] {H:Type} {u:TypeId×Value->H} {w:World} {base:Nat} {spare:Nat->Bool} {held:Bool} {r:_root_.Go.Reach} {b:Nat} {v:Value} {d:DataW H} {ps:a_ MemPlace}
 (hv:Value.okWide P w r b t v) (h:DataW.Trod u P w base spare held t v d ps):∃a:α,bE (snap w) (λ_=>none) (enc a) v/\b_.ok a/\∀b:DataW H->Nat,sP b->b_.wt a<=b d:=by
 obtain⟨I,h⟩:=h;obtain⟨a,⟨h1,B⟩,D,G⟩:=Reads.rd (P:=P) (t:=t) (α:=α) h;have z:=Reads.shape (P:=P) (t:=t) (α:=α) hv;refine⟨a,?_,D,G⟩
 cases C:bz.agg α with
 | true=>
  rw[C,if_pos rfl]at z;obtain⟨cs,rfl⟩:=z;rw[AU C];refine .c _ _ (.agg _ _ (by simpa [Value.cells]using h1) (λj x y J L=>B j x y J (by simpa [Value.cells]using L)))
 | false=>
  rw[C]at z;simp only[Bool.false_eq_true,if_false]at z;rw[z]at B;rw[wR C]at B;exact .c _ _ (B 0 _ _ rfl rfl)
end
end Go.VE
namespace Go.VE
variable [bO]
open Go.ChangeShapes Go.WideShapes Go.ChangeAt Go.RowKit
structure HZ (w w':World):Prop where
 kept:w.keptBut w' (λ_=>False)
 fz:∀a:Addr,a.block<w.heap.size->w'.frozen? a=w.frozen? a
theorem FM {I I':ck} {μ':Mu} {H':bn} {w w':World} (s:Step I (λ_=>none) [] w I' μ' H' w'):HZ w w':=by
 have z:∀b,b<w.heap.size->w'.heap[b]? = w.heap[b]? := λb u=>s.frame b u (by rintro⟨id,p,ob,h,_⟩;simp at h)
 refine⟨⟨s.os,s.out.out,λi B=>?_⟩,λa u=>?_⟩
 .rw[z i B];split
  next h1 t=>rw[h1]at t;cases t;exact⟨rfl,rfl,rfl,λ_ _=>rfl⟩
  next h1 t=>rw[h1]at t;cases t;exact .inr ⟨rfl,rfl⟩
  rfl
 unfold World.frozen?;rw[z _ u]
theorem GW {P:Program} {call:dz} (hc:kz P call) {f:FuncId} {args:a_ V} {b:Bool} {H':bn} (h:call (.fn f) args []=some (.bool b,H')) {w:World} {vs:a_ Value}
 (B:tZ (snap w)) (hv:cA (snap w) (λ_=>none) args vs):Calls P f vs.toArray w λe w'=>e=.returned (.bool b)/\HZ w w':=by
 intro cs;have k:=((hc.fn f args [] _ H' h).2 (snap w) (λ_=>none) w vs (OH B) hv)
 obtain⟨e,w',fr,⟨u,I',μ',rfl,hu,_,C⟩,t,h1,D⟩:=k.2 cs (by simp[Fence.room,fr])
 refine⟨_,w',fr,⟨?_,FM C⟩,t.comes,h1,D⟩
 cases hu with
 | c _ _ z=>cases z;rfl
variable {P:Program} {H:Type} {enc:TypeId×Value->H}
theorem FN {B:a_ TypeId} {vs:a_ Value} {ds:a_ (DataW H)} {ps:a_ MemPlace} {w w':World} (hg:HZ w w') (h:DataW.TrodAll enc P w 0 (λ_=>true) true B vs ds ps):DataW.TrodAll enc P w' 0 (λ_=>true) true B vs ds ps:=by
 have z:∀p:MemPlace,p.block<w.heap.size->w.sameAt w' p:=by
  intro p C;have k:=hg.kept.2.2 p.block C
  cases p with
  | cell b off=>
   simp only[World.sameAt,World.cell?];simp only[MemPlace.block]at k C;split at k
   .rename_i c t fr c' G D h1 u;rw[h1,u];simp only;have:=k.2.2.2 off (λx=>x)
    simpa using this
   next h1 u=>rw[h1,u]
   rw[k]
  | map b=>
   simp only[World.sameAt];simp only[MemPlace.block]at k C;split at k
   .rename_i c t fr c' G D h1 u;obtain⟨rfl,rfl,O,I⟩:=k;rw[h1,u];have:c'=c:=Array.ext_getElem? λi=>I i (λx=>x)
    rw[this]
   .rename_i h1 u;rcases k with k|⟨rfl,rfl⟩
    .exact k.elim
    rw[h1,u]
   exact k
 induction B generalizing vs ds ps with
 | nil=>cases vs <;> cases ds <;> simp_all [DataW.TrodAll]
 | cons t B J=>
  cases vs with
  | nil=>simp[DataW.TrodAll]at h
  | cons v vs=>
   cases ds with
   | nil=>simp[DataW.TrodAll]at h
   | cons d ds=>
    obtain⟨p,q,⟨n,h1⟩,u,rfl⟩:=h;exact⟨p,q,⟨n,DataW.trod_carry n _ _ _ h1 λx L=>z x (DataW.trod_lt n _ _ _ h1 x L)⟩,J u,rfl⟩
theorem M7 {T:TypeId->Prop} (K:Kids P T) (hz:∀t e,T t->P.underlying t=some (.slice e)->0<P.cellsOf e) {f:Func} {s:ChangeSpec} {apart fresh handsOn again:Bool} {W D:World} {args:Array Value} {ds gs:a_ (DataW H)} {before:a_ MemPlace} {tb:TypeId}
 (hT:∀t∈f.params.toList,T t) (u:s.vars=[]) (B:s.fn H (ds++gs)={ results:=[.lit (.bool true)],args:=ds }) (G:f.resultTypes=#[tb]) (U:P.underlying tb=some .bool)
 (Y:DataW.Whole enc P f.params.toList s.vars apart W args.toList ds gs before) (hg:HZ W D):s.post enc P f apart fresh handsOn again W args (.bool true) D:=by
 have C:=Y;obtain⟨p,q,Z,S,rfl,L,O⟩:=Y;rw[u]at S;obtain⟨rfl,rfl⟩:=trodVars_none S;have hr:∀(b:Nat) (z:Nat->Bool) (hd:Bool),DataW.TrodAll enc P D b z hd f.resultTypes.toList ((Value.bool true).resultList f.resultTypes.size) (s.fn H (ds++[])).results []:=λ_ _ _=>by
  rw[G,B];exact trodAll_cons_mk (shut_bool U _) trodAll_mk0
 have X:∀z:Nat->Bool,(∀x∈p++[],z x.block=true)->DataW.TrodAll enc P D 0 z true f.params.toList args.toList (s.fn H (ds++[])).args p:=λz Q=>by
  rw[B];exact DataW.TrodAll.respare K hz hT (FN hg Z) (λx w=>Q x (List.mem_append_left _ w))
 have hv:∀z:Nat->Bool,DataW.TrodVars enc P D z s.vars (s.fn H (ds++[])).vars []:=λz=>by rw[B,u];rfl
 have I:=λx w=>C.lt x w
 refine⟨ds,[],p++[],[],p,[],C,hr _ _ _,X _ λx w=>by simpa using I x w,hv _,World.keptBut_mono (λx w=>w.elim) hg.kept,λ_=>⟨ok_one G rfl (okWide_bool_mk U _),?_⟩⟩
 refine⟨_,_,[]++p++[],⟨[]++p,[],trodAll_append (X _ λ_ _=>rfl) (hr _ _ _),hv _,rfl,λb off w=>?_,λh=>by simpa using O h⟩,λx w _=>by simpa using w⟩
 have J:MemPlace.cell b off∈p++[]:=by simpa using w
 rw[hg.fz _ (I _ J)];exact L b off J
end Go.VE
namespace Go.VE
variable [bO]
instance:b_ U8 where
 wt _:=1
 ok n:=0<=n.v/\n.v<=255
theorem Reads.u8 {P:Program} {t:TypeId} (hu:P.underlying t=some (.int .u8)) (hc:P.cellsOf t=1):Reads P t U8 where
 size:=hc
 rd {H enc w base spare held z cs d D} h:=by
  cases z with
  | zero=>simp[DataW.trod]at h
  | succ z=>
   simp only[DataW.trod,hu]at h;split at h <;> first|(simp at h;done)|skip
   next u=>cases u
   .rename_i k G n u;simp only[ζa,TypeDesc.int.injEq]at u;split at h
    next hk=>obtain⟨rfl,B⟩:=hk;subst u;cases h;exact⟨⟨n⟩,eR.one (.int _ n),show _/\_ by simpa [Lit.wf,IntKind.min,IntKind.max,IntKind.signed,IntKind.bits]using B,λb C=>C.lit _⟩
    simp at h
   all_goals (rename_i u;cases u)
 shape h:=by simp only[show bz.agg U8=false from rfl];exact qq hu Zc Zc h
theorem LO {m:Tb bu} {n:Nat} {rs:a_ SV} {b:Bool} (h:cO m n rs=some [.bool b]):rs=[.v (.bool b)]:=by
 cases rs with
 | nil=>cases n <;> simp[cO]at h
 | cons x r=>
  have h1:shut m n x=some (.bool b)/\cO m n r=some []:=by
   unfold cO at h;split at h
   next y s h1 u=>simp only[ζa,List.cons.injEq]at h;obtain⟨rfl,rfl⟩:=h;exact⟨h1,u⟩
   cases h
  have u:r=[]:=by
   cases r with
   | nil=>rfl
   | cons y r=>
    have:=h1.2;unfold cO at this;split at this <;> simp at this
  subst u;have t:=h1.1
  cases x with
  | v y=>unfold shut at t;simp only[ζa]at t;rw[t]
  | own d=>unfold shut jK at t;(repeat' split at t) <;> cases t
  | ptr d o=>
   cases n with
   | zero=>simp[shut]at t
   | succ n=>
    unfold shut at t;split at t <;> try cases t
    split at t <;> try cases t
    split at t <;> cases t
  | mp d=>unfold shut at t;split at t <;> cases t
  | clo f a b=>
   cases n with
   | zero=>simp[shut]at t
   | succ n=>unfold shut at t;split at t <;> cases t
  | tup l=>
   cases n with
   | zero=>simp[shut]at t
   | succ n=>unfold shut at t;obtain⟨_,_,w⟩:=ζf.1 t;cases w
  | _=>cases n <;> simp[shut]at t
theorem Ql {S:Sys} {T:pe} (u:vq S T) (B:∀f a b xs,S.items f a b=some xs->gI S f a b xs) {f:FuncId} {xs:a_ V} (hg:V.cQ xs=true) (h:lW (dc S T) f xs=some [.bool true]) :
 ∃n H',run S.E n (.fn f) xs []=some (.bool true,H'):=by
 unfold lW at h;obtain⟨⟨rs,m⟩,h1,t⟩:=ζg.1 h;have:=LO t;simp only at this;subst this;exact Tq u B hg h1 rfl
theorem KZ {S:Sys} {T:pe} {P:Program} (u:vq S T) (B:∀f a b xs,S.items f a b=some xs->gI S f a b xs) (hc:∀n,kz P (run S.E n)) {f:FuncId} {xs:a_ V} (hg:V.cQ xs=true) (h:lW (dc S T) f xs=some [.bool true])
 {w:World} {args:Array Value} (D:tZ (snap w)) (hv:cA (snap w) (λ_=>none) xs args.toList):Calls P f args w λe w'=>e=.returned (.bool true)/\HZ w w':=by
 obtain⟨n,H',hr⟩:=Ql u B hg h;have:=GW (hc n) hr D hv;simpa using this
theorem Reads.LI {P:Program} {t:TypeId} {α:Type} [bz α] [b_ α] [Reads P t α] {H:Type} {u:TypeId×Value->H} {w:World} {base b:Nat} {spare:Nat->Bool} {held:Bool} {v:Value} {d:DataW H} {ps:a_ MemPlace} {params:Array TypeId} {args:Array Value}
 (B:∀(j:Nat) t v,params[j]? = some t->args[j]? = some v->Value.okWide P w .any b t v) (j:Nat) (h1:params[j]? = some t) (D:args[j]? = some v) (h:DataW.Trod u P w base spare held t v d ps) :
 ∃a:α,bE (snap w) (λ_=>none) (enc a) v/\b_.ok a/\∀b:DataW H->Nat,sP b->b_.wt a<=b d:=Reads.arg (B j t v h1 D) h
end Go.VE
namespace Go.VE
theorem Qw {w:World} {g:Nat} {l:a_ Int} (h:∀i,i<l.length->w.cell? ⟨g,i,none⟩=some (.int .i64 (l.getD i 0))) (D:0<l.length):dW (snap w) (.fptr (l.map (V.int .i64))) (.pointer (some ⟨g,0,none⟩)):=by
 have h1:=h 0 D;unfold World.cell? at h1;split at h1
 .rename_i c t fr u;have G:snap w g=some (.cells c):=by unfold snap;simp only at u;rw[u]
  have hc:∀i,w.cell? ⟨g,i,none⟩=c[i]? := λi=>by unfold World.cell?;simp only at u ⊢;rw[u];rfl
  refine .fptr _ _ _ c G ?_ ?_
  .rw[Nat.zero_add,List.length_map];have:=h (l.length-1) Za
   rw[hc]at this;have:=(Array.getElem?_eq_some_iff.1 this).1;omega
  intro j y v B hv;rw[Nat.zero_add,<-hc]at hv;rw[List.getElem?_map]at B;obtain⟨z,C,rfl⟩:=ζf.1 B;have I:=(ζe.1 C).1;rw[h j I]at hv;cases hv;have:l.getD j 0=z:=by simp[List.getD,C]
  rw[this];exact .int _ _
 cases h1
variable [bO]
theorem cH (n:Nat) (h:n<9223372036854775807):IntKind.wrap .i64 ((n:Int)+1)=((n+1:Nat):Int):=by
 simp[IntKind.wrap,IntKind.bits,IntKind.signed];omega
theorem mT (n:Int) (h1:-9223372036854775808<=n) (u:n<=9223372036854775807):IntKind.wrap .i64 n=n:=by
 simp[IntKind.wrap,IntKind.bits,IntKind.signed];omega
section
variable {α β:Type} {P:β->Prop}
theorem qO (s:Sl α) (i:Nat):idx s (i:Int)=s.l[i]? := by
 unfold idx;rw[if_pos Za];rfl
theorem bG {s:Sl α} {i:Nat} (h:i<s.l.length):idx s (i:Int)=some s.l[i]:=by rw[qO,ζd h]
theorem VQ {s:Sl α} {i:Int} (u:0<=i):idx s i=s.l[i.toNat]? := by unfold idx;rw[if_pos u]
theorem uQ (s:Sl α) (i:Nat) (h:i<=s.l.length):∃x,gm s none (some (i:Int))=some x/\x.l=s.l.take i:=by
 unfold gm dH;simp only[Option.getD_none,Option.getD_some];rw[if_pos Za]
 cases s <;> simp[Sl.l]at h ⊢ <;> simp[h]
theorem bJ {γ:Type} {a b:γ}:bp true a b=a:=rfl
theorem bL {γ:Type} {a b:γ}:bp false a b=b:=rfl
theorem lz (a b:Bool):bp a (some b) (some false)=some (a&&b):=by cases a <;> rfl
theorem jD (a b:Bool):bp a (some true) (some b)=some (a||b):=by cases a <;> rfl
theorem s8 (a:Bool) (x y:β):bp a (some x) (some y)=some (if a then x else y):=by cases a <;> rfl
end
def place {α:Type} (f:α->Bool) (l:a_ α):Int:=match l.findIdx? f with
 | some i=>i
 | none=>-1
theorem Am {α:Type} {f:α->Bool} {l:a_ α} {i:Nat} (h:∀j,j<i->∀x,l[j]? = some x->f x=false) (B:l.length<=i):l.findIdx? f=none:=by
 rw[List.findIdx?_eq_none_iff];intro x u;obtain⟨j,t⟩:=List.getElem?_of_mem u;have:j<l.length:=(ζe.1 t).1;exact h j Za x t
theorem Jc {α:Type} {f:α->Bool} {l:a_ α} {i:Nat} {x:α} (h:∀j,j<i->∀x,l[j]? = some x->f x=false) (u:l[i]? = some x) (B:f x=true):l.findIdx? f=some i:=by
 rw[List.findIdx?_eq_some_iff_getElem];obtain⟨t,rfl⟩:=ζe.1 u;exact⟨t,B,λj w=>by rw[h j w _ (ζd Za)];simp⟩
theorem rN {α:Type} {step:Int->bf (Fw Int Unit Int)} {s:Sl α} {p:α->bf Bool} {f:α->Bool} (hp:∀x∈s.l,p x=some (f x)) (O:s.l.length<9223372036854775807)
 (J:∀i,step i=bp (decide (i<len s)) ((idx s i).bind λu=>(p u).bind λB=>bp B (some (.r i)) (some (.n (IntKind.wrap .i64 (i+1))))) (some (.x ()))) :
 (bM step 0).bind (Fw.elim (λ_=>some (-1)) (λe=>some e))=some (place f s.l):=by
 refine Wp.eq (eG (λi:Int=>∃n:Nat,i=n/\n<=s.l.length/\∀j,j<n->∀x,s.l[j]? = some x->f x=false) (λi:Int=>s.l.length-i.toNat) ⟨0,rfl,Nat.zero_le _,λj G=>absurd G Za⟩ ?_)
 rintro i ⟨n,rfl,I,w⟩;rw[J,cg];refine⟨λh=>?_,λh=>?_⟩
 .have t:n<s.l.length:=by simpa [len]using h
  rw[bG t,ζb,hp _ (List.getElem_mem t),ζb,cg];refine⟨λz=>?_,λz=>?_⟩
  .rw[bk];show Wp (some (n:Int)) _;rw[bk];unfold place;rw[Jc w (ζd t) z]
  rw[bk];refine⟨⟨n+1,cH n Za,by omega,λj G x C=>?_⟩,?_⟩
  .by_cases e:j=n
   .subst e;rw[ζd t]at C;cases C;exact z
   exact w j Za x C
  rw[cH n Za];simp;omega
 have D:s.l.length<=n:=by simpa [len]using h
 rw[bk];show Wp (some (-1:Int)) _;rw[bk];unfold place;rw[Am w D]
theorem rS {α:Type} (f:α->Bool) (l:a_ α):decide (place f l>=0)=l.any f:=by
 unfold place
 cases h:l.findIdx? f with
 | none=>
  rw[List.findIdx?_eq_none_iff]at h;have:l.any f=false:=by rw[List.any_eq_false];intro x t;simp[h x t]
  rw[this];rfl
 | some i=>
  obtain⟨u,w,_⟩:=List.findIdx?_eq_some_iff_getElem.1 h;have:l.any f=true:=List.any_eq_true.2 ⟨_,List.getElem_mem u,w⟩;rw[this];simp
theorem PV {α σ ε ρ:Type} {step:α->σ->bf (Fw σ ε ρ)} {l:a_ α} (I:Nat->σ->Prop) (B:ε->Prop) (D:ρ->Prop) {s:σ} (G:I 0 s)
 (h:∀i a s,l[i]? = some a->I i s->Wp (step a s) λw=>match w with|.n u=>I (i+1) u|.x e=>B e|.r b=>D b) :
 Wp (nV step l s) λw=>match w with|.n u=>I l.length u|.x e=>B e|.r b=>D b:=by
 have key:∀(r:a_ α) (i:Nat) (s:σ),l.drop i=r->i<=l.length->I i s->Wp (nV step r s) λw=>match w with|.n u=>I l.length u|.x e=>B e|.r b=>D b:=by
  intro r
  induction r with
  | nil=>
   intro i s hd J z;have:i=l.length:=by have:=List.drop_eq_nil_iff.1 hd;omega
   subst this;exact⟨_,rfl,z⟩
  | cons a r L=>
   intro i s hd J z;have t:i<l.length:=by
    apply Classical.byContradiction;intro S;rw[List.drop_eq_nil_of_le Za]at hd;cases hd
   have O:=List.drop_eq_getElem_cons t;rw[O]at hd;simp only[List.cons.injEq]at hd;obtain⟨w,Q,C⟩:=h i a s (by rw[ζd t,hd.1]) z
   simp only[nV,Q,ζb]
   cases w with
   | n u=>exact L (i+1) u hd.2 Za C
   | x e=>exact⟨_,rfl,C⟩
   | r b=>exact⟨_,rfl,C⟩
 exact key l 0 s rfl (Nat.zero_le _) G
theorem AS {α σ ε ρ γ:Type} {step:α->σ->bf (Fw σ ε ρ)} {l:a_ α} {fn:σ->bf γ} {u:ε->bf γ} {fr:ρ->bf γ} {P:γ->Prop} (I:Nat->σ->Prop) {s:σ} (B:I 0 s)
 (h:∀i a s,l[i]? = some a->I i s->Wp (step a s) λw=>match w with|.n D=>I (i+1) D|.x e=>Wp (u e) P|.r b=>Wp (fr b) P)
 (G:∀s,I l.length s->Wp (fn s) P):Wp ((nV step l s).bind (Fw.wN fn u fr)) P:=by
 rw[eY];refine(PV I _ _ B h).mono ?_;intro w t
 cases w with
 | n s=>exact G s t
 | x e=>exact t
 | r b=>exact t
end Go.VE
