/-
 Certificates; functions by hand; readings; plain laws.
-/
import Derived.JoinedCond
import Derived.ReadAgain
import Derived.WalkKit
import Derived.ProofKit
import Derived.OpenShut
import Derived.ChangeSame
import Derived.RowKit3
import Derived.Lib.LaidTab
import Derived.Test.YtknifbdijcocpaaGreatDoorV2
import Derived.Test.YtknifbdijcocpaaGreatDoorN2
import Derived.Test.YtknifbdijcocpaaGreatDoorS1
set_option linter.all false
open Nat(beq ble le_of_ble_eq_true le_refl reduceEqDiff zero_add zero_le)
open Option(getD_some map_some pure_def)
open List(all_cons all_eq_true append_assoc append_nil cons_append drop_zero getElem?_append_left getElem?_append_right getElem?_drop getElem?_map getElem?_of_mem getElem?_set_ne getElem?_set_self getElem?_take getElem_mem length_cons length_map length_range length_singleton map_cons map_nil mem_append mem_map mem_of_getElem? mem_range nil_append range range' replicate set_set take_of_length_le)
open Classical(choose_spec)
open Bool(false_eq_true)
open Go.IntKind(signed wrap)
open Go.VE.V(cV scalar)
open Go.DataW(Trod TrodAll trod)
open Go.Value(okWide)
open Go.World(cell? sameAt)
namespace Go.VE
variable[bY]
abbrev Cf:=Fo×L' Fm×St
section
variable(S:Sys)(c:b9){β:Type}(Q:Out×St->Lk β)
noncomputable abbrev b8(cf:Cf):Lk β:=rn S c Q cf.1 cf.2.1 cf.2.2
noncomputable def jq(n:Nat)(cf:Cf):Cf:=(iA S c n cf.1 cf.2.1 cf.2.2).getD cf
structure Ho where
 dr:Bool
 fr:List Nat
 d:Option Nat
 gd:Option (Nat×Bool)
 now:Bool
 k:K
 az:List Arg
 dd:List Nat
 l:List RO
 fs:List Fm
 st:St
noncomputable def fT(n:Nat)(cf:Cf):Lk Ho:=match iA S c n cf.1 cf.2.1 cf.2.2 with
 |some (.ops dr fr (⟨d,gd,now,k,az,dd,[]⟩::l),fs,st)=>match wanted st.g gd with
  |some true=>some ⟨dr,fr,d,gd,now,k,az,dd,l,fs,st⟩|_=>none
 |_=>none
noncomputable def nx(n:Nat)(cf:Cf)(φ:Ho->St):Cf:=match fT S c n cf with
 |some p=>(.ops p.dr (if p.dr then(match p.k with|.p _|.r _=>p.fr|_=>match p.d with|some d=>d::p.fr|none=>p.fr)else p.fr) p.l,p.fs,qy p.dd (φ p))|none=>cf
end
def vX(s:Nat)(b:Bool)(cf:Cf):Cf:=(cf.1,cf.2.1,{cf.2.2 with g:=bN cf.2.2.g s (.v (.bool b))})
def jmp(k:Nat)(fr:L' Nat)(cf:Cf)(st:St):Cf:=match cf with
 |(.ops dr _ l,fs,_)=>(.ops dr fr (l.drop k),fs,st)|_=>(.rt,[],st)
def uh:RC->L' Nat->L' Fm->St->Cf
 |c,[],fs,st=>(.rc c,fs,st)|.seq a b,i::p,fs,st=>if i=0 then uh a p (.seq b::fs) st else uh b p fs st|.cond _ a b,i::p,fs,st=>if i=0 then uh a p fs st else uh b p fs st|.block id c,_::p,fs,st=>uh c p (.blk id::fs) st|.gh _ c,_::p,fs,st=>uh c p fs st|.hg c g,_::p,fs,st=>uh c p (.gst g::fs) st|.loop c,_::p,_,st=>uh c p [] st|.each _ _ _ b,_::p,_,st=>uh b p [] st|c,_,fs,st=>(.rc c,fs,st)
section
variable{S:Sys}{c:b9}{β γ δ α:Type}{Q:Out×St->Lk β}{e:γ->Lk β}{cf:Cf}
theorem jT{n:Nat}{p:Ho}(h:fT S c n cf=some p):iA S c n cf.1 cf.2.1 cf.2.2=some (.ops p.dr p.fr (⟨p.d,p.gd,p.now,p.k,p.az,p.dd,[]⟩::p.l),p.fs,p.st)/\wanted p.st.g p.gd=some true:=by unfold fT at h;grind
theorem qV{n:Nat}{m:Lk δ}{φ:δ->Ho->St}{f:δ->Lk γ}{p:Ho}(hp:fT S c n cf=some p)(B:Le (m.bind λx=>some (φ x p)) (fM S c p.dr p.fr ⟨p.d,none,p.now,p.k,p.az,[],[]⟩ p.st))
 (h:∀x,m=some x->Le ((f x).bind e) (b8 S c Q (nx S c n cf (φ x)))):Le ((m.bind f).bind e) (b8 S c Q cf):=by
 obtain⟨a,u⟩:=jT hp;refine C6 a rfl u B λx w=>?_
 have:=h x w;simp[nx,hp]at this;omega
theorem vW{n:Nat}{m:Lk β}{φ:Ho->St}{p:Ho}(hp:fT S c n cf=some p)(B:fM S c p.dr p.fr ⟨p.d,none,p.now,p.k,p.az,[],[]⟩ p.st=some (φ p))
 (h:Le m (b8 S c Q (nx S c n cf φ))):Le m (b8 S c Q cf):=by
 obtain⟨a,u⟩:=jT hp;refine sM a rfl u B ?_;simp[nx,hp]at h;omega
theorem eP{α β:Type}{o:Lk α}{f:α->β}{b:β}(h:o.map f=some b):∃a,o=some a/\f a=b:=ζf.1 h
theorem yV(n:Nat){m:Lk β}{B:Cf}(h:Le m (b8 S c Q B))(D:iA S c n cf.1 cf.2.1 cf.2.2=some B:=by kernel_rfl):Le m (b8 S c Q cf):=BU D h
theorem bz(n s:Nat){t:Bool}{x y:Lk γ}(B:Le (x.bind e) (b8 S c Q (vX s true (jq S c n cf))))(D:Le (y.bind e) (b8 S c Q (vX s false (jq S c n cf))))
 (G:(iA S c n cf.1 cf.2.1 cf.2.2).map (λp=>bh p.2.2.g s)=some (some (.v (.bool t))):=by kernel_rfl):Le ((bg t x y).bind e) (b8 S c Q cf):=by
 obtain⟨p,u,a⟩:=eP G;have b:jq S c n cf=p:=by unfold jq;grind
 rw[b]at B D;refine BU u ?_;cases t
 .have:vX s false p=p:=by unfold vX;rw[qN a]
  rw[this]at D;exact D
 have:vX s true p=p:=by unfold vX;rw[qN a]
 rw[this]at B;exact B
theorem dA(n s:Nat){t:Bool}{x y:Lk γ}(B:Le (x.bind e) (b8 S c Q (vX s false (jq S c n cf))))(D:Le (y.bind e) (b8 S c Q (vX s true (jq S c n cf))))
 (G:(iA S c n cf.1 cf.2.1 cf.2.2).map (λp=>bh p.2.2.g s)=some (some (.v (.bool (!t)))):=by kernel_rfl):Le ((bg t x y).bind e) (b8 S c Q cf):=by
 obtain⟨p,u,a⟩:=eP G;have b:jq S c n cf=p:=by unfold jq;grind
 rw[b]at B D;refine BU u ?_;cases t
 .have:vX s true p=p:=by unfold vX;rw[show V.bool true=V.bool (!false)from rfl,qN a]
  rw[this]at D;exact D
 have:vX s false p=p:=by unfold vX;rw[show V.bool false=V.bool (!true)from rfl,qN a]
 rw[this]at B;exact B
theorem yE(n k:Nat)(fr:L' Nat)(st:δ->St){m:Lk δ}{f:δ->Lk γ}(B:Le (m.bind λr=>b8 S c Q (jmp k fr (jq S c n cf) (st r))) (b8 S c Q cf))(a:∀r,Le ((f r).bind e) (b8 S c Q (jmp k fr (jq S c n cf) (st r)))):Le ((m.bind f).bind e) (b8 S c Q cf):=UL _ B a
theorem bA(n:Nat){r:δ}{k:δ->Cf}(B:iA S c n cf.1 cf.2.1 cf.2.2=some (k r):=by kernel_rfl):Le ((some r).bind λr=>b8 S c Q (k r)) (b8 S c Q cf):=aaA B rfl
theorem a_{r:γ}{L:Lk β}(h:L=e r:=by kernel_rfl):Le ((some r).bind e) L:=Le.of_eq h
theorem zy(n:Nat){b:RC}{m:Lk (Out×Tb bJ)}(h:Le m (b8 S c xx (.rc b,[],(jq S c n cf).2.2)))(B:iA S c n cf.1 cf.2.1 cf.2.2=some (.nx,[],(jq S c n cf).2.2):=by kernel_rfl):Le m (b8 S c (Aa S c b) cf):=X5 B h
theorem Ns(n:Nat){o:Lk α}(A:Lk α->St){f:α->Lk γ}(B:∀x,o=some x->Le ((f x).bind e) (b8 S c Q ((jq S c n cf).1,(jq S c n cf).2.1,A (some x))))
 (D:iA S c n cf.1 cf.2.1 cf.2.2=some ((jq S c n cf).1,(jq S c n cf).2.1,A o):=by kernel_rfl):Le ((o.bind f).bind e) (b8 S c Q cf):=Zv D B
theorem gT.Xd{S:Sys}{T:qO}[bB δ]{f:FuncId}{A:α->L' V}{p:α->Lk δ}(B:T f=none)(a:S.E.keep f=false)(D:∀z r,p z=some r->S.yo f (A z)=some (enc r))
 :gT S (dc S T) f A (λr=>[enc r]) p false where
 k:=a
 h z:=by intro y u;obtain⟨r,b,w⟩:=ζg.1 u;cases w;have h:=Gj B a (D z r b);unfold jK;rw[h];exact vA 8 [enc r]
 s h:=by cases h
def MX:K->Lk BinOp
 |.p (.bin _ _ o)=>some o|_=>none
theorem Vu{k:K}{o:BinOp}(h:MX k=some o):∃t u,k=.p (.bin t u o):=by cases k with|p p=>cases p<;>simp[MX]at h;simp_all|_=>simp[MX]at h
def Oc:K->Lk BinOp
 |.p (.bin (some .slice) _ o)=>some o|_=>none
theorem Mc{k:K}{o:BinOp}(h:Oc k=some o):∃u,k=.p (.bin (some .slice) u o):=by unfold Oc at h;grind
def Xw:K->Lk (Nat×Nat×L' Nat)
 |.a (.buildSl sz ln _ ix)=>some (sz,ln,ix)|_=>none
theorem XD{k:K}{r:Nat×Nat×L' Nat}(h:Xw k=some r):∃z,k=.a (.buildSl r.1 r.2.1 z r.2.2):=by unfold Xw at h;grind
def YB:K->Lk (L' V)
 |.a (.alloc _ zero)=>some zero|_=>none
theorem Xy{k:K}{z:L' V}(h:YB k=some z):∃n,k=.a (.alloc n z):=by unfold YB at h;grind
section
variable[bB α]
theorem YV(k:IntKind)(n:Nat){s:Sl α}{i:Int}{f:α->Lk γ}(h:∀x,idx s i=some x->Le ((f x).bind e) (b8 S c Q (nx S c n cf λp=>cT p.st p.d (cp x))))
 (B:(fT S c n cf).map (λp=>(p.k,bW S.N p.st.g p.az))=some (.p (.idxS (bB.size α)),some [.v (bX s),.v (.int k i)]):=by kernel_rfl):Le (((idx s i).bind f).bind e) (b8 S c Q cf):=by
 obtain⟨p,u,a⟩:=eP B;simp at a;refine qV u ?_ h;rw[a.1];exact Le.of_eq (TS a.2 rfl)
theorem bP(n:Nat){s:Sl α}{i:Int}{f:α->Lk γ}(h:∀x,idx s i=some x->Le ((f x).bind e) (b8 S c Q (nx S c n cf λp=>cT p.st p.d (cp x))))
 (B:(fT S c n cf).map (λp=>(p.k,bW S.N p.st.g p.az))=some (.p (.idxS (bB.size α)),some [.v (bX s),.v (.int .i64 i)]):=by kernel_rfl):Le (((idx s i).bind f).bind e) (b8 S c Q cf):=YV .i64 n h B
theorem kZ(k:IntKind)(n u:Nat){s:Sl α}{i:Int}{f:Nat->Lk γ}(h:∀x,s.kS i=some x->Le ((f x).bind e) (b8 S c Q (nx S c n cf λp=>cT p.st p.d (.el u x 0))))
 (B:(fT S c n cf).map (λp=>(p.k,bW S.N p.st.g p.az,bh p.st.m u))=some (.p (.idxS (bB.size α)),some [.own u,.v (.int k i)],some (cF s)):=by kernel_rfl):Le (((s.kS i).bind f).bind e) (b8 S c Q cf):=by
 obtain⟨p,w,a⟩:=eP B;simp at a;refine qV w ?_ h;rw[a.1];exact Le.of_eq (Y1 a.2.1 a.2.2 rfl)
theorem rU(n u o sz:Nat)(a:Bool)(v:α->V){s:Sl α}{i:Nat}{f:α->Lk γ}(h:∀x,s.get i=some x->Le ((f x).bind e) (b8 S c Q (nx S c n cf λp=>cT p.st p.d (.v (v x)))))
 (B:(fT S c n cf).map (λp=>(p.k,bW S.N p.st.g p.az,bh p.st.m u,(!p.dr||p.now||fm p.fr [.el u i o])))=some (.r (.load sz a),some [.el u i o],some (cF s),true):=by kernel_rfl)(b:∀x:α,(cut (cells x) o sz).bind (mk a)=some (v x):=by intro _;rfl):Le (((s.get i).bind f).bind e) (b8 S c Q cf):=by
 obtain⟨p,z,w⟩:=eP B;simp only[ζc]at w;refine qV z ?_ h;rw[w.1];exact Le.of_eq (Xh w.2.1 w.2.2.2 w.2.2.1 b)
theorem Da(n u:Nat)(x:V){s:Sl α}{i:Nat}{a:α}{f:Sl α->Lk γ}(h:∀B,s.put i a=some B->Le ((f B).bind e) (b8 S c Q (nx S c n cf λp=>cT {p.st with m:=bN p.st.m u (cF B)} p.d (.v .undef))))
 (D:(fT S c n cf).map (λp=>(p.k,bW S.N p.st.g p.az,bh p.st.m u,(!p.dr||p.now),x.cells))=some (.l (.store (bB.size α)),some [.el u i 0,.v x],some (cF s),true,cells a):=by kernel_rfl):Le (((s.put i a).bind f).bind e) (b8 S c Q cf):=by
 obtain⟨p,w,b⟩:=eP D;simp only[ζc]at b;refine qV w ?_ h;rw[b.1];exact Le.of_eq (LR b.2.1 b.2.2.2.1 b.2.2.1 b.2.2.2.2 rfl)
theorem UF(n u:Nat){i:Int}{z:α}{f:Sl α->Lk γ}(h:∀B,tV i z=some B->Le ((f B).bind e) (b8 S c Q (nx S c n cf λp=>{p.st with g:=bN p.st.g u (.own u),m:=bN p.st.m u (cF B)})))
 (D:(fT S c n cf).map (λp=>(p.d,p.k,bW S.N p.st.g p.az,p.st.new u))=some (some u,.a (.makeSl (bB.size α) (cells z)),some [.v (.int .i64 i),.v (.int .i64 i)],true):=by kernel_rfl):Le (((tV i z).bind f).bind e) (b8 S c Q cf):=by
 obtain⟨p,w,a⟩:=eP D;simp at a;refine qV w ?_ h;rw[a.1,a.2.1];exact Le.of_eq (Xe a.2.2.1 rfl rfl a.2.2.2)
theorem aat(n u:Nat){i:Int}{z:α}{zero:L' V}{f:Sl α->Lk γ}(h:∀B,vK i z=some B->Le ((f B).bind e) (b8 S c Q (nx S c n cf λp=>{p.st with g:=bN p.st.g u (.own u),m:=bN p.st.m u (cF B)})))
 (D:(fT S c n cf).map (λp=>(p.d,p.k,bW S.N p.st.g p.az,p.st.new u))=some (some u,.a (.makeSl (bB.size α) (cells z)),some [.v (.int .i64 0),.v (.int .i64 i)],true):=by kernel_rfl):Le (((vK i z).bind f).bind e) (b8 S c Q cf):=by
 obtain⟨p,w,a⟩:=eP D;simp at a;obtain⟨b,I⟩:=jT w;obtain⟨dr,fr,d,gd,now,k,az,dd,l,fs,st⟩:=p;obtain⟨rfl,rfl,J,C⟩:=a;exact aar n dr fr (⟨some u,gd,now,.a (.makeSl (bB.size α) (cells z)),az,dd,[]⟩::l) fs st rfl C Zac λB G=>by have:=h B G;simp[nx,w]at this;simp_all
theorem n_(n o w u:Nat){s:Sl α}{x:α}{f:Sl α->Lk γ}(h:∀B,ga s x=some B->Le ((f B).bind e) (b8 S c Q (nx S c n cf λp=>{p.st with g:=bN p.st.g u (.own u),m:=bN (eo o p.st.m) u (cF B)})))
 (D:(fT S c n cf).map (λp=>(p.d,p.k,bW S.N p.st.g p.az,(!p.dr||p.now),bh p.st.m o,bh p.st.m w,St.new {p.st with m:=eo o p.st.m} u))=some (some u,.l (.append (bB.size α)),some [.own o,.own w],true,some (cF s),some (cF (.row [x])),true):=by kernel_rfl):Le (((ga s x).bind f).bind e) (b8 S c Q cf):=by
 obtain⟨p,z,a⟩:=eP D;simp only[ζc]at a;refine qV z ?_ h;rw[a.1,a.2.1];exact Le.of_eq (Zr a.2.2.1 a.2.2.2.1 a.2.2.2.2.1 a.2.2.2.2.2.1 rfl a.2.2.2.2.2.2)
theorem T9(n w u:Nat)(v:V)(x:α){m:Lk β}(h:Le m (b8 S c Q (nx S c n cf λp=>{p.st with g:=bN p.st.g u (.own u),m:=bN p.st.m u (cF (.row [x]))})))(a:v=.bM\/v=.dL:=by first|exact .inl rfl|exact .inr rfl)
 (B:(fT S c n cf).map (λp=>(p.d,p.k,bW S.N p.st.g p.az,(!p.dr||p.now),bh p.st.m w,p.st.new u))=some (some u,.l (.append (bB.size α)),some [.v v,.own w],true,some (cF (.row [x])),true):=by kernel_rfl):Le m (b8 S c Q cf):=by
 obtain⟨p,C,z⟩:=eP B;simp only[ζc]at z;refine vW C ?_ h;rw[z.1,z.2.1];exact Yv a z.2.2.1 z.2.2.2.1 z.2.2.2.2.1 rfl z.2.2.2.2.2
theorem b7(n:Nat)(s:Sl α){m:Lk β}(h:Le m (b8 S c Q (nx S c n cf λp=>cT p.st p.d (.v (.int .i64 s.l.length)))))
 (B:(fT S c n cf).map (λp=>(p.k,bW S.N p.st.g p.az))=some (.p .lenSl,some [.v (bX s)]):=by kernel_rfl):Le m (b8 S c Q cf):=by
 obtain⟨p,u,a⟩:=eP B;simp at a;refine vW u ?_ h;rw[a.1];exact UM a.2
theorem E6(n u:Nat)(s:Sl α){m:Lk β}(h:Le m (b8 S c Q (nx S c n cf λp=>cT p.st p.d (.v (.int .i64 s.l.length)))))
 (B:(fT S c n cf).map (λp=>(p.k,bW S.N p.st.g p.az,bh p.st.m u))=some (.p .lenSl,some [.own u],some (cF s)):=by kernel_rfl):Le m (b8 S c Q cf):=by
 obtain⟨p,w,a⟩:=eP B;simp at a;refine vW w ?_ h;rw[a.1];exact XK a.2.1 a.2.2
theorem I4(n:Nat){s:Sl α}{f:Bool->Lk γ}(h:∀t,s.isNil=some t->Le ((f t).bind e) (b8 S c Q (nx S c n cf λp=>cT p.st p.d (.v (.bool t)))))
 (B:(fT S c n cf).map (λp=>(Oc p.k,bW S.N p.st.g p.az))=some (some .eql,some [.v (bX s),.v .bM]):=by kernel_rfl):Le ((s.isNil.bind f).bind e) (b8 S c Q cf):=by
 obtain⟨p,w,a⟩:=eP B;simp at a;obtain⟨u,b⟩:=Mc a.1;refine qV w ?_ h;rw[b];exact Le.of_eq (Vq a.2)
theorem ZF(n:Nat){s:Sl α}{f:Bool->Lk γ}(h:∀t,s.isNil=some t->Le ((f t).bind e) (b8 S c Q (nx S c n cf λp=>cT p.st p.d (.v (.bool !t)))))
 (B:(fT S c n cf).map (λp=>(Oc p.k,bW S.N p.st.g p.az))=some (some .neq,some [.v (bX s),.v .bM]):=by kernel_rfl):Le ((s.isNil.bind f).bind e) (b8 S c Q cf):=by
 obtain⟨p,w,a⟩:=eP B;simp at a;obtain⟨u,b⟩:=Mc a.1;refine qV w ?_ h;rw[b];exact Le.of_eq (TE a.2)
theorem BR(n:Nat)(lo hi:Bool)(B:L' V){s:Sl α}{a b:Lk Int}{f:Sl α->Lk γ}(h:∀x,gj s a b=some x->Le ((f x).bind e) (b8 S c Q (nx S c n cf λp=>cT p.st p.d (.v (bX x)))))
 (D:(fT S c n cf).map (λp=>(p.k,bW S.N p.st.g p.az,mz lo hi B))=some (.p (.slice (bB.size α) lo hi),some (.v (bX s)::B.map .v),some (a,b)):=by kernel_rfl):Le (((gj s a b).bind f).bind e) (b8 S c Q cf):=by
 obtain⟨p,u,g⟩:=eP D;simp at g;obtain⟨i,C⟩:=jT u;obtain⟨dr,fr,d,gd,now,k,az,dd,l,fs,st⟩:=p;obtain⟨rfl,G,I⟩:=g;exact aay n dr fr (⟨d,gd,now,.p (.slice (bB.size α) lo hi),az,dd,[]⟩::l) fs st lo hi B rfl Zac λw z=>by have:=h w z;simp only[nx,u]at this;omega
theorem Zt(n:Nat)(lo hi:Bool)(u t:Nat)(B:L' V){s:Sl α}{a b:Lk Int}{f:Sl α->Lk γ}(h:∀x,pO s a b=some x->Le ((f x).bind e) (b8 S c Q (nx S c n cf λp=>{p.st with g:=bN p.st.g t (.own t),m:=bN (eo u p.st.m) t (cF x)})))
 (D:(fT S c n cf).map (λp=>(p.d,p.k,p.dr,bW S.N p.st.g p.az,mz lo hi B,bh p.st.m u,St.new {p.st with m:=eo u p.st.m} t))=some (some t,.p (.slice (bB.size α) lo hi),false,some (.own u::B.map .v),some (a,b),some (cF s),true):=by kernel_rfl):Le (((pO s a b).bind f).bind e) (b8 S c Q cf):=by
 obtain⟨p,w,i⟩:=eP D;simp at i;obtain⟨j,I⟩:=jT w;obtain⟨dr,fr,d,gd,now,k,az,dd,l,fs,st⟩:=p;obtain⟨rfl,rfl,rfl,J,L,O,z⟩:=i;exact YS n fr (⟨some t,gd,now,.p (.slice (bB.size α) lo hi),az,dd,[]⟩::l) fs st lo hi u B rfl z Zac λC G=>by have:=h C G;simp only[nx,w]at this;omega
theorem cu(n u:Nat)(x:α){m:Lk β}(h:Le m (b8 S c Q (nx S c n cf λp=>{p.st with g:=bN p.st.g u (.ptr u 0),m:=bN p.st.m u (bx x)})))
 (B:(fT S c n cf).map (λp=>(p.d,p.k,bW S.N p.st.g p.az,p.st.new u))=some (some u,.a .box,some [cv x],true):=by kernel_rfl):Le m (b8 S c Q cf):=by
 obtain⟨p,w,a⟩:=eP B;simp at a;refine vW w ?_ h;rw[a.1,a.2.1,Ah,a.2.2.1];simp only[ζb,a.2.2.2,if_true,oP,lQ,rj]
def stB(u o sz:Nat)(xs:L' SV)(p:Ho):St:=match bh p.st.m u with
 |some (.box cs)=>cT {p.st with m:=bN p.st.m u (.box (cs.take o++xs++cs.drop (o+sz)))} p.d (.v .undef)|_=>p.st
theorem oM(n u o:Nat)(x:α){m:Lk β}(h:Le m (b8 S c Q (nx S c n cf (stB u o (bB.size α) ((cells x).map .v)))))
 (B:(fT S c n cf).map (λp=>(p.k,bW S.N p.st.g p.az,(!p.dr||p.now),match bh p.st.m u with|some (.box cs)=>ble (o+bB.size α) cs.length|_=>false))=some (.l (.store (bB.size α)),some [.ptr u o,cv x],true,true):=by kernel_rfl):Le m (b8 S c Q cf):=by
 obtain⟨p,C,a⟩:=eP B;simp only[ζc]at a;refine vW C ?_ h;obtain⟨b,D,G,z⟩:=a;split at z
 next cs w=>have I:=le_of_ble_eq_true z;rw[b,yp,D];simp only[ζb,G,if_true,nY,w,putCells,lQ,gA,rj,I,and_self,map_some,stB]
 simp_all
theorem zu(n u:Nat)(xs:L' α){m:Lk β}(h:Le m (b8 S c Q (nx S c n cf λp=>{p.st with g:=bN p.st.g u (.own u),m:=bN p.st.m u (cF (.row xs))})))
 (B:(fT S c n cf).map (λp=>(p.d,Xw p.k,bW S.N p.st.g p.az,p.st.new u))=some (some u,some (bB.size α,xs.length,range' 0 xs.length),some ((xs.map enc).map .v),true):=by kernel_rfl):Le m (b8 S c Q cf):=by
 obtain⟨p,w,a⟩:=eP B;simp at a;obtain⟨b,G⟩:=jT w;obtain⟨dr,fr,d,gd,now,k,az,dd,l,fs,st⟩:=p;obtain⟨rfl,C,I,D⟩:=a;obtain⟨z,rfl⟩:=XD C;exact Abs n dr fr (⟨some u,gd,now,.a (.buildSl (bB.size α) xs.length z (range' 0 xs.length)),az,dd,[]⟩::l) fs st xs rfl D Zac (by
  simp[nx,w]at h;omega)
theorem aau(n:Nat)(x:α)(vs z:L' V)(pl:L' (Nat×Nat)){m:Lk β}(B:lC z pl vs=some (cells x))(D:bB.agg α=true)(h:Le m (b8 S c Q (nx S c n cf λp=>cT p.st p.d (cv x))))
 (G:(fT S c n cf).map (λp=>(p.k,bW S.N p.st.g p.az))=some (.p (.build z pl),some (vs.map .v)):=by kernel_rfl):Le m (b8 S c Q cf):=by
 obtain⟨p,u,a⟩:=eP G;simp at a;obtain⟨b,w⟩:=jT u;obtain⟨dr,fr,d,gd,now,k,az,dd,l,fs,st⟩:=p;obtain⟨rfl,C⟩:=a;exact aas n dr fr (⟨d,gd,now,.p (.build z pl),az,dd,[]⟩::l) fs st x vs rfl B D Zac (by
  simp only[nx,u]at h;omega)
end
theorem aaz(n:Nat){k:IntKind}{a b:Int}{f:Int->Lk γ}(h:∀x,Ag k a b=some x->Le ((f x).bind e) (b8 S c Q (nx S c n cf λp=>cT p.st p.d (.v (.int k x)))))
 (B:(fT S c n cf).map (λp=>(MX p.k,bW S.N p.st.g p.az))=some (some .quo,some [.v (.int k a),.v (.int k b)]):=by kernel_rfl):Le (((Ag k a b).bind f).bind e) (b8 S c Q cf):=by
 obtain⟨p,w,d⟩:=eP B;simp at d;obtain⟨t,u,g⟩:=Vu d.1;refine qV w ?_ h;rw[g];exact Le.of_eq (YY d.2)
theorem Bp(n:Nat)(k:IntKind){a:ByteArray}{b:Int}{f:Int->Lk γ}(h:∀x,lR a b=some x->Le ((f x).bind e) (b8 S c Q (nx S c n cf λp=>cT p.st p.d (.v (.int .u8 x)))))
 (B:(fT S c n cf).map (λp=>(p.k,bW S.N p.st.g p.az))=some (.p .idxStr,some [.v (.str a),.v (.int k b)]):=by kernel_rfl):Le (((lR a b).bind f).bind e) (b8 S c Q cf):=by
 obtain⟨p,u,d⟩:=eP B;simp at d;refine qV u ?_ h;rw[d.1];exact Le.of_eq (Tf d.2)
section
variable{A:α->L' V}{E:δ->L' V}{pl:α->Lk δ}{fn:FuncId}{sc:Bool}
theorem yw(n:Nat)(F:gT S c fn A E pl sc)(z:α){f:δ->Lk γ}(h:∀x,pl z=some x->Le ((f x).bind e) (b8 S c Q (nx S c n cf λp=>cT p.st p.d (.v (result (E x))))))
 (B:(fT S c n cf).map (λp=>(p.k,(bW S.N p.st.g p.az).bind k_,(!p.dr||p.now||fZ p.st.m p.fr [])))=some (.c,some (fn,(A z).map .v),true):=by kernel_rfl):Le (((pl z).bind f).bind e) (b8 S c Q cf):=by
 obtain⟨p,C,b⟩:=eP B;simp at b;obtain⟨D,G,O⟩:=b;obtain⟨I,g1,g2⟩:=ζg.1 G;have u:∀d(w:L' V),SV.dK d (w.map .v)=false:=λd w=>by induction w with|nil=>rfl|cons a l J=>simp[SV.dK,SV.c6,J]
 have L:(!p.dr||p.now||fZ p.st.m p.fr ((A z).map .v))=true:=by
  have:fZ p.st.m p.fr ((A z).map .v)=fZ p.st.m p.fr []:=by unfold fZ;simp[u];rfl
  grind
 refine qV C ?_ h;rw[D];exact KO (F.h z) F.k g1 g2 (Kp _ _ _) L (λr=>by rw[nq];simp)
theorem Xf(n:Nat)(F:gT S c fn A E pl true)(z:α){f:δ->Lk γ}(h:∀x,pl z=some x->Le ((f x).bind e) (b8 S c Q (nx S c n cf λp=>cT p.st p.d (.v (result (E x))))))
 (B:(fT S c n cf).map (λp=>(p.k,((bW S.N p.st.g p.az).bind k_).bind λq=>(nC (iN p.st.m 8) q.2).map λvs=>(q.1,vs,((!p.dr||p.now)||fZ p.st.m p.fr q.2))))=some (.c,some (fn,A z,true)):=by kernel_rfl):Le (((pl z).bind f).bind e) (b8 S c Q cf):=by
 obtain⟨p,u,a⟩:=eP B;simp at a;obtain⟨w,C⟩:=a;obtain⟨q,g1,g2⟩:=ζg.1 C;obtain⟨D,g3,g4⟩:=ζg.1 g1;obtain⟨vs,g5,g6⟩:=ζf.1 g2;simp only[ζc]at g6;obtain⟨e1,rfl,e3⟩:=g6;refine qV u ?_ h;rw[w];exact KO (F.h z) F.k g3 Zac g5 e3 (λr=>by rw[F.s rfl];rfl)
end
section
variable{N:Nat}[bB α]
theorem OB(n:Nat)(k:IntKind){a:cq N α}{i:Int}{f:α->Lk γ}(h:∀x,a.at i=some x->Le ((f x).bind e) (b8 S c Q (nx S c n cf λp=>cT p.st p.d (.v (.fptr (pa a i))))))
 (B:(fT S c n cf).map (λp=>(p.k,bW S.N p.st.g p.az))=some (.p (.idxA N (bB.size α)),some [cp a,.v (.int k i)]):=by kernel_rfl):Le (((a.at i).bind f).bind e) (b8 S c Q cf):=by
 obtain⟨p,u,b⟩:=eP B;simp at b;obtain⟨g,z⟩:=jT u;obtain⟨dr,fr,d,gd,now,C,az,dd,l,fs,st⟩:=p;obtain⟨rfl,D⟩:=b;exact Y7 n dr fr (⟨d,gd,now,.p (.idxA N (bB.size α)),az,dd,[]⟩::l) fs st k rfl Zac λx w=>by have:=h x w;simp only[nx,u]at this;omega
theorem R8(n k:Nat)(a:cq N α)(i:Int)(o:Nat)(x:α)(B:a.at i=some x){m:Lk β}(h:Le m (b8 S c Q (nx S c n cf λp=>cT p.st p.d (.v (.fptr ((pa a i).drop (o+k)))))))
 (D:(fT S c n cf).map (λp=>(p.k,bW S.N p.st.g p.az,ble (o+k) (bB.size α)))=some (.p (.fieldAddr k),some [.v (.fptr ((pa a i).drop o))],true):=by kernel_rfl):Le m (b8 S c Q cf):=by
 obtain⟨p,u,b⟩:=eP D;simp at b;obtain⟨e,w⟩:=jT u;obtain⟨dr,fr,d,gd,now,z,az,dd,l,fs,st⟩:=p;obtain⟨rfl,C,G⟩:=b;exact aap n dr fr (⟨d,gd,now,.p (.fieldAddr k),az,dd,[]⟩::l) fs st a i o x B rfl Zac (by
  simp only[nx,u]at h;omega)
theorem N9(n sz:Nat)(ag:Bool)(a:cq N α)(i:Int)(o:Nat)(x:α)(B:a.at i=some x)(v:V)(b:(cut (cells x) o sz).bind (mk ag)=some v){m:Lk β}(h:Le m (b8 S c Q (nx S c n cf λp=>cT p.st p.d (.v v))))
 (D:(fT S c n cf).map (λp=>(p.k,bW S.N p.st.g p.az))=some (.r (.load sz ag),some [.v (.fptr ((pa a i).drop o))]):=by kernel_rfl):Le m (b8 S c Q cf):=by
 obtain⟨p,w,u⟩:=eP D;simp at u;obtain⟨e,z⟩:=jT w;obtain⟨dr,fr,d,gd,now,C,az,dd,l,fs,st⟩:=p;obtain⟨rfl,G⟩:=u;exact Zd n dr fr (⟨d,gd,now,.r (.load sz ag),az,dd,[]⟩::l) fs st a i o x B b v rfl Zac (by
  simp only[nx,w]at h;omega)
theorem Yo(n u:Nat)(st:St)(cs:L' SV){m:Lk β}(B:st.new u=true)(h:Le m (b8 S c Q (nx S c n cf λ_=>{st with g:=bN st.g u (.ptr u 0),m:=bN st.m u (.box cs)})))
 (D:(fT S c n cf).map (λp=>(p.d,(YB p.k).map (λz=>z.map SV.v),bW S.N p.st.g p.az,p.st))=some (some u,some cs,some [],st):=by kernel_rfl):Le m (b8 S c Q cf):=by
 obtain⟨p,C,a⟩:=eP D;simp only[ζc]at a;obtain⟨z,G,w⟩:=eP a.2.1;obtain⟨k,b⟩:=Xy G;refine vW C ?_ h;rw[a.1,b,Ah,a.2.2.1,a.2.2.2];simp[B,oP,w]
theorem Ii(n:Nat)(k:IntKind)(u:Nat){a:cq N α}{i:Int}{f:α->Lk γ}(h:∀x,a.at i=some x->Le ((f x).bind e) (b8 S c Q (nx S c n cf λp=>cT p.st p.d (.ptr u (i.toNat*bB.size α+0)))))
 (B:(fT S c n cf).map (λp=>(p.k,bW S.N p.st.g p.az,bh p.st.m u))=some (.p (.idxA N (bB.size α)),some [.ptr u 0,.v (.int k i)],some (bx a)):=by kernel_rfl):Le (((a.at i).bind f).bind e) (b8 S c Q cf):=by
 obtain⟨p,w,b⟩:=eP B;simp at b;obtain⟨g,C⟩:=jT w;obtain⟨dr,fr,d,gd,now,D,az,dd,l,fs,st⟩:=p;obtain⟨rfl,G,I⟩:=b;exact Zk n dr fr (⟨d,gd,now,.p (.idxA N (bB.size α)),az,dd,[]⟩::l) fs st k u rfl Zac λx z=>by have:=h x z;simp only[nx,w]at this;omega
theorem Un(n sz:Nat)(ag:Bool)(u:Nat)(a:cq N α)(i:Int)(o:Nat)(x:α)(B:a.at i=some x)(v:V)(b:(cut (cells x) o sz).bind (mk ag)=some v){m:Lk β}(h:Le m (b8 S c Q (nx S c n cf λp=>cT p.st p.d (.v v))))
 (D:(fT S c n cf).map (λp=>(p.k,bW S.N p.st.g p.az,bh p.st.m u,(!p.dr||p.now||fm p.fr [.ptr u 0])))=some (.r (.load sz ag),some [.ptr u (i.toNat*bB.size α+o)],some (bx a),true):=by kernel_rfl):Le m (b8 S c Q cf):=by
 obtain⟨p,z,w⟩:=eP D;simp at w;obtain⟨e,C⟩:=jT z;obtain⟨dr,fr,d,gd,now,G,az,dd,l,fs,st⟩:=p;obtain⟨rfl,I,J,L⟩:=w;exact Zf n dr fr (⟨d,gd,now,.r (.load sz ag),az,dd,[]⟩::l) fs st u a i o x B b v rfl Zac (by
  simp only[nx,z]at h;omega)
end
section
variable{κ ν:Type}[bB κ][DecidableEq κ][Key κ][bB ν]
theorem ZE(n u:Nat)(mp:Mo κ ν)(k:κ)(z:ν){m:Lk β}(h:Le m (b8 S c Q (nx S c n cf λp=>cT p.st p.d (cv (ow mp k z)))))
 (B:(fT S c n cf).map (λp=>(p.k,bW S.N p.st.g p.az,bh p.st.m u,(!p.dr||p.now||fm p.fr [.mp u,cv k])))=some (.r (.lookup (Key.kk κ) (enc z) false),some [.mp u,cv k],some (uI mp),true):=by kernel_rfl):Le m (b8 S c Q cf):=by
 obtain⟨p,w,a⟩:=eP B;simp at a;obtain⟨b,C⟩:=jT w;obtain⟨dr,fr,d,gd,now,D,az,dd,l,fs,st⟩:=p;obtain⟨rfl,G,I,J⟩:=a;exact ZH n dr fr (⟨d,gd,now,.r (.lookup (Key.kk κ) (enc z) false),az,dd,[]⟩::l) fs st u mp k z rfl Zac (by
  simp only[nx,w]at h;omega)
theorem Xv(n u:Nat)(mp:Mo κ ν)(k:κ)(v:ν){m:Lk β}(h:Le m (b8 S c Q (nx S c n cf λp=>cT {p.st with m:=bN p.st.m u (uI (mJ mp k v))} p.d (.v .undef))))
 (B:(fT S c n cf).map (λp=>(p.k,bW S.N p.st.g p.az,bh p.st.m u,(!p.dr||p.now)))=some (.l (.mapUp (Key.kk κ)),some [.mp u,cv k,cv v],some (uI mp),true):=by kernel_rfl):Le m (b8 S c Q cf):=by
 obtain⟨p,z,w⟩:=eP B;simp at w;obtain⟨a,C⟩:=jT z;obtain⟨dr,fr,d,gd,now,D,az,dd,l,fs,st⟩:=p;obtain⟨rfl,G,I,J⟩:=w;exact aaw n dr fr (⟨d,gd,now,.l (.mapUp (Key.kk κ)),az,dd,[]⟩::l) fs st u mp k v rfl Zac (by
  simp[nx,z]at h;omega)
end
theorem YO(n:Nat)(st:St){rs:L' RV}{e:γ->Lk (L' V)}{r:γ}(svs:L' SV){ys:L' V}(B:nC (iN st.m 8) svs=some ys)(D:e r=some ys)
 (h:(iA S c n cf.1 cf.2.1 cf.2.2).map (λq=>(q.1,q.2.2,kU q.2.2 rs))=some (.rt,st,some svs):=by kernel_rfl):Le ((some r).bind e) (b8 S c (qM rs) cf):=by
 obtain⟨⟨fo,fs,st'⟩,u,a⟩:=eP h;simp at a;obtain⟨rfl,rfl,w⟩:=a;exact Ze n svs B (by rw[u,w]) D
end
end Go.VE
namespace Go.VE
variable[bY]
section
variable{S:Sys}{c:b9}{β γ δ α:Type}[bB α]{Q:Out×St->Lk β}{e:γ->Lk β}{cf:Cf}
def oc(s x:Sl α):Lk (Sl α):=if x.l=[]then some s else if s.l.length+x.l.length<=2147483648 then some (.row (s.l++x.l))else none
theorem UN(m:Tb bJ)(n w:Nat)(x:Sl α)(B:n=bB.size α)(D:bh m w=some (cF x)):jA m n (.own w)=some (rows x.l):=by rw[F9,D,Cl n x B]
theorem IV(l:L' α):rows l=[]↔l=[]:=by unfold rows;simp
theorem R5(a b:L' α):rows a++rows b=rows (a++b):=by unfold rows;simp
theorem Kn(a:L' α):(rows a).length=a.length:=by unfold rows;simp
theorem Xk{st:St}{dr now:Bool}{fr:L' Nat}{az:L' Arg}{d n o:Nat}{s x:Sl α}{B:SV}(U:bW S.N st.g az=some [.own o,B])(hd:(!dr||now)=true)(D:bh st.m o=some (cF s))(W:jA st.m n B=some (rows x.l))(G:n=bB.size α)(J:St.new {st with m:=eo o st.m} d=true):
 fM S c dr fr ⟨some d,none,now,.l (.append n),az,[],[]⟩ st=(oc s x).bind λY=>some {st with g:=bN st.g d (.own d),m:=bN (eo o st.m) d (cF Y)}:=by
 rw[yp,U];simp only[ζb,hd,if_true,AU,UN st.m n o s G D,W];unfold oc
 by_cases h:x.l=[]
 .rw[if_pos h,(IV x.l).2 h];simp only[Ax,D,if_pos J,ζb];rfl
 rw[if_neg h];have a:rows x.l≠[]:=λe=>h ((IV _).1 e)
 have w:Ax st d n (.own o) (some (rows s.l)) (some (rows x.l))=if(rows s.l).length+(rows x.l).length<=2147483648/\J7 (.own o)=true then(if St.new {st with m:=giveUp st.m (.own o)} d then some (.own d,{st with m:=bN (giveUp st.m (.own o)) d (.sl .row n (rows s.l++rows x.l))})else none)else none:=by unfold Ax;generalize rows x.l=r at *;cases r with|nil=>exact absurd rfl a|cons y r=>rfl
 rw[w,Kn,Kn,R5]
 by_cases u:s.l.length+x.l.length<=2147483648
 .rw[if_pos ⟨u,rfl⟩,if_pos (show St.new {st with m:=giveUp st.m (.own o)} d=true from J),if_pos u];rw[ζb,ζb,G];rfl
 rw[if_neg (λk=>u k.1),if_neg u];rfl
theorem Zu(n o u:Nat)(D:SV){s x:Sl α}{f:Sl α->Lk γ}(G:∀p,fT S c n cf=some p->jA p.st.m (bB.size α) D=some (rows x.l))
 (h:∀B,oc s x=some B->Le ((f B).bind e) (b8 S c Q (nx S c n cf λp=>{p.st with g:=bN p.st.g u (.own u),m:=bN (eo o p.st.m) u (cF B)})))
 (J:(fT S c n cf).map (λp=>(p.d,p.k,bW S.N p.st.g p.az,(!p.dr||p.now),bh p.st.m o,St.new {p.st with m:=eo o p.st.m} u))=some (some u,.l (.append (bB.size α)),some [.own o,D],true,some (cF s),true):=by kernel_rfl):Le (((oc s x).bind f).bind e) (b8 S c Q cf):=by
 obtain⟨p,w,a⟩:=eP J;simp only[ζc]at a;refine qV w ?_ h;rw[a.1,a.2.1];exact Le.of_eq (Xk a.2.2.1 a.2.2.2.1 a.2.2.2.2.1 (G p w) rfl a.2.2.2.2.2)
theorem NA(m:Tb bJ)(x:Sl α):jA m (bB.size α) (.v (bX x))=some (rows x.l):=by cases x<;>simp[bX,Sl.k,Sl.l,o6,jA,rows]
theorem zw(n o u:Nat){s x:Sl α}{f:Sl α->Lk γ}
 (h:∀B,oc s x=some B->Le ((f B).bind e) (b8 S c Q (nx S c n cf λp=>{p.st with g:=bN p.st.g u (.own u),m:=bN (eo o p.st.m) u (cF B)})))
 (D:(fT S c n cf).map (λp=>(p.d,p.k,bW S.N p.st.g p.az,(!p.dr||p.now),bh p.st.m o,St.new {p.st with m:=eo o p.st.m} u))=some (some u,.l (.append (bB.size α)),some [.own o,.v (bX x)],true,some (cF s),true):=by kernel_rfl):Le (((oc s x).bind f).bind e) (b8 S c Q cf):=
 Zu n o u _ (λp _=>NA p.st.m x) h D
end
theorem sy{α:Type}{l:L' α}{i:Nat}{x:α}(h:l[i]?=some x):l.set i x=l:=by obtain⟨hi,rfl⟩:=ζe.1 h;exact List.set_getElem_self hi
open Classical in
noncomputable def Dw(E:Env)(g:FuncId)(cb:L' V)(a b:V):Lk V:=if h:∃n y,cm (run E n) g (a::b::cb) []=some y then some (Classical.choose (choose_spec h))else none
theorem FG{E:Env}{g:FuncId}{cb:L' V}{a b y:V}(h:Dw E g cb a b=some y):∃n,∀k,n<=k->cm (run E k) g (a::b::cb) []=some y:=by
 unfold Dw at h;split at h;next c=>cases h;exact⟨_,λk d=>oT (oN E d) (choose_spec (choose_spec c))⟩
 cases h
theorem MF{E:Env}{g:FuncId}{cb:L' V}{a b y:V}{n:Nat}(h:cm (run E n) g (a::b::cb) []=some y):Dw E g cb a b=some y:=by have d:∃n y,cm (run E n) g (a::b::cb) []=some y:=⟨n,y,h⟩;cases c:Dw E g cb a b with|none=>unfold Dw at c;rw[dif_pos d]at c;cases c|some z=>obtain⟨m,u⟩:=FG c;have:=u _ (Nat.le_max_right n m);rw[oT (oN E (Nat.le_max_left n m)) h]at this;cases this;rfl
theorem FW{n:Nat}{p:_root_.Fin n->Nat->Prop}(h:∀i,∃N,∀k,N<=k->p i k):∃N,∀i k,N<=k->p i k:=by induction n with|zero=>exact⟨0,λi=>i.elim0⟩|succ n u=>obtain⟨N,w⟩:=u (p:=λi=>p i.succ) λi=>h i.succ;obtain⟨M,a⟩:=h 0;refine⟨max N M,λi k b=>?_⟩;refine _root_.Fin.cases (a k Zaa) (λj=>w j k Zaa) i
def jC(x:L' V):V:=x.headD .undef
def vq(es:Nat)(xs:L' (L' V)):Bool:=es==1&&xs.all (λx=>x.length==1&&x.all V.one)&&decide (xs.length<=2147483648)
theorem Ad{es:Nat}{xs:L' (L' V)}(h:vq es xs=true):es=1/\xs.length<=2147483648/\∀(i:Nat)x,xs[i]?=some x->x=[jC x]/\(jC x).one=true:=by unfold vq at h;simp only[ζh,beq_iff_eq,all_eq_true,decide_eq_true_eq]at h;refine⟨h.1.1,h.2,λi x w=>?_⟩;obtain⟨a,z⟩:=h.1.2 x (mem_of_getElem? w);obtain⟨u,rfl⟩:=List.length_eq_one_iff.1 a;exact⟨rfl,z u Zab⟩
section
variable{H:bn}{Z:Nat->Prop}
theorem dB.LI{k:Nat}{xs ys:L' V}(h:dB H Z xs ys)(B:V.mc k xs=true):borrows k H ys=some xs:=lz h.1 λj u v a b=>(h.2 j u v a b).borrow k (nk.1 B j u a)
theorem dB.borrows{xs ys:L' V}(h:dB H Z xs ys):∃n,∀k,n<=k->borrows k H ys=some xs:=by obtain⟨n,u⟩:=mU xs;exact⟨n,λk a=>h.LI (pZ a u)⟩
theorem Po{es:Nat}{xs:L' (L' V)}(h:vq es xs=true){rs:L' (L' V)}(B:gH H Z xs rs):dB H Z (xs.map jC) rs.flatten:=by
 induction xs generalizing rs with|nil=>have:=B.1;simp at this;have:rs=[]:=List.eq_nil_of_length_eq_zero (by simpa using this.symm);subst this;exact .nil|cons x xs D=>
  obtain⟨d,L,G⟩:=Ad h;cases rs with|nil=>have:=B.1;simp at this|cons r rs=>
   obtain⟨e,_⟩:=G 0 x rfl;have C:=B.2 0 x r rfl rfl;rw[e]at C;obtain⟨u,O,rfl,c,w⟩:=C.inv;rw[w.c9];have z:vq es xs=true:=by unfold vq at h⊢;simp only[all_cons,ζh,length_cons,decide_eq_true_eq]at h⊢;exact⟨⟨h.1.1,h.1.2.2⟩,Zaa⟩
   exact .cons c (D z (rs:=rs) ⟨by have:=B.1;simpa using this,λj a b I J=>B.2 (j+1) a b I J⟩)
end
noncomputable def ua(E:Env)(g:FuncId)(cb:L' V)(a b:V):Lk Int:=match Dw E g cb a b with|some (.int .i64 c)=>some c|_=>none
theorem SQ{E:Env}{g:FuncId}{cb:L' V}{a b:V}{c:Int}(h:ua E g cb a b=some c):∃n,∀k,n<=k->cm (run E k) g (a::b::cb) []=some (.int .i64 c):=by
 unfold ua at h;split at h;next c' d=>cases h;exact FG d
 cases h
noncomputable def Bj(E:Env)(es:Nat)(xs:L' (L' V)):L' V->Lk (L' (L' V))
 |[.clo g [] cb]=>match xs with
  |[]=>some []|x::l=>if vq es (x::l)&& !E.keep g then
   let t:_root_.Fin (l.length+1)->_root_.Fin (l.length+1)->Lk Int:=λi j=>ua E g cb (jC (((x::l)[i.1]?).getD [])) (jC (((x::l)[j.1]?).getD []))
   if B4 t then some ((rB l.length (qz t)).toList.map λi=>((x::l)[i.1]?).getD [])else none
   else none
 |_=>none
noncomputable def tW(E:Env):Hq:=⟨false,Bj E⟩
theorem EV{n:Nat}{lt:_root_.Fin (n+1)->_root_.Fin (n+1)->Bool}(h:Sort.SWO lt):(rB n lt).size=n+1:=by rw[DH];have:=(Sort.pdq_sorts lt h (List.finRange (n+1)).toArray 0 (n+1) (Lib.bitLen (n+1)) true true (zero_le _) Zab (Or.inl rfl)).1.1;simpa using this
theorem S9{E:Env}{f:FuncId}(m:E.keep f=true)(ho:E.own f=false)(A:E.sort f=true)(F:E.ft f=none):ot E f (tW E)where
 keep:=m
 own:=ho
 le:=by
  intro es xs vs ys h;simp only[tW,Bj]at h;split at h;split at h;cases h;exact⟨le_refl _,λ_=>rfl⟩;split at h;split at h;next q=>cases h;have:=EV (rD q).2;simp only[length_map,Array.length_toList,length_cons,this];exact⟨le_refl _,λ_=>trivial⟩
  cases h;cases h;cases h
 none:=by
  intro es vs ys h H Z ws w K he;simp only[tW,Bj]at h;split at h;obtain⟨R,r,rfl,V,M⟩:=K.inv;rw[M.c9];refine⟨1,[],λk m=>?_⟩;cases k with|zero=>omega|succ k=>rcases he with rfl|rfl<;>simp[run,kI,F,A,rG,tW]
  cases h
 row:=by
  intro es xs vs ys h H Z ws id off rs K O C I z hz;simp only[tW,Bj]at h;split at h;rename_i g cb;obtain⟨R,r,rfl,V,M⟩:=K.inv;rw[M.c9];obtain⟨a',J,rfl,s,aa⟩:∃a' J,R=.clo g a' J/\dB H Z [] a'/\dB H Z cb J:=V.kN;rw[s.c9]at *;split at h;cases h;refine⟨1,rs,[],λk m=>?_,rfl,⟨rfl,λj u v o=>by simp at o⟩,z⟩;cases k with|zero=>omega|succ k=>have:H.set id (.row es rs)=H:=sy O;simp[run,kI,F,A,rG,tW,this]
  rename_i x l;split at h;rename_i D;simp only[ζh,Bool.not_eq_true']at D;obtain⟨c1,c3⟩:=D;obtain⟨rfl,Q,ae⟩:=Ad c1;split at h;rename_i q;cases h;obtain⟨G,S⟩:=rD q;have B:∀i,Z i->Z i/\bq (H.set id .dead) i=bq H i:=λi hi=>⟨hi,by unfold bq;rw[getElem?_set_ne];rintro rfl;exact hz hi⟩;have T:=I.mono B;obtain⟨M1,U⟩:=(Po c1 T).borrows;simp only[length_cons]at U;obtain⟨M2,W⟩:=(aa.mono B).borrows;obtain⟨N,P⟩:=FW (p:=λi k=>∀j:_root_.Fin (l.length+1),cm (run E k) g (jC (((x::l)[i.1]?).getD [])::jC (((x::l)[j.1]?).getD [])::cb) []=some (.int .i64 ((ua E g cb (jC (((x::l)[i.1]?).getD [])) (jC (((x::l)[j.1]?).getD []))).getD 0))) (λi=>by
   obtain⟨N,P⟩:=FW (p:=λ(j:_root_.Fin (l.length+1))k=>cm (run E k) g (jC (((x::l)[i.1]?).getD [])::jC (((x::l)[j.1]?).getD [])::cb) []=some (.int .i64 ((ua E g cb (jC (((x::l)[i.1]?).getD [])) (jC (((x::l)[j.1]?).getD []))).getD 0))) (λj=>by
    obtain⟨c,d⟩:=G i j;obtain⟨n,hn⟩:=SQ d;exact⟨n,λk m=>by rw[hn k m,d];rfl⟩)
   exact⟨N,λk m j=>P j k m⟩)
  have X:∀k,N<=k->js (run E k) g ((x::l).map jC) cb l.length=λi j=>ua E g cb (jC (((x::l)[i.1]?).getD [])) (jC (((x::l)[j.1]?).getD [])):=λk m=>by
   funext i j;obtain⟨c,d⟩:=G i j;have e1:∀i:_root_.Fin (l.length+1),((x::l).map jC)[i.1]?=some (jC (((x::l)[i.1]?).getD [])):=λi=>by have:i.1<(x::l).length:=i.2;rw[getElem?_map,ζd this];rfl
   unfold js;rw[e1 i,e1 j];simp only[P i k m j];rw[d];rfl
  have ab:=EV S;generalize hL:(rB l.length (qz λi j:_root_.Fin (l.length+1)=>ua E g cb (jC (((x::l)[i.1]?).getD [])) (jC (((x::l)[j.1]?).getD [])))).toList=L at *;have ad:L.length=l.length+1:=by rw[<-hL];simpa using ab
  simp only[length_cons]at C I Q;refine⟨max N (max M1 M2)+1,sN rs off l.length L,[],λk m=>?_,?_,?_,?_⟩;cases k with|zero=>omega|succ k=>simp only[run,kI,F,A,if_true,rG,O,tW,false_eq_true,if_false,length_cons];rw[if_pos ⟨trivial,trivial,C,Zaa,c3⟩,show(run E k).lv=k from o9 E k,U k Zaa,W k Zaa];simp only[X k Zaa,q,if_true,hL,append_nil]
  simp[sN,ad];omega;have e:((sN rs off l.length L).drop off).take (L.map λi=>((x::l)[i.1]?).getD []).length=L.map λi=>(rs[off+i.1]?).getD []:=by
   unfold sN;have h0:(rs.take off).length=off:=by simp;omega
   rw[append_assoc,List.drop_append_of_le_length Zaa,List.drop_eq_nil_of_le Zaa,nil_append,length_map,List.take_append_of_le_length Zab,take_of_length_le Zab]
  rw[e];refine⟨Zab,λj a b s t=>?_⟩;rw[getElem?_map]at s t;obtain⟨i,hi,rfl⟩:=ζf.1 s;rw[hi]at t;simp only[map_some,ζa]at t;subst t;have Y:i.1<(x::l).length:=i.2;have y:off+i.1<rs.length:=by have:=i.2;omega
  refine I.2 i.1 _ _ (by rw[ζd Y];rfl) ?_;rw[getElem?_take,if_pos i.2,getElem?_drop,ζd y];rfl;intro c d u o;unfold sN at d;rcases mem_append.1 d with d|d;rcases mem_append.1 d with d|d;exact z c (List.mem_of_mem_take d) u o;obtain⟨i,_,rfl⟩:=mem_map.1 d;have y:off+i.1<rs.length:=by have:=i.2;omega
  rw[ζd y]at o;exact z _ (getElem_mem y) u o;exact z c (List.mem_of_mem_drop d) u o;cases h;cases h;cases h
def bt(N:Nat->FuncId)(F:Frame):Arg->V
 |.s n=>get F n|.k c=>c|.f s=>.clo (N s) [] []
def bH(E:Env)(N:Nat->FuncId)(call:dG)(b:Lk Nat)(now:Bool)(k:K)(vs:L' V)(H:bn):Lk (V×bn):=
 match k,b with
 |.p p,_=>(bl N p vs).map λv=>(v,H)|.r r,none=>(eZ H r vs).map λv=>(v,H)|.r r,some b=>(eZ (H.take b) r vs).map λv=>(v,H)|.a a,none=>(iM a vs).map λx=>(x.2.val H.length,H++[x.1])|.l l,none=>fE H l vs|.l (.store n),some _=>if now then fE H (.store n) vs else none|.c,none=>match vs with
  |.clo g a c::u=>if E.keep g then fq E call g (a++u++c) H else match cm call g (a++u++c) H with
   |some y=>if y.scalar then some (y,H)else none|none=>none
  |_=>none
 |.c,some b=>match vs with
  |.clo g a c::u=>if E.keep g then none else match cm call g (a++u++c) (H.take b)with
   |some y=>if y.scalar then some (y,H)else none|none=>none
  |_=>none
 |_,_=>none
def br(F:Frame):Lk Nat->V->Frame
 |none,_=>F|some d,v=>set F d v
def cG(E:Env)(N:Nat->FuncId)(call:dG)(b:Lk Nat):L' RO->Frame->bn->Lk (Frame×bn)
 |[],F,H=>some (F,H)|o::r,F,H=>match o.gd with
  |none=>match bH E N call b o.now o.k (o.az.map (bt N F)) H with
   |some (v,H')=>cG E N call b r (br F o.dst v) H'|none=>none
  |some _=>none
section
variable{X:CX}{N:Nat->FuncId}{call:dG}{F F':Frame}{H H':bn}
theorem Ml(B:∀f s,X.nm f=some s->N s=f){o:Operand}{x:Arg}(h:qg X.nm o=some x):ev F o=some (bt N F x):=by cases o with|tmp t=>simp[qg]at h;subst h;rfl|const w=>simp[qg]at h;split at h;rename_i c a;split at h;simp at h;subst h;exact a;grind;grind|func f=>obtain⟨s,u,rfl⟩:=ζf.1 h;show some (V.clo f [] [])=some (.clo (N s) [] []);grind|global i=>simp[qg]at h;split at h;rename_i c a;split at h;simp at h;subst h;simp[ev,a];rfl;grind;grind
theorem xA(G:∀f s,X.nm f=some s->N s=f):∀{os:L' Operand}{B:L' Arg},os.mapM (qg X.nm)=some B->fI F os=some (B.map (bt N F))
 |[],B,h=>by simp at h;subst h;rfl|o::os,B,h=>by simp[ζg]at h;obtain⟨x,J,xs,D,rfl⟩:=h;simp[fI,Ml G J,xA G D]
theorem AR(D:∀f s,X.nm f=some s->N s=f){B:Bool}{ops:L' Oper}{i:Nat}{o:Oper}{ro:RO}(h:oG X B ops i o=some ro)(g:ro.gd=none):
 o.dst=ro.dst/\zL X.nt o.dst=true/\gx ops F o=true/\((Co X.E N F o.op (ro.az.map (bt N F)) ro.k/\ro.now=(B&&dJ ops i)/\(B=true->dJ ops i=false->∀a',qx ops i a'=[]\/∀t,o.op≠.load t (.tmp a')))\/(∃n,ro.k=.l (.storeF n))\/(∃n a,ro.k=.r (.loadF n a))\/(B=true/\D2 X.E ops i=true/\dw o.op=.alloc/\(∃p,ro.k=.p p/\(p=.emptyC\/(∃a b,p=.makeC a b)\/∃a b c d,p=.buildC a b c d)/\∀y,bl N p (ro.az.map (bt N F))=some y->qp X.E F o.op=some y))\/∃n,ro.k=.e n):=by
 unfold oG at h;split at h
 .rename_i hd;split at h
  .rename_i gd k os u hr;split at h
   .split at h
    .rename_i z;simp only[ζh]at z;have L:∀{gd:Lk (Nat×Bool)},Dr ops o=some gd->gd=none->gx ops F o=true:=λ{gd}u g=>by
      subst g;unfold gx;unfold Dr at u
      cases G:o.guard with
      |none=>rfl|some O=>rw[G]at u;obtain⟨j,b⟩:=O;obtain⟨d,_,e⟩:=ζf.1 u;cases e
     split at h
     next Q=>obtain⟨S,C,rfl⟩:=ζf.1 h;have w:=jN D hr (xA (F:=F) D C);exact⟨rfl,hd,L u g,.inr (.inr (.inr (.inl ⟨z.1,z.2,w.1,_,rfl,.inr (.inl ⟨_,_,rfl⟩),λy I=>ED ⟨_,_,_,by assumption⟩ w I⟩)))⟩
     .rename_i Q;split at h
      next T=>obtain⟨U,rfl,rfl⟩:=T;obtain⟨S,C,rfl⟩:=ζf.1 h;have w:=jN D hr (xA (F:=F) D C);exact⟨rfl,hd,L u g,.inr (.inr (.inr (.inl ⟨z.1,z.2,w.1,_,rfl,.inl rfl,λy I=>Ee ⟨_,_,_,by assumption⟩ w U I⟩)))⟩
      obtain⟨S,C,rfl⟩:=ζf.1 h;have w:=jN D hr (xA (F:=F) D C);exact⟨rfl,hd,L u g,.inr (.inr (.inr (.inl ⟨z.1,z.2,w.1,_,rfl,.inr (.inr ⟨_,_,_,_,rfl⟩),λy I=>D3 ⟨_,_,_,by assumption⟩ w I⟩)))⟩
     cases h
    obtain⟨S,C,rfl⟩:=ζf.1 h;simp only at g;subst g;refine⟨rfl,hd,?_,?_⟩
    .unfold gx;unfold Dr at u
     cases G:o.guard with
     |none=>rfl|some O=>rw[G]at u;obtain⟨j,b⟩:=O;obtain⟨d,_,e⟩:=ζf.1 u;cases e
    rcases Ed B ops i k os with⟨e,W⟩|⟨_,_,n,a,l,Y,_,_,_,e⟩|⟨_,_,n,ag,a,_,_,e⟩|⟨_,_,_,n,_,e⟩
    .rw[e]at C⊢;refine .inl ⟨jN D hr (xA D C),rfl,λhd Z a'=>?_⟩
     by_cases J:∃t,o.op=.load t (.tmp a')
     .obtain⟨t,J⟩:=J;rw[J]at hr;simp only[resolve]at hr;obtain⟨d,_,e⟩:=ζf.1 hr;simp only[ζc]at e;exact .inl (W _ _ a' hd Z e.1.symm e.2.symm)
     exact .inr λt h=>J ⟨t,h⟩
    .rw[e];exact .inr (.inl ⟨n,rfl⟩)
    .rw[e];exact .inr (.inr (.inl ⟨n,ag,rfl⟩))
    rw[e];exact .inr (.inr (.inr (.inr ⟨n,rfl⟩)))
   simp at h
  simp at h
 simp at h
theorem Ix{a:Nat}{dst:Lk Nat}(h:zL a dst=true)(v:V):ko a F dst v=some (br F dst v):=by cases dst with|none=>rfl|some d=>simp[zL]at h;simp[ko,if_pos h,br]
theorem Yq(J:∀f s,X.nm f=some s->N s=f){ops:L' Oper}{i:Nat}{o:Oper}{ro:RO}(h:oG X false ops i o=some ro)(q:ro.gd=none){v:V}(d:bH X.E N call none ro.now ro.k (ro.az.map (bt N F)) H=some (v,H')):
 gO X.E call X.nt ops none o F H=some (br F ro.dst v,H'):=by
 obtain⟨j,I,L,u⟩:=AR (F:=F) J h q;have hd:dF X.E call ops none F H o.op=some (v,H'):=by
  rcases u with⟨u,_⟩|⟨n,u⟩|⟨n,a,u⟩|⟨u,_⟩|⟨n,u⟩;generalize t:ro.k=k at d u;generalize ro.az.map (bt N F)=U at d u;unfold dF;cases k with|p p=>obtain⟨c,e⟩:=u;obtain⟨w,B,C⟩:=ζf.1 d;rw[c];simp only[zS (e w B),map_some];rw[C]|r r=>obtain⟨c,e⟩:=u;obtain⟨w,B,C⟩:=ζf.1 d;rw[c];simp only[e H w B,map_some];rw[C]|a a=>obtain⟨c,e⟩:=u;obtain⟨⟨ob,m⟩,B,C⟩:=ζf.1 d;rw[c];simp only[sL,false_eq_true,if_false,e _ B];exact congrArg some C|l l=>obtain⟨c,e⟩:=u;rw[c];exact e H _ d|e n=>exact u.elim|b=>simp[bH]at d|c=>
   obtain⟨c,f,O,rfl,e⟩:=u;rw[c];simp only[bH]at d;split at d;rename_i g a b Q D;simp only[List.cons.injEq]at D;obtain⟨rfl,rfl⟩:=D;split at d;next z=>simp only[e,mo,z,Bool.and_self,if_true];exact d
   rename_i z;split at d;rename_i y S;split at d;next G=>simp only[e,mo,z,Bool.false_and,false_eq_true,if_false,S,G,if_true];exact d
   simp at d;simp at d;simp at d
  .rw[u]at d;exfalso;have:∀ops i k os,(yX false ops i k os).1=k:=λ_ _ _ _=>rfl;unfold oG at h;simp only[Bool.false_and,false_eq_true,if_false]at h;split at h
   .split at h
    .rename_i gd k os T hr;split at h
     .obtain⟨O,W,rfl⟩:=ζf.1 h;simp only[this]at u;subst u;unfold resolve at hr;(repeat' split at hr)<;>first|(simp at hr;done)|(obtain⟨_,_,e⟩:=ζf.1 hr;simp at e;done)
     simp at h
    simp at h
   first|(simp at h;done)|contradiction
  rw[u]at d;simp[bH,eZ]at d;cases u;rw[u]at d;simp[bH]at d
 unfold gO;rw[L,if_pos rfl,hd];simp only[j,Ix (j▸I),map_some]
theorem Jv(D:∀f s,X.nm f=some s->N s=f){ops:L' Oper}:∀(rest:L' Oper){i:Nat}{B:L' RO}{F:Frame}{H:bn},l8 X false ops i rest=some B->cG X.E N call none B F H=some (F',H')->mZ X.E call X.nt ops rest F H=some (F',H')
 |[],i,B,F,H,hc,h=>by simp[l8]at hc;subst hc;exact h|o::rest,i,B,F,H,hc,h=>by
  simp[l8]at hc;split at hc;rename_i ro rs a G;simp at hc;subst hc;simp[cG]at h;split at h;rename_i b;split at h;next v H1 c=>simp[mZ,Yq D a b c];exact Jv D rest G h
  grind;grind;grind
theorem Vx{ops:L' Oper}{i:Nat}{op:Op}(h:∀t a',op=.load t (.tmp a')->qx ops i a'=[]):o_ ops i F op=true:=by unfold o_;grind
theorem XY(Y:∀f s,X.nm f=some s->N s=f){ops:L' Oper}{b i:Nat}{o:Oper}(m:ops[i]?=some o){ro:RO}(h:oG X true ops i o=some ro)(q:ro.gd=none){v:V}(d:bH X.E N call (some b) ro.now ro.k (ro.az.map (bt N F)) H=some (v,H')):
 gO X.E call X.nt ops (some (b,i)) o F H=some (br F ro.dst v,H'):=by
 obtain⟨j,Z,x,u⟩:=AR (F:=F) Y h q;have hd:dF X.E call ops (some (b,i)) F H o.op=some (v,H'):=by
  rcases u with⟨u,z,B⟩|⟨n,u⟩|⟨n,a,u⟩|⟨_,I,J,p,u,_,L⟩|⟨n,u⟩;generalize E:ro.k=k at d u;generalize ro.az.map (bt N F)=vs at d u;unfold dF
  cases k with
  |p p=>obtain⟨c,e⟩:=u;obtain⟨w,C,D⟩:=ζf.1 d;rw[c];simp only[zS (e w C),map_some];rw[D]|r r=>
   obtain⟨c,e⟩:=u;obtain⟨w,C,D⟩:=ζf.1 d;have O:o_ ops i F o.op=true:=Vx λt a' e=>by by_cases U:dJ ops i=true;exact Ej m e U;rcases B rfl (by simpa using U) a' with h|h;exact h;exact absurd e (h t)
   rw[c];simp only[e _ w C,O,if_true];rw[D]
  |a a=>simp[bH]at d|l l=>
   obtain⟨c,e⟩:=u
   cases l with
   |store n=>
    simp only[bH]at d;split at d;next W=>rw[z,Bool.true_and]at W;rw[c];simp only[W,Bool.true_or,if_true];exact e H _ d
    simp at d
   |_=>simp[bH]at d
  |e n=>exact u.elim|b=>simp[bH]at d|c=>
   obtain⟨c,f,K,rfl,e⟩:=u;rw[c];simp only[bH]at d;split at d;rename_i g a b M G;simp only[List.cons.injEq]at G;obtain⟨rfl,rfl⟩:=G;split at d;simp at d;rename_i Q;split at d;rename_i y A;split at d;next S=>simp only[e,mo,Q,Bool.false_and,false_eq_true,if_false,A,S,if_true];exact d
   simp at d;simp at d;simp at d
  rw[u]at d;simp[bH]at d;rw[u]at d;simp[bH,eZ]at d;rw[u]at d;obtain⟨w,C,D⟩:=ζf.1 d;have T:=L w C;unfold dF;rw[J];simp only[sL,I,if_true,T,map_some];exact congrArg some D;rw[u]at d;simp[bH]at d
 unfold gO;rw[x,if_pos rfl,hd];simp only[j,Ix (j▸Z),map_some]
theorem IG(D:∀f s,X.nm f=some s->N s=f){ops:L' Oper}{b:Nat}:∀(rest:L' Oper){i:Nat}{B:L' RO}{F:Frame}{H:bn},ops.drop i=rest->l8 X true ops i rest=some B->cG X.E N call (some b) B F H=some (F',H')->
 kB X.E call X.nt ops b (range' i rest.length) F H=some (F',H')
 |[],i,B,F,H,_,hc,h=>by simp[l8]at hc;subst hc;exact h|o::rest,i,B,F,H,hd,hc,h=>by
  simp[l8]at hc;split at hc;rename_i ro rs a J;simp at hc;subst hc;simp[cG]at h;split at h;rename_i c;split at h;rename_i v H1 d;have G:ops[i]?=some o:=by have:(ops.drop i)[0]?=some o:=Zac;grind
  have u:ops.drop (i+1)=rest:=by rw[<-List.drop_drop,hd];rfl
  simp[List.range'_succ,kB,G,XY D G a c d];exact IG D rest u J h;grind;grind;grind
def za(l:L' RO):Bool:=l.all λo=>(match o.k with|.a _|.l (.storeF _)|.r (.loadF ..)|.p (.makeC ..)|.p (.buildC ..)|.p .emptyC|.e _=>false|_=>true)&&o.gd.isNone
theorem Ei(J:∀f s,X.nm f=some s->N s=f){ops:L' Oper}:∀(rest:L' Oper){i:Nat}{G:L' RO},l8 X true ops i rest=some G->za G=true->rest.any (λo=>dw o.op==.alloc)=false
 |[],_,_,_,_=>rfl|o::rest,i,G,hc,D=>by
  simp only[l8]at hc;split at hc;rename_i ro rs c U;simp only[ζa]at hc;subst hc;simp only[za,all_cons,ζh,Option.isNone_iff_eq_none]at D;obtain⟨_,_,_,B⟩:=AR (F:=[]) J c D.1.2;rw[List.any_cons,Ei J rest U D.2,Bool.or_false];rcases B with⟨B,_⟩|⟨n,B⟩|⟨n,a,B⟩|⟨_,_,_,p,B,u,_⟩|⟨n,B⟩;cases b:ro.k with|a p=>have:=D.1.1;rw[b]at this;cases this|e p=>have:=D.1.1;rw[b]at this;cases this|_=>rw[b]at B;rw[B.1];rfl
  have:=D.1.1;rw[B]at this;cases this;have:=D.1.1;rw[B]at this;cases this;have:=D.1.1;rw[B]at this;rcases u with rfl|⟨_,_,rfl⟩|⟨_,_,_,_,rfl⟩<;>cases this;have:=D.1.1;rw[B]at this;cases this;simp at hc
def iE(E:Env)(N:Nat->FuncId)(call:dG)(lf:Nat):RC->Frame->bn->Lk (Out×Frame×bn)
 |.skip,F,H=>some (.norm,F,H)|.ops l,F,H=>(cG E N call none l F H).map λx=>(.norm,x.1,x.2)|.qn l,F,H=>if za l then(cG E N call (some H.length) l F H).map λx=>(.norm,x.1,x.2)else none|.seq a b,F,H=>match iE E N call lf a F H with
  |some (.norm,F',H')=>iE E N call lf b F' H'|r=>r
 |.cond x a b,F,H=>match bt N F x with
  |.bool t=>if t then iE E N call lf a F H else iE E N call lf b F H|_=>none
 |.block id c,F,H=>match iE E N call lf c F H with
  |some (.exit B,F',H')=>if B=id then some (.norm,F',H')else some (.exit B,F',H')|r=>r
 |.loop c,F,H=>lG (iE E N call lf c) lf F H|.exit id,F,H=>some (.exit id,F,H)|.ret,F,H=>some (.ret,F,H)|_,_,_=>none
theorem It{f g:Frame->bn->Lk (Out×Frame×bn)}(h:∀F H r,f F H=some r->g F H=some r):∀(k:Nat)(F:Frame)(H:bn)(r:Out×Frame×bn),lG f k F H=some r->lG g k F H=some r
 |0,F,H,r,hr=>by simp[lG]at hr|k+1,F,H,r,hr=>by simp only[lG]at hr⊢;cases B:f F H with|none=>rw[B]at hr;simp at hr|some q=>rw[B]at hr;rw[h F H q B];obtain⟨o,F1,H1⟩:=q;cases o with|norm=>exact It h k F1 H1 r hr|exit _=>exact hr|ret=>exact hr
theorem Rw(D:∀f s,X.nm f=some s->N s=f){lf:Nat}:∀(j:RC)(code:Code)(F:Frame)(H:bn)(r:Out×Frame×bn),bS X false code=some j->iE X.E N call lf j F H=some r->exec X.E call lf false X.nt code F H=some r:=by
 intro j
 induction j with
 |skip=>
  intro code F H r d h;simp only[iE,ζa]at h;subst h
  cases code with
  |skip=>rfl|label _=>rfl|region id ops u=>simp only[bS]at d;(repeat' split at d)<;>first|(simp at d;done)|(obtain⟨_,_,e⟩:=ζf.1 d;cases e)
  |_=>simp only[bS]at d;(repeat' split at d)<;>first|(simp at d;done)|(obtain⟨_,_,e⟩:=ζf.1 d;cases e)|cases d
 |ops l=>intro code F H r d h;cases code with|region id ops u=>simp only[bS]at d;split at d;split at d;obtain⟨_,_,e⟩:=ζf.1 d;cases e;simp at d;rename_i hd;obtain⟨T,G,e⟩:=ζf.1 d;cases e;simp only[iE]at h;obtain⟨⟨F',H'⟩,k,rfl⟩:=ζf.1 h;simp only[exec,j_,hd];rw[if_neg Zab,Jv D _ G k];rfl|_=>simp only[bS]at d;(repeat' split at d)<;>first|(simp at d;done)|(obtain⟨_,_,e⟩:=ζf.1 d;cases e)|cases d
 |qn l=>
  intro code F H r d h
  cases code with
  |region id ops u=>
   simp only[bS]at d;split at d;rename_i hd;split at d;rename_i I;obtain⟨T,G,e⟩:=ζf.1 d;cases e;simp only[iE]at h;split at h;next U=>obtain⟨⟨F',H'⟩,k,rfl⟩:=ζf.1 h;have W:sV ops.toList=false:=Ei D _ G U;have:=IG D ops.toList (i:=0) rfl G k;rw[<-List.range_eq_range']at this;simp only[exec,j_,hd,I,if_true,W,false_eq_true,if_false,this];rfl
   simp at h;simp at d;obtain⟨_,_,e⟩:=ζf.1 d;cases e
  |_=>simp only[bS]at d;(repeat' split at d)<;>first|(simp at d;done)|(obtain⟨_,_,e⟩:=ζf.1 d;cases e)|cases d
 |seq a b w B=>
  intro code F H r d h
  cases code with
  |seq J L=>
   simp only[bS]at d;split at d;rename_i x y C O;cases d;simp only[iE]at h;simp only[exec];cases g:iE X.E N call lf a F H with|none=>rw[g]at h;simp at h|some q=>rw[g]at h;rw[w J F H q C g];obtain⟨o,F1,H1⟩:=q;cases o with|norm=>exact B L F1 H1 r O h|exit _=>exact h|ret=>exact h
   simp at d
  |region id ops u=>simp only[bS]at d;(repeat' split at d)<;>first|(simp at d;done)|(obtain⟨_,_,e⟩:=ζf.1 d;cases e)
  |_=>simp only[bS]at d;(repeat' split at d)<;>first|(simp at d;done)|(obtain⟨_,_,e⟩:=ζf.1 d;cases e)|cases d
 |cond x a b w B=>
  intro code F H r d h
  cases code with
  |cond c J L=>
   simp only[bS]at d;split at d;rename_i n y z C O Y;cases d;simp only[iE]at h;simp only[exec,Ml (F:=F) D C];split at h;rename_i t Z;rw[Z];cases t with|true=>simp only[if_true]at h⊢;exact w J F H r O h|false=>simp only[false_eq_true,if_false]at h⊢;exact B L F H r Y h
   simp at h;simp at d
  |region id ops u=>simp only[bS]at d;(repeat' split at d)<;>first|(simp at d;done)|(obtain⟨_,_,e⟩:=ζf.1 d;cases e)
  |_=>simp only[bS]at d;(repeat' split at d)<;>first|(simp at d;done)|(obtain⟨_,_,e⟩:=ζf.1 d;cases e)|cases d
 |block id c Q=>
  intro code F H r d h
  cases code with
  |block S c'=>simp only[bS]at d;obtain⟨x,C,e⟩:=ζf.1 d;cases e;simp only[iE]at h;simp only[exec];cases g:iE X.E N call lf c F H with|none=>rw[g]at h;simp at h|some q=>rw[g]at h;rw[Q c' F H q C g];exact h
  |region id ops u=>simp only[bS]at d;(repeat' split at d)<;>first|(simp at d;done)|(obtain⟨_,_,e⟩:=ζf.1 d;cases e)
  |_=>simp only[bS]at d;(repeat' split at d)<;>first|(simp at d;done)|(obtain⟨_,_,e⟩:=ζf.1 d;cases e)|cases d
 |loop c Q=>
  intro code F H r d h
  cases code with
  |loop c'=>simp only[bS]at d;obtain⟨x,C,e⟩:=ζf.1 d;cases e;simp only[iE]at h;simp only[exec];exact It (λF H r m=>Q c' F H r C m) lf F H r h|region id ops u=>simp only[bS]at d;(repeat' split at d)<;>first|(simp at d;done)|(obtain⟨_,_,e⟩:=ζf.1 d;cases e)
  |_=>simp only[bS]at d;(repeat' split at d)<;>first|(simp at d;done)|(obtain⟨_,_,e⟩:=ζf.1 d;cases e)|cases d
 |exit id=>
  intro code F H r d h
  cases code with
  |exit S=>simp only[bS,ζa,RC.exit.injEq]at d;subst d;exact h|region id ops u=>simp only[bS]at d;(repeat' split at d)<;>first|(simp at d;done)|(obtain⟨_,_,e⟩:=ζf.1 d;cases e)
  |_=>simp only[bS]at d;(repeat' split at d)<;>first|(simp at d;done)|(obtain⟨_,_,e⟩:=ζf.1 d;cases e)|cases d
 |ret=>
  intro code F H r d h
  cases code with
  |ret=>exact h|region id ops u=>simp only[bS]at d;(repeat' split at d)<;>first|(simp at d;done)|(obtain⟨_,_,e⟩:=ζf.1 d;cases e)
  |_=>simp only[bS]at d;(repeat' split at d)<;>first|(simp at d;done)|(obtain⟨_,_,e⟩:=ζf.1 d;cases e)|cases d
 |_=>intro code F H r d h;simp[iE]at h
end
def Ex(E:Env)(N:Nat->FuncId)(a:RC)(F:Frame)(H:bn)(o:Out)(F':Frame)(H':bn):Prop:=∃n,∀k,n<=k->iE E N (run E k) k a F H=some (o,F',H')
def mQ(E:Env)(N:Nat->FuncId)(a:RC)(F:Frame)(H:bn)(o:Out)(F':Frame)(H':bn):Prop:=∃n,∀k,n<=k->∀u,n<=u->lG (iE E N (run E k) k a) u F H=some (o,F',H')
section
variable{E:Env}{N:Nat->FuncId}{a b c:RC}{F F1 F':Frame}{H H1 H':bn}{o:Out}{x:Arg}{id:Nat}
theorem Ex.ops{l:L' RO}(h:∃n,∀k,n<=k->cG E N (run E k) none l F H=some (F',H')):Ex E N (.ops l) F H .norm F' H':=let⟨n,h⟩:=h;⟨n,λk a=>by simp only[iE,h k a,map_some]⟩
theorem Ex.dg{l:L' RO}(h:∀call,cG E N call none l F H=some (F',H')):Ex E N (.ops l) F H .norm F' H':=Ex.ops ⟨0,λk _=>h _⟩
theorem Ex.qn{l:L' RO}(B:za l=true)(h:∀call,cG E N call (some H.length) l F H=some (F',H')):Ex E N (.qn l) F H .norm F' H':=⟨0,λk _=>by simp only[iE,B,if_true,h,map_some]⟩
theorem Ex.NX{l:L' RO}(B:za l=true)(h:∃n,∀k,n<=k->cG E N (run E k) (some H.length) l F H=some (F',H')):Ex E N (.qn l) F H .norm F' H':=let⟨n,h⟩:=h;⟨n,λk a=>by simp only[iE,B,if_true,h k a,map_some]⟩
theorem Ex.skip:Ex E N .skip F H .norm F H:=⟨0,λ_ _=>rfl⟩
theorem Ex.exit:Ex E N (.exit id) F H (.exit id) F H:=⟨0,λ_ _=>rfl⟩
theorem Ex.ret:Ex E N .ret F H .ret F H:=⟨0,λ_ _=>rfl⟩
theorem Ex.seq(c:Ex E N a F H .norm F1 H1)(B:Ex E N b F1 H1 o F' H'):Ex E N (.seq a b) F H o F' H':=by obtain⟨n,c⟩:=c;obtain⟨m,B⟩:=B;exact⟨max n m,λk d=>by simp only[iE,c k Zaa];exact B k Zaa⟩
theorem Ex.uK(c:Ex E N a F H o F' H')(B:o≠.norm):Ex E N (.seq a b) F H o F' H':=by obtain⟨n,c⟩:=c;refine⟨n,λk d=>?_⟩;simp only[iE,c k d];cases o<;>first|exact absurd rfl B|rfl
theorem Ex.nR(B:bt N F x=.bool true)(h:Ex E N a F H o F' H'):Ex E N (.cond x a b) F H o F' H':=by obtain⟨n,h⟩:=h;exact⟨n,λk c=>by simp only[iE,B,if_true,h k c]⟩
theorem Ex.qi(B:bt N F x=.bool false)(h:Ex E N b F H o F' H'):Ex E N (.cond x a b) F H o F' H':=by obtain⟨n,h⟩:=h;exact⟨n,λk c=>by simp only[iE,B,false_eq_true,if_false,h k c]⟩
theorem Ex.block(h:Ex E N c F H .norm F' H'):Ex E N (.block id c) F H .norm F' H':=by obtain⟨n,h⟩:=h;exact⟨n,λk a=>by simp only[iE,h k a]⟩
theorem Ex.vR(h:Ex E N c F H (.exit id) F' H'):Ex E N (.block id c) F H .norm F' H':=by obtain⟨n,h⟩:=h;exact⟨n,λk a=>by simp only[iE,h k a,if_true]⟩
theorem Ex.Pf(h:Ex E N c F H .ret F' H'):Ex E N (.block id c) F H .ret F' H':=by obtain⟨n,h⟩:=h;exact⟨n,λk a=>by simp only[iE,h k a]⟩
theorem Ex.loop(h:mQ E N c F H o F' H'):Ex E N (.loop c) F H o F' H':=by obtain⟨n,h⟩:=h;exact⟨n,λk a=>h k a k a⟩
theorem mQ.step(a:Ex E N c F H .norm F1 H1)(B:mQ E N c F1 H1 o F' H'):mQ E N c F H o F' H':=by obtain⟨n,a⟩:=a;obtain⟨m,B⟩:=B;refine⟨max n m+1,λk b u w=>?_⟩;cases u with|zero=>omega|succ u=>simp only[lG,a k Zaa];exact B k Zaa u Zaa
theorem mQ.stop(a:Ex E N c F H o F' H')(B:o≠.norm):mQ E N c F H o F' H':=by obtain⟨n,a⟩:=a;refine⟨n+1,λk b u w=>?_⟩;cases u with|zero=>omega|succ u=>simp only[lG,a k Zaa];cases o<;>first|exact absurd rfl B|rfl
end
theorem Ex.run{E:Env}{nm:FuncId->Lk Nat}{N:Nat->FuncId}(B:∀f s,nm f=some s->N s=f){f:FuncId}{fi:FI}{a:RC}(D:E.ft f=some fi)(b:bS ⟨E,nm,fi.ntmps⟩ false fi.body=some a){args:L' V}(G:args.length<=fi.ntmps){H H':bn}{F':Frame}
 (h:Ex E N a args H .ret F' H'){vs:L' V}(c:iR E F' H' fi.results=some vs):∃n,run E n (.fn f) args H=some (result vs,H'):=by
 obtain⟨n,h⟩:=h;refine⟨n+1,?_⟩;have:=Rw (X:=⟨E,nm,fi.ntmps⟩) (call:=Go.VE.run E n) B (lf:=n) a fi.body args H _ b (h n (le_refl _));simp only[Go.VE.run,kI,D,if_pos G,this,c,map_some]
@[simp] theorem bu(F:Frame)(i j:Nat)(v:V):get (set F i v) j=if i=j then v else get F j:=by
 split;next h=>subst h;exact ug F i v
 rename_i h;exact iF F v h
def refs:L' Nat->L' (L' V)->L' (L' V)
 |id::ids,r::rs=>[V.hsl id 1 0 r.length]::refs ids rs|_,_=>[]
def jB(r:L' V):L' (L' V):=r.map λu=>[u]
structure ni(H:bn)(w:V)(o:Nat)(ids:List Nat)(rows:List (List V)):Prop where
 v:w=if rows=[]then .bM else .hsl o 1 0 rows.length
 ob:rows≠[]->H[o]?=some (.row 1 (refs ids rows))
 len:ids.length=rows.length
 r:∀(i id:Nat)(r:List V),ids[i]?=some id->rows[i]?=some r->H[id]?=some (.row 1 (jB r))
 nd:ids.Nodup
 ne:rows≠[]->o∉ids
theorem uU:∀{ids:L' Nat}{rows:L' (L' V)},ids.length=rows.length->(refs ids rows).length=rows.length
 |[],[],_=>rfl|_::ids,_::rows,h=>by simp only[refs,length_cons,uU (ids:=ids) (rows:=rows) (by simpa using h)]
theorem J6:∀{ids:L' Nat}{rows:L' (L' V)}(id:Nat)(r:L' V),ids.length=rows.length->refs (ids++[id]) (rows++[r])=refs ids rows++[[V.hsl id 1 0 r.length]]
 |[],[],_,_,_=>rfl|_::ids,_::rows,id,r,h=>by simp only[refs,cons_append,J6 (ids:=ids) (rows:=rows) id r (by simpa using h)]
theorem Dp:∀{ids:L' Nat}{rows:L' (L' V)}{i id:Nat}{r:L' V},ids[i]?=some id->rows[i]?=some r->(refs ids rows)[i]?=some [V.hsl id 1 0 r.length]
 |[],_,_,_,_,h,_=>by simp at h|_::_,[],_,_,_,_,h=>by simp at h|a::ids,b::rows,0,id,r,h1,B=>by simp at h1 B;subst h1 B;rfl|a::ids,b::rows,i+1,id,r,h1,B=>by simpa[refs]using Dp (ids:=ids) (rows:=rows) (i:=i) (by simpa using h1) (by simpa using B)
theorem Kr:∀{ids:L' Nat}{rows:L' (L' V)}{i:Nat}{r B:L' V},rows[i]?=some r->B.length=r.length->refs ids (rows.set i B)=refs ids rows
 |[],_,_,_,_,_,_=>by simp[refs]|_::_,[],_,_,_,_,_=>by simp[refs]|a::ids,b::rows,0,r,B,h,D=>by simp at h;subst h;simp only[List.set_cons_zero,refs,D]|a::ids,b::rows,i+1,r,B,h,D=>by simp only[List.set_cons_succ,refs,Kr (ids:=ids) (rows:=rows) (i:=i) (by simpa using h) D]
section
variable{H H':bn}{v:V}{o:Nat}{ids:L' Nat}{rows:L' (L' V)}
theorem ni.nil(H:bn)(o:Nat):ni H .bM o [] []:=⟨rfl,λh=>absurd rfl h,rfl,λi id r h=>by simp at h,.nil,λh=>absurd rfl h⟩
theorem ni.heap(n:ni H v o ids rows)(B:rows≠[]->H'[o]?=H[o]?)(hi:∀id∈ids,H'[id]?=H[id]?):ni H' v o ids rows:=⟨n.v,λh=>by rw[B h];exact n.ob h,n.len,λi id r h1 u=>by rw[hi id (mem_of_getElem? h1)];exact n.r i id r h1 u,n.nd,n.ne⟩
theorem ni.lt(n:ni H v o ids rows):(rows≠[]->o<H.length)/\∀id∈ids,id<H.length:=by refine⟨λh=>(ζe.1 (n.ob h)).1,λid u=>?_⟩;obtain⟨i,hi⟩:=getElem?_of_mem u;have w:=(ζe.1 hi).1;have:=n.r i id _ hi (ζd (show i<rows.length from n.len▸w));exact(ζe.1 this).1
theorem ni.more(n:ni H v o ids rows)(X:bn):ni (H++X) v o ids rows:=n.heap (λh=>getElem?_append_left (n.lt.1 h)) λid u=>getElem?_append_left (n.lt.2 id u)
theorem ni.push(n:ni H v o ids rows)(r:L' V)(U:rows.length+1<=2147483648):
 ∃H',fE (H++[.row 1 (jB r)]++[.row 1 [[.hsl H.length 1 0 r.length]]]) (.append 1) [v,.hsl (H.length+1) 1 0 1]=some (.hsl (H.length+2) 1 0 (rows.length+1),H')/\
  ni H' (.hsl (H.length+2) 1 0 (rows.length+1)) (H.length+2) (ids++[H.length]) (rows++[r])/\H.length<=H'.length/\(∀id,id<H.length->id≠o\/rows=[]->H'[id]?=H[id]?):=by
 generalize C:H++[.row 1 (jB r)]++[.row 1 [[.hsl H.length 1 0 r.length]]]=H2;have u:H2.length=H.length+2:=by subst C;simp
 have z:∀id,id<H.length->H2[id]?=H[id]?:=λid h=>by subst C;rw[append_assoc,getElem?_append_left h]
 have g:H2[H.length]?=some (.row 1 (jB r)):=by subst C;simp
 have T:H2[H.length+1]?=some (.row 1 [[.hsl H.length 1 0 r.length]]):=by subst C;simp
 have f:=n.v;have e2:dM H2 1 (.hsl (H.length+1) 1 0 1)=some [[.hsl H.length 1 0 r.length]]:=by simp[dM,T,Ob.rows]
 by_cases c:rows=[]
 .subst c;rw[if_pos rfl]at f;subst f;have:ids=[]:=List.eq_nil_of_length_eq_zero n.len;subst this;refine⟨H2++[.row 1 [[.hsl H.length 1 0 r.length]]],?_,⟨Zab,λ_=>by rw[<-u];simp[refs],rfl,λi id O hi w=>?_,Zab,λ_=>Zab⟩,by simp[u];omega,λid D _=>?_⟩
  .have e1:dM H2 1 .bM=some []:=rfl;simp only[fE,e1,e2,iy,List.length_nil,length_singleton,map_some,u];simp
  .cases i with
   |zero=>simp at hi w;subst hi w;rw[getElem?_append_left Zaa];exact g|succ i=>simp at hi
  rw[getElem?_append_left Zaa];exact z id D
 rw[if_neg c]at f;subst f;have Q:=n.ob c;have I:=n.lt.1 c;have e1:dM H2 1 (.hsl o 1 0 rows.length)=some (refs ids rows):=by simp only[dM,if_true,z o I,Q,ζb,Ob.rows,uU n.len,zero_add,le_refl,drop_zero];rw[take_of_length_le (by rw[uU n.len];exact le_refl _)]
 have W:iy H2 (.hsl o 1 0 rows.length)=some (H2.set o .dead):=by simp only[iy,z o I,Q]
 have B:∀id,id≠o->(H2.set o Ob.dead++[Ob.row 1 (refs ids rows++[[.hsl H.length 1 0 r.length]])])[id]?=if id<H2.length then H2[id]?else(H2.set o Ob.dead++[Ob.row 1 (refs ids rows++[[.hsl H.length 1 0 r.length]])])[id]?:=λid G=>by
  split;next h=>rw[getElem?_append_left (by simpa using h),getElem?_set_ne (Ne.symm G)]
  rfl
 refine⟨H2.set o .dead++[.row 1 (refs ids rows++[[.hsl H.length 1 0 r.length]])],?_,⟨Zab,λ_=>?_,by simp[n.len],λi id O hi w=>?_,?_,λ_ d=>?_⟩,by simp[u];omega,λid D G=>?_⟩
 .simp only[fE,e1,e2,W,uU n.len,length_singleton,U,if_true,map_some,u]
 .rw[J6 _ _ n.len,<-u];simp
 .have J:id≠o:=by
   rcases Nat.lt_or_ge i ids.length with h|h
   .rw[getElem?_append_left h]at hi;intro e;subst e;exact n.ne c (mem_of_getElem? hi)
   have:i=ids.length:=by have:=(ζe.1 hi).1;simp at this;omega
   subst this;simp at hi;subst hi;omega
  rcases Nat.lt_or_ge i ids.length with h|h
  .rw[getElem?_append_left h]at hi;rw[getElem?_append_left (by rw[<-n.len];exact h)]at w
   have L:=n.lt.2 id (mem_of_getElem? hi);rw[B id J,if_pos Zaa,z id L]
   exact n.r i id O hi w
  have:i=ids.length:=by have:=(ζe.1 hi).1;simp at this;omega
  subst this;simp at hi;subst hi;rw[n.len]at w;simp at w;subst w;rw[B _ J,if_pos Zaa];exact g
 .rw[List.nodup_append];exact⟨n.nd,Zab,λa X b S=>by simp at S;subst S;exact Nat.ne_of_lt (n.lt.2 a X)⟩
 .rcases mem_append.1 d with d|d
  .have:=n.lt.2 _ d;omega
  simp at d
 rw[B id (G.resolve_right c),if_pos Zaa];exact z id D
end
theorem kf{E:Env}{N:Nat->FuncId}{F:Frame}{H H1:bn}{call:dG}{b:Lk Nat}{o:RO}{l:L' RO}{v:V}{r:Frame×bn}(a:o.gd=none)(c:bH E N call b o.now o.k (o.az.map (bt N F)) H=some (v,H1))(h:cG E N call b l (br F o.dst v) H1=some r):cG E N call b (o::l) F H=some r:=by simp only[cG,a,c];exact h
theorem vp{E:Env}{N:Nat->FuncId}{F:Frame}{H:bn}{call:dG}{b:Lk Nat}{o:RO}{l:L' RO}{v:V}{r:Frame×bn}(a:o.gd=none)(c:bH E N call b o.now o.k (o.az.map (bt N F)) H=some (v,H))(h:cG E N call b l (br F o.dst v) H=some r):cG E N call b (o::l) F H=some r:=kf a c h
theorem d_{E:Env}{N:Nat->FuncId}{F:Frame}{H:bn}{call:dG}{b:Lk Nat}:cG E N call b [] F H=some (F,H):=rfl
theorem zd{n:Nat}(h:n<=2147483648):wrap .i64 ((n:Int)+1)=((n+1:Nat):Int):=by simp[wrap,IntKind.bits,signed];omega
theorem Zj{n:Nat}(h:n<=2147483648):wrap .i64 (((n+1:Nat):Int)-1)=(n:Int):=by simp[wrap,IntKind.bits,signed];omega
theorem ku(H:bn):H.take H.length=H:=List.take_length
theorem Dy{E:Env}{nm:FuncId->Lk Nat}{f:FuncId}{a:RC}{n:Nat}{rs:L' ResultVar}(h:((E.ft f).map λfi=>(bS ⟨E,nm,fi.ntmps⟩ false fi.body,ble n fi.ntmps,fi.results))=some (some a,true,rs)):
 ∃fi,E.ft f=some fi/\bS ⟨E,nm,fi.ntmps⟩ false fi.body=some a/\n<=fi.ntmps/\fi.results=rs:=by
 obtain⟨fi,b,u⟩:=ζf.1 h;simp only[ζc]at u;exact⟨fi,b,u.1,le_of_ble_eq_true u.2.1,u.2.2⟩
theorem GH{x:V}(h:x.one=true):x.cells=[x]:=by cases x<;>first|rfl|(simp[V.one]at h)
theorem Yw{call:dG}{f:FuncId}{args az:L' V}{H:bn}(h:borrows call.lv H args=some az)(a:∀x∈az,x.closed=true):cm call f args H=cm call f az []:=by
 have:borrows call.lv [] az=some az:=by clear h;unfold borrows;induction az with|nil=>rfl|cons x l u=>simp only[iU,eA call.lv [] (a x Zab),u λy w=>a y (List.mem_cons_of_mem _ w)]
 unfold cm;rw[h,this]
def kept(t:Nat->Bool)(n:Nat):L' Nat:=(range n).filter λi=>i==0|| !t i
theorem ym(t:Nat->Bool)(n:Nat):kept t (n+1)=kept t n++if n==0|| !t n then[n]else[]:=by unfold kept;rw[List.range_succ,List.filter_append,List.filter_cons];rfl
theorem Cr(t:Nat->Bool):∀n,(kept t n).length<=n:=λn=>by unfold kept;exact Nat.le_trans (List.length_filter_le ..) Zab
theorem MC{t:Nat->Bool}{n i:Nat}(h:i∈kept t n):i<n:=by unfold kept at h;exact mem_range.1 (List.mem_filter.1 h).1
theorem C7{t:Nat->Bool}:∀n,(∀i,0<i->i<n->t i=false)->kept t n=range n
 |0,_=>rfl|n+1,h=>by rw[ym,C7 n λi a B=>h i a Zaa,List.range_succ];congr 1;cases n with|zero=>rfl|succ n=>rw[h (n+1) Zaa Zaa];simp
theorem BE{t:Nat->Bool}{k:Nat}(b:0<k)(a:t k=true):∀n,k<n->(kept t n).length+1<=n
 |0,h=>Zaa|n+1,h=>by
  rw[ym];by_cases e:n=k;subst e;have:(n==0|| !t n)=false:=by simp[a];omega
  rw[this];have:=Cr t n;simp;omega;have:=BE b a n Zaa;split<;>simp<;>omega
namespace cmpX
instance{n:Nat}:OfNat Arg n:=⟨.s n⟩
def r1:L' RO:=[o1 4 (.k (.bM)) []]
def r2:L' RO:=[o1 8 0 [],o2 9 (.p .lenSl) [8] [],o2 10 (.p (.bin (some .int) none .lss)) [9,.k (.int .i64 2)] []]
def r3:L' RO:=[o1 11 0 [],o1 4 11 []]
def r4:L' RO:=[o1 5 (.k (.int .i64 1)) []]
def r5:L' RO:=[o1 12 5 [],o1 13 0 [],o2 14 (.p .lenSl) [13] [],o2 15 (.p (.bin (some .int) none .lss)) [12,14] []]
def on(d:Nat)(k:K)(az:L' Arg):RO:=⟨some d,none,true,k,az,[],[]⟩
def r6:L' RO:=[o1 18 1 [],o1 19 0 [],o1 20 5 [],o2 21 (.p (.idxS 1)) [19,20] [],o2 22 (.r (.load 1 false)) [21] [],o1 23 0 [],o1 24 5 [],o2 25 (.p (.bin (some .int) none .sub)) [24,.k (.int .i64 1)] [],o2 26 (.p (.idxS 1)) [23,25] [],o2 27 (.r (.load 1 false)) [26] [],on 28 .c [18,22,27]]
def r7:L' RO:=[o1 29 0 [],o1 30 5 [],o2 31 (.p (.slice 1 true false)) [29,30] [],o1 6 31 []]
def r8:L' RO:=[o1 7 (.k (.int .i64 1)) []]
def r9:L' RO:=[o1 32 7 [],o1 33 6 [],o2 34 (.p .lenSl) [33] [],o2 35 (.p (.bin (some .int) none .lss)) [32,34] []]
def ES:L' RO:=[o1 38 1 [],o1 39 6 [],o1 40 7 [],o2 41 (.p (.idxS 1)) [39,40] [],o2 42 (.r (.load 1 false)) [41] [],o1 43 6 [],o1 44 7 [],o2 45 (.p (.bin (some .int) none .sub)) [44,.k (.int .i64 1)] [],o2 46 (.p (.idxS 1)) [43,45] [],o2 47 (.r (.load 1 false)) [46] [],on 48 .c [38,42,47],on 49 (.p (.not)) [48]]
def Hz:L' RO:=[o1 50 0 [],o1 51 5 [],o1 52 6 [],o1 53 7 [],o2 54 (.p (.idxS 1)) [52,53] [],o2 55 (.r (.load 1 false)) [54] [],o2 56 (.p (.idxS 1)) [50,51] [],⟨none,none,false,.l (.store 1),[56,55],[],[]⟩]
def GG:L' RO:=[o1 57 5 [],o2 58 (.p (.bin (some .int) none .add)) [57,.k (.int .i64 1)] [],o1 5 58 []]
def Hx:L' RO:=[o1 36 7 [],o2 37 (.p (.bin (some .int) none .add)) [36,.k (.int .i64 1)] [],o1 7 37 []]
def ZU:RC:=.seq (.seq (.ops r9) (.cond (.s 35) (.skip) (.exit 2))) (.seq (.block 3 (.seq (.qn ES) (.cond (.s 49) (.seq (.ops Hz) (.ops GG)) (.skip)))) (.ops Hx))
def D6:L' RO:=[o1 59 0 [],o1 60 5 [],o2 61 (.p (.slice 1 true false)) [59,60] [],⟨none,none,false,.l (.clear 1 [.bM]),[61],[],[]⟩]
def Gx:L' RO:=[o1 62 0 [],o1 63 5 [],o2 64 (.p (.slice 1 false true)) [62,63] [],o1 4 64 []]
def r16:L' RO:=[o1 16 5 [],o2 17 (.p (.bin (some .int) none .add)) [16,.k (.int .i64 1)] [],o1 5 17 []]
def Uy:RC:=.seq (.seq (.ops r5) (.cond (.s 15) (.skip) (.exit 0))) (.seq (.block 1 (.seq (.qn r6) (.cond (.s 28) (.seq (.ops r7) (.seq (.seq (.ops r8) (.block 2 (.loop ZU))) (.seq (.ops D6) (.seq (.ops Gx) (.ret))))) (.skip)))) (.ops r16))
def Qr:L' RO:=[o1 65 0 [],o1 4 65 []]
def code:RC:=.seq (.ops r1) (.seq (.seq (.ops r2) (.cond (.s 10) (.seq (.ops r3) (.ret)) (.skip))) (.seq (.seq (.ops r4) (.block 0 (.loop Uy))) (.seq (.ops Qr) (.ret))))
section
variable{E:Env}{N:Nat->FuncId}{F:Frame}{H:bn}{call:dG}{id off L k:Nat}
theorem ld{B:L' (L' V)}{el:Nat}{v:V}(h:H[id]?=some (.row 1 B))(a:B[el]?=some [v]):eZ H (.load 1 false) [.hptr id el 0]=some v:=by simp[eZ,ey,h,Ob.rows,a,cut,mk]
theorem Uc{i:Nat}(h:i<L):mH 1 (.hsl id 1 off L) (i:Int)=some (.hptr id (off+i) 0):=by unfold mH;rw[if_neg Zaa];simp[h]
theorem x2(a:get F 0=.hsl id 1 off L):∃F',(∀call,cG E N call none r2 F H=some (F',H))/\get F' 10=.bool (decide ((L:Int)<2))/\(∀s,s<8->get F' s=get F s):=by refine⟨_,λcall=>vp (v:=.hsl id 1 off L) rfl ?_<|vp (v:=.int .i64 L) rfl ?_<|vp (v:=.bool (decide ((L:Int)<2))) rfl ?_ d_,?_,?_⟩;simp[bH,bt,bl,a];simp[bH,bt,bl,br,o8];simp[bH,bt,bl,br,h_,oR];simp[br];intro s u;simp only[br,bu];repeat (rw[if_neg Zaa])
theorem x5(a:get F 0=.hsl id 1 off L)(b:get F 5=.int .i64 k):∃F',(∀call,cG E N call none r5 F H=some (F',H))/\get F' 15=.bool (decide (k<L))/\(∀s,s<8->get F' s=get F s):=by refine⟨_,λcall=>vp (v:=.int .i64 k) rfl ?_<|vp (v:=.hsl id 1 off L) rfl ?_<|vp (v:=.int .i64 L) rfl ?_<|vp (v:=.bool (decide (k<L))) rfl ?_ d_,?_,?_⟩;simp[bH,bt,bl,b];simp[bH,bt,bl,br,a];simp[bH,bt,bl,br,o8];simp[bH,bt,bl,br,h_,oR];simp[br];intro s u;simp only[br,bu];repeat (rw[if_neg Zaa])
theorem XJ{g:FuncId}{cb:List V}{B:List (List V)}{o2 L2 i:Nat}{a b:V}{t:Bool}(h:H[id]?=some (.row 1 B))(hi:i+1<L2)(D:i<=2147483648)(G:B[o2+(i+1)]?=some [a])(J:B[o2+i]?=some [b])(hk:E.keep g=false)(f1:get F 1=.clo g [] cb):
 (get F 0=.hsl id 1 o2 L2->get F 5=.int .i64 ((i+1:Nat):Int)->∃F',(∀call,cm call g (a::b::cb) H=some (.bool t)->cG E N call (some H.length) r6 F H=some (F',H))/\get F' 28=.bool t/\(∀s,s<8->get F' s=get F s))/\
 (get F 6=.hsl id 1 o2 L2->get F 7=.int .i64 ((i+1:Nat):Int)->∃F',(∀call,cm call g (a::b::cb) H=some (.bool t)->cG E N call (some H.length) ES F H=some (F',H))/\get F' 49=.bool (!t)/\(∀s,s<8->get F' s=get F s)):=by
 have hd:=Zj D;have e1:=ld h G;have e2:=ld h J;have i1:=Uc (id:=id) (off:=o2) (L:=L2) hi;have i2:=Uc (id:=id) (off:=o2) (L:=L2) (show i<L2 by omega)
 refine⟨λf0 f5=>⟨_,λcall hc=>vp (v:=.clo g [] cb) rfl ?_<|vp (v:=.hsl id 1 o2 L2) rfl ?_<|vp (v:=.int .i64 ((i+1:Nat):Int)) rfl ?_<|vp (v:=.hptr id (o2+(i+1)) 0) rfl ?_<|vp (v:=a) rfl ?_<|vp (v:=.hsl id 1 o2 L2) rfl ?_<|vp (v:=.int .i64 ((i+1:Nat):Int)) rfl ?_<|
  vp (v:=.int .i64 (i:Int)) rfl ?_<|vp (v:=.hptr id (o2+i) 0) rfl ?_<|vp (v:=b) rfl ?_<|vp (v:=.bool t) rfl ?_ d_,?_,?_⟩,λf6 f7=>⟨_,λcall hc=>vp (v:=.clo g [] cb) rfl ?_<|vp (v:=.hsl id 1 o2 L2) rfl ?_<|vp (v:=.int .i64 ((i+1:Nat):Int)) rfl ?_<|vp (v:=.hptr id (o2+(i+1)) 0) rfl ?_<|vp (v:=a) rfl ?_<|vp (v:=.hsl id 1 o2 L2) rfl ?_<|vp (v:=.int .i64 ((i+1:Nat):Int)) rfl ?_<|
  vp (v:=.int .i64 (i:Int)) rfl ?_<|vp (v:=.hptr id (o2+i) 0) rfl ?_<|vp (v:=b) rfl ?_<|vp (v:=.bool t) rfl ?_<|vp (v:=.bool (!t)) rfl ?_ d_,?_,?_⟩⟩
 .simp[bH,bt,bl,f1]
 .simp[bH,bt,bl,br,f0]
 .simp only[bH,List.map_cons,List.map_nil,bt,br,bu,Nat.reduceEqDiff,if_true,if_false,f5,bl];rfl
 .simp only[bH,List.map_cons,List.map_nil,bt,br,bu,Nat.reduceEqDiff,if_true,if_false,bl];rw[i1];rfl
 .simp only[bH,List.map_cons,List.map_nil,bt,br,bu,Nat.reduceEqDiff,if_true,if_false,ku];rw[e1];rfl
 .simp[bH,bt,bl,br,f0]
 .simp only[bH,List.map_cons,List.map_nil,bt,br,bu,Nat.reduceEqDiff,if_true,if_false,f5,bl];rfl
 .simp only[bH,List.map_cons,List.map_nil,bt,br,bu,Nat.reduceEqDiff,if_true,if_false,bl,h_,hd];rfl
 .simp only[bH,List.map_cons,List.map_nil,bt,br,bu,Nat.reduceEqDiff,if_true,if_false,bl];rw[i2];rfl
 .simp only[bH,List.map_cons,List.map_nil,bt,br,bu,Nat.reduceEqDiff,if_true,if_false,ku];rw[e2];rfl
 .simp only[bH,on,List.map_cons,List.map_nil,bt,br,bu,Nat.reduceEqDiff,if_true,if_false,ku,hk,Bool.false_eq_true,List.nil_append,List.cons_append,hc,V.scalar]
 .simp[br,on]
 .intro s u;simp only[br,on,bu]
  repeat (rw[if_neg Zaa])
 .simp[bH,bt,bl,f1]
 .simp[bH,bt,bl,br,f6]
 .simp only[bH,List.map_cons,List.map_nil,bt,br,bu,Nat.reduceEqDiff,if_true,if_false,f7,bl];rfl
 .simp only[bH,List.map_cons,List.map_nil,bt,br,bu,Nat.reduceEqDiff,if_true,if_false,bl];rw[i1];rfl
 .simp only[bH,List.map_cons,List.map_nil,bt,br,bu,Nat.reduceEqDiff,if_true,if_false,ku];rw[e1];rfl
 .simp[bH,bt,bl,br,f6]
 .simp only[bH,List.map_cons,List.map_nil,bt,br,bu,Nat.reduceEqDiff,if_true,if_false,f7,bl];rfl
 .simp only[bH,List.map_cons,List.map_nil,bt,br,bu,Nat.reduceEqDiff,if_true,if_false,bl,h_,hd];rfl
 .simp only[bH,List.map_cons,List.map_nil,bt,br,bu,Nat.reduceEqDiff,if_true,if_false,bl];rw[i2];rfl
 .simp only[bH,List.map_cons,List.map_nil,bt,br,bu,Nat.reduceEqDiff,if_true,if_false,ku];rw[e2];rfl
 .simp only[bH,on,List.map_cons,List.map_nil,bt,br,bu,Nat.reduceEqDiff,if_true,if_false,ku,hk,Bool.false_eq_true,List.nil_append,List.cons_append,hc,V.scalar]
 .simp[bH,on,bt,bl,br]
 .simp[br,on]
 intro s u;simp only[br,on,bu]
 repeat (rw[if_neg Zaa])
end
end cmpX
namespace cmpX
section
variable{E:Env}{N:Nat->FuncId}{F:Frame}{H:bn}{call:dG}{id off L k:Nat}
theorem x7(a:get F 0=.hsl id 1 off L)(b:get F 5=.int .i64 k)(c:k<=L):∃F',(∀call,cG E N call none r7 F H=some (F',H))/\get F' 6=.hsl id 1 (off+k) (L-k)/\(∀s,s<8->s≠6->get F' s=get F s):=by
 have e:iG 1 (.hsl id 1 off L) (some k) none=some (.hsl id 1 (off+k) (L-k)):=by unfold iG dX;grind
 refine⟨_,λcall=>vp (v:=.hsl id 1 off L) rfl ?_<|vp (v:=.int .i64 k) rfl ?_<|vp (v:=.hsl id 1 (off+k) (L-k)) rfl ?_<|vp (v:=.hsl id 1 (off+k) (L-k)) rfl ?_ d_,?_,?_⟩;simp[bH,bt,bl,a];simp[bH,bt,bl,br,b];simp[bH,bt,br,bu,bl,mz,e];simp[bH,bt,bl,br];simp[br];simp[br,bu];grind
theorem x9{o2 L2 m:Nat}(f6:get F 6=.hsl id 1 o2 L2)(a:get F 7=.int .i64 m):∃F',(∀call,cG E N call none r9 F H=some (F',H))/\get F' 35=.bool (decide (m<L2))/\(∀s,s<8->get F' s=get F s):=by refine⟨_,λcall=>vp (v:=.int .i64 m) rfl ?_<|vp (v:=.hsl id 1 o2 L2) rfl ?_<|vp (v:=.int .i64 L2) rfl ?_<|vp (v:=.bool (decide (m<L2))) rfl ?_ d_,?_,?_⟩;simp[bH,bt,bl,a];simp[bH,bt,bl,br,f6];simp[bH,bt,bl,br,o8];simp[bH,bt,bl,br,h_,oR];simp[br];simp[br,bu];grind
theorem XE{B:L' (L' V)}{o2 L2 m p:Nat}{a z:V}(h:H[id]?=some (.row 1 B))(c:get F 0=.hsl id 1 off L)(d:get F 5=.int .i64 p)(f6:get F 6=.hsl id 1 o2 L2)(e:get F 7=.int .i64 m)(D:m<L2)(hp:p<L)
 (G:B[o2+m]?=some [a])(J:B[off+p]?=some [z])(b:a.one=true):
 ∃F',(∀call,cG E N call none Hz F H=some (F',H.set id (.row 1 (B.set (off+p) [a]))))/\(∀s,s<8->get F' s=get F s):=by
 have i1:=Uc (id:=id) (off:=o2) D;have i2:=Uc (id:=id) (off:=off) hp;have e1:=ld h G;have u:fE H (.store 1) [.hptr id (off+p) 0,a]=some (.undef,H.set id (.row 1 (B.set (off+p) [a]))):=by simp[fE,h,J,GH b,b]
 refine⟨_,λcall=>vp (v:=.hsl id 1 off L) rfl ?_<|vp (v:=.int .i64 p) rfl ?_<|vp (v:=.hsl id 1 o2 L2) rfl ?_<|vp (v:=.int .i64 m) rfl ?_<|vp (v:=.hptr id (o2+m) 0) rfl ?_<|vp (v:=a) rfl ?_<|vp (v:=.hptr id (off+p) 0) rfl ?_<|kf (v:=.undef) rfl ?_ d_,?_⟩
 .simp[bH,bt,bl,c]
 .simp[bH,bt,bl,br,d]
 .simp[bH,bt,bl,br,f6]
 .simp[bH,bt,bl,br,e]
 .simp[bH,bt,br,bu,bl];grind
 .simp[bH,bt,br,bu];grind
 .simp[bH,bt,br,bu,bl];grind
 .simp[bH,bt,br,bu];omega
 simp[br,bu]
 grind
theorem NY{p:Nat}(hp:p<=2147483648):(get F 5=.int .i64 p->∃F',(∀call,cG E N call none GG F H=some (F',H))/\get F' 5=.int .i64 ((p+1:Nat):Int)/\(∀s,s<8->s≠5->get F' s=get F s))/\
 (get F 7=.int .i64 p->∃F',(∀call,cG E N call none Hx F H=some (F',H))/\get F' 7=.int .i64 ((p+1:Nat):Int)/\(∀s,s<8->s≠7->get F' s=get F s))/\
 (get F 5=.int .i64 p->∃F',(∀call,cG E N call none r16 F H=some (F',H))/\get F' 5=.int .i64 ((p+1:Nat):Int)/\(∀s,s<8->s≠5->get F' s=get F s)):=by
 have u:=zd hp;refine⟨λf=>⟨_,λcall=>vp (v:=.int .i64 p) rfl ?_<|vp (v:=.int .i64 (p+1:Nat)) rfl ?_<|vp (v:=.int .i64 (p+1:Nat)) rfl ?_ d_,?_,?_⟩,
  λf=>⟨_,λcall=>vp (v:=.int .i64 p) rfl ?_<|vp (v:=.int .i64 (p+1:Nat)) rfl ?_<|vp (v:=.int .i64 (p+1:Nat)) rfl ?_ d_,?_,?_⟩,
  λf=>⟨_,λcall=>vp (v:=.int .i64 p) rfl ?_<|vp (v:=.int .i64 (p+1:Nat)) rfl ?_<|vp (v:=.int .i64 (p+1:Nat)) rfl ?_ d_,?_,?_⟩⟩<;>
 first
 |(simp[bH,bt,bl,f];done)|(simp only[bH,map_cons,map_nil,bt,br,bu,if_true,bl,h_,u];rfl)|grind|(simp[br];done)|(simp[br,bu];grind)
theorem x14{B:L' (L' V)}{p:Nat}(h:H[id]?=some (.row 1 B))(a:get F 0=.hsl id 1 off L)(b:get F 5=.int .i64 p)(hp:p<L)(D:off+L<=B.length):
 ∃F',(∀call,cG E N call none D6 F H=some (F',H.set id (.row 1 (B.take (off+p)++replicate (L-p) [.bM]++B.drop (off+L)))))/\(∀s,s<8->get F' s=get F s):=by
 have e:iG 1 (.hsl id 1 off L) (some p) none=some (.hsl id 1 (off+p) (L-p)):=by unfold iG dX;grind
 obtain⟨q,u⟩:∃q,L-p=q+1:=⟨L-p-1,Zaa⟩
 have c:fE H (.clear 1 [.bM]) [.hsl id 1 (off+p) (L-p)]=some (.undef,H.set id (.row 1 (B.take (off+p)++replicate (L-p) [.bM]++B.drop (off+L)))):=by simp[fE,DU,u,h];grind
 refine⟨_,λcall=>vp (v:=.hsl id 1 off L) rfl ?_<|vp (v:=.int .i64 p) rfl ?_<|vp (v:=.hsl id 1 (off+p) (L-p)) rfl ?_<|kf (v:=.undef) rfl ?_ d_,?_⟩
 .simp[bH,bt,bl,a]
 .simp[bH,bt,bl,br,b]
 .simp[bH,bt,br,bu,bl,mz,e]
 .simp only[bH,map_cons,map_nil,bt,br,bu,if_true];omega
 simp[br,bu]
 grind
theorem Uh{p:Nat}(a:get F 0=.hsl id 1 off L)(b:get F 5=.int .i64 p)(hp:p<=L):∃F',(∀call,cG E N call none Gx F H=some (F',H))/\get F' 4=.hsl id 1 off p:=by
 have e:iG 1 (.hsl id 1 off L) none (some p)=some (.hsl id 1 off p):=by unfold iG dX;grind
 refine⟨_,λcall=>vp (v:=.hsl id 1 off L) rfl ?_<|vp (v:=.int .i64 p) rfl ?_<|vp (v:=.hsl id 1 off p) rfl ?_<|vp (v:=.hsl id 1 off p) rfl ?_ d_,?_⟩;simp[bH,bt,bl,a];simp[bH,bt,bl,br,b];simp[bH,bt,br,bu,bl,mz,e];simp[bH,bt,bl,br];simp[br]
theorem xmv:∃F',(∀call,cG E N call none Qr F H=some (F',H))/\get F' 4=get F 0:=⟨_,λcall=>vp (v:=get F 0) rfl (by simp[bH,bt,bl])<|vp (v:=get F 0) rfl (by simp[bH,bt,bl,br]) d_,by simp[br]⟩
theorem RJ:∃F',(∀call,cG E N call none r3 F H=some (F',H))/\get F' 4=get F 0:=⟨_,λcall=>vp (v:=get F 0) rfl (by simp[bH,bt,bl])<|vp (v:=get F 0) rfl (by simp[bH,bt,bl,br]) d_,by simp[br]⟩
end
structure Ib(E:Env)(g:FuncId)(cb:List V)(H:bn)(id off L:Nat)(rs:List (List V))(A:Nat->V)(t:Nat->Bool):Prop where
 row:H[id]?=some (.row 1 rs)
 len:off+L<=rs.length
 small:L<=2147483648
 at_:∀i,i<L->rs[off+i]?=some [A i]
 one:∀i,i<L->(A i).one=true
 keep:E.keep g=false
 cmp:∃n,∀k,n<=k->∀i,i+1<L->∀cur,cm (run E k) g (A (i+1)::A i::cb) (H.set id (.row 1 cur))=some (.bool (t (i+1)))
structure Head(g:FuncId)(cb:List V)(id off L kk m:Nat)(rs:List (List V))(A:Nat->V)(t:Nat->Bool)(F:Frame)(cur:List (List V)):Prop where
 f0:get F 0=.hsl id 1 off L
 f1:get F 1=.clo g [] cb
 f5:get F 5=.int .i64 ((kept t (kk+m)).length:Nat)
 f6:get F 6=.hsl id 1 (off+kk) (L-kk)
 f7:get F 7=.int .i64 m
 len:cur.length=rs.length
 pre:∀p i,(kept t (kk+m))[p]?=some i->cur[off+p]?=some [A i]
 post:∀i,kk+m<=i+1->i<L->cur[off+i]?=some [A i]
 out:∀j,j<off\/off+L<=j->cur[j]?=rs[j]?
 cell:∀i,i<L->∃j,j<L/\cur[off+i]?=some [A j]
section
variable{E:Env}{N:Nat->FuncId}{g:FuncId}{cb:L' V}{H:bn}{id off L kk:Nat}{rs:L' (L' V)}{A:Nat->V}{t:Nat->Bool}
theorem Nd(X:Ib E g cb H id off L rs A t)(x:0<kk)(ah:kk<L)(y:t kk=true):∀(d m:Nat)(F:Frame)(B:L' (L' V)),kk+m+d=L->0<m->Head g cb id off L kk m rs A t F B->
 ∃F' D,mQ E N ZU F (H.set id (.row 1 B)) (.exit 2) F' (H.set id (.row 1 D))/\Head g cb id off L kk (L-kk) rs A t F' D:=by
 have O:=(ζe.1 X.row).1;have G:∀B,(H.set id (.row 1 B))[id]?=some (.row 1 B):=λB=>getElem?_set_self O
 have ai:=X.small;have af:=X.len;intro d
 induction d with
 |zero=>
  intro m F B M P h;have R:m=L-kk:=Zaa
  subst R;obtain⟨F1,e1,e2,e3⟩:=x9 h.f6 h.f7;refine⟨F1,B,mQ.stop (Ex.uK (Ex.seq (Ex.dg e1) (Ex.qi (by simp[bt,e2]) Ex.exit)) Zab) Zab,?_⟩
  exact⟨by rw[e3 0 Zaa];exact h.f0,by rw[e3 1 Zaa];exact h.f1,by rw[e3 5 Zaa];exact h.f5,by rw[e3 6 Zaa];exact h.f6,by rw[e3 7 Zaa];exact h.f7,h.len,h.pre,h.post,h.out,h.cell⟩
 |succ d ih=>
  intro m F B M P h;obtain⟨F1,a1,a2,a3⟩:=x9 h.f6 h.f7;have T:bt N F1 35=.bool true:=by show get F1 35=_;rw[a2,decide_eq_true Zaa]
  obtain⟨m',rfl⟩:∃m',m=m'+1:=⟨m-1,Zaa⟩
  obtain⟨n0,ab⟩:=X.cmp;have q:B[off+kk+(m'+1)]?=some [A (kk+m'+1)]:=by have:=h.post (kk+m'+1) Zaa Zaa;grind
  have c2:B[off+kk+m']?=some [A (kk+m')]:=by have:=h.post (kk+m') Zaa Zaa;grind
  obtain⟨F2,b1,b,b3⟩:=(XJ (L2:=L-kk) (G B) Zaa Zaa q c2 X.keep (by rw[a3 1 Zaa];exact h.f1)).2 (by rw[a3 6 Zaa];exact h.f6) (by rw[a3 7 Zaa];exact h.f7)
  have U:∃n,∀k,n<=k->cG E N (run E k) (some (H.set id (.row 1 B)).length) ES F1 (H.set id (.row 1 B))=some (F2,H.set id (.row 1 B)):=⟨n0,λk hk=>b1 _ (ab k hk (kk+m') Zaa B)⟩
  have w:=λs r=>(b3 s r).trans (a3 s r)
  have ad:(kept t (kk+(m'+1))).length+1<=kk+(m'+1):=BE x y _ Zaa
  have u:kept t (kk+(m'+1)+1)=kept t (kk+(m'+1))++if t (kk+m'+1)then[]else[kk+m'+1]:=by rw[ym];grind
  have z:kk+(m'+1+1)=kk+(m'+1)+1:=Zaa
  cases W:t (kk+m'+1)with
  |true=>
   rw[W]at b u;simp at u;obtain⟨v,Y,c,Q⟩:=(NY (p:=m'+1) Zaa).2.1 (by rw[w 7 Zaa];exact h.f7)
   obtain⟨F',D,i1,i2⟩:=ih (m'+1+1) v B Zaa Zaa ⟨by rw[Q 0 Zaa Zaa,w 0 Zaa];exact h.f0,by rw[Q 1 Zaa Zaa,w 1 Zaa];exact h.f1,
    by rw[Q 5 Zaa Zaa,w 5 Zaa,z,u];exact h.f5,by rw[Q 6 Zaa Zaa,w 6 Zaa];exact h.f6,c,h.len,by rw[z,u];exact h.pre,λi a Z=>h.post i Zaa Z,h.out,h.cell⟩
   exact⟨F',D,mQ.step (Ex.seq (Ex.seq (Ex.dg a1) (Ex.nR T Ex.skip)) (Ex.seq (Ex.block (Ex.seq (Ex.NX (by decide) U) (Ex.qi (by simp[bt,b]) Ex.skip))) (Ex.dg Y))) i1,i2⟩
  |false=>
   rw[W]at b u;generalize f:(kept t (kk+(m'+1))).length=K at *;obtain⟨_,_,hz⟩:=h.cell K Zaa
   obtain⟨v,Y,c⟩:=XE (G B) (by rw[w 0 Zaa];exact h.f0) (by rw[w 5 Zaa,h.f5,f]) (by rw[w 6 Zaa];exact h.f6) (by rw[w 7 Zaa];exact h.f7) Zaa Zaa q hz (X.one _ Zaa)
   rw[set_set]at Y;generalize I:B.set (off+K) [A (kk+m'+1)]=J at Y;have l:∀j,J[j]?=if j=off+K then some [A (kk+m'+1)]else B[j]?:=λj=>by rw[<-I,List.getElem?_set];by_cases e:off+K=j;rw[if_pos e,if_pos e.symm,if_pos (by rw[h.len];omega)];rw[if_neg e,if_neg (Ne.symm e)]
   obtain⟨F4,Q,q4,q5⟩:=(NY (p:=K) Zaa).1 (by rw[c 5 Zaa,w 5 Zaa,h.f5,f])
   have C:∀s,s<8->s≠5->get F4 s=get F s:=λs a Z=>by rw[q5 s a Z,c s a,w s a]
   obtain⟨F5,q6,q7,o⟩:=(NY (p:=m'+1) Zaa).2.1 (by rw[C 7 Zaa Zaa];exact h.f7)
   obtain⟨F',D,i1,i2⟩:=ih (m'+1+1) F5 J Zaa Zaa ⟨by rw[o 0 Zaa Zaa,C 0 Zaa Zaa];exact h.f0,by rw[o 1 Zaa Zaa,C 1 Zaa Zaa];exact h.f1,
    by rw[o 5 Zaa Zaa,q4,z,u,ζi,f];rfl,by rw[o 6 Zaa Zaa,C 6 Zaa Zaa];exact h.f6,q7,by rw[<-I,List.length_set];exact h.len,
    λp i S=>by rw[z,u]at S;rw[l];by_cases e:p=K;subst e;rw[<-f,getElem?_append_right (le_refl _),Nat.sub_self]at S;cases S;rw[if_pos rfl];have ae:p<(kept t (kk+(m'+1))).length:=(by have:=(ζe.1 S).1;simp at this;omega);rw[getElem?_append_left ae]at S;rw[if_neg Zaa];exact h.pre p i S,
    λi a Z=>by rw[l,if_neg Zaa];exact h.post i Zaa Z,λj hj=>by rw[l,if_neg Zaa];exact h.out j hj,
    λi hi=>by rw[l];by_cases e:off+i=off+K;rw[if_pos e];exact⟨_,Zaa,rfl⟩;rw[if_neg e];exact h.cell i hi⟩
   exact⟨F',D,mQ.step (Ex.seq (Ex.seq (Ex.dg a1) (Ex.nR T Ex.skip)) (Ex.seq (Ex.block (Ex.seq (Ex.NX (by decide) U) (Ex.nR (by simp[bt,b]) (Ex.seq (Ex.dg Y) (Ex.dg Q))))) (Ex.dg q6))) i1,i2⟩
structure Sj(off L:Nat)(rs:List (List V))(A:Nat->V)(t:Nat->Bool)(rs':List (List V)):Prop where
 len:rs'.length=rs.length
 pre:∀p i,(kept t L)[p]?=some i->rs'[off+p]?=some [A i]
 all:∀c∈rs',c∈rs\/c=[.bM]
theorem NO(X:Ib E g cb H id off L rs A t):∀(d k:Nat)(F:Frame),k+d=L->0<k->(∀i,0<i->i<k->t i=false)->get F 0=.hsl id 1 off L->get F 1=.clo g [] cb->get F 5=.int .i64 k->
 (∃F',mQ E N Uy F H (.exit 0) F' H/\get F' 0=.hsl id 1 off L/\∀i,0<i->i<L->t i=false)\/
 (∃F' D,mQ E N Uy F H .ret F' (H.set id (.row 1 D))/\get F' 4=.hsl id 1 off (kept t L).length/\Sj off L rs A t D):=by
 have Q:=(ζe.1 X.row).1;have S:=sy X.row;have ah:=X.small;have af:=X.len;intro d
 induction d with
 |zero=>
  intro k F he r hp b v e;have ek:k=L:=Zaa
  subst ek;obtain⟨F1,e1,e2,e3⟩:=x5 (N:=N) b e;exact .inl ⟨F1,mQ.stop (Ex.uK (Ex.seq (Ex.dg e1) (Ex.qi (by simp[bt,e2]) Ex.exit)) Zab) Zab,Zac,hp⟩
 |succ d ih=>
  intro k F he r hp b v e;obtain⟨F1,a1,a2,a3⟩:=x5 b e;have U:bt N F1 15=.bool true:=by show get F1 15=_;rw[a2,decide_eq_true Zaa]
  obtain⟨u,rfl⟩:∃u,k=u+1:=⟨k-1,Zaa⟩
  obtain⟨n0,ai⟩:=X.cmp;obtain⟨y,b1,f,b3⟩:=(XJ (N:=N) (cb:=cb) (g:=g) (i:=u) (L2:=L) (t:=t (u+1)) X.row Zaa Zaa (X.at_ _ Zaa) (X.at_ _ Zaa) X.keep (by rw[a3 1 Zaa];omega)).1 Zac Zac
  have W:∃n,∀k,n<=k->cG E N (run E k) (some H.length) r6 F1 H=some (y,H):=⟨n0,λk r=>b1 _ (by
   grind)⟩
  have Y:=λs M=>(b3 s M).trans (a3 s M)
  cases w:t (u+1)with
  |false=>
   rw[w]at f;obtain⟨T,l,m,h⟩:=(NY (E:=E) (F:=y) (p:=u+1) Zaa).2.2 Zac
   have z:Ex E N Uy F H .norm T H:=Ex.seq (Ex.seq (Ex.dg a1) (Ex.nR U Ex.skip)) (Ex.seq (Ex.block (Ex.seq (Ex.NX (by decide) W) (Ex.qi (by simp[bt,f]) Ex.skip))) (Ex.dg l))
   rcases ih (u+1+1) T Zaa Zaa (λi P Z=>by
    grind) Zac (by simp_all) m with⟨F',i1,i2⟩|⟨F',D,i1,i2⟩
   .exact .inl ⟨F',mQ.step z i1,i2⟩
   exact .inr ⟨F',D,mQ.step z i1,i2⟩
  |true=>
   rw[w]at f;refine .inr ?_;obtain⟨T,l,m,h⟩:=x7 (E:=E) (N:=N) (H:=H) (k:=u+1) (by rw[Y 0 Zaa];exact b) (by rw[Y 5 Zaa];exact e) Zaa
   have G:kept t (u+1)=range (u+1):=C7 _ hp;have R:kept t (u+1+1)=range (u+1):=by rw[ym,G,w];simp
   have q4:∀call,cG E N call none r8 T H=some (set T 7 (.int .i64 1),H):=λcall=>vp rfl (by simp[bH,bt,bl]) d_
   have h0:Head g cb id off L (u+1) 1 rs A t (set T 7 (.int .i64 1)) rs:=⟨by rw[iF _ _ Zaa,h 0 Zaa Zaa,Y 0 Zaa];exact b,by rw[iF _ _ Zaa,h 1 Zaa Zaa,Y 1 Zaa];exact v,
    by rw[iF _ _ Zaa,h 5 Zaa Zaa,Y 5 Zaa,R,length_range];exact e,by rw[iF _ _ Zaa];exact m,by rw[ug];rfl,rfl,
    λp i B=>by rw[R]at B;obtain⟨P,Z⟩:=ζe.1 B;simp at P Z;subst Z;exact X.at_ p Zaa,λi _ Z=>X.at_ i Z,λ_ _=>rfl,λi hi=>⟨i,hi,X.at_ i hi⟩⟩
   obtain⟨F5,C,V,I⟩:=Nd (N:=N) X Zaa Zaa w (L-(u+1)-1) 1 _ rs Zaa Zaa h0
   rw[S]at V;have eL:u+1+(L-(u+1))=L:=Zaa
   have ae:=BE (t:=t) (k:=u+1) Zaa w L Zaa
   have o:=I.f5;have J:=I.pre;rw[eL]at o J;generalize hK:(kept t L).length=K at *;have ab:(H.set id (.row 1 C))[id]?=some (.row 1 C):=getElem?_set_self Q;obtain⟨F6,w1,w2⟩:=x14 (E:=E) (N:=N) (p:=K) ab I.f0 o Zaa (by rw[I.len];omega)
   rw[set_set]at w1;obtain⟨F7,w3,w4⟩:=Uh (E:=E) (by rw[w2 0 Zaa];exact I.f0) (by rw[w2 5 Zaa];exact o) Zaa
   have aj:=I.len;refine⟨F7,C.take (off+K)++replicate (L-K) [.bM]++C.drop (off+L),mQ.stop (Ex.seq (Ex.seq (Ex.dg a1) (Ex.nR U Ex.skip)) (Ex.uK (Ex.Pf (Ex.seq (Ex.NX (by decide) W) (Ex.nR (by simp[bt,f]) (Ex.seq (Ex.dg l) (Ex.seq (Ex.seq (Ex.dg q4) (Ex.vR (Ex.loop V))) (Ex.seq (Ex.dg w1) (Ex.seq (Ex.dg w3) Ex.ret))))))) Zab)) Zab,w4,?_,λp i B=>?_,λc a=>?_⟩
   .simp;omega
   .have ak:p<K:=by rw[<-hK];exact(ζe.1 B).1
    rw[append_assoc,getElem?_append_left (by simp;omega),getElem?_take,if_pos Zaa]
    exact J p i B
   have ad:∀j x,C[j]?=some x->x∈rs:=λj x O=>by by_cases ho:j<off\/off+L<=j;rw[I.out j ho]at O;exact mem_of_getElem? O;obtain⟨i,rfl⟩:∃i,j=off+i:=⟨j-off,Zaa⟩;obtain⟨q,hq,a⟩:=I.cell i Zaa;rw[a]at O;cases O;exact mem_of_getElem? (X.at_ q hq)
   rcases mem_append.1 a with a|a
   .rcases mem_append.1 a with a|a
    .obtain⟨j,O⟩:=getElem?_of_mem (List.mem_of_mem_take a);exact .inl (ad j c O)
    exact .inr (List.eq_of_mem_replicate a)
   obtain⟨j,O⟩:=getElem?_of_mem (List.mem_of_mem_drop a);exact .inl (ad j c O)
end
end cmpX
noncomputable def AG(E:Env)(g:FuncId)(cb:L' V)(a b:V):Lk Bool:=match Dw E g cb a b with|some (.bool c)=>some c|_=>none
theorem XA{E:Env}{g:FuncId}{cb:L' V}{a b:V}{c:Bool}(h:AG E g cb a b=some c):∃n,∀k,n<=k->cm (run E k) g (a::b::cb) []=some (.bool c):=by
 unfold AG at h;split at h;next c' d=>cases h;exact FG d
 cases h
def mN(xs:L' (L' V))(i:Nat):V:=jC ((xs[i]?).getD [])
noncomputable def zf(E:Env)(es:Nat)(xs:L' (L' V)):L' V->Lk (L' (L' V))
 |[.clo g [] cb]=>if xs.isEmpty then some []else if vq es xs&& !E.keep g then
  if(range xs.length).all λi=>i==0||(AG E g cb (mN xs i) (mN xs (i-1))).isSome then
   some ((kept (λi=>(AG E g cb (mN xs i) (mN xs (i-1))).getD false) xs.length).map λi=>(xs[i]?).getD [])
  else none
  else none
 |_=>none
noncomputable def tS(E:Env):Hq:=⟨true,zf E⟩
namespace cmpX
section
variable{E:Env}{N:Nat->FuncId}{g:FuncId}{cb:L' V}{H:bn}{id off L:Nat}{rs:L' (L' V)}{A:Nat->V}{t:Nat->Bool}
theorem whole(X:Ib E g cb H id off L rs A t):∃F' B,Ex E N code [.hsl id 1 off L,.clo g [] cb] H .ret F' (H.set id (.row 1 B))/\get F' 4=.hsl id 1 off (kept t L).length/\Sj off L rs A t B:=by
 have u:H.set id (.row 1 rs)=H:=sy X.row;have same:(∀i,0<i->i<L->t i=false)->(kept t L).length=L/\Sj off L rs A t rs:=λh=>by have d:=C7 L h;rw[d,length_range];exact⟨rfl,rfl,λp i O=>by rw[d]at O;obtain⟨a,w⟩:=ζe.1 O;simp at a w;subst w;exact X.at_ p a,λc b=>.inl b⟩
 have g1:∀call,cG E N call none r1 [.hsl id 1 off L,.clo g [] cb] H=some (set [.hsl id 1 off L,.clo g [] cb] 4 .bM,H):=λcall=>vp (v:=.bM) rfl (by simp[bH,bt,bl]) d_;have k0:get (set [V.hsl id 1 off L,.clo g [] cb] 4 .bM) 0=.hsl id 1 off L:=rfl;have k1:get (set [V.hsl id 1 off L,.clo g [] cb] 4 .bM) 1=.clo g [] cb:=rfl;generalize set [V.hsl id 1 off L,.clo g [] cb] 4 .bM=Q at *;obtain⟨F1,a1,a2,a3⟩:=x2 (E:=E) (N:=N) (H:=H) k0;by_cases S:L<2;obtain⟨z,C,D⟩:=RJ (E:=E) (N:=N) (F:=F1) (H:=H);obtain⟨e1,e2⟩:=same λi a w=>by omega
 refine⟨z,rs,?_,by rw[e1,D,a3 0 Zaa];exact k0,e2⟩;rw[u];exact Ex.seq (Ex.dg g1) (Ex.uK (Ex.seq (Ex.dg a1) (Ex.nR (by show get F1 10=_;rw[a2,decide_eq_true Zaa]) (Ex.seq (Ex.dg C) Ex.ret))) Zab);have g4:∀call,cG E N call none r4 F1 H=some (set F1 5 (.int .i64 1),H):=λcall=>vp (v:=.int .i64 1) rfl (by simp[bH,bt,bl]) d_;have b:Ex E N (.seq (.ops r2) (.cond (.s 10) (.seq (.ops r3) (.ret)) (.skip))) Q H .norm F1 H:=Ex.seq (Ex.dg a1) (Ex.qi (by show get F1 10=_;rw[a2,decide_eq_false Zaa]) Ex.skip);rcases NO (N:=N) X (L-1) 1 (set F1 5 (.int .i64 1)) Zaa Zaa (λi a w=>Zaa) (by rw[iF _ _ Zaa,a3 0 Zaa];exact k0) (by rw[iF _ _ Zaa,a3 1 Zaa];exact k1) (by rw[ug];rfl)with⟨F',G,I,J⟩|⟨F',B,G,I,J⟩;obtain⟨z,C,D⟩:=xmv (E:=E) (N:=N) (F:=F') (H:=H);obtain⟨e1,e2⟩:=same J;refine⟨z,rs,?_,by rw[e1,D];exact I,e2⟩;rw[u];exact Ex.seq (Ex.dg g1) (Ex.seq b (Ex.seq (Ex.seq (Ex.dg g4) (Ex.vR (Ex.loop G))) (Ex.seq (Ex.dg C) Ex.ret)));exact⟨F',B,Ex.seq (Ex.dg g1) (Ex.seq b (Ex.uK (Ex.seq (Ex.dg g4) (Ex.Pf (Ex.loop G))) Zab)),I,J⟩
theorem empty{w:V}(c:V)(B:w=.bM\/w=.dL):∃F',Ex E N code [w,c] H .ret F' H/\get F' 4=w:=by
 have g1:∀call,cG E N call none r1 [w,c] H=some (set [w,c] 4 .bM,H):=λcall=>vp (v:=.bM) rfl (by simp[bH,bt,bl]) d_;have k0:get (set [w,c] 4 .bM) 0=w:=rfl;generalize set [w,c] 4 .bM=u at *;have z:o8 w=some (.int .i64 0):=by rcases B with rfl|rfl<;>rfl
 have a1:∃F1,(∀call,cG E N call none r2 u H=some (F1,H))/\get F1 10=.bool true/\get F1 0=w:=by refine⟨_,λcall=>vp (v:=w) rfl ?_<|vp (v:=.int .i64 0) rfl ?_<|vp (v:=.bool true) rfl ?_ d_,?_,?_⟩;simp[bH,bt,bl,k0];simp[bH,bt,bl,br,z];simp[bH,bt,bl,br,h_,oR];simp[br];simp[br,k0]
 obtain⟨F1,a1,a2,a3⟩:=a1;obtain⟨C,D,G⟩:=RJ (E:=E) (N:=N) (F:=F1) (H:=H);exact⟨C,Ex.seq (Ex.dg g1) (Ex.uK (Ex.seq (Ex.dg a1) (Ex.nR a2 (Ex.seq (Ex.dg D) Ex.ret))) Zab),by rw[G,a3]⟩
end
end cmpX
theorem Ts{E:Env}{f:FuncId}{nm:FuncId->Lk Nat}{N:Nat->FuncId}(hN:∀f s,nm f=some s->N s=f)(d:E.keep f=true)(ho:E.own f=false)
 (hf:∃fi,E.ft f=some fi/\bS ⟨E,nm,fi.ntmps⟩ false fi.body=some cmpX.code/\2<=fi.ntmps/\fi.results=[.tmp 4]):ot E f (tS E):=by
 obtain⟨fi,h1,h2,h3,h4⟩:=hf;have D:∀{w c:V}{H H':bn}{F':Frame}{r:V},Ex E N cmpX.code [w,c] H .ret F' H'->get F' 4=r->∃n,∀k,n<=k->run E k (.fn f) [w,c] H=some (r,H'):=λ{w c H H' F' r}K P=>by obtain⟨n,G⟩:=Ex.run hN h1 h2 (args:=[w,c]) (by simpa using h3) K (vs:=[r]) (by rw[h4];simp[iR,P]);exact⟨n,λk d=>(oN E d).go _ _ _ _ G⟩
 refine⟨d,ho,?_,?_,?_⟩
 .intro es z vs ys h;simp only[tS,zf]at h;refine⟨?_,λe=>by simp[tS]at e⟩
  split at h
  .split at h
   .cases h;simp
   split at h
   .split at h
    .cases h;simpa using Cr _ _
    cases h
   cases h
  cases h
 .intro es vs ys h H Z ws w hw he;simp only[tS,zf]at h;split at h
  .obtain⟨q,r,rfl,R,t⟩:=hw.inv;rw[t.c9];obtain⟨F',e1,e2⟩:=cmpX.empty (E:=E) (N:=N) (H:=H) q he;obtain⟨n,G⟩:=D e1 e2;exact⟨n,[],λk d=>by rw[append_nil];exact G k d⟩
  cases h
 intro es z vs ys h H Z ws id off rs hw S T ae J hz;simp only[tS,zf]at h;split at h
 .rename_i g cb;obtain⟨q,r,rfl,R,t⟩:=hw.inv;rw[t.c9];obtain⟨a',B,rfl,ha,af⟩:∃a' B,q=.clo g a' B/\dB H Z [] a'/\dB H Z cb B:=R.kN;rw[ha.c9]at *;split at h
  .rename_i he;cases h;have:z=[]:=by simpa using he
   subst this;have e2:∃F',Ex E N cmpX.code [.hsl id es off 0,.clo g [] B] H .ret F' H/\get F' 4=.hsl id es off 0:=by have g1:∀call,cG E N call none cmpX.r1 [.hsl id es off 0,.clo g [] B] H=some (set [.hsl id es off 0,.clo g [] B] 4 .bM,H):=λcall=>vp (v:=.bM) rfl (by simp[bH,bt,bl]) d_;have k0:get (set [V.hsl id es off 0,.clo g [] B] 4 .bM) 0=.hsl id es off 0:=rfl;generalize set [V.hsl id es off 0,.clo g [] B] 4 .bM=F0 at *;have a1:∃F1,(∀call,cG E N call none cmpX.r2 F0 H=some (F1,H))/\get F1 10=.bool true/\get F1 0=.hsl id es off 0:=(by refine⟨_,λcall=>vp (v:=.hsl id es off 0) rfl ?_<|vp (v:=.int .i64 0) rfl ?_<|vp (v:=.bool true) rfl ?_ d_,?_,?_⟩;simp[bH,bt,bl,k0];simp[bH,bt,bl,br,o8];simp[bH,bt,bl,br,h_,oR];simp[br];simp[br,k0]);obtain⟨F1,a1,a2,a3⟩:=a1;obtain⟨F2,b1,b2⟩:=cmpX.RJ (E:=E) (N:=N) (F:=F1) (H:=H);exact⟨F2,Ex.seq (Ex.dg g1) (Ex.uK (Ex.seq (Ex.dg a1) (Ex.nR a2 (Ex.seq (Ex.dg b1) Ex.ret))) Zab),by rw[b2,a3]⟩
   obtain⟨F',e1,e3⟩:=e2;obtain⟨n,G⟩:=D e1 e3;refine⟨n,rs,[],λk d=>?_,rfl,⟨rfl,λj u v l=>by simp at l⟩,J⟩
   rw[append_nil,sy S];exact G k d
  rename_i al;split at h
  .rename_i L;simp only[ζh,Bool.not_eq_true']at L;obtain⟨c1,c3⟩:=L;obtain⟨rfl,U,W⟩:=Ad c1;split at h
   .rename_i Y;cases h;have O:∀i,i<z.length->∃a,rs[off+i]?=some [a]/\FR H Z (mN z i) a/\a.one=true:=λi hi=>by
     obtain⟨e,p2⟩:=W i z[i] (ζd hi);have Q:off+i<rs.length:=Zaa
     have:=ae.2 i z[i] rs[off+i] (ζd hi) (by rw[getElem?_take,if_pos hi,getElem?_drop,ζd Q])
     rw[e]at this;obtain⟨y,ys,e2,r1,r2⟩:=this.inv;rw[r2.c9]at e2;have e3:mN z i=jC z[i]:=by unfold mN;rw[ζd hi];rfl
     exact⟨y,by rw[ζd Q,e2],by rw[e3];exact r1,by rw[r1.one];exact p2⟩
    let A:Nat->V:=λi=>match rs[off+i]?with|some (a::_)=>a|_=>.undef
    have m:∀i,i<z.length->rs[off+i]?=some [A i]/\FR H Z (mN z i) (A i)/\(A i).one=true:=λi hi=>by obtain⟨a,p1,p2,p4⟩:=O i hi;have:A i=a:=(by show(match rs[off+i]?with|some (a::_)=>a|_=>V.undef)=a;rw[p1]);rw[this];exact⟨p1,p2,p4⟩
    have aa:∀i,i+1<z.length->∃b,AG E g cb (mN z (i+1)) (mN z i)=some b:=λi hi=>by have:=all_eq_true.1 Y (i+1) (mem_range.2 hi);simp only[Nat.add_sub_cancel,Bool.or_eq_true]at this;rcases this with h|h;simp at h;exact Option.isSome_iff_exists.1 h
    have X:cmpX.Ib E g B H id off z.length rs A (λi=>(AG E g cb (mN z i) (mN z (i-1))).getD false):=by refine⟨S,T,U,λi hi=>(m i hi).1,λi hi=>(m i hi).2.2,c3,?_⟩;obtain⟨M,hM⟩:=FW (n:=z.length-1) (p:=λi k=>cm (run E k) g (mN z (i.1+1)::mN z i.1::cb) []=some (.bool ((AG E g cb (mN z (i.1+1)) (mN z i.1)).getD false))) (λi=>by obtain⟨b,Q⟩:=aa i.1 (by have:=i.2;omega);obtain⟨n,G⟩:=XA Q;exact⟨n,λk d=>by rw[G k d,Q];rfl⟩);obtain⟨L1,ah⟩:=mU ((range z.length).map (mN z));obtain⟨L2,ai⟩:=mU cb;have ab:∀i k,i<z.length->L1<=k->(mN z i).lvl k=true:=λi k hi d=>ze d (nk.1 ah i _ (by simp[hi]));refine⟨max M (max L1 L2),λk d i hi ad=>?_⟩;have C:∀j,Z j->Z j/\bq (H.set id (.row 1 ad)) j=bq H j:=λj o=>⟨o,by unfold bq;rw[getElem?_set_ne];rintro rfl;exact hz o⟩;have hl:dB (H.set id (.row 1 ad)) Z (mN z (i+1)::mN z i::cb) (A (i+1)::A i::B):=.cons ((m _ hi).2.1.mono C) (.cons ((m i Zaa).2.1.mono C) (af.mono C));have Q:=hl.LI (k:=k) (by simp only[V.mc,ab _ k hi Zaa,ab i k Zaa Zaa,pZ (by omega:L2<=k) ai,Bool.and_self]);rw[Yw (by rw[o9];exact Q) (λx K=>?_)];exact hM ⟨i,Zaa⟩ k Zaa;obtain⟨j,o⟩:=getElem?_of_mem K;obtain⟨y,hy,P⟩:=hl.get o;exact V.lH P.good
    obtain⟨F',aj,e1,e2,e3⟩:=cmpX.whole (N:=N) X;obtain⟨n,G⟩:=D e1 e2;refine⟨n,aj,[],λk d=>?_,e3.len,?_,?_⟩
    .simp only[tS,if_true,length_map,append_nil];exact G k d
    .refine⟨by simp[e3.len];have:=Cr (λi=>(AG E g cb (mN z i) (mN z (i-1))).getD false) z.length;omega,λp a b hp hq=>?_⟩
     rw[getElem?_map]at hp;obtain⟨i,hi,rfl⟩:=ζf.1 hp;have I:=MC (mem_of_getElem? hi);have ak:=(ζe.1 hi).1;rw[getElem?_take,if_pos (by simpa using ak),getElem?_drop,e3.pre p i hi]at hq
     cases hq;rw[ζd I,getD_some];have e4:=(W i z[i] (ζd I)).1;have e5:mN z i=jC z[i]:=by unfold mN;rw[ζd I];rfl
     rw[e4,<-e5];exact .cons (m i I).2.1 .nil
    intro c hc u l;rcases e3.all c hc with h|rfl
    .exact J c h u l
    simp at l;subst l;exact⟨.bM,.same _ rfl⟩
   cases h
  cases h
 cases h
def Sl.re{α:Type}(s:Sl α)(l:L' α):Sl α:=match s with|.nil=>.nil|.emp=>.emp|.row _=>.row l|.part _=>.part l
def Sl.ue{α:Type}(s:Sl α)(l:L' α):Sl α:=match s with|.nil=>.nil|.emp=>.emp|.row _|.part _=>.part l
noncomputable def zP{α:Type}(s:Sl α)(p:α->α->Lk Int):Lk (Sl α):=
 match s.l with
 |[]=>some s|x::l=>if l.length<2147483648 then
  let t:_root_.Fin (l.length+1)->_root_.Fin (l.length+1)->Lk Int:=λi j=>p (x::l)[i.1] (x::l)[j.1]
  if B4 t then some (s.re ((rB l.length (qz t)).toList.map λi=>(x::l)[i.1]))else none
  else none
def uk{α:Type}(l:L' α)(p:α->α->Lk Bool)(i:Nat):Lk Bool:=match l[i]?,l[i-1]?with|some a,some b=>p a b|_,_=>none
def yK{α:Type}(s:Sl α)(p:α->α->Lk Bool):Lk (Sl α):=
 if s.l.length<=2147483648/\((range s.l.length).all λi=>i==0||(uk s.l p i).isSome)=true then
  some (s.ue ((kept (λi=>(uk s.l p i).getD false) s.l.length).filterMap (s.l[·]?)))
 else none
section
variable{S:Sys}{T:qO}{β γ δ α:Type}{Q:Out×St->Lk β}{e:γ->Lk β}{cf:Cf}
theorem gT.Qu(B:rH S T)(D:∀f a b xs,S.items f a b=some xs->eD S f a b xs){fn:FuncId}{A:δ->L' V}{E:α->L' V}{p:δ->Lk α}{sc:Bool}(F:gT S (dc S T) fn A E p sc){z:δ}{r:α}(h:p z=some r)(d:V.cE (A z)=true):
 ∃n,cm (run S.E n) fn (A z) []=some (result (E r)):=by
 have e:=F.h z (E r) (by simp_all)
 obtain⟨⟨rs,m'⟩,u,w⟩:=ζg.1 e;obtain⟨n,y,H2,e1,e2,e3⟩:=C8 (ve B D) d u w;refine⟨n,?_⟩;have C:borrows n [] (A z)=some (A z):=by have c:=V.o5 d;generalize A z=l at c;unfold borrows;induction l with|nil=>rfl|cons x l G=>simp[V.lY]at c;simp[iU,eA n [] c.1,G c.2]
 unfold cm;rw[o9,C];simp[e1 n (le_refl _),e2 n (le_refl _),V.lH e3]
section
variable[bB α]
theorem EZ(b:bB.size α=1){l:L' α}(B:l.length<=2147483648):vq (bB.size α) (rows l)=true:=by unfold vq;simp;refine⟨⟨b,λx u=>?_⟩,by simpa[rows]using B⟩;obtain⟨a,_,rfl⟩:=mem_map.1 u;exact⟨by rw[gA,b],all_eq_true.1 (bB.one a)⟩
theorem Gf(b:bB.agg α=false)(a:α):jC (cells a)=enc a:=by unfold enc;rw[if_neg Zac];rfl
theorem DQ(l:L' α)(i:Nat)(h:i<l.length):(rows l)[i]?=some (cells l[i]):=by unfold rows;grind
theorem WC(U:rH S T)(W:∀f a b xs,S.items f a b=some xs->eD S f a b xs){g:FuncId}{p:α->α->Lk Int}(F:gT S (dc S T) g (λz:α×α=>[enc z.1,enc z.2]) (λr:Int=>[.int .i64 r]) (λz=>p z.1 z.2) true)
 (c:bB.size α=1)(Y:bB.agg α=false){s D:Sl α}(h:zP s p=some D):Bj S.E (bB.size α) (rows s.l) [.clo g [] []]=some (rows D.l)/\D.k=s.k:=by
 unfold zP at h;split at h
 next B=>cases h;rw[B];exact⟨rfl,rfl⟩
 rename_i x l B;split at h
 .dsimp only at h;split at h
  .rename_i I;cases h;rw[B];obtain⟨u,J⟩:=rD I;have C:=EZ c (l:=x::l) Zac
   have key:∀m,m=l.length->(if B4 (λi j:_root_.Fin (m+1)=>ua S.E g [] (jC (((rows (x::l))[i.1]?).getD [])) (jC (((rows (x::l))[j.1]?).getD [])))then
    some ((rB m (qz (λi j:_root_.Fin (m+1)=>ua S.E g [] (jC (((rows (x::l))[i.1]?).getD [])) (jC (((rows (x::l))[j.1]?).getD []))))).toList.map λi=>((rows (x::l))[i.1]?).getD [])else none)=
    some (rows ((rB l.length (qz λi j:_root_.Fin (l.length+1)=>p (x::l)[i.1] (x::l)[j.1])).toList.map λi=>(x::l)[i.1])):=by
    rintro m rfl;have e1:∀i:_root_.Fin (l.length+1),jC (((rows (x::l))[i.1]?).getD [])=enc (x::l)[i.1]:=λi=>by rw[DQ (x::l) i.1 i.2,getD_some,Gf Y]
    have e2:(λi j:_root_.Fin (l.length+1)=>ua S.E g [] (jC (((rows (x::l))[i.1]?).getD [])) (jC (((rows (x::l))[j.1]?).getD [])))=λi j=>p (x::l)[i.1] (x::l)[j.1]:=by funext i j;obtain⟨z,L⟩:=u i j;rw[e1 i,e1 j,L];obtain⟨n,O⟩:=F.Qu U W (z:=((x::l)[i.1],(x::l)[j.1])) L (by simp[V.cE,jU]);unfold ua;rw[MF O];rfl
    rw[e2,if_pos I]
    congr 1
    unfold rows;rw[List.map_map];refine List.map_congr_left λi _=>?_
    grind
   have w:(s.re ((rB l.length (qz λi j:_root_.Fin (l.length+1)=>p (x::l)[i.1] (x::l)[j.1])).toList.map λi=>(x::l)[i.1])).l=(rB l.length (qz λi j:_root_.Fin (l.length+1)=>p (x::l)[i.1] (x::l)[j.1])).toList.map (λi=>(x::l)[i.1])/\(s.re ((rB l.length (qz λi j:_root_.Fin (l.length+1)=>p (x::l)[i.1] (x::l)[j.1])).toList.map λi=>(x::l)[i.1])).k=s.k:=by cases s<;>simp[Sl.l]at B<;>exact⟨rfl,rfl⟩
   refine⟨?_,w.2⟩;rw[w.1,<-key (rows l).length (gP l)];have d:(vq (bB.size α) (rows (x::l))&& !S.E.keep g)=true:=by rw[C,F.k];rfl
   have G:=d;exact(if_pos G).trans rfl
  simp_all
 simp_all
theorem VQ(W:rH S T)(Y:∀f a b xs,S.items f a b=some xs->eD S f a b xs){g:FuncId}{p:α->α->Lk Bool}(F:gT S (dc S T) g (λz:α×α=>[enc z.1,enc z.2]) (λr:Bool=>[.bool r]) (λz=>p z.1 z.2) true)
 (d:bB.size α=1)(e:bB.agg α=false){s D:Sl α}(h:yK s p=some D):zf S.E (bB.size α) (rows s.l) [.clo g [] []]=some (rows D.l)/\D=s.ue D.l:=by
 have Q:∀l:L' α,(s.ue l)=s.ue (s.ue l).l:=λl=>by cases s<;>rfl
 refine⟨?_,by
  unfold yK at h;grind⟩
 unfold yK at h;split at h
 .rename_i hc;cases h;obtain⟨X,u⟩:=hc;have I:=EZ d X;simp only[zf]
  by_cases J:s.l=[]
  .have:(s.ue ((kept (λi=>(uk s.l p i).getD false) s.l.length).filterMap (s.l[·]?))).l=[]:=by
    cases s<;>simp[Sl.l]at J<;>simp[Sl.ue,Sl.l,J,kept]
   rw[this,J];rfl
  have L:(rows s.l).isEmpty=false:=by cases m:s.l with|nil=>grind|cons a l=>rfl
  rw[L,if_neg Zab,I,F.k,if_pos (by rfl),gP]
  have e1:∀i,0<i->i<s.l.length->∃b,uk s.l p i=some b/\AG S.E g [] (mN (rows s.l) i) (mN (rows s.l) (i-1))=some b:=λi k hi=>by have:=all_eq_true.1 u i (mem_range.2 hi);simp at this;obtain⟨b,C⟩:=Option.isSome_iff_exists.1 (this.resolve_left Zaa);refine⟨b,C,?_⟩;have w:i-1<s.l.length:=Zaa;unfold uk at C;rw[ζd hi,ζd w]at C;have U:∀j(G:j<s.l.length),mN (rows s.l) j=enc s.l[j]:=λj G=>(by unfold mN;rw[DQ _ _ G,getD_some,Gf e]);rw[U i hi,U (i-1) w];obtain⟨n,Z⟩:=F.Qu W Y (z:=(s.l[i],s.l[i-1])) C (by simp only[V.cE,jU,Bool.and_self]);unfold AG;rw[MF Z];rfl
  have e2:((range s.l.length).all λi=>i==0||(AG S.E g [] (mN (rows s.l) i) (mN (rows s.l) (i-1))).isSome)=true:=by grind
  rw[if_pos e2];have e3:kept (λi=>(AG S.E g [] (mN (rows s.l) i) (mN (rows s.l) (i-1))).getD false) s.l.length=kept (λi=>(uk s.l p i).getD false) s.l.length:=by refine List.filter_congr λi hi=>?_;by_cases k:i=0;grind;obtain⟨b,o,q⟩:=e1 i Zaa (mem_range.1 hi);simp_all
  rw[e3];have e4:(s.ue ((kept (λi=>(uk s.l p i).getD false) s.l.length).filterMap (s.l[·]?))).l=(kept (λi=>(uk s.l p i).getD false) s.l.length).filterMap (s.l[·]?):=by cases s<;>first|rfl|grind
  rw[e4]
  congr 1
  generalize c:kept (λi=>(uk s.l p i).getD false) s.l.length=O
  have B:∀i∈O,i<s.l.length:=λi hi=>MC (c▸hi)
  clear c e3 e4
  induction O with
  |nil=>rfl|cons i O ih=>
   have hi:=B i Zab
   rw[map_cons,ih λj G=>B j (List.mem_cons_of_mem _ G),DQ _ _ hi,List.filterMap_cons,ζd hi]
   rfl
 simp_all
theorem Sz{s B:Sl α}{p:α->α->Lk Int}(h:zP s p=some B)(a:cO s.k=false):B=s:=by cases s<;>simp[Sl.k,cO]at a<;>simpa[zP,Sl.l]using h.symm
theorem YR(n d:Nat)(D:rH S T)(G:∀f a b xs,S.items f a b=some xs->eD S f a b xs){fn g:FuncId}(hp:S.prm fn=some (tW S.E)){p:α->α->Lk Int}
 (F:gT S (dc S T) g (λz:α×α=>[enc z.1,enc z.2]) (λr:Int=>[.int .i64 r]) (λz=>p z.1 z.2) true){s:Sl α}{f:Sl α->Lk γ}
 (h:∀B,zP s p=some B->Le ((f B).bind e) (b8 S (dc S T) Q (nx S (dc S T) n cf λq=>cT {q.st with m:=bN q.st.m d (cF B)} q.d (.v .undef))))
 (i:bB.size α=1:=by rfl)(J:bB.agg α=false:=by rfl)
 (U:(fT S (dc S T) n cf).map (λq=>(q.k,bW S.N q.st.g q.az,bh q.st.m d,q.dr))=some (.c,some [.v (.clo fn [] []),.own d,.v (.clo g [] [])],some (cF s),false):=by kernel_rfl):Le (((zP s p).bind f).bind e) (b8 S (dc S T) Q cf):=by
 obtain⟨q,C,c⟩:=eP U;simp at c;obtain⟨I,L,O,W⟩:=c;refine qV C ?_ h;rw[I,W];intro y w;obtain⟨B,u,w⟩:=ζg.1 w;obtain⟨e1,e2⟩:=WC D G F i J u;have j:=(D.prm fn _ hp).keep;have X:=(D.prm fn _ hp).own;rw[wE false _ _ _ _ _ _ fn [.own d,.v (.clo g [] [])] L rfl];have l:fu S (dc S T) q.d false (!false||q.now) (fZ q.st.m q.fr) fn [.own d,.v (.clo g [] [])] q.st=some (.v .undef,{q.st with m:=bN q.st.m d (cF B)}):=by unfold fu;simp[j,X,hp,Dn,O,cF,dy];have e3:=e1;simp[tW];cases k:cO s.k with|true=>grind|false=>have:=Sz u k;grind
 grind
theorem YZ(n d t:Nat)(D:rH S T)(G:∀f a b xs,S.items f a b=some xs->eD S f a b xs){fn g:FuncId}(hp:S.prm fn=some (tS S.E)){p:α->α->Lk Bool}
 (F:gT S (dc S T) g (λz:α×α=>[enc z.1,enc z.2]) (λr:Bool=>[.bool r]) (λz=>p z.1 z.2) true){s:Sl α}{f:Sl α->Lk γ}
 (h:∀B,yK s p=some B->Le ((f B).bind e) (b8 S (dc S T) Q (nx S (dc S T) n cf λq=>{q.st with g:=bN q.st.g t (.own t),m:=bN (eo d q.st.m) t (cF B)})))
 (i:bB.size α=1:=by rfl)(J:bB.agg α=false:=by rfl)
 (U:(fT S (dc S T) n cf).map (λq=>(q.k,bW S.N q.st.g q.az,bh q.st.m d,q.dr,q.d,St.new {q.st with m:=eo d q.st.m} t))=some (.c,some [.v (.clo fn [] []),.own d,.v (.clo g [] [])],some (cF s),false,some t,true):=by kernel_rfl):Le (((yK s p).bind f).bind e) (b8 S (dc S T) Q cf):=by
 obtain⟨q,C,c⟩:=eP U;simp at c;obtain⟨I,L,O,W,X,Y⟩:=c;refine qV C ?_ h;rw[I,W,X];intro y u;obtain⟨B,w,u⟩:=ζg.1 u;cases u;obtain⟨e1,e2⟩:=VQ D G F i J w;have j:=(D.prm fn _ hp).keep;have Z:=(D.prm fn _ hp).own;rw[wE false _ _ _ _ _ _ fn [.own d,.v (.clo g [] [])] L rfl];have k:fu S (dc S T) (some t) false (!false||q.now) (fZ q.st.m q.fr) fn [.own d,.v (.clo g [] [])] q.st=some (.own t,{q.st with m:=bN (eo d q.st.m) t (cF B)}):=by
  unfold fu;simp[j,Z,hp,Dn,O,cF,dy];have e3:(tS S.E).go (bB.size α) (rows s.l) [.clo g [] []]=some (rows B.l):=e1;rw[e3];simp[tS,Y];have e4:(if cO s.k=true then bJ.sl .part (bB.size α) (rows B.l)else .sl s.k (bB.size α) (rows s.l))=.sl B.k (bB.size α) (rows B.l):=by rw[e2];cases s<;>rfl
  rw[e4]
 rw[k];rfl
end
end
section
variable{H H':bn}{w:V}{o:Nat}{ids:L' Nat}{rows:L' (L' V)}
theorem ni.cell(n:ni H w o ids rows){p j:Nat}{r:L' V}{u:V}(a:rows[p]?=some r)(c:r[j]?=some u):
 ∃id,ids[p]?=some id/\mH 1 w (p:Int)=some (.hptr o p 0)/\eZ H (.load 1 false) [.hptr o p 0]=some (.hsl id 1 0 r.length)/\mH 1 (.hsl id 1 0 r.length) (j:Int)=some (.hptr id j 0)/\eZ H (.load 1 false) [.hptr id j 0]=some u:=by
 have D:=(ζe.1 a).1;have G:=(ζe.1 c).1;have B:rows≠[]:=by intro e;subst e;simp at a
 have C:p<ids.length:=by rw[n.len];exact D
 have z:=ζd C;refine⟨ids[p],z,?_,?_,?_,?_⟩
 .have:=n.v;rw[if_neg B]at this;subst this;simp[mH,D]
 .have b:=n.ob B;have I:=Dp z a;simp[eZ,ey,b,Ob.rows,I,cut];rfl
 .simp[mH,G]
 have b:=n.r p _ r z a;simp[eZ,ey,b,Ob.rows,jB,c,cut];rfl
theorem QU{ids:L' Nat}(h:ids.Nodup){i j:Nat}{a:Nat}(hi:ids[i]?=some a)(B:ids[j]?=some a):i=j:=by have b:=(ζe.1 hi);have u:=(ζe.1 B);obtain⟨b,e1⟩:=b;obtain⟨u,e2⟩:=u;exact(List.getElem_inj h).1 (e1.trans e2.symm)
theorem ni.set(n:ni H w o ids rows){p j id:Nat}{r:L' V}{u:V}(a:rows[p]?=some r)(U:j<r.length)(B:ids[p]?=some id)(c:V.one u=true)(d:u.cells=[u]):
 ∃H',fE H (.store 1) [.hptr id j 0,u]=some (.undef,H')/\ni H' w o ids (rows.set p (r.set j u))/\H'.length=H.length/\(∀i,i≠id->H'[i]?=H[i]?):=by
 have L:=(ζe.1 a).1;have z:rows≠[]:=by intro e;subst e;simp at a
 have b:=n.r p id r B a;have O:id<H.length:=(ζe.1 b).1;have D:(jB r).set j [u]=jB (r.set j u):=by simp[jB,List.map_set]
 have G:o≠id:=λe=>n.ne z (e▸mem_of_getElem? B)
 refine⟨H.set id (.row 1 (jB (r.set j u))),?_,⟨?_,λ_=>?_,by simp[n.len],λi I Q hi C=>?_,n.nd,λ_=>n.ne z⟩,Zab,λi hi=>getElem?_set_ne (Ne.symm hi)⟩
 .have S:(jB r)[j]?=some [r[j]]:=by simp[jB,U]
  simp only[fE,b,S,d,length_singleton,zero_add,le_refl,all_cons,c,List.all_nil,Bool.and_self,and_self,if_true,List.take_zero,nil_append];rw[<-D];simp
 .rw[n.v];have:rows.set p (r.set j u)≠[]:=by intro e;apply z;simpa using e
  rw[if_neg z,if_neg this,List.length_set]
 .rw[getElem?_set_ne (Ne.symm G),Kr a Zab];exact n.ob z
 by_cases e:i=p
 .subst e;rw[B]at hi;cases hi;rw[getElem?_set_self L]at C;cases C;rw[getElem?_set_self O]
 rw[getElem?_set_ne (Ne.symm e)]at C;have J:id≠I:=λT=>e (QU n.nd (T▸hi) B)
 rw[getElem?_set_ne J];exact n.r i I Q hi C
end
structure kP(H:bn)(w:V)(l:List (List V))(id:Nat):Prop where
 c:∀c∈l,c.length=2/\c.all V.one=true
 v:(w=.bM/\l=[])\/∃off xs,w=.hsl id 2 off l.length/\H[id]?=some (.row 2 xs)/\off+l.length<=xs.length/\(xs.drop off).take l.length=l
section
variable{H H':bn}{w:V}{l:L' (L' V)}{id:Nat}
theorem kP.heap(n:kP H w l id)(h:∀off n,w=.hsl id 2 off n->H'[id]?=H[id]?):kP H' w l id:=⟨n.c,n.v.imp (λh=>h) λ⟨off,u,e1,e2,e3,e4⟩=>⟨off,u,e1,by rw[h _ _ e1];exact e2,e3,e4⟩⟩
theorem kP.lt(n:kP H w l id){off m:Nat}(h:w=.hsl id 2 off m):id<H.length:=by rcases n.v with⟨e,_⟩|⟨_,u,_,e2,_⟩;rw[e]at h;cases h;exact(ζe.1 e2).1
theorem kP.more(n:kP H w l id)(X:bn):kP (H++X) w l id:=n.heap λ_ _ e=>getElem?_append_left (n.lt e)
theorem kP.len(n:kP H w l id):o8 w=some (.int .i64 l.length):=by rcases n.v with⟨rfl,rfl⟩|⟨off,u,rfl,_⟩<;>rfl
theorem kP.get(n:kP H w l id){i:Nat}{c:L' V}(a:l[i]?=some c):∃p,mH 2 w (i:Int)=some p/\eZ H (.load 2 true) [p]=some (.agg c):=by
 have hi:=(ζe.1 a).1;have u:=(n.c c (mem_of_getElem? a)).1;rcases n.v with⟨_,rfl⟩|⟨off,z,rfl,e2,e3,e4⟩;simp at a;refine⟨.hptr id (off+i) 0,by simp[mH,hi],?_⟩;have:z[off+i]?=some c:=by rw[<-e4,getElem?_take,if_pos hi,getElem?_drop]at a;exact a
 simp[eZ,ey,e2,Ob.rows,this,cut,<-u];rfl
theorem kP.tail{c:L' V}(n:kP H w (c::l) id):∃w',iG 2 w (some 1) none=some w'/\kP H w' l id/\∃off m B,w=.hsl id 2 off m/\w'=.hsl id 2 B l.length:=by
 rcases n.v with⟨_,e⟩|⟨off,u,rfl,e2,e3,e4⟩;cases e;refine⟨.hsl id 2 (off+1) l.length,?_,⟨λc a=>n.c c (List.mem_cons_of_mem _ a),.inr ⟨off+1,u,rfl,e2,by simp at e3;omega,?_⟩⟩,⟨_,_,_,rfl,rfl⟩⟩;simp[iG,dX];omega;have hd:(u.drop off).drop 1=u.drop (off+1):=by rw[List.drop_drop]
 rw[<-hd];have:=congrArg (List.drop 1) e4;rw[List.drop_take]at this;simpa using this
theorem kP.push(n:kP H w l id){c:L' V}(a:c.length=2/\c.all V.one=true)(B:l.length+1<=2147483648):
 ∃H',fE (H++[.row 2 [c]]) (.append 2) [w,.hsl H.length 2 0 1]=some (.hsl (H.length+1) 2 0 (l.length+1),H')/\kP H' (.hsl (H.length+1) 2 0 (l.length+1)) (l++[c]) (H.length+1)/\H'.length=H.length+2/\(∀i,i<H.length->(∀off m,w=.hsl id 2 off m->i≠id)->H'[i]?=H[i]?):=by
 have e2:dM (H++[.row 2 [c]]) 2 (.hsl H.length 2 0 1)=some [c]:=by simp[dM,Ob.rows]
 have u:∀c'∈l++[c],c'.length=2/\c'.all V.one=true:=λc' h=>by rcases mem_append.1 h with h|h;exact n.c c' h;simp at h;subst h;exact a
 rcases n.v with⟨rfl,rfl⟩|⟨off,D,rfl,g2,g3,g4⟩
 .have e1:dM (H++[.row 2 [c]]) 2 .bM=some []:=rfl;refine⟨H++[.row 2 [c]]++[.row 2 [c]],?_,⟨u,.inr ⟨0,[c],rfl,Zab,Zab,rfl⟩⟩,Zab,λi hi _=>by rw[append_assoc,getElem?_append_left hi]⟩
  simp only[fE,e1,e2,iy,List.length_nil,length_singleton,map_some];simp
 have z:=(ζe.1 g2).1;have e1:dM (H++[.row 2 [c]]) 2 (.hsl id 2 off l.length)=some l:=by simp only[dM,if_true,getElem?_append_left z,g2,ζb,Ob.rows,g3,g4]
 have C:iy (H++[.row 2 [c]]) (.hsl id 2 off l.length)=some (List.set (H++[Ob.row 2 [c]]) id Ob.dead):=by simp only[iy,getElem?_append_left z,g2]
 refine⟨List.set (H++[Ob.row 2 [c]]) id Ob.dead++[Ob.row 2 (l++[c])],?_,⟨u,.inr ⟨0,l++[c],Zab,Zab,Zab,take_of_length_le Zab⟩⟩,Zab,λi hi h=>?_⟩
 .simp only[fE,e1,e2,C,length_singleton,B,if_true,map_some,ζi]
 rw[getElem?_append_left (by simp;omega),getElem?_set_ne (Ne.symm (h _ _ rfl)),getElem?_append_left hi]
end
noncomputable def BX(rs:L' RV):Out×St->Lk bJ
 |(.exit _,_)=>none|(_,st)=>(kU st rs).bind λl=>match l with
  |[.own d]=>bh st.m d|_=>none
theorem X6{S:Sys}{c:b9}{rs:L' RV}{a:RC}{st:St}{ob:bJ}(h:kY S c (BX rs) a [] st=some ob):∃o st' d,cK S c a st=some (o,st')/\(∀id,o≠.exit id)/\kU st' rs=some [.own d]/\bh st'.m d=some ob:=by
 rw[p8]at h;obtain⟨⟨o,st'⟩,b,u⟩:=ζg.1 h;have z:∀id,o≠.exit id:=by rintro id rfl;simp[BX]at u
 have B:(kU st' rs).bind (λl=>match l with|[.own d]=>bh st'.m d|_=>none)=some ob:=by cases o with|exit id=>exact absurd rfl (z id)|norm=>exact u|ret=>exact u
 obtain⟨l,C,w⟩:=ζg.1 B;split at w;exact⟨o,st',_,b,z,C,w⟩;cases w
theorem Ys{S:Sys}{T:qO}(U:rH S T)(W:∀f a b xs,S.items f a b=some xs->eD S f a b xs){f:FuncId}{rf:RF}(Y:T f=some rf){B:L' V}(c:V.cE B=true)(g:B.length<=rf.na){k:Fl}{es:Nat}{xs:L' (L' V)}
 (l:∀x∈xs,x.all scalar=true)(m:k=.row\/k=.nil/\xs=[])(h:kY S (dc S T) (BX rf.rs) rf.body [] (start (B.map .v) [])=some (.sl k es xs)):
 ∃n y H',run S.E n (.fn f) B []=some (y,H')/\((k=.nil/\y=.bM)\/(∃id,y=.hsl id es 0 xs.length/\H'[id]?=some (.row es xs))):=by
 obtain⟨o,st',d,r,O,G,I⟩:=X6 h;have s:dc S T f (B.map .v) []=some ([.own d],st'.m):=by rw[s7 Y];unfold nZ;rw[if_pos (by simpa using g),r];cases o with|exit id=>exact absurd rfl (O id)|norm=>simp only[G,map_some]|ret=>simp only[G,map_some]
 obtain⟨Q,r1⟩:=yu c;obtain⟨n,y,H2,ν',Z',st2,F',J,g1,rfl,g3,g4,g5,_⟩:=ve U W f _ _ _ _ s _ _ B [] (.inr rfl) Q r1;obtain⟨z,F,rfl,e1,e2⟩:=g4.inv;have:=e2.c9;subst this;refine⟨n,_,H2,g1,?_⟩
 cases e1 with
 |own d y X=>
  obtain⟨H,Z,K,e,u⟩:=X _ I;cases e;have w:=g5.obj d _ (by rw[g3];exact I)
  rcases m with rfl|⟨rfl,rfl⟩
  .right;simp only[en,cO,if_true]at w;obtain⟨J,t,M,D,N,C⟩:=w;obtain⟨C,v⟩:=C trivial;rw[C,drop_zero,<-v,take_of_length_le (le_refl _)]at D;have:xs=J:=by
    refine List.ext_getElem D.1 λi p q=>?_
    have hi:=D.2 i _ _ (ζd p) (ζd q);refine List.ext_getElem hi.1 λj L A=>?_
    have E:=hi.2 j _ _ (ζd L) (ζd A);exact((E.scalar).1 (all_eq_true.1 (l _ (getElem_mem p)) _ (getElem_mem L))).symm
   subst this;refine⟨(ν' d).1,?_,t⟩;show result [_]=_;rw[u];simp[result,tn,C]
  left;exact⟨rfl,by show result [_]=_;rw[u];rfl⟩
theorem JY{E:Env}{f:FuncId}{B:L' V}{l:L' (L' V)}{y:V}{H1:bn}(d:E.own f=true)(e:V.cE B=true)(D:∀c∈l,c.length=2/\c.all V.one=true/\c.all scalar=true)
 (b:∃n,∀k,n<=k->run E k (.fn f) B []=some (y,H1))(G:(l=[]/\y=.bM)\/(∃id,y=.hsl id 2 0 l.length/\H1[id]?=some (.row 2 l)))(H:bn):
 ∃w X id,(∃n,∀k,n<=k->fq E (run E k) f B H=some (w,H++X))/\kP (H++X) w l id/\(∀off m,w=.hsl id 2 off m->id=H.length):=by
 obtain⟨n,b⟩:=b;have C:∀{k:Nat}{l:L' V},V.cE l=true->borrows k H l=some l:=by
  intro k l;unfold borrows;induction l with|nil=>intro _;rfl|cons a l I=>
   intro h;have g:V.good a=true/\V.cE l=true:=by simpa[V.cE]using h
   simp only[iU,eA k H (V.lH g.1),I g.2]
 rcases G with⟨rfl,rfl⟩|⟨id,rfl,z⟩
 .refine⟨.bM,[],0,⟨n,λk u=>?_⟩,⟨λc h=>by simp at h,.inl ⟨rfl,rfl⟩⟩,λoff m h=>by cases h⟩
  simp only[fq,d,if_true,lu,C e,b k u,scalar,append_nil]
 refine⟨.hsl H.length 2 0 l.length,[.row 2 l],H.length,⟨n,λk u=>?_⟩,⟨λc h=>⟨(D c h).1,(D c h).2.1⟩,.inr ⟨0,l,rfl,Zab,Zab,Zab⟩⟩,λoff m h=>rfl⟩
 have J:(l.all λx=>x.all scalar)=true:=all_eq_true.2 λc h=>(D c h).2.2
 simp only[fq,d,if_true,lu,C e,b k u,scalar,false_eq_true,if_false,sq,z,J,and_self,map_some]
def Sl.whole{α:Type}(s:Sl α):Lk (Sl α):=match s with|.part _=>none|s=>some s
structure BQ(S:Sys)(c:b9){α δ:Type}[bB δ](fn:FuncId)(A:α->List V)(p:α->Option (Sl δ)):Prop where
 k:S.E.keep fn=true
 o:S.E.own fn=true
 h:∀z s,p z=some s->∃e m',c fn ((A z).map .v) []=some ([.own e],m')/\bh m' e=some (cF s)
 sc:∀x:δ,(cells x).all scalar=true
theorem BQ.mk'{S:Sys}{T:qO}{α δ:Type}[bB δ](rf:RF){fn:FuncId}{A:α->L' V}{p:α->Lk (Sl δ)}(h:∀z,Le ((p z).bind λr=>some (cF r)) (b8 S (dc S T) (BX rf.rs) (.rc rf.body,[],start ((A z).map .v) [])))
 (B:T fn=some rf:=by kernel_rfl)(b:S.E.keep fn=true:=by kernel_rfl)(D:S.E.own fn=true:=by kernel_rfl)(G:∀z,(A z).length<=rf.na:=by intro z;exact Nat.le_of_ble_eq_true (by kernel_rfl))
 (sc:∀x:δ,(cells x).all scalar=true:=by intro x;rfl):BQ S (dc S T) fn A p where
 k:=b
 o:=D
 sc:=sc
 h z s u:=by have a:=h z (cF s) (by rw[u];rfl);change kY S (dc S T) (BX rf.rs) rf.body [] (start ((A z).map .v) [])=some (cF s)at a;obtain⟨o,st',d,g1,g2,g3,g4⟩:=X6 a;refine⟨d,st'.m,?_,g4⟩;rw[s7 B];unfold nZ;rw[if_pos (by simpa using G z),g1];cases o with|exit id=>exact absurd rfl (g2 id)|norm=>simp only[g3,map_some]|ret=>simp only[g3,map_some]
section
variable{S:Sys}{c:b9}{β γ δ α:Type}[bB δ]{Q:Out×St->Lk β}{e:γ->Lk β}{cf:Cf}
theorem NC(n u:Nat){fn:FuncId}{A:α->L' V}{p:α->Lk (Sl δ)}(F:BQ S c fn A p)(z:α){f:Sl δ->Lk γ}
 (h:∀x,(p z).bind Sl.whole=some x->Le ((f x).bind e) (b8 S c Q (nx S c n cf λq=>{q.st with g:=bN q.st.g u (.own u),m:=bN q.st.m u (cF x)})))
 (J:(fT S c n cf).map (λq=>(q.d,q.k,(bW S.N q.st.g q.az).bind k_,(!q.dr||q.now),q.st.new u))=some (some u,.c,some (fn,(A z).map .v),true,true):=by kernel_rfl):Le ((((p z).bind Sl.whole).bind f).bind e) (b8 S c Q cf):=by
 obtain⟨q,L,b⟩:=eP J;simp only[ζc]at b;obtain⟨O,T,U,W,I⟩:=b;obtain⟨C,g1,g2⟩:=ζg.1 U;refine qV L ?_ h;rw[O,T];intro y D;obtain⟨X,G,D⟩:=ζg.1 D;cases D;obtain⟨s,Y,B⟩:=ζg.1 G;obtain⟨e0,m',d,Z⟩:=F.h z s Y;rw[wE q.dr _ _ _ _ _ C fn ((A z).map .v) g1 g2];have w:fu S c (some u) q.dr (!q.dr||q.now) (fZ q.st.m q.fr) fn ((A z).map .v) q.st=some (.own u,{q.st with m:=bN q.st.m u (cF X)}):=by
  unfold fu;simp only[F.k,F.o,if_true,W,vA,d,dy,Z,cF,I]
  cases s with
  |nil=>cases B;rfl|emp=>cases B;rfl|row l=>
   cases B;have:mw (rows l)=true:=by unfold mw;rw[all_eq_true];intro x i;obtain⟨a,_,rfl⟩:=mem_map.1 i;exact F.sc a
   simp only[Sl.k,Sl.l,dy,cV,this,Bool.and_self,I,if_true];rfl
  |part l=>cases B
 rw[w];rfl
end
structure GD where
 m:Nat
 pre:List (Nat×List Gh)
 nd:List (Nat×List Gh×List Gh)
structure GI where
 m:Nat
 i:Nat
 j:Nat
def ZV{α:Type}(l:L' (Nat×L' α))(i:Nat):L' α:=match l with
 |[]=>[]|(k,x)::r=>bif beq k i then x else ZV r i
def A9(l:L' (Nat×L' Gh×L' Gh))(i:Nat):L' Gh×L' Gh:=match l with
 |[]=>([],[])|(k,x)::r=>bif beq k i then x else A9 r i
def NF(m:Nat):L' Nat->L' Nat
 |[]=>[]|x::l=>bif beq (m % 2) 1 then x::NF (m / 2) l else NF (m / 2) l
def RL:L' Arg->L' Nat
 |[]=>[]|.s n::r=>n::RL r|_::r=>RL r
def Y5(o:RO):L' Nat:=(match o.dst with|some d=>[d]|none=>[])++(match o.gd with|some g=>[g.1]|none=>[])++RL o.az
def aax(G:GD)(s:GI)(o:RO):RO:={o with dead:=NF (bif beq (s.m % 16) 15 then s.m / 16 % 65536 else s.m % 16) (Y5 o),pre:=ZV G.pre s.i}
def GI.op(s:GI):GI:=⟨bif beq (s.m % 16) 15 then s.m / 1048576 else s.m / 16,s.i+1,s.j⟩
def Bq(G:GD):L' RO->GI->L' RO×GI
 |[],s=>([],s)|o::r,s=>(aax G s o::(Bq G r s.op).1,(Bq G r s.op).2)
def AZ:L' Gh->RC->RC
 |[],c=>c|g::l,c=>.gh g (AZ l c)
def QT:L' Gh->RC->RC
 |[],c=>c|g::l,c=>QT l (.hg c g)
def GI.nd(s:GI):GI:=⟨s.m,s.i,s.j+1⟩
def jR(G:GD):RC->GI->RC×GI
 |.seq a b,s=>(AZ (A9 G.nd s.j).1 (.seq (jR G a s.nd).1 (jR G b (jR G a s.nd).2).1),(jR G b (jR G a s.nd).2).2)|.cond x a b,s=>(AZ (A9 G.nd s.j).1 (.cond x (jR G a s.nd).1 (jR G b (jR G a s.nd).2).1),(jR G b (jR G a s.nd).2).2)|.block id a,s=>(AZ (A9 G.nd s.j).1 (.block id (jR G a s.nd).1),(jR G a s.nd).2)|.loop a,s=>(AZ (A9 G.nd s.j).1 (.loop (QT (A9 G.nd s.j).2 (jR G a s.nd).1)),(jR G a s.nd).2)|.each g ps a b,s=>(AZ (A9 G.nd s.j).1 (.each g ps (jR G a s.nd).1 (QT (A9 G.nd s.j).2 (jR G b (jR G a s.nd).2).1)),(jR G b (jR G a s.nd).2).2)|.ops l,s=>(AZ (A9 G.nd s.j).1 (.ops (Bq G l s.nd).1),(Bq G l s.nd).2)|.qn l,s=>(AZ (A9 G.nd s.j).1 (.qn (Bq G l s.nd).1),(Bq G l s.nd).2)|.gh g c,s=>(.gh g c,s)|.hg c g,s=>(.hg c g,s)|c,s=>(AZ (A9 G.nd s.j).1 c,s.nd)
theorem lT(c:RC):∀l,erase (AZ l c)=erase c
 |[]=>rfl|g::l=>by simp only[AZ,erase,lT c l]
theorem Be:∀l(c:RC),erase (QT l c)=erase c
 |[],c=>rfl|g::l,c=>by simp only[QT,Be l,erase]
theorem zT(G:GD):∀(l:L' RO)s,((Bq G l s).1).map RO.strip=l.map RO.strip
 |[],s=>rfl|o::r,s=>by simp only[Bq,map_cons,zT G r];rfl
theorem mE(G:GD):∀(c:RC)s,erase (jR G c s).1=erase c
 |.seq a b,s=>by simp only[jR,lT,erase,mE G a,mE G b]|.cond x a b,s=>by simp only[jR,lT,erase,mE G a,mE G b]|.block id a,s=>by simp only[jR,lT,erase,mE G a]|.loop a,s=>by simp only[jR,lT,erase,Be,mE G a]|.each g ps a b,s=>by simp only[jR,lT,erase,Be,mE G a,mE G b]|.ops l,s=>by simp only[jR,lT,erase,zT]|.qn l,s=>by simp only[jR,lT,erase,zT]|.gh g c,s=>rfl|.hg c g,s=>rfl|.skip,s=>by simp only[jR,lT]|.ret,s=>by simp only[jR,lT]|.exit _,s=>by simp only[jR,lT]
theorem Ll{X:CX}{dr:Bool}{ops:L' Oper}{i:Nat}{o:Oper}{r:RO}(h:oG X dr ops i o=some r):r.strip=r:=by obtain⟨_,_,_,_,_,_,rfl⟩:=Fa h;rfl
theorem yQ{X:CX}{dr:Bool}{ops:L' Oper}:∀{l:L' Oper}{i:Nat}{r:L' RO},l8 X dr ops i l=some r->r.map RO.strip=r
 |[],i,r,h=>by cases h;rfl|o::l,i,r,h=>by
  simp only[l8]at h;split at h;next a b B D=>cases h;simp only[map_cons,Ll B,yQ D]
  cases h
theorem Lu{X:CX}:∀{c:Code}{ro:Bool}{r:RC},bS X ro c=some r->erase r=r:=by
 intro c
 induction c with
 |region _ ops dr=>intro ro r h;simp only[bS]at h;split at h;split at h;obtain⟨l,d,rfl⟩:=ζf.1 h;simp only[erase,yQ d];cases h;obtain⟨l,d,rfl⟩:=ζf.1 h;simp only[erase,yQ d]|seq a b u w=>
  intro ro r h;simp only[bS]at h;split at h;next d z=>cases h;simp only[erase,u d,w z]
  cases h
 |cond c a b u w=>
  intro ro r h;simp only[bS]at h;split at h;next d z=>cases h;simp only[erase,u d,w z]
  cases h
 |block id a u=>intro ro r h;simp only[bS]at h;obtain⟨l,d,rfl⟩:=ζf.1 h;simp only[erase,u d]|loop a u=>intro ro r h;simp only[bS]at h;obtain⟨l,d,rfl⟩:=ζf.1 h;simp only[erase,u d]|rangeFunc g ps a b u w=>
  intro ro r h;simp only[bS]at h;split at h;cases h;split at h;next d z=>cases h;simp only[erase,u d,w z]
  cases h
 |_=>intro ro r h;first|cases h;rfl|(simp only[bS]at h;cases h;rfl)|(simp only[bS]at h;cases h)
def TN(E:Env)(nm:FuncId->Lk Nat)(G:FuncId->Lk GD):qO:=λf=>(G f).bind λg=>(E.ft f).bind λu=>(bS ⟨E,nm,u.ntmps⟩ false u.body).bind λc=>(u.results.mapM (Cs E)).bind λrs=>some ⟨u.ntmps,rs,(jR g c ⟨g.m,0,0⟩).1⟩
theorem Df{E:Env}{nm:FuncId->Lk Nat}{G:FuncId->Lk GD}{f:FuncId}{rf:RF}(h:TN E nm G f=some rf):∃fi,E.ft f=some fi/\yd E nm fi rf:=by unfold TN at h;obtain⟨g,_,h⟩:=ζg.1 h;obtain⟨fi,a,h⟩:=ζg.1 h;obtain⟨c,u,h⟩:=ζg.1 h;obtain⟨rs,w,h⟩:=ζg.1 h;cases h;exact⟨fi,a,by rw[u,mE,Lu u],w,rfl⟩
theorem w6:∀(g:FuncId)(s:Nat),some g=some s->(λn=>n) s=g:=λ_ _ h=>(Option.some.inj h).symm
def rR(o:Lk RF):RF:=o.getD ⟨0,[],.skip⟩
def tb(T:qO)(f:FuncId):RC:=(rR (T f)).body
def tr(T:qO)(f:FuncId):L' RV:=(rR (T f)).rs
theorem By{o:Lk RF}(h:o.isSome=true):o=some (rR o):=by cases o with
 |none=>cases h|some r=>rfl
class jW(δ:Type)where
 e:δ->List V
instance aa5{α:Type}[bB α]:jW α:=⟨λx=>[enc x]⟩
instance aa7:jW Unit:=⟨λ_=>[]⟩
instance aa6{α β:Type}[bB α][jW β]:jW (α×β):=⟨λx=>enc x.1::jW.e x.2⟩
@[simp] theorem aaM{α:Type}[bB α](x:α):jW.e x=[enc x]:=rfl
@[simp] theorem aaJ(x:Unit):jW.e x=[]:=rfl
@[simp] theorem aaI{α β:Type}[bB α][jW β](x:α×β):jW.e x=enc x.1::jW.e x.2:=rfl
class Fc(S:Sys)(c:b9){δ:Type}(m:Option δ)where
 n:FuncId
 az:List V
 E:δ->List V
 sc:Bool
 F:gT S c n (λ_:Unit=>az) E (λ_=>m) sc
section
variable{S:Sys}{T:qO}{δ:Type}{m:Lk δ}
theorem gT.Rt{E:δ->L' V}(fn:FuncId)(az:L' V)(h:Le (m.bind λr=>some (E r)) (b8 S (dc S T) (qM (tr T fn)) (.rc (tb T fn),[],start (az.map .v) [])))
 (B:(T fn).isSome=true)(a:S.E.keep fn=false)(D:ble az.length (rR (T fn)).na=true)
 {sc:Bool}(s:sc=true->∀r,(result (E r)).scalar=true):gT S (dc S T) fn (λ_:Unit=>az) E (λ_=>m) sc where
 k:=a
 h z:=aaB (By B) (le_of_ble_eq_true D) h
 s:=s
abbrev Fc.NE(E:δ->L' V)(fn:FuncId)(az:L' V)(h:Le (m.bind λr=>some (E r)) (b8 S (dc S T) (qM (tr T fn)) (.rc (tb T fn),[],start (az.map .v) [])))
 (B:(T fn).isSome=true:=by kernel_rfl)(a:S.E.keep fn=false:=by kernel_rfl)(D:ble az.length (rR (T fn)).na=true:=by kernel_rfl)
 :Fc S (dc S T) m:=
 ⟨fn,az,E,false,gT.Rt fn az h B a D λh=>nomatch h⟩
abbrev Fc.M[jW δ](fn:FuncId)(az:L' V)(h:Le (m.bind λr=>some (jW.e r)) (b8 S (dc S T) (qM (tr T fn)) (.rc (tb T fn),[],start (az.map .v) [])))
 (B:(T fn).isSome=true:=by kernel_rfl)(a:S.E.keep fn=false:=by kernel_rfl)(D:ble az.length (rR (T fn)).na=true:=by kernel_rfl)
 (s:∀r:δ,(result (jW.e r)).scalar=true:=by intro r;kernel_rfl):Fc S (dc S T) m:=
 ⟨fn,az,jW.e,true,gT.Rt fn az h B a D λ_=>s⟩
abbrev Fc.N[jW δ](fn:FuncId)(az:L' V)(h:Le (m.bind λr=>some (jW.e r)) (b8 S (dc S T) (qM (tr T fn)) (.rc (tb T fn),[],start (az.map .v) [])))
 (B:(T fn).isSome=true:=by kernel_rfl)(a:S.E.keep fn=false:=by kernel_rfl)(D:ble az.length (rR (T fn)).na=true:=by kernel_rfl)
 :Fc S (dc S T) m:=
 ⟨fn,az,jW.e,false,gT.Rt fn az h B a D λh=>nomatch h⟩
end
abbrev Fc.of{S:Sys}{c:b9}{α δ:Type}{p:α->Lk δ}{n:FuncId}{A:α->L' V}{E:δ->L' V}{b:Bool}(z:α)(F:gT S c n A E p b):Fc S c (p z):=⟨n,A z,E,b,⟨F.k,λ_=>F.h z,F.s⟩⟩
theorem gT.rQ{S:Sys}{c:b9}{α δ:Type}{p:α->Lk δ}{n:FuncId}{A:α->L' V}{E:δ->L' V}{b:Bool}(F:∀z,Fc S c (p z))(i:α)(B:∀z,(F z).n=n)(G:∀z,(F z).az=A z)(D:∀z,(F z).E=E)(J:∀z,(F z).sc=b):gT S c n A E p b where
 k:=by rw[<-B i];exact(F i).F.k
 h z:=by rw[<-B z,<-G z,<-D z];exact(F z).F.h ()
 s:=by rw[<-J i,<-D i];exact(F i).F.s
theorem lS.rQ{S:Sys}{c:b9}{α δ:Type}{p:α->Lk δ}{g:FuncId}{w e:L' V}{A:α->L' V}{R:δ->L' V}{b:Bool}[i:Inhabited α][F:∀z,Fc S c (p z)](B:∀z,(F z).n=g:=by intro _;kernel_rfl)(D:∀z,(F z).az=w++A z++e:=by intro _;kernel_rfl)
 (G:∀z,(F z).E=R:=by intro _;kernel_rfl)(J:∀z,(F z).sc=b:=by intro _;kernel_rfl):lS S c g w e A R p b:=
 ⟨gT.rQ F default B D G J⟩
section
variable{S:Sys}{c:b9}{β γ δ α:Type}{Q:Out×St->Lk β}{e:γ->Lk β}{cf:Cf}
theorem tI(n:Nat){m:Lk β}(h:Le m (b8 S c Q (jq S c n cf)))(B:iA S c n cf.1 cf.2.1 cf.2.2=some (jq S c n cf):=by kernel_rfl):Le m (b8 S c Q cf):=BU B h
theorem bC(n:Nat){m:Lk δ}[F:Fc S c m]{f:δ->Lk γ}(h:∀x,m=some x->Le ((f x).bind e) (b8 S c Q (nx S c n cf λp=>cT p.st p.d (.v (result (F.E x))))))
 (B:(fT S c n cf).map (λp=>(p.k,(bW S.N p.st.g p.az).bind k_,(!p.dr||p.now||fZ p.st.m p.fr [])))=some (.c,some (F.n,F.az.map .v),true):=by kernel_rfl):Le ((m.bind f).bind e) (b8 S c Q cf):=yw n F.F () h B
theorem cZ(n:Nat){m:Lk δ}[F:Fc S c m]{f:δ->Lk γ}(h:∀x,m=some x->Le ((f x).bind e) (b8 S c Q (nx S c n cf λp=>cT p.st p.d (.v (result (F.E x))))))
 (B:(fT S c n cf).map (λp=>(p.k,((bW S.N p.st.g p.az).bind k_).bind λq=>(nC (iN p.st.m 8) q.2).map λvs=>(q.1,vs,((!p.dr||p.now)||fZ p.st.m p.fr q.2))))=some (.c,some (F.n,F.az,true)):=by kernel_rfl)(D:F.sc=true:=by kernel_rfl):Le ((m.bind f).bind e) (b8 S c Q cf):=
 Xf n (u D F.F) () h B
where
 u {b:Bool} {fn:FuncId} {az:L' V} {E:δ->L' V} {m:Lk δ} (h:b=true) (F:gT S c fn (λ_:Unit=>az) E (λ_=>m) b):gT S c fn (λ_:Unit=>az) E (λ_=>m) true:=h▸F
def Ug(cf:Cf):RC:=match cf.1 with|.rc (.loop c)=>c|_=>.skip
def EB(cf:Cf):Arg×L' Nat×RC×RC:=match cf.1 with|.rc (.each g ps a b)=>(g,ps,a,b)|_=>(.s 0,[],.skip,.skip)
theorem dY{σ ε ρ:Type}{step:σ->Lk (Fw σ ε ρ)}(n:Nat)(eσ:σ->St)(eε:ε->Nat×St)(eρ:ρ->St){s:σ}{B:ε->Lk γ}{fr:ρ->Lk γ}
 (h:∀s,Le ((step s).bind λw=>some (Fw.out eσ eε eρ w)) (b8 S c some (.rc (Ug (jq S c n cf)),[],eσ s)))
 (D:∀x,Le ((B x).bind e) (b8 S c Q (.ex (eε x).1,(jq S c n cf).2.1,(eε x).2)))(a:∀b,Le ((fr b).bind e) (Q (.ret,eρ b)))
 (G:iA S c n cf.1 cf.2.1 cf.2.2=some (.rc (.loop (Ug (jq S c n cf))),(jq S c n cf).2.1,eσ s):=by kernel_rfl):Le (((bT step s).bind (Fw.elim B fr)).bind e) (b8 S c Q cf):=
 O1 G h D a
theorem fN{σ ε:Type}{step:σ->Lk (Fw σ ε Empty)}(n:Nat)(eσ:σ->St)(eε:ε->Nat×St){s:σ}{B:ε->Lk γ}{fr:Empty->Lk γ}
 (h:∀s,Le ((step s).bind λw=>some (Fw.out eσ eε (λe=>Empty.elim e) w)) (b8 S c some (.rc (Ug (jq S c n cf)),[],eσ s)))
 (D:∀x,Le ((B x).bind e) (b8 S c Q (.ex (eε x).1,(jq S c n cf).2.1,(eε x).2)))
 (G:iA S c n cf.1 cf.2.1 cf.2.2=some (.rc (.loop (Ug (jq S c n cf))),(jq S c n cf).2.1,eσ s):=by kernel_rfl):Le (((bT step s).bind (Fw.elim B fr)).bind e) (b8 S c Q cf):=
 O1 G h D λb=>Empty.elim b
theorem B5{σ ε ρ:Type}{f:FuncId}{x y:L' V}{a:L' α}{eI:α->L' V}{step:α->σ->Lk (Fw σ ε ρ)}(n:Nat)(d:Tb SV)(eσ:σ->Tb bJ)(eε:ε->Nat×Tb bJ)(eρ:ρ->Tb bJ){s:σ}{fn:σ->Lk γ}{B:ε->Lk γ}{fr:ρ->Lk γ}
 (hi:S.items f x y=some (a.map eI))
 (h:∀x s,Le ((step x s).bind λw=>some (Fw.xx eσ eε eρ w)) (b8 S c (Aa S c (EB (jq S c n cf)).2.2.2) (.rc (EB (jq S c n cf)).2.2.1,[],⟨yq d (EB (jq S c n cf)).2.1 ((eI x).map .v),eσ s,qJ d,[],true,0⟩)))
 (D:∀s,Le ((fn s).bind e) (b8 S c Q (.nx,(jq S c n cf).2.1,bL d (eσ s))))(G:∀x,Le ((B x).bind e) (b8 S c Q (.ex (eε x).1,(jq S c n cf).2.1,bL d (eε x).2)))(g:∀b,Le ((fr b).bind e) (Q (.ret,bL d (eρ b))))
 (J:∀x,(eI x).length=(EB (jq S c n cf)).2.1.length:=by intro _;kernel_rfl)(i:rT S.N d (EB (jq S c n cf)).1=some (.v (.clo f x y)):=by kernel_rfl)
 (U:iA S c n cf.1 cf.2.1 cf.2.2=some (.rc (.each (EB (jq S c n cf)).1 (EB (jq S c n cf)).2.1 (EB (jq S c n cf)).2.2.1 (EB (jq S c n cf)).2.2.2),(jq S c n cf).2.1,bL d (eσ s)):=by kernel_rfl):Le (((kV step a s).bind (Fw.qY fn B fr)).bind e) (b8 S c Q cf):=
 XH U i hi J h D G g
noncomputable def Yx(n k:Nat)(B:L' Nat)(d:Nat)(S:Sys)(c:b9)(cf:Cf)(v:SV):Cf:=jmp k [] (jq S c n cf) {(jq S c n cf).2.2 with g:=bN (oH B (jq S c n cf).2.2.g) d v}
theorem bZ[bB δ](n k:Nat)(B:L' Nat)(d:Nat){m:Lk δ}{f:δ->Lk γ}(D:Le (m.bind λr=>b8 S c Q (Yx n k B d S c cf (cv r))) (b8 S c Q cf))(a:∀r,Le ((f r).bind e) (b8 S c Q (Yx n k B d S c cf (cv r)))):Le ((m.bind f).bind e) (b8 S c Q cf):=UL _ D a
end
theorem N2{α β:Type}{P:α ⊕ β->Prop}(c:∀a,P (.inl a))(B:∀b,P (.inr b)):∀x,P x
 |.inl a=>c a|.inr b=>B b
instance{n:Nat}:DecidableEq (cq n Int):=λa b=>if h:a.l=b.l then .isTrue (by cases a;cases b;cases h;rfl)else .isFalse λe=>h (by rw[e])
theorem wM:∀l:L' Int,iS ((l.map (cells (α:=Int))).flatten)=some l
 |[]=>rfl|a::l=>by show iS (.int .i64 a::(l.map (cells (α:=Int))).flatten)=_;simp only[iS,wM l,map_some]
theorem Qj(l:L' Int):(l.map (cells (α:=Int))).flatten=l.map (V.int .i64):=by induction l with|nil=>rfl|cons a l u=>simp only[map_cons,List.flatten_cons,u];rfl
instance{n:Nat}:Key (cq n Int)where
 kk:=.ints n
 ok a:=by show((a.l.map (cells (α:=Int))).flatten.length==n&&(iS (a.l.map (cells (α:=Int))).flatten).isSome)=true;rw[wM,Qj,length_map,a.len];simp
 eq a b:=by show lM (a.l.map (cells (α:=Int))).flatten (b.l.map (cells (α:=Int))).flatten=_;unfold lM;rw[wM,wM];simp only[a.len,b.len,if_true];congr 1;rw[Bool.eq_iff_iff,beq_iff_eq,decide_eq_true_iff];exact⟨λh=>by cases a;cases b;cases h;rfl,λh=>by rw[h]⟩
def B8(m:Tb bJ):SV->Bool
 |.v _|.agg _=>true|x=>lZ m x
def o7:SV->L' SV
 |.v x=>x.cells.map .v|.agg l=>l|x=>[x]
def Cp(cells:L' SV):L' (Nat×Nat)->L' SV->Lk (L' SV)
 |[],[]=>some cells|(off,size)::pl,v::vs=>if(o7 v).length=size/\off+(o7 v).length<=cells.length then Cp (cells.take off++o7 v++cells.drop (off+(o7 v).length)) pl vs else none|_,_=>none
theorem Pr(cells:L' SV):Cp cells [] []=some cells:=rfl
theorem Ew(cells:L' SV)(off size:Nat)(pl:L' (Nat×Nat))(v:SV)(vs:L' SV):Cp cells ((off,size)::pl) (v::vs)=if(o7 v).length=size/\off+(o7 v).length<=cells.length then Cp (cells.take off++o7 v++cells.drop (off+(o7 v).length)) pl vs else none:=rfl
theorem Sa(x:V):o7 (.v x)=x.cells.map .v:=rfl
theorem NB(d:Nat):o7 (.own d)=[.own d]:=rfl
theorem Pz(d:Nat):o7 (.mp d)=[.mp d]:=rfl
theorem M0(d o:Nat):o7 (.ptr d o)=[.ptr d o]:=rfl
theorem TF{m:Tb bJ}{v:SV}(h:B8 m v=true):y8 m v=some (o7 v):=by cases v<;>first|rfl|(unfold y8;exact if_pos h)|(simp[B8,lZ]at h)
theorem MH{m:Tb bJ}:∀{pl:L' (Nat×Nat)}{vs cells l:L' SV},vs.all (B8 m)=true->Cp cells pl vs=some l->uc m cells pl vs=some l
 |[],[],_,_,_,h=>h|[],_::_,_,_,_,h=>by cases h|_::_,[],_,_,_,h=>by cases h|(off,size)::pl,v::vs,cells,l,B,h=>by
  rw[all_cons,ζh]at B;rw[Ew]at h;show(match y8 m v with|some c=>if c.length=size/\off+c.length<=cells.length then uc m (cells.take off++c++cells.drop (off+c.length)) pl vs else none|none=>none)=some l;rw[TF B.1];simp only;split at h;next a=>rw[if_pos a];exact MH B.2 h
  cases h
def FK:SV->Bool
 |.v x=>x.one|.agg _=>false|_=>true
theorem XO(x:V):FK (.v x)=x.one:=rfl
theorem S_(d:Nat):FK (.own d)=true:=rfl
theorem Vy(d:Nat):FK (.mp d)=true:=rfl
theorem Sv(d o:Nat):FK (.ptr d o)=true:=rfl
theorem LS{m:Tb bJ}:∀{l:L' SV},l.all FK=true->l.all (B8 m)=true->l.all (yG m)=true
 |[],_,_=>rfl|x::l,h,k=>by rw[all_cons,ζh]at h k⊢;refine⟨?_,LS h.2 k.2⟩;cases x<;>first|exact h.1|exact k.1|(have:=h.1;cases this)
section
variable{S:Sys}{c:b9}{β γ δ α:Type}{Q:Out×St->Lk β}{e:γ->Lk β}{cf:Cf}
theorem QF{N:Nat->FuncId}{m:Tb bJ}{z:L' V}{pl:L' (Nat×Nat)}{svs l:L' SV}(B:(dy svs).isNone=true)(h:uc m (z.map .v) pl svs=some l):jJ N m (.build z pl) svs=some (.agg l):=by
 unfold jJ;cases a:dy svs with|some x=>rw[a]at B;cases B|none=>
  have:yx N m (.build z pl) svs=(uc m (z.map .v) pl svs).map .agg:=by unfold yx;split<;>first|contradiction|(rename_i e _;cases e;rfl)|simp_all
  simp only[this,h,map_some]
theorem ZA(n:Nat)(svs l:L' SV)(z:L' V)(pl:L' (Nat×Nat)){m:Lk β}(B:Cp (z.map .v) pl svs=some l)(h:Le m (b8 S c Q (nx S c n cf λp=>cT p.st p.d (.agg l))))
 (D:(fT S c n cf).map (λp=>(p.k,bW S.N p.st.g p.az,(dy svs).isNone,svs.all (B8 p.st.m)))=some (.p (.build z pl),some svs,true,true):=by kernel_rfl):Le m (b8 S c Q cf):=by
 obtain⟨p,u,a⟩:=eP D;simp only[ζc]at a;refine vW u ?_ h;rw[a.1];exact BV a.2.1 rfl (QF a.2.2.1 (MH a.2.2.2 B))
theorem Zn(n u:Nat)(l:L' SV){m:Lk β}(B:l.all FK=true)(h:Le m (b8 S c Q (nx S c n cf λp=>{p.st with g:=bN p.st.g u (.ptr u 0),m:=bN p.st.m u (.box l)})))
 (D:(fT S c n cf).map (λp=>(p.d,p.k,bW S.N p.st.g p.az,p.st.new u,l.all (B8 p.st.m)))=some (some u,.a .box,some [.agg l],true,true):=by kernel_rfl):Le m (b8 S c Q cf):=by
 obtain⟨p,w,a⟩:=eP D;simp only[ζc]at a;refine vW w ?_ h;rw[a.1,a.2.1,Ah,a.2.2.1];simp only[ζb,a.2.2.2.1,if_true,oP,LS B a.2.2.2.2]
end
section
variable{S:Sys}{c:b9}{β γ δ:Type}{Q:Out×St->Lk β}{e:γ->Lk β}{cf:Cf}{κ ν:Type}[bB κ][DecidableEq κ][Key κ][bB ν]
structure D8(κ ν:Type)where
 o:Option (Mo κ ν)
 deriving Inhabited
def X3(m:D8 κ ν):V:=match m.o with|none=>.gD|some l=>.fmap (ox l)
theorem Ph(m:Mo κ ν):V.ud (ox m)=true:=by induction m with|nil=>rfl|cons x r u=>show V.ud ((enc x.1,enc x.2)::ox r)=true;simp only[V.ud,jU,u,Bool.and_self]
instance:bB (D8 κ ν)where
 cells m:=[X3 m]
 agg:=false
 size:=1
 len _:=rfl
 good m:=by unfold X3;split;rfl;simp only[V.cE,V.good,Ph,Bool.and_self]
 one m:=by unfold X3;split<;>rfl
 plain _:=rfl
theorem LH(m:D8 κ ν):V.one (enc m)=true:=by obtain⟨o⟩:=m;cases o<;>rfl
def m_(m:D8 κ ν):Mo κ ν:=m.o.getD []
theorem R9(m:D8 κ ν):ny [] (enc m)=some (ox (m_ m)):=by obtain⟨o⟩:=m;cases o<;>rfl
theorem IM(m:D8 κ ν)(k:κ)(z:ν)(ok:Bool):eZ [] (.lookup (Key.kk κ) (enc z) ok) [enc m,enc k]=some (if ok then .tup [enc (ow (m_ m) k z),.bool (uv (m_ m) k)]else enc (ow (m_ m) k z)):=by
 simp only[eZ,R9,Key.ok,if_true];have:=FT k (m_ m) 0;simp only[ow,uv]
 cases B:iK (enc k) (ox (m_ m)) 0 with
 |none=>rw[B]at this;cases this|some r=>
  rw[B]at this;simp only[map_some,ζa]at this
  cases r with
  |none=>cases u:jM k (m_ m)with|none=>rfl|some w=>rw[u]at this;cases this
  |some w=>cases u:jM k (m_ m)with|none=>rw[u]at this;cases this|some C=>rw[u]at this;simp only[map_some,ζa]at this;simp only[this];rfl
theorem O9(n:Nat)(mp:D8 κ ν)(k:κ)(z:ν){m:Lk β}(h:Le m (b8 S c Q (nx S c n cf λp=>cT p.st p.d (cv (ow (m_ mp) k z)))))
 (B:(fT S c n cf).map (λp=>(p.k,bW S.N p.st.g p.az))=some (.r (.lookup (Key.kk κ) (enc z) false),some [cv mp,cv k]):=by kernel_rfl):Le m (b8 S c Q cf):=by
 obtain⟨p,u,a⟩:=eP B;simp only[ζc]at a;refine vW u ?_ h;rw[a.1,B9,a.2];simp only[ζb,fm,Bool.or_true,if_true,oF,IM,map_some];rfl
theorem UX(n:Nat)(mp:D8 κ ν)(k:κ)(z:ν){m:Lk β}(h:Le m (b8 S c Q (nx S c n cf λp=>cT p.st p.d (.v (.tup [enc (ow (m_ mp) k z),.bool (uv (m_ mp) k)])))))
 (B:(fT S c n cf).map (λp=>(p.k,bW S.N p.st.g p.az))=some (.r (.lookup (Key.kk κ) (enc z) true),some [cv mp,cv k]):=by kernel_rfl):Le m (b8 S c Q cf):=by
 obtain⟨p,u,a⟩:=eP B;simp only[ζc]at a;refine vW u ?_ h;rw[a.1,B9,a.2];simp only[ζb,fm,Bool.or_true,if_true,oF,IM,map_some]
end
theorem gT.scalar{S:Sys}{c:b9}{α δ:Type}{fn:FuncId}{A:α->L' V}{E:δ->L' V}{p:α->Lk δ}{b:Bool}(F:gT S c fn A E p b)(h:∀r,(result (E r)).scalar=true):gT S c fn A E p true:=⟨F.k,F.h,λ_=>h⟩
section
variable{S:Sys}{c:b9}{β γ δ α:Type}[bB α]{Q:Out×St->Lk β}{e:γ->Lk β}{cf:Cf}
theorem UH{ω:Type}[bB ω](n u:Nat){N:Nat}(a:cq N α)(i:Int)(o:Nat)(x:α)(D:a.at i=some x)(y:α)(w:ω)(G:cells y=(cells x).take o++cells w++(cells x).drop (o+bB.size ω)){m:Lk β}(h:Le m (b8 S c Q (nx S c n cf λp=>cT {p.st with m:=bN p.st.m u (bx (a.set i y))} p.d (.v .undef))))
 (J:(fT S c n cf).map (λp=>(p.k,bW S.N p.st.g p.az,bh p.st.m u,(!p.dr||p.now),ble (o+bB.size ω) (bB.size α)))=some (.l (.store (bB.size ω)),some [.ptr u (i.toNat*bB.size α+o),cv w],some (bx a),true,true):=by kernel_rfl):Le m (b8 S c Q cf):=by
 obtain⟨p,B,z⟩:=eP J;simp only[ζc]at z;obtain⟨b,C⟩:=jT B;obtain⟨dr,fr,d,gd,now,U,az,dd,l,fs,st⟩:=p;obtain⟨rfl,I,L,O,T⟩:=z;exact Y_ n dr fr (⟨d,gd,now,.l (.store (bB.size ω)),az,dd,[]⟩::l) fs st u a i o x D y (enc w) (by rw[lQ];exact G) rfl (by(try dsimp only at *);simp only[b,C,I,L,O,T,lQ,gA,rj]) (by
  simp only[nx,B]at h;exact h)
end
noncomputable def Im(rs:L' RV):Out×St->Lk (bJ×L' V)
 |(.exit _,_)=>none|(_,st)=>(kU st rs).bind λl=>match l with
  |.own d::r=>(bh st.m d).bind λob=>(dy r).map λys=>(ob,ys)|_=>none
theorem Cb:∀{l:L' SV}{ys:L' V},dy l=some ys->l=ys.map .v
 |[],ys,h=>by cases h;rfl|.v x::r,ys,h=>by simp only[dy]at h;obtain⟨B,a,rfl⟩:=ζf.1 h;rw[Cb a];rfl|.own _::_,_,h|.ptr ..::_,_,h|.el ..::_,_,h|.mp _::_,_,h|.clo ..::_,_,h|.tup _::_,_,h|.agg _::_,_,h|.yl _::_,_,h=>by cases h
theorem aaq{S:Sys}{c:b9}{rs:L' RV}{a:RC}{st:St}{ob:bJ}{ys:L' V}(h:kY S c (Im rs) a [] st=some (ob,ys)):∃o st' d,cK S c a st=some (o,st')/\(∀id,o≠.exit id)/\kU st' rs=some (.own d::ys.map .v)/\bh st'.m d=some ob:=by
 rw[p8]at h;obtain⟨⟨o,st'⟩,b,u⟩:=ζg.1 h;have z:∀id,o≠.exit id:=by rintro id rfl;simp[Im]at u
 have B:(kU st' rs).bind (λl=>match l with|.own d::r=>(bh st'.m d).bind λob=>(dy r).map λys=>(ob,ys)|_=>none)=some (ob,ys):=by cases o with|exit id=>exact absurd rfl (z id)|norm=>exact u|ret=>exact u
 obtain⟨l,C,w⟩:=ζg.1 B;split at w;obtain⟨D,G,I⟩:=ζg.1 w;obtain⟨O,J,L⟩:=ζf.1 I;cases L;exact⟨o,st',_,b,z,by rw[C,Cb J],G⟩;cases w
structure FcO(S:Sys)(c:b9){δ ε:Type}[bB δ][jW ε](m:Option (Sl δ×ε))where
 n:FuncId
 az:List V
 k:S.E.keep n=true
 o:S.E.own n=true
 h:∀s r,m=some (s,r)->∃e m',c n (az.map .v) []=some (.own e::(jW.e r).map .v,m')/\bh m' e=some (cF s)
 sc:∀x:δ,(cells x).all scalar=true
 sr:∀r:ε,cV (jW.e r)=true
abbrev FcO.mk'{S:Sys}{T:qO}{δ ε:Type}[bB δ][jW ε]{m:Lk (Sl δ×ε)}(fn:FuncId)(az:L' V)(h:Le (m.bind λr=>some (cF r.1,jW.e r.2)) (b8 S (dc S T) (Im (tr T fn)) (.rc (tb T fn),[],start (az.map .v) [])))
 (B:(T fn).isSome=true:=by kernel_rfl)(b:S.E.keep fn=true:=by kernel_rfl)(D:S.E.own fn=true:=by kernel_rfl)(G:ble az.length (rR (T fn)).na=true:=by kernel_rfl)
 (sc:∀x:δ,(cells x).all scalar=true:=by intro x;rfl)(sr:∀r:ε,cV (jW.e r)=true:=by intro r;rfl):FcO S (dc S T) m where
 n:=fn
 az:=az
 k:=b
 o:=D
 sc:=sc
 sr:=sr
 h s r w:=by have u:=By B;have a:=h (cF s,jW.e r) (by rw[w];rfl);change kY S (dc S T) (Im (rR (T fn)).rs) (rR (T fn)).body [] (start (az.map .v) [])=some (cF s,jW.e r)at a;obtain⟨o,st',d,g1,g2,g3,g4⟩:=aaq a;refine⟨d,st'.m,?_,g4⟩;rw[s7 u];unfold nZ;rw[if_pos (by simpa using le_of_ble_eq_true G),g1];cases o with|exit id=>exact absurd rfl (g2 id)|norm=>simp only[g3,map_some]|ret=>simp only[g3,map_some]
section
variable{S:Sys}{c:b9}{β γ δ α:Type}{Q:Out×St->Lk β}{e:γ->Lk β}{cf:Cf}
theorem XZ(n:Nat)(ds:L' Nat){m:Lk δ}[F:Fc S c m]{f:δ->Lk γ}(h:∀x,m=some x->Le ((f x).bind e) (b8 S c Q (nx S c n cf λp=>cT {p.st with m:=if(result (F.E x)).scalar then p.st.m else oH ds p.st.m} p.d (.v (result (F.E x))))))
 (B:(fT S c n cf).map (λp=>(p.k,((bW S.N p.st.g p.az).bind k_).bind λq=>(nC (iN p.st.m 8) q.2).map λvs=>(q.1,vs,!p.dr||p.now,(dy q.2).isSome,rowsOf q.2)))=some (.c,some (F.n,F.az,true,false,some ds)):=by kernel_rfl):Le ((m.bind f).bind e) (b8 S c Q cf):=by
 obtain⟨p,z,a⟩:=eP B;simp only[ζc]at a;obtain⟨C,D⟩:=a;obtain⟨q,g1,g2⟩:=ζg.1 D;obtain⟨u,g3,g4⟩:=ζg.1 g1;obtain⟨vs,g5,g6⟩:=ζf.1 g2;simp only[ζc]at g6;obtain⟨e1,rfl,e3,e4,e5⟩:=g6;refine qV z ?_ h;rw[C,wE _ _ _ _ _ _ u q.1 q.2 g3 g4,L_ _ _ _ _ _ _ _ (by rw[e1];exact F.F.k),(wW p.st.m 8).2,g5]
 simp only[ζb,e3,Bool.true_or,Bool.and_self,if_true];intro y w;obtain⟨r,b,w⟩:=ζg.1 w;cases w;have:=F.F.h () (F.E r) (ζg.2 ⟨r,b,rfl⟩);rw[e1,this];simp only[ζb,Jk,e4,Bool.or_false]
 cases(result (F.E r)).scalar with
 |true=>rfl|false=>simp only[false_eq_true,if_false,if_true,e5,map_some,ζb]
end
noncomputable def FO(rs:L' RV)(B:L' Nat):Out×St->Lk (L' V×dD)
 |(.exit _,_)=>none|(_,st)=>(kU st rs).bind λl=>(dy l).bind λys=>(kr st.m B).map λos=>(ys,os)
theorem goK{S:Sys}{c:b9}{rs:L' RV}{B:L' Nat}{a:RC}{st:St}{os:dD}{ys:L' V}(h:kY S c (FO rs B) a [] st=some (ys,os)):∃o st',cK S c a st=some (o,st')/\(∀id,o≠.exit id)/\kU st' rs=some (ys.map .v)/\kr st'.m B=some os:=by
 rw[p8]at h;obtain⟨⟨o,st'⟩,b,u⟩:=ζg.1 h;have w:∀id,o≠.exit id:=by rintro id rfl;simp[FO]at u
 have z:(kU st' rs).bind (λl=>(dy l).bind λys=>(kr st'.m B).map λos=>(ys,os))=some (ys,os):=by cases o with|exit id=>exact absurd rfl (w id)|norm=>exact u|ret=>exact u
 obtain⟨l,C,D⟩:=ζg.1 z;obtain⟨O,G,I⟩:=ζg.1 D;obtain⟨q,J,L⟩:=ζf.1 I;cases L;exact⟨o,st',b,w,by rw[C,Cb G],J⟩
def pH:Tb bJ->dD->Tb bJ
 |m,[]=>m|m,(d,ob)::r=>pH (bN m d ob) r
theorem JL{m':dD}{D:L' Nat}:∀{B:L' Nat}{os m:dD},kr m' B=some os->(os.all λx=>within D x.2)=true->Aw D m' B m=some (pH m os)
 |[],os,m,h,_=>by cases h;rfl|k::B,os,m,h,hp=>by
  simp only[kr]at h;split at h;next v t a G=>cases h;simp only[all_cons,ζh]at hp;simp only[Aw,a,hp.1,if_true,pH];exact JL G hp.2
  cases h
theorem back_eq{m':dD}{B:L' Nat}{os m:dD}(h:kr m' B=some os)(hp:(os.all λx=>within B x.2)=true):lp m' B m=some (pH m os):=JL h hp
structure nO(S:Sys)(c:b9){δ:Type}(m:Option δ)where
 n:FuncId
 az:List SV
 os:dD
 E:δ->List V
 M:δ->dD
 k:S.E.keep n=true
 o:S.E.own n=false
 q:(S.prm n).isNone=true
 h:∀r,m=some r->∃m',c n az os=some ((E r).map .v,m')/\∀m0,lp m' (os.map (·.1)) m0=some (pH m0 (M r))
abbrev nO.mk'{S:Sys}{T:qO}{δ:Type}{m:Lk δ}(fn:FuncId)(az:L' SV)(os:dD)(E:δ->L' V)(M:δ->dD)(h:Le (m.bind λr=>some (E r,M r)) (b8 S (dc S T) (FO (tr T fn) (os.map (·.1))) (.rc (tb T fn),[],start az os)))
 (B:(T fn).isSome=true:=by kernel_rfl)(b:S.E.keep fn=true:=by kernel_rfl)(D:S.E.own fn=false:=by kernel_rfl)(G:(S.prm fn).isNone=true:=by kernel_rfl)(J:ble az.length (rR (T fn)).na=true:=by kernel_rfl)
 (hp:∀r,((M r).all λx=>within (os.map (·.1)) x.2)=true:=by intro r;kernel_rfl):nO S (dc S T) m where
 n:=fn
 az:=az
 os:=os
 E:=E
 M:=M
 k:=b
 o:=D
 q:=G
 h r hr:=by have u:=By B;have a:=h (E r,M r) (by rw[hr];rfl);change kY S (dc S T) (FO (rR (T fn)).rs (os.map (·.1))) (rR (T fn)).body [] (start az os)=some (E r,M r)at a;obtain⟨o,st',g1,g2,g3,g4⟩:=goK a;refine⟨st'.m,?_,λw=>back_eq g4 (hp r)⟩;rw[s7 u];unfold nZ;rw[if_pos (le_of_ble_eq_true J),g1];cases o with|exit id=>exact absurd rfl (g2 id)|norm=>simp only[g3,map_some]|ret=>simp only[g3,map_some]
section
variable{S:Sys}{c:b9}{β γ δ:Type}{Q:Out×St->Lk β}{e:γ->Lk β}{cf:Cf}
theorem tJ(n:Nat){m:Lk δ}(F:nO S c m){f:δ->Lk γ}(h:∀x,m=some x->Le ((f x).bind e) (b8 S c Q (nx S c n cf λp=>cT {p.st with m:=pH p.st.m (F.M x)} p.d (.v (result (F.E x))))))
 (B:(fT S c n cf).map (λp=>(p.k,((bW S.N p.st.g p.az).bind k_).bind λq=>(handed p.st.m q.2).map λos=>(q.1,q.2,os),p.dr))=some (.c,some (F.n,F.az,F.os),false):=by kernel_rfl):Le ((m.bind f).bind e) (b8 S c Q cf):=by
 obtain⟨p,z,a⟩:=eP B;simp only[ζc]at a;obtain⟨C,D,G⟩:=a;obtain⟨q,g1,g2⟩:=ζg.1 D;obtain⟨u,g3,g4⟩:=ζg.1 g1;obtain⟨os,g5,g6⟩:=ζf.1 g2;simp only[ζc]at g6;obtain⟨e1,e2,rfl⟩:=g6;refine qV z ?_ h;rw[C,G,wE _ _ _ _ _ _ u q.1 q.2 g3 g4];intro y w;obtain⟨r,b,w⟩:=ζg.1 w;cases w;obtain⟨m',k1,k2⟩:=F.h r b;have I:S.prm F.n=none:=by have:=F.q;cases J:S.prm F.n with|none=>rfl|some _=>rw[J]at this;cases this
 have:fu S c p.d false (!false||p.now) (fZ p.st.m p.fr) q.1 q.2 p.st=some (.v (result (F.E r)),{p.st with m:=pH p.st.m (F.M r)}):=by unfold fu;rw[e1,e2]at *;simp only[F.k,F.o,I,g5,k1,nq,k2,if_true,Bool.not_false,Bool.true_or,Bool.false_and,false_eq_true,if_false]
 rw[this];rfl
instance:Key ByteArray where
 kk:=.str
 ok _:=rfl
 eq a b:=by show some (a==b)=some (decide (a=b));rw[show(a==b)=decide (a=b)from Bool.eq_iff_iff.2 (by cases a;cases b;rename_i x y;show(x==y)=true↔_;simp)]
def Np(s:Sl U8):ByteArray:=nj (s.l.map U8.v)
theorem JE:∀l:L' U8,mh (rows l)=some (l.map U8.v)
 |[]=>rfl|a::l=>by show(mh (rows l)).map (a.v::·)=_;rw[JE l];rfl
theorem Y6(n u:Nat)(s:Sl U8){m:Lk β}(h:Le m (b8 S c Q (nx S c n cf λp=>cT p.st p.d (.v (.str (Np s))))))
 (B:(fT S c n cf).map (λp=>(p.k,bW S.N p.st.g p.az,bh p.st.m u,p.dr))=some (.b,some [.own u],some (cF s),false):=by kernel_rfl):Le m (b8 S c Q cf):=by
 obtain⟨p,z,a⟩:=eP B;simp only[ζc]at a;obtain⟨C,D,G,I⟩:=a;refine vW z ?_ h;rw[C,I];have J:(jA p.st.m 1 (.own u)).bind (λL=>(mh L).map λl=>((SV.v (.str (nj l)),p.st):SV×St))=some (.v (.str (Np s)),p.st):=by
  have O:mh (rows s.l)=some (s.l.map U8.v):=JE _;have w:jA p.st.m 1 (.own u)=some (rows s.l):=by unfold jA;simp only[G];cases s<;>rfl
  rw[w];show((mh (rows s.l)).map λl=>_)=_;rw[O];rfl
 unfold fM mR;have T:gp S.N p.st.g ⟨p.d,none,p.now,.b,p.az,[],[]⟩=none:=rfl;simp only[wanted,T,D,false_eq_true,if_false,J];rfl
end
noncomputable def OC(rs:L' RV)(B:L' Nat):Out×St->Lk (bJ×L' V×dD)
 |(.exit _,_)=>none|(_,st)=>(kU st rs).bind λl=>match l with
  |.own d::r=>if B.contains d then none else(bh st.m d).bind λob=>(dy r).bind λys=>(kr st.m B).map λos=>(ob,ys,os)|_=>none
theorem goR{S:Sys}{c:b9}{rs:L' RV}{B:L' Nat}{a:RC}{st:St}{ob:bJ}{ys:L' V}{os:dD}(h:kY S c (OC rs B) a [] st=some (ob,ys,os)):
 ∃o st' d,cK S c a st=some (o,st')/\(∀id,o≠.exit id)/\kU st' rs=some (.own d::ys.map .v)/\B.contains d=false/\bh st'.m d=some ob/\kr st'.m B=some os:=by
 rw[p8]at h;obtain⟨⟨o,st'⟩,b,w⟩:=ζg.1 h;have D:∀id,o≠.exit id:=by rintro id rfl;simp[OC]at w
 have G:(kU st' rs).bind (λl=>match l with|.own d::r=>if B.contains d then none else(bh st'.m d).bind λob=>(dy r).bind λys=>(kr st'.m B).map λos=>(ob,ys,os)|_=>none)=some (ob,ys,os):=by cases o with|exit id=>exact absurd rfl (D id)|norm=>exact w|ret=>exact w
 obtain⟨l,I,u⟩:=ζg.1 G;split at u
 .split at u
  .cases u
  rename_i e;obtain⟨J,L,O⟩:=ζg.1 u;obtain⟨U,Q,T⟩:=ζg.1 O;obtain⟨q,z,C⟩:=ζf.1 T;cases C;exact⟨o,st',_,b,D,by rw[I,Cb Q],by simpa using e,L,z⟩
 cases u
structure FcR(S:Sys)(c:b9){δ ε:Type}[bB δ][jW ε](m:Option (Sl δ×ε))where
 n:FuncId
 az:List SV
 os:dD
 M:Sl δ×ε->dD
 k:S.E.keep n=true
 o:S.E.own n=false
 q:(S.prm n).isNone=true
 h:∀r,m=some r->∃e m',c n az os=some (.own e::(jW.e r.2).map .v,m')/\bh m' e=some (cF r.1)/\(os.map (·.1)).contains e=false/\∀m0,lp m' (os.map (·.1)) m0=some (pH m0 (M r))
abbrev FcR.mk'{S:Sys}{T:qO}{δ ε:Type}[bB δ][jW ε]{m:Lk (Sl δ×ε)}(fn:FuncId)(az:L' SV)(os:dD)(M:Sl δ×ε->dD)
 (h:Le (m.bind λr=>some (cF r.1,jW.e r.2,M r)) (b8 S (dc S T) (OC (tr T fn) (os.map (·.1))) (.rc (tb T fn),[],start az os)))
 (B:(T fn).isSome=true:=by kernel_rfl)(b:S.E.keep fn=true:=by kernel_rfl)(D:S.E.own fn=false:=by kernel_rfl)(G:(S.prm fn).isNone=true:=by kernel_rfl)(J:ble az.length (rR (T fn)).na=true:=by kernel_rfl)
 (hp:∀r,((M r).all λx=>within (os.map (·.1)) x.2)=true:=by intro r;kernel_rfl):FcR S (dc S T) m where
 n:=fn
 az:=az
 os:=os
 M:=M
 k:=b
 o:=D
 q:=G
 h r hr:=by have u:=By B;have a:=h (cF r.1,jW.e r.2,M r) (by rw[hr];rfl);change kY S (dc S T) (OC (rR (T fn)).rs (os.map (·.1))) (rR (T fn)).body [] (start az os)=some (cF r.1,jW.e r.2,M r)at a;obtain⟨o,st',d,g1,g2,g3,g4,g5,g6⟩:=goR a;refine⟨d,st'.m,?_,g5,g4,λw=>back_eq g6 (hp r)⟩;rw[s7 u];unfold nZ;rw[if_pos (le_of_ble_eq_true J),g1];cases o with|exit id=>exact absurd rfl (g2 id)|norm=>simp only[g3,map_some]|ret=>simp only[g3,map_some]
section
variable{S:Sys}{c:b9}{β γ:Type}{Q:Out×St->Lk β}{e:γ->Lk β}{cf:Cf}
end
structure XX(S:Sys)(c:b9){α δ:Type}[bB δ](fn:FuncId)(A:α->List V)(p:α->Option (Sl δ)):Prop where
 k:S.E.keep fn=true
 o:S.E.own fn=false
 q:(S.prm fn).isNone=true
 h:∀z s,p z=some s->∃e m',c fn ((A z).map .v) []=some ([.own e],m')/\bh m' e=some (cF s)
theorem XX.mk'{S:Sys}{T:qO}{α δ:Type}[bB δ](rf:RF){fn:FuncId}{A:α->L' V}{p:α->Lk (Sl δ)}(h:∀z,Le ((p z).bind λr=>some (cF r)) (b8 S (dc S T) (BX rf.rs) (.rc rf.body,[],start ((A z).map .v) [])))
 (B:T fn=some rf:=by kernel_rfl)(b:S.E.keep fn=true:=by kernel_rfl)(D:S.E.own fn=false:=by kernel_rfl)(G:(S.prm fn).isNone=true:=by kernel_rfl)(J:∀z,(A z).length<=rf.na:=by intro z;exact Nat.le_of_ble_eq_true (by kernel_rfl)):XX S (dc S T) fn A p where
 k:=b
 o:=D
 q:=G
 h z s u:=by have a:=h z (cF s) (by rw[u];rfl);change kY S (dc S T) (BX rf.rs) rf.body [] (start ((A z).map .v) [])=some (cF s)at a;obtain⟨o,st',d,g1,g2,g3,g4⟩:=X6 a;refine⟨d,st'.m,?_,g4⟩;rw[s7 B];unfold nZ;rw[if_pos (by simpa using J z),g1];cases o with|exit id=>exact absurd rfl (g2 id)|norm=>simp only[g3,map_some]|ret=>simp only[g3,map_some]
theorem IA:∀l:L' V,SV.sO (l.map .v)=[]
 |[]=>rfl|a::l=>by simp only[map_cons,SV.sO,SV.CG,IA l,append_nil]
theorem N4{m:Tb bJ}(l:L' V):handed m (l.map .v)=some []:=by unfold handed;rw[IA];rfl
section
variable{S:Sys}{c:b9}{β γ δ α:Type}[bB δ]{Q:Out×St->Lk β}{e:γ->Lk β}{cf:Cf}
end
def Sn(s:Nat)(v:SV)(cf:Cf):Cf:=(cf.1,cf.2.1,{cf.2.2 with g:=bN cf.2.2.g s v})
section
variable{S:Sys}{c:b9}{β γ δ:Type}{Q:Out×St->Lk β}{e:γ->Lk β}{cf:Cf}
theorem jv(n s:Nat){v B:V}(a:v=B){m:Lk β}(h:Le m (b8 S c Q (Sn s (.v B) (jq S c n cf))))
 (D:(iA S c n cf.1 cf.2.1 cf.2.2).map (λp=>bh p.2.2.g s)=some (some (.v v)):=by kernel_rfl):Le m (b8 S c Q cf):=by
 subst a;obtain⟨p,u,a⟩:=eP D;have b:jq S c n cf=p:=by unfold jq;grind
 rw[b]at h;refine BU u ?_;have:Sn s (.v v) p=p:=by unfold Sn;rw[qN a]
 rw[this]at h;exact h
end
def g_{α δ:Type}(b:(α->Lk δ)->α->Lk δ):Nat->α->Lk δ
 |0,_=>none|n+1,z=>b (g_ b n) z
theorem gT.fix{S:Sys}{c:b9}{α δ:Type}{fn:FuncId}{A:α->L' V}{E:δ->L' V}{sc:Bool}{b:(α->Lk δ)->α->Lk δ}(a:S.E.keep fn=false)(B:sc=true->∀r,(result (E r)).scalar=true)
 (h:∀r,gT S c fn A E r sc->∀z,Le ((b r z).bind λr=>some (E r)) (jK c fn (A z))):∀n,gT S c fn A E (g_ b n) sc
 |0=>⟨a,λ_=>Le.none _,B⟩|n+1=>⟨a,h _ (gT.fix a B h n),B⟩
structure xP(S:Sys)(c:b9){α δ:Type}(fn:FuncId)(A:α->List SV)(O:α->dD)(E:δ->List V)(M:α->δ->dD)(p:α->Option δ):Prop where
 k:S.E.keep fn=true
 o:S.E.own fn=false
 q:(S.prm fn).isNone=true
 h:∀z r,p z=some r->∃m',c fn (A z) (O z)=some ((E r).map .v,m')/\∀m0,lp m' ((O z).map (·.1)) m0=some (pH m0 (M z r))
abbrev nO.of{S:Sys}{c:b9}{α δ:Type}{fn:FuncId}{A:α->L' SV}{O:α->dD}{E:δ->L' V}{M:α->δ->dD}{p:α->Lk δ}(z:α)(F:xP S c fn A O E M p):nO S c (p z):=⟨fn,A z,O z,E,M z,F.k,F.o,F.q,F.h z⟩
theorem xP.fix{S:Sys}{c:b9}{α δ:Type}{fn:FuncId}{A:α->L' SV}{O:α->dD}{E:δ->L' V}{M:α->δ->dD}{b:(α->Lk δ)->α->Lk δ}(k:S.E.keep fn=true)(o:S.E.own fn=false)(q:(S.prm fn).isNone=true)
 (h:∀r,xP S c fn A O E M r->∀z B,b r z=some B->∃m',c fn (A z) (O z)=some ((E B).map .v,m')/\∀D,lp m' ((O z).map (·.1)) D=some (pH D (M z B))):∀n,xP S c fn A O E M (g_ b n)
 |0=>⟨k,o,q,λ_ _ h=>by cases h⟩|n+1=>⟨k,o,q,h _ (xP.fix k o q h n)⟩
structure yj(S:Sys)(c:b9){α σ:Type}[bB α](cl:SV)(g:FuncId)(e:List SV)(os:σ->dD)(p:α->σ->Option (Bool×σ)):Prop where
 cs:∀vs,k_ (cl::vs)=some (g,vs++e)
 hd:∀(s:σ)(a:V),handed (os s) [.v a,cl]=some (os s)
 tk:∀s s',kr (os s') ((os s).map (·.1))=some (os s')
 wi:∀s s',((os s').all λx=>within ((os s).map (·.1)) x.2)=true
 put:∀s s',pH (os s) (os s')=os s'
 h:∀x s r,p x s=some r->∀(dst:Option Nat)(old:List SV->Bool)(st:St),st.m=os s->fu S c dst false true old g (.v (enc x)::e) st=some (.v (.bool r.1),{st with m:=os r.2})
section
variable{S:Sys}{c:b9}{α σ:Type}[bB α]{g:FuncId}
theorem yj.Xo{e:L' V}{p:α->Lk Bool}(F:lS S c g [] e (λz:α=>[enc z]) (λr:Bool=>[.bool r]) p true):yj S c (.v (.clo g [] e)) g (e.map .v) (λ_:Unit=>[]) (λx u=>(p x).map λb=>(b,u))where
 cs vs:=rfl
 hd s a:=N4 [a,.clo g [] e]
 tk _ _:=rfl
 wi _ _:=rfl
 put _ _:=rfl
 h x s r hr dst C st w:=by
  obtain⟨b,D,rfl⟩:=ζf.1 hr;have B:jK c g (enc x::e)=some [.bool b]:=F.f.h x [.bool b] (by rw[D];rfl);have e1:{st with m:=([]:dD)}=st:=by cases st;simp only at w;subst w;rfl
  rw[e1];unfold jK at B;obtain⟨⟨rs,m'⟩,d,G⟩:=ζg.1 B;have f:=F.f.k;unfold fu;have I:c8 st.m 8 (.v (enc x)::e.map .v)=some (enc x::e):=vA 8 (enc x::e);simp only[f,I,d,G,false_eq_true,if_false,Bool.true_or,if_true,result,scalar]
theorem yj.ZY{e:L' SV}{os:σ->dD}{p:α->σ->Lk (Bool×σ)}[Inhabited α][Inhabited σ](F:∀x s,nO S c (p x s))(G:∀x s,(F x s).n=g:=by intro _ _;kernel_rfl)(J:∀x s,(F x s).az=.v (enc x)::e:=by intro _ _;kernel_rfl)(D:∀x s,(F x s).os=os s:=by intro _ _;kernel_rfl)
 (U:∀x s,(F x s).E=λr=>[.bool r.1]:=by intro _ _;kernel_rfl)(d:∀x s,(F x s).M=λr=>os r.2:=by intro _ _;kernel_rfl)
 (hd:∀s:σ,kr (os s) (reach (os s) 32 (SV.sO e) [])=some (os s):=by intro _;kernel_rfl)
 (tk:∀s B,kr (os B) ((os s).map (·.1))=some (os B):=by intro _ _;kernel_rfl)(wi:∀s B,((os B).all λx=>within ((os s).map (·.1)) x.2)=true:=by intro _ _;kernel_rfl)(put:∀s B,pH (os s) (os B)=os B:=by intro _ _;kernel_rfl):yj S c (.clo g [] e) g e os p where
 cs vs:=rfl
 hd s a:=by
  have:SV.sO [.v a,.clo g [] e]=SV.sO e:=by simp[SV.sO,SV.CG]
  unfold handed;rw[this];exact hd s
 tk:=tk
 wi:=wi
 put:=put
 h x s r hr dst I st u:=by
  obtain⟨m',k1,k2⟩:=(F x s).h r hr;have b:=(F x s).k;have w:=(F x s).o;have z:S.prm (F x s).n=none:=by have:=(F x s).q;cases L:S.prm (F x s).n with|none=>rfl|some _=>rw[L]at this;cases this
  rw[G]at b w z k1;rw[J,D,U]at k1;rw[D,d]at k2;have C:handed st.m (.v (enc x)::e)=some (os s):=by rw[u];exact hd s
  have k2:=k2 (os s);rw[put]at k2;rw[<-u]at k2;unfold fu;rw[u]at C k2⊢;simp only[b,w,z,C,k1,k2,nq,map_cons,map_nil,dy,map_some,if_true,Bool.false_and,false_eq_true,if_false,result]
end
def DR{α σ:Type}(s0:Sl α)(p:α->σ->Lk (Bool×σ))(q:Int×σ):Lk (Fw (Int×σ) σ (Int×σ)):=bg (decide (q.1<len s0)) ((idx s0 q.1).bind λx=>(p x q.2).bind λy=>bg y.1 (some (.r (q.1,y.2))) (some (.n (wrap .i64 (q.1+1),y.2)))) (some (.x q.2))
noncomputable def RY{α σ:Type}(s0:Sl α)(p:α->σ->Lk (Bool×σ))(x:σ):Lk (Int×σ):=(bT (DR s0 p) (0,x)).bind (Fw.elim (λe=>some (-1,e)) λe=>some e)
noncomputable def zK{α σ:Type}(s0:Sl α)(p:α->σ->Lk (Bool×σ))(x:σ):Lk (Bool×σ):=(RY s0 p x).bind λy=>some (decide (y.1>=0),y.2)
section
variable{S:Sys}{c:b9}{α σ β γ:Type}[bB α]{g:FuncId}{Q:Out×St->Lk β}{e:γ->Lk β}{cf:Cf}
theorem P9(n:Nat){a:SV}{ex:L' SV}{os:σ->dD}{p:α->σ->Lk (Bool×σ)}(F:yj S c a g ex os p)(x:α)(s:σ){f:Bool×σ->Lk γ}(h:∀r,p x s=some r->Le ((f r).bind e) (b8 S c Q (nx S c n cf λq=>cT {q.st with m:=os r.2} q.d (.v (.bool r.1)))))
 (B:(fT S c n cf).map (λq=>(q.k,bW S.N q.st.g q.az,q.dr,q.st.m))=some (.c,some [a,.v (enc x)],false,os s):=by kernel_rfl):Le (((p x s).bind f).bind e) (b8 S c Q cf):=by
 obtain⟨q,w,b⟩:=eP B;simp only[ζc]at b;obtain⟨d,z,C,D⟩:=b;refine qV w ?_ h;rw[d,C,wE _ _ _ _ _ _ _ g ([.v (enc x)]++ex) z (F.cs [.v (enc x)])];intro y u;obtain⟨r,i,u⟩:=ζg.1 u;cases u;have:=F.h x s r i q.d (fZ q.st.m q.fr) q.st D;rw[show(!false||q.now)=true from rfl,List.singleton_append,this];rfl
theorem JO{a:SV}{ex:L' SV}{os:σ->dD}{p:α->σ->Lk (Bool×σ)}(F:yj S c a g ex os p){rs:L' RV}{st:St}{s B:σ}{ys:L' V}(b:kU st rs=some (ys.map .v))(D:st.m=os B):FO rs ((os s).map (·.1)) (.ret,st)=some (ys,os B):=by show((kU st rs).bind λl=>(dy l).bind λys=>(kr st.m ((os s).map (·.1))).map λos=>(ys,os))=_;rw[b,D,F.tk s B];simp only[ζb,nq,map_some]
theorem Ig(n:Nat){b:SV}{ex:L' SV}{os:σ->dD}{p:α->σ->Lk (Bool×σ)}(F:yj S c b g ex os p){rs:L' RV}{s B:σ}{r:γ}{e:γ->Lk (L' V×dD)}(ys:L' V)(D:e r=some (ys,os B))
 (G:(iA S c n cf.1 cf.2.1 cf.2.2).map (λq=>(q.1,kU q.2.2 rs,q.2.2.m))=some (.rt,some (ys.map .v),os B):=by kernel_rfl):Le ((some r).bind e) (b8 S c (FO rs ((os s).map (·.1))) cf):=by
 obtain⟨⟨fo,fs,st'⟩,u,a⟩:=eP G;simp only[ζc]at a;obtain⟨rfl,w,z⟩:=a;refine BU u (Le.of_eq ?_);show rn S c _ Fo.rt fs st'=e r;rw[D];exact JO F w z
theorem L6(n:Nat){δ:Type}{m:Lk δ}(F:nO S c m)(D:handed F.os F.az=some F.os)(hp:∀x,pH F.os (F.M x)=F.M x){f:δ->Lk γ}(h:∀x,m=some x->Le ((f x).bind e) (b8 S c Q (nx S c n cf λp=>cT {p.st with m:=F.M x} p.d (.v (result (F.E x))))))
 (G:(fT S c n cf).map (λp=>(p.k,(bW S.N p.st.g p.az).bind k_,p.dr,p.st.m))=some (.c,some (F.n,F.az),false,F.os):=by kernel_rfl):Le ((m.bind f).bind e) (b8 S c Q cf):=by
 obtain⟨p,u,a⟩:=eP G;simp only[ζc]at a;obtain⟨C,I,J,B⟩:=a;obtain⟨w,g3,g4⟩:=ζg.1 I;refine qV u ?_ h;rw[C,J,wE _ _ _ _ _ _ w F.n F.az g3 g4];intro y z;obtain⟨r,b,z⟩:=ζg.1 z;cases z;obtain⟨m',k1,k2⟩:=F.h r b;have u:S.prm F.n=none:=by have:=F.q;cases L:S.prm F.n with|none=>rfl|some _=>rw[L]at this;cases this
 have k2:=k2 p.st.m;rw[B,hp]at k2;have:fu S c p.d false (!false||p.now) (fZ p.st.m p.fr) F.n F.az p.st=some (.v (result (F.E r)),{p.st with m:=F.M r}):=by unfold fu;rw[B];simp only[F.k,F.o,u,D,k1,k2,nq,if_true,Bool.not_false,Bool.true_or,Bool.false_and,false_eq_true,if_false]
 rw[this];rfl
end
section
variable{S:Sys}{c:b9}{β γ δ α:Type}[bB δ]{Q:Out×St->Lk β}{e:γ->Lk β}{cf:Cf}
theorem T0(n u:Nat){fn:FuncId}{A:α->L' V}{p:α->Lk (Sl δ)}(F:BQ S c fn A p)(z:α){f:Sl δ->Lk γ}
 (h:∀x,(p z).bind Sl.whole=some x->Le ((f x).bind e) (b8 S c Q (nx S c n cf λq=>{q.st with g:=bN q.st.g u (.own u),m:=bN q.st.m u (cF x)})))
 (U:(fT S c n cf).map (λq=>(q.d,q.k,((bW S.N q.st.g q.az).bind k_).bind λr=>(nC (iN q.st.m 8) r.2).map λvs=>(r.1,vs),(!q.dr||q.now),q.st.new u))=some (some u,.c,some (fn,A z),true,true):=by kernel_rfl):Le ((((p z).bind Sl.whole).bind f).bind e) (b8 S c Q cf):=by
 obtain⟨q,T,b⟩:=eP U;simp only[ζc]at b;obtain⟨W,X,Y,Z,O⟩:=b;obtain⟨⟨B,args⟩,D,g3⟩:=ζg.1 Y;obtain⟨G,g1,g2⟩:=ζg.1 D;obtain⟨vs,g4,g5⟩:=ζf.1 g3;simp only[ζc]at g5;obtain⟨rfl,rfl⟩:=g5;refine qV T ?_ h;rw[W,X];intro y I;obtain⟨d,J,I⟩:=ζg.1 I;cases I;obtain⟨s,i,C⟩:=ζg.1 J;obtain⟨e0,m',j,k⟩:=F.h z s i;rw[wE q.dr _ _ _ _ _ G B args g1 g2];have L:c8 q.st.m 8 args=some (A z):=by rw[(wW q.st.m 8).2];exact g4
 have w:fu S c (some u) q.dr (!q.dr||q.now) (fZ q.st.m q.fr) B args q.st=some (.own u,{q.st with m:=bN q.st.m u (cF d)}):=by
  unfold fu;simp only[F.k,F.o,if_true,Z,L,j,dy,k,cF,O]
  cases s with
  |nil=>cases C;rfl|emp=>cases C;rfl|row l=>
   cases C;have:mw (rows l)=true:=by unfold mw;rw[all_eq_true];intro x o;obtain⟨a,_,rfl⟩:=mem_map.1 o;exact F.sc a
   simp only[Sl.k,Sl.l,dy,cV,this,Bool.and_self,O,if_true];rfl
  |part l=>cases C
 rw[w];rfl
theorem XB{α:Type}[bB α](n:Nat)(l:L' α)(q:vL)(svs:L' SV){m:Lk β}(h:Le m (b8 S c Q (nx S c n cf λp=>cT p.st p.d (cv (Sl.row l:Sl α)))))
 (B:(fT S c n cf).map (λp=>(p.k,bW S.N p.st.g p.az))=some (.p q,some svs):=by kernel_rfl)(D:isSlice q=false:=by rfl)(hp:∀m,jJ S.N m q svs=some (cv (Sl.row l:Sl α)):=by intro m;kernel_rfl):Le m (b8 S c Q cf):=by
 obtain⟨p,u,a⟩:=eP B;simp only[ζc]at a;refine vW u ?_ h;rw[a.1];exact BV a.2 D (hp _)
end
def Qw:Out×St->Lk (L' (L' V))
 |(.exit _,_)=>none|(_,st)=>some st.want
noncomputable def yl(B:L' (L' V))(more:Bool)(xs:L' V):Lk (Bool×L' (L' V)):=match B with
 |w::r=>open Classical in if w=xs then some (more|| !r.isEmpty,r)else none|[]=>none
section
variable{S:Sys}{c:b9}{β γ:Type}{Q:Out×St->Lk β}{e:γ->Lk β}{cf:Cf}
theorem Byl(n:Nat){B:L' (L' V)}{more:Bool}(xs:L' V){f:Bool×L' (L' V)->Lk γ}
 (h:∀r,yl B more xs=some r->Le ((f r).bind e) (b8 S c Q (nx S c n cf λq=>cT {q.st with want:=r.2} q.d (.v (.bool r.1)))))
 (D:(fT S c n cf).map (λq=>(q.k,bW S.N q.st.g q.az,q.st.want,q.st.more,q.dr))=some (.c,some (.yl ((fT S c n cf).elim 0 λq=>q.st.yid)::xs.map .v),B,more,false):=by kernel_rfl):Le (((yl B more xs).bind f).bind e) (b8 S c Q cf):=by
 obtain⟨q,C,b⟩:=eP D;simp only[ζc]at b;obtain⟨d,u,G,I,J⟩:=b;rw[C]at u;refine qV C ?_ h;intro y z;obtain⟨r,a,z⟩:=ζg.1 z;cases z;unfold yl at a;split at a
 .rename_i w O;split at a
  next L=>cases a;rw[d,J];unfold fM;have u:bW S.N q.st.g q.az=some (.yl q.st.yid::xs.map .v):=u;simp only[wanted,gp,u,nq,G,L,I,if_true,and_self,false_eq_true,if_false]
  cases a
 cases a
theorem SH{S G:Sys}{c:b9}(Y:G.E=S.E)(e:∀f q,S.prm f=some q->ot S.E f q)(i:jw S c)(j:∀f a b xs,S.items f a b=some xs->eD S f a b xs){f:FuncId}{fi:FI}{nm:FuncId->Lk Nat}{rf:RF}(U:S.E.ft f=some fi)(l:∀g s,nm g=some s->S.N s=g)(m:yd S.E nm fi rf){a b:L' V}{xs:L' (L' V)}(D:a.length+1+b.length<=rf.na)(W:rf.rs=[])
 (h:∀B more,vU B xs more->∀yid,b8 S c Qw (.rc rf.body,[],⟨vZ 0 (a.map .v++.yl yid::b.map .v),[],[],B,more,yid⟩)=some []):eD G f a b xs:=by
 have k:eD S f a b xs:=LO e i j U l m D W (λB more w yid=>by
  have d:=h B more w yid;change kY S c Qw rf.body [] _=some []at d;rw[p8]at d;obtain⟨⟨o,st'⟩,z,u⟩:=ζg.1 d;refine⟨o,st',z,?_,?_,rfl⟩
  .rintro id rfl;simp[Qw]at u
  cases o<;>simp[Qw]at u<;>exact u)
 obtain⟨Q,T,n,yo,prm⟩:=G;simp only at Y;subst Y;intro B more w yid J y Z C I H d z u L O;exact k B more w yid J ⟨y.xu,y.yield⟩ Z C I H d z u L O
end
section
variable{S:Sys}{c:b9}{β γ α:Type}[bB α]{Q:Out×St->Lk β}{e:γ->Lk β}{cf:Cf}
theorem Il(n u:Nat){s:Sl α}{i:Nat}{a:α}{f:Sl α->Lk γ}(h:∀B,s.put i a=some B->Le ((f B).bind e) (b8 S c Q (nx S c n cf λp=>cT {p.st with m:=bN p.st.m u (cF B)} p.d (.v .undef))))
 (D:(fT S c n cf).map (λp=>(p.k,bW S.N p.st.g p.az,bh p.st.m u,(!p.dr||p.now)))=some (.l (.store (bB.size α)),some [.el u i 0,cv a],some (cF s),true):=by kernel_rfl):Le (((s.put i a).bind f).bind e) (b8 S c Q cf):=by
 obtain⟨p,w,b⟩:=eP D;simp only[ζc]at b;refine qV w ?_ h;rw[b.1];exact Le.of_eq (LR b.2.1 b.2.2.2 b.2.2.1 (lQ a) rfl)
end
theorem Uu{n:Int}(a:0<=n)(h:n<=4611686018427387904):wrap .i64 n=n:=by simp[wrap,IntKind.bits,signed];omega
namespace catX
instance{n:Nat}:OfNat Arg n:=⟨.s n⟩
def ln:K:=.p .lenSl
def ix:K:=.p (.idxS 1)
def bI(o:BinOp):K:=.p (.bin (some .int) none o)
def ld:K:=.r (.load 1 false)
def g1:L' RO:=[o1 4 (.k (.bM)) []]
def g2:L' RO:=[o1 5 1 [],o2 6 (bI .lss) [5,.k (.int .i64 0)] []]
def g3:L' RO:=[o2 7 (.p (.bad)) [] [],⟨none,none,false,.p .bad,[],[],[]⟩]
def g4:L' RO:=[o1 8 1 [],o1 9 0 [],o2 10 (.p (.capSl)) [9] [],o1 11 0 [],o2 12 ln [11] [],o2 13 (bI .sub) [10,12] [],o2 14 (bI .sub) [8,13] [],o1 1 14 []]
def g5:L' RO:=[o1 15 1 [],o2 16 (bI .gtr) [15,.k (.int .i64 0)] []]
def g6:L' RO:=[o1 17 0 [],o1 18 0 [],o2 19 (.p (.capSl)) [18] [],o2 20 (.p (.slice 1 false true)) [17,19] [],o1 21 1 [],o2 22 (.l (.appMk 1 24 [.bM])) [20,21] [],o1 23 0 [],o2 24 ln [23] [],o2 25 (.p (.slice 1 false true)) [22,24] [],o1 0 25 []]
def g7:L' RO:=[o1 26 0 [],o1 4 26 []]
def grow:RC:=.seq (.ops g1) (.seq (.seq (.ops g2) (.cond (.s 6) (.ops g3) (.skip))) (.seq (.seq (.ops g4) (.seq (.ops g5) (.cond (.s 16) (.ops g6) (.skip)))) (.seq (.ops g7) (.ret))))
section
variable{E:Env}{N:Nat->FuncId}{t:Nat}
theorem VB(Y:t<=2147483648):∃F',Ex E N grow [.bM,.int .i64 t] [] .ret F' (if t=0 then[]else[.row 1 (replicate t [.bM])])/\get F' 4=if t=0 then .bM else .hsl 0 1 0 0:=by
 have e1:∀call,cG E N call none g1 [.bM,.int .i64 t] []=some (set [.bM,.int .i64 t] 4 .bM,[]):=λcall=>vp (v:=.bM) rfl (by simp[bH,bt,bl]) d_;have k0:get (set [V.bM,.int .i64 t] 4 .bM) 0=.bM:=rfl;have k1:get (set [V.bM,.int .i64 t] 4 .bM) 1=.int .i64 t:=rfl;generalize set [V.bM,.int .i64 t] 4 .bM=I at *;have S:wrap .i64 ((t:Int)-0)=t:=by rw[Int.sub_zero];exact Uu Zaa Zaa
 have D:wrap .i64 ((0:Int)-0)=0:=by decide
 have e2:∃F1,(∀call,cG E N call none g2 I []=some (F1,[]))/\get F1 6=.bool false/\get F1 0=.bM/\get F1 1=.int .i64 t:=by refine⟨_,λcall=>vp (v:=.int .i64 t) rfl ?_<|vp (v:=.bool false) rfl ?_ d_,?_,?_,?_⟩;simp[bH,bt,bl,k1];simp[bH,bt,bl,br,bI,h_,oR];all_goals simp[br,k0,k1]
 obtain⟨F1,a1,a2,a3,a4⟩:=e2;have e4:∃w,(∀call,cG E N call none g4 F1 []=some (w,[]))/\get w 0=.bM/\get w 1=.int .i64 t:=by refine⟨_,λcall=>vp (v:=.int .i64 t) rfl ?_<|vp (v:=.bM) rfl ?_<|vp (v:=.int .i64 0) rfl ?_<|vp (v:=.bM) rfl ?_<|vp (v:=.int .i64 0) rfl ?_<|vp (v:=.int .i64 0) rfl ?_<|vp (v:=.int .i64 t) rfl ?_<|vp (v:=.int .i64 t) rfl ?_ d_,?_,?_⟩;simp[bH,bt,bl,a4];simp[bH,bt,bl,br,a3];simp[bH,bt,bl,br,Ja];simp[bH,bt,bl,br,a3];simp[bH,bt,bl,br,ln,o8];simp only[bH,map_cons,map_nil,bt,br,bu,reduceEqDiff,if_true,if_false,bl,bI,h_,D];rfl;simp only[bH,map_cons,map_nil,bt,br,bu,reduceEqDiff,if_true,if_false,bl,bI,h_,S];rfl;simp[bH,bt,bl,br];all_goals simp[br,a3]
 obtain⟨w,J,T,L⟩:=e4;have e5:∃u,(∀call,cG E N call none g5 w []=some (u,[]))/\get u 16=.bool (decide (t>0))/\get u 0=.bM/\get u 1=.int .i64 t:=by refine⟨_,λcall=>vp (v:=.int .i64 t) rfl ?_<|vp (v:=.bool (decide (t>0))) rfl ?_ d_,?_,?_,?_⟩;simp[bH,bt,bl,L];simp[bH,bt,bl,br,bI,h_,oR];all_goals simp[br,T,L]
 obtain⟨u,O,Q,B,U⟩:=e5;have d:Ex E N (.seq (.ops g2) (.cond (.s 6) (.ops g3) (.skip))) I [] .norm F1 []:=Ex.seq (Ex.dg a1) (Ex.qi a2 Ex.skip);have e7:∀(F:Frame)(H:bn),∃F',(∀call,cG E N call none g7 F H=some (F',H))/\get F' 4=get F 0:=λF H=>⟨_,λcall=>vp (v:=get F 0) rfl (by simp[bH,bt,bl])<|vp (v:=get F 0) rfl (by simp[bH,bt,bl,br]) d_,by simp[br]⟩
 by_cases a:t=0;subst a;obtain⟨G,b,c⟩:=e7 u [];refine⟨G,?_,by rw[c,B];rfl⟩;exact Ex.seq (Ex.dg e1) (Ex.seq d (Ex.seq (Ex.seq (Ex.dg J) (Ex.seq (Ex.dg O) (Ex.qi Q Ex.skip))) (Ex.seq (Ex.dg b) Ex.ret)));have z:0<t:=Zaa;have e6:∃C,(∀call,cG E N call none g6 u []=some (C,[.row 1 (replicate t [.bM])]))/\get C 0=.hsl 0 1 0 0:=by refine⟨_,λcall=>vp (v:=.bM) rfl ?_<|vp (v:=.bM) rfl ?_<|vp (v:=.int .i64 0) rfl ?_<|vp (v:=.bM) rfl ?_<|vp (v:=.int .i64 t) rfl ?_<|kf (v:=.hsl 0 1 0 t) (H1:=[.row 1 (replicate t [.bM])]) rfl ?_<|vp (v:=.bM) rfl ?_<|vp (v:=.int .i64 0) rfl ?_<|vp (v:=.hsl 0 1 0 0) rfl ?_<|vp (v:=.hsl 0 1 0 0) rfl ?_ d_,?_⟩;simp[bH,bt,bl,B];simp[bH,bt,bl,br,B];simp[bH,bt,bl,br,Ja];simp[bH,bt,bl,br,mz,iG,dX];simp[bH,bt,bl,br,U];simp only[bH,map_cons,map_nil,bt,br,bu,reduceEqDiff,if_true,if_false,fE,mkApp];rw[if_neg Zaa,if_pos ⟨Zaa,Zaa,Zaa,Zaa⟩];simp;simp[bH,bt,bl,br,B];simp[bH,bt,bl,br,ln,o8];simp[bH,bt,bl,br,mz,iG,dX];simp[bH,bt,bl,br];simp[br]
 obtain⟨C,W,X⟩:=e6;obtain⟨G,b,c⟩:=e7 C [.row 1 (replicate t [.bM])];rw[if_neg a,if_neg a];refine⟨G,?_,by rw[c,X]⟩;exact Ex.seq (Ex.dg e1) (Ex.seq d (Ex.seq (Ex.seq (Ex.dg J) (Ex.seq (Ex.dg O) (Ex.nR (by show get u 16=_;rw[Q,decide_eq_true z]) (Ex.dg W)))) (Ex.seq (Ex.dg b) Ex.ret)))
end
end catX
def Bx{α:Type}(s:Sl (Sl α)):Sl α:=if(s.l.flatMap Sl.l).length=0 then .nil else .row (s.l.flatMap Sl.l)
namespace catX
def r1:L' RO:=[o1 2 (.k (.bM)) []]
def r2:L' RO:=[o1 3 (.k (.int .i64 0)) []]
def r3:L' RO:=[o1 9 0 [],o2 10 ln [9] [],o1 11 (.k (.int .i64 0)) []]
def r4:L' RO:=[o2 12 (bI .lss) [11,10] []]
def r5:L' RO:=[o2 13 ix [9,11] [],o2 14 ld [13] [],o1 5 14 []]
def r6:L' RO:=[o1 15 3 [],o1 16 5 [],o2 17 ln [16] [],o2 18 (bI .add) [15,17] [],o1 3 18 []]
def r7:L' RO:=[o1 19 3 [],o2 20 (bI .lss) [19,.k (.int .i64 0)] []]
def r8:L' RO:=[o2 21 (.p (.bad)) [] [],⟨none,none,false,.p .bad,[],[],[]⟩]
def r9:L' RO:=[o2 22 (bI .add) [11,.k (.int .i64 1)] [],o1 11 22 []]
def L9:RC:=.seq (.ops r4) (.seq (.cond (.s 12) (.skip) (.exit 0)) (.seq (.block 1 (.seq (.ops r5) (.seq (.ops r6) (.seq (.ops r7) (.cond (.s 20) (.ops r8) (.skip)))))) (.ops r9)))
def ES(gid:Nat):L' RO:=[o1 23 3 [],o2 24 .c [.f gid,.k (.bM),23] [],o1 6 24 []]
def Hz:L' RO:=[o1 25 0 [],o2 26 ln [25] [],o1 27 (.k (.int .i64 0)) []]
def GG:L' RO:=[o2 28 (bI .lss) [27,26] []]
def Hx:L' RO:=[o2 29 ix [25,27] [],o2 30 ld [29] [],o1 8 30 []]
def D6:L' RO:=[o1 31 6 [],o1 32 8 [],o2 33 (.l (.append 1)) [31,32] [],o1 6 33 []]
def Gx:L' RO:=[o2 34 (bI .add) [27,.k (.int .i64 1)] [],o1 27 34 []]
def L15:RC:=.seq (.ops GG) (.seq (.cond (.s 28) (.skip) (.exit 2)) (.seq (.block 3 (.seq (.ops Hx) (.ops D6))) (.ops Gx)))
def r16:L' RO:=[o1 35 6 [],o1 2 35 []]
def cat(gid:Nat):RC:=.seq (.ops r1) (.seq (.ops r2) (.seq (.seq (.ops r3) (.block 0 (.loop L9))) (.seq (.ops (ES gid)) (.seq (.seq (.ops Hz) (.block 2 (.loop L15))) (.seq (.ops r16) (.ret))))))
section
variable{E:Env}{N:Nat->FuncId}{F:Frame}{H:bn}{α:Type}[bB α]{s:Sl (Sl α)}{i:Nat}
theorem el{u:Sl α}(h:s.l[i]?=some u):mH 1 (bX s) (i:Int)=some (.fptr [bX u]):=by have:=Fz (N:=λn=>n) s .i64 (i:Int) 1 rfl;simp only[bl]at this;rw[this,show idx s (i:Int)=some u from by unfold idx;rw[if_pos Zaa];exact h];rfl
theorem ZO(s:Sl α):o8 (bX s)=some (.int .i64 s.l.length):=by have:=Ar (N:=λn=>n) s;simpa only[bl]using this
theorem y3:(get F 0=bX s->∃F',(∀call,cG E N call none r3 F H=some (F',H))/\get F' 9=bX s/\get F' 10=.int .i64 s.l.length/\get F' 11=.int .i64 0/\∀j,j<9->get F' j=get F j)/\
 (get F 0=bX s->∃F',(∀call,cG E N call none Hz F H=some (F',H))/\get F' 25=bX s/\get F' 26=.int .i64 s.l.length/\get F' 27=.int .i64 0/\∀j,j<9->get F' j=get F j):=by
 have h:=ZO s;refine⟨λa=>⟨_,λcall=>vp (v:=bX s) rfl ?_<|vp (v:=.int .i64 s.l.length) rfl ?_<|vp (v:=.int .i64 0) rfl ?_ d_,?_,?_,?_,?_⟩,λa=>⟨_,λcall=>vp (v:=bX s) rfl ?_<|vp (v:=.int .i64 s.l.length) rfl ?_<|vp (v:=.int .i64 0) rfl ?_ d_,?_,?_,?_,?_⟩⟩<;>
 first
 |(simp[bH,bt,bl,a];done)|(simp only[bH,map_cons,map_nil,bt,br,bu,reduceEqDiff,if_true,if_false,bl,ln,h];rfl)|(simp[bH,bt,bl,br];done)|(simp[br];done)|(intro j u;simp only[br,bu];repeat (rw[if_neg Zaa]))
theorem y4{n:Nat}:(get F 11=.int .i64 i->get F 10=.int .i64 n->∃F',(∀call,cG E N call none r4 F H=some (F',H))/\get F' 12=.bool (decide (i<n))/\∀j,j<12->get F' j=get F j)/\
 (get F 27=.int .i64 i->get F 26=.int .i64 n->∃F',(∀call,cG E N call none GG F H=some (F',H))/\get F' 28=.bool (decide (i<n))/\∀j,j<28->get F' j=get F j):=by
 refine⟨λf u=>⟨_,λcall=>vp (v:=.bool (decide (i<n))) rfl ?_ d_,?_,?_⟩,λf u=>⟨_,λcall=>vp (v:=.bool (decide (i<n))) rfl ?_ d_,?_,?_⟩⟩<;>
 first
 |(simp[bH,bt,bl,br,bI,h_,oR,f,u];done)|(simp[br];done)|(intro j w;simp only[br,bu];repeat (rw[if_neg Zaa]))
theorem y5{u:Sl α}(h:s.l[i]?=some u):(get F 9=bX s->get F 11=.int .i64 i->∃F',(∀call,cG E N call none r5 F H=some (F',H))/\get F' 5=bX u/\∀j,j<12->j≠5->get F' j=get F j)/\
 (get F 25=bX s->get F 27=.int .i64 i->∃F',(∀call,cG E N call none Hx F H=some (F',H))/\get F' 8=bX u/\∀j,j<28->j≠8->get F' j=get F j):=by
 have e:=el h;have e2:eZ H (.load 1 false) [.fptr [bX u]]=some (bX u):=by simp[eZ,ey,cut,mk]
 refine⟨λf w=>⟨_,λcall=>vp (v:=.fptr [bX u]) rfl ?_<|vp (v:=bX u) rfl ?_<|vp (v:=bX u) rfl ?_ d_,?_,?_⟩,λf w=>⟨_,λcall=>vp (v:=.fptr [bX u]) rfl ?_<|vp (v:=bX u) rfl ?_<|vp (v:=bX u) rfl ?_ d_,?_,?_⟩⟩<;>
 first
 |(simp only[bH,map_cons,map_nil,bt,br,bu,reduceEqDiff,if_true,if_false,bl,ix,f,w,e,map_some];done)|(simp only[bH,map_cons,map_nil,bt,br,bu,reduceEqDiff,if_true,if_false,ld];rw[e2];rfl)|(simp[bH,bt,bl,br];done)|(simp[br];done)|(intro j B z;simp only[br,bu];rw[if_neg (Ne.symm z)];repeat (rw[if_neg Zaa]))
theorem y6{u:Sl α}{t:Nat}(a:get F 3=.int .i64 t)(b:get F 5=bX u)(B:t+u.l.length<=2147483648):∃F',(∀call,cG E N call none r6 F H=some (F',H))/\get F' 3=.int .i64 ((t+u.l.length:Nat):Int)/\∀j,j<12->j≠3->get F' j=get F j:=by
 have h:=ZO u;have w:wrap .i64 ((t:Int)+(u.l.length:Int))=((t+u.l.length:Nat):Int):=by rw[Uu Zaa Zaa];simp
 refine⟨_,λcall=>vp (v:=.int .i64 t) rfl ?_<|vp (v:=bX u) rfl ?_<|vp (v:=.int .i64 u.l.length) rfl ?_<|vp (v:=.int .i64 ((t+u.l.length:Nat):Int)) rfl ?_<|vp (v:=.int .i64 ((t+u.l.length:Nat):Int)) rfl ?_ d_,?_,?_⟩;simp[bH,bt,bl,a];simp[bH,bt,bl,br,b];simp only[bH,map_cons,map_nil,bt,br,bu,reduceEqDiff,if_true,if_false,bl,ln,h];rfl;simp only[bH,map_cons,map_nil,bt,br,bu,reduceEqDiff,if_true,if_false,bl,bI,h_,w];rfl;simp[bH,bt,bl,br];simp[br];intro j C z;simp only[br,bu];rw[if_neg (Ne.symm z)];repeat (rw[if_neg Zaa])
theorem y7{t:Nat}(a:get F 3=.int .i64 t):∃F',(∀call,cG E N call none r7 F H=some (F',H))/\get F' 20=.bool false/\∀j,j<12->get F' j=get F j:=by refine⟨_,λcall=>vp (v:=.int .i64 t) rfl ?_<|vp (v:=.bool false) rfl ?_ d_,?_,?_⟩;simp[bH,bt,bl,a];simp[bH,bt,bl,br,bI,h_,oR];simp[br];intro j u;simp only[br,bu];repeat (rw[if_neg Zaa])
theorem y9(hi:i<=2147483648):(get F 11=.int .i64 i->∃F',(∀call,cG E N call none r9 F H=some (F',H))/\get F' 11=.int .i64 ((i+1:Nat):Int)/\∀j,j<11->get F' j=get F j)/\
 (get F 27=.int .i64 i->∃F',(∀call,cG E N call none Gx F H=some (F',H))/\get F' 27=.int .i64 ((i+1:Nat):Int)/\∀j,j<27->get F' j=get F j):=by
 have u:=zd hi;refine⟨λf=>⟨_,λcall=>vp (v:=.int .i64 ((i+1:Nat):Int)) rfl ?_<|vp (v:=.int .i64 ((i+1:Nat):Int)) rfl ?_ d_,?_,?_⟩,λf=>⟨_,λcall=>vp (v:=.int .i64 ((i+1:Nat):Int)) rfl ?_<|vp (v:=.int .i64 ((i+1:Nat):Int)) rfl ?_ d_,?_,?_⟩⟩<;>
 first
 |(simp only[bH,map_cons,map_nil,bt,br,bu,reduceEqDiff,if_true,if_false,bl,bI,h_,f,u];rfl)|(simp[bH,bt,bl,br];done)|(simp[br];done)|(intro j w;simp only[br,bu];repeat (rw[if_neg Zaa]))
structure Acc(H:bn)(w:V)(acc:List (List V)):Prop where
 el:dM H 1 w=some acc
 gr:∃H1,iy H w=some H1/\H1.length=H.length
 sh:w=.bM/\acc=[]\/∃id xs,w=.hsl id 1 0 acc.length/\H[id]?=some (.row 1 xs)/\(acc≠[]->xs=acc)
theorem V2(H:bn)(u:Sl α)(a:bB.size α=1):dM H 1 (bX u)=some (rows u.l):=by cases u<;>simp[bX,Sl.k,Sl.l,o6,dM,rows,a]
theorem y14{w:V}{b:L' (L' V)}{u:Sl α}(f:bB.size α=1)(a:Acc H w b)(f6:get F 6=w)(G:get F 8=bX u)(J:b.length+u.l.length<=2147483648):
 ∃F' H' w',(∀call,cG E N call none D6 F H=some (F',H'))/\get F' 6=w'/\Acc H' w' (b++rows u.l)/\(u.l=[]->w'=w)/\∀j,j<28->j≠6->get F' j=get F j:=by
 have d:=V2 H u f;have C:(rows u.l).length=u.l.length:=by simp[rows]
 have key:∃H' w',fE H (.append 1) [w,bX u]=some (w',H')/\Acc H' w' (b++rows u.l)/\(u.l=[]->w'=w):=by
  obtain⟨H1,g1,g2⟩:=a.gr;cases c:rows u.l with|nil=>exact⟨H,w,by simp only[fE,a.el,d,c],by simpa using a,λ_=>rfl⟩|cons y B=>
   have D:b.length+(y::B).length<=2147483648:=by rw[<-c,C];exact J
   refine⟨H1++[.row 1 (b++y::B)],.hsl H.length 1 0 (b.length+(y::B).length),by simp only[fE,a.el,d,c];rw[if_pos D,g1];rfl,?_⟩;have z:(H1++[Ob.row 1 (b++y::B)])[H.length]?=some (.row 1 (b++y::B)):=by rw[<-g2];simp
   refine⟨⟨?_,⟨_,by simp only[iy,z];rfl,Zab⟩,.inr ⟨H.length,b++y::B,Zab,z,λ_=>rfl⟩⟩,λe=>by rw[e]at c;cases c⟩;simp only[dM,z,ζb,Ob.rows,if_true,zero_add,drop_zero];rw[if_pos Zab,take_of_length_le Zab]
 obtain⟨H',w',k1,k2,k3⟩:=key;refine⟨_,H',w',λcall=>vp (v:=w) rfl ?_<|vp (v:=bX u) rfl ?_<|kf (v:=w') (H1:=H') rfl ?_<|vp (v:=w') rfl ?_ d_,?_,k2,k3,?_⟩
 .simp[bH,bt,bl,f6]
 .simp[bH,bt,bl,br,G]
 .simp only[bH,map_cons,map_nil,bt,br,bu,reduceEqDiff,if_true,if_false];exact k1
 .simp[bH,bt,bl,br]
 .simp[br]
 intro j L I;simp only[br,bu];rw[if_neg (Ne.symm I)]
 repeat (rw[if_neg Zaa])
def upto(s:Sl (Sl α))(i:Nat):L' α:=(s.l.take i).flatMap Sl.l
theorem HI{u:Sl α}(h:s.l[i]?=some u):upto s (i+1)=upto s i++u.l:=by unfold upto;obtain⟨hi,rfl⟩:=ζe.1 h;rw[List.take_succ_eq_append_getElem hi,List.flatMap_append];simp
theorem LN(s:Sl (Sl α))(i:Nat):(upto s i).length<=(s.l.flatMap Sl.l).length:=by
 have:s.l.flatMap Sl.l=upto s i++(s.l.drop i).flatMap Sl.l:=by unfold upto;rw[<-List.flatMap_append,List.take_append_drop]
 rw[this];simp
theorem lp1(k:s.l.length<=2147483648)(l:(s.l.flatMap Sl.l).length<=2147483648):∀(d i:Nat)(F:Frame),i+d=s.l.length->get F 9=bX s->get F 10=.int .i64 s.l.length->get F 11=.int .i64 i->get F 3=.int .i64 (upto s i).length->
 ∃F',mQ E N L9 F H (.exit 0) F' H/\get F' 3=.int .i64 (s.l.flatMap Sl.l).length/\get F' 0=get F 0:=by
 intro d
 induction d with
 |zero=>
  intro i F hi B a w c;obtain⟨F1,a1,a2,a3⟩:=(y4 (E:=E) (N:=N) (H:=H) (n:=s.l.length)).1 w a;refine⟨F1,mQ.stop (Ex.seq (Ex.dg a1) (Ex.uK (Ex.qi (by show get F1 12=_;rw[a2,decide_eq_false Zaa]) Ex.exit) Zab)) Zab,?_,a3 0 Zaa⟩
  rw[a3 3 Zaa,c]
  have:upto s i=s.l.flatMap Sl.l:=by unfold upto;rw[take_of_length_le Zaa]
  rw[this]
 |succ d L=>
  intro i F hi B a w c;obtain⟨F1,a1,a2,a3⟩:=(y4 (E:=E) (N:=N) (H:=H) (n:=s.l.length)).1 w a;have e:s.l[i]?=some s.l[i]:=ζd Zaa
  obtain⟨O,Q,S,D⟩:=(y5 (E:=E) (N:=N) (F:=F1) (H:=H) e).1 (by rw[a3 9 Zaa];exact B) (by rw[a3 11 Zaa];exact w)
  have C:=LN s (i+1);have G:=HI e;rw[G,ζi]at C;obtain⟨T,U,I,W⟩:=y6 (E:=E) (N:=N) (F:=O) (H:=H) (u:=s.l[i]) (t:=(upto s i).length) (by rw[D 3 Zaa Zaa,a3 3 Zaa];exact c) S Zaa
  obtain⟨J,g,h,f⟩:=y7 (E:=E) (N:=N) (F:=T) (H:=H) I;have z:∀j,j<12->j≠3->j≠5->get J j=get F j:=λj b X Y=>by rw[f j b,W j b X,D j b Y,a3 j b]
  obtain⟨Z,e1,e2,e3⟩:=(y9 (E:=E) (N:=N) (F:=J) (H:=H) (i:=i) Zaa).1 (by rw[z 11 Zaa Zaa Zaa];exact w)
  obtain⟨F',g1,g2,g3⟩:=L (i+1) Z Zaa (by rw[e3 9 Zaa,z 9 Zaa Zaa Zaa];exact B) (by rw[e3 10 Zaa,z 10 Zaa Zaa Zaa];exact a) e2 (by rw[e3 3 Zaa,f 3 Zaa,I,G,ζi])
  exact⟨F',mQ.step (Ex.seq (Ex.dg a1) (Ex.seq (Ex.nR (by show get F1 12=_;rw[a2,decide_eq_true Zaa]) Ex.skip) (Ex.seq (Ex.block (Ex.seq (Ex.dg Q) (Ex.seq (Ex.dg U) (Ex.seq (Ex.dg g) (Ex.qi h Ex.skip))))) (Ex.dg e1)))) g1,g2,by rw[g3,e3 0 Zaa,z 0 Zaa Zaa Zaa]⟩
theorem lp2(b:bB.size α=1)(m:s.l.length<=2147483648)(o:(s.l.flatMap Sl.l).length<=2147483648):∀(d i:Nat)(F:Frame)(H:bn)(w:V),i+d=s.l.length->get F 25=bX s->get F 26=.int .i64 s.l.length->get F 27=.int .i64 i->get F 6=w->Acc H w (rows (upto s i))->
 ∃F' H' w',mQ E N L15 F H (.exit 2) F' H'/\get F' 6=w'/\Acc H' w' (rows (s.l.flatMap Sl.l))/\((s.l.flatMap Sl.l).length=0->w'=w):=by
 intro d
 induction d with
 |zero=>
  intro i F H w hi C B z f6 a;obtain⟨F1,a1,a2,a3⟩:=(y4 (E:=E) (N:=N) (H:=H) (n:=s.l.length)).2 z B;have:upto s i=s.l.flatMap Sl.l:=by unfold upto;rw[take_of_length_le Zaa]
  rw[this]at a;exact⟨F1,H,w,mQ.stop (Ex.seq (Ex.dg a1) (Ex.uK (Ex.qi (by show get F1 28=_;rw[a2,decide_eq_false Zaa]) Ex.exit) Zab)) Zab,by rw[a3 6 Zaa];exact f6,a,λ_=>rfl⟩
 |succ d Q=>
  intro i F H w hi C B z f6 a;obtain⟨F1,a1,a2,a3⟩:=(y4 (E:=E) (N:=N) (H:=H) (n:=s.l.length)).2 z B;have c:s.l[i]?=some s.l[i]:=ζd Zaa
  obtain⟨S,T,U,I⟩:=(y5 (E:=E) (N:=N) (F:=F1) (H:=H) c).2 (by rw[a3 25 Zaa];exact C) (by rw[a3 27 Zaa];exact z)
  have D:=LN s (i+1);have J:=HI c;rw[J,ζi]at D;obtain⟨L,H',w',W,X,O,Y,Z⟩:=y14 (E:=E) (N:=N) (F:=S) (H:=H) (u:=s.l[i]) b a (by rw[I 6 Zaa Zaa,a3 6 Zaa];exact f6) U (by simp only[gP];omega)
  have G:∀j,j<28->j≠6->j≠8->get L j=get F j:=λj b f g=>by rw[Z j b f,I j b g,a3 j b]
  obtain⟨h,e1,e2,e3⟩:=(y9 (E:=E) (N:=N) (F:=L) (H:=H') (i:=i) Zaa).2 (by rw[G 27 Zaa Zaa Zaa];exact z)
  have k:rows (upto s i)++rows s.l[i].l=rows (upto s (i+1)):=by rw[J];simp[rows]
  rw[k]at O;obtain⟨F',H2,l,g1,g2,g3,g4⟩:=Q (i+1) h H' w' Zaa (by rw[e3 25 Zaa,G 25 Zaa Zaa Zaa];exact C) (by rw[e3 26 Zaa,G 26 Zaa Zaa Zaa];exact B) e2 (by rw[e3 6 Zaa];exact X) O
  exact⟨F',H2,l,mQ.step (Ex.seq (Ex.dg a1) (Ex.seq (Ex.nR (by show get F1 28=_;rw[a2,decide_eq_true Zaa]) Ex.skip) (Ex.seq (Ex.block (Ex.seq (Ex.dg T) (Ex.dg W))) (Ex.dg e1)))) g1,g2,g3,λe=>(g4 e).trans (Y (List.eq_nil_of_length_eq_zero Zaa))⟩
end
end catX
theorem Wc{E:Env}{f gf:FuncId}{nm:FuncId->Lk Nat}{N:Nat->FuncId}{gid:Nat}(K:∀f s,nm f=some s->N s=f)(hg:N gid=gf)(aa:E.keep gf=true)(U:E.own gf=true)
 (hf:∃fi,E.ft f=some fi/\bS ⟨E,nm,fi.ntmps⟩ false fi.body=some (catX.cat gid)/\2<=fi.ntmps/\fi.results=[.tmp 2])
 (ab:∃fi,E.ft gf=some fi/\bS ⟨E,nm,fi.ntmps⟩ false fi.body=some catX.grow/\2<=fi.ntmps/\fi.results=[.tmp 4])
 {α:Type}[bB α](M:bB.size α=1)(s:Sl (Sl α))(P:s.l.length<=2147483648)(ht:(s.l.flatMap Sl.l).length<=2147483648):Bo E f [bX s] (bX (Bx s)):=by
 obtain⟨fi,p1,p2,p3,p4⟩:=hf;obtain⟨gi,q1,q2,q3,q4⟩:=ab;generalize Z:(s.l.flatMap Sl.l).length=T at *;obtain⟨Fg,ad,ae⟩:=catX.VB (E:=E) (N:=N) ht;obtain⟨R,L⟩:=Ex.run K q1 q2 (args:=[.bM,.int .i64 T]) (by simpa using q3) ad (vs:=[if T=0 then .bM else .hsl 0 1 0 0]) (by rw[q4];simp[iR,ae])
 have O:∀l,borrows l [] [.bM,.int .i64 (T:Int)]=some [.bM,.int .i64 (T:Int)]:=λl=>by unfold borrows;simp only[iU,kR l [] (x:=V.bM) rfl,kR l [] (x:=V.int .i64 T) rfl]
 have C:∃w D,(∀k,R<=k->fq E (run E k) gf [.bM,.int .i64 T] []=some (w,D))/\catX.Acc D w []/\(T=0->w=.bM):=by by_cases d:T=0;refine⟨.bM,[],λk g=>?_,⟨rfl,⟨[],rfl,rfl⟩,.inl ⟨rfl,rfl⟩⟩,λ_=>rfl⟩;have:=(oN E g).go _ _ _ _ L;rw[if_pos d,if_pos d]at this;unfold fq lu;rw[if_pos U];simp[O,this,result,scalar];refine⟨.hsl 0 1 0 0,[.row 1 (replicate T [.bM])],λk g=>?_,⟨by simp[dM,Ob.rows],⟨_,rfl,Zab⟩,.inr ⟨0,_,rfl,rfl,λh=>absurd rfl h⟩⟩,λh=>absurd h d⟩;have:=(oN E g).go _ _ _ _ L;rw[if_neg d,if_neg d]at this;unfold fq lu;rw[if_pos U];simp only[O,if_true,this,result,scalar,false_eq_true,if_false,sq,List.getElem?_cons_zero,true_and];rw[if_pos (by simp[List.all_replicate,scalar])];simp
 obtain⟨w,D,af,ah,Q⟩:=C;have S:T≠0->rows (s.l.flatMap Sl.l)≠[]:=λh e=>h (by rw[<-Z,<-gP,e];rfl)
 have z:∀c∈rows (s.l.flatMap Sl.l),V.cE c=true:=λc p=>by obtain⟨x,_,rfl⟩:=mem_map.1 p;exact bB.good x
 have g1:∀call,cG E N call none catX.r1 [bX s] []=some (set [bX s] 2 .bM,[]):=λcall=>vp (v:=.bM) rfl (by simp[bH,bt,bl]) d_
 have k0:get (set [bX s] 2 .bM) 0=bX s:=rfl;generalize set [bX s] 2 .bM=F0 at *;have g2:∀call,cG E N call none catX.r2 F0 []=some (set F0 3 (.int .i64 0),[]):=λcall=>vp (v:=.int .i64 0) rfl (by simp[bH,bt,bl]) d_
 obtain⟨F2,a1,a2,a3,a4,a5⟩:=(catX.y3 (E:=E) (N:=N) (F:=set F0 3 (.int .i64 0)) (H:=[]) (s:=s)).1 (by rw[iF _ _ Zaa];exact k0)
 obtain⟨F3,b1,b2,b3⟩:=catX.lp1 (E:=E) (N:=N) (H:=[]) P Zaa s.l.length 0 F2 Zaa a2 a3 a4 (by rw[a5 3 Zaa,ug];rfl)
 rw[Z]at b2;have ai:get F3 0=bX s:=by rw[b3,a5 0 Zaa,iF _ _ Zaa];exact k0
 have q:∃W,(∃n,∀k,n<=k->cG E N (run E k) none (catX.ES gid) F3 []=some (W,D))/\get W 6=w/\get W 0=bX s:=by refine⟨_,⟨R,λk g=>vp (v:=.int .i64 T) rfl ?_<|kf (v:=w) (H1:=D) rfl ?_<|vp (v:=w) rfl ?_ d_⟩,?_,?_⟩;simp[bH,bt,bl,b2];simp only[bH,map_cons,map_nil,bt,br,bu,reduceEqDiff,if_true,if_false,hg,aa,nil_append,append_nil];exact af k g;simp[bH,bt,bl,br];simp[br];simp only[br,bu,reduceEqDiff,if_false];exact ai
 obtain⟨W,q,c2,c3⟩:=q;obtain⟨F5,d1,d2,d3,d4,d5⟩:=(catX.y3 (E:=E) (N:=N) (F:=W) (H:=D) (s:=s)).2 c3;obtain⟨F6,X,J,e1,e2,e3,e4⟩:=catX.lp2 (E:=E) (N:=N) M P Zaa s.l.length 0 F5 D w Zaa d2 d3 d4 (by rw[d5 6 Zaa];exact c2) ah
 have r:∃t,(∀call,cG E N call none catX.r16 F6 X=some (t,X))/\get t 2=J:=⟨_,λcall=>vp (v:=J) rfl (by simp[bH,bt,bl,e2])<|vp (v:=J) rfl (by simp[bH,bt,bl,br]) d_,by simp[br]⟩
 obtain⟨t,r,f2⟩:=r;obtain⟨n,aj⟩:=Ex.run K p1 p2 (args:=[bX s]) (by simp;omega) (Ex.seq (Ex.dg g1) (Ex.seq (Ex.dg g2) (Ex.seq (Ex.seq (Ex.dg a1) (Ex.vR (Ex.loop b1))) (Ex.seq (Ex.ops q) (Ex.seq (Ex.seq (Ex.dg d1) (Ex.vR (Ex.loop e1))) (Ex.seq (Ex.dg r) Ex.ret)))))) (vs:=[J]) (by rw[p4];simp[iR,f2])
 refine⟨n,J,X,λid=>∃m,J=.hsl id 1 0 m,aj,?_,?_,?_⟩
 .rcases e3.sh with⟨h,G⟩|⟨id,xs,h,G,A⟩
  .have:T=0:=by rw[<-Z,<-gP,G];rfl
   rw[h];unfold Bx;rw[if_pos Zaa]
   exact .same _ rfl
  by_cases d:T=0
  .have:=e4 Zaa
   rw[Q d]at this;rw[this]at h;cases h
  have y:=A (S d);subst y;unfold Bx;rw[if_neg Zaa,h]
  show FR X _ (.fsl (bB.size α) (rows (s.l.flatMap Sl.l))) _;rw[M];exact .fsl 1 _ id 0 _ ⟨_,rfl⟩ (by unfold bq;rw[G];rfl) Zaa (λi a b Y I=>by rw[zero_add]at I;rw[Y]at I;cases I;rfl) (λi j a b u v Y I o hv=>by
   rw[zero_add]at I;rw[Y]at I;cases I;rw[o]at hv;cases hv;exact .same _ (iz.1 (z a (mem_of_getElem? Y)) j u o))
 .rintro id ⟨m,h⟩;rcases e3.sh with⟨B,_⟩|⟨ak,xs,B,G,_⟩
  .rw[B]at h;cases h
  rw[B]at h;cases h;unfold bq;rw[G];rfl
 refine⟨λid es ys hz hr c p u o=>?_⟩
 obtain⟨m,h⟩:=hz;rcases e3.sh with⟨B,_⟩|⟨ak,xs,B,G,A⟩
 .rw[B]at h;cases h
 rw[B]at h;cases h
 by_cases d:T=0
 .have:=e4 Zaa
  rw[Q d]at this;rw[this]at B;cases B
 have y:=A (S d);subst y;unfold bq at hr;rw[G]at hr;cases hr;obtain⟨j,hj⟩:=getElem?_of_mem o;exact⟨u,.same _ (iz.1 (z c p) j u hj)⟩
def zX(op:Bool)(x y:Int):Int:=cond op x y
@[simp] theorem Zo(x y:Int):zX true x y=x:=rfl
@[simp] theorem ZD(x y:Int):zX false x y=y:=rfl
namespace setX
instance{n:Nat}:OfNat Arg n:=⟨.s n⟩
def fa(k:Nat):K:=.p (.fieldAddr k)
def ld:K:=.r (.load 1 false)
def r1:L' RO:=[o2 4 (.a .box) [1] [],o2 5 (.a .box) [2] []]
def r2:L' RO:=[o1 6 0 [],o2 7 (fa 0) [4] [],o2 8 ld [7] [],o2 9 (fa 1) [4] [],o2 10 ld [9] [],o2 11 (.p (.idxS 1)) [6,8] [],⟨none,none,false,.l (.store 1),[11,10],[],[]⟩]
def r3:L' RO:=[o1 6 0 [],o2 7 (fa 0) [5] [],o2 8 ld [7] [],o2 9 (fa 1) [5] [],o2 10 ld [9] [],o2 11 (.p (.bin (some .int) none .sub)) [10,.k (.int .i64 1)] [],o2 12 (.p (.idxS 1)) [6,8] [],⟨none,none,false,.l (.store 1),[12,11],[],[]⟩]
def code(op:Bool):RC:=.seq (.ops r1) (.ops (if op then r3 else r2))
section
variable{E:Env}{N:Nat->FuncId}{H:bn}{id off L:Nat}{rs:L' (L' V)}
theorem Us{h:Nat}{x y:V}{i:Nat}{v:V}(B:H[h]?=some (.row 2 [[x,y]]))(a:[x,y][i]?=some v):eZ H (.load 1 false) [.hptr h 0 i]=some v:=by match i,a with|0,a=>cases a;simp[eZ,ey,B,Ob.rows,cut,mk]|1,a=>cases a;simp[eZ,ey,B,Ob.rows,cut,mk]|i+2,a=>simp at a
theorem whole(op:Bool){a b c d:Int}(G:H[id]?=some (.row 1 rs))(hp:0<=(zX op c a))(B:(zX op c a).toNat<L){z:V}(D:rs[off+(zX op c a).toNat]?=some [z]):
 ∃F' X,Ex E N (code op) [.hsl id 1 off L,.agg [.int .i64 a,.int .i64 b],.agg [.int .i64 c,.int .i64 d]] H .norm F' ((H++X).set id (.row 1 (rs.set (off+(zX op c a).toNat) [.int .i64 (zX op (wrap .i64 (d-1)) b)]))):=by
 let X:bn:=[.row 2 [[.int .i64 a,.int .i64 b]],.row 2 [[.int .i64 c,.int .i64 d]]]
 have I:=(ζe.1 G).1;have e1:∃F1,(∀call,cG E N call none r1 [.hsl id 1 off L,.agg [.int .i64 a,.int .i64 b],.agg [.int .i64 c,.int .i64 d]] H=some (F1,H++X))/\get F1 0=.hsl id 1 off L/\get F1 4=.hptr H.length 0 0/\get F1 5=.hptr (H.length+1) 0 0:=by refine⟨_,λcall=>kf (v:=.hptr H.length 0 0) (H1:=H++[.row 2 [[.int .i64 a,.int .i64 b]]]) rfl ?_<|kf (v:=.hptr (H.length+1) 0 0) (H1:=H++X) rfl ?_ d_,?_,?_,?_⟩;simp[bH,bt,get,iM,V.cells,V.one,Mk.val];simp[bH,bt,get,br,set,iM,V.cells,V.one,Mk.val,X];simp[br];rfl;simp[br];simp[br]
 obtain⟨F1,p1,p2,p3,p4⟩:=e1;have e:(H++X)[id]?=some (.row 1 rs):=by rw[getElem?_append_left I];exact G
 have J:(H++X)[H.length]?=some (.row 2 [[.int .i64 a,.int .i64 b]]):=by simp[X]
 have O:(H++X)[H.length+1]?=some (.row 2 [[.int .i64 c,.int .i64 d]]):=by rw[getElem?_append_right Zaa];simp[X]
 obtain⟨H1,Q⟩:∃H1,H1=H++X:=⟨_,rfl⟩;rw[<-Q]at e J O;rw[<-Q]at p1
 suffices W:∃F',Ex E N (code op) [.hsl id 1 off L,.agg [.int .i64 a,.int .i64 b],.agg [.int .i64 c,.int .i64 d]] H .norm F' (H1.set id (.row 1 (rs.set (off+(zX op c a).toNat) [.int .i64 (zX op (wrap .i64 (d-1)) b)])))by obtain⟨F',Y⟩:=W;exact⟨F',X,by rw[<-Q];exact Y⟩
 have w:∀p:Int,0<=p->p.toNat<L->mH 1 (.hsl id 1 off L) p=some (.hptr id (off+p.toNat) 0):=λp g Z=>by unfold mH;rw[if_neg Zaa];simp[Z]
 have C:∀(q:Nat)(z v:V),rs[q]?=some [z]->v.one=true->fE H1 (.store 1) [.hptr id q 0,v]=some (.undef,H1.set id (.row 1 (rs.set q [v]))):=λq z v D f=>by simp[fE,e,D,GH f,f]
 cases op with
 |false=>
  simp only[ZD]at hp B D⊢;have S:=Us (i:=0) J rfl;have T:=Us (i:=1) J rfl;have e2:∃u,(∀call,cG E N call none r2 F1 H1=some (u,H1.set id (.row 1 (rs.set (off+a.toNat) [.int .i64 b])))):=by refine⟨_,λcall=>vp (v:=.hsl id 1 off L) rfl ?_<|vp (v:=.hptr H.length 0 0) rfl ?_<|vp (v:=.int .i64 a) rfl ?_<|vp (v:=.hptr H.length 0 1) rfl ?_<|vp (v:=.int .i64 b) rfl ?_<|vp (v:=.hptr id (off+a.toNat) 0) rfl ?_<|kf (v:=.undef) rfl ?_ d_⟩;simp[bH,bt,bl,p2];simp[bH,bt,bl,br,fa,iD,p3];simp only[bH,map_cons,map_nil,bt,br,bu,reduceEqDiff,if_true,if_false,ld,S,map_some];simp[bH,bt,bl,br,fa,iD,p3];simp only[bH,map_cons,map_nil,bt,br,bu,reduceEqDiff,if_true,if_false,ld,T,map_some];simp only[bH,map_cons,map_nil,bt,br,bu,reduceEqDiff,if_true,if_false,bl,w a hp B,map_some];simp only[bH,map_cons,map_nil,bt,br,bu,reduceEqDiff,if_true,if_false];exact C _ z _ D rfl
  obtain⟨u,U⟩:=e2;exact⟨u,Ex.seq (Ex.dg p1) (Ex.dg (l:=_) U)⟩
 |true=>
  simp only[Zo]at hp B D⊢;have S:=Us (i:=0) O rfl;have T:=Us (i:=1) O rfl;have e2:∃u,(∀call,cG E N call none r3 F1 H1=some (u,H1.set id (.row 1 (rs.set (off+c.toNat) [.int .i64 (wrap .i64 (d-1))])))):=by refine⟨_,λcall=>vp (v:=.hsl id 1 off L) rfl ?_<|vp (v:=.hptr (H.length+1) 0 0) rfl ?_<|vp (v:=.int .i64 c) rfl ?_<|vp (v:=.hptr (H.length+1) 0 1) rfl ?_<|vp (v:=.int .i64 d) rfl ?_<|vp (v:=.int .i64 (wrap .i64 (d-1))) rfl ?_<|vp (v:=.hptr id (off+c.toNat) 0) rfl ?_<|kf (v:=.undef) rfl ?_ d_⟩;simp[bH,bt,bl,p2];simp[bH,bt,bl,br,fa,iD,p4];simp only[bH,map_cons,map_nil,bt,br,bu,reduceEqDiff,if_true,if_false,ld,S,map_some];simp[bH,bt,bl,br,fa,iD,p4];simp only[bH,map_cons,map_nil,bt,br,bu,reduceEqDiff,if_true,if_false,ld,T,map_some];simp[bH,bt,bl,br,h_];simp only[bH,map_cons,map_nil,bt,br,bu,reduceEqDiff,if_true,if_false,bl,w c hp B,map_some];simp only[bH,map_cons,map_nil,bt,br,bu,reduceEqDiff,if_true,if_false];exact C _ z _ D rfl
  obtain⟨u,U⟩:=e2;exact⟨u,Ex.seq (Ex.dg p1) (Ex.dg (l:=_) U)⟩
end
end setX
section
variable{S:Sys}{c:b9}{β γ δ α:Type}[bB δ]{Q:Out×St->Lk β}{e:γ->Lk β}{cf:Cf}
end
def snap(w:World):cA:=λb=>match w.heap[b]?with
 |some (.cells c _ _)=>some (.cells c)|some (.map es _)=>some (.map es)|_=>none
theorem RM{w:World}(a:vi (snap w)):c_ (snap w) (λ_=>none) [] w where
 dom _ _:=rfl
 imm b x h:=by
  unfold snap at h;split at h;next c el fr u=>cases h;exact⟨el,fr,u⟩
  next es d u=>cases h;exact⟨d,u⟩
  cases h
 obs id ob h:=by simp at h
 inj id z ob B p C h:=by simp at h
 gl:=a
def fD(I:cA)(xs:L' V)(vs:L' Value):Prop:=xs.length=vs.length/\∀(j:Nat)a b,xs[j]?=some a->vs[j]?=some b->eN I a b
theorem fD.nil{I:cA}:fD I [] []:=⟨rfl,Zab⟩
theorem fD.one{I:cA}{x:V}{v:Value}(h:eN I x v):fD I [x] [v]:=⟨rfl,λj a b c u=>by
 cases j with
 |zero=>simp at c u;subst c u;exact h|succ j=>simp at c⟩
theorem fD.append{I:cA}{xs ys:L' V}{B vs:L' Value}(h:fD I xs B)(k:fD I ys vs):fD I (xs++ys) (B++vs):=by refine⟨by simp[h.1,k.1],λj a b c u=>?_⟩;by_cases w:j<xs.length;rw[getElem?_append_left w]at c;rw[getElem?_append_left (by rw[<-h.1];exact w)]at u;exact h.2 j a b c u;rw[getElem?_append_right Zaa]at c;rw[getElem?_append_right (by rw[<-h.1];omega),<-h.1]at u;exact k.2 _ a b c u
theorem Dt{α β:Type}{f:α->Lk β}:∀{l:L' α}{r:L' β},l.mapM f=some r->r.length=l.length/\∀(i:Nat)a b,l[i]?=some a->r[i]?=some b->f a=some b
 |[],r,h=>by simp only[List.mapM_nil,pure_def,ζa]at h;subst h;simp|x::l,r,h=>by simp only[List.mapM_cons,Option.bind_eq_bind,pure_def,ζg,ζa]at h;obtain⟨y,D,ys,B,rfl⟩:=h;obtain⟨c,z⟩:=Dt B;refine⟨by simp[c],λi a b u w=>?_⟩;cases i with|zero=>simp at u w;subst u w;exact D|succ i=>exact z i a b (by simpa using u) (by simpa using w)
structure uj{H:Type}(b:DataW H->Nat):Prop where
 lit:∀l,1<=b (.lit l)
 str:∀s,s.length+1<=b (.lit (.string s))
 nil:1<=b .nil
 slice:∀es sp,(es.map b).sum+1<=b (.slice es sp)
 agg:∀ps,(ps.map b).sum+1<=b (.agg ps)
class cr(α:Type)where
 wt:α->Nat
 ok:α->Prop
instance:cr Int where
 wt _:=1
 ok n:=-9223372036854775808<=n/\n<=9223372036854775807
instance:cr Bool where
 wt _:=1
 ok _:=True
instance:cr ByteArray where
 wt s:=s.size+1
 ok s:=s.size<=maxLen
instance{α:Type}[cr α]:cr (Sl α)where
 wt s:=(s.l.map cr.wt).sum+1
 ok s:=(∀x∈s.l,cr.ok x)/\s≠.emp
class Reads(P:Program)(t:TypeId)(α:Type)[bB α][cr α]:Prop where
 size:P.cellsOf t=bB.size α
 rd:∀{H:Type}{enc:TypeId×Value->H}{w:World}{base:Nat}{spare:Nat->Bool}{held:Bool}{fuel:Nat}{cs:List Value}{d:DataW H}{ps:List MemPlace},
  trod enc P w base spare held fuel t cs=some (d,ps)->∃a:α,fD (snap w) (cells a) cs/\cr.ok a/\∀b:DataW H->Nat,uj b->cr.wt a<=b d
 shape:∀{w:World}{r:_root_.Go.Reach}{base:Nat}{v:Value},okWide P w r base t v->if bB.agg α then∃cs,v=.agg cs else v.cells=#[v]
section
variable{P:Program}
theorem rW{w:World}{r:_root_.Go.Reach}{base:Nat}{t:TypeId}{v:Value}{u:_}(a:P.underlying t=some u)(b:∀fs,u≠.struct fs)(B:∀n e,u≠.array n e)(h:okWide P w r base t v):v.cells=#[v]:=by
 cases v with
 |agg cs=>
  exfalso;unfold okWide at h;rw[a]at h;split at h;next fs z=>cases z;exact b _ rfl
  next n e z=>cases z;exact B _ _ rfl
  unfold Cell.okWide at h;rw[a]at h;split at h<;>first|(simp at *;done)|skip
  unfold Cell.ok at h;rw[a]at h;cases u<;>simp at h
 |_=>rfl
theorem Reads.int{t:TypeId}(a:P.underlying t=some (.int .i64))(c:P.cellsOf t=1):Reads P t Int where
 size:=c
 rd {H enc w base spare held z cs d ps} h:=by
  cases z with|zero=>simp[trod]at h|succ z=>
   simp only[trod,a]at h;split at h<;>first|(simp at h;done)|skip
   next u=>cases u
   rename_i k D n u;simp only[ζa,TypeDesc.int.injEq]at u;split at h;next e=>obtain⟨rfl,B⟩:=e;subst u;cases h;exact⟨n,fD.one (.int _ n),show _/\_ by simpa[Lit.wf,IntKind.min,IntKind.max,signed,IntKind.bits]using B,λb C=>C.lit _⟩
   simp at h;all_goals (rename_i u;cases u)
 shape h:=by simp only[show bB.agg Int=false from rfl];exact rW a Zab Zab h
theorem Reads.bool{t:TypeId}(a:P.underlying t=some .bool)(c:P.cellsOf t=1):Reads P t Bool where
 size:=c
 rd {H enc w base spare held u cs d ps} h:=by
  cases u with|zero=>simp[trod]at h|succ u=>
   simp only[trod,a]at h;split at h<;>first|(simp at h;done)|skip
   next b _=>cases h;exact⟨b,fD.one (.bool b),trivial,λb B=>B.lit _⟩
   all_goals (rename_i z;cases z)
 shape h:=by simp only[show bB.agg Bool=false from rfl];exact rW a Zab Zab h
theorem Reads.str{t:TypeId}(a:P.underlying t=some .string)(c:P.cellsOf t=1):Reads P t ByteArray where
 size:=c
 rd {H enc w base spare held u cs d ps} h:=by
  cases u with|zero=>simp[trod]at h|succ u=>
   simp only[trod,a]at h;split at h<;>first|(simp at h;done)|skip
   all_goals (first|(rename_i z;cases z;done)|skip)
   rename_i s _;split at h;next B=>cases h;exact⟨s,fD.one (.str s),B,λb C=>C.str _⟩
   simp at h
 shape h:=by simp only[show bB.agg ByteArray=false from rfl];exact rW a Zab Zab h
theorem Sx{w:World}{a:Addr}{n:Nat}{v:Value}(h:w.cell? (a.add n)=some v)(B:n=0\/True):∃c el fr,w.heap[a.block]?=some (.cells c el fr)/\c[a.off+n]?=some v/\(n=0->a.spot=none):=by
 unfold cell? Addr.add at h;by_cases b:n=0;subst b;simp only[if_true]at h;split at h;rename_i c el fr u;split at h;simp at h;rename_i z;exact⟨c,el,fr,u,h,λ_=>by simpa using z⟩;simp at h;simp only[if_neg b]at h;split at h;next c el fr u=>simp only[Option.isSome_none,false_eq_true,if_false]at h;exact⟨c,el,fr,u,h,λe=>absurd e b⟩
 simp at h
def sZ(P:Program)(t:TypeId)(α:Type)[bB α][cr α](B:Nat):Prop:=∀{H:Type}{enc:TypeId×Value->H}{w:World}{base:Nat}{c:Nat->Bool}{e:Bool}{cs:L' Value}{d:DataW H}{ps:L' MemPlace},trod enc P w base c e B t cs=some (d,ps)->∃a:α,fD (snap w) (cells a) cs/\cr.ok a/\∀b:DataW H->Nat,uj b->cr.wt a<=b d
theorem sZ.sl{t e:TypeId}{α:Type}[bB α][cr α]{J:Nat}(R:P.underlying t=some (.slice e))(V:P.cellsOf e=bB.size α)(U:0<bB.size α)(p:sZ P e α J):sZ P t (Sl α) (J+1):=by
 intro H enc w base A K cs d ps h;simp only[trod,R]at h;split at h<;>first|(simp at h;done)|skip
 all_goals (first|(rename_i I;cases I;done)|skip)
 cases h;exact⟨.nil,fD.one .bM,⟨λx T=>by simp[Sl.l]at T,Zab⟩,λb W=>W.nil⟩;rename_i e' a len E I;cases I;split at h
 .rename_i X;obtain⟨f,af,h⟩:=ζg.1 h;obtain⟨rest,_,h⟩:=ζf.1 h;cases h;obtain⟨Y,Z⟩:=Dt af;simp only[length_range]at Y;have T:∀i,i<len->∃x:α,∃u:L' Value,w.cells? base (a.add (i*P.cellsOf e)) (P.cellsOf e)=some u/\fD (snap w) (cells x) u/\cr.ok x/\∀b:DataW H->Nat,uj b->∀y,f[i]?=some y->cr.wt x<=b y.1:=λi hi=>by have:=Z i i (f[i]' Zaa) (by simp[hi]) (ζd Zaa);obtain⟨u,l,L⟩:=ζg.1 this;obtain⟨x,T,F,W⟩:=p (show _=some ((f[i]' Zaa).1,(f[i]' Zaa).2)from L);exact⟨x,u,l,T,F,λb O y g=>by rw[ζd Zaa]at g;cases g;exact W b O⟩
  have aa:∀n,n<=len->∃z:L' α,z.length=n/\(∀i x,z[i]?=some x->∃u:L' Value,w.cells? base (a.add (i*P.cellsOf e)) (P.cellsOf e)=some u/\fD (snap w) (cells x) u)/\(∀x∈z,cr.ok x)/\∀b:DataW H->Nat,uj b->(z.map cr.wt).sum<=(((f.take n).map (·.1)).map b).sum:=by
   intro n;induction n with|zero=>intro _;exact⟨[],rfl,Zab,Zab,Zab⟩|succ n ih=>
    intro hn;obtain⟨z,l,L,h5,h6⟩:=ih Zaa;obtain⟨x,u,h3,h4,h7,h8⟩:=T n Zaa;refine⟨z++[x],by simp[l],λi y g=>?_,λy g=>?_,λb O=>?_⟩;rotate_left;rcases mem_append.1 g with g|g;exact h5 y g;simp at g;subst g;exact h7;have k1:=h6 b O;have k2:=h8 b O _ (ζd Zaa);rw[List.take_succ,ζd (by omega:n<f.length)];simp only[List.map_append,List.sum_append,Option.toList_some,map_cons,map_nil,List.sum_cons,List.sum_nil];omega;by_cases hi:i<z.length;rw[getElem?_append_left hi]at g;exact L i y g;rw[getElem?_append_right Zaa]at g;have:i-z.length=0:=by cases F:i-z.length with|zero=>rfl|succ k=>rw[F]at g;simp at g
    rw[this]at g;simp at g;subst g;have:i=n:=Zaa;subst this;exact⟨u,h3,h4⟩
  obtain⟨z,C,ah,ab,ai⟩:=aa len (le_refl _);refine⟨.row z,fD.one ?_,⟨ab,Zab⟩,λb O=>?_⟩;rotate_left;have k:=ai b O;rw[take_of_length_le Zaa]at k;have k2:=O.slice (f.map (·.1)) (rest.map (·.1));show(z.map cr.wt).sum+1<=_;omega;show eN _ (.fsl (bB.size α) (rows z)) _;cases q:z with|nil=>subst q;simp at C;subst C;exact .fsl0 _ _ _|cons x0 xr=>
   rw[<-q];have ao:0<len:=by rw[<-C,q];simp
   have Q:∀i x,z[i]?=some x->∀j y,(cells x)[j]?=some y->∃v,w.cell? ((a.add (i*bB.size α)).add j)=some v/\eN (snap w) y v:=by
    intro i x hi j y g;obtain⟨u,l,L⟩:=ah i x hi;rw[V]at l;unfold World.cells? at l;split at l;obtain⟨g1,g2⟩:=Dt l;have M:j<bB.size α:=by rw[<-gA x];exact(ζe.1 g).1
    obtain⟨v,s⟩:∃v,u[j]?=some v:=⟨_,ζd (by rw[g1];simpa using M)⟩;exact⟨v,g2 j j v (by simp[M]) s,L.2 j y v g s⟩;simp at l
   have an:∀i j,(a.add (i*bB.size α)).add j=a.add (i*bB.size α+j)\/True:=λ_ _=>.inr trivial;have B:∀i x,z[i]?=some x->∀j y,(cells x)[j]?=some y->∃c el fr v,w.heap[a.block]?=some (.cells c el fr)/\c[a.off+i*bB.size α+j]?=some v/\eN (snap w) y v/\(i=0->j=0->a.spot=none):=by
    intro i x hi j y g;obtain⟨v,l,L⟩:=Q i x hi j y g;obtain⟨c,el,fr,g1,g2,g3⟩:=Sx l (.inr trivial);have W:(a.add (i*bB.size α)).block=a.block:=by unfold Addr.add;split<;>rfl
    have ho:(a.add (i*bB.size α)).off=a.off+i*bB.size α:=by unfold Addr.add;split<;>simp_all
    rw[W]at g1;rw[ho]at g2;refine⟨c,el,fr,v,g1,g2,L,?_⟩;rintro rfl rfl;have:=g3 rfl;simpa[Addr.add]using this
   have aj:∃y,(cells x0)[0]?=some y:=⟨_,ζd (by rw[gA];exact U)⟩;obtain⟨y0,ak⟩:=aj;obtain⟨c,el,fr,v0,D,_,_,G⟩:=B 0 x0 (by rw[q];rfl) 0 y0 ak;have G:=G rfl rfl;obtain⟨b,o,sp⟩:=a;simp only at G D;subst G;have hI:snap w b=some (.cells c):=by unfold snap;rw[D]
   have S:(rows z).length=len:=by rw[gP,C]
   rw[<-S];refine .fsl _ _ b o E c hI (by rw[S];exact X.2.1) (λr p=>?_) (λr p y g=>?_) ?_ (λi j r y v p g s=>?_);obtain⟨x,_,rfl⟩:=mem_map.1 p;exact gA x;obtain⟨x,_,rfl⟩:=mem_map.1 p;exact all_eq_true.1 (rj x) y g;obtain⟨N,ad⟩:∃x,z[len-1]?=some x:=⟨_,ζd Zaa⟩;obtain⟨yl,al⟩:∃y,(cells N)[bB.size α-1]?=some y:=⟨_,ζd (by rw[gA];omega)⟩;obtain⟨c2,_,_,v2,k1,k2,_,_⟩:=B (len-1) N ad (bB.size α-1) yl al;simp only at k1 k2;rw[D]at k1;cases k1;have:=(Array.getElem?_eq_some_iff.1 k2).1;rw[S];have e:len*bB.size α=(len-1)*bB.size α+bB.size α:=by obtain⟨m,rfl⟩:∃m,len=m+1:=⟨len-1,Zaa⟩;simp[Nat.add_mul]
   omega;simp only[rows,getElem?_map,ζf]at p;obtain⟨x,am,rfl⟩:=p;obtain⟨c2,_,_,v2,k1,k2,k3,_⟩:=B i x am j y g;simp only at k1 k2;rw[D]at k1;cases k1;rw[s]at k2;cases k2;exact k3
 simp at h
theorem sZ.Z8{t e:TypeId}{α:Type}[bB α][cr α]{B:Nat}(c:P.underlying t=some (.slice e))(G:P.cellsOf e=bB.size α)(D:0<bB.size α)(i:∀g,g<B->sZ P e α g):sZ P t (Sl α) B:=by cases B with|zero=>intro H enc w base a b cs d ps h;simp[trod]at h|succ f=>exact sZ.sl c G D (i f (Nat.lt_succ_self f))
theorem Reads.sl{t e:TypeId}{α:Type}[bB α][cr α][Reads P e α](a:P.underlying t=some (.slice e))(b:P.cellsOf t=1)(B:0<bB.size α):Reads P t (Sl α)where
 size:=b
 rd h:=sZ.Z8 a (Reads.size (α:=α)) B (λ_ _{_ _ _ _ _ _ _ _ _}=>Reads.rd (P:=P) (t:=e) (α:=α)) h
 shape h:=by simp only[show bB.agg (Sl α)=false from rfl];exact rW a Zab Zab h
theorem fD.seg{I:cA}{a xs:L' V}{cs:L' Value}{o n:Nat}(h:fD I a (cs.take o))(k:fD I xs ((cs.drop o).take n)):fD I (a++xs) (cs.take (o+n)):=by rw[List.take_add];exact h.append k
theorem fD.fin{I:cA}{xs:L' V}{cs:L' Value}{n:Nat}(h:fD I xs (cs.take n))(B:cs.length=n):fD I xs cs:=by rw[take_of_length_le Zaa]at h;exact h
theorem sZ.st{t:TypeId}{fs:Array Field}{α:Type}[bB α][cr α]{B:Nat}(i:P.underlying t=some (.struct fs))(j:P.cellsOf t=bB.size α)
 (h:∀{H:Type}{enc:TypeId×Value->H}{w:World}{base:Nat}{c:Nat->Bool}{e:Bool}{cs:L' Value}{l:L' (DataW H×L' MemPlace)},cs.length=bB.size α->
  (fs.toList.mapM λf=>trod enc P w base c e B f.type ((cs.drop f.offset).take (P.cellsOf f.type)))=some l->∃a:α,fD (snap w) (cells a) cs/\cr.ok a/\∀b:DataW H->Nat,uj b->cr.wt a<=((l.map (·.1)).map b).sum+1):sZ P t α (B+1):=by
 intro H enc w base c e cs d ps g;simp only[trod,i]at g;split at g<;>first|(simp at g;done)|skip
 all_goals (first|(rename_i u;cases u;done)|skip)
 rename_i C;obtain⟨l,k,D⟩:=ζf.1 g;cases D;obtain⟨a,k1,k2,k3⟩:=h (by rw[C,j]) k
 exact⟨a,k1,k2,λb z=>Nat.le_trans (k3 b z) (z.agg _)⟩
theorem Reads.of{t:TypeId}{fs:Array Field}{α:Type}[bB α][cr α](a:P.underlying t=some (.struct fs))(b:P.cellsOf t=bB.size α)(D:bB.agg α=true)(h:∀B,sZ P t α B):Reads P t α where
 size:=b
 rd hr:=h _ hr
 shape hv:=by rw[if_pos D];unfold okWide at hv;rw[a]at hv;obtain⟨cs,c,_⟩:=hv;exact⟨cs,c⟩
theorem Reads.st{t:TypeId}{fs:Array Field}{α:Type}[bB α][cr α](g:P.underlying t=some (.struct fs))(i:P.cellsOf t=bB.size α)(D:bB.agg α=true)
 (h:∀{H:Type}{enc:TypeId×Value->H}{w:World}{base:Nat}{c:Nat->Bool}{e:Bool}{B:Nat}{cs:L' Value}{l:L' (DataW H×L' MemPlace)},cs.length=bB.size α->
  (fs.toList.mapM λf=>trod enc P w base c e B f.type ((cs.drop f.offset).take (P.cellsOf f.type)))=some l->∃a:α,fD (snap w) (cells a) cs/\cr.ok a/\∀b:DataW H->Nat,uj b->cr.wt a<=((l.map (·.1)).map b).sum+1):Reads P t α:=
 Reads.of g i D λB=>by cases B with|zero=>intro H enc w base c e cs d ps h;simp[trod]at h|succ f=>exact sZ.st g i h
theorem Reads.arg{t:TypeId}{α:Type}[bB α][cr α][Reads P t α]{H:Type}{B:TypeId×Value->H}{w:World}{base:Nat}{c:Nat->Bool}{e:Bool}{r:_root_.Go.Reach}{b:Nat}{v:Value}{d:DataW H}{ps:L' MemPlace}
 (f:okWide P w r b t v)(h:Trod B P w base c e t v d ps):∃a:α,bK (snap w) (λ_=>none) (enc a) v/\cr.ok a/\∀b:DataW H->Nat,uj b->cr.wt a<=b d:=by
 obtain⟨I,h⟩:=h;obtain⟨a,⟨g,z⟩,D,G⟩:=Reads.rd (P:=P) (t:=t) (α:=α) h;have u:=Reads.shape (P:=P) (t:=t) (α:=α) f;refine⟨a,?_,D,G⟩
 cases C:bB.agg α with
 |true=>rw[C,if_pos rfl]at u;obtain⟨cs,rfl⟩:=u;rw[Cw C];refine .c _ _ (.agg _ _ (by simpa[Value.cells]using g) (λj x y J L=>z j x y J (by simpa[Value.cells]using L)))|false=>rw[C]at u;simp only[false_eq_true,if_false]at u;rw[u]at z;rw[vS C]at z;exact .c _ _ (z 0 _ _ rfl rfl)
end
end Go.VE
namespace Go.VE
variable[bY]
open Go.ChangeShapes Go.WideShapes Go.ChangeAt Go.RowKit
structure JN(w w':World):Prop where
 kept:w.keptBut w' (λ_=>False)
 fz:∀a:Addr,a.block<w.heap.size->w'.frozen? a=w.frozen? a
theorem HV{I I':cA}{μ':Mu}{H':bn}{w w':World}(s:Step I (λ_=>none) [] w I' μ' H' w'):JN w w':=by
 have B:∀b,b<w.heap.size->w'.heap[b]?=w.heap[b]?:=λb z=>s.frame b z (by rintro⟨id,p,ob,h,_⟩;simp at h);refine⟨⟨s.os,s.out.out,λi hi=>?_⟩,λa z=>?_⟩;rw[B i hi];split;next c u=>rw[c]at u;cases u;exact⟨rfl,rfl,rfl,λ_ _=>rfl⟩
 next c u=>rw[c]at u;cases u;exact .inr ⟨rfl,rfl⟩
 rfl;unfold World.frozen?;rw[B _ z]
theorem KG{P:Program}{call:dG}(a:lJ P call){f:FuncId}{args:L' V}{b:Bool}{H':bn}(h:call (.fn f) args []=some (.bool b,H')){w:World}{vs:L' Value}
 (D:vi (snap w))(d:cN (snap w) (λ_=>none) args vs):Calls P f vs.toArray w λe w'=>e=.returned (.bool b)/\JN w w':=by
 intro cs;have k:=((a.fn f args [] _ H' h).2 (snap w) (λ_=>none) w vs (RM D) d)
 obtain⟨e,w',fr,⟨u,I',μ',rfl,g,_,C⟩,z,i,G⟩:=k.2 cs (by simp[Fence.room,fr])
 refine⟨_,w',fr,⟨?_,HV C⟩,z.comes,i,G⟩
 cases g with
 |c _ _ B=>cases B;rfl
variable{P:Program}{H:Type}{enc:TypeId×Value->H}
theorem HT{B:L' TypeId}{vs:L' Value}{ds:L' (DataW H)}{ps:L' MemPlace}{w w':World}(e:JN w w')(h:TrodAll enc P w 0 (λ_=>true) true B vs ds ps):TrodAll enc P w' 0 (λ_=>true) true B vs ds ps:=by
 have z:∀p:MemPlace,p.block<w.heap.size->w.sameAt w' p:=by
  intro p C;have k:=e.kept.2.2 p.block C
  cases p with
  |cell b off=>
   simp only[sameAt,cell?];simp only[MemPlace.block]at k C;split at k;rename_i c t fr c' G D a u;rw[a,u];simp only;have:=k.2.2.2 off (λx=>x);simpa using this;next a u=>rw[a,u]
   rw[k]
  |map b=>simp only[sameAt];simp only[MemPlace.block]at k C;split at k;rename_i c t fr c' G D a u;obtain⟨rfl,rfl,O,I⟩:=k;rw[a,u];have:c'=c:=Array.ext_getElem? λi=>I i (λx=>x);rw[this];rename_i a u;rcases k with k|⟨rfl,rfl⟩;exact k.elim;rw[a,u];exact k
 induction B generalizing vs ds ps with|nil=>cases vs<;>cases ds<;>simp_all [TrodAll]|cons t B J=>cases vs with|nil=>simp[TrodAll]at h|cons v vs=>cases ds with|nil=>simp[TrodAll]at h|cons d ds=>obtain⟨p,q,⟨n,a⟩,u,rfl⟩:=h;exact⟨p,q,⟨n,DataW.trod_carry n _ _ _ a λx L=>z x (DataW.trod_lt n _ _ _ a x L)⟩,J u,rfl⟩
theorem PS{T:TypeId->Prop}(K:Kids P T)(m:∀t e,T t->P.underlying t=some (.slice e)->0<P.cellsOf e){f:Func}{s:ChangeSpec}{apart c a d:Bool}{W G:World}{args:Array Value}{ds i:L' (DataW H)}{before:L' MemPlace}{tb:TypeId}
 (n:∀t∈f.params.toList,T t)(B:s.vars=[])(D:s.fn H (ds++i)={results:=[.lit (.bool true)],args:=ds})(J:f.resultTypes=#[tb])(U:P.underlying tb=some .bool)
 (Y:DataW.Whole enc P f.params.toList s.vars apart W args.toList ds i before)(g:JN W G):s.post enc P f apart c a d W args (.bool true) G:=by
 have z:=Y;obtain⟨p,q,X,j,rfl,L,O⟩:=Y;rw[B]at j;obtain⟨rfl,rfl⟩:=trodVars_none j;have k:∀(b:Nat)(w:Nat->Bool)(hd:Bool),TrodAll enc P G b w hd f.resultTypes.toList ((Value.bool true).resultList f.resultTypes.size) (s.fn H (ds++[])).results []:=λ_ _ _=>by rw[J,D];exact trodAll_cons_mk (shut_bool U _) trodAll_mk0
 have S:∀w:Nat->Bool,(∀x∈p++[],w x.block=true)->TrodAll enc P G 0 w true f.params.toList args.toList (s.fn H (ds++[])).args p:=λw Q=>by rw[D];exact TrodAll.respare K m n (HT g X) (λx u=>Q x (List.mem_append_left _ u))
 have l:∀w:Nat->Bool,DataW.TrodVars enc P G w s.vars (s.fn H (ds++[])).vars []:=λw=>by rw[D,B];rfl
 have C:=λx u=>z.lt x u
 refine⟨ds,[],p++[],[],p,[],z,k _ _ _,S _ λx u=>by simpa using C x u,l _,World.keptBut_mono (λx u=>u.elim) g.kept,λ_=>⟨ok_one J rfl (okWide_bool_mk U _),?_⟩⟩
 refine⟨_,_,[]++p++[],⟨[]++p,[],trodAll_append (S _ λ_ _=>rfl) (k _ _ _),l _,rfl,λb off u=>?_,λh=>by simpa using O h⟩,λx u _=>by simpa using u⟩
 have I:MemPlace.cell b off∈p++[]:=by simpa using u
 rw[g.fz _ (C _ I)];exact L b off I
end Go.VE
namespace Go.VE
variable[bY]
instance:cr U8 where
 wt _:=1
 ok n:=0<=n.v/\n.v<=255
theorem Reads.u8{P:Program}{t:TypeId}(a:P.underlying t=some (.int .u8))(c:P.cellsOf t=1):Reads P t U8 where
 size:=c
 rd {H enc w base spare held z cs d ps} h:=by
  cases z with|zero=>simp[trod]at h|succ z=>
   simp only[trod,a]at h;split at h<;>first|(simp at h;done)|skip
   next u=>cases u
   rename_i k D n u;simp only[ζa,TypeDesc.int.injEq]at u;split at h;next e=>obtain⟨rfl,B⟩:=e;subst u;cases h;exact⟨⟨n⟩,fD.one (.int _ n),show _/\_ by simpa[Lit.wf,IntKind.min,IntKind.max,signed,IntKind.bits]using B,λb C=>C.lit _⟩
   simp at h;all_goals (rename_i u;cases u)
 shape h:=by simp only[show bB.agg U8=false from rfl];exact rW a Zab Zab h
theorem N0{m:Tb bJ}{n:Nat}{rs:L' SV}{b:Bool}(h:c8 m n rs=some [.bool b]):rs=[.v (.bool b)]:=by
 cases rs with
 |nil=>cases n<;>simp[c8]at h|cons x r=>
  have c:shut m n x=some (.bool b)/\c8 m n r=some []:=by
   unfold c8 at h;split at h;next y s c w=>simp only[ζa,List.cons.injEq]at h;obtain⟨rfl,rfl⟩:=h;exact⟨c,w⟩
   cases h
  have w:r=[]:=by cases r with|nil=>rfl|cons y r=>have:=c.2;unfold c8 at this;split at this<;>simp at this
  subst w;have u:=c.1
  cases x with
  |v y=>unfold shut at u;simp only[ζa]at u;rw[u]|own d=>unfold shut at u;split at u<;>simp only[ζa,reduceCtorEq]at u;rename_i k es B _;cases k<;>simp[o6]at u|ptr d o=>
   cases n with|zero=>simp[shut]at u|succ n=>
    unfold shut at u;split at u<;>try cases u
    split at u<;>try cases u
    split at u<;>cases u
  |mp d=>unfold shut at u;split at u<;>cases u|clo f a b=>cases n with|zero=>simp[shut]at u|succ n=>unfold shut at u;split at u<;>cases u
  |tup l=>cases n with|zero=>simp[shut]at u|succ n=>unfold shut at u;obtain⟨_,_,z⟩:=ζf.1 u;cases z
  |_=>cases n<;>simp[shut]at u
theorem R3{S:Sys}{T:qO}(B:rH S T)(D:∀f a b xs,S.items f a b=some xs->eD S f a b xs){f:FuncId}{xs:L' V}(c:V.cE xs=true)(h:jK (dc S T) f xs=some [.bool true]):
 ∃n H',run S.E n (.fn f) xs []=some (.bool true,H'):=by
 unfold jK at h;obtain⟨⟨rs,m⟩,d,u⟩:=ζg.1 h;have:=N0 u;simp only at this;subst this;exact US B D c d rfl
theorem NK{S:Sys}{T:qO}{P:Program}(B:rH S T)(D:∀f a b xs,S.items f a b=some xs->eD S f a b xs)(c:∀n,lJ P (run S.E n)){f:FuncId}{xs:L' V}(d:V.cE xs=true)(h:jK (dc S T) f xs=some [.bool true])
 {w:World}{args:Array Value}(G:vi (snap w))(g:cN (snap w) (λ_=>none) xs args.toList):Calls P f args w λe w'=>e=.returned (.bool true)/\JN w w':=by
 obtain⟨n,H',i⟩:=R3 B D d h;have:=KG (c n) i G g;simpa using this
theorem Reads.H6{P:Program}{t:TypeId}{α:Type}[bB α][cr α][Reads P t α]{H:Type}{B:TypeId×Value->H}{w:World}{base b:Nat}{c:Nat->Bool}{e:Bool}{v:Value}{d:DataW H}{ps:L' MemPlace}{params:Array TypeId}{args:Array Value}(D:∀(j:Nat)t v,params[j]?=some t->args[j]?=some v->okWide P w .any b t v)(j:Nat)(f:params[j]?=some t)(G:args[j]?=some v)(h:Trod B P w base c e t v d ps):∃a:α,bK (snap w) (λ_=>none) (enc a) v/\cr.ok a/\∀b:DataW H->Nat,uj b->cr.wt a<=b d:=Reads.arg (D j t v f G) h
end Go.VE
namespace Go.VE
theorem SJ{w:World}{g:Nat}{l:L' Int}(h:∀i,i<l.length->w.cell? ⟨g,i,none⟩=some (.int .i64 (l.getD i 0)))(e:0<l.length):eN (snap w) (.fptr (l.map (V.int .i64))) (.pointer (some ⟨g,0,none⟩)):=by
 have a:=h 0 e;unfold cell? at a;split at a;rename_i c t fr u;have D:snap w g=some (.cells c):=by unfold snap;simp only at u;rw[u]
 have d:∀i,w.cell? ⟨g,i,none⟩=c[i]?:=λi=>by unfold cell?;simp only at u⊢;rw[u];rfl
 refine .fptr _ _ _ c D ?_ ?_;rw[zero_add,length_map];have:=h (l.length-1) Zaa;rw[d]at this;have:=(Array.getElem?_eq_some_iff.1 this).1;omega;intro j y v B b;rw[zero_add,<-d]at b;rw[getElem?_map]at B;obtain⟨z,C,rfl⟩:=ζf.1 B;have G:=(ζe.1 C).1;rw[h j G]at b;cases b;have:l.getD j 0=z:=by simp[List.getD,C]
 rw[this];exact .int _ _;cases a
variable[bY]
theorem cR(n:Nat)(h:n<9223372036854775807):wrap .i64 ((n:Int)+1)=((n+1:Nat):Int):=by simp[wrap,IntKind.bits,signed];omega
theorem eF(n:Int)(a:-9223372036854775808<=n)(B:n<=9223372036854775807):wrap .i64 n=n:=by simp[wrap,IntKind.bits,signed];omega
section
variable{α β:Type}{P:β->Prop}
theorem kJ(s:Sl α)(i:Nat):idx s (i:Int)=s.l[i]?:=by unfold idx;rw[if_pos Zaa];rfl
theorem bG{s:Sl α}{i:Nat}(h:i<s.l.length):idx s (i:Int)=some s.l[i]:=by rw[kJ,ζd h]
theorem S3{s:Sl α}{i:Int}(a:0<=i):idx s i=s.l[i.toNat]?:=by unfold idx;rw[if_pos a]
theorem tD(s:Sl α)(i:Nat)(h:i<=s.l.length):∃x,gj s none (some (i:Int))=some x/\x.l=s.l.take i:=by unfold gj dX;simp only[Option.getD_none,getD_some];rw[if_pos Zaa];cases s<;>simp[Sl.l]at h⊢ <;>simp[h]
theorem bF{γ:Type}{a b:γ}:bg true a b=a:=rfl
theorem bE{γ:Type}{a b:γ}:bg false a b=b:=rfl
theorem nL(a b:Bool):bg a (some b) (some false)=some (a&&b):=by cases a<;>rfl
theorem mm(a b:Bool):bg a (some true) (some b)=some (a||b):=by cases a<;>rfl
theorem uy(a:Bool)(x y:β):bg a (some x) (some y)=some (if a then x else y):=by cases a<;>rfl
end
def place{α:Type}(f:α->Bool)(l:L' α):Int:=match l.findIdx? f with
 |some i=>i|none=>-1
theorem BD{α:Type}{f:α->Bool}{l:L' α}{i:Nat}(h:∀j,j<i->∀x,l[j]?=some x->f x=false)(hi:l.length<=i):l.findIdx? f=none:=by rw[List.findIdx?_eq_none_iff];intro x w;obtain⟨j,u⟩:=getElem?_of_mem w;have:j<l.length:=(ζe.1 u).1;exact h j Zaa x u
theorem Ls{α:Type}{f:α->Bool}{l:L' α}{i:Nat}{x:α}(h:∀j,j<i->∀x,l[j]?=some x->f x=false)(B:l[i]?=some x)(D:f x=true):l.findIdx? f=some i:=by rw[List.findIdx?_eq_some_iff_getElem];obtain⟨hi,rfl⟩:=ζe.1 B;exact⟨hi,D,λj u=>by rw[h j u _ (ζd Zaa)];simp⟩
theorem vE{α:Type}{step:Int->Lk (Fw Int Unit Int)}{s:Sl α}{p:α->Lk Bool}{f:α->Bool}(hp:∀x∈s.l,p x=some (f x))(U:s.l.length<9223372036854775807)
 (J:∀i,step i=bg (decide (i<len s)) ((idx s i).bind λB=>(p B).bind λD=>bg D (some (.r i)) (some (.n (wrap .i64 (i+1))))) (some (.x ()))):
 (bT step 0).bind (Fw.elim (λ_=>some (-1)) (λe=>some e))=some (place f s.l):=by
 refine Wp.eq (fK (λi:Int=>∃n:Nat,i=n/\n<=s.l.length/\∀j,j<n->∀x,s.l[j]?=some x->f x=false) (λi:Int=>s.l.length-i.toNat) ⟨0,rfl,zero_le _,λj I=>absurd I Zaa⟩ ?_)
 rintro i ⟨n,rfl,L,w⟩;rw[J,b_];refine⟨λh=>?_,λh=>?_⟩
 .have u:n<s.l.length:=by simpa[len]using h
  rw[bG u,ζb,hp _ (getElem_mem u),ζb,b_];refine⟨λz=>?_,λz=>?_⟩
  .rw[bf];show Wp (some (n:Int)) _;rw[bf];unfold place;rw[Ls w (ζd u) z]
  rw[bf];refine⟨⟨n+1,cR n Zaa,Zaa,λj I x C=>?_⟩,?_⟩
  .by_cases e:j=n
   .subst e;rw[ζd u]at C;cases C;exact z
   exact w j Zaa x C
  rw[cR n Zaa];simp;omega
 have G:s.l.length<=n:=by simpa[len]using h
 rw[bf];show Wp (some (-1:Int)) _;rw[bf];unfold place;rw[BD w G]
theorem vO{α:Type}(f:α->Bool)(l:L' α):decide (place f l>=0)=l.any f:=by
 unfold place
 cases h:l.findIdx? f with
 |none=>
  rw[List.findIdx?_eq_none_iff]at h;have:l.any f=false:=by rw[List.any_eq_false];intro x u;simp[h x u]
  rw[this];rfl
 |some i=>obtain⟨hi,w,_⟩:=List.findIdx?_eq_some_iff_getElem.1 h;have:l.any f=true:=List.any_eq_true.2 ⟨_,getElem_mem hi,w⟩;rw[this];simp
theorem To{α σ ε ρ:Type}{step:α->σ->Lk (Fw σ ε ρ)}{l:L' α}(I:Nat->σ->Prop)(D:ε->Prop)(G:ρ->Prop){s:σ}(c:I 0 s)
 (h:∀i a s,l[i]?=some a->I i s->Wp (step a s) λw=>match w with|.n B=>I (i+1) B|.x e=>D e|.r b=>G b):
 Wp (kV step l s) λw=>match w with|.n B=>I l.length B|.x e=>D e|.r b=>G b:=by
 have key:∀(r:L' α)(i:Nat)(s:σ),l.drop i=r->i<=l.length->I i s->Wp (kV step r s) λw=>match w with|.n B=>I l.length B|.x e=>D e|.r b=>G b:=by
  intro r
  induction r with
  |nil=>
   intro i s hd hi z;have:i=l.length:=by have:=List.drop_eq_nil_iff.1 hd;omega
   subst this;exact⟨_,rfl,z⟩
  |cons a r J=>
   intro i s hd hi z;have u:i<l.length:=by apply Classical.byContradiction;intro Q;rw[List.drop_eq_nil_of_le Zaa]at hd;cases hd
   have L:=List.drop_eq_getElem_cons u;rw[L]at hd;simp only[List.cons.injEq]at hd;obtain⟨w,O,C⟩:=h i a s (by rw[ζd u,hd.1]) z;simp only[kV,O,ζb];cases w with|n B=>exact J (i+1) B hd.2 Zaa C|x e=>exact⟨_,rfl,C⟩|r b=>exact⟨_,rfl,C⟩
 exact key l 0 s rfl (zero_le _) c
theorem zm{α σ ε ρ γ:Type}{step:α->σ->Lk (Fw σ ε ρ)}{l:L' α}{fn:σ->Lk γ}{B:ε->Lk γ}{fr:ρ->Lk γ}{P:γ->Prop}(I:Nat->σ->Prop){s:σ}(c:I 0 s)
 (h:∀i a s,l[i]?=some a->I i s->Wp (step a s) λw=>match w with|.n D=>I (i+1) D|.x e=>Wp (B e) P|.r b=>Wp (fr b) P)
 (G:∀s,I l.length s->Wp (fn s) P):Wp ((kV step l s).bind (Fw.qY fn B fr)) P:=by
 rw[ec];refine(To I _ _ c h).mono ?_;intro w u
 cases w with
 |n s=>exact G s u|x e=>exact u|r b=>exact u
end Go.VE
