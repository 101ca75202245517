/-
 Certificates; functions by hand; readings; plain laws.
-/
import Derived.JoinedCond
import Derived.ReadAgain
import Derived.WalkKit
import Derived.ProofKit
import Derived.OpenShut
import Derived.ChangeSame
import Derived.RowKit3
import Derived.Lib.LaidTab
import Derived.Test.YtfjedefhlilglaaGreatDoorV2
import Derived.Test.YtfjedefhlilglaaGreatDoorN2
import Derived.Test.YtfjedefhlilglaaGreatDoorS1
set_option linter.all false
open Nat(beq ble le_refl reduceEqDiff zero_add zero_le)
open Option(getD_some map_some pure_def)
open List(all_cons all_eq_true append_assoc append_nil cons_append drop_zero getElem?_append_left getElem?_append_right getElem?_drop getElem?_map getElem?_of_mem getElem?_set_ne getElem?_set_self getElem?_take getElem_mem length_cons length_map length_range length_singleton map_cons map_nil mem_append mem_map mem_of_getElem? mem_range nil_append range range' replicate set_set take_of_length_le)
open Classical(choose_spec)
open Bool(false_eq_true)
open Go.IntKind(signed wrap)
open Go.DataW(Trod TrodAll trod)
open Go.Value(okWide)
open Go.World(cell? sameAt)
namespace Go.VE
variable[b7]
abbrev Cf:=Fo×aZ Fm×St
section
variable(S:Sys)(c:cm){β:Type}(Q:Out×St->a_ β)
noncomputable abbrev cg(cf:Cf):a_ β:=rn S c Q cf.1 cf.2.1 cf.2.2
noncomputable def jC(n:Nat)(cf:Cf):Cf:=(iI S c n cf.1 cf.2.1 cf.2.2).getD cf
structure HT where
 dr:Bool
 fr:List Nat
 d:Option Nat
 gd:Option (Nat×Bool)
 now:Bool
 k:K
 az:List Arg
 dd:List Nat
 l:List RO
 fs:List Fm
 st:St
noncomputable def gm(n:Nat)(cf:Cf):a_ HT:=match iI S c n cf.1 cf.2.1 cf.2.2 with
 |some (.ops dr fr (⟨d,gd,now,k,az,dd,[]⟩::l),fs,st)=>match wanted st.g gd with
  |some true=>some ⟨dr,fr,d,gd,now,k,az,dd,l,fs,st⟩|_=>none
 |_=>none
noncomputable def nx(n:Nat)(cf:Cf)(φ:HT->St):Cf:=match gm S c n cf with
 |some p=>(.ops p.dr (if p.dr then(match p.k with|.p _|.r _=>p.fr|_=>match p.d with|some d=>d::p.fr|none=>p.fr)else p.fr) p.l,p.fs,qL p.dd (φ p))|none=>cf
end
def wv(s:Nat)(b:X')(cf:Cf):Cf:=(cf.1,cf.2.1,{cf.2.2 with g:=bP cf.2.2.g s (.v (.bool b))})
def jmp(k:Nat)(fr:S')(cf:Cf)(st:St):Cf:=match cf with
 |(.ops dr _ l,fs,_)=>(.ops dr fr (l.drop k),fs,st)|_=>(.rt,[],st)
def uF:RC->S'->Rd->St->Cf
 |c,[],fs,st=>(.rc c,fs,st)|.seq a b,i::p,fs,st=>if i=0 then uF a p (.seq b::fs) st else uF b p fs st|.cond _ a b,i::p,fs,st=>if i=0 then uF a p fs st else uF b p fs st|.block id c,_::p,fs,st=>uF c p (.blk id::fs) st|.gh _ c,_::p,fs,st=>uF c p fs st|.hg c g,_::p,fs,st=>uF c p (.gst g::fs) st|.loop c,_::p,_,st=>uF c p [] st|.each _ _ _ b,_::p,_,st=>uF b p [] st|c,_,fs,st=>(.rc c,fs,st)
section
variable{S:Sys}{c:cm}{β γ δ α:Type}{Q:Out×St->a_ β}{e:γ->a_ β}{cf:Cf}
theorem kf{n:Nat}{p:HT}(h:gm S c n cf=some p):iI S c n cf.1 cf.2.1 cf.2.2=some (.ops p.dr p.fr (⟨p.d,p.gd,p.now,p.k,p.az,p.dd,[]⟩::p.l),p.fs,p.st)/\wanted p.st.g p.gd=some true:=by unfold gm at h;grind
theorem ru{n:Nat}{m:a_ δ}{φ:δ->HT->St}{f:δ->a_ γ}{p:HT}(hp:gm S c n cf=some p)(B:Le (m.bind λx=>some (φ x p)) (fW S c p.dr p.fr ⟨p.d,none,p.now,p.k,p.az,[],[]⟩ p.st))
 (h:∀x,m=some x->Le ((f x).bind e) (cg S c Q (nx S c n cf (φ x)))):Le ((m.bind f).bind e) (cg S c Q cf):=by
 have⟨a,u⟩:=kf hp;refine DJ a rfl u B λx w=>?_
 have:=h x w;simp[nx,hp]at this;omega
theorem wA{n:Nat}{m:a_ β}{φ:HT->St}{p:HT}(hp:gm S c n cf=some p)(B:fW S c p.dr p.fr ⟨p.d,none,p.now,p.k,p.az,[],[]⟩ p.st=some (φ p))
 (h:Le m (cg S c Q (nx S c n cf φ))):Le m (cg S c Q cf):=by
 have⟨a,u⟩:=kf hp;refine sP a rfl u B ?_;simp[nx,hp]at h;omega
theorem fh{α β:Type}{o:a_ α}{f:α->β}{b:β}(h:o.map f=some b):∃a,o=some a/\f a=b:=ζf.1 h
theorem za(n:Nat){m:a_ β}{B:Cf}(h:Le m (cg S c Q B))(D:iI S c n cf.1 cf.2.1 cf.2.2=some B:=by kernel_rfl):Le m (cg S c Q cf):=B7 D h
theorem bB(n s:Nat){t:X'}{x y:a_ γ}(B:Le (x.bind e) (cg S c Q (wv s true (jC S c n cf))))(D:Le (y.bind e) (cg S c Q (wv s false (jC S c n cf))))
 (G:(iI S c n cf.1 cf.2.1 cf.2.2).map (λp=>bn p.2.2.g s)=some (some (.v (.bool t))):=by kernel_rfl):Le ((bl t x y).bind e) (cg S c Q cf):=by
 have⟨p,u,a⟩:=fh G;have b:jC S c n cf=p:=by unfold jC;grind
 rw[b]at B D;refine B7 u ?_;cases t
 .have:wv s false p=p:=by unfold wv;rw[rz a]
  rw[this]at D;exact D
 have:wv s true p=p:=by unfold wv;rw[rz a]
 rw[this]at B;exact B
theorem dy(n s:Nat){t:X'}{x y:a_ γ}(B:Le (x.bind e) (cg S c Q (wv s false (jC S c n cf))))(D:Le (y.bind e) (cg S c Q (wv s true (jC S c n cf))))
 (G:(iI S c n cf.1 cf.2.1 cf.2.2).map (λp=>bn p.2.2.g s)=some (some (.v (.bool (!t)))):=by kernel_rfl):Le ((bl t x y).bind e) (cg S c Q cf):=by
 have⟨p,u,a⟩:=fh G;have b:jC S c n cf=p:=by unfold jC;grind
 rw[b]at B D;refine B7 u ?_;cases t
 .have:wv s true p=p:=by unfold wv;rw[show V.bool true=V.bool (!false)from rfl,rz a]
  rw[this]at D;exact D
 have:wv s false p=p:=by unfold wv;rw[show V.bool false=V.bool (!true)from rfl,rz a]
 rw[this]at B;exact B
theorem yo(n k:Nat)(fr:S')(st:δ->St){m:a_ δ}{f:δ->a_ γ}(B:Le (m.bind λr=>cg S c Q (jmp k fr (jC S c n cf) (st r))) (cg S c Q cf))(a:∀r,Le ((f r).bind e) (cg S c Q (jmp k fr (jC S c n cf) (st r)))):Le ((m.bind f).bind e) (cg S c Q cf):=U9 _ B a
theorem bD(n:Nat){r:δ}{k:δ->Cf}(B:iI S c n cf.1 cf.2.1 cf.2.2=some (k r):=by kernel_rfl):Le ((some r).bind λr=>cg S c Q (k r)) (cg S c Q cf):=aaP B rfl
theorem bh{r:γ}{L:a_ β}(h:L=e r:=by kernel_rfl):Le ((some r).bind e) L:=Le.of_eq h
theorem zC(n:Nat){b:RC}{m:a_ (Out×Tb bM)}(h:Le m (cg S c xL (.rc b,[],(jC S c n cf).2.2)))(B:iI S c n cf.1 cf.2.1 cf.2.2=some (.nx,[],(jC S c n cf).2.2):=by kernel_rfl):Le m (cg S c (Al S c b) cf):=Yz B h
theorem Kj(n:Nat){o:a_ α}(A:a_ α->St){f:α->a_ γ}(B:∀x,o=some x->Le ((f x).bind e) (cg S c Q ((jC S c n cf).1,(jC S c n cf).2.1,A (some x))))
 (D:iI S c n cf.1 cf.2.1 cf.2.2=some ((jC S c n cf).1,(jC S c n cf).2.1,A o):=by kernel_rfl):Le ((o.bind f).bind e) (cg S c Q cf):=ZV D B
theorem hG.YT{S:Sys}{T:qY}[bC δ]{f:Y'}{A:α->T2}{p:α->a_ δ}(B:T f=none)(a:S.E.keep f=false)(D:∀z r,p z=some r->S.yI f (A z)=some (enc r))
 :hG S (dg S T) f A (λr=>[enc r]) p false where
 k:=a
 h z:=by intro y u;have⟨r,b,w⟩:=ζg.1 u;cases w;have h:=GZ B a (D z r b);unfold jT;rw[h];exact v7 8 [enc r]
 s h:=by cases h
def ND:K->a_ BinOp
 |.p (.bin _ _ o)=>some o|_=>none
theorem V_{k:K}{o:BinOp}(h:ND k=some o):∃t u,k=.p (.bin t u o):=by cases k with|p p=>cases p<;>simp[ND]at h;simp_all|_=>simp[ND]at h
def NI:K->a_ BinOp
 |.p (.bin (some .slice) _ o)=>some o|_=>none
theorem MT{k:K}{o:BinOp}(h:NI k=some o):∃u,k=.p (.bin (some .slice) u o):=by unfold NI at h;grind
def Yo:K->a_ (Nat×Nat×S')
 |.a (.buildSl sz ln _ ix)=>some (sz,ln,ix)|_=>none
theorem XQ{k:K}{r:Nat×Nat×S'}(h:Yo k=some r):∃z,k=.a (.buildSl r.1 r.2.1 z r.2.2):=by unfold Yo at h;grind
def XD:K->a_ T2
 |.a (.alloc _ zero)=>some zero|_=>none
theorem YO{k:K}{z:T2}(h:XD k=some z):∃n,k=.a (.alloc n z):=by unfold XD at h;grind
section
variable[bC α]
theorem Z_(k:IntKind)(n:Nat){s:Sl α}{i:Int}{f:α->a_ γ}(h:∀x,idx s i=some x->Le ((f x).bind e) (cg S c Q (nx S c n cf λp=>cV p.st p.d (cp x))))
 (B:(gm S c n cf).map (λp=>(p.k,bY S.N p.st.g p.az))=some (.p (.idxS (bC.size α)),some [.v (bZ s),.v (.int k i)]):=by kernel_rfl):Le (((idx s i).bind f).bind e) (cg S c Q cf):=by
 have⟨p,u,a⟩:=fh B;simp at a;refine ru u ?_ h;rw[a.1];exact Le.of_eq (Un a.2 rfl)
theorem bQ(n:Nat){s:Sl α}{i:Int}{f:α->a_ γ}(h:∀x,idx s i=some x->Le ((f x).bind e) (cg S c Q (nx S c n cf λp=>cV p.st p.d (cp x))))
 (B:(gm S c n cf).map (λp=>(p.k,bY S.N p.st.g p.az))=some (.p (.idxS (bC.size α)),some [.v (bZ s),.v (.int .i64 i)]):=by kernel_rfl):Le (((idx s i).bind f).bind e) (cg S c Q cf):=Z_ .i64 n h B
theorem iQ(k:IntKind)(n u:Nat){s:Sl α}{i:Int}{f:Nat->a_ γ}(h:∀x,s.jg i=some x->Le ((f x).bind e) (cg S c Q (nx S c n cf λp=>cV p.st p.d (.el u x 0))))
 (B:(gm S c n cf).map (λp=>(p.k,bY S.N p.st.g p.az,bn p.st.m u))=some (.p (.idxS (bC.size α)),some [.own u,.v (.int k i)],some (cI s)):=by kernel_rfl):Le (((s.jg i).bind f).bind e) (cg S c Q cf):=by
 have⟨p,w,a⟩:=fh B;simp at a;refine ru w ?_ h;rw[a.1];exact Le.of_eq (aab a.2.1 a.2.2 rfl)
theorem ow(n u o sz:Nat)(a:X')(v:α->V){s:Sl α}{i:Nat}{f:α->a_ γ}(h:∀x,s.get i=some x->Le ((f x).bind e) (cg S c Q (nx S c n cf λp=>cV p.st p.d (.v (v x)))))
 (B:(gm S c n cf).map (λp=>(p.k,bY S.N p.st.g p.az,bn p.st.m u,(!p.dr||p.now||fH p.fr [.el u i o])))=some (.r (.load sz a),some [.el u i o],some (cI s),true):=by kernel_rfl)(b:∀x:α,(cut (cells x) o sz).bind (mk a)=some (v x):=by intro _;rfl):Le (((s.get i).bind f).bind e) (cg S c Q cf):=by
 have⟨p,z,w⟩:=fh B;simp only[ζc]at w;refine ru z ?_ h;rw[w.1];exact Le.of_eq (YM w.2.1 w.2.2.2 w.2.2.1 b)
theorem Dw(n u:Nat)(x:V){s:Sl α}{i:Nat}{a:α}{f:Sl α->a_ γ}(h:∀B,s.put i a=some B->Le ((f B).bind e) (cg S c Q (nx S c n cf λp=>cV {p.st with m:=bP p.st.m u (cI B)} p.d (.v .undef))))
 (D:(gm S c n cf).map (λp=>(p.k,bY S.N p.st.g p.az,bn p.st.m u,(!p.dr||p.now),x.cells))=some (.l (.store (bC.size α)),some [.el u i 0,.v x],some (cI s),true,cells a):=by kernel_rfl):Le (((s.put i a).bind f).bind e) (cg S c Q cf):=by
 have⟨p,w,b⟩:=fh D;simp only[ζc]at b;refine ru w ?_ h;rw[b.1];exact Le.of_eq (Mh b.2.1 b.2.2.2.1 b.2.2.1 b.2.2.2.2 rfl)
theorem PV(n u:Nat){i:Int}{z:α}{f:Sl α->a_ γ}(h:∀B,qX i z=some B->Le ((f B).bind e) (cg S c Q (nx S c n cf λp=>{p.st with g:=bP p.st.g u (.own u),m:=bP p.st.m u (cI B)})))
 (D:(gm S c n cf).map (λp=>(p.d,p.k,bY S.N p.st.g p.az,p.st.new u))=some (some u,.a (.makeSl (bC.size α) (cells z)),some [.v (.int .i64 i),.v (.int .i64 i)],true):=by kernel_rfl):Le (((qX i z).bind f).bind e) (cg S c Q cf):=by
 have⟨p,w,a⟩:=fh D;simp at a;refine ru w ?_ h;rw[a.1,a.2.1];exact Le.of_eq (YB a.2.2.1 rfl rfl a.2.2.2)
theorem aaY(n u:Nat){i:Int}{z:α}{zero:T2}{f:Sl α->a_ γ}(h:∀B,sB i z=some B->Le ((f B).bind e) (cg S c Q (nx S c n cf λp=>{p.st with g:=bP p.st.g u (.own u),m:=bP p.st.m u (cI B)})))
 (D:(gm S c n cf).map (λp=>(p.d,p.k,bY S.N p.st.g p.az,p.st.new u))=some (some u,.a (.makeSl (bC.size α) (cells z)),some [.v (.int .i64 0),.v (.int .i64 i)],true):=by kernel_rfl):Le (((sB i z).bind f).bind e) (cg S c Q cf):=by
 have⟨p,w,a⟩:=fh D;simp at a;have⟨b,I⟩:=kf w;have⟨dr,fr,d,gd,now,k,az,dd,l,fs,st⟩:=p;obtain⟨rfl,rfl,J,C⟩:=a;exact aa2 n dr fr (⟨some u,gd,now,.a (.makeSl (bC.size α) (cells z)),az,dd,[]⟩::l) fs st rfl C Zac λB G=>by have:=h B G;simp[nx,w]at this;simp_all
theorem oI(n o w u:Nat){s:Sl α}{x:α}{f:Sl α->a_ γ}(h:∀B,gy s x=some B->Le ((f B).bind e) (cg S c Q (nx S c n cf λp=>{p.st with g:=bP p.st.g u (.own u),m:=bP (eF o p.st.m) u (cI B)})))
 (D:(gm S c n cf).map (λp=>(p.d,p.k,bY S.N p.st.g p.az,(!p.dr||p.now),bn p.st.m o,bn p.st.m w,St.new {p.st with m:=eF o p.st.m} u))=some (some u,.l (.append (bC.size α)),some [.own o,.own w],true,some (cI s),some (cI (.row [x])),true):=by kernel_rfl):Le (((gy s x).bind f).bind e) (cg S c Q cf):=by
 have⟨p,z,a⟩:=fh D;simp only[ζc]at a;refine ru z ?_ h;rw[a.1,a.2.1];exact Le.of_eq (ZR a.2.2.1 a.2.2.2.1 a.2.2.2.2.1 a.2.2.2.2.2.1 rfl a.2.2.2.2.2.2)
theorem UK(n w u:Nat)(v:V)(x:α){m:a_ β}(h:Le m (cg S c Q (nx S c n cf λp=>{p.st with g:=bP p.st.g u (.own u),m:=bP p.st.m u (cI (.row [x]))})))(a:v=.bO\/v=.dQ:=by first|exact .inl rfl|exact .inr rfl)
 (B:(gm S c n cf).map (λp=>(p.d,p.k,bY S.N p.st.g p.az,(!p.dr||p.now),bn p.st.m w,p.st.new u))=some (some u,.l (.append (bC.size α)),some [.v v,.own w],true,some (cI (.row [x])),true):=by kernel_rfl):Le m (cg S c Q cf):=by
 have⟨p,C,z⟩:=fh B;simp only[ζc]at z;refine wA C ?_ h;rw[z.1,z.2.1];exact XG a z.2.2.1 z.2.2.2.1 z.2.2.2.2.1 rfl z.2.2.2.2.2
theorem b8(n:Nat)(s:Sl α){m:a_ β}(h:Le m (cg S c Q (nx S c n cf λp=>cV p.st p.d (.v (.int .i64 s.l.length)))))
 (B:(gm S c n cf).map (λp=>(p.k,bY S.N p.st.g p.az))=some (.p .lenSl,some [.v (bZ s)]):=by kernel_rfl):Le m (cg S c Q cf):=by
 have⟨p,u,a⟩:=fh B;simp at a;refine wA u ?_ h;rw[a.1];exact UG a.2
theorem Ez(n u:Nat)(s:Sl α){m:a_ β}(h:Le m (cg S c Q (nx S c n cf λp=>cV p.st p.d (.v (.int .i64 s.l.length)))))
 (B:(gm S c n cf).map (λp=>(p.k,bY S.N p.st.g p.az,bn p.st.m u))=some (.p .lenSl,some [.own u],some (cI s)):=by kernel_rfl):Le m (cg S c Q cf):=by
 have⟨p,w,a⟩:=fh B;simp at a;refine wA w ?_ h;rw[a.1];exact XB a.2.1 a.2.2
theorem DG(n:Nat){s:Sl α}{f:X'->a_ γ}(h:∀t,s.isNil=some t->Le ((f t).bind e) (cg S c Q (nx S c n cf λp=>cV p.st p.d (.v (.bool t)))))
 (B:(gm S c n cf).map (λp=>(NI p.k,bY S.N p.st.g p.az))=some (some .eql,some [.v (bZ s),.v .bO]):=by kernel_rfl):Le ((s.isNil.bind f).bind e) (cg S c Q cf):=by
 have⟨p,w,a⟩:=fh B;simp at a;have⟨u,b⟩:=MT a.1;refine ru w ?_ h;rw[b];exact Le.of_eq (Wc a.2)
theorem Zs(n:Nat){s:Sl α}{f:X'->a_ γ}(h:∀t,s.isNil=some t->Le ((f t).bind e) (cg S c Q (nx S c n cf λp=>cV p.st p.d (.v (.bool !t)))))
 (B:(gm S c n cf).map (λp=>(NI p.k,bY S.N p.st.g p.az))=some (some .neq,some [.v (bZ s),.v .bO]):=by kernel_rfl):Le ((s.isNil.bind f).bind e) (cg S c Q cf):=by
 have⟨p,w,a⟩:=fh B;simp at a;have⟨u,b⟩:=MT a.1;refine ru w ?_ h;rw[b];exact Le.of_eq (Tr a.2)
theorem BD(n:Nat)(lo hi:X')(B:T2){s:Sl α}{a b:QQ}{f:Sl α->a_ γ}(h:∀x,fZ s a b=some x->Le ((f x).bind e) (cg S c Q (nx S c n cf λp=>cV p.st p.d (.v (bZ x)))))
 (D:(gm S c n cf).map (λp=>(p.k,bY S.N p.st.g p.az,mP lo hi B))=some (.p (.slice (bC.size α) lo hi),some (.v (bZ s)::B.map .v),some (a,b)):=by kernel_rfl):Le (((fZ s a b).bind f).bind e) (cg S c Q cf):=by
 have⟨p,u,g⟩:=fh D;simp at g;have⟨i,C⟩:=kf u;have⟨dr,fr,d,gd,now,k,az,dd,l,fs,st⟩:=p;obtain⟨rfl,G,I⟩:=g;exact aaW n dr fr (⟨d,gd,now,.p (.slice (bC.size α) lo hi),az,dd,[]⟩::l) fs st lo hi B rfl Zac λw z=>by have:=h w z;simp only[nx,u]at this;omega
theorem Zv(n:Nat)(lo hi:X')(u t:Nat)(B:T2){s:Sl α}{a b:QQ}{f:Sl α->a_ γ}(h:∀x,qf s a b=some x->Le ((f x).bind e) (cg S c Q (nx S c n cf λp=>{p.st with g:=bP p.st.g t (.own t),m:=bP (eF u p.st.m) t (cI x)})))
 (D:(gm S c n cf).map (λp=>(p.d,p.k,p.dr,bY S.N p.st.g p.az,mP lo hi B,bn p.st.m u,St.new {p.st with m:=eF u p.st.m} t))=some (some t,.p (.slice (bC.size α) lo hi),false,some (.own u::B.map .v),some (a,b),some (cI s),true):=by kernel_rfl):Le (((qf s a b).bind f).bind e) (cg S c Q cf):=by
 have⟨p,w,i⟩:=fh D;simp at i;have⟨j,I⟩:=kf w;have⟨dr,fr,d,gd,now,k,az,dd,l,fs,st⟩:=p;obtain⟨rfl,rfl,rfl,J,L,O,z⟩:=i;exact ZI n fr (⟨some t,gd,now,.p (.slice (bC.size α) lo hi),az,dd,[]⟩::l) fs st lo hi u B rfl z Zac λC G=>by have:=h C G;simp only[nx,w]at this;omega
theorem cw(n u:Nat)(x:α){m:a_ β}(h:Le m (cg S c Q (nx S c n cf λp=>{p.st with g:=bP p.st.g u (.ptr u 0),m:=bP p.st.m u (bx x)})))
 (B:(gm S c n cf).map (λp=>(p.d,p.k,bY S.N p.st.g p.az,p.st.new u))=some (some u,.a .box,some [cv x],true):=by kernel_rfl):Le m (cg S c Q cf):=by
 have⟨p,w,a⟩:=fh B;simp at a;refine wA w ?_ h;rw[a.1,a.2.1,Ay,a.2.2.1];simp only[ζb,a.2.2.2,if_true,pE,lY,rU]
def stB(u o sz:Nat)(xs:So)(p:HT):St:=match bn p.st.m u with
 |some (.box cs)=>cV {p.st with m:=bP p.st.m u (.box (cs.take o++xs++cs.drop (o+sz)))} p.d (.v .undef)|_=>p.st
theorem nN(n u o:Nat)(x:α){m:a_ β}(h:Le m (cg S c Q (nx S c n cf (stB u o (bC.size α) ((cells x).map .v)))))
 (B:(gm S c n cf).map (λp=>(p.k,bY S.N p.st.g p.az,(!p.dr||p.now),match bn p.st.m u with|some (.box cs)=>ble (o+bC.size α) cs.length|_=>false))=some (.l (.store (bC.size α)),some [.ptr u o,cv x],true,true):=by kernel_rfl):Le m (cg S c Q cf):=by
 have⟨p,C,a⟩:=fh B;simp only[ζc]at a;refine wA C ?_ h;have⟨b,D,G,z⟩:=a;split at z
 next cs w=>have I:=Nat.le_of_ble_eq_true z;rw[b,yK,D];simp only[ζb,G,if_true,og,w,putCells,lY,gI,rU,I,and_self,map_some,stB]
 simp_all
theorem yw(n u:Nat)(xs:aZ α){m:a_ β}(h:Le m (cg S c Q (nx S c n cf λp=>{p.st with g:=bP p.st.g u (.own u),m:=bP p.st.m u (cI (.row xs))})))
 (B:(gm S c n cf).map (λp=>(p.d,Yo p.k,bY S.N p.st.g p.az,p.st.new u))=some (some u,some (bC.size α,xs.length,range' 0 xs.length),some ((xs.map enc).map .v),true):=by kernel_rfl):Le m (cg S c Q cf):=by
 have⟨p,w,a⟩:=fh B;simp at a;have⟨b,G⟩:=kf w;have⟨dr,fr,d,gd,now,k,az,dd,l,fs,st⟩:=p;obtain⟨rfl,C,I,D⟩:=a;obtain⟨z,rfl⟩:=XQ C;exact Abs n dr fr (⟨some u,gd,now,.a (.buildSl (bC.size α) xs.length z (range' 0 xs.length)),az,dd,[]⟩::l) fs st xs rfl D Zac (by
  simp[nx,w]at h;omega)
theorem aaO(n:Nat)(x:α)(vs z:T2)(pl:aZ (Nat×Nat)){m:a_ β}(B:lU z pl vs=some (cells x))(D:bC.agg α=true)(h:Le m (cg S c Q (nx S c n cf λp=>cV p.st p.d (cv x))))
 (G:(gm S c n cf).map (λp=>(p.k,bY S.N p.st.g p.az))=some (.p (.build z pl),some (vs.map .v)):=by kernel_rfl):Le m (cg S c Q cf):=by
 have⟨p,u,a⟩:=fh G;simp at a;have⟨b,w⟩:=kf u;have⟨dr,fr,d,gd,now,k,az,dd,l,fs,st⟩:=p;obtain⟨rfl,C⟩:=a;exact aaU n dr fr (⟨d,gd,now,.p (.build z pl),az,dd,[]⟩::l) fs st x vs rfl B D Zac (by
  simp only[nx,u]at h;omega)
end
theorem aaS(n:Nat){k:IntKind}{a b:Int}{f:Int->a_ γ}(h:∀x,AN k a b=some x->Le ((f x).bind e) (cg S c Q (nx S c n cf λp=>cV p.st p.d (.v (.int k x)))))
 (B:(gm S c n cf).map (λp=>(ND p.k,bY S.N p.st.g p.az))=some (some .quo,some [.v (.int k a),.v (.int k b)]):=by kernel_rfl):Le (((AN k a b).bind f).bind e) (cg S c Q cf):=by
 have⟨p,w,d⟩:=fh B;simp at d;have⟨t,u,g⟩:=V_ d.1;refine ru w ?_ h;rw[g];exact Le.of_eq (ZK d.2)
theorem BE(n:Nat)(k:IntKind){a:U'}{b:Int}{f:Int->a_ γ}(h:∀x,me a b=some x->Le ((f x).bind e) (cg S c Q (nx S c n cf λp=>cV p.st p.d (.v (.int .u8 x)))))
 (B:(gm S c n cf).map (λp=>(p.k,bY S.N p.st.g p.az))=some (.p .idxStr,some [.v (.str a),.v (.int k b)]):=by kernel_rfl):Le (((me a b).bind f).bind e) (cg S c Q cf):=by
 have⟨p,u,d⟩:=fh B;simp at d;refine ru u ?_ h;rw[d.1];exact Le.of_eq (Ua d.2)
section
variable{A:α->T2}{E:δ->T2}{pl:α->a_ δ}{fn:Y'}{sc:X'}
theorem yU(n:Nat)(F:hG S c fn A E pl sc)(z:α){f:δ->a_ γ}(h:∀x,pl z=some x->Le ((f x).bind e) (cg S c Q (nx S c n cf λp=>cV p.st p.d (.v (result (E x))))))
 (B:(gm S c n cf).map (λp=>(p.k,(bY S.N p.st.g p.az).bind lR,(!p.dr||p.now||gw p.st.m p.fr [])))=some (.c,some (fn,(A z).map .v),true):=by kernel_rfl):Le (((pl z).bind f).bind e) (cg S c Q cf):=by
 have⟨p,C,b⟩:=fh B;simp at b;have⟨D,G,O⟩:=b;have⟨I,g1,g2⟩:=ζg.1 G;have u:∀d(w:T2),SV.dP d (w.map .v)=false:=λd w=>by induction w with|nil=>rfl|cons a l J=>simp[SV.dP,SV.c8,J]
 have L:(!p.dr||p.now||gw p.st.m p.fr ((A z).map .v))=true:=by have:gw p.st.m p.fr ((A z).map .v)=gw p.st.m p.fr []:=(by unfold gw;simp[u];rfl);grind
 refine ru C ?_ h;rw[D];exact Jq (F.h z) F.k g1 g2 (KS _ _ _) L (λr=>by rw[nD];simp)
theorem X4(n:Nat)(F:hG S c fn A E pl true)(z:α){f:δ->a_ γ}(h:∀x,pl z=some x->Le ((f x).bind e) (cg S c Q (nx S c n cf λp=>cV p.st p.d (.v (result (E x))))))
 (B:(gm S c n cf).map (λp=>(p.k,((bY S.N p.st.g p.az).bind lR).bind λq=>(nO (iS p.st.m 8) q.2).map λvs=>(q.1,vs,((!p.dr||p.now)||gw p.st.m p.fr q.2))))=some (.c,some (fn,A z,true)):=by kernel_rfl):Le (((pl z).bind f).bind e) (cg S c Q cf):=by
 have⟨p,u,a⟩:=fh B;simp at a;have⟨w,C⟩:=a;have⟨q,g1,g2⟩:=ζg.1 C;have⟨D,g3,g4⟩:=ζg.1 g1;have⟨vs,g5,g6⟩:=ζf.1 g2;simp only[ζc]at g6;obtain⟨e1,rfl,e3⟩:=g6;refine ru u ?_ h;rw[w];exact Jq (F.h z) F.k g3 Zac g5 e3 (λr=>by rw[F.s rfl];rfl)
end
section
variable{N:Nat}[bC α]
theorem Oo(n:Nat)(k:IntKind){a:cu N α}{i:Int}{f:α->a_ γ}(h:∀x,a.at i=some x->Le ((f x).bind e) (cg S c Q (nx S c n cf λp=>cV p.st p.d (.v (.fptr (pa a i))))))
 (B:(gm S c n cf).map (λp=>(p.k,bY S.N p.st.g p.az))=some (.p (.idxA N (bC.size α)),some [cp a,.v (.int k i)]):=by kernel_rfl):Le (((a.at i).bind f).bind e) (cg S c Q cf):=by
 have⟨p,u,b⟩:=fh B;simp at b;have⟨g,z⟩:=kf u;have⟨dr,fr,d,gd,now,C,az,dd,l,fs,st⟩:=p;obtain⟨rfl,D⟩:=b;exact Zr n dr fr (⟨d,gd,now,.p (.idxA N (bC.size α)),az,dd,[]⟩::l) fs st k rfl Zac λx w=>by have:=h x w;simp only[nx,u]at this;omega
theorem SP(n k:Nat)(a:cu N α)(i:Int)(o:Nat)(x:α)(B:a.at i=some x){m:a_ β}(h:Le m (cg S c Q (nx S c n cf λp=>cV p.st p.d (.v (.fptr ((pa a i).drop (o+k)))))))
 (D:(gm S c n cf).map (λp=>(p.k,bY S.N p.st.g p.az,ble (o+k) (bC.size α)))=some (.p (.fieldAddr k),some [.v (.fptr ((pa a i).drop o))],true):=by kernel_rfl):Le m (cg S c Q cf):=by
 have⟨p,u,b⟩:=fh D;simp at b;have⟨e,w⟩:=kf u;have⟨dr,fr,d,gd,now,z,az,dd,l,fs,st⟩:=p;obtain⟨rfl,C,G⟩:=b;exact aaN n dr fr (⟨d,gd,now,.p (.fieldAddr k),az,dd,[]⟩::l) fs st a i o x B rfl Zac (by
  simp only[nx,u]at h;omega)
theorem NO(n sz:Nat)(ag:X')(a:cu N α)(i:Int)(o:Nat)(x:α)(B:a.at i=some x)(v:V)(b:(cut (cells x) o sz).bind (mk ag)=some v){m:a_ β}(h:Le m (cg S c Q (nx S c n cf λp=>cV p.st p.d (.v v))))
 (D:(gm S c n cf).map (λp=>(p.k,bY S.N p.st.g p.az))=some (.r (.load sz ag),some [.v (.fptr ((pa a i).drop o))]):=by kernel_rfl):Le m (cg S c Q cf):=by
 have⟨p,w,u⟩:=fh D;simp at u;have⟨e,z⟩:=kf w;have⟨dr,fr,d,gd,now,C,az,dd,l,fs,st⟩:=p;obtain⟨rfl,G⟩:=u;exact Zp n dr fr (⟨d,gd,now,.r (.load sz ag),az,dd,[]⟩::l) fs st a i o x B b v rfl Zac (by
  simp only[nx,w]at h;omega)
theorem YU(n u:Nat)(st:St)(cs:So){m:a_ β}(B:st.new u=true)(h:Le m (cg S c Q (nx S c n cf λ_=>{st with g:=bP st.g u (.ptr u 0),m:=bP st.m u (.box cs)})))
 (D:(gm S c n cf).map (λp=>(p.d,(XD p.k).map (λz=>z.map SV.v),bY S.N p.st.g p.az,p.st))=some (some u,some cs,some [],st):=by kernel_rfl):Le m (cg S c Q cf):=by
 have⟨p,C,a⟩:=fh D;simp only[ζc]at a;have⟨z,G,w⟩:=fh a.2.1;have⟨k,b⟩:=YO G;refine wA C ?_ h;rw[a.1,b,Ay,a.2.2.1,a.2.2.2];simp[B,pE,w]
theorem Ix(n:Nat)(k:IntKind)(u:Nat){a:cu N α}{i:Int}{f:α->a_ γ}(h:∀x,a.at i=some x->Le ((f x).bind e) (cg S c Q (nx S c n cf λp=>cV p.st p.d (.ptr u (i.toNat*bC.size α+0)))))
 (B:(gm S c n cf).map (λp=>(p.k,bY S.N p.st.g p.az,bn p.st.m u))=some (.p (.idxA N (bC.size α)),some [.ptr u 0,.v (.int k i)],some (bx a)):=by kernel_rfl):Le (((a.at i).bind f).bind e) (cg S c Q cf):=by
 have⟨p,w,b⟩:=fh B;simp at b;have⟨g,C⟩:=kf w;have⟨dr,fr,d,gd,now,D,az,dd,l,fs,st⟩:=p;obtain⟨rfl,G,I⟩:=b;exact Zq n dr fr (⟨d,gd,now,.p (.idxA N (bC.size α)),az,dd,[]⟩::l) fs st k u rfl Zac λx z=>by have:=h x z;simp only[nx,w]at this;omega
theorem Uh(n sz:Nat)(ag:X')(u:Nat)(a:cu N α)(i:Int)(o:Nat)(x:α)(B:a.at i=some x)(v:V)(b:(cut (cells x) o sz).bind (mk ag)=some v){m:a_ β}(h:Le m (cg S c Q (nx S c n cf λp=>cV p.st p.d (.v v))))
 (D:(gm S c n cf).map (λp=>(p.k,bY S.N p.st.g p.az,bn p.st.m u,(!p.dr||p.now||fH p.fr [.ptr u 0])))=some (.r (.load sz ag),some [.ptr u (i.toNat*bC.size α+o)],some (bx a),true):=by kernel_rfl):Le m (cg S c Q cf):=by
 have⟨p,z,w⟩:=fh D;simp at w;have⟨e,C⟩:=kf z;have⟨dr,fr,d,gd,now,G,az,dd,l,fs,st⟩:=p;obtain⟨rfl,I,J,L⟩:=w;exact ZW n dr fr (⟨d,gd,now,.r (.load sz ag),az,dd,[]⟩::l) fs st u a i o x B b v rfl Zac (by
  simp only[nx,z]at h;omega)
end
section
variable{κ ν:Type}[bC κ][DecidableEq κ][Key κ][bC ν]
theorem ZA(n u:Nat)(mp:Mo κ ν)(k:κ)(z:ν){m:a_ β}(h:Le m (cg S c Q (nx S c n cf λp=>cV p.st p.d (cv (oJ mp k z)))))
 (B:(gm S c n cf).map (λp=>(p.k,bY S.N p.st.g p.az,bn p.st.m u,(!p.dr||p.now||fH p.fr [.mp u,cv k])))=some (.r (.lookup (Key.kk κ) (enc z) false),some [.mp u,cv k],some (uV mp),true):=by kernel_rfl):Le m (cg S c Q cf):=by
 have⟨p,w,a⟩:=fh B;simp at a;have⟨b,C⟩:=kf w;have⟨dr,fr,d,gd,now,D,az,dd,l,fs,st⟩:=p;obtain⟨rfl,G,I,J⟩:=a;exact Zd n dr fr (⟨d,gd,now,.r (.lookup (Key.kk κ) (enc z) false),az,dd,[]⟩::l) fs st u mp k z rfl Zac (by
  simp only[nx,w]at h;omega)
theorem XW(n u:Nat)(mp:Mo κ ν)(k:κ)(v:ν){m:a_ β}(h:Le m (cg S c Q (nx S c n cf λp=>cV {p.st with m:=bP p.st.m u (uV (mU mp k v))} p.d (.v .undef))))
 (B:(gm S c n cf).map (λp=>(p.k,bY S.N p.st.g p.az,bn p.st.m u,(!p.dr||p.now)))=some (.l (.mapUp (Key.kk κ)),some [.mp u,cv k,cv v],some (uV mp),true):=by kernel_rfl):Le m (cg S c Q cf):=by
 have⟨p,z,w⟩:=fh B;simp at w;have⟨a,C⟩:=kf z;have⟨dr,fr,d,gd,now,D,az,dd,l,fs,st⟩:=p;obtain⟨rfl,G,I,J⟩:=w;exact aa4 n dr fr (⟨d,gd,now,.l (.mapUp (Key.kk κ)),az,dd,[]⟩::l) fs st u mp k v rfl Zac (by
  simp[nx,z]at h;omega)
end
theorem ZM(n:Nat)(st:St){rs:aZ RV}{e:γ->a_ T2}{r:γ}(svs:So){ys:T2}(B:nO (iS st.m 8) svs=some ys)(D:e r=some ys)
 (h:(iI S c n cf.1 cf.2.1 cf.2.2).map (λq=>(q.1,q.2.2,lC q.2.2 rs))=some (.rt,st,some svs):=by kernel_rfl):Le ((some r).bind e) (cg S c (qR rs) cf):=by
 have⟨⟨fo,fs,st'⟩,u,a⟩:=fh h;simp at a;obtain⟨rfl,rfl,w⟩:=a;exact Z3 n svs B (by rw[u,w]) D
end
end Go.VE
namespace Go.VE
variable[b7]
section
variable{S:Sys}{c:cm}{β γ δ α:Type}[bC α]{Q:Out×St->a_ β}{e:γ->a_ β}{cf:Cf}
def oM(s x:Sl α):a_ (Sl α):=if x.l=[]then some s else if s.l.length+x.l.length<=2147483648 then some (.row (s.l++x.l))else none
theorem W0(m:Tb bM)(n w:Nat)(x:Sl α)(B:n=bC.size α)(D:bn m w=some (cI x)):jK m n (.own w)=some (rows x.l):=by rw[FQ,D,CB n x B]
theorem KO(l:aZ α):rows l=[]↔l=[]:=by unfold rows;simp
theorem TR(a b:aZ α):rows a++rows b=rows (a++b):=by unfold rows;simp
theorem Kr(a:aZ α):(rows a).length=a.length:=by unfold rows;simp
theorem XU{st:St}{dr now:X'}{fr:S'}{az:R0}{d n o:Nat}{s x:Sl α}{B:SV}(U:bY S.N st.g az=some [.own o,B])(hd:(!dr||now)=true)(D:bn st.m o=some (cI s))(W:jK st.m n B=some (rows x.l))(G:n=bC.size α)(J:St.new {st with m:=eF o st.m} d=true):
 fW S c dr fr ⟨some d,none,now,.l (.append n),az,[],[]⟩ st=(oM s x).bind λY=>some {st with g:=bP st.g d (.own d),m:=bP (eF o st.m) d (cI Y)}:=by
 rw[yK,U];simp only[ζb,hd,if_true,Cg,W0 st.m n o s G D,W];unfold oM
 by_cases h:x.l=[]
 .rw[if_pos h,(KO x.l).2 h];simp only[AA,D,if_pos J,ζb];rfl
 rw[if_neg h];have a:rows x.l≠[]:=λe=>h ((KO _).1 e)
 have w:AA st d n (.own o) (some (rows s.l)) (some (rows x.l))=if(rows s.l).length+(rows x.l).length<=2147483648/\KN (.own o)=true then(if St.new {st with m:=giveUp st.m (.own o)} d then some (.own d,{st with m:=bP (giveUp st.m (.own o)) d (.sl .row n (rows s.l++rows x.l))})else none)else none:=by unfold AA;generalize rows x.l=r at *;cases r with|nil=>exact absurd rfl a|cons y r=>rfl
 rw[w,Kr,Kr,TR]
 by_cases u:s.l.length+x.l.length<=2147483648
 .rw[if_pos ⟨u,rfl⟩,if_pos (show St.new {st with m:=giveUp st.m (.own o)} d=true from J),if_pos u];rw[ζb,ζb,G];rfl
 rw[if_neg (λk=>u k.1),if_neg u];rfl
theorem ZQ(n o u:Nat)(D:SV){s x:Sl α}{f:Sl α->a_ γ}(G:∀p,gm S c n cf=some p->jK p.st.m (bC.size α) D=some (rows x.l))
 (h:∀B,oM s x=some B->Le ((f B).bind e) (cg S c Q (nx S c n cf λp=>{p.st with g:=bP p.st.g u (.own u),m:=bP (eF o p.st.m) u (cI B)})))
 (J:(gm S c n cf).map (λp=>(p.d,p.k,bY S.N p.st.g p.az,(!p.dr||p.now),bn p.st.m o,St.new {p.st with m:=eF o p.st.m} u))=some (some u,.l (.append (bC.size α)),some [.own o,D],true,some (cI s),true):=by kernel_rfl):Le (((oM s x).bind f).bind e) (cg S c Q cf):=by
 have⟨p,w,a⟩:=fh J;simp only[ζc]at a;refine ru w ?_ h;rw[a.1,a.2.1];exact Le.of_eq (XU a.2.2.1 a.2.2.2.1 a.2.2.2.2.1 (G p w) rfl a.2.2.2.2.2)
theorem OL(m:Tb bM)(x:Sl α):jK m (bC.size α) (.v (bZ x))=some (rows x.l):=by cases x<;>simp[bZ,Sl.k,Sl.l,o9,jK,rows]
theorem zA(n o u:Nat){s x:Sl α}{f:Sl α->a_ γ}
 (h:∀B,oM s x=some B->Le ((f B).bind e) (cg S c Q (nx S c n cf λp=>{p.st with g:=bP p.st.g u (.own u),m:=bP (eF o p.st.m) u (cI B)})))
 (D:(gm S c n cf).map (λp=>(p.d,p.k,bY S.N p.st.g p.az,(!p.dr||p.now),bn p.st.m o,St.new {p.st with m:=eF o p.st.m} u))=some (some u,.l (.append (bC.size α)),some [.own o,.v (bZ x)],true,some (cI s),true):=by kernel_rfl):Le (((oM s x).bind f).bind e) (cg S c Q cf):=
 ZQ n o u _ (λp _=>OL p.st.m x) h D
end
theorem sN{α:Type}{l:aZ α}{i:Nat}{x:α}(h:l[i]?=some x):l.set i x=l:=by obtain⟨hi,rfl⟩:=ζe.1 h;exact List.set_getElem_self hi
open Classical in
noncomputable def D9(E:Env)(g:Y')(cb:T2)(a b:V):a_ V:=if h:∃n y,cr (run E n) g (a::b::cb) []=some y then some (Classical.choose (choose_spec h))else none
theorem Gc{E:Env}{g:Y'}{cb:T2}{a b y:V}(h:D9 E g cb a b=some y):∃n,∀k,n<=k->cr (run E k) g (a::b::cb) []=some y:=by
 unfold D9 at h;split at h;next c=>cases h;exact⟨_,λk d=>pI (pJ E d) (choose_spec (choose_spec c))⟩
 cases h
theorem MZ{E:Env}{g:Y'}{cb:T2}{a b y:V}{n:Nat}(h:cr (run E n) g (a::b::cb) []=some y):D9 E g cb a b=some y:=by have d:∃n y,cr (run E n) g (a::b::cb) []=some y:=⟨n,y,h⟩;cases c:D9 E g cb a b with|none=>unfold D9 at c;rw[dif_pos d]at c;cases c|some z=>have⟨m,u⟩:=Gc c;have:=u _ (Nat.le_max_right n m);rw[pI (pJ E (Nat.le_max_left n m)) h]at this;cases this;rfl
theorem FO{n:Nat}{p:_root_.Fin n->Nat->Prop}(h:∀i,∃N,∀k,N<=k->p i k):∃N,∀i k,N<=k->p i k:=by induction n with|zero=>exact⟨0,λi=>i.elim0⟩|succ n u=>have⟨N,w⟩:=u (p:=λi=>p i.succ) λi=>h i.succ;have⟨M,a⟩:=h 0;refine⟨max N M,λi k b=>?_⟩;refine _root_.Fin.cases (a k Zaa) (λj=>w j k Zaa) i
def jG(x:T2):V:=x.headD .undef
def vI(es:Nat)(xs:T'):X':=es==1&&xs.all (λx=>x.length==1&&x.all V.one)&&decide (xs.length<=2147483648)
theorem AM{es:Nat}{xs:T'}(h:vI es xs=true):es=1/\xs.length<=2147483648/\∀(i:Nat)x,xs[i]?=some x->x=[jG x]/\(jG x).one=true:=by unfold vI at h;simp only[ζh,beq_iff_eq,all_eq_true,decide_eq_true_eq]at h;refine⟨h.1.1,h.2,λi x w=>?_⟩;have⟨a,z⟩:=h.1.2 x (mem_of_getElem? w);obtain⟨u,rfl⟩:=List.length_eq_one_iff.1 a;exact⟨rfl,z u Zab⟩
section
variable{H:bp}{Z:Nat->Prop}
theorem dG.Md{k:Nat}{xs ys:T2}(h:dG H Z xs ys)(B:V.mE k xs=true):borrows k H ys=some xs:=lQ h.1 λj u v a b=>(h.2 j u v a b).borrow k (nG.1 B j u a)
theorem dG.borrows{xs ys:T2}(h:dG H Z xs ys):∃n,∀k,n<=k->borrows k H ys=some xs:=by have⟨n,u⟩:=nr xs;exact⟨n,λk a=>h.Md (qp a u)⟩
theorem Q4{es:Nat}{xs:T'}(h:vI es xs=true){rs:T'}(B:gN H Z xs rs):dG H Z (xs.map jG) rs.flatten:=by induction xs generalizing rs with|nil=>have:=B.1;simp at this;have:rs=[]:=List.eq_nil_of_length_eq_zero (by simpa using this.symm);subst this;exact .nil|cons x xs D=>have⟨d,L,G⟩:=AM h;cases rs with|nil=>have:=B.1;simp at this|cons r rs=>have⟨e,_⟩:=G 0 x rfl;have C:=B.2 0 x r rfl rfl;rw[e]at C;obtain⟨u,O,rfl,c,w⟩:=C.inv;rw[w.c_];have z:vI es xs=true:=(by unfold vI at h⊢;simp only[all_cons,ζh,length_cons,decide_eq_true_eq]at h⊢;exact⟨⟨h.1.1,h.1.2.2⟩,Zaa⟩);exact .cons c (D z (rs:=rs) ⟨by have:=B.1;simpa using this,λj a b I J=>B.2 (j+1) a b I J⟩)
end
noncomputable def uz(E:Env)(g:Y')(cb:T2)(a b:V):QQ:=match D9 E g cb a b with|some (.int .i64 c)=>some c|_=>none
theorem SB{E:Env}{g:Y'}{cb:T2}{a b:V}{c:Int}(h:uz E g cb a b=some c):∃n,∀k,n<=k->cr (run E k) g (a::b::cb) []=some (.int .i64 c):=by
 unfold uz at h;split at h;next c' d=>cases h;exact Gc d
 cases h
noncomputable def Bd(E:Env)(es:Nat)(xs:T'):T2->a_ T'
 |[.clo g [] cb]=>match xs with
  |[]=>some []|x::l=>if vI es (x::l)&& !E.keep g then
   let t:_root_.Fin (l.length+1)->_root_.Fin (l.length+1)->QQ:=λi j=>uz E g cb (jG (((x::l)[i.1]?).getD [])) (jG (((x::l)[j.1]?).getD []))
   if CP t then some ((r_ l.length (qH t)).toList.map λi=>((x::l)[i.1]?).getD [])else none
   else none
 |_=>none
noncomputable def uJ(E:Env):GK:=⟨false,Bd E⟩
theorem EH{n:Nat}{lt:_root_.Fin (n+1)->_root_.Fin (n+1)->X'}(h:Sort.SWO lt):(r_ n lt).size=n+1:=by rw[Dz];have:=(Sort.pdq_sorts lt h (List.finRange (n+1)).toArray 0 (n+1) (Lib.bitLen (n+1)) true true (zero_le _) Zab (Or.inl rfl)).1.1;simpa using this
theorem S4 {E:Env} {f:FuncId} (hk:E.keep f=true) (ho:E.own f=false) (hs:E.sort f=true) (hf:E.ft f=none):oL E f (uJ E) where
 keep:=hk
 own:=ho
 le:=by
  intro es xs vs ys h;simp only[uJ,Bd]at h;split at h
  .split at h
   .cases h;exact⟨Nat.le_refl _,λ_=>rfl⟩
   split at h
   .split at h
    next ht=>cases h;have:=EH (rE ht).2;simp only[List.length_map,Array.length_toList,List.length_cons,this];exact⟨Nat.le_refl _,λ_=>trivial⟩
    cases h
   cases h
  cases h
 none:=by
  intro es vs ys h H Z ws w hw he;simp only[uJ,Bd]at h;split at h
  .obtain⟨w2,r,rfl,h1,h2⟩:=hw.inv;rw[h2.c_];refine⟨1,[],λk hk=>?_⟩
   cases k with
   | zero=>omega
   | succ k=>rcases he with rfl|rfl <;> simp[run,kK,hf,hs,rG,uJ]
  cases h
 row:=by
  intro es xs vs ys h H Z ws id off rs hw O C I z hz;simp only[uJ,Bd]at h;split at h
  .rename_i g cb;obtain⟨w2,r,rfl,h1,h2⟩:=hw.inv;rw[h2.c_];obtain⟨a',J,rfl,ha,aa⟩:∃a' J,w2=.clo g a' J/\dG H Z [] a'/\dG H Z cb J:=h1.kZ;rw[ha.c_]at *;split at h
   .cases h;refine⟨1,rs,[],λk hk=>?_,rfl,⟨rfl,λj u v hu=>by simp at hu⟩,z⟩
    cases k with
    | zero=>omega
    | succ k=>
     have:H.set id (.row es rs)=H:=sN O;simp[run,kK,hf,hs,rG,uJ,this]
   rename_i x l;split at h
   .rename_i D;simp only[ζh,Bool.not_eq_true']at D;obtain⟨c1,c3⟩:=D;obtain⟨rfl,Q,ae⟩:=AM c1;split at h
    .rename_i ht;cases h;obtain⟨G,S⟩:=rE ht;have B:∀i,Z i->Z i/\bt (H.set id .dead) i=bt H i:=λi hi=>⟨hi,by
      unfold bt;rw[List.getElem?_set_ne];rintro rfl;exact hz hi⟩
     have T:=I.mono B;obtain⟨M1,U⟩:=(Q4 c1 T).borrows;simp only[List.length_cons]at U;obtain⟨M2,W⟩:=(aa.mono B).borrows;obtain⟨N,hN⟩:=FO (p:=λi k=>∀j:_root_.Fin (l.length+1),cr (run E k) g (jG (((x::l)[i.1]?).getD [])::jG (((x::l)[j.1]?).getD [])::cb) []=some (.int .i64 ((uz E g cb (jG (((x::l)[i.1]?).getD [])) (jG (((x::l)[j.1]?).getD []))).getD 0))) (λi=>by
      obtain⟨N,hN⟩:=FO (p:=λ(j:_root_.Fin (l.length+1)) k=>cr (run E k) g (jG (((x::l)[i.1]?).getD [])::jG (((x::l)[j.1]?).getD [])::cb) []=some (.int .i64 ((uz E g cb (jG (((x::l)[i.1]?).getD [])) (jG (((x::l)[j.1]?).getD []))).getD 0))) (λj=>by
       obtain⟨c,hc⟩:=G i j;obtain⟨n,hn⟩:=SB hc;exact⟨n,λk hk=>by rw[hn k hk,hc];rfl⟩)
      exact⟨N,λk hk j=>hN j k hk⟩)
     have X:∀k,N<=k->jD (run E k) g ((x::l).map jG) cb l.length=λi j=>uz E g cb (jG (((x::l)[i.1]?).getD [])) (jG (((x::l)[j.1]?).getD [])):=λk hk=>by
      funext i j
      obtain⟨c,hc⟩:=G i j;have e1:∀i:_root_.Fin (l.length+1),((x::l).map jG)[i.1]? = some (jG (((x::l)[i.1]?).getD [])):=λi=>by
       have:i.1<(x::l).length:=i.2;rw[List.getElem?_map,ζd this];rfl
      unfold jD;rw[e1 i,e1 j];simp only[hN i k hk j];rw[hc];rfl
     have ab:=EH S;generalize hL:(r_ l.length (qH λi j:_root_.Fin (l.length+1)=>uz E g cb (jG (((x::l)[i.1]?).getD [])) (jG (((x::l)[j.1]?).getD [])))).toList=L at *
     have ad:L.length=l.length+1:=by rw[<-hL];simpa using ab
     simp only[List.length_cons]at C I Q;refine⟨max N (max M1 M2)+1,sQ rs off l.length L,[],λk hk=>?_,?_,?_,?_⟩
     .cases k with
      | zero=>omega
      | succ k=>
       simp only[run,kK,hf,hs,if_true,rG,O,uJ,Bool.false_eq_true,if_false,List.length_cons];rw[if_pos ⟨trivial,trivial,C,by omega,c3⟩,show (run E k).lv=k from pG E k,U k Zaa,W k Zaa]
       simp only[X k Zaa,ht,if_true,hL,List.append_nil]
     .simp[sQ,ad];omega
     .have e:((sQ rs off l.length L).drop off).take (L.map λi=>((x::l)[i.1]?).getD []).length=L.map λi=>(rs[off+i.1]?).getD []:=by
       unfold sQ;have h0:(rs.take off).length=off:=by simp;omega
       rw[List.append_assoc,List.drop_append_of_le_length Zaa,List.drop_eq_nil_of_le Zaa,List.nil_append,List.length_map,List.take_append_of_le_length Zab,List.take_of_length_le Zab]
      rw[e];refine⟨by simp,λj a b ha hb=>?_⟩
      rw[List.getElem?_map]at ha hb;obtain⟨i,hi,rfl⟩:=ζf.1 ha;rw[hi]at hb;simp only[Option.map_some,ζa]at hb;subst hb;have Y:i.1<(x::l).length:=i.2;have hr:off+i.1<rs.length:=by have:=i.2;omega
      refine I.2 i.1 _ _ (by rw[ζd Y];rfl) ?_
      rw[List.getElem?_take,if_pos i.2,List.getElem?_drop,ζd hr];rfl
     intro c hc u hu;unfold sQ at hc;rcases List.mem_append.1 hc with hc|hc
     .rcases List.mem_append.1 hc with hc|hc
      .exact z c (List.mem_of_mem_take hc) u hu
      obtain⟨i,_,rfl⟩:=List.mem_map.1 hc;have hr:off+i.1<rs.length:=by have:=i.2;omega
      rw[ζd hr]at hu;exact z _ (List.getElem_mem hr) u hu
     exact z c (List.mem_of_mem_drop hc) u hu
    cases h
   cases h
  cases h
def bz(N:Nat->Y')(F:WP):Arg->V
 |.s n=>get F n|.k c=>c|.f s=>.clo (N s) [] []
def bK(E:Env)(N:Nat->Y')(call:dL)(b:a_ Nat)(now:X')(k:K)(vs:T2)(H:bp):a_ (V×bp):=
 match k,b with
 |.p p,_=>(bq N p vs).map λv=>(v,H)|.r r,none=>(fD H r vs).map λv=>(v,H)|.r r,some b=>(fD (H.take b) r vs).map λv=>(v,H)|.a a,none=>(iU a vs).map λx=>(x.2.val H.length,H++[x.1])|.l l,none=>fQ H l vs|.l (.store n),some _=>if now then fQ H (.store n) vs else none|.c,none=>match vs with
  |.clo g a c::u=>if E.keep g then fI E call g (a++u++c) H else match cr call g (a++u++c) H with
   |some y=>if y.scalar then some (y,H)else none|none=>none
  |_=>none
 |.c,some b=>match vs with
  |.clo g a c::u=>if E.keep g then none else match cr call g (a++u++c) (H.take b)with
   |some y=>if y.scalar then some (y,H)else none|none=>none
  |_=>none
 |_,_=>none
def bu(F:WP):a_ Nat->V->WP
 |none,_=>F|some d,v=>set F d v
def cK(E:Env)(N:Nat->Y')(call:dL)(b:a_ Nat):SW->WP->bp->a_ (WP×bp)
 |[],F,H=>some (F,H)|o::r,F,H=>match o.gd with
  |none=>match bK E N call b o.now o.k (o.az.map (bz N F)) H with
   |some (v,H')=>cK E N call b r (bu F o.dst v) H'|none=>none
  |some _=>none
section
variable{X:CX}{N:Nat->Y'}{call:dL}{F F':WP}{H H':bp}
theorem Mt(B:∀f s,X.nm f=some s->N s=f){o:UV}{x:Arg}(h:qA X.nm o=some x):ev F o=some (bz N F x):=by cases o with|tmp t=>simp[qA]at h;subst h;rfl|const w=>simp[qA]at h;split at h;rename_i c a;split at h;simp at h;subst h;exact a;grind;grind|func f=>obtain⟨s,u,rfl⟩:=ζf.1 h;show some (V.clo f [] [])=some (.clo (N s) [] []);grind|global i=>simp[qA]at h;split at h;rename_i c a;split at h;simp at h;subst h;simp[ev,a];rfl;grind;grind
theorem xG(G:∀f s,X.nm f=some s->N s=f):∀{os:aZ UV}{B:R0},os.mapM (qA X.nm)=some B->fU F os=some (B.map (bz N F))
 |[],B,h=>by simp at h;subst h;rfl|o::os,B,h=>by simp[ζg]at h;obtain⟨x,J,xs,D,rfl⟩:=h;simp[fU,Mt G J,xG G D]
theorem BX(D:∀f s,X.nm f=some s->N s=f){B:X'}{ops:R'}{i:Nat}{o:Oper}{ro:RO}(h:oU X B ops i o=some ro)(g:ro.gd=none):
 o.dst=ro.dst/\AD X.nt o.dst=true/\gE ops F o=true/\((CU X.E N F o.op (ro.az.map (bz N F)) ro.k/\ro.now=(B&&dO ops i)/\(B=true->dO ops i=false->∀a',qC ops i a'=[]\/∀t,o.op≠.load t (.tmp a')))\/(∃n,ro.k=.l (.storeF n))\/(∃n a,ro.k=.r (.loadF n a))\/(B=true/\EJ X.E ops i=true/\dz o.op=.alloc/\(∃p,ro.k=.p p/\(p=.emptyC\/(∃a b,p=.makeC a b)\/∃a b c d,p=.buildC a b c d)/\∀y,bq N p (ro.az.map (bz N F))=some y->qM X.E F o.op=some y))\/∃n,ro.k=.e n):=by
 unfold oU at h;split at h
 .rename_i hd;split at h
  .rename_i gd k os u hr;split at h
   .split at h
    .rename_i z;simp only[ζh]at z;have L:∀{gd:a_ (Nat×X')},DX ops o=some gd->gd=none->gE ops F o=true:=λ{gd}u g=>by
      subst g;unfold gE;unfold DX at u
      cases G:o.guard with
      |none=>rfl|some O=>rw[G]at u;have⟨j,b⟩:=O;have⟨d,_,e⟩:=ζf.1 u;cases e
     split at h
     next Q=>obtain⟨S,C,rfl⟩:=ζf.1 h;have w:=jW D hr (xG (F:=F) D C);exact⟨rfl,hd,L u g,.inr (.inr (.inr (.inl ⟨z.1,z.2,w.1,_,rfl,.inr (.inl ⟨_,_,rfl⟩),λy I=>E0 ⟨_,_,_,by assumption⟩ w I⟩)))⟩
     .rename_i Q;split at h
      next T=>obtain⟨U,rfl,rfl⟩:=T;obtain⟨S,C,rfl⟩:=ζf.1 h;have w:=jW D hr (xG (F:=F) D C);exact⟨rfl,hd,L u g,.inr (.inr (.inr (.inl ⟨z.1,z.2,w.1,_,rfl,.inl rfl,λy I=>EU ⟨_,_,_,by assumption⟩ w U I⟩)))⟩
      obtain⟨S,C,rfl⟩:=ζf.1 h;have w:=jW D hr (xG (F:=F) D C);exact⟨rfl,hd,L u g,.inr (.inr (.inr (.inl ⟨z.1,z.2,w.1,_,rfl,.inr (.inr ⟨_,_,_,_,rfl⟩),λy I=>Em ⟨_,_,_,by assumption⟩ w I⟩)))⟩
     cases h
    obtain⟨S,C,rfl⟩:=ζf.1 h;simp only at g;subst g;refine⟨rfl,hd,?_,?_⟩
    .unfold gE;unfold DX at u
     cases G:o.guard with
     |none=>rfl|some O=>rw[G]at u;have⟨j,b⟩:=O;have⟨d,_,e⟩:=ζf.1 u;cases e
    rcases Fh B ops i k os with⟨e,W⟩|⟨_,_,n,a,l,Y,_,_,_,e⟩|⟨_,_,n,ag,a,_,_,e⟩|⟨_,_,_,n,_,e⟩
    .rw[e]at C⊢;refine .inl ⟨jW D hr (xG D C),rfl,λhd Z a'=>?_⟩
     by_cases J:∃t,o.op=.load t (.tmp a')
     .have⟨t,J⟩:=J;rw[J]at hr;simp only[resolve]at hr;have⟨d,_,e⟩:=ζf.1 hr;simp only[ζc]at e;exact .inl (W _ _ a' hd Z e.1.symm e.2.symm)
     exact .inr λt h=>J ⟨t,h⟩
    .rw[e];exact .inr (.inl ⟨n,rfl⟩)
    .rw[e];exact .inr (.inr (.inl ⟨n,ag,rfl⟩))
    rw[e];exact .inr (.inr (.inr (.inr ⟨n,rfl⟩)))
   simp at h
  simp at h
 simp at h
theorem Jt{a:Nat}{dst:a_ Nat}(h:AD a dst=true)(v:V):kP a F dst v=some (bu F dst v):=by cases dst with|none=>rfl|some d=>simp[AD]at h;simp[kP,if_pos h,bu]
theorem Yv(J:∀f s,X.nm f=some s->N s=f){ops:R'}{i:Nat}{o:Oper}{ro:RO}(h:oU X false ops i o=some ro)(q:ro.gd=none){v:V}(d:bK X.E N call none ro.now ro.k (ro.az.map (bz N F)) H=some (v,H')):
 g_ X.E call X.nt ops none o F H=some (bu F ro.dst v,H'):=by
 have⟨j,I,L,u⟩:=BX (F:=F) J h q;have hd:dJ X.E call ops none F H o.op=some (v,H'):=by
  rcases u with⟨u,_⟩|⟨n,u⟩|⟨n,a,u⟩|⟨u,_⟩|⟨n,u⟩;generalize t:ro.k=k at d u;generalize ro.az.map (bz N F)=U at d u;unfold dJ;cases k with|p p=>have⟨c,e⟩:=u;have⟨w,B,C⟩:=ζf.1 d;rw[c];simp only[As (e w B),map_some];rw[C]|r r=>have⟨c,e⟩:=u;have⟨w,B,C⟩:=ζf.1 d;rw[c];simp only[e H w B,map_some];rw[C]|a a=>have⟨c,e⟩:=u;have⟨⟨ob,m⟩,B,C⟩:=ζf.1 d;rw[c];simp only[sR,false_eq_true,if_false,e _ B];exact congrArg some C|l l=>have⟨c,e⟩:=u;rw[c];exact e H _ d|e n=>exact u.elim|b=>simp[bK]at d|c=>obtain⟨c,f,O,rfl,e⟩:=u;rw[c];simp only[bK]at d;split at d;rename_i g a b Q D;simp only[List.cons.injEq]at D;obtain⟨rfl,rfl⟩:=D;split at d;(next z=>simp only[e,mL,z,Bool.and_self,if_true];exact d);rename_i z;split at d;rename_i y S;split at d;(next G=>simp only[e,mL,z,Bool.false_and,false_eq_true,if_false,S,G,if_true];exact d);simp at d;simp at d;simp at d
  .rw[u]at d;exfalso;have:∀ops i k os,(zl false ops i k os).1=k:=λ_ _ _ _=>rfl;unfold oU at h;simp only[Bool.false_and,false_eq_true,if_false]at h;split at h
   .split at h
    .rename_i gd k os T hr;split at h
     .obtain⟨O,W,rfl⟩:=ζf.1 h;simp only[this]at u;subst u;unfold resolve at hr;(repeat' split at hr)<;>first|(simp at hr;done)|(have⟨_,_,e⟩:=ζf.1 hr;simp at e;done)
     simp at h
    simp at h
   first|(simp at h;done)|contradiction
  rw[u]at d;simp[bK,fD]at d;cases u;rw[u]at d;simp[bK]at d
 unfold g_;rw[L,if_pos rfl,hd];simp only[j,Jt (j▸I),map_some]
theorem Kw(D:∀f s,X.nm f=some s->N s=f){ops:R'}:∀(rest:R'){i:Nat}{B:SW}{F:WP}{H:bp},mj X false ops i rest=some B->cK X.E N call none B F H=some (F',H')->nJ X.E call X.nt ops rest F H=some (F',H')
 |[],i,B,F,H,hc,h=>by simp[mj]at hc;subst hc;exact h|o::rest,i,B,F,H,hc,h=>by simp[mj]at hc;split at hc;rename_i ro rs a G;simp at hc;subst hc;simp[cK]at h;split at h;rename_i b;split at h;(next v H1 c=>simp[nJ,Yv D a b c];exact Kw D rest G h);grind;grind;grind
theorem Vi{ops:R'}{i:Nat}{op:Op}(h:∀t a',op=.load t (.tmp a')->qC ops i a'=[]):pg ops i F op=true:=by unfold pg;grind
theorem Xx(Y:∀f s,X.nm f=some s->N s=f){ops:R'}{b i:Nat}{o:Oper}(m:ops[i]?=some o){ro:RO}(h:oU X true ops i o=some ro)(q:ro.gd=none){v:V}(d:bK X.E N call (some b) ro.now ro.k (ro.az.map (bz N F)) H=some (v,H')):
 g_ X.E call X.nt ops (some (b,i)) o F H=some (bu F ro.dst v,H'):=by
 have⟨j,Z,x,u⟩:=BX (F:=F) Y h q;have hd:dJ X.E call ops (some (b,i)) F H o.op=some (v,H'):=by
  rcases u with⟨u,z,B⟩|⟨n,u⟩|⟨n,a,u⟩|⟨_,I,J,p,u,_,L⟩|⟨n,u⟩;generalize E:ro.k=k at d u;generalize ro.az.map (bz N F)=vs at d u;unfold dJ
  cases k with
  |p p=>have⟨c,e⟩:=u;have⟨w,C,D⟩:=ζf.1 d;rw[c];simp only[As (e w C),map_some];rw[D]|r r=>have⟨c,e⟩:=u;have⟨w,C,D⟩:=ζf.1 d;have O:pg ops i F o.op=true:=Vi λt a' e=>(by by_cases U:dO ops i=true;exact Ee m e U;rcases B rfl (by simpa using U) a' with h|h;exact h;exact absurd e (h t));rw[c];simp only[e _ w C,O,if_true];rw[D]|a a=>simp[bK]at d|l l=>have⟨c,e⟩:=u;cases l with|store n=>simp only[bK]at d;split at d;(next W=>rw[z,Bool.true_and]at W;rw[c];simp only[W,Bool.true_or,if_true];exact e H _ d);simp at d|_=>simp[bK]at d
  |e n=>exact u.elim|b=>simp[bK]at d|c=>obtain⟨c,f,K,rfl,e⟩:=u;rw[c];simp only[bK]at d;split at d;rename_i g a b M G;simp only[List.cons.injEq]at G;obtain⟨rfl,rfl⟩:=G;split at d;simp at d;rename_i Q;split at d;rename_i y A;split at d;(next S=>simp only[e,mL,Q,Bool.false_and,false_eq_true,if_false,A,S,if_true];exact d);simp at d;simp at d;simp at d
  rw[u]at d;simp[bK]at d;rw[u]at d;simp[bK,fD]at d;rw[u]at d;have⟨w,C,D⟩:=ζf.1 d;have T:=L w C;unfold dJ;rw[J];simp only[sR,I,if_true,T,map_some];exact congrArg some D;rw[u]at d;simp[bK]at d
 unfold g_;rw[x,if_pos rfl,hd];simp only[j,Jt (j▸Z),map_some]
theorem Kg(D:∀f s,X.nm f=some s->N s=f){ops:R'}{b:Nat}:∀(rest:R'){i:Nat}{B:SW}{F:WP}{H:bp},ops.drop i=rest->mj X true ops i rest=some B->cK X.E N call (some b) B F H=some (F',H')->
 kO X.E call X.nt ops b (range' i rest.length) F H=some (F',H')
 |[],i,B,F,H,_,hc,h=>by simp[mj]at hc;subst hc;exact h|o::rest,i,B,F,H,hd,hc,h=>by simp[mj]at hc;split at hc;rename_i ro rs a J;simp at hc;subst hc;simp[cK]at h;split at h;rename_i c;split at h;rename_i v H1 d;have G:ops[i]?=some o:=(by have:(ops.drop i)[0]?=some o:=Zac;grind);have u:ops.drop (i+1)=rest:=(by rw[<-List.drop_drop,hd];rfl);simp[List.range'_succ,kO,G,Xx D G a c d];exact Kg D rest u J h;grind;grind;grind
def zL(l:SW):X':=l.all λo=>(match o.k with|.a _|.l (.storeF _)|.r (.loadF ..)|.p (.makeC ..)|.p (.buildC ..)|.p .emptyC|.e _=>false|_=>true)&&o.gd.isNone
theorem E8(J:∀f s,X.nm f=some s->N s=f){ops:R'}:∀(rest:R'){i:Nat}{G:SW},mj X true ops i rest=some G->zL G=true->rest.any (λo=>dz o.op==.alloc)=false
 |[],_,_,_,_=>rfl|o::rest,i,G,hc,D=>by simp only[mj]at hc;split at hc;rename_i ro rs c U;simp only[ζa]at hc;subst hc;simp only[zL,all_cons,ζh,Option.isNone_iff_eq_none]at D;have⟨_,_,_,B⟩:=BX (F:=[]) J c D.1.2;rw[List.any_cons,E8 J rest U D.2,Bool.or_false];rcases B with⟨B,_⟩|⟨n,B⟩|⟨n,a,B⟩|⟨_,_,_,p,B,u,_⟩|⟨n,B⟩;(cases b:ro.k with|a p=>have:=D.1.1;rw[b]at this;cases this|e p=>have:=D.1.1;rw[b]at this;cases this|_=>rw[b]at B;rw[B.1];rfl);have:=D.1.1;rw[B]at this;cases this;have:=D.1.1;rw[B]at this;cases this;have:=D.1.1;rw[B]at this;rcases u with rfl|⟨_,_,rfl⟩|⟨_,_,_,_,rfl⟩<;>cases this;have:=D.1.1;rw[B]at this;cases this;simp at hc
def iN(E:Env)(N:Nat->Y')(call:dL)(lf:Nat):RC->WP->bp->a_ (Out×WP×bp)
 |.skip,F,H=>some (.norm,F,H)|.ops l,F,H=>(cK E N call none l F H).map λx=>(.norm,x.1,x.2)|.qG l,F,H=>if zL l then(cK E N call (some H.length) l F H).map λx=>(.norm,x.1,x.2)else none|.seq a b,F,H=>match iN E N call lf a F H with
  |some (.norm,F',H')=>iN E N call lf b F' H'|r=>r
 |.cond x a b,F,H=>match bz N F x with
  |.bool t=>if t then iN E N call lf a F H else iN E N call lf b F H|_=>none
 |.block id c,F,H=>match iN E N call lf c F H with
  |some (.exit B,F',H')=>if B=id then some (.norm,F',H')else some (.exit B,F',H')|r=>r
 |.loop c,F,H=>lX (iN E N call lf c) lf F H|.exit id,F,H=>some (.exit id,F,H)|.ret,F,H=>some (.ret,F,H)|_,_,_=>none
theorem Jy{f g:WP->bp->a_ (Out×WP×bp)}(h:∀F H r,f F H=some r->g F H=some r):∀(k:Nat)(F:WP)(H:bp)(r:Out×WP×bp),lX f k F H=some r->lX g k F H=some r
 |0,F,H,r,hr=>by simp[lX]at hr|k+1,F,H,r,hr=>by simp only[lX]at hr⊢;cases B:f F H with|none=>rw[B]at hr;simp at hr|some q=>rw[B]at hr;rw[h F H q B];have⟨o,F1,H1⟩:=q;cases o with|norm=>exact Jy h k F1 H1 r hr|exit _=>exact hr|ret=>exact hr
theorem S7(D:∀f s,X.nm f=some s->N s=f){lf:Nat}:∀(j:RC)(code:Code)(F:WP)(H:bp)(r:Out×WP×bp),bV X false code=some j->iN X.E N call lf j F H=some r->exec X.E call lf false X.nt code F H=some r:=by
 intro j
 induction j with
 |skip=>
  intro code F H r d h;simp only[iN,ζa]at h;subst h
  cases code with
  |skip=>rfl|label _=>rfl|region id ops u=>simp only[bV]at d;(repeat' split at d)<;>first|(simp at d;done)|(have⟨_,_,e⟩:=ζf.1 d;cases e)
  |_=>simp only[bV]at d;(repeat' split at d)<;>first|(simp at d;done)|(have⟨_,_,e⟩:=ζf.1 d;cases e)|cases d
 |ops l=>intro code F H r d h;cases code with|region id ops u=>simp only[bV]at d;split at d;split at d;have⟨_,_,e⟩:=ζf.1 d;cases e;simp at d;rename_i hd;have⟨T,G,e⟩:=ζf.1 d;cases e;simp only[iN]at h;obtain⟨⟨F',H'⟩,k,rfl⟩:=ζf.1 h;simp only[exec,kj,hd];rw[if_neg Zab,Kw D _ G k];rfl|_=>simp only[bV]at d;(repeat' split at d)<;>first|(simp at d;done)|(have⟨_,_,e⟩:=ζf.1 d;cases e)|cases d
 |qG l=>intro code F H r d h;cases code with|region id ops u=>simp only[bV]at d;split at d;rename_i hd;split at d;rename_i I;have⟨T,G,e⟩:=ζf.1 d;cases e;simp only[iN]at h;split at h;(next U=>obtain⟨⟨F',H'⟩,k,rfl⟩:=ζf.1 h;have W:tf ops.toList=false:=E8 D _ G U;have:=Kg D ops.toList (i:=0) rfl G k;rw[<-List.range_eq_range']at this;simp only[exec,kj,hd,I,if_true,W,false_eq_true,if_false,this];rfl);simp at h;simp at d;have⟨_,_,e⟩:=ζf.1 d;cases e|_=>simp only[bV]at d;(repeat' split at d)<;>first|(simp at d;done)|(have⟨_,_,e⟩:=ζf.1 d;cases e)|cases d
 |seq a b w B=>
  intro code F H r d h
  cases code with
  |seq J L=>simp only[bV]at d;split at d;rename_i x y C O;cases d;simp only[iN]at h;simp only[exec];(cases g:iN X.E N call lf a F H with|none=>rw[g]at h;simp at h|some q=>rw[g]at h;rw[w J F H q C g];have⟨o,F1,H1⟩:=q;cases o with|norm=>exact B L F1 H1 r O h|exit _=>exact h|ret=>exact h);simp at d
  |region id ops u=>simp only[bV]at d;(repeat' split at d)<;>first|(simp at d;done)|(have⟨_,_,e⟩:=ζf.1 d;cases e)
  |_=>simp only[bV]at d;(repeat' split at d)<;>first|(simp at d;done)|(have⟨_,_,e⟩:=ζf.1 d;cases e)|cases d
 |cond x a b w B=>
  intro code F H r d h
  cases code with
  |cond c J L=>simp only[bV]at d;split at d;rename_i n y z C O Y;cases d;simp only[iN]at h;simp only[exec,Mt (F:=F) D C];split at h;rename_i t Z;rw[Z];(cases t with|true=>simp only[if_true]at h⊢;exact w J F H r O h|false=>simp only[false_eq_true,if_false]at h⊢;exact B L F H r Y h);simp at h;simp at d
  |region id ops u=>simp only[bV]at d;(repeat' split at d)<;>first|(simp at d;done)|(have⟨_,_,e⟩:=ζf.1 d;cases e)
  |_=>simp only[bV]at d;(repeat' split at d)<;>first|(simp at d;done)|(have⟨_,_,e⟩:=ζf.1 d;cases e)|cases d
 |block id c Q=>
  intro code F H r d h
  cases code with
  |block S c'=>simp only[bV]at d;have⟨x,C,e⟩:=ζf.1 d;cases e;simp only[iN]at h;simp only[exec];cases g:iN X.E N call lf c F H with|none=>rw[g]at h;simp at h|some q=>rw[g]at h;rw[Q c' F H q C g];exact h
  |region id ops u=>simp only[bV]at d;(repeat' split at d)<;>first|(simp at d;done)|(have⟨_,_,e⟩:=ζf.1 d;cases e)
  |_=>simp only[bV]at d;(repeat' split at d)<;>first|(simp at d;done)|(have⟨_,_,e⟩:=ζf.1 d;cases e)|cases d
 |loop c Q=>
  intro code F H r d h
  cases code with
  |loop c'=>simp only[bV]at d;have⟨x,C,e⟩:=ζf.1 d;cases e;simp only[iN]at h;simp only[exec];exact Jy (λF H r m=>Q c' F H r C m) lf F H r h|region id ops u=>simp only[bV]at d;(repeat' split at d)<;>first|(simp at d;done)|(have⟨_,_,e⟩:=ζf.1 d;cases e)
  |_=>simp only[bV]at d;(repeat' split at d)<;>first|(simp at d;done)|(have⟨_,_,e⟩:=ζf.1 d;cases e)|cases d
 |exit id=>
  intro code F H r d h
  cases code with
  |exit S=>simp only[bV,ζa,RC.exit.injEq]at d;subst d;exact h|region id ops u=>simp only[bV]at d;(repeat' split at d)<;>first|(simp at d;done)|(have⟨_,_,e⟩:=ζf.1 d;cases e)
  |_=>simp only[bV]at d;(repeat' split at d)<;>first|(simp at d;done)|(have⟨_,_,e⟩:=ζf.1 d;cases e)|cases d
 |ret=>
  intro code F H r d h
  cases code with
  |ret=>exact h|region id ops u=>simp only[bV]at d;(repeat' split at d)<;>first|(simp at d;done)|(have⟨_,_,e⟩:=ζf.1 d;cases e)
  |_=>simp only[bV]at d;(repeat' split at d)<;>first|(simp at d;done)|(have⟨_,_,e⟩:=ζf.1 d;cases e)|cases d
 |_=>intro code F H r d h;simp[iN]at h
end
def Ex(E:Env)(N:Nat->Y')(a:RC)(F:WP)(H:bp)(o:Out)(F':WP)(H':bp):Prop:=∃n,∀k,n<=k->iN E N (run E k) k a F H=some (o,F',H')
def ng(E:Env)(N:Nat->Y')(a:RC)(F:WP)(H:bp)(o:Out)(F':WP)(H':bp):Prop:=∃n,∀k,n<=k->∀u,n<=u->lX (iN E N (run E k) k a) u F H=some (o,F',H')
section
variable{E:Env}{N:Nat->Y'}{a b c:RC}{F F1 F':WP}{H H1 H':bp}{o:Out}{x:Arg}{id:Nat}
theorem Ex.ops{l:SW}(h:∃n,∀k,n<=k->cK E N (run E k) none l F H=some (F',H')):Ex E N (.ops l) F H .norm F' H':=let⟨n,h⟩:=h;⟨n,λk a=>by simp only[iN,h k a,map_some]⟩
theorem Ex.di{l:SW}(h:∀call,cK E N call none l F H=some (F',H')):Ex E N (.ops l) F H .norm F' H':=Ex.ops ⟨0,λk _=>h _⟩
theorem Ex.qG{l:SW}(B:zL l=true)(h:∀call,cK E N call (some H.length) l F H=some (F',H')):Ex E N (.qG l) F H .norm F' H':=⟨0,λk _=>by simp only[iN,B,if_true,h,map_some]⟩
theorem Ex.N2{l:SW}(B:zL l=true)(h:∃n,∀k,n<=k->cK E N (run E k) (some H.length) l F H=some (F',H')):Ex E N (.qG l) F H .norm F' H':=let⟨n,h⟩:=h;⟨n,λk a=>by simp only[iN,B,if_true,h k a,map_some]⟩
theorem Ex.skip:Ex E N .skip F H .norm F H:=⟨0,λ_ _=>rfl⟩
theorem Ex.exit:Ex E N (.exit id) F H (.exit id) F H:=⟨0,λ_ _=>rfl⟩
theorem Ex.ret:Ex E N .ret F H .ret F H:=⟨0,λ_ _=>rfl⟩
theorem Ex.seq(c:Ex E N a F H .norm F1 H1)(B:Ex E N b F1 H1 o F' H'):Ex E N (.seq a b) F H o F' H':=by have⟨n,c⟩:=c;have⟨m,B⟩:=B;exact⟨max n m,λk d=>by simp only[iN,c k Zaa];exact B k Zaa⟩
theorem Ex.ve(c:Ex E N a F H o F' H')(B:o≠.norm):Ex E N (.seq a b) F H o F' H':=by have⟨n,c⟩:=c;refine⟨n,λk d=>?_⟩;simp only[iN,c k d];cases o<;>first|exact absurd rfl B|rfl
theorem Ex.oh(B:bz N F x=.bool true)(h:Ex E N a F H o F' H'):Ex E N (.cond x a b) F H o F' H':=by have⟨n,h⟩:=h;exact⟨n,λk c=>by simp only[iN,B,if_true,h k c]⟩
theorem Ex.qJ(B:bz N F x=.bool false)(h:Ex E N b F H o F' H'):Ex E N (.cond x a b) F H o F' H':=by have⟨n,h⟩:=h;exact⟨n,λk c=>by simp only[iN,B,false_eq_true,if_false,h k c]⟩
theorem Ex.block(h:Ex E N c F H .norm F' H'):Ex E N (.block id c) F H .norm F' H':=by have⟨n,h⟩:=h;exact⟨n,λk a=>by simp only[iN,h k a]⟩
theorem Ex.wq(h:Ex E N c F H (.exit id) F' H'):Ex E N (.block id c) F H .norm F' H':=by have⟨n,h⟩:=h;exact⟨n,λk a=>by simp only[iN,h k a,if_true]⟩
theorem Ex.Qt(h:Ex E N c F H .ret F' H'):Ex E N (.block id c) F H .ret F' H':=by have⟨n,h⟩:=h;exact⟨n,λk a=>by simp only[iN,h k a]⟩
theorem Ex.loop(h:ng E N c F H o F' H'):Ex E N (.loop c) F H o F' H':=by have⟨n,h⟩:=h;exact⟨n,λk a=>h k a k a⟩
theorem ng.step(a:Ex E N c F H .norm F1 H1)(B:ng E N c F1 H1 o F' H'):ng E N c F H o F' H':=by have⟨n,a⟩:=a;have⟨m,B⟩:=B;refine⟨max n m+1,λk b u w=>?_⟩;cases u with|zero=>omega|succ u=>simp only[lX,a k Zaa];exact B k Zaa u Zaa
theorem ng.stop(a:Ex E N c F H o F' H')(B:o≠.norm):ng E N c F H o F' H':=by have⟨n,a⟩:=a;refine⟨n+1,λk b u w=>?_⟩;cases u with|zero=>omega|succ u=>simp only[lX,a k Zaa];cases o<;>first|exact absurd rfl B|rfl
end
theorem Ex.run{E:Env}{nm:Y'->a_ Nat}{N:Nat->Y'}(B:∀f s,nm f=some s->N s=f){f:Y'}{fi:FI}{a:RC}(D:E.ft f=some fi)(b:bV ⟨E,nm,fi.ntmps⟩ false fi.body=some a){args:T2}(G:args.length<=fi.ntmps){H H':bp}{F':WP}
 (h:Ex E N a args H .ret F' H'){vs:T2}(c:ja E F' H' fi.results=some vs):∃n,run E n (.fn f) args H=some (result vs,H'):=by
 have⟨n,h⟩:=h;refine⟨n+1,?_⟩;have:=S7 (X:=⟨E,nm,fi.ntmps⟩) (call:=Go.VE.run E n) B (lf:=n) a fi.body args H _ b (h n (le_refl _));simp only[Go.VE.run,kK,D,if_pos G,this,c,map_some]
@[simp] theorem bA(F:WP)(i j:Nat)(v:V):get (set F i v) j=if i=j then v else get F j:=by
 split;next h=>subst h;exact uk F i v
 rename_i h;exact jX F v h
def refs:S'->T'->T'
 |id::ids,r::rs=>[V.hsl id 1 0 r.length]::refs ids rs|_,_=>[]
def jQ(r:T2):T':=r.map λu=>[u]
structure nF(H:bp)(w:V)(o:Nat)(ids:List Nat)(rows:List (List V)):Prop where
 v:w=if rows=[]then .bO else .hsl o 1 0 rows.length
 ob:rows≠[]->H[o]?=some (.row 1 (refs ids rows))
 len:ids.length=rows.length
 r:∀(i id:Nat)(r:List V),ids[i]?=some id->rows[i]?=some r->H[id]?=some (.row 1 (jQ r))
 nd:ids.Nodup
 ne:rows≠[]->o∉ids
theorem uQ:∀{ids:S'}{rows:T'},ids.length=rows.length->(refs ids rows).length=rows.length
 |[],[],_=>rfl|_::ids,_::rows,h=>by simp only[refs,length_cons,uQ (ids:=ids) (rows:=rows) (by simpa using h)]
theorem KI:∀{ids:S'}{rows:T'}(id:Nat)(r:T2),ids.length=rows.length->refs (ids++[id]) (rows++[r])=refs ids rows++[[V.hsl id 1 0 r.length]]
 |[],[],_,_,_=>rfl|_::ids,_::rows,id,r,h=>by simp only[refs,cons_append,KI (ids:=ids) (rows:=rows) id r (by simpa using h)]
theorem Ds:∀{ids:S'}{rows:T'}{i id:Nat}{r:T2},ids[i]?=some id->rows[i]?=some r->(refs ids rows)[i]?=some [V.hsl id 1 0 r.length]
 |[],_,_,_,_,h,_=>by simp at h|_::_,[],_,_,_,_,h=>by simp at h|a::ids,b::rows,0,id,r,h1,B=>by simp at h1 B;subst h1 B;rfl|a::ids,b::rows,i+1,id,r,h1,B=>by simpa[refs]using Ds (ids:=ids) (rows:=rows) (i:=i) (by simpa using h1) (by simpa using B)
theorem Kz:∀{ids:S'}{rows:T'}{i:Nat}{r B:T2},rows[i]?=some r->B.length=r.length->refs ids (rows.set i B)=refs ids rows
 |[],_,_,_,_,_,_=>by simp[refs]|_::_,[],_,_,_,_,_=>by simp[refs]|a::ids,b::rows,0,r,B,h,D=>by simp at h;subst h;simp only[List.set_cons_zero,refs,D]|a::ids,b::rows,i+1,r,B,h,D=>by simp only[List.set_cons_succ,refs,Kz (ids:=ids) (rows:=rows) (i:=i) (by simpa using h) D]
section
variable{H H':bp}{v:V}{o:Nat}{ids:S'}{rows:T'}
theorem nF.nil(H:bp)(o:Nat):nF H .bO o [] []:=⟨rfl,λh=>absurd rfl h,rfl,λi id r h=>by simp at h,.nil,λh=>absurd rfl h⟩
theorem nF.heap(n:nF H v o ids rows)(B:rows≠[]->H'[o]?=H[o]?)(hi:∀id∈ids,H'[id]?=H[id]?):nF H' v o ids rows:=⟨n.v,λh=>by rw[B h];exact n.ob h,n.len,λi id r h1 u=>by rw[hi id (mem_of_getElem? h1)];exact n.r i id r h1 u,n.nd,n.ne⟩
theorem nF.lt(n:nF H v o ids rows):(rows≠[]->o<H.length)/\∀id∈ids,id<H.length:=by refine⟨λh=>(ζe.1 (n.ob h)).1,λid u=>?_⟩;have⟨i,hi⟩:=getElem?_of_mem u;have w:=(ζe.1 hi).1;have:=n.r i id _ hi (ζd (show i<rows.length from n.len▸w));exact(ζe.1 this).1
theorem nF.more(n:nF H v o ids rows)(X:bp):nF (H++X) v o ids rows:=n.heap (λh=>getElem?_append_left (n.lt.1 h)) λid u=>getElem?_append_left (n.lt.2 id u)
theorem nF.push(n:nF H v o ids rows)(r:T2)(U:rows.length+1<=2147483648):
 ∃H',fQ (H++[.row 1 (jQ r)]++[.row 1 [[.hsl H.length 1 0 r.length]]]) (.append 1) [v,.hsl (H.length+1) 1 0 1]=some (.hsl (H.length+2) 1 0 (rows.length+1),H')/\
  nF H' (.hsl (H.length+2) 1 0 (rows.length+1)) (H.length+2) (ids++[H.length]) (rows++[r])/\H.length<=H'.length/\(∀id,id<H.length->id≠o\/rows=[]->H'[id]?=H[id]?):=by
 generalize C:H++[.row 1 (jQ r)]++[.row 1 [[.hsl H.length 1 0 r.length]]]=H2;have u:H2.length=H.length+2:=by subst C;simp
 have z:∀id,id<H.length->H2[id]?=H[id]?:=λid h=>by subst C;rw[append_assoc,getElem?_append_left h]
 have g:H2[H.length]?=some (.row 1 (jQ r)):=by subst C;simp
 have T:H2[H.length+1]?=some (.row 1 [[.hsl H.length 1 0 r.length]]):=by subst C;simp
 have f:=n.v;have e2:dR H2 1 (.hsl (H.length+1) 1 0 1)=some [[.hsl H.length 1 0 r.length]]:=by simp[dR,T,Ob.rows]
 by_cases c:rows=[]
 .subst c;rw[if_pos rfl]at f;subst f;have:ids=[]:=List.eq_nil_of_length_eq_zero n.len;subst this;refine⟨H2++[.row 1 [[.hsl H.length 1 0 r.length]]],?_,⟨Zab,λ_=>by rw[<-u];simp[refs],rfl,λi id O hi w=>?_,Zab,λ_=>Zab⟩,by simp[u];omega,λid D _=>?_⟩
  .have e1:dR H2 1 .bO=some []:=rfl;simp only[fQ,e1,e2,iD,List.length_nil,length_singleton,map_some,u];simp
  .cases i with
   |zero=>simp at hi w;subst hi w;rw[getElem?_append_left Zaa];exact g|succ i=>simp at hi
  rw[getElem?_append_left Zaa];exact z id D
 rw[if_neg c]at f;subst f;have Q:=n.ob c;have I:=n.lt.1 c;have e1:dR H2 1 (.hsl o 1 0 rows.length)=some (refs ids rows):=by simp only[dR,if_true,z o I,Q,ζb,Ob.rows,uQ n.len,zero_add,le_refl,drop_zero];rw[take_of_length_le (by rw[uQ n.len];exact le_refl _)]
 have W:iD H2 (.hsl o 1 0 rows.length)=some (H2.set o .dead):=by simp only[iD,z o I,Q]
 have B:∀id,id≠o->(H2.set o Ob.dead++[Ob.row 1 (refs ids rows++[[.hsl H.length 1 0 r.length]])])[id]?=if id<H2.length then H2[id]?else(H2.set o Ob.dead++[Ob.row 1 (refs ids rows++[[.hsl H.length 1 0 r.length]])])[id]?:=λid G=>by split;(next h=>rw[getElem?_append_left (by simpa using h),getElem?_set_ne (Ne.symm G)]);rfl
 refine⟨H2.set o .dead++[.row 1 (refs ids rows++[[.hsl H.length 1 0 r.length]])],?_,⟨Zab,λ_=>?_,by simp[n.len],λi id O hi w=>?_,?_,λ_ d=>?_⟩,by simp[u];omega,λid D G=>?_⟩
 .simp only[fQ,e1,e2,W,uQ n.len,length_singleton,U,if_true,map_some,u]
 .rw[KI _ _ n.len,<-u];simp
 .have J:id≠o:=by
   rcases Nat.lt_or_ge i ids.length with h|h
   .rw[getElem?_append_left h]at hi;intro e;subst e;exact n.ne c (mem_of_getElem? hi)
   have:i=ids.length:=by have:=(ζe.1 hi).1;simp at this;omega
   subst this;simp at hi;subst hi;omega
  rcases Nat.lt_or_ge i ids.length with h|h
  .rw[getElem?_append_left h]at hi;rw[getElem?_append_left (by rw[<-n.len];exact h)]at w
   have L:=n.lt.2 id (mem_of_getElem? hi);rw[B id J,if_pos Zaa,z id L]
   exact n.r i id O hi w
  have:i=ids.length:=by have:=(ζe.1 hi).1;simp at this;omega
  subst this;simp at hi;subst hi;rw[n.len]at w;simp at w;subst w;rw[B _ J,if_pos Zaa];exact g
 .rw[List.nodup_append];exact⟨n.nd,Zab,λa X b S=>by simp at S;subst S;exact Nat.ne_of_lt (n.lt.2 a X)⟩
 .rcases mem_append.1 d with d|d
  .have:=n.lt.2 _ d;omega
  simp at d
 rw[B id (G.resolve_right c),if_pos Zaa];exact z id D
end
theorem kC{E:Env}{N:Nat->Y'}{F:WP}{H H1:bp}{call:dL}{b:a_ Nat}{o:RO}{l:SW}{v:V}{r:WP×bp}(a:o.gd=none)(c:bK E N call b o.now o.k (o.az.map (bz N F)) H=some (v,H1))(h:cK E N call b l (bu F o.dst v) H1=some r):cK E N call b (o::l) F H=some r:=by simp only[cK,a,c];exact h
theorem vp{E:Env}{N:Nat->Y'}{F:WP}{H:bp}{call:dL}{b:a_ Nat}{o:RO}{l:SW}{v:V}{r:WP×bp}(a:o.gd=none)(c:bK E N call b o.now o.k (o.az.map (bz N F)) H=some (v,H))(h:cK E N call b l (bu F o.dst v) H=some r):cK E N call b (o::l) F H=some r:=kC a c h
theorem eC{E:Env}{N:Nat->Y'}{F:WP}{H:bp}{call:dL}{b:a_ Nat}:cK E N call b [] F H=some (F,H):=rfl
theorem zB{n:Nat}(h:n<=2147483648):wrap .i64 ((n:Int)+1)=((n+1:Nat):Int):=by simp[wrap,IntKind.bits,signed];omega
theorem Z6{n:Nat}(h:n<=2147483648):wrap .i64 (((n+1:Nat):Int)-1)=(n:Int):=by simp[wrap,IntKind.bits,signed];omega
theorem kS(H:bp):H.take H.length=H:=List.take_length
theorem D6{E:Env}{nm:Y'->a_ Nat}{f:Y'}{a:RC}{n:Nat}{rs:aZ ResultVar}(h:((E.ft f).map λfi=>(bV ⟨E,nm,fi.ntmps⟩ false fi.body,ble n fi.ntmps,fi.results))=some (some a,true,rs)):
 ∃fi,E.ft f=some fi/\bV ⟨E,nm,fi.ntmps⟩ false fi.body=some a/\n<=fi.ntmps/\fi.results=rs:=by
 have⟨fi,b,u⟩:=ζf.1 h;simp only[ζc]at u;exact⟨fi,b,u.1,Nat.le_of_ble_eq_true u.2.1,u.2.2⟩
theorem Hz{x:V}(h:x.one=true):x.cells=[x]:=by cases x<;>first|rfl|(simp[V.one]at h)
theorem Ys{call:dL}{f:Y'}{args az:T2}{H:bp}(h:borrows call.lv H args=some az)(a:∀x∈az,x.closed=true):cr call f args H=cr call f az []:=by
 have:borrows call.lv [] az=some az:=by clear h;unfold borrows;induction az with|nil=>rfl|cons x l u=>simp only[jc,eO call.lv [] (a x Zab),u λy w=>a y (List.mem_cons_of_mem _ w)]
 unfold cr;rw[h,this]
def kept(t:Nat->X')(n:Nat):S':=(range n).filter λi=>i==0|| !t i
theorem yR(t:Nat->X')(n:Nat):kept t (n+1)=kept t n++if n==0|| !t n then[n]else[]:=by unfold kept;rw[List.range_succ,List.filter_append,List.filter_cons];rfl
theorem Ct(t:Nat->X'):∀n,(kept t n).length<=n:=λn=>by unfold kept;exact Nat.le_trans (List.length_filter_le ..) Zab
theorem Mp{t:Nat->X'}{n i:Nat}(h:i∈kept t n):i<n:=by unfold kept at h;exact mem_range.1 (List.mem_filter.1 h).1
theorem DC{t:Nat->X'}:∀n,(∀i,0<i->i<n->t i=false)->kept t n=range n
 |0,_=>rfl|n+1,h=>by rw[yR,DC n λi a B=>h i a Zaa,List.range_succ];congr 1;cases n with|zero=>rfl|succ n=>rw[h (n+1) Zaa Zaa];simp
theorem Bp{t:Nat->X'}{k:Nat}(b:0<k)(a:t k=true):∀n,k<n->(kept t n).length+1<=n
 |0,h=>Zaa|n+1,h=>by rw[yR];by_cases e:n=k;subst e;have:(n==0|| !t n)=false:=(by simp[a];omega);rw[this];have:=Ct t n;simp;omega;have:=Bp b a n Zaa;split<;>simp<;>omega
namespace cmpX
instance{n:Nat}:OfNat Arg n:=⟨.s n⟩
def r1:SW:=[o1 4 (.k (.bO)) []]
def r2:SW:=[o1 8 0 [],o2 9 (.p .lenSl) [8] [],o2 10 (.p (.bin (some .int) none .lss)) [9,.k (.int .i64 2)] []]
def r3:SW:=[o1 11 0 [],o1 4 11 []]
def r4:SW:=[o1 5 (.k (.int .i64 1)) []]
def r5:SW:=[o1 12 5 [],o1 13 0 [],o2 14 (.p .lenSl) [13] [],o2 15 (.p (.bin (some .int) none .lss)) [12,14] []]
def on(d:Nat)(k:K)(az:R0):RO:=⟨some d,none,true,k,az,[],[]⟩
def r6:SW:=[o1 18 1 [],o1 19 0 [],o1 20 5 [],o2 21 (.p (.idxS 1)) [19,20] [],o2 22 (.r (.load 1 false)) [21] [],o1 23 0 [],o1 24 5 [],o2 25 (.p (.bin (some .int) none .sub)) [24,.k (.int .i64 1)] [],o2 26 (.p (.idxS 1)) [23,25] [],o2 27 (.r (.load 1 false)) [26] [],on 28 .c [18,22,27]]
def r7:SW:=[o1 29 0 [],o1 30 5 [],o2 31 (.p (.slice 1 true false)) [29,30] [],o1 6 31 []]
def r8:SW:=[o1 7 (.k (.int .i64 1)) []]
def r9:SW:=[o1 32 7 [],o1 33 6 [],o2 34 (.p .lenSl) [33] [],o2 35 (.p (.bin (some .int) none .lss)) [32,34] []]
def Eb:SW:=[o1 38 1 [],o1 39 6 [],o1 40 7 [],o2 41 (.p (.idxS 1)) [39,40] [],o2 42 (.r (.load 1 false)) [41] [],o1 43 6 [],o1 44 7 [],o2 45 (.p (.bin (some .int) none .sub)) [44,.k (.int .i64 1)] [],o2 46 (.p (.idxS 1)) [43,45] [],o2 47 (.r (.load 1 false)) [46] [],on 48 .c [38,42,47],on 49 (.p (.not)) [48]]
def HZ:SW:=[o1 50 0 [],o1 51 5 [],o1 52 6 [],o1 53 7 [],o2 54 (.p (.idxS 1)) [52,53] [],o2 55 (.r (.load 1 false)) [54] [],o2 56 (.p (.idxS 1)) [50,51] [],⟨none,none,false,.l (.store 1),[56,55],[],[]⟩]
def Ht:SW:=[o1 57 5 [],o2 58 (.p (.bin (some .int) none .add)) [57,.k (.int .i64 1)] [],o1 5 58 []]
def HD:SW:=[o1 36 7 [],o2 37 (.p (.bin (some .int) none .add)) [36,.k (.int .i64 1)] [],o1 7 37 []]
def L13:RC:=.seq (.seq (.ops r9) (.cond (.s 35) (.skip) (.exit 2))) (.seq (.block 3 (.seq (.qG Eb) (.cond (.s 49) (.seq (.ops HZ) (.ops Ht)) (.skip)))) (.ops HD))
def Fu:SW:=[o1 59 0 [],o1 60 5 [],o2 61 (.p (.slice 1 true false)) [59,60] [],⟨none,none,false,.l (.clear 1 [.bO]),[61],[],[]⟩]
def HS:SW:=[o1 62 0 [],o1 63 5 [],o2 64 (.p (.slice 1 false true)) [62,63] [],o1 4 64 []]
def r16:SW:=[o1 16 5 [],o2 17 (.p (.bin (some .int) none .add)) [16,.k (.int .i64 1)] [],o1 5 17 []]
def UF:RC:=.seq (.seq (.ops r5) (.cond (.s 15) (.skip) (.exit 0))) (.seq (.block 1 (.seq (.qG r6) (.cond (.s 28) (.seq (.ops r7) (.seq (.seq (.ops r8) (.block 2 (.loop L13))) (.seq (.ops Fu) (.seq (.ops HS) (.ret))))) (.skip)))) (.ops r16))
def Px:SW:=[o1 65 0 [],o1 4 65 []]
def code:RC:=.seq (.ops r1) (.seq (.seq (.ops r2) (.cond (.s 10) (.seq (.ops r3) (.ret)) (.skip))) (.seq (.seq (.ops r4) (.block 0 (.loop UF))) (.seq (.ops Px) (.ret))))
section
variable{E:Env}{N:Nat->Y'}{F:WP}{H:bp}{call:dL}{id off L k:Nat}
theorem ld{B:T'}{el:Nat}{v:V}(h:H[id]?=some (.row 1 B))(a:B[el]?=some [v]):fD H (.load 1 false) [.hptr id el 0]=some v:=by simp[fD,eM,h,Ob.rows,a,cut,mk]
theorem Uj{i:Nat}(h:i<L):mN 1 (.hsl id 1 off L) (i:Int)=some (.hptr id (off+i) 0):=by unfold mN;rw[if_neg Zaa];simp[h]
theorem x2(a:get F 0=.hsl id 1 off L):∃F',(∀call,cK E N call none r2 F H=some (F',H))/\get F' 10=.bool (decide ((L:Int)<2))/\(∀s,s<8->get F' s=get F s):=by refine⟨_,λcall=>vp (v:=.hsl id 1 off L) rfl ?_<|vp (v:=.int .i64 L) rfl ?_<|vp (v:=.bool (decide ((L:Int)<2))) rfl ?_ eC,?_,?_⟩;simp[bK,bz,bq,a];simp[bK,bz,bq,bu,pL];simp[bK,bz,bq,bu,iu,pe];simp[bu];intro s u;simp only[bu,bA];repeat (rw[if_neg Zaa])
theorem x5(a:get F 0=.hsl id 1 off L)(b:get F 5=.int .i64 k):∃F',(∀call,cK E N call none r5 F H=some (F',H))/\get F' 15=.bool (decide (k<L))/\(∀s,s<8->get F' s=get F s):=by refine⟨_,λcall=>vp (v:=.int .i64 k) rfl ?_<|vp (v:=.hsl id 1 off L) rfl ?_<|vp (v:=.int .i64 L) rfl ?_<|vp (v:=.bool (decide (k<L))) rfl ?_ eC,?_,?_⟩;simp[bK,bz,bq,b];simp[bK,bz,bq,bu,a];simp[bK,bz,bq,bu,pL];simp[bK,bz,bq,bu,iu,pe];simp[bu];intro s u;simp only[bu,bA];repeat (rw[if_neg Zaa])
theorem XO{g:Y'}{cb:T2}{B:T'}{o2 L2 i:Nat}{a b:V}{t:X'}(h:H[id]?=some (.row 1 B))(hi:i+1<L2)(D:i<=2147483648)(G:B[o2+(i+1)]?=some [a])(J:B[o2+i]?=some [b])(d:E.keep g=false)(e:get F 1=.clo g [] cb):
 (get F 0=.hsl id 1 o2 L2->get F 5=.int .i64 ((i+1:Nat):Int)->∃F',(∀call,cr call g (a::b::cb) H=some (.bool t)->cK E N call (some H.length) r6 F H=some (F',H))/\get F' 28=.bool t/\(∀s,s<8->get F' s=get F s))/\
 (get F 6=.hsl id 1 o2 L2->get F 7=.int .i64 ((i+1:Nat):Int)->∃F',(∀call,cr call g (a::b::cb) H=some (.bool t)->cK E N call (some H.length) Eb F H=some (F',H))/\get F' 49=.bool (!t)/\(∀s,s<8->get F' s=get F s)):=by
 have hd:=Z6 D;have e1:=ld h G;have e2:=ld h J;have i1:=Uj (id:=id) (off:=o2) (L:=L2) hi;have i2:=Uj (id:=id) (off:=o2) (L:=L2) (show i<L2 by omega)
 refine⟨λf j=>⟨_,λcall c=>vp (v:=.clo g [] cb) rfl ?_<|vp (v:=.hsl id 1 o2 L2) rfl ?_<|vp (v:=.int .i64 ((i+1:Nat):Int)) rfl ?_<|vp (v:=.hptr id (o2+(i+1)) 0) rfl ?_<|vp (v:=a) rfl ?_<|vp (v:=.hsl id 1 o2 L2) rfl ?_<|vp (v:=.int .i64 ((i+1:Nat):Int)) rfl ?_<|
  vp (v:=.int .i64 (i:Int)) rfl ?_<|vp (v:=.hptr id (o2+i) 0) rfl ?_<|vp (v:=b) rfl ?_<|vp (v:=.bool t) rfl ?_ eC,?_,?_⟩,λf6 k=>⟨_,λcall c=>vp (v:=.clo g [] cb) rfl ?_<|vp (v:=.hsl id 1 o2 L2) rfl ?_<|vp (v:=.int .i64 ((i+1:Nat):Int)) rfl ?_<|vp (v:=.hptr id (o2+(i+1)) 0) rfl ?_<|vp (v:=a) rfl ?_<|vp (v:=.hsl id 1 o2 L2) rfl ?_<|vp (v:=.int .i64 ((i+1:Nat):Int)) rfl ?_<|
  vp (v:=.int .i64 (i:Int)) rfl ?_<|vp (v:=.hptr id (o2+i) 0) rfl ?_<|vp (v:=b) rfl ?_<|vp (v:=.bool t) rfl ?_<|vp (v:=.bool (!t)) rfl ?_ eC,?_,?_⟩⟩
 .simp[bK,bz,bq,e]
 .simp[bK,bz,bq,bu,f]
 .simp only[bK,map_cons,map_nil,bz,bu,bA,reduceEqDiff,if_true,if_false,j,bq];rfl
 .simp only[bK,map_cons,map_nil,bz,bu,bA,reduceEqDiff,if_true,if_false,bq];rw[i1];rfl
 .simp only[bK,map_cons,map_nil,bz,bu,bA,reduceEqDiff,if_true,if_false,kS];rw[e1];rfl
 .simp[bK,bz,bq,bu,f]
 .simp only[bK,map_cons,map_nil,bz,bu,bA,reduceEqDiff,if_true,if_false,j,bq];rfl
 .simp only[bK,map_cons,map_nil,bz,bu,bA,reduceEqDiff,if_true,if_false,bq,iu,hd];rfl
 .simp only[bK,map_cons,map_nil,bz,bu,bA,reduceEqDiff,if_true,if_false,bq];rw[i2];rfl
 .simp only[bK,map_cons,map_nil,bz,bu,bA,reduceEqDiff,if_true,if_false,kS];rw[e2];rfl
 .simp only[bK,on,map_cons,map_nil,bz,bu,bA,reduceEqDiff,if_true,if_false,kS,d,false_eq_true,nil_append,cons_append,c,V.scalar]
 .simp[bu,on]
 .intro s u;simp only[bu,on,bA]
  repeat (rw[if_neg Zaa])
 .simp[bK,bz,bq,e]
 .simp[bK,bz,bq,bu,f6]
 .simp only[bK,map_cons,map_nil,bz,bu,bA,reduceEqDiff,if_true,if_false,k,bq];rfl
 .simp only[bK,map_cons,map_nil,bz,bu,bA,reduceEqDiff,if_true,if_false,bq];rw[i1];rfl
 .simp only[bK,map_cons,map_nil,bz,bu,bA,reduceEqDiff,if_true,if_false,kS];rw[e1];rfl
 .simp[bK,bz,bq,bu,f6]
 .simp only[bK,map_cons,map_nil,bz,bu,bA,reduceEqDiff,if_true,if_false,k,bq];rfl
 .simp only[bK,map_cons,map_nil,bz,bu,bA,reduceEqDiff,if_true,if_false,bq,iu,hd];rfl
 .simp only[bK,map_cons,map_nil,bz,bu,bA,reduceEqDiff,if_true,if_false,bq];rw[i2];rfl
 .simp only[bK,map_cons,map_nil,bz,bu,bA,reduceEqDiff,if_true,if_false,kS];rw[e2];rfl
 .simp only[bK,on,map_cons,map_nil,bz,bu,bA,reduceEqDiff,if_true,if_false,kS,d,false_eq_true,nil_append,cons_append,c,V.scalar]
 .simp[bK,on,bz,bq,bu]
 .simp[bu,on]
 intro s u;simp only[bu,on,bA]
 repeat (rw[if_neg Zaa])
end
end cmpX
namespace cmpX
section
variable{E:Env}{N:Nat->Y'}{F:WP}{H:bp}{call:dL}{id off L k:Nat}
theorem x7(a:get F 0=.hsl id 1 off L)(b:get F 5=.int .i64 k)(c:k<=L):∃F',(∀call,cK E N call none r7 F H=some (F',H))/\get F' 6=.hsl id 1 (off+k) (L-k)/\(∀s,s<8->s≠6->get F' s=get F s):=by
 have e:iO 1 (.hsl id 1 off L) (some k) none=some (.hsl id 1 (off+k) (L-k)):=by unfold iO ey;grind
 refine⟨_,λcall=>vp (v:=.hsl id 1 off L) rfl ?_<|vp (v:=.int .i64 k) rfl ?_<|vp (v:=.hsl id 1 (off+k) (L-k)) rfl ?_<|vp (v:=.hsl id 1 (off+k) (L-k)) rfl ?_ eC,?_,?_⟩;simp[bK,bz,bq,a];simp[bK,bz,bq,bu,b];simp[bK,bz,bu,bA,bq,mP,e];simp[bK,bz,bq,bu];simp[bu];simp[bu,bA];grind
theorem x9{o2 L2 m:Nat}(f6:get F 6=.hsl id 1 o2 L2)(a:get F 7=.int .i64 m):∃F',(∀call,cK E N call none r9 F H=some (F',H))/\get F' 35=.bool (decide (m<L2))/\(∀s,s<8->get F' s=get F s):=by refine⟨_,λcall=>vp (v:=.int .i64 m) rfl ?_<|vp (v:=.hsl id 1 o2 L2) rfl ?_<|vp (v:=.int .i64 L2) rfl ?_<|vp (v:=.bool (decide (m<L2))) rfl ?_ eC,?_,?_⟩;simp[bK,bz,bq,a];simp[bK,bz,bq,bu,f6];simp[bK,bz,bq,bu,pL];simp[bK,bz,bq,bu,iu,pe];simp[bu];simp[bu,bA];grind
theorem XV{B:T'}{o2 L2 m p:Nat}{a z:V}(h:H[id]?=some (.row 1 B))(c:get F 0=.hsl id 1 off L)(d:get F 5=.int .i64 p)(f6:get F 6=.hsl id 1 o2 L2)(e:get F 7=.int .i64 m)(D:m<L2)(hp:p<L)
 (G:B[o2+m]?=some [a])(J:B[off+p]?=some [z])(b:a.one=true):
 ∃F',(∀call,cK E N call none HZ F H=some (F',H.set id (.row 1 (B.set (off+p) [a]))))/\(∀s,s<8->get F' s=get F s):=by
 have i1:=Uj (id:=id) (off:=o2) D;have i2:=Uj (id:=id) (off:=off) hp;have e1:=ld h G;have u:fQ H (.store 1) [.hptr id (off+p) 0,a]=some (.undef,H.set id (.row 1 (B.set (off+p) [a]))):=by simp[fQ,h,J,Hz b,b]
 refine⟨_,λcall=>vp (v:=.hsl id 1 off L) rfl ?_<|vp (v:=.int .i64 p) rfl ?_<|vp (v:=.hsl id 1 o2 L2) rfl ?_<|vp (v:=.int .i64 m) rfl ?_<|vp (v:=.hptr id (o2+m) 0) rfl ?_<|vp (v:=a) rfl ?_<|vp (v:=.hptr id (off+p) 0) rfl ?_<|kC (v:=.undef) rfl ?_ eC,?_⟩
 .simp[bK,bz,bq,c]
 .simp[bK,bz,bq,bu,d]
 .simp[bK,bz,bq,bu,f6]
 .simp[bK,bz,bq,bu,e]
 .simp[bK,bz,bu,bA,bq];grind
 .simp[bK,bz,bu,bA];grind
 .simp[bK,bz,bu,bA,bq];grind
 .simp[bK,bz,bu,bA];omega
 simp[bu,bA]
 grind
theorem N0{p:Nat}(hp:p<=2147483648):(get F 5=.int .i64 p->∃F',(∀call,cK E N call none Ht F H=some (F',H))/\get F' 5=.int .i64 ((p+1:Nat):Int)/\(∀s,s<8->s≠5->get F' s=get F s))/\
 (get F 7=.int .i64 p->∃F',(∀call,cK E N call none HD F H=some (F',H))/\get F' 7=.int .i64 ((p+1:Nat):Int)/\(∀s,s<8->s≠7->get F' s=get F s))/\
 (get F 5=.int .i64 p->∃F',(∀call,cK E N call none r16 F H=some (F',H))/\get F' 5=.int .i64 ((p+1:Nat):Int)/\(∀s,s<8->s≠5->get F' s=get F s)):=by
 have u:=zB hp;refine⟨λf=>⟨_,λcall=>vp (v:=.int .i64 p) rfl ?_<|vp (v:=.int .i64 (p+1:Nat)) rfl ?_<|vp (v:=.int .i64 (p+1:Nat)) rfl ?_ eC,?_,?_⟩,
  λf=>⟨_,λcall=>vp (v:=.int .i64 p) rfl ?_<|vp (v:=.int .i64 (p+1:Nat)) rfl ?_<|vp (v:=.int .i64 (p+1:Nat)) rfl ?_ eC,?_,?_⟩,
  λf=>⟨_,λcall=>vp (v:=.int .i64 p) rfl ?_<|vp (v:=.int .i64 (p+1:Nat)) rfl ?_<|vp (v:=.int .i64 (p+1:Nat)) rfl ?_ eC,?_,?_⟩⟩<;>
 first
 |(simp[bK,bz,bq,f];done)|(simp only[bK,map_cons,map_nil,bz,bu,bA,if_true,bq,iu,u];rfl)|grind|(simp[bu];done)|(simp[bu,bA];grind)
theorem x14{B:T'}{p:Nat}(h:H[id]?=some (.row 1 B))(a:get F 0=.hsl id 1 off L)(b:get F 5=.int .i64 p)(hp:p<L)(D:off+L<=B.length):
 ∃F',(∀call,cK E N call none Fu F H=some (F',H.set id (.row 1 (B.take (off+p)++replicate (L-p) [.bO]++B.drop (off+L)))))/\(∀s,s<8->get F' s=get F s):=by
 have e:iO 1 (.hsl id 1 off L) (some p) none=some (.hsl id 1 (off+p) (L-p)):=by unfold iO ey;grind
 obtain⟨q,u⟩:∃q,L-p=q+1:=⟨L-p-1,Zaa⟩
 have c:fQ H (.clear 1 [.bO]) [.hsl id 1 (off+p) (L-p)]=some (.undef,H.set id (.row 1 (B.take (off+p)++replicate (L-p) [.bO]++B.drop (off+L)))):=by simp[fQ,Ek,u,h];grind
 refine⟨_,λcall=>vp (v:=.hsl id 1 off L) rfl ?_<|vp (v:=.int .i64 p) rfl ?_<|vp (v:=.hsl id 1 (off+p) (L-p)) rfl ?_<|kC (v:=.undef) rfl ?_ eC,?_⟩
 .simp[bK,bz,bq,a]
 .simp[bK,bz,bq,bu,b]
 .simp[bK,bz,bu,bA,bq,mP,e]
 .simp only[bK,map_cons,map_nil,bz,bu,bA,if_true];omega
 simp[bu,bA]
 grind
theorem UP{p:Nat}(a:get F 0=.hsl id 1 off L)(b:get F 5=.int .i64 p)(hp:p<=L):∃F',(∀call,cK E N call none HS F H=some (F',H))/\get F' 4=.hsl id 1 off p:=by
 have e:iO 1 (.hsl id 1 off L) none (some p)=some (.hsl id 1 off p):=by unfold iO ey;grind
 refine⟨_,λcall=>vp (v:=.hsl id 1 off L) rfl ?_<|vp (v:=.int .i64 p) rfl ?_<|vp (v:=.hsl id 1 off p) rfl ?_<|vp (v:=.hsl id 1 off p) rfl ?_ eC,?_⟩;simp[bK,bz,bq,a];simp[bK,bz,bq,bu,b];simp[bK,bz,bu,bA,bq,mP,e];simp[bK,bz,bq,bu];simp[bu]
theorem xmv:∃F',(∀call,cK E N call none Px F H=some (F',H))/\get F' 4=get F 0:=⟨_,λcall=>vp (v:=get F 0) rfl (by simp[bK,bz,bq])<|vp (v:=get F 0) rfl (by simp[bK,bz,bq,bu]) eC,by simp[bu]⟩
theorem SO:∃F',(∀call,cK E N call none r3 F H=some (F',H))/\get F' 4=get F 0:=⟨_,λcall=>vp (v:=get F 0) rfl (by simp[bK,bz,bq])<|vp (v:=get F 0) rfl (by simp[bK,bz,bq,bu]) eC,by simp[bu]⟩
end
structure IK(E:Env)(g:FuncId)(cb:List V)(H:bp)(id off L:Nat)(rs:List (List V))(A:Nat->V)(t:Nat->Bool):Prop where
 row:H[id]?=some (.row 1 rs)
 len:off+L<=rs.length
 small:L<=2147483648
 at_:∀i,i<L->rs[off+i]?=some [A i]
 one:∀i,i<L->(A i).one=true
 keep:E.keep g=false
 cmp:∃n,∀k,n<=k->∀i,i+1<L->∀cur,cr (run E k) g (A (i+1)::A i::cb) (H.set id (.row 1 cur))=some (.bool (t (i+1)))
structure Head(g:FuncId)(cb:List V)(id off L kk m:Nat)(rs:List (List V))(A:Nat->V)(t:Nat->Bool)(F:Frame)(cur:List (List V)):Prop where
 f0:get F 0=.hsl id 1 off L
 f1:get F 1=.clo g [] cb
 f5:get F 5=.int .i64 ((kept t (kk+m)).length:Nat)
 f6:get F 6=.hsl id 1 (off+kk) (L-kk)
 f7:get F 7=.int .i64 m
 len:cur.length=rs.length
 pre:∀p i,(kept t (kk+m))[p]?=some i->cur[off+p]?=some [A i]
 post:∀i,kk+m<=i+1->i<L->cur[off+i]?=some [A i]
 out:∀j,j<off\/off+L<=j->cur[j]?=rs[j]?
 cell:∀i,i<L->∃j,j<L/\cur[off+i]?=some [A j]
section
variable{E:Env}{N:Nat->Y'}{g:Y'}{cb:T2}{H:bp}{id off L kk:Nat}{rs:T'}{A:Nat->V}{t:Nat->X'}
theorem OV (X:IK E g cb H id off L rs A t) (aa:0<kk) (ah:kk<L) (ht:t kk=true):∀(d m:Nat) (F:Frame) (B:aZ (aZ V)),kk+m+d=L->0<m->Head g cb id off L kk m rs A t F B ->
 ∃F' D,ng E N L13 F (H.set id (.row 1 B)) (.exit 2) F' (H.set id (.row 1 D))/\Head g cb id off L kk (L-kk) rs A t F' D:=by
 have O:=(ζe.1 X.row).1;have G:∀B,(H.set id (.row 1 B))[id]? = some (.row 1 B):=λB=>List.getElem?_set_self O
 have ai:=X.small;have af:=X.len;intro d
 induction d with
 | zero=>
  intro m F B he hm h;have em:m=L-kk:=by omega
  subst em;obtain⟨F1,e1,e2,e3⟩:=x9    h.f6 h.f7;refine⟨F1,B,ng.stop (Ex.ve (Ex.seq (Ex.di e1) (Ex.qJ (by simp[bz,e2]) Ex.exit)) Zab) Zab,?_⟩
  exact⟨by rw[e3 0 Zaa];exact h.f0,by rw[e3 1 Zaa];exact h.f1,by rw[e3 5 Zaa];exact h.f5,by rw[e3 6 Zaa];exact h.f6,by rw[e3 7 Zaa];exact h.f7,h.len,h.pre,h.post,h.out,h.cell⟩
 | succ d ih=>
  intro m F B he hm h;obtain⟨F1,a1,a2,a3⟩:=x9    h.f6 h.f7;have T:bz N F1 35=.bool true:=by
   show get F1 35=_;rw[a2,decide_eq_true Zaa]
  obtain⟨m',rfl⟩:∃m',m=m'+1:=⟨m-1,by omega⟩
  obtain⟨n0,ab⟩:=X.cmp;have c1:B[off+kk+(m'+1)]? = some [A (kk+m'+1)]:=by
   have:=h.post (kk+m'+1) Zaa Zaa;grind
  have c2:B[off+kk+m']? = some [A (kk+m')]:=by
   have:=h.post (kk+m') Zaa Zaa;grind
  obtain⟨F2,b1,b2,b3⟩:=(XO      (L2:=L-kk)  (G B) Zaa Zaa c1 c2 X.keep (by rw[a3 1 Zaa];exact h.f1)).2 (by rw[a3 6 Zaa];exact h.f6) (by rw[a3 7 Zaa];exact h.f7)
  have U:∃n,∀k,n<=k->cK E N (run E k) (some (H.set id (.row 1 B)).length) Eb F1 (H.set id (.row 1 B))=some (F2,H.set id (.row 1 B)):=⟨n0,λk hk=>b1 _ (ab k hk (kk+m') Zaa B)⟩
  have w  := λs hs=>(b3 s hs).trans (a3 s hs)
  have ad:(kept t (kk+(m'+1))).length+1<=kk+(m'+1):=Bp aa ht _ Zaa
  have u:kept t (kk+(m'+1)+1)=kept t (kk+(m'+1))++if t (kk+m'+1)then []else [kk+m'+1]:=by
   rw[yR]
   grind
  have z:kk+(m'+1+1)=kk+(m'+1)+1:=by omega
  cases W:t (kk+m'+1)with
  | true=>
   rw[W]at b2 u;simp  at u;obtain⟨F3,Y,q2,Q⟩:=(N0     (p:=m'+1) Zaa).2.1 (by rw[w 7 Zaa];exact h.f7)
   obtain⟨F',D,i1,i2⟩:=ih (m'+1+1) F3 B Zaa Zaa ⟨by rw[Q 0 Zaa Zaa,w 0 Zaa];exact h.f0,by rw[Q 1 Zaa Zaa,w 1 Zaa];exact h.f1,
    by rw[Q 5 Zaa Zaa,w 5 Zaa,z,u];exact h.f5,by rw[Q 6 Zaa Zaa,w 6 Zaa];exact h.f6,q2,h.len,by rw[z,u];exact h.pre,λi h1 Z=>h.post i Zaa Z,h.out,h.cell⟩
   exact⟨F',D,ng.step (Ex.seq (Ex.seq (Ex.di a1) (Ex.oh T Ex.skip)) (Ex.seq (Ex.block (Ex.seq (Ex.N2 (by decide) U) (Ex.qJ (by simp[bz,b2]) Ex.skip))) (Ex.di Y))) i1,i2⟩
  | false=>
   rw[W]at b2 u;generalize hK:(kept t (kk+(m'+1))).length=K at *;obtain⟨_,_,hz⟩:=h.cell K Zaa
   obtain⟨F3,Y,q2⟩:=XV           (G B) (by rw[w 0 Zaa];exact h.f0) (by rw[w 5 Zaa,h.f5,hK]) (by rw[w 6 Zaa];exact h.f6) (by rw[w 7 Zaa];exact h.f7) Zaa Zaa c1 hz (X.one _ Zaa)
   rw[List.set_set]at Y;generalize I:B.set (off+K) [A (kk+m'+1)]=J at Y;have hg:∀j,J[j]? = if j=off+K then some [A (kk+m'+1)]else B[j]? := λj=>by
    rw[<-I,List.getElem?_set]
    by_cases e:off+K=j
    .rw[if_pos e,if_pos e.symm,if_pos (by rw[h.len];omega)]
    rw[if_neg e,if_neg (Ne.symm e)]
   obtain⟨F4,Q,q4,q5⟩:=(N0     (p:=K) Zaa).1 (by rw[q2 5 Zaa,w 5 Zaa,h.f5,hK])
   have C:∀s,s<8->s≠5->get F4 s=get F s:=λs h1 Z=>by rw[q5 s h1 Z,q2 s h1,w s h1]
   obtain⟨F5,q6,q7,q8⟩:=(N0     (p:=m'+1) Zaa).2.1 (by rw[C 7 Zaa Zaa];exact h.f7)
   obtain⟨F',D,i1,i2⟩:=ih (m'+1+1) F5 J Zaa Zaa ⟨by rw[q8 0 Zaa Zaa,C 0 Zaa Zaa];exact h.f0,by rw[q8 1 Zaa Zaa,C 1 Zaa Zaa];exact h.f1,
    by rw[q8 5 Zaa Zaa,q4,z,u,ζi,hK];rfl,by rw[q8 6 Zaa Zaa,C 6 Zaa Zaa];exact h.f6,q7,by rw[<-I,List.length_set];exact h.len,
    λp i S=>by
     rw[z,u]at S;rw[hg]
     by_cases e:p=K
     .subst e;rw[<-hK,List.getElem?_append_right (Nat.le_refl _),Nat.sub_self]at S;cases S;rw[if_pos rfl]
     have ae:p<(kept t (kk+(m'+1))).length:=by
      have:=(ζe.1 S).1;simp at this;omega
     rw[List.getElem?_append_left ae]at S;rw[if_neg Zaa];exact h.pre p i S,
    λi h1 Z=>by rw[hg,if_neg Zaa];exact h.post i Zaa Z,λj hj=>by rw[hg,if_neg Zaa];exact h.out j hj,
    λi hi=>by
     rw[hg]
     by_cases e:off+i=off+K
     .rw[if_pos e];exact⟨_,by omega,rfl⟩
     rw[if_neg e];exact h.cell i hi⟩
   exact⟨F',D,ng.step (Ex.seq (Ex.seq (Ex.di a1) (Ex.oh T Ex.skip)) (Ex.seq (Ex.block (Ex.seq (Ex.N2 (by decide) U) (Ex.oh (by simp[bz,b2]) (Ex.seq (Ex.di Y) (Ex.di Q))))) (Ex.di q6))) i1,i2⟩
structure Sj(off L:Nat)(rs:List (List V))(A:Nat->V)(t:Nat->Bool)(rs':List (List V)):Prop where
 len:rs'.length=rs.length
 pre:∀p i,(kept t L)[p]?=some i->rs'[off+p]?=some [A i]
 all:∀c∈rs',c∈rs\/c=[.bO]
theorem NM (X:IK E g cb H id off L rs A t):∀(d k:Nat) (F:Frame),k+d=L->0<k->(∀i,0<i->i<k->t i=false)->get F 0=.hsl id 1 off L->get F 1=.clo g [] cb->get F 5=.int .i64 k ->
 (∃F',ng E N UF F H (.exit 0) F' H/\get F' 0=.hsl id 1 off L/\∀i,0<i->i<L->t i=false) \/
 (∃F' D,ng E N UF F H .ret F' (H.set id (.row 1 D))/\get F' 4=.hsl id 1 off (kept t L).length/\Sj off L rs A t D):=by
 have Q:=(ζe.1 X.row).1;have S  := sN X.row;have ah:=X.small;have af:=X.len;intro d
 induction d with
 | zero=>
  intro k F he hk hp f0 f1 f5;have ek:k=L:=by omega
  subst ek;obtain⟨F1,e1,e2,e3⟩:=x5  (N:=N)  f0 f5;exact .inl ⟨F1,ng.stop (Ex.ve (Ex.seq (Ex.di e1) (Ex.qJ (by simp[bz,e2]) Ex.exit)) Zab) Zab,by grind,hp⟩
 | succ d ih=>
  intro k F he hk hp f0 f1 f5;obtain⟨F1,a1,a2,a3⟩:=x5    f0 f5;have U:bz N F1 15=.bool true:=by
   show get F1 15=_;rw[a2,decide_eq_true Zaa]
  obtain⟨u,rfl⟩:∃u,k=u+1:=⟨k-1,by omega⟩
  obtain⟨n0,ai⟩:=X.cmp;obtain⟨F2,b1,b2,b3⟩:=(XO  (N:=N) (cb:=cb) (g:=g) (i:=u) (L2:=L) (t:=t (u+1)) X.row Zaa Zaa (X.at_ _ Zaa) (X.at_ _ Zaa) X.keep (by rw[a3 1 Zaa];omega)).1 Zac Zac
  have W:∃n,∀k,n<=k->cK E N (run E k) (some H.length) r6 F1 H=some (F2,H):=⟨n0,λk hk=>b1 _ (by
   grind)⟩
  have Y  := λs hs=>(b3 s hs).trans (a3 s hs)
  cases w:t (u+1)with
  | false=>
   rw[w]at b2;obtain⟨T,q1,q2,q3⟩:=(N0 (E:=E)  (F:=F2)  (p:=u+1) Zaa).2.2 Zac
   have z:Ex E N UF F H .norm T H:=Ex.seq (Ex.seq (Ex.di a1) (Ex.oh U Ex.skip)) (Ex.seq (Ex.block (Ex.seq (Ex.N2 (by decide) W) (Ex.qJ (by simp[bz,b2]) Ex.skip))) (Ex.di q1))
   rcases ih (u+1+1) T Zaa Zaa (λi h1 Z=>by
    grind) Zac Zad q2 with⟨F',i1,i2⟩|⟨F',D,i1,i2⟩
   .exact .inl ⟨F',ng.step z i1,i2⟩
   exact .inr ⟨F',D,ng.step z i1,i2⟩
  | true=>
   rw[w]at b2;refine .inr ?_;obtain⟨T,q1,q2,q3⟩:=x7 (E:=E) (N:=N)  (H:=H) (k:=u+1) (by rw[Y 0 Zaa];exact f0) (by rw[Y 5 Zaa];exact f5) Zaa
   have G:kept t (u+1)=List.range (u+1):=DC _ hp;have aa:kept t (u+1+1)=List.range (u+1):=by
    rw[yR,G,w];simp
   have q4:∀call,cK E N call none r8 T H=some (set T 7 (.int .i64 1),H):=λcall=>vp  rfl (by simp[bK,bz,bq]) eC
   have h0:Head g cb id off L (u+1) 1 rs A t (set T 7 (.int .i64 1)) rs:=⟨by rw[jX _ _ Zaa,q3 0 Zaa Zaa,Y 0 Zaa];exact f0,by rw[jX _ _ Zaa,q3 1 Zaa Zaa,Y 1 Zaa];exact f1,
    by rw[jX _ _ Zaa,q3 5 Zaa Zaa,Y 5 Zaa,aa,List.length_range];exact f5,by rw[jX _ _ Zaa];exact q2,by rw[uk];rfl,rfl,
    λp i B=>by
     rw[aa]at B;obtain⟨h1,Z⟩:=ζe.1 B;simp at h1 Z;subst Z;exact X.at_ p Zaa,λi _ Z=>X.at_ i Z,λ_ _=>rfl,λi hi=>⟨i,hi,X.at_ i hi⟩⟩
   obtain⟨F5,C,l1,I⟩:=OV (N:=N) X Zaa Zaa w (L-(u+1)-1) 1 _ rs Zaa Zaa h0
   rw[S]at l1;have eL:u+1+(L-(u+1))=L:=by omega
   have ae:=Bp (t:=t) (k:=u+1) Zaa w L Zaa
   have l5:=I.f5;have J:=I.pre;rw[eL]at l5 J;generalize hK:(kept t L).length=K at *;have ab:(H.set id (.row 1 C))[id]? = some (.row 1 C):=List.getElem?_set_self Q;obtain⟨F6,w1,w2⟩:=x14 (E:=E) (N:=N) (p:=K) ab I.f0 l5 Zaa (by rw[I.len];omega)
   rw[List.set_set]at w1;obtain⟨F7,w3,w4⟩:=UP (E:=E)     (by rw[w2 0 Zaa];exact I.f0) (by rw[w2 5 Zaa];exact l5) Zaa
   have aj:=I.len;refine⟨F7,C.take (off+K)++List.replicate (L-K) [.bO]++C.drop (off+L),ng.stop (Ex.seq (Ex.seq (Ex.di a1) (Ex.oh U Ex.skip)) (Ex.ve (Ex.Qt (Ex.seq (Ex.N2 (by decide) W) (Ex.oh (by simp[bz,b2]) (Ex.seq (Ex.di q1) (Ex.seq (Ex.seq (Ex.di q4) (Ex.wq (Ex.loop l1))) (Ex.seq (Ex.di w1) (Ex.seq (Ex.di w3) Ex.ret))))))) Zab)) Zab,w4,?_,λp i B=>?_,λc hc=>?_⟩
   .simp;omega
   .have ak:p<K:=by rw[<-hK];exact(ζe.1 B).1
    rw[List.append_assoc,List.getElem?_append_left (by simp;omega),List.getElem?_take,if_pos Zaa]
    exact J p i B
   have ad:∀j x,C[j]? = some x->x∈rs:=λj x O=>by
    by_cases ho:j<off\/off+L<=j
    .rw[I.out j ho]at O;exact List.mem_of_getElem? O
    obtain⟨i,rfl⟩:∃i,j=off+i:=⟨j-off,by omega⟩
    obtain⟨q,hq,hc⟩:=I.cell i Zaa
    rw[hc]at O;cases O;exact List.mem_of_getElem? (X.at_ q hq)
   rcases List.mem_append.1 hc with hc|hc
   .rcases List.mem_append.1 hc with hc|hc
    .obtain⟨j,O⟩:=List.getElem?_of_mem (List.mem_of_mem_take hc);exact .inl (ad j c O)
    exact .inr (List.eq_of_mem_replicate hc)
   obtain⟨j,O⟩:=List.getElem?_of_mem (List.mem_of_mem_drop hc);exact .inl (ad j c O)
end
end cmpX
noncomputable def AV(E:Env)(g:Y')(cb:T2)(a b:V):a_ X':=match D9 E g cb a b with|some (.bool c)=>some c|_=>none
theorem XY{E:Env}{g:Y'}{cb:T2}{a b:V}{c:X'}(h:AV E g cb a b=some c):∃n,∀k,n<=k->cr (run E k) g (a::b::cb) []=some (.bool c):=by
 unfold AV at h;split at h;next c' d=>cases h;exact Gc d
 cases h
def ni(xs:T')(i:Nat):V:=jG ((xs[i]?).getD [])
noncomputable def zF(E:Env)(es:Nat)(xs:T'):T2->a_ T'
 |[.clo g [] cb]=>if xs.isEmpty then some []else if vI es xs&& !E.keep g then
  if(range xs.length).all λi=>i==0||(AV E g cb (ni xs i) (ni xs (i-1))).isSome then
   some ((kept (λi=>(AV E g cb (ni xs i) (ni xs (i-1))).getD false) xs.length).map λi=>(xs[i]?).getD [])
  else none
  else none
 |_=>none
noncomputable def uB(E:Env):GK:=⟨true,zF E⟩
namespace cmpX
section
variable{E:Env}{N:Nat->Y'}{g:Y'}{cb:T2}{H:bp}{id off L:Nat}{rs:T'}{A:Nat->V}{t:Nat->X'}
theorem whole(X:IK E g cb H id off L rs A t):∃F' B,Ex E N code [.hsl id 1 off L,.clo g [] cb] H .ret F' (H.set id (.row 1 B))/\get F' 4=.hsl id 1 off (kept t L).length/\Sj off L rs A t B:=by
 have u:H.set id (.row 1 rs)=H:=sN X.row;have same:(∀i,0<i->i<L->t i=false)->(kept t L).length=L/\Sj off L rs A t rs:=λh=>by have d:=DC L h;rw[d,length_range];exact⟨rfl,rfl,λp i O=>by rw[d]at O;have⟨a,w⟩:=ζe.1 O;simp at a w;subst w;exact X.at_ p a,λc b=>.inl b⟩
 have g1:∀call,cK E N call none r1 [.hsl id 1 off L,.clo g [] cb] H=some (set [.hsl id 1 off L,.clo g [] cb] 4 .bO,H):=λcall=>vp (v:=.bO) rfl (by simp[bK,bz,bq]) eC;have k0:get (set [V.hsl id 1 off L,.clo g [] cb] 4 .bO) 0=.hsl id 1 off L:=rfl;have k1:get (set [V.hsl id 1 off L,.clo g [] cb] 4 .bO) 1=.clo g [] cb:=rfl;generalize set [V.hsl id 1 off L,.clo g [] cb] 4 .bO=Q at *;have⟨F1,a1,a2,a3⟩:=x2 (E:=E) (N:=N) (H:=H) k0;by_cases S:L<2;have⟨z,C,D⟩:=SO (E:=E) (N:=N) (F:=F1) (H:=H);have⟨e1,e2⟩:=same λi a w=>by omega
 refine⟨z,rs,?_,by rw[e1,D,a3 0 Zaa];exact k0,e2⟩;rw[u];exact Ex.seq (Ex.di g1) (Ex.ve (Ex.seq (Ex.di a1) (Ex.oh (by show get F1 10=_;rw[a2,decide_eq_true Zaa]) (Ex.seq (Ex.di C) Ex.ret))) Zab);have g4:∀call,cK E N call none r4 F1 H=some (set F1 5 (.int .i64 1),H):=λcall=>vp (v:=.int .i64 1) rfl (by simp[bK,bz,bq]) eC;have b:Ex E N (.seq (.ops r2) (.cond (.s 10) (.seq (.ops r3) (.ret)) (.skip))) Q H .norm F1 H:=Ex.seq (Ex.di a1) (Ex.qJ (by show get F1 10=_;rw[a2,decide_eq_false Zaa]) Ex.skip);rcases NM (N:=N) X (L-1) 1 (set F1 5 (.int .i64 1)) Zaa Zaa (λi a w=>Zaa) (by rw[jX _ _ Zaa,a3 0 Zaa];exact k0) (by rw[jX _ _ Zaa,a3 1 Zaa];exact k1) (by rw[uk];rfl)with⟨F',G,I,J⟩|⟨F',B,G,I,J⟩;have⟨z,C,D⟩:=xmv (E:=E) (N:=N) (F:=F') (H:=H);have⟨e1,e2⟩:=same J;refine⟨z,rs,?_,by rw[e1,D];exact I,e2⟩;rw[u];exact Ex.seq (Ex.di g1) (Ex.seq b (Ex.seq (Ex.seq (Ex.di g4) (Ex.wq (Ex.loop G))) (Ex.seq (Ex.di C) Ex.ret)));exact⟨F',B,Ex.seq (Ex.di g1) (Ex.seq b (Ex.ve (Ex.seq (Ex.di g4) (Ex.Qt (Ex.loop G))) Zab)),I,J⟩
theorem empty{w:V}(c:V)(B:w=.bO\/w=.dQ):∃F',Ex E N code [w,c] H .ret F' H/\get F' 4=w:=by
 have g1:∀call,cK E N call none r1 [w,c] H=some (set [w,c] 4 .bO,H):=λcall=>vp (v:=.bO) rfl (by simp[bK,bz,bq]) eC;have k0:get (set [w,c] 4 .bO) 0=w:=rfl;generalize set [w,c] 4 .bO=u at *;have z:pL w=some (.int .i64 0):=by rcases B with rfl|rfl<;>rfl
 have a1:∃F1,(∀call,cK E N call none r2 u H=some (F1,H))/\get F1 10=.bool true/\get F1 0=w:=by refine⟨_,λcall=>vp (v:=w) rfl ?_<|vp (v:=.int .i64 0) rfl ?_<|vp (v:=.bool true) rfl ?_ eC,?_,?_⟩;simp[bK,bz,bq,k0];simp[bK,bz,bq,bu,z];simp[bK,bz,bq,bu,iu,pe];simp[bu];simp[bu,k0]
 have⟨F1,a1,a2,a3⟩:=a1;have⟨C,D,G⟩:=SO (E:=E) (N:=N) (F:=F1) (H:=H);exact⟨C,Ex.seq (Ex.di g1) (Ex.ve (Ex.seq (Ex.di a1) (Ex.oh a2 (Ex.seq (Ex.di D) Ex.ret))) Zab),by rw[G,a3]⟩
end
end cmpX
theorem Ss{E:Env}{f:Y'}{nm:Y'->a_ Nat}{N:Nat->Y'}(hN:∀f s,nm f=some s->N s=f)(d:E.keep f=true)(ho:E.own f=false)
 (hf:∃fi,E.ft f=some fi/\bV ⟨E,nm,fi.ntmps⟩ false fi.body=some cmpX.code/\2<=fi.ntmps/\fi.results=[.tmp 4]):oL E f (uB E):=by
 have⟨fi,h1,h2,h3,h4⟩:=hf;have D:∀{w c:V}{H H':bp}{F':WP}{r:V},Ex E N cmpX.code [w,c] H .ret F' H'->get F' 4=r->∃n,∀k,n<=k->run E k (.fn f) [w,c] H=some (r,H'):=λ{w c H H' F' r}K P=>by have⟨n,G⟩:=Ex.run hN h1 h2 (args:=[w,c]) (by simpa using h3) K (vs:=[r]) (by rw[h4];simp[ja,P]);exact⟨n,λk d=>(pJ E d).go _ _ _ _ G⟩
 refine⟨d,ho,?_,?_,?_⟩
 .intro es z vs ys h;simp only[uB,zF]at h;refine⟨?_,λe=>by simp[uB]at e⟩
  split at h
  .split at h
   .cases h;simp
   split at h
   .split at h
    .cases h;simpa using Ct _ _
    cases h
   cases h
  cases h
 .intro es vs ys h H Z ws w hw he;simp only[uB,zF]at h;split at h
  .obtain⟨q,r,rfl,R,t⟩:=hw.inv;rw[t.c_];have⟨F',e1,e2⟩:=cmpX.empty (E:=E) (N:=N) (H:=H) q he;have⟨n,G⟩:=D e1 e2;exact⟨n,[],λk d=>by rw[append_nil];exact G k d⟩
  cases h
 intro es z vs ys h H Z ws id off rs hw S T ae J hz;simp only[uB,zF]at h;split at h
 .rename_i g cb;obtain⟨q,r,rfl,R,t⟩:=hw.inv;rw[t.c_];obtain⟨a',B,rfl,ha,af⟩:∃a' B,q=.clo g a' B/\dG H Z [] a'/\dG H Z cb B:=R.kZ;rw[ha.c_]at *;split at h
  .rename_i he;cases h;have:z=[]:=by simpa using he
   subst this;have e2:∃F',Ex E N cmpX.code [.hsl id es off 0,.clo g [] B] H .ret F' H/\get F' 4=.hsl id es off 0:=by have g1:∀call,cK E N call none cmpX.r1 [.hsl id es off 0,.clo g [] B] H=some (set [.hsl id es off 0,.clo g [] B] 4 .bO,H):=λcall=>vp (v:=.bO) rfl (by simp[bK,bz,bq]) eC;have k0:get (set [V.hsl id es off 0,.clo g [] B] 4 .bO) 0=.hsl id es off 0:=rfl;generalize set [V.hsl id es off 0,.clo g [] B] 4 .bO=F0 at *;have a1:∃F1,(∀call,cK E N call none cmpX.r2 F0 H=some (F1,H))/\get F1 10=.bool true/\get F1 0=.hsl id es off 0:=(by refine⟨_,λcall=>vp (v:=.hsl id es off 0) rfl ?_<|vp (v:=.int .i64 0) rfl ?_<|vp (v:=.bool true) rfl ?_ eC,?_,?_⟩;simp[bK,bz,bq,k0];simp[bK,bz,bq,bu,pL];simp[bK,bz,bq,bu,iu,pe];simp[bu];simp[bu,k0]);have⟨F1,a1,a2,a3⟩:=a1;have⟨F2,b1,b2⟩:=cmpX.SO (E:=E) (N:=N) (F:=F1) (H:=H);exact⟨F2,Ex.seq (Ex.di g1) (Ex.ve (Ex.seq (Ex.di a1) (Ex.oh a2 (Ex.seq (Ex.di b1) Ex.ret))) Zab),by rw[b2,a3]⟩
   have⟨F',e1,e3⟩:=e2;have⟨n,G⟩:=D e1 e3;refine⟨n,rs,[],λk d=>?_,rfl,⟨rfl,λj u v l=>by simp at l⟩,J⟩
   rw[append_nil,sN S];exact G k d
  rename_i al;split at h
  .rename_i L;simp only[ζh,Bool.not_eq_true']at L;have⟨c1,c3⟩:=L;obtain⟨rfl,U,W⟩:=AM c1;split at h
   .rename_i Y;cases h;have O:∀i,i<z.length->∃a,rs[off+i]?=some [a]/\FR H Z (ni z i) a/\a.one=true:=λi hi=>by
     have⟨e,p2⟩:=W i z[i] (ζd hi);have Q:off+i<rs.length:=Zaa
     have:=ae.2 i z[i] rs[off+i] (ζd hi) (by rw[getElem?_take,if_pos hi,getElem?_drop,ζd Q])
     rw[e]at this;have⟨y,ys,e2,r1,r2⟩:=this.inv;rw[r2.c_]at e2;have e3:ni z i=jG z[i]:=by unfold ni;rw[ζd hi];rfl
     exact⟨y,by rw[ζd Q,e2],by rw[e3];exact r1,by rw[r1.one];exact p2⟩
    let A:Nat->V:=λi=>match rs[off+i]?with|some (a::_)=>a|_=>.undef
    have m:∀i,i<z.length->rs[off+i]?=some [A i]/\FR H Z (ni z i) (A i)/\(A i).one=true:=λi hi=>by have⟨a,p1,p2,p4⟩:=O i hi;have:A i=a:=(by show(match rs[off+i]?with|some (a::_)=>a|_=>V.undef)=a;rw[p1]);rw[this];exact⟨p1,p2,p4⟩
    have aa:∀i,i+1<z.length->∃b,AV E g cb (ni z (i+1)) (ni z i)=some b:=λi hi=>by have:=all_eq_true.1 Y (i+1) (mem_range.2 hi);simp only[Nat.add_sub_cancel,Bool.or_eq_true]at this;rcases this with h|h;simp at h;exact Option.isSome_iff_exists.1 h
    have X:cmpX.IK E g B H id off z.length rs A (λi=>(AV E g cb (ni z i) (ni z (i-1))).getD false):=by refine⟨S,T,U,λi hi=>(m i hi).1,λi hi=>(m i hi).2.2,c3,?_⟩;have⟨M,hM⟩:=FO (n:=z.length-1) (p:=λi k=>cr (run E k) g (ni z (i.1+1)::ni z i.1::cb) []=some (.bool ((AV E g cb (ni z (i.1+1)) (ni z i.1)).getD false))) (λi=>by have⟨b,Q⟩:=aa i.1 (by have:=i.2;omega);have⟨n,G⟩:=XY Q;exact⟨n,λk d=>by rw[G k d,Q];rfl⟩);have⟨L1,ah⟩:=nr ((range z.length).map (ni z));have⟨L2,ai⟩:=nr cb;have ab:∀i k,i<z.length->L1<=k->(ni z i).lvl k=true:=λi k hi d=>zW d (nG.1 ah i _ (by simp[hi]));refine⟨max M (max L1 L2),λk d i hi ad=>?_⟩;have C:∀j,Z j->Z j/\bt (H.set id (.row 1 ad)) j=bt H j:=λj o=>⟨o,by unfold bt;rw[getElem?_set_ne];rintro rfl;exact hz o⟩;have hl:dG (H.set id (.row 1 ad)) Z (ni z (i+1)::ni z i::cb) (A (i+1)::A i::B):=.cons ((m _ hi).2.1.mono C) (.cons ((m i Zaa).2.1.mono C) (af.mono C));have Q:=hl.Md (k:=k) (by simp only[V.mE,ab _ k hi Zaa,ab i k Zaa Zaa,qp (by omega:L2<=k) ai,Bool.and_self]);rw[Ys (by rw[pG];exact Q) (λx K=>?_)];exact hM ⟨i,Zaa⟩ k Zaa;have⟨j,o⟩:=getElem?_of_mem K;have⟨y,hy,P⟩:=hl.get o;exact V.lV P.good
    have⟨F',aj,e1,e2,e3⟩:=cmpX.whole (N:=N) X;have⟨n,G⟩:=D e1 e2;refine⟨n,aj,[],λk d=>?_,e3.len,?_,?_⟩
    .simp only[uB,if_true,length_map,append_nil];exact G k d
    .refine⟨by simp[e3.len];have:=Ct (λi=>(AV E g cb (ni z i) (ni z (i-1))).getD false) z.length;omega,λp a b hp hq=>?_⟩
     rw[getElem?_map]at hp;obtain⟨i,hi,rfl⟩:=ζf.1 hp;have I:=Mp (mem_of_getElem? hi);have ak:=(ζe.1 hi).1;rw[getElem?_take,if_pos (by simpa using ak),getElem?_drop,e3.pre p i hi]at hq
     cases hq;rw[ζd I,getD_some];have e4:=(W i z[i] (ζd I)).1;have e5:ni z i=jG z[i]:=by unfold ni;rw[ζd I];rfl
     rw[e4,<-e5];exact .cons (m i I).2.1 .nil
    intro c hc u l;rcases e3.all c hc with h|rfl
    .exact J c h u l
    simp at l;subst l;exact⟨.bO,.same _ rfl⟩
   cases h
  cases h
 cases h
def Sl.re{α:Type}(s:Sl α)(l:aZ α):Sl α:=match s with|.nil=>.nil|.emp=>.emp|.row _=>.row l|.part _=>.part l
def Sl.uD{α:Type}(s:Sl α)(l:aZ α):Sl α:=match s with|.nil=>.nil|.emp=>.emp|.row _|.part _=>.part l
noncomputable def Ab{α:Type}(s:Sl α)(p:α->α->QQ):a_ (Sl α):=
 match s.l with
 |[]=>some s|x::l=>if l.length<2147483648 then
  let t:_root_.Fin (l.length+1)->_root_.Fin (l.length+1)->QQ:=λi j=>p (x::l)[i.1] (x::l)[j.1]
  if CP t then some (s.re ((r_ l.length (qH t)).toList.map λi=>(x::l)[i.1]))else none
  else none
def uK{α:Type}(l:aZ α)(p:α->α->a_ X')(i:Nat):a_ X':=match l[i]?,l[i-1]?with|some a,some b=>p a b|_,_=>none
def yY{α:Type}(s:Sl α)(p:α->α->a_ X'):a_ (Sl α):=
 if s.l.length<=2147483648/\((range s.l.length).all λi=>i==0||(uK s.l p i).isSome)=true then
  some (s.uD ((kept (λi=>(uK s.l p i).getD false) s.l.length).filterMap (s.l[·]?)))
 else none
section
variable{S:Sys}{T:qY}{β γ δ α:Type}{Q:Out×St->a_ β}{e:γ->a_ β}{cf:Cf}
theorem hG.QD(B:rR S T)(D:∀f a b xs,S.items f a b=some xs->eT S f a b xs){fn:Y'}{A:δ->T2}{E:α->T2}{p:δ->a_ α}{sc:X'}(F:hG S (dg S T) fn A E p sc){z:δ}{r:α}(h:p z=some r)(d:V.cH (A z)=true):
 ∃n,cr (run S.E n) fn (A z) []=some (result (E r)):=by
 have e:=F.h z (E r) Zad
 have⟨⟨rs,m'⟩,u,w⟩:=ζg.1 e;have⟨n,y,H2,e1,e2,e3⟩:=Dv (vw B D) d u w;refine⟨n,?_⟩;have C:borrows n [] (A z)=some (A z):=by have c:=V.pn d;generalize A z=l at c;unfold borrows;induction l with|nil=>rfl|cons x l G=>simp[V.mw]at c;simp[jc,eO n [] c.1,G c.2]
 unfold cr;rw[pG,C];simp[e1 n (le_refl _),e2 n (le_refl _),V.lV e3]
section
variable[bC α]
theorem EE(b:bC.size α=1){l:aZ α}(B:l.length<=2147483648):vI (bC.size α) (rows l)=true:=by unfold vI;simp;refine⟨⟨b,λx u=>?_⟩,by simpa[rows]using B⟩;obtain⟨a,_,rfl⟩:=mem_map.1 u;exact⟨by rw[gI,b],all_eq_true.1 (bC.one a)⟩
theorem GR(b:bC.agg α=false)(a:α):jG (cells a)=enc a:=by unfold enc;rw[if_neg Zac];rfl
theorem Dt(l:aZ α)(i:Nat)(h:i<l.length):(rows l)[i]?=some (cells l[i]):=by unfold rows;grind
theorem Wi(U:rR S T)(W:∀f a b xs,S.items f a b=some xs->eT S f a b xs){g:Y'}{p:α->α->QQ}(F:hG S (dg S T) g (λz:α×α=>[enc z.1,enc z.2]) (λr:Int=>[.int .i64 r]) (λz=>p z.1 z.2) true)
 (c:bC.size α=1)(Y:bC.agg α=false){s D:Sl α}(h:Ab s p=some D):Bd S.E (bC.size α) (rows s.l) [.clo g [] []]=some (rows D.l)/\D.k=s.k:=by
 unfold Ab at h;split at h
 next B=>cases h;rw[B];exact⟨rfl,rfl⟩
 rename_i x l B;split at h
 .dsimp only at h;split at h
  .rename_i I;cases h;rw[B];have⟨u,J⟩:=rE I;have C:=EE c (l:=x::l) Zac
   have key:∀m,m=l.length->(if CP (λi j:_root_.Fin (m+1)=>uz S.E g [] (jG (((rows (x::l))[i.1]?).getD [])) (jG (((rows (x::l))[j.1]?).getD [])))then
    some ((r_ m (qH (λi j:_root_.Fin (m+1)=>uz S.E g [] (jG (((rows (x::l))[i.1]?).getD [])) (jG (((rows (x::l))[j.1]?).getD []))))).toList.map λi=>((rows (x::l))[i.1]?).getD [])else none)=
    some (rows ((r_ l.length (qH λi j:_root_.Fin (l.length+1)=>p (x::l)[i.1] (x::l)[j.1])).toList.map λi=>(x::l)[i.1])):=by
    rintro m rfl;have e1:∀i:_root_.Fin (l.length+1),jG (((rows (x::l))[i.1]?).getD [])=enc (x::l)[i.1]:=λi=>by rw[Dt (x::l) i.1 i.2,getD_some,GR Y]
    have e2:(λi j:_root_.Fin (l.length+1)=>uz S.E g [] (jG (((rows (x::l))[i.1]?).getD [])) (jG (((rows (x::l))[j.1]?).getD [])))=λi j=>p (x::l)[i.1] (x::l)[j.1]:=by funext i j;have⟨z,L⟩:=u i j;rw[e1 i,e1 j,L];have⟨n,O⟩:=F.QD U W (z:=((x::l)[i.1],(x::l)[j.1])) L (by simp[V.cH,j8]);unfold uz;rw[MZ O];rfl
    rw[e2,if_pos I]
    congr 1
    unfold rows;rw[List.map_map];refine List.map_congr_left λi _=>?_
    grind
   have w:(s.re ((r_ l.length (qH λi j:_root_.Fin (l.length+1)=>p (x::l)[i.1] (x::l)[j.1])).toList.map λi=>(x::l)[i.1])).l=(r_ l.length (qH λi j:_root_.Fin (l.length+1)=>p (x::l)[i.1] (x::l)[j.1])).toList.map (λi=>(x::l)[i.1])/\(s.re ((r_ l.length (qH λi j:_root_.Fin (l.length+1)=>p (x::l)[i.1] (x::l)[j.1])).toList.map λi=>(x::l)[i.1])).k=s.k:=by cases s<;>simp[Sl.l]at B<;>exact⟨rfl,rfl⟩
   refine⟨?_,w.2⟩;rw[w.1,<-key (rows l).length (iG l)];have d:(vI (bC.size α) (rows (x::l))&& !S.E.keep g)=true:=by rw[C,F.k];rfl
   have G:=d;exact(if_pos G).trans rfl
  simp_all
 simp_all
theorem Wy(W:rR S T)(Y:∀f a b xs,S.items f a b=some xs->eT S f a b xs){g:Y'}{p:α->α->a_ X'}(F:hG S (dg S T) g (λz:α×α=>[enc z.1,enc z.2]) (λr:X'=>[.bool r]) (λz=>p z.1 z.2) true)
 (d:bC.size α=1)(e:bC.agg α=false){s D:Sl α}(h:yY s p=some D):zF S.E (bC.size α) (rows s.l) [.clo g [] []]=some (rows D.l)/\D=s.uD D.l:=by
 have Q:∀l:aZ α,(s.uD l)=s.uD (s.uD l).l:=λl=>by cases s<;>rfl
 refine⟨?_,by
  unfold yY at h;grind⟩
 unfold yY at h;split at h
 .rename_i hc;cases h;have⟨X,u⟩:=hc;have I:=EE d X;simp only[zF]
  by_cases J:s.l=[]
  .have:(s.uD ((kept (λi=>(uK s.l p i).getD false) s.l.length).filterMap (s.l[·]?))).l=[]:=by
    cases s<;>simp[Sl.l]at J<;>simp[Sl.uD,Sl.l,J,kept]
   rw[this,J];rfl
  have L:(rows s.l).isEmpty=false:=by cases m:s.l with|nil=>grind|cons a l=>rfl
  rw[L,if_neg Zab,I,F.k,if_pos (by rfl),iG]
  have e1:∀i,0<i->i<s.l.length->∃b,uK s.l p i=some b/\AV S.E g [] (ni (rows s.l) i) (ni (rows s.l) (i-1))=some b:=λi k hi=>by have:=all_eq_true.1 u i (mem_range.2 hi);simp at this;have⟨b,C⟩:=Option.isSome_iff_exists.1 (this.resolve_left Zaa);refine⟨b,C,?_⟩;have w:i-1<s.l.length:=Zaa;unfold uK at C;rw[ζd hi,ζd w]at C;have U:∀j(G:j<s.l.length),ni (rows s.l) j=enc s.l[j]:=λj G=>(by unfold ni;rw[Dt _ _ G,getD_some,GR e]);rw[U i hi,U (i-1) w];have⟨n,Z⟩:=F.QD W Y (z:=(s.l[i],s.l[i-1])) C (by simp only[V.cH,j8,Bool.and_self]);unfold AV;rw[MZ Z];rfl
  have e2:((range s.l.length).all λi=>i==0||(AV S.E g [] (ni (rows s.l) i) (ni (rows s.l) (i-1))).isSome)=true:=by grind
  rw[if_pos e2];have e3:kept (λi=>(AV S.E g [] (ni (rows s.l) i) (ni (rows s.l) (i-1))).getD false) s.l.length=kept (λi=>(uK s.l p i).getD false) s.l.length:=by refine List.filter_congr λi hi=>?_;by_cases k:i=0;grind;have⟨b,o,q⟩:=e1 i Zaa (mem_range.1 hi);simp_all
  rw[e3];have e4:(s.uD ((kept (λi=>(uK s.l p i).getD false) s.l.length).filterMap (s.l[·]?))).l=(kept (λi=>(uK s.l p i).getD false) s.l.length).filterMap (s.l[·]?):=by cases s<;>first|rfl|grind
  rw[e4]
  congr 1
  generalize c:kept (λi=>(uK s.l p i).getD false) s.l.length=O
  have B:∀i∈O,i<s.l.length:=λi hi=>Mp (c▸hi)
  clear c e3 e4
  induction O with
  |nil=>rfl|cons i O ih=>
   have hi:=B i Zab
   rw[map_cons,ih λj G=>B j (List.mem_cons_of_mem _ G),Dt _ _ hi,List.filterMap_cons,ζd hi]
   rfl
 simp_all
theorem T9{s B:Sl α}{p:α->α->QQ}(h:Ab s p=some B)(a:cR s.k=false):B=s:=by cases s<;>simp[Sl.k,cR]at a<;>simpa[Ab,Sl.l]using h.symm
theorem ZZ(n d:Nat)(D:rR S T)(G:∀f a b xs,S.items f a b=some xs->eT S f a b xs){fn g:Y'}(hp:S.prm fn=some (uJ S.E)){p:α->α->QQ}
 (F:hG S (dg S T) g (λz:α×α=>[enc z.1,enc z.2]) (λr:Int=>[.int .i64 r]) (λz=>p z.1 z.2) true){s:Sl α}{f:Sl α->a_ γ}
 (h:∀B,Ab s p=some B->Le ((f B).bind e) (cg S (dg S T) Q (nx S (dg S T) n cf λq=>cV {q.st with m:=bP q.st.m d (cI B)} q.d (.v .undef))))
 (i:bC.size α=1:=by rfl)(J:bC.agg α=false:=by rfl)
 (U:(gm S (dg S T) n cf).map (λq=>(q.k,bY S.N q.st.g q.az,bn q.st.m d,q.dr))=some (.c,some [.v (.clo fn [] []),.own d,.v (.clo g [] [])],some (cI s),false):=by kernel_rfl):Le (((Ab s p).bind f).bind e) (cg S (dg S T) Q cf):=by
 have⟨q,C,c⟩:=fh U;simp at c;have⟨I,L,O,W⟩:=c;refine ru C ?_ h;rw[I,W];intro y w;have⟨B,u,w⟩:=ζg.1 w;have⟨e1,e2⟩:=Wi D G F i J u;have j:=(D.prm fn _ hp).keep;have X:=(D.prm fn _ hp).own;rw[wV false _ _ _ _ _ _ fn [.own d,.v (.clo g [] [])] L rfl];have l:fK S (dg S T) q.d false (!false||q.now) (gw q.st.m q.fr) fn [.own d,.v (.clo g [] [])] q.st=some (.v .undef,{q.st with m:=bP q.st.m d (cI B)}):=by unfold fK;simp[j,X,hp,DB,O,cI,dA];have e3:=e1;simp[uJ];cases k:cR s.k with|true=>grind|false=>have:=T9 u k;grind
 grind
theorem ZO(n d t:Nat)(D:rR S T)(G:∀f a b xs,S.items f a b=some xs->eT S f a b xs){fn g:Y'}(hp:S.prm fn=some (uB S.E)){p:α->α->a_ X'}
 (F:hG S (dg S T) g (λz:α×α=>[enc z.1,enc z.2]) (λr:X'=>[.bool r]) (λz=>p z.1 z.2) true){s:Sl α}{f:Sl α->a_ γ}
 (h:∀B,yY s p=some B->Le ((f B).bind e) (cg S (dg S T) Q (nx S (dg S T) n cf λq=>{q.st with g:=bP q.st.g t (.own t),m:=bP (eF d q.st.m) t (cI B)})))
 (i:bC.size α=1:=by rfl)(J:bC.agg α=false:=by rfl)
 (U:(gm S (dg S T) n cf).map (λq=>(q.k,bY S.N q.st.g q.az,bn q.st.m d,q.dr,q.d,St.new {q.st with m:=eF d q.st.m} t))=some (.c,some [.v (.clo fn [] []),.own d,.v (.clo g [] [])],some (cI s),false,some t,true):=by kernel_rfl):Le (((yY s p).bind f).bind e) (cg S (dg S T) Q cf):=by
 have⟨q,C,c⟩:=fh U;simp at c;have⟨I,L,O,W,X,Y⟩:=c;refine ru C ?_ h;rw[I,W,X];intro y u;have⟨B,w,u⟩:=ζg.1 u;cases u;have⟨e1,e2⟩:=Wy D G F i J w;have j:=(D.prm fn _ hp).keep;have Z:=(D.prm fn _ hp).own;rw[wV false _ _ _ _ _ _ fn [.own d,.v (.clo g [] [])] L rfl];have k:fK S (dg S T) (some t) false (!false||q.now) (gw q.st.m q.fr) fn [.own d,.v (.clo g [] [])] q.st=some (.own t,{q.st with m:=bP (eF d q.st.m) t (cI B)}):=by unfold fK;simp[j,Z,hp,DB,O,cI,dA];have e3:(uB S.E).go (bC.size α) (rows s.l) [.clo g [] []]=some (rows B.l):=e1;rw[e3];simp[uB,Y];have e4:(if cR s.k=true then bM.sl .part (bC.size α) (rows B.l)else .sl s.k (bC.size α) (rows s.l))=.sl B.k (bC.size α) (rows B.l):=(by rw[e2];cases s<;>rfl);rw[e4]
 rw[k];rfl
end
end
section
variable{H H':bp}{w:V}{o:Nat}{ids:S'}{rows:T'}
theorem nF.cell(n:nF H w o ids rows){p j:Nat}{r:T2}{u:V}(a:rows[p]?=some r)(c:r[j]?=some u):
 ∃id,ids[p]?=some id/\mN 1 w (p:Int)=some (.hptr o p 0)/\fD H (.load 1 false) [.hptr o p 0]=some (.hsl id 1 0 r.length)/\mN 1 (.hsl id 1 0 r.length) (j:Int)=some (.hptr id j 0)/\fD H (.load 1 false) [.hptr id j 0]=some u:=by
 have D:=(ζe.1 a).1;have G:=(ζe.1 c).1;have B:rows≠[]:=by intro e;subst e;simp at a
 have C:p<ids.length:=by rw[n.len];exact D
 have z:=ζd C;refine⟨ids[p],z,?_,?_,?_,?_⟩
 .have:=n.v;rw[if_neg B]at this;subst this;simp[mN,D]
 .have b:=n.ob B;have I:=Ds z a;simp[fD,eM,b,Ob.rows,I,cut];rfl
 .simp[mN,G]
 have b:=n.r p _ r z a;simp[fD,eM,b,Ob.rows,jQ,c,cut];rfl
theorem PA{ids:S'}(h:ids.Nodup){i j:Nat}{a:Nat}(hi:ids[i]?=some a)(B:ids[j]?=some a):i=j:=by have b:=(ζe.1 hi);have u:=(ζe.1 B);have⟨b,e1⟩:=b;have⟨u,e2⟩:=u;exact(List.getElem_inj h).1 (e1.trans e2.symm)
theorem nF.set(n:nF H w o ids rows){p j id:Nat}{r:T2}{u:V}(a:rows[p]?=some r)(U:j<r.length)(B:ids[p]?=some id)(c:V.one u=true)(d:u.cells=[u]):
 ∃H',fQ H (.store 1) [.hptr id j 0,u]=some (.undef,H')/\nF H' w o ids (rows.set p (r.set j u))/\H'.length=H.length/\(∀i,i≠id->H'[i]?=H[i]?):=by
 have L:=(ζe.1 a).1;have z:rows≠[]:=by intro e;subst e;simp at a
 have b:=n.r p id r B a;have O:id<H.length:=(ζe.1 b).1;have D:(jQ r).set j [u]=jQ (r.set j u):=by simp[jQ,List.map_set]
 have G:o≠id:=λe=>n.ne z (e▸mem_of_getElem? B)
 refine⟨H.set id (.row 1 (jQ (r.set j u))),?_,⟨?_,λ_=>?_,by simp[n.len],λi I Q hi C=>?_,n.nd,λ_=>n.ne z⟩,Zab,λi hi=>getElem?_set_ne (Ne.symm hi)⟩
 .have S:(jQ r)[j]?=some [r[j]]:=by simp[jQ,U]
  simp only[fQ,b,S,d,length_singleton,zero_add,le_refl,all_cons,c,List.all_nil,Bool.and_self,and_self,if_true,List.take_zero,nil_append];rw[<-D];simp
 .rw[n.v];have:rows.set p (r.set j u)≠[]:=by intro e;apply z;simpa using e
  rw[if_neg z,if_neg this,List.length_set]
 .rw[getElem?_set_ne (Ne.symm G),Kz a Zab];exact n.ob z
 by_cases e:i=p
 .subst e;rw[B]at hi;cases hi;rw[getElem?_set_self L]at C;cases C;rw[getElem?_set_self O]
 rw[getElem?_set_ne (Ne.symm e)]at C;have J:id≠I:=λT=>e (PA n.nd (T▸hi) B)
 rw[getElem?_set_ne J];exact n.r i I Q hi C
end
structure lB(H:bp)(w:V)(l:List (List V))(id:Nat):Prop where
 c:∀c∈l,c.length=2/\c.all V.one=true
 v:(w=.bO/\l=[])\/∃off xs,w=.hsl id 2 off l.length/\H[id]?=some (.row 2 xs)/\off+l.length<=xs.length/\(xs.drop off).take l.length=l
section
variable{H H':bp}{w:V}{l:T'}{id:Nat}
theorem lB.heap(n:lB H w l id)(h:∀off n,w=.hsl id 2 off n->H'[id]?=H[id]?):lB H' w l id:=⟨n.c,n.v.imp (λh=>h) λ⟨off,u,e1,e2,e3,e4⟩=>⟨off,u,e1,by rw[h _ _ e1];exact e2,e3,e4⟩⟩
theorem lB.lt(n:lB H w l id){off m:Nat}(h:w=.hsl id 2 off m):id<H.length:=by rcases n.v with⟨e,_⟩|⟨_,u,_,e2,_⟩;rw[e]at h;cases h;exact(ζe.1 e2).1
theorem lB.more(n:lB H w l id)(X:bp):lB (H++X) w l id:=n.heap λ_ _ e=>getElem?_append_left (n.lt e)
theorem lB.len(n:lB H w l id):pL w=some (.int .i64 l.length):=by rcases n.v with⟨rfl,rfl⟩|⟨off,u,rfl,_⟩<;>rfl
theorem lB.get(n:lB H w l id){i:Nat}{c:T2}(a:l[i]?=some c):∃p,mN 2 w (i:Int)=some p/\fD H (.load 2 true) [p]=some (.agg c):=by
 have hi:=(ζe.1 a).1;have u:=(n.c c (mem_of_getElem? a)).1;rcases n.v with⟨_,rfl⟩|⟨off,z,rfl,e2,e3,e4⟩;simp at a;refine⟨.hptr id (off+i) 0,by simp[mN,hi],?_⟩;have:z[off+i]?=some c:=by rw[<-e4,getElem?_take,if_pos hi,getElem?_drop]at a;exact a
 simp[fD,eM,e2,Ob.rows,this,cut,<-u];rfl
theorem lB.tail{c:T2}(n:lB H w (c::l) id):∃w',iO 2 w (some 1) none=some w'/\lB H w' l id/\∃off m B,w=.hsl id 2 off m/\w'=.hsl id 2 B l.length:=by
 rcases n.v with⟨_,e⟩|⟨off,u,rfl,e2,e3,e4⟩;cases e;refine⟨.hsl id 2 (off+1) l.length,?_,⟨λc a=>n.c c (List.mem_cons_of_mem _ a),.inr ⟨off+1,u,rfl,e2,by simp at e3;omega,?_⟩⟩,⟨_,_,_,rfl,rfl⟩⟩;simp[iO,ey];omega;have hd:(u.drop off).drop 1=u.drop (off+1):=by rw[List.drop_drop]
 rw[<-hd];have:=congrArg (List.drop 1) e4;rw[List.drop_take]at this;simpa using this
theorem lB.push(n:lB H w l id){c:T2}(a:c.length=2/\c.all V.one=true)(B:l.length+1<=2147483648):
 ∃H',fQ (H++[.row 2 [c]]) (.append 2) [w,.hsl H.length 2 0 1]=some (.hsl (H.length+1) 2 0 (l.length+1),H')/\lB H' (.hsl (H.length+1) 2 0 (l.length+1)) (l++[c]) (H.length+1)/\H'.length=H.length+2/\(∀i,i<H.length->(∀off m,w=.hsl id 2 off m->i≠id)->H'[i]?=H[i]?):=by
 have e2:dR (H++[.row 2 [c]]) 2 (.hsl H.length 2 0 1)=some [c]:=by simp[dR,Ob.rows]
 have u:∀c'∈l++[c],c'.length=2/\c'.all V.one=true:=λc' h=>by rcases mem_append.1 h with h|h;exact n.c c' h;simp at h;subst h;exact a
 rcases n.v with⟨rfl,rfl⟩|⟨off,D,rfl,g2,g3,g4⟩
 .have e1:dR (H++[.row 2 [c]]) 2 .bO=some []:=rfl;refine⟨H++[.row 2 [c]]++[.row 2 [c]],?_,⟨u,.inr ⟨0,[c],rfl,Zab,Zab,rfl⟩⟩,Zab,λi hi _=>by rw[append_assoc,getElem?_append_left hi]⟩
  simp only[fQ,e1,e2,iD,List.length_nil,length_singleton,map_some];simp
 have z:=(ζe.1 g2).1;have e1:dR (H++[.row 2 [c]]) 2 (.hsl id 2 off l.length)=some l:=by simp only[dR,if_true,getElem?_append_left z,g2,ζb,Ob.rows,g3,g4]
 have C:iD (H++[.row 2 [c]]) (.hsl id 2 off l.length)=some (List.set (H++[Ob.row 2 [c]]) id Ob.dead):=by simp only[iD,getElem?_append_left z,g2]
 refine⟨List.set (H++[Ob.row 2 [c]]) id Ob.dead++[Ob.row 2 (l++[c])],?_,⟨u,.inr ⟨0,l++[c],Zab,Zab,Zab,take_of_length_le Zab⟩⟩,Zab,λi hi h=>?_⟩
 .simp only[fQ,e1,e2,C,length_singleton,B,if_true,map_some,ζi]
 rw[getElem?_append_left (by simp;omega),getElem?_set_ne (Ne.symm (h _ _ rfl)),getElem?_append_left hi]
end
noncomputable def Bg(rs:aZ RV):Out×St->a_ bM
 |(.exit _,_)=>none|(_,st)=>(lC st rs).bind λl=>match l with
  |[.own d]=>bn st.m d|_=>none
theorem YG{S:Sys}{c:cm}{rs:aZ RV}{a:RC}{st:St}{ob:bM}(h:lF S c (Bg rs) a [] st=some ob):∃o st' d,cQ S c a st=some (o,st')/\(∀id,o≠.exit id)/\lC st' rs=some [.own d]/\bn st'.m d=some ob:=by
 rw[qw]at h;have⟨⟨o,st'⟩,b,u⟩:=ζg.1 h;have z:∀id,o≠.exit id:=by rintro id rfl;simp[Bg]at u
 have B:(lC st' rs).bind (λl=>match l with|[.own d]=>bn st'.m d|_=>none)=some ob:=by cases o with|exit id=>exact absurd rfl (z id)|norm=>exact u|ret=>exact u
 have⟨l,C,w⟩:=ζg.1 B;split at w;exact⟨o,st',_,b,z,C,w⟩;cases w
theorem YC{S:Sys}{T:qY}(U:rR S T)(W:∀f a b xs,S.items f a b=some xs->eT S f a b xs){f:Y'}{rf:RF}(Y:T f=some rf){B:T2}(c:V.cH B=true)(g:B.length<=rf.na){k:Fl}{es:Nat}{xs:T'}
 (l:∀x∈xs,x.all V.scalar=true)(m:k=.row\/k=.nil/\xs=[])(h:lF S (dg S T) (Bg rf.rs) rf.body [] (start (B.map .v) [])=some (.sl k es xs)):
 ∃n y H',run S.E n (.fn f) B []=some (y,H')/\((k=.nil/\y=.bO)\/(∃id,y=.hsl id es 0 xs.length/\H'[id]?=some (.row es xs))):=by
 have⟨o,st',d,r,O,G,I⟩:=YG h;have s:dg S T f (B.map .v) []=some ([.own d],st'.m):=by rw[tn Y];unfold nW;rw[if_pos (by simpa using g),r];cases o with|exit id=>exact absurd rfl (O id)|norm=>simp only[G,map_some]|ret=>simp only[G,map_some]
 have⟨Q,r1⟩:=yM c;obtain⟨n,y,H2,ν',Z',st2,F',J,g1,rfl,g3,g4,g5,_⟩:=vw U W f _ _ _ _ s _ _ B [] (.inr rfl) Q r1;obtain⟨z,F,rfl,e1,e2⟩:=g4.inv;have:=e2.c_;subst this;refine⟨n,_,H2,g1,?_⟩
 cases e1 with
 |own d y X=>
  have⟨H,Z,K,e,u⟩:=X _ I;cases e;have w:=g5.obj d _ (by rw[g3];exact I)
  rcases m with rfl|⟨rfl,rfl⟩
  .right;simp only[eD,cR,if_true]at w;have⟨J,t,M,D,N,C⟩:=w;have⟨C,v⟩:=C trivial;rw[C,drop_zero,<-v,take_of_length_le (le_refl _)]at D;have:xs=J:=by
    refine List.ext_getElem D.1 λi p q=>?_
    have hi:=D.2 i _ _ (ζd p) (ζd q);refine List.ext_getElem hi.1 λj L A=>?_
    have E:=hi.2 j _ _ (ζd L) (ζd A);exact((E.scalar).1 (all_eq_true.1 (l _ (getElem_mem p)) _ (getElem_mem L))).symm
   subst this;refine⟨(ν' d).1,?_,t⟩;show result [_]=_;rw[u];simp[result,tM,C]
  left;exact⟨rfl,by show result [_]=_;rw[u];rfl⟩
theorem J8{E:Env}{f:Y'}{B:T2}{l:T'}{y:V}{H1:bp}(d:E.own f=true)(e:V.cH B=true)(D:∀c∈l,c.length=2/\c.all V.one=true/\c.all V.scalar=true)
 (b:∃n,∀k,n<=k->run E k (.fn f) B []=some (y,H1))(G:(l=[]/\y=.bO)\/(∃id,y=.hsl id 2 0 l.length/\H1[id]?=some (.row 2 l)))(H:bp):
 ∃w X id,(∃n,∀k,n<=k->fI E (run E k) f B H=some (w,H++X))/\lB (H++X) w l id/\(∀off m,w=.hsl id 2 off m->id=H.length):=by
 have⟨n,b⟩:=b;have C:∀{k:Nat}{l:T2},V.cH l=true->borrows k H l=some l:=by intro k l;unfold borrows;induction l with|nil=>intro _;rfl|cons a l I=>intro h;have g:V.good a=true/\V.cH l=true:=(by simpa[V.cH]using h);simp only[jc,eO k H (V.lV g.1),I g.2]
 rcases G with⟨rfl,rfl⟩|⟨id,rfl,z⟩
 .refine⟨.bO,[],0,⟨n,λk u=>?_⟩,⟨λc h=>by simp at h,.inl ⟨rfl,rfl⟩⟩,λoff m h=>by cases h⟩
  simp only[fI,d,if_true,lT,C e,b k u,V.scalar,append_nil]
 refine⟨.hsl H.length 2 0 l.length,[.row 2 l],H.length,⟨n,λk u=>?_⟩,⟨λc h=>⟨(D c h).1,(D c h).2.1⟩,.inr ⟨0,l,rfl,Zab,Zab,Zab⟩⟩,λoff m h=>rfl⟩
 have J:(l.all λx=>x.all V.scalar)=true:=all_eq_true.2 λc h=>(D c h).2.2
 simp only[fI,d,if_true,lT,C e,b k u,V.scalar,false_eq_true,if_false,sF,z,J,and_self,map_some]
def Sl.whole{α:Type}(s:Sl α):a_ (Sl α):=match s with|.part _=>none|s=>some s
structure A6(S:Sys)(c:cm){α δ:Type}[bC δ](fn:FuncId)(A:α->List V)(p:α->Option (Sl δ)):Prop where
 k:S.E.keep fn=true
 o:S.E.own fn=true
 h:∀z s,p z=some s->∃e m',c fn ((A z).map .v) []=some ([.own e],m')/\bn m' e=some (cI s)
 sc:∀x:δ,(cells x).all V.scalar=true
theorem A6.mk'{S:Sys}{T:qY}{α δ:Type}[bC δ](rf:RF){fn:Y'}{A:α->T2}{p:α->a_ (Sl δ)}(h:∀z,Le ((p z).bind λr=>some (cI r)) (cg S (dg S T) (Bg rf.rs) (.rc rf.body,[],start ((A z).map .v) [])))
 (B:T fn=some rf:=by kernel_rfl)(b:S.E.keep fn=true:=by kernel_rfl)(D:S.E.own fn=true:=by kernel_rfl)(G:∀z,(A z).length<=rf.na:=by intro z;exact Nat.le_of_ble_eq_true (by kernel_rfl))
 (sc:∀x:δ,(cells x).all V.scalar=true:=by intro x;rfl):A6 S (dg S T) fn A p where
 k:=b
 o:=D
 sc:=sc
 h z s u:=by have a:=h z (cI s) (by rw[u];rfl);change lF S (dg S T) (Bg rf.rs) rf.body [] (start ((A z).map .v) [])=some (cI s)at a;have⟨o,st',d,g1,g2,g3,g4⟩:=YG a;refine⟨d,st'.m,?_,g4⟩;rw[tn B];unfold nW;rw[if_pos (by simpa using G z),g1];cases o with|exit id=>exact absurd rfl (g2 id)|norm=>simp only[g3,map_some]|ret=>simp only[g3,map_some]
section
variable{S:Sys}{c:cm}{β γ δ α:Type}[bC δ]{Q:Out×St->a_ β}{e:γ->a_ β}{cf:Cf}
theorem NH(n u:Nat){fn:Y'}{A:α->T2}{p:α->a_ (Sl δ)}(F:A6 S c fn A p)(z:α){f:Sl δ->a_ γ}
 (h:∀x,(p z).bind Sl.whole=some x->Le ((f x).bind e) (cg S c Q (nx S c n cf λq=>{q.st with g:=bP q.st.g u (.own u),m:=bP q.st.m u (cI x)})))
 (J:(gm S c n cf).map (λq=>(q.d,q.k,(bY S.N q.st.g q.az).bind lR,(!q.dr||q.now),q.st.new u))=some (some u,.c,some (fn,(A z).map .v),true,true):=by kernel_rfl):Le ((((p z).bind Sl.whole).bind f).bind e) (cg S c Q cf):=by
 have⟨q,L,b⟩:=fh J;simp only[ζc]at b;have⟨O,T,U,W,I⟩:=b;have⟨C,g1,g2⟩:=ζg.1 U;refine ru L ?_ h;rw[O,T];intro y D;have⟨X,G,D⟩:=ζg.1 D;cases D;have⟨s,Y,B⟩:=ζg.1 G;have⟨e0,m',d,Z⟩:=F.h z s Y;rw[wV q.dr _ _ _ _ _ C fn ((A z).map .v) g1 g2];have w:fK S c (some u) q.dr (!q.dr||q.now) (gw q.st.m q.fr) fn ((A z).map .v) q.st=some (.own u,{q.st with m:=bP q.st.m u (cI X)}):=by unfold fK;simp only[F.k,F.o,if_true,W,v7,d,dA,Z,cI,I];cases s with|nil=>cases B;rfl|emp=>cases B;rfl|row l=>cases B;have:mR (rows l)=true:=(by unfold mR;rw[all_eq_true];intro x i;obtain⟨a,_,rfl⟩:=mem_map.1 i;exact F.sc a);simp only[Sl.k,Sl.l,dA,V.cZ,this,Bool.and_self,I,if_true];rfl|part l=>cases B
 rw[w];rfl
end
structure GD where
 m:Nat
 pre:List (Nat×List Gh)
 nd:List (Nat×List Gh×List Gh)
structure GI where
 m:Nat
 i:Nat
 j:Nat
def lkL{α:Type}(l:aZ (Nat×aZ α))(i:Nat):aZ α:=match l with
 |[]=>[]|(k,x)::r=>bif beq k i then x else lkL r i
def A_(l:aZ (Nat×QP×QP))(i:Nat):QP×QP:=match l with
 |[]=>([],[])|(k,x)::r=>bif beq k i then x else A_ r i
def NS(m:Nat):S'->S'
 |[]=>[]|x::l=>bif beq (m % 2) 1 then x::NS (m / 2) l else NS (m / 2) l
def RW:R0->S'
 |[]=>[]|.s n::r=>n::RW r|_::r=>RW r
def Z9(o:RO):S':=(match o.dst with|some d=>[d]|none=>[])++(match o.gd with|some g=>[g.1]|none=>[])++RW o.az
def aa1(G:GD)(s:GI)(o:RO):RO:={o with dead:=NS (bif beq (s.m % 16) 15 then s.m / 16 % 65536 else s.m % 16) (Z9 o),pre:=lkL G.pre s.i}
def GI.op(s:GI):GI:=⟨bif beq (s.m % 16) 15 then s.m / 1048576 else s.m / 16,s.i+1,s.j⟩
def Bf(G:GD):SW->GI->SW×GI
 |[],s=>([],s)|o::r,s=>(aa1 G s o::(Bf G r s.op).1,(Bf G r s.op).2)
def Be:QP->RC->RC
 |[],c=>c|g::l,c=>.gh g (Be l c)
def PO:QP->RC->RC
 |[],c=>c|g::l,c=>PO l (.hg c g)
def GI.nd(s:GI):GI:=⟨s.m,s.i,s.j+1⟩
def j_(G:GD):RC->GI->RC×GI
 |.seq a b,s=>(Be (A_ G.nd s.j).1 (.seq (j_ G a s.nd).1 (j_ G b (j_ G a s.nd).2).1),(j_ G b (j_ G a s.nd).2).2)|.cond x a b,s=>(Be (A_ G.nd s.j).1 (.cond x (j_ G a s.nd).1 (j_ G b (j_ G a s.nd).2).1),(j_ G b (j_ G a s.nd).2).2)|.block id a,s=>(Be (A_ G.nd s.j).1 (.block id (j_ G a s.nd).1),(j_ G a s.nd).2)|.loop a,s=>(Be (A_ G.nd s.j).1 (.loop (PO (A_ G.nd s.j).2 (j_ G a s.nd).1)),(j_ G a s.nd).2)|.each g ps a b,s=>(Be (A_ G.nd s.j).1 (.each g ps (j_ G a s.nd).1 (PO (A_ G.nd s.j).2 (j_ G b (j_ G a s.nd).2).1)),(j_ G b (j_ G a s.nd).2).2)|.ops l,s=>(Be (A_ G.nd s.j).1 (.ops (Bf G l s.nd).1),(Bf G l s.nd).2)|.qG l,s=>(Be (A_ G.nd s.j).1 (.qG (Bf G l s.nd).1),(Bf G l s.nd).2)|.gh g c,s=>(.gh g c,s)|.hg c g,s=>(.hg c g,s)|c,s=>(Be (A_ G.nd s.j).1 c,s.nd)
theorem mh(c:RC):∀l,erase (Be l c)=erase c
 |[]=>rfl|g::l=>by simp only[Be,erase,mh c l]
theorem BC:∀l(c:RC),erase (PO l c)=erase c
 |[],c=>rfl|g::l,c=>by simp only[PO,BC l,erase]
theorem AI(G:GD):∀(l:SW)s,((Bf G l s).1).map RO.strip=l.map RO.strip
 |[],s=>rfl|o::r,s=>by simp only[Bf,map_cons,AI G r];rfl
theorem mT(G:GD):∀(c:RC)s,erase (j_ G c s).1=erase c
 |.seq a b,s=>by simp only[j_,mh,erase,mT G a,mT G b]|.cond x a b,s=>by simp only[j_,mh,erase,mT G a,mT G b]|.block id a,s=>by simp only[j_,mh,erase,mT G a]|.loop a,s=>by simp only[j_,mh,erase,BC,mT G a]|.each g ps a b,s=>by simp only[j_,mh,erase,BC,mT G a,mT G b]|.ops l,s=>by simp only[j_,mh,erase,AI]|.qG l,s=>by simp only[j_,mh,erase,AI]|.gh g c,s=>rfl|.hg c g,s=>rfl|.skip,s=>by simp only[j_,mh]|.ret,s=>by simp only[j_,mh]|.exit _,s=>by simp only[j_,mh]
theorem Ll{X:CX}{dr:X'}{ops:R'}{i:Nat}{o:Oper}{r:RO}(h:oU X dr ops i o=some r):r.strip=r:=by obtain⟨_,_,_,_,_,_,rfl⟩:=EV h;rfl
theorem zh{X:CX}{dr:X'}{ops:R'}:∀{l:R'}{i:Nat}{r:SW},mj X dr ops i l=some r->r.map RO.strip=r
 |[],i,r,h=>by cases h;rfl|o::l,i,r,h=>by simp only[mj]at h;split at h;(next a b B D=>cases h;simp only[map_cons,Ll B,zh D]);cases h
theorem Lz{X:CX}:∀{c:Code}{ro:X'}{r:RC},bV X ro c=some r->erase r=r:=by intro c;induction c with|region _ ops dr=>intro ro r h;simp only[bV]at h;split at h;split at h;obtain⟨l,d,rfl⟩:=ζf.1 h;simp only[erase,zh d];cases h;obtain⟨l,d,rfl⟩:=ζf.1 h;simp only[erase,zh d]|seq a b u w=>intro ro r h;simp only[bV]at h;split at h;(next d z=>cases h;simp only[erase,u d,w z]);cases h|cond c a b u w=>intro ro r h;simp only[bV]at h;split at h;(next d z=>cases h;simp only[erase,u d,w z]);cases h|block id a u=>intro ro r h;simp only[bV]at h;obtain⟨l,d,rfl⟩:=ζf.1 h;simp only[erase,u d]|loop a u=>intro ro r h;simp only[bV]at h;obtain⟨l,d,rfl⟩:=ζf.1 h;simp only[erase,u d]|rangeFunc g ps a b u w=>intro ro r h;simp only[bV]at h;split at h;cases h;split at h;(next d z=>cases h;simp only[erase,u d,w z]);cases h|_=>intro ro r h;first|cases h;rfl|(simp only[bV]at h;cases h;rfl)|(simp only[bV]at h;cases h)
def SD(E:Env)(nm:Y'->a_ Nat)(G:Y'->a_ GD):qY:=λf=>(G f).bind λg=>(E.ft f).bind λu=>(bV ⟨E,nm,u.ntmps⟩ false u.body).bind λc=>(u.results.mapM (Cn E)).bind λrs=>some ⟨u.ntmps,rs,(j_ g c ⟨g.m,0,0⟩).1⟩
theorem DS{E:Env}{nm:Y'->a_ Nat}{G:Y'->a_ GD}{f:Y'}{rf:RF}(h:SD E nm G f=some rf):∃fi,E.ft f=some fi/\yV E nm fi rf:=by unfold SD at h;have⟨g,_,h⟩:=ζg.1 h;have⟨fi,a,h⟩:=ζg.1 h;have⟨c,u,h⟩:=ζg.1 h;have⟨rs,w,h⟩:=ζg.1 h;cases h;exact⟨fi,a,by rw[u,mT,Lz u],w,rfl⟩
theorem xw:∀(g:Y')(s:Nat),some g=some s->(λn=>n) s=g:=λ_ _ h=>(Option.some.inj h).symm
def sj(o:a_ RF):RF:=o.getD ⟨0,[],.skip⟩
def tb(T:qY)(f:Y'):RC:=(sj (T f)).body
def tr(T:qY)(f:Y'):aZ RV:=(sj (T f)).rs
theorem BM{o:a_ RF}(h:o.isSome=true):o=some (sj o):=by cases o with
 |none=>cases h|some r=>rfl
class j9(δ:Type)where
 e:δ->List V
instance abr{α:Type}[bC α]:j9 α:=⟨λx=>[enc x]⟩
instance abt:j9 Unit:=⟨λ_=>[]⟩
instance abu{α β:Type}[bC α][j9 β]:j9 (α×β):=⟨λx=>enc x.1::j9.e x.2⟩
@[simp] theorem aa6{α:Type}[bC α](x:α):j9.e x=[enc x]:=rfl
@[simp] theorem aa8(x:Unit):j9.e x=[]:=rfl
@[simp] theorem aa7{α β:Type}[bC α][j9 β](x:α×β):j9.e x=enc x.1::j9.e x.2:=rfl
class Fc(S:Sys)(c:cm){δ:Type}(m:Option δ)where
 n:FuncId
 az:List V
 E:δ->List V
 sc:Bool
 F:hG S c n (λ_:Unit=>az) E (λ_=>m) sc
section
variable{S:Sys}{T:qY}{δ:Type}{m:a_ δ}
theorem hG.TA{E:δ->T2}(fn:Y')(az:T2)(h:Le (m.bind λr=>some (E r)) (cg S (dg S T) (qR (tr T fn)) (.rc (tb T fn),[],start (az.map .v) [])))
 (B:(T fn).isSome=true)(a:S.E.keep fn=false)(D:ble az.length (sj (T fn)).na=true)
 {sc:X'}(s:sc=true->∀r,(result (E r)).scalar=true):hG S (dg S T) fn (λ_:Unit=>az) E (λ_=>m) sc where
 k:=a
 h z:=aaQ (BM B) (Nat.le_of_ble_eq_true D) h
 s:=s
abbrev Fc.NE(E:δ->aZ V)(fn:FuncId)(az:aZ V)(h:Le (m.bind λr=>some (E r)) (cg S (dg S T) (qR (tr T fn)) (.rc (tb T fn),[],start (az.map .v) [])))
 (B:(T fn).isSome=true:=by kernel_rfl)(a:S.E.keep fn=false:=by kernel_rfl)(D:ble az.length (sj (T fn)).na=true:=by kernel_rfl)
 :Fc S (dg S T) m:=
 ⟨fn,az,E,false,hG.TA fn az h B a D λh=>nomatch h⟩
abbrev Fc.M[j9 δ](fn:FuncId)(az:aZ V)(h:Le (m.bind λr=>some (j9.e r)) (cg S (dg S T) (qR (tr T fn)) (.rc (tb T fn),[],start (az.map .v) [])))
 (B:(T fn).isSome=true:=by kernel_rfl)(a:S.E.keep fn=false:=by kernel_rfl)(D:ble az.length (sj (T fn)).na=true:=by kernel_rfl)
 (s:∀r:δ,(result (j9.e r)).scalar=true:=by intro r;kernel_rfl):Fc S (dg S T) m:=
 ⟨fn,az,j9.e,true,hG.TA fn az h B a D λ_=>s⟩
abbrev Fc.N[j9 δ](fn:FuncId)(az:aZ V)(h:Le (m.bind λr=>some (j9.e r)) (cg S (dg S T) (qR (tr T fn)) (.rc (tb T fn),[],start (az.map .v) [])))
 (B:(T fn).isSome=true:=by kernel_rfl)(a:S.E.keep fn=false:=by kernel_rfl)(D:ble az.length (sj (T fn)).na=true:=by kernel_rfl)
 :Fc S (dg S T) m:=
 ⟨fn,az,j9.e,false,hG.TA fn az h B a D λh=>nomatch h⟩
end
abbrev Fc.of{S:Sys}{c:cm}{α δ:Type}{p:α->a_ δ}{n:FuncId}{A:α->aZ V}{E:δ->aZ V}{b:Bool}(z:α)(F:hG S c n A E p b):Fc S c (p z):=⟨n,A z,E,b,⟨F.k,λ_=>F.h z,F.s⟩⟩
theorem hG.pQ{S:Sys}{c:cm}{α δ:Type}{p:α->a_ δ}{n:Y'}{A:α->T2}{E:δ->T2}{b:X'}(F:∀z,Fc S c (p z))(i:α)(B:∀z,(F z).n=n)(G:∀z,(F z).az=A z)(D:∀z,(F z).E=E)(J:∀z,(F z).sc=b):hG S c n A E p b where
 k:=by rw[<-B i];exact(F i).F.k
 h z:=by rw[<-B z,<-G z,<-D z];exact(F z).F.h ()
 s:=by rw[<-J i,<-D i];exact(F i).F.s
theorem kQ.pQ{S:Sys}{c:cm}{α δ:Type}{p:α->a_ δ}{g:Y'}{w e:T2}{A:α->T2}{R:δ->T2}{b:X'}[i:Inhabited α][F:∀z,Fc S c (p z)](B:∀z,(F z).n=g:=by intro _;kernel_rfl)(D:∀z,(F z).az=w++A z++e:=by intro _;kernel_rfl)
 (G:∀z,(F z).E=R:=by intro _;kernel_rfl)(J:∀z,(F z).sc=b:=by intro _;kernel_rfl):kQ S c g w e A R p b:=
 ⟨hG.pQ F default B D G J⟩
section
variable{S:Sys}{c:cm}{β γ δ α:Type}{Q:Out×St->a_ β}{e:γ->a_ β}{cf:Cf}
theorem uf(n:Nat){m:a_ β}(h:Le m (cg S c Q (jC S c n cf)))(B:iI S c n cf.1 cf.2.1 cf.2.2=some (jC S c n cf):=by kernel_rfl):Le m (cg S c Q cf):=B7 B h
theorem bG(n:Nat){m:a_ δ}[F:Fc S c m]{f:δ->a_ γ}(h:∀x,m=some x->Le ((f x).bind e) (cg S c Q (nx S c n cf λp=>cV p.st p.d (.v (result (F.E x))))))
 (B:(gm S c n cf).map (λp=>(p.k,(bY S.N p.st.g p.az).bind lR,(!p.dr||p.now||gw p.st.m p.fr [])))=some (.c,some (F.n,F.az.map .v),true):=by kernel_rfl):Le ((m.bind f).bind e) (cg S c Q cf):=yU n F.F () h B
theorem cU(n:Nat){m:a_ δ}[F:Fc S c m]{f:δ->a_ γ}(h:∀x,m=some x->Le ((f x).bind e) (cg S c Q (nx S c n cf λp=>cV p.st p.d (.v (result (F.E x))))))
 (B:(gm S c n cf).map (λp=>(p.k,((bY S.N p.st.g p.az).bind lR).bind λq=>(nO (iS p.st.m 8) q.2).map λvs=>(q.1,vs,((!p.dr||p.now)||gw p.st.m p.fr q.2))))=some (.c,some (F.n,F.az,true)):=by kernel_rfl)(D:F.sc=true:=by kernel_rfl):Le ((m.bind f).bind e) (cg S c Q cf):=
 X4 n (u D F.F) () h B
where
 u {b:X'} {fn:Y'} {az:T2} {E:δ->T2} {m:a_ δ} (h:b=true) (F:hG S c fn (λ_:Unit=>az) E (λ_=>m) b):hG S c fn (λ_:Unit=>az) E (λ_=>m) true:=h▸F
def Va(cf:Cf):RC:=match cf.1 with|.rc (.loop c)=>c|_=>.skip
def E4(cf:Cf):Arg×S'×RC×RC:=match cf.1 with|.rc (.each g ps a b)=>(g,ps,a,b)|_=>(.s 0,[],.skip,.skip)
theorem eA{σ ε ρ:Type}{step:σ->a_ (Fw σ ε ρ)}(n:Nat)(eσ:σ->St)(eε:ε->Nat×St)(eρ:ρ->St){s:σ}{B:ε->a_ γ}{fr:ρ->a_ γ}
 (h:∀s,Le ((step s).bind λw=>some (Fw.out eσ eε eρ w)) (cg S c some (.rc (Va (jC S c n cf)),[],eσ s)))
 (D:∀x,Le ((B x).bind e) (cg S c Q (.ex (eε x).1,(jC S c n cf).2.1,(eε x).2)))(a:∀b,Le ((fr b).bind e) (Q (.ret,eρ b)))
 (G:iI S c n cf.1 cf.2.1 cf.2.2=some (.rc (.loop (Va (jC S c n cf))),(jC S c n cf).2.1,eσ s):=by kernel_rfl):Le (((bW step s).bind (Fw.elim B fr)).bind e) (cg S c Q cf):=
 P8 G h D a
theorem fM{σ ε:Type}{step:σ->a_ (Fw σ ε Empty)}(n:Nat)(eσ:σ->St)(eε:ε->Nat×St){s:σ}{B:ε->a_ γ}{fr:Empty->a_ γ}
 (h:∀s,Le ((step s).bind λw=>some (Fw.out eσ eε (λe=>Empty.elim e) w)) (cg S c some (.rc (Va (jC S c n cf)),[],eσ s)))
 (D:∀x,Le ((B x).bind e) (cg S c Q (.ex (eε x).1,(jC S c n cf).2.1,(eε x).2)))
 (G:iI S c n cf.1 cf.2.1 cf.2.2=some (.rc (.loop (Va (jC S c n cf))),(jC S c n cf).2.1,eσ s):=by kernel_rfl):Le (((bW step s).bind (Fw.elim B fr)).bind e) (cg S c Q cf):=
 P8 G h D λb=>Empty.elim b
theorem CT{σ ε ρ:Type}{f:Y'}{x y:T2}{a:aZ α}{eI:α->T2}{step:α->σ->a_ (Fw σ ε ρ)}(n:Nat)(d:Tb SV)(eσ:σ->Tb bM)(eε:ε->Nat×Tb bM)(eρ:ρ->Tb bM){s:σ}{fn:σ->a_ γ}{B:ε->a_ γ}{fr:ρ->a_ γ}
 (hi:S.items f x y=some (a.map eI))
 (h:∀x s,Le ((step x s).bind λw=>some (Fw.xL eσ eε eρ w)) (cg S c (Al S c (E4 (jC S c n cf)).2.2.2) (.rc (E4 (jC S c n cf)).2.2.1,[],⟨yL d (E4 (jC S c n cf)).2.1 ((eI x).map .v),eσ s,rD d,[],true,0⟩)))
 (D:∀s,Le ((fn s).bind e) (cg S c Q (.nx,(jC S c n cf).2.1,bL d (eσ s))))(G:∀x,Le ((B x).bind e) (cg S c Q (.ex (eε x).1,(jC S c n cf).2.1,bL d (eε x).2)))(g:∀b,Le ((fr b).bind e) (Q (.ret,bL d (eρ b))))
 (J:∀x,(eI x).length=(E4 (jC S c n cf)).2.1.length:=by intro _;kernel_rfl)(i:sw S.N d (E4 (jC S c n cf)).1=some (.v (.clo f x y)):=by kernel_rfl)
 (U:iI S c n cf.1 cf.2.1 cf.2.2=some (.rc (.each (E4 (jC S c n cf)).1 (E4 (jC S c n cf)).2.1 (E4 (jC S c n cf)).2.2.1 (E4 (jC S c n cf)).2.2.2),(jC S c n cf).2.1,bL d (eσ s)):=by kernel_rfl):Le (((lE step a s).bind (Fw.rI fn B fr)).bind e) (cg S c Q cf):=
 YL U i hi J h D G g
noncomputable def Xy(n k:Nat)(B:S')(d:Nat)(S:Sys)(c:cm)(cf:Cf)(v:SV):Cf:=jmp k [] (jC S c n cf) {(jC S c n cf).2.2 with g:=bP (oR B (jC S c n cf).2.2.g) d v}
theorem b_[bC δ](n k:Nat)(B:S')(d:Nat){m:a_ δ}{f:δ->a_ γ}(D:Le (m.bind λr=>cg S c Q (Xy n k B d S c cf (cv r))) (cg S c Q cf))(a:∀r,Le ((f r).bind e) (cg S c Q (Xy n k B d S c cf (cv r)))):Le ((m.bind f).bind e) (cg S c Q cf):=U9 _ D a
end
theorem Na{α β:Type}{P:α ⊕ β->Prop}(c:∀a,P (.inl a))(B:∀b,P (.inr b)):∀x,P x
 |.inl a=>c a|.inr b=>B b
instance{n:Nat}:DecidableEq (cu n Int):=λa b=>if h:a.l=b.l then .isTrue (by cases a;cases b;cases h;rfl)else .isFalse λe=>h (by rw[e])
theorem w8:∀l:ST,iW ((l.map (cells (α:=Int))).flatten)=some l
 |[]=>rfl|a::l=>by show iW (.int .i64 a::(l.map (cells (α:=Int))).flatten)=_;simp only[iW,w8 l,map_some]
theorem P5(l:ST):(l.map (cells (α:=Int))).flatten=l.map (V.int .i64):=by induction l with|nil=>rfl|cons a l u=>simp only[map_cons,List.flatten_cons,u];rfl
instance{n:Nat}:Key (cu n Int)where
 kk:=.ints n
 ok a:=by show((a.l.map (cells (α:=Int))).flatten.length==n&&(iW (a.l.map (cells (α:=Int))).flatten).isSome)=true;rw[w8,P5,length_map,a.len];simp
 eq a b:=by show mg (a.l.map (cells (α:=Int))).flatten (b.l.map (cells (α:=Int))).flatten=_;unfold mg;rw[w8,w8];simp only[a.len,b.len,if_true];congr 1;rw[Bool.eq_iff_iff,beq_iff_eq,decide_eq_true_iff];exact⟨λh=>by cases a;cases b;cases h;rfl,λh=>by rw[h]⟩
def CH(m:Tb bM):SV->X'
 |.v _|.agg _=>true|x=>mA m x
def o7:SV->So
 |.v x=>x.cells.map .v|.agg l=>l|x=>[x]
def CE(cells:So):aZ (Nat×Nat)->So->a_ So
 |[],[]=>some cells|(off,size)::pl,v::vs=>if(o7 v).length=size/\off+(o7 v).length<=cells.length then CE (cells.take off++o7 v++cells.drop (off+(o7 v).length)) pl vs else none|_,_=>none
theorem PI(cells:So):CE cells [] []=some cells:=rfl
theorem EL(cells:So)(off size:Nat)(pl:aZ (Nat×Nat))(v:SV)(vs:So):CE cells ((off,size)::pl) (v::vs)=if(o7 v).length=size/\off+(o7 v).length<=cells.length then CE (cells.take off++o7 v++cells.drop (off+(o7 v).length)) pl vs else none:=rfl
theorem SU(x:V):o7 (.v x)=x.cells.map .v:=rfl
theorem NX(d:Nat):o7 (.own d)=[.own d]:=rfl
theorem PD(d:Nat):o7 (.mp d)=[.mp d]:=rfl
theorem Ow(d o:Nat):o7 (.ptr d o)=[.ptr d o]:=rfl
theorem RE{m:Tb bM}{v:SV}(h:CH m v=true):zn m v=some (o7 v):=by cases v<;>first|rfl|(unfold zn;exact if_pos h)|(simp[CH,mA]at h)
theorem Mb{m:Tb bM}:∀{pl:aZ (Nat×Nat)}{vs cells l:So},vs.all (CH m)=true->CE cells pl vs=some l->tZ m cells pl vs=some l
 |[],[],_,_,_,h=>h|[],_::_,_,_,_,h=>by cases h|_::_,[],_,_,_,h=>by cases h|(off,size)::pl,v::vs,cells,l,B,h=>by rw[all_cons,ζh]at B;rw[EL]at h;show(match zn m v with|some c=>if c.length=size/\off+c.length<=cells.length then tZ m (cells.take off++c++cells.drop (off+c.length)) pl vs else none|none=>none)=some l;rw[RE B.1];simp only;split at h;(next a=>rw[if_pos a];exact Mb B.2 h);cases h
def Gy:SV->X'
 |.v x=>x.one|.agg _=>false|_=>true
theorem YH(x:V):Gy (.v x)=x.one:=rfl
theorem RM(d:Nat):Gy (.own d)=true:=rfl
theorem Wb(d:Nat):Gy (.mp d)=true:=rfl
theorem RP(d o:Nat):Gy (.ptr d o)=true:=rfl
theorem MR{m:Tb bM}:∀{l:So},l.all Gy=true->l.all (CH m)=true->l.all (yT m)=true
 |[],_,_=>rfl|x::l,h,k=>by rw[all_cons,ζh]at h k⊢;refine⟨?_,MR h.2 k.2⟩;cases x<;>first|exact h.1|exact k.1|(have:=h.1;cases this)
section
variable{S:Sys}{c:cm}{β γ δ α:Type}{Q:Out×St->a_ β}{e:γ->a_ β}{cf:Cf}
theorem PM{N:Nat->Y'}{m:Tb bM}{z:T2}{pl:aZ (Nat×Nat)}{svs l:So}(B:(dA svs).isNone=true)(h:tZ m (z.map .v) pl svs=some l):jY N m (.build z pl) svs=some (.agg l):=by unfold jY;cases a:dA svs with|some x=>rw[a]at B;cases B|none=>have:yu N m (.build z pl) svs=(tZ m (z.map .v) pl svs).map .agg:=(by unfold yu;split<;>first|contradiction|(rename_i e _;cases e;rfl)|simp_all);simp only[this,h,map_some]
theorem ZD(n:Nat)(svs l:So)(z:T2)(pl:aZ (Nat×Nat)){m:a_ β}(B:CE (z.map .v) pl svs=some l)(h:Le m (cg S c Q (nx S c n cf λp=>cV p.st p.d (.agg l))))
 (D:(gm S c n cf).map (λp=>(p.k,bY S.N p.st.g p.az,(dA svs).isNone,svs.all (CH p.st.m)))=some (.p (.build z pl),some svs,true,true):=by kernel_rfl):Le m (cg S c Q cf):=by
 have⟨p,u,a⟩:=fh D;simp only[ζc]at a;refine wA u ?_ h;rw[a.1];exact BA a.2.1 rfl (PM a.2.2.1 (Mb a.2.2.2 B))
theorem Zn(n u:Nat)(l:So){m:a_ β}(B:l.all Gy=true)(h:Le m (cg S c Q (nx S c n cf λp=>{p.st with g:=bP p.st.g u (.ptr u 0),m:=bP p.st.m u (.box l)})))
 (D:(gm S c n cf).map (λp=>(p.d,p.k,bY S.N p.st.g p.az,p.st.new u,l.all (CH p.st.m)))=some (some u,.a .box,some [.agg l],true,true):=by kernel_rfl):Le m (cg S c Q cf):=by
 have⟨p,w,a⟩:=fh D;simp only[ζc]at a;refine wA w ?_ h;rw[a.1,a.2.1,Ay,a.2.2.1];simp only[ζb,a.2.2.2.1,if_true,pE,MR B a.2.2.2.2]
end
section
variable{S:Sys}{c:cm}{β γ δ:Type}{Q:Out×St->a_ β}{e:γ->a_ β}{cf:Cf}{κ ν:Type}[bC κ][DecidableEq κ][Key κ][bC ν]
structure EK(κ ν:Type)where
 o:Option (Mo κ ν)
 deriving Inhabited
def YQ(m:EK κ ν):V:=match m.o with|none=>.gU|some l=>.fmap (oD l)
theorem Pj(m:Mo κ ν):V.uv (oD m)=true:=by induction m with|nil=>rfl|cons x r u=>show V.uv ((enc x.1,enc x.2)::oD r)=true;simp only[V.uv,j8,u,Bool.and_self]
instance:bC (EK κ ν)where
 cells m:=[YQ m]
 agg:=false
 size:=1
 len _:=rfl
 good m:=by unfold YQ;split;rfl;simp only[V.cH,V.good,Pj,Bool.and_self]
 one m:=by unfold YQ;split<;>rfl
 plain _:=rfl
theorem L8(m:EK κ ν):V.one (enc m)=true:=by have⟨o⟩:=m;cases o<;>rfl
def lN(m:EK κ ν):Mo κ ν:=m.o.getD []
theorem TY(m:EK κ ν):nL [] (enc m)=some (oD (lN m)):=by have⟨o⟩:=m;cases o<;>rfl
theorem Jn(m:EK κ ν)(k:κ)(z:ν)(ok:X'):fD [] (.lookup (Key.kk κ) (enc z) ok) [enc m,enc k]=some (if ok then .tup [enc (oJ (lN m) k z),.bool (s8 (lN m) k)]else enc (oJ (lN m) k z)):=by
 simp only[fD,TY,Key.ok,if_true];have:=Gu k (lN m) 0;simp only[oJ,s8]
 cases B:iV (enc k) (oD (lN m)) 0 with
 |none=>rw[B]at this;cases this|some r=>
  rw[B]at this;simp only[map_some,ζa]at this
  cases r with
  |none=>cases u:jV k (lN m)with|none=>rfl|some w=>rw[u]at this;cases this
  |some w=>cases u:jV k (lN m)with|none=>rw[u]at this;cases this|some C=>rw[u]at this;simp only[map_some,ζa]at this;simp only[this];rfl
theorem YI(n:Nat)(mp:EK κ ν)(k:κ)(z:ν){m:a_ β}(h:Le m (cg S c Q (nx S c n cf λp=>cV p.st p.d (cv (oJ (lN mp) k z)))))
 (B:(gm S c n cf).map (λp=>(p.k,bY S.N p.st.g p.az))=some (.r (.lookup (Key.kk κ) (enc z) false),some [cv mp,cv k]):=by kernel_rfl):Le m (cg S c Q cf):=by
 have⟨p,u,a⟩:=fh B;simp only[ζc]at a;refine wA u ?_ h;rw[a.1,CD,a.2];simp only[ζb,fH,Bool.or_true,if_true,oT,Jn,map_some];rfl
theorem Wk(n:Nat)(mp:EK κ ν)(k:κ)(z:ν){m:a_ β}(h:Le m (cg S c Q (nx S c n cf λp=>cV p.st p.d (.v (.tup [enc (oJ (lN mp) k z),.bool (s8 (lN mp) k)])))))
 (B:(gm S c n cf).map (λp=>(p.k,bY S.N p.st.g p.az))=some (.r (.lookup (Key.kk κ) (enc z) true),some [cv mp,cv k]):=by kernel_rfl):Le m (cg S c Q cf):=by
 have⟨p,u,a⟩:=fh B;simp only[ζc]at a;refine wA u ?_ h;rw[a.1,CD,a.2];simp only[ζb,fH,Bool.or_true,if_true,oT,Jn,map_some]
end
theorem hG.scalar{S:Sys}{c:cm}{α δ:Type}{fn:Y'}{A:α->T2}{E:δ->T2}{p:α->a_ δ}{b:X'}(F:hG S c fn A E p b)(h:∀r,(result (E r)).scalar=true):hG S c fn A E p true:=⟨F.k,F.h,λ_=>h⟩
section
variable{S:Sys}{c:cm}{β γ δ α:Type}[bC α]{Q:Out×St->a_ β}{e:γ->a_ β}{cf:Cf}
theorem U0{ω:Type}[bC ω](n u:Nat){N:Nat}(a:cu N α)(i:Int)(o:Nat)(x:α)(D:a.at i=some x)(y:α)(w:ω)(G:cells y=(cells x).take o++cells w++(cells x).drop (o+bC.size ω)){m:a_ β}(h:Le m (cg S c Q (nx S c n cf λp=>cV {p.st with m:=bP p.st.m u (bx (a.set i y))} p.d (.v .undef))))
 (J:(gm S c n cf).map (λp=>(p.k,bY S.N p.st.g p.az,bn p.st.m u,(!p.dr||p.now),ble (o+bC.size ω) (bC.size α)))=some (.l (.store (bC.size ω)),some [.ptr u (i.toNat*bC.size α+o),cv w],some (bx a),true,true):=by kernel_rfl):Le m (cg S c Q cf):=by
 have⟨p,B,z⟩:=fh J;simp only[ζc]at z;have⟨b,C⟩:=kf B;have⟨dr,fr,d,gd,now,U,az,dd,l,fs,st⟩:=p;obtain⟨rfl,I,L,O,T⟩:=z;exact ZP n dr fr (⟨d,gd,now,.l (.store (bC.size ω)),az,dd,[]⟩::l) fs st u a i o x D y (enc w) (by rw[lY];exact G) rfl (by(try dsimp only at *);simp only[b,C,I,L,O,T,lY,gI,rU]) (by
  simp only[nx,B]at h;exact h)
end
noncomputable def Iy(rs:aZ RV):Out×St->a_ (bM×T2)
 |(.exit _,_)=>none|(_,st)=>(lC st rs).bind λl=>match l with
  |.own d::r=>(bn st.m d).bind λob=>(dA r).map λys=>(ob,ys)|_=>none
theorem CV:∀{l:So}{ys:T2},dA l=some ys->l=ys.map .v
 |[],ys,h=>by cases h;rfl|.v x::r,ys,h=>by simp only[dA]at h;obtain⟨B,a,rfl⟩:=ζf.1 h;rw[CV a];rfl|.own _::_,_,h|.ptr ..::_,_,h|.el ..::_,_,h|.mp _::_,_,h|.clo ..::_,_,h|.tup _::_,_,h|.agg _::_,_,h|.yl _::_,_,h=>by cases h
theorem aaM{S:Sys}{c:cm}{rs:aZ RV}{a:RC}{st:St}{ob:bM}{ys:T2}(h:lF S c (Iy rs) a [] st=some (ob,ys)):∃o st' d,cQ S c a st=some (o,st')/\(∀id,o≠.exit id)/\lC st' rs=some (.own d::ys.map .v)/\bn st'.m d=some ob:=by
 rw[qw]at h;have⟨⟨o,st'⟩,b,u⟩:=ζg.1 h;have z:∀id,o≠.exit id:=by rintro id rfl;simp[Iy]at u
 have B:(lC st' rs).bind (λl=>match l with|.own d::r=>(bn st'.m d).bind λob=>(dA r).map λys=>(ob,ys)|_=>none)=some (ob,ys):=by cases o with|exit id=>exact absurd rfl (z id)|norm=>exact u|ret=>exact u
 have⟨l,C,w⟩:=ζg.1 B;split at w;have⟨D,G,I⟩:=ζg.1 w;have⟨O,J,L⟩:=ζf.1 I;cases L;exact⟨o,st',_,b,z,by rw[C,CV J],G⟩;cases w
structure FcO(S:Sys)(c:cm){δ ε:Type}[bC δ][j9 ε](m:Option (Sl δ×ε))where
 n:FuncId
 az:List V
 k:S.E.keep n=true
 o:S.E.own n=true
 h:∀s r,m=some (s,r)->∃e m',c n (az.map .v) []=some (.own e::(j9.e r).map .v,m')/\bn m' e=some (cI s)
 sc:∀x:δ,(cells x).all V.scalar=true
 sr:∀r:ε,V.cZ (j9.e r)=true
abbrev FcO.mk'{S:Sys}{T:qY}{δ ε:Type}[bC δ][j9 ε]{m:a_ (Sl δ×ε)}(fn:FuncId)(az:aZ V)(h:Le (m.bind λr=>some (cI r.1,j9.e r.2)) (cg S (dg S T) (Iy (tr T fn)) (.rc (tb T fn),[],start (az.map .v) [])))
 (B:(T fn).isSome=true:=by kernel_rfl)(b:S.E.keep fn=true:=by kernel_rfl)(D:S.E.own fn=true:=by kernel_rfl)(G:ble az.length (sj (T fn)).na=true:=by kernel_rfl)
 (sc:∀x:δ,(cells x).all V.scalar=true:=by intro x;rfl)(sr:∀r:ε,V.cZ (j9.e r)=true:=by intro r;rfl):FcO S (dg S T) m where
 n:=fn
 az:=az
 k:=b
 o:=D
 sc:=sc
 sr:=sr
 h s r w:=by have u:=BM B;have a:=h (cI s,j9.e r) (by rw[w];rfl);change lF S (dg S T) (Iy (sj (T fn)).rs) (sj (T fn)).body [] (start (az.map .v) [])=some (cI s,j9.e r)at a;have⟨o,st',d,g1,g2,g3,g4⟩:=aaM a;refine⟨d,st'.m,?_,g4⟩;rw[tn u];unfold nW;rw[if_pos (by simpa using Nat.le_of_ble_eq_true G),g1];cases o with|exit id=>exact absurd rfl (g2 id)|norm=>simp only[g3,map_some]|ret=>simp only[g3,map_some]
section
variable{S:Sys}{c:cm}{β γ δ α:Type}{Q:Out×St->a_ β}{e:γ->a_ β}{cf:Cf}
theorem XS(n:Nat)(ds:S'){m:a_ δ}[F:Fc S c m]{f:δ->a_ γ}(h:∀x,m=some x->Le ((f x).bind e) (cg S c Q (nx S c n cf λp=>cV {p.st with m:=if(result (F.E x)).scalar then p.st.m else oR ds p.st.m} p.d (.v (result (F.E x))))))
 (B:(gm S c n cf).map (λp=>(p.k,((bY S.N p.st.g p.az).bind lR).bind λq=>(nO (iS p.st.m 8) q.2).map λvs=>(q.1,vs,!p.dr||p.now,(dA q.2).isSome,rowsOf q.2)))=some (.c,some (F.n,F.az,true,false,some ds)):=by kernel_rfl):Le ((m.bind f).bind e) (cg S c Q cf):=by
 have⟨p,z,a⟩:=fh B;simp only[ζc]at a;have⟨C,D⟩:=a;have⟨q,g1,g2⟩:=ζg.1 D;have⟨u,g3,g4⟩:=ζg.1 g1;have⟨vs,g5,g6⟩:=ζf.1 g2;simp only[ζc]at g6;obtain⟨e1,rfl,e3,e4,e5⟩:=g6;refine ru z ?_ h;rw[C,wV _ _ _ _ _ _ u q.1 q.2 g3 g4,Mi _ _ _ _ _ _ _ (by rw[e1];exact F.F.k),(xD p.st.m 8).2,g5]
 simp only[ζb,e3,Bool.true_or,Bool.and_self,if_true];intro y w;have⟨r,b,w⟩:=ζg.1 w;cases w;have:=F.F.h () (F.E r) (ζg.2 ⟨r,b,rfl⟩);rw[e1,this];simp only[ζb,KW,e4,Bool.or_false]
 cases(result (F.E r)).scalar with
 |true=>rfl|false=>simp only[false_eq_true,if_false,if_true,e5,map_some,ζb]
theorem MF(n:Nat)(ds:S'){m:a_ δ}[F:Fc S c m]{f:δ->a_ γ}
 (h:∀x,m=some x->Le ((f x).bind e) (cg S c Q (nx S c n cf λp=>cV p.st p.d (.v (result (F.E x)))))/\Le ((f x).bind e) (cg S c Q (nx S c n cf λp=>cV {p.st with m:=oR ds p.st.m} p.d (.v (result (F.E x))))))
 (B:(gm S c n cf).map (λp=>(p.k,((bY S.N p.st.g p.az).bind lR).bind λq=>(nO (iS p.st.m 8) q.2).map λvs=>(q.1,vs,!p.dr||p.now,(dA q.2).isSome,rowsOf q.2)))=some (.c,some (F.n,F.az,true,false,some ds)):=by kernel_rfl):Le ((m.bind f).bind e) (cg S c Q cf):=
 XS n ds (λx u=>by
  cases(result (F.E x)).scalar with
  |true=>exact(h x u).1|false=>exact(h x u).2) B
end
noncomputable def FW(rs:aZ RV)(B:S'):Out×St->a_ (T2×dK)
 |(.exit _,_)=>none|(_,st)=>(lC st rs).bind λl=>(dA l).bind λys=>(kT st.m B).map λos=>(ys,os)
theorem goK{S:Sys}{c:cm}{rs:aZ RV}{B:S'}{a:RC}{st:St}{os:dK}{ys:T2}(h:lF S c (FW rs B) a [] st=some (ys,os)):∃o st',cQ S c a st=some (o,st')/\(∀id,o≠.exit id)/\lC st' rs=some (ys.map .v)/\kT st'.m B=some os:=by
 rw[qw]at h;have⟨⟨o,st'⟩,b,u⟩:=ζg.1 h;have w:∀id,o≠.exit id:=by rintro id rfl;simp[FW]at u
 have z:(lC st' rs).bind (λl=>(dA l).bind λys=>(kT st'.m B).map λos=>(ys,os))=some (ys,os):=by cases o with|exit id=>exact absurd rfl (w id)|norm=>exact u|ret=>exact u
 have⟨l,C,D⟩:=ζg.1 z;have⟨O,G,I⟩:=ζg.1 D;have⟨q,J,L⟩:=ζf.1 I;cases L;exact⟨o,st',b,w,by rw[C,CV G],J⟩
def pX:Tb bM->dK->Tb bM
 |m,[]=>m|m,(d,ob)::r=>pX (bP m d ob) r
theorem JV{m':dK}{D:S'}:∀{B:S'}{os m:dK},kT m' B=some os->(os.all λx=>within D x.2)=true->Av D m' B m=some (pX m os)
 |[],os,m,h,_=>by cases h;rfl|k::B,os,m,h,hp=>by simp only[kT]at h;split at h;(next v t a G=>cases h;simp only[all_cons,ζh]at hp;simp only[Av,a,hp.1,if_true,pX];exact JV G hp.2);cases h
theorem back_eq{m':dK}{B:S'}{os m:dK}(h:kT m' B=some os)(hp:(os.all λx=>within B x.2)=true):lP m' B m=some (pX m os):=JV h hp
structure oa(S:Sys)(c:cm){δ:Type}(m:Option δ)where
 n:FuncId
 az:List SV
 os:dK
 E:δ->List V
 M:δ->dK
 k:S.E.keep n=true
 o:S.E.own n=false
 q:(S.prm n).isNone=true
 h:∀r,m=some r->∃m',c n az os=some ((E r).map .v,m')/\∀m0,lP m' (os.map (·.1)) m0=some (pX m0 (M r))
abbrev oa.mk'{S:Sys}{T:qY}{δ:Type}{m:a_ δ}(fn:FuncId)(az:aZ SV)(os:dK)(E:δ->aZ V)(M:δ->dK)(h:Le (m.bind λr=>some (E r,M r)) (cg S (dg S T) (FW (tr T fn) (os.map (·.1))) (.rc (tb T fn),[],start az os)))
 (B:(T fn).isSome=true:=by kernel_rfl)(b:S.E.keep fn=true:=by kernel_rfl)(D:S.E.own fn=false:=by kernel_rfl)(G:(S.prm fn).isNone=true:=by kernel_rfl)(J:ble az.length (sj (T fn)).na=true:=by kernel_rfl)
 (hp:∀r,((M r).all λx=>within (os.map (·.1)) x.2)=true:=by intro r;kernel_rfl):oa S (dg S T) m where
 n:=fn
 az:=az
 os:=os
 E:=E
 M:=M
 k:=b
 o:=D
 q:=G
 h r hr:=by have u:=BM B;have a:=h (E r,M r) (by rw[hr];rfl);change lF S (dg S T) (FW (sj (T fn)).rs (os.map (·.1))) (sj (T fn)).body [] (start az os)=some (E r,M r)at a;have⟨o,st',g1,g2,g3,g4⟩:=goK a;refine⟨st'.m,?_,λw=>back_eq g4 (hp r)⟩;rw[tn u];unfold nW;rw[if_pos (Nat.le_of_ble_eq_true J),g1];cases o with|exit id=>exact absurd rfl (g2 id)|norm=>simp only[g3,map_some]|ret=>simp only[g3,map_some]
section
variable{S:Sys}{c:cm}{β γ δ:Type}{Q:Out×St->a_ β}{e:γ->a_ β}{cf:Cf}
theorem ud(n:Nat){m:a_ δ}(F:oa S c m){f:δ->a_ γ}(h:∀x,m=some x->Le ((f x).bind e) (cg S c Q (nx S c n cf λp=>cV {p.st with m:=pX p.st.m (F.M x)} p.d (.v (result (F.E x))))))
 (B:(gm S c n cf).map (λp=>(p.k,((bY S.N p.st.g p.az).bind lR).bind λq=>(handed p.st.m q.2).map λos=>(q.1,q.2,os),p.dr))=some (.c,some (F.n,F.az,F.os),false):=by kernel_rfl):Le ((m.bind f).bind e) (cg S c Q cf):=by
 have⟨p,z,a⟩:=fh B;simp only[ζc]at a;have⟨C,D,G⟩:=a;have⟨q,g1,g2⟩:=ζg.1 D;have⟨u,g3,g4⟩:=ζg.1 g1;have⟨os,g5,g6⟩:=ζf.1 g2;simp only[ζc]at g6;obtain⟨e1,e2,rfl⟩:=g6;refine ru z ?_ h;rw[C,G,wV _ _ _ _ _ _ u q.1 q.2 g3 g4];intro y w;have⟨r,b,w⟩:=ζg.1 w;cases w;have⟨m',k1,k2⟩:=F.h r b;have I:S.prm F.n=none:=by have:=F.q;cases J:S.prm F.n with|none=>rfl|some _=>rw[J]at this;cases this
 have:fK S c p.d false (!false||p.now) (gw p.st.m p.fr) q.1 q.2 p.st=some (.v (result (F.E r)),{p.st with m:=pX p.st.m (F.M r)}):=by unfold fK;rw[e1,e2]at *;simp only[F.k,F.o,I,g5,k1,nD,k2,if_true,Bool.not_false,Bool.true_or,Bool.false_and,false_eq_true,if_false]
 rw[this];rfl
instance:Key U' where
 kk:=.str
 ok _:=rfl
 eq a b:=by show some (a==b)=some (decide (a=b));rw[show(a==b)=decide (a=b)from Bool.eq_iff_iff.2 (by cases a;cases b;rename_i x y;show(x==y)=true↔_;simp)]
def K9(s:Sl U8):U':=lJ (s.l.map U8.v)
theorem Kq:∀l:aZ U8,mK (rows l)=some (l.map U8.v)
 |[]=>rfl|a::l=>by show(mK (rows l)).map (a.v::·)=_;rw[Kq l];rfl
theorem Zw(n u:Nat)(s:Sl U8){m:a_ β}(h:Le m (cg S c Q (nx S c n cf λp=>cV p.st p.d (.v (.str (K9 s))))))
 (B:(gm S c n cf).map (λp=>(p.k,bY S.N p.st.g p.az,bn p.st.m u,p.dr))=some (.b,some [.own u],some (cI s),false):=by kernel_rfl):Le m (cg S c Q cf):=by
 have⟨p,z,a⟩:=fh B;simp only[ζc]at a;have⟨C,D,G,I⟩:=a;refine wA z ?_ h;rw[C,I];have J:(jK p.st.m 1 (.own u)).bind (λL=>(mK L).map λl=>((SV.v (.str (lJ l)),p.st):SV×St))=some (.v (.str (K9 s)),p.st):=by have O:mK (rows s.l)=some (s.l.map U8.v):=Kq _;have w:jK p.st.m 1 (.own u)=some (rows s.l):=(by unfold jK;simp only[G];cases s<;>rfl);rw[w];show((mK (rows s.l)).map λl=>_)=_;rw[O];rfl
 unfold fW mZ;have T:gB S.N p.st.g ⟨p.d,none,p.now,.b,p.az,[],[]⟩=none:=rfl;simp only[wanted,T,D,false_eq_true,if_false,J];rfl
end
noncomputable def Nb(rs:aZ RV)(B:S'):Out×St->a_ (bM×T2×dK)
 |(.exit _,_)=>none|(_,st)=>(lC st rs).bind λl=>match l with
  |.own d::r=>if B.contains d then none else(bn st.m d).bind λob=>(dA r).bind λys=>(kT st.m B).map λos=>(ob,ys,os)|_=>none
theorem goR{S:Sys}{c:cm}{rs:aZ RV}{B:S'}{a:RC}{st:St}{ob:bM}{ys:T2}{os:dK}(h:lF S c (Nb rs B) a [] st=some (ob,ys,os)):
 ∃o st' d,cQ S c a st=some (o,st')/\(∀id,o≠.exit id)/\lC st' rs=some (.own d::ys.map .v)/\B.contains d=false/\bn st'.m d=some ob/\kT st'.m B=some os:=by
 rw[qw]at h;have⟨⟨o,st'⟩,b,w⟩:=ζg.1 h;have D:∀id,o≠.exit id:=by rintro id rfl;simp[Nb]at w
 have G:(lC st' rs).bind (λl=>match l with|.own d::r=>if B.contains d then none else(bn st'.m d).bind λob=>(dA r).bind λys=>(kT st'.m B).map λos=>(ob,ys,os)|_=>none)=some (ob,ys,os):=by cases o with|exit id=>exact absurd rfl (D id)|norm=>exact w|ret=>exact w
 have⟨l,I,u⟩:=ζg.1 G;split at u
 .split at u
  .cases u
  rename_i e;have⟨J,L,O⟩:=ζg.1 u;have⟨U,Q,T⟩:=ζg.1 O;have⟨q,z,C⟩:=ζf.1 T;cases C;exact⟨o,st',_,b,D,by rw[I,CV Q],by simpa using e,L,z⟩
 cases u
structure FcR(S:Sys)(c:cm){δ ε:Type}[bC δ][j9 ε](m:Option (Sl δ×ε))where
 n:FuncId
 az:List SV
 os:dK
 M:Sl δ×ε->dK
 k:S.E.keep n=true
 o:S.E.own n=false
 q:(S.prm n).isNone=true
 h:∀r,m=some r->∃e m',c n az os=some (.own e::(j9.e r.2).map .v,m')/\bn m' e=some (cI r.1)/\(os.map (·.1)).contains e=false/\∀m0,lP m' (os.map (·.1)) m0=some (pX m0 (M r))
abbrev FcR.mk'{S:Sys}{T:qY}{δ ε:Type}[bC δ][j9 ε]{m:a_ (Sl δ×ε)}(fn:FuncId)(az:aZ SV)(os:dK)(M:Sl δ×ε->dK)
 (h:Le (m.bind λr=>some (cI r.1,j9.e r.2,M r)) (cg S (dg S T) (Nb (tr T fn) (os.map (·.1))) (.rc (tb T fn),[],start az os)))
 (B:(T fn).isSome=true:=by kernel_rfl)(b:S.E.keep fn=true:=by kernel_rfl)(D:S.E.own fn=false:=by kernel_rfl)(G:(S.prm fn).isNone=true:=by kernel_rfl)(J:ble az.length (sj (T fn)).na=true:=by kernel_rfl)
 (hp:∀r,((M r).all λx=>within (os.map (·.1)) x.2)=true:=by intro r;kernel_rfl):FcR S (dg S T) m where
 n:=fn
 az:=az
 os:=os
 M:=M
 k:=b
 o:=D
 q:=G
 h r hr:=by have u:=BM B;have a:=h (cI r.1,j9.e r.2,M r) (by rw[hr];rfl);change lF S (dg S T) (Nb (sj (T fn)).rs (os.map (·.1))) (sj (T fn)).body [] (start az os)=some (cI r.1,j9.e r.2,M r)at a;have⟨o,st',d,g1,g2,g3,g4,g5,g6⟩:=goR a;refine⟨d,st'.m,?_,g5,g4,λw=>back_eq g6 (hp r)⟩;rw[tn u];unfold nW;rw[if_pos (Nat.le_of_ble_eq_true J),g1];cases o with|exit id=>exact absurd rfl (g2 id)|norm=>simp only[g3,map_some]|ret=>simp only[g3,map_some]
section
variable{S:Sys}{c:cm}{β γ:Type}{Q:Out×St->a_ β}{e:γ->a_ β}{cf:Cf}
end
structure XF(S:Sys)(c:cm){α δ:Type}[bC δ](fn:FuncId)(A:α->List V)(p:α->Option (Sl δ)):Prop where
 k:S.E.keep fn=true
 o:S.E.own fn=false
 q:(S.prm fn).isNone=true
 h:∀z s,p z=some s->∃e m',c fn ((A z).map .v) []=some ([.own e],m')/\bn m' e=some (cI s)
theorem XF.mk'{S:Sys}{T:qY}{α δ:Type}[bC δ](rf:RF){fn:Y'}{A:α->T2}{p:α->a_ (Sl δ)}(h:∀z,Le ((p z).bind λr=>some (cI r)) (cg S (dg S T) (Bg rf.rs) (.rc rf.body,[],start ((A z).map .v) [])))
 (B:T fn=some rf:=by kernel_rfl)(b:S.E.keep fn=true:=by kernel_rfl)(D:S.E.own fn=false:=by kernel_rfl)(G:(S.prm fn).isNone=true:=by kernel_rfl)(J:∀z,(A z).length<=rf.na:=by intro z;exact Nat.le_of_ble_eq_true (by kernel_rfl)):XF S (dg S T) fn A p where
 k:=b
 o:=D
 q:=G
 h z s u:=by have a:=h z (cI s) (by rw[u];rfl);change lF S (dg S T) (Bg rf.rs) rf.body [] (start ((A z).map .v) [])=some (cI s)at a;have⟨o,st',d,g1,g2,g3,g4⟩:=YG a;refine⟨d,st'.m,?_,g4⟩;rw[tn B];unfold nW;rw[if_pos (by simpa using J z),g1];cases o with|exit id=>exact absurd rfl (g2 id)|norm=>simp only[g3,map_some]|ret=>simp only[g3,map_some]
theorem J6:∀l:T2,SV.s7 (l.map .v)=[]
 |[]=>rfl|a::l=>by simp only[map_cons,SV.s7,SV.Db,J6 l,append_nil]
theorem N5{m:Tb bM}(l:T2):handed m (l.map .v)=some []:=by unfold handed;rw[J6];rfl
section
variable{S:Sys}{c:cm}{β γ δ α:Type}[bC δ]{Q:Out×St->a_ β}{e:γ->a_ β}{cf:Cf}
end
def Sw(s:Nat)(v:SV)(cf:Cf):Cf:=(cf.1,cf.2.1,{cf.2.2 with g:=bP cf.2.2.g s v})
section
variable{S:Sys}{c:cm}{β γ δ:Type}{Q:Out×St->a_ β}{e:γ->a_ β}{cf:Cf}
theorem jI(n s:Nat){v B:V}(a:v=B){m:a_ β}(h:Le m (cg S c Q (Sw s (.v B) (jC S c n cf))))
 (D:(iI S c n cf.1 cf.2.1 cf.2.2).map (λp=>bn p.2.2.g s)=some (some (.v v)):=by kernel_rfl):Le m (cg S c Q cf):=by
 subst a;have⟨p,u,a⟩:=fh D;have b:jC S c n cf=p:=by unfold jC;grind
 rw[b]at h;refine B7 u ?_;have:Sw s (.v v) p=p:=by unfold Sw;rw[rz a]
 rw[this]at h;exact h
end
def iw{α δ:Type}(b:(α->a_ δ)->α->a_ δ):Nat->α->a_ δ
 |0,_=>none|n+1,z=>b (iw b n) z
theorem hG.fix{S:Sys}{c:cm}{α δ:Type}{fn:Y'}{A:α->T2}{E:δ->T2}{sc:X'}{b:(α->a_ δ)->α->a_ δ}(a:S.E.keep fn=false)(B:sc=true->∀r,(result (E r)).scalar=true)
 (h:∀r,hG S c fn A E r sc->∀z,Le ((b r z).bind λr=>some (E r)) (jT c fn (A z))):∀n,hG S c fn A E (iw b n) sc
 |0=>⟨a,λ_=>Le.none _,B⟩|n+1=>⟨a,h _ (hG.fix a B h n),B⟩
structure xR(S:Sys)(c:cm){α δ:Type}(fn:FuncId)(A:α->List SV)(O:α->dK)(E:δ->List V)(M:α->δ->dK)(p:α->Option δ):Prop where
 k:S.E.keep fn=true
 o:S.E.own fn=false
 q:(S.prm fn).isNone=true
 h:∀z r,p z=some r->∃m',c fn (A z) (O z)=some ((E r).map .v,m')/\∀m0,lP m' ((O z).map (·.1)) m0=some (pX m0 (M z r))
abbrev oa.of{S:Sys}{c:cm}{α δ:Type}{fn:FuncId}{A:α->aZ SV}{O:α->dK}{E:δ->aZ V}{M:α->δ->dK}{p:α->a_ δ}(z:α)(F:xR S c fn A O E M p):oa S c (p z):=⟨fn,A z,O z,E,M z,F.k,F.o,F.q,F.h z⟩
theorem xR.fix{S:Sys}{c:cm}{α δ:Type}{fn:Y'}{A:α->So}{O:α->dK}{E:δ->T2}{M:α->δ->dK}{b:(α->a_ δ)->α->a_ δ}(k:S.E.keep fn=true)(o:S.E.own fn=false)(q:(S.prm fn).isNone=true)
 (h:∀r,xR S c fn A O E M r->∀z B,b r z=some B->∃m',c fn (A z) (O z)=some ((E B).map .v,m')/\∀D,lP m' ((O z).map (·.1)) D=some (pX D (M z B))):∀n,xR S c fn A O E M (iw b n)
 |0=>⟨k,o,q,λ_ _ h=>by cases h⟩|n+1=>⟨k,o,q,h _ (xR.fix k o q h n)⟩
structure yF(S:Sys)(c:cm){α σ:Type}[bC α](cl:SV)(g:FuncId)(e:List SV)(os:σ->dK)(p:α->σ->Option (Bool×σ)):Prop where
 cs:∀vs,lR (cl::vs)=some (g,vs++e)
 hd:∀(s:σ)(a:V),handed (os s) [.v a,cl]=some (os s)
 tk:∀s s',kT (os s') ((os s).map (·.1))=some (os s')
 wi:∀s s',((os s').all λx=>within ((os s).map (·.1)) x.2)=true
 put:∀s s',pX (os s) (os s')=os s'
 h:∀x s r,p x s=some r->∀(dst:Option Nat)(old:List SV->Bool)(st:St),st.m=os s->fK S c dst false true old g (.v (enc x)::e) st=some (.v (.bool r.1),{st with m:=os r.2})
section
variable{S:Sys}{c:cm}{α σ:Type}[bC α]{g:Y'}
theorem yF.Xz{e:T2}{p:α->a_ X'}(F:kQ S c g [] e (λz:α=>[enc z]) (λr:X'=>[.bool r]) p true):yF S c (.v (.clo g [] e)) g (e.map .v) (λ_:Unit=>[]) (λx u=>(p x).map λb=>(b,u))where
 cs vs:=rfl
 hd s a:=N5 [a,.clo g [] e]
 tk _ _:=rfl
 wi _ _:=rfl
 put _ _:=rfl
 h x s r hr dst C st w:=by obtain⟨b,D,rfl⟩:=ζf.1 hr;have B:jT c g (enc x::e)=some [.bool b]:=F.f.h x [.bool b] (by rw[D];rfl);have e1:{st with m:=([]:dK)}=st:=(by cases st;simp only at w;subst w;rfl);rw[e1];unfold jT at B;have⟨⟨rs,m'⟩,d,G⟩:=ζg.1 B;have f:=F.f.k;unfold fK;have I:c9 st.m 8 (.v (enc x)::e.map .v)=some (enc x::e):=v7 8 (enc x::e);simp only[f,I,d,G,false_eq_true,if_false,Bool.true_or,if_true,result,V.scalar]
theorem yF.ofK{e:So}{os:σ->dK}{p:α->σ->a_ (X'×σ)}[Inhabited α][Inhabited σ](F:∀x s,oa S c (p x s))(G:∀x s,(F x s).n=g:=by intro _ _;kernel_rfl)(J:∀x s,(F x s).az=.v (enc x)::e:=by intro _ _;kernel_rfl)(D:∀x s,(F x s).os=os s:=by intro _ _;kernel_rfl)
 (U:∀x s,(F x s).E=λr=>[.bool r.1]:=by intro _ _;kernel_rfl)(d:∀x s,(F x s).M=λr=>os r.2:=by intro _ _;kernel_rfl)
 (hd:∀s:σ,kT (os s) (reach (os s) 32 (SV.s7 e) [])=some (os s):=by intro _;kernel_rfl)
 (tk:∀s B,kT (os B) ((os s).map (·.1))=some (os B):=by intro _ _;kernel_rfl)(wi:∀s B,((os B).all λx=>within ((os s).map (·.1)) x.2)=true:=by intro _ _;kernel_rfl)(put:∀s B,pX (os s) (os B)=os B:=by intro _ _;kernel_rfl):yF S c (.clo g [] e) g e os p where
 cs vs:=rfl
 hd s a:=by have:SV.s7 [.v a,.clo g [] e]=SV.s7 e:=(by simp[SV.s7,SV.Db]);unfold handed;rw[this];exact hd s
 tk:=tk
 wi:=wi
 put:=put
 h x s r hr dst I st u:=by have⟨m',k1,k2⟩:=(F x s).h r hr;have b:=(F x s).k;have w:=(F x s).o;have z:S.prm (F x s).n=none:=(by have:=(F x s).q;cases L:S.prm (F x s).n with|none=>rfl|some _=>rw[L]at this;cases this);rw[G]at b w z k1;rw[J,D,U]at k1;rw[D,d]at k2;have C:handed st.m (.v (enc x)::e)=some (os s):=(by rw[u];exact hd s);have k2:=k2 (os s);rw[put]at k2;rw[<-u]at k2;unfold fK;rw[u]at C k2⊢;simp only[b,w,z,C,k1,k2,nD,map_cons,map_nil,dA,map_some,if_true,Bool.false_and,false_eq_true,if_false,result]
end
def ER{α σ:Type}(s0:Sl α)(p:α->σ->a_ (X'×σ))(q:Int×σ):a_ (Fw (Int×σ) σ (Int×σ)):=bl (decide (q.1<len s0)) ((idx s0 q.1).bind λx=>(p x q.2).bind λy=>bl y.1 (some (.r (q.1,y.2))) (some (.n (wrap .i64 (q.1+1),y.2)))) (some (.x q.2))
noncomputable def Tw{α σ:Type}(s0:Sl α)(p:α->σ->a_ (X'×σ))(x:σ):a_ (Int×σ):=(bW (ER s0 p) (0,x)).bind (Fw.elim (λe=>some (-1,e)) λe=>some e)
noncomputable def AS{α σ:Type}(s0:Sl α)(p:α->σ->a_ (X'×σ))(x:σ):a_ (X'×σ):=(Tw s0 p x).bind λy=>some (decide (y.1>=0),y.2)
section
variable{S:Sys}{c:cm}{α σ β γ:Type}[bC α]{g:Y'}{Q:Out×St->a_ β}{e:γ->a_ β}{cf:Cf}
theorem Ri(n:Nat){a:SV}{ex:So}{os:σ->dK}{p:α->σ->a_ (X'×σ)}(F:yF S c a g ex os p)(x:α)(s:σ){f:X'×σ->a_ γ}(h:∀r,p x s=some r->Le ((f r).bind e) (cg S c Q (nx S c n cf λq=>cV {q.st with m:=os r.2} q.d (.v (.bool r.1)))))
 (B:(gm S c n cf).map (λq=>(q.k,bY S.N q.st.g q.az,q.dr,q.st.m))=some (.c,some [a,.v (enc x)],false,os s):=by kernel_rfl):Le (((p x s).bind f).bind e) (cg S c Q cf):=by
 have⟨q,w,b⟩:=fh B;simp only[ζc]at b;have⟨d,z,C,D⟩:=b;refine ru w ?_ h;rw[d,C,wV _ _ _ _ _ _ _ g ([.v (enc x)]++ex) z (F.cs [.v (enc x)])];intro y u;have⟨r,i,u⟩:=ζg.1 u;cases u;have:=F.h x s r i q.d (gw q.st.m q.fr) q.st D;rw[show(!false||q.now)=true from rfl,List.singleton_append,this];rfl
theorem KL{a:SV}{ex:So}{os:σ->dK}{p:α->σ->a_ (X'×σ)}(F:yF S c a g ex os p){rs:aZ RV}{st:St}{s B:σ}{ys:T2}(b:lC st rs=some (ys.map .v))(D:st.m=os B):FW rs ((os s).map (·.1)) (.ret,st)=some (ys,os B):=by show((lC st rs).bind λl=>(dA l).bind λys=>(kT st.m ((os s).map (·.1))).map λos=>(ys,os))=_;rw[b,D,F.tk s B];simp only[ζb,nD,map_some]
theorem IF(n:Nat){b:SV}{ex:So}{os:σ->dK}{p:α->σ->a_ (X'×σ)}(F:yF S c b g ex os p){rs:aZ RV}{s B:σ}{r:γ}{e:γ->a_ (T2×dK)}(ys:T2)(D:e r=some (ys,os B))
 (G:(iI S c n cf.1 cf.2.1 cf.2.2).map (λq=>(q.1,lC q.2.2 rs,q.2.2.m))=some (.rt,some (ys.map .v),os B):=by kernel_rfl):Le ((some r).bind e) (cg S c (FW rs ((os s).map (·.1))) cf):=by
 have⟨⟨fo,fs,st'⟩,u,a⟩:=fh G;simp only[ζc]at a;obtain⟨rfl,w,z⟩:=a;refine B7 u (Le.of_eq ?_);show rn S c _ Fo.rt fs st'=e r;rw[D];exact KL F w z
theorem M7(n:Nat){δ:Type}{m:a_ δ}(F:oa S c m)(D:handed F.os F.az=some F.os)(hp:∀x,pX F.os (F.M x)=F.M x){f:δ->a_ γ}(h:∀x,m=some x->Le ((f x).bind e) (cg S c Q (nx S c n cf λp=>cV {p.st with m:=F.M x} p.d (.v (result (F.E x))))))
 (G:(gm S c n cf).map (λp=>(p.k,(bY S.N p.st.g p.az).bind lR,p.dr,p.st.m))=some (.c,some (F.n,F.az),false,F.os):=by kernel_rfl):Le ((m.bind f).bind e) (cg S c Q cf):=by
 have⟨p,u,a⟩:=fh G;simp only[ζc]at a;have⟨C,I,J,B⟩:=a;have⟨w,g3,g4⟩:=ζg.1 I;refine ru u ?_ h;rw[C,J,wV _ _ _ _ _ _ w F.n F.az g3 g4];intro y z;have⟨r,b,z⟩:=ζg.1 z;cases z;have⟨m',k1,k2⟩:=F.h r b;have u:S.prm F.n=none:=by have:=F.q;cases L:S.prm F.n with|none=>rfl|some _=>rw[L]at this;cases this
 have k2:=k2 p.st.m;rw[B,hp]at k2;have:fK S c p.d false (!false||p.now) (gw p.st.m p.fr) F.n F.az p.st=some (.v (result (F.E r)),{p.st with m:=F.M r}):=by unfold fK;rw[B];simp only[F.k,F.o,u,D,k1,k2,nD,if_true,Bool.not_false,Bool.true_or,Bool.false_and,false_eq_true,if_false]
 rw[this];rfl
end
section
variable{S:Sys}{c:cm}{β γ δ α:Type}[bC δ]{Q:Out×St->a_ β}{e:γ->a_ β}{cf:Cf}
theorem Ut(n u:Nat){fn:Y'}{A:α->T2}{p:α->a_ (Sl δ)}(F:A6 S c fn A p)(z:α){f:Sl δ->a_ γ}
 (h:∀x,(p z).bind Sl.whole=some x->Le ((f x).bind e) (cg S c Q (nx S c n cf λq=>{q.st with g:=bP q.st.g u (.own u),m:=bP q.st.m u (cI x)})))
 (U:(gm S c n cf).map (λq=>(q.d,q.k,((bY S.N q.st.g q.az).bind lR).bind λr=>(nO (iS q.st.m 8) r.2).map λvs=>(r.1,vs),(!q.dr||q.now),q.st.new u))=some (some u,.c,some (fn,A z),true,true):=by kernel_rfl):Le ((((p z).bind Sl.whole).bind f).bind e) (cg S c Q cf):=by
 have⟨q,T,b⟩:=fh U;simp only[ζc]at b;have⟨W,X,Y,Z,O⟩:=b;have⟨⟨B,args⟩,D,g3⟩:=ζg.1 Y;have⟨G,g1,g2⟩:=ζg.1 D;have⟨vs,g4,g5⟩:=ζf.1 g3;simp only[ζc]at g5;obtain⟨rfl,rfl⟩:=g5;refine ru T ?_ h;rw[W,X];intro y I;have⟨d,J,I⟩:=ζg.1 I;cases I;have⟨s,i,C⟩:=ζg.1 J;have⟨e0,m',j,k⟩:=F.h z s i;rw[wV q.dr _ _ _ _ _ G B args g1 g2];have L:c9 q.st.m 8 args=some (A z):=by rw[(xD q.st.m 8).2];exact g4
 have w:fK S c (some u) q.dr (!q.dr||q.now) (gw q.st.m q.fr) B args q.st=some (.own u,{q.st with m:=bP q.st.m u (cI d)}):=by unfold fK;simp only[F.k,F.o,if_true,Z,L,j,dA,k,cI,O];cases s with|nil=>cases C;rfl|emp=>cases C;rfl|row l=>cases C;have:mR (rows l)=true:=(by unfold mR;rw[all_eq_true];intro x o;obtain⟨a,_,rfl⟩:=mem_map.1 o;exact F.sc a);simp only[Sl.k,Sl.l,dA,V.cZ,this,Bool.and_self,O,if_true];rfl|part l=>cases C
 rw[w];rfl
theorem X5{α:Type}[bC α](n:Nat)(l:aZ α)(q:wj)(svs:So){m:a_ β}(h:Le m (cg S c Q (nx S c n cf λp=>cV p.st p.d (cv (Sl.row l:Sl α)))))
 (B:(gm S c n cf).map (λp=>(p.k,bY S.N p.st.g p.az))=some (.p q,some svs):=by kernel_rfl)(D:isSlice q=false:=by rfl)(hp:∀m,jY S.N m q svs=some (cv (Sl.row l:Sl α)):=by intro m;kernel_rfl):Le m (cg S c Q cf):=by
 have⟨p,u,a⟩:=fh B;simp only[ζc]at a;refine wA u ?_ h;rw[a.1];exact BA a.2 D (hp _)
end
def Qw:Out×St->a_ T'
 |(.exit _,_)=>none|(_,st)=>some st.want
noncomputable def yl(B:T')(more:X')(xs:T2):a_ (X'×T'):=match B with
 |w::r=>open Classical in if w=xs then some (more|| !r.isEmpty,r)else none|[]=>none
section
variable{S:Sys}{c:cm}{β γ:Type}{Q:Out×St->a_ β}{e:γ->a_ β}{cf:Cf}
theorem Byl(n:Nat){B:T'}{more:X'}(xs:T2){f:X'×T'->a_ γ}
 (h:∀r,yl B more xs=some r->Le ((f r).bind e) (cg S c Q (nx S c n cf λq=>cV {q.st with want:=r.2} q.d (.v (.bool r.1)))))
 (D:(gm S c n cf).map (λq=>(q.k,bY S.N q.st.g q.az,q.st.want,q.st.more,q.dr))=some (.c,some (.yl ((gm S c n cf).elim 0 λq=>q.st.yid)::xs.map .v),B,more,false):=by kernel_rfl):Le (((yl B more xs).bind f).bind e) (cg S c Q cf):=by
 have⟨q,C,b⟩:=fh D;simp only[ζc]at b;have⟨d,u,G,I,J⟩:=b;rw[C]at u;refine ru C ?_ h;intro y z;have⟨r,a,z⟩:=ζg.1 z;cases z;unfold yl at a;split at a
 .rename_i w O;split at a
  next L=>cases a;rw[d,J];unfold fW;have u:bY S.N q.st.g q.az=some (.yl q.st.yid::xs.map .v):=u;simp only[wanted,gB,u,nD,G,L,I,if_true,and_self,false_eq_true,if_false]
  cases a
 cases a
theorem TC{S G:Sys}{c:cm}(Y:G.E=S.E)(e:∀f q,S.prm f=some q->oL S.E f q)(i:jN S c)(j:∀f a b xs,S.items f a b=some xs->eT S f a b xs){f:Y'}{fi:FI}{nm:Y'->a_ Nat}{rf:RF}(U:S.E.ft f=some fi)(l:∀g s,nm g=some s->S.N s=g)(m:yV S.E nm fi rf){a b:T2}{xs:T'}(D:a.length+1+b.length<=rf.na)(W:rf.rs=[])
 (h:∀B more,vX B xs more->∀yid,cg S c Qw (.rc rf.body,[],⟨wI 0 (a.map .v++.yl yid::b.map .v),[],[],B,more,yid⟩)=some []):eT G f a b xs:=by
 have k:eT S f a b xs:=MA e i j U l m D W (λB more w yid=>by
  have d:=h B more w yid;change lF S c Qw rf.body [] _=some []at d;rw[qw]at d;have⟨⟨o,st'⟩,z,u⟩:=ζg.1 d;refine⟨o,st',z,?_,?_,rfl⟩
  .rintro id rfl;simp[Qw]at u
  cases o<;>simp[Qw]at u<;>exact u)
 have⟨Q,T,n,yI,prm⟩:=G;simp only at Y;subst Y;intro B more w yid J y Z C I H d z u L O;exact k B more w yid J ⟨y.yb,y.yield⟩ Z C I H d z u L O
end
section
variable{S:Sys}{c:cm}{β γ α:Type}[bC α]{Q:Out×St->a_ β}{e:γ->a_ β}{cf:Cf}
theorem yE(n u:Nat){s:Sl α}{i:Nat}{a:α}{f:Sl α->a_ γ}(h:∀B,s.put i a=some B->Le ((f B).bind e) (cg S c Q (nx S c n cf λp=>cV {p.st with m:=bP p.st.m u (cI B)} p.d (.v .undef))))
 (D:(gm S c n cf).map (λp=>(p.k,bY S.N p.st.g p.az,bn p.st.m u,(!p.dr||p.now)))=some (.l (.store (bC.size α)),some [.el u i 0,cv a],some (cI s),true):=by kernel_rfl):Le (((s.put i a).bind f).bind e) (cg S c Q cf):=by
 have⟨p,w,b⟩:=fh D;simp only[ζc]at b;refine ru w ?_ h;rw[b.1];exact Le.of_eq (Mh b.2.1 b.2.2.2 b.2.2.1 (lY a) rfl)
end
theorem Ug{n:Int}(a:0<=n)(h:n<=4611686018427387904):wrap .i64 n=n:=by simp[wrap,IntKind.bits,signed];omega
namespace catX
instance{n:Nat}:OfNat Arg n:=⟨.s n⟩
def ln:K:=.p .lenSl
def ix:K:=.p (.idxS 1)
def bI(o:BinOp):K:=.p (.bin (some .int) none o)
def ld:K:=.r (.load 1 false)
def g1:SW:=[o1 4 (.k (.bO)) []]
def g2:SW:=[o1 5 1 [],o2 6 (bI .lss) [5,.k (.int .i64 0)] []]
def g3:SW:=[o2 7 (.p (.bad)) [] [],⟨none,none,false,.p .bad,[],[],[]⟩]
def g4:SW:=[o1 8 1 [],o1 9 0 [],o2 10 (.p (.capSl)) [9] [],o1 11 0 [],o2 12 ln [11] [],o2 13 (bI .sub) [10,12] [],o2 14 (bI .sub) [8,13] [],o1 1 14 []]
def g5:SW:=[o1 15 1 [],o2 16 (bI .gtr) [15,.k (.int .i64 0)] []]
def g6:SW:=[o1 17 0 [],o1 18 0 [],o2 19 (.p (.capSl)) [18] [],o2 20 (.p (.slice 1 false true)) [17,19] [],o1 21 1 [],o2 22 (.l (.appMk 1 24 [.bO])) [20,21] [],o1 23 0 [],o2 24 ln [23] [],o2 25 (.p (.slice 1 false true)) [22,24] [],o1 0 25 []]
def g7:SW:=[o1 26 0 [],o1 4 26 []]
def grow:RC:=.seq (.ops g1) (.seq (.seq (.ops g2) (.cond (.s 6) (.ops g3) (.skip))) (.seq (.seq (.ops g4) (.seq (.ops g5) (.cond (.s 16) (.ops g6) (.skip)))) (.seq (.ops g7) (.ret))))
section
variable{E:Env}{N:Nat->Y'}{t:Nat}
theorem WA(Y:t<=2147483648):∃F',Ex E N grow [.bO,.int .i64 t] [] .ret F' (if t=0 then[]else[.row 1 (replicate t [.bO])])/\get F' 4=if t=0 then .bO else .hsl 0 1 0 0:=by
 have e1:∀call,cK E N call none g1 [.bO,.int .i64 t] []=some (set [.bO,.int .i64 t] 4 .bO,[]):=λcall=>vp (v:=.bO) rfl (by simp[bK,bz,bq]) eC;have k0:get (set [V.bO,.int .i64 t] 4 .bO) 0=.bO:=rfl;have k1:get (set [V.bO,.int .i64 t] 4 .bO) 1=.int .i64 t:=rfl;generalize set [V.bO,.int .i64 t] 4 .bO=I at *;have S:wrap .i64 ((t:Int)-0)=t:=by rw[Int.sub_zero];exact Ug Zaa Zaa
 have D:wrap .i64 ((0:Int)-0)=0:=by decide
 have e2:∃F1,(∀call,cK E N call none g2 I []=some (F1,[]))/\get F1 6=.bool false/\get F1 0=.bO/\get F1 1=.int .i64 t:=by refine⟨_,λcall=>vp (v:=.int .i64 t) rfl ?_<|vp (v:=.bool false) rfl ?_ eC,?_,?_,?_⟩;simp[bK,bz,bq,k1];simp[bK,bz,bq,bu,bI,iu,pe];all_goals simp[bu,k0,k1]
 have⟨F1,a1,a2,a3,a4⟩:=e2;have e4:∃w,(∀call,cK E N call none g4 F1 []=some (w,[]))/\get w 0=.bO/\get w 1=.int .i64 t:=by refine⟨_,λcall=>vp (v:=.int .i64 t) rfl ?_<|vp (v:=.bO) rfl ?_<|vp (v:=.int .i64 0) rfl ?_<|vp (v:=.bO) rfl ?_<|vp (v:=.int .i64 0) rfl ?_<|vp (v:=.int .i64 0) rfl ?_<|vp (v:=.int .i64 t) rfl ?_<|vp (v:=.int .i64 t) rfl ?_ eC,?_,?_⟩;simp[bK,bz,bq,a4];simp[bK,bz,bq,bu,a3];simp[bK,bz,bq,bu,IZ];simp[bK,bz,bq,bu,a3];simp[bK,bz,bq,bu,ln,pL];simp only[bK,map_cons,map_nil,bz,bu,bA,reduceEqDiff,if_true,if_false,bq,bI,iu,D];rfl;simp only[bK,map_cons,map_nil,bz,bu,bA,reduceEqDiff,if_true,if_false,bq,bI,iu,S];rfl;simp[bK,bz,bq,bu];all_goals simp[bu,a3]
 have⟨w,J,T,L⟩:=e4;have e5:∃u,(∀call,cK E N call none g5 w []=some (u,[]))/\get u 16=.bool (decide (t>0))/\get u 0=.bO/\get u 1=.int .i64 t:=by refine⟨_,λcall=>vp (v:=.int .i64 t) rfl ?_<|vp (v:=.bool (decide (t>0))) rfl ?_ eC,?_,?_,?_⟩;simp[bK,bz,bq,L];simp[bK,bz,bq,bu,bI,iu,pe];all_goals simp[bu,T,L]
 have⟨u,O,Q,B,U⟩:=e5;have d:Ex E N (.seq (.ops g2) (.cond (.s 6) (.ops g3) (.skip))) I [] .norm F1 []:=Ex.seq (Ex.di a1) (Ex.qJ a2 Ex.skip);have e7:∀(F:WP)(H:bp),∃F',(∀call,cK E N call none g7 F H=some (F',H))/\get F' 4=get F 0:=λF H=>⟨_,λcall=>vp (v:=get F 0) rfl (by simp[bK,bz,bq])<|vp (v:=get F 0) rfl (by simp[bK,bz,bq,bu]) eC,by simp[bu]⟩
 by_cases a:t=0;subst a;have⟨G,b,c⟩:=e7 u [];refine⟨G,?_,by rw[c,B];rfl⟩;exact Ex.seq (Ex.di e1) (Ex.seq d (Ex.seq (Ex.seq (Ex.di J) (Ex.seq (Ex.di O) (Ex.qJ Q Ex.skip))) (Ex.seq (Ex.di b) Ex.ret)));have z:0<t:=Zaa;have e6:∃C,(∀call,cK E N call none g6 u []=some (C,[.row 1 (replicate t [.bO])]))/\get C 0=.hsl 0 1 0 0:=by refine⟨_,λcall=>vp (v:=.bO) rfl ?_<|vp (v:=.bO) rfl ?_<|vp (v:=.int .i64 0) rfl ?_<|vp (v:=.bO) rfl ?_<|vp (v:=.int .i64 t) rfl ?_<|kC (v:=.hsl 0 1 0 t) (H1:=[.row 1 (replicate t [.bO])]) rfl ?_<|vp (v:=.bO) rfl ?_<|vp (v:=.int .i64 0) rfl ?_<|vp (v:=.hsl 0 1 0 0) rfl ?_<|vp (v:=.hsl 0 1 0 0) rfl ?_ eC,?_⟩;simp[bK,bz,bq,B];simp[bK,bz,bq,bu,B];simp[bK,bz,bq,bu,IZ];simp[bK,bz,bq,bu,mP,iO,ey];simp[bK,bz,bq,bu,U];simp only[bK,map_cons,map_nil,bz,bu,bA,reduceEqDiff,if_true,if_false,fQ,mkApp];rw[if_neg Zaa,if_pos ⟨Zaa,Zaa,Zaa,Zaa⟩];simp;simp[bK,bz,bq,bu,B];simp[bK,bz,bq,bu,ln,pL];simp[bK,bz,bq,bu,mP,iO,ey];simp[bK,bz,bq,bu];simp[bu]
 have⟨C,W,X⟩:=e6;have⟨G,b,c⟩:=e7 C [.row 1 (replicate t [.bO])];rw[if_neg a,if_neg a];refine⟨G,?_,by rw[c,X]⟩;exact Ex.seq (Ex.di e1) (Ex.seq d (Ex.seq (Ex.seq (Ex.di J) (Ex.seq (Ex.di O) (Ex.oh (by show get u 16=_;rw[Q,decide_eq_true z]) (Ex.di W)))) (Ex.seq (Ex.di b) Ex.ret)))
end
end catX
def D5{α:Type}(s:Sl (Sl α)):Sl α:=if(s.l.flatMap Sl.l).length=0 then .nil else .row (s.l.flatMap Sl.l)
namespace catX
def r1:SW:=[o1 2 (.k (.bO)) []]
def r2:SW:=[o1 3 (.k (.int .i64 0)) []]
def r3:SW:=[o1 9 0 [],o2 10 ln [9] [],o1 11 (.k (.int .i64 0)) []]
def r4:SW:=[o2 12 (bI .lss) [11,10] []]
def r5:SW:=[o2 13 ix [9,11] [],o2 14 ld [13] [],o1 5 14 []]
def r6:SW:=[o1 15 3 [],o1 16 5 [],o2 17 ln [16] [],o2 18 (bI .add) [15,17] [],o1 3 18 []]
def r7:SW:=[o1 19 3 [],o2 20 (bI .lss) [19,.k (.int .i64 0)] []]
def r8:SW:=[o2 21 (.p (.bad)) [] [],⟨none,none,false,.p .bad,[],[],[]⟩]
def r9:SW:=[o2 22 (bI .add) [11,.k (.int .i64 1)] [],o1 11 22 []]
def L9:RC:=.seq (.ops r4) (.seq (.cond (.s 12) (.skip) (.exit 0)) (.seq (.block 1 (.seq (.ops r5) (.seq (.ops r6) (.seq (.ops r7) (.cond (.s 20) (.ops r8) (.skip)))))) (.ops r9)))
def Eb(gid:Nat):SW:=[o1 23 3 [],o2 24 .c [.f gid,.k (.bO),23] [],o1 6 24 []]
def HZ:SW:=[o1 25 0 [],o2 26 ln [25] [],o1 27 (.k (.int .i64 0)) []]
def Ht:SW:=[o2 28 (bI .lss) [27,26] []]
def HD:SW:=[o2 29 ix [25,27] [],o2 30 ld [29] [],o1 8 30 []]
def Fu:SW:=[o1 31 6 [],o1 32 8 [],o2 33 (.l (.append 1)) [31,32] [],o1 6 33 []]
def HS:SW:=[o2 34 (bI .add) [27,.k (.int .i64 1)] [],o1 27 34 []]
def L15:RC:=.seq (.ops Ht) (.seq (.cond (.s 28) (.skip) (.exit 2)) (.seq (.block 3 (.seq (.ops HD) (.ops Fu))) (.ops HS)))
def r16:SW:=[o1 35 6 [],o1 2 35 []]
def cat(gid:Nat):RC:=.seq (.ops r1) (.seq (.ops r2) (.seq (.seq (.ops r3) (.block 0 (.loop L9))) (.seq (.ops (Eb gid)) (.seq (.seq (.ops HZ) (.block 2 (.loop L15))) (.seq (.ops r16) (.ret))))))
section
variable{E:Env}{N:Nat->Y'}{F:WP}{H:bp}{α:Type}[bC α]{s:Sl (Sl α)}{i:Nat}
theorem el{u:Sl α}(h:s.l[i]?=some u):mN 1 (bZ s) (i:Int)=some (.fptr [bZ u]):=by have:=FU (N:=λn=>n) s .i64 (i:Int) 1 rfl;simp only[bq]at this;rw[this,show idx s (i:Int)=some u from by unfold idx;grind];rfl
theorem lnS(s:Sl α):pL (bZ s)=some (.int .i64 s.l.length):=by have:=AJ (N:=λn=>n) s;simpa only[bq]using this
theorem y3:(get F 0=bZ s->∃F',(∀call,cK E N call none r3 F H=some (F',H))/\get F' 9=bZ s/\get F' 10=.int .i64 s.l.length/\get F' 11=.int .i64 0/\∀j,j<9->get F' j=get F j)/\
 (get F 0=bZ s->∃F',(∀call,cK E N call none HZ F H=some (F',H))/\get F' 25=bZ s/\get F' 26=.int .i64 s.l.length/\get F' 27=.int .i64 0/\∀j,j<9->get F' j=get F j):=by
 have h:=lnS s;refine⟨λa=>⟨_,λcall=>vp (v:=bZ s) rfl ?_<|vp (v:=.int .i64 s.l.length) rfl ?_<|vp (v:=.int .i64 0) rfl ?_ eC,?_,?_,?_,?_⟩,λa=>⟨_,λcall=>vp (v:=bZ s) rfl ?_<|vp (v:=.int .i64 s.l.length) rfl ?_<|vp (v:=.int .i64 0) rfl ?_ eC,?_,?_,?_,?_⟩⟩<;>
 first
 |(simp[bK,bz,bq,a];done)|(simp only[bK,map_cons,map_nil,bz,bu,bA,reduceEqDiff,if_true,if_false,bq,ln,h];rfl)|grind|(simp[bu];done)|(intro j u;simp only[bu,bA];grind)
theorem y4{n:Nat}:(get F 11=.int .i64 i->get F 10=.int .i64 n->∃F',(∀call,cK E N call none r4 F H=some (F',H))/\get F' 12=.bool (decide (i<n))/\∀j,j<12->get F' j=get F j)/\
 (get F 27=.int .i64 i->get F 26=.int .i64 n->∃F',(∀call,cK E N call none Ht F H=some (F',H))/\get F' 28=.bool (decide (i<n))/\∀j,j<28->get F' j=get F j):=by
 refine⟨λf u=>⟨_,λcall=>vp (v:=.bool (decide (i<n))) rfl ?_ eC,?_,?_⟩,λf u=>⟨_,λcall=>vp (v:=.bool (decide (i<n))) rfl ?_ eC,?_,?_⟩⟩<;>
 first
 |(simp[bK,bz,bq,bu,bI,iu,pe,f,u];done)|grind|(intro j w;simp only[bu,bA];grind)
theorem y5{u:Sl α}(h:s.l[i]?=some u):(get F 9=bZ s->get F 11=.int .i64 i->∃F',(∀call,cK E N call none r5 F H=some (F',H))/\get F' 5=bZ u/\∀j,j<12->j≠5->get F' j=get F j)/\
 (get F 25=bZ s->get F 27=.int .i64 i->∃F',(∀call,cK E N call none HD F H=some (F',H))/\get F' 8=bZ u/\∀j,j<28->j≠8->get F' j=get F j):=by
 have e:=el h;have e2:fD H (.load 1 false) [.fptr [bZ u]]=some (bZ u):=by simp[fD,eM,cut,mk]
 refine⟨λf w=>⟨_,λcall=>vp (v:=.fptr [bZ u]) rfl ?_<|vp (v:=bZ u) rfl ?_<|vp (v:=bZ u) rfl ?_ eC,?_,?_⟩,λf w=>⟨_,λcall=>vp (v:=.fptr [bZ u]) rfl ?_<|vp (v:=bZ u) rfl ?_<|vp (v:=bZ u) rfl ?_ eC,?_,?_⟩⟩<;>
 first
 |(simp only[bK,map_cons,map_nil,bz,bu,bA,reduceEqDiff,if_true,if_false,bq,ix,f,w,e,map_some];done)|(simp only[bK,map_cons,map_nil,bz,bu,bA,reduceEqDiff,if_true,if_false,ld];grind)|grind|grind|grind
theorem y6{u:Sl α}{t:Nat}(a:get F 3=.int .i64 t)(b:get F 5=bZ u)(B:t+u.l.length<=2147483648):∃F',(∀call,cK E N call none r6 F H=some (F',H))/\get F' 3=.int .i64 ((t+u.l.length:Nat):Int)/\∀j,j<12->j≠3->get F' j=get F j:=by
 have h:=lnS u;have w:wrap .i64 ((t:Int)+(u.l.length:Int))=((t+u.l.length:Nat):Int):=by rw[Ug Zaa Zaa];simp
 refine⟨_,λcall=>vp (v:=.int .i64 t) rfl ?_<|vp (v:=bZ u) rfl ?_<|vp (v:=.int .i64 u.l.length) rfl ?_<|vp (v:=.int .i64 ((t+u.l.length:Nat):Int)) rfl ?_<|vp (v:=.int .i64 ((t+u.l.length:Nat):Int)) rfl ?_ eC,?_,?_⟩;simp[bK,bz,bq,a];simp[bK,bz,bq,bu,b];simp only[bK,map_cons,map_nil,bz,bu,bA,reduceEqDiff,if_true,if_false,bq,ln,h];rfl;simp only[bK,map_cons,map_nil,bz,bu,bA,reduceEqDiff,if_true,if_false,bq,bI,iu,w];rfl;simp[bK,bz,bq,bu];simp[bu];intro j z C;simp only[bu,bA];grind
theorem y7{t:Nat}(a:get F 3=.int .i64 t):∃F',(∀call,cK E N call none r7 F H=some (F',H))/\get F' 20=.bool false/\∀j,j<12->get F' j=get F j:=by refine⟨_,λcall=>vp (v:=.int .i64 t) rfl ?_<|vp (v:=.bool false) rfl ?_ eC,?_,?_⟩;simp[bK,bz,bq,a];simp[bK,bz,bq,bu,bI,iu,pe];simp[bu];intro j u;simp only[bu,bA];grind
theorem y9(hi:i<=2147483648):(get F 11=.int .i64 i->∃F',(∀call,cK E N call none r9 F H=some (F',H))/\get F' 11=.int .i64 ((i+1:Nat):Int)/\∀j,j<11->get F' j=get F j)/\
 (get F 27=.int .i64 i->∃F',(∀call,cK E N call none HS F H=some (F',H))/\get F' 27=.int .i64 ((i+1:Nat):Int)/\∀j,j<27->get F' j=get F j):=by
 have u:=zB hi;refine⟨λf=>⟨_,λcall=>vp (v:=.int .i64 ((i+1:Nat):Int)) rfl ?_<|vp (v:=.int .i64 ((i+1:Nat):Int)) rfl ?_ eC,?_,?_⟩,λf=>⟨_,λcall=>vp (v:=.int .i64 ((i+1:Nat):Int)) rfl ?_<|vp (v:=.int .i64 ((i+1:Nat):Int)) rfl ?_ eC,?_,?_⟩⟩<;>
 first
 |(simp only[bK,map_cons,map_nil,bz,bu,bA,reduceEqDiff,if_true,if_false,bq,bI,iu,f,u];rfl)|grind|(simp[bu];done)|(intro j w;simp only[bu,bA];grind)
structure Acc(H:bp)(w:V)(acc:List (List V)):Prop where
 el:dR H 1 w=some acc
 gr:∃H1,iD H w=some H1/\H1.length=H.length
 sh:w=.bO/\acc=[]\/∃id xs,w=.hsl id 1 0 acc.length/\H[id]?=some (.row 1 xs)/\(acc≠[]->xs=acc)
theorem Vc(H:bp)(u:Sl α)(a:bC.size α=1):dR H 1 (bZ u)=some (rows u.l):=by cases u<;>simp[bZ,Sl.k,Sl.l,o9,dR,rows,a]
theorem y14{w:V}{b:T'}{u:Sl α}(f:bC.size α=1)(a:Acc H w b)(f6:get F 6=w)(D:get F 8=bZ u)(J:b.length+u.l.length<=2147483648):
 ∃F' H' w',(∀call,cK E N call none Fu F H=some (F',H'))/\get F' 6=w'/\Acc H' w' (b++rows u.l)/\(u.l=[]->w'=w)/\∀j,j<28->j≠6->get F' j=get F j:=by
 have c:=Vc H u f;have C:(rows u.l).length=u.l.length:=by simp[rows]
 have key:∃H' w',fQ H (.append 1) [w,bZ u]=some (w',H')/\Acc H' w' (b++rows u.l)/\(u.l=[]->w'=w):=by have⟨H1,g1,g2⟩:=a.gr;cases d:rows u.l with|nil=>exact⟨H,w,by simp only[fQ,a.el,c,d],Zac,λ_=>rfl⟩|cons y B=>have G:b.length+(y::B).length<=2147483648:=Zac;refine⟨H1++[.row 1 (b++y::B)],.hsl H.length 1 0 (b.length+(y::B).length),by simp only[fQ,a.el,c,d];grind,?_⟩;have z:(H1++[Ob.row 1 (b++y::B)])[H.length]?=some (.row 1 (b++y::B)):=Zac;refine⟨⟨?_,⟨_,by simp only[iD,z];rfl,Zab⟩,.inr ⟨H.length,b++y::B,Zab,z,λ_=>rfl⟩⟩,λe=>Zac⟩;simp only[dR,z,ζb,Ob.rows,if_true,zero_add,drop_zero];grind
 have⟨H',w',k1,k2,k3⟩:=key;refine⟨_,H',w',λcall=>vp (v:=w) rfl ?_<|vp (v:=bZ u) rfl ?_<|kC (v:=w') (H1:=H') rfl ?_<|vp (v:=w') rfl ?_ eC,?_,k2,k3,?_⟩
 .simp[bK,bz,bq,f6]
 .simp[bK,bz,bq,bu,D]
 .simp only[bK,map_cons,map_nil,bz,bu,bA,reduceEqDiff,if_true,if_false];exact k1
 .simp[bK,bz,bq,bu]
 .simp[bu]
 intro j I L;simp only[bu,bA]
 grind
def upto(s:Sl (Sl α))(i:Nat):aZ α:=(s.l.take i).flatMap Sl.l
theorem HA{u:Sl α}(h:s.l[i]?=some u):upto s (i+1)=upto s i++u.l:=by unfold upto;obtain⟨hi,rfl⟩:=ζe.1 h;rw[List.take_succ_eq_append_getElem hi,List.flatMap_append];simp
theorem MX(s:Sl (Sl α))(i:Nat):(upto s i).length<=(s.l.flatMap Sl.l).length:=by
 have:s.l.flatMap Sl.l=upto s i++(s.l.drop i).flatMap Sl.l:=by unfold upto;rw[<-List.flatMap_append,List.take_append_drop]
 grind
theorem lp1(k:s.l.length<=2147483648)(l:(s.l.flatMap Sl.l).length<=2147483648):∀(d i:Nat)(F:WP),i+d=s.l.length->get F 9=bZ s->get F 10=.int .i64 s.l.length->get F 11=.int .i64 i->get F 3=.int .i64 (upto s i).length->
 ∃F',ng E N L9 F H (.exit 0) F' H/\get F' 3=.int .i64 (s.l.flatMap Sl.l).length/\get F' 0=get F 0:=by
 intro d
 induction d with
 |zero=>
  intro i F hi I a w c;have⟨F1,a1,a2,a3⟩:=(y4 (E:=E) (N:=N) (H:=H) (n:=s.l.length)).1 w a;refine⟨F1,ng.stop (Ex.seq (Ex.di a1) (Ex.ve (Ex.qJ (by show get F1 12=_;grind) Ex.exit) Zab)) Zab,?_,a3 0 Zaa⟩
  rw[a3 3 Zaa,c]
  have:upto s i=s.l.flatMap Sl.l:=by unfold upto;grind
  simp_all
 |succ d J=>
  intro i F hi I a w c;have⟨F1,a1,a2,a3⟩:=(y4 (E:=E) (N:=N) (H:=H) (n:=s.l.length)).1 w a;have e:s.l[i]?=some s.l[i]:=ζd Zaa
  have⟨L,O,Q,S⟩:=(y5 (E:=E) (N:=N) (F:=F1) (H:=H) e).1 Zac Zac
  have B:=MX s (i+1);have C:=HA e;rw[C,ζi]at B;have⟨T,U,D,W⟩:=y6 (E:=E) (N:=N) (F:=L) (H:=H) (u:=s.l[i]) (t:=(upto s i).length) Zad Q Zaa
  have⟨G,g,h,f⟩:=y7 (E:=E) (N:=N) (F:=T) (H:=H) D;have z:∀j,j<12->j≠3->j≠5->get G j=get F j:=λj b X Y=>by rw[f j b,W j b X,S j b Y,a3 j b]
  have⟨Z,e1,e2,e3⟩:=(y9 (E:=E) (N:=N) (F:=G) (H:=H) (i:=i) Zaa).1 (by rw[z 11 Zaa Zaa Zaa];exact w)
  have⟨F',g1,g2,g3⟩:=J (i+1) Z Zaa (by rw[e3 9 Zaa,z 9 Zaa Zaa Zaa];omega) (by rw[e3 10 Zaa,z 10 Zaa Zaa Zaa];exact a) e2 (by rw[e3 3 Zaa,f 3 Zaa,D,C,ζi])
  exact⟨F',ng.step (Ex.seq (Ex.di a1) (Ex.seq (Ex.oh (by show get F1 12=_;rw[a2,decide_eq_true Zaa]) Ex.skip) (Ex.seq (Ex.block (Ex.seq (Ex.di O) (Ex.seq (Ex.di U) (Ex.seq (Ex.di g) (Ex.qJ h Ex.skip))))) (Ex.di e1)))) g1,g2,by rw[g3,e3 0 Zaa,z 0 Zaa Zaa Zaa]⟩
theorem lp2(b:bC.size α=1)(g:s.l.length<=2147483648)(h:(s.l.flatMap Sl.l).length<=2147483648):∀(d i:Nat)(F:WP)(H:bp)(w:V),i+d=s.l.length->get F 25=bZ s->get F 26=.int .i64 s.l.length->get F 27=.int .i64 i->get F 6=w->Acc H w (rows (upto s i))->
 ∃F' H' w',ng E N L15 F H (.exit 2) F' H'/\get F' 6=w'/\Acc H' w' (rows (s.l.flatMap Sl.l))/\((s.l.flatMap Sl.l).length=0->w'=w):=by
 intro d
 induction d with
 |zero=>
  intro i F H w hi C B z f6 a;have⟨F1,a1,a2,a3⟩:=(y4 (E:=E) (N:=N) (H:=H) (n:=s.l.length)).2 z B;have:upto s i=s.l.flatMap Sl.l:=by unfold upto;grind
  rw[this]at a;exact⟨F1,H,w,ng.stop (Ex.seq (Ex.di a1) (Ex.ve (Ex.qJ (by show get F1 28=_;grind) Ex.exit) Zab)) Zab,Zac,a,λ_=>rfl⟩
 |succ d O=>
  intro i F H w hi C B z f6 a;have⟨F1,a1,a2,a3⟩:=(y4 (E:=E) (N:=N) (H:=H) (n:=s.l.length)).2 z B;have c:s.l[i]?=some s.l[i]:=ζd Zaa
  have⟨Q,S,T,k⟩:=(y5 (E:=E) (N:=N) (F:=F1) (H:=H) c).2 Zac Zac
  have D:=MX s (i+1);have I:=HA c;rw[I,ζi]at D;have⟨J,H',w',U,W,L,X,l⟩:=y14 (E:=E) (N:=N) (F:=Q) (H:=H) (u:=s.l[i]) b a Zac T (by simp only[iG];omega)
  have G:∀j,j<28->j≠6->j≠8->get J j=get F j:=λj b m o=>Zac
  have⟨Y,e1,e2,e3⟩:=(y9 (E:=E) (N:=N) (F:=J) (H:=H') (i:=i) Zaa).2 (by rw[G 27 Zaa Zaa Zaa];exact z)
  have f:rows (upto s i)++rows s.l[i].l=rows (upto s (i+1)):=by rw[I];simp[rows]
  rw[f]at L;have⟨F',H2,Z,g1,g2,g3,g4⟩:=O (i+1) Y H' w' Zaa (by rw[e3 25 Zaa,G 25 Zaa Zaa Zaa];omega) (by rw[e3 26 Zaa,G 26 Zaa Zaa Zaa];omega) e2 (by rw[e3 6 Zaa];exact W) L
  exact⟨F',H2,Z,ng.step (Ex.seq (Ex.di a1) (Ex.seq (Ex.oh (by show get F1 28=_;rw[a2,decide_eq_true Zaa]) Ex.skip) (Ex.seq (Ex.block (Ex.seq (Ex.di S) (Ex.di U))) (Ex.di e1)))) g1,g2,g3,λe=>(g4 e).trans (X (List.eq_nil_of_length_eq_zero Zaa))⟩
end
end catX
theorem WV{E:Env}{f gf:Y'}{nm:Y'->a_ Nat}{N:Nat->Y'}{gid:Nat}(K:∀f s,nm f=some s->N s=f)(hg:N gid=gf)(aa:E.keep gf=true)(U:E.own gf=true)
 (hf:∃fi,E.ft f=some fi/\bV ⟨E,nm,fi.ntmps⟩ false fi.body=some (catX.cat gid)/\2<=fi.ntmps/\fi.results=[.tmp 2])
 (ab:∃fi,E.ft gf=some fi/\bV ⟨E,nm,fi.ntmps⟩ false fi.body=some catX.grow/\2<=fi.ntmps/\fi.results=[.tmp 4])
 {α:Type}[bC α](M:bC.size α=1)(s:Sl (Sl α))(P:s.l.length<=2147483648)(ht:(s.l.flatMap Sl.l).length<=2147483648):Br E f [bZ s] (bZ (D5 s)):=by
 have⟨fi,p1,p2,p3,p4⟩:=hf;have⟨gi,q1,q2,q3,q4⟩:=ab;generalize R:(s.l.flatMap Sl.l).length=T at *;have⟨Fg,Z,ad⟩:=catX.WA (E:=E) (N:=N) ht;have⟨n0,L⟩:=Ex.run K q1 q2 (args:=[.bO,.int .i64 T]) Zac Z (vs:=[if T=0 then .bO else .hsl 0 1 0 0]) (by rw[q4];simp[ja,ad])
 have O:∀l,borrows l [] [.bO,.int .i64 (T:Int)]=some [.bO,.int .i64 (T:Int)]:=λl=>by unfold borrows;simp only[jc,lu l [] (x:=V.bO) rfl,lu l [] (x:=V.int .i64 T) rfl]
 have C:∃w D,(∀k,n0<=k->fI E (run E k) gf [.bO,.int .i64 T] []=some (w,D))/\catX.Acc D w []/\(T=0->w=.bO):=by by_cases d:T=0;refine⟨.bO,[],λk g=>?_,⟨rfl,⟨[],rfl,rfl⟩,.inl ⟨rfl,rfl⟩⟩,λ_=>rfl⟩;have:=(pJ E g).go _ _ _ _ L;rw[if_pos d,if_pos d]at this;unfold fI lT;rw[if_pos U];simp[O,this,result,V.scalar];refine⟨.hsl 0 1 0 0,[.row 1 (replicate T [.bO])],λk g=>?_,⟨by simp[dR,Ob.rows],⟨_,rfl,Zab⟩,.inr ⟨0,_,rfl,rfl,λh=>absurd rfl h⟩⟩,λh=>absurd h d⟩;have:=(pJ E g).go _ _ _ _ L;rw[if_neg d,if_neg d]at this;unfold fI lT;rw[if_pos U];simp only[O,if_true,this,result,V.scalar,false_eq_true,if_false,sF,List.getElem?_cons_zero,true_and];rw[if_pos (by simp[List.all_replicate,V.scalar])];simp
 have⟨w,D,ai,ae,Q⟩:=C;have S:T≠0->rows (s.l.flatMap Sl.l)≠[]:=λh e=>h (by rw[<-R,<-iG,e];rfl)
 have z:∀c∈rows (s.l.flatMap Sl.l),V.cH c=true:=λc p=>by obtain⟨x,_,rfl⟩:=mem_map.1 p;exact bC.good x
 have g1:∀call,cK E N call none catX.r1 [bZ s] []=some (set [bZ s] 2 .bO,[]):=λcall=>vp (v:=.bO) rfl (by simp[bK,bz,bq]) eC
 have k0:get (set [bZ s] 2 .bO) 0=bZ s:=rfl;generalize set [bZ s] 2 .bO=F0 at *;have g2:∀call,cK E N call none catX.r2 F0 []=some (set F0 3 (.int .i64 0),[]):=λcall=>vp (v:=.int .i64 0) rfl (by simp[bK,bz,bq]) eC
 have⟨F2,a1,a2,a3,a4,a5⟩:=(catX.y3 (E:=E) (N:=N) (F:=set F0 3 (.int .i64 0)) (H:=[]) (s:=s)).1 Zad
 have⟨F3,b1,b2,b3⟩:=catX.lp1 (E:=E) (N:=N) (H:=[]) P Zaa s.l.length 0 F2 Zaa a2 a3 a4 (by rw[a5 3 Zaa,uk];rfl)
 rw[R]at b2;have aj:get F3 0=bZ s:=Zad
 have q:∃W,(∃n,∀k,n<=k->cK E N (run E k) none (catX.Eb gid) F3 []=some (W,D))/\get W 6=w/\get W 0=bZ s:=by refine⟨_,⟨n0,λk g=>vp (v:=.int .i64 T) rfl ?_<|kC (v:=w) (H1:=D) rfl ?_<|vp (v:=w) rfl ?_ eC⟩,?_,?_⟩;simp[bK,bz,bq,b2];simp only[bK,map_cons,map_nil,bz,bu,bA,reduceEqDiff,if_true,if_false,hg,aa,nil_append,append_nil];grind;simp[bK,bz,bq,bu];simp[bu];simp only[bu,bA,reduceEqDiff,if_false];omega
 have⟨W,q,c2,c3⟩:=q;have⟨F5,d1,d2,d3,d4,d5⟩:=(catX.y3 (E:=E) (N:=N) (F:=W) (H:=D) (s:=s)).2 c3;have⟨F6,X,I,e1,e2,e3,e4⟩:=catX.lp2 (E:=E) (N:=N) M P Zaa s.l.length 0 F5 D w Zaa d2 d3 d4 Zad ae
 have r:∃t,(∀call,cK E N call none catX.r16 F6 X=some (t,X))/\get t 2=I:=⟨_,λcall=>vp (v:=I) rfl (by simp[bK,bz,bq,e2])<|vp (v:=I) rfl (by simp[bK,bz,bq,bu]) eC,by simp[bu]⟩
 have⟨t,r,f2⟩:=r;have⟨n,af⟩:=Ex.run K p1 p2 (args:=[bZ s]) (by simp;omega) (Ex.seq (Ex.di g1) (Ex.seq (Ex.di g2) (Ex.seq (Ex.seq (Ex.di a1) (Ex.wq (Ex.loop b1))) (Ex.seq (Ex.ops q) (Ex.seq (Ex.seq (Ex.di d1) (Ex.wq (Ex.loop e1))) (Ex.seq (Ex.di r) Ex.ret)))))) (vs:=[I]) (by rw[p4];simp[ja,f2])
 refine⟨n,I,X,λid=>∃m,I=.hsl id 1 0 m,af,?_,?_,?_⟩
 .rcases e3.sh with⟨h,J⟩|⟨id,xs,h,J,A⟩
  .have:T=0:=by grind
   rw[h];unfold D5;rw[if_pos Zaa]
   exact .same _ rfl
  by_cases d:T=0
  .have:=e4 Zaa
   rw[Q d]at this;rw[this]at h;cases h
  have y:=A (S d);subst y;unfold D5;rw[if_neg Zaa,h]
  show FR X _ (.fsl (bC.size α) (rows (s.l.flatMap Sl.l))) _;rw[M];exact .fsl 1 _ id 0 _ ⟨_,rfl⟩ (by unfold bt;rw[J];rfl) Zaa (λi a b Y G=>by rw[zero_add]at G;rw[Y]at G;cases G;rfl) (λi j a b u v Y G o hv=>by
   rw[zero_add]at G;rw[Y]at G;cases G;rw[o]at hv;cases hv;exact .same _ (iJ.1 (z a (mem_of_getElem? Y)) j u o))
 .rintro id ⟨m,h⟩;rcases e3.sh with⟨B,_⟩|⟨ah,xs,B,J,_⟩
  .rw[B]at h;cases h
  rw[B]at h;cases h;unfold bt;rw[J];rfl
 refine⟨λid es ys hz hr c p u o=>?_⟩
 have⟨m,h⟩:=hz;rcases e3.sh with⟨B,_⟩|⟨ah,xs,B,J,A⟩
 .rw[B]at h;cases h
 rw[B]at h;cases h
 by_cases d:T=0
 .have:=e4 Zaa
  rw[Q d]at this;rw[this]at B;cases B
 have y:=A (S d);subst y;unfold bt at hr;rw[J]at hr;cases hr;have⟨j,hj⟩:=getElem?_of_mem o;exact⟨u,.same _ (iJ.1 (z c p) j u hj)⟩
def Ar(op:X')(x y:Int):Int:=cond op x y
@[simp] theorem Zh(x y:Int):Ar true x y=x:=rfl
@[simp] theorem ZL(x y:Int):Ar false x y=y:=rfl
namespace setX
instance{n:Nat}:OfNat Arg n:=⟨.s n⟩
def fa(k:Nat):K:=.p (.fieldAddr k)
def ld:K:=.r (.load 1 false)
def r1:SW:=[o2 4 (.a .box) [1] [],o2 5 (.a .box) [2] []]
def r2:SW:=[o1 6 0 [],o2 7 (fa 0) [4] [],o2 8 ld [7] [],o2 9 (fa 1) [4] [],o2 10 ld [9] [],o2 11 (.p (.idxS 1)) [6,8] [],⟨none,none,false,.l (.store 1),[11,10],[],[]⟩]
def r3:SW:=[o1 6 0 [],o2 7 (fa 0) [5] [],o2 8 ld [7] [],o2 9 (fa 1) [5] [],o2 10 ld [9] [],o2 11 (.p (.bin (some .int) none .sub)) [10,.k (.int .i64 1)] [],o2 12 (.p (.idxS 1)) [6,8] [],⟨none,none,false,.l (.store 1),[12,11],[],[]⟩]
def code(op:X'):RC:=.seq (.ops r1) (.ops (if op then r3 else r2))
section
variable{E:Env}{N:Nat->Y'}{H:bp}{id off L:Nat}{rs:T'}
theorem U7{h:Nat}{x y:V}{i:Nat}{v:V}(B:H[h]?=some (.row 2 [[x,y]]))(a:[x,y][i]?=some v):fD H (.load 1 false) [.hptr h 0 i]=some v:=by match i,a with|0,a=>cases a;simp[fD,eM,B,Ob.rows,cut,mk]|1,a=>cases a;simp[fD,eM,B,Ob.rows,cut,mk]|i+2,a=>simp at a
theorem whole(op:X'){a b c d:Int}(G:H[id]?=some (.row 1 rs))(hp:0<=(Ar op c a))(B:(Ar op c a).toNat<L){z:V}(D:rs[off+(Ar op c a).toNat]?=some [z]):
 ∃F' X,Ex E N (code op) [.hsl id 1 off L,.agg [.int .i64 a,.int .i64 b],.agg [.int .i64 c,.int .i64 d]] H .norm F' ((H++X).set id (.row 1 (rs.set (off+(Ar op c a).toNat) [.int .i64 (Ar op (wrap .i64 (d-1)) b)]))):=by
 let X:bp:=[.row 2 [[.int .i64 a,.int .i64 b]],.row 2 [[.int .i64 c,.int .i64 d]]]
 have I:=(ζe.1 G).1;have e1:∃F1,(∀call,cK E N call none r1 [.hsl id 1 off L,.agg [.int .i64 a,.int .i64 b],.agg [.int .i64 c,.int .i64 d]] H=some (F1,H++X))/\get F1 0=.hsl id 1 off L/\get F1 4=.hptr H.length 0 0/\get F1 5=.hptr (H.length+1) 0 0:=by refine⟨_,λcall=>kC (v:=.hptr H.length 0 0) (H1:=H++[.row 2 [[.int .i64 a,.int .i64 b]]]) rfl ?_<|kC (v:=.hptr (H.length+1) 0 0) (H1:=H++X) rfl ?_ eC,?_,?_,?_⟩;simp[bK,bz,get,iU,V.cells,V.one,Mk.val];simp[bK,bz,get,bu,set,iU,V.cells,V.one,Mk.val,X];simp[bu];rfl;simp[bu];simp[bu]
 have⟨F1,p1,p2,p3,p4⟩:=e1;have e:(H++X)[id]?=some (.row 1 rs):=by rw[getElem?_append_left I];exact G
 have J:(H++X)[H.length]?=some (.row 2 [[.int .i64 a,.int .i64 b]]):=by simp[X]
 have O:(H++X)[H.length+1]?=some (.row 2 [[.int .i64 c,.int .i64 d]]):=by rw[getElem?_append_right Zaa];simp[X]
 obtain⟨H1,Q⟩:∃H1,H1=H++X:=⟨_,rfl⟩;rw[<-Q]at e J O;rw[<-Q]at p1
 suffices W:∃F',Ex E N (code op) [.hsl id 1 off L,.agg [.int .i64 a,.int .i64 b],.agg [.int .i64 c,.int .i64 d]] H .norm F' (H1.set id (.row 1 (rs.set (off+(Ar op c a).toNat) [.int .i64 (Ar op (wrap .i64 (d-1)) b)])))by have⟨F',Y⟩:=W;exact⟨F',X,by rw[<-Q];exact Y⟩
 have w:∀p:Int,0<=p->p.toNat<L->mN 1 (.hsl id 1 off L) p=some (.hptr id (off+p.toNat) 0):=λp g Z=>by unfold mN;rw[if_neg Zaa];simp[Z]
 have C:∀(q:Nat)(z v:V),rs[q]?=some [z]->v.one=true->fQ H1 (.store 1) [.hptr id q 0,v]=some (.undef,H1.set id (.row 1 (rs.set q [v]))):=λq z v D f=>by simp[fQ,e,D,Hz f,f]
 cases op with
 |false=>
  simp only[ZL]at hp B D⊢;have S:=U7 (i:=0) J rfl;have T:=U7 (i:=1) J rfl;have e2:∃u,(∀call,cK E N call none r2 F1 H1=some (u,H1.set id (.row 1 (rs.set (off+a.toNat) [.int .i64 b])))):=by refine⟨_,λcall=>vp (v:=.hsl id 1 off L) rfl ?_<|vp (v:=.hptr H.length 0 0) rfl ?_<|vp (v:=.int .i64 a) rfl ?_<|vp (v:=.hptr H.length 0 1) rfl ?_<|vp (v:=.int .i64 b) rfl ?_<|vp (v:=.hptr id (off+a.toNat) 0) rfl ?_<|kC (v:=.undef) rfl ?_ eC⟩;simp[bK,bz,bq,p2];simp[bK,bz,bq,bu,fa,iM,p3];simp only[bK,map_cons,map_nil,bz,bu,bA,reduceEqDiff,if_true,if_false,ld,S,map_some];simp[bK,bz,bq,bu,fa,iM,p3];simp only[bK,map_cons,map_nil,bz,bu,bA,reduceEqDiff,if_true,if_false,ld,T,map_some];simp only[bK,map_cons,map_nil,bz,bu,bA,reduceEqDiff,if_true,if_false,bq,w a hp B,map_some];simp only[bK,map_cons,map_nil,bz,bu,bA,reduceEqDiff,if_true,if_false];exact C _ z _ D rfl
  have⟨u,U⟩:=e2;exact⟨u,Ex.seq (Ex.di p1) (Ex.di (l:=_) U)⟩
 |true=>
  simp only[Zh]at hp B D⊢;have S:=U7 (i:=0) O rfl;have T:=U7 (i:=1) O rfl;have e2:∃u,(∀call,cK E N call none r3 F1 H1=some (u,H1.set id (.row 1 (rs.set (off+c.toNat) [.int .i64 (wrap .i64 (d-1))])))):=by refine⟨_,λcall=>vp (v:=.hsl id 1 off L) rfl ?_<|vp (v:=.hptr (H.length+1) 0 0) rfl ?_<|vp (v:=.int .i64 c) rfl ?_<|vp (v:=.hptr (H.length+1) 0 1) rfl ?_<|vp (v:=.int .i64 d) rfl ?_<|vp (v:=.int .i64 (wrap .i64 (d-1))) rfl ?_<|vp (v:=.hptr id (off+c.toNat) 0) rfl ?_<|kC (v:=.undef) rfl ?_ eC⟩;simp[bK,bz,bq,p2];simp[bK,bz,bq,bu,fa,iM,p4];simp only[bK,map_cons,map_nil,bz,bu,bA,reduceEqDiff,if_true,if_false,ld,S,map_some];simp[bK,bz,bq,bu,fa,iM,p4];simp only[bK,map_cons,map_nil,bz,bu,bA,reduceEqDiff,if_true,if_false,ld,T,map_some];simp[bK,bz,bq,bu,iu];simp only[bK,map_cons,map_nil,bz,bu,bA,reduceEqDiff,if_true,if_false,bq,w c hp B,map_some];simp only[bK,map_cons,map_nil,bz,bu,bA,reduceEqDiff,if_true,if_false];exact C _ z _ D rfl
  have⟨u,U⟩:=e2;exact⟨u,Ex.seq (Ex.di p1) (Ex.di (l:=_) U)⟩
end
end setX
section
variable{S:Sys}{c:cm}{β γ δ α:Type}[bC δ]{Q:Out×St->a_ β}{e:γ->a_ β}{cf:Cf}
end
def snap(w:World):cE:=λb=>match w.heap[b]?with
 |some (.cells c _ _)=>some (.cells c)|some (.map es _)=>some (.map es)|_=>none
theorem Tq{w:World}(a:vv (snap w)):dc (snap w) (λ_=>none) [] w where
 dom _ _:=rfl
 imm b x h:=by unfold snap at h;split at h;(next c el fr u=>cases h;exact⟨el,fr,u⟩);(next es d u=>cases h;exact⟨d,u⟩);cases h
 obs id ob h:=by simp at h
 inj id z ob B p C h:=by simp at h
 gl:=a
def fN(I:cE)(xs:T2)(vs:aZ V'):Prop:=xs.length=vs.length/\∀(j:Nat)a b,xs[j]?=some a->vs[j]?=some b->eY I a b
theorem fN.nil{I:cE}:fN I [] []:=⟨rfl,Zab⟩
theorem fN.one{I:cE}{x:V}{v:V'}(h:eY I x v):fN I [x] [v]:=⟨rfl,λj a b c u=>by
 cases j with
 |zero=>simp at c u;subst c u;exact h|succ j=>simp at c⟩
theorem fN.append{I:cE}{xs ys:T2}{B vs:aZ V'}(h:fN I xs B)(k:fN I ys vs):fN I (xs++ys) (B++vs):=by refine⟨by simp[h.1,k.1],λj a b c u=>?_⟩;by_cases w:j<xs.length;rw[getElem?_append_left w]at c;rw[getElem?_append_left (by rw[<-h.1];exact w)]at u;exact h.2 j a b c u;rw[getElem?_append_right Zaa]at c;rw[getElem?_append_right (by rw[<-h.1];omega),<-h.1]at u;exact k.2 _ a b c u
theorem DM{α β:Type}{f:α->a_ β}:∀{l:aZ α}{r:aZ β},l.mapM f=some r->r.length=l.length/\∀(i:Nat)a b,l[i]?=some a->r[i]?=some b->f a=some b
 |[],r,h=>by simp only[List.mapM_nil,pure_def,ζa]at h;subst h;simp|x::l,r,h=>by simp only[List.mapM_cons,Option.bind_eq_bind,pure_def,ζg,ζa]at h;obtain⟨y,D,ys,B,rfl⟩:=h;have⟨c,z⟩:=DM B;refine⟨by simp[c],λi a b u w=>?_⟩;cases i with|zero=>simp at u w;subst u w;exact D|succ i=>exact z i a b (by simpa using u) (by simpa using w)
structure uC{H:Type}(b:DataW H->Nat):Prop where
 lit:∀l,1<=b (.lit l)
 str:∀s,s.length+1<=b (.lit (.string s))
 nil:1<=b .nil
 slice:∀es sp,(es.map b).sum+1<=b (.slice es sp)
 agg:∀ps,(ps.map b).sum+1<=b (.agg ps)
class cA(α:Type)where
 wt:α->Nat
 ok:α->Prop
instance:cA Int where
 wt _:=1
 ok n:=-9223372036854775808<=n/\n<=9223372036854775807
instance:cA X' where
 wt _:=1
 ok _:=True
instance:cA U' where
 wt s:=s.size+1
 ok s:=s.size<=maxLen
instance{α:Type}[cA α]:cA (Sl α)where
 wt s:=(s.l.map cA.wt).sum+1
 ok s:=(∀x∈s.l,cA.ok x)/\s≠.emp
class Reads(P:Program)(t:TypeId)(α:Type)[bC α][cA α]:Prop where
 size:P.cellsOf t=bC.size α
 rd:∀{H:Type}{enc:TypeId×Value->H}{w:World}{base:Nat}{spare:Nat->Bool}{held:Bool}{fuel:Nat}{cs:List Value}{d:DataW H}{ps:List MemPlace},
  trod enc P w base spare held fuel t cs=some (d,ps)->∃a:α,fN (snap w) (cells a) cs/\cA.ok a/\∀b:DataW H->Nat,uC b->cA.wt a<=b d
 shape:∀{w:World}{r:_root_.Go.Reach}{base:Nat}{v:Value},okWide P w r base t v->if bC.agg α then∃cs,v=.agg cs else v.cells=#[v]
section
variable{P:Program}
theorem sE{w:World}{r:_root_.Go.Reach}{base:Nat}{t:W'}{v:V'}{u:_}(a:P.underlying t=some u)(b:∀fs,u≠.struct fs)(B:∀n e,u≠.array n e)(h:okWide P w r base t v):v.cells=#[v]:=by cases v with|agg cs=>exfalso;unfold okWide at h;rw[a]at h;split at h;(next fs z=>cases z;exact b _ rfl);(next n e z=>cases z;exact B _ _ rfl);(unfold Cell.okWide at h;rw[a]at h;split at h<;>first|(simp at *;done)|skip);unfold Cell.ok at h;rw[a]at h;cases u<;>simp at h|_=>rfl
theorem Reads.int{t:W'}(a:P.underlying t=some (.int .i64))(c:P.cellsOf t=1):Reads P t Int where
 size:=c
 rd {H enc w base spare held z cs d ps} h:=by cases z with|zero=>simp[trod]at h|succ z=>(simp only[trod,a]at h;split at h<;>first|(simp at h;done)|skip);(next u=>cases u);rename_i k D n u;simp only[ζa,TypeDesc.int.injEq]at u;split at h;(next e=>obtain⟨rfl,B⟩:=e;subst u;cases h;exact⟨n,fN.one (.int _ n),show _/\_ by simpa[Lit.wf,IntKind.min,IntKind.max,signed,IntKind.bits]using B,λb C=>C.lit _⟩);simp at h;all_goals (rename_i u;cases u)
 shape h:=by simp only[show bC.agg Int=false from rfl];exact sE a Zab Zab h
theorem Reads.bool{t:W'}(a:P.underlying t=some .bool)(c:P.cellsOf t=1):Reads P t X' where
 size:=c
 rd {H enc w base spare held u cs d ps} h:=by cases u with|zero=>simp[trod]at h|succ u=>(simp only[trod,a]at h;split at h<;>first|(simp at h;done)|skip);(next b _=>cases h;exact⟨b,fN.one (.bool b),trivial,λb B=>B.lit _⟩);all_goals (rename_i z;cases z)
 shape h:=by simp only[show bC.agg X'=false from rfl];exact sE a Zab Zab h
theorem Reads.str{t:W'}(a:P.underlying t=some .string)(c:P.cellsOf t=1):Reads P t U' where
 size:=c
 rd {H enc w base spare held u cs d ps} h:=by cases u with|zero=>simp[trod]at h|succ u=>(simp only[trod,a]at h;split at h<;>first|(simp at h;done)|skip);(all_goals (first|(rename_i z;cases z;done)|skip));rename_i s _;split at h;(next B=>cases h;exact⟨s,fN.one (.str s),B,λb C=>C.str _⟩);simp at h
 shape h:=by simp only[show bC.agg U'=false from rfl];exact sE a Zab Zab h
theorem TW{w:World}{a:Addr}{n:Nat}{v:V'}(h:w.cell? (a.add n)=some v)(B:n=0\/True):∃c el fr,w.heap[a.block]?=some (.cells c el fr)/\c[a.off+n]?=some v/\(n=0->a.spot=none):=by
 unfold cell? Addr.add at h;by_cases b:n=0;subst b;simp only[if_true]at h;split at h;rename_i c el fr u;split at h;simp at h;rename_i z;exact⟨c,el,fr,u,h,λ_=>by simpa using z⟩;simp at h;simp only[if_neg b]at h;split at h;next c el fr u=>simp only[Option.isSome_none,false_eq_true,if_false]at h;exact⟨c,el,fr,u,h,λe=>absurd e b⟩
 simp at h
def tw(P:Program)(t:W')(α:Type)[bC α][cA α](B:Nat):Prop:=∀{H:Type}{enc:W'×V'->H}{w:World}{base:Nat}{c:Nat->X'}{e:X'}{cs:aZ V'}{d:DataW H}{ps:aZ MemPlace},trod enc P w base c e B t cs=some (d,ps)->∃a:α,fN (snap w) (cells a) cs/\cA.ok a/\∀b:DataW H->Nat,uC b->cA.wt a<=b d
theorem tw.sl {t e:TypeId} {α:Type} [bC α] [cA α] {J:Nat} (hu:P.underlying t=some (.slice e)) (ae:P.cellsOf e=bC.size α) (U:0<bC.size α) (hr:tw P e α J):tw P t (Sl α) (J+1):=by
 intro H enc w base spare held cs d ps h;simp only[DataW.trod,hu]at h;split at h <;> first|(simp at h;done)|skip
 all_goals (first|(rename_i I;cases I;done)|skip)
 .cases h;exact⟨.nil,fN.one .bO,⟨λx T=>by simp[Sl.l]at T,by simp⟩,λb W=>W.nil⟩
 rename_i e' a len cap I;cases I;split at h
 .rename_i X;obtain⟨elems,af,h⟩:=ζg.1 h;obtain⟨rest,_,h⟩:=ζf.1 h;cases h;obtain⟨Y,Z⟩:=DM af;simp only[List.length_range]at Y;have T:∀i,i<len->∃x:α,∃u:aZ Value,w.cells? base (a.add (i*P.cellsOf e)) (P.cellsOf e)=some u/\fN (snap w) (cells x) u/\cA.ok x/\∀b:DataW H->Nat,uC b->∀y,elems[i]? = some y->cA.wt x<=b y.1:=λi hi=>by
   have:=Z i i (elems[i]' Zaa) (by simp[hi]) (ζd Zaa)
   obtain⟨u,h1,L⟩:=ζg.1 this;obtain⟨x,T,hk,W⟩:=hr (show _=some ((elems[i]' Zaa).1,(elems[i]' Zaa).2)from L)
   exact⟨x,u,h1,T,hk,λb O y hy=>by
    rw[ζd Zaa]at hy;cases hy;exact W b O⟩
  have aa:∀n,n<=len->∃z:aZ α,z.length=n/\(∀i x,z[i]? = some x->∃u:aZ Value,w.cells? base (a.add (i*P.cellsOf e)) (P.cellsOf e)=some u/\fN (snap w) (cells x) u)/\(∀x∈z,cA.ok x)/\∀b:DataW H->Nat,uC b->(z.map cA.wt).sum<=(((elems.take n).map (·.1)).map b).sum:=by
   intro n
   induction n with
   | zero=>intro _;exact⟨[],rfl,by simp,by simp,by simp⟩
   | succ n ih=>
    intro hn;obtain⟨z,h1,L,h5,h6⟩:=ih Zaa
    obtain⟨x,u,h3,h4,h7,h8⟩:=T n Zaa
    refine⟨z++[x],by simp[h1],λi y hy=>?_,λy hy=>?_,λb O=>?_⟩
    rotate_left
    .rcases List.mem_append.1 hy with hy|hy
     .exact h5 y hy
     simp at hy;subst hy;exact h7
    .have k1:=h6 b O;have k2:=h8 b O _ (ζd Zaa)
     rw[List.take_succ,ζd (by omega:n<elems.length)]
     simp only[List.map_append,List.sum_append,Option.toList_some,List.map_cons,List.map_nil,List.sum_cons,List.sum_nil];omega
    by_cases hi:i<z.length
    .rw[List.getElem?_append_left hi]at hy;exact L i y hy
    rw[List.getElem?_append_right Zaa]at hy
    have:i-z.length=0:=by
     cases hk:i-z.length with
     | zero=>rfl
     | succ k=>rw[hk]at hy;simp at hy
    rw[this]at hy;simp at hy;subst hy;have:i=n:=by omega
    subst this;exact⟨u,h3,h4⟩
  obtain⟨z,C,ah,ab,ai⟩:=aa len (Nat.le_refl _);refine⟨.row z,fN.one ?_,⟨ab,by simp⟩,λb O=>?_⟩
  rotate_left
  .have k:=ai b O;rw[List.take_of_length_le Zaa]at k
   have k2:=O.slice (elems.map (·.1)) (rest.map (·.1));show (z.map cA.wt).sum+1<=_;omega
  show eY _ (.fsl (bC.size α) (rows z)) _
  cases hl:z with
  | nil=>
   subst hl;simp at C;subst C;exact .fsl0 _ _ _
  | cons x0 xr=>
   rw[<-hl];have ao:0<len:=by rw[<-C,hl];simp
   have Q:∀i x,z[i]? = some x->∀j y,(cells x)[j]? = some y->∃v,w.cell? ((a.add (i*bC.size α)).add j)=some v/\eY (snap w) y v:=by
    intro i x hi j y hy;obtain⟨u,h1,L⟩:=ah i x hi;rw[ae]at h1;unfold World.cells? at h1;split at h1
    .obtain⟨g1,g2⟩:=DM h1;have hj:j<bC.size α:=by rw[<-gI x];exact(ζe.1 hy).1
     obtain⟨v,hv⟩:∃v,u[j]? = some v:=⟨_,ζd (by rw[g1];simpa using hj)⟩
     exact⟨v,g2 j j v (by simp[hj]) hv,L.2 j y v hy hv⟩
    simp at h1
   have an:∀i j,(a.add (i*bC.size α)).add j=a.add (i*bC.size α+j)\/True:=λ_ _=>.inr trivial
   have B:∀i x,z[i]? = some x->∀j y,(cells x)[j]? = some y->∃c el fr v,w.heap[a.block]? = some (.cells c el fr)/\c[a.off+i*bC.size α+j]? = some v/\eY (snap w) y v/\(i=0->j=0->a.spot=none):=by
    intro i x hi j y hy;obtain⟨v,h1,L⟩:=Q i x hi j y hy;obtain⟨c,el,fr,g1,g2,g3⟩:=TW h1 (.inr trivial);have W:(a.add (i*bC.size α)).block=a.block:=by unfold Addr.add;split <;> rfl
    have ho:(a.add (i*bC.size α)).off=a.off+i*bC.size α:=by unfold Addr.add;split <;> simp_all
    rw[W]at g1;rw[ho]at g2;refine⟨c,el,fr,v,g1,g2,L,?_⟩;rintro rfl rfl;have:=g3 rfl;simpa [Addr.add]using this
   have aj:∃y,(cells x0)[0]? = some y:=⟨_,ζd (by rw[gI];exact U)⟩
   obtain⟨y0,ak⟩:=aj;obtain⟨c,el,fr,v0,D,_,_,G⟩:=B 0 x0 (by rw[hl];rfl) 0 y0 ak
   have G:=G rfl rfl;obtain⟨b,o,sp⟩:=a;simp only at G D;subst G;have hI:snap w b=some (.cells c):=by unfold snap;rw[D]
   have S:(rows z).length=len:=by rw[iG,C]
   rw[<-S];refine .fsl _ _ b o cap c hI (by rw[S];exact X.2.1) (λr hr=>?_) (λr hr y hy=>?_) ?_ (λi j r y v hr hy hv=>?_)
   .obtain⟨x,_,rfl⟩:=List.mem_map.1 hr;exact gI x
   .obtain⟨x,_,rfl⟩:=List.mem_map.1 hr;exact List.all_eq_true.1 (rU x) y hy
   .
    obtain⟨xl,ad⟩:∃x,z[len-1]? = some x:=⟨_,ζd Zaa⟩
    obtain⟨yl,al⟩:∃y,(cells xl)[bC.size α-1]? = some y:=⟨_,ζd (by rw[gI];omega)⟩
    obtain⟨c2,_,_,v2,k1,k2,_,_⟩:=B (len-1) xl ad (bC.size α-1) yl al;simp only at k1 k2;rw[D]at k1;cases k1;have:=(Array.getElem?_eq_some_iff.1 k2).1;rw[S];have e:len*bC.size α=(len-1)*bC.size α+bC.size α:=by
     obtain⟨m,rfl⟩:∃m,len=m+1:=⟨len-1,by omega⟩
     simp[Nat.add_mul]
    omega
   simp only[rows,List.getElem?_map,ζf]at hr;obtain⟨x,am,rfl⟩:=hr;obtain⟨c2,_,_,v2,k1,k2,k3,_⟩:=B i x am j y hy;simp only at k1 k2;rw[D]at k1;cases k1;rw[hv]at k2;cases k2;exact k3
 simp at h
theorem tw.slF{t e:W'}{α:Type}[bC α][cA α]{B:Nat}(c:P.underlying t=some (.slice e))(G:P.cellsOf e=bC.size α)(D:0<bC.size α)(i:∀g,g<B->tw P e α g):tw P t (Sl α) B:=by cases B with|zero=>intro H enc w base a b cs d ps h;simp[trod]at h|succ f=>exact tw.sl c G D (i f (Nat.lt_succ_self f))
theorem Reads.sl{t e:W'}{α:Type}[bC α][cA α][Reads P e α](a:P.underlying t=some (.slice e))(b:P.cellsOf t=1)(B:0<bC.size α):Reads P t (Sl α)where
 size:=b
 rd h:=tw.slF a (Reads.size (α:=α)) B (λ_ _{_ _ _ _ _ _ _ _ _}=>Reads.rd (P:=P) (t:=e) (α:=α)) h
 shape h:=by simp only[show bC.agg (Sl α)=false from rfl];exact sE a Zab Zab h
theorem fN.seg{I:cE}{a xs:T2}{cs:aZ V'}{o n:Nat}(h:fN I a (cs.take o))(k:fN I xs ((cs.drop o).take n)):fN I (a++xs) (cs.take (o+n)):=by rw[List.take_add];exact h.append k
theorem fN.fin{I:cE}{xs:T2}{cs:aZ V'}{n:Nat}(h:fN I xs (cs.take n))(B:cs.length=n):fN I xs cs:=by rw[take_of_length_le Zaa]at h;exact h
theorem tw.st{t:W'}{fs:Array Field}{α:Type}[bC α][cA α]{B:Nat}(i:P.underlying t=some (.struct fs))(j:P.cellsOf t=bC.size α)
 (h:∀{H:Type}{enc:W'×V'->H}{w:World}{base:Nat}{c:Nat->X'}{e:X'}{cs:aZ V'}{l:aZ (DataW H×aZ MemPlace)},cs.length=bC.size α->
  (fs.toList.mapM λf=>trod enc P w base c e B f.type ((cs.drop f.offset).take (P.cellsOf f.type)))=some l->∃a:α,fN (snap w) (cells a) cs/\cA.ok a/\∀b:DataW H->Nat,uC b->cA.wt a<=((l.map (·.1)).map b).sum+1):tw P t α (B+1):=by
 intro H enc w base c e cs d ps g;simp only[trod,i]at g;split at g<;>first|(simp at g;done)|skip
 all_goals (first|(rename_i u;cases u;done)|skip)
 rename_i C;have⟨l,k,D⟩:=ζf.1 g;cases D;have⟨a,k1,k2,k3⟩:=h (by rw[C,j]) k
 exact⟨a,k1,k2,λb z=>Nat.le_trans (k3 b z) (z.agg _)⟩
theorem Reads.of{t:W'}{fs:Array Field}{α:Type}[bC α][cA α](a:P.underlying t=some (.struct fs))(b:P.cellsOf t=bC.size α)(D:bC.agg α=true)(h:∀B,tw P t α B):Reads P t α where
 size:=b
 rd hr:=h _ hr
 shape hv:=by rw[if_pos D];unfold okWide at hv;rw[a]at hv;have⟨cs,c,_⟩:=hv;exact⟨cs,c⟩
theorem Reads.st{t:W'}{fs:Array Field}{α:Type}[bC α][cA α](g:P.underlying t=some (.struct fs))(i:P.cellsOf t=bC.size α)(D:bC.agg α=true)
 (h:∀{H:Type}{enc:W'×V'->H}{w:World}{base:Nat}{c:Nat->X'}{e:X'}{B:Nat}{cs:aZ V'}{l:aZ (DataW H×aZ MemPlace)},cs.length=bC.size α->
  (fs.toList.mapM λf=>trod enc P w base c e B f.type ((cs.drop f.offset).take (P.cellsOf f.type)))=some l->∃a:α,fN (snap w) (cells a) cs/\cA.ok a/\∀b:DataW H->Nat,uC b->cA.wt a<=((l.map (·.1)).map b).sum+1):Reads P t α:=
 Reads.of g i D λB=>by cases B with|zero=>intro H enc w base c e cs d ps h;simp[trod]at h|succ f=>exact tw.st g i h
theorem Reads.arg{t:W'}{α:Type}[bC α][cA α][Reads P t α]{H:Type}{B:W'×V'->H}{w:World}{base:Nat}{c:Nat->X'}{e:X'}{r:_root_.Go.Reach}{b:Nat}{v:V'}{d:DataW H}{ps:aZ MemPlace}
 (f:okWide P w r b t v)(h:Trod B P w base c e t v d ps):∃a:α,bN (snap w) (λ_=>none) (enc a) v/\cA.ok a/\∀b:DataW H->Nat,uC b->cA.wt a<=b d:=by
 have⟨I,h⟩:=h;have⟨a,⟨g,z⟩,D,G⟩:=Reads.rd (P:=P) (t:=t) (α:=α) h;have u:=Reads.shape (P:=P) (t:=t) (α:=α) f;refine⟨a,?_,D,G⟩
 cases C:bC.agg α with
 |true=>rw[C,if_pos rfl]at u;obtain⟨cs,rfl⟩:=u;rw[CC C];refine .c _ _ (.agg _ _ (by simpa[Value.cells]using g) (λj x y J L=>z j x y J (by simpa[Value.cells]using L)))|false=>rw[C]at u;simp only[false_eq_true,if_false]at u;rw[u]at z;rw[v8 C]at z;exact .c _ _ (z 0 _ _ rfl rfl)
end
end Go.VE
namespace Go.VE
variable[b7]
open Go.ChangeShapes Go.WideShapes Go.ChangeAt Go.RowKit
structure K1(w w':World):Prop where
 kept:w.keptBut w' (λ_=>False)
 fz:∀a:Addr,a.block<w.heap.size->w'.frozen? a=w.frozen? a
theorem Ik{I I':cE}{μ':Mu}{H':bp}{w w':World}(s:Step I (λ_=>none) [] w I' μ' H' w'):K1 w w':=by
 have B:∀b,b<w.heap.size->w'.heap[b]?=w.heap[b]?:=λb z=>s.frame b z (by rintro⟨id,p,ob,h,_⟩;simp at h);refine⟨⟨s.os,s.out.out,λi hi=>?_⟩,λa z=>?_⟩;rw[B i hi];split;next c u=>rw[c]at u;cases u;exact⟨rfl,rfl,rfl,λ_ _=>rfl⟩
 next c u=>rw[c]at u;cases u;exact .inr ⟨rfl,rfl⟩
 rfl;unfold World.frozen?;rw[B _ z]
theorem I_{P:Program}{call:dL}(a:l_ P call){f:Y'}{args:T2}{b:X'}{H':bp}(h:call (.fn f) args []=some (.bool b,H')){w:World}{vs:aZ V'}
 (D:vv (snap w))(d:cT (snap w) (λ_=>none) args vs):Calls P f vs.toArray w λe w'=>e=.returned (.bool b)/\K1 w w':=by
 intro cs;have k:=((a.fn f args [] _ H' h).2 (snap w) (λ_=>none) w vs (Tq D) d)
 obtain⟨e,w',fr,⟨u,I',μ',rfl,g,_,C⟩,z,i,G⟩:=k.2 cs (by simp[Fence.room,fr])
 refine⟨_,w',fr,⟨?_,Ik C⟩,z.comes,i,G⟩
 cases g with
 |c _ _ B=>cases B;rfl
variable{P:Program}{H:Type}{enc:W'×V'->H}
theorem Iq{B:aZ W'}{vs:aZ V'}{ds:aZ (DataW H)}{ps:aZ MemPlace}{w w':World}(e:K1 w w')(h:TrodAll enc P w 0 (λ_=>true) true B vs ds ps):TrodAll enc P w' 0 (λ_=>true) true B vs ds ps:=by
 have z:∀p:MemPlace,p.block<w.heap.size->w.sameAt w' p:=by intro p C;have k:=e.kept.2.2 p.block C;cases p with|cell b off=>simp only[sameAt,cell?];simp only[MemPlace.block]at k C;split at k;rename_i c t fr c' G D a u;rw[a,u];simp only;have:=k.2.2.2 off (λx=>x);simpa using this;(next a u=>rw[a,u]);rw[k]|map b=>simp only[sameAt];simp only[MemPlace.block]at k C;split at k;rename_i c t fr c' G D a u;obtain⟨rfl,rfl,O,I⟩:=k;rw[a,u];have:c'=c:=Array.ext_getElem? λi=>I i (λx=>x);rw[this];rename_i a u;rcases k with k|⟨rfl,rfl⟩;exact k.elim;rw[a,u];exact k
 induction B generalizing vs ds ps with|nil=>cases vs<;>cases ds<;>simp_all [TrodAll]|cons t B J=>cases vs with|nil=>simp[TrodAll]at h|cons v vs=>cases ds with|nil=>simp[TrodAll]at h|cons d ds=>obtain⟨p,q,⟨n,a⟩,u,rfl⟩:=h;exact⟨p,q,⟨n,DataW.trod_carry n _ _ _ a λx L=>z x (DataW.trod_lt n _ _ _ a x L)⟩,J u,rfl⟩
theorem P9{T:W'->Prop}(K:Kids P T)(m:∀t e,T t->P.underlying t=some (.slice e)->0<P.cellsOf e){f:Func}{s:ChangeSpec}{apart c a d:X'}{W G:World}{args:Array V'}{ds i:aZ (DataW H)}{before:aZ MemPlace}{tb:W'}
 (n:∀t∈f.params.toList,T t)(B:s.vars=[])(D:s.fn H (ds++i)={results:=[.lit (.bool true)],args:=ds})(J:f.resultTypes=#[tb])(U:P.underlying tb=some .bool)
 (Y:DataW.Whole enc P f.params.toList s.vars apart W args.toList ds i before)(g:K1 W G):s.post enc P f apart c a d W args (.bool true) G:=by
 have z:=Y;obtain⟨p,q,X,j,rfl,L,O⟩:=Y;rw[B]at j;obtain⟨rfl,rfl⟩:=trodVars_none j;have k:∀(b:Nat)(w:Nat->X')(hd:X'),TrodAll enc P G b w hd f.resultTypes.toList ((Value.bool true).resultList f.resultTypes.size) (s.fn H (ds++[])).results []:=λ_ _ _=>by rw[J,D];exact trodAll_cons_mk (shut_bool U _) trodAll_mk0
 have S:∀w:Nat->X',(∀x∈p++[],w x.block=true)->TrodAll enc P G 0 w true f.params.toList args.toList (s.fn H (ds++[])).args p:=λw Q=>by rw[D];exact TrodAll.respare K m n (Iq g X) (λx u=>Q x (List.mem_append_left _ u))
 have l:∀w:Nat->X',DataW.TrodVars enc P G w s.vars (s.fn H (ds++[])).vars []:=λw=>by rw[D,B];rfl
 have C:=λx u=>z.lt x u
 refine⟨ds,[],p++[],[],p,[],z,k _ _ _,S _ λx u=>by simpa using C x u,l _,World.keptBut_mono (λx u=>u.elim) g.kept,λ_=>⟨ok_one J rfl (okWide_bool_mk U _),?_⟩⟩
 refine⟨_,_,[]++p++[],⟨[]++p,[],trodAll_append (S _ λ_ _=>rfl) (k _ _ _),l _,rfl,λb off u=>?_,λh=>by simpa using O h⟩,λx u _=>by simpa using u⟩
 have I:MemPlace.cell b off∈p++[]:=by simpa using u
 rw[g.fz _ (C _ I)];exact L b off I
end Go.VE
namespace Go.VE
variable[b7]
instance:cA U8 where
 wt _:=1
 ok n:=0<=n.v/\n.v<=255
theorem Reads.u8{P:Program}{t:W'}(a:P.underlying t=some (.int .u8))(c:P.cellsOf t=1):Reads P t U8 where
 size:=c
 rd {H enc w base spare held z cs d ps} h:=by cases z with|zero=>simp[trod]at h|succ z=>(simp only[trod,a]at h;split at h<;>first|(simp at h;done)|skip);(next u=>cases u);rename_i k D n u;simp only[ζa,TypeDesc.int.injEq]at u;split at h;(next e=>obtain⟨rfl,B⟩:=e;subst u;cases h;exact⟨⟨n⟩,fN.one (.int _ n),show _/\_ by simpa[Lit.wf,IntKind.min,IntKind.max,signed,IntKind.bits]using B,λb C=>C.lit _⟩);simp at h;all_goals (rename_i u;cases u)
 shape h:=by simp only[show bC.agg U8=false from rfl];exact sE a Zab Zab h
theorem Ou{m:Tb bM}{n:Nat}{rs:So}{b:X'}(h:c9 m n rs=some [.bool b]):rs=[.v (.bool b)]:=by
 cases rs with
 |nil=>cases n<;>simp[c9]at h|cons x r=>
  have c:shut m n x=some (.bool b)/\c9 m n r=some []:=by unfold c9 at h;split at h;(next y s c w=>simp only[ζa,List.cons.injEq]at h;obtain⟨rfl,rfl⟩:=h;exact⟨c,w⟩);cases h
  have w:r=[]:=by cases r with|nil=>rfl|cons y r=>have:=c.2;unfold c9 at this;split at this<;>simp at this
  subst w;have u:=c.1
  cases x with
  |v y=>unfold shut at u;simp only[ζa]at u;rw[u]|own d=>unfold shut at u;split at u<;>simp only[ζa,reduceCtorEq]at u;rename_i k es B _;cases k<;>simp[o9]at u|ptr d o=>cases n with|zero=>simp[shut]at u|succ n=>(unfold shut at u;split at u<;>try cases u);(split at u<;>try cases u);split at u<;>cases u
  |mp d=>unfold shut at u;split at u<;>cases u|clo f a b=>cases n with|zero=>simp[shut]at u|succ n=>unfold shut at u;split at u<;>cases u
  |tup l=>cases n with|zero=>simp[shut]at u|succ n=>unfold shut at u;have⟨_,_,z⟩:=ζf.1 u;cases z
  |_=>cases n<;>simp[shut]at u
theorem RZ{S:Sys}{T:qY}(B:rR S T)(D:∀f a b xs,S.items f a b=some xs->eT S f a b xs){f:Y'}{xs:T2}(c:V.cH xs=true)(h:jT (dg S T) f xs=some [.bool true]):
 ∃n H',run S.E n (.fn f) xs []=some (.bool true,H'):=by
 unfold jT at h;have⟨⟨rs,m⟩,d,u⟩:=ζg.1 h;have:=Ou u;simp only at this;subst this;exact Vp B D c d rfl
theorem OD{S:Sys}{T:qY}{P:Program}(B:rR S T)(D:∀f a b xs,S.items f a b=some xs->eT S f a b xs)(c:∀n,l_ P (run S.E n)){f:Y'}{xs:T2}(d:V.cH xs=true)(h:jT (dg S T) f xs=some [.bool true])
 {w:World}{args:Array V'}(G:vv (snap w))(g:cT (snap w) (λ_=>none) xs args.toList):Calls P f args w λe w'=>e=.returned (.bool true)/\K1 w w':=by
 have⟨n,H',i⟩:=RZ B D d h;have:=I_ (c n) i G g;simpa using this
theorem Reads.Ur{P:Program}{t:W'}{α:Type}[bC α][cA α][Reads P t α]{H:Type}{B:W'×V'->H}{w:World}{base b:Nat}{c:Nat->X'}{e:X'}{v:V'}{d:DataW H}{ps:aZ MemPlace}{params:Array W'}{args:Array V'}(D:∀(j:Nat)t v,params[j]?=some t->args[j]?=some v->okWide P w .any b t v)(j:Nat)(f:params[j]?=some t)(G:args[j]?=some v)(h:Trod B P w base c e t v d ps):∃a:α,bN (snap w) (λ_=>none) (enc a) v/\cA.ok a/\∀b:DataW H->Nat,uC b->cA.wt a<=b d:=Reads.arg (D j t v f G) h
end Go.VE
namespace Go.VE
theorem Sr{w:World}{g:Nat}{l:ST}(h:∀i,i<l.length->w.cell? ⟨g,i,none⟩=some (.int .i64 (l.getD i 0)))(e:0<l.length):eY (snap w) (.fptr (l.map (V.int .i64))) (.pointer (some ⟨g,0,none⟩)):=by
 have a:=h 0 e;unfold cell? at a;split at a;rename_i c t fr u;have D:snap w g=some (.cells c):=by unfold snap;simp only at u;rw[u]
 have d:∀i,w.cell? ⟨g,i,none⟩=c[i]?:=λi=>by unfold cell?;simp only at u⊢;rw[u];rfl
 refine .fptr _ _ _ c D ?_ ?_;rw[zero_add,length_map];have:=h (l.length-1) Zaa;rw[d]at this;have:=(Array.getElem?_eq_some_iff.1 this).1;omega;intro j y v B b;rw[zero_add,<-d]at b;rw[getElem?_map]at B;obtain⟨z,C,rfl⟩:=ζf.1 B;have G:=(ζe.1 C).1;rw[h j G]at b;cases b;have:l.getD j 0=z:=by simp[List.getD,C]
 rw[this];exact .int _ _;cases a
variable[b7]
theorem cF(n:Nat)(h:n<9223372036854775807):wrap .i64 ((n:Int)+1)=((n+1:Nat):Int):=by simp[wrap,IntKind.bits,signed];omega
theorem eG(n:Int)(a:-9223372036854775808<=n)(B:n<=9223372036854775807):wrap .i64 n=n:=by simp[wrap,IntKind.bits,signed];omega
section
variable{α β:Type}{P:β->Prop}
theorem kD(s:Sl α)(i:Nat):idx s (i:Int)=s.l[i]?:=by unfold idx;rw[if_pos Zaa];rfl
theorem bJ{s:Sl α}{i:Nat}(h:i<s.l.length):idx s (i:Int)=some s.l[i]:=by rw[kD,ζd h]
theorem RH{s:Sl α}{i:Int}(a:0<=i):idx s i=s.l[i.toNat]?:=by unfold idx;rw[if_pos a]
theorem tV(s:Sl α)(i:Nat)(h:i<=s.l.length):∃x,fZ s none (some (i:Int))=some x/\x.l=s.l.take i:=by unfold fZ ey;simp only[Option.getD_none,getD_some];rw[if_pos Zaa];cases s<;>simp[Sl.l]at h⊢ <;>simp[h]
theorem bH{γ:Type}{a b:γ}:bl true a b=a:=rfl
theorem bE{γ:Type}{a b:γ}:bl false a b=b:=rfl
theorem nP(a b:X'):bl a (some b) (some false)=some (a&&b):=by cases a<;>rfl
theorem mH(a b:X'):bl a (some true) (some b)=some (a||b):=by cases a<;>rfl
theorem uX(a:X')(x y:β):bl a (some x) (some y)=some (if a then x else y):=by cases a<;>rfl
end
def place{α:Type}(f:α->X')(l:aZ α):Int:=match l.findIdx? f with
 |some i=>i|none=>-1
theorem B2{α:Type}{f:α->X'}{l:aZ α}{i:Nat}(h:∀j,j<i->∀x,l[j]?=some x->f x=false)(hi:l.length<=i):l.findIdx? f=none:=by rw[List.findIdx?_eq_none_iff];intro x w;have⟨j,u⟩:=getElem?_of_mem w;have:j<l.length:=(ζe.1 u).1;exact h j Zaa x u
theorem LI{α:Type}{f:α->X'}{l:aZ α}{i:Nat}{x:α}(h:∀j,j<i->∀x,l[j]?=some x->f x=false)(B:l[i]?=some x)(D:f x=true):l.findIdx? f=some i:=by rw[List.findIdx?_eq_some_iff_getElem];obtain⟨hi,rfl⟩:=ζe.1 B;exact⟨hi,D,λj u=>by rw[h j u _ (ζd Zaa)];simp⟩
theorem vN{α:Type}{step:Int->a_ (Fw Int Unit Int)}{s:Sl α}{p:α->a_ X'}{f:α->X'}(hp:∀x∈s.l,p x=some (f x))(U:s.l.length<9223372036854775807)
 (J:∀i,step i=bl (decide (i<len s)) ((idx s i).bind λB=>(p B).bind λD=>bl D (some (.r i)) (some (.n (wrap .i64 (i+1))))) (some (.x ()))):
 (bW step 0).bind (Fw.elim (λ_=>some (-1)) (λe=>some e))=some (place f s.l):=by
 refine Wp.eq (fT (λi:Int=>∃n:Nat,i=n/\n<=s.l.length/\∀j,j<n->∀x,s.l[j]?=some x->f x=false) (λi:Int=>s.l.length-i.toNat) ⟨0,rfl,zero_le _,λj I=>absurd I Zaa⟩ ?_)
 rintro i ⟨n,rfl,L,w⟩;rw[J,ck];refine⟨λh=>?_,λh=>?_⟩
 .have u:n<s.l.length:=by simpa[len]using h
  rw[bJ u,ζb,hp _ (getElem_mem u),ζb,ck];refine⟨λz=>?_,λz=>?_⟩
  .rw[bg];show Wp (some (n:Int)) _;rw[bg];unfold place;rw[LI w (ζd u) z]
  rw[bg];refine⟨⟨n+1,cF n Zaa,Zaa,λj I x C=>?_⟩,?_⟩
  .by_cases e:j=n
   .subst e;rw[ζd u]at C;cases C;exact z
   exact w j Zaa x C
  rw[cF n Zaa];simp;omega
 have G:s.l.length<=n:=by simpa[len]using h
 rw[bg];show Wp (some (-1:Int)) _;rw[bg];unfold place;rw[B2 w G]
theorem we{α:Type}(f:α->X')(l:aZ α):decide (place f l>=0)=l.any f:=by unfold place;cases h:l.findIdx? f with|none=>rw[List.findIdx?_eq_none_iff]at h;have:l.any f=false:=(by rw[List.any_eq_false];intro x u;simp[h x u]);rw[this];rfl|some i=>have⟨hi,w,_⟩:=List.findIdx?_eq_some_iff_getElem.1 h;have:l.any f=true:=List.any_eq_true.2 ⟨_,getElem_mem hi,w⟩;rw[this];simp
theorem SG{α σ ε ρ:Type}{step:α->σ->a_ (Fw σ ε ρ)}{l:aZ α}(I:Nat->σ->Prop)(D:ε->Prop)(G:ρ->Prop){s:σ}(c:I 0 s)
 (h:∀i a s,l[i]?=some a->I i s->Wp (step a s) λw=>match w with|.n B=>I (i+1) B|.x e=>D e|.r b=>G b):
 Wp (lE step l s) λw=>match w with|.n B=>I l.length B|.x e=>D e|.r b=>G b:=by
 have key:∀(r:aZ α)(i:Nat)(s:σ),l.drop i=r->i<=l.length->I i s->Wp (lE step r s) λw=>match w with|.n B=>I l.length B|.x e=>D e|.r b=>G b:=by intro r;induction r with|nil=>intro i s hd hi z;have:i=l.length:=(by have:=List.drop_eq_nil_iff.1 hd;omega);subst this;exact⟨_,rfl,z⟩|cons a r J=>intro i s hd hi z;have u:i<l.length:=(by apply Classical.byContradiction;intro Q;rw[List.drop_eq_nil_of_le Zaa]at hd;cases hd);have L:=List.drop_eq_getElem_cons u;rw[L]at hd;simp only[List.cons.injEq]at hd;have⟨w,O,C⟩:=h i a s (by rw[ζd u,hd.1]) z;simp only[lE,O,ζb];cases w with|n B=>exact J (i+1) B hd.2 Zaa C|x e=>exact⟨_,rfl,C⟩|r b=>exact⟨_,rfl,C⟩
 exact key l 0 s rfl (zero_le _) c
theorem zz{α σ ε ρ γ:Type}{step:α->σ->a_ (Fw σ ε ρ)}{l:aZ α}{fn:σ->a_ γ}{B:ε->a_ γ}{fr:ρ->a_ γ}{P:γ->Prop}(I:Nat->σ->Prop){s:σ}(c:I 0 s)
 (h:∀i a s,l[i]?=some a->I i s->Wp (step a s) λw=>match w with|.n D=>I (i+1) D|.x e=>Wp (B e) P|.r b=>Wp (fr b) P)
 (G:∀s,I l.length s->Wp (fn s) P):Wp ((lE step l s).bind (Fw.rI fn B fr)) P:=by
 rw[d_];refine(SG I _ _ c h).mono ?_;intro w u
 cases w with
 |n s=>exact G s u|x e=>exact u|r b=>exact u
end Go.VE
